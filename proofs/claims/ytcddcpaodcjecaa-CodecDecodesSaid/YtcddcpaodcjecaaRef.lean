import Derived.Test.YtcddcpaodcjecaaSame
import Derived.Test.YtcddcpaodcjecaaFork
namespace Go.Proofs.Ytcddcpaodcjecaa
open Go Go.E
set_option linter.unusedVariables false
set_option linter.unusedSimpArgs false
set_option linter.unnecessarySimpa false
set_option maxRecDepth 100000
set_option maxHeartbeats 2000000
-- squeezed
structure Edge where
  policy : Int
  fill : Int
  deriving DecidableEq
def encEdge (x : Edge) : List Value := [.int .i64 x.policy, .int .i64 x.fill]
theorem r7_isw (W w : World) (H : Chunk) (F : List Chunk) (x : Int) (hS : Sat W w (H :: F)) :
  Calls Try.prog 94 #[I x] w fun e w' => e = .returned (.bool (decide ((-32767 : Int) ≤ x ∧ x ≤ (32767 : Int)))) ∧ Sat W w' (H :: F) := by
 refine callsE (n := 9) Try.func94 rfl rfl (Nat.le_of_ble_eq_true rfl) ?_
 refine sR <| pu1 <| nT <| sR <| pu3 ?_
 by_cases a0 : (x : Int) ≥ (-32767)
 rotate_left
 ·refine sFix 5 _ false (decide_eq_false a0) ?_
  refine pu4 <| nT <| retE <| retT [.bool false] ?_
  change Sat _ _ (H :: F) at hS
  refine ⟨congrArg (fun b => Ending.returned (.bool b)) ?_, hS⟩
  first | rfl | (rw [Bool.eq_iff_iff]; simp only [decide_eq_true_eq, beq_iff_eq, bne_iff_ne, ne_eq, Bool.not_eq_true', decide_eq_false_iff_not, true_iff, false_iff, iff_true, iff_false, Bool.false_eq_true, Bool.and_eq_true, Bool.or_eq_true, gt_iff_lt, ge_iff_le] <;> omega) | (rw [Bool.eq_iff_iff]; simp [*] <;> omega) | (simp_all; done)
 refine sFix 5 _ true (decide_eq_true a0) ?_
 refine pu4 <| nT <| retE <| retT [.bool (decide ((x : Int) ≤ 32767))] ?_
 change Sat _ _ (H :: F) at hS
 refine ⟨congrArg (fun b => Ending.returned (.bool b)) ?_, hS⟩
 first | rfl | (rw [Bool.eq_iff_iff]; simp only [decide_eq_true_eq, beq_iff_eq, bne_iff_ne, ne_eq, Bool.not_eq_true', decide_eq_false_iff_not, true_iff, false_iff, iff_true, iff_false, Bool.false_eq_true, Bool.and_eq_true, Bool.or_eq_true, gt_iff_lt, ge_iff_le] <;> omega) | (rw [Bool.eq_iff_iff]; simp [*] <;> omega) | (simp_all; done)
theorem r7_iss (W w : World) (H : Chunk) (F : List Chunk) (x : Int) (hS : Sat W w (H :: F)) :
  Calls Try.prog 86 #[I x] w fun e w' => e = .returned (.bool (decide ((0 : Int) ≤ x ∧ x ≤ (24 : Int)))) ∧ Sat W w' (H :: F) := by
 refine callsE (n := 9) Try.func86 rfl rfl (Nat.le_of_ble_eq_true rfl) ?_
 refine sR <| pu1 <| nT <| sR <| pu3 ?_
 by_cases a0 : (x : Int) ≥ 0
 rotate_left
 ·refine sFix 5 _ false (decide_eq_false a0) ?_
  refine pu4 <| nT <| retE <| retT [.bool false] ?_
  change Sat _ _ (H :: F) at hS
  refine ⟨congrArg (fun b => Ending.returned (.bool b)) ?_, hS⟩
  first | rfl | (rw [Bool.eq_iff_iff]; simp only [decide_eq_true_eq, beq_iff_eq, bne_iff_ne, ne_eq, Bool.not_eq_true', decide_eq_false_iff_not, true_iff, false_iff, iff_true, iff_false, Bool.false_eq_true, Bool.and_eq_true, Bool.or_eq_true, gt_iff_lt, ge_iff_le] <;> omega) | (rw [Bool.eq_iff_iff]; simp [*] <;> omega) | (simp_all; done)
 refine sFix 5 _ true (decide_eq_true a0) ?_
 refine pu4 <| nT <| retE <| retT [.bool (decide ((x : Int) ≤ 24))] ?_
 change Sat _ _ (H :: F) at hS
 refine ⟨congrArg (fun b => Ending.returned (.bool b)) ?_, hS⟩
 first | rfl | (rw [Bool.eq_iff_iff]; simp only [decide_eq_true_eq, beq_iff_eq, bne_iff_ne, ne_eq, Bool.not_eq_true', decide_eq_false_iff_not, true_iff, false_iff, iff_true, iff_false, Bool.false_eq_true, Bool.and_eq_true, Bool.or_eq_true, gt_iff_lt, ge_iff_le] <;> omega) | (rw [Bool.eq_iff_iff]; simp [*] <;> omega) | (simp_all; done)
theorem r7_acc (W w : World) (H : Chunk) (F : List Chunk) (x : Int) (hS : Sat W w (H :: F)) :
  Calls Try.prog 96 #[I x] w fun e w' => e = .returned (.bool (decide ((-17592186044416 : Int) ≤ x ∧ x ≤ (17592186044416 : Int)))) ∧ Sat W w' (H :: F) := by
 refine callsE (n := 9) Try.func96 rfl rfl (Nat.le_of_ble_eq_true rfl) ?_
 refine sR <| pu1 <| nT <| sR <| pu3 ?_
 by_cases a0 : (x : Int) ≥ (-17592186044416)
 rotate_left
 ·refine sFix 5 _ false (decide_eq_false a0) ?_
  refine pu4 <| nT <| retE <| retT [.bool false] ?_
  change Sat _ _ (H :: F) at hS
  refine ⟨congrArg (fun b => Ending.returned (.bool b)) ?_, hS⟩
  first | rfl | (rw [Bool.eq_iff_iff]; simp only [decide_eq_true_eq, beq_iff_eq, bne_iff_ne, ne_eq, Bool.not_eq_true', decide_eq_false_iff_not, true_iff, false_iff, iff_true, iff_false, Bool.false_eq_true, Bool.and_eq_true, Bool.or_eq_true, gt_iff_lt, ge_iff_le] <;> omega) | (rw [Bool.eq_iff_iff]; simp [*] <;> omega) | (simp_all; done)
 refine sFix 5 _ true (decide_eq_true a0) ?_
 refine pu4 <| nT <| retE <| retT [.bool (decide ((x : Int) ≤ 17592186044416))] ?_
 change Sat _ _ (H :: F) at hS
 refine ⟨congrArg (fun b => Ending.returned (.bool b)) ?_, hS⟩
 first | rfl | (rw [Bool.eq_iff_iff]; simp only [decide_eq_true_eq, beq_iff_eq, bne_iff_ne, ne_eq, Bool.not_eq_true', decide_eq_false_iff_not, true_iff, false_iff, iff_true, iff_false, Bool.false_eq_true, Bool.and_eq_true, Bool.or_eq_true, gt_iff_lt, ge_iff_le] <;> omega) | (rw [Bool.eq_iff_iff]; simp [*] <;> omega) | (simp_all; done)
theorem r9_side (W w : World) (H : Chunk) (F : List Chunk) (x : Int) (hS : Sat W w (H :: F)) :
  Calls Try.prog 84 #[I x] w fun e w' => e = .returned (.bool (decide ((1 : Int) ≤ x ∧ x ≤ (9 : Int)))) ∧ Sat W w' (H :: F) := by
 refine callsE (n := 9) Try.func84 rfl rfl (Nat.le_of_ble_eq_true rfl) ?_
 refine sR <| pu1 <| nT <| sR <| pu3 ?_
 by_cases a0 : (x : Int) ≥ 1
 rotate_left
 ·refine sFix 5 _ false (decide_eq_false a0) ?_
  refine pu4 <| nT <| retE <| retT [.bool false] ?_
  change Sat _ _ (H :: F) at hS
  refine ⟨congrArg (fun b => Ending.returned (.bool b)) ?_, hS⟩
  first | rfl | (rw [Bool.eq_iff_iff]; simp only [decide_eq_true_eq, beq_iff_eq, bne_iff_ne, ne_eq, Bool.not_eq_true', decide_eq_false_iff_not, true_iff, false_iff, iff_true, iff_false, Bool.false_eq_true, Bool.and_eq_true, Bool.or_eq_true, gt_iff_lt, ge_iff_le] <;> omega) | (rw [Bool.eq_iff_iff]; simp [*] <;> omega) | (simp_all; done)
 refine sFix 5 _ true (decide_eq_true a0) ?_
 refine pu4 <| nT <| retE <| retT [.bool (decide ((x : Int) ≤ 9))] ?_
 change Sat _ _ (H :: F) at hS
 refine ⟨congrArg (fun b => Ending.returned (.bool b)) ?_, hS⟩
 first | rfl | (rw [Bool.eq_iff_iff]; simp only [decide_eq_true_eq, beq_iff_eq, bne_iff_ne, ne_eq, Bool.not_eq_true', decide_eq_false_iff_not, true_iff, false_iff, iff_true, iff_false, Bool.false_eq_true, Bool.and_eq_true, Bool.or_eq_true, gt_iff_lt, ge_iff_le] <;> omega) | (rw [Bool.eq_iff_iff]; simp [*] <;> omega) | (simp_all; done)
theorem r9_value (W w : World) (H : Chunk) (F : List Chunk) (x : Int) (hS : Sat W w (H :: F)) :
  Calls Try.prog 87 #[I x] w fun e w' => e = .returned (.bool (decide ((1 : Int) ≤ x ∧ x ≤ (4294967296 : Int)))) ∧ Sat W w' (H :: F) := by
 refine callsE (n := 9) Try.func87 rfl rfl (Nat.le_of_ble_eq_true rfl) ?_
 refine sR <| pu1 <| nT <| sR <| pu3 ?_
 by_cases a0 : (x : Int) ≥ 1
 rotate_left
 ·refine sFix 5 _ false (decide_eq_false a0) ?_
  refine pu4 <| nT <| retE <| retT [.bool false] ?_
  change Sat _ _ (H :: F) at hS
  refine ⟨congrArg (fun b => Ending.returned (.bool b)) ?_, hS⟩
  first | rfl | (rw [Bool.eq_iff_iff]; simp only [decide_eq_true_eq, beq_iff_eq, bne_iff_ne, ne_eq, Bool.not_eq_true', decide_eq_false_iff_not, true_iff, false_iff, iff_true, iff_false, Bool.false_eq_true, Bool.and_eq_true, Bool.or_eq_true, gt_iff_lt, ge_iff_le] <;> omega) | (rw [Bool.eq_iff_iff]; simp [*] <;> omega) | (simp_all; done)
 refine sFix 5 _ true (decide_eq_true a0) ?_
 refine pu4 <| nT <| retE <| retT [.bool (decide ((x : Int) ≤ 4294967296))] ?_
 change Sat _ _ (H :: F) at hS
 refine ⟨congrArg (fun b => Ending.returned (.bool b)) ?_, hS⟩
 first | rfl | (rw [Bool.eq_iff_iff]; simp only [decide_eq_true_eq, beq_iff_eq, bne_iff_ne, ne_eq, Bool.not_eq_true', decide_eq_false_iff_not, true_iff, false_iff, iff_true, iff_false, Bool.false_eq_true, Bool.and_eq_true, Bool.or_eq_true, gt_iff_lt, ge_iff_le] <;> omega) | (rw [Bool.eq_iff_iff]; simp [*] <;> omega) | (simp_all; done)
theorem r12_bins (W w : World) (H : Chunk) (F : List Chunk) (x : Int) (hS : Sat W w (H :: F)) :
  Calls Try.prog 81 #[I x] w fun e w' => e = .returned (.bool (decide ((1 : Int) ≤ x ∧ x ≤ (128 : Int)))) ∧ Sat W w' (H :: F) := by
 refine callsE (n := 9) Try.func81 rfl rfl (Nat.le_of_ble_eq_true rfl) ?_
 refine sR <| pu1 <| nT <| sR <| pu3 ?_
 by_cases a0 : (x : Int) ≥ 1
 rotate_left
 ·refine sFix 5 _ false (decide_eq_false a0) ?_
  refine pu4 <| nT <| retE <| retT [.bool false] ?_
  change Sat _ _ (H :: F) at hS
  refine ⟨congrArg (fun b => Ending.returned (.bool b)) ?_, hS⟩
  first | rfl | (rw [Bool.eq_iff_iff]; simp only [decide_eq_true_eq, beq_iff_eq, bne_iff_ne, ne_eq, Bool.not_eq_true', decide_eq_false_iff_not, true_iff, false_iff, iff_true, iff_false, Bool.false_eq_true, Bool.and_eq_true, Bool.or_eq_true, gt_iff_lt, ge_iff_le] <;> omega) | (rw [Bool.eq_iff_iff]; simp [*] <;> omega) | (simp_all; done)
 refine sFix 5 _ true (decide_eq_true a0) ?_
 refine pu4 <| nT <| retE <| retT [.bool (decide ((x : Int) ≤ 128))] ?_
 change Sat _ _ (H :: F) at hS
 refine ⟨congrArg (fun b => Ending.returned (.bool b)) ?_, hS⟩
 first | rfl | (rw [Bool.eq_iff_iff]; simp only [decide_eq_true_eq, beq_iff_eq, bne_iff_ne, ne_eq, Bool.not_eq_true', decide_eq_false_iff_not, true_iff, false_iff, iff_true, iff_false, Bool.false_eq_true, Bool.and_eq_true, Bool.or_eq_true, gt_iff_lt, ge_iff_le] <;> omega) | (rw [Bool.eq_iff_iff]; simp [*] <;> omega) | (simp_all; done)
theorem r8_side (W w : World) (H : Chunk) (F : List Chunk) (x : Int) (hS : Sat W w (H :: F)) :
  Calls Try.prog 76 #[I x] w fun e w' => e = .returned (.bool (decide ((1 : Int) ≤ x ∧ x ≤ (128 : Int)))) ∧ Sat W w' (H :: F) := by
 refine callsE (n := 9) Try.func76 rfl rfl (Nat.le_of_ble_eq_true rfl) ?_
 refine sR <| pu1 <| nT <| sR <| pu3 ?_
 by_cases a0 : (x : Int) ≥ 1
 rotate_left
 ·refine sFix 5 _ false (decide_eq_false a0) ?_
  refine pu4 <| nT <| retE <| retT [.bool false] ?_
  change Sat _ _ (H :: F) at hS
  refine ⟨congrArg (fun b => Ending.returned (.bool b)) ?_, hS⟩
  first | rfl | (rw [Bool.eq_iff_iff]; simp only [decide_eq_true_eq, beq_iff_eq, bne_iff_ne, ne_eq, Bool.not_eq_true', decide_eq_false_iff_not, true_iff, false_iff, iff_true, iff_false, Bool.false_eq_true, Bool.and_eq_true, Bool.or_eq_true, gt_iff_lt, ge_iff_le] <;> omega) | (rw [Bool.eq_iff_iff]; simp [*] <;> omega) | (simp_all; done)
 refine sFix 5 _ true (decide_eq_true a0) ?_
 refine pu4 <| nT <| retE <| retT [.bool (decide ((x : Int) ≤ 128))] ?_
 change Sat _ _ (H :: F) at hS
 refine ⟨congrArg (fun b => Ending.returned (.bool b)) ?_, hS⟩
 first | rfl | (rw [Bool.eq_iff_iff]; simp only [decide_eq_true_eq, beq_iff_eq, bne_iff_ne, ne_eq, Bool.not_eq_true', decide_eq_false_iff_not, true_iff, false_iff, iff_true, iff_false, Bool.false_eq_true, Bool.and_eq_true, Bool.or_eq_true, gt_iff_lt, ge_iff_le] <;> omega) | (rw [Bool.eq_iff_iff]; simp [*] <;> omega) | (simp_all; done)
theorem r8_first (W w : World) (H : Chunk) (F : List Chunk) (x : Int) (hS : Sat W w (H :: F)) :
  Calls Try.prog 98 #[I x] w fun e w' => e = .returned (.bool (decide ((-128 : Int) ≤ x ∧ x ≤ (256 : Int)))) ∧ Sat W w' (H :: F) := by
 refine callsE (n := 9) Try.func98 rfl rfl (Nat.le_of_ble_eq_true rfl) ?_
 refine sR <| pu1 <| nT <| sR <| pu3 ?_
 by_cases a0 : (x : Int) ≥ (-128)
 rotate_left
 ·refine sFix 5 _ false (decide_eq_false a0) ?_
  refine pu4 <| nT <| retE <| retT [.bool false] ?_
  change Sat _ _ (H :: F) at hS
  refine ⟨congrArg (fun b => Ending.returned (.bool b)) ?_, hS⟩
  first | rfl | (rw [Bool.eq_iff_iff]; simp only [decide_eq_true_eq, beq_iff_eq, bne_iff_ne, ne_eq, Bool.not_eq_true', decide_eq_false_iff_not, true_iff, false_iff, iff_true, iff_false, Bool.false_eq_true, Bool.and_eq_true, Bool.or_eq_true, gt_iff_lt, ge_iff_le] <;> omega) | (rw [Bool.eq_iff_iff]; simp [*] <;> omega) | (simp_all; done)
 refine sFix 5 _ true (decide_eq_true a0) ?_
 refine pu4 <| nT <| retE <| retT [.bool (decide ((x : Int) ≤ 256))] ?_
 change Sat _ _ (H :: F) at hS
 refine ⟨congrArg (fun b => Ending.returned (.bool b)) ?_, hS⟩
 first | rfl | (rw [Bool.eq_iff_iff]; simp only [decide_eq_true_eq, beq_iff_eq, bne_iff_ne, ne_eq, Bool.not_eq_true', decide_eq_false_iff_not, true_iff, false_iff, iff_true, iff_false, Bool.false_eq_true, Bool.and_eq_true, Bool.or_eq_true, gt_iff_lt, ge_iff_le] <;> omega) | (rw [Bool.eq_iff_iff]; simp [*] <;> omega) | (simp_all; done)
theorem r4_size (W w : World) (H : Chunk) (F : List Chunk) (w0 : Int) (h0 : Int) (m0 : Int) (hS : Sat W w (H :: F)) :
  Calls Try.prog 70 #[I w0, I h0, I m0] w fun e w' => e = .returned (.bool (decide ((1 : Int) ≤ w0 ∧ w0 ≤ (128 : Int) ∧ (1 : Int) ≤ h0 ∧ h0 ≤ (128 : Int) ∧ w0 * h0 ≤ (4096 : Int) ∧ (1 : Int) ≤ m0 ∧ m0 ≤ (4294967296 : Int)))) ∧ Sat W w' (H :: F) := by
 refine callsE (n := 35) Try.func70 rfl rfl (Nat.le_of_ble_eq_true rfl) ?_
 refine sR <| pu1 <| nT <| sR <| pu3 ?_
 by_cases a0 : (w0 : Int) ≥ 1
 rotate_left
 ·refine sFix 9 _ false (decide_eq_false a0) ?_
  refine pu16 <| pu10 <| nT <| retE <| retT [.bool false] ?_
  change Sat _ _ (H :: F) at hS
  refine ⟨congrArg (fun b => Ending.returned (.bool b)) ?_, hS⟩
  first | rfl | (rw [Bool.eq_iff_iff]; simp only [decide_eq_true_eq, beq_iff_eq, bne_iff_ne, ne_eq, Bool.not_eq_true', decide_eq_false_iff_not, true_iff, false_iff, iff_true, iff_false, Bool.false_eq_true, Bool.and_eq_true, Bool.or_eq_true, gt_iff_lt, ge_iff_le] <;> omega) | (rw [Bool.eq_iff_iff]; simp [*] <;> omega) | (simp_all; done)
 refine sFix 9 _ true (decide_eq_true a0) ?_
 refine pu4 ?_
 by_cases b0 : (w0 : Int) ≤ 128
 rotate_left
 ·refine sFix 13 _ false (decide_eq_false b0) ?_
  refine pu16 <| pu6 <| nT <| retE <| retT [.bool false] ?_
  change Sat _ _ (H :: F) at hS
  refine ⟨congrArg (fun b => Ending.returned (.bool b)) ?_, hS⟩
  first | rfl | (rw [Bool.eq_iff_iff]; simp only [decide_eq_true_eq, beq_iff_eq, bne_iff_ne, ne_eq, Bool.not_eq_true', decide_eq_false_iff_not, true_iff, false_iff, iff_true, iff_false, Bool.false_eq_true, Bool.and_eq_true, Bool.or_eq_true, gt_iff_lt, ge_iff_le] <;> omega) | (rw [Bool.eq_iff_iff]; simp [*] <;> omega) | (simp_all; done)
 refine sFix 13 _ true (decide_eq_true b0) ?_
 refine pu4 ?_
 by_cases c0 : (h0 : Int) ≥ 1
 rotate_left
 ·refine sFix 17 _ false (decide_eq_false c0) ?_
  refine pu16 <| pu2 <| nT <| retE <| retT [.bool false] ?_
  change Sat _ _ (H :: F) at hS
  refine ⟨congrArg (fun b => Ending.returned (.bool b)) ?_, hS⟩
  first | rfl | (rw [Bool.eq_iff_iff]; simp only [decide_eq_true_eq, beq_iff_eq, bne_iff_ne, ne_eq, Bool.not_eq_true', decide_eq_false_iff_not, true_iff, false_iff, iff_true, iff_false, Bool.false_eq_true, Bool.and_eq_true, Bool.or_eq_true, gt_iff_lt, ge_iff_le] <;> omega) | (rw [Bool.eq_iff_iff]; simp [*] <;> omega) | (simp_all; done)
 refine sFix 17 _ true (decide_eq_true c0) ?_
 refine pu4 ?_
 by_cases d0 : (h0 : Int) ≤ 128
 rotate_left
 ·refine sFix 21 _ false (decide_eq_false d0) ?_
  refine pu14 <| nT <| retE <| retT [.bool false] ?_
  change Sat _ _ (H :: F) at hS
  refine ⟨congrArg (fun b => Ending.returned (.bool b)) ?_, hS⟩
  first | rfl | (rw [Bool.eq_iff_iff]; simp only [decide_eq_true_eq, beq_iff_eq, bne_iff_ne, ne_eq, Bool.not_eq_true', decide_eq_false_iff_not, true_iff, false_iff, iff_true, iff_false, Bool.false_eq_true, Bool.and_eq_true, Bool.or_eq_true, gt_iff_lt, ge_iff_le] <;> omega) | (rw [Bool.eq_iff_iff]; simp [*] <;> omega) | (simp_all; done)
 refine sFix 21 _ true (decide_eq_true d0) ?_
 refine pu2 <| gY ?_
 have hwh := mul_bd (a := w0) (b := h0) (A := 128) (B := 128) om om
 refine sMul w0 h0 ?_
 refine pu3 ?_
 by_cases e0 : ((w0 * h0) : Int) ≤ 4096
 rotate_left
 ·refine sFix 27 _ false (decide_eq_false e0) ?_
  refine pu8 <| nT <| retE <| retT [.bool false] ?_
  change Sat _ _ (H :: F) at hS
  refine ⟨congrArg (fun b => Ending.returned (.bool b)) ?_, hS⟩
  first | rfl | (rw [Bool.eq_iff_iff]; simp only [decide_eq_true_eq, beq_iff_eq, bne_iff_ne, ne_eq, Bool.not_eq_true', decide_eq_false_iff_not, true_iff, false_iff, iff_true, iff_false, Bool.false_eq_true, Bool.and_eq_true, Bool.or_eq_true, gt_iff_lt, ge_iff_le] <;> omega) | (rw [Bool.eq_iff_iff]; simp [*] <;> omega) | (simp_all; done)
 refine sFix 27 _ true (decide_eq_true e0) ?_
 refine pu4 ?_
 by_cases f0 : (m0 : Int) ≥ 1
 rotate_left
 ·refine sFix 31 _ false (decide_eq_false f0) ?_
  refine pu4 <| nT <| retE <| retT [.bool false] ?_
  change Sat _ _ (H :: F) at hS
  refine ⟨congrArg (fun b => Ending.returned (.bool b)) ?_, hS⟩
  first | rfl | (rw [Bool.eq_iff_iff]; simp only [decide_eq_true_eq, beq_iff_eq, bne_iff_ne, ne_eq, Bool.not_eq_true', decide_eq_false_iff_not, true_iff, false_iff, iff_true, iff_false, Bool.false_eq_true, Bool.and_eq_true, Bool.or_eq_true, gt_iff_lt, ge_iff_le] <;> omega) | (rw [Bool.eq_iff_iff]; simp [*] <;> omega) | (simp_all; done)
 refine sFix 31 _ true (decide_eq_true f0) ?_
 refine pu4 <| nT <| retE <| retT [.bool (decide ((m0 : Int) ≤ 4294967296))] ?_
 change Sat _ _ (H :: F) at hS
 refine ⟨congrArg (fun b => Ending.returned (.bool b)) ?_, hS⟩
 first | rfl | (rw [Bool.eq_iff_iff]; simp only [decide_eq_true_eq, beq_iff_eq, bne_iff_ne, ne_eq, Bool.not_eq_true', decide_eq_false_iff_not, true_iff, false_iff, iff_true, iff_false, Bool.false_eq_true, Bool.and_eq_true, Bool.or_eq_true, gt_iff_lt, ge_iff_le] <;> omega) | (rw [Bool.eq_iff_iff]; simp [*] <;> omega) | (simp_all; done)

def sizeP (w h m : Int) : Prop := 1 ≤ w ∧ w ≤ 128 ∧ 1 ≤ h ∧ h ≤ 128 ∧ w * h ≤ 4096 ∧ 1 ≤ m ∧ m ≤ 4294967296
instance (w h m : Int) : Decidable (sizeP w h m) := by unfold sizeP; infer_instance
def areW (l : List Int) : Bool := l.all fun n => decide (-32767 ≤ n ∧ n ≤ 32767)
def pixOK (m : Int) (l : List Int) : Bool := l.all fun n => decide (0 ≤ n ∧ n ≤ m)
def planeOK (p : PlaneV) : Bool := decide (sizeP p.w p.h p.max_ ∧ (p.pix.length : Int) = p.w * p.h) && pixOK p.max_ p.pix
theorem planeOK_t {p : PlaneV} (h : sizeP p.w p.h p.max_ ∧ (p.pix.length : Int) = p.w * p.h) (h2 : pixOK p.max_ p.pix = true) : planeOK p = true := by simp [planeOK, h, h2]
theorem planeOK_f1 {p : PlaneV} (h : ¬ (sizeP p.w p.h p.max_ ∧ (p.pix.length : Int) = p.w * p.h)) : planeOK p = false := by simp [planeOK]; intro h1 h2; exact absurd ⟨h1, h2⟩ h
theorem planeOK_f2 {p : PlaneV} (h : pixOK p.max_ p.pix = false) : planeOK p = false := by simp [planeOK, h]
theorem r7_arew (W w : World) (H : Chunk) (F : List Chunk) (ax : Option Addr) (nx kx : Nat) (x : List Int) (hx : RdT encI 1 [H] ax nx kx x) (hS : Sat W w (H :: F)) :
  Calls Try.prog 85 #[.slice ax nx kx] w fun e w' => e = .returned (.bool (areW x)) ∧ Sat W w' (H :: F) := by
 have hl_x := hx.le; have hn_x := hx.len
 refine callsE (n := 16) Try.func85 rfl rfl (Nat.le_of_ble_eq_true rfl) ?_
 refine sR <| pu1 <| nT <| seqE <| sR <| pu1 <| nT <| blockE ?_
 refine loopE (γ := Nat) (fun i ρ w => AllAt ρ [(0, .slice ax nx kx), (3, I ((i : Nat) : Int))] ∧ Sat W w (H :: F) ∧ i ≤ nx ∧ (areW (x.take i) = true)) (fun i => nx - i) 0 ⟨alA, hS, om, by rfl⟩ ?_
 skip
 rintro i ρ _ ⟨hA, c0, hi, hE⟩
 refine cAnchor hA (fun ρ => ?_)
 clear hA
 refine seqE <| sR <| pu4 <| nT ?_
 by_cases f0 : (((i : Nat) : Int) : Int) < ((nx : Nat) : Int)
 rotate_left
 ·refine cF _ (decide_eq_false f0) ?_
  refine exitE (xB <| ?_)
  refine thenK_n <| sR <| pu1 <| nT <| retE <| retT [.bool true] ?_
  change Sat _ _ (H :: F) at c0
  exact ⟨by rw [show areW x = true from all_of_take hE om]; rfl, c0⟩
 refine cT _ (decide_eq_true f0) ?_
 refine kT <| seqE <| blockE <| sR <| pu2 ?_
 refine sIdx hx ((i : Nat) : Int) Try.runUnderlying22 Try.sizeOf3 ?_
 intro a0 _ _ d0 h0
 rw [Int.toNat_natCast] at d0
 refine sLp c0 (h0.up 0 rfl) 0 (I a0) (Try.isAgg3 _) ?_
 refine sF #[I a0] Try.call94 (Calls.mono (r7_isw W _ _ [] a0 (Sat.flat c0)) ?_)
 rintro _ _ ⟨rfl, g0⟩
 refine ⟨_, rfl, ?_⟩
 have b0 := Sat.unflat g0; clear g0
 change Sat _ _ (H :: F) at b0
 refine pu1 <| nT ?_
 rcases Classical.em ((-32767 : Int) ≤ a0 ∧ a0 ≤ (32767 : Int)) with e0 | e0
 ·refine cF _ (congrArg Bool.not (decide_eq_true e0)) ?_
  refine skipE <| blockK_n <| thenK_n <| regionE <| pu1 ?_
  refine sAdd ((i : Nat) : Int) 1 ?_
  refine pu1 <| nT ?_
  change Sat _ _ (H :: F) at b0
  exact ⟨i + 1, od, alA, b0, om, all_succ hE d0 (decide_eq_true om)⟩
 refine cT _ (congrArg Bool.not (decide_eq_false e0)) ?_
 refine sR <| pu1 <| nT ?_
 refine retE (blockK_r <| thenK_r <| tR <| thenK_r <| ?_)
 refine retT [.bool false] ?_
 change Sat _ _ (H :: F) at b0
 exact ⟨by rw [show areW x = false from all_false_at d0 (decide_eq_false om)]; rfl, b0⟩
theorem r4_valid (W w : World) (H : Chunk) (F : List Chunk) (p : Plane) (hp : Plane.Ok [H] p) (hS : Sat W w (H :: F)) :
  Calls Try.prog 59 #[.agg (encPlane p).toArray] w fun e w' => e = .returned (.bool (planeOK p.v)) ∧ Sat W w' (H :: F) := by
 have hl_p_pix := hp.pix.le; have hn_p_pix := hp.pix.len
 refine callsE (n := 46) Try.func59 rfl rfl (Nat.le_of_ble_eq_true rfl) ?_
 refine sR ?_
 refine sBox hS (.agg (encPlane p).toArray) (encPlane p).toArray ?_
 intro a0 _ g0
 refine pu1 <| nT <| seqE <| sR <| pu1 ?_
 refine sL g0 0 0 (I p.w) (Try.isAgg3 _) ?_
 refine pu1 ?_
 refine sL g0 0 1 (I p.h) (Try.isAgg3 _) ?_
 refine pu1 ?_
 refine sL g0 0 2 (I p.max_) (Try.isAgg3 _) ?_
 refine sF #[I p.w, I p.h, I p.max_] Try.call70 (Calls.mono (r4_size W _ _ [] p.w p.h p.max_ (Sat.flat g0)) ?_)
 rintro _ _ ⟨rfl, l0⟩
 refine ⟨_, rfl, ?_⟩
 have d0 := Sat.unflat l0; clear l0
 change Sat _ _ ([(a0, .cells (encPlane p).toArray 49 (0, 0))] :: H :: F) at d0
 refine pu2 ?_
 rcases Classical.em ((1 : Int) ≤ p.w ∧ p.w ≤ (128 : Int) ∧ (1 : Int) ≤ p.h ∧ p.h ≤ (128 : Int) ∧ p.w * p.h ≤ (4096 : Int) ∧ (1 : Int) ≤ p.max_ ∧ p.max_ ≤ (4294967296 : Int)) with i0 | i0
 rotate_left
 ·refine sFix 12 _ true (congrArg Bool.not (decide_eq_false i0)) ?_
  refine pu10 <| nT <| cTt <| sR <| pu1 <| nT ?_
  refine retE (thenK_r <| ?_)
  refine retT [.bool false] ?_
  have m0 := ((d0.pick 1 rfl).dropAt 1 rfl)
  change Sat _ _ (H :: F) at m0
  refine ⟨congrArg (fun b => Ending.returned (.bool b)) ?_, m0⟩
  exact (planeOK_f1 (p := p.v) (by simp only [Plane.v, sizeP]; omega)).symm
 refine sFix 12 _ false (congrArg Bool.not (decide_eq_true i0)) ?_
 refine pu1 <| gY ?_
 refine sL d0 0 3 (.slice p.pix.a p.pix.n p.pix.k) (Try.isAgg22 _) ?_
 refine pu2 <| gY ?_
 refine sL d0 0 0 (I p.w) (Try.isAgg3 _) ?_
 refine pu1 <| gY ?_
 refine sL d0 0 1 (I p.h) (Try.isAgg3 _) ?_
 refine gY ?_
 have hwh := mul_bd (a := p.w) (b := p.h) (A := 128) (B := 128) om om
 refine sMul p.w p.h ?_
 refine pu2 <| nT ?_
 by_cases n0 : (((p.pix.n : Nat) : Int) : Int) = (p.w * p.h)
 rotate_left
 ·refine cT _ (bne_iff_ne.2 n0) ?_
  refine sR <| pu1 <| nT ?_
  refine retE (thenK_r <| ?_)
  refine retT [.bool false] ?_
  have o0 := ((d0.pick 1 rfl).dropAt 1 rfl)
  change Sat _ _ (H :: F) at o0
  refine ⟨congrArg (fun b => Ending.returned (.bool b)) ?_, o0⟩
  exact (planeOK_f1 (p := p.v) (by simp only [Plane.v, sizeP]; omega)).symm
 refine cF _ (bne_eq_false_iff_eq.2 n0) ?_
 refine kT <| seqE <| sR <| pu1 <| nT <| blockE ?_
 refine loopE (γ := Nat) (fun i ρ w => AllAt ρ [(0, .agg (encPlane p).toArray), (1, Pt a0 0), (4, Pt a0 0), (5, I p.w), (6, Pt a0 1), (7, I p.h), (8, Pt a0 2), (9, I p.max_), (10, .bool (decide ((1 : Int) ≤ p.w ∧ p.w ≤ (128 : Int) ∧ (1 : Int) ≤ p.h ∧ p.h ≤ (128 : Int) ∧ p.w * p.h ≤ (4096 : Int) ∧ (1 : Int) ≤ p.max_ ∧ p.max_ ≤ (4294967296 : Int)))), (11, .bool (!decide ((1 : Int) ≤ p.w ∧ p.w ≤ (128 : Int) ∧ (1 : Int) ≤ p.h ∧ p.h ≤ (128 : Int) ∧ p.w * p.h ≤ (4096 : Int) ∧ (1 : Int) ≤ p.max_ ∧ p.max_ ≤ (4294967296 : Int)))), (12, .bool false), (13, Pt a0 3), (14, .slice p.pix.a p.pix.n p.pix.k), (15, I ((p.pix.n : Nat) : Int)), (16, Pt a0 0), (17, I p.w), (18, Pt a0 1), (19, I p.h), (20, I (p.w * p.h)), (21, .bool ((((p.pix.n : Nat) : Int) : Int) != (p.w * p.h))), (22, .bool ((((p.pix.n : Nat) : Int) : Int) != (p.w * p.h))), (3, I ((i : Nat) : Int))] ∧ Sat W w ([(a0, .cells (encPlane p).toArray 49 (0, 0))] :: H :: F) ∧ i ≤ p.pix.n ∧ (pixOK p.max_ (p.pix.l.take i) = true)) (fun i => p.pix.n - i) 0 ⟨alA, d0, om, by rfl⟩ ?_
 skip
 rintro i ρ _ ⟨hA, b0, hi, hE⟩
 refine cAnchor hA (fun ρ => ?_)
 clear hA
 refine seqE <| sR <| pu2 ?_
 refine sL b0 0 3 (.slice p.pix.a p.pix.n p.pix.k) (Try.isAgg22 _) ?_
 refine pu2 <| nT ?_
 by_cases p0 : (((i : Nat) : Int) : Int) < ((p.pix.n : Nat) : Int)
 rotate_left
 ·refine cF _ (decide_eq_false p0) ?_
  refine exitE (xB <| ?_)
  refine thenK_n <| sR <| pu1 <| nT <| retE <| retT [.bool true] ?_
  have q0 := ((b0.pick 1 rfl).dropAt 1 rfl)
  change Sat _ _ (H :: F) at q0
  refine ⟨congrArg (fun b => Ending.returned (.bool b)) ?_, q0⟩
  exact (planeOK_t (p := p.v) (by simp only [Plane.v, sizeP]; omega) (all_of_take hE (by simp only [Plane.v]; omega))).symm
 refine cT _ (decide_eq_true p0) ?_
 refine kT <| seqE <| blockE <| seqE ?_
 obtain ⟨c0, e0, f0, h0, j0, k0⟩ := RdT.elem hp.pix ((i : Nat) : Int)
 rw [Int.toNat_natCast] at h0
 by_cases r0 : (c0 : Int) < 0
 ·refine drawE [] [(1, ⟨a0, 3, none⟩, .slice p.pix.a p.pix.n p.pix.k), (4, ⟨e0, f0, none⟩, I c0)] [(true, [0, 2]), (true, [1]), (true, [3]), (true, [4]), (true, [5, 6]), (true, [7, 9, 12, 8, 10, 11, 13, 14, 15])] rfl kr ⟨.inr (b0.cell 0 rfl rfl), .inr ((j0.up 1 rfl).cell b0 (k := 0) rfl), trivial⟩ ?_
  have x0 := b0.drew
  refine wU [0, 2] ?_
  refine wS (.slice p.pix.a p.pix.n p.pix.k) rfl rfl rfl (fun w hF => Y_load rfl (Try.isAgg22 w) kr (hF 0 _ _ rfl)) ?_
  refine wS (.pointer (some ⟨e0, f0, none⟩)) rfl rfl rfl (fun w _ => Y_idx (a := p.pix.a) (i := ((i : Nat) : Int)) (len := p.pix.n) (cap := p.pix.k) rfl Try.runUnderlying22 Try.sizeOf3 kr kr k0) ?_
  refine wS (I c0) rfl rfl rfl (fun w hF => Y_load rfl (Try.isAgg3 w) kr (hF 1 _ _ rfl)) ?_
  refine wU [5, 6] ?_
  refine wFix 36 _ true (decide_eq_true r0) ?_
  refine wU [7, 9, 12, 8, 10, 11, 13, 14, 15] ?_
  refine wN ?_
  refine thenK_n <| cTt <| sR <| pu1 <| nT ?_
  refine retE (blockK_r <| thenK_r <| tR <| thenK_r <| ?_)
  refine retT [.bool false] ?_
  have s0 := ((x0.pick 1 rfl).dropAt 1 rfl)
  change Sat _ _ (H :: F) at s0
  refine ⟨congrArg (fun b => Ending.returned (.bool b)) ?_, s0⟩
  exact (planeOK_f2 (p := p.v) (all_false_at h0 (decide_eq_false (by simp only [Plane.v]; omega)))).symm
 refine drawE [] [(1, ⟨a0, 3, none⟩, .slice p.pix.a p.pix.n p.pix.k), (4, ⟨e0, f0, none⟩, I c0), (8, ⟨a0, 3, none⟩, .slice p.pix.a p.pix.n p.pix.k), (11, ⟨e0, f0, none⟩, I c0), (13, ⟨a0, 2, none⟩, I p.max_)] [(true, [0, 2]), (true, [1]), (true, [3]), (true, [4]), (true, [5, 6]), (true, [7, 9, 12]), (true, [8]), (true, [10]), (true, [11]), (true, [13]), (true, [14, 15])] rfl kr ⟨.inr (b0.cell 0 rfl rfl), .inr ((j0.up 1 rfl).cell b0 (k := 0) rfl), .inr (b0.cell 0 rfl rfl), .inr ((j0.up 1 rfl).cell b0 (k := 0) rfl), .inr (b0.cell 0 rfl rfl), trivial⟩ ?_
 have t0 := b0.drew
 refine wU [0, 2] ?_
 refine wS (.slice p.pix.a p.pix.n p.pix.k) rfl rfl rfl (fun w hF => Y_load rfl (Try.isAgg22 w) kr (hF 0 _ _ rfl)) ?_
 refine wS (.pointer (some ⟨e0, f0, none⟩)) rfl rfl rfl (fun w _ => Y_idx (a := p.pix.a) (i := ((i : Nat) : Int)) (len := p.pix.n) (cap := p.pix.k) rfl Try.runUnderlying22 Try.sizeOf3 kr kr k0) ?_
 refine wS (I c0) rfl rfl rfl (fun w hF => Y_load rfl (Try.isAgg3 w) kr (hF 1 _ _ rfl)) ?_
 refine wU [5, 6] ?_
 refine wFix 36 _ false (decide_eq_false r0) ?_
 refine wU [7, 9, 12] ?_
 refine wSg (.slice p.pix.a p.pix.n p.pix.k) rfl rfl rfl ⟨_, rfl, rfl, kr⟩ (fun w hF => Y_load rfl (Try.isAgg22 w) kr (hF 2 _ _ rfl)) ?_
 refine wSg (.pointer (some ⟨e0, f0, none⟩)) rfl rfl rfl ⟨_, rfl, rfl, kr⟩ (fun w _ => Y_idx (a := p.pix.a) (i := ((i : Nat) : Int)) (len := p.pix.n) (cap := p.pix.k) rfl Try.runUnderlying22 Try.sizeOf3 kr kr k0) ?_
 refine wSg (I c0) rfl rfl rfl ⟨_, rfl, rfl, kr⟩ (fun w hF => Y_load rfl (Try.isAgg3 w) kr (hF 3 _ _ rfl)) ?_
 refine wSg (I p.max_) rfl rfl rfl ⟨_, rfl, rfl, kr⟩ (fun w hF => Y_load rfl (Try.isAgg3 w) kr (hF 4 _ _ rfl)) ?_
 refine wU [14, 15] ?_
 refine wN ?_
 refine thenK_n ?_
 by_cases u0 : (c0 : Int) > p.max_
 rotate_left
 ·refine cF _ (decide_eq_false u0) ?_
  refine skipE <| blockK_n <| thenK_n <| regionE <| pu1 ?_
  refine sAdd ((i : Nat) : Int) 1 ?_
  refine pu1 <| nT ?_
  have v0 := ((t0.pick 1 rfl).pick 1 rfl)
  change Sat _ _ ([(a0, .cells (encPlane p).toArray 49 (0, 0))] :: H :: F) at v0
  exact ⟨i + 1, od, alA, v0, om, all_succ hE h0 (decide_eq_true om)⟩
 refine cT _ (decide_eq_true u0) ?_
 refine sR <| pu1 <| nT ?_
 refine retE (blockK_r <| thenK_r <| tR <| thenK_r <| ?_)
 refine retT [.bool false] ?_
 have w0 := ((t0.pick 1 rfl).dropAt 1 rfl)
 change Sat _ _ (H :: F) at w0
 refine ⟨congrArg (fun b => Ending.returned (.bool b)) ?_, w0⟩
 exact (planeOK_f2 (p := p.v) (all_false_at h0 (decide_eq_false (by simp only [Plane.v]; omega)))).symm

def wCode (l : List Int) : Int := if l.length = 0 ∨ 81 < l.length then 9 else if areW l = true then 0 else 10
theorem r7_weights (W w : World) (H : Chunk) (F : List Chunk) (ax : Option Addr) (nx kx : Nat) (x : List Int) (hx : RdT encI 1 [H] ax nx kx x) (hS : Sat W w (H :: F)) :
  Calls Try.prog 95 #[.slice ax nx kx] w fun e w' => e = .returned (I (wCode x)) ∧ Sat W w' (H :: F) := by
 have hl_x := hx.le; have hn_x := hx.len
 refine callsE (n := 14) Try.func95 rfl rfl (Nat.le_of_ble_eq_true rfl) ?_
 refine sR <| pu1 <| nT <| seqE <| sR <| pu4 ?_
 by_cases c0 : (((nx : Nat) : Int) : Int) = 0
 ·refine sFix 6 _ true (beq_iff_eq.2 c0) ?_
  refine pu4 <| nT <| cTt <| sR <| pu1 <| nT ?_
  refine retE (thenK_r <| ?_)
  refine retT [I 9] ?_
  change Sat _ _ (H :: F) at hS
  refine ⟨?_, hS⟩
  unfold wCode
  (repeat' split) <;> first | rfl | (exfalso; omega) | contradiction | (exfalso; simp_all; done) | (simp_all; done)
 refine sFix 6 _ false (beq_eq_false_iff_ne.2 c0) ?_
 refine pu4 <| nT ?_
 by_cases d0 : (((nx : Nat) : Int) : Int) > 81
 ·refine cT _ (decide_eq_true d0) ?_
  refine sR <| pu1 <| nT ?_
  refine retE (thenK_r <| ?_)
  refine retT [I 9] ?_
  change Sat _ _ (H :: F) at hS
  refine ⟨?_, hS⟩
  unfold wCode
  (repeat' split) <;> first | rfl | (exfalso; omega) | contradiction | (exfalso; simp_all; done) | (simp_all; done)
 refine cF _ (decide_eq_false d0) ?_
 refine kT <| seqE <| sR <| pu1 ?_
 refine sF #[.slice ax nx kx] Try.call85 (Calls.mono (r7_arew W _ _ [] ax nx kx x (RdT.flat (hx.up 0 (by rfl))) (Sat.flat hS)) ?_)
 rintro _ _ ⟨rfl, e0⟩
 refine ⟨_, rfl, ?_⟩
 have a0 := Sat.unflat e0; clear e0
 change Sat _ _ (H :: F) at a0
 refine pu1 <| nT ?_
 rcases Classical.em ((areW x) = true) with b0 | b0
 ·refine cF _ (congrArg Bool.not b0) ?_
  refine kT <| sR <| pu1 <| nT <| retE <| retT [I 0] ?_
  change Sat _ _ (H :: F) at a0
  refine ⟨?_, a0⟩
  unfold wCode
  (repeat' split) <;> first | rfl | (exfalso; omega) | contradiction | (exfalso; simp_all; done) | (simp_all; done)
 refine cT _ (congrArg Bool.not (Bool.eq_false_iff.2 b0)) ?_
 refine sR <| pu1 <| nT ?_
 refine retE (thenK_r <| ?_)
 refine retT [I 10] ?_
 change Sat _ _ (H :: F) at a0
 refine ⟨?_, a0⟩
 unfold wCode
 (repeat' split) <;> first | rfl | (exfalso; omega) | contradiction | (exfalso; simp_all; done) | (simp_all; done)

def accP (x : Int) : Prop := -17592186044416 ≤ x ∧ x ≤ 17592186044416
instance (x : Int) : Decidable (accP x) := by unfold accP; infer_instance
def sumLo (l : List Int) (lo hi : Int) : Int := (l.map fun w => min (w * lo) (w * hi)).sum
def sumHi (l : List Int) (lo hi : Int) : Int := (l.map fun w => max (w * lo) (w * hi)).sum
def bndOK (l : List Int) (lo hi : Int) : Bool := decide (wCode l = 0 ∧ lo ≤ hi ∧ -68719476736 ≤ lo ∧ hi ≤ 68719476736 ∧ accP (sumLo l lo hi) ∧ accP (sumHi l lo hi))
def bndLo (l : List Int) (lo hi : Int) : Int := if bndOK l lo hi = true then sumLo l lo hi else 0
def bndHi (l : List Int) (lo hi : Int) : Int := if bndOK l lo hi = true then sumHi l lo hi else 0
theorem wCode_len {l : List Int} (h : wCode l = 0) : 0 < l.length ∧ l.length ≤ 81 ∧ areW l = true := by
  unfold wCode at h
  split at h
  · omega
  · split at h
    · refine ⟨by omega, by omega, by assumption⟩
    · omega
theorem areW_at {l : List Int} (h : areW l = true) {i : Nat} {x : Int} (hx : l[i]? = some x) : -32767 ≤ x ∧ x ≤ 32767 := by
  have := List.all_eq_true.1 h x (List.mem_of_getElem? hx)
  simpa using this
theorem sum_at {f : Int → Int} {l : List Int} {i : Nat} {x : Int} (hx : l[i]? = some x) : ((l.take (i + 1)).map f).sum = ((l.take i).map f).sum + f x := by
  rw [take_succ_at hx]; simp
theorem bnd_ret {l : List Int} {lo hi a b : Int} {i : Nat} (hw : wCode l = 0) (h1 : lo ≤ hi) (h2 : -68719476736 ≤ lo ∧ hi ≤ 68719476736) (ha : a = sumLo (l.take i) lo hi) (hb : b = sumHi (l.take i) lo hi) (hi' : l.length ≤ i) (ca : accP a) (cb : accP b) : bndOK l lo hi = true ∧ bndLo l lo hi = a ∧ bndHi l lo hi = b := by
  rw [List.take_of_length_le hi'] at ha hb
  have h : bndOK l lo hi = true := by unfold bndOK; exact decide_eq_true ⟨hw, h1, h2.1, h2.2, by rw [← ha]; exact ca, by rw [← hb]; exact cb⟩
  exact ⟨h, by unfold bndLo; rw [if_pos h, ha], by unfold bndHi; rw [if_pos h, hb]⟩
theorem bnd_bad {l : List Int} {lo hi : Int} (h : ¬ (wCode l = 0 ∧ lo ≤ hi ∧ -68719476736 ≤ lo ∧ hi ≤ 68719476736 ∧ accP (sumLo l lo hi) ∧ accP (sumHi l lo hi))) : bndOK l lo hi = false ∧ bndLo l lo hi = 0 ∧ bndHi l lo hi = 0 := by
  have h : bndOK l lo hi = false := by unfold bndOK; exact decide_eq_false h
  exact ⟨h, by unfold bndLo; rw [h]; rfl, by unfold bndHi; rw [h]; rfl⟩
theorem bnd_bad2 {l : List Int} {lo hi a b : Int} {i : Nat} (ha : a = sumLo (l.take i) lo hi) (hb : b = sumHi (l.take i) lo hi) (hi' : l.length ≤ i) (h : ¬ (accP a ∧ accP b)) : bndOK l lo hi = false ∧ bndLo l lo hi = 0 ∧ bndHi l lo hi = 0 := by
  rw [List.take_of_length_le hi'] at ha hb
  exact bnd_bad fun h2 => h ⟨by rw [ha]; exact h2.2.2.2.2.1, by rw [hb]; exact h2.2.2.2.2.2⟩
theorem r7_bounds (W w : World) (H : Chunk) (F : List Chunk) (ax : Option Addr) (nx kx : Nat) (x : List Int) (lo : Int) (up : Int) (hx : RdT encI 1 [H] ax nx kx x) (hS : Sat W w (H :: F)) :
  Calls Try.prog 88 #[.slice ax nx kx, I lo, I up] w fun e w' => e = .returned (.tuple #[I (bndLo x lo up), I (bndHi x lo up), .bool (bndOK x lo up)]) ∧ Sat W w' (H :: F) := by
 have hl_x := hx.le; have hn_x := hx.len
 refine callsE (n := 68) Try.func88 rfl rfl (Nat.le_of_ble_eq_true rfl) ?_
 refine sR <| pu3 <| nT <| seqE <| sR <| pu1 ?_
 refine sF #[.slice ax nx kx] Try.call95 (Calls.mono (r7_weights W _ _ [] ax nx kx x (RdT.flat (hx.up 0 (by rfl))) (Sat.flat hS)) ?_)
 rintro _ _ ⟨rfl, k0⟩
 refine ⟨_, rfl, ?_⟩
 have b0 := Sat.unflat k0; clear k0
 change Sat _ _ (H :: F) at b0
 refine pu2 ?_
 by_cases l0 : ((wCode x) : Int) = 0
 rotate_left
 ·refine sFix 17 _ true (bne_iff_ne.2 l0) ?_
  refine pu12 <| nT <| cTt <| sR <| pu3 <| nT ?_
  refine retE (thenK_r <| ?_)
  refine retT [I 0, I 0, .bool false] ?_
  change Sat _ _ (H :: F) at b0
  obtain ⟨e1, e2, e3⟩ := bnd_bad (l := x) (lo := lo) (hi := up) om
  exact ⟨by rw [e1, e2, e3]; rfl, b0⟩
 refine sFix 17 _ false (bne_eq_false_iff_eq.2 l0) ?_
 refine pu5 ?_
 by_cases m0 : (lo : Int) > up
 ·refine sFix 22 _ true (decide_eq_true m0) ?_
  refine pu7 <| nT <| cTt <| sR <| pu3 <| nT ?_
  refine retE (thenK_r <| ?_)
  refine retT [I 0, I 0, .bool false] ?_
  change Sat _ _ (H :: F) at b0
  obtain ⟨e1, e2, e3⟩ := bnd_bad (l := x) (lo := lo) (hi := up) om
  exact ⟨by rw [e1, e2, e3]; rfl, b0⟩
 refine sFix 22 _ false (decide_eq_false m0) ?_
 refine pu4 ?_
 by_cases n0 : (lo : Int) < (-68719476736)
 ·refine sFix 26 _ true (decide_eq_true n0) ?_
  refine pu3 <| nT <| cTt <| sR <| pu3 <| nT ?_
  refine retE (thenK_r <| ?_)
  refine retT [I 0, I 0, .bool false] ?_
  change Sat _ _ (H :: F) at b0
  obtain ⟨e1, e2, e3⟩ := bnd_bad (l := x) (lo := lo) (hi := up) om
  exact ⟨by rw [e1, e2, e3]; rfl, b0⟩
 refine sFix 26 _ false (decide_eq_false n0) ?_
 refine pu3 <| nT ?_
 by_cases o0 : (up : Int) > 68719476736
 ·refine cT _ (decide_eq_true o0) ?_
  refine sR <| pu3 <| nT ?_
  refine retE (thenK_r <| ?_)
  refine retT [I 0, I 0, .bool false] ?_
  change Sat _ _ (H :: F) at b0
  obtain ⟨e1, e2, e3⟩ := bnd_bad (l := x) (lo := lo) (hi := up) om
  exact ⟨by rw [e1, e2, e3]; rfl, b0⟩
 refine cF _ (decide_eq_false o0) ?_
 refine kT <| sR <| pu2 <| nT <| seqE <| seqE ?_
 obtain ⟨hw0, hw81, hw⟩ := wCode_len (l := x) om
 refine regionE <| pu1 <| nT <| blockE ?_
 refine loopE (γ := Nat × Int × Int) (fun ⟨i, a, b⟩ ρ w => AllAt ρ [(0, .slice ax nx kx), (1, I lo), (2, I up), (6, I 0), (7, I 0), (8, .bool false), (14, .slice ax nx kx), (15, I (wCode x)), (16, .bool (((wCode x) : Int) != 0)), (17, .bool false), (18, I lo), (19, I up), (20, .bool (decide ((lo : Int) > up))), (21, .bool (decide ((lo : Int) > up))), (22, .bool false), (23, I lo), (24, .bool (decide ((lo : Int) < (-68719476736)))), (25, .bool (decide ((lo : Int) < (-68719476736)))), (26, .bool false), (27, I up), (28, .bool (decide ((up : Int) > 68719476736))), (29, .bool (decide ((up : Int) > 68719476736))), (11, I ((i : Nat) : Int)), (9, I a), (10, I b)] ∧ Sat W w (H :: F) ∧ i ≤ nx ∧ (a = sumLo (x.take i) lo up) ∧ (b = sumHi (x.take i) lo up) ∧ (-(2251799813685248 * (i : Int)) ≤ a ∧ a ≤ 2251799813685248 * (i : Int) ∧ -(2251799813685248 * (i : Int)) ≤ b ∧ b ≤ 2251799813685248 * (i : Int))) (fun ⟨i, a, b⟩ => nx - i) (0, 0, 0) ⟨alA, b0, om, by rfl, by rfl, om⟩ ?_
 skip
 rintro ⟨i, a, b⟩ ρ _ ⟨hA, d0, hi, ha, hb, hab⟩
 refine cAnchor hA (fun ρ => ?_)
 clear hA
 refine seqE <| sR <| pu4 <| nT ?_
 by_cases p0 : (((i : Nat) : Int) : Int) < ((nx : Nat) : Int)
 rotate_left
 ·refine cF _ (decide_eq_false p0) ?_
  refine exitE (xB <| ?_)
  refine thenK_n <| seqE <| sR <| pu1 ?_
  refine sF #[I a] Try.call96 (Calls.mono (r7_acc W _ _ [] a (Sat.flat d0)) ?_)
  rintro _ _ ⟨rfl, q0⟩
  refine ⟨_, rfl, ?_⟩
  have e0 := Sat.unflat q0; clear q0
  change Sat _ _ (H :: F) at e0
  refine pu2 ?_
  rcases Classical.em ((-17592186044416 : Int) ≤ a ∧ a ≤ (17592186044416 : Int)) with i0 | i0
  rotate_left
  ·refine sFix 61 _ true (congrArg Bool.not (decide_eq_false i0)) ?_
   refine pu4 <| nT <| cTt <| sR <| pu3 <| nT ?_
   refine retE (thenK_r <| ?_)
   refine retT [I 0, I 0, .bool false] ?_
   change Sat _ _ (H :: F) at e0
   obtain ⟨e1, e2, e3⟩ := bnd_bad2 (l := x) (i := i) ha hb om (by unfold accP; omega)
   exact ⟨by rw [e1, e2, e3]; rfl, e0⟩
  refine sFix 61 _ false (congrArg Bool.not (decide_eq_true i0)) ?_
  refine pu1 <| gY ?_
  refine sF #[I b] Try.call96 (Calls.mono (r7_acc W _ _ [] b (Sat.flat e0)) ?_)
  rintro _ _ ⟨rfl, r0⟩
  refine ⟨_, rfl, ?_⟩
  have c0 := Sat.unflat r0; clear r0
  change Sat _ _ (H :: F) at c0
  refine pu2 <| nT ?_
  rcases Classical.em ((-17592186044416 : Int) ≤ b ∧ b ≤ (17592186044416 : Int)) with j0 | j0
  rotate_left
  ·refine cT _ (congrArg Bool.not (decide_eq_false j0)) ?_
   refine sR <| pu3 <| nT ?_
   refine retE (thenK_r <| ?_)
   refine retT [I 0, I 0, .bool false] ?_
   change Sat _ _ (H :: F) at c0
   obtain ⟨e1, e2, e3⟩ := bnd_bad2 (l := x) (i := i) ha hb om (by unfold accP; omega)
   exact ⟨by rw [e1, e2, e3]; rfl, c0⟩
  refine cF _ (congrArg Bool.not (decide_eq_true j0)) ?_
  refine kT <| sR <| pu5 <| nT <| retE <| retT [I a, I b, .bool true] ?_
  change Sat _ _ (H :: F) at c0
  obtain ⟨e1, e2, e3⟩ := bnd_ret (l := x) (i := i) om om om ha hb om (by unfold accP; omega) (by unfold accP; omega)
  exact ⟨by rw [e1, e2, e3]; rfl, c0⟩
 refine cT _ (decide_eq_true p0) ?_
 refine kT <| seqE <| blockE <| seqE ?_
 obtain ⟨a0, f0, g0, h0, s0, t0⟩ := RdT.elem hx ((i : Nat) : Int)
 rw [Int.toNat_natCast] at h0
 have hwx_x_11 := areW_at hw h0
 have hm1_x_11 := mul_abs (A := 32767) (B := 68719476736) hwx_x_11 (b := lo) om; have hm2_x_11 := mul_abs (A := 32767) (B := 68719476736) hwx_x_11 (b := up) om
 refine drawE [] [(3, ⟨f0, g0, none⟩, I a0), (9, ⟨f0, g0, none⟩, I a0)] [(true, [0, 1]), (true, [2]), (true, [4, 6, 7]), (true, [8]), (true, [10]), (true, [3]), (true, [5]), (true, [12]), (true, [9]), (true, [11]), (true, [13])] rfl kr ⟨.inr ((s0.up 0 rfl).cell d0 (k := 0) rfl), .inr ((s0.up 0 rfl).cell d0 (k := 0) rfl), trivial⟩ ?_
 have u0 := d0.drew
 refine wU [0, 1] ?_
 refine wS (.pointer (some ⟨f0, g0, none⟩)) rfl rfl rfl (fun w _ => Y_idx (a := ax) (i := ((i : Nat) : Int)) (len := nx) (cap := kx) rfl Try.runUnderlying22 Try.sizeOf3 kr kr t0) ?_
 refine wU [4, 6, 7] ?_
 refine wS (.pointer (some ⟨f0, g0, none⟩)) rfl rfl rfl (fun w _ => Y_idx (a := ax) (i := ((i : Nat) : Int)) (len := nx) (cap := kx) rfl Try.runUnderlying22 Try.sizeOf3 kr kr t0) ?_
 refine wU [10] ?_
 refine wS (I a0) rfl rfl rfl (fun w hF => Y_load rfl (Try.isAgg3 w) kr (hF 0 _ _ rfl)) ?_
 refine wS (I (a0 * lo)) rfl rfl rfl (fun w _ => Y_mul (a := a0) (b := lo) rfl kr kr om) ?_
 refine wU [12] ?_
 refine wS (I a0) rfl rfl rfl (fun w hF => Y_load rfl (Try.isAgg3 w) kr (hF 1 _ _ rfl)) ?_
 refine wS (I (a0 * up)) rfl rfl rfl (fun w _ => Y_mul (a := a0) (b := up) rfl kr kr om) ?_
 refine wU [13] ?_
 refine wN ?_
 refine thenK_n <| regionE <| pu3 ?_
 refine stepY (I (min (a0 * lo) (a0 * up))) rfl rfl (Y_min2 (a0 * lo) (a0 * up) rfl rfl kr kr) ?_
 refine sAdd a (min (a0 * lo) (a0 * up)) ?_
 refine pu3 ?_
 refine stepY (I (max (a0 * lo) (a0 * up))) rfl rfl (Y_max2 (a0 * lo) (a0 * up) rfl rfl kr kr) ?_
 refine sAdd b (max (a0 * lo) (a0 * up)) ?_
 refine pu2 <| nB <| regionE <| pu1 ?_
 refine sAdd ((i : Nat) : Int) 1 ?_
 refine pu1 <| nT ?_
 change Sat _ _ (H :: F) at u0
 exact ⟨(i + 1, (a + (min (a0 * lo) (a0 * up))), (b + (max (a0 * lo) (a0 * up)))), od, alA, u0, om, by have e := sum_at (f := fun w => min (w * lo) (w * up)) h0; unfold sumLo at *; omega, by have e := sum_at (f := fun w => max (w * lo) (w * up)) h0; unfold sumHi at *; omega, om⟩

def shiftV (a s : Int) : Int := if accP a ∧ 0 ≤ s ∧ s ≤ 24 then (if s = 0 then a else (a + 2 ^ (s - 1).toNat) / 2 ^ s.toNat) else 0
theorem r7_shift (W w : World) (H : Chunk) (F : List Chunk) (a : Int) (s : Int) (hS : Sat W w (H :: F)) :
  Calls Try.prog 97 #[I a, I s] w fun e w' => e = .returned (I (shiftV a s)) ∧ Sat W w' (H :: F) := by
 refine callsE (n := 39) Try.func97 rfl rfl (Nat.le_of_ble_eq_true rfl) ?_
 refine sR <| pu1 <| nT <| seqE <| sR <| pu1 ?_
 refine sF #[I a] Try.call96 (Calls.mono (r7_acc W _ _ [] a (Sat.flat hS)) ?_)
 rintro _ _ ⟨rfl, f0⟩
 refine ⟨_, rfl, ?_⟩
 have b0 := Sat.unflat f0; clear f0
 change Sat _ _ (H :: F) at b0
 refine pu2 ?_
 rcases Classical.em ((-17592186044416 : Int) ≤ a ∧ a ≤ (17592186044416 : Int)) with d0 | d0
 rotate_left
 ·refine sFix 11 _ true (congrArg Bool.not (decide_eq_false d0)) ?_
  refine pu4 <| nT <| cTt <| sR <| pu1 <| nT ?_
  refine retE (thenK_r <| ?_)
  refine retT [I 0] ?_
  change Sat _ _ (H :: F) at b0
  refine ⟨?_, b0⟩
  unfold shiftV accP
  (repeat' split) <;> first | rfl | (exfalso; omega) | contradiction | (exfalso; simp_all; done) | (simp_all; done)
 refine sFix 11 _ false (congrArg Bool.not (decide_eq_true d0)) ?_
 refine pu1 <| gY ?_
 refine sF #[I s] Try.call86 (Calls.mono (r7_iss W _ _ [] s (Sat.flat b0)) ?_)
 rintro _ _ ⟨rfl, g0⟩
 refine ⟨_, rfl, ?_⟩
 have a0 := Sat.unflat g0; clear g0
 change Sat _ _ (H :: F) at a0
 refine pu2 <| nT ?_
 rcases Classical.em ((0 : Int) ≤ s ∧ s ≤ (24 : Int)) with e0 | e0
 rotate_left
 ·refine cT _ (congrArg Bool.not (decide_eq_false e0)) ?_
  refine sR <| pu1 <| nT ?_
  refine retE (thenK_r <| ?_)
  refine retT [I 0] ?_
  change Sat _ _ (H :: F) at a0
  refine ⟨?_, a0⟩
  unfold shiftV accP
  (repeat' split) <;> first | rfl | (exfalso; omega) | contradiction | (exfalso; simp_all; done) | (simp_all; done)
 refine cF _ (congrArg Bool.not (decide_eq_true e0)) ?_
 refine kT <| seqE <| sR <| pu2 <| nT ?_
 by_cases h0 : (s : Int) = 0
 ·refine cT _ (beq_iff_eq.2 h0) ?_
  refine sR <| pu2 <| nT ?_
  refine retE (thenK_r <| ?_)
  refine retT [I a] ?_
  change Sat _ _ (H :: F) at a0
  refine ⟨?_, a0⟩
  unfold shiftV accP
  (repeat' split) <;> first | rfl | (exfalso; omega) | contradiction | (exfalso; simp_all; done) | (simp_all; done)
 refine cF _ (beq_eq_false_iff_ne.2 h0) ?_
 refine kT <| seqE ?_
 have hp := pow2_pos ((s - 1)).toNat; have hp2 := pow2_le (a := ((s - 1)).toNat) (b := 24) om; have hd := pow2_pos (s).toNat; have hd2 := pow2_le (a := (s).toNat) (b := 24) om
 refine regionE <| pu2 ?_
 refine sSub s 1 ?_
 refine stepY (.int .u64 (s - 1)) rfl rfl (Y_conv (k := .i64) (a := (s - 1)) Try.underlying3 Try.underlying98 (wrapIn_u64 _ om) rfl kr) ?_
 refine stepY (I (2 ^ ((s - 1)).toNat)) rfl rfl (Y_shl1 (k' := .u64) (s - 1) rfl kr kr om) ?_
 refine sAdd a (2 ^ ((s - 1)).toNat) ?_
 refine pu1 ?_
 refine stepY (.int .u64 s) rfl rfl (Y_conv (k := .i64) (a := s) Try.underlying3 Try.underlying98 (wrapIn_u64 _ om) rfl kr) ?_
 refine stepY (I (2 ^ (s).toNat)) rfl rfl (Y_shl1 (k' := .u64) s rfl kr kr om) ?_
 refine pu2 <| nT <| seqE ?_
 have hq := Int.mul_tdiv_add_tmod (a + (2 ^ ((s - 1)).toNat)) (2 ^ (s).toNat); have hq1 := Int.tmod_lt_of_pos (a + (2 ^ ((s - 1)).toNat)) hd; have hq2 := Int.lt_tmod_of_pos (a + (2 ^ ((s - 1)).toNat)) hd; have hq3 := Int.mul_comm ((a + (2 ^ ((s - 1)).toNat)).tdiv (2 ^ (s).toNat)) (2 ^ (s).toNat); have hf := tdiv_floor (x := (a + (2 ^ ((s - 1)).toNat))) (d := (2 ^ (s).toNat)) hd; have hq5 := abs_le_mul (q := (a + (2 ^ ((s - 1)).toNat)).tdiv (2 ^ (s).toNat)) (A := 18014398509481984) hd om
 refine regionE <| pu2 ?_
 refine sQuo (a + (2 ^ ((s - 1)).toNat)) (2 ^ (s).toNat) ?_
 refine pu1 <| nT <| seqE <| sR <| pu2 ?_
 refine sMul ((a + (2 ^ ((s - 1)).toNat)).tdiv (2 ^ (s).toNat)) (2 ^ (s).toNat) ?_
 refine pu2 <| nT ?_
 by_cases c0 : ((((a + (2 ^ ((s - 1)).toNat)).tdiv (2 ^ (s).toNat)) * (2 ^ (s).toNat)) : Int) > (a + (2 ^ ((s - 1)).toNat))
 rotate_left
 ·refine cF _ (decide_eq_false c0) ?_
  refine kT <| sR <| pu2 <| nT <| retE <| retT [I ((a + (2 ^ ((s - 1)).toNat)).tdiv (2 ^ (s).toNat))] ?_
  change Sat _ _ (H :: F) at a0
  rw [if_neg c0] at hf
  exact ⟨by unfold shiftV; rw [if_pos (by unfold accP; omega), if_neg om, ← hf]; rfl, a0⟩
 refine cT _ (decide_eq_true c0) ?_
 refine regionE <| pu1 ?_
 refine sSub ((a + (2 ^ ((s - 1)).toNat)).tdiv (2 ^ (s).toNat)) 1 ?_
 refine pu1 <| nT <| sR <| pu2 <| nT <| retE <| retT [I (((a + (2 ^ ((s - 1)).toNat)).tdiv (2 ^ (s).toNat)) - 1)] ?_
 change Sat _ _ (H :: F) at a0
 rw [if_pos c0] at hf
 exact ⟨by unfold shiftV; rw [if_pos (by unfold accP; omega), if_neg om, ← hf]; rfl, a0⟩
theorem r7_span (W w : World) (H : Chunk) (F : List Chunk) (lo : Int) (up : Int) (s : Int) (hS : Sat W w (H :: F)) :
  Calls Try.prog 89 #[I lo, I up, I s] w fun e w' => e = .returned (.tuple #[I (shiftV lo s), I (shiftV up s)]) ∧ Sat W w' (H :: F) := by
 refine callsE (n := 14) Try.func89 rfl rfl (Nat.le_of_ble_eq_true rfl) ?_
 refine sR <| pu2 <| nT <| sR <| pu2 ?_
 refine sF #[I lo, I s] Try.call97 (Calls.mono (r7_shift W _ _ [] lo s (Sat.flat hS)) ?_)
 rintro _ _ ⟨rfl, b0⟩
 refine ⟨_, rfl, ?_⟩
 have c0 := Sat.unflat b0; clear b0
 change Sat _ _ (H :: F) at c0
 refine pu2 ?_
 refine sF #[I up, I s] Try.call97 (Calls.mono (r7_shift W _ _ [] up s (Sat.flat c0)) ?_)
 rintro _ _ ⟨rfl, d0⟩
 refine ⟨_, rfl, ?_⟩
 have a0 := Sat.unflat d0; clear d0
 change Sat _ _ (H :: F) at a0
 refine pu2 <| nT <| retE <| retT [I (shiftV lo s), I (shiftV up s)] ?_
 change Sat _ _ (H :: F) at a0
 exact ⟨rfl, a0⟩
theorem r3_valid (W w : World) (H : Chunk) (F : List Chunk) (e0 : Edge) (m : Int) (hS : Sat W w (H :: F)) :
  Calls Try.prog 74 #[.agg #[I e0.policy, I e0.fill], I m] w fun e w' => e = .returned (.bool (decide ((e0.policy = 3 ∧ 0 ≤ e0.fill ∧ e0.fill ≤ m) ∨ (0 ≤ e0.policy ∧ e0.policy < 3 ∧ e0.fill = 0)))) ∧ Sat W w' (H :: F) := by
 refine callsE (n := 30) Try.func74 rfl rfl (Nat.le_of_ble_eq_true rfl) ?_
 refine sR ?_
 refine sBox hS (.agg #[I e0.policy, I e0.fill]) #[I e0.policy, I e0.fill] ?_
 intro _ _ a0
 refine pu1 <| nT <| seqE <| sR <| pu1 ?_
 refine sL a0 0 0 (I e0.policy) (Try.isAgg3 _) ?_
 refine pu1 <| nT ?_
 by_cases b0 : (e0.policy : Int) = 3
 ·refine cT _ (beq_iff_eq.2 b0) ?_
  refine sR <| pu1 ?_
  refine sL a0 0 1 (I e0.fill) (Try.isAgg3 _) ?_
  refine pu2 ?_
  by_cases c0 : (e0.fill : Int) ≥ 0
  rotate_left
  ·refine sFix 11 _ false (decide_eq_false c0) ?_
   refine pu6 <| nT ?_
   refine retE (thenK_r <| ?_)
   refine retT [.bool false] ?_
   have d0 := ((a0.pick 1 rfl).dropAt 1 rfl)
   change Sat _ _ (H :: F) at d0
   refine ⟨congrArg (fun b => Ending.returned (.bool b)) ?_, d0⟩
   first | rfl | (rw [Bool.eq_iff_iff]; simp only [decide_eq_true_eq, beq_iff_eq, bne_iff_ne, ne_eq, Bool.not_eq_true', decide_eq_false_iff_not, true_iff, false_iff, iff_true, iff_false, Bool.false_eq_true, Bool.and_eq_true, Bool.or_eq_true, gt_iff_lt, ge_iff_le] <;> omega) | (rw [Bool.eq_iff_iff]; simp [*] <;> omega) | (simp_all; done)
  refine sFix 11 _ true (decide_eq_true c0) ?_
  refine pu1 <| gY ?_
  refine sL a0 0 1 (I e0.fill) (Try.isAgg3 _) ?_
  refine pu4 <| nT ?_
  refine retE (thenK_r <| ?_)
  refine retT [.bool (decide ((e0.fill : Int) ≤ m))] ?_
  have f0 := ((a0.pick 1 rfl).dropAt 1 rfl)
  change Sat _ _ (H :: F) at f0
  refine ⟨congrArg (fun b => Ending.returned (.bool b)) ?_, f0⟩
  first | rfl | (rw [Bool.eq_iff_iff]; simp only [decide_eq_true_eq, beq_iff_eq, bne_iff_ne, ne_eq, Bool.not_eq_true', decide_eq_false_iff_not, true_iff, false_iff, iff_true, iff_false, Bool.false_eq_true, Bool.and_eq_true, Bool.or_eq_true, gt_iff_lt, ge_iff_le] <;> omega) | (rw [Bool.eq_iff_iff]; simp [*] <;> omega) | (simp_all; done)
 refine cF _ (beq_eq_false_iff_ne.2 b0) ?_
 refine kT <| sR <| pu1 ?_
 refine sL a0 0 0 (I e0.policy) (Try.isAgg3 _) ?_
 refine pu2 ?_
 by_cases g0 : (e0.policy : Int) ≥ 0
 rotate_left
 ·refine sFix 20 _ false (decide_eq_false g0) ?_
  refine pu10 <| nT <| retE <| retT [.bool false] ?_
  have h0 := ((a0.pick 1 rfl).dropAt 1 rfl)
  change Sat _ _ (H :: F) at h0
  refine ⟨congrArg (fun b => Ending.returned (.bool b)) ?_, h0⟩
  first | rfl | (rw [Bool.eq_iff_iff]; simp only [decide_eq_true_eq, beq_iff_eq, bne_iff_ne, ne_eq, Bool.not_eq_true', decide_eq_false_iff_not, true_iff, false_iff, iff_true, iff_false, Bool.false_eq_true, Bool.and_eq_true, Bool.or_eq_true, gt_iff_lt, ge_iff_le] <;> omega) | (rw [Bool.eq_iff_iff]; simp [*] <;> omega) | (simp_all; done)
 refine sFix 20 _ true (decide_eq_true g0) ?_
 refine pu1 <| gY ?_
 refine sL a0 0 0 (I e0.policy) (Try.isAgg3 _) ?_
 refine pu3 ?_
 by_cases i0 : (e0.policy : Int) < 3
 rotate_left
 ·refine sFix 25 _ false (decide_eq_false i0) ?_
  refine pu5 <| nT <| retE <| retT [.bool false] ?_
  have j0 := ((a0.pick 1 rfl).dropAt 1 rfl)
  change Sat _ _ (H :: F) at j0
  refine ⟨congrArg (fun b => Ending.returned (.bool b)) ?_, j0⟩
  first | rfl | (rw [Bool.eq_iff_iff]; simp only [decide_eq_true_eq, beq_iff_eq, bne_iff_ne, ne_eq, Bool.not_eq_true', decide_eq_false_iff_not, true_iff, false_iff, iff_true, iff_false, Bool.false_eq_true, Bool.and_eq_true, Bool.or_eq_true, gt_iff_lt, ge_iff_le] <;> omega) | (rw [Bool.eq_iff_iff]; simp [*] <;> omega) | (simp_all; done)
 refine sFix 25 _ true (decide_eq_true i0) ?_
 refine pu1 <| gY ?_
 refine sL a0 0 1 (I e0.fill) (Try.isAgg3 _) ?_
 refine pu3 <| nT <| retE <| retT [.bool ((e0.fill : Int) == 0)] ?_
 have k0 := ((a0.pick 1 rfl).dropAt 1 rfl)
 change Sat _ _ (H :: F) at k0
 refine ⟨congrArg (fun b => Ending.returned (.bool b)) ?_, k0⟩
 first | rfl | (rw [Bool.eq_iff_iff]; simp only [decide_eq_true_eq, beq_iff_eq, bne_iff_ne, ne_eq, Bool.not_eq_true', decide_eq_false_iff_not, true_iff, false_iff, iff_true, iff_false, Bool.false_eq_true, Bool.and_eq_true, Bool.or_eq_true, gt_iff_lt, ge_iff_le] <;> omega) | (rw [Bool.eq_iff_iff]; simp [*] <;> omega) | (simp_all; done)

def mulOK (a b l : Int) : Bool := decide (0 ≤ a ∧ 0 ≤ b ∧ 0 ≤ l ∧ a * b ≤ l)
def mulV (a b l : Int) : Int := if mulOK a b l = true then a * b else 0
theorem mul_t {a b l : Int} (h : 0 ≤ a ∧ 0 ≤ b ∧ 0 ≤ l ∧ a * b ≤ l) : mulOK a b l = true ∧ mulV a b l = a * b := by
  have : mulOK a b l = true := decide_eq_true h
  exact ⟨this, by unfold mulV; rw [if_pos this]⟩
theorem mul_f {a b l : Int} (h : ¬ (0 ≤ a ∧ 0 ≤ b ∧ 0 ≤ l ∧ a * b ≤ l)) : mulOK a b l = false ∧ mulV a b l = 0 := by
  have : mulOK a b l = false := decide_eq_false h
  exact ⟨this, by unfold mulV; rw [this]; rfl⟩
theorem mul_le_of {a b l : Int} (ha : 0 ≤ a) (hb : 0 ≤ b) (hl : 0 ≤ l) (h : b = 0 ∨ (0 < b ∧ a ≤ l.tdiv b)) : 0 ≤ a * b ∧ a * b ≤ l := by
  refine ⟨Int.mul_nonneg ha hb, ?_⟩
  rcases h with rfl | ⟨h1, h2⟩
  · simpa using hl
  · rw [Int.tdiv_eq_ediv_of_nonneg hl] at h2
    exact (Int.le_ediv_iff_mul_le h1).1 h2
theorem mul_gt_of {a b l : Int} (hl : 0 ≤ l) (hb : 0 < b) (h : l.tdiv b < a) : l < a * b := by
  rw [Int.tdiv_eq_ediv_of_nonneg hl] at h
  have := mt (Int.le_ediv_iff_mul_le hb (a := a) (b := l)).2
  omega
def mostOK (w h m : Int) : Bool := decide (1 ≤ w ∧ 1 ≤ h ∧ 1 ≤ m ∧ w * h ≤ 4294967296 ∧ w * h * m ≤ 4294967296)
def mostV (w h m : Int) : Int := if mostOK w h m = true then w * h * m else 0
theorem most_t {w h m : Int} (x : 1 ≤ w ∧ 1 ≤ h ∧ 1 ≤ m ∧ w * h ≤ 4294967296 ∧ w * h * m ≤ 4294967296) : mostOK w h m = true ∧ mostV w h m = w * h * m := by
  have : mostOK w h m = true := decide_eq_true x
  exact ⟨this, by unfold mostV; rw [if_pos this]⟩
theorem most_f {w h m : Int} (x : ¬ (1 ≤ w ∧ 1 ≤ h ∧ 1 ≤ m ∧ w * h ≤ 4294967296 ∧ w * h * m ≤ 4294967296)) : mostOK w h m = false ∧ mostV w h m = 0 := by
  have : mostOK w h m = false := decide_eq_false x
  exact ⟨this, by unfold mostV; rw [this]; rfl⟩
theorem r1_mul (W w : World) (H : Chunk) (F : List Chunk) (a : Int) (b : Int) (l : Int) (hl : l ≤ 4611686018427387904) (hS : Sat W w (H :: F)) :
  Calls Try.prog 91 #[I a, I b, I l] w fun e w' => e = .returned (.tuple #[I (mulV a b l), .bool (mulOK a b l)]) ∧ Sat W w' (H :: F) := by
 refine callsE (n := 32) Try.func91 rfl rfl (Nat.le_of_ble_eq_true rfl) ?_
 refine sR <| pu2 <| nT <| seqE <| sR <| pu3 ?_
 by_cases a0 : (a : Int) < 0
 ·refine sFix 10 _ true (decide_eq_true a0) ?_
  refine pu16 <| pu2 <| nT <| cTt <| sR <| pu2 <| nT ?_
  refine retE (thenK_r <| ?_)
  refine retT [I 0, .bool false] ?_
  change Sat _ _ (H :: F) at hS
  obtain ⟨e1, e2⟩ := mul_f (a := a) (b := b) (l := l) (by first | omega | (have := mul_gt_of (a := a) (b := b) (l := l) om om om; omega))
  exact ⟨by rw [e1, e2]; rfl, hS⟩
 refine sFix 10 _ false (decide_eq_false a0) ?_
 refine pu4 ?_
 by_cases b0 : (b : Int) < 0
 ·refine sFix 14 _ true (decide_eq_true b0) ?_
  refine pu14 <| nT <| cTt <| sR <| pu2 <| nT ?_
  refine retE (thenK_r <| ?_)
  refine retT [I 0, .bool false] ?_
  change Sat _ _ (H :: F) at hS
  obtain ⟨e1, e2⟩ := mul_f (a := a) (b := b) (l := l) (by first | omega | (have := mul_gt_of (a := a) (b := b) (l := l) om om om; omega))
  exact ⟨by rw [e1, e2]; rfl, hS⟩
 refine sFix 14 _ false (decide_eq_false b0) ?_
 refine pu4 ?_
 by_cases c0 : (l : Int) < 0
 ·refine sFix 18 _ true (decide_eq_true c0) ?_
  refine pu10 <| nT <| cTt <| sR <| pu2 <| nT ?_
  refine retE (thenK_r <| ?_)
  refine retT [I 0, .bool false] ?_
  change Sat _ _ (H :: F) at hS
  obtain ⟨e1, e2⟩ := mul_f (a := a) (b := b) (l := l) (by first | omega | (have := mul_gt_of (a := a) (b := b) (l := l) om om om; omega))
  exact ⟨by rw [e1, e2]; rfl, hS⟩
 refine sFix 18 _ false (decide_eq_false c0) ?_
 refine pu3 ?_
 by_cases d0 : (b : Int) > 0
 rotate_left
 ·refine sFix 21 _ false (decide_eq_false d0) ?_
  refine pu7 <| nT <| cFf <| kT <| seqE ?_
  have hm := mul_le_of (a := a) (b := b) (l := l) om om om om
  refine regionE <| pu2 ?_
  refine sMul a b ?_
  refine pu2 <| nT <| retE <| retT [I (a * b), .bool true] ?_
  change Sat _ _ (H :: F) at hS
  obtain ⟨e1, e2⟩ := mul_t (a := a) (b := b) (l := l) om
  exact ⟨by rw [e1, e2]; rfl, hS⟩
 refine sFix 21 _ true (decide_eq_true d0) ?_
 refine pu3 <| gY ?_
 refine sQuo l b ?_
 refine pu3 <| nT ?_
 by_cases e0 : (a : Int) > (l.tdiv b)
 ·refine cT _ (decide_eq_true e0) ?_
  refine sR <| pu2 <| nT ?_
  refine retE (thenK_r <| ?_)
  refine retT [I 0, .bool false] ?_
  change Sat _ _ (H :: F) at hS
  obtain ⟨e1, e2⟩ := mul_f (a := a) (b := b) (l := l) (by first | omega | (have := mul_gt_of (a := a) (b := b) (l := l) om om om; omega))
  exact ⟨by rw [e1, e2]; rfl, hS⟩
 refine cF _ (decide_eq_false e0) ?_
 refine kT <| seqE ?_
 have hm := mul_le_of (a := a) (b := b) (l := l) om om om om
 refine regionE <| pu2 ?_
 refine sMul a b ?_
 refine pu2 <| nT <| retE <| retT [I (a * b), .bool true] ?_
 change Sat _ _ (H :: F) at hS
 obtain ⟨e1, e2⟩ := mul_t (a := a) (b := b) (l := l) om
 exact ⟨by rw [e1, e2]; rfl, hS⟩
theorem r13_most (W w : World) (H : Chunk) (F : List Chunk) (s : Shape) (hS : Sat W w (H :: F)) :
  Calls Try.prog 82 #[.agg #[I s.w, I s.h, I s.max_]] w fun e w' => e = .returned (.tuple #[I (mostV s.w s.h s.max_), .bool (mostOK s.w s.h s.max_)]) ∧ Sat W w' (H :: F) := by
 refine callsE (n := 37) Try.func82 rfl rfl (Nat.le_of_ble_eq_true rfl) ?_
 refine sR ?_
 refine sBox hS (.agg #[I s.w, I s.h, I s.max_]) #[I s.w, I s.h, I s.max_] ?_
 intro o0 _ b0
 refine pu2 <| nT <| sR <| pu1 ?_
 refine sL b0 0 0 (I s.w) (Try.isAgg3 _) ?_
 refine pu1 ?_
 refine sL b0 0 1 (I s.h) (Try.isAgg3 _) ?_
 refine sF #[I s.w, I s.h, I 4294967296] Try.call91 (Calls.mono (r1_mul W _ _ [] s.w s.h 4294967296 (od) (Sat.flat b0)) ?_)
 rintro _ _ ⟨rfl, i0⟩
 refine ⟨_, rfl, ?_⟩
 have a0 := Sat.unflat i0; clear i0
 change Sat _ _ ([(o0, .cells #[I s.w, I s.h, I s.max_] 55 (0, 0))] :: H :: F) at a0
 refine pu5 <| nT <| seqE <| sR <| pu3 ?_
 rcases Classical.em ((mulOK s.w s.h 4294967296) = true) with c0 | c0
 rotate_left
 ·refine sFix 16 _ true (congrArg Bool.not (Bool.eq_false_iff.2 c0)) ?_
  refine pu14 <| nT <| cTt <| sR <| pu2 <| nT ?_
  refine retE (thenK_r <| ?_)
  refine retT [I 0, .bool false] ?_
  have d0 := ((a0.pick 1 rfl).dropAt 1 rfl)
  change Sat _ _ (H :: F) at d0
  by_cases x1 : 0 ≤ s.w ∧ 0 ≤ s.h ∧ (0 : Int) ≤ 4294967296 ∧ s.w * s.h ≤ 4294967296
  ·obtain ⟨e1, e2⟩ := mul_t x1
   obtain ⟨e5, e6⟩ := most_f (w := s.w) (h := s.h) (m := s.max_) (by first | omega | (simp_all; done)); exact ⟨by rw [e5, e6]; rfl, d0⟩
  ·obtain ⟨e1, e2⟩ := mul_f x1
   obtain ⟨e5, e6⟩ := most_f (w := s.w) (h := s.h) (m := s.max_) om; exact ⟨by rw [e5, e6]; rfl, d0⟩
 refine sFix 16 _ false (congrArg Bool.not c0) ?_
 refine pu1 <| gY ?_
 refine sL a0 0 0 (I s.w) (Try.isAgg3 _) ?_
 refine pu3 ?_
 by_cases j0 : (s.w : Int) < 1
 ·refine sFix 21 _ true (decide_eq_true j0) ?_
  refine pu9 <| nT <| cTt <| sR <| pu2 <| nT ?_
  refine retE (thenK_r <| ?_)
  refine retT [I 0, .bool false] ?_
  have e0 := ((a0.pick 1 rfl).dropAt 1 rfl)
  change Sat _ _ (H :: F) at e0
  by_cases x1 : 0 ≤ s.w ∧ 0 ≤ s.h ∧ (0 : Int) ≤ 4294967296 ∧ s.w * s.h ≤ 4294967296
  ·obtain ⟨e1, e2⟩ := mul_t x1
   obtain ⟨e5, e6⟩ := most_f (w := s.w) (h := s.h) (m := s.max_) (by first | omega | (simp_all; done)); exact ⟨by rw [e5, e6]; rfl, e0⟩
  ·obtain ⟨e1, e2⟩ := mul_f x1
   obtain ⟨e5, e6⟩ := most_f (w := s.w) (h := s.h) (m := s.max_) om; exact ⟨by rw [e5, e6]; rfl, e0⟩
 refine sFix 21 _ false (decide_eq_false j0) ?_
 refine pu1 <| gY ?_
 refine sL a0 0 1 (I s.h) (Try.isAgg3 _) ?_
 refine pu3 ?_
 by_cases k0 : (s.h : Int) < 1
 ·refine sFix 26 _ true (decide_eq_true k0) ?_
  refine pu4 <| nT <| cTt <| sR <| pu2 <| nT ?_
  refine retE (thenK_r <| ?_)
  refine retT [I 0, .bool false] ?_
  have f0 := ((a0.pick 1 rfl).dropAt 1 rfl)
  change Sat _ _ (H :: F) at f0
  by_cases x1 : 0 ≤ s.w ∧ 0 ≤ s.h ∧ (0 : Int) ≤ 4294967296 ∧ s.w * s.h ≤ 4294967296
  ·obtain ⟨e1, e2⟩ := mul_t x1
   obtain ⟨e5, e6⟩ := most_f (w := s.w) (h := s.h) (m := s.max_) (by first | omega | (simp_all; done)); exact ⟨by rw [e5, e6]; rfl, f0⟩
  ·obtain ⟨e1, e2⟩ := mul_f x1
   obtain ⟨e5, e6⟩ := most_f (w := s.w) (h := s.h) (m := s.max_) om; exact ⟨by rw [e5, e6]; rfl, f0⟩
 refine sFix 26 _ false (decide_eq_false k0) ?_
 refine pu1 <| gY ?_
 refine sL a0 0 2 (I s.max_) (Try.isAgg3 _) ?_
 refine pu2 <| nT ?_
 by_cases l0 : (s.max_ : Int) < 1
 ·refine cT _ (decide_eq_true l0) ?_
  refine sR <| pu2 <| nT ?_
  refine retE (thenK_r <| ?_)
  refine retT [I 0, .bool false] ?_
  have g0 := ((a0.pick 1 rfl).dropAt 1 rfl)
  change Sat _ _ (H :: F) at g0
  by_cases x1 : 0 ≤ s.w ∧ 0 ≤ s.h ∧ (0 : Int) ≤ 4294967296 ∧ s.w * s.h ≤ 4294967296
  ·obtain ⟨e1, e2⟩ := mul_t x1
   obtain ⟨e5, e6⟩ := most_f (w := s.w) (h := s.h) (m := s.max_) (by first | omega | (simp_all; done)); exact ⟨by rw [e5, e6]; rfl, g0⟩
  ·obtain ⟨e1, e2⟩ := mul_f x1
   obtain ⟨e5, e6⟩ := most_f (w := s.w) (h := s.h) (m := s.max_) om; exact ⟨by rw [e5, e6]; rfl, g0⟩
 refine cF _ (decide_eq_false l0) ?_
 refine kT <| sR <| pu2 ?_
 refine sL a0 0 2 (I s.max_) (Try.isAgg3 _) ?_
 refine sF #[I (mulV s.w s.h 4294967296), I s.max_, I 4294967296] Try.call91 (Calls.mono (r1_mul W _ _ [] (mulV s.w s.h 4294967296) s.max_ 4294967296 (od) (Sat.flat a0)) ?_)
 rintro _ _ ⟨rfl, m0⟩
 refine ⟨_, rfl, ?_⟩
 have n0 := Sat.unflat m0; clear m0
 try dsimp only [List.set, List.eraseIdx, Value.cells] at n0
 refine pu4 <| nT <| retE <| retT [I (mulV (mulV s.w s.h 4294967296) s.max_ 4294967296), .bool (mulOK (mulV s.w s.h 4294967296) s.max_ 4294967296)] ?_
 have h0 := ((n0.pick 1 rfl).dropAt 1 rfl)
 change Sat _ _ (H :: F) at h0
 by_cases x1 : 0 ≤ s.w ∧ 0 ≤ s.h ∧ (0 : Int) ≤ 4294967296 ∧ s.w * s.h ≤ 4294967296
 ·obtain ⟨e1, e2⟩ := mul_t x1
  rw [e2]; by_cases x2 : 0 ≤ s.w * s.h ∧ 0 ≤ s.max_ ∧ (0 : Int) ≤ 4294967296 ∧ s.w * s.h * s.max_ ≤ 4294967296
  ·obtain ⟨e3, e4⟩ := mul_t x2; obtain ⟨e5, e6⟩ := most_t (w := s.w) (h := s.h) (m := s.max_) om; exact ⟨by rw [e3, e4, e5, e6]; rfl, h0⟩
  ·have hnn := mul_bd (a := s.w) (b := s.h) (A := s.w) (B := s.h) om om; obtain ⟨e3, e4⟩ := mul_f x2; obtain ⟨e5, e6⟩ := most_f (w := s.w) (h := s.h) (m := s.max_) om; exact ⟨by rw [e3, e4, e5, e6]; rfl, h0⟩
 ·obtain ⟨e1, e2⟩ := mul_f x1
  exfalso; simp_all; done
theorem r15_valid (W w : World) (H : Chunk) (F : List Chunk) (s : Shape) (hS : Sat W w (H :: F)) :
  Calls Try.prog 72 #[.agg #[I s.w, I s.h, I s.max_]] w fun e w' => e = .returned (.bool (decide ((1 : Int) ≤ s.w ∧ s.w ≤ (128 : Int) ∧ (1 : Int) ≤ s.h ∧ s.h ≤ (128 : Int) ∧ s.w * s.h ≤ (4096 : Int) ∧ (1 : Int) ≤ s.max_ ∧ s.max_ ≤ (4294967296 : Int)))) ∧ Sat W w' (H :: F) := by
 refine callsE (n := 10) Try.func72 rfl rfl (Nat.le_of_ble_eq_true rfl) ?_
 refine sR ?_
 refine sBox hS (.agg #[I s.w, I s.h, I s.max_]) #[I s.w, I s.h, I s.max_] ?_
 intro e0 _ a0
 refine pu1 <| nT <| sR <| pu1 ?_
 refine sL a0 0 0 (I s.w) (Try.isAgg3 _) ?_
 refine pu1 ?_
 refine sL a0 0 1 (I s.h) (Try.isAgg3 _) ?_
 refine pu1 ?_
 refine sL a0 0 2 (I s.max_) (Try.isAgg3 _) ?_
 refine sF #[I s.w, I s.h, I s.max_] Try.call70 (Calls.mono (r4_size W _ _ [] s.w s.h s.max_ (Sat.flat a0)) ?_)
 rintro _ _ ⟨rfl, b0⟩
 refine ⟨_, rfl, ?_⟩
 have c0 := Sat.unflat b0; clear b0
 change Sat _ _ ([(e0, .cells #[I s.w, I s.h, I s.max_] 55 (0, 0))] :: H :: F) at c0
 refine pu1 <| nT <| retE <| retT [.bool (decide ((1 : Int) ≤ s.w ∧ s.w ≤ (128 : Int) ∧ (1 : Int) ≤ s.h ∧ s.h ≤ (128 : Int) ∧ s.w * s.h ≤ (4096 : Int) ∧ (1 : Int) ≤ s.max_ ∧ s.max_ ≤ (4294967296 : Int)))] ?_
 have d0 := ((c0.pick 1 rfl).dropAt 1 rfl)
 change Sat _ _ (H :: F) at d0
 refine ⟨congrArg (fun b => Ending.returned (.bool b)) ?_, d0⟩
 first | rfl | (rw [Bool.eq_iff_iff]; simp only [decide_eq_true_eq, beq_iff_eq, bne_iff_ne, ne_eq, Bool.not_eq_true', decide_eq_false_iff_not, true_iff, false_iff, iff_true, iff_false, Bool.false_eq_true, Bool.and_eq_true, Bool.or_eq_true, gt_iff_lt, ge_iff_le] <;> omega) | (rw [Bool.eq_iff_iff]; simp [*] <;> omega) | (simp_all; done)
theorem r15_two (W w : World) (H : Chunk) (F : List Chunk) (q : Stage) (hq : Stage.Ok [H] q) (hS : Sat W w (H :: F)) :
  Calls Try.prog 60 #[.agg (encStage q).toArray] w fun e w' => e = .returned (.bool (decide (q.kind = 6 ∧ ¬ q.b = -1))) ∧ Sat W w' (H :: F) := by
 have hl_q_weights := hq.weights.le; have hn_q_weights := hq.weights.len
 have hl_q_row := hq.row.le; have hn_q_row := hq.row.len
 have hl_q_col := hq.col.le; have hn_q_col := hq.col.len
 have hl_q_x := hq.x.le; have hn_q_x := hq.x.len
 have hl_q_y := hq.y.le; have hn_q_y := hq.y.len
 have hl_q_ops := hq.ops.le; have hn_q_ops := hq.ops.len
 refine callsE (n := 11) Try.func60 rfl rfl (Nat.le_of_ble_eq_true rfl) ?_
 refine sR ?_
 refine sBox hS (.agg (encStage q).toArray) (encStage q).toArray ?_
 intro _ _ a0
 refine pu1 <| nT <| sR <| pu1 ?_
 refine sL a0 0 0 (I q.kind) (Try.isAgg3 _) ?_
 refine pu2 ?_
 by_cases b0 : (q.kind : Int) = 6
 rotate_left
 ·refine sFix 6 _ false (beq_eq_false_iff_ne.2 b0) ?_
  refine pu5 <| nT <| retE <| retT [.bool false] ?_
  have c0 := ((a0.pick 1 rfl).dropAt 1 rfl)
  change Sat _ _ (H :: F) at c0
  refine ⟨congrArg (fun b => Ending.returned (.bool b)) ?_, c0⟩
  first | rfl | (rw [Bool.eq_iff_iff]; simp only [decide_eq_true_eq, beq_iff_eq, bne_iff_ne, ne_eq, Bool.not_eq_true', decide_eq_false_iff_not, true_iff, false_iff, iff_true, iff_false, Bool.false_eq_true, Bool.and_eq_true, Bool.or_eq_true, gt_iff_lt, ge_iff_le] <;> omega) | (rw [Bool.eq_iff_iff]; simp [*] <;> omega) | (simp_all; done)
 refine sFix 6 _ true (beq_iff_eq.2 b0) ?_
 refine pu1 <| gY ?_
 refine sL a0 0 2 (I q.b) (Try.isAgg3 _) ?_
 refine pu3 <| nT <| retE <| retT [.bool ((q.b : Int) != (-1))] ?_
 have d0 := ((a0.pick 1 rfl).dropAt 1 rfl)
 change Sat _ _ (H :: F) at d0
 refine ⟨congrArg (fun b => Ending.returned (.bool b)) ?_, d0⟩
 first | rfl | (rw [Bool.eq_iff_iff]; simp only [decide_eq_true_eq, beq_iff_eq, bne_iff_ne, ne_eq, Bool.not_eq_true', decide_eq_false_iff_not, true_iff, false_iff, iff_true, iff_false, Bool.false_eq_true, Bool.and_eq_true, Bool.or_eq_true, gt_iff_lt, ge_iff_le] <;> omega) | (rw [Bool.eq_iff_iff]; simp [*] <;> omega) | (simp_all; done)
theorem r15_edged (W w : World) (H : Chunk) (F : List Chunk) (x : Int) (hS : Sat W w (H :: F)) :
  Calls Try.prog 73 #[I x] w fun e w' => e = .returned (.bool (decide (x = 1 ∨ x = 2 ∨ x = 3))) ∧ Sat W w' (H :: F) := by
 refine callsE (n := 13) Try.func73 rfl rfl (Nat.le_of_ble_eq_true rfl) ?_
 refine sR <| pu1 <| nT <| sR <| pu3 ?_
 by_cases a0 : (x : Int) = 1
 ·refine sFix 5 _ true (beq_iff_eq.2 a0) ?_
  refine pu8 <| nT <| retE <| retT [.bool true] ?_
  change Sat _ _ (H :: F) at hS
  refine ⟨congrArg (fun b => Ending.returned (.bool b)) ?_, hS⟩
  first | rfl | (rw [Bool.eq_iff_iff]; simp only [decide_eq_true_eq, beq_iff_eq, bne_iff_ne, ne_eq, Bool.not_eq_true', decide_eq_false_iff_not, true_iff, false_iff, iff_true, iff_false, Bool.false_eq_true, Bool.and_eq_true, Bool.or_eq_true, gt_iff_lt, ge_iff_le] <;> omega) | (rw [Bool.eq_iff_iff]; simp [*] <;> omega) | (simp_all; done)
 refine sFix 5 _ false (beq_eq_false_iff_ne.2 a0) ?_
 refine pu4 ?_
 by_cases b0 : (x : Int) = 2
 ·refine sFix 9 _ true (beq_iff_eq.2 b0) ?_
  refine pu4 <| nT <| retE <| retT [.bool true] ?_
  change Sat _ _ (H :: F) at hS
  refine ⟨congrArg (fun b => Ending.returned (.bool b)) ?_, hS⟩
  first | rfl | (rw [Bool.eq_iff_iff]; simp only [decide_eq_true_eq, beq_iff_eq, bne_iff_ne, ne_eq, Bool.not_eq_true', decide_eq_false_iff_not, true_iff, false_iff, iff_true, iff_false, Bool.false_eq_true, Bool.and_eq_true, Bool.or_eq_true, gt_iff_lt, ge_iff_le] <;> omega) | (rw [Bool.eq_iff_iff]; simp [*] <;> omega) | (simp_all; done)
 refine sFix 9 _ false (beq_eq_false_iff_ne.2 b0) ?_
 refine pu4 <| nT <| retE <| retT [.bool ((x : Int) == 3)] ?_
 change Sat _ _ (H :: F) at hS
 refine ⟨congrArg (fun b => Ending.returned (.bool b)) ?_, hS⟩
 first | rfl | (rw [Bool.eq_iff_iff]; simp only [decide_eq_true_eq, beq_iff_eq, bne_iff_ne, ne_eq, Bool.not_eq_true', decide_eq_false_iff_not, true_iff, false_iff, iff_true, iff_false, Bool.false_eq_true, Bool.and_eq_true, Bool.or_eq_true, gt_iff_lt, ge_iff_le] <;> omega) | (rw [Bool.eq_iff_iff]; simp [*] <;> omega) | (simp_all; done)
def fieldsP (s : StageV) : Prop := ¬ (¬ ((1 ≤ s.kind ∧ s.kind ≤ 6) ∧ (s.kind = 6 ∨ s.b = -1))) ∧ ¬ (¬ (s.kind = 1 ∨ s.kind = 2 ∨ s.kind = 3) ∧ ¬ (s.edgePolicy = 0 ∧ s.edgeFill = 0)) ∧ ¬ (¬ s.kind = 1 ∧ ¬ (s.kW = 0 ∧ s.kH = 0 ∧ s.weights.length = 0)) ∧ ¬ (¬ s.kind = 2 ∧ ¬ (s.row.length = 0 ∧ s.col.length = 0)) ∧ ¬ (¬ s.kind = 3 ∧ ¬ (s.x.length = 0 ∧ s.y.length = 0)) ∧ ¬ (¬ (s.kind = 1 ∨ s.kind = 2 ∨ s.kind = 3) ∧ ¬ s.shift = 0) ∧ ¬ ((¬ s.kind = 2 ∧ ¬ s.kind = 3) ∧ ¬ s.shift2 = 0) ∧ ¬ (¬ s.kind = 4 ∧ ¬ s.bins = 0) ∧ ¬ (¬ s.kind = 6 ∧ ¬ s.ops.length = 0) ∧ ¬ ((s.kind = 4 ∨ s.kind = 5) ∧ ¬ s.max_ = 0)
instance (s : StageV) : Decidable (fieldsP s) := by unfold fieldsP; infer_instance
theorem r15_fields (W w : World) (H : Chunk) (F : List Chunk) (q : Stage) (hq : Stage.Ok [H] q) (hS : Sat W w (H :: F)) :
  Calls Try.prog 71 #[.agg (encStage q).toArray] w fun e w' => e = .returned (.bool (decide (fieldsP q.v))) ∧ Sat W w' (H :: F) := by
 have hl_q_weights := hq.weights.le; have hn_q_weights := hq.weights.len
 have hl_q_row := hq.row.le; have hn_q_row := hq.row.len
 have hl_q_col := hq.col.le; have hn_q_col := hq.col.len
 have hl_q_x := hq.x.le; have hn_q_x := hq.x.len
 have hl_q_y := hq.y.le; have hn_q_y := hq.y.len
 have hl_q_ops := hq.ops.le; have hn_q_ops := hq.ops.len
 have hmx : (q.x.l.map Tap.v).length = q.x.n := by simp [hn_q_x]
 have hmy : (q.y.l.map Tap.v).length = q.y.n := by simp [hn_q_y]
 refine callsE (n := 148) Try.func71 rfl rfl (Nat.le_of_ble_eq_true rfl) ?_
 refine sR ?_
 refine sBox hS (.agg (encStage q).toArray) (encStage q).toArray ?_
 intro a0 _ b0
 refine pu1 <| nT <| seqE ?_
 refine cutE (fun ρ w => AllAt ρ [(1, Pt a0 0), (2, .bool false), (23, .bool (decide (¬ ((1 ≤ q.kind ∧ q.kind ≤ 6) ∧ (q.kind = 6 ∨ q.b = -1)))))] ∧ Sat W w ([(a0, .cells (encStage q).toArray 61 (0, 0))] :: H :: F)) ?_ ?_
 ·refine regionE <| pu1 ?_
  refine sL b0 0 0 (I q.kind) (Try.isAgg3 _) ?_
  refine pu2 ?_
  by_cases z0 : (q.kind : Int) < 1
  ·refine sFix 9 _ true (decide_eq_true z0) ?_
   refine pu14 <| nT ?_
   exact ⟨⟨kr, kr, (Eq.trans (b := .bool true) kr (congrArg Value.bool (decide_eq_true (p := ¬ ((1 ≤ q.kind ∧ q.kind ≤ 6) ∧ (q.kind = 6 ∨ q.b = -1))) om).symm)), trivial⟩, b0⟩
  refine sFix 9 _ false (decide_eq_false z0) ?_
  refine pu1 <| gY ?_
  refine sL b0 0 0 (I q.kind) (Try.isAgg3 _) ?_
  refine pu3 ?_
  by_cases a1 : (q.kind : Int) > 6
  ·refine sFix 14 _ true (decide_eq_true a1) ?_
   refine pu9 <| nT ?_
   exact ⟨⟨kr, kr, (Eq.trans (b := .bool true) kr (congrArg Value.bool (decide_eq_true (p := ¬ ((1 ≤ q.kind ∧ q.kind ≤ 6) ∧ (q.kind = 6 ∨ q.b = -1))) om).symm)), trivial⟩, b0⟩
  refine sFix 14 _ false (decide_eq_false a1) ?_
  refine pu1 <| gY ?_
  refine sL b0 0 0 (I q.kind) (Try.isAgg3 _) ?_
  refine pu2 ?_
  by_cases b1 : (q.kind : Int) = 6
  ·refine sFix 18 _ false (bne_eq_false_iff_eq.2 b1) ?_
   refine pu5 <| nT ?_
   exact ⟨⟨kr, kr, (Eq.trans (b := .bool false) kr (congrArg Value.bool (decide_eq_false (p := ¬ ((1 ≤ q.kind ∧ q.kind ≤ 6) ∧ (q.kind = 6 ∨ q.b = -1))) om).symm)), trivial⟩, b0⟩
  refine sFix 18 _ true (bne_iff_ne.2 b1) ?_
  refine pu1 <| gY ?_
  refine sL b0 0 2 (I q.b) (Try.isAgg3 _) ?_
  refine pu3 <| nT ?_
  exact ⟨⟨kr, kr, (Eq.trans (b := .bool ((q.b : Int) != (-1))) kr (congrArg Value.bool (by rw [Bool.eq_iff_iff]; simp only [decide_eq_true_eq, beq_iff_eq, bne_iff_ne, ne_eq, Bool.not_eq_true', decide_eq_false_iff_not, gt_iff_lt, ge_iff_le, Bool.and_eq_true, Bool.or_eq_true, Bool.not_eq_eq_eq_not, Bool.not_true, Bool.and_eq_false_imp, beq_eq_false_iff_ne] <;> omega))), trivial⟩, b0⟩
 rintro ρ _ ⟨hA, g0⟩
 refine cAnchor hA (fun ρ => ?_)
 clear hA
 rcases Classical.em (¬ ((1 ≤ q.kind ∧ q.kind ≤ 6) ∧ (q.kind = 6 ∨ q.b = -1))) with h0 | h0
 ·refine cT _ (decide_eq_true h0) ?_
  refine sR <| pu1 <| nT ?_
  refine retE (thenK_r <| ?_)
  refine retT [.bool false] ?_
  have c1 := ((g0.pick 1 rfl).dropAt 1 rfl)
  change Sat _ _ (H :: F) at c1
  exact ⟨congrArg (fun b => Ending.returned (.bool b)) (decide_eq_false (p := fieldsP q.v) (fun h => h.1 h0)).symm, c1⟩
 refine cF _ (decide_eq_false h0) ?_
 refine kT <| seqE ?_
 refine drawE [] [(1, ⟨a0, 0, none⟩, I q.kind), (4, ⟨a0, 0, none⟩, I q.kind), (7, ⟨a0, 0, none⟩, I q.kind)] [(true, [0, 3, 6]), (true, [1]), (true, [2, 9]), (true, [4]), (true, [5, 10]), (true, [7]), (true, [8, 11])] rfl kr ⟨.inr (g0.cell 0 rfl rfl), .inr (g0.cell 0 rfl rfl), .inr (g0.cell 0 rfl rfl), trivial⟩ ?_
 have d1 := g0.drew
 refine wU [0, 3, 6] ?_
 refine wS (I q.kind) rfl rfl rfl (fun w hF => Y_load rfl (Try.isAgg3 w) kr (hF 0 _ _ rfl)) ?_
 refine wU [2, 9] ?_
 refine wS (I q.kind) rfl rfl rfl (fun w hF => Y_load rfl (Try.isAgg3 w) kr (hF 1 _ _ rfl)) ?_
 refine wU [5, 10] ?_
 refine wS (I q.kind) rfl rfl rfl (fun w hF => Y_load rfl (Try.isAgg3 w) kr (hF 2 _ _ rfl)) ?_
 refine wU [8, 11] ?_
 refine wN ?_
 refine thenK_n <| seqE <| blockE ?_
 refine cutE (fun ρ w => AllAt ρ [(1, Pt a0 0), (2, .bool false), (3, .bool ((q.kind : Int) == 1)), (4, .bool ((q.kind : Int) == 2)), (5, .bool ((q.kind : Int) == 3)), (33, .bool (decide (¬ (q.kind = 1 ∨ q.kind = 2 ∨ q.kind = 3) ∧ ¬ (q.edgePolicy = 0 ∧ q.edgeFill = 0))))] ∧ Sat W w ([(a0, .cells (encStage q).toArray 61 (0, 0))] :: H :: F)) ?_ ?_
 ·refine regionE <| pu1 ?_
  refine sL d1 0 0 (I q.kind) (Try.isAgg3 _) ?_
  refine sF #[I q.kind] Try.call73 (Calls.mono (r15_edged W _ _ [] q.kind (Sat.flat d1)) ?_)
  rintro _ _ ⟨rfl, e1⟩
  refine ⟨_, rfl, ?_⟩
  have u0 := Sat.unflat e1; clear e1
  change Sat _ _ ([(a0, .cells (encStage q).toArray 61 (0, 0))] :: H :: F) at u0
  refine pu2 ?_
  rcases Classical.em (q.kind = 1 ∨ q.kind = 2 ∨ q.kind = 3) with w0 | w0
  ·refine sFix 38 _ false (congrArg Bool.not (decide_eq_true w0)) ?_
   refine pu6 <| nT ?_
   exact ⟨⟨kr, kr, kr, kr, kr, (Eq.trans (b := .bool false) kr (congrArg Value.bool (decide_eq_false (p := ¬ (q.kind = 1 ∨ q.kind = 2 ∨ q.kind = 3) ∧ ¬ (q.edgePolicy = 0 ∧ q.edgeFill = 0)) om).symm)), trivial⟩, u0⟩
  refine sFix 38 _ true (congrArg Bool.not (decide_eq_false w0)) ?_
  refine pu1 <| gY ?_
  refine sLA u0 0 4 [I q.edgePolicy, I q.edgeFill] (Try.isAgg57 _) (Try.sizeOf57 _) ?_
  refine pu1 <| gY ?_
  refine stepY (.bool (!(((q.edgePolicy : Int) == 0) && ((q.edgeFill : Int) == 0)))) rfl rfl (Y_eqS rfl kr kr (eqvn57 _ q.edgePolicy q.edgeFill 0 0)) ?_
  refine pu2 <| nT ?_
  exact ⟨⟨kr, kr, kr, kr, kr, (Eq.trans (b := .bool (!(((q.edgePolicy : Int) == 0) && ((q.edgeFill : Int) == 0)))) kr (congrArg Value.bool (by rw [Bool.eq_iff_iff]; simp only [decide_eq_true_eq, beq_iff_eq, bne_iff_ne, ne_eq, Bool.not_eq_true', decide_eq_false_iff_not, gt_iff_lt, ge_iff_le, Bool.and_eq_true, Bool.or_eq_true, Bool.not_eq_eq_eq_not, Bool.not_true, Bool.and_eq_false_imp, beq_eq_false_iff_ne] <;> omega))), trivial⟩, u0⟩
 rintro ρ _ ⟨hA, c0⟩
 refine cAnchor hA (fun ρ => ?_)
 clear hA
 rcases Classical.em (¬ (q.kind = 1 ∨ q.kind = 2 ∨ q.kind = 3) ∧ ¬ (q.edgePolicy = 0 ∧ q.edgeFill = 0)) with i0 | i0
 ·refine cT _ (decide_eq_true i0) ?_
  refine skipE <| blockK_n <| thenK_n <| sR <| pu1 <| nT <| retE <| retT [.bool false] ?_
  have f1 := ((c0.pick 1 rfl).dropAt 1 rfl)
  change Sat _ _ (H :: F) at f1
  exact ⟨congrArg (fun b => Ending.returned (.bool b)) (decide_eq_false (p := fieldsP q.v) (fun h => h.2.1 i0)).symm, f1⟩
 refine cF _ (decide_eq_false i0) ?_
 refine cutE (fun ρ w => AllAt ρ [(1, Pt a0 0), (2, .bool false), (4, .bool ((q.kind : Int) == 2)), (5, .bool ((q.kind : Int) == 3)), (44, .bool (decide (¬ q.kind = 1 ∧ ¬ (q.kW = 0 ∧ q.kH = 0 ∧ q.weights.l.length = 0))))] ∧ Sat W w ([(a0, .cells (encStage q).toArray 61 (0, 0))] :: H :: F)) ?_ ?_
 ·refine regionE <| pu3 ?_
  by_cases g1 : (q.kind : Int) = 1
  ·refine sFix 47 _ false (congrArg Bool.not (beq_iff_eq.2 g1)) ?_
   refine pu16 <| nT ?_
   exact ⟨⟨kr, kr, kr, kr, (Eq.trans (b := .bool false) kr (congrArg Value.bool (decide_eq_false (p := ¬ q.kind = 1 ∧ ¬ (q.kW = 0 ∧ q.kH = 0 ∧ q.weights.l.length = 0)) om).symm)), trivial⟩, c0⟩
  refine sFix 47 _ true (congrArg Bool.not (beq_eq_false_iff_ne.2 g1)) ?_
  refine pu1 <| gY ?_
  refine sL c0 0 6 (I q.kW) (Try.isAgg3 _) ?_
  refine pu2 ?_
  by_cases h1 : (q.kW : Int) = 0
  rotate_left
  ·refine sFix 51 _ true (bne_iff_ne.2 h1) ?_
   refine pu12 <| nT ?_
   exact ⟨⟨kr, kr, kr, kr, (Eq.trans (b := .bool true) kr (congrArg Value.bool (decide_eq_true (p := ¬ q.kind = 1 ∧ ¬ (q.kW = 0 ∧ q.kH = 0 ∧ q.weights.l.length = 0)) om).symm)), trivial⟩, c0⟩
  refine sFix 51 _ false (bne_eq_false_iff_eq.2 h1) ?_
  refine pu1 <| gY ?_
  refine sL c0 0 7 (I q.kH) (Try.isAgg3 _) ?_
  refine pu3 ?_
  by_cases i1 : (q.kH : Int) = 0
  rotate_left
  ·refine sFix 56 _ true (bne_iff_ne.2 i1) ?_
   refine pu7 <| nT ?_
   exact ⟨⟨kr, kr, kr, kr, (Eq.trans (b := .bool true) kr (congrArg Value.bool (decide_eq_true (p := ¬ q.kind = 1 ∧ ¬ (q.kW = 0 ∧ q.kH = 0 ∧ q.weights.l.length = 0)) om).symm)), trivial⟩, c0⟩
  refine sFix 56 _ false (bne_eq_false_iff_eq.2 i1) ?_
  refine pu1 <| gY ?_
  refine sL c0 0 8 (.slice q.weights.a q.weights.n q.weights.k) (Try.isAgg22 _) ?_
  refine pu5 <| nT ?_
  exact ⟨⟨kr, kr, kr, kr, (Eq.trans (b := .bool (decide ((((q.weights.n : Nat) : Int) : Int) > 0))) kr (congrArg Value.bool (by rw [Bool.eq_iff_iff]; simp only [decide_eq_true_eq, beq_iff_eq, bne_iff_ne, ne_eq, Bool.not_eq_true', decide_eq_false_iff_not, gt_iff_lt, ge_iff_le, Bool.and_eq_true, Bool.or_eq_true, Bool.not_eq_eq_eq_not, Bool.not_true, Bool.and_eq_false_imp, beq_eq_false_iff_ne] <;> omega))), trivial⟩, c0⟩
 rintro ρ _ ⟨hA, e0⟩
 refine cAnchor hA (fun ρ => ?_)
 clear hA
 rcases Classical.em (¬ q.kind = 1 ∧ ¬ (q.kW = 0 ∧ q.kH = 0 ∧ q.weights.l.length = 0)) with j0 | j0
 ·refine cT _ (decide_eq_true j0) ?_
  refine skipE <| blockK_n <| thenK_n <| sR <| pu1 <| nT <| retE <| retT [.bool false] ?_
  have j1 := ((e0.pick 1 rfl).dropAt 1 rfl)
  change Sat _ _ (H :: F) at j1
  exact ⟨congrArg (fun b => Ending.returned (.bool b)) (decide_eq_false (p := fieldsP q.v) (fun h => h.2.2.1 j0)).symm, j1⟩
 refine cF _ (decide_eq_false j0) ?_
 refine cutE (fun ρ w => AllAt ρ [(1, Pt a0 0), (2, .bool false), (4, .bool ((q.kind : Int) == 2)), (5, .bool ((q.kind : Int) == 3)), (63, .bool (decide (¬ q.kind = 2 ∧ ¬ (q.row.l.length = 0 ∧ q.col.l.length = 0))))] ∧ Sat W w ([(a0, .cells (encStage q).toArray 61 (0, 0))] :: H :: F)) ?_ ?_
 ·refine regionE <| pu3 ?_
  by_cases k1 : (q.kind : Int) = 2
  ·refine sFix 66 _ false (congrArg Bool.not (beq_iff_eq.2 k1)) ?_
   refine pu12 <| nT ?_
   exact ⟨⟨kr, kr, kr, kr, (Eq.trans (b := .bool false) kr (congrArg Value.bool (decide_eq_false (p := ¬ q.kind = 2 ∧ ¬ (q.row.l.length = 0 ∧ q.col.l.length = 0)) om).symm)), trivial⟩, e0⟩
  refine sFix 66 _ true (congrArg Bool.not (beq_eq_false_iff_ne.2 k1)) ?_
  refine pu1 <| gY ?_
  refine sL e0 0 9 (.slice q.row.a q.row.n q.row.k) (Try.isAgg22 _) ?_
  refine pu3 ?_
  by_cases l1 : (((q.row.n : Nat) : Int) : Int) > 0
  ·refine sFix 71 _ true (decide_eq_true l1) ?_
   refine pu7 <| nT ?_
   exact ⟨⟨kr, kr, kr, kr, (Eq.trans (b := .bool true) kr (congrArg Value.bool (decide_eq_true (p := ¬ q.kind = 2 ∧ ¬ (q.row.l.length = 0 ∧ q.col.l.length = 0)) om).symm)), trivial⟩, e0⟩
  refine sFix 71 _ false (decide_eq_false l1) ?_
  refine pu1 <| gY ?_
  refine sL e0 0 10 (.slice q.col.a q.col.n q.col.k) (Try.isAgg22 _) ?_
  refine pu5 <| nT ?_
  exact ⟨⟨kr, kr, kr, kr, (Eq.trans (b := .bool (decide ((((q.col.n : Nat) : Int) : Int) > 0))) kr (congrArg Value.bool (by rw [Bool.eq_iff_iff]; simp only [decide_eq_true_eq, beq_iff_eq, bne_iff_ne, ne_eq, Bool.not_eq_true', decide_eq_false_iff_not, gt_iff_lt, ge_iff_le, Bool.and_eq_true, Bool.or_eq_true, Bool.not_eq_eq_eq_not, Bool.not_true, Bool.and_eq_false_imp, beq_eq_false_iff_ne] <;> omega))), trivial⟩, e0⟩
 rintro ρ _ ⟨hA, f0⟩
 refine cAnchor hA (fun ρ => ?_)
 clear hA
 rcases Classical.em (¬ q.kind = 2 ∧ ¬ (q.row.l.length = 0 ∧ q.col.l.length = 0)) with k0 | k0
 ·refine cT _ (decide_eq_true k0) ?_
  refine skipE <| blockK_n <| thenK_n <| sR <| pu1 <| nT <| retE <| retT [.bool false] ?_
  have m1 := ((f0.pick 1 rfl).dropAt 1 rfl)
  change Sat _ _ (H :: F) at m1
  exact ⟨congrArg (fun b => Ending.returned (.bool b)) (decide_eq_false (p := fieldsP q.v) (fun h => h.2.2.2.1 k0)).symm, m1⟩
 refine cF _ (decide_eq_false k0) ?_
 refine cutE (fun ρ w => AllAt ρ [(1, Pt a0 0), (2, .bool false), (4, .bool ((q.kind : Int) == 2)), (5, .bool ((q.kind : Int) == 3)), (78, .bool (decide (¬ q.kind = 3 ∧ ¬ ((q.x.l.map Tap.v).length = 0 ∧ (q.y.l.map Tap.v).length = 0))))] ∧ Sat W w ([(a0, .cells (encStage q).toArray 61 (0, 0))] :: H :: F)) ?_ ?_
 ·refine regionE <| pu3 ?_
  by_cases n1 : (q.kind : Int) = 3
  ·refine sFix 81 _ false (congrArg Bool.not (beq_iff_eq.2 n1)) ?_
   refine pu12 <| nT ?_
   exact ⟨⟨kr, kr, kr, kr, (Eq.trans (b := .bool false) kr (congrArg Value.bool (decide_eq_false (p := ¬ q.kind = 3 ∧ ¬ ((q.x.l.map Tap.v).length = 0 ∧ (q.y.l.map Tap.v).length = 0)) om).symm)), trivial⟩, f0⟩
  refine sFix 81 _ true (congrArg Bool.not (beq_eq_false_iff_ne.2 n1)) ?_
  refine pu1 <| gY ?_
  refine sL f0 0 13 (.slice q.x.a q.x.n q.x.k) (Try.isAgg58 _) ?_
  refine pu3 ?_
  by_cases o1 : (((q.x.n : Nat) : Int) : Int) > 0
  ·refine sFix 86 _ true (decide_eq_true o1) ?_
   refine pu7 <| nT ?_
   exact ⟨⟨kr, kr, kr, kr, (Eq.trans (b := .bool true) kr (congrArg Value.bool (decide_eq_true (p := ¬ q.kind = 3 ∧ ¬ ((q.x.l.map Tap.v).length = 0 ∧ (q.y.l.map Tap.v).length = 0)) om).symm)), trivial⟩, f0⟩
  refine sFix 86 _ false (decide_eq_false o1) ?_
  refine pu1 <| gY ?_
  refine sL f0 0 14 (.slice q.y.a q.y.n q.y.k) (Try.isAgg58 _) ?_
  refine pu5 <| nT ?_
  exact ⟨⟨kr, kr, kr, kr, (Eq.trans (b := .bool (decide ((((q.y.n : Nat) : Int) : Int) > 0))) kr (congrArg Value.bool (by rw [Bool.eq_iff_iff]; simp only [decide_eq_true_eq, beq_iff_eq, bne_iff_ne, ne_eq, Bool.not_eq_true', decide_eq_false_iff_not, gt_iff_lt, ge_iff_le, Bool.and_eq_true, Bool.or_eq_true, Bool.not_eq_eq_eq_not, Bool.not_true, Bool.and_eq_false_imp, beq_eq_false_iff_ne] <;> omega))), trivial⟩, f0⟩
 rintro ρ _ ⟨hA, x0⟩
 refine cAnchor hA (fun ρ => ?_)
 clear hA
 rcases Classical.em (¬ q.kind = 3 ∧ ¬ ((q.x.l.map Tap.v).length = 0 ∧ (q.y.l.map Tap.v).length = 0)) with l0 | l0
 ·refine cT _ (decide_eq_true l0) ?_
  refine skipE <| blockK_n <| thenK_n <| sR <| pu1 <| nT <| retE <| retT [.bool false] ?_
  have p1 := ((x0.pick 1 rfl).dropAt 1 rfl)
  change Sat _ _ (H :: F) at p1
  exact ⟨congrArg (fun b => Ending.returned (.bool b)) (decide_eq_false (p := fieldsP q.v) (fun h => h.2.2.2.2.1 l0)).symm, p1⟩
 refine cF _ (decide_eq_false l0) ?_
 refine cutE (fun ρ w => AllAt ρ [(1, Pt a0 0), (2, .bool false), (4, .bool ((q.kind : Int) == 2)), (5, .bool ((q.kind : Int) == 3)), (93, .bool (decide (¬ (q.kind = 1 ∨ q.kind = 2 ∨ q.kind = 3) ∧ ¬ q.shift = 0)))] ∧ Sat W w ([(a0, .cells (encStage q).toArray 61 (0, 0))] :: H :: F)) ?_ ?_
 ·refine regionE <| pu1 ?_
  refine sL x0 0 0 (I q.kind) (Try.isAgg3 _) ?_
  refine sF #[I q.kind] Try.call73 (Calls.mono (r15_edged W _ _ [] q.kind (Sat.flat x0)) ?_)
  rintro _ _ ⟨rfl, q1⟩
  refine ⟨_, rfl, ?_⟩
  have v0 := Sat.unflat q1; clear q1
  change Sat _ _ ([(a0, .cells (encStage q).toArray 61 (0, 0))] :: H :: F) at v0
  refine pu2 ?_
  rcases Classical.em (q.kind = 1 ∨ q.kind = 2 ∨ q.kind = 3) with y0 | y0
  ·refine sFix 98 _ false (congrArg Bool.not (decide_eq_true y0)) ?_
   refine pu5 <| nT ?_
   exact ⟨⟨kr, kr, kr, kr, (Eq.trans (b := .bool false) kr (congrArg Value.bool (decide_eq_false (p := ¬ (q.kind = 1 ∨ q.kind = 2 ∨ q.kind = 3) ∧ ¬ q.shift = 0) om).symm)), trivial⟩, v0⟩
  refine sFix 98 _ true (congrArg Bool.not (decide_eq_false y0)) ?_
  refine pu1 <| gY ?_
  refine sL v0 0 11 (I q.shift) (Try.isAgg3 _) ?_
  refine pu3 <| nT ?_
  exact ⟨⟨kr, kr, kr, kr, (Eq.trans (b := .bool ((q.shift : Int) != 0)) kr (congrArg Value.bool (by rw [Bool.eq_iff_iff]; simp only [decide_eq_true_eq, beq_iff_eq, bne_iff_ne, ne_eq, Bool.not_eq_true', decide_eq_false_iff_not, gt_iff_lt, ge_iff_le, Bool.and_eq_true, Bool.or_eq_true, Bool.not_eq_eq_eq_not, Bool.not_true, Bool.and_eq_false_imp, beq_eq_false_iff_ne] <;> omega))), trivial⟩, v0⟩
 rintro ρ _ ⟨hA, m0⟩
 refine cAnchor hA (fun ρ => ?_)
 clear hA
 rcases Classical.em (¬ (q.kind = 1 ∨ q.kind = 2 ∨ q.kind = 3) ∧ ¬ q.shift = 0) with n0 | n0
 ·refine cT _ (decide_eq_true n0) ?_
  refine skipE <| blockK_n <| thenK_n <| sR <| pu1 <| nT <| retE <| retT [.bool false] ?_
  have r1 := ((m0.pick 1 rfl).dropAt 1 rfl)
  change Sat _ _ (H :: F) at r1
  exact ⟨congrArg (fun b => Ending.returned (.bool b)) (decide_eq_false (p := fieldsP q.v) (fun h => h.2.2.2.2.2.1 n0)).symm, r1⟩
 refine cF _ (decide_eq_false n0) ?_
 refine cutE (fun ρ w => AllAt ρ [(1, Pt a0 0), (2, .bool false), (103, .bool (decide ((¬ q.kind = 2 ∧ ¬ q.kind = 3) ∧ ¬ q.shift2 = 0)))] ∧ Sat W w ([(a0, .cells (encStage q).toArray 61 (0, 0))] :: H :: F)) ?_ ?_
 ·refine regionE <| pu3 ?_
  by_cases s1 : (q.kind : Int) = 2
  ·refine sFix 106 _ false (congrArg Bool.not (beq_iff_eq.2 s1)) ?_
   refine pu9 <| nT ?_
   exact ⟨⟨kr, kr, (Eq.trans (b := .bool false) kr (congrArg Value.bool (decide_eq_false (p := (¬ q.kind = 2 ∧ ¬ q.kind = 3) ∧ ¬ q.shift2 = 0) om).symm)), trivial⟩, m0⟩
  refine sFix 106 _ true (congrArg Bool.not (beq_eq_false_iff_ne.2 s1)) ?_
  refine pu4 ?_
  by_cases t1 : (q.kind : Int) = 3
  ·refine sFix 110 _ false (congrArg Bool.not (beq_iff_eq.2 t1)) ?_
   refine pu5 <| nT ?_
   exact ⟨⟨kr, kr, (Eq.trans (b := .bool false) kr (congrArg Value.bool (decide_eq_false (p := (¬ q.kind = 2 ∧ ¬ q.kind = 3) ∧ ¬ q.shift2 = 0) om).symm)), trivial⟩, m0⟩
  refine sFix 110 _ true (congrArg Bool.not (beq_eq_false_iff_ne.2 t1)) ?_
  refine pu1 <| gY ?_
  refine sL m0 0 12 (I q.shift2) (Try.isAgg3 _) ?_
  refine pu3 <| nT ?_
  exact ⟨⟨kr, kr, (Eq.trans (b := .bool ((q.shift2 : Int) != 0)) kr (congrArg Value.bool (by rw [Bool.eq_iff_iff]; simp only [decide_eq_true_eq, beq_iff_eq, bne_iff_ne, ne_eq, Bool.not_eq_true', decide_eq_false_iff_not, gt_iff_lt, ge_iff_le, Bool.and_eq_true, Bool.or_eq_true, Bool.not_eq_eq_eq_not, Bool.not_true, Bool.and_eq_false_imp, beq_eq_false_iff_ne] <;> omega))), trivial⟩, m0⟩
 rintro ρ _ ⟨hA, o0⟩
 refine cAnchor hA (fun ρ => ?_)
 clear hA
 rcases Classical.em ((¬ q.kind = 2 ∧ ¬ q.kind = 3) ∧ ¬ q.shift2 = 0) with p0 | p0
 ·refine cT _ (decide_eq_true p0) ?_
  refine skipE <| blockK_n <| thenK_n <| sR <| pu1 <| nT <| retE <| retT [.bool false] ?_
  have u1 := ((o0.pick 1 rfl).dropAt 1 rfl)
  change Sat _ _ (H :: F) at u1
  exact ⟨congrArg (fun b => Ending.returned (.bool b)) (decide_eq_false (p := fieldsP q.v) (fun h => h.2.2.2.2.2.2.1 p0)).symm, u1⟩
 refine cF _ (decide_eq_false p0) ?_
 refine cutE (fun ρ w => AllAt ρ [(1, Pt a0 0), (2, .bool false), (115, .bool (decide (¬ q.kind = 4 ∧ ¬ q.bins = 0)))] ∧ Sat W w ([(a0, .cells (encStage q).toArray 61 (0, 0))] :: H :: F)) ?_ ?_
 ·refine regionE <| pu1 ?_
  refine sL o0 0 0 (I q.kind) (Try.isAgg3 _) ?_
  refine pu2 ?_
  by_cases v1 : (q.kind : Int) = 4
  ·refine sFix 119 _ false (bne_eq_false_iff_eq.2 v1) ?_
   refine pu5 <| nT ?_
   exact ⟨⟨kr, kr, (Eq.trans (b := .bool false) kr (congrArg Value.bool (decide_eq_false (p := ¬ q.kind = 4 ∧ ¬ q.bins = 0) om).symm)), trivial⟩, o0⟩
  refine sFix 119 _ true (bne_iff_ne.2 v1) ?_
  refine pu1 <| gY ?_
  refine sL o0 0 15 (I q.bins) (Try.isAgg3 _) ?_
  refine pu3 <| nT ?_
  exact ⟨⟨kr, kr, (Eq.trans (b := .bool ((q.bins : Int) != 0)) kr (congrArg Value.bool (by rw [Bool.eq_iff_iff]; simp only [decide_eq_true_eq, beq_iff_eq, bne_iff_ne, ne_eq, Bool.not_eq_true', decide_eq_false_iff_not, gt_iff_lt, ge_iff_le, Bool.and_eq_true, Bool.or_eq_true, Bool.not_eq_eq_eq_not, Bool.not_true, Bool.and_eq_false_imp, beq_eq_false_iff_ne] <;> omega))), trivial⟩, o0⟩
 rintro ρ _ ⟨hA, q0⟩
 refine cAnchor hA (fun ρ => ?_)
 clear hA
 rcases Classical.em (¬ q.kind = 4 ∧ ¬ q.bins = 0) with r0 | r0
 ·refine cT _ (decide_eq_true r0) ?_
  refine skipE <| blockK_n <| thenK_n <| sR <| pu1 <| nT <| retE <| retT [.bool false] ?_
  have w1 := ((q0.pick 1 rfl).dropAt 1 rfl)
  change Sat _ _ (H :: F) at w1
  exact ⟨congrArg (fun b => Ending.returned (.bool b)) (decide_eq_false (p := fieldsP q.v) (fun h => h.2.2.2.2.2.2.2.1 r0)).symm, w1⟩
 refine cF _ (decide_eq_false r0) ?_
 refine cutE (fun ρ w => AllAt ρ [(1, Pt a0 0), (2, .bool false), (124, .bool (decide (¬ q.kind = 6 ∧ ¬ q.ops.l.length = 0)))] ∧ Sat W w ([(a0, .cells (encStage q).toArray 61 (0, 0))] :: H :: F)) ?_ ?_
 ·refine regionE <| pu1 ?_
  refine sL q0 0 0 (I q.kind) (Try.isAgg3 _) ?_
  refine pu2 ?_
  by_cases x1 : (q.kind : Int) = 6
  ·refine sFix 128 _ false (bne_eq_false_iff_eq.2 x1) ?_
   refine pu6 <| nT ?_
   exact ⟨⟨kr, kr, (Eq.trans (b := .bool false) kr (congrArg Value.bool (decide_eq_false (p := ¬ q.kind = 6 ∧ ¬ q.ops.l.length = 0) om).symm)), trivial⟩, q0⟩
  refine sFix 128 _ true (bne_iff_ne.2 x1) ?_
  refine pu1 <| gY ?_
  refine sL q0 0 16 (.slice q.ops.a q.ops.n q.ops.k) (Try.isAgg59 _) ?_
  refine pu4 <| nT ?_
  exact ⟨⟨kr, kr, (Eq.trans (b := .bool (decide ((((q.ops.n : Nat) : Int) : Int) > 0))) kr (congrArg Value.bool (by rw [Bool.eq_iff_iff]; simp only [decide_eq_true_eq, beq_iff_eq, bne_iff_ne, ne_eq, Bool.not_eq_true', decide_eq_false_iff_not, gt_iff_lt, ge_iff_le, Bool.and_eq_true, Bool.or_eq_true, Bool.not_eq_eq_eq_not, Bool.not_true, Bool.and_eq_false_imp, beq_eq_false_iff_ne] <;> omega))), trivial⟩, q0⟩
 rintro ρ _ ⟨hA, d0⟩
 refine cAnchor hA (fun ρ => ?_)
 clear hA
 rcases Classical.em (¬ q.kind = 6 ∧ ¬ q.ops.l.length = 0) with s0 | s0
 ·refine cT _ (decide_eq_true s0) ?_
  refine skipE <| blockK_n <| thenK_n <| sR <| pu1 <| nT <| retE <| retT [.bool false] ?_
  have y1 := ((d0.pick 1 rfl).dropAt 1 rfl)
  change Sat _ _ (H :: F) at y1
  exact ⟨congrArg (fun b => Ending.returned (.bool b)) (decide_eq_false (p := fieldsP q.v) (fun h => h.2.2.2.2.2.2.2.2.1 s0)).symm, y1⟩
 refine cF _ (decide_eq_false s0) ?_
 refine cutE (fun ρ w => AllAt ρ [(2, .bool false), (134, .bool (decide ((q.kind = 4 ∨ q.kind = 5) ∧ ¬ q.max_ = 0)))] ∧ Sat W w ([(a0, .cells (encStage q).toArray 61 (0, 0))] :: H :: F)) ?_ ?_
 rotate_left
 ·rintro ρ _ ⟨hA, z1⟩
  refine cAnchor hA (fun ρ => ?_)
  clear hA
  rcases Classical.em ((q.kind = 4 ∨ q.kind = 5) ∧ ¬ q.max_ = 0) with t0 | t0
  ·refine cT _ (decide_eq_true t0) ?_
   refine skipE <| blockK_n <| thenK_n <| sR <| pu1 <| nT <| retE <| retT [.bool false] ?_
   have a2 := ((z1.pick 1 rfl).dropAt 1 rfl)
   change Sat _ _ (H :: F) at a2
   exact ⟨congrArg (fun b => Ending.returned (.bool b)) (decide_eq_false (p := fieldsP q.v) (fun h => h.2.2.2.2.2.2.2.2.2 t0)).symm, a2⟩
  refine cF _ (decide_eq_false t0) ?_
  refine sR <| pu1 <| nT ?_
  refine retE (blockK_r <| thenK_r <| ?_)
  refine retT [.bool true] ?_
  have b2 := ((z1.pick 1 rfl).dropAt 1 rfl)
  change Sat _ _ (H :: F) at b2
  exact ⟨congrArg (fun b => Ending.returned (.bool b)) (decide_eq_true (p := fieldsP q.v) ⟨h0, i0, j0, k0, l0, n0, p0, r0, s0, t0⟩).symm, b2⟩
 refine regionE <| pu1 ?_
 refine sL d0 0 0 (I q.kind) (Try.isAgg3 _) ?_
 refine pu2 ?_
 by_cases c2 : (q.kind : Int) = 4
 ·refine sFix 138 _ true (beq_iff_eq.2 c2) ?_
  refine pu6 <| gY ?_
  refine sL d0 0 17 (I q.max_) (Try.isAgg3 _) ?_
  refine pu3 <| nT ?_
  exact ⟨⟨kr, (Eq.trans (b := .bool ((q.max_ : Int) != 0)) kr (congrArg Value.bool (by rw [Bool.eq_iff_iff]; simp only [decide_eq_true_eq, beq_iff_eq, bne_iff_ne, ne_eq, Bool.not_eq_true', decide_eq_false_iff_not, gt_iff_lt, ge_iff_le, Bool.and_eq_true, Bool.or_eq_true, Bool.not_eq_eq_eq_not, Bool.not_true, Bool.and_eq_false_imp, beq_eq_false_iff_ne] <;> omega))), trivial⟩, d0⟩
 refine sFix 138 _ false (beq_eq_false_iff_ne.2 c2) ?_
 refine pu1 <| gY ?_
 refine sL d0 0 0 (I q.kind) (Try.isAgg3 _) ?_
 refine pu3 ?_
 by_cases d2 : (q.kind : Int) = 5
 rotate_left
 ·refine sFix 143 _ false (beq_eq_false_iff_ne.2 d2) ?_
  refine pu5 <| nT ?_
  exact ⟨⟨kr, (Eq.trans (b := .bool false) kr (congrArg Value.bool (decide_eq_false (p := (q.kind = 4 ∨ q.kind = 5) ∧ ¬ q.max_ = 0) om).symm)), trivial⟩, d0⟩
 refine sFix 143 _ true (beq_iff_eq.2 d2) ?_
 refine pu1 <| gY ?_
 refine sL d0 0 17 (I q.max_) (Try.isAgg3 _) ?_
 refine pu3 <| nT ?_
 exact ⟨⟨kr, (Eq.trans (b := .bool ((q.max_ : Int) != 0)) kr (congrArg Value.bool (by rw [Bool.eq_iff_iff]; simp only [decide_eq_true_eq, beq_iff_eq, bne_iff_ne, ne_eq, Bool.not_eq_true', decide_eq_false_iff_not, gt_iff_lt, ge_iff_le, Bool.and_eq_true, Bool.or_eq_true, Bool.not_eq_eq_eq_not, Bool.not_true, Bool.and_eq_false_imp, beq_eq_false_iff_ne] <;> omega))), trivial⟩, d0⟩

def tapC (f : Int) (ws : List Int) : Int := if ws.length = 0 ∨ 8 < ws.length then 9 else if areW ws = true then (if -128 ≤ f ∧ f ≤ 256 then 0 else 2) else 10
def tapCode (t : TapV) : Int := tapC t.first t.weights
def firstErr {α : Type} (f : α → Int) : List α → Int
  | [] => 0
  | x :: l => if f x = 0 then firstErr f l else f x
theorem firstErr_app {α : Type} (f : α → Int) (l m : List α) (h : l.all (fun x => decide (f x = 0)) = true) : firstErr f (l ++ m) = firstErr f m := by
  induction l with
  | nil => rfl
  | cons x l ih =>
    simp only [List.all_cons, Bool.and_eq_true, decide_eq_true_eq] at h
    simp only [List.cons_append, firstErr, if_pos h.1]
    exact ih h.2
theorem firstErr_at {α : Type} {f : α → Int} {l : List α} {i : Nat} {x : α} (h : (l.take i).all (fun x => decide (f x = 0)) = true) (hx : l[i]? = some x) (e : f x ≠ 0) : firstErr f l = f x := by
  have e1 : l = l.take i ++ l.drop i := (List.take_append_drop i l).symm
  rw [e1, firstErr_app f _ _ h, drop_at hx, firstErr, if_neg e]
theorem firstErr_none {α : Type} {f : α → Int} {l : List α} {i : Nat} (h : (l.take i).all (fun x => decide (f x = 0)) = true) (h1 : l.length ≤ i) : firstErr f l = 0 := by
  rw [List.take_of_length_le h1] at h
  have := firstErr_app f l [] h
  simpa [firstErr] using this
def tapsCode (l : List TapV) (n : Int) : Int := if (1 ≤ n ∧ n ≤ 128) ∧ 1 ≤ (l.length : Int) ∧ (l.length : Int) ≤ 128 then firstErr tapCode l else 8
theorem r8_valid (W w : World) (H : Chunk) (F : List Chunk) (ax : Option Addr) (nx kx : Nat) (x : List Tap) (m : Int) (hx : RdT encTap 2 [H] ax nx kx x) (dx : ∀ z ∈ x, Tap.Ok [H] z) (hS : Sat W w (H :: F)) :
  Calls Try.prog 90 #[.slice ax nx kx, I m] w fun e w' => e = .returned (I (tapsCode (x.map Tap.v) m)) ∧ Sat W w' (H :: F) := by
 have hl_x := hx.le; have hn_x := hx.len
 refine callsE (n := 47) Try.func90 rfl rfl (Nat.le_of_ble_eq_true rfl) ?_
 refine sR <| pu1 <| nT <| seqE <| sR <| pu1 ?_
 refine sF #[I m] Try.call76 (Calls.mono (r8_side W _ _ [] m (Sat.flat hS)) ?_)
 rintro _ _ ⟨rfl, m0⟩
 refine ⟨_, rfl, ?_⟩
 have d0 := Sat.unflat m0; clear m0
 change Sat _ _ (H :: F) at d0
 refine pu2 ?_
 rcases Classical.em ((1 : Int) ≤ m ∧ m ≤ (128 : Int)) with h0 | h0
 rotate_left
 ·refine sFix 10 _ true (congrArg Bool.not (decide_eq_false h0)) ?_
  refine pu5 <| nT <| cTt <| sR <| pu1 <| nT ?_
  refine retE (thenK_r <| ?_)
  refine retT [I 8] ?_
  change Sat _ _ (H :: F) at d0
  have hmx : (x.map Tap.v).length = nx := by simp [hn_x]
  exact ⟨by unfold tapsCode; rw [if_neg om]; rfl, d0⟩
 refine sFix 10 _ false (congrArg Bool.not (decide_eq_true h0)) ?_
 refine pu2 <| gY ?_
 refine sF #[I ((nx : Nat) : Int)] Try.call76 (Calls.mono (r8_side W _ _ [] ((nx : Nat) : Int) (Sat.flat d0)) ?_)
 rintro _ _ ⟨rfl, n0⟩
 refine ⟨_, rfl, ?_⟩
 have e0 := Sat.unflat n0; clear n0
 change Sat _ _ (H :: F) at e0
 refine pu2 <| nT ?_
 rcases Classical.em ((1 : Int) ≤ ((nx : Nat) : Int) ∧ ((nx : Nat) : Int) ≤ (128 : Int)) with i0 | i0
 rotate_left
 ·refine cT _ (congrArg Bool.not (decide_eq_false i0)) ?_
  refine sR <| pu1 <| nT ?_
  refine retE (thenK_r <| ?_)
  refine retT [I 8] ?_
  change Sat _ _ (H :: F) at e0
  have hmx : (x.map Tap.v).length = nx := by simp [hn_x]
  exact ⟨by unfold tapsCode; rw [if_neg om]; rfl, e0⟩
 refine cF _ (congrArg Bool.not (decide_eq_true i0)) ?_
 refine kT <| seqE <| sR <| pu1 <| nT <| blockE ?_
 refine loopE (γ := Nat) (fun i ρ w => AllAt ρ [(0, .slice ax nx kx), (1, I m), (7, I m), (8, .bool (decide ((1 : Int) ≤ m ∧ m ≤ (128 : Int)))), (9, .bool (!decide ((1 : Int) ≤ m ∧ m ≤ (128 : Int)))), (10, .bool false), (11, .slice ax nx kx), (12, I ((nx : Nat) : Int)), (13, .bool (decide ((1 : Int) ≤ ((nx : Nat) : Int) ∧ ((nx : Nat) : Int) ≤ (128 : Int)))), (14, .bool (!decide ((1 : Int) ≤ ((nx : Nat) : Int) ∧ ((nx : Nat) : Int) ≤ (128 : Int)))), (15, .bool (!decide ((1 : Int) ≤ ((nx : Nat) : Int) ∧ ((nx : Nat) : Int) ≤ (128 : Int)))), (5, I ((i : Nat) : Int))] ∧ Sat W w (H :: F) ∧ i ≤ nx ∧ (((x.map Tap.v).take i).all (fun x => decide (tapCode x = 0)) = true)) (fun i => nx - i) 0 ⟨alA, e0, om, by rfl⟩ ?_
 skip
 rintro i ρ _ ⟨hA, f0, hi, hE⟩
 refine cAnchor hA (fun ρ => ?_)
 clear hA
 refine seqE <| sR <| pu4 <| nT ?_
 by_cases o0 : (((i : Nat) : Int) : Int) < ((nx : Nat) : Int)
 rotate_left
 ·refine cF _ (decide_eq_false o0) ?_
  refine exitE (xB <| ?_)
  refine thenK_n <| sR <| pu1 <| nT <| retE <| retT [I 0] ?_
  change Sat _ _ (H :: F) at f0
  have hmx : (x.map Tap.v).length = nx := by simp [hn_x]
  exact ⟨by unfold tapsCode; rw [if_pos om, firstErr_none hE om]; rfl, f0⟩
 refine cT _ (decide_eq_true o0) ?_
 refine kT <| seqE <| blockE <| sR <| pu2 ?_
 refine sIdx hx ((i : Nat) : Int) Try.runUnderlying58 Try.sizeOf94 ?_
 intro a0 _ _ b0 y0
 rw [Int.toNat_natCast] at b0
 have hnw_x_12 := (dx a0 (List.mem_of_getElem? b0)).weights.len; have hlw_x_12 := (dx a0 (List.mem_of_getElem? b0)).weights.le
 refine sLpA f0 (y0.up 0 rfl) 0 [I a0.first, .slice a0.weights.a a0.weights.n a0.weights.k] (Try.isAgg94 _) (Try.sizeOf94 _) ?_
 refine sAlloc f0 Try.zeroValue94 ?_
 intro _ _ z0
 refine sTw z0 0 [I a0.first, .slice a0.weights.a a0.weights.n a0.weights.k] Try.sizeOf94 ?_
 intro _ c0
 try dsimp only [List.set, List.eraseIdx, Value.cells] at c0
 refine nT <| blockE <| sR <| pu1 ?_
 refine sL c0 0 1 (.slice a0.weights.a a0.weights.n a0.weights.k) (Try.isAgg22 _) ?_
 refine pu3 ?_
 by_cases p0 : (((a0.weights.n : Nat) : Int) : Int) = 0
 ·refine sFix 31 _ true (beq_iff_eq.2 p0) ?_
  refine pu6 <| nT <| cTt <| sR <| pu1 <| nT ?_
  refine retE (blockK_r <| blockK_r <| thenK_r <| tR <| thenK_r <| ?_)
  refine retT [I 9] ?_
  have q0 := ((c0.pick 1 rfl).dropAt 1 rfl)
  change Sat _ _ (H :: F) at q0
  have hmx : (x.map Tap.v).length = nx := by simp [hn_x]
  have hcode : tapC a0.first a0.weights.l = 9 := by unfold tapC; (repeat' split) <;> first | rfl | (exfalso; omega) | contradiction | (exfalso; simp_all; done)
  exact ⟨by unfold tapsCode; rw [if_pos om, firstErr_at hE (map_at (f := Tap.v) b0) (show tapC a0.first a0.weights.l ≠ 0 by omega)]; exact congrArg (fun c => Ending.returned (packed [I c])) hcode.symm, q0⟩
 refine sFix 31 _ false (beq_eq_false_iff_ne.2 p0) ?_
 refine pu1 <| gY ?_
 refine sL c0 0 1 (.slice a0.weights.a a0.weights.n a0.weights.k) (Try.isAgg22 _) ?_
 refine pu4 <| nT ?_
 by_cases r0 : (((a0.weights.n : Nat) : Int) : Int) > 8
 ·refine cT _ (decide_eq_true r0) ?_
  refine sR <| pu1 <| nT ?_
  refine retE (blockK_r <| blockK_r <| thenK_r <| tR <| thenK_r <| ?_)
  refine retT [I 9] ?_
  have s0 := ((c0.pick 1 rfl).dropAt 1 rfl)
  change Sat _ _ (H :: F) at s0
  have hmx : (x.map Tap.v).length = nx := by simp [hn_x]
  have hcode : tapC a0.first a0.weights.l = 9 := by unfold tapC; (repeat' split) <;> first | rfl | (exfalso; omega) | contradiction | (exfalso; simp_all; done)
  exact ⟨by unfold tapsCode; rw [if_pos om, firstErr_at hE (map_at (f := Tap.v) b0) (show tapC a0.first a0.weights.l ≠ 0 by omega)]; exact congrArg (fun c => Ending.returned (packed [I c])) hcode.symm, s0⟩
 refine cF _ (decide_eq_false r0) ?_
 refine sR <| pu1 ?_
 refine sL c0 0 1 (.slice a0.weights.a a0.weights.n a0.weights.k) (Try.isAgg22 _) ?_
 refine sF #[.slice a0.weights.a a0.weights.n a0.weights.k] Try.call85 (Calls.mono (r7_arew W _ _ [] a0.weights.a a0.weights.n a0.weights.k a0.weights.l (RdT.flat ((dx a0 (List.mem_of_getElem? b0)).weights.up 1 (by rfl))) (Sat.flat c0)) ?_)
 rintro _ _ ⟨rfl, t0⟩
 refine ⟨_, rfl, ?_⟩
 have g0 := Sat.unflat t0; clear t0
 try dsimp only [List.set, List.eraseIdx, Value.cells] at g0
 refine pu2 <| nT ?_
 rcases Classical.em ((areW a0.weights.l) = true) with j0 | j0
 rotate_left
 ·refine cT _ (congrArg Bool.not (Bool.eq_false_iff.2 j0)) ?_
  refine sR <| pu1 <| nT ?_
  refine retE (blockK_r <| blockK_r <| thenK_r <| tR <| thenK_r <| ?_)
  refine retT [I 10] ?_
  have u0 := ((g0.pick 1 rfl).dropAt 1 rfl)
  change Sat _ _ (H :: F) at u0
  have hmx : (x.map Tap.v).length = nx := by simp [hn_x]
  have hcode : tapC a0.first a0.weights.l = 10 := by unfold tapC; (repeat' split) <;> first | rfl | (exfalso; omega) | contradiction | (exfalso; simp_all; done)
  exact ⟨by unfold tapsCode; rw [if_pos om, firstErr_at hE (map_at (f := Tap.v) b0) (show tapC a0.first a0.weights.l ≠ 0 by omega)]; exact congrArg (fun c => Ending.returned (packed [I c])) hcode.symm, u0⟩
 refine cF _ (congrArg Bool.not j0) ?_
 refine sR <| pu1 ?_
 refine sL g0 0 0 (I a0.first) (Try.isAgg3 _) ?_
 refine sF #[I a0.first] Try.call98 (Calls.mono (r8_first W _ _ [] a0.first (Sat.flat g0)) ?_)
 rintro _ _ ⟨rfl, v0⟩
 refine ⟨_, rfl, ?_⟩
 have k0 := Sat.unflat v0; clear v0
 try dsimp only [List.set, List.eraseIdx, Value.cells] at k0
 refine pu2 <| nT ?_
 rcases Classical.em ((-128 : Int) ≤ a0.first ∧ a0.first ≤ (256 : Int)) with l0 | l0
 ·refine cF _ (congrArg Bool.not (decide_eq_true l0)) ?_
  refine skipE <| blockK_n <| blockK_n <| thenK_n <| regionE <| pu1 ?_
  refine sAdd ((i : Nat) : Int) 1 ?_
  refine pu1 <| nT ?_
  have hcode : tapC a0.first a0.weights.l = 0 := by unfold tapC; (repeat' split) <;> first | rfl | (exfalso; omega) | contradiction | (exfalso; simp_all; done)
  have w0 := ((k0.pick 1 rfl).dropAt 1 rfl)
  change Sat _ _ (H :: F) at w0
  exact ⟨i + 1, od, alA, w0, om, all_succ hE (map_at (f := Tap.v) b0) (decide_eq_true hcode)⟩
 refine cT _ (congrArg Bool.not (decide_eq_false l0)) ?_
 refine sR <| pu1 <| nT ?_
 refine retE (blockK_r <| blockK_r <| thenK_r <| tR <| thenK_r <| ?_)
 refine retT [I 2] ?_
 have x0 := ((k0.pick 1 rfl).dropAt 1 rfl)
 change Sat _ _ (H :: F) at x0
 have hmx : (x.map Tap.v).length = nx := by simp [hn_x]
 have hcode : tapC a0.first a0.weights.l = 2 := by unfold tapC; (repeat' split) <;> first | rfl | (exfalso; omega) | contradiction | (exfalso; simp_all; done)
 exact ⟨by unfold tapsCode; rw [if_pos om, firstErr_at hE (map_at (f := Tap.v) b0) (show tapC a0.first a0.weights.l ≠ 0 by omega)]; exact congrArg (fun c => Ending.returned (packed [I c])) hcode.symm, x0⟩

def convCode (mx kw kh : Int) (ws : List Int) (sh out : Int) : Int :=
  if (1 ≤ kw ∧ kw ≤ 9) ∧ (1 ≤ kh ∧ kh ≤ 9) ∧ (ws.length : Int) = kw * kh then (if areW ws = true ∧ 0 ≤ sh ∧ sh ≤ 24 then (if (1 ≤ mx ∧ mx ≤ 4294967296) ∧ 1 ≤ out ∧ out ≤ 4294967296 then (if bndOK ws 0 mx = true then 0 else 11) else 2) else 10) else 9
def sepCode (mx : Int) (row col : List Int) (sh sh2 out : Int) : Int :=
  if (1 ≤ (row.length : Int) ∧ (row.length : Int) ≤ 9) ∧ 1 ≤ (col.length : Int) ∧ (col.length : Int) ≤ 9 then (if areW row = true ∧ areW col = true ∧ (0 ≤ sh ∧ sh ≤ 24) ∧ 0 ≤ sh2 ∧ sh2 ≤ 24 then (if (1 ≤ mx ∧ mx ≤ 4294967296) ∧ 1 ≤ out ∧ out ≤ 4294967296 then (if bndOK row 0 mx = true then (if bndOK col (shiftV (bndLo row 0 mx) sh) (shiftV (bndHi row 0 mx) sh) = true then 0 else 11) else 11) else 2) else 10) else 9
theorem r9_check (W w : World) (H : Chunk) (F : List Chunk) (mx : Int) (kw : Int) (kh : Int) (aws : Option Addr) (nws kws : Nat) (ws : List Int) (sh : Int) (out : Int) (hws : RdT encI 1 [H] aws nws kws ws) (hS : Sat W w (H :: F)) :
  Calls Try.prog 78 #[I mx, I kw, I kh, .slice aws nws kws, I sh, I out] w fun e w' => e = .returned (I (convCode mx kw kh ws sh out)) ∧ Sat W w' (H :: F) := by
 have hl_ws := hws.le; have hn_ws := hws.len
 refine callsE (n := 60) Try.func78 rfl rfl (Nat.le_of_ble_eq_true rfl) ?_
 refine sR <| pu1 <| nT <| seqE <| blockE ?_
 refine cutE (fun ρ w => AllAt ρ [(0, I mx), (3, .slice aws nws kws), (4, I sh), (5, I out), (12, I 0), (16, .bool (decide (¬ ((1 ≤ kw ∧ kw ≤ 9) ∧ (1 ≤ kh ∧ kh ≤ 9) ∧ (ws.length : Int) = kw * kh))))] ∧ Sat W w (H :: F)) ?_ ?_
 ·refine regionE <| pu1 ?_
  refine sF #[I kw] Try.call84 (Calls.mono (r9_side W _ _ [] kw (Sat.flat hS)) ?_)
  rintro _ _ ⟨rfl, q0⟩
  refine ⟨_, rfl, ?_⟩
  have b0 := Sat.unflat q0; clear q0
  change Sat _ _ (H :: F) at b0
  refine pu2 ?_
  rcases Classical.em ((1 : Int) ≤ kw ∧ kw ≤ (9 : Int)) with c0 | c0
  rotate_left
  ·refine sFix 20 _ true (congrArg Bool.not (decide_eq_false c0)) ?_
   refine pu13 <| nT ?_
   exact ⟨⟨kr, kr, kr, kr, kr, (Eq.trans (b := .bool true) kr (congrArg Value.bool (decide_eq_true (p := ¬ ((1 ≤ kw ∧ kw ≤ 9) ∧ (1 ≤ kh ∧ kh ≤ 9) ∧ (ws.length : Int) = kw * kh)) om).symm)), trivial⟩, b0⟩
  refine sFix 20 _ false (congrArg Bool.not (decide_eq_true c0)) ?_
  refine pu1 <| gY ?_
  refine sF #[I kh] Try.call84 (Calls.mono (r9_side W _ _ [] kh (Sat.flat b0)) ?_)
  rintro _ _ ⟨rfl, r0⟩
  refine ⟨_, rfl, ?_⟩
  have d0 := Sat.unflat r0; clear r0
  change Sat _ _ (H :: F) at d0
  refine pu3 ?_
  rcases Classical.em ((1 : Int) ≤ kh ∧ kh ≤ (9 : Int)) with e0 | e0
  rotate_left
  ·refine sFix 25 _ true (congrArg Bool.not (decide_eq_false e0)) ?_
   refine pu8 <| nT ?_
   exact ⟨⟨kr, kr, kr, kr, kr, (Eq.trans (b := .bool true) kr (congrArg Value.bool (decide_eq_true (p := ¬ ((1 ≤ kw ∧ kw ≤ 9) ∧ (1 ≤ kh ∧ kh ≤ 9) ∧ (ws.length : Int) = kw * kh)) om).symm)), trivial⟩, d0⟩
  refine sFix 25 _ false (congrArg Bool.not (decide_eq_true e0)) ?_
  refine pu4 <| gY ?_
  have hwh := mul_bd (a := kw) (b := kh) (A := 9) (B := 9) om om
  refine sMul kw kh ?_
  refine pu3 <| nT ?_
  exact ⟨⟨kr, kr, kr, kr, kr, (Eq.trans (b := .bool ((((nws : Nat) : Int) : Int) != (kw * kh))) kr (congrArg Value.bool (by rw [Bool.eq_iff_iff]; simp only [decide_eq_true_eq, beq_iff_eq, bne_iff_ne, ne_eq, Bool.not_eq_true', decide_eq_false_iff_not, gt_iff_lt, ge_iff_le, Bool.and_eq_true, Bool.or_eq_true, Bool.not_eq_eq_eq_not, Bool.not_true, Bool.and_eq_false_imp, beq_eq_false_iff_ne] <;> omega))), trivial⟩, d0⟩
 rintro ρ _ ⟨hA, f0⟩
 refine cAnchor hA (fun ρ => ?_)
 clear hA
 rcases Classical.em (¬ ((1 ≤ kw ∧ kw ≤ 9) ∧ (1 ≤ kh ∧ kh ≤ 9) ∧ (ws.length : Int) = kw * kh)) with g0 | g0
 ·refine cT _ (decide_eq_true g0) ?_
  refine sR <| pu1 <| nT ?_
  refine retE (blockK_r <| thenK_r <| ?_)
  refine retT [I 9] ?_
  change Sat _ _ (H :: F) at f0
  refine ⟨?_, f0⟩
  unfold convCode
  (repeat' split) <;> first | rfl | (exfalso; omega) | contradiction | (exfalso; simp_all; done) | (simp_all; done)
 refine cF _ (decide_eq_false g0) ?_
 refine cutE (fun ρ w => AllAt ρ [(0, I mx), (3, .slice aws nws kws), (5, I out), (12, I 0), (33, .bool (decide (¬ (areW ws = true ∧ 0 ≤ sh ∧ sh ≤ 24))))] ∧ Sat W w (H :: F)) ?_ ?_
 ·refine regionE <| pu1 ?_
  refine sF #[.slice aws nws kws] Try.call85 (Calls.mono (r7_arew W _ _ [] aws nws kws ws (RdT.flat (hws.up 0 (by rfl))) (Sat.flat f0)) ?_)
  rintro _ _ ⟨rfl, s0⟩
  refine ⟨_, rfl, ?_⟩
  have h0 := Sat.unflat s0; clear s0
  change Sat _ _ (H :: F) at h0
  refine pu2 ?_
  rcases Classical.em ((areW ws) = true) with i0 | i0
  rotate_left
  ·refine sFix 37 _ true (congrArg Bool.not (Bool.eq_false_iff.2 i0)) ?_
   refine pu5 <| nT ?_
   exact ⟨⟨kr, kr, kr, kr, (Eq.trans (b := .bool true) kr (congrArg Value.bool (decide_eq_true (p := ¬ (areW ws = true ∧ 0 ≤ sh ∧ sh ≤ 24)) (by (first | omega | (simp_all; done) | (simp_all; omega)))).symm)), trivial⟩, h0⟩
  refine sFix 37 _ false (congrArg Bool.not i0) ?_
  refine pu1 <| gY ?_
  refine sF #[I sh] Try.call86 (Calls.mono (r7_iss W _ _ [] sh (Sat.flat h0)) ?_)
  rintro _ _ ⟨rfl, t0⟩
  refine ⟨_, rfl, ?_⟩
  have u0 := Sat.unflat t0; clear t0
  change Sat _ _ (H :: F) at u0
  refine pu3 <| nT ?_
  exact ⟨⟨kr, kr, kr, kr, (Eq.trans (b := .bool (!decide ((0 : Int) ≤ sh ∧ sh ≤ (24 : Int)))) kr (congrArg Value.bool (by rw [Bool.eq_iff_iff]; simp only [decide_eq_true_eq, beq_iff_eq, bne_iff_ne, ne_eq, Bool.not_eq_true', decide_eq_false_iff_not, gt_iff_lt, ge_iff_le, Bool.and_eq_true, Bool.or_eq_true, Bool.not_eq_eq_eq_not, Bool.not_true, Bool.and_eq_false_imp, beq_eq_false_iff_ne] <;> (first | omega | (simp_all; done) | (simp_all; omega))))), trivial⟩, u0⟩
 rintro ρ _ ⟨hA, j0⟩
 refine cAnchor hA (fun ρ => ?_)
 clear hA
 rcases Classical.em (¬ (areW ws = true ∧ 0 ≤ sh ∧ sh ≤ 24)) with k0 | k0
 ·refine cT _ (decide_eq_true k0) ?_
  refine sR <| pu1 <| nT ?_
  refine retE (blockK_r <| thenK_r <| ?_)
  refine retT [I 10] ?_
  change Sat _ _ (H :: F) at j0
  refine ⟨?_, j0⟩
  unfold convCode
  (repeat' split) <;> first | rfl | (exfalso; omega) | contradiction | (exfalso; simp_all; done) | (simp_all; done)
 refine cF _ (decide_eq_false k0) ?_
 refine cutE (fun ρ w => AllAt ρ [(0, I mx), (3, .slice aws nws kws), (12, I 0), (42, .bool (decide (¬ ((1 ≤ mx ∧ mx ≤ 4294967296) ∧ 1 ≤ out ∧ out ≤ 4294967296))))] ∧ Sat W w (H :: F)) ?_ ?_
 ·refine regionE <| pu1 ?_
  refine sF #[I mx] Try.call87 (Calls.mono (r9_value W _ _ [] mx (Sat.flat j0)) ?_)
  rintro _ _ ⟨rfl, v0⟩
  refine ⟨_, rfl, ?_⟩
  have l0 := Sat.unflat v0; clear v0
  change Sat _ _ (H :: F) at l0
  refine pu2 ?_
  rcases Classical.em ((1 : Int) ≤ mx ∧ mx ≤ (4294967296 : Int)) with m0 | m0
  rotate_left
  ·refine sFix 46 _ true (congrArg Bool.not (decide_eq_false m0)) ?_
   refine pu5 <| nT ?_
   exact ⟨⟨kr, kr, kr, (Eq.trans (b := .bool true) kr (congrArg Value.bool (decide_eq_true (p := ¬ ((1 ≤ mx ∧ mx ≤ 4294967296) ∧ 1 ≤ out ∧ out ≤ 4294967296)) om).symm)), trivial⟩, l0⟩
  refine sFix 46 _ false (congrArg Bool.not (decide_eq_true m0)) ?_
  refine pu1 <| gY ?_
  refine sF #[I out] Try.call87 (Calls.mono (r9_value W _ _ [] out (Sat.flat l0)) ?_)
  rintro _ _ ⟨rfl, w0⟩
  refine ⟨_, rfl, ?_⟩
  have x0 := Sat.unflat w0; clear w0
  change Sat _ _ (H :: F) at x0
  refine pu3 <| nT ?_
  exact ⟨⟨kr, kr, kr, (Eq.trans (b := .bool (!decide ((1 : Int) ≤ out ∧ out ≤ (4294967296 : Int)))) kr (congrArg Value.bool (by rw [Bool.eq_iff_iff]; simp only [decide_eq_true_eq, beq_iff_eq, bne_iff_ne, ne_eq, Bool.not_eq_true', decide_eq_false_iff_not, gt_iff_lt, ge_iff_le, Bool.and_eq_true, Bool.or_eq_true, Bool.not_eq_eq_eq_not, Bool.not_true, Bool.and_eq_false_imp, beq_eq_false_iff_ne] <;> omega))), trivial⟩, x0⟩
 rintro ρ _ ⟨hA, n0⟩
 refine cAnchor hA (fun ρ => ?_)
 clear hA
 rcases Classical.em (¬ ((1 ≤ mx ∧ mx ≤ 4294967296) ∧ 1 ≤ out ∧ out ≤ 4294967296)) with o0 | o0
 ·refine cT _ (decide_eq_true o0) ?_
  refine sR <| pu1 <| nT ?_
  refine retE (blockK_r <| thenK_r <| ?_)
  refine retT [I 2] ?_
  change Sat _ _ (H :: F) at n0
  refine ⟨?_, n0⟩
  unfold convCode
  (repeat' split) <;> first | rfl | (exfalso; omega) | contradiction | (exfalso; simp_all; done) | (simp_all; done)
 refine cF _ (decide_eq_false o0) ?_
 refine skipE <| blockK_n <| thenK_n <| seqE <| sR <| pu2 ?_
 refine sF #[.slice aws nws kws, I 0, I mx] Try.call88 (Calls.mono (r7_bounds W _ _ [] aws nws kws ws 0 mx (RdT.flat (hws.up 0 (by rfl))) (Sat.flat n0)) ?_)
 rintro _ _ ⟨rfl, y0⟩
 refine ⟨_, rfl, ?_⟩
 have a0 := Sat.unflat y0; clear y0
 change Sat _ _ (H :: F) at a0
 refine pu7 <| nT <| sR <| pu2 <| nT ?_
 rcases Classical.em ((bndOK ws 0 mx) = true) with p0 | p0
 ·refine cF _ (congrArg Bool.not p0) ?_
  refine kT <| sR <| pu1 <| nT <| retE <| retT [I 0] ?_
  change Sat _ _ (H :: F) at a0
  refine ⟨?_, a0⟩
  unfold convCode
  (repeat' split) <;> first | rfl | (exfalso; omega) | contradiction | (exfalso; simp_all; done) | (simp_all; done)
 refine cT _ (congrArg Bool.not (Bool.eq_false_iff.2 p0)) ?_
 refine sR <| pu1 <| nT ?_
 refine retE (thenK_r <| ?_)
 refine retT [I 11] ?_
 change Sat _ _ (H :: F) at a0
 refine ⟨?_, a0⟩
 unfold convCode
 (repeat' split) <;> first | rfl | (exfalso; omega) | contradiction | (exfalso; simp_all; done) | (simp_all; done)
theorem r10_check (W w : World) (H : Chunk) (F : List Chunk) (mx : Int) (arow : Option Addr) (nrow krow : Nat) (row : List Int) (acol : Option Addr) (ncol kcol : Nat) (col : List Int) (sh : Int) (sh2 : Int) (out : Int) (hrow : RdT encI 1 [H] arow nrow krow row) (hcol : RdT encI 1 [H] acol ncol kcol col) (hS : Sat W w (H :: F)) :
  Calls Try.prog 79 #[I mx, .slice arow nrow krow, .slice acol ncol kcol, I sh, I sh2, I out] w fun e w' => e = .returned (I (sepCode mx row col sh sh2 out)) ∧ Sat W w' (H :: F) := by
 have hl_row := hrow.le; have hn_row := hrow.len
 have hl_col := hcol.le; have hn_col := hcol.len
 refine callsE (n := 81) Try.func79 rfl rfl (Nat.le_of_ble_eq_true rfl) ?_
 refine sR <| pu1 <| nT <| seqE <| blockE <| sR <| pu2 ?_
 refine sF #[I ((nrow : Nat) : Int)] Try.call84 (Calls.mono (r9_side W _ _ [] ((nrow : Nat) : Int) (Sat.flat hS)) ?_)
 rintro _ _ ⟨rfl, u0⟩
 refine ⟨_, rfl, ?_⟩
 have b0 := Sat.unflat u0; clear u0
 change Sat _ _ (H :: F) at b0
 refine pu2 ?_
 rcases Classical.em ((1 : Int) ≤ ((nrow : Nat) : Int) ∧ ((nrow : Nat) : Int) ≤ (9 : Int)) with k0 | k0
 rotate_left
 ·refine sFix 21 _ true (congrArg Bool.not (decide_eq_false k0)) ?_
  refine pu6 <| nT <| cTt <| sR <| pu1 <| nT ?_
  refine retE (blockK_r <| thenK_r <| ?_)
  refine retT [I 9] ?_
  change Sat _ _ (H :: F) at b0
  refine ⟨?_, b0⟩
  unfold sepCode
  (repeat' split) <;> first | rfl | (exfalso; omega) | contradiction | (exfalso; simp_all; done) | (simp_all; done)
 refine sFix 21 _ false (congrArg Bool.not (decide_eq_true k0)) ?_
 refine pu2 <| gY ?_
 refine sF #[I ((ncol : Nat) : Int)] Try.call84 (Calls.mono (r9_side W _ _ [] ((ncol : Nat) : Int) (Sat.flat b0)) ?_)
 rintro _ _ ⟨rfl, v0⟩
 refine ⟨_, rfl, ?_⟩
 have c0 := Sat.unflat v0; clear v0
 change Sat _ _ (H :: F) at c0
 refine pu3 <| nT ?_
 rcases Classical.em ((1 : Int) ≤ ((ncol : Nat) : Int) ∧ ((ncol : Nat) : Int) ≤ (9 : Int)) with l0 | l0
 rotate_left
 ·refine cT _ (congrArg Bool.not (decide_eq_false l0)) ?_
  refine sR <| pu1 <| nT ?_
  refine retE (blockK_r <| thenK_r <| ?_)
  refine retT [I 9] ?_
  change Sat _ _ (H :: F) at c0
  refine ⟨?_, c0⟩
  unfold sepCode
  (repeat' split) <;> first | rfl | (exfalso; omega) | contradiction | (exfalso; simp_all; done) | (simp_all; done)
 refine cF _ (congrArg Bool.not (decide_eq_true l0)) ?_
 refine sR <| pu1 ?_
 refine sF #[.slice arow nrow krow] Try.call85 (Calls.mono (r7_arew W _ _ [] arow nrow krow row (RdT.flat (hrow.up 0 (by rfl))) (Sat.flat c0)) ?_)
 rintro _ _ ⟨rfl, w0⟩
 refine ⟨_, rfl, ?_⟩
 have d0 := Sat.unflat w0; clear w0
 change Sat _ _ (H :: F) at d0
 refine pu2 ?_
 rcases Classical.em ((areW row) = true) with m0 | m0
 rotate_left
 ·refine sFix 31 _ true (congrArg Bool.not (Bool.eq_false_iff.2 m0)) ?_
  refine pu15 <| nT <| cTt <| sR <| pu1 <| nT ?_
  refine retE (blockK_r <| thenK_r <| ?_)
  refine retT [I 10] ?_
  change Sat _ _ (H :: F) at d0
  refine ⟨?_, d0⟩
  unfold sepCode
  (repeat' split) <;> first | rfl | (exfalso; omega) | contradiction | (exfalso; simp_all; done) | (simp_all; done)
 refine sFix 31 _ false (congrArg Bool.not m0) ?_
 refine pu1 <| gY ?_
 refine sF #[.slice acol ncol kcol] Try.call85 (Calls.mono (r7_arew W _ _ [] acol ncol kcol col (RdT.flat (hcol.up 0 (by rfl))) (Sat.flat d0)) ?_)
 rintro _ _ ⟨rfl, x0⟩
 refine ⟨_, rfl, ?_⟩
 have e0 := Sat.unflat x0; clear x0
 change Sat _ _ (H :: F) at e0
 refine pu3 ?_
 rcases Classical.em ((areW col) = true) with n0 | n0
 rotate_left
 ·refine sFix 36 _ true (congrArg Bool.not (Bool.eq_false_iff.2 n0)) ?_
  refine pu10 <| nT <| cTt <| sR <| pu1 <| nT ?_
  refine retE (blockK_r <| thenK_r <| ?_)
  refine retT [I 10] ?_
  change Sat _ _ (H :: F) at e0
  refine ⟨?_, e0⟩
  unfold sepCode
  (repeat' split) <;> first | rfl | (exfalso; omega) | contradiction | (exfalso; simp_all; done) | (simp_all; done)
 refine sFix 36 _ false (congrArg Bool.not n0) ?_
 refine pu1 <| gY ?_
 refine sF #[I sh] Try.call86 (Calls.mono (r7_iss W _ _ [] sh (Sat.flat e0)) ?_)
 rintro _ _ ⟨rfl, y0⟩
 refine ⟨_, rfl, ?_⟩
 have f0 := Sat.unflat y0; clear y0
 change Sat _ _ (H :: F) at f0
 refine pu3 ?_
 rcases Classical.em ((0 : Int) ≤ sh ∧ sh ≤ (24 : Int)) with o0 | o0
 rotate_left
 ·refine sFix 41 _ true (congrArg Bool.not (decide_eq_false o0)) ?_
  refine pu5 <| nT <| cTt <| sR <| pu1 <| nT ?_
  refine retE (blockK_r <| thenK_r <| ?_)
  refine retT [I 10] ?_
  change Sat _ _ (H :: F) at f0
  refine ⟨?_, f0⟩
  unfold sepCode
  (repeat' split) <;> first | rfl | (exfalso; omega) | contradiction | (exfalso; simp_all; done) | (simp_all; done)
 refine sFix 41 _ false (congrArg Bool.not (decide_eq_true o0)) ?_
 refine pu1 <| gY ?_
 refine sF #[I sh2] Try.call86 (Calls.mono (r7_iss W _ _ [] sh2 (Sat.flat f0)) ?_)
 rintro _ _ ⟨rfl, z0⟩
 refine ⟨_, rfl, ?_⟩
 have g0 := Sat.unflat z0; clear z0
 change Sat _ _ (H :: F) at g0
 refine pu3 <| nT ?_
 rcases Classical.em ((0 : Int) ≤ sh2 ∧ sh2 ≤ (24 : Int)) with p0 | p0
 rotate_left
 ·refine cT _ (congrArg Bool.not (decide_eq_false p0)) ?_
  refine sR <| pu1 <| nT ?_
  refine retE (blockK_r <| thenK_r <| ?_)
  refine retT [I 10] ?_
  change Sat _ _ (H :: F) at g0
  refine ⟨?_, g0⟩
  unfold sepCode
  (repeat' split) <;> first | rfl | (exfalso; omega) | contradiction | (exfalso; simp_all; done) | (simp_all; done)
 refine cF _ (congrArg Bool.not (decide_eq_true p0)) ?_
 refine sR <| pu1 ?_
 refine sF #[I mx] Try.call87 (Calls.mono (r9_value W _ _ [] mx (Sat.flat g0)) ?_)
 rintro _ _ ⟨rfl, a1⟩
 refine ⟨_, rfl, ?_⟩
 have h0 := Sat.unflat a1; clear a1
 change Sat _ _ (H :: F) at h0
 refine pu2 ?_
 rcases Classical.em ((1 : Int) ≤ mx ∧ mx ≤ (4294967296 : Int)) with q0 | q0
 rotate_left
 ·refine sFix 50 _ true (congrArg Bool.not (decide_eq_false q0)) ?_
  refine pu5 <| nT <| cTt <| sR <| pu1 <| nT ?_
  refine retE (blockK_r <| thenK_r <| ?_)
  refine retT [I 2] ?_
  change Sat _ _ (H :: F) at h0
  refine ⟨?_, h0⟩
  unfold sepCode
  (repeat' split) <;> first | rfl | (exfalso; omega) | contradiction | (exfalso; simp_all; done) | (simp_all; done)
 refine sFix 50 _ false (congrArg Bool.not (decide_eq_true q0)) ?_
 refine pu1 <| gY ?_
 refine sF #[I out] Try.call87 (Calls.mono (r9_value W _ _ [] out (Sat.flat h0)) ?_)
 rintro _ _ ⟨rfl, b1⟩
 refine ⟨_, rfl, ?_⟩
 have i0 := Sat.unflat b1; clear b1
 change Sat _ _ (H :: F) at i0
 refine pu3 <| nT ?_
 rcases Classical.em ((1 : Int) ≤ out ∧ out ≤ (4294967296 : Int)) with r0 | r0
 rotate_left
 ·refine cT _ (congrArg Bool.not (decide_eq_false r0)) ?_
  refine sR <| pu1 <| nT ?_
  refine retE (blockK_r <| thenK_r <| ?_)
  refine retT [I 2] ?_
  change Sat _ _ (H :: F) at i0
  refine ⟨?_, i0⟩
  unfold sepCode
  (repeat' split) <;> first | rfl | (exfalso; omega) | contradiction | (exfalso; simp_all; done) | (simp_all; done)
 refine cF _ (congrArg Bool.not (decide_eq_true r0)) ?_
 refine skipE <| blockK_n <| thenK_n <| sR <| pu2 ?_
 refine sF #[.slice arow nrow krow, I 0, I mx] Try.call88 (Calls.mono (r7_bounds W _ _ [] arow nrow krow row 0 mx (RdT.flat (hrow.up 0 (by rfl))) (Sat.flat i0)) ?_)
 rintro _ _ ⟨rfl, c1⟩
 refine ⟨_, rfl, ?_⟩
 have j0 := Sat.unflat c1; clear c1
 change Sat _ _ (H :: F) at j0
 refine pu7 <| nT <| seqE <| sR <| pu2 <| nT ?_
 rcases Classical.em ((bndOK row 0 mx) = true) with s0 | s0
 rotate_left
 ·refine cT _ (congrArg Bool.not (Bool.eq_false_iff.2 s0)) ?_
  refine sR <| pu1 <| nT ?_
  refine retE (thenK_r <| ?_)
  refine retT [I 11] ?_
  change Sat _ _ (H :: F) at j0
  refine ⟨?_, j0⟩
  unfold sepCode
  (repeat' split) <;> first | rfl | (exfalso; omega) | contradiction | (exfalso; simp_all; done) | (simp_all; done)
 refine cF _ (congrArg Bool.not s0) ?_
 refine kT <| sR <| pu3 ?_
 refine sF #[I (bndLo row 0 mx), I (bndHi row 0 mx), I sh] Try.call89 (Calls.mono (r7_span W _ _ [] (bndLo row 0 mx) (bndHi row 0 mx) sh (Sat.flat j0)) ?_)
 rintro _ _ ⟨rfl, d1⟩
 refine ⟨_, rfl, ?_⟩
 have e1 := Sat.unflat d1; clear d1
 change Sat _ _ (H :: F) at e1
 refine pu5 <| nT <| seqE <| sR <| pu3 ?_
 refine sF #[.slice acol ncol kcol, I (shiftV (bndLo row 0 mx) sh), I (shiftV (bndHi row 0 mx) sh)] Try.call88 (Calls.mono (r7_bounds W _ _ [] acol ncol kcol col (shiftV (bndLo row 0 mx) sh) (shiftV (bndHi row 0 mx) sh) (RdT.flat (hcol.up 0 (by rfl))) (Sat.flat e1)) ?_)
 rintro _ _ ⟨rfl, f1⟩
 refine ⟨_, rfl, ?_⟩
 have a0 := Sat.unflat f1; clear f1
 change Sat _ _ (H :: F) at a0
 refine pu5 <| nT <| sR <| pu2 <| nT ?_
 rcases Classical.em ((bndOK col (shiftV (bndLo row 0 mx) sh) (shiftV (bndHi row 0 mx) sh)) = true) with t0 | t0
 ·refine cF _ (congrArg Bool.not t0) ?_
  refine kT <| sR <| pu1 <| nT <| retE <| retT [I 0] ?_
  change Sat _ _ (H :: F) at a0
  refine ⟨?_, a0⟩
  unfold sepCode
  (repeat' split) <;> first | rfl | (exfalso; omega) | contradiction | (exfalso; simp_all; done) | (simp_all; done)
 refine cT _ (congrArg Bool.not (Bool.eq_false_iff.2 t0)) ?_
 refine sR <| pu1 <| nT ?_
 refine retE (thenK_r <| ?_)
 refine retT [I 11] ?_
 change Sat _ _ (H :: F) at a0
 refine ⟨?_, a0⟩
 unfold sepCode
 (repeat' split) <;> first | rfl | (exfalso; omega) | contradiction | (exfalso; simp_all; done) | (simp_all; done)

def spLo (mx s : Int) (t : TapV) : Int := shiftV (bndLo t.weights 0 mx) s
def spHi (mx s : Int) (t : TapV) : Int := shiftV (bndHi t.weights 0 mx) s
def runLo (f : TapV → Int) : List TapV → Int
  | [] => 0
  | t :: l => l.foldl (fun m t => min m (f t)) (f t)
def runHi (f : TapV → Int) : List TapV → Int
  | [] => 0
  | t :: l => l.foldl (fun m t => max m (f t)) (f t)
theorem runLo_one (f : TapV → Int) {l : List TapV} {x : TapV} (h : l[0]? = some x) : runLo f (l.take 1) = f x := by
  match l with
  | [] => simp at h
  | y :: l => simp at h; subst h; simp [runLo]
theorem runHi_one (f : TapV → Int) {l : List TapV} {x : TapV} (h : l[0]? = some x) : runHi f (l.take 1) = f x := by
  match l with
  | [] => simp at h
  | y :: l => simp at h; subst h; simp [runHi]
theorem runLo_at (f : TapV → Int) {l : List TapV} {i : Nat} {x : TapV} (h : l[i]? = some x) (hi : 0 < i) : runLo f (l.take (i + 1)) = min (runLo f (l.take i)) (f x) := by
  rw [take_succ_at h]
  match l, i with
  | [], _ => simp at h
  | y :: l, i + 1 => simp [runLo, List.foldl_append]
theorem runHi_at (f : TapV → Int) {l : List TapV} {i : Nat} {x : TapV} (h : l[i]? = some x) (hi : 0 < i) : runHi f (l.take (i + 1)) = max (runHi f (l.take i)) (f x) := by
  rw [take_succ_at h]
  match l, i with
  | [], _ => simp at h
  | y :: l, i + 1 => simp [runHi, List.foldl_append]
def resCode (w h mx : Int) (x y : List TapV) (s s2 out : Int) : Int :=
  if tapsCode x w = 0 then (if tapsCode y h = 0 then (if (x.length : Int) * (y.length : Int) ≤ 4096 then (if (0 ≤ s ∧ s ≤ 24) ∧ 0 ≤ s2 ∧ s2 ≤ 24 then (if (1 ≤ mx ∧ mx ≤ 4294967296) ∧ 1 ≤ out ∧ out ≤ 4294967296 then
    (if x.all (fun t => bndOK t.weights 0 mx) = true then (if y.all (fun t => bndOK t.weights (runLo (spLo mx s) x) (runHi (spHi mx s) x)) = true then 0 else 11) else 11) else 2) else 10) else 8) else tapsCode y h) else tapsCode x w
theorem tapsCode_len {l : List TapV} {n : Int} (h : tapsCode l n = 0) : 1 ≤ l.length ∧ l.length ≤ 128 := by
  unfold tapsCode at h
  split at h
  · omega
  · omega
theorem r11_check (W w : World) (H : Chunk) (F : List Chunk) (s : Shape) (ax : Option Addr) (nx kx : Nat) (x : List Tap) (ay : Option Addr) (ny ky : Nat) (y : List Tap) (sh : Int) (sh2 : Int) (out : Int) (hx : RdT encTap 2 [H] ax nx kx x) (dx : ∀ z ∈ x, Tap.Ok [H] z) (hy : RdT encTap 2 [H] ay ny ky y) (dy : ∀ z ∈ y, Tap.Ok [H] z) (hS : Sat W w (H :: F)) :
  Calls Try.prog 80 #[.agg #[I s.w, I s.h, I s.max_], .slice ax nx kx, .slice ay ny ky, I sh, I sh2, I out] w fun e w' => e = .returned (I (resCode s.w s.h s.max_ (x.map Tap.v) (y.map Tap.v) sh sh2 out)) ∧ Sat W w' (H :: F) := by
 have hl_x := hx.le; have hn_x := hx.len
 have hl_y := hy.le; have hn_y := hy.len
 refine callsE (n := 122) Try.func80 rfl rfl (Nat.le_of_ble_eq_true rfl) ?_
 refine sR ?_
 refine sBox hS (.agg #[I s.w, I s.h, I s.max_]) #[I s.w, I s.h, I s.max_] ?_
 intro b0 _ v0
 refine pu1 <| nT <| seqE <| sR <| pu2 ?_
 refine sL v0 0 0 (I s.w) (Try.isAgg3 _) ?_
 refine sF #[.slice ax nx kx, I s.w] Try.call90 (Calls.mono (r8_valid W _ _ [] ax nx kx x s.w (RdT.flat (hx.up 1 (by rfl))) (fun z hz => (dx z hz).of_mem (mem_flat1 1 (by rfl))) (Sat.flat v0)) ?_)
 rintro _ _ ⟨rfl, w0⟩
 refine ⟨_, rfl, ?_⟩
 have e0 := Sat.unflat w0; clear w0
 change Sat _ _ ([(b0, .cells #[I s.w, I s.h, I s.max_] 55 (0, 0))] :: H :: F) at e0
 refine pu1 <| nT <| sR <| pu2 <| nT ?_
 by_cases x0 : ((tapsCode (x.map Tap.v) s.w) : Int) = 0
 rotate_left
 ·refine cT _ (bne_iff_ne.2 x0) ?_
  refine sR <| pu2 <| nT ?_
  refine retE (thenK_r <| ?_)
  refine retT [I (tapsCode (x.map Tap.v) s.w)] ?_
  have y0 := ((e0.pick 1 rfl).dropAt 1 rfl)
  change Sat _ _ (H :: F) at y0
  refine ⟨?_, y0⟩
  unfold resCode
  (repeat' split) <;> first | rfl | (exfalso; omega) | contradiction | (exfalso; simp_all; done) | (simp_all; done)
 refine cF _ (bne_eq_false_iff_eq.2 x0) ?_
 refine kT <| seqE <| sR <| pu2 ?_
 refine sL e0 0 1 (I s.h) (Try.isAgg3 _) ?_
 refine sF #[.slice ay ny ky, I s.h] Try.call90 (Calls.mono (r8_valid W _ _ [] ay ny ky y s.h (RdT.flat (hy.up 1 (by rfl))) (fun z hz => (dy z hz).of_mem (mem_flat1 1 (by rfl))) (Sat.flat e0)) ?_)
 rintro _ _ ⟨rfl, z0⟩
 refine ⟨_, rfl, ?_⟩
 have f0 := Sat.unflat z0; clear z0
 change Sat _ _ ([(b0, .cells #[I s.w, I s.h, I s.max_] 55 (0, 0))] :: H :: F) at f0
 refine pu1 <| nT <| sR <| pu2 <| nT ?_
 by_cases a1 : ((tapsCode (y.map Tap.v) s.h) : Int) = 0
 rotate_left
 ·refine cT _ (bne_iff_ne.2 a1) ?_
  refine sR <| pu2 <| nT ?_
  refine retE (thenK_r <| ?_)
  refine retT [I (tapsCode (y.map Tap.v) s.h)] ?_
  have b1 := ((f0.pick 1 rfl).dropAt 1 rfl)
  change Sat _ _ (H :: F) at b1
  refine ⟨?_, b1⟩
  unfold resCode
  (repeat' split) <;> first | rfl | (exfalso; omega) | contradiction | (exfalso; simp_all; done) | (simp_all; done)
 refine cF _ (bne_eq_false_iff_eq.2 a1) ?_
 refine kT <| seqE <| blockE <| seqE ?_
 have hlx := tapsCode_len (l := x.map Tap.v) (n := s.w) om; have hly := tapsCode_len (l := y.map Tap.v) (n := s.h) om
 have hmx : (x.map Tap.v).length = nx := by simp [hn_x]
 have hmy : (y.map Tap.v).length = ny := by simp [hn_y]
 have hwh := mul_bd (a := ((nx : Nat) : Int)) (b := ((ny : Nat) : Int)) (A := 128) (B := 128) om om
 have hmm : ((x.map Tap.v).length : Int) * ((y.map Tap.v).length : Int) = (nx : Int) * (ny : Int) := by rw [hmx, hmy]
 refine regionE <| pu4 ?_
 refine sMul ((nx : Nat) : Int) ((ny : Nat) : Int) ?_
 refine pu2 <| nT ?_
 by_cases c1 : ((((nx : Nat) : Int) * ((ny : Nat) : Int)) : Int) > 4096
 ·refine cT _ (decide_eq_true c1) ?_
  refine sR <| pu1 <| nT ?_
  refine retE (blockK_r <| thenK_r <| ?_)
  refine retT [I 8] ?_
  have d1 := ((f0.pick 1 rfl).dropAt 1 rfl)
  change Sat _ _ (H :: F) at d1
  refine ⟨?_, d1⟩
  unfold resCode
  (repeat' split) <;> first | rfl | (exfalso; omega) | contradiction | (exfalso; simp_all; done) | (simp_all; done)
 refine cF _ (decide_eq_false c1) ?_
 refine cutE (fun ρ w => AllAt ρ [(0, .agg #[I s.w, I s.h, I s.max_]), (1, .slice ax nx kx), (2, .slice ay ny ky), (3, I sh), (4, I sh2), (5, I out), (6, Pt b0 0), (12, I 0), (25, .slice ax nx kx), (26, Pt b0 0), (27, I s.w), (28, I (tapsCode (x.map Tap.v) s.w)), (13, I (tapsCode (x.map Tap.v) s.w)), (29, I (tapsCode (x.map Tap.v) s.w)), (30, .bool (((tapsCode (x.map Tap.v) s.w) : Int) != 0)), (32, .slice ay ny ky), (33, Pt b0 1), (34, I s.h), (35, I (tapsCode (y.map Tap.v) s.h)), (14, I (tapsCode (y.map Tap.v) s.h)), (36, I (tapsCode (y.map Tap.v) s.h)), (37, .bool (((tapsCode (y.map Tap.v) s.h) : Int) != 0)), (40, .slice ax nx kx), (41, I ((nx : Nat) : Int)), (42, .slice ay ny ky), (43, I ((ny : Nat) : Int)), (44, I (((nx : Nat) : Int) * ((ny : Nat) : Int))), (45, .bool (decide (((((nx : Nat) : Int) * ((ny : Nat) : Int)) : Int) > 4096))), (39, .bool (decide (((((nx : Nat) : Int) * ((ny : Nat) : Int)) : Int) > 4096))), (46, .bool (decide (¬ ((0 ≤ sh ∧ sh ≤ 24) ∧ 0 ≤ sh2 ∧ sh2 ≤ 24))))] ∧ Sat W w ([(b0, .cells #[I s.w, I s.h, I s.max_] 55 (0, 0))] :: H :: F)) ?_ ?_
 ·refine regionE <| pu1 ?_
  refine sF #[I sh] Try.call86 (Calls.mono (r7_iss W _ _ [] sh (Sat.flat f0)) ?_)
  rintro _ _ ⟨rfl, f1⟩
  refine ⟨_, rfl, ?_⟩
  have i0 := Sat.unflat f1; clear f1
  try dsimp only [List.set, List.eraseIdx, Value.cells] at i0
  refine pu2 ?_
  rcases Classical.em ((0 : Int) ≤ sh ∧ sh ≤ (24 : Int)) with j0 | j0
  rotate_left
  ·refine sFix 50 _ true (congrArg Bool.not (decide_eq_false j0)) ?_
   refine pu5 <| nT ?_
   exact ⟨⟨kr, kr, kr, kr, kr, kr, kr, kr, kr, kr, kr, kr, kr, kr, kr, kr, kr, kr, kr, kr, kr, kr, kr, kr, kr, kr, kr, kr, kr, (Eq.trans (b := .bool true) kr (congrArg Value.bool (decide_eq_true (p := ¬ ((0 ≤ sh ∧ sh ≤ 24) ∧ 0 ≤ sh2 ∧ sh2 ≤ 24)) om).symm)), trivial⟩, i0⟩
  refine sFix 50 _ false (congrArg Bool.not (decide_eq_true j0)) ?_
  refine pu1 <| gY ?_
  refine sF #[I sh2] Try.call86 (Calls.mono (r7_iss W _ _ [] sh2 (Sat.flat i0)) ?_)
  rintro _ _ ⟨rfl, g1⟩
  refine ⟨_, rfl, ?_⟩
  have h1 := Sat.unflat g1; clear g1
  try dsimp only [List.set, List.eraseIdx, Value.cells] at h1
  refine pu3 <| nT ?_
  exact ⟨⟨kr, kr, kr, kr, kr, kr, kr, kr, kr, kr, kr, kr, kr, kr, kr, kr, kr, kr, kr, kr, kr, kr, kr, kr, kr, kr, kr, kr, kr, (Eq.trans (b := .bool (!decide ((0 : Int) ≤ sh2 ∧ sh2 ≤ (24 : Int)))) kr (congrArg Value.bool (by rw [Bool.eq_iff_iff]; simp only [decide_eq_true_eq, beq_iff_eq, bne_iff_ne, ne_eq, Bool.not_eq_true', decide_eq_false_iff_not, gt_iff_lt, ge_iff_le, Bool.and_eq_true, Bool.or_eq_true, Bool.not_eq_eq_eq_not, Bool.not_true, Bool.and_eq_false_imp, beq_eq_false_iff_ne] <;> omega))), trivial⟩, h1⟩
 rintro ρ _ ⟨hA, k0⟩
 refine cAnchor hA (fun ρ => ?_)
 clear hA
 rcases Classical.em (¬ ((0 ≤ sh ∧ sh ≤ 24) ∧ 0 ≤ sh2 ∧ sh2 ≤ 24)) with l0 | l0
 ·refine cT _ (decide_eq_true l0) ?_
  refine sR <| pu1 <| nT ?_
  refine retE (blockK_r <| thenK_r <| ?_)
  refine retT [I 10] ?_
  have i1 := ((k0.pick 1 rfl).dropAt 1 rfl)
  change Sat _ _ (H :: F) at i1
  refine ⟨?_, i1⟩
  unfold resCode
  (repeat' split) <;> first | rfl | (exfalso; omega) | contradiction | (exfalso; simp_all; done) | (simp_all; done)
 refine cF _ (decide_eq_false l0) ?_
 refine cutE (fun ρ w => AllAt ρ [(0, .agg #[I s.w, I s.h, I s.max_]), (1, .slice ax nx kx), (2, .slice ay ny ky), (3, I sh), (4, I sh2), (5, I out), (6, Pt b0 0), (12, I 0), (25, .slice ax nx kx), (26, Pt b0 0), (27, I s.w), (28, I (tapsCode (x.map Tap.v) s.w)), (13, I (tapsCode (x.map Tap.v) s.w)), (29, I (tapsCode (x.map Tap.v) s.w)), (30, .bool (((tapsCode (x.map Tap.v) s.w) : Int) != 0)), (32, .slice ay ny ky), (33, Pt b0 1), (34, I s.h), (35, I (tapsCode (y.map Tap.v) s.h)), (14, I (tapsCode (y.map Tap.v) s.h)), (36, I (tapsCode (y.map Tap.v) s.h)), (37, .bool (((tapsCode (y.map Tap.v) s.h) : Int) != 0)), (40, .slice ax nx kx), (41, I ((nx : Nat) : Int)), (42, .slice ay ny ky), (43, I ((ny : Nat) : Int)), (44, I (((nx : Nat) : Int) * ((ny : Nat) : Int))), (45, .bool (decide (((((nx : Nat) : Int) * ((ny : Nat) : Int)) : Int) > 4096))), (39, .bool (decide (((((nx : Nat) : Int) * ((ny : Nat) : Int)) : Int) > 4096))), (46, .bool (decide (¬ ((0 ≤ sh ∧ sh ≤ 24) ∧ 0 ≤ sh2 ∧ sh2 ≤ 24)))), (55, .bool (decide (¬ ((1 ≤ s.max_ ∧ s.max_ ≤ 4294967296) ∧ 1 ≤ out ∧ out ≤ 4294967296))))] ∧ Sat W w ([(b0, .cells #[I s.w, I s.h, I s.max_] 55 (0, 0))] :: H :: F)) ?_ ?_
 ·refine regionE <| pu1 ?_
  refine sL k0 0 2 (I s.max_) (Try.isAgg3 _) ?_
  refine sF #[I s.max_] Try.call87 (Calls.mono (r9_value W _ _ [] s.max_ (Sat.flat k0)) ?_)
  rintro _ _ ⟨rfl, j1⟩
  refine ⟨_, rfl, ?_⟩
  have m0 := Sat.unflat j1; clear j1
  try dsimp only [List.set, List.eraseIdx, Value.cells] at m0
  refine pu2 ?_
  rcases Classical.em ((1 : Int) ≤ s.max_ ∧ s.max_ ≤ (4294967296 : Int)) with n0 | n0
  rotate_left
  ·refine sFix 60 _ true (congrArg Bool.not (decide_eq_false n0)) ?_
   refine pu5 <| nT ?_
   exact ⟨⟨kr, kr, kr, kr, kr, kr, kr, kr, kr, kr, kr, kr, kr, kr, kr, kr, kr, kr, kr, kr, kr, kr, kr, kr, kr, kr, kr, kr, kr, kr, (Eq.trans (b := .bool true) kr (congrArg Value.bool (decide_eq_true (p := ¬ ((1 ≤ s.max_ ∧ s.max_ ≤ 4294967296) ∧ 1 ≤ out ∧ out ≤ 4294967296)) om).symm)), trivial⟩, m0⟩
  refine sFix 60 _ false (congrArg Bool.not (decide_eq_true n0)) ?_
  refine pu1 <| gY ?_
  refine sF #[I out] Try.call87 (Calls.mono (r9_value W _ _ [] out (Sat.flat m0)) ?_)
  rintro _ _ ⟨rfl, k1⟩
  refine ⟨_, rfl, ?_⟩
  have l1 := Sat.unflat k1; clear k1
  try dsimp only [List.set, List.eraseIdx, Value.cells] at l1
  refine pu3 <| nT ?_
  exact ⟨⟨kr, kr, kr, kr, kr, kr, kr, kr, kr, kr, kr, kr, kr, kr, kr, kr, kr, kr, kr, kr, kr, kr, kr, kr, kr, kr, kr, kr, kr, kr, (Eq.trans (b := .bool (!decide ((1 : Int) ≤ out ∧ out ≤ (4294967296 : Int)))) kr (congrArg Value.bool (by rw [Bool.eq_iff_iff]; simp only [decide_eq_true_eq, beq_iff_eq, bne_iff_ne, ne_eq, Bool.not_eq_true', decide_eq_false_iff_not, gt_iff_lt, ge_iff_le, Bool.and_eq_true, Bool.or_eq_true, Bool.not_eq_eq_eq_not, Bool.not_true, Bool.and_eq_false_imp, beq_eq_false_iff_ne] <;> omega))), trivial⟩, l1⟩
 rintro ρ _ ⟨hA, m1⟩
 refine cAnchor hA (fun ρ => ?_)
 clear hA
 rcases Classical.em (¬ ((1 ≤ s.max_ ∧ s.max_ ≤ 4294967296) ∧ 1 ≤ out ∧ out ≤ 4294967296)) with o0 | o0
 ·refine cT _ (decide_eq_true o0) ?_
  refine sR <| pu1 <| nT ?_
  refine retE (blockK_r <| thenK_r <| ?_)
  refine retT [I 2] ?_
  have n1 := ((m1.pick 1 rfl).dropAt 1 rfl)
  change Sat _ _ (H :: F) at n1
  refine ⟨?_, n1⟩
  unfold resCode
  (repeat' split) <;> first | rfl | (exfalso; omega) | contradiction | (exfalso; simp_all; done) | (simp_all; done)
 refine cF _ (decide_eq_false o0) ?_
 refine skipE <| blockK_n <| thenK_n <| sR <| pu2 <| nT <| seqE <| sR <| pu1 <| nT <| blockE ?_
 refine loopE (γ := Nat × Int × Int) (fun ⟨i, lo, up⟩ ρ w => AllAt ρ [(0, .agg #[I s.w, I s.h, I s.max_]), (1, .slice ax nx kx), (2, .slice ay ny ky), (3, I sh), (4, I sh2), (5, I out), (6, Pt b0 0), (25, .slice ax nx kx), (26, Pt b0 0), (27, I s.w), (28, I (tapsCode (x.map Tap.v) s.w)), (13, I (tapsCode (x.map Tap.v) s.w)), (29, I (tapsCode (x.map Tap.v) s.w)), (30, .bool (((tapsCode (x.map Tap.v) s.w) : Int) != 0)), (32, .slice ay ny ky), (33, Pt b0 1), (34, I s.h), (35, I (tapsCode (y.map Tap.v) s.h)), (14, I (tapsCode (y.map Tap.v) s.h)), (36, I (tapsCode (y.map Tap.v) s.h)), (37, .bool (((tapsCode (y.map Tap.v) s.h) : Int) != 0)), (40, .slice ax nx kx), (41, I ((nx : Nat) : Int)), (42, .slice ay ny ky), (43, I ((ny : Nat) : Int)), (44, I (((nx : Nat) : Int) * ((ny : Nat) : Int))), (45, .bool (decide (((((nx : Nat) : Int) * ((ny : Nat) : Int)) : Int) > 4096))), (39, .bool (decide (((((nx : Nat) : Int) * ((ny : Nat) : Int)) : Int) > 4096))), (46, .bool (decide (¬ ((0 ≤ sh ∧ sh ≤ 24) ∧ 0 ≤ sh2 ∧ sh2 ≤ 24)))), (55, .bool (decide (¬ ((1 ≤ s.max_ ∧ s.max_ ≤ 4294967296) ∧ 1 ≤ out ∧ out ≤ 4294967296)))), (17, I ((i : Nat) : Int)), (15, I lo), (16, I up)] ∧ Sat W w ([(b0, .cells #[I s.w, I s.h, I s.max_] 55 (0, 0))] :: H :: F) ∧ i ≤ nx ∧ (lo = runLo (spLo s.max_ sh) ((x.map Tap.v).take i) ∧ up = runHi (spHi s.max_ sh) ((x.map Tap.v).take i)) ∧ (((x.map Tap.v).take i).all (fun t => bndOK t.weights 0 s.max_) = true)) (fun ⟨i, lo, up⟩ => nx - i) (0, 0, 0) ⟨alA, m1, om, by exact ⟨rfl, rfl⟩, by rfl⟩ ?_
 skip
 rintro ⟨i, lo, up⟩ ρ _ ⟨hA, g0, hi, hr, hE⟩
 refine cAnchor hA (fun ρ => ?_)
 clear hA
 refine seqE <| sR <| pu4 <| nT ?_
 by_cases o1 : (((i : Nat) : Int) : Int) < ((nx : Nat) : Int)
 rotate_left
 ·refine cF _ (decide_eq_false o1) ?_
  refine exitE (xB <| ?_)
  refine thenK_n <| seqE <| seqE ?_
  have hx1 := all_of_take hE (by simp; omega)
  have hx2 : lo = runLo (spLo s.max_ sh) (x.map Tap.v) := by rw [hr.1, List.take_of_length_le (by simp; omega)]
  have hx3 : up = runHi (spHi s.max_ sh) (x.map Tap.v) := by rw [hr.2, List.take_of_length_le (by simp; omega)]
  refine regionE <| pu1 <| nT <| blockE ?_
  refine loopE (γ := Nat) (fun j ρ w => AllAt ρ [(0, .agg #[I s.w, I s.h, I s.max_]), (1, .slice ax nx kx), (2, .slice ay ny ky), (3, I sh), (4, I sh2), (5, I out), (6, Pt b0 0), (25, .slice ax nx kx), (26, Pt b0 0), (27, I s.w), (28, I (tapsCode (x.map Tap.v) s.w)), (13, I (tapsCode (x.map Tap.v) s.w)), (29, I (tapsCode (x.map Tap.v) s.w)), (30, .bool (((tapsCode (x.map Tap.v) s.w) : Int) != 0)), (32, .slice ay ny ky), (33, Pt b0 1), (34, I s.h), (35, I (tapsCode (y.map Tap.v) s.h)), (14, I (tapsCode (y.map Tap.v) s.h)), (36, I (tapsCode (y.map Tap.v) s.h)), (37, .bool (((tapsCode (y.map Tap.v) s.h) : Int) != 0)), (40, .slice ax nx kx), (41, I ((nx : Nat) : Int)), (42, .slice ay ny ky), (43, I ((ny : Nat) : Int)), (44, I (((nx : Nat) : Int) * ((ny : Nat) : Int))), (45, .bool (decide (((((nx : Nat) : Int) * ((ny : Nat) : Int)) : Int) > 4096))), (39, .bool (decide (((((nx : Nat) : Int) * ((ny : Nat) : Int)) : Int) > 4096))), (46, .bool (decide (¬ ((0 ≤ sh ∧ sh ≤ 24) ∧ 0 ≤ sh2 ∧ sh2 ≤ 24)))), (55, .bool (decide (¬ ((1 ≤ s.max_ ∧ s.max_ ≤ 4294967296) ∧ 1 ≤ out ∧ out ≤ 4294967296)))), (17, I ((i : Nat) : Int)), (15, I lo), (16, I up), (65, I ((i : Nat) : Int)), (66, .slice ax nx kx), (67, I ((nx : Nat) : Int)), (68, .bool (decide ((((i : Nat) : Int) : Int) < ((nx : Nat) : Int)))), (21, I ((j : Nat) : Int))] ∧ Sat W w ([(b0, .cells #[I s.w, I s.h, I s.max_] 55 (0, 0))] :: H :: F) ∧ j ≤ ny ∧ (((y.map Tap.v).take j).all (fun t => bndOK t.weights (runLo (spLo s.max_ sh) (x.map Tap.v)) (runHi (spHi s.max_ sh) (x.map Tap.v))) = true)) (fun j => ny - j) 0 ⟨alA, g0, om, by rfl⟩ ?_
  skip
  rintro j ρ _ ⟨hA, p0, hj, hF⟩
  refine cAnchor hA (fun ρ => ?_)
  clear hA
  refine seqE <| sR <| pu4 <| nT ?_
  by_cases p1 : (((j : Nat) : Int) : Int) < ((ny : Nat) : Int)
  rotate_left
  ·refine cF _ (decide_eq_false p1) ?_
   refine exitE (xB <| ?_)
   refine thenK_n <| sR <| pu1 <| nT <| retE <| retT [I 0] ?_
   have q1 := ((p0.pick 1 rfl).dropAt 1 rfl)
   change Sat _ _ (H :: F) at q1
   have hy2 := all_of_take hF (by simp; omega)
   refine ⟨?_, q1⟩
   unfold resCode
   (repeat' split) <;> first | rfl | (exfalso; omega) | contradiction | (exfalso; rename_i h; rw [hy2] at h; cases h) | (exfalso; simp_all; done) | (simp_all; done)
  refine cT _ (decide_eq_true p1) ?_
  refine kT <| seqE <| blockE <| sR <| pu2 ?_
  refine sIdx hy ((j : Nat) : Int) Try.runUnderlying58 Try.sizeOf94 ?_
  intro c0 _ _ h0 c2
  rw [Int.toNat_natCast] at h0
  refine pu1 ?_
  refine sLp p0 (c2.up 1 rfl) 1 (.slice c0.weights.a c0.weights.n c0.weights.k) (Try.isAgg22 _) ?_
  refine pu2 ?_
  refine sF #[.slice c0.weights.a c0.weights.n c0.weights.k, I lo, I up] Try.call88 (Calls.mono (r7_bounds W _ _ [] c0.weights.a c0.weights.n c0.weights.k c0.weights.l lo up (RdT.flat ((dy c0 (List.mem_of_getElem? h0)).weights.up 1 (by rfl))) (Sat.flat p0)) ?_)
  rintro _ _ ⟨rfl, r1⟩
  refine ⟨_, rfl, ?_⟩
  have q0 := Sat.unflat r1; clear r1
  try dsimp only [List.set, List.eraseIdx, Value.cells] at q0
  refine pu7 <| nT <| sR <| pu2 <| nT ?_
  rcases Classical.em ((bndOK c0.weights.l lo up) = true) with r0 | r0
  ·refine cF _ (congrArg Bool.not r0) ?_
   refine skipE <| blockK_n <| thenK_n <| regionE <| pu1 ?_
   refine sAdd ((j : Nat) : Int) 1 ?_
   refine pu1 <| nT ?_
   have s1 := ((q0.pick 1 rfl).pick 1 rfl)
   try dsimp only [List.set, List.eraseIdx, Value.cells] at s1
   exact ⟨j + 1, od, alA, s1, om, all_succ hF (map_at (f := Tap.v) h0) (by simp only [Tap.v]; rw [← hx2, ← hx3]; simp_all)⟩
  refine cT _ (congrArg Bool.not (Bool.eq_false_iff.2 r0)) ?_
  refine sR <| pu1 <| nT ?_
  refine retE (blockK_r <| thenK_r <| tR <| thenK_r <| ?_)
  refine retT [I 11] ?_
  have t1 := ((q0.pick 1 rfl).dropAt 1 rfl)
  change Sat _ _ (H :: F) at t1
  have hy2 := all_false_at (p := fun t => bndOK t.weights (runLo (spLo s.max_ sh) (x.map Tap.v)) (runHi (spHi s.max_ sh) (x.map Tap.v))) (map_at (f := Tap.v) h0) (by simp only [Tap.v]; rw [← hx2, ← hx3]; simp_all)
  refine ⟨?_, t1⟩
  unfold resCode
  (repeat' split) <;> first | rfl | (exfalso; omega) | contradiction | (exfalso; rename_i h; rw [hy2] at h; cases h) | (exfalso; simp_all; done) | (simp_all; done)
 refine cT _ (decide_eq_true o1) ?_
 refine kT <| seqE <| blockE <| seqE ?_
 obtain ⟨a0, u1, v1, d0, d2, f2⟩ := RdT.elem hx ((i : Nat) : Int)
 rw [Int.toNat_natCast] at d0
 refine drawE [7] [(4, ⟨u1, v1 + 1, none⟩, .slice a0.weights.a a0.weights.n a0.weights.k), (6, ⟨b0, 2, none⟩, I s.max_)] [(true, [0, 1]), (true, [2]), (true, [3, 5]), (true, [4]), (true, [6]), (false, [7]), (true, [8]), (true, [9]), (true, [10]), (true, [11]), (true, [12, 13, 14])] rfl kr ⟨.inr ((d2.up 1 rfl).cell g0 (k := 1) rfl), .inr (g0.cell 0 rfl rfl), trivial⟩ ?_
 have g2 := g0.drew
 refine wU [0, 1] ?_
 refine wS (.pointer (some ⟨u1, v1, none⟩)) rfl rfl rfl (fun w _ => Y_idx (a := ax) (i := ((i : Nat) : Int)) (len := nx) (cap := kx) rfl Try.runUnderlying58 Try.sizeOf94 kr kr f2) ?_
 refine wU [3, 5] ?_
 refine wS (.slice a0.weights.a a0.weights.n a0.weights.k) rfl rfl rfl (fun w hF => Y_load rfl (Try.isAgg22 w) kr (hF 0 _ _ rfl)) ?_
 refine wS (I s.max_) rfl rfl rfl (fun w hF => Y_load rfl (Try.isAgg3 w) kr (hF 1 _ _ rfl)) ?_
 refine wO rfl ?_
 refine sF #[.slice a0.weights.a a0.weights.n a0.weights.k, I 0, I s.max_] Try.call88 (Calls.mono (r7_bounds W _ _ [] a0.weights.a a0.weights.n a0.weights.k a0.weights.l 0 s.max_ (RdT.flat ((dx a0 (List.mem_of_getElem? d0)).weights.up 1 (by rfl))) (Sat.flat g2)) ?_)
 rintro _ _ ⟨rfl, w1⟩
 refine ⟨_, rfl, ?_⟩
 have s0 := Sat.unflat w1; clear w1
 try dsimp only [List.set, List.eraseIdx, Value.cells] at s0
 refine nilO ⟨dA, ?_⟩
 refine wU [8] <| wU [9] <| wU [10] <| wU [11] <| wU [12, 13, 14] ?_
 refine wN ?_
 refine thenK_n <| seqE <| sR <| pu2 <| nT ?_
 rcases Classical.em ((bndOK a0.weights.l 0 s.max_) = true) with t0 | t0
 rotate_left
 ·refine cT _ (congrArg Bool.not (Bool.eq_false_iff.2 t0)) ?_
  refine sR <| pu1 <| nT ?_
  refine retE (tR <| thenK_r <| tR <| thenK_r <| ?_)
  refine retT [I 11] ?_
  have x1 := ((s0.pick 1 rfl).dropAt 1 rfl)
  change Sat _ _ (H :: F) at x1
  have hx1 := all_false_at (p := fun t => bndOK t.weights 0 s.max_) (map_at (f := Tap.v) d0) (by simp only [Tap.v]; simp_all)
  refine ⟨?_, x1⟩
  unfold resCode
  (repeat' split) <;> first | rfl | (exfalso; omega) | contradiction | (exfalso; simp_all; done) | (simp_all; done)
 refine cF _ (congrArg Bool.not t0) ?_
 refine kT <| sR <| pu3 ?_
 refine sF #[I (bndLo a0.weights.l 0 s.max_), I (bndHi a0.weights.l 0 s.max_), I sh] Try.call89 (Calls.mono (r7_span W _ _ [] (bndLo a0.weights.l 0 s.max_) (bndHi a0.weights.l 0 s.max_) sh (Sat.flat s0)) ?_)
 rintro _ _ ⟨rfl, y1⟩
 refine ⟨_, rfl, ?_⟩
 have u0 := Sat.unflat y1; clear y1
 try dsimp only [List.set, List.eraseIdx, Value.cells] at u0
 refine pu5 <| nT <| seqE <| sR <| pu2 <| nT ?_
 by_cases z1 : (((i : Nat) : Int) : Int) = 0
 rotate_left
 ·refine cF _ (beq_eq_false_iff_ne.2 z1) ?_
  refine kT <| regionE <| pu2 ?_
  refine stepY (I (min lo (shiftV (bndLo a0.weights.l 0 s.max_) sh))) rfl rfl (Y_min2 lo (shiftV (bndLo a0.weights.l 0 s.max_) sh) rfl rfl kr kr) ?_
  refine pu2 ?_
  refine stepY (I (max up (shiftV (bndHi a0.weights.l 0 s.max_) sh))) rfl rfl (Y_max2 up (shiftV (bndHi a0.weights.l 0 s.max_) sh) rfl rfl kr kr) ?_
  refine pu2 <| nB <| regionE <| pu1 ?_
  refine sAdd ((i : Nat) : Int) 1 ?_
  refine pu1 <| nT ?_
  have a2 := ((u0.pick 1 rfl).pick 1 rfl)
  try dsimp only [List.set, List.eraseIdx, Value.cells] at a2
  exact ⟨(i + 1, (min lo (shiftV (bndLo a0.weights.l 0 s.max_) sh)), (max up (shiftV (bndHi a0.weights.l 0 s.max_) sh))), od, alA, a2, om, by
    have e1 := runLo_at (spLo s.max_ sh) (map_at (f := Tap.v) d0) om; have e2 := runHi_at (spHi s.max_ sh) (map_at (f := Tap.v) d0) om
    exact ⟨by rw [e1, ← hr.1]; rfl, by rw [e2, ← hr.2]; rfl⟩, all_succ hE (map_at (f := Tap.v) d0) (by simp only [Tap.v]; simp_all)⟩
 refine cT _ (beq_iff_eq.2 z1) ?_
 refine regionE <| pu4 <| nT <| regionE <| pu2 ?_
 refine stepY (I (min (shiftV (bndLo a0.weights.l 0 s.max_) sh) (shiftV (bndLo a0.weights.l 0 s.max_) sh))) rfl rfl (Y_min2 (shiftV (bndLo a0.weights.l 0 s.max_) sh) (shiftV (bndLo a0.weights.l 0 s.max_) sh) rfl rfl kr kr) ?_
 refine pu2 ?_
 refine stepY (I (max (shiftV (bndHi a0.weights.l 0 s.max_) sh) (shiftV (bndHi a0.weights.l 0 s.max_) sh))) rfl rfl (Y_max2 (shiftV (bndHi a0.weights.l 0 s.max_) sh) (shiftV (bndHi a0.weights.l 0 s.max_) sh) rfl rfl kr kr) ?_
 refine pu2 <| nB <| regionE <| pu1 ?_
 refine sAdd ((i : Nat) : Int) 1 ?_
 refine pu1 <| nT ?_
 have b2 := ((u0.pick 1 rfl).pick 1 rfl)
 try dsimp only [List.set, List.eraseIdx, Value.cells] at b2
 exact ⟨(i + 1, (min (shiftV (bndLo a0.weights.l 0 s.max_) sh) (shiftV (bndLo a0.weights.l 0 s.max_) sh)), (max (shiftV (bndHi a0.weights.l 0 s.max_) sh) (shiftV (bndHi a0.weights.l 0 s.max_) sh))), od, alA, b2, om, by
   have hi0 : i = 0 := by omega
   subst hi0
   have e1 := runLo_one (spLo s.max_ sh) (map_at (f := Tap.v) d0); have e2 := runHi_one (spHi s.max_ sh) (map_at (f := Tap.v) d0)
   rw [e1, e2]; simp only [spLo, spHi, Tap.v]; omega, all_succ hE (map_at (f := Tap.v) d0) (by simp only [Tap.v]; simp_all)⟩
end Go.Proofs.Ytcddcpaodcjecaa
