import Derived.Test.YtdingplbadblpaaGreatP2Pure
import Derived.Test.YtdingplbadblpaaGreatP2La
namespace Go.Proofs.YtdingplbadblpaaGreat
open Go Go.E Go.ChangeShapes Go.WideShapes Go.RowKit
set_option linter.unusedVariables false
set_option linter.unusedSimpArgs false
set_option maxRecDepth 100000
-- squeezed
theorem open_Shape {H : Type} {enc : TypeId × Value → H} {w : World} {n : Nat} {cs : List Value} {y : DataW H × List MemPlace} (h : DataW.trod enc Tryz.prog w 0 (fun _ => true) true n 54 cs = some y) : ∃ t : Shape, cs = encShape t ∧ True := by
 obtain ⟨ys, n1, _, _, hl, hyl, hf⟩ := DataW.trod_struct Tryz.underlying54 h
 have hl9 : cs.length = 3 := hl.trans kr
 obtain ⟨c0, c1, c2, rfl⟩ : ∃ c0 c1 c2, cs = [c0, c1, c2] := by
  rcases cs with _ | ⟨c0, _ | ⟨c1, _ | ⟨c2, _ | ⟨_, _⟩⟩⟩⟩ <;> first | exact ⟨c0, c1, c2, rfl⟩ | (simp at hl9; done) | (simp at hl9; omega)
 have g1 : DataW.trod enc Tryz.prog w 0 (fun _ => true) true n1 3 [c0] = ys[0]? := Eq.mp kr (hf 0 _ rfl)
 obtain ⟨z2, hz3, _, hw4⟩ := DataW.trod_int Tryz.underlying3 (g1.trans (List.getElem?_eq_getElem (by rw [hyl]; decide)))
 simp only [List.cons.injEq, and_true] at hz3; subst hz3
 have g5 : DataW.trod enc Tryz.prog w 0 (fun _ => true) true n1 3 [c1] = ys[1]? := Eq.mp kr (hf 1 _ rfl)
 obtain ⟨z6, hz7, _, hw8⟩ := DataW.trod_int Tryz.underlying3 (g5.trans (List.getElem?_eq_getElem (by rw [hyl]; decide)))
 simp only [List.cons.injEq, and_true] at hz7; subst hz7
 have g9 : DataW.trod enc Tryz.prog w 0 (fun _ => true) true n1 3 [c2] = ys[2]? := Eq.mp kr (hf 2 _ rfl)
 obtain ⟨z10, hz11, _, hw12⟩ := DataW.trod_int Tryz.underlying3 (g9.trans (List.getElem?_eq_getElem (by rw [hyl]; decide)))
 simp only [List.cons.injEq, and_true] at hz11; subst hz11
 exact ⟨⟨z2, z6, z10⟩, rfl, trivial⟩
theorem open_Rct {H : Type} {enc : TypeId × Value → H} {w : World} {n : Nat} {cs : List Value} {y : DataW H × List MemPlace} (h : DataW.trod enc Tryz.prog w 0 (fun _ => true) true n 44 cs = some y) : ∃ t : Rct, cs = encRct t ∧ True := by
 obtain ⟨ys, n1, _, _, hl, hyl, hf⟩ := DataW.trod_struct Tryz.underlying44 h
 have hl9 : cs.length = 4 := hl.trans kr
 obtain ⟨c0, c1, c2, c3, rfl⟩ : ∃ c0 c1 c2 c3, cs = [c0, c1, c2, c3] := by
  rcases cs with _ | ⟨c0, _ | ⟨c1, _ | ⟨c2, _ | ⟨c3, _ | ⟨_, _⟩⟩⟩⟩⟩ <;> first | exact ⟨c0, c1, c2, c3, rfl⟩ | (simp at hl9; done) | (simp at hl9; omega)
 have g1 : DataW.trod enc Tryz.prog w 0 (fun _ => true) true n1 3 [c0] = ys[0]? := Eq.mp kr (hf 0 _ rfl)
 obtain ⟨z2, hz3, _, hw4⟩ := DataW.trod_int Tryz.underlying3 (g1.trans (List.getElem?_eq_getElem (by rw [hyl]; decide)))
 simp only [List.cons.injEq, and_true] at hz3; subst hz3
 have g5 : DataW.trod enc Tryz.prog w 0 (fun _ => true) true n1 3 [c1] = ys[1]? := Eq.mp kr (hf 1 _ rfl)
 obtain ⟨z6, hz7, _, hw8⟩ := DataW.trod_int Tryz.underlying3 (g5.trans (List.getElem?_eq_getElem (by rw [hyl]; decide)))
 simp only [List.cons.injEq, and_true] at hz7; subst hz7
 have g9 : DataW.trod enc Tryz.prog w 0 (fun _ => true) true n1 3 [c2] = ys[2]? := Eq.mp kr (hf 2 _ rfl)
 obtain ⟨z10, hz11, _, hw12⟩ := DataW.trod_int Tryz.underlying3 (g9.trans (List.getElem?_eq_getElem (by rw [hyl]; decide)))
 simp only [List.cons.injEq, and_true] at hz11; subst hz11
 have g13 : DataW.trod enc Tryz.prog w 0 (fun _ => true) true n1 3 [c3] = ys[3]? := Eq.mp kr (hf 3 _ rfl)
 obtain ⟨z14, hz15, _, hw16⟩ := DataW.trod_int Tryz.underlying3 (g13.trans (List.getElem?_eq_getElem (by rw [hyl]; decide)))
 simp only [List.cons.injEq, and_true] at hz15; subst hz15
 exact ⟨⟨z2, z6, z10, z14⟩, rfl, trivial⟩
end Go.Proofs.YtdingplbadblpaaGreat

namespace Go.Proofs.YtdingplbadblpaaGreat
open Go Go.E
set_option linter.unusedVariables false
set_option linter.unusedSimpArgs false
set_option linter.unnecessarySimpa false
set_option maxRecDepth 100000
set_option maxHeartbeats 2000000
variable {W w : World} {H : Chunk} {F : List Chunk}
theorem r1_ceil (a : Int) (b : Int) (hab : a ≤ 4611686018427387904 ∧ b ≤ 4611686018427387904) (hS : Sat W w (H :: F)) :
  Ro Tryz.prog 97 #[I a, I b] (I (ceilV a b)) W w (H :: F) := by
 refine callsA 22 Tryz.func97 rfl ?_
 refine sR <| pu1 <| nT <| seqE <| sR <| pu3 ?_
 refine sD 8 (a < 0) (fun a0 => ?_) (fun a0 => ?_)
 ·refine pu3 <| nT <| cTt <| sR <| pu1 <| nT <| retE <| thenK_r <| retT [I 0] ?_
  have hk : ceilV a b = 0 := by unfold ceilV; rw [if_neg om]
  exact ⟨by rw [hk]; rfl, hS⟩
 refine pu3 <| nT ?_
 refine cD (b < 1) (fun b0 => ?_) (fun b0 => ?_)
 ·refine sR <| pu1 <| nT <| retE <| thenK_r <| retT [I 0] ?_
  have hk : ceilV a b = 0 := by unfold ceilV; rw [if_neg om]
  exact ⟨by rw [hk]; rfl, hS⟩
 refine kT <| seqE ?_
 have ht : a.tdiv b = a / b := Int.tdiv_eq_ediv_of_nonneg om; have hm : a.tmod b = a % b := Int.tmod_eq_emod_of_nonneg om; have hd := tdiv_bd (a := a) (b := b) (A := a) om om; have hmb := Int.emod_nonneg a (by omega : b ≠ 0); have hmc := Int.emod_lt_of_pos a (by omega : 0 < b)
 refine regionE <| pu2 ?_
 refine sQuo a b ?_
 refine pu1 <| nT <| seqE <| sR <| pu2 ?_
 refine sRem a b ?_
 refine pu1 <| nT ?_
 refine cD ((a.tmod b) > 0) (fun c0 => ?_) (fun c0 => ?_)
 rotate_left
 ·refine kT <| sR <| pu2 <| nT <| retE <| retT [I (a.tdiv b)] ?_
  have hk : ceilV a b = (a.tdiv b) := by unfold ceilV; rw [if_pos om, if_pos (by rw [← hm]; omega), ← ht]
  exact ⟨by rw [hk]; rfl, hS⟩
 refine regionE <| pu1 ?_
 refine sAdd (a.tdiv b) 1 ?_
 refine pu1 <| nT <| sR <| pu2 <| nT <| retE <| retT [I ((a.tdiv b) + 1)] ?_
 have hk : ceilV a b = ((a.tdiv b) + 1) := by unfold ceilV; rw [if_pos om, if_neg (by rw [← hm]; omega), ← ht]
 exact ⟨by rw [hk]; rfl, hS⟩
theorem r1_align (n : Int) (k : Int) (l : Int) (hab : n ≤ 4611686018427387904 ∧ k ≤ 4611686018427387904 ∧ l ≤ 4611686018427387904) (hS : Sat W w (H :: F)) :
  Ro Tryz.prog 56 #[I n, I k, I l] (.tuple #[I (alnX n k l), .bool (alnOK n k l)]) W w (H :: F) := by
 refine callsA 22 Tryz.func56 rfl ?_
 refine sR <| pu2 <| nT <| seqE <| sR <| pu3 ?_
 refine sD 10 (n < 0) (fun a0 => ?_) (fun a0 => ?_)
 ·refine pu3 <| nT <| cTt <| sR <| pu2 <| nT <| retE <| thenK_r <| retT [I 0, .bool false] ?_
  have h1 : alnOK n k l = false := by unfold alnOK; rw [if_neg om]
  have h2 : alnX n k l = 0 := by unfold alnX; rw [if_neg om]
  exact ⟨by rw [h1, h2]; rfl, hS⟩
 refine pu3 <| nT ?_
 refine cD (k < 1) (fun b0 => ?_) (fun b0 => ?_)
 ·refine sR <| pu2 <| nT <| retE <| thenK_r <| retT [I 0, .bool false] ?_
  have h1 : alnOK n k l = false := by unfold alnOK; rw [if_neg om]
  have h2 : alnX n k l = 0 := by unfold alnX; rw [if_neg om]
  exact ⟨by rw [h1, h2]; rfl, hS⟩
 refine kT <| sR <| pu2 ?_
 refine cR Tryz.call97 (r1_ceil n k (od) (Sat.flat hS)) ?_
 intro _ c0
 refine pu2 ?_
 refine cR Tryz.call98 (r1_mul (ceilV n k) k l (od) (Sat.flat c0)) ?_
 intro _ d0
 refine pu4 <| nT <| retE <| retT [I (mulV (ceilV n k) k l), .bool (mulOK (ceilV n k) k l)] ?_
 have h1 : alnOK n k l = mulOK (ceilV n k) k l := by unfold alnOK; rw [if_pos om]
 have h2 : alnX n k l = mulV (ceilV n k) k l := by unfold alnX; rw [if_pos om]
 exact ⟨by rw [h1, h2]; rfl, d0⟩
theorem r2_coord (n : Int) (hS : Sat W w (H :: F)) :
  Ro Tryz.prog 119 #[I n] (.bool (decide (-(1048576 : Int) ≤ n ∧ n ≤ 1048576))) W w (H :: F) := by
 refine callsA 9 Tryz.func119 rfl ?_
 refine sR <| pu1 <| nT <| sR <| pu3 ?_
 refine sD 5 (n ≥ (-1048576)) (fun a0 => ?_) (fun a0 => ?_)
 rotate_left
 ·refine pu4 <| nT <| retE <| retT [.bool false] ?_
  refine ⟨congrArg (fun b => Ending.returned (.bool b)) ?_, hS⟩
  first | rfl | (rw [Bool.eq_iff_iff]; simp only [decide_eq_true_eq, beq_iff_eq, bne_iff_ne, ne_eq, Bool.not_eq_true', decide_eq_false_iff_not, true_iff, false_iff, iff_true, iff_false, Bool.false_eq_true, Bool.and_eq_true, Bool.or_eq_true, gt_iff_lt, ge_iff_le] <;> omega) | (rw [Bool.eq_iff_iff]; simp [*] <;> omega) | (simp_all; done)
 refine pu4 <| nT <| retE <| retT [.bool (decide ((n : Int) ≤ 1048576))] ?_
 refine ⟨congrArg (fun b => Ending.returned (.bool b)) ?_, hS⟩
 first | rfl | (rw [Bool.eq_iff_iff]; simp only [decide_eq_true_eq, beq_iff_eq, bne_iff_ne, ne_eq, Bool.not_eq_true', decide_eq_false_iff_not, true_iff, false_iff, iff_true, iff_false, Bool.false_eq_true, Bool.and_eq_true, Bool.or_eq_true, gt_iff_lt, ge_iff_le] <;> omega) | (rw [Bool.eq_iff_iff]; simp [*] <;> omega) | (simp_all; done)
theorem r2_empty (r : Rct) (hS : Sat W w (H :: F)) :
  Ro Tryz.prog 32 #[.agg (encRct r).toArray] (.bool (decide (r.x0 = 0 ∧ r.y0 = 0 ∧ r.x1 = 0 ∧ r.y1 = 0))) W w (H :: F) := by
 refine callsA 6 Tryz.func32 rfl ?_
 refine sR ?_
 refine sBox hS (.agg (encRct r).toArray) (encRct r).toArray ?_
 intro _ _ a0
 refine pu1 <| nT <| sR ?_
 refine lA a0 0 0 4 (Tryz.isAgg44 _) (Tryz.sizeOf44 _) ?_
 refine pu1 ?_
 refine stepY (.bool (((r.x0 : Int) == 0) && ((r.y0 : Int) == 0) && ((r.x1 : Int) == 0) && ((r.y1 : Int) == 0))) rfl rfl (Y_eqS rfl kr kr (eqve44 _ r.x0 r.y0 r.x1 r.y1 0 0 0 0)) ?_
 refine pu1 <| nT <| retE <| retT [.bool (((r.x0 : Int) == 0) && ((r.y0 : Int) == 0) && ((r.x1 : Int) == 0) && ((r.y1 : Int) == 0))] ?_
 have b0 := (a0.dropAt 0 rfl)
 refine ⟨congrArg (fun b => Ending.returned (.bool b)) ?_, b0⟩
 first | rfl | (rw [Bool.eq_iff_iff]; simp only [decide_eq_true_eq, beq_iff_eq, bne_iff_ne, ne_eq, Bool.not_eq_true', decide_eq_false_iff_not, true_iff, false_iff, iff_true, iff_false, Bool.false_eq_true, Bool.and_eq_true, Bool.or_eq_true, gt_iff_lt, ge_iff_le] <;> omega) | (rw [Bool.eq_iff_iff]; simp [*] <;> omega) | (simp_all; done)
theorem r2_valid (r : Rct) (hS : Sat W w (H :: F)) :
  Ro Tryz.prog 76 #[.agg (encRct r).toArray] (.bool (decide (rvP r))) W w (H :: F) := by
 refine callsA 40 Tryz.func76 rfl ?_
 refine sR ?_
 refine sBox hS (.agg (encRct r).toArray) (encRct r).toArray ?_
 intro _ _ b0
 refine pu1 <| nT <| sR ?_
 refine lA b0 0 0 4 (Tryz.isAgg44 _) (Tryz.sizeOf44 _) ?_
 refine pu1 ?_
 refine stepY (.bool (((r.x0 : Int) == 0) && ((r.y0 : Int) == 0) && ((r.x1 : Int) == 0) && ((r.y1 : Int) == 0))) rfl rfl (Y_eqS rfl kr kr (eqve44 _ r.x0 r.y0 r.x1 r.y1 0 0 0 0)) ?_
 refine pu1 ?_
 rcases Classical.em ((r.x0 : Int) = 0 ∧ (r.y0 : Int) = 0 ∧ (r.x1 : Int) = 0 ∧ (r.y1 : Int) = 0) with c0 | c0
 ·refine sFix 6 _ true (show (((r.x0 : Int) == 0) && ((r.y0 : Int) == 0) && ((r.x1 : Int) == 0) && ((r.y1 : Int) == 0)) = true from by simpa [and_assoc] using c0) ?_
  refine pu16 <| pu16 <| pu2 <| nT <| retE <| retT [.bool true] ?_
  have g0 := (b0.dropAt 0 rfl)
  refine ⟨congrArg (fun b => Ending.returned (.bool b)) ?_, g0⟩
  first | rfl | (rw [Bool.eq_iff_iff]; simp only [decide_eq_true_eq, beq_iff_eq, bne_iff_ne, ne_eq, Bool.not_eq_true', decide_eq_false_iff_not, true_iff, false_iff, iff_true, iff_false, Bool.false_eq_true, Bool.and_eq_true, Bool.or_eq_true, gt_iff_lt, ge_iff_le, rvP, cooP] <;> omega) | (rw [Bool.eq_iff_iff]; simp [rvP, cooP, *] <;> omega) | (simp_all; done)
 refine sFix 6 _ false (show (((r.x0 : Int) == 0) && ((r.y0 : Int) == 0) && ((r.x1 : Int) == 0) && ((r.y1 : Int) == 0)) = false from by rw [← Bool.not_eq_true]; intro h_; exact c0 (by simpa [and_assoc] using h_)) ?_
 refine pu1 <| gY ?_
 refine sL b0 0 0 (I r.x0) (Tryz.isAgg3 _) ?_
 refine gY ?_
 refine cR Tryz.call119 (r2_coord r.x0 (Sat.flat b0)) ?_
 intro _ d0
 refine pu1 ?_
 refine sD 10 (-(1048576 : Int) ≤ r.x0 ∧ r.x0 ≤ 1048576) (fun h0 => ?_) (fun h0 => ?_)
 rotate_left
 ·refine pu16 <| pu14 <| nT <| retE <| retT [.bool false] ?_
  have i0 := (d0.dropAt 0 rfl)
  refine ⟨congrArg (fun b => Ending.returned (.bool b)) ?_, i0⟩
  first | rfl | (rw [Bool.eq_iff_iff]; simp only [decide_eq_true_eq, beq_iff_eq, bne_iff_ne, ne_eq, Bool.not_eq_true', decide_eq_false_iff_not, true_iff, false_iff, iff_true, iff_false, Bool.false_eq_true, Bool.and_eq_true, Bool.or_eq_true, gt_iff_lt, ge_iff_le, rvP, cooP] <;> omega) | (rw [Bool.eq_iff_iff]; simp [rvP, cooP, *] <;> omega) | (simp_all; done)
 refine pu1 <| gY ?_
 refine sL d0 0 1 (I r.y0) (Tryz.isAgg3 _) ?_
 refine gY ?_
 refine cR Tryz.call119 (r2_coord r.y0 (Sat.flat d0)) ?_
 intro _ e0
 refine pu2 ?_
 refine sD 15 (-(1048576 : Int) ≤ r.y0 ∧ r.y0 ≤ 1048576) (fun j0 => ?_) (fun j0 => ?_)
 rotate_left
 ·refine pu16 <| pu9 <| nT <| retE <| retT [.bool false] ?_
  have k0 := (e0.dropAt 0 rfl)
  refine ⟨congrArg (fun b => Ending.returned (.bool b)) ?_, k0⟩
  first | rfl | (rw [Bool.eq_iff_iff]; simp only [decide_eq_true_eq, beq_iff_eq, bne_iff_ne, ne_eq, Bool.not_eq_true', decide_eq_false_iff_not, true_iff, false_iff, iff_true, iff_false, Bool.false_eq_true, Bool.and_eq_true, Bool.or_eq_true, gt_iff_lt, ge_iff_le, rvP, cooP] <;> omega) | (rw [Bool.eq_iff_iff]; simp [rvP, cooP, *] <;> omega) | (simp_all; done)
 refine pu1 <| gY ?_
 refine sL e0 0 2 (I r.x1) (Tryz.isAgg3 _) ?_
 refine gY ?_
 refine cR Tryz.call119 (r2_coord r.x1 (Sat.flat e0)) ?_
 intro _ f0
 refine pu2 ?_
 refine sD 20 (-(1048576 : Int) ≤ r.x1 ∧ r.x1 ≤ 1048576) (fun l0 => ?_) (fun l0 => ?_)
 rotate_left
 ·refine pu16 <| pu4 <| nT <| retE <| retT [.bool false] ?_
  have m0 := (f0.dropAt 0 rfl)
  refine ⟨congrArg (fun b => Ending.returned (.bool b)) ?_, m0⟩
  first | rfl | (rw [Bool.eq_iff_iff]; simp only [decide_eq_true_eq, beq_iff_eq, bne_iff_ne, ne_eq, Bool.not_eq_true', decide_eq_false_iff_not, true_iff, false_iff, iff_true, iff_false, Bool.false_eq_true, Bool.and_eq_true, Bool.or_eq_true, gt_iff_lt, ge_iff_le, rvP, cooP] <;> omega) | (rw [Bool.eq_iff_iff]; simp [rvP, cooP, *] <;> omega) | (simp_all; done)
 refine pu1 <| gY ?_
 refine sL f0 0 3 (I r.y1) (Tryz.isAgg3 _) ?_
 refine gY ?_
 refine cR Tryz.call119 (r2_coord r.y1 (Sat.flat f0)) ?_
 intro _ a0
 refine pu2 ?_
 refine sD 25 (-(1048576 : Int) ≤ r.y1 ∧ r.y1 ≤ 1048576) (fun n0 => ?_) (fun n0 => ?_)
 rotate_left
 ·refine pu15 <| nT <| retE <| retT [.bool false] ?_
  have o0 := (a0.dropAt 0 rfl)
  refine ⟨congrArg (fun b => Ending.returned (.bool b)) ?_, o0⟩
  first | rfl | (rw [Bool.eq_iff_iff]; simp only [decide_eq_true_eq, beq_iff_eq, bne_iff_ne, ne_eq, Bool.not_eq_true', decide_eq_false_iff_not, true_iff, false_iff, iff_true, iff_false, Bool.false_eq_true, Bool.and_eq_true, Bool.or_eq_true, gt_iff_lt, ge_iff_le, rvP, cooP] <;> omega) | (rw [Bool.eq_iff_iff]; simp [rvP, cooP, *] <;> omega) | (simp_all; done)
 refine pu1 <| gY ?_
 refine sL a0 0 0 (I r.x0) (Tryz.isAgg3 _) ?_
 refine pu1 <| gY ?_
 refine sL a0 0 2 (I r.x1) (Tryz.isAgg3 _) ?_
 refine pu3 ?_
 refine sD 32 (r.x0 < r.x1) (fun p0 => ?_) (fun p0 => ?_)
 rotate_left
 ·refine pu8 <| nT <| retE <| retT [.bool false] ?_
  have q0 := (a0.dropAt 0 rfl)
  refine ⟨congrArg (fun b => Ending.returned (.bool b)) ?_, q0⟩
  first | rfl | (rw [Bool.eq_iff_iff]; simp only [decide_eq_true_eq, beq_iff_eq, bne_iff_ne, ne_eq, Bool.not_eq_true', decide_eq_false_iff_not, true_iff, false_iff, iff_true, iff_false, Bool.false_eq_true, Bool.and_eq_true, Bool.or_eq_true, gt_iff_lt, ge_iff_le, rvP, cooP] <;> omega) | (rw [Bool.eq_iff_iff]; simp [rvP, cooP, *] <;> omega) | (simp_all; done)
 refine pu1 <| gY ?_
 refine sL a0 0 1 (I r.y0) (Tryz.isAgg3 _) ?_
 refine pu1 <| gY ?_
 refine sL a0 0 3 (I r.y1) (Tryz.isAgg3 _) ?_
 refine pu4 <| nT <| retE <| retT [.bool (decide ((r.y0 : Int) < r.y1))] ?_
 have r0 := (a0.dropAt 0 rfl)
 refine ⟨congrArg (fun b => Ending.returned (.bool b)) ?_, r0⟩
 first | rfl | (rw [Bool.eq_iff_iff]; simp only [decide_eq_true_eq, beq_iff_eq, bne_iff_ne, ne_eq, Bool.not_eq_true', decide_eq_false_iff_not, true_iff, false_iff, iff_true, iff_false, Bool.false_eq_true, Bool.and_eq_true, Bool.or_eq_true, gt_iff_lt, ge_iff_le, rvP, cooP] <;> omega) | (rw [Bool.eq_iff_iff]; simp [rvP, cooP, *] <;> omega) | (simp_all; done)
theorem r2_full (r : Rct) (hS : Sat W w (H :: F)) :
  Ro Tryz.prog 72 #[.agg (encRct r).toArray] (.bool (decide (rvP r ∧ ¬ (r.x0 = 0 ∧ r.y0 = 0 ∧ r.x1 = 0 ∧ r.y1 = 0)))) W w (H :: F) := by
 refine callsA 10 Tryz.func72 rfl ?_
 refine sR ?_
 refine sBox hS (.agg (encRct r).toArray) (encRct r).toArray ?_
 intro _ _ b0
 refine pu1 <| nT <| sR ?_
 refine lA b0 0 0 4 (Tryz.isAgg44 _) (Tryz.sizeOf44 _) ?_
 refine cR Tryz.call76 (r2_valid r (Sat.flat b0)) ?_
 intro _ a0
 refine pu1 ?_
 refine sD 5 (rvP r) (fun c0 => ?_) (fun c0 => ?_)
 rotate_left
 ·refine pu5 <| nT <| retE <| retT [.bool false] ?_
  have d0 := (a0.dropAt 0 rfl)
  exact ⟨congrArg (fun b => Ending.returned (.bool b)) (by rw [Bool.eq_iff_iff]; simp_all), d0⟩
 refine gY ?_
 refine lA a0 0 0 4 (Tryz.isAgg44 _) (Tryz.sizeOf44 _) ?_
 refine gY ?_
 refine cR Tryz.call32 (r2_empty r (Sat.flat a0)) ?_
 intro _ e0
 refine pu3 <| nT <| retE <| retT [.bool (!decide (r.x0 = 0 ∧ r.y0 = 0 ∧ r.x1 = 0 ∧ r.y1 = 0))] ?_
 have f0 := (e0.dropAt 0 rfl)
 exact ⟨congrArg (fun b => Ending.returned (.bool b)) (by rw [Bool.eq_iff_iff]; simp_all), f0⟩
theorem r3_mod (i : Int) (n : Int) (hn : 1 ≤ n ∧ n ≤ 4611686018427387904) (hS : Sat W w (H :: F)) :
  Ro Tryz.prog 186 #[I i, I n] (I (i % n)) W w (H :: F) := by
 have hm1 := Int.tmod_lt_of_pos i (by omega : 0 < n); have hm2 := Int.lt_tmod_of_pos i (by omega : 0 < n)
 refine callsA 15 Tryz.func186 rfl ?_
 refine sR <| pu1 <| nT <| sR <| pu2 ?_
 refine sRem i n ?_
 refine pu1 <| nT <| seqE <| sR <| pu2 <| nT ?_
 refine cD ((i.tmod n) < 0) (fun a0 => ?_) (fun a0 => ?_)
 rotate_left
 ·refine kT <| sR <| pu2 <| nT <| retE <| retT [I (i.tmod n)] ?_
  have hk := mod_emod (i := i) (n := n) om
  rw [if_neg om] at hk
  exact ⟨by rw [← hk]; rfl, hS⟩
 refine regionE <| pu2 ?_
 refine sAdd (i.tmod n) n ?_
 refine pu1 <| nT <| sR <| pu2 <| nT <| retE <| retT [I ((i.tmod n) + n)] ?_
 have hk := mod_emod (i := i) (n := n) om
 rw [if_pos om] at hk
 exact ⟨by rw [← hk]; rfl, hS⟩
theorem r3_index (i : Int) (n : Int) (p : Int) (hS : Sat W w (H :: F)) :
  Ro Tryz.prog 156 #[I i, I n, I p] (.tuple #[I ((idxV i n p).getD 0), .bool ((idxV i n p).isSome)]) W w (H :: F) := by
 refine callsA 56 Tryz.func156 rfl ?_
 refine sR <| pu2 <| nT <| seqE <| sR <| pu3 ?_
 refine sD 11 (n < 1) (fun b0 => ?_) (fun b0 => ?_)
 ·refine pu3 <| nT <| cTt <| sR <| pu2 <| nT <| retE <| thenK_r <| retT [I 0, .bool false] ?_
  have hk : idxV i n p = none := by unfold idxV; (repeat' split) <;> first | rfl | (exfalso; omega)
  exact ⟨by rw [hk]; rfl, hS⟩
 refine pu3 <| nT ?_
 refine cD (n > 128) (fun c0 => ?_) (fun c0 => ?_)
 ·refine sR <| pu2 <| nT <| retE <| thenK_r <| retT [I 0, .bool false] ?_
  have hk : idxV i n p = none := by unfold idxV; (repeat' split) <;> first | rfl | (exfalso; omega)
  exact ⟨by rw [hk]; rfl, hS⟩
 refine kT <| seqE <| sR <| pu1 <| nT <| blockE <| sR <| pu2 <| nT ?_
 refine cE p 0 (fun d0 => ?_) (fun d0 => ?_)
 ·refine sR <| pu1 ?_
  refine stepY (I (max i 0)) rfl rfl (Y_max2 i 0 rfl rfl kr kr) ?_
  refine pu1 ?_
  refine sSub n 1 ?_
  refine stepY (I (min (max i 0) (n - 1))) rfl rfl (Y_min2 (max i 0) (n - 1) rfl rfl kr kr) ?_
  refine pu2 <| nT <| retE <| blockK_r <| thenK_r <| retT [I (min (max i 0) (n - 1)), .bool true] ?_
  have hk : idxV i n p = some (min (max i 0) (n - 1)) := by unfold idxV; (repeat' split) <;> first | rfl | (exfalso; omega) | (congr 1; omega)
  exact ⟨by rw [hk]; rfl, hS⟩
 refine sR <| pu2 <| nT ?_
 refine cE p 1 (fun e0 => ?_) (fun e0 => ?_)
 ·refine seqE <| sR <| pu2 ?_
  refine sMul 2 n ?_
  refine cR Tryz.call186 (r3_mod i (2 * n) (od) (Sat.flat hS)) ?_
  intro _ a0
  have hme := Int.emod_nonneg i (by omega : ((2 * n) : Int) ≠ 0); have hmf := Int.emod_lt_of_pos i (by omega : (0 : Int) < (2 * n))
  refine pu1 <| nT <| sR <| pu3 <| nT ?_
  refine cD ((i % (2 * n)) ≥ n) (fun f0 => ?_) (fun f0 => ?_)
  ·refine sR <| pu1 ?_
   refine sMul 2 n ?_
   refine sSub (2 * n) 1 ?_
   refine pu1 ?_
   refine sSub ((2 * n) - 1) (i % (2 * n)) ?_
   refine pu2 <| nT <| retE <| tR <| thenK_r <| retT [I (((2 * n) - 1) - (i % (2 * n))), .bool true] ?_
   have hk : idxV i n p = some (((2 * n) - 1) - (i % (2 * n))) := by unfold idxV; (repeat' split) <;> first | rfl | (exfalso; omega) | (congr 1; omega)
   exact ⟨by rw [hk]; rfl, a0⟩
  refine kT <| sR <| pu2 ?_
  refine sMul 2 n ?_
  refine cR Tryz.call186 (r3_mod i (2 * n) (od) (Sat.flat a0)) ?_
  intro _ g0
  have hme := Int.emod_nonneg i (by omega : ((2 * n) : Int) ≠ 0); have hmf := Int.emod_lt_of_pos i (by omega : (0 : Int) < (2 * n))
  refine pu2 <| nT <| retE <| blockK_r <| thenK_r <| retT [I (i % (2 * n)), .bool true] ?_
  have hk : idxV i n p = some (i % (2 * n)) := by unfold idxV; (repeat' split) <;> first | rfl | (exfalso; omega) | (congr 1; omega)
  exact ⟨by rw [hk]; rfl, g0⟩
 refine sR <| pu2 <| nT ?_
 refine cE p 2 (fun h0 => ?_) (fun h0 => ?_)
 ·refine sR <| pu2 ?_
  refine cR Tryz.call186 (r3_mod i n (od) (Sat.flat hS)) ?_
  intro _ i0
  have hme := Int.emod_nonneg i (by omega : (n : Int) ≠ 0); have hmf := Int.emod_lt_of_pos i (by omega : (0 : Int) < n)
  refine pu2 <| nT <| retE <| blockK_r <| thenK_r <| retT [I (i % n), .bool true] ?_
  have hk : idxV i n p = some (i % n) := by unfold idxV; (repeat' split) <;> first | rfl | (exfalso; omega) | (congr 1; omega)
  exact ⟨by rw [hk]; rfl, i0⟩
 refine sR <| pu2 <| nT ?_
 refine cE p 3 (fun j0 => ?_) (fun j0 => ?_)
 rotate_left
 ·refine skipE <| blockK_n <| thenK_n <| sR <| pu2 <| nT <| retE <| retT [I 0, .bool false] ?_
  have hk : idxV i n p = none := by unfold idxV; (repeat' split) <;> first | rfl | (exfalso; omega)
  exact ⟨by rw [hk]; rfl, hS⟩
 refine sR <| pu3 ?_
 refine sD 50 (i ≥ 0) (fun k0 => ?_) (fun k0 => ?_)
 rotate_left
 ·refine pu4 <| nT <| cFf <| skipE <| blockK_n <| thenK_n <| sR <| pu2 <| nT <| retE <| retT [I 0, .bool false] ?_
  have hk : idxV i n p = none := by unfold idxV; (repeat' split) <;> first | rfl | (exfalso; omega)
  exact ⟨by rw [hk]; rfl, hS⟩
 refine pu4 <| nT ?_
 refine cD (i < n) (fun l0 => ?_) (fun l0 => ?_)
 rotate_left
 ·refine skipE <| blockK_n <| thenK_n <| sR <| pu2 <| nT <| retE <| retT [I 0, .bool false] ?_
  have hk : idxV i n p = none := by unfold idxV; (repeat' split) <;> first | rfl | (exfalso; omega)
  exact ⟨by rw [hk]; rfl, hS⟩
 refine sR <| pu3 <| nT <| retE <| blockK_r <| thenK_r <| retT [I i, .bool true] ?_
 have hk : idxV i n p = some i := by unfold idxV; (repeat' split) <;> first | rfl | (exfalso; omega) | (congr 1; omega)
 exact ⟨by rw [hk]; rfl, hS⟩
theorem r16_taps (ax : Option Addr) (nx kx : Nat) (x : List Tap) (hx : RdT encTap 2 [H] ax nx kx x) (dx : ∀ z ∈ x, Tap.Ok [H] z) (hS : Sat W w (H :: F)) :
  Ro Tryz.prog 185 #[.slice ax nx kx] (.bool ((x.map Tap.v).all tapP)) W w (H :: F) := by
 have hl_x := hx.le; have hn_x := hx.len
 refine callsA 33 Tryz.func185 rfl ?_
 refine sR <| pu1 <| nT <| seqE <| sR <| pu1 <| nT <| blockE ?_
 refine loopA (γ := Nat) (fun i => [(0, .slice ax nx kx), (3, I ((i : Nat) : Int))]) (fun i w => Sat W w (H :: F) ∧ i ≤ nx ∧ (((x.map Tap.v).take i).all tapP = true)) (fun i => nx - i) 0 ⟨hS, om, by rfl⟩ ?_
 rintro i ρ _ ⟨c0, hi, hE⟩
 refine seqE <| sR <| pu4 <| nT ?_
 refine cD (((i : Nat) : Int) < ((nx : Nat) : Int)) (fun f0 => ?_) (fun f0 => ?_)
 rotate_left
 ·refine exitE <| xB <| thenK_n <| sR <| pu1 <| nT <| retE <| retT [.bool true] ?_
  exact ⟨by rw [all_of_take hE (by rw [List.length_map]; omega)]; rfl, c0⟩
 refine kT <| seqE <| blockE <| sR <| pu2 ?_
 refine sIdx hx ((i : Nat) : Int) Tryz.runUnderlying35 Tryz.sizeOf123 ?_
 intro a0 _ _ b0 g0
 rw [Int.toNat_natCast] at b0
 have hnw_x_4 := (dx a0 (List.mem_of_getElem? b0)).weights.len; have hlw_x_4 := (dx a0 (List.mem_of_getElem? b0)).weights.le
 refine pu1 ?_
 refine sLp c0 (g0.up 0 rfl) 1 (.slice a0.weights.a a0.weights.n a0.weights.k) (Tryz.isAgg22 _) ?_
 refine pu3 ?_
 refine sD 17 (((a0.weights.n : Nat) : Int) > 8) (fun h0 => ?_) (fun h0 => ?_)
 ·refine pu15 <| nT <| cTt <| sR <| pu1 <| nT <| retE <| blockK_r <| thenK_r <| tR <| thenK_r <| retT [.bool false] ?_
  exact ⟨by rw [all_false_at (map_at (f := Tap.v) b0) (decide_eq_false (by simp only [Tap.v]; omega))]; rfl, c0⟩
 refine pu2 <| gY ?_
 refine sIdx hx ((i : Nat) : Int) Tryz.runUnderlying35 Tryz.sizeOf123 ?_
 intro i0 _ _ d0 j0
 rw [Int.toNat_natCast] at d0
 obtain rfl : a0 = i0 := Option.some.inj (b0.symm.trans d0)
 have hnw_x_4 := (dx a0 (List.mem_of_getElem? d0)).weights.len; have hlw_x_4 := (dx a0 (List.mem_of_getElem? d0)).weights.le
 refine pu1 <| gY ?_
 refine sLp c0 (j0.up 0 rfl) 0 (I a0.first) (Tryz.isAgg3 _) ?_
 refine pu3 ?_
 refine sD 25 (a0.first < (-128)) (fun k0 => ?_) (fun k0 => ?_)
 ·refine pu7 <| nT <| cTt <| sR <| pu1 <| nT <| retE <| blockK_r <| thenK_r <| tR <| thenK_r <| retT [.bool false] ?_
  exact ⟨by rw [all_false_at (map_at (f := Tap.v) b0) (decide_eq_false (by simp only [Tap.v]; omega))]; rfl, c0⟩
 refine pu2 <| gY ?_
 refine sIdx hx ((i : Nat) : Int) Tryz.runUnderlying35 Tryz.sizeOf123 ?_
 intro l0 _ _ e0 m0
 rw [Int.toNat_natCast] at e0
 obtain rfl : a0 = l0 := Option.some.inj (b0.symm.trans e0)
 have hnw_x_4 := (dx a0 (List.mem_of_getElem? e0)).weights.len; have hlw_x_4 := (dx a0 (List.mem_of_getElem? e0)).weights.le
 refine pu1 <| gY ?_
 refine sLp c0 (m0.up 0 rfl) 0 (I a0.first) (Tryz.isAgg3 _) ?_
 refine pu2 <| nT ?_
 refine cD (a0.first > 256) (fun n0 => ?_) (fun n0 => ?_)
 ·refine sR <| pu1 <| nT <| retE <| blockK_r <| thenK_r <| tR <| thenK_r <| retT [.bool false] ?_
  exact ⟨by rw [all_false_at (map_at (f := Tap.v) b0) (decide_eq_false (by simp only [Tap.v]; omega))]; rfl, c0⟩
 refine skipE <| blockK_n <| thenK_n <| regionE <| pu1 ?_
 refine sAdd ((i : Nat) : Int) 1 ?_
 refine pu1 <| nT ?_
 exact ⟨i + 1, od, alA, c0, om, all_succ hE (map_at (f := Tap.v) b0) (decide_eq_true (by simp only [Tap.v]; omega))⟩
theorem r16_fine (q : Stage) (n : Int) (fr : Int) (up : Int) (hq : Stage.Ok [H] q) (hS : Sat W w (H :: F)) :
  Ro Tryz.prog 154 #[.agg (encStage q).toArray, I n, I fr, I up] (.bool (decide (lenP n fr up ∧ accV q.v))) W w (H :: F) := by
 have hl_q_weights := hq.weights.le; have hn_q_weights := hq.weights.len
 have hl_q_row := hq.row.le; have hn_q_row := hq.row.len
 have hl_q_col := hq.col.le; have hn_q_col := hq.col.len
 have hl_q_x := hq.x.le; have hn_q_x := hq.x.len
 have hl_q_y := hq.y.le; have hn_q_y := hq.y.len
 have hl_q_ops := hq.ops.le; have hn_q_ops := hq.ops.len
 have hnr := hn_q_row; have hnc := hn_q_col; have hnX := hn_q_x; have hnY := hn_q_y
 refine callsA 70 Tryz.func154 rfl ?_
 refine sR ?_
 refine sBox hS (.agg (encStage q).toArray) (encStage q).toArray ?_
 intro _ _ c0
 refine pu1 <| nT <| seqE <| sR <| pu3 ?_
 refine sD 11 (n < 1) (fun k0 => ?_) (fun k0 => ?_)
 ·refine pu16 <| pu8 <| nT <| cTt <| sR <| pu1 <| nT <| retE <| thenK_r <| retT [.bool false] ?_
  have l0 := (c0.dropAt 0 rfl)
  have hk : decide (lenP n fr up ∧ accV q.v) = false := decide_eq_false (fun h => by have h1 := h.1; unfold lenP at h1; omega)
  exact ⟨by rw [hk]; rfl, l0⟩
 refine pu4 ?_
 refine sD 15 (n > 128) (fun m0 => ?_) (fun m0 => ?_)
 ·refine pu16 <| pu4 <| nT <| cTt <| sR <| pu1 <| nT <| retE <| thenK_r <| retT [.bool false] ?_
  have n0 := (c0.dropAt 0 rfl)
  have hk : decide (lenP n fr up ∧ accV q.v) = false := decide_eq_false (fun h => by have h1 := h.1; unfold lenP at h1; omega)
  exact ⟨by rw [hk]; rfl, n0⟩
 refine pu4 ?_
 refine sD 19 (fr < 0) (fun o0 => ?_) (fun o0 => ?_)
 ·refine pu16 <| nT <| cTt <| sR <| pu1 <| nT <| retE <| thenK_r <| retT [.bool false] ?_
  have p0 := (c0.dropAt 0 rfl)
  have hk : decide (lenP n fr up ∧ accV q.v) = false := decide_eq_false (fun h => by have h1 := h.1; unfold lenP at h1; omega)
  exact ⟨by rw [hk]; rfl, p0⟩
 refine pu4 ?_
 refine sD 23 (fr > 128) (fun q0 => ?_) (fun q0 => ?_)
 ·refine pu12 <| nT <| cTt <| sR <| pu1 <| nT <| retE <| thenK_r <| retT [.bool false] ?_
  have r0 := (c0.dropAt 0 rfl)
  have hk : decide (lenP n fr up ∧ accV q.v) = false := decide_eq_false (fun h => by have h1 := h.1; unfold lenP at h1; omega)
  exact ⟨by rw [hk]; rfl, r0⟩
 refine pu4 ?_
 refine sD 27 (up < 0) (fun s0 => ?_) (fun s0 => ?_)
 ·refine pu8 <| nT <| cTt <| sR <| pu1 <| nT <| retE <| thenK_r <| retT [.bool false] ?_
  have t0 := (c0.dropAt 0 rfl)
  have hk : decide (lenP n fr up ∧ accV q.v) = false := decide_eq_false (fun h => by have h1 := h.1; unfold lenP at h1; omega)
  exact ⟨by rw [hk]; rfl, t0⟩
 refine pu4 ?_
 refine sD 31 (up > 128) (fun u0 => ?_) (fun u0 => ?_)
 ·refine pu4 <| nT <| cTt <| sR <| pu1 <| nT <| retE <| thenK_r <| retT [.bool false] ?_
  have v0 := (c0.dropAt 0 rfl)
  have hk : decide (lenP n fr up ∧ accV q.v) = false := decide_eq_false (fun h => by have h1 := h.1; unfold lenP at h1; omega)
  exact ⟨by rw [hk]; rfl, v0⟩
 refine gY ?_
 refine lA c0 0 0 18 (Tryz.isAgg38 _) (Tryz.sizeOf38 _) ?_
 refine gY ?_
 refine cR Tryz.call112 (r15_fields q ⟨(RdT.flat (hq.weights.up 1 (by rfl))), (RdT.flat (hq.row.up 1 (by rfl))), (RdT.flat (hq.col.up 1 (by rfl))), (RdT.flat (hq.x.up 1 (by rfl))), (fun z hz => (hq.xD z hz).of_mem (mem_flat1 1 (by rfl))), (RdT.flat (hq.y.up 1 (by rfl))), (fun z hz => (hq.yD z hz).of_mem (mem_flat1 1 (by rfl))), (RdT.flat (hq.ops.up 1 (by rfl)))⟩ (Sat.flat c0)) ?_
 intro _ a0
 refine pu2 <| nT ?_
 refine cDn (fieldsP q.v) (fun b0 => ?_) (fun b0 => ?_)
 rotate_left
 ·refine sR <| pu1 <| nT <| retE <| thenK_r <| retT [.bool false] ?_
  have w0 := (a0.dropAt 0 rfl)
  have hk : decide (lenP n fr up ∧ accV q.v) = false := decide_eq_false (fun h => b0 h.2.1)
  exact ⟨by rw [hk]; rfl, w0⟩
 refine kT <| seqE <| sR <| pu1 ?_
 refine sL a0 0 0 (I q.kind) (Tryz.isAgg3 _) ?_
 refine nT <| blockE <| sR <| pu2 <| nT ?_
 refine cE q.kind 1 (fun d0 => ?_) (fun d0 => ?_)
 ·refine sR <| pu1 ?_
  refine sL a0 0 6 (I q.kW) (Tryz.isAgg3 _) ?_
  refine cR Tryz.call176 (r9_side q.kW (Sat.flat a0)) ?_
  intro _ e0
  refine pu1 ?_
  refine sD 43 ((1 : Int) ≤ q.kW ∧ q.kW ≤ (9 : Int)) (fun x0 => ?_) (fun x0 => ?_)
  rotate_left
  ·refine pu5 <| nT <| retE <| blockK_r <| thenK_r <| retT [.bool false] ?_
   have y0 := (e0.dropAt 0 rfl)
   have hl9 : lenP n fr up := by unfold lenP; omega
   have hif := acc1 (s := q.v) b0 (show q.v.kind = 1 from d0)
   have hk : decide (lenP n fr up ∧ accV q.v) = false := decide_eq_false (fun h => by have h1 := hif.1 h.2; unfold kerP at h1; simp only [Stage.v, hnr, hnc] at h1; omega)
   exact ⟨by rw [hk]; rfl, y0⟩
  refine pu1 <| gY ?_
  refine sL e0 0 7 (I q.kH) (Tryz.isAgg3 _) ?_
  refine gY ?_
  refine cR Tryz.call176 (r9_side q.kH (Sat.flat e0)) ?_
  intro _ z0
  refine pu2 <| nT <| retE <| blockK_r <| thenK_r <| retT [.bool (decide ((1 : Int) ≤ q.kH ∧ q.kH ≤ (9 : Int)))] ?_
  have a1 := (z0.dropAt 0 rfl)
  have hl9 : lenP n fr up := by unfold lenP; omega
  have hif := acc1 (s := q.v) b0 (show q.v.kind = 1 from d0)
  have hk : decide (lenP n fr up ∧ accV q.v) = decide ((1 : Int) ≤ q.kH ∧ q.kH ≤ (9 : Int)) := by rw [Bool.eq_iff_iff, decide_eq_true_eq, and_iff_right hl9, hif]; unfold kerP; simp only [Stage.v, hnr, hnc, decide_eq_true_eq, Bool.false_eq_true]; omega
  exact ⟨by rw [hk]; rfl, a1⟩
 refine sR <| pu2 <| nT ?_
 refine cE q.kind 2 (fun f0 => ?_) (fun f0 => ?_)
 ·refine sR <| pu1 ?_
  refine sL a0 0 9 (.slice q.row.a q.row.n q.row.k) (Tryz.isAgg22 _) ?_
  refine pu1 ?_
  refine cR Tryz.call176 (r9_side ((q.row.n : Nat) : Int) (Sat.flat a0)) ?_
  intro _ g0
  refine pu1 ?_
  refine sD 54 ((1 : Int) ≤ ((q.row.n : Nat) : Int) ∧ ((q.row.n : Nat) : Int) ≤ (9 : Int)) (fun b1 => ?_) (fun b1 => ?_)
  rotate_left
  ·refine pu6 <| nT <| retE <| blockK_r <| thenK_r <| retT [.bool false] ?_
   have c1 := (g0.dropAt 0 rfl)
   have hl9 : lenP n fr up := by unfold lenP; omega
   have hif := acc2 (s := q.v) b0 (show q.v.kind = 2 from f0)
   have hk : decide (lenP n fr up ∧ accV q.v) = false := decide_eq_false (fun h => by have h1 := hif.1 h.2; unfold kerP at h1; simp only [Stage.v, hnr, hnc] at h1; omega)
   exact ⟨by rw [hk]; rfl, c1⟩
  refine pu1 <| gY ?_
  refine sL g0 0 10 (.slice q.col.a q.col.n q.col.k) (Tryz.isAgg22 _) ?_
  refine pu1 <| gY ?_
  refine cR Tryz.call176 (r9_side ((q.col.n : Nat) : Int) (Sat.flat g0)) ?_
  intro _ d1
  refine pu2 <| nT <| retE <| blockK_r <| thenK_r <| retT [.bool (decide ((1 : Int) ≤ ((q.col.n : Nat) : Int) ∧ ((q.col.n : Nat) : Int) ≤ (9 : Int)))] ?_
  have e1 := (d1.dropAt 0 rfl)
  have hl9 : lenP n fr up := by unfold lenP; omega
  have hif := acc2 (s := q.v) b0 (show q.v.kind = 2 from f0)
  have hk : decide (lenP n fr up ∧ accV q.v) = decide ((1 : Int) ≤ ((q.col.n : Nat) : Int) ∧ ((q.col.n : Nat) : Int) ≤ (9 : Int)) := by rw [Bool.eq_iff_iff, decide_eq_true_eq, and_iff_right hl9, hif]; unfold kerP; simp only [Stage.v, hnr, hnc, decide_eq_true_eq, Bool.false_eq_true]; omega
  exact ⟨by rw [hk]; rfl, e1⟩
 refine sR <| pu2 <| nT ?_
 refine cE q.kind 3 (fun h0 => ?_) (fun h0 => ?_)
 rotate_left
 ·refine skipE <| blockK_n <| thenK_n <| sR <| pu1 <| nT <| retE <| retT [.bool true] ?_
  have f1 := (a0.dropAt 0 rfl)
  have hl9 : lenP n fr up := by unfold lenP; omega
  have hif := acc0 (s := q.v) b0 (show ¬ q.v.kind = 1 by simp only [Stage.v]; omega) (show ¬ q.v.kind = 2 by simp only [Stage.v]; omega) (show ¬ q.v.kind = 3 by simp only [Stage.v]; omega)
  have hk : decide (lenP n fr up ∧ accV q.v) = true := decide_eq_true ⟨hl9, hif⟩
  exact ⟨by rw [hk]; rfl, f1⟩
 refine sR <| pu1 ?_
 refine sL a0 0 13 (.slice q.x.a q.x.n q.x.k) (Tryz.isAgg35 _) ?_
 refine cR Tryz.call185 (r16_taps q.x.a q.x.n q.x.k q.x.l (RdT.flat (hq.x.up 1 (by rfl))) (fun z hz => (hq.xD z hz).of_mem (mem_flat1 1 (by rfl))) (Sat.flat a0)) ?_
 intro _ i0
 refine pu1 ?_
 refine sB 65 ((q.x.l.map Tap.v).all tapP) (fun j0 => ?_) (fun j0 => ?_)
 rotate_left
 ·refine pu5 <| nT <| retE <| blockK_r <| thenK_r <| retT [.bool false] ?_
  have g1 := (i0.dropAt 0 rfl)
  have hl9 : lenP n fr up := by unfold lenP; omega
  have hif := acc3 (s := q.v) b0 (show q.v.kind = 3 from h0)
  have hk : decide (lenP n fr up ∧ accV q.v) = false := decide_eq_false (fun h => by have h1 := hif.1 h.2; first | exact j0 h1.1 | exact j0 h1.2)
  exact ⟨by rw [hk]; rfl, g1⟩
 refine pu1 <| gY ?_
 refine sL i0 0 14 (.slice q.y.a q.y.n q.y.k) (Tryz.isAgg35 _) ?_
 refine gY ?_
 refine cR Tryz.call185 (r16_taps q.y.a q.y.n q.y.k q.y.l (RdT.flat (hq.y.up 1 (by rfl))) (fun z hz => (hq.yD z hz).of_mem (mem_flat1 1 (by rfl))) (Sat.flat i0)) ?_
 intro _ i1
 refine pu2 <| nT <| retE <| blockK_r <| thenK_r <| retT [.bool ((q.y.l.map Tap.v).all tapP)] ?_
 have j1 := (i1.dropAt 0 rfl)
 have hl9 : lenP n fr up := by unfold lenP; omega
 have hif := acc3 (s := q.v) b0 (show q.v.kind = 3 from h0)
 have hk : decide (lenP n fr up ∧ accV q.v) = ((q.y.l.map Tap.v).all tapP) := by rw [Bool.eq_iff_iff, decide_eq_true_eq, and_iff_right hl9, hif]; simp only [Stage.v]; simp_all
 exact ⟨by rw [hk]; rfl, j1⟩
theorem r16_win (kd : Int) (i : Int) (sz : Int) (atb : Option Addr) (ntb ktb : Nat) (tb : List Tap) (htb : RdT encTap 2 [H] atb ntb ktb tb) (dtb : ∀ z ∈ tb, Tap.Ok [H] z) (hs : (¬ (kd = 1 ∨ kd = 2) ∨ (1 ≤ sz ∧ sz ≤ 9)) ∧ 0 ≤ i ∧ i ≤ 1000) (hS : Sat W w (H :: F)) :
  Ro Tryz.prog 155 #[I kd, I i, I sz, .slice atb ntb ktb] (.tuple #[I (winF kd i sz (tb.map Tap.v)), I (winC kd i sz (tb.map Tap.v))]) W w (H :: F) := by
 have hl_tb := htb.le; have hn_tb := htb.len
 refine callsA 37 Tryz.func155 rfl ?_
 refine sR <| pu2 <| nT <| seqE <| sR <| pu1 <| nT <| blockE <| seqE <| sR <| pu2 <| nT ?_
 refine cE kd 1 (fun e0 => ?_) (fun e0 => ?_)
 ·refine kT ?_
  refine cT _ (beq_iff_eq.2 e0) ?_
  refine seqE ?_
  have ht : sz.tdiv 2 = sz / 2 := Int.tdiv_eq_ediv_of_nonneg om
  refine regionE <| pu2 ?_
  refine sQuo sz 2 ?_
  refine sSub i (sz.tdiv 2) ?_
  refine pu3 <| nT <| retE <| blockK_r <| thenK_r <| retT [I (i - (sz.tdiv 2)), I sz] ?_
  have h1 : winF kd i sz (tb.map Tap.v) = (i - (sz.tdiv 2)) := by unfold winF; rw [if_pos om, ht]
  have h2 : winC kd i sz (tb.map Tap.v) = sz := by unfold winC; rw [if_pos om]
  exact ⟨by rw [h1, h2]; rfl, hS⟩
 refine regionE <| pu2 <| nT ?_
 refine cE kd 2 (fun h0 => ?_) (fun h0 => ?_)
 ·refine seqE ?_
  have ht : sz.tdiv 2 = sz / 2 := Int.tdiv_eq_ediv_of_nonneg om
  refine regionE <| pu2 ?_
  refine sQuo sz 2 ?_
  refine sSub i (sz.tdiv 2) ?_
  refine pu3 <| nT <| retE <| blockK_r <| thenK_r <| retT [I (i - (sz.tdiv 2)), I sz] ?_
  have h1 : winF kd i sz (tb.map Tap.v) = (i - (sz.tdiv 2)) := by unfold winF; rw [if_pos om, ht]
  have h2 : winC kd i sz (tb.map Tap.v) = sz := by unfold winC; rw [if_pos om]
  exact ⟨by rw [h1, h2]; rfl, hS⟩
 refine sR <| pu2 <| nT ?_
 refine cE kd 3 (fun i0 => ?_) (fun i0 => ?_)
 rotate_left
 ·refine skipE <| blockK_n <| thenK_n <| sR <| pu3 <| nT <| retE <| retT [I i, I 1] ?_
  have h1 : winF kd i sz (tb.map Tap.v) = i := by unfold winF; rw [if_neg om, if_neg om]
  have h2 : winC kd i sz (tb.map Tap.v) = 1 := by unfold winC; rw [if_neg om, if_neg om]
  exact ⟨by rw [h1, h2]; rfl, hS⟩
 refine seqE <| sR <| pu4 <| nT ?_
 refine cD (i < ((ntb : Nat) : Int)) (fun j0 => ?_) (fun j0 => ?_)
 rotate_left
 ·refine kT <| sR <| pu2 <| nT <| retE <| blockK_r <| thenK_r <| retT [I 0, I 0] ?_
  have hno : (tb.map Tap.v)[i.toNat]? = none := List.getElem?_eq_none (by rw [List.length_map]; omega)
  have h1 : winF kd i sz (tb.map Tap.v) = 0 := by unfold winF; rw [if_neg om, if_pos om, hno]
  have h2 : winC kd i sz (tb.map Tap.v) = 0 := by unfold winC; rw [if_neg om, if_pos om, hno]
  exact ⟨by rw [h1, h2]; rfl, hS⟩
 refine seqE ?_
 obtain ⟨a0, b0, c0, d0, f0, g0⟩ := RdT.elem htb i
 have hnw_x_5 := (dtb a0 (List.mem_of_getElem? d0)).weights.len; have hlw_x_5 := (dtb a0 (List.mem_of_getElem? d0)).weights.le
 refine drawE [] [(4, ⟨b0, c0 + 0, none⟩, I a0.first), (9, ⟨b0, c0 + 1, none⟩, .slice a0.weights.a a0.weights.n a0.weights.k)] [(true, [0, 1]), (true, [2]), (true, [3, 5, 6]), (true, [7]), (true, [8]), (true, [4]), (true, [11]), (true, [9]), (true, [10, 12])] rfl kr ⟨.inr ((f0.up 0 rfl).cell hS (k := 0) rfl), .inr ((f0.up 0 rfl).cell hS (k := 1) rfl), trivial⟩ ?_
 have k0 := hS.drew
 refine wU [0, 1] ?_
 refine wY (.pointer (some ⟨b0, c0, none⟩)) rfl (fun w _ => Y_idx (a := atb) (i := i) (len := ntb) (cap := ktb) rfl Tryz.runUnderlying35 Tryz.sizeOf123 kr kr g0) ?_
 refine wU [3, 5, 6] ?_
 refine wY (.pointer (some ⟨b0, c0, none⟩)) rfl (fun w _ => Y_idx (a := atb) (i := i) (len := ntb) (cap := ktb) rfl Tryz.runUnderlying35 Tryz.sizeOf123 kr kr g0) ?_
 refine wU [8] ?_
 refine wLd (I a0.first) 0 Tryz.isAgg3 ?_
 refine wU [11] ?_
 refine wLd (.slice a0.weights.a a0.weights.n a0.weights.k) 1 Tryz.isAgg22 ?_
 refine wU [10, 12] ?_
 refine wN ?_
 refine thenK_n <| retE <| tR <| thenK_r <| retT [I a0.first, I ((a0.weights.n : Nat) : Int)] ?_
 have hmp := map_at (f := Tap.v) d0
 have h1 : winF kd i sz (tb.map Tap.v) = a0.first := by unfold winF; rw [if_neg om, if_pos om, hmp]; rfl
 have h2 : winC kd i sz (tb.map Tap.v) = ((a0.weights.n : Nat) : Int) := by unfold winC; rw [if_neg om, if_pos om, hmp]; exact congrArg (fun (z : Nat) => (z : Int)) hnw_x_5
 exact ⟨by rw [h1, h2]; rfl, k0⟩
theorem r16_need (q : Stage) (n : Int) (fr : Int) (up : Int) (sz : Int) (atb : Option Addr) (ntb ktb : Nat) (tb : List Tap) (hq : Stage.Ok [H] q) (htb : RdT encTap 2 [H] atb ntb ktb tb) (dtb : ∀ z ∈ tb, Tap.Ok [H] z) (hsz : szOK q.v sz (tb.map Tap.v)) (hS : Sat W w (H :: F)) :
  Calls Tryz.prog 117 #[.agg (encStage q).toArray, I n, I fr, I up, I sz, .slice atb ntb ktb] w fun e w' => ∃ (az : Option Addr) (nz kz : Nat) (G : Chunk), e = .returned (.slice az nz kz) ∧ OwnT encI 3 1 az nz kz (needV q.v n fr up sz (tb.map Tap.v)) G ∧ Sat W w' (G :: H :: F) := by
 have hl_q_weights := hq.weights.le; have hn_q_weights := hq.weights.len
 have hl_q_row := hq.row.le; have hn_q_row := hq.row.len
 have hl_q_col := hq.col.le; have hn_q_col := hq.col.len
 have hl_q_x := hq.x.le; have hn_q_x := hq.x.len
 have hl_q_y := hq.y.le; have hn_q_y := hq.y.len
 have hl_q_ops := hq.ops.le; have hn_q_ops := hq.ops.len
 have hl_tb := htb.le; have hn_tb := htb.len
 have hnr := hn_q_row; have hnc := hn_q_col; have hnX := hn_q_x; have hnY := hn_q_y
 refine callsA 85 Tryz.func117 rfl ?_
 refine sR ?_
 refine sBox hS (.agg (encStage q).toArray) (encStage q).toArray ?_
 intro a0 _ h0
 refine pu1 <| nT <| seqE <| sR ?_
 refine lA h0 0 0 18 (Tryz.isAgg38 _) (Tryz.sizeOf38 _) ?_
 refine pu3 ?_
 refine cR Tryz.call154 (r16_fine q n fr up ⟨(RdT.flat (hq.weights.up 1 (by rfl))), (RdT.flat (hq.row.up 1 (by rfl))), (RdT.flat (hq.col.up 1 (by rfl))), (RdT.flat (hq.x.up 1 (by rfl))), (fun z hz => (hq.xD z hz).of_mem (mem_flat1 1 (by rfl))), (RdT.flat (hq.y.up 1 (by rfl))), (fun z hz => (hq.yD z hz).of_mem (mem_flat1 1 (by rfl))), (RdT.flat (hq.ops.up 1 (by rfl)))⟩ (Sat.flat h0)) ?_
 intro _ b0
 refine pu1 <| nT ?_
 refine cDn (lenP n fr up ∧ accV q.v) (fun d0 => ?_) (fun d0 => ?_)
 rotate_left
 ·refine sR <| pu1 <| nT <| retE <| thenK_r <| retT [.slice none 0 0] ?_
  have m0 := (b0.dropAt 0 rfl)
  have n0 : Sat W _ ([] :: H :: F) := Sat.nilc m0
  have hl : ([] : List Int) = needV q.v n fr up sz (tb.map Tap.v) := (by unfold needV; rw [if_neg (show ¬ (lenP n fr up ∧ accV q.v) from d0)])
  have hrd := OwnT.nil (enc := encI) (E := 3) (sz := 1) fR
  rw [hl] at hrd
  exact ⟨_, _, _, _, rfl, hrd, n0⟩
 refine kT <| seqE ?_
 obtain ⟨hlen, hacc⟩ : lenP n fr up ∧ accV q.v := d0
 have hln := hlen; unfold lenP at hln; obtain ⟨hs1, ht1⟩ := hsz hacc; have hkd := acc_kind hacc; replace hs1 : ¬ (q.kind = 1 ∨ q.kind = 2) ∨ (1 ≤ sz ∧ sz ≤ 9) := hs1; replace hkd : 1 ≤ q.kind ∧ q.kind ≤ 6 := hkd
 refine regionE <| pu2 ?_
 refine sL b0 0 4 (I q.edgePolicy) (Tryz.isAgg3 _) ?_
 refine pu1 <| nT ?_
 refine cutA (γ := Unit) (fun _ => [(1, I n), (2, I fr), (3, I up), (4, I sz), (5, .slice atb ntb ktb), (6, Pt a0 0), (13, I (polV q.v))]) (fun _ w => Sat W w ([(a0, .cells (encStage q).toArray 38 (0, 0))] :: H :: F)) ?_ ?_
 ·refine sR <| pu1 ?_
  refine sL b0 0 0 (I q.kind) (Tryz.isAgg3 _) ?_
  refine pu1 <| nT ?_
  refine cD (q.kind > 3) (fun o0 => ?_) (fun o0 => ?_)
  ·refine regionE <| pu1 <| nT ?_
   exact ⟨(), ⟨kr, kr, kr, kr, kr, kr, (Eq.trans (b := I 3) kr (congrArg (fun z => Value.int .i64 z) (show 3 = polV q.v from by unfold polV; rw [if_pos (by simp only [Stage.v]; omega)]))), trivial⟩, b0⟩
  refine kT ?_
  exact ⟨(), ⟨kr, kr, kr, kr, kr, kr, (Eq.trans (b := I q.edgePolicy) kr (congrArg (fun z => Value.int .i64 z) (show q.edgePolicy = polV q.v from by unfold polV; rw [if_neg (by simp only [Stage.v]; omega)]; rfl))), trivial⟩, b0⟩
 rintro _ ρ _ p0
 refine sR <| pu1 ?_
 refine sMake (kl := .i64) (kc := .i64) (enc := encKB) (sz := 1) (nb := 1) p0 false (n).toNat n (om : n = (((n).toNat : Nat) : Int)) Tryz.underlying174 (i := Tryz.t4) kr fR ?_
 intro q0 r0 _ s0 t0
 refine pu1 <| nT <| seqE <| sR <| pu2 <| nT <| blockE ?_
 refine loopA (γ := Nat × Int × (List Bool) × (Option Addr) × Nat × Nat × Chunk) (fun ⟨i, cur, ks, aks, nks, kks, cks⟩ => [(1, I n), (3, I up), (4, I sz), (5, .slice atb ntb ktb), (6, Pt a0 0), (13, I (polV q.v)), (15, I cur), (14, .slice aks nks kks)]) (fun ⟨i, cur, ks, aks, nks, kks, cks⟩ w => Sat W w (cks :: [(a0, .cells (encStage q).toArray 38 (0, 0))] :: H :: F) ∧ i ≤ (up - fr).toNat ∧ (cur = fr + ((i : Nat) : Int)) ∧ (MkB n.toNat ks (hitsV q.v n fr sz (tb.map Tap.v) i)) ∧ OwnT encKB 4 1 aks nks kks ks cks) (fun ⟨i, cur, ks, aks, nks, kks, cks⟩ => ((up - fr).toNat) - i) (0, fr, (List.replicate (n).toNat false), (At q0 0), (n).toNat, (n).toNat, r0) ⟨t0, om, om, (MkB.zero (fun m => rfl)), s0⟩ ?_
 rintro ⟨i, cur, ks, aks, nks, kks, cks⟩ ρ _ ⟨e0, hi, hcu, hM, hOks⟩
 have hn_ks := hOks.len; have hl_ks := hOks.le
 refine seqE <| sR <| pu3 <| nT ?_
 refine cD (cur < up) (fun u0 => ?_) (fun u0 => ?_)
 rotate_left
 ·refine exitE <| xB <| thenK_n <| sR <| pu1 <| nT <| seqE <| seqE ?_
  have hi9 : i = (up - fr).toNat := by omega
  have hMf : MkB (n.toNat) ks (needB q.v n fr up sz (tb.map Tap.v)) := by rw [hi9] at hM; exact hM
  have hk9 := hM.1
  have hk8 := (hOks).len
  refine regionE <| pu1 <| nT <| blockE ?_
  have v0 := Sat.nilc e0
  have w0 := OwnT.nil (enc := encI) (E := 3) (sz := 1) fR
  refine loopA (γ := Nat × (List Int) × (Option Addr) × Nat × Nat × Chunk) (fun ⟨m, zs, azs, nzs, kzs, czs⟩ => [(1, I n), (14, .slice aks nks kks), (22, I ((m : Nat) : Int)), (21, .slice azs nzs kzs)]) (fun ⟨m, zs, azs, nzs, kzs, czs⟩ w => Sat W w (czs :: cks :: [(a0, .cells (encStage q).toArray 38 (0, 0))] :: H :: F) ∧ m ≤ n.toNat ∧ (zs = (uptoV m).filter (needB q.v n fr up sz (tb.map Tap.v))) ∧ OwnT encI 3 1 azs nzs kzs zs czs) (fun ⟨m, zs, azs, nzs, kzs, czs⟩ => n.toNat - m) (0, [], none, 0, 0, []) ⟨v0, om, by rfl, w0⟩ ?_
  rintro ⟨m, zs, azs, nzs, kzs, czs⟩ ρ _ ⟨c0, hm, hE, hOzs⟩
  have hn_zs := hOzs.len; have hl_zs := hOzs.le
  refine seqE <| sR <| pu3 <| nT ?_
  refine cD (((m : Nat) : Int) < n) (fun x0 => ?_) (fun x0 => ?_)
  rotate_left
  ·refine exitE <| xB <| thenK_n <| sR <| pu2 <| nT <| retE <| retT [.slice azs nzs kzs] ?_
   have y0 := (c0.drops [1, 1])
   have hl : zs = needV q.v n fr up sz (tb.map Tap.v) := (by unfold needV; rw [if_pos ⟨hlen, hacc⟩, hE, show m = n.toNat by omega])
   have hrd := hOzs
   rw [hl] at hrd
   exact ⟨_, _, _, _, rfl, hrd, y0⟩
  refine kT <| seqE <| blockE <| sR <| pu2 ?_
  refine sIdxO hOks ((m : Nat) : Int) m Tryz.runUnderlying174 Tryz.sizeOf4 ?_
  intro i0 _ _ j0 z0 _
  refine sLp c0 (z0.up 1 rfl) 0 (.bool i0) (Tryz.isAgg4 _) ?_
  refine nT ?_
  refine cB i0 (fun f0 => ?_) (fun f0 => ?_)
  rotate_left
  ·refine skipE <| blockK_n <| thenK_n <| regionE <| pu1 ?_
   refine sAdd ((m : Nat) : Int) 1 ?_
   refine pu1 <| nT ?_
   exact ⟨(m + 1, zs, azs, nzs, kzs, czs), od, alA, c0, om, (by rw [upto_snoc_filter, ← hMf.at j0, if_neg f0, ← hE, List.append_nil]), hOzs⟩
  have hzl : zs.length ≤ m := by rw [hE]; exact Nat.le_trans (List.length_filter_le _ _) (by rw [upto_len]; exact Nat.le_refl _)
  refine regionE <| pu2 ?_
  refine sBS c0 #[I ((m : Nat) : Int)] Tryz.runUnderlying22 Tryz.sizeOf3 Tryz.zeroValue3 ?_
  intro _ _ a1
  refine sApp (nb := 8) a1 hOzs 1 (RdT.blk (enc := encI) (sz := 1) (xs := [((m : Nat) : Int)]) fR 1 0 rfl rfl rfl om) Tryz.underlying22 (i := Tryz.t3) kr fR ?_
  intro b1 c1 d1 _ e1 f1
  refine pu1 <| nB <| regionE <| pu1 ?_
  refine sAdd ((m : Nat) : Int) 1 ?_
  refine pu1 <| nT ?_
  have g1 := (f1.dropAt 0 rfl)
  exact ⟨(m + 1, (zs ++ [((m : Nat) : Int)]), b1, (nzs + 1), c1, d1), od, alA, g1, om, (by rw [upto_snoc_filter, ← hMf.at j0, if_pos f0, ← hE]), e1⟩
 refine kT <| seqE <| blockE <| sR <| pu1 ?_
 refine sL e0 1 0 (I q.kind) (Tryz.isAgg3 _) ?_
 refine pu3 ?_
 refine cR Tryz.call155 (r16_win q.kind cur sz atb ntb ktb tb (RdT.flat (htb.up 2 (by rfl))) (fun z hz => (dtb z hz).of_mem (mem_flat1 2 (by rfl))) ⟨hs1, om⟩ (Sat.flat e0)) ?_
 intro _ h1
 refine pu5 <| nT <| seqE ?_
 have hwb := win_bd (kd := q.kind) (k := cur) (size := sz) (t := (tb.map Tap.v)) hs1 ht1 om
 refine regionE <| pu2 <| nT <| blockE ?_
 refine loopA (γ := Nat × Int × (List Bool) × (Option Addr) × Nat × Nat × Chunk) (fun ⟨k, cv, kt, akt, nkt, kkt, ckt⟩ => [(1, I n), (3, I up), (4, I sz), (5, .slice atb ntb ktb), (6, Pt a0 0), (13, I (polV q.v)), (15, I cur), (16, I (winF q.kind cur sz (tb.map Tap.v))), (17, I (winC q.kind cur sz (tb.map Tap.v))), (18, I cv), (14, .slice akt nkt kkt)]) (fun ⟨k, cv, kt, akt, nkt, kkt, ckt⟩ w => Sat W w (ckt :: [(a0, .cells (encStage q).toArray 38 (0, 0))] :: H :: F) ∧ k ≤ (winC q.kind cur sz (tb.map Tap.v)).toNat ∧ (cv = (winF q.kind cur sz (tb.map Tap.v)) + ((k : Nat) : Int)) ∧ (MkB n.toNat kt (fun m => hitsV q.v n fr sz (tb.map Tap.v) i m || (List.range k).any fun j => decide (idxV ((winF q.kind cur sz (tb.map Tap.v)) + (j : Int)) n (polV q.v) = some m))) ∧ OwnT encKB 4 1 akt nkt kkt kt ckt) (fun ⟨k, cv, kt, akt, nkt, kkt, ckt⟩ => ((winC q.kind cur sz (tb.map Tap.v)).toNat) - k) (0, (winF q.kind cur sz (tb.map Tap.v)), ks, aks, nks, kks, cks) ⟨h1, om, om, (hM.congr (fun m => by simp)), hOks⟩ ?_
 rintro ⟨k, cv, kt, akt, nkt, kkt, ckt⟩ ρ _ ⟨k0, hk, hcv, hM2, hOkt⟩
 have hn_kt := hOkt.len; have hl_kt := hOkt.le
 have hk2 := hM2.1
 refine seqE <| sR <| pu3 ?_
 refine sAdd (winF q.kind cur sz (tb.map Tap.v)) (winC q.kind cur sz (tb.map Tap.v)) ?_
 refine pu1 <| nT ?_
 refine cD (cv < ((winF q.kind cur sz (tb.map Tap.v)) + (winC q.kind cur sz (tb.map Tap.v)))) (fun i1 => ?_) (fun i1 => ?_)
 rotate_left
 ·refine exitE <| xB <| blockK_n <| thenK_n <| regionE <| pu1 ?_
  refine sAdd cur 1 ?_
  refine pu1 <| nT ?_
  exact ⟨(i + 1, (cur + 1), kt, akt, nkt, kkt, ckt), od, alA, k0, om, om, (hM2.congr (fun m => (hits_succ (s := q.v) hcu (by simp only [Stage.v]; omega)).symm)), hOkt⟩
 refine kT <| seqE <| blockE <| sR <| pu3 ?_
 refine cR Tryz.call156 (r3_index cv n (polV q.v) (Sat.flat k0)) ?_
 intro _ l0
 refine pu5 <| nT <| sR <| pu1 <| nT ?_
 refine cB ((idxV cv n (polV q.v)).isSome) (fun g0 => ?_) (fun g0 => ?_)
 rotate_left
 ·refine skipE <| blockK_n <| thenK_n <| regionE <| pu1 ?_
  refine sAdd cv 1 ?_
  refine pu1 <| nT ?_
  exact ⟨(k + 1, (cv + 1), kt, akt, nkt, kkt, ckt), od, alA, l0, om, om, (hM2.none (by rw [← hcv]; exact Option.not_isSome_iff_eq_none.1 g0)), hOkt⟩
 obtain ⟨c, hc⟩ := Option.isSome_iff_exists.1 g0
 have hcb := idx_bd hc; have hgd : (idxV cv n (polV q.v)).getD 0 = c := (by simp [hc]); have hc2 : idxV ((winF q.kind cur sz (tb.map Tap.v)) + ((k : Nat) : Int)) n (polV q.v) = some c := (by rw [← hcv]; exact hc)
 refine regionE <| pu2 ?_
 refine sIdxO hOkt ((idxV cv n (polV q.v)).getD 0) (((idxV cv n (polV q.v)).getD 0)).toNat Tryz.runUnderlying174 Tryz.sizeOf4 ?_
 intro j1 _ _ k1 _ l1
 refine sStF l0 hOkt l1 0 (((idxV cv n (polV q.v)).getD 0)).toNat 0 j1 true k1 (.bool true) [.bool true] Tryz.sizeOf4 ?_
 intro _ m1 n1 o1
 refine nB <| regionE <| pu1 ?_
 refine sAdd cv 1 ?_
 refine pu1 <| nT ?_
 exact ⟨(k + 1, (cv + 1), (kt.set ((((idxV cv n (polV q.v)).getD 0)).toNat) true), akt, nkt, kkt, m1), od, alA, o1, om, om, (by rw [hgd]; exact MkB.one (c := c) hM2 hc2 om), n1⟩
theorem r16_rows (q : Stage) (n : Int) (fr : Int) (up : Int) (hq : Stage.Ok [H] q) (hS : Sat W w (H :: F)) :
  Calls Tryz.prog 73 #[.agg (encStage q).toArray, I n, I fr, I up] w fun e w' => ∃ (az : Option Addr) (nz kz : Nat) (G : Chunk), e = .returned (.slice az nz kz) ∧ OwnT encI 3 1 az nz kz (rowsV q.v n fr up) G ∧ Sat W w' (G :: H :: F) := by
 have hl_q_weights := hq.weights.le; have hn_q_weights := hq.weights.len
 have hl_q_row := hq.row.le; have hn_q_row := hq.row.len
 have hl_q_col := hq.col.le; have hn_q_col := hq.col.len
 have hl_q_x := hq.x.le; have hn_q_x := hq.x.len
 have hl_q_y := hq.y.le; have hn_q_y := hq.y.len
 have hl_q_ops := hq.ops.le; have hn_q_ops := hq.ops.len
 have hnr := hn_q_row; have hnc := hn_q_col; have hnX := hn_q_x; have hnY := hn_q_y
 refine callsA 26 Tryz.func73 rfl ?_
 refine sR ?_
 refine sBox hS (.agg (encStage q).toArray) (encStage q).toArray ?_
 intro _ _ a0
 refine pu1 <| nT <| sR <| pu1 ?_
 refine sL a0 0 7 (I q.kH) (Tryz.isAgg3 _) ?_
 refine pu1 <| nT <| seqE <| sR <| pu1 ?_
 refine sL a0 0 0 (I q.kind) (Tryz.isAgg3 _) ?_
 refine pu1 <| nT ?_
 refine cE q.kind 2 (fun b0 => ?_) (fun b0 => ?_)
 rotate_left
 ·refine kT <| sR ?_
  refine lA a0 0 0 18 (Tryz.isAgg38 _) (Tryz.sizeOf38 _) ?_
  refine pu5 ?_
  refine sL a0 0 14 (.slice q.y.a q.y.n q.y.k) (Tryz.isAgg35 _) ?_
  refine cX Tryz.call117 (r16_need q n fr up q.kH q.y.a q.y.n q.y.k q.y.l ⟨(RdT.flat (hq.weights.up 1 (by rfl))), (RdT.flat (hq.row.up 1 (by rfl))), (RdT.flat (hq.col.up 1 (by rfl))), (RdT.flat (hq.x.up 1 (by rfl))), (fun z hz => (hq.xD z hz).of_mem (mem_flat1 1 (by rfl))), (RdT.flat (hq.y.up 1 (by rfl))), (fun z hz => (hq.yD z hz).of_mem (mem_flat1 1 (by rfl))), (RdT.flat (hq.ops.up 1 (by rfl)))⟩ (RdT.flat (hq.y.up 1 (by rfl))) (fun z hz => (hq.yD z hz).of_mem (mem_flat1 1 (by rfl))) (by have h := szOK_rows q.v; rw [if_neg (show ¬ q.v.kind = 2 from b0)] at h; exact h) (Sat.flat a0)) ?_
  rintro _ _ ⟨e0, f0, g0, _, rfl, c0, h0⟩
  have i0 := Sat.unflat1 h0
  have hn_az_17 := c0.len; have hl_az_17 := c0.le
  refine pu1 <| nT <| retE <| retT [.slice e0 f0 g0] ?_
  have j0 := (i0.dropAt 1 rfl)
  have hl : (needV q.v n fr up q.kH (q.y.l.map Tap.v)) = rowsV q.v n fr up := (by unfold rowsV; rw [if_neg (show ¬ q.v.kind = 2 from b0)]; rfl)
  have hrd := c0
  rw [hl] at hrd
  exact ⟨_, _, _, _, rfl, hrd, j0⟩
 refine regionE <| pu1 ?_
 refine sL a0 0 10 (.slice q.col.a q.col.n q.col.k) (Tryz.isAgg22 _) ?_
 refine pu2 <| nT <| sR ?_
 refine lA a0 0 0 18 (Tryz.isAgg38 _) (Tryz.sizeOf38 _) ?_
 refine pu5 ?_
 refine sL a0 0 14 (.slice q.y.a q.y.n q.y.k) (Tryz.isAgg35 _) ?_
 refine cX Tryz.call117 (r16_need q n fr up ((q.col.n : Nat) : Int) q.y.a q.y.n q.y.k q.y.l ⟨(RdT.flat (hq.weights.up 1 (by rfl))), (RdT.flat (hq.row.up 1 (by rfl))), (RdT.flat (hq.col.up 1 (by rfl))), (RdT.flat (hq.x.up 1 (by rfl))), (fun z hz => (hq.xD z hz).of_mem (mem_flat1 1 (by rfl))), (RdT.flat (hq.y.up 1 (by rfl))), (fun z hz => (hq.yD z hz).of_mem (mem_flat1 1 (by rfl))), (RdT.flat (hq.ops.up 1 (by rfl)))⟩ (RdT.flat (hq.y.up 1 (by rfl))) (fun z hz => (hq.yD z hz).of_mem (mem_flat1 1 (by rfl))) (by have h := szOK_rows q.v; rw [if_pos (show q.v.kind = 2 from b0), show q.v.col.length = q.col.n from hnc] at h; exact h) (Sat.flat a0)) ?_
 rintro _ _ ⟨k0, l0, m0, _, rfl, d0, n0⟩
 have o0 := Sat.unflat1 n0
 have hn_az_8 := d0.len; have hl_az_8 := d0.le
 refine pu1 <| nT <| retE <| retT [.slice k0 l0 m0] ?_
 have p0 := (o0.dropAt 1 rfl)
 have hl : (needV q.v n fr up ((q.col.n : Nat) : Int) (q.y.l.map Tap.v)) = rowsV q.v n fr up := (by unfold rowsV; rw [if_pos (show q.v.kind = 2 from b0), show q.v.col.length = q.col.n from hnc]; rfl)
 have hrd := d0
 rw [hl] at hrd
 exact ⟨_, _, _, _, rfl, hrd, p0⟩
end Go.Proofs.YtdingplbadblpaaGreat
