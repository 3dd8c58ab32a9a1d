import Derived.Test.YtcddcpaodcjecaaRef
namespace Go.Proofs.Ytcddcpaodcjecaa
open Go Go.E
set_option linter.unusedVariables false
set_option linter.unusedSimpArgs false
set_option linter.unnecessarySimpa false
set_option maxRecDepth 100000
set_option maxHeartbeats 2000000
-- squeezed
structure Sp where
  lo : Int
  hi : Int
  deriving DecidableEq
def encSp (x : Sp) : List Value := [.int .i64 x.lo, .int .i64 x.hi]

def takesV (c : Int) : Int := if c ≤ 2 then 0 else if 10 ≤ c then 1 else 2
theorem takesV_bd (c : Int) : 0 ≤ takesV c ∧ takesV c ≤ 2 := by unfold takesV; (repeat' split) <;> omega
def argP (o : POp) : Prop := (o.code = 2 ∧ -4294967296 ≤ o.arg ∧ o.arg ≤ 4294967296) ∨ (o.code = 10 ∧ 0 ≤ o.arg ∧ o.arg ≤ 24) ∨ (¬ o.code = 2 ∧ ¬ o.code = 10 ∧ o.arg = 0)
instance (o : POp) : Decidable (argP o) := by unfold argP; infer_instance
def opBad (two : Bool) (o : POp) (h : Int) : Prop := o.code < 0 ∨ 11 < o.code ∨ (o.code = 1 ∧ two = false) ∨ h < takesV o.code
instance (two : Bool) (o : POp) (h : Int) : Decidable (opBad two o h) := by unfold opBad; infer_instance
def opsGo (two : Bool) : List POp → Int → Int
  | [], h => if h = 1 then 0 else 1
  | o :: l, h => if opBad two o h then 1 else if argP o then opsGo two l (h + (1 - takesV o.code)) else 10
def opsCode (l : List POp) (two : Bool) : Int := if l.length = 0 ∨ 32 < l.length then 9 else opsGo two l 0
theorem r14_takes (W w : World) (H : Chunk) (F : List Chunk) (x : Int) (hS : Sat W w (H :: F)) :
  Calls Try.prog 99 #[I x] w fun e w' => e = .returned (I (takesV x)) ∧ Sat W w' (H :: F) := by
 refine callsE (n := 9) Try.func99 rfl rfl (Nat.le_of_ble_eq_true rfl) ?_
 refine sR <| pu1 <| nT <| seqE <| blockE <| sR <| pu3 <| nT ?_
 by_cases a0 : (x : Int) ≤ 2
 ·refine cT _ (decide_eq_true a0) ?_
  refine sR <| pu1 <| nT ?_
  refine retE (blockK_r <| thenK_r <| ?_)
  refine retT [I 0] ?_
  change Sat _ _ (H :: F) at hS
  refine ⟨?_, hS⟩
  unfold takesV
  (repeat' split) <;> first | rfl | (exfalso; omega) | contradiction | (exfalso; simp_all; done) | (simp_all; done)
 refine cF _ (decide_eq_false a0) ?_
 refine sR <| pu3 <| nT ?_
 by_cases b0 : (x : Int) ≥ 10
 rotate_left
 ·refine cF _ (decide_eq_false b0) ?_
  refine skipE <| blockK_n <| thenK_n <| sR <| pu1 <| nT <| retE <| retT [I 2] ?_
  change Sat _ _ (H :: F) at hS
  refine ⟨?_, hS⟩
  unfold takesV
  (repeat' split) <;> first | rfl | (exfalso; omega) | contradiction | (exfalso; simp_all; done) | (simp_all; done)
 refine cT _ (decide_eq_true b0) ?_
 refine sR <| pu1 <| nT ?_
 refine retE (blockK_r <| thenK_r <| ?_)
 refine retT [I 1] ?_
 change Sat _ _ (H :: F) at hS
 refine ⟨?_, hS⟩
 unfold takesV
 (repeat' split) <;> first | rfl | (exfalso; omega) | contradiction | (exfalso; simp_all; done) | (simp_all; done)
theorem r14_argument (W w : World) (H : Chunk) (F : List Chunk) (o : POp) (hS : Sat W w (H :: F)) :
  Calls Try.prog 100 #[.agg #[I o.code, I o.arg]] w fun e w' => e = .returned (.bool (decide (argP o))) ∧ Sat W w' (H :: F) := by
 refine callsE (n := 23) Try.func100 rfl rfl (Nat.le_of_ble_eq_true rfl) ?_
 refine sR ?_
 refine sBox hS (.agg #[I o.code, I o.arg]) #[I o.code, I o.arg] ?_
 intro k0 _ a0
 refine pu1 <| nT <| seqE <| sR <| pu1 ?_
 refine sL a0 0 0 (I o.code) (Try.isAgg3 _) ?_
 refine nT <| blockE <| sR <| pu2 <| nT ?_
 by_cases b0 : (o.code : Int) = 2
 ·refine cT _ (beq_iff_eq.2 b0) ?_
  refine sR <| pu1 ?_
  refine sL a0 0 1 (I o.arg) (Try.isAgg3 _) ?_
  refine pu2 ?_
  by_cases c0 : (o.arg : Int) ≥ (-4294967296)
  rotate_left
  ·refine sFix 10 _ false (decide_eq_false c0) ?_
   refine pu5 <| nT ?_
   refine retE (blockK_r <| thenK_r <| ?_)
   refine retT [.bool false] ?_
   have d0 := ((a0.pick 1 rfl).dropAt 1 rfl)
   change Sat _ _ (H :: F) at d0
   refine ⟨congrArg (fun b => Ending.returned (.bool b)) ?_, d0⟩
   first | rfl | (rw [Bool.eq_iff_iff]; simp only [decide_eq_true_eq, beq_iff_eq, bne_iff_ne, ne_eq, Bool.not_eq_true', decide_eq_false_iff_not, true_iff, false_iff, iff_true, iff_false, Bool.false_eq_true, Bool.and_eq_true, Bool.or_eq_true, gt_iff_lt, ge_iff_le, argP] <;> omega) | (rw [Bool.eq_iff_iff]; simp [argP, *] <;> omega) | (simp_all; done)
  refine sFix 10 _ true (decide_eq_true c0) ?_
  refine pu1 <| gY ?_
  refine sL a0 0 1 (I o.arg) (Try.isAgg3 _) ?_
  refine pu3 <| nT ?_
  refine retE (blockK_r <| thenK_r <| ?_)
  refine retT [.bool (decide ((o.arg : Int) ≤ 4294967296))] ?_
  have e0 := ((a0.pick 1 rfl).dropAt 1 rfl)
  change Sat _ _ (H :: F) at e0
  refine ⟨congrArg (fun b => Ending.returned (.bool b)) ?_, e0⟩
  first | rfl | (rw [Bool.eq_iff_iff]; simp only [decide_eq_true_eq, beq_iff_eq, bne_iff_ne, ne_eq, Bool.not_eq_true', decide_eq_false_iff_not, true_iff, false_iff, iff_true, iff_false, Bool.false_eq_true, Bool.and_eq_true, Bool.or_eq_true, gt_iff_lt, ge_iff_le, argP] <;> omega) | (rw [Bool.eq_iff_iff]; simp [argP, *] <;> omega) | (simp_all; done)
 refine cF _ (beq_eq_false_iff_ne.2 b0) ?_
 refine sR <| pu2 <| nT ?_
 by_cases f0 : (o.code : Int) = 10
 rotate_left
 ·refine cF _ (beq_eq_false_iff_ne.2 f0) ?_
  refine skipE <| blockK_n <| thenK_n <| sR <| pu1 ?_
  refine sL a0 0 1 (I o.arg) (Try.isAgg3 _) ?_
  refine pu2 <| nT <| retE <| retT [.bool ((o.arg : Int) == 0)] ?_
  have g0 := ((a0.pick 1 rfl).dropAt 1 rfl)
  change Sat _ _ (H :: F) at g0
  refine ⟨congrArg (fun b => Ending.returned (.bool b)) ?_, g0⟩
  first | rfl | (rw [Bool.eq_iff_iff]; simp only [decide_eq_true_eq, beq_iff_eq, bne_iff_ne, ne_eq, Bool.not_eq_true', decide_eq_false_iff_not, true_iff, false_iff, iff_true, iff_false, Bool.false_eq_true, Bool.and_eq_true, Bool.or_eq_true, gt_iff_lt, ge_iff_le, argP] <;> omega) | (rw [Bool.eq_iff_iff]; simp [argP, *] <;> omega) | (simp_all; done)
 refine cT _ (beq_iff_eq.2 f0) ?_
 refine sR <| pu1 ?_
 refine sL a0 0 1 (I o.arg) (Try.isAgg3 _) ?_
 refine sF #[I o.arg] Try.call86 (Calls.mono (r7_iss W _ _ [] o.arg (Sat.flat a0)) ?_)
 rintro _ _ ⟨rfl, h0⟩
 refine ⟨_, rfl, ?_⟩
 have i0 := Sat.unflat h0; clear h0
 change Sat _ _ ([(k0, .cells #[I o.code, I o.arg] 66 (0, 0))] :: H :: F) at i0
 refine pu1 <| nT ?_
 refine retE (blockK_r <| thenK_r <| ?_)
 refine retT [.bool (decide ((0 : Int) ≤ o.arg ∧ o.arg ≤ (24 : Int)))] ?_
 have j0 := ((i0.pick 1 rfl).dropAt 1 rfl)
 change Sat _ _ (H :: F) at j0
 refine ⟨congrArg (fun b => Ending.returned (.bool b)) ?_, j0⟩
 first | rfl | (rw [Bool.eq_iff_iff]; simp only [decide_eq_true_eq, beq_iff_eq, bne_iff_ne, ne_eq, Bool.not_eq_true', decide_eq_false_iff_not, true_iff, false_iff, iff_true, iff_false, Bool.false_eq_true, Bool.and_eq_true, Bool.or_eq_true, gt_iff_lt, ge_iff_le, argP] <;> omega) | (rw [Bool.eq_iff_iff]; simp [argP, *] <;> omega) | (simp_all; done)
theorem r14_valid (W w : World) (H : Chunk) (F : List Chunk) (ax : Option Addr) (nx kx : Nat) (x : List POp) (two : Bool) (hx : RdT encPOp 2 [H] ax nx kx x) (hS : Sat W w (H :: F)) :
  Calls Try.prog 92 #[.slice ax nx kx, .bool two] w fun e w' => e = .returned (I (opsCode x two)) ∧ Sat W w' (H :: F) := by
 have hl_x := hx.le; have hn_x := hx.len
 refine callsE (n := 61) Try.func92 rfl rfl (Nat.le_of_ble_eq_true rfl) ?_
 refine sR <| pu1 <| nT <| seqE <| sR <| pu4 ?_
 by_cases m0 : (((nx : Nat) : Int) : Int) = 0
 ·refine sFix 11 _ true (beq_iff_eq.2 m0) ?_
  refine pu4 <| nT <| cTt <| sR <| pu1 <| nT ?_
  refine retE (thenK_r <| ?_)
  refine retT [I 9] ?_
  change Sat _ _ (H :: F) at hS
  exact ⟨by unfold opsCode; rw [if_pos om]; rfl, hS⟩
 refine sFix 11 _ false (beq_eq_false_iff_ne.2 m0) ?_
 refine pu4 <| nT ?_
 by_cases n0 : (((nx : Nat) : Int) : Int) > 32
 ·refine cT _ (decide_eq_true n0) ?_
  refine sR <| pu1 <| nT ?_
  refine retE (thenK_r <| ?_)
  refine retT [I 9] ?_
  change Sat _ _ (H :: F) at hS
  exact ⟨by unfold opsCode; rw [if_pos om]; rfl, hS⟩
 refine cF _ (decide_eq_false n0) ?_
 refine kT <| sR <| pu1 <| nT <| seqE <| sR <| pu1 <| nT <| blockE ?_
 refine loopE (γ := Nat × Int) (fun ⟨i, h⟩ ρ w => AllAt ρ [(0, .slice ax nx kx), (1, .bool two), (8, .slice ax nx kx), (9, I ((nx : Nat) : Int)), (10, .bool ((((nx : Nat) : Int) : Int) == 0)), (11, .bool false), (12, .slice ax nx kx), (13, I ((nx : Nat) : Int)), (14, .bool (decide ((((nx : Nat) : Int) : Int) > 32))), (15, .bool (decide ((((nx : Nat) : Int) : Int) > 32))), (6, I ((i : Nat) : Int)), (5, I h)] ∧ Sat W w (H :: F) ∧ i ≤ nx ∧ (opsGo two x 0 = opsGo two (x.drop i) h) ∧ (0 ≤ h ∧ h ≤ (i : Int))) (fun ⟨i, h⟩ => nx - i) (0, 0) ⟨alA, hS, om, by rfl, om⟩ ?_
 skip
 rintro ⟨i, h⟩ ρ _ ⟨hA, e0, hi, hG, hb⟩
 refine cAnchor hA (fun ρ => ?_)
 clear hA
 refine seqE <| sR <| pu4 <| nT ?_
 by_cases o0 : (((i : Nat) : Int) : Int) < ((nx : Nat) : Int)
 rotate_left
 ·refine cF _ (decide_eq_false o0) ?_
  refine exitE (xB <| ?_)
  refine thenK_n <| seqE <| sR <| pu2 <| nT ?_
  by_cases p0 : (h : Int) = 1
  ·refine cF _ (bne_eq_false_iff_eq.2 p0) ?_
   refine kT <| sR <| pu1 <| nT <| retE <| retT [I 0] ?_
   change Sat _ _ (H :: F) at e0
   have hcode : opsCode x two = opsGo two (x.drop i) h := by unfold opsCode; rw [if_neg om]; exact hG
   exact ⟨by rw [hcode, List.drop_of_length_le om, opsGo]; rw [if_pos om]; rfl, e0⟩
  refine cT _ (bne_iff_ne.2 p0) ?_
  refine sR <| pu1 <| nT ?_
  refine retE (thenK_r <| ?_)
  refine retT [I 1] ?_
  change Sat _ _ (H :: F) at e0
  have hcode : opsCode x two = opsGo two (x.drop i) h := by unfold opsCode; rw [if_neg om]; exact hG
  exact ⟨by rw [hcode, List.drop_of_length_le om, opsGo]; rw [if_neg om]; rfl, e0⟩
 refine cT _ (decide_eq_true o0) ?_
 refine kT <| seqE <| blockE <| sR <| pu2 ?_
 refine sIdx hx ((i : Nat) : Int) Try.runUnderlying59 Try.sizeOf66 ?_
 intro a0 _ _ c0 m1
 rw [Int.toNat_natCast] at c0
 refine sLpA e0 (m1.up 0 rfl) 0 [I a0.code, I a0.arg] (Try.isAgg66 _) (Try.sizeOf66 _) ?_
 refine sAlloc e0 Try.zeroValue66 ?_
 intro d0 _ n1
 refine sTw n1 0 [I a0.code, I a0.arg] Try.sizeOf66 ?_
 intro _ b0
 change Sat _ _ ([(d0, .cells #[I a0.code, I a0.arg] 66 (0, 0))] :: H :: F) at b0
 refine nT <| seqE <| sR <| pu1 ?_
 refine sL b0 0 0 (I a0.code) (Try.isAgg3 _) ?_
 refine pu2 ?_
 by_cases q0 : (a0.code : Int) < 0
 ·refine sFix 29 _ true (decide_eq_true q0) ?_
  refine pu16 <| pu4 <| nT <| cTt <| sR <| pu1 <| nT ?_
  refine retE (tR <| thenK_r <| tR <| thenK_r <| ?_)
  refine retT [I 1] ?_
  have r0 := ((b0.pick 1 rfl).dropAt 1 rfl)
  change Sat _ _ (H :: F) at r0
  have hcode : opsCode x two = opsGo two (x.drop i) h := by unfold opsCode; rw [if_neg om]; exact hG
  exact ⟨by rw [hcode, drop_at c0, opsGo]; rw [if_pos (by unfold opBad; first | omega | (simp_all; done) | (simp_all; omega))]; rfl, r0⟩
 refine sFix 29 _ false (decide_eq_false q0) ?_
 refine pu1 <| gY ?_
 refine sL b0 0 0 (I a0.code) (Try.isAgg3 _) ?_
 refine pu3 ?_
 by_cases s0 : (a0.code : Int) > 11
 ·refine sFix 34 _ true (decide_eq_true s0) ?_
  refine pu15 <| nT <| cTt <| sR <| pu1 <| nT ?_
  refine retE (tR <| thenK_r <| tR <| thenK_r <| ?_)
  refine retT [I 1] ?_
  have t0 := ((b0.pick 1 rfl).dropAt 1 rfl)
  change Sat _ _ (H :: F) at t0
  have hcode : opsCode x two = opsGo two (x.drop i) h := by unfold opsCode; rw [if_neg om]; exact hG
  exact ⟨by rw [hcode, drop_at c0, opsGo]; rw [if_pos (by unfold opBad; first | omega | (simp_all; done) | (simp_all; omega))]; rfl, t0⟩
 refine sFix 34 _ false (decide_eq_false s0) ?_
 refine pu1 <| gY ?_
 refine sL b0 0 0 (I a0.code) (Try.isAgg3 _) ?_
 refine pu2 ?_
 by_cases u0 : (a0.code : Int) = 1
 rotate_left
 ·refine sFix 38 _ false (beq_eq_false_iff_ne.2 u0) ?_
  refine pu6 <| gY ?_
  refine sL b0 0 0 (I a0.code) (Try.isAgg3 _) ?_
  refine gY ?_
  refine sF #[I a0.code] Try.call99 (Calls.mono (r14_takes W _ _ [] a0.code (Sat.flat b0)) ?_)
  rintro _ _ ⟨rfl, v0⟩
  refine ⟨_, rfl, ?_⟩
  have f0 := Sat.unflat v0; clear v0
  change Sat _ _ ([(d0, .cells #[I a0.code, I a0.arg] 66 (0, 0))] :: H :: F) at f0
  have u1 : 0 ≤ (takesV a0.code) ∧ (takesV a0.code) ≤ 2 := takesV_bd _
  refine pu3 <| nT ?_
  by_cases w0 : ((takesV a0.code) : Int) > h
  ·refine cT _ (decide_eq_true w0) ?_
   refine sR <| pu1 <| nT ?_
   refine retE (tR <| thenK_r <| tR <| thenK_r <| ?_)
   refine retT [I 1] ?_
   have x0 := ((f0.pick 1 rfl).dropAt 1 rfl)
   change Sat _ _ (H :: F) at x0
   have hcode : opsCode x two = opsGo two (x.drop i) h := by unfold opsCode; rw [if_neg om]; exact hG
   exact ⟨by rw [hcode, drop_at c0, opsGo]; rw [if_pos (by unfold opBad; first | omega | (simp_all; done) | (simp_all; omega))]; rfl, x0⟩
  refine cF _ (decide_eq_false w0) ?_
  refine kT <| seqE <| sR ?_
  refine sLA f0 0 0 [I a0.code, I a0.arg] (Try.isAgg66 _) (Try.sizeOf66 _) ?_
  refine sF #[.agg #[I a0.code, I a0.arg]] Try.call100 (Calls.mono (r14_argument W _ _ [] a0 (Sat.flat f0)) ?_)
  rintro _ _ ⟨rfl, y0⟩
  refine ⟨_, rfl, ?_⟩
  have g0 := Sat.unflat y0; clear y0
  change Sat _ _ ([(d0, .cells #[I a0.code, I a0.arg] 66 (0, 0))] :: H :: F) at g0
  refine pu1 <| nT ?_
  rcases Classical.em (argP a0) with j0 | j0
  rotate_left
  ·refine cT _ (congrArg Bool.not (decide_eq_false j0)) ?_
   refine sR <| pu1 <| nT ?_
   refine retE (tR <| thenK_r <| tR <| thenK_r <| ?_)
   refine retT [I 10] ?_
   have z0 := ((g0.pick 1 rfl).dropAt 1 rfl)
   change Sat _ _ (H :: F) at z0
   have hcode : opsCode x two = opsGo two (x.drop i) h := by unfold opsCode; rw [if_neg om]; exact hG
   exact ⟨by rw [hcode, drop_at c0, opsGo]; rw [if_neg (by unfold opBad; first | omega | (simp_all; done) | (simp_all; omega)), if_neg ‹_›]; rfl, z0⟩
  refine cF _ (congrArg Bool.not (decide_eq_true j0)) ?_
  refine kT <| regionE <| pu2 ?_
  refine sL g0 0 0 (I a0.code) (Try.isAgg3 _) ?_
  refine sF #[I a0.code] Try.call99 (Calls.mono (r14_takes W _ _ [] a0.code (Sat.flat g0)) ?_)
  rintro _ _ ⟨rfl, a1⟩
  refine ⟨_, rfl, ?_⟩
  have b1 := Sat.unflat a1; clear a1
  change Sat _ _ ([(d0, .cells #[I a0.code, I a0.arg] 66 (0, 0))] :: H :: F) at b1
  have x1 : 0 ≤ (takesV a0.code) ∧ (takesV a0.code) ≤ 2 := takesV_bd _
  refine sSub 1 (takesV a0.code) ?_
  refine sAdd h (1 - (takesV a0.code)) ?_
  refine pu1 <| nB <| regionE <| pu1 ?_
  refine sAdd ((i : Nat) : Int) 1 ?_
  refine pu1 <| nT ?_
  have c1 := ((b1.pick 1 rfl).dropAt 1 rfl)
  change Sat _ _ (H :: F) at c1
  exact ⟨(i + 1, (h + (1 - (takesV a0.code)))), od, alA, c1, om, by rw [hG, drop_at c0, opsGo, if_neg (by unfold opBad; first | omega | (simp_all; done) | (simp_all; omega)), if_pos ‹_›], om⟩
 refine sFix 38 _ true (beq_iff_eq.2 u0) ?_
 refine pu5 ?_
 rcases Classical.em (two = true) with k0 | k0
 rotate_left
 ·refine sFix 43 _ true (congrArg Bool.not (Bool.eq_false_iff.2 k0)) ?_
  refine pu6 <| nT <| cTt <| sR <| pu1 <| nT ?_
  refine retE (tR <| thenK_r <| tR <| thenK_r <| ?_)
  refine retT [I 1] ?_
  have d1 := ((b0.pick 1 rfl).dropAt 1 rfl)
  change Sat _ _ (H :: F) at d1
  have hcode : opsCode x two = opsGo two (x.drop i) h := by unfold opsCode; rw [if_neg om]; exact hG
  exact ⟨by rw [hcode, drop_at c0, opsGo]; rw [if_pos (by unfold opBad; first | omega | (simp_all; done) | (simp_all; omega))]; rfl, d1⟩
 refine sFix 43 _ false (congrArg Bool.not k0) ?_
 refine pu1 <| gY ?_
 refine sL b0 0 0 (I a0.code) (Try.isAgg3 _) ?_
 refine gY ?_
 refine sF #[I a0.code] Try.call99 (Calls.mono (r14_takes W _ _ [] a0.code (Sat.flat b0)) ?_)
 rintro _ _ ⟨rfl, e1⟩
 refine ⟨_, rfl, ?_⟩
 have h0 := Sat.unflat e1; clear e1
 change Sat _ _ ([(d0, .cells #[I a0.code, I a0.arg] 66 (0, 0))] :: H :: F) at h0
 have z1 : 0 ≤ (takesV a0.code) ∧ (takesV a0.code) ≤ 2 := takesV_bd _
 refine pu3 <| nT ?_
 by_cases f1 : ((takesV a0.code) : Int) > h
 ·refine cT _ (decide_eq_true f1) ?_
  refine sR <| pu1 <| nT ?_
  refine retE (tR <| thenK_r <| tR <| thenK_r <| ?_)
  refine retT [I 1] ?_
  have g1 := ((h0.pick 1 rfl).dropAt 1 rfl)
  change Sat _ _ (H :: F) at g1
  have hcode : opsCode x two = opsGo two (x.drop i) h := by unfold opsCode; rw [if_neg om]; exact hG
  exact ⟨by rw [hcode, drop_at c0, opsGo]; rw [if_pos (by unfold opBad; first | omega | (simp_all; done) | (simp_all; omega))]; rfl, g1⟩
 refine cF _ (decide_eq_false f1) ?_
 refine kT <| seqE <| sR ?_
 refine sLA h0 0 0 [I a0.code, I a0.arg] (Try.isAgg66 _) (Try.sizeOf66 _) ?_
 refine sF #[.agg #[I a0.code, I a0.arg]] Try.call100 (Calls.mono (r14_argument W _ _ [] a0 (Sat.flat h0)) ?_)
 rintro _ _ ⟨rfl, h1⟩
 refine ⟨_, rfl, ?_⟩
 have i0 := Sat.unflat h1; clear h1
 change Sat _ _ ([(d0, .cells #[I a0.code, I a0.arg] 66 (0, 0))] :: H :: F) at i0
 refine pu1 <| nT ?_
 rcases Classical.em (argP a0) with l0 | l0
 rotate_left
 ·refine cT _ (congrArg Bool.not (decide_eq_false l0)) ?_
  refine sR <| pu1 <| nT ?_
  refine retE (tR <| thenK_r <| tR <| thenK_r <| ?_)
  refine retT [I 10] ?_
  have i1 := ((i0.pick 1 rfl).dropAt 1 rfl)
  change Sat _ _ (H :: F) at i1
  have hcode : opsCode x two = opsGo two (x.drop i) h := by unfold opsCode; rw [if_neg om]; exact hG
  exact ⟨by rw [hcode, drop_at c0, opsGo]; rw [if_neg (by unfold opBad; first | omega | (simp_all; done) | (simp_all; omega)), if_neg ‹_›]; rfl, i1⟩
 refine cF _ (congrArg Bool.not (decide_eq_true l0)) ?_
 refine kT <| regionE <| pu2 ?_
 refine sL i0 0 0 (I a0.code) (Try.isAgg3 _) ?_
 refine sF #[I a0.code] Try.call99 (Calls.mono (r14_takes W _ _ [] a0.code (Sat.flat i0)) ?_)
 rintro _ _ ⟨rfl, j1⟩
 refine ⟨_, rfl, ?_⟩
 have k1 := Sat.unflat j1; clear j1
 change Sat _ _ ([(d0, .cells #[I a0.code, I a0.arg] 66 (0, 0))] :: H :: F) at k1
 have c2 : 0 ≤ (takesV a0.code) ∧ (takesV a0.code) ≤ 2 := takesV_bd _
 refine sSub 1 (takesV a0.code) ?_
 refine sAdd h (1 - (takesV a0.code)) ?_
 refine pu1 <| nB <| regionE <| pu1 ?_
 refine sAdd ((i : Nat) : Int) 1 ?_
 refine pu1 <| nT ?_
 have l1 := ((k1.pick 1 rfl).dropAt 1 rfl)
 change Sat _ _ (H :: F) at l1
 exact ⟨(i + 1, (h + (1 - (takesV a0.code)))), od, alA, l1, om, by rw [hG, drop_at c0, opsGo, if_neg (by unfold opBad; first | omega | (simp_all; done) | (simp_all; omega)), if_pos ‹_›], om⟩

def timesOK (a b : Int) : Bool := decide (-17592186044416 ≤ a * b ∧ a * b ≤ 17592186044416)
def timesV (a b : Int) : Int := if timesOK a b = true then a * b else 0
theorem times_t {a b x y : Int} (hx : x = a ∨ x = -a) (hy : y = b ∨ y = -b) (hx0 : 0 ≤ x) (hy0 : 0 ≤ y) (h : y = 0 ∨ (0 < y ∧ x ≤ (17592186044416 : Int).tdiv y)) : timesOK a b = true ∧ timesV a b = a * b ∧ -17592186044416 ≤ a * b ∧ a * b ≤ 17592186044416 := by
  have h1 := mul_le_of hx0 hy0 (l := 17592186044416) (by omega) h
  have h2 := abs_mul_le hx hy hx0 hy0 h1.2
  have h3 : timesOK a b = true := decide_eq_true h2
  exact ⟨h3, by unfold timesV; rw [if_pos h3], h2⟩
theorem times_f {a b x y : Int} (hx : x = a ∨ x = -a) (hy : y = b ∨ y = -b) (h : 0 < y ∧ (17592186044416 : Int).tdiv y < x) : timesOK a b = false ∧ timesV a b = 0 := by
  have h1 := mul_gt_of (l := 17592186044416) (by omega) h.1 h.2
  have h3 : timesOK a b = false := decide_eq_false (abs_mul_gt hx hy h1)
  exact ⟨h3, by unfold timesV; rw [h3]; rfl⟩
def accS (x : Sp) : Prop := (-17592186044416 ≤ x.lo ∧ x.lo ≤ 17592186044416) ∧ -17592186044416 ≤ x.hi ∧ x.hi ≤ 17592186044416
def prodLo (x y : Sp) : Int := min (min (min (timesV x.lo y.lo) (timesV x.lo y.hi)) (timesV x.hi y.lo)) (timesV x.hi y.hi)
def prodHi (x y : Sp) : Int := max (max (max (timesV x.lo y.lo) (timesV x.lo y.hi)) (timesV x.hi y.lo)) (timesV x.hi y.hi)
def prodOK (x y : Sp) : Bool := timesOK x.lo y.lo && timesOK x.lo y.hi && timesOK x.hi y.lo && timesOK x.hi y.hi
theorem r14_times (W w : World) (H : Chunk) (F : List Chunk) (a : Int) (b : Int) (ha : -17592186044416 ≤ a ∧ a ≤ 17592186044416) (hb : -17592186044416 ≤ b ∧ b ≤ 17592186044416) (hS : Sat W w (H :: F)) :
  Calls Try.prog 104 #[I a, I b] w fun e w' => e = .returned (.tuple #[I (timesV a b), .bool (timesOK a b)]) ∧ Sat W w' (H :: F) := by
 refine callsE (n := 29) Try.func104 rfl rfl (Nat.le_of_ble_eq_true rfl) ?_
 refine sR <| pu2 <| nT <| sR <| pu4 <| nT <| seqE <| sR <| pu2 <| nT ?_
 by_cases a0 : (a : Int) < 0
 rotate_left
 ·refine cF _ (decide_eq_false a0) ?_
  refine kT <| seqE <| sR <| pu2 <| nT ?_
  by_cases b0 : (b : Int) < 0
  rotate_left
  ·refine cF _ (decide_eq_false b0) ?_
   refine kT <| seqE <| sR <| pu3 ?_
   by_cases c0 : (b : Int) > 0
   rotate_left
   ·refine sFix 20 _ false (decide_eq_false c0) ?_
    refine pu5 <| nT <| cFf <| kT <| seqE ?_
    have ht := times_t (a := a) (b := b) (x := a) (y := b) om om om om om
    refine regionE <| pu2 ?_
    refine sMul a b ?_
    refine pu2 <| nT <| retE <| retT [I (a * b), .bool true] ?_
    change Sat _ _ (H :: F) at hS
    exact ⟨by rw [ht.1, ht.2.1]; rfl, hS⟩
   refine sFix 20 _ true (decide_eq_true c0) ?_
   refine pu2 <| gY ?_
   refine sQuo 17592186044416 b ?_
   refine pu2 <| nT ?_
   by_cases d0 : (a : Int) > ((17592186044416 : Int).tdiv b)
   ·refine cT _ (decide_eq_true d0) ?_
    refine sR <| pu2 <| nT ?_
    refine retE (thenK_r <| ?_)
    refine retT [I 0, .bool false] ?_
    change Sat _ _ (H :: F) at hS
    have ht := times_f (a := a) (b := b) (x := a) (y := b) om om om
    exact ⟨by rw [ht.1, ht.2]; rfl, hS⟩
   refine cF _ (decide_eq_false d0) ?_
   refine kT <| seqE ?_
   have ht := times_t (a := a) (b := b) (x := a) (y := b) om om om om om
   refine regionE <| pu2 ?_
   refine sMul a b ?_
   refine pu2 <| nT <| retE <| retT [I (a * b), .bool true] ?_
   change Sat _ _ (H :: F) at hS
   exact ⟨by rw [ht.1, ht.2.1]; rfl, hS⟩
  refine cT _ (decide_eq_true b0) ?_
  refine regionE <| pu1 ?_
  refine stepY (I (-b)) rfl rfl (Y_neg b rfl kr) ?_
  refine pu1 <| nT <| seqE <| sR <| pu3 ?_
  by_cases e0 : ((-b) : Int) > 0
  rotate_left
  ·refine sFix 20 _ false (decide_eq_false e0) ?_
   refine pu5 <| nT <| cFf <| kT <| seqE ?_
   have ht := times_t (a := a) (b := b) (x := a) (y := (-b)) om om om om om
   refine regionE <| pu2 ?_
   refine sMul a b ?_
   refine pu2 <| nT <| retE <| retT [I (a * b), .bool true] ?_
   change Sat _ _ (H :: F) at hS
   exact ⟨by rw [ht.1, ht.2.1]; rfl, hS⟩
  refine sFix 20 _ true (decide_eq_true e0) ?_
  refine pu2 <| gY ?_
  refine sQuo 17592186044416 (-b) ?_
  refine pu2 <| nT ?_
  by_cases f0 : (a : Int) > ((17592186044416 : Int).tdiv (-b))
  ·refine cT _ (decide_eq_true f0) ?_
   refine sR <| pu2 <| nT ?_
   refine retE (thenK_r <| ?_)
   refine retT [I 0, .bool false] ?_
   change Sat _ _ (H :: F) at hS
   have ht := times_f (a := a) (b := b) (x := a) (y := (-b)) om om om
   exact ⟨by rw [ht.1, ht.2]; rfl, hS⟩
  refine cF _ (decide_eq_false f0) ?_
  refine kT <| seqE ?_
  have ht := times_t (a := a) (b := b) (x := a) (y := (-b)) om om om om om
  refine regionE <| pu2 ?_
  refine sMul a b ?_
  refine pu2 <| nT <| retE <| retT [I (a * b), .bool true] ?_
  change Sat _ _ (H :: F) at hS
  exact ⟨by rw [ht.1, ht.2.1]; rfl, hS⟩
 refine cT _ (decide_eq_true a0) ?_
 refine regionE <| pu1 ?_
 refine stepY (I (-a)) rfl rfl (Y_neg a rfl kr) ?_
 refine pu1 <| nT <| seqE <| sR <| pu2 <| nT ?_
 by_cases g0 : (b : Int) < 0
 rotate_left
 ·refine cF _ (decide_eq_false g0) ?_
  refine kT <| seqE <| sR <| pu3 ?_
  by_cases h0 : (b : Int) > 0
  rotate_left
  ·refine sFix 20 _ false (decide_eq_false h0) ?_
   refine pu5 <| nT <| cFf <| kT <| seqE ?_
   have ht := times_t (a := a) (b := b) (x := (-a)) (y := b) om om om om om
   refine regionE <| pu2 ?_
   refine sMul a b ?_
   refine pu2 <| nT <| retE <| retT [I (a * b), .bool true] ?_
   change Sat _ _ (H :: F) at hS
   exact ⟨by rw [ht.1, ht.2.1]; rfl, hS⟩
  refine sFix 20 _ true (decide_eq_true h0) ?_
  refine pu2 <| gY ?_
  refine sQuo 17592186044416 b ?_
  refine pu2 <| nT ?_
  by_cases i0 : ((-a) : Int) > ((17592186044416 : Int).tdiv b)
  ·refine cT _ (decide_eq_true i0) ?_
   refine sR <| pu2 <| nT ?_
   refine retE (thenK_r <| ?_)
   refine retT [I 0, .bool false] ?_
   change Sat _ _ (H :: F) at hS
   have ht := times_f (a := a) (b := b) (x := (-a)) (y := b) om om om
   exact ⟨by rw [ht.1, ht.2]; rfl, hS⟩
  refine cF _ (decide_eq_false i0) ?_
  refine kT <| seqE ?_
  have ht := times_t (a := a) (b := b) (x := (-a)) (y := b) om om om om om
  refine regionE <| pu2 ?_
  refine sMul a b ?_
  refine pu2 <| nT <| retE <| retT [I (a * b), .bool true] ?_
  change Sat _ _ (H :: F) at hS
  exact ⟨by rw [ht.1, ht.2.1]; rfl, hS⟩
 refine cT _ (decide_eq_true g0) ?_
 refine regionE <| pu1 ?_
 refine stepY (I (-b)) rfl rfl (Y_neg b rfl kr) ?_
 refine pu1 <| nT <| seqE <| sR <| pu3 ?_
 by_cases j0 : ((-b) : Int) > 0
 rotate_left
 ·refine sFix 20 _ false (decide_eq_false j0) ?_
  refine pu5 <| nT <| cFf <| kT <| seqE ?_
  have ht := times_t (a := a) (b := b) (x := (-a)) (y := (-b)) om om om om om
  refine regionE <| pu2 ?_
  refine sMul a b ?_
  refine pu2 <| nT <| retE <| retT [I (a * b), .bool true] ?_
  change Sat _ _ (H :: F) at hS
  exact ⟨by rw [ht.1, ht.2.1]; rfl, hS⟩
 refine sFix 20 _ true (decide_eq_true j0) ?_
 refine pu2 <| gY ?_
 refine sQuo 17592186044416 (-b) ?_
 refine pu2 <| nT ?_
 by_cases k0 : ((-a) : Int) > ((17592186044416 : Int).tdiv (-b))
 ·refine cT _ (decide_eq_true k0) ?_
  refine sR <| pu2 <| nT ?_
  refine retE (thenK_r <| ?_)
  refine retT [I 0, .bool false] ?_
  change Sat _ _ (H :: F) at hS
  have ht := times_f (a := a) (b := b) (x := (-a)) (y := (-b)) om om om
  exact ⟨by rw [ht.1, ht.2]; rfl, hS⟩
 refine cF _ (decide_eq_false k0) ?_
 refine kT <| seqE ?_
 have ht := times_t (a := a) (b := b) (x := (-a)) (y := (-b)) om om om om om
 refine regionE <| pu2 ?_
 refine sMul a b ?_
 refine pu2 <| nT <| retE <| retT [I (a * b), .bool true] ?_
 change Sat _ _ (H :: F) at hS
 exact ⟨by rw [ht.1, ht.2.1]; rfl, hS⟩
theorem r14_abs (W w : World) (H : Chunk) (F : List Chunk) (a : Int) (ha : -9223372036854775807 ≤ a ∧ a ≤ 9223372036854775807) (hS : Sat W w (H :: F)) :
  Calls Try.prog 102 #[I a] w fun e w' => e = .returned (I ((a.natAbs : Nat) : Int)) ∧ Sat W w' (H :: F) := by
 refine callsE (n := 8) Try.func102 rfl rfl (Nat.le_of_ble_eq_true rfl) ?_
 refine sR <| pu1 <| nT <| seqE <| sR <| pu2 <| nT ?_
 by_cases a0 : (a : Int) < 0
 rotate_left
 ·refine cF _ (decide_eq_false a0) ?_
  refine kT <| sR <| pu2 <| nT <| retE <| retT [I a] ?_
  change Sat _ _ (H :: F) at hS
  exact ⟨congrArg (fun c => Ending.returned (I c)) om, hS⟩
 refine cT _ (decide_eq_true a0) ?_
 refine sR <| pu1 ?_
 refine stepY (I (-a)) rfl rfl (Y_neg a rfl kr) ?_
 refine pu1 <| nT ?_
 refine retE (thenK_r <| ?_)
 refine retT [I (-a)] ?_
 change Sat _ _ (H :: F) at hS
 exact ⟨congrArg (fun c => Ending.returned (I c)) om, hS⟩
theorem r14_product (W w : World) (H : Chunk) (F : List Chunk) (x : Sp) (y : Sp) (hx : accS x) (hy : accS y) (hS : Sat W w (H :: F)) :
  Calls Try.prog 103 #[.agg #[I x.lo, I x.hi], .agg #[I y.lo, I y.hi]] w fun e w' => e = .returned (.tuple #[.agg #[I (prodLo x y), I (prodHi x y)], .bool (prodOK x y)]) ∧ Sat W w' (H :: F) := by
 have hx1 := hx.1; have hx2 := hx.2; have hy1 := hy.1; have hy2 := hy.2
 refine callsE (n := 67) Try.func103 rfl rfl (Nat.le_of_ble_eq_true rfl) ?_
 refine sR ?_
 refine sBox hS (.agg #[I x.lo, I x.hi]) #[I x.lo, I x.hi] ?_
 intro _ _ u0
 refine sBox u0 (.agg #[I y.lo, I y.hi]) #[I y.lo, I y.hi] ?_
 intro _ _ v0
 refine sAlloc v0 Try.zeroValue142 ?_
 intro _ _ e0
 refine pu1 <| nT <| sR <| pu1 ?_
 refine sL e0 2 0 (I x.lo) (Try.isAgg3 _) ?_
 refine pu1 ?_
 refine sL e0 1 0 (I y.lo) (Try.isAgg3 _) ?_
 refine sF #[I x.lo, I y.lo] Try.call104 (Calls.mono (r14_times W _ _ [] x.lo y.lo (od) (od) (Sat.flat e0)) ?_)
 rintro _ _ ⟨rfl, m0⟩
 refine ⟨_, rfl, ?_⟩
 have b0 := Sat.unflat m0; clear m0
 try dsimp only [List.set, List.eraseIdx, Value.cells] at b0
 refine pu5 <| nT <| sR <| pu1 ?_
 refine sL b0 2 0 (I x.lo) (Try.isAgg3 _) ?_
 refine pu1 ?_
 refine sL b0 1 1 (I y.hi) (Try.isAgg3 _) ?_
 refine sF #[I x.lo, I y.hi] Try.call104 (Calls.mono (r14_times W _ _ [] x.lo y.hi (od) (od) (Sat.flat b0)) ?_)
 rintro _ _ ⟨rfl, n0⟩
 refine ⟨_, rfl, ?_⟩
 have c0 := Sat.unflat n0; clear n0
 try dsimp only [List.set, List.eraseIdx, Value.cells] at c0
 refine pu5 <| nT <| sR <| pu1 ?_
 refine sL c0 2 1 (I x.hi) (Try.isAgg3 _) ?_
 refine pu1 ?_
 refine sL c0 1 0 (I y.lo) (Try.isAgg3 _) ?_
 refine sF #[I x.hi, I y.lo] Try.call104 (Calls.mono (r14_times W _ _ [] x.hi y.lo (od) (od) (Sat.flat c0)) ?_)
 rintro _ _ ⟨rfl, o0⟩
 refine ⟨_, rfl, ?_⟩
 have d0 := Sat.unflat o0; clear o0
 try dsimp only [List.set, List.eraseIdx, Value.cells] at d0
 refine pu5 <| nT <| sR <| pu1 ?_
 refine sL d0 2 1 (I x.hi) (Try.isAgg3 _) ?_
 refine pu1 ?_
 refine sL d0 1 1 (I y.hi) (Try.isAgg3 _) ?_
 refine sF #[I x.hi, I y.hi] Try.call104 (Calls.mono (r14_times W _ _ [] x.hi y.hi (od) (od) (Sat.flat d0)) ?_)
 rintro _ _ ⟨rfl, p0⟩
 refine ⟨_, rfl, ?_⟩
 have a0 := Sat.unflat p0; clear p0
 try dsimp only [List.set, List.eraseIdx, Value.cells] at a0
 refine pu5 <| nT <| sR <| pu4 ?_
 refine stepY (I (min (min (min (timesV x.lo y.lo) (timesV x.lo y.hi)) (timesV x.hi y.lo)) (timesV x.hi y.hi))) rfl rfl (Y_min4 (timesV x.lo y.lo) (timesV x.lo y.hi) (timesV x.hi y.lo) (timesV x.hi y.hi) rfl rfl kr kr kr kr) ?_
 refine pu4 ?_
 refine stepY (I (max (max (max (timesV x.lo y.lo) (timesV x.lo y.hi)) (timesV x.hi y.lo)) (timesV x.hi y.hi))) rfl rfl (Y_max4 (timesV x.lo y.lo) (timesV x.lo y.hi) (timesV x.hi y.lo) (timesV x.hi y.hi) rfl rfl kr kr kr kr) ?_
 refine pu3 ?_
 rcases Classical.em ((timesOK x.lo y.lo) = true) with f0 | f0
 rotate_left
 ·refine sFix 58 _ false (Bool.eq_false_iff.2 f0) ?_
  refine pu8 ?_
  refine sTw a0 0 [I (min (min (min (timesV x.lo y.lo) (timesV x.lo y.hi)) (timesV x.hi y.lo)) (timesV x.hi y.hi)), I (max (max (max (timesV x.lo y.lo) (timesV x.lo y.hi)) (timesV x.hi y.lo)) (timesV x.hi y.hi))] Try.sizeOf142 ?_
  intro _ g0
  try dsimp only [List.set, List.eraseIdx, Value.cells] at g0
  refine pu1 <| nT <| retE <| retN (vs := [.agg #[I (min (min (min (timesV x.lo y.lo) (timesV x.lo y.hi)) (timesV x.hi y.lo)) (timesV x.hi y.hi)), I (max (max (max (timesV x.lo y.lo) (timesV x.lo y.hi)) (timesV x.hi y.lo)) (timesV x.hi y.hi))], .bool false]) rfl (.cons (.cell _ _ _ _ kr (lvA g0 0 0 [I (min (min (min (timesV x.lo y.lo) (timesV x.lo y.hi)) (timesV x.hi y.lo)) (timesV x.hi y.hi)), I (max (max (max (timesV x.lo y.lo) (timesV x.lo y.hi)) (timesV x.hi y.lo)) (timesV x.hi y.hi))] (Try.isAgg142 _) (Try.sizeOf142 _) rfl rfl rfl)) (.cons (.tmp _ _ kr) .nil)) ?_
  have q0 := ((((g0.pick 3 rfl).dropAt 1 rfl).dropAt 1 rfl).dropAt 1 rfl)
  change Sat _ _ (H :: F) at q0
  have hOK : prodOK x y = false := by simp [prodOK, *]
  exact ⟨by rw [hOK]; rfl, q0⟩
 refine sFix 58 _ true f0 ?_
 refine pu3 ?_
 rcases Classical.em ((timesOK x.lo y.hi) = true) with h0 | h0
 rotate_left
 ·refine sFix 61 _ false (Bool.eq_false_iff.2 h0) ?_
  refine pu5 ?_
  refine sTw a0 0 [I (min (min (min (timesV x.lo y.lo) (timesV x.lo y.hi)) (timesV x.hi y.lo)) (timesV x.hi y.hi)), I (max (max (max (timesV x.lo y.lo) (timesV x.lo y.hi)) (timesV x.hi y.lo)) (timesV x.hi y.hi))] Try.sizeOf142 ?_
  intro _ i0
  try dsimp only [List.set, List.eraseIdx, Value.cells] at i0
  refine pu1 <| nT <| retE <| retN (vs := [.agg #[I (min (min (min (timesV x.lo y.lo) (timesV x.lo y.hi)) (timesV x.hi y.lo)) (timesV x.hi y.hi)), I (max (max (max (timesV x.lo y.lo) (timesV x.lo y.hi)) (timesV x.hi y.lo)) (timesV x.hi y.hi))], .bool false]) rfl (.cons (.cell _ _ _ _ kr (lvA i0 0 0 [I (min (min (min (timesV x.lo y.lo) (timesV x.lo y.hi)) (timesV x.hi y.lo)) (timesV x.hi y.hi)), I (max (max (max (timesV x.lo y.lo) (timesV x.lo y.hi)) (timesV x.hi y.lo)) (timesV x.hi y.hi))] (Try.isAgg142 _) (Try.sizeOf142 _) rfl rfl rfl)) (.cons (.tmp _ _ kr) .nil)) ?_
  have r0 := ((((i0.pick 3 rfl).dropAt 1 rfl).dropAt 1 rfl).dropAt 1 rfl)
  change Sat _ _ (H :: F) at r0
  have hOK : prodOK x y = false := by simp [prodOK, *]
  exact ⟨by rw [hOK]; rfl, r0⟩
 refine sFix 61 _ true h0 ?_
 refine pu3 ?_
 rcases Classical.em ((timesOK x.hi y.lo) = true) with j0 | j0
 rotate_left
 ·refine sFix 64 _ false (Bool.eq_false_iff.2 j0) ?_
  refine pu2 ?_
  refine sTw a0 0 [I (min (min (min (timesV x.lo y.lo) (timesV x.lo y.hi)) (timesV x.hi y.lo)) (timesV x.hi y.hi)), I (max (max (max (timesV x.lo y.lo) (timesV x.lo y.hi)) (timesV x.hi y.lo)) (timesV x.hi y.hi))] Try.sizeOf142 ?_
  intro _ k0
  try dsimp only [List.set, List.eraseIdx, Value.cells] at k0
  refine pu1 <| nT <| retE <| retN (vs := [.agg #[I (min (min (min (timesV x.lo y.lo) (timesV x.lo y.hi)) (timesV x.hi y.lo)) (timesV x.hi y.hi)), I (max (max (max (timesV x.lo y.lo) (timesV x.lo y.hi)) (timesV x.hi y.lo)) (timesV x.hi y.hi))], .bool false]) rfl (.cons (.cell _ _ _ _ kr (lvA k0 0 0 [I (min (min (min (timesV x.lo y.lo) (timesV x.lo y.hi)) (timesV x.hi y.lo)) (timesV x.hi y.hi)), I (max (max (max (timesV x.lo y.lo) (timesV x.lo y.hi)) (timesV x.hi y.lo)) (timesV x.hi y.hi))] (Try.isAgg142 _) (Try.sizeOf142 _) rfl rfl rfl)) (.cons (.tmp _ _ kr) .nil)) ?_
  have s0 := ((((k0.pick 3 rfl).dropAt 1 rfl).dropAt 1 rfl).dropAt 1 rfl)
  change Sat _ _ (H :: F) at s0
  have hOK : prodOK x y = false := by simp [prodOK, *]
  exact ⟨by rw [hOK]; rfl, s0⟩
 refine sFix 64 _ true j0 ?_
 refine pu2 ?_
 refine sTw a0 0 [I (min (min (min (timesV x.lo y.lo) (timesV x.lo y.hi)) (timesV x.hi y.lo)) (timesV x.hi y.hi)), I (max (max (max (timesV x.lo y.lo) (timesV x.lo y.hi)) (timesV x.hi y.lo)) (timesV x.hi y.hi))] Try.sizeOf142 ?_
 intro _ l0
 try dsimp only [List.set, List.eraseIdx, Value.cells] at l0
 refine pu1 <| nT <| retE <| retN (vs := [.agg #[I (min (min (min (timesV x.lo y.lo) (timesV x.lo y.hi)) (timesV x.hi y.lo)) (timesV x.hi y.hi)), I (max (max (max (timesV x.lo y.lo) (timesV x.lo y.hi)) (timesV x.hi y.lo)) (timesV x.hi y.hi))], .bool (timesOK x.hi y.hi)]) rfl (.cons (.cell _ _ _ _ kr (lvA l0 0 0 [I (min (min (min (timesV x.lo y.lo) (timesV x.lo y.hi)) (timesV x.hi y.lo)) (timesV x.hi y.hi)), I (max (max (max (timesV x.lo y.lo) (timesV x.lo y.hi)) (timesV x.hi y.lo)) (timesV x.hi y.hi))] (Try.isAgg142 _) (Try.sizeOf142 _) rfl rfl rfl)) (.cons (.tmp _ _ kr) .nil)) ?_
 have t0 := ((((l0.pick 3 rfl).dropAt 1 rfl).dropAt 1 rfl).dropAt 1 rfl)
 change Sat _ _ (H :: F) at t0
 have hOK : prodOK x y = (timesOK x.hi y.hi) := by simp [prodOK, *]
 exact ⟨by rw [hOK]; rfl, t0⟩

def zeroSp : Sp := ⟨0, 0⟩
def nextV (o : POp) (x y : Sp) (a b : Int) : Sp :=
  if o.code = 0 then ⟨0, a⟩ else if o.code = 1 then ⟨0, b⟩ else if o.code = 2 then ⟨o.arg, o.arg⟩ else if o.code = 3 then ⟨x.lo + y.lo, x.hi + y.hi⟩ else if o.code = 4 then ⟨x.lo - y.hi, x.hi - y.lo⟩
  else if o.code = 5 then ⟨prodLo x y, prodHi x y⟩ else if o.code = 6 then ⟨min x.lo y.lo, min x.hi y.hi⟩ else if o.code = 7 then ⟨max x.lo y.lo, max x.hi y.hi⟩ else if o.code = 8 then ⟨0, max (x.hi - y.lo) (y.hi - x.lo)⟩
  else if o.code = 9 then ⟨-(max (x.lo.natAbs : Int) x.hi.natAbs), max (x.lo.natAbs : Int) x.hi.natAbs⟩ else if o.code = 10 then ⟨shiftV x.lo o.arg, shiftV x.hi o.arg⟩ else ⟨0, max (x.lo.natAbs : Int) x.hi.natAbs⟩
def nextB (o : POp) (x y : Sp) : Bool := if o.code = 5 then prodOK x y else true
def nextOK (o : POp) (x y : Sp) (a b : Int) : Prop := nextB o x y = true ∧ (-17592186044416 ≤ (nextV o x y a b).lo ∧ (nextV o x y a b).lo ≤ 17592186044416) ∧ -17592186044416 ≤ (nextV o x y a b).hi ∧ (nextV o x y a b).hi ≤ 17592186044416
instance (o : POp) (x y : Sp) (a b : Int) : Decidable (nextOK o x y a b) := by unfold nextOK; infer_instance
theorem r14_next (W w : World) (H : Chunk) (F : List Chunk) (o : POp) (x : Sp) (y : Sp) (a : Int) (b : Int) (hx : accS x) (hy : accS y) (hab : (1 ≤ a ∧ a ≤ 4294967296) ∧ 1 ≤ b ∧ b ≤ 4294967296) (ho : argP o) (hS : Sat W w (H :: F)) :
  Calls Try.prog 101 #[.agg #[I o.code, I o.arg], .agg #[I x.lo, I x.hi], .agg #[I y.lo, I y.hi], I a, I b] w fun e w' => e = .returned (.tuple #[.agg #[I ((nextV o x y a b).lo), I ((nextV o x y a b).hi)], .bool (decide (nextOK o x y a b))]) ∧ Sat W w' (H :: F) := by
 have hx1 := hx.1; have hx2 := hx.2; have hy1 := hy.1; have hy2 := hy.2
 refine callsE (n := 148) Try.func101 rfl rfl (Nat.le_of_ble_eq_true rfl) ?_
 refine sR ?_
 refine sBox hS (.agg #[I o.code, I o.arg]) #[I o.code, I o.arg] ?_
 intro o0 _ n2
 refine sBox n2 (.agg #[I x.lo, I x.hi]) #[I x.lo, I x.hi] ?_
 intro f0 _ o2
 refine sBox o2 (.agg #[I y.lo, I y.hi]) #[I y.lo, I y.hi] ?_
 intro p0 _ p2
 refine sAlloc p2 Try.zeroValue142 ?_
 intro q0 _ h0
 refine pu1 <| nT <| seqE ?_
 refine drawE [2, 5] [(1, ⟨f0, 0, none⟩, I x.lo), (4, ⟨f0, 1, none⟩, I x.hi)] [(true, [0, 3]), (true, [1]), (true, [4]), (false, [2]), (false, [5]), (true, [6]), (true, [7])] rfl kr ⟨.inr (h0.cell 2 rfl rfl), .inr (h0.cell 2 rfl rfl), trivial⟩ ?_
 have q2 := h0.drew
 refine wU [0, 3] ?_
 refine wS (I x.lo) rfl rfl rfl (fun w hF => Y_load rfl (Try.isAgg3 w) kr (hF 0 _ _ rfl)) ?_
 refine wS (I x.hi) rfl rfl rfl (fun w hF => Y_load rfl (Try.isAgg3 w) kr (hF 1 _ _ rfl)) ?_
 refine wO rfl ?_
 refine sF #[I x.lo] Try.call102 (Calls.mono (r14_abs W _ _ [] x.lo (od) (Sat.flat q2)) ?_)
 rintro _ _ ⟨rfl, r0⟩
 refine ⟨_, rfl, ?_⟩
 have i0 := Sat.unflat r0; clear r0
 try dsimp only [List.set, List.eraseIdx, Value.cells] at i0
 refine nilO ⟨⟨dI, .inr (i0.cell 2 rfl rfl), trivial⟩, ?_⟩
 refine wO rfl ?_
 refine sF #[I x.hi] Try.call102 (Calls.mono (r14_abs W _ _ [] x.hi (od) (Sat.flat i0)) ?_)
 rintro _ _ ⟨rfl, s0⟩
 refine ⟨_, rfl, ?_⟩
 have t0 := Sat.unflat s0; clear s0
 try dsimp only [List.set, List.eraseIdx, Value.cells] at t0
 refine nilO ⟨dA, ?_⟩
 refine wS (I (max ((x.lo.natAbs : Nat) : Int) ((x.hi.natAbs : Nat) : Int))) rfl rfl rfl (fun w _ => Y_max2 ((x.lo.natAbs : Nat) : Int) ((x.hi.natAbs : Nat) : Int) rfl rfl kr kr) ?_
 refine wU [7] ?_
 refine wN ?_
 refine thenK_n <| sR <| pu1 ?_
 refine sAlloc t0 Try.zeroValue142 ?_
 intro c0 _ r2
 refine sTw r2 0 [I 0, I 0] Try.sizeOf142 ?_
 intro _ a0
 try dsimp only [List.set, List.eraseIdx, Value.cells] at a0
 refine pu1 <| nT ?_
 refine cutE (fun ρ w => ∃ (vlo : Int) (vhi : Int) (vb : Bool), AllAt ρ [(5, Pt o0 0), (6, Pt f0 0), (7, Pt p0 0), (10, Pt q0 0), (13, Pt c0 0), (14, .bool vb)] ∧ Sat W w ([(c0, .cells #[I vlo, I vhi] 142 (0, 0))] :: [(q0, .cells #[I 0, I 0] 142 (0, 0))] :: [(p0, .cells #[I y.lo, I y.hi] 142 (0, 0))] :: [(f0, .cells #[I x.lo, I x.hi] 142 (0, 0))] :: [(o0, .cells #[I o.code, I o.arg] 66 (0, 0))] :: H :: F) ∧ (nextV o x y a b = ⟨vlo, vhi⟩) ∧ (nextB o x y = vb)) ?_ ?_
 rotate_left
 ·rintro ρ _ ⟨vlo, vhi, vb, hA, d0, hv, hvb⟩
  refine cAnchor hA (fun ρ => ?_)
  clear hA
  refine seqE ?_
  rcases Classical.em (vb = true) with j0 | j0
  rotate_left
  ·refine drawE [5, 10, 12] [(0, ⟨c0, 0, none⟩, I vlo), (0, ⟨c0, 1, none⟩, I vhi)] [(true, [1, 2]), (true, [3]), (true, [0]), (true, [4]), (false, [5]), (true, [6, 7, 8, 9]), (false, [10]), (true, [11]), (false, [12]), (true, [13])] rfl kr ⟨.inr (d0.cell 0 rfl rfl), .inr (d0.cell 0 rfl rfl), trivial⟩ ?_
   have e0 := d0.drew
   refine wU [1, 2] ?_
   refine wFix 138 _ false (Bool.eq_false_iff.2 j0) ?_
   refine wU [3] ?_
   refine wS (.agg #[I vlo, I vhi]) rfl rfl rfl (fun w hF => Y_loadF rfl (Try.isAgg142 w) (Try.sizeOf142 w) kr rfl ⟨hF 0 _ _ rfl, hF 1 _ _ rfl, trivial⟩) ?_
   refine wU [4] ?_
   refine wO rfl ?_
   refine pu1 ?_
   refine nilO ⟨⟨.inr (e0.cell 0 rfl rfl), .inr (e0.cell 0 rfl rfl), trivial⟩, ?_⟩
   refine wU [6, 7, 8, 9] ?_
   refine wO rfl ?_
   refine pu1 ?_
   refine nilO ⟨⟨.inr (e0.cell 0 rfl rfl), .inr (e0.cell 0 rfl rfl), trivial⟩, ?_⟩
   refine wU [11] ?_
   refine wO rfl ?_
   refine sTw e0 1 [I vlo, I vhi] Try.sizeOf142 ?_
   intro _ k0
   try dsimp only [List.set, List.eraseIdx, Value.cells] at k0
   refine nilO ⟨dA, ?_⟩
   refine wU [13] ?_
   refine wN ?_
   refine thenK_n <| retE <| retN (vs := [.agg #[I vlo, I vhi], .bool false]) rfl (.cons (.cell _ _ _ _ kr (lvA k0 1 0 [I vlo, I vhi] (Try.isAgg142 _) (Try.sizeOf142 _) rfl rfl rfl)) (.cons (.tmp _ _ kr) .nil)) ?_
   have u0 := ((((((k0.pick 5 rfl).dropAt 1 rfl).dropAt 1 rfl).dropAt 1 rfl).dropAt 1 rfl).dropAt 1 rfl)
   change Sat _ _ (H :: F) at u0
   have hiff : nextOK o x y a b ↔ (vb = true ∧ (-17592186044416 ≤ vlo ∧ vlo ≤ 17592186044416) ∧ -17592186044416 ≤ vhi ∧ vhi ≤ 17592186044416) := by unfold nextOK; rw [hv, hvb]
   have hOK : decide (nextOK o x y a b) = false := decide_eq_false (fun h => by obtain ⟨h3, h4, h5⟩ := hiff.1 h; first | contradiction | omega)
   exact ⟨by rw [hOK, hv]; rfl, u0⟩
  refine drawE [5, 9, 10, 12] [(0, ⟨c0, 0, none⟩, I vlo), (0, ⟨c0, 1, none⟩, I vhi), (4, ⟨c0, 0, none⟩, I vlo)] [(true, [1, 2]), (true, [3]), (true, [0]), (true, [4]), (false, [5]), (true, [6, 7]), (true, [8]), (false, [9]), (false, [10]), (true, [11]), (false, [12]), (true, [13])] rfl kr ⟨.inr (d0.cell 0 rfl rfl), .inr (d0.cell 0 rfl rfl), .inr (d0.cell 0 rfl rfl), trivial⟩ ?_
  have s2 := d0.drew
  refine wU [1, 2] ?_
  refine wFix 138 _ true j0 ?_
  refine wU [3] ?_
  refine wS (.agg #[I vlo, I vhi]) rfl rfl rfl (fun w hF => Y_loadF rfl (Try.isAgg142 w) (Try.sizeOf142 w) kr rfl ⟨hF 0 _ _ rfl, hF 1 _ _ rfl, trivial⟩) ?_
  refine wSg (I vlo) rfl rfl rfl ⟨_, rfl, rfl, kr⟩ (fun w hF => Y_load rfl (Try.isAgg3 w) kr (hF 2 _ _ rfl)) ?_
  refine wO rfl ?_
  refine gY ?_
  refine sF #[I vlo] Try.call96 (Calls.mono (r7_acc W _ _ [] vlo (Sat.flat s2)) ?_)
  rintro _ _ ⟨rfl, v0⟩
  refine ⟨_, rfl, ?_⟩
  have b0 := Sat.unflat v0; clear v0
  try dsimp only [List.set, List.eraseIdx, Value.cells] at b0
  refine nilO ⟨⟨.inr (b0.cell 0 rfl rfl), .inr (b0.cell 0 rfl rfl), dI, trivial⟩, ?_⟩
  refine wU [6, 7] ?_
  rcases Classical.em ((-17592186044416 : Int) ≤ vlo ∧ vlo ≤ (17592186044416 : Int)) with l0 | l0
  rotate_left
  ·refine wFix 143 _ false (decide_eq_false l0) ?_
   refine wU [8] ?_
   refine wO rfl ?_
   refine pu1 ?_
   refine nilO ⟨⟨.inr (b0.cell 0 rfl rfl), .inr (b0.cell 0 rfl rfl), dI, trivial⟩, ?_⟩
   refine wO rfl ?_
   refine pu1 ?_
   refine nilO ⟨⟨.inr (b0.cell 0 rfl rfl), .inr (b0.cell 0 rfl rfl), dI, trivial⟩, ?_⟩
   refine wU [11] ?_
   refine wO rfl ?_
   refine sTw b0 1 [I vlo, I vhi] Try.sizeOf142 ?_
   intro _ m0
   try dsimp only [List.set, List.eraseIdx, Value.cells] at m0
   refine nilO ⟨dA, ?_⟩
   refine wU [13] ?_
   refine wN ?_
   refine thenK_n <| retE <| retN (vs := [.agg #[I vlo, I vhi], .bool false]) rfl (.cons (.cell _ _ _ _ kr (lvA m0 1 0 [I vlo, I vhi] (Try.isAgg142 _) (Try.sizeOf142 _) rfl rfl rfl)) (.cons (.tmp _ _ kr) .nil)) ?_
   have w0 := ((((((m0.pick 5 rfl).dropAt 1 rfl).dropAt 1 rfl).dropAt 1 rfl).dropAt 1 rfl).dropAt 1 rfl)
   change Sat _ _ (H :: F) at w0
   have hiff : nextOK o x y a b ↔ (vb = true ∧ (-17592186044416 ≤ vlo ∧ vlo ≤ 17592186044416) ∧ -17592186044416 ≤ vhi ∧ vhi ≤ 17592186044416) := by unfold nextOK; rw [hv, hvb]
   have hOK : decide (nextOK o x y a b) = false := decide_eq_false (fun h => by obtain ⟨h3, h4, h5⟩ := hiff.1 h; first | contradiction | omega)
   exact ⟨by rw [hOK, hv]; rfl, w0⟩
  refine wFix 143 _ true (decide_eq_true l0) ?_
  refine wU [8] ?_
  refine wO rfl ?_
  refine gY ?_
  refine sL b0 0 1 (I vhi) (Try.isAgg3 _) ?_
  refine nilO ⟨⟨.inr (b0.cell 0 rfl rfl), .inr (b0.cell 0 rfl rfl), dI, trivial⟩, ?_⟩
  refine wO rfl ?_
  refine gY ?_
  refine sF #[I vhi] Try.call96 (Calls.mono (r7_acc W _ _ [] vhi (Sat.flat b0)) ?_)
  rintro _ _ ⟨rfl, x0⟩
  refine ⟨_, rfl, ?_⟩
  have g0 := Sat.unflat x0; clear x0
  try dsimp only [List.set, List.eraseIdx, Value.cells] at g0
  refine nilO ⟨⟨.inr (g0.cell 0 rfl rfl), .inr (g0.cell 0 rfl rfl), dI, trivial⟩, ?_⟩
  refine wU [11] ?_
  refine wO rfl ?_
  refine sTw g0 1 [I vlo, I vhi] Try.sizeOf142 ?_
  intro _ n0
  try dsimp only [List.set, List.eraseIdx, Value.cells] at n0
  refine nilO ⟨dA, ?_⟩
  refine wU [13] ?_
  refine wN ?_
  refine thenK_n <| retE <| retN (vs := [.agg #[I vlo, I vhi], .bool (decide ((-17592186044416 : Int) ≤ vhi ∧ vhi ≤ (17592186044416 : Int)))]) rfl (.cons (.cell _ _ _ _ kr (lvA n0 1 0 [I vlo, I vhi] (Try.isAgg142 _) (Try.sizeOf142 _) rfl rfl rfl)) (.cons (.tmp _ _ kr) .nil)) ?_
  have y0 := ((((((n0.pick 5 rfl).dropAt 1 rfl).dropAt 1 rfl).dropAt 1 rfl).dropAt 1 rfl).dropAt 1 rfl)
  change Sat _ _ (H :: F) at y0
  have hiff : nextOK o x y a b ↔ (vb = true ∧ (-17592186044416 ≤ vlo ∧ vlo ≤ 17592186044416) ∧ -17592186044416 ≤ vhi ∧ vhi ≤ 17592186044416) := by unfold nextOK; rw [hv, hvb]
  have hOK : decide (nextOK o x y a b) = decide ((-17592186044416 : Int) ≤ vhi ∧ vhi ≤ (17592186044416 : Int)) := decide_eq_decide.2 (hiff.trans ⟨fun h => h.2.2, fun h => ⟨by assumption, om, h⟩⟩)
  exact ⟨by rw [hOK, hv]; rfl, y0⟩
 refine sR <| pu1 ?_
 refine sL a0 4 0 (I o.code) (Try.isAgg3 _) ?_
 refine nT <| blockE <| sR <| pu2 <| nT ?_
 by_cases z0 : (o.code : Int) = 0
 ·refine cT _ (beq_iff_eq.2 z0) ?_
  refine regionE <| pu2 ?_
  refine sTw a0 0 [I 0, I a] Try.sizeOf142 ?_
  intro _ a1
  try dsimp only [List.set, List.eraseIdx, Value.cells] at a1
  refine nB ?_
  have b1 := ((((((a1.pick 5 rfl).pick 5 rfl).pick 5 rfl).pick 5 rfl).pick 5 rfl).pick 5 rfl)
  try dsimp only [List.set, List.eraseIdx, Value.cells] at b1
  exact ⟨0, a, true, alA, b1, (by unfold nextV; rw [if_pos om] <;> rfl), (by unfold nextB; rw [if_neg om])⟩
 refine cF _ (beq_eq_false_iff_ne.2 z0) ?_
 refine sR <| pu2 <| nT ?_
 by_cases c1 : (o.code : Int) = 1
 ·refine cT _ (beq_iff_eq.2 c1) ?_
  refine regionE <| pu2 ?_
  refine sTw a0 0 [I 0, I b] Try.sizeOf142 ?_
  intro _ d1
  try dsimp only [List.set, List.eraseIdx, Value.cells] at d1
  refine nB ?_
  have e1 := ((((((d1.pick 5 rfl).pick 5 rfl).pick 5 rfl).pick 5 rfl).pick 5 rfl).pick 5 rfl)
  try dsimp only [List.set, List.eraseIdx, Value.cells] at e1
  exact ⟨0, b, true, alA, e1, (by unfold nextV; rw [if_neg om, if_pos om] <;> rfl), (by unfold nextB; rw [if_neg om])⟩
 refine cF _ (beq_eq_false_iff_ne.2 c1) ?_
 refine sR <| pu2 <| nT ?_
 by_cases f1 : (o.code : Int) = 2
 ·refine cT _ (beq_iff_eq.2 f1) ?_
  refine regionE <| pu1 ?_
  refine sL a0 4 1 (I o.arg) (Try.isAgg3 _) ?_
  refine pu1 ?_
  refine sL a0 4 1 (I o.arg) (Try.isAgg3 _) ?_
  refine pu1 ?_
  refine sTw a0 0 [I o.arg, I o.arg] Try.sizeOf142 ?_
  intro _ g1
  try dsimp only [List.set, List.eraseIdx, Value.cells] at g1
  refine nB ?_
  have h1 := ((((((g1.pick 5 rfl).pick 5 rfl).pick 5 rfl).pick 5 rfl).pick 5 rfl).pick 5 rfl)
  try dsimp only [List.set, List.eraseIdx, Value.cells] at h1
  exact ⟨o.arg, o.arg, true, alA, h1, (by unfold nextV; rw [if_neg om, if_neg om, if_pos om] <;> rfl), (by unfold nextB; rw [if_neg om])⟩
 refine cF _ (beq_eq_false_iff_ne.2 f1) ?_
 refine sR <| pu2 <| nT ?_
 by_cases i1 : (o.code : Int) = 3
 ·refine cT _ (beq_iff_eq.2 i1) ?_
  refine regionE <| pu1 ?_
  refine sL a0 3 0 (I x.lo) (Try.isAgg3 _) ?_
  refine pu1 ?_
  refine sL a0 2 0 (I y.lo) (Try.isAgg3 _) ?_
  refine sAdd x.lo y.lo ?_
  refine pu1 ?_
  refine sL a0 3 1 (I x.hi) (Try.isAgg3 _) ?_
  refine pu1 ?_
  refine sL a0 2 1 (I y.hi) (Try.isAgg3 _) ?_
  refine sAdd x.hi y.hi ?_
  refine pu1 ?_
  refine sTw a0 0 [I (x.lo + y.lo), I (x.hi + y.hi)] Try.sizeOf142 ?_
  intro _ j1
  try dsimp only [List.set, List.eraseIdx, Value.cells] at j1
  refine nB ?_
  have k1 := ((((((j1.pick 5 rfl).pick 5 rfl).pick 5 rfl).pick 5 rfl).pick 5 rfl).pick 5 rfl)
  try dsimp only [List.set, List.eraseIdx, Value.cells] at k1
  exact ⟨(x.lo + y.lo), (x.hi + y.hi), true, alA, k1, (by unfold nextV; rw [if_neg om, if_neg om, if_neg om, if_pos om] <;> rfl), (by unfold nextB; rw [if_neg om])⟩
 refine cF _ (beq_eq_false_iff_ne.2 i1) ?_
 refine sR <| pu2 <| nT ?_
 by_cases l1 : (o.code : Int) = 4
 ·refine cT _ (beq_iff_eq.2 l1) ?_
  refine regionE <| pu1 ?_
  refine sL a0 3 0 (I x.lo) (Try.isAgg3 _) ?_
  refine pu1 ?_
  refine sL a0 2 1 (I y.hi) (Try.isAgg3 _) ?_
  refine sSub x.lo y.hi ?_
  refine pu1 ?_
  refine sL a0 3 1 (I x.hi) (Try.isAgg3 _) ?_
  refine pu1 ?_
  refine sL a0 2 0 (I y.lo) (Try.isAgg3 _) ?_
  refine sSub x.hi y.lo ?_
  refine pu1 ?_
  refine sTw a0 0 [I (x.lo - y.hi), I (x.hi - y.lo)] Try.sizeOf142 ?_
  intro _ m1
  try dsimp only [List.set, List.eraseIdx, Value.cells] at m1
  refine nB ?_
  have n1 := ((((((m1.pick 5 rfl).pick 5 rfl).pick 5 rfl).pick 5 rfl).pick 5 rfl).pick 5 rfl)
  try dsimp only [List.set, List.eraseIdx, Value.cells] at n1
  exact ⟨(x.lo - y.hi), (x.hi - y.lo), true, alA, n1, (by unfold nextV; rw [if_neg om, if_neg om, if_neg om, if_neg om, if_pos om] <;> rfl), (by unfold nextB; rw [if_neg om])⟩
 refine cF _ (beq_eq_false_iff_ne.2 l1) ?_
 refine sR <| pu2 <| nT ?_
 by_cases o1 : (o.code : Int) = 5
 ·refine cT _ (beq_iff_eq.2 o1) ?_
  refine regionE ?_
  refine sLA a0 3 0 [I x.lo, I x.hi] (Try.isAgg142 _) (Try.sizeOf142 _) ?_
  refine sLA a0 2 0 [I y.lo, I y.hi] (Try.isAgg142 _) (Try.sizeOf142 _) ?_
  refine sF #[.agg #[I x.lo, I x.hi], .agg #[I y.lo, I y.hi]] Try.call103 (Calls.mono (r14_product W _ _ [] x y (by unfold accS; first | assumption | omega) (by unfold accS; first | assumption | omega) (Sat.flat a0)) ?_)
  rintro _ _ ⟨rfl, p1⟩
  refine ⟨_, rfl, ?_⟩
  have q1 := Sat.unflat p1; clear p1
  try dsimp only [List.set, List.eraseIdx, Value.cells] at q1
  refine pu3 ?_
  refine sTw q1 0 [I (prodLo x y), I (prodHi x y)] Try.sizeOf142 ?_
  intro _ r1
  try dsimp only [List.set, List.eraseIdx, Value.cells] at r1
  refine pu1 <| nB ?_
  have s1 := ((((((r1.pick 5 rfl).pick 5 rfl).pick 5 rfl).pick 5 rfl).pick 5 rfl).pick 5 rfl)
  try dsimp only [List.set, List.eraseIdx, Value.cells] at s1
  exact ⟨(prodLo x y), (prodHi x y), (prodOK x y), alA, s1, (by unfold nextV; rw [if_neg om, if_neg om, if_neg om, if_neg om, if_neg om, if_pos om] <;> rfl), (by unfold nextB; rw [if_pos om])⟩
 refine cF _ (beq_eq_false_iff_ne.2 o1) ?_
 refine sR <| pu2 <| nT ?_
 by_cases t1 : (o.code : Int) = 6
 ·refine cT _ (beq_iff_eq.2 t1) ?_
  refine regionE <| pu1 ?_
  refine sL a0 3 0 (I x.lo) (Try.isAgg3 _) ?_
  refine pu1 ?_
  refine sL a0 2 0 (I y.lo) (Try.isAgg3 _) ?_
  refine stepY (I (min x.lo y.lo)) rfl rfl (Y_min2 x.lo y.lo rfl rfl kr kr) ?_
  refine pu1 ?_
  refine sL a0 3 1 (I x.hi) (Try.isAgg3 _) ?_
  refine pu1 ?_
  refine sL a0 2 1 (I y.hi) (Try.isAgg3 _) ?_
  refine stepY (I (min x.hi y.hi)) rfl rfl (Y_min2 x.hi y.hi rfl rfl kr kr) ?_
  refine pu1 ?_
  refine sTw a0 0 [I (min x.lo y.lo), I (min x.hi y.hi)] Try.sizeOf142 ?_
  intro _ u1
  try dsimp only [List.set, List.eraseIdx, Value.cells] at u1
  refine nB ?_
  have v1 := ((((((u1.pick 5 rfl).pick 5 rfl).pick 5 rfl).pick 5 rfl).pick 5 rfl).pick 5 rfl)
  try dsimp only [List.set, List.eraseIdx, Value.cells] at v1
  exact ⟨(min x.lo y.lo), (min x.hi y.hi), true, alA, v1, (by unfold nextV; rw [if_neg om, if_neg om, if_neg om, if_neg om, if_neg om, if_neg om, if_pos om] <;> rfl), (by unfold nextB; rw [if_neg om])⟩
 refine cF _ (beq_eq_false_iff_ne.2 t1) ?_
 refine sR <| pu2 <| nT ?_
 by_cases w1 : (o.code : Int) = 7
 ·refine cT _ (beq_iff_eq.2 w1) ?_
  refine regionE <| pu1 ?_
  refine sL a0 3 0 (I x.lo) (Try.isAgg3 _) ?_
  refine pu1 ?_
  refine sL a0 2 0 (I y.lo) (Try.isAgg3 _) ?_
  refine stepY (I (max x.lo y.lo)) rfl rfl (Y_max2 x.lo y.lo rfl rfl kr kr) ?_
  refine pu1 ?_
  refine sL a0 3 1 (I x.hi) (Try.isAgg3 _) ?_
  refine pu1 ?_
  refine sL a0 2 1 (I y.hi) (Try.isAgg3 _) ?_
  refine stepY (I (max x.hi y.hi)) rfl rfl (Y_max2 x.hi y.hi rfl rfl kr kr) ?_
  refine pu1 ?_
  refine sTw a0 0 [I (max x.lo y.lo), I (max x.hi y.hi)] Try.sizeOf142 ?_
  intro _ x1
  try dsimp only [List.set, List.eraseIdx, Value.cells] at x1
  refine nB ?_
  have y1 := ((((((x1.pick 5 rfl).pick 5 rfl).pick 5 rfl).pick 5 rfl).pick 5 rfl).pick 5 rfl)
  try dsimp only [List.set, List.eraseIdx, Value.cells] at y1
  exact ⟨(max x.lo y.lo), (max x.hi y.hi), true, alA, y1, (by unfold nextV; rw [if_neg om, if_neg om, if_neg om, if_neg om, if_neg om, if_neg om, if_neg om, if_pos om] <;> rfl), (by unfold nextB; rw [if_neg om])⟩
 refine cF _ (beq_eq_false_iff_ne.2 w1) ?_
 refine sR <| pu2 <| nT ?_
 by_cases z1 : (o.code : Int) = 8
 ·refine cT _ (beq_iff_eq.2 z1) ?_
  refine regionE <| pu1 ?_
  refine sL a0 3 1 (I x.hi) (Try.isAgg3 _) ?_
  refine pu1 ?_
  refine sL a0 2 0 (I y.lo) (Try.isAgg3 _) ?_
  refine sSub x.hi y.lo ?_
  refine pu1 ?_
  refine sL a0 2 1 (I y.hi) (Try.isAgg3 _) ?_
  refine pu1 ?_
  refine sL a0 3 0 (I x.lo) (Try.isAgg3 _) ?_
  refine sSub y.hi x.lo ?_
  refine stepY (I (max (x.hi - y.lo) (y.hi - x.lo))) rfl rfl (Y_max2 (x.hi - y.lo) (y.hi - x.lo) rfl rfl kr kr) ?_
  refine pu1 ?_
  refine sTw a0 0 [I 0, I (max (x.hi - y.lo) (y.hi - x.lo))] Try.sizeOf142 ?_
  intro _ a2
  try dsimp only [List.set, List.eraseIdx, Value.cells] at a2
  refine nB ?_
  have b2 := ((((((a2.pick 5 rfl).pick 5 rfl).pick 5 rfl).pick 5 rfl).pick 5 rfl).pick 5 rfl)
  try dsimp only [List.set, List.eraseIdx, Value.cells] at b2
  exact ⟨0, (max (x.hi - y.lo) (y.hi - x.lo)), true, alA, b2, (by unfold nextV; rw [if_neg om, if_neg om, if_neg om, if_neg om, if_neg om, if_neg om, if_neg om, if_neg om, if_pos om] <;> rfl), (by unfold nextB; rw [if_neg om])⟩
 refine cF _ (beq_eq_false_iff_ne.2 z1) ?_
 refine sR <| pu2 <| nT ?_
 by_cases c2 : (o.code : Int) = 9
 ·refine cT _ (beq_iff_eq.2 c2) ?_
  refine regionE <| pu1 ?_
  refine stepY (I (-(max ((x.lo.natAbs : Nat) : Int) ((x.hi.natAbs : Nat) : Int)))) rfl rfl (Y_neg (max ((x.lo.natAbs : Nat) : Int) ((x.hi.natAbs : Nat) : Int)) rfl kr) ?_
  refine pu2 ?_
  refine sTw a0 0 [I (-(max ((x.lo.natAbs : Nat) : Int) ((x.hi.natAbs : Nat) : Int))), I (max ((x.lo.natAbs : Nat) : Int) ((x.hi.natAbs : Nat) : Int))] Try.sizeOf142 ?_
  intro _ d2
  try dsimp only [List.set, List.eraseIdx, Value.cells] at d2
  refine nB ?_
  have e2 := ((((((d2.pick 5 rfl).pick 5 rfl).pick 5 rfl).pick 5 rfl).pick 5 rfl).pick 5 rfl)
  try dsimp only [List.set, List.eraseIdx, Value.cells] at e2
  exact ⟨(-(max ((x.lo.natAbs : Nat) : Int) ((x.hi.natAbs : Nat) : Int))), (max ((x.lo.natAbs : Nat) : Int) ((x.hi.natAbs : Nat) : Int)), true, alA, e2, (by unfold nextV; rw [if_neg om, if_neg om, if_neg om, if_neg om, if_neg om, if_neg om, if_neg om, if_neg om, if_neg om, if_pos om] <;> rfl), (by unfold nextB; rw [if_neg om])⟩
 refine cF _ (beq_eq_false_iff_ne.2 c2) ?_
 refine sR <| pu2 <| nT ?_
 by_cases f2 : (o.code : Int) = 10
 rotate_left
 ·refine cF _ (beq_eq_false_iff_ne.2 f2) ?_
  refine regionE <| pu2 ?_
  refine sTw a0 0 [I 0, I (max ((x.lo.natAbs : Nat) : Int) ((x.hi.natAbs : Nat) : Int))] Try.sizeOf142 ?_
  intro _ g2
  try dsimp only [List.set, List.eraseIdx, Value.cells] at g2
  refine nB ?_
  have h2 := ((((((g2.pick 5 rfl).pick 5 rfl).pick 5 rfl).pick 5 rfl).pick 5 rfl).pick 5 rfl)
  try dsimp only [List.set, List.eraseIdx, Value.cells] at h2
  exact ⟨0, (max ((x.lo.natAbs : Nat) : Int) ((x.hi.natAbs : Nat) : Int)), true, alA, h2, (by unfold nextV; rw [if_neg om, if_neg om, if_neg om, if_neg om, if_neg om, if_neg om, if_neg om, if_neg om, if_neg om, if_neg om, if_neg om] <;> rfl), (by unfold nextB; rw [if_neg om])⟩
 refine cT _ (beq_iff_eq.2 f2) ?_
 refine regionE <| pu1 ?_
 refine sL a0 3 0 (I x.lo) (Try.isAgg3 _) ?_
 refine pu1 ?_
 refine sL a0 3 1 (I x.hi) (Try.isAgg3 _) ?_
 refine pu1 ?_
 refine sL a0 4 1 (I o.arg) (Try.isAgg3 _) ?_
 refine sF #[I x.lo, I x.hi, I o.arg] Try.call89 (Calls.mono (r7_span W _ _ [] x.lo x.hi o.arg (Sat.flat a0)) ?_)
 rintro _ _ ⟨rfl, i2⟩
 refine ⟨_, rfl, ?_⟩
 have j2 := Sat.unflat i2; clear i2
 try dsimp only [List.set, List.eraseIdx, Value.cells] at j2
 refine pu4 ?_
 refine sT1 j2 0 0 (I (shiftV x.lo o.arg)) #[I (shiftV x.lo o.arg), I 0] Try.sizeOf3 ?_
 intro _ k2
 try dsimp only [List.set, List.eraseIdx, Value.cells] at k2
 refine pu1 ?_
 refine sT1 k2 0 1 (I (shiftV x.hi o.arg)) #[I (shiftV x.lo o.arg), I (shiftV x.hi o.arg)] Try.sizeOf3 ?_
 intro _ l2
 try dsimp only [List.set, List.eraseIdx, Value.cells] at l2
 refine nB ?_
 have m2 := ((((((l2.pick 5 rfl).pick 5 rfl).pick 5 rfl).pick 5 rfl).pick 5 rfl).pick 5 rfl)
 try dsimp only [List.set, List.eraseIdx, Value.cells] at m2
 exact ⟨(shiftV x.lo o.arg), (shiftV x.hi o.arg), true, alA, m2, (by unfold nextV; rw [if_neg om, if_neg om, if_neg om, if_neg om, if_neg om, if_neg om, if_neg om, if_neg om, if_neg om, if_neg om, if_pos om] <;> rfl), (by unfold nextB; rw [if_neg om])⟩

theorem opsGo_zero {two : Bool} {o : POp} {l : List POp} {h : Int} (e : opsGo two (o :: l) h = 0) : ¬ opBad two o h ∧ argP o ∧ opsGo two l (h + (1 - takesV o.code)) = 0 := by
  unfold opsGo at e
  split at e
  · omega
  · split at e
    · exact ⟨by assumption, by assumption, e⟩
    · omega
theorem opsCode_go {l : List POp} {two : Bool} (h : opsCode l two = 0) : opsGo two l 0 = 0 ∧ 0 < l.length ∧ l.length ≤ 32 := by
  unfold opsCode at h
  split at h
  · omega
  · exact ⟨h, by omega, by omega⟩
def ivY (o : POp) (st : List Sp) : Sp := if takesV o.code = 2 then st[st.length - 1]?.getD (⟨0, 0⟩ : Sp) else ⟨0, 0⟩
def ivX (o : POp) (st : List Sp) : Sp := if 0 < takesV o.code then st[st.length - (takesV o.code).toNat]?.getD (⟨0, 0⟩ : Sp) else ⟨0, 0⟩
def ivGo (a b : Int) : List POp → List Sp → Option (List Sp)
  | [], st => some st
  | o :: l, st => if nextOK o (ivX o st) (ivY o st) a b then ivGo a b l (st.take (st.length - (takesV o.code).toNat) ++ [nextV o (ivX o st) (ivY o st) a b]) else none
def ivRes (l : List POp) (a b : Int) : Int × Int × Int :=
  if opsCode l true = 0 then (if (1 ≤ a ∧ a ≤ 4294967296) ∧ 1 ≤ b ∧ b ≤ 4294967296 then (match ivGo a b l [] with | some st => ((st[0]?.getD (⟨0, 0⟩ : Sp)).lo, (st[0]?.getD (⟨0, 0⟩ : Sp)).hi, 0) | none => (0, 0, 11)) else (0, 0, 2)) else (0, 0, opsCode l true)
theorem ivGo_ok {a b : Int} {o : POp} {l : List POp} {st m : List Sp} {x y : Sp} (hy : ivY o st = y) (hx : ivX o st = x) (hok : nextOK o x y a b) (hm : m = st.take (st.length - (takesV o.code).toNat)) : ivGo a b (o :: l) st = ivGo a b l (m ++ [nextV o x y a b]) := by
  subst hy hx hm; rw [ivGo, if_pos hok]
theorem ivGo_bad {a b : Int} {o : POp} {l : List POp} {st : List Sp} {x y : Sp} (hy : ivY o st = y) (hx : ivX o st = x) (hok : ¬ nextOK o x y a b) : ivGo a b (o :: l) st = none := by
  subst hy hx; rw [ivGo, if_neg hok]
def pwCode (l : List POp) (two : Bool) (a b out : Int) : Int := if opsCode l two = 0 then (if 1 ≤ out ∧ out ≤ 4294967296 then (ivRes l a (if two = true then b else 1)).2.2 else 2) else opsCode l two
theorem r14_interval (W w : World) (H : Chunk) (F : List Chunk) (ax : Option Addr) (nx kx : Nat) (x : List POp) (a : Int) (b : Int) (hx : RdT encPOp 2 [H] ax nx kx x) (hS : Sat W w (H :: F)) :
  Calls Try.prog 93 #[.slice ax nx kx, I a, I b] w fun e w' => e = .returned (.tuple #[I ((ivRes x a b).1), I ((ivRes x a b).2.1), I ((ivRes x a b).2.2)]) ∧ Sat W w' (H :: F) := by
 have hl_x := hx.le; have hn_x := hx.len
 refine callsE (n := 92) Try.func93 rfl rfl (Nat.le_of_ble_eq_true rfl) ?_
 refine sR <| pu3 <| nT <| seqE <| sR <| pu1 ?_
 refine sF #[.slice ax nx kx, .bool true] Try.call92 (Calls.mono (r14_valid W _ _ [] ax nx kx x true (RdT.flat (hx.up 0 (by rfl))) (Sat.flat hS)) ?_)
 rintro _ _ ⟨rfl, y1⟩
 refine ⟨_, rfl, ?_⟩
 have e1 := Sat.unflat y1; clear y1
 change Sat _ _ (H :: F) at e1
 refine pu1 <| nT <| sR <| pu2 <| nT ?_
 by_cases z1 : ((opsCode x true) : Int) = 0
 rotate_left
 ·refine cT _ (bne_iff_ne.2 z1) ?_
  refine sR <| pu4 <| nT ?_
  refine retE (thenK_r <| ?_)
  refine retT [I 0, I 0, I (opsCode x true)] ?_
  change Sat _ _ (H :: F) at e1
  refine ⟨?_, e1⟩
  unfold ivRes
  (repeat' split) <;> first | rfl | (exfalso; omega) | contradiction | (exfalso; simp_all; done) | (simp_all; done)
 refine cF _ (bne_eq_false_iff_eq.2 z1) ?_
 refine kT <| seqE <| sR <| pu1 ?_
 refine sF #[I a] Try.call87 (Calls.mono (r9_value W _ _ [] a (Sat.flat e1)) ?_)
 rintro _ _ ⟨rfl, a2⟩
 refine ⟨_, rfl, ?_⟩
 have f1 := Sat.unflat a2; clear a2
 change Sat _ _ (H :: F) at f1
 refine pu2 ?_
 rcases Classical.em ((1 : Int) ≤ a ∧ a ≤ (4294967296 : Int)) with m1 | m1
 rotate_left
 ·refine sFix 25 _ true (congrArg Bool.not (decide_eq_false m1)) ?_
  refine pu4 <| nT <| cTt <| sR <| pu3 <| nT ?_
  refine retE (thenK_r <| ?_)
  refine retT [I 0, I 0, I 2] ?_
  change Sat _ _ (H :: F) at f1
  refine ⟨?_, f1⟩
  unfold ivRes
  (repeat' split) <;> first | rfl | (exfalso; omega) | contradiction | (exfalso; simp_all; done) | (simp_all; done)
 refine sFix 25 _ false (congrArg Bool.not (decide_eq_true m1)) ?_
 refine pu1 <| gY ?_
 refine sF #[I b] Try.call87 (Calls.mono (r9_value W _ _ [] b (Sat.flat f1)) ?_)
 rintro _ _ ⟨rfl, b2⟩
 refine ⟨_, rfl, ?_⟩
 have g1 := Sat.unflat b2; clear b2
 change Sat _ _ (H :: F) at g1
 refine pu2 <| nT ?_
 rcases Classical.em ((1 : Int) ≤ b ∧ b ≤ (4294967296 : Int)) with n1 | n1
 rotate_left
 ·refine cT _ (congrArg Bool.not (decide_eq_false n1)) ?_
  refine sR <| pu3 <| nT ?_
  refine retE (thenK_r <| ?_)
  refine retT [I 0, I 0, I 2] ?_
  change Sat _ _ (H :: F) at g1
  refine ⟨?_, g1⟩
  unfold ivRes
  (repeat' split) <;> first | rfl | (exfalso; omega) | contradiction | (exfalso; simp_all; done) | (simp_all; done)
 refine cF _ (congrArg Bool.not (decide_eq_true n1)) ?_
 refine kT <| sR <| pu1 <| nT <| seqE <| seqE ?_
 obtain ⟨hx0, hx1, hx32⟩ := opsCode_go (l := x) (two := true) om
 refine regionE <| pu1 <| nT <| blockE ?_
 have c2 := Sat.nilc g1
 have g4 := OwnT.nil (enc := encSp) (E := 142) (sz := 2) fR
 change Sat _ _ ([] :: H :: F) at c2
 refine loopE (γ := Nat × (List Sp) × (Option Addr) × Nat × Nat × Chunk) (fun ⟨i, zs, azs, nzs, kzs, czs⟩ ρ w => AllAt ρ [(0, .slice ax nx kx), (1, I a), (2, I b), (17, .slice ax nx kx), (18, I (opsCode x true)), (9, I (opsCode x true)), (19, I (opsCode x true)), (20, .bool (((opsCode x true) : Int) != 0)), (22, I a), (23, .bool (decide ((1 : Int) ≤ a ∧ a ≤ (4294967296 : Int)))), (24, .bool (!decide ((1 : Int) ≤ a ∧ a ≤ (4294967296 : Int)))), (25, .bool false), (26, I b), (27, .bool (decide ((1 : Int) ≤ b ∧ b ≤ (4294967296 : Int)))), (28, .bool (!decide ((1 : Int) ≤ b ∧ b ≤ (4294967296 : Int)))), (29, .bool (!decide ((1 : Int) ≤ b ∧ b ≤ (4294967296 : Int)))), (11, I ((i : Nat) : Int)), (10, .slice azs nzs kzs)] ∧ Sat W w (czs :: H :: F) ∧ i ≤ nx ∧ (ivGo a b x [] = ivGo a b (x.drop i) zs) ∧ (opsGo true (x.drop i) (zs.length : Int) = 0) ∧ (∀ z ∈ zs, accS z) ∧ (zs.length ≤ i) ∧ OwnT encSp 142 2 azs nzs kzs zs czs) (fun ⟨i, zs, azs, nzs, kzs, czs⟩ => nx - i) (0, [], none, 0, 0, []) ⟨alA, c2, om, by rfl, (opsCode_go (l := x) (two := true) om).1, (by intro z hz; cases hz), by simp, g4⟩ ?_
 skip
 rintro ⟨i, zs, azs, nzs, kzs, czs⟩ ρ _ ⟨hA, o0, hi, hG, hH, hAc, hzl, hOzs⟩
 refine cAnchor hA (fun ρ => ?_)
 clear hA
 have hn_zs := hOzs.len; have hl_zs := hOzs.le
 refine seqE <| sR <| pu4 <| nT ?_
 by_cases d2 : (((i : Nat) : Int) : Int) < ((nx : Nat) : Int)
 rotate_left
 ·refine cF _ (decide_eq_false d2) ?_
  refine exitE (xB <| ?_)
  refine thenK_n <| seqE ?_
  have hh : opsGo true (x.drop i) zs.length = 0 := hH
  rw [List.drop_of_length_le om] at hh; have hz1 : zs.length = 1 := by unfold opsGo at hh; split at hh <;> omega
  obtain ⟨g0, h1, i1, o1, p1, q1, m6⟩ := OwnT.elem hOzs 0
  change _[0]? = _ at o1; change PtR _ _ (_ + 0 * _) _ at p1; change ElemAt _ _ _ _ _ (_ + 0 * _) at q1
  have hacc_x_217 : accS g0 := hAc g0 (List.mem_of_getElem? o1)
  refine drawE [] [(3, ⟨h1, i1 + 0 * 2 + 0, none⟩, I g0.lo), (7, ⟨h1, i1 + 0 * 2 + 1, none⟩, I g0.hi)] [(true, [0]), (true, [1]), (true, [2, 4]), (true, [5]), (true, [6]), (true, [3]), (true, [8]), (true, [7]), (true, [9, 10])] rfl kr ⟨.inr ((p1.up 0 rfl).cell o0 (k := 0) rfl), .inr ((p1.up 0 rfl).cell o0 (k := 1) rfl), trivial⟩ ?_
  have h4 := o0.drew
  refine wU [0] ?_
  refine wS (.pointer (some ⟨h1, i1 + 0 * 2, none⟩)) rfl rfl rfl (fun w _ => Y_idx (a := azs) (i := 0) (len := nzs) (cap := kzs) rfl Try.runUnderlying140 Try.sizeOf142 kr kr q1) ?_
  refine wU [2, 4] ?_
  refine wS (.pointer (some ⟨h1, i1 + 0 * 2, none⟩)) rfl rfl rfl (fun w _ => Y_idx (a := azs) (i := 0) (len := nzs) (cap := kzs) rfl Try.runUnderlying140 Try.sizeOf142 kr kr q1) ?_
  refine wU [6] ?_
  refine wS (I g0.lo) rfl rfl rfl (fun w hF => Y_load rfl (Try.isAgg3 w) kr (hF 0 _ _ rfl)) ?_
  refine wU [8] ?_
  refine wS (I g0.hi) rfl rfl rfl (fun w hF => Y_load rfl (Try.isAgg3 w) kr (hF 1 _ _ rfl)) ?_
  refine wU [9, 10] ?_
  refine wN ?_
  refine thenK_n <| retE <| retT [I g0.lo, I g0.hi, I 0] ?_
  have e2 := ((h4.pick 1 rfl).dropAt 1 rfl)
  change Sat _ _ (H :: F) at e2
  have hr0 : opsCode x true = 0 := by omega
  have hres : ivRes x a b = (match ivGo a b x [] with | some st => ((st[0]?.getD (⟨0, 0⟩ : Sp)).lo, (st[0]?.getD (⟨0, 0⟩ : Sp)).hi, 0) | none => (0, 0, 11)) := by unfold ivRes; rw [if_pos hr0, if_pos om]
  have hend : ivGo a b x [] = some zs := by rw [hG, List.drop_of_length_le om]; rfl
  have hz0 : zs[0]? = some g0 := o1
  exact ⟨by rw [hres, hend]; dsimp only; rw [hz0]; rfl, e2⟩
 refine cT _ (decide_eq_true d2) ?_
 refine kT <| seqE <| blockE <| sR <| pu2 ?_
 refine sIdx hx ((i : Nat) : Int) Try.runUnderlying59 Try.sizeOf66 ?_
 intro a0 _ _ e0 i4
 rw [Int.toNat_natCast] at e0
 obtain ⟨hob, hoa, hog⟩ := opsGo_zero (by rw [← drop_at e0]; exact hH)
 have htk_x_18 := takesV_bd a0.code; have hob2 : takesV a0.code ≤ zs.length := by unfold opBad at hob; omega
 refine pu1 ?_
 refine sLp o0 (i4.up 1 rfl) 0 (I a0.code) (Try.isAgg3 _) ?_
 refine sF #[I a0.code] Try.call99 (Calls.mono (r14_takes W _ _ [] a0.code (Sat.flat o0)) ?_)
 rintro _ _ ⟨rfl, f2⟩
 refine ⟨_, rfl, ?_⟩
 have g2 := Sat.unflat f2; clear f2
 change Sat _ _ (czs :: H :: F) at g2
 have q6 : 0 ≤ (takesV a0.code) ∧ (takesV a0.code) ≤ 2 := takesV_bd _
 refine pu1 <| nT <| sR <| pu2 ?_
 refine sAlloc g2 Try.zeroValue142 ?_
 intro m0 _ j4
 refine sAlloc j4 Try.zeroValue142 ?_
 intro n0 _ k4
 refine sTw k4 1 [I 0, I 0] Try.sizeOf142 ?_
 intro _ h2
 try dsimp only [List.set, List.eraseIdx, Value.cells] at h2
 refine sTw h2 0 [I 0, I 0] Try.sizeOf142 ?_
 intro _ f0
 try dsimp only [List.set, List.eraseIdx, Value.cells] at f0
 refine nT <| seqE <| sR <| pu2 <| nT ?_
 by_cases i2 : ((takesV a0.code) : Int) = 2
 ·refine cT _ (beq_iff_eq.2 i2) ?_
  refine regionE <| pu3 ?_
  refine sSub ((nzs : Nat) : Int) 1 ?_
  refine sIdxO hOzs (((nzs : Nat) : Int) - 1) ((((nzs : Nat) : Int) - 1)).toNat Try.runUnderlying140 Try.sizeOf142 ?_
  intro b0 _ _ p0 l4 _
  have hacc_x_38 : accS b0 := hAc b0 (List.mem_of_getElem? p0)
  refine sLpA f0 (l4.up 2 rfl) 0 [I b0.lo, I b0.hi] (Try.isAgg142 _) (Try.sizeOf142 _) ?_
  refine sTw f0 0 [I b0.lo, I b0.hi] Try.sizeOf142 ?_
  intro _ r1
  try dsimp only [List.set, List.eraseIdx, Value.cells] at r1
  refine nT <| seqE <| sR <| pu2 <| nT ?_
  have m4 : ((takesV a0.code) : Int) > 0 := by omega
  refine cT _ (decide_eq_true m4) ?_
  refine regionE <| pu4 ?_
  refine sSub ((nzs : Nat) : Int) (takesV a0.code) ?_
  refine sIdxO hOzs (((nzs : Nat) : Int) - (takesV a0.code)) ((((nzs : Nat) : Int) - (takesV a0.code))).toNat Try.runUnderlying140 Try.sizeOf142 ?_
  intro c0 _ _ q0 n4 _
  have hacc_x_47 : accS c0 := hAc c0 (List.mem_of_getElem? q0)
  refine sLpA r1 (n4.up 2 rfl) 0 [I c0.lo, I c0.hi] (Try.isAgg142 _) (Try.sizeOf142 _) ?_
  refine sTw r1 1 [I c0.lo, I c0.hi] Try.sizeOf142 ?_
  intro _ h0
  try dsimp only [List.set, List.eraseIdx, Value.cells] at h0
  refine nT <| seqE ?_
  obtain ⟨o4, s1, t1, j2, j1, p4⟩ := RdT.elem hx ((i : Nat) : Int)
  rw [Int.toNat_natCast] at j2
  obtain rfl : a0 = o4 := Option.some.inj (e0.symm.trans j2)
  refine drawP [8, 12, 13] [(3, ⟨s1, t1 + 0, none⟩, I a0.code), (3, ⟨s1, t1 + 1, none⟩, I a0.arg), (4, ⟨m0, 0, none⟩, I c0.lo), (4, ⟨m0, 1, none⟩, I c0.hi), (5, ⟨n0, 0, none⟩, I b0.lo), (5, ⟨n0, 1, none⟩, I b0.hi)] (Plan.sts [0, 1] <| Plan.sts [2] <| Plan.sts [6, 7] <| Plan.sts [3] <| Plan.sts [4] <| Plan.sts [5] <| .fk 8 12 (Plan.sts [9] <| Plan.sts [10] <| Plan.sts [11] <| .ef 12 <| .ef 13 <| Plan.sts [14] <| .fin) (.ef 8 <| Plan.sts [9] <| Plan.sts [10] <| Plan.sts [11] <| .ef 13 <| Plan.sts [14] <| .fin)) rfl kr ⟨.inr ((j1.up 3 rfl).cell h0 (k := 0) rfl), .inr ((j1.up 3 rfl).cell h0 (k := 1) rfl), .inr (h0.cell 1 rfl rfl), .inr (h0.cell 1 rfl rfl), .inr (h0.cell 0 rfl rfl), .inr (h0.cell 0 rfl rfl), trivial⟩ ?_
  have k2 := h0.drew
  refine qU [0, 1] ?_
  refine qS (.pointer (some ⟨s1, t1, none⟩)) rfl rfl rfl (fun w _ => Y_idx (a := ax) (i := ((i : Nat) : Int)) (len := nx) (cap := kx) rfl Try.runUnderlying59 Try.sizeOf66 kr kr p4) ?_
  refine qU [6, 7] ?_
  refine qS (.agg #[I a0.code, I a0.arg]) rfl rfl rfl (fun w hF => Y_loadF rfl (Try.isAgg66 w) (Try.sizeOf66 w) kr rfl ⟨hF 0 _ _ rfl, hF 1 _ _ rfl, trivial⟩) ?_
  refine qS (.agg #[I c0.lo, I c0.hi]) rfl rfl rfl (fun w hF => Y_loadF rfl (Try.isAgg142 w) (Try.sizeOf142 w) kr rfl ⟨hF 2 _ _ rfl, hF 3 _ _ rfl, trivial⟩) ?_
  refine qS (.agg #[I b0.lo, I b0.hi]) rfl rfl rfl (fun w hF => Y_loadF rfl (Try.isAgg142 w) (Try.sizeOf142 w) kr rfl ⟨hF 4 _ _ rfl, hF 5 _ _ rfl, trivial⟩) ?_
  refine qF ?_ ?_
  ·refine qO rfl ?_
   refine sF #[.agg #[I a0.code, I a0.arg], .agg #[I c0.lo, I c0.hi], .agg #[I b0.lo, I b0.hi], I a, I b] Try.call101 (Calls.mono (r14_next W _ _ [] a0 c0 b0 a b (by first | assumption | (unfold accS; dsimp only; omega)) (by first | assumption | (unfold accS; dsimp only; omega)) om ‹_› (Sat.flat k2)) ?_)
   rintro _ _ ⟨rfl, l2⟩
   refine ⟨_, rfl, ?_⟩
   have m2 := Sat.unflat l2; clear l2
   try dsimp only [List.set, List.eraseIdx, Value.cells] at m2
   refine nilO ⟨dA, ?_⟩
   refine qU [9] <| qU [10] <| qU [11] ?_
   refine qO rfl ?_
   refine sAlloc m2 Try.zeroValue142 ?_
   intro n2 _ q4
   refine nilO ⟨dA, ?_⟩
   refine qO rfl ?_
   refine sTw q4 0 [I ((nextV a0 c0 b0 a b).lo), I ((nextV a0 c0 b0 a b).hi)] Try.sizeOf142 ?_
   intro _ r0
   try dsimp only [List.set, List.eraseIdx, Value.cells] at r0
   refine nilO ⟨dA, ?_⟩
   refine qU [14] ?_
   refine qN ?_
   refine thenK_n <| seqE <| sR <| pu2 <| nT ?_
   rcases Classical.em (nextOK a0 c0 b0 a b) with s0 | s0
   rotate_left
   ·refine cT _ (congrArg Bool.not (decide_eq_false s0)) ?_
    refine sR <| pu3 <| nT ?_
    refine retE (tR <| thenK_r <| tR <| thenK_r <| ?_)
    refine retT [I 0, I 0, I 11] ?_
    have o2 := (((((r0.pick 4 rfl).dropAt 1 rfl).dropAt 1 rfl).dropAt 1 rfl).dropAt 1 rfl)
    change Sat _ _ (H :: F) at o2
    have hr0 : opsCode x true = 0 := by omega
    have hres : ivRes x a b = (match ivGo a b x [] with | some st => ((st[0]?.getD (⟨0, 0⟩ : Sp)).lo, (st[0]?.getD (⟨0, 0⟩ : Sp)).hi, 0) | none => (0, 0, 11)) := by unfold ivRes; rw [if_pos hr0, if_pos om]
    have hbad : ivGo a b x [] = none := by rw [hG, drop_at e0]; exact ivGo_bad (x := c0) (y := b0) (by unfold ivY; rw [if_pos om]; have e := p0; rw [show zs.length - 1 = _ from (by omega : zs.length - 1 = (((nzs : Nat) : Int) - 1).toNat), e] <;> rfl) (by unfold ivX; rw [if_pos om]; have e := q0; rw [(by omega : zs.length - (takesV a0.code).toNat = (((nzs : Nat) : Int) - (takesV a0.code)).toNat), e] <;> rfl) ‹_›
    exact ⟨by rw [hres, hbad]; rfl, o2⟩
   refine cF _ (congrArg Bool.not (decide_eq_true s0)) ?_
   refine kT ?_
   refine drawE [7, 8] [(6, ⟨n2, 0, none⟩, I ((nextV a0 c0 b0 a b).lo)), (6, ⟨n2, 1, none⟩, I ((nextV a0 c0 b0 a b).hi))] [(true, [0, 1, 2, 3]), (true, [4]), (true, [5]), (true, [6]), (false, [7]), (false, [8]), (true, [9])] rfl kr ⟨.inr (r0.cell 0 rfl rfl), .inr (r0.cell 0 rfl rfl), trivial⟩ ?_
   have r4 := r0.drew
   refine wU [0, 1, 2, 3] ?_
   refine wS (I (((nzs : Nat) : Int) - (takesV a0.code))) rfl rfl rfl (fun w _ => Y_sub (a := ((nzs : Nat) : Int)) (b := (takesV a0.code)) rfl kr kr om) ?_
   have s4 := hOzs.part (lo := 0) (hi := ((((nzs : Nat) : Int) - (takesV a0.code))).toNat) om om
   refine wS (.slice (partAddr azs kzs 0 2) (((((nzs : Nat) : Int) - (takesV a0.code))).toNat - 0) (kzs - 0)) rfl rfl rfl (fun w _ => Y_sl (a := azs) (len := nzs) (cap := kzs) none (some (((nzs : Nat) : Int) - (takesV a0.code))) 0 (((((nzs : Nat) : Int) - (takesV a0.code))).toNat) Try.runUnderlying140 Try.sizeOf142 rfl ⟨om, om⟩ om om) ?_
   refine wS (.agg #[I ((nextV a0 c0 b0 a b).lo), I ((nextV a0 c0 b0 a b).hi)]) rfl rfl rfl (fun w hF => Y_loadF rfl (Try.isAgg142 w) (Try.sizeOf142 w) kr rfl ⟨hF 0 _ _ rfl, hF 1 _ _ rfl, trivial⟩) ?_
   refine wO rfl ?_
   refine sBS r4 #[I ((nextV a0 c0 b0 a b).lo), I ((nextV a0 c0 b0 a b).hi)] Try.runUnderlying140 Try.sizeOf142 Try.zeroValue142 ?_
   intro _ _ t4
   refine nilO ⟨dA, ?_⟩
   refine wO rfl ?_
   refine sApp (nb := 16) t4 s4 4 (RdT.blk (enc := encSp) (sz := 2) (xs := [(⟨(nextV a0 c0 b0 a b).lo, (nextV a0 c0 b0 a b).hi⟩ : Sp)]) fR 1 0 rfl rfl rfl om) Try.underlying140 (i := Try.t142) kr fR ?_
   intro u4 v4 p2 _ w4 q2
   try dsimp only [List.set, List.eraseIdx, Value.cells] at q2
   refine nilO ⟨dA, ?_⟩
   refine wU [9] ?_
   refine wN ?_
   refine blockK_n <| thenK_n <| regionE <| pu1 ?_
   refine sAdd ((i : Nat) : Int) 1 ?_
   refine pu1 <| nT ?_
   have r2 := ((((((q2.pick 5 rfl).pick 5 rfl).dropAt 2 rfl).dropAt 2 rfl).dropAt 2 rfl).dropAt 2 rfl)
   change Sat _ _ (p2 :: H :: F) at r2
   exact ⟨(i + 1, (((zs.drop 0).take (((((nzs : Nat) : Int) - (takesV a0.code))).toNat - 0)) ++ [(⟨(nextV a0 c0 b0 a b).lo, (nextV a0 c0 b0 a b).hi⟩ : Sp)]), u4, ((((((nzs : Nat) : Int) - (takesV a0.code))).toNat - 0) + 1), v4, p2), od, alA, r2, om, by rw [hG, drop_at e0, ivGo_ok (x := c0) (y := b0) (by unfold ivY; rw [if_pos om]; have e := p0; rw [show zs.length - 1 = _ from (by omega : zs.length - 1 = (((nzs : Nat) : Int) - 1).toNat), e] <;> rfl) (by unfold ivX; rw [if_pos om]; have e := q0; rw [(by omega : zs.length - (takesV a0.code).toNat = (((nzs : Nat) : Int) - (takesV a0.code)).toNat), e] <;> rfl) ‹_› (m := ((zs.drop 0).take (((((nzs : Nat) : Int) - (takesV a0.code))).toNat - 0))) (by rw [List.drop_zero]; congr 1; omega)] <;> rfl, by simp only [List.length_append, List.length_take, List.length_drop, List.length_cons, List.length_nil]; rw [show (((min _ _ + (0 + 1) : Nat)) : Int) = ((zs.length : Nat) : Int) + (1 - takesV a0.code) from by omega]; exact hog, (by
     intro z hz
     rcases List.mem_append.1 hz with h | h
     ·exact hAc z (List.mem_of_mem_drop (List.mem_of_mem_take h))
     ·simp only [List.mem_singleton] at h; subst h; exact ⟨s0.2.1, s0.2.2⟩), by simp; omega, w4⟩
  refine qO rfl ?_
  refine sAlloc k2 Try.zeroValue142 ?_
  intro s2 _ j0
  refine nilO ⟨⟨.inr ((j1.up 4 rfl).cell j0 (k := 0) rfl), .inr ((j1.up 4 rfl).cell j0 (k := 1) rfl), .inr (j0.cell 2 rfl rfl), .inr (j0.cell 2 rfl rfl), .inr (j0.cell 1 rfl rfl), .inr (j0.cell 1 rfl rfl), trivial⟩, ?_⟩
  refine qO rfl ?_
  refine sF #[.agg #[I a0.code, I a0.arg], .agg #[I c0.lo, I c0.hi], .agg #[I b0.lo, I b0.hi], I a, I b] Try.call101 (Calls.mono (r14_next W _ _ [] a0 c0 b0 a b (by first | assumption | (unfold accS; dsimp only; omega)) (by first | assumption | (unfold accS; dsimp only; omega)) om ‹_› (Sat.flat j0)) ?_)
  rintro _ _ ⟨rfl, t2⟩
  refine ⟨_, rfl, ?_⟩
  have u2 := Sat.unflat t2; clear t2
  try dsimp only [List.set, List.eraseIdx, Value.cells] at u2
  refine nilO ⟨dA, ?_⟩
  refine qU [9] <| qU [10] <| qU [11] ?_
  refine qO rfl ?_
  refine sTw u2 0 [I ((nextV a0 c0 b0 a b).lo), I ((nextV a0 c0 b0 a b).hi)] Try.sizeOf142 ?_
  intro _ t0
  try dsimp only [List.set, List.eraseIdx, Value.cells] at t0
  refine nilO ⟨dA, ?_⟩
  refine qU [14] ?_
  refine qN ?_
  refine thenK_n <| seqE <| sR <| pu2 <| nT ?_
  rcases Classical.em (nextOK a0 c0 b0 a b) with u0 | u0
  rotate_left
  ·refine cT _ (congrArg Bool.not (decide_eq_false u0)) ?_
   refine sR <| pu3 <| nT ?_
   refine retE (tR <| thenK_r <| tR <| thenK_r <| ?_)
   refine retT [I 0, I 0, I 11] ?_
   have v2 := (((((t0.pick 4 rfl).dropAt 1 rfl).dropAt 1 rfl).dropAt 1 rfl).dropAt 1 rfl)
   change Sat _ _ (H :: F) at v2
   have hr0 : opsCode x true = 0 := by omega
   have hres : ivRes x a b = (match ivGo a b x [] with | some st => ((st[0]?.getD (⟨0, 0⟩ : Sp)).lo, (st[0]?.getD (⟨0, 0⟩ : Sp)).hi, 0) | none => (0, 0, 11)) := by unfold ivRes; rw [if_pos hr0, if_pos om]
   have hbad : ivGo a b x [] = none := by rw [hG, drop_at e0]; exact ivGo_bad (x := c0) (y := b0) (by unfold ivY; rw [if_pos om]; have e := p0; rw [show zs.length - 1 = _ from (by omega : zs.length - 1 = (((nzs : Nat) : Int) - 1).toNat), e] <;> rfl) (by unfold ivX; rw [if_pos om]; have e := q0; rw [(by omega : zs.length - (takesV a0.code).toNat = (((nzs : Nat) : Int) - (takesV a0.code)).toNat), e] <;> rfl) ‹_›
   exact ⟨by rw [hres, hbad]; rfl, v2⟩
  refine cF _ (congrArg Bool.not (decide_eq_true u0)) ?_
  refine kT ?_
  refine drawE [7, 8] [(6, ⟨s2, 0, none⟩, I ((nextV a0 c0 b0 a b).lo)), (6, ⟨s2, 1, none⟩, I ((nextV a0 c0 b0 a b).hi))] [(true, [0, 1, 2, 3]), (true, [4]), (true, [5]), (true, [6]), (false, [7]), (false, [8]), (true, [9])] rfl kr ⟨.inr (t0.cell 0 rfl rfl), .inr (t0.cell 0 rfl rfl), trivial⟩ ?_
  have x4 := t0.drew
  refine wU [0, 1, 2, 3] ?_
  refine wS (I (((nzs : Nat) : Int) - (takesV a0.code))) rfl rfl rfl (fun w _ => Y_sub (a := ((nzs : Nat) : Int)) (b := (takesV a0.code)) rfl kr kr om) ?_
  have y4 := hOzs.part (lo := 0) (hi := ((((nzs : Nat) : Int) - (takesV a0.code))).toNat) om om
  refine wS (.slice (partAddr azs kzs 0 2) (((((nzs : Nat) : Int) - (takesV a0.code))).toNat - 0) (kzs - 0)) rfl rfl rfl (fun w _ => Y_sl (a := azs) (len := nzs) (cap := kzs) none (some (((nzs : Nat) : Int) - (takesV a0.code))) 0 (((((nzs : Nat) : Int) - (takesV a0.code))).toNat) Try.runUnderlying140 Try.sizeOf142 rfl ⟨om, om⟩ om om) ?_
  refine wS (.agg #[I ((nextV a0 c0 b0 a b).lo), I ((nextV a0 c0 b0 a b).hi)]) rfl rfl rfl (fun w hF => Y_loadF rfl (Try.isAgg142 w) (Try.sizeOf142 w) kr rfl ⟨hF 0 _ _ rfl, hF 1 _ _ rfl, trivial⟩) ?_
  refine wO rfl ?_
  refine sBS x4 #[I ((nextV a0 c0 b0 a b).lo), I ((nextV a0 c0 b0 a b).hi)] Try.runUnderlying140 Try.sizeOf142 Try.zeroValue142 ?_
  intro _ _ z4
  refine nilO ⟨dA, ?_⟩
  refine wO rfl ?_
  refine sApp (nb := 16) z4 y4 4 (RdT.blk (enc := encSp) (sz := 2) (xs := [(⟨(nextV a0 c0 b0 a b).lo, (nextV a0 c0 b0 a b).hi⟩ : Sp)]) fR 1 0 rfl rfl rfl om) Try.underlying140 (i := Try.t142) kr fR ?_
  intro a5 b5 w2 _ c5 x2
  try dsimp only [List.set, List.eraseIdx, Value.cells] at x2
  refine nilO ⟨dA, ?_⟩
  refine wU [9] ?_
  refine wN ?_
  refine blockK_n <| thenK_n <| regionE <| pu1 ?_
  refine sAdd ((i : Nat) : Int) 1 ?_
  refine pu1 <| nT ?_
  have y2 := ((((((x2.pick 5 rfl).pick 5 rfl).dropAt 2 rfl).dropAt 2 rfl).dropAt 2 rfl).dropAt 2 rfl)
  change Sat _ _ (w2 :: H :: F) at y2
  exact ⟨(i + 1, (((zs.drop 0).take (((((nzs : Nat) : Int) - (takesV a0.code))).toNat - 0)) ++ [(⟨(nextV a0 c0 b0 a b).lo, (nextV a0 c0 b0 a b).hi⟩ : Sp)]), a5, ((((((nzs : Nat) : Int) - (takesV a0.code))).toNat - 0) + 1), b5, w2), od, alA, y2, om, by rw [hG, drop_at e0, ivGo_ok (x := c0) (y := b0) (by unfold ivY; rw [if_pos om]; have e := p0; rw [show zs.length - 1 = _ from (by omega : zs.length - 1 = (((nzs : Nat) : Int) - 1).toNat), e] <;> rfl) (by unfold ivX; rw [if_pos om]; have e := q0; rw [(by omega : zs.length - (takesV a0.code).toNat = (((nzs : Nat) : Int) - (takesV a0.code)).toNat), e] <;> rfl) ‹_› (m := ((zs.drop 0).take (((((nzs : Nat) : Int) - (takesV a0.code))).toNat - 0))) (by rw [List.drop_zero]; congr 1; omega)] <;> rfl, by simp only [List.length_append, List.length_take, List.length_drop, List.length_cons, List.length_nil]; rw [show (((min _ _ + (0 + 1) : Nat)) : Int) = ((zs.length : Nat) : Int) + (1 - takesV a0.code) from by omega]; exact hog, (by
    intro z hz
    rcases List.mem_append.1 hz with h | h
    ·exact hAc z (List.mem_of_mem_drop (List.mem_of_mem_take h))
    ·simp only [List.mem_singleton] at h; subst h; exact ⟨u0.2.1, u0.2.2⟩), by simp; omega, c5⟩
 refine cF _ (beq_eq_false_iff_ne.2 i2) ?_
 refine kT <| seqE <| sR <| pu2 <| nT ?_
 by_cases z2 : ((takesV a0.code) : Int) > 0
 rotate_left
 ·refine cF _ (decide_eq_false z2) ?_
  refine kT <| seqE ?_
  obtain ⟨d5, u1, v1, a3, k1, e5⟩ := RdT.elem hx ((i : Nat) : Int)
  rw [Int.toNat_natCast] at a3
  obtain rfl : a0 = d5 := Option.some.inj (e0.symm.trans a3)
  refine drawP [8, 12, 13] [(3, ⟨u1, v1 + 0, none⟩, I a0.code), (3, ⟨u1, v1 + 1, none⟩, I a0.arg), (4, ⟨m0, 0, none⟩, I 0), (4, ⟨m0, 1, none⟩, I 0), (5, ⟨n0, 0, none⟩, I 0), (5, ⟨n0, 1, none⟩, I 0)] (Plan.sts [0, 1] <| Plan.sts [2] <| Plan.sts [6, 7] <| Plan.sts [3] <| Plan.sts [4] <| Plan.sts [5] <| .fk 8 12 (Plan.sts [9] <| Plan.sts [10] <| Plan.sts [11] <| .ef 12 <| .ef 13 <| Plan.sts [14] <| .fin) (.ef 8 <| Plan.sts [9] <| Plan.sts [10] <| Plan.sts [11] <| .ef 13 <| Plan.sts [14] <| .fin)) rfl kr ⟨.inr ((k1.up 3 rfl).cell f0 (k := 0) rfl), .inr ((k1.up 3 rfl).cell f0 (k := 1) rfl), .inr (f0.cell 1 rfl rfl), .inr (f0.cell 1 rfl rfl), .inr (f0.cell 0 rfl rfl), .inr (f0.cell 0 rfl rfl), trivial⟩ ?_
  have b3 := f0.drew
  refine qU [0, 1] ?_
  refine qS (.pointer (some ⟨u1, v1, none⟩)) rfl rfl rfl (fun w _ => Y_idx (a := ax) (i := ((i : Nat) : Int)) (len := nx) (cap := kx) rfl Try.runUnderlying59 Try.sizeOf66 kr kr e5) ?_
  refine qU [6, 7] ?_
  refine qS (.agg #[I a0.code, I a0.arg]) rfl rfl rfl (fun w hF => Y_loadF rfl (Try.isAgg66 w) (Try.sizeOf66 w) kr rfl ⟨hF 0 _ _ rfl, hF 1 _ _ rfl, trivial⟩) ?_
  refine qS (.agg #[I 0, I 0]) rfl rfl rfl (fun w hF => Y_loadF rfl (Try.isAgg142 w) (Try.sizeOf142 w) kr rfl ⟨hF 2 _ _ rfl, hF 3 _ _ rfl, trivial⟩) ?_
  refine qS (.agg #[I 0, I 0]) rfl rfl rfl (fun w hF => Y_loadF rfl (Try.isAgg142 w) (Try.sizeOf142 w) kr rfl ⟨hF 4 _ _ rfl, hF 5 _ _ rfl, trivial⟩) ?_
  refine qF ?_ ?_
  ·refine qO rfl ?_
   refine sF #[.agg #[I a0.code, I a0.arg], .agg #[I 0, I 0], .agg #[I 0, I 0], I a, I b] Try.call101 (Calls.mono (r14_next W _ _ [] a0 (⟨0, 0⟩ : Sp) (⟨0, 0⟩ : Sp) a b (by first | assumption | (unfold accS; dsimp only; omega)) (by first | assumption | (unfold accS; dsimp only; omega)) om ‹_› (Sat.flat b3)) ?_)
   rintro _ _ ⟨rfl, c3⟩
   refine ⟨_, rfl, ?_⟩
   have d3 := Sat.unflat c3; clear c3
   try dsimp only [List.set, List.eraseIdx, Value.cells] at d3
   refine nilO ⟨dA, ?_⟩
   refine qU [9] <| qU [10] <| qU [11] ?_
   refine qO rfl ?_
   refine sAlloc d3 Try.zeroValue142 ?_
   intro e3 _ f5
   refine nilO ⟨dA, ?_⟩
   refine qO rfl ?_
   refine sTw f5 0 [I ((nextV a0 (⟨0, 0⟩ : Sp) (⟨0, 0⟩ : Sp) a b).lo), I ((nextV a0 (⟨0, 0⟩ : Sp) (⟨0, 0⟩ : Sp) a b).hi)] Try.sizeOf142 ?_
   intro _ v0
   try dsimp only [List.set, List.eraseIdx, Value.cells] at v0
   refine nilO ⟨dA, ?_⟩
   refine qU [14] ?_
   refine qN ?_
   refine thenK_n <| seqE <| sR <| pu2 <| nT ?_
   rcases Classical.em (nextOK a0 (⟨0, 0⟩ : Sp) (⟨0, 0⟩ : Sp) a b) with w0 | w0
   rotate_left
   ·refine cT _ (congrArg Bool.not (decide_eq_false w0)) ?_
    refine sR <| pu3 <| nT ?_
    refine retE (tR <| thenK_r <| tR <| thenK_r <| ?_)
    refine retT [I 0, I 0, I 11] ?_
    have f3 := (((((v0.pick 4 rfl).dropAt 1 rfl).dropAt 1 rfl).dropAt 1 rfl).dropAt 1 rfl)
    change Sat _ _ (H :: F) at f3
    have hr0 : opsCode x true = 0 := by omega
    have hres : ivRes x a b = (match ivGo a b x [] with | some st => ((st[0]?.getD (⟨0, 0⟩ : Sp)).lo, (st[0]?.getD (⟨0, 0⟩ : Sp)).hi, 0) | none => (0, 0, 11)) := by unfold ivRes; rw [if_pos hr0, if_pos om]
    have hbad : ivGo a b x [] = none := by rw [hG, drop_at e0]; exact ivGo_bad (x := (⟨0, 0⟩ : Sp)) (y := (⟨0, 0⟩ : Sp)) (by unfold ivY; rw [if_neg om]) (by unfold ivX; rw [if_neg om]) ‹_›
    exact ⟨by rw [hres, hbad]; rfl, f3⟩
   refine cF _ (congrArg Bool.not (decide_eq_true w0)) ?_
   refine kT ?_
   refine drawE [7, 8] [(6, ⟨e3, 0, none⟩, I ((nextV a0 (⟨0, 0⟩ : Sp) (⟨0, 0⟩ : Sp) a b).lo)), (6, ⟨e3, 1, none⟩, I ((nextV a0 (⟨0, 0⟩ : Sp) (⟨0, 0⟩ : Sp) a b).hi))] [(true, [0, 1, 2, 3]), (true, [4]), (true, [5]), (true, [6]), (false, [7]), (false, [8]), (true, [9])] rfl kr ⟨.inr (v0.cell 0 rfl rfl), .inr (v0.cell 0 rfl rfl), trivial⟩ ?_
   have g5 := v0.drew
   refine wU [0, 1, 2, 3] ?_
   refine wS (I (((nzs : Nat) : Int) - (takesV a0.code))) rfl rfl rfl (fun w _ => Y_sub (a := ((nzs : Nat) : Int)) (b := (takesV a0.code)) rfl kr kr om) ?_
   have h5 := hOzs.part (lo := 0) (hi := ((((nzs : Nat) : Int) - (takesV a0.code))).toNat) om om
   refine wS (.slice (partAddr azs kzs 0 2) (((((nzs : Nat) : Int) - (takesV a0.code))).toNat - 0) (kzs - 0)) rfl rfl rfl (fun w _ => Y_sl (a := azs) (len := nzs) (cap := kzs) none (some (((nzs : Nat) : Int) - (takesV a0.code))) 0 (((((nzs : Nat) : Int) - (takesV a0.code))).toNat) Try.runUnderlying140 Try.sizeOf142 rfl ⟨om, om⟩ om om) ?_
   refine wS (.agg #[I ((nextV a0 (⟨0, 0⟩ : Sp) (⟨0, 0⟩ : Sp) a b).lo), I ((nextV a0 (⟨0, 0⟩ : Sp) (⟨0, 0⟩ : Sp) a b).hi)]) rfl rfl rfl (fun w hF => Y_loadF rfl (Try.isAgg142 w) (Try.sizeOf142 w) kr rfl ⟨hF 0 _ _ rfl, hF 1 _ _ rfl, trivial⟩) ?_
   refine wO rfl ?_
   refine sBS g5 #[I ((nextV a0 (⟨0, 0⟩ : Sp) (⟨0, 0⟩ : Sp) a b).lo), I ((nextV a0 (⟨0, 0⟩ : Sp) (⟨0, 0⟩ : Sp) a b).hi)] Try.runUnderlying140 Try.sizeOf142 Try.zeroValue142 ?_
   intro _ _ i5
   refine nilO ⟨dA, ?_⟩
   refine wO rfl ?_
   refine sApp (nb := 16) i5 h5 4 (RdT.blk (enc := encSp) (sz := 2) (xs := [(⟨(nextV a0 (⟨0, 0⟩ : Sp) (⟨0, 0⟩ : Sp) a b).lo, (nextV a0 (⟨0, 0⟩ : Sp) (⟨0, 0⟩ : Sp) a b).hi⟩ : Sp)]) fR 1 0 rfl rfl rfl om) Try.underlying140 (i := Try.t142) kr fR ?_
   intro j5 k5 g3 _ l5 h3
   try dsimp only [List.set, List.eraseIdx, Value.cells] at h3
   refine nilO ⟨dA, ?_⟩
   refine wU [9] ?_
   refine wN ?_
   refine blockK_n <| thenK_n <| regionE <| pu1 ?_
   refine sAdd ((i : Nat) : Int) 1 ?_
   refine pu1 <| nT ?_
   have i3 := ((((((h3.pick 5 rfl).pick 5 rfl).dropAt 2 rfl).dropAt 2 rfl).dropAt 2 rfl).dropAt 2 rfl)
   change Sat _ _ (g3 :: H :: F) at i3
   exact ⟨(i + 1, (((zs.drop 0).take (((((nzs : Nat) : Int) - (takesV a0.code))).toNat - 0)) ++ [(⟨(nextV a0 (⟨0, 0⟩ : Sp) (⟨0, 0⟩ : Sp) a b).lo, (nextV a0 (⟨0, 0⟩ : Sp) (⟨0, 0⟩ : Sp) a b).hi⟩ : Sp)]), j5, ((((((nzs : Nat) : Int) - (takesV a0.code))).toNat - 0) + 1), k5, g3), od, alA, i3, om, by rw [hG, drop_at e0, ivGo_ok (x := (⟨0, 0⟩ : Sp)) (y := (⟨0, 0⟩ : Sp)) (by unfold ivY; rw [if_neg om]) (by unfold ivX; rw [if_neg om]) ‹_› (m := ((zs.drop 0).take (((((nzs : Nat) : Int) - (takesV a0.code))).toNat - 0))) (by rw [List.drop_zero]; congr 1; omega)] <;> rfl, by simp only [List.length_append, List.length_take, List.length_drop, List.length_cons, List.length_nil]; rw [show (((min _ _ + (0 + 1) : Nat)) : Int) = ((zs.length : Nat) : Int) + (1 - takesV a0.code) from by omega]; exact hog, (by
     intro z hz
     rcases List.mem_append.1 hz with h | h
     ·exact hAc z (List.mem_of_mem_drop (List.mem_of_mem_take h))
     ·simp only [List.mem_singleton] at h; subst h; exact ⟨w0.2.1, w0.2.2⟩), by simp; omega, l5⟩
  refine qO rfl ?_
  refine sAlloc b3 Try.zeroValue142 ?_
  intro j3 _ k0
  refine nilO ⟨⟨.inr ((k1.up 4 rfl).cell k0 (k := 0) rfl), .inr ((k1.up 4 rfl).cell k0 (k := 1) rfl), .inr (k0.cell 2 rfl rfl), .inr (k0.cell 2 rfl rfl), .inr (k0.cell 1 rfl rfl), .inr (k0.cell 1 rfl rfl), trivial⟩, ?_⟩
  refine qO rfl ?_
  refine sF #[.agg #[I a0.code, I a0.arg], .agg #[I 0, I 0], .agg #[I 0, I 0], I a, I b] Try.call101 (Calls.mono (r14_next W _ _ [] a0 (⟨0, 0⟩ : Sp) (⟨0, 0⟩ : Sp) a b (by first | assumption | (unfold accS; dsimp only; omega)) (by first | assumption | (unfold accS; dsimp only; omega)) om ‹_› (Sat.flat k0)) ?_)
  rintro _ _ ⟨rfl, k3⟩
  refine ⟨_, rfl, ?_⟩
  have l3 := Sat.unflat k3; clear k3
  try dsimp only [List.set, List.eraseIdx, Value.cells] at l3
  refine nilO ⟨dA, ?_⟩
  refine qU [9] <| qU [10] <| qU [11] ?_
  refine qO rfl ?_
  refine sTw l3 0 [I ((nextV a0 (⟨0, 0⟩ : Sp) (⟨0, 0⟩ : Sp) a b).lo), I ((nextV a0 (⟨0, 0⟩ : Sp) (⟨0, 0⟩ : Sp) a b).hi)] Try.sizeOf142 ?_
  intro _ x0
  try dsimp only [List.set, List.eraseIdx, Value.cells] at x0
  refine nilO ⟨dA, ?_⟩
  refine qU [14] ?_
  refine qN ?_
  refine thenK_n <| seqE <| sR <| pu2 <| nT ?_
  rcases Classical.em (nextOK a0 (⟨0, 0⟩ : Sp) (⟨0, 0⟩ : Sp) a b) with y0 | y0
  rotate_left
  ·refine cT _ (congrArg Bool.not (decide_eq_false y0)) ?_
   refine sR <| pu3 <| nT ?_
   refine retE (tR <| thenK_r <| tR <| thenK_r <| ?_)
   refine retT [I 0, I 0, I 11] ?_
   have m3 := (((((x0.pick 4 rfl).dropAt 1 rfl).dropAt 1 rfl).dropAt 1 rfl).dropAt 1 rfl)
   change Sat _ _ (H :: F) at m3
   have hr0 : opsCode x true = 0 := by omega
   have hres : ivRes x a b = (match ivGo a b x [] with | some st => ((st[0]?.getD (⟨0, 0⟩ : Sp)).lo, (st[0]?.getD (⟨0, 0⟩ : Sp)).hi, 0) | none => (0, 0, 11)) := by unfold ivRes; rw [if_pos hr0, if_pos om]
   have hbad : ivGo a b x [] = none := by rw [hG, drop_at e0]; exact ivGo_bad (x := (⟨0, 0⟩ : Sp)) (y := (⟨0, 0⟩ : Sp)) (by unfold ivY; rw [if_neg om]) (by unfold ivX; rw [if_neg om]) ‹_›
   exact ⟨by rw [hres, hbad]; rfl, m3⟩
  refine cF _ (congrArg Bool.not (decide_eq_true y0)) ?_
  refine kT ?_
  refine drawE [7, 8] [(6, ⟨j3, 0, none⟩, I ((nextV a0 (⟨0, 0⟩ : Sp) (⟨0, 0⟩ : Sp) a b).lo)), (6, ⟨j3, 1, none⟩, I ((nextV a0 (⟨0, 0⟩ : Sp) (⟨0, 0⟩ : Sp) a b).hi))] [(true, [0, 1, 2, 3]), (true, [4]), (true, [5]), (true, [6]), (false, [7]), (false, [8]), (true, [9])] rfl kr ⟨.inr (x0.cell 0 rfl rfl), .inr (x0.cell 0 rfl rfl), trivial⟩ ?_
  have m5 := x0.drew
  refine wU [0, 1, 2, 3] ?_
  refine wS (I (((nzs : Nat) : Int) - (takesV a0.code))) rfl rfl rfl (fun w _ => Y_sub (a := ((nzs : Nat) : Int)) (b := (takesV a0.code)) rfl kr kr om) ?_
  have n5 := hOzs.part (lo := 0) (hi := ((((nzs : Nat) : Int) - (takesV a0.code))).toNat) om om
  refine wS (.slice (partAddr azs kzs 0 2) (((((nzs : Nat) : Int) - (takesV a0.code))).toNat - 0) (kzs - 0)) rfl rfl rfl (fun w _ => Y_sl (a := azs) (len := nzs) (cap := kzs) none (some (((nzs : Nat) : Int) - (takesV a0.code))) 0 (((((nzs : Nat) : Int) - (takesV a0.code))).toNat) Try.runUnderlying140 Try.sizeOf142 rfl ⟨om, om⟩ om om) ?_
  refine wS (.agg #[I ((nextV a0 (⟨0, 0⟩ : Sp) (⟨0, 0⟩ : Sp) a b).lo), I ((nextV a0 (⟨0, 0⟩ : Sp) (⟨0, 0⟩ : Sp) a b).hi)]) rfl rfl rfl (fun w hF => Y_loadF rfl (Try.isAgg142 w) (Try.sizeOf142 w) kr rfl ⟨hF 0 _ _ rfl, hF 1 _ _ rfl, trivial⟩) ?_
  refine wO rfl ?_
  refine sBS m5 #[I ((nextV a0 (⟨0, 0⟩ : Sp) (⟨0, 0⟩ : Sp) a b).lo), I ((nextV a0 (⟨0, 0⟩ : Sp) (⟨0, 0⟩ : Sp) a b).hi)] Try.runUnderlying140 Try.sizeOf142 Try.zeroValue142 ?_
  intro _ _ o5
  refine nilO ⟨dA, ?_⟩
  refine wO rfl ?_
  refine sApp (nb := 16) o5 n5 4 (RdT.blk (enc := encSp) (sz := 2) (xs := [(⟨(nextV a0 (⟨0, 0⟩ : Sp) (⟨0, 0⟩ : Sp) a b).lo, (nextV a0 (⟨0, 0⟩ : Sp) (⟨0, 0⟩ : Sp) a b).hi⟩ : Sp)]) fR 1 0 rfl rfl rfl om) Try.underlying140 (i := Try.t142) kr fR ?_
  intro p5 q5 n3 _ r5 o3
  try dsimp only [List.set, List.eraseIdx, Value.cells] at o3
  refine nilO ⟨dA, ?_⟩
  refine wU [9] ?_
  refine wN ?_
  refine blockK_n <| thenK_n <| regionE <| pu1 ?_
  refine sAdd ((i : Nat) : Int) 1 ?_
  refine pu1 <| nT ?_
  have p3 := ((((((o3.pick 5 rfl).pick 5 rfl).dropAt 2 rfl).dropAt 2 rfl).dropAt 2 rfl).dropAt 2 rfl)
  change Sat _ _ (n3 :: H :: F) at p3
  exact ⟨(i + 1, (((zs.drop 0).take (((((nzs : Nat) : Int) - (takesV a0.code))).toNat - 0)) ++ [(⟨(nextV a0 (⟨0, 0⟩ : Sp) (⟨0, 0⟩ : Sp) a b).lo, (nextV a0 (⟨0, 0⟩ : Sp) (⟨0, 0⟩ : Sp) a b).hi⟩ : Sp)]), p5, ((((((nzs : Nat) : Int) - (takesV a0.code))).toNat - 0) + 1), q5, n3), od, alA, p3, om, by rw [hG, drop_at e0, ivGo_ok (x := (⟨0, 0⟩ : Sp)) (y := (⟨0, 0⟩ : Sp)) (by unfold ivY; rw [if_neg om]) (by unfold ivX; rw [if_neg om]) ‹_› (m := ((zs.drop 0).take (((((nzs : Nat) : Int) - (takesV a0.code))).toNat - 0))) (by rw [List.drop_zero]; congr 1; omega)] <;> rfl, by simp only [List.length_append, List.length_take, List.length_drop, List.length_cons, List.length_nil]; rw [show (((min _ _ + (0 + 1) : Nat)) : Int) = ((zs.length : Nat) : Int) + (1 - takesV a0.code) from by omega]; exact hog, (by
    intro z hz
    rcases List.mem_append.1 hz with h | h
    ·exact hAc z (List.mem_of_mem_drop (List.mem_of_mem_take h))
    ·simp only [List.mem_singleton] at h; subst h; exact ⟨y0.2.1, y0.2.2⟩), by simp; omega, r5⟩
 refine cT _ (decide_eq_true z2) ?_
 refine regionE <| pu4 ?_
 refine sSub ((nzs : Nat) : Int) (takesV a0.code) ?_
 refine sIdxO hOzs (((nzs : Nat) : Int) - (takesV a0.code)) ((((nzs : Nat) : Int) - (takesV a0.code))).toNat Try.runUnderlying140 Try.sizeOf142 ?_
 intro d0 _ _ z0 s5 _
 have hacc_x_107 : accS d0 := hAc d0 (List.mem_of_getElem? z0)
 refine sLpA f0 (s5.up 2 rfl) 0 [I d0.lo, I d0.hi] (Try.isAgg142 _) (Try.sizeOf142 _) ?_
 refine sTw f0 1 [I d0.lo, I d0.hi] Try.sizeOf142 ?_
 intro _ i0
 try dsimp only [List.set, List.eraseIdx, Value.cells] at i0
 refine nT <| seqE ?_
 obtain ⟨t5, w1, x1, q3, l1, u5⟩ := RdT.elem hx ((i : Nat) : Int)
 rw [Int.toNat_natCast] at q3
 obtain rfl : a0 = t5 := Option.some.inj (e0.symm.trans q3)
 refine drawP [8, 12, 13] [(3, ⟨w1, x1 + 0, none⟩, I a0.code), (3, ⟨w1, x1 + 1, none⟩, I a0.arg), (4, ⟨m0, 0, none⟩, I d0.lo), (4, ⟨m0, 1, none⟩, I d0.hi), (5, ⟨n0, 0, none⟩, I 0), (5, ⟨n0, 1, none⟩, I 0)] (Plan.sts [0, 1] <| Plan.sts [2] <| Plan.sts [6, 7] <| Plan.sts [3] <| Plan.sts [4] <| Plan.sts [5] <| .fk 8 12 (Plan.sts [9] <| Plan.sts [10] <| Plan.sts [11] <| .ef 12 <| .ef 13 <| Plan.sts [14] <| .fin) (.ef 8 <| Plan.sts [9] <| Plan.sts [10] <| Plan.sts [11] <| .ef 13 <| Plan.sts [14] <| .fin)) rfl kr ⟨.inr ((l1.up 3 rfl).cell i0 (k := 0) rfl), .inr ((l1.up 3 rfl).cell i0 (k := 1) rfl), .inr (i0.cell 1 rfl rfl), .inr (i0.cell 1 rfl rfl), .inr (i0.cell 0 rfl rfl), .inr (i0.cell 0 rfl rfl), trivial⟩ ?_
 have r3 := i0.drew
 refine qU [0, 1] ?_
 refine qS (.pointer (some ⟨w1, x1, none⟩)) rfl rfl rfl (fun w _ => Y_idx (a := ax) (i := ((i : Nat) : Int)) (len := nx) (cap := kx) rfl Try.runUnderlying59 Try.sizeOf66 kr kr u5) ?_
 refine qU [6, 7] ?_
 refine qS (.agg #[I a0.code, I a0.arg]) rfl rfl rfl (fun w hF => Y_loadF rfl (Try.isAgg66 w) (Try.sizeOf66 w) kr rfl ⟨hF 0 _ _ rfl, hF 1 _ _ rfl, trivial⟩) ?_
 refine qS (.agg #[I d0.lo, I d0.hi]) rfl rfl rfl (fun w hF => Y_loadF rfl (Try.isAgg142 w) (Try.sizeOf142 w) kr rfl ⟨hF 2 _ _ rfl, hF 3 _ _ rfl, trivial⟩) ?_
 refine qS (.agg #[I 0, I 0]) rfl rfl rfl (fun w hF => Y_loadF rfl (Try.isAgg142 w) (Try.sizeOf142 w) kr rfl ⟨hF 4 _ _ rfl, hF 5 _ _ rfl, trivial⟩) ?_
 refine qF ?_ ?_
 ·refine qO rfl ?_
  refine sF #[.agg #[I a0.code, I a0.arg], .agg #[I d0.lo, I d0.hi], .agg #[I 0, I 0], I a, I b] Try.call101 (Calls.mono (r14_next W _ _ [] a0 d0 (⟨0, 0⟩ : Sp) a b (by first | assumption | (unfold accS; dsimp only; omega)) (by first | assumption | (unfold accS; dsimp only; omega)) om ‹_› (Sat.flat r3)) ?_)
  rintro _ _ ⟨rfl, s3⟩
  refine ⟨_, rfl, ?_⟩
  have t3 := Sat.unflat s3; clear s3
  try dsimp only [List.set, List.eraseIdx, Value.cells] at t3
  refine nilO ⟨dA, ?_⟩
  refine qU [9] <| qU [10] <| qU [11] ?_
  refine qO rfl ?_
  refine sAlloc t3 Try.zeroValue142 ?_
  intro u3 _ v5
  refine nilO ⟨dA, ?_⟩
  refine qO rfl ?_
  refine sTw v5 0 [I ((nextV a0 d0 (⟨0, 0⟩ : Sp) a b).lo), I ((nextV a0 d0 (⟨0, 0⟩ : Sp) a b).hi)] Try.sizeOf142 ?_
  intro _ a1
  try dsimp only [List.set, List.eraseIdx, Value.cells] at a1
  refine nilO ⟨dA, ?_⟩
  refine qU [14] ?_
  refine qN ?_
  refine thenK_n <| seqE <| sR <| pu2 <| nT ?_
  rcases Classical.em (nextOK a0 d0 (⟨0, 0⟩ : Sp) a b) with b1 | b1
  rotate_left
  ·refine cT _ (congrArg Bool.not (decide_eq_false b1)) ?_
   refine sR <| pu3 <| nT ?_
   refine retE (tR <| thenK_r <| tR <| thenK_r <| ?_)
   refine retT [I 0, I 0, I 11] ?_
   have v3 := (((((a1.pick 4 rfl).dropAt 1 rfl).dropAt 1 rfl).dropAt 1 rfl).dropAt 1 rfl)
   change Sat _ _ (H :: F) at v3
   have hr0 : opsCode x true = 0 := by omega
   have hres : ivRes x a b = (match ivGo a b x [] with | some st => ((st[0]?.getD (⟨0, 0⟩ : Sp)).lo, (st[0]?.getD (⟨0, 0⟩ : Sp)).hi, 0) | none => (0, 0, 11)) := by unfold ivRes; rw [if_pos hr0, if_pos om]
   have hbad : ivGo a b x [] = none := by rw [hG, drop_at e0]; exact ivGo_bad (x := d0) (y := (⟨0, 0⟩ : Sp)) (by unfold ivY; rw [if_neg om]) (by unfold ivX; rw [if_pos om]; have e := z0; rw [(by omega : zs.length - (takesV a0.code).toNat = (((nzs : Nat) : Int) - (takesV a0.code)).toNat), e] <;> rfl) ‹_›
   exact ⟨by rw [hres, hbad]; rfl, v3⟩
  refine cF _ (congrArg Bool.not (decide_eq_true b1)) ?_
  refine kT ?_
  refine drawE [7, 8] [(6, ⟨u3, 0, none⟩, I ((nextV a0 d0 (⟨0, 0⟩ : Sp) a b).lo)), (6, ⟨u3, 1, none⟩, I ((nextV a0 d0 (⟨0, 0⟩ : Sp) a b).hi))] [(true, [0, 1, 2, 3]), (true, [4]), (true, [5]), (true, [6]), (false, [7]), (false, [8]), (true, [9])] rfl kr ⟨.inr (a1.cell 0 rfl rfl), .inr (a1.cell 0 rfl rfl), trivial⟩ ?_
  have w5 := a1.drew
  refine wU [0, 1, 2, 3] ?_
  refine wS (I (((nzs : Nat) : Int) - (takesV a0.code))) rfl rfl rfl (fun w _ => Y_sub (a := ((nzs : Nat) : Int)) (b := (takesV a0.code)) rfl kr kr om) ?_
  have x5 := hOzs.part (lo := 0) (hi := ((((nzs : Nat) : Int) - (takesV a0.code))).toNat) om om
  refine wS (.slice (partAddr azs kzs 0 2) (((((nzs : Nat) : Int) - (takesV a0.code))).toNat - 0) (kzs - 0)) rfl rfl rfl (fun w _ => Y_sl (a := azs) (len := nzs) (cap := kzs) none (some (((nzs : Nat) : Int) - (takesV a0.code))) 0 (((((nzs : Nat) : Int) - (takesV a0.code))).toNat) Try.runUnderlying140 Try.sizeOf142 rfl ⟨om, om⟩ om om) ?_
  refine wS (.agg #[I ((nextV a0 d0 (⟨0, 0⟩ : Sp) a b).lo), I ((nextV a0 d0 (⟨0, 0⟩ : Sp) a b).hi)]) rfl rfl rfl (fun w hF => Y_loadF rfl (Try.isAgg142 w) (Try.sizeOf142 w) kr rfl ⟨hF 0 _ _ rfl, hF 1 _ _ rfl, trivial⟩) ?_
  refine wO rfl ?_
  refine sBS w5 #[I ((nextV a0 d0 (⟨0, 0⟩ : Sp) a b).lo), I ((nextV a0 d0 (⟨0, 0⟩ : Sp) a b).hi)] Try.runUnderlying140 Try.sizeOf142 Try.zeroValue142 ?_
  intro _ _ y5
  refine nilO ⟨dA, ?_⟩
  refine wO rfl ?_
  refine sApp (nb := 16) y5 x5 4 (RdT.blk (enc := encSp) (sz := 2) (xs := [(⟨(nextV a0 d0 (⟨0, 0⟩ : Sp) a b).lo, (nextV a0 d0 (⟨0, 0⟩ : Sp) a b).hi⟩ : Sp)]) fR 1 0 rfl rfl rfl om) Try.underlying140 (i := Try.t142) kr fR ?_
  intro z5 a6 w3 _ b6 x3
  try dsimp only [List.set, List.eraseIdx, Value.cells] at x3
  refine nilO ⟨dA, ?_⟩
  refine wU [9] ?_
  refine wN ?_
  refine blockK_n <| thenK_n <| regionE <| pu1 ?_
  refine sAdd ((i : Nat) : Int) 1 ?_
  refine pu1 <| nT ?_
  have y3 := ((((((x3.pick 5 rfl).pick 5 rfl).dropAt 2 rfl).dropAt 2 rfl).dropAt 2 rfl).dropAt 2 rfl)
  change Sat _ _ (w3 :: H :: F) at y3
  exact ⟨(i + 1, (((zs.drop 0).take (((((nzs : Nat) : Int) - (takesV a0.code))).toNat - 0)) ++ [(⟨(nextV a0 d0 (⟨0, 0⟩ : Sp) a b).lo, (nextV a0 d0 (⟨0, 0⟩ : Sp) a b).hi⟩ : Sp)]), z5, ((((((nzs : Nat) : Int) - (takesV a0.code))).toNat - 0) + 1), a6, w3), od, alA, y3, om, by rw [hG, drop_at e0, ivGo_ok (x := d0) (y := (⟨0, 0⟩ : Sp)) (by unfold ivY; rw [if_neg om]) (by unfold ivX; rw [if_pos om]; have e := z0; rw [(by omega : zs.length - (takesV a0.code).toNat = (((nzs : Nat) : Int) - (takesV a0.code)).toNat), e] <;> rfl) ‹_› (m := ((zs.drop 0).take (((((nzs : Nat) : Int) - (takesV a0.code))).toNat - 0))) (by rw [List.drop_zero]; congr 1; omega)] <;> rfl, by simp only [List.length_append, List.length_take, List.length_drop, List.length_cons, List.length_nil]; rw [show (((min _ _ + (0 + 1) : Nat)) : Int) = ((zs.length : Nat) : Int) + (1 - takesV a0.code) from by omega]; exact hog, (by
    intro z hz
    rcases List.mem_append.1 hz with h | h
    ·exact hAc z (List.mem_of_mem_drop (List.mem_of_mem_take h))
    ·simp only [List.mem_singleton] at h; subst h; exact ⟨b1.2.1, b1.2.2⟩), by simp; omega, b6⟩
 refine qO rfl ?_
 refine sAlloc r3 Try.zeroValue142 ?_
 intro z3 _ l0
 refine nilO ⟨⟨.inr ((l1.up 4 rfl).cell l0 (k := 0) rfl), .inr ((l1.up 4 rfl).cell l0 (k := 1) rfl), .inr (l0.cell 2 rfl rfl), .inr (l0.cell 2 rfl rfl), .inr (l0.cell 1 rfl rfl), .inr (l0.cell 1 rfl rfl), trivial⟩, ?_⟩
 refine qO rfl ?_
 refine sF #[.agg #[I a0.code, I a0.arg], .agg #[I d0.lo, I d0.hi], .agg #[I 0, I 0], I a, I b] Try.call101 (Calls.mono (r14_next W _ _ [] a0 d0 (⟨0, 0⟩ : Sp) a b (by first | assumption | (unfold accS; dsimp only; omega)) (by first | assumption | (unfold accS; dsimp only; omega)) om ‹_› (Sat.flat l0)) ?_)
 rintro _ _ ⟨rfl, a4⟩
 refine ⟨_, rfl, ?_⟩
 have b4 := Sat.unflat a4; clear a4
 try dsimp only [List.set, List.eraseIdx, Value.cells] at b4
 refine nilO ⟨dA, ?_⟩
 refine qU [9] <| qU [10] <| qU [11] ?_
 refine qO rfl ?_
 refine sTw b4 0 [I ((nextV a0 d0 (⟨0, 0⟩ : Sp) a b).lo), I ((nextV a0 d0 (⟨0, 0⟩ : Sp) a b).hi)] Try.sizeOf142 ?_
 intro _ c1
 try dsimp only [List.set, List.eraseIdx, Value.cells] at c1
 refine nilO ⟨dA, ?_⟩
 refine qU [14] ?_
 refine qN ?_
 refine thenK_n <| seqE <| sR <| pu2 <| nT ?_
 rcases Classical.em (nextOK a0 d0 (⟨0, 0⟩ : Sp) a b) with d1 | d1
 rotate_left
 ·refine cT _ (congrArg Bool.not (decide_eq_false d1)) ?_
  refine sR <| pu3 <| nT ?_
  refine retE (tR <| thenK_r <| tR <| thenK_r <| ?_)
  refine retT [I 0, I 0, I 11] ?_
  have c4 := (((((c1.pick 4 rfl).dropAt 1 rfl).dropAt 1 rfl).dropAt 1 rfl).dropAt 1 rfl)
  change Sat _ _ (H :: F) at c4
  have hr0 : opsCode x true = 0 := by omega
  have hres : ivRes x a b = (match ivGo a b x [] with | some st => ((st[0]?.getD (⟨0, 0⟩ : Sp)).lo, (st[0]?.getD (⟨0, 0⟩ : Sp)).hi, 0) | none => (0, 0, 11)) := by unfold ivRes; rw [if_pos hr0, if_pos om]
  have hbad : ivGo a b x [] = none := by rw [hG, drop_at e0]; exact ivGo_bad (x := d0) (y := (⟨0, 0⟩ : Sp)) (by unfold ivY; rw [if_neg om]) (by unfold ivX; rw [if_pos om]; have e := z0; rw [(by omega : zs.length - (takesV a0.code).toNat = (((nzs : Nat) : Int) - (takesV a0.code)).toNat), e] <;> rfl) ‹_›
  exact ⟨by rw [hres, hbad]; rfl, c4⟩
 refine cF _ (congrArg Bool.not (decide_eq_true d1)) ?_
 refine kT ?_
 refine drawE [7, 8] [(6, ⟨z3, 0, none⟩, I ((nextV a0 d0 (⟨0, 0⟩ : Sp) a b).lo)), (6, ⟨z3, 1, none⟩, I ((nextV a0 d0 (⟨0, 0⟩ : Sp) a b).hi))] [(true, [0, 1, 2, 3]), (true, [4]), (true, [5]), (true, [6]), (false, [7]), (false, [8]), (true, [9])] rfl kr ⟨.inr (c1.cell 0 rfl rfl), .inr (c1.cell 0 rfl rfl), trivial⟩ ?_
 have c6 := c1.drew
 refine wU [0, 1, 2, 3] ?_
 refine wS (I (((nzs : Nat) : Int) - (takesV a0.code))) rfl rfl rfl (fun w _ => Y_sub (a := ((nzs : Nat) : Int)) (b := (takesV a0.code)) rfl kr kr om) ?_
 have d6 := hOzs.part (lo := 0) (hi := ((((nzs : Nat) : Int) - (takesV a0.code))).toNat) om om
 refine wS (.slice (partAddr azs kzs 0 2) (((((nzs : Nat) : Int) - (takesV a0.code))).toNat - 0) (kzs - 0)) rfl rfl rfl (fun w _ => Y_sl (a := azs) (len := nzs) (cap := kzs) none (some (((nzs : Nat) : Int) - (takesV a0.code))) 0 (((((nzs : Nat) : Int) - (takesV a0.code))).toNat) Try.runUnderlying140 Try.sizeOf142 rfl ⟨om, om⟩ om om) ?_
 refine wS (.agg #[I ((nextV a0 d0 (⟨0, 0⟩ : Sp) a b).lo), I ((nextV a0 d0 (⟨0, 0⟩ : Sp) a b).hi)]) rfl rfl rfl (fun w hF => Y_loadF rfl (Try.isAgg142 w) (Try.sizeOf142 w) kr rfl ⟨hF 0 _ _ rfl, hF 1 _ _ rfl, trivial⟩) ?_
 refine wO rfl ?_
 refine sBS c6 #[I ((nextV a0 d0 (⟨0, 0⟩ : Sp) a b).lo), I ((nextV a0 d0 (⟨0, 0⟩ : Sp) a b).hi)] Try.runUnderlying140 Try.sizeOf142 Try.zeroValue142 ?_
 intro _ _ e6
 refine nilO ⟨dA, ?_⟩
 refine wO rfl ?_
 refine sApp (nb := 16) e6 d6 4 (RdT.blk (enc := encSp) (sz := 2) (xs := [(⟨(nextV a0 d0 (⟨0, 0⟩ : Sp) a b).lo, (nextV a0 d0 (⟨0, 0⟩ : Sp) a b).hi⟩ : Sp)]) fR 1 0 rfl rfl rfl om) Try.underlying140 (i := Try.t142) kr fR ?_
 intro f6 g6 d4 _ h6 e4
 try dsimp only [List.set, List.eraseIdx, Value.cells] at e4
 refine nilO ⟨dA, ?_⟩
 refine wU [9] ?_
 refine wN ?_
 refine blockK_n <| thenK_n <| regionE <| pu1 ?_
 refine sAdd ((i : Nat) : Int) 1 ?_
 refine pu1 <| nT ?_
 have f4 := ((((((e4.pick 5 rfl).pick 5 rfl).dropAt 2 rfl).dropAt 2 rfl).dropAt 2 rfl).dropAt 2 rfl)
 change Sat _ _ (d4 :: H :: F) at f4
 exact ⟨(i + 1, (((zs.drop 0).take (((((nzs : Nat) : Int) - (takesV a0.code))).toNat - 0)) ++ [(⟨(nextV a0 d0 (⟨0, 0⟩ : Sp) a b).lo, (nextV a0 d0 (⟨0, 0⟩ : Sp) a b).hi⟩ : Sp)]), f6, ((((((nzs : Nat) : Int) - (takesV a0.code))).toNat - 0) + 1), g6, d4), od, alA, f4, om, by rw [hG, drop_at e0, ivGo_ok (x := d0) (y := (⟨0, 0⟩ : Sp)) (by unfold ivY; rw [if_neg om]) (by unfold ivX; rw [if_pos om]; have e := z0; rw [(by omega : zs.length - (takesV a0.code).toNat = (((nzs : Nat) : Int) - (takesV a0.code)).toNat), e] <;> rfl) ‹_› (m := ((zs.drop 0).take (((((nzs : Nat) : Int) - (takesV a0.code))).toNat - 0))) (by rw [List.drop_zero]; congr 1; omega)] <;> rfl, by simp only [List.length_append, List.length_take, List.length_drop, List.length_cons, List.length_nil]; rw [show (((min _ _ + (0 + 1) : Nat)) : Int) = ((zs.length : Nat) : Int) + (1 - takesV a0.code) from by omega]; exact hog, (by
   intro z hz
   rcases List.mem_append.1 hz with h | h
   ·exact hAc z (List.mem_of_mem_drop (List.mem_of_mem_take h))
   ·simp only [List.mem_singleton] at h; subst h; exact ⟨d1.2.1, d1.2.2⟩), by simp; omega, h6⟩
theorem r14_check (W w : World) (H : Chunk) (F : List Chunk) (ax : Option Addr) (nx kx : Nat) (x : List POp) (two : Bool) (a : Int) (b : Int) (out : Int) (hx : RdT encPOp 2 [H] ax nx kx x) (hS : Sat W w (H :: F)) :
  Calls Try.prog 83 #[.slice ax nx kx, .bool two, I a, I b, I out] w fun e w' => e = .returned (I (pwCode x two a b out)) ∧ Sat W w' (H :: F) := by
 have hl_x := hx.le; have hn_x := hx.len
 refine callsE (n := 35) Try.func83 rfl rfl (Nat.le_of_ble_eq_true rfl) ?_
 refine sR <| pu1 <| nT <| seqE <| sR <| pu2 ?_
 refine sF #[.slice ax nx kx, .bool two] Try.call92 (Calls.mono (r14_valid W _ _ [] ax nx kx x two (RdT.flat (hx.up 0 (by rfl))) (Sat.flat hS)) ?_)
 rintro _ _ ⟨rfl, g0⟩
 refine ⟨_, rfl, ?_⟩
 have b0 := Sat.unflat g0; clear g0
 change Sat _ _ (H :: F) at b0
 refine pu1 <| nT <| sR <| pu2 <| nT ?_
 by_cases h0 : ((opsCode x two) : Int) = 0
 rotate_left
 ·refine cT _ (bne_iff_ne.2 h0) ?_
  refine sR <| pu2 <| nT ?_
  refine retE (thenK_r <| ?_)
  refine retT [I (opsCode x two)] ?_
  change Sat _ _ (H :: F) at b0
  refine ⟨congrArg (fun c => Ending.returned (I c)) ?_, b0⟩
  unfold pwCode; (repeat' split) <;> first | rfl | omega | contradiction | (exfalso; omega) | (exfalso; simp_all; done) | (simp_all; done)
 refine cF _ (bne_eq_false_iff_eq.2 h0) ?_
 refine kT <| seqE <| sR <| pu1 ?_
 refine sF #[I out] Try.call87 (Calls.mono (r9_value W _ _ [] out (Sat.flat b0)) ?_)
 rintro _ _ ⟨rfl, i0⟩
 refine ⟨_, rfl, ?_⟩
 have a0 := Sat.unflat i0; clear i0
 change Sat _ _ (H :: F) at a0
 refine pu1 <| nT ?_
 rcases Classical.em ((1 : Int) ≤ out ∧ out ≤ (4294967296 : Int)) with c0 | c0
 rotate_left
 ·refine cT _ (congrArg Bool.not (decide_eq_false c0)) ?_
  refine sR <| pu1 <| nT ?_
  refine retE (thenK_r <| ?_)
  refine retT [I 2] ?_
  change Sat _ _ (H :: F) at a0
  refine ⟨congrArg (fun c => Ending.returned (I c)) ?_, a0⟩
  unfold pwCode; (repeat' split) <;> first | rfl | omega | contradiction | (exfalso; omega) | (exfalso; simp_all; done) | (simp_all; done)
 refine cF _ (congrArg Bool.not (decide_eq_true c0)) ?_
 refine kT <| seqE <| sR <| pu2 <| nT ?_
 rcases Classical.em (two = true) with d0 | d0
 ·refine cF _ (congrArg Bool.not d0) ?_
  refine kT <| sR <| pu3 ?_
  refine sF #[.slice ax nx kx, I a, I b] Try.call93 (Calls.mono (r14_interval W _ _ [] ax nx kx x a b (RdT.flat (hx.up 0 (by rfl))) (Sat.flat a0)) ?_)
  rintro _ _ ⟨rfl, j0⟩
  refine ⟨_, rfl, ?_⟩
  have e0 := Sat.unflat j0; clear j0
  change Sat _ _ (H :: F) at e0
  refine pu7 <| nT <| sR <| pu2 <| nT <| retE <| retT [I ((ivRes x a b).2.2)] ?_
  change Sat _ _ (H :: F) at e0
  refine ⟨congrArg (fun c => Ending.returned (I c)) ?_, e0⟩
  unfold pwCode; (repeat' split) <;> first | rfl | omega | contradiction | (exfalso; omega) | (exfalso; simp_all; done) | (simp_all; done)
 refine cT _ (congrArg Bool.not (Bool.eq_false_iff.2 d0)) ?_
 refine regionE <| pu1 <| nT <| sR <| pu3 ?_
 refine sF #[.slice ax nx kx, I a, I 1] Try.call93 (Calls.mono (r14_interval W _ _ [] ax nx kx x a 1 (RdT.flat (hx.up 0 (by rfl))) (Sat.flat a0)) ?_)
 rintro _ _ ⟨rfl, k0⟩
 refine ⟨_, rfl, ?_⟩
 have f0 := Sat.unflat k0; clear k0
 change Sat _ _ (H :: F) at f0
 refine pu7 <| nT <| sR <| pu2 <| nT <| retE <| retT [I ((ivRes x a 1).2.2)] ?_
 change Sat _ _ (H :: F) at f0
 refine ⟨congrArg (fun c => Ending.returned (I c)) ?_, f0⟩
 unfold pwCode; (repeat' split) <;> first | rfl | omega | contradiction | (exfalso; omega) | (exfalso; simp_all; done) | (simp_all; done)
end Go.Proofs.Ytcddcpaodcjecaa
