import Derived.Test.YtdingplbadblpaaGreatP2CkQ
namespace Go.Proofs.YtdingplbadblpaaGreat
open Go Go.E
set_option linter.unusedVariables false
set_option linter.unusedSimpArgs false
set_option linter.unnecessarySimpa false
set_option maxRecDepth 100000
set_option maxHeartbeats 2000000
variable {W w : World} {H : Chunk} {F : List Chunk}
-- squeezed
theorem p15_valid (s : Shape) (hS : Sat W w (H :: F)) :
  Ro Tryz.prog 104 #[.agg #[I s.w, I s.h, I s.max_]] (.bool (decide ((1 : Int) ≤ s.w ∧ s.w ≤ (128 : Int) ∧ (1 : Int) ≤ s.h ∧ s.h ≤ (128 : Int) ∧ s.w * s.h ≤ (4096 : Int) ∧ (1 : Int) ≤ s.max_ ∧ s.max_ ≤ (4294967296 : Int)))) W w (H :: F) := by
 refine callsA 42 Tryz.func104 rfl ?_
 refine sR ?_
 refine sBox hS (.agg #[I s.w, I s.h, I s.max_]) #[I s.w, I s.h, I s.max_] ?_
 intro _ _ a0
 refine pu1 <| nT <| seqE <| sR <| pu1 ?_
 refine sL a0 0 0 (I s.w) (Tryz.isAgg3 _) ?_
 refine pu2 ?_
 refine sD 8 (s.w < 1) (fun b0 => ?_) (fun b0 => ?_)
 ·refine pu16 <| pu8 <| nT <| cTt <| sR <| pu1 <| nT <| retE <| thenK_r <| retT [.bool false] ?_
  have c0 := (a0.dropAt 0 rfl)
  exact ⟨congrArg (fun b => Ending.returned (.bool b)) (decide_eq_false om).symm, c0⟩
 refine pu1 <| gY ?_
 refine sL a0 0 0 (I s.w) (Tryz.isAgg3 _) ?_
 refine pu3 ?_
 refine sD 13 (s.w > 128) (fun d0 => ?_) (fun d0 => ?_)
 ·refine pu16 <| pu3 <| nT <| cTt <| sR <| pu1 <| nT <| retE <| thenK_r <| retT [.bool false] ?_
  have e0 := (a0.dropAt 0 rfl)
  exact ⟨congrArg (fun b => Ending.returned (.bool b)) (decide_eq_false om).symm, e0⟩
 refine pu1 <| gY ?_
 refine sL a0 0 1 (I s.h) (Tryz.isAgg3 _) ?_
 refine pu3 ?_
 refine sD 18 (s.h < 1) (fun f0 => ?_) (fun f0 => ?_)
 ·refine pu14 <| nT <| cTt <| sR <| pu1 <| nT <| retE <| thenK_r <| retT [.bool false] ?_
  have g0 := (a0.dropAt 0 rfl)
  exact ⟨congrArg (fun b => Ending.returned (.bool b)) (decide_eq_false om).symm, g0⟩
 refine pu1 <| gY ?_
 refine sL a0 0 1 (I s.h) (Tryz.isAgg3 _) ?_
 refine pu3 ?_
 refine sD 23 (s.h > 128) (fun h0 => ?_) (fun h0 => ?_)
 ·refine pu9 <| nT <| cTt <| sR <| pu1 <| nT <| retE <| thenK_r <| retT [.bool false] ?_
  have i0 := (a0.dropAt 0 rfl)
  exact ⟨congrArg (fun b => Ending.returned (.bool b)) (decide_eq_false om).symm, i0⟩
 refine pu1 <| gY ?_
 refine sL a0 0 2 (I s.max_) (Tryz.isAgg3 _) ?_
 refine pu3 ?_
 refine sD 28 (s.max_ < 1) (fun j0 => ?_) (fun j0 => ?_)
 ·refine pu4 <| nT <| cTt <| sR <| pu1 <| nT <| retE <| thenK_r <| retT [.bool false] ?_
  have k0 := (a0.dropAt 0 rfl)
  exact ⟨congrArg (fun b => Ending.returned (.bool b)) (decide_eq_false om).symm, k0⟩
 refine pu1 <| gY ?_
 refine sL a0 0 2 (I s.max_) (Tryz.isAgg3 _) ?_
 refine pu2 <| nT ?_
 refine cD (s.max_ > 4294967296) (fun l0 => ?_) (fun l0 => ?_)
 ·refine sR <| pu1 <| nT <| retE <| thenK_r <| retT [.bool false] ?_
  have m0 := (a0.dropAt 0 rfl)
  exact ⟨congrArg (fun b => Ending.returned (.bool b)) (decide_eq_false om).symm, m0⟩
 refine kT <| sR <| pu1 ?_
 refine sL a0 0 0 (I s.w) (Tryz.isAgg3 _) ?_
 refine pu1 ?_
 refine sL a0 0 1 (I s.h) (Tryz.isAgg3 _) ?_
 refine cR Tryz.call141 (p1_mul s.w s.h 4096 (od) (Sat.flat a0)) ?_
 intro _ n0
 refine pu5 <| nT <| sR <| pu2 <| nT <| retE <| retT [.bool (mulOK s.w s.h 4096)] ?_
 have o0 := (n0.dropAt 0 rfl)
 exact ⟨congrArg (fun b => Ending.returned (.bool b)) (show mulOK s.w s.h 4096 = _ from decide_eq_decide.2 om), o0⟩
theorem p15_edged (x : Int) (hS : Sat W w (H :: F)) :
  Ro Tryz.prog 106 #[I x] (.bool (decide (x = 1 ∨ x = 2 ∨ x = 3))) W w (H :: F) := by
 refine callsA 13 Tryz.func106 rfl ?_
 refine sR <| pu1 <| nT <| sR <| pu3 ?_
 refine sE 5 x 1 (fun a0 => ?_) (fun a0 => ?_)
 ·refine pu8 <| nT <| retE <| retT [.bool true] ?_
  refine ⟨congrArg (fun b => Ending.returned (.bool b)) ?_, hS⟩
  first | rfl | (rw [Bool.eq_iff_iff]; simp only [decide_eq_true_eq, beq_iff_eq, bne_iff_ne, ne_eq, Bool.not_eq_true', decide_eq_false_iff_not, true_iff, false_iff, iff_true, iff_false, Bool.false_eq_true, Bool.and_eq_true, Bool.or_eq_true, gt_iff_lt, ge_iff_le] <;> omega) | (rw [Bool.eq_iff_iff]; simp [*] <;> omega) | (simp_all; done)
 refine pu4 ?_
 refine sE 9 x 2 (fun b0 => ?_) (fun b0 => ?_)
 ·refine pu4 <| nT <| retE <| retT [.bool true] ?_
  refine ⟨congrArg (fun b => Ending.returned (.bool b)) ?_, hS⟩
  first | rfl | (rw [Bool.eq_iff_iff]; simp only [decide_eq_true_eq, beq_iff_eq, bne_iff_ne, ne_eq, Bool.not_eq_true', decide_eq_false_iff_not, true_iff, false_iff, iff_true, iff_false, Bool.false_eq_true, Bool.and_eq_true, Bool.or_eq_true, gt_iff_lt, ge_iff_le] <;> omega) | (rw [Bool.eq_iff_iff]; simp [*] <;> omega) | (simp_all; done)
 refine pu4 <| nT <| retE <| retT [.bool ((x : Int) == 3)] ?_
 refine ⟨congrArg (fun b => Ending.returned (.bool b)) ?_, hS⟩
 first | rfl | (rw [Bool.eq_iff_iff]; simp only [decide_eq_true_eq, beq_iff_eq, bne_iff_ne, ne_eq, Bool.not_eq_true', decide_eq_false_iff_not, true_iff, false_iff, iff_true, iff_false, Bool.false_eq_true, Bool.and_eq_true, Bool.or_eq_true, gt_iff_lt, ge_iff_le] <;> omega) | (rw [Bool.eq_iff_iff]; simp [*] <;> omega) | (simp_all; done)
theorem p15_pair (q : Stage) (hq : Stage.Ok [H] q) (hS : Sat W w (H :: F)) :
  Ro Tryz.prog 105 #[.agg (encStage q).toArray] (.bool (decide (q.kind = 6 ∧ ¬ q.b = -1))) W w (H :: F) := by
 have hl_q_weights := hq.weights.le; have hn_q_weights := hq.weights.len
 have hl_q_row := hq.row.le; have hn_q_row := hq.row.len
 have hl_q_col := hq.col.le; have hn_q_col := hq.col.len
 have hl_q_x := hq.x.le; have hn_q_x := hq.x.len
 have hl_q_y := hq.y.le; have hn_q_y := hq.y.len
 have hl_q_ops := hq.ops.le; have hn_q_ops := hq.ops.len
 refine callsA 11 Tryz.func105 rfl ?_
 refine sR ?_
 refine sBox hS (.agg (encStage q).toArray) (encStage q).toArray ?_
 intro _ _ a0
 refine pu1 <| nT <| sR <| pu1 ?_
 refine sL a0 0 0 (I q.kind) (Tryz.isAgg3 _) ?_
 refine pu2 ?_
 refine sE 6 q.kind 6 (fun b0 => ?_) (fun b0 => ?_)
 rotate_left
 ·refine pu5 <| nT <| retE <| retT [.bool false] ?_
  have c0 := (a0.dropAt 0 rfl)
  refine ⟨congrArg (fun b => Ending.returned (.bool b)) ?_, c0⟩
  first | rfl | (rw [Bool.eq_iff_iff]; simp only [decide_eq_true_eq, beq_iff_eq, bne_iff_ne, ne_eq, Bool.not_eq_true', decide_eq_false_iff_not, true_iff, false_iff, iff_true, iff_false, Bool.false_eq_true, Bool.and_eq_true, Bool.or_eq_true, gt_iff_lt, ge_iff_le] <;> omega) | (rw [Bool.eq_iff_iff]; simp [*] <;> omega) | (simp_all; done)
 refine pu1 <| gY ?_
 refine sL a0 0 2 (I q.b) (Tryz.isAgg3 _) ?_
 refine pu3 <| nT <| retE <| retT [.bool ((q.b : Int) != (-1))] ?_
 have d0 := (a0.dropAt 0 rfl)
 refine ⟨congrArg (fun b => Ending.returned (.bool b)) ?_, d0⟩
 first | rfl | (rw [Bool.eq_iff_iff]; simp only [decide_eq_true_eq, beq_iff_eq, bne_iff_ne, ne_eq, Bool.not_eq_true', decide_eq_false_iff_not, true_iff, false_iff, iff_true, iff_false, Bool.false_eq_true, Bool.and_eq_true, Bool.or_eq_true, gt_iff_lt, ge_iff_le] <;> omega) | (rw [Bool.eq_iff_iff]; simp [*] <;> omega) | (simp_all; done)
theorem p15_sources (q : Stage) (hq : Stage.Ok [H] q) (hS : Sat W w (H :: F)) :
  Calls Tryz.prog 127 #[.agg (encStage q).toArray] w fun e w' => ∃ (az : Option Addr) (nz kz : Nat) (G : Chunk), e = .returned (.slice az nz kz) ∧ OwnT encI 3 1 az nz kz (srcs q.v) G ∧ Sat W w' (G :: H :: F) := by
 have hl_q_weights := hq.weights.le; have hn_q_weights := hq.weights.len
 have hl_q_row := hq.row.le; have hn_q_row := hq.row.len
 have hl_q_col := hq.col.le; have hn_q_col := hq.col.len
 have hl_q_x := hq.x.le; have hn_q_x := hq.x.len
 have hl_q_y := hq.y.le; have hn_q_y := hq.y.len
 have hl_q_ops := hq.ops.le; have hn_q_ops := hq.ops.len
 refine callsA 13 Tryz.func127 rfl ?_
 refine sR ?_
 refine sBox hS (.agg (encStage q).toArray) (encStage q).toArray ?_
 intro _ _ b0
 refine pu1 <| nT <| seqE <| sR ?_
 refine lA b0 0 0 18 (Tryz.isAgg38 _) (Tryz.sizeOf38 _) ?_
 refine cR Tryz.call105 (p15_pair q ⟨(RdT.flat (hq.weights.up 1 (by rfl))), (RdT.flat (hq.row.up 1 (by rfl))), (RdT.flat (hq.col.up 1 (by rfl))), (RdT.flat (hq.x.up 1 (by rfl))), (fun z hz => (hq.xD z hz).of_mem (mem_flat1 1 (by rfl))), (RdT.flat (hq.y.up 1 (by rfl))), (fun z hz => (hq.yD z hz).of_mem (mem_flat1 1 (by rfl))), (RdT.flat (hq.ops.up 1 (by rfl)))⟩ (Sat.flat b0)) ?_
 intro _ a0
 refine nT ?_
 refine cD (q.kind = 6 ∧ ¬ q.b = -1) (fun e0 => ?_) (fun e0 => ?_)
 rotate_left
 ·refine kT <| sR <| pu1 ?_
  refine sL a0 0 1 (I q.a) (Tryz.isAgg3 _) ?_
  refine sBS a0 #[I q.a] Tryz.runUnderlying22 Tryz.sizeOf3 Tryz.zeroValue3 ?_
  intro c0 _ f0
  refine pu1 <| nT <| retE <| retT [.slice (At c0 0) 1 1] ?_
  have g0 := OwnT.blk (enc := encI) (sz := 1) (b := c0) (c := #[I q.a]) (E := 3) (xs := [q.a]) fR 1 rfl rfl rfl om
  have h0 := (f0.dropAt 1 rfl)
  have hl : [q.a] = srcs q.v := (by unfold srcs; rw [if_neg (by unfold twoP; simp only [Stage.v]; omega)]; rfl)
  have hrd := g0
  rw [hl] at hrd
  exact ⟨_, _, _, _, rfl, hrd, h0⟩
 refine sR <| pu1 ?_
 refine sL a0 0 1 (I q.a) (Tryz.isAgg3 _) ?_
 refine pu1 ?_
 refine sL a0 0 2 (I q.b) (Tryz.isAgg3 _) ?_
 refine sBS a0 #[I q.a, I q.b] Tryz.runUnderlying22 Tryz.sizeOf3 Tryz.zeroValue3 ?_
 intro d0 _ i0
 refine pu1 <| nT <| retE <| thenK_r <| retT [.slice (At d0 0) 2 2] ?_
 have j0 := OwnT.blk (enc := encI) (sz := 1) (b := d0) (c := #[I q.a, I q.b]) (E := 3) (xs := [q.a, q.b]) fR 2 rfl rfl rfl om
 have k0 := (i0.dropAt 1 rfl)
 have hl : [q.a, q.b] = srcs q.v := (by unfold srcs; rw [if_pos (by unfold twoP; simp only [Stage.v]; omega)]; rfl)
 have hrd := j0
 rw [hl] at hrd
 exact ⟨_, _, _, _, rfl, hrd, k0⟩
theorem p15_is {b bz : Nat} {q : Stage} {k : Int} (hS : Sat W w ([(b, .cells (encStage q).toArray 38 (0, 0))] :: [(bz, .cells #[I k] 3 (0, 0))] :: F)) :
  Calls Tryz.prog 140 #[.slice (At bz 0) 1 1, Pt b 0] w fun e w' => e = .returned (.bool (decide (q.kind = k))) ∧ Sat W w' ([(b, .cells (encStage q).toArray 38 (0, 0))] :: [(bz, .cells #[I k] 3 (0, 0))] :: F) := by
 refine callsA 17 Tryz.func140 rfl ?_
 refine sR <| pu1 <| nT <| seqE <| sR <| pu3 <| nT <| blockE ?_
 refine loopN 3 ?_
 refine roundS ?_
 refine sR <| pu1 <| nT <| seqE <| cTt <| kT <| seqE <| blockE <| sR ?_
 refine stepY (Pt bz 0) rfl rfl (Y_idx (a := (At bz 0)) (i := 0) (len := 1) (cap := 1) rfl Tryz.runUnderlying22 Tryz.sizeOf3 kr kr ⟨_, rfl, add_off _ 0 _, by decide, by decide⟩) ?_
 refine sL hS 1 0 (I k) (Tryz.isAgg3 _) ?_
 refine pu1 <| nT <| sR <| pu1 ?_
 refine sL hS 0 0 (I q.kind) (Tryz.isAgg3 _) ?_
 refine pu2 <| nT ?_
 refine cE q.kind k (fun a0 => ?_) (fun a0 => ?_)
 ·refine sR <| pu1 <| nT <| retE <| blockK_r <| thenK_r <| tR <| thenK_r <| retT [.bool true] ?_
  exact ⟨congrArg (fun b => Ending.returned (.bool b)) ((decide_eq_true om).symm), hS⟩
 refine skipE <| blockK_n <| thenK_n <| regionE <| pu2 <| nT ?_
 refine roundS ?_
 refine sR <| pu1 <| nT <| seqE <| cFf <| exitE <| xB <| thenK_n <| sR <| pu1 <| nT <| retE <| retT [.bool false] ?_
 exact ⟨congrArg (fun b => Ending.returned (.bool b)) ((decide_eq_false om).symm), hS⟩
theorem p15_fields (q : Stage) (hq : Stage.Ok [H] q) (hS : Sat W w (H :: F)) :
  Ro Tryz.prog 103 #[.agg (encStage q).toArray] (.bool (decide (fieldsP q.v))) W w (H :: F) := by
 have hl_q_weights := hq.weights.le; have hn_q_weights := hq.weights.len
 have hl_q_row := hq.row.le; have hn_q_row := hq.row.len
 have hl_q_col := hq.col.le; have hn_q_col := hq.col.len
 have hl_q_x := hq.x.le; have hn_q_x := hq.x.len
 have hl_q_y := hq.y.le; have hn_q_y := hq.y.len
 have hl_q_ops := hq.ops.le; have hn_q_ops := hq.ops.len
 have hmx : (q.x.l.map Tap.v).length = q.x.n := by simp [hn_q_x]
 have hmy : (q.y.l.map Tap.v).length = q.y.n := by simp [hn_q_y]
 refine callsA 146 Tryz.func103 rfl ?_
 refine sR ?_
 refine sBox hS (.agg (encStage q).toArray) (encStage q).toArray ?_
 intro b0 _ a0
 refine pu1 <| nT <| seqE <| sR <| pu1 ?_
 refine sL a0 0 0 (I q.kind) (Tryz.isAgg3 _) ?_
 refine pu2 ?_
 refine sD 12 (q.kind < 1) (fun l1 => ?_) (fun l1 => ?_)
 ·refine pu4 <| nT <| cTt <| sR <| pu1 <| nT <| retE <| thenK_r <| retT [.bool false] ?_
  have m1 := (a0.dropAt 0 rfl)
  exact ⟨congrArg (fun b => Ending.returned (.bool b)) (decide_eq_false (p := fieldsP q.v) (by unfold fieldsP; simp only [Stage.v]; omega)).symm, m1⟩
 refine pu1 <| gY ?_
 refine sL a0 0 0 (I q.kind) (Tryz.isAgg3 _) ?_
 refine pu2 <| nT ?_
 refine cD (q.kind > 6) (fun n1 => ?_) (fun n1 => ?_)
 ·refine sR <| pu1 <| nT <| retE <| thenK_r <| retT [.bool false] ?_
  have o1 := (a0.dropAt 0 rfl)
  exact ⟨congrArg (fun b => Ending.returned (.bool b)) (decide_eq_false (p := fieldsP q.v) (by unfold fieldsP; simp only [Stage.v]; omega)).symm, o1⟩
 refine kT ?_
 rcases (by omega : q.kind = 1 ∨ q.kind = 2 ∨ q.kind = 3 ∨ q.kind = 4 ∨ q.kind = 5 ∨ q.kind = 6) with la | ma | na | oa | pa | p1
 ·refine seqE <| sR <| pu1 ?_
  refine sL a0 0 0 (I q.kind) (Tryz.isAgg3 _) ?_
  refine pu2 ?_
  have q1 : ¬ ((q.kind : Int) = 6) := by omega
  refine sFix 20 _ true (bne_iff_ne.2 q1) ?_
  refine pu1 <| gY ?_
  refine sL a0 0 2 (I q.b) (Tryz.isAgg3 _) ?_
  refine pu2 <| nT ?_
  refine cN q.b (-1) (fun r1 => ?_) (fun r1 => ?_)
  rotate_left
  ·refine sR <| pu1 <| nT <| retE <| thenK_r <| retT [.bool false] ?_
   have s1 := (a0.dropAt 0 rfl)
   exact ⟨congrArg (fun b => Ending.returned (.bool b)) (decide_eq_false (p := fieldsP q.v) (by unfold fieldsP; simp only [Stage.v]; omega)).symm, s1⟩
  refine kT <| sR <| pu2 <| nT <| sR <| pu1 ?_
  refine sL a0 0 0 (I q.kind) (Tryz.isAgg3 _) ?_
  refine cR Tryz.call106 (p15_edged q.kind (Sat.flat a0)) ?_
  intro _ t1
  refine pu1 <| nT <| sR <| pu1 ?_
  refine sBS t1 #[I 1] Tryz.runUnderlying22 Tryz.sizeOf3 Tryz.zeroValue3 ?_
  intro _ _ u1
  have v1 := (u1.picks [0, 1])
  refine cXc #[Pt b0 0] Tryz.call140 (p15_is v1) ?_
  rintro _ _ ⟨rfl, w1⟩
  refine pu1 <| nT <| sR <| pu1 ?_
  refine sBS w1 #[I 2] Tryz.runUnderlying22 Tryz.sizeOf3 Tryz.zeroValue3 ?_
  intro _ _ x1
  have y1 := (x1.picks [0, 1])
  refine cXc #[Pt b0 0] Tryz.call140 (p15_is y1) ?_
  rintro _ _ ⟨rfl, z1⟩
  refine pu1 <| nT <| sR <| pu1 ?_
  refine sBS z1 #[I 3] Tryz.runUnderlying22 Tryz.sizeOf3 Tryz.zeroValue3 ?_
  intro _ _ a2
  have b2 := (a2.picks [0, 1])
  refine cXc #[Pt b0 0] Tryz.call140 (p15_is b2) ?_
  rintro _ _ ⟨rfl, c2⟩
  refine pu1 <| nT <| sR <| pu1 ?_
  refine sBS c2 #[I 6] Tryz.runUnderlying22 Tryz.sizeOf3 Tryz.zeroValue3 ?_
  intro _ _ d2
  have e2 := (d2.picks [0, 1])
  refine cXc #[Pt b0 0] Tryz.call140 (p15_is e2) ?_
  rintro _ _ ⟨rfl, f0⟩
  refine pu1 <| nT <| sR <| pu2 ?_
  have n0 : q.kind = 1 ∨ q.kind = 2 ∨ q.kind = 3 := om
  refine sFix 42 _ true (decide_eq_true n0) ?_
  refine pu8 ?_
  have f2 : q.kind = 1 := om
  refine sFix 50 _ true (decide_eq_true f2) ?_
  refine pu16 <| pu3 ?_
  have x0 : ¬ (q.kind = 2) := by omega
  refine sFix 69 _ false (decide_eq_false x0) ?_
  refine pu1 <| gY ?_
  refine sL f0 0 9 (.slice q.row.a q.row.n q.row.k) (Tryz.isAgg22 _) ?_
  refine pu3 ?_
  refine sE 74 ((q.row.n : Nat) : Int) 0 (fun g2 => ?_) (fun g2 => ?_)
  rotate_left
  ·refine pu16 <| pu16 <| pu16 <| pu16 <| pu8 <| nT <| retE <| retT [.bool false] ?_
   have h2 := (f0.drops [0, 0, 0, 0, 0])
   exact ⟨congrArg (fun b => Ending.returned (.bool b)) (decide_eq_false (p := fieldsP q.v) (by unfold fieldsP; simp only [Stage.v]; omega)).symm, h2⟩
  refine pu1 <| gY ?_
  refine sL f0 0 10 (.slice q.col.a q.col.n q.col.k) (Tryz.isAgg22 _) ?_
  refine pu6 ?_
  refine sE 82 ((q.col.n : Nat) : Int) 0 (fun i2 => ?_) (fun i2 => ?_)
  rotate_left
  ·refine pu16 <| pu16 <| pu16 <| pu16 <| nT <| retE <| retT [.bool false] ?_
   have j2 := (f0.drops [0, 0, 0, 0, 0])
   exact ⟨congrArg (fun b => Ending.returned (.bool b)) (decide_eq_false (p := fieldsP q.v) (by unfold fieldsP; simp only [Stage.v]; omega)).symm, j2⟩
  refine pu2 ?_
  refine sFix 84 _ true (decide_eq_true n0) ?_
  refine pu8 ?_
  refine sFix 92 _ false (decide_eq_false x0) ?_
  refine pu3 ?_
  have y0 : ¬ (q.kind = 3) := by omega
  refine sFix 95 _ false (decide_eq_false y0) ?_
  refine pu1 <| gY ?_
  refine sL f0 0 12 (I q.shift2) (Tryz.isAgg3 _) ?_
  refine pu4 ?_
  refine sE 101 q.shift2 0 (fun k2 => ?_) (fun k2 => ?_)
  rotate_left
  ·refine pu16 <| pu16 <| pu13 <| nT <| retE <| retT [.bool false] ?_
   have l2 := (f0.drops [0, 0, 0, 0, 0])
   exact ⟨congrArg (fun b => Ending.returned (.bool b)) (decide_eq_false (p := fieldsP q.v) (by unfold fieldsP; simp only [Stage.v]; omega)).symm, l2⟩
  refine pu2 ?_
  refine sFix 103 _ false (decide_eq_false y0) ?_
  refine pu1 <| gY ?_
  refine sL f0 0 13 (.slice q.x.a q.x.n q.x.k) (Tryz.isAgg35 _) ?_
  refine pu3 ?_
  refine sE 108 ((q.x.n : Nat) : Int) 0 (fun m2 => ?_) (fun m2 => ?_)
  rotate_left
  ·refine pu16 <| pu16 <| pu6 <| nT <| retE <| retT [.bool false] ?_
   have n2 := (f0.drops [0, 0, 0, 0, 0])
   exact ⟨congrArg (fun b => Ending.returned (.bool b)) (decide_eq_false (p := fieldsP q.v) (by unfold fieldsP; simp only [Stage.v]; omega)).symm, n2⟩
  refine pu1 <| gY ?_
  refine sL f0 0 14 (.slice q.y.a q.y.n q.y.k) (Tryz.isAgg35 _) ?_
  refine pu6 ?_
  refine sE 116 ((q.y.n : Nat) : Int) 0 (fun o2 => ?_) (fun o2 => ?_)
  rotate_left
  ·refine pu16 <| pu14 <| nT <| retE <| retT [.bool false] ?_
   have p2 := (f0.drops [0, 0, 0, 0, 0])
   exact ⟨congrArg (fun b => Ending.returned (.bool b)) (decide_eq_false (p := fieldsP q.v) (by unfold fieldsP; simp only [Stage.v]; omega)).symm, p2⟩
  refine pu1 <| gY ?_
  refine sBS f0 #[I 4] Tryz.runUnderlying22 Tryz.sizeOf3 Tryz.zeroValue3 ?_
  intro _ _ q2
  refine gY ?_
  have r2 := (q2.picks [0, 1])
  refine cXc #[Pt b0 0] Tryz.call140 (p15_is r2) ?_
  rintro _ _ ⟨rfl, j0⟩
  refine pu1 ?_
  have s2 : ¬ (q.kind = 4) := by omega
  refine sFix 120 _ false (decide_eq_false s2) ?_
  refine pu1 <| gY ?_
  refine sL j0 0 15 (I q.bins) (Tryz.isAgg3 _) ?_
  refine pu4 ?_
  refine sE 126 q.bins 0 (fun t2 => ?_) (fun t2 => ?_)
  rotate_left
  ·refine pu16 <| pu4 <| nT <| retE <| retT [.bool false] ?_
   have u2 := (j0.drops [0, 0, 0, 0, 0, 0])
   exact ⟨congrArg (fun b => Ending.returned (.bool b)) (decide_eq_false (p := fieldsP q.v) (by unfold fieldsP; simp only [Stage.v]; omega)).symm, u2⟩
  refine pu2 ?_
  have v2 : ¬ (q.kind = 6) := by omega
  refine sFix 128 _ false (decide_eq_false v2) ?_
  refine pu1 <| gY ?_
  refine sL j0 0 16 (.slice q.ops.a q.ops.n q.ops.k) (Tryz.isAgg36 _) ?_
  refine pu5 ?_
  refine sE 135 ((q.ops.n : Nat) : Int) 0 (fun w2 => ?_) (fun w2 => ?_)
  rotate_left
  ·refine pu11 <| nT <| retE <| retT [.bool false] ?_
   have x2 := (j0.drops [0, 0, 0, 0, 0, 0])
   exact ⟨congrArg (fun b => Ending.returned (.bool b)) (decide_eq_false (p := fieldsP q.v) (by unfold fieldsP; simp only [Stage.v]; omega)).symm, x2⟩
  refine pu2 ?_
  refine sFix 137 _ true (decide_eq_true n0) ?_
  refine pu9 <| nT <| retE <| retT [.bool true] ?_
  have y2 := (j0.drops [0, 0, 0, 0, 0, 0])
  exact ⟨congrArg (fun b => Ending.returned (.bool b)) (decide_eq_true (p := fieldsP q.v) (by unfold fieldsP; simp only [Stage.v]; omega)).symm, y2⟩
 ·refine seqE <| sR <| pu1 ?_
  refine sL a0 0 0 (I q.kind) (Tryz.isAgg3 _) ?_
  refine pu2 ?_
  have z2 : ¬ ((q.kind : Int) = 6) := by omega
  refine sFix 20 _ true (bne_iff_ne.2 z2) ?_
  refine pu1 <| gY ?_
  refine sL a0 0 2 (I q.b) (Tryz.isAgg3 _) ?_
  refine pu2 <| nT ?_
  refine cN q.b (-1) (fun a3 => ?_) (fun a3 => ?_)
  rotate_left
  ·refine sR <| pu1 <| nT <| retE <| thenK_r <| retT [.bool false] ?_
   have b3 := (a0.dropAt 0 rfl)
   exact ⟨congrArg (fun b => Ending.returned (.bool b)) (decide_eq_false (p := fieldsP q.v) (by unfold fieldsP; simp only [Stage.v]; omega)).symm, b3⟩
  refine kT <| sR <| pu2 <| nT <| sR <| pu1 ?_
  refine sL a0 0 0 (I q.kind) (Tryz.isAgg3 _) ?_
  refine cR Tryz.call106 (p15_edged q.kind (Sat.flat a0)) ?_
  intro _ c3
  refine pu1 <| nT <| sR <| pu1 ?_
  refine sBS c3 #[I 1] Tryz.runUnderlying22 Tryz.sizeOf3 Tryz.zeroValue3 ?_
  intro _ _ d3
  have e3 := (d3.picks [0, 1])
  refine cXc #[Pt b0 0] Tryz.call140 (p15_is e3) ?_
  rintro _ _ ⟨rfl, f3⟩
  refine pu1 <| nT <| sR <| pu1 ?_
  refine sBS f3 #[I 2] Tryz.runUnderlying22 Tryz.sizeOf3 Tryz.zeroValue3 ?_
  intro _ _ g3
  have h3 := (g3.picks [0, 1])
  refine cXc #[Pt b0 0] Tryz.call140 (p15_is h3) ?_
  rintro _ _ ⟨rfl, i3⟩
  refine pu1 <| nT <| sR <| pu1 ?_
  refine sBS i3 #[I 3] Tryz.runUnderlying22 Tryz.sizeOf3 Tryz.zeroValue3 ?_
  intro _ _ j3
  have k3 := (j3.picks [0, 1])
  refine cXc #[Pt b0 0] Tryz.call140 (p15_is k3) ?_
  rintro _ _ ⟨rfl, l3⟩
  refine pu1 <| nT <| sR <| pu1 ?_
  refine sBS l3 #[I 6] Tryz.runUnderlying22 Tryz.sizeOf3 Tryz.zeroValue3 ?_
  intro _ _ m3
  have n3 := (m3.picks [0, 1])
  refine cXc #[Pt b0 0] Tryz.call140 (p15_is n3) ?_
  rintro _ _ ⟨rfl, g0⟩
  refine pu1 <| nT <| sR <| pu2 ?_
  have o0 : q.kind = 1 ∨ q.kind = 2 ∨ q.kind = 3 := om
  refine sFix 42 _ true (decide_eq_true o0) ?_
  refine pu8 ?_
  have o3 : ¬ (q.kind = 1) := by omega
  refine sFix 50 _ false (decide_eq_false o3) ?_
  refine pu1 <| gY ?_
  refine sL g0 0 6 (I q.kW) (Tryz.isAgg3 _) ?_
  refine pu2 ?_
  refine sE 54 q.kW 0 (fun p3 => ?_) (fun p3 => ?_)
  rotate_left
  ·refine pu16 <| pu16 <| pu16 <| pu16 <| pu16 <| pu12 <| nT <| retE <| retT [.bool false] ?_
   have q3 := (g0.drops [0, 0, 0, 0, 0])
   exact ⟨congrArg (fun b => Ending.returned (.bool b)) (decide_eq_false (p := fieldsP q.v) (by unfold fieldsP; simp only [Stage.v]; omega)).symm, q3⟩
  refine pu1 <| gY ?_
  refine sL g0 0 7 (I q.kH) (Tryz.isAgg3 _) ?_
  refine pu3 ?_
  refine sE 59 q.kH 0 (fun r3 => ?_) (fun r3 => ?_)
  rotate_left
  ·refine pu16 <| pu16 <| pu16 <| pu16 <| pu16 <| pu7 <| nT <| retE <| retT [.bool false] ?_
   have s3 := (g0.drops [0, 0, 0, 0, 0])
   exact ⟨congrArg (fun b => Ending.returned (.bool b)) (decide_eq_false (p := fieldsP q.v) (by unfold fieldsP; simp only [Stage.v]; omega)).symm, s3⟩
  refine pu1 <| gY ?_
  refine sL g0 0 8 (.slice q.weights.a q.weights.n q.weights.k) (Tryz.isAgg22 _) ?_
  refine pu6 ?_
  refine sE 67 ((q.weights.n : Nat) : Int) 0 (fun t3 => ?_) (fun t3 => ?_)
  rotate_left
  ·refine pu16 <| pu16 <| pu16 <| pu16 <| pu15 <| nT <| retE <| retT [.bool false] ?_
   have u3 := (g0.drops [0, 0, 0, 0, 0])
   exact ⟨congrArg (fun b => Ending.returned (.bool b)) (decide_eq_false (p := fieldsP q.v) (by unfold fieldsP; simp only [Stage.v]; omega)).symm, u3⟩
  refine pu2 ?_
  have z0 : q.kind = 2 := om
  refine sFix 69 _ true (decide_eq_true z0) ?_
  refine pu15 ?_
  refine sFix 84 _ true (decide_eq_true o0) ?_
  refine pu8 ?_
  refine sFix 92 _ true (decide_eq_true z0) ?_
  refine pu11 ?_
  have v3 : ¬ (q.kind = 3) := by omega
  refine sFix 103 _ false (decide_eq_false v3) ?_
  refine pu1 <| gY ?_
  refine sL g0 0 13 (.slice q.x.a q.x.n q.x.k) (Tryz.isAgg35 _) ?_
  refine pu3 ?_
  refine sE 108 ((q.x.n : Nat) : Int) 0 (fun w3 => ?_) (fun w3 => ?_)
  rotate_left
  ·refine pu16 <| pu16 <| pu6 <| nT <| retE <| retT [.bool false] ?_
   have x3 := (g0.drops [0, 0, 0, 0, 0])
   exact ⟨congrArg (fun b => Ending.returned (.bool b)) (decide_eq_false (p := fieldsP q.v) (by unfold fieldsP; simp only [Stage.v]; omega)).symm, x3⟩
  refine pu1 <| gY ?_
  refine sL g0 0 14 (.slice q.y.a q.y.n q.y.k) (Tryz.isAgg35 _) ?_
  refine pu6 ?_
  refine sE 116 ((q.y.n : Nat) : Int) 0 (fun y3 => ?_) (fun y3 => ?_)
  rotate_left
  ·refine pu16 <| pu14 <| nT <| retE <| retT [.bool false] ?_
   have z3 := (g0.drops [0, 0, 0, 0, 0])
   exact ⟨congrArg (fun b => Ending.returned (.bool b)) (decide_eq_false (p := fieldsP q.v) (by unfold fieldsP; simp only [Stage.v]; omega)).symm, z3⟩
  refine pu1 <| gY ?_
  refine sBS g0 #[I 4] Tryz.runUnderlying22 Tryz.sizeOf3 Tryz.zeroValue3 ?_
  intro _ _ a4
  refine gY ?_
  have b4 := (a4.picks [0, 1])
  refine cXc #[Pt b0 0] Tryz.call140 (p15_is b4) ?_
  rintro _ _ ⟨rfl, k0⟩
  refine pu1 ?_
  have c4 : ¬ (q.kind = 4) := by omega
  refine sFix 120 _ false (decide_eq_false c4) ?_
  refine pu1 <| gY ?_
  refine sL k0 0 15 (I q.bins) (Tryz.isAgg3 _) ?_
  refine pu4 ?_
  refine sE 126 q.bins 0 (fun d4 => ?_) (fun d4 => ?_)
  rotate_left
  ·refine pu16 <| pu4 <| nT <| retE <| retT [.bool false] ?_
   have e4 := (k0.drops [0, 0, 0, 0, 0, 0])
   exact ⟨congrArg (fun b => Ending.returned (.bool b)) (decide_eq_false (p := fieldsP q.v) (by unfold fieldsP; simp only [Stage.v]; omega)).symm, e4⟩
  refine pu2 ?_
  have f4 : ¬ (q.kind = 6) := by omega
  refine sFix 128 _ false (decide_eq_false f4) ?_
  refine pu1 <| gY ?_
  refine sL k0 0 16 (.slice q.ops.a q.ops.n q.ops.k) (Tryz.isAgg36 _) ?_
  refine pu5 ?_
  refine sE 135 ((q.ops.n : Nat) : Int) 0 (fun g4 => ?_) (fun g4 => ?_)
  rotate_left
  ·refine pu11 <| nT <| retE <| retT [.bool false] ?_
   have h4 := (k0.drops [0, 0, 0, 0, 0, 0])
   exact ⟨congrArg (fun b => Ending.returned (.bool b)) (decide_eq_false (p := fieldsP q.v) (by unfold fieldsP; simp only [Stage.v]; omega)).symm, h4⟩
  refine pu2 ?_
  refine sFix 137 _ true (decide_eq_true o0) ?_
  refine pu9 <| nT <| retE <| retT [.bool true] ?_
  have i4 := (k0.drops [0, 0, 0, 0, 0, 0])
  exact ⟨congrArg (fun b => Ending.returned (.bool b)) (decide_eq_true (p := fieldsP q.v) (by unfold fieldsP; simp only [Stage.v]; omega)).symm, i4⟩
 ·refine seqE <| sR <| pu1 ?_
  refine sL a0 0 0 (I q.kind) (Tryz.isAgg3 _) ?_
  refine pu2 ?_
  have j4 : ¬ ((q.kind : Int) = 6) := by omega
  refine sFix 20 _ true (bne_iff_ne.2 j4) ?_
  refine pu1 <| gY ?_
  refine sL a0 0 2 (I q.b) (Tryz.isAgg3 _) ?_
  refine pu2 <| nT ?_
  refine cN q.b (-1) (fun k4 => ?_) (fun k4 => ?_)
  rotate_left
  ·refine sR <| pu1 <| nT <| retE <| thenK_r <| retT [.bool false] ?_
   have l4 := (a0.dropAt 0 rfl)
   exact ⟨congrArg (fun b => Ending.returned (.bool b)) (decide_eq_false (p := fieldsP q.v) (by unfold fieldsP; simp only [Stage.v]; omega)).symm, l4⟩
  refine kT <| sR <| pu2 <| nT <| sR <| pu1 ?_
  refine sL a0 0 0 (I q.kind) (Tryz.isAgg3 _) ?_
  refine cR Tryz.call106 (p15_edged q.kind (Sat.flat a0)) ?_
  intro _ m4
  refine pu1 <| nT <| sR <| pu1 ?_
  refine sBS m4 #[I 1] Tryz.runUnderlying22 Tryz.sizeOf3 Tryz.zeroValue3 ?_
  intro _ _ n4
  have o4 := (n4.picks [0, 1])
  refine cXc #[Pt b0 0] Tryz.call140 (p15_is o4) ?_
  rintro _ _ ⟨rfl, p4⟩
  refine pu1 <| nT <| sR <| pu1 ?_
  refine sBS p4 #[I 2] Tryz.runUnderlying22 Tryz.sizeOf3 Tryz.zeroValue3 ?_
  intro _ _ q4
  have r4 := (q4.picks [0, 1])
  refine cXc #[Pt b0 0] Tryz.call140 (p15_is r4) ?_
  rintro _ _ ⟨rfl, s4⟩
  refine pu1 <| nT <| sR <| pu1 ?_
  refine sBS s4 #[I 3] Tryz.runUnderlying22 Tryz.sizeOf3 Tryz.zeroValue3 ?_
  intro _ _ t4
  have u4 := (t4.picks [0, 1])
  refine cXc #[Pt b0 0] Tryz.call140 (p15_is u4) ?_
  rintro _ _ ⟨rfl, v4⟩
  refine pu1 <| nT <| sR <| pu1 ?_
  refine sBS v4 #[I 6] Tryz.runUnderlying22 Tryz.sizeOf3 Tryz.zeroValue3 ?_
  intro _ _ w4
  have x4 := (w4.picks [0, 1])
  refine cXc #[Pt b0 0] Tryz.call140 (p15_is x4) ?_
  rintro _ _ ⟨rfl, h0⟩
  refine pu1 <| nT <| sR <| pu2 ?_
  have p0 : q.kind = 1 ∨ q.kind = 2 ∨ q.kind = 3 := om
  refine sFix 42 _ true (decide_eq_true p0) ?_
  refine pu8 ?_
  have y4 : ¬ (q.kind = 1) := by omega
  refine sFix 50 _ false (decide_eq_false y4) ?_
  refine pu1 <| gY ?_
  refine sL h0 0 6 (I q.kW) (Tryz.isAgg3 _) ?_
  refine pu2 ?_
  refine sE 54 q.kW 0 (fun z4 => ?_) (fun z4 => ?_)
  rotate_left
  ·refine pu16 <| pu16 <| pu16 <| pu16 <| pu16 <| pu12 <| nT <| retE <| retT [.bool false] ?_
   have a5 := (h0.drops [0, 0, 0, 0, 0])
   exact ⟨congrArg (fun b => Ending.returned (.bool b)) (decide_eq_false (p := fieldsP q.v) (by unfold fieldsP; simp only [Stage.v]; omega)).symm, a5⟩
  refine pu1 <| gY ?_
  refine sL h0 0 7 (I q.kH) (Tryz.isAgg3 _) ?_
  refine pu3 ?_
  refine sE 59 q.kH 0 (fun b5 => ?_) (fun b5 => ?_)
  rotate_left
  ·refine pu16 <| pu16 <| pu16 <| pu16 <| pu16 <| pu7 <| nT <| retE <| retT [.bool false] ?_
   have c5 := (h0.drops [0, 0, 0, 0, 0])
   exact ⟨congrArg (fun b => Ending.returned (.bool b)) (decide_eq_false (p := fieldsP q.v) (by unfold fieldsP; simp only [Stage.v]; omega)).symm, c5⟩
  refine pu1 <| gY ?_
  refine sL h0 0 8 (.slice q.weights.a q.weights.n q.weights.k) (Tryz.isAgg22 _) ?_
  refine pu6 ?_
  refine sE 67 ((q.weights.n : Nat) : Int) 0 (fun d5 => ?_) (fun d5 => ?_)
  rotate_left
  ·refine pu16 <| pu16 <| pu16 <| pu16 <| pu15 <| nT <| retE <| retT [.bool false] ?_
   have e5 := (h0.drops [0, 0, 0, 0, 0])
   exact ⟨congrArg (fun b => Ending.returned (.bool b)) (decide_eq_false (p := fieldsP q.v) (by unfold fieldsP; simp only [Stage.v]; omega)).symm, e5⟩
  refine pu2 ?_
  have a1 : ¬ (q.kind = 2) := by omega
  refine sFix 69 _ false (decide_eq_false a1) ?_
  refine pu1 <| gY ?_
  refine sL h0 0 9 (.slice q.row.a q.row.n q.row.k) (Tryz.isAgg22 _) ?_
  refine pu3 ?_
  refine sE 74 ((q.row.n : Nat) : Int) 0 (fun f5 => ?_) (fun f5 => ?_)
  rotate_left
  ·refine pu16 <| pu16 <| pu16 <| pu16 <| pu8 <| nT <| retE <| retT [.bool false] ?_
   have g5 := (h0.drops [0, 0, 0, 0, 0])
   exact ⟨congrArg (fun b => Ending.returned (.bool b)) (decide_eq_false (p := fieldsP q.v) (by unfold fieldsP; simp only [Stage.v]; omega)).symm, g5⟩
  refine pu1 <| gY ?_
  refine sL h0 0 10 (.slice q.col.a q.col.n q.col.k) (Tryz.isAgg22 _) ?_
  refine pu6 ?_
  refine sE 82 ((q.col.n : Nat) : Int) 0 (fun h5 => ?_) (fun h5 => ?_)
  rotate_left
  ·refine pu16 <| pu16 <| pu16 <| pu16 <| nT <| retE <| retT [.bool false] ?_
   have i5 := (h0.drops [0, 0, 0, 0, 0])
   exact ⟨congrArg (fun b => Ending.returned (.bool b)) (decide_eq_false (p := fieldsP q.v) (by unfold fieldsP; simp only [Stage.v]; omega)).symm, i5⟩
  refine pu2 ?_
  refine sFix 84 _ true (decide_eq_true p0) ?_
  refine pu8 ?_
  refine sFix 92 _ false (decide_eq_false a1) ?_
  refine pu3 ?_
  have b1 : q.kind = 3 := om
  refine sFix 95 _ true (decide_eq_true b1) ?_
  refine pu8 ?_
  refine sFix 103 _ true (decide_eq_true b1) ?_
  refine pu14 <| gY ?_
  refine sBS h0 #[I 4] Tryz.runUnderlying22 Tryz.sizeOf3 Tryz.zeroValue3 ?_
  intro _ _ j5
  refine gY ?_
  have k5 := (j5.picks [0, 1])
  refine cXc #[Pt b0 0] Tryz.call140 (p15_is k5) ?_
  rintro _ _ ⟨rfl, l0⟩
  refine pu1 ?_
  have l5 : ¬ (q.kind = 4) := by omega
  refine sFix 120 _ false (decide_eq_false l5) ?_
  refine pu1 <| gY ?_
  refine sL l0 0 15 (I q.bins) (Tryz.isAgg3 _) ?_
  refine pu4 ?_
  refine sE 126 q.bins 0 (fun m5 => ?_) (fun m5 => ?_)
  rotate_left
  ·refine pu16 <| pu4 <| nT <| retE <| retT [.bool false] ?_
   have n5 := (l0.drops [0, 0, 0, 0, 0, 0])
   exact ⟨congrArg (fun b => Ending.returned (.bool b)) (decide_eq_false (p := fieldsP q.v) (by unfold fieldsP; simp only [Stage.v]; omega)).symm, n5⟩
  refine pu2 ?_
  have o5 : ¬ (q.kind = 6) := by omega
  refine sFix 128 _ false (decide_eq_false o5) ?_
  refine pu1 <| gY ?_
  refine sL l0 0 16 (.slice q.ops.a q.ops.n q.ops.k) (Tryz.isAgg36 _) ?_
  refine pu5 ?_
  refine sE 135 ((q.ops.n : Nat) : Int) 0 (fun p5 => ?_) (fun p5 => ?_)
  rotate_left
  ·refine pu11 <| nT <| retE <| retT [.bool false] ?_
   have q5 := (l0.drops [0, 0, 0, 0, 0, 0])
   exact ⟨congrArg (fun b => Ending.returned (.bool b)) (decide_eq_false (p := fieldsP q.v) (by unfold fieldsP; simp only [Stage.v]; omega)).symm, q5⟩
  refine pu2 ?_
  refine sFix 137 _ true (decide_eq_true p0) ?_
  refine pu9 <| nT <| retE <| retT [.bool true] ?_
  have r5 := (l0.drops [0, 0, 0, 0, 0, 0])
  exact ⟨congrArg (fun b => Ending.returned (.bool b)) (decide_eq_true (p := fieldsP q.v) (by unfold fieldsP; simp only [Stage.v]; omega)).symm, r5⟩
 ·refine seqE <| sR <| pu1 ?_
  refine sL a0 0 0 (I q.kind) (Tryz.isAgg3 _) ?_
  refine pu2 ?_
  have s5 : ¬ ((q.kind : Int) = 6) := by omega
  refine sFix 20 _ true (bne_iff_ne.2 s5) ?_
  refine pu1 <| gY ?_
  refine sL a0 0 2 (I q.b) (Tryz.isAgg3 _) ?_
  refine pu2 <| nT ?_
  refine cN q.b (-1) (fun t5 => ?_) (fun t5 => ?_)
  rotate_left
  ·refine sR <| pu1 <| nT <| retE <| thenK_r <| retT [.bool false] ?_
   have u5 := (a0.dropAt 0 rfl)
   exact ⟨congrArg (fun b => Ending.returned (.bool b)) (decide_eq_false (p := fieldsP q.v) (by unfold fieldsP; simp only [Stage.v]; omega)).symm, u5⟩
  refine kT <| sR <| pu2 <| nT <| sR <| pu1 ?_
  refine sL a0 0 0 (I q.kind) (Tryz.isAgg3 _) ?_
  refine cR Tryz.call106 (p15_edged q.kind (Sat.flat a0)) ?_
  intro _ v5
  refine pu1 <| nT <| sR <| pu1 ?_
  refine sBS v5 #[I 1] Tryz.runUnderlying22 Tryz.sizeOf3 Tryz.zeroValue3 ?_
  intro _ _ w5
  have x5 := (w5.picks [0, 1])
  refine cXc #[Pt b0 0] Tryz.call140 (p15_is x5) ?_
  rintro _ _ ⟨rfl, y5⟩
  refine pu1 <| nT <| sR <| pu1 ?_
  refine sBS y5 #[I 2] Tryz.runUnderlying22 Tryz.sizeOf3 Tryz.zeroValue3 ?_
  intro _ _ z5
  have a6 := (z5.picks [0, 1])
  refine cXc #[Pt b0 0] Tryz.call140 (p15_is a6) ?_
  rintro _ _ ⟨rfl, b6⟩
  refine pu1 <| nT <| sR <| pu1 ?_
  refine sBS b6 #[I 3] Tryz.runUnderlying22 Tryz.sizeOf3 Tryz.zeroValue3 ?_
  intro _ _ c6
  have d6 := (c6.picks [0, 1])
  refine cXc #[Pt b0 0] Tryz.call140 (p15_is d6) ?_
  rintro _ _ ⟨rfl, e6⟩
  refine pu1 <| nT <| sR <| pu1 ?_
  refine sBS e6 #[I 6] Tryz.runUnderlying22 Tryz.sizeOf3 Tryz.zeroValue3 ?_
  intro _ _ f6
  have g6 := (f6.picks [0, 1])
  refine cXc #[Pt b0 0] Tryz.call140 (p15_is g6) ?_
  rintro _ _ ⟨rfl, c0⟩
  refine pu1 <| nT <| sR <| pu2 ?_
  have q0 : ¬ (q.kind = 1 ∨ q.kind = 2 ∨ q.kind = 3) := om
  refine sFix 42 _ false (decide_eq_false q0) ?_
  refine pu1 <| gY ?_
  refine lA c0 0 4 2 (Tryz.isAgg34 _) (Tryz.sizeOf34 _) ?_
  refine pu1 <| gY ?_
  refine stepY (.bool (((q.edgePolicy : Int) == 0) && ((q.edgeFill : Int) == 0))) rfl rfl (Y_eqS rfl kr kr (eqve34 _ q.edgePolicy q.edgeFill 0 0)) ?_
  refine pu2 ?_
  rcases Classical.em ((q.edgePolicy : Int) = 0 ∧ (q.edgeFill : Int) = 0) with r0 | r0
  rotate_left
  ·refine sFix 48 _ false (show (((q.edgePolicy : Int) == 0) && ((q.edgeFill : Int) == 0)) = false from by simpa using r0) ?_
   refine pu16 <| pu16 <| pu16 <| pu16 <| pu16 <| pu16 <| pu2 <| nT <| retE <| retT [.bool false] ?_
   have h6 := (c0.drops [0, 0, 0, 0, 0])
   exact ⟨congrArg (fun b => Ending.returned (.bool b)) (decide_eq_false (p := fieldsP q.v) (by unfold fieldsP; simp only [Stage.v]; omega)).symm, h6⟩
  refine sFix 48 _ true (show (((q.edgePolicy : Int) == 0) && ((q.edgeFill : Int) == 0)) = true from by simpa using r0) ?_
  refine pu2 ?_
  have i6 : ¬ (q.kind = 1) := by omega
  refine sFix 50 _ false (decide_eq_false i6) ?_
  refine pu1 <| gY ?_
  refine sL c0 0 6 (I q.kW) (Tryz.isAgg3 _) ?_
  refine pu2 ?_
  refine sE 54 q.kW 0 (fun j6 => ?_) (fun j6 => ?_)
  rotate_left
  ·refine pu16 <| pu16 <| pu16 <| pu16 <| pu16 <| pu12 <| nT <| retE <| retT [.bool false] ?_
   have k6 := (c0.drops [0, 0, 0, 0, 0])
   exact ⟨congrArg (fun b => Ending.returned (.bool b)) (decide_eq_false (p := fieldsP q.v) (by unfold fieldsP; simp only [Stage.v]; omega)).symm, k6⟩
  refine pu1 <| gY ?_
  refine sL c0 0 7 (I q.kH) (Tryz.isAgg3 _) ?_
  refine pu3 ?_
  refine sE 59 q.kH 0 (fun l6 => ?_) (fun l6 => ?_)
  rotate_left
  ·refine pu16 <| pu16 <| pu16 <| pu16 <| pu16 <| pu7 <| nT <| retE <| retT [.bool false] ?_
   have m6 := (c0.drops [0, 0, 0, 0, 0])
   exact ⟨congrArg (fun b => Ending.returned (.bool b)) (decide_eq_false (p := fieldsP q.v) (by unfold fieldsP; simp only [Stage.v]; omega)).symm, m6⟩
  refine pu1 <| gY ?_
  refine sL c0 0 8 (.slice q.weights.a q.weights.n q.weights.k) (Tryz.isAgg22 _) ?_
  refine pu6 ?_
  refine sE 67 ((q.weights.n : Nat) : Int) 0 (fun n6 => ?_) (fun n6 => ?_)
  rotate_left
  ·refine pu16 <| pu16 <| pu16 <| pu16 <| pu15 <| nT <| retE <| retT [.bool false] ?_
   have o6 := (c0.drops [0, 0, 0, 0, 0])
   exact ⟨congrArg (fun b => Ending.returned (.bool b)) (decide_eq_false (p := fieldsP q.v) (by unfold fieldsP; simp only [Stage.v]; omega)).symm, o6⟩
  refine pu2 ?_
  have c1 : ¬ (q.kind = 2) := by omega
  refine sFix 69 _ false (decide_eq_false c1) ?_
  refine pu1 <| gY ?_
  refine sL c0 0 9 (.slice q.row.a q.row.n q.row.k) (Tryz.isAgg22 _) ?_
  refine pu3 ?_
  refine sE 74 ((q.row.n : Nat) : Int) 0 (fun p6 => ?_) (fun p6 => ?_)
  rotate_left
  ·refine pu16 <| pu16 <| pu16 <| pu16 <| pu8 <| nT <| retE <| retT [.bool false] ?_
   have q6 := (c0.drops [0, 0, 0, 0, 0])
   exact ⟨congrArg (fun b => Ending.returned (.bool b)) (decide_eq_false (p := fieldsP q.v) (by unfold fieldsP; simp only [Stage.v]; omega)).symm, q6⟩
  refine pu1 <| gY ?_
  refine sL c0 0 10 (.slice q.col.a q.col.n q.col.k) (Tryz.isAgg22 _) ?_
  refine pu6 ?_
  refine sE 82 ((q.col.n : Nat) : Int) 0 (fun r6 => ?_) (fun r6 => ?_)
  rotate_left
  ·refine pu16 <| pu16 <| pu16 <| pu16 <| nT <| retE <| retT [.bool false] ?_
   have s6 := (c0.drops [0, 0, 0, 0, 0])
   exact ⟨congrArg (fun b => Ending.returned (.bool b)) (decide_eq_false (p := fieldsP q.v) (by unfold fieldsP; simp only [Stage.v]; omega)).symm, s6⟩
  refine pu2 ?_
  refine sFix 84 _ false (decide_eq_false q0) ?_
  refine pu1 <| gY ?_
  refine sL c0 0 11 (I q.shift) (Tryz.isAgg3 _) ?_
  refine pu4 ?_
  refine sE 90 q.shift 0 (fun t6 => ?_) (fun t6 => ?_)
  rotate_left
  ·refine pu16 <| pu16 <| pu16 <| pu8 <| nT <| retE <| retT [.bool false] ?_
   have u6 := (c0.drops [0, 0, 0, 0, 0])
   exact ⟨congrArg (fun b => Ending.returned (.bool b)) (decide_eq_false (p := fieldsP q.v) (by unfold fieldsP; simp only [Stage.v]; omega)).symm, u6⟩
  refine pu2 ?_
  refine sFix 92 _ false (decide_eq_false c1) ?_
  refine pu3 ?_
  have d1 : ¬ (q.kind = 3) := by omega
  refine sFix 95 _ false (decide_eq_false d1) ?_
  refine pu1 <| gY ?_
  refine sL c0 0 12 (I q.shift2) (Tryz.isAgg3 _) ?_
  refine pu4 ?_
  refine sE 101 q.shift2 0 (fun v6 => ?_) (fun v6 => ?_)
  rotate_left
  ·refine pu16 <| pu16 <| pu13 <| nT <| retE <| retT [.bool false] ?_
   have w6 := (c0.drops [0, 0, 0, 0, 0])
   exact ⟨congrArg (fun b => Ending.returned (.bool b)) (decide_eq_false (p := fieldsP q.v) (by unfold fieldsP; simp only [Stage.v]; omega)).symm, w6⟩
  refine pu2 ?_
  refine sFix 103 _ false (decide_eq_false d1) ?_
  refine pu1 <| gY ?_
  refine sL c0 0 13 (.slice q.x.a q.x.n q.x.k) (Tryz.isAgg35 _) ?_
  refine pu3 ?_
  refine sE 108 ((q.x.n : Nat) : Int) 0 (fun x6 => ?_) (fun x6 => ?_)
  rotate_left
  ·refine pu16 <| pu16 <| pu6 <| nT <| retE <| retT [.bool false] ?_
   have y6 := (c0.drops [0, 0, 0, 0, 0])
   exact ⟨congrArg (fun b => Ending.returned (.bool b)) (decide_eq_false (p := fieldsP q.v) (by unfold fieldsP; simp only [Stage.v]; omega)).symm, y6⟩
  refine pu1 <| gY ?_
  refine sL c0 0 14 (.slice q.y.a q.y.n q.y.k) (Tryz.isAgg35 _) ?_
  refine pu6 ?_
  refine sE 116 ((q.y.n : Nat) : Int) 0 (fun z6 => ?_) (fun z6 => ?_)
  rotate_left
  ·refine pu16 <| pu14 <| nT <| retE <| retT [.bool false] ?_
   have a7 := (c0.drops [0, 0, 0, 0, 0])
   exact ⟨congrArg (fun b => Ending.returned (.bool b)) (decide_eq_false (p := fieldsP q.v) (by unfold fieldsP; simp only [Stage.v]; omega)).symm, a7⟩
  refine pu1 <| gY ?_
  refine sBS c0 #[I 4] Tryz.runUnderlying22 Tryz.sizeOf3 Tryz.zeroValue3 ?_
  intro _ _ b7
  refine gY ?_
  have c7 := (b7.picks [0, 1])
  refine cXc #[Pt b0 0] Tryz.call140 (p15_is c7) ?_
  rintro _ _ ⟨rfl, m0⟩
  refine pu1 ?_
  have d7 : q.kind = 4 := om
  refine sFix 120 _ true (decide_eq_true d7) ?_
  refine pu8 ?_
  have e1 : ¬ (q.kind = 6) := by omega
  refine sFix 128 _ false (decide_eq_false e1) ?_
  refine pu1 <| gY ?_
  refine sL m0 0 16 (.slice q.ops.a q.ops.n q.ops.k) (Tryz.isAgg36 _) ?_
  refine pu5 ?_
  refine sE 135 ((q.ops.n : Nat) : Int) 0 (fun e7 => ?_) (fun e7 => ?_)
  rotate_left
  ·refine pu11 <| nT <| retE <| retT [.bool false] ?_
   have f7 := (m0.drops [0, 0, 0, 0, 0, 0])
   exact ⟨congrArg (fun b => Ending.returned (.bool b)) (decide_eq_false (p := fieldsP q.v) (by unfold fieldsP; simp only [Stage.v]; omega)).symm, f7⟩
  refine pu2 ?_
  refine sFix 137 _ false (decide_eq_false q0) ?_
  refine pu3 ?_
  refine sFix 140 _ false (decide_eq_false e1) ?_
  refine pu1 <| gY ?_
  refine sL m0 0 17 (I q.max_) (Tryz.isAgg3 _) ?_
  refine pu4 <| nT <| retE <| retT [.bool ((q.max_ : Int) == 0)] ?_
  have g7 := (m0.drops [0, 0, 0, 0, 0, 0])
  exact ⟨congrArg (fun b => Ending.returned (.bool b)) (show ((q.max_ : Int) == 0) = decide (fieldsP q.v) from by rw [Bool.eq_iff_iff]; simp only [decide_eq_true_eq, beq_iff_eq]; unfold fieldsP; simp only [Stage.v]; omega), g7⟩
 ·refine seqE <| sR <| pu1 ?_
  refine sL a0 0 0 (I q.kind) (Tryz.isAgg3 _) ?_
  refine pu2 ?_
  have h7 : ¬ ((q.kind : Int) = 6) := by omega
  refine sFix 20 _ true (bne_iff_ne.2 h7) ?_
  refine pu1 <| gY ?_
  refine sL a0 0 2 (I q.b) (Tryz.isAgg3 _) ?_
  refine pu2 <| nT ?_
  refine cN q.b (-1) (fun i7 => ?_) (fun i7 => ?_)
  rotate_left
  ·refine sR <| pu1 <| nT <| retE <| thenK_r <| retT [.bool false] ?_
   have j7 := (a0.dropAt 0 rfl)
   exact ⟨congrArg (fun b => Ending.returned (.bool b)) (decide_eq_false (p := fieldsP q.v) (by unfold fieldsP; simp only [Stage.v]; omega)).symm, j7⟩
  refine kT <| sR <| pu2 <| nT <| sR <| pu1 ?_
  refine sL a0 0 0 (I q.kind) (Tryz.isAgg3 _) ?_
  refine cR Tryz.call106 (p15_edged q.kind (Sat.flat a0)) ?_
  intro _ k7
  refine pu1 <| nT <| sR <| pu1 ?_
  refine sBS k7 #[I 1] Tryz.runUnderlying22 Tryz.sizeOf3 Tryz.zeroValue3 ?_
  intro _ _ l7
  have m7 := (l7.picks [0, 1])
  refine cXc #[Pt b0 0] Tryz.call140 (p15_is m7) ?_
  rintro _ _ ⟨rfl, n7⟩
  refine pu1 <| nT <| sR <| pu1 ?_
  refine sBS n7 #[I 2] Tryz.runUnderlying22 Tryz.sizeOf3 Tryz.zeroValue3 ?_
  intro _ _ o7
  have p7 := (o7.picks [0, 1])
  refine cXc #[Pt b0 0] Tryz.call140 (p15_is p7) ?_
  rintro _ _ ⟨rfl, q7⟩
  refine pu1 <| nT <| sR <| pu1 ?_
  refine sBS q7 #[I 3] Tryz.runUnderlying22 Tryz.sizeOf3 Tryz.zeroValue3 ?_
  intro _ _ r7
  have s7 := (r7.picks [0, 1])
  refine cXc #[Pt b0 0] Tryz.call140 (p15_is s7) ?_
  rintro _ _ ⟨rfl, t7⟩
  refine pu1 <| nT <| sR <| pu1 ?_
  refine sBS t7 #[I 6] Tryz.runUnderlying22 Tryz.sizeOf3 Tryz.zeroValue3 ?_
  intro _ _ u7
  have v7 := (u7.picks [0, 1])
  refine cXc #[Pt b0 0] Tryz.call140 (p15_is v7) ?_
  rintro _ _ ⟨rfl, d0⟩
  refine pu1 <| nT <| sR <| pu2 ?_
  have s0 : ¬ (q.kind = 1 ∨ q.kind = 2 ∨ q.kind = 3) := om
  refine sFix 42 _ false (decide_eq_false s0) ?_
  refine pu1 <| gY ?_
  refine lA d0 0 4 2 (Tryz.isAgg34 _) (Tryz.sizeOf34 _) ?_
  refine pu1 <| gY ?_
  refine stepY (.bool (((q.edgePolicy : Int) == 0) && ((q.edgeFill : Int) == 0))) rfl rfl (Y_eqS rfl kr kr (eqve34 _ q.edgePolicy q.edgeFill 0 0)) ?_
  refine pu2 ?_
  rcases Classical.em ((q.edgePolicy : Int) = 0 ∧ (q.edgeFill : Int) = 0) with t0 | t0
  rotate_left
  ·refine sFix 48 _ false (show (((q.edgePolicy : Int) == 0) && ((q.edgeFill : Int) == 0)) = false from by simpa using t0) ?_
   refine pu16 <| pu16 <| pu16 <| pu16 <| pu16 <| pu16 <| pu2 <| nT <| retE <| retT [.bool false] ?_
   have w7 := (d0.drops [0, 0, 0, 0, 0])
   exact ⟨congrArg (fun b => Ending.returned (.bool b)) (decide_eq_false (p := fieldsP q.v) (by unfold fieldsP; simp only [Stage.v]; omega)).symm, w7⟩
  refine sFix 48 _ true (show (((q.edgePolicy : Int) == 0) && ((q.edgeFill : Int) == 0)) = true from by simpa using t0) ?_
  refine pu2 ?_
  have x7 : ¬ (q.kind = 1) := by omega
  refine sFix 50 _ false (decide_eq_false x7) ?_
  refine pu1 <| gY ?_
  refine sL d0 0 6 (I q.kW) (Tryz.isAgg3 _) ?_
  refine pu2 ?_
  refine sE 54 q.kW 0 (fun y7 => ?_) (fun y7 => ?_)
  rotate_left
  ·refine pu16 <| pu16 <| pu16 <| pu16 <| pu16 <| pu12 <| nT <| retE <| retT [.bool false] ?_
   have z7 := (d0.drops [0, 0, 0, 0, 0])
   exact ⟨congrArg (fun b => Ending.returned (.bool b)) (decide_eq_false (p := fieldsP q.v) (by unfold fieldsP; simp only [Stage.v]; omega)).symm, z7⟩
  refine pu1 <| gY ?_
  refine sL d0 0 7 (I q.kH) (Tryz.isAgg3 _) ?_
  refine pu3 ?_
  refine sE 59 q.kH 0 (fun a8 => ?_) (fun a8 => ?_)
  rotate_left
  ·refine pu16 <| pu16 <| pu16 <| pu16 <| pu16 <| pu7 <| nT <| retE <| retT [.bool false] ?_
   have b8 := (d0.drops [0, 0, 0, 0, 0])
   exact ⟨congrArg (fun b => Ending.returned (.bool b)) (decide_eq_false (p := fieldsP q.v) (by unfold fieldsP; simp only [Stage.v]; omega)).symm, b8⟩
  refine pu1 <| gY ?_
  refine sL d0 0 8 (.slice q.weights.a q.weights.n q.weights.k) (Tryz.isAgg22 _) ?_
  refine pu6 ?_
  refine sE 67 ((q.weights.n : Nat) : Int) 0 (fun c8 => ?_) (fun c8 => ?_)
  rotate_left
  ·refine pu16 <| pu16 <| pu16 <| pu16 <| pu15 <| nT <| retE <| retT [.bool false] ?_
   have d8 := (d0.drops [0, 0, 0, 0, 0])
   exact ⟨congrArg (fun b => Ending.returned (.bool b)) (decide_eq_false (p := fieldsP q.v) (by unfold fieldsP; simp only [Stage.v]; omega)).symm, d8⟩
  refine pu2 ?_
  have f1 : ¬ (q.kind = 2) := by omega
  refine sFix 69 _ false (decide_eq_false f1) ?_
  refine pu1 <| gY ?_
  refine sL d0 0 9 (.slice q.row.a q.row.n q.row.k) (Tryz.isAgg22 _) ?_
  refine pu3 ?_
  refine sE 74 ((q.row.n : Nat) : Int) 0 (fun e8 => ?_) (fun e8 => ?_)
  rotate_left
  ·refine pu16 <| pu16 <| pu16 <| pu16 <| pu8 <| nT <| retE <| retT [.bool false] ?_
   have f8 := (d0.drops [0, 0, 0, 0, 0])
   exact ⟨congrArg (fun b => Ending.returned (.bool b)) (decide_eq_false (p := fieldsP q.v) (by unfold fieldsP; simp only [Stage.v]; omega)).symm, f8⟩
  refine pu1 <| gY ?_
  refine sL d0 0 10 (.slice q.col.a q.col.n q.col.k) (Tryz.isAgg22 _) ?_
  refine pu6 ?_
  refine sE 82 ((q.col.n : Nat) : Int) 0 (fun g8 => ?_) (fun g8 => ?_)
  rotate_left
  ·refine pu16 <| pu16 <| pu16 <| pu16 <| nT <| retE <| retT [.bool false] ?_
   have h8 := (d0.drops [0, 0, 0, 0, 0])
   exact ⟨congrArg (fun b => Ending.returned (.bool b)) (decide_eq_false (p := fieldsP q.v) (by unfold fieldsP; simp only [Stage.v]; omega)).symm, h8⟩
  refine pu2 ?_
  refine sFix 84 _ false (decide_eq_false s0) ?_
  refine pu1 <| gY ?_
  refine sL d0 0 11 (I q.shift) (Tryz.isAgg3 _) ?_
  refine pu4 ?_
  refine sE 90 q.shift 0 (fun i8 => ?_) (fun i8 => ?_)
  rotate_left
  ·refine pu16 <| pu16 <| pu16 <| pu8 <| nT <| retE <| retT [.bool false] ?_
   have j8 := (d0.drops [0, 0, 0, 0, 0])
   exact ⟨congrArg (fun b => Ending.returned (.bool b)) (decide_eq_false (p := fieldsP q.v) (by unfold fieldsP; simp only [Stage.v]; omega)).symm, j8⟩
  refine pu2 ?_
  refine sFix 92 _ false (decide_eq_false f1) ?_
  refine pu3 ?_
  have g1 : ¬ (q.kind = 3) := by omega
  refine sFix 95 _ false (decide_eq_false g1) ?_
  refine pu1 <| gY ?_
  refine sL d0 0 12 (I q.shift2) (Tryz.isAgg3 _) ?_
  refine pu4 ?_
  refine sE 101 q.shift2 0 (fun k8 => ?_) (fun k8 => ?_)
  rotate_left
  ·refine pu16 <| pu16 <| pu13 <| nT <| retE <| retT [.bool false] ?_
   have l8 := (d0.drops [0, 0, 0, 0, 0])
   exact ⟨congrArg (fun b => Ending.returned (.bool b)) (decide_eq_false (p := fieldsP q.v) (by unfold fieldsP; simp only [Stage.v]; omega)).symm, l8⟩
  refine pu2 ?_
  refine sFix 103 _ false (decide_eq_false g1) ?_
  refine pu1 <| gY ?_
  refine sL d0 0 13 (.slice q.x.a q.x.n q.x.k) (Tryz.isAgg35 _) ?_
  refine pu3 ?_
  refine sE 108 ((q.x.n : Nat) : Int) 0 (fun m8 => ?_) (fun m8 => ?_)
  rotate_left
  ·refine pu16 <| pu16 <| pu6 <| nT <| retE <| retT [.bool false] ?_
   have n8 := (d0.drops [0, 0, 0, 0, 0])
   exact ⟨congrArg (fun b => Ending.returned (.bool b)) (decide_eq_false (p := fieldsP q.v) (by unfold fieldsP; simp only [Stage.v]; omega)).symm, n8⟩
  refine pu1 <| gY ?_
  refine sL d0 0 14 (.slice q.y.a q.y.n q.y.k) (Tryz.isAgg35 _) ?_
  refine pu6 ?_
  refine sE 116 ((q.y.n : Nat) : Int) 0 (fun o8 => ?_) (fun o8 => ?_)
  rotate_left
  ·refine pu16 <| pu14 <| nT <| retE <| retT [.bool false] ?_
   have p8 := (d0.drops [0, 0, 0, 0, 0])
   exact ⟨congrArg (fun b => Ending.returned (.bool b)) (decide_eq_false (p := fieldsP q.v) (by unfold fieldsP; simp only [Stage.v]; omega)).symm, p8⟩
  refine pu1 <| gY ?_
  refine sBS d0 #[I 4] Tryz.runUnderlying22 Tryz.sizeOf3 Tryz.zeroValue3 ?_
  intro _ _ q8
  refine gY ?_
  have r8 := (q8.picks [0, 1])
  refine cXc #[Pt b0 0] Tryz.call140 (p15_is r8) ?_
  rintro _ _ ⟨rfl, i0⟩
  refine pu1 ?_
  have s8 : ¬ (q.kind = 4) := by omega
  refine sFix 120 _ false (decide_eq_false s8) ?_
  refine pu1 <| gY ?_
  refine sL i0 0 15 (I q.bins) (Tryz.isAgg3 _) ?_
  refine pu4 ?_
  refine sE 126 q.bins 0 (fun t8 => ?_) (fun t8 => ?_)
  rotate_left
  ·refine pu16 <| pu4 <| nT <| retE <| retT [.bool false] ?_
   have u8 := (i0.drops [0, 0, 0, 0, 0, 0])
   exact ⟨congrArg (fun b => Ending.returned (.bool b)) (decide_eq_false (p := fieldsP q.v) (by unfold fieldsP; simp only [Stage.v]; omega)).symm, u8⟩
  refine pu2 ?_
  have h1 : ¬ (q.kind = 6) := by omega
  refine sFix 128 _ false (decide_eq_false h1) ?_
  refine pu1 <| gY ?_
  refine sL i0 0 16 (.slice q.ops.a q.ops.n q.ops.k) (Tryz.isAgg36 _) ?_
  refine pu5 ?_
  refine sE 135 ((q.ops.n : Nat) : Int) 0 (fun v8 => ?_) (fun v8 => ?_)
  rotate_left
  ·refine pu11 <| nT <| retE <| retT [.bool false] ?_
   have w8 := (i0.drops [0, 0, 0, 0, 0, 0])
   exact ⟨congrArg (fun b => Ending.returned (.bool b)) (decide_eq_false (p := fieldsP q.v) (by unfold fieldsP; simp only [Stage.v]; omega)).symm, w8⟩
  refine pu2 ?_
  refine sFix 137 _ false (decide_eq_false s0) ?_
  refine pu3 ?_
  refine sFix 140 _ false (decide_eq_false h1) ?_
  refine pu1 <| gY ?_
  refine sL i0 0 17 (I q.max_) (Tryz.isAgg3 _) ?_
  refine pu4 <| nT <| retE <| retT [.bool ((q.max_ : Int) == 0)] ?_
  have x8 := (i0.drops [0, 0, 0, 0, 0, 0])
  exact ⟨congrArg (fun b => Ending.returned (.bool b)) (show ((q.max_ : Int) == 0) = decide (fieldsP q.v) from by rw [Bool.eq_iff_iff]; simp only [decide_eq_true_eq, beq_iff_eq]; unfold fieldsP; simp only [Stage.v]; omega), x8⟩
 refine seqE <| sR <| pu1 ?_
 refine sL a0 0 0 (I q.kind) (Tryz.isAgg3 _) ?_
 refine pu2 ?_
 refine sFix 20 _ false (bne_eq_false_iff_eq.2 p1) ?_
 refine pu4 <| nT <| cFf <| kT <| sR <| pu2 <| nT <| sR <| pu1 ?_
 refine sL a0 0 0 (I q.kind) (Tryz.isAgg3 _) ?_
 refine cR Tryz.call106 (p15_edged q.kind (Sat.flat a0)) ?_
 intro _ y8
 refine pu1 <| nT <| sR <| pu1 ?_
 refine sBS y8 #[I 1] Tryz.runUnderlying22 Tryz.sizeOf3 Tryz.zeroValue3 ?_
 intro _ _ z8
 have a9 := (z8.picks [0, 1])
 refine cXc #[Pt b0 0] Tryz.call140 (p15_is a9) ?_
 rintro _ _ ⟨rfl, b9⟩
 refine pu1 <| nT <| sR <| pu1 ?_
 refine sBS b9 #[I 2] Tryz.runUnderlying22 Tryz.sizeOf3 Tryz.zeroValue3 ?_
 intro _ _ c9
 have d9 := (c9.picks [0, 1])
 refine cXc #[Pt b0 0] Tryz.call140 (p15_is d9) ?_
 rintro _ _ ⟨rfl, e9⟩
 refine pu1 <| nT <| sR <| pu1 ?_
 refine sBS e9 #[I 3] Tryz.runUnderlying22 Tryz.sizeOf3 Tryz.zeroValue3 ?_
 intro _ _ f9
 have g9 := (f9.picks [0, 1])
 refine cXc #[Pt b0 0] Tryz.call140 (p15_is g9) ?_
 rintro _ _ ⟨rfl, h9⟩
 refine pu1 <| nT <| sR <| pu1 ?_
 refine sBS h9 #[I 6] Tryz.runUnderlying22 Tryz.sizeOf3 Tryz.zeroValue3 ?_
 intro _ _ i9
 have j9 := (i9.picks [0, 1])
 refine cXc #[Pt b0 0] Tryz.call140 (p15_is j9) ?_
 rintro _ _ ⟨rfl, e0⟩
 refine pu1 <| nT <| sR <| pu2 ?_
 have u0 : ¬ (q.kind = 1 ∨ q.kind = 2 ∨ q.kind = 3) := om
 refine sFix 42 _ false (decide_eq_false u0) ?_
 refine pu1 <| gY ?_
 refine lA e0 0 4 2 (Tryz.isAgg34 _) (Tryz.sizeOf34 _) ?_
 refine pu1 <| gY ?_
 refine stepY (.bool (((q.edgePolicy : Int) == 0) && ((q.edgeFill : Int) == 0))) rfl rfl (Y_eqS rfl kr kr (eqve34 _ q.edgePolicy q.edgeFill 0 0)) ?_
 refine pu2 ?_
 rcases Classical.em ((q.edgePolicy : Int) = 0 ∧ (q.edgeFill : Int) = 0) with v0 | v0
 rotate_left
 ·refine sFix 48 _ false (show (((q.edgePolicy : Int) == 0) && ((q.edgeFill : Int) == 0)) = false from by simpa using v0) ?_
  refine pu16 <| pu16 <| pu16 <| pu16 <| pu16 <| pu16 <| pu2 <| nT <| retE <| retT [.bool false] ?_
  have k9 := (e0.drops [0, 0, 0, 0, 0])
  exact ⟨congrArg (fun b => Ending.returned (.bool b)) (decide_eq_false (p := fieldsP q.v) (by unfold fieldsP; simp only [Stage.v]; omega)).symm, k9⟩
 refine sFix 48 _ true (show (((q.edgePolicy : Int) == 0) && ((q.edgeFill : Int) == 0)) = true from by simpa using v0) ?_
 refine pu2 ?_
 have l9 : ¬ (q.kind = 1) := by omega
 refine sFix 50 _ false (decide_eq_false l9) ?_
 refine pu1 <| gY ?_
 refine sL e0 0 6 (I q.kW) (Tryz.isAgg3 _) ?_
 refine pu2 ?_
 refine sE 54 q.kW 0 (fun m9 => ?_) (fun m9 => ?_)
 rotate_left
 ·refine pu16 <| pu16 <| pu16 <| pu16 <| pu16 <| pu12 <| nT <| retE <| retT [.bool false] ?_
  have n9 := (e0.drops [0, 0, 0, 0, 0])
  exact ⟨congrArg (fun b => Ending.returned (.bool b)) (decide_eq_false (p := fieldsP q.v) (by unfold fieldsP; simp only [Stage.v]; omega)).symm, n9⟩
 refine pu1 <| gY ?_
 refine sL e0 0 7 (I q.kH) (Tryz.isAgg3 _) ?_
 refine pu3 ?_
 refine sE 59 q.kH 0 (fun o9 => ?_) (fun o9 => ?_)
 rotate_left
 ·refine pu16 <| pu16 <| pu16 <| pu16 <| pu16 <| pu7 <| nT <| retE <| retT [.bool false] ?_
  have p9 := (e0.drops [0, 0, 0, 0, 0])
  exact ⟨congrArg (fun b => Ending.returned (.bool b)) (decide_eq_false (p := fieldsP q.v) (by unfold fieldsP; simp only [Stage.v]; omega)).symm, p9⟩
 refine pu1 <| gY ?_
 refine sL e0 0 8 (.slice q.weights.a q.weights.n q.weights.k) (Tryz.isAgg22 _) ?_
 refine pu6 ?_
 refine sE 67 ((q.weights.n : Nat) : Int) 0 (fun q9 => ?_) (fun q9 => ?_)
 rotate_left
 ·refine pu16 <| pu16 <| pu16 <| pu16 <| pu15 <| nT <| retE <| retT [.bool false] ?_
  have r9 := (e0.drops [0, 0, 0, 0, 0])
  exact ⟨congrArg (fun b => Ending.returned (.bool b)) (decide_eq_false (p := fieldsP q.v) (by unfold fieldsP; simp only [Stage.v]; omega)).symm, r9⟩
 refine pu2 ?_
 have i1 : ¬ (q.kind = 2) := by omega
 refine sFix 69 _ false (decide_eq_false i1) ?_
 refine pu1 <| gY ?_
 refine sL e0 0 9 (.slice q.row.a q.row.n q.row.k) (Tryz.isAgg22 _) ?_
 refine pu3 ?_
 refine sE 74 ((q.row.n : Nat) : Int) 0 (fun s9 => ?_) (fun s9 => ?_)
 rotate_left
 ·refine pu16 <| pu16 <| pu16 <| pu16 <| pu8 <| nT <| retE <| retT [.bool false] ?_
  have t9 := (e0.drops [0, 0, 0, 0, 0])
  exact ⟨congrArg (fun b => Ending.returned (.bool b)) (decide_eq_false (p := fieldsP q.v) (by unfold fieldsP; simp only [Stage.v]; omega)).symm, t9⟩
 refine pu1 <| gY ?_
 refine sL e0 0 10 (.slice q.col.a q.col.n q.col.k) (Tryz.isAgg22 _) ?_
 refine pu6 ?_
 refine sE 82 ((q.col.n : Nat) : Int) 0 (fun u9 => ?_) (fun u9 => ?_)
 rotate_left
 ·refine pu16 <| pu16 <| pu16 <| pu16 <| nT <| retE <| retT [.bool false] ?_
  have v9 := (e0.drops [0, 0, 0, 0, 0])
  exact ⟨congrArg (fun b => Ending.returned (.bool b)) (decide_eq_false (p := fieldsP q.v) (by unfold fieldsP; simp only [Stage.v]; omega)).symm, v9⟩
 refine pu2 ?_
 refine sFix 84 _ false (decide_eq_false u0) ?_
 refine pu1 <| gY ?_
 refine sL e0 0 11 (I q.shift) (Tryz.isAgg3 _) ?_
 refine pu4 ?_
 refine sE 90 q.shift 0 (fun w9 => ?_) (fun w9 => ?_)
 rotate_left
 ·refine pu16 <| pu16 <| pu16 <| pu8 <| nT <| retE <| retT [.bool false] ?_
  have x9 := (e0.drops [0, 0, 0, 0, 0])
  exact ⟨congrArg (fun b => Ending.returned (.bool b)) (decide_eq_false (p := fieldsP q.v) (by unfold fieldsP; simp only [Stage.v]; omega)).symm, x9⟩
 refine pu2 ?_
 refine sFix 92 _ false (decide_eq_false i1) ?_
 refine pu3 ?_
 have j1 : ¬ (q.kind = 3) := by omega
 refine sFix 95 _ false (decide_eq_false j1) ?_
 refine pu1 <| gY ?_
 refine sL e0 0 12 (I q.shift2) (Tryz.isAgg3 _) ?_
 refine pu4 ?_
 refine sE 101 q.shift2 0 (fun y9 => ?_) (fun y9 => ?_)
 rotate_left
 ·refine pu16 <| pu16 <| pu13 <| nT <| retE <| retT [.bool false] ?_
  have z9 := (e0.drops [0, 0, 0, 0, 0])
  exact ⟨congrArg (fun b => Ending.returned (.bool b)) (decide_eq_false (p := fieldsP q.v) (by unfold fieldsP; simp only [Stage.v]; omega)).symm, z9⟩
 refine pu2 ?_
 refine sFix 103 _ false (decide_eq_false j1) ?_
 refine pu1 <| gY ?_
 refine sL e0 0 13 (.slice q.x.a q.x.n q.x.k) (Tryz.isAgg35 _) ?_
 refine pu3 ?_
 refine sE 108 ((q.x.n : Nat) : Int) 0 (fun aa => ?_) (fun aa => ?_)
 rotate_left
 ·refine pu16 <| pu16 <| pu6 <| nT <| retE <| retT [.bool false] ?_
  have ba := (e0.drops [0, 0, 0, 0, 0])
  exact ⟨congrArg (fun b => Ending.returned (.bool b)) (decide_eq_false (p := fieldsP q.v) (by unfold fieldsP; simp only [Stage.v]; omega)).symm, ba⟩
 refine pu1 <| gY ?_
 refine sL e0 0 14 (.slice q.y.a q.y.n q.y.k) (Tryz.isAgg35 _) ?_
 refine pu6 ?_
 refine sE 116 ((q.y.n : Nat) : Int) 0 (fun ca => ?_) (fun ca => ?_)
 rotate_left
 ·refine pu16 <| pu14 <| nT <| retE <| retT [.bool false] ?_
  have da := (e0.drops [0, 0, 0, 0, 0])
  exact ⟨congrArg (fun b => Ending.returned (.bool b)) (decide_eq_false (p := fieldsP q.v) (by unfold fieldsP; simp only [Stage.v]; omega)).symm, da⟩
 refine pu1 <| gY ?_
 refine sBS e0 #[I 4] Tryz.runUnderlying22 Tryz.sizeOf3 Tryz.zeroValue3 ?_
 intro _ _ ea
 refine gY ?_
 have fa := (ea.picks [0, 1])
 refine cXc #[Pt b0 0] Tryz.call140 (p15_is fa) ?_
 rintro _ _ ⟨rfl, w0⟩
 refine pu1 ?_
 have ga : ¬ (q.kind = 4) := by omega
 refine sFix 120 _ false (decide_eq_false ga) ?_
 refine pu1 <| gY ?_
 refine sL w0 0 15 (I q.bins) (Tryz.isAgg3 _) ?_
 refine pu4 ?_
 refine sE 126 q.bins 0 (fun ha => ?_) (fun ha => ?_)
 rotate_left
 ·refine pu16 <| pu4 <| nT <| retE <| retT [.bool false] ?_
  have ia := (w0.drops [0, 0, 0, 0, 0, 0])
  exact ⟨congrArg (fun b => Ending.returned (.bool b)) (decide_eq_false (p := fieldsP q.v) (by unfold fieldsP; simp only [Stage.v]; omega)).symm, ia⟩
 refine pu2 ?_
 have k1 : q.kind = 6 := om
 refine sFix 128 _ true (decide_eq_true k1) ?_
 refine pu9 ?_
 refine sFix 137 _ false (decide_eq_false u0) ?_
 refine pu3 ?_
 refine sFix 140 _ true (decide_eq_true k1) ?_
 refine pu6 <| nT <| retE <| retT [.bool true] ?_
 have ja := (w0.drops [0, 0, 0, 0, 0, 0])
 exact ⟨congrArg (fun b => Ending.returned (.bool b)) (decide_eq_true (p := fieldsP q.v) (by unfold fieldsP; simp only [Stage.v]; omega)).symm, ja⟩
def ptCode (q : StageV) (s t : Shape) : Int := if pwCode q.ops (decide (q.kind = 6 ∧ ¬ q.b = -1)) s.max_ t.max_ q.max_ = 0 then (if (q.kind = 6 ∧ ¬ q.b = -1) ∧ ¬ (s.w = t.w ∧ s.h = t.h) then 8 else 0) else pwCode q.ops (decide (q.kind = 6 ∧ ¬ q.b = -1)) s.max_ t.max_ q.max_
theorem pt_kernel {q : StageV} {s t : Shape} (h : ¬ (1 ≤ q.kind ∧ q.kind ≤ 5)) : ptCode q s t = (kernelV q s t).2 := by
  unfold ptCode kernelV
  rw [if_neg (show ¬ q.kind = 1 by omega), if_neg (show ¬ q.kind = 2 by omega), if_neg (show ¬ q.kind = 3 by omega), if_neg (show ¬ q.kind = 4 by omega), if_neg (show ¬ q.kind = 5 by omega)]
  split
  · split <;> rfl
  · rfl
theorem p15_point (q : Stage) (s : Shape) (t : Shape) (hq : Stage.Ok [H] q) (hS : Sat W w (H :: F)) :
  Ro Tryz.prog 146 #[.agg (encStage q).toArray, .agg #[I s.w, I s.h, I s.max_], .agg #[I t.w, I t.h, I t.max_]] (I (ptCode q.v s t)) W w (H :: F) := by
 have hl_q_weights := hq.weights.le; have hn_q_weights := hq.weights.len
 have hl_q_row := hq.row.le; have hn_q_row := hq.row.len
 have hl_q_col := hq.col.le; have hn_q_col := hq.col.len
 have hl_q_x := hq.x.le; have hn_q_x := hq.x.len
 have hl_q_y := hq.y.le; have hn_q_y := hq.y.len
 have hl_q_ops := hq.ops.le; have hn_q_ops := hq.ops.len
 refine callsA 61 Tryz.func146 rfl ?_
 refine sR ?_
 refine sBox hS (.agg (encStage q).toArray) (encStage q).toArray ?_
 intro _ _ j0
 refine sBox j0 (.agg #[I s.w, I s.h, I s.max_]) #[I s.w, I s.h, I s.max_] ?_
 intro _ _ k0
 refine sBox k0 (.agg #[I t.w, I t.h, I t.max_]) #[I t.w, I t.h, I t.max_] ?_
 intro _ _ g0
 refine pu1 <| nT <| sR ?_
 refine lA g0 2 0 18 (Tryz.isAgg38 _) (Tryz.sizeOf38 _) ?_
 refine cR Tryz.call105 (p15_pair q ⟨(RdT.flat (hq.weights.up 3 (by rfl))), (RdT.flat (hq.row.up 3 (by rfl))), (RdT.flat (hq.col.up 3 (by rfl))), (RdT.flat (hq.x.up 3 (by rfl))), (fun z hz => (hq.xD z hz).of_mem (mem_flat1 3 (by rfl))), (RdT.flat (hq.y.up 3 (by rfl))), (fun z hz => (hq.yD z hz).of_mem (mem_flat1 3 (by rfl))), (RdT.flat (hq.ops.up 3 (by rfl)))⟩ (Sat.flat g0)) ?_
 intro _ h0
 refine pu1 <| nT <| seqE <| sR <| pu1 ?_
 refine sL h0 2 16 (.slice q.ops.a q.ops.n q.ops.k) (Tryz.isAgg36 _) ?_
 refine pu1 ?_
 refine cR Tryz.call171 (p14_valid q.ops.a q.ops.n q.ops.k q.ops.l (decide (q.kind = 6 ∧ ¬ q.b = -1)) (RdT.flat (hq.ops.up 3 (by rfl))) (Sat.flat h0)) ?_
 intro _ a0
 refine pu1 <| nT <| sR <| pu2 <| nT ?_
 refine cN (opsCode q.ops.l (decide (q.kind = 6 ∧ ¬ q.b = -1))) 0 (fun b0 => ?_) (fun b0 => ?_)
 rotate_left
 ·refine sR <| pu2 <| nT <| retE <| thenK_r <| retT [I (opsCode q.ops.l (decide (q.kind = 6 ∧ ¬ q.b = -1)))] ?_
  have l0 := (a0.drops [0, 0, 0])
  have hpw : pwCode q.v.ops (decide (q.v.kind = 6 ∧ ¬ q.v.b = -1)) s.max_ t.max_ q.v.max_ = opsCode q.v.ops (decide (q.v.kind = 6 ∧ ¬ q.v.b = -1)) := by unfold pwCode; rw [if_neg (show ¬ opsCode q.v.ops (decide (q.v.kind = 6 ∧ ¬ q.v.b = -1)) = 0 from b0)]
  have hk : ptCode q.v s t = (opsCode q.ops.l (decide (q.kind = 6 ∧ ¬ q.b = -1))) := by unfold ptCode; rw [if_neg (fun h => (show ¬ opsCode q.v.ops (decide (q.v.kind = 6 ∧ ¬ q.v.b = -1)) = 0 from b0) (hpw.symm.trans h)), hpw]; rfl
  exact ⟨by rw [hk]; rfl, l0⟩
 refine kT <| seqE <| sR <| pu1 ?_
 refine sL a0 2 17 (I q.max_) (Tryz.isAgg3 _) ?_
 refine pu2 ?_
 refine sD 25 (q.max_ < 1) (fun m0 => ?_) (fun m0 => ?_)
 ·refine pu4 <| nT <| cTt <| sR <| pu1 <| nT <| retE <| thenK_r <| retT [I 2] ?_
  have n0 := (a0.drops [0, 0, 0])
  have hpw : pwCode q.v.ops (decide (q.v.kind = 6 ∧ ¬ q.v.b = -1)) s.max_ t.max_ q.v.max_ = 2 := by unfold pwCode; rw [if_pos (show opsCode q.v.ops (decide (q.v.kind = 6 ∧ ¬ q.v.b = -1)) = 0 from b0), if_neg (by simp only [Stage.v]; omega)]
  have hk : ptCode q.v s t = 2 := by unfold ptCode; rw [if_neg (fun h => by have h9 := hpw.symm.trans h; revert h9; decide), hpw]
  exact ⟨by rw [hk]; rfl, n0⟩
 refine pu1 <| gY ?_
 refine sL a0 2 17 (I q.max_) (Tryz.isAgg3 _) ?_
 refine pu2 <| nT ?_
 refine cD (q.max_ > 4294967296) (fun o0 => ?_) (fun o0 => ?_)
 ·refine sR <| pu1 <| nT <| retE <| thenK_r <| retT [I 2] ?_
  have p0 := (a0.drops [0, 0, 0])
  have hpw : pwCode q.v.ops (decide (q.v.kind = 6 ∧ ¬ q.v.b = -1)) s.max_ t.max_ q.v.max_ = 2 := by unfold pwCode; rw [if_pos (show opsCode q.v.ops (decide (q.v.kind = 6 ∧ ¬ q.v.b = -1)) = 0 from b0), if_neg (by simp only [Stage.v]; omega)]
  have hk : ptCode q.v s t = 2 := by unfold ptCode; rw [if_neg (fun h => by have h9 := hpw.symm.trans h; revert h9; decide), hpw]
  exact ⟨by rw [hk]; rfl, p0⟩
 refine kT <| sR <| pu1 <| nT <| seqE <| sR <| pu1 <| nT ?_
 refine cD (q.kind = 6 ∧ ¬ q.b = -1) (fun c0 => ?_) (fun c0 => ?_)
 rotate_left
 ·refine kT <| seqE <| sR <| pu1 ?_
  refine sL a0 2 16 (.slice q.ops.a q.ops.n q.ops.k) (Tryz.isAgg36 _) ?_
  refine pu1 ?_
  refine sL a0 1 2 (I s.max_) (Tryz.isAgg3 _) ?_
  refine pu1 ?_
  refine cR Tryz.call172 (p14_interval q.ops.a q.ops.n q.ops.k q.ops.l s.max_ 1 (RdT.flat (hq.ops.up 3 (by rfl))) (Sat.flat a0)) ?_
  intro _ i0
  refine pu7 <| nT <| sR <| pu2 <| nT ?_
  refine cN ((ivRes q.ops.l s.max_ 1).2.2) 0 (fun f0 => ?_) (fun f0 => ?_)
  rotate_left
  ·refine sR <| pu2 <| nT <| retE <| thenK_r <| retT [I ((ivRes q.ops.l s.max_ 1).2.2)] ?_
   have q0 := (i0.drops [0, 0, 0])
   have hpw : pwCode q.v.ops (decide (q.v.kind = 6 ∧ ¬ q.v.b = -1)) s.max_ t.max_ q.v.max_ = (ivRes q.v.ops s.max_ 1).2.2 := by unfold pwCode; rw [if_pos (show opsCode q.v.ops (decide (q.v.kind = 6 ∧ ¬ q.v.b = -1)) = 0 from b0), if_pos (by simp only [Stage.v]; omega), if_neg (by rw [(decide_eq_false (p := q.v.kind = 6 ∧ ¬ q.v.b = -1) c0)]; decide)]
   have hk : ptCode q.v s t = (ivRes q.ops.l s.max_ 1).2.2 := by unfold ptCode; rw [if_neg (fun h => f0 (hpw.symm.trans h)), hpw]; rfl
   exact ⟨by rw [hk]; rfl, q0⟩
  refine kT <| seqE <| sR <| pu2 ?_
  refine sFix 47 _ false (decide_eq_false c0) ?_
  refine pu13 <| nT <| cFf <| kT <| sR <| pu1 <| nT <| retE <| retT [I 0] ?_
  have r0 := (i0.drops [0, 0, 0])
  have hpw : pwCode q.v.ops (decide (q.v.kind = 6 ∧ ¬ q.v.b = -1)) s.max_ t.max_ q.v.max_ = (ivRes q.v.ops s.max_ 1).2.2 := by unfold pwCode; rw [if_pos (show opsCode q.v.ops (decide (q.v.kind = 6 ∧ ¬ q.v.b = -1)) = 0 from b0), if_pos (by simp only [Stage.v]; omega), if_neg (by rw [(decide_eq_false (p := q.v.kind = 6 ∧ ¬ q.v.b = -1) c0)]; decide)]
  have hk : ptCode q.v s t = 0 := by unfold ptCode; rw [if_pos (hpw.trans f0), if_neg (by simp only [Stage.v]; omega)]
  exact ⟨by rw [hk]; rfl, r0⟩
 refine regionE <| pu1 ?_
 refine sL a0 0 2 (I t.max_) (Tryz.isAgg3 _) ?_
 refine pu1 <| nT <| seqE <| sR <| pu1 ?_
 refine sL a0 2 16 (.slice q.ops.a q.ops.n q.ops.k) (Tryz.isAgg36 _) ?_
 refine pu1 ?_
 refine sL a0 1 2 (I s.max_) (Tryz.isAgg3 _) ?_
 refine pu1 ?_
 refine cR Tryz.call172 (p14_interval q.ops.a q.ops.n q.ops.k q.ops.l s.max_ t.max_ (RdT.flat (hq.ops.up 3 (by rfl))) (Sat.flat a0)) ?_
 intro _ d0
 refine pu7 <| nT <| sR <| pu2 <| nT ?_
 refine cN ((ivRes q.ops.l s.max_ t.max_).2.2) 0 (fun e0 => ?_) (fun e0 => ?_)
 rotate_left
 ·refine sR <| pu2 <| nT <| retE <| thenK_r <| retT [I ((ivRes q.ops.l s.max_ t.max_).2.2)] ?_
  have s0 := (d0.drops [0, 0, 0])
  have hpw : pwCode q.v.ops (decide (q.v.kind = 6 ∧ ¬ q.v.b = -1)) s.max_ t.max_ q.v.max_ = (ivRes q.v.ops s.max_ t.max_).2.2 := by unfold pwCode; rw [if_pos (show opsCode q.v.ops (decide (q.v.kind = 6 ∧ ¬ q.v.b = -1)) = 0 from b0), if_pos (by simp only [Stage.v]; omega), if_pos (decide_eq_true (p := q.v.kind = 6 ∧ ¬ q.v.b = -1) c0)]
  have hk : ptCode q.v s t = (ivRes q.ops.l s.max_ t.max_).2.2 := by unfold ptCode; rw [if_neg (fun h => e0 (hpw.symm.trans h)), hpw]; rfl
  exact ⟨by rw [hk]; rfl, s0⟩
 refine kT <| seqE <| sR <| pu2 ?_
 refine sFix 47 _ true (decide_eq_true c0) ?_
 refine pu1 <| gY ?_
 refine sL d0 1 0 (I s.w) (Tryz.isAgg3 _) ?_
 refine pu1 <| gY ?_
 refine sL d0 0 0 (I t.w) (Tryz.isAgg3 _) ?_
 refine pu2 ?_
 refine sN 53 s.w t.w (fun t0 => ?_) (fun t0 => ?_)
 rotate_left
 ·refine pu7 <| nT <| cTt <| sR <| pu1 <| nT <| retE <| thenK_r <| retT [I 8] ?_
  have u0 := (d0.drops [0, 0, 0])
  have hpw : pwCode q.v.ops (decide (q.v.kind = 6 ∧ ¬ q.v.b = -1)) s.max_ t.max_ q.v.max_ = (ivRes q.v.ops s.max_ t.max_).2.2 := by unfold pwCode; rw [if_pos (show opsCode q.v.ops (decide (q.v.kind = 6 ∧ ¬ q.v.b = -1)) = 0 from b0), if_pos (by simp only [Stage.v]; omega), if_pos (decide_eq_true (p := q.v.kind = 6 ∧ ¬ q.v.b = -1) c0)]
  have hk : ptCode q.v s t = 8 := by unfold ptCode; rw [if_pos (hpw.trans e0), if_pos (by simp only [Stage.v]; omega)]
  exact ⟨by rw [hk]; rfl, u0⟩
 refine pu1 <| gY ?_
 refine sL d0 1 1 (I s.h) (Tryz.isAgg3 _) ?_
 refine pu1 <| gY ?_
 refine sL d0 0 1 (I t.h) (Tryz.isAgg3 _) ?_
 refine pu3 <| nT ?_
 refine cN s.h t.h (fun v0 => ?_) (fun v0 => ?_)
 rotate_left
 ·refine sR <| pu1 <| nT <| retE <| thenK_r <| retT [I 8] ?_
  have w0 := (d0.drops [0, 0, 0])
  have hpw : pwCode q.v.ops (decide (q.v.kind = 6 ∧ ¬ q.v.b = -1)) s.max_ t.max_ q.v.max_ = (ivRes q.v.ops s.max_ t.max_).2.2 := by unfold pwCode; rw [if_pos (show opsCode q.v.ops (decide (q.v.kind = 6 ∧ ¬ q.v.b = -1)) = 0 from b0), if_pos (by simp only [Stage.v]; omega), if_pos (decide_eq_true (p := q.v.kind = 6 ∧ ¬ q.v.b = -1) c0)]
  have hk : ptCode q.v s t = 8 := by unfold ptCode; rw [if_pos (hpw.trans e0), if_pos (by simp only [Stage.v]; omega)]
  exact ⟨by rw [hk]; rfl, w0⟩
 refine kT <| sR <| pu1 <| nT <| retE <| retT [I 0] ?_
 have x0 := (d0.drops [0, 0, 0])
 have hpw : pwCode q.v.ops (decide (q.v.kind = 6 ∧ ¬ q.v.b = -1)) s.max_ t.max_ q.v.max_ = (ivRes q.v.ops s.max_ t.max_).2.2 := by unfold pwCode; rw [if_pos (show opsCode q.v.ops (decide (q.v.kind = 6 ∧ ¬ q.v.b = -1)) = 0 from b0), if_pos (by simp only [Stage.v]; omega), if_pos (decide_eq_true (p := q.v.kind = 6 ∧ ¬ q.v.b = -1) c0)]
 have hk : ptCode q.v s t = 0 := by unfold ptCode; rw [if_pos (hpw.trans e0), if_neg (by simp only [Stage.v]; omega)]
 exact ⟨by rw [hk]; rfl, x0⟩
theorem p15_check (q : Stage) (s : Shape) (t : Shape) (hq : Stage.Ok [H] q) (hS : Sat W w (H :: F)) :
  Ro Tryz.prog 108 #[.agg (encStage q).toArray, .agg #[I s.w, I s.h, I s.max_], .agg #[I t.w, I t.h, I t.max_]] (I ((kernelV q.v s t).2)) W w (H :: F) := by
 have hl_q_weights := hq.weights.le; have hn_q_weights := hq.weights.len
 have hl_q_row := hq.row.le; have hn_q_row := hq.row.len
 have hl_q_col := hq.col.le; have hn_q_col := hq.col.len
 have hl_q_x := hq.x.le; have hn_q_x := hq.x.len
 have hl_q_y := hq.y.le; have hn_q_y := hq.y.len
 have hl_q_ops := hq.ops.le; have hn_q_ops := hq.ops.len
 refine callsA 71 Tryz.func108 rfl ?_
 refine sR ?_
 refine sBox hS (.agg (encStage q).toArray) (encStage q).toArray ?_
 intro _ _ b0
 refine sBox b0 (.agg #[I s.w, I s.h, I s.max_]) #[I s.w, I s.h, I s.max_] ?_
 intro _ _ c0
 refine sBox c0 (.agg #[I t.w, I t.h, I t.max_]) #[I t.w, I t.h, I t.max_] ?_
 intro _ _ a0
 refine pu1 <| nT <| seqE <| sR <| pu1 ?_
 refine sL a0 2 0 (I q.kind) (Tryz.isAgg3 _) ?_
 refine nT <| blockE <| sR <| pu2 <| nT ?_
 refine cE q.kind 1 (fun d0 => ?_) (fun d0 => ?_)
 ·refine sR <| pu1 ?_
  refine sL a0 1 2 (I s.max_) (Tryz.isAgg3 _) ?_
  refine pu1 ?_
  refine sL a0 2 6 (I q.kW) (Tryz.isAgg3 _) ?_
  refine pu1 ?_
  refine sL a0 2 7 (I q.kH) (Tryz.isAgg3 _) ?_
  refine pu1 ?_
  refine sL a0 2 8 (.slice q.weights.a q.weights.n q.weights.k) (Tryz.isAgg22 _) ?_
  refine pu1 ?_
  refine sL a0 2 11 (I q.shift) (Tryz.isAgg3 _) ?_
  refine pu1 ?_
  refine sL a0 2 17 (I q.max_) (Tryz.isAgg3 _) ?_
  refine cR Tryz.call142 (p9_check s.max_ q.kW q.kH q.weights.a q.weights.n q.weights.k q.weights.l q.shift q.max_ (RdT.flat (hq.weights.up 3 (by rfl))) (Sat.flat a0)) ?_
  intro _ e0
  refine pu1 <| nT <| retE <| blockK_r <| thenK_r <| retT [I (convCode s.max_ q.kW q.kH q.weights.l q.shift q.max_)] ?_
  have f0 := (e0.drops [0, 0, 0])
  have hk : (kernelV q.v s t).2 = (convCode s.max_ q.kW q.kH q.weights.l q.shift q.max_) := by unfold kernelV; rw [if_pos (by simp only [Stage.v]; omega)]; rfl
  exact ⟨by rw [hk]; rfl, f0⟩
 refine sR <| pu2 <| nT ?_
 refine cE q.kind 2 (fun g0 => ?_) (fun g0 => ?_)
 ·refine sR <| pu1 ?_
  refine sL a0 1 2 (I s.max_) (Tryz.isAgg3 _) ?_
  refine pu1 ?_
  refine sL a0 2 9 (.slice q.row.a q.row.n q.row.k) (Tryz.isAgg22 _) ?_
  refine pu1 ?_
  refine sL a0 2 10 (.slice q.col.a q.col.n q.col.k) (Tryz.isAgg22 _) ?_
  refine pu1 ?_
  refine sL a0 2 11 (I q.shift) (Tryz.isAgg3 _) ?_
  refine pu1 ?_
  refine sL a0 2 12 (I q.shift2) (Tryz.isAgg3 _) ?_
  refine pu1 ?_
  refine sL a0 2 17 (I q.max_) (Tryz.isAgg3 _) ?_
  refine cR Tryz.call143 (p10_check s.max_ q.row.a q.row.n q.row.k q.row.l q.col.a q.col.n q.col.k q.col.l q.shift q.shift2 q.max_ (RdT.flat (hq.row.up 3 (by rfl))) (RdT.flat (hq.col.up 3 (by rfl))) (Sat.flat a0)) ?_
  intro _ h0
  refine pu1 <| nT <| retE <| blockK_r <| thenK_r <| retT [I (sepCode s.max_ q.row.l q.col.l q.shift q.shift2 q.max_)] ?_
  have i0 := (h0.drops [0, 0, 0])
  have hk : (kernelV q.v s t).2 = (sepCode s.max_ q.row.l q.col.l q.shift q.shift2 q.max_) := by unfold kernelV; rw [if_neg (by simp only [Stage.v]; omega), if_pos (by simp only [Stage.v]; omega)]; rfl
  exact ⟨by rw [hk]; rfl, i0⟩
 refine sR <| pu2 <| nT ?_
 refine cE q.kind 3 (fun j0 => ?_) (fun j0 => ?_)
 ·refine sR ?_
  refine lA a0 1 0 3 (Tryz.isAgg54 _) (Tryz.sizeOf54 _) ?_
  refine pu1 ?_
  refine sL a0 2 13 (.slice q.x.a q.x.n q.x.k) (Tryz.isAgg35 _) ?_
  refine pu1 ?_
  refine sL a0 2 14 (.slice q.y.a q.y.n q.y.k) (Tryz.isAgg35 _) ?_
  refine pu1 ?_
  refine sL a0 2 11 (I q.shift) (Tryz.isAgg3 _) ?_
  refine pu1 ?_
  refine sL a0 2 12 (I q.shift2) (Tryz.isAgg3 _) ?_
  refine pu1 ?_
  refine sL a0 2 17 (I q.max_) (Tryz.isAgg3 _) ?_
  refine cR Tryz.call144 (p11_check s q.x.a q.x.n q.x.k q.x.l q.y.a q.y.n q.y.k q.y.l q.shift q.shift2 q.max_ (RdT.flat (hq.x.up 3 (by rfl))) (fun z hz => (hq.xD z hz).of_mem (mem_flat1 3 (by rfl))) (RdT.flat (hq.y.up 3 (by rfl))) (fun z hz => (hq.yD z hz).of_mem (mem_flat1 3 (by rfl))) (Sat.flat a0)) ?_
  intro _ k0
  refine pu1 <| nT <| retE <| blockK_r <| thenK_r <| retT [I (resCode s.w s.h s.max_ (q.x.l.map Tap.v) (q.y.l.map Tap.v) q.shift q.shift2 q.max_)] ?_
  have l0 := (k0.drops [0, 0, 0])
  have hk : (kernelV q.v s t).2 = (resCode s.w s.h s.max_ (q.x.l.map Tap.v) (q.y.l.map Tap.v) q.shift q.shift2 q.max_) := by unfold kernelV; rw [if_neg (by simp only [Stage.v]; omega), if_neg (by simp only [Stage.v]; omega), if_pos (by simp only [Stage.v]; omega)]; rfl
  exact ⟨by rw [hk]; rfl, l0⟩
 refine sR <| pu2 <| nT ?_
 refine cE q.kind 4 (fun m0 => ?_) (fun m0 => ?_)
 rotate_left
 ·refine sR <| pu2 <| nT ?_
  refine cE q.kind 5 (fun n0 => ?_) (fun n0 => ?_)
  ·refine sR ?_
   refine lA a0 1 0 3 (Tryz.isAgg54 _) (Tryz.sizeOf54 _) ?_
   refine cR Tryz.call145 (p13_check s (Sat.flat a0)) ?_
   intro _ o0
   refine pu1 <| nT <| retE <| blockK_r <| thenK_r <| retT [I (intCode s.w s.h s.max_)] ?_
   have p0 := (o0.drops [0, 0, 0])
   have hk : (kernelV q.v s t).2 = (intCode s.w s.h s.max_) := by unfold kernelV intCode; rw [if_neg (by simp only [Stage.v]; omega), if_neg (by simp only [Stage.v]; omega), if_neg (by simp only [Stage.v]; omega), if_neg (by simp only [Stage.v]; omega), if_pos (by simp only [Stage.v]; omega)]; split <;> rfl
   exact ⟨by rw [hk]; rfl, p0⟩
  refine skipE <| blockK_n <| thenK_n <| sR ?_
  refine lA a0 2 0 18 (Tryz.isAgg38 _) (Tryz.sizeOf38 _) ?_
  refine lA a0 1 0 3 (Tryz.isAgg54 _) (Tryz.sizeOf54 _) ?_
  refine lA a0 0 0 3 (Tryz.isAgg54 _) (Tryz.sizeOf54 _) ?_
  refine cR Tryz.call146 (p15_point q s t ⟨(RdT.flat (hq.weights.up 3 (by rfl))), (RdT.flat (hq.row.up 3 (by rfl))), (RdT.flat (hq.col.up 3 (by rfl))), (RdT.flat (hq.x.up 3 (by rfl))), (fun z hz => (hq.xD z hz).of_mem (mem_flat1 3 (by rfl))), (RdT.flat (hq.y.up 3 (by rfl))), (fun z hz => (hq.yD z hz).of_mem (mem_flat1 3 (by rfl))), (RdT.flat (hq.ops.up 3 (by rfl)))⟩ (Sat.flat a0)) ?_
  intro _ q0
  refine pu1 <| nT <| retE <| retT [I (ptCode q.v s t)] ?_
  have r0 := (q0.drops [0, 0, 0])
  have hk : (kernelV q.v s t).2 = (ptCode q.v s t) := (pt_kernel (by simp only [Stage.v]; omega)).symm
  exact ⟨by rw [hk]; rfl, r0⟩
 refine seqE <| sR <| pu1 ?_
 refine sL a0 2 15 (I q.bins) (Tryz.isAgg3 _) ?_
 refine pu2 ?_
 refine sD 58 (q.bins < 1) (fun s0 => ?_) (fun s0 => ?_)
 ·refine pu4 <| nT <| cTt <| sR <| pu1 <| nT <| retE <| tR <| thenK_r <| retT [I 9] ?_
  have t0 := (a0.drops [0, 0, 0])
  have hk : (kernelV q.v s t).2 = 9 := by unfold kernelV; rw [if_neg (by simp only [Stage.v]; omega), if_neg (by simp only [Stage.v]; omega), if_neg (by simp only [Stage.v]; omega), if_pos (by simp only [Stage.v]; omega), if_neg (by simp only [Stage.v]; omega)]
  exact ⟨by rw [hk]; rfl, t0⟩
 refine pu1 <| gY ?_
 refine sL a0 2 15 (I q.bins) (Tryz.isAgg3 _) ?_
 refine pu2 <| nT ?_
 refine cD (q.bins > 128) (fun u0 => ?_) (fun u0 => ?_)
 ·refine sR <| pu1 <| nT <| retE <| tR <| thenK_r <| retT [I 9] ?_
  have v0 := (a0.drops [0, 0, 0])
  have hk : (kernelV q.v s t).2 = 9 := by unfold kernelV; rw [if_neg (by simp only [Stage.v]; omega), if_neg (by simp only [Stage.v]; omega), if_neg (by simp only [Stage.v]; omega), if_pos (by simp only [Stage.v]; omega), if_neg (by simp only [Stage.v]; omega)]
  exact ⟨by rw [hk]; rfl, v0⟩
 refine kT <| sR <| pu1 <| nT <| retE <| blockK_r <| thenK_r <| retT [I 0] ?_
 have w0 := (a0.drops [0, 0, 0])
 have hk : (kernelV q.v s t).2 = 0 := by unfold kernelV; rw [if_neg (by simp only [Stage.v]; omega), if_neg (by simp only [Stage.v]; omega), if_neg (by simp only [Stage.v]; omega), if_pos (by simp only [Stage.v]; omega), if_pos (by simp only [Stage.v]; omega)]
 exact ⟨by rw [hk]; rfl, w0⟩
theorem kern_3 {q : Stage} {s t : Shape} (h : q.v.kind = 3) (_ : (kernelV q.v s t).2 = 0) (hx : (q.x.l.map Tap.v).length = q.x.n) (hy : (q.y.l.map Tap.v).length = q.y.n) : (kernelV q.v s t).1 = ⟨((q.x.n : Nat) : Int), ((q.y.n : Nat) : Int), q.max_⟩ := by
  unfold kernelV
  rw [if_neg (by omega), if_neg (by omega), if_pos h]
  simp only [Stage.v, hx, hy]
theorem kern_4 {q : Stage} {s t : Shape} (h : q.v.kind = 4) (h0 : (kernelV q.v s t).2 = 0) : (kernelV q.v s t).1 = ⟨q.bins, 1, s.w * s.h⟩ := by
  unfold kernelV at h0 ⊢
  rw [if_neg (by omega), if_neg (by omega), if_neg (by omega), if_pos h] at h0 ⊢
  split at h0
  · rename_i k; rw [if_pos k]; rfl
  · cases h0
theorem kern_5 {q : Stage} {s t : Shape} (h : q.v.kind = 5) (h0 : (kernelV q.v s t).2 = 0) : (kernelV q.v s t).1 = ⟨s.w, s.h, s.max_ * s.w * s.h⟩ := by
  unfold kernelV at h0 ⊢
  rw [if_neg (by omega), if_neg (by omega), if_neg (by omega), if_neg (by omega), if_pos h] at h0 ⊢
  split at h0
  · rename_i k; rw [if_pos k]; unfold mostV; rw [if_pos k, Int.mul_comm (s.w * s.h), ← Int.mul_assoc]
  · cases h0
theorem kern_0 {q : Stage} {s t : Shape} (h : ¬ (3 ≤ q.v.kind ∧ q.v.kind ≤ 5)) (h0 : (kernelV q.v s t).2 = 0) : (kernelV q.v s t).1 = ⟨s.w, s.h, q.max_⟩ := by
  unfold kernelV at h0 ⊢
  rw [if_neg (show ¬ q.v.kind = 3 by omega), if_neg (show ¬ q.v.kind = 4 by omega), if_neg (show ¬ q.v.kind = 5 by omega)] at h0 ⊢
  split
  · rfl
  · split
    · rfl
    · split
      · split <;> rfl
      · rfl
theorem p15_of (q : Stage) (s : Shape) (t : Shape) (hq : Stage.Ok [H] q) (hS : Sat W w (H :: F)) :
  Ro Tryz.prog 65 #[.agg (encStage q).toArray, .agg #[I s.w, I s.h, I s.max_], .agg #[I t.w, I t.h, I t.max_]] (.tuple #[.agg #[I ((ofV q.v s t).1.w), I ((ofV q.v s t).1.h), I ((ofV q.v s t).1.max_)], I ((ofV q.v s t).2)]) W w (H :: F) := by
 have hl_q_weights := hq.weights.le; have hn_q_weights := hq.weights.len
 have hl_q_row := hq.row.le; have hn_q_row := hq.row.len
 have hl_q_col := hq.col.le; have hn_q_col := hq.col.len
 have hl_q_x := hq.x.le; have hn_q_x := hq.x.len
 have hl_q_y := hq.y.le; have hn_q_y := hq.y.len
 have hl_q_ops := hq.ops.le; have hn_q_ops := hq.ops.len
 have hmx : (q.x.l.map Tap.v).length = q.x.n := by simp [hn_q_x]
 have hmy : (q.y.l.map Tap.v).length = q.y.n := by simp [hn_q_y]
 refine callsA 91 Tryz.func65 rfl ?_
 refine sR ?_
 refine sBox hS (.agg (encStage q).toArray) (encStage q).toArray ?_
 intro _ _ q1
 refine sBox q1 (.agg #[I s.w, I s.h, I s.max_]) #[I s.w, I s.h, I s.max_] ?_
 intro _ _ r1
 refine sBox r1 (.agg #[I t.w, I t.h, I t.max_]) #[I t.w, I t.h, I t.max_] ?_
 intro _ _ s1
 refine sAlloc s1 Tryz.zeroValue54 ?_
 intro _ _ m0
 refine pu1 <| nT <| seqE <| sR ?_
 refine lA m0 3 0 18 (Tryz.isAgg38 _) (Tryz.sizeOf38 _) ?_
 refine cR Tryz.call103 (p15_fields q ⟨(RdT.flat (hq.weights.up 4 (by rfl))), (RdT.flat (hq.row.up 4 (by rfl))), (RdT.flat (hq.col.up 4 (by rfl))), (RdT.flat (hq.x.up 4 (by rfl))), (fun z hz => (hq.xD z hz).of_mem (mem_flat1 4 (by rfl))), (RdT.flat (hq.y.up 4 (by rfl))), (fun z hz => (hq.yD z hz).of_mem (mem_flat1 4 (by rfl))), (RdT.flat (hq.ops.up 4 (by rfl)))⟩ (Sat.flat m0)) ?_
 intro _ j0
 refine pu1 <| nT ?_
 refine cDn (fieldsP q.v) (fun t1 => ?_) (fun t1 => ?_)
 rotate_left
 ·refine sR <| pu1 ?_
  refine sT j0 0 0 (.agg #[I 0, I 0, I 0]) [I 0, I 0, I 0] #[I 0, I 0, I 0] Tryz.sizeOf54 ?_
  intro _ n0
  refine pu1 <| nT <| retE <| thenK_r <| retN (vs := [.agg #[I 0, I 0, I 0], I 1]) rfl (.cons (.cell _ _ _ _ kr (lvA n0 0 0 [I 0, I 0, I 0] (Tryz.isAgg54 _) (Tryz.sizeOf54 _) rfl rfl rfl)) (.cons (.tmp _ _ kr) .nil)) ?_
  have u1 := (n0.drops [0, 0, 0, 0])
  have hk : ofV q.v s t = ((⟨0, 0, 0⟩ : Shape), 1) := by
   unfold ofV; rw [if_neg ‹_›]
  exact ⟨by rw [hk]; rfl, u1⟩
 refine kT <| seqE <| sR ?_
 refine lA j0 2 0 3 (Tryz.isAgg54 _) (Tryz.sizeOf54 _) ?_
 refine cR Tryz.call104 (p15_valid s (Sat.flat j0)) ?_
 intro _ k0
 refine pu2 ?_
 refine sDn 16 ((1 : Int) ≤ s.w ∧ s.w ≤ (128 : Int) ∧ (1 : Int) ≤ s.h ∧ s.h ≤ (128 : Int) ∧ s.w * s.h ≤ (4096 : Int) ∧ (1 : Int) ≤ s.max_ ∧ s.max_ ≤ (4294967296 : Int)) (fun v1 => ?_) (fun v1 => ?_)
 rotate_left
 ·refine pu8 <| nT <| cTt <| sR <| pu1 ?_
  refine sT k0 0 0 (.agg #[I 0, I 0, I 0]) [I 0, I 0, I 0] #[I 0, I 0, I 0] Tryz.sizeOf54 ?_
  intro _ o0
  refine pu1 <| nT <| retE <| thenK_r <| retN (vs := [.agg #[I 0, I 0, I 0], I 2]) rfl (.cons (.cell _ _ _ _ kr (lvA o0 0 0 [I 0, I 0, I 0] (Tryz.isAgg54 _) (Tryz.sizeOf54 _) rfl rfl rfl)) (.cons (.tmp _ _ kr) .nil)) ?_
  have w1 := (o0.drops [0, 0, 0, 0])
  have hk : ofV q.v s t = ((⟨0, 0, 0⟩ : Shape), 2) := by
   unfold ofV; rw [if_pos ‹_›, if_neg (by unfold szP twoP; simp only [Stage.v]; omega)]
  exact ⟨by rw [hk]; rfl, w1⟩
 refine gY ?_
 refine lA k0 3 0 18 (Tryz.isAgg38 _) (Tryz.sizeOf38 _) ?_
 refine gY ?_
 refine cR Tryz.call105 (p15_pair q ⟨(RdT.flat (hq.weights.up 4 (by rfl))), (RdT.flat (hq.row.up 4 (by rfl))), (RdT.flat (hq.col.up 4 (by rfl))), (RdT.flat (hq.x.up 4 (by rfl))), (fun z hz => (hq.xD z hz).of_mem (mem_flat1 4 (by rfl))), (RdT.flat (hq.y.up 4 (by rfl))), (fun z hz => (hq.yD z hz).of_mem (mem_flat1 4 (by rfl))), (RdT.flat (hq.ops.up 4 (by rfl)))⟩ (Sat.flat k0)) ?_
 intro _ i0
 refine pu1 ?_
 refine sD 19 (q.kind = 6 ∧ ¬ q.b = -1) (fun x1 => ?_) (fun x1 => ?_)
 rotate_left
 ·refine pu5 <| nT <| cFf <| kT <| seqE <| sR <| pu1 ?_
  refine sL i0 3 0 (I q.kind) (Tryz.isAgg3 _) ?_
  refine cR Tryz.call106 (p15_edged q.kind (Sat.flat i0)) ?_
  intro _ e0
  refine pu1 ?_
  refine sD 29 (q.kind = 1 ∨ q.kind = 2 ∨ q.kind = 3) (fun y1 => ?_) (fun y1 => ?_)
  rotate_left
  ·refine pu7 <| nT <| cFf <| kT <| seqE <| sR ?_
   refine lA e0 3 0 18 (Tryz.isAgg38 _) (Tryz.sizeOf38 _) ?_
   refine lA e0 2 0 3 (Tryz.isAgg54 _) (Tryz.sizeOf54 _) ?_
   refine lA e0 1 0 3 (Tryz.isAgg54 _) (Tryz.sizeOf54 _) ?_
   refine cR Tryz.call108 (p15_check q s t ⟨(RdT.flat (hq.weights.up 4 (by rfl))), (RdT.flat (hq.row.up 4 (by rfl))), (RdT.flat (hq.col.up 4 (by rfl))), (RdT.flat (hq.x.up 4 (by rfl))), (fun z hz => (hq.xD z hz).of_mem (mem_flat1 4 (by rfl))), (RdT.flat (hq.y.up 4 (by rfl))), (fun z hz => (hq.yD z hz).of_mem (mem_flat1 4 (by rfl))), (RdT.flat (hq.ops.up 4 (by rfl)))⟩ (Sat.flat e0)) ?_
   intro _ a0
   refine pu1 <| nT <| sR <| pu2 <| nT ?_
   refine cN ((kernelV q.v s t).2) 0 (fun p0 => ?_) (fun p0 => ?_)
   rotate_left
   ·refine sR <| pu2 ?_
    refine sT a0 0 0 (.agg #[I 0, I 0, I 0]) [I 0, I 0, I 0] #[I 0, I 0, I 0] Tryz.sizeOf54 ?_
    intro _ q0
    refine pu1 <| nT <| retE <| thenK_r <| retN (vs := [.agg #[I 0, I 0, I 0], I ((kernelV q.v s t).2)]) rfl (.cons (.cell _ _ _ _ kr (lvA q0 0 0 [I 0, I 0, I 0] (Tryz.isAgg54 _) (Tryz.sizeOf54 _) rfl rfl rfl)) (.cons (.tmp _ _ kr) .nil)) ?_
    have z1 := (q0.drops [0, 0, 0, 0])
    have hk : ofV q.v s t = ((⟨0, 0, 0⟩ : Shape), (kernelV q.v s t).2) := by
     unfold ofV; rw [if_pos ‹_›, if_pos (by unfold szP twoP; simp only [Stage.v]; omega), if_pos (by unfold edgeP; simp only [Stage.v]; (try dsimp only at *); omega), if_neg ‹_›]
    exact ⟨by rw [hk]; rfl, z1⟩
   refine kT <| seqE <| seqE ?_
   have hs2 : szP s := by unfold szP; omega
   have hk0 : (kernelV q.v s t).2 = 0 := p0
   have hwh := mul_bd (a := s.w) (b := s.h) (A := 128) (B := 128) om om; have hmw := mul_bd (a := s.max_) (b := s.w) (A := 4294967296) (B := 128) om om; have hmwh := mul_bd (a := s.max_ * s.w) (b := s.h) (A := 549755813888) (B := 128) om om
   refine regionE <| pu1 ?_
   refine sL a0 3 0 (I q.kind) (Tryz.isAgg3 _) ?_
   refine nT <| blockE <| sR <| pu2 <| nT ?_
   refine cE q.kind 3 (fun a2 => ?_) (fun a2 => ?_)
   ·refine sR <| pu1 ?_
    refine sL a0 3 13 (.slice q.x.a q.x.n q.x.k) (Tryz.isAgg35 _) ?_
    refine pu2 ?_
    refine sL a0 3 14 (.slice q.y.a q.y.n q.y.k) (Tryz.isAgg35 _) ?_
    refine pu2 ?_
    refine sL a0 3 17 (I q.max_) (Tryz.isAgg3 _) ?_
    refine pu1 ?_
    refine sT a0 0 0 (.agg #[I ((q.x.n : Nat) : Int), I ((q.y.n : Nat) : Int), I q.max_]) [I ((q.x.n : Nat) : Int), I ((q.y.n : Nat) : Int), I q.max_] #[I ((q.x.n : Nat) : Int), I ((q.y.n : Nat) : Int), I q.max_] Tryz.sizeOf54 ?_
    intro _ r0
    refine pu1 <| nT <| retE <| blockK_r <| thenK_r <| retN (vs := [.agg #[I ((q.x.n : Nat) : Int), I ((q.y.n : Nat) : Int), I q.max_], I 0]) rfl (.cons (.cell _ _ _ _ kr (lvA r0 0 0 [I ((q.x.n : Nat) : Int), I ((q.y.n : Nat) : Int), I q.max_] (Tryz.isAgg54 _) (Tryz.sizeOf54 _) rfl rfl rfl)) (.cons (.tmp _ _ kr) .nil)) ?_
    have b2 := (r0.drops [0, 0, 0, 0])
    have hs1 : (kernelV q.v s t).1 = (⟨((q.x.n : Nat) : Int), ((q.y.n : Nat) : Int), q.max_⟩ : Shape) := kern_3 (by simp only [Stage.v]; omega) hk0 hmx hmy
    have hk : ofV q.v s t = (⟨((q.x.n : Nat) : Int), ((q.y.n : Nat) : Int), q.max_⟩, 0) := by
     unfold ofV; rw [if_pos ‹_›, if_pos (by unfold szP twoP; simp only [Stage.v]; omega), if_pos (by unfold edgeP; simp only [Stage.v]; (try dsimp only at *); omega), if_pos hk0, hs1]
    exact ⟨by rw [hk]; rfl, b2⟩
   refine sR <| pu2 <| nT ?_
   refine cE q.kind 4 (fun c2 => ?_) (fun c2 => ?_)
   ·refine sR <| pu1 ?_
    refine sL a0 3 15 (I q.bins) (Tryz.isAgg3 _) ?_
    refine pu1 ?_
    refine sL a0 2 0 (I s.w) (Tryz.isAgg3 _) ?_
    refine pu1 ?_
    refine sL a0 2 1 (I s.h) (Tryz.isAgg3 _) ?_
    refine sMul s.w s.h ?_
    refine pu1 ?_
    refine sT a0 0 0 (.agg #[I q.bins, I 1, I (s.w * s.h)]) [I q.bins, I 1, I (s.w * s.h)] #[I q.bins, I 1, I (s.w * s.h)] Tryz.sizeOf54 ?_
    intro _ s0
    refine pu1 <| nT <| retE <| blockK_r <| thenK_r <| retN (vs := [.agg #[I q.bins, I 1, I (s.w * s.h)], I 0]) rfl (.cons (.cell _ _ _ _ kr (lvA s0 0 0 [I q.bins, I 1, I (s.w * s.h)] (Tryz.isAgg54 _) (Tryz.sizeOf54 _) rfl rfl rfl)) (.cons (.tmp _ _ kr) .nil)) ?_
    have d2 := (s0.drops [0, 0, 0, 0])
    have hs1 : (kernelV q.v s t).1 = (⟨q.bins, 1, (s.w * s.h)⟩ : Shape) := kern_4 (by simp only [Stage.v]; omega) hk0
    have hk : ofV q.v s t = (⟨q.bins, 1, (s.w * s.h)⟩, 0) := by
     unfold ofV; rw [if_pos ‹_›, if_pos (by unfold szP twoP; simp only [Stage.v]; omega), if_pos (by unfold edgeP; simp only [Stage.v]; (try dsimp only at *); omega), if_pos hk0, hs1]
    exact ⟨by rw [hk]; rfl, d2⟩
   refine sR <| pu2 <| nT ?_
   refine cE q.kind 5 (fun e2 => ?_) (fun e2 => ?_)
   rotate_left
   ·refine skipE <| blockK_n <| thenK_n <| sR <| pu1 ?_
    refine sL a0 2 0 (I s.w) (Tryz.isAgg3 _) ?_
    refine pu1 ?_
    refine sL a0 2 1 (I s.h) (Tryz.isAgg3 _) ?_
    refine pu1 ?_
    refine sL a0 3 17 (I q.max_) (Tryz.isAgg3 _) ?_
    refine pu1 ?_
    refine sT a0 0 0 (.agg #[I s.w, I s.h, I q.max_]) [I s.w, I s.h, I q.max_] #[I s.w, I s.h, I q.max_] Tryz.sizeOf54 ?_
    intro _ t0
    refine pu1 <| nT <| retE <| retN (vs := [.agg #[I s.w, I s.h, I q.max_], I 0]) rfl (.cons (.cell _ _ _ _ kr (lvA t0 0 0 [I s.w, I s.h, I q.max_] (Tryz.isAgg54 _) (Tryz.sizeOf54 _) rfl rfl rfl)) (.cons (.tmp _ _ kr) .nil)) ?_
    have f2 := (t0.drops [0, 0, 0, 0])
    have hs1 : (kernelV q.v s t).1 = (⟨s.w, s.h, q.max_⟩ : Shape) := kern_0 (by simp only [Stage.v]; omega) hk0
    have hk : ofV q.v s t = (⟨s.w, s.h, q.max_⟩, 0) := by
     unfold ofV; rw [if_pos ‹_›, if_pos (by unfold szP twoP; simp only [Stage.v]; omega), if_pos (by unfold edgeP; simp only [Stage.v]; (try dsimp only at *); omega), if_pos hk0, hs1]
    exact ⟨by rw [hk]; rfl, f2⟩
   refine sR <| pu1 ?_
   refine sL a0 2 0 (I s.w) (Tryz.isAgg3 _) ?_
   refine pu1 ?_
   refine sL a0 2 1 (I s.h) (Tryz.isAgg3 _) ?_
   refine pu1 ?_
   refine sL a0 2 2 (I s.max_) (Tryz.isAgg3 _) ?_
   refine pu1 ?_
   refine sL a0 2 0 (I s.w) (Tryz.isAgg3 _) ?_
   refine sMul s.max_ s.w ?_
   refine pu1 ?_
   refine sL a0 2 1 (I s.h) (Tryz.isAgg3 _) ?_
   refine sMul (s.max_ * s.w) s.h ?_
   refine pu1 ?_
   refine sT a0 0 0 (.agg #[I s.w, I s.h, I ((s.max_ * s.w) * s.h)]) [I s.w, I s.h, I ((s.max_ * s.w) * s.h)] #[I s.w, I s.h, I ((s.max_ * s.w) * s.h)] Tryz.sizeOf54 ?_
   intro _ u0
   refine pu1 <| nT <| retE <| blockK_r <| thenK_r <| retN (vs := [.agg #[I s.w, I s.h, I ((s.max_ * s.w) * s.h)], I 0]) rfl (.cons (.cell _ _ _ _ kr (lvA u0 0 0 [I s.w, I s.h, I ((s.max_ * s.w) * s.h)] (Tryz.isAgg54 _) (Tryz.sizeOf54 _) rfl rfl rfl)) (.cons (.tmp _ _ kr) .nil)) ?_
   have g2 := (u0.drops [0, 0, 0, 0])
   have hs1 : (kernelV q.v s t).1 = (⟨s.w, s.h, ((s.max_ * s.w) * s.h)⟩ : Shape) := kern_5 (by simp only [Stage.v]; omega) hk0
   have hk : ofV q.v s t = (⟨s.w, s.h, ((s.max_ * s.w) * s.h)⟩, 0) := by
    unfold ofV; rw [if_pos ‹_›, if_pos (by unfold szP twoP; simp only [Stage.v]; omega), if_pos (by unfold edgeP; simp only [Stage.v]; (try dsimp only at *); omega), if_pos hk0, hs1]
   exact ⟨by rw [hk]; rfl, g2⟩
  refine pu1 <| gY ?_
  refine lA e0 3 4 2 (Tryz.isAgg34 _) (Tryz.sizeOf34 _) ?_
  refine pu1 <| gY ?_
  refine sL e0 2 2 (I s.max_) (Tryz.isAgg3 _) ?_
  refine gY ?_
  refine cR Tryz.call107 (p3_valid (⟨q.edgePolicy, q.edgeFill⟩ : Edge) s.max_ (Sat.flat e0)) ?_
  intro _ g0
  refine pu2 <| nT ?_
  refine cDn (((⟨q.edgePolicy, q.edgeFill⟩ : Edge).policy = 3 ∧ 0 ≤ (⟨q.edgePolicy, q.edgeFill⟩ : Edge).fill ∧ (⟨q.edgePolicy, q.edgeFill⟩ : Edge).fill ≤ s.max_) ∨ (0 ≤ (⟨q.edgePolicy, q.edgeFill⟩ : Edge).policy ∧ (⟨q.edgePolicy, q.edgeFill⟩ : Edge).policy < 3 ∧ (⟨q.edgePolicy, q.edgeFill⟩ : Edge).fill = 0)) (fun h2 => ?_) (fun h2 => ?_)
  rotate_left
  ·refine sR <| pu1 ?_
   refine sT g0 0 0 (.agg #[I 0, I 0, I 0]) [I 0, I 0, I 0] #[I 0, I 0, I 0] Tryz.sizeOf54 ?_
   intro _ v0
   refine pu1 <| nT <| retE <| thenK_r <| retN (vs := [.agg #[I 0, I 0, I 0], I 1]) rfl (.cons (.cell _ _ _ _ kr (lvA v0 0 0 [I 0, I 0, I 0] (Tryz.isAgg54 _) (Tryz.sizeOf54 _) rfl rfl rfl)) (.cons (.tmp _ _ kr) .nil)) ?_
   have i2 := (v0.drops [0, 0, 0, 0])
   have hk : ofV q.v s t = ((⟨0, 0, 0⟩ : Shape), 1) := by
    unfold ofV; rw [if_pos ‹_›, if_pos (by unfold szP twoP; simp only [Stage.v]; omega), if_neg (by unfold edgeP; simp only [Stage.v]; (try dsimp only at *); omega)]
   exact ⟨by rw [hk]; rfl, i2⟩
  refine kT <| seqE <| sR ?_
  refine lA g0 3 0 18 (Tryz.isAgg38 _) (Tryz.sizeOf38 _) ?_
  refine lA g0 2 0 3 (Tryz.isAgg54 _) (Tryz.sizeOf54 _) ?_
  refine lA g0 1 0 3 (Tryz.isAgg54 _) (Tryz.sizeOf54 _) ?_
  refine cR Tryz.call108 (p15_check q s t ⟨(RdT.flat (hq.weights.up 4 (by rfl))), (RdT.flat (hq.row.up 4 (by rfl))), (RdT.flat (hq.col.up 4 (by rfl))), (RdT.flat (hq.x.up 4 (by rfl))), (fun z hz => (hq.xD z hz).of_mem (mem_flat1 4 (by rfl))), (RdT.flat (hq.y.up 4 (by rfl))), (fun z hz => (hq.yD z hz).of_mem (mem_flat1 4 (by rfl))), (RdT.flat (hq.ops.up 4 (by rfl)))⟩ (Sat.flat g0)) ?_
  intro _ b0
  refine pu1 <| nT <| sR <| pu2 <| nT ?_
  refine cN ((kernelV q.v s t).2) 0 (fun w0 => ?_) (fun w0 => ?_)
  rotate_left
  ·refine sR <| pu2 ?_
   refine sT b0 0 0 (.agg #[I 0, I 0, I 0]) [I 0, I 0, I 0] #[I 0, I 0, I 0] Tryz.sizeOf54 ?_
   intro _ x0
   refine pu1 <| nT <| retE <| thenK_r <| retN (vs := [.agg #[I 0, I 0, I 0], I ((kernelV q.v s t).2)]) rfl (.cons (.cell _ _ _ _ kr (lvA x0 0 0 [I 0, I 0, I 0] (Tryz.isAgg54 _) (Tryz.sizeOf54 _) rfl rfl rfl)) (.cons (.tmp _ _ kr) .nil)) ?_
   have j2 := (x0.drops [0, 0, 0, 0])
   have hk : ofV q.v s t = ((⟨0, 0, 0⟩ : Shape), (kernelV q.v s t).2) := by
    unfold ofV; rw [if_pos ‹_›, if_pos (by unfold szP twoP; simp only [Stage.v]; omega), if_pos (by unfold edgeP; simp only [Stage.v]; (try dsimp only at *); omega), if_neg ‹_›]
   exact ⟨by rw [hk]; rfl, j2⟩
  refine kT <| seqE <| seqE ?_
  have hs2 : szP s := by unfold szP; omega
  have hk0 : (kernelV q.v s t).2 = 0 := w0
  have hwh := mul_bd (a := s.w) (b := s.h) (A := 128) (B := 128) om om; have hmw := mul_bd (a := s.max_) (b := s.w) (A := 4294967296) (B := 128) om om; have hmwh := mul_bd (a := s.max_ * s.w) (b := s.h) (A := 549755813888) (B := 128) om om
  refine regionE <| pu1 ?_
  refine sL b0 3 0 (I q.kind) (Tryz.isAgg3 _) ?_
  refine nT <| blockE <| sR <| pu2 <| nT ?_
  refine cE q.kind 3 (fun k2 => ?_) (fun k2 => ?_)
  ·refine sR <| pu1 ?_
   refine sL b0 3 13 (.slice q.x.a q.x.n q.x.k) (Tryz.isAgg35 _) ?_
   refine pu2 ?_
   refine sL b0 3 14 (.slice q.y.a q.y.n q.y.k) (Tryz.isAgg35 _) ?_
   refine pu2 ?_
   refine sL b0 3 17 (I q.max_) (Tryz.isAgg3 _) ?_
   refine pu1 ?_
   refine sT b0 0 0 (.agg #[I ((q.x.n : Nat) : Int), I ((q.y.n : Nat) : Int), I q.max_]) [I ((q.x.n : Nat) : Int), I ((q.y.n : Nat) : Int), I q.max_] #[I ((q.x.n : Nat) : Int), I ((q.y.n : Nat) : Int), I q.max_] Tryz.sizeOf54 ?_
   intro _ y0
   refine pu1 <| nT <| retE <| blockK_r <| thenK_r <| retN (vs := [.agg #[I ((q.x.n : Nat) : Int), I ((q.y.n : Nat) : Int), I q.max_], I 0]) rfl (.cons (.cell _ _ _ _ kr (lvA y0 0 0 [I ((q.x.n : Nat) : Int), I ((q.y.n : Nat) : Int), I q.max_] (Tryz.isAgg54 _) (Tryz.sizeOf54 _) rfl rfl rfl)) (.cons (.tmp _ _ kr) .nil)) ?_
   have l2 := (y0.drops [0, 0, 0, 0])
   have hs1 : (kernelV q.v s t).1 = (⟨((q.x.n : Nat) : Int), ((q.y.n : Nat) : Int), q.max_⟩ : Shape) := kern_3 (by simp only [Stage.v]; omega) hk0 hmx hmy
   have hk : ofV q.v s t = (⟨((q.x.n : Nat) : Int), ((q.y.n : Nat) : Int), q.max_⟩, 0) := by
    unfold ofV; rw [if_pos ‹_›, if_pos (by unfold szP twoP; simp only [Stage.v]; omega), if_pos (by unfold edgeP; simp only [Stage.v]; (try dsimp only at *); omega), if_pos hk0, hs1]
   exact ⟨by rw [hk]; rfl, l2⟩
  refine sR <| pu2 <| nT ?_
  refine cE q.kind 4 (fun m2 => ?_) (fun m2 => ?_)
  ·refine sR <| pu1 ?_
   refine sL b0 3 15 (I q.bins) (Tryz.isAgg3 _) ?_
   refine pu1 ?_
   refine sL b0 2 0 (I s.w) (Tryz.isAgg3 _) ?_
   refine pu1 ?_
   refine sL b0 2 1 (I s.h) (Tryz.isAgg3 _) ?_
   refine sMul s.w s.h ?_
   refine pu1 ?_
   refine sT b0 0 0 (.agg #[I q.bins, I 1, I (s.w * s.h)]) [I q.bins, I 1, I (s.w * s.h)] #[I q.bins, I 1, I (s.w * s.h)] Tryz.sizeOf54 ?_
   intro _ z0
   refine pu1 <| nT <| retE <| blockK_r <| thenK_r <| retN (vs := [.agg #[I q.bins, I 1, I (s.w * s.h)], I 0]) rfl (.cons (.cell _ _ _ _ kr (lvA z0 0 0 [I q.bins, I 1, I (s.w * s.h)] (Tryz.isAgg54 _) (Tryz.sizeOf54 _) rfl rfl rfl)) (.cons (.tmp _ _ kr) .nil)) ?_
   have n2 := (z0.drops [0, 0, 0, 0])
   have hs1 : (kernelV q.v s t).1 = (⟨q.bins, 1, (s.w * s.h)⟩ : Shape) := kern_4 (by simp only [Stage.v]; omega) hk0
   have hk : ofV q.v s t = (⟨q.bins, 1, (s.w * s.h)⟩, 0) := by
    unfold ofV; rw [if_pos ‹_›, if_pos (by unfold szP twoP; simp only [Stage.v]; omega), if_pos (by unfold edgeP; simp only [Stage.v]; (try dsimp only at *); omega), if_pos hk0, hs1]
   exact ⟨by rw [hk]; rfl, n2⟩
  refine sR <| pu2 <| nT ?_
  refine cE q.kind 5 (fun o2 => ?_) (fun o2 => ?_)
  rotate_left
  ·refine skipE <| blockK_n <| thenK_n <| sR <| pu1 ?_
   refine sL b0 2 0 (I s.w) (Tryz.isAgg3 _) ?_
   refine pu1 ?_
   refine sL b0 2 1 (I s.h) (Tryz.isAgg3 _) ?_
   refine pu1 ?_
   refine sL b0 3 17 (I q.max_) (Tryz.isAgg3 _) ?_
   refine pu1 ?_
   refine sT b0 0 0 (.agg #[I s.w, I s.h, I q.max_]) [I s.w, I s.h, I q.max_] #[I s.w, I s.h, I q.max_] Tryz.sizeOf54 ?_
   intro _ a1
   refine pu1 <| nT <| retE <| retN (vs := [.agg #[I s.w, I s.h, I q.max_], I 0]) rfl (.cons (.cell _ _ _ _ kr (lvA a1 0 0 [I s.w, I s.h, I q.max_] (Tryz.isAgg54 _) (Tryz.sizeOf54 _) rfl rfl rfl)) (.cons (.tmp _ _ kr) .nil)) ?_
   have p2 := (a1.drops [0, 0, 0, 0])
   have hs1 : (kernelV q.v s t).1 = (⟨s.w, s.h, q.max_⟩ : Shape) := kern_0 (by simp only [Stage.v]; omega) hk0
   have hk : ofV q.v s t = (⟨s.w, s.h, q.max_⟩, 0) := by
    unfold ofV; rw [if_pos ‹_›, if_pos (by unfold szP twoP; simp only [Stage.v]; omega), if_pos (by unfold edgeP; simp only [Stage.v]; (try dsimp only at *); omega), if_pos hk0, hs1]
   exact ⟨by rw [hk]; rfl, p2⟩
  refine sR <| pu1 ?_
  refine sL b0 2 0 (I s.w) (Tryz.isAgg3 _) ?_
  refine pu1 ?_
  refine sL b0 2 1 (I s.h) (Tryz.isAgg3 _) ?_
  refine pu1 ?_
  refine sL b0 2 2 (I s.max_) (Tryz.isAgg3 _) ?_
  refine pu1 ?_
  refine sL b0 2 0 (I s.w) (Tryz.isAgg3 _) ?_
  refine sMul s.max_ s.w ?_
  refine pu1 ?_
  refine sL b0 2 1 (I s.h) (Tryz.isAgg3 _) ?_
  refine sMul (s.max_ * s.w) s.h ?_
  refine pu1 ?_
  refine sT b0 0 0 (.agg #[I s.w, I s.h, I ((s.max_ * s.w) * s.h)]) [I s.w, I s.h, I ((s.max_ * s.w) * s.h)] #[I s.w, I s.h, I ((s.max_ * s.w) * s.h)] Tryz.sizeOf54 ?_
  intro _ b1
  refine pu1 <| nT <| retE <| blockK_r <| thenK_r <| retN (vs := [.agg #[I s.w, I s.h, I ((s.max_ * s.w) * s.h)], I 0]) rfl (.cons (.cell _ _ _ _ kr (lvA b1 0 0 [I s.w, I s.h, I ((s.max_ * s.w) * s.h)] (Tryz.isAgg54 _) (Tryz.sizeOf54 _) rfl rfl rfl)) (.cons (.tmp _ _ kr) .nil)) ?_
  have q2 := (b1.drops [0, 0, 0, 0])
  have hs1 : (kernelV q.v s t).1 = (⟨s.w, s.h, ((s.max_ * s.w) * s.h)⟩ : Shape) := kern_5 (by simp only [Stage.v]; omega) hk0
  have hk : ofV q.v s t = (⟨s.w, s.h, ((s.max_ * s.w) * s.h)⟩, 0) := by
   unfold ofV; rw [if_pos ‹_›, if_pos (by unfold szP twoP; simp only [Stage.v]; omega), if_pos (by unfold edgeP; simp only [Stage.v]; (try dsimp only at *); omega), if_pos hk0, hs1]
  exact ⟨by rw [hk]; rfl, q2⟩
 refine gY ?_
 refine lA i0 1 0 3 (Tryz.isAgg54 _) (Tryz.sizeOf54 _) ?_
 refine gY ?_
 refine cR Tryz.call104 (p15_valid t (Sat.flat i0)) ?_
 intro _ l0
 refine pu3 <| nT ?_
 refine cDn ((1 : Int) ≤ t.w ∧ t.w ≤ (128 : Int) ∧ (1 : Int) ≤ t.h ∧ t.h ≤ (128 : Int) ∧ t.w * t.h ≤ (4096 : Int) ∧ (1 : Int) ≤ t.max_ ∧ t.max_ ≤ (4294967296 : Int)) (fun r2 => ?_) (fun r2 => ?_)
 rotate_left
 ·refine sR <| pu1 ?_
  refine sT l0 0 0 (.agg #[I 0, I 0, I 0]) [I 0, I 0, I 0] #[I 0, I 0, I 0] Tryz.sizeOf54 ?_
  intro _ c1
  refine pu1 <| nT <| retE <| thenK_r <| retN (vs := [.agg #[I 0, I 0, I 0], I 2]) rfl (.cons (.cell _ _ _ _ kr (lvA c1 0 0 [I 0, I 0, I 0] (Tryz.isAgg54 _) (Tryz.sizeOf54 _) rfl rfl rfl)) (.cons (.tmp _ _ kr) .nil)) ?_
  have s2 := (c1.drops [0, 0, 0, 0])
  have hk : ofV q.v s t = ((⟨0, 0, 0⟩ : Shape), 2) := by
   unfold ofV; rw [if_pos ‹_›, if_neg (by unfold szP twoP; simp only [Stage.v]; omega)]
  exact ⟨by rw [hk]; rfl, s2⟩
 refine kT <| seqE <| sR <| pu1 ?_
 refine sL l0 3 0 (I q.kind) (Tryz.isAgg3 _) ?_
 refine cR Tryz.call106 (p15_edged q.kind (Sat.flat l0)) ?_
 intro _ f0
 refine pu1 ?_
 refine sD 29 (q.kind = 1 ∨ q.kind = 2 ∨ q.kind = 3) (fun t2 => ?_) (fun t2 => ?_)
 rotate_left
 ·refine pu7 <| nT <| cFf <| kT <| seqE <| sR ?_
  refine lA f0 3 0 18 (Tryz.isAgg38 _) (Tryz.sizeOf38 _) ?_
  refine lA f0 2 0 3 (Tryz.isAgg54 _) (Tryz.sizeOf54 _) ?_
  refine lA f0 1 0 3 (Tryz.isAgg54 _) (Tryz.sizeOf54 _) ?_
  refine cR Tryz.call108 (p15_check q s t ⟨(RdT.flat (hq.weights.up 4 (by rfl))), (RdT.flat (hq.row.up 4 (by rfl))), (RdT.flat (hq.col.up 4 (by rfl))), (RdT.flat (hq.x.up 4 (by rfl))), (fun z hz => (hq.xD z hz).of_mem (mem_flat1 4 (by rfl))), (RdT.flat (hq.y.up 4 (by rfl))), (fun z hz => (hq.yD z hz).of_mem (mem_flat1 4 (by rfl))), (RdT.flat (hq.ops.up 4 (by rfl)))⟩ (Sat.flat f0)) ?_
  intro _ c0
  refine pu1 <| nT <| sR <| pu2 <| nT ?_
  refine cN ((kernelV q.v s t).2) 0 (fun d1 => ?_) (fun d1 => ?_)
  rotate_left
  ·refine sR <| pu2 ?_
   refine sT c0 0 0 (.agg #[I 0, I 0, I 0]) [I 0, I 0, I 0] #[I 0, I 0, I 0] Tryz.sizeOf54 ?_
   intro _ e1
   refine pu1 <| nT <| retE <| thenK_r <| retN (vs := [.agg #[I 0, I 0, I 0], I ((kernelV q.v s t).2)]) rfl (.cons (.cell _ _ _ _ kr (lvA e1 0 0 [I 0, I 0, I 0] (Tryz.isAgg54 _) (Tryz.sizeOf54 _) rfl rfl rfl)) (.cons (.tmp _ _ kr) .nil)) ?_
   have u2 := (e1.drops [0, 0, 0, 0])
   have hk : ofV q.v s t = ((⟨0, 0, 0⟩ : Shape), (kernelV q.v s t).2) := by
    unfold ofV; rw [if_pos ‹_›, if_pos (by unfold szP twoP; simp only [Stage.v]; omega), if_pos (by unfold edgeP; simp only [Stage.v]; (try dsimp only at *); omega), if_neg ‹_›]
   exact ⟨by rw [hk]; rfl, u2⟩
  refine kT <| seqE <| seqE ?_
  have hs2 : szP s := by unfold szP; omega
  have hk0 : (kernelV q.v s t).2 = 0 := d1
  have hwh := mul_bd (a := s.w) (b := s.h) (A := 128) (B := 128) om om; have hmw := mul_bd (a := s.max_) (b := s.w) (A := 4294967296) (B := 128) om om; have hmwh := mul_bd (a := s.max_ * s.w) (b := s.h) (A := 549755813888) (B := 128) om om
  refine regionE <| pu1 ?_
  refine sL c0 3 0 (I q.kind) (Tryz.isAgg3 _) ?_
  refine nT <| blockE <| sR <| pu2 <| nT ?_
  refine cE q.kind 3 (fun v2 => ?_) (fun v2 => ?_)
  ·refine sR <| pu1 ?_
   refine sL c0 3 13 (.slice q.x.a q.x.n q.x.k) (Tryz.isAgg35 _) ?_
   refine pu2 ?_
   refine sL c0 3 14 (.slice q.y.a q.y.n q.y.k) (Tryz.isAgg35 _) ?_
   refine pu2 ?_
   refine sL c0 3 17 (I q.max_) (Tryz.isAgg3 _) ?_
   refine pu1 ?_
   refine sT c0 0 0 (.agg #[I ((q.x.n : Nat) : Int), I ((q.y.n : Nat) : Int), I q.max_]) [I ((q.x.n : Nat) : Int), I ((q.y.n : Nat) : Int), I q.max_] #[I ((q.x.n : Nat) : Int), I ((q.y.n : Nat) : Int), I q.max_] Tryz.sizeOf54 ?_
   intro _ f1
   refine pu1 <| nT <| retE <| blockK_r <| thenK_r <| retN (vs := [.agg #[I ((q.x.n : Nat) : Int), I ((q.y.n : Nat) : Int), I q.max_], I 0]) rfl (.cons (.cell _ _ _ _ kr (lvA f1 0 0 [I ((q.x.n : Nat) : Int), I ((q.y.n : Nat) : Int), I q.max_] (Tryz.isAgg54 _) (Tryz.sizeOf54 _) rfl rfl rfl)) (.cons (.tmp _ _ kr) .nil)) ?_
   have w2 := (f1.drops [0, 0, 0, 0])
   have hs1 : (kernelV q.v s t).1 = (⟨((q.x.n : Nat) : Int), ((q.y.n : Nat) : Int), q.max_⟩ : Shape) := kern_3 (by simp only [Stage.v]; omega) hk0 hmx hmy
   have hk : ofV q.v s t = (⟨((q.x.n : Nat) : Int), ((q.y.n : Nat) : Int), q.max_⟩, 0) := by
    unfold ofV; rw [if_pos ‹_›, if_pos (by unfold szP twoP; simp only [Stage.v]; omega), if_pos (by unfold edgeP; simp only [Stage.v]; (try dsimp only at *); omega), if_pos hk0, hs1]
   exact ⟨by rw [hk]; rfl, w2⟩
  refine sR <| pu2 <| nT ?_
  refine cE q.kind 4 (fun x2 => ?_) (fun x2 => ?_)
  ·refine sR <| pu1 ?_
   refine sL c0 3 15 (I q.bins) (Tryz.isAgg3 _) ?_
   refine pu1 ?_
   refine sL c0 2 0 (I s.w) (Tryz.isAgg3 _) ?_
   refine pu1 ?_
   refine sL c0 2 1 (I s.h) (Tryz.isAgg3 _) ?_
   refine sMul s.w s.h ?_
   refine pu1 ?_
   refine sT c0 0 0 (.agg #[I q.bins, I 1, I (s.w * s.h)]) [I q.bins, I 1, I (s.w * s.h)] #[I q.bins, I 1, I (s.w * s.h)] Tryz.sizeOf54 ?_
   intro _ g1
   refine pu1 <| nT <| retE <| blockK_r <| thenK_r <| retN (vs := [.agg #[I q.bins, I 1, I (s.w * s.h)], I 0]) rfl (.cons (.cell _ _ _ _ kr (lvA g1 0 0 [I q.bins, I 1, I (s.w * s.h)] (Tryz.isAgg54 _) (Tryz.sizeOf54 _) rfl rfl rfl)) (.cons (.tmp _ _ kr) .nil)) ?_
   have y2 := (g1.drops [0, 0, 0, 0])
   have hs1 : (kernelV q.v s t).1 = (⟨q.bins, 1, (s.w * s.h)⟩ : Shape) := kern_4 (by simp only [Stage.v]; omega) hk0
   have hk : ofV q.v s t = (⟨q.bins, 1, (s.w * s.h)⟩, 0) := by
    unfold ofV; rw [if_pos ‹_›, if_pos (by unfold szP twoP; simp only [Stage.v]; omega), if_pos (by unfold edgeP; simp only [Stage.v]; (try dsimp only at *); omega), if_pos hk0, hs1]
   exact ⟨by rw [hk]; rfl, y2⟩
  refine sR <| pu2 <| nT ?_
  refine cE q.kind 5 (fun z2 => ?_) (fun z2 => ?_)
  rotate_left
  ·refine skipE <| blockK_n <| thenK_n <| sR <| pu1 ?_
   refine sL c0 2 0 (I s.w) (Tryz.isAgg3 _) ?_
   refine pu1 ?_
   refine sL c0 2 1 (I s.h) (Tryz.isAgg3 _) ?_
   refine pu1 ?_
   refine sL c0 3 17 (I q.max_) (Tryz.isAgg3 _) ?_
   refine pu1 ?_
   refine sT c0 0 0 (.agg #[I s.w, I s.h, I q.max_]) [I s.w, I s.h, I q.max_] #[I s.w, I s.h, I q.max_] Tryz.sizeOf54 ?_
   intro _ h1
   refine pu1 <| nT <| retE <| retN (vs := [.agg #[I s.w, I s.h, I q.max_], I 0]) rfl (.cons (.cell _ _ _ _ kr (lvA h1 0 0 [I s.w, I s.h, I q.max_] (Tryz.isAgg54 _) (Tryz.sizeOf54 _) rfl rfl rfl)) (.cons (.tmp _ _ kr) .nil)) ?_
   have a3 := (h1.drops [0, 0, 0, 0])
   have hs1 : (kernelV q.v s t).1 = (⟨s.w, s.h, q.max_⟩ : Shape) := kern_0 (by simp only [Stage.v]; omega) hk0
   have hk : ofV q.v s t = (⟨s.w, s.h, q.max_⟩, 0) := by
    unfold ofV; rw [if_pos ‹_›, if_pos (by unfold szP twoP; simp only [Stage.v]; omega), if_pos (by unfold edgeP; simp only [Stage.v]; (try dsimp only at *); omega), if_pos hk0, hs1]
   exact ⟨by rw [hk]; rfl, a3⟩
  refine sR <| pu1 ?_
  refine sL c0 2 0 (I s.w) (Tryz.isAgg3 _) ?_
  refine pu1 ?_
  refine sL c0 2 1 (I s.h) (Tryz.isAgg3 _) ?_
  refine pu1 ?_
  refine sL c0 2 2 (I s.max_) (Tryz.isAgg3 _) ?_
  refine pu1 ?_
  refine sL c0 2 0 (I s.w) (Tryz.isAgg3 _) ?_
  refine sMul s.max_ s.w ?_
  refine pu1 ?_
  refine sL c0 2 1 (I s.h) (Tryz.isAgg3 _) ?_
  refine sMul (s.max_ * s.w) s.h ?_
  refine pu1 ?_
  refine sT c0 0 0 (.agg #[I s.w, I s.h, I ((s.max_ * s.w) * s.h)]) [I s.w, I s.h, I ((s.max_ * s.w) * s.h)] #[I s.w, I s.h, I ((s.max_ * s.w) * s.h)] Tryz.sizeOf54 ?_
  intro _ i1
  refine pu1 <| nT <| retE <| blockK_r <| thenK_r <| retN (vs := [.agg #[I s.w, I s.h, I ((s.max_ * s.w) * s.h)], I 0]) rfl (.cons (.cell _ _ _ _ kr (lvA i1 0 0 [I s.w, I s.h, I ((s.max_ * s.w) * s.h)] (Tryz.isAgg54 _) (Tryz.sizeOf54 _) rfl rfl rfl)) (.cons (.tmp _ _ kr) .nil)) ?_
  have b3 := (i1.drops [0, 0, 0, 0])
  have hs1 : (kernelV q.v s t).1 = (⟨s.w, s.h, ((s.max_ * s.w) * s.h)⟩ : Shape) := kern_5 (by simp only [Stage.v]; omega) hk0
  have hk : ofV q.v s t = (⟨s.w, s.h, ((s.max_ * s.w) * s.h)⟩, 0) := by
   unfold ofV; rw [if_pos ‹_›, if_pos (by unfold szP twoP; simp only [Stage.v]; omega), if_pos (by unfold edgeP; simp only [Stage.v]; (try dsimp only at *); omega), if_pos hk0, hs1]
  exact ⟨by rw [hk]; rfl, b3⟩
 refine pu1 <| gY ?_
 refine lA f0 3 4 2 (Tryz.isAgg34 _) (Tryz.sizeOf34 _) ?_
 refine pu1 <| gY ?_
 refine sL f0 2 2 (I s.max_) (Tryz.isAgg3 _) ?_
 refine gY ?_
 refine cR Tryz.call107 (p3_valid (⟨q.edgePolicy, q.edgeFill⟩ : Edge) s.max_ (Sat.flat f0)) ?_
 intro _ h0
 refine pu2 <| nT ?_
 refine cDn (((⟨q.edgePolicy, q.edgeFill⟩ : Edge).policy = 3 ∧ 0 ≤ (⟨q.edgePolicy, q.edgeFill⟩ : Edge).fill ∧ (⟨q.edgePolicy, q.edgeFill⟩ : Edge).fill ≤ s.max_) ∨ (0 ≤ (⟨q.edgePolicy, q.edgeFill⟩ : Edge).policy ∧ (⟨q.edgePolicy, q.edgeFill⟩ : Edge).policy < 3 ∧ (⟨q.edgePolicy, q.edgeFill⟩ : Edge).fill = 0)) (fun c3 => ?_) (fun c3 => ?_)
 rotate_left
 ·refine sR <| pu1 ?_
  refine sT h0 0 0 (.agg #[I 0, I 0, I 0]) [I 0, I 0, I 0] #[I 0, I 0, I 0] Tryz.sizeOf54 ?_
  intro _ j1
  refine pu1 <| nT <| retE <| thenK_r <| retN (vs := [.agg #[I 0, I 0, I 0], I 1]) rfl (.cons (.cell _ _ _ _ kr (lvA j1 0 0 [I 0, I 0, I 0] (Tryz.isAgg54 _) (Tryz.sizeOf54 _) rfl rfl rfl)) (.cons (.tmp _ _ kr) .nil)) ?_
  have d3 := (j1.drops [0, 0, 0, 0])
  have hk : ofV q.v s t = ((⟨0, 0, 0⟩ : Shape), 1) := by
   unfold ofV; rw [if_pos ‹_›, if_pos (by unfold szP twoP; simp only [Stage.v]; omega), if_neg (by unfold edgeP; simp only [Stage.v]; (try dsimp only at *); omega)]
  exact ⟨by rw [hk]; rfl, d3⟩
 refine kT <| seqE <| sR ?_
 refine lA h0 3 0 18 (Tryz.isAgg38 _) (Tryz.sizeOf38 _) ?_
 refine lA h0 2 0 3 (Tryz.isAgg54 _) (Tryz.sizeOf54 _) ?_
 refine lA h0 1 0 3 (Tryz.isAgg54 _) (Tryz.sizeOf54 _) ?_
 refine cR Tryz.call108 (p15_check q s t ⟨(RdT.flat (hq.weights.up 4 (by rfl))), (RdT.flat (hq.row.up 4 (by rfl))), (RdT.flat (hq.col.up 4 (by rfl))), (RdT.flat (hq.x.up 4 (by rfl))), (fun z hz => (hq.xD z hz).of_mem (mem_flat1 4 (by rfl))), (RdT.flat (hq.y.up 4 (by rfl))), (fun z hz => (hq.yD z hz).of_mem (mem_flat1 4 (by rfl))), (RdT.flat (hq.ops.up 4 (by rfl)))⟩ (Sat.flat h0)) ?_
 intro _ d0
 refine pu1 <| nT <| sR <| pu2 <| nT ?_
 refine cN ((kernelV q.v s t).2) 0 (fun k1 => ?_) (fun k1 => ?_)
 rotate_left
 ·refine sR <| pu2 ?_
  refine sT d0 0 0 (.agg #[I 0, I 0, I 0]) [I 0, I 0, I 0] #[I 0, I 0, I 0] Tryz.sizeOf54 ?_
  intro _ l1
  refine pu1 <| nT <| retE <| thenK_r <| retN (vs := [.agg #[I 0, I 0, I 0], I ((kernelV q.v s t).2)]) rfl (.cons (.cell _ _ _ _ kr (lvA l1 0 0 [I 0, I 0, I 0] (Tryz.isAgg54 _) (Tryz.sizeOf54 _) rfl rfl rfl)) (.cons (.tmp _ _ kr) .nil)) ?_
  have e3 := (l1.drops [0, 0, 0, 0])
  have hk : ofV q.v s t = ((⟨0, 0, 0⟩ : Shape), (kernelV q.v s t).2) := by
   unfold ofV; rw [if_pos ‹_›, if_pos (by unfold szP twoP; simp only [Stage.v]; omega), if_pos (by unfold edgeP; simp only [Stage.v]; (try dsimp only at *); omega), if_neg ‹_›]
  exact ⟨by rw [hk]; rfl, e3⟩
 refine kT <| seqE <| seqE ?_
 have hs2 : szP s := by unfold szP; omega
 have hk0 : (kernelV q.v s t).2 = 0 := k1
 have hwh := mul_bd (a := s.w) (b := s.h) (A := 128) (B := 128) om om; have hmw := mul_bd (a := s.max_) (b := s.w) (A := 4294967296) (B := 128) om om; have hmwh := mul_bd (a := s.max_ * s.w) (b := s.h) (A := 549755813888) (B := 128) om om
 refine regionE <| pu1 ?_
 refine sL d0 3 0 (I q.kind) (Tryz.isAgg3 _) ?_
 refine nT <| blockE <| sR <| pu2 <| nT ?_
 refine cE q.kind 3 (fun f3 => ?_) (fun f3 => ?_)
 ·refine sR <| pu1 ?_
  refine sL d0 3 13 (.slice q.x.a q.x.n q.x.k) (Tryz.isAgg35 _) ?_
  refine pu2 ?_
  refine sL d0 3 14 (.slice q.y.a q.y.n q.y.k) (Tryz.isAgg35 _) ?_
  refine pu2 ?_
  refine sL d0 3 17 (I q.max_) (Tryz.isAgg3 _) ?_
  refine pu1 ?_
  refine sT d0 0 0 (.agg #[I ((q.x.n : Nat) : Int), I ((q.y.n : Nat) : Int), I q.max_]) [I ((q.x.n : Nat) : Int), I ((q.y.n : Nat) : Int), I q.max_] #[I ((q.x.n : Nat) : Int), I ((q.y.n : Nat) : Int), I q.max_] Tryz.sizeOf54 ?_
  intro _ m1
  refine pu1 <| nT <| retE <| blockK_r <| thenK_r <| retN (vs := [.agg #[I ((q.x.n : Nat) : Int), I ((q.y.n : Nat) : Int), I q.max_], I 0]) rfl (.cons (.cell _ _ _ _ kr (lvA m1 0 0 [I ((q.x.n : Nat) : Int), I ((q.y.n : Nat) : Int), I q.max_] (Tryz.isAgg54 _) (Tryz.sizeOf54 _) rfl rfl rfl)) (.cons (.tmp _ _ kr) .nil)) ?_
  have g3 := (m1.drops [0, 0, 0, 0])
  have hs1 : (kernelV q.v s t).1 = (⟨((q.x.n : Nat) : Int), ((q.y.n : Nat) : Int), q.max_⟩ : Shape) := kern_3 (by simp only [Stage.v]; omega) hk0 hmx hmy
  have hk : ofV q.v s t = (⟨((q.x.n : Nat) : Int), ((q.y.n : Nat) : Int), q.max_⟩, 0) := by
   unfold ofV; rw [if_pos ‹_›, if_pos (by unfold szP twoP; simp only [Stage.v]; omega), if_pos (by unfold edgeP; simp only [Stage.v]; (try dsimp only at *); omega), if_pos hk0, hs1]
  exact ⟨by rw [hk]; rfl, g3⟩
 refine sR <| pu2 <| nT ?_
 refine cE q.kind 4 (fun h3 => ?_) (fun h3 => ?_)
 ·refine sR <| pu1 ?_
  refine sL d0 3 15 (I q.bins) (Tryz.isAgg3 _) ?_
  refine pu1 ?_
  refine sL d0 2 0 (I s.w) (Tryz.isAgg3 _) ?_
  refine pu1 ?_
  refine sL d0 2 1 (I s.h) (Tryz.isAgg3 _) ?_
  refine sMul s.w s.h ?_
  refine pu1 ?_
  refine sT d0 0 0 (.agg #[I q.bins, I 1, I (s.w * s.h)]) [I q.bins, I 1, I (s.w * s.h)] #[I q.bins, I 1, I (s.w * s.h)] Tryz.sizeOf54 ?_
  intro _ n1
  refine pu1 <| nT <| retE <| blockK_r <| thenK_r <| retN (vs := [.agg #[I q.bins, I 1, I (s.w * s.h)], I 0]) rfl (.cons (.cell _ _ _ _ kr (lvA n1 0 0 [I q.bins, I 1, I (s.w * s.h)] (Tryz.isAgg54 _) (Tryz.sizeOf54 _) rfl rfl rfl)) (.cons (.tmp _ _ kr) .nil)) ?_
  have i3 := (n1.drops [0, 0, 0, 0])
  have hs1 : (kernelV q.v s t).1 = (⟨q.bins, 1, (s.w * s.h)⟩ : Shape) := kern_4 (by simp only [Stage.v]; omega) hk0
  have hk : ofV q.v s t = (⟨q.bins, 1, (s.w * s.h)⟩, 0) := by
   unfold ofV; rw [if_pos ‹_›, if_pos (by unfold szP twoP; simp only [Stage.v]; omega), if_pos (by unfold edgeP; simp only [Stage.v]; (try dsimp only at *); omega), if_pos hk0, hs1]
  exact ⟨by rw [hk]; rfl, i3⟩
 refine sR <| pu2 <| nT ?_
 refine cE q.kind 5 (fun j3 => ?_) (fun j3 => ?_)
 rotate_left
 ·refine skipE <| blockK_n <| thenK_n <| sR <| pu1 ?_
  refine sL d0 2 0 (I s.w) (Tryz.isAgg3 _) ?_
  refine pu1 ?_
  refine sL d0 2 1 (I s.h) (Tryz.isAgg3 _) ?_
  refine pu1 ?_
  refine sL d0 3 17 (I q.max_) (Tryz.isAgg3 _) ?_
  refine pu1 ?_
  refine sT d0 0 0 (.agg #[I s.w, I s.h, I q.max_]) [I s.w, I s.h, I q.max_] #[I s.w, I s.h, I q.max_] Tryz.sizeOf54 ?_
  intro _ o1
  refine pu1 <| nT <| retE <| retN (vs := [.agg #[I s.w, I s.h, I q.max_], I 0]) rfl (.cons (.cell _ _ _ _ kr (lvA o1 0 0 [I s.w, I s.h, I q.max_] (Tryz.isAgg54 _) (Tryz.sizeOf54 _) rfl rfl rfl)) (.cons (.tmp _ _ kr) .nil)) ?_
  have k3 := (o1.drops [0, 0, 0, 0])
  have hs1 : (kernelV q.v s t).1 = (⟨s.w, s.h, q.max_⟩ : Shape) := kern_0 (by simp only [Stage.v]; omega) hk0
  have hk : ofV q.v s t = (⟨s.w, s.h, q.max_⟩, 0) := by
   unfold ofV; rw [if_pos ‹_›, if_pos (by unfold szP twoP; simp only [Stage.v]; omega), if_pos (by unfold edgeP; simp only [Stage.v]; (try dsimp only at *); omega), if_pos hk0, hs1]
  exact ⟨by rw [hk]; rfl, k3⟩
 refine sR <| pu1 ?_
 refine sL d0 2 0 (I s.w) (Tryz.isAgg3 _) ?_
 refine pu1 ?_
 refine sL d0 2 1 (I s.h) (Tryz.isAgg3 _) ?_
 refine pu1 ?_
 refine sL d0 2 2 (I s.max_) (Tryz.isAgg3 _) ?_
 refine pu1 ?_
 refine sL d0 2 0 (I s.w) (Tryz.isAgg3 _) ?_
 refine sMul s.max_ s.w ?_
 refine pu1 ?_
 refine sL d0 2 1 (I s.h) (Tryz.isAgg3 _) ?_
 refine sMul (s.max_ * s.w) s.h ?_
 refine pu1 ?_
 refine sT d0 0 0 (.agg #[I s.w, I s.h, I ((s.max_ * s.w) * s.h)]) [I s.w, I s.h, I ((s.max_ * s.w) * s.h)] #[I s.w, I s.h, I ((s.max_ * s.w) * s.h)] Tryz.sizeOf54 ?_
 intro _ p1
 refine pu1 <| nT <| retE <| blockK_r <| thenK_r <| retN (vs := [.agg #[I s.w, I s.h, I ((s.max_ * s.w) * s.h)], I 0]) rfl (.cons (.cell _ _ _ _ kr (lvA p1 0 0 [I s.w, I s.h, I ((s.max_ * s.w) * s.h)] (Tryz.isAgg54 _) (Tryz.sizeOf54 _) rfl rfl rfl)) (.cons (.tmp _ _ kr) .nil)) ?_
 have l3 := (p1.drops [0, 0, 0, 0])
 have hs1 : (kernelV q.v s t).1 = (⟨s.w, s.h, ((s.max_ * s.w) * s.h)⟩ : Shape) := kern_5 (by simp only [Stage.v]; omega) hk0
 have hk : ofV q.v s t = (⟨s.w, s.h, ((s.max_ * s.w) * s.h)⟩, 0) := by
  unfold ofV; rw [if_pos ‹_›, if_pos (by unfold szP twoP; simp only [Stage.v]; omega), if_pos (by unfold edgeP; simp only [Stage.v]; (try dsimp only at *); omega), if_pos hk0, hs1]
 exact ⟨by rw [hk]; rfl, l3⟩
end Go.Proofs.YtdingplbadblpaaGreat
