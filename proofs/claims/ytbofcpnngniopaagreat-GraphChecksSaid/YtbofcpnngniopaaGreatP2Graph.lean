import Derived.Test.YtbofcpnngniopaaGreatP2RefS
namespace Go.Proofs.YtbofcpnngniopaaGreat
open Go Go.E
set_option linter.unusedVariables false
set_option linter.unusedSimpArgs false
set_option linter.unnecessarySimpa false
set_option maxRecDepth 100000
set_option maxHeartbeats 2000000
variable {W w : World} {H : Chunk} {F : List Chunk}

-- squeezed
def srcs (s : StageV) : List Int := if twoP s then [s.a, s.b] else [s.a]
theorem srcs_len (s : StageV) : 1 ≤ (srcs s).length ∧ (srcs s).length ≤ 2 := by unfold srcs; split <;> simp
def inR (n : Int) (l : List Int) : Bool := l.all fun x => decide (0 ≤ x ∧ x < n)
def chkCode (j : JobV) : Int :=
  if 1 ≤ j.inputs.length ∧ 1 ≤ j.stages.length ∧ j.inputs.length + j.stages.length ≤ 16 ∧ 1 ≤ j.outputs.length ∧ j.outputs.length ≤ 16 then (if 0 ≤ j.priority ∧ j.priority < 4 then
    (if j.stages.all (fun s => inR (j.inputs.length + j.stages.length) (srcs s)) = true then (if inR (j.inputs.length + j.stages.length) j.outputs = true then 0 else 6) else 6) else 2) else 5
theorem r15_sources (q : Stage) (hq : Stage.Ok [H] q) (hS : Sat W w (H :: F)) :
  Calls Tryz.prog 10 #[.agg (encStage q).toArray] w fun e w' => ∃ (az : Option Addr) (nz kz : Nat) (G : Chunk), e = .returned (.slice az nz kz) ∧ RdT encI 1 [G] az nz kz (srcs q.v) ∧ Sat W w' (G :: H :: F) := by
 have hl_q_weights := hq.weights.le; have hn_q_weights := hq.weights.len
 have hl_q_row := hq.row.le; have hn_q_row := hq.row.len
 have hl_q_col := hq.col.le; have hn_q_col := hq.col.len
 have hl_q_x := hq.x.le; have hn_q_x := hq.x.len
 have hl_q_y := hq.y.le; have hn_q_y := hq.y.len
 have hl_q_ops := hq.ops.le; have hn_q_ops := hq.ops.len
 refine callsA 13 Tryz.func10 rfl ?_
 refine sR ?_
 refine sBox hS (.agg (encStage q).toArray) (encStage q).toArray ?_
 intro _ _ b0
 refine pu1 <| nT <| seqE <| sR ?_
 refine lA b0 0 0 18 (Tryz.isAgg44 _) (Tryz.sizeOf44 _) ?_
 refine cR Tryz.call27 (r15_two q ⟨(RdT.flat (hq.weights.up 1 (by rfl))), (RdT.flat (hq.row.up 1 (by rfl))), (RdT.flat (hq.col.up 1 (by rfl))), (RdT.flat (hq.x.up 1 (by rfl))), (fun z hz => (hq.xD z hz).of_mem (mem_flat1 1 (by rfl))), (RdT.flat (hq.y.up 1 (by rfl))), (fun z hz => (hq.yD z hz).of_mem (mem_flat1 1 (by rfl))), (RdT.flat (hq.ops.up 1 (by rfl)))⟩ (Sat.flat b0)) ?_
 intro _ a0
 refine nT ?_
 refine cD (q.kind = 6 ∧ ¬ q.b = -1) (fun e0 => ?_) (fun e0 => ?_)
 rotate_left
 ·refine kT <| sR <| pu1 ?_
  refine sL a0 0 1 (I q.a) (Tryz.isAgg3 _) ?_
  refine sBS a0 #[I q.a] Tryz.runUnderlying22 Tryz.sizeOf3 Tryz.zeroValue3 ?_
  intro c0 _ f0
  refine pu1 <| nT <| retE <| retT [.slice (At c0 0) 1 1] ?_
  have g0 := (f0.dropAt 1 rfl)
  have hl : [q.a] = srcs q.v := (by unfold srcs; rw [if_neg (by unfold twoP; simp only [Stage.v]; omega)]; rfl)
  have hrd := (RdT.blk (cs := [[(c0, .cells #[I q.a] 3 (0, 0))]]) (enc := encI) (sz := 1) (xs := [q.a]) fR 1 0 rfl rfl rfl om)
  rw [hl] at hrd
  exact ⟨_, _, _, _, rfl, hrd, g0⟩
 refine sR <| pu1 ?_
 refine sL a0 0 1 (I q.a) (Tryz.isAgg3 _) ?_
 refine pu1 ?_
 refine sL a0 0 2 (I q.b) (Tryz.isAgg3 _) ?_
 refine sBS a0 #[I q.a, I q.b] Tryz.runUnderlying22 Tryz.sizeOf3 Tryz.zeroValue3 ?_
 intro d0 _ h0
 refine pu1 <| nT <| retE <| thenK_r <| retT [.slice (At d0 0) 2 2] ?_
 have i0 := (h0.dropAt 1 rfl)
 have hl : [q.a, q.b] = srcs q.v := (by unfold srcs; rw [if_pos (by unfold twoP; simp only [Stage.v]; omega)]; rfl)
 have hrd := (RdT.blk (cs := [[(d0, .cells #[I q.a, I q.b] 3 (0, 0))]]) (enc := encI) (sz := 1) (xs := [q.a, q.b]) fR 2 0 rfl rfl rfl om)
 rw [hl] at hrd
 exact ⟨_, _, _, _, rfl, hrd, i0⟩
theorem r17_has (ax : Option Addr) (nx kx : Nat) (x : List Int) (y : Int) (hx : RdT encI 1 [H] ax nx kx x) (hS : Sat W w (H :: F)) :
  Ro Tryz.prog 63 #[.slice ax nx kx, I y] (.bool (decide (y ∈ x))) W w (H :: F) := by
 have hl_x := hx.le; have hn_x := hx.len
 refine callsA 18 Tryz.func63 rfl ?_
 refine sR <| pu1 <| nT <| seqE <| sR <| pu1 <| nT <| blockE ?_
 refine loopA (γ := Nat) (fun i => [(0, .slice ax nx kx), (1, I y), (5, I ((i : Nat) : Int))]) (fun i w => Sat W w (H :: F) ∧ i ≤ nx ∧ (¬ y ∈ x.take i)) (fun i => nx - i) 0 ⟨hS, om, by simp⟩ ?_
 rintro i ρ _ ⟨a0, hi, hE⟩
 refine seqE <| sR <| pu4 <| nT ?_
 refine cD (((i : Nat) : Int) < ((nx : Nat) : Int)) (fun d0 => ?_) (fun d0 => ?_)
 rotate_left
 ·refine exitE <| xB <| thenK_n <| sR <| pu1 <| nT <| retE <| retT [.bool false] ?_
  exact ⟨by rw [decide_eq_false (show ¬ y ∈ x from by rw [List.take_of_length_le om] at hE; exact hE)]; rfl, a0⟩
 refine kT <| seqE <| blockE <| sR <| pu2 ?_
 refine sIdx hx ((i : Nat) : Int) Tryz.runUnderlying22 Tryz.sizeOf3 ?_
 intro b0 _ _ c0 e0
 rw [Int.toNat_natCast] at c0
 refine sLp a0 (e0.up 0 rfl) 0 (I b0) (Tryz.isAgg3 _) ?_
 refine pu2 <| nT ?_
 refine cE b0 y (fun f0 => ?_) (fun f0 => ?_)
 ·refine sR <| pu1 <| nT <| retE <| blockK_r <| thenK_r <| tR <| thenK_r <| retT [.bool true] ?_
  exact ⟨by rw [decide_eq_true (show y ∈ x from (by omega : b0 = y) ▸ List.mem_of_getElem? c0)]; rfl, a0⟩
 refine skipE <| blockK_n <| thenK_n <| regionE <| pu1 ?_
 refine sAdd ((i : Nat) : Int) 1 ?_
 refine pu1 <| nT ?_
 exact ⟨i + 1, od, alA, a0, om, by rw [take_succ_at c0]; simp only [List.mem_append, List.mem_singleton, not_or]; exact ⟨hE, om⟩⟩
theorem r17_check (p : Job) (hp : Job.Ok [H] p) (hb : p.inputs.n ≤ 1000000 ∧ p.stages.n ≤ 1000000 ∧ p.outputs.n ≤ 1000000) (hS : Sat W w (H :: F)) :
  Ro Tryz.prog 62 #[.agg (encJob p).toArray] (I (chkCode p.v)) W w (H :: F) := by
 have hl_p_inputs := hp.inputs.le; have hn_p_inputs := hp.inputs.len
 have hl_p_stages := hp.stages.le; have hn_p_stages := hp.stages.len
 have hl_p_outputs := hp.outputs.le; have hn_p_outputs := hp.outputs.len
 have hmi : (p.inputs.l.map Plane.v).length = p.inputs.n := by simp [hn_p_inputs]
 have hms : (p.stages.l.map Stage.v).length = p.stages.n := by simp [hn_p_stages]
 refine callsA 105 Tryz.func62 rfl ?_
 refine sR ?_
 refine sBox hS (.agg (encJob p).toArray) (encJob p).toArray ?_
 intro e0 _ c0
 refine pu1 <| nT <| sR <| pu1 ?_
 refine sL c0 0 0 (.slice p.inputs.a p.inputs.n p.inputs.k) (Tryz.isAgg25 _) ?_
 refine pu2 ?_
 refine sL c0 0 1 (.slice p.stages.a p.stages.n p.stages.k) (Tryz.isAgg26 _) ?_
 refine pu1 ?_
 refine sAdd ((p.inputs.n : Nat) : Int) ((p.stages.n : Nat) : Int) ?_
 refine pu1 <| nT <| seqE <| blockE ?_
 refine cutA (γ := Unit) (fun _ => [(1, Pt e0 0), (3, I (((p.inputs.n : Nat) : Int) + ((p.stages.n : Nat) : Int))), (15, .bool (decide (¬ (1 ≤ p.inputs.n ∧ 1 ≤ p.stages.n ∧ p.inputs.n + p.stages.n ≤ 16 ∧ 1 ≤ p.outputs.n ∧ p.outputs.n ≤ 16))))]) (fun _ w => Sat W w ([(e0, .cells (encJob p).toArray 28 (0, 0))] :: H :: F)) ?_ ?_
 ·refine regionE <| pu1 ?_
  refine sL c0 0 0 (.slice p.inputs.a p.inputs.n p.inputs.k) (Tryz.isAgg25 _) ?_
  refine pu3 ?_
  refine sE 20 ((p.inputs.n : Nat) : Int) 0 (fun q0 => ?_) (fun q0 => ?_)
  ·refine pu16 <| pu6 <| nT ?_
   exact ⟨(), ⟨kr, kr, (Eq.trans (b := .bool true) kr (congrArg Value.bool (decide_eq_true (p := ¬ (1 ≤ p.inputs.n ∧ 1 ≤ p.stages.n ∧ p.inputs.n + p.stages.n ≤ 16 ∧ 1 ≤ p.outputs.n ∧ p.outputs.n ≤ 16)) om).symm)), trivial⟩, c0⟩
  refine pu1 <| gY ?_
  refine sL c0 0 1 (.slice p.stages.a p.stages.n p.stages.k) (Tryz.isAgg26 _) ?_
  refine pu4 ?_
  refine sE 26 ((p.stages.n : Nat) : Int) 0 (fun r0 => ?_) (fun r0 => ?_)
  ·refine pu16 <| nT ?_
   exact ⟨(), ⟨kr, kr, (Eq.trans (b := .bool true) kr (congrArg Value.bool (decide_eq_true (p := ¬ (1 ≤ p.inputs.n ∧ 1 ≤ p.stages.n ∧ p.inputs.n + p.stages.n ≤ 16 ∧ 1 ≤ p.outputs.n ∧ p.outputs.n ≤ 16)) om).symm)), trivial⟩, c0⟩
  refine pu4 ?_
  refine sD 30 ((((p.inputs.n : Nat) : Int) + ((p.stages.n : Nat) : Int)) > 16) (fun s0 => ?_) (fun s0 => ?_)
  ·refine pu12 <| nT ?_
   exact ⟨(), ⟨kr, kr, (Eq.trans (b := .bool true) kr (congrArg Value.bool (decide_eq_true (p := ¬ (1 ≤ p.inputs.n ∧ 1 ≤ p.stages.n ∧ p.inputs.n + p.stages.n ≤ 16 ∧ 1 ≤ p.outputs.n ∧ p.outputs.n ≤ 16)) om).symm)), trivial⟩, c0⟩
  refine pu1 <| gY ?_
  refine sL c0 0 2 (.slice p.outputs.a p.outputs.n p.outputs.k) (Tryz.isAgg22 _) ?_
  refine pu4 ?_
  refine sE 36 ((p.outputs.n : Nat) : Int) 0 (fun t0 => ?_) (fun t0 => ?_)
  ·refine pu6 <| nT ?_
   exact ⟨(), ⟨kr, kr, (Eq.trans (b := .bool true) kr (congrArg Value.bool (decide_eq_true (p := ¬ (1 ≤ p.inputs.n ∧ 1 ≤ p.stages.n ∧ p.inputs.n + p.stages.n ≤ 16 ∧ 1 ≤ p.outputs.n ∧ p.outputs.n ≤ 16)) om).symm)), trivial⟩, c0⟩
  refine pu1 <| gY ?_
  refine sL c0 0 2 (.slice p.outputs.a p.outputs.n p.outputs.k) (Tryz.isAgg22 _) ?_
  refine pu4 <| nT ?_
  exact ⟨(), ⟨kr, kr, (Eq.trans (b := .bool (decide ((((p.outputs.n : Nat) : Int) : Int) > 16))) kr (congrArg Value.bool (by rw [Bool.eq_iff_iff]; simp only [decide_eq_true_eq, beq_iff_eq, bne_iff_ne, ne_eq, Bool.not_eq_true', decide_eq_false_iff_not, gt_iff_lt, ge_iff_le, Bool.and_eq_true, Bool.or_eq_true, Bool.not_eq_eq_eq_not, Bool.not_true, Bool.and_eq_false_imp, beq_eq_false_iff_ne] <;> omega))), trivial⟩, c0⟩
 rintro _ ρ _ f0
 refine cD (¬ (1 ≤ p.inputs.n ∧ 1 ≤ p.stages.n ∧ p.inputs.n + p.stages.n ≤ 16 ∧ 1 ≤ p.outputs.n ∧ p.outputs.n ≤ 16)) (fun u0 => ?_) (fun u0 => ?_)
 ·refine sR <| pu1 <| nT <| retE <| blockK_r <| thenK_r <| retT [I 5] ?_
  have v0 := (f0.dropAt 0 rfl)
  have hk : chkCode p.v = 5 := by unfold chkCode; rw [if_neg (by simp only [Job.v]; omega)]
  exact ⟨by rw [hk]; rfl, v0⟩
 refine sR <| pu1 ?_
 refine sL f0 0 3 (I p.priority) (Tryz.isAgg3 _) ?_
 refine pu2 ?_
 refine sD 46 (p.priority < 0) (fun w0 => ?_) (fun w0 => ?_)
 ·refine pu5 <| nT <| cTt <| sR <| pu1 <| nT <| retE <| blockK_r <| thenK_r <| retT [I 2] ?_
  have x0 := (f0.dropAt 0 rfl)
  have hk : chkCode p.v = 2 := by unfold chkCode; rw [if_pos (by simp only [Job.v]; omega), if_neg (by simp only [Job.v]; omega)]
  exact ⟨by rw [hk]; rfl, x0⟩
 refine pu1 <| gY ?_
 refine sL f0 0 3 (I p.priority) (Tryz.isAgg3 _) ?_
 refine pu3 <| nT ?_
 refine cD (p.priority ≥ 4) (fun y0 => ?_) (fun y0 => ?_)
 ·refine sR <| pu1 <| nT <| retE <| blockK_r <| thenK_r <| retT [I 2] ?_
  have z0 := (f0.dropAt 0 rfl)
  have hk : chkCode p.v = 2 := by unfold chkCode; rw [if_pos (by simp only [Job.v]; omega), if_neg (by simp only [Job.v]; omega)]
  exact ⟨by rw [hk]; rfl, z0⟩
 refine skipE <| blockK_n <| thenK_n <| seqE <| sR <| pu1 <| nT <| blockE ?_
 refine loopA (γ := Nat) (fun i => [(1, Pt e0 0), (3, I (((p.inputs.n : Nat) : Int) + ((p.stages.n : Nat) : Int))), (4, I ((i : Nat) : Int))]) (fun i w => Sat W w ([(e0, .cells (encJob p).toArray 28 (0, 0))] :: H :: F) ∧ i ≤ p.stages.n ∧ (((p.stages.l.map Stage.v).take i).all (fun s => inR ((p.inputs.l.map Plane.v).length + (p.stages.l.map Stage.v).length : Int) (srcs s)) = true)) (fun i => p.stages.n - i) 0 ⟨f0, om, by rfl⟩ ?_
 rintro i ρ _ ⟨h0, hi, hE⟩
 refine seqE <| sR <| pu2 ?_
 refine sL h0 0 1 (.slice p.stages.a p.stages.n p.stages.k) (Tryz.isAgg26 _) ?_
 refine pu2 <| nT ?_
 refine cD (((i : Nat) : Int) < ((p.stages.n : Nat) : Int)) (fun a1 => ?_) (fun a1 => ?_)
 rotate_left
 ·refine exitE <| xB <| thenK_n <| seqE <| seqE ?_
  have hst : (p.stages.l.map Stage.v).all (fun s => inR ((p.inputs.l.map Plane.v).length + (p.stages.l.map Stage.v).length : Int) (srcs s)) = true := all_of_take hE om
  refine regionE <| pu1 <| nT <| blockE ?_
  refine loopA (γ := Nat) (fun m => [(1, Pt e0 0), (3, I (((p.inputs.n : Nat) : Int) + ((p.stages.n : Nat) : Int))), (7, I ((m : Nat) : Int))]) (fun m w => Sat W w ([(e0, .cells (encJob p).toArray 28 (0, 0))] :: H :: F) ∧ m ≤ p.outputs.n ∧ (inR ((p.inputs.l.map Plane.v).length + (p.stages.l.map Stage.v).length : Int) (p.outputs.l.take m) = true)) (fun m => p.outputs.n - m) 0 ⟨h0, om, by rfl⟩ ?_
  rintro m ρ _ ⟨d0, hm, hF⟩
  refine seqE <| sR <| pu2 ?_
  refine sL d0 0 2 (.slice p.outputs.a p.outputs.n p.outputs.k) (Tryz.isAgg22 _) ?_
  refine pu2 <| nT ?_
  refine cD (((m : Nat) : Int) < ((p.outputs.n : Nat) : Int)) (fun b1 => ?_) (fun b1 => ?_)
  rotate_left
  ·refine exitE <| xB <| thenK_n <| sR <| pu1 <| nT <| retE <| retT [I 0] ?_
   have c1 := (d0.dropAt 0 rfl)
   have ho := all_of_take hF om
   have hk : chkCode p.v = 0 := by unfold chkCode; rw [if_pos (by simp only [Job.v]; omega), if_pos (by simp only [Job.v]; omega), if_pos (by exact hst), if_pos (by exact ho)]
   exact ⟨by rw [hk]; rfl, c1⟩
  refine kT <| seqE <| blockE <| sR <| pu1 ?_
  refine sL d0 0 2 (.slice p.outputs.a p.outputs.n p.outputs.k) (Tryz.isAgg22 _) ?_
  refine pu1 ?_
  refine sIdx hp.outputs ((m : Nat) : Int) Tryz.runUnderlying22 Tryz.sizeOf3 ?_
  intro i0 _ _ j0 d1
  rw [Int.toNat_natCast] at j0
  refine sLp d0 (d1.up 1 rfl) 0 (I i0) (Tryz.isAgg3 _) ?_
  refine pu2 ?_
  refine sD 96 (i0 < 0) (fun e1 => ?_) (fun e1 => ?_)
  ·refine pu8 <| nT <| cTt <| sR <| pu1 <| nT <| retE <| blockK_r <| thenK_r <| tR <| thenK_r <| retT [I 6] ?_
   have f1 := (d0.dropAt 0 rfl)
   have ho := all_false_at (p := fun x => decide (0 ≤ x ∧ x < ((p.inputs.l.map Plane.v).length + (p.stages.l.map Stage.v).length : Int))) j0 (decide_eq_false om)
   have hk : chkCode p.v = 6 := by unfold chkCode; rw [if_pos (by simp only [Job.v]; omega), if_pos (by simp only [Job.v]; omega), if_pos (by exact hst), if_neg (by exact fun h => Bool.false_ne_true (ho.symm.trans h))]
   exact ⟨by rw [hk]; rfl, f1⟩
  refine pu1 <| gY ?_
  refine sL d0 0 2 (.slice p.outputs.a p.outputs.n p.outputs.k) (Tryz.isAgg22 _) ?_
  refine pu1 <| gY ?_
  refine sIdx hp.outputs ((m : Nat) : Int) Tryz.runUnderlying22 Tryz.sizeOf3 ?_
  intro g1 _ _ o0 h1
  rw [Int.toNat_natCast] at o0
  obtain rfl : i0 = g1 := Option.some.inj (j0.symm.trans o0)
  refine gY ?_
  refine sLp d0 (h1.up 1 rfl) 0 (I i0) (Tryz.isAgg3 _) ?_
  refine pu3 <| nT ?_
  refine cD (i0 ≥ (((p.inputs.n : Nat) : Int) + ((p.stages.n : Nat) : Int))) (fun i1 => ?_) (fun i1 => ?_)
  rotate_left
  ·refine skipE <| blockK_n <| thenK_n <| regionE <| pu1 ?_
   refine sAdd ((m : Nat) : Int) 1 ?_
   refine pu1 <| nT ?_
   exact ⟨m + 1, od, alA, d0, om, all_succ hF j0 (decide_eq_true om)⟩
  refine sR <| pu1 <| nT <| retE <| blockK_r <| thenK_r <| tR <| thenK_r <| retT [I 6] ?_
  have j1 := (d0.dropAt 0 rfl)
  have ho := all_false_at (p := fun x => decide (0 ≤ x ∧ x < ((p.inputs.l.map Plane.v).length + (p.stages.l.map Stage.v).length : Int))) j0 (decide_eq_false om)
  have hk : chkCode p.v = 6 := by unfold chkCode; rw [if_pos (by simp only [Job.v]; omega), if_pos (by simp only [Job.v]; omega), if_pos (by exact hst), if_neg (by exact fun h => Bool.false_ne_true (ho.symm.trans h))]
  exact ⟨by rw [hk]; rfl, j1⟩
 refine kT <| seqE <| blockE <| sR <| pu1 ?_
 refine sL h0 0 1 (.slice p.stages.a p.stages.n p.stages.k) (Tryz.isAgg26 _) ?_
 refine pu1 ?_
 refine sIdx hp.stages ((i : Nat) : Int) Tryz.runUnderlying26 Tryz.sizeOf44 ?_
 intro a0 _ _ b0 k1
 rw [Int.toNat_natCast] at b0
 refine sLpA h0 (k1.up 1 rfl) 0 (encStage a0) (Tryz.isAgg44 _) (Tryz.sizeOf44 _) ?_
 refine cX Tryz.call10 (r15_sources a0 ⟨(RdT.flat ((hp.stagesD a0 (List.mem_of_getElem? b0)).weights.up 1 (by rfl))), (RdT.flat ((hp.stagesD a0 (List.mem_of_getElem? b0)).row.up 1 (by rfl))), (RdT.flat ((hp.stagesD a0 (List.mem_of_getElem? b0)).col.up 1 (by rfl))), (RdT.flat ((hp.stagesD a0 (List.mem_of_getElem? b0)).x.up 1 (by rfl))), (fun z hz => ((hp.stagesD a0 (List.mem_of_getElem? b0)).xD z hz).of_mem (mem_flat1 1 (by rfl))), (RdT.flat ((hp.stagesD a0 (List.mem_of_getElem? b0)).y.up 1 (by rfl))), (fun z hz => ((hp.stagesD a0 (List.mem_of_getElem? b0)).yD z hz).of_mem (mem_flat1 1 (by rfl))), (RdT.flat ((hp.stagesD a0 (List.mem_of_getElem? b0)).ops.up 1 (by rfl)))⟩ (Sat.flat h0)) ?_
 rintro _ _ ⟨l1, m0, m1, n1, rfl, n0, o1⟩
 have p1 := Sat.unflat1 o1
 have hn_az_27 := n0.len; have hl_az_27 := n0.le
 have k2 : 1 ≤ (srcs a0.v).length ∧ (srcs a0.v).length ≤ 2 := srcs_len _
 refine pu1 <| nT <| sR <| pu1 <| nT <| blockE ?_
 refine loopA (γ := Nat) (fun k => [(1, Pt e0 0), (3, I (((p.inputs.n : Nat) : Int) + ((p.stages.n : Nat) : Int))), (4, I ((i : Nat) : Int)), (5, .slice l1 m0 m1), (6, I ((k : Nat) : Int))]) (fun k w => Sat W w (n1 :: [(e0, .cells (encJob p).toArray 28 (0, 0))] :: H :: F) ∧ k ≤ m0 ∧ (inR ((p.inputs.l.map Plane.v).length + (p.stages.l.map Stage.v).length : Int) ((srcs a0.v).take k) = true)) (fun k => m0 - k) 0 ⟨p1, om, by rfl⟩ ?_
 rintro k ρ _ ⟨g0, hk, hK⟩
 refine seqE <| sR <| pu4 <| nT ?_
 refine cD (((k : Nat) : Int) < ((m0 : Nat) : Int)) (fun q1 => ?_) (fun q1 => ?_)
 rotate_left
 ·refine exitE <| xB <| blockK_n <| thenK_n <| regionE <| pu1 ?_
  refine sAdd ((i : Nat) : Int) 1 ?_
  refine pu1 <| nT ?_
  have r1 := (g0.dropAt 0 rfl)
  exact ⟨i + 1, od, alA, r1, om, all_succ hE (map_at (f := Stage.v) b0) (show inR _ (srcs a0.v) = true from all_of_take hK om)⟩
 refine kT <| seqE <| blockE <| sR <| pu2 ?_
 refine sIdx n0 ((k : Nat) : Int) Tryz.runUnderlying22 Tryz.sizeOf3 ?_
 intro k0 _ _ l0 s1
 rw [Int.toNat_natCast] at l0
 refine sLp g0 (s1.up 0 rfl) 0 (I k0) (Tryz.isAgg3 _) ?_
 refine pu2 ?_
 refine sD 75 (k0 < 0) (fun t1 => ?_) (fun t1 => ?_)
 ·refine pu7 <| nT <| cTt <| sR <| pu1 <| nT <| retE <| blockK_r <| thenK_r <| tR <| blockK_r <| thenK_r <| tR <| thenK_r <| retT [I 6] ?_
  have u1 := (g0.drops [0, 0])
  have hs1 := all_false_at (p := fun x => decide (0 ≤ x ∧ x < ((p.inputs.l.map Plane.v).length + (p.stages.l.map Stage.v).length : Int))) l0 (decide_eq_false om)
  have hs2 := all_false_at (p := fun s => inR ((p.inputs.l.map Plane.v).length + (p.stages.l.map Stage.v).length : Int) (srcs s)) (map_at (f := Stage.v) b0) hs1
  have hk : chkCode p.v = 6 := by unfold chkCode; rw [if_pos (by simp only [Job.v]; omega), if_pos (by simp only [Job.v]; omega), if_neg (by exact fun h => Bool.false_ne_true (hs2.symm.trans h))]
  exact ⟨by rw [hk]; rfl, u1⟩
 refine pu2 <| gY ?_
 refine sIdx n0 ((k : Nat) : Int) Tryz.runUnderlying22 Tryz.sizeOf3 ?_
 intro v1 _ _ p0 w1
 rw [Int.toNat_natCast] at p0
 obtain rfl : k0 = v1 := Option.some.inj (l0.symm.trans p0)
 refine gY ?_
 refine sLp g0 (w1.up 0 rfl) 0 (I k0) (Tryz.isAgg3 _) ?_
 refine pu3 <| nT ?_
 refine cD (k0 ≥ (((p.inputs.n : Nat) : Int) + ((p.stages.n : Nat) : Int))) (fun x1 => ?_) (fun x1 => ?_)
 rotate_left
 ·refine skipE <| blockK_n <| thenK_n <| regionE <| pu1 ?_
  refine sAdd ((k : Nat) : Int) 1 ?_
  refine pu1 <| nT ?_
  exact ⟨k + 1, od, alA, g0, om, all_succ hK l0 (decide_eq_true om)⟩
 refine sR <| pu1 <| nT <| retE <| blockK_r <| thenK_r <| tR <| blockK_r <| thenK_r <| tR <| thenK_r <| retT [I 6] ?_
 have y1 := (g0.drops [0, 0])
 have hs1 := all_false_at (p := fun x => decide (0 ≤ x ∧ x < ((p.inputs.l.map Plane.v).length + (p.stages.l.map Stage.v).length : Int))) l0 (decide_eq_false om)
 have hs2 := all_false_at (p := fun s => inR ((p.inputs.l.map Plane.v).length + (p.stages.l.map Stage.v).length : Int) (srcs s)) (map_at (f := Stage.v) b0) hs1
 have hk : chkCode p.v = 6 := by unfold chkCode; rw [if_pos (by simp only [Job.v]; omega), if_pos (by simp only [Job.v]; omega), if_neg (by exact fun h => Bool.false_ne_true (hs2.symm.trans h))]
 exact ⟨by rw [hk]; rfl, y1⟩

def ordOK (ni : Int) (out : List Int) (s : StageV) : Bool := (srcs s).all fun x => decide (x < ni ∨ x ∈ out)
def ordPick (ni : Int) (out : List Int) : List StageV → Int → Int
  | [], _ => -1
  | s :: l, i => if (decide (¬ (ni + i) ∈ out) && ordOK ni out s) = true then ni + i else ordPick ni out l (i + 1)
def ordGo (ni : Int) (ss : List StageV) : Nat → List Int → Option (List Int)
  | 0, out => some out
  | k + 1, out => if ordPick ni out ss 0 < 0 then none else ordGo ni ss k (out ++ [ordPick ni out ss 0])
def ordV (j : JobV) : List Int × Int := if chkCode j = 0 then (match ordGo j.inputs.length j.stages j.stages.length [] with | some l => (l, 0) | none => ([], 7)) else ([], chkCode j)
theorem ordGo_succ {ni : Int} {ss : List StageV} {i : Nat} {out : List Int} {n : Int} (hn : ordPick ni out ss 0 = n) (h : 0 ≤ n) (hi : i < ss.length) : ordGo ni ss (ss.length - i) out = ordGo ni ss (ss.length - (i + 1)) (out ++ [n]) := by
  have e : ss.length - i = (ss.length - (i + 1)) + 1 := by omega
  rw [e, ordGo, hn, if_neg (by omega)]
theorem ordGo_none {ni : Int} {ss : List StageV} {i : Nat} {out : List Int} {n : Int} (hn : ordPick ni out ss 0 = n) (h : n < 0) (hi : i < ss.length) : ordGo ni ss (ss.length - i) out = none := by
  have e : ss.length - i = (ss.length - (i + 1)) + 1 := by omega
  rw [e, ordGo, hn, if_pos h]
theorem ordPick_range {ni : Int} {out : List Int} {n : Nat} : ∀ (l : List StageV) (i : Nat), i + l.length = n → 0 ≤ ordPick ni out l i → ni ≤ ordPick ni out l i ∧ ordPick ni out l i < ni + n
  | [], i, _, h => by simp [ordPick] at h
  | s :: l, i, hl, h => by
    unfold ordPick at h ⊢
    simp only [List.length_cons] at hl
    split
    · omega
    · rename_i hc
      rw [if_neg hc] at h
      exact ordPick_range l (i + 1) (by omega) h
theorem ordGo_range {ni : Int} {ss : List StageV} : ∀ (k : Nat) (out l : List Int), (∀ x ∈ out, ni ≤ x ∧ x < ni + ss.length) → ordGo ni ss k out = some l → ∀ x ∈ l, ni ≤ x ∧ x < ni + ss.length
 | 0, out, l, ho, h => by simp only [ordGo, Option.some.injEq] at h; subst h; exact ho
 | k + 1, out, l, ho, h => by
  unfold ordGo at h
  split at h
  ·cases h
  ·refine ordGo_range k _ l (fun x hx => ?_) h
   rcases List.mem_append.1 hx with h1 | h1
   ·exact ho x h1
   ·simp only [List.mem_singleton] at h1
    subst h1
    have h2 : (0 : Int) ≤ ordPick ni out ss ((0 : Nat) : Int) := by have e : ((0 : Nat) : Int) = 0 := rfl; rw [e]; omega
    exact ordPick_range ss 0 om h2
theorem ordV_range {j : JobV} (h : (ordV j).2 = 0) : ∀ x ∈ (ordV j).1, (j.inputs.length : Int) ≤ x ∧ x < j.inputs.length + j.stages.length := by
  unfold ordV at *
  split at h
  · rename_i hc
    rw [if_pos hc]
    split at h
    · rename_i l hl
      exact ordGo_range _ _ _ (fun x hx => by cases hx) hl
    · simp at h
  · rename_i hc
    exact absurd h hc
theorem ordV_chk {j : JobV} (h : (ordV j).2 = 0) : chkCode j = 0 := by
  unfold ordV at h
  split at h
  · assumption
  · exact h
theorem r17_order (p : Job) (hp : Job.Ok [H] p) (hb : p.inputs.n ≤ 1000000 ∧ p.stages.n ≤ 1000000 ∧ p.outputs.n ≤ 1000000) (hS : Sat W w (H :: F)) :
  Calls Tryz.prog 39 #[.agg (encJob p).toArray] w fun e w' => ∃ (az : Option Addr) (nz kz : Nat) (G : Chunk), e = .returned (.tuple #[.slice az nz kz, I ((ordV p.v).2)]) ∧ RdT encI 1 [G] az nz kz ((ordV p.v).1) ∧ Sat W w' (G :: H :: F) := by
 have hl_p_inputs := hp.inputs.le; have hn_p_inputs := hp.inputs.len
 have hl_p_stages := hp.stages.le; have hn_p_stages := hp.stages.len
 have hl_p_outputs := hp.outputs.le; have hn_p_outputs := hp.outputs.len
 have hmi : (p.inputs.l.map Plane.v).length = p.inputs.n := by simp [hn_p_inputs]
 have hms : (p.stages.l.map Stage.v).length = p.stages.n := by simp [hn_p_stages]
 refine callsA 83 Tryz.func39 rfl ?_
 refine sR ?_
 refine sBox hS (.agg (encJob p).toArray) (encJob p).toArray ?_
 intro e0 _ v0
 refine pu2 <| nT <| seqE <| sR ?_
 refine lA v0 0 0 4 (Tryz.isAgg28 _) (Tryz.sizeOf28 _) ?_
 refine cR Tryz.call62 (r17_check p ⟨(RdT.flat (hp.inputs.up 1 (by rfl))), (fun z hz => (hp.inputsD z hz).of_mem (mem_flat1 1 (by rfl))), (RdT.flat (hp.stages.up 1 (by rfl))), (fun z hz => (hp.stagesD z hz).of_mem (mem_flat1 1 (by rfl))), (RdT.flat (hp.outputs.up 1 (by rfl)))⟩ (od) (Sat.flat v0)) ?_
 intro _ w0
 refine pu1 <| nT <| sR <| pu2 <| nT ?_
 refine cN (chkCode p.v) 0 (fun z0 => ?_) (fun z0 => ?_)
 rotate_left
 ·refine sR <| pu3 <| nT <| retE <| thenK_r <| retT [.slice none 0 0, I (chkCode p.v)] ?_
  have hk : ordV p.v = ([], (chkCode p.v)) := by unfold ordV; rw [if_neg ‹_›]
  have a1 := (w0.dropAt 0 rfl)
  have b1 : Sat W _ ([] :: H :: F) := Sat.nilc a1
  have hl : ([] : List Int) = (ordV p.v).1 := (by rw [hk])
  have hrd := RdT.nil (enc := encI) (sz := 1) fR [[]]
  rw [hl] at hrd
  exact ⟨_, _, _, _, (by rw [hk]; rfl), hrd, b1⟩
 refine kT <| sR <| pu1 <| nT <| seqE <| blockE ?_
 have c1 := Sat.nilc w0
 have d1 := OwnT.nil (enc := encI) (E := 3) (sz := 1) fR
 refine loopA (γ := Nat × (List Int) × (Option Addr) × Nat × Nat × Chunk) (fun ⟨i, zs, azs, nzs, kzs, czs⟩ => [(1, Pt e0 0), (5, .slice azs nzs kzs)]) (fun ⟨i, zs, azs, nzs, kzs, czs⟩ w => Sat W w (czs :: [(e0, .cells (encJob p).toArray 28 (0, 0))] :: H :: F) ∧ i ≤ p.stages.n ∧ (zs.length = i) ∧ (ordGo ((p.inputs.n : Nat) : Int) (p.stages.l.map Stage.v) (p.stages.l.map Stage.v).length [] = ordGo ((p.inputs.n : Nat) : Int) (p.stages.l.map Stage.v) ((p.stages.l.map Stage.v).length - i) zs) ∧ OwnT encI 3 1 azs nzs kzs zs czs) (fun ⟨i, zs, azs, nzs, kzs, czs⟩ => p.stages.n - i) (0, [], none, 0, 0, []) ⟨c1, om, by rfl, by rfl, d1⟩ ?_
 rintro ⟨i, zs, azs, nzs, kzs, czs⟩ ρ _ ⟨o0, hi, hzi, hG, hOzs⟩
 have hn_zs := hOzs.len; have hl_zs := hOzs.le
 refine seqE <| sR <| pu3 ?_
 refine sL o0 1 1 (.slice p.stages.a p.stages.n p.stages.k) (Tryz.isAgg26 _) ?_
 refine pu2 <| nT ?_
 refine cD (((nzs : Nat) : Int) < ((p.stages.n : Nat) : Int)) (fun e1 => ?_) (fun e1 => ?_)
 rotate_left
 ·refine exitE <| xB <| thenK_n <| sR <| pu3 <| nT <| retE <| retT [.slice azs nzs kzs, I 0] ?_
  have hk : ordV p.v = (zs, 0) := by
   have h0 : ordGo p.v.inputs.length p.v.stages p.v.stages.length [] = some zs := by
    have h := hG; rw [show (p.stages.l.map Stage.v).length - i = 0 from by simp; omega] at h; rw [← hmi] at h; exact h
   unfold ordV; rw [if_pos om, h0]
  have f1 := (o0.dropAt 1 rfl)
  have hl : zs = (ordV p.v).1 := (by rw [hk])
  have hrd := (hOzs.rdAt (cs := [czs]) 0 rfl)
  rw [hl] at hrd
  exact ⟨_, _, _, _, (by rw [hk]; rfl), hrd, f1⟩
 refine kT <| blockE <| sR <| pu1 <| nT <| seqE <| sR <| pu1 <| nT <| blockE ?_
 refine loopA (γ := Nat × Int) (fun ⟨j, nx⟩ => [(1, Pt e0 0), (5, .slice azs nzs kzs), (7, I ((j : Nat) : Int)), (6, I nx)]) (fun ⟨j, nx⟩ w => Sat W w (czs :: [(e0, .cells (encJob p).toArray 28 (0, 0))] :: H :: F) ∧ j ≤ p.stages.n ∧ ((nx = -1 ∧ ordPick ((p.inputs.n : Nat) : Int) zs (p.stages.l.map Stage.v) 0 = ordPick ((p.inputs.n : Nat) : Int) zs ((p.stages.l.map Stage.v).drop j) ((j : Nat) : Int)) ∨ (0 ≤ nx ∧ nx = ordPick ((p.inputs.n : Nat) : Int) zs (p.stages.l.map Stage.v) 0))) (fun ⟨j, nx⟩ => p.stages.n - j) (0, -1) ⟨o0, om, by exact .inl ⟨rfl, rfl⟩⟩ ?_
 rintro ⟨j, nx⟩ ρ _ ⟨g0, hj, hP⟩
 refine seqE <| sR <| pu2 ?_
 refine sL g0 1 1 (.slice p.stages.a p.stages.n p.stages.k) (Tryz.isAgg26 _) ?_
 refine pu3 ?_
 refine sD 28 (((j : Nat) : Int) < ((p.stages.n : Nat) : Int)) (fun g1 => ?_) (fun g1 => ?_)
 rotate_left
 ·refine pu3 <| nT <| cFf <| exitE <| xB <| thenK_n <| seqE <| seqE ?_
  have hpk : ordPick ((p.inputs.n : Nat) : Int) zs (p.stages.l.map Stage.v) 0 = nx := by
   rcases hP with ⟨h1, h2⟩ | ⟨h1, h2⟩
   ·rw [h2, List.drop_of_length_le (by simp; omega), h1]; rfl
   ·exact h2.symm
  refine regionE <| pu2 <| nT ?_
  refine cD (nx < 0) (fun i1 => ?_) (fun i1 => ?_)
  rotate_left
  ·refine kT <| regionE <| pu2 ?_
   refine sBS g0 #[I nx] Tryz.runUnderlying22 Tryz.sizeOf3 Tryz.zeroValue3 ?_
   intro _ _ j1
   refine sApp (nb := 8) j1 hOzs 1 (RdT.blk (enc := encI) (sz := 1) (xs := [nx]) fR 1 0 rfl rfl rfl om) Tryz.underlying22 (i := Tryz.t3) kr fR ?_
   intro k1 l1 m1 _ n1 o1
   refine pu1 <| nB ?_
   have p1 := (o1.dropAt 0 rfl)
   exact ⟨(i + 1, (zs ++ [nx]), k1, (nzs + 1), l1, m1), od, alA, p1, om, by simp; omega, by rw [hG]; exact ordGo_succ hpk om (by simp; omega), n1⟩
  refine sR <| pu2 <| nT <| retE <| tR <| tR <| thenK_r <| retT [.slice none 0 0, I 7] ?_
  have hk : ordV p.v = ([], 7) := by
   have h0 : ordGo p.v.inputs.length p.v.stages p.v.stages.length [] = none := by
    have h := hG; rw [ordGo_none hpk om (by simp; omega)] at h; rw [← hmi] at h; exact h
   unfold ordV; rw [if_pos om, h0]
  have q1 := (g0.drops [0, 0])
  have r1 : Sat W _ ([] :: H :: F) := Sat.nilc q1
  have hl : ([] : List Int) = (ordV p.v).1 := (by rw [hk])
  have hrd := RdT.nil (enc := encI) (sz := 1) fR [[]]
  rw [hl] at hrd
  exact ⟨_, _, _, _, (by rw [hk]; rfl), hrd, r1⟩
 refine pu3 <| nT ?_
 refine cD (nx < 0) (fun x0 => ?_) (fun x0 => ?_)
 rotate_left
 ·refine exitE <| xB <| thenK_n <| seqE <| seqE ?_
  have hpk : ordPick ((p.inputs.n : Nat) : Int) zs (p.stages.l.map Stage.v) 0 = nx := by
   rcases hP with ⟨h1, h2⟩ | ⟨h1, h2⟩
   ·rw [h2, List.drop_of_length_le (by simp; omega), h1]; rfl
   ·exact h2.symm
  refine regionE <| pu2 <| nT ?_
  refine cF _ (decide_eq_false x0) ?_
  refine kT <| regionE <| pu2 ?_
  refine sBS g0 #[I nx] Tryz.runUnderlying22 Tryz.sizeOf3 Tryz.zeroValue3 ?_
  intro _ _ s1
  refine sApp (nb := 8) s1 hOzs 1 (RdT.blk (enc := encI) (sz := 1) (xs := [nx]) fR 1 0 rfl rfl rfl om) Tryz.underlying22 (i := Tryz.t3) kr fR ?_
  intro t1 u1 v1 _ w1 x1
  refine pu1 <| nB ?_
  have y1 := (x1.dropAt 0 rfl)
  exact ⟨(i + 1, (zs ++ [nx]), t1, (nzs + 1), u1, v1), od, alA, y1, om, by simp; omega, by rw [hG]; exact ordGo_succ hpk om (by simp; omega), w1⟩
 refine kT <| seqE <| blockE <| seqE ?_
 obtain ⟨hnx, hP1⟩ : nx = -1 ∧ ordPick ((p.inputs.n : Nat) : Int) zs (p.stages.l.map Stage.v) 0 = ordPick ((p.inputs.n : Nat) : Int) zs ((p.stages.l.map Stage.v).drop j) j := by
  rcases hP with h | h
  ·exact h
  ·omega
 refine regionE <| pu1 ?_
 refine sL g0 1 0 (.slice p.inputs.a p.inputs.n p.inputs.k) (Tryz.isAgg25 _) ?_
 refine pu2 ?_
 refine sAdd ((p.inputs.n : Nat) : Int) ((j : Nat) : Int) ?_
 refine pu1 <| nT <| sR <| pu2 ?_
 refine cR Tryz.call63 (r17_has azs nzs kzs zs (((p.inputs.n : Nat) : Int) + ((j : Nat) : Int)) (RdT.flat (hOzs.rdAt 0 (by rfl))) (Sat.flat g0)) ?_
 intro _ p0
 refine pu2 <| nT <| sR <| pu1 ?_
 refine sL p0 1 1 (.slice p.stages.a p.stages.n p.stages.k) (Tryz.isAgg26 _) ?_
 refine pu1 ?_
 refine sIdx hp.stages ((j : Nat) : Int) Tryz.runUnderlying26 Tryz.sizeOf44 ?_
 intro a0 _ _ b0 z1
 rw [Int.toNat_natCast] at b0
 refine sLpA p0 (z1.up 2 rfl) 0 (encStage a0) (Tryz.isAgg44 _) (Tryz.sizeOf44 _) ?_
 refine cX Tryz.call10 (r15_sources a0 ⟨(RdT.flat ((hp.stagesD a0 (List.mem_of_getElem? b0)).weights.up 2 (by rfl))), (RdT.flat ((hp.stagesD a0 (List.mem_of_getElem? b0)).row.up 2 (by rfl))), (RdT.flat ((hp.stagesD a0 (List.mem_of_getElem? b0)).col.up 2 (by rfl))), (RdT.flat ((hp.stagesD a0 (List.mem_of_getElem? b0)).x.up 2 (by rfl))), (fun z hz => ((hp.stagesD a0 (List.mem_of_getElem? b0)).xD z hz).of_mem (mem_flat1 2 (by rfl))), (RdT.flat ((hp.stagesD a0 (List.mem_of_getElem? b0)).y.up 2 (by rfl))), (fun z hz => ((hp.stagesD a0 (List.mem_of_getElem? b0)).yD z hz).of_mem (mem_flat1 2 (by rfl))), (RdT.flat ((hp.stagesD a0 (List.mem_of_getElem? b0)).ops.up 2 (by rfl)))⟩ (Sat.flat p0)) ?_
 rintro _ _ ⟨l0, f0, m0, a2, rfl, q0, b2⟩
 have c2 := Sat.unflat1 b2
 have hn_az_28 := q0.len; have hl_az_28 := q0.le
 have y2 : 1 ≤ (srcs a0.v).length ∧ (srcs a0.v).length ≤ 2 := srcs_len _
 refine pu1 <| nT <| seqE <| sR <| pu1 <| nT <| blockE ?_
 refine loopA (γ := Nat × Bool) (fun ⟨k, rd⟩ => [(1, Pt e0 0), (5, .slice azs nzs kzs), (7, I ((j : Nat) : Int)), (6, I nx), (8, I (((p.inputs.n : Nat) : Int) + ((j : Nat) : Int))), (10, .slice l0 f0 m0), (11, I ((k : Nat) : Int)), (9, .bool rd)]) (fun ⟨k, rd⟩ w => Sat W w (a2 :: czs :: [(e0, .cells (encJob p).toArray 28 (0, 0))] :: H :: F) ∧ k ≤ f0 ∧ (rd = (decide (¬ (((p.inputs.n : Nat) : Int) + ((j : Nat) : Int)) ∈ zs) && ((srcs a0.v).take k).all (fun x => decide (x < ((p.inputs.n : Nat) : Int) ∨ x ∈ zs))))) (fun ⟨k, rd⟩ => f0 - k) (0, (!decide ((((p.inputs.n : Nat) : Int) + ((j : Nat) : Int)) ∈ zs))) ⟨c2, om, by simp⟩ ?_
 rintro ⟨k, rd⟩ ρ _ ⟨c0, hk, hQ⟩
 refine seqE <| sR <| pu4 <| nT ?_
 refine cD (((k : Nat) : Int) < ((f0 : Nat) : Int)) (fun d2 => ?_) (fun d2 => ?_)
 rotate_left
 ·refine exitE <| xB <| thenK_n <| seqE ?_
  have hrd : rd = (decide (¬ (((p.inputs.n : Nat) : Int) + ((j : Nat) : Int)) ∈ zs) && ordOK ((p.inputs.n : Nat) : Int) zs a0.v) := by rw [hQ, List.take_of_length_le om]; rfl
  refine regionE <| pu1 <| nT ?_
  refine cB rd (fun e2 => ?_) (fun e2 => ?_)
  rotate_left
  ·refine skipE <| blockK_n <| thenK_n <| regionE <| pu1 ?_
   refine sAdd ((j : Nat) : Int) 1 ?_
   refine pu1 <| nT ?_
   have f2 := (c0.dropAt 0 rfl)
   exact ⟨(j + 1, nx), od, alA, f2, om, .inl ⟨hnx, by rw [hP1, drop_at (map_at (f := Stage.v) b0), ordPick, if_neg (by rw [← hrd]; assumption)]; rfl⟩⟩
  refine regionE <| pu2 <| nB <| regionE <| pu1 ?_
  refine sAdd ((j : Nat) : Int) 1 ?_
  refine pu1 <| nT ?_
  have g2 := (c0.dropAt 0 rfl)
  exact ⟨(j + 1, (((p.inputs.n : Nat) : Int) + ((j : Nat) : Int))), od, alA, g2, om, .inr ⟨om, by rw [hP1, drop_at (map_at (f := Stage.v) b0), ordPick, if_pos (by rw [← hrd]; assumption)]⟩⟩
 refine kT <| seqE <| blockE ?_
 rcases Classical.em (rd = true) with n0 | n0
 rotate_left
 ·refine drawE [16] [] [(true, [0, 1]), (true, [2, 3, 4, 6, 5, 7, 8, 9, 10, 11, 12, 13, 14, 15]), (false, [16]), (true, [17, 18, 19])] rfl kr trivial ?_
  have i2 := c0.drew
  refine wU [0, 1] ?_
  refine wFix 56 _ false (Bool.eq_false_iff.2 n0) ?_
  refine wU [2, 3, 4, 6, 5, 7, 8, 9, 10, 11, 12, 13, 14, 15] ?_
  refine wO rfl ?_
  refine pu1 ?_
  refine nilO ⟨trivial, ?_⟩
  refine wU [17, 18, 19] ?_
  refine wN ?_
  refine blockK_n <| thenK_n <| regionE <| pu1 ?_
  refine sAdd ((k : Nat) : Int) 1 ?_
  refine pu1 <| nT ?_
  exact ⟨(k + 1, false), od, alA, i2, om, (all_take_false (hQ.symm.trans (by simpa using (by assumption : ¬ rd = true)))).symm⟩
 obtain ⟨d0, i0, j0, r0, k0, s0⟩ := RdT.elem q0 ((k : Nat) : Int)
 rw [Int.toNat_natCast] at r0
 by_cases y0 : (d0 : Int) < ((p.inputs.n : Nat) : Int)
 ·refine drawE [16] [(5, ⟨i0, j0, none⟩, I d0), (7, ⟨e0, 0, none⟩, .slice p.inputs.a p.inputs.n p.inputs.k)] [(true, [0, 1]), (true, [2, 3]), (true, [4]), (true, [6]), (true, [5]), (true, [7]), (true, [8, 9, 10]), (true, [11, 12, 13, 14, 15]), (false, [16]), (true, [17, 18, 19])] rfl kr ⟨.inr ((k0.up 0 rfl).cell c0 (k := 0) rfl), .inr (c0.cell 2 rfl rfl), trivial⟩ ?_
  have t0 := c0.drew
  refine wU [0, 1] ?_
  refine wFix 56 _ true n0 ?_
  refine wU [2, 3] ?_
  refine wY (.pointer (some ⟨i0, j0, none⟩)) rfl (fun w _ => Y_idx (a := l0) (i := ((k : Nat) : Int)) (len := f0) (cap := m0) rfl Tryz.runUnderlying22 Tryz.sizeOf3 kr kr s0) ?_
  refine wU [6] ?_
  refine wLd (I d0) 0 Tryz.isAgg3 ?_
  refine wLd (.slice p.inputs.a p.inputs.n p.inputs.k) 1 Tryz.isAgg25 ?_
  refine wU [8, 9, 10] ?_
  refine wFix 65 _ true (decide_eq_true y0) ?_
  refine wU [11, 12, 13, 14, 15] ?_
  refine wO rfl ?_
  refine pu1 ?_
  refine nilO ⟨⟨.inr ((k0.up 0 rfl).cell t0 (k := 0) rfl), .inr (t0.cell 2 rfl rfl), trivial⟩, ?_⟩
  refine wU [17, 18, 19] ?_
  refine wN ?_
  refine blockK_n <| thenK_n <| regionE <| pu1 ?_
  refine sAdd ((k : Nat) : Int) 1 ?_
  refine pu1 <| nT ?_
  exact ⟨(k + 1, true), od, alA, t0, om, by rw [all_take_succ r0, ← Bool.and_assoc, ← hQ, (by assumption : rd = true), Bool.true_and]; exact (decide_eq_true (.inl ‹_›)).symm⟩
 refine drawE [16] [(5, ⟨i0, j0, none⟩, I d0), (7, ⟨e0, 0, none⟩, .slice p.inputs.a p.inputs.n p.inputs.k), (15, ⟨i0, j0, none⟩, I d0)] [(true, [0, 1]), (true, [2, 3]), (true, [4]), (true, [6]), (true, [5]), (true, [7]), (true, [8, 9, 10]), (true, [11, 12, 13]), (true, [14]), (true, [15]), (false, [16]), (true, [17, 18, 19])] rfl kr ⟨.inr ((k0.up 0 rfl).cell c0 (k := 0) rfl), .inr (c0.cell 2 rfl rfl), .inr ((k0.up 0 rfl).cell c0 (k := 0) rfl), trivial⟩ ?_
 have j2 := c0.drew
 refine wU [0, 1] ?_
 refine wFix 56 _ true n0 ?_
 refine wU [2, 3] ?_
 refine wY (.pointer (some ⟨i0, j0, none⟩)) rfl (fun w _ => Y_idx (a := l0) (i := ((k : Nat) : Int)) (len := f0) (cap := m0) rfl Tryz.runUnderlying22 Tryz.sizeOf3 kr kr s0) ?_
 refine wU [6] ?_
 refine wLd (I d0) 0 Tryz.isAgg3 ?_
 refine wLd (.slice p.inputs.a p.inputs.n p.inputs.k) 1 Tryz.isAgg25 ?_
 refine wU [8, 9, 10] ?_
 refine wFix 65 _ false (decide_eq_false y0) ?_
 refine wU [11, 12, 13] ?_
 refine wY (.pointer (some ⟨i0, j0, none⟩)) rfl (fun w _ => Y_idx (a := l0) (i := ((k : Nat) : Int)) (len := f0) (cap := m0) rfl Tryz.runUnderlying22 Tryz.sizeOf3 kr kr s0) ?_
 refine wLd (I d0) 2 Tryz.isAgg3 ?_
 refine wO rfl ?_
 refine gY ?_
 refine cR Tryz.call63 (r17_has azs nzs kzs zs d0 (RdT.flat (hOzs.rdAt 1 (by rfl))) (Sat.flat j2)) ?_
 intro _ u0
 refine nilO ⟨⟨.inr ((k0.up 0 rfl).cell u0 (k := 0) rfl), .inr (u0.cell 2 rfl rfl), dI, trivial⟩, ?_⟩
 refine wU [17, 18, 19] ?_
 refine wN ?_
 refine blockK_n <| thenK_n <| regionE <| pu1 ?_
 refine sAdd ((k : Nat) : Int) 1 ?_
 refine pu1 <| nT ?_
 exact ⟨(k + 1, decide (d0 ∈ zs)), od, alA, u0, om, by rw [all_take_succ r0, ← Bool.and_assoc, ← hQ, (by assumption : rd = true), Bool.true_and]; exact decide_eq_decide.2 ⟨fun h => .inr h, fun h => h.resolve_left ‹_›⟩⟩

def shpOf (p : PlaneV) : Shape := ⟨p.w, p.h, p.max_⟩
def shpAt (l : List Shape) (i : Int) : Shape := l[i.toNat]?.getD ⟨0, 0, 0⟩
def stgAt (ss : List StageV) (ni n : Int) : StageV := ss[(n - ni).toNat]?.getD ⟨0, 0, 0, false, 0, 0, 0, 0, [], [], [], 0, 0, [], [], 0, [], 0⟩
def shpStep (ni : Int) (ss : List StageV) (n : Int) (out : List Shape) : Shape × Int :=
  ofV (stgAt ss ni n) (shpAt out (stgAt ss ni n).a) (if twoP (stgAt ss ni n) then shpAt out (stgAt ss ni n).b else ⟨0, 0, 0⟩)
def shpGo (ni : Int) (ss : List StageV) : List Int → List Shape → List Shape × Int × Int
  | [], out => (out, 0, 0)
  | n :: l, out => if (shpStep ni ss n out).2 = 0 then shpGo ni ss l (out.set n.toNat (shpStep ni ss n out).1) else ([], n, (shpStep ni ss n out).2)
def shpV (j : JobV) : List Shape × Int × Int :=
  if (ordV j).2 = 0 then (if j.inputs.all planeOK = true then shpGo j.inputs.length j.stages (ordV j).1 (j.inputs.map shpOf ++ List.replicate j.stages.length ⟨0, 0, 0⟩) else ([], (j.inputs.takeWhile planeOK).length, 1)) else ([], 0, (ordV j).2)
theorem takeWhile_at {α : Type} {p : α → Bool} : ∀ {l : List α} {i : Nat} {x : α}, (l.take i).all p = true → l[i]? = some x → p x = false → (l.takeWhile p).length = i
  | [], i, x, _, h, _ => by simp at h
  | y :: l, 0, x, _, h, e => by simp at h; subst h; simp [e]
  | y :: l, i + 1, x, h0, h, e => by
    simp only [List.take_succ_cons, List.all_cons, Bool.and_eq_true] at h0
    rw [List.takeWhile_cons, if_pos h0.1]
    simp only [List.length_cons]
    rw [takeWhile_at h0.2 (by simpa using h) e]
theorem chk_src {j : JobV} (h : chkCode j = 0) {s : StageV} (hs : s ∈ j.stages) : (0 ≤ s.a ∧ s.a < j.inputs.length + j.stages.length) ∧ (twoP s → 0 ≤ s.b ∧ s.b < j.inputs.length + j.stages.length) := by
  unfold chkCode at h
  split at h
  · split at h
    · split at h
      · rename_i hall
        have h1 := List.all_eq_true.1 hall s hs
        have h2 := fun x hx => of_decide_eq_true (List.all_eq_true.1 h1 x hx)
        constructor
        · exact h2 s.a (by unfold srcs; split <;> simp)
        · intro ht; exact h2 s.b (by unfold srcs; rw [if_pos ht]; simp)
      · omega
    · omega
  · omega
theorem r17_of (p : Plane) (hp : Plane.Ok [H] p) (hS : Sat W w (H :: F)) :
  Ro Tryz.prog 9 #[.agg (encPlane p).toArray] (.agg #[I p.w, I p.h, I p.max_]) W w (H :: F) := by
 have hl_p_pix := hp.pix.le; have hn_p_pix := hp.pix.len
 refine callsA 10 Tryz.func9 rfl ?_
 refine sR ?_
 refine sBox hS (.agg (encPlane p).toArray) (encPlane p).toArray ?_
 intro _ _ c0
 refine sAlloc c0 Tryz.zeroValue35 ?_
 intro _ _ a0
 refine nT <| sR <| pu1 ?_
 refine sL a0 1 0 (I p.w) (Tryz.isAgg3 _) ?_
 refine pu1 ?_
 refine sL a0 1 1 (I p.h) (Tryz.isAgg3 _) ?_
 refine pu1 ?_
 refine sL a0 1 2 (I p.max_) (Tryz.isAgg3 _) ?_
 refine pu1 ?_
 refine sT a0 0 0 (.agg #[I p.w, I p.h, I p.max_]) [I p.w, I p.h, I p.max_] #[I p.w, I p.h, I p.max_] Tryz.sizeOf35 ?_
 intro _ b0
 refine nT <| retE <| retN (vs := [.agg #[I p.w, I p.h, I p.max_]]) rfl (.cons (.cell _ _ _ _ kr (lvA b0 0 0 [I p.w, I p.h, I p.max_] (Tryz.isAgg35 _) (Tryz.sizeOf35 _) rfl rfl rfl)) .nil) ?_
 have d0 := (b0.drops [0, 0])
 exact ⟨rfl, d0⟩
theorem r17_shapes (p : Job) (hp : Job.Ok [H] p) (hb : p.inputs.n ≤ 1000000 ∧ p.stages.n ≤ 1000000 ∧ p.outputs.n ≤ 1000000) (hS : Sat W w (H :: F)) :
  Calls Tryz.prog 40 #[.agg (encJob p).toArray] w fun e w' => ∃ (az : Option Addr) (nz kz : Nat) (G : Chunk), e = .returned (.tuple #[.slice az nz kz, I ((shpV p.v).2.1), I ((shpV p.v).2.2)]) ∧ RdT encShape 3 [G] az nz kz ((shpV p.v).1) ∧ Sat W w' (G :: H :: F) := by
 have hl_p_inputs := hp.inputs.le; have hn_p_inputs := hp.inputs.len
 have hl_p_stages := hp.stages.le; have hn_p_stages := hp.stages.len
 have hl_p_outputs := hp.outputs.le; have hn_p_outputs := hp.outputs.len
 have hmi : (p.inputs.l.map Plane.v).length = p.inputs.n := by simp [hn_p_inputs]
 have hms : (p.stages.l.map Stage.v).length = p.stages.n := by simp [hn_p_stages]
 refine callsA 106 Tryz.func40 rfl ?_
 refine sR ?_
 refine sBox hS (.agg (encJob p).toArray) (encJob p).toArray ?_
 intro b1 _ c2
 refine pu3 <| nT <| sR ?_
 refine lA c2 0 0 4 (Tryz.isAgg28 _) (Tryz.sizeOf28 _) ?_
 refine cX Tryz.call39 (r17_order p ⟨(RdT.flat (hp.inputs.up 1 (by rfl))), (fun z hz => (hp.inputsD z hz).of_mem (mem_flat1 1 (by rfl))), (RdT.flat (hp.stages.up 1 (by rfl))), (fun z hz => (hp.stagesD z hz).of_mem (mem_flat1 1 (by rfl))), (RdT.flat (hp.outputs.up 1 (by rfl)))⟩ (od) (Sat.flat c2)) ?_
 rintro _ _ ⟨t0, s0, u0, d2, rfl, v0, h3⟩
 have g1 := Sat.unflat1 h3
 have hn_az_7 := v0.len; have hl_az_7 := v0.le
 refine pu5 <| nT <| seqE <| sR <| pu2 <| nT ?_
 refine cN ((ordV p.v).2) 0 (fun i3 => ?_) (fun i3 => ?_)
 rotate_left
 ·refine sR <| pu4 <| nT <| retE <| thenK_r <| retT [.slice none 0 0, I 0, I ((ordV p.v).2)] ?_
  have hk : shpV p.v = ([], 0, (ordV p.v).2) := by unfold shpV; rw [if_neg ‹_›]
  have j3 := (g1.drops [0, 0])
  have k3 : Sat W _ ([] :: H :: F) := Sat.nilc j3
  have hl : ([] : List Shape) = (shpV p.v).1 := (by rw [hk])
  have hrd := RdT.nil (enc := encShape) (sz := 3) fR [[]]
  rw [hl] at hrd
  exact ⟨_, _, _, _, (by rw [hk]; rfl), hrd, k3⟩
 refine kT <| sR <| pu1 ?_
 refine sL g1 1 0 (.slice p.inputs.a p.inputs.n p.inputs.k) (Tryz.isAgg25 _) ?_
 refine pu2 ?_
 refine sL g1 1 1 (.slice p.stages.a p.stages.n p.stages.k) (Tryz.isAgg26 _) ?_
 refine pu1 ?_
 refine sAdd ((p.inputs.n : Nat) : Int) ((p.stages.n : Nat) : Int) ?_
 refine sMake (kl := .i64) (kc := .i64) (enc := encShape) (sz := 3) (nb := 24) g1 ⟨0, 0, 0⟩ ((((p.inputs.n : Nat) : Int) + ((p.stages.n : Nat) : Int))).toNat (((p.inputs.n : Nat) : Int) + ((p.stages.n : Nat) : Int)) (om : (((p.inputs.n : Nat) : Int) + ((p.stages.n : Nat) : Int)) = ((((((p.inputs.n : Nat) : Int) + ((p.stages.n : Nat) : Int))).toNat : Nat) : Int)) Tryz.underlying30 (i := Tryz.t35) kr fR ?_
 intro l3 m3 _ n3 o3
 refine pu1 <| nT <| seqE <| sR <| pu1 <| nT <| blockE ?_
 refine loopA (γ := Nat × (List Shape) × (Option Addr) × Nat × Nat × Chunk) (fun ⟨i, zs, azs, nzs, kzs, czs⟩ => [(1, Pt b1 0), (5, .slice t0 s0 u0), (8, I ((i : Nat) : Int)), (7, .slice azs nzs kzs)]) (fun ⟨i, zs, azs, nzs, kzs, czs⟩ w => Sat W w (czs :: d2 :: [(b1, .cells (encJob p).toArray 28 (0, 0))] :: H :: F) ∧ i ≤ p.inputs.n ∧ (zs = ((p.inputs.l.map Plane.v).take i).map shpOf ++ List.replicate (p.inputs.n + p.stages.n - i) ⟨0, 0, 0⟩) ∧ (((p.inputs.l.map Plane.v).take i).all planeOK = true) ∧ (zs.length = p.inputs.n + p.stages.n) ∧ OwnT encShape 35 3 azs nzs kzs zs czs) (fun ⟨i, zs, azs, nzs, kzs, czs⟩ => p.inputs.n - i) (0, (List.replicate ((((p.inputs.n : Nat) : Int) + ((p.stages.n : Nat) : Int))).toNat ⟨0, 0, 0⟩), (At l3 0), ((((p.inputs.n : Nat) : Int) + ((p.stages.n : Nat) : Int))).toNat, ((((p.inputs.n : Nat) : Int) + ((p.stages.n : Nat) : Int))).toNat, m3) ⟨o3, om, by simp; omega, by rfl, by simp; omega, n3⟩ ?_
 rintro ⟨i, zs, azs, nzs, kzs, czs⟩ ρ _ ⟨f1, hi, hZ, hV, hzl, hOzs⟩
 have hn_zs := hOzs.len; have hl_zs := hOzs.le
 refine seqE <| sR <| pu2 ?_
 refine sL f1 2 0 (.slice p.inputs.a p.inputs.n p.inputs.k) (Tryz.isAgg25 _) ?_
 refine pu2 <| nT ?_
 refine cD (((i : Nat) : Int) < ((p.inputs.n : Nat) : Int)) (fun p3 => ?_) (fun p3 => ?_)
 ·refine kT <| seqE <| blockE <| seqE <| sR <| pu1 ?_
  refine sL f1 2 0 (.slice p.inputs.a p.inputs.n p.inputs.k) (Tryz.isAgg25 _) ?_
  refine pu1 ?_
  refine sIdx hp.inputs ((i : Nat) : Int) Tryz.runUnderlying25 Tryz.sizeOf38 ?_
  intro n0 _ _ w0 q3
  rw [Int.toNat_natCast] at w0
  refine sLpA f1 (q3.up 3 rfl) 0 (encPlane n0) (Tryz.isAgg38 _) (Tryz.sizeOf38 _) ?_
  refine cR Tryz.call64 (r4_valid n0 ⟨(RdT.flat ((hp.inputsD n0 (List.mem_of_getElem? w0)).pix.up 3 (by rfl)))⟩ (Sat.flat f1)) ?_
  intro _ h1
  refine pu1 <| nT ?_
  refine cBn (planeOK n0.v) (fun r3 => ?_) (fun r3 => ?_)
  rotate_left
  ·refine sR <| pu4 <| nT <| retE <| tR <| thenK_r <| tR <| thenK_r <| retT [.slice none 0 0, I ((i : Nat) : Int), I 1] ?_
   have hbad : (p.inputs.l.map Plane.v).all planeOK = false := all_false_at (map_at (f := Plane.v) w0) (by simpa using (by assumption : ¬ planeOK n0.v = true))
   have htw : ((p.inputs.l.map Plane.v).takeWhile planeOK).length = i := takeWhile_at hV (map_at (f := Plane.v) w0) (by simpa using (by assumption : ¬ planeOK n0.v = true))
   have hk : shpV p.v = ([], ((i : Nat) : Int), 1) := by unfold shpV; rw [if_pos ‹_›, if_neg (by exact fun h => Bool.false_ne_true (hbad.symm.trans h))]; exact congrArg (fun n : Nat => (([] : List Shape), (n : Int), (1 : Int))) htw
   have s3 := (h1.drops [0, 0, 0])
   have t3 : Sat W _ ([] :: H :: F) := Sat.nilc s3
   have hl : ([] : List Shape) = (shpV p.v).1 := (by rw [hk])
   have hrd := RdT.nil (enc := encShape) (sz := 3) fR [[]]
   rw [hl] at hrd
   exact ⟨_, _, _, _, (by rw [hk]; rfl), hrd, t3⟩
  refine kT <| regionE <| pu3 ?_
  refine sL h1 2 0 (.slice p.inputs.a p.inputs.n p.inputs.k) (Tryz.isAgg25 _) ?_
  refine pu1 ?_
  refine sIdx hp.inputs ((i : Nat) : Int) Tryz.runUnderlying25 Tryz.sizeOf38 ?_
  intro u3 _ _ p1 v3
  rw [Int.toNat_natCast] at p1
  obtain rfl : n0 = u3 := Option.some.inj (w0.symm.trans p1)
  refine sLpA h1 (v3.up 3 rfl) 0 (encPlane n0) (Tryz.isAgg38 _) (Tryz.sizeOf38 _) ?_
  refine cR Tryz.call9 (r17_of n0 ⟨(RdT.flat ((hp.inputsD n0 (List.mem_of_getElem? p1)).pix.up 3 (by rfl)))⟩ (Sat.flat h1)) ?_
  intro _ w3
  refine sIdxO hOzs ((i : Nat) : Int) i Tryz.runUnderlying30 Tryz.sizeOf35 ?_
  intro x3 _ _ y3 _ z3
  refine sStF w3 hOzs z3 0 i 0 x3 (⟨n0.w, n0.h, n0.max_⟩ : Shape) y3 (.agg #[I n0.w, I n0.h, I n0.max_]) [I n0.w, I n0.h, I n0.max_] Tryz.sizeOf35 ?_
  intro _ a4 b4 c4
  refine nB <| regionE <| pu1 ?_
  refine sAdd ((i : Nat) : Int) 1 ?_
  refine pu1 <| nT ?_
  exact ⟨(i + 1, (zs.set i (⟨n0.w, n0.h, n0.max_⟩ : Shape)), azs, nzs, kzs, a4), od, alA, c4, om, by rw [hZ]; exact set_rep (f := shpOf) (map_at (f := Plane.v) w0) om, all_succ hV (map_at (f := Plane.v) w0) ‹_›, by simp; omega, b4⟩
 refine exitE <| xB <| thenK_n <| seqE <| seqE ?_
 have hall : (p.inputs.l.map Plane.v).all planeOK = true := all_of_take hV (by simp; omega)
 have hzs : zs = (p.inputs.l.map Plane.v).map shpOf ++ List.replicate p.stages.n ⟨0, 0, 0⟩ := by rw [hZ, List.take_of_length_le (by simp; omega)]; congr 2; omega
 have hordr := ordV_range (j := p.v) om; have hchk := ordV_chk (j := p.v) om
 refine regionE <| pu1 <| nT <| blockE ?_
 refine loopA (γ := Nat × (List Shape) × (Option Addr) × Nat × Nat × Chunk) (fun ⟨i, ys, ays, nys, kys, cys⟩ => [(1, Pt b1 0), (5, .slice t0 s0 u0), (9, I ((i : Nat) : Int)), (7, .slice ays nys kys)]) (fun ⟨i, ys, ays, nys, kys, cys⟩ w => Sat W w (cys :: d2 :: [(b1, .cells (encJob p).toArray 28 (0, 0))] :: H :: F) ∧ i ≤ s0 ∧ (shpGo ((p.inputs.n : Nat) : Int) (p.stages.l.map Stage.v) ((ordV p.v).1) zs = shpGo ((p.inputs.n : Nat) : Int) (p.stages.l.map Stage.v) (((ordV p.v).1).drop i) ys) ∧ (ys.length = p.inputs.n + p.stages.n) ∧ OwnT encShape 35 3 ays nys kys ys cys) (fun ⟨i, ys, ays, nys, kys, cys⟩ => s0 - i) (0, zs, azs, nzs, kzs, czs) ⟨f1, om, by rfl, by rw [hzs]; simp; omega, hOzs⟩ ?_
 rintro ⟨i, ys, ays, nys, kys, cys⟩ ρ _ ⟨m0, hi, hS2, hyl, hOys⟩
 have hn_ys := hOys.len; have hl_ys := hOys.le
 refine seqE <| sR <| pu4 <| nT ?_
 refine cD (((i : Nat) : Int) < ((s0 : Nat) : Int)) (fun d4 => ?_) (fun d4 => ?_)
 rotate_left
 ·refine exitE <| xB <| thenK_n <| sR <| pu4 <| nT <| retE <| retT [.slice ays nys kys, I 0, I 0] ?_
  have hk0 : shpV p.v = shpGo ((p.inputs.n : Nat) : Int) (p.stages.l.map Stage.v) ((ordV p.v).1) zs := by unfold shpV; rw [if_pos ‹_›, if_pos (by exact hall)]; rw [hzs, ← hms, ← hmi]; rfl
  have hk : shpV p.v = (ys, 0, 0) := by rw [hk0, hS2, List.drop_of_length_le om]; rfl
  have e4 := (m0.drops [1, 1])
  have hl : ys = (shpV p.v).1 := (by rw [hk])
  have hrd := (hOys.rdAt (cs := [cys]) 0 rfl)
  rw [hl] at hrd
  exact ⟨_, _, _, _, (by rw [hk]; rfl), hrd, e4⟩
 refine kT <| seqE <| blockE <| seqE ?_
 obtain ⟨b0, e2, f2, r0, g2, f4⟩ := RdT.elem v0 ((i : Nat) : Int)
 rw [Int.toNat_natCast] at r0
 have hox_x_53 : ((p.inputs.n : Nat) : Int) ≤ b0 ∧ b0 < ((p.inputs.n : Nat) : Int) + ((p.stages.n : Nat) : Int) := by have h := hordr b0 (List.mem_of_getElem? r0); simp only [Job.v] at h; omega
 obtain ⟨a0, p0, q0, f0, h0, g4⟩ := RdT.elem hp.stages (b0 - ((p.inputs.n : Nat) : Int))
 obtain ⟨hsa, hsb⟩ := chk_src hchk (s := a0.v) (List.mem_map_of_mem (List.mem_of_getElem? f0))
 have hsa2 : 0 ≤ a0.a ∧ a0.a < ((p.inputs.n : Nat) : Int) + ((p.stages.n : Nat) : Int) := by simp only [Job.v, Stage.v] at hsa; omega
 have hsb2 : (a0.kind = 6 ∧ ¬ a0.b = -1) → 0 ≤ a0.b ∧ a0.b < ((p.inputs.n : Nat) : Int) + ((p.stages.n : Nat) : Int) := by intro h; have h2 := hsb (by unfold twoP; simp only [Stage.v]; exact h); simp only [Job.v, Stage.v] at h2; omega
 refine drawE [12, 13] [(1, ⟨b1, 1, none⟩, .slice p.stages.a p.stages.n p.stages.k), (5, ⟨e2, f2, none⟩, I b0), (7, ⟨b1, 0, none⟩, .slice p.inputs.a p.inputs.n p.inputs.k), (11, ⟨p0, q0 + 0, none⟩, I a0.kind), (11, ⟨p0, q0 + 1, none⟩, I a0.a), (11, ⟨p0, q0 + 2, none⟩, I a0.b), (11, ⟨p0, q0 + 3, none⟩, .bool a0.barrier), (11, ⟨p0, q0 + 4, none⟩, I a0.edgePolicy), (11, ⟨p0, q0 + 5, none⟩, I a0.edgeFill), (11, ⟨p0, q0 + 6, none⟩, I a0.kW), (11, ⟨p0, q0 + 7, none⟩, I a0.kH), (11, ⟨p0, q0 + 8, none⟩, .slice a0.weights.a a0.weights.n a0.weights.k), (11, ⟨p0, q0 + 9, none⟩, .slice a0.row.a a0.row.n a0.row.k), (11, ⟨p0, q0 + 10, none⟩, .slice a0.col.a a0.col.n a0.col.k), (11, ⟨p0, q0 + 11, none⟩, I a0.shift), (11, ⟨p0, q0 + 12, none⟩, I a0.shift2), (11, ⟨p0, q0 + 13, none⟩, .slice a0.x.a a0.x.n a0.x.k), (11, ⟨p0, q0 + 14, none⟩, .slice a0.y.a a0.y.n a0.y.k), (11, ⟨p0, q0 + 15, none⟩, I a0.bins), (11, ⟨p0, q0 + 16, none⟩, .slice a0.ops.a a0.ops.n a0.ops.k), (11, ⟨p0, q0 + 17, none⟩, I a0.max_)] [(true, [0, 2, 3]), (true, [4]), (true, [6]), (true, [1]), (true, [5]), (true, [7]), (true, [8]), (true, [9]), (true, [10]), (true, [11]), (false, [12]), (false, [13])] rfl kr ⟨.inr (m0.cell 2 rfl rfl), .inr ((g2.up 1 rfl).cell m0 (k := 0) rfl), .inr (m0.cell 2 rfl rfl), .inr ((h0.up 3 rfl).cell m0 (k := 0) rfl), .inr ((h0.up 3 rfl).cell m0 (k := 1) rfl), .inr ((h0.up 3 rfl).cell m0 (k := 2) rfl), .inr ((h0.up 3 rfl).cell m0 (k := 3) rfl), .inr ((h0.up 3 rfl).cell m0 (k := 4) rfl), .inr ((h0.up 3 rfl).cell m0 (k := 5) rfl), .inr ((h0.up 3 rfl).cell m0 (k := 6) rfl), .inr ((h0.up 3 rfl).cell m0 (k := 7) rfl), .inr ((h0.up 3 rfl).cell m0 (k := 8) rfl), .inr ((h0.up 3 rfl).cell m0 (k := 9) rfl), .inr ((h0.up 3 rfl).cell m0 (k := 10) rfl), .inr ((h0.up 3 rfl).cell m0 (k := 11) rfl), .inr ((h0.up 3 rfl).cell m0 (k := 12) rfl), .inr ((h0.up 3 rfl).cell m0 (k := 13) rfl), .inr ((h0.up 3 rfl).cell m0 (k := 14) rfl), .inr ((h0.up 3 rfl).cell m0 (k := 15) rfl), .inr ((h0.up 3 rfl).cell m0 (k := 16) rfl), .inr ((h0.up 3 rfl).cell m0 (k := 17) rfl), trivial⟩ ?_
 have h4 := m0.drew
 refine wU [0, 2, 3] ?_
 refine wY (.pointer (some ⟨e2, f2, none⟩)) rfl (fun w _ => Y_idx (a := t0) (i := ((i : Nat) : Int)) (len := s0) (cap := u0) rfl Tryz.runUnderlying22 Tryz.sizeOf3 kr kr f4) ?_
 refine wU [6] ?_
 refine wLd (.slice p.stages.a p.stages.n p.stages.k) 0 Tryz.isAgg26 ?_
 refine wLd (I b0) 1 Tryz.isAgg3 ?_
 refine wLd (.slice p.inputs.a p.inputs.n p.inputs.k) 2 Tryz.isAgg25 ?_
 refine wU [8] ?_
 refine wSub b0 ((p.inputs.n : Nat) : Int) ?_
 refine wY (.pointer (some ⟨p0, q0, none⟩)) rfl (fun w _ => Y_idx (a := p.stages.a) (i := (b0 - ((p.inputs.n : Nat) : Int))) (len := p.stages.n) (cap := p.stages.k) rfl Tryz.runUnderlying26 Tryz.sizeOf44 kr kr g4) ?_
 refine wY (.agg (encStage a0).toArray) rfl (fun w hF => Y_loadF rfl (Tryz.isAgg44 w) (Tryz.sizeOf44 w) kr rfl ⟨hF 3 _ _ rfl, hF 4 _ _ rfl, hF 5 _ _ rfl, hF 6 _ _ rfl, hF 7 _ _ rfl, hF 8 _ _ rfl, hF 9 _ _ rfl, hF 10 _ _ rfl, hF 11 _ _ rfl, hF 12 _ _ rfl, hF 13 _ _ rfl, hF 14 _ _ rfl, hF 15 _ _ rfl, hF 16 _ _ rfl, hF 17 _ _ rfl, hF 18 _ _ rfl, hF 19 _ _ rfl, hF 20 _ _ rfl, trivial⟩) ?_
 refine wO rfl ?_
 refine sAlloc h4 Tryz.zeroValue44 ?_
 intro g0 _ o0
 refine nilO ⟨⟨.inr (o0.cell 3 rfl rfl), .inr ((g2.up 2 rfl).cell o0 (k := 0) rfl), .inr (o0.cell 3 rfl rfl), .inr ((h0.up 4 rfl).cell o0 (k := 0) rfl), .inr ((h0.up 4 rfl).cell o0 (k := 1) rfl), .inr ((h0.up 4 rfl).cell o0 (k := 2) rfl), .inr ((h0.up 4 rfl).cell o0 (k := 3) rfl), .inr ((h0.up 4 rfl).cell o0 (k := 4) rfl), .inr ((h0.up 4 rfl).cell o0 (k := 5) rfl), .inr ((h0.up 4 rfl).cell o0 (k := 6) rfl), .inr ((h0.up 4 rfl).cell o0 (k := 7) rfl), .inr ((h0.up 4 rfl).cell o0 (k := 8) rfl), .inr ((h0.up 4 rfl).cell o0 (k := 9) rfl), .inr ((h0.up 4 rfl).cell o0 (k := 10) rfl), .inr ((h0.up 4 rfl).cell o0 (k := 11) rfl), .inr ((h0.up 4 rfl).cell o0 (k := 12) rfl), .inr ((h0.up 4 rfl).cell o0 (k := 13) rfl), .inr ((h0.up 4 rfl).cell o0 (k := 14) rfl), .inr ((h0.up 4 rfl).cell o0 (k := 15) rfl), .inr ((h0.up 4 rfl).cell o0 (k := 16) rfl), .inr ((h0.up 4 rfl).cell o0 (k := 17) rfl), trivial⟩, ?_⟩
 refine wO rfl ?_
 refine sT o0 0 0 (.agg (encStage a0).toArray) (encStage a0) (encStage a0).toArray Tryz.sizeOf44 ?_
 intro _ i4
 refine nilO ⟨dA, ?_⟩
 refine wN ?_
 refine thenK_n <| sR <| pu1 ?_
 refine sAlloc i4 Tryz.zeroValue35 ?_
 intro c1 _ j4
 refine sT j4 0 0 (.agg #[I 0, I 0, I 0]) [I 0, I 0, I 0] #[I 0, I 0, I 0] Tryz.sizeOf35 ?_
 intro _ i2
 refine nT <| seqE <| sR ?_
 refine lA i2 1 0 18 (Tryz.isAgg44 _) (Tryz.sizeOf44 _) ?_
 refine cR Tryz.call27 (r15_two a0 ⟨(RdT.flat ((hp.stagesD a0 (List.mem_of_getElem? f0)).weights.up 5 (by rfl))), (RdT.flat ((hp.stagesD a0 (List.mem_of_getElem? f0)).row.up 5 (by rfl))), (RdT.flat ((hp.stagesD a0 (List.mem_of_getElem? f0)).col.up 5 (by rfl))), (RdT.flat ((hp.stagesD a0 (List.mem_of_getElem? f0)).x.up 5 (by rfl))), (fun z hz => ((hp.stagesD a0 (List.mem_of_getElem? f0)).xD z hz).of_mem (mem_flat1 5 (by rfl))), (RdT.flat ((hp.stagesD a0 (List.mem_of_getElem? f0)).y.up 5 (by rfl))), (fun z hz => ((hp.stagesD a0 (List.mem_of_getElem? f0)).yD z hz).of_mem (mem_flat1 5 (by rfl))), (RdT.flat ((hp.stagesD a0 (List.mem_of_getElem? f0)).ops.up 5 (by rfl)))⟩ (Sat.flat i2)) ?_
 intro _ i0
 refine nT ?_
 refine cD (a0.kind = 6 ∧ ¬ a0.b = -1) (fun k4 => ?_) (fun k4 => ?_)
 ·refine regionE <| pu2 ?_
  refine sL i0 1 2 (I a0.b) (Tryz.isAgg3 _) ?_
  refine sIdxO hOys a0.b (a0.b).toNat Tryz.runUnderlying30 Tryz.sizeOf35 ?_
  intro c0 _ _ i1 l4 _
  refine sLpA i0 (l4.up 2 rfl) 0 [I c0.w, I c0.h, I c0.max_] (Tryz.isAgg35 _) (Tryz.sizeOf35 _) ?_
  refine sT i0 0 0 (.agg #[I c0.w, I c0.h, I c0.max_]) [I c0.w, I c0.h, I c0.max_] #[I c0.w, I c0.h, I c0.max_] Tryz.sizeOf35 ?_
  intro _ j0
  refine nT <| seqE ?_
  obtain ⟨d0, j1, k1, l1, d1, m4, s8⟩ := OwnT.elem hOys a0.a
  refine drawP [7, 11, 12] [(0, ⟨g0, 0, none⟩, I a0.kind), (0, ⟨g0, 1, none⟩, I a0.a), (0, ⟨g0, 2, none⟩, I a0.b), (0, ⟨g0, 3, none⟩, .bool a0.barrier), (0, ⟨g0, 4, none⟩, I a0.edgePolicy), (0, ⟨g0, 5, none⟩, I a0.edgeFill), (0, ⟨g0, 6, none⟩, I a0.kW), (0, ⟨g0, 7, none⟩, I a0.kH), (0, ⟨g0, 8, none⟩, .slice a0.weights.a a0.weights.n a0.weights.k), (0, ⟨g0, 9, none⟩, .slice a0.row.a a0.row.n a0.row.k), (0, ⟨g0, 10, none⟩, .slice a0.col.a a0.col.n a0.col.k), (0, ⟨g0, 11, none⟩, I a0.shift), (0, ⟨g0, 12, none⟩, I a0.shift2), (0, ⟨g0, 13, none⟩, .slice a0.x.a a0.x.n a0.x.k), (0, ⟨g0, 14, none⟩, .slice a0.y.a a0.y.n a0.y.k), (0, ⟨g0, 15, none⟩, I a0.bins), (0, ⟨g0, 16, none⟩, .slice a0.ops.a a0.ops.n a0.ops.k), (0, ⟨g0, 17, none⟩, I a0.max_), (3, ⟨g0, 1, none⟩, I a0.a), (5, ⟨j1, k1 + (a0.a).toNat * 3 + 0, none⟩, I d0.w), (5, ⟨j1, k1 + (a0.a).toNat * 3 + 1, none⟩, I d0.h), (5, ⟨j1, k1 + (a0.a).toNat * 3 + 2, none⟩, I d0.max_), (6, ⟨c1, 0, none⟩, I c0.w), (6, ⟨c1, 1, none⟩, I c0.h), (6, ⟨c1, 2, none⟩, I c0.max_)] (Plan.sts [1, 2] <| Plan.sts [0] <| Plan.sts [3] <| Plan.sts [4] <| Plan.sts [5] <| Plan.sts [6] <| .fk 7 11 (Plan.sts [8] <| Plan.sts [9] <| Plan.sts [10] <| .ef 11 <| .ef 12 <| Plan.sts [13] <| .fin) (.ef 7 <| Plan.sts [8] <| Plan.sts [9] <| Plan.sts [10] <| .ef 12 <| Plan.sts [13] <| .fin)) rfl kr ⟨.inr (j0.cell 1 rfl rfl), .inr (j0.cell 1 rfl rfl), .inr (j0.cell 1 rfl rfl), .inr (j0.cell 1 rfl rfl), .inr (j0.cell 1 rfl rfl), .inr (j0.cell 1 rfl rfl), .inr (j0.cell 1 rfl rfl), .inr (j0.cell 1 rfl rfl), .inr (j0.cell 1 rfl rfl), .inr (j0.cell 1 rfl rfl), .inr (j0.cell 1 rfl rfl), .inr (j0.cell 1 rfl rfl), .inr (j0.cell 1 rfl rfl), .inr (j0.cell 1 rfl rfl), .inr (j0.cell 1 rfl rfl), .inr (j0.cell 1 rfl rfl), .inr (j0.cell 1 rfl rfl), .inr (j0.cell 1 rfl rfl), .inr (j0.cell 1 rfl rfl), .inr ((d1.up 2 rfl).cell j0 (k := 0) rfl), .inr ((d1.up 2 rfl).cell j0 (k := 1) rfl), .inr ((d1.up 2 rfl).cell j0 (k := 2) rfl), .inr (j0.cell 0 rfl rfl), .inr (j0.cell 0 rfl rfl), .inr (j0.cell 0 rfl rfl), trivial⟩ ?_
  have j2 := j0.drew
  refine qU [1, 2] ?_
  refine qY (.agg (encStage a0).toArray) rfl (fun w hF => Y_loadF rfl (Tryz.isAgg44 w) (Tryz.sizeOf44 w) kr rfl ⟨hF 0 _ _ rfl, hF 1 _ _ rfl, hF 2 _ _ rfl, hF 3 _ _ rfl, hF 4 _ _ rfl, hF 5 _ _ rfl, hF 6 _ _ rfl, hF 7 _ _ rfl, hF 8 _ _ rfl, hF 9 _ _ rfl, hF 10 _ _ rfl, hF 11 _ _ rfl, hF 12 _ _ rfl, hF 13 _ _ rfl, hF 14 _ _ rfl, hF 15 _ _ rfl, hF 16 _ _ rfl, hF 17 _ _ rfl, trivial⟩) ?_
  refine qLd (I a0.a) 18 Tryz.isAgg3 ?_
  refine qY (.pointer (some ⟨j1, k1 + (a0.a).toNat * 3, none⟩)) rfl (fun w _ => Y_idx (a := ays) (i := a0.a) (len := nys) (cap := kys) rfl Tryz.runUnderlying30 Tryz.sizeOf35 kr kr m4) ?_
  refine qY (.agg #[I d0.w, I d0.h, I d0.max_]) rfl (fun w hF => Y_loadF rfl (Tryz.isAgg35 w) (Tryz.sizeOf35 w) kr rfl ⟨hF 19 _ _ rfl, hF 20 _ _ rfl, hF 21 _ _ rfl, trivial⟩) ?_
  refine qY (.agg #[I c0.w, I c0.h, I c0.max_]) rfl (fun w hF => Y_loadF rfl (Tryz.isAgg35 w) (Tryz.sizeOf35 w) kr rfl ⟨hF 22 _ _ rfl, hF 23 _ _ rfl, hF 24 _ _ rfl, trivial⟩) ?_
  refine qF ?_ ?_
  ·refine qO rfl ?_
   refine cR Tryz.call65 (r15_of a0 d0 c0 ⟨(RdT.flat ((hp.stagesD a0 (List.mem_of_getElem? f0)).weights.up 5 (by rfl))), (RdT.flat ((hp.stagesD a0 (List.mem_of_getElem? f0)).row.up 5 (by rfl))), (RdT.flat ((hp.stagesD a0 (List.mem_of_getElem? f0)).col.up 5 (by rfl))), (RdT.flat ((hp.stagesD a0 (List.mem_of_getElem? f0)).x.up 5 (by rfl))), (fun z hz => ((hp.stagesD a0 (List.mem_of_getElem? f0)).xD z hz).of_mem (mem_flat1 5 (by rfl))), (RdT.flat ((hp.stagesD a0 (List.mem_of_getElem? f0)).y.up 5 (by rfl))), (fun z hz => ((hp.stagesD a0 (List.mem_of_getElem? f0)).yD z hz).of_mem (mem_flat1 5 (by rfl))), (RdT.flat ((hp.stagesD a0 (List.mem_of_getElem? f0)).ops.up 5 (by rfl)))⟩ (Sat.flat j2)) ?_
   intro _ k2
   refine nilO ⟨⟨dI, dI, dI, dI, dI, dI, dI, dI, dI, dI, dI, dI, dI, dI, dI, dI, dI, dI, .inr (k2.cell 1 rfl rfl), dI, dI, dI, dI, dI, dI, trivial⟩, ?_⟩
   refine qU [8] <| qU [9] <| qU [10] ?_
   refine qO rfl ?_
   refine sAlloc k2 Tryz.zeroValue35 ?_
   intro q1 _ l2
   refine nilO ⟨⟨dI, dI, dI, dI, dI, dI, dI, dI, dI, dI, dI, dI, dI, dI, dI, dI, dI, dI, .inr (l2.cell 2 rfl rfl), dI, dI, dI, dI, dI, dI, trivial⟩, ?_⟩
   refine qO rfl ?_
   refine sT l2 0 0 (.agg #[I ((ofV a0.v d0 c0).1.w), I ((ofV a0.v d0 c0).1.h), I ((ofV a0.v d0 c0).1.max_)]) [I ((ofV a0.v d0 c0).1.w), I ((ofV a0.v d0 c0).1.h), I ((ofV a0.v d0 c0).1.max_)] #[I ((ofV a0.v d0 c0).1.w), I ((ofV a0.v d0 c0).1.h), I ((ofV a0.v d0 c0).1.max_)] Tryz.sizeOf35 ?_
   intro _ x0
   refine nilO ⟨dA, ?_⟩
   refine qU [13] ?_
   refine qN ?_
   refine thenK_n <| seqE <| sR <| pu2 <| nT ?_
   refine cN ((ofV a0.v d0 c0).2) 0 (fun n4 => ?_) (fun n4 => ?_)
   rotate_left
   ·refine seqE ?_
    obtain ⟨o4, m2, n2, r1, p4, q4⟩ := RdT.elem v0 ((i : Nat) : Int)
    rw [Int.toNat_natCast] at r1
    obtain rfl : b0 = o4 := Option.some.inj (r0.symm.trans r1)
    have hox_x_53 : ((p.inputs.n : Nat) : Int) ≤ b0 ∧ b0 < ((p.inputs.n : Nat) : Int) + ((p.stages.n : Nat) : Int) := by have h := hordr b0 (List.mem_of_getElem? r1); simp only [Job.v] at h; omega
    refine drawE [] [(3, ⟨m2, n2, none⟩, I b0)] [(true, [0, 1]), (true, [2]), (true, [4, 5]), (true, [3]), (true, [6, 7])] rfl kr ⟨.inr ((p4.up 4 rfl).cell x0 (k := 0) rfl), trivial⟩ ?_
    have r4 := x0.drew
    refine wU [0, 1] ?_
    refine wY (.pointer (some ⟨m2, n2, none⟩)) rfl (fun w _ => Y_idx (a := t0) (i := ((i : Nat) : Int)) (len := s0) (cap := u0) rfl Tryz.runUnderlying22 Tryz.sizeOf3 kr kr q4) ?_
    refine wU [4, 5] ?_
    refine wLd (I b0) 0 Tryz.isAgg3 ?_
    refine wU [6, 7] ?_
    refine wN ?_
    refine thenK_n <| retE <| tR <| thenK_r <| tR <| thenK_r <| retT [.slice none 0 0, I b0, I ((ofV a0.v d0 c0).2)] ?_
    have hk0 : shpV p.v = shpGo ((p.inputs.n : Nat) : Int) (p.stages.l.map Stage.v) ((ordV p.v).1) zs := by unfold shpV; rw [if_pos ‹_›, if_pos (by exact hall)]; rw [hzs, ← hms, ← hmi]; rfl
    have hstg : stgAt (p.stages.l.map Stage.v) ((p.inputs.n : Nat) : Int) b0 = a0.v := by unfold stgAt; rw [map_at (f := Stage.v) f0]; rfl
    have hsa3 : shpAt ys a0.v.a = d0 := by unfold shpAt; rw [show ys[a0.v.a.toNat]? = some d0 from l1]; rfl
    have hsb3 : (if twoP a0.v then shpAt ys a0.v.b else ⟨0, 0, 0⟩) = c0 := by rw [if_pos (by unfold twoP; simp only [Stage.v]; assumption)]; unfold shpAt; rw [show ys[a0.v.b.toNat]? = some c0 from i1]; rfl
    have hst : shpStep ((p.inputs.n : Nat) : Int) (p.stages.l.map Stage.v) b0 ys = ofV a0.v d0 c0 := by unfold shpStep; rw [hstg, hsa3, hsb3]
    have hk : shpV p.v = ([], b0, (ofV a0.v d0 c0).2) := by rw [hk0, hS2, drop_at r0, shpGo, hst, if_neg ‹_›]
    have s4 := (r4.drops [0, 0, 0, 0, 0, 0])
    have t4 : Sat W _ ([] :: H :: F) := Sat.nilc s4
    have hl : ([] : List Shape) = (shpV p.v).1 := (by rw [hk])
    have hrd := RdT.nil (enc := encShape) (sz := 3) fR [[]]
    rw [hl] at hrd
    exact ⟨_, _, _, _, (by rw [hk]; rfl), hrd, t4⟩
   refine kT ?_
   obtain ⟨u4, o2, p2, s1, v4, w4⟩ := RdT.elem v0 ((i : Nat) : Int)
   rw [Int.toNat_natCast] at s1
   obtain rfl : b0 = u4 := Option.some.inj (r0.symm.trans s1)
   have hox_x_53 : ((p.inputs.n : Nat) : Int) ≤ b0 ∧ b0 < ((p.inputs.n : Nat) : Int) + ((p.stages.n : Nat) : Int) := by have h := hordr b0 (List.mem_of_getElem? s1); simp only [Job.v] at h; omega
   obtain ⟨x4, y4, z4, a5, w8, b5, c5⟩ := OwnT.elem hOys b0
   refine drawE [7] [(4, ⟨o2, p2, none⟩, I b0), (5, ⟨q1, 0, none⟩, I ((ofV a0.v d0 c0).1.w)), (5, ⟨q1, 1, none⟩, I ((ofV a0.v d0 c0).1.h)), (5, ⟨q1, 2, none⟩, I ((ofV a0.v d0 c0).1.max_))] [(true, [0, 1, 2]), (true, [3]), (true, [4]), (true, [5]), (true, [6]), (false, [7])] rfl kr ⟨.inr ((v4.up 4 rfl).cell x0 (k := 0) rfl), .inr (x0.cell 0 rfl rfl), .inr (x0.cell 0 rfl rfl), .inr (x0.cell 0 rfl rfl), trivial⟩ ?_
   have d5 := x0.drew
   refine wU [0, 1, 2] ?_
   refine wY (.pointer (some ⟨o2, p2, none⟩)) rfl (fun w _ => Y_idx (a := t0) (i := ((i : Nat) : Int)) (len := s0) (cap := u0) rfl Tryz.runUnderlying22 Tryz.sizeOf3 kr kr w4) ?_
   refine wLd (I b0) 0 Tryz.isAgg3 ?_
   refine wY (.agg #[I ((ofV a0.v d0 c0).1.w), I ((ofV a0.v d0 c0).1.h), I ((ofV a0.v d0 c0).1.max_)]) rfl (fun w hF => Y_loadF rfl (Tryz.isAgg35 w) (Tryz.sizeOf35 w) kr rfl ⟨hF 1 _ _ rfl, hF 2 _ _ rfl, hF 3 _ _ rfl, trivial⟩) ?_
   refine wY (.pointer (some ⟨y4, z4 + (b0).toNat * 3, none⟩)) rfl (fun w _ => Y_idx (a := ays) (i := b0) (len := nys) (cap := kys) rfl Tryz.runUnderlying30 Tryz.sizeOf35 kr kr b5) ?_
   refine wO rfl ?_
   refine sStF d5 hOys c5 3 (b0).toNat 0 x4 (⟨(ofV a0.v d0 c0).1.w, (ofV a0.v d0 c0).1.h, (ofV a0.v d0 c0).1.max_⟩ : Shape) a5 (.agg #[I ((ofV a0.v d0 c0).1.w), I ((ofV a0.v d0 c0).1.h), I ((ofV a0.v d0 c0).1.max_)]) [I ((ofV a0.v d0 c0).1.w), I ((ofV a0.v d0 c0).1.h), I ((ofV a0.v d0 c0).1.max_)] Tryz.sizeOf35 ?_
   intro _ e5 f5 g5
   refine nilO ⟨dA, ?_⟩
   refine wN ?_
   refine blockK_n <| thenK_n <| regionE <| pu1 ?_
   refine sAdd ((i : Nat) : Int) 1 ?_
   refine pu1 <| nT ?_
   have hstg : stgAt (p.stages.l.map Stage.v) ((p.inputs.n : Nat) : Int) b0 = a0.v := by unfold stgAt; rw [map_at (f := Stage.v) f0]; rfl
   have hsa3 : shpAt ys a0.v.a = d0 := by unfold shpAt; rw [show ys[a0.v.a.toNat]? = some d0 from l1]; rfl
   have hsb3 : (if twoP a0.v then shpAt ys a0.v.b else ⟨0, 0, 0⟩) = c0 := by rw [if_pos (by unfold twoP; simp only [Stage.v]; assumption)]; unfold shpAt; rw [show ys[a0.v.b.toNat]? = some c0 from i1]; rfl
   have hst : shpStep ((p.inputs.n : Nat) : Int) (p.stages.l.map Stage.v) b0 ys = ofV a0.v d0 c0 := by unfold shpStep; rw [hstg, hsa3, hsb3]
   have h5 := (g5.drops [0, 0, 0])
   exact ⟨(i + 1, (ys.set ((b0).toNat) (⟨(ofV a0.v d0 c0).1.w, (ofV a0.v d0 c0).1.h, (ofV a0.v d0 c0).1.max_⟩ : Shape)), ays, nys, kys, e5), od, alA, h5, om, by rw [hS2, drop_at r0, shpGo, hst, if_pos ‹_›], by simp; omega, f5⟩
  refine qO rfl ?_
  refine sAlloc j2 Tryz.zeroValue35 ?_
  intro t1 _ k0
  refine nilO ⟨⟨.inr (k0.cell 2 rfl rfl), .inr (k0.cell 2 rfl rfl), .inr (k0.cell 2 rfl rfl), .inr (k0.cell 2 rfl rfl), .inr (k0.cell 2 rfl rfl), .inr (k0.cell 2 rfl rfl), .inr (k0.cell 2 rfl rfl), .inr (k0.cell 2 rfl rfl), .inr (k0.cell 2 rfl rfl), .inr (k0.cell 2 rfl rfl), .inr (k0.cell 2 rfl rfl), .inr (k0.cell 2 rfl rfl), .inr (k0.cell 2 rfl rfl), .inr (k0.cell 2 rfl rfl), .inr (k0.cell 2 rfl rfl), .inr (k0.cell 2 rfl rfl), .inr (k0.cell 2 rfl rfl), .inr (k0.cell 2 rfl rfl), .inr (k0.cell 2 rfl rfl), .inr ((d1.up 3 rfl).cell k0 (k := 0) rfl), .inr ((d1.up 3 rfl).cell k0 (k := 1) rfl), .inr ((d1.up 3 rfl).cell k0 (k := 2) rfl), .inr (k0.cell 1 rfl rfl), .inr (k0.cell 1 rfl rfl), .inr (k0.cell 1 rfl rfl), trivial⟩, ?_⟩
  refine qO rfl ?_
  refine cR Tryz.call65 (r15_of a0 d0 c0 ⟨(RdT.flat ((hp.stagesD a0 (List.mem_of_getElem? f0)).weights.up 6 (by rfl))), (RdT.flat ((hp.stagesD a0 (List.mem_of_getElem? f0)).row.up 6 (by rfl))), (RdT.flat ((hp.stagesD a0 (List.mem_of_getElem? f0)).col.up 6 (by rfl))), (RdT.flat ((hp.stagesD a0 (List.mem_of_getElem? f0)).x.up 6 (by rfl))), (fun z hz => ((hp.stagesD a0 (List.mem_of_getElem? f0)).xD z hz).of_mem (mem_flat1 6 (by rfl))), (RdT.flat ((hp.stagesD a0 (List.mem_of_getElem? f0)).y.up 6 (by rfl))), (fun z hz => ((hp.stagesD a0 (List.mem_of_getElem? f0)).yD z hz).of_mem (mem_flat1 6 (by rfl))), (RdT.flat ((hp.stagesD a0 (List.mem_of_getElem? f0)).ops.up 6 (by rfl)))⟩ (Sat.flat k0)) ?_
  intro _ q2
  refine nilO ⟨⟨dI, dI, dI, dI, dI, dI, dI, dI, dI, dI, dI, dI, dI, dI, dI, dI, dI, dI, .inr (q2.cell 2 rfl rfl), dI, dI, dI, dI, dI, dI, trivial⟩, ?_⟩
  refine qU [8] <| qU [9] <| qU [10] ?_
  refine qO rfl ?_
  refine sT q2 0 0 (.agg #[I ((ofV a0.v d0 c0).1.w), I ((ofV a0.v d0 c0).1.h), I ((ofV a0.v d0 c0).1.max_)]) [I ((ofV a0.v d0 c0).1.w), I ((ofV a0.v d0 c0).1.h), I ((ofV a0.v d0 c0).1.max_)] #[I ((ofV a0.v d0 c0).1.w), I ((ofV a0.v d0 c0).1.h), I ((ofV a0.v d0 c0).1.max_)] Tryz.sizeOf35 ?_
  intro _ y0
  refine nilO ⟨dA, ?_⟩
  refine qU [13] ?_
  refine qN ?_
  refine thenK_n <| seqE <| sR <| pu2 <| nT ?_
  refine cN ((ofV a0.v d0 c0).2) 0 (fun i5 => ?_) (fun i5 => ?_)
  rotate_left
  ·refine seqE ?_
   obtain ⟨j5, r2, s2, u1, k5, l5⟩ := RdT.elem v0 ((i : Nat) : Int)
   rw [Int.toNat_natCast] at u1
   obtain rfl : b0 = j5 := Option.some.inj (r0.symm.trans u1)
   have hox_x_53 : ((p.inputs.n : Nat) : Int) ≤ b0 ∧ b0 < ((p.inputs.n : Nat) : Int) + ((p.stages.n : Nat) : Int) := by have h := hordr b0 (List.mem_of_getElem? u1); simp only [Job.v] at h; omega
   refine drawE [] [(3, ⟨r2, s2, none⟩, I b0)] [(true, [0, 1]), (true, [2]), (true, [4, 5]), (true, [3]), (true, [6, 7])] rfl kr ⟨.inr ((k5.up 4 rfl).cell y0 (k := 0) rfl), trivial⟩ ?_
   have m5 := y0.drew
   refine wU [0, 1] ?_
   refine wY (.pointer (some ⟨r2, s2, none⟩)) rfl (fun w _ => Y_idx (a := t0) (i := ((i : Nat) : Int)) (len := s0) (cap := u0) rfl Tryz.runUnderlying22 Tryz.sizeOf3 kr kr l5) ?_
   refine wU [4, 5] ?_
   refine wLd (I b0) 0 Tryz.isAgg3 ?_
   refine wU [6, 7] ?_
   refine wN ?_
   refine thenK_n <| retE <| tR <| thenK_r <| tR <| thenK_r <| retT [.slice none 0 0, I b0, I ((ofV a0.v d0 c0).2)] ?_
   have hk0 : shpV p.v = shpGo ((p.inputs.n : Nat) : Int) (p.stages.l.map Stage.v) ((ordV p.v).1) zs := by unfold shpV; rw [if_pos ‹_›, if_pos (by exact hall)]; rw [hzs, ← hms, ← hmi]; rfl
   have hstg : stgAt (p.stages.l.map Stage.v) ((p.inputs.n : Nat) : Int) b0 = a0.v := by unfold stgAt; rw [map_at (f := Stage.v) f0]; rfl
   have hsa3 : shpAt ys a0.v.a = d0 := by unfold shpAt; rw [show ys[a0.v.a.toNat]? = some d0 from l1]; rfl
   have hsb3 : (if twoP a0.v then shpAt ys a0.v.b else ⟨0, 0, 0⟩) = c0 := by rw [if_pos (by unfold twoP; simp only [Stage.v]; assumption)]; unfold shpAt; rw [show ys[a0.v.b.toNat]? = some c0 from i1]; rfl
   have hst : shpStep ((p.inputs.n : Nat) : Int) (p.stages.l.map Stage.v) b0 ys = ofV a0.v d0 c0 := by unfold shpStep; rw [hstg, hsa3, hsb3]
   have hk : shpV p.v = ([], b0, (ofV a0.v d0 c0).2) := by rw [hk0, hS2, drop_at r0, shpGo, hst, if_neg ‹_›]
   have n5 := (m5.drops [0, 0, 0, 0, 0, 0])
   have o5 : Sat W _ ([] :: H :: F) := Sat.nilc n5
   have hl : ([] : List Shape) = (shpV p.v).1 := (by rw [hk])
   have hrd := RdT.nil (enc := encShape) (sz := 3) fR [[]]
   rw [hl] at hrd
   exact ⟨_, _, _, _, (by rw [hk]; rfl), hrd, o5⟩
  refine kT ?_
  obtain ⟨p5, t2, u2, v1, q5, r5⟩ := RdT.elem v0 ((i : Nat) : Int)
  rw [Int.toNat_natCast] at v1
  obtain rfl : b0 = p5 := Option.some.inj (r0.symm.trans v1)
  have hox_x_53 : ((p.inputs.n : Nat) : Int) ≤ b0 ∧ b0 < ((p.inputs.n : Nat) : Int) + ((p.stages.n : Nat) : Int) := by have h := hordr b0 (List.mem_of_getElem? v1); simp only [Job.v] at h; omega
  obtain ⟨s5, t5, u5, v5, b9, w5, x5⟩ := OwnT.elem hOys b0
  refine drawE [7] [(4, ⟨t2, u2, none⟩, I b0), (5, ⟨t1, 0, none⟩, I ((ofV a0.v d0 c0).1.w)), (5, ⟨t1, 1, none⟩, I ((ofV a0.v d0 c0).1.h)), (5, ⟨t1, 2, none⟩, I ((ofV a0.v d0 c0).1.max_))] [(true, [0, 1, 2]), (true, [3]), (true, [4]), (true, [5]), (true, [6]), (false, [7])] rfl kr ⟨.inr ((q5.up 4 rfl).cell y0 (k := 0) rfl), .inr (y0.cell 0 rfl rfl), .inr (y0.cell 0 rfl rfl), .inr (y0.cell 0 rfl rfl), trivial⟩ ?_
  have y5 := y0.drew
  refine wU [0, 1, 2] ?_
  refine wY (.pointer (some ⟨t2, u2, none⟩)) rfl (fun w _ => Y_idx (a := t0) (i := ((i : Nat) : Int)) (len := s0) (cap := u0) rfl Tryz.runUnderlying22 Tryz.sizeOf3 kr kr r5) ?_
  refine wLd (I b0) 0 Tryz.isAgg3 ?_
  refine wY (.agg #[I ((ofV a0.v d0 c0).1.w), I ((ofV a0.v d0 c0).1.h), I ((ofV a0.v d0 c0).1.max_)]) rfl (fun w hF => Y_loadF rfl (Tryz.isAgg35 w) (Tryz.sizeOf35 w) kr rfl ⟨hF 1 _ _ rfl, hF 2 _ _ rfl, hF 3 _ _ rfl, trivial⟩) ?_
  refine wY (.pointer (some ⟨t5, u5 + (b0).toNat * 3, none⟩)) rfl (fun w _ => Y_idx (a := ays) (i := b0) (len := nys) (cap := kys) rfl Tryz.runUnderlying30 Tryz.sizeOf35 kr kr w5) ?_
  refine wO rfl ?_
  refine sStF y5 hOys x5 3 (b0).toNat 0 s5 (⟨(ofV a0.v d0 c0).1.w, (ofV a0.v d0 c0).1.h, (ofV a0.v d0 c0).1.max_⟩ : Shape) v5 (.agg #[I ((ofV a0.v d0 c0).1.w), I ((ofV a0.v d0 c0).1.h), I ((ofV a0.v d0 c0).1.max_)]) [I ((ofV a0.v d0 c0).1.w), I ((ofV a0.v d0 c0).1.h), I ((ofV a0.v d0 c0).1.max_)] Tryz.sizeOf35 ?_
  intro _ z5 a6 b6
  refine nilO ⟨dA, ?_⟩
  refine wN ?_
  refine blockK_n <| thenK_n <| regionE <| pu1 ?_
  refine sAdd ((i : Nat) : Int) 1 ?_
  refine pu1 <| nT ?_
  have hstg : stgAt (p.stages.l.map Stage.v) ((p.inputs.n : Nat) : Int) b0 = a0.v := by unfold stgAt; rw [map_at (f := Stage.v) f0]; rfl
  have hsa3 : shpAt ys a0.v.a = d0 := by unfold shpAt; rw [show ys[a0.v.a.toNat]? = some d0 from l1]; rfl
  have hsb3 : (if twoP a0.v then shpAt ys a0.v.b else ⟨0, 0, 0⟩) = c0 := by rw [if_pos (by unfold twoP; simp only [Stage.v]; assumption)]; unfold shpAt; rw [show ys[a0.v.b.toNat]? = some c0 from i1]; rfl
  have hst : shpStep ((p.inputs.n : Nat) : Int) (p.stages.l.map Stage.v) b0 ys = ofV a0.v d0 c0 := by unfold shpStep; rw [hstg, hsa3, hsb3]
  have c6 := (b6.drops [0, 0, 0])
  exact ⟨(i + 1, (ys.set ((b0).toNat) (⟨(ofV a0.v d0 c0).1.w, (ofV a0.v d0 c0).1.h, (ofV a0.v d0 c0).1.max_⟩ : Shape)), ays, nys, kys, z5), od, alA, c6, om, by rw [hS2, drop_at r0, shpGo, hst, if_pos ‹_›], by simp; omega, a6⟩
 refine kT <| seqE ?_
 obtain ⟨e0, m1, n1, o1, e1, d6, d9⟩ := OwnT.elem hOys a0.a
 refine drawP [7, 11, 12] [(0, ⟨g0, 0, none⟩, I a0.kind), (0, ⟨g0, 1, none⟩, I a0.a), (0, ⟨g0, 2, none⟩, I a0.b), (0, ⟨g0, 3, none⟩, .bool a0.barrier), (0, ⟨g0, 4, none⟩, I a0.edgePolicy), (0, ⟨g0, 5, none⟩, I a0.edgeFill), (0, ⟨g0, 6, none⟩, I a0.kW), (0, ⟨g0, 7, none⟩, I a0.kH), (0, ⟨g0, 8, none⟩, .slice a0.weights.a a0.weights.n a0.weights.k), (0, ⟨g0, 9, none⟩, .slice a0.row.a a0.row.n a0.row.k), (0, ⟨g0, 10, none⟩, .slice a0.col.a a0.col.n a0.col.k), (0, ⟨g0, 11, none⟩, I a0.shift), (0, ⟨g0, 12, none⟩, I a0.shift2), (0, ⟨g0, 13, none⟩, .slice a0.x.a a0.x.n a0.x.k), (0, ⟨g0, 14, none⟩, .slice a0.y.a a0.y.n a0.y.k), (0, ⟨g0, 15, none⟩, I a0.bins), (0, ⟨g0, 16, none⟩, .slice a0.ops.a a0.ops.n a0.ops.k), (0, ⟨g0, 17, none⟩, I a0.max_), (3, ⟨g0, 1, none⟩, I a0.a), (5, ⟨m1, n1 + (a0.a).toNat * 3 + 0, none⟩, I e0.w), (5, ⟨m1, n1 + (a0.a).toNat * 3 + 1, none⟩, I e0.h), (5, ⟨m1, n1 + (a0.a).toNat * 3 + 2, none⟩, I e0.max_), (6, ⟨c1, 0, none⟩, I 0), (6, ⟨c1, 1, none⟩, I 0), (6, ⟨c1, 2, none⟩, I 0)] (Plan.sts [1, 2] <| Plan.sts [0] <| Plan.sts [3] <| Plan.sts [4] <| Plan.sts [5] <| Plan.sts [6] <| .fk 7 11 (Plan.sts [8] <| Plan.sts [9] <| Plan.sts [10] <| .ef 11 <| .ef 12 <| Plan.sts [13] <| .fin) (.ef 7 <| Plan.sts [8] <| Plan.sts [9] <| Plan.sts [10] <| .ef 12 <| Plan.sts [13] <| .fin)) rfl kr ⟨.inr (i0.cell 1 rfl rfl), .inr (i0.cell 1 rfl rfl), .inr (i0.cell 1 rfl rfl), .inr (i0.cell 1 rfl rfl), .inr (i0.cell 1 rfl rfl), .inr (i0.cell 1 rfl rfl), .inr (i0.cell 1 rfl rfl), .inr (i0.cell 1 rfl rfl), .inr (i0.cell 1 rfl rfl), .inr (i0.cell 1 rfl rfl), .inr (i0.cell 1 rfl rfl), .inr (i0.cell 1 rfl rfl), .inr (i0.cell 1 rfl rfl), .inr (i0.cell 1 rfl rfl), .inr (i0.cell 1 rfl rfl), .inr (i0.cell 1 rfl rfl), .inr (i0.cell 1 rfl rfl), .inr (i0.cell 1 rfl rfl), .inr (i0.cell 1 rfl rfl), .inr ((e1.up 2 rfl).cell i0 (k := 0) rfl), .inr ((e1.up 2 rfl).cell i0 (k := 1) rfl), .inr ((e1.up 2 rfl).cell i0 (k := 2) rfl), .inr (i0.cell 0 rfl rfl), .inr (i0.cell 0 rfl rfl), .inr (i0.cell 0 rfl rfl), trivial⟩ ?_
 have v2 := i0.drew
 refine qU [1, 2] ?_
 refine qY (.agg (encStage a0).toArray) rfl (fun w hF => Y_loadF rfl (Tryz.isAgg44 w) (Tryz.sizeOf44 w) kr rfl ⟨hF 0 _ _ rfl, hF 1 _ _ rfl, hF 2 _ _ rfl, hF 3 _ _ rfl, hF 4 _ _ rfl, hF 5 _ _ rfl, hF 6 _ _ rfl, hF 7 _ _ rfl, hF 8 _ _ rfl, hF 9 _ _ rfl, hF 10 _ _ rfl, hF 11 _ _ rfl, hF 12 _ _ rfl, hF 13 _ _ rfl, hF 14 _ _ rfl, hF 15 _ _ rfl, hF 16 _ _ rfl, hF 17 _ _ rfl, trivial⟩) ?_
 refine qLd (I a0.a) 18 Tryz.isAgg3 ?_
 refine qY (.pointer (some ⟨m1, n1 + (a0.a).toNat * 3, none⟩)) rfl (fun w _ => Y_idx (a := ays) (i := a0.a) (len := nys) (cap := kys) rfl Tryz.runUnderlying30 Tryz.sizeOf35 kr kr d6) ?_
 refine qY (.agg #[I e0.w, I e0.h, I e0.max_]) rfl (fun w hF => Y_loadF rfl (Tryz.isAgg35 w) (Tryz.sizeOf35 w) kr rfl ⟨hF 19 _ _ rfl, hF 20 _ _ rfl, hF 21 _ _ rfl, trivial⟩) ?_
 refine qY (.agg #[I 0, I 0, I 0]) rfl (fun w hF => Y_loadF rfl (Tryz.isAgg35 w) (Tryz.sizeOf35 w) kr rfl ⟨hF 22 _ _ rfl, hF 23 _ _ rfl, hF 24 _ _ rfl, trivial⟩) ?_
 refine qF ?_ ?_
 ·refine qO rfl ?_
  refine cR Tryz.call65 (r15_of a0 e0 (⟨0, 0, 0⟩ : Shape) ⟨(RdT.flat ((hp.stagesD a0 (List.mem_of_getElem? f0)).weights.up 5 (by rfl))), (RdT.flat ((hp.stagesD a0 (List.mem_of_getElem? f0)).row.up 5 (by rfl))), (RdT.flat ((hp.stagesD a0 (List.mem_of_getElem? f0)).col.up 5 (by rfl))), (RdT.flat ((hp.stagesD a0 (List.mem_of_getElem? f0)).x.up 5 (by rfl))), (fun z hz => ((hp.stagesD a0 (List.mem_of_getElem? f0)).xD z hz).of_mem (mem_flat1 5 (by rfl))), (RdT.flat ((hp.stagesD a0 (List.mem_of_getElem? f0)).y.up 5 (by rfl))), (fun z hz => ((hp.stagesD a0 (List.mem_of_getElem? f0)).yD z hz).of_mem (mem_flat1 5 (by rfl))), (RdT.flat ((hp.stagesD a0 (List.mem_of_getElem? f0)).ops.up 5 (by rfl)))⟩ (Sat.flat v2)) ?_
  intro _ w2
  refine nilO ⟨⟨dI, dI, dI, dI, dI, dI, dI, dI, dI, dI, dI, dI, dI, dI, dI, dI, dI, dI, .inr (w2.cell 1 rfl rfl), dI, dI, dI, dI, dI, dI, trivial⟩, ?_⟩
  refine qU [8] <| qU [9] <| qU [10] ?_
  refine qO rfl ?_
  refine sAlloc w2 Tryz.zeroValue35 ?_
  intro w1 _ x2
  refine nilO ⟨⟨dI, dI, dI, dI, dI, dI, dI, dI, dI, dI, dI, dI, dI, dI, dI, dI, dI, dI, .inr (x2.cell 2 rfl rfl), dI, dI, dI, dI, dI, dI, trivial⟩, ?_⟩
  refine qO rfl ?_
  refine sT x2 0 0 (.agg #[I ((ofV a0.v e0 (⟨0, 0, 0⟩ : Shape)).1.w), I ((ofV a0.v e0 (⟨0, 0, 0⟩ : Shape)).1.h), I ((ofV a0.v e0 (⟨0, 0, 0⟩ : Shape)).1.max_)]) [I ((ofV a0.v e0 (⟨0, 0, 0⟩ : Shape)).1.w), I ((ofV a0.v e0 (⟨0, 0, 0⟩ : Shape)).1.h), I ((ofV a0.v e0 (⟨0, 0, 0⟩ : Shape)).1.max_)] #[I ((ofV a0.v e0 (⟨0, 0, 0⟩ : Shape)).1.w), I ((ofV a0.v e0 (⟨0, 0, 0⟩ : Shape)).1.h), I ((ofV a0.v e0 (⟨0, 0, 0⟩ : Shape)).1.max_)] Tryz.sizeOf35 ?_
  intro _ z0
  refine nilO ⟨dA, ?_⟩
  refine qU [13] ?_
  refine qN ?_
  refine thenK_n <| seqE <| sR <| pu2 <| nT ?_
  refine cN ((ofV a0.v e0 (⟨0, 0, 0⟩ : Shape)).2) 0 (fun e6 => ?_) (fun e6 => ?_)
  rotate_left
  ·refine seqE ?_
   obtain ⟨f6, y2, z2, x1, g6, h6⟩ := RdT.elem v0 ((i : Nat) : Int)
   rw [Int.toNat_natCast] at x1
   obtain rfl : b0 = f6 := Option.some.inj (r0.symm.trans x1)
   have hox_x_53 : ((p.inputs.n : Nat) : Int) ≤ b0 ∧ b0 < ((p.inputs.n : Nat) : Int) + ((p.stages.n : Nat) : Int) := by have h := hordr b0 (List.mem_of_getElem? x1); simp only [Job.v] at h; omega
   refine drawE [] [(3, ⟨y2, z2, none⟩, I b0)] [(true, [0, 1]), (true, [2]), (true, [4, 5]), (true, [3]), (true, [6, 7])] rfl kr ⟨.inr ((g6.up 4 rfl).cell z0 (k := 0) rfl), trivial⟩ ?_
   have i6 := z0.drew
   refine wU [0, 1] ?_
   refine wY (.pointer (some ⟨y2, z2, none⟩)) rfl (fun w _ => Y_idx (a := t0) (i := ((i : Nat) : Int)) (len := s0) (cap := u0) rfl Tryz.runUnderlying22 Tryz.sizeOf3 kr kr h6) ?_
   refine wU [4, 5] ?_
   refine wLd (I b0) 0 Tryz.isAgg3 ?_
   refine wU [6, 7] ?_
   refine wN ?_
   refine thenK_n <| retE <| tR <| thenK_r <| tR <| thenK_r <| retT [.slice none 0 0, I b0, I ((ofV a0.v e0 (⟨0, 0, 0⟩ : Shape)).2)] ?_
   have hk0 : shpV p.v = shpGo ((p.inputs.n : Nat) : Int) (p.stages.l.map Stage.v) ((ordV p.v).1) zs := by unfold shpV; rw [if_pos ‹_›, if_pos (by exact hall)]; rw [hzs, ← hms, ← hmi]; rfl
   have hstg : stgAt (p.stages.l.map Stage.v) ((p.inputs.n : Nat) : Int) b0 = a0.v := by unfold stgAt; rw [map_at (f := Stage.v) f0]; rfl
   have hsa3 : shpAt ys a0.v.a = e0 := by unfold shpAt; rw [show ys[a0.v.a.toNat]? = some e0 from o1]; rfl
   have hsb3 : (if twoP a0.v then shpAt ys a0.v.b else ⟨0, 0, 0⟩) = (⟨0, 0, 0⟩ : Shape) := by rw [if_neg (by unfold twoP; simp only [Stage.v]; assumption)]
   have hst : shpStep ((p.inputs.n : Nat) : Int) (p.stages.l.map Stage.v) b0 ys = ofV a0.v e0 (⟨0, 0, 0⟩ : Shape) := by unfold shpStep; rw [hstg, hsa3, hsb3]
   have hk : shpV p.v = ([], b0, (ofV a0.v e0 (⟨0, 0, 0⟩ : Shape)).2) := by rw [hk0, hS2, drop_at r0, shpGo, hst, if_neg ‹_›]
   have j6 := (i6.drops [0, 0, 0, 0, 0, 0])
   have k6 : Sat W _ ([] :: H :: F) := Sat.nilc j6
   have hl : ([] : List Shape) = (shpV p.v).1 := (by rw [hk])
   have hrd := RdT.nil (enc := encShape) (sz := 3) fR [[]]
   rw [hl] at hrd
   exact ⟨_, _, _, _, (by rw [hk]; rfl), hrd, k6⟩
  refine kT ?_
  obtain ⟨l6, a3, b3, y1, m6, n6⟩ := RdT.elem v0 ((i : Nat) : Int)
  rw [Int.toNat_natCast] at y1
  obtain rfl : b0 = l6 := Option.some.inj (r0.symm.trans y1)
  have hox_x_53 : ((p.inputs.n : Nat) : Int) ≤ b0 ∧ b0 < ((p.inputs.n : Nat) : Int) + ((p.stages.n : Nat) : Int) := by have h := hordr b0 (List.mem_of_getElem? y1); simp only [Job.v] at h; omega
  obtain ⟨o6, p6, q6, r6, h9, s6, t6⟩ := OwnT.elem hOys b0
  refine drawE [7] [(4, ⟨a3, b3, none⟩, I b0), (5, ⟨w1, 0, none⟩, I ((ofV a0.v e0 (⟨0, 0, 0⟩ : Shape)).1.w)), (5, ⟨w1, 1, none⟩, I ((ofV a0.v e0 (⟨0, 0, 0⟩ : Shape)).1.h)), (5, ⟨w1, 2, none⟩, I ((ofV a0.v e0 (⟨0, 0, 0⟩ : Shape)).1.max_))] [(true, [0, 1, 2]), (true, [3]), (true, [4]), (true, [5]), (true, [6]), (false, [7])] rfl kr ⟨.inr ((m6.up 4 rfl).cell z0 (k := 0) rfl), .inr (z0.cell 0 rfl rfl), .inr (z0.cell 0 rfl rfl), .inr (z0.cell 0 rfl rfl), trivial⟩ ?_
  have u6 := z0.drew
  refine wU [0, 1, 2] ?_
  refine wY (.pointer (some ⟨a3, b3, none⟩)) rfl (fun w _ => Y_idx (a := t0) (i := ((i : Nat) : Int)) (len := s0) (cap := u0) rfl Tryz.runUnderlying22 Tryz.sizeOf3 kr kr n6) ?_
  refine wLd (I b0) 0 Tryz.isAgg3 ?_
  refine wY (.agg #[I ((ofV a0.v e0 (⟨0, 0, 0⟩ : Shape)).1.w), I ((ofV a0.v e0 (⟨0, 0, 0⟩ : Shape)).1.h), I ((ofV a0.v e0 (⟨0, 0, 0⟩ : Shape)).1.max_)]) rfl (fun w hF => Y_loadF rfl (Tryz.isAgg35 w) (Tryz.sizeOf35 w) kr rfl ⟨hF 1 _ _ rfl, hF 2 _ _ rfl, hF 3 _ _ rfl, trivial⟩) ?_
  refine wY (.pointer (some ⟨p6, q6 + (b0).toNat * 3, none⟩)) rfl (fun w _ => Y_idx (a := ays) (i := b0) (len := nys) (cap := kys) rfl Tryz.runUnderlying30 Tryz.sizeOf35 kr kr s6) ?_
  refine wO rfl ?_
  refine sStF u6 hOys t6 3 (b0).toNat 0 o6 (⟨(ofV a0.v e0 (⟨0, 0, 0⟩ : Shape)).1.w, (ofV a0.v e0 (⟨0, 0, 0⟩ : Shape)).1.h, (ofV a0.v e0 (⟨0, 0, 0⟩ : Shape)).1.max_⟩ : Shape) r6 (.agg #[I ((ofV a0.v e0 (⟨0, 0, 0⟩ : Shape)).1.w), I ((ofV a0.v e0 (⟨0, 0, 0⟩ : Shape)).1.h), I ((ofV a0.v e0 (⟨0, 0, 0⟩ : Shape)).1.max_)]) [I ((ofV a0.v e0 (⟨0, 0, 0⟩ : Shape)).1.w), I ((ofV a0.v e0 (⟨0, 0, 0⟩ : Shape)).1.h), I ((ofV a0.v e0 (⟨0, 0, 0⟩ : Shape)).1.max_)] Tryz.sizeOf35 ?_
  intro _ v6 w6 x6
  refine nilO ⟨dA, ?_⟩
  refine wN ?_
  refine blockK_n <| thenK_n <| regionE <| pu1 ?_
  refine sAdd ((i : Nat) : Int) 1 ?_
  refine pu1 <| nT ?_
  have hstg : stgAt (p.stages.l.map Stage.v) ((p.inputs.n : Nat) : Int) b0 = a0.v := by unfold stgAt; rw [map_at (f := Stage.v) f0]; rfl
  have hsa3 : shpAt ys a0.v.a = e0 := by unfold shpAt; rw [show ys[a0.v.a.toNat]? = some e0 from o1]; rfl
  have hsb3 : (if twoP a0.v then shpAt ys a0.v.b else ⟨0, 0, 0⟩) = (⟨0, 0, 0⟩ : Shape) := by rw [if_neg (by unfold twoP; simp only [Stage.v]; assumption)]
  have hst : shpStep ((p.inputs.n : Nat) : Int) (p.stages.l.map Stage.v) b0 ys = ofV a0.v e0 (⟨0, 0, 0⟩ : Shape) := by unfold shpStep; rw [hstg, hsa3, hsb3]
  have y6 := (x6.drops [0, 0, 0])
  exact ⟨(i + 1, (ys.set ((b0).toNat) (⟨(ofV a0.v e0 (⟨0, 0, 0⟩ : Shape)).1.w, (ofV a0.v e0 (⟨0, 0, 0⟩ : Shape)).1.h, (ofV a0.v e0 (⟨0, 0, 0⟩ : Shape)).1.max_⟩ : Shape)), ays, nys, kys, v6), od, alA, y6, om, by rw [hS2, drop_at r0, shpGo, hst, if_pos ‹_›], by simp; omega, w6⟩
 refine qO rfl ?_
 refine sAlloc v2 Tryz.zeroValue35 ?_
 intro z1 _ l0
 refine nilO ⟨⟨.inr (l0.cell 2 rfl rfl), .inr (l0.cell 2 rfl rfl), .inr (l0.cell 2 rfl rfl), .inr (l0.cell 2 rfl rfl), .inr (l0.cell 2 rfl rfl), .inr (l0.cell 2 rfl rfl), .inr (l0.cell 2 rfl rfl), .inr (l0.cell 2 rfl rfl), .inr (l0.cell 2 rfl rfl), .inr (l0.cell 2 rfl rfl), .inr (l0.cell 2 rfl rfl), .inr (l0.cell 2 rfl rfl), .inr (l0.cell 2 rfl rfl), .inr (l0.cell 2 rfl rfl), .inr (l0.cell 2 rfl rfl), .inr (l0.cell 2 rfl rfl), .inr (l0.cell 2 rfl rfl), .inr (l0.cell 2 rfl rfl), .inr (l0.cell 2 rfl rfl), .inr ((e1.up 3 rfl).cell l0 (k := 0) rfl), .inr ((e1.up 3 rfl).cell l0 (k := 1) rfl), .inr ((e1.up 3 rfl).cell l0 (k := 2) rfl), .inr (l0.cell 1 rfl rfl), .inr (l0.cell 1 rfl rfl), .inr (l0.cell 1 rfl rfl), trivial⟩, ?_⟩
 refine qO rfl ?_
 refine cR Tryz.call65 (r15_of a0 e0 (⟨0, 0, 0⟩ : Shape) ⟨(RdT.flat ((hp.stagesD a0 (List.mem_of_getElem? f0)).weights.up 6 (by rfl))), (RdT.flat ((hp.stagesD a0 (List.mem_of_getElem? f0)).row.up 6 (by rfl))), (RdT.flat ((hp.stagesD a0 (List.mem_of_getElem? f0)).col.up 6 (by rfl))), (RdT.flat ((hp.stagesD a0 (List.mem_of_getElem? f0)).x.up 6 (by rfl))), (fun z hz => ((hp.stagesD a0 (List.mem_of_getElem? f0)).xD z hz).of_mem (mem_flat1 6 (by rfl))), (RdT.flat ((hp.stagesD a0 (List.mem_of_getElem? f0)).y.up 6 (by rfl))), (fun z hz => ((hp.stagesD a0 (List.mem_of_getElem? f0)).yD z hz).of_mem (mem_flat1 6 (by rfl))), (RdT.flat ((hp.stagesD a0 (List.mem_of_getElem? f0)).ops.up 6 (by rfl)))⟩ (Sat.flat l0)) ?_
 intro _ c3
 refine nilO ⟨⟨dI, dI, dI, dI, dI, dI, dI, dI, dI, dI, dI, dI, dI, dI, dI, dI, dI, dI, .inr (c3.cell 2 rfl rfl), dI, dI, dI, dI, dI, dI, trivial⟩, ?_⟩
 refine qU [8] <| qU [9] <| qU [10] ?_
 refine qO rfl ?_
 refine sT c3 0 0 (.agg #[I ((ofV a0.v e0 (⟨0, 0, 0⟩ : Shape)).1.w), I ((ofV a0.v e0 (⟨0, 0, 0⟩ : Shape)).1.h), I ((ofV a0.v e0 (⟨0, 0, 0⟩ : Shape)).1.max_)]) [I ((ofV a0.v e0 (⟨0, 0, 0⟩ : Shape)).1.w), I ((ofV a0.v e0 (⟨0, 0, 0⟩ : Shape)).1.h), I ((ofV a0.v e0 (⟨0, 0, 0⟩ : Shape)).1.max_)] #[I ((ofV a0.v e0 (⟨0, 0, 0⟩ : Shape)).1.w), I ((ofV a0.v e0 (⟨0, 0, 0⟩ : Shape)).1.h), I ((ofV a0.v e0 (⟨0, 0, 0⟩ : Shape)).1.max_)] Tryz.sizeOf35 ?_
 intro _ a1
 refine nilO ⟨dA, ?_⟩
 refine qU [13] ?_
 refine qN ?_
 refine thenK_n <| seqE <| sR <| pu2 <| nT ?_
 refine cN ((ofV a0.v e0 (⟨0, 0, 0⟩ : Shape)).2) 0 (fun z6 => ?_) (fun z6 => ?_)
 rotate_left
 ·refine seqE ?_
  obtain ⟨a7, d3, e3, a2, b7, c7⟩ := RdT.elem v0 ((i : Nat) : Int)
  rw [Int.toNat_natCast] at a2
  obtain rfl : b0 = a7 := Option.some.inj (r0.symm.trans a2)
  have hox_x_53 : ((p.inputs.n : Nat) : Int) ≤ b0 ∧ b0 < ((p.inputs.n : Nat) : Int) + ((p.stages.n : Nat) : Int) := by have h := hordr b0 (List.mem_of_getElem? a2); simp only [Job.v] at h; omega
  refine drawE [] [(3, ⟨d3, e3, none⟩, I b0)] [(true, [0, 1]), (true, [2]), (true, [4, 5]), (true, [3]), (true, [6, 7])] rfl kr ⟨.inr ((b7.up 4 rfl).cell a1 (k := 0) rfl), trivial⟩ ?_
  have d7 := a1.drew
  refine wU [0, 1] ?_
  refine wY (.pointer (some ⟨d3, e3, none⟩)) rfl (fun w _ => Y_idx (a := t0) (i := ((i : Nat) : Int)) (len := s0) (cap := u0) rfl Tryz.runUnderlying22 Tryz.sizeOf3 kr kr c7) ?_
  refine wU [4, 5] ?_
  refine wLd (I b0) 0 Tryz.isAgg3 ?_
  refine wU [6, 7] ?_
  refine wN ?_
  refine thenK_n <| retE <| tR <| thenK_r <| tR <| thenK_r <| retT [.slice none 0 0, I b0, I ((ofV a0.v e0 (⟨0, 0, 0⟩ : Shape)).2)] ?_
  have hk0 : shpV p.v = shpGo ((p.inputs.n : Nat) : Int) (p.stages.l.map Stage.v) ((ordV p.v).1) zs := by unfold shpV; rw [if_pos ‹_›, if_pos (by exact hall)]; rw [hzs, ← hms, ← hmi]; rfl
  have hstg : stgAt (p.stages.l.map Stage.v) ((p.inputs.n : Nat) : Int) b0 = a0.v := by unfold stgAt; rw [map_at (f := Stage.v) f0]; rfl
  have hsa3 : shpAt ys a0.v.a = e0 := by unfold shpAt; rw [show ys[a0.v.a.toNat]? = some e0 from o1]; rfl
  have hsb3 : (if twoP a0.v then shpAt ys a0.v.b else ⟨0, 0, 0⟩) = (⟨0, 0, 0⟩ : Shape) := by rw [if_neg (by unfold twoP; simp only [Stage.v]; assumption)]
  have hst : shpStep ((p.inputs.n : Nat) : Int) (p.stages.l.map Stage.v) b0 ys = ofV a0.v e0 (⟨0, 0, 0⟩ : Shape) := by unfold shpStep; rw [hstg, hsa3, hsb3]
  have hk : shpV p.v = ([], b0, (ofV a0.v e0 (⟨0, 0, 0⟩ : Shape)).2) := by rw [hk0, hS2, drop_at r0, shpGo, hst, if_neg ‹_›]
  have e7 := (d7.drops [0, 0, 0, 0, 0, 0])
  have f7 : Sat W _ ([] :: H :: F) := Sat.nilc e7
  have hl : ([] : List Shape) = (shpV p.v).1 := (by rw [hk])
  have hrd := RdT.nil (enc := encShape) (sz := 3) fR [[]]
  rw [hl] at hrd
  exact ⟨_, _, _, _, (by rw [hk]; rfl), hrd, f7⟩
 refine kT ?_
 obtain ⟨g7, f3, g3, b2, h7, i7⟩ := RdT.elem v0 ((i : Nat) : Int)
 rw [Int.toNat_natCast] at b2
 obtain rfl : b0 = g7 := Option.some.inj (r0.symm.trans b2)
 have hox_x_53 : ((p.inputs.n : Nat) : Int) ≤ b0 ∧ b0 < ((p.inputs.n : Nat) : Int) + ((p.stages.n : Nat) : Int) := by have h := hordr b0 (List.mem_of_getElem? b2); simp only [Job.v] at h; omega
 obtain ⟨j7, k7, l7, m7, m9, n7, o7⟩ := OwnT.elem hOys b0
 refine drawE [7] [(4, ⟨f3, g3, none⟩, I b0), (5, ⟨z1, 0, none⟩, I ((ofV a0.v e0 (⟨0, 0, 0⟩ : Shape)).1.w)), (5, ⟨z1, 1, none⟩, I ((ofV a0.v e0 (⟨0, 0, 0⟩ : Shape)).1.h)), (5, ⟨z1, 2, none⟩, I ((ofV a0.v e0 (⟨0, 0, 0⟩ : Shape)).1.max_))] [(true, [0, 1, 2]), (true, [3]), (true, [4]), (true, [5]), (true, [6]), (false, [7])] rfl kr ⟨.inr ((h7.up 4 rfl).cell a1 (k := 0) rfl), .inr (a1.cell 0 rfl rfl), .inr (a1.cell 0 rfl rfl), .inr (a1.cell 0 rfl rfl), trivial⟩ ?_
 have p7 := a1.drew
 refine wU [0, 1, 2] ?_
 refine wY (.pointer (some ⟨f3, g3, none⟩)) rfl (fun w _ => Y_idx (a := t0) (i := ((i : Nat) : Int)) (len := s0) (cap := u0) rfl Tryz.runUnderlying22 Tryz.sizeOf3 kr kr i7) ?_
 refine wLd (I b0) 0 Tryz.isAgg3 ?_
 refine wY (.agg #[I ((ofV a0.v e0 (⟨0, 0, 0⟩ : Shape)).1.w), I ((ofV a0.v e0 (⟨0, 0, 0⟩ : Shape)).1.h), I ((ofV a0.v e0 (⟨0, 0, 0⟩ : Shape)).1.max_)]) rfl (fun w hF => Y_loadF rfl (Tryz.isAgg35 w) (Tryz.sizeOf35 w) kr rfl ⟨hF 1 _ _ rfl, hF 2 _ _ rfl, hF 3 _ _ rfl, trivial⟩) ?_
 refine wY (.pointer (some ⟨k7, l7 + (b0).toNat * 3, none⟩)) rfl (fun w _ => Y_idx (a := ays) (i := b0) (len := nys) (cap := kys) rfl Tryz.runUnderlying30 Tryz.sizeOf35 kr kr n7) ?_
 refine wO rfl ?_
 refine sStF p7 hOys o7 3 (b0).toNat 0 j7 (⟨(ofV a0.v e0 (⟨0, 0, 0⟩ : Shape)).1.w, (ofV a0.v e0 (⟨0, 0, 0⟩ : Shape)).1.h, (ofV a0.v e0 (⟨0, 0, 0⟩ : Shape)).1.max_⟩ : Shape) m7 (.agg #[I ((ofV a0.v e0 (⟨0, 0, 0⟩ : Shape)).1.w), I ((ofV a0.v e0 (⟨0, 0, 0⟩ : Shape)).1.h), I ((ofV a0.v e0 (⟨0, 0, 0⟩ : Shape)).1.max_)]) [I ((ofV a0.v e0 (⟨0, 0, 0⟩ : Shape)).1.w), I ((ofV a0.v e0 (⟨0, 0, 0⟩ : Shape)).1.h), I ((ofV a0.v e0 (⟨0, 0, 0⟩ : Shape)).1.max_)] Tryz.sizeOf35 ?_
 intro _ q7 r7 s7
 refine nilO ⟨dA, ?_⟩
 refine wN ?_
 refine blockK_n <| thenK_n <| regionE <| pu1 ?_
 refine sAdd ((i : Nat) : Int) 1 ?_
 refine pu1 <| nT ?_
 have hstg : stgAt (p.stages.l.map Stage.v) ((p.inputs.n : Nat) : Int) b0 = a0.v := by unfold stgAt; rw [map_at (f := Stage.v) f0]; rfl
 have hsa3 : shpAt ys a0.v.a = e0 := by unfold shpAt; rw [show ys[a0.v.a.toNat]? = some e0 from o1]; rfl
 have hsb3 : (if twoP a0.v then shpAt ys a0.v.b else ⟨0, 0, 0⟩) = (⟨0, 0, 0⟩ : Shape) := by rw [if_neg (by unfold twoP; simp only [Stage.v]; assumption)]
 have hst : shpStep ((p.inputs.n : Nat) : Int) (p.stages.l.map Stage.v) b0 ys = ofV a0.v e0 (⟨0, 0, 0⟩ : Shape) := by unfold shpStep; rw [hstg, hsa3, hsb3]
 have t7 := (s7.drops [0, 0, 0])
 exact ⟨(i + 1, (ys.set ((b0).toNat) (⟨(ofV a0.v e0 (⟨0, 0, 0⟩ : Shape)).1.w, (ofV a0.v e0 (⟨0, 0, 0⟩ : Shape)).1.h, (ofV a0.v e0 (⟨0, 0, 0⟩ : Shape)).1.max_⟩ : Shape)), ays, nys, kys, q7), od, alA, t7, om, by rw [hS2, drop_at r0, shpGo, hst, if_pos ‹_›], by simp; omega, r7⟩
theorem r17_checkj (p : Job) (hp : Job.Ok [H] p) (hb : p.inputs.n ≤ 1000000 ∧ p.stages.n ≤ 1000000 ∧ p.outputs.n ≤ 1000000) (hS : Sat W w (H :: F)) :
  Ro Tryz.prog 24 #[.agg (encJob p).toArray] (.tuple #[I ((shpV p.v).2.1), I ((shpV p.v).2.2)]) W w (H :: F) := by
 have hl_p_inputs := hp.inputs.le; have hn_p_inputs := hp.inputs.len
 have hl_p_stages := hp.stages.le; have hn_p_stages := hp.stages.len
 have hl_p_outputs := hp.outputs.le; have hn_p_outputs := hp.outputs.len
 refine callsA 15 Tryz.func24 rfl ?_
 refine sR ?_
 refine sBox hS (.agg (encJob p).toArray) (encJob p).toArray ?_
 intro _ _ a0
 refine pu2 <| nT <| sR ?_
 refine lA a0 0 0 4 (Tryz.isAgg28 _) (Tryz.sizeOf28 _) ?_
 refine cX Tryz.call40 (r17_shapes p ⟨(RdT.flat (hp.inputs.up 1 (by rfl))), (fun z hz => (hp.inputsD z hz).of_mem (mem_flat1 1 (by rfl))), (RdT.flat (hp.stages.up 1 (by rfl))), (fun z hz => (hp.stagesD z hz).of_mem (mem_flat1 1 (by rfl))), (RdT.flat (hp.outputs.up 1 (by rfl)))⟩ (od) (Sat.flat a0)) ?_
 rintro _ _ ⟨_, _, _, _, rfl, b0, c0⟩
 have d0 := Sat.unflat1 c0
 have hn_az_7 := b0.len; have hl_az_7 := b0.le
 refine pu7 <| nT <| sR <| pu4 <| nT <| retE <| retT [I ((shpV p.v).2.1), I ((shpV p.v).2.2)] ?_
 have e0 := (d0.drops [0, 0])
 exact ⟨rfl, e0⟩
end Go.Proofs.YtbofcpnngniopaaGreat
