import Derived.Test.YtcddcpaodcjecaaRefS
namespace Go.Proofs.Ytcddcpaodcjecaa
open Go Go.E
set_option linter.unusedVariables false
set_option linter.unusedSimpArgs false
set_option linter.unnecessarySimpa false
set_option maxRecDepth 100000
set_option maxHeartbeats 2000000

-- squeezed
def srcs (s : StageV) : List Int := if twoP s then [s.a, s.b] else [s.a]
theorem srcs_len (s : StageV) : 1 ≤ (srcs s).length ∧ (srcs s).length ≤ 2 := by unfold srcs; split <;> simp
def inR (n : Int) (l : List Int) : Bool := l.all fun x => decide (0 ≤ x ∧ x < n)
def chkCode (j : JobV) : Int :=
  if 1 ≤ j.inputs.length ∧ 1 ≤ j.stages.length ∧ j.inputs.length + j.stages.length ≤ 16 ∧ 1 ≤ j.outputs.length ∧ j.outputs.length ≤ 16 then (if 0 ≤ j.priority ∧ j.priority < 4 then
    (if j.stages.all (fun s => inR (j.inputs.length + j.stages.length) (srcs s)) = true then (if inR (j.inputs.length + j.stages.length) j.outputs = true then 0 else 6) else 6) else 2) else 5
theorem r15_sources (W w : World) (H : Chunk) (F : List Chunk) (q : Stage) (hq : Stage.Ok [H] q) (hS : Sat W w (H :: F)) :
  Calls Try.prog 69 #[.agg (encStage q).toArray] w fun e w' => ∃ (az : Option Addr) (nz kz : Nat) (G : Chunk), e = .returned (.slice az nz kz) ∧ RdT encI 1 [G] az nz kz (srcs q.v) ∧ Sat W w' (G :: H :: F) := by
 have hl_q_weights := hq.weights.le; have hn_q_weights := hq.weights.len
 have hl_q_row := hq.row.le; have hn_q_row := hq.row.len
 have hl_q_col := hq.col.le; have hn_q_col := hq.col.len
 have hl_q_x := hq.x.le; have hn_q_x := hq.x.len
 have hl_q_y := hq.y.le; have hn_q_y := hq.y.len
 have hl_q_ops := hq.ops.le; have hn_q_ops := hq.ops.len
 refine callsE (n := 13) Try.func69 rfl rfl (Nat.le_of_ble_eq_true rfl) ?_
 refine sR ?_
 refine sBox hS (.agg (encStage q).toArray) (encStage q).toArray ?_
 intro i0 _ e0
 refine pu1 <| nT <| seqE <| sR ?_
 refine sLA e0 0 0 [I q.kind, I q.a, I q.b, .bool q.barrier, I q.edgePolicy, I q.edgeFill, I q.kW, I q.kH, .slice q.weights.a q.weights.n q.weights.k, .slice q.row.a q.row.n q.row.k, .slice q.col.a q.col.n q.col.k, I q.shift, I q.shift2, .slice q.x.a q.x.n q.x.k, .slice q.y.a q.y.n q.y.k, I q.bins, .slice q.ops.a q.ops.n q.ops.k, I q.max_] (Try.isAgg61 _) (Try.sizeOf61 _) ?_
 refine sF #[.agg (encStage q).toArray] Try.call60 (Calls.mono (r15_two W _ _ [] q ⟨(RdT.flat (hq.weights.up 1 (by rfl))), (RdT.flat (hq.row.up 1 (by rfl))), (RdT.flat (hq.col.up 1 (by rfl))), (RdT.flat (hq.x.up 1 (by rfl))), (fun z hz => (hq.xD z hz).of_mem (mem_flat1 1 (by rfl))), (RdT.flat (hq.y.up 1 (by rfl))), (fun z hz => (hq.yD z hz).of_mem (mem_flat1 1 (by rfl))), (RdT.flat (hq.ops.up 1 (by rfl)))⟩ (Sat.flat e0)) ?_)
 rintro _ _ ⟨rfl, f0⟩
 refine ⟨_, rfl, ?_⟩
 have a0 := Sat.unflat f0; clear f0
 change Sat _ _ ([(i0, .cells (encStage q).toArray 61 (0, 0))] :: H :: F) at a0
 refine nT ?_
 rcases Classical.em (q.kind = 6 ∧ ¬ q.b = -1) with b0 | b0
 rotate_left
 ·refine cF _ (decide_eq_false b0) ?_
  refine kT <| sR <| pu1 ?_
  refine sL a0 0 1 (I q.a) (Try.isAgg3 _) ?_
  refine sBS a0 #[I q.a] Try.runUnderlying22 Try.sizeOf3 Try.zeroValue3 ?_
  intro c0 _ j0
  refine pu1 <| nT <| retE <| retT [.slice (At c0 0) 1 1] ?_
  have g0 := (((j0.pick 2 rfl).pick 1 rfl).dropAt 2 rfl)
  change Sat _ _ ([(c0, .cells #[I q.a] 3 (0, 0))] :: H :: F) at g0
  have hl : [q.a] = srcs q.v := (by unfold srcs; rw [if_neg (by unfold twoP; simp only [Stage.v]; omega)]; rfl)
  have hrd := (RdT.blk (cs := [[(c0, .cells #[I q.a] 3 (0, 0))]]) (enc := encI) (sz := 1) (xs := [q.a]) fR 1 0 rfl rfl rfl om)
  rw [hl] at hrd
  exact ⟨_, _, _, _, rfl, hrd, g0⟩
 refine cT _ (decide_eq_true b0) ?_
 refine sR <| pu1 ?_
 refine sL a0 0 1 (I q.a) (Try.isAgg3 _) ?_
 refine pu1 ?_
 refine sL a0 0 2 (I q.b) (Try.isAgg3 _) ?_
 refine sBS a0 #[I q.a, I q.b] Try.runUnderlying22 Try.sizeOf3 Try.zeroValue3 ?_
 intro d0 _ k0
 refine pu1 <| nT ?_
 refine retE (thenK_r <| ?_)
 refine retT [.slice (At d0 0) 2 2] ?_
 have h0 := (((k0.pick 2 rfl).pick 1 rfl).dropAt 2 rfl)
 change Sat _ _ ([(d0, .cells #[I q.a, I q.b] 3 (0, 0))] :: H :: F) at h0
 have hl : [q.a, q.b] = srcs q.v := (by unfold srcs; rw [if_pos (by unfold twoP; simp only [Stage.v]; omega)]; rfl)
 have hrd := (RdT.blk (cs := [[(d0, .cells #[I q.a, I q.b] 3 (0, 0))]]) (enc := encI) (sz := 1) (xs := [q.a, q.b]) fR 2 0 rfl rfl rfl om)
 rw [hl] at hrd
 exact ⟨_, _, _, _, rfl, hrd, h0⟩
theorem r17_has (W w : World) (H : Chunk) (F : List Chunk) (ax : Option Addr) (nx kx : Nat) (x : List Int) (y : Int) (hx : RdT encI 1 [H] ax nx kx x) (hS : Sat W w (H :: F)) :
  Calls Try.prog 68 #[.slice ax nx kx, I y] w fun e w' => e = .returned (.bool (decide (y ∈ x))) ∧ Sat W w' (H :: F) := by
 have hl_x := hx.le; have hn_x := hx.len
 refine callsE (n := 18) Try.func68 rfl rfl (Nat.le_of_ble_eq_true rfl) ?_
 refine sR <| pu1 <| nT <| seqE <| sR <| pu1 <| nT <| blockE ?_
 refine loopE (γ := Nat) (fun i ρ w => AllAt ρ [(0, .slice ax nx kx), (1, I y), (5, I ((i : Nat) : Int))] ∧ Sat W w (H :: F) ∧ i ≤ nx ∧ (¬ y ∈ x.take i)) (fun i => nx - i) 0 ⟨alA, hS, om, by simp⟩ ?_
 skip
 rintro i ρ _ ⟨hA, a0, hi, hE⟩
 refine cAnchor hA (fun ρ => ?_)
 clear hA
 refine seqE <| sR <| pu4 <| nT ?_
 by_cases d0 : (((i : Nat) : Int) : Int) < ((nx : Nat) : Int)
 rotate_left
 ·refine cF _ (decide_eq_false d0) ?_
  refine exitE (xB <| ?_)
  refine thenK_n <| sR <| pu1 <| nT <| retE <| retT [.bool false] ?_
  change Sat _ _ (H :: F) at a0
  exact ⟨by rw [decide_eq_false (show ¬ y ∈ x from by rw [List.take_of_length_le om] at hE; exact hE)]; rfl, a0⟩
 refine cT _ (decide_eq_true d0) ?_
 refine kT <| seqE <| blockE <| sR <| pu2 ?_
 refine sIdx hx ((i : Nat) : Int) Try.runUnderlying22 Try.sizeOf3 ?_
 intro b0 _ _ c0 f0
 rw [Int.toNat_natCast] at c0
 refine sLp a0 (f0.up 0 rfl) 0 (I b0) (Try.isAgg3 _) ?_
 refine pu2 <| nT ?_
 by_cases e0 : (b0 : Int) = y
 ·refine cT _ (beq_iff_eq.2 e0) ?_
  refine sR <| pu1 <| nT ?_
  refine retE (blockK_r <| thenK_r <| tR <| thenK_r <| ?_)
  refine retT [.bool true] ?_
  change Sat _ _ (H :: F) at a0
  exact ⟨by rw [decide_eq_true (show y ∈ x from (by omega : b0 = y) ▸ List.mem_of_getElem? c0)]; rfl, a0⟩
 refine cF _ (beq_eq_false_iff_ne.2 e0) ?_
 refine skipE <| blockK_n <| thenK_n <| regionE <| pu1 ?_
 refine sAdd ((i : Nat) : Int) 1 ?_
 refine pu1 <| nT ?_
 change Sat _ _ (H :: F) at a0
 exact ⟨i + 1, od, alA, a0, om, by rw [take_succ_at c0]; simp only [List.mem_append, List.mem_singleton, not_or]; exact ⟨hE, om⟩⟩
theorem r17_check (W w : World) (H : Chunk) (F : List Chunk) (p : Job) (hp : Job.Ok [H] p) (hb : p.inputs.n ≤ 1000000 ∧ p.stages.n ≤ 1000000 ∧ p.outputs.n ≤ 1000000) (hS : Sat W w (H :: F)) :
  Calls Try.prog 67 #[.agg (encJob p).toArray] w fun e w' => e = .returned (I (chkCode p.v)) ∧ Sat W w' (H :: F) := by
 have hl_p_inputs := hp.inputs.le; have hn_p_inputs := hp.inputs.len
 have hl_p_stages := hp.stages.le; have hn_p_stages := hp.stages.len
 have hl_p_outputs := hp.outputs.le; have hn_p_outputs := hp.outputs.len
 have hmi : (p.inputs.l.map Plane.v).length = p.inputs.n := by simp [hn_p_inputs]
 have hms : (p.stages.l.map Stage.v).length = p.stages.n := by simp [hn_p_stages]
 refine callsE (n := 105) Try.func67 rfl rfl (Nat.le_of_ble_eq_true rfl) ?_
 refine sR ?_
 refine sBox hS (.agg (encJob p).toArray) (encJob p).toArray ?_
 intro a0 _ d0
 refine pu1 <| nT <| sR <| pu1 ?_
 refine sL d0 0 0 (.slice p.inputs.a p.inputs.n p.inputs.k) (Try.isAgg25 _) ?_
 refine pu2 ?_
 refine sL d0 0 1 (.slice p.stages.a p.stages.n p.stages.k) (Try.isAgg26 _) ?_
 refine pu1 ?_
 refine sAdd ((p.inputs.n : Nat) : Int) ((p.stages.n : Nat) : Int) ?_
 refine pu1 <| nT <| seqE <| blockE ?_
 refine cutE (fun ρ w => AllAt ρ [(0, .agg (encJob p).toArray), (1, Pt a0 0), (2, I 0), (8, Pt a0 0), (9, .slice p.inputs.a p.inputs.n p.inputs.k), (10, I ((p.inputs.n : Nat) : Int)), (11, Pt a0 1), (12, .slice p.stages.a p.stages.n p.stages.k), (13, I ((p.stages.n : Nat) : Int)), (14, I (((p.inputs.n : Nat) : Int) + ((p.stages.n : Nat) : Int))), (3, I (((p.inputs.n : Nat) : Int) + ((p.stages.n : Nat) : Int))), (15, .bool (decide (¬ (1 ≤ p.inputs.n ∧ 1 ≤ p.stages.n ∧ p.inputs.n + p.stages.n ≤ 16 ∧ 1 ≤ p.outputs.n ∧ p.outputs.n ≤ 16))))] ∧ Sat W w ([(a0, .cells (encJob p).toArray 28 (0, 0))] :: H :: F)) ?_ ?_
 ·refine regionE <| pu1 ?_
  refine sL d0 0 0 (.slice p.inputs.a p.inputs.n p.inputs.k) (Try.isAgg25 _) ?_
  refine pu3 ?_
  by_cases q0 : (((p.inputs.n : Nat) : Int) : Int) = 0
  ·refine sFix 20 _ true (beq_iff_eq.2 q0) ?_
   refine pu16 <| pu6 <| nT ?_
   exact ⟨⟨kr, kr, kr, kr, kr, kr, kr, kr, kr, kr, kr, (Eq.trans (b := .bool true) kr (congrArg Value.bool (decide_eq_true (p := ¬ (1 ≤ p.inputs.n ∧ 1 ≤ p.stages.n ∧ p.inputs.n + p.stages.n ≤ 16 ∧ 1 ≤ p.outputs.n ∧ p.outputs.n ≤ 16)) om).symm)), trivial⟩, d0⟩
  refine sFix 20 _ false (beq_eq_false_iff_ne.2 q0) ?_
  refine pu1 <| gY ?_
  refine sL d0 0 1 (.slice p.stages.a p.stages.n p.stages.k) (Try.isAgg26 _) ?_
  refine pu4 ?_
  by_cases r0 : (((p.stages.n : Nat) : Int) : Int) = 0
  ·refine sFix 26 _ true (beq_iff_eq.2 r0) ?_
   refine pu16 <| nT ?_
   exact ⟨⟨kr, kr, kr, kr, kr, kr, kr, kr, kr, kr, kr, (Eq.trans (b := .bool true) kr (congrArg Value.bool (decide_eq_true (p := ¬ (1 ≤ p.inputs.n ∧ 1 ≤ p.stages.n ∧ p.inputs.n + p.stages.n ≤ 16 ∧ 1 ≤ p.outputs.n ∧ p.outputs.n ≤ 16)) om).symm)), trivial⟩, d0⟩
  refine sFix 26 _ false (beq_eq_false_iff_ne.2 r0) ?_
  refine pu4 ?_
  by_cases s0 : ((((p.inputs.n : Nat) : Int) + ((p.stages.n : Nat) : Int)) : Int) > 16
  ·refine sFix 30 _ true (decide_eq_true s0) ?_
   refine pu12 <| nT ?_
   exact ⟨⟨kr, kr, kr, kr, kr, kr, kr, kr, kr, kr, kr, (Eq.trans (b := .bool true) kr (congrArg Value.bool (decide_eq_true (p := ¬ (1 ≤ p.inputs.n ∧ 1 ≤ p.stages.n ∧ p.inputs.n + p.stages.n ≤ 16 ∧ 1 ≤ p.outputs.n ∧ p.outputs.n ≤ 16)) om).symm)), trivial⟩, d0⟩
  refine sFix 30 _ false (decide_eq_false s0) ?_
  refine pu1 <| gY ?_
  refine sL d0 0 2 (.slice p.outputs.a p.outputs.n p.outputs.k) (Try.isAgg22 _) ?_
  refine pu4 ?_
  by_cases t0 : (((p.outputs.n : Nat) : Int) : Int) = 0
  ·refine sFix 36 _ true (beq_iff_eq.2 t0) ?_
   refine pu6 <| nT ?_
   exact ⟨⟨kr, kr, kr, kr, kr, kr, kr, kr, kr, kr, kr, (Eq.trans (b := .bool true) kr (congrArg Value.bool (decide_eq_true (p := ¬ (1 ≤ p.inputs.n ∧ 1 ≤ p.stages.n ∧ p.inputs.n + p.stages.n ≤ 16 ∧ 1 ≤ p.outputs.n ∧ p.outputs.n ≤ 16)) om).symm)), trivial⟩, d0⟩
  refine sFix 36 _ false (beq_eq_false_iff_ne.2 t0) ?_
  refine pu1 <| gY ?_
  refine sL d0 0 2 (.slice p.outputs.a p.outputs.n p.outputs.k) (Try.isAgg22 _) ?_
  refine pu4 <| nT ?_
  exact ⟨⟨kr, kr, kr, kr, kr, kr, kr, kr, kr, kr, kr, (Eq.trans (b := .bool (decide ((((p.outputs.n : Nat) : Int) : Int) > 16))) kr (congrArg Value.bool (by rw [Bool.eq_iff_iff]; simp only [decide_eq_true_eq, beq_iff_eq, bne_iff_ne, ne_eq, Bool.not_eq_true', decide_eq_false_iff_not, gt_iff_lt, ge_iff_le, Bool.and_eq_true, Bool.or_eq_true, Bool.not_eq_eq_eq_not, Bool.not_true, Bool.and_eq_false_imp, beq_eq_false_iff_ne] <;> omega))), trivial⟩, d0⟩
 rintro ρ _ ⟨hA, f0⟩
 refine cAnchor hA (fun ρ => ?_)
 clear hA
 rcases Classical.em (¬ (1 ≤ p.inputs.n ∧ 1 ≤ p.stages.n ∧ p.inputs.n + p.stages.n ≤ 16 ∧ 1 ≤ p.outputs.n ∧ p.outputs.n ≤ 16)) with o0 | o0
 ·refine cT _ (decide_eq_true o0) ?_
  refine sR <| pu1 <| nT ?_
  refine retE (blockK_r <| thenK_r <| ?_)
  refine retT [I 5] ?_
  have u0 := ((f0.pick 1 rfl).dropAt 1 rfl)
  change Sat _ _ (H :: F) at u0
  have hk : chkCode p.v = 5 := by unfold chkCode; rw [if_neg (by simp only [Job.v]; omega)]
  exact ⟨by rw [hk]; rfl, u0⟩
 refine cF _ (decide_eq_false o0) ?_
 refine sR <| pu1 ?_
 refine sL f0 0 3 (I p.priority) (Try.isAgg3 _) ?_
 refine pu2 ?_
 by_cases v0 : (p.priority : Int) < 0
 ·refine sFix 46 _ true (decide_eq_true v0) ?_
  refine pu5 <| nT <| cTt <| sR <| pu1 <| nT ?_
  refine retE (blockK_r <| thenK_r <| ?_)
  refine retT [I 2] ?_
  have w0 := ((f0.pick 1 rfl).dropAt 1 rfl)
  change Sat _ _ (H :: F) at w0
  have hk : chkCode p.v = 2 := by unfold chkCode; rw [if_pos (by simp only [Job.v]; omega), if_neg (by simp only [Job.v]; omega)]
  exact ⟨by rw [hk]; rfl, w0⟩
 refine sFix 46 _ false (decide_eq_false v0) ?_
 refine pu1 <| gY ?_
 refine sL f0 0 3 (I p.priority) (Try.isAgg3 _) ?_
 refine pu3 <| nT ?_
 by_cases x0 : (p.priority : Int) ≥ 4
 ·refine cT _ (decide_eq_true x0) ?_
  refine sR <| pu1 <| nT ?_
  refine retE (blockK_r <| thenK_r <| ?_)
  refine retT [I 2] ?_
  have y0 := ((f0.pick 1 rfl).dropAt 1 rfl)
  change Sat _ _ (H :: F) at y0
  have hk : chkCode p.v = 2 := by unfold chkCode; rw [if_pos (by simp only [Job.v]; omega), if_neg (by simp only [Job.v]; omega)]
  exact ⟨by rw [hk]; rfl, y0⟩
 refine cF _ (decide_eq_false x0) ?_
 refine skipE <| blockK_n <| thenK_n <| seqE <| sR <| pu1 <| nT <| blockE ?_
 refine loopE (γ := Nat) (fun i ρ w => AllAt ρ [(0, .agg (encJob p).toArray), (1, Pt a0 0), (8, Pt a0 0), (9, .slice p.inputs.a p.inputs.n p.inputs.k), (10, I ((p.inputs.n : Nat) : Int)), (11, Pt a0 1), (12, .slice p.stages.a p.stages.n p.stages.k), (13, I ((p.stages.n : Nat) : Int)), (14, I (((p.inputs.n : Nat) : Int) + ((p.stages.n : Nat) : Int))), (3, I (((p.inputs.n : Nat) : Int) + ((p.stages.n : Nat) : Int))), (15, .bool (decide (¬ (1 ≤ p.inputs.n ∧ 1 ≤ p.stages.n ∧ p.inputs.n + p.stages.n ≤ 16 ∧ 1 ≤ p.outputs.n ∧ p.outputs.n ≤ 16)))), (43, Pt a0 3), (44, I p.priority), (45, .bool (decide ((p.priority : Int) < 0))), (46, .bool false), (47, Pt a0 3), (48, I p.priority), (49, .bool (decide ((p.priority : Int) ≥ 4))), (50, .bool (decide ((p.priority : Int) ≥ 4))), (42, .bool (decide ((p.priority : Int) ≥ 4))), (4, I ((i : Nat) : Int))] ∧ Sat W w ([(a0, .cells (encJob p).toArray 28 (0, 0))] :: H :: F) ∧ i ≤ p.stages.n ∧ (((p.stages.l.map Stage.v).take i).all (fun s => inR ((p.inputs.l.map Plane.v).length + (p.stages.l.map Stage.v).length : Int) (srcs s)) = true)) (fun i => p.stages.n - i) 0 ⟨alA, f0, om, by rfl⟩ ?_
 skip
 rintro i ρ _ ⟨hA, h0, hi, hE⟩
 refine cAnchor hA (fun ρ => ?_)
 clear hA
 refine seqE <| sR <| pu2 ?_
 refine sL h0 0 1 (.slice p.stages.a p.stages.n p.stages.k) (Try.isAgg26 _) ?_
 refine pu2 <| nT ?_
 by_cases z0 : (((i : Nat) : Int) : Int) < ((p.stages.n : Nat) : Int)
 rotate_left
 ·refine cF _ (decide_eq_false z0) ?_
  refine exitE (xB <| ?_)
  refine thenK_n <| seqE <| seqE ?_
  have hst : (p.stages.l.map Stage.v).all (fun s => inR ((p.inputs.l.map Plane.v).length + (p.stages.l.map Stage.v).length : Int) (srcs s)) = true := all_of_take hE om
  refine regionE <| pu1 <| nT <| blockE ?_
  refine loopE (γ := Nat) (fun m ρ w => AllAt ρ [(0, .agg (encJob p).toArray), (1, Pt a0 0), (8, Pt a0 0), (9, .slice p.inputs.a p.inputs.n p.inputs.k), (10, I ((p.inputs.n : Nat) : Int)), (11, Pt a0 1), (12, .slice p.stages.a p.stages.n p.stages.k), (13, I ((p.stages.n : Nat) : Int)), (14, I (((p.inputs.n : Nat) : Int) + ((p.stages.n : Nat) : Int))), (3, I (((p.inputs.n : Nat) : Int) + ((p.stages.n : Nat) : Int))), (15, .bool (decide (¬ (1 ≤ p.inputs.n ∧ 1 ≤ p.stages.n ∧ p.inputs.n + p.stages.n ≤ 16 ∧ 1 ≤ p.outputs.n ∧ p.outputs.n ≤ 16)))), (43, Pt a0 3), (44, I p.priority), (45, .bool (decide ((p.priority : Int) < 0))), (46, .bool false), (47, Pt a0 3), (48, I p.priority), (49, .bool (decide ((p.priority : Int) ≥ 4))), (50, .bool (decide ((p.priority : Int) ≥ 4))), (42, .bool (decide ((p.priority : Int) ≥ 4))), (4, I ((i : Nat) : Int)), (51, I ((i : Nat) : Int)), (52, Pt a0 1), (53, .slice p.stages.a p.stages.n p.stages.k), (54, I ((p.stages.n : Nat) : Int)), (55, .bool (decide ((((i : Nat) : Int) : Int) < ((p.stages.n : Nat) : Int)))), (7, I ((m : Nat) : Int))] ∧ Sat W w ([(a0, .cells (encJob p).toArray 28 (0, 0))] :: H :: F) ∧ m ≤ p.outputs.n ∧ (inR ((p.inputs.l.map Plane.v).length + (p.stages.l.map Stage.v).length : Int) (p.outputs.l.take m) = true)) (fun m => p.outputs.n - m) 0 ⟨alA, h0, om, by rfl⟩ ?_
  skip
  rintro m ρ _ ⟨hA, e0, hm, hF⟩
  refine cAnchor hA (fun ρ => ?_)
  clear hA
  refine seqE <| sR <| pu2 ?_
  refine sL e0 0 2 (.slice p.outputs.a p.outputs.n p.outputs.k) (Try.isAgg22 _) ?_
  refine pu2 <| nT ?_
  by_cases a1 : (((m : Nat) : Int) : Int) < ((p.outputs.n : Nat) : Int)
  rotate_left
  ·refine cF _ (decide_eq_false a1) ?_
   refine exitE (xB <| ?_)
   refine thenK_n <| sR <| pu1 <| nT <| retE <| retT [I 0] ?_
   have b1 := ((e0.pick 1 rfl).dropAt 1 rfl)
   change Sat _ _ (H :: F) at b1
   have ho := all_of_take hF om
   have hk : chkCode p.v = 0 := by unfold chkCode; rw [if_pos (by simp only [Job.v]; omega), if_pos (by simp only [Job.v]; omega), if_pos (by exact hst), if_pos (by exact ho)]
   exact ⟨by rw [hk]; rfl, b1⟩
  refine cT _ (decide_eq_true a1) ?_
  refine kT <| seqE <| blockE <| sR <| pu1 ?_
  refine sL e0 0 2 (.slice p.outputs.a p.outputs.n p.outputs.k) (Try.isAgg22 _) ?_
  refine pu1 ?_
  refine sIdx hp.outputs ((m : Nat) : Int) Try.runUnderlying22 Try.sizeOf3 ?_
  intro i0 _ _ j0 u1
  rw [Int.toNat_natCast] at j0
  refine sLp e0 (u1.up 1 rfl) 0 (I i0) (Try.isAgg3 _) ?_
  refine pu2 ?_
  by_cases c1 : (i0 : Int) < 0
  ·refine sFix 96 _ true (decide_eq_true c1) ?_
   refine pu8 <| nT <| cTt <| sR <| pu1 <| nT ?_
   refine retE (blockK_r <| thenK_r <| tR <| thenK_r <| ?_)
   refine retT [I 6] ?_
   have d1 := ((e0.pick 1 rfl).dropAt 1 rfl)
   change Sat _ _ (H :: F) at d1
   have ho := all_false_at (p := fun x => decide (0 ≤ x ∧ x < ((p.inputs.l.map Plane.v).length + (p.stages.l.map Stage.v).length : Int))) j0 (decide_eq_false om)
   have hk : chkCode p.v = 6 := by unfold chkCode; rw [if_pos (by simp only [Job.v]; omega), if_pos (by simp only [Job.v]; omega), if_pos (by exact hst), if_neg (by exact fun h => Bool.false_ne_true (ho.symm.trans h))]
   exact ⟨by rw [hk]; rfl, d1⟩
  refine sFix 96 _ false (decide_eq_false c1) ?_
  refine pu1 <| gY ?_
  refine sL e0 0 2 (.slice p.outputs.a p.outputs.n p.outputs.k) (Try.isAgg22 _) ?_
  refine pu1 <| gY ?_
  refine sIdx hp.outputs ((m : Nat) : Int) Try.runUnderlying22 Try.sizeOf3 ?_
  intro v1 _ _ e1 w1
  rw [Int.toNat_natCast] at e1
  obtain rfl : i0 = v1 := Option.some.inj (j0.symm.trans e1)
  refine gY ?_
  refine sLp e0 (w1.up 1 rfl) 0 (I i0) (Try.isAgg3 _) ?_
  refine pu3 <| nT ?_
  by_cases f1 : (i0 : Int) ≥ (((p.inputs.n : Nat) : Int) + ((p.stages.n : Nat) : Int))
  rotate_left
  ·refine cF _ (decide_eq_false f1) ?_
   refine skipE <| blockK_n <| thenK_n <| regionE <| pu1 ?_
   refine sAdd ((m : Nat) : Int) 1 ?_
   refine pu1 <| nT ?_
   have g1 := ((e0.pick 1 rfl).pick 1 rfl)
   change Sat _ _ ([(a0, .cells (encJob p).toArray 28 (0, 0))] :: H :: F) at g1
   exact ⟨m + 1, od, alA, g1, om, all_succ hF j0 (decide_eq_true om)⟩
  refine cT _ (decide_eq_true f1) ?_
  refine sR <| pu1 <| nT ?_
  refine retE (blockK_r <| thenK_r <| tR <| thenK_r <| ?_)
  refine retT [I 6] ?_
  have h1 := ((e0.pick 1 rfl).dropAt 1 rfl)
  change Sat _ _ (H :: F) at h1
  have ho := all_false_at (p := fun x => decide (0 ≤ x ∧ x < ((p.inputs.l.map Plane.v).length + (p.stages.l.map Stage.v).length : Int))) j0 (decide_eq_false om)
  have hk : chkCode p.v = 6 := by unfold chkCode; rw [if_pos (by simp only [Job.v]; omega), if_pos (by simp only [Job.v]; omega), if_pos (by exact hst), if_neg (by exact fun h => Bool.false_ne_true (ho.symm.trans h))]
  exact ⟨by rw [hk]; rfl, h1⟩
 refine cT _ (decide_eq_true z0) ?_
 refine kT <| seqE <| blockE <| sR <| pu1 ?_
 refine sL h0 0 1 (.slice p.stages.a p.stages.n p.stages.k) (Try.isAgg26 _) ?_
 refine pu1 ?_
 refine sIdx hp.stages ((i : Nat) : Int) Try.runUnderlying26 Try.sizeOf61 ?_
 intro b0 x1 y1 c0 z1
 rw [Int.toNat_natCast] at c0
 refine sLpA h0 (z1.up 1 rfl) 0 (encStage b0) (Try.isAgg61 _) (Try.sizeOf61 _) ?_
 refine sF #[.agg (encStage b0).toArray] Try.call69 (Calls.mono (r15_sources W _ _ [] b0 ⟨(RdT.flat ((hp.stagesD b0 (List.mem_of_getElem? c0)).weights.up 1 (by rfl))), (RdT.flat ((hp.stagesD b0 (List.mem_of_getElem? c0)).row.up 1 (by rfl))), (RdT.flat ((hp.stagesD b0 (List.mem_of_getElem? c0)).col.up 1 (by rfl))), (RdT.flat ((hp.stagesD b0 (List.mem_of_getElem? c0)).x.up 1 (by rfl))), (fun z hz => ((hp.stagesD b0 (List.mem_of_getElem? c0)).xD z hz).of_mem (mem_flat1 1 (by rfl))), (RdT.flat ((hp.stagesD b0 (List.mem_of_getElem? c0)).y.up 1 (by rfl))), (fun z hz => ((hp.stagesD b0 (List.mem_of_getElem? c0)).yD z hz).of_mem (mem_flat1 1 (by rfl))), (RdT.flat ((hp.stagesD b0 (List.mem_of_getElem? c0)).ops.up 1 (by rfl)))⟩ (Sat.flat h0)) ?_)
 rintro _ _ ⟨i1, k0, j1, p0, rfl, n0, k1⟩
 refine ⟨_, rfl, ?_⟩
 have l1 := Sat.unflat1 k1; clear k1
 have hn_az_27 := n0.len; have hl_az_27 := n0.le
 change Sat _ _ (p0 :: [(a0, .cells (encJob p).toArray 28 (0, 0))] :: H :: F) at l1
 have m2 : 1 ≤ (srcs b0.v).length ∧ (srcs b0.v).length ≤ 2 := srcs_len _
 refine pu1 <| nT <| sR <| pu1 <| nT <| blockE ?_
 refine loopE (γ := Nat) (fun k ρ w => AllAt ρ [(0, .agg (encJob p).toArray), (1, Pt a0 0), (8, Pt a0 0), (9, .slice p.inputs.a p.inputs.n p.inputs.k), (10, I ((p.inputs.n : Nat) : Int)), (11, Pt a0 1), (12, .slice p.stages.a p.stages.n p.stages.k), (13, I ((p.stages.n : Nat) : Int)), (14, I (((p.inputs.n : Nat) : Int) + ((p.stages.n : Nat) : Int))), (3, I (((p.inputs.n : Nat) : Int) + ((p.stages.n : Nat) : Int))), (15, .bool (decide (¬ (1 ≤ p.inputs.n ∧ 1 ≤ p.stages.n ∧ p.inputs.n + p.stages.n ≤ 16 ∧ 1 ≤ p.outputs.n ∧ p.outputs.n ≤ 16)))), (43, Pt a0 3), (44, I p.priority), (45, .bool (decide ((p.priority : Int) < 0))), (46, .bool false), (47, Pt a0 3), (48, I p.priority), (49, .bool (decide ((p.priority : Int) ≥ 4))), (50, .bool (decide ((p.priority : Int) ≥ 4))), (42, .bool (decide ((p.priority : Int) ≥ 4))), (4, I ((i : Nat) : Int)), (51, I ((i : Nat) : Int)), (52, Pt a0 1), (53, .slice p.stages.a p.stages.n p.stages.k), (54, I ((p.stages.n : Nat) : Int)), (55, .bool (decide ((((i : Nat) : Int) : Int) < ((p.stages.n : Nat) : Int)))), (58, Pt a0 1), (59, .slice p.stages.a p.stages.n p.stages.k), (60, I ((i : Nat) : Int)), (61, .pointer (some ⟨x1, y1, none⟩)), (62, .agg (encStage b0).toArray), (63, .slice i1 k0 j1), (5, .slice i1 k0 j1), (6, I ((k : Nat) : Int))] ∧ Sat W w (p0 :: [(a0, .cells (encJob p).toArray 28 (0, 0))] :: H :: F) ∧ k ≤ k0 ∧ (inR ((p.inputs.l.map Plane.v).length + (p.stages.l.map Stage.v).length : Int) ((srcs b0.v).take k) = true)) (fun k => k0 - k) 0 ⟨alA, l1, om, by rfl⟩ ?_
 skip
 rintro k ρ _ ⟨hA, g0, hk, hK⟩
 refine cAnchor hA (fun ρ => ?_)
 clear hA
 refine seqE <| sR <| pu4 <| nT ?_
 by_cases m1 : (((k : Nat) : Int) : Int) < ((k0 : Nat) : Int)
 rotate_left
 ·refine cF _ (decide_eq_false m1) ?_
  refine exitE (xB <| ?_)
  refine blockK_n <| thenK_n <| regionE <| pu1 ?_
  refine sAdd ((i : Nat) : Int) 1 ?_
  refine pu1 <| nT ?_
  have n1 := (((g0.pick 2 rfl).pick 2 rfl).dropAt 2 rfl)
  change Sat _ _ ([(a0, .cells (encJob p).toArray 28 (0, 0))] :: H :: F) at n1
  exact ⟨i + 1, od, alA, n1, om, all_succ hE (map_at (f := Stage.v) c0) (show inR _ (srcs b0.v) = true from all_of_take hK om)⟩
 refine cT _ (decide_eq_true m1) ?_
 refine kT <| seqE <| blockE <| sR <| pu2 ?_
 refine sIdx n0 ((k : Nat) : Int) Try.runUnderlying22 Try.sizeOf3 ?_
 intro l0 _ _ m0 a2
 rw [Int.toNat_natCast] at m0
 refine sLp g0 (a2.up 0 rfl) 0 (I l0) (Try.isAgg3 _) ?_
 refine pu2 ?_
 by_cases o1 : (l0 : Int) < 0
 ·refine sFix 75 _ true (decide_eq_true o1) ?_
  refine pu7 <| nT <| cTt <| sR <| pu1 <| nT ?_
  refine retE (blockK_r <| thenK_r <| tR <| blockK_r <| thenK_r <| tR <| thenK_r <| ?_)
  refine retT [I 6] ?_
  have p1 := (((g0.pick 2 rfl).dropAt 1 rfl).dropAt 1 rfl)
  change Sat _ _ (H :: F) at p1
  have hs1 := all_false_at (p := fun x => decide (0 ≤ x ∧ x < ((p.inputs.l.map Plane.v).length + (p.stages.l.map Stage.v).length : Int))) m0 (decide_eq_false om)
  have hs2 := all_false_at (p := fun s => inR ((p.inputs.l.map Plane.v).length + (p.stages.l.map Stage.v).length : Int) (srcs s)) (map_at (f := Stage.v) c0) hs1
  have hk : chkCode p.v = 6 := by unfold chkCode; rw [if_pos (by simp only [Job.v]; omega), if_pos (by simp only [Job.v]; omega), if_neg (by exact fun h => Bool.false_ne_true (hs2.symm.trans h))]
  exact ⟨by rw [hk]; rfl, p1⟩
 refine sFix 75 _ false (decide_eq_false o1) ?_
 refine pu2 <| gY ?_
 refine sIdx n0 ((k : Nat) : Int) Try.runUnderlying22 Try.sizeOf3 ?_
 intro b2 _ _ q1 c2
 rw [Int.toNat_natCast] at q1
 obtain rfl : l0 = b2 := Option.some.inj (m0.symm.trans q1)
 refine gY ?_
 refine sLp g0 (c2.up 0 rfl) 0 (I l0) (Try.isAgg3 _) ?_
 refine pu3 <| nT ?_
 by_cases r1 : (l0 : Int) ≥ (((p.inputs.n : Nat) : Int) + ((p.stages.n : Nat) : Int))
 rotate_left
 ·refine cF _ (decide_eq_false r1) ?_
  refine skipE <| blockK_n <| thenK_n <| regionE <| pu1 ?_
  refine sAdd ((k : Nat) : Int) 1 ?_
  refine pu1 <| nT ?_
  have s1 := (((g0.pick 2 rfl).pick 2 rfl).pick 2 rfl)
  change Sat _ _ (p0 :: [(a0, .cells (encJob p).toArray 28 (0, 0))] :: H :: F) at s1
  exact ⟨k + 1, od, alA, s1, om, all_succ hK m0 (decide_eq_true om)⟩
 refine cT _ (decide_eq_true r1) ?_
 refine sR <| pu1 <| nT ?_
 refine retE (blockK_r <| thenK_r <| tR <| blockK_r <| thenK_r <| tR <| thenK_r <| ?_)
 refine retT [I 6] ?_
 have t1 := (((g0.pick 2 rfl).dropAt 1 rfl).dropAt 1 rfl)
 change Sat _ _ (H :: F) at t1
 have hs1 := all_false_at (p := fun x => decide (0 ≤ x ∧ x < ((p.inputs.l.map Plane.v).length + (p.stages.l.map Stage.v).length : Int))) m0 (decide_eq_false om)
 have hs2 := all_false_at (p := fun s => inR ((p.inputs.l.map Plane.v).length + (p.stages.l.map Stage.v).length : Int) (srcs s)) (map_at (f := Stage.v) c0) hs1
 have hk : chkCode p.v = 6 := by unfold chkCode; rw [if_pos (by simp only [Job.v]; omega), if_pos (by simp only [Job.v]; omega), if_neg (by exact fun h => Bool.false_ne_true (hs2.symm.trans h))]
 exact ⟨by rw [hk]; rfl, t1⟩

def ordOK (ni : Int) (out : List Int) (s : StageV) : Bool := (srcs s).all fun x => decide (x < ni ∨ x ∈ out)
def ordPick (ni : Int) (out : List Int) : List StageV → Int → Int
  | [], _ => -1
  | s :: l, i => if (decide (¬ (ni + i) ∈ out) && ordOK ni out s) = true then ni + i else ordPick ni out l (i + 1)
def ordGo (ni : Int) (ss : List StageV) : Nat → List Int → Option (List Int)
  | 0, out => some out
  | k + 1, out => if ordPick ni out ss 0 < 0 then none else ordGo ni ss k (out ++ [ordPick ni out ss 0])
def ordV (j : JobV) : List Int × Int := if chkCode j = 0 then (match ordGo j.inputs.length j.stages j.stages.length [] with | some l => (l, 0) | none => ([], 7)) else ([], chkCode j)
theorem ordGo_succ {ni : Int} {ss : List StageV} {i : Nat} {out : List Int} {n : Int} (hn : ordPick ni out ss 0 = n) (h : 0 ≤ n) (hi : i < ss.length) : ordGo ni ss (ss.length - i) out = ordGo ni ss (ss.length - (i + 1)) (out ++ [n]) := by
  have e : ss.length - i = (ss.length - (i + 1)) + 1 := by omega
  rw [e, ordGo, hn, if_neg (by omega)]
theorem ordGo_none {ni : Int} {ss : List StageV} {i : Nat} {out : List Int} {n : Int} (hn : ordPick ni out ss 0 = n) (h : n < 0) (hi : i < ss.length) : ordGo ni ss (ss.length - i) out = none := by
  have e : ss.length - i = (ss.length - (i + 1)) + 1 := by omega
  rw [e, ordGo, hn, if_pos h]
theorem ordPick_range {ni : Int} {out : List Int} {n : Nat} : ∀ (l : List StageV) (i : Nat), i + l.length = n → 0 ≤ ordPick ni out l i → ni ≤ ordPick ni out l i ∧ ordPick ni out l i < ni + n
  | [], i, _, h => by simp [ordPick] at h
  | s :: l, i, hl, h => by
    unfold ordPick at h ⊢
    simp only [List.length_cons] at hl
    split
    · omega
    · rename_i hc
      rw [if_neg hc] at h
      exact ordPick_range l (i + 1) (by omega) h
theorem ordGo_range {ni : Int} {ss : List StageV} : ∀ (k : Nat) (out l : List Int), (∀ x ∈ out, ni ≤ x ∧ x < ni + ss.length) → ordGo ni ss k out = some l → ∀ x ∈ l, ni ≤ x ∧ x < ni + ss.length
 | 0, out, l, ho, h => by simp only [ordGo, Option.some.injEq] at h; subst h; exact ho
 | k + 1, out, l, ho, h => by
  unfold ordGo at h
  split at h
  ·cases h
  ·refine ordGo_range k _ l (fun x hx => ?_) h
   rcases List.mem_append.1 hx with h1 | h1
   ·exact ho x h1
   ·simp only [List.mem_singleton] at h1
    subst h1
    have h2 : (0 : Int) ≤ ordPick ni out ss ((0 : Nat) : Int) := by have e : ((0 : Nat) : Int) = 0 := rfl; rw [e]; omega
    exact ordPick_range ss 0 om h2
theorem ordV_range {j : JobV} (h : (ordV j).2 = 0) : ∀ x ∈ (ordV j).1, (j.inputs.length : Int) ≤ x ∧ x < j.inputs.length + j.stages.length := by
  unfold ordV at *
  split at h
  · rename_i hc
    rw [if_pos hc]
    split at h
    · rename_i l hl
      exact ordGo_range _ _ _ (fun x hx => by cases hx) hl
    · simp at h
  · rename_i hc
    exact absurd h hc
theorem ordV_chk {j : JobV} (h : (ordV j).2 = 0) : chkCode j = 0 := by
  unfold ordV at h
  split at h
  · assumption
  · exact h
theorem r17_order (W w : World) (H : Chunk) (F : List Chunk) (p : Job) (hp : Job.Ok [H] p) (hb : p.inputs.n ≤ 1000000 ∧ p.stages.n ≤ 1000000 ∧ p.outputs.n ≤ 1000000) (hS : Sat W w (H :: F)) :
  Calls Try.prog 58 #[.agg (encJob p).toArray] w fun e w' => ∃ (az : Option Addr) (nz kz : Nat) (G : Chunk), e = .returned (.tuple #[.slice az nz kz, I ((ordV p.v).2)]) ∧ RdT encI 1 [G] az nz kz ((ordV p.v).1) ∧ Sat W w' (G :: H :: F) := by
 have hl_p_inputs := hp.inputs.le; have hn_p_inputs := hp.inputs.len
 have hl_p_stages := hp.stages.le; have hn_p_stages := hp.stages.len
 have hl_p_outputs := hp.outputs.le; have hn_p_outputs := hp.outputs.len
 have hmi : (p.inputs.l.map Plane.v).length = p.inputs.n := by simp [hn_p_inputs]
 have hms : (p.stages.l.map Stage.v).length = p.stages.n := by simp [hn_p_stages]
 refine callsE (n := 83) Try.func58 rfl rfl (Nat.le_of_ble_eq_true rfl) ?_
 refine sR ?_
 refine sBox hS (.agg (encJob p).toArray) (encJob p).toArray ?_
 intro a0 _ z0
 refine pu2 <| nT <| seqE <| sR ?_
 refine sLA z0 0 0 [.slice p.inputs.a p.inputs.n p.inputs.k, .slice p.stages.a p.stages.n p.stages.k, .slice p.outputs.a p.outputs.n p.outputs.k, I p.priority] (Try.isAgg28 _) (Try.sizeOf28 _) ?_
 refine sF #[.agg (encJob p).toArray] Try.call67 (Calls.mono (r17_check W _ _ [] p ⟨(RdT.flat (hp.inputs.up 1 (by rfl))), (fun z hz => (hp.inputsD z hz).of_mem (mem_flat1 1 (by rfl))), (RdT.flat (hp.stages.up 1 (by rfl))), (fun z hz => (hp.stagesD z hz).of_mem (mem_flat1 1 (by rfl))), (RdT.flat (hp.outputs.up 1 (by rfl)))⟩ (od) (Sat.flat z0)) ?_)
 rintro _ _ ⟨rfl, a1⟩
 refine ⟨_, rfl, ?_⟩
 have r0 := Sat.unflat a1; clear a1
 change Sat _ _ ([(a0, .cells (encJob p).toArray 28 (0, 0))] :: H :: F) at r0
 refine pu1 <| nT <| sR <| pu2 <| nT ?_
 by_cases b1 : ((chkCode p.v) : Int) = 0
 rotate_left
 ·refine cT _ (bne_iff_ne.2 b1) ?_
  refine sR <| pu3 <| nT ?_
  refine retE (thenK_r <| ?_)
  refine retT [.slice none 0 0, I (chkCode p.v)] ?_
  have hk : ordV p.v = ([], (chkCode p.v)) := by unfold ordV; rw [if_neg ‹_›]
  have c1 := ((r0.pick 1 rfl).dropAt 1 rfl)
  change Sat _ _ (H :: F) at c1
  have b2 : Sat W _ ([] :: H :: F) := Sat.nilc c1
  have hl : ([] : List Int) = (ordV p.v).1 := (by rw [hk])
  have hrd := RdT.nil (enc := encI) (sz := 1) fR [[]]
  rw [hl] at hrd
  exact ⟨_, _, _, _, (by rw [hk]; rfl), hrd, b2⟩
 refine cF _ (bne_eq_false_iff_eq.2 b1) ?_
 refine kT <| sR <| pu1 <| nT <| seqE <| blockE ?_
 have d1 := Sat.nilc r0
 have c2 := OwnT.nil (enc := encI) (E := 3) (sz := 1) fR
 change Sat _ _ ([] :: [(a0, .cells (encJob p).toArray 28 (0, 0))] :: H :: F) at d1
 refine loopE (γ := Nat × (List Int) × (Option Addr) × Nat × Nat × Chunk) (fun ⟨i, zs, azs, nzs, kzs, czs⟩ ρ w => AllAt ρ [(0, .agg (encJob p).toArray), (1, Pt a0 0), (12, .agg (encJob p).toArray), (13, I (chkCode p.v)), (4, I (chkCode p.v)), (14, I (chkCode p.v)), (15, .bool (((chkCode p.v) : Int) != 0)), (5, .slice azs nzs kzs)] ∧ Sat W w (czs :: [(a0, .cells (encJob p).toArray 28 (0, 0))] :: H :: F) ∧ i ≤ p.stages.n ∧ (zs.length = i) ∧ (ordGo ((p.inputs.n : Nat) : Int) (p.stages.l.map Stage.v) (p.stages.l.map Stage.v).length [] = ordGo ((p.inputs.n : Nat) : Int) (p.stages.l.map Stage.v) ((p.stages.l.map Stage.v).length - i) zs) ∧ OwnT encI 3 1 azs nzs kzs zs czs) (fun ⟨i, zs, azs, nzs, kzs, czs⟩ => p.stages.n - i) (0, [], none, 0, 0, []) ⟨alA, d1, om, by rfl, by rfl, c2⟩ ?_
 skip
 rintro ⟨i, zs, azs, nzs, kzs, czs⟩ ρ _ ⟨hA, s0, hi, hzi, hG, hOzs⟩
 refine cAnchor hA (fun ρ => ?_)
 clear hA
 have hn_zs := hOzs.len; have hl_zs := hOzs.le
 refine seqE <| sR <| pu3 ?_
 refine sL s0 1 1 (.slice p.stages.a p.stages.n p.stages.k) (Try.isAgg26 _) ?_
 refine pu2 <| nT ?_
 by_cases e1 : (((nzs : Nat) : Int) : Int) < ((p.stages.n : Nat) : Int)
 rotate_left
 ·refine cF _ (decide_eq_false e1) ?_
  refine exitE (xB <| ?_)
  refine thenK_n <| sR <| pu3 <| nT <| retE <| retT [.slice azs nzs kzs, I 0] ?_
  have hk : ordV p.v = (zs, 0) := by
   have h0 : ordGo p.v.inputs.length p.v.stages p.v.stages.length [] = some zs := by
    have h := hG; rw [show (p.stages.l.map Stage.v).length - i = 0 from by simp; omega] at h; rw [← hmi] at h; exact h
   unfold ordV; rw [if_pos om, h0]
  have f1 := (((s0.pick 2 rfl).pick 1 rfl).dropAt 2 rfl)
  change Sat _ _ (czs :: H :: F) at f1
  have hl : zs = (ordV p.v).1 := (by rw [hk])
  have hrd := (hOzs.rdAt (cs := [czs]) 0 rfl)
  rw [hl] at hrd
  exact ⟨_, _, _, _, (by rw [hk]; rfl), hrd, f1⟩
 refine cT _ (decide_eq_true e1) ?_
 refine kT <| blockE <| sR <| pu1 <| nT <| seqE <| sR <| pu1 <| nT <| blockE ?_
 refine loopE (γ := Nat × Int) (fun ⟨j, nx⟩ ρ w => AllAt ρ [(0, .agg (encJob p).toArray), (1, Pt a0 0), (12, .agg (encJob p).toArray), (13, I (chkCode p.v)), (4, I (chkCode p.v)), (14, I (chkCode p.v)), (15, .bool (((chkCode p.v) : Int) != 0)), (5, .slice azs nzs kzs), (17, .slice azs nzs kzs), (18, I ((nzs : Nat) : Int)), (19, Pt a0 1), (20, .slice p.stages.a p.stages.n p.stages.k), (21, I ((p.stages.n : Nat) : Int)), (22, .bool (decide ((((nzs : Nat) : Int) : Int) < ((p.stages.n : Nat) : Int)))), (7, I ((j : Nat) : Int)), (6, I nx)] ∧ Sat W w (czs :: [(a0, .cells (encJob p).toArray 28 (0, 0))] :: H :: F) ∧ j ≤ p.stages.n ∧ ((nx = -1 ∧ ordPick ((p.inputs.n : Nat) : Int) zs (p.stages.l.map Stage.v) 0 = ordPick ((p.inputs.n : Nat) : Int) zs ((p.stages.l.map Stage.v).drop j) ((j : Nat) : Int)) ∨ (0 ≤ nx ∧ nx = ordPick ((p.inputs.n : Nat) : Int) zs (p.stages.l.map Stage.v) 0))) (fun ⟨j, nx⟩ => p.stages.n - j) (0, -1) ⟨alA, s0, om, by exact .inl ⟨rfl, rfl⟩⟩ ?_
 skip
 rintro ⟨j, nx⟩ ρ _ ⟨hA, g0, hj, hP⟩
 refine cAnchor hA (fun ρ => ?_)
 clear hA
 refine seqE <| sR <| pu2 ?_
 refine sL g0 1 1 (.slice p.stages.a p.stages.n p.stages.k) (Try.isAgg26 _) ?_
 refine pu3 ?_
 by_cases g1 : (((j : Nat) : Int) : Int) < ((p.stages.n : Nat) : Int)
 rotate_left
 ·refine sFix 28 _ false (decide_eq_false g1) ?_
  refine pu3 <| nT <| cFf ?_
  refine exitE (xB <| ?_)
  refine thenK_n <| seqE <| seqE ?_
  have hpk : ordPick ((p.inputs.n : Nat) : Int) zs (p.stages.l.map Stage.v) 0 = nx := by
   rcases hP with ⟨h1, h2⟩ | ⟨h1, h2⟩
   ·rw [h2, List.drop_of_length_le (by simp; omega), h1]; rfl
   ·exact h2.symm
  refine regionE <| pu2 <| nT ?_
  by_cases i1 : (nx : Int) < 0
  ·refine cT _ (decide_eq_true i1) ?_
   refine sR <| pu2 <| nT ?_
   refine retE (tR <| tR <| thenK_r <| ?_)
   refine retT [.slice none 0 0, I 7] ?_
   have hk : ordV p.v = ([], 7) := by
    have h0 : ordGo p.v.inputs.length p.v.stages p.v.stages.length [] = none := by
     have h := hG; rw [ordGo_none hpk om (by simp; omega)] at h; rw [← hmi] at h; exact h
    unfold ordV; rw [if_pos om, h0]
   have j1 := (((g0.pick 2 rfl).dropAt 1 rfl).dropAt 1 rfl)
   change Sat _ _ (H :: F) at j1
   have d2 : Sat W _ ([] :: H :: F) := Sat.nilc j1
   have hl : ([] : List Int) = (ordV p.v).1 := (by rw [hk])
   have hrd := RdT.nil (enc := encI) (sz := 1) fR [[]]
   rw [hl] at hrd
   exact ⟨_, _, _, _, (by rw [hk]; rfl), hrd, d2⟩
  refine cF _ (decide_eq_false i1) ?_
  refine kT <| regionE <| pu2 ?_
  refine sBS g0 #[I nx] Try.runUnderlying22 Try.sizeOf3 Try.zeroValue3 ?_
  intro _ _ e2
  refine sApp (nb := 8) e2 hOzs 1 (RdT.blk (enc := encI) (sz := 1) (xs := [nx]) fR 1 0 rfl rfl rfl om) Try.underlying22 (i := Try.t3) kr fR ?_
  intro f2 g2 k1 _ i2 l1
  try dsimp only [List.set, List.eraseIdx, Value.cells] at l1
  refine pu1 <| nB ?_
  have m1 := ((((l1.pick 3 rfl).pick 3 rfl).pick 3 rfl).dropAt 3 rfl)
  change Sat _ _ (k1 :: [(a0, .cells (encJob p).toArray 28 (0, 0))] :: H :: F) at m1
  exact ⟨(i + 1, (zs ++ [nx]), f2, (nzs + 1), g2, k1), od, alA, m1, om, by simp; omega, by rw [hG]; exact ordGo_succ hpk om (by simp; omega), i2⟩
 refine sFix 28 _ true (decide_eq_true g1) ?_
 refine pu3 <| nT ?_
 by_cases t0 : (nx : Int) < 0
 rotate_left
 ·refine cF _ (decide_eq_false t0) ?_
  refine exitE (xB <| ?_)
  refine thenK_n <| seqE <| seqE ?_
  have hpk : ordPick ((p.inputs.n : Nat) : Int) zs (p.stages.l.map Stage.v) 0 = nx := by
   rcases hP with ⟨h1, h2⟩ | ⟨h1, h2⟩
   ·rw [h2, List.drop_of_length_le (by simp; omega), h1]; rfl
   ·exact h2.symm
  refine regionE <| pu2 <| nT ?_
  refine cF _ (decide_eq_false t0) ?_
  refine kT <| regionE <| pu2 ?_
  refine sBS g0 #[I nx] Try.runUnderlying22 Try.sizeOf3 Try.zeroValue3 ?_
  intro _ _ j2
  refine sApp (nb := 8) j2 hOzs 1 (RdT.blk (enc := encI) (sz := 1) (xs := [nx]) fR 1 0 rfl rfl rfl om) Try.underlying22 (i := Try.t3) kr fR ?_
  intro k2 l2 n1 _ m2 o1
  try dsimp only [List.set, List.eraseIdx, Value.cells] at o1
  refine pu1 <| nB ?_
  have p1 := ((((o1.pick 3 rfl).pick 3 rfl).pick 3 rfl).dropAt 3 rfl)
  change Sat _ _ (n1 :: [(a0, .cells (encJob p).toArray 28 (0, 0))] :: H :: F) at p1
  exact ⟨(i + 1, (zs ++ [nx]), k2, (nzs + 1), l2, n1), od, alA, p1, om, by simp; omega, by rw [hG]; exact ordGo_succ hpk om (by simp; omega), m2⟩
 refine cT _ (decide_eq_true t0) ?_
 refine kT <| seqE <| blockE <| seqE ?_
 obtain ⟨hnx, hP1⟩ : nx = -1 ∧ ordPick ((p.inputs.n : Nat) : Int) zs (p.stages.l.map Stage.v) 0 = ordPick ((p.inputs.n : Nat) : Int) zs ((p.stages.l.map Stage.v).drop j) j := by
  rcases hP with h | h
  ·exact h
  ·omega
 refine regionE <| pu1 ?_
 refine sL g0 1 0 (.slice p.inputs.a p.inputs.n p.inputs.k) (Try.isAgg25 _) ?_
 refine pu2 ?_
 refine sAdd ((p.inputs.n : Nat) : Int) ((j : Nat) : Int) ?_
 refine pu1 <| nT <| sR <| pu2 ?_
 refine sF #[.slice azs nzs kzs, I (((p.inputs.n : Nat) : Int) + ((j : Nat) : Int))] Try.call68 (Calls.mono (r17_has W _ _ [] azs nzs kzs zs (((p.inputs.n : Nat) : Int) + ((j : Nat) : Int)) (RdT.flat (hOzs.rdAt 0 (by rfl))) (Sat.flat g0)) ?_)
 rintro _ _ ⟨rfl, q1⟩
 refine ⟨_, rfl, ?_⟩
 have o0 := Sat.unflat q1; clear q1
 change Sat _ _ (czs :: [(a0, .cells (encJob p).toArray 28 (0, 0))] :: H :: F) at o0
 refine pu2 <| nT <| sR <| pu1 ?_
 refine sL o0 1 1 (.slice p.stages.a p.stages.n p.stages.k) (Try.isAgg26 _) ?_
 refine pu1 ?_
 refine sIdx hp.stages ((j : Nat) : Int) Try.runUnderlying26 Try.sizeOf61 ?_
 intro b0 n2 o2 c0 p2
 rw [Int.toNat_natCast] at c0
 refine sLpA o0 (p2.up 2 rfl) 0 (encStage b0) (Try.isAgg61 _) (Try.sizeOf61 _) ?_
 refine sF #[.agg (encStage b0).toArray] Try.call69 (Calls.mono (r15_sources W _ _ [] b0 ⟨(RdT.flat ((hp.stagesD b0 (List.mem_of_getElem? c0)).weights.up 2 (by rfl))), (RdT.flat ((hp.stagesD b0 (List.mem_of_getElem? c0)).row.up 2 (by rfl))), (RdT.flat ((hp.stagesD b0 (List.mem_of_getElem? c0)).col.up 2 (by rfl))), (RdT.flat ((hp.stagesD b0 (List.mem_of_getElem? c0)).x.up 2 (by rfl))), (fun z hz => ((hp.stagesD b0 (List.mem_of_getElem? c0)).xD z hz).of_mem (mem_flat1 2 (by rfl))), (RdT.flat ((hp.stagesD b0 (List.mem_of_getElem? c0)).y.up 2 (by rfl))), (fun z hz => ((hp.stagesD b0 (List.mem_of_getElem? c0)).yD z hz).of_mem (mem_flat1 2 (by rfl))), (RdT.flat ((hp.stagesD b0 (List.mem_of_getElem? c0)).ops.up 2 (by rfl)))⟩ (Sat.flat o0)) ?_)
 rintro _ _ ⟨l0, f0, m0, i0, rfl, u0, r1⟩
 refine ⟨_, rfl, ?_⟩
 have s1 := Sat.unflat1 r1; clear r1
 have hn_az_28 := u0.len; have hl_az_28 := u0.le
 change Sat _ _ (i0 :: czs :: [(a0, .cells (encJob p).toArray 28 (0, 0))] :: H :: F) at s1
 have e3 : 1 ≤ (srcs b0.v).length ∧ (srcs b0.v).length ≤ 2 := srcs_len _
 refine pu1 <| nT <| seqE <| sR <| pu1 <| nT <| blockE ?_
 refine loopE (γ := Nat × Bool) (fun ⟨k, rd⟩ ρ w => AllAt ρ [(0, .agg (encJob p).toArray), (1, Pt a0 0), (12, .agg (encJob p).toArray), (13, I (chkCode p.v)), (4, I (chkCode p.v)), (14, I (chkCode p.v)), (15, .bool (((chkCode p.v) : Int) != 0)), (5, .slice azs nzs kzs), (17, .slice azs nzs kzs), (18, I ((nzs : Nat) : Int)), (19, Pt a0 1), (20, .slice p.stages.a p.stages.n p.stages.k), (21, I ((p.stages.n : Nat) : Int)), (22, .bool (decide ((((nzs : Nat) : Int) : Int) < ((p.stages.n : Nat) : Int)))), (7, I ((j : Nat) : Int)), (6, I nx), (23, I ((j : Nat) : Int)), (24, Pt a0 1), (25, .slice p.stages.a p.stages.n p.stages.k), (26, I ((p.stages.n : Nat) : Int)), (27, .bool (decide ((((j : Nat) : Int) : Int) < ((p.stages.n : Nat) : Int)))), (28, .bool true), (29, I nx), (30, .bool (decide ((nx : Int) < 0))), (31, .bool (decide ((nx : Int) < 0))), (34, Pt a0 0), (35, .slice p.inputs.a p.inputs.n p.inputs.k), (36, I ((p.inputs.n : Nat) : Int)), (37, I ((j : Nat) : Int)), (38, I (((p.inputs.n : Nat) : Int) + ((j : Nat) : Int))), (8, I (((p.inputs.n : Nat) : Int) + ((j : Nat) : Int))), (39, .slice azs nzs kzs), (40, I (((p.inputs.n : Nat) : Int) + ((j : Nat) : Int))), (41, .bool (decide ((((p.inputs.n : Nat) : Int) + ((j : Nat) : Int)) ∈ zs))), (42, .bool (!decide ((((p.inputs.n : Nat) : Int) + ((j : Nat) : Int)) ∈ zs))), (43, Pt a0 1), (44, .slice p.stages.a p.stages.n p.stages.k), (45, I ((j : Nat) : Int)), (46, .pointer (some ⟨n2, o2, none⟩)), (47, .agg (encStage b0).toArray), (48, .slice l0 f0 m0), (10, .slice l0 f0 m0), (11, I ((k : Nat) : Int)), (9, .bool rd)] ∧ Sat W w (i0 :: czs :: [(a0, .cells (encJob p).toArray 28 (0, 0))] :: H :: F) ∧ k ≤ f0 ∧ (rd = (decide (¬ (((p.inputs.n : Nat) : Int) + ((j : Nat) : Int)) ∈ zs) && ((srcs b0.v).take k).all (fun x => decide (x < ((p.inputs.n : Nat) : Int) ∨ x ∈ zs))))) (fun ⟨k, rd⟩ => f0 - k) (0, (!decide ((((p.inputs.n : Nat) : Int) + ((j : Nat) : Int)) ∈ zs))) ⟨alA, s1, om, by simp⟩ ?_
 skip
 rintro ⟨k, rd⟩ ρ _ ⟨hA, d0, hk, hQ⟩
 refine cAnchor hA (fun ρ => ?_)
 clear hA
 refine seqE <| sR <| pu4 <| nT ?_
 by_cases t1 : (((k : Nat) : Int) : Int) < ((f0 : Nat) : Int)
 rotate_left
 ·refine cF _ (decide_eq_false t1) ?_
  refine exitE (xB <| ?_)
  refine thenK_n <| seqE ?_
  have hrd : rd = (decide (¬ (((p.inputs.n : Nat) : Int) + ((j : Nat) : Int)) ∈ zs) && ordOK ((p.inputs.n : Nat) : Int) zs b0.v) := by rw [hQ, List.take_of_length_le om]; rfl
  refine regionE <| pu1 <| nT ?_
  rcases Classical.em (rd = true) with v0 | v0
  rotate_left
  ·refine cF _ (Bool.eq_false_iff.2 v0) ?_
   refine skipE <| blockK_n <| thenK_n <| regionE <| pu1 ?_
   refine sAdd ((j : Nat) : Int) 1 ?_
   refine pu1 <| nT ?_
   have u1 := ((((d0.pick 3 rfl).pick 3 rfl).pick 3 rfl).dropAt 3 rfl)
   change Sat _ _ (czs :: [(a0, .cells (encJob p).toArray 28 (0, 0))] :: H :: F) at u1
   exact ⟨(j + 1, nx), od, alA, u1, om, .inl ⟨hnx, by rw [hP1, drop_at (map_at (f := Stage.v) c0), ordPick, if_neg (by rw [← hrd]; assumption)]; rfl⟩⟩
  refine cT _ v0 ?_
  refine regionE <| pu2 <| nB <| regionE <| pu1 ?_
  refine sAdd ((j : Nat) : Int) 1 ?_
  refine pu1 <| nT ?_
  have v1 := ((((d0.pick 3 rfl).pick 3 rfl).pick 3 rfl).dropAt 3 rfl)
  change Sat _ _ (czs :: [(a0, .cells (encJob p).toArray 28 (0, 0))] :: H :: F) at v1
  exact ⟨(j + 1, (((p.inputs.n : Nat) : Int) + ((j : Nat) : Int))), od, alA, v1, om, .inr ⟨om, by rw [hP1, drop_at (map_at (f := Stage.v) c0), ordPick, if_pos (by rw [← hrd]; assumption)]⟩⟩
 refine cT _ (decide_eq_true t1) ?_
 refine kT <| seqE <| blockE ?_
 rcases Classical.em (rd = true) with p0 | p0
 rotate_left
 ·refine drawE [16] [] [(true, [0, 1]), (true, [2, 3, 4, 6, 5, 7, 8, 9, 10, 11, 12, 13, 14, 15]), (false, [16]), (true, [17, 18, 19])] rfl kr trivial ?_
  have q2 := d0.drew
  refine wU [0, 1] ?_
  refine wFix 56 _ false (Bool.eq_false_iff.2 p0) ?_
  refine wU [2, 3, 4, 6, 5, 7, 8, 9, 10, 11, 12, 13, 14, 15] ?_
  refine wO rfl ?_
  refine pu1 ?_
  refine nilO ⟨trivial, ?_⟩
  refine wU [17, 18, 19] ?_
  refine wN ?_
  refine blockK_n <| thenK_n <| regionE <| pu1 ?_
  refine sAdd ((k : Nat) : Int) 1 ?_
  refine pu1 <| nT ?_
  have w1 := ((((q2.pick 3 rfl).pick 3 rfl).pick 3 rfl).pick 3 rfl)
  change Sat _ _ (i0 :: czs :: [(a0, .cells (encJob p).toArray 28 (0, 0))] :: H :: F) at w1
  exact ⟨(k + 1, false), od, alA, w1, om, (all_take_false (hQ.symm.trans (by simpa using (by assumption : ¬ rd = true)))).symm⟩
 obtain ⟨e0, j0, k0, w0, n0, x0⟩ := RdT.elem u0 ((k : Nat) : Int)
 rw [Int.toNat_natCast] at w0
 by_cases x1 : (e0 : Int) < ((p.inputs.n : Nat) : Int)
 ·refine drawE [16] [(5, ⟨j0, k0, none⟩, I e0), (7, ⟨a0, 0, none⟩, .slice p.inputs.a p.inputs.n p.inputs.k)] [(true, [0, 1]), (true, [2, 3]), (true, [4]), (true, [6]), (true, [5]), (true, [7]), (true, [8, 9, 10]), (true, [11, 12, 13, 14, 15]), (false, [16]), (true, [17, 18, 19])] rfl kr ⟨.inr ((n0.up 0 rfl).cell d0 (k := 0) rfl), .inr (d0.cell 2 rfl rfl), trivial⟩ ?_
  have y0 := d0.drew
  refine wU [0, 1] ?_
  refine wFix 56 _ true p0 ?_
  refine wU [2, 3] ?_
  refine wSg (.pointer (some ⟨j0, k0, none⟩)) rfl rfl rfl ⟨_, rfl, rfl, kr⟩ (fun w _ => Y_idx (a := l0) (i := ((k : Nat) : Int)) (len := f0) (cap := m0) rfl Try.runUnderlying22 Try.sizeOf3 kr kr x0) ?_
  refine wU [6] ?_
  refine wSg (I e0) rfl rfl rfl ⟨_, rfl, rfl, kr⟩ (fun w hF => Y_load rfl (Try.isAgg3 w) kr (hF 0 _ _ rfl)) ?_
  refine wSg (.slice p.inputs.a p.inputs.n p.inputs.k) rfl rfl rfl ⟨_, rfl, rfl, kr⟩ (fun w hF => Y_load rfl (Try.isAgg25 w) kr (hF 1 _ _ rfl)) ?_
  refine wU [8, 9, 10] ?_
  refine wFix 65 _ true (decide_eq_true x1) ?_
  refine wU [11, 12, 13, 14, 15] ?_
  refine wO rfl ?_
  refine pu1 ?_
  refine nilO ⟨⟨.inr ((n0.up 0 rfl).cell y0 (k := 0) rfl), .inr (y0.cell 2 rfl rfl), trivial⟩, ?_⟩
  refine wU [17, 18, 19] ?_
  refine wN ?_
  refine blockK_n <| thenK_n <| regionE <| pu1 ?_
  refine sAdd ((k : Nat) : Int) 1 ?_
  refine pu1 <| nT ?_
  have y1 := ((((y0.pick 3 rfl).pick 3 rfl).pick 3 rfl).pick 3 rfl)
  change Sat _ _ (i0 :: czs :: [(a0, .cells (encJob p).toArray 28 (0, 0))] :: H :: F) at y1
  exact ⟨(k + 1, true), od, alA, y1, om, by rw [all_take_succ w0, ← Bool.and_assoc, ← hQ, (by assumption : rd = true), Bool.true_and]; exact (decide_eq_true (.inl ‹_›)).symm⟩
 refine drawE [16] [(5, ⟨j0, k0, none⟩, I e0), (7, ⟨a0, 0, none⟩, .slice p.inputs.a p.inputs.n p.inputs.k), (15, ⟨j0, k0, none⟩, I e0)] [(true, [0, 1]), (true, [2, 3]), (true, [4]), (true, [6]), (true, [5]), (true, [7]), (true, [8, 9, 10]), (true, [11, 12, 13]), (true, [14]), (true, [15]), (false, [16]), (true, [17, 18, 19])] rfl kr ⟨.inr ((n0.up 0 rfl).cell d0 (k := 0) rfl), .inr (d0.cell 2 rfl rfl), .inr ((n0.up 0 rfl).cell d0 (k := 0) rfl), trivial⟩ ?_
 have r2 := d0.drew
 refine wU [0, 1] ?_
 refine wFix 56 _ true p0 ?_
 refine wU [2, 3] ?_
 refine wSg (.pointer (some ⟨j0, k0, none⟩)) rfl rfl rfl ⟨_, rfl, rfl, kr⟩ (fun w _ => Y_idx (a := l0) (i := ((k : Nat) : Int)) (len := f0) (cap := m0) rfl Try.runUnderlying22 Try.sizeOf3 kr kr x0) ?_
 refine wU [6] ?_
 refine wSg (I e0) rfl rfl rfl ⟨_, rfl, rfl, kr⟩ (fun w hF => Y_load rfl (Try.isAgg3 w) kr (hF 0 _ _ rfl)) ?_
 refine wSg (.slice p.inputs.a p.inputs.n p.inputs.k) rfl rfl rfl ⟨_, rfl, rfl, kr⟩ (fun w hF => Y_load rfl (Try.isAgg25 w) kr (hF 1 _ _ rfl)) ?_
 refine wU [8, 9, 10] ?_
 refine wFix 65 _ false (decide_eq_false x1) ?_
 refine wU [11, 12, 13] ?_
 refine wSg (.pointer (some ⟨j0, k0, none⟩)) rfl rfl rfl ⟨_, rfl, rfl, kr⟩ (fun w _ => Y_idx (a := l0) (i := ((k : Nat) : Int)) (len := f0) (cap := m0) rfl Try.runUnderlying22 Try.sizeOf3 kr kr x0) ?_
 refine wSg (I e0) rfl rfl rfl ⟨_, rfl, rfl, kr⟩ (fun w hF => Y_load rfl (Try.isAgg3 w) kr (hF 2 _ _ rfl)) ?_
 refine wO rfl ?_
 refine gY ?_
 refine sF #[.slice azs nzs kzs, I e0] Try.call68 (Calls.mono (r17_has W _ _ [] azs nzs kzs zs e0 (RdT.flat (hOzs.rdAt 1 (by rfl))) (Sat.flat r2)) ?_)
 rintro _ _ ⟨rfl, z1⟩
 refine ⟨_, rfl, ?_⟩
 have q0 := Sat.unflat z1; clear z1
 change Sat _ _ (i0 :: czs :: [(a0, .cells (encJob p).toArray 28 (0, 0))] :: H :: F) at q0
 refine nilO ⟨⟨.inr ((n0.up 0 rfl).cell q0 (k := 0) rfl), .inr (q0.cell 2 rfl rfl), dI, trivial⟩, ?_⟩
 refine wU [17, 18, 19] ?_
 refine wN ?_
 refine blockK_n <| thenK_n <| regionE <| pu1 ?_
 refine sAdd ((k : Nat) : Int) 1 ?_
 refine pu1 <| nT ?_
 have a2 := ((((q0.pick 3 rfl).pick 3 rfl).pick 3 rfl).pick 3 rfl)
 change Sat _ _ (i0 :: czs :: [(a0, .cells (encJob p).toArray 28 (0, 0))] :: H :: F) at a2
 exact ⟨(k + 1, decide (e0 ∈ zs)), od, alA, a2, om, by rw [all_take_succ w0, ← Bool.and_assoc, ← hQ, (by assumption : rd = true), Bool.true_and]; exact decide_eq_decide.2 ⟨fun h => .inr h, fun h => h.resolve_left ‹_›⟩⟩

def shpOf (p : PlaneV) : Shape := ⟨p.w, p.h, p.max_⟩
def shpAt (l : List Shape) (i : Int) : Shape := l[i.toNat]?.getD ⟨0, 0, 0⟩
def stgAt (ss : List StageV) (ni n : Int) : StageV := ss[(n - ni).toNat]?.getD ⟨0, 0, 0, false, 0, 0, 0, 0, [], [], [], 0, 0, [], [], 0, [], 0⟩
def shpStep (ni : Int) (ss : List StageV) (n : Int) (out : List Shape) : Shape × Int :=
  ofV (stgAt ss ni n) (shpAt out (stgAt ss ni n).a) (if twoP (stgAt ss ni n) then shpAt out (stgAt ss ni n).b else ⟨0, 0, 0⟩)
def shpGo (ni : Int) (ss : List StageV) : List Int → List Shape → List Shape × Int × Int
  | [], out => (out, 0, 0)
  | n :: l, out => if (shpStep ni ss n out).2 = 0 then shpGo ni ss l (out.set n.toNat (shpStep ni ss n out).1) else ([], n, (shpStep ni ss n out).2)
def shpV (j : JobV) : List Shape × Int × Int :=
  if (ordV j).2 = 0 then (if j.inputs.all planeOK = true then shpGo j.inputs.length j.stages (ordV j).1 (j.inputs.map shpOf ++ List.replicate j.stages.length ⟨0, 0, 0⟩) else ([], (j.inputs.takeWhile planeOK).length, 1)) else ([], 0, (ordV j).2)
theorem takeWhile_at {α : Type} {p : α → Bool} : ∀ {l : List α} {i : Nat} {x : α}, (l.take i).all p = true → l[i]? = some x → p x = false → (l.takeWhile p).length = i
  | [], i, x, _, h, _ => by simp at h
  | y :: l, 0, x, _, h, e => by simp at h; subst h; simp [e]
  | y :: l, i + 1, x, h0, h, e => by
    simp only [List.take_succ_cons, List.all_cons, Bool.and_eq_true] at h0
    rw [List.takeWhile_cons, if_pos h0.1]
    simp only [List.length_cons]
    rw [takeWhile_at h0.2 (by simpa using h) e]
theorem chk_src {j : JobV} (h : chkCode j = 0) {s : StageV} (hs : s ∈ j.stages) : (0 ≤ s.a ∧ s.a < j.inputs.length + j.stages.length) ∧ (twoP s → 0 ≤ s.b ∧ s.b < j.inputs.length + j.stages.length) := by
  unfold chkCode at h
  split at h
  · split at h
    · split at h
      · rename_i hall
        have h1 := List.all_eq_true.1 hall s hs
        have h2 := fun x hx => of_decide_eq_true (List.all_eq_true.1 h1 x hx)
        constructor
        · exact h2 s.a (by unfold srcs; split <;> simp)
        · intro ht; exact h2 s.b (by unfold srcs; rw [if_pos ht]; simp)
      · omega
    · omega
  · omega
theorem r17_of (W w : World) (H : Chunk) (F : List Chunk) (p : Plane) (hp : Plane.Ok [H] p) (hS : Sat W w (H :: F)) :
  Calls Try.prog 40 #[.agg (encPlane p).toArray] w fun e w' => e = .returned (.agg #[I p.w, I p.h, I p.max_]) ∧ Sat W w' (H :: F) := by
 have hl_p_pix := hp.pix.le; have hn_p_pix := hp.pix.len
 refine callsE (n := 10) Try.func40 rfl rfl (Nat.le_of_ble_eq_true rfl) ?_
 refine sR ?_
 refine sBox hS (.agg (encPlane p).toArray) (encPlane p).toArray ?_
 intro _ _ d0
 refine sAlloc d0 Try.zeroValue55 ?_
 intro _ _ a0
 refine nT <| sR <| pu1 ?_
 refine sL a0 1 0 (I p.w) (Try.isAgg3 _) ?_
 refine pu1 ?_
 refine sL a0 1 1 (I p.h) (Try.isAgg3 _) ?_
 refine pu1 ?_
 refine sL a0 1 2 (I p.max_) (Try.isAgg3 _) ?_
 refine pu1 ?_
 refine sTw a0 0 [I p.w, I p.h, I p.max_] Try.sizeOf55 ?_
 intro _ b0
 try dsimp only [List.set, List.eraseIdx, Value.cells] at b0
 refine nT <| retE <| retN (vs := [.agg #[I p.w, I p.h, I p.max_]]) rfl (.cons (.cell _ _ _ _ kr (lvA b0 0 0 [I p.w, I p.h, I p.max_] (Try.isAgg55 _) (Try.sizeOf55 _) rfl rfl rfl)) .nil) ?_
 have c0 := (((b0.pick 2 rfl).dropAt 1 rfl).dropAt 1 rfl)
 change Sat _ _ (H :: F) at c0
 exact ⟨rfl, c0⟩
theorem r17_shapes (W w : World) (H : Chunk) (F : List Chunk) (p : Job) (hp : Job.Ok [H] p) (hb : p.inputs.n ≤ 1000000 ∧ p.stages.n ≤ 1000000 ∧ p.outputs.n ≤ 1000000) (hS : Sat W w (H :: F)) :
  Calls Try.prog 41 #[.agg (encJob p).toArray] w fun e w' => ∃ (az : Option Addr) (nz kz : Nat) (G : Chunk), e = .returned (.tuple #[.slice az nz kz, I ((shpV p.v).2.1), I ((shpV p.v).2.2)]) ∧ RdT encShape 3 [G] az nz kz ((shpV p.v).1) ∧ Sat W w' (G :: H :: F) := by
 have hl_p_inputs := hp.inputs.le; have hn_p_inputs := hp.inputs.len
 have hl_p_stages := hp.stages.le; have hn_p_stages := hp.stages.len
 have hl_p_outputs := hp.outputs.le; have hn_p_outputs := hp.outputs.len
 have hmi : (p.inputs.l.map Plane.v).length = p.inputs.n := by simp [hn_p_inputs]
 have hms : (p.stages.l.map Stage.v).length = p.stages.n := by simp [hn_p_stages]
 refine callsE (n := 106) Try.func41 rfl rfl (Nat.le_of_ble_eq_true rfl) ?_
 refine sR ?_
 refine sBox hS (.agg (encJob p).toArray) (encJob p).toArray ?_
 intro n0 _ p2
 refine pu3 <| nT <| sR ?_
 refine sLA p2 0 0 [.slice p.inputs.a p.inputs.n p.inputs.k, .slice p.stages.a p.stages.n p.stages.k, .slice p.outputs.a p.outputs.n p.outputs.k, I p.priority] (Try.isAgg28 _) (Try.sizeOf28 _) ?_
 refine sF #[.agg (encJob p).toArray] Try.call58 (Calls.mono (r17_order W _ _ [] p ⟨(RdT.flat (hp.inputs.up 1 (by rfl))), (fun z hz => (hp.inputsD z hz).of_mem (mem_flat1 1 (by rfl))), (RdT.flat (hp.stages.up 1 (by rfl))), (fun z hz => (hp.stagesD z hz).of_mem (mem_flat1 1 (by rfl))), (RdT.flat (hp.outputs.up 1 (by rfl)))⟩ (od) (Sat.flat p2)) ?_)
 rintro _ _ ⟨u0, q0, v0, w0, rfl, x0, q2⟩
 refine ⟨_, rfl, ?_⟩
 have h1 := Sat.unflat1 q2; clear q2
 have hn_az_7 := x0.len; have hl_az_7 := x0.le
 change Sat _ _ (w0 :: [(n0, .cells (encJob p).toArray 28 (0, 0))] :: H :: F) at h1
 refine pu5 <| nT <| seqE <| sR <| pu2 <| nT ?_
 by_cases r2 : ((ordV p.v).2 : Int) = 0
 rotate_left
 ·refine cT _ (bne_iff_ne.2 r2) ?_
  refine sR <| pu4 <| nT ?_
  refine retE (thenK_r <| ?_)
  refine retT [.slice none 0 0, I 0, I ((ordV p.v).2)] ?_
  have hk : shpV p.v = ([], 0, (ordV p.v).2) := by unfold shpV; rw [if_neg ‹_›]
  have s2 := (((h1.pick 2 rfl).dropAt 1 rfl).dropAt 1 rfl)
  change Sat _ _ (H :: F) at s2
  have y4 : Sat W _ ([] :: H :: F) := Sat.nilc s2
  have hl : ([] : List Shape) = (shpV p.v).1 := (by rw [hk])
  have hrd := RdT.nil (enc := encShape) (sz := 3) fR [[]]
  rw [hl] at hrd
  exact ⟨_, _, _, _, (by rw [hk]; rfl), hrd, y4⟩
 refine cF _ (bne_eq_false_iff_eq.2 r2) ?_
 refine kT <| sR <| pu1 ?_
 refine sL h1 1 0 (.slice p.inputs.a p.inputs.n p.inputs.k) (Try.isAgg25 _) ?_
 refine pu2 ?_
 refine sL h1 1 1 (.slice p.stages.a p.stages.n p.stages.k) (Try.isAgg26 _) ?_
 refine pu1 ?_
 refine sAdd ((p.inputs.n : Nat) : Int) ((p.stages.n : Nat) : Int) ?_
 refine sMake (kl := .i64) (kc := .i64) (enc := encShape) (sz := 3) (nb := 24) h1 ⟨0, 0, 0⟩ ((((p.inputs.n : Nat) : Int) + ((p.stages.n : Nat) : Int))).toNat (((p.inputs.n : Nat) : Int) + ((p.stages.n : Nat) : Int)) (om : (((p.inputs.n : Nat) : Int) + ((p.stages.n : Nat) : Int)) = ((((((p.inputs.n : Nat) : Int) + ((p.stages.n : Nat) : Int))).toNat : Nat) : Int)) Try.underlying52 (i := Try.t55) kr fR ?_
 intro q1 r1 _ z4 s1
 change Sat _ _ (r1 :: w0 :: [(n0, .cells (encJob p).toArray 28 (0, 0))] :: H :: F) at s1
 refine pu1 <| nT <| seqE <| sR <| pu1 <| nT <| blockE ?_
 change Sat _ _ (r1 :: w0 :: [(n0, .cells (encJob p).toArray 28 (0, 0))] :: H :: F) at s1
 refine loopE (γ := Nat × (List Shape) × (Option Addr) × Nat × Nat × Chunk) (fun ⟨i, zs, azs, nzs, kzs, czs⟩ ρ w => AllAt ρ [(0, .agg (encJob p).toArray), (1, Pt n0 0), (15, .agg (encJob p).toArray), (16, .tuple #[.slice u0 q0 v0, I ((ordV p.v).2)]), (14, .tuple #[.slice u0 q0 v0, I ((ordV p.v).2)]), (17, .slice u0 q0 v0), (18, I ((ordV p.v).2)), (5, .slice u0 q0 v0), (6, I ((ordV p.v).2)), (19, I ((ordV p.v).2)), (20, .bool (((ordV p.v).2 : Int) != 0)), (22, Pt n0 0), (23, .slice p.inputs.a p.inputs.n p.inputs.k), (24, I ((p.inputs.n : Nat) : Int)), (25, Pt n0 1), (26, .slice p.stages.a p.stages.n p.stages.k), (27, I ((p.stages.n : Nat) : Int)), (28, I (((p.inputs.n : Nat) : Int) + ((p.stages.n : Nat) : Int))), (29, .slice (At q1 0) (((((p.inputs.n : Nat) : Int) + ((p.stages.n : Nat) : Int))).toNat) (((((p.inputs.n : Nat) : Int) + ((p.stages.n : Nat) : Int))).toNat)), (8, I ((i : Nat) : Int)), (7, .slice azs nzs kzs)] ∧ Sat W w (czs :: w0 :: [(n0, .cells (encJob p).toArray 28 (0, 0))] :: H :: F) ∧ i ≤ p.inputs.n ∧ (zs = ((p.inputs.l.map Plane.v).take i).map shpOf ++ List.replicate (p.inputs.n + p.stages.n - i) ⟨0, 0, 0⟩) ∧ (((p.inputs.l.map Plane.v).take i).all planeOK = true) ∧ (zs.length = p.inputs.n + p.stages.n) ∧ OwnT encShape 55 3 azs nzs kzs zs czs) (fun ⟨i, zs, azs, nzs, kzs, czs⟩ => p.inputs.n - i) (0, (List.replicate ((((p.inputs.n : Nat) : Int) + ((p.stages.n : Nat) : Int))).toNat ⟨0, 0, 0⟩), (At q1 0), ((((p.inputs.n : Nat) : Int) + ((p.stages.n : Nat) : Int))).toNat, ((((p.inputs.n : Nat) : Int) + ((p.stages.n : Nat) : Int))).toNat, r1) ⟨alA, s1, om, by simp; omega, by rfl, by simp; omega, z4⟩ ?_
 skip
 rintro ⟨i, zs, azs, nzs, kzs, czs⟩ ρ _ ⟨hA, d1, hi, hZ, hV, hzl, hOzs⟩
 refine cAnchor hA (fun ρ => ?_)
 clear hA
 have hn_zs := hOzs.len; have hl_zs := hOzs.le
 refine seqE <| sR <| pu2 ?_
 refine sL d1 2 0 (.slice p.inputs.a p.inputs.n p.inputs.k) (Try.isAgg25 _) ?_
 refine pu2 <| nT ?_
 by_cases t2 : (((i : Nat) : Int) : Int) < ((p.inputs.n : Nat) : Int)
 ·refine cT _ (decide_eq_true t2) ?_
  refine kT <| seqE <| blockE <| seqE <| sR <| pu1 ?_
  refine sL d1 2 0 (.slice p.inputs.a p.inputs.n p.inputs.k) (Try.isAgg25 _) ?_
  refine pu1 ?_
  refine sIdx hp.inputs ((i : Nat) : Int) Try.runUnderlying25 Try.sizeOf49 ?_
  intro m0 _ _ c1 a5
  rw [Int.toNat_natCast] at c1
  refine sLpA d1 (a5.up 3 rfl) 0 (encPlane m0) (Try.isAgg49 _) (Try.sizeOf49 _) ?_
  refine sF #[.agg (encPlane m0).toArray] Try.call59 (Calls.mono (r4_valid W _ _ [] m0 ⟨(RdT.flat ((hp.inputsD m0 (List.mem_of_getElem? c1)).pix.up 3 (by rfl)))⟩ (Sat.flat d1)) ?_)
  rintro _ _ ⟨rfl, u2⟩
  refine ⟨_, rfl, ?_⟩
  have i1 := Sat.unflat u2; clear u2
  change Sat _ _ (czs :: w0 :: [(n0, .cells (encJob p).toArray 28 (0, 0))] :: H :: F) at i1
  refine pu1 <| nT ?_
  rcases Classical.em ((planeOK m0.v) = true) with t1 | t1
  rotate_left
  ·refine cT _ (congrArg Bool.not (Bool.eq_false_iff.2 t1)) ?_
   refine sR <| pu4 <| nT ?_
   refine retE (tR <| thenK_r <| tR <| thenK_r <| ?_)
   refine retT [.slice none 0 0, I ((i : Nat) : Int), I 1] ?_
   have hbad : (p.inputs.l.map Plane.v).all planeOK = false := all_false_at (map_at (f := Plane.v) c1) (by simpa using (by assumption : ¬ planeOK m0.v = true))
   have htw : ((p.inputs.l.map Plane.v).takeWhile planeOK).length = i := takeWhile_at hV (map_at (f := Plane.v) c1) (by simpa using (by assumption : ¬ planeOK m0.v = true))
   have hk : shpV p.v = ([], ((i : Nat) : Int), 1) := by unfold shpV; rw [if_pos ‹_›, if_neg (by exact fun h => Bool.false_ne_true (hbad.symm.trans h))]; exact congrArg (fun n : Nat => (([] : List Shape), (n : Int), (1 : Int))) htw
   have v2 := ((((i1.pick 3 rfl).dropAt 1 rfl).dropAt 1 rfl).dropAt 1 rfl)
   change Sat _ _ (H :: F) at v2
   have b5 : Sat W _ ([] :: H :: F) := Sat.nilc v2
   have hl : ([] : List Shape) = (shpV p.v).1 := (by rw [hk])
   have hrd := RdT.nil (enc := encShape) (sz := 3) fR [[]]
   rw [hl] at hrd
   exact ⟨_, _, _, _, (by rw [hk]; rfl), hrd, b5⟩
  refine cF _ (congrArg Bool.not t1) ?_
  refine kT <| regionE <| pu3 ?_
  refine sL i1 2 0 (.slice p.inputs.a p.inputs.n p.inputs.k) (Try.isAgg25 _) ?_
  refine pu1 ?_
  refine sIdx hp.inputs ((i : Nat) : Int) Try.runUnderlying25 Try.sizeOf49 ?_
  intro c5 _ _ u1 d5
  rw [Int.toNat_natCast] at u1
  obtain rfl : m0 = c5 := Option.some.inj (c1.symm.trans u1)
  refine sLpA i1 (d5.up 3 rfl) 0 (encPlane m0) (Try.isAgg49 _) (Try.sizeOf49 _) ?_
  refine sF #[.agg (encPlane m0).toArray] Try.call40 (Calls.mono (r17_of W _ _ [] m0 ⟨(RdT.flat ((hp.inputsD m0 (List.mem_of_getElem? u1)).pix.up 3 (by rfl)))⟩ (Sat.flat i1)) ?_)
  rintro _ _ ⟨rfl, w2⟩
  refine ⟨_, rfl, ?_⟩
  have x2 := Sat.unflat w2; clear w2
  change Sat _ _ (czs :: w0 :: [(n0, .cells (encJob p).toArray 28 (0, 0))] :: H :: F) at x2
  refine sIdxO hOzs ((i : Nat) : Int) i Try.runUnderlying52 Try.sizeOf55 ?_
  intro e5 _ _ f5 _ g5
  refine sStF x2 hOzs g5 0 i 0 e5 (⟨m0.w, m0.h, m0.max_⟩ : Shape) f5 (.agg #[I m0.w, I m0.h, I m0.max_]) [I m0.w, I m0.h, I m0.max_] Try.sizeOf55 ?_
  intro _ v1 h5 y2
  change Sat _ _ (v1 :: w0 :: [(n0, .cells (encJob p).toArray 28 (0, 0))] :: H :: F) at y2
  refine nB <| regionE <| pu1 ?_
  refine sAdd ((i : Nat) : Int) 1 ?_
  refine pu1 <| nT ?_
  have z2 := ((((y2.pick 3 rfl).pick 3 rfl).pick 3 rfl).pick 3 rfl)
  change Sat _ _ (v1 :: w0 :: [(n0, .cells (encJob p).toArray 28 (0, 0))] :: H :: F) at z2
  exact ⟨(i + 1, (zs.set i (⟨m0.w, m0.h, m0.max_⟩ : Shape)), azs, nzs, kzs, v1), od, alA, z2, om, by rw [hZ]; exact set_rep (f := shpOf) (map_at (f := Plane.v) c1) om, all_succ hV (map_at (f := Plane.v) c1) ‹_›, by simp; omega, h5⟩
 refine cF _ (decide_eq_false t2) ?_
 refine exitE (xB <| ?_)
 refine thenK_n <| seqE <| seqE ?_
 have hall : (p.inputs.l.map Plane.v).all planeOK = true := all_of_take hV (by simp; omega)
 have hzs : zs = (p.inputs.l.map Plane.v).map shpOf ++ List.replicate p.stages.n ⟨0, 0, 0⟩ := by rw [hZ, List.take_of_length_le (by simp; omega)]; congr 2; omega
 have hordr := ordV_range (j := p.v) om; have hchk := ordV_chk (j := p.v) om
 refine regionE <| pu1 <| nT <| blockE ?_
 change Sat _ _ (czs :: w0 :: [(n0, .cells (encJob p).toArray 28 (0, 0))] :: H :: F) at d1
 refine loopE (γ := Nat × (List Shape) × (Option Addr) × Nat × Nat × Chunk) (fun ⟨i, ys, ays, nys, kys, cys⟩ ρ w => AllAt ρ [(0, .agg (encJob p).toArray), (1, Pt n0 0), (15, .agg (encJob p).toArray), (16, .tuple #[.slice u0 q0 v0, I ((ordV p.v).2)]), (14, .tuple #[.slice u0 q0 v0, I ((ordV p.v).2)]), (17, .slice u0 q0 v0), (18, I ((ordV p.v).2)), (5, .slice u0 q0 v0), (6, I ((ordV p.v).2)), (19, I ((ordV p.v).2)), (20, .bool (((ordV p.v).2 : Int) != 0)), (22, Pt n0 0), (23, .slice p.inputs.a p.inputs.n p.inputs.k), (24, I ((p.inputs.n : Nat) : Int)), (25, Pt n0 1), (26, .slice p.stages.a p.stages.n p.stages.k), (27, I ((p.stages.n : Nat) : Int)), (28, I (((p.inputs.n : Nat) : Int) + ((p.stages.n : Nat) : Int))), (29, .slice (At q1 0) (((((p.inputs.n : Nat) : Int) + ((p.stages.n : Nat) : Int))).toNat) (((((p.inputs.n : Nat) : Int) + ((p.stages.n : Nat) : Int))).toNat)), (31, Pt n0 0), (32, .slice p.inputs.a p.inputs.n p.inputs.k), (33, I ((p.inputs.n : Nat) : Int)), (9, I ((i : Nat) : Int)), (7, .slice ays nys kys)] ∧ Sat W w (cys :: w0 :: [(n0, .cells (encJob p).toArray 28 (0, 0))] :: H :: F) ∧ i ≤ q0 ∧ (shpGo ((p.inputs.n : Nat) : Int) (p.stages.l.map Stage.v) ((ordV p.v).1) zs = shpGo ((p.inputs.n : Nat) : Int) (p.stages.l.map Stage.v) (((ordV p.v).1).drop i) ys) ∧ (ys.length = p.inputs.n + p.stages.n) ∧ OwnT encShape 55 3 ays nys kys ys cys) (fun ⟨i, ys, ays, nys, kys, cys⟩ => q0 - i) (0, zs, azs, nzs, kzs, czs) ⟨alA, d1, om, by rfl, by rw [hzs]; simp; omega, hOzs⟩ ?_
 skip
 rintro ⟨i, ys, ays, nys, kys, cys⟩ ρ _ ⟨hA, o0, hi, hS2, hyl, hOys⟩
 refine cAnchor hA (fun ρ => ?_)
 clear hA
 have hn_ys := hOys.len; have hl_ys := hOys.le
 refine seqE <| sR <| pu4 <| nT ?_
 by_cases a3 : (((i : Nat) : Int) : Int) < ((q0 : Nat) : Int)
 rotate_left
 ·refine cF _ (decide_eq_false a3) ?_
  refine exitE (xB <| ?_)
  refine thenK_n <| sR <| pu4 <| nT <| retE <| retT [.slice ays nys kys, I 0, I 0] ?_
  have hk0 : shpV p.v = shpGo ((p.inputs.n : Nat) : Int) (p.stages.l.map Stage.v) ((ordV p.v).1) zs := by unfold shpV; rw [if_pos ‹_›, if_pos (by exact hall)]; rw [hzs, ← hms, ← hmi]; rfl
  have hk : shpV p.v = (ys, 0, 0) := by rw [hk0, hS2, List.drop_of_length_le om]; rfl
  have b3 := ((((o0.pick 3 rfl).pick 1 rfl).dropAt 2 rfl).dropAt 2 rfl)
  change Sat _ _ (cys :: H :: F) at b3
  have hl : ys = (shpV p.v).1 := (by rw [hk])
  have hrd := (hOys.rdAt (cs := [cys]) 0 rfl)
  rw [hl] at hrd
  exact ⟨_, _, _, _, (by rw [hk]; rfl), hrd, b3⟩
 refine cT _ (decide_eq_true a3) ?_
 refine kT <| seqE <| blockE <| seqE ?_
 obtain ⟨b0, c3, d3, t0, e3, i5⟩ := RdT.elem x0 ((i : Nat) : Int)
 rw [Int.toNat_natCast] at t0
 have hox_x_54 : ((p.inputs.n : Nat) : Int) ≤ b0 ∧ b0 < ((p.inputs.n : Nat) : Int) + ((p.stages.n : Nat) : Int) := by have h := hordr b0 (List.mem_of_getElem? t0); simp only [Job.v] at h; omega
 obtain ⟨a0, r0, s0, f0, h0, j5⟩ := RdT.elem hp.stages (b0 - ((p.inputs.n : Nat) : Int))
 obtain ⟨hsa, hsb⟩ := chk_src hchk (s := a0.v) (List.mem_map_of_mem (List.mem_of_getElem? f0))
 have hsa2 : 0 ≤ a0.a ∧ a0.a < ((p.inputs.n : Nat) : Int) + ((p.stages.n : Nat) : Int) := by simp only [Job.v, Stage.v] at hsa; omega
 have hsb2 : (a0.kind = 6 ∧ ¬ a0.b = -1) → 0 ≤ a0.b ∧ a0.b < ((p.inputs.n : Nat) : Int) + ((p.stages.n : Nat) : Int) := by intro h; have h2 := hsb (by unfold twoP; simp only [Stage.v]; exact h); simp only [Job.v, Stage.v] at h2; omega
 refine drawE [12, 13] [(1, ⟨n0, 1, none⟩, .slice p.stages.a p.stages.n p.stages.k), (5, ⟨c3, d3, none⟩, I b0), (7, ⟨n0, 0, none⟩, .slice p.inputs.a p.inputs.n p.inputs.k), (11, ⟨r0, s0 + 0, none⟩, I a0.kind), (11, ⟨r0, s0 + 1, none⟩, I a0.a), (11, ⟨r0, s0 + 2, none⟩, I a0.b), (11, ⟨r0, s0 + 3, none⟩, .bool a0.barrier), (11, ⟨r0, s0 + 4, none⟩, I a0.edgePolicy), (11, ⟨r0, s0 + 5, none⟩, I a0.edgeFill), (11, ⟨r0, s0 + 6, none⟩, I a0.kW), (11, ⟨r0, s0 + 7, none⟩, I a0.kH), (11, ⟨r0, s0 + 8, none⟩, .slice a0.weights.a a0.weights.n a0.weights.k), (11, ⟨r0, s0 + 9, none⟩, .slice a0.row.a a0.row.n a0.row.k), (11, ⟨r0, s0 + 10, none⟩, .slice a0.col.a a0.col.n a0.col.k), (11, ⟨r0, s0 + 11, none⟩, I a0.shift), (11, ⟨r0, s0 + 12, none⟩, I a0.shift2), (11, ⟨r0, s0 + 13, none⟩, .slice a0.x.a a0.x.n a0.x.k), (11, ⟨r0, s0 + 14, none⟩, .slice a0.y.a a0.y.n a0.y.k), (11, ⟨r0, s0 + 15, none⟩, I a0.bins), (11, ⟨r0, s0 + 16, none⟩, .slice a0.ops.a a0.ops.n a0.ops.k), (11, ⟨r0, s0 + 17, none⟩, I a0.max_)] [(true, [0, 2, 3]), (true, [4]), (true, [6]), (true, [1]), (true, [5]), (true, [7]), (true, [8]), (true, [9]), (true, [10]), (true, [11]), (false, [12]), (false, [13])] rfl kr ⟨.inr (o0.cell 2 rfl rfl), .inr ((e3.up 1 rfl).cell o0 (k := 0) rfl), .inr (o0.cell 2 rfl rfl), .inr ((h0.up 3 rfl).cell o0 (k := 0) rfl), .inr ((h0.up 3 rfl).cell o0 (k := 1) rfl), .inr ((h0.up 3 rfl).cell o0 (k := 2) rfl), .inr ((h0.up 3 rfl).cell o0 (k := 3) rfl), .inr ((h0.up 3 rfl).cell o0 (k := 4) rfl), .inr ((h0.up 3 rfl).cell o0 (k := 5) rfl), .inr ((h0.up 3 rfl).cell o0 (k := 6) rfl), .inr ((h0.up 3 rfl).cell o0 (k := 7) rfl), .inr ((h0.up 3 rfl).cell o0 (k := 8) rfl), .inr ((h0.up 3 rfl).cell o0 (k := 9) rfl), .inr ((h0.up 3 rfl).cell o0 (k := 10) rfl), .inr ((h0.up 3 rfl).cell o0 (k := 11) rfl), .inr ((h0.up 3 rfl).cell o0 (k := 12) rfl), .inr ((h0.up 3 rfl).cell o0 (k := 13) rfl), .inr ((h0.up 3 rfl).cell o0 (k := 14) rfl), .inr ((h0.up 3 rfl).cell o0 (k := 15) rfl), .inr ((h0.up 3 rfl).cell o0 (k := 16) rfl), .inr ((h0.up 3 rfl).cell o0 (k := 17) rfl), trivial⟩ ?_
 have k5 := o0.drew
 refine wU [0, 2, 3] ?_
 refine wS (.pointer (some ⟨c3, d3, none⟩)) rfl rfl rfl (fun w _ => Y_idx (a := u0) (i := ((i : Nat) : Int)) (len := q0) (cap := v0) rfl Try.runUnderlying22 Try.sizeOf3 kr kr i5) ?_
 refine wU [6] ?_
 refine wS (.slice p.stages.a p.stages.n p.stages.k) rfl rfl rfl (fun w hF => Y_load rfl (Try.isAgg26 w) kr (hF 0 _ _ rfl)) ?_
 refine wS (I b0) rfl rfl rfl (fun w hF => Y_load rfl (Try.isAgg3 w) kr (hF 1 _ _ rfl)) ?_
 refine wS (.slice p.inputs.a p.inputs.n p.inputs.k) rfl rfl rfl (fun w hF => Y_load rfl (Try.isAgg25 w) kr (hF 2 _ _ rfl)) ?_
 refine wU [8] ?_
 refine wS (I (b0 - ((p.inputs.n : Nat) : Int))) rfl rfl rfl (fun w _ => Y_sub (a := b0) (b := ((p.inputs.n : Nat) : Int)) rfl kr kr om) ?_
 refine wS (.pointer (some ⟨r0, s0, none⟩)) rfl rfl rfl (fun w _ => Y_idx (a := p.stages.a) (i := (b0 - ((p.inputs.n : Nat) : Int))) (len := p.stages.n) (cap := p.stages.k) rfl Try.runUnderlying26 Try.sizeOf61 kr kr j5) ?_
 refine wS (.agg (encStage a0).toArray) rfl rfl rfl (fun w hF => Y_loadF rfl (Try.isAgg61 w) (Try.sizeOf61 w) kr rfl ⟨hF 3 _ _ rfl, hF 4 _ _ rfl, hF 5 _ _ rfl, hF 6 _ _ rfl, hF 7 _ _ rfl, hF 8 _ _ rfl, hF 9 _ _ rfl, hF 10 _ _ rfl, hF 11 _ _ rfl, hF 12 _ _ rfl, hF 13 _ _ rfl, hF 14 _ _ rfl, hF 15 _ _ rfl, hF 16 _ _ rfl, hF 17 _ _ rfl, hF 18 _ _ rfl, hF 19 _ _ rfl, hF 20 _ _ rfl, trivial⟩) ?_
 refine wO rfl ?_
 refine sAlloc k5 Try.zeroValue61 ?_
 intro g0 _ p0
 refine nilO ⟨⟨.inr (p0.cell 3 rfl rfl), .inr ((e3.up 2 rfl).cell p0 (k := 0) rfl), .inr (p0.cell 3 rfl rfl), .inr ((h0.up 4 rfl).cell p0 (k := 0) rfl), .inr ((h0.up 4 rfl).cell p0 (k := 1) rfl), .inr ((h0.up 4 rfl).cell p0 (k := 2) rfl), .inr ((h0.up 4 rfl).cell p0 (k := 3) rfl), .inr ((h0.up 4 rfl).cell p0 (k := 4) rfl), .inr ((h0.up 4 rfl).cell p0 (k := 5) rfl), .inr ((h0.up 4 rfl).cell p0 (k := 6) rfl), .inr ((h0.up 4 rfl).cell p0 (k := 7) rfl), .inr ((h0.up 4 rfl).cell p0 (k := 8) rfl), .inr ((h0.up 4 rfl).cell p0 (k := 9) rfl), .inr ((h0.up 4 rfl).cell p0 (k := 10) rfl), .inr ((h0.up 4 rfl).cell p0 (k := 11) rfl), .inr ((h0.up 4 rfl).cell p0 (k := 12) rfl), .inr ((h0.up 4 rfl).cell p0 (k := 13) rfl), .inr ((h0.up 4 rfl).cell p0 (k := 14) rfl), .inr ((h0.up 4 rfl).cell p0 (k := 15) rfl), .inr ((h0.up 4 rfl).cell p0 (k := 16) rfl), .inr ((h0.up 4 rfl).cell p0 (k := 17) rfl), trivial⟩, ?_⟩
 refine wO rfl ?_
 refine sT p0 0 0 (.agg (encStage a0).toArray) (encStage a0) (encStage a0).toArray Try.sizeOf61 ?_
 intro _ l5
 refine nilO ⟨dA, ?_⟩
 refine wN ?_
 refine thenK_n <| sR <| pu1 ?_
 refine sAlloc l5 Try.zeroValue55 ?_
 intro e1 _ m5
 refine sTw m5 0 [I 0, I 0, I 0] Try.sizeOf55 ?_
 intro _ w1
 try dsimp only [List.set, List.eraseIdx, Value.cells] at w1
 refine nT <| seqE <| sR ?_
 refine sLA w1 1 0 [I a0.kind, I a0.a, I a0.b, .bool a0.barrier, I a0.edgePolicy, I a0.edgeFill, I a0.kW, I a0.kH, .slice a0.weights.a a0.weights.n a0.weights.k, .slice a0.row.a a0.row.n a0.row.k, .slice a0.col.a a0.col.n a0.col.k, I a0.shift, I a0.shift2, .slice a0.x.a a0.x.n a0.x.k, .slice a0.y.a a0.y.n a0.y.k, I a0.bins, .slice a0.ops.a a0.ops.n a0.ops.k, I a0.max_] (Try.isAgg61 _) (Try.sizeOf61 _) ?_
 refine sF #[.agg (encStage a0).toArray] Try.call60 (Calls.mono (r15_two W _ _ [] a0 ⟨(RdT.flat ((hp.stagesD a0 (List.mem_of_getElem? f0)).weights.up 5 (by rfl))), (RdT.flat ((hp.stagesD a0 (List.mem_of_getElem? f0)).row.up 5 (by rfl))), (RdT.flat ((hp.stagesD a0 (List.mem_of_getElem? f0)).col.up 5 (by rfl))), (RdT.flat ((hp.stagesD a0 (List.mem_of_getElem? f0)).x.up 5 (by rfl))), (fun z hz => ((hp.stagesD a0 (List.mem_of_getElem? f0)).xD z hz).of_mem (mem_flat1 5 (by rfl))), (RdT.flat ((hp.stagesD a0 (List.mem_of_getElem? f0)).y.up 5 (by rfl))), (fun z hz => ((hp.stagesD a0 (List.mem_of_getElem? f0)).yD z hz).of_mem (mem_flat1 5 (by rfl))), (RdT.flat ((hp.stagesD a0 (List.mem_of_getElem? f0)).ops.up 5 (by rfl)))⟩ (Sat.flat w1)) ?_)
 rintro _ _ ⟨rfl, f3⟩
 refine ⟨_, rfl, ?_⟩
 have i0 := Sat.unflat f3; clear f3
 try dsimp only [List.set, List.eraseIdx, Value.cells] at i0
 refine nT ?_
 rcases Classical.em (a0.kind = 6 ∧ ¬ a0.b = -1) with x1 | x1
 ·refine cT _ (decide_eq_true x1) ?_
  refine regionE <| pu2 ?_
  refine sL i0 1 2 (I a0.b) (Try.isAgg3 _) ?_
  refine sIdxO hOys a0.b (a0.b).toNat Try.runUnderlying52 Try.sizeOf55 ?_
  intro c0 _ _ j1 n5 _
  refine sLpA i0 (n5.up 2 rfl) 0 [I c0.w, I c0.h, I c0.max_] (Try.isAgg55 _) (Try.sizeOf55 _) ?_
  refine sTw i0 0 [I c0.w, I c0.h, I c0.max_] Try.sizeOf55 ?_
  intro _ j0
  try dsimp only [List.set, List.eraseIdx, Value.cells] at j0
  refine nT <| seqE ?_
  obtain ⟨d0, k1, l1, m1, f1, o5, a9⟩ := OwnT.elem hOys a0.a
  refine drawP [7, 11, 12] [(0, ⟨g0, 0, none⟩, I a0.kind), (0, ⟨g0, 1, none⟩, I a0.a), (0, ⟨g0, 2, none⟩, I a0.b), (0, ⟨g0, 3, none⟩, .bool a0.barrier), (0, ⟨g0, 4, none⟩, I a0.edgePolicy), (0, ⟨g0, 5, none⟩, I a0.edgeFill), (0, ⟨g0, 6, none⟩, I a0.kW), (0, ⟨g0, 7, none⟩, I a0.kH), (0, ⟨g0, 8, none⟩, .slice a0.weights.a a0.weights.n a0.weights.k), (0, ⟨g0, 9, none⟩, .slice a0.row.a a0.row.n a0.row.k), (0, ⟨g0, 10, none⟩, .slice a0.col.a a0.col.n a0.col.k), (0, ⟨g0, 11, none⟩, I a0.shift), (0, ⟨g0, 12, none⟩, I a0.shift2), (0, ⟨g0, 13, none⟩, .slice a0.x.a a0.x.n a0.x.k), (0, ⟨g0, 14, none⟩, .slice a0.y.a a0.y.n a0.y.k), (0, ⟨g0, 15, none⟩, I a0.bins), (0, ⟨g0, 16, none⟩, .slice a0.ops.a a0.ops.n a0.ops.k), (0, ⟨g0, 17, none⟩, I a0.max_), (3, ⟨g0, 1, none⟩, I a0.a), (5, ⟨k1, l1 + (a0.a).toNat * 3 + 0, none⟩, I d0.w), (5, ⟨k1, l1 + (a0.a).toNat * 3 + 1, none⟩, I d0.h), (5, ⟨k1, l1 + (a0.a).toNat * 3 + 2, none⟩, I d0.max_), (6, ⟨e1, 0, none⟩, I c0.w), (6, ⟨e1, 1, none⟩, I c0.h), (6, ⟨e1, 2, none⟩, I c0.max_)] (Plan.sts [1, 2] <| Plan.sts [0] <| Plan.sts [3] <| Plan.sts [4] <| Plan.sts [5] <| Plan.sts [6] <| .fk 7 11 (Plan.sts [8] <| Plan.sts [9] <| Plan.sts [10] <| .ef 11 <| .ef 12 <| Plan.sts [13] <| .fin) (.ef 7 <| Plan.sts [8] <| Plan.sts [9] <| Plan.sts [10] <| .ef 12 <| Plan.sts [13] <| .fin)) rfl kr ⟨.inr (j0.cell 1 rfl rfl), .inr (j0.cell 1 rfl rfl), .inr (j0.cell 1 rfl rfl), .inr (j0.cell 1 rfl rfl), .inr (j0.cell 1 rfl rfl), .inr (j0.cell 1 rfl rfl), .inr (j0.cell 1 rfl rfl), .inr (j0.cell 1 rfl rfl), .inr (j0.cell 1 rfl rfl), .inr (j0.cell 1 rfl rfl), .inr (j0.cell 1 rfl rfl), .inr (j0.cell 1 rfl rfl), .inr (j0.cell 1 rfl rfl), .inr (j0.cell 1 rfl rfl), .inr (j0.cell 1 rfl rfl), .inr (j0.cell 1 rfl rfl), .inr (j0.cell 1 rfl rfl), .inr (j0.cell 1 rfl rfl), .inr (j0.cell 1 rfl rfl), .inr ((f1.up 2 rfl).cell j0 (k := 0) rfl), .inr ((f1.up 2 rfl).cell j0 (k := 1) rfl), .inr ((f1.up 2 rfl).cell j0 (k := 2) rfl), .inr (j0.cell 0 rfl rfl), .inr (j0.cell 0 rfl rfl), .inr (j0.cell 0 rfl rfl), trivial⟩ ?_
  have g3 := j0.drew
  refine qU [1, 2] ?_
  refine qS (.agg (encStage a0).toArray) rfl rfl rfl (fun w hF => Y_loadF rfl (Try.isAgg61 w) (Try.sizeOf61 w) kr rfl ⟨hF 0 _ _ rfl, hF 1 _ _ rfl, hF 2 _ _ rfl, hF 3 _ _ rfl, hF 4 _ _ rfl, hF 5 _ _ rfl, hF 6 _ _ rfl, hF 7 _ _ rfl, hF 8 _ _ rfl, hF 9 _ _ rfl, hF 10 _ _ rfl, hF 11 _ _ rfl, hF 12 _ _ rfl, hF 13 _ _ rfl, hF 14 _ _ rfl, hF 15 _ _ rfl, hF 16 _ _ rfl, hF 17 _ _ rfl, trivial⟩) ?_
  refine qS (I a0.a) rfl rfl rfl (fun w hF => Y_load rfl (Try.isAgg3 w) kr (hF 18 _ _ rfl)) ?_
  refine qS (.pointer (some ⟨k1, l1 + (a0.a).toNat * 3, none⟩)) rfl rfl rfl (fun w _ => Y_idx (a := ays) (i := a0.a) (len := nys) (cap := kys) rfl Try.runUnderlying52 Try.sizeOf55 kr kr o5) ?_
  refine qS (.agg #[I d0.w, I d0.h, I d0.max_]) rfl rfl rfl (fun w hF => Y_loadF rfl (Try.isAgg55 w) (Try.sizeOf55 w) kr rfl ⟨hF 19 _ _ rfl, hF 20 _ _ rfl, hF 21 _ _ rfl, trivial⟩) ?_
  refine qS (.agg #[I c0.w, I c0.h, I c0.max_]) rfl rfl rfl (fun w hF => Y_loadF rfl (Try.isAgg55 w) (Try.sizeOf55 w) kr rfl ⟨hF 22 _ _ rfl, hF 23 _ _ rfl, hF 24 _ _ rfl, trivial⟩) ?_
  refine qF ?_ ?_
  ·refine qO rfl ?_
   refine sF #[.agg (encStage a0).toArray, .agg #[I d0.w, I d0.h, I d0.max_], .agg #[I c0.w, I c0.h, I c0.max_]] Try.call61 (Calls.mono (r15_of W _ _ [] a0 d0 c0 ⟨(RdT.flat ((hp.stagesD a0 (List.mem_of_getElem? f0)).weights.up 5 (by rfl))), (RdT.flat ((hp.stagesD a0 (List.mem_of_getElem? f0)).row.up 5 (by rfl))), (RdT.flat ((hp.stagesD a0 (List.mem_of_getElem? f0)).col.up 5 (by rfl))), (RdT.flat ((hp.stagesD a0 (List.mem_of_getElem? f0)).x.up 5 (by rfl))), (fun z hz => ((hp.stagesD a0 (List.mem_of_getElem? f0)).xD z hz).of_mem (mem_flat1 5 (by rfl))), (RdT.flat ((hp.stagesD a0 (List.mem_of_getElem? f0)).y.up 5 (by rfl))), (fun z hz => ((hp.stagesD a0 (List.mem_of_getElem? f0)).yD z hz).of_mem (mem_flat1 5 (by rfl))), (RdT.flat ((hp.stagesD a0 (List.mem_of_getElem? f0)).ops.up 5 (by rfl)))⟩ (Sat.flat g3)) ?_)
   rintro _ _ ⟨rfl, h3⟩
   refine ⟨_, rfl, ?_⟩
   have y1 := Sat.unflat h3; clear h3
   try dsimp only [List.set, List.eraseIdx, Value.cells] at y1
   refine nilO ⟨⟨dI, dI, dI, dI, dI, dI, dI, dI, dI, dI, dI, dI, dI, dI, dI, dI, dI, dI, .inr (y1.cell 1 rfl rfl), dI, dI, dI, dI, dI, dI, trivial⟩, ?_⟩
   refine qU [8] <| qU [9] <| qU [10] ?_
   refine qO rfl ?_
   refine sAlloc y1 Try.zeroValue55 ?_
   intro z1 _ i3
   refine nilO ⟨⟨dI, dI, dI, dI, dI, dI, dI, dI, dI, dI, dI, dI, dI, dI, dI, dI, dI, dI, .inr (i3.cell 2 rfl rfl), dI, dI, dI, dI, dI, dI, trivial⟩, ?_⟩
   refine qO rfl ?_
   refine sTw i3 0 [I ((ofV a0.v d0 c0).1.w), I ((ofV a0.v d0 c0).1.h), I ((ofV a0.v d0 c0).1.max_)] Try.sizeOf55 ?_
   intro _ y0
   try dsimp only [List.set, List.eraseIdx, Value.cells] at y0
   refine nilO ⟨dA, ?_⟩
   refine qU [13] ?_
   refine qN ?_
   refine thenK_n <| seqE <| sR <| pu2 <| nT ?_
   by_cases j3 : ((ofV a0.v d0 c0).2 : Int) = 0
   rotate_left
   ·refine cT _ (bne_iff_ne.2 j3) ?_
    refine seqE ?_
    obtain ⟨p5, k3, l3, a2, q5, r5⟩ := RdT.elem x0 ((i : Nat) : Int)
    rw [Int.toNat_natCast] at a2
    obtain rfl : b0 = p5 := Option.some.inj (t0.symm.trans a2)
    have hox_x_54 : ((p.inputs.n : Nat) : Int) ≤ b0 ∧ b0 < ((p.inputs.n : Nat) : Int) + ((p.stages.n : Nat) : Int) := by have h := hordr b0 (List.mem_of_getElem? a2); simp only [Job.v] at h; omega
    refine drawE [] [(3, ⟨k3, l3, none⟩, I b0)] [(true, [0, 1]), (true, [2]), (true, [4, 5]), (true, [3]), (true, [6, 7])] rfl kr ⟨.inr ((q5.up 4 rfl).cell y0 (k := 0) rfl), trivial⟩ ?_
    have s5 := y0.drew
    refine wU [0, 1] ?_
    refine wS (.pointer (some ⟨k3, l3, none⟩)) rfl rfl rfl (fun w _ => Y_idx (a := u0) (i := ((i : Nat) : Int)) (len := q0) (cap := v0) rfl Try.runUnderlying22 Try.sizeOf3 kr kr r5) ?_
    refine wU [4, 5] ?_
    refine wS (I b0) rfl rfl rfl (fun w hF => Y_load rfl (Try.isAgg3 w) kr (hF 0 _ _ rfl)) ?_
    refine wU [6, 7] ?_
    refine wN ?_
    refine thenK_n ?_
    refine retE (tR <| thenK_r <| tR <| thenK_r <| ?_)
    refine retT [.slice none 0 0, I b0, I ((ofV a0.v d0 c0).2)] ?_
    have hk0 : shpV p.v = shpGo ((p.inputs.n : Nat) : Int) (p.stages.l.map Stage.v) ((ordV p.v).1) zs := by unfold shpV; rw [if_pos ‹_›, if_pos (by exact hall)]; rw [hzs, ← hms, ← hmi]; rfl
    have hstg : stgAt (p.stages.l.map Stage.v) ((p.inputs.n : Nat) : Int) b0 = a0.v := by unfold stgAt; rw [map_at (f := Stage.v) f0]; rfl
    have hsa3 : shpAt ys a0.v.a = d0 := by unfold shpAt; rw [show ys[a0.v.a.toNat]? = some d0 from m1]; rfl
    have hsb3 : (if twoP a0.v then shpAt ys a0.v.b else ⟨0, 0, 0⟩) = c0 := by rw [if_pos (by unfold twoP; simp only [Stage.v]; assumption)]; unfold shpAt; rw [show ys[a0.v.b.toNat]? = some c0 from j1]; rfl
    have hst : shpStep ((p.inputs.n : Nat) : Int) (p.stages.l.map Stage.v) b0 ys = ofV a0.v d0 c0 := by unfold shpStep; rw [hstg, hsa3, hsb3]
    have hk : shpV p.v = ([], b0, (ofV a0.v d0 c0).2) := by rw [hk0, hS2, drop_at t0, shpGo, hst, if_neg ‹_›]
    have m3 := (((((((s5.pick 6 rfl).dropAt 1 rfl).dropAt 1 rfl).dropAt 1 rfl).dropAt 1 rfl).dropAt 1 rfl).dropAt 1 rfl)
    change Sat _ _ (H :: F) at m3
    have t5 : Sat W _ ([] :: H :: F) := Sat.nilc m3
    have hl : ([] : List Shape) = (shpV p.v).1 := (by rw [hk])
    have hrd := RdT.nil (enc := encShape) (sz := 3) fR [[]]
    rw [hl] at hrd
    exact ⟨_, _, _, _, (by rw [hk]; rfl), hrd, t5⟩
   refine cF _ (bne_eq_false_iff_eq.2 j3) ?_
   refine kT ?_
   obtain ⟨u5, n3, o3, b2, v5, w5⟩ := RdT.elem x0 ((i : Nat) : Int)
   rw [Int.toNat_natCast] at b2
   obtain rfl : b0 = u5 := Option.some.inj (t0.symm.trans b2)
   have hox_x_54 : ((p.inputs.n : Nat) : Int) ≤ b0 ∧ b0 < ((p.inputs.n : Nat) : Int) + ((p.stages.n : Nat) : Int) := by have h := hordr b0 (List.mem_of_getElem? b2); simp only [Job.v] at h; omega
   obtain ⟨x5, y5, z5, a6, e9, b6, c6⟩ := OwnT.elem hOys b0
   refine drawE [7] [(4, ⟨n3, o3, none⟩, I b0), (5, ⟨z1, 0, none⟩, I ((ofV a0.v d0 c0).1.w)), (5, ⟨z1, 1, none⟩, I ((ofV a0.v d0 c0).1.h)), (5, ⟨z1, 2, none⟩, I ((ofV a0.v d0 c0).1.max_))] [(true, [0, 1, 2]), (true, [3]), (true, [4]), (true, [5]), (true, [6]), (false, [7])] rfl kr ⟨.inr ((v5.up 4 rfl).cell y0 (k := 0) rfl), .inr (y0.cell 0 rfl rfl), .inr (y0.cell 0 rfl rfl), .inr (y0.cell 0 rfl rfl), trivial⟩ ?_
   have d6 := y0.drew
   refine wU [0, 1, 2] ?_
   refine wS (.pointer (some ⟨n3, o3, none⟩)) rfl rfl rfl (fun w _ => Y_idx (a := u0) (i := ((i : Nat) : Int)) (len := q0) (cap := v0) rfl Try.runUnderlying22 Try.sizeOf3 kr kr w5) ?_
   refine wS (I b0) rfl rfl rfl (fun w hF => Y_load rfl (Try.isAgg3 w) kr (hF 0 _ _ rfl)) ?_
   refine wS (.agg #[I ((ofV a0.v d0 c0).1.w), I ((ofV a0.v d0 c0).1.h), I ((ofV a0.v d0 c0).1.max_)]) rfl rfl rfl (fun w hF => Y_loadF rfl (Try.isAgg55 w) (Try.sizeOf55 w) kr rfl ⟨hF 1 _ _ rfl, hF 2 _ _ rfl, hF 3 _ _ rfl, trivial⟩) ?_
   refine wS (.pointer (some ⟨y5, z5 + (b0).toNat * 3, none⟩)) rfl rfl rfl (fun w _ => Y_idx (a := ays) (i := b0) (len := nys) (cap := kys) rfl Try.runUnderlying52 Try.sizeOf55 kr kr b6) ?_
   refine wO rfl ?_
   refine sStF d6 hOys c6 3 (b0).toNat 0 x5 (⟨(ofV a0.v d0 c0).1.w, (ofV a0.v d0 c0).1.h, (ofV a0.v d0 c0).1.max_⟩ : Shape) a6 (.agg #[I ((ofV a0.v d0 c0).1.w), I ((ofV a0.v d0 c0).1.h), I ((ofV a0.v d0 c0).1.max_)]) [I ((ofV a0.v d0 c0).1.w), I ((ofV a0.v d0 c0).1.h), I ((ofV a0.v d0 c0).1.max_)] Try.sizeOf55 ?_
   intro _ p3 e6 q3
   try dsimp only [List.set, List.eraseIdx, Value.cells] at q3
   refine nilO ⟨dA, ?_⟩
   refine wN ?_
   refine blockK_n <| thenK_n <| regionE <| pu1 ?_
   refine sAdd ((i : Nat) : Int) 1 ?_
   refine pu1 <| nT ?_
   have hstg : stgAt (p.stages.l.map Stage.v) ((p.inputs.n : Nat) : Int) b0 = a0.v := by unfold stgAt; rw [map_at (f := Stage.v) f0]; rfl
   have hsa3 : shpAt ys a0.v.a = d0 := by unfold shpAt; rw [show ys[a0.v.a.toNat]? = some d0 from m1]; rfl
   have hsb3 : (if twoP a0.v then shpAt ys a0.v.b else ⟨0, 0, 0⟩) = c0 := by rw [if_pos (by unfold twoP; simp only [Stage.v]; assumption)]; unfold shpAt; rw [show ys[a0.v.b.toNat]? = some c0 from j1]; rfl
   have hst : shpStep ((p.inputs.n : Nat) : Int) (p.stages.l.map Stage.v) b0 ys = ofV a0.v d0 c0 := by unfold shpStep; rw [hstg, hsa3, hsb3]
   have r3 := (((((((q3.pick 6 rfl).pick 6 rfl).pick 6 rfl).pick 6 rfl).dropAt 4 rfl).dropAt 4 rfl).dropAt 4 rfl)
   change Sat _ _ (p3 :: w0 :: [(n0, .cells (encJob p).toArray 28 (0, 0))] :: H :: F) at r3
   exact ⟨(i + 1, (ys.set ((b0).toNat) (⟨(ofV a0.v d0 c0).1.w, (ofV a0.v d0 c0).1.h, (ofV a0.v d0 c0).1.max_⟩ : Shape)), ays, nys, kys, p3), od, alA, r3, om, by rw [hS2, drop_at t0, shpGo, hst, if_pos ‹_›], by simp; omega, e6⟩
  refine qO rfl ?_
  refine sAlloc g3 Try.zeroValue55 ?_
  intro c2 _ k0
  refine nilO ⟨⟨.inr (k0.cell 2 rfl rfl), .inr (k0.cell 2 rfl rfl), .inr (k0.cell 2 rfl rfl), .inr (k0.cell 2 rfl rfl), .inr (k0.cell 2 rfl rfl), .inr (k0.cell 2 rfl rfl), .inr (k0.cell 2 rfl rfl), .inr (k0.cell 2 rfl rfl), .inr (k0.cell 2 rfl rfl), .inr (k0.cell 2 rfl rfl), .inr (k0.cell 2 rfl rfl), .inr (k0.cell 2 rfl rfl), .inr (k0.cell 2 rfl rfl), .inr (k0.cell 2 rfl rfl), .inr (k0.cell 2 rfl rfl), .inr (k0.cell 2 rfl rfl), .inr (k0.cell 2 rfl rfl), .inr (k0.cell 2 rfl rfl), .inr (k0.cell 2 rfl rfl), .inr ((f1.up 3 rfl).cell k0 (k := 0) rfl), .inr ((f1.up 3 rfl).cell k0 (k := 1) rfl), .inr ((f1.up 3 rfl).cell k0 (k := 2) rfl), .inr (k0.cell 1 rfl rfl), .inr (k0.cell 1 rfl rfl), .inr (k0.cell 1 rfl rfl), trivial⟩, ?_⟩
  refine qO rfl ?_
  refine sF #[.agg (encStage a0).toArray, .agg #[I d0.w, I d0.h, I d0.max_], .agg #[I c0.w, I c0.h, I c0.max_]] Try.call61 (Calls.mono (r15_of W _ _ [] a0 d0 c0 ⟨(RdT.flat ((hp.stagesD a0 (List.mem_of_getElem? f0)).weights.up 6 (by rfl))), (RdT.flat ((hp.stagesD a0 (List.mem_of_getElem? f0)).row.up 6 (by rfl))), (RdT.flat ((hp.stagesD a0 (List.mem_of_getElem? f0)).col.up 6 (by rfl))), (RdT.flat ((hp.stagesD a0 (List.mem_of_getElem? f0)).x.up 6 (by rfl))), (fun z hz => ((hp.stagesD a0 (List.mem_of_getElem? f0)).xD z hz).of_mem (mem_flat1 6 (by rfl))), (RdT.flat ((hp.stagesD a0 (List.mem_of_getElem? f0)).y.up 6 (by rfl))), (fun z hz => ((hp.stagesD a0 (List.mem_of_getElem? f0)).yD z hz).of_mem (mem_flat1 6 (by rfl))), (RdT.flat ((hp.stagesD a0 (List.mem_of_getElem? f0)).ops.up 6 (by rfl)))⟩ (Sat.flat k0)) ?_)
  rintro _ _ ⟨rfl, s3⟩
  refine ⟨_, rfl, ?_⟩
  have d2 := Sat.unflat s3; clear s3
  try dsimp only [List.set, List.eraseIdx, Value.cells] at d2
  refine nilO ⟨⟨dI, dI, dI, dI, dI, dI, dI, dI, dI, dI, dI, dI, dI, dI, dI, dI, dI, dI, .inr (d2.cell 2 rfl rfl), dI, dI, dI, dI, dI, dI, trivial⟩, ?_⟩
  refine qU [8] <| qU [9] <| qU [10] ?_
  refine qO rfl ?_
  refine sTw d2 0 [I ((ofV a0.v d0 c0).1.w), I ((ofV a0.v d0 c0).1.h), I ((ofV a0.v d0 c0).1.max_)] Try.sizeOf55 ?_
  intro _ z0
  try dsimp only [List.set, List.eraseIdx, Value.cells] at z0
  refine nilO ⟨dA, ?_⟩
  refine qU [13] ?_
  refine qN ?_
  refine thenK_n <| seqE <| sR <| pu2 <| nT ?_
  by_cases t3 : ((ofV a0.v d0 c0).2 : Int) = 0
  rotate_left
  ·refine cT _ (bne_iff_ne.2 t3) ?_
   refine seqE ?_
   obtain ⟨f6, u3, v3, e2, g6, h6⟩ := RdT.elem x0 ((i : Nat) : Int)
   rw [Int.toNat_natCast] at e2
   obtain rfl : b0 = f6 := Option.some.inj (t0.symm.trans e2)
   have hox_x_54 : ((p.inputs.n : Nat) : Int) ≤ b0 ∧ b0 < ((p.inputs.n : Nat) : Int) + ((p.stages.n : Nat) : Int) := by have h := hordr b0 (List.mem_of_getElem? e2); simp only [Job.v] at h; omega
   refine drawE [] [(3, ⟨u3, v3, none⟩, I b0)] [(true, [0, 1]), (true, [2]), (true, [4, 5]), (true, [3]), (true, [6, 7])] rfl kr ⟨.inr ((g6.up 4 rfl).cell z0 (k := 0) rfl), trivial⟩ ?_
   have i6 := z0.drew
   refine wU [0, 1] ?_
   refine wS (.pointer (some ⟨u3, v3, none⟩)) rfl rfl rfl (fun w _ => Y_idx (a := u0) (i := ((i : Nat) : Int)) (len := q0) (cap := v0) rfl Try.runUnderlying22 Try.sizeOf3 kr kr h6) ?_
   refine wU [4, 5] ?_
   refine wS (I b0) rfl rfl rfl (fun w hF => Y_load rfl (Try.isAgg3 w) kr (hF 0 _ _ rfl)) ?_
   refine wU [6, 7] ?_
   refine wN ?_
   refine thenK_n ?_
   refine retE (tR <| thenK_r <| tR <| thenK_r <| ?_)
   refine retT [.slice none 0 0, I b0, I ((ofV a0.v d0 c0).2)] ?_
   have hk0 : shpV p.v = shpGo ((p.inputs.n : Nat) : Int) (p.stages.l.map Stage.v) ((ordV p.v).1) zs := by unfold shpV; rw [if_pos ‹_›, if_pos (by exact hall)]; rw [hzs, ← hms, ← hmi]; rfl
   have hstg : stgAt (p.stages.l.map Stage.v) ((p.inputs.n : Nat) : Int) b0 = a0.v := by unfold stgAt; rw [map_at (f := Stage.v) f0]; rfl
   have hsa3 : shpAt ys a0.v.a = d0 := by unfold shpAt; rw [show ys[a0.v.a.toNat]? = some d0 from m1]; rfl
   have hsb3 : (if twoP a0.v then shpAt ys a0.v.b else ⟨0, 0, 0⟩) = c0 := by rw [if_pos (by unfold twoP; simp only [Stage.v]; assumption)]; unfold shpAt; rw [show ys[a0.v.b.toNat]? = some c0 from j1]; rfl
   have hst : shpStep ((p.inputs.n : Nat) : Int) (p.stages.l.map Stage.v) b0 ys = ofV a0.v d0 c0 := by unfold shpStep; rw [hstg, hsa3, hsb3]
   have hk : shpV p.v = ([], b0, (ofV a0.v d0 c0).2) := by rw [hk0, hS2, drop_at t0, shpGo, hst, if_neg ‹_›]
   have w3 := (((((((i6.pick 6 rfl).dropAt 1 rfl).dropAt 1 rfl).dropAt 1 rfl).dropAt 1 rfl).dropAt 1 rfl).dropAt 1 rfl)
   change Sat _ _ (H :: F) at w3
   have j6 : Sat W _ ([] :: H :: F) := Sat.nilc w3
   have hl : ([] : List Shape) = (shpV p.v).1 := (by rw [hk])
   have hrd := RdT.nil (enc := encShape) (sz := 3) fR [[]]
   rw [hl] at hrd
   exact ⟨_, _, _, _, (by rw [hk]; rfl), hrd, j6⟩
  refine cF _ (bne_eq_false_iff_eq.2 t3) ?_
  refine kT ?_
  obtain ⟨k6, x3, y3, f2, l6, m6⟩ := RdT.elem x0 ((i : Nat) : Int)
  rw [Int.toNat_natCast] at f2
  obtain rfl : b0 = k6 := Option.some.inj (t0.symm.trans f2)
  have hox_x_54 : ((p.inputs.n : Nat) : Int) ≤ b0 ∧ b0 < ((p.inputs.n : Nat) : Int) + ((p.stages.n : Nat) : Int) := by have h := hordr b0 (List.mem_of_getElem? f2); simp only [Job.v] at h; omega
  obtain ⟨n6, o6, p6, q6, j9, r6, s6⟩ := OwnT.elem hOys b0
  refine drawE [7] [(4, ⟨x3, y3, none⟩, I b0), (5, ⟨c2, 0, none⟩, I ((ofV a0.v d0 c0).1.w)), (5, ⟨c2, 1, none⟩, I ((ofV a0.v d0 c0).1.h)), (5, ⟨c2, 2, none⟩, I ((ofV a0.v d0 c0).1.max_))] [(true, [0, 1, 2]), (true, [3]), (true, [4]), (true, [5]), (true, [6]), (false, [7])] rfl kr ⟨.inr ((l6.up 4 rfl).cell z0 (k := 0) rfl), .inr (z0.cell 0 rfl rfl), .inr (z0.cell 0 rfl rfl), .inr (z0.cell 0 rfl rfl), trivial⟩ ?_
  have t6 := z0.drew
  refine wU [0, 1, 2] ?_
  refine wS (.pointer (some ⟨x3, y3, none⟩)) rfl rfl rfl (fun w _ => Y_idx (a := u0) (i := ((i : Nat) : Int)) (len := q0) (cap := v0) rfl Try.runUnderlying22 Try.sizeOf3 kr kr m6) ?_
  refine wS (I b0) rfl rfl rfl (fun w hF => Y_load rfl (Try.isAgg3 w) kr (hF 0 _ _ rfl)) ?_
  refine wS (.agg #[I ((ofV a0.v d0 c0).1.w), I ((ofV a0.v d0 c0).1.h), I ((ofV a0.v d0 c0).1.max_)]) rfl rfl rfl (fun w hF => Y_loadF rfl (Try.isAgg55 w) (Try.sizeOf55 w) kr rfl ⟨hF 1 _ _ rfl, hF 2 _ _ rfl, hF 3 _ _ rfl, trivial⟩) ?_
  refine wS (.pointer (some ⟨o6, p6 + (b0).toNat * 3, none⟩)) rfl rfl rfl (fun w _ => Y_idx (a := ays) (i := b0) (len := nys) (cap := kys) rfl Try.runUnderlying52 Try.sizeOf55 kr kr r6) ?_
  refine wO rfl ?_
  refine sStF t6 hOys s6 3 (b0).toNat 0 n6 (⟨(ofV a0.v d0 c0).1.w, (ofV a0.v d0 c0).1.h, (ofV a0.v d0 c0).1.max_⟩ : Shape) q6 (.agg #[I ((ofV a0.v d0 c0).1.w), I ((ofV a0.v d0 c0).1.h), I ((ofV a0.v d0 c0).1.max_)]) [I ((ofV a0.v d0 c0).1.w), I ((ofV a0.v d0 c0).1.h), I ((ofV a0.v d0 c0).1.max_)] Try.sizeOf55 ?_
  intro _ z3 u6 a4
  try dsimp only [List.set, List.eraseIdx, Value.cells] at a4
  refine nilO ⟨dA, ?_⟩
  refine wN ?_
  refine blockK_n <| thenK_n <| regionE <| pu1 ?_
  refine sAdd ((i : Nat) : Int) 1 ?_
  refine pu1 <| nT ?_
  have hstg : stgAt (p.stages.l.map Stage.v) ((p.inputs.n : Nat) : Int) b0 = a0.v := by unfold stgAt; rw [map_at (f := Stage.v) f0]; rfl
  have hsa3 : shpAt ys a0.v.a = d0 := by unfold shpAt; rw [show ys[a0.v.a.toNat]? = some d0 from m1]; rfl
  have hsb3 : (if twoP a0.v then shpAt ys a0.v.b else ⟨0, 0, 0⟩) = c0 := by rw [if_pos (by unfold twoP; simp only [Stage.v]; assumption)]; unfold shpAt; rw [show ys[a0.v.b.toNat]? = some c0 from j1]; rfl
  have hst : shpStep ((p.inputs.n : Nat) : Int) (p.stages.l.map Stage.v) b0 ys = ofV a0.v d0 c0 := by unfold shpStep; rw [hstg, hsa3, hsb3]
  have b4 := (((((((a4.pick 6 rfl).pick 6 rfl).pick 6 rfl).pick 6 rfl).dropAt 4 rfl).dropAt 4 rfl).dropAt 4 rfl)
  change Sat _ _ (z3 :: w0 :: [(n0, .cells (encJob p).toArray 28 (0, 0))] :: H :: F) at b4
  exact ⟨(i + 1, (ys.set ((b0).toNat) (⟨(ofV a0.v d0 c0).1.w, (ofV a0.v d0 c0).1.h, (ofV a0.v d0 c0).1.max_⟩ : Shape)), ays, nys, kys, z3), od, alA, b4, om, by rw [hS2, drop_at t0, shpGo, hst, if_pos ‹_›], by simp; omega, u6⟩
 refine cF _ (decide_eq_false x1) ?_
 refine kT <| seqE ?_
 obtain ⟨e0, n1, o1, p1, g1, v6, l9⟩ := OwnT.elem hOys a0.a
 refine drawP [7, 11, 12] [(0, ⟨g0, 0, none⟩, I a0.kind), (0, ⟨g0, 1, none⟩, I a0.a), (0, ⟨g0, 2, none⟩, I a0.b), (0, ⟨g0, 3, none⟩, .bool a0.barrier), (0, ⟨g0, 4, none⟩, I a0.edgePolicy), (0, ⟨g0, 5, none⟩, I a0.edgeFill), (0, ⟨g0, 6, none⟩, I a0.kW), (0, ⟨g0, 7, none⟩, I a0.kH), (0, ⟨g0, 8, none⟩, .slice a0.weights.a a0.weights.n a0.weights.k), (0, ⟨g0, 9, none⟩, .slice a0.row.a a0.row.n a0.row.k), (0, ⟨g0, 10, none⟩, .slice a0.col.a a0.col.n a0.col.k), (0, ⟨g0, 11, none⟩, I a0.shift), (0, ⟨g0, 12, none⟩, I a0.shift2), (0, ⟨g0, 13, none⟩, .slice a0.x.a a0.x.n a0.x.k), (0, ⟨g0, 14, none⟩, .slice a0.y.a a0.y.n a0.y.k), (0, ⟨g0, 15, none⟩, I a0.bins), (0, ⟨g0, 16, none⟩, .slice a0.ops.a a0.ops.n a0.ops.k), (0, ⟨g0, 17, none⟩, I a0.max_), (3, ⟨g0, 1, none⟩, I a0.a), (5, ⟨n1, o1 + (a0.a).toNat * 3 + 0, none⟩, I e0.w), (5, ⟨n1, o1 + (a0.a).toNat * 3 + 1, none⟩, I e0.h), (5, ⟨n1, o1 + (a0.a).toNat * 3 + 2, none⟩, I e0.max_), (6, ⟨e1, 0, none⟩, I 0), (6, ⟨e1, 1, none⟩, I 0), (6, ⟨e1, 2, none⟩, I 0)] (Plan.sts [1, 2] <| Plan.sts [0] <| Plan.sts [3] <| Plan.sts [4] <| Plan.sts [5] <| Plan.sts [6] <| .fk 7 11 (Plan.sts [8] <| Plan.sts [9] <| Plan.sts [10] <| .ef 11 <| .ef 12 <| Plan.sts [13] <| .fin) (.ef 7 <| Plan.sts [8] <| Plan.sts [9] <| Plan.sts [10] <| .ef 12 <| Plan.sts [13] <| .fin)) rfl kr ⟨.inr (i0.cell 1 rfl rfl), .inr (i0.cell 1 rfl rfl), .inr (i0.cell 1 rfl rfl), .inr (i0.cell 1 rfl rfl), .inr (i0.cell 1 rfl rfl), .inr (i0.cell 1 rfl rfl), .inr (i0.cell 1 rfl rfl), .inr (i0.cell 1 rfl rfl), .inr (i0.cell 1 rfl rfl), .inr (i0.cell 1 rfl rfl), .inr (i0.cell 1 rfl rfl), .inr (i0.cell 1 rfl rfl), .inr (i0.cell 1 rfl rfl), .inr (i0.cell 1 rfl rfl), .inr (i0.cell 1 rfl rfl), .inr (i0.cell 1 rfl rfl), .inr (i0.cell 1 rfl rfl), .inr (i0.cell 1 rfl rfl), .inr (i0.cell 1 rfl rfl), .inr ((g1.up 2 rfl).cell i0 (k := 0) rfl), .inr ((g1.up 2 rfl).cell i0 (k := 1) rfl), .inr ((g1.up 2 rfl).cell i0 (k := 2) rfl), .inr (i0.cell 0 rfl rfl), .inr (i0.cell 0 rfl rfl), .inr (i0.cell 0 rfl rfl), trivial⟩ ?_
 have c4 := i0.drew
 refine qU [1, 2] ?_
 refine qS (.agg (encStage a0).toArray) rfl rfl rfl (fun w hF => Y_loadF rfl (Try.isAgg61 w) (Try.sizeOf61 w) kr rfl ⟨hF 0 _ _ rfl, hF 1 _ _ rfl, hF 2 _ _ rfl, hF 3 _ _ rfl, hF 4 _ _ rfl, hF 5 _ _ rfl, hF 6 _ _ rfl, hF 7 _ _ rfl, hF 8 _ _ rfl, hF 9 _ _ rfl, hF 10 _ _ rfl, hF 11 _ _ rfl, hF 12 _ _ rfl, hF 13 _ _ rfl, hF 14 _ _ rfl, hF 15 _ _ rfl, hF 16 _ _ rfl, hF 17 _ _ rfl, trivial⟩) ?_
 refine qS (I a0.a) rfl rfl rfl (fun w hF => Y_load rfl (Try.isAgg3 w) kr (hF 18 _ _ rfl)) ?_
 refine qS (.pointer (some ⟨n1, o1 + (a0.a).toNat * 3, none⟩)) rfl rfl rfl (fun w _ => Y_idx (a := ays) (i := a0.a) (len := nys) (cap := kys) rfl Try.runUnderlying52 Try.sizeOf55 kr kr v6) ?_
 refine qS (.agg #[I e0.w, I e0.h, I e0.max_]) rfl rfl rfl (fun w hF => Y_loadF rfl (Try.isAgg55 w) (Try.sizeOf55 w) kr rfl ⟨hF 19 _ _ rfl, hF 20 _ _ rfl, hF 21 _ _ rfl, trivial⟩) ?_
 refine qS (.agg #[I 0, I 0, I 0]) rfl rfl rfl (fun w hF => Y_loadF rfl (Try.isAgg55 w) (Try.sizeOf55 w) kr rfl ⟨hF 22 _ _ rfl, hF 23 _ _ rfl, hF 24 _ _ rfl, trivial⟩) ?_
 refine qF ?_ ?_
 ·refine qO rfl ?_
  refine sF #[.agg (encStage a0).toArray, .agg #[I e0.w, I e0.h, I e0.max_], .agg #[I 0, I 0, I 0]] Try.call61 (Calls.mono (r15_of W _ _ [] a0 e0 (⟨0, 0, 0⟩ : Shape) ⟨(RdT.flat ((hp.stagesD a0 (List.mem_of_getElem? f0)).weights.up 5 (by rfl))), (RdT.flat ((hp.stagesD a0 (List.mem_of_getElem? f0)).row.up 5 (by rfl))), (RdT.flat ((hp.stagesD a0 (List.mem_of_getElem? f0)).col.up 5 (by rfl))), (RdT.flat ((hp.stagesD a0 (List.mem_of_getElem? f0)).x.up 5 (by rfl))), (fun z hz => ((hp.stagesD a0 (List.mem_of_getElem? f0)).xD z hz).of_mem (mem_flat1 5 (by rfl))), (RdT.flat ((hp.stagesD a0 (List.mem_of_getElem? f0)).y.up 5 (by rfl))), (fun z hz => ((hp.stagesD a0 (List.mem_of_getElem? f0)).yD z hz).of_mem (mem_flat1 5 (by rfl))), (RdT.flat ((hp.stagesD a0 (List.mem_of_getElem? f0)).ops.up 5 (by rfl)))⟩ (Sat.flat c4)) ?_)
  rintro _ _ ⟨rfl, d4⟩
  refine ⟨_, rfl, ?_⟩
  have g2 := Sat.unflat d4; clear d4
  try dsimp only [List.set, List.eraseIdx, Value.cells] at g2
  refine nilO ⟨⟨dI, dI, dI, dI, dI, dI, dI, dI, dI, dI, dI, dI, dI, dI, dI, dI, dI, dI, .inr (g2.cell 1 rfl rfl), dI, dI, dI, dI, dI, dI, trivial⟩, ?_⟩
  refine qU [8] <| qU [9] <| qU [10] ?_
  refine qO rfl ?_
  refine sAlloc g2 Try.zeroValue55 ?_
  intro i2 _ e4
  refine nilO ⟨⟨dI, dI, dI, dI, dI, dI, dI, dI, dI, dI, dI, dI, dI, dI, dI, dI, dI, dI, .inr (e4.cell 2 rfl rfl), dI, dI, dI, dI, dI, dI, trivial⟩, ?_⟩
  refine qO rfl ?_
  refine sTw e4 0 [I ((ofV a0.v e0 (⟨0, 0, 0⟩ : Shape)).1.w), I ((ofV a0.v e0 (⟨0, 0, 0⟩ : Shape)).1.h), I ((ofV a0.v e0 (⟨0, 0, 0⟩ : Shape)).1.max_)] Try.sizeOf55 ?_
  intro _ a1
  try dsimp only [List.set, List.eraseIdx, Value.cells] at a1
  refine nilO ⟨dA, ?_⟩
  refine qU [13] ?_
  refine qN ?_
  refine thenK_n <| seqE <| sR <| pu2 <| nT ?_
  by_cases f4 : ((ofV a0.v e0 (⟨0, 0, 0⟩ : Shape)).2 : Int) = 0
  rotate_left
  ·refine cT _ (bne_iff_ne.2 f4) ?_
   refine seqE ?_
   obtain ⟨w6, g4, h4, j2, x6, y6⟩ := RdT.elem x0 ((i : Nat) : Int)
   rw [Int.toNat_natCast] at j2
   obtain rfl : b0 = w6 := Option.some.inj (t0.symm.trans j2)
   have hox_x_54 : ((p.inputs.n : Nat) : Int) ≤ b0 ∧ b0 < ((p.inputs.n : Nat) : Int) + ((p.stages.n : Nat) : Int) := by have h := hordr b0 (List.mem_of_getElem? j2); simp only [Job.v] at h; omega
   refine drawE [] [(3, ⟨g4, h4, none⟩, I b0)] [(true, [0, 1]), (true, [2]), (true, [4, 5]), (true, [3]), (true, [6, 7])] rfl kr ⟨.inr ((x6.up 4 rfl).cell a1 (k := 0) rfl), trivial⟩ ?_
   have z6 := a1.drew
   refine wU [0, 1] ?_
   refine wS (.pointer (some ⟨g4, h4, none⟩)) rfl rfl rfl (fun w _ => Y_idx (a := u0) (i := ((i : Nat) : Int)) (len := q0) (cap := v0) rfl Try.runUnderlying22 Try.sizeOf3 kr kr y6) ?_
   refine wU [4, 5] ?_
   refine wS (I b0) rfl rfl rfl (fun w hF => Y_load rfl (Try.isAgg3 w) kr (hF 0 _ _ rfl)) ?_
   refine wU [6, 7] ?_
   refine wN ?_
   refine thenK_n ?_
   refine retE (tR <| thenK_r <| tR <| thenK_r <| ?_)
   refine retT [.slice none 0 0, I b0, I ((ofV a0.v e0 (⟨0, 0, 0⟩ : Shape)).2)] ?_
   have hk0 : shpV p.v = shpGo ((p.inputs.n : Nat) : Int) (p.stages.l.map Stage.v) ((ordV p.v).1) zs := by unfold shpV; rw [if_pos ‹_›, if_pos (by exact hall)]; rw [hzs, ← hms, ← hmi]; rfl
   have hstg : stgAt (p.stages.l.map Stage.v) ((p.inputs.n : Nat) : Int) b0 = a0.v := by unfold stgAt; rw [map_at (f := Stage.v) f0]; rfl
   have hsa3 : shpAt ys a0.v.a = e0 := by unfold shpAt; rw [show ys[a0.v.a.toNat]? = some e0 from p1]; rfl
   have hsb3 : (if twoP a0.v then shpAt ys a0.v.b else ⟨0, 0, 0⟩) = (⟨0, 0, 0⟩ : Shape) := by rw [if_neg (by unfold twoP; simp only [Stage.v]; assumption)]
   have hst : shpStep ((p.inputs.n : Nat) : Int) (p.stages.l.map Stage.v) b0 ys = ofV a0.v e0 (⟨0, 0, 0⟩ : Shape) := by unfold shpStep; rw [hstg, hsa3, hsb3]
   have hk : shpV p.v = ([], b0, (ofV a0.v e0 (⟨0, 0, 0⟩ : Shape)).2) := by rw [hk0, hS2, drop_at t0, shpGo, hst, if_neg ‹_›]
   have i4 := (((((((z6.pick 6 rfl).dropAt 1 rfl).dropAt 1 rfl).dropAt 1 rfl).dropAt 1 rfl).dropAt 1 rfl).dropAt 1 rfl)
   change Sat _ _ (H :: F) at i4
   have a7 : Sat W _ ([] :: H :: F) := Sat.nilc i4
   have hl : ([] : List Shape) = (shpV p.v).1 := (by rw [hk])
   have hrd := RdT.nil (enc := encShape) (sz := 3) fR [[]]
   rw [hl] at hrd
   exact ⟨_, _, _, _, (by rw [hk]; rfl), hrd, a7⟩
  refine cF _ (bne_eq_false_iff_eq.2 f4) ?_
  refine kT ?_
  obtain ⟨b7, j4, k4, k2, c7, d7⟩ := RdT.elem x0 ((i : Nat) : Int)
  rw [Int.toNat_natCast] at k2
  obtain rfl : b0 = b7 := Option.some.inj (t0.symm.trans k2)
  have hox_x_54 : ((p.inputs.n : Nat) : Int) ≤ b0 ∧ b0 < ((p.inputs.n : Nat) : Int) + ((p.stages.n : Nat) : Int) := by have h := hordr b0 (List.mem_of_getElem? k2); simp only [Job.v] at h; omega
  obtain ⟨e7, f7, g7, h7, p9, i7, j7⟩ := OwnT.elem hOys b0
  refine drawE [7] [(4, ⟨j4, k4, none⟩, I b0), (5, ⟨i2, 0, none⟩, I ((ofV a0.v e0 (⟨0, 0, 0⟩ : Shape)).1.w)), (5, ⟨i2, 1, none⟩, I ((ofV a0.v e0 (⟨0, 0, 0⟩ : Shape)).1.h)), (5, ⟨i2, 2, none⟩, I ((ofV a0.v e0 (⟨0, 0, 0⟩ : Shape)).1.max_))] [(true, [0, 1, 2]), (true, [3]), (true, [4]), (true, [5]), (true, [6]), (false, [7])] rfl kr ⟨.inr ((c7.up 4 rfl).cell a1 (k := 0) rfl), .inr (a1.cell 0 rfl rfl), .inr (a1.cell 0 rfl rfl), .inr (a1.cell 0 rfl rfl), trivial⟩ ?_
  have k7 := a1.drew
  refine wU [0, 1, 2] ?_
  refine wS (.pointer (some ⟨j4, k4, none⟩)) rfl rfl rfl (fun w _ => Y_idx (a := u0) (i := ((i : Nat) : Int)) (len := q0) (cap := v0) rfl Try.runUnderlying22 Try.sizeOf3 kr kr d7) ?_
  refine wS (I b0) rfl rfl rfl (fun w hF => Y_load rfl (Try.isAgg3 w) kr (hF 0 _ _ rfl)) ?_
  refine wS (.agg #[I ((ofV a0.v e0 (⟨0, 0, 0⟩ : Shape)).1.w), I ((ofV a0.v e0 (⟨0, 0, 0⟩ : Shape)).1.h), I ((ofV a0.v e0 (⟨0, 0, 0⟩ : Shape)).1.max_)]) rfl rfl rfl (fun w hF => Y_loadF rfl (Try.isAgg55 w) (Try.sizeOf55 w) kr rfl ⟨hF 1 _ _ rfl, hF 2 _ _ rfl, hF 3 _ _ rfl, trivial⟩) ?_
  refine wS (.pointer (some ⟨f7, g7 + (b0).toNat * 3, none⟩)) rfl rfl rfl (fun w _ => Y_idx (a := ays) (i := b0) (len := nys) (cap := kys) rfl Try.runUnderlying52 Try.sizeOf55 kr kr i7) ?_
  refine wO rfl ?_
  refine sStF k7 hOys j7 3 (b0).toNat 0 e7 (⟨(ofV a0.v e0 (⟨0, 0, 0⟩ : Shape)).1.w, (ofV a0.v e0 (⟨0, 0, 0⟩ : Shape)).1.h, (ofV a0.v e0 (⟨0, 0, 0⟩ : Shape)).1.max_⟩ : Shape) h7 (.agg #[I ((ofV a0.v e0 (⟨0, 0, 0⟩ : Shape)).1.w), I ((ofV a0.v e0 (⟨0, 0, 0⟩ : Shape)).1.h), I ((ofV a0.v e0 (⟨0, 0, 0⟩ : Shape)).1.max_)]) [I ((ofV a0.v e0 (⟨0, 0, 0⟩ : Shape)).1.w), I ((ofV a0.v e0 (⟨0, 0, 0⟩ : Shape)).1.h), I ((ofV a0.v e0 (⟨0, 0, 0⟩ : Shape)).1.max_)] Try.sizeOf55 ?_
  intro _ l4 l7 m4
  try dsimp only [List.set, List.eraseIdx, Value.cells] at m4
  refine nilO ⟨dA, ?_⟩
  refine wN ?_
  refine blockK_n <| thenK_n <| regionE <| pu1 ?_
  refine sAdd ((i : Nat) : Int) 1 ?_
  refine pu1 <| nT ?_
  have hstg : stgAt (p.stages.l.map Stage.v) ((p.inputs.n : Nat) : Int) b0 = a0.v := by unfold stgAt; rw [map_at (f := Stage.v) f0]; rfl
  have hsa3 : shpAt ys a0.v.a = e0 := by unfold shpAt; rw [show ys[a0.v.a.toNat]? = some e0 from p1]; rfl
  have hsb3 : (if twoP a0.v then shpAt ys a0.v.b else ⟨0, 0, 0⟩) = (⟨0, 0, 0⟩ : Shape) := by rw [if_neg (by unfold twoP; simp only [Stage.v]; assumption)]
  have hst : shpStep ((p.inputs.n : Nat) : Int) (p.stages.l.map Stage.v) b0 ys = ofV a0.v e0 (⟨0, 0, 0⟩ : Shape) := by unfold shpStep; rw [hstg, hsa3, hsb3]
  have n4 := (((((((m4.pick 6 rfl).pick 6 rfl).pick 6 rfl).pick 6 rfl).dropAt 4 rfl).dropAt 4 rfl).dropAt 4 rfl)
  change Sat _ _ (l4 :: w0 :: [(n0, .cells (encJob p).toArray 28 (0, 0))] :: H :: F) at n4
  exact ⟨(i + 1, (ys.set ((b0).toNat) (⟨(ofV a0.v e0 (⟨0, 0, 0⟩ : Shape)).1.w, (ofV a0.v e0 (⟨0, 0, 0⟩ : Shape)).1.h, (ofV a0.v e0 (⟨0, 0, 0⟩ : Shape)).1.max_⟩ : Shape)), ays, nys, kys, l4), od, alA, n4, om, by rw [hS2, drop_at t0, shpGo, hst, if_pos ‹_›], by simp; omega, l7⟩
 refine qO rfl ?_
 refine sAlloc c4 Try.zeroValue55 ?_
 intro l2 _ l0
 refine nilO ⟨⟨.inr (l0.cell 2 rfl rfl), .inr (l0.cell 2 rfl rfl), .inr (l0.cell 2 rfl rfl), .inr (l0.cell 2 rfl rfl), .inr (l0.cell 2 rfl rfl), .inr (l0.cell 2 rfl rfl), .inr (l0.cell 2 rfl rfl), .inr (l0.cell 2 rfl rfl), .inr (l0.cell 2 rfl rfl), .inr (l0.cell 2 rfl rfl), .inr (l0.cell 2 rfl rfl), .inr (l0.cell 2 rfl rfl), .inr (l0.cell 2 rfl rfl), .inr (l0.cell 2 rfl rfl), .inr (l0.cell 2 rfl rfl), .inr (l0.cell 2 rfl rfl), .inr (l0.cell 2 rfl rfl), .inr (l0.cell 2 rfl rfl), .inr (l0.cell 2 rfl rfl), .inr ((g1.up 3 rfl).cell l0 (k := 0) rfl), .inr ((g1.up 3 rfl).cell l0 (k := 1) rfl), .inr ((g1.up 3 rfl).cell l0 (k := 2) rfl), .inr (l0.cell 1 rfl rfl), .inr (l0.cell 1 rfl rfl), .inr (l0.cell 1 rfl rfl), trivial⟩, ?_⟩
 refine qO rfl ?_
 refine sF #[.agg (encStage a0).toArray, .agg #[I e0.w, I e0.h, I e0.max_], .agg #[I 0, I 0, I 0]] Try.call61 (Calls.mono (r15_of W _ _ [] a0 e0 (⟨0, 0, 0⟩ : Shape) ⟨(RdT.flat ((hp.stagesD a0 (List.mem_of_getElem? f0)).weights.up 6 (by rfl))), (RdT.flat ((hp.stagesD a0 (List.mem_of_getElem? f0)).row.up 6 (by rfl))), (RdT.flat ((hp.stagesD a0 (List.mem_of_getElem? f0)).col.up 6 (by rfl))), (RdT.flat ((hp.stagesD a0 (List.mem_of_getElem? f0)).x.up 6 (by rfl))), (fun z hz => ((hp.stagesD a0 (List.mem_of_getElem? f0)).xD z hz).of_mem (mem_flat1 6 (by rfl))), (RdT.flat ((hp.stagesD a0 (List.mem_of_getElem? f0)).y.up 6 (by rfl))), (fun z hz => ((hp.stagesD a0 (List.mem_of_getElem? f0)).yD z hz).of_mem (mem_flat1 6 (by rfl))), (RdT.flat ((hp.stagesD a0 (List.mem_of_getElem? f0)).ops.up 6 (by rfl)))⟩ (Sat.flat l0)) ?_)
 rintro _ _ ⟨rfl, o4⟩
 refine ⟨_, rfl, ?_⟩
 have m2 := Sat.unflat o4; clear o4
 try dsimp only [List.set, List.eraseIdx, Value.cells] at m2
 refine nilO ⟨⟨dI, dI, dI, dI, dI, dI, dI, dI, dI, dI, dI, dI, dI, dI, dI, dI, dI, dI, .inr (m2.cell 2 rfl rfl), dI, dI, dI, dI, dI, dI, trivial⟩, ?_⟩
 refine qU [8] <| qU [9] <| qU [10] ?_
 refine qO rfl ?_
 refine sTw m2 0 [I ((ofV a0.v e0 (⟨0, 0, 0⟩ : Shape)).1.w), I ((ofV a0.v e0 (⟨0, 0, 0⟩ : Shape)).1.h), I ((ofV a0.v e0 (⟨0, 0, 0⟩ : Shape)).1.max_)] Try.sizeOf55 ?_
 intro _ b1
 try dsimp only [List.set, List.eraseIdx, Value.cells] at b1
 refine nilO ⟨dA, ?_⟩
 refine qU [13] ?_
 refine qN ?_
 refine thenK_n <| seqE <| sR <| pu2 <| nT ?_
 by_cases p4 : ((ofV a0.v e0 (⟨0, 0, 0⟩ : Shape)).2 : Int) = 0
 rotate_left
 ·refine cT _ (bne_iff_ne.2 p4) ?_
  refine seqE ?_
  obtain ⟨m7, q4, r4, n2, n7, o7⟩ := RdT.elem x0 ((i : Nat) : Int)
  rw [Int.toNat_natCast] at n2
  obtain rfl : b0 = m7 := Option.some.inj (t0.symm.trans n2)
  have hox_x_54 : ((p.inputs.n : Nat) : Int) ≤ b0 ∧ b0 < ((p.inputs.n : Nat) : Int) + ((p.stages.n : Nat) : Int) := by have h := hordr b0 (List.mem_of_getElem? n2); simp only [Job.v] at h; omega
  refine drawE [] [(3, ⟨q4, r4, none⟩, I b0)] [(true, [0, 1]), (true, [2]), (true, [4, 5]), (true, [3]), (true, [6, 7])] rfl kr ⟨.inr ((n7.up 4 rfl).cell b1 (k := 0) rfl), trivial⟩ ?_
  have p7 := b1.drew
  refine wU [0, 1] ?_
  refine wS (.pointer (some ⟨q4, r4, none⟩)) rfl rfl rfl (fun w _ => Y_idx (a := u0) (i := ((i : Nat) : Int)) (len := q0) (cap := v0) rfl Try.runUnderlying22 Try.sizeOf3 kr kr o7) ?_
  refine wU [4, 5] ?_
  refine wS (I b0) rfl rfl rfl (fun w hF => Y_load rfl (Try.isAgg3 w) kr (hF 0 _ _ rfl)) ?_
  refine wU [6, 7] ?_
  refine wN ?_
  refine thenK_n ?_
  refine retE (tR <| thenK_r <| tR <| thenK_r <| ?_)
  refine retT [.slice none 0 0, I b0, I ((ofV a0.v e0 (⟨0, 0, 0⟩ : Shape)).2)] ?_
  have hk0 : shpV p.v = shpGo ((p.inputs.n : Nat) : Int) (p.stages.l.map Stage.v) ((ordV p.v).1) zs := by unfold shpV; rw [if_pos ‹_›, if_pos (by exact hall)]; rw [hzs, ← hms, ← hmi]; rfl
  have hstg : stgAt (p.stages.l.map Stage.v) ((p.inputs.n : Nat) : Int) b0 = a0.v := by unfold stgAt; rw [map_at (f := Stage.v) f0]; rfl
  have hsa3 : shpAt ys a0.v.a = e0 := by unfold shpAt; rw [show ys[a0.v.a.toNat]? = some e0 from p1]; rfl
  have hsb3 : (if twoP a0.v then shpAt ys a0.v.b else ⟨0, 0, 0⟩) = (⟨0, 0, 0⟩ : Shape) := by rw [if_neg (by unfold twoP; simp only [Stage.v]; assumption)]
  have hst : shpStep ((p.inputs.n : Nat) : Int) (p.stages.l.map Stage.v) b0 ys = ofV a0.v e0 (⟨0, 0, 0⟩ : Shape) := by unfold shpStep; rw [hstg, hsa3, hsb3]
  have hk : shpV p.v = ([], b0, (ofV a0.v e0 (⟨0, 0, 0⟩ : Shape)).2) := by rw [hk0, hS2, drop_at t0, shpGo, hst, if_neg ‹_›]
  have s4 := (((((((p7.pick 6 rfl).dropAt 1 rfl).dropAt 1 rfl).dropAt 1 rfl).dropAt 1 rfl).dropAt 1 rfl).dropAt 1 rfl)
  change Sat _ _ (H :: F) at s4
  have q7 : Sat W _ ([] :: H :: F) := Sat.nilc s4
  have hl : ([] : List Shape) = (shpV p.v).1 := (by rw [hk])
  have hrd := RdT.nil (enc := encShape) (sz := 3) fR [[]]
  rw [hl] at hrd
  exact ⟨_, _, _, _, (by rw [hk]; rfl), hrd, q7⟩
 refine cF _ (bne_eq_false_iff_eq.2 p4) ?_
 refine kT ?_
 obtain ⟨r7, t4, u4, o2, s7, t7⟩ := RdT.elem x0 ((i : Nat) : Int)
 rw [Int.toNat_natCast] at o2
 obtain rfl : b0 = r7 := Option.some.inj (t0.symm.trans o2)
 have hox_x_54 : ((p.inputs.n : Nat) : Int) ≤ b0 ∧ b0 < ((p.inputs.n : Nat) : Int) + ((p.stages.n : Nat) : Int) := by have h := hordr b0 (List.mem_of_getElem? o2); simp only [Job.v] at h; omega
 obtain ⟨u7, v7, w7, x7, u9, y7, z7⟩ := OwnT.elem hOys b0
 refine drawE [7] [(4, ⟨t4, u4, none⟩, I b0), (5, ⟨l2, 0, none⟩, I ((ofV a0.v e0 (⟨0, 0, 0⟩ : Shape)).1.w)), (5, ⟨l2, 1, none⟩, I ((ofV a0.v e0 (⟨0, 0, 0⟩ : Shape)).1.h)), (5, ⟨l2, 2, none⟩, I ((ofV a0.v e0 (⟨0, 0, 0⟩ : Shape)).1.max_))] [(true, [0, 1, 2]), (true, [3]), (true, [4]), (true, [5]), (true, [6]), (false, [7])] rfl kr ⟨.inr ((s7.up 4 rfl).cell b1 (k := 0) rfl), .inr (b1.cell 0 rfl rfl), .inr (b1.cell 0 rfl rfl), .inr (b1.cell 0 rfl rfl), trivial⟩ ?_
 have a8 := b1.drew
 refine wU [0, 1, 2] ?_
 refine wS (.pointer (some ⟨t4, u4, none⟩)) rfl rfl rfl (fun w _ => Y_idx (a := u0) (i := ((i : Nat) : Int)) (len := q0) (cap := v0) rfl Try.runUnderlying22 Try.sizeOf3 kr kr t7) ?_
 refine wS (I b0) rfl rfl rfl (fun w hF => Y_load rfl (Try.isAgg3 w) kr (hF 0 _ _ rfl)) ?_
 refine wS (.agg #[I ((ofV a0.v e0 (⟨0, 0, 0⟩ : Shape)).1.w), I ((ofV a0.v e0 (⟨0, 0, 0⟩ : Shape)).1.h), I ((ofV a0.v e0 (⟨0, 0, 0⟩ : Shape)).1.max_)]) rfl rfl rfl (fun w hF => Y_loadF rfl (Try.isAgg55 w) (Try.sizeOf55 w) kr rfl ⟨hF 1 _ _ rfl, hF 2 _ _ rfl, hF 3 _ _ rfl, trivial⟩) ?_
 refine wS (.pointer (some ⟨v7, w7 + (b0).toNat * 3, none⟩)) rfl rfl rfl (fun w _ => Y_idx (a := ays) (i := b0) (len := nys) (cap := kys) rfl Try.runUnderlying52 Try.sizeOf55 kr kr y7) ?_
 refine wO rfl ?_
 refine sStF a8 hOys z7 3 (b0).toNat 0 u7 (⟨(ofV a0.v e0 (⟨0, 0, 0⟩ : Shape)).1.w, (ofV a0.v e0 (⟨0, 0, 0⟩ : Shape)).1.h, (ofV a0.v e0 (⟨0, 0, 0⟩ : Shape)).1.max_⟩ : Shape) x7 (.agg #[I ((ofV a0.v e0 (⟨0, 0, 0⟩ : Shape)).1.w), I ((ofV a0.v e0 (⟨0, 0, 0⟩ : Shape)).1.h), I ((ofV a0.v e0 (⟨0, 0, 0⟩ : Shape)).1.max_)]) [I ((ofV a0.v e0 (⟨0, 0, 0⟩ : Shape)).1.w), I ((ofV a0.v e0 (⟨0, 0, 0⟩ : Shape)).1.h), I ((ofV a0.v e0 (⟨0, 0, 0⟩ : Shape)).1.max_)] Try.sizeOf55 ?_
 intro _ v4 b8 w4
 try dsimp only [List.set, List.eraseIdx, Value.cells] at w4
 refine nilO ⟨dA, ?_⟩
 refine wN ?_
 refine blockK_n <| thenK_n <| regionE <| pu1 ?_
 refine sAdd ((i : Nat) : Int) 1 ?_
 refine pu1 <| nT ?_
 have hstg : stgAt (p.stages.l.map Stage.v) ((p.inputs.n : Nat) : Int) b0 = a0.v := by unfold stgAt; rw [map_at (f := Stage.v) f0]; rfl
 have hsa3 : shpAt ys a0.v.a = e0 := by unfold shpAt; rw [show ys[a0.v.a.toNat]? = some e0 from p1]; rfl
 have hsb3 : (if twoP a0.v then shpAt ys a0.v.b else ⟨0, 0, 0⟩) = (⟨0, 0, 0⟩ : Shape) := by rw [if_neg (by unfold twoP; simp only [Stage.v]; assumption)]
 have hst : shpStep ((p.inputs.n : Nat) : Int) (p.stages.l.map Stage.v) b0 ys = ofV a0.v e0 (⟨0, 0, 0⟩ : Shape) := by unfold shpStep; rw [hstg, hsa3, hsb3]
 have x4 := (((((((w4.pick 6 rfl).pick 6 rfl).pick 6 rfl).pick 6 rfl).dropAt 4 rfl).dropAt 4 rfl).dropAt 4 rfl)
 change Sat _ _ (v4 :: w0 :: [(n0, .cells (encJob p).toArray 28 (0, 0))] :: H :: F) at x4
 exact ⟨(i + 1, (ys.set ((b0).toNat) (⟨(ofV a0.v e0 (⟨0, 0, 0⟩ : Shape)).1.w, (ofV a0.v e0 (⟨0, 0, 0⟩ : Shape)).1.h, (ofV a0.v e0 (⟨0, 0, 0⟩ : Shape)).1.max_⟩ : Shape)), ays, nys, kys, v4), od, alA, x4, om, by rw [hS2, drop_at t0, shpGo, hst, if_pos ‹_›], by simp; omega, b8⟩
theorem r17_checkj (W w : World) (H : Chunk) (F : List Chunk) (p : Job) (hp : Job.Ok [H] p) (hb : p.inputs.n ≤ 1000000 ∧ p.stages.n ≤ 1000000 ∧ p.outputs.n ≤ 1000000) (hS : Sat W w (H :: F)) :
  Calls Try.prog 24 #[.agg (encJob p).toArray] w fun e w' => e = .returned (.tuple #[I ((shpV p.v).2.1), I ((shpV p.v).2.2)]) ∧ Sat W w' (H :: F) := by
 have hl_p_inputs := hp.inputs.le; have hn_p_inputs := hp.inputs.len
 have hl_p_stages := hp.stages.le; have hn_p_stages := hp.stages.len
 have hl_p_outputs := hp.outputs.le; have hn_p_outputs := hp.outputs.len
 refine callsE (n := 15) Try.func24 rfl rfl (Nat.le_of_ble_eq_true rfl) ?_
 refine sR ?_
 refine sBox hS (.agg (encJob p).toArray) (encJob p).toArray ?_
 intro f0 _ a0
 refine pu2 <| nT <| sR ?_
 refine sLA a0 0 0 [.slice p.inputs.a p.inputs.n p.inputs.k, .slice p.stages.a p.stages.n p.stages.k, .slice p.outputs.a p.outputs.n p.outputs.k, I p.priority] (Try.isAgg28 _) (Try.sizeOf28 _) ?_
 refine sF #[.agg (encJob p).toArray] Try.call41 (Calls.mono (r17_shapes W _ _ [] p ⟨(RdT.flat (hp.inputs.up 1 (by rfl))), (fun z hz => (hp.inputsD z hz).of_mem (mem_flat1 1 (by rfl))), (RdT.flat (hp.stages.up 1 (by rfl))), (fun z hz => (hp.stagesD z hz).of_mem (mem_flat1 1 (by rfl))), (RdT.flat (hp.outputs.up 1 (by rfl)))⟩ (od) (Sat.flat a0)) ?_)
 rintro _ _ ⟨_, _, _, g0, rfl, b0, c0⟩
 refine ⟨_, rfl, ?_⟩
 have d0 := Sat.unflat1 c0; clear c0
 have hn_az_7 := b0.len; have hl_az_7 := b0.le
 change Sat _ _ (g0 :: [(f0, .cells (encJob p).toArray 28 (0, 0))] :: H :: F) at d0
 refine pu7 <| nT <| sR <| pu4 <| nT <| retE <| retT [I ((shpV p.v).2.1), I ((shpV p.v).2.2)] ?_
 have e0 := (((d0.pick 2 rfl).dropAt 1 rfl).dropAt 1 rfl)
 change Sat _ _ (H :: F) at e0
 exact ⟨rfl, e0⟩
end Go.Proofs.Ytcddcpaodcjecaa
