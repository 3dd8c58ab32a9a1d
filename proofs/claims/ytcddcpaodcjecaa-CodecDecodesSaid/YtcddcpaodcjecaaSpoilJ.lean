import Derived.Test.YtcddcpaodcjecaaSpoil
namespace Go.Proofs.Ytcddcpaodcjecaa
open Go Go.E
set_option linter.unusedVariables false
set_option linter.unusedSimpArgs false
set_option linter.unnecessarySimpa false
set_option maxRecDepth 100000
set_option maxHeartbeats 2000000
-- squeezed
theorem tg_copyJob (W w : World) (H : Chunk) (F : List Chunk) (j0 : Job) (hj0 : Job.Ok [H] j0) (hb : j0.inputs.n ≤ 1000 ∧ j0.stages.n ≤ 1000 ∧ j0.outputs.n ≤ 1000) (hS : Sat W w (H :: F)) :
  Calls Try.prog 25 #[.agg (encJob j0).toArray] w fun e w' => ∃ (a1 a2 a3 : Option Addr) (n1 k1 n2 k2 n3 k3 : Nat) (c1 c2 c3 : Chunk), e = .returned (.agg #[.slice a1 n1 k1, .slice a2 n2 k2, .slice a3 n3 k3, I j0.priority]) ∧ OwnT encPlane 49 4 a1 n1 k1 j0.inputs.l c1 ∧ OwnT encStage 61 18 a2 n2 k2 j0.stages.l c2 ∧ OwnT encI 3 1 a3 n3 k3 j0.outputs.l c3 ∧ Sat W w' (c1 :: c2 :: c3 :: H :: F) := by
 have hl_j0_inputs := hj0.inputs.le; have hn_j0_inputs := hj0.inputs.len
 have hl_j0_stages := hj0.stages.le; have hn_j0_stages := hj0.stages.len
 have hl_j0_outputs := hj0.outputs.le; have hn_j0_outputs := hj0.outputs.len
 refine callsE (n := 19) Try.func25 rfl rfl (Nat.le_of_ble_eq_true rfl) ?_
 refine sR ?_
 refine sBox hS (.agg (encJob j0).toArray) (encJob j0).toArray ?_
 intro _ _ s0
 refine sAlloc s0 Try.zeroValue28 ?_
 intro _ _ t0
 refine nT <| sR ?_
 refine sBS t0 #[] Try.runUnderlying25 Try.sizeOf49 Try.zeroValue49 ?_
 intro u0 _ i0
 refine pu1 ?_
 refine sL i0 2 0 (.slice j0.inputs.a j0.inputs.n j0.inputs.k) (Try.isAgg25 _) ?_
 have v0 := OwnT.blk (enc := encPlane) (sz := 4) (b := u0) (c := #[]) (E := 49) (xs := []) fR 0 rfl rfl rfl om
 refine sApp (nb := 48) i0 v0 0 (hj0.inputs.up 3 rfl) Try.underlying25 (i := Try.t49) kr fR ?_
 intro a0 b0 w0 _ x0 k0
 try dsimp only [List.set, List.eraseIdx, Value.cells] at k0
 refine pu1 ?_
 refine sT1 k0 2 0 (.slice a0 (0 + j0.inputs.n) b0) #[.slice a0 (0 + j0.inputs.n) b0, .slice j0.stages.a j0.stages.n j0.stages.k, .slice j0.outputs.a j0.outputs.n j0.outputs.k, I j0.priority] Try.sizeOf25 ?_
 intro _ l0
 try dsimp only [List.set, List.eraseIdx, Value.cells] at l0
 refine nT <| sR ?_
 refine sBS l0 #[] Try.runUnderlying26 Try.sizeOf61 Try.zeroValue61 ?_
 intro y0 _ m0
 refine pu1 ?_
 refine sL m0 3 1 (.slice j0.stages.a j0.stages.n j0.stages.k) (Try.isAgg26 _) ?_
 have z0 := OwnT.blk (enc := encStage) (sz := 18) (b := y0) (c := #[]) (E := 61) (xs := []) fR 0 rfl rfl rfl om
 refine sApp (nb := 240) m0 z0 0 (hj0.stages.up 4 rfl) Try.underlying26 (i := Try.t61) kr fR ?_
 intro c0 d0 b1 _ d1 n0
 try dsimp only [List.set, List.eraseIdx, Value.cells] at n0
 refine pu1 ?_
 refine sT1 n0 3 1 (.slice c0 (0 + j0.stages.n) d0) #[.slice a0 (0 + j0.inputs.n) b0, .slice c0 (0 + j0.stages.n) d0, .slice j0.outputs.a j0.outputs.n j0.outputs.k, I j0.priority] Try.sizeOf26 ?_
 intro _ o0
 try dsimp only [List.set, List.eraseIdx, Value.cells] at o0
 refine nT <| sR ?_
 refine sBS o0 #[] Try.runUnderlying22 Try.sizeOf3 Try.zeroValue3 ?_
 intro e1 _ p0
 refine pu1 ?_
 refine sL p0 4 2 (.slice j0.outputs.a j0.outputs.n j0.outputs.k) (Try.isAgg22 _) ?_
 have f1 := OwnT.blk (enc := encI) (sz := 1) (b := e1) (c := #[]) (E := 3) (xs := []) fR 0 rfl rfl rfl om
 refine sApp (nb := 8) p0 f1 0 (hj0.outputs.up 5 rfl) Try.underlying22 (i := Try.t3) kr fR ?_
 intro e0 f0 g1 _ h1 q0
 try dsimp only [List.set, List.eraseIdx, Value.cells] at q0
 refine pu1 ?_
 refine sT1 q0 4 2 (.slice e0 (0 + j0.outputs.n) f0) #[.slice a0 (0 + j0.inputs.n) b0, .slice c0 (0 + j0.stages.n) d0, .slice e0 (0 + j0.outputs.n) f0, I j0.priority] Try.sizeOf22 ?_
 intro _ g0
 try dsimp only [List.set, List.eraseIdx, Value.cells] at g0
 refine nT <| sR ?_
 refine sLA g0 4 0 [.slice a0 (0 + j0.inputs.n) b0, .slice c0 (0 + j0.stages.n) d0, .slice e0 (0 + j0.outputs.n) f0, I j0.priority] (Try.isAgg28 _) (Try.sizeOf28 _) ?_
 refine sTw g0 3 [.slice a0 (0 + j0.inputs.n) b0, .slice c0 (0 + j0.stages.n) d0, .slice e0 (0 + j0.outputs.n) f0, I j0.priority] Try.sizeOf28 ?_
 intro _ h0
 try dsimp only [List.set, List.eraseIdx, Value.cells] at h0
 refine nT <| retE <| retN (vs := [.agg #[.slice a0 (0 + j0.inputs.n) b0, .slice c0 (0 + j0.stages.n) d0, .slice e0 (0 + j0.outputs.n) f0, I j0.priority]]) rfl (.cons (.cell _ _ _ _ kr (lvA h0 3 0 [.slice a0 (0 + j0.inputs.n) b0, .slice c0 (0 + j0.stages.n) d0, .slice e0 (0 + j0.outputs.n) f0, I j0.priority] (Try.isAgg28 _) (Try.sizeOf28 _) rfl rfl rfl)) .nil) ?_
 have r0 := ((((((h0.pick 5 rfl).pick 1 rfl).pick 2 rfl).pick 3 rfl).dropAt 4 rfl).dropAt 4 rfl)
 change Sat _ _ (w0 :: b1 :: g1 :: H :: F) at r0
 exact ⟨_, _, _, _, _, _, _, _, _, _, _, _, rfl, (by have h := x0; rw [List.nil_append] at h; exact h), (by have h := d1; rw [List.nil_append] at h; exact h), (by have h := h1; rw [List.nil_append] at h; exact h), r0⟩

def jobS (k : Nat) (q : Job) : Prop := (q.inputs.l.length ≤ 2 ∧ ∀ z ∈ q.inputs.l, planeS k z) ∧ (q.stages.l.length ≤ 4 ∧ ∀ z ∈ q.stages.l, stageB k z) ∧ (q.outputs.l.length ≤ 2 + k ∧ ∀ z ∈ q.outputs.l, numB z) ∧ numB q.priority
theorem planeS_mono {k m : Nat} {q : Plane} (h : planeS k q) (hm : k ≤ m) : planeS m q := ⟨⟨numS_mono h.1.1 hm, numS_mono h.1.2.1 hm, numS_mono h.1.2.2 hm⟩, by have := h.2.1; omega, fun z hz => numS_mono (h.2.2 z hz) hm⟩
theorem stageB_mono {k m : Nat} {q : Stage} (h : stageB k q) (hm : k ≤ m) : stageB m q := by
  unfold stageB at *
  refine ⟨h.1, h.2.1, h.2.2.1, h.2.2.2.1, ⟨by have := h.2.2.2.2.1.1; omega, h.2.2.2.2.1.2⟩, ⟨by have := h.2.2.2.2.2.1.1; omega, h.2.2.2.2.2.1.2⟩, by have := h.2.2.2.2.2.2.1; omega, h.2.2.2.2.2.2.2⟩
theorem jobB_S {q : Job} (h : jobB 0 q) : jobS 0 q := by
  refine ⟨⟨h.1.1, fun z hz => ?_⟩, h.2⟩
  have h1 := h.1.2 z hz
  have e : ∀ x, numB x → numS 0 x := fun x hx => by unfold numB at hx; unfold numS; omega
  exact ⟨⟨e _ h1.2.1, e _ h1.2.2.1, e _ h1.2.2.2⟩, by have := h1.1.1; omega, fun y hy => e _ (h1.1.2 y hy)⟩
theorem tg_spoilJob (W w : World) (p : Nat) (a : Option Addr) (n k : Nat) (i : Int) (xs : List Int) (H J : Chunk) (F : List Chunk) (hR : RdT encI 1 [H] a n k xs) (hi : 0 ≤ i ∧ i ≤ n) (hS : Sat W w ([(p, .cells #[.slice a n k, I i] 46 (0, 0))] :: J :: H :: F)) (j0 : Job) (hj0 : Job.Ok [J] j0) (kk : Nat) (hkk : kk ≤ 100) (hjS : jobS kk j0) :
  Calls Try.prog 10 #[Pt p 0, .agg (encJob j0).toArray] w fun e w' => ∃ (q : Job) (G : Chunk), e = .returned (.agg (encJob q).toArray) ∧ (Job.Ok [G ++ J] q) ∧ (jobS (kk + 1) q) ∧ ∃ i' : Int, (0 ≤ i' ∧ i' ≤ n) ∧ Sat W w' ([(p, .cells #[.slice a n k, I i'] 46 (0, 0))] :: G :: J :: H :: F) := by
 have hl_j0_inputs := hj0.inputs.le; have hn_j0_inputs := hj0.inputs.len
 have hl_j0_stages := hj0.stages.le; have hn_j0_stages := hj0.stages.len
 have hl_j0_outputs := hj0.outputs.le; have hn_j0_outputs := hj0.outputs.len
 have hle := hR.le
 have hb1 := hjS.1.1; have hb2 := hjS.2.1.1; have hb3 := hjS.2.2.1.1
 refine callsE (n := 85) Try.func10 rfl rfl (Nat.le_of_ble_eq_true rfl) ?_
 refine sR ?_
 refine sBox hS (.agg (encJob j0).toArray) (encJob j0).toArray ?_
 intro g0 _ r3
 refine sAlloc r3 Try.zeroValue28 ?_
 intro m0 _ m1
 refine nT <| sR ?_
 refine sLA m1 1 0 [.slice j0.inputs.a j0.inputs.n j0.inputs.k, .slice j0.stages.a j0.stages.n j0.stages.k, .slice j0.outputs.a j0.outputs.n j0.outputs.k, I j0.priority] (Try.isAgg28 _) (Try.sizeOf28 _) ?_
 refine sF #[.agg (encJob j0).toArray] Try.call25 (Calls.mono (tg_copyJob W _ _ [] j0 ⟨(RdT.flat (hj0.inputs.up 3 (by rfl))), (fun z hz => (hj0.inputsD z hz).of_mem (mem_flat1 3 (by rfl))), (RdT.flat (hj0.stages.up 3 (by rfl))), (fun z hz => (hj0.stagesD z hz).of_mem (mem_flat1 3 (by rfl))), (RdT.flat (hj0.outputs.up 3 (by rfl)))⟩ om (Sat.flat m1)) ?_)
 rintro _ _ ⟨a1_9, a2_10, a3_11, n1_12, k1_13, n2_14, k2_15, n3_16, k3_17, c1_18, c2_19, c3_20, rfl, i0, k0, n0, n1⟩
 refine ⟨_, rfl, ?_⟩
 have o1 := Sat.unflatc n1; clear n1
 try dsimp only [List.set, List.eraseIdx, Value.cells] at o1
 have hn_a1_9 := i0.len; have hl_a1_9 := i0.le
 have hn_a2_10 := k0.len; have hl_a2_10 := k0.le
 have hn_a3_11 := n0.len; have hl_a3_11 := n0.le
 refine sTw o1 4 [.slice a1_9 n1_12 k1_13, .slice a2_10 n2_14 k2_15, .slice a3_11 n3_16 k3_17, I j0.priority] Try.sizeOf28 ?_
 intro _ p1
 try dsimp only [List.set, List.eraseIdx, Value.cells] at p1
 refine nT ?_
 refine cutE (fun ρ w => ∃ (q : Job) (G1 : Chunk) (itc : Int), AllAt ρ [(0, Pt p 0), (3, Pt g0 0), (4, Pt m0 0)] ∧ Sat W w ([(p, .cells #[.slice a n k, I itc] 46 (0, 0))] :: [(g0, .cells (encJob q).toArray 28 (0, 0))] :: [(m0, .cells #[.slice none 0 0, .slice none 0 0, .slice none 0 0, I 0] 28 (0, 0))] :: G1 :: J :: H :: F) ∧ (0 ≤ itc ∧ itc ≤ n) ∧ Job.Ok [G1 ++ J] q ∧ jobS (kk + 1) q) ?_ ?_
 rotate_left
 ·rintro ρ _ ⟨q, G1, itc, hA, q1, hitc, hqok, hqS⟩
  refine cAnchor hA (fun ρ => ?_)
  clear hA
  refine sR ?_
  refine sLA q1 1 0 [.slice q.inputs.a q.inputs.n q.inputs.k, .slice q.stages.a q.stages.n q.stages.k, .slice q.outputs.a q.outputs.n q.outputs.k, I q.priority] (Try.isAgg28 _) (Try.sizeOf28 _) ?_
  refine sT q1 2 0 (.agg (encJob q).toArray) (encJob q) (encJob q).toArray Try.sizeOf28 ?_
  intro _ r1
  refine nT <| retE <| retN (vs := [.agg (encJob q).toArray]) rfl (.cons (.cell _ _ _ _ kr (lvA r1 2 0 (encJob q) (Try.isAgg28 _) (Try.sizeOf28 _) rfl rfl rfl)) .nil) ?_
  have s1 := ((((((r1.pick 5 rfl).pick 5 rfl).pick 5 rfl).pick 3 rfl).dropAt 4 rfl).dropAt 4 rfl)
  change Sat _ _ ([(p, .cells #[.slice a n k, I itc] 46 (0, 0))] :: G1 :: J :: H :: F) at s1
  exact ⟨q, G1, rfl, hqok, hqS, _, om, s1⟩
 refine sR <| pu1 ?_
 have t1 := (p1.pick 5 rfl)
 try dsimp only [List.set, List.eraseIdx, Value.cells] at t1
 refine sF #[Pt p 0, I 7] Try.call19 (Calls.mono (tape_next W _ _ _ _ _ i _ _ [] (RdT.flat (hR.up 6 (by rfl))) om (Sat.flat1 t1) 7 om) ?_)
 rintro _ _ ⟨w0, rfl, _, o0, _, u1⟩
 refine ⟨_, rfl, ?_⟩
 have c0 := Sat.unflat1 u1; clear u1
 try dsimp only [List.set, List.eraseIdx, Value.cells] at c0
 refine nT <| blockE <| sR <| pu2 <| nT ?_
 by_cases v1 : (w0 : Int) = 0
 ·refine cT _ (beq_iff_eq.2 v1) ?_
  refine regionE <| pu1 ?_
  refine sBS c0 #[I (-1), I 4, I 3] Try.runUnderlying22 Try.sizeOf3 Try.zeroValue3 ?_
  intro s3 _ u3
  have w1 := (u3.pick 1 rfl)
  try dsimp only [List.set, List.eraseIdx, Value.cells] at w1
  refine sF #[Pt p 0, .slice (At s3 0) 3 3] Try.call26 (Calls.mono (tape_pick W _ _ _ _ _ o0 _ _ [] (RdT.flat (hR.up 7 (by rfl))) om (Sat.flat1 w1) _ _ _ [-1, 4, 3] (RdT.flat (RdT.blk (enc := encI) (sz := 1) (xs := [-1, 4, 3]) (fun _ => (by rfl)) 3 0 rfl rfl rfl om)) om om) ?_)
  rintro _ _ ⟨s0, rfl, v3, x1, _, y1⟩
  refine ⟨_, rfl, ?_⟩
  have z1 := Sat.unflat1 y1; clear y1
  try dsimp only [List.set, List.eraseIdx, Value.cells] at z1
  have f5 : (s0 : Int) = (-1) ∨ (s0 : Int) = 4 ∨ (s0 : Int) = 3 := by simpa using v3
  refine pu1 ?_
  refine sT1 z1 6 3 (I s0) #[.slice a1_9 n1_12 k1_13, .slice a2_10 n2_14 k2_15, .slice a3_11 n3_16 k3_17, I s0] Try.sizeOf3 ?_
  intro _ a2
  try dsimp only [List.set, List.eraseIdx, Value.cells] at a2
  refine nB ?_
  have b2 := (((((((((a2.pick 8 rfl).pick 8 rfl).pick 6 rfl).pick 6 rfl).pick 6 rfl).pick 7 rfl).pick 8 rfl).pick 7 rfl).dropAt 8 rfl)
  try dsimp only [List.set, List.eraseIdx, Value.cells] at b2
  have w3 : Sat W _ ([(p, .cells #[.slice a n k, I x1] 46 (0, 0))] :: [(g0, .cells #[.slice a1_9 n1_12 k1_13, .slice a2_10 n2_14 k2_15, .slice a3_11 n3_16 k3_17, I s0] 28 (0, 0))] :: [(m0, .cells #[.slice none 0 0, .slice none 0 0, .slice none 0 0, I 0] 28 (0, 0))] :: (c1_18 ++ c2_19 ++ c3_20) :: J :: H :: F) := Sat.perm b2 (by simp)
  exact ⟨(⟨⟨a1_9, n1_12, k1_13, j0.inputs.l⟩, ⟨a2_10, n2_14, k2_15, j0.stages.l⟩, ⟨a3_11, n3_16, k3_17, j0.outputs.l⟩, s0⟩ : Job), (c1_18 ++ c2_19 ++ c3_20), x1, alA, w3, om, ⟨(i0.rdAt (cs := [c1_18]) 0 rfl).of_mem mS, (fun z hz => (hj0.inputsD z hz).of_mem mS), (k0.rdAt (cs := [c2_19]) 0 rfl).of_mem mS, (fun z hz => (hj0.stagesD z hz).of_mem mS), (n0.rdAt (cs := [c3_20]) 0 rfl).of_mem mS⟩, ⟨⟨by have h := hjS.1.1; first | (dsimp only; omega) | (simp; omega), (fun z hz => planeS_mono (hjS.1.2 z hz) om)⟩, ⟨by have h := hjS.2.1.1; first | (dsimp only; omega) | (simp; omega), (fun z hz => stageB_mono (hjS.2.1.2 z hz) om)⟩, ⟨by have h := hjS.2.2.1.1; first | (dsimp only; omega) | (simp; omega), hjS.2.2.1.2⟩, by have h := hjS.2.2.2; unfold numB at *; dsimp only; omega⟩⟩
 refine cF _ (beq_eq_false_iff_ne.2 v1) ?_
 refine sR <| pu2 <| nT ?_
 by_cases c2 : (w0 : Int) = 1
 ·refine cT _ (beq_iff_eq.2 c2) ?_
  refine sR <| pu1 ?_
  refine sL c0 5 0 (.slice a1_9 n1_12 k1_13) (Try.isAgg25 _) ?_
  refine pu2 <| nT ?_
  by_cases d2 : (((n1_12 : Nat) : Int) : Int) > 0
  rotate_left
  ·refine cF _ (decide_eq_false d2) ?_
   refine skipE <| blockK_n <| thenK_n ?_
   have e2 := ((((((((c0.pick 7 rfl).pick 7 rfl).pick 5 rfl).pick 5 rfl).pick 5 rfl).pick 6 rfl).pick 7 rfl).pick 7 rfl)
   try dsimp only [List.set, List.eraseIdx, Value.cells] at e2
   have x3 : Sat W _ ([(p, .cells #[.slice a n k, I o0] 46 (0, 0))] :: [(g0, .cells #[.slice a1_9 n1_12 k1_13, .slice a2_10 n2_14 k2_15, .slice a3_11 n3_16 k3_17, I j0.priority] 28 (0, 0))] :: [(m0, .cells #[.slice none 0 0, .slice none 0 0, .slice none 0 0, I 0] 28 (0, 0))] :: (c1_18 ++ c2_19 ++ c3_20) :: J :: H :: F) := Sat.perm e2 (by simp)
   exact ⟨(⟨⟨a1_9, n1_12, k1_13, j0.inputs.l⟩, ⟨a2_10, n2_14, k2_15, j0.stages.l⟩, ⟨a3_11, n3_16, k3_17, j0.outputs.l⟩, j0.priority⟩ : Job), (c1_18 ++ c2_19 ++ c3_20), o0, alA, x3, om, ⟨(i0.rdAt (cs := [c1_18]) 0 rfl).of_mem mS, (fun z hz => (hj0.inputsD z hz).of_mem mS), (k0.rdAt (cs := [c2_19]) 0 rfl).of_mem mS, (fun z hz => (hj0.stagesD z hz).of_mem mS), (n0.rdAt (cs := [c3_20]) 0 rfl).of_mem mS⟩, ⟨⟨by have h := hjS.1.1; first | (dsimp only; omega) | (simp; omega), (fun z hz => planeS_mono (hjS.1.2 z hz) om)⟩, ⟨by have h := hjS.2.1.1; first | (dsimp only; omega) | (simp; omega), (fun z hz => stageB_mono (hjS.2.1.2 z hz) om)⟩, ⟨by have h := hjS.2.2.1.1; first | (dsimp only; omega) | (simp; omega), hjS.2.2.1.2⟩, by have h := hjS.2.2.2; unfold numB at *; dsimp only; omega⟩⟩
  refine cT _ (decide_eq_true d2) ?_
  obtain ⟨l0, u0, v0, y0, x0, h1, y3⟩ := OwnT.elem i0 0
  change _[0]? = _ at y0; change PtR _ _ (_ + 0 * _) _ at x0; change ElemAt _ _ _ _ _ (_ + 0 * _) at h1
  refine drawE [7, 9] [(1, ⟨g0, 0, none⟩, .slice a1_9 n1_12 k1_13), (4, ⟨g0, 0, none⟩, .slice a1_9 n1_12 k1_13), (6, ⟨u0, v0 + 0 * 4 + 0, none⟩, I l0.w), (6, ⟨u0, v0 + 0 * 4 + 1, none⟩, I l0.h), (6, ⟨u0, v0 + 0 * 4 + 2, none⟩, I l0.max_), (6, ⟨u0, v0 + 0 * 4 + 3, none⟩, .slice l0.pix.a l0.pix.n l0.pix.k)] [(true, [0, 2, 3]), (true, [1]), (true, [4]), (true, [5]), (true, [6]), (false, [7]), (true, [8]), (false, [9])] rfl kr ⟨.inr (c0.cell 5 rfl rfl), .inr (c0.cell 5 rfl rfl), .inr ((x0.up 1 rfl).cell c0 (k := 0) rfl), .inr ((x0.up 1 rfl).cell c0 (k := 1) rfl), .inr ((x0.up 1 rfl).cell c0 (k := 2) rfl), .inr ((x0.up 1 rfl).cell c0 (k := 3) rfl), trivial⟩ ?_
  have f2 := c0.drew
  refine wU [0, 2, 3] ?_
  refine wS (.slice a1_9 n1_12 k1_13) rfl rfl rfl (fun w hF => Y_load rfl (Try.isAgg25 w) kr (hF 0 _ _ rfl)) ?_
  refine wS (.slice a1_9 n1_12 k1_13) rfl rfl rfl (fun w hF => Y_load rfl (Try.isAgg25 w) kr (hF 1 _ _ rfl)) ?_
  refine wS (.pointer (some ⟨u0, v0 + 0 * 4, none⟩)) rfl rfl rfl (fun w _ => Y_idx (a := a1_9) (i := 0) (len := n1_12) (cap := k1_13) rfl Try.runUnderlying25 Try.sizeOf49 kr kr h1) ?_
  refine wS (.agg (encPlane l0).toArray) rfl rfl rfl (fun w hF => Y_loadF rfl (Try.isAgg49 w) (Try.sizeOf49 w) kr rfl ⟨hF 2 _ _ rfl, hF 3 _ _ rfl, hF 4 _ _ rfl, hF 5 _ _ rfl, trivial⟩) ?_
  refine wO rfl ?_
  try dsimp only [List.set, List.eraseIdx, Value.cells] at f2
  refine sF #[Pt p 0, .agg (encPlane l0).toArray] Try.call27 (Calls.mono (tg_spoilPlane W _ _ _ _ _ o0 _ _ [] (RdT.flat (hR.up 6 (by rfl))) om (Sat.flat1 f2) l0 ⟨(RdT.flat ((hj0.inputsD l0 (List.mem_of_getElem? y0)).pix.up 5 (by rfl)))⟩ kk om (hjS.1.2 _ (List.mem_of_getElem? y0))) ?_)
  rintro _ _ ⟨z0, g2, rfl, z3, a4, h2, _, i2⟩
  refine ⟨_, rfl, ?_⟩
  have a1 := Sat.unflat2 i2; clear i2
  try dsimp only [List.set, List.eraseIdx, Value.cells] at a1
  refine nilO ⟨⟨.inr (a1.cell 6 rfl rfl), .inr (a1.cell 6 rfl rfl), dI, dI, dI, dI, trivial⟩, ?_⟩
  refine wS (.pointer (some ⟨u0, v0 + 0 * 4, none⟩)) rfl rfl rfl (fun w _ => Y_idx (a := a1_9) (i := 0) (len := n1_12) (cap := k1_13) rfl Try.runUnderlying25 Try.sizeOf49 kr kr h1) ?_
  refine wO rfl ?_
  refine sStF a1 i0 y3 2 0 0 l0 z0 y0 (.agg (encPlane z0).toArray) (encPlane z0) Try.sizeOf49 ?_
  intro _ i1 b4 j2
  try dsimp only [List.set, List.eraseIdx, Value.cells] at j2
  refine nilO ⟨dA, ?_⟩
  refine wN ?_
  refine blockK_n <| thenK_n ?_
  have k2 := (((((((((j2.pick 8 rfl).pick 8 rfl).pick 6 rfl).pick 6 rfl).pick 5 rfl).pick 6 rfl).pick 7 rfl).pick 8 rfl).pick 8 rfl)
  try dsimp only [List.set, List.eraseIdx, Value.cells] at k2
  have c4 : Sat W _ ([(p, .cells #[.slice a n k, I h2] 46 (0, 0))] :: [(g0, .cells #[.slice a1_9 n1_12 k1_13, .slice a2_10 n2_14 k2_15, .slice a3_11 n3_16 k3_17, I j0.priority] 28 (0, 0))] :: [(m0, .cells #[.slice none 0 0, .slice none 0 0, .slice none 0 0, I 0] 28 (0, 0))] :: (i1 ++ g2 ++ c2_19 ++ c3_20) :: J :: H :: F) := Sat.perm k2 (by simp)
  exact ⟨(⟨⟨a1_9, n1_12, k1_13, (j0.inputs.l.set 0 z0)⟩, ⟨a2_10, n2_14, k2_15, j0.stages.l⟩, ⟨a3_11, n3_16, k3_17, j0.outputs.l⟩, j0.priority⟩ : Job), (i1 ++ g2 ++ c2_19 ++ c3_20), h2, alA, c4, om, ⟨(b4.rdAt (cs := [i1]) 0 rfl).of_mem mS, (mem_set (fun z hz => (hj0.inputsD z hz).of_mem mS) (z3.of_mem mS)), (k0.rdAt (cs := [c2_19]) 0 rfl).of_mem mS, (fun z hz => (hj0.stagesD z hz).of_mem mS), (n0.rdAt (cs := [c3_20]) 0 rfl).of_mem mS⟩, ⟨⟨by have h := hjS.1.1; first | (dsimp only; omega) | (simp; omega), mem_set (fun z hz => planeS_mono (hjS.1.2 z hz) om) a4⟩, ⟨by have h := hjS.2.1.1; first | (dsimp only; omega) | (simp; omega), (fun z hz => stageB_mono (hjS.2.1.2 z hz) om)⟩, ⟨by have h := hjS.2.2.1.1; first | (dsimp only; omega) | (simp; omega), hjS.2.2.1.2⟩, by have h := hjS.2.2.2; unfold numB at *; dsimp only; omega⟩⟩
 refine cF _ (beq_eq_false_iff_ne.2 c2) ?_
 refine sR <| pu2 <| nT ?_
 by_cases l2 : (w0 : Int) = 2
 ·refine cT _ (beq_iff_eq.2 l2) ?_
  refine drawE [3, 4, 5, 6, 8] [(1, ⟨g0, 2, none⟩, .slice a3_11 n3_16 k3_17)] [(true, [0, 2]), (true, [1]), (false, [3]), (false, [4]), (false, [5]), (false, [6]), (true, [7]), (false, [8])] rfl kr ⟨.inr (c0.cell 5 rfl rfl), trivial⟩ ?_
  have d4 := c0.drew
  refine wU [0, 2] ?_
  refine wS (.slice a3_11 n3_16 k3_17) rfl rfl rfl (fun w hF => Y_load rfl (Try.isAgg22 w) kr (hF 0 _ _ rfl)) ?_
  refine wO rfl ?_
  refine sBS d4 #[I (-1), I 0, I 16, I 99] Try.runUnderlying22 Try.sizeOf3 Try.zeroValue3 ?_
  intro e4 _ m2
  refine nilO ⟨⟨.inr (m2.cell 6 rfl rfl), trivial⟩, ?_⟩
  refine wO rfl ?_
  have n2 := (m2.pick 1 rfl)
  try dsimp only [List.set, List.eraseIdx, Value.cells] at n2
  refine sF #[Pt p 0, .slice (At e4 0) 4 4] Try.call26 (Calls.mono (tape_pick W _ _ _ _ _ o0 _ _ [] (RdT.flat (hR.up 7 (by rfl))) om (Sat.flat1 n2) _ _ _ [-1, 0, 16, 99] (RdT.flat (RdT.blk (enc := encI) (sz := 1) (xs := [-1, 0, 16, 99]) (fun _ => (by rfl)) 4 0 rfl rfl rfl om)) om om) ?_)
  rintro _ _ ⟨t0, rfl, f4, o2, _, p2⟩
  refine ⟨_, rfl, ?_⟩
  have j1 := Sat.unflat1 p2; clear p2
  try dsimp only [List.set, List.eraseIdx, Value.cells] at j1
  have n5 : (t0 : Int) = (-1) ∨ (t0 : Int) = 0 ∨ (t0 : Int) = 16 ∨ (t0 : Int) = 99 := by simpa using f4
  refine nilO ⟨⟨.inr (j1.cell 6 rfl rfl), trivial⟩, ?_⟩
  refine wO rfl ?_
  refine sBS j1 #[I t0] Try.runUnderlying22 Try.sizeOf3 Try.zeroValue3 ?_
  intro _ _ q2
  refine nilO ⟨⟨.inr (q2.cell 7 rfl rfl), trivial⟩, ?_⟩
  refine wO rfl ?_
  refine sApp (nb := 8) q2 n0 5 (RdT.blk (enc := encI) (sz := 1) (xs := [t0]) fR 1 0 rfl rfl rfl om) Try.underlying22 (i := Try.t3) kr fR ?_
  intro b1 c1 k1 _ g4 r2
  try dsimp only [List.set, List.eraseIdx, Value.cells] at r2
  refine nilO ⟨dA, ?_⟩
  refine wU [7] ?_
  refine wO rfl ?_
  refine sT1 r2 7 2 (.slice b1 (n3_16 + 1) c1) #[.slice a1_9 n1_12 k1_13, .slice a2_10 n2_14 k2_15, .slice b1 (n3_16 + 1) c1, I j0.priority] Try.sizeOf22 ?_
  intro _ s2
  try dsimp only [List.set, List.eraseIdx, Value.cells] at s2
  refine nilO ⟨dA, ?_⟩
  refine wN ?_
  refine blockK_n <| thenK_n ?_
  have t2 := ((((((((((s2.pick 9 rfl).pick 9 rfl).pick 7 rfl).pick 7 rfl).pick 7 rfl).pick 8 rfl).pick 9 rfl).pick 8 rfl).dropAt 8 rfl).dropAt 8 rfl)
  try dsimp only [List.set, List.eraseIdx, Value.cells] at t2
  have h4 : Sat W _ ([(p, .cells #[.slice a n k, I o2] 46 (0, 0))] :: [(g0, .cells #[.slice a1_9 n1_12 k1_13, .slice a2_10 n2_14 k2_15, .slice b1 (n3_16 + 1) c1, I j0.priority] 28 (0, 0))] :: [(m0, .cells #[.slice none 0 0, .slice none 0 0, .slice none 0 0, I 0] 28 (0, 0))] :: (c1_18 ++ c2_19 ++ k1) :: J :: H :: F) := Sat.perm t2 (by simp)
  exact ⟨(⟨⟨a1_9, n1_12, k1_13, j0.inputs.l⟩, ⟨a2_10, n2_14, k2_15, j0.stages.l⟩, ⟨b1, (n3_16 + 1), c1, (j0.outputs.l ++ [t0])⟩, j0.priority⟩ : Job), (c1_18 ++ c2_19 ++ k1), o2, alA, h4, om, ⟨(i0.rdAt (cs := [c1_18]) 0 rfl).of_mem mS, (fun z hz => (hj0.inputsD z hz).of_mem mS), (k0.rdAt (cs := [c2_19]) 0 rfl).of_mem mS, (fun z hz => (hj0.stagesD z hz).of_mem mS), (g4.rdAt (cs := [k1]) 0 rfl).of_mem mS⟩, ⟨⟨by have h := hjS.1.1; first | (dsimp only; omega) | (simp; omega), (fun z hz => planeS_mono (hjS.1.2 z hz) om)⟩, ⟨by have h := hjS.2.1.1; first | (dsimp only; omega) | (simp; omega), (fun z hz => stageB_mono (hjS.2.1.2 z hz) om)⟩, ⟨by have h := hjS.2.2.1.1; first | (dsimp only; omega) | (simp; omega), mem_snoc hjS.2.2.1.2 (by unfold numB; omega)⟩, by have h := hjS.2.2.2; unfold numB at *; dsimp only; omega⟩⟩
 refine cF _ (beq_eq_false_iff_ne.2 l2) ?_
 refine sR <| pu2 <| nT ?_
 by_cases u2 : (w0 : Int) = 3
 ·refine cT _ (beq_iff_eq.2 u2) ?_
  refine drawE [6, 9] [(1, ⟨g0, 0, none⟩, .slice a1_9 n1_12 k1_13), (4, ⟨g0, 0, none⟩, .slice a1_9 n1_12 k1_13)] [(true, [0, 2, 3]), (true, [1]), (true, [4]), (true, [5]), (false, [6]), (true, [7]), (true, [8]), (false, [9])] rfl kr ⟨.inr (c0.cell 5 rfl rfl), .inr (c0.cell 5 rfl rfl), trivial⟩ ?_
  have v2 := c0.drew
  refine wU [0, 2, 3] ?_
  refine wS (.slice a1_9 n1_12 k1_13) rfl rfl rfl (fun w hF => Y_load rfl (Try.isAgg25 w) kr (hF 0 _ _ rfl)) ?_
  refine wS (.slice a1_9 n1_12 k1_13) rfl rfl rfl (fun w hF => Y_load rfl (Try.isAgg25 w) kr (hF 1 _ _ rfl)) ?_
  refine wU [5] ?_
  refine wO rfl ?_
  try dsimp only [List.set, List.eraseIdx, Value.cells] at v2
  refine sF #[Pt p 0, I ((n1_12 : Nat) : Int)] Try.call19 (Calls.mono (tape_next W _ _ _ _ _ o0 _ _ [] (RdT.flat (hR.up 6 (by rfl))) om (Sat.flat1 v2) ((n1_12 : Nat) : Int) om) ?_)
  rintro _ _ ⟨q0, rfl, _, w2, _, x2⟩
  refine ⟨_, rfl, ?_⟩
  have d1 := Sat.unflat1 x2; clear x2
  try dsimp only [List.set, List.eraseIdx, Value.cells] at d1
  refine nilO ⟨⟨.inr (d1.cell 5 rfl rfl), .inr (d1.cell 5 rfl rfl), trivial⟩, ?_⟩
  have i4 := i0.part (lo := 0) (hi := (q0).toNat) om om
  refine wS (.slice (partAddr a1_9 k1_13 0 4) ((q0).toNat - 0) (k1_13 - 0)) rfl rfl rfl (fun w _ => Y_sl (a := a1_9) (len := n1_12) (cap := k1_13) none (some q0) 0 ((q0).toNat) Try.runUnderlying25 Try.sizeOf49 rfl ⟨om, om⟩ om om) ?_
  refine wU [8] ?_
  refine wO rfl ?_
  refine sT1 d1 5 0 (.slice (partAddr a1_9 k1_13 0 4) ((q0).toNat - 0) (k1_13 - 0)) #[.slice (partAddr a1_9 k1_13 0 4) ((q0).toNat - 0) (k1_13 - 0), .slice a2_10 n2_14 k2_15, .slice a3_11 n3_16 k3_17, I j0.priority] Try.sizeOf25 ?_
  intro _ y2
  try dsimp only [List.set, List.eraseIdx, Value.cells] at y2
  refine nilO ⟨dA, ?_⟩
  refine wN ?_
  refine blockK_n <| thenK_n ?_
  have z2 := ((((((((y2.pick 7 rfl).pick 7 rfl).pick 5 rfl).pick 5 rfl).pick 5 rfl).pick 6 rfl).pick 7 rfl).pick 7 rfl)
  try dsimp only [List.set, List.eraseIdx, Value.cells] at z2
  have j4 : Sat W _ ([(p, .cells #[.slice a n k, I w2] 46 (0, 0))] :: [(g0, .cells #[.slice (partAddr a1_9 k1_13 0 4) ((q0).toNat - 0) (k1_13 - 0), .slice a2_10 n2_14 k2_15, .slice a3_11 n3_16 k3_17, I j0.priority] 28 (0, 0))] :: [(m0, .cells #[.slice none 0 0, .slice none 0 0, .slice none 0 0, I 0] 28 (0, 0))] :: (c1_18 ++ c2_19 ++ c3_20) :: J :: H :: F) := Sat.perm z2 (by simp)
  exact ⟨(⟨⟨(partAddr a1_9 k1_13 0 4), ((q0).toNat - 0), (k1_13 - 0), ((j0.inputs.l.drop 0).take ((q0).toNat - 0))⟩, ⟨a2_10, n2_14, k2_15, j0.stages.l⟩, ⟨a3_11, n3_16, k3_17, j0.outputs.l⟩, j0.priority⟩ : Job), (c1_18 ++ c2_19 ++ c3_20), w2, alA, j4, om, ⟨(i4.rdAt (cs := [c1_18]) 0 rfl).of_mem mS, (fun z hz => (hj0.inputsD z (List.mem_of_mem_drop (List.mem_of_mem_take hz))).of_mem mS), (k0.rdAt (cs := [c2_19]) 0 rfl).of_mem mS, (fun z hz => (hj0.stagesD z hz).of_mem mS), (n0.rdAt (cs := [c3_20]) 0 rfl).of_mem mS⟩, ⟨⟨by have h := hjS.1.1; first | (dsimp only; omega) | (simp; omega), (fun z hz => (fun z hz => planeS_mono (hjS.1.2 z hz) om) z (List.mem_of_mem_drop (List.mem_of_mem_take hz)))⟩, ⟨by have h := hjS.2.1.1; first | (dsimp only; omega) | (simp; omega), (fun z hz => stageB_mono (hjS.2.1.2 z hz) om)⟩, ⟨by have h := hjS.2.2.1.1; first | (dsimp only; omega) | (simp; omega), hjS.2.2.1.2⟩, by have h := hjS.2.2.2; unfold numB at *; dsimp only; omega⟩⟩
 refine cF _ (beq_eq_false_iff_ne.2 u2) ?_
 refine sR <| pu2 <| nT ?_
 by_cases a3 : (w0 : Int) = 4
 ·refine cT _ (beq_iff_eq.2 a3) ?_
  refine drawE [7, 10] [(1, ⟨g0, 1, none⟩, .slice a2_10 n2_14 k2_15), (4, ⟨g0, 1, none⟩, .slice a2_10 n2_14 k2_15)] [(true, [0, 2, 3]), (true, [1]), (true, [4]), (true, [5]), (true, [6]), (false, [7]), (true, [8]), (true, [9]), (false, [10])] rfl kr ⟨.inr (c0.cell 5 rfl rfl), .inr (c0.cell 5 rfl rfl), trivial⟩ ?_
  have b3 := c0.drew
  refine wU [0, 2, 3] ?_
  refine wS (.slice a2_10 n2_14 k2_15) rfl rfl rfl (fun w hF => Y_load rfl (Try.isAgg26 w) kr (hF 0 _ _ rfl)) ?_
  refine wS (.slice a2_10 n2_14 k2_15) rfl rfl rfl (fun w hF => Y_load rfl (Try.isAgg26 w) kr (hF 1 _ _ rfl)) ?_
  refine wU [5] ?_
  refine wS (I (((n2_14 : Nat) : Int) + 1)) rfl rfl rfl (fun w _ => Y_add (a := ((n2_14 : Nat) : Int)) (b := 1) rfl kr kr om) ?_
  refine wO rfl ?_
  try dsimp only [List.set, List.eraseIdx, Value.cells] at b3
  refine sF #[Pt p 0, I (((n2_14 : Nat) : Int) + 1)] Try.call19 (Calls.mono (tape_next W _ _ _ _ _ o0 _ _ [] (RdT.flat (hR.up 6 (by rfl))) om (Sat.flat1 b3) (((n2_14 : Nat) : Int) + 1) om) ?_)
  rintro _ _ ⟨r0, rfl, _, c3, _, d3⟩
  refine ⟨_, rfl, ?_⟩
  have e1 := Sat.unflat1 d3; clear d3
  try dsimp only [List.set, List.eraseIdx, Value.cells] at e1
  refine nilO ⟨⟨.inr (e1.cell 5 rfl rfl), .inr (e1.cell 5 rfl rfl), trivial⟩, ?_⟩
  have k4 := k0.part (lo := 0) (hi := (r0).toNat) om om
  refine wS (.slice (partAddr a2_10 k2_15 0 18) ((r0).toNat - 0) (k2_15 - 0)) rfl rfl rfl (fun w _ => Y_sl (a := a2_10) (len := n2_14) (cap := k2_15) none (some r0) 0 ((r0).toNat) Try.runUnderlying26 Try.sizeOf61 rfl ⟨om, om⟩ om om) ?_
  refine wU [9] ?_
  refine wO rfl ?_
  refine sT1 e1 5 1 (.slice (partAddr a2_10 k2_15 0 18) ((r0).toNat - 0) (k2_15 - 0)) #[.slice a1_9 n1_12 k1_13, .slice (partAddr a2_10 k2_15 0 18) ((r0).toNat - 0) (k2_15 - 0), .slice a3_11 n3_16 k3_17, I j0.priority] Try.sizeOf26 ?_
  intro _ e3
  try dsimp only [List.set, List.eraseIdx, Value.cells] at e3
  refine nilO ⟨dA, ?_⟩
  refine wN ?_
  refine blockK_n <| thenK_n ?_
  have f3 := ((((((((e3.pick 7 rfl).pick 7 rfl).pick 5 rfl).pick 5 rfl).pick 5 rfl).pick 6 rfl).pick 7 rfl).pick 7 rfl)
  try dsimp only [List.set, List.eraseIdx, Value.cells] at f3
  have l4 : Sat W _ ([(p, .cells #[.slice a n k, I c3] 46 (0, 0))] :: [(g0, .cells #[.slice a1_9 n1_12 k1_13, .slice (partAddr a2_10 k2_15 0 18) ((r0).toNat - 0) (k2_15 - 0), .slice a3_11 n3_16 k3_17, I j0.priority] 28 (0, 0))] :: [(m0, .cells #[.slice none 0 0, .slice none 0 0, .slice none 0 0, I 0] 28 (0, 0))] :: (c1_18 ++ c2_19 ++ c3_20) :: J :: H :: F) := Sat.perm f3 (by simp)
  exact ⟨(⟨⟨a1_9, n1_12, k1_13, j0.inputs.l⟩, ⟨(partAddr a2_10 k2_15 0 18), ((r0).toNat - 0), (k2_15 - 0), ((j0.stages.l.drop 0).take ((r0).toNat - 0))⟩, ⟨a3_11, n3_16, k3_17, j0.outputs.l⟩, j0.priority⟩ : Job), (c1_18 ++ c2_19 ++ c3_20), c3, alA, l4, om, ⟨(i0.rdAt (cs := [c1_18]) 0 rfl).of_mem mS, (fun z hz => (hj0.inputsD z hz).of_mem mS), (k4.rdAt (cs := [c2_19]) 0 rfl).of_mem mS, (fun z hz => (hj0.stagesD z (List.mem_of_mem_drop (List.mem_of_mem_take hz))).of_mem mS), (n0.rdAt (cs := [c3_20]) 0 rfl).of_mem mS⟩, ⟨⟨by have h := hjS.1.1; first | (dsimp only; omega) | (simp; omega), (fun z hz => planeS_mono (hjS.1.2 z hz) om)⟩, ⟨by have h := hjS.2.1.1; first | (dsimp only; omega) | (simp; omega), (fun z hz => (fun z hz => stageB_mono (hjS.2.1.2 z hz) om) z (List.mem_of_mem_drop (List.mem_of_mem_take hz)))⟩, ⟨by have h := hjS.2.2.1.1; first | (dsimp only; omega) | (simp; omega), hjS.2.2.1.2⟩, by have h := hjS.2.2.2; unfold numB at *; dsimp only; omega⟩⟩
 refine cF _ (beq_eq_false_iff_ne.2 a3) ?_
 refine sR <| pu1 ?_
 refine sL c0 5 1 (.slice a2_10 n2_14 k2_15) (Try.isAgg26 _) ?_
 refine pu2 <| nT ?_
 by_cases g3 : (((n2_14 : Nat) : Int) : Int) > 0
 rotate_left
 ·refine cF _ (decide_eq_false g3) ?_
  refine skipE <| blockK_n <| thenK_n ?_
  have h3 := ((((((((c0.pick 7 rfl).pick 7 rfl).pick 5 rfl).pick 5 rfl).pick 5 rfl).pick 6 rfl).pick 7 rfl).pick 7 rfl)
  try dsimp only [List.set, List.eraseIdx, Value.cells] at h3
  have m4 : Sat W _ ([(p, .cells #[.slice a n k, I o0] 46 (0, 0))] :: [(g0, .cells #[.slice a1_9 n1_12 k1_13, .slice a2_10 n2_14 k2_15, .slice a3_11 n3_16 k3_17, I j0.priority] 28 (0, 0))] :: [(m0, .cells #[.slice none 0 0, .slice none 0 0, .slice none 0 0, I 0] 28 (0, 0))] :: (c1_18 ++ c2_19 ++ c3_20) :: J :: H :: F) := Sat.perm h3 (by simp)
  exact ⟨(⟨⟨a1_9, n1_12, k1_13, j0.inputs.l⟩, ⟨a2_10, n2_14, k2_15, j0.stages.l⟩, ⟨a3_11, n3_16, k3_17, j0.outputs.l⟩, j0.priority⟩ : Job), (c1_18 ++ c2_19 ++ c3_20), o0, alA, m4, om, ⟨(i0.rdAt (cs := [c1_18]) 0 rfl).of_mem mS, (fun z hz => (hj0.inputsD z hz).of_mem mS), (k0.rdAt (cs := [c2_19]) 0 rfl).of_mem mS, (fun z hz => (hj0.stagesD z hz).of_mem mS), (n0.rdAt (cs := [c3_20]) 0 rfl).of_mem mS⟩, ⟨⟨by have h := hjS.1.1; first | (dsimp only; omega) | (simp; omega), (fun z hz => planeS_mono (hjS.1.2 z hz) om)⟩, ⟨by have h := hjS.2.1.1; first | (dsimp only; omega) | (simp; omega), (fun z hz => stageB_mono (hjS.2.1.2 z hz) om)⟩, ⟨by have h := hjS.2.2.1.1; first | (dsimp only; omega) | (simp; omega), hjS.2.2.1.2⟩, by have h := hjS.2.2.2; unfold numB at *; dsimp only; omega⟩⟩
 refine cT _ (decide_eq_true g3) ?_
 refine sR <| pu2 ?_
 refine sL c0 5 1 (.slice a2_10 n2_14 k2_15) (Try.isAgg26 _) ?_
 refine pu1 ?_
 try dsimp only [List.set, List.eraseIdx, Value.cells] at c0
 refine sF #[Pt p 0, I ((n2_14 : Nat) : Int)] Try.call19 (Calls.mono (tape_next W _ _ _ _ _ o0 _ _ [] (RdT.flat (hR.up 6 (by rfl))) om (Sat.flat1 c0) ((n2_14 : Nat) : Int) om) ?_)
 rintro _ _ ⟨b0, rfl, _, n4, _, i3⟩
 refine ⟨_, rfl, ?_⟩
 have d0 := Sat.unflat1 i3; clear i3
 try dsimp only [List.set, List.eraseIdx, Value.cells] at d0
 refine pu1 <| nT ?_
 obtain ⟨a0, e0, f0, p0, h0, j3, o4⟩ := OwnT.elem k0 b0
 refine drawE [9, 11] [(1, ⟨g0, 1, none⟩, .slice a2_10 n2_14 k2_15), (5, ⟨g0, 1, none⟩, .slice a2_10 n2_14 k2_15), (8, ⟨e0, f0 + (b0).toNat * 18 + 0, none⟩, I a0.kind), (8, ⟨e0, f0 + (b0).toNat * 18 + 1, none⟩, I a0.a), (8, ⟨e0, f0 + (b0).toNat * 18 + 2, none⟩, I a0.b), (8, ⟨e0, f0 + (b0).toNat * 18 + 3, none⟩, .bool a0.barrier), (8, ⟨e0, f0 + (b0).toNat * 18 + 4, none⟩, I a0.edgePolicy), (8, ⟨e0, f0 + (b0).toNat * 18 + 5, none⟩, I a0.edgeFill), (8, ⟨e0, f0 + (b0).toNat * 18 + 6, none⟩, I a0.kW), (8, ⟨e0, f0 + (b0).toNat * 18 + 7, none⟩, I a0.kH), (8, ⟨e0, f0 + (b0).toNat * 18 + 8, none⟩, .slice a0.weights.a a0.weights.n a0.weights.k), (8, ⟨e0, f0 + (b0).toNat * 18 + 9, none⟩, .slice a0.row.a a0.row.n a0.row.k), (8, ⟨e0, f0 + (b0).toNat * 18 + 10, none⟩, .slice a0.col.a a0.col.n a0.col.k), (8, ⟨e0, f0 + (b0).toNat * 18 + 11, none⟩, I a0.shift), (8, ⟨e0, f0 + (b0).toNat * 18 + 12, none⟩, I a0.shift2), (8, ⟨e0, f0 + (b0).toNat * 18 + 13, none⟩, .slice a0.x.a a0.x.n a0.x.k), (8, ⟨e0, f0 + (b0).toNat * 18 + 14, none⟩, .slice a0.y.a a0.y.n a0.y.k), (8, ⟨e0, f0 + (b0).toNat * 18 + 15, none⟩, I a0.bins), (8, ⟨e0, f0 + (b0).toNat * 18 + 16, none⟩, .slice a0.ops.a a0.ops.n a0.ops.k), (8, ⟨e0, f0 + (b0).toNat * 18 + 17, none⟩, I a0.max_)] [(true, [0, 2, 3, 4, 6]), (true, [1]), (true, [5]), (true, [7]), (true, [8]), (false, [9]), (true, [10]), (false, [11])] rfl kr ⟨.inr (d0.cell 5 rfl rfl), .inr (d0.cell 5 rfl rfl), .inr ((h0.up 2 rfl).cell d0 (k := 0) rfl), .inr ((h0.up 2 rfl).cell d0 (k := 1) rfl), .inr ((h0.up 2 rfl).cell d0 (k := 2) rfl), .inr ((h0.up 2 rfl).cell d0 (k := 3) rfl), .inr ((h0.up 2 rfl).cell d0 (k := 4) rfl), .inr ((h0.up 2 rfl).cell d0 (k := 5) rfl), .inr ((h0.up 2 rfl).cell d0 (k := 6) rfl), .inr ((h0.up 2 rfl).cell d0 (k := 7) rfl), .inr ((h0.up 2 rfl).cell d0 (k := 8) rfl), .inr ((h0.up 2 rfl).cell d0 (k := 9) rfl), .inr ((h0.up 2 rfl).cell d0 (k := 10) rfl), .inr ((h0.up 2 rfl).cell d0 (k := 11) rfl), .inr ((h0.up 2 rfl).cell d0 (k := 12) rfl), .inr ((h0.up 2 rfl).cell d0 (k := 13) rfl), .inr ((h0.up 2 rfl).cell d0 (k := 14) rfl), .inr ((h0.up 2 rfl).cell d0 (k := 15) rfl), .inr ((h0.up 2 rfl).cell d0 (k := 16) rfl), .inr ((h0.up 2 rfl).cell d0 (k := 17) rfl), trivial⟩ ?_
 have k3 := d0.drew
 refine wU [0, 2, 3, 4, 6] ?_
 refine wS (.slice a2_10 n2_14 k2_15) rfl rfl rfl (fun w hF => Y_load rfl (Try.isAgg26 w) kr (hF 0 _ _ rfl)) ?_
 refine wS (.slice a2_10 n2_14 k2_15) rfl rfl rfl (fun w hF => Y_load rfl (Try.isAgg26 w) kr (hF 1 _ _ rfl)) ?_
 refine wS (.pointer (some ⟨e0, f0 + (b0).toNat * 18, none⟩)) rfl rfl rfl (fun w _ => Y_idx (a := a2_10) (i := b0) (len := n2_14) (cap := k2_15) rfl Try.runUnderlying26 Try.sizeOf61 kr kr j3) ?_
 refine wS (.agg (encStage a0).toArray) rfl rfl rfl (fun w hF => Y_loadF rfl (Try.isAgg61 w) (Try.sizeOf61 w) kr rfl ⟨hF 2 _ _ rfl, hF 3 _ _ rfl, hF 4 _ _ rfl, hF 5 _ _ rfl, hF 6 _ _ rfl, hF 7 _ _ rfl, hF 8 _ _ rfl, hF 9 _ _ rfl, hF 10 _ _ rfl, hF 11 _ _ rfl, hF 12 _ _ rfl, hF 13 _ _ rfl, hF 14 _ _ rfl, hF 15 _ _ rfl, hF 16 _ _ rfl, hF 17 _ _ rfl, hF 18 _ _ rfl, hF 19 _ _ rfl, trivial⟩) ?_
 refine wO rfl ?_
 try dsimp only [List.set, List.eraseIdx, Value.cells] at k3
 have l3 := ((k3.pick 6 rfl).pick 1 rfl)
 try dsimp only [List.set, List.eraseIdx, Value.cells] at l3
 refine sF #[Pt p 0, .agg (encStage a0).toArray] Try.call28 (Calls.mono (tg_spoilStage W _ _ _ _ _ n4 _ _ J [] (RdT.flat (hR.up 5 (by rfl))) om (Sat.flat2 l3) a0 ⟨(hj0.stagesD a0 (List.mem_of_getElem? p0)).weights, (hj0.stagesD a0 (List.mem_of_getElem? p0)).row, (hj0.stagesD a0 (List.mem_of_getElem? p0)).col, (hj0.stagesD a0 (List.mem_of_getElem? p0)).x, (hj0.stagesD a0 (List.mem_of_getElem? p0)).xD, (hj0.stagesD a0 (List.mem_of_getElem? p0)).y, (hj0.stagesD a0 (List.mem_of_getElem? p0)).yD, (hj0.stagesD a0 (List.mem_of_getElem? p0)).ops⟩ kk om (hjS.2.1.2 _ (List.mem_of_getElem? p0))) ?_)
 rintro _ _ ⟨f1, m3, rfl, p4, q4, n3, _, o3⟩
 refine ⟨_, rfl, ?_⟩
 have g1 := Sat.unflat3 o3; clear o3
 try dsimp only [List.set, List.eraseIdx, Value.cells] at g1
 refine nilO ⟨⟨.inr (g1.cell 7 rfl rfl), .inr (g1.cell 7 rfl rfl), dI, dI, dI, dI, dI, dI, dI, dI, dI, dI, dI, dI, dI, dI, dI, dI, dI, dI, trivial⟩, ?_⟩
 refine wS (.pointer (some ⟨e0, f0 + (b0).toNat * 18, none⟩)) rfl rfl rfl (fun w _ => Y_idx (a := a2_10) (i := b0) (len := n2_14) (cap := k2_15) rfl Try.runUnderlying26 Try.sizeOf61 kr kr j3) ?_
 refine wO rfl ?_
 refine sStF g1 k0 o4 4 (b0).toNat 0 a0 f1 p0 (.agg (encStage f1).toArray) (encStage f1) Try.sizeOf61 ?_
 intro _ l1 r4 p3
 try dsimp only [List.set, List.eraseIdx, Value.cells] at p3
 refine nilO ⟨dA, ?_⟩
 refine wN ?_
 refine blockK_n <| thenK_n ?_
 have q3 := (((((((((p3.pick 8 rfl).pick 3 rfl).pick 6 rfl).pick 4 rfl).pick 6 rfl).pick 6 rfl).pick 7 rfl).pick 8 rfl).pick 8 rfl)
 try dsimp only [List.set, List.eraseIdx, Value.cells] at q3
 have s4 : Sat W _ ([(p, .cells #[.slice a n k, I n3] 46 (0, 0))] :: [(g0, .cells #[.slice a1_9 n1_12 k1_13, .slice a2_10 n2_14 k2_15, .slice a3_11 n3_16 k3_17, I j0.priority] 28 (0, 0))] :: [(m0, .cells #[.slice none 0 0, .slice none 0 0, .slice none 0 0, I 0] 28 (0, 0))] :: (c1_18 ++ l1 ++ m3 ++ c3_20) :: J :: H :: F) := Sat.perm q3 (by simp)
 exact ⟨(⟨⟨a1_9, n1_12, k1_13, j0.inputs.l⟩, ⟨a2_10, n2_14, k2_15, (j0.stages.l.set ((b0).toNat) f1)⟩, ⟨a3_11, n3_16, k3_17, j0.outputs.l⟩, j0.priority⟩ : Job), (c1_18 ++ l1 ++ m3 ++ c3_20), n3, alA, s4, om, ⟨(i0.rdAt (cs := [c1_18]) 0 rfl).of_mem mS, (fun z hz => (hj0.inputsD z hz).of_mem mS), (r4.rdAt (cs := [l1]) 0 rfl).of_mem mS, (mem_set (fun z hz => (hj0.stagesD z hz).of_mem mS) (p4.of_mem (fun p hp => by simp at hp ⊢; rcases hp with h | h <;> simp [h]))), (n0.rdAt (cs := [c3_20]) 0 rfl).of_mem mS⟩, ⟨⟨by have h := hjS.1.1; first | (dsimp only; omega) | (simp; omega), (fun z hz => planeS_mono (hjS.1.2 z hz) om)⟩, ⟨by have h := hjS.2.1.1; first | (dsimp only; omega) | (simp; omega), mem_set (fun z hz => stageB_mono (hjS.2.1.2 z hz) om) q4⟩, ⟨by have h := hjS.2.2.1.1; first | (dsimp only; omega) | (simp; omega), hjS.2.2.1.2⟩, by have h := hjS.2.2.2; unfold numB at *; dsimp only; omega⟩⟩
end Go.Proofs.Ytcddcpaodcjecaa
