import Derived.Test.YtbofcpnngniopaaGreatP2Spoil
import Derived.Test.YtbofcpnngniopaaGreatP2Cr
namespace Go.Proofs.YtbofcpnngniopaaGreat
open Go Go.E
set_option linter.unusedVariables false
set_option linter.unusedSimpArgs false
set_option linter.unnecessarySimpa false
set_option maxRecDepth 100000
set_option maxHeartbeats 2000000
variable {W w : World} {H : Chunk} {F : List Chunk}
-- squeezed
theorem tg_copyJob (W w : World) (H : Chunk) (F : List Chunk) (j0 : Job) (hj0 : Job.Ok [H] j0) (hb : j0.inputs.n ≤ 1000 ∧ j0.stages.n ≤ 1000 ∧ j0.outputs.n ≤ 1000) (hS : Sat W w (H :: F)) :
  Calls Tryz.prog 35 #[.agg (encJob j0).toArray] w fun e w' => ∃ (a1 a2 a3 : Option Addr) (n1 k1 n2 k2 n3 k3 : Nat) (c1 c2 c3 : Chunk), e = .returned (.agg #[.slice a1 n1 k1, .slice a2 n2 k2, .slice a3 n3 k3, I j0.priority]) ∧ OwnT encPlane 38 4 a1 n1 k1 j0.inputs.l c1 ∧ OwnT encStage 44 18 a2 n2 k2 j0.stages.l c2 ∧ OwnT encI 3 1 a3 n3 k3 j0.outputs.l c3 ∧ Sat W w' (c1 :: c2 :: c3 :: H :: F) := by
 have hl_j0_inputs := hj0.inputs.le; have hn_j0_inputs := hj0.inputs.len
 have hl_j0_stages := hj0.stages.le; have hn_j0_stages := hj0.stages.len
 have hl_j0_outputs := hj0.outputs.le; have hn_j0_outputs := hj0.outputs.len
 refine callsA 19 Tryz.func35 rfl ?_
 refine sR ?_
 refine sBox hS (.agg (encJob j0).toArray) (encJob j0).toArray ?_
 intro _ _ m0
 refine sAlloc m0 Tryz.zeroValue28 ?_
 intro _ _ n0
 refine nT <| sR ?_
 refine sBS n0 #[] Tryz.runUnderlying25 Tryz.sizeOf38 Tryz.zeroValue38 ?_
 intro o0 _ g0
 refine pu1 ?_
 refine sL g0 2 0 (.slice j0.inputs.a j0.inputs.n j0.inputs.k) (Tryz.isAgg25 _) ?_
 have p0 := OwnT.blk (enc := encPlane) (sz := 4) (b := o0) (c := #[]) (E := 38) (xs := []) fR 0 rfl rfl rfl om
 refine sApp (nb := 48) g0 p0 0 (hj0.inputs.up 3 rfl) Tryz.underlying25 (i := Tryz.t38) kr fR ?_
 intro a0 b0 _ _ q0 r0
 refine pu1 ?_
 refine tW r0 2 0 (.slice a0 (0 + j0.inputs.n) b0) Tryz.sizeOf25 ?_
 intro _ s0
 refine nT <| sR ?_
 refine sBS s0 #[] Tryz.runUnderlying26 Tryz.sizeOf44 Tryz.zeroValue44 ?_
 intro t0 _ h0
 refine pu1 ?_
 refine sL h0 3 1 (.slice j0.stages.a j0.stages.n j0.stages.k) (Tryz.isAgg26 _) ?_
 have u0 := OwnT.blk (enc := encStage) (sz := 18) (b := t0) (c := #[]) (E := 44) (xs := []) fR 0 rfl rfl rfl om
 refine sApp (nb := 240) h0 u0 0 (hj0.stages.up 4 rfl) Tryz.underlying26 (i := Tryz.t44) kr fR ?_
 intro c0 d0 _ _ v0 w0
 refine pu1 ?_
 refine tW w0 3 1 (.slice c0 (0 + j0.stages.n) d0) Tryz.sizeOf26 ?_
 intro _ x0
 refine nT <| sR ?_
 refine sBS x0 #[] Tryz.runUnderlying22 Tryz.sizeOf3 Tryz.zeroValue3 ?_
 intro y0 _ i0
 refine pu1 ?_
 refine sL i0 4 2 (.slice j0.outputs.a j0.outputs.n j0.outputs.k) (Tryz.isAgg22 _) ?_
 have z0 := OwnT.blk (enc := encI) (sz := 1) (b := y0) (c := #[]) (E := 3) (xs := []) fR 0 rfl rfl rfl om
 refine sApp (nb := 8) i0 z0 0 (hj0.outputs.up 5 rfl) Tryz.underlying22 (i := Tryz.t3) kr fR ?_
 intro e0 f0 _ _ b1 d1
 refine pu1 ?_
 refine tW d1 4 2 (.slice e0 (0 + j0.outputs.n) f0) Tryz.sizeOf22 ?_
 intro _ k0
 refine nT <| sR ?_
 refine lA k0 4 0 4 (Tryz.isAgg28 _) (Tryz.sizeOf28 _) ?_
 refine sT k0 3 0 (.agg #[.slice a0 (0 + j0.inputs.n) b0, .slice c0 (0 + j0.stages.n) d0, .slice e0 (0 + j0.outputs.n) f0, I j0.priority]) [.slice a0 (0 + j0.inputs.n) b0, .slice c0 (0 + j0.stages.n) d0, .slice e0 (0 + j0.outputs.n) f0, I j0.priority] #[.slice a0 (0 + j0.inputs.n) b0, .slice c0 (0 + j0.stages.n) d0, .slice e0 (0 + j0.outputs.n) f0, I j0.priority] Tryz.sizeOf28 ?_
 intro _ l0
 refine nT <| retE <| retN (vs := [.agg #[.slice a0 (0 + j0.inputs.n) b0, .slice c0 (0 + j0.stages.n) d0, .slice e0 (0 + j0.outputs.n) f0, I j0.priority]]) rfl (.cons (.cell _ _ _ _ kr (lvA l0 3 0 [.slice a0 (0 + j0.inputs.n) b0, .slice c0 (0 + j0.stages.n) d0, .slice e0 (0 + j0.outputs.n) f0, I j0.priority] (Tryz.isAgg28 _) (Tryz.sizeOf28 _) rfl rfl rfl)) .nil) ?_
 have e1 := ((l0.picks [1, 2]).drops [3, 3])
 exact ⟨_, _, _, _, _, _, _, _, _, _, _, _, rfl, (by have h := q0; rw [List.nil_append] at h; exact h), (by have h := v0; rw [List.nil_append] at h; exact h), (by have h := b1; rw [List.nil_append] at h; exact h), e1⟩

def jobS (k : Nat) (q : Job) : Prop := (q.inputs.l.length ≤ 2 ∧ ∀ z ∈ q.inputs.l, planeS k z) ∧ (q.stages.l.length ≤ 4 ∧ ∀ z ∈ q.stages.l, stageB k z) ∧ (q.outputs.l.length ≤ 2 + k ∧ ∀ z ∈ q.outputs.l, numB z) ∧ numB q.priority
theorem planeS_mono {k m : Nat} {q : Plane} (h : planeS k q) (hm : k ≤ m) : planeS m q := ⟨⟨numS_mono h.1.1 hm, numS_mono h.1.2.1 hm, numS_mono h.1.2.2 hm⟩, by have := h.2.1; omega, fun z hz => numS_mono (h.2.2 z hz) hm⟩
theorem stageB_mono {k m : Nat} {q : Stage} (h : stageB k q) (hm : k ≤ m) : stageB m q := by
  unfold stageB at *
  refine ⟨h.1, h.2.1, h.2.2.1, h.2.2.2.1, ⟨by have := h.2.2.2.2.1.1; omega, h.2.2.2.2.1.2⟩, ⟨by have := h.2.2.2.2.2.1.1; omega, h.2.2.2.2.2.1.2⟩, by have := h.2.2.2.2.2.2.1; omega, h.2.2.2.2.2.2.2⟩
theorem jobB_S {q : Job} (h : jobB 0 q) : jobS 0 q := by
  refine ⟨⟨h.1.1, fun z hz => ?_⟩, h.2⟩
  have h1 := h.1.2 z hz
  have e : ∀ x, numB x → numS 0 x := fun x hx => by unfold numB at hx; unfold numS; omega
  exact ⟨⟨e _ h1.2.1, e _ h1.2.2.1, e _ h1.2.2.2⟩, by have := h1.1.1; omega, fun y hy => e _ (h1.1.2 y hy)⟩
theorem tg_spoilJob {J : Chunk} {p : Nat} {a : Option Addr} {n k : Nat} {i : Int} {xs : List Int} (hR : RdT encI 1 [H] a n k xs) (hi : 0 ≤ i ∧ i ≤ n) (hS : Sat W w ([(p, .cells #[.slice a n k, I i] 59 (0, 0))] :: J :: H :: F)) (j0 : Job) (hj0 : Job.Ok [J] j0) (kk : Nat) (hkk : kk ≤ 100) (hjS : jobS kk j0) :
  Calls Tryz.prog 13 #[Pt p 0, .agg (encJob j0).toArray] w fun e w' => ∃ (q : Job) (G : Chunk), e = .returned (.agg (encJob q).toArray) ∧ (Job.Ok [G ++ J] q) ∧ (jobS (kk + 1) q) ∧ ∃ i' : Int, (0 ≤ i' ∧ i' ≤ n) ∧ Sat W w' ([(p, .cells #[.slice a n k, I i'] 59 (0, 0))] :: G :: J :: H :: F) := by
 have hl_j0_inputs := hj0.inputs.le; have hn_j0_inputs := hj0.inputs.len
 have hl_j0_stages := hj0.stages.le; have hn_j0_stages := hj0.stages.len
 have hl_j0_outputs := hj0.outputs.le; have hn_j0_outputs := hj0.outputs.len
 have hle := hR.le
 have hb1 := hjS.1.1; have hb2 := hjS.2.1.1; have hb3 := hjS.2.2.1.1
 refine callsA 85 Tryz.func13 rfl ?_
 refine sR ?_
 refine sBox hS (.agg (encJob j0).toArray) (encJob j0).toArray ?_
 intro b0 _ b2
 refine sAlloc b2 Tryz.zeroValue28 ?_
 intro h0 _ t1
 refine nT <| sR ?_
 refine lA t1 1 0 4 (Tryz.isAgg28 _) (Tryz.sizeOf28 _) ?_
 refine sF #[.agg (encJob j0).toArray] Tryz.call35 (Calls.mono (tg_copyJob W _ _ [] j0 ⟨(RdT.flat (hj0.inputs.up 3 (by rfl))), (fun z hz => (hj0.inputsD z hz).of_mem (mem_flat1 3 (by rfl))), (RdT.flat (hj0.stages.up 3 (by rfl))), (fun z hz => (hj0.stagesD z hz).of_mem (mem_flat1 3 (by rfl))), (RdT.flat (hj0.outputs.up 3 (by rfl)))⟩ om (Sat.flat t1)) ?_)
 rintro _ _ ⟨a1_9, a2_10, a3_11, n1_12, k1_13, n2_14, k2_15, n3_16, k3_17, c1_18, c2_19, c3_20, rfl, k0, l0, m0, u1⟩
 refine ⟨_, rfl, ?_⟩
 have c2 := Sat.unflatc u1; clear u1
 have hn_a1_9 := k0.len; have hl_a1_9 := k0.le
 have hn_a2_10 := l0.len; have hl_a2_10 := l0.le
 have hn_a3_11 := m0.len; have hl_a3_11 := m0.le
 refine sT c2 4 0 (.agg #[.slice a1_9 n1_12 k1_13, .slice a2_10 n2_14 k2_15, .slice a3_11 n3_16 k3_17, I j0.priority]) [.slice a1_9 n1_12 k1_13, .slice a2_10 n2_14 k2_15, .slice a3_11 n3_16 k3_17, I j0.priority] #[.slice a1_9 n1_12 k1_13, .slice a2_10 n2_14 k2_15, .slice a3_11 n3_16 k3_17, I j0.priority] Tryz.sizeOf28 ?_
 intro _ d2
 refine nT ?_
 refine cutA (γ := Job × Chunk × Int) (fun ⟨q, G1, itc⟩ => [(3, Pt b0 0), (4, Pt h0 0)]) (fun ⟨q, G1, itc⟩ w => Sat W w ([(p, .cells #[.slice a n k, I itc] 59 (0, 0))] :: [(b0, .cells (encJob q).toArray 28 (0, 0))] :: [(h0, .cells #[.slice none 0 0, .slice none 0 0, .slice none 0 0, I 0] 28 (0, 0))] :: G1 :: J :: H :: F) ∧ (0 ≤ itc ∧ itc ≤ n) ∧ Job.Ok [G1 ++ J] q ∧ jobS (kk + 1) q) ?_ ?_
 rotate_left
 ·rintro ⟨q, G1, itc⟩ ρ _ ⟨v1, hitc, hqok, hqS⟩
  refine sR ?_
  refine lA v1 1 0 4 (Tryz.isAgg28 _) (Tryz.sizeOf28 _) ?_
  refine sT v1 2 0 (.agg (encJob q).toArray) (encJob q) (encJob q).toArray Tryz.sizeOf28 ?_
  intro _ w1
  refine nT <| retE <| retN (vs := [.agg (encJob q).toArray]) rfl (.cons (.cell _ _ _ _ kr (lvA w1 2 0 (encJob q) (Tryz.isAgg28 _) (Tryz.sizeOf28 _) rfl rfl rfl)) .nil) ?_
  have e2 := (w1.drops [1, 1])
  exact ⟨q, G1, rfl, hqok, hqS, _, om, e2⟩
 refine sR <| pu1 ?_
 have f2 := (d2.pick 5 rfl)
 refine cX Tryz.call19 (tape_next (RdT.flat (hR.up 6 (by rfl))) om (Sat.flat1 f2) 7 om) ?_
 rintro _ _ ⟨w0, rfl, _, t0, _, g2⟩
 have d0 := Sat.unflat1 g2
 refine nT <| blockE <| sR <| pu2 <| nT ?_
 refine cE w0 0 (fun h2 => ?_) (fun h2 => ?_)
 ·refine regionE <| pu1 ?_
  refine sBS d0 #[I (-1), I 4, I 3] Tryz.runUnderlying22 Tryz.sizeOf3 Tryz.zeroValue3 ?_
  intro _ _ i2
  have j2 := (i2.pick 1 rfl)
  refine cX Tryz.call36 (tape_pick (RdT.flat (hR.up 7 (by rfl))) om (Sat.flat1 j2) (RdT.flat (RdT.blk (enc := encI) (sz := 1) (xs := [-1, 4, 3]) (fun _ => (by rfl)) 3 0 rfl rfl rfl om)) om om) ?_
  rintro _ _ ⟨r0, rfl, k2, g1, _, l2⟩
  have m2 := Sat.unflat1 l2
  have d5 : (r0 : Int) = (-1) ∨ (r0 : Int) = 4 ∨ (r0 : Int) = 3 := by simpa using k2
  refine pu1 ?_
  refine tW m2 6 3 (I r0) Tryz.sizeOf3 ?_
  intro _ n2
  refine nB ?_
  have o2 := ((n2.picks [5, 6, 2]).dropAt 3 rfl)
  have p2 : Sat W _ ([(p, .cells #[.slice a n k, I g1] 59 (0, 0))] :: [(b0, .cells #[.slice a1_9 n1_12 k1_13, .slice a2_10 n2_14 k2_15, .slice a3_11 n3_16 k3_17, I r0] 28 (0, 0))] :: [(h0, .cells #[.slice none 0 0, .slice none 0 0, .slice none 0 0, I 0] 28 (0, 0))] :: (c1_18 ++ c2_19 ++ c3_20) :: J :: H :: F) := Sat.perm (show Sat W _ ([(p, .cells #[.slice a n k, I g1] 59 (0, 0))] :: [(b0, .cells #[.slice a1_9 n1_12 k1_13, .slice a2_10 n2_14 k2_15, .slice a3_11 n3_16 k3_17, I r0] 28 (0, 0))] :: [(h0, .cells #[.slice none 0 0, .slice none 0 0, .slice none 0 0, I 0] 28 (0, 0))] :: c1_18 :: c2_19 :: c3_20 :: J :: H :: F) from o2) (by simp [Value.cells])
  exact ⟨((⟨⟨a1_9, n1_12, k1_13, j0.inputs.l⟩, ⟨a2_10, n2_14, k2_15, j0.stages.l⟩, ⟨a3_11, n3_16, k3_17, j0.outputs.l⟩, r0⟩ : Job), (c1_18 ++ c2_19 ++ c3_20), g1), alA, p2, om, ⟨(k0.rdAt (cs := [c1_18]) 0 rfl).of_mem mS, (fun z hz => (hj0.inputsD z hz).of_mem mS), (l0.rdAt (cs := [c2_19]) 0 rfl).of_mem mS, (fun z hz => (hj0.stagesD z hz).of_mem mS), (m0.rdAt (cs := [c3_20]) 0 rfl).of_mem mS⟩, ⟨⟨by have h := hjS.1.1; first | (dsimp only; omega) | (simp; omega), (fun z hz => planeS_mono (hjS.1.2 z hz) om)⟩, ⟨by have h := hjS.2.1.1; first | (dsimp only; omega) | (simp; omega), (fun z hz => stageB_mono (hjS.2.1.2 z hz) om)⟩, ⟨by have h := hjS.2.2.1.1; first | (dsimp only; omega) | (simp; omega), hjS.2.2.1.2⟩, by have h := hjS.2.2.2; unfold numB at *; dsimp only; omega⟩⟩
 refine sR <| pu2 <| nT ?_
 refine cE w0 1 (fun q2 => ?_) (fun q2 => ?_)
 ·refine sR <| pu1 ?_
  refine sL d0 5 0 (.slice a1_9 n1_12 k1_13) (Tryz.isAgg25 _) ?_
  refine pu2 <| nT ?_
  refine cD (((n1_12 : Nat) : Int) > 0) (fun r2 => ?_) (fun r2 => ?_)
  rotate_left
  ·refine skipE <| blockK_n <| thenK_n ?_
   have s2 := (d0.picks [4, 5, 2])
   have t2 : Sat W _ ([(p, .cells #[.slice a n k, I t0] 59 (0, 0))] :: [(b0, .cells #[.slice a1_9 n1_12 k1_13, .slice a2_10 n2_14 k2_15, .slice a3_11 n3_16 k3_17, I j0.priority] 28 (0, 0))] :: [(h0, .cells #[.slice none 0 0, .slice none 0 0, .slice none 0 0, I 0] 28 (0, 0))] :: (c1_18 ++ c2_19 ++ c3_20) :: J :: H :: F) := Sat.perm (show Sat W _ ([(p, .cells #[.slice a n k, I t0] 59 (0, 0))] :: [(b0, .cells #[.slice a1_9 n1_12 k1_13, .slice a2_10 n2_14 k2_15, .slice a3_11 n3_16 k3_17, I j0.priority] 28 (0, 0))] :: [(h0, .cells #[.slice none 0 0, .slice none 0 0, .slice none 0 0, I 0] 28 (0, 0))] :: c1_18 :: c2_19 :: c3_20 :: J :: H :: F) from s2) (by simp [Value.cells])
   exact ⟨((⟨⟨a1_9, n1_12, k1_13, j0.inputs.l⟩, ⟨a2_10, n2_14, k2_15, j0.stages.l⟩, ⟨a3_11, n3_16, k3_17, j0.outputs.l⟩, j0.priority⟩ : Job), (c1_18 ++ c2_19 ++ c3_20), t0), alA, t2, om, ⟨(k0.rdAt (cs := [c1_18]) 0 rfl).of_mem mS, (fun z hz => (hj0.inputsD z hz).of_mem mS), (l0.rdAt (cs := [c2_19]) 0 rfl).of_mem mS, (fun z hz => (hj0.stagesD z hz).of_mem mS), (m0.rdAt (cs := [c3_20]) 0 rfl).of_mem mS⟩, ⟨⟨by have h := hjS.1.1; first | (dsimp only; omega) | (simp; omega), (fun z hz => planeS_mono (hjS.1.2 z hz) om)⟩, ⟨by have h := hjS.2.1.1; first | (dsimp only; omega) | (simp; omega), (fun z hz => stageB_mono (hjS.2.1.2 z hz) om)⟩, ⟨by have h := hjS.2.2.1.1; first | (dsimp only; omega) | (simp; omega), hjS.2.2.1.2⟩, by have h := hjS.2.2.2; unfold numB at *; dsimp only; omega⟩⟩
  obtain ⟨n0, u0, v0, y0, x0, h1, u2⟩ := OwnT.elem k0 0
  change _[0]? = _ at y0; change PtR _ _ (_ + 0 * _) _ at x0; change ElemAt _ _ _ _ _ (_ + 0 * _) at h1
  refine drawE [7, 9] [(1, ⟨b0, 0, none⟩, .slice a1_9 n1_12 k1_13), (4, ⟨b0, 0, none⟩, .slice a1_9 n1_12 k1_13), (6, ⟨u0, v0 + 0 * 4 + 0, none⟩, I n0.w), (6, ⟨u0, v0 + 0 * 4 + 1, none⟩, I n0.h), (6, ⟨u0, v0 + 0 * 4 + 2, none⟩, I n0.max_), (6, ⟨u0, v0 + 0 * 4 + 3, none⟩, .slice n0.pix.a n0.pix.n n0.pix.k)] [(true, [0, 2, 3]), (true, [1]), (true, [4]), (true, [5]), (true, [6]), (false, [7]), (true, [8]), (false, [9])] rfl kr ⟨.inr (d0.cell 5 rfl rfl), .inr (d0.cell 5 rfl rfl), .inr ((x0.up 1 rfl).cell d0 (k := 0) rfl), .inr ((x0.up 1 rfl).cell d0 (k := 1) rfl), .inr ((x0.up 1 rfl).cell d0 (k := 2) rfl), .inr ((x0.up 1 rfl).cell d0 (k := 3) rfl), trivial⟩ ?_
  have v2 := d0.drew
  refine wU [0, 2, 3] ?_
  refine wLd (.slice a1_9 n1_12 k1_13) 0 Tryz.isAgg25 ?_
  refine wLd (.slice a1_9 n1_12 k1_13) 1 Tryz.isAgg25 ?_
  refine wY (.pointer (some ⟨u0, v0 + 0 * 4, none⟩)) rfl (fun w _ => Y_idx (a := a1_9) (i := 0) (len := n1_12) (cap := k1_13) rfl Tryz.runUnderlying25 Tryz.sizeOf38 kr kr h1) ?_
  refine wY (.agg (encPlane n0).toArray) rfl (fun w hF => Y_loadF rfl (Tryz.isAgg38 w) (Tryz.sizeOf38 w) kr rfl ⟨hF 2 _ _ rfl, hF 3 _ _ rfl, hF 4 _ _ rfl, hF 5 _ _ rfl, trivial⟩) ?_
  refine wO rfl ?_
  refine cX Tryz.call37 (tg_spoilPlane (RdT.flat (hR.up 6 (by rfl))) om (Sat.flat1 v2) n0 ⟨(RdT.flat ((hj0.inputsD n0 (List.mem_of_getElem? y0)).pix.up 5 (by rfl)))⟩ kk om (hjS.1.2 _ (List.mem_of_getElem? y0))) ?_
  rintro _ _ ⟨z0, i1, rfl, w2, x2, j1, _, y2⟩
  have k1 := Sat.unflat2 y2
  refine nilO ⟨⟨.inr (k1.cell 6 rfl rfl), .inr (k1.cell 6 rfl rfl), dI, dI, dI, dI, trivial⟩, ?_⟩
  refine wY (.pointer (some ⟨u0, v0 + 0 * 4, none⟩)) rfl (fun w _ => Y_idx (a := a1_9) (i := 0) (len := n1_12) (cap := k1_13) rfl Tryz.runUnderlying25 Tryz.sizeOf38 kr kr h1) ?_
  refine wO rfl ?_
  refine sStF k1 k0 u2 2 0 0 n0 z0 y0 (.agg (encPlane z0).toArray) (encPlane z0) Tryz.sizeOf38 ?_
  intro _ a1 z2 a3
  refine nilO ⟨dA, ?_⟩
  refine wN ?_
  refine blockK_n <| thenK_n ?_
  have b3 := (a3.picks [2, 5, 6, 3])
  have c3 : Sat W _ ([(p, .cells #[.slice a n k, I j1] 59 (0, 0))] :: [(b0, .cells #[.slice a1_9 n1_12 k1_13, .slice a2_10 n2_14 k2_15, .slice a3_11 n3_16 k3_17, I j0.priority] 28 (0, 0))] :: [(h0, .cells #[.slice none 0 0, .slice none 0 0, .slice none 0 0, I 0] 28 (0, 0))] :: (a1 ++ i1 ++ c2_19 ++ c3_20) :: J :: H :: F) := Sat.perm (show Sat W _ ([(p, .cells #[.slice a n k, I j1] 59 (0, 0))] :: [(b0, .cells #[.slice a1_9 n1_12 k1_13, .slice a2_10 n2_14 k2_15, .slice a3_11 n3_16 k3_17, I j0.priority] 28 (0, 0))] :: [(h0, .cells #[.slice none 0 0, .slice none 0 0, .slice none 0 0, I 0] 28 (0, 0))] :: a1 :: i1 :: c2_19 :: c3_20 :: J :: H :: F) from b3) (by simp [Value.cells])
  exact ⟨((⟨⟨a1_9, n1_12, k1_13, (j0.inputs.l.set 0 z0)⟩, ⟨a2_10, n2_14, k2_15, j0.stages.l⟩, ⟨a3_11, n3_16, k3_17, j0.outputs.l⟩, j0.priority⟩ : Job), (a1 ++ i1 ++ c2_19 ++ c3_20), j1), alA, c3, om, ⟨(z2.rdAt (cs := [a1]) 0 rfl).of_mem mS, (mem_set (fun z hz => (hj0.inputsD z hz).of_mem mS) (w2.of_mem mS)), (l0.rdAt (cs := [c2_19]) 0 rfl).of_mem mS, (fun z hz => (hj0.stagesD z hz).of_mem mS), (m0.rdAt (cs := [c3_20]) 0 rfl).of_mem mS⟩, ⟨⟨by have h := hjS.1.1; first | (dsimp only; omega) | (simp; omega), mem_set (fun z hz => planeS_mono (hjS.1.2 z hz) om) x2⟩, ⟨by have h := hjS.2.1.1; first | (dsimp only; omega) | (simp; omega), (fun z hz => stageB_mono (hjS.2.1.2 z hz) om)⟩, ⟨by have h := hjS.2.2.1.1; first | (dsimp only; omega) | (simp; omega), hjS.2.2.1.2⟩, by have h := hjS.2.2.2; unfold numB at *; dsimp only; omega⟩⟩
 refine sR <| pu2 <| nT ?_
 refine cE w0 2 (fun d3 => ?_) (fun d3 => ?_)
 ·refine drawE [3, 4, 5, 6, 8] [(1, ⟨b0, 2, none⟩, .slice a3_11 n3_16 k3_17)] [(true, [0, 2]), (true, [1]), (false, [3]), (false, [4]), (false, [5]), (false, [6]), (true, [7]), (false, [8])] rfl kr ⟨.inr (d0.cell 5 rfl rfl), trivial⟩ ?_
  have e3 := d0.drew
  refine wU [0, 2] ?_
  refine wLd (.slice a3_11 n3_16 k3_17) 0 Tryz.isAgg22 ?_
  refine wO rfl ?_
  refine sBS e3 #[I (-1), I 0, I 16, I 99] Tryz.runUnderlying22 Tryz.sizeOf3 Tryz.zeroValue3 ?_
  intro _ _ x1
  refine nilO ⟨⟨.inr (x1.cell 6 rfl rfl), trivial⟩, ?_⟩
  refine wO rfl ?_
  have f3 := (x1.pick 1 rfl)
  refine cX Tryz.call36 (tape_pick (RdT.flat (hR.up 7 (by rfl))) om (Sat.flat1 f3) (RdT.flat (RdT.blk (enc := encI) (sz := 1) (xs := [-1, 0, 16, 99]) (fun _ => (by rfl)) 4 0 rfl rfl rfl om)) om om) ?_
  rintro _ _ ⟨s0, rfl, g3, l1, _, h3⟩
  have y1 := Sat.unflat1 h3
  have m5 : (s0 : Int) = (-1) ∨ (s0 : Int) = 0 ∨ (s0 : Int) = 16 ∨ (s0 : Int) = 99 := by simpa using g3
  refine nilO ⟨⟨.inr (y1.cell 6 rfl rfl), trivial⟩, ?_⟩
  refine wO rfl ?_
  refine sBS y1 #[I s0] Tryz.runUnderlying22 Tryz.sizeOf3 Tryz.zeroValue3 ?_
  intro _ _ z1
  refine nilO ⟨⟨.inr (z1.cell 7 rfl rfl), trivial⟩, ?_⟩
  refine wO rfl ?_
  refine sApp (nb := 8) z1 m0 5 (RdT.blk (enc := encI) (sz := 1) (xs := [s0]) fR 1 0 rfl rfl rfl om) Tryz.underlying22 (i := Tryz.t3) kr fR ?_
  intro b1 c1 d1 _ i3 j3
  refine nilO ⟨dA, ?_⟩
  refine wU [7] ?_
  refine wO rfl ?_
  refine tW j3 7 2 (.slice b1 (n3_16 + 1) c1) Tryz.sizeOf22 ?_
  intro _ k3
  refine nilO ⟨dA, ?_⟩
  refine wN ?_
  refine blockK_n <| thenK_n ?_
  have l3 := ((k3.picks [6, 7, 3]).drops [3, 3])
  have m3 : Sat W _ ([(p, .cells #[.slice a n k, I l1] 59 (0, 0))] :: [(b0, .cells #[.slice a1_9 n1_12 k1_13, .slice a2_10 n2_14 k2_15, .slice b1 (n3_16 + 1) c1, I j0.priority] 28 (0, 0))] :: [(h0, .cells #[.slice none 0 0, .slice none 0 0, .slice none 0 0, I 0] 28 (0, 0))] :: (c1_18 ++ c2_19 ++ d1) :: J :: H :: F) := Sat.perm (show Sat W _ ([(p, .cells #[.slice a n k, I l1] 59 (0, 0))] :: [(b0, .cells #[.slice a1_9 n1_12 k1_13, .slice a2_10 n2_14 k2_15, .slice b1 (n3_16 + 1) c1, I j0.priority] 28 (0, 0))] :: [(h0, .cells #[.slice none 0 0, .slice none 0 0, .slice none 0 0, I 0] 28 (0, 0))] :: c1_18 :: c2_19 :: d1 :: J :: H :: F) from l3) (by simp [Value.cells])
  exact ⟨((⟨⟨a1_9, n1_12, k1_13, j0.inputs.l⟩, ⟨a2_10, n2_14, k2_15, j0.stages.l⟩, ⟨b1, (n3_16 + 1), c1, (j0.outputs.l ++ [s0])⟩, j0.priority⟩ : Job), (c1_18 ++ c2_19 ++ d1), l1), alA, m3, om, ⟨(k0.rdAt (cs := [c1_18]) 0 rfl).of_mem mS, (fun z hz => (hj0.inputsD z hz).of_mem mS), (l0.rdAt (cs := [c2_19]) 0 rfl).of_mem mS, (fun z hz => (hj0.stagesD z hz).of_mem mS), (i3.rdAt (cs := [d1]) 0 rfl).of_mem mS⟩, ⟨⟨by have h := hjS.1.1; first | (dsimp only; omega) | (simp; omega), (fun z hz => planeS_mono (hjS.1.2 z hz) om)⟩, ⟨by have h := hjS.2.1.1; first | (dsimp only; omega) | (simp; omega), (fun z hz => stageB_mono (hjS.2.1.2 z hz) om)⟩, ⟨by have h := hjS.2.2.1.1; first | (dsimp only; omega) | (simp; omega), mem_snoc hjS.2.2.1.2 (by unfold numB; omega)⟩, by have h := hjS.2.2.2; unfold numB at *; dsimp only; omega⟩⟩
 refine sR <| pu2 <| nT ?_
 refine cE w0 3 (fun n3 => ?_) (fun n3 => ?_)
 ·refine drawE [6, 9] [(1, ⟨b0, 0, none⟩, .slice a1_9 n1_12 k1_13), (4, ⟨b0, 0, none⟩, .slice a1_9 n1_12 k1_13)] [(true, [0, 2, 3]), (true, [1]), (true, [4]), (true, [5]), (false, [6]), (true, [7]), (true, [8]), (false, [9])] rfl kr ⟨.inr (d0.cell 5 rfl rfl), .inr (d0.cell 5 rfl rfl), trivial⟩ ?_
  have o3 := d0.drew
  refine wU [0, 2, 3] ?_
  refine wLd (.slice a1_9 n1_12 k1_13) 0 Tryz.isAgg25 ?_
  refine wLd (.slice a1_9 n1_12 k1_13) 1 Tryz.isAgg25 ?_
  refine wU [5] ?_
  refine wO rfl ?_
  refine cX Tryz.call19 (tape_next (RdT.flat (hR.up 6 (by rfl))) om (Sat.flat1 o3) ((n1_12 : Nat) : Int) om) ?_
  rintro _ _ ⟨p0, rfl, _, m1, _, p3⟩
  have n1 := Sat.unflat1 p3
  refine nilO ⟨⟨.inr (n1.cell 5 rfl rfl), .inr (n1.cell 5 rfl rfl), trivial⟩, ?_⟩
  have q3 := k0.part (lo := 0) (hi := (p0).toNat) om om
  refine wY (.slice (partAddr a1_9 k1_13 0 4) ((p0).toNat - 0) (k1_13 - 0)) rfl (fun w _ => Y_sl (a := a1_9) (len := n1_12) (cap := k1_13) none (some p0) 0 ((p0).toNat) Tryz.runUnderlying25 Tryz.sizeOf38 rfl ⟨om, om⟩ om om) ?_
  refine wU [8] ?_
  refine wO rfl ?_
  refine tW n1 5 0 (.slice (partAddr a1_9 k1_13 0 4) ((p0).toNat - 0) (k1_13 - 0)) Tryz.sizeOf25 ?_
  intro _ r3
  refine nilO ⟨dA, ?_⟩
  refine wN ?_
  refine blockK_n <| thenK_n ?_
  have s3 := (r3.picks [4, 5, 2])
  have u3 : Sat W _ ([(p, .cells #[.slice a n k, I m1] 59 (0, 0))] :: [(b0, .cells #[.slice (partAddr a1_9 k1_13 0 4) ((p0).toNat - 0) (k1_13 - 0), .slice a2_10 n2_14 k2_15, .slice a3_11 n3_16 k3_17, I j0.priority] 28 (0, 0))] :: [(h0, .cells #[.slice none 0 0, .slice none 0 0, .slice none 0 0, I 0] 28 (0, 0))] :: (c1_18 ++ c2_19 ++ c3_20) :: J :: H :: F) := Sat.perm (show Sat W _ ([(p, .cells #[.slice a n k, I m1] 59 (0, 0))] :: [(b0, .cells #[.slice (partAddr a1_9 k1_13 0 4) ((p0).toNat - 0) (k1_13 - 0), .slice a2_10 n2_14 k2_15, .slice a3_11 n3_16 k3_17, I j0.priority] 28 (0, 0))] :: [(h0, .cells #[.slice none 0 0, .slice none 0 0, .slice none 0 0, I 0] 28 (0, 0))] :: c1_18 :: c2_19 :: c3_20 :: J :: H :: F) from s3) (by simp [Value.cells])
  exact ⟨((⟨⟨(partAddr a1_9 k1_13 0 4), ((p0).toNat - 0), (k1_13 - 0), ((j0.inputs.l.drop 0).take ((p0).toNat - 0))⟩, ⟨a2_10, n2_14, k2_15, j0.stages.l⟩, ⟨a3_11, n3_16, k3_17, j0.outputs.l⟩, j0.priority⟩ : Job), (c1_18 ++ c2_19 ++ c3_20), m1), alA, u3, om, ⟨(q3.rdAt (cs := [c1_18]) 0 rfl).of_mem mS, (fun z hz => (hj0.inputsD z (List.mem_of_mem_drop (List.mem_of_mem_take hz))).of_mem mS), (l0.rdAt (cs := [c2_19]) 0 rfl).of_mem mS, (fun z hz => (hj0.stagesD z hz).of_mem mS), (m0.rdAt (cs := [c3_20]) 0 rfl).of_mem mS⟩, ⟨⟨by have h := hjS.1.1; first | (dsimp only; omega) | (simp; omega), (fun z hz => (fun z hz => planeS_mono (hjS.1.2 z hz) om) z (List.mem_of_mem_drop (List.mem_of_mem_take hz)))⟩, ⟨by have h := hjS.2.1.1; first | (dsimp only; omega) | (simp; omega), (fun z hz => stageB_mono (hjS.2.1.2 z hz) om)⟩, ⟨by have h := hjS.2.2.1.1; first | (dsimp only; omega) | (simp; omega), hjS.2.2.1.2⟩, by have h := hjS.2.2.2; unfold numB at *; dsimp only; omega⟩⟩
 refine sR <| pu2 <| nT ?_
 refine cE w0 4 (fun v3 => ?_) (fun v3 => ?_)
 ·refine drawE [7, 10] [(1, ⟨b0, 1, none⟩, .slice a2_10 n2_14 k2_15), (4, ⟨b0, 1, none⟩, .slice a2_10 n2_14 k2_15)] [(true, [0, 2, 3]), (true, [1]), (true, [4]), (true, [5]), (true, [6]), (false, [7]), (true, [8]), (true, [9]), (false, [10])] rfl kr ⟨.inr (d0.cell 5 rfl rfl), .inr (d0.cell 5 rfl rfl), trivial⟩ ?_
  have w3 := d0.drew
  refine wU [0, 2, 3] ?_
  refine wLd (.slice a2_10 n2_14 k2_15) 0 Tryz.isAgg26 ?_
  refine wLd (.slice a2_10 n2_14 k2_15) 1 Tryz.isAgg26 ?_
  refine wU [5] ?_
  refine wAdd ((n2_14 : Nat) : Int) 1 ?_
  refine wO rfl ?_
  refine cX Tryz.call19 (tape_next (RdT.flat (hR.up 6 (by rfl))) om (Sat.flat1 w3) (((n2_14 : Nat) : Int) + 1) om) ?_
  rintro _ _ ⟨q0, rfl, _, o1, _, x3⟩
  have p1 := Sat.unflat1 x3
  refine nilO ⟨⟨.inr (p1.cell 5 rfl rfl), .inr (p1.cell 5 rfl rfl), trivial⟩, ?_⟩
  have y3 := l0.part (lo := 0) (hi := (q0).toNat) om om
  refine wY (.slice (partAddr a2_10 k2_15 0 18) ((q0).toNat - 0) (k2_15 - 0)) rfl (fun w _ => Y_sl (a := a2_10) (len := n2_14) (cap := k2_15) none (some q0) 0 ((q0).toNat) Tryz.runUnderlying26 Tryz.sizeOf44 rfl ⟨om, om⟩ om om) ?_
  refine wU [9] ?_
  refine wO rfl ?_
  refine tW p1 5 1 (.slice (partAddr a2_10 k2_15 0 18) ((q0).toNat - 0) (k2_15 - 0)) Tryz.sizeOf26 ?_
  intro _ z3
  refine nilO ⟨dA, ?_⟩
  refine wN ?_
  refine blockK_n <| thenK_n ?_
  have a4 := (z3.picks [4, 5, 2])
  have b4 : Sat W _ ([(p, .cells #[.slice a n k, I o1] 59 (0, 0))] :: [(b0, .cells #[.slice a1_9 n1_12 k1_13, .slice (partAddr a2_10 k2_15 0 18) ((q0).toNat - 0) (k2_15 - 0), .slice a3_11 n3_16 k3_17, I j0.priority] 28 (0, 0))] :: [(h0, .cells #[.slice none 0 0, .slice none 0 0, .slice none 0 0, I 0] 28 (0, 0))] :: (c1_18 ++ c2_19 ++ c3_20) :: J :: H :: F) := Sat.perm (show Sat W _ ([(p, .cells #[.slice a n k, I o1] 59 (0, 0))] :: [(b0, .cells #[.slice a1_9 n1_12 k1_13, .slice (partAddr a2_10 k2_15 0 18) ((q0).toNat - 0) (k2_15 - 0), .slice a3_11 n3_16 k3_17, I j0.priority] 28 (0, 0))] :: [(h0, .cells #[.slice none 0 0, .slice none 0 0, .slice none 0 0, I 0] 28 (0, 0))] :: c1_18 :: c2_19 :: c3_20 :: J :: H :: F) from a4) (by simp [Value.cells])
  exact ⟨((⟨⟨a1_9, n1_12, k1_13, j0.inputs.l⟩, ⟨(partAddr a2_10 k2_15 0 18), ((q0).toNat - 0), (k2_15 - 0), ((j0.stages.l.drop 0).take ((q0).toNat - 0))⟩, ⟨a3_11, n3_16, k3_17, j0.outputs.l⟩, j0.priority⟩ : Job), (c1_18 ++ c2_19 ++ c3_20), o1), alA, b4, om, ⟨(k0.rdAt (cs := [c1_18]) 0 rfl).of_mem mS, (fun z hz => (hj0.inputsD z hz).of_mem mS), (y3.rdAt (cs := [c2_19]) 0 rfl).of_mem mS, (fun z hz => (hj0.stagesD z (List.mem_of_mem_drop (List.mem_of_mem_take hz))).of_mem mS), (m0.rdAt (cs := [c3_20]) 0 rfl).of_mem mS⟩, ⟨⟨by have h := hjS.1.1; first | (dsimp only; omega) | (simp; omega), (fun z hz => planeS_mono (hjS.1.2 z hz) om)⟩, ⟨by have h := hjS.2.1.1; first | (dsimp only; omega) | (simp; omega), (fun z hz => (fun z hz => stageB_mono (hjS.2.1.2 z hz) om) z (List.mem_of_mem_drop (List.mem_of_mem_take hz)))⟩, ⟨by have h := hjS.2.2.1.1; first | (dsimp only; omega) | (simp; omega), hjS.2.2.1.2⟩, by have h := hjS.2.2.2; unfold numB at *; dsimp only; omega⟩⟩
 refine sR <| pu1 ?_
 refine sL d0 5 1 (.slice a2_10 n2_14 k2_15) (Tryz.isAgg26 _) ?_
 refine pu2 <| nT ?_
 refine cD (((n2_14 : Nat) : Int) > 0) (fun c4 => ?_) (fun c4 => ?_)
 rotate_left
 ·refine skipE <| blockK_n <| thenK_n ?_
  have d4 := (d0.picks [4, 5, 2])
  have e4 : Sat W _ ([(p, .cells #[.slice a n k, I t0] 59 (0, 0))] :: [(b0, .cells #[.slice a1_9 n1_12 k1_13, .slice a2_10 n2_14 k2_15, .slice a3_11 n3_16 k3_17, I j0.priority] 28 (0, 0))] :: [(h0, .cells #[.slice none 0 0, .slice none 0 0, .slice none 0 0, I 0] 28 (0, 0))] :: (c1_18 ++ c2_19 ++ c3_20) :: J :: H :: F) := Sat.perm (show Sat W _ ([(p, .cells #[.slice a n k, I t0] 59 (0, 0))] :: [(b0, .cells #[.slice a1_9 n1_12 k1_13, .slice a2_10 n2_14 k2_15, .slice a3_11 n3_16 k3_17, I j0.priority] 28 (0, 0))] :: [(h0, .cells #[.slice none 0 0, .slice none 0 0, .slice none 0 0, I 0] 28 (0, 0))] :: c1_18 :: c2_19 :: c3_20 :: J :: H :: F) from d4) (by simp [Value.cells])
  exact ⟨((⟨⟨a1_9, n1_12, k1_13, j0.inputs.l⟩, ⟨a2_10, n2_14, k2_15, j0.stages.l⟩, ⟨a3_11, n3_16, k3_17, j0.outputs.l⟩, j0.priority⟩ : Job), (c1_18 ++ c2_19 ++ c3_20), t0), alA, e4, om, ⟨(k0.rdAt (cs := [c1_18]) 0 rfl).of_mem mS, (fun z hz => (hj0.inputsD z hz).of_mem mS), (l0.rdAt (cs := [c2_19]) 0 rfl).of_mem mS, (fun z hz => (hj0.stagesD z hz).of_mem mS), (m0.rdAt (cs := [c3_20]) 0 rfl).of_mem mS⟩, ⟨⟨by have h := hjS.1.1; first | (dsimp only; omega) | (simp; omega), (fun z hz => planeS_mono (hjS.1.2 z hz) om)⟩, ⟨by have h := hjS.2.1.1; first | (dsimp only; omega) | (simp; omega), (fun z hz => stageB_mono (hjS.2.1.2 z hz) om)⟩, ⟨by have h := hjS.2.2.1.1; first | (dsimp only; omega) | (simp; omega), hjS.2.2.1.2⟩, by have h := hjS.2.2.2; unfold numB at *; dsimp only; omega⟩⟩
 refine sR <| pu2 ?_
 refine sL d0 5 1 (.slice a2_10 n2_14 k2_15) (Tryz.isAgg26 _) ?_
 refine pu1 ?_
 refine cX Tryz.call19 (tape_next (RdT.flat (hR.up 6 (by rfl))) om (Sat.flat1 d0) ((n2_14 : Nat) : Int) om) ?_
 rintro _ _ ⟨c0, rfl, _, _, _, f4⟩
 have e0 := Sat.unflat1 f4
 refine pu1 <| nT ?_
 obtain ⟨a0, f0, g0, o0, i0, a2, g4⟩ := OwnT.elem l0 c0
 refine drawE [9, 11] [(1, ⟨b0, 1, none⟩, .slice a2_10 n2_14 k2_15), (5, ⟨b0, 1, none⟩, .slice a2_10 n2_14 k2_15), (8, ⟨f0, g0 + (c0).toNat * 18 + 0, none⟩, I a0.kind), (8, ⟨f0, g0 + (c0).toNat * 18 + 1, none⟩, I a0.a), (8, ⟨f0, g0 + (c0).toNat * 18 + 2, none⟩, I a0.b), (8, ⟨f0, g0 + (c0).toNat * 18 + 3, none⟩, .bool a0.barrier), (8, ⟨f0, g0 + (c0).toNat * 18 + 4, none⟩, I a0.edgePolicy), (8, ⟨f0, g0 + (c0).toNat * 18 + 5, none⟩, I a0.edgeFill), (8, ⟨f0, g0 + (c0).toNat * 18 + 6, none⟩, I a0.kW), (8, ⟨f0, g0 + (c0).toNat * 18 + 7, none⟩, I a0.kH), (8, ⟨f0, g0 + (c0).toNat * 18 + 8, none⟩, .slice a0.weights.a a0.weights.n a0.weights.k), (8, ⟨f0, g0 + (c0).toNat * 18 + 9, none⟩, .slice a0.row.a a0.row.n a0.row.k), (8, ⟨f0, g0 + (c0).toNat * 18 + 10, none⟩, .slice a0.col.a a0.col.n a0.col.k), (8, ⟨f0, g0 + (c0).toNat * 18 + 11, none⟩, I a0.shift), (8, ⟨f0, g0 + (c0).toNat * 18 + 12, none⟩, I a0.shift2), (8, ⟨f0, g0 + (c0).toNat * 18 + 13, none⟩, .slice a0.x.a a0.x.n a0.x.k), (8, ⟨f0, g0 + (c0).toNat * 18 + 14, none⟩, .slice a0.y.a a0.y.n a0.y.k), (8, ⟨f0, g0 + (c0).toNat * 18 + 15, none⟩, I a0.bins), (8, ⟨f0, g0 + (c0).toNat * 18 + 16, none⟩, .slice a0.ops.a a0.ops.n a0.ops.k), (8, ⟨f0, g0 + (c0).toNat * 18 + 17, none⟩, I a0.max_)] [(true, [0, 2, 3, 4, 6]), (true, [1]), (true, [5]), (true, [7]), (true, [8]), (false, [9]), (true, [10]), (false, [11])] rfl kr ⟨.inr (e0.cell 5 rfl rfl), .inr (e0.cell 5 rfl rfl), .inr ((i0.up 2 rfl).cell e0 (k := 0) rfl), .inr ((i0.up 2 rfl).cell e0 (k := 1) rfl), .inr ((i0.up 2 rfl).cell e0 (k := 2) rfl), .inr ((i0.up 2 rfl).cell e0 (k := 3) rfl), .inr ((i0.up 2 rfl).cell e0 (k := 4) rfl), .inr ((i0.up 2 rfl).cell e0 (k := 5) rfl), .inr ((i0.up 2 rfl).cell e0 (k := 6) rfl), .inr ((i0.up 2 rfl).cell e0 (k := 7) rfl), .inr ((i0.up 2 rfl).cell e0 (k := 8) rfl), .inr ((i0.up 2 rfl).cell e0 (k := 9) rfl), .inr ((i0.up 2 rfl).cell e0 (k := 10) rfl), .inr ((i0.up 2 rfl).cell e0 (k := 11) rfl), .inr ((i0.up 2 rfl).cell e0 (k := 12) rfl), .inr ((i0.up 2 rfl).cell e0 (k := 13) rfl), .inr ((i0.up 2 rfl).cell e0 (k := 14) rfl), .inr ((i0.up 2 rfl).cell e0 (k := 15) rfl), .inr ((i0.up 2 rfl).cell e0 (k := 16) rfl), .inr ((i0.up 2 rfl).cell e0 (k := 17) rfl), trivial⟩ ?_
 have h4 := e0.drew
 refine wU [0, 2, 3, 4, 6] ?_
 refine wLd (.slice a2_10 n2_14 k2_15) 0 Tryz.isAgg26 ?_
 refine wLd (.slice a2_10 n2_14 k2_15) 1 Tryz.isAgg26 ?_
 refine wY (.pointer (some ⟨f0, g0 + (c0).toNat * 18, none⟩)) rfl (fun w _ => Y_idx (a := a2_10) (i := c0) (len := n2_14) (cap := k2_15) rfl Tryz.runUnderlying26 Tryz.sizeOf44 kr kr a2) ?_
 refine wY (.agg (encStage a0).toArray) rfl (fun w hF => Y_loadF rfl (Tryz.isAgg44 w) (Tryz.sizeOf44 w) kr rfl ⟨hF 2 _ _ rfl, hF 3 _ _ rfl, hF 4 _ _ rfl, hF 5 _ _ rfl, hF 6 _ _ rfl, hF 7 _ _ rfl, hF 8 _ _ rfl, hF 9 _ _ rfl, hF 10 _ _ rfl, hF 11 _ _ rfl, hF 12 _ _ rfl, hF 13 _ _ rfl, hF 14 _ _ rfl, hF 15 _ _ rfl, hF 16 _ _ rfl, hF 17 _ _ rfl, hF 18 _ _ rfl, hF 19 _ _ rfl, trivial⟩) ?_
 refine wO rfl ?_
 have i4 := (h4.picks [6, 1])
 refine cX Tryz.call38 (tg_spoilStage (RdT.flat (hR.up 5 (by rfl))) om (Sat.flat2 i4) a0 ⟨(hj0.stagesD a0 (List.mem_of_getElem? o0)).weights, (hj0.stagesD a0 (List.mem_of_getElem? o0)).row, (hj0.stagesD a0 (List.mem_of_getElem? o0)).col, (hj0.stagesD a0 (List.mem_of_getElem? o0)).x, (hj0.stagesD a0 (List.mem_of_getElem? o0)).xD, (hj0.stagesD a0 (List.mem_of_getElem? o0)).y, (hj0.stagesD a0 (List.mem_of_getElem? o0)).yD, (hj0.stagesD a0 (List.mem_of_getElem? o0)).ops⟩ kk om (hjS.2.1.2 _ (List.mem_of_getElem? o0))) ?_
 rintro _ _ ⟨e1, q1, rfl, j4, k4, r1, _, l4⟩
 have s1 := Sat.unflat3 l4
 refine nilO ⟨⟨.inr (s1.cell 7 rfl rfl), .inr (s1.cell 7 rfl rfl), dI, dI, dI, dI, dI, dI, dI, dI, dI, dI, dI, dI, dI, dI, dI, dI, dI, dI, trivial⟩, ?_⟩
 refine wY (.pointer (some ⟨f0, g0 + (c0).toNat * 18, none⟩)) rfl (fun w _ => Y_idx (a := a2_10) (i := c0) (len := n2_14) (cap := k2_15) rfl Tryz.runUnderlying26 Tryz.sizeOf44 kr kr a2) ?_
 refine wO rfl ?_
 refine sStF s1 l0 g4 4 (c0).toNat 0 a0 e1 o0 (.agg (encStage e1).toArray) (encStage e1) Tryz.sizeOf44 ?_
 intro _ f1 m4 n4
 refine nilO ⟨dA, ?_⟩
 refine wN ?_
 refine blockK_n <| thenK_n ?_
 have o4 := (n4.picks [5, 2, 5, 5, 6, 7, 6])
 have p4 : Sat W _ ([(p, .cells #[.slice a n k, I r1] 59 (0, 0))] :: [(b0, .cells #[.slice a1_9 n1_12 k1_13, .slice a2_10 n2_14 k2_15, .slice a3_11 n3_16 k3_17, I j0.priority] 28 (0, 0))] :: [(h0, .cells #[.slice none 0 0, .slice none 0 0, .slice none 0 0, I 0] 28 (0, 0))] :: (c1_18 ++ f1 ++ q1 ++ c3_20) :: J :: H :: F) := Sat.perm (show Sat W _ ([(p, .cells #[.slice a n k, I r1] 59 (0, 0))] :: [(b0, .cells #[.slice a1_9 n1_12 k1_13, .slice a2_10 n2_14 k2_15, .slice a3_11 n3_16 k3_17, I j0.priority] 28 (0, 0))] :: [(h0, .cells #[.slice none 0 0, .slice none 0 0, .slice none 0 0, I 0] 28 (0, 0))] :: c1_18 :: f1 :: q1 :: c3_20 :: J :: H :: F) from o4) (by simp [Value.cells])
 exact ⟨((⟨⟨a1_9, n1_12, k1_13, j0.inputs.l⟩, ⟨a2_10, n2_14, k2_15, (j0.stages.l.set ((c0).toNat) e1)⟩, ⟨a3_11, n3_16, k3_17, j0.outputs.l⟩, j0.priority⟩ : Job), (c1_18 ++ f1 ++ q1 ++ c3_20), r1), alA, p4, om, ⟨(k0.rdAt (cs := [c1_18]) 0 rfl).of_mem mS, (fun z hz => (hj0.inputsD z hz).of_mem mS), (m4.rdAt (cs := [f1]) 0 rfl).of_mem mS, (mem_set (fun z hz => (hj0.stagesD z hz).of_mem mS) (j4.of_mem (fun p hp => by simp at hp ⊢; rcases hp with h | h <;> simp [h]))), (m0.rdAt (cs := [c3_20]) 0 rfl).of_mem mS⟩, ⟨⟨by have h := hjS.1.1; first | (dsimp only; omega) | (simp; omega), (fun z hz => planeS_mono (hjS.1.2 z hz) om)⟩, ⟨by have h := hjS.2.1.1; first | (dsimp only; omega) | (simp; omega), mem_set (fun z hz => stageB_mono (hjS.2.1.2 z hz) om) k4⟩, ⟨by have h := hjS.2.2.1.1; first | (dsimp only; omega) | (simp; omega), hjS.2.2.1.2⟩, by have h := hjS.2.2.2; unfold numB at *; dsimp only; omega⟩⟩
end Go.Proofs.YtbofcpnngniopaaGreat

namespace Go.Proofs.YtbofcpnngniopaaGreat
open Go Go.E
set_option linter.unusedVariables false
set_option linter.unusedSimpArgs false
set_option linter.unnecessarySimpa false
set_option maxRecDepth 100000
set_option maxHeartbeats 2000000
variable {W w : World} {H : Chunk} {F : List Chunk}
/-! ### jobs of copies -/
def pl0 : PlaneV := ⟨1, 1, 9, [5]⟩
def jobL (xs : List Int) : JobV := jobOf [pl0] (xs.map safe) 0
theorem cyc21 : cycG 1 [[2], [1]] = [1, 2] := by
 have hR : RngG 1 [[2], [1]] := by
  intro s hs x hx
  simp only [List.mem_cons, List.not_mem_nil, or_false] at hs
  rcases hs with rfl | rfl <;> (simp only [List.mem_cons, List.not_mem_nil, or_false] at hx; subst hx; decide)
 have h1 : RB 1 [[2], [1]] 1 0 2 := RB.start.take hR (by decide) (by decide) (i := 0) (v := 2) (by decide) (by decide) (.inl (by decide))
 have h2 : RB 1 [[2], [1]] 2 0 2 := h1.skip hR (by decide) (by decide) (v := 2) (by decide) (by decide)
 have hm := ((h2.fin rfl (by decide)).resolve_left (by rintro ⟨h, _⟩; omega)).2.2.2.2
 have hw := (WF.start hm (by decide)).1
 have hf : fwG (edgG 1 [[2], [1]]) 16 2 1 = 1 := by
  have := st_val hR (by decide) (t := 0) (i := 1) (by decide) (by decide)
  rcases this with h | h
  ·exact absurd h.1 (by decide)
  ·exact h.2.2.trans (by decide)
 have hw2 := hw.step (n := 2) (by decide) (by decide) ⟨by decide, hf, fun m hm _ => by
  have h3 : m ∈ [(2 : Int)] := hm
  rw [List.mem_singleton.1 h3]; exact Int.le_refl _⟩
 exact hw2.fin rfl
theorem ord20 : ordV (jobL [2, 0]) = ([2, 1], 0) := by decide
theorem ord21 : ordV (jobL [2, 1]) = ([], 7) := by decide
theorem cycV21 : cycV (jobL [2, 1]) = [1, 2] := by
  unfold cycV
  rw [ord21, if_pos rfl]
  exact cyc21
theorem shp0 : shpV (jobL [0]) = ([⟨1, 1, 9⟩, ⟨1, 1, 255⟩], 0, 0) := by decide
theorem eqvn35 (w : World) (a0 a1 a2 b0 b1 b2 : Int) : ∀ x y, ((do eqGuard .neq 35 x y (.agg #[.int .i64 a0, .int .i64 a1, .int .i64 a2]) (.agg #[.int .i64 b0, .int .i64 b1, .int .i64 b2]); binOp .neq 35 (.agg #[.int .i64 a0, .int .i64 a1, .int .i64 a2]) (.agg #[.int .i64 b0, .int .i64 b1, .int .i64 b2])) : Sem Value).run Tryz.prog w = .ok (.bool (!((a0 == b0) && (a1 == b1) && (a2 == b2)))) w := by
  intro x y
  simp [go_sem, run_eqGuard_agg, run_neq_struct, run_equalIn_agg]
  by_cases h0 : a0 = b0 <;> by_cases h1 : a1 = b1 <;> by_cases h2 : a2 = b2 <;> simp [*]
theorem eqve35 (w : World) (a0 a1 a2 b0 b1 b2 : Int) : ∀ x y, ((do eqGuard .eql 35 x y (.agg #[.int .i64 a0, .int .i64 a1, .int .i64 a2]) (.agg #[.int .i64 b0, .int .i64 b1, .int .i64 b2]); binOp .eql 35 (.agg #[.int .i64 a0, .int .i64 a1, .int .i64 a2]) (.agg #[.int .i64 b0, .int .i64 b1, .int .i64 b2])) : Sem Value).run Tryz.prog w = .ok (.bool ((a0 == b0) && (a1 == b1) && (a2 == b2))) w := by
  intro x y
  simp [go_sem, run_eqGuard_agg, run_eql_struct, run_equalIn_agg]
  by_cases h0 : a0 = b0 <;> by_cases h1 : a1 = b1 <;> by_cases h2 : a2 = b2 <;> simp [*]
theorem l17_agrees (p : Job) (hp : Job.Ok [H] p) (hb : p.inputs.n ≤ 1000000 ∧ p.stages.n ≤ 1000000 ∧ p.outputs.n ≤ 1000000) (hS : Sat W w (H :: F)) :
  Ro Tryz.prog 14 #[.agg (encJob p).toArray] (.bool true) W w (H :: F) := by
 have hl_p_inputs := hp.inputs.le; have hn_p_inputs := hp.inputs.len
 have hl_p_stages := hp.stages.le; have hn_p_stages := hp.stages.len
 have hl_p_outputs := hp.outputs.le; have hn_p_outputs := hp.outputs.len
 refine callsA 102 Tryz.func14 rfl ?_
 refine sR ?_
 refine sBox hS (.agg (encJob p).toArray) (encJob p).toArray ?_
 intro e1 _ v1
 refine pu1 <| nT <| sR ?_
 refine lA v1 0 0 4 (Tryz.isAgg28 _) (Tryz.sizeOf28 _) ?_
 refine cX Tryz.call17 (p17_order p ⟨(RdT.flat (hp.inputs.up 1 (by rfl))), (fun z hz => (hp.inputsD z hz).of_mem (mem_flat1 1 (by rfl))), (RdT.flat (hp.stages.up 1 (by rfl))), (fun z hz => (hp.stagesD z hz).of_mem (mem_flat1 1 (by rfl))), (RdT.flat (hp.outputs.up 1 (by rfl)))⟩ (od) (Sat.flat v1)) ?_
 rintro _ _ ⟨l2, m2, n2, f1, rfl, g1, o2⟩
 have w1 := Sat.unflat1 o2
 have hn_az_7 := g1.len; have hl_az_7 := g1.le
 refine pu5 <| nT <| sR ?_
 refine lA w1 1 0 4 (Tryz.isAgg28 _) (Tryz.sizeOf28 _) ?_
 refine cX Tryz.call39 (r17_order p ⟨(RdT.flat (hp.inputs.up 2 (by rfl))), (fun z hz => (hp.inputsD z hz).of_mem (mem_flat1 2 (by rfl))), (RdT.flat (hp.stages.up 2 (by rfl))), (fun z hz => (hp.stagesD z hz).of_mem (mem_flat1 2 (by rfl))), (RdT.flat (hp.outputs.up 2 (by rfl)))⟩ (od) (Sat.flat w1)) ?_
 rintro _ _ ⟨p2, q2, r2, h1, rfl, i1, s2⟩
 have x1 := Sat.unflat1 s2
 have hn_az_15 := i1.len; have hl_az_15 := i1.le
 refine pu5 <| nT <| sR ?_
 refine lA x1 2 0 4 (Tryz.isAgg28 _) (Tryz.sizeOf28 _) ?_
 refine cX Tryz.call8 (p17_shapes p ⟨(RdT.flat (hp.inputs.up 3 (by rfl))), (fun z hz => (hp.inputsD z hz).of_mem (mem_flat1 3 (by rfl))), (RdT.flat (hp.stages.up 3 (by rfl))), (fun z hz => (hp.stagesD z hz).of_mem (mem_flat1 3 (by rfl))), (RdT.flat (hp.outputs.up 3 (by rfl)))⟩ (od) (Sat.flat x1)) ?_
 rintro _ _ ⟨j0, d0, k0, j1, rfl, n0, t2⟩
 have y1 := Sat.unflat1 t2
 have hn_az_23 := n0.len; have hl_az_23 := n0.le
 refine pu7 <| nT <| sR ?_
 refine lA y1 3 0 4 (Tryz.isAgg28 _) (Tryz.sizeOf28 _) ?_
 refine cX Tryz.call40 (r17_shapes p ⟨(RdT.flat (hp.inputs.up 4 (by rfl))), (fun z hz => (hp.inputsD z hz).of_mem (mem_flat1 4 (by rfl))), (RdT.flat (hp.stages.up 4 (by rfl))), (fun z hz => (hp.stagesD z hz).of_mem (mem_flat1 4 (by rfl))), (RdT.flat (hp.outputs.up 4 (by rfl)))⟩ (od) (Sat.flat y1)) ?_
 rintro _ _ ⟨l0, h0, m0, k1, rfl, o0, u2⟩
 have z1 := Sat.unflat1 u2
 have hn_az_31 := o0.len; have hl_az_31 := o0.le
 refine pu7 <| nT <| sR ?_
 refine lA z1 4 0 4 (Tryz.isAgg28 _) (Tryz.sizeOf28 _) ?_
 refine cR Tryz.call41 (p17_check p ⟨(RdT.flat (hp.inputs.up 5 (by rfl))), (fun z hz => (hp.inputsD z hz).of_mem (mem_flat1 5 (by rfl))), (RdT.flat (hp.stages.up 5 (by rfl))), (fun z hz => (hp.stagesD z hz).of_mem (mem_flat1 5 (by rfl))), (RdT.flat (hp.outputs.up 5 (by rfl)))⟩ (od) (Sat.flat z1)) ?_
 intro _ v2
 refine pu5 <| nT <| seqE <| seqE ?_
 refine drawP [2, 37, 38, 39, 40, 41] [] (Plan.sts [0, 1] <| .ef 2 <| Plan.sts [3] <| Plan.sts [4] <| Plan.sts [5] <| Plan.sts [6] <| Plan.sts [7] <| Plan.sts [8] <| Plan.sts [9] <| Plan.sts [10] <| Plan.sts [11] <| Plan.sts [12] <| Plan.sts [13] <| Plan.sts [14] <| Plan.sts [15] <| Plan.sts [16] <| Plan.sts [17] <| Plan.sts [18] <| Plan.sts [19] <| Plan.sts [20] <| Plan.sts [21] <| Plan.sts [22] <| Plan.sts [23] <| Plan.sts [24] <| Plan.sts [25] <| Plan.sts [26] <| Plan.sts [27] <| Plan.sts [28] <| Plan.sts [29] <| Plan.sts [30] <| Plan.sts [31] <| Plan.sts [32] <| Plan.sts [33] <| Plan.sts [34] <| Plan.sts [35] <| Plan.sts [36] <| .fk 37 39 (.fk 38 39 (.ef 39 <| .ef 40 <| .ef 41 <| Plan.sts [42] <| Plan.sts [43] <| .fin) (.ef 38 <| .ef 40 <| .ef 41 <| Plan.sts [42] <| Plan.sts [43] <| .fin)) (.ef 37 <| .ef 38 <| .ef 40 <| .ef 41 <| Plan.sts [42] <| Plan.sts [43] <| .fin)) rfl kr trivial ?_
 have w2 := v2.drew
 refine qU [0, 1] ?_
 refine qO rfl ?_
 refine cR Tryz.call42 (r4_same l2 m2 n2 ((ordV p.v).1) p2 q2 r2 ((ordV p.v).1) (RdT.flat (g1.rdAt 3 (by rfl))) (RdT.flat (i1.up 2 (by rfl))) (Sat.flat w2)) ?_
 intro _ i0
 refine nilO ⟨trivial, ?_⟩
 refine qU [3] <| qU [4] ?_
 have x2 : ((ordV p.v).1) = ((ordV p.v).1) := rfl
 refine qFix 47 _ false (congrArg Bool.not (decide_eq_true x2)) ?_
 refine qU [5] <| qU [6] <| qU [7] <| qU [8] <| qU [9] ?_
 have y2 : ((ordV p.v).2 : Int) = ((ordV p.v).2) := rfl
 refine qFix 52 _ false (bne_eq_false_iff_eq.2 y2) ?_
 refine qU [10] <| qU [11] <| qU [12] <| qU [13] <| qU [14] <| qU [15] <| qU [16] ?_
 have z2 : (((d0 : Nat) : Int) : Int) = ((h0 : Nat) : Int) := by omega
 refine qFix 59 _ false (bne_eq_false_iff_eq.2 z2) ?_
 refine qU [17] <| qU [18] <| qU [19] <| qU [20] <| qU [21] ?_
 have a2 : ((shpV p.v).2.1 : Int) = ((shpV p.v).2.1) := rfl
 refine qFix 64 _ false (bne_eq_false_iff_eq.2 a2) ?_
 refine qU [22] <| qU [23] <| qU [24] <| qU [25] <| qU [26] ?_
 have l1 : ((shpV p.v).2.2 : Int) = ((shpV p.v).2.2) := rfl
 refine qFix 69 _ false (bne_eq_false_iff_eq.2 l1) ?_
 refine qU [27] <| qU [28] <| qU [29] <| qU [30] <| qU [31] ?_
 refine qFix 74 _ false (bne_eq_false_iff_eq.2 a2) ?_
 refine qU [32] <| qU [33] <| qU [34] <| qU [35] <| qU [36] ?_
 refine qF ?_ ?_
 rotate_left
 ·refine qFix 79 _ false (bne_eq_false_iff_eq.2 l1) ?_
  refine qO rfl ?_
  refine gY ?_
  refine lA i0 4 0 4 (Tryz.isAgg28 _) (Tryz.sizeOf28 _) ?_
  refine nilO ⟨trivial, ?_⟩
  refine qO rfl ?_
  refine gY ?_
  refine lA i0 4 0 4 (Tryz.isAgg28 _) (Tryz.sizeOf28 _) ?_
  refine nilO ⟨trivial, ?_⟩
  refine qO rfl ?_
  refine gY ?_
  refine cX Tryz.call18 (p17_cycle p ⟨(RdT.flat (hp.inputs.up 5 (by rfl))), (fun z hz => (hp.inputsD z hz).of_mem (mem_flat1 5 (by rfl))), (RdT.flat (hp.stages.up 5 (by rfl))), (fun z hz => (hp.stagesD z hz).of_mem (mem_flat1 5 (by rfl))), (RdT.flat (hp.outputs.up 5 (by rfl)))⟩ (od) (Sat.flat i0)) ?_
  rintro _ _ ⟨a3, b3, c3, d3, rfl, m1, e3⟩
  have f3 := Sat.unflat1 e3
  have hn_az_129 := m1.len; have hl_az_129 := m1.le
  refine nilO ⟨trivial, ?_⟩
  refine qO rfl ?_
  refine gY ?_
  refine cX Tryz.call43 (r17_cycle p ⟨(RdT.flat (hp.inputs.up 6 (by rfl))), (fun z hz => (hp.inputsD z hz).of_mem (mem_flat1 6 (by rfl))), (RdT.flat (hp.stages.up 6 (by rfl))), (fun z hz => (hp.stagesD z hz).of_mem (mem_flat1 6 (by rfl))), (RdT.flat (hp.outputs.up 6 (by rfl)))⟩ (od) (Sat.flat f3)) ?_
  rintro _ _ ⟨g3, h3, i3, j3, rfl, n1, k3⟩
  have l3 := Sat.unflat1 k3
  have hn_az_137 := n1.len; have hl_az_137 := n1.le
  refine nilO ⟨trivial, ?_⟩
  refine qO rfl ?_
  refine gY ?_
  refine cR Tryz.call42 (r4_same a3 b3 c3 (cycV p.v) g3 h3 i3 (cycV p.v) (RdT.flat (m1.rdAt 1 (by rfl))) (RdT.flat (n1.rdAt 0 (by rfl))) (Sat.flat l3)) ?_
  intro _ m3
  refine nilO ⟨trivial, ?_⟩
  refine qU [42] <| qU [43] ?_
  refine qN ?_
  refine thenK_n ?_
  have n3 : (cycV p.v) = (cycV p.v) := rfl
  refine cF _ (congrArg Bool.not (decide_eq_true n3)) ?_
  refine kT <| seqE <| sR <| pu1 <| nT <| blockE ?_
  refine loopA (γ := Nat) (fun i => [(7, .slice j0 d0 k0), (10, .slice l0 h0 m0), (15, I ((i : Nat) : Int))]) (fun i w => Sat W w (j3 :: d3 :: k1 :: j1 :: h1 :: f1 :: [(e1, .cells (encJob p).toArray 28 (0, 0))] :: H :: F) ∧ i ≤ d0) (fun i => d0 - i) 0 ⟨m3, om⟩ ?_
  rintro i ρ _ ⟨e0, hi⟩
  refine seqE <| sR <| pu4 <| nT ?_
  refine cD (((i : Nat) : Int) < ((d0 : Nat) : Int)) (fun o3 => ?_) (fun o3 => ?_)
  rotate_left
  ·refine exitE <| xB <| thenK_n <| sR <| pu1 <| nT <| retE <| retT [.bool true] ?_
   have p3 := (e0.drops [0, 0, 0, 0, 0, 0, 0])
   exact ⟨rfl, p3⟩
  refine kT <| seqE <| blockE <| seqE ?_
  obtain ⟨a0, p0, q0, b2, r0, c2, s5⟩ := OwnT.elem n0 ((i : Nat) : Int)
  rw [Int.toNat_natCast] at b2 r0 c2
  obtain ⟨q3, s0, t0, d2, o1, r3⟩ := RdT.elem o0 ((i : Nat) : Int)
  rw [Int.toNat_natCast] at d2
  obtain rfl : a0 = q3 := Option.some.inj (b2.symm.trans d2)
  refine drawE [] [(3, ⟨p0, q0 + i * 3 + 0, none⟩, I a0.w), (3, ⟨p0, q0 + i * 3 + 1, none⟩, I a0.h), (3, ⟨p0, q0 + i * 3 + 2, none⟩, I a0.max_), (7, ⟨s0, t0 + 0, none⟩, I a0.w), (7, ⟨s0, t0 + 1, none⟩, I a0.h), (7, ⟨s0, t0 + 2, none⟩, I a0.max_)] [(true, [0, 1]), (true, [2]), (true, [4, 5]), (true, [6]), (true, [3]), (true, [7]), (true, [8])] rfl kr ⟨.inr ((r0.up 3 rfl).cell e0 (k := 0) rfl), .inr ((r0.up 3 rfl).cell e0 (k := 1) rfl), .inr ((r0.up 3 rfl).cell e0 (k := 2) rfl), .inr ((o1.up 2 rfl).cell e0 (k := 0) rfl), .inr ((o1.up 2 rfl).cell e0 (k := 1) rfl), .inr ((o1.up 2 rfl).cell e0 (k := 2) rfl), trivial⟩ ?_
  have s3 := e0.drew
  refine wU [0, 1] ?_
  refine wY (.pointer (some ⟨p0, q0 + i * 3, none⟩)) rfl (fun w _ => Y_idx (a := j0) (i := ((i : Nat) : Int)) (len := d0) (cap := k0) rfl Tryz.runUnderlying30 Tryz.sizeOf35 kr kr c2) ?_
  refine wU [4, 5] ?_
  refine wY (.pointer (some ⟨s0, t0, none⟩)) rfl (fun w _ => Y_idx (a := l0) (i := ((i : Nat) : Int)) (len := h0) (cap := m0) rfl Tryz.runUnderlying30 Tryz.sizeOf35 kr kr r3) ?_
  refine wY (.agg #[I a0.w, I a0.h, I a0.max_]) rfl (fun w hF => Y_loadF rfl (Tryz.isAgg35 w) (Tryz.sizeOf35 w) kr rfl ⟨hF 0 _ _ rfl, hF 1 _ _ rfl, hF 2 _ _ rfl, trivial⟩) ?_
  refine wY (.agg #[I a0.w, I a0.h, I a0.max_]) rfl (fun w hF => Y_loadF rfl (Tryz.isAgg35 w) (Tryz.sizeOf35 w) kr rfl ⟨hF 3 _ _ rfl, hF 4 _ _ rfl, hF 5 _ _ rfl, trivial⟩) ?_
  refine wY (.bool (!(((a0.w : Int) == a0.w) && ((a0.h : Int) == a0.h) && ((a0.max_ : Int) == a0.max_)))) rfl (fun w _ => Y_eqS rfl kr kr (eqvn35 _ a0.w a0.h a0.max_ a0.w a0.h a0.max_)) ?_
  refine wN ?_
  refine thenK_n ?_
  have t3 : (a0.w : Int) = a0.w ∧ (a0.h : Int) = a0.h ∧ (a0.max_ : Int) = a0.max_ := ⟨rfl, rfl, rfl⟩
  refine cF _ (congrArg Bool.not (show (((a0.w : Int) == a0.w) && ((a0.h : Int) == a0.h) && ((a0.max_ : Int) == a0.max_)) = true from by simpa [and_assoc] using t3)) ?_
  refine skipE <| blockK_n <| thenK_n <| regionE <| pu1 ?_
  refine sAdd ((i : Nat) : Int) 1 ?_
  refine pu1 <| nT ?_
  exact ⟨i + 1, od, alA, s3, om⟩
 refine qFix 79 _ false (bne_eq_false_iff_eq.2 l1) ?_
 refine qO rfl ?_
 refine gY ?_
 refine lA i0 4 0 4 (Tryz.isAgg28 _) (Tryz.sizeOf28 _) ?_
 refine nilO ⟨trivial, ?_⟩
 refine qF ?_ ?_
 ·refine qO rfl ?_
  refine gY ?_
  refine cX Tryz.call18 (p17_cycle p ⟨(RdT.flat (hp.inputs.up 5 (by rfl))), (fun z hz => (hp.inputsD z hz).of_mem (mem_flat1 5 (by rfl))), (RdT.flat (hp.stages.up 5 (by rfl))), (fun z hz => (hp.stagesD z hz).of_mem (mem_flat1 5 (by rfl))), (RdT.flat (hp.outputs.up 5 (by rfl)))⟩ (od) (Sat.flat i0)) ?_
  rintro _ _ ⟨u3, v3, w3, x3, rfl, p1, y3⟩
  have e2 := Sat.unflat1 y3
  have hn_az_51 := p1.len; have hl_az_51 := p1.le
  refine nilO ⟨trivial, ?_⟩
  refine qO rfl ?_
  refine gY ?_
  refine lA e2 5 0 4 (Tryz.isAgg28 _) (Tryz.sizeOf28 _) ?_
  refine nilO ⟨trivial, ?_⟩
  refine qO rfl ?_
  refine gY ?_
  refine cX Tryz.call43 (r17_cycle p ⟨(RdT.flat (hp.inputs.up 6 (by rfl))), (fun z hz => (hp.inputsD z hz).of_mem (mem_flat1 6 (by rfl))), (RdT.flat (hp.stages.up 6 (by rfl))), (fun z hz => (hp.stagesD z hz).of_mem (mem_flat1 6 (by rfl))), (RdT.flat (hp.outputs.up 6 (by rfl)))⟩ (od) (Sat.flat e2)) ?_
  rintro _ _ ⟨z3, a4, b4, c4, rfl, q1, d4⟩
  have e4 := Sat.unflat1 d4
  have hn_az_59 := q1.len; have hl_az_59 := q1.le
  refine nilO ⟨trivial, ?_⟩
  refine qO rfl ?_
  refine gY ?_
  refine cR Tryz.call42 (r4_same u3 v3 w3 (cycV p.v) z3 a4 b4 (cycV p.v) (RdT.flat (p1.rdAt 1 (by rfl))) (RdT.flat (q1.rdAt 0 (by rfl))) (Sat.flat e4)) ?_
  intro _ f4
  refine nilO ⟨trivial, ?_⟩
  refine qU [42] <| qU [43] ?_
  refine qN ?_
  refine thenK_n ?_
  have g4 : (cycV p.v) = (cycV p.v) := rfl
  refine cF _ (congrArg Bool.not (decide_eq_true g4)) ?_
  refine kT <| seqE <| sR <| pu1 <| nT <| blockE ?_
  refine loopA (γ := Nat) (fun i => [(7, .slice j0 d0 k0), (10, .slice l0 h0 m0), (15, I ((i : Nat) : Int))]) (fun i w => Sat W w (c4 :: x3 :: k1 :: j1 :: h1 :: f1 :: [(e1, .cells (encJob p).toArray 28 (0, 0))] :: H :: F) ∧ i ≤ d0) (fun i => d0 - i) 0 ⟨f4, om⟩ ?_
  rintro i ρ _ ⟨f0, hi⟩
  refine seqE <| sR <| pu4 <| nT ?_
  refine cD (((i : Nat) : Int) < ((d0 : Nat) : Int)) (fun h4 => ?_) (fun h4 => ?_)
  rotate_left
  ·refine exitE <| xB <| thenK_n <| sR <| pu1 <| nT <| retE <| retT [.bool true] ?_
   have i4 := (f0.drops [0, 0, 0, 0, 0, 0, 0])
   exact ⟨rfl, i4⟩
  refine kT <| seqE <| blockE <| seqE ?_
  obtain ⟨b0, u0, v0, f2, w0, g2, x5⟩ := OwnT.elem n0 ((i : Nat) : Int)
  rw [Int.toNat_natCast] at f2 w0 g2
  obtain ⟨j4, x0, y0, h2, r1, k4⟩ := RdT.elem o0 ((i : Nat) : Int)
  rw [Int.toNat_natCast] at h2
  obtain rfl : b0 = j4 := Option.some.inj (f2.symm.trans h2)
  refine drawE [] [(3, ⟨u0, v0 + i * 3 + 0, none⟩, I b0.w), (3, ⟨u0, v0 + i * 3 + 1, none⟩, I b0.h), (3, ⟨u0, v0 + i * 3 + 2, none⟩, I b0.max_), (7, ⟨x0, y0 + 0, none⟩, I b0.w), (7, ⟨x0, y0 + 1, none⟩, I b0.h), (7, ⟨x0, y0 + 2, none⟩, I b0.max_)] [(true, [0, 1]), (true, [2]), (true, [4, 5]), (true, [6]), (true, [3]), (true, [7]), (true, [8])] rfl kr ⟨.inr ((w0.up 3 rfl).cell f0 (k := 0) rfl), .inr ((w0.up 3 rfl).cell f0 (k := 1) rfl), .inr ((w0.up 3 rfl).cell f0 (k := 2) rfl), .inr ((r1.up 2 rfl).cell f0 (k := 0) rfl), .inr ((r1.up 2 rfl).cell f0 (k := 1) rfl), .inr ((r1.up 2 rfl).cell f0 (k := 2) rfl), trivial⟩ ?_
  have l4 := f0.drew
  refine wU [0, 1] ?_
  refine wY (.pointer (some ⟨u0, v0 + i * 3, none⟩)) rfl (fun w _ => Y_idx (a := j0) (i := ((i : Nat) : Int)) (len := d0) (cap := k0) rfl Tryz.runUnderlying30 Tryz.sizeOf35 kr kr g2) ?_
  refine wU [4, 5] ?_
  refine wY (.pointer (some ⟨x0, y0, none⟩)) rfl (fun w _ => Y_idx (a := l0) (i := ((i : Nat) : Int)) (len := h0) (cap := m0) rfl Tryz.runUnderlying30 Tryz.sizeOf35 kr kr k4) ?_
  refine wY (.agg #[I b0.w, I b0.h, I b0.max_]) rfl (fun w hF => Y_loadF rfl (Tryz.isAgg35 w) (Tryz.sizeOf35 w) kr rfl ⟨hF 0 _ _ rfl, hF 1 _ _ rfl, hF 2 _ _ rfl, trivial⟩) ?_
  refine wY (.agg #[I b0.w, I b0.h, I b0.max_]) rfl (fun w hF => Y_loadF rfl (Tryz.isAgg35 w) (Tryz.sizeOf35 w) kr rfl ⟨hF 3 _ _ rfl, hF 4 _ _ rfl, hF 5 _ _ rfl, trivial⟩) ?_
  refine wY (.bool (!(((b0.w : Int) == b0.w) && ((b0.h : Int) == b0.h) && ((b0.max_ : Int) == b0.max_)))) rfl (fun w _ => Y_eqS rfl kr kr (eqvn35 _ b0.w b0.h b0.max_ b0.w b0.h b0.max_)) ?_
  refine wN ?_
  refine thenK_n ?_
  have m4 : (b0.w : Int) = b0.w ∧ (b0.h : Int) = b0.h ∧ (b0.max_ : Int) = b0.max_ := ⟨rfl, rfl, rfl⟩
  refine cF _ (congrArg Bool.not (show (((b0.w : Int) == b0.w) && ((b0.h : Int) == b0.h) && ((b0.max_ : Int) == b0.max_)) = true from by simpa [and_assoc] using m4)) ?_
  refine skipE <| blockK_n <| thenK_n <| regionE <| pu1 ?_
  refine sAdd ((i : Nat) : Int) 1 ?_
  refine pu1 <| nT ?_
  exact ⟨i + 1, od, alA, l4, om⟩
 refine qO rfl ?_
 refine gY ?_
 refine lA i0 4 0 4 (Tryz.isAgg28 _) (Tryz.sizeOf28 _) ?_
 refine nilO ⟨trivial, ?_⟩
 refine qO rfl ?_
 refine gY ?_
 refine cX Tryz.call18 (p17_cycle p ⟨(RdT.flat (hp.inputs.up 5 (by rfl))), (fun z hz => (hp.inputsD z hz).of_mem (mem_flat1 5 (by rfl))), (RdT.flat (hp.stages.up 5 (by rfl))), (fun z hz => (hp.stagesD z hz).of_mem (mem_flat1 5 (by rfl))), (RdT.flat (hp.outputs.up 5 (by rfl)))⟩ (od) (Sat.flat i0)) ?_
 rintro _ _ ⟨n4, o4, p4, q4, rfl, s1, r4⟩
 have s4 := Sat.unflat1 r4
 have hn_az_90 := s1.len; have hl_az_90 := s1.le
 refine nilO ⟨trivial, ?_⟩
 refine qO rfl ?_
 refine gY ?_
 refine cX Tryz.call43 (r17_cycle p ⟨(RdT.flat (hp.inputs.up 6 (by rfl))), (fun z hz => (hp.inputsD z hz).of_mem (mem_flat1 6 (by rfl))), (RdT.flat (hp.stages.up 6 (by rfl))), (fun z hz => (hp.stagesD z hz).of_mem (mem_flat1 6 (by rfl))), (RdT.flat (hp.outputs.up 6 (by rfl)))⟩ (od) (Sat.flat s4)) ?_
 rintro _ _ ⟨t4, u4, v4, w4, rfl, t1, x4⟩
 have y4 := Sat.unflat1 x4
 have hn_az_98 := t1.len; have hl_az_98 := t1.le
 refine nilO ⟨trivial, ?_⟩
 refine qO rfl ?_
 refine gY ?_
 refine cR Tryz.call42 (r4_same n4 o4 p4 (cycV p.v) t4 u4 v4 (cycV p.v) (RdT.flat (s1.rdAt 1 (by rfl))) (RdT.flat (t1.rdAt 0 (by rfl))) (Sat.flat y4)) ?_
 intro _ z4
 refine nilO ⟨trivial, ?_⟩
 refine qU [42] <| qU [43] ?_
 refine qN ?_
 refine thenK_n ?_
 have a5 : (cycV p.v) = (cycV p.v) := rfl
 refine cF _ (congrArg Bool.not (decide_eq_true a5)) ?_
 refine kT <| seqE <| sR <| pu1 <| nT <| blockE ?_
 refine loopA (γ := Nat) (fun i => [(7, .slice j0 d0 k0), (10, .slice l0 h0 m0), (15, I ((i : Nat) : Int))]) (fun i w => Sat W w (w4 :: q4 :: k1 :: j1 :: h1 :: f1 :: [(e1, .cells (encJob p).toArray 28 (0, 0))] :: H :: F) ∧ i ≤ d0) (fun i => d0 - i) 0 ⟨z4, om⟩ ?_
 rintro i ρ _ ⟨g0, hi⟩
 refine seqE <| sR <| pu4 <| nT ?_
 refine cD (((i : Nat) : Int) < ((d0 : Nat) : Int)) (fun b5 => ?_) (fun b5 => ?_)
 rotate_left
 ·refine exitE <| xB <| thenK_n <| sR <| pu1 <| nT <| retE <| retT [.bool true] ?_
  have c5 := (g0.drops [0, 0, 0, 0, 0, 0, 0])
  exact ⟨rfl, c5⟩
 refine kT <| seqE <| blockE <| seqE ?_
 obtain ⟨c0, z0, a1, i2, b1, j2, c6⟩ := OwnT.elem n0 ((i : Nat) : Int)
 rw [Int.toNat_natCast] at i2 b1 j2
 obtain ⟨d5, c1, d1, k2, u1, e5⟩ := RdT.elem o0 ((i : Nat) : Int)
 rw [Int.toNat_natCast] at k2
 obtain rfl : c0 = d5 := Option.some.inj (i2.symm.trans k2)
 refine drawE [] [(3, ⟨z0, a1 + i * 3 + 0, none⟩, I c0.w), (3, ⟨z0, a1 + i * 3 + 1, none⟩, I c0.h), (3, ⟨z0, a1 + i * 3 + 2, none⟩, I c0.max_), (7, ⟨c1, d1 + 0, none⟩, I c0.w), (7, ⟨c1, d1 + 1, none⟩, I c0.h), (7, ⟨c1, d1 + 2, none⟩, I c0.max_)] [(true, [0, 1]), (true, [2]), (true, [4, 5]), (true, [6]), (true, [3]), (true, [7]), (true, [8])] rfl kr ⟨.inr ((b1.up 3 rfl).cell g0 (k := 0) rfl), .inr ((b1.up 3 rfl).cell g0 (k := 1) rfl), .inr ((b1.up 3 rfl).cell g0 (k := 2) rfl), .inr ((u1.up 2 rfl).cell g0 (k := 0) rfl), .inr ((u1.up 2 rfl).cell g0 (k := 1) rfl), .inr ((u1.up 2 rfl).cell g0 (k := 2) rfl), trivial⟩ ?_
 have f5 := g0.drew
 refine wU [0, 1] ?_
 refine wY (.pointer (some ⟨z0, a1 + i * 3, none⟩)) rfl (fun w _ => Y_idx (a := j0) (i := ((i : Nat) : Int)) (len := d0) (cap := k0) rfl Tryz.runUnderlying30 Tryz.sizeOf35 kr kr j2) ?_
 refine wU [4, 5] ?_
 refine wY (.pointer (some ⟨c1, d1, none⟩)) rfl (fun w _ => Y_idx (a := l0) (i := ((i : Nat) : Int)) (len := h0) (cap := m0) rfl Tryz.runUnderlying30 Tryz.sizeOf35 kr kr e5) ?_
 refine wY (.agg #[I c0.w, I c0.h, I c0.max_]) rfl (fun w hF => Y_loadF rfl (Tryz.isAgg35 w) (Tryz.sizeOf35 w) kr rfl ⟨hF 0 _ _ rfl, hF 1 _ _ rfl, hF 2 _ _ rfl, trivial⟩) ?_
 refine wY (.agg #[I c0.w, I c0.h, I c0.max_]) rfl (fun w hF => Y_loadF rfl (Tryz.isAgg35 w) (Tryz.sizeOf35 w) kr rfl ⟨hF 3 _ _ rfl, hF 4 _ _ rfl, hF 5 _ _ rfl, trivial⟩) ?_
 refine wY (.bool (!(((c0.w : Int) == c0.w) && ((c0.h : Int) == c0.h) && ((c0.max_ : Int) == c0.max_)))) rfl (fun w _ => Y_eqS rfl kr kr (eqvn35 _ c0.w c0.h c0.max_ c0.w c0.h c0.max_)) ?_
 refine wN ?_
 refine thenK_n ?_
 have g5 : (c0.w : Int) = c0.w ∧ (c0.h : Int) = c0.h ∧ (c0.max_ : Int) = c0.max_ := ⟨rfl, rfl, rfl⟩
 refine cF _ (congrArg Bool.not (show (((c0.w : Int) == c0.w) && ((c0.h : Int) == c0.h) && ((c0.max_ : Int) == c0.max_)) = true from by simpa [and_assoc] using g5)) ?_
 refine skipE <| blockK_n <| thenK_n <| regionE <| pu1 ?_
 refine sAdd ((i : Nat) : Int) 1 ?_
 refine pu1 <| nT ?_
 exact ⟨i + 1, od, alA, f5, om⟩
theorem l17_point (a : Int) {F : List Chunk} (hS : Sat W w F) :
  Calls Tryz.prog 61 #[I a] w fun e w' => ∃ (q : Stage) (G : Chunk), e = .returned (.agg (encStage q).toArray) ∧ Stage.Ok [G] q ∧ q.v = safe a ∧ Sat W w' (G :: F) := by
 refine callsA 7 Tryz.func61 rfl ?_
 refine sR ?_
 refine sAlloc hS Tryz.zeroValue44 ?_
 intro _ _ c0
 refine nT <| sR <| pu2 ?_
 refine sBS c0 #[I 0, I 0] Tryz.runUnderlying42 Tryz.sizeOf68 Tryz.zeroValue68 ?_
 intro a0 _ d0
 refine pu1 ?_
 refine sT d0 1 0 (.agg #[I 6, I a, I (-1), .bool false, I 0, I 0, I 0, I 0, .slice none 0 0, .slice none 0 0, .slice none 0 0, I 0, I 0, .slice none 0 0, .slice none 0 0, I 0, .slice (At a0 0) 1 1, I 255]) [I 6, I a, I (-1), .bool false, I 0, I 0, I 0, I 0, .slice none 0 0, .slice none 0 0, .slice none 0 0, I 0, I 0, .slice none 0 0, .slice none 0 0, I 0, .slice (At a0 0) 1 1, I 255] #[I 6, I a, I (-1), .bool false, I 0, I 0, I 0, I 0, .slice none 0 0, .slice none 0 0, .slice none 0 0, I 0, I 0, .slice none 0 0, .slice none 0 0, I 0, .slice (At a0 0) 1 1, I 255] Tryz.sizeOf44 ?_
 intro _ b0
 refine nT <| retE <| retN (vs := [.agg #[I 6, I a, I (-1), .bool false, I 0, I 0, I 0, I 0, .slice none 0 0, .slice none 0 0, .slice none 0 0, I 0, I 0, .slice none 0 0, .slice none 0 0, I 0, .slice (At a0 0) 1 1, I 255]]) rfl (.cons (.cell _ _ _ _ kr (lvA b0 1 0 [I 6, I a, I (-1), .bool false, I 0, I 0, I 0, I 0, .slice none 0 0, .slice none 0 0, .slice none 0 0, I 0, I 0, .slice none 0 0, .slice none 0 0, I 0, .slice (At a0 0) 1 1, I 255] (Tryz.isAgg44 _) (Tryz.sizeOf44 _) rfl rfl rfl)) .nil) ?_
 have e0 := (b0.dropAt 1 rfl)
 exact ⟨(⟨6, a, -1, false, 0, 0, 0, 0, ⟨none, 0, 0, []⟩, ⟨none, 0, 0, []⟩, ⟨none, 0, 0, []⟩, 0, 0, ⟨none, 0, 0, []⟩, ⟨none, 0, 0, []⟩, 0, ⟨(At a0 0), 1, 1, [(⟨0, 0⟩ : POp)]⟩, 255⟩ : Stage), _, rfl, ⟨RdT.nil (enc := encI) (sz := 1) fR _, RdT.nil (enc := encI) (sz := 1) fR _, RdT.nil (enc := encI) (sz := 1) fR _, RdT.nil (enc := encTap) (sz := 2) fR _, (fun z hz => by cases hz), RdT.nil (enc := encTap) (sz := 2) fR _, (fun z hz => by cases hz), (RdT.blk (cs := [[(a0, .cells #[I 0, I 0] 68 (0, 0))]]) (enc := encPOp) (sz := 2) (xs := [(⟨0, 0⟩ : POp)]) fR 1 0 rfl rfl rfl om)⟩, rfl, e0⟩
theorem l17_job {a : Option Addr} {n k : Nat} {x : List Int} (hx : RdT encI 1 [H] a n k x) (hb : n ≤ 1000) (hS : Sat W w (H :: F)) :
  Calls Tryz.prog 34 #[.slice a n k] w fun e w' => ∃ (q : Job) (C G : Chunk), e = .returned (.agg (encJob q).toArray) ∧ OwnT encStage 44 18 q.stages.a q.stages.n q.stages.k q.stages.l C ∧ (∀ z ∈ q.stages.l, Stage.Ok [G] z) ∧ RdT encPlane 4 [G] q.inputs.a q.inputs.n q.inputs.k q.inputs.l ∧ (∀ z ∈ q.inputs.l, Plane.Ok [G] z) ∧ RdT encI 1 [G] q.outputs.a q.outputs.n q.outputs.k q.outputs.l ∧ (q.v = jobL x ∧ q.inputs.n = 1 ∧ q.stages.n = n ∧ q.outputs.n = 1) ∧ Sat W w' (C :: G :: H :: F) := by
 have hnx := hx.len; have hlx := hx.le
 refine callsA 27 Tryz.func34 rfl ?_
 refine sR ?_
 refine sAlloc hS Tryz.zeroValue28 ?_
 intro f0 _ s0
 refine nT <| sR ?_
 refine sBS s0 #[I 5] Tryz.runUnderlying22 Tryz.sizeOf3 Tryz.zeroValue3 ?_
 intro c0 _ t0
 refine pu1 ?_
 refine sBS t0 #[I 1, I 1, I 9, .slice (At c0 0) 1 1] Tryz.runUnderlying25 Tryz.sizeOf38 Tryz.zeroValue38 ?_
 intro a0 _ u0
 refine sBS u0 #[I 0] Tryz.runUnderlying22 Tryz.sizeOf3 Tryz.zeroValue3 ?_
 intro b0 _ v0
 refine pu1 ?_
 refine sAlloc v0 Tryz.zeroValue28 ?_
 intro d0 _ w0
 refine sT w0 0 0 (.agg #[.slice (At a0 0) 1 1, .slice none 0 0, .slice (At b0 0) 1 1, I 0]) [.slice (At a0 0) 1 1, .slice none 0 0, .slice (At b0 0) 1 1, I 0] #[.slice (At a0 0) 1 1, .slice none 0 0, .slice (At b0 0) 1 1, I 0] Tryz.sizeOf28 ?_
 intro _ x0
 refine nT <| seqE <| sR <| pu1 <| nT <| blockE ?_
 have y0 := Sat.nilc x0
 have z0 := OwnT.nil (enc := encStage) (E := 44) (sz := 18) fR
 have a1 := Sat.nilc y0
 refine loopA (γ := Nat × (List Stage) × (Option Addr) × Nat × Nat × Chunk × Chunk) (fun ⟨i, ss, ass, nss, kss, css, Gss⟩ => [(0, .slice a n k), (2, Pt f0 0), (3, Pt d0 0), (4, I ((i : Nat) : Int))]) (fun ⟨i, ss, ass, nss, kss, css, Gss⟩ w => Sat W w (Gss :: css :: [(d0, .cells #[.slice (At a0 0) 1 1, .slice ass nss kss, .slice (At b0 0) 1 1, I 0] 28 (0, 0))] :: [(b0, .cells #[I 0] 3 (0, 0))] :: [(a0, .cells #[I 1, I 1, I 9, .slice (At c0 0) 1 1] 38 (0, 0))] :: [(c0, .cells #[I 5] 3 (0, 0))] :: [(f0, .cells #[.slice none 0 0, .slice none 0 0, .slice none 0 0, I 0] 28 (0, 0))] :: H :: F) ∧ i ≤ n ∧ (ss.map Stage.v = (x.take i).map safe) ∧ (ss.length = i) ∧ OwnT encStage 44 18 ass nss kss ss css ∧ (∀ z ∈ ss, Stage.Ok [Gss] z)) (fun ⟨i, ss, ass, nss, kss, css, Gss⟩ => n - i) (0, [], none, 0, 0, [], []) ⟨a1, om, by rfl, by rfl, z0, (by intro z hz; cases hz)⟩ ?_
 rintro ⟨i, ss, ass, nss, kss, css, Gss⟩ ρ _ ⟨e0, hi, hss, hsl, hOss, hDss⟩
 have hn_ss := hOss.len; have hl_ss := hOss.le
 refine seqE <| sR <| pu4 <| nT ?_
 refine cD (((i : Nat) : Int) < ((n : Nat) : Int)) (fun b1 => ?_) (fun b1 => ?_)
 rotate_left
 ·refine exitE <| xB <| thenK_n <| sR ?_
  refine lA e0 2 0 4 (Tryz.isAgg28 _) (Tryz.sizeOf28 _) ?_
  refine sT e0 6 0 (.agg #[.slice (At a0 0) 1 1, .slice ass nss kss, .slice (At b0 0) 1 1, I 0]) [.slice (At a0 0) 1 1, .slice ass nss kss, .slice (At b0 0) 1 1, I 0] #[.slice (At a0 0) 1 1, .slice ass nss kss, .slice (At b0 0) 1 1, I 0] Tryz.sizeOf28 ?_
  intro _ m0
  refine nT <| retE <| retN (vs := [.agg #[.slice (At a0 0) 1 1, .slice ass nss kss, .slice (At b0 0) 1 1, I 0]]) rfl (.cons (.cell _ _ _ _ kr (lvA m0 6 0 [.slice (At a0 0) 1 1, .slice ass nss kss, .slice (At b0 0) 1 1, I 0] (Tryz.isAgg28 _) (Tryz.sizeOf28 _) rfl rfl rfl)) .nil) ?_
  have c1 := ((m0.picks [4, 1, 2]).drops [3, 5])
  have d1 : Sat W _ (css :: (Gss ++ [(a0, .cells #[I 1, I 1, I 9, .slice (At c0 0) 1 1] 38 (0, 0))] ++ [(b0, .cells #[I 0] 3 (0, 0))] ++ [(c0, .cells #[I 5] 3 (0, 0))]) :: (H :: F)) := Sat.perm (show Sat W _ (css :: Gss :: [(a0, .cells #[I 1, I 1, I 9, .slice (At c0 0) 1 1] 38 (0, 0))] :: [(b0, .cells #[I 0] 3 (0, 0))] :: [(c0, .cells #[I 5] 3 (0, 0))] :: H :: F) from c1) (by simp [Value.cells])
  have hfin : ss.map Stage.v = x.map safe := by rw [hss, List.take_of_length_le om]
  have hnn := hOss.len; have hln : ss.length = x.length := by have h := congrArg List.length hfin; simpa using h
  exact ⟨(⟨⟨(At a0 0), 1, 1, [(⟨1, 1, 9, ⟨(At c0 0), 1, 1, [5]⟩⟩ : Plane)]⟩, ⟨ass, nss, kss, ss⟩, ⟨(At b0 0), 1, 1, [0]⟩, 0⟩ : Job), _, (Gss ++ [(a0, .cells #[I 1, I 1, I 9, .slice (At c0 0) 1 1] 38 (0, 0))] ++ [(b0, .cells #[I 0] 3 (0, 0))] ++ [(c0, .cells #[I 5] 3 (0, 0))]), rfl, hOss, (fun z hz => (hDss z hz).of_mem mS), ((RdT.blk (cs := [[(a0, .cells #[I 1, I 1, I 9, .slice (At c0 0) 1 1] 38 (0, 0))]]) (enc := encPlane) (sz := 4) (xs := [(⟨1, 1, 9, ⟨(At c0 0), 1, 1, [5]⟩⟩ : Plane)]) fR 1 0 rfl rfl rfl om)).of_mem mS, (fun z hz => by rw [List.mem_singleton.1 hz]; exact ⟨((RdT.blk (cs := [[(c0, .cells #[I 5] 3 (0, 0))]]) (enc := encI) (sz := 1) (xs := [5]) fR 1 0 rfl rfl rfl om)).of_mem mS⟩), ((RdT.blk (cs := [[(b0, .cells #[I 0] 3 (0, 0))]]) (enc := encI) (sz := 1) (xs := [0]) fR 1 0 rfl rfl rfl om)).of_mem mS, ⟨by unfold Job.v jobL jobOf; rw [← hfin]; rfl, rfl, (show nss = n by omega), rfl⟩, d1⟩
 refine kT <| seqE <| blockE ?_
 obtain ⟨i0, n0, o0, p0, e1, f1⟩ := RdT.elem hx ((i : Nat) : Int)
 rw [Int.toNat_natCast] at p0
 refine drawE [6, 7, 8, 10] [(1, ⟨d0, 1, none⟩, .slice ass nss kss), (5, ⟨n0, o0, none⟩, I i0)] [(true, [0, 2, 3]), (true, [4]), (true, [1]), (true, [5]), (false, [6]), (false, [7]), (false, [8]), (true, [9]), (false, [10])] rfl kr ⟨.inr (e0.cell 2 rfl rfl), .inr ((e1.up 7 rfl).cell e0 (k := 0) rfl), trivial⟩ ?_
 have g1 := e0.drew
 refine wU [0, 2, 3] ?_
 refine wY (.pointer (some ⟨n0, o0, none⟩)) rfl (fun w _ => Y_idx (a := a) (i := ((i : Nat) : Int)) (len := n) (cap := k) rfl Tryz.runUnderlying22 Tryz.sizeOf3 kr kr f1) ?_
 refine wLd (.slice ass nss kss) 0 Tryz.isAgg26 ?_
 refine wLd (I i0) 1 Tryz.isAgg3 ?_
 refine wO rfl ?_
 refine cX Tryz.call61 (l17_point i0 g1) ?_
 rintro _ _ ⟨j0, k0, rfl, h1, i1, q0⟩
 refine nilO ⟨⟨.inr (q0.cell 3 rfl rfl), dI, trivial⟩, ?_⟩
 refine wO rfl ?_
 refine sBS q0 (encStage j0).toArray Tryz.runUnderlying26 Tryz.sizeOf44 Tryz.zeroValue44 ?_
 intro _ _ r0
 refine nilO ⟨⟨.inr (r0.cell 4 rfl rfl), dI, trivial⟩, ?_⟩
 refine wO rfl ?_
 refine sApp (nb := 240) r0 hOss 3 (RdT.blk (enc := encStage) (sz := 18) (xs := [j0]) fR 1 0 rfl rfl rfl om) Tryz.underlying26 (i := Tryz.t44) kr fR ?_
 intro g0 h0 l0 _ j1 k1
 refine nilO ⟨dA, ?_⟩
 refine wU [9] ?_
 refine wO rfl ?_
 refine tW k1 4 1 (.slice g0 (nss + 1) h0) Tryz.sizeOf26 ?_
 intro _ l1
 refine nilO ⟨dA, ?_⟩
 refine wN ?_
 refine blockK_n <| thenK_n <| regionE <| pu1 ?_
 refine sAdd ((i : Nat) : Int) 1 ?_
 refine pu1 <| nT ?_
 have m1 := (l1.dropAt 0 rfl)
 have n1 := (Sat.perm (cs' := (k0 ++ Gss) :: (l0 :: [(d0, .cells #[.slice (At a0 0) 1 1, .slice g0 (nss + 1) h0, .slice (At b0 0) 1 1, I 0] 28 (0, 0))] :: [(b0, .cells #[I 0] 3 (0, 0))] :: [(a0, .cells #[I 1, I 1, I 9, .slice (At c0 0) 1 1] 38 (0, 0))] :: [(c0, .cells #[I 5] 3 (0, 0))] :: [(f0, .cells #[.slice none 0 0, .slice none 0 0, .slice none 0 0, I 0] 28 (0, 0))] :: H :: F)) (show Sat W _ (k0 :: Gss :: l0 :: [(d0, .cells #[.slice (At a0 0) 1 1, .slice g0 (nss + 1) h0, .slice (At b0 0) 1 1, I 0] 28 (0, 0))] :: [(b0, .cells #[I 0] 3 (0, 0))] :: [(a0, .cells #[I 1, I 1, I 9, .slice (At c0 0) 1 1] 38 (0, 0))] :: [(c0, .cells #[I 5] 3 (0, 0))] :: [(f0, .cells #[.slice none 0 0, .slice none 0 0, .slice none 0 0, I 0] 28 (0, 0))] :: H :: F) from m1) (by simp))
 exact ⟨(i + 1, (ss ++ [j0]), g0, (nss + 1), h0, l0, (k0 ++ Gss)), od, alA, n1, om, (by rw [List.map_append, hss, take_succ_at p0, List.map_append, List.map_singleton, List.map_singleton, i1]), by simp; omega, j1, (by
   intro z hz
   rcases List.mem_append.1 hz with h | h
   ·exact (hDss z h).of_mem mS
   ·simp only [List.mem_singleton] at h; subst h; exact h1.of_mem mS)⟩
theorem l17_sane  (hS : Sat W w (H :: F)) :
  Ro Tryz.prog 12 #[] (.bool true) W w (H :: F) := by
 refine callsA 85 Tryz.func12 rfl ?_
 refine sR <| pu1 <| nT <| sR ?_
 refine sBS hS #[I 2, I 0] Tryz.runUnderlying22 Tryz.sizeOf3 Tryz.zeroValue3 ?_
 intro _ _ q0
 refine cX Tryz.call34 (l17_job (RdT.flat (RdT.blk (enc := encI) (sz := 1) (xs := [2, 0]) (fun _ => (by rfl)) 2 0 rfl rfl rfl om)) om (Sat.flat q0)) ?_
 rintro _ _ ⟨e0, _, _, rfl, r0, s0, t0, u0, v0, ⟨w0, _, _, _⟩, x0⟩
 have y0 := Sat.unflat2 x0
 refine cX Tryz.call17 (p17_order e0 ⟨(RdT.flat (t0.up 1 (by rfl))), (fun z hz => (u0 z hz).of_mem (mem_flat1 1 (by rfl))), (RdT.flat (r0.rdAt 0 (by rfl))), (fun z hz => (s0 z hz).of_mem (mem_flat1 1 (by rfl))), (RdT.flat (v0.up 1 (by rfl)))⟩ (od) (Sat.flat y0)) ?_
 rintro _ _ ⟨_, l0, _, _, rfl, c0, z0⟩
 have a1 := Sat.unflat1 z0
 have hn_az_22 := c0.len; have hl_az_22 := c0.le
 have hval0 : ordV e0.v = ([2, 1], 0) := by rw [w0]; exact ord20
 have hl0 : l0 = 2 := by have h := hn_az_22; rw [hval0] at h; exact h.symm
 refine pu5 <| nT <| sR ?_
 refine sBS a1 #[I 2, I 1] Tryz.runUnderlying22 Tryz.sizeOf3 Tryz.zeroValue3 ?_
 intro _ _ b1
 refine cX Tryz.call34 (l17_job (RdT.flat (RdT.blk (enc := encI) (sz := 1) (xs := [2, 1]) (fun _ => (by rfl)) 2 0 rfl rfl rfl om)) om (Sat.flat b1)) ?_
 rintro _ _ ⟨f0, _, _, rfl, c1, d1, e1, f1, g1, ⟨h1, _, _, _⟩, i1⟩
 have j1 := Sat.unflat2 i1
 refine cX Tryz.call17 (p17_order f0 ⟨(RdT.flat (e1.up 1 (by rfl))), (fun z hz => (f1 z hz).of_mem (mem_flat1 1 (by rfl))), (RdT.flat (c1.rdAt 0 (by rfl))), (fun z hz => (d1 z hz).of_mem (mem_flat1 1 (by rfl))), (RdT.flat (g1.up 1 (by rfl)))⟩ (od) (Sat.flat j1)) ?_
 rintro _ _ ⟨_, k1, _, _, rfl, m0, l1⟩
 have m1 := Sat.unflat1 l1
 have hn_az_48 := m0.len; have hl_az_48 := m0.le
 have hval1 : ordV f0.v = ([], 7) := by rw [h1]; exact ord21
 have hl1 : k1 = 0 := by have h := hn_az_48; rw [hval1] at h; exact h.symm
 refine pu5 <| nT <| sR ?_
 refine sBS m1 #[I 2, I 1] Tryz.runUnderlying22 Tryz.sizeOf3 Tryz.zeroValue3 ?_
 intro _ _ n1
 refine cX Tryz.call34 (l17_job (RdT.flat (RdT.blk (enc := encI) (sz := 1) (xs := [2, 1]) (fun _ => (by rfl)) 2 0 rfl rfl rfl om)) om (Sat.flat n1)) ?_
 rintro _ _ ⟨n0, _, _, rfl, o1, p1, q1, r1, s1, ⟨t1, _, _, _⟩, u1⟩
 have v1 := Sat.unflat2 u1
 refine cX Tryz.call18 (p17_cycle n0 ⟨(RdT.flat (q1.up 1 (by rfl))), (fun z hz => (r1 z hz).of_mem (mem_flat1 1 (by rfl))), (RdT.flat (o1.rdAt 0 (by rfl))), (fun z hz => (p1 z hz).of_mem (mem_flat1 1 (by rfl))), (RdT.flat (s1.up 1 (by rfl)))⟩ (od) (Sat.flat v1)) ?_
 rintro _ _ ⟨_, o0, _, _, rfl, g0, w1⟩
 have x1 := Sat.unflat1 w1
 have hn_az_74 := g0.len; have hl_az_74 := g0.le
 have hval2 : cycV n0.v = [1, 2] := by rw [t1]; exact cycV21
 have hl2 : o0 = 2 := by have h := hn_az_74; rw [hval2] at h; exact h.symm
 refine pu1 <| nT <| sR ?_
 refine sBS x1 #[I 0] Tryz.runUnderlying22 Tryz.sizeOf3 Tryz.zeroValue3 ?_
 intro _ _ y1
 refine cX Tryz.call34 (l17_job (RdT.flat (RdT.blk (enc := encI) (sz := 1) (xs := [0]) (fun _ => (by rfl)) 1 0 rfl rfl rfl om)) om (Sat.flat y1)) ?_
 rintro _ _ ⟨d0, _, _, rfl, z1, a2, b2, c2, d2, ⟨e2, _, _, _⟩, f2⟩
 have g2 := Sat.unflat2 f2
 refine cX Tryz.call8 (p17_shapes d0 ⟨(RdT.flat (b2.up 1 (by rfl))), (fun z hz => (c2 z hz).of_mem (mem_flat1 1 (by rfl))), (RdT.flat (z1.rdAt 0 (by rfl))), (fun z hz => (a2 z hz).of_mem (mem_flat1 1 (by rfl))), (RdT.flat (d2.up 1 (by rfl)))⟩ (od) (Sat.flat g2)) ?_
 rintro _ _ ⟨_, p0, _, _, rfl, h0, h2⟩
 have b0 := Sat.unflat1 h2
 have hn_az_100 := h0.len; have hl_az_100 := h0.le
 have hval3 : shpV d0.v = ([⟨1, 1, 9⟩, ⟨1, 1, 255⟩], 0, 0) := by rw [e2]; exact shp0
 have hl3 : p0 = 2 := by have h := hn_az_100; rw [hval3] at h; exact h.symm
 refine pu7 <| nT <| sR <| pu3 ?_
 have i2 : ((ordV e0.v).2 : Int) = 0 := by rw [hval0]
 refine sFix 33 _ true (beq_iff_eq.2 i2) ?_
 refine pu5 ?_
 have j2 : (((l0 : Nat) : Int) : Int) = 2 := by omega
 refine sFix 38 _ true (beq_iff_eq.2 j2) ?_
 refine pu1 <| gY ?_
 refine sIdxO c0 0 0 Tryz.runUnderlying22 Tryz.sizeOf3 ?_
 intro i0 _ _ k2 l2 _
 have hv_x_107 : i0 = 2 := by have h := k2; rw [hval0] at h; exact (Option.some.inj h).symm
 refine gY ?_
 refine sLp b0 (l2.up 12 rfl) 0 (I i0) (Tryz.isAgg3 _) ?_
 refine pu3 ?_
 have m2 : (i0 : Int) = 2 := by omega
 refine sFix 44 _ true (beq_iff_eq.2 m2) ?_
 refine pu1 <| gY ?_
 refine sIdxO c0 1 1 Tryz.runUnderlying22 Tryz.sizeOf3 ?_
 intro j0 _ _ n2 o2 _
 have hv_x_114 : j0 = 1 := by have h := n2; rw [hval0] at h; exact (Option.some.inj h).symm
 refine gY ?_
 refine sLp b0 (o2.up 12 rfl) 0 (I j0) (Tryz.isAgg3 _) ?_
 refine pu3 ?_
 have p2 : (j0 : Int) = 1 := by omega
 refine sFix 50 _ true (beq_iff_eq.2 p2) ?_
 refine pu4 ?_
 have q2 : ((ordV f0.v).2 : Int) = 7 := by rw [hval1]
 refine sFix 54 _ true (beq_iff_eq.2 q2) ?_
 refine pu5 ?_
 have r2 : (((o0 : Nat) : Int) : Int) = 2 := by omega
 refine sFix 59 _ true (beq_iff_eq.2 r2) ?_
 refine pu1 <| gY ?_
 refine sIdxO g0 0 0 Tryz.runUnderlying22 Tryz.sizeOf3 ?_
 intro k0 _ _ s2 t2 _
 have hv_x_123 : k0 = 1 := by have h := s2; rw [hval2] at h; exact (Option.some.inj h).symm
 refine gY ?_
 refine sLp b0 (t2.up 4 rfl) 0 (I k0) (Tryz.isAgg3 _) ?_
 refine pu3 ?_
 have u2 : (k0 : Int) = 1 := by omega
 refine sFix 65 _ true (beq_iff_eq.2 u2) ?_
 refine pu4 ?_
 have v2 : ((shpV d0.v).2.2 : Int) = 0 := by rw [hval3]
 refine sFix 69 _ true (beq_iff_eq.2 v2) ?_
 refine pu4 ?_
 have w2 : ((shpV d0.v).2.1 : Int) = 0 := by rw [hval3]
 refine sFix 73 _ true (beq_iff_eq.2 w2) ?_
 refine pu5 ?_
 have x2 : (((p0 : Nat) : Int) : Int) = 2 := by omega
 refine sFix 78 _ true (beq_iff_eq.2 x2) ?_
 refine pu1 <| gY ?_
 refine sIdxO h0 1 1 Tryz.runUnderlying30 Tryz.sizeOf35 ?_
 intro a0 _ _ y2 z2 _
 have hv_x_133 : a0 = (⟨1, 1, 255⟩ : Shape) := by have h := y2; rw [hval3] at h; exact (Option.some.inj h).symm
 refine gY ?_
 refine sLpA b0 (z2.up 0 rfl) 0 [I a0.w, I a0.h, I a0.max_] (Tryz.isAgg35 _) (Tryz.sizeOf35 _) ?_
 refine pu1 <| gY ?_
 refine stepY (.bool (((a0.w : Int) == 1) && ((a0.h : Int) == 1) && ((a0.max_ : Int) == 255))) rfl rfl (Y_eqS rfl kr kr (eqve35 _ a0.w a0.h a0.max_ 1 1 255)) ?_
 refine pu2 <| nT <| retE <| retT [.bool (((a0.w : Int) == 1) && ((a0.h : Int) == 1) && ((a0.max_ : Int) == 255))] ?_
 have a3 := (b0.drops [0, 0, 0, 0, 0, 0, 0, 0, 0, 0, 0, 0, 0, 0, 0, 0])
 exact ⟨by rw [hv_x_133]; rfl, a3⟩
end Go.Proofs.YtbofcpnngniopaaGreat
