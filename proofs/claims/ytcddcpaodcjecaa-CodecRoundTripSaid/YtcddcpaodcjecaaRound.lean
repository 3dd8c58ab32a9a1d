import Derived.Test.YtcddcpaodcjecaaSize
import Derived.Test.YtcddcpaodcjecaaDamage
namespace Go.Proofs.Ytcddcpaodcjecaa
open Go Go.E
set_option linter.unusedVariables false
set_option linter.unusedSimpArgs false
set_option linter.unnecessarySimpa false
set_option maxRecDepth 100000
set_option maxHeartbeats 2000000
-- squeezed
theorem l19_round (W w : World) (H : Chunk) (F : List Chunk) (t : Option Addr) (nt kt : Nat) (xt : List Int) (ht : RdT encI 1 [H] t nt kt xt) (hS : Sat W w (H :: F)) :
  Calls Try.prog 6 #[.slice t nt kt] w fun e w' => e = .returned (.bool true) ∧ Sat W w' (H :: F) := by
 have hlt := ht.le
 refine callsE (n := 79) Try.func6 rfl rfl (Nat.le_of_ble_eq_true rfl) ?_
 refine sR <| pu1 <| nT <| sR <| pu1 ?_
 refine sF #[.slice t nt kt] Try.call8 (Calls.mono (tape_new W _ (H :: F) _ _ _ hS) ?_)
 rintro _ _ ⟨d0, rfl, s0⟩
 refine ⟨_, rfl, ?_⟩
 change Sat _ _ ([(d0, .cells #[.slice t nt kt, I 0] 46 (0, 0))] :: H :: F) at s0
 have y3 := ht.le
 refine pu1 <| nT <| sR <| pu2 ?_
 change Sat _ _ ([(d0, .cells #[.slice t nt kt, I 0] 46 (0, 0))] :: H :: F) at s0
 refine sF #[Pt d0 0, I 4] Try.call9 (Calls.mono (tg_job W _ _ _ _ _ 0 _ _ [] (RdT.flat (ht.up 0 (by rfl))) om (Sat.flat1 s0) 4 om) ?_)
 rintro _ _ ⟨t0, e0, rfl, h0, l2, _, k0, _, e1⟩
 refine ⟨_, rfl, ?_⟩
 have u0 := Sat.unflat2 e1; clear e1
 change Sat _ _ ([(d0, .cells #[.slice t nt kt, I k0] 46 (0, 0))] :: e0 :: H :: F) at u0
 change Sat _ _ ([(d0, .cells #[.slice t nt kt, I k0] 46 (0, 0))] :: e0 :: H :: F) at u0
 have f1 := ((u0.pick 1 rfl).pick 1 rfl)
 change Sat _ _ ([(d0, .cells #[.slice t nt kt, I k0] 46 (0, 0))] :: e0 :: H :: F) at f1
 refine sF #[Pt d0 0, .agg (encJob t0).toArray] Try.call10 (Calls.mono (tg_spoilJob W _ _ _ _ _ k0 _ _ e0 [] (RdT.flat (ht.up 0 (by rfl))) om (Sat.flat2 f1) t0 ⟨h0.inputs, h0.inputsD, h0.stages, h0.stagesD, h0.outputs⟩ 0 om (jobB_S l2)) ?_)
 rintro _ _ ⟨a0, i0, rfl, f0, v0, l0, _, g1⟩
 refine ⟨_, rfl, ?_⟩
 have h1 := Sat.unflat3 g1; clear g1
 change Sat _ _ ([(d0, .cells #[.slice t nt kt, I l0] 46 (0, 0))] :: i0 :: e0 :: H :: F) at h1
 have i1 := (((h1.pick 2 rfl).pick 2 rfl).pick 2 rfl)
 change Sat _ _ ([(d0, .cells #[.slice t nt kt, I l0] 46 (0, 0))] :: i0 :: e0 :: H :: F) at i1
 have m2 : Sat W _ ([(d0, .cells #[.slice t nt kt, I l0] 46 (0, 0))] :: (i0 ++ e0) :: H :: F) := Sat.perm i1 (by simp)
 have e4 : Job.Ok [(i0 ++ e0)] t0 := h0.of_mem mS
 refine sAlloc m2 Try.zeroValue28 ?_
 intro j1 _ n2
 refine sT n2 0 0 (.agg (encJob a0).toArray) (encJob a0) (encJob a0).toArray Try.sizeOf28 ?_
 intro _ k1
 refine nT <| sR ?_
 refine sLA k1 0 0 [.slice a0.inputs.a a0.inputs.n a0.inputs.k, .slice a0.stages.a a0.stages.n a0.stages.k, .slice a0.outputs.a a0.outputs.n a0.outputs.k, I a0.priority] (Try.isAgg28 _) (Try.sizeOf28 _) ?_
 refine sF #[.agg (encJob a0).toArray] Try.call11 (Calls.mono (codec_encode W _ _ [] a0 ⟨(RdT.flat (f0.inputs.up 2 (by rfl))), (fun z hz => (f0.inputsD z hz).of_mem (mem_flat1 2 (by rfl))), (RdT.flat (f0.stages.up 2 (by rfl))), (fun z hz => (f0.stagesD z hz).of_mem (mem_flat1 2 (by rfl))), (RdT.flat (f0.outputs.up 2 (by rfl)))⟩ (Sat.flat k1)) ?_)
 rintro _ _ (⟨o2, w0, x0, y0, l1, rfl, m0, z0⟩ | ⟨o2, rfl, z0⟩)
 ·refine ⟨_, rfl, ?_⟩
  have m1 := Sat.unflat1 z0; clear z0
  try dsimp only [List.set, List.eraseIdx, Value.cells] at m1
  have hn_a_37 := m0.len; rw [enc_len] at hn_a_37; have hle_a_37 := m0.le
  refine pu5 <| nilO ?_
  have hbd0 := nJob_bd v0 om
  have hlb : ([84, 70, 1] ++ bytesOf (nJob a0.v)).length ≤ 200000 := by rw [enc_len]; omega
  refine thenK_n <| sR <| pu1 ?_
  refine sF #[.slice w0 x0 y0] Try.call17 (Calls.mono (codec_decode W _ _ [] _ _ _ ([84, 70, 1] ++ bytesOf (nJob a0.v)) (RdT.flat (m0.rdAt 0 (by rfl))) (enc_bytes _) (Sat.flat m1)) ?_)
  rintro _ _ ⟨c0, n1, p2, rfl, j0, q2, o1⟩
  refine ⟨_, rfl, ?_⟩
  have p1 := Sat.unflat1 o1; clear o1
  try dsimp only [List.set, List.eraseIdx, Value.cells] at p1
  refine pu3 ?_
  refine sAlloc p1 Try.zeroValue28 ?_
  intro q1 _ r2
  refine sT r2 0 0 (.agg (encJob c0).toArray) (encJob c0) (encJob c0).toArray Try.sizeOf28 ?_
  intro _ a1
  refine pu1 <| nilO ?_
  obtain ⟨hc0, hj0⟩ := DecR.of_enc q2 (jobS_wf v0 om) rfl om
  refine thenK_n <| seqE <| sR <| pu7 ?_
  have s2 : (p2 : Int) = 0 := hc0
  refine sFix 36 _ false (bne_eq_false_iff_eq.2 s2) ?_
  refine gY ?_
  refine sLA a1 0 0 [.slice c0.inputs.a c0.inputs.n c0.inputs.k, .slice c0.stages.a c0.stages.n c0.stages.k, .slice c0.outputs.a c0.outputs.n c0.outputs.k, I c0.priority] (Try.isAgg28 _) (Try.sizeOf28 _) ?_
  refine gY ?_
  refine sLA a1 3 0 [.slice a0.inputs.a a0.inputs.n a0.inputs.k, .slice a0.stages.a a0.stages.n a0.stages.k, .slice a0.outputs.a a0.outputs.n a0.outputs.k, I a0.priority] (Try.isAgg28 _) (Try.sizeOf28 _) ?_
  refine gY ?_
  refine sF #[.agg (encJob c0).toArray, .agg (encJob a0).toArray] Try.call12 (Calls.mono (r19_same W _ _ [] c0 a0 ⟨(RdT.flat (j0.inputs.up 1 (by rfl))), (fun z hz => (j0.inputsD z hz).of_mem (mem_flat1 1 (by rfl))), (RdT.flat (j0.stages.up 1 (by rfl))), (fun z hz => (j0.stagesD z hz).of_mem (mem_flat1 1 (by rfl))), (RdT.flat (j0.outputs.up 1 (by rfl)))⟩ ⟨(RdT.flat (f0.inputs.up 5 (by rfl))), (fun z hz => (f0.inputsD z hz).of_mem (mem_flat1 5 (by rfl))), (RdT.flat (f0.stages.up 5 (by rfl))), (fun z hz => (f0.stagesD z hz).of_mem (mem_flat1 5 (by rfl))), (RdT.flat (f0.outputs.up 5 (by rfl)))⟩ (Sat.flat a1)) ?_)
  rintro _ _ ⟨rfl, r1⟩
  refine ⟨_, rfl, ?_⟩
  have s1 := Sat.unflat r1; clear r1
  try dsimp only [List.set, List.eraseIdx, Value.cells] at s1
  refine pu2 <| nT ?_
  have t2 : c0.v = a0.v := hj0
  refine cF _ (congrArg Bool.not (decide_eq_true t2)) ?_
  refine kT <| sR <| pu2 ?_
  have t1 := (s1.pick 4 rfl)
  try dsimp only [List.set, List.eraseIdx, Value.cells] at t1
  refine sF #[Pt d0 0, .slice w0 x0 y0] Try.call16 (Calls.mono (l19_damage W _ _ _ _ _ l0 _ _ [] (RdT.flat (ht.up 5 (by rfl))) om (Sat.flat1 t1) w0 x0 y0 ([84, 70, 1] ++ bytesOf (nJob a0.v)) (RdT.flat (m0.rdAt 2 (by rfl))) (enc_bytes _) (by first | omega | (simp; omega))) ?_)
  rintro _ _ ⟨u2, v2, w2, n0, u1, rfl, o0, b1, v1, _, w1⟩
  refine ⟨_, rfl, ?_⟩
  have x1 := Sat.unflat2 w1; clear w1
  try dsimp only [List.set, List.eraseIdx, Value.cells] at x1
  have hn_zs_66 := o0.len; have hl_zs_66 := o0.le; have hlb_zs_66 := b1.2
  refine pu1 <| nT <| sR <| pu1 ?_
  refine sF #[.slice u2 v2 w2] Try.call17 (Calls.mono (codec_decode W _ _ [] _ _ _ n0 (RdT.flat (o0.up 1 (by rfl))) b1.1 (Sat.flat x1)) ?_)
  rintro _ _ ⟨b0, y1, z1, rfl, g0, p0, a2⟩
  refine ⟨_, rfl, ?_⟩
  have b2 := Sat.unflat1 a2; clear a2
  try dsimp only [List.set, List.eraseIdx, Value.cells] at b2
  refine pu3 ?_
  refine sAlloc b2 Try.zeroValue28 ?_
  intro c2 _ x2
  refine sT x2 0 0 (.agg (encJob b0).toArray) (encJob b0) (encJob b0).toArray Try.sizeOf28 ?_
  intro _ q0
  refine pu1 <| nilO ?_
  have hdc := DecR.code p0
  refine thenK_n <| seqE <| sR <| pu2 <| nT ?_
  by_cases d2 : (z1 : Int) = 0
  rotate_left
  ·refine cT _ (bne_iff_ne.2 d2) ?_
   refine sR <| pu3 ?_
   have y2 : (z1 : Int) = 4 := by omega
   refine sFix 54 _ true (beq_iff_eq.2 y2) ?_
   refine gY ?_
   refine sLA q0 0 0 [.slice b0.inputs.a b0.inputs.n b0.inputs.k, .slice b0.stages.a b0.stages.n b0.stages.k, .slice b0.outputs.a b0.outputs.n b0.outputs.k, I b0.priority] (Try.isAgg28 _) (Try.sizeOf28 _) ?_
   refine pu1 <| gY ?_
   refine sF #[.agg (encJob b0).toArray, .agg #[.slice none 0 0, .slice none 0 0, .slice none 0 0, I 0]] Try.call12 (Calls.mono (r19_same W _ _ [] b0 (⟨⟨none, 0, 0, []⟩, ⟨none, 0, 0, []⟩, ⟨none, 0, 0, []⟩, 0⟩ : Job) ⟨(RdT.flat (g0.inputs.up 1 (by rfl))), (fun z hz => (g0.inputsD z hz).of_mem (mem_flat1 1 (by rfl))), (RdT.flat (g0.stages.up 1 (by rfl))), (fun z hz => (g0.stagesD z hz).of_mem (mem_flat1 1 (by rfl))), (RdT.flat (g0.outputs.up 1 (by rfl)))⟩ ⟨(RdT.nil (enc := encPlane) (sz := 4) fR _), (fun z hz => by cases hz), (RdT.nil (enc := encStage) (sz := 18) fR _), (fun z hz => by cases hz), (RdT.nil (enc := encI) (sz := 1) fR _)⟩ (Sat.flat q0)) ?_)
   rintro _ _ ⟨rfl, e2⟩
   refine ⟨_, rfl, ?_⟩
   have f2 := Sat.unflat e2; clear e2
   try dsimp only [List.set, List.eraseIdx, Value.cells] at f2
   refine pu2 ?_
   have z2 : b0.v = (⟨⟨none, 0, 0, []⟩, ⟨none, 0, 0, []⟩, ⟨none, 0, 0, []⟩, 0⟩ : Job).v := ((p0.bad om).1)
   refine sFix 59 _ true (decide_eq_true z2) ?_
   refine gY ?_
   refine sF #[] Try.call13 (Calls.mono (l19_sane W _ ([(c2, .cells (encJob b0).toArray 28 (0, 0))] :: y1 :: [(d0, .cells #[.slice t nt kt, I v1] 46 (0, 0))] :: u1 :: [(q1, .cells (encJob c0).toArray 28 (0, 0))] :: n1 :: l1 :: [(j1, .cells (encJob a0).toArray 28 (0, 0))] :: (i0 ++ e0) :: H :: F) f2) ?_)
   rintro _ _ ⟨rfl, g2⟩
   refine ⟨_, rfl, ?_⟩
   try dsimp only [List.set, List.eraseIdx, Value.cells] at g2
   refine pu2 <| nT ?_
   refine retE (thenK_r <| ?_)
   refine retT [.bool true] ?_
   have i2 := (g2.pick 9 rfl)
   try dsimp only [List.set, List.eraseIdx, Value.cells] at i2
   have a3 := i2.dropAt 1 rfl
   have b3 := a3.dropAt 1 rfl
   have c3 := b3.dropAt 1 rfl
   have d3 := c3.dropAt 1 rfl
   have e3 := d3.dropAt 1 rfl
   have f3 := e3.dropAt 1 rfl
   have g3 := f3.dropAt 1 rfl
   have i3 := g3.dropAt 1 rfl
   have j3 := i3.dropAt 1 rfl
   exact ⟨rfl, j3⟩
  refine cF _ (bne_eq_false_iff_eq.2 d2) ?_
  refine kT <| sR ?_
  refine sLA q0 0 0 [.slice b0.inputs.a b0.inputs.n b0.inputs.k, .slice b0.stages.a b0.stages.n b0.stages.k, .slice b0.outputs.a b0.outputs.n b0.outputs.k, I b0.priority] (Try.isAgg28 _) (Try.sizeOf28 _) ?_
  refine sF #[.agg (encJob b0).toArray] Try.call11 (Calls.mono (codec_encode W _ _ [] b0 ⟨(RdT.flat (g0.inputs.up 1 (by rfl))), (fun z hz => (g0.inputsD z hz).of_mem (mem_flat1 1 (by rfl))), (RdT.flat (g0.stages.up 1 (by rfl))), (fun z hz => (g0.stagesD z hz).of_mem (mem_flat1 1 (by rfl))), (RdT.flat (g0.outputs.up 1 (by rfl)))⟩ (Sat.flat q0)) ?_)
  rintro _ _ (⟨k3, _, _, _, l3, rfl, c1, d1⟩ | ⟨k3, rfl, d1⟩)
  ·refine ⟨_, rfl, ?_⟩
   have r0 := Sat.unflat1 d1; clear d1
   try dsimp only [List.set, List.eraseIdx, Value.cells] at r0
   have hn_a_91 := c1.len; rw [enc_len] at hn_a_91; have hle_a_91 := c1.le
   refine pu5 <| nT <| sR <| pu4 <| gY ?_
   refine sBstr r0 ((o0.up 4 rfl)) Try.underlying31 Try.underlying5 Try.underlying9 ?_
   refine pu1 <| gY ?_
   refine sBstr r0 ((c1.rdAt 0 rfl)) Try.underlying31 Try.underlying5 Try.underlying9 ?_
   refine gY ?_
   refine stepY (.bool (decide (n0 = ([84, 70, 1] ++ bytesOf (nJob b0.v))))) rfl rfl (Y_streq n0 ([84, 70, 1] ++ bytesOf (nJob b0.v)) b1.1 (enc_bytes _) rfl kr kr) ?_
   refine pu2 ?_
   have m3 : n0 = ([84, 70, 1] ++ bytesOf (nJob b0.v)) := ((p0.ok om).2.2)
   refine sFix 76 _ true (decide_eq_true m3) ?_
   refine gY ?_
   refine sF #[] Try.call13 (Calls.mono (l19_sane W _ (l3 :: [(c2, .cells (encJob b0).toArray 28 (0, 0))] :: y1 :: [(d0, .cells #[.slice t nt kt, I v1] 46 (0, 0))] :: u1 :: [(q1, .cells (encJob c0).toArray 28 (0, 0))] :: n1 :: l1 :: [(j1, .cells (encJob a0).toArray 28 (0, 0))] :: (i0 ++ e0) :: H :: F) r0) ?_)
   rintro _ _ ⟨rfl, j2⟩
   refine ⟨_, rfl, ?_⟩
   try dsimp only [List.set, List.eraseIdx, Value.cells] at j2
   refine pu2 <| nT <| retE <| retT [.bool true] ?_
   have k2 := (j2.pick 10 rfl)
   try dsimp only [List.set, List.eraseIdx, Value.cells] at k2
   have n3 := k2.dropAt 1 rfl
   have o3 := n3.dropAt 1 rfl
   have p3 := o3.dropAt 1 rfl
   have q3 := p3.dropAt 1 rfl
   have r3 := q3.dropAt 1 rfl
   have s3 := r3.dropAt 1 rfl
   have t3 := s3.dropAt 1 rfl
   have u3 := t3.dropAt 1 rfl
   have v3 := u3.dropAt 1 rfl
   have w3 := v3.dropAt 1 rfl
   exact ⟨rfl, w3⟩
  ·exfalso; obtain ⟨_, h2, h3⟩ := p0.ok om; rw [h3, enc_len] at h2; omega
 ·exfalso; have hbd := nJob_bd v0 om; omega
end Go.Proofs.Ytcddcpaodcjecaa
