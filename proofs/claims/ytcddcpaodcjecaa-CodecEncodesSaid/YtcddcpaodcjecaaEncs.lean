import Derived.Test.YtcddcpaodcjecaaSize
namespace Go.Proofs.Ytcddcpaodcjecaa
open Go Go.E
set_option linter.unusedVariables false
set_option linter.unusedSimpArgs false
set_option linter.unnecessarySimpa false
set_option maxRecDepth 100000
set_option maxHeartbeats 2000000
-- squeezed
theorem l19_encodes (W w : World) (H : Chunk) (F : List Chunk) (t : Option Addr) (nt kt : Nat) (xt : List Int) (ht : RdT encI 1 [H] t nt kt xt) (hS : Sat W w (H :: F)) :
  Calls Try.prog 4 #[.slice t nt kt] w fun e w' => e = .returned (.bool true) ∧ Sat W w' (H :: F) := by
 have hlt := ht.le
 refine callsE (n := 42) Try.func4 rfl rfl (Nat.le_of_ble_eq_true rfl) ?_
 refine sR <| pu1 <| nT <| sR <| pu1 ?_
 refine sF #[.slice t nt kt] Try.call8 (Calls.mono (tape_new W _ (H :: F) _ _ _ hS) ?_)
 rintro _ _ ⟨i0, rfl, v0⟩
 refine ⟨_, rfl, ?_⟩
 change Sat _ _ ([(i0, .cells #[.slice t nt kt, I 0] 46 (0, 0))] :: H :: F) at v0
 have q3 := ht.le
 refine pu1 <| nT <| sR <| pu1 ?_
 change Sat _ _ ([(i0, .cells #[.slice t nt kt, I 0] 46 (0, 0))] :: H :: F) at v0
 refine sF #[Pt i0 0, I 4] Try.call9 (Calls.mono (tg_job W _ _ _ _ _ 0 _ _ [] (RdT.flat (ht.up 0 (by rfl))) om (Sat.flat1 v0) 4 om) ?_)
 rintro _ _ ⟨a0, g0, rfl, d0, o0, _, n1, _, o1⟩
 refine ⟨_, rfl, ?_⟩
 have p1 := Sat.unflat2 o1; clear o1
 change Sat _ _ ([(i0, .cells #[.slice t nt kt, I n1] 46 (0, 0))] :: g0 :: H :: F) at p1
 refine sAlloc p1 Try.zeroValue28 ?_
 intro p0 _ p2
 refine sT p2 0 0 (.agg (encJob a0).toArray) (encJob a0) (encJob a0).toArray Try.sizeOf28 ?_
 intro _ q1
 refine nT <| seqE <| sR <| pu1 <| nT <| blockE ?_
 refine loopN 4 ?_
 refine roundS ?_
 refine seqE <| sR <| pu2 <| nT <| cTt <| kT <| seqE <| blockE <| sR ?_
 refine sLA q1 0 0 [.slice a0.inputs.a a0.inputs.n a0.inputs.k, .slice a0.stages.a a0.stages.n a0.stages.k, .slice a0.outputs.a a0.outputs.n a0.outputs.k, I a0.priority] (Try.isAgg28 _) (Try.sizeOf28 _) ?_
 refine sF #[.agg (encJob a0).toArray] Try.call11 (Calls.mono (codec_encode W _ _ [] a0 ⟨(RdT.flat (d0.inputs.up 2 (by rfl))), (fun z hz => (d0.inputsD z hz).of_mem (mem_flat1 2 (by rfl))), (RdT.flat (d0.stages.up 2 (by rfl))), (fun z hz => (d0.stagesD z hz).of_mem (mem_flat1 2 (by rfl))), (RdT.flat (d0.outputs.up 2 (by rfl)))⟩ (Sat.flat q1)) ?_)
 rintro _ _ (⟨q2, _, _, _, q0, rfl, w0, x0⟩ | ⟨q2, rfl, x0⟩)
 ·refine ⟨_, rfl, ?_⟩
  have y0 := Sat.unflat1 x0; clear x0
  try dsimp only [List.set, List.eraseIdx, Value.cells] at y0
  have hn_a_24 := w0.len; rw [enc_len] at hn_a_24; have hle_a_24 := w0.le
  refine pu5 <| nT <| sR ?_
  refine sLA y0 1 0 [.slice a0.inputs.a a0.inputs.n a0.inputs.k, .slice a0.stages.a a0.stages.n a0.stages.k, .slice a0.outputs.a a0.outputs.n a0.outputs.k, I a0.priority] (Try.isAgg28 _) (Try.sizeOf28 _) ?_
  refine sF #[.agg (encJob a0).toArray] Try.call14 (Calls.mono (ref_encode W _ _ [] a0 ⟨(RdT.flat (d0.inputs.up 3 (by rfl))), (fun z hz => (d0.inputsD z hz).of_mem (mem_flat1 3 (by rfl))), (RdT.flat (d0.stages.up 3 (by rfl))), (fun z hz => (d0.stagesD z hz).of_mem (mem_flat1 3 (by rfl))), (RdT.flat (d0.outputs.up 3 (by rfl)))⟩ (by have hbd := nJob_bd (jobB_S o0) om; omega) (Sat.flat y0)) ?_)
  rintro _ _ (⟨r2, _, _, _, r0, rfl, z0, a1⟩ | ⟨r2, rfl, a1⟩)
  ·refine ⟨_, rfl, ?_⟩
   have k0 := Sat.unflat1 a1; clear a1
   try dsimp only [List.set, List.eraseIdx, Value.cells] at k0
   have hn_a_33 := z0.len; rw [enc_len] at hn_a_33; have hle_a_33 := z0.le
   refine pu5 <| nT <| seqE <| sR <| pu1 ?_
   refine sBstr k0 ((w0.rdAt 1 rfl)) Try.underlying31 Try.underlying5 Try.underlying9 ?_
   refine pu1 ?_
   refine sBstr k0 ((z0.rdAt 0 rfl)) Try.underlying31 Try.underlying5 Try.underlying9 ?_
   refine stepY (.bool (!decide (([84, 70, 1] ++ bytesOf (nJob a0.v)) = ([84, 70, 1] ++ bytesOf (nJob a0.v))))) rfl rfl (Y_strne ([84, 70, 1] ++ bytesOf (nJob a0.v)) ([84, 70, 1] ++ bytesOf (nJob a0.v)) (enc_bytes _) (enc_bytes _) rfl kr kr) ?_
   refine pu1 ?_
   have s2 : ([84, 70, 1] ++ bytesOf (nJob a0.v)) = ([84, 70, 1] ++ bytesOf (nJob a0.v)) := rfl
   refine sFix 33 _ false (congrArg Bool.not (decide_eq_true s2)) ?_
   refine pu4 <| nT <| cFf <| kT <| regionE <| pu1 ?_
   refine sLA k0 2 0 [.slice a0.inputs.a a0.inputs.n a0.inputs.k, .slice a0.stages.a a0.stages.n a0.stages.k, .slice a0.outputs.a a0.outputs.n a0.outputs.k, I a0.priority] (Try.isAgg28 _) (Try.sizeOf28 _) ?_
   have r1 := (k0.pick 3 rfl)
   try dsimp only [List.set, List.eraseIdx, Value.cells] at r1
   have s1 := ((r1.pick 4 rfl).pick 1 rfl)
   try dsimp only [List.set, List.eraseIdx, Value.cells] at s1
   refine sF #[Pt i0 0, .agg (encJob a0).toArray] Try.call10 (Calls.mono (tg_spoilJob W _ _ _ _ _ n1 _ _ g0 [] (RdT.flat (ht.up 3 (by rfl))) om (Sat.flat2 s1) a0 ⟨d0.inputs, d0.inputsD, d0.stages, d0.stagesD, d0.outputs⟩ 0 om (jobB_S o0)) ?_)
   rintro _ _ ⟨b0, h0, rfl, e0, s0, t1, _, u1⟩
   refine ⟨_, rfl, ?_⟩
   have v1 := Sat.unflat3 u1; clear u1
   try dsimp only [List.set, List.eraseIdx, Value.cells] at v1
   have w1 := (((v1.pick 2 rfl).pick 2 rfl).pick 2 rfl)
   try dsimp only [List.set, List.eraseIdx, Value.cells] at w1
   have t2 : Sat W _ ([(i0, .cells #[.slice t nt kt, I t1] 46 (0, 0))] :: (h0 ++ g0) :: r0 :: q0 :: [(p0, .cells (encJob a0).toArray 28 (0, 0))] :: H :: F) := Sat.perm w1 (by simp)
   have u2 : Job.Ok [(h0 ++ g0)] a0 := d0.of_mem mS
   refine sT t2 4 0 (.agg (encJob b0).toArray) (encJob b0) (encJob b0).toArray Try.sizeOf28 ?_
   intro _ x1
   refine nB <| regionE <| pu3 <| nT ?_
   refine roundS ?_
   refine seqE <| sR <| pu2 <| nT <| cTt <| kT <| seqE <| blockE <| sR ?_
   refine sLA x1 4 0 [.slice b0.inputs.a b0.inputs.n b0.inputs.k, .slice b0.stages.a b0.stages.n b0.stages.k, .slice b0.outputs.a b0.outputs.n b0.outputs.k, I b0.priority] (Try.isAgg28 _) (Try.sizeOf28 _) ?_
   refine sF #[.agg (encJob b0).toArray] Try.call11 (Calls.mono (codec_encode W _ _ [] b0 ⟨(RdT.flat (e0.inputs.up 1 (by rfl))), (fun z hz => (e0.inputsD z hz).of_mem (mem_flat1 1 (by rfl))), (RdT.flat (e0.stages.up 1 (by rfl))), (fun z hz => (e0.stagesD z hz).of_mem (mem_flat1 1 (by rfl))), (RdT.flat (e0.outputs.up 1 (by rfl)))⟩ (Sat.flat x1)) ?_)
   rintro _ _ (⟨v2, _, _, _, b1, rfl, c1, d1⟩ | ⟨v2, rfl, d1⟩)
   ·refine ⟨_, rfl, ?_⟩
    have e1 := Sat.unflat1 d1; clear d1
    try dsimp only [List.set, List.eraseIdx, Value.cells] at e1
    have hn_a_59 := c1.len; rw [enc_len] at hn_a_59; have hle_a_59 := c1.le
    refine pu5 <| nT <| sR ?_
    refine sLA e1 5 0 [.slice b0.inputs.a b0.inputs.n b0.inputs.k, .slice b0.stages.a b0.stages.n b0.stages.k, .slice b0.outputs.a b0.outputs.n b0.outputs.k, I b0.priority] (Try.isAgg28 _) (Try.sizeOf28 _) ?_
    refine sF #[.agg (encJob b0).toArray] Try.call14 (Calls.mono (ref_encode W _ _ [] b0 ⟨(RdT.flat (e0.inputs.up 2 (by rfl))), (fun z hz => (e0.inputsD z hz).of_mem (mem_flat1 2 (by rfl))), (RdT.flat (e0.stages.up 2 (by rfl))), (fun z hz => (e0.stagesD z hz).of_mem (mem_flat1 2 (by rfl))), (RdT.flat (e0.outputs.up 2 (by rfl)))⟩ (by have hbd := nJob_bd s0 om; omega) (Sat.flat e1)) ?_)
    rintro _ _ (⟨w2, _, _, _, f1, rfl, g1, h1⟩ | ⟨w2, rfl, h1⟩)
    ·refine ⟨_, rfl, ?_⟩
     have l0 := Sat.unflat1 h1; clear h1
     try dsimp only [List.set, List.eraseIdx, Value.cells] at l0
     have hn_a_68 := g1.len; rw [enc_len] at hn_a_68; have hle_a_68 := g1.le
     refine pu5 <| nT <| seqE <| sR <| pu1 ?_
     refine sBstr l0 ((c1.rdAt 1 rfl)) Try.underlying31 Try.underlying5 Try.underlying9 ?_
     refine pu1 ?_
     refine sBstr l0 ((g1.rdAt 0 rfl)) Try.underlying31 Try.underlying5 Try.underlying9 ?_
     refine stepY (.bool (!decide (([84, 70, 1] ++ bytesOf (nJob b0.v)) = ([84, 70, 1] ++ bytesOf (nJob b0.v))))) rfl rfl (Y_strne ([84, 70, 1] ++ bytesOf (nJob b0.v)) ([84, 70, 1] ++ bytesOf (nJob b0.v)) (enc_bytes _) (enc_bytes _) rfl kr kr) ?_
     refine pu1 ?_
     have x2 : ([84, 70, 1] ++ bytesOf (nJob b0.v)) = ([84, 70, 1] ++ bytesOf (nJob b0.v)) := rfl
     refine sFix 33 _ false (congrArg Bool.not (decide_eq_true x2)) ?_
     refine pu4 <| nT <| cFf <| kT <| regionE <| pu1 ?_
     refine sLA l0 6 0 [.slice b0.inputs.a b0.inputs.n b0.inputs.k, .slice b0.stages.a b0.stages.n b0.stages.k, .slice b0.outputs.a b0.outputs.n b0.outputs.k, I b0.priority] (Try.isAgg28 _) (Try.sizeOf28 _) ?_
     have y1 := (l0.pick 2 rfl)
     try dsimp only [List.set, List.eraseIdx, Value.cells] at y1
     have z1 := ((y1.pick 3 rfl).pick 1 rfl)
     try dsimp only [List.set, List.eraseIdx, Value.cells] at z1
     refine sF #[Pt i0 0, .agg (encJob b0).toArray] Try.call10 (Calls.mono (tg_spoilJob W _ _ _ _ _ t1 _ _ (h0 ++ g0) [] (RdT.flat (ht.up 5 (by rfl))) om (Sat.flat2 z1) b0 ⟨e0.inputs, e0.inputsD, e0.stages, e0.stagesD, e0.outputs⟩ 1 om s0) ?_)
     rintro _ _ ⟨c0, j0, rfl, f0, t0, a2, _, b2⟩
     refine ⟨_, rfl, ?_⟩
     have c2 := Sat.unflat3 b2; clear b2
     try dsimp only [List.set, List.eraseIdx, Value.cells] at c2
     have d2 := (((c2.pick 2 rfl).pick 2 rfl).pick 2 rfl)
     try dsimp only [List.set, List.eraseIdx, Value.cells] at d2
     have y2 : Sat W _ ([(i0, .cells #[.slice t nt kt, I a2] 46 (0, 0))] :: (j0 ++ (h0 ++ g0)) :: f1 :: b1 :: r0 :: q0 :: [(p0, .cells (encJob b0).toArray 28 (0, 0))] :: H :: F) := Sat.perm d2 (by simp)
     have z2 : Job.Ok [(j0 ++ (h0 ++ g0))] a0 := u2.of_mem mS
     have a3 : Job.Ok [(j0 ++ (h0 ++ g0))] b0 := e0.of_mem mS
     refine sT y2 6 0 (.agg (encJob c0).toArray) (encJob c0) (encJob c0).toArray Try.sizeOf28 ?_
     intro _ e2
     refine nB <| regionE <| pu3 <| nT ?_
     refine roundS ?_
     refine seqE <| sR <| pu2 <| nT <| cTt <| kT <| seqE <| blockE <| sR ?_
     refine sLA e2 6 0 [.slice c0.inputs.a c0.inputs.n c0.inputs.k, .slice c0.stages.a c0.stages.n c0.stages.k, .slice c0.outputs.a c0.outputs.n c0.outputs.k, I c0.priority] (Try.isAgg28 _) (Try.sizeOf28 _) ?_
     refine sF #[.agg (encJob c0).toArray] Try.call11 (Calls.mono (codec_encode W _ _ [] c0 ⟨(RdT.flat (f0.inputs.up 1 (by rfl))), (fun z hz => (f0.inputsD z hz).of_mem (mem_flat1 1 (by rfl))), (RdT.flat (f0.stages.up 1 (by rfl))), (fun z hz => (f0.stagesD z hz).of_mem (mem_flat1 1 (by rfl))), (RdT.flat (f0.outputs.up 1 (by rfl)))⟩ (Sat.flat e2)) ?_)
     rintro _ _ (⟨b3, _, _, _, f2, rfl, i1, j1⟩ | ⟨b3, rfl, j1⟩)
     ·refine ⟨_, rfl, ?_⟩
      have k1 := Sat.unflat1 j1; clear j1
      try dsimp only [List.set, List.eraseIdx, Value.cells] at k1
      have hn_a_95 := i1.len; rw [enc_len] at hn_a_95; have hle_a_95 := i1.le
      refine pu5 <| nT <| sR ?_
      refine sLA k1 7 0 [.slice c0.inputs.a c0.inputs.n c0.inputs.k, .slice c0.stages.a c0.stages.n c0.stages.k, .slice c0.outputs.a c0.outputs.n c0.outputs.k, I c0.priority] (Try.isAgg28 _) (Try.sizeOf28 _) ?_
      refine sF #[.agg (encJob c0).toArray] Try.call14 (Calls.mono (ref_encode W _ _ [] c0 ⟨(RdT.flat (f0.inputs.up 2 (by rfl))), (fun z hz => (f0.inputsD z hz).of_mem (mem_flat1 2 (by rfl))), (RdT.flat (f0.stages.up 2 (by rfl))), (fun z hz => (f0.stagesD z hz).of_mem (mem_flat1 2 (by rfl))), (RdT.flat (f0.outputs.up 2 (by rfl)))⟩ (by have hbd := nJob_bd t0 om; omega) (Sat.flat k1)) ?_)
      rintro _ _ (⟨c3, _, _, _, g2, rfl, l1, m1⟩ | ⟨c3, rfl, m1⟩)
      ·refine ⟨_, rfl, ?_⟩
       have m0 := Sat.unflat1 m1; clear m1
       try dsimp only [List.set, List.eraseIdx, Value.cells] at m0
       have hn_a_104 := l1.len; rw [enc_len] at hn_a_104; have hle_a_104 := l1.le
       refine pu5 <| nT <| seqE <| sR <| pu1 ?_
       refine sBstr m0 ((i1.rdAt 1 rfl)) Try.underlying31 Try.underlying5 Try.underlying9 ?_
       refine pu1 ?_
       refine sBstr m0 ((l1.rdAt 0 rfl)) Try.underlying31 Try.underlying5 Try.underlying9 ?_
       refine stepY (.bool (!decide (([84, 70, 1] ++ bytesOf (nJob c0.v)) = ([84, 70, 1] ++ bytesOf (nJob c0.v))))) rfl rfl (Y_strne ([84, 70, 1] ++ bytesOf (nJob c0.v)) ([84, 70, 1] ++ bytesOf (nJob c0.v)) (enc_bytes _) (enc_bytes _) rfl kr kr) ?_
       refine pu1 ?_
       have d3 : ([84, 70, 1] ++ bytesOf (nJob c0.v)) = ([84, 70, 1] ++ bytesOf (nJob c0.v)) := rfl
       refine sFix 33 _ false (congrArg Bool.not (decide_eq_true d3)) ?_
       refine pu4 <| nT <| cFf <| kT <| regionE <| pu1 ?_
       refine sLA m0 8 0 [.slice c0.inputs.a c0.inputs.n c0.inputs.k, .slice c0.stages.a c0.stages.n c0.stages.k, .slice c0.outputs.a c0.outputs.n c0.outputs.k, I c0.priority] (Try.isAgg28 _) (Try.sizeOf28 _) ?_
       have h2 := (m0.pick 2 rfl)
       try dsimp only [List.set, List.eraseIdx, Value.cells] at h2
       have i2 := ((h2.pick 3 rfl).pick 1 rfl)
       try dsimp only [List.set, List.eraseIdx, Value.cells] at i2
       refine sF #[Pt i0 0, .agg (encJob c0).toArray] Try.call10 (Calls.mono (tg_spoilJob W _ _ _ _ _ a2 _ _ (j0 ++ (h0 ++ g0)) [] (RdT.flat (ht.up 7 (by rfl))) om (Sat.flat2 i2) c0 ⟨f0.inputs, f0.inputsD, f0.stages, f0.stagesD, f0.outputs⟩ 2 om t0) ?_)
       rintro _ _ ⟨u0, n0, rfl, _, _, j2, _, k2⟩
       refine ⟨_, rfl, ?_⟩
       have l2 := Sat.unflat3 k2; clear k2
       try dsimp only [List.set, List.eraseIdx, Value.cells] at l2
       have m2 := (((l2.pick 2 rfl).pick 2 rfl).pick 2 rfl)
       try dsimp only [List.set, List.eraseIdx, Value.cells] at m2
       have e3 : Sat W _ ([(i0, .cells #[.slice t nt kt, I j2] 46 (0, 0))] :: (n0 ++ (j0 ++ (h0 ++ g0))) :: g2 :: f2 :: f1 :: b1 :: r0 :: q0 :: [(p0, .cells (encJob c0).toArray 28 (0, 0))] :: H :: F) := Sat.perm m2 (by simp)
       have e5 : Job.Ok [(n0 ++ (j0 ++ (h0 ++ g0)))] a0 := z2.of_mem mS
       have f5 : Job.Ok [(n0 ++ (j0 ++ (h0 ++ g0)))] b0 := a3.of_mem mS
       have g5 : Job.Ok [(n0 ++ (j0 ++ (h0 ++ g0)))] c0 := f0.of_mem mS
       refine sT e3 8 0 (.agg (encJob u0).toArray) (encJob u0) (encJob u0).toArray Try.sizeOf28 ?_
       intro _ f3
       refine nB <| regionE <| pu3 <| nT ?_
       refine roundS ?_
       refine seqE <| sR <| pu2 <| nT <| cFf ?_
       refine exitE (xB <| ?_)
       refine thenK_n <| sR ?_
       refine sF #[] Try.call13 (Calls.mono (l19_sane W _ ([(i0, .cells #[.slice t nt kt, I j2] 46 (0, 0))] :: (n0 ++ (j0 ++ (h0 ++ g0))) :: g2 :: f2 :: f1 :: b1 :: r0 :: q0 :: [(p0, .cells (encJob u0).toArray 28 (0, 0))] :: H :: F) f3) ?_)
       rintro _ _ ⟨rfl, n2⟩
       refine ⟨_, rfl, ?_⟩
       try dsimp only [List.set, List.eraseIdx, Value.cells] at n2
       refine pu1 <| nT <| retE <| retT [.bool true] ?_
       have o2 := (n2.pick 9 rfl)
       try dsimp only [List.set, List.eraseIdx, Value.cells] at o2
       have g3 := o2.dropAt 1 rfl
       have h3 := g3.dropAt 1 rfl
       have i3 := h3.dropAt 1 rfl
       have j3 := i3.dropAt 1 rfl
       have k3 := j3.dropAt 1 rfl
       have l3 := k3.dropAt 1 rfl
       have m3 := l3.dropAt 1 rfl
       have n3 := m3.dropAt 1 rfl
       have o3 := n3.dropAt 1 rfl
       exact ⟨rfl, o3⟩
      ·exfalso; have hbd := nJob_bd t0 om; omega
     ·exfalso; have hbd := nJob_bd t0 om; omega
    ·exfalso; have hbd := nJob_bd s0 om; omega
   ·exfalso; have hbd := nJob_bd s0 om; omega
  ·exfalso; have hbd := nJob_bd (jobB_S o0) om; omega
 ·exfalso; have hbd := nJob_bd (jobB_S o0) om; omega
end Go.Proofs.Ytcddcpaodcjecaa
