import Derived.Test.YtcddcpaodcjecaaSize
namespace Go.Proofs.Ytcddcpaodcjecaa
open Go Go.E
set_option linter.unusedVariables false
set_option linter.unusedSimpArgs false
set_option linter.unnecessarySimpa false
set_option maxRecDepth 100000
set_option maxHeartbeats 2000000
-- squeezed
theorem l19_distinct (W w : World) (H : Chunk) (F : List Chunk) (t : Option Addr) (nt kt : Nat) (xt : List Int) (ht : RdT encI 1 [H] t nt kt xt) (hS : Sat W w (H :: F)) :
  Calls Try.prog 3 #[.slice t nt kt] w fun e w' => e = .returned (.bool true) ∧ Sat W w' (H :: F) := by
 have hlt := ht.le
 refine callsE (n := 47) Try.func3 rfl rfl (Nat.le_of_ble_eq_true rfl) ?_
 refine sR <| pu1 <| nT <| sR <| pu1 ?_
 refine sF #[.slice t nt kt] Try.call8 (Calls.mono (tape_new W _ (H :: F) _ _ _ hS) ?_)
 rintro _ _ ⟨f0, rfl, u0⟩
 refine ⟨_, rfl, ?_⟩
 change Sat _ _ ([(f0, .cells #[.slice t nt kt, I 0] 46 (0, 0))] :: H :: F) at u0
 have a4 := ht.le
 refine pu1 <| nT <| sR <| pu1 ?_
 change Sat _ _ ([(f0, .cells #[.slice t nt kt, I 0] 46 (0, 0))] :: H :: F) at u0
 refine sF #[Pt f0 0, I 3] Try.call9 (Calls.mono (tg_job W _ _ _ _ _ 0 _ _ [] (RdT.flat (ht.up 0 (by rfl))) om (Sat.flat1 u0) 3 om) ?_)
 rintro _ _ ⟨a0, h0, rfl, r0, k0, _, a1, _, b1⟩
 refine ⟨_, rfl, ?_⟩
 have c1 := Sat.unflat2 b1; clear b1
 change Sat _ _ ([(f0, .cells #[.slice t nt kt, I a1] 46 (0, 0))] :: h0 :: H :: F) at c1
 refine sAlloc c1 Try.zeroValue28 ?_
 intro g0 _ d2
 refine sT d2 0 0 (.agg (encJob a0).toArray) (encJob a0) (encJob a0).toArray Try.sizeOf28 ?_
 intro _ d1
 refine nT <| sR <| pu1 ?_
 refine sLA d1 0 0 [.slice a0.inputs.a a0.inputs.n a0.inputs.k, .slice a0.stages.a a0.stages.n a0.stages.k, .slice a0.outputs.a a0.outputs.n a0.outputs.k, I a0.priority] (Try.isAgg28 _) (Try.sizeOf28 _) ?_
 have e1 := (d1.pick 1 rfl)
 try dsimp only [List.set, List.eraseIdx, Value.cells] at e1
 have f1 := ((e1.pick 2 rfl).pick 1 rfl)
 try dsimp only [List.set, List.eraseIdx, Value.cells] at f1
 refine sF #[Pt f0 0, .agg (encJob a0).toArray] Try.call10 (Calls.mono (tg_spoilJob W _ _ _ _ _ a1 _ _ h0 [] (RdT.flat (ht.up 1 (by rfl))) om (Sat.flat2 f1) a0 ⟨r0.inputs, r0.inputsD, r0.stages, r0.stagesD, r0.outputs⟩ 0 om (jobB_S k0)) ?_)
 rintro _ _ ⟨b0, l0, rfl, d0, m0, n0, _, g1⟩
 refine ⟨_, rfl, ?_⟩
 have h1 := Sat.unflat3 g1; clear g1
 try dsimp only [List.set, List.eraseIdx, Value.cells] at h1
 have i1 := (((h1.pick 2 rfl).pick 2 rfl).pick 2 rfl)
 try dsimp only [List.set, List.eraseIdx, Value.cells] at i1
 have e2 : Sat W _ ([(f0, .cells #[.slice t nt kt, I n0] 46 (0, 0))] :: (l0 ++ h0) :: [(g0, .cells (encJob a0).toArray 28 (0, 0))] :: H :: F) := Sat.perm i1 (by simp)
 have e0 : Job.Ok [(l0 ++ h0)] a0 := r0.of_mem mS
 refine sAlloc e2 Try.zeroValue28 ?_
 intro i0 _ f2
 refine sT f2 0 0 (.agg (encJob b0).toArray) (encJob b0) (encJob b0).toArray Try.sizeOf28 ?_
 intro _ j1
 refine nT <| sR ?_
 refine sLA j1 3 0 [.slice a0.inputs.a a0.inputs.n a0.inputs.k, .slice a0.stages.a a0.stages.n a0.stages.k, .slice a0.outputs.a a0.outputs.n a0.outputs.k, I a0.priority] (Try.isAgg28 _) (Try.sizeOf28 _) ?_
 refine sF #[.agg (encJob a0).toArray] Try.call11 (Calls.mono (codec_encode W _ _ [] a0 ⟨(RdT.flat (e0.inputs.up 2 (by rfl))), (fun z hz => (e0.inputsD z hz).of_mem (mem_flat1 2 (by rfl))), (RdT.flat (e0.stages.up 2 (by rfl))), (fun z hz => (e0.stagesD z hz).of_mem (mem_flat1 2 (by rfl))), (RdT.flat (e0.outputs.up 2 (by rfl)))⟩ (Sat.flat j1)) ?_)
 rintro _ _ (⟨g2, _, _, _, s0, rfl, o0, v0⟩ | ⟨g2, rfl, v0⟩)
 ·refine ⟨_, rfl, ?_⟩
  have w0 := Sat.unflat1 v0; clear v0
  try dsimp only [List.set, List.eraseIdx, Value.cells] at w0
  have hn_a_43 := o0.len; rw [enc_len] at hn_a_43; have hle_a_43 := o0.le
  refine pu5 <| nT <| sR ?_
  refine sLA w0 1 0 [.slice b0.inputs.a b0.inputs.n b0.inputs.k, .slice b0.stages.a b0.stages.n b0.stages.k, .slice b0.outputs.a b0.outputs.n b0.outputs.k, I b0.priority] (Try.isAgg28 _) (Try.sizeOf28 _) ?_
  refine sF #[.agg (encJob b0).toArray] Try.call11 (Calls.mono (codec_encode W _ _ [] b0 ⟨(RdT.flat (d0.inputs.up 3 (by rfl))), (fun z hz => (d0.inputsD z hz).of_mem (mem_flat1 3 (by rfl))), (RdT.flat (d0.stages.up 3 (by rfl))), (fun z hz => (d0.stagesD z hz).of_mem (mem_flat1 3 (by rfl))), (RdT.flat (d0.outputs.up 3 (by rfl)))⟩ (Sat.flat w0)) ?_)
  rintro _ _ (⟨h2, _, _, _, t0, rfl, p0, x0⟩ | ⟨h2, rfl, x0⟩)
  ·refine ⟨_, rfl, ?_⟩
   have j0 := Sat.unflat1 x0; clear x0
   try dsimp only [List.set, List.eraseIdx, Value.cells] at j0
   have hn_a_52 := p0.len; rw [enc_len] at hn_a_52; have hle_a_52 := p0.le
   refine pu5 <| nT <| seqE ?_
   refine drawP [8, 10, 14, 18] [(12, ⟨g0, 0, none⟩, .slice a0.inputs.a a0.inputs.n a0.inputs.k), (12, ⟨g0, 1, none⟩, .slice a0.stages.a a0.stages.n a0.stages.k), (12, ⟨g0, 2, none⟩, .slice a0.outputs.a a0.outputs.n a0.outputs.k), (12, ⟨g0, 3, none⟩, I a0.priority), (13, ⟨i0, 0, none⟩, .slice b0.inputs.a b0.inputs.n b0.inputs.k), (13, ⟨i0, 1, none⟩, .slice b0.stages.a b0.stages.n b0.stages.k), (13, ⟨i0, 2, none⟩, .slice b0.outputs.a b0.outputs.n b0.outputs.k), (13, ⟨i0, 3, none⟩, I b0.priority)] (Plan.sts [0, 1, 2, 3, 4, 5, 6, 7, 9] <| Plan.sts [12] <| Plan.sts [13] <| .f3 8 10 14 (.fk 10 14 (Plan.sts [11] <| .ef 14 <| Plan.sts [15] <| Plan.sts [16, 17] <| .ef 18 <| Plan.sts [19] <| Plan.sts [20] <| .fin) (.ef 10 <| Plan.sts [11] <| Plan.sts [15] <| Plan.sts [16, 17] <| .ef 18 <| Plan.sts [19] <| Plan.sts [20] <| .fin)) (.fk 8 14 (Plan.sts [11] <| .ef 14 <| Plan.sts [15] <| Plan.sts [16, 17] <| .ef 18 <| Plan.sts [19] <| Plan.sts [20] <| .fin) (.ef 8 <| Plan.sts [11] <| Plan.sts [15] <| Plan.sts [16, 17] <| .ef 18 <| Plan.sts [19] <| Plan.sts [20] <| .fin)) (.fk 8 10 (.ef 10 <| Plan.sts [11] <| Plan.sts [15] <| Plan.sts [16, 17] <| .ef 18 <| Plan.sts [19] <| Plan.sts [20] <| .fin) (.ef 8 <| Plan.sts [11] <| Plan.sts [15] <| Plan.sts [16, 17] <| .ef 18 <| Plan.sts [19] <| Plan.sts [20] <| .fin))) rfl kr ⟨.inr (j0.cell 5 rfl rfl), .inr (j0.cell 5 rfl rfl), .inr (j0.cell 5 rfl rfl), .inr (j0.cell 5 rfl rfl), .inr (j0.cell 2 rfl rfl), .inr (j0.cell 2 rfl rfl), .inr (j0.cell 2 rfl rfl), .inr (j0.cell 2 rfl rfl), trivial⟩ ?_
   have c0 := j0.drew
   refine qU [0, 1, 2, 3, 4, 5, 6, 7, 9] ?_
   refine qSg (.agg (encJob a0).toArray) rfl rfl rfl ⟨_, rfl, rfl, kr⟩ (fun w hF => Y_loadF rfl (Try.isAgg28 w) (Try.sizeOf28 w) kr rfl ⟨hF 0 _ _ rfl, hF 1 _ _ rfl, hF 2 _ _ rfl, hF 3 _ _ rfl, trivial⟩) ?_
   refine qSg (.agg (encJob b0).toArray) rfl rfl rfl ⟨_, rfl, rfl, kr⟩ (fun w hF => Y_loadF rfl (Try.isAgg28 w) (Try.sizeOf28 w) kr rfl ⟨hF 4 _ _ rfl, hF 5 _ _ rfl, hF 6 _ _ rfl, hF 7 _ _ rfl, trivial⟩) ?_
   refine qF3 ?_ ?_ ?_
   ·refine qO rfl ?_
    refine gY ?_
    refine sBstr c0 ((o0.rdAt 1 rfl)) Try.underlying31 Try.underlying5 Try.underlying9 ?_
    refine nilO ⟨⟨.inr (c0.cell 5 rfl rfl), .inr (c0.cell 5 rfl rfl), .inr (c0.cell 5 rfl rfl), .inr (c0.cell 5 rfl rfl), .inr (c0.cell 2 rfl rfl), .inr (c0.cell 2 rfl rfl), .inr (c0.cell 2 rfl rfl), .inr (c0.cell 2 rfl rfl), trivial⟩, ?_⟩
    refine qF ?_ ?_
    rotate_left
    ·refine qO rfl ?_
     refine gY ?_
     refine sF #[.agg (encJob a0).toArray, .agg (encJob b0).toArray] Try.call12 (Calls.mono (r19_same W _ _ [] a0 b0 ⟨(RdT.flat (e0.inputs.up 4 (by rfl))), (fun z hz => (e0.inputsD z hz).of_mem (mem_flat1 4 (by rfl))), (RdT.flat (e0.stages.up 4 (by rfl))), (fun z hz => (e0.stagesD z hz).of_mem (mem_flat1 4 (by rfl))), (RdT.flat (e0.outputs.up 4 (by rfl)))⟩ ⟨(RdT.flat (d0.inputs.up 4 (by rfl))), (fun z hz => (d0.inputsD z hz).of_mem (mem_flat1 4 (by rfl))), (RdT.flat (d0.stages.up 4 (by rfl))), (fun z hz => (d0.stagesD z hz).of_mem (mem_flat1 4 (by rfl))), (RdT.flat (d0.outputs.up 4 (by rfl)))⟩ (Sat.flat c0)) ?_)
     rintro _ _ ⟨rfl, k1⟩
     refine ⟨_, rfl, ?_⟩
     have y0 := Sat.unflat k1; clear k1
     try dsimp only [List.set, List.eraseIdx, Value.cells] at y0
     refine nilO ⟨dA, ?_⟩
     refine qO rfl ?_
     refine gY ?_
     refine sBstr y0 ((p0.rdAt 0 rfl)) Try.underlying31 Try.underlying5 Try.underlying9 ?_
     refine nilO ⟨dA, ?_⟩
     refine qSg (.bool (decide (([84, 70, 1] ++ bytesOf (nJob a0.v)) = ([84, 70, 1] ++ bytesOf (nJob b0.v))))) rfl rfl rfl ⟨_, rfl, rfl, kr⟩ (fun w _ => Y_streq ([84, 70, 1] ++ bytesOf (nJob a0.v)) ([84, 70, 1] ++ bytesOf (nJob b0.v)) (enc_bytes _) (enc_bytes _) rfl kr kr) ?_
     refine qU [15] <| qU [16, 17] ?_
     have i2 : (decide (([84, 70, 1] ++ bytesOf (nJob a0.v)) = ([84, 70, 1] ++ bytesOf (nJob b0.v)))) = (decide (a0.v = b0.v)) := decide_eq_decide.2 (enc_inj (jobS_wf (jobB_S k0) om) (jobS_wf m0 om))
     refine qFix 44 _ true (show ((decide (([84, 70, 1] ++ bytesOf (nJob a0.v)) = ([84, 70, 1] ++ bytesOf (nJob b0.v)))) == (decide (a0.v = b0.v))) = true from by simpa using i2) ?_
     refine qO rfl ?_
     refine gY ?_
     refine sF #[] Try.call13 (Calls.mono (l19_sane W _ (t0 :: s0 :: [(i0, .cells (encJob b0).toArray 28 (0, 0))] :: [(f0, .cells #[.slice t nt kt, I n0] 46 (0, 0))] :: (l0 ++ h0) :: [(g0, .cells (encJob a0).toArray 28 (0, 0))] :: H :: F) y0) ?_)
     rintro _ _ ⟨rfl, l1⟩
     refine ⟨_, rfl, ?_⟩
     try dsimp only [List.set, List.eraseIdx, Value.cells] at l1
     refine nilO ⟨dA, ?_⟩
     refine qU [19] <| qU [20] ?_
     refine qN ?_
     refine thenK_n <| retE <| retT [.bool true] ?_
     have m1 := (l1.pick 6 rfl)
     try dsimp only [List.set, List.eraseIdx, Value.cells] at m1
     have j2 := m1.dropAt 1 rfl
     have k2 := j2.dropAt 1 rfl
     have l2 := k2.dropAt 1 rfl
     have m2 := l2.dropAt 1 rfl
     have n2 := m2.dropAt 1 rfl
     have o2 := n2.dropAt 1 rfl
     exact ⟨rfl, o2⟩
    refine qO rfl ?_
    refine gY ?_
    refine sBstr c0 ((p0.rdAt 0 rfl)) Try.underlying31 Try.underlying5 Try.underlying9 ?_
    refine nilO ⟨⟨.inr (c0.cell 5 rfl rfl), .inr (c0.cell 5 rfl rfl), .inr (c0.cell 5 rfl rfl), .inr (c0.cell 5 rfl rfl), .inr (c0.cell 2 rfl rfl), .inr (c0.cell 2 rfl rfl), .inr (c0.cell 2 rfl rfl), .inr (c0.cell 2 rfl rfl), trivial⟩, ?_⟩
    refine qSg (.bool (decide (([84, 70, 1] ++ bytesOf (nJob a0.v)) = ([84, 70, 1] ++ bytesOf (nJob b0.v))))) rfl rfl rfl ⟨_, rfl, rfl, kr⟩ (fun w _ => Y_streq ([84, 70, 1] ++ bytesOf (nJob a0.v)) ([84, 70, 1] ++ bytesOf (nJob b0.v)) (enc_bytes _) (enc_bytes _) rfl kr kr) ?_
    refine qO rfl ?_
    refine gY ?_
    refine sF #[.agg (encJob a0).toArray, .agg (encJob b0).toArray] Try.call12 (Calls.mono (r19_same W _ _ [] a0 b0 ⟨(RdT.flat (e0.inputs.up 4 (by rfl))), (fun z hz => (e0.inputsD z hz).of_mem (mem_flat1 4 (by rfl))), (RdT.flat (e0.stages.up 4 (by rfl))), (fun z hz => (e0.stagesD z hz).of_mem (mem_flat1 4 (by rfl))), (RdT.flat (e0.outputs.up 4 (by rfl)))⟩ ⟨(RdT.flat (d0.inputs.up 4 (by rfl))), (fun z hz => (d0.inputsD z hz).of_mem (mem_flat1 4 (by rfl))), (RdT.flat (d0.stages.up 4 (by rfl))), (fun z hz => (d0.stagesD z hz).of_mem (mem_flat1 4 (by rfl))), (RdT.flat (d0.outputs.up 4 (by rfl)))⟩ (Sat.flat c0)) ?_)
    rintro _ _ ⟨rfl, n1⟩
    refine ⟨_, rfl, ?_⟩
    have o1 := Sat.unflat n1; clear n1
    try dsimp only [List.set, List.eraseIdx, Value.cells] at o1
    refine nilO ⟨dA, ?_⟩
    refine qU [15] <| qU [16, 17] ?_
    have p2 : (decide (([84, 70, 1] ++ bytesOf (nJob a0.v)) = ([84, 70, 1] ++ bytesOf (nJob b0.v)))) = (decide (a0.v = b0.v)) := decide_eq_decide.2 (enc_inj (jobS_wf (jobB_S k0) om) (jobS_wf m0 om))
    refine qFix 44 _ true (show ((decide (([84, 70, 1] ++ bytesOf (nJob a0.v)) = ([84, 70, 1] ++ bytesOf (nJob b0.v)))) == (decide (a0.v = b0.v))) = true from by simpa using p2) ?_
    refine qO rfl ?_
    refine gY ?_
    refine sF #[] Try.call13 (Calls.mono (l19_sane W _ (t0 :: s0 :: [(i0, .cells (encJob b0).toArray 28 (0, 0))] :: [(f0, .cells #[.slice t nt kt, I n0] 46 (0, 0))] :: (l0 ++ h0) :: [(g0, .cells (encJob a0).toArray 28 (0, 0))] :: H :: F) o1) ?_)
    rintro _ _ ⟨rfl, p1⟩
    refine ⟨_, rfl, ?_⟩
    try dsimp only [List.set, List.eraseIdx, Value.cells] at p1
    refine nilO ⟨dA, ?_⟩
    refine qU [19] <| qU [20] ?_
    refine qN ?_
    refine thenK_n <| retE <| retT [.bool true] ?_
    have q1 := (p1.pick 6 rfl)
    try dsimp only [List.set, List.eraseIdx, Value.cells] at q1
    have q2 := q1.dropAt 1 rfl
    have r2 := q2.dropAt 1 rfl
    have s2 := r2.dropAt 1 rfl
    have t2 := s2.dropAt 1 rfl
    have u2 := t2.dropAt 1 rfl
    have v2 := u2.dropAt 1 rfl
    exact ⟨rfl, v2⟩
   ·refine qO rfl ?_
    refine gY ?_
    refine sBstr c0 ((p0.rdAt 0 rfl)) Try.underlying31 Try.underlying5 Try.underlying9 ?_
    refine nilO ⟨⟨.inr (c0.cell 5 rfl rfl), .inr (c0.cell 5 rfl rfl), .inr (c0.cell 5 rfl rfl), .inr (c0.cell 5 rfl rfl), .inr (c0.cell 2 rfl rfl), .inr (c0.cell 2 rfl rfl), .inr (c0.cell 2 rfl rfl), .inr (c0.cell 2 rfl rfl), trivial⟩, ?_⟩
    refine qF ?_ ?_
    rotate_left
    ·refine qO rfl ?_
     refine gY ?_
     refine sF #[.agg (encJob a0).toArray, .agg (encJob b0).toArray] Try.call12 (Calls.mono (r19_same W _ _ [] a0 b0 ⟨(RdT.flat (e0.inputs.up 4 (by rfl))), (fun z hz => (e0.inputsD z hz).of_mem (mem_flat1 4 (by rfl))), (RdT.flat (e0.stages.up 4 (by rfl))), (fun z hz => (e0.stagesD z hz).of_mem (mem_flat1 4 (by rfl))), (RdT.flat (e0.outputs.up 4 (by rfl)))⟩ ⟨(RdT.flat (d0.inputs.up 4 (by rfl))), (fun z hz => (d0.inputsD z hz).of_mem (mem_flat1 4 (by rfl))), (RdT.flat (d0.stages.up 4 (by rfl))), (fun z hz => (d0.stagesD z hz).of_mem (mem_flat1 4 (by rfl))), (RdT.flat (d0.outputs.up 4 (by rfl)))⟩ (Sat.flat c0)) ?_)
     rintro _ _ ⟨rfl, r1⟩
     refine ⟨_, rfl, ?_⟩
     have z0 := Sat.unflat r1; clear r1
     try dsimp only [List.set, List.eraseIdx, Value.cells] at z0
     refine nilO ⟨dA, ?_⟩
     refine qO rfl ?_
     refine gY ?_
     refine sBstr z0 ((o0.rdAt 1 rfl)) Try.underlying31 Try.underlying5 Try.underlying9 ?_
     refine nilO ⟨dA, ?_⟩
     refine qSg (.bool (decide (([84, 70, 1] ++ bytesOf (nJob a0.v)) = ([84, 70, 1] ++ bytesOf (nJob b0.v))))) rfl rfl rfl ⟨_, rfl, rfl, kr⟩ (fun w _ => Y_streq ([84, 70, 1] ++ bytesOf (nJob a0.v)) ([84, 70, 1] ++ bytesOf (nJob b0.v)) (enc_bytes _) (enc_bytes _) rfl kr kr) ?_
     refine qU [15] <| qU [16, 17] ?_
     have w2 : (decide (([84, 70, 1] ++ bytesOf (nJob a0.v)) = ([84, 70, 1] ++ bytesOf (nJob b0.v)))) = (decide (a0.v = b0.v)) := decide_eq_decide.2 (enc_inj (jobS_wf (jobB_S k0) om) (jobS_wf m0 om))
     refine qFix 44 _ true (show ((decide (([84, 70, 1] ++ bytesOf (nJob a0.v)) = ([84, 70, 1] ++ bytesOf (nJob b0.v)))) == (decide (a0.v = b0.v))) = true from by simpa using w2) ?_
     refine qO rfl ?_
     refine gY ?_
     refine sF #[] Try.call13 (Calls.mono (l19_sane W _ (t0 :: s0 :: [(i0, .cells (encJob b0).toArray 28 (0, 0))] :: [(f0, .cells #[.slice t nt kt, I n0] 46 (0, 0))] :: (l0 ++ h0) :: [(g0, .cells (encJob a0).toArray 28 (0, 0))] :: H :: F) z0) ?_)
     rintro _ _ ⟨rfl, s1⟩
     refine ⟨_, rfl, ?_⟩
     try dsimp only [List.set, List.eraseIdx, Value.cells] at s1
     refine nilO ⟨dA, ?_⟩
     refine qU [19] <| qU [20] ?_
     refine qN ?_
     refine thenK_n <| retE <| retT [.bool true] ?_
     have t1 := (s1.pick 6 rfl)
     try dsimp only [List.set, List.eraseIdx, Value.cells] at t1
     have x2 := t1.dropAt 1 rfl
     have y2 := x2.dropAt 1 rfl
     have z2 := y2.dropAt 1 rfl
     have a3 := z2.dropAt 1 rfl
     have b3 := a3.dropAt 1 rfl
     have c3 := b3.dropAt 1 rfl
     exact ⟨rfl, c3⟩
    refine qO rfl ?_
    refine gY ?_
    refine sBstr c0 ((o0.rdAt 1 rfl)) Try.underlying31 Try.underlying5 Try.underlying9 ?_
    refine nilO ⟨⟨.inr (c0.cell 5 rfl rfl), .inr (c0.cell 5 rfl rfl), .inr (c0.cell 5 rfl rfl), .inr (c0.cell 5 rfl rfl), .inr (c0.cell 2 rfl rfl), .inr (c0.cell 2 rfl rfl), .inr (c0.cell 2 rfl rfl), .inr (c0.cell 2 rfl rfl), trivial⟩, ?_⟩
    refine qSg (.bool (decide (([84, 70, 1] ++ bytesOf (nJob a0.v)) = ([84, 70, 1] ++ bytesOf (nJob b0.v))))) rfl rfl rfl ⟨_, rfl, rfl, kr⟩ (fun w _ => Y_streq ([84, 70, 1] ++ bytesOf (nJob a0.v)) ([84, 70, 1] ++ bytesOf (nJob b0.v)) (enc_bytes _) (enc_bytes _) rfl kr kr) ?_
    refine qO rfl ?_
    refine gY ?_
    refine sF #[.agg (encJob a0).toArray, .agg (encJob b0).toArray] Try.call12 (Calls.mono (r19_same W _ _ [] a0 b0 ⟨(RdT.flat (e0.inputs.up 4 (by rfl))), (fun z hz => (e0.inputsD z hz).of_mem (mem_flat1 4 (by rfl))), (RdT.flat (e0.stages.up 4 (by rfl))), (fun z hz => (e0.stagesD z hz).of_mem (mem_flat1 4 (by rfl))), (RdT.flat (e0.outputs.up 4 (by rfl)))⟩ ⟨(RdT.flat (d0.inputs.up 4 (by rfl))), (fun z hz => (d0.inputsD z hz).of_mem (mem_flat1 4 (by rfl))), (RdT.flat (d0.stages.up 4 (by rfl))), (fun z hz => (d0.stagesD z hz).of_mem (mem_flat1 4 (by rfl))), (RdT.flat (d0.outputs.up 4 (by rfl)))⟩ (Sat.flat c0)) ?_)
    rintro _ _ ⟨rfl, u1⟩
    refine ⟨_, rfl, ?_⟩
    have v1 := Sat.unflat u1; clear u1
    try dsimp only [List.set, List.eraseIdx, Value.cells] at v1
    refine nilO ⟨dA, ?_⟩
    refine qU [15] <| qU [16, 17] ?_
    have d3 : (decide (([84, 70, 1] ++ bytesOf (nJob a0.v)) = ([84, 70, 1] ++ bytesOf (nJob b0.v)))) = (decide (a0.v = b0.v)) := decide_eq_decide.2 (enc_inj (jobS_wf (jobB_S k0) om) (jobS_wf m0 om))
    refine qFix 44 _ true (show ((decide (([84, 70, 1] ++ bytesOf (nJob a0.v)) = ([84, 70, 1] ++ bytesOf (nJob b0.v)))) == (decide (a0.v = b0.v))) = true from by simpa using d3) ?_
    refine qO rfl ?_
    refine gY ?_
    refine sF #[] Try.call13 (Calls.mono (l19_sane W _ (t0 :: s0 :: [(i0, .cells (encJob b0).toArray 28 (0, 0))] :: [(f0, .cells #[.slice t nt kt, I n0] 46 (0, 0))] :: (l0 ++ h0) :: [(g0, .cells (encJob a0).toArray 28 (0, 0))] :: H :: F) v1) ?_)
    rintro _ _ ⟨rfl, w1⟩
    refine ⟨_, rfl, ?_⟩
    try dsimp only [List.set, List.eraseIdx, Value.cells] at w1
    refine nilO ⟨dA, ?_⟩
    refine qU [19] <| qU [20] ?_
    refine qN ?_
    refine thenK_n <| retE <| retT [.bool true] ?_
    have x1 := (w1.pick 6 rfl)
    try dsimp only [List.set, List.eraseIdx, Value.cells] at x1
    have e3 := x1.dropAt 1 rfl
    have g3 := e3.dropAt 1 rfl
    have h3 := g3.dropAt 1 rfl
    have i3 := h3.dropAt 1 rfl
    have j3 := i3.dropAt 1 rfl
    have k3 := j3.dropAt 1 rfl
    exact ⟨rfl, k3⟩
   refine qO rfl ?_
   refine gY ?_
   refine sF #[.agg (encJob a0).toArray, .agg (encJob b0).toArray] Try.call12 (Calls.mono (r19_same W _ _ [] a0 b0 ⟨(RdT.flat (e0.inputs.up 4 (by rfl))), (fun z hz => (e0.inputsD z hz).of_mem (mem_flat1 4 (by rfl))), (RdT.flat (e0.stages.up 4 (by rfl))), (fun z hz => (e0.stagesD z hz).of_mem (mem_flat1 4 (by rfl))), (RdT.flat (e0.outputs.up 4 (by rfl)))⟩ ⟨(RdT.flat (d0.inputs.up 4 (by rfl))), (fun z hz => (d0.inputsD z hz).of_mem (mem_flat1 4 (by rfl))), (RdT.flat (d0.stages.up 4 (by rfl))), (fun z hz => (d0.stagesD z hz).of_mem (mem_flat1 4 (by rfl))), (RdT.flat (d0.outputs.up 4 (by rfl)))⟩ (Sat.flat c0)) ?_)
   rintro _ _ ⟨rfl, y1⟩
   refine ⟨_, rfl, ?_⟩
   have q0 := Sat.unflat y1; clear y1
   try dsimp only [List.set, List.eraseIdx, Value.cells] at q0
   refine nilO ⟨dA, ?_⟩
   refine qF ?_ ?_
   rotate_left
   ·refine qO rfl ?_
    refine gY ?_
    refine sBstr q0 ((p0.rdAt 0 rfl)) Try.underlying31 Try.underlying5 Try.underlying9 ?_
    refine nilO ⟨dA, ?_⟩
    refine qO rfl ?_
    refine gY ?_
    refine sBstr q0 ((o0.rdAt 1 rfl)) Try.underlying31 Try.underlying5 Try.underlying9 ?_
    refine nilO ⟨dA, ?_⟩
    refine qSg (.bool (decide (([84, 70, 1] ++ bytesOf (nJob a0.v)) = ([84, 70, 1] ++ bytesOf (nJob b0.v))))) rfl rfl rfl ⟨_, rfl, rfl, kr⟩ (fun w _ => Y_streq ([84, 70, 1] ++ bytesOf (nJob a0.v)) ([84, 70, 1] ++ bytesOf (nJob b0.v)) (enc_bytes _) (enc_bytes _) rfl kr kr) ?_
    refine qU [15] <| qU [16, 17] ?_
    have l3 : (decide (([84, 70, 1] ++ bytesOf (nJob a0.v)) = ([84, 70, 1] ++ bytesOf (nJob b0.v)))) = (decide (a0.v = b0.v)) := decide_eq_decide.2 (enc_inj (jobS_wf (jobB_S k0) om) (jobS_wf m0 om))
    refine qFix 44 _ true (show ((decide (([84, 70, 1] ++ bytesOf (nJob a0.v)) = ([84, 70, 1] ++ bytesOf (nJob b0.v)))) == (decide (a0.v = b0.v))) = true from by simpa using l3) ?_
    refine qO rfl ?_
    refine gY ?_
    refine sF #[] Try.call13 (Calls.mono (l19_sane W _ (t0 :: s0 :: [(i0, .cells (encJob b0).toArray 28 (0, 0))] :: [(f0, .cells #[.slice t nt kt, I n0] 46 (0, 0))] :: (l0 ++ h0) :: [(g0, .cells (encJob a0).toArray 28 (0, 0))] :: H :: F) q0) ?_)
    rintro _ _ ⟨rfl, z1⟩
    refine ⟨_, rfl, ?_⟩
    try dsimp only [List.set, List.eraseIdx, Value.cells] at z1
    refine nilO ⟨dA, ?_⟩
    refine qU [19] <| qU [20] ?_
    refine qN ?_
    refine thenK_n <| retE <| retT [.bool true] ?_
    have a2 := (z1.pick 6 rfl)
    try dsimp only [List.set, List.eraseIdx, Value.cells] at a2
    have m3 := a2.dropAt 1 rfl
    have n3 := m3.dropAt 1 rfl
    have o3 := n3.dropAt 1 rfl
    have p3 := o3.dropAt 1 rfl
    have q3 := p3.dropAt 1 rfl
    have r3 := q3.dropAt 1 rfl
    exact ⟨rfl, r3⟩
   refine qO rfl ?_
   refine gY ?_
   refine sBstr q0 ((o0.rdAt 1 rfl)) Try.underlying31 Try.underlying5 Try.underlying9 ?_
   refine nilO ⟨dA, ?_⟩
   refine qO rfl ?_
   refine gY ?_
   refine sBstr q0 ((p0.rdAt 0 rfl)) Try.underlying31 Try.underlying5 Try.underlying9 ?_
   refine nilO ⟨dA, ?_⟩
   refine qSg (.bool (decide (([84, 70, 1] ++ bytesOf (nJob a0.v)) = ([84, 70, 1] ++ bytesOf (nJob b0.v))))) rfl rfl rfl ⟨_, rfl, rfl, kr⟩ (fun w _ => Y_streq ([84, 70, 1] ++ bytesOf (nJob a0.v)) ([84, 70, 1] ++ bytesOf (nJob b0.v)) (enc_bytes _) (enc_bytes _) rfl kr kr) ?_
   refine qU [15] <| qU [16, 17] ?_
   have s3 : (decide (([84, 70, 1] ++ bytesOf (nJob a0.v)) = ([84, 70, 1] ++ bytesOf (nJob b0.v)))) = (decide (a0.v = b0.v)) := decide_eq_decide.2 (enc_inj (jobS_wf (jobB_S k0) om) (jobS_wf m0 om))
   refine qFix 44 _ true (show ((decide (([84, 70, 1] ++ bytesOf (nJob a0.v)) = ([84, 70, 1] ++ bytesOf (nJob b0.v)))) == (decide (a0.v = b0.v))) = true from by simpa using s3) ?_
   refine qO rfl ?_
   refine gY ?_
   refine sF #[] Try.call13 (Calls.mono (l19_sane W _ (t0 :: s0 :: [(i0, .cells (encJob b0).toArray 28 (0, 0))] :: [(f0, .cells #[.slice t nt kt, I n0] 46 (0, 0))] :: (l0 ++ h0) :: [(g0, .cells (encJob a0).toArray 28 (0, 0))] :: H :: F) q0) ?_)
   rintro _ _ ⟨rfl, b2⟩
   refine ⟨_, rfl, ?_⟩
   try dsimp only [List.set, List.eraseIdx, Value.cells] at b2
   refine nilO ⟨dA, ?_⟩
   refine qU [19] <| qU [20] ?_
   refine qN ?_
   refine thenK_n <| retE <| retT [.bool true] ?_
   have c2 := (b2.pick 6 rfl)
   try dsimp only [List.set, List.eraseIdx, Value.cells] at c2
   have t3 := c2.dropAt 1 rfl
   have u3 := t3.dropAt 1 rfl
   have v3 := u3.dropAt 1 rfl
   have w3 := v3.dropAt 1 rfl
   have x3 := w3.dropAt 1 rfl
   have y3 := x3.dropAt 1 rfl
   exact ⟨rfl, y3⟩
  ·exfalso; have hbd := nJob_bd m0 om; omega
 ·exfalso; have hbd := nJob_bd (jobB_S k0) om; omega
end Go.Proofs.Ytcddcpaodcjecaa
