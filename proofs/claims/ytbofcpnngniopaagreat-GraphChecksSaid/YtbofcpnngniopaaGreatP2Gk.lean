import Derived.Test.YtbofcpnngniopaaGreatP2SpoilJ
namespace Go.Proofs.YtbofcpnngniopaaGreat
open Go Go.E
set_option linter.unusedVariables false
set_option linter.unusedSimpArgs false
set_option linter.unnecessarySimpa false
set_option maxRecDepth 100000
set_option maxHeartbeats 2000000
variable {W w : World} {H : Chunk} {F : List Chunk}
-- squeezed
theorem l17_checks (W w : World) (H : Chunk) (F : List Chunk) (t : Option Addr) (nt kt : Nat) (xt : List Int) (ht : RdT encI 1 [H] t nt kt xt) (hS : Sat W w (H :: F)) :
  Calls Tryz.prog 4 #[.slice t nt kt] w fun e w' => e = .returned (.bool true) ∧ Sat W w' (H :: F) := by
 have hlt := ht.le
 refine callsA 34 Tryz.func4 rfl ?_
 refine sR <| pu1 <| nT <| sR <| pu1 ?_
 refine cX Tryz.call6 (tape_new t nt kt hS) ?_
 rintro _ _ ⟨h0, rfl, o2⟩
 have d5 := ht.le
 refine pu1 <| nT <| seqE <| sR <| pu1 <| nT <| blockE ?_
 refine loopN 4 ?_
 refine roundS ?_
 refine seqE <| sR <| pu2 <| nT <| cTt <| kT <| seqE <| blockE <| sR <| pu1 ?_
 refine cX Tryz.call7 (tg_job (RdT.flat (ht.up 0 (by rfl))) om (Sat.flat1 o2) 4 om) ?_
 rintro _ _ ⟨a0, d0, rfl, r0, f1, _, _, _, _, p2⟩
 have q2 := Sat.unflat2 p2
 have k5 : a0.inputs.n ≤ 1000000 ∧ a0.stages.n ≤ 1000000 ∧ a0.outputs.n ≤ 1000000 := by have h1 := (r0).inputs.len; have h2 := (r0).stages.len; have h3 := (r0).outputs.len; have h4 := ((jobB_S f1)).1.1; have h5 := ((jobB_S f1)).2.1.1; have h6 := ((jobB_S f1)).2.2.1.1; omega
 refine sAlloc q2 Tryz.zeroValue28 ?_
 intro i0 _ r2
 refine sT r2 0 0 (.agg (encJob a0).toArray) (encJob a0) (encJob a0).toArray Tryz.sizeOf28 ?_
 intro _ u1
 refine nT <| sR <| pu1 ?_
 refine lA u1 0 0 4 (Tryz.isAgg28 _) (Tryz.sizeOf28 _) ?_
 have s2 := (u1.pick 1 rfl)
 have t2 := (s2.picks [2, 1])
 refine cX Tryz.call13 (tg_spoilJob (RdT.flat (ht.up 1 (by rfl))) om (Sat.flat2 t2) a0 ⟨r0.inputs, r0.inputsD, r0.stages, r0.stagesD, r0.outputs⟩ 0 om (jobB_S f1)) ?_
 rintro _ _ ⟨c0, e0, rfl, s0, o1, v1, _, u2⟩
 have v2 := Sat.unflat3 u2
 have w2 := (v2.picks [2, 2, 2])
 have x2 : Sat W _ ([(h0, .cells #[.slice t nt kt, I v1] 59 (0, 0))] :: (e0 ++ d0) :: [(i0, .cells (encJob a0).toArray 28 (0, 0))] :: H :: F) := Sat.perm (show Sat W _ ([(h0, .cells #[.slice t nt kt, I v1] 59 (0, 0))] :: e0 :: d0 :: [(i0, .cells (encJob a0).toArray 28 (0, 0))] :: H :: F) from w2) (by simp [Value.cells])
 have k0 : Job.Ok [(e0 ++ d0)] a0 := r0.of_mem mS
 have p5 : c0.inputs.n ≤ 1000000 ∧ c0.stages.n ≤ 1000000 ∧ c0.outputs.n ≤ 1000000 := by have h1 := (s0).inputs.len; have h2 := (s0).stages.len; have h3 := (s0).outputs.len; have h4 := (o1).1.1; have h5 := (o1).2.1.1; have h6 := (o1).2.2.1.1; omega
 refine sAlloc x2 Tryz.zeroValue28 ?_
 intro p0 _ y2
 refine sT y2 0 0 (.agg (encJob c0).toArray) (encJob c0) (encJob c0).toArray Tryz.sizeOf28 ?_
 intro _ w1
 refine nT <| sR ?_
 refine lA w1 3 0 4 (Tryz.isAgg28 _) (Tryz.sizeOf28 _) ?_
 refine cR Tryz.call14 (l17_agrees a0 ⟨(RdT.flat (k0.inputs.up 2 (by rfl))), (fun z hz => (k0.inputsD z hz).of_mem (mem_flat1 2 (by rfl))), (RdT.flat (k0.stages.up 2 (by rfl))), (fun z hz => (k0.stagesD z hz).of_mem (mem_flat1 2 (by rfl))), (RdT.flat (k0.outputs.up 2 (by rfl)))⟩ (od) (Sat.flat w1)) ?_
 intro _ x1
 refine pu2 <| gY ?_
 refine lA x1 0 0 4 (Tryz.isAgg28 _) (Tryz.sizeOf28 _) ?_
 refine gY ?_
 refine cR Tryz.call14 (l17_agrees c0 ⟨(RdT.flat (s0.inputs.up 2 (by rfl))), (fun z hz => (s0.inputsD z hz).of_mem (mem_flat1 2 (by rfl))), (RdT.flat (s0.stages.up 2 (by rfl))), (fun z hz => (s0.stagesD z hz).of_mem (mem_flat1 2 (by rfl))), (RdT.flat (s0.outputs.up 2 (by rfl)))⟩ (od) (Sat.flat x1)) ?_
 intro _ y1
 refine pu4 <| gY ?_
 refine lA y1 3 0 4 (Tryz.isAgg28 _) (Tryz.sizeOf28 _) ?_
 refine gY ?_
 have z2 := (y1.pick 1 rfl)
 have a3 := (z2.picks [2, 1])
 refine cX Tryz.call13 (tg_spoilJob (RdT.flat (ht.up 2 (by rfl))) om (Sat.flat2 a3) a0 ⟨k0.inputs, k0.inputsD, k0.stages, k0.stagesD, k0.outputs⟩ 0 om (jobB_S f1)) ?_
 rintro _ _ ⟨j1, j0, rfl, x0, p1, z1, _, b3⟩
 have c3 := Sat.unflat3 b3
 have d3 := (c3.picks [2, 2, 2])
 have e3 : Sat W _ ([(h0, .cells #[.slice t nt kt, I z1] 59 (0, 0))] :: (j0 ++ (e0 ++ d0)) :: [(p0, .cells (encJob c0).toArray 28 (0, 0))] :: [(i0, .cells (encJob a0).toArray 28 (0, 0))] :: H :: F) := Sat.perm (show Sat W _ ([(h0, .cells #[.slice t nt kt, I z1] 59 (0, 0))] :: j0 :: (e0 ++ d0) :: [(p0, .cells (encJob c0).toArray 28 (0, 0))] :: [(i0, .cells (encJob a0).toArray 28 (0, 0))] :: H :: F) from d3) (by simp [Value.cells])
 have w5 : Job.Ok [(j0 ++ (e0 ++ d0))] a0 := k0.of_mem mS
 have x5 : Job.Ok [(j0 ++ (e0 ++ d0))] c0 := s0.of_mem mS
 have y5 : j1.inputs.n ≤ 1000000 ∧ j1.stages.n ≤ 1000000 ∧ j1.outputs.n ≤ 1000000 := by have h1 := (x0).inputs.len; have h2 := (x0).stages.len; have h3 := (x0).outputs.len; have h4 := (p1).1.1; have h5 := (p1).2.1.1; have h6 := (p1).2.2.1.1; omega
 refine gY ?_
 refine cR Tryz.call14 (l17_agrees j1 ⟨(RdT.flat (x0.inputs.up 1 (by rfl))), (fun z hz => (x0.inputsD z hz).of_mem (mem_flat1 1 (by rfl))), (RdT.flat (x0.stages.up 1 (by rfl))), (fun z hz => (x0.stagesD z hz).of_mem (mem_flat1 1 (by rfl))), (RdT.flat (x0.outputs.up 1 (by rfl)))⟩ (od) (Sat.flat e3)) ?_
 intro _ f3
 refine pu2 <| nT <| cFf <| skipE <| blockK_n <| thenK_n <| regionE <| pu3 <| nT ?_
 refine roundS ?_
 refine seqE <| sR <| pu2 <| nT <| cTt <| kT <| seqE <| blockE <| sR <| pu1 ?_
 refine cX Tryz.call7 (tg_job (RdT.flat (ht.up 3 (by rfl))) om (Sat.flat1 f3) 4 om) ?_
 rintro _ _ ⟨b0, l0, rfl, t0, g1, _, _, _, _, g3⟩
 have i3 := Sat.unflat2 g3
 have f6 : b0.inputs.n ≤ 1000000 ∧ b0.stages.n ≤ 1000000 ∧ b0.outputs.n ≤ 1000000 := by have h1 := (t0).inputs.len; have h2 := (t0).stages.len; have h3 := (t0).outputs.len; have h4 := ((jobB_S g1)).1.1; have h5 := ((jobB_S g1)).2.1.1; have h6 := ((jobB_S g1)).2.2.1.1; omega
 refine sAlloc i3 Tryz.zeroValue28 ?_
 intro y0 _ j3
 refine sT j3 0 0 (.agg (encJob b0).toArray) (encJob b0) (encJob b0).toArray Tryz.sizeOf28 ?_
 intro _ a2
 refine nT <| sR <| pu1 ?_
 refine lA a2 0 0 4 (Tryz.isAgg28 _) (Tryz.sizeOf28 _) ?_
 have k3 := (a2.pick 1 rfl)
 have l3 := (k3.picks [2, 1])
 refine cX Tryz.call13 (tg_spoilJob (RdT.flat (ht.up 4 (by rfl))) om (Sat.flat2 l3) b0 ⟨t0.inputs, t0.inputsD, t0.stages, t0.stagesD, t0.outputs⟩ 0 om (jobB_S g1)) ?_
 rintro _ _ ⟨g0, m0, rfl, u0, q1, b2, _, m3⟩
 have n3 := Sat.unflat3 m3
 have o3 := (n3.picks [2, 2, 2])
 have p3 : Sat W _ ([(h0, .cells #[.slice t nt kt, I b2] 59 (0, 0))] :: (m0 ++ l0) :: [(y0, .cells (encJob b0).toArray 28 (0, 0))] :: (j0 ++ (e0 ++ d0)) :: [(p0, .cells (encJob c0).toArray 28 (0, 0))] :: [(i0, .cells (encJob a0).toArray 28 (0, 0))] :: H :: F) := Sat.perm (show Sat W _ ([(h0, .cells #[.slice t nt kt, I b2] 59 (0, 0))] :: m0 :: l0 :: [(y0, .cells (encJob b0).toArray 28 (0, 0))] :: (j0 ++ (e0 ++ d0)) :: [(p0, .cells (encJob c0).toArray 28 (0, 0))] :: [(i0, .cells (encJob a0).toArray 28 (0, 0))] :: H :: F) from o3) (by simp [Value.cells])
 have n0 : Job.Ok [(m0 ++ l0)] b0 := t0.of_mem mS
 have l6 : g0.inputs.n ≤ 1000000 ∧ g0.stages.n ≤ 1000000 ∧ g0.outputs.n ≤ 1000000 := by have h1 := (u0).inputs.len; have h2 := (u0).stages.len; have h3 := (u0).outputs.len; have h4 := (q1).1.1; have h5 := (q1).2.1.1; have h6 := (q1).2.2.1.1; omega
 refine sAlloc p3 Tryz.zeroValue28 ?_
 intro e1 _ q3
 refine sT q3 0 0 (.agg (encJob g0).toArray) (encJob g0) (encJob g0).toArray Tryz.sizeOf28 ?_
 intro _ c2
 refine nT <| sR ?_
 refine lA c2 3 0 4 (Tryz.isAgg28 _) (Tryz.sizeOf28 _) ?_
 refine cR Tryz.call14 (l17_agrees b0 ⟨(RdT.flat (n0.inputs.up 2 (by rfl))), (fun z hz => (n0.inputsD z hz).of_mem (mem_flat1 2 (by rfl))), (RdT.flat (n0.stages.up 2 (by rfl))), (fun z hz => (n0.stagesD z hz).of_mem (mem_flat1 2 (by rfl))), (RdT.flat (n0.outputs.up 2 (by rfl)))⟩ (od) (Sat.flat c2)) ?_
 intro _ d2
 refine pu2 <| gY ?_
 refine lA d2 0 0 4 (Tryz.isAgg28 _) (Tryz.sizeOf28 _) ?_
 refine gY ?_
 refine cR Tryz.call14 (l17_agrees g0 ⟨(RdT.flat (u0.inputs.up 2 (by rfl))), (fun z hz => (u0.inputsD z hz).of_mem (mem_flat1 2 (by rfl))), (RdT.flat (u0.stages.up 2 (by rfl))), (fun z hz => (u0.stagesD z hz).of_mem (mem_flat1 2 (by rfl))), (RdT.flat (u0.outputs.up 2 (by rfl)))⟩ (od) (Sat.flat d2)) ?_
 intro _ e2
 refine pu4 <| gY ?_
 refine lA e2 3 0 4 (Tryz.isAgg28 _) (Tryz.sizeOf28 _) ?_
 refine gY ?_
 have r3 := (e2.pick 1 rfl)
 have s3 := (r3.picks [2, 1])
 refine cX Tryz.call13 (tg_spoilJob (RdT.flat (ht.up 5 (by rfl))) om (Sat.flat2 s3) b0 ⟨n0.inputs, n0.inputsD, n0.stages, n0.stagesD, n0.outputs⟩ 0 om (jobB_S g1)) ?_
 rintro _ _ ⟨k1, z0, rfl, a1, r1, f2, _, t3⟩
 have u3 := Sat.unflat3 t3
 have v3 := (u3.picks [2, 2, 2])
 have w3 : Sat W _ ([(h0, .cells #[.slice t nt kt, I f2] 59 (0, 0))] :: (z0 ++ (m0 ++ l0)) :: [(e1, .cells (encJob g0).toArray 28 (0, 0))] :: [(y0, .cells (encJob b0).toArray 28 (0, 0))] :: (j0 ++ (e0 ++ d0)) :: [(p0, .cells (encJob c0).toArray 28 (0, 0))] :: [(i0, .cells (encJob a0).toArray 28 (0, 0))] :: H :: F) := Sat.perm (show Sat W _ ([(h0, .cells #[.slice t nt kt, I f2] 59 (0, 0))] :: z0 :: (m0 ++ l0) :: [(e1, .cells (encJob g0).toArray 28 (0, 0))] :: [(y0, .cells (encJob b0).toArray 28 (0, 0))] :: (j0 ++ (e0 ++ d0)) :: [(p0, .cells (encJob c0).toArray 28 (0, 0))] :: [(i0, .cells (encJob a0).toArray 28 (0, 0))] :: H :: F) from v3) (by simp [Value.cells])
 have s6 : Job.Ok [(z0 ++ (m0 ++ l0))] b0 := n0.of_mem mS
 have t6 : Job.Ok [(z0 ++ (m0 ++ l0))] g0 := u0.of_mem mS
 have u6 : k1.inputs.n ≤ 1000000 ∧ k1.stages.n ≤ 1000000 ∧ k1.outputs.n ≤ 1000000 := by have h1 := (a1).inputs.len; have h2 := (a1).stages.len; have h3 := (a1).outputs.len; have h4 := (r1).1.1; have h5 := (r1).2.1.1; have h6 := (r1).2.2.1.1; omega
 refine gY ?_
 refine cR Tryz.call14 (l17_agrees k1 ⟨(RdT.flat (a1.inputs.up 1 (by rfl))), (fun z hz => (a1.inputsD z hz).of_mem (mem_flat1 1 (by rfl))), (RdT.flat (a1.stages.up 1 (by rfl))), (fun z hz => (a1.stagesD z hz).of_mem (mem_flat1 1 (by rfl))), (RdT.flat (a1.outputs.up 1 (by rfl)))⟩ (od) (Sat.flat w3)) ?_
 intro _ x3
 refine pu2 <| nT <| cFf <| skipE <| blockK_n <| thenK_n <| regionE <| pu3 <| nT ?_
 refine roundS ?_
 refine seqE <| sR <| pu2 <| nT <| cTt <| kT <| seqE <| blockE <| sR <| pu1 ?_
 refine cX Tryz.call7 (tg_job (RdT.flat (ht.up 6 (by rfl))) om (Sat.flat1 x3) 4 om) ?_
 rintro _ _ ⟨f0, c1, rfl, v0, i1, _, _, _, _, y3⟩
 have z3 := Sat.unflat2 y3
 have b7 : f0.inputs.n ≤ 1000000 ∧ f0.stages.n ≤ 1000000 ∧ f0.outputs.n ≤ 1000000 := by have h1 := (v0).inputs.len; have h2 := (v0).stages.len; have h3 := (v0).outputs.len; have h4 := ((jobB_S i1)).1.1; have h5 := ((jobB_S i1)).2.1.1; have h6 := ((jobB_S i1)).2.2.1.1; omega
 refine sAlloc z3 Tryz.zeroValue28 ?_
 intro l1 _ a4
 refine sT a4 0 0 (.agg (encJob f0).toArray) (encJob f0) (encJob f0).toArray Tryz.sizeOf28 ?_
 intro _ g2
 refine nT <| sR <| pu1 ?_
 refine lA g2 0 0 4 (Tryz.isAgg28 _) (Tryz.sizeOf28 _) ?_
 have b4 := (g2.pick 1 rfl)
 have c4 := (b4.picks [2, 1])
 refine cX Tryz.call13 (tg_spoilJob (RdT.flat (ht.up 7 (by rfl))) om (Sat.flat2 c4) f0 ⟨v0.inputs, v0.inputsD, v0.stages, v0.stagesD, v0.outputs⟩ 0 om (jobB_S i1)) ?_
 rintro _ _ ⟨q0, d1, rfl, w0, s1, i2, _, d4⟩
 have e4 := Sat.unflat3 d4
 have f4 := (e4.picks [2, 2, 2])
 have g4 : Sat W _ ([(h0, .cells #[.slice t nt kt, I i2] 59 (0, 0))] :: (d1 ++ c1) :: [(l1, .cells (encJob f0).toArray 28 (0, 0))] :: (z0 ++ (m0 ++ l0)) :: [(e1, .cells (encJob g0).toArray 28 (0, 0))] :: [(y0, .cells (encJob b0).toArray 28 (0, 0))] :: (j0 ++ (e0 ++ d0)) :: [(p0, .cells (encJob c0).toArray 28 (0, 0))] :: [(i0, .cells (encJob a0).toArray 28 (0, 0))] :: H :: F) := Sat.perm (show Sat W _ ([(h0, .cells #[.slice t nt kt, I i2] 59 (0, 0))] :: d1 :: c1 :: [(l1, .cells (encJob f0).toArray 28 (0, 0))] :: (z0 ++ (m0 ++ l0)) :: [(e1, .cells (encJob g0).toArray 28 (0, 0))] :: [(y0, .cells (encJob b0).toArray 28 (0, 0))] :: (j0 ++ (e0 ++ d0)) :: [(p0, .cells (encJob c0).toArray 28 (0, 0))] :: [(i0, .cells (encJob a0).toArray 28 (0, 0))] :: H :: F) from f4) (by simp [Value.cells])
 have o0 : Job.Ok [(d1 ++ c1)] f0 := v0.of_mem mS
 have g7 : q0.inputs.n ≤ 1000000 ∧ q0.stages.n ≤ 1000000 ∧ q0.outputs.n ≤ 1000000 := by have h1 := (w0).inputs.len; have h2 := (w0).stages.len; have h3 := (w0).outputs.len; have h4 := (s1).1.1; have h5 := (s1).2.1.1; have h6 := (s1).2.2.1.1; omega
 refine sAlloc g4 Tryz.zeroValue28 ?_
 intro j2 _ i4
 refine sT i4 0 0 (.agg (encJob q0).toArray) (encJob q0) (encJob q0).toArray Tryz.sizeOf28 ?_
 intro _ k2
 refine nT <| sR ?_
 refine lA k2 3 0 4 (Tryz.isAgg28 _) (Tryz.sizeOf28 _) ?_
 refine cR Tryz.call14 (l17_agrees f0 ⟨(RdT.flat (o0.inputs.up 2 (by rfl))), (fun z hz => (o0.inputsD z hz).of_mem (mem_flat1 2 (by rfl))), (RdT.flat (o0.stages.up 2 (by rfl))), (fun z hz => (o0.stagesD z hz).of_mem (mem_flat1 2 (by rfl))), (RdT.flat (o0.outputs.up 2 (by rfl)))⟩ (od) (Sat.flat k2)) ?_
 intro _ l2
 refine pu2 <| gY ?_
 refine lA l2 0 0 4 (Tryz.isAgg28 _) (Tryz.sizeOf28 _) ?_
 refine gY ?_
 refine cR Tryz.call14 (l17_agrees q0 ⟨(RdT.flat (w0.inputs.up 2 (by rfl))), (fun z hz => (w0.inputsD z hz).of_mem (mem_flat1 2 (by rfl))), (RdT.flat (w0.stages.up 2 (by rfl))), (fun z hz => (w0.stagesD z hz).of_mem (mem_flat1 2 (by rfl))), (RdT.flat (w0.outputs.up 2 (by rfl)))⟩ (od) (Sat.flat l2)) ?_
 intro _ m2
 refine pu4 <| gY ?_
 refine lA m2 3 0 4 (Tryz.isAgg28 _) (Tryz.sizeOf28 _) ?_
 refine gY ?_
 have j4 := (m2.pick 1 rfl)
 have k4 := (j4.picks [2, 1])
 refine cX Tryz.call13 (tg_spoilJob (RdT.flat (ht.up 8 (by rfl))) om (Sat.flat2 k4) f0 ⟨o0.inputs, o0.inputsD, o0.stages, o0.stagesD, o0.outputs⟩ 0 om (jobB_S i1)) ?_
 rintro _ _ ⟨m1, n1, rfl, b1, t1, n2, _, l4⟩
 have m4 := Sat.unflat3 l4
 have n4 := (m4.picks [2, 2, 2])
 have o4 : Sat W _ ([(h0, .cells #[.slice t nt kt, I n2] 59 (0, 0))] :: (n1 ++ (d1 ++ c1)) :: [(j2, .cells (encJob q0).toArray 28 (0, 0))] :: [(l1, .cells (encJob f0).toArray 28 (0, 0))] :: (z0 ++ (m0 ++ l0)) :: [(e1, .cells (encJob g0).toArray 28 (0, 0))] :: [(y0, .cells (encJob b0).toArray 28 (0, 0))] :: (j0 ++ (e0 ++ d0)) :: [(p0, .cells (encJob c0).toArray 28 (0, 0))] :: [(i0, .cells (encJob a0).toArray 28 (0, 0))] :: H :: F) := Sat.perm (show Sat W _ ([(h0, .cells #[.slice t nt kt, I n2] 59 (0, 0))] :: n1 :: (d1 ++ c1) :: [(j2, .cells (encJob q0).toArray 28 (0, 0))] :: [(l1, .cells (encJob f0).toArray 28 (0, 0))] :: (z0 ++ (m0 ++ l0)) :: [(e1, .cells (encJob g0).toArray 28 (0, 0))] :: [(y0, .cells (encJob b0).toArray 28 (0, 0))] :: (j0 ++ (e0 ++ d0)) :: [(p0, .cells (encJob c0).toArray 28 (0, 0))] :: [(i0, .cells (encJob a0).toArray 28 (0, 0))] :: H :: F) from n4) (by simp [Value.cells])
 have n7 : Job.Ok [(n1 ++ (d1 ++ c1))] f0 := o0.of_mem mS
 have o7 : Job.Ok [(n1 ++ (d1 ++ c1))] q0 := w0.of_mem mS
 have p7 : m1.inputs.n ≤ 1000000 ∧ m1.stages.n ≤ 1000000 ∧ m1.outputs.n ≤ 1000000 := by have h1 := (b1).inputs.len; have h2 := (b1).stages.len; have h3 := (b1).outputs.len; have h4 := (t1).1.1; have h5 := (t1).2.1.1; have h6 := (t1).2.2.1.1; omega
 refine gY ?_
 refine cR Tryz.call14 (l17_agrees m1 ⟨(RdT.flat (b1.inputs.up 1 (by rfl))), (fun z hz => (b1.inputsD z hz).of_mem (mem_flat1 1 (by rfl))), (RdT.flat (b1.stages.up 1 (by rfl))), (fun z hz => (b1.stagesD z hz).of_mem (mem_flat1 1 (by rfl))), (RdT.flat (b1.outputs.up 1 (by rfl)))⟩ (od) (Sat.flat o4)) ?_
 intro _ p4
 refine pu2 <| nT <| cFf <| skipE <| blockK_n <| thenK_n <| regionE <| pu3 <| nT ?_
 refine roundS ?_
 refine seqE <| sR <| pu2 <| nT <| cFf <| exitE <| xB <| thenK_n <| sR ?_
 refine cR Tryz.call12 (l17_sane  (Sat.flat p4)) ?_
 intro _ q4
 refine pu1 <| nT <| retE <| retT [.bool true] ?_
 have r4 := (q4.pick 10 rfl)
 have s4 := r4.dropAt 1 rfl
 have t4 := s4.dropAt 1 rfl
 have u4 := t4.dropAt 1 rfl
 have v4 := u4.dropAt 1 rfl
 have w4 := v4.dropAt 1 rfl
 have x4 := w4.dropAt 1 rfl
 have y4 := x4.dropAt 1 rfl
 have z4 := y4.dropAt 1 rfl
 have a5 := z4.dropAt 1 rfl
 have b5 := a5.dropAt 1 rfl
 exact ⟨rfl, b5⟩
end Go.Proofs.YtbofcpnngniopaaGreat
