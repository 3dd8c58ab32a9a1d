import Derived.Test.YtegmennaekipaaaGreatP2Fm4
namespace Go.Proofs.YtegmennaekipaaaGreat
open Go Go.E
set_option linter.unusedVariables false
set_option linter.unusedSimpArgs false
set_option linter.unnecessarySimpa false
set_option maxRecDepth 100000
set_option maxHeartbeats 2000000
variable {W w : World} {H : Chunk} {F : List Chunk}

-- squeezed
theorem busy_no {F : FS} {v : Wkr} (h : (v.phase = 1 ∨ v.phase = 2 ∨ v.phase = 3) → ∀ s, F.jobs[v.heldJob.toNat]? = some s → ¬ s.running = true) (hj : ∃ s, F.jobs[v.heldJob.toNat]? = some s) : busyW F v = false := by
  obtain ⟨s, hs⟩ := hj
  unfold busyW jobAt; rw [getD_some hs]
  by_cases hh : (v.phase = 1 ∨ v.phase = 2 ∨ v.phase = 3)
  · rw [Bool.eq_false_iff.2 (h hh s hs)]; simp
  · rw [decide_eq_false hh]; rfl
theorem f_crash_b {p : Nat} {F : FS} {M : Chunk} {F0 : List Chunk} (hR : FarmR p F M) {K : Int} {v0 : Wkr} (hF : FW F K) (hst : StOk F.st K) (x : Int) (hx : 0 ≤ x ∧ x < F.ws.length) (hv0 : F.ws[x.toNat]? = some v0) (hh : (v0.phase = 1 ∨ v0.phase = 2 ∨ v0.phase = 3)) (hr : ∀ s, F.jobs[v0.heldJob.toNat]? = some s → s.running = true) (hS : Sat W w (M :: H :: F0)) :
  Calls Tryz.prog 20 #[Pt p 0, I x] w fun e w' => ∃ (az : Option Addr) (nz kz : Nat) (G M' : Chunk), e = .returned (.tuple #[.slice az nz kz, I (crashF F x).2.2]) ∧ OwnT encEvt 62 7 az nz kz (crashF F x).2.1 G ∧ FarmR p (crashF F x).1 M' ∧ Sat W w' (G :: M' :: H :: F0) := by
 obtain ⟨wa, aa, da, wn, wk, an, ak, dn, dk, q, xs, ap, dp, Wc, Ac, Dc, Qc, acs, dcs, jcs, rfl, hOw, hOa, hOd, hAs, hDs, hQ, hJs, hxl⟩ := hR
 have hS : Sat W _ ((Tri p 102 (preF F.cfg wa wn wk aa an ak da dn dk q) (xs.flatMap encFJob) (encStt F.st)) :: Wc :: Ac :: Dc :: acs.flatten :: dcs.flatten :: Qc :: jcs.flatten :: H :: F0) := Sat.perm hS (by simp [Value.cells])
 have hwl := hOw.len; have hwk := hOw.le; have hal := hOa.len; have hak := hOa.le; have hdl := hOd.len; have hdk := hOd.le; have has1 := hAs.1; have hds1 := hDs.1; have hjs1 := hJs.1
 have hal_ := hF.al; have hdl_ := hF.dl; have hjl_ := hF.jl; have hn_ := hF.n; have hk_ := hF.k; have hs1 := hst.a; have hs2 := hst.b; have hs3 := hst.c; have hs4 := hst.d; have hs5 := hst.e; have hs6 := hst.f; have hs7 := hst.g
 have hwo_v0 := hF.w v0 (List.mem_of_getElem? hv0); have hw1_v0 := hwo_v0.h
 obtain ⟨j, hj, ha, hBW, hd0, hb1, hb2, hn0, ht0⟩ := hF.job (hwo_v0.t hh); have hrun := hr j hj
 obtain ⟨r4, c0⟩ := at_some hxl (k := (v0.heldJob.toNat)) om
 obtain ⟨a0, s4, k1, l1, e2⟩ := Obs.get hJs c0
 obtain rfl : a0 = j := Option.some.inj (k1.symm.trans hj)
 obtain ⟨f0, g0, h0, t4, d0, m0, f2, rfl, rfl, z0, g2, m1, h2⟩ := e2.open ha
 have i2 := (hS.pick 7 rfl)
 have j2 := Sat.openN (A := []) (v0.heldJob.toNat) l1 i2
 have k2 : Sat W _ (m0 :: f2 :: (jcs.eraseIdx (v0.heldJob.toNat)).flatten :: (Tri p 102 (preF F.cfg wa wn wk aa an ak da dn dk q) (xs.flatMap encFJob) (encStt F.st)) :: Wc :: Ac :: Dc :: acs.flatten :: dcs.flatten :: Qc :: H :: F0) := Sat.perm j2 (by simp [Value.cells])
 have hn_ta_7 := z0.len; have hl_ta_7 := z0.le; have hm_ta_7 := congrArg List.length m1; rw [List.length_map] at hm_ta_7
 have hv00 := hv0; have hj := k1
 refine callsA 125 Tryz.func20 rfl ?_
 refine sR <| pu2 <| nT <| seqE <| sR <| pu1 ?_
 have l2 := (k2.pick 3 rfl)
 refine cX Tryz.call56 (f_zero om l2) ?_
 rintro _ _ ⟨rfl, t0⟩
 refine pu5 ?_
 refine sD 16 (x < 0) (fun m2 => ?_) (fun m2 => ?_)
 ·refine pu8 <| nT <| cTt <| sR <| pu2 <| nT <| retE <| thenK_r <| retT [.slice none 0 0, I 16] ?_
  omega
 refine pu4 <| gY ?_
 refine sLp t0 (ptr_up 0 rfl tri_pre) 8 (.slice wa wn wk) (Tryz.isAgg66 _) ?_
 refine pu3 <| nT ?_
 refine cD (x ≥ ((wn : Nat) : Int)) (fun n2 => ?_) (fun n2 => ?_)
 ·refine sR <| pu2 <| nT <| retE <| thenK_r <| retT [.slice none 0 0, I 16] ?_
  omega
 refine kT <| sR <| pu3 ?_
 refine sLp t0 (ptr_up 0 rfl tri_pre) 8 (.slice wa wn wk) (Tryz.isAgg66 _) ?_
 refine pu1 ?_
 refine sIdxO hOw x (x).toNat Tryz.runUnderlying66 Tryz.sizeOf69 ?_
 intro o2 _ _ n1 p2 _
 obtain rfl : v0 = o2 := Option.some.inj (hv0.symm.trans n1)
 have hwo_v0 := hF.w v0 (List.mem_of_getElem? n1); have hw1_v0 := hwo_v0.h; have hw2_v0 := hwo_v0.r
 refine sLpA t0 (p2.up 4 rfl) 0 (encWkr v0) (Tryz.isAgg69 _) (Tryz.sizeOf69 _) ?_
 refine sAlloc t0 Tryz.zeroValue69 ?_
 intro j0 _ q2
 refine sT q2 0 0 (.agg (encWkr v0).toArray) (encWkr v0) (encWkr v0).toArray Tryz.sizeOf69 ?_
 intro _ i0
 refine nT <| seqE <| sR <| pu1 ?_
 refine sL i0 0 0 (I v0.phase) (Tryz.isAgg3 _) ?_
 refine pu1 <| nT ?_
 refine cE v0.phase 4 (fun r2 => ?_) (fun r2 => ?_)
 ·refine sR <| pu2 <| nT <| retE <| thenK_r <| retT [.slice none 0 0, I 20] ?_
  omega
 refine kT <| seqE <| seqE ?_
 refine drawE [8, 9] [(3, ⟨j0, 1, none⟩, I v0.heldJob), (7, ⟨p, 12 + (v0.heldJob.toNat) * 5 + 0, none⟩, .bool true), (7, ⟨p, 12 + (v0.heldJob.toNat) * 5 + 1, none⟩, .bool a0.running), (7, ⟨p, 12 + (v0.heldJob.toNat) * 5 + 2, none⟩, I a0.band), (7, ⟨p, 12 + (v0.heldJob.toNat) * 5 + 3, none⟩, .slice f0 g0 h0), (7, ⟨p, 12 + (v0.heldJob.toNat) * 5 + 4, none⟩, Pt d0 0)] [(true, [0, 1, 2, 4, 5]), (true, [3]), (true, [6]), (true, [7]), (false, [8]), (false, [9])] rfl kr ⟨.inr (i0.cell 0 rfl rfl), .inr (cell_up i0 1 rfl (k := 0) (tri_el (sz := 5) (n0 := 12) fR c0) rfl), .inr (cell_up i0 1 rfl (k := 1) (tri_el (sz := 5) (n0 := 12) fR c0) rfl), .inr (cell_up i0 1 rfl (k := 2) (tri_el (sz := 5) (n0 := 12) fR c0) rfl), .inr (cell_up i0 1 rfl (k := 3) (tri_el (sz := 5) (n0 := 12) fR c0) rfl), .inr (cell_up i0 1 rfl (k := 4) (tri_el (sz := 5) (n0 := 12) fR c0) rfl), trivial⟩ ?_
 have s2 := i0.drew
 refine wU [0, 1, 2, 4, 5] ?_
 refine wLd (I v0.heldJob) 0 Tryz.isAgg3 ?_
 refine wY (.pointer (some ⟨p, 12 + (v0.heldJob.toNat) * 5, none⟩)) rfl (fun w _ => Y_idxA (b := p) (off := 12) v0.heldJob (v0.heldJob.toNat) Tryz.runUnderlying100 Tryz.sizeOf99) ?_
 refine wY (.agg #[.bool true, .bool a0.running, I a0.band, .slice f0 g0 h0, Pt d0 0]) rfl (fun w hF => Y_loadF rfl (Tryz.isAgg99 w) (Tryz.sizeOf99 w) kr rfl ⟨hF 1 _ _ rfl, hF 2 _ _ rfl, hF 3 _ _ rfl, hF 4 _ _ rfl, hF 5 _ _ rfl, trivial⟩) ?_
 refine wO rfl ?_
 refine sAlloc s2 Tryz.zeroValue99 ?_
 intro u0 _ k0
 refine nilO ⟨⟨.inr (k0.cell 1 rfl rfl), .inr (cell_up k0 2 rfl (k := 0) (tri_el (sz := 5) (n0 := 12) fR c0) rfl), .inr (cell_up k0 2 rfl (k := 1) (tri_el (sz := 5) (n0 := 12) fR c0) rfl), .inr (cell_up k0 2 rfl (k := 2) (tri_el (sz := 5) (n0 := 12) fR c0) rfl), .inr (cell_up k0 2 rfl (k := 3) (tri_el (sz := 5) (n0 := 12) fR c0) rfl), .inr (cell_up k0 2 rfl (k := 4) (tri_el (sz := 5) (n0 := 12) fR c0) rfl), trivial⟩, ?_⟩
 refine wO rfl ?_
 refine sT k0 0 0 (.agg #[.bool true, .bool a0.running, I a0.band, .slice f0 g0 h0, Pt d0 0]) [.bool true, .bool a0.running, I a0.band, .slice f0 g0 h0, Pt d0 0] #[.bool true, .bool a0.running, I a0.band, .slice f0 g0 h0, Pt d0 0] Tryz.sizeOf99 ?_
 intro _ o1
 refine nilO ⟨dA, ?_⟩
 refine wN ?_
 refine thenK_n <| sR ?_
 refine lA o1 1 0 7 (Tryz.isAgg69 _) (Tryz.sizeOf69 _) ?_
 refine cR Tryz.call66 (f_holds v0 (Sat.flat o1)) ?_
 intro _ o0
 refine pu1 ?_
 refine sFix 45 _ true (decide_eq_true hh) ?_
 refine pu1 <| gY ?_
 refine sL o0 0 1 (.bool a0.running) (Tryz.isAgg4 _) ?_
 refine pu1 <| nT ?_
 refine cT _ hrun ?_
 refine sR <| pu1 ?_
 refine sL o0 0 4 (Pt d0 0) (Tryz.isAgg97 _) ?_
 refine pu2 ?_
 refine sL o0 1 2 (I v0.heldTask) (Tryz.isAgg3 _) ?_
 refine pu1 ?_
 refine sL o0 1 3 (I v0.attempt) (Tryz.isAgg3 _) ?_
 have t2 := (o0.pick 4 rfl)
 refine cX Tryz.call67 (r_return h2 hBW v0.heldTask v0.attempt om (Sat.flat1 t2)) ?_
 rintro _ _ ⟨w0, rfl, u2, v2⟩
 have p0 := Sat.unflat1 v2
 refine nT ?_
 refine drawE [8] [(3, ⟨p, 11, none⟩, Pt q 0), (5, ⟨j0, 1, none⟩, I v0.heldJob), (5, ⟨j0, 2, none⟩, I v0.heldTask), (7, ⟨u0, 2, none⟩, I a0.band)] [(true, [0, 1, 2, 4, 6]), (true, [3]), (true, [5]), (true, [7]), (false, [8])] rfl kr ⟨.inr (cell_up p0 3 rfl (k := 11) tri_pre rfl), .inr (p0.cell 2 rfl rfl), .inr (p0.cell 2 rfl rfl), .inr (p0.cell 1 rfl rfl), trivial⟩ ?_
 have w2 := p0.drew
 refine wU [0, 1, 2, 4, 6] ?_
 refine wLd (Pt q 0) 0 Tryz.isAgg96 ?_
 refine wY (.agg #[I v0.heldJob, I v0.heldTask]) rfl (fun w hF => Y_loadF rfl (Tryz.isAgg60 w) (Tryz.sizeOf60 w) kr rfl ⟨hF 1 _ _ rfl, hF 2 _ _ rfl, trivial⟩) ?_
 refine wLd (I a0.band) 3 Tryz.isAgg3 ?_
 refine wO rfl ?_
 have x2 := (w2.pick 11 rfl)
 refine cX Tryz.call60 (iq_push hQ (⟨v0.heldJob, v0.heldTask⟩ : Ref) a0.band om (Sat.flat1 x2)) ?_
 rintro _ _ ⟨a1, rfl, y2, z2⟩
 have b1 := Sat.unflat1 z2
 refine nilO ⟨dA, ?_⟩
 refine wN ?_
 refine thenK_n <| sR <| pu3 ?_
 refine sLp b1 (ptr_up 4 rfl tri_pre) 10 (.slice da dn dk) (Tryz.isAgg95 _) ?_
 refine pu1 ?_
 refine sIdxO hOd x (x).toNat Tryz.runUnderlying95 Tryz.sizeOf106 ?_
 intro a3 _ _ p1 b3 _
 refine sLp b1 (b3.up 9 rfl) 0 (Pt a3 0) (Tryz.isAgg106 _) ?_
 obtain ⟨q1, i5, r1, s1, c3⟩ := Obs.get hDs p1
 have d3 := (b1.pick 11 rfl)
 have e3 := Sat.openN (A := []) x.toNat s1 d3
 refine cX Tryz.call68 (dq_drain c3 (Sat.flat1 e3)) ?_
 rintro _ _ ⟨c1, l0, d1, e1, x0, rfl, f1, f3, g3⟩
 have h3 := Sat.unflat2 g3; have hn_az_66 := f1.len; have hl_az_66 := f1.le
 have i3 := (h3.picks [2, 2])
 have j3 := Sat.shutN (d := x0) (A := []) x.toNat s1 i3
 have k3 := Obs.set hDs p1 f3
 refine pu1 <| nT <| seqE <| sR <| pu1 <| nT <| blockE ?_
 have l3 := (j3.picks [8, 4, 8])
 have m3 : Sat W _ ((m0 ++ w0) :: (jcs.eraseIdx (v0.heldJob.toNat)).flatten :: (dcs.set x.toNat x0).flatten :: e1 :: a1 :: [(u0, .cells #[.bool true, .bool a0.running, I a0.band, .slice f0 g0 h0, Pt d0 0] 99 (0, 0))] :: [(j0, .cells (encWkr v0).toArray 69 (0, 0))] :: (Tri p 102 (preF F.cfg wa wn wk aa an ak da dn dk q) (xs.flatMap encFJob) (encStt F.st)) :: Wc :: Ac :: Dc :: acs.flatten :: H :: F0) := Sat.perm (show Sat W _ (m0 :: w0 :: (jcs.eraseIdx (v0.heldJob.toNat)).flatten :: (dcs.set x.toNat x0).flatten :: e1 :: a1 :: [(u0, .cells #[.bool true, .bool a0.running, I a0.band, .slice f0 g0 h0, Pt d0 0] 99 (0, 0))] :: [(j0, .cells (encWkr v0).toArray 69 (0, 0))] :: (Tri p 102 (preF F.cfg wa wn wk aa an ak da dn dk q) (xs.flatMap encFJob) (encStt F.st)) :: Wc :: Ac :: Dc :: acs.flatten :: H :: F0) from l3) (by simp [Value.cells])
 have n3 := Sat.shutN (d := m0 ++ w0) (A := []) (v0.heldJob.toNat) l1 m3
 have o3 := Obs.set hJs c0 (JobM.mk (s := { a0 with B := (retB a0.B v0.heldTask v0.attempt) }) ha z0 g2 m1 u2)
 refine loopA (γ := Nat × QS × Chunk) (fun ⟨i, qi, Qci⟩ => [(0, Pt p 0), (1, I x), (6, Pt j0 0), (8, .slice c1 l0 d1), (9, I ((i : Nat) : Int))]) (fun ⟨i, qi, Qci⟩ w => Sat W w ((jcs.set (v0.heldJob.toNat) (m0 ++ w0)).flatten :: (dcs.set x.toNat x0).flatten :: e1 :: Qci :: [(u0, .cells #[.bool true, .bool a0.running, I a0.band, .slice f0 g0 h0, Pt d0 0] 99 (0, 0))] :: [(j0, .cells (encWkr v0).toArray 69 (0, 0))] :: (Tri p 102 (preF F.cfg wa wn wk aa an ak da dn dk q) (xs.flatMap encFJob) (encStt F.st)) :: Wc :: Ac :: Dc :: acs.flatten :: H :: F0) ∧ i ≤ l0 ∧ (InjR q qi Qci) ∧ (qi = drainQ F.jobs (pushQ F.q (⟨v0.heldJob, v0.heldTask⟩ : Ref) a0.band) (q1.l.take i))) (fun ⟨i, qi, Qci⟩ => l0 - i) (0, (pushQ F.q (⟨v0.heldJob, v0.heldTask⟩ : Ref) a0.band), a1) ⟨n3, om, y2, rfl⟩ ?_
 rintro ⟨i, qi, Qci⟩ ρ _ ⟨e0, hi, hQi, hqe⟩
 refine seqE <| sR <| pu4 <| nT ?_
 refine cD (((i : Nat) : Int) < ((l0 : Nat) : Int)) (fun p3 => ?_) (fun p3 => ?_)
 ·refine kT <| seqE <| blockE ?_
  obtain ⟨b0, q0, r0, g1, s0, h1, l5⟩ := OwnT.elem f1 ((i : Nat) : Int)
  rw [Int.toNat_natCast] at g1 s0 h1
  have i1 := hF.d _ (List.mem_of_getElem? r1) _ (List.mem_of_getElem? g1); have hro_92_1 := i1.1; have hro_92_2 := i1.2.1; obtain ⟨q3, r3, _, _, _, hro_92_3, hro_92_4, _, _⟩ := hF.job i1
  obtain ⟨y0, t1⟩ := at_some hxl (k := (b0.job.toNat)) om
  obtain ⟨u1, m5, j1, n5, s3⟩ := Obs.get hJs t1; obtain ⟨o5, p5, t3, q5⟩ := s3.fields; have r5 := hF.j u1 (List.mem_of_getElem? j1)
  obtain rfl : u1 = q3 := Option.some.inj (j1.symm.trans r3)
  refine drawE [19] [(3, ⟨p, 11, none⟩, Pt q 0), (7, ⟨q0, r0 + i * 2 + 0, none⟩, I b0.job), (7, ⟨q0, r0 + i * 2 + 1, none⟩, I b0.task), (13, ⟨q0, r0 + i * 2 + 0, none⟩, I b0.job), (18, ⟨p, 12 + (b0.job.toNat) * 5 + 2, none⟩, I y0.band)] [(true, [0, 1, 2, 4, 5]), (true, [6]), (true, [8, 9, 10]), (true, [11]), (true, [12, 14, 15]), (true, [3]), (true, [7]), (true, [13]), (true, [16]), (true, [17]), (true, [18]), (false, [19])] rfl kr ⟨.inr (cell_up e0 6 rfl (k := 11) tri_pre rfl), .inr ((s0.up 2 rfl).cell e0 (k := 0) rfl), .inr ((s0.up 2 rfl).cell e0 (k := 1) rfl), .inr ((s0.up 2 rfl).cell e0 (k := 0) rfl), .inr (cell_up e0 6 rfl (k := 2) (tri_el (sz := 5) (n0 := 12) fR t1) rfl), trivial⟩ ?_
  have u3 := e0.drew
  refine wU [0, 1, 2, 4, 5] ?_
  refine wY (.pointer (some ⟨q0, r0 + i * 2, none⟩)) rfl (fun w _ => Y_idx (a := c1) (i := ((i : Nat) : Int)) (len := l0) (cap := d1) rfl Tryz.runUnderlying125 Tryz.sizeOf60 kr kr h1) ?_
  refine wU [8, 9, 10] ?_
  refine wY (.pointer (some ⟨q0, r0 + i * 2, none⟩)) rfl (fun w _ => Y_idx (a := c1) (i := ((i : Nat) : Int)) (len := l0) (cap := d1) rfl Tryz.runUnderlying125 Tryz.sizeOf60 kr kr h1) ?_
  refine wU [12, 14, 15] ?_
  refine wLd (Pt q 0) 0 Tryz.isAgg96 ?_
  refine wY (.agg #[I b0.job, I b0.task]) rfl (fun w hF => Y_loadF rfl (Tryz.isAgg60 w) (Tryz.sizeOf60 w) kr rfl ⟨hF 1 _ _ rfl, hF 2 _ _ rfl, trivial⟩) ?_
  refine wLd (I b0.job) 3 Tryz.isAgg3 ?_
  refine wY (.pointer (some ⟨p, 12 + (b0.job.toNat) * 5, none⟩)) rfl (fun w _ => Y_idxA (b := p) (off := 12) b0.job (b0.job.toNat) Tryz.runUnderlying100 Tryz.sizeOf99) ?_
  refine wU [17] ?_
  refine wLd (I y0.band) 4 Tryz.isAgg3 ?_
  refine wO rfl ?_
  have v3 := (u3.pick 3 rfl)
  refine cX Tryz.call60 (iq_push hQi b0 y0.band om (Sat.flat1 v3)) ?_
  rintro _ _ ⟨w3, rfl, x3, y3⟩
  have v1 := Sat.unflat1 y3
  refine nilO ⟨⟨dI, dI, dI, .inr ((s0.up 3 rfl).cell v1 (k := 0) rfl), dI, trivial⟩, ?_⟩
  refine wN ?_
  refine blockK_n <| thenK_n <| regionE <| pu1 ?_
  refine sAdd ((i : Nat) : Int) 1 ?_
  refine pu1 <| nT ?_
  have z3 := (v1.picks [3, 3, 3])
  exact ⟨(i + 1, (pushQ qi b0 y0.band), w3), od, alA, z3, om, x3, (by rw [drain_take g1, ← hqe]; unfold pushR; rw [getD_some j1, ← t3])⟩
 refine exitE <| xB <| thenK_n <| sR <| pu3 ?_
 refine sLp e0 (ptr_up 6 rfl tri_pre) 9 (.slice aa an ak) (Tryz.isAgg94 _) ?_
 refine pu1 ?_
 refine sIdxO hOa x (x).toNat Tryz.runUnderlying94 Tryz.sizeOf103 ?_
 intro a4 _ _ w1 b4 _
 refine sLp e0 (b4.up 8 rfl) 0 (Pt a4 0) (Tryz.isAgg103 _) ?_
 obtain ⟨x1, w5, y1, z1, c4⟩ := Obs.get hAs w1
 have d4 := (e0.pick 10 rfl)
 have e4 := Sat.openN (A := []) x.toNat z1 d4
 refine cX Tryz.call69 (ar_reset c4  (Sat.flat1 e4)) ?_
 rintro _ _ ⟨f4, rfl, g4, h4⟩
 have i4 := Sat.unflat1 h4
 have j4 := (i4.picks [1, 1])
 have k4 := Sat.shutN (d := f4) (A := []) x.toNat z1 j4
 have a2 := Obs.set hAs w1 g4
 refine nT <| sR <| pu2 ?_
 have l4 := (k4.picks [0, 9, 9, 9])
 refine cX Tryz.call70 (f_idle hOw hOa a2 x 4 (by first | omega | (dsimp only; omega) | (simp only [List.length_set]; omega)) (by first | omega | (dsimp only; omega) | (simp only [List.length_set]; omega)) l4) ?_
 rintro _ _ ⟨_, rfl, m4, b2⟩
 refine nT <| sR <| pu4 ?_
 refine sLp b2 (ptr_up 0 rfl (tri_post (k := 332) (tri_len (sz := 5) (m := 12) fR hxl))) 3 (I F.st.crashes) (Tryz.isAgg3 _) ?_
 refine sAdd F.st.crashes 1 ?_
 refine pu3 ?_
 refine sTpost b2 0 332 3 rfl (I (F.st.crashes + 1)) [I (F.st.crashes + 1)] [I F.st.starts, I F.st.commits, I F.st.drops, I (F.st.crashes + 1), I F.st.steals, I F.st.helps, I F.st.spills, I F.st.queued, I F.st.held, I F.st.cells] (tri_len (sz := 5) (m := 12) fR hxl) Tryz.sizeOf3 ?_
 intro _ c2
 refine nT <| sR <| pu2 ?_
 refine lA c2 9 1 2 (Tryz.isAgg60 _) (Tryz.sizeOf60 _) ?_
 refine pu1 ?_
 refine sBS c2 #[I 10, I x, I 0, I 0, I v0.heldJob, I v0.heldTask, I 0] Tryz.runUnderlying38 Tryz.sizeOf62 Tryz.zeroValue62 ?_
 intro d2 _ n4
 refine pu2 <| nT <| retE <| retT [.slice (At d2 0) 1 1, I 0] ?_
 have o4 := OwnT.blk (enc := encEvt) (sz := 7) (b := d2) (c := #[I 10, I x, I 0, I 0, I v0.heldJob, I v0.heldTask, I 0]) (E := 62) (xs := [(⟨10, x, 0, 0, v0.heldJob, v0.heldTask, 0⟩ : Evt)]) fR 1 rfl rfl rfl om
 have p4 := ((n4.picks [5, 8, 7, 7, 11, 8, 8, 8]).drops [9, 9, 9])
 have q4 := ((p4.merge8).pick 1 rfl)
 have he : crashF F x = ((⟨F.cfg, (F.ws.set x.toNat ⟨4, 0, 0, 0, 0, 0, ((F.ar.set x.toNat (resetA x1)).getD x.toNat default).high⟩), (F.ar.set x.toNat (resetA x1)), (F.dq.set x.toNat ({ q1 with l := [] } : DS)), qi, (F.jobs.set (v0.heldJob.toNat) ({ a0 with B := (retB a0.B v0.heldTask v0.attempt) })), (⟨F.st.starts, F.st.commits, F.st.drops, (F.st.crashes + 1), F.st.steals, F.st.helps, F.st.spills, F.st.queued, F.st.held, F.st.cells⟩ : Stt)⟩ : FS), [(⟨10, x, 0, 0, v0.heldJob, v0.heldTask, 0⟩ : Evt)], 0) := (crash_busy om hv0 hh hj hrun r1 y1).trans (by rw [getD_some (set_at y1), hqe, List.take_of_length_le om]; rfl)
 rw [he]; exact ⟨_, _, _, _, _, rfl, o4, ⟨_, _, _, _, _, _, _, _, _, _, _, _, _, _, _, _, _, _, _, _, rfl, m4, hOa, hOd, a2, k3, hQi, o3, hxl⟩, q4⟩
theorem f_crash_f {p : Nat} {F : FS} {M : Chunk} {F0 : List Chunk} (hR : FarmR p F M) {K : Int} {v0 : Wkr} (hF : FW F K) (hst : StOk F.st K) (x : Int) (hx : 0 ≤ x ∧ x < F.ws.length) (hv0 : F.ws[x.toNat]? = some v0) (hfr : (v0.phase = 1 ∨ v0.phase = 2 ∨ v0.phase = 3) → ∀ s, F.jobs[v0.heldJob.toNat]? = some s → ¬ s.running = true) (hS : Sat W w (M :: H :: F0)) :
  Calls Tryz.prog 20 #[Pt p 0, I x] w fun e w' => ∃ (az : Option Addr) (nz kz : Nat) (G M' : Chunk), e = .returned (.tuple #[.slice az nz kz, I (crashF F x).2.2]) ∧ OwnT encEvt 62 7 az nz kz (crashF F x).2.1 G ∧ FarmR p (crashF F x).1 M' ∧ Sat W w' (G :: M' :: H :: F0) := by
 obtain ⟨wa, aa, da, wn, wk, an, ak, dn, dk, q, xs, ap, dp, Wc, Ac, Dc, Qc, acs, dcs, jcs, rfl, hOw, hOa, hOd, hAs, hDs, hQ, hJs, hxl⟩ := hR
 have hS : Sat W _ ((Tri p 102 (preF F.cfg wa wn wk aa an ak da dn dk q) (xs.flatMap encFJob) (encStt F.st)) :: Wc :: Ac :: Dc :: acs.flatten :: dcs.flatten :: Qc :: jcs.flatten :: H :: F0) := Sat.perm hS (by simp [Value.cells])
 have hwl := hOw.len; have hwk := hOw.le; have hal := hOa.len; have hak := hOa.le; have hdl := hOd.len; have hdk := hOd.le; have has1 := hAs.1; have hds1 := hDs.1; have hjs1 := hJs.1
 have hal_ := hF.al; have hdl_ := hF.dl; have hjl_ := hF.jl; have hn_ := hF.n; have hk_ := hF.k; have hs1 := hst.a; have hs2 := hst.b; have hs3 := hst.c; have hs4 := hst.d; have hs5 := hst.e; have hs6 := hst.f; have hs7 := hst.g
 have hwo_v0 := hF.w v0 (List.mem_of_getElem? hv0); have hw1_v0 := hwo_v0.h
 have hjv : ∃ s, F.jobs[v0.heldJob.toNat]? = some s := at_some hjl_ om
 refine callsA 125 Tryz.func20 rfl ?_
 refine sR <| pu2 <| nT <| seqE <| sR <| pu1 ?_
 refine cX Tryz.call56 (f_zero om hS) ?_
 rintro _ _ ⟨rfl, j0⟩
 refine pu5 ?_
 refine sD 16 (x < 0) (fun y2 => ?_) (fun y2 => ?_)
 ·refine pu8 <| nT <| cTt <| sR <| pu2 <| nT <| retE <| thenK_r <| retT [.slice none 0 0, I 16] ?_
  have z2 := Sat.nilc j0
  have a3 := (z2.picks [8, 8, 8, 8, 8, 8, 8, 8])
  have b3 := ((a3.merge8).pick 1 rfl)
  have he : crashF F x = (F, [], 16) := crash_unk om
  rw [he]; exact ⟨_, _, _, _, _, rfl, (OwnT.nil (enc := encEvt) (E := 62) (sz := 7) fR), ⟨_, _, _, _, _, _, _, _, _, _, _, _, _, _, _, _, _, _, _, _, rfl, hOw, hOa, hOd, hAs, hDs, hQ, hJs, hxl⟩, b3⟩
 refine pu4 <| gY ?_
 refine sLp j0 (ptr_up 0 rfl tri_pre) 8 (.slice wa wn wk) (Tryz.isAgg66 _) ?_
 refine pu3 <| nT ?_
 refine cD (x ≥ ((wn : Nat) : Int)) (fun c3 => ?_) (fun c3 => ?_)
 ·refine sR <| pu2 <| nT <| retE <| thenK_r <| retT [.slice none 0 0, I 16] ?_
  have d3 := Sat.nilc j0
  have e3 := (d3.picks [8, 8, 8, 8, 8, 8, 8, 8])
  have f3 := ((e3.merge8).pick 1 rfl)
  have he : crashF F x = (F, [], 16) := crash_unk om
  rw [he]; exact ⟨_, _, _, _, _, rfl, (OwnT.nil (enc := encEvt) (E := 62) (sz := 7) fR), ⟨_, _, _, _, _, _, _, _, _, _, _, _, _, _, _, _, _, _, _, _, rfl, hOw, hOa, hOd, hAs, hDs, hQ, hJs, hxl⟩, f3⟩
 refine kT <| sR <| pu3 ?_
 refine sLp j0 (ptr_up 0 rfl tri_pre) 8 (.slice wa wn wk) (Tryz.isAgg66 _) ?_
 refine pu1 ?_
 refine sIdxO hOw x (x).toNat Tryz.runUnderlying66 Tryz.sizeOf69 ?_
 intro g3 _ _ m1 h3 _
 obtain rfl : v0 = g3 := Option.some.inj (hv0.symm.trans m1)
 have hwo_v0 := hF.w v0 (List.mem_of_getElem? m1); have hw1_v0 := hwo_v0.h; have hw2_v0 := hwo_v0.r
 refine sLpA j0 (h3.up 1 rfl) 0 (encWkr v0) (Tryz.isAgg69 _) (Tryz.sizeOf69 _) ?_
 refine sAlloc j0 Tryz.zeroValue69 ?_
 intro m0 _ i3
 refine sT i3 0 0 (.agg (encWkr v0).toArray) (encWkr v0) (encWkr v0).toArray Tryz.sizeOf69 ?_
 intro _ e0
 refine nT <| seqE <| sR <| pu1 ?_
 refine sL e0 0 0 (I v0.phase) (Tryz.isAgg3 _) ?_
 refine pu1 <| nT ?_
 refine cE v0.phase 4 (fun j3 => ?_) (fun j3 => ?_)
 ·refine sR <| pu2 <| nT <| retE <| thenK_r <| retT [.slice none 0 0, I 20] ?_
  have k3 := Sat.nilc e0
  have l3 := ((k3.picks [9, 9, 9, 9, 9, 9, 9, 9]).dropAt 9 rfl)
  have m3 := ((l3.merge8).pick 1 rfl)
  have he : crashF F x = (F, [], 20) := crash_down om hv0 om
  rw [he]; exact ⟨_, _, _, _, _, rfl, (OwnT.nil (enc := encEvt) (E := 62) (sz := 7) fR), ⟨_, _, _, _, _, _, _, _, _, _, _, _, _, _, _, _, _, _, _, _, rfl, hOw, hOa, hOd, hAs, hDs, hQ, hJs, hxl⟩, m3⟩
 refine kT <| seqE <| seqE ?_
 obtain ⟨a0, d0⟩ := at_some hxl (k := (v0.heldJob.toNat)) om
 obtain ⟨n3, a7, n1, b7, o3⟩ := Obs.get hJs d0; obtain ⟨c7, p3, d7, e7⟩ := o3.fields; have f7 := hF.j n3 (List.mem_of_getElem? n1)
 have hfr_x_26 : (v0.phase = 1 ∨ v0.phase = 2 ∨ v0.phase = 3) → ¬ a0.running = true := fun h1 h2 => hfr h1 _ n1 (p3 ▸ h2)
 refine drawE [8, 9] [(3, ⟨m0, 1, none⟩, I v0.heldJob), (7, ⟨p, 12 + (v0.heldJob.toNat) * 5 + 0, none⟩, .bool a0.added), (7, ⟨p, 12 + (v0.heldJob.toNat) * 5 + 1, none⟩, .bool a0.running), (7, ⟨p, 12 + (v0.heldJob.toNat) * 5 + 2, none⟩, I a0.band), (7, ⟨p, 12 + (v0.heldJob.toNat) * 5 + 3, none⟩, .slice a0.tasks.a a0.tasks.n a0.tasks.k), (7, ⟨p, 12 + (v0.heldJob.toNat) * 5 + 4, none⟩, .pointer a0.board)] [(true, [0, 1, 2, 4, 5]), (true, [3]), (true, [6]), (true, [7]), (false, [8]), (false, [9])] rfl kr ⟨.inr (e0.cell 0 rfl rfl), .inr (cell_up e0 1 rfl (k := 0) (tri_el (sz := 5) (n0 := 12) fR d0) rfl), .inr (cell_up e0 1 rfl (k := 1) (tri_el (sz := 5) (n0 := 12) fR d0) rfl), .inr (cell_up e0 1 rfl (k := 2) (tri_el (sz := 5) (n0 := 12) fR d0) rfl), .inr (cell_up e0 1 rfl (k := 3) (tri_el (sz := 5) (n0 := 12) fR d0) rfl), .inr (cell_up e0 1 rfl (k := 4) (tri_el (sz := 5) (n0 := 12) fR d0) rfl), trivial⟩ ?_
 have q3 := e0.drew
 refine wU [0, 1, 2, 4, 5] ?_
 refine wLd (I v0.heldJob) 0 Tryz.isAgg3 ?_
 refine wY (.pointer (some ⟨p, 12 + (v0.heldJob.toNat) * 5, none⟩)) rfl (fun w _ => Y_idxA (b := p) (off := 12) v0.heldJob (v0.heldJob.toNat) Tryz.runUnderlying100 Tryz.sizeOf99) ?_
 refine wY (.agg (encFJob a0).toArray) rfl (fun w hF => Y_loadF rfl (Tryz.isAgg99 w) (Tryz.sizeOf99 w) kr rfl ⟨hF 1 _ _ rfl, hF 2 _ _ rfl, hF 3 _ _ rfl, hF 4 _ _ rfl, hF 5 _ _ rfl, trivial⟩) ?_
 refine wO rfl ?_
 refine sAlloc q3 Tryz.zeroValue99 ?_
 intro o1 _ h0
 refine nilO ⟨⟨.inr (h0.cell 1 rfl rfl), .inr (cell_up h0 2 rfl (k := 0) (tri_el (sz := 5) (n0 := 12) fR d0) rfl), .inr (cell_up h0 2 rfl (k := 1) (tri_el (sz := 5) (n0 := 12) fR d0) rfl), .inr (cell_up h0 2 rfl (k := 2) (tri_el (sz := 5) (n0 := 12) fR d0) rfl), .inr (cell_up h0 2 rfl (k := 3) (tri_el (sz := 5) (n0 := 12) fR d0) rfl), .inr (cell_up h0 2 rfl (k := 4) (tri_el (sz := 5) (n0 := 12) fR d0) rfl), trivial⟩, ?_⟩
 refine wO rfl ?_
 refine sT h0 0 0 (.agg (encFJob a0).toArray) (encFJob a0) (encFJob a0).toArray Tryz.sizeOf99 ?_
 intro _ p1
 refine nilO ⟨dA, ?_⟩
 refine wN ?_
 refine thenK_n <| sR ?_
 refine lA p1 1 0 7 (Tryz.isAgg69 _) (Tryz.sizeOf69 _) ?_
 refine cR Tryz.call66 (f_holds v0 (Sat.flat p1)) ?_
 intro _ i0
 refine pu1 ?_
 refine sD 45 ((v0.phase = 1 ∨ v0.phase = 2 ∨ v0.phase = 3)) (fun q1 => ?_) (fun q1 => ?_)
 rotate_left
 ·refine pu3 <| nT <| cFf <| kT <| sR <| pu3 ?_
  refine sLp i0 (ptr_up 2 rfl tri_pre) 10 (.slice da dn dk) (Tryz.isAgg95 _) ?_
  refine pu1 ?_
  refine sIdxO hOd x (x).toNat Tryz.runUnderlying95 Tryz.sizeOf106 ?_
  intro r3 _ _ r1 s3 _
  refine sLp i0 (s3.up 5 rfl) 0 (Pt r3 0) (Tryz.isAgg106 _) ?_
  obtain ⟨s1, m7, t1, u1, t3⟩ := Obs.get hDs r1
  have u3 := (i0.pick 7 rfl)
  have v3 := Sat.openN (A := []) x.toNat u1 u3
  refine cX Tryz.call68 (dq_drain t3 (Sat.flat1 v3)) ?_
  rintro _ _ ⟨x0, k0, y0, w3, v1, rfl, z0, x3, y3⟩
  have z3 := Sat.unflat2 y3; have hn_az_140 := z0.len; have hl_az_140 := z0.le
  have a4 := (z3.picks [2, 2])
  have b4 := Sat.shutN (d := v1) (A := []) x.toNat u1 a4
  have c4 := Obs.set hDs r1 x3
  refine pu1 <| nT <| seqE <| sR <| pu1 <| nT <| blockE ?_
  refine loopA (γ := Nat × QS × Chunk) (fun ⟨i, qi, Qci⟩ => [(0, Pt p 0), (1, I x), (6, Pt m0 0), (8, .slice x0 k0 y0), (9, I ((i : Nat) : Int))]) (fun ⟨i, qi, Qci⟩ w => Sat W w ((dcs.set x.toNat v1).flatten :: w3 :: [(o1, .cells (encFJob a0).toArray 99 (0, 0))] :: [(m0, .cells (encWkr v0).toArray 69 (0, 0))] :: (Tri p 102 (preF F.cfg wa wn wk aa an ak da dn dk q) (xs.flatMap encFJob) (encStt F.st)) :: Wc :: Ac :: Dc :: acs.flatten :: Qci :: jcs.flatten :: H :: F0) ∧ i ≤ k0 ∧ (InjR q qi Qci) ∧ (qi = drainQ F.jobs F.q (s1.l.take i))) (fun ⟨i, qi, Qci⟩ => k0 - i) (0, F.q, Qc) ⟨b4, om, hQ, rfl⟩ ?_
  rintro ⟨i, qi, Qci⟩ ρ _ ⟨f0, hi, hQi, hqe⟩
  refine seqE <| sR <| pu4 <| nT ?_
  refine cD (((i : Nat) : Int) < ((k0 : Nat) : Int)) (fun d4 => ?_) (fun d4 => ?_)
  ·refine kT <| seqE <| blockE ?_
   obtain ⟨b0, o0, p0, a1, q0, b1, p7⟩ := OwnT.elem z0 ((i : Nat) : Int)
   rw [Int.toNat_natCast] at a1 q0 b1
   have c1 := hF.d _ (List.mem_of_getElem? t1) _ (List.mem_of_getElem? a1); have hro_162_1 := c1.1; have hro_162_2 := c1.2.1; obtain ⟨e4, f4, _, _, _, hro_162_3, hro_162_4, _, _⟩ := hF.job c1
   obtain ⟨u0, w1⟩ := at_some hxl (k := (b0.job.toNat)) om
   obtain ⟨x1, q7, d1, r7, g4⟩ := Obs.get hJs w1; obtain ⟨s7, t7, h4, u7⟩ := g4.fields; have v7 := hF.j x1 (List.mem_of_getElem? d1)
   obtain rfl : x1 = e4 := Option.some.inj (d1.symm.trans f4)
   refine drawE [19] [(3, ⟨p, 11, none⟩, Pt q 0), (7, ⟨o0, p0 + i * 2 + 0, none⟩, I b0.job), (7, ⟨o0, p0 + i * 2 + 1, none⟩, I b0.task), (13, ⟨o0, p0 + i * 2 + 0, none⟩, I b0.job), (18, ⟨p, 12 + (b0.job.toNat) * 5 + 2, none⟩, I u0.band)] [(true, [0, 1, 2, 4, 5]), (true, [6]), (true, [8, 9, 10]), (true, [11]), (true, [12, 14, 15]), (true, [3]), (true, [7]), (true, [13]), (true, [16]), (true, [17]), (true, [18]), (false, [19])] rfl kr ⟨.inr (cell_up f0 4 rfl (k := 11) tri_pre rfl), .inr ((q0.up 1 rfl).cell f0 (k := 0) rfl), .inr ((q0.up 1 rfl).cell f0 (k := 1) rfl), .inr ((q0.up 1 rfl).cell f0 (k := 0) rfl), .inr (cell_up f0 4 rfl (k := 2) (tri_el (sz := 5) (n0 := 12) fR w1) rfl), trivial⟩ ?_
   have i4 := f0.drew
   refine wU [0, 1, 2, 4, 5] ?_
   refine wY (.pointer (some ⟨o0, p0 + i * 2, none⟩)) rfl (fun w _ => Y_idx (a := x0) (i := ((i : Nat) : Int)) (len := k0) (cap := y0) rfl Tryz.runUnderlying125 Tryz.sizeOf60 kr kr b1) ?_
   refine wU [8, 9, 10] ?_
   refine wY (.pointer (some ⟨o0, p0 + i * 2, none⟩)) rfl (fun w _ => Y_idx (a := x0) (i := ((i : Nat) : Int)) (len := k0) (cap := y0) rfl Tryz.runUnderlying125 Tryz.sizeOf60 kr kr b1) ?_
   refine wU [12, 14, 15] ?_
   refine wLd (Pt q 0) 0 Tryz.isAgg96 ?_
   refine wY (.agg #[I b0.job, I b0.task]) rfl (fun w hF => Y_loadF rfl (Tryz.isAgg60 w) (Tryz.sizeOf60 w) kr rfl ⟨hF 1 _ _ rfl, hF 2 _ _ rfl, trivial⟩) ?_
   refine wLd (I b0.job) 3 Tryz.isAgg3 ?_
   refine wY (.pointer (some ⟨p, 12 + (b0.job.toNat) * 5, none⟩)) rfl (fun w _ => Y_idxA (b := p) (off := 12) b0.job (b0.job.toNat) Tryz.runUnderlying100 Tryz.sizeOf99) ?_
   refine wU [17] ?_
   refine wLd (I u0.band) 4 Tryz.isAgg3 ?_
   refine wO rfl ?_
   have j4 := (i4.pick 9 rfl)
   refine cX Tryz.call60 (iq_push hQi b0 u0.band om (Sat.flat1 j4)) ?_
   rintro _ _ ⟨k4, rfl, l4, m4⟩
   have y1 := Sat.unflat1 m4
   refine nilO ⟨⟨dI, dI, dI, .inr ((q0.up 2 rfl).cell y1 (k := 0) rfl), dI, trivial⟩, ?_⟩
   refine wN ?_
   refine blockK_n <| thenK_n <| regionE <| pu1 ?_
   refine sAdd ((i : Nat) : Int) 1 ?_
   refine pu1 <| nT ?_
   have n4 := (y1.picks [9, 9, 9, 9, 9, 9, 9, 9, 9])
   exact ⟨(i + 1, (pushQ qi b0 u0.band), k4), od, alA, n4, om, l4, (by rw [drain_take a1, ← hqe]; unfold pushR; rw [getD_some d1, ← h4])⟩
  refine exitE <| xB <| thenK_n <| sR <| pu3 ?_
  refine sLp f0 (ptr_up 4 rfl tri_pre) 9 (.slice aa an ak) (Tryz.isAgg94 _) ?_
  refine pu1 ?_
  refine sIdxO hOa x (x).toNat Tryz.runUnderlying94 Tryz.sizeOf103 ?_
  intro o4 _ _ z1 p4 _
  refine sLp f0 (p4.up 6 rfl) 0 (Pt o4 0) (Tryz.isAgg103 _) ?_
  obtain ⟨a2, a8, b2, c2, q4⟩ := Obs.get hAs z1
  have r4 := (f0.pick 8 rfl)
  have s4 := Sat.openN (A := []) x.toNat c2 r4
  refine cX Tryz.call69 (ar_reset q4  (Sat.flat1 s4)) ?_
  rintro _ _ ⟨t4, rfl, u4, v4⟩
  have w4 := Sat.unflat1 v4
  have x4 := (w4.picks [1, 1])
  have y4 := Sat.shutN (d := t4) (A := []) x.toNat c2 x4
  have d2 := Obs.set hAs z1 u4
  refine nT <| sR <| pu2 ?_
  have z4 := (y4.picks [0, 7, 7, 7])
  refine cX Tryz.call70 (f_idle hOw hOa d2 x 4 (by first | omega | (dsimp only; omega) | (simp only [List.length_set]; omega)) (by first | omega | (dsimp only; omega) | (simp only [List.length_set]; omega)) z4) ?_
  rintro _ _ ⟨_, rfl, a5, e2⟩
  refine nT <| sR <| pu4 ?_
  refine sLp e2 (ptr_up 0 rfl (tri_post (k := 332) (tri_len (sz := 5) (m := 12) fR hxl))) 3 (I F.st.crashes) (Tryz.isAgg3 _) ?_
  refine sAdd F.st.crashes 1 ?_
  refine pu3 ?_
  refine sTpost e2 0 332 3 rfl (I (F.st.crashes + 1)) [I (F.st.crashes + 1)] [I F.st.starts, I F.st.commits, I F.st.drops, I (F.st.crashes + 1), I F.st.steals, I F.st.helps, I F.st.spills, I F.st.queued, I F.st.held, I F.st.cells] (tri_len (sz := 5) (m := 12) fR hxl) Tryz.sizeOf3 ?_
  intro _ f2
  refine nT <| sR <| pu2 ?_
  refine lA f2 7 1 2 (Tryz.isAgg60 _) (Tryz.sizeOf60 _) ?_
  refine pu1 ?_
  refine sBS f2 #[I 10, I x, I 0, I 0, I v0.heldJob, I v0.heldTask, I 0] Tryz.runUnderlying38 Tryz.sizeOf62 Tryz.zeroValue62 ?_
  intro g2 _ b5
  refine pu2 <| nT <| retE <| retT [.slice (At g2 0) 1 1, I 0] ?_
  have c5 := OwnT.blk (enc := encEvt) (sz := 7) (b := g2) (c := #[I 10, I x, I 0, I 0, I v0.heldJob, I v0.heldTask, I 0]) (E := 62) (xs := [(⟨10, x, 0, 0, v0.heldJob, v0.heldTask, 0⟩ : Evt)]) fR 1 rfl rfl rfl om
  have d5 := ((b5.picks [11, 11, 7, 7, 11, 8, 8, 8]).drops [9, 9, 9])
  have e5 := ((d5.merge8).pick 1 rfl)
  have he : crashF F x = ((⟨F.cfg, (F.ws.set x.toNat ⟨4, 0, 0, 0, 0, 0, ((F.ar.set x.toNat (resetA a2)).getD x.toNat default).high⟩), (F.ar.set x.toNat (resetA a2)), (F.dq.set x.toNat ({ s1 with l := [] } : DS)), qi, F.jobs, (⟨F.st.starts, F.st.commits, F.st.drops, (F.st.crashes + 1), F.st.steals, F.st.helps, F.st.spills, F.st.queued, F.st.held, F.st.cells⟩ : Stt)⟩ : FS), [(⟨10, x, 0, 0, v0.heldJob, v0.heldTask, 0⟩ : Evt)], 0) := (crash_free om hv0 om (busy_no hfr hjv) t1 b2).trans (by rw [getD_some (set_at b2), hqe, List.take_of_length_le om]; rfl)
  rw [he]; exact ⟨_, _, _, _, _, rfl, c5, ⟨_, _, _, _, _, _, _, _, _, _, _, _, _, _, _, _, _, _, _, _, rfl, a5, hOa, hOd, d2, c4, hQi, hJs, hxl⟩, e5⟩
 refine pu1 <| gY ?_
 refine sL i0 0 1 (.bool a0.running) (Tryz.isAgg4 _) ?_
 refine pu1 <| nT ?_
 have f5 : ¬ (a0.running = true) := hfr_x_26 q1
 refine cF _ (Bool.eq_false_iff.2 f5) ?_
 refine kT <| sR <| pu3 ?_
 refine sLp i0 (ptr_up 2 rfl tri_pre) 10 (.slice da dn dk) (Tryz.isAgg95 _) ?_
 refine pu1 ?_
 refine sIdxO hOd x (x).toNat Tryz.runUnderlying95 Tryz.sizeOf106 ?_
 intro g5 _ _ i2 h5 _
 refine sLp i0 (h5.up 5 rfl) 0 (Pt g5 0) (Tryz.isAgg106 _) ?_
 obtain ⟨j2, j8, k2, l2, i5⟩ := Obs.get hDs i2
 have j5 := (i0.pick 7 rfl)
 have k5 := Sat.openN (A := []) x.toNat l2 j5
 refine cX Tryz.call68 (dq_drain i5 (Sat.flat1 k5)) ?_
 rintro _ _ ⟨e1, l0, f1, l5, m2, rfl, g1, m5, n5⟩
 have o5 := Sat.unflat2 n5; have hn_az_56 := g1.len; have hl_az_56 := g1.le
 have p5 := (o5.picks [2, 2])
 have q5 := Sat.shutN (d := m2) (A := []) x.toNat l2 p5
 have r5 := Obs.set hDs i2 m5
 refine pu1 <| nT <| seqE <| sR <| pu1 <| nT <| blockE ?_
 refine loopA (γ := Nat × QS × Chunk) (fun ⟨i, qi, Qci⟩ => [(0, Pt p 0), (1, I x), (6, Pt m0 0), (8, .slice e1 l0 f1), (9, I ((i : Nat) : Int))]) (fun ⟨i, qi, Qci⟩ w => Sat W w ((dcs.set x.toNat m2).flatten :: l5 :: [(o1, .cells (encFJob a0).toArray 99 (0, 0))] :: [(m0, .cells (encWkr v0).toArray 69 (0, 0))] :: (Tri p 102 (preF F.cfg wa wn wk aa an ak da dn dk q) (xs.flatMap encFJob) (encStt F.st)) :: Wc :: Ac :: Dc :: acs.flatten :: Qci :: jcs.flatten :: H :: F0) ∧ i ≤ l0 ∧ (InjR q qi Qci) ∧ (qi = drainQ F.jobs F.q (j2.l.take i))) (fun ⟨i, qi, Qci⟩ => l0 - i) (0, F.q, Qc) ⟨q5, om, hQ, rfl⟩ ?_
 rintro ⟨i, qi, Qci⟩ ρ _ ⟨g0, hi, hQi, hqe⟩
 refine seqE <| sR <| pu4 <| nT ?_
 refine cD (((i : Nat) : Int) < ((l0 : Nat) : Int)) (fun s5 => ?_) (fun s5 => ?_)
 ·refine kT <| seqE <| blockE ?_
  obtain ⟨c0, r0, s0, i1, t0, j1, m8⟩ := OwnT.elem g1 ((i : Nat) : Int)
  rw [Int.toNat_natCast] at i1 t0 j1
  have k1 := hF.d _ (List.mem_of_getElem? k2) _ (List.mem_of_getElem? i1); have hro_78_1 := k1.1; have hro_78_2 := k1.2.1; obtain ⟨t5, u5, _, _, _, hro_78_3, hro_78_4, _, _⟩ := hF.job k1
  obtain ⟨w0, n2⟩ := at_some hxl (k := (c0.job.toNat)) om
  obtain ⟨o2, n8, l1, o8, v5⟩ := Obs.get hJs n2; obtain ⟨p8, q8, w5, r8⟩ := v5.fields; have s8 := hF.j o2 (List.mem_of_getElem? l1)
  obtain rfl : o2 = t5 := Option.some.inj (l1.symm.trans u5)
  refine drawE [19] [(3, ⟨p, 11, none⟩, Pt q 0), (7, ⟨r0, s0 + i * 2 + 0, none⟩, I c0.job), (7, ⟨r0, s0 + i * 2 + 1, none⟩, I c0.task), (13, ⟨r0, s0 + i * 2 + 0, none⟩, I c0.job), (18, ⟨p, 12 + (c0.job.toNat) * 5 + 2, none⟩, I w0.band)] [(true, [0, 1, 2, 4, 5]), (true, [6]), (true, [8, 9, 10]), (true, [11]), (true, [12, 14, 15]), (true, [3]), (true, [7]), (true, [13]), (true, [16]), (true, [17]), (true, [18]), (false, [19])] rfl kr ⟨.inr (cell_up g0 4 rfl (k := 11) tri_pre rfl), .inr ((t0.up 1 rfl).cell g0 (k := 0) rfl), .inr ((t0.up 1 rfl).cell g0 (k := 1) rfl), .inr ((t0.up 1 rfl).cell g0 (k := 0) rfl), .inr (cell_up g0 4 rfl (k := 2) (tri_el (sz := 5) (n0 := 12) fR n2) rfl), trivial⟩ ?_
  have x5 := g0.drew
  refine wU [0, 1, 2, 4, 5] ?_
  refine wY (.pointer (some ⟨r0, s0 + i * 2, none⟩)) rfl (fun w _ => Y_idx (a := e1) (i := ((i : Nat) : Int)) (len := l0) (cap := f1) rfl Tryz.runUnderlying125 Tryz.sizeOf60 kr kr j1) ?_
  refine wU [8, 9, 10] ?_
  refine wY (.pointer (some ⟨r0, s0 + i * 2, none⟩)) rfl (fun w _ => Y_idx (a := e1) (i := ((i : Nat) : Int)) (len := l0) (cap := f1) rfl Tryz.runUnderlying125 Tryz.sizeOf60 kr kr j1) ?_
  refine wU [12, 14, 15] ?_
  refine wLd (Pt q 0) 0 Tryz.isAgg96 ?_
  refine wY (.agg #[I c0.job, I c0.task]) rfl (fun w hF => Y_loadF rfl (Tryz.isAgg60 w) (Tryz.sizeOf60 w) kr rfl ⟨hF 1 _ _ rfl, hF 2 _ _ rfl, trivial⟩) ?_
  refine wLd (I c0.job) 3 Tryz.isAgg3 ?_
  refine wY (.pointer (some ⟨p, 12 + (c0.job.toNat) * 5, none⟩)) rfl (fun w _ => Y_idxA (b := p) (off := 12) c0.job (c0.job.toNat) Tryz.runUnderlying100 Tryz.sizeOf99) ?_
  refine wU [17] ?_
  refine wLd (I w0.band) 4 Tryz.isAgg3 ?_
  refine wO rfl ?_
  have y5 := (x5.pick 9 rfl)
  refine cX Tryz.call60 (iq_push hQi c0 w0.band om (Sat.flat1 y5)) ?_
  rintro _ _ ⟨z5, rfl, a6, b6⟩
  have p2 := Sat.unflat1 b6
  refine nilO ⟨⟨dI, dI, dI, .inr ((t0.up 2 rfl).cell p2 (k := 0) rfl), dI, trivial⟩, ?_⟩
  refine wN ?_
  refine blockK_n <| thenK_n <| regionE <| pu1 ?_
  refine sAdd ((i : Nat) : Int) 1 ?_
  refine pu1 <| nT ?_
  have c6 := (p2.picks [9, 9, 9, 9, 9, 9, 9, 9, 9])
  exact ⟨(i + 1, (pushQ qi c0 w0.band), z5), od, alA, c6, om, a6, (by rw [drain_take i1, ← hqe]; unfold pushR; rw [getD_some l1, ← w5])⟩
 refine exitE <| xB <| thenK_n <| sR <| pu3 ?_
 refine sLp g0 (ptr_up 4 rfl tri_pre) 9 (.slice aa an ak) (Tryz.isAgg94 _) ?_
 refine pu1 ?_
 refine sIdxO hOa x (x).toNat Tryz.runUnderlying94 Tryz.sizeOf103 ?_
 intro d6 _ _ q2 e6 _
 refine sLp g0 (e6.up 6 rfl) 0 (Pt d6 0) (Tryz.isAgg103 _) ?_
 obtain ⟨r2, x8, s2, t2, f6⟩ := Obs.get hAs q2
 have g6 := (g0.pick 8 rfl)
 have h6 := Sat.openN (A := []) x.toNat t2 g6
 refine cX Tryz.call69 (ar_reset f6  (Sat.flat1 h6)) ?_
 rintro _ _ ⟨i6, rfl, j6, k6⟩
 have l6 := Sat.unflat1 k6
 have m6 := (l6.picks [1, 1])
 have n6 := Sat.shutN (d := i6) (A := []) x.toNat t2 m6
 have u2 := Obs.set hAs q2 j6
 refine nT <| sR <| pu2 ?_
 have o6 := (n6.picks [0, 7, 7, 7])
 refine cX Tryz.call70 (f_idle hOw hOa u2 x 4 (by first | omega | (dsimp only; omega) | (simp only [List.length_set]; omega)) (by first | omega | (dsimp only; omega) | (simp only [List.length_set]; omega)) o6) ?_
 rintro _ _ ⟨_, rfl, p6, v2⟩
 refine nT <| sR <| pu4 ?_
 refine sLp v2 (ptr_up 0 rfl (tri_post (k := 332) (tri_len (sz := 5) (m := 12) fR hxl))) 3 (I F.st.crashes) (Tryz.isAgg3 _) ?_
 refine sAdd F.st.crashes 1 ?_
 refine pu3 ?_
 refine sTpost v2 0 332 3 rfl (I (F.st.crashes + 1)) [I (F.st.crashes + 1)] [I F.st.starts, I F.st.commits, I F.st.drops, I (F.st.crashes + 1), I F.st.steals, I F.st.helps, I F.st.spills, I F.st.queued, I F.st.held, I F.st.cells] (tri_len (sz := 5) (m := 12) fR hxl) Tryz.sizeOf3 ?_
 intro _ w2
 refine nT <| sR <| pu2 ?_
 refine lA w2 7 1 2 (Tryz.isAgg60 _) (Tryz.sizeOf60 _) ?_
 refine pu1 ?_
 refine sBS w2 #[I 10, I x, I 0, I 0, I v0.heldJob, I v0.heldTask, I 0] Tryz.runUnderlying38 Tryz.sizeOf62 Tryz.zeroValue62 ?_
 intro x2 _ q6
 refine pu2 <| nT <| retE <| retT [.slice (At x2 0) 1 1, I 0] ?_
 have r6 := OwnT.blk (enc := encEvt) (sz := 7) (b := x2) (c := #[I 10, I x, I 0, I 0, I v0.heldJob, I v0.heldTask, I 0]) (E := 62) (xs := [(⟨10, x, 0, 0, v0.heldJob, v0.heldTask, 0⟩ : Evt)]) fR 1 rfl rfl rfl om
 have s6 := ((q6.picks [11, 11, 7, 7, 11, 8, 8, 8]).drops [9, 9, 9])
 have t6 := ((s6.merge8).pick 1 rfl)
 have he : crashF F x = ((⟨F.cfg, (F.ws.set x.toNat ⟨4, 0, 0, 0, 0, 0, ((F.ar.set x.toNat (resetA r2)).getD x.toNat default).high⟩), (F.ar.set x.toNat (resetA r2)), (F.dq.set x.toNat ({ j2 with l := [] } : DS)), qi, F.jobs, (⟨F.st.starts, F.st.commits, F.st.drops, (F.st.crashes + 1), F.st.steals, F.st.helps, F.st.spills, F.st.queued, F.st.held, F.st.cells⟩ : Stt)⟩ : FS), [(⟨10, x, 0, 0, v0.heldJob, v0.heldTask, 0⟩ : Evt)], 0) := (crash_free om hv0 om (busy_no hfr hjv) k2 s2).trans (by rw [getD_some (set_at s2), hqe, List.take_of_length_le om]; rfl)
 rw [he]; exact ⟨_, _, _, _, _, rfl, r6, ⟨_, _, _, _, _, _, _, _, _, _, _, _, _, _, _, _, _, _, _, _, rfl, p6, hOa, hOd, u2, r5, hQi, hJs, hxl⟩, t6⟩
theorem f_crash {W w : World} {p : Nat} {F : FS} {M H : Chunk} {F0 : List Chunk} (hR : FarmR p F M) {K : Int} (hF : FW F K) (hst : StOk F.st K) (x : Int) (hx : 0 ≤ x ∧ x < F.ws.length) (hS : Sat W w (M :: H :: F0)) :
  Calls Tryz.prog 20 #[Pt p 0, I x] w fun e w' => ∃ (az : Option Addr) (nz kz : Nat) (G M' : Chunk), e = .returned (.tuple #[.slice az nz kz, I (crashF F x).2.2]) ∧ OwnT encEvt 62 7 az nz kz (crashF F x).2.1 G ∧ FarmR p (crashF F x).1 M' ∧ Sat W w' (G :: M' :: H :: F0) := by
 by_cases hb : busyW F (wAt F x) = true
 ·unfold busyW at hb
  obtain ⟨h1, h2⟩ := (Bool.and_eq_true _ _).mp hb
  exact f_crash_b hR hF hst x hx (hF.wmem hx) (of_decide_eq_true h1) (fun s hs => by rw [← h2]; unfold jobAt; rw [getD_some hs]) hS
 ·exact f_crash_f hR hF hst x hx (hF.wmem hx) (fun h1 s hs h2 => hb (by unfold busyW jobAt; rw [getD_some hs, h2, decide_eq_true h1]; rfl)) hS
theorem f_cancel_r {p : Nat} {F : FS} {M : Chunk} {F0 : List Chunk} (hR : FarmR p F M) {K : Int} {j : JS} (hF : FW F K) (hst : StOk F.st K) (x : Int) (hx : 0 ≤ x ∧ x < 64) (hj : F.jobs[x.toNat]? = some j) (ha : j.added = true) (hrun : j.running = true) (hS : Sat W w (M :: H :: F0)) :
  Calls Tryz.prog 24 #[Pt p 0, I x] w fun e w' => ∃ (az : Option Addr) (nz kz : Nat) (G M' : Chunk), e = .returned (.tuple #[.slice az nz kz, I (cancelF F x).2.2]) ∧ OwnT encEvt 62 7 az nz kz (cancelF F x).2.1 G ∧ FarmR p (cancelF F x).1 M' ∧ Sat W w' (G :: M' :: H :: F0) := by
 obtain ⟨wa, aa, da, wn, wk, an, ak, dn, dk, q, xs, ap, dp, Wc, Ac, Dc, Qc, acs, dcs, jcs, rfl, hOw, hOa, hOd, hAs, hDs, hQ, hJs, hxl⟩ := hR
 have hS : Sat W _ ((Tri p 102 (preF F.cfg wa wn wk aa an ak da dn dk q) (xs.flatMap encFJob) (encStt F.st)) :: Wc :: Ac :: Dc :: acs.flatten :: dcs.flatten :: Qc :: jcs.flatten :: H :: F0) := Sat.perm hS (by simp [Value.cells])
 have hwl := hOw.len; have hwk := hOw.le; have hal := hOa.len; have hak := hOa.le; have hdl := hOd.len; have hdk := hOd.le; have has1 := hAs.1; have hds1 := hDs.1; have hjs1 := hJs.1
 have hal_ := hF.al; have hdl_ := hF.dl; have hjl_ := hF.jl; have hn_ := hF.n; have hk_ := hF.k; have hs1 := hst.a; have hs2 := hst.b; have hs3 := hst.c; have hs4 := hst.d; have hs5 := hst.e; have hs6 := hst.f; have hs7 := hst.g
 obtain ⟨_, hb0, _⟩ := hF.j j (List.mem_of_getElem? hj); obtain ⟨hBW, _, hb1, hb2⟩ := hb0 ha
 obtain ⟨g2, g0⟩ := at_some hxl (k := (x.toNat)) om
 obtain ⟨a0, h2, o0, p0, x0⟩ := Obs.get hJs g0
 obtain rfl : a0 = j := Option.some.inj (o0.symm.trans hj)
 obtain ⟨b0, c0, d0, e0, f0, h0, i0, rfl, rfl, k0, y0, q0, z0⟩ := x0.open ha
 have a1 := (hS.pick 7 rfl)
 have b1 := Sat.openN (A := []) (x.toNat) p0 a1
 have c1 : Sat W _ (h0 :: i0 :: (jcs.eraseIdx (x.toNat)).flatten :: (Tri p 102 (preF F.cfg wa wn wk aa an ak da dn dk q) (xs.flatMap encFJob) (encStt F.st)) :: Wc :: Ac :: Dc :: acs.flatten :: dcs.flatten :: Qc :: H :: F0) := Sat.perm b1 (by simp [Value.cells])
 have hn_ta_7 := k0.len; have hl_ta_7 := k0.le; have hm_ta_7 := congrArg List.length q0; rw [List.length_map] at hm_ta_7
 have hj := o0
 refine callsA 68 Tryz.func24 rfl ?_
 refine sR <| pu2 <| nT <| seqE <| sR <| pu1 ?_
 have d1 := (c1.pick 3 rfl)
 refine cX Tryz.call56 (f_zero om d1) ?_
 rintro _ _ ⟨rfl, l0⟩
 refine pu5 ?_
 refine sD 13 (x < 0) (fun e1 => ?_) (fun e1 => ?_)
 ·refine pu13 <| nT <| cTt <| sR <| pu2 <| nT <| retE <| thenK_r <| retT [.slice none 0 0, I 16] ?_
  omega
 refine pu4 ?_
 refine sD 17 (x ≥ 64) (fun f1 => ?_) (fun f1 => ?_)
 ·refine pu9 <| nT <| cTt <| sR <| pu2 <| nT <| retE <| thenK_r <| retT [.slice none 0 0, I 16] ?_
  omega
 refine pu4 <| gY ?_
 refine sIdxA (b := p) (off := 12) x (x.toNat) Tryz.runUnderlying100 Tryz.sizeOf99 ?_
 refine pu1 <| gY ?_
 refine sLp l0 (ptr_up 0 rfl (tri_el (sz := 5) (n0 := 12) fR g0)) 0 (.bool true) (Tryz.isAgg4 _) ?_
 refine pu2 <| nT <| cFf <| kT <| seqE <| sR <| pu4 ?_
 refine sIdxA (b := p) (off := 12) x (x.toNat) Tryz.runUnderlying100 Tryz.sizeOf99 ?_
 refine pu1 ?_
 refine sLp l0 (ptr_up 0 rfl (tri_el (sz := 5) (n0 := 12) fR g0)) 1 (.bool a0.running) (Tryz.isAgg4 _) ?_
 refine pu1 <| nT ?_
 refine cF _ (congrArg Bool.not hrun) ?_
 refine kT <| sR <| pu4 ?_
 refine sIdxA (b := p) (off := 12) x (x.toNat) Tryz.runUnderlying100 Tryz.sizeOf99 ?_
 refine pu1 ?_
 refine sTel (enc := encFJob) (sz := 5) l0 fR 0 (x.toNat) 12 1 (⟨true, a0.running, a0.band, ⟨b0, c0, d0, e0⟩, some ⟨f0, 0, none⟩⟩ : FJob) (⟨true, false, a0.band, ⟨b0, c0, d0, e0⟩, some ⟨f0, 0, none⟩⟩ : FJob) g0 (.bool false) [.bool false] Tryz.sizeOf4 ?_
 intro _ r0
 refine nT <| sR <| pu3 ?_
 refine sLp r0 (ptr_up 0 rfl tri_pre) 11 (Pt q 0) (Tryz.isAgg96 _) ?_
 refine pu1 ?_
 have g1 := (r0.pick 9 rfl)
 refine cX Tryz.call74 (iq_remove hQ x (Sat.flat1 g1)) ?_
 rintro _ _ ⟨m0, _, rfl, h1, i1⟩
 have j1 := Sat.unflat1 i1
 refine nT <| seqE <| sR <| pu1 <| nT <| blockE ?_
 have k1 := (j1.picks [4, 4, 4])
 have l1 : Sat W _ ((h0 ++ i0) :: (jcs.eraseIdx (x.toNat)).flatten :: m0 :: (Tri p 102 (preF F.cfg wa wn wk aa an ak da dn dk q) ((xs.set (x.toNat) (⟨true, false, a0.band, ⟨b0, c0, d0, e0⟩, some ⟨f0, 0, none⟩⟩ : FJob)).flatMap encFJob) (encStt F.st)) :: Wc :: Ac :: Dc :: acs.flatten :: dcs.flatten :: H :: F0) := Sat.perm (show Sat W _ (h0 :: i0 :: (jcs.eraseIdx (x.toNat)).flatten :: m0 :: (Tri p 102 (preF F.cfg wa wn wk aa an ak da dn dk q) ((xs.set (x.toNat) (⟨true, false, a0.band, ⟨b0, c0, d0, e0⟩, some ⟨f0, 0, none⟩⟩ : FJob)).flatMap encFJob) (encStt F.st)) :: Wc :: Ac :: Dc :: acs.flatten :: dcs.flatten :: H :: F0) from k1) (by simp [Value.cells])
 have m1 := Sat.shutN (d := h0 ++ i0) (A := []) (x.toNat) p0 l1
 have n1 := Obs.set3 (p' := (⟨true, false, a0.band, ⟨b0, c0, d0, e0⟩, some ⟨f0, 0, none⟩⟩ : FJob)) hJs g0 (JobM.mk (s := { a0 with running := false }) ha k0 y0 q0 z0)
 refine loopA (γ := Nat × (List DS) × (List Chunk)) (fun ⟨i, dqi, dci⟩ => [(0, Pt p 0), (1, I x), (6, I ((i : Nat) : Int))]) (fun ⟨i, dqi, dci⟩ w => Sat W w ((jcs.set (x.toNat) (h0 ++ i0)).flatten :: m0 :: (Tri p 102 (preF F.cfg wa wn wk aa an ak da dn dk q) ((xs.set (x.toNat) (⟨true, false, a0.band, ⟨b0, c0, d0, e0⟩, some ⟨f0, 0, none⟩⟩ : FJob)).flatMap encFJob) (encStt F.st)) :: Wc :: Ac :: Dc :: acs.flatten :: dci.flatten :: H :: F0) ∧ i ≤ dn ∧ (Obs DqR dp dqi dci) ∧ (dqi = (F.dq.take i).map (rmD x) ++ F.dq.drop i)) (fun ⟨i, dqi, dci⟩ => dn - i) (0, F.dq, dcs) ⟨m1, om, hDs, by simp⟩ ?_
 rintro ⟨i, dqi, dci⟩ ρ _ ⟨j0, hi, hDi, hde⟩
 have hds2 := hDi.1
 refine seqE <| sR <| pu4 ?_
 refine sLp j0 (ptr_up 2 rfl tri_pre) 10 (.slice da dn dk) (Tryz.isAgg95 _) ?_
 refine pu2 <| nT ?_
 refine cD (((i : Nat) : Int) < ((dn : Nat) : Int)) (fun o1 => ?_) (fun o1 => ?_)
 ·refine kT <| seqE <| blockE <| regionE <| pu3 ?_
  refine sLp j0 (ptr_up 2 rfl tri_pre) 10 (.slice da dn dk) (Tryz.isAgg95 _) ?_
  refine pu1 ?_
  refine sIdxO hOd ((i : Nat) : Int) i Tryz.runUnderlying95 Tryz.sizeOf106 ?_
  intro p1 _ _ s0 q1 _
  refine sLp j0 (q1.up 5 rfl) 0 (Pt p1 0) (Tryz.isAgg106 _) ?_
  refine pu1 ?_
  obtain ⟨t0, q2, r1, u0, s1⟩ := Obs.get hDi s0
  have t1 := (j0.pick 7 rfl)
  have u1 := Sat.openN (A := []) i u0 t1
  refine cX Tryz.call75 (dq_remove s1 x (Sat.flat1 u1)) ?_
  rintro _ _ ⟨v0, _, rfl, v1, w1⟩
  have x1 := Sat.unflat1 w1
  have y1 := (x1.picks [1, 1])
  have z1 := Sat.shutN (d := v0) (A := []) i u0 y1
  have a2 := Obs.set hDi s0 v1
  refine nB <| regionE <| pu1 ?_
  refine sAdd ((i : Nat) : Int) 1 ?_
  refine pu1 <| nT ?_
  have b2 := (z1.picks [7, 7, 7, 7, 7, 7, 7])
  exact ⟨(i + 1, (dqi.set i ({ t0 with l := without x t0.l } : DS)), (dci.set i v0)), od, alA, b2, om, a2, (rm_step hde r1)⟩
 refine exitE <| xB <| thenK_n <| sR <| pu2 ?_
 refine sBS j0 #[I 2, I 0, I 0, I x, I 0, I 0, I 0] Tryz.runUnderlying38 Tryz.sizeOf62 Tryz.zeroValue62 ?_
 intro w0 _ c2
 refine pu2 <| nT <| retE <| retT [.slice (At w0 0) 1 1, I 0] ?_
 have d2 := OwnT.blk (enc := encEvt) (sz := 7) (b := w0) (c := #[I 2, I 0, I 0, I x, I 0, I 0, I 0]) (E := 62) (xs := [(⟨2, 0, 0, x, 0, 0, 0⟩ : Evt)]) fR 1 rfl rfl rfl om
 have e2 := (c2.picks [1, 2, 8, 8, 8, 8, 8, 8])
 have f2 := ((e2.merge8).pick 1 rfl)
 have he : cancelF F x = ((⟨F.cfg, F.ws, F.ar, dqi, ({ F.q with bs := F.q.bs.map (without x) } : QS), (F.jobs.set (x.toNat) ({ a0 with running := false })), F.st⟩ : FS), [(⟨2, 0, 0, x, 0, 0, 0⟩ : Evt)], 0) := (cancel_at om hj ha hrun).trans (by rw [hde, List.take_of_length_le om, List.drop_of_length_le om, List.append_nil])
 rw [he]; exact ⟨_, _, _, _, _, rfl, d2, ⟨_, _, _, _, _, _, _, _, _, _, _, _, _, _, _, _, _, _, _, _, rfl, hOw, hOa, hOd, hAs, hDi, h1, n1, (set_len hxl)⟩, f2⟩
theorem f_cancel_n {p : Nat} {F : FS} {M : Chunk} {F0 : List Chunk} (hR : FarmR p F M) {K : Int} (hF : FW F K) (hst : StOk F.st K) (x : Int) (hno : 0 ≤ x ∧ x < 64 → ∀ s, F.jobs[x.toNat]? = some s → s.added = true → ¬ s.running = true) (hS : Sat W w (M :: H :: F0)) :
  Calls Tryz.prog 24 #[Pt p 0, I x] w fun e w' => ∃ (az : Option Addr) (nz kz : Nat) (G M' : Chunk), e = .returned (.tuple #[.slice az nz kz, I (cancelF F x).2.2]) ∧ OwnT encEvt 62 7 az nz kz (cancelF F x).2.1 G ∧ FarmR p (cancelF F x).1 M' ∧ Sat W w' (G :: M' :: H :: F0) := by
 obtain ⟨wa, aa, da, wn, wk, an, ak, dn, dk, q, xs, ap, dp, Wc, Ac, Dc, Qc, acs, dcs, jcs, rfl, hOw, hOa, hOd, hAs, hDs, hQ, hJs, hxl⟩ := hR
 have hS : Sat W _ ((Tri p 102 (preF F.cfg wa wn wk aa an ak da dn dk q) (xs.flatMap encFJob) (encStt F.st)) :: Wc :: Ac :: Dc :: acs.flatten :: dcs.flatten :: Qc :: jcs.flatten :: H :: F0) := Sat.perm hS (by simp [Value.cells])
 have hwl := hOw.len; have hwk := hOw.le; have hal := hOa.len; have hak := hOa.le; have hdl := hOd.len; have hdk := hOd.le; have has1 := hAs.1; have hds1 := hDs.1; have hjs1 := hJs.1
 have hal_ := hF.al; have hdl_ := hF.dl; have hjl_ := hF.jl; have hn_ := hF.n; have hk_ := hF.k; have hs1 := hst.a; have hs2 := hst.b; have hs3 := hst.c; have hs4 := hst.d; have hs5 := hst.e; have hs6 := hst.f; have hs7 := hst.g
 refine callsA 68 Tryz.func24 rfl ?_
 refine sR <| pu2 <| nT <| seqE <| sR <| pu1 ?_
 refine cX Tryz.call56 (f_zero om hS) ?_
 rintro _ _ ⟨rfl, a0⟩
 refine pu5 ?_
 refine sD 13 (x < 0) (fun i0 => ?_) (fun i0 => ?_)
 ·refine pu13 <| nT <| cTt <| sR <| pu2 <| nT <| retE <| thenK_r <| retT [.slice none 0 0, I 16] ?_
  have j0 := Sat.nilc a0
  have k0 := (j0.picks [8, 8, 8, 8, 8, 8, 8, 8])
  have l0 := ((k0.merge8).pick 1 rfl)
  have he : cancelF F x = (F, [], 16) := cancel_unk om
  rw [he]; exact ⟨_, _, _, _, _, rfl, (OwnT.nil (enc := encEvt) (E := 62) (sz := 7) fR), ⟨_, _, _, _, _, _, _, _, _, _, _, _, _, _, _, _, _, _, _, _, rfl, hOw, hOa, hOd, hAs, hDs, hQ, hJs, hxl⟩, l0⟩
 refine pu4 ?_
 refine sD 17 (x ≥ 64) (fun m0 => ?_) (fun m0 => ?_)
 ·refine pu9 <| nT <| cTt <| sR <| pu2 <| nT <| retE <| thenK_r <| retT [.slice none 0 0, I 16] ?_
  have o0 := Sat.nilc a0
  have p0 := (o0.picks [8, 8, 8, 8, 8, 8, 8, 8])
  have q0 := ((p0.merge8).pick 1 rfl)
  have he : cancelF F x = (F, [], 16) := cancel_unk om
  rw [he]; exact ⟨_, _, _, _, _, rfl, (OwnT.nil (enc := encEvt) (E := 62) (sz := 7) fR), ⟨_, _, _, _, _, _, _, _, _, _, _, _, _, _, _, _, _, _, _, _, rfl, hOw, hOa, hOd, hAs, hDs, hQ, hJs, hxl⟩, q0⟩
 refine pu4 <| gY ?_
 obtain ⟨b0, e0⟩ := at_some hxl (k := (x.toNat)) om
 obtain ⟨r0, a1, c0, b1, s0⟩ := Obs.get hJs e0; obtain ⟨f0, g0, c1, d1⟩ := s0.fields; have e1 := hF.j r0 (List.mem_of_getElem? c0)
 have hno_x_11 : b0.added = true → ¬ b0.running = true := fun h1 h2 => hno om _ c0 (f0 ▸ h1) (g0 ▸ h2)
 refine sIdxA (b := p) (off := 12) x (x.toNat) Tryz.runUnderlying100 Tryz.sizeOf99 ?_
 refine pu1 <| gY ?_
 refine sLp a0 (ptr_up 0 rfl (tri_el (sz := 5) (n0 := 12) fR e0)) 0 (.bool b0.added) (Tryz.isAgg4 _) ?_
 refine pu2 <| nT ?_
 refine cBn b0.added (fun d0 => ?_) (fun d0 => ?_)
 rotate_left
 ·refine sR <| pu2 <| nT <| retE <| thenK_r <| retT [.slice none 0 0, I 16] ?_
  have t0 := Sat.nilc a0
  have u0 := (t0.picks [8, 8, 8, 8, 8, 8, 8, 8])
  have v0 := ((u0.merge8).pick 1 rfl)
  have he : cancelF F x = (F, [], 16) := cancel_not c0 (f0 ▸ d0)
  rw [he]; exact ⟨_, _, _, _, _, rfl, (OwnT.nil (enc := encEvt) (E := 62) (sz := 7) fR), ⟨_, _, _, _, _, _, _, _, _, _, _, _, _, _, _, _, _, _, _, _, rfl, hOw, hOa, hOd, hAs, hDs, hQ, hJs, hxl⟩, v0⟩
 refine kT <| seqE <| sR <| pu4 ?_
 refine sIdxA (b := p) (off := 12) x (x.toNat) Tryz.runUnderlying100 Tryz.sizeOf99 ?_
 refine pu1 ?_
 refine sLp a0 (ptr_up 0 rfl (tri_el (sz := 5) (n0 := 12) fR e0)) 1 (.bool b0.running) (Tryz.isAgg4 _) ?_
 refine pu1 <| nT ?_
 have h0 : ¬ (b0.running = true) := hno_x_11 d0
 refine cT _ (congrArg Bool.not (Bool.eq_false_iff.2 h0)) ?_
 refine sR <| pu2 <| nT <| retE <| thenK_r <| retT [.slice none 0 0, I 18] ?_
 have w0 := Sat.nilc a0
 have x0 := (w0.picks [8, 8, 8, 8, 8, 8, 8, 8])
 have y0 := ((x0.merge8).pick 1 rfl)
 have he : cancelF F x = (F, [], 18) := cancel_fin om c0 (f0 ▸ d0) (g0 ▸ h0)
 rw [he]; exact ⟨_, _, _, _, _, rfl, (OwnT.nil (enc := encEvt) (E := 62) (sz := 7) fR), ⟨_, _, _, _, _, _, _, _, _, _, _, _, _, _, _, _, _, _, _, _, rfl, hOw, hOa, hOd, hAs, hDs, hQ, hJs, hxl⟩, y0⟩
theorem f_cancel {W w : World} {p : Nat} {F : FS} {M H : Chunk} {F0 : List Chunk} (hR : FarmR p F M) {K : Int} (hF : FW F K) (hst : StOk F.st K) (x : Int)  (hS : Sat W w (M :: H :: F0)) :
  Calls Tryz.prog 24 #[Pt p 0, I x] w fun e w' => ∃ (az : Option Addr) (nz kz : Nat) (G M' : Chunk), e = .returned (.tuple #[.slice az nz kz, I (cancelF F x).2.2]) ∧ OwnT encEvt 62 7 az nz kz (cancelF F x).2.1 G ∧ FarmR p (cancelF F x).1 M' ∧ Sat W w' (G :: M' :: H :: F0) := by
 by_cases hb : 0 ≤ x ∧ x < 64 ∧ (jobAt F x).added = true ∧ (jobAt F x).running = true
 ·obtain ⟨h1, h2, h3, h4⟩ := hb
  obtain ⟨j, hj⟩ := at_some hF.jl (k := x.toNat) om
  unfold jobAt at h3 h4; rw [getD_some hj] at h3 h4
  exact f_cancel_r hR hF hst x ⟨h1, h2⟩ hj h3 h4 hS
 ·by_cases h0 : 0 ≤ x ∧ x < 64
  ·exact f_cancel_n hR hF hst x (fun _ s hs h1 h2 => hb ⟨h0.1, h0.2, by unfold jobAt; rw [getD_some hs]; exact ⟨h1, h2⟩⟩) hS
  ·exact f_cancel_n hR hF hst x (fun h1 => absurd h1 h0) hS
end Go.Proofs.YtegmennaekipaaaGreat
