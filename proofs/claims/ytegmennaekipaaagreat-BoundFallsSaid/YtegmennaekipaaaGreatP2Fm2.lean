import Derived.Test.YtegmennaekipaaaGreatP2Iq
namespace Go.Proofs.YtegmennaekipaaaGreat
open Go Go.E
set_option linter.unusedVariables false
set_option linter.unusedSimpArgs false
set_option linter.unnecessarySimpa false
set_option maxRecDepth 100000
set_option maxHeartbeats 2000000
variable {W w : World} {H : Chunk} {F : List Chunk}
-- squeezed
theorem f_micro {p : Nat} {F : FS} {M : Chunk} {F0 : List Chunk} (hR : FarmR p F M) {j : JS} {K : Int} {v0 : Wkr} (x : Int) (hx : 0 ≤ x ∧ x < F.ws.length) (hal_ : F.ar.length = F.ws.length) (hdl_ : F.dq.length = F.ws.length) (hv0 : F.ws[x.toNat]? = some v0) (hr : 0 ≤ v0.heldJob ∧ v0.heldJob < 64) (hj : F.jobs[v0.heldJob.toNat]? = some j) (ha : j.added = true) (hBW : BWf j.B K) (hrt : 0 ≤ v0.heldTask ∧ v0.heldTask < j.tasks.length) (htl : j.tasks.length ≤ 4096 ∧ j.B.deps.length = j.tasks.length) (hbd : 0 ≤ j.band ∧ j.band < 4) (hrow : 0 ≤ v0.row ∧ v0.row ≤ 4096) (hst : 0 ≤ F.st.commits ∧ F.st.commits < 4611686018427387904 ∧ 0 ≤ F.st.spills ∧ F.st.spills < 4611686018427387904) (hS : Sat W w (M :: H :: F0)) :
  Calls Tryz.prog 81 #[Pt p 0, I x] w fun e w' => ∃ M' : Chunk, e = .returned (.agg (encEvt (microF F x).2).toArray) ∧ FarmR p ((microF F x).1) M' ∧ Sat W w' (M' :: H :: F0) := by
 obtain ⟨wa, aa, da, wn, wk, an, ak, dn, dk, q, xs, ap, dp, Wc, Ac, Dc, Qc, acs, dcs, jcs, rfl, hOw, hOa, hOd, hAs, hDs, hQ, hJs, hxl⟩ := hR
 have hS : Sat W _ ((Tri p 102 (preF F.cfg wa wn wk aa an ak da dn dk q) (xs.flatMap encFJob) (encStt F.st)) :: Wc :: Ac :: Dc :: acs.flatten :: dcs.flatten :: Qc :: jcs.flatten :: H :: F0) := Sat.perm hS (by simp [Value.cells])
 have hwl := hOw.len; have hwk := hOw.le; have hal := hOa.len; have hak := hOa.le; have hdl := hOd.len; have hdk := hOd.le; have has1 := hAs.1; have hds1 := hDs.1; have hjs1 := hJs.1
 obtain ⟨ca, g0⟩ := at_some hxl (k := (v0.heldJob.toNat)) om
 obtain ⟨b0, ea, r0, f1, w4⟩ := Obs.get hJs g0
 obtain rfl : b0 = j := Option.some.inj (r0.symm.trans hj)
 obtain ⟨t0, s0, u0, q1, z0, d0, l0, rfl, rfl, a1, k1, m0, r1⟩ := w4.open ha
 have x4 := (hS.pick 7 rfl)
 have y4 := Sat.openN (A := []) (v0.heldJob.toNat) f1 x4
 have z4 : Sat W _ (d0 :: l0 :: (jcs.eraseIdx (v0.heldJob.toNat)).flatten :: (Tri p 102 (preF F.cfg wa wn wk aa an ak da dn dk q) (xs.flatMap encFJob) (encStt F.st)) :: Wc :: Ac :: Dc :: acs.flatten :: dcs.flatten :: Qc :: H :: F0) := Sat.perm y4 (by simp [Value.cells])
 have hn_ta_7 := a1.len; have hl_ta_7 := a1.le; have hm_ta_7 := congrArg List.length m0; rw [List.length_map] at hm_ta_7
 have hv00 := hv0
 refine callsA 211 Tryz.func81 rfl ?_
 refine sR ?_
 refine sAlloc z4 Tryz.zeroValue62 ?_
 intro i0 _ n2
 refine nT <| sR <| pu3 ?_
 refine sLp n2 (ptr_up 4 rfl tri_pre) 8 (.slice wa wn wk) (Tryz.isAgg66 _) ?_
 refine pu1 ?_
 refine sIdxO hOw x (x).toNat Tryz.runUnderlying66 Tryz.sizeOf69 ?_
 intro a5 a2 b2 b1 g1 o0
 obtain rfl : v0 = a5 := Option.some.inj (hv0.symm.trans b1)
 refine pu1 <| nT <| seqE ?_
 refine drawE [] [(5, ⟨a2, b2 + (x).toNat * 7 + 1 + 0, none⟩, I v0.heldJob)] [(true, [0, 1, 2, 3, 4, 6, 7]), (true, [5]), (true, [8]), (true, [9])] rfl kr ⟨.inr ((g1.up 5 rfl).cell n2 (k := 1) rfl), trivial⟩ ?_
 have p0 := n2.drew
 refine wU [0, 1, 2, 3, 4, 6, 7] ?_
 refine wLd (I v0.heldJob) 0 Tryz.isAgg3 ?_
 refine wY (.pointer (some ⟨p, 12 + (v0.heldJob.toNat) * 5, none⟩)) rfl (fun w _ => Y_idxA (b := p) (off := 12) v0.heldJob (v0.heldJob.toNat) Tryz.runUnderlying100 Tryz.sizeOf99) ?_
 refine wU [9] ?_
 refine wN ?_
 refine thenK_n <| seqE ?_
 obtain ⟨a0, w0, x0, l1, e0, b5⟩ := RdT.elem a1 v0.heldTask
 refine drawE [11, 12] [(3, ⟨p, 12 + (v0.heldJob.toNat) * 5 + 3, none⟩, .slice t0 s0 u0), (8, ⟨a2, b2 + (x).toNat * 7 + 1 + 1, none⟩, I v0.heldTask), (10, ⟨w0, x0 + 0, none⟩, I a0.stage), (10, ⟨w0, x0 + 1, none⟩, I a0.part), (10, ⟨w0, x0 + 2, none⟩, I a0.rectX0), (10, ⟨w0, x0 + 3, none⟩, I a0.rectY0), (10, ⟨w0, x0 + 4, none⟩, I a0.rectX1), (10, ⟨w0, x0 + 5, none⟩, I a0.rectY1), (10, ⟨w0, x0 + 6, none⟩, .slice a0.deps.a a0.deps.n a0.deps.k), (10, ⟨w0, x0 + 7, none⟩, I a0.rows), (10, ⟨w0, x0 + 8, none⟩, I a0.scratch)] [(true, [0, 1, 2, 4, 5, 6, 7]), (true, [3]), (true, [8]), (true, [9]), (true, [10]), (false, [11]), (false, [12])] rfl kr ⟨.inr (cell_up p0 4 rfl (k := 3) (tri_el (sz := 5) (n0 := 12) fR g0) rfl), .inr ((g1.up 5 rfl).cell p0 (k := 2) rfl), .inr ((e0.up 1 rfl).cell p0 (k := 0) rfl), .inr ((e0.up 1 rfl).cell p0 (k := 1) rfl), .inr ((e0.up 1 rfl).cell p0 (k := 2) rfl), .inr ((e0.up 1 rfl).cell p0 (k := 3) rfl), .inr ((e0.up 1 rfl).cell p0 (k := 4) rfl), .inr ((e0.up 1 rfl).cell p0 (k := 5) rfl), .inr ((e0.up 1 rfl).cell p0 (k := 6) rfl), .inr ((e0.up 1 rfl).cell p0 (k := 7) rfl), .inr ((e0.up 1 rfl).cell p0 (k := 8) rfl), trivial⟩ ?_
 have c5 := p0.drew
 refine wU [0, 1, 2, 4, 5, 6, 7] ?_
 refine wLd (.slice t0 s0 u0) 0 Tryz.isAgg39 ?_
 refine wLd (I v0.heldTask) 1 Tryz.isAgg3 ?_
 refine wY (.pointer (some ⟨w0, x0, none⟩)) rfl (fun w _ => Y_idx (a := t0) (i := v0.heldTask) (len := s0) (cap := u0) rfl Tryz.runUnderlying39 Tryz.sizeOf45 kr kr b5) ?_
 refine wY (.agg (encTask a0).toArray) rfl (fun w hF => Y_loadF rfl (Tryz.isAgg45 w) (Tryz.sizeOf45 w) kr rfl ⟨hF 2 _ _ rfl, hF 3 _ _ rfl, hF 4 _ _ rfl, hF 5 _ _ rfl, hF 6 _ _ rfl, hF 7 _ _ rfl, hF 8 _ _ rfl, hF 9 _ _ rfl, hF 10 _ _ rfl, trivial⟩) ?_
 refine wO rfl ?_
 refine sAlloc c5 Tryz.zeroValue45 ?_
 intro h0 _ q0
 refine nilO ⟨⟨.inr (cell_up q0 5 rfl (k := 3) (tri_el (sz := 5) (n0 := 12) fR g0) rfl), .inr ((g1.up 6 rfl).cell q0 (k := 2) rfl), .inr ((e0.up 2 rfl).cell q0 (k := 0) rfl), .inr ((e0.up 2 rfl).cell q0 (k := 1) rfl), .inr ((e0.up 2 rfl).cell q0 (k := 2) rfl), .inr ((e0.up 2 rfl).cell q0 (k := 3) rfl), .inr ((e0.up 2 rfl).cell q0 (k := 4) rfl), .inr ((e0.up 2 rfl).cell q0 (k := 5) rfl), .inr ((e0.up 2 rfl).cell q0 (k := 6) rfl), .inr ((e0.up 2 rfl).cell q0 (k := 7) rfl), .inr ((e0.up 2 rfl).cell q0 (k := 8) rfl), trivial⟩, ?_⟩
 refine wO rfl ?_
 refine sT q0 0 0 (.agg (encTask a0).toArray) (encTask a0) (encTask a0).toArray Tryz.sizeOf45 ?_
 intro _ c1
 refine nilO ⟨dA, ?_⟩
 refine wN ?_
 refine thenK_n <| seqE <| sR <| pu3 ?_
 refine sLp c1 (g1.up 6 rfl) 0 (I v0.phase) (Tryz.isAgg3 _) ?_
 refine nT <| blockE <| sR <| pu2 <| nT ?_
 refine cE v0.phase 1 (fun d5 => ?_) (fun d5 => ?_)
 ·refine sR <| pu3 ?_
  refine sLp c1 (ptr_up 5 rfl tri_pre) 9 (.slice aa an ak) (Tryz.isAgg94 _) ?_
  refine pu1 ?_
  refine sIdxO hOa x (x).toNat Tryz.runUnderlying94 Tryz.sizeOf103 ?_
  intro j0 _ _ s1 e5 _
  refine sLp c1 (e5.up 7 rfl) 0 (Pt j0 0) (Tryz.isAgg103 _) ?_
  obtain ⟨c0, ma, d3, f0, f5⟩ := Obs.get hAs s1
  have g5 := (c1.pick 9 rfl)
  have h5 := Sat.openN (A := []) x.toNat f0 g5
  refine cX Tryz.call131 (ar_mark f5  (Sat.flat1 h5)) ?_
  rintro _ _ ⟨h1, rfl, c2, i5⟩
  have j5 := Sat.unflat1 i5
  have k5 := (j5.picks [1, 1])
  have y0 := Sat.shutN (d := h1) (A := []) x.toNat f0 k5
  have e3 := Obs.set hAs s1 c2
  refine nT <| seqE <| sR <| pu1 ?_
  refine sL y0 1 8 (I a0.scratch) (Tryz.isAgg3 _) ?_
  refine pu1 <| nT ?_
  refine cD (a0.scratch > 0) (fun l5 => ?_) (fun l5 => ?_)
  rotate_left
  ·refine kT <| seqE ?_
   obtain ⟨m5, d2, e2, n5, o2, f3, oa⟩ := OwnT.elem hOa x
   obtain rfl : j0 = m5 := Option.some.inj (s1.symm.trans n5)
   refine drawE [10, 18, 21, 24, 27] [(6, ⟨p, 9, none⟩, .slice aa an ak), (9, ⟨d2, e2 + (x).toNat * 1, none⟩, Pt j0 0), (14, ⟨p, 9, none⟩, .slice aa an ak), (17, ⟨d2, e2 + (x).toNat * 1, none⟩, Pt j0 0)] [(true, [0, 1, 2, 3, 4, 5, 7, 11, 12, 13, 15]), (true, [6]), (true, [8]), (true, [9]), (true, [14]), (true, [16]), (true, [17]), (false, [10]), (false, [18]), (true, [19, 20]), (false, [21]), (true, [22, 23]), (false, [24]), (true, [25, 26]), (false, [27])] rfl kr ⟨.inr (cell_up y0 6 rfl (k := 9) tri_pre rfl), .inr ((o2.up 8 rfl).cell y0 (k := 0) rfl), .inr (cell_up y0 6 rfl (k := 9) tri_pre rfl), .inr ((o2.up 8 rfl).cell y0 (k := 0) rfl), trivial⟩ ?_
   have o5 := y0.drew
   refine wU [0, 1, 2, 3, 4, 5, 7, 11, 12, 13, 15] ?_
   refine wLd (.slice aa an ak) 0 Tryz.isAgg94 ?_
   refine wY (.pointer (some ⟨d2, e2 + (x).toNat * 1, none⟩)) rfl (fun w _ => Y_idx (a := aa) (i := x) (len := an) (cap := ak) rfl Tryz.runUnderlying94 Tryz.sizeOf103 kr kr f3) ?_
   refine wLd (Pt j0 0) 1 Tryz.isAgg103 ?_
   refine wLd (.slice aa an ak) 2 Tryz.isAgg94 ?_
   refine wY (.pointer (some ⟨d2, e2 + (x).toNat * 1, none⟩)) rfl (fun w _ => Y_idx (a := aa) (i := x) (len := an) (cap := ak) rfl Tryz.runUnderlying94 Tryz.sizeOf103 kr kr f3) ?_
   refine wLd (Pt j0 0) 3 Tryz.isAgg103 ?_
   refine wO rfl ?_
   have p5 := Sat.openN (A := []) x.toNat (set_at f0) o5
   refine cX Tryz.call133 (ar_used c2  (Sat.flat1 p5)) ?_
   rintro _ _ ⟨rfl, q5⟩
   have r5 := Sat.unflat1 q5
   have s5 := (r5.picks [1, 1])
   have t1 := Sat.shutN (d := h1) (A := []) x.toNat (set_at f0) s5
   rw [set_same (set_at f0)] at t1
   refine nilO ⟨⟨.inr (cell_up t1 6 rfl (k := 9) tri_pre rfl), dI, .inr (cell_up t1 6 rfl (k := 9) tri_pre rfl), .inr ((o2.up 8 rfl).cell t1 (k := 0) rfl), trivial⟩, ?_⟩
   refine wO rfl ?_
   have t5 := Sat.openN (A := []) x.toNat (set_at f0) t1
   refine cX Tryz.call117 (ar_high c2  (Sat.flat1 t5)) ?_
   rintro _ _ ⟨rfl, u5⟩
   have v5 := Sat.unflat1 u5
   have w5 := (v5.picks [1, 1])
   have f2 := Sat.shutN (d := h1) (A := []) x.toNat (set_at f0) w5
   rw [set_same (set_at f0)] at f2
   refine nilO ⟨⟨.inr (cell_up f2 6 rfl (k := 9) tri_pre rfl), dI, .inr (cell_up f2 6 rfl (k := 9) tri_pre rfl), dI, trivial⟩, ?_⟩
   refine wU [19, 20] ?_
   refine wO rfl ?_
   refine sStF f2 hOw o0 7 (x).toNat 0 v0 (⟨2, v0.heldJob, v0.heldTask, v0.attempt, v0.row, v0.used, v0.high⟩ : Wkr) b1 (I 2) [I 2] Tryz.sizeOf3 ?_
   intro _ _ g3 x5
   refine nilO ⟨dA, ?_⟩
   refine wU [22, 23] ?_
   refine wO rfl ?_
   have h3 := set_at (y := (⟨2, v0.heldJob, v0.heldTask, v0.attempt, v0.row, v0.used, v0.high⟩ : Wkr)) b1
   have ta := OwnT.ptr g3 o0 h3
   refine sStF x5 g3 o0 7 (x).toNat 5 (⟨2, v0.heldJob, v0.heldTask, v0.attempt, v0.row, v0.used, v0.high⟩ : Wkr) (⟨2, v0.heldJob, v0.heldTask, v0.attempt, v0.row, ((markA c0)).used, v0.high⟩ : Wkr) h3 (I (((markA c0)).used)) [I (((markA c0)).used)] Tryz.sizeOf3 ?_
   intro _ _ p2 y5
   rw [List.set_set] at p2
   refine nilO ⟨dA, ?_⟩
   refine wU [25, 26] ?_
   refine wO rfl ?_
   have i3 := set_at (y := (⟨2, v0.heldJob, v0.heldTask, v0.attempt, v0.row, ((markA c0)).used, v0.high⟩ : Wkr)) b1
   have xa := OwnT.ptr p2 o0 i3
   refine sStF y5 p2 o0 7 (x).toNat 6 (⟨2, v0.heldJob, v0.heldTask, v0.attempt, v0.row, ((markA c0)).used, v0.high⟩ : Wkr) (⟨2, v0.heldJob, v0.heldTask, v0.attempt, v0.row, ((markA c0)).used, ((markA c0)).high⟩ : Wkr) i3 (I (((markA c0)).high)) [I (((markA c0)).high)] Tryz.sizeOf3 ?_
   intro _ j3 k3 z5
   rw [List.set_set] at k3
   refine nilO ⟨dA, ?_⟩
   refine wN ?_
   refine thenK_n <| sR <| pu2 ?_
   refine sT z5 2 0 (.agg #[I 6, I x, I 0, I 0, I 0, I 0, I 0]) [I 6, I x, I 0, I 0, I 0, I 0, I 0] #[I 6, I x, I 0, I 0, I 0, I 0, I 0] Tryz.sizeOf62 ?_
   intro _ l3
   refine nT <| retE <| blockK_r <| thenK_r <| retN (vs := [.agg #[I 6, I x, I 0, I 0, I 0, I 0, I 0]]) rfl (.cons (.cell _ _ _ _ kr (lvA l3 2 0 [I 6, I x, I 0, I 0, I 0, I 0, I 0] (Tryz.isAgg62 _) (Tryz.sizeOf62 _) rfl rfl rfl)) .nil) ?_
   have htk : b0.tasks[v0.heldTask.toNat]? = some a0.v := by rw [← m0, List.getElem?_map, l1]; rfl
   have a6 := (l3.picks [5, 5, 5])
   have b6 : Sat W _ ((d0 ++ l0) :: (jcs.eraseIdx (v0.heldJob.toNat)).flatten :: (acs.set x.toNat h1).flatten :: [(h0, .cells (encTask a0).toArray 45 (0, 0))] :: [(i0, .cells #[I 6, I x, I 0, I 0, I 0, I 0, I 0] 62 (0, 0))] :: (Tri p 102 (preF F.cfg wa wn wk aa an ak da dn dk q) (xs.flatMap encFJob) (encStt F.st)) :: j3 :: Ac :: Dc :: dcs.flatten :: Qc :: H :: F0) := Sat.perm (show Sat W _ (d0 :: l0 :: (jcs.eraseIdx (v0.heldJob.toNat)).flatten :: (acs.set x.toNat h1).flatten :: [(h0, .cells (encTask a0).toArray 45 (0, 0))] :: [(i0, .cells #[I 6, I x, I 0, I 0, I 0, I 0, I 0] 62 (0, 0))] :: (Tri p 102 (preF F.cfg wa wn wk aa an ak da dn dk q) (xs.flatMap encFJob) (encStt F.st)) :: j3 :: Ac :: Dc :: dcs.flatten :: Qc :: H :: F0) from a6) (by simp [Value.cells])
   have c6 := Sat.shutN (d := d0 ++ l0) (A := []) (v0.heldJob.toNat) f1 b6
   have d6 := Obs.set hJs g0 (JobM.mk (s := b0) ha a1 k1 m0 r1)
   have hjs_ := set_same r0
   have e6 := ((c6.picks [9, 9, 3, 9, 9, 9, 9]).drops [8, 8])
   have f6 := (e6.merge8)
   have he : (microF F x).1 = (⟨F.cfg, (F.ws.set ((x).toNat) (⟨2, v0.heldJob, v0.heldTask, v0.attempt, v0.row, ((markA c0)).used, ((markA c0)).high⟩ : Wkr)), (F.ar.set x.toNat (markA c0)), F.dq, F.q, (F.jobs.set (v0.heldJob.toNat) b0), F.st⟩ : FS) := by unfold microF jobAt; simp only [getD_some hv0, getD_some r0, getD_some htk, getD_some d3]; rw [if_pos om]; rw [hjs_]; rw [if_neg (show ¬ a0.v.scratch > 0 from show ¬ a0.scratch > 0 by omega)]
   exact ⟨_, by unfold microF; simp only [getD_some hv0]; rw [if_pos om]; rfl, by rw [he]; exact ⟨_, _, _, _, _, _, _, _, _, _, _, _, _, _, _, _, _, _, _, _, rfl, k3, hOa, hOd, e3, hDs, hQ, d6, hxl⟩, f6⟩
  obtain ⟨g6, m3, n3, o3, h6, i6, ab⟩ := OwnT.elem hOa x
  obtain rfl : j0 = g6 := Option.some.inj (s1.symm.trans o3)
  refine drawE [9] [(3, ⟨p, 9, none⟩, .slice aa an ak), (6, ⟨m3, n3 + (x).toNat * 1, none⟩, Pt j0 0), (8, ⟨h0, 8, none⟩, I a0.scratch)] [(true, [0, 1, 2, 4, 7]), (true, [3]), (true, [5]), (true, [6]), (true, [8]), (false, [9])] rfl kr ⟨.inr (cell_up y0 6 rfl (k := 9) tri_pre rfl), .inr ((h6.up 8 rfl).cell y0 (k := 0) rfl), .inr (y0.cell 1 rfl rfl), trivial⟩ ?_
  have j6 := y0.drew
  refine wU [0, 1, 2, 4, 7] ?_
  refine wLd (.slice aa an ak) 0 Tryz.isAgg94 ?_
  refine wY (.pointer (some ⟨m3, n3 + (x).toNat * 1, none⟩)) rfl (fun w _ => Y_idx (a := aa) (i := x) (len := an) (cap := ak) rfl Tryz.runUnderlying94 Tryz.sizeOf103 kr kr i6) ?_
  refine wLd (Pt j0 0) 1 Tryz.isAgg103 ?_
  refine wLd (I a0.scratch) 2 Tryz.isAgg3 ?_
  refine wO rfl ?_
  have k6 := Sat.openN (A := []) x.toNat (set_at f0) j6
  refine cX Tryz.call132 (ar_alloc c2 a0.scratch 16 (Sat.flat1 k6)) ?_
  rintro _ _ ⟨u1, _, rfl, q2, l6⟩
  have m6 := Sat.unflat1 l6
  have n6 := (m6.picks [1, 1])
  have m1 := Sat.shutN (d := u1) (A := []) x.toNat (set_at f0) n6
  have o6 := Obs.set e3 o3 q2
  refine nilO ⟨⟨.inr (cell_up m1 6 rfl (k := 9) tri_pre rfl), dI, dI, trivial⟩, ?_⟩
  refine wN ?_
  refine thenK_n <| seqE ?_
  obtain ⟨p6, g2, h2, q6, r2, p3, db⟩ := OwnT.elem hOa x
  obtain rfl : j0 = p6 := Option.some.inj (s1.symm.trans q6)
  refine drawE [10, 18, 21, 24, 27] [(6, ⟨p, 9, none⟩, .slice aa an ak), (9, ⟨g2, h2 + (x).toNat * 1, none⟩, Pt j0 0), (14, ⟨p, 9, none⟩, .slice aa an ak), (17, ⟨g2, h2 + (x).toNat * 1, none⟩, Pt j0 0)] [(true, [0, 1, 2, 3, 4, 5, 7, 11, 12, 13, 15]), (true, [6]), (true, [8]), (true, [9]), (true, [14]), (true, [16]), (true, [17]), (false, [10]), (false, [18]), (true, [19, 20]), (false, [21]), (true, [22, 23]), (false, [24]), (true, [25, 26]), (false, [27])] rfl kr ⟨.inr (cell_up m1 6 rfl (k := 9) tri_pre rfl), .inr ((r2.up 8 rfl).cell m1 (k := 0) rfl), .inr (cell_up m1 6 rfl (k := 9) tri_pre rfl), .inr ((r2.up 8 rfl).cell m1 (k := 0) rfl), trivial⟩ ?_
  have r6 := m1.drew
  refine wU [0, 1, 2, 3, 4, 5, 7, 11, 12, 13, 15] ?_
  refine wLd (.slice aa an ak) 0 Tryz.isAgg94 ?_
  refine wY (.pointer (some ⟨g2, h2 + (x).toNat * 1, none⟩)) rfl (fun w _ => Y_idx (a := aa) (i := x) (len := an) (cap := ak) rfl Tryz.runUnderlying94 Tryz.sizeOf103 kr kr p3) ?_
  refine wLd (Pt j0 0) 1 Tryz.isAgg103 ?_
  refine wLd (.slice aa an ak) 2 Tryz.isAgg94 ?_
  refine wY (.pointer (some ⟨g2, h2 + (x).toNat * 1, none⟩)) rfl (fun w _ => Y_idx (a := aa) (i := x) (len := an) (cap := ak) rfl Tryz.runUnderlying94 Tryz.sizeOf103 kr kr p3) ?_
  refine wLd (Pt j0 0) 3 Tryz.isAgg103 ?_
  refine wO rfl ?_
  have s6 := Sat.openN (A := []) x.toNat (set_at (set_at f0)) r6
  refine cX Tryz.call133 (ar_used q2  (Sat.flat1 s6)) ?_
  rintro _ _ ⟨rfl, t6⟩
  have u6 := Sat.unflat1 t6
  have v6 := (u6.picks [1, 1])
  have v1 := Sat.shutN (d := u1) (A := []) x.toNat (set_at (set_at f0)) v6
  rw [set_same (set_at (set_at f0))] at v1
  refine nilO ⟨⟨.inr (cell_up v1 6 rfl (k := 9) tri_pre rfl), dI, .inr (cell_up v1 6 rfl (k := 9) tri_pre rfl), .inr ((r2.up 8 rfl).cell v1 (k := 0) rfl), trivial⟩, ?_⟩
  refine wO rfl ?_
  have w6 := Sat.openN (A := []) x.toNat (set_at (set_at f0)) v1
  refine cX Tryz.call117 (ar_high q2  (Sat.flat1 w6)) ?_
  rintro _ _ ⟨rfl, x6⟩
  have y6 := Sat.unflat1 x6
  have z6 := (y6.picks [1, 1])
  have i2 := Sat.shutN (d := u1) (A := []) x.toNat (set_at (set_at f0)) z6
  rw [set_same (set_at (set_at f0))] at i2
  refine nilO ⟨⟨.inr (cell_up i2 6 rfl (k := 9) tri_pre rfl), dI, .inr (cell_up i2 6 rfl (k := 9) tri_pre rfl), dI, trivial⟩, ?_⟩
  refine wU [19, 20] ?_
  refine wO rfl ?_
  refine sStF i2 hOw o0 7 (x).toNat 0 v0 (⟨2, v0.heldJob, v0.heldTask, v0.attempt, v0.row, v0.used, v0.high⟩ : Wkr) b1 (I 2) [I 2] Tryz.sizeOf3 ?_
  intro _ _ q3 a7
  refine nilO ⟨dA, ?_⟩
  refine wU [22, 23] ?_
  refine wO rfl ?_
  have r3 := set_at (y := (⟨2, v0.heldJob, v0.heldTask, v0.attempt, v0.row, v0.used, v0.high⟩ : Wkr)) b1
  have ib := OwnT.ptr q3 o0 r3
  refine sStF a7 q3 o0 7 (x).toNat 5 (⟨2, v0.heldJob, v0.heldTask, v0.attempt, v0.row, v0.used, v0.high⟩ : Wkr) (⟨2, v0.heldJob, v0.heldTask, v0.attempt, v0.row, ((allocA (markA c0) a0.scratch 16)).used, v0.high⟩ : Wkr) r3 (I (((allocA (markA c0) a0.scratch 16)).used)) [I (((allocA (markA c0) a0.scratch 16)).used)] Tryz.sizeOf3 ?_
  intro _ _ s2 b7
  rw [List.set_set] at s2
  refine nilO ⟨dA, ?_⟩
  refine wU [25, 26] ?_
  refine wO rfl ?_
  have s3 := set_at (y := (⟨2, v0.heldJob, v0.heldTask, v0.attempt, v0.row, ((allocA (markA c0) a0.scratch 16)).used, v0.high⟩ : Wkr)) b1
  have lb := OwnT.ptr s2 o0 s3
  refine sStF b7 s2 o0 7 (x).toNat 6 (⟨2, v0.heldJob, v0.heldTask, v0.attempt, v0.row, ((allocA (markA c0) a0.scratch 16)).used, v0.high⟩ : Wkr) (⟨2, v0.heldJob, v0.heldTask, v0.attempt, v0.row, ((allocA (markA c0) a0.scratch 16)).used, ((allocA (markA c0) a0.scratch 16)).high⟩ : Wkr) s3 (I (((allocA (markA c0) a0.scratch 16)).high)) [I (((allocA (markA c0) a0.scratch 16)).high)] Tryz.sizeOf3 ?_
  intro _ t3 u3 c7
  rw [List.set_set] at u3
  refine nilO ⟨dA, ?_⟩
  refine wN ?_
  refine thenK_n <| sR <| pu2 ?_
  refine sT c7 2 0 (.agg #[I 6, I x, I 0, I 0, I 0, I 0, I 0]) [I 6, I x, I 0, I 0, I 0, I 0, I 0] #[I 6, I x, I 0, I 0, I 0, I 0, I 0] Tryz.sizeOf62 ?_
  intro _ v3
  refine nT <| retE <| blockK_r <| thenK_r <| retN (vs := [.agg #[I 6, I x, I 0, I 0, I 0, I 0, I 0]]) rfl (.cons (.cell _ _ _ _ kr (lvA v3 2 0 [I 6, I x, I 0, I 0, I 0, I 0, I 0] (Tryz.isAgg62 _) (Tryz.sizeOf62 _) rfl rfl rfl)) .nil) ?_
  have htk : b0.tasks[v0.heldTask.toNat]? = some a0.v := by rw [← m0, List.getElem?_map, l1]; rfl
  have d7 := (v3.picks [5, 5, 5])
  have e7 : Sat W _ ((d0 ++ l0) :: (jcs.eraseIdx (v0.heldJob.toNat)).flatten :: ((acs.set x.toNat h1).set x.toNat u1).flatten :: [(h0, .cells (encTask a0).toArray 45 (0, 0))] :: [(i0, .cells #[I 6, I x, I 0, I 0, I 0, I 0, I 0] 62 (0, 0))] :: (Tri p 102 (preF F.cfg wa wn wk aa an ak da dn dk q) (xs.flatMap encFJob) (encStt F.st)) :: t3 :: Ac :: Dc :: dcs.flatten :: Qc :: H :: F0) := Sat.perm (show Sat W _ (d0 :: l0 :: (jcs.eraseIdx (v0.heldJob.toNat)).flatten :: ((acs.set x.toNat h1).set x.toNat u1).flatten :: [(h0, .cells (encTask a0).toArray 45 (0, 0))] :: [(i0, .cells #[I 6, I x, I 0, I 0, I 0, I 0, I 0] 62 (0, 0))] :: (Tri p 102 (preF F.cfg wa wn wk aa an ak da dn dk q) (xs.flatMap encFJob) (encStt F.st)) :: t3 :: Ac :: Dc :: dcs.flatten :: Qc :: H :: F0) from d7) (by simp [Value.cells])
  have f7 := Sat.shutN (d := d0 ++ l0) (A := []) (v0.heldJob.toNat) f1 e7
  have g7 := Obs.set hJs g0 (JobM.mk (s := b0) ha a1 k1 m0 r1)
  have hjs_ := set_same r0
  have h7 := ((f7.picks [9, 9, 3, 9, 9, 9, 9]).drops [8, 8])
  have i7 := (h7.merge8)
  have he : (microF F x).1 = (⟨F.cfg, (F.ws.set ((x).toNat) (⟨2, v0.heldJob, v0.heldTask, v0.attempt, v0.row, ((allocA (markA c0) a0.scratch 16)).used, ((allocA (markA c0) a0.scratch 16)).high⟩ : Wkr)), ((F.ar.set x.toNat (markA c0)).set x.toNat (allocA (markA c0) a0.scratch 16)), F.dq, F.q, (F.jobs.set (v0.heldJob.toNat) b0), F.st⟩ : FS) := by unfold microF jobAt; simp only [getD_some hv0, getD_some r0, getD_some htk, getD_some d3]; rw [if_pos om]; rw [hjs_]; rw [if_pos (show a0.v.scratch > 0 from show a0.scratch > 0 by omega), List.set_set]; rfl
  exact ⟨_, by unfold microF; simp only [getD_some hv0]; rw [if_pos om]; rfl, by rw [he]; exact ⟨_, _, _, _, _, _, _, _, _, _, _, _, _, _, _, _, _, _, _, _, rfl, u3, hOa, hOd, o6, hDs, hQ, g7, hxl⟩, i7⟩
 refine sR <| pu2 <| nT ?_
 refine cE v0.phase 2 (fun j7 => ?_) (fun j7 => ?_)
 ·refine sR <| pu3 ?_
  refine sLp c1 (g1.up 6 rfl) 4 (I v0.row) (Tryz.isAgg3 _) ?_
  refine sAdd v0.row 1 ?_
  refine pu2 ?_
  refine sStF c1 hOw o0 6 (x).toNat 4 v0 (⟨v0.phase, v0.heldJob, v0.heldTask, v0.attempt, (v0.row + 1), v0.used, v0.high⟩ : Wkr) b1 (I (v0.row + 1)) [I (v0.row + 1)] Tryz.sizeOf3 ?_
  intro _ w3 t2 u2
  refine nT <| seqE <| seqE ?_
  have x3 := set_at (y := (⟨v0.phase, v0.heldJob, v0.heldTask, v0.attempt, (v0.row + 1), v0.used, v0.high⟩ : Wkr)) b1
  have k7 := OwnT.ptr t2 o0 x3
  refine drawE [] [(3, ⟨a2, b2 + (x).toNat * 7 + 4, none⟩, I (v0.row + 1)), (5, ⟨h0, 7, none⟩, I a0.rows)] [(true, [0, 1, 2, 4]), (true, [3]), (true, [5]), (true, [6])] rfl kr ⟨.inr ((k7.up 6 rfl).cell u2 (k := 4) rfl), .inr (u2.cell 0 rfl rfl), trivial⟩ ?_
  have y3 := u2.drew
  refine wU [0, 1, 2, 4] ?_
  refine wLd (I (v0.row + 1)) 0 Tryz.isAgg3 ?_
  refine wLd (I a0.rows) 1 Tryz.isAgg3 ?_
  refine wU [6] ?_
  refine wN ?_
  refine thenK_n ?_
  refine cE (v0.row + 1) a0.rows (fun l7 => ?_) (fun l7 => ?_)
  rotate_left
  ·refine kT <| sR <| pu2 ?_
   refine sT y3 1 0 (.agg #[I 7, I x, I 0, I 0, I 0, I 0, I 0]) [I 7, I x, I 0, I 0, I 0, I 0, I 0] #[I 7, I x, I 0, I 0, I 0, I 0, I 0] Tryz.sizeOf62 ?_
   intro _ z3
   refine nT <| retE <| blockK_r <| thenK_r <| retN (vs := [.agg #[I 7, I x, I 0, I 0, I 0, I 0, I 0]]) rfl (.cons (.cell _ _ _ _ kr (lvA z3 1 0 [I 7, I x, I 0, I 0, I 0, I 0, I 0] (Tryz.isAgg62 _) (Tryz.sizeOf62 _) rfl rfl rfl)) .nil) ?_
   have htk : b0.tasks[v0.heldTask.toNat]? = some a0.v := by rw [← m0, List.getElem?_map, l1]; rfl
   have m7 := (z3.picks [4, 4, 4])
   have n7 : Sat W _ ((d0 ++ l0) :: (jcs.eraseIdx (v0.heldJob.toNat)).flatten :: [(h0, .cells (encTask a0).toArray 45 (0, 0))] :: [(i0, .cells #[I 7, I x, I 0, I 0, I 0, I 0, I 0] 62 (0, 0))] :: (Tri p 102 (preF F.cfg wa wn wk aa an ak da dn dk q) (xs.flatMap encFJob) (encStt F.st)) :: w3 :: Ac :: Dc :: acs.flatten :: dcs.flatten :: Qc :: H :: F0) := Sat.perm (show Sat W _ (d0 :: l0 :: (jcs.eraseIdx (v0.heldJob.toNat)).flatten :: [(h0, .cells (encTask a0).toArray 45 (0, 0))] :: [(i0, .cells #[I 7, I x, I 0, I 0, I 0, I 0, I 0] 62 (0, 0))] :: (Tri p 102 (preF F.cfg wa wn wk aa an ak da dn dk q) (xs.flatMap encFJob) (encStt F.st)) :: w3 :: Ac :: Dc :: acs.flatten :: dcs.flatten :: Qc :: H :: F0) from m7) (by simp [Value.cells])
   have o7 := Sat.shutN (d := d0 ++ l0) (A := []) (v0.heldJob.toNat) f1 n7
   have p7 := Obs.set hJs g0 (JobM.mk (s := b0) ha a1 k1 m0 r1)
   have hjs_ := set_same r0
   have q7 := ((o7.picks [9, 9, 9, 9, 9, 9, 9]).drops [8, 8])
   have r7 := (q7.merge8)
   have he : (microF F x).1 = (⟨F.cfg, (F.ws.set ((x).toNat) (⟨v0.phase, v0.heldJob, v0.heldTask, v0.attempt, (v0.row + 1), v0.used, v0.high⟩ : Wkr)), F.ar, F.dq, F.q, (F.jobs.set (v0.heldJob.toNat) b0), F.st⟩ : FS) := by unfold microF jobAt; simp only [getD_some hv0, getD_some r0, getD_some htk]; rw [if_neg om, if_pos om]; rw [if_neg (show ¬ v0.row + 1 = a0.v.rows from show ¬ v0.row + 1 = a0.rows by omega), show v0.phase = 2 by omega]; rw [hjs_]
   exact ⟨_, by unfold microF; simp only [getD_some hv0]; rw [if_neg om, if_pos om]; rfl, by rw [he]; exact ⟨_, _, _, _, _, _, _, _, _, _, _, _, _, _, _, _, _, _, _, _, rfl, t2, hOa, hOd, hAs, hDs, hQ, p7, hxl⟩, r7⟩
  refine regionE <| pu3 ?_
  refine sStF y3 t2 o0 6 (x).toNat 0 (⟨v0.phase, v0.heldJob, v0.heldTask, v0.attempt, (v0.row + 1), v0.used, v0.high⟩ : Wkr) (⟨3, v0.heldJob, v0.heldTask, v0.attempt, (v0.row + 1), v0.used, v0.high⟩ : Wkr) x3 (I 3) [I 3] Tryz.sizeOf3 ?_
  intro _ a4 b4 s7
  rw [List.set_set] at b4
  refine nT <| sR <| pu2 ?_
  refine sT s7 1 0 (.agg #[I 7, I x, I 0, I 0, I 0, I 0, I 0]) [I 7, I x, I 0, I 0, I 0, I 0, I 0] #[I 7, I x, I 0, I 0, I 0, I 0, I 0] Tryz.sizeOf62 ?_
  intro _ c4
  refine nT <| retE <| blockK_r <| thenK_r <| retN (vs := [.agg #[I 7, I x, I 0, I 0, I 0, I 0, I 0]]) rfl (.cons (.cell _ _ _ _ kr (lvA c4 1 0 [I 7, I x, I 0, I 0, I 0, I 0, I 0] (Tryz.isAgg62 _) (Tryz.sizeOf62 _) rfl rfl rfl)) .nil) ?_
  have htk : b0.tasks[v0.heldTask.toNat]? = some a0.v := by rw [← m0, List.getElem?_map, l1]; rfl
  have t7 := (c4.picks [4, 4, 4])
  have u7 : Sat W _ ((d0 ++ l0) :: (jcs.eraseIdx (v0.heldJob.toNat)).flatten :: [(h0, .cells (encTask a0).toArray 45 (0, 0))] :: [(i0, .cells #[I 7, I x, I 0, I 0, I 0, I 0, I 0] 62 (0, 0))] :: (Tri p 102 (preF F.cfg wa wn wk aa an ak da dn dk q) (xs.flatMap encFJob) (encStt F.st)) :: a4 :: Ac :: Dc :: acs.flatten :: dcs.flatten :: Qc :: H :: F0) := Sat.perm (show Sat W _ (d0 :: l0 :: (jcs.eraseIdx (v0.heldJob.toNat)).flatten :: [(h0, .cells (encTask a0).toArray 45 (0, 0))] :: [(i0, .cells #[I 7, I x, I 0, I 0, I 0, I 0, I 0] 62 (0, 0))] :: (Tri p 102 (preF F.cfg wa wn wk aa an ak da dn dk q) (xs.flatMap encFJob) (encStt F.st)) :: a4 :: Ac :: Dc :: acs.flatten :: dcs.flatten :: Qc :: H :: F0) from t7) (by simp [Value.cells])
  have v7 := Sat.shutN (d := d0 ++ l0) (A := []) (v0.heldJob.toNat) f1 u7
  have w7 := Obs.set hJs g0 (JobM.mk (s := b0) ha a1 k1 m0 r1)
  have hjs_ := set_same r0
  have x7 := ((v7.picks [9, 9, 9, 9, 9, 9, 9]).drops [8, 8])
  have y7 := (x7.merge8)
  have he : (microF F x).1 = (⟨F.cfg, (F.ws.set ((x).toNat) (⟨3, v0.heldJob, v0.heldTask, v0.attempt, (v0.row + 1), v0.used, v0.high⟩ : Wkr)), F.ar, F.dq, F.q, (F.jobs.set (v0.heldJob.toNat) b0), F.st⟩ : FS) := by unfold microF jobAt; simp only [getD_some hv0, getD_some r0, getD_some htk]; rw [if_neg om, if_pos om]; rw [if_pos (show v0.row + 1 = a0.v.rows from show v0.row + 1 = a0.rows by omega)]; rw [hjs_]
  exact ⟨_, by unfold microF; simp only [getD_some hv0]; rw [if_neg om, if_pos om]; rfl, by rw [he]; exact ⟨_, _, _, _, _, _, _, _, _, _, _, _, _, _, _, _, _, _, _, _, rfl, b4, hOa, hOd, hAs, hDs, hQ, w7, hxl⟩, y7⟩
 refine skipE <| blockK_n <| thenK_n <| sR <| pu3 ?_
 refine sLpA c1 (g1.up 6 rfl) 1 [I v0.heldJob, I v0.heldTask] (Tryz.isAgg60 _) (Tryz.sizeOf60 _) ?_
 refine sAlloc c1 Tryz.zeroValue60 ?_
 intro d1 _ z7
 refine sT z7 0 0 (.agg #[I v0.heldJob, I v0.heldTask]) [I v0.heldJob, I v0.heldTask] #[I v0.heldJob, I v0.heldTask] Tryz.sizeOf60 ?_
 intro _ j2
 refine nT <| seqE ?_
 refine drawE [10] [(3, ⟨p, 12 + (v0.heldJob.toNat) * 5 + 4, none⟩, Pt z0 0), (5, ⟨d1, 1, none⟩, I v0.heldTask), (9, ⟨a2, b2 + (x).toNat * 7 + 3, none⟩, I v0.attempt)] [(true, [0, 1, 2, 4, 6, 7, 8]), (true, [3]), (true, [5]), (true, [9]), (false, [10]), (true, [11]), (true, [12]), (true, [13]), (true, [14, 15])] rfl kr ⟨.inr (cell_up j2 6 rfl (k := 4) (tri_el (sz := 5) (n0 := 12) fR g0) rfl), .inr (j2.cell 0 rfl rfl), .inr ((g1.up 7 rfl).cell j2 (k := 3) rfl), trivial⟩ ?_
 have a8 := j2.drew
 refine wU [0, 1, 2, 4, 6, 7, 8] ?_
 refine wLd (Pt z0 0) 0 Tryz.isAgg97 ?_
 refine wLd (I v0.heldTask) 1 Tryz.isAgg3 ?_
 refine wLd (I v0.attempt) 2 Tryz.isAgg3 ?_
 refine wO rfl ?_
 have b8 := (a8.pick 4 rfl)
 refine cX Tryz.call134 (r_commit r1 hBW v0.heldTask v0.attempt (Sat.flat1 b8)) ?_
 rintro _ _ ⟨d4, w1, e4, x1, i1, rfl, v2, w2, c8⟩
 have x2 := Sat.unflat2 c8; have hn_az_228 := v2.len; have hl_az_228 := v2.le
 refine nilO ⟨dA, ?_⟩
 refine wU [11] <| wU [12] <| wU [13] <| wU [14, 15] ?_
 refine wN ?_
 refine thenK_n <| sR <| pu3 ?_
 refine sLp x2 (ptr_up 7 rfl tri_pre) 9 (.slice aa an ak) (Tryz.isAgg94 _) ?_
 refine pu1 ?_
 refine sIdxO hOa x (x).toNat Tryz.runUnderlying94 Tryz.sizeOf103 ?_
 intro d8 _ _ f4 e8 _
 refine sLp x2 (e8.up 9 rfl) 0 (Pt d8 0) (Tryz.isAgg103 _) ?_
 obtain ⟨e1, yb, n1, g4, f8⟩ := Obs.get hAs f4
 have g8 := (x2.pick 11 rfl)
 have h8 := Sat.openN (A := []) x.toNat g4 g8
 refine cX Tryz.call135 (ar_release f8  (Sat.flat1 h8)) ?_
 rintro _ _ ⟨o1, _, rfl, i8, j8⟩
 have k8 := Sat.unflat1 j8
 have l8 := (k8.picks [1, 1])
 have m8 := Sat.shutN (d := o1) (A := []) x.toNat g4 l8
 have y2 := Obs.set hAs f4 i8
 refine nT <| sR <| pu2 ?_
 have n8 := (m8.picks [0, 10, 10, 10])
 refine cX Tryz.call70 (f_idle hOw hOa y2 x 0 (by first | omega | (dsimp only; omega) | (simp only [List.length_set]; omega)) (by first | omega | (dsimp only; omega) | (simp only [List.length_set]; omega)) n8) ?_
 rintro _ _ ⟨y1, rfl, h4, i4⟩
 refine nT <| sR <| pu4 ?_
 refine sLp i4 (ptr_up 0 rfl (tri_post (k := 332) (tri_len (sz := 5) (m := 12) fR hxl))) 1 (I F.st.commits) (Tryz.isAgg3 _) ?_
 refine sAdd F.st.commits 1 ?_
 refine pu3 ?_
 refine sTpost i4 0 332 1 rfl (I (F.st.commits + 1)) [I (F.st.commits + 1)] [I F.st.starts, I (F.st.commits + 1), I F.st.drops, I F.st.crashes, I F.st.steals, I F.st.helps, I F.st.spills, I F.st.queued, I F.st.held, I F.st.cells] (tri_len (sz := 5) (m := 12) fR hxl) Tryz.sizeOf3 ?_
 intro _ o8
 refine nT <| seqE <| sR <| pu1 <| nT <| blockE ?_
 have hcl := com_len (B := b0.B) (i := v0.heldTask) (a := v0.attempt)
 refine loopA (γ := Nat × (List DS) × (List Chunk) × QS × Chunk × Int) (fun ⟨i, dqi, dci, qi, Qci, sp⟩ => [(0, Pt p 0), (1, I x), (4, Pt i0 0), (6, .pointer (some ⟨p, 12 + (v0.heldJob.toNat) * 5, none⟩)), (8, Pt d1 0), (9, .slice d4 w1 e4), (11, I ((i : Nat) : Int))]) (fun ⟨i, dqi, dci, qi, Qci, sp⟩ w => Sat W w ((Tri p 102 (preF F.cfg wa wn wk aa an ak da dn dk q) (xs.flatMap encFJob) [I F.st.starts, I (F.st.commits + 1), I F.st.drops, I F.st.crashes, I F.st.steals, I F.st.helps, I sp, I F.st.queued, I F.st.held, I F.st.cells]) :: y1 :: Ac :: (acs.set x.toNat o1).flatten :: x1 :: i1 :: [(d1, .cells #[I v0.heldJob, I v0.heldTask] 60 (0, 0))] :: [(h0, .cells (encTask a0).toArray 45 (0, 0))] :: [(i0, .cells #[I 0, I 0, I 0, I 0, I 0, I 0, I 0] 62 (0, 0))] :: d0 :: (jcs.eraseIdx (v0.heldJob.toNat)).flatten :: Dc :: dci.flatten :: Qci :: H :: F0) ∧ i ≤ w1 ∧ (Obs DqR dp dqi dci) ∧ (InjR q qi Qci) ∧ (0 ≤ sp ∧ sp ≤ F.st.spills + i) ∧ (dqi.length = F.dq.length) ∧ ((spillF (⟨F.cfg, (F.ws.set x.toNat ⟨0, 0, 0, 0, 0, 0, ((F.ar.set x.toNat (relA e1)).getD x.toNat default).high⟩), (F.ar.set x.toNat (relA e1)), F.dq, F.q, (F.jobs.set (v0.heldJob.toNat) { b0 with B := (comB b0.B v0.heldTask v0.attempt).1 }), ⟨F.st.starts, (F.st.commits + 1), F.st.drops, F.st.crashes, F.st.steals, F.st.helps, F.st.spills, F.st.queued, F.st.held, F.st.cells⟩⟩ : FS) x v0.heldJob b0.band (((comB b0.B v0.heldTask v0.attempt).2).take i)) = (⟨F.cfg, (F.ws.set x.toNat ⟨0, 0, 0, 0, 0, 0, ((F.ar.set x.toNat (relA e1)).getD x.toNat default).high⟩), (F.ar.set x.toNat (relA e1)), dqi, qi, (F.jobs.set (v0.heldJob.toNat) { b0 with B := (comB b0.B v0.heldTask v0.attempt).1 }), ⟨F.st.starts, (F.st.commits + 1), F.st.drops, F.st.crashes, F.st.steals, F.st.helps, sp, F.st.queued, F.st.held, F.st.cells⟩⟩ : FS))) (fun ⟨i, dqi, dci, qi, Qci, sp⟩ => w1 - i) (0, F.dq, dcs, F.q, Qc, F.st.spills) ⟨o8, om, hDs, hQ, om, by first | rfl | simp only [List.length_set], rfl⟩ ?_
 rintro ⟨i, dqi, dci, qi, Qci, sp⟩ ρ _ ⟨p1, hi, hDi, hQi, hspb, hdqi, hFi⟩
 have hds1 := hDi.1
 refine seqE <| sR <| pu4 <| nT ?_
 refine cD (((i : Nat) : Int) < ((w1 : Nat) : Int)) (fun p8 => ?_) (fun p8 => ?_)
 ·refine kT <| seqE <| blockE <| seqE ?_
  obtain ⟨k0, j4, k4, z2, l4, q8⟩ := RdT.elem v2 ((i : Nat) : Int)
  rw [Int.toNat_natCast] at z2
  refine drawE [7, 8] [(1, ⟨d1, 0, none⟩, I v0.heldJob), (5, ⟨j4, k4, none⟩, I k0)] [(true, [0, 2, 3]), (true, [4]), (true, [1]), (true, [5]), (true, [6]), (false, [7]), (false, [8])] rfl kr ⟨.inr (p1.cell 6 rfl rfl), .inr ((l4.up 4 rfl).cell p1 (k := 0) rfl), trivial⟩ ?_
  have r8 := p1.drew
  refine wU [0, 2, 3] ?_
  refine wY (.pointer (some ⟨j4, k4, none⟩)) rfl (fun w _ => Y_idx (a := d4) (i := ((i : Nat) : Int)) (len := w1) (cap := e4) rfl Tryz.runUnderlying22 Tryz.sizeOf3 kr kr q8) ?_
  refine wLd (I v0.heldJob) 0 Tryz.isAgg3 ?_
  refine wLd (I k0) 1 Tryz.isAgg3 ?_
  refine wU [6] ?_
  refine wO rfl ?_
  refine sAlloc r8 Tryz.zeroValue60 ?_
  intro k2 _ a3
  refine nilO ⟨⟨.inr (a3.cell 7 rfl rfl), .inr ((l4.up 5 rfl).cell a3 (k := 0) rfl), trivial⟩, ?_⟩
  refine wO rfl ?_
  refine sT a3 0 0 (.agg #[I v0.heldJob, I k0]) [I v0.heldJob, I k0] #[I v0.heldJob, I k0] Tryz.sizeOf60 ?_
  intro _ z1
  refine nilO ⟨dA, ?_⟩
  refine wN ?_
  refine thenK_n <| seqE ?_
  obtain ⟨m4, n4, o4, p4, s8, t8, gc⟩ := OwnT.elem hOd x
  refine drawE [8] [(3, ⟨p, 10, none⟩, .slice da dn dk), (6, ⟨n4, o4 + (x).toNat * 1, none⟩, Pt m4 0), (7, ⟨k2, 0, none⟩, I v0.heldJob), (7, ⟨k2, 1, none⟩, I k0)] [(true, [0, 1, 2, 4]), (true, [3]), (true, [5]), (true, [6]), (true, [7]), (false, [8]), (true, [9])] rfl kr ⟨.inr (cell_up z1 1 rfl (k := 10) tri_pre rfl), .inr ((s8.up 12 rfl).cell z1 (k := 0) rfl), .inr (z1.cell 0 rfl rfl), .inr (z1.cell 0 rfl rfl), trivial⟩ ?_
  have u8 := z1.drew
  refine wU [0, 1, 2, 4] ?_
  refine wLd (.slice da dn dk) 0 Tryz.isAgg95 ?_
  refine wY (.pointer (some ⟨n4, o4 + (x).toNat * 1, none⟩)) rfl (fun w _ => Y_idx (a := da) (i := x) (len := dn) (cap := dk) rfl Tryz.runUnderlying95 Tryz.sizeOf106 kr kr t8) ?_
  refine wLd (Pt m4 0) 1 Tryz.isAgg106 ?_
  refine wY (.agg #[I v0.heldJob, I k0]) rfl (fun w hF => Y_loadF rfl (Tryz.isAgg60 w) (Tryz.sizeOf60 w) kr rfl ⟨hF 2 _ _ rfl, hF 3 _ _ rfl, trivial⟩) ?_
  refine wO rfl ?_
  obtain ⟨l2, hc, b3, q4, v8⟩ := Obs.get hDi p4
  have w8 := (u8.pick 13 rfl)
  have x8 := Sat.openN (A := []) x.toNat q4 w8
  refine cX Tryz.call136 (dq_push v8 (⟨v0.heldJob, k0⟩ : Ref) (Sat.flat1 x8)) ?_
  rintro _ _ ⟨c3, rfl, y8, z8⟩
  have a9 := Sat.unflat1 z8
  have b9 := (a9.picks [1, 1])
  have j1 := Sat.shutN (d := c3) (A := []) x.toNat q4 b9
  have r4 := Obs.set hDi p4 y8
  refine nilO ⟨⟨.inr (cell_up j1 2 rfl (k := 10) tri_pre rfl), dI, dI, dI, trivial⟩, ?_⟩
  refine wU [9] ?_
  refine wN ?_
  refine thenK_n ?_
  refine cN (pushC l2) 0 (fun c9 => ?_) (fun c9 => ?_)
  ·refine skipE <| blockK_n <| thenK_n <| regionE <| pu1 ?_
   refine sAdd ((i : Nat) : Int) 1 ?_
   refine pu1 <| nT ?_
   have d9 := ((j1.picks [13, 13, 13, 13, 13, 13, 13, 13, 13, 13, 13, 13]).dropAt 13 rfl)
   exact ⟨(i + 1, (dqi.set x.toNat (pushD l2 (⟨v0.heldJob, k0⟩ : Ref))), (dci.set x.toNat c3), qi, Qci, sp), od, alA, d9, om, r4, hQi, om, (by first | exact hdqi | (simp only [List.length_set]; exact hdqi)), (by rw [spill_take z2, hFi]; unfold spill1; simp only [getD_some b3]; rw [if_pos om])⟩
  refine seqE ?_
  refine drawE [9] [(3, ⟨p, 11, none⟩, Pt q 0), (4, ⟨k2, 0, none⟩, I v0.heldJob), (4, ⟨k2, 1, none⟩, I k0), (8, ⟨p, 12 + (v0.heldJob.toNat) * 5 + 2, none⟩, I b0.band)] [(true, [0, 1, 2, 5, 6, 7]), (true, [3]), (true, [4]), (true, [8]), (false, [9])] rfl kr ⟨.inr (cell_up j1 2 rfl (k := 11) tri_pre rfl), .inr (j1.cell 1 rfl rfl), .inr (j1.cell 1 rfl rfl), .inr (cell_up j1 2 rfl (k := 2) (tri_el (sz := 5) (n0 := 12) fR g0) rfl), trivial⟩ ?_
  have e9 := j1.drew
  refine wU [0, 1, 2, 5, 6, 7] ?_
  refine wLd (Pt q 0) 0 Tryz.isAgg96 ?_
  refine wY (.agg #[I v0.heldJob, I k0]) rfl (fun w hF => Y_loadF rfl (Tryz.isAgg60 w) (Tryz.sizeOf60 w) kr rfl ⟨hF 1 _ _ rfl, hF 2 _ _ rfl, trivial⟩) ?_
  refine wLd (I b0.band) 3 Tryz.isAgg3 ?_
  refine wO rfl ?_
  have f9 := (e9.pick 14 rfl)
  refine cX Tryz.call60 (iq_push hQi (⟨v0.heldJob, k0⟩ : Ref) b0.band om (Sat.flat1 f9)) ?_
  rintro _ _ ⟨g9, rfl, h9, i9⟩
  have s4 := Sat.unflat1 i9
  refine nilO ⟨dA, ?_⟩
  refine wN ?_
  refine thenK_n <| regionE <| pu4 ?_
  refine sLp s4 (ptr_up 3 rfl (tri_post (k := 332) (tri_len (sz := 5) (m := 12) fR hxl))) 6 (I sp) (Tryz.isAgg3 _) ?_
  refine sAdd sp 1 ?_
  refine pu3 ?_
  refine sTpost s4 3 332 6 rfl (I (sp + 1)) [I (sp + 1)] [I F.st.starts, I (F.st.commits + 1), I F.st.drops, I F.st.crashes, I F.st.steals, I F.st.helps, I (sp + 1), I F.st.queued, I F.st.held, I F.st.cells] (tri_len (sz := 5) (m := 12) fR hxl) Tryz.sizeOf3 ?_
  intro _ j9
  refine nB <| regionE <| pu1 ?_
  refine sAdd ((i : Nat) : Int) 1 ?_
  refine pu1 <| nT ?_
  have k9 := ((j9.picks [1, 14, 14, 14, 14, 14, 14, 14, 14, 14, 14, 14, 14]).dropAt 14 rfl)
  have hpd : pushD l2 (⟨v0.heldJob, k0⟩ : Ref) = l2 := by unfold pushD; rw [if_neg om]
  have hLD := r4; rw [hpd, set_same b3] at hLD
  exact ⟨(i + 1, dqi, (dci.set x.toNat c3), (pushQ qi (⟨v0.heldJob, k0⟩ : Ref) b0.band), g9, (sp + 1)), od, alA, k9, om, hLD, h9, om, (by first | exact hdqi | (simp only [List.length_set]; exact hdqi)), (by rw [spill_take z2, hFi]; unfold spill1; simp only [getD_some b3]; rw [if_neg om])⟩
 refine exitE <| xB <| thenK_n <| seqE <| seqE ?_
 refine drawE [4] [(3, ⟨p, 12 + (v0.heldJob.toNat) * 5 + 4, none⟩, Pt z0 0), (8, ⟨p, 12 + (v0.heldJob.toNat) * 5 + 3, none⟩, .slice t0 s0 u0)] [(true, [0, 1, 2, 5, 6, 7]), (true, [3]), (true, [8]), (true, [9]), (false, [4]), (true, [10])] rfl kr ⟨.inr (cell_up p1 0 rfl (k := 4) (tri_el (sz := 5) (n0 := 12) fR g0) rfl), .inr (cell_up p1 0 rfl (k := 3) (tri_el (sz := 5) (n0 := 12) fR g0) rfl), trivial⟩ ?_
 have l9 := p1.drew
 refine wU [0, 1, 2, 5, 6, 7] ?_
 refine wLd (Pt z0 0) 0 Tryz.isAgg97 ?_
 refine wLd (.slice t0 s0 u0) 1 Tryz.isAgg39 ?_
 refine wU [9] ?_
 refine wO rfl ?_
 have m9 := (l9.pick 5 rfl)
 refine cX Tryz.call137 (r_done w2 (com_wf hBW (i := v0.heldTask) (a := v0.attempt)) (Sat.flat1 m9)) ?_
 rintro _ _ ⟨rfl, n9⟩
 have m2 := Sat.unflat1 n9
 refine nilO ⟨⟨dI, .inr (cell_up m2 1 rfl (k := 3) (tri_el (sz := 5) (n0 := 12) fR g0) rfl), trivial⟩, ?_⟩
 refine wU [10] ?_
 refine wN ?_
 refine thenK_n ?_
 refine cE (doneOf ((comB b0.B v0.heldTask v0.attempt).1)) ((s0 : Nat) : Int) (fun o9 => ?_) (fun o9 => ?_)
 rotate_left
 ·refine kT <| sR <| pu1 ?_
  refine lA m2 6 0 2 (Tryz.isAgg60 _) (Tryz.sizeOf60 _) ?_
  refine pu1 ?_
  refine sT m2 8 0 (.agg #[I 8, I x, I 0, I 0, I v0.heldJob, I v0.heldTask, I 0]) [I 8, I x, I 0, I 0, I v0.heldJob, I v0.heldTask, I 0] #[I 8, I x, I 0, I 0, I v0.heldJob, I v0.heldTask, I 0] Tryz.sizeOf62 ?_
  intro _ t4
  refine nT <| retE <| retN (vs := [.agg #[I 8, I x, I 0, I 0, I v0.heldJob, I v0.heldTask, I 0]]) rfl (.cons (.cell _ _ _ _ kr (lvA t4 8 0 [I 8, I x, I 0, I 0, I v0.heldJob, I v0.heldTask, I 0] (Tryz.isAgg62 _) (Tryz.sizeOf62 _) rfl rfl rfl)) .nil) ?_
  have htk : b0.tasks[v0.heldTask.toNat]? = some a0.v := by rw [← m0, List.getElem?_map, l1]; rfl
  have p9 := (t4.picks [10, 1, 10])
  have q9 : Sat W _ ((d0 ++ i1) :: (jcs.eraseIdx (v0.heldJob.toNat)).flatten :: (Tri p 102 (preF F.cfg wa wn wk aa an ak da dn dk q) (xs.flatMap encFJob) [I F.st.starts, I (F.st.commits + 1), I F.st.drops, I F.st.crashes, I F.st.steals, I F.st.helps, I sp, I F.st.queued, I F.st.held, I F.st.cells]) :: y1 :: Ac :: (acs.set x.toNat o1).flatten :: x1 :: [(d1, .cells #[I v0.heldJob, I v0.heldTask] 60 (0, 0))] :: [(h0, .cells (encTask a0).toArray 45 (0, 0))] :: [(i0, .cells #[I 8, I x, I 0, I 0, I v0.heldJob, I v0.heldTask, I 0] 62 (0, 0))] :: Dc :: dci.flatten :: Qci :: H :: F0) := Sat.perm (show Sat W _ (d0 :: i1 :: (jcs.eraseIdx (v0.heldJob.toNat)).flatten :: (Tri p 102 (preF F.cfg wa wn wk aa an ak da dn dk q) (xs.flatMap encFJob) [I F.st.starts, I (F.st.commits + 1), I F.st.drops, I F.st.crashes, I F.st.steals, I F.st.helps, I sp, I F.st.queued, I F.st.held, I F.st.cells]) :: y1 :: Ac :: (acs.set x.toNat o1).flatten :: x1 :: [(d1, .cells #[I v0.heldJob, I v0.heldTask] 60 (0, 0))] :: [(h0, .cells (encTask a0).toArray 45 (0, 0))] :: [(i0, .cells #[I 8, I x, I 0, I 0, I v0.heldJob, I v0.heldTask, I 0] 62 (0, 0))] :: Dc :: dci.flatten :: Qci :: H :: F0) from p9) (by simp [Value.cells])
  have r9 := Sat.shutN (d := d0 ++ i1) (A := []) (v0.heldJob.toNat) f1 q9
  have s9 := Obs.set hJs g0 (JobM.mk (s := { b0 with B := (comB b0.B v0.heldTask v0.attempt).1 }) ha a1 k1 m0 w2)
  have hFl := hFi; rw [List.take_of_length_le om] at hFl
  have t9 := ((r9.picks [11, 11, 6, 11, 7, 7, 7]).drops [8, 8, 8, 8])
  have u9 := (t9.merge8)
  have he : (microF F x).1 = (⟨F.cfg, (F.ws.set x.toNat ⟨0, 0, 0, 0, 0, 0, ((F.ar.set x.toNat (relA e1)).getD x.toNat default).high⟩), (F.ar.set x.toNat (relA e1)), dqi, qi, (F.jobs.set (v0.heldJob.toNat) ({ b0 with B := (comB b0.B v0.heldTask v0.attempt).1 })), (⟨F.st.starts, (F.st.commits + 1), F.st.drops, F.st.crashes, F.st.steals, F.st.helps, sp, F.st.queued, F.st.held, F.st.cells⟩ : Stt)⟩ : FS) := by unfold microF jobAt; simp only [getD_some hv0, getD_some r0, getD_some htk, getD_some n1]; rw [if_neg om, if_neg om]; dsimp only; simp only [getD_some (set_at n1)] at hFl; simp only [getD_some (set_at n1)]; rw [hFl]; rw [if_neg om]
  exact ⟨_, by unfold microF; simp only [getD_some hv0]; rw [if_neg om, if_neg om]; rfl, by rw [he]; exact ⟨_, _, _, _, _, _, _, _, _, _, _, _, _, _, _, _, _, _, _, _, rfl, h4, hOa, hOd, y2, hDi, hQi, s9, hxl⟩, u9⟩
 refine regionE <| pu3 ?_
 refine sTel (enc := encFJob) (sz := 5) m2 fR 1 (v0.heldJob.toNat) 12 1 (⟨true, b0.running, b0.band, ⟨t0, s0, u0, q1⟩, some ⟨z0, 0, none⟩⟩ : FJob) (⟨true, false, b0.band, ⟨t0, s0, u0, q1⟩, some ⟨z0, 0, none⟩⟩ : FJob) g0 (.bool false) [.bool false] Tryz.sizeOf4 ?_
 intro _ u4
 refine nT <| sR <| pu1 ?_
 refine lA u4 6 0 2 (Tryz.isAgg60 _) (Tryz.sizeOf60 _) ?_
 refine pu1 ?_
 refine sT u4 8 0 (.agg #[I 8, I x, I 0, I 0, I v0.heldJob, I v0.heldTask, I 0]) [I 8, I x, I 0, I 0, I v0.heldJob, I v0.heldTask, I 0] #[I 8, I x, I 0, I 0, I v0.heldJob, I v0.heldTask, I 0] Tryz.sizeOf62 ?_
 intro _ v4
 refine nT <| retE <| retN (vs := [.agg #[I 8, I x, I 0, I 0, I v0.heldJob, I v0.heldTask, I 0]]) rfl (.cons (.cell _ _ _ _ kr (lvA v4 8 0 [I 8, I x, I 0, I 0, I v0.heldJob, I v0.heldTask, I 0] (Tryz.isAgg62 _) (Tryz.sizeOf62 _) rfl rfl rfl)) .nil) ?_
 have htk : b0.tasks[v0.heldTask.toNat]? = some a0.v := by rw [← m0, List.getElem?_map, l1]; rfl
 have v9 := (v4.picks [10, 1, 10])
 have w9 : Sat W _ ((d0 ++ i1) :: (jcs.eraseIdx (v0.heldJob.toNat)).flatten :: (Tri p 102 (preF F.cfg wa wn wk aa an ak da dn dk q) ((xs.set (v0.heldJob.toNat) (⟨true, false, b0.band, ⟨t0, s0, u0, q1⟩, some ⟨z0, 0, none⟩⟩ : FJob)).flatMap encFJob) [I F.st.starts, I (F.st.commits + 1), I F.st.drops, I F.st.crashes, I F.st.steals, I F.st.helps, I sp, I F.st.queued, I F.st.held, I F.st.cells]) :: y1 :: Ac :: (acs.set x.toNat o1).flatten :: x1 :: [(d1, .cells #[I v0.heldJob, I v0.heldTask] 60 (0, 0))] :: [(h0, .cells (encTask a0).toArray 45 (0, 0))] :: [(i0, .cells #[I 8, I x, I 0, I 0, I v0.heldJob, I v0.heldTask, I 0] 62 (0, 0))] :: Dc :: dci.flatten :: Qci :: H :: F0) := Sat.perm (show Sat W _ (d0 :: i1 :: (jcs.eraseIdx (v0.heldJob.toNat)).flatten :: (Tri p 102 (preF F.cfg wa wn wk aa an ak da dn dk q) ((xs.set (v0.heldJob.toNat) (⟨true, false, b0.band, ⟨t0, s0, u0, q1⟩, some ⟨z0, 0, none⟩⟩ : FJob)).flatMap encFJob) [I F.st.starts, I (F.st.commits + 1), I F.st.drops, I F.st.crashes, I F.st.steals, I F.st.helps, I sp, I F.st.queued, I F.st.held, I F.st.cells]) :: y1 :: Ac :: (acs.set x.toNat o1).flatten :: x1 :: [(d1, .cells #[I v0.heldJob, I v0.heldTask] 60 (0, 0))] :: [(h0, .cells (encTask a0).toArray 45 (0, 0))] :: [(i0, .cells #[I 8, I x, I 0, I 0, I v0.heldJob, I v0.heldTask, I 0] 62 (0, 0))] :: Dc :: dci.flatten :: Qci :: H :: F0) from v9) (by simp [Value.cells])
 have x9 := Sat.shutN (d := d0 ++ i1) (A := []) (v0.heldJob.toNat) f1 w9
 have y9 := Obs.set3 (p' := (⟨true, false, b0.band, ⟨t0, s0, u0, q1⟩, some ⟨z0, 0, none⟩⟩ : FJob)) hJs g0 (JobM.mk (s := { b0 with B := (comB b0.B v0.heldTask v0.attempt).1, running := false }) ha a1 k1 m0 w2)
 have hFl := hFi; rw [List.take_of_length_le om] at hFl
 have z9 := ((x9.picks [11, 11, 6, 11, 7, 7, 7]).drops [8, 8, 8, 8])
 have ba := (z9.merge8)
 have he : (microF F x).1 = (⟨F.cfg, (F.ws.set x.toNat ⟨0, 0, 0, 0, 0, 0, ((F.ar.set x.toNat (relA e1)).getD x.toNat default).high⟩), (F.ar.set x.toNat (relA e1)), dqi, qi, (F.jobs.set (v0.heldJob.toNat) ({ b0 with B := (comB b0.B v0.heldTask v0.attempt).1, running := false })), (⟨F.st.starts, (F.st.commits + 1), F.st.drops, F.st.crashes, F.st.steals, F.st.helps, sp, F.st.queued, F.st.held, F.st.cells⟩ : Stt)⟩ : FS) := by unfold microF jobAt; simp only [getD_some hv0, getD_some r0, getD_some htk, getD_some n1]; rw [if_neg om, if_neg om]; dsimp only; simp only [getD_some (set_at n1)] at hFl; simp only [getD_some (set_at n1)]; rw [hFl]; rw [if_pos om]
 exact ⟨_, by unfold microF; simp only [getD_some hv0]; rw [if_neg om, if_neg om]; rfl, by rw [he]; exact ⟨_, _, _, _, _, _, _, _, _, _, _, _, _, _, _, _, _, _, _, _, rfl, h4, hOa, hOd, y2, hDi, hQi, y9, (set_len hxl)⟩, ba⟩
end Go.Proofs.YtegmennaekipaaaGreat

namespace Go.Proofs.YtegmennaekipaaaGreat
open Go Go.E
set_option linter.unusedVariables false
set_option linter.unusedSimpArgs false
set_option linter.unnecessarySimpa false
set_option maxRecDepth 100000
set_option maxHeartbeats 2000000
variable {W w : World} {H : Chunk} {F : List Chunk}

/-! ### what a farm's calls do, and what stays so -/
theorem f_acquire {p : Nat} {F : FS} {M : Chunk} {F0 : List Chunk} (hR : FarmR p F M) {K : Int} (hF : FW F K) (hst : StOk F.st K) (x : Int) (c : Int) (hx : 0 ≤ x ∧ x < F.ws.length) (hS : Sat W w (M :: H :: F0)) :
  Calls Tryz.prog 82 #[Pt p 0, I x, I c] w fun e w' => (acqF F x c = none ∧ e = .returned (.tuple #[.agg #[I 0, I 0, I 0, I 0, I 0, I 0, I 0], .bool false]) ∧ Sat W w' (M :: H :: F0)) ∨ (∃ (F' : FS) (ev : Evt) (M' : Chunk), acqF F x c = some (F', ev) ∧ e = .returned (.tuple #[.agg (encEvt ev).toArray, .bool true]) ∧ FarmR p F' M' ∧ Sat W w' (M' :: H :: F0)) := by
 obtain ⟨wa, aa, da, wn, wk, an, ak, dn, dk, q, xs, ap, dp, Wc, Ac, Dc, Qc, acs, dcs, jcs, rfl, hOw, hOa, hOd, hAs, hDs, hQ, hJs, hxl⟩ := hR
 have hS : Sat W _ ((Tri p 102 (preF F.cfg wa wn wk aa an ak da dn dk q) (xs.flatMap encFJob) (encStt F.st)) :: Wc :: Ac :: Dc :: acs.flatten :: dcs.flatten :: Qc :: jcs.flatten :: H :: F0) := Sat.perm hS (by simp [Value.cells])
 have hwl := hOw.len; have hwk := hOw.le; have hal := hOa.len; have hak := hOa.le; have hdl := hOd.len; have hdk := hOd.le; have has1 := hAs.1; have hds1 := hDs.1; have hjs1 := hJs.1
 have hal_ := hF.al; have hdl_ := hF.dl; have hjl_ := hF.jl; have hn_ := hF.n; have hk_ := hF.k; have hs1 := hst.a; have hs2 := hst.b; have hs3 := hst.c; have hs4 := hst.d; have hs5 := hst.e; have hs6 := hst.f; have hs7 := hst.g
 refine callsA 94 Tryz.func82 rfl ?_
 refine sR ?_
 refine sAlloc hS Tryz.zeroValue62 ?_
 intro g0 _ m0
 refine pu1 <| nT <| seqE <| sR <| pu3 ?_
 refine sLp m0 (ptr_up 1 rfl tri_pre) 10 (.slice da dn dk) (Tryz.isAgg95 _) ?_
 refine pu1 ?_
 refine sIdxO hOd x (x).toNat Tryz.runUnderlying95 Tryz.sizeOf106 ?_
 intro c2 _ _ b1 d2 _
 refine sLp m0 (d2.up 4 rfl) 0 (Pt c2 0) (Tryz.isAgg106 _) ?_
 obtain ⟨i0, e2, h0, j0, f2⟩ := Obs.get hDs b1
 have g2 := (m0.pick 6 rfl)
 have h2 := Sat.openN (A := []) x.toNat j0 g2
 refine cX Tryz.call138 (dq_pop f2 (Sat.flat1 h2)) ?_
 rintro _ _ (⟨n0, rfl, o0⟩ | ⟨b0, c1, d1, rfl, i2, o0⟩)
 rotate_left
 ·have j2 := Sat.unflat1 o0
  have k2 := (j2.picks [1, 1])
  have l2 := Sat.shutN (d := c1) (A := []) x.toNat j0 k2
  have m2 := Obs.set hDs b1 i2
  refine pu3 ?_
  refine sAlloc l2 Tryz.zeroValue60 ?_
  intro n2 _ o2
  refine sT o2 0 0 (.agg #[I b0.job, I b0.task]) [I b0.job, I b0.task] #[I b0.job, I b0.task] Tryz.sizeOf60 ?_
  intro _ e1
  refine pu1 <| nT <| sR <| pu1 <| nT <| cTt <| sR <| pu2 ?_
  refine lA e1 0 0 2 (Tryz.isAgg60 _) (Tryz.sizeOf60 _) ?_
  have p0 : RefOk (shapeF F.jobs) b0 := (hF.d _ (List.mem_of_getElem? h0) _ (List.mem_of_getLast? d1))
  obtain ⟨j5, p2, q2, r2, _⟩ := hF.job p0
  have s2 := (e1.picks [9, 9, 3, 9, 9, 9, 9, 9])
  have t2 := (s2.merge8)
  have u2 : FarmR p (⟨F.cfg, F.ws, F.ar, (F.dq.set x.toNat ({ i0 with l := i0.l.dropLast } : DS)), F.q, F.jobs, F.st⟩ : FS) ((Tri p 102 (preF F.cfg wa wn wk aa an ak da dn dk q) (xs.flatMap encFJob) (encStt F.st)) ++ (Wc ++ (Ac ++ (Dc ++ (acs.flatten ++ ((dcs.set x.toNat c1).flatten ++ (Qc ++ jcs.flatten))))))) := ⟨_, _, _, _, _, _, _, _, _, _, _, _, _, _, _, _, _, _, _, _, rfl, hOw, hOa, hOd, hAs, m2, hQ, hJs, hxl⟩
  refine cX Tryz.call139 (f_take u2 x b0 (by first | omega | (dsimp only; omega) | (simp only [List.length_set]; omega)) (by first | omega | (dsimp only; omega) | (simp only [List.length_set]; omega)) ⟨p0.1, p0.2.1⟩ p2 q2 r2 (by first | omega | (dsimp only; omega) | (simp only [List.length_set]; omega)) (Sat.flat1 t2)) ?_
  rintro _ _ ⟨_, rfl, f1, v2⟩
  have w2 := Sat.unflat1 v2
  obtain ⟨e0, q0⟩ : ∃ z, z = takeF (⟨F.cfg, F.ws, F.ar, (F.dq.set x.toNat ({ i0 with l := i0.l.dropLast } : DS)), F.q, F.jobs, F.st⟩ : FS) x b0 := ⟨_, rfl⟩
  rw [← q0] at f1
  obtain ⟨wa_F_166, aa_F_166, da_F_166, wn_F_166, wk_F_166, an_F_166, ak_F_166, dn_F_166, dk_F_166, q_F_166, xs_F_166, ap_F_166, dp_F_166, Wc_F_166, Ac_F_166, Dc_F_166, Qc_F_166, acs_F_166, dcs_F_166, jcs_F_166, rfl, hOw_F_166, hOa_F_166, hOd_F_166, hAs_F_166, hDs_F_166, hQ_F_166, hJs_F_166, hxl_F_166⟩ := f1
  have g1 : Sat W _ ((Tri p 102 (preF e0.cfg wa_F_166 wn_F_166 wk_F_166 aa_F_166 an_F_166 ak_F_166 da_F_166 dn_F_166 dk_F_166 q_F_166) (xs_F_166.flatMap encFJob) (encStt e0.st)) :: Wc_F_166 :: Ac_F_166 :: Dc_F_166 :: acs_F_166.flatten :: dcs_F_166.flatten :: Qc_F_166 :: jcs_F_166.flatten :: [(n2, .cells #[I b0.job, I b0.task] 60 (0, 0))] :: [(g0, .cells #[I 0, I 0, I 0, I 0, I 0, I 0, I 0] 62 (0, 0))] :: H :: F0) := Sat.perm w2 (by simp [Value.cells])
  have hwl_F_166 := hOw_F_166.len; have hwk_F_166 := hOw_F_166.le; have hal_F_166 := hOa_F_166.len; have hak_F_166 := hOa_F_166.le; have hdl_F_166 := hOd_F_166.len; have hdk_F_166 := hOd_F_166.le; have has1_F_166 := hAs_F_166.1; have hds1_F_166 := hDs_F_166.1; have hjs1_F_166 := hJs_F_166.1
  have hst1 : e0.st.steals = F.st.steals := by subst q0; rfl
  refine nT <| sR <| pu1 ?_
  refine lA g1 8 0 2 (Tryz.isAgg60 _) (Tryz.sizeOf60 _) ?_
  refine pu1 ?_
  refine sT g1 9 0 (.agg #[I 3, I x, I 0, I 0, I b0.job, I b0.task, I 0]) [I 3, I x, I 0, I 0, I b0.job, I b0.task, I 0] #[I 3, I x, I 0, I 0, I b0.job, I b0.task, I 0] Tryz.sizeOf62 ?_
  intro _ h1
  refine pu1 <| nT <| retE <| thenK_r <| retN (vs := [.agg #[I 3, I x, I 0, I 0, I b0.job, I b0.task, I 0], .bool true]) rfl (.cons (.cell _ _ _ _ kr (lvA h1 9 0 [I 3, I x, I 0, I 0, I b0.job, I b0.task, I 0] (Tryz.isAgg62 _) (Tryz.sizeOf62 _) rfl rfl rfl)) (.cons (.tmp _ _ kr) .nil)) ?_
  have x2 := (h1.drops [8, 8])
  have y2 := (x2.merge8)
  have he : acqF F x c = some ((⟨e0.cfg, e0.ws, e0.ar, e0.dq, e0.q, e0.jobs, e0.st⟩ : FS), (⟨3, x, 0, 0, b0.job, b0.task, 0⟩ : Evt)) := by subst q0; exact acq_own h0 d1
  exact .inr ⟨_, _, _, he, rfl, ⟨_, _, _, _, _, _, _, _, _, _, _, _, _, _, _, _, _, _, _, _, rfl, hOw_F_166, hOa_F_166, hOd_F_166, hAs_F_166, hDs_F_166, hQ_F_166, hJs_F_166, hxl_F_166⟩, y2⟩
 have z2 := Sat.unflat1 o0
 have a3 := (z2.picks [1, 1])
 have i1 := Sat.shutN (d := e2) (A := []) x.toNat j0 a3
 rw [set_same j0] at i1
 refine pu3 ?_
 refine sAlloc i1 Tryz.zeroValue60 ?_
 intro r0 _ b3
 refine sT b3 0 0 (.agg #[I 0, I 0]) [I 0, I 0] #[I 0, I 0] Tryz.sizeOf60 ?_
 intro _ j1
 refine pu1 <| nT <| sR <| pu1 <| nT <| cFf <| kT <| seqE <| sR <| pu3 ?_
 refine sLp j1 (ptr_up 3 rfl tri_pre) 11 (Pt q 0) (Tryz.isAgg96 _) ?_
 have c3 := (j1.pick 8 rfl)
 refine cX Tryz.call140 (iq_pop hQ (Sat.flat1 c3)) ?_
 rintro _ _ (⟨k1, rfl, s0⟩ | ⟨c0, l1, d3, m1, rfl, e3, s0⟩)
 rotate_left
 ·have f3 := Sat.unflat1 s0
  refine pu3 ?_
  refine sAlloc f3 Tryz.zeroValue60 ?_
  intro g3 _ h3
  refine sT h3 0 0 (.agg #[I c0.job, I c0.task]) [I c0.job, I c0.task] #[I c0.job, I c0.task] Tryz.sizeOf60 ?_
  intro _ n1
  refine pu1 <| nT <| sR <| pu1 <| nT <| cTt <| sR <| pu2 ?_
  refine lA n1 0 0 2 (Tryz.isAgg60 _) (Tryz.sizeOf60 _) ?_
  have t0 : RefOk (shapeF F.jobs) c0 := (let h := popB_mem m1; h.1.elim fun l hl => hF.q l hl.1 _ hl.2)
  obtain ⟨s5, i3, j3, k3, _⟩ := hF.job t0
  have l3 := (n1.picks [10, 2, 4, 10, 10, 10, 10, 10])
  have m3 := (l3.merge8)
  have n3 : FarmR p (⟨F.cfg, F.ws, F.ar, F.dq, ({ F.q with bs := l1 } : QS), F.jobs, F.st⟩ : FS) ((Tri p 102 (preF F.cfg wa wn wk aa an ak da dn dk q) (xs.flatMap encFJob) (encStt F.st)) ++ (Wc ++ (Ac ++ (Dc ++ (acs.flatten ++ (dcs.flatten ++ (d3 ++ jcs.flatten))))))) := ⟨_, _, _, _, _, _, _, _, _, _, _, _, _, _, _, _, _, _, _, _, rfl, hOw, hOa, hOd, hAs, hDs, e3, hJs, hxl⟩
  refine cX Tryz.call139 (f_take n3 x c0 (by first | omega | (dsimp only; omega) | (simp only [List.length_set]; omega)) (by first | omega | (dsimp only; omega) | (simp only [List.length_set]; omega)) ⟨t0.1, t0.2.1⟩ i3 j3 k3 (by first | omega | (dsimp only; omega) | (simp only [List.length_set]; omega)) (Sat.flat1 m3)) ?_
  rintro _ _ ⟨_, rfl, o1, o3⟩
  have p3 := Sat.unflat1 o3
  obtain ⟨f0, u0⟩ : ∃ z, z = takeF (⟨F.cfg, F.ws, F.ar, F.dq, ({ F.q with bs := l1 } : QS), F.jobs, F.st⟩ : FS) x c0 := ⟨_, rfl⟩
  rw [← u0] at o1
  obtain ⟨wa_F_137, aa_F_137, da_F_137, wn_F_137, wk_F_137, an_F_137, ak_F_137, dn_F_137, dk_F_137, q_F_137, xs_F_137, ap_F_137, dp_F_137, Wc_F_137, Ac_F_137, Dc_F_137, Qc_F_137, acs_F_137, dcs_F_137, jcs_F_137, rfl, hOw_F_137, hOa_F_137, hOd_F_137, hAs_F_137, hDs_F_137, hQ_F_137, hJs_F_137, hxl_F_137⟩ := o1
  have p1 : Sat W _ ((Tri p 102 (preF f0.cfg wa_F_137 wn_F_137 wk_F_137 aa_F_137 an_F_137 ak_F_137 da_F_137 dn_F_137 dk_F_137 q_F_137) (xs_F_137.flatMap encFJob) (encStt f0.st)) :: Wc_F_137 :: Ac_F_137 :: Dc_F_137 :: acs_F_137.flatten :: dcs_F_137.flatten :: Qc_F_137 :: jcs_F_137.flatten :: [(g3, .cells #[I c0.job, I c0.task] 60 (0, 0))] :: [(r0, .cells #[I 0, I 0] 60 (0, 0))] :: [(g0, .cells #[I 0, I 0, I 0, I 0, I 0, I 0, I 0] 62 (0, 0))] :: H :: F0) := Sat.perm p3 (by simp [Value.cells])
  have hwl_F_137 := hOw_F_137.len; have hwk_F_137 := hOw_F_137.le; have hal_F_137 := hOa_F_137.len; have hak_F_137 := hOa_F_137.le; have hdl_F_137 := hOd_F_137.len; have hdk_F_137 := hOd_F_137.le; have has1_F_137 := hAs_F_137.1; have hds1_F_137 := hDs_F_137.1; have hjs1_F_137 := hJs_F_137.1
  have hst1 : f0.st.steals = F.st.steals := by subst u0; rfl
  refine nT <| sR <| pu1 ?_
  refine lA p1 8 0 2 (Tryz.isAgg60 _) (Tryz.sizeOf60 _) ?_
  refine pu1 ?_
  refine sT p1 10 0 (.agg #[I 4, I x, I 0, I 0, I c0.job, I c0.task, I 0]) [I 4, I x, I 0, I 0, I c0.job, I c0.task, I 0] #[I 4, I x, I 0, I 0, I c0.job, I c0.task, I 0] Tryz.sizeOf62 ?_
  intro _ q1
  refine pu1 <| nT <| retE <| thenK_r <| retN (vs := [.agg #[I 4, I x, I 0, I 0, I c0.job, I c0.task, I 0], .bool true]) rfl (.cons (.cell _ _ _ _ kr (lvA q1 10 0 [I 4, I x, I 0, I 0, I c0.job, I c0.task, I 0] (Tryz.isAgg62 _) (Tryz.sizeOf62 _) rfl rfl rfl)) (.cons (.tmp _ _ kr) .nil)) ?_
  have q3 := (q1.drops [8, 8, 8])
  have r3 := (q3.merge8)
  have he : acqF F x c = some ((⟨f0.cfg, f0.ws, f0.ar, f0.dq, f0.q, f0.jobs, f0.st⟩ : FS), (⟨4, x, 0, 0, c0.job, c0.task, 0⟩ : Evt)) := by subst u0; exact acq_inj h0 n0 m1
  exact .inr ⟨_, _, _, he, rfl, ⟨_, _, _, _, _, _, _, _, _, _, _, _, _, _, _, _, _, _, _, _, rfl, hOw_F_137, hOa_F_137, hOd_F_137, hAs_F_137, hDs_F_137, hQ_F_137, hJs_F_137, hxl_F_137⟩, r3⟩
 have s3 := Sat.unflat1 s0
 refine pu3 ?_
 refine sAlloc s3 Tryz.zeroValue60 ?_
 intro r1 _ t3
 refine sT t3 0 0 (.agg #[I 0, I 0]) [I 0, I 0] #[I 0, I 0] Tryz.sizeOf60 ?_
 intro _ u3
 refine pu1 <| nT <| sR <| pu1 <| nT <| cFf <| kT <| seqE <| sR <| pu1 <| nT <| blockE ?_
 refine loopA (γ := Nat) (fun i => [(0, Pt p 0), (1, I x), (2, I c), (6, Pt g0 0), (12, I ((i : Nat) : Int))]) (fun i w => Sat W w ([(r1, .cells #[I 0, I 0] 60 (0, 0))] :: Qc :: [(r0, .cells #[I 0, I 0] 60 (0, 0))] :: dcs.flatten :: [(g0, .cells #[I 0, I 0, I 0, I 0, I 0, I 0, I 0] 62 (0, 0))] :: (Tri p 102 (preF F.cfg wa wn wk aa an ak da dn dk q) (xs.flatMap encFJob) (encStt F.st)) :: Wc :: Ac :: Dc :: acs.flatten :: jcs.flatten :: H :: F0) ∧ i ≤ wn ∧ (firstI (canSteal F c) F.ws.length 0 = firstI (canSteal F c) (F.ws.length - i) i)) (fun i => wn - i) 0 ⟨u3, om, rfl⟩ ?_
 rintro i ρ _ ⟨v0, hi, hfi⟩
 refine seqE <| sR <| pu4 ?_
 refine sLp v0 (ptr_up 5 rfl tri_pre) 8 (.slice wa wn wk) (Tryz.isAgg66 _) ?_
 refine pu2 <| nT ?_
 refine cD (((i : Nat) : Int) < ((wn : Nat) : Int)) (fun v3 => ?_) (fun v3 => ?_)
 rotate_left
 ·refine exitE <| xB <| thenK_n <| sR <| pu1 ?_
  refine sT v0 4 0 (.agg #[I 0, I 0, I 0, I 0, I 0, I 0, I 0]) [I 0, I 0, I 0, I 0, I 0, I 0, I 0] #[I 0, I 0, I 0, I 0, I 0, I 0, I 0] Tryz.sizeOf62 ?_
  intro _ s1
  refine pu1 <| nT <| retE <| retN (vs := [.agg #[I 0, I 0, I 0, I 0, I 0, I 0, I 0], .bool false]) rfl (.cons (.cell _ _ _ _ kr (lvA s1 4 0 [I 0, I 0, I 0, I 0, I 0, I 0, I 0] (Tryz.isAgg62 _) (Tryz.sizeOf62 _) rfl rfl rfl)) (.cons (.tmp _ _ kr) .nil)) ?_
  have w3 := ((s1.picks [3, 9, 9, 9, 9, 9]).drops [6, 7, 7])
  have x3 := (w3.merge8)
  exact .inl ⟨(acq_rest h0 n0 k1).trans (steal_end om hfi), rfl, x3⟩
 refine kT <| seqE <| blockE <| sR <| pu3 ?_
 have y3 := (v0.pick 5 rfl)
 refine cX Tryz.call83 (f_choice c ((i : Nat) : Int) F.ws.length hwl om om y3) ?_
 rintro _ _ ⟨rfl, w0⟩
 have b6 := choice_bd (n := ((F.ws.length : Nat) : Int)) (c := c) (i := ((i : Nat) : Int)) om om
 refine pu1 <| nT <| sR <| pu3 ?_
 refine sLp w0 (ptr_up 0 rfl tri_pre) 10 (.slice da dn dk) (Tryz.isAgg95 _) ?_
 refine pu1 ?_
 refine sIdxO hOd (choiceI ((F.ws.length : Nat) : Int) c ((i : Nat) : Int)) ((choiceI ((F.ws.length : Nat) : Int) c ((i : Nat) : Int))).toNat Tryz.runUnderlying95 Tryz.sizeOf106 ?_
 intro z3 _ _ t1 a4 _
 refine sLp w0 (a4.up 8 rfl) 0 (Pt z3 0) (Tryz.isAgg106 _) ?_
 obtain ⟨k0, b4, x0, l0, c4⟩ := Obs.get hDs t1
 have d4 := (w0.pick 4 rfl)
 have e4 := Sat.openN (A := []) ((choiceI ((F.ws.length : Nat) : Int) c ((i : Nat) : Int)).toNat) l0 d4
 refine cX Tryz.call141 (dq_steal c4 (Sat.flat1 e4)) ?_
 rintro _ _ (⟨f4, rfl, y0⟩ | ⟨d0, u1, v1, rfl, g4, y0⟩)
 ·have h4 := Sat.unflat1 y0
  have i4 := (h4.picks [1, 1])
  have w1 := Sat.shutN (d := b4) (A := []) ((choiceI ((F.ws.length : Nat) : Int) c ((i : Nat) : Int)).toNat) l0 i4
  rw [set_same l0] at w1
  refine pu3 ?_
  refine sAlloc w1 Tryz.zeroValue60 ?_
  intro _ _ j4
  refine sT j4 0 0 (.agg #[I 0, I 0]) [I 0, I 0] #[I 0, I 0] Tryz.sizeOf60 ?_
  intro _ k4
  refine pu1 <| nT <| sR <| pu1 <| nT <| cFf <| skipE <| blockK_n <| thenK_n <| regionE <| pu1 ?_
  refine sAdd ((i : Nat) : Int) 1 ?_
  refine pu1 <| nT ?_
  have l4 := ((k4.picks [6, 2, 6, 6, 6]).dropAt 5 rfl)
  exact ⟨i + 1, od, alA, l4, om, (steal_skip om hfi x0 f4)⟩
 have m4 := Sat.unflat1 y0
 have n4 := (m4.picks [1, 1])
 have o4 := Sat.shutN (d := u1) (A := []) ((choiceI ((F.ws.length : Nat) : Int) c ((i : Nat) : Int)).toNat) l0 n4
 have p4 := Obs.set hDs t1 g4
 refine pu3 ?_
 refine sAlloc o4 Tryz.zeroValue60 ?_
 intro q4 _ r4
 refine sT r4 0 0 (.agg #[I d0.job, I d0.task]) [I d0.job, I d0.task] #[I d0.job, I d0.task] Tryz.sizeOf60 ?_
 intro _ x1
 refine pu1 <| nT <| sR <| pu1 <| nT <| cTt <| sR <| pu2 ?_
 refine lA x1 0 0 2 (Tryz.isAgg60 _) (Tryz.sizeOf60 _) ?_
 have z0 : RefOk (shapeF F.jobs) d0 := (hF.d _ (List.mem_of_getElem? x0) _ (List.mem_of_head? v1))
 obtain ⟨l6, s4, t4, u4, _⟩ := hF.job z0
 have v4 := (x1.picks [11, 5, 3, 11, 11, 11, 11, 8])
 have w4 := (v4.merge8)
 have x4 : FarmR p (⟨F.cfg, F.ws, F.ar, (F.dq.set ((choiceI ((F.ws.length : Nat) : Int) c ((i : Nat) : Int)).toNat) ({ k0 with l := k0.l.tail } : DS)), F.q, F.jobs, F.st⟩ : FS) ((Tri p 102 (preF F.cfg wa wn wk aa an ak da dn dk q) (xs.flatMap encFJob) (encStt F.st)) ++ (Wc ++ (Ac ++ (Dc ++ (acs.flatten ++ ((dcs.set ((choiceI ((F.ws.length : Nat) : Int) c ((i : Nat) : Int)).toNat) u1).flatten ++ (Qc ++ jcs.flatten))))))) := ⟨_, _, _, _, _, _, _, _, _, _, _, _, _, _, _, _, _, _, _, _, rfl, hOw, hOa, hOd, hAs, p4, hQ, hJs, hxl⟩
 refine cX Tryz.call139 (f_take x4 x d0 (by first | omega | (dsimp only; omega) | (simp only [List.length_set]; omega)) (by first | omega | (dsimp only; omega) | (simp only [List.length_set]; omega)) ⟨z0.1, z0.2.1⟩ s4 t4 u4 (by first | omega | (dsimp only; omega) | (simp only [List.length_set]; omega)) (Sat.flat1 w4)) ?_
 rintro _ _ ⟨_, rfl, y1, y4⟩
 have z4 := Sat.unflat1 y4
 obtain ⟨a0, a1⟩ : ∃ z, z = takeF (⟨F.cfg, F.ws, F.ar, (F.dq.set ((choiceI ((F.ws.length : Nat) : Int) c ((i : Nat) : Int)).toNat) ({ k0 with l := k0.l.tail } : DS)), F.q, F.jobs, F.st⟩ : FS) x d0 := ⟨_, rfl⟩
 rw [← a1] at y1
 obtain ⟨wa_F_105, aa_F_105, da_F_105, wn_F_105, wk_F_105, an_F_105, ak_F_105, dn_F_105, dk_F_105, q_F_105, xs_F_105, ap_F_105, dp_F_105, Wc_F_105, Ac_F_105, Dc_F_105, Qc_F_105, acs_F_105, dcs_F_105, jcs_F_105, rfl, hOw_F_105, hOa_F_105, hOd_F_105, hAs_F_105, hDs_F_105, hQ_F_105, hJs_F_105, hxl_F_105⟩ := y1
 have z1 : Sat W _ ((Tri p 102 (preF a0.cfg wa_F_105 wn_F_105 wk_F_105 aa_F_105 an_F_105 ak_F_105 da_F_105 dn_F_105 dk_F_105 q_F_105) (xs_F_105.flatMap encFJob) (encStt a0.st)) :: Wc_F_105 :: Ac_F_105 :: Dc_F_105 :: acs_F_105.flatten :: dcs_F_105.flatten :: Qc_F_105 :: jcs_F_105.flatten :: [(q4, .cells #[I d0.job, I d0.task] 60 (0, 0))] :: [(r1, .cells #[I 0, I 0] 60 (0, 0))] :: [(r0, .cells #[I 0, I 0] 60 (0, 0))] :: [(g0, .cells #[I 0, I 0, I 0, I 0, I 0, I 0, I 0] 62 (0, 0))] :: H :: F0) := Sat.perm z4 (by simp [Value.cells])
 have hwl_F_105 := hOw_F_105.len; have hwk_F_105 := hOw_F_105.le; have hal_F_105 := hOa_F_105.len; have hak_F_105 := hOa_F_105.le; have hdl_F_105 := hOd_F_105.len; have hdk_F_105 := hOd_F_105.le; have has1_F_105 := hAs_F_105.1; have hds1_F_105 := hDs_F_105.1; have hjs1_F_105 := hJs_F_105.1
 have hst1 : a0.st.steals = F.st.steals := by subst a1; rfl
 refine nT <| sR <| pu4 ?_
 refine sLp z1 (ptr_up 0 rfl (tri_post (k := 332) (tri_len (sz := 5) (m := 12) fR hxl_F_105))) 4 (I a0.st.steals) (Tryz.isAgg3 _) ?_
 refine sAdd a0.st.steals 1 ?_
 refine pu3 ?_
 refine sTpost z1 0 332 4 rfl (I (a0.st.steals + 1)) [I (a0.st.steals + 1)] [I a0.st.starts, I a0.st.commits, I a0.st.drops, I a0.st.crashes, I (a0.st.steals + 1), I a0.st.helps, I a0.st.spills, I a0.st.queued, I a0.st.held, I a0.st.cells] (tri_len (sz := 5) (m := 12) fR hxl_F_105) Tryz.sizeOf3 ?_
 intro _ a2
 refine nT <| sR <| pu2 ?_
 refine lA a2 8 0 2 (Tryz.isAgg60 _) (Tryz.sizeOf60 _) ?_
 refine pu1 ?_
 refine sT a2 11 0 (.agg #[I 5, I x, I (choiceI ((F.ws.length : Nat) : Int) c ((i : Nat) : Int)), I 0, I d0.job, I d0.task, I 0]) [I 5, I x, I (choiceI ((F.ws.length : Nat) : Int) c ((i : Nat) : Int)), I 0, I d0.job, I d0.task, I 0] #[I 5, I x, I (choiceI ((F.ws.length : Nat) : Int) c ((i : Nat) : Int)), I 0, I d0.job, I d0.task, I 0] Tryz.sizeOf62 ?_
 intro _ b2
 refine pu1 <| nT <| retE <| blockK_r <| thenK_r <| tR <| thenK_r <| retN (vs := [.agg #[I 5, I x, I (choiceI ((F.ws.length : Nat) : Int) c ((i : Nat) : Int)), I 0, I d0.job, I d0.task, I 0], .bool true]) rfl (.cons (.cell _ _ _ _ kr (lvA b2 11 0 [I 5, I x, I (choiceI ((F.ws.length : Nat) : Int) c ((i : Nat) : Int)), I 0, I d0.job, I d0.task, I 0] (Tryz.isAgg62 _) (Tryz.sizeOf62 _) rfl rfl rfl)) (.cons (.tmp _ _ kr) .nil)) ?_
 have a5 := (b2.drops [8, 8, 8, 8])
 have b5 := (a5.merge8)
 have he : acqF F x c = some ((⟨a0.cfg, a0.ws, a0.ar, a0.dq, a0.q, a0.jobs, (⟨a0.st.starts, a0.st.commits, a0.st.drops, a0.st.crashes, (a0.st.steals + 1), a0.st.helps, a0.st.spills, a0.st.queued, a0.st.held, a0.st.cells⟩ : Stt)⟩ : FS), (⟨5, x, (choiceI ((F.ws.length : Nat) : Int) c ((i : Nat) : Int)), 0, d0.job, d0.task, 0⟩ : Evt)) := by subst a1; exact (acq_rest h0 n0 k1).trans (steal_at om hfi x0 v1)
 exact .inr ⟨_, _, _, he, rfl, ⟨_, _, _, _, _, _, _, _, _, _, _, _, _, _, _, _, _, _, _, _, rfl, hOw_F_105, hOa_F_105, hOd_F_105, hAs_F_105, hDs_F_105, hQ_F_105, hJs_F_105, hxl_F_105⟩, b5⟩
end Go.Proofs.YtegmennaekipaaaGreat
