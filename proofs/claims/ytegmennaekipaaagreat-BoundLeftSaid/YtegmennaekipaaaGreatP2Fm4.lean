import Derived.Test.YtegmennaekipaaaGreatP2Fm2
namespace Go.Proofs.YtegmennaekipaaaGreat
open Go Go.E
set_option linter.unusedVariables false
set_option linter.unusedSimpArgs false
set_option linter.unnecessarySimpa false
set_option maxRecDepth 100000
set_option maxHeartbeats 2000000
variable {W w : World} {H : Chunk} {F : List Chunk}

/-! ### steps, crashes, cancellations -/
-- squeezed
theorem f_holds (v : Wkr) (hS : Sat W w (H :: F)) :
  Ro Tryz.prog 66 #[.agg (encWkr v).toArray] (.bool (decide ((v.phase = 1 ∨ v.phase = 2 ∨ v.phase = 3)))) W w (H :: F) := by
 refine callsA 16 Tryz.func66 rfl ?_
 refine sR ?_
 refine sBox hS (.agg (encWkr v).toArray) (encWkr v).toArray ?_
 intro _ _ a0
 refine pu1 <| nT <| sR <| pu1 ?_
 refine sL a0 0 0 (I v.phase) (Tryz.isAgg3 _) ?_
 refine pu2 ?_
 refine sE 6 v.phase 1 (fun b0 => ?_) (fun b0 => ?_)
 ·refine pu10 <| nT <| retE <| retT [.bool true] ?_
  have c0 := (a0.dropAt 0 rfl)
  exact ⟨congrArg (fun b => Ending.returned (.bool b)) ((decide_eq_true om).symm), c0⟩
 refine pu1 <| gY ?_
 refine sL a0 0 0 (I v.phase) (Tryz.isAgg3 _) ?_
 refine pu3 ?_
 refine sE 11 v.phase 2 (fun d0 => ?_) (fun d0 => ?_)
 ·refine pu5 <| nT <| retE <| retT [.bool true] ?_
  have e0 := (a0.dropAt 0 rfl)
  exact ⟨congrArg (fun b => Ending.returned (.bool b)) ((decide_eq_true om).symm), e0⟩
 refine pu1 <| gY ?_
 refine sL a0 0 0 (I v.phase) (Tryz.isAgg3 _) ?_
 refine pu3 <| nT <| retE <| retT [.bool ((v.phase : Int) == 3)] ?_
 have f0 := (a0.dropAt 0 rfl)
 exact ⟨congrArg (fun b => Ending.returned (.bool b)) (by rw [Bool.eq_iff_iff]; simp only [decide_eq_true_eq, beq_iff_eq]; omega), f0⟩
theorem f_step {p : Nat} {F : FS} {M : Chunk} {F0 : List Chunk} (hR : FarmR p F M) {K : Int} (hF : FW F K) (hst : StOk F.st K) (x : Int) (c : Int) (hS : Sat W w (M :: H :: F0)) :
  Calls Tryz.prog 26 #[Pt p 0, I x, I c] w fun e w' => ∃ (az : Option Addr) (nz kz : Nat) (G M' : Chunk), e = .returned (.tuple #[.slice az nz kz, I (stepF F x c).2.2]) ∧ OwnT encEvt 62 7 az nz kz (stepF F x c).2.1 G ∧ FarmR p (stepF F x c).1 M' ∧ Sat W w' (G :: M' :: H :: F0) := by
 obtain ⟨wa, aa, da, wn, wk, an, ak, dn, dk, q, xs, ap, dp, Wc, Ac, Dc, Qc, acs, dcs, jcs, rfl, hOw, hOa, hOd, hAs, hDs, hQ, hJs, hxl⟩ := hR
 have hS : Sat W _ ((Tri p 102 (preF F.cfg wa wn wk aa an ak da dn dk q) (xs.flatMap encFJob) (encStt F.st)) :: Wc :: Ac :: Dc :: acs.flatten :: dcs.flatten :: Qc :: jcs.flatten :: H :: F0) := Sat.perm hS (by simp [Value.cells])
 have hwl := hOw.len; have hwk := hOw.le; have hal := hOa.len; have hak := hOa.le; have hdl := hOd.len; have hdk := hOd.le; have has1 := hAs.1; have hds1 := hDs.1; have hjs1 := hJs.1
 have hal_ := hF.al; have hdl_ := hF.dl; have hjl_ := hF.jl; have hn_ := hF.n; have hk_ := hF.k; have hs1 := hst.a; have hs2 := hst.b; have hs3 := hst.c; have hs4 := hst.d; have hs5 := hst.e; have hs6 := hst.f; have hs7 := hst.g
 refine callsA 155 Tryz.func26 rfl ?_
 refine sR <| pu2 <| nT <| seqE <| sR <| pu1 ?_
 refine cX Tryz.call56 (f_zero om hS) ?_
 rintro _ _ ⟨rfl, q0⟩
 refine pu5 ?_
 refine sD 19 (x < 0) (fun j2 => ?_) (fun j2 => ?_)
 ·refine pu8 <| nT <| cTt <| sR <| pu2 <| nT <| retE <| thenK_r <| retT [.slice none 0 0, I 16] ?_
  have k2 := Sat.nilc q0
  have l2 := (k2.picks [8, 8, 8, 8, 8, 8, 8, 8])
  have m2 := ((l2.merge8).pick 1 rfl)
  have he : stepF F x c = (F, [], 16) := step_unk om
  rw [he]; exact ⟨_, _, _, _, _, rfl, (OwnT.nil (enc := encEvt) (E := 62) (sz := 7) fR), ⟨_, _, _, _, _, _, _, _, _, _, _, _, _, _, _, _, _, _, _, _, rfl, hOw, hOa, hOd, hAs, hDs, hQ, hJs, hxl⟩, m2⟩
 refine pu4 <| gY ?_
 refine sLp q0 (ptr_up 0 rfl tri_pre) 8 (.slice wa wn wk) (Tryz.isAgg66 _) ?_
 refine pu3 <| nT ?_
 refine cD (x ≥ ((wn : Nat) : Int)) (fun n2 => ?_) (fun n2 => ?_)
 ·refine sR <| pu2 <| nT <| retE <| thenK_r <| retT [.slice none 0 0, I 16] ?_
  have o2 := Sat.nilc q0
  have p2 := (o2.picks [8, 8, 8, 8, 8, 8, 8, 8])
  have q2 := ((p2.merge8).pick 1 rfl)
  have he : stepF F x c = (F, [], 16) := step_unk om
  rw [he]; exact ⟨_, _, _, _, _, rfl, (OwnT.nil (enc := encEvt) (E := 62) (sz := 7) fR), ⟨_, _, _, _, _, _, _, _, _, _, _, _, _, _, _, _, _, _, _, _, rfl, hOw, hOa, hOd, hAs, hDs, hQ, hJs, hxl⟩, q2⟩
 refine kT <| sR <| pu3 ?_
 refine sLp q0 (ptr_up 0 rfl tri_pre) 8 (.slice wa wn wk) (Tryz.isAgg66 _) ?_
 refine pu1 ?_
 refine sIdxO hOw x (x).toNat Tryz.runUnderlying66 Tryz.sizeOf69 ?_
 intro a0 _ _ l0 r2 _
 have hwo_x_11 := hF.w a0 (List.mem_of_getElem? l0); have hw1_x_11 := hwo_x_11.h; have hw2_x_11 := hwo_x_11.r
 refine sLpA q0 (r2.up 1 rfl) 0 (encWkr a0) (Tryz.isAgg69 _) (Tryz.sizeOf69 _) ?_
 refine sAlloc q0 Tryz.zeroValue69 ?_
 intro f0 _ s2
 refine sT s2 0 0 (.agg (encWkr a0).toArray) (encWkr a0) (encWkr a0).toArray Tryz.sizeOf69 ?_
 intro _ g0
 refine nT <| seqE <| sR <| pu1 ?_
 refine sL g0 0 0 (I a0.phase) (Tryz.isAgg3 _) ?_
 refine pu1 <| nT ?_
 refine cE a0.phase 4 (fun t2 => ?_) (fun t2 => ?_)
 ·refine sR <| pu2 <| nT <| retE <| thenK_r <| retT [.slice none 0 0, I 20] ?_
  have u2 := Sat.nilc g0
  have v2 := ((u2.picks [9, 9, 9, 9, 9, 9, 9, 9]).dropAt 9 rfl)
  have w2 := ((v2.merge8).pick 1 rfl)
  have he : stepF F x c = (F, [], 20) := step_down om l0 om
  rw [he]; exact ⟨_, _, _, _, _, rfl, (OwnT.nil (enc := encEvt) (E := 62) (sz := 7) fR), ⟨_, _, _, _, _, _, _, _, _, _, _, _, _, _, _, _, _, _, _, _, rfl, hOw, hOa, hOd, hAs, hDs, hQ, hJs, hxl⟩, w2⟩
 refine kT <| seqE <| seqE ?_
 refine drawE [1, 6, 11] [(0, ⟨f0, 0, none⟩, I a0.phase), (0, ⟨f0, 1, none⟩, I a0.heldJob), (0, ⟨f0, 2, none⟩, I a0.heldTask), (0, ⟨f0, 3, none⟩, I a0.attempt), (0, ⟨f0, 4, none⟩, I a0.row), (0, ⟨f0, 5, none⟩, I a0.used), (0, ⟨f0, 6, none⟩, I a0.high)] [(true, [0]), (false, [1]), (true, [2]), (true, [3]), (true, [4]), (true, [5]), (true, [7]), (true, [8]), (false, [6]), (true, [9]), (true, [10]), (false, [11]), (true, [12]), (true, [13])] rfl kr ⟨.inr (g0.cell 0 rfl rfl), .inr (g0.cell 0 rfl rfl), .inr (g0.cell 0 rfl rfl), .inr (g0.cell 0 rfl rfl), .inr (g0.cell 0 rfl rfl), .inr (g0.cell 0 rfl rfl), .inr (g0.cell 0 rfl rfl), trivial⟩ ?_
 have x2 := g0.drew
 refine wY (.agg (encWkr a0).toArray) rfl (fun w hF => Y_loadF rfl (Tryz.isAgg69 w) (Tryz.sizeOf69 w) kr rfl ⟨hF 0 _ _ rfl, hF 1 _ _ rfl, hF 2 _ _ rfl, hF 3 _ _ rfl, hF 4 _ _ rfl, hF 5 _ _ rfl, hF 6 _ _ rfl, trivial⟩) ?_
 refine wO rfl ?_
 refine cR Tryz.call66 (f_holds a0 (Sat.flat x2)) ?_
 intro _ j0
 refine nilO ⟨dA, ?_⟩
 refine wU [2] ?_
 rcases Classical.em ((a0.phase = 1 ∨ a0.phase = 2 ∨ a0.phase = 3)) with k0 | k0
 ·refine wFix 40 _ true (decide_eq_true k0) ?_
  refine wU [3] <| wU [4] <| wU [5] <| wU [7] <| wU [8] ?_
  refine wO rfl ?_
  refine gY ?_
  refine sL j0 0 1 (I a0.heldJob) (Tryz.isAgg3 _) ?_
  refine nilO ⟨dA, ?_⟩
  obtain ⟨g1, h1⟩ := at_some hxl (k := (a0.heldJob.toNat)) om
  obtain ⟨y2, m6, w0, n6, z2⟩ := Obs.get hJs h1; obtain ⟨o6, i1, p6, q6⟩ := z2.fields; have r6 := hF.j y2 (List.mem_of_getElem? w0)
  refine wY (.pointer (some ⟨p, 12 + (a0.heldJob.toNat) * 5, none⟩)) rfl (fun w _ => Y_idxA (b := p) (off := 12) a0.heldJob (a0.heldJob.toNat) Tryz.runUnderlying100 Tryz.sizeOf99) ?_
  refine wU [10] ?_
  refine wO rfl ?_
  refine gY ?_
  refine sLp j0 (ptr_up 1 rfl (tri_el (sz := 5) (n0 := 12) fR h1)) 1 (.bool g1.running) (Tryz.isAgg4 _) ?_
  refine nilO ⟨dA, ?_⟩
  refine wU [12] <| wU [13] ?_
  refine wN ?_
  refine thenK_n ?_
  refine cBn g1.running (fun x0 => ?_) (fun x0 => ?_)
  rotate_left
  ·refine sR <| pu3 ?_
   refine sLp j0 (ptr_up 1 rfl tri_pre) 9 (.slice aa an ak) (Tryz.isAgg94 _) ?_
   refine pu1 ?_
   refine sIdxO hOa x (x).toNat Tryz.runUnderlying94 Tryz.sizeOf103 ?_
   intro a3 _ _ j1 b3 _
   refine sLp j0 (b3.up 3 rfl) 0 (Pt a3 0) (Tryz.isAgg103 _) ?_
   obtain ⟨k1, v6, l1, m1, c3⟩ := Obs.get hAs j1
   have d3 := (j0.pick 5 rfl)
   have e3 := Sat.openN (A := []) x.toNat m1 d3
   refine cX Tryz.call69 (ar_reset c3  (Sat.flat1 e3)) ?_
   rintro _ _ ⟨f3, rfl, g3, h3⟩
   have i3 := Sat.unflat1 h3
   have j3 := (i3.picks [1, 1])
   have k3 := Sat.shutN (d := f3) (A := []) x.toNat m1 j3
   have n1 := Obs.set hAs j1 g3
   refine nT <| sR <| pu2 ?_
   have l3 := (k3.picks [0, 4, 4, 4])
   refine cX Tryz.call70 (f_idle hOw hOa n1 x 0 (by first | omega | (dsimp only; omega) | (simp only [List.length_set]; omega)) (by first | omega | (dsimp only; omega) | (simp only [List.length_set]; omega)) l3) ?_
   rintro _ _ ⟨_, rfl, m3, o1⟩
   refine nT <| sR <| pu4 ?_
   refine sLp o1 (ptr_up 0 rfl (tri_post (k := 332) (tri_len (sz := 5) (m := 12) fR hxl))) 2 (I F.st.drops) (Tryz.isAgg3 _) ?_
   refine sAdd F.st.drops 1 ?_
   refine pu3 ?_
   refine sTpost o1 0 332 2 rfl (I (F.st.drops + 1)) [I (F.st.drops + 1)] [I F.st.starts, I F.st.commits, I (F.st.drops + 1), I F.st.crashes, I F.st.steals, I F.st.helps, I F.st.spills, I F.st.queued, I F.st.held, I F.st.cells] (tri_len (sz := 5) (m := 12) fR hxl) Tryz.sizeOf3 ?_
   intro _ p1
   refine nT <| sR <| pu2 ?_
   refine lA p1 4 1 2 (Tryz.isAgg60 _) (Tryz.sizeOf60 _) ?_
   refine pu1 ?_
   refine sBS p1 #[I 9, I x, I 0, I 0, I a0.heldJob, I a0.heldTask, I 0] Tryz.runUnderlying38 Tryz.sizeOf62 Tryz.zeroValue62 ?_
   intro q1 _ n3
   refine pu2 <| nT <| retE <| thenK_r <| retT [.slice (At q1 0) 1 1, I 0] ?_
   have o3 := OwnT.blk (enc := encEvt) (sz := 7) (b := q1) (c := #[I 9, I x, I 0, I 0, I a0.heldJob, I a0.heldTask, I 0]) (E := 62) (xs := [(⟨9, x, 0, 0, a0.heldJob, a0.heldTask, 0⟩ : Evt)]) fR 1 rfl rfl rfl om
   have p3 := ((n3.picks [9, 9, 9, 7, 9, 8, 8, 8]).dropAt 9 rfl)
   have q3 := ((p3.merge8).pick 1 rfl)
   have he : stepF F x c = ((⟨F.cfg, (F.ws.set x.toNat ⟨0, 0, 0, 0, 0, 0, ((F.ar.set x.toNat (resetA k1)).getD x.toNat default).high⟩), (F.ar.set x.toNat (resetA k1)), F.dq, F.q, F.jobs, (⟨F.st.starts, F.st.commits, (F.st.drops + 1), F.st.crashes, F.st.steals, F.st.helps, F.st.spills, F.st.queued, F.st.held, F.st.cells⟩ : Stt)⟩ : FS), [(⟨9, x, 0, 0, a0.heldJob, a0.heldTask, 0⟩ : Evt)], 0) := (step_drop om l0 k0 w0 (i1 ▸ x0)).trans (by unfold dropF clearF arAt; rw [getD_some l1, getD_some (set_at l1)]; rfl)
   rw [he]; exact ⟨_, _, _, _, _, rfl, o3, ⟨_, _, _, _, _, _, _, _, _, _, _, _, _, _, _, _, _, _, _, _, rfl, m3, hOa, hOd, n1, hDs, hQ, hJs, hxl⟩, q3⟩
  refine kT <| seqE <| sR ?_
  refine lA j0 0 0 7 (Tryz.isAgg69 _) (Tryz.sizeOf69 _) ?_
  refine cR Tryz.call66 (f_holds a0 (Sat.flat j0)) ?_
  intro _ r3
  refine nT ?_
  refine cT _ (decide_eq_true k0) ?_
  refine sR <| pu2 ?_
  have t0 := hwo_x_11.t k0; obtain ⟨c7, s3, t3, u3, v3, hd_42_1, hd_42_2, w3, x3⟩ := hF.job t0
  have ht_44_0 := t0.2.2.1
  have y3 := (r3.picks [8, 8, 8, 8, 8, 8, 8, 8])
  have z3 := (y3.merge8)
  have a4 : FarmR p (⟨F.cfg, F.ws, F.ar, F.dq, F.q, F.jobs, F.st⟩ : FS) ((Tri p 102 (preF F.cfg wa wn wk aa an ak da dn dk q) (xs.flatMap encFJob) (encStt F.st)) ++ (Wc ++ (Ac ++ (Dc ++ (acs.flatten ++ (dcs.flatten ++ (Qc ++ jcs.flatten))))))) := ⟨_, _, _, _, _, _, _, _, _, _, _, _, _, _, _, _, _, _, _, _, rfl, hOw, hOa, hOd, hAs, hDs, hQ, hJs, hxl⟩
  refine cX Tryz.call81 (f_micro a4 x (by first | omega | (dsimp only; omega) | (simp only [List.length_set]; omega)) (by first | omega | (dsimp only; omega) | (simp only [List.length_set]; omega)) (by first | omega | (dsimp only; omega) | (simp only [List.length_set]; omega)) l0 ⟨t0.1, t0.2.1⟩ s3 t3 u3 ⟨ht_44_0, x3⟩ ⟨w3, v3⟩ ⟨hd_42_1, hd_42_2⟩ om (by first | omega | (dsimp only; omega) | (simp only [List.length_set]; omega)) (Sat.flat1 z3)) ?_
  rintro _ _ ⟨_, rfl, r1, b4⟩
  have c4 := Sat.unflat1 b4
  obtain ⟨h0, s1⟩ : ∃ z, z = (microF (⟨F.cfg, F.ws, F.ar, F.dq, F.q, F.jobs, F.st⟩ : FS) x).2 := ⟨_, rfl⟩; rw [← s1]
  obtain ⟨y0, t1⟩ : ∃ z, z = (microF (⟨F.cfg, F.ws, F.ar, F.dq, F.q, F.jobs, F.st⟩ : FS) x).1 := ⟨_, rfl⟩
  rw [← t1] at r1
  obtain ⟨wa_F_56, aa_F_56, da_F_56, wn_F_56, wk_F_56, an_F_56, ak_F_56, dn_F_56, dk_F_56, q_F_56, xs_F_56, ap_F_56, dp_F_56, Wc_F_56, Ac_F_56, Dc_F_56, Qc_F_56, acs_F_56, dcs_F_56, jcs_F_56, rfl, hOw_F_56, hOa_F_56, hOd_F_56, hAs_F_56, hDs_F_56, hQ_F_56, hJs_F_56, hxl_F_56⟩ := r1
  have d4 : Sat W _ ((Tri p 102 (preF y0.cfg wa_F_56 wn_F_56 wk_F_56 aa_F_56 an_F_56 ak_F_56 da_F_56 dn_F_56 dk_F_56 q_F_56) (xs_F_56.flatMap encFJob) (encStt y0.st)) :: Wc_F_56 :: Ac_F_56 :: Dc_F_56 :: acs_F_56.flatten :: dcs_F_56.flatten :: Qc_F_56 :: jcs_F_56.flatten :: [(f0, .cells (encWkr a0).toArray 69 (0, 0))] :: H :: F0) := Sat.perm c4 (by simp [Value.cells])
  have hwl_F_56 := hOw_F_56.len; have hwk_F_56 := hOw_F_56.le; have hal_F_56 := hOa_F_56.len; have hak_F_56 := hOa_F_56.le; have hdl_F_56 := hOd_F_56.len; have hdk_F_56 := hOd_F_56.le; have has1_F_56 := hAs_F_56.1; have hds1_F_56 := hDs_F_56.1; have hjs1_F_56 := hJs_F_56.1
  refine sBS d4 (encEvt h0).toArray Tryz.runUnderlying38 Tryz.sizeOf62 Tryz.zeroValue62 ?_
  intro u1 _ e4
  refine pu2 <| nT <| retE <| thenK_r <| retT [.slice (At u1 0) 1 1, I 0] ?_
  have f4 := OwnT.blk (enc := encEvt) (sz := 7) (b := u1) (c := #[I h0.kind, I h0.worker, I h0.from_, I h0.job, I h0.refJob, I h0.refTask, I h0.err]) (E := 62) (xs := [h0]) fR 1 rfl rfl rfl om
  have g4 := ((e4.picks [8, 8, 8, 8, 8, 8, 8, 8]).dropAt 9 rfl)
  have h4 := ((g4.merge8).pick 1 rfl)
  have he : stepF F x c = (y0, [h0], 0) := by subst t1; subst s1; exact step_micro om l0 k0 w0 (i1 ▸ x0)
  rw [he]; exact ⟨_, _, _, _, _, rfl, f4, ⟨_, _, _, _, _, _, _, _, _, _, _, _, _, _, _, _, _, _, _, _, rfl, hOw_F_56, hOa_F_56, hOd_F_56, hAs_F_56, hDs_F_56, hQ_F_56, hJs_F_56, hxl_F_56⟩, h4⟩
 refine wFix 40 _ false (decide_eq_false k0) ?_
 refine wU [3] <| wU [4] <| wU [5] <| wU [7] <| wU [8] ?_
 refine wO rfl ?_
 refine pu1 ?_
 refine nilO ⟨dA, ?_⟩
 refine wU [9] <| wU [10] ?_
 refine wO rfl ?_
 refine pu1 ?_
 refine nilO ⟨dA, ?_⟩
 refine wU [12] <| wU [13] ?_
 refine wN ?_
 refine thenK_n <| cFf <| kT <| seqE <| sR ?_
 refine lA j0 0 0 7 (Tryz.isAgg69 _) (Tryz.sizeOf69 _) ?_
 refine cR Tryz.call66 (f_holds a0 (Sat.flat j0)) ?_
 intro _ i4
 refine nT ?_
 refine cF _ (decide_eq_false k0) ?_
 refine kT <| seqE <| sR <| pu3 ?_
 have j4 := (i4.picks [8, 8, 8, 8, 8, 8, 8, 8])
 have k4 := (j4.merge8)
 have l4 : FarmR p (⟨F.cfg, F.ws, F.ar, F.dq, F.q, F.jobs, F.st⟩ : FS) ((Tri p 102 (preF F.cfg wa wn wk aa an ak da dn dk q) (xs.flatMap encFJob) (encStt F.st)) ++ (Wc ++ (Ac ++ (Dc ++ (acs.flatten ++ (dcs.flatten ++ (Qc ++ jcs.flatten))))))) := ⟨_, _, _, _, _, _, _, _, _, _, _, _, _, _, _, _, _, _, _, _, rfl, hOw, hOa, hOd, hAs, hDs, hQ, hJs, hxl⟩
 refine cX Tryz.call82 (f_acquire l4 hF hst x c (by first | omega | (dsimp only; omega) | (simp only [List.length_set]; omega)) (Sat.flat1 k4)) ?_
 rintro _ _ (⟨u0, rfl, z0⟩ | ⟨a1, e0, _, u0, rfl, m4, z0⟩)
 rotate_left
 ·have b1 := Sat.unflat1 z0
  obtain ⟨wa_F_110, aa_F_110, da_F_110, wn_F_110, wk_F_110, an_F_110, ak_F_110, dn_F_110, dk_F_110, q_F_110, xs_F_110, ap_F_110, dp_F_110, Wc_F_110, Ac_F_110, Dc_F_110, Qc_F_110, acs_F_110, dcs_F_110, jcs_F_110, rfl, hOw_F_110, hOa_F_110, hOd_F_110, hAs_F_110, hDs_F_110, hQ_F_110, hJs_F_110, hxl_F_110⟩ := m4
  have n4 : Sat W _ ((Tri p 102 (preF a1.cfg wa_F_110 wn_F_110 wk_F_110 aa_F_110 an_F_110 ak_F_110 da_F_110 dn_F_110 dk_F_110 q_F_110) (xs_F_110.flatMap encFJob) (encStt a1.st)) :: Wc_F_110 :: Ac_F_110 :: Dc_F_110 :: acs_F_110.flatten :: dcs_F_110.flatten :: Qc_F_110 :: jcs_F_110.flatten :: [(f0, .cells (encWkr a0).toArray 69 (0, 0))] :: H :: F0) := Sat.perm b1 (by simp [Value.cells])
  have hwl_F_110 := hOw_F_110.len; have hwk_F_110 := hOw_F_110.le; have hal_F_110 := hOa_F_110.len; have hak_F_110 := hOa_F_110.le; have hdl_F_110 := hOd_F_110.len; have hdk_F_110 := hOd_F_110.le; have has1_F_110 := hAs_F_110.1; have hds1_F_110 := hDs_F_110.1; have hjs1_F_110 := hJs_F_110.1
  refine pu3 ?_
  refine sAlloc n4 Tryz.zeroValue62 ?_
  intro _ _ o4
  refine sT o4 0 0 (.agg (encEvt e0).toArray) (encEvt e0) (encEvt e0).toArray Tryz.sizeOf62 ?_
  intro _ v1
  refine pu1 <| nT <| sR <| pu1 <| nT <| cTt <| sR ?_
  refine lA v1 0 0 7 (Tryz.isAgg62 _) (Tryz.sizeOf62 _) ?_
  refine sBS v1 (encEvt e0).toArray Tryz.runUnderlying38 Tryz.sizeOf62 Tryz.zeroValue62 ?_
  intro w1 _ p4
  refine pu2 <| nT <| retE <| thenK_r <| retT [.slice (At w1 0) 1 1, I 0] ?_
  have q4 := OwnT.blk (enc := encEvt) (sz := 7) (b := w1) (c := #[I e0.kind, I e0.worker, I e0.from_, I e0.job, I e0.refJob, I e0.refTask, I e0.err]) (E := 62) (xs := [e0]) fR 1 rfl rfl rfl om
  have r4 := ((p4.picks [9, 9, 9, 9, 9, 9, 9, 9]).drops [9, 9])
  have s4 := ((r4.merge8).pick 1 rfl)
  have he : stepF F x c = (a1, [e0], 0) := (step_rest om l0 om k0).trans (rest_acq u0)
  rw [he]; exact ⟨_, _, _, _, _, rfl, q4, ⟨_, _, _, _, _, _, _, _, _, _, _, _, _, _, _, _, _, _, _, _, rfl, hOw_F_110, hOa_F_110, hOd_F_110, hAs_F_110, hDs_F_110, hQ_F_110, hJs_F_110, hxl_F_110⟩, s4⟩
 have b1 := Sat.unflat1 z0
 have t4 : Sat W _ ((Tri p 102 (preF F.cfg wa wn wk aa an ak da dn dk q) (xs.flatMap encFJob) (encStt F.st)) :: Wc :: Ac :: Dc :: acs.flatten :: dcs.flatten :: Qc :: jcs.flatten :: [(f0, .cells (encWkr a0).toArray 69 (0, 0))] :: H :: F0) := Sat.perm b1 (by simp [Value.cells])
 refine pu3 ?_
 refine sAlloc t4 Tryz.zeroValue62 ?_
 intro x1 _ u4
 refine sT u4 0 0 (.agg #[I 0, I 0, I 0, I 0, I 0, I 0, I 0]) [I 0, I 0, I 0, I 0, I 0, I 0, I 0] #[I 0, I 0, I 0, I 0, I 0, I 0, I 0] Tryz.sizeOf62 ?_
 intro _ v4
 refine pu1 <| nT <| sR <| pu1 <| nT <| cFf <| kT <| seqE <| sR <| pu1 <| nT <| blockE ?_
 refine loopA (γ := Nat) (fun i => [(0, Pt p 0), (1, I x), (2, I c), (11, I ((i : Nat) : Int))]) (fun i w => Sat W w ([(x1, .cells #[I 0, I 0, I 0, I 0, I 0, I 0, I 0] 62 (0, 0))] :: (Tri p 102 (preF F.cfg wa wn wk aa an ak da dn dk q) (xs.flatMap encFJob) (encStt F.st)) :: Wc :: Ac :: Dc :: acs.flatten :: dcs.flatten :: Qc :: jcs.flatten :: [(f0, .cells (encWkr a0).toArray 69 (0, 0))] :: H :: F0) ∧ i ≤ wn ∧ (firstI (canHelp F x c) F.ws.length 0 = firstI (canHelp F x c) (F.ws.length - i) i)) (fun i => wn - i) 0 ⟨v4, om, rfl⟩ ?_
 rintro i ρ _ ⟨c1, hi, hfi⟩
 refine seqE <| sR <| pu4 ?_
 refine sLp c1 (ptr_up 1 rfl tri_pre) 8 (.slice wa wn wk) (Tryz.isAgg66 _) ?_
 refine pu2 <| nT ?_
 refine cD (((i : Nat) : Int) < ((wn : Nat) : Int)) (fun w4 => ?_) (fun w4 => ?_)
 rotate_left
 ·refine exitE <| xB <| thenK_n <| sR <| pu2 ?_
  refine sBS c1 #[I 13, I x, I 0, I 0, I 0, I 0, I 0] Tryz.runUnderlying38 Tryz.sizeOf62 Tryz.zeroValue62 ?_
  intro y1 _ x4
  refine pu2 <| nT <| retE <| retT [.slice (At y1 0) 1 1, I 0] ?_
  have y4 := OwnT.blk (enc := encEvt) (sz := 7) (b := y1) (c := #[I 13, I x, I 0, I 0, I 0, I 0, I 0]) (E := 62) (xs := [(⟨13, x, 0, 0, 0, 0, 0⟩ : Evt)]) fR 1 rfl rfl rfl om
  have z4 := ((x4.picks [9, 9, 9, 9, 9, 9, 9, 9]).drops [9, 9])
  have a5 := ((z4.merge8).pick 1 rfl)
  have he : stepF F x c = (F, [(⟨13, x, 0, 0, 0, 0, 0⟩ : Evt)], 0) := (step_rest om l0 om om).trans (help_end u0 om hfi)
  rw [he]; exact ⟨_, _, _, _, _, rfl, y4, ⟨_, _, _, _, _, _, _, _, _, _, _, _, _, _, _, _, _, _, _, _, rfl, hOw, hOa, hOd, hAs, hDs, hQ, hJs, hxl⟩, a5⟩
 refine kT <| seqE <| blockE <| sR <| pu3 ?_
 have b5 := (c1.pick 1 rfl)
 refine cX Tryz.call83 (f_choice c ((i : Nat) : Int) F.ws.length hwl om om b5) ?_
 rintro _ _ ⟨rfl, i0⟩
 have s7 := choice_bd (n := ((F.ws.length : Nat) : Int)) (c := c) (i := ((i : Nat) : Int)) om om
 refine pu1 <| nT <| seqE ?_
 by_cases z1 : ((choiceI ((F.ws.length : Nat) : Int) c ((i : Nat) : Int)) : Int) = x
 ·refine drawE [11] [] [(true, [0, 1, 2, 3]), (true, [4, 5, 6, 8, 7, 9, 10]), (false, [11]), (true, [12, 13, 14, 15, 16, 17, 19, 24, 25, 18, 20, 21, 22, 23, 26, 27, 28, 29])] rfl kr trivial ?_
  have c5 := i0.drew
  refine wU [0, 1, 2, 3] ?_
  refine wFix 109 _ false (bne_eq_false_iff_eq.2 z1) ?_
  refine wU [4, 5, 6, 8, 7, 9, 10] ?_
  refine wO rfl ?_
  refine pu1 ?_
  refine nilO ⟨trivial, ?_⟩
  refine wU [12, 13, 14, 15, 16, 17, 19, 24, 25, 18, 20, 21, 22, 23, 26, 27, 28, 29] ?_
  refine wN ?_
  refine thenK_n <| cFf <| skipE <| blockK_n <| thenK_n <| regionE <| pu1 ?_
  refine sAdd ((i : Nat) : Int) 1 ?_
  refine pu1 <| nT ?_
  have d5 := (c5.pick 1 rfl)
  exact ⟨i + 1, od, alA, d5, om, (help_skip om hfi (by unfold canHelp; rw [decide_eq_false (by intro hne; apply hne; unfold chF; omega)]; rfl))⟩
 obtain ⟨b0, m0, o0, r0, p0, e5, t7⟩ := OwnT.elem hOw (choiceI ((F.ws.length : Nat) : Int) c ((i : Nat) : Int))
 have hwo_x_129 := hF.w b0 (List.mem_of_getElem? r0); have hw1_x_129 := hwo_x_129.h; have hw2_x_129 := hwo_x_129.r
 refine drawE [11, 18, 23, 28] [(7, ⟨p, 8, none⟩, .slice wa wn wk), (10, ⟨m0, o0 + ((choiceI ((F.ws.length : Nat) : Int) c ((i : Nat) : Int))).toNat * 7 + 0, none⟩, I b0.phase), (10, ⟨m0, o0 + ((choiceI ((F.ws.length : Nat) : Int) c ((i : Nat) : Int))).toNat * 7 + 1, none⟩, I b0.heldJob), (10, ⟨m0, o0 + ((choiceI ((F.ws.length : Nat) : Int) c ((i : Nat) : Int))).toNat * 7 + 2, none⟩, I b0.heldTask), (10, ⟨m0, o0 + ((choiceI ((F.ws.length : Nat) : Int) c ((i : Nat) : Int))).toNat * 7 + 3, none⟩, I b0.attempt), (10, ⟨m0, o0 + ((choiceI ((F.ws.length : Nat) : Int) c ((i : Nat) : Int))).toNat * 7 + 4, none⟩, I b0.row), (10, ⟨m0, o0 + ((choiceI ((F.ws.length : Nat) : Int) c ((i : Nat) : Int))).toNat * 7 + 5, none⟩, I b0.used), (10, ⟨m0, o0 + ((choiceI ((F.ws.length : Nat) : Int) c ((i : Nat) : Int))).toNat * 7 + 6, none⟩, I b0.high)] [(true, [0, 1, 2, 3]), (true, [4, 5, 6, 8]), (true, [7]), (true, [9]), (true, [10]), (false, [11]), (true, [12, 13]), (true, [14]), (true, [15]), (true, [16]), (true, [17]), (true, [19]), (true, [24]), (true, [25]), (false, [18]), (true, [20]), (true, [21]), (true, [22]), (false, [23]), (true, [26]), (true, [27]), (false, [28]), (true, [29])] rfl kr ⟨.inr (cell_up i0 0 rfl (k := 8) tri_pre rfl), .inr ((p0.up 2 rfl).cell i0 (k := 0) rfl), .inr ((p0.up 2 rfl).cell i0 (k := 1) rfl), .inr ((p0.up 2 rfl).cell i0 (k := 2) rfl), .inr ((p0.up 2 rfl).cell i0 (k := 3) rfl), .inr ((p0.up 2 rfl).cell i0 (k := 4) rfl), .inr ((p0.up 2 rfl).cell i0 (k := 5) rfl), .inr ((p0.up 2 rfl).cell i0 (k := 6) rfl), trivial⟩ ?_
 have f5 := i0.drew
 refine wU [0, 1, 2, 3] ?_
 refine wFix 109 _ true (bne_iff_ne.2 z1) ?_
 refine wU [4, 5, 6, 8] ?_
 refine wLd (.slice wa wn wk) 0 Tryz.isAgg66 ?_
 refine wY (.pointer (some ⟨m0, o0 + ((choiceI ((F.ws.length : Nat) : Int) c ((i : Nat) : Int))).toNat * 7, none⟩)) rfl (fun w _ => Y_idx (a := wa) (i := (choiceI ((F.ws.length : Nat) : Int) c ((i : Nat) : Int))) (len := wn) (cap := wk) rfl Tryz.runUnderlying66 Tryz.sizeOf69 kr kr e5) ?_
 refine wY (.agg (encWkr b0).toArray) rfl (fun w hF => Y_loadF rfl (Tryz.isAgg69 w) (Tryz.sizeOf69 w) kr rfl ⟨hF 1 _ _ rfl, hF 2 _ _ rfl, hF 3 _ _ rfl, hF 4 _ _ rfl, hF 5 _ _ rfl, hF 6 _ _ rfl, hF 7 _ _ rfl, trivial⟩) ?_
 refine wO rfl ?_
 refine gY ?_
 refine cR Tryz.call66 (f_holds b0 (Sat.flat f5)) ?_
 intro _ d0
 refine nilO ⟨⟨.inr (cell_up d0 0 rfl (k := 8) tri_pre rfl), dI, dI, dI, dI, dI, dI, dI, trivial⟩, ?_⟩
 refine wU [12, 13] ?_
 rcases Classical.em ((b0.phase = 1 ∨ b0.phase = 2 ∨ b0.phase = 3)) with s0 | s0
 rotate_left
 ·refine wFix 119 _ false (decide_eq_false s0) ?_
  refine wU [14] <| wU [15] <| wU [16] <| wU [17] <| wU [19] <| wU [24] <| wU [25] ?_
  refine wO rfl ?_
  refine pu1 ?_
  refine nilO ⟨⟨.inr (cell_up d0 0 rfl (k := 8) tri_pre rfl), dI, dI, dI, dI, dI, dI, dI, trivial⟩, ?_⟩
  refine wU [20] <| wU [21] <| wU [22] ?_
  refine wO rfl ?_
  refine pu1 ?_
  refine nilO ⟨⟨.inr (cell_up d0 0 rfl (k := 8) tri_pre rfl), dI, dI, dI, dI, dI, dI, dI, trivial⟩, ?_⟩
  refine wU [26] <| wU [27] ?_
  refine wO rfl ?_
  refine pu1 ?_
  refine nilO ⟨⟨.inr (cell_up d0 0 rfl (k := 8) tri_pre rfl), dI, dI, dI, dI, dI, dI, dI, trivial⟩, ?_⟩
  refine wU [29] ?_
  refine wN ?_
  refine thenK_n <| cFf <| skipE <| blockK_n <| thenK_n <| regionE <| pu1 ?_
  refine sAdd ((i : Nat) : Int) 1 ?_
  refine pu1 <| nT ?_
  have g5 := (d0.pick 1 rfl)
  exact ⟨i + 1, od, alA, g5, om, (help_skip om hfi (by unfold canHelp busyW wAt; rw [show F.ws.getD (chF F c i).toNat default = b0 from getD_some r0, decide_eq_false s0]; simp))⟩
 refine wFix 119 _ true (decide_eq_true s0) ?_
 refine wU [14] <| wU [15] <| wU [16] <| wU [17] <| wU [19] <| wU [24] <| wU [25] ?_
 refine wO rfl ?_
 refine gY ?_
 refine sLp d0 (ptr_up 0 rfl tri_pre) 8 (.slice wa wn wk) (Tryz.isAgg66 _) ?_
 refine nilO ⟨⟨.inr (cell_up d0 0 rfl (k := 8) tri_pre rfl), dI, dI, dI, dI, dI, dI, dI, trivial⟩, ?_⟩
 obtain ⟨h5, i5, j5, a2, k5, l5, v7⟩ := OwnT.elem hOw (choiceI ((F.ws.length : Nat) : Int) c ((i : Nat) : Int))
 obtain rfl : b0 = h5 := Option.some.inj (r0.symm.trans a2)
 have hwo_x_129 := hF.w b0 (List.mem_of_getElem? a2); have hw1_x_129 := hwo_x_129.h; have hw2_x_129 := hwo_x_129.r
 refine wY (.pointer (some ⟨i5, j5 + ((choiceI ((F.ws.length : Nat) : Int) c ((i : Nat) : Int))).toNat * 7, none⟩)) rfl (fun w _ => Y_idx (a := wa) (i := (choiceI ((F.ws.length : Nat) : Int) c ((i : Nat) : Int))) (len := wn) (cap := wk) rfl Tryz.runUnderlying66 Tryz.sizeOf69 kr kr l5) ?_
 refine wU [21] <| wU [22] ?_
 refine wO rfl ?_
 refine gY ?_
 refine sLp d0 (k5.up 2 rfl) 1 (I b0.heldJob) (Tryz.isAgg3 _) ?_
 refine nilO ⟨⟨.inr (cell_up d0 0 rfl (k := 8) tri_pre rfl), dI, dI, dI, dI, dI, dI, dI, trivial⟩, ?_⟩
 obtain ⟨b2, c2⟩ := at_some hxl (k := (b0.heldJob.toNat)) om
 obtain ⟨d2, w7, d1, x7, m5⟩ := Obs.get hJs c2; obtain ⟨y7, e2, z7, a8⟩ := m5.fields; have b8 := hF.j d2 (List.mem_of_getElem? d1)
 refine wY (.pointer (some ⟨p, 12 + (b0.heldJob.toNat) * 5, none⟩)) rfl (fun w _ => Y_idxA (b := p) (off := 12) b0.heldJob (b0.heldJob.toNat) Tryz.runUnderlying100 Tryz.sizeOf99) ?_
 refine wU [27] ?_
 refine wO rfl ?_
 refine gY ?_
 refine sLp d0 (ptr_up 0 rfl (tri_el (sz := 5) (n0 := 12) fR c2)) 1 (.bool b2.running) (Tryz.isAgg4 _) ?_
 refine nilO ⟨⟨.inr (cell_up d0 0 rfl (k := 8) tri_pre rfl), dI, dI, dI, dI, dI, dI, dI, trivial⟩, ?_⟩
 refine wU [29] ?_
 refine wN ?_
 refine thenK_n ?_
 refine cB b2.running (fun e1 => ?_) (fun e1 => ?_)
 rotate_left
 ·refine skipE <| blockK_n <| thenK_n <| regionE <| pu1 ?_
  refine sAdd ((i : Nat) : Int) 1 ?_
  refine pu1 <| nT ?_
  have n5 := (d0.pick 1 rfl)
  exact ⟨i + 1, od, alA, n5, om, (help_skip om hfi (by rw [canHelp_eq r0 d1, show d2.running = false from e2 ▸ Bool.eq_false_iff.2 e1]; simp))⟩
 refine sR <| pu4 ?_
 refine sLp d0 (ptr_up 0 rfl (tri_post (k := 332) (tri_len (sz := 5) (m := 12) fR hxl))) 5 (I F.st.helps) (Tryz.isAgg3 _) ?_
 refine sAdd F.st.helps 1 ?_
 refine pu3 ?_
 refine sTpost d0 0 332 5 rfl (I (F.st.helps + 1)) [I (F.st.helps + 1)] [I F.st.starts, I F.st.commits, I F.st.drops, I F.st.crashes, I F.st.steals, I (F.st.helps + 1), I F.st.spills, I F.st.queued, I F.st.held, I F.st.cells] (tri_len (sz := 5) (m := 12) fR hxl) Tryz.sizeOf3 ?_
 intro _ o5
 refine nT <| sR <| pu5 ?_
 have v0 := hwo_x_129.t s0; obtain ⟨d8, p5, q5, r5, s5, hd_158_1, hd_158_2, t5, u5⟩ := hF.job v0
 have ht_160_0 := v0.2.2.1
 have v5 := (o5.picks [8, 8, 8, 8, 8, 8, 8, 7])
 have w5 := (v5.merge8)
 have x5 : FarmR p (⟨F.cfg, F.ws, F.ar, F.dq, F.q, F.jobs, (⟨F.st.starts, F.st.commits, F.st.drops, F.st.crashes, F.st.steals, (F.st.helps + 1), F.st.spills, F.st.queued, F.st.held, F.st.cells⟩ : Stt)⟩ : FS) ((Tri p 102 (preF F.cfg wa wn wk aa an ak da dn dk q) (xs.flatMap encFJob) [I F.st.starts, I F.st.commits, I F.st.drops, I F.st.crashes, I F.st.steals, I (F.st.helps + 1), I F.st.spills, I F.st.queued, I F.st.held, I F.st.cells]) ++ (Wc ++ (Ac ++ (Dc ++ (acs.flatten ++ (dcs.flatten ++ (Qc ++ jcs.flatten))))))) := ⟨_, _, _, _, _, _, _, _, _, _, _, _, _, _, _, _, _, _, _, _, rfl, hOw, hOa, hOd, hAs, hDs, hQ, hJs, hxl⟩
 refine cX Tryz.call81 (f_micro x5 (choiceI ((F.ws.length : Nat) : Int) c ((i : Nat) : Int)) (by first | omega | (dsimp only; omega) | (simp only [List.length_set]; omega)) (by first | omega | (dsimp only; omega) | (simp only [List.length_set]; omega)) (by first | omega | (dsimp only; omega) | (simp only [List.length_set]; omega)) r0 ⟨v0.1, v0.2.1⟩ p5 q5 r5 ⟨ht_160_0, u5⟩ ⟨t5, s5⟩ ⟨hd_158_1, hd_158_2⟩ om (by first | omega | (dsimp only; omega) | (simp only [List.length_set]; omega)) (Sat.flat1 w5)) ?_
 rintro _ _ ⟨_, rfl, f2, y5⟩
 have z5 := Sat.unflat1 y5
 obtain ⟨c0, g2⟩ : ∃ z, z = (microF (⟨F.cfg, F.ws, F.ar, F.dq, F.q, F.jobs, (⟨F.st.starts, F.st.commits, F.st.drops, F.st.crashes, F.st.steals, (F.st.helps + 1), F.st.spills, F.st.queued, F.st.held, F.st.cells⟩ : Stt)⟩ : FS) (choiceI ((F.ws.length : Nat) : Int) c ((i : Nat) : Int))).2 := ⟨_, rfl⟩; rw [← g2]
 obtain ⟨f1, h2⟩ : ∃ z, z = (microF (⟨F.cfg, F.ws, F.ar, F.dq, F.q, F.jobs, (⟨F.st.starts, F.st.commits, F.st.drops, F.st.crashes, F.st.steals, (F.st.helps + 1), F.st.spills, F.st.queued, F.st.held, F.st.cells⟩ : Stt)⟩ : FS) (choiceI ((F.ws.length : Nat) : Int) c ((i : Nat) : Int))).1 := ⟨_, rfl⟩
 rw [← h2] at f2
 obtain ⟨wa_F_172, aa_F_172, da_F_172, wn_F_172, wk_F_172, an_F_172, ak_F_172, dn_F_172, dk_F_172, q_F_172, xs_F_172, ap_F_172, dp_F_172, Wc_F_172, Ac_F_172, Dc_F_172, Qc_F_172, acs_F_172, dcs_F_172, jcs_F_172, rfl, hOw_F_172, hOa_F_172, hOd_F_172, hAs_F_172, hDs_F_172, hQ_F_172, hJs_F_172, hxl_F_172⟩ := f2
 have a6 : Sat W _ ((Tri p 102 (preF f1.cfg wa_F_172 wn_F_172 wk_F_172 aa_F_172 an_F_172 ak_F_172 da_F_172 dn_F_172 dk_F_172 q_F_172) (xs_F_172.flatMap encFJob) (encStt f1.st)) :: Wc_F_172 :: Ac_F_172 :: Dc_F_172 :: acs_F_172.flatten :: dcs_F_172.flatten :: Qc_F_172 :: jcs_F_172.flatten :: [(x1, .cells #[I 0, I 0, I 0, I 0, I 0, I 0, I 0] 62 (0, 0))] :: [(f0, .cells (encWkr a0).toArray 69 (0, 0))] :: H :: F0) := Sat.perm z5 (by simp [Value.cells])
 have hwl_F_172 := hOw_F_172.len; have hwk_F_172 := hOw_F_172.le; have hal_F_172 := hOa_F_172.len; have hak_F_172 := hOa_F_172.le; have hdl_F_172 := hOd_F_172.len; have hdk_F_172 := hOd_F_172.le; have has1_F_172 := hAs_F_172.1; have hds1_F_172 := hDs_F_172.1; have hjs1_F_172 := hJs_F_172.1
 refine sBS a6 #[I 12, I x, I (choiceI ((F.ws.length : Nat) : Int) c ((i : Nat) : Int)), I 0, I 0, I 0, I 0, I c0.kind, I c0.worker, I c0.from_, I c0.job, I c0.refJob, I c0.refTask, I c0.err] Tryz.runUnderlying38 Tryz.sizeOf62 Tryz.zeroValue62 ?_
 intro i2 _ b6
 refine pu2 <| nT <| retE <| blockK_r <| thenK_r <| tR <| thenK_r <| retT [.slice (At i2 0) 2 2, I 0] ?_
 have c6 := OwnT.blk (enc := encEvt) (sz := 7) (b := i2) (c := #[I 12, I x, I (choiceI ((F.ws.length : Nat) : Int) c ((i : Nat) : Int)), I 0, I 0, I 0, I 0, I c0.kind, I c0.worker, I c0.from_, I c0.job, I c0.refJob, I c0.refTask, I c0.err]) (E := 62) (xs := [(⟨12, x, (choiceI ((F.ws.length : Nat) : Int) c ((i : Nat) : Int)), 0, 0, 0, 0⟩ : Evt), c0]) fR 2 rfl rfl rfl om
 have d6 := ((b6.picks [8, 8, 8, 8, 8, 8, 8, 8]).drops [9, 9])
 have e6 := ((d6.merge8).pick 1 rfl)
 have he : stepF F x c = (f1, [(⟨12, x, (choiceI ((F.ws.length : Nat) : Int) c ((i : Nat) : Int)), 0, 0, 0, 0⟩ : Evt), c0], 0) := by subst h2; subst g2; exact (step_rest om l0 om om).trans (help_at u0 om hfi (by rw [canHelp_eq r0 d1]; simp only [Bool.and_eq_true, decide_eq_true_eq]; exact ⟨by assumption, s0, e2 ▸ e1⟩))
 rw [he]; exact ⟨_, _, _, _, _, rfl, c6, ⟨_, _, _, _, _, _, _, _, _, _, _, _, _, _, _, _, _, _, _, _, rfl, hOw_F_172, hOa_F_172, hOd_F_172, hAs_F_172, hDs_F_172, hQ_F_172, hJs_F_172, hxl_F_172⟩, e6⟩
theorem f_restart {p : Nat} {F : FS} {M : Chunk} {F0 : List Chunk} (hR : FarmR p F M) {K : Int} (hF : FW F K) (hst : StOk F.st K) (x : Int) (hS : Sat W w (M :: H :: F0)) :
  Calls Tryz.prog 22 #[Pt p 0, I x] w fun e w' => ∃ (az : Option Addr) (nz kz : Nat) (G M' : Chunk), e = .returned (.tuple #[.slice az nz kz, I (restartF F x).2.2]) ∧ OwnT encEvt 62 7 az nz kz (restartF F x).2.1 G ∧ FarmR p (restartF F x).1 M' ∧ Sat W w' (G :: M' :: H :: F0) := by
 obtain ⟨wa, aa, da, wn, wk, an, ak, dn, dk, q, xs, ap, dp, Wc, Ac, Dc, Qc, acs, dcs, jcs, rfl, hOw, hOa, hOd, hAs, hDs, hQ, hJs, hxl⟩ := hR
 have hS : Sat W _ ((Tri p 102 (preF F.cfg wa wn wk aa an ak da dn dk q) (xs.flatMap encFJob) (encStt F.st)) :: Wc :: Ac :: Dc :: acs.flatten :: dcs.flatten :: Qc :: jcs.flatten :: H :: F0) := Sat.perm hS (by simp [Value.cells])
 have hwl := hOw.len; have hwk := hOw.le; have hal := hOa.len; have hak := hOa.le; have hdl := hOd.len; have hdk := hOd.le; have has1 := hAs.1; have hds1 := hDs.1; have hjs1 := hJs.1
 have hal_ := hF.al; have hdl_ := hF.dl; have hjl_ := hF.jl; have hn_ := hF.n; have hk_ := hF.k; have hs1 := hst.a; have hs2 := hst.b; have hs3 := hst.c; have hs4 := hst.d; have hs5 := hst.e; have hs6 := hst.f; have hs7 := hst.g
 refine callsA 36 Tryz.func22 rfl ?_
 refine sR <| pu2 <| nT <| seqE <| sR <| pu1 ?_
 refine cX Tryz.call56 (f_zero om hS) ?_
 rintro _ _ ⟨rfl, a0⟩
 refine pu5 ?_
 refine sD 12 (x < 0) (fun e0 => ?_) (fun e0 => ?_)
 ·refine pu8 <| nT <| cTt <| sR <| pu2 <| nT <| retE <| thenK_r <| retT [.slice none 0 0, I 16] ?_
  have f0 := Sat.nilc a0
  have g0 := (f0.picks [8, 8, 8, 8, 8, 8, 8, 8])
  have h0 := ((g0.merge8).pick 1 rfl)
  have he : restartF F x = (F, [], 16) := by unfold restartF; rw [if_pos om]
  rw [he]; exact ⟨_, _, _, _, _, rfl, (OwnT.nil (enc := encEvt) (E := 62) (sz := 7) fR), ⟨_, _, _, _, _, _, _, _, _, _, _, _, _, _, _, _, _, _, _, _, rfl, hOw, hOa, hOd, hAs, hDs, hQ, hJs, hxl⟩, h0⟩
 refine pu4 <| gY ?_
 refine sLp a0 (ptr_up 0 rfl tri_pre) 8 (.slice wa wn wk) (Tryz.isAgg66 _) ?_
 refine pu3 <| nT ?_
 refine cD (x ≥ ((wn : Nat) : Int)) (fun i0 => ?_) (fun i0 => ?_)
 ·refine sR <| pu2 <| nT <| retE <| thenK_r <| retT [.slice none 0 0, I 16] ?_
  have j0 := Sat.nilc a0
  have k0 := (j0.picks [8, 8, 8, 8, 8, 8, 8, 8])
  have l0 := ((k0.merge8).pick 1 rfl)
  have he : restartF F x = (F, [], 16) := by unfold restartF; rw [if_pos om]
  rw [he]; exact ⟨_, _, _, _, _, rfl, (OwnT.nil (enc := encEvt) (E := 62) (sz := 7) fR), ⟨_, _, _, _, _, _, _, _, _, _, _, _, _, _, _, _, _, _, _, _, rfl, hOw, hOa, hOd, hAs, hDs, hQ, hJs, hxl⟩, l0⟩
 refine kT <| seqE <| sR <| pu3 ?_
 refine sLp a0 (ptr_up 0 rfl tri_pre) 8 (.slice wa wn wk) (Tryz.isAgg66 _) ?_
 refine pu1 ?_
 refine sIdxO hOw x (x).toNat Tryz.runUnderlying66 Tryz.sizeOf69 ?_
 intro b0 _ _ c0 m0 _
 have hwo_x_11 := hF.w b0 (List.mem_of_getElem? c0); have hw1_x_11 := hwo_x_11.h; have hw2_x_11 := hwo_x_11.r
 refine pu1 ?_
 refine sLp a0 (m0.up 1 rfl) 0 (I b0.phase) (Tryz.isAgg3 _) ?_
 refine pu1 <| nT ?_
 refine cN b0.phase 4 (fun n0 => ?_) (fun n0 => ?_)
 rotate_left
 ·refine sR <| pu2 <| nT <| retE <| thenK_r <| retT [.slice none 0 0, I 20] ?_
  have o0 := Sat.nilc a0
  have p0 := (o0.picks [8, 8, 8, 8, 8, 8, 8, 8])
  have q0 := ((p0.merge8).pick 1 rfl)
  have he : restartF F x = (F, [], 20) := by unfold restartF wAt; rw [if_neg om, getD_some c0, if_neg om]
  rw [he]; exact ⟨_, _, _, _, _, rfl, (OwnT.nil (enc := encEvt) (E := 62) (sz := 7) fR), ⟨_, _, _, _, _, _, _, _, _, _, _, _, _, _, _, _, _, _, _, _, rfl, hOw, hOa, hOd, hAs, hDs, hQ, hJs, hxl⟩, q0⟩
 refine kT <| sR <| pu2 ?_
 have r0 := (a0.picks [4, 3, 3, 3])
 refine cX Tryz.call70 (f_idle hOw hOa hAs x 0 (by first | omega | (dsimp only; omega) | (simp only [List.length_set]; omega)) (by first | omega | (dsimp only; omega) | (simp only [List.length_set]; omega)) r0) ?_
 rintro _ _ ⟨_, rfl, s0, t0⟩
 refine nT <| sR <| pu2 ?_
 refine sBS t0 #[I 11, I x, I 0, I 0, I 0, I 0, I 0] Tryz.runUnderlying38 Tryz.sizeOf62 Tryz.zeroValue62 ?_
 intro d0 _ u0
 refine pu2 <| nT <| retE <| retT [.slice (At d0 0) 1 1, I 0] ?_
 have v0 := OwnT.blk (enc := encEvt) (sz := 7) (b := d0) (c := #[I 11, I x, I 0, I 0, I 0, I 0, I 0]) (E := 62) (xs := [(⟨11, x, 0, 0, 0, 0, 0⟩ : Evt)]) fR 1 rfl rfl rfl om
 have w0 := (u0.picks [8, 8, 8, 7, 8, 8, 8, 8])
 have x0 := ((w0.merge8).pick 1 rfl)
 have he : restartF F x = ((⟨F.cfg, (F.ws.set x.toNat ⟨0, 0, 0, 0, 0, 0, (F.ar.getD x.toNat default).high⟩), F.ar, F.dq, F.q, F.jobs, F.st⟩ : FS), [(⟨11, x, 0, 0, 0, 0, 0⟩ : Evt)], 0) := by unfold restartF wAt; rw [if_neg om, getD_some c0, if_pos om]; rfl
 rw [he]; exact ⟨_, _, _, _, _, rfl, v0, ⟨_, _, _, _, _, _, _, _, _, _, _, _, _, _, _, _, _, _, _, _, rfl, s0, hOa, hOd, hAs, hDs, hQ, hJs, hxl⟩, x0⟩
end Go.Proofs.YtegmennaekipaaaGreat
