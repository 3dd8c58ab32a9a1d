import Derived.Test.YtimkhljglpookaaGreatFm4
namespace Go.Proofs.YtimkhljglpookaaGreat
open Go Go.E
set_option linter.unusedVariables false
set_option linter.unusedSimpArgs false
set_option linter.unnecessarySimpa false
set_option maxRecDepth 100000
set_option maxHeartbeats 2000000
variable {W w : World} {H : Chunk} {F : List Chunk}

theorem crash_unk {F : FS} {x : Int} (h : ¬ (0 ≤ x ∧ x < ((F.ws.length : Nat) : Int))) : crashF F x = (F, [], 16) := by unfold crashF; rw [if_pos h]
theorem crash_down {F : FS} {x : Int} {v : Wkr} (h : 0 ≤ x ∧ x < ((F.ws.length : Nat) : Int)) (hv : F.ws[x.toNat]? = some v) (h4 : v.phase = 4) : crashF F x = (F, [], 20) := by
  unfold crashF wAt; rw [if_neg (fun k => k h), getD_some hv, if_pos h4]
theorem crash_at {F : FS} {x : Int} {v : Wkr} (h : 0 ≤ x ∧ x < ((F.ws.length : Nat) : Int)) (hv : F.ws[x.toNat]? = some v) (h4 : ¬ v.phase = 4) : crashF F x = (crashW (retJ F v) x, [⟨10, x, 0, 0, v.heldJob, v.heldTask, 0⟩], 0) := by
  unfold crashF wAt; rw [if_neg (fun k => k h), getD_some hv, if_neg h4]
theorem crash_busy {F : FS} {x : Int} {v : Wkr} {j : JS} {d : DS} {a : AS} (h : 0 ≤ x ∧ x < ((F.ws.length : Nat) : Int)) (hv : F.ws[x.toNat]? = some v) (hh : v.phase = 1 ∨ v.phase = 2 ∨ v.phase = 3)
    (hj : F.jobs[v.heldJob.toNat]? = some j) (hr : j.running = true) (hd : F.dq[x.toNat]? = some d) (ha : F.ar[x.toNat]? = some a) : crashF F x =
    (⟨F.cfg, F.ws.set x.toNat ⟨4, 0, 0, 0, 0, 0, a.high⟩, F.ar.set x.toNat (resetA a), F.dq.set x.toNat { d with l := [] }, drainQ F.jobs (pushQ F.q ⟨v.heldJob, v.heldTask⟩ j.band) d.l, F.jobs.set v.heldJob.toNat { j with B := retB j.B v.heldTask v.attempt }, { F.st with crashes := F.st.crashes + 1 }⟩, [⟨10, x, 0, 0, v.heldJob, v.heldTask, 0⟩], 0) := by
  rw [crash_at h hv (by omega)]
  have e : jobAt F v.heldJob = j := getD_some hj
  have hb : busyW F v = true := by unfold busyW; rw [e, hr, decide_eq_true hh]; rfl
  have e1 : retJ F v = { F with jobs := F.jobs.set v.heldJob.toNat { j with B := retB j.B v.heldTask v.attempt }, q := pushQ F.q ⟨v.heldJob, v.heldTask⟩ j.band } := by unfold retJ; rw [if_pos hb, e]
  rw [e1]
  have e2 : F.dq.getD x.toNat default = d := getD_some hd
  have e3 : F.ar.getD x.toNat default = a := getD_some ha
  unfold crashW clearF popF dqAt arAt
  simp only [e2, e3, drain_set hj]
theorem crash_free {F : FS} {x : Int} {v : Wkr} {d : DS} {a : AS} (h : 0 ≤ x ∧ x < ((F.ws.length : Nat) : Int)) (hv : F.ws[x.toNat]? = some v) (h4 : ¬ v.phase = 4) (hb : busyW F v = false)
    (hd : F.dq[x.toNat]? = some d) (ha : F.ar[x.toNat]? = some a) : crashF F x =
    (⟨F.cfg, F.ws.set x.toNat ⟨4, 0, 0, 0, 0, 0, a.high⟩, F.ar.set x.toNat (resetA a), F.dq.set x.toNat { d with l := [] }, drainQ F.jobs F.q d.l, F.jobs, { F.st with crashes := F.st.crashes + 1 }⟩, [⟨10, x, 0, 0, v.heldJob, v.heldTask, 0⟩], 0) := by
  rw [crash_at h hv h4]
  have e1 : retJ F v = F := by unfold retJ; rw [if_neg (by rw [hb]; decide)]
  rw [e1]
  have e2 : F.dq.getD x.toNat default = d := getD_some hd
  have e3 : F.ar.getD x.toNat default = a := getD_some ha
  unfold crashW clearF popF dqAt arAt
  simp only [e2, e3]
theorem rm_step {l dqi : List DS} {k : Int} {i : Nat} {s : DS} (h : dqi = (l.take i).map (rmD k) ++ l.drop i) (hs : dqi[i]? = some s) : dqi.set i { s with l := without k s.l } = (l.take (i + 1)).map (rmD k) ++ l.drop (i + 1) := by
  have hlen : dqi.length = l.length := by rw [h]; simp; omega
  have hi : i < l.length := by have := (List.getElem?_eq_some_iff.1 hs).1; omega
  have h1 : l.drop i = l[i] :: l.drop (i + 1) := List.drop_eq_getElem_cons hi
  have h2 : ((l.take i).map (rmD k)).length = i := by simp; omega
  rw [h1] at h
  have h3 : s = l[i] := by
    rw [h, List.getElem?_append_right (by omega), h2, Nat.sub_self] at hs
    exact (Option.some.inj hs).symm
  rw [h, List.set_append_right _ _ (by omega), h2, Nat.sub_self, List.set_cons_zero, h3, take_succ_at (List.getElem?_eq_getElem hi), List.map_append, List.append_assoc]
  rfl
theorem cancel_unk {F : FS} {k : Int} (h : ¬ (0 ≤ k ∧ k < 64)) : cancelF F k = (F, [], 16) := by unfold cancelF; rw [if_pos (.inl h)]
theorem cancel_not {F : FS} {k : Int} {j : JS} (hj : F.jobs[k.toNat]? = some j) (ha : ¬ j.added = true) : cancelF F k = (F, [], 16) := by
  unfold cancelF jobAt; rw [getD_some hj, if_pos (.inr (Bool.eq_false_iff.2 ha))]
theorem cancel_fin {F : FS} {k : Int} {j : JS} (h : 0 ≤ k ∧ k < 64) (hj : F.jobs[k.toNat]? = some j) (ha : j.added = true) (hr : ¬ j.running = true) : cancelF F k = (F, [], 18) := by
  unfold cancelF jobAt; rw [getD_some hj, if_neg (by rw [ha]; simp [h]), if_pos (Bool.eq_false_iff.2 hr)]
theorem cancel_at {F : FS} {k : Int} {j : JS} (h : 0 ≤ k ∧ k < 64) (hj : F.jobs[k.toNat]? = some j) (ha : j.added = true) (hr : j.running = true) : cancelF F k = (⟨F.cfg, F.ws, F.ar, F.dq.map (rmD k), { F.q with bs := F.q.bs.map (without k) }, F.jobs.set k.toNat { j with running := false }, F.st⟩, [⟨2, 0, 0, k, 0, 0, 0⟩], 0) := by
  unfold cancelF cancelW jobAt; rw [getD_some hj, if_neg (by rw [ha]; simp [h]), if_neg (by rw [hr]; decide)]
theorem busy_no {F : FS} {v : Wkr} (h : (v.phase = 1 ∨ v.phase = 2 ∨ v.phase = 3) → ∀ s, F.jobs[v.heldJob.toNat]? = some s → ¬ s.running = true) (hj : ∃ s, F.jobs[v.heldJob.toNat]? = some s) : busyW F v = false := by
  obtain ⟨s, hs⟩ := hj
  unfold busyW jobAt; rw [getD_some hs]
  by_cases hh : (v.phase = 1 ∨ v.phase = 2 ∨ v.phase = 3)
  · rw [Bool.eq_false_iff.2 (h hh s hs)]; simp
  · rw [decide_eq_false hh]; rfl
theorem f_crash_b {p : Nat} {F : FS} {M : Chunk} {F0 : List Chunk} (hR : FarmR p F M) {K : Int} {v0 : Wkr} (hF : FW F K) (hst : StOk F.st K) (x : Int) (hx : 0 ≤ x ∧ x < F.ws.length) (hv0 : F.ws[x.toNat]? = some v0) (hh : (v0.phase = 1 ∨ v0.phase = 2 ∨ v0.phase = 3)) (hr : ∀ s, F.jobs[v0.heldJob.toNat]? = some s → s.running = true) (hS : Sat W w (M :: H :: F0)) :
    Calls Tryz.prog 22 #[.pointer (some ⟨p, 0, none⟩), .int .i64 x] w fun e w' => ∃ (az : Option Addr) (nz kz : Nat) (G M' : Chunk), e = .returned (.tuple #[.slice az nz kz, .int .i64 (crashF F x).2.2]) ∧ OwnT encEvt 43 7 az nz kz (crashF F x).2.1 G ∧ FarmR p (crashF F x).1 M' ∧ Sat W w' (G :: M' :: H :: F0) := by
  obtain ⟨wa, aa, da, wn, wk, an, ak, dn, dk, q, xs, ap, dp, Wc, Ac, Dc, Qc, acs, dcs, jcs, rfl, hOw, hOa, hOd, hAs, hDs, hQ, hJs, hxl⟩ := hR
  have hS : Sat W _ ((Tri p 86 (preF F.cfg wa wn wk aa an ak da dn dk q) (xs.flatMap encFJob) (encStt F.st)) :: Wc :: Ac :: Dc :: acs.flatten :: dcs.flatten :: Qc :: jcs.flatten :: H :: F0) := Sat.perm hS (by simp)
  have hwl := hOw.len; have hwk := hOw.le; have hal := hOa.len; have hak := hOa.le; have hdl := hOd.len; have hdk := hOd.le; have has1 := hAs.1; have hds1 := hDs.1; have hjs1 := hJs.1
  have hal_ := hF.al; have hdl_ := hF.dl; have hjl_ := hF.jl; have hn_ := hF.n; have hk_ := hF.k; have hs1 := hst.a; have hs2 := hst.b; have hs3 := hst.c; have hs4 := hst.d; have hs5 := hst.e; have hs6 := hst.f; have hs7 := hst.g
  have hwo_v0 := hF.w v0 (List.mem_of_getElem? hv0); have hw1_v0 := hwo_v0.h
  obtain ⟨j, hj, ha, hBW, hd0, hb1, hb2, hn0, ht0⟩ := hF.job (hwo_v0.t hh); have hrun := hr j hj
  obtain ⟨x_1, hx_2⟩ := at_some hxl (k := (v0.heldJob.toNat)) (by omega)
  obtain ⟨s_3, c_4, hs_5, hc_6, hJ_7⟩ := Obs.get hJs hx_2
  obtain rfl : s_3 = j := Option.some.inj (hs_5.symm.trans hj)
  obtain ⟨ta_7, tn_7, tk_7, tl_7, b_7, T_7, Mb_7, rfl, rfl, hT_7, hD_7, hV_7, hB_7⟩ := hJ_7.open ha
  have hS_8 := (hS.pick 7 rfl)
  have hS_9 := Sat.openN (A := []) (v0.heldJob.toNat) hc_6 hS_8
  have hS_10 : Sat W _ (T_7 :: Mb_7 :: (jcs.eraseIdx (v0.heldJob.toNat)).flatten :: (Tri p 86 (preF F.cfg wa wn wk aa an ak da dn dk q) (xs.flatMap encFJob) (encStt F.st)) :: Wc :: Ac :: Dc :: acs.flatten :: dcs.flatten :: Qc :: H :: F0) := Sat.perm hS_9 (by simp)
  have hn_ta_7 := hT_7.len; have hl_ta_7 := hT_7.le; have hm_ta_7 := congrArg List.length hV_7; rw [List.length_map] at hm_ta_7
  have hv00 := hv0; have hj := hs_5
  refine callsA 125 Tryz.func22 rfl ?_
  refine seqE <| regionE <| pu2 <| nilO <| thenK_n <| seqE <| seqE <| regionE <| pu1 ?_
  have hS_11 := (hS_10.pick 3 rfl)
  refine cX Tryz.call35 (f_zero (by omega) hS_11) ?_
  rintro _ w_12 ⟨rfl, hS_13⟩
  refine pu5 ?_
  refine sD 16 (x < 0) (fun hc_14 => ?_) (fun hc_14 => ?_)
  · refine pu8 <| nilO <| thenK_n <| cTt <| seqE <| regionE <| pu2 <| nilO <| thenK_n <| retE <| thenK_r <| retT [.slice none 0 0, .int .i64 16] <| ?_
    omega
  refine pu4 <| gY ?_
  refine sLp hS_13 (ptr_up 0 rfl tri_pre) 8 (.slice wa wn wk) (Tryz.isAgg77 _) ?_
  refine pu3 <| nilO <| thenK_n <| ?_
  refine cD (x ≥ ((wn : Nat) : Int)) (fun hc_15 => ?_) (fun hc_15 => ?_)
  · refine seqE <| regionE <| pu2 <| nilO <| thenK_n <| retE <| thenK_r <| retT [.slice none 0 0, .int .i64 16] <| ?_
    omega
  refine skipE <| thenK_n <| seqE <| regionE <| pu3 ?_
  refine sLp hS_13 (ptr_up 0 rfl tri_pre) 8 (.slice wa wn wk) (Tryz.isAgg77 _) ?_
  refine pu1 ?_
  refine sIdxO hOw x (x).toNat Tryz.runUnderlying77 Tryz.sizeOf101 ?_
  intro x_16 b_17 o_18 hx_19 hp_20 hq_21
  obtain rfl : v0 = x_16 := Option.some.inj (hv0.symm.trans hx_19)
  have hwo_v0 := hF.w v0 (List.mem_of_getElem? hx_19); have hw1_v0 := hwo_v0.h; have hw2_v0 := hwo_v0.r
  refine sLpA hS_13 (hp_20.up 4 rfl) 0 (encWkr v0) (Tryz.isAgg101 _) (Tryz.sizeOf101 _) ?_
  refine sAlloc hS_13 Tryz.zeroValue101 ?_
  intro b_22 w_23 hS_24
  refine sT hS_24 0 0 (.agg (encWkr v0).toArray) (encWkr v0) (encWkr v0).toArray Tryz.sizeOf101 ?_
  intro w_25 hS_26
  refine nilO <| thenK_n <| seqE <| seqE <| regionE <| pu1 ?_
  refine sL hS_26 0 0 (.int .i64 v0.phase) (Tryz.isAgg3 _) ?_
  refine pu1 <| nilO <| thenK_n <| ?_
  refine cE v0.phase 4 (fun hc_27 => ?_) (fun hc_27 => ?_)
  · refine seqE <| regionE <| pu2 <| nilO <| thenK_n <| retE <| thenK_r <| retT [.slice none 0 0, .int .i64 20] <| ?_
    omega
  refine skipE <| thenK_n <| seqE <| seqE ?_
  refine drawE [8, 9] [(3, ⟨b_22, 1, none⟩, .int .i64 v0.heldJob), (7, ⟨p, 12 + (v0.heldJob.toNat) * 5 + 0, none⟩, .bool true), (7, ⟨p, 12 + (v0.heldJob.toNat) * 5 + 1, none⟩, .bool s_3.running), (7, ⟨p, 12 + (v0.heldJob.toNat) * 5 + 2, none⟩, .int .i64 s_3.band), (7, ⟨p, 12 + (v0.heldJob.toNat) * 5 + 3, none⟩, .slice ta_7 tn_7 tk_7), (7, ⟨p, 12 + (v0.heldJob.toNat) * 5 + 4, none⟩, .pointer (some ⟨b_7, 0, none⟩))] [(true, [0, 1, 2, 4, 5]), (true, [3]), (true, [6]), (true, [7]), (false, [8]), (false, [9])] rfl (by kernel_rfl) ⟨.inr (hS_26.cell 0 rfl rfl), .inr (cell_up hS_26 1 rfl (k := 0) (tri_el (sz := 5) (n0 := 12) (fun _ => rfl) hx_2) rfl), .inr (cell_up hS_26 1 rfl (k := 1) (tri_el (sz := 5) (n0 := 12) (fun _ => rfl) hx_2) rfl), .inr (cell_up hS_26 1 rfl (k := 2) (tri_el (sz := 5) (n0 := 12) (fun _ => rfl) hx_2) rfl), .inr (cell_up hS_26 1 rfl (k := 3) (tri_el (sz := 5) (n0 := 12) (fun _ => rfl) hx_2) rfl), .inr (cell_up hS_26 1 rfl (k := 4) (tri_el (sz := 5) (n0 := 12) (fun _ => rfl) hx_2) rfl), trivial⟩ ?_
  have hS_28 := hS_26.drew
  refine wU [0, 1, 2, 4, 5] ?_
  refine wLd (.int .i64 v0.heldJob) 0 Tryz.isAgg3 ?_
  refine wY (.pointer (some ⟨p, 12 + (v0.heldJob.toNat) * 5, none⟩)) rfl (fun w _ => Y_idxA (b := p) (off := 12) v0.heldJob (v0.heldJob.toNat) Tryz.runUnderlying84 Tryz.sizeOf83) ?_
  refine wY (.agg #[.bool true, .bool s_3.running, .int .i64 s_3.band, .slice ta_7 tn_7 tk_7, .pointer (some ⟨b_7, 0, none⟩)]) rfl (fun w hF => Y_loadF rfl (Tryz.isAgg83 w) (Tryz.sizeOf83 w) (by kernel_rfl) rfl ⟨hF 1 _ _ rfl, hF 2 _ _ rfl, hF 3 _ _ rfl, hF 4 _ _ rfl, hF 5 _ _ rfl, trivial⟩) ?_
  refine wO rfl ?_
  refine sAlloc hS_28 Tryz.zeroValue83 ?_
  intro b_29 w_30 hS_31
  refine nilO ⟨⟨.inr (hS_31.cell 1 rfl rfl), .inr (cell_up hS_31 2 rfl (k := 0) (tri_el (sz := 5) (n0 := 12) (fun _ => rfl) hx_2) rfl), .inr (cell_up hS_31 2 rfl (k := 1) (tri_el (sz := 5) (n0 := 12) (fun _ => rfl) hx_2) rfl), .inr (cell_up hS_31 2 rfl (k := 2) (tri_el (sz := 5) (n0 := 12) (fun _ => rfl) hx_2) rfl), .inr (cell_up hS_31 2 rfl (k := 3) (tri_el (sz := 5) (n0 := 12) (fun _ => rfl) hx_2) rfl), .inr (cell_up hS_31 2 rfl (k := 4) (tri_el (sz := 5) (n0 := 12) (fun _ => rfl) hx_2) rfl), trivial⟩, ?_⟩
  refine wO rfl ?_
  refine sT hS_31 0 0 (.agg #[.bool true, .bool s_3.running, .int .i64 s_3.band, .slice ta_7 tn_7 tk_7, .pointer (some ⟨b_7, 0, none⟩)]) [.bool true, .bool s_3.running, .int .i64 s_3.band, .slice ta_7 tn_7 tk_7, .pointer (some ⟨b_7, 0, none⟩)] #[.bool true, .bool s_3.running, .int .i64 s_3.band, .slice ta_7 tn_7 tk_7, .pointer (some ⟨b_7, 0, none⟩)] Tryz.sizeOf83 ?_
  intro w_32 hS_33
  refine nilO ⟨⟨.inl (by kernel_rfl), .inl (by kernel_rfl), .inl (by kernel_rfl), .inl (by kernel_rfl), .inl (by kernel_rfl), .inl (by kernel_rfl), trivial⟩, ?_⟩
  refine wN ?_
  refine thenK_n <| seqE <| regionE ?_
  refine lA hS_33 1 0 7 (Tryz.isAgg101 _) (Tryz.sizeOf101 _) ?_
  refine cR Tryz.call42 (f_holds v0 (Sat.flat hS_33)) ?_
  intro w_34 hS_35
  refine pu1 ?_
  refine sFix 45 _ true (decide_eq_true hh) ?_
  refine pu1 <| gY ?_
  refine sL hS_35 0 1 (.bool s_3.running) (Tryz.isAgg4 _) ?_
  refine pu1 <| nilO <| thenK_n <| ?_
  refine cT _ hrun ?_
  refine seqE <| regionE <| pu1 ?_
  refine sL hS_35 0 4 (.pointer (some ⟨b_7, 0, none⟩)) (Tryz.isAgg81 _) ?_
  refine pu2 ?_
  refine sL hS_35 1 2 (.int .i64 v0.heldTask) (Tryz.isAgg3 _) ?_
  refine pu1 ?_
  refine sL hS_35 1 3 (.int .i64 v0.attempt) (Tryz.isAgg3 _) ?_
  have hS_37 := (hS_35.pick 4 rfl)
  refine cX Tryz.call43 (r_return hB_7 hBW v0.heldTask v0.attempt (by omega) (Sat.flat1 hS_37)) ?_
  rintro _ w_38 ⟨M_41, rfl, hB_42, hS_39⟩
  have hS_40 := Sat.unflat1 hS_39
  refine nilO <| thenK_n <| ?_
  refine drawE [8] [(3, ⟨p, 11, none⟩, .pointer (some ⟨q, 0, none⟩)), (5, ⟨b_22, 1, none⟩, .int .i64 v0.heldJob), (5, ⟨b_22, 2, none⟩, .int .i64 v0.heldTask), (7, ⟨b_29, 2, none⟩, .int .i64 s_3.band)] [(true, [0, 1, 2, 4, 6]), (true, [3]), (true, [5]), (true, [7]), (false, [8])] rfl (by kernel_rfl) ⟨.inr (cell_up hS_40 3 rfl (k := 11) tri_pre rfl), .inr (hS_40.cell 2 rfl rfl), .inr (hS_40.cell 2 rfl rfl), .inr (hS_40.cell 1 rfl rfl), trivial⟩ ?_
  have hS_43 := hS_40.drew
  refine wU [0, 1, 2, 4, 6] ?_
  refine wLd (.pointer (some ⟨q, 0, none⟩)) 0 Tryz.isAgg80 ?_
  refine wY (.agg #[.int .i64 v0.heldJob, .int .i64 v0.heldTask]) rfl (fun w hF => Y_loadF rfl (Tryz.isAgg40 w) (Tryz.sizeOf40 w) (by kernel_rfl) rfl ⟨hF 1 _ _ rfl, hF 2 _ _ rfl, trivial⟩) ?_
  refine wLd (.int .i64 s_3.band) 3 Tryz.isAgg3 ?_
  refine wO rfl ?_
  have hS_44 := (hS_43.pick 11 rfl)
  refine cX Tryz.call39 (iq_push hQ (⟨v0.heldJob, v0.heldTask⟩ : Ref) s_3.band (by omega) (Sat.flat1 hS_44)) ?_
  rintro _ w_45 ⟨M_48, rfl, hR_49, hS_46⟩
  have hS_47 := Sat.unflat1 hS_46
  refine nilO ⟨⟨.inl (by kernel_rfl), .inl (by kernel_rfl), .inl (by kernel_rfl), .inl (by kernel_rfl), trivial⟩, ?_⟩
  refine wN ?_
  refine thenK_n <| seqE <| regionE <| pu3 ?_
  refine sLp hS_47 (ptr_up 4 rfl tri_pre) 10 (.slice da dn dk) (Tryz.isAgg79 _) ?_
  refine pu1 ?_
  refine sIdxO hOd x (x).toNat Tryz.runUnderlying79 Tryz.sizeOf90 ?_
  intro x_50 b_51 o_52 hx_53 hp_54 hq_55
  refine sLp hS_47 (hp_54.up 9 rfl) 0 (.pointer (some ⟨x_50, 0, none⟩)) (Tryz.isAgg90 _) ?_
  obtain ⟨s_56, c_57, hs_58, hc_59, hR_60⟩ := Obs.get hDs hx_53
  have hS_62 := (hS_47.pick 11 rfl)
  have hS_61 := Sat.openN (A := []) x.toNat hc_59 hS_62
  refine cX Tryz.call44 (dq_drain hR_60 (Sat.flat1 hS_61)) ?_
  rintro _ w_63 ⟨az_66, nz_67, kz_68, Z_69, M_70, rfl, hO_71, hR_72, hS_64⟩
  have hS_65 := Sat.unflat2 hS_64; have hn_az_66 := hO_71.len; have hl_az_66 := hO_71.le
  have hS_73 := ((hS_65.pick 2 rfl).pick 2 rfl)
  have hS_74 := Sat.shutN (d := M_70) (A := []) x.toNat hc_59 hS_73
  have hL_75 := Obs.set hDs hx_53 hR_72
  refine pu1 <| nilO <| thenK_n <| seqE <| seqE <| regionE <| pu1 <| nilO <| thenK_n <| blockE ?_
  have hS_76 := (((hS_74.pick 8 rfl).pick 4 rfl).pick 8 rfl)
  have hS_77 : Sat W _ ((T_7 ++ M_41) :: (jcs.eraseIdx (v0.heldJob.toNat)).flatten :: (dcs.set x.toNat M_70).flatten :: Z_69 :: M_48 :: [(b_29, .cells #[.bool true, .bool s_3.running, .int .i64 s_3.band, .slice ta_7 tn_7 tk_7, .pointer (some ⟨b_7, 0, none⟩)] 83 (0, 0))] :: [(b_22, .cells (encWkr v0).toArray 101 (0, 0))] :: (Tri p 86 (preF F.cfg wa wn wk aa an ak da dn dk q) (xs.flatMap encFJob) (encStt F.st)) :: Wc :: Ac :: Dc :: acs.flatten :: H :: F0) := Sat.perm (show Sat W _ (T_7 :: M_41 :: (jcs.eraseIdx (v0.heldJob.toNat)).flatten :: (dcs.set x.toNat M_70).flatten :: Z_69 :: M_48 :: [(b_29, .cells #[.bool true, .bool s_3.running, .int .i64 s_3.band, .slice ta_7 tn_7 tk_7, .pointer (some ⟨b_7, 0, none⟩)] 83 (0, 0))] :: [(b_22, .cells (encWkr v0).toArray 101 (0, 0))] :: (Tri p 86 (preF F.cfg wa wn wk aa an ak da dn dk q) (xs.flatMap encFJob) (encStt F.st)) :: Wc :: Ac :: Dc :: acs.flatten :: H :: F0) from hS_76) (by simp)
  have hS_78 := Sat.shutN (d := T_7 ++ M_41) (A := []) (v0.heldJob.toNat) hc_6 hS_77
  have hL_79 := Obs.set hJs hx_2 (JobM.mk (s := { s_3 with B := (retB s_3.B v0.heldTask v0.attempt) }) ha hT_7 hD_7 hV_7 hB_42)
  refine loopA (γ := Nat × QS × Chunk) (fun ⟨i, qi, Qci⟩ => [(0, .pointer (some ⟨p, 0, none⟩)), (1, .int .i64 x), (6, .pointer (some ⟨b_22, 0, none⟩)), (8, .slice az_66 nz_67 kz_68), (9, .int .i64 ((i : Nat) : Int))]) (fun ⟨i, qi, Qci⟩ w => Sat W w ((jcs.set (v0.heldJob.toNat) (T_7 ++ M_41)).flatten :: (dcs.set x.toNat M_70).flatten :: Z_69 :: Qci :: [(b_29, .cells #[.bool true, .bool s_3.running, .int .i64 s_3.band, .slice ta_7 tn_7 tk_7, .pointer (some ⟨b_7, 0, none⟩)] 83 (0, 0))] :: [(b_22, .cells (encWkr v0).toArray 101 (0, 0))] :: (Tri p 86 (preF F.cfg wa wn wk aa an ak da dn dk q) (xs.flatMap encFJob) (encStt F.st)) :: Wc :: Ac :: Dc :: acs.flatten :: H :: F0) ∧ i ≤ nz_67 ∧ (InjR q qi Qci) ∧ (qi = drainQ F.jobs (pushQ F.q (⟨v0.heldJob, v0.heldTask⟩ : Ref) s_3.band) (s_56.l.take i))) (fun ⟨i, qi, Qci⟩ => nz_67 - i) (0, (pushQ F.q (⟨v0.heldJob, v0.heldTask⟩ : Ref) s_3.band), M_48) ⟨hS_78, by omega, hR_49, rfl⟩ ?_
  rintro ⟨i, qi, Qci⟩ ρ w_80 ⟨hS_81, hi, hQi, hqe⟩
  refine seqE <| seqE <| regionE <| pu4 <| nilO <| thenK_n <| ?_
  refine cD (((i : Nat) : Int) < ((nz_67 : Nat) : Int)) (fun hc_82 => ?_) (fun hc_82 => ?_)
  · refine skipE <| thenK_n <| seqE <| blockE ?_
    obtain ⟨x_83, b_84, o_85, hx_86, hp_87, hq_88, ha_89⟩ := OwnT.elem hO_71 ((i : Nat) : Int)
    rw [Int.toNat_natCast] at hx_86 hp_87 hq_88
    have hro_92 := hF.d _ (List.mem_of_getElem? hs_58) _ (List.mem_of_getElem? hx_86); have hro_92_1 := hro_92.1; have hro_92_2 := hro_92.2.1; obtain ⟨j_90, hj_91, _, _, _, hro_92_3, hro_92_4, _, _⟩ := hF.job hro_92
    obtain ⟨x_93, hx_94⟩ := at_some hxl (k := (x_83.job.toNat)) (by omega)
    obtain ⟨s_95, cs_95, hss_95, hcs_95, hJs_95⟩ := Obs.get hJs hx_94; obtain ⟨has_95, hrs_95, hbs_95, hns_95⟩ := hJs_95.fields; have hjos_95 := hF.j s_95 (List.mem_of_getElem? hss_95)
    obtain rfl : s_95 = j_90 := Option.some.inj (hss_95.symm.trans hj_91)
    refine drawE [19] [(3, ⟨p, 11, none⟩, .pointer (some ⟨q, 0, none⟩)), (7, ⟨b_84, o_85 + i * 2 + 0, none⟩, .int .i64 x_83.job), (7, ⟨b_84, o_85 + i * 2 + 1, none⟩, .int .i64 x_83.task), (13, ⟨b_84, o_85 + i * 2 + 0, none⟩, .int .i64 x_83.job), (18, ⟨p, 12 + (x_83.job.toNat) * 5 + 2, none⟩, .int .i64 x_93.band)] [(true, [0, 1, 2, 4, 5]), (true, [6]), (true, [8, 9, 10]), (true, [11]), (true, [12, 14, 15]), (true, [3]), (true, [7]), (true, [13]), (true, [16]), (true, [17]), (true, [18]), (false, [19])] rfl (by kernel_rfl) ⟨.inr (cell_up hS_81 6 rfl (k := 11) tri_pre rfl), .inr ((hp_87.up 2 rfl).cell hS_81 (k := 0) rfl), .inr ((hp_87.up 2 rfl).cell hS_81 (k := 1) rfl), .inr ((hp_87.up 2 rfl).cell hS_81 (k := 0) rfl), .inr (cell_up hS_81 6 rfl (k := 2) (tri_el (sz := 5) (n0 := 12) (fun _ => rfl) hx_94) rfl), trivial⟩ ?_
    have hS_96 := hS_81.drew
    refine wU [0, 1, 2, 4, 5] ?_
    refine wY (.pointer (some ⟨b_84, o_85 + i * 2, none⟩)) rfl (fun w _ => Y_idx (a := az_66) (i := ((i : Nat) : Int)) (len := nz_67) (cap := kz_68) rfl Tryz.runUnderlying104 Tryz.sizeOf40 (by kernel_rfl) (by kernel_rfl) hq_88) ?_
    refine wU [8, 9, 10] ?_
    refine wY (.pointer (some ⟨b_84, o_85 + i * 2, none⟩)) rfl (fun w _ => Y_idx (a := az_66) (i := ((i : Nat) : Int)) (len := nz_67) (cap := kz_68) rfl Tryz.runUnderlying104 Tryz.sizeOf40 (by kernel_rfl) (by kernel_rfl) hq_88) ?_
    refine wU [12, 14, 15] ?_
    refine wLd (.pointer (some ⟨q, 0, none⟩)) 0 Tryz.isAgg80 ?_
    refine wY (.agg #[.int .i64 x_83.job, .int .i64 x_83.task]) rfl (fun w hF => Y_loadF rfl (Tryz.isAgg40 w) (Tryz.sizeOf40 w) (by kernel_rfl) rfl ⟨hF 1 _ _ rfl, hF 2 _ _ rfl, trivial⟩) ?_
    refine wLd (.int .i64 x_83.job) 3 Tryz.isAgg3 ?_
    refine wY (.pointer (some ⟨p, 12 + (x_83.job.toNat) * 5, none⟩)) rfl (fun w _ => Y_idxA (b := p) (off := 12) x_83.job (x_83.job.toNat) Tryz.runUnderlying84 Tryz.sizeOf83) ?_
    refine wU [17] ?_
    refine wLd (.int .i64 x_93.band) 4 Tryz.isAgg3 ?_
    refine wO rfl ?_
    have hS_97 := (hS_96.pick 3 rfl)
    refine cX Tryz.call39 (iq_push hQi x_83 x_93.band (by omega) (Sat.flat1 hS_97)) ?_
    rintro _ w_98 ⟨M_101, rfl, hR_102, hS_99⟩
    have hS_100 := Sat.unflat1 hS_99
    refine nilO ⟨⟨.inl (by kernel_rfl), .inl (by kernel_rfl), .inl (by kernel_rfl), .inr ((hp_87.up 3 rfl).cell hS_100 (k := 0) rfl), .inl (by kernel_rfl), trivial⟩, ?_⟩
    refine wN ?_
    refine blockK_n <| thenK_n <| regionE <| pu1 ?_
    refine sAdd ((i : Nat) : Int) 1 ?_
    refine pu1 <| nilO <| thenK_n <| ?_
    have hS_103 := (((hS_100.pick 3 rfl).pick 3 rfl).pick 3 rfl)
    exact ⟨(i + 1, (pushQ qi x_83 x_93.band), M_101), by first | omega | (dsimp only; omega), alA, hS_103, by omega, hR_102, (by rw [drain_take hx_86, ← hqe]; unfold pushR; rw [getD_some hss_95, ← hbs_95])⟩
  refine exitE <| thenK_x <| thenK_x <| blockK_x <| thenK_n <| seqE <| regionE <| pu3 ?_
  refine sLp hS_81 (ptr_up 6 rfl tri_pre) 9 (.slice aa an ak) (Tryz.isAgg78 _) ?_
  refine pu1 ?_
  refine sIdxO hOa x (x).toNat Tryz.runUnderlying78 Tryz.sizeOf87 ?_
  intro x_104 b_105 o_106 hx_107 hp_108 hq_109
  refine sLp hS_81 (hp_108.up 8 rfl) 0 (.pointer (some ⟨x_104, 0, none⟩)) (Tryz.isAgg87 _) ?_
  obtain ⟨s_110, c_111, hs_112, hc_113, hR_114⟩ := Obs.get hAs hx_107
  have hS_116 := (hS_81.pick 10 rfl)
  have hS_115 := Sat.openN (A := []) x.toNat hc_113 hS_116
  refine cX Tryz.call45 (ar_reset hR_114  (Sat.flat1 hS_115)) ?_
  rintro _ w_117 ⟨M_120, rfl, hR_121, hS_118⟩
  have hS_119 := Sat.unflat1 hS_118
  have hS_122 := ((hS_119.pick 1 rfl).pick 1 rfl)
  have hS_123 := Sat.shutN (d := M_120) (A := []) x.toNat hc_113 hS_122
  have hL_124 := Obs.set hAs hx_107 hR_121
  refine nilO <| thenK_n <| seqE <| regionE <| pu2 ?_
  have hS_125 := ((((hS_123.pick 0 rfl).pick 9 rfl).pick 9 rfl).pick 9 rfl)
  refine cX Tryz.call46 (f_idle hOw hOa hL_124 x 4 (by first | omega | (dsimp only; omega) | (simp only [List.length_set]; omega)) (by first | omega | (dsimp only; omega) | (simp only [List.length_set]; omega)) hS_125) ?_
  rintro _ w_126 ⟨Wc_128, rfl, hO_129, hS_127⟩
  refine nilO <| thenK_n <| seqE <| regionE <| pu4 ?_
  refine sLp hS_127 (ptr_up 0 rfl (tri_post (k := 332) (tri_len (sz := 5) (m := 12) (fun _ => rfl) hxl))) 3 (.int .i64 F.st.crashes) (Tryz.isAgg3 _) ?_
  refine sAdd F.st.crashes 1 ?_
  refine pu3 ?_
  refine sTpost hS_127 0 332 3 rfl (.int .i64 (F.st.crashes + 1)) [.int .i64 (F.st.crashes + 1)] [.int .i64 F.st.starts, .int .i64 F.st.commits, .int .i64 F.st.drops, .int .i64 (F.st.crashes + 1), .int .i64 F.st.steals, .int .i64 F.st.helps, .int .i64 F.st.spills, .int .i64 F.st.queued, .int .i64 F.st.held, .int .i64 F.st.cells] (tri_len (sz := 5) (m := 12) (fun _ => rfl) hxl) Tryz.sizeOf3 ?_
  intro w_130 hS_131
  refine nilO <| thenK_n <| seqE <| regionE <| pu2 ?_
  refine lA hS_131 9 1 2 (Tryz.isAgg40 _) (Tryz.sizeOf40 _) ?_
  refine pu1 ?_
  refine sBS hS_131 #[.int .i64 10, .int .i64 x, .int .i64 0, .int .i64 0, .int .i64 v0.heldJob, .int .i64 v0.heldTask, .int .i64 0] Tryz.runUnderlying26 Tryz.sizeOf43 Tryz.zeroValue43 ?_
  intro b_132 w_133 hS_134
  refine pu2 <| nilO <| thenK_n <| retE <| retT [.slice (some ⟨b_132, 0, none⟩) 1 1, .int .i64 0] <| ?_
  have hO_135 := OwnT.blk (enc := encEvt) (sz := 7) (b := b_132) (c := #[.int .i64 10, .int .i64 x, .int .i64 0, .int .i64 0, .int .i64 v0.heldJob, .int .i64 v0.heldTask, .int .i64 0]) (E := 43) (xs := [(⟨10, x, 0, 0, v0.heldJob, v0.heldTask, 0⟩ : Evt)]) (fun _ => rfl) 1 rfl rfl rfl (by omega)
  have hS_136 : Sat W _ (Wc_128 :: Ac :: Dc :: (acs.set x.toNat M_120).flatten :: (dcs.set x.toNat M_70).flatten :: Qci :: [(b_132, .cells #[.int .i64 10, .int .i64 x, .int .i64 0, .int .i64 0, .int .i64 v0.heldJob, .int .i64 v0.heldTask, .int .i64 0] 43 (0, 0))] :: (Tri p 86 (preF F.cfg wa wn wk aa an ak da dn dk q) (xs.flatMap encFJob) [.int .i64 F.st.starts, .int .i64 F.st.commits, .int .i64 F.st.drops, .int .i64 (F.st.crashes + 1), .int .i64 F.st.steals, .int .i64 F.st.helps, .int .i64 F.st.spills, .int .i64 F.st.queued, .int .i64 F.st.held, .int .i64 F.st.cells]) :: (jcs.set (v0.heldJob.toNat) (T_7 ++ M_41)).flatten :: Z_69 :: [(b_29, .cells #[.bool true, .bool s_3.running, .int .i64 s_3.band, .slice ta_7 tn_7 tk_7, .pointer (some ⟨b_7, 0, none⟩)] 83 (0, 0))] :: [(b_22, .cells (encWkr v0).toArray 101 (0, 0))] :: H :: F0) := ((((((hS_134.pick 8 rfl).pick 7 rfl).pick 6 rfl).pick 11 rfl).pick 7 rfl).pick 7 rfl)
  have hS_137 := (((((hS_136.pick 7 rfl).pick 7 rfl).dropAt 9 rfl).dropAt 9 rfl).dropAt 9 rfl)
  have hS_138 : Sat W _ ([(b_132, .cells #[.int .i64 10, .int .i64 x, .int .i64 0, .int .i64 0, .int .i64 v0.heldJob, .int .i64 v0.heldTask, .int .i64 0] 43 (0, 0))] :: ((Tri p 86 (preF F.cfg wa wn wk aa an ak da dn dk q) (xs.flatMap encFJob) [.int .i64 F.st.starts, .int .i64 F.st.commits, .int .i64 F.st.drops, .int .i64 (F.st.crashes + 1), .int .i64 F.st.steals, .int .i64 F.st.helps, .int .i64 F.st.spills, .int .i64 F.st.queued, .int .i64 F.st.held, .int .i64 F.st.cells]) ++ (Wc_128 ++ (Ac ++ (Dc ++ ((acs.set x.toNat M_120).flatten ++ ((dcs.set x.toNat M_70).flatten ++ (Qci ++ (jcs.set (v0.heldJob.toNat) (T_7 ++ M_41)).flatten))))))) :: H :: F0) := Sat.perm (show Sat W _ ([(b_132, .cells #[.int .i64 10, .int .i64 x, .int .i64 0, .int .i64 0, .int .i64 v0.heldJob, .int .i64 v0.heldTask, .int .i64 0] 43 (0, 0))] :: (Tri p 86 (preF F.cfg wa wn wk aa an ak da dn dk q) (xs.flatMap encFJob) [.int .i64 F.st.starts, .int .i64 F.st.commits, .int .i64 F.st.drops, .int .i64 (F.st.crashes + 1), .int .i64 F.st.steals, .int .i64 F.st.helps, .int .i64 F.st.spills, .int .i64 F.st.queued, .int .i64 F.st.held, .int .i64 F.st.cells]) :: Wc_128 :: Ac :: Dc :: (acs.set x.toNat M_120).flatten :: (dcs.set x.toNat M_70).flatten :: Qci :: (jcs.set (v0.heldJob.toNat) (T_7 ++ M_41)).flatten :: H :: F0) from hS_137) (by simp)
  have he : crashF F x = ((⟨F.cfg, (F.ws.set x.toNat ⟨4, 0, 0, 0, 0, 0, ((F.ar.set x.toNat (resetA s_110)).getD x.toNat default).high⟩), (F.ar.set x.toNat (resetA s_110)), (F.dq.set x.toNat ({ s_56 with l := [] } : DS)), qi, (F.jobs.set (v0.heldJob.toNat) ({ s_3 with B := (retB s_3.B v0.heldTask v0.attempt) })), (⟨F.st.starts, F.st.commits, F.st.drops, (F.st.crashes + 1), F.st.steals, F.st.helps, F.st.spills, F.st.queued, F.st.held, F.st.cells⟩ : Stt)⟩ : FS), [(⟨10, x, 0, 0, v0.heldJob, v0.heldTask, 0⟩ : Evt)], 0) := (crash_busy (by omega) hv0 hh hj hrun hs_58 hs_112).trans (by rw [getD_some (set_at hs_112), hqe, List.take_of_length_le (by omega)]; rfl)
  rw [he]; exact ⟨_, _, _, _, _, rfl, hO_135, ⟨_, _, _, _, _, _, _, _, _, _, _, _, _, _, _, _, _, _, _, _, rfl, hO_129, hOa, hOd, hL_124, hL_75, hQi, hL_79, hxl⟩, hS_138⟩
theorem f_crash_f {p : Nat} {F : FS} {M : Chunk} {F0 : List Chunk} (hR : FarmR p F M) {K : Int} {v0 : Wkr} (hF : FW F K) (hst : StOk F.st K) (x : Int) (hx : 0 ≤ x ∧ x < F.ws.length) (hv0 : F.ws[x.toNat]? = some v0) (hfr : (v0.phase = 1 ∨ v0.phase = 2 ∨ v0.phase = 3) → ∀ s, F.jobs[v0.heldJob.toNat]? = some s → ¬ s.running = true) (hS : Sat W w (M :: H :: F0)) :
    Calls Tryz.prog 22 #[.pointer (some ⟨p, 0, none⟩), .int .i64 x] w fun e w' => ∃ (az : Option Addr) (nz kz : Nat) (G M' : Chunk), e = .returned (.tuple #[.slice az nz kz, .int .i64 (crashF F x).2.2]) ∧ OwnT encEvt 43 7 az nz kz (crashF F x).2.1 G ∧ FarmR p (crashF F x).1 M' ∧ Sat W w' (G :: M' :: H :: F0) := by
  obtain ⟨wa, aa, da, wn, wk, an, ak, dn, dk, q, xs, ap, dp, Wc, Ac, Dc, Qc, acs, dcs, jcs, rfl, hOw, hOa, hOd, hAs, hDs, hQ, hJs, hxl⟩ := hR
  have hS : Sat W _ ((Tri p 86 (preF F.cfg wa wn wk aa an ak da dn dk q) (xs.flatMap encFJob) (encStt F.st)) :: Wc :: Ac :: Dc :: acs.flatten :: dcs.flatten :: Qc :: jcs.flatten :: H :: F0) := Sat.perm hS (by simp)
  have hwl := hOw.len; have hwk := hOw.le; have hal := hOa.len; have hak := hOa.le; have hdl := hOd.len; have hdk := hOd.le; have has1 := hAs.1; have hds1 := hDs.1; have hjs1 := hJs.1
  have hal_ := hF.al; have hdl_ := hF.dl; have hjl_ := hF.jl; have hn_ := hF.n; have hk_ := hF.k; have hs1 := hst.a; have hs2 := hst.b; have hs3 := hst.c; have hs4 := hst.d; have hs5 := hst.e; have hs6 := hst.f; have hs7 := hst.g
  have hwo_v0 := hF.w v0 (List.mem_of_getElem? hv0); have hw1_v0 := hwo_v0.h
  have hjv : ∃ s, F.jobs[v0.heldJob.toNat]? = some s := at_some hjl_ (by omega)
  refine callsA 125 Tryz.func22 rfl ?_
  refine seqE <| regionE <| pu2 <| nilO <| thenK_n <| seqE <| seqE <| regionE <| pu1 ?_
  refine cX Tryz.call35 (f_zero (by omega) hS) ?_
  rintro _ w_1 ⟨rfl, hS_2⟩
  refine pu5 ?_
  refine sD 16 (x < 0) (fun hc_3 => ?_) (fun hc_3 => ?_)
  · refine pu8 <| nilO <| thenK_n <| cTt <| seqE <| regionE <| pu2 <| nilO <| thenK_n <| retE <| thenK_r <| retT [.slice none 0 0, .int .i64 16] <| ?_
    have hS_4 := Sat.nilc hS_2
    have hS_5 : Sat W _ ([] :: ((Tri p 86 (preF F.cfg wa wn wk aa an ak da dn dk q) (xs.flatMap encFJob) (encStt F.st)) ++ (Wc ++ (Ac ++ (Dc ++ (acs.flatten ++ (dcs.flatten ++ (Qc ++ jcs.flatten))))))) :: H :: F0) := Sat.perm (show Sat W _ ([] :: (Tri p 86 (preF F.cfg wa wn wk aa an ak da dn dk q) (xs.flatMap encFJob) (encStt F.st)) :: Wc :: Ac :: Dc :: acs.flatten :: dcs.flatten :: Qc :: jcs.flatten :: H :: F0) from hS_4) (by simp)
    have he : crashF F x = (F, [], 16) := crash_unk (by omega)
    rw [he]; exact ⟨_, _, _, _, _, rfl, (OwnT.nil (enc := encEvt) (E := 43) (sz := 7) (fun _ => rfl)), ⟨_, _, _, _, _, _, _, _, _, _, _, _, _, _, _, _, _, _, _, _, rfl, hOw, hOa, hOd, hAs, hDs, hQ, hJs, hxl⟩, hS_5⟩
  refine pu4 <| gY ?_
  refine sLp hS_2 (ptr_up 0 rfl tri_pre) 8 (.slice wa wn wk) (Tryz.isAgg77 _) ?_
  refine pu3 <| nilO <| thenK_n <| ?_
  refine cD (x ≥ ((wn : Nat) : Int)) (fun hc_6 => ?_) (fun hc_6 => ?_)
  · refine seqE <| regionE <| pu2 <| nilO <| thenK_n <| retE <| thenK_r <| retT [.slice none 0 0, .int .i64 16] <| ?_
    have hS_7 := Sat.nilc hS_2
    have hS_8 : Sat W _ ([] :: ((Tri p 86 (preF F.cfg wa wn wk aa an ak da dn dk q) (xs.flatMap encFJob) (encStt F.st)) ++ (Wc ++ (Ac ++ (Dc ++ (acs.flatten ++ (dcs.flatten ++ (Qc ++ jcs.flatten))))))) :: H :: F0) := Sat.perm (show Sat W _ ([] :: (Tri p 86 (preF F.cfg wa wn wk aa an ak da dn dk q) (xs.flatMap encFJob) (encStt F.st)) :: Wc :: Ac :: Dc :: acs.flatten :: dcs.flatten :: Qc :: jcs.flatten :: H :: F0) from hS_7) (by simp)
    have he : crashF F x = (F, [], 16) := crash_unk (by omega)
    rw [he]; exact ⟨_, _, _, _, _, rfl, (OwnT.nil (enc := encEvt) (E := 43) (sz := 7) (fun _ => rfl)), ⟨_, _, _, _, _, _, _, _, _, _, _, _, _, _, _, _, _, _, _, _, rfl, hOw, hOa, hOd, hAs, hDs, hQ, hJs, hxl⟩, hS_8⟩
  refine skipE <| thenK_n <| seqE <| regionE <| pu3 ?_
  refine sLp hS_2 (ptr_up 0 rfl tri_pre) 8 (.slice wa wn wk) (Tryz.isAgg77 _) ?_
  refine pu1 ?_
  refine sIdxO hOw x (x).toNat Tryz.runUnderlying77 Tryz.sizeOf101 ?_
  intro x_9 b_10 o_11 hx_12 hp_13 hq_14
  obtain rfl : v0 = x_9 := Option.some.inj (hv0.symm.trans hx_12)
  have hwo_v0 := hF.w v0 (List.mem_of_getElem? hx_12); have hw1_v0 := hwo_v0.h; have hw2_v0 := hwo_v0.r
  refine sLpA hS_2 (hp_13.up 1 rfl) 0 (encWkr v0) (Tryz.isAgg101 _) (Tryz.sizeOf101 _) ?_
  refine sAlloc hS_2 Tryz.zeroValue101 ?_
  intro b_15 w_16 hS_17
  refine sT hS_17 0 0 (.agg (encWkr v0).toArray) (encWkr v0) (encWkr v0).toArray Tryz.sizeOf101 ?_
  intro w_18 hS_19
  refine nilO <| thenK_n <| seqE <| seqE <| regionE <| pu1 ?_
  refine sL hS_19 0 0 (.int .i64 v0.phase) (Tryz.isAgg3 _) ?_
  refine pu1 <| nilO <| thenK_n <| ?_
  refine cE v0.phase 4 (fun hc_20 => ?_) (fun hc_20 => ?_)
  · refine seqE <| regionE <| pu2 <| nilO <| thenK_n <| retE <| thenK_r <| retT [.slice none 0 0, .int .i64 20] <| ?_
    have hS_21 := Sat.nilc hS_19
    have hS_22 := (hS_21.dropAt 1 rfl)
    have hS_23 : Sat W _ ([] :: ((Tri p 86 (preF F.cfg wa wn wk aa an ak da dn dk q) (xs.flatMap encFJob) (encStt F.st)) ++ (Wc ++ (Ac ++ (Dc ++ (acs.flatten ++ (dcs.flatten ++ (Qc ++ jcs.flatten))))))) :: H :: F0) := Sat.perm (show Sat W _ ([] :: (Tri p 86 (preF F.cfg wa wn wk aa an ak da dn dk q) (xs.flatMap encFJob) (encStt F.st)) :: Wc :: Ac :: Dc :: acs.flatten :: dcs.flatten :: Qc :: jcs.flatten :: H :: F0) from hS_22) (by simp)
    have he : crashF F x = (F, [], 20) := crash_down (by omega) hv0 (by omega)
    rw [he]; exact ⟨_, _, _, _, _, rfl, (OwnT.nil (enc := encEvt) (E := 43) (sz := 7) (fun _ => rfl)), ⟨_, _, _, _, _, _, _, _, _, _, _, _, _, _, _, _, _, _, _, _, rfl, hOw, hOa, hOd, hAs, hDs, hQ, hJs, hxl⟩, hS_23⟩
  refine skipE <| thenK_n <| seqE <| seqE ?_
  obtain ⟨x_24, hx_25⟩ := at_some hxl (k := (v0.heldJob.toNat)) (by omega)
  obtain ⟨s_26, cs_26, hss_26, hcs_26, hJs_26⟩ := Obs.get hJs hx_25; obtain ⟨has_26, hrs_26, hbs_26, hns_26⟩ := hJs_26.fields; have hjos_26 := hF.j s_26 (List.mem_of_getElem? hss_26)
  have hfr_x_24 : (v0.phase = 1 ∨ v0.phase = 2 ∨ v0.phase = 3) → ¬ x_24.running = true := fun h1 h2 => hfr h1 _ hss_26 (hrs_26 ▸ h2)
  refine drawE [8, 9] [(3, ⟨b_15, 1, none⟩, .int .i64 v0.heldJob), (7, ⟨p, 12 + (v0.heldJob.toNat) * 5 + 0, none⟩, .bool x_24.added), (7, ⟨p, 12 + (v0.heldJob.toNat) * 5 + 1, none⟩, .bool x_24.running), (7, ⟨p, 12 + (v0.heldJob.toNat) * 5 + 2, none⟩, .int .i64 x_24.band), (7, ⟨p, 12 + (v0.heldJob.toNat) * 5 + 3, none⟩, .slice x_24.tasks.a x_24.tasks.n x_24.tasks.k), (7, ⟨p, 12 + (v0.heldJob.toNat) * 5 + 4, none⟩, .pointer x_24.board)] [(true, [0, 1, 2, 4, 5]), (true, [3]), (true, [6]), (true, [7]), (false, [8]), (false, [9])] rfl (by kernel_rfl) ⟨.inr (hS_19.cell 0 rfl rfl), .inr (cell_up hS_19 1 rfl (k := 0) (tri_el (sz := 5) (n0 := 12) (fun _ => rfl) hx_25) rfl), .inr (cell_up hS_19 1 rfl (k := 1) (tri_el (sz := 5) (n0 := 12) (fun _ => rfl) hx_25) rfl), .inr (cell_up hS_19 1 rfl (k := 2) (tri_el (sz := 5) (n0 := 12) (fun _ => rfl) hx_25) rfl), .inr (cell_up hS_19 1 rfl (k := 3) (tri_el (sz := 5) (n0 := 12) (fun _ => rfl) hx_25) rfl), .inr (cell_up hS_19 1 rfl (k := 4) (tri_el (sz := 5) (n0 := 12) (fun _ => rfl) hx_25) rfl), trivial⟩ ?_
  have hS_27 := hS_19.drew
  refine wU [0, 1, 2, 4, 5] ?_
  refine wLd (.int .i64 v0.heldJob) 0 Tryz.isAgg3 ?_
  refine wY (.pointer (some ⟨p, 12 + (v0.heldJob.toNat) * 5, none⟩)) rfl (fun w _ => Y_idxA (b := p) (off := 12) v0.heldJob (v0.heldJob.toNat) Tryz.runUnderlying84 Tryz.sizeOf83) ?_
  refine wY (.agg (encFJob x_24).toArray) rfl (fun w hF => Y_loadF rfl (Tryz.isAgg83 w) (Tryz.sizeOf83 w) (by kernel_rfl) rfl ⟨hF 1 _ _ rfl, hF 2 _ _ rfl, hF 3 _ _ rfl, hF 4 _ _ rfl, hF 5 _ _ rfl, trivial⟩) ?_
  refine wO rfl ?_
  refine sAlloc hS_27 Tryz.zeroValue83 ?_
  intro b_28 w_29 hS_30
  refine nilO ⟨⟨.inr (hS_30.cell 1 rfl rfl), .inr (cell_up hS_30 2 rfl (k := 0) (tri_el (sz := 5) (n0 := 12) (fun _ => rfl) hx_25) rfl), .inr (cell_up hS_30 2 rfl (k := 1) (tri_el (sz := 5) (n0 := 12) (fun _ => rfl) hx_25) rfl), .inr (cell_up hS_30 2 rfl (k := 2) (tri_el (sz := 5) (n0 := 12) (fun _ => rfl) hx_25) rfl), .inr (cell_up hS_30 2 rfl (k := 3) (tri_el (sz := 5) (n0 := 12) (fun _ => rfl) hx_25) rfl), .inr (cell_up hS_30 2 rfl (k := 4) (tri_el (sz := 5) (n0 := 12) (fun _ => rfl) hx_25) rfl), trivial⟩, ?_⟩
  refine wO rfl ?_
  refine sT hS_30 0 0 (.agg (encFJob x_24).toArray) (encFJob x_24) (encFJob x_24).toArray Tryz.sizeOf83 ?_
  intro w_31 hS_32
  refine nilO ⟨⟨.inl (by kernel_rfl), .inl (by kernel_rfl), .inl (by kernel_rfl), .inl (by kernel_rfl), .inl (by kernel_rfl), .inl (by kernel_rfl), trivial⟩, ?_⟩
  refine wN ?_
  refine thenK_n <| seqE <| regionE ?_
  refine lA hS_32 1 0 7 (Tryz.isAgg101 _) (Tryz.sizeOf101 _) ?_
  refine cR Tryz.call42 (f_holds v0 (Sat.flat hS_32)) ?_
  intro w_33 hS_34
  refine pu1 ?_
  refine sD 45 ((v0.phase = 1 ∨ v0.phase = 2 ∨ v0.phase = 3)) (fun hc_36 => ?_) (fun hc_36 => ?_)
  rotate_left
  · refine pu3 <| nilO <| thenK_n <| cFf <| skipE <| thenK_n <| seqE <| regionE <| pu3 ?_
    refine sLp hS_34 (ptr_up 2 rfl tri_pre) 10 (.slice da dn dk) (Tryz.isAgg79 _) ?_
    refine pu1 ?_
    refine sIdxO hOd x (x).toNat Tryz.runUnderlying79 Tryz.sizeOf90 ?_
    intro x_124 b_125 o_126 hx_127 hp_128 hq_129
    refine sLp hS_34 (hp_128.up 5 rfl) 0 (.pointer (some ⟨x_124, 0, none⟩)) (Tryz.isAgg90 _) ?_
    obtain ⟨s_130, c_131, hs_132, hc_133, hR_134⟩ := Obs.get hDs hx_127
    have hS_136 := (hS_34.pick 7 rfl)
    have hS_135 := Sat.openN (A := []) x.toNat hc_133 hS_136
    refine cX Tryz.call44 (dq_drain hR_134 (Sat.flat1 hS_135)) ?_
    rintro _ w_137 ⟨az_140, nz_141, kz_142, Z_143, M_144, rfl, hO_145, hR_146, hS_138⟩
    have hS_139 := Sat.unflat2 hS_138; have hn_az_140 := hO_145.len; have hl_az_140 := hO_145.le
    have hS_147 := ((hS_139.pick 2 rfl).pick 2 rfl)
    have hS_148 := Sat.shutN (d := M_144) (A := []) x.toNat hc_133 hS_147
    have hL_149 := Obs.set hDs hx_127 hR_146
    refine pu1 <| nilO <| thenK_n <| seqE <| seqE <| regionE <| pu1 <| nilO <| thenK_n <| blockE ?_
    refine loopA (γ := Nat × QS × Chunk) (fun ⟨i, qi, Qci⟩ => [(0, .pointer (some ⟨p, 0, none⟩)), (1, .int .i64 x), (6, .pointer (some ⟨b_15, 0, none⟩)), (8, .slice az_140 nz_141 kz_142), (9, .int .i64 ((i : Nat) : Int))]) (fun ⟨i, qi, Qci⟩ w => Sat W w ((dcs.set x.toNat M_144).flatten :: Z_143 :: [(b_28, .cells (encFJob x_24).toArray 83 (0, 0))] :: [(b_15, .cells (encWkr v0).toArray 101 (0, 0))] :: (Tri p 86 (preF F.cfg wa wn wk aa an ak da dn dk q) (xs.flatMap encFJob) (encStt F.st)) :: Wc :: Ac :: Dc :: acs.flatten :: Qci :: jcs.flatten :: H :: F0) ∧ i ≤ nz_141 ∧ (InjR q qi Qci) ∧ (qi = drainQ F.jobs F.q (s_130.l.take i))) (fun ⟨i, qi, Qci⟩ => nz_141 - i) (0, F.q, Qc) ⟨hS_148, by omega, hQ, rfl⟩ ?_
    rintro ⟨i, qi, Qci⟩ ρ w_150 ⟨hS_151, hi, hQi, hqe⟩
    refine seqE <| seqE <| regionE <| pu4 <| nilO <| thenK_n <| ?_
    refine cD (((i : Nat) : Int) < ((nz_141 : Nat) : Int)) (fun hc_152 => ?_) (fun hc_152 => ?_)
    · refine skipE <| thenK_n <| seqE <| blockE ?_
      obtain ⟨x_153, b_154, o_155, hx_156, hp_157, hq_158, ha_159⟩ := OwnT.elem hO_145 ((i : Nat) : Int)
      rw [Int.toNat_natCast] at hx_156 hp_157 hq_158
      have hro_162 := hF.d _ (List.mem_of_getElem? hs_132) _ (List.mem_of_getElem? hx_156); have hro_162_1 := hro_162.1; have hro_162_2 := hro_162.2.1; obtain ⟨j_160, hj_161, _, _, _, hro_162_3, hro_162_4, _, _⟩ := hF.job hro_162
      obtain ⟨x_163, hx_164⟩ := at_some hxl (k := (x_153.job.toNat)) (by omega)
      obtain ⟨s_165, cs_165, hss_165, hcs_165, hJs_165⟩ := Obs.get hJs hx_164; obtain ⟨has_165, hrs_165, hbs_165, hns_165⟩ := hJs_165.fields; have hjos_165 := hF.j s_165 (List.mem_of_getElem? hss_165)
      obtain rfl : s_165 = j_160 := Option.some.inj (hss_165.symm.trans hj_161)
      refine drawE [19] [(3, ⟨p, 11, none⟩, .pointer (some ⟨q, 0, none⟩)), (7, ⟨b_154, o_155 + i * 2 + 0, none⟩, .int .i64 x_153.job), (7, ⟨b_154, o_155 + i * 2 + 1, none⟩, .int .i64 x_153.task), (13, ⟨b_154, o_155 + i * 2 + 0, none⟩, .int .i64 x_153.job), (18, ⟨p, 12 + (x_153.job.toNat) * 5 + 2, none⟩, .int .i64 x_163.band)] [(true, [0, 1, 2, 4, 5]), (true, [6]), (true, [8, 9, 10]), (true, [11]), (true, [12, 14, 15]), (true, [3]), (true, [7]), (true, [13]), (true, [16]), (true, [17]), (true, [18]), (false, [19])] rfl (by kernel_rfl) ⟨.inr (cell_up hS_151 4 rfl (k := 11) tri_pre rfl), .inr ((hp_157.up 1 rfl).cell hS_151 (k := 0) rfl), .inr ((hp_157.up 1 rfl).cell hS_151 (k := 1) rfl), .inr ((hp_157.up 1 rfl).cell hS_151 (k := 0) rfl), .inr (cell_up hS_151 4 rfl (k := 2) (tri_el (sz := 5) (n0 := 12) (fun _ => rfl) hx_164) rfl), trivial⟩ ?_
      have hS_166 := hS_151.drew
      refine wU [0, 1, 2, 4, 5] ?_
      refine wY (.pointer (some ⟨b_154, o_155 + i * 2, none⟩)) rfl (fun w _ => Y_idx (a := az_140) (i := ((i : Nat) : Int)) (len := nz_141) (cap := kz_142) rfl Tryz.runUnderlying104 Tryz.sizeOf40 (by kernel_rfl) (by kernel_rfl) hq_158) ?_
      refine wU [8, 9, 10] ?_
      refine wY (.pointer (some ⟨b_154, o_155 + i * 2, none⟩)) rfl (fun w _ => Y_idx (a := az_140) (i := ((i : Nat) : Int)) (len := nz_141) (cap := kz_142) rfl Tryz.runUnderlying104 Tryz.sizeOf40 (by kernel_rfl) (by kernel_rfl) hq_158) ?_
      refine wU [12, 14, 15] ?_
      refine wLd (.pointer (some ⟨q, 0, none⟩)) 0 Tryz.isAgg80 ?_
      refine wY (.agg #[.int .i64 x_153.job, .int .i64 x_153.task]) rfl (fun w hF => Y_loadF rfl (Tryz.isAgg40 w) (Tryz.sizeOf40 w) (by kernel_rfl) rfl ⟨hF 1 _ _ rfl, hF 2 _ _ rfl, trivial⟩) ?_
      refine wLd (.int .i64 x_153.job) 3 Tryz.isAgg3 ?_
      refine wY (.pointer (some ⟨p, 12 + (x_153.job.toNat) * 5, none⟩)) rfl (fun w _ => Y_idxA (b := p) (off := 12) x_153.job (x_153.job.toNat) Tryz.runUnderlying84 Tryz.sizeOf83) ?_
      refine wU [17] ?_
      refine wLd (.int .i64 x_163.band) 4 Tryz.isAgg3 ?_
      refine wO rfl ?_
      have hS_167 := (hS_166.pick 9 rfl)
      refine cX Tryz.call39 (iq_push hQi x_153 x_163.band (by omega) (Sat.flat1 hS_167)) ?_
      rintro _ w_168 ⟨M_171, rfl, hR_172, hS_169⟩
      have hS_170 := Sat.unflat1 hS_169
      refine nilO ⟨⟨.inl (by kernel_rfl), .inl (by kernel_rfl), .inl (by kernel_rfl), .inr ((hp_157.up 2 rfl).cell hS_170 (k := 0) rfl), .inl (by kernel_rfl), trivial⟩, ?_⟩
      refine wN ?_
      refine blockK_n <| thenK_n <| regionE <| pu1 ?_
      refine sAdd ((i : Nat) : Int) 1 ?_
      refine pu1 <| nilO <| thenK_n <| ?_
      have hS_173 : Sat W _ ([(b_15, .cells (encWkr v0).toArray 101 (0, 0))] :: (Tri p 86 (preF F.cfg wa wn wk aa an ak da dn dk q) (xs.flatMap encFJob) (encStt F.st)) :: Wc :: Ac :: Dc :: acs.flatten :: M_171 :: (dcs.set x.toNat M_144).flatten :: Z_143 :: [(b_28, .cells (encFJob x_24).toArray 83 (0, 0))] :: jcs.flatten :: H :: F0) := ((((((hS_170.pick 9 rfl).pick 9 rfl).pick 9 rfl).pick 9 rfl).pick 9 rfl).pick 9 rfl)
      have hS_174 := (((hS_173.pick 9 rfl).pick 9 rfl).pick 9 rfl)
      exact ⟨(i + 1, (pushQ qi x_153 x_163.band), M_171), by first | omega | (dsimp only; omega), alA, hS_174, by omega, hR_172, (by rw [drain_take hx_156, ← hqe]; unfold pushR; rw [getD_some hss_165, ← hbs_165])⟩
    refine exitE <| thenK_x <| thenK_x <| blockK_x <| thenK_n <| seqE <| regionE <| pu3 ?_
    refine sLp hS_151 (ptr_up 4 rfl tri_pre) 9 (.slice aa an ak) (Tryz.isAgg78 _) ?_
    refine pu1 ?_
    refine sIdxO hOa x (x).toNat Tryz.runUnderlying78 Tryz.sizeOf87 ?_
    intro x_175 b_176 o_177 hx_178 hp_179 hq_180
    refine sLp hS_151 (hp_179.up 6 rfl) 0 (.pointer (some ⟨x_175, 0, none⟩)) (Tryz.isAgg87 _) ?_
    obtain ⟨s_181, c_182, hs_183, hc_184, hR_185⟩ := Obs.get hAs hx_178
    have hS_187 := (hS_151.pick 8 rfl)
    have hS_186 := Sat.openN (A := []) x.toNat hc_184 hS_187
    refine cX Tryz.call45 (ar_reset hR_185  (Sat.flat1 hS_186)) ?_
    rintro _ w_188 ⟨M_191, rfl, hR_192, hS_189⟩
    have hS_190 := Sat.unflat1 hS_189
    have hS_193 := ((hS_190.pick 1 rfl).pick 1 rfl)
    have hS_194 := Sat.shutN (d := M_191) (A := []) x.toNat hc_184 hS_193
    have hL_195 := Obs.set hAs hx_178 hR_192
    refine nilO <| thenK_n <| seqE <| regionE <| pu2 ?_
    have hS_196 := ((((hS_194.pick 0 rfl).pick 7 rfl).pick 7 rfl).pick 7 rfl)
    refine cX Tryz.call46 (f_idle hOw hOa hL_195 x 4 (by first | omega | (dsimp only; omega) | (simp only [List.length_set]; omega)) (by first | omega | (dsimp only; omega) | (simp only [List.length_set]; omega)) hS_196) ?_
    rintro _ w_197 ⟨Wc_199, rfl, hO_200, hS_198⟩
    refine nilO <| thenK_n <| seqE <| regionE <| pu4 ?_
    refine sLp hS_198 (ptr_up 0 rfl (tri_post (k := 332) (tri_len (sz := 5) (m := 12) (fun _ => rfl) hxl))) 3 (.int .i64 F.st.crashes) (Tryz.isAgg3 _) ?_
    refine sAdd F.st.crashes 1 ?_
    refine pu3 ?_
    refine sTpost hS_198 0 332 3 rfl (.int .i64 (F.st.crashes + 1)) [.int .i64 (F.st.crashes + 1)] [.int .i64 F.st.starts, .int .i64 F.st.commits, .int .i64 F.st.drops, .int .i64 (F.st.crashes + 1), .int .i64 F.st.steals, .int .i64 F.st.helps, .int .i64 F.st.spills, .int .i64 F.st.queued, .int .i64 F.st.held, .int .i64 F.st.cells] (tri_len (sz := 5) (m := 12) (fun _ => rfl) hxl) Tryz.sizeOf3 ?_
    intro w_201 hS_202
    refine nilO <| thenK_n <| seqE <| regionE <| pu2 ?_
    refine lA hS_202 7 1 2 (Tryz.isAgg40 _) (Tryz.sizeOf40 _) ?_
    refine pu1 ?_
    refine sBS hS_202 #[.int .i64 10, .int .i64 x, .int .i64 0, .int .i64 0, .int .i64 v0.heldJob, .int .i64 v0.heldTask, .int .i64 0] Tryz.runUnderlying26 Tryz.sizeOf43 Tryz.zeroValue43 ?_
    intro b_203 w_204 hS_205
    refine pu2 <| nilO <| thenK_n <| retE <| retT [.slice (some ⟨b_203, 0, none⟩) 1 1, .int .i64 0] <| ?_
    have hO_206 := OwnT.blk (enc := encEvt) (sz := 7) (b := b_203) (c := #[.int .i64 10, .int .i64 x, .int .i64 0, .int .i64 0, .int .i64 v0.heldJob, .int .i64 v0.heldTask, .int .i64 0]) (E := 43) (xs := [(⟨10, x, 0, 0, v0.heldJob, v0.heldTask, 0⟩ : Evt)]) (fun _ => rfl) 1 rfl rfl rfl (by omega)
    have hS_207 : Sat W _ ([(b_203, .cells #[.int .i64 10, .int .i64 x, .int .i64 0, .int .i64 0, .int .i64 v0.heldJob, .int .i64 v0.heldTask, .int .i64 0] 43 (0, 0))] :: (Tri p 86 (preF F.cfg wa wn wk aa an ak da dn dk q) (xs.flatMap encFJob) [.int .i64 F.st.starts, .int .i64 F.st.commits, .int .i64 F.st.drops, .int .i64 (F.st.crashes + 1), .int .i64 F.st.steals, .int .i64 F.st.helps, .int .i64 F.st.spills, .int .i64 F.st.queued, .int .i64 F.st.held, .int .i64 F.st.cells]) :: Wc_199 :: Ac :: Dc :: (acs.set x.toNat M_191).flatten :: (dcs.set x.toNat M_144).flatten :: [(b_28, .cells (encFJob x_24).toArray 83 (0, 0))] :: [(b_15, .cells (encWkr v0).toArray 101 (0, 0))] :: Qci :: jcs.flatten :: H :: F0) := ((((((hS_205.pick 9 rfl).pick 4 rfl).pick 4 rfl).pick 4 rfl).pick 4 rfl).dropAt 7 rfl)
    have hS_208 := ((hS_207.dropAt 7 rfl).dropAt 7 rfl)
    have hS_209 : Sat W _ ([(b_203, .cells #[.int .i64 10, .int .i64 x, .int .i64 0, .int .i64 0, .int .i64 v0.heldJob, .int .i64 v0.heldTask, .int .i64 0] 43 (0, 0))] :: ((Tri p 86 (preF F.cfg wa wn wk aa an ak da dn dk q) (xs.flatMap encFJob) [.int .i64 F.st.starts, .int .i64 F.st.commits, .int .i64 F.st.drops, .int .i64 (F.st.crashes + 1), .int .i64 F.st.steals, .int .i64 F.st.helps, .int .i64 F.st.spills, .int .i64 F.st.queued, .int .i64 F.st.held, .int .i64 F.st.cells]) ++ (Wc_199 ++ (Ac ++ (Dc ++ ((acs.set x.toNat M_191).flatten ++ ((dcs.set x.toNat M_144).flatten ++ (Qci ++ jcs.flatten))))))) :: H :: F0) := Sat.perm (show Sat W _ ([(b_203, .cells #[.int .i64 10, .int .i64 x, .int .i64 0, .int .i64 0, .int .i64 v0.heldJob, .int .i64 v0.heldTask, .int .i64 0] 43 (0, 0))] :: (Tri p 86 (preF F.cfg wa wn wk aa an ak da dn dk q) (xs.flatMap encFJob) [.int .i64 F.st.starts, .int .i64 F.st.commits, .int .i64 F.st.drops, .int .i64 (F.st.crashes + 1), .int .i64 F.st.steals, .int .i64 F.st.helps, .int .i64 F.st.spills, .int .i64 F.st.queued, .int .i64 F.st.held, .int .i64 F.st.cells]) :: Wc_199 :: Ac :: Dc :: (acs.set x.toNat M_191).flatten :: (dcs.set x.toNat M_144).flatten :: Qci :: jcs.flatten :: H :: F0) from hS_208) (by simp)
    have he : crashF F x = ((⟨F.cfg, (F.ws.set x.toNat ⟨4, 0, 0, 0, 0, 0, ((F.ar.set x.toNat (resetA s_181)).getD x.toNat default).high⟩), (F.ar.set x.toNat (resetA s_181)), (F.dq.set x.toNat ({ s_130 with l := [] } : DS)), qi, F.jobs, (⟨F.st.starts, F.st.commits, F.st.drops, (F.st.crashes + 1), F.st.steals, F.st.helps, F.st.spills, F.st.queued, F.st.held, F.st.cells⟩ : Stt)⟩ : FS), [(⟨10, x, 0, 0, v0.heldJob, v0.heldTask, 0⟩ : Evt)], 0) := (crash_free (by omega) hv0 (by omega) (busy_no hfr hjv) hs_132 hs_183).trans (by rw [getD_some (set_at hs_183), hqe, List.take_of_length_le (by omega)]; rfl)
    rw [he]; exact ⟨_, _, _, _, _, rfl, hO_206, ⟨_, _, _, _, _, _, _, _, _, _, _, _, _, _, _, _, _, _, _, _, rfl, hO_200, hOa, hOd, hL_195, hL_149, hQi, hJs, hxl⟩, hS_209⟩
  refine pu1 <| gY ?_
  refine sL hS_34 0 1 (.bool x_24.running) (Tryz.isAgg4 _) ?_
  refine pu1 <| nilO <| thenK_n <| ?_
  have hc_37 : ¬ (x_24.running = true) := hfr_x_24 hc_36
  refine cF _ (Bool.eq_false_iff.2 hc_37) ?_
  refine skipE <| thenK_n <| seqE <| regionE <| pu3 ?_
  refine sLp hS_34 (ptr_up 2 rfl tri_pre) 10 (.slice da dn dk) (Tryz.isAgg79 _) ?_
  refine pu1 ?_
  refine sIdxO hOd x (x).toNat Tryz.runUnderlying79 Tryz.sizeOf90 ?_
  intro x_38 b_39 o_40 hx_41 hp_42 hq_43
  refine sLp hS_34 (hp_42.up 5 rfl) 0 (.pointer (some ⟨x_38, 0, none⟩)) (Tryz.isAgg90 _) ?_
  obtain ⟨s_44, c_45, hs_46, hc_47, hR_48⟩ := Obs.get hDs hx_41
  have hS_50 := (hS_34.pick 7 rfl)
  have hS_49 := Sat.openN (A := []) x.toNat hc_47 hS_50
  refine cX Tryz.call44 (dq_drain hR_48 (Sat.flat1 hS_49)) ?_
  rintro _ w_51 ⟨az_54, nz_55, kz_56, Z_57, M_58, rfl, hO_59, hR_60, hS_52⟩
  have hS_53 := Sat.unflat2 hS_52; have hn_az_54 := hO_59.len; have hl_az_54 := hO_59.le
  have hS_61 := ((hS_53.pick 2 rfl).pick 2 rfl)
  have hS_62 := Sat.shutN (d := M_58) (A := []) x.toNat hc_47 hS_61
  have hL_63 := Obs.set hDs hx_41 hR_60
  refine pu1 <| nilO <| thenK_n <| seqE <| seqE <| regionE <| pu1 <| nilO <| thenK_n <| blockE ?_
  refine loopA (γ := Nat × QS × Chunk) (fun ⟨i, qi, Qci⟩ => [(0, .pointer (some ⟨p, 0, none⟩)), (1, .int .i64 x), (6, .pointer (some ⟨b_15, 0, none⟩)), (8, .slice az_54 nz_55 kz_56), (9, .int .i64 ((i : Nat) : Int))]) (fun ⟨i, qi, Qci⟩ w => Sat W w ((dcs.set x.toNat M_58).flatten :: Z_57 :: [(b_28, .cells (encFJob x_24).toArray 83 (0, 0))] :: [(b_15, .cells (encWkr v0).toArray 101 (0, 0))] :: (Tri p 86 (preF F.cfg wa wn wk aa an ak da dn dk q) (xs.flatMap encFJob) (encStt F.st)) :: Wc :: Ac :: Dc :: acs.flatten :: Qci :: jcs.flatten :: H :: F0) ∧ i ≤ nz_55 ∧ (InjR q qi Qci) ∧ (qi = drainQ F.jobs F.q (s_44.l.take i))) (fun ⟨i, qi, Qci⟩ => nz_55 - i) (0, F.q, Qc) ⟨hS_62, by omega, hQ, rfl⟩ ?_
  rintro ⟨i, qi, Qci⟩ ρ w_64 ⟨hS_65, hi, hQi, hqe⟩
  refine seqE <| seqE <| regionE <| pu4 <| nilO <| thenK_n <| ?_
  refine cD (((i : Nat) : Int) < ((nz_55 : Nat) : Int)) (fun hc_66 => ?_) (fun hc_66 => ?_)
  · refine skipE <| thenK_n <| seqE <| blockE ?_
    obtain ⟨x_67, b_68, o_69, hx_70, hp_71, hq_72, ha_73⟩ := OwnT.elem hO_59 ((i : Nat) : Int)
    rw [Int.toNat_natCast] at hx_70 hp_71 hq_72
    have hro_76 := hF.d _ (List.mem_of_getElem? hs_46) _ (List.mem_of_getElem? hx_70); have hro_76_1 := hro_76.1; have hro_76_2 := hro_76.2.1; obtain ⟨j_74, hj_75, _, _, _, hro_76_3, hro_76_4, _, _⟩ := hF.job hro_76
    obtain ⟨x_77, hx_78⟩ := at_some hxl (k := (x_67.job.toNat)) (by omega)
    obtain ⟨s_79, cs_79, hss_79, hcs_79, hJs_79⟩ := Obs.get hJs hx_78; obtain ⟨has_79, hrs_79, hbs_79, hns_79⟩ := hJs_79.fields; have hjos_79 := hF.j s_79 (List.mem_of_getElem? hss_79)
    obtain rfl : s_79 = j_74 := Option.some.inj (hss_79.symm.trans hj_75)
    refine drawE [19] [(3, ⟨p, 11, none⟩, .pointer (some ⟨q, 0, none⟩)), (7, ⟨b_68, o_69 + i * 2 + 0, none⟩, .int .i64 x_67.job), (7, ⟨b_68, o_69 + i * 2 + 1, none⟩, .int .i64 x_67.task), (13, ⟨b_68, o_69 + i * 2 + 0, none⟩, .int .i64 x_67.job), (18, ⟨p, 12 + (x_67.job.toNat) * 5 + 2, none⟩, .int .i64 x_77.band)] [(true, [0, 1, 2, 4, 5]), (true, [6]), (true, [8, 9, 10]), (true, [11]), (true, [12, 14, 15]), (true, [3]), (true, [7]), (true, [13]), (true, [16]), (true, [17]), (true, [18]), (false, [19])] rfl (by kernel_rfl) ⟨.inr (cell_up hS_65 4 rfl (k := 11) tri_pre rfl), .inr ((hp_71.up 1 rfl).cell hS_65 (k := 0) rfl), .inr ((hp_71.up 1 rfl).cell hS_65 (k := 1) rfl), .inr ((hp_71.up 1 rfl).cell hS_65 (k := 0) rfl), .inr (cell_up hS_65 4 rfl (k := 2) (tri_el (sz := 5) (n0 := 12) (fun _ => rfl) hx_78) rfl), trivial⟩ ?_
    have hS_80 := hS_65.drew
    refine wU [0, 1, 2, 4, 5] ?_
    refine wY (.pointer (some ⟨b_68, o_69 + i * 2, none⟩)) rfl (fun w _ => Y_idx (a := az_54) (i := ((i : Nat) : Int)) (len := nz_55) (cap := kz_56) rfl Tryz.runUnderlying104 Tryz.sizeOf40 (by kernel_rfl) (by kernel_rfl) hq_72) ?_
    refine wU [8, 9, 10] ?_
    refine wY (.pointer (some ⟨b_68, o_69 + i * 2, none⟩)) rfl (fun w _ => Y_idx (a := az_54) (i := ((i : Nat) : Int)) (len := nz_55) (cap := kz_56) rfl Tryz.runUnderlying104 Tryz.sizeOf40 (by kernel_rfl) (by kernel_rfl) hq_72) ?_
    refine wU [12, 14, 15] ?_
    refine wLd (.pointer (some ⟨q, 0, none⟩)) 0 Tryz.isAgg80 ?_
    refine wY (.agg #[.int .i64 x_67.job, .int .i64 x_67.task]) rfl (fun w hF => Y_loadF rfl (Tryz.isAgg40 w) (Tryz.sizeOf40 w) (by kernel_rfl) rfl ⟨hF 1 _ _ rfl, hF 2 _ _ rfl, trivial⟩) ?_
    refine wLd (.int .i64 x_67.job) 3 Tryz.isAgg3 ?_
    refine wY (.pointer (some ⟨p, 12 + (x_67.job.toNat) * 5, none⟩)) rfl (fun w _ => Y_idxA (b := p) (off := 12) x_67.job (x_67.job.toNat) Tryz.runUnderlying84 Tryz.sizeOf83) ?_
    refine wU [17] ?_
    refine wLd (.int .i64 x_77.band) 4 Tryz.isAgg3 ?_
    refine wO rfl ?_
    have hS_81 := (hS_80.pick 9 rfl)
    refine cX Tryz.call39 (iq_push hQi x_67 x_77.band (by omega) (Sat.flat1 hS_81)) ?_
    rintro _ w_82 ⟨M_85, rfl, hR_86, hS_83⟩
    have hS_84 := Sat.unflat1 hS_83
    refine nilO ⟨⟨.inl (by kernel_rfl), .inl (by kernel_rfl), .inl (by kernel_rfl), .inr ((hp_71.up 2 rfl).cell hS_84 (k := 0) rfl), .inl (by kernel_rfl), trivial⟩, ?_⟩
    refine wN ?_
    refine blockK_n <| thenK_n <| regionE <| pu1 ?_
    refine sAdd ((i : Nat) : Int) 1 ?_
    refine pu1 <| nilO <| thenK_n <| ?_
    have hS_87 : Sat W _ ([(b_15, .cells (encWkr v0).toArray 101 (0, 0))] :: (Tri p 86 (preF F.cfg wa wn wk aa an ak da dn dk q) (xs.flatMap encFJob) (encStt F.st)) :: Wc :: Ac :: Dc :: acs.flatten :: M_85 :: (dcs.set x.toNat M_58).flatten :: Z_57 :: [(b_28, .cells (encFJob x_24).toArray 83 (0, 0))] :: jcs.flatten :: H :: F0) := ((((((hS_84.pick 9 rfl).pick 9 rfl).pick 9 rfl).pick 9 rfl).pick 9 rfl).pick 9 rfl)
    have hS_88 := (((hS_87.pick 9 rfl).pick 9 rfl).pick 9 rfl)
    exact ⟨(i + 1, (pushQ qi x_67 x_77.band), M_85), by first | omega | (dsimp only; omega), alA, hS_88, by omega, hR_86, (by rw [drain_take hx_70, ← hqe]; unfold pushR; rw [getD_some hss_79, ← hbs_79])⟩
  refine exitE <| thenK_x <| thenK_x <| blockK_x <| thenK_n <| seqE <| regionE <| pu3 ?_
  refine sLp hS_65 (ptr_up 4 rfl tri_pre) 9 (.slice aa an ak) (Tryz.isAgg78 _) ?_
  refine pu1 ?_
  refine sIdxO hOa x (x).toNat Tryz.runUnderlying78 Tryz.sizeOf87 ?_
  intro x_89 b_90 o_91 hx_92 hp_93 hq_94
  refine sLp hS_65 (hp_93.up 6 rfl) 0 (.pointer (some ⟨x_89, 0, none⟩)) (Tryz.isAgg87 _) ?_
  obtain ⟨s_95, c_96, hs_97, hc_98, hR_99⟩ := Obs.get hAs hx_92
  have hS_101 := (hS_65.pick 8 rfl)
  have hS_100 := Sat.openN (A := []) x.toNat hc_98 hS_101
  refine cX Tryz.call45 (ar_reset hR_99  (Sat.flat1 hS_100)) ?_
  rintro _ w_102 ⟨M_105, rfl, hR_106, hS_103⟩
  have hS_104 := Sat.unflat1 hS_103
  have hS_107 := ((hS_104.pick 1 rfl).pick 1 rfl)
  have hS_108 := Sat.shutN (d := M_105) (A := []) x.toNat hc_98 hS_107
  have hL_109 := Obs.set hAs hx_92 hR_106
  refine nilO <| thenK_n <| seqE <| regionE <| pu2 ?_
  have hS_110 := ((((hS_108.pick 0 rfl).pick 7 rfl).pick 7 rfl).pick 7 rfl)
  refine cX Tryz.call46 (f_idle hOw hOa hL_109 x 4 (by first | omega | (dsimp only; omega) | (simp only [List.length_set]; omega)) (by first | omega | (dsimp only; omega) | (simp only [List.length_set]; omega)) hS_110) ?_
  rintro _ w_111 ⟨Wc_113, rfl, hO_114, hS_112⟩
  refine nilO <| thenK_n <| seqE <| regionE <| pu4 ?_
  refine sLp hS_112 (ptr_up 0 rfl (tri_post (k := 332) (tri_len (sz := 5) (m := 12) (fun _ => rfl) hxl))) 3 (.int .i64 F.st.crashes) (Tryz.isAgg3 _) ?_
  refine sAdd F.st.crashes 1 ?_
  refine pu3 ?_
  refine sTpost hS_112 0 332 3 rfl (.int .i64 (F.st.crashes + 1)) [.int .i64 (F.st.crashes + 1)] [.int .i64 F.st.starts, .int .i64 F.st.commits, .int .i64 F.st.drops, .int .i64 (F.st.crashes + 1), .int .i64 F.st.steals, .int .i64 F.st.helps, .int .i64 F.st.spills, .int .i64 F.st.queued, .int .i64 F.st.held, .int .i64 F.st.cells] (tri_len (sz := 5) (m := 12) (fun _ => rfl) hxl) Tryz.sizeOf3 ?_
  intro w_115 hS_116
  refine nilO <| thenK_n <| seqE <| regionE <| pu2 ?_
  refine lA hS_116 7 1 2 (Tryz.isAgg40 _) (Tryz.sizeOf40 _) ?_
  refine pu1 ?_
  refine sBS hS_116 #[.int .i64 10, .int .i64 x, .int .i64 0, .int .i64 0, .int .i64 v0.heldJob, .int .i64 v0.heldTask, .int .i64 0] Tryz.runUnderlying26 Tryz.sizeOf43 Tryz.zeroValue43 ?_
  intro b_117 w_118 hS_119
  refine pu2 <| nilO <| thenK_n <| retE <| retT [.slice (some ⟨b_117, 0, none⟩) 1 1, .int .i64 0] <| ?_
  have hO_120 := OwnT.blk (enc := encEvt) (sz := 7) (b := b_117) (c := #[.int .i64 10, .int .i64 x, .int .i64 0, .int .i64 0, .int .i64 v0.heldJob, .int .i64 v0.heldTask, .int .i64 0]) (E := 43) (xs := [(⟨10, x, 0, 0, v0.heldJob, v0.heldTask, 0⟩ : Evt)]) (fun _ => rfl) 1 rfl rfl rfl (by omega)
  have hS_121 : Sat W _ ([(b_117, .cells #[.int .i64 10, .int .i64 x, .int .i64 0, .int .i64 0, .int .i64 v0.heldJob, .int .i64 v0.heldTask, .int .i64 0] 43 (0, 0))] :: (Tri p 86 (preF F.cfg wa wn wk aa an ak da dn dk q) (xs.flatMap encFJob) [.int .i64 F.st.starts, .int .i64 F.st.commits, .int .i64 F.st.drops, .int .i64 (F.st.crashes + 1), .int .i64 F.st.steals, .int .i64 F.st.helps, .int .i64 F.st.spills, .int .i64 F.st.queued, .int .i64 F.st.held, .int .i64 F.st.cells]) :: Wc_113 :: Ac :: Dc :: (acs.set x.toNat M_105).flatten :: (dcs.set x.toNat M_58).flatten :: [(b_28, .cells (encFJob x_24).toArray 83 (0, 0))] :: [(b_15, .cells (encWkr v0).toArray 101 (0, 0))] :: Qci :: jcs.flatten :: H :: F0) := ((((((hS_119.pick 9 rfl).pick 4 rfl).pick 4 rfl).pick 4 rfl).pick 4 rfl).dropAt 7 rfl)
  have hS_122 := ((hS_121.dropAt 7 rfl).dropAt 7 rfl)
  have hS_123 : Sat W _ ([(b_117, .cells #[.int .i64 10, .int .i64 x, .int .i64 0, .int .i64 0, .int .i64 v0.heldJob, .int .i64 v0.heldTask, .int .i64 0] 43 (0, 0))] :: ((Tri p 86 (preF F.cfg wa wn wk aa an ak da dn dk q) (xs.flatMap encFJob) [.int .i64 F.st.starts, .int .i64 F.st.commits, .int .i64 F.st.drops, .int .i64 (F.st.crashes + 1), .int .i64 F.st.steals, .int .i64 F.st.helps, .int .i64 F.st.spills, .int .i64 F.st.queued, .int .i64 F.st.held, .int .i64 F.st.cells]) ++ (Wc_113 ++ (Ac ++ (Dc ++ ((acs.set x.toNat M_105).flatten ++ ((dcs.set x.toNat M_58).flatten ++ (Qci ++ jcs.flatten))))))) :: H :: F0) := Sat.perm (show Sat W _ ([(b_117, .cells #[.int .i64 10, .int .i64 x, .int .i64 0, .int .i64 0, .int .i64 v0.heldJob, .int .i64 v0.heldTask, .int .i64 0] 43 (0, 0))] :: (Tri p 86 (preF F.cfg wa wn wk aa an ak da dn dk q) (xs.flatMap encFJob) [.int .i64 F.st.starts, .int .i64 F.st.commits, .int .i64 F.st.drops, .int .i64 (F.st.crashes + 1), .int .i64 F.st.steals, .int .i64 F.st.helps, .int .i64 F.st.spills, .int .i64 F.st.queued, .int .i64 F.st.held, .int .i64 F.st.cells]) :: Wc_113 :: Ac :: Dc :: (acs.set x.toNat M_105).flatten :: (dcs.set x.toNat M_58).flatten :: Qci :: jcs.flatten :: H :: F0) from hS_122) (by simp)
  have he : crashF F x = ((⟨F.cfg, (F.ws.set x.toNat ⟨4, 0, 0, 0, 0, 0, ((F.ar.set x.toNat (resetA s_95)).getD x.toNat default).high⟩), (F.ar.set x.toNat (resetA s_95)), (F.dq.set x.toNat ({ s_44 with l := [] } : DS)), qi, F.jobs, (⟨F.st.starts, F.st.commits, F.st.drops, (F.st.crashes + 1), F.st.steals, F.st.helps, F.st.spills, F.st.queued, F.st.held, F.st.cells⟩ : Stt)⟩ : FS), [(⟨10, x, 0, 0, v0.heldJob, v0.heldTask, 0⟩ : Evt)], 0) := (crash_free (by omega) hv0 (by omega) (busy_no hfr hjv) hs_46 hs_97).trans (by rw [getD_some (set_at hs_97), hqe, List.take_of_length_le (by omega)]; rfl)
  rw [he]; exact ⟨_, _, _, _, _, rfl, hO_120, ⟨_, _, _, _, _, _, _, _, _, _, _, _, _, _, _, _, _, _, _, _, rfl, hO_114, hOa, hOd, hL_109, hL_63, hQi, hJs, hxl⟩, hS_123⟩
theorem f_crash {W w : World} {p : Nat} {F : FS} {M H : Chunk} {F0 : List Chunk} (hR : FarmR p F M) {K : Int} (hF : FW F K) (hst : StOk F.st K) (x : Int) (hx : 0 ≤ x ∧ x < F.ws.length) (hS : Sat W w (M :: H :: F0)) :
    Calls Tryz.prog 22 #[.pointer (some ⟨p, 0, none⟩), .int .i64 x] w fun e w' => ∃ (az : Option Addr) (nz kz : Nat) (G M' : Chunk), e = .returned (.tuple #[.slice az nz kz, .int .i64 (crashF F x).2.2]) ∧ OwnT encEvt 43 7 az nz kz (crashF F x).2.1 G ∧ FarmR p (crashF F x).1 M' ∧ Sat W w' (G :: M' :: H :: F0) := by
  by_cases hb : busyW F (wAt F x) = true
  · unfold busyW at hb
    obtain ⟨h1, h2⟩ := (Bool.and_eq_true _ _).mp hb
    exact f_crash_b hR hF hst x hx (hF.wmem hx) (of_decide_eq_true h1) (fun s hs => by rw [← h2]; unfold jobAt; rw [getD_some hs]) hS
  · exact f_crash_f hR hF hst x hx (hF.wmem hx) (fun h1 s hs h2 => hb (by unfold busyW jobAt; rw [getD_some hs, h2, decide_eq_true h1]; rfl)) hS
theorem f_cancel_r {p : Nat} {F : FS} {M : Chunk} {F0 : List Chunk} (hR : FarmR p F M) {K : Int} {j : JS} (hF : FW F K) (hst : StOk F.st K) (x : Int) (hx : 0 ≤ x ∧ x < 64) (hj : F.jobs[x.toNat]? = some j) (ha : j.added = true) (hrun : j.running = true) (hS : Sat W w (M :: H :: F0)) :
    Calls Tryz.prog 21 #[.pointer (some ⟨p, 0, none⟩), .int .i64 x] w fun e w' => ∃ (az : Option Addr) (nz kz : Nat) (G M' : Chunk), e = .returned (.tuple #[.slice az nz kz, .int .i64 (cancelF F x).2.2]) ∧ OwnT encEvt 43 7 az nz kz (cancelF F x).2.1 G ∧ FarmR p (cancelF F x).1 M' ∧ Sat W w' (G :: M' :: H :: F0) := by
  obtain ⟨wa, aa, da, wn, wk, an, ak, dn, dk, q, xs, ap, dp, Wc, Ac, Dc, Qc, acs, dcs, jcs, rfl, hOw, hOa, hOd, hAs, hDs, hQ, hJs, hxl⟩ := hR
  have hS : Sat W _ ((Tri p 86 (preF F.cfg wa wn wk aa an ak da dn dk q) (xs.flatMap encFJob) (encStt F.st)) :: Wc :: Ac :: Dc :: acs.flatten :: dcs.flatten :: Qc :: jcs.flatten :: H :: F0) := Sat.perm hS (by simp)
  have hwl := hOw.len; have hwk := hOw.le; have hal := hOa.len; have hak := hOa.le; have hdl := hOd.len; have hdk := hOd.le; have has1 := hAs.1; have hds1 := hDs.1; have hjs1 := hJs.1
  have hal_ := hF.al; have hdl_ := hF.dl; have hjl_ := hF.jl; have hn_ := hF.n; have hk_ := hF.k; have hs1 := hst.a; have hs2 := hst.b; have hs3 := hst.c; have hs4 := hst.d; have hs5 := hst.e; have hs6 := hst.f; have hs7 := hst.g
  obtain ⟨_, hb0, _⟩ := hF.j j (List.mem_of_getElem? hj); obtain ⟨hBW, _, hb1, hb2⟩ := hb0 ha
  obtain ⟨x_1, hx_2⟩ := at_some hxl (k := (x.toNat)) (by omega)
  obtain ⟨s_3, c_4, hs_5, hc_6, hJ_7⟩ := Obs.get hJs hx_2
  obtain rfl : s_3 = j := Option.some.inj (hs_5.symm.trans hj)
  obtain ⟨ta_7, tn_7, tk_7, tl_7, b_7, T_7, Mb_7, rfl, rfl, hT_7, hD_7, hV_7, hB_7⟩ := hJ_7.open ha
  have hS_8 := (hS.pick 7 rfl)
  have hS_9 := Sat.openN (A := []) (x.toNat) hc_6 hS_8
  have hS_10 : Sat W _ (T_7 :: Mb_7 :: (jcs.eraseIdx (x.toNat)).flatten :: (Tri p 86 (preF F.cfg wa wn wk aa an ak da dn dk q) (xs.flatMap encFJob) (encStt F.st)) :: Wc :: Ac :: Dc :: acs.flatten :: dcs.flatten :: Qc :: H :: F0) := Sat.perm hS_9 (by simp)
  have hn_ta_7 := hT_7.len; have hl_ta_7 := hT_7.le; have hm_ta_7 := congrArg List.length hV_7; rw [List.length_map] at hm_ta_7
  have hj := hs_5
  refine callsA 68 Tryz.func21 rfl ?_
  refine seqE <| regionE <| pu2 <| nilO <| thenK_n <| seqE <| seqE <| regionE <| pu1 ?_
  have hS_11 := (hS_10.pick 3 rfl)
  refine cX Tryz.call35 (f_zero (by omega) hS_11) ?_
  rintro _ w_12 ⟨rfl, hS_13⟩
  refine pu5 ?_
  refine sD 13 (x < 0) (fun hc_14 => ?_) (fun hc_14 => ?_)
  · refine pu13 <| nilO <| thenK_n <| cTt <| seqE <| regionE <| pu2 <| nilO <| thenK_n <| retE <| thenK_r <| retT [.slice none 0 0, .int .i64 16] <| ?_
    omega
  refine pu4 ?_
  refine sD 17 (x ≥ 64) (fun hc_15 => ?_) (fun hc_15 => ?_)
  · refine pu9 <| nilO <| thenK_n <| cTt <| seqE <| regionE <| pu2 <| nilO <| thenK_n <| retE <| thenK_r <| retT [.slice none 0 0, .int .i64 16] <| ?_
    omega
  refine pu4 <| gY ?_
  refine sIdxA (b := p) (off := 12) x (x.toNat) Tryz.runUnderlying84 Tryz.sizeOf83 ?_
  refine pu1 <| gY ?_
  refine sLp hS_13 (ptr_up 0 rfl (tri_el (sz := 5) (n0 := 12) (fun _ => rfl) hx_2)) 0 (.bool true) (Tryz.isAgg4 _) ?_
  refine pu2 <| nilO <| thenK_n <| cFf <| skipE <| thenK_n <| seqE <| seqE <| regionE <| pu4 ?_
  refine sIdxA (b := p) (off := 12) x (x.toNat) Tryz.runUnderlying84 Tryz.sizeOf83 ?_
  refine pu1 ?_
  refine sLp hS_13 (ptr_up 0 rfl (tri_el (sz := 5) (n0 := 12) (fun _ => rfl) hx_2)) 1 (.bool s_3.running) (Tryz.isAgg4 _) ?_
  refine pu1 <| nilO <| thenK_n <| ?_
  refine cF _ (congrArg Bool.not hrun) ?_
  refine skipE <| thenK_n <| seqE <| regionE <| pu4 ?_
  refine sIdxA (b := p) (off := 12) x (x.toNat) Tryz.runUnderlying84 Tryz.sizeOf83 ?_
  refine pu1 ?_
  refine sTel (enc := encFJob) (sz := 5) hS_13 (fun _ => rfl) 0 (x.toNat) 12 1 (⟨true, s_3.running, s_3.band, ⟨ta_7, tn_7, tk_7, tl_7⟩, some ⟨b_7, 0, none⟩⟩ : FJob) (⟨true, false, s_3.band, ⟨ta_7, tn_7, tk_7, tl_7⟩, some ⟨b_7, 0, none⟩⟩ : FJob) hx_2 (.bool false) [.bool false] Tryz.sizeOf4 ?_
  intro w_16 hS_17
  refine nilO <| thenK_n <| seqE <| regionE <| pu3 ?_
  refine sLp hS_17 (ptr_up 0 rfl tri_pre) 11 (.pointer (some ⟨q, 0, none⟩)) (Tryz.isAgg80 _) ?_
  refine pu1 ?_
  have hS_18 := (hS_17.pick 9 rfl)
  refine cX Tryz.call40 (iq_remove hQ x (Sat.flat1 hS_18)) ?_
  rintro _ w_19 ⟨M_22, v_24, rfl, hR_23, hS_20⟩
  have hS_21 := Sat.unflat1 hS_20
  refine nilO <| thenK_n <| seqE <| seqE <| regionE <| pu1 <| nilO <| thenK_n <| blockE ?_
  have hS_25 := (((hS_21.pick 4 rfl).pick 4 rfl).pick 4 rfl)
  have hS_26 : Sat W _ ((T_7 ++ Mb_7) :: (jcs.eraseIdx (x.toNat)).flatten :: M_22 :: (Tri p 86 (preF F.cfg wa wn wk aa an ak da dn dk q) ((xs.set (x.toNat) (⟨true, false, s_3.band, ⟨ta_7, tn_7, tk_7, tl_7⟩, some ⟨b_7, 0, none⟩⟩ : FJob)).flatMap encFJob) (encStt F.st)) :: Wc :: Ac :: Dc :: acs.flatten :: dcs.flatten :: H :: F0) := Sat.perm (show Sat W _ (T_7 :: Mb_7 :: (jcs.eraseIdx (x.toNat)).flatten :: M_22 :: (Tri p 86 (preF F.cfg wa wn wk aa an ak da dn dk q) ((xs.set (x.toNat) (⟨true, false, s_3.band, ⟨ta_7, tn_7, tk_7, tl_7⟩, some ⟨b_7, 0, none⟩⟩ : FJob)).flatMap encFJob) (encStt F.st)) :: Wc :: Ac :: Dc :: acs.flatten :: dcs.flatten :: H :: F0) from hS_25) (by simp)
  have hS_27 := Sat.shutN (d := T_7 ++ Mb_7) (A := []) (x.toNat) hc_6 hS_26
  have hL_28 := Obs.set3 (p' := (⟨true, false, s_3.band, ⟨ta_7, tn_7, tk_7, tl_7⟩, some ⟨b_7, 0, none⟩⟩ : FJob)) hJs hx_2 (JobM.mk (s := { s_3 with running := false }) ha hT_7 hD_7 hV_7 hB_7)
  refine loopA (γ := Nat × (List DS) × (List Chunk)) (fun ⟨i, dqi, dci⟩ => [(0, .pointer (some ⟨p, 0, none⟩)), (1, .int .i64 x), (6, .int .i64 ((i : Nat) : Int))]) (fun ⟨i, dqi, dci⟩ w => Sat W w ((jcs.set (x.toNat) (T_7 ++ Mb_7)).flatten :: M_22 :: (Tri p 86 (preF F.cfg wa wn wk aa an ak da dn dk q) ((xs.set (x.toNat) (⟨true, false, s_3.band, ⟨ta_7, tn_7, tk_7, tl_7⟩, some ⟨b_7, 0, none⟩⟩ : FJob)).flatMap encFJob) (encStt F.st)) :: Wc :: Ac :: Dc :: acs.flatten :: dci.flatten :: H :: F0) ∧ i ≤ dn ∧ (Obs DqR dp dqi dci) ∧ (dqi = (F.dq.take i).map (rmD x) ++ F.dq.drop i)) (fun ⟨i, dqi, dci⟩ => dn - i) (0, F.dq, dcs) ⟨hS_27, by omega, hDs, by simp⟩ ?_
  rintro ⟨i, dqi, dci⟩ ρ w_29 ⟨hS_30, hi, hDi, hde⟩
  have hds2 := hDi.1
  refine seqE <| seqE <| regionE <| pu4 ?_
  refine sLp hS_30 (ptr_up 2 rfl tri_pre) 10 (.slice da dn dk) (Tryz.isAgg79 _) ?_
  refine pu2 <| nilO <| thenK_n <| ?_
  refine cD (((i : Nat) : Int) < ((dn : Nat) : Int)) (fun hc_31 => ?_) (fun hc_31 => ?_)
  · refine skipE <| thenK_n <| seqE <| blockE <| regionE <| pu3 ?_
    refine sLp hS_30 (ptr_up 2 rfl tri_pre) 10 (.slice da dn dk) (Tryz.isAgg79 _) ?_
    refine pu1 ?_
    refine sIdxO hOd ((i : Nat) : Int) i Tryz.runUnderlying79 Tryz.sizeOf90 ?_
    intro x_32 b_33 o_34 hx_35 hp_36 hq_37
    refine sLp hS_30 (hp_36.up 5 rfl) 0 (.pointer (some ⟨x_32, 0, none⟩)) (Tryz.isAgg90 _) ?_
    refine pu1 ?_
    obtain ⟨s_38, c_39, hs_40, hc_41, hR_42⟩ := Obs.get hDi hx_35
    have hS_44 := (hS_30.pick 7 rfl)
    have hS_43 := Sat.openN (A := []) i hc_41 hS_44
    refine cX Tryz.call41 (dq_remove hR_42 x (Sat.flat1 hS_43)) ?_
    rintro _ w_45 ⟨M_48, v_50, rfl, hR_49, hS_46⟩
    have hS_47 := Sat.unflat1 hS_46
    have hS_51 := ((hS_47.pick 1 rfl).pick 1 rfl)
    have hS_52 := Sat.shutN (d := M_48) (A := []) i hc_41 hS_51
    have hL_53 := Obs.set hDi hx_35 hR_49
    refine nilO <| blockK_n <| thenK_n <| regionE <| pu1 ?_
    refine sAdd ((i : Nat) : Int) 1 ?_
    refine pu1 <| nilO <| thenK_n <| ?_
    have hS_54 : Sat W _ (M_22 :: (Tri p 86 (preF F.cfg wa wn wk aa an ak da dn dk q) ((xs.set (x.toNat) (⟨true, false, s_3.band, ⟨ta_7, tn_7, tk_7, tl_7⟩, some ⟨b_7, 0, none⟩⟩ : FJob)).flatMap encFJob) (encStt F.st)) :: Wc :: Ac :: Dc :: acs.flatten :: (dci.set i M_48).flatten :: (jcs.set (x.toNat) (T_7 ++ Mb_7)).flatten :: H :: F0) := ((((((hS_52.pick 7 rfl).pick 7 rfl).pick 7 rfl).pick 7 rfl).pick 7 rfl).pick 7 rfl)
    have hS_55 := (hS_54.pick 7 rfl)
    exact ⟨(i + 1, (dqi.set i ({ s_38 with l := without x s_38.l } : DS)), (dci.set i M_48)), by first | omega | (dsimp only; omega), alA, hS_55, by omega, hL_53, (rm_step hde hs_40)⟩
  refine exitE <| thenK_x <| thenK_x <| blockK_x <| thenK_n <| seqE <| regionE <| pu2 ?_
  refine sBS hS_30 #[.int .i64 2, .int .i64 0, .int .i64 0, .int .i64 x, .int .i64 0, .int .i64 0, .int .i64 0] Tryz.runUnderlying26 Tryz.sizeOf43 Tryz.zeroValue43 ?_
  intro b_56 w_57 hS_58
  refine pu2 <| nilO <| thenK_n <| retE <| retT [.slice (some ⟨b_56, 0, none⟩) 1 1, .int .i64 0] <| ?_
  have hO_59 := OwnT.blk (enc := encEvt) (sz := 7) (b := b_56) (c := #[.int .i64 2, .int .i64 0, .int .i64 0, .int .i64 x, .int .i64 0, .int .i64 0, .int .i64 0]) (E := 43) (xs := [(⟨2, 0, 0, x, 0, 0, 0⟩ : Evt)]) (fun _ => rfl) 1 rfl rfl rfl (by omega)
  have hS_60 : Sat W _ (Wc :: Ac :: Dc :: acs.flatten :: dci.flatten :: M_22 :: [(b_56, .cells #[.int .i64 2, .int .i64 0, .int .i64 0, .int .i64 x, .int .i64 0, .int .i64 0, .int .i64 0] 43 (0, 0))] :: (jcs.set (x.toNat) (T_7 ++ Mb_7)).flatten :: (Tri p 86 (preF F.cfg wa wn wk aa an ak da dn dk q) ((xs.set (x.toNat) (⟨true, false, s_3.band, ⟨ta_7, tn_7, tk_7, tl_7⟩, some ⟨b_7, 0, none⟩⟩ : FJob)).flatMap encFJob) (encStt F.st)) :: H :: F0) := ((((((hS_58.pick 2 rfl).pick 8 rfl).pick 8 rfl).pick 8 rfl).pick 8 rfl).pick 8 rfl)
  have hS_61 := ((hS_60.pick 8 rfl).pick 7 rfl)
  have hS_62 : Sat W _ ([(b_56, .cells #[.int .i64 2, .int .i64 0, .int .i64 0, .int .i64 x, .int .i64 0, .int .i64 0, .int .i64 0] 43 (0, 0))] :: ((Tri p 86 (preF F.cfg wa wn wk aa an ak da dn dk q) ((xs.set (x.toNat) (⟨true, false, s_3.band, ⟨ta_7, tn_7, tk_7, tl_7⟩, some ⟨b_7, 0, none⟩⟩ : FJob)).flatMap encFJob) (encStt F.st)) ++ (Wc ++ (Ac ++ (Dc ++ (acs.flatten ++ (dci.flatten ++ (M_22 ++ (jcs.set (x.toNat) (T_7 ++ Mb_7)).flatten))))))) :: H :: F0) := Sat.perm (show Sat W _ ([(b_56, .cells #[.int .i64 2, .int .i64 0, .int .i64 0, .int .i64 x, .int .i64 0, .int .i64 0, .int .i64 0] 43 (0, 0))] :: (Tri p 86 (preF F.cfg wa wn wk aa an ak da dn dk q) ((xs.set (x.toNat) (⟨true, false, s_3.band, ⟨ta_7, tn_7, tk_7, tl_7⟩, some ⟨b_7, 0, none⟩⟩ : FJob)).flatMap encFJob) (encStt F.st)) :: Wc :: Ac :: Dc :: acs.flatten :: dci.flatten :: M_22 :: (jcs.set (x.toNat) (T_7 ++ Mb_7)).flatten :: H :: F0) from hS_61) (by simp)
  have he : cancelF F x = ((⟨F.cfg, F.ws, F.ar, dqi, ({ F.q with bs := F.q.bs.map (without x) } : QS), (F.jobs.set (x.toNat) ({ s_3 with running := false })), F.st⟩ : FS), [(⟨2, 0, 0, x, 0, 0, 0⟩ : Evt)], 0) := (cancel_at (by omega) hj ha hrun).trans (by rw [hde, List.take_of_length_le (by omega), List.drop_of_length_le (by omega), List.append_nil])
  rw [he]; exact ⟨_, _, _, _, _, rfl, hO_59, ⟨_, _, _, _, _, _, _, _, _, _, _, _, _, _, _, _, _, _, _, _, rfl, hOw, hOa, hOd, hAs, hDi, hR_23, hL_28, (set_len hxl)⟩, hS_62⟩
theorem f_cancel_n {p : Nat} {F : FS} {M : Chunk} {F0 : List Chunk} (hR : FarmR p F M) {K : Int} (hF : FW F K) (hst : StOk F.st K) (x : Int) (hno : 0 ≤ x ∧ x < 64 → ∀ s, F.jobs[x.toNat]? = some s → s.added = true → ¬ s.running = true) (hS : Sat W w (M :: H :: F0)) :
    Calls Tryz.prog 21 #[.pointer (some ⟨p, 0, none⟩), .int .i64 x] w fun e w' => ∃ (az : Option Addr) (nz kz : Nat) (G M' : Chunk), e = .returned (.tuple #[.slice az nz kz, .int .i64 (cancelF F x).2.2]) ∧ OwnT encEvt 43 7 az nz kz (cancelF F x).2.1 G ∧ FarmR p (cancelF F x).1 M' ∧ Sat W w' (G :: M' :: H :: F0) := by
  obtain ⟨wa, aa, da, wn, wk, an, ak, dn, dk, q, xs, ap, dp, Wc, Ac, Dc, Qc, acs, dcs, jcs, rfl, hOw, hOa, hOd, hAs, hDs, hQ, hJs, hxl⟩ := hR
  have hS : Sat W _ ((Tri p 86 (preF F.cfg wa wn wk aa an ak da dn dk q) (xs.flatMap encFJob) (encStt F.st)) :: Wc :: Ac :: Dc :: acs.flatten :: dcs.flatten :: Qc :: jcs.flatten :: H :: F0) := Sat.perm hS (by simp)
  have hwl := hOw.len; have hwk := hOw.le; have hal := hOa.len; have hak := hOa.le; have hdl := hOd.len; have hdk := hOd.le; have has1 := hAs.1; have hds1 := hDs.1; have hjs1 := hJs.1
  have hal_ := hF.al; have hdl_ := hF.dl; have hjl_ := hF.jl; have hn_ := hF.n; have hk_ := hF.k; have hs1 := hst.a; have hs2 := hst.b; have hs3 := hst.c; have hs4 := hst.d; have hs5 := hst.e; have hs6 := hst.f; have hs7 := hst.g
  refine callsA 68 Tryz.func21 rfl ?_
  refine seqE <| regionE <| pu2 <| nilO <| thenK_n <| seqE <| seqE <| regionE <| pu1 ?_
  refine cX Tryz.call35 (f_zero (by omega) hS) ?_
  rintro _ w_1 ⟨rfl, hS_2⟩
  refine pu5 ?_
  refine sD 13 (x < 0) (fun hc_3 => ?_) (fun hc_3 => ?_)
  · refine pu13 <| nilO <| thenK_n <| cTt <| seqE <| regionE <| pu2 <| nilO <| thenK_n <| retE <| thenK_r <| retT [.slice none 0 0, .int .i64 16] <| ?_
    have hS_4 := Sat.nilc hS_2
    have hS_5 : Sat W _ ([] :: ((Tri p 86 (preF F.cfg wa wn wk aa an ak da dn dk q) (xs.flatMap encFJob) (encStt F.st)) ++ (Wc ++ (Ac ++ (Dc ++ (acs.flatten ++ (dcs.flatten ++ (Qc ++ jcs.flatten))))))) :: H :: F0) := Sat.perm (show Sat W _ ([] :: (Tri p 86 (preF F.cfg wa wn wk aa an ak da dn dk q) (xs.flatMap encFJob) (encStt F.st)) :: Wc :: Ac :: Dc :: acs.flatten :: dcs.flatten :: Qc :: jcs.flatten :: H :: F0) from hS_4) (by simp)
    have he : cancelF F x = (F, [], 16) := cancel_unk (by omega)
    rw [he]; exact ⟨_, _, _, _, _, rfl, (OwnT.nil (enc := encEvt) (E := 43) (sz := 7) (fun _ => rfl)), ⟨_, _, _, _, _, _, _, _, _, _, _, _, _, _, _, _, _, _, _, _, rfl, hOw, hOa, hOd, hAs, hDs, hQ, hJs, hxl⟩, hS_5⟩
  refine pu4 ?_
  refine sD 17 (x ≥ 64) (fun hc_6 => ?_) (fun hc_6 => ?_)
  · refine pu9 <| nilO <| thenK_n <| cTt <| seqE <| regionE <| pu2 <| nilO <| thenK_n <| retE <| thenK_r <| retT [.slice none 0 0, .int .i64 16] <| ?_
    have hS_7 := Sat.nilc hS_2
    have hS_8 : Sat W _ ([] :: ((Tri p 86 (preF F.cfg wa wn wk aa an ak da dn dk q) (xs.flatMap encFJob) (encStt F.st)) ++ (Wc ++ (Ac ++ (Dc ++ (acs.flatten ++ (dcs.flatten ++ (Qc ++ jcs.flatten))))))) :: H :: F0) := Sat.perm (show Sat W _ ([] :: (Tri p 86 (preF F.cfg wa wn wk aa an ak da dn dk q) (xs.flatMap encFJob) (encStt F.st)) :: Wc :: Ac :: Dc :: acs.flatten :: dcs.flatten :: Qc :: jcs.flatten :: H :: F0) from hS_7) (by simp)
    have he : cancelF F x = (F, [], 16) := cancel_unk (by omega)
    rw [he]; exact ⟨_, _, _, _, _, rfl, (OwnT.nil (enc := encEvt) (E := 43) (sz := 7) (fun _ => rfl)), ⟨_, _, _, _, _, _, _, _, _, _, _, _, _, _, _, _, _, _, _, _, rfl, hOw, hOa, hOd, hAs, hDs, hQ, hJs, hxl⟩, hS_8⟩
  refine pu4 <| gY ?_
  obtain ⟨x_9, hx_10⟩ := at_some hxl (k := (x.toNat)) (by omega)
  obtain ⟨s_11, cs_11, hss_11, hcs_11, hJs_11⟩ := Obs.get hJs hx_10; obtain ⟨has_11, hrs_11, hbs_11, hns_11⟩ := hJs_11.fields; have hjos_11 := hF.j s_11 (List.mem_of_getElem? hss_11)
  have hno_x_9 : x_9.added = true → ¬ x_9.running = true := fun h1 h2 => hno (by omega) _ hss_11 (has_11 ▸ h1) (hrs_11 ▸ h2)
  refine sIdxA (b := p) (off := 12) x (x.toNat) Tryz.runUnderlying84 Tryz.sizeOf83 ?_
  refine pu1 <| gY ?_
  refine sLp hS_2 (ptr_up 0 rfl (tri_el (sz := 5) (n0 := 12) (fun _ => rfl) hx_10)) 0 (.bool x_9.added) (Tryz.isAgg4 _) ?_
  refine pu2 <| nilO <| thenK_n <| ?_
  refine cBn x_9.added (fun hc_12 => ?_) (fun hc_12 => ?_)
  rotate_left
  · refine seqE <| regionE <| pu2 <| nilO <| thenK_n <| retE <| thenK_r <| retT [.slice none 0 0, .int .i64 16] <| ?_
    have hS_16 := Sat.nilc hS_2
    have hS_17 : Sat W _ ([] :: ((Tri p 86 (preF F.cfg wa wn wk aa an ak da dn dk q) (xs.flatMap encFJob) (encStt F.st)) ++ (Wc ++ (Ac ++ (Dc ++ (acs.flatten ++ (dcs.flatten ++ (Qc ++ jcs.flatten))))))) :: H :: F0) := Sat.perm (show Sat W _ ([] :: (Tri p 86 (preF F.cfg wa wn wk aa an ak da dn dk q) (xs.flatMap encFJob) (encStt F.st)) :: Wc :: Ac :: Dc :: acs.flatten :: dcs.flatten :: Qc :: jcs.flatten :: H :: F0) from hS_16) (by simp)
    have he : cancelF F x = (F, [], 16) := cancel_not hss_11 (has_11 ▸ hc_12)
    rw [he]; exact ⟨_, _, _, _, _, rfl, (OwnT.nil (enc := encEvt) (E := 43) (sz := 7) (fun _ => rfl)), ⟨_, _, _, _, _, _, _, _, _, _, _, _, _, _, _, _, _, _, _, _, rfl, hOw, hOa, hOd, hAs, hDs, hQ, hJs, hxl⟩, hS_17⟩
  refine skipE <| thenK_n <| seqE <| seqE <| regionE <| pu4 ?_
  refine sIdxA (b := p) (off := 12) x (x.toNat) Tryz.runUnderlying84 Tryz.sizeOf83 ?_
  refine pu1 ?_
  refine sLp hS_2 (ptr_up 0 rfl (tri_el (sz := 5) (n0 := 12) (fun _ => rfl) hx_10)) 1 (.bool x_9.running) (Tryz.isAgg4 _) ?_
  refine pu1 <| nilO <| thenK_n <| ?_
  have hc_13 : ¬ (x_9.running = true) := hno_x_9 hc_12
  refine cT _ (congrArg Bool.not (Bool.eq_false_iff.2 hc_13)) ?_
  refine seqE <| regionE <| pu2 <| nilO <| thenK_n <| retE <| thenK_r <| retT [.slice none 0 0, .int .i64 18] <| ?_
  have hS_14 := Sat.nilc hS_2
  have hS_15 : Sat W _ ([] :: ((Tri p 86 (preF F.cfg wa wn wk aa an ak da dn dk q) (xs.flatMap encFJob) (encStt F.st)) ++ (Wc ++ (Ac ++ (Dc ++ (acs.flatten ++ (dcs.flatten ++ (Qc ++ jcs.flatten))))))) :: H :: F0) := Sat.perm (show Sat W _ ([] :: (Tri p 86 (preF F.cfg wa wn wk aa an ak da dn dk q) (xs.flatMap encFJob) (encStt F.st)) :: Wc :: Ac :: Dc :: acs.flatten :: dcs.flatten :: Qc :: jcs.flatten :: H :: F0) from hS_14) (by simp)
  have he : cancelF F x = (F, [], 18) := cancel_fin (by omega) hss_11 (has_11 ▸ hc_12) (hrs_11 ▸ hc_13)
  rw [he]; exact ⟨_, _, _, _, _, rfl, (OwnT.nil (enc := encEvt) (E := 43) (sz := 7) (fun _ => rfl)), ⟨_, _, _, _, _, _, _, _, _, _, _, _, _, _, _, _, _, _, _, _, rfl, hOw, hOa, hOd, hAs, hDs, hQ, hJs, hxl⟩, hS_15⟩
theorem f_cancel {W w : World} {p : Nat} {F : FS} {M H : Chunk} {F0 : List Chunk} (hR : FarmR p F M) {K : Int} (hF : FW F K) (hst : StOk F.st K) (x : Int)  (hS : Sat W w (M :: H :: F0)) :
    Calls Tryz.prog 21 #[.pointer (some ⟨p, 0, none⟩), .int .i64 x] w fun e w' => ∃ (az : Option Addr) (nz kz : Nat) (G M' : Chunk), e = .returned (.tuple #[.slice az nz kz, .int .i64 (cancelF F x).2.2]) ∧ OwnT encEvt 43 7 az nz kz (cancelF F x).2.1 G ∧ FarmR p (cancelF F x).1 M' ∧ Sat W w' (G :: M' :: H :: F0) := by
  by_cases hb : 0 ≤ x ∧ x < 64 ∧ (jobAt F x).added = true ∧ (jobAt F x).running = true
  · obtain ⟨h1, h2, h3, h4⟩ := hb
    obtain ⟨j, hj⟩ := at_some hF.jl (k := x.toNat) (by omega)
    unfold jobAt at h3 h4; rw [getD_some hj] at h3 h4
    exact f_cancel_r hR hF hst x ⟨h1, h2⟩ hj h3 h4 hS
  · by_cases h0 : 0 ≤ x ∧ x < 64
    · exact f_cancel_n hR hF hst x (fun _ s hs h1 h2 => hb ⟨h0.1, h0.2, by unfold jobAt; rw [getD_some hs]; exact ⟨h1, h2⟩⟩) hS
    · exact f_cancel_n hR hF hst x (fun h1 => absurd h1 h0) hS
end Go.Proofs.YtimkhljglpookaaGreat
