import Derived.Test.YtegmennaekipaaaPf3
namespace Go.Proofs.Ytegmennaekipaaa
open Go Go.E
set_option linter.unusedVariables false
set_option linter.unusedSimpArgs false
set_option linter.unnecessarySimpa false
set_option maxRecDepth 100000
set_option maxHeartbeats 2000000
variable {W w : World} {H : Chunk} {F : List Chunk}

theorem set_reset {l : List AS} {k : Nat} {a : AS} (h : l[k]? = some a) (hz : a.used = 0 ∧ a.marks = []) : l.set k (resetA a) = l := by
  have e : resetA a = a := by
    cases a with
    | mk c u h m => obtain ⟨h1, h2⟩ := hz; dsimp only at h1 h2; subst h1; subst h2; rfl
  rw [e]; exact set_same h
theorem pf_step_h {p : Nat} {F : FS} {M : Chunk} {F0 : List Chunk} (hR : FarmP p F M) {K : Int} (hF : FI F K) {v0 : Wkr} (x : Int) (c : Int) (hx : 0 ≤ x ∧ x < F.ws.length) (hv0 : F.ws[x.toNat]? = some v0) (hh : Holds v0) (h12 : F12 F) (hK : K + 1 ≤ 4096) (hS : Sat W w (M :: H :: F0)) :
    Calls Try.prog 23 #[.pointer (some ⟨p, 0, none⟩), .int .i64 x, .int .i64 c] w fun e w' => ∃ (az : Option Addr) (nz kz : Nat) (G M' : Chunk), e = .returned (.tuple #[.slice az nz kz, .int .i64 (stepF F x c).2.2]) ∧ OwnT encEvt 50 7 az nz kz (stepF F x c).2.1 G ∧ FarmP p (stepF F x c).1 M' ∧ Sat W w' (G :: M' :: H :: F0) := by
  obtain ⟨wb, wo, wn, wk, q, m, xs, jm, Wc, Qc, Jc, acs, dcs, jcs, rfl, hOw, hco, hAs, hDs, hQ, hM, hJs⟩ := hR
  have hS_1 : Sat W _ ((Tri p 81 (preP F.cfg wb wo wn wk q m) (([] : List Ref).flatMap encRef) (encStt F.st)) :: Wc :: acs.flatten :: dcs.flatten :: Qc :: Jc :: jcs.flatten :: H :: F0) := Sat.perm hS (by simp)
  have hwl := hOw.len; have hwk := hOw.le; have hcl := core_len hco; have has1 := hAs.1; have hds1 := hDs.1; rw [List.length_map] at has1 hds1; have hjl1 := hJs.l
  have hs1 := hF.st.a; have hs2 := hF.st.b; have hs3 := hF.st.c; have hs4 := hF.st.d; have hs5 := hF.st.e; have hs6 := hF.st.f; have hs7 := hF.st.g; have hKK := hF.fw.k; have hn9 := hF.fw.n; have hal9 := hF.fw.al; have hdl9 := hF.fw.dl
  have hph0 : v0.phase = 1 ∨ v0.phase = 2 ∨ v0.phase = 3 := hh
  refine callsA 101 Try.func23 rfl ?_
  refine seqE <| regionE <| pu2 <| nilO <| thenK_n <| seqE <| seqE <| regionE <| pu2 ?_
  have hS_2 : Sat W _ (((Tri p 81 (preP F.cfg wb wo wn wk q m) (([] : List Ref).flatMap encRef) (encStt F.st)) ++ (Wc ++ (acs.flatten ++ (dcs.flatten ++ (Qc ++ (Jc ++ jcs.flatten)))))) :: H :: F0) := Sat.perm (show Sat W _ ((Tri p 81 (preP F.cfg wb wo wn wk q m) (([] : List Ref).flatMap encRef) (encStt F.st)) :: Wc :: acs.flatten :: dcs.flatten :: Qc :: Jc :: jcs.flatten :: H :: F0) from hS_1) (by simp)
  have hRx_3 : FarmP p F ((Tri p 81 (preP F.cfg wb wo wn wk q m) (([] : List Ref).flatMap encRef) (encStt F.st)) ++ (Wc ++ (acs.flatten ++ (dcs.flatten ++ (Qc ++ (Jc ++ jcs.flatten)))))) := ⟨_, _, _, _, _, _, _, _, _, _, _, _, _, _, rfl, hOw, hco, hAs, hDs, hQ, hM, hJs⟩
  refine cX Try.call51 (pf_worker hRx_3 x (Sat.flat1 hS_2)) ?_
  rintro _ w_4 ⟨rfl, h_5⟩
  have hS_6 := Sat.unflat1 h_5
  have hS_7 : Sat W _ ((Tri p 81 (preP F.cfg wb wo wn wk q m) (([] : List Ref).flatMap encRef) (encStt F.st)) :: Wc :: acs.flatten :: dcs.flatten :: Qc :: Jc :: jcs.flatten :: H :: F0) := Sat.perm hS_6 (by simp)
  refine pu1 <| nilO <| thenK_n <| ?_
  have hc_8 : 0 ≤ x ∧ x < ((F.ws.length : Nat) : Int) := ⟨by omega, by omega⟩
  refine cF _ (congrArg Bool.not (decide_eq_true hc_8)) ?_
  refine skipE <| thenK_n <| seqE <| regionE <| pu3 ?_
  refine sLp hS_7 (ptr_up 0 rfl tri_pre) 8 (.slice (some ⟨wb, wo, none⟩) wn wk) (Try.isAgg79 _) ?_
  refine pu1 ?_
  refine sIdxO hOw x (x).toNat Try.runUnderlying79 Try.sizeOf89 ?_
  intro x_9 b_10 o_11 hx_12 hp_13 hq_14
  obtain ⟨rfl, rfl⟩ := some_addr hq_14
  obtain ⟨v_15, hv_15, hv_150, hv_151, hv_152, hv_153, hv_154⟩ := core_at hco hx_12
  have hvv_v_15 : v_15 = v0 := Option.some.inj (hv_15.symm.trans hv0); rw [hvv_v_15] at hv_150 hv_151 hv_152 hv_153 hv_154
  refine pu1 <| nilO <| thenK_n <| seqE <| seqE <| regionE <| pu3 ?_
  refine sLp hS_7 (hp_13.up 1 rfl) 0 (.int .i64 x_9.phase) (Try.isAgg3 _) ?_
  refine pu1 <| nilO <| thenK_n <| ?_
  refine cE x_9.phase 4 (fun hc_16 => ?_) (fun hc_16 => ?_)
  · refine seqE <| regionE <| pu2 <| nilO <| thenK_n <| retE <| thenK_r <| retT [.slice none 0 0, .int .i64 20] <| ?_
    omega
  refine skipE <| thenK_n <| seqE <| seqE <| regionE <| pu1 ?_
  have hS_17 := (hS_7.pick 1 rfl)
  refine cX Try.call52 (p_holds (x := x_9) hp_13 hS_17) ?_
  rintro _ w_18 ⟨rfl, hS_19⟩
  refine nilO <| thenK_n <| ?_
  have hc_20 : x_9.phase ≠ 0 ∧ x_9.phase ≠ 4 := (by omega)
  refine cT _ (decide_eq_true hc_20) ?_
  refine seqE <| seqE ?_
  obtain ⟨j, hj, ha, hz⟩ := hF.h.h _ _ hv0 hh; have hjo := hF.fw.j j (List.mem_of_getElem? hj); obtain ⟨hBW, hdl, hb1, hb2⟩ := hjo.b ha; have hjn := hjo.n; have hwo := hF.fw.w v0 (List.mem_of_getElem? hv0); have hk0 := hwo.h; have hr0 := hwo.r; have hlt := held_lt hBW hz; have hph : v0.phase = 1 ∨ v0.phase = 2 ∨ v0.phase = 3 := hh
  obtain ⟨nj_21, bj_21, cj_21, hjmj_21, hjcj_21, hJj_21, hgj_21⟩ := JobsP.get hJs (k := v0.heldJob) ⟨by omega, by omega⟩ hj ha
  obtain ⟨taj_21, tnj_21, tkj_21, tlj_21, bbj_21, Tj_21, Mbj_21, rfl, hTj_21, hDj_21, hVj_21, hBj_21, _, hrj_21⟩ := hJj_21.open
  have hS_22 := (hS_19.pick 6 rfl)
  have hS_23 := Sat.openN (A := []) nj_21 hjcj_21 hS_22
  have hS_24 : Sat W _ ([(bj_21, .cells #[.slice taj_21 tnj_21 tkj_21, .int .i64 j.band, .pointer (some ⟨bbj_21, 0, none⟩), .bool (canc j)] 97 (0, 0))] :: Tj_21 :: Mbj_21 :: (jcs.eraseIdx nj_21).flatten :: Wc :: (Tri p 81 (preP F.cfg wb wo wn wk q m) (([] : List Ref).flatMap encRef) (encStt F.st)) :: acs.flatten :: dcs.flatten :: Qc :: Jc :: H :: F0) := Sat.perm hS_23 (by simp)
  have hn_taj_21 := hTj_21.len; have hl_taj_21 := hTj_21.le; have hm_taj_21 := congrArg List.length hVj_21; rw [List.length_map] at hm_taj_21
  refine drawE [9] [(3, ⟨p, 10, none⟩, .map (some m)), (8, ⟨wb, wo + (x).toNat * 7 + 1 + 0, none⟩, .int .i64 x_9.heldJob), (12, ⟨bj_21, 3, none⟩, .bool (canc j))] [(true, [0, 1, 2, 4, 5, 6, 7]), (true, [3]), (true, [8]), (false, [9]), (true, [10, 11]), (true, [12])] rfl (by kernel_rfl) ⟨.inr (cell_up hS_24 5 rfl (k := 10) tri_pre rfl), .inr ((hp_13.up 4 rfl).cell hS_24 (k := 1) rfl), .inr (hS_24.cell 0 rfl rfl), trivial⟩ ?_
  have hS_25 := hS_24.drew
  refine wU [0, 1, 2, 4, 5, 6, 7] ?_
  refine wLd (.map (some m)) 0 Try.isAgg78 ?_
  refine wLd (.int .i64 x_9.heldJob) 1 Try.isAgg3 ?_
  refine wO rfl ?_
  refine stepY (.pointer (some ⟨bj_21, 0, none⟩)) rfl rfl (Y_iget (k := x_9.heldJob) hS_25 9 hM (by rw [hv_151, hgj_21]; rfl) Try.runUnderlying78 Try.runUnderlying3 Try.zeroValue90) ?_
  refine nilO ⟨⟨.inl (by kernel_rfl), .inl (by kernel_rfl), .inr (hS_25.cell 0 rfl rfl), trivial⟩, ?_⟩
  refine wU [10, 11] ?_
  refine wLd (.bool (canc j)) 2 Try.isAgg4 ?_
  refine wN ?_
  refine thenK_n <| ?_
  refine cB (canc j) (fun hc_26 => ?_) (fun hc_26 => ?_)
  · refine seqE <| regionE <| pu2 ?_
    have hS_30 := ((((hS_25.pick 3 rfl).pick 3 rfl).pick 3 rfl).pick 3 rfl)
    have hS_27 : Sat W _ (([(bj_21, .cells #[.slice taj_21 tnj_21 tkj_21, .int .i64 j.band, .pointer (some ⟨bbj_21, 0, none⟩), .bool (canc j)] 97 (0, 0))] ++ (Tj_21 ++ Mbj_21)) :: (jcs.eraseIdx nj_21).flatten :: Wc :: (Tri p 81 (preP F.cfg wb wo wn wk q m) (([] : List Ref).flatMap encRef) (encStt F.st)) :: acs.flatten :: dcs.flatten :: Qc :: Jc :: H :: F0) := Sat.perm (show Sat W _ ([(bj_21, .cells #[.slice taj_21 tnj_21 tkj_21, .int .i64 j.band, .pointer (some ⟨bbj_21, 0, none⟩), .bool (canc j)] 97 (0, 0))] :: Tj_21 :: Mbj_21 :: (jcs.eraseIdx nj_21).flatten :: Wc :: (Tri p 81 (preP F.cfg wb wo wn wk q m) (([] : List Ref).flatMap encRef) (encStt F.st)) :: acs.flatten :: dcs.flatten :: Qc :: Jc :: H :: F0) from hS_30) (by simp)
    have hS_28 := Sat.shutN (d := ([(bj_21, .cells #[.slice taj_21 tnj_21 tkj_21, .int .i64 j.band, .pointer (some ⟨bbj_21, 0, none⟩), .bool (canc j)] 97 (0, 0))] ++ (Tj_21 ++ Mbj_21))) (A := []) nj_21 hjcj_21 hS_27
    rw [set_same hjcj_21] at hS_28
    have hS_31 : Sat W _ ((Tri p 81 (preP F.cfg wb wo wn wk q m) (([] : List Ref).flatMap encRef) (encStt F.st)) :: Wc :: acs.flatten :: dcs.flatten :: Qc :: Jc :: jcs.flatten :: H :: F0) := ((((((hS_28.pick 6 rfl).pick 6 rfl).pick 6 rfl).pick 6 rfl).pick 5 rfl).pick 6 rfl)
    have hS_33 : Sat W _ (((Tri p 81 (preP F.cfg wb wo wn wk q m) (([] : List Ref).flatMap encRef) (encStt F.st)) ++ (Wc ++ (acs.flatten ++ (dcs.flatten ++ (Qc ++ (Jc ++ jcs.flatten)))))) :: H :: F0) := Sat.perm (show Sat W _ ((Tri p 81 (preP F.cfg wb wo wn wk q m) (([] : List Ref).flatMap encRef) (encStt F.st)) :: Wc :: acs.flatten :: dcs.flatten :: Qc :: Jc :: jcs.flatten :: H :: F0) from hS_31) (by simp)
    have hRx_34 : FarmP p F ((Tri p 81 (preP F.cfg wb wo wn wk q m) (([] : List Ref).flatMap encRef) (encStt F.st)) ++ (Wc ++ (acs.flatten ++ (dcs.flatten ++ (Qc ++ (Jc ++ jcs.flatten)))))) := ⟨_, _, _, _, _, _, _, _, _, _, _, _, _, _, rfl, hOw, hco, hAs, hDs, hQ, hM, hJs⟩
    refine cX Try.call53 (pf_drop hRx_34 x hx hv0 (by omega) (Sat.flat1 hS_33)) ?_
    rintro _ w_35 ⟨M_38, rfl, hR_39, hS_36⟩
    have hS_37 := Sat.unflat1 hS_36
    refine sBS hS_37 #[.int .i64 9, .int .i64 x, .int .i64 0, .int .i64 0, .int .i64 v0.heldJob, .int .i64 v0.heldTask, .int .i64 0] Try.runUnderlying44 Try.sizeOf50 Try.zeroValue50 ?_
    intro b_40 w_41 hS_42
    refine pu2 <| nilO <| thenK_n <| retE <| thenK_r <| thenK_r <| retT [.slice (some ⟨b_40, 0, none⟩) 1 1, .int .i64 0] <| ?_
    have hO_43 := OwnT.blk (enc := encEvt) (sz := 7) (b := b_40) (c := #[.int .i64 9, .int .i64 x, .int .i64 0, .int .i64 0, .int .i64 v0.heldJob, .int .i64 v0.heldTask, .int .i64 0]) (E := 50) (xs := [(⟨9, x, 0, 0, v0.heldJob, v0.heldTask, 0⟩ : Evt)]) (fun _ => rfl) 1 rfl rfl rfl (by omega)
    have he : stepF F x c = ((dropF F x), [(⟨9, x, 0, 0, v0.heldJob, v0.heldTask, 0⟩ : Evt)], 0) := step_drop ⟨by omega, by omega⟩ hv0 hh hj (by rw [canc_t hc_26]; decide)
    rw [he]; exact ⟨_, _, _, _, _, rfl, hO_43, hR_39, hS_42⟩
  refine skipE <| thenK_n <| seqE <| regionE <| pu2 ?_
  have hS_47 := ((((hS_25.pick 3 rfl).pick 3 rfl).pick 3 rfl).pick 3 rfl)
  have hS_44 : Sat W _ (([(bj_21, .cells #[.slice taj_21 tnj_21 tkj_21, .int .i64 j.band, .pointer (some ⟨bbj_21, 0, none⟩), .bool (canc j)] 97 (0, 0))] ++ (Tj_21 ++ Mbj_21)) :: (jcs.eraseIdx nj_21).flatten :: Wc :: (Tri p 81 (preP F.cfg wb wo wn wk q m) (([] : List Ref).flatMap encRef) (encStt F.st)) :: acs.flatten :: dcs.flatten :: Qc :: Jc :: H :: F0) := Sat.perm (show Sat W _ ([(bj_21, .cells #[.slice taj_21 tnj_21 tkj_21, .int .i64 j.band, .pointer (some ⟨bbj_21, 0, none⟩), .bool (canc j)] 97 (0, 0))] :: Tj_21 :: Mbj_21 :: (jcs.eraseIdx nj_21).flatten :: Wc :: (Tri p 81 (preP F.cfg wb wo wn wk q m) (([] : List Ref).flatMap encRef) (encStt F.st)) :: acs.flatten :: dcs.flatten :: Qc :: Jc :: H :: F0) from hS_47) (by simp)
  have hS_45 := Sat.shutN (d := ([(bj_21, .cells #[.slice taj_21 tnj_21 tkj_21, .int .i64 j.band, .pointer (some ⟨bbj_21, 0, none⟩), .bool (canc j)] 97 (0, 0))] ++ (Tj_21 ++ Mbj_21))) (A := []) nj_21 hjcj_21 hS_44
  rw [set_same hjcj_21] at hS_45
  have hS_48 : Sat W _ ((Tri p 81 (preP F.cfg wb wo wn wk q m) (([] : List Ref).flatMap encRef) (encStt F.st)) :: Wc :: acs.flatten :: dcs.flatten :: Qc :: Jc :: jcs.flatten :: H :: F0) := ((((((hS_45.pick 6 rfl).pick 6 rfl).pick 6 rfl).pick 6 rfl).pick 5 rfl).pick 6 rfl)
  have hS_50 : Sat W _ (((Tri p 81 (preP F.cfg wb wo wn wk q m) (([] : List Ref).flatMap encRef) (encStt F.st)) ++ (Wc ++ (acs.flatten ++ (dcs.flatten ++ (Qc ++ (Jc ++ jcs.flatten)))))) :: H :: F0) := Sat.perm (show Sat W _ ((Tri p 81 (preP F.cfg wb wo wn wk q m) (([] : List Ref).flatMap encRef) (encStt F.st)) :: Wc :: acs.flatten :: dcs.flatten :: Qc :: Jc :: jcs.flatten :: H :: F0) from hS_48) (by simp)
  have hRx_51 : FarmP p F ((Tri p 81 (preP F.cfg wb wo wn wk q m) (([] : List Ref).flatMap encRef) (encStt F.st)) ++ (Wc ++ (acs.flatten ++ (dcs.flatten ++ (Qc ++ (Jc ++ jcs.flatten)))))) := ⟨_, _, _, _, _, _, _, _, _, _, _, _, _, _, rfl, hOw, hco, hAs, hDs, hQ, hM, hJs⟩
  have hrun : j.running = true := canc_f hc_26 (by omega); have hrun0 : (jobAt F v0.heldJob).running = true := by unfold jobAt; rw [getD_some hj]; exact hrun
  refine cX Try.call54 (pf_micro hRx_51 hF x hx hv0 hh hrun0 h12 (Sat.flat1 hS_50)) ?_
  rintro _ w_52 ⟨M_55, rfl, hR_56, hS_53⟩
  have hS_54 := Sat.unflat1 hS_53
  obtain ⟨ev_57, hev_58⟩ : ∃ z, z = (microF F x).2 := ⟨_, rfl⟩; rw [← hev_58]
  refine sBS hS_54 (encEvt ev_57).toArray Try.runUnderlying44 Try.sizeOf50 Try.zeroValue50 ?_
  intro b_59 w_60 hS_61
  refine pu2 <| nilO <| thenK_n <| retE <| thenK_r <| retT [.slice (some ⟨b_59, 0, none⟩) 1 1, .int .i64 0] <| ?_
  have hO_62 := OwnT.blk (enc := encEvt) (sz := 7) (b := b_59) (c := #[.int .i64 ev_57.kind, .int .i64 ev_57.worker, .int .i64 ev_57.from_, .int .i64 ev_57.job, .int .i64 ev_57.refJob, .int .i64 ev_57.refTask, .int .i64 ev_57.err]) (E := 50) (xs := [ev_57]) (fun _ => rfl) 1 rfl rfl rfl (by omega)
  have he : stepF F x c = ((microF F x).1, [ev_57], 0) := by rw [hev_58]; exact step_micro ⟨by omega, by omega⟩ hv0 hh hj hrun
  rw [he]; exact ⟨_, _, _, _, _, rfl, hO_62, hR_56, hS_61⟩
theorem pf_step_n {p : Nat} {F : FS} {M : Chunk} {F0 : List Chunk} (hR : FarmP p F M) {K : Int} (hF : FI F K) {v0 : Wkr} (x : Int) (c : Int) (hx : 0 ≤ x ∧ x < F.ws.length) (hv0 : F.ws[x.toNat]? = some v0) (hh : ¬ Holds v0) (h12 : F12 F) (hK : K + 1 ≤ 4096) (hS : Sat W w (M :: H :: F0)) :
    Calls Try.prog 23 #[.pointer (some ⟨p, 0, none⟩), .int .i64 x, .int .i64 c] w fun e w' => ∃ (az : Option Addr) (nz kz : Nat) (G M' : Chunk), e = .returned (.tuple #[.slice az nz kz, .int .i64 (stepF F x c).2.2]) ∧ OwnT encEvt 50 7 az nz kz (stepF F x c).2.1 G ∧ FarmP p (stepF F x c).1 M' ∧ Sat W w' (G :: M' :: H :: F0) := by
  obtain ⟨wb, wo, wn, wk, q, m, xs, jm, Wc, Qc, Jc, acs, dcs, jcs, rfl, hOw, hco, hAs, hDs, hQ, hM, hJs⟩ := hR
  have hS_1 : Sat W _ ((Tri p 81 (preP F.cfg wb wo wn wk q m) (([] : List Ref).flatMap encRef) (encStt F.st)) :: Wc :: acs.flatten :: dcs.flatten :: Qc :: Jc :: jcs.flatten :: H :: F0) := Sat.perm hS (by simp)
  have hwl := hOw.len; have hwk := hOw.le; have hcl := core_len hco; have has1 := hAs.1; have hds1 := hDs.1; rw [List.length_map] at has1 hds1; have hjl1 := hJs.l
  have hs1 := hF.st.a; have hs2 := hF.st.b; have hs3 := hF.st.c; have hs4 := hF.st.d; have hs5 := hF.st.e; have hs6 := hF.st.f; have hs7 := hF.st.g; have hKK := hF.fw.k; have hn9 := hF.fw.n; have hal9 := hF.fw.al; have hdl9 := hF.fw.dl
  have hid := hF.idle hv0 hh
  refine callsA 101 Try.func23 rfl ?_
  refine seqE <| regionE <| pu2 <| nilO <| thenK_n <| seqE <| seqE <| regionE <| pu2 ?_
  have hS_2 : Sat W _ (((Tri p 81 (preP F.cfg wb wo wn wk q m) (([] : List Ref).flatMap encRef) (encStt F.st)) ++ (Wc ++ (acs.flatten ++ (dcs.flatten ++ (Qc ++ (Jc ++ jcs.flatten)))))) :: H :: F0) := Sat.perm (show Sat W _ ((Tri p 81 (preP F.cfg wb wo wn wk q m) (([] : List Ref).flatMap encRef) (encStt F.st)) :: Wc :: acs.flatten :: dcs.flatten :: Qc :: Jc :: jcs.flatten :: H :: F0) from hS_1) (by simp)
  have hRx_3 : FarmP p F ((Tri p 81 (preP F.cfg wb wo wn wk q m) (([] : List Ref).flatMap encRef) (encStt F.st)) ++ (Wc ++ (acs.flatten ++ (dcs.flatten ++ (Qc ++ (Jc ++ jcs.flatten)))))) := ⟨_, _, _, _, _, _, _, _, _, _, _, _, _, _, rfl, hOw, hco, hAs, hDs, hQ, hM, hJs⟩
  refine cX Try.call51 (pf_worker hRx_3 x (Sat.flat1 hS_2)) ?_
  rintro _ w_4 ⟨rfl, h_5⟩
  have hS_6 := Sat.unflat1 h_5
  have hS_7 : Sat W _ ((Tri p 81 (preP F.cfg wb wo wn wk q m) (([] : List Ref).flatMap encRef) (encStt F.st)) :: Wc :: acs.flatten :: dcs.flatten :: Qc :: Jc :: jcs.flatten :: H :: F0) := Sat.perm hS_6 (by simp)
  refine pu1 <| nilO <| thenK_n <| ?_
  have hc_8 : 0 ≤ x ∧ x < ((F.ws.length : Nat) : Int) := ⟨by omega, by omega⟩
  refine cF _ (congrArg Bool.not (decide_eq_true hc_8)) ?_
  refine skipE <| thenK_n <| seqE <| regionE <| pu3 ?_
  refine sLp hS_7 (ptr_up 0 rfl tri_pre) 8 (.slice (some ⟨wb, wo, none⟩) wn wk) (Try.isAgg79 _) ?_
  refine pu1 ?_
  refine sIdxO hOw x (x).toNat Try.runUnderlying79 Try.sizeOf89 ?_
  intro x_9 b_10 o_11 hx_12 hp_13 hq_14
  obtain ⟨rfl, rfl⟩ := some_addr hq_14
  obtain ⟨v_15, hv_15, hv_150, hv_151, hv_152, hv_153, hv_154⟩ := core_at hco hx_12
  have hvv_v_15 : v_15 = v0 := Option.some.inj (hv_15.symm.trans hv0); rw [hvv_v_15] at hv_150 hv_151 hv_152 hv_153 hv_154
  refine pu1 <| nilO <| thenK_n <| seqE <| seqE <| regionE <| pu3 ?_
  refine sLp hS_7 (hp_13.up 1 rfl) 0 (.int .i64 x_9.phase) (Try.isAgg3 _) ?_
  refine pu1 <| nilO <| thenK_n <| ?_
  refine cE x_9.phase 4 (fun hc_16 => ?_) (fun hc_16 => ?_)
  · refine seqE <| regionE <| pu2 <| nilO <| thenK_n <| retE <| thenK_r <| retT [.slice none 0 0, .int .i64 20] <| ?_
    have hS_17 := Sat.nilc hS_7
    have hS_18 : Sat W _ ([] :: ((Tri p 81 (preP F.cfg wb wo wn wk q m) (([] : List Ref).flatMap encRef) (encStt F.st)) ++ (Wc ++ (acs.flatten ++ (dcs.flatten ++ (Qc ++ (Jc ++ jcs.flatten)))))) :: H :: F0) := Sat.perm (show Sat W _ ([] :: (Tri p 81 (preP F.cfg wb wo wn wk q m) (([] : List Ref).flatMap encRef) (encStt F.st)) :: Wc :: acs.flatten :: dcs.flatten :: Qc :: Jc :: jcs.flatten :: H :: F0) from hS_17) (by simp)
    have he : stepF F x c = (F, [], 20) := step_down ⟨by omega, by omega⟩ hv0 (by omega)
    rw [he]; exact ⟨_, _, _, _, _, rfl, (OwnT.nil (enc := encEvt) (E := 50) (sz := 7) (fun _ => rfl)), ⟨_, _, _, _, _, _, _, _, _, _, _, _, _, _, rfl, hOw, hco, hAs, hDs, hQ, hM, hJs⟩, hS_18⟩
  refine skipE <| thenK_n <| seqE <| seqE <| regionE <| pu1 ?_
  have hS_19 := (hS_7.pick 1 rfl)
  refine cX Try.call52 (p_holds (x := x_9) hp_13 hS_19) ?_
  rintro _ w_20 ⟨rfl, hS_21⟩
  refine nilO <| thenK_n <| ?_
  have hc_22 : ¬ (x_9.phase ≠ 0 ∧ x_9.phase ≠ 4) := (by omega)
  refine cF _ (decide_eq_false hc_22) ?_
  refine skipE <| thenK_n <| seqE <| seqE <| regionE <| pu4 ?_
  have hS_23 := (hS_21.pick 1 rfl)
  have hS_24 : Sat W _ (((Tri p 81 (preP F.cfg wb wo wn wk q m) (([] : List Ref).flatMap encRef) (encStt F.st)) ++ (Wc ++ (acs.flatten ++ (dcs.flatten ++ (Qc ++ (Jc ++ jcs.flatten)))))) :: H :: F0) := Sat.perm (show Sat W _ ((Tri p 81 (preP F.cfg wb wo wn wk q m) (([] : List Ref).flatMap encRef) (encStt F.st)) :: Wc :: acs.flatten :: dcs.flatten :: Qc :: Jc :: jcs.flatten :: H :: F0) from hS_23) (by simp)
  have hRx_25 : FarmP p F ((Tri p 81 (preP F.cfg wb wo wn wk q m) (([] : List Ref).flatMap encRef) (encStt F.st)) ++ (Wc ++ (acs.flatten ++ (dcs.flatten ++ (Qc ++ (Jc ++ jcs.flatten)))))) := ⟨_, _, _, _, _, _, _, _, _, _, _, _, _, _, rfl, hOw, hco, hAs, hDs, hQ, hM, hJs⟩
  refine cX Try.call56 (pf_seq hRx_25 c (by first | omega | (simp only [List.length_set]; omega)) (Sat.flat1 hS_24)) ?_
  rintro _ w_26 ⟨az_29, nz_30, kz_31, Z_32, rfl, hO_33, h_27⟩
  have hS_28 := Sat.unflat2 h_27; have hn_az_29 := hO_33.len; have hl_az_29 := hO_33.le; rw [seq_len] at hn_az_29
  have hS_34 := (hS_28.pick 1 rfl)
  have hS_35 : Sat W _ ((Tri p 81 (preP F.cfg wb wo wn wk q m) (([] : List Ref).flatMap encRef) (encStt F.st)) :: Wc :: acs.flatten :: dcs.flatten :: Qc :: Jc :: jcs.flatten :: Z_32 :: H :: F0) := Sat.perm hS_34 (by simp)
  have hS_36 : Sat W _ (((Tri p 81 (preP F.cfg wb wo wn wk q m) (([] : List Ref).flatMap encRef) (encStt F.st)) ++ (Wc ++ (acs.flatten ++ (dcs.flatten ++ (Qc ++ (Jc ++ jcs.flatten)))))) :: Z_32 :: H :: F0) := Sat.perm (show Sat W _ ((Tri p 81 (preP F.cfg wb wo wn wk q m) (([] : List Ref).flatMap encRef) (encStt F.st)) :: Wc :: acs.flatten :: dcs.flatten :: Qc :: Jc :: jcs.flatten :: Z_32 :: H :: F0) from hS_35) (by simp)
  have hRx_37 : FarmP p F ((Tri p 81 (preP F.cfg wb wo wn wk q m) (([] : List Ref).flatMap encRef) (encStt F.st)) ++ (Wc ++ (acs.flatten ++ (dcs.flatten ++ (Qc ++ (Jc ++ jcs.flatten)))))) := ⟨_, _, _, _, _, _, _, _, _, _, _, _, _, _, rfl, hOw, hco, hAs, hDs, hQ, hM, hJs⟩
  refine cX Try.call55 (pf_take hRx_37 hF x az_29 nz_30 kz_31 (seqL F.ws.length c) (RdT.flat (hO_33.rdAt 0 (by rfl))) hx hv0 hh rfl (Sat.flat1 hS_36)) ?_
  rintro _ w_38 (⟨he_45, rfl, hS_39⟩ | ⟨F_43, ev_44, M_41, he_45, rfl, hR_42, hS_39⟩)
  rotate_left
  · have hS_40 := Sat.unflat1 hS_39
    refine pu3 ?_
    refine sAlloc hS_40 Try.zeroValue50 ?_
    intro b_106 w_107 hS_108
    refine sT hS_108 0 0 (.agg (encEvt ev_44).toArray) (encEvt ev_44) (encEvt ev_44).toArray Try.sizeOf50 ?_
    intro w_109 hS_110
    refine pu1 <| nilO <| thenK_n <| seqE <| regionE <| pu1 <| nilO <| thenK_n <| cTt <| seqE <| regionE ?_
    refine lA hS_110 0 0 7 (Try.isAgg50 _) (Try.sizeOf50 _) ?_
    refine sBS hS_110 (encEvt ev_44).toArray Try.runUnderlying44 Try.sizeOf50 Try.zeroValue50 ?_
    intro b_111 w_112 hS_113
    refine pu2 <| nilO <| thenK_n <| retE <| thenK_r <| retT [.slice (some ⟨b_111, 0, none⟩) 1 1, .int .i64 0] <| ?_
    have hO_114 := OwnT.blk (enc := encEvt) (sz := 7) (b := b_111) (c := #[.int .i64 ev_44.kind, .int .i64 ev_44.worker, .int .i64 ev_44.from_, .int .i64 ev_44.job, .int .i64 ev_44.refJob, .int .i64 ev_44.refTask, .int .i64 ev_44.err]) (E := 50) (xs := [ev_44]) (fun _ => rfl) 1 rfl rfl rfl (by omega)
    have hS_115 := ((hS_113.dropAt 1 rfl).dropAt 2 rfl)
    have he : stepF F x c = (F_43, [ev_44], 0) := (step_rest ⟨by omega, by omega⟩ hv0 (by omega) hh).trans (rest_acq he_45)
    rw [he]; exact ⟨_, _, _, _, _, rfl, hO_114, hR_42, hS_115⟩
  have hS_40 := Sat.unflat1 hS_39
  refine pu3 ?_
  refine sAlloc hS_40 Try.zeroValue50 ?_
  intro b_46 w_47 hS_48
  refine sT hS_48 0 0 (.agg #[.int .i64 0, .int .i64 0, .int .i64 0, .int .i64 0, .int .i64 0, .int .i64 0, .int .i64 0]) [.int .i64 0, .int .i64 0, .int .i64 0, .int .i64 0, .int .i64 0, .int .i64 0, .int .i64 0] #[.int .i64 0, .int .i64 0, .int .i64 0, .int .i64 0, .int .i64 0, .int .i64 0, .int .i64 0] Try.sizeOf50 ?_
  intro w_49 hS_50
  refine pu1 <| nilO <| thenK_n <| seqE <| regionE <| pu1 <| nilO <| thenK_n <| cFf <| skipE <| thenK_n <| seqE <| seqE <| regionE <| pu2 ?_
  have hS_51 := (hS_50.pick 1 rfl)
  refine cX Try.call56 (pf_seq hRx_37 c (by first | omega | (simp only [List.length_set]; omega)) (Sat.flat1 hS_51)) ?_
  rintro _ w_52 ⟨az_55, nz_56, kz_57, Z_58, rfl, hO_59, h_53⟩
  have hS_54 := Sat.unflat2 h_53; have hn_az_55 := hO_59.len; have hl_az_55 := hO_59.le; rw [seq_len] at hn_az_55
  refine pu2 <| nilO <| thenK_n <| blockE ?_
  refine loopA (γ := Nat) (fun i => [(0, .pointer (some ⟨p, 0, none⟩)), (1, .int .i64 x), (66, .slice az_55 nz_56 kz_57), (67, .int .i64 ((nz_56 : Nat) : Int)), (68, .int .i64 ((i : Nat) : Int))]) (fun i w => Sat W w (Z_58 :: ((Tri p 81 (preP F.cfg wb wo wn wk q m) (([] : List Ref).flatMap encRef) (encStt F.st)) ++ (Wc ++ (acs.flatten ++ (dcs.flatten ++ (Qc ++ (Jc ++ jcs.flatten)))))) :: [(b_46, .cells #[.int .i64 0, .int .i64 0, .int .i64 0, .int .i64 0, .int .i64 0, .int .i64 0, .int .i64 0] 50 (0, 0))] :: Z_32 :: H :: F0) ∧ i ≤ F.ws.length ∧ (firstI (canHelp F x c) F.ws.length 0 = firstI (canHelp F x c) (F.ws.length - i) i)) (fun i => F.ws.length - i) 0 ⟨hS_54, by omega, rfl⟩ ?_
  rintro i ρ w_60 ⟨hS_61, hi, hfi⟩
  refine seqE <| regionE <| pu1 <| nilO <| thenK_n <| seqE ?_
  refine cD (((i : Nat) : Int) < ((nz_56 : Nat) : Int)) (fun hc_62 => ?_) (fun hc_62 => ?_)
  rotate_left
  · refine exitE <| thenK_x <| thenK_x <| blockK_x <| thenK_n <| seqE <| regionE <| pu2 ?_
    refine sBS hS_61 #[.int .i64 13, .int .i64 x, .int .i64 0, .int .i64 0, .int .i64 0, .int .i64 0, .int .i64 0] Try.runUnderlying44 Try.sizeOf50 Try.zeroValue50 ?_
    intro b_101 w_102 hS_103
    refine pu2 <| nilO <| thenK_n <| retE <| retT [.slice (some ⟨b_101, 0, none⟩) 1 1, .int .i64 0] <| ?_
    have hO_104 := OwnT.blk (enc := encEvt) (sz := 7) (b := b_101) (c := #[.int .i64 13, .int .i64 x, .int .i64 0, .int .i64 0, .int .i64 0, .int .i64 0, .int .i64 0]) (E := 50) (xs := [(⟨13, x, 0, 0, 0, 0, 0⟩ : Evt)]) (fun _ => rfl) 1 rfl rfl rfl (by omega)
    have hS_105 := (((hS_103.dropAt 1 rfl).dropAt 2 rfl).dropAt 2 rfl)
    have he : stepF F x c = (F, [(⟨13, x, 0, 0, 0, 0, 0⟩ : Evt)], 0) := (step_rest ⟨by omega, by omega⟩ hv0 (by omega) hh).trans (help_end he_45 (by omega) hfi)
    rw [he]; exact ⟨_, _, _, _, _, rfl, hO_104, hRx_37, hS_105⟩
  refine skipE <| thenK_n <| seqE <| blockE <| seqE <| regionE ?_
  refine sIdxO hO_59 ((i : Nat) : Int) i Try.runUnderlying22 Try.sizeOf3 ?_
  intro x_63 b_64 o_65 hx_66 hp_67 hq_68
  have hcx : x_63 = chF F c i := seq_at (n := F.ws.length) hx_66; have hcb := chF_bd (F := F) (c := c) (i := i) hF.fw.n.1
  refine sLp hS_61 (hp_67.up 0 rfl) 0 (.int .i64 x_63) (Try.isAgg3 _) ?_
  refine pu1 <| nilO <| thenK_n <| seqE <| regionE <| pu4 ?_
  refine sN 75 x_63 x (fun hc_69 => ?_) (fun hc_69 => ?_)
  · refine pu4 <| nilO <| thenK_n <| cFf <| skipE <| blockK_n <| thenK_n <| regionE ?_
    refine sAdd ((i : Nat) : Int) 1 ?_
    refine pu1 <| nilO <| thenK_n <| ?_
    exact ⟨i + 1, by first | omega | (dsimp only; omega), alA, hS_61, by omega, (help_skip (by omega) hfi (by unfold canHelp; rw [← hcx, decide_eq_false (by omega)]; rfl))⟩
  refine pu2 <| gY ?_
  have hS_70 := (hS_61.pick 1 rfl)
  refine cX Try.call57 (pf_busy hRx_37 hF x_63 (by omega) (Sat.flat1 hS_70)) ?_
  rintro _ w_71 ⟨rfl, h_72⟩
  have hS_73 := Sat.unflat1 h_72
  refine pu1 <| nilO <| thenK_n <| ?_
  refine cB (busyW F (wAt F x_63)) (fun hc_74 => ?_) (fun hc_74 => ?_)
  rotate_left
  · refine skipE <| blockK_n <| thenK_n <| regionE ?_
    refine sAdd ((i : Nat) : Int) 1 ?_
    refine pu1 <| nilO <| thenK_n <| ?_
    have hS_100 := (hS_73.pick 1 rfl)
    exact ⟨i + 1, by first | omega | (dsimp only; omega), alA, hS_100, by omega, (help_skip (by omega) hfi (by unfold canHelp; rw [← hcx, Bool.eq_false_iff.2 hc_74, Bool.and_false]))⟩
  refine seqE ?_
  have hS_75 : Sat W _ ((Tri p 81 (preP F.cfg wb wo wn wk q m) (([] : List Ref).flatMap encRef) (encStt F.st)) :: Wc :: acs.flatten :: dcs.flatten :: Qc :: Jc :: jcs.flatten :: Z_58 :: [(b_46, .cells #[.int .i64 0, .int .i64 0, .int .i64 0, .int .i64 0, .int .i64 0, .int .i64 0, .int .i64 0] 50 (0, 0))] :: Z_32 :: H :: F0) := Sat.perm hS_73 (by simp)
  refine regionE <| pu4 ?_
  refine sLp hS_75 (ptr_up 0 rfl (tri_post (k := 11) (tri_len (sz := 2) (m := 11) (fun _ => rfl) (rfl : ([] : List Ref).length = 0)))) 5 (.int .i64 F.st.helps) (Try.isAgg3 _) ?_
  refine sAdd F.st.helps 1 ?_
  refine pu3 ?_
  refine sTpost hS_75 0 11 5 rfl (.int .i64 (F.st.helps + 1)) [.int .i64 (F.st.helps + 1)] [.int .i64 F.st.starts, .int .i64 F.st.commits, .int .i64 F.st.drops, .int .i64 F.st.crashes, .int .i64 F.st.steals, .int .i64 (F.st.helps + 1), .int .i64 F.st.spills, .int .i64 F.st.queued, .int .i64 F.st.held, .int .i64 F.st.cells] (tri_len (sz := 2) (m := 11) (fun _ => rfl) (rfl : ([] : List Ref).length = 0)) Try.sizeOf3 ?_
  intro w_76 hS_77
  refine nilO <| thenK_n <| seqE <| regionE <| pu3 ?_
  refine sAlloc hS_77 Try.zeroValue50 ?_
  intro b_78 w_79 hS_80
  refine sT hS_80 0 0 (.agg #[.int .i64 12, .int .i64 x, .int .i64 x_63, .int .i64 0, .int .i64 0, .int .i64 0, .int .i64 0]) [.int .i64 12, .int .i64 x, .int .i64 x_63, .int .i64 0, .int .i64 0, .int .i64 0, .int .i64 0] #[.int .i64 12, .int .i64 x, .int .i64 x_63, .int .i64 0, .int .i64 0, .int .i64 0, .int .i64 0] Try.sizeOf50 ?_
  intro w_81 hS_82
  refine nilO <| thenK_n <| seqE ?_
  refine drawE [3, 4] [(0, ⟨b_78, 0, none⟩, .int .i64 12), (0, ⟨b_78, 1, none⟩, .int .i64 x), (0, ⟨b_78, 2, none⟩, .int .i64 x_63), (0, ⟨b_78, 3, none⟩, .int .i64 0), (0, ⟨b_78, 4, none⟩, .int .i64 0), (0, ⟨b_78, 5, none⟩, .int .i64 0), (0, ⟨b_78, 6, none⟩, .int .i64 0)] [(true, [1, 2]), (true, [0]), (false, [3]), (false, [4]), (true, [5, 6])] rfl (by kernel_rfl) ⟨.inr (hS_82.cell 0 rfl rfl), .inr (hS_82.cell 0 rfl rfl), .inr (hS_82.cell 0 rfl rfl), .inr (hS_82.cell 0 rfl rfl), .inr (hS_82.cell 0 rfl rfl), .inr (hS_82.cell 0 rfl rfl), .inr (hS_82.cell 0 rfl rfl), trivial⟩ ?_
  have hS_83 := hS_82.drew
  refine wU [1, 2] ?_
  refine wY (.agg #[.int .i64 12, .int .i64 x, .int .i64 x_63, .int .i64 0, .int .i64 0, .int .i64 0, .int .i64 0]) rfl (fun w hF => Y_loadF rfl (Try.isAgg50 w) (Try.sizeOf50 w) (by kernel_rfl) rfl ⟨hF 0 _ _ rfl, hF 1 _ _ rfl, hF 2 _ _ rfl, hF 3 _ _ rfl, hF 4 _ _ rfl, hF 5 _ _ rfl, hF 6 _ _ rfl, trivial⟩) ?_
  refine wO rfl ?_
  have hS_84 : Sat W _ (Wc :: acs.flatten :: dcs.flatten :: Qc :: Jc :: jcs.flatten :: [(b_78, .cells #[.int .i64 12, .int .i64 x, .int .i64 x_63, .int .i64 0, .int .i64 0, .int .i64 0, .int .i64 0] 50 (0, 0))] :: (Tri p 81 (preP F.cfg wb wo wn wk q m) (([] : List Ref).flatMap encRef) [.int .i64 F.st.starts, .int .i64 F.st.commits, .int .i64 F.st.drops, .int .i64 F.st.crashes, .int .i64 F.st.steals, .int .i64 (F.st.helps + 1), .int .i64 F.st.spills, .int .i64 F.st.queued, .int .i64 F.st.held, .int .i64 F.st.cells]) :: Z_58 :: [(b_46, .cells #[.int .i64 0, .int .i64 0, .int .i64 0, .int .i64 0, .int .i64 0, .int .i64 0, .int .i64 0] 50 (0, 0))] :: Z_32 :: H :: F0) := ((((((hS_83.pick 7 rfl).pick 7 rfl).pick 7 rfl).pick 7 rfl).pick 7 rfl).pick 7 rfl)
  have hS_85 := (hS_84.pick 7 rfl)
  have hS_86 : Sat W _ (((Tri p 81 (preP F.cfg wb wo wn wk q m) (([] : List Ref).flatMap encRef) [.int .i64 F.st.starts, .int .i64 F.st.commits, .int .i64 F.st.drops, .int .i64 F.st.crashes, .int .i64 F.st.steals, .int .i64 (F.st.helps + 1), .int .i64 F.st.spills, .int .i64 F.st.queued, .int .i64 F.st.held, .int .i64 F.st.cells]) ++ (Wc ++ (acs.flatten ++ (dcs.flatten ++ (Qc ++ (Jc ++ jcs.flatten)))))) :: [(b_78, .cells #[.int .i64 12, .int .i64 x, .int .i64 x_63, .int .i64 0, .int .i64 0, .int .i64 0, .int .i64 0] 50 (0, 0))] :: Z_58 :: [(b_46, .cells #[.int .i64 0, .int .i64 0, .int .i64 0, .int .i64 0, .int .i64 0, .int .i64 0, .int .i64 0] 50 (0, 0))] :: Z_32 :: H :: F0) := Sat.perm (show Sat W _ ((Tri p 81 (preP F.cfg wb wo wn wk q m) (([] : List Ref).flatMap encRef) [.int .i64 F.st.starts, .int .i64 F.st.commits, .int .i64 F.st.drops, .int .i64 F.st.crashes, .int .i64 F.st.steals, .int .i64 (F.st.helps + 1), .int .i64 F.st.spills, .int .i64 F.st.queued, .int .i64 F.st.held, .int .i64 F.st.cells]) :: Wc :: acs.flatten :: dcs.flatten :: Qc :: Jc :: jcs.flatten :: [(b_78, .cells #[.int .i64 12, .int .i64 x, .int .i64 x_63, .int .i64 0, .int .i64 0, .int .i64 0, .int .i64 0] 50 (0, 0))] :: Z_58 :: [(b_46, .cells #[.int .i64 0, .int .i64 0, .int .i64 0, .int .i64 0, .int .i64 0, .int .i64 0, .int .i64 0] 50 (0, 0))] :: Z_32 :: H :: F0) from hS_85) (by simp)
  have hRx_87 : FarmP p (⟨F.cfg, F.ws, F.ar, F.dq, F.q, F.jobs, (⟨F.st.starts, F.st.commits, F.st.drops, F.st.crashes, F.st.steals, (F.st.helps + 1), F.st.spills, F.st.queued, F.st.held, F.st.cells⟩ : Stt)⟩ : FS) ((Tri p 81 (preP F.cfg wb wo wn wk q m) (([] : List Ref).flatMap encRef) [.int .i64 F.st.starts, .int .i64 F.st.commits, .int .i64 F.st.drops, .int .i64 F.st.crashes, .int .i64 F.st.steals, .int .i64 (F.st.helps + 1), .int .i64 F.st.spills, .int .i64 F.st.queued, .int .i64 F.st.held, .int .i64 F.st.cells]) ++ (Wc ++ (acs.flatten ++ (dcs.flatten ++ (Qc ++ (Jc ++ jcs.flatten)))))) := ⟨_, _, _, _, _, _, _, _, _, _, _, _, _, _, rfl, hOw, hco, hAs, hDs, hQ, hM, hJs⟩
  have hbh := busy_holds hc_74; have hFh := hF.helpK (by omega)
  refine cX Try.call54 (pf_micro hRx_87 (F := helpF F) hFh x_63 ⟨by omega, by show _ < ((F.ws.length : Nat) : Int); omega⟩ (hF.fw.wmem ⟨by omega, by omega⟩) hbh.1 hbh.2 (h12.of rfl) (Sat.flat1 hS_86)) ?_
  rintro _ w_88 ⟨M_91, rfl, hR_92, hS_89⟩
  have hS_90 := Sat.unflat1 hS_89
  obtain ⟨ev_93, hev_94⟩ : ∃ z, z = (microF (helpF F) x_63).2 := ⟨_, rfl⟩; rw [← hev_94]
  refine nilO ⟨⟨.inr (hS_90.cell 1 rfl rfl), .inr (hS_90.cell 1 rfl rfl), .inr (hS_90.cell 1 rfl rfl), .inr (hS_90.cell 1 rfl rfl), .inr (hS_90.cell 1 rfl rfl), .inr (hS_90.cell 1 rfl rfl), .inr (hS_90.cell 1 rfl rfl), trivial⟩, ?_⟩
  refine wO rfl ?_
  refine sBS hS_90 #[.int .i64 12, .int .i64 x, .int .i64 x_63, .int .i64 0, .int .i64 0, .int .i64 0, .int .i64 0, .int .i64 ev_93.kind, .int .i64 ev_93.worker, .int .i64 ev_93.from_, .int .i64 ev_93.job, .int .i64 ev_93.refJob, .int .i64 ev_93.refTask, .int .i64 ev_93.err] Try.runUnderlying44 Try.sizeOf50 Try.zeroValue50 ?_
  intro b_95 w_96 hS_97
  refine nilO ⟨⟨.inl (by kernel_rfl), .inl (by kernel_rfl), .inl (by kernel_rfl), .inl (by kernel_rfl), .inl (by kernel_rfl), .inl (by kernel_rfl), .inl (by kernel_rfl), trivial⟩, ?_⟩
  refine wU [5, 6] ?_
  refine wN ?_
  refine thenK_n <| retE <| blockK_r <| thenK_r <| thenK_r <| blockK_r <| thenK_r <| retT [.slice (some ⟨b_95, 0, none⟩) 2 2, .int .i64 0] <| ?_
  have hO_98 := OwnT.blk (enc := encEvt) (sz := 7) (b := b_95) (c := #[.int .i64 12, .int .i64 x, .int .i64 x_63, .int .i64 0, .int .i64 0, .int .i64 0, .int .i64 0, .int .i64 ev_93.kind, .int .i64 ev_93.worker, .int .i64 ev_93.from_, .int .i64 ev_93.job, .int .i64 ev_93.refJob, .int .i64 ev_93.refTask, .int .i64 ev_93.err]) (E := 50) (xs := [(⟨12, x, x_63, 0, 0, 0, 0⟩ : Evt), ev_93]) (fun _ => rfl) 2 rfl rfl rfl (by omega)
  have hS_99 := ((((hS_97.dropAt 2 rfl).dropAt 2 rfl).dropAt 2 rfl).dropAt 2 rfl)
  have he : stepF F x c = ((microF (helpF F) x_63).1, [(⟨12, x, x_63, 0, 0, 0, 0⟩ : Evt), ev_93], 0) := (step_rest ⟨by omega, by omega⟩ hv0 (by omega) hh).trans ((help_at he_45 (by omega) hfi (by unfold canHelp; rw [← hcx, hc_74, decide_eq_true (by omega)]; rfl)).trans (by rw [← hcx, hev_94]))
  rw [he]; exact ⟨_, _, _, _, _, rfl, hO_98, hR_92, hS_99⟩
theorem pf_step_b {p : Nat} {F : FS} {M : Chunk} {F0 : List Chunk} (hR : FarmP p F M) {K : Int} (hF : FI F K) (x : Int) (c : Int) (hx : ¬ (0 ≤ x ∧ x < ((F.ws.length : Nat) : Int))) (hS : Sat W w (M :: H :: F0)) :
    Calls Try.prog 23 #[.pointer (some ⟨p, 0, none⟩), .int .i64 x, .int .i64 c] w fun e w' => ∃ (az : Option Addr) (nz kz : Nat) (G M' : Chunk), e = .returned (.tuple #[.slice az nz kz, .int .i64 (stepF F x c).2.2]) ∧ OwnT encEvt 50 7 az nz kz (stepF F x c).2.1 G ∧ FarmP p (stepF F x c).1 M' ∧ Sat W w' (G :: M' :: H :: F0) := by
  refine callsA 101 Try.func23 rfl ?_
  refine seqE <| regionE <| pu2 <| nilO <| thenK_n <| seqE <| seqE <| regionE <| pu2 ?_
  refine cX Try.call51 (pf_worker hR x (Sat.flat1 hS)) ?_
  rintro _ w_1 ⟨rfl, h_2⟩
  have hS_3 := Sat.unflat1 h_2
  refine pu1 <| nilO <| thenK_n <| ?_
  have hc_4 : ¬ (0 ≤ x ∧ x < ((F.ws.length : Nat) : Int)) := hx
  refine cT _ (congrArg Bool.not (decide_eq_false hc_4)) ?_
  refine seqE <| regionE <| pu2 <| nilO <| thenK_n <| retE <| thenK_r <| retT [.slice none 0 0, .int .i64 16] <| ?_
  have hS_5 := Sat.nilc hS_3
  have he : stepF F x c = (F, [], 16) := step_unk hx
  rw [he]; exact ⟨_, _, _, _, _, rfl, (OwnT.nil (enc := encEvt) (E := 50) (sz := 7) (fun _ => rfl)), hR, hS_5⟩
theorem pf_step {W w : World} {p : Nat} {F : FS} {M H : Chunk} {F0 : List Chunk} (hR : FarmP p F M) {K : Int} (hF : FI F K) (x c : Int) (h12 : F12 F) (hK : K + 1 ≤ 4096) (hS : Sat W w (M :: H :: F0)) :
    Calls Try.prog 23 #[.pointer (some ⟨p, 0, none⟩), .int .i64 x, .int .i64 c] w fun e w' => ∃ (az : Option Addr) (nz kz : Nat) (G M' : Chunk), e = .returned (.tuple #[.slice az nz kz, .int .i64 (stepF F x c).2.2]) ∧ OwnT encEvt 50 7 az nz kz (stepF F x c).2.1 G ∧ FarmP p (stepF F x c).1 M' ∧ Sat W w' (G :: M' :: H :: F0) := by
  by_cases hx : 0 ≤ x ∧ x < ((F.ws.length : Nat) : Int)
  · by_cases hh : Holds (wAt F x)
    · exact pf_step_h hR hF x c hx (hF.fw.wmem hx) hh h12 hK hS
    · exact pf_step_n hR hF x c hx (hF.fw.wmem hx) hh h12 hK hS
  · exact pf_step_b hR hF x c hx hS
theorem pf_restart_g {p : Nat} {F : FS} {M : Chunk} {F0 : List Chunk} (hR : FarmP p F M) {K : Int} (hF : FI F K) {v0 : Wkr} (x : Int) (hx : 0 ≤ x ∧ x < F.ws.length) (hv0 : F.ws[x.toNat]? = some v0) (hS : Sat W w (M :: H :: F0)) :
    Calls Try.prog 32 #[.pointer (some ⟨p, 0, none⟩), .int .i64 x] w fun e w' => ∃ (az : Option Addr) (nz kz : Nat) (G M' : Chunk), e = .returned (.tuple #[.slice az nz kz, .int .i64 (restartF F x).2.2]) ∧ OwnT encEvt 50 7 az nz kz (restartF F x).2.1 G ∧ FarmP p (restartF F x).1 M' ∧ Sat W w' (G :: M' :: H :: F0) := by
  obtain ⟨wb, wo, wn, wk, q, m, xs, jm, Wc, Qc, Jc, acs, dcs, jcs, rfl, hOw, hco, hAs, hDs, hQ, hM, hJs⟩ := hR
  have hS_1 : Sat W _ ((Tri p 81 (preP F.cfg wb wo wn wk q m) (([] : List Ref).flatMap encRef) (encStt F.st)) :: Wc :: acs.flatten :: dcs.flatten :: Qc :: Jc :: jcs.flatten :: H :: F0) := Sat.perm hS (by simp)
  have hwl := hOw.len; have hwk := hOw.le; have hcl := core_len hco; have has1 := hAs.1; have hds1 := hDs.1; rw [List.length_map] at has1 hds1; have hjl1 := hJs.l
  have hs1 := hF.st.a; have hs2 := hF.st.b; have hs3 := hF.st.c; have hs4 := hF.st.d; have hs5 := hF.st.e; have hs6 := hF.st.f; have hs7 := hF.st.g; have hKK := hF.fw.k; have hn9 := hF.fw.n; have hal9 := hF.fw.al; have hdl9 := hF.fw.dl
  have hax := ar_some hF.fw hx
  have har9 : v0.phase = 4 → F.ar.set x.toNat (resetA (F.ar.getD x.toNat default)) = F.ar := fun h => set_reset hax ((hF.a.a _ _ _ hv0 hax).z (.inr (.inr h)))
  refine callsA 27 Try.func32 rfl ?_
  refine seqE <| regionE <| pu2 <| nilO <| thenK_n <| seqE <| seqE <| regionE <| pu2 ?_
  have hS_2 : Sat W _ (((Tri p 81 (preP F.cfg wb wo wn wk q m) (([] : List Ref).flatMap encRef) (encStt F.st)) ++ (Wc ++ (acs.flatten ++ (dcs.flatten ++ (Qc ++ (Jc ++ jcs.flatten)))))) :: H :: F0) := Sat.perm (show Sat W _ ((Tri p 81 (preP F.cfg wb wo wn wk q m) (([] : List Ref).flatMap encRef) (encStt F.st)) :: Wc :: acs.flatten :: dcs.flatten :: Qc :: Jc :: jcs.flatten :: H :: F0) from hS_1) (by simp)
  have hRx_3 : FarmP p F ((Tri p 81 (preP F.cfg wb wo wn wk q m) (([] : List Ref).flatMap encRef) (encStt F.st)) ++ (Wc ++ (acs.flatten ++ (dcs.flatten ++ (Qc ++ (Jc ++ jcs.flatten)))))) := ⟨_, _, _, _, _, _, _, _, _, _, _, _, _, _, rfl, hOw, hco, hAs, hDs, hQ, hM, hJs⟩
  refine cX Try.call51 (pf_worker hRx_3 x (Sat.flat1 hS_2)) ?_
  rintro _ w_4 ⟨rfl, h_5⟩
  have hS_6 := Sat.unflat1 h_5
  have hS_7 : Sat W _ ((Tri p 81 (preP F.cfg wb wo wn wk q m) (([] : List Ref).flatMap encRef) (encStt F.st)) :: Wc :: acs.flatten :: dcs.flatten :: Qc :: Jc :: jcs.flatten :: H :: F0) := Sat.perm hS_6 (by simp)
  refine pu1 <| nilO <| thenK_n <| ?_
  have hc_8 : 0 ≤ x ∧ x < ((F.ws.length : Nat) : Int) := ⟨by omega, by omega⟩
  refine cF _ (congrArg Bool.not (decide_eq_true hc_8)) ?_
  refine skipE <| thenK_n <| seqE <| regionE <| pu3 ?_
  refine sLp hS_7 (ptr_up 0 rfl tri_pre) 8 (.slice (some ⟨wb, wo, none⟩) wn wk) (Try.isAgg79 _) ?_
  refine pu1 ?_
  refine sIdxO hOw x (x).toNat Try.runUnderlying79 Try.sizeOf89 ?_
  intro x_9 b_10 o_11 hx_12 hp_13 hq_14
  obtain ⟨rfl, rfl⟩ := some_addr hq_14
  obtain ⟨v_15, hv_15, hv_150, hv_151, hv_152, hv_153, hv_154⟩ := core_at hco hx_12
  have hvv_v_15 : v_15 = v0 := Option.some.inj (hv_15.symm.trans hv0); rw [hvv_v_15] at hv_150 hv_151 hv_152 hv_153 hv_154
  refine pu1 <| nilO <| thenK_n <| seqE <| seqE <| regionE <| pu3 ?_
  refine sLp hS_7 (hp_13.up 1 rfl) 0 (.int .i64 x_9.phase) (Try.isAgg3 _) ?_
  refine pu1 <| nilO <| thenK_n <| ?_
  refine cN x_9.phase 4 (fun hc_16 => ?_) (fun hc_16 => ?_)
  rotate_left
  · refine seqE <| regionE <| pu2 <| nilO <| thenK_n <| retE <| thenK_r <| retT [.slice none 0 0, .int .i64 20] <| ?_
    have hS_30 := Sat.nilc hS_7
    have hS_31 : Sat W _ ([] :: ((Tri p 81 (preP F.cfg wb wo wn wk q m) (([] : List Ref).flatMap encRef) (encStt F.st)) ++ (Wc ++ (acs.flatten ++ (dcs.flatten ++ (Qc ++ (Jc ++ jcs.flatten)))))) :: H :: F0) := Sat.perm (show Sat W _ ([] :: (Tri p 81 (preP F.cfg wb wo wn wk q m) (([] : List Ref).flatMap encRef) (encStt F.st)) :: Wc :: acs.flatten :: dcs.flatten :: Qc :: Jc :: jcs.flatten :: H :: F0) from hS_30) (by simp)
    have he : restartF F x = (F, [], 20) := by unfold restartF wAt; rw [if_neg (fun k => k ⟨by omega, by omega⟩), getD_some hv0, if_neg (by omega)]
    rw [he]; exact ⟨_, _, _, _, _, rfl, (OwnT.nil (enc := encEvt) (E := 50) (sz := 7) (fun _ => rfl)), ⟨_, _, _, _, _, _, _, _, _, _, _, _, _, _, rfl, hOw, hco, hAs, hDs, hQ, hM, hJs⟩, hS_31⟩
  refine skipE <| thenK_n <| seqE <| regionE <| pu1 ?_
  have hS_17 := ((hS_7.pick 2 rfl).pick 2 rfl)
  refine cX Try.call68 (p_rest hOw hAs hx_12 0 hS_17) ?_
  rintro _ w_18 ⟨Wc_20, acs_21, rfl, hO_22, hA_23, hS_19⟩
  refine nilO <| thenK_n <| seqE <| regionE <| pu2 ?_
  refine sBS hS_19 #[.int .i64 11, .int .i64 x, .int .i64 0, .int .i64 0, .int .i64 0, .int .i64 0, .int .i64 0] Try.runUnderlying44 Try.sizeOf50 Try.zeroValue50 ?_
  intro b_24 w_25 hS_26
  refine pu2 <| nilO <| thenK_n <| retE <| retT [.slice (some ⟨b_24, 0, none⟩) 1 1, .int .i64 0] <| ?_
  have hO_27 := OwnT.blk (enc := encEvt) (sz := 7) (b := b_24) (c := #[.int .i64 11, .int .i64 x, .int .i64 0, .int .i64 0, .int .i64 0, .int .i64 0, .int .i64 0]) (E := 50) (xs := [(⟨11, x, 0, 0, 0, 0, 0⟩ : Evt)]) (fun _ => rfl) 1 rfl rfl rfl (by omega)
  have hS_28 := ((hS_26.pick 3 rfl).pick 1 rfl)
  have hS_29 : Sat W _ ([(b_24, .cells #[.int .i64 11, .int .i64 x, .int .i64 0, .int .i64 0, .int .i64 0, .int .i64 0, .int .i64 0] 50 (0, 0))] :: ((Tri p 81 (preP F.cfg wb wo wn wk q m) (([] : List Ref).flatMap encRef) (encStt F.st)) ++ (Wc_20 ++ (acs_21.flatten ++ (dcs.flatten ++ (Qc ++ (Jc ++ jcs.flatten)))))) :: H :: F0) := Sat.perm (show Sat W _ ([(b_24, .cells #[.int .i64 11, .int .i64 x, .int .i64 0, .int .i64 0, .int .i64 0, .int .i64 0, .int .i64 0] 50 (0, 0))] :: (Tri p 81 (preP F.cfg wb wo wn wk q m) (([] : List Ref).flatMap encRef) (encStt F.st)) :: Wc_20 :: acs_21.flatten :: dcs.flatten :: Qc :: Jc :: jcs.flatten :: H :: F0) from hS_28) (by simp)
  have he : restartF F x = ((⟨F.cfg, (F.ws.set x.toNat ⟨0, 0, 0, 0, 0, 0, (F.ar.getD x.toNat default).high⟩), (F.ar.set (x).toNat (resetA (F.ar.getD (x).toNat default))), F.dq, F.q, F.jobs, F.st⟩ : FS), [(⟨11, x, 0, 0, 0, 0, 0⟩ : Evt)], 0) := (by unfold restartF wAt idleF; rw [if_neg (fun k => k ⟨by omega, by omega⟩), getD_some hv0, if_pos (by omega), har9 (by omega)]; rfl)
  rw [he]; exact ⟨_, _, _, _, _, rfl, hO_27, ⟨_, _, _, _, _, _, _, _, _, _, _, _, _, _, rfl, hO_22, (core_set hco rfl), (by rw [map_setA (x' := (⟨0, 0, 0, 0, 0, x_9.a, x_9.d⟩ : PW)) hx_12 rfl]; exact hA_23), (by rw [map_setD (x' := (⟨0, 0, 0, 0, 0, x_9.a, x_9.d⟩ : PW)) hx_12 rfl]; exact hDs), hQ, hM, hJs⟩, hS_29⟩
end Go.Proofs.Ytegmennaekipaaa
