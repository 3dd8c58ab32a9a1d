import Derived.Test.YtegmennaekipaaaPf8
namespace Go.Proofs.Ytegmennaekipaaa
open Go Go.E
set_option linter.unusedVariables false
set_option linter.unusedSimpArgs false
set_option linter.unnecessarySimpa false
set_option maxRecDepth 100000
set_option maxHeartbeats 2000000
variable {W w : World} {H : Chunk} {F : List Chunk}
theorem pf_workers {p : Nat} {F : FS} {M : Chunk} {F0 : List Chunk} (hR : FarmP p F M) {K : Int} (hF : FI F K)  (hS : Sat W w (M :: H :: F0)) :
    Calls Try.prog 29 #[.pointer (some ⟨p, 0, none⟩)] w fun e w' => ∃ (az : Option Addr) (nz kz : Nat) (Z : Chunk), e = .returned (.slice az nz kz) ∧ OwnT encWkr 61 7 az nz kz F.ws Z ∧ Sat W w' (Z :: M :: H :: F0) := by
  obtain ⟨wb, wo, wn, wk, q, m, xs, jm, Wc, Qc, Jc, acs, dcs, jcs, rfl, hOw, hco, hAs, hDs, hQ, hM, hJs⟩ := hR
  have hS_1 : Sat W _ ((Tri p 81 (preP F.cfg wb wo wn wk q m) (([] : List Ref).flatMap encRef) (encStt F.st)) :: Wc :: acs.flatten :: dcs.flatten :: Qc :: Jc :: jcs.flatten :: H :: F0) := Sat.perm hS (by simp)
  have hwl := hOw.len; have hwk := hOw.le; have hcl := core_len hco; have has1 := hAs.1; have hds1 := hDs.1; rw [List.length_map] at has1 hds1; have hjl1 := hJs.l
  have hs1 := hF.st.a; have hs2 := hF.st.b; have hs3 := hF.st.c; have hs4 := hF.st.d; have hs5 := hF.st.e; have hs6 := hF.st.f; have hs7 := hF.st.g; have hKK := hF.fw.k; have hn9 := hF.fw.n; have hal9 := hF.fw.al; have hdl9 := hF.fw.dl; have hjl9 := hF.fw.jl
  refine callsA 54 Try.func29 rfl ?_
  refine seqE <| regionE <| pu1 <| nilO <| thenK_n <| seqE <| seqE <| regionE <| pu1 ?_
  refine cX Try.call45 (p_empty ⟨by omega, by omega⟩ hS_1) ?_
  rintro _ w_2 ⟨rfl, hS_4⟩
  refine nilO <| thenK_n <| cFf <| skipE <| thenK_n <| seqE <| regionE <| pu1 <| nilO <| thenK_n <| seqE <| seqE <| regionE <| pu3 ?_
  refine sLp hS_4 (ptr_up 0 rfl tri_pre) 8 (.slice (some ⟨wb, wo, none⟩) wn wk) (Try.isAgg79 _) ?_
  refine pu2 <| nilO <| thenK_n <| blockE ?_
  have hS_5 := Sat.nilc hS_4
  have hO_6 := OwnT.nil (enc := encWkr) (E := 61) (sz := 7) (fun _ => rfl)
  refine loopA (γ := Nat × (List Wkr) × (Option Addr) × Nat × Nat × Chunk) (fun ⟨i, zs, azs, nzs, kzs, czs⟩ => [(0, .pointer (some ⟨p, 0, none⟩)), (12, .int .i64 ((wn : Nat) : Int)), (13, .int .i64 ((i : Nat) : Int)), (3, .slice azs nzs kzs)]) (fun ⟨i, zs, azs, nzs, kzs, czs⟩ w => Sat W w (czs :: (Tri p 81 (preP F.cfg wb wo wn wk q m) (([] : List Ref).flatMap encRef) (encStt F.st)) :: Wc :: acs.flatten :: dcs.flatten :: Qc :: Jc :: jcs.flatten :: H :: F0) ∧ i ≤ wn ∧ (zs = F.ws.take i) ∧ (zs.length ≤ i) ∧ OwnT encWkr 61 7 azs nzs kzs zs czs) (fun ⟨i, zs, azs, nzs, kzs, czs⟩ => wn - i) (0, [], none, 0, 0, []) ⟨hS_5, by omega, rfl, (by simp), hO_6⟩ ?_
  rintro ⟨i, zs, azs, nzs, kzs, czs⟩ ρ w_7 ⟨hS_8, hi, hz, hzl, hOzs⟩
  have hn_zs := hOzs.len; have hl_zs := hOzs.le
  refine seqE <| regionE <| pu1 <| nilO <| thenK_n <| seqE ?_
  refine cD (((i : Nat) : Int) < ((wn : Nat) : Int)) (fun hc_9 => ?_) (fun hc_9 => ?_)
  rotate_left
  · refine exitE <| thenK_x <| thenK_x <| blockK_x <| thenK_n <| seqE <| regionE <| pu2 <| nilO <| thenK_n <| retE <| retT [.slice azs nzs kzs] <| ?_
    have hzf : zs = F.ws := by rw [hz, List.take_of_length_le (by omega)]
    have hOf := hOzs; rw [hzf] at hOf
    have hS_51 : Sat W _ (czs :: ((Tri p 81 (preP F.cfg wb wo wn wk q m) (([] : List Ref).flatMap encRef) (encStt F.st)) ++ (Wc ++ (acs.flatten ++ (dcs.flatten ++ (Qc ++ (Jc ++ jcs.flatten)))))) :: H :: F0) := Sat.perm (show Sat W _ (czs :: (Tri p 81 (preP F.cfg wb wo wn wk q m) (([] : List Ref).flatMap encRef) (encStt F.st)) :: Wc :: acs.flatten :: dcs.flatten :: Qc :: Jc :: jcs.flatten :: H :: F0) from hS_8) (by simp)
    exact ⟨_, _, _, _, rfl, hOf, hS_51⟩
  refine skipE <| thenK_n <| seqE <| blockE <| seqE <| regionE <| pu2 <| nilO <| thenK_n <| seqE <| regionE <| pu3 ?_
  refine sLp hS_8 (ptr_up 1 rfl tri_pre) 8 (.slice (some ⟨wb, wo, none⟩) wn wk) (Try.isAgg79 _) ?_
  refine pu1 ?_
  refine sIdxO hOw ((i : Nat) : Int) i Try.runUnderlying79 Try.sizeOf89 ?_
  intro x_10 b_11 o_12 hx_13 hp_14 hq_15
  obtain ⟨rfl, rfl⟩ := some_addr hq_15
  obtain ⟨v_16, hv_16, hv_160, hv_161, hv_162, hv_163, hv_164⟩ := core_at hco hx_13
  refine pu1 <| nilO <| thenK_n <| ?_
  refine drawE [21, 26, 28, 29] [(4, ⟨wb, wo + i * 7 + 0, none⟩, .int .i64 x_10.phase), (8, ⟨wb, wo + i * 7 + 1 + 0, none⟩, .int .i64 x_10.heldJob), (8, ⟨wb, wo + i * 7 + 1 + 1, none⟩, .int .i64 x_10.heldTask), (12, ⟨wb, wo + i * 7 + 3, none⟩, .int .i64 x_10.attempt), (16, ⟨wb, wo + i * 7 + 4, none⟩, .int .i64 x_10.row), (20, ⟨wb, wo + i * 7 + 5, none⟩, .pointer (some ⟨x_10.a, 0, none⟩)), (25, ⟨wb, wo + i * 7 + 5, none⟩, .pointer (some ⟨x_10.a, 0, none⟩))] [(true, [0, 1, 2, 3, 5, 6, 7, 9, 10, 11, 13, 14, 15, 17, 18, 19, 22, 23, 24]), (true, [4]), (true, [8]), (true, [12]), (true, [16]), (true, [20]), (true, [25]), (false, [21]), (false, [26]), (true, [27]), (false, [28]), (false, [29]), (true, [30])] rfl (by kernel_rfl) ⟨.inr ((hp_14.up 2 rfl).cell hS_8 (k := 0) rfl), .inr ((hp_14.up 2 rfl).cell hS_8 (k := 1) rfl), .inr ((hp_14.up 2 rfl).cell hS_8 (k := 2) rfl), .inr ((hp_14.up 2 rfl).cell hS_8 (k := 3) rfl), .inr ((hp_14.up 2 rfl).cell hS_8 (k := 4) rfl), .inr ((hp_14.up 2 rfl).cell hS_8 (k := 5) rfl), .inr ((hp_14.up 2 rfl).cell hS_8 (k := 5) rfl), trivial⟩ ?_
  have hS_17 := hS_8.drew
  refine wU [0, 1, 2, 3, 5, 6, 7, 9, 10, 11, 13, 14, 15, 17, 18, 19, 22, 23, 24] ?_
  refine wLd (.int .i64 x_10.phase) 0 Try.isAgg3 ?_
  refine wY (.agg #[.int .i64 x_10.heldJob, .int .i64 x_10.heldTask]) rfl (fun w hF => Y_loadF rfl (Try.isAgg48 w) (Try.sizeOf48 w) (by kernel_rfl) rfl ⟨hF 1 _ _ rfl, hF 2 _ _ rfl, trivial⟩) ?_
  refine wLd (.int .i64 x_10.attempt) 3 Try.isAgg3 ?_
  refine wLd (.int .i64 x_10.row) 4 Try.isAgg3 ?_
  refine wLd (.pointer (some ⟨x_10.a, 0, none⟩)) 5 Try.isAgg82 ?_
  refine wLd (.pointer (some ⟨x_10.a, 0, none⟩)) 6 Try.isAgg82 ?_
  refine wO rfl ?_
  obtain ⟨s_18, c_19, hs_20, hc_21, hR_22⟩ := Obs.get hAs (map_at' hx_13)
  have hS_24 := (hS_17.pick 3 rfl)
  have hS_23 := Sat.openN (A := []) i hc_21 hS_24
  refine cX Try.call62 (pa_used hR_22  (Sat.flat1 hS_23)) ?_
  rintro _ w_25 ⟨rfl, hS_26⟩
  have hS_27 := Sat.unflat1 hS_26
  have hS_28 := ((hS_27.pick 1 rfl).pick 1 rfl)
  have hS_29 := Sat.shutN (d := c_19) (A := []) i hc_21 hS_28
  rw [set_same hc_21] at hS_29
  refine nilO ⟨⟨.inr ((hp_14.up 3 rfl).cell hS_29 (k := 0) rfl), .inr ((hp_14.up 3 rfl).cell hS_29 (k := 1) rfl), .inr ((hp_14.up 3 rfl).cell hS_29 (k := 2) rfl), .inr ((hp_14.up 3 rfl).cell hS_29 (k := 3) rfl), .inr ((hp_14.up 3 rfl).cell hS_29 (k := 4) rfl), .inl (by kernel_rfl), .inr ((hp_14.up 3 rfl).cell hS_29 (k := 5) rfl), trivial⟩, ?_⟩
  refine wO rfl ?_
  obtain ⟨s_30, c_31, hs_32, hc_33, hR_34⟩ := Obs.get hAs (map_at' hx_13)
  have hS_35 := Sat.openN (A := []) i hc_33 hS_29
  refine cX Try.call63 (pa_high hR_34  (Sat.flat1 hS_35)) ?_
  rintro _ w_36 ⟨rfl, hS_37⟩
  have hS_38 := Sat.unflat1 hS_37
  have hS_39 := ((hS_38.pick 1 rfl).pick 1 rfl)
  have hS_40 := Sat.shutN (d := c_31) (A := []) i hc_33 hS_39
  rw [set_same hc_33] at hS_40
  refine nilO ⟨⟨.inr ((hp_14.up 3 rfl).cell hS_40 (k := 0) rfl), .inr ((hp_14.up 3 rfl).cell hS_40 (k := 1) rfl), .inr ((hp_14.up 3 rfl).cell hS_40 (k := 2) rfl), .inr ((hp_14.up 3 rfl).cell hS_40 (k := 3) rfl), .inr ((hp_14.up 3 rfl).cell hS_40 (k := 4) rfl), .inl (by kernel_rfl), .inl (by kernel_rfl), trivial⟩, ?_⟩
  refine wU [27] ?_
  refine wO rfl ?_
  refine sBS hS_40 #[.int .i64 x_10.phase, .int .i64 x_10.heldJob, .int .i64 x_10.heldTask, .int .i64 x_10.attempt, .int .i64 x_10.row, .int .i64 ((s_18).used), .int .i64 ((s_30).high)] Try.runUnderlying57 Try.sizeOf61 Try.zeroValue61 ?_
  intro b_41 w_42 hS_43
  refine nilO ⟨⟨.inr ((hp_14.up 4 rfl).cell hS_43 (k := 0) rfl), .inr ((hp_14.up 4 rfl).cell hS_43 (k := 1) rfl), .inr ((hp_14.up 4 rfl).cell hS_43 (k := 2) rfl), .inr ((hp_14.up 4 rfl).cell hS_43 (k := 3) rfl), .inr ((hp_14.up 4 rfl).cell hS_43 (k := 4) rfl), .inl (by kernel_rfl), .inl (by kernel_rfl), trivial⟩, ?_⟩
  refine wO rfl ?_
  refine sApp (nb := 56) hS_43 hOzs 2 (RdT.blk (enc := encWkr) (sz := 7) (xs := [(⟨x_10.phase, x_10.heldJob, x_10.heldTask, x_10.attempt, x_10.row, (s_18).used, (s_30).high⟩ : Wkr)]) (fun _ => rfl) 1 0 rfl rfl rfl (by omega)) Try.underlying57 (i := Try.t61) (by kernel_rfl) (fun _ => rfl) ?_
  intro a_44 cap_45 c_46 w_47 hO_48 hS_49
  refine nilO ⟨⟨.inr ((hp_14.up 4 rfl).cell hS_49 (k := 0) rfl), .inr ((hp_14.up 4 rfl).cell hS_49 (k := 1) rfl), .inr ((hp_14.up 4 rfl).cell hS_49 (k := 2) rfl), .inr ((hp_14.up 4 rfl).cell hS_49 (k := 3) rfl), .inr ((hp_14.up 4 rfl).cell hS_49 (k := 4) rfl), .inl (by kernel_rfl), .inl (by kernel_rfl), trivial⟩, ?_⟩
  refine wU [30] ?_
  refine wN ?_
  refine blockK_n <| thenK_n <| regionE ?_
  refine sAdd ((i : Nat) : Int) 1 ?_
  refine pu1 <| nilO <| thenK_n <| ?_
  have hA9 := hF.a.a _ _ _ hv_16 hs_32; have hA8 := hF.a.a _ _ _ hv_16 hs_20; have hlit : (⟨x_10.phase, x_10.heldJob, x_10.heldTask, x_10.attempt, x_10.row, (s_18).used, (s_30).high⟩ : Wkr) = v_16 := wkr_eq hv_160 hv_161 hv_162 hv_163 hv_164 hA8.u.symm hA9.h.symm
  have hS_50 := ((((hS_49.pick 4 rfl).pick 4 rfl).pick 4 rfl).dropAt 3 rfl)
  exact ⟨(i + 1, (zs ++ [(⟨x_10.phase, x_10.heldJob, x_10.heldTask, x_10.attempt, x_10.row, (s_18).used, (s_30).high⟩ : Wkr)]), a_44, (nzs + 1), cap_45, c_46), by first | omega | (dsimp only; omega), alA, hS_50, by omega, (by rw [hlit, hz, take_succ_at hv_16]), (by first | omega | (simp; omega)), hO_48⟩
theorem pf_stats {p : Nat} {F : FS} {M : Chunk} {F0 : List Chunk} (hR : FarmP p F M) {K : Int} (hF : FI F K) (hsb : F.st.held = 0) (hS : Sat W w (M :: H :: F0)) :
    Calls Try.prog 28 #[.pointer (some ⟨p, 0, none⟩)] w fun e w' => e = .returned (.agg (encStt (statsF F)).toArray) ∧ Sat W w' (M :: H :: F0) := by
  obtain ⟨wb, wo, wn, wk, q, m, xs, jm, Wc, Qc, Jc, acs, dcs, jcs, rfl, hOw, hco, hAs, hDs, hQ, hM, hJs⟩ := hR
  have hS_1 : Sat W _ ((Tri p 81 (preP F.cfg wb wo wn wk q m) (([] : List Ref).flatMap encRef) (encStt F.st)) :: Wc :: acs.flatten :: dcs.flatten :: Qc :: Jc :: jcs.flatten :: H :: F0) := Sat.perm hS (by simp)
  have hwl := hOw.len; have hwk := hOw.le; have hcl := core_len hco; have has1 := hAs.1; have hds1 := hDs.1; rw [List.length_map] at has1 hds1; have hjl1 := hJs.l
  have hs1 := hF.st.a; have hs2 := hF.st.b; have hs3 := hF.st.c; have hs4 := hF.st.d; have hs5 := hF.st.e; have hs6 := hF.st.f; have hs7 := hF.st.g; have hKK := hF.fw.k; have hn9 := hF.fw.n; have hal9 := hF.fw.al; have hdl9 := hF.fw.dl; have hjl9 := hF.fw.jl
  have htq := hF.q.small hF.fw; have htl := load_max hF.fw; have htn : 0 ≤ totB F.q.bs := by unfold totB; exact Int.natCast_nonneg _
  refine callsA 50 Try.func28 rfl ?_
  refine seqE <| regionE ?_
  refine sAlloc hS_1 Try.zeroValue55 ?_
  intro b_2 w_3 hS_4
  refine nilO <| thenK_n <| seqE <| seqE <| regionE <| pu1 ?_
  have hS_8 := (hS_4.pick 1 rfl)
  refine cX Try.call45 (p_empty ⟨by omega, by omega⟩ hS_8) ?_
  rintro _ w_5 ⟨rfl, hS_7⟩
  refine nilO <| thenK_n <| cFf <| skipE <| thenK_n <| seqE <| regionE <| pu3 ?_
  refine sLpA hS_7 (ptr_up 0 rfl (tri_post (k := 11) (tri_len (sz := 2) (m := 11) (fun _ => rfl) (rfl : ([] : List Ref).length = 0)))) 0 (encStt F.st) (Try.isAgg55 _) (Try.sizeOf55 _) ?_
  refine sAlloc hS_7 Try.zeroValue55 ?_
  intro b_9 w_10 hS_11
  refine sT hS_11 0 0 (.agg (encStt F.st).toArray) (encStt F.st) (encStt F.st).toArray Try.sizeOf55 ?_
  intro w_12 hS_13
  refine nilO <| thenK_n <| seqE <| regionE <| pu3 ?_
  refine sLp hS_13 (ptr_up 1 rfl tri_pre) 9 (.pointer (some ⟨q, 0, none⟩)) (Try.isAgg75 _) ?_
  have hS_14 := (hS_13.pick 6 rfl)
  refine cX Try.call60 (pq_len hQ  (Sat.flat1 hS_14)) ?_
  rintro _ w_15 ⟨rfl, hS_16⟩
  have hS_17 := Sat.unflat1 hS_16
  refine pu1 ?_
  refine tW hS_17 1 7 (.int .i64 (totB F.q.bs)) Try.sizeOf3 ?_
  intro w_18 hS_19
  refine nilO <| thenK_n <| seqE <| seqE <| regionE <| pu3 ?_
  refine sLp hS_19 (ptr_up 2 rfl tri_pre) 8 (.slice (some ⟨wb, wo, none⟩) wn wk) (Try.isAgg79 _) ?_
  refine pu2 <| nilO <| thenK_n <| blockE ?_
  refine loopA (γ := Nat × Int × Int) (fun ⟨i, qd, hd⟩ => [(0, .pointer (some ⟨p, 0, none⟩)), (2, .pointer (some ⟨b_2, 0, none⟩)), (3, .pointer (some ⟨b_9, 0, none⟩)), (23, .int .i64 ((wn : Nat) : Int)), (24, .int .i64 ((i : Nat) : Int))]) (fun ⟨i, qd, hd⟩ w => Sat W w (Qc :: [(b_9, .cells #[.int .i64 F.st.starts, .int .i64 F.st.commits, .int .i64 F.st.drops, .int .i64 F.st.crashes, .int .i64 F.st.steals, .int .i64 F.st.helps, .int .i64 F.st.spills, .int .i64 qd, .int .i64 hd, .int .i64 F.st.cells] 55 (0, 0))] :: (Tri p 81 (preP F.cfg wb wo wn wk q m) (([] : List Ref).flatMap encRef) (encStt F.st)) :: [(b_2, .cells #[.int .i64 0, .int .i64 0, .int .i64 0, .int .i64 0, .int .i64 0, .int .i64 0, .int .i64 0, .int .i64 0, .int .i64 0, .int .i64 0] 55 (0, 0))] :: Wc :: acs.flatten :: dcs.flatten :: Jc :: jcs.flatten :: H :: F0) ∧ i ≤ wn ∧ (qd = totB F.q.bs + sumD (F.dq.take i)) ∧ (hd = F.st.held + heldN (F.ws.take i)) ∧ (0 ≤ qd ∧ qd ≤ 4611686018427387904 + 256 * i) ∧ (hd ≤ 4611686018427387904 + i ∧ -4611686018427387904 ≤ hd)) (fun ⟨i, qd, hd⟩ => wn - i) (0, (totB F.q.bs), F.st.held) ⟨hS_19, by omega, (by simp [sumD]), (by simp [heldN]), by omega, by omega⟩ ?_
  rintro ⟨i, qd, hd⟩ ρ w_20 ⟨hS_21, hi, hqd, hhd, hqb, hhb⟩
  refine seqE <| regionE <| pu1 <| nilO <| thenK_n <| seqE ?_
  refine cD (((i : Nat) : Int) < ((wn : Nat) : Int)) (fun hc_22 => ?_) (fun hc_22 => ?_)
  rotate_left
  · refine exitE <| thenK_x <| thenK_x <| blockK_x <| thenK_n <| seqE <| regionE ?_
    refine lA hS_21 1 0 10 (Try.isAgg55 _) (Try.sizeOf55 _) ?_
    refine sT hS_21 3 0 (.agg #[.int .i64 F.st.starts, .int .i64 F.st.commits, .int .i64 F.st.drops, .int .i64 F.st.crashes, .int .i64 F.st.steals, .int .i64 F.st.helps, .int .i64 F.st.spills, .int .i64 qd, .int .i64 hd, .int .i64 F.st.cells]) [.int .i64 F.st.starts, .int .i64 F.st.commits, .int .i64 F.st.drops, .int .i64 F.st.crashes, .int .i64 F.st.steals, .int .i64 F.st.helps, .int .i64 F.st.spills, .int .i64 qd, .int .i64 hd, .int .i64 F.st.cells] #[.int .i64 F.st.starts, .int .i64 F.st.commits, .int .i64 F.st.drops, .int .i64 F.st.crashes, .int .i64 F.st.steals, .int .i64 F.st.helps, .int .i64 F.st.spills, .int .i64 qd, .int .i64 hd, .int .i64 F.st.cells] Try.sizeOf55 ?_
    intro w_55 hS_56
    refine nilO <| thenK_n <| retE <| retN (vs := [.agg #[.int .i64 F.st.starts, .int .i64 F.st.commits, .int .i64 F.st.drops, .int .i64 F.st.crashes, .int .i64 F.st.steals, .int .i64 F.st.helps, .int .i64 F.st.spills, .int .i64 qd, .int .i64 hd, .int .i64 F.st.cells]]) rfl (.cons (.cell _ _ _ _ (by kernel_rfl) (lvA hS_56 3 0 [.int .i64 F.st.starts, .int .i64 F.st.commits, .int .i64 F.st.drops, .int .i64 F.st.crashes, .int .i64 F.st.steals, .int .i64 F.st.helps, .int .i64 F.st.spills, .int .i64 qd, .int .i64 hd, .int .i64 F.st.cells] (Try.isAgg55 _) (Try.sizeOf55 _) rfl rfl rfl)) .nil) <| ?_
    have hS_57 : Sat W _ ((Tri p 81 (preP F.cfg wb wo wn wk q m) (([] : List Ref).flatMap encRef) (encStt F.st)) :: Wc :: acs.flatten :: dcs.flatten :: Qc :: Jc :: jcs.flatten :: H :: F0) := ((((((hS_56.pick 6 rfl).pick 6 rfl).pick 6 rfl).pick 5 rfl).dropAt 5 rfl).dropAt 5 rfl)
    have hS_59 : Sat W _ (((Tri p 81 (preP F.cfg wb wo wn wk q m) (([] : List Ref).flatMap encRef) (encStt F.st)) ++ (Wc ++ (acs.flatten ++ (dcs.flatten ++ (Qc ++ (Jc ++ jcs.flatten)))))) :: H :: F0) := Sat.perm (show Sat W _ ((Tri p 81 (preP F.cfg wb wo wn wk q m) (([] : List Ref).flatMap encRef) (encStt F.st)) :: Wc :: acs.flatten :: dcs.flatten :: Qc :: Jc :: jcs.flatten :: H :: F0) from hS_57) (by simp)
    rw [List.take_of_length_le (by omega)] at hqd hhd
    exact ⟨by rw [hqd, hhd]; rfl, hS_59⟩
  refine skipE <| thenK_n <| seqE <| blockE <| seqE <| regionE <| pu2 <| nilO <| thenK_n <| seqE <| regionE <| pu3 ?_
  refine sLp hS_21 (ptr_up 2 rfl tri_pre) 8 (.slice (some ⟨wb, wo, none⟩) wn wk) (Try.isAgg79 _) ?_
  refine pu1 ?_
  refine sIdxO hOw ((i : Nat) : Int) i Try.runUnderlying79 Try.sizeOf89 ?_
  intro x_23 b_24 o_25 hx_26 hp_27 hq_28
  obtain ⟨rfl, rfl⟩ := some_addr hq_28
  obtain ⟨v_29, hv_29, hv_290, hv_291, hv_292, hv_293, hv_294⟩ := core_at hco hx_26
  refine pu1 <| nilO <| thenK_n <| seqE ?_
  refine drawE [6, 9] [(1, ⟨b_9, 7, none⟩, .int .i64 qd), (5, ⟨wb, wo + i * 7 + 6, none⟩, .pointer (some ⟨x_23.d, 0, none⟩))] [(true, [0, 2, 3, 4]), (true, [1]), (true, [5]), (false, [6]), (true, [7]), (true, [8]), (false, [9])] rfl (by kernel_rfl) ⟨.inr (hS_21.cell 1 rfl rfl), .inr ((hp_27.up 4 rfl).cell hS_21 (k := 6) rfl), trivial⟩ ?_
  have hS_30 := hS_21.drew
  refine wU [0, 2, 3, 4] ?_
  refine wLd (.int .i64 qd) 0 Try.isAgg3 ?_
  refine wLd (.pointer (some ⟨x_23.d, 0, none⟩)) 1 Try.isAgg85 ?_
  refine wO rfl ?_
  obtain ⟨s_31, c_32, hs_33, hc_34, hR_35⟩ := Obs.get hDs (map_at' hx_26)
  have hS_37 := (hS_30.pick 6 rfl)
  have hS_36 := Sat.openN (A := []) i hc_34 hS_37
  have hbd_s_31 := DqP.bd hR_35
  refine cX Try.call61 (pd_len hR_35  (Sat.flat1 hS_36)) ?_
  rintro _ w_38 ⟨rfl, hS_39⟩
  have hS_40 := Sat.unflat1 hS_39
  have hS_41 := ((hS_40.pick 1 rfl).pick 1 rfl)
  have hS_42 := Sat.shutN (d := c_32) (A := []) i hc_34 hS_41
  rw [set_same hc_34] at hS_42
  refine nilO ⟨⟨.inr (hS_42.cell 2 rfl rfl), .inl (by kernel_rfl), trivial⟩, ?_⟩
  refine wAdd qd (((s_31).l.length : Nat) : Int) ?_
  refine wU [8] ?_
  refine wO rfl ?_
  refine tW hS_42 2 7 (.int .i64 (qd + (((s_31).l.length : Nat) : Int))) Try.sizeOf3 ?_
  intro w_43 hS_44
  refine nilO ⟨⟨.inl (by kernel_rfl), .inl (by kernel_rfl), trivial⟩, ?_⟩
  refine wN ?_
  refine thenK_n <| seqE <| regionE <| pu1 ?_
  have hS_45 := (hS_44.pick 5 rfl)
  refine cX Try.call52 (p_holds (x := x_23) hp_27 hS_45) ?_
  rintro _ w_46 ⟨rfl, hS_47⟩
  refine nilO <| thenK_n <| ?_
  refine cD (x_23.phase ≠ 0 ∧ x_23.phase ≠ 4) (fun hc_48 => ?_) (fun hc_48 => ?_)
  rotate_left
  · refine skipE <| blockK_n <| thenK_n <| regionE ?_
    refine sAdd ((i : Nat) : Int) 1 ?_
    refine pu1 <| nilO <| thenK_n <| ?_
    have hph_v_29 : holdsB v_29 = false := by unfold holdsB; exact decide_eq_false (by omega)
    have hS_53 : Sat W _ (Qc :: [(b_9, .cells #[.int .i64 F.st.starts, .int .i64 F.st.commits, .int .i64 F.st.drops, .int .i64 F.st.crashes, .int .i64 F.st.steals, .int .i64 F.st.helps, .int .i64 F.st.spills, .int .i64 (qd + (((s_31).l.length : Nat) : Int)), .int .i64 hd, .int .i64 F.st.cells] 55 (0, 0))] :: (Tri p 81 (preP F.cfg wb wo wn wk q m) (([] : List Ref).flatMap encRef) (encStt F.st)) :: [(b_2, .cells #[.int .i64 0, .int .i64 0, .int .i64 0, .int .i64 0, .int .i64 0, .int .i64 0, .int .i64 0, .int .i64 0, .int .i64 0, .int .i64 0] 55 (0, 0))] :: Wc :: acs.flatten :: dcs.flatten :: Jc :: jcs.flatten :: H :: F0) := ((((((hS_47.pick 6 rfl).pick 1 rfl).pick 6 rfl).pick 6 rfl).pick 6 rfl).pick 6 rfl)
    exact ⟨(i + 1, (qd + (((s_31).l.length : Nat) : Int)), hd), by first | omega | (dsimp only; omega), alA, hS_53, by omega, (by rw [sumD_take hs_33]; omega), (by rw [heldN_take hv_29, hph_v_29]; simp; omega), by omega, by omega⟩
  refine regionE <| pu1 ?_
  refine sL hS_47 3 8 (.int .i64 hd) (Try.isAgg3 _) ?_
  refine sAdd hd 1 ?_
  refine pu1 ?_
  refine tW hS_47 3 8 (.int .i64 (hd + 1)) Try.sizeOf3 ?_
  intro w_49 hS_50
  refine nilO <| blockK_n <| thenK_n <| regionE ?_
  refine sAdd ((i : Nat) : Int) 1 ?_
  refine pu1 <| nilO <| thenK_n <| ?_
  have hph_v_29 : holdsB v_29 = true := by unfold holdsB; exact decide_eq_true (by have := fun h => (hF.h.z _ _ hv_29 h).2.2.2.2; unfold Holds at this; omega)
  have hS_51 : Sat W _ (Qc :: [(b_9, .cells #[.int .i64 F.st.starts, .int .i64 F.st.commits, .int .i64 F.st.drops, .int .i64 F.st.crashes, .int .i64 F.st.steals, .int .i64 F.st.helps, .int .i64 F.st.spills, .int .i64 (qd + (((s_31).l.length : Nat) : Int)), .int .i64 (hd + 1), .int .i64 F.st.cells] 55 (0, 0))] :: (Tri p 81 (preP F.cfg wb wo wn wk q m) (([] : List Ref).flatMap encRef) (encStt F.st)) :: [(b_2, .cells #[.int .i64 0, .int .i64 0, .int .i64 0, .int .i64 0, .int .i64 0, .int .i64 0, .int .i64 0, .int .i64 0, .int .i64 0, .int .i64 0] 55 (0, 0))] :: Wc :: acs.flatten :: dcs.flatten :: Jc :: jcs.flatten :: H :: F0) := ((((((hS_50.pick 6 rfl).pick 1 rfl).pick 6 rfl).pick 6 rfl).pick 6 rfl).pick 6 rfl)
  exact ⟨(i + 1, (qd + (((s_31).l.length : Nat) : Int)), (hd + 1)), by first | omega | (dsimp only; omega), alA, hS_51, by omega, (by rw [sumD_take hs_33]; omega), (by rw [heldN_take hv_29, hph_v_29]; simp; omega), by omega, by omega⟩
end Go.Proofs.Ytegmennaekipaaa
