import Derived.Test.YtegmennaekipaaaPf2
namespace Go.Proofs.Ytegmennaekipaaa
open Go Go.E
set_option linter.unusedVariables false
set_option linter.unusedSimpArgs false
set_option linter.unnecessarySimpa false
set_option maxRecDepth 100000
set_option maxHeartbeats 2000000
variable {W w : World} {H : Chunk} {F : List Chunk}
/-- Boards have at most 12 tasks (slices.Sort is walked for so many). -/
def F12 (F : FS) : Prop := ∀ q ∈ shapeF F.jobs, q.2 ≤ 12
theorem F12.job {F : FS} (h : F12 F) {k : Nat} {j : JS} (hj : F.jobs[k]? = some j) : j.tasks.length ≤ 12 := h (j.added, j.tasks.length) (List.mem_map.2 ⟨j, List.mem_of_getElem? hj, rfl⟩)
theorem F12.of {F G : FS} (h : F12 F) (hs : shapeF G.jobs = shapeF F.jobs) : F12 G := by unfold F12; rw [hs]; exact h
theorem done_le {B : BS} (hl : B.st.length = B.deps.length) : doneOf B ≤ ((B.deps.length : Nat) : Int) := by
  unfold doneOf
  have := List.length_filter_le (fun x => decide (x = 4)) B.st
  omega
theorem ar_some {F : FS} {K x : Int} (hF : FW F K) (hx : 0 ≤ x ∧ x < ((F.ws.length : Nat) : Int)) : F.ar[x.toNat]? = some (F.ar.getD x.toNat default) := by
  have h1 : x.toNat < F.ar.length := by rw [hF.al]; omega
  rw [List.getD_eq_getElem?_getD, List.getElem?_eq_getElem h1]; rfl
theorem FI.helpK {F : FS} {K : Int} (h : FI F K) (hK : K + 1 ≤ 4096) : FI (helpF F) (K + 1) := by
  have g := h.help
  refine ⟨(h.fw.mono (by omega) hK).ss, ?_, g.1, g.2.1, g.2.2⟩
  obtain ⟨_, _, _, _, _, _, _⟩ := h.st
  constructor <;> (simp only [helpF]; omega)
theorem busy_holds {F : FS} {v : Wkr} (hb : busyW F v = true) : Holds v ∧ (jobAt F v.heldJob).running = true := by
  unfold busyW at hb
  obtain ⟨h1, h2⟩ := (Bool.and_eq_true _ _).mp hb
  exact ⟨(of_decide_eq_true h1 : _ ∨ _ ∨ _), h2⟩
theorem ref_job {F : FS} {K : Int} (hF : FW F K) {r : Ref} (hr : RefOk (shapeF F.jobs) r) : ∃ j, F.jobs[r.job.toNat]? = some j ∧ j.added = true ∧ 0 ≤ j.band ∧ j.band < 4 := by
  obtain ⟨j, hj, ha, _, _, h1, h2, _, _⟩ := hF.job hr; exact ⟨j, hj, ha, h1, h2⟩
theorem ref_set {F : FS} {K : Int} (hF : FW F K) {k : Nat} {j : JS} {B : BS} (hj : F.jobs[k]? = some j) {r : Ref} (hr : RefOk (shapeF F.jobs) r) : ∃ j', (F.jobs.set k { j with B := B })[r.job.toNat]? = some j' ∧ j'.added = true ∧ 0 ≤ j'.band ∧ j'.band < 4 := by
  obtain ⟨i, hi, ha, h1, h2⟩ := ref_job hF hr
  by_cases e : k = r.job.toNat
  · subst e
    rw [hj] at hi; obtain rfl := Option.some.inj hi
    exact ⟨_, set_at hj, ha, h1, h2⟩
  · exact ⟨i, by rw [List.getElem?_set, if_neg e]; exact hi, ha, h1, h2⟩
theorem pf_commit {p : Nat} {F : FS} {M : Chunk} {F0 : List Chunk} (hR : FarmP p F M) {K : Int} (hF : FI F K) {v0 : Wkr} (x : Int) (hx : 0 ≤ x ∧ x < F.ws.length) (hv0 : F.ws[x.toNat]? = some v0) (hh : Holds v0) (hrun0 : (jobAt F v0.heldJob).running = true) (h12 : F12 F) (hp : v0.phase = 3) (hS : Sat W w (M :: H :: F0)) :
    Calls Try.prog 81 #[.pointer (some ⟨p, 0, none⟩), .int .i64 x] w fun e w' => ∃ M' : Chunk, e = .returned (.agg (encEvt (microF F x).2).toArray) ∧ FarmP p ((microF F x).1) M' ∧ Sat W w' (M' :: H :: F0) := by
  obtain ⟨wb, wo, wn, wk, q, m, xs, jm, Wc, Qc, Jc, acs, dcs, jcs, rfl, hOw, hco, hAs, hDs, hQ, hM, hJs⟩ := hR
  have hS_1 : Sat W _ ((Tri p 81 (preP F.cfg wb wo wn wk q m) (([] : List Ref).flatMap encRef) (encStt F.st)) :: Wc :: acs.flatten :: dcs.flatten :: Qc :: Jc :: jcs.flatten :: H :: F0) := Sat.perm hS (by simp)
  have hwl := hOw.len; have hwk := hOw.le; have hcl := core_len hco; have has1 := hAs.1; have hds1 := hDs.1; rw [List.length_map] at has1 hds1; have hjl1 := hJs.l
  obtain ⟨j, hj, ha, hz⟩ := hF.h.h _ _ hv0 hh; have hjo := hF.fw.j j (List.mem_of_getElem? hj); obtain ⟨hBW, hdl, hb1, hb2⟩ := hjo.b ha; have hjn := hjo.n; have hwo := hF.fw.w v0 (List.mem_of_getElem? hv0); have hk0 := hwo.h; have hr0 := hwo.r; have hlt := held_lt hBW hz; have hph : v0.phase = 1 ∨ v0.phase = 2 ∨ v0.phase = 3 := hh
  obtain ⟨nj_2, bj_2, cj_2, hjmj_2, hjcj_2, hJj_2, hgj_2⟩ := JobsP.get hJs (k := v0.heldJob) ⟨by omega, by omega⟩ hj ha
  obtain ⟨taj_2, tnj_2, tkj_2, tlj_2, bbj_2, Tj_2, Mbj_2, rfl, hTj_2, hDj_2, hVj_2, hBj_2, _, hrj_2⟩ := hJj_2.open
  have hS_3 := (hS_1.pick 6 rfl)
  have hS_4 := Sat.openN (A := []) nj_2 hjcj_2 hS_3
  have hS_5 : Sat W _ ([(bj_2, .cells #[.slice taj_2 tnj_2 tkj_2, .int .i64 j.band, .pointer (some ⟨bbj_2, 0, none⟩), .bool (canc j)] 97 (0, 0))] :: Tj_2 :: Mbj_2 :: (jcs.eraseIdx nj_2).flatten :: (Tri p 81 (preP F.cfg wb wo wn wk q m) (([] : List Ref).flatMap encRef) (encStt F.st)) :: Wc :: acs.flatten :: dcs.flatten :: Qc :: Jc :: H :: F0) := Sat.perm hS_4 (by simp)
  have hn_taj_2 := hTj_2.len; have hl_taj_2 := hTj_2.le; have hm_taj_2 := congrArg List.length hVj_2; rw [List.length_map] at hm_taj_2
  have hrun : j.running = true := by unfold jobAt at hrun0; rw [getD_some hj] at hrun0; exact hrun0
  have h12j := h12.job hj; have hax := ar_some hF.fw hx; have hra := hF.rel hx hv0 hax hp; have hs1 := hF.st.a; have hs2 := hF.st.b; have hs3 := hF.st.c; have hs4 := hF.st.d; have hs5 := hF.st.e; have hs6 := hF.st.f; have hs7 := hF.st.g; have hKK := hF.fw.k; have hal9 := hF.fw.al; have hdl9 := hF.fw.dl
  refine callsA 95 Try.func81 rfl ?_
  refine seqE <| regionE ?_
  refine sAlloc hS_5 Try.zeroValue50 ?_
  intro b_6 w_7 hS_8
  refine nilO <| thenK_n <| seqE <| regionE <| pu3 ?_
  refine sLp hS_8 (ptr_up 5 rfl tri_pre) 8 (.slice (some ⟨wb, wo, none⟩) wn wk) (Try.isAgg79 _) ?_
  refine pu1 ?_
  refine sIdxO hOw x (x).toNat Try.runUnderlying79 Try.sizeOf89 ?_
  intro x_9 b_10 o_11 hx_12 hp_13 hq_14
  obtain ⟨rfl, rfl⟩ := some_addr hq_14
  obtain ⟨v_15, hv_15, hv_150, hv_151, hv_152, hv_153, hv_154⟩ := core_at hco hx_12
  have hvv_v_15 : v_15 = v0 := Option.some.inj (hv_15.symm.trans hv0); rw [hvv_v_15] at hv_150 hv_151 hv_152 hv_153 hv_154
  refine pu1 <| nilO <| thenK_n <| seqE <| regionE <| pu3 ?_
  refine sLpA hS_8 (hp_13.up 6 rfl) 1 [.int .i64 x_9.heldJob, .int .i64 x_9.heldTask] (Try.isAgg48 _) (Try.sizeOf48 _) ?_
  refine sAlloc hS_8 Try.zeroValue48 ?_
  intro b_16 w_17 hS_18
  refine sT hS_18 0 0 (.agg #[.int .i64 x_9.heldJob, .int .i64 x_9.heldTask]) [.int .i64 x_9.heldJob, .int .i64 x_9.heldTask] #[.int .i64 x_9.heldJob, .int .i64 x_9.heldTask] Try.sizeOf48 ?_
  intro w_19 hS_20
  refine nilO <| thenK_n <| seqE ?_
  refine drawE [6] [(3, ⟨p, 10, none⟩, .map (some m)), (5, ⟨b_16, 0, none⟩, .int .i64 x_9.heldJob)] [(true, [0, 1, 2, 4]), (true, [3]), (true, [5]), (false, [6]), (true, [7])] rfl (by kernel_rfl) ⟨.inr (cell_up hS_20 6 rfl (k := 10) tri_pre rfl), .inr (hS_20.cell 0 rfl rfl), trivial⟩ ?_
  have hS_21 := hS_20.drew
  refine wU [0, 1, 2, 4] ?_
  refine wLd (.map (some m)) 0 Try.isAgg78 ?_
  refine wLd (.int .i64 x_9.heldJob) 1 Try.isAgg3 ?_
  refine wO rfl ?_
  refine stepY (.pointer (some ⟨bj_2, 0, none⟩)) rfl rfl (Y_iget (k := x_9.heldJob) hS_21 11 hM (by rw [hv_151, hgj_2]; rfl) Try.runUnderlying78 Try.runUnderlying3 Try.zeroValue90) ?_
  refine nilO ⟨⟨.inl (by kernel_rfl), .inl (by kernel_rfl), trivial⟩, ?_⟩
  refine wU [7] ?_
  refine wN ?_
  refine thenK_n <| seqE ?_
  refine drawE [10] [(3, ⟨bj_2, 2, none⟩, .pointer (some ⟨bbj_2, 0, none⟩)), (5, ⟨b_16, 1, none⟩, .int .i64 x_9.heldTask), (9, ⟨wb, wo + (x).toNat * 7 + 3, none⟩, .int .i64 x_9.attempt)] [(true, [0, 1, 2, 4, 6, 7, 8]), (true, [3]), (true, [5]), (true, [9]), (false, [10]), (true, [11]), (true, [12]), (true, [13]), (true, [14, 15])] rfl (by kernel_rfl) ⟨.inr (hS_21.cell 2 rfl rfl), .inr (hS_21.cell 0 rfl rfl), .inr ((hp_13.up 7 rfl).cell hS_21 (k := 3) rfl), trivial⟩ ?_
  have hS_22 := hS_21.drew
  refine wU [0, 1, 2, 4, 6, 7, 8] ?_
  refine wLd (.pointer (some ⟨bbj_2, 0, none⟩)) 0 Try.isAgg91 ?_
  refine wLd (.int .i64 x_9.heldTask) 1 Try.isAgg3 ?_
  refine wLd (.int .i64 x_9.attempt) 2 Try.isAgg3 ?_
  refine wO rfl ?_
  have hS_23 := (hS_22.pick 4 rfl)
  refine cX Try.call98 (b_commit hBj_2 hBW x_9.heldTask x_9.attempt (by omega) (Sat.flat1 hS_23)) ?_
  rintro _ w_24 ⟨az_29, nz_30, kz_31, Z_32, M_27, rfl, hr_33, hB_28, hS_25⟩
  have hS_26 := Sat.unflat2 hS_25; have hn_az_29 := hr_33.len; have hl_az_29 := hr_33.le; have hcl9 := com_len (B := j.B) (i := v0.heldTask) (a := v0.attempt); rw [hv_152, hv_153] at hB_28 hr_33 hn_az_29
  refine nilO ⟨⟨.inl (by kernel_rfl), .inl (by kernel_rfl), .inl (by kernel_rfl), trivial⟩, ?_⟩
  refine wU [11] <| wU [12] <| wU [13] <| wU [14, 15] ?_
  refine wN ?_
  refine thenK_n <| seqE <| regionE <| pu4 ?_
  refine sLp hS_26 (ptr_up 7 rfl (tri_post (k := 11) (tri_len (sz := 2) (m := 11) (fun _ => rfl) (rfl : ([] : List Ref).length = 0)))) 1 (.int .i64 F.st.commits) (Try.isAgg3 _) ?_
  refine sAdd F.st.commits 1 ?_
  refine pu3 ?_
  refine sTpost hS_26 7 11 1 rfl (.int .i64 (F.st.commits + 1)) [.int .i64 (F.st.commits + 1)] [.int .i64 F.st.starts, .int .i64 (F.st.commits + 1), .int .i64 F.st.drops, .int .i64 F.st.crashes, .int .i64 F.st.steals, .int .i64 F.st.helps, .int .i64 F.st.spills, .int .i64 F.st.queued, .int .i64 F.st.held, .int .i64 F.st.cells] (tri_len (sz := 2) (m := 11) (fun _ => rfl) (rfl : ([] : List Ref).length = 0)) Try.sizeOf3 ?_
  intro w_34 hS_35
  refine nilO <| thenK_n <| seqE <| regionE <| pu1 ?_
  have hS_36 := ((hS_35.pick 9 rfl).pick 9 rfl)
  refine cX Try.call68 (p_rest hOw hAs hx_12 0 hS_36) ?_
  rintro _ w_37 ⟨Wc_39, acs_40, rfl, hO_41, hA_42, hS_38⟩
  refine nilO <| thenK_n <| seqE <| seqE <| regionE <| pu3 <| nilO <| thenK_n <| blockE ?_
  refine loopA (γ := Nat × (List DS) × (List Chunk) × QS × Chunk × Int) (fun ⟨i, dqi, dci, qi, Qci, sp⟩ => [(0, .pointer (some ⟨p, 0, none⟩)), (1, .int .i64 x), (4, .pointer (some ⟨b_6, 0, none⟩)), (5, .pointer (some ⟨wb, wo + (x).toNat * 7, none⟩)), (6, .pointer (some ⟨b_16, 0, none⟩)), (7, .pointer (some ⟨bj_2, 0, none⟩)), (55, .slice az_29 nz_30 kz_31), (56, .int .i64 ((nz_30 : Nat) : Int)), (57, .int .i64 ((i : Nat) : Int))]) (fun ⟨i, dqi, dci, qi, Qci, sp⟩ w => Sat W w (Wc_39 :: acs_40.flatten :: Z_32 :: M_27 :: [(b_16, .cells #[.int .i64 x_9.heldJob, .int .i64 x_9.heldTask] 48 (0, 0))] :: [(b_6, .cells #[.int .i64 0, .int .i64 0, .int .i64 0, .int .i64 0, .int .i64 0, .int .i64 0, .int .i64 0] 50 (0, 0))] :: [(bj_2, .cells #[.slice taj_2 tnj_2 tkj_2, .int .i64 j.band, .pointer (some ⟨bbj_2, 0, none⟩), .bool (canc j)] 97 (0, 0))] :: Tj_2 :: (jcs.eraseIdx nj_2).flatten :: (Tri p 81 (preP F.cfg wb wo wn wk q m) (([] : List Ref).flatMap encRef) [.int .i64 F.st.starts, .int .i64 (F.st.commits + 1), .int .i64 F.st.drops, .int .i64 F.st.crashes, .int .i64 F.st.steals, .int .i64 F.st.helps, .int .i64 sp, .int .i64 F.st.queued, .int .i64 F.st.held, .int .i64 F.st.cells]) :: dci.flatten :: Qci :: Jc :: H :: F0) ∧ i ≤ nz_30 ∧ (Obs DqP (xs.map (·.d)) dqi dci) ∧ (InjP q qi Qci) ∧ (0 ≤ sp ∧ sp ≤ F.st.spills + i) ∧ (dqi.length = F.dq.length) ∧ ((spillF (⟨F.cfg, (F.ws.set x.toNat ⟨0, 0, 0, 0, 0, 0, (resetA (F.ar.getD x.toNat default)).high⟩), (F.ar.set (x).toNat (resetA (F.ar.getD (x).toNat default))), F.dq, F.q, (F.jobs.set v0.heldJob.toNat { j with B := (comB j.B v0.heldTask v0.attempt).1 }), ⟨F.st.starts, (F.st.commits + 1), F.st.drops, F.st.crashes, F.st.steals, F.st.helps, F.st.spills, F.st.queued, F.st.held, F.st.cells⟩⟩ : FS) x v0.heldJob j.band (((comB j.B v0.heldTask v0.attempt).2).take i)) = (⟨F.cfg, (F.ws.set x.toNat ⟨0, 0, 0, 0, 0, 0, (resetA (F.ar.getD x.toNat default)).high⟩), (F.ar.set (x).toNat (resetA (F.ar.getD (x).toNat default))), dqi, qi, (F.jobs.set v0.heldJob.toNat { j with B := (comB j.B v0.heldTask v0.attempt).1 }), ⟨F.st.starts, (F.st.commits + 1), F.st.drops, F.st.crashes, F.st.steals, F.st.helps, sp, F.st.queued, F.st.held, F.st.cells⟩⟩ : FS))) (fun ⟨i, dqi, dci, qi, Qci, sp⟩ => nz_30 - i) (0, F.dq, dcs, F.q, Qc, F.st.spills) ⟨hS_38, by omega, hDs, hQ, by omega, by first | rfl | simp only [List.length_set], rfl⟩ ?_
  rintro ⟨i, dqi, dci, qi, Qci, sp⟩ ρ w_43 ⟨hS_44, hi, hDi, hQi, hspb, hdqi, hFi⟩
  have hds9 := hDi.1; rw [List.length_map] at hds9
  refine seqE <| regionE <| pu1 <| nilO <| thenK_n <| seqE ?_
  refine cD (((i : Nat) : Int) < ((nz_30 : Nat) : Int)) (fun hc_45 => ?_) (fun hc_45 => ?_)
  · refine skipE <| thenK_n <| seqE <| blockE <| seqE <| regionE ?_
    refine sIdx hr_33 ((i : Nat) : Int) Try.runUnderlying22 Try.sizeOf3 ?_
    intro x_46 b_47 o_48 hx_49 hp_50
    rw [Int.toNat_natCast] at hx_49
    refine sLp hS_44 (hp_50.up 2 rfl) 0 (.int .i64 x_46) (Try.isAgg3 _) ?_
    refine pu1 <| nilO <| thenK_n <| seqE <| regionE <| pu1 ?_
    refine sL hS_44 4 0 (.int .i64 x_9.heldJob) (Try.isAgg3 _) ?_
    refine pu2 ?_
    refine sAlloc hS_44 Try.zeroValue48 ?_
    intro b_51 w_52 hS_53
    refine sT hS_53 0 0 (.agg #[.int .i64 x_9.heldJob, .int .i64 x_46]) [.int .i64 x_9.heldJob, .int .i64 x_46] #[.int .i64 x_9.heldJob, .int .i64 x_46] Try.sizeOf48 ?_
    intro w_54 hS_55
    refine nilO <| thenK_n <| seqE ?_
    have hx_56 := set_at (y := (⟨0, 0, 0, 0, 0, x_9.a, x_9.d⟩ : PW)) hx_12
    have hp_57 := OwnT.ptr hO_41 rfl hx_56
    refine drawE [5] [(3, ⟨wb, wo + (x).toNat * 7 + 6, none⟩, .pointer (some ⟨x_9.d, 0, none⟩)), (4, ⟨b_51, 0, none⟩, .int .i64 x_9.heldJob), (4, ⟨b_51, 1, none⟩, .int .i64 x_46)] [(true, [0, 1, 2]), (true, [3]), (true, [4]), (false, [5]), (true, [6])] rfl (by kernel_rfl) ⟨.inr ((hp_57.up 1 rfl).cell hS_55 (k := 6) rfl), .inr (hS_55.cell 0 rfl rfl), .inr (hS_55.cell 0 rfl rfl), trivial⟩ ?_
    have hS_58 := hS_55.drew
    refine wU [0, 1, 2] ?_
    refine wLd (.pointer (some ⟨x_9.d, 0, none⟩)) 0 Try.isAgg85 ?_
    refine wY (.agg #[.int .i64 x_9.heldJob, .int .i64 x_46]) rfl (fun w hF => Y_loadF rfl (Try.isAgg48 w) (Try.sizeOf48 w) (by kernel_rfl) rfl ⟨hF 1 _ _ rfl, hF 2 _ _ rfl, trivial⟩) ?_
    refine wO rfl ?_
    obtain ⟨s_59, c_60, hs_61, hc_62, hR_63⟩ := Obs.get hDi (map_at' hx_12)
    have hS_65 := (hS_58.pick 11 rfl)
    have hS_64 := Sat.openN (A := []) x.toNat hc_62 hS_65
    refine cX Try.call99 (pd_push hR_63 (⟨x_9.heldJob, x_46⟩ : Ref) (Sat.flat1 hS_64)) ?_
    rintro _ w_66 ⟨M_69, rfl, hR_70, hS_67⟩
    have hS_68 := Sat.unflat1 hS_67
    have hS_71 := ((hS_68.pick 1 rfl).pick 1 rfl)
    have hS_72 := Sat.shutN (d := M_69) (A := []) x.toNat hc_62 hS_71
    have hL_73 := Obs.set hDi (map_at' hx_12) hR_70
    refine nilO ⟨⟨.inl (by kernel_rfl), .inl (by kernel_rfl), .inl (by kernel_rfl), trivial⟩, ?_⟩
    refine wU [6] ?_
    refine wN ?_
    refine thenK_n <| ?_
    refine cN (pushC s_59) 0 (fun hc_74 => ?_) (fun hc_74 => ?_)
    · refine skipE <| blockK_n <| thenK_n <| regionE ?_
      refine sAdd ((i : Nat) : Int) 1 ?_
      refine pu1 <| nilO <| thenK_n <| ?_
      have hS_75 : Sat W _ ([(b_16, .cells #[.int .i64 x_9.heldJob, .int .i64 x_9.heldTask] 48 (0, 0))] :: [(b_6, .cells #[.int .i64 0, .int .i64 0, .int .i64 0, .int .i64 0, .int .i64 0, .int .i64 0, .int .i64 0] 50 (0, 0))] :: [(bj_2, .cells #[.slice taj_2 tnj_2 tkj_2, .int .i64 j.band, .pointer (some ⟨bbj_2, 0, none⟩), .bool (canc j)] 97 (0, 0))] :: Tj_2 :: (jcs.eraseIdx nj_2).flatten :: (Tri p 81 (preP F.cfg wb wo wn wk q m) (([] : List Ref).flatMap encRef) [.int .i64 F.st.starts, .int .i64 (F.st.commits + 1), .int .i64 F.st.drops, .int .i64 F.st.crashes, .int .i64 F.st.steals, .int .i64 F.st.helps, .int .i64 sp, .int .i64 F.st.queued, .int .i64 F.st.held, .int .i64 F.st.cells]) :: (dci.set x.toNat M_69).flatten :: [(b_51, .cells #[.int .i64 x_9.heldJob, .int .i64 x_46] 48 (0, 0))] :: Wc_39 :: acs_40.flatten :: Z_32 :: M_27 :: Qci :: Jc :: H :: F0) := ((((((hS_72.pick 11 rfl).pick 11 rfl).pick 11 rfl).pick 11 rfl).pick 11 rfl).pick 11 rfl)
      have hS_76 := (((((hS_75.pick 11 rfl).pick 11 rfl).pick 11 rfl).pick 11 rfl).dropAt 11 rfl)
      exact ⟨(i + 1, (dqi.set x.toNat (pushD s_59 (⟨x_9.heldJob, x_46⟩ : Ref))), (dci.set x.toNat M_69), qi, Qci, sp), by first | omega | (dsimp only; omega), alA, hS_76, by omega, hL_73, hQi, by omega, (by first | exact hdqi | (simp only [List.length_set]; exact hdqi)), (by rw [spill_take hx_49, hFi]; unfold spill1; simp only [getD_some hs_61]; rw [if_pos (by omega)]; rw [hv_151])⟩
    refine seqE ?_
    refine drawE [9] [(3, ⟨p, 9, none⟩, .pointer (some ⟨q, 0, none⟩)), (4, ⟨b_51, 0, none⟩, .int .i64 x_9.heldJob), (4, ⟨b_51, 1, none⟩, .int .i64 x_46), (8, ⟨bj_2, 1, none⟩, .int .i64 j.band)] [(true, [0, 1, 2, 5, 6, 7]), (true, [3]), (true, [4]), (true, [8]), (false, [9])] rfl (by kernel_rfl) ⟨.inr (cell_up hS_72 11 rfl (k := 9) tri_pre rfl), .inr (hS_72.cell 1 rfl rfl), .inr (hS_72.cell 1 rfl rfl), .inr (hS_72.cell 8 rfl rfl), trivial⟩ ?_
    have hS_77 := hS_72.drew
    refine wU [0, 1, 2, 5, 6, 7] ?_
    refine wLd (.pointer (some ⟨q, 0, none⟩)) 0 Try.isAgg75 ?_
    refine wY (.agg #[.int .i64 x_9.heldJob, .int .i64 x_46]) rfl (fun w hF => Y_loadF rfl (Try.isAgg48 w) (Try.sizeOf48 w) (by kernel_rfl) rfl ⟨hF 1 _ _ rfl, hF 2 _ _ rfl, trivial⟩) ?_
    refine wLd (.int .i64 j.band) 3 Try.isAgg3 ?_
    refine wO rfl ?_
    have hS_78 := (hS_77.pick 12 rfl)
    refine cX Try.call50 (pq_push hQi (⟨x_9.heldJob, x_46⟩ : Ref) j.band (by omega) (Sat.flat1 hS_78)) ?_
    rintro _ w_79 ⟨M_82, rfl, hR_83, hS_80⟩
    have hS_81 := Sat.unflat1 hS_80
    refine nilO ⟨⟨.inl (by kernel_rfl), .inl (by kernel_rfl), .inl (by kernel_rfl), .inl (by kernel_rfl), trivial⟩, ?_⟩
    refine wN ?_
    refine thenK_n <| regionE <| pu4 ?_
    refine sLp hS_81 (ptr_up 12 rfl (tri_post (k := 11) (tri_len (sz := 2) (m := 11) (fun _ => rfl) (rfl : ([] : List Ref).length = 0)))) 6 (.int .i64 sp) (Try.isAgg3 _) ?_
    refine sAdd sp 1 ?_
    refine pu3 ?_
    refine sTpost hS_81 12 11 6 rfl (.int .i64 (sp + 1)) [.int .i64 (sp + 1)] [.int .i64 F.st.starts, .int .i64 (F.st.commits + 1), .int .i64 F.st.drops, .int .i64 F.st.crashes, .int .i64 F.st.steals, .int .i64 F.st.helps, .int .i64 (sp + 1), .int .i64 F.st.queued, .int .i64 F.st.held, .int .i64 F.st.cells] (tri_len (sz := 2) (m := 11) (fun _ => rfl) (rfl : ([] : List Ref).length = 0)) Try.sizeOf3 ?_
    intro w_84 hS_85
    refine nilO <| blockK_n <| thenK_n <| regionE ?_
    refine sAdd ((i : Nat) : Int) 1 ?_
    refine pu1 <| nilO <| thenK_n <| ?_
    have hS_86 : Sat W _ ([(b_6, .cells #[.int .i64 0, .int .i64 0, .int .i64 0, .int .i64 0, .int .i64 0, .int .i64 0, .int .i64 0] 50 (0, 0))] :: [(bj_2, .cells #[.slice taj_2 tnj_2 tkj_2, .int .i64 j.band, .pointer (some ⟨bbj_2, 0, none⟩), .bool (canc j)] 97 (0, 0))] :: Tj_2 :: (jcs.eraseIdx nj_2).flatten :: (Tri p 81 (preP F.cfg wb wo wn wk q m) (([] : List Ref).flatMap encRef) [.int .i64 F.st.starts, .int .i64 (F.st.commits + 1), .int .i64 F.st.drops, .int .i64 F.st.crashes, .int .i64 F.st.steals, .int .i64 F.st.helps, .int .i64 (sp + 1), .int .i64 F.st.queued, .int .i64 F.st.held, .int .i64 F.st.cells]) :: (dci.set x.toNat M_69).flatten :: M_82 :: [(b_51, .cells #[.int .i64 x_9.heldJob, .int .i64 x_46] 48 (0, 0))] :: Wc_39 :: acs_40.flatten :: Z_32 :: M_27 :: [(b_16, .cells #[.int .i64 x_9.heldJob, .int .i64 x_9.heldTask] 48 (0, 0))] :: Jc :: H :: F0) := ((((((hS_85.pick 1 rfl).pick 12 rfl).pick 12 rfl).pick 12 rfl).pick 12 rfl).pick 12 rfl)
    have hS_87 : Sat W _ (Wc_39 :: acs_40.flatten :: Z_32 :: M_27 :: [(b_16, .cells #[.int .i64 x_9.heldJob, .int .i64 x_9.heldTask] 48 (0, 0))] :: [(b_6, .cells #[.int .i64 0, .int .i64 0, .int .i64 0, .int .i64 0, .int .i64 0, .int .i64 0, .int .i64 0] 50 (0, 0))] :: [(bj_2, .cells #[.slice taj_2 tnj_2 tkj_2, .int .i64 j.band, .pointer (some ⟨bbj_2, 0, none⟩), .bool (canc j)] 97 (0, 0))] :: Tj_2 :: (jcs.eraseIdx nj_2).flatten :: (Tri p 81 (preP F.cfg wb wo wn wk q m) (([] : List Ref).flatMap encRef) [.int .i64 F.st.starts, .int .i64 (F.st.commits + 1), .int .i64 F.st.drops, .int .i64 F.st.crashes, .int .i64 F.st.steals, .int .i64 F.st.helps, .int .i64 (sp + 1), .int .i64 F.st.queued, .int .i64 F.st.held, .int .i64 F.st.cells]) :: (dci.set x.toNat M_69).flatten :: M_82 :: Jc :: H :: F0) := ((((((hS_86.pick 12 rfl).pick 12 rfl).pick 12 rfl).pick 12 rfl).pick 12 rfl).dropAt 12 rfl)
    have hpd : pushD s_59 (⟨x_9.heldJob, x_46⟩ : Ref) = s_59 := by unfold pushD; rw [if_neg (by omega)]
    have hLD := hL_73; rw [hpd, set_same hs_61] at hLD
    exact ⟨(i + 1, dqi, (dci.set x.toNat M_69), (pushQ qi (⟨x_9.heldJob, x_46⟩ : Ref) j.band), M_82, (sp + 1)), by first | omega | (dsimp only; omega), alA, hS_87, by omega, hLD, hR_83, by omega, (by first | exact hdqi | (simp only [List.length_set]; exact hdqi)), (by rw [spill_take hx_49, hFi]; unfold spill1; simp only [getD_some hs_61]; rw [if_neg (by omega)]; rw [hv_151])⟩
  refine exitE <| thenK_x <| thenK_x <| blockK_x <| thenK_n <| seqE <| regionE <| pu1 ?_
  refine lA hS_44 4 0 2 (Try.isAgg48 _) (Try.sizeOf48 _) ?_
  refine pu1 ?_
  refine sT hS_44 5 0 (.agg #[.int .i64 8, .int .i64 x, .int .i64 0, .int .i64 0, .int .i64 x_9.heldJob, .int .i64 x_9.heldTask, .int .i64 0]) [.int .i64 8, .int .i64 x, .int .i64 0, .int .i64 0, .int .i64 x_9.heldJob, .int .i64 x_9.heldTask, .int .i64 0] #[.int .i64 8, .int .i64 x, .int .i64 0, .int .i64 0, .int .i64 x_9.heldJob, .int .i64 x_9.heldTask, .int .i64 0] Try.sizeOf50 ?_
  intro w_89 hS_90
  refine nilO <| thenK_n <| retE <| retN (vs := [.agg #[.int .i64 8, .int .i64 x, .int .i64 0, .int .i64 0, .int .i64 x_9.heldJob, .int .i64 x_9.heldTask, .int .i64 0]]) rfl (.cons (.cell _ _ _ _ (by kernel_rfl) (lvA hS_90 5 0 [.int .i64 8, .int .i64 x, .int .i64 0, .int .i64 0, .int .i64 x_9.heldJob, .int .i64 x_9.heldTask, .int .i64 0] (Try.isAgg50 _) (Try.sizeOf50 _) rfl rfl rfl)) .nil) <| ?_
  have hFl := hFi; rw [List.take_of_length_le (by omega)] at hFl
  have hdle := done_le (com_wf hBW (i := v0.heldTask) (a := v0.attempt)).ls; rw [com_deps] at hdle
  by_cases hdn : doneOf (comB j.B v0.heldTask v0.attempt).1 = ((j.tasks.length : Nat) : Int)
  · have hS_94 := ((((hS_90.pick 8 rfl).pick 4 rfl).pick 8 rfl).pick 8 rfl)
    have hS_91 : Sat W _ (([(bj_2, .cells #[.slice taj_2 tnj_2 tkj_2, .int .i64 j.band, .pointer (some ⟨bbj_2, 0, none⟩), .bool (canc j)] 97 (0, 0))] ++ (Tj_2 ++ M_27)) :: (jcs.eraseIdx nj_2).flatten :: Wc_39 :: acs_40.flatten :: Z_32 :: [(b_16, .cells #[.int .i64 x_9.heldJob, .int .i64 x_9.heldTask] 48 (0, 0))] :: [(b_6, .cells #[.int .i64 8, .int .i64 x, .int .i64 0, .int .i64 0, .int .i64 x_9.heldJob, .int .i64 x_9.heldTask, .int .i64 0] 50 (0, 0))] :: (Tri p 81 (preP F.cfg wb wo wn wk q m) (([] : List Ref).flatMap encRef) [.int .i64 F.st.starts, .int .i64 (F.st.commits + 1), .int .i64 F.st.drops, .int .i64 F.st.crashes, .int .i64 F.st.steals, .int .i64 F.st.helps, .int .i64 sp, .int .i64 F.st.queued, .int .i64 F.st.held, .int .i64 F.st.cells]) :: dci.flatten :: Qci :: Jc :: H :: F0) := Sat.perm (show Sat W _ ([(bj_2, .cells #[.slice taj_2 tnj_2 tkj_2, .int .i64 j.band, .pointer (some ⟨bbj_2, 0, none⟩), .bool (canc j)] 97 (0, 0))] :: Tj_2 :: M_27 :: (jcs.eraseIdx nj_2).flatten :: Wc_39 :: acs_40.flatten :: Z_32 :: [(b_16, .cells #[.int .i64 x_9.heldJob, .int .i64 x_9.heldTask] 48 (0, 0))] :: [(b_6, .cells #[.int .i64 8, .int .i64 x, .int .i64 0, .int .i64 0, .int .i64 x_9.heldJob, .int .i64 x_9.heldTask, .int .i64 0] 50 (0, 0))] :: (Tri p 81 (preP F.cfg wb wo wn wk q m) (([] : List Ref).flatMap encRef) [.int .i64 F.st.starts, .int .i64 (F.st.commits + 1), .int .i64 F.st.drops, .int .i64 F.st.crashes, .int .i64 F.st.steals, .int .i64 F.st.helps, .int .i64 sp, .int .i64 F.st.queued, .int .i64 F.st.held, .int .i64 F.st.cells]) :: dci.flatten :: Qci :: Jc :: H :: F0) from hS_94) (by simp)
    have hS_92 := Sat.shutN (d := ([(bj_2, .cells #[.slice taj_2 tnj_2 tkj_2, .int .i64 j.band, .pointer (some ⟨bbj_2, 0, none⟩), .bool (canc j)] 97 (0, 0))] ++ (Tj_2 ++ M_27))) (A := []) nj_2 hjcj_2 hS_91
    have hL_93 := JobsP.set hJs (k := v0.heldJob) (j2 := { j with B := (comB j.B v0.heldTask v0.attempt).1, running := false }) ⟨by omega, by omega⟩ hjmj_2 (JobP.mk (s := { j with B := (comB j.B v0.heldTask v0.attempt).1, running := false }) (cn := (canc j)) hTj_2 hDj_2 hVj_2 hB_28 ha (fun h => by cases h) ((canc_run hrun).trans (canc_done (s := { j with B := (comB j.B v0.heldTask v0.attempt).1, running := false }) hdn).symm)) ha
    have hS_95 : Sat W _ ((Tri p 81 (preP F.cfg wb wo wn wk q m) (([] : List Ref).flatMap encRef) [.int .i64 F.st.starts, .int .i64 (F.st.commits + 1), .int .i64 F.st.drops, .int .i64 F.st.crashes, .int .i64 F.st.steals, .int .i64 F.st.helps, .int .i64 sp, .int .i64 F.st.queued, .int .i64 F.st.held, .int .i64 F.st.cells]) :: Wc_39 :: acs_40.flatten :: dci.flatten :: Qci :: Jc :: (jcs.set nj_2 ([(bj_2, .cells #[.slice taj_2 tnj_2 tkj_2, .int .i64 j.band, .pointer (some ⟨bbj_2, 0, none⟩), .bool (canc j)] 97 (0, 0))] ++ (Tj_2 ++ M_27))).flatten :: Z_32 :: [(b_16, .cells #[.int .i64 x_9.heldJob, .int .i64 x_9.heldTask] 48 (0, 0))] :: [(b_6, .cells #[.int .i64 8, .int .i64 x, .int .i64 0, .int .i64 0, .int .i64 x_9.heldJob, .int .i64 x_9.heldTask, .int .i64 0] 50 (0, 0))] :: H :: F0) := ((((((hS_92.pick 9 rfl).pick 9 rfl).pick 9 rfl).pick 5 rfl).pick 5 rfl).pick 9 rfl)
    have hS_96 := (((hS_95.dropAt 7 rfl).dropAt 7 rfl).dropAt 7 rfl)
    have hS_97 : Sat W _ (((Tri p 81 (preP F.cfg wb wo wn wk q m) (([] : List Ref).flatMap encRef) [.int .i64 F.st.starts, .int .i64 (F.st.commits + 1), .int .i64 F.st.drops, .int .i64 F.st.crashes, .int .i64 F.st.steals, .int .i64 F.st.helps, .int .i64 sp, .int .i64 F.st.queued, .int .i64 F.st.held, .int .i64 F.st.cells]) ++ (Wc_39 ++ (acs_40.flatten ++ (dci.flatten ++ (Qci ++ (Jc ++ (jcs.set nj_2 ([(bj_2, .cells #[.slice taj_2 tnj_2 tkj_2, .int .i64 j.band, .pointer (some ⟨bbj_2, 0, none⟩), .bool (canc j)] 97 (0, 0))] ++ (Tj_2 ++ M_27))).flatten)))))) :: H :: F0) := Sat.perm (show Sat W _ ((Tri p 81 (preP F.cfg wb wo wn wk q m) (([] : List Ref).flatMap encRef) [.int .i64 F.st.starts, .int .i64 (F.st.commits + 1), .int .i64 F.st.drops, .int .i64 F.st.crashes, .int .i64 F.st.steals, .int .i64 F.st.helps, .int .i64 sp, .int .i64 F.st.queued, .int .i64 F.st.held, .int .i64 F.st.cells]) :: Wc_39 :: acs_40.flatten :: dci.flatten :: Qci :: Jc :: (jcs.set nj_2 ([(bj_2, .cells #[.slice taj_2 tnj_2 tkj_2, .int .i64 j.band, .pointer (some ⟨bbj_2, 0, none⟩), .bool (canc j)] 97 (0, 0))] ++ (Tj_2 ++ M_27))).flatten :: H :: F0) from hS_96) (by simp)
    have he : (microF F x).1 = (⟨F.cfg, (F.ws.set x.toNat ⟨0, 0, 0, 0, 0, 0, (resetA (F.ar.getD x.toNat default)).high⟩), (F.ar.set (x).toNat (resetA (F.ar.getD (x).toNat default))), dqi, qi, (F.jobs.set v0.heldJob.toNat ({ j with B := (comB j.B v0.heldTask v0.attempt).1, running := false })), (⟨F.st.starts, (F.st.commits + 1), F.st.drops, F.st.crashes, F.st.steals, F.st.helps, sp, F.st.queued, F.st.held, F.st.cells⟩ : Stt)⟩ : FS) := by unfold microF jobAt; simp only [getD_some hv0, getD_some hj]; rw [if_neg (by omega), if_neg (by omega)]; dsimp only; rw [hra, hFl, if_pos hdn]
    exact ⟨_, by unfold microF; simp only [getD_some hv0]; rw [if_neg (by omega), if_neg (by omega), hv_151, hv_152]; rfl, by rw [he]; exact ⟨_, _, _, _, _, _, _, _, _, _, _, _, _, _, rfl, hO_41, (core_set hco rfl), (by rw [map_setA (x' := (⟨0, 0, 0, 0, 0, x_9.a, x_9.d⟩ : PW)) hx_12 rfl]; exact hA_42), (by rw [map_setD (x' := (⟨0, 0, 0, 0, 0, x_9.a, x_9.d⟩ : PW)) hx_12 rfl]; exact hDi), hQi, hM, hL_93⟩, hS_97⟩
  have hS_101 := ((((hS_90.pick 8 rfl).pick 4 rfl).pick 8 rfl).pick 8 rfl)
  have hS_98 : Sat W _ (([(bj_2, .cells #[.slice taj_2 tnj_2 tkj_2, .int .i64 j.band, .pointer (some ⟨bbj_2, 0, none⟩), .bool (canc j)] 97 (0, 0))] ++ (Tj_2 ++ M_27)) :: (jcs.eraseIdx nj_2).flatten :: Wc_39 :: acs_40.flatten :: Z_32 :: [(b_16, .cells #[.int .i64 x_9.heldJob, .int .i64 x_9.heldTask] 48 (0, 0))] :: [(b_6, .cells #[.int .i64 8, .int .i64 x, .int .i64 0, .int .i64 0, .int .i64 x_9.heldJob, .int .i64 x_9.heldTask, .int .i64 0] 50 (0, 0))] :: (Tri p 81 (preP F.cfg wb wo wn wk q m) (([] : List Ref).flatMap encRef) [.int .i64 F.st.starts, .int .i64 (F.st.commits + 1), .int .i64 F.st.drops, .int .i64 F.st.crashes, .int .i64 F.st.steals, .int .i64 F.st.helps, .int .i64 sp, .int .i64 F.st.queued, .int .i64 F.st.held, .int .i64 F.st.cells]) :: dci.flatten :: Qci :: Jc :: H :: F0) := Sat.perm (show Sat W _ ([(bj_2, .cells #[.slice taj_2 tnj_2 tkj_2, .int .i64 j.band, .pointer (some ⟨bbj_2, 0, none⟩), .bool (canc j)] 97 (0, 0))] :: Tj_2 :: M_27 :: (jcs.eraseIdx nj_2).flatten :: Wc_39 :: acs_40.flatten :: Z_32 :: [(b_16, .cells #[.int .i64 x_9.heldJob, .int .i64 x_9.heldTask] 48 (0, 0))] :: [(b_6, .cells #[.int .i64 8, .int .i64 x, .int .i64 0, .int .i64 0, .int .i64 x_9.heldJob, .int .i64 x_9.heldTask, .int .i64 0] 50 (0, 0))] :: (Tri p 81 (preP F.cfg wb wo wn wk q m) (([] : List Ref).flatMap encRef) [.int .i64 F.st.starts, .int .i64 (F.st.commits + 1), .int .i64 F.st.drops, .int .i64 F.st.crashes, .int .i64 F.st.steals, .int .i64 F.st.helps, .int .i64 sp, .int .i64 F.st.queued, .int .i64 F.st.held, .int .i64 F.st.cells]) :: dci.flatten :: Qci :: Jc :: H :: F0) from hS_101) (by simp)
  have hS_99 := Sat.shutN (d := ([(bj_2, .cells #[.slice taj_2 tnj_2 tkj_2, .int .i64 j.band, .pointer (some ⟨bbj_2, 0, none⟩), .bool (canc j)] 97 (0, 0))] ++ (Tj_2 ++ M_27))) (A := []) nj_2 hjcj_2 hS_98
  have hL_100 := JobsP.set hJs (k := v0.heldJob) (j2 := { j with B := (comB j.B v0.heldTask v0.attempt).1 }) ⟨by omega, by omega⟩ hjmj_2 (JobP.mk (s := { j with B := (comB j.B v0.heldTask v0.attempt).1 }) (cn := (canc j)) hTj_2 hDj_2 hVj_2 hB_28 ha (fun _ => (by omega : doneOf (comB j.B v0.heldTask v0.attempt).1 < ((j.tasks.length : Nat) : Int))) ((canc_run hrun).trans (canc_run (s := { j with B := (comB j.B v0.heldTask v0.attempt).1 }) hrun).symm)) ha
  have hS_102 : Sat W _ ((Tri p 81 (preP F.cfg wb wo wn wk q m) (([] : List Ref).flatMap encRef) [.int .i64 F.st.starts, .int .i64 (F.st.commits + 1), .int .i64 F.st.drops, .int .i64 F.st.crashes, .int .i64 F.st.steals, .int .i64 F.st.helps, .int .i64 sp, .int .i64 F.st.queued, .int .i64 F.st.held, .int .i64 F.st.cells]) :: Wc_39 :: acs_40.flatten :: dci.flatten :: Qci :: Jc :: (jcs.set nj_2 ([(bj_2, .cells #[.slice taj_2 tnj_2 tkj_2, .int .i64 j.band, .pointer (some ⟨bbj_2, 0, none⟩), .bool (canc j)] 97 (0, 0))] ++ (Tj_2 ++ M_27))).flatten :: Z_32 :: [(b_16, .cells #[.int .i64 x_9.heldJob, .int .i64 x_9.heldTask] 48 (0, 0))] :: [(b_6, .cells #[.int .i64 8, .int .i64 x, .int .i64 0, .int .i64 0, .int .i64 x_9.heldJob, .int .i64 x_9.heldTask, .int .i64 0] 50 (0, 0))] :: H :: F0) := ((((((hS_99.pick 9 rfl).pick 9 rfl).pick 9 rfl).pick 5 rfl).pick 5 rfl).pick 9 rfl)
  have hS_103 := (((hS_102.dropAt 7 rfl).dropAt 7 rfl).dropAt 7 rfl)
  have hS_104 : Sat W _ (((Tri p 81 (preP F.cfg wb wo wn wk q m) (([] : List Ref).flatMap encRef) [.int .i64 F.st.starts, .int .i64 (F.st.commits + 1), .int .i64 F.st.drops, .int .i64 F.st.crashes, .int .i64 F.st.steals, .int .i64 F.st.helps, .int .i64 sp, .int .i64 F.st.queued, .int .i64 F.st.held, .int .i64 F.st.cells]) ++ (Wc_39 ++ (acs_40.flatten ++ (dci.flatten ++ (Qci ++ (Jc ++ (jcs.set nj_2 ([(bj_2, .cells #[.slice taj_2 tnj_2 tkj_2, .int .i64 j.band, .pointer (some ⟨bbj_2, 0, none⟩), .bool (canc j)] 97 (0, 0))] ++ (Tj_2 ++ M_27))).flatten)))))) :: H :: F0) := Sat.perm (show Sat W _ ((Tri p 81 (preP F.cfg wb wo wn wk q m) (([] : List Ref).flatMap encRef) [.int .i64 F.st.starts, .int .i64 (F.st.commits + 1), .int .i64 F.st.drops, .int .i64 F.st.crashes, .int .i64 F.st.steals, .int .i64 F.st.helps, .int .i64 sp, .int .i64 F.st.queued, .int .i64 F.st.held, .int .i64 F.st.cells]) :: Wc_39 :: acs_40.flatten :: dci.flatten :: Qci :: Jc :: (jcs.set nj_2 ([(bj_2, .cells #[.slice taj_2 tnj_2 tkj_2, .int .i64 j.band, .pointer (some ⟨bbj_2, 0, none⟩), .bool (canc j)] 97 (0, 0))] ++ (Tj_2 ++ M_27))).flatten :: H :: F0) from hS_103) (by simp)
  have he : (microF F x).1 = (⟨F.cfg, (F.ws.set x.toNat ⟨0, 0, 0, 0, 0, 0, (resetA (F.ar.getD x.toNat default)).high⟩), (F.ar.set (x).toNat (resetA (F.ar.getD (x).toNat default))), dqi, qi, (F.jobs.set v0.heldJob.toNat ({ j with B := (comB j.B v0.heldTask v0.attempt).1 })), (⟨F.st.starts, (F.st.commits + 1), F.st.drops, F.st.crashes, F.st.steals, F.st.helps, sp, F.st.queued, F.st.held, F.st.cells⟩ : Stt)⟩ : FS) := by unfold microF jobAt; simp only [getD_some hv0, getD_some hj]; rw [if_neg (by omega), if_neg (by omega)]; dsimp only; rw [hra, hFl, if_neg hdn]
  exact ⟨_, by unfold microF; simp only [getD_some hv0]; rw [if_neg (by omega), if_neg (by omega), hv_151, hv_152]; rfl, by rw [he]; exact ⟨_, _, _, _, _, _, _, _, _, _, _, _, _, _, rfl, hO_41, (core_set hco rfl), (by rw [map_setA (x' := (⟨0, 0, 0, 0, 0, x_9.a, x_9.d⟩ : PW)) hx_12 rfl]; exact hA_42), (by rw [map_setD (x' := (⟨0, 0, 0, 0, 0, x_9.a, x_9.d⟩ : PW)) hx_12 rfl]; exact hDi), hQi, hM, hL_100⟩, hS_104⟩
theorem pf_micro {p : Nat} {F : FS} {M : Chunk} {F0 : List Chunk} (hR : FarmP p F M) {K : Int} (hF : FI F K) {v0 : Wkr} (x : Int) (hx : 0 ≤ x ∧ x < F.ws.length) (hv0 : F.ws[x.toNat]? = some v0) (hh : Holds v0) (hrun0 : (jobAt F v0.heldJob).running = true) (h12 : F12 F) (hS : Sat W w (M :: H :: F0)) :
    Calls Try.prog 54 #[.pointer (some ⟨p, 0, none⟩), .int .i64 x] w fun e w' => ∃ M' : Chunk, e = .returned (.agg (encEvt (microF F x).2).toArray) ∧ FarmP p ((microF F x).1) M' ∧ Sat W w' (M' :: H :: F0) := by
  obtain ⟨wb, wo, wn, wk, q, m, xs, jm, Wc, Qc, Jc, acs, dcs, jcs, rfl, hOw, hco, hAs, hDs, hQ, hM, hJs⟩ := hR
  have hS_1 : Sat W _ ((Tri p 81 (preP F.cfg wb wo wn wk q m) (([] : List Ref).flatMap encRef) (encStt F.st)) :: Wc :: acs.flatten :: dcs.flatten :: Qc :: Jc :: jcs.flatten :: H :: F0) := Sat.perm hS (by simp)
  have hwl := hOw.len; have hwk := hOw.le; have hcl := core_len hco; have has1 := hAs.1; have hds1 := hDs.1; rw [List.length_map] at has1 hds1; have hjl1 := hJs.l
  obtain ⟨j, hj, ha, hz⟩ := hF.h.h _ _ hv0 hh; have hjo := hF.fw.j j (List.mem_of_getElem? hj); obtain ⟨hBW, hdl, hb1, hb2⟩ := hjo.b ha; have hjn := hjo.n; have hwo := hF.fw.w v0 (List.mem_of_getElem? hv0); have hk0 := hwo.h; have hr0 := hwo.r; have hlt := held_lt hBW hz; have hph : v0.phase = 1 ∨ v0.phase = 2 ∨ v0.phase = 3 := hh
  obtain ⟨nj_2, bj_2, cj_2, hjmj_2, hjcj_2, hJj_2, hgj_2⟩ := JobsP.get hJs (k := v0.heldJob) ⟨by omega, by omega⟩ hj ha
  obtain ⟨taj_2, tnj_2, tkj_2, tlj_2, bbj_2, Tj_2, Mbj_2, rfl, hTj_2, hDj_2, hVj_2, hBj_2, _, hrj_2⟩ := hJj_2.open
  have hS_3 := (hS_1.pick 6 rfl)
  have hS_4 := Sat.openN (A := []) nj_2 hjcj_2 hS_3
  have hS_5 : Sat W _ ([(bj_2, .cells #[.slice taj_2 tnj_2 tkj_2, .int .i64 j.band, .pointer (some ⟨bbj_2, 0, none⟩), .bool (canc j)] 97 (0, 0))] :: Tj_2 :: Mbj_2 :: (jcs.eraseIdx nj_2).flatten :: (Tri p 81 (preP F.cfg wb wo wn wk q m) (([] : List Ref).flatMap encRef) (encStt F.st)) :: Wc :: acs.flatten :: dcs.flatten :: Qc :: Jc :: H :: F0) := Sat.perm hS_4 (by simp)
  have hn_taj_2 := hTj_2.len; have hl_taj_2 := hTj_2.le; have hm_taj_2 := congrArg List.length hVj_2; rw [List.length_map] at hm_taj_2
  have hrun : j.running = true := by unfold jobAt at hrun0; rw [getD_some hj] at hrun0; exact hrun0
  have hax := ar_some hF.fw hx; have hA0 := hF.a.a _ _ _ hv0 hax; have hro := hwo.t hh; have hrt0 : 0 ≤ v0.heldTask := hro.2.2.1; have hrt9 : v0.heldTask < ((j.tasks.length : Nat) : Int) := by obtain ⟨j9, hj9, _, _, _, _, _, _, h9⟩ := hF.fw.job hro; rw [show (⟨v0.heldJob, v0.heldTask⟩ : Ref).job = v0.heldJob from rfl, hj] at hj9; rw [Option.some.inj hj9]; exact h9
  have hs1 := hF.st.a; have hs2 := hF.st.b; have hs3 := hF.st.c; have hs4 := hF.st.d; have hs5 := hF.st.e; have hs6 := hF.st.f; have hs7 := hF.st.g; have hKK := hF.fw.k; have hal9 := hF.fw.al
  refine callsA 86 Try.func54 rfl ?_
  refine seqE <| regionE ?_
  refine sAlloc hS_5 Try.zeroValue50 ?_
  intro b_6 w_7 hS_8
  refine nilO <| thenK_n <| seqE <| regionE <| pu3 ?_
  refine sLp hS_8 (ptr_up 5 rfl tri_pre) 8 (.slice (some ⟨wb, wo, none⟩) wn wk) (Try.isAgg79 _) ?_
  refine pu1 ?_
  refine sIdxO hOw x (x).toNat Try.runUnderlying79 Try.sizeOf89 ?_
  intro x_9 b_10 o_11 hx_12 hp_13 hq_14
  obtain ⟨rfl, rfl⟩ := some_addr hq_14
  obtain ⟨v_15, hv_15, hv_150, hv_151, hv_152, hv_153, hv_154⟩ := core_at hco hx_12
  have hvv_v_15 : v_15 = v0 := Option.some.inj (hv_15.symm.trans hv0); rw [hvv_v_15] at hv_150 hv_151 hv_152 hv_153 hv_154
  refine pu1 <| nilO <| thenK_n <| seqE ?_
  obtain ⟨x_16, b_17, o_18, hx_19, hp_20, hq_21⟩ := RdT.elem hTj_2 x_9.heldTask
  have htk : j.tasks[v0.heldTask.toNat]? = some x_16.v := by rw [← hVj_2, ← hv_152, List.getElem?_map, hx_19]; rfl
  have hta : taskAt F v0 = x_16.v := by unfold taskAt jobAt; rw [getD_some hj, getD_some htk]
  have hr2 : v0.phase = 2 → v0.row < x_16.rows := fun h => by have := hA0.r2 h; rw [hta] at this; exact this
  refine drawP [9, 20, 21] [(3, ⟨p, 10, none⟩, .map (some m)), (8, ⟨wb, wo + (x).toNat * 7 + 1 + 0, none⟩, .int .i64 x_9.heldJob), (17, ⟨wb, wo + (x).toNat * 7 + 1 + 1, none⟩, .int .i64 x_9.heldTask), (12, ⟨bj_2, 0, none⟩, .slice taj_2 tnj_2 tkj_2), (19, ⟨b_17, o_18 + 0, none⟩, .int .i64 x_16.stage), (19, ⟨b_17, o_18 + 1, none⟩, .int .i64 x_16.part), (19, ⟨b_17, o_18 + 2, none⟩, .int .i64 x_16.rectX0), (19, ⟨b_17, o_18 + 3, none⟩, .int .i64 x_16.rectY0), (19, ⟨b_17, o_18 + 4, none⟩, .int .i64 x_16.rectX1), (19, ⟨b_17, o_18 + 5, none⟩, .int .i64 x_16.rectY1), (19, ⟨b_17, o_18 + 6, none⟩, .slice x_16.deps.a x_16.deps.n x_16.deps.k), (19, ⟨b_17, o_18 + 7, none⟩, .int .i64 x_16.rows), (19, ⟨b_17, o_18 + 8, none⟩, .int .i64 x_16.scratch)] (Plan.sts [0, 1, 2, 4, 5, 6, 7, 13, 14, 15, 16] <| Plan.sts [3] <| Plan.sts [8] <| Plan.sts [17] <| .fk 9 20 (Plan.sts [10, 11] <| Plan.sts [12] <| Plan.sts [18] <| Plan.sts [19] <| .ef 20 <| .ef 21 <| .fin) (.ef 9 <| Plan.sts [10, 11] <| Plan.sts [12] <| Plan.sts [18] <| Plan.sts [19] <| .ef 21 <| .fin)) rfl (by kernel_rfl) ⟨.inr (cell_up hS_8 5 rfl (k := 10) tri_pre rfl), .inr ((hp_13.up 6 rfl).cell hS_8 (k := 1) rfl), .inr ((hp_13.up 6 rfl).cell hS_8 (k := 2) rfl), .inr (hS_8.cell 1 rfl rfl), .inr ((hp_20.up 2 rfl).cell hS_8 (k := 0) rfl), .inr ((hp_20.up 2 rfl).cell hS_8 (k := 1) rfl), .inr ((hp_20.up 2 rfl).cell hS_8 (k := 2) rfl), .inr ((hp_20.up 2 rfl).cell hS_8 (k := 3) rfl), .inr ((hp_20.up 2 rfl).cell hS_8 (k := 4) rfl), .inr ((hp_20.up 2 rfl).cell hS_8 (k := 5) rfl), .inr ((hp_20.up 2 rfl).cell hS_8 (k := 6) rfl), .inr ((hp_20.up 2 rfl).cell hS_8 (k := 7) rfl), .inr ((hp_20.up 2 rfl).cell hS_8 (k := 8) rfl), trivial⟩ ?_
  have hS_22 := hS_8.drew
  refine qU [0, 1, 2, 4, 5, 6, 7, 13, 14, 15, 16] ?_
  refine qLd (.map (some m)) 0 Try.isAgg78 ?_
  refine qLd (.int .i64 x_9.heldJob) 1 Try.isAgg3 ?_
  refine qLd (.int .i64 x_9.heldTask) 2 Try.isAgg3 ?_
  refine qF ?_ ?_
  · refine qO rfl ?_
    refine stepY (.pointer (some ⟨bj_2, 0, none⟩)) rfl rfl (Y_iget (k := x_9.heldJob) hS_22 10 hM (by rw [hv_151, hgj_2]; rfl) Try.runUnderlying78 Try.runUnderlying3 Try.zeroValue90) ?_
    refine nilO ⟨⟨.inl (by kernel_rfl), .inl (by kernel_rfl), .inr ((hp_13.up 6 rfl).cell hS_22 (k := 2) rfl), .inr (hS_22.cell 1 rfl rfl), .inr ((hp_20.up 2 rfl).cell hS_22 (k := 0) rfl), .inr ((hp_20.up 2 rfl).cell hS_22 (k := 1) rfl), .inr ((hp_20.up 2 rfl).cell hS_22 (k := 2) rfl), .inr ((hp_20.up 2 rfl).cell hS_22 (k := 3) rfl), .inr ((hp_20.up 2 rfl).cell hS_22 (k := 4) rfl), .inr ((hp_20.up 2 rfl).cell hS_22 (k := 5) rfl), .inr ((hp_20.up 2 rfl).cell hS_22 (k := 6) rfl), .inr ((hp_20.up 2 rfl).cell hS_22 (k := 7) rfl), .inr ((hp_20.up 2 rfl).cell hS_22 (k := 8) rfl), trivial⟩, ?_⟩
    refine qU [10, 11] ?_
    refine qLd (.slice taj_2 tnj_2 tkj_2) 3 Try.isAgg23 ?_
    refine qY (.pointer (some ⟨b_17, o_18, none⟩)) rfl (fun w _ => Y_idx (a := taj_2) (i := x_9.heldTask) (len := tnj_2) (cap := tkj_2) rfl Try.runUnderlying23 Try.sizeOf31 (by kernel_rfl) (by kernel_rfl) hq_21) ?_
    refine qY (.agg (encTask x_16).toArray) rfl (fun w hF => Y_loadF rfl (Try.isAgg31 w) (Try.sizeOf31 w) (by kernel_rfl) rfl ⟨hF 4 _ _ rfl, hF 5 _ _ rfl, hF 6 _ _ rfl, hF 7 _ _ rfl, hF 8 _ _ rfl, hF 9 _ _ rfl, hF 10 _ _ rfl, hF 11 _ _ rfl, hF 12 _ _ rfl, trivial⟩) ?_
    refine qO rfl ?_
    refine sAlloc hS_22 Try.zeroValue31 ?_
    intro b_23 w_24 hS_25
    refine nilO ⟨⟨.inl (by kernel_rfl), .inl (by kernel_rfl), .inr ((hp_13.up 7 rfl).cell hS_25 (k := 2) rfl), .inr (hS_25.cell 2 rfl rfl), .inr ((hp_20.up 3 rfl).cell hS_25 (k := 0) rfl), .inr ((hp_20.up 3 rfl).cell hS_25 (k := 1) rfl), .inr ((hp_20.up 3 rfl).cell hS_25 (k := 2) rfl), .inr ((hp_20.up 3 rfl).cell hS_25 (k := 3) rfl), .inr ((hp_20.up 3 rfl).cell hS_25 (k := 4) rfl), .inr ((hp_20.up 3 rfl).cell hS_25 (k := 5) rfl), .inr ((hp_20.up 3 rfl).cell hS_25 (k := 6) rfl), .inr ((hp_20.up 3 rfl).cell hS_25 (k := 7) rfl), .inr ((hp_20.up 3 rfl).cell hS_25 (k := 8) rfl), trivial⟩, ?_⟩
    refine qO rfl ?_
    refine sT hS_25 0 0 (.agg (encTask x_16).toArray) (encTask x_16) (encTask x_16).toArray Try.sizeOf31 ?_
    intro w_26 hS_27
    refine nilO ⟨⟨.inl (by kernel_rfl), .inl (by kernel_rfl), .inl (by kernel_rfl), .inl (by kernel_rfl), .inl (by kernel_rfl), .inl (by kernel_rfl), .inl (by kernel_rfl), .inl (by kernel_rfl), .inl (by kernel_rfl), .inl (by kernel_rfl), .inl (by kernel_rfl), .inl (by kernel_rfl), .inl (by kernel_rfl), trivial⟩, ?_⟩
    refine qN ?_
    refine thenK_n <| seqE <| seqE <| regionE <| pu3 ?_
    refine sLp hS_27 (hp_13.up 7 rfl) 0 (.int .i64 x_9.phase) (Try.isAgg3 _) ?_
    refine nilO <| thenK_n <| blockE <| seqE <| regionE <| pu2 <| nilO <| thenK_n <| ?_
    refine cE x_9.phase 1 (fun hc_28 => ?_) (fun hc_28 => ?_)
    · refine seqE <| regionE <| pu3 ?_
      refine sLp hS_27 (hp_13.up 7 rfl) 5 (.pointer (some ⟨x_9.a, 0, none⟩)) (Try.isAgg82 _) ?_
      obtain ⟨s_29, c_30, hs_31, hc_32, hR_33⟩ := Obs.get hAs (map_at' hx_12)
      have hS_35 := (hS_27.pick 8 rfl)
      have hS_34 := Sat.openN (A := []) x.toNat hc_32 hS_35
      refine cX Try.call79 (pa_mark hR_33  (Sat.flat1 hS_34)) ?_
      rintro _ w_36 ⟨M_39, rfl, hR_40, hS_37⟩
      have hS_38 := Sat.unflat1 hS_37
      have hS_41 := ((hS_38.pick 1 rfl).pick 1 rfl)
      have hS_42 := Sat.shutN (d := M_39) (A := []) x.toNat hc_32 hS_41
      have hL_43 := Obs.set hAs (map_at' hx_12) hR_40
      refine nilO <| thenK_n <| seqE <| seqE <| regionE <| pu1 ?_
      refine sL hS_42 1 8 (.int .i64 x_16.scratch) (Try.isAgg3 _) ?_
      refine pu1 <| nilO <| thenK_n <| ?_
      refine cD (x_16.scratch > 0) (fun hc_44 => ?_) (fun hc_44 => ?_)
      rotate_left
      · refine skipE <| thenK_n <| seqE <| regionE <| pu3 ?_
        refine sStF hS_42 hOw rfl 8 (x).toNat 0 x_9 (⟨2, x_9.heldJob, x_9.heldTask, x_9.attempt, x_9.row, x_9.a, x_9.d⟩ : PW) hx_12 (.int .i64 2) [.int .i64 2] Try.sizeOf3 ?_
        intro w_80 c_82 hO_83 hS_81
        refine nilO <| thenK_n <| seqE <| regionE <| pu3 ?_
        have hx_84 := set_at (y := (⟨2, x_9.heldJob, x_9.heldTask, x_9.attempt, x_9.row, x_9.a, x_9.d⟩ : PW)) hx_12
        have hp_85 := OwnT.ptr hO_83 rfl hx_84
        refine sStF hS_81 hO_83 rfl 8 (x).toNat 4 (⟨2, x_9.heldJob, x_9.heldTask, x_9.attempt, x_9.row, x_9.a, x_9.d⟩ : PW) (⟨2, x_9.heldJob, x_9.heldTask, x_9.attempt, 0, x_9.a, x_9.d⟩ : PW) hx_84 (.int .i64 0) [.int .i64 0] Try.sizeOf3 ?_
        intro w_86 c_88 hO_89 hS_87
        rw [List.set_set] at hO_89
        refine nilO <| thenK_n <| seqE <| regionE <| pu2 ?_
        refine sT hS_87 2 0 (.agg #[.int .i64 6, .int .i64 x, .int .i64 0, .int .i64 0, .int .i64 0, .int .i64 0, .int .i64 0]) [.int .i64 6, .int .i64 x, .int .i64 0, .int .i64 0, .int .i64 0, .int .i64 0, .int .i64 0] #[.int .i64 6, .int .i64 x, .int .i64 0, .int .i64 0, .int .i64 0, .int .i64 0, .int .i64 0] Try.sizeOf50 ?_
        intro w_90 hS_91
        refine nilO <| thenK_n <| retE <| blockK_r <| thenK_r <| retN (vs := [.agg #[.int .i64 6, .int .i64 x, .int .i64 0, .int .i64 0, .int .i64 0, .int .i64 0, .int .i64 0]]) rfl (.cons (.cell _ _ _ _ (by kernel_rfl) (lvA hS_91 2 0 [.int .i64 6, .int .i64 x, .int .i64 0, .int .i64 0, .int .i64 0, .int .i64 0, .int .i64 0] (Try.isAgg50 _) (Try.sizeOf50 _) rfl rfl rfl)) .nil) <| ?_
        have hS_95 := ((((hS_91.pick 6 rfl).pick 6 rfl).pick 6 rfl).pick 6 rfl)
        have hS_92 : Sat W _ (([(bj_2, .cells #[.slice taj_2 tnj_2 tkj_2, .int .i64 j.band, .pointer (some ⟨bbj_2, 0, none⟩), .bool (canc j)] 97 (0, 0))] ++ (Tj_2 ++ Mbj_2)) :: (jcs.eraseIdx nj_2).flatten :: (acs.set x.toNat M_39).flatten :: [(b_23, .cells (encTask x_16).toArray 31 (0, 0))] :: [(b_6, .cells #[.int .i64 6, .int .i64 x, .int .i64 0, .int .i64 0, .int .i64 0, .int .i64 0, .int .i64 0] 50 (0, 0))] :: (Tri p 81 (preP F.cfg wb wo wn wk q m) (([] : List Ref).flatMap encRef) (encStt F.st)) :: c_88 :: dcs.flatten :: Qc :: Jc :: H :: F0) := Sat.perm (show Sat W _ ([(bj_2, .cells #[.slice taj_2 tnj_2 tkj_2, .int .i64 j.band, .pointer (some ⟨bbj_2, 0, none⟩), .bool (canc j)] 97 (0, 0))] :: Tj_2 :: Mbj_2 :: (jcs.eraseIdx nj_2).flatten :: (acs.set x.toNat M_39).flatten :: [(b_23, .cells (encTask x_16).toArray 31 (0, 0))] :: [(b_6, .cells #[.int .i64 6, .int .i64 x, .int .i64 0, .int .i64 0, .int .i64 0, .int .i64 0, .int .i64 0] 50 (0, 0))] :: (Tri p 81 (preP F.cfg wb wo wn wk q m) (([] : List Ref).flatMap encRef) (encStt F.st)) :: c_88 :: dcs.flatten :: Qc :: Jc :: H :: F0) from hS_95) (by simp)
        have hS_93 := Sat.shutN (d := ([(bj_2, .cells #[.slice taj_2 tnj_2 tkj_2, .int .i64 j.band, .pointer (some ⟨bbj_2, 0, none⟩), .bool (canc j)] 97 (0, 0))] ++ (Tj_2 ++ Mbj_2))) (A := []) nj_2 hjcj_2 hS_92
        rw [set_same hjcj_2] at hS_93
        have hrow0 := hA0.r1 (by omega)
        have hS_96 : Sat W _ ((Tri p 81 (preP F.cfg wb wo wn wk q m) (([] : List Ref).flatMap encRef) (encStt F.st)) :: c_88 :: (acs.set x.toNat M_39).flatten :: dcs.flatten :: Qc :: Jc :: jcs.flatten :: [(b_23, .cells (encTask x_16).toArray 31 (0, 0))] :: [(b_6, .cells #[.int .i64 6, .int .i64 x, .int .i64 0, .int .i64 0, .int .i64 0, .int .i64 0, .int .i64 0] 50 (0, 0))] :: H :: F0) := ((((((hS_93.pick 8 rfl).pick 8 rfl).pick 8 rfl).pick 4 rfl).pick 8 rfl).pick 8 rfl)
        have hS_97 := ((hS_96.dropAt 7 rfl).dropAt 7 rfl)
        have hS_98 : Sat W _ (((Tri p 81 (preP F.cfg wb wo wn wk q m) (([] : List Ref).flatMap encRef) (encStt F.st)) ++ (c_88 ++ ((acs.set x.toNat M_39).flatten ++ (dcs.flatten ++ (Qc ++ (Jc ++ jcs.flatten)))))) :: H :: F0) := Sat.perm (show Sat W _ ((Tri p 81 (preP F.cfg wb wo wn wk q m) (([] : List Ref).flatMap encRef) (encStt F.st)) :: c_88 :: (acs.set x.toNat M_39).flatten :: dcs.flatten :: Qc :: Jc :: jcs.flatten :: H :: F0) from hS_97) (by simp)
        have he : (microF F x).1 = (⟨F.cfg, (F.ws.set x.toNat (⟨2, v0.heldJob, v0.heldTask, v0.attempt, v0.row, (markA s_29).used, (markA s_29).high⟩ : Wkr)), (F.ar.set x.toNat (markA s_29)), F.dq, F.q, F.jobs, F.st⟩ : FS) := by unfold microF jobAt; simp only [getD_some hv0, getD_some hj, getD_some htk, getD_some hs_31]; rw [if_pos (by omega)]; rw [if_neg (show ¬ x_16.v.scratch > 0 from show ¬ x_16.scratch > 0 by omega)]
        exact ⟨_, by unfold microF; simp only [getD_some hv0]; rw [if_pos (by omega)]; rfl, by rw [he]; exact ⟨_, _, _, _, _, _, _, _, _, _, _, _, _, _, rfl, hO_89, (core_set hco (show (⟨2, x_9.heldJob, x_9.heldTask, x_9.attempt, 0⟩ : Core) = ⟨2, v0.heldJob, v0.heldTask, v0.attempt, v0.row⟩ by rw [hv_151, hv_152, hv_153, hrow0])), (by rw [map_setA (x' := (⟨2, x_9.heldJob, x_9.heldTask, x_9.attempt, 0, x_9.a, x_9.d⟩ : PW)) hx_12 rfl]; exact hL_43), (by rw [map_setD (x' := (⟨2, x_9.heldJob, x_9.heldTask, x_9.attempt, 0, x_9.a, x_9.d⟩ : PW)) hx_12 rfl]; exact hDs), hQ, hM, hJs⟩, hS_98⟩
      refine drawE [6] [(3, ⟨wb, wo + (x).toNat * 7 + 5, none⟩, .pointer (some ⟨x_9.a, 0, none⟩)), (5, ⟨b_23, 8, none⟩, .int .i64 x_16.scratch)] [(true, [0, 1, 2, 4]), (true, [3]), (true, [5]), (false, [6])] rfl (by kernel_rfl) ⟨.inr ((hp_13.up 8 rfl).cell hS_42 (k := 5) rfl), .inr (hS_42.cell 1 rfl rfl), trivial⟩ ?_
      have hS_45 := hS_42.drew
      refine wU [0, 1, 2, 4] ?_
      refine wLd (.pointer (some ⟨x_9.a, 0, none⟩)) 0 Try.isAgg82 ?_
      refine wLd (.int .i64 x_16.scratch) 1 Try.isAgg3 ?_
      refine wO rfl ?_
      have hS_51 := Sat.openN (A := []) x.toNat (set_at hc_32) hS_45
      refine cX Try.call80 (pa_alloc hR_40 x_16.scratch 16 (Sat.flat1 hS_51)) ?_
      rintro _ w_52 ⟨M_55, v_57, rfl, hR_56, hS_53⟩
      have hS_54 := Sat.unflat1 hS_53
      have hS_58 := ((hS_54.pick 1 rfl).pick 1 rfl)
      have hS_59 := Sat.shutN (d := M_55) (A := []) x.toNat (set_at hc_32) hS_58
      have hL_60 := Obs.set hL_43 (map_at' hx_12) hR_56
      refine nilO ⟨⟨.inl (by kernel_rfl), .inl (by kernel_rfl), trivial⟩, ?_⟩
      refine wN ?_
      refine thenK_n <| seqE <| regionE <| pu3 ?_
      refine sStF hS_59 hOw rfl 8 (x).toNat 0 x_9 (⟨2, x_9.heldJob, x_9.heldTask, x_9.attempt, x_9.row, x_9.a, x_9.d⟩ : PW) hx_12 (.int .i64 2) [.int .i64 2] Try.sizeOf3 ?_
      intro w_61 c_63 hO_64 hS_62
      refine nilO <| thenK_n <| seqE <| regionE <| pu3 ?_
      have hx_65 := set_at (y := (⟨2, x_9.heldJob, x_9.heldTask, x_9.attempt, x_9.row, x_9.a, x_9.d⟩ : PW)) hx_12
      have hp_66 := OwnT.ptr hO_64 rfl hx_65
      refine sStF hS_62 hO_64 rfl 8 (x).toNat 4 (⟨2, x_9.heldJob, x_9.heldTask, x_9.attempt, x_9.row, x_9.a, x_9.d⟩ : PW) (⟨2, x_9.heldJob, x_9.heldTask, x_9.attempt, 0, x_9.a, x_9.d⟩ : PW) hx_65 (.int .i64 0) [.int .i64 0] Try.sizeOf3 ?_
      intro w_67 c_69 hO_70 hS_68
      rw [List.set_set] at hO_70
      refine nilO <| thenK_n <| seqE <| regionE <| pu2 ?_
      refine sT hS_68 2 0 (.agg #[.int .i64 6, .int .i64 x, .int .i64 0, .int .i64 0, .int .i64 0, .int .i64 0, .int .i64 0]) [.int .i64 6, .int .i64 x, .int .i64 0, .int .i64 0, .int .i64 0, .int .i64 0, .int .i64 0] #[.int .i64 6, .int .i64 x, .int .i64 0, .int .i64 0, .int .i64 0, .int .i64 0, .int .i64 0] Try.sizeOf50 ?_
      intro w_71 hS_72
      refine nilO <| thenK_n <| retE <| blockK_r <| thenK_r <| retN (vs := [.agg #[.int .i64 6, .int .i64 x, .int .i64 0, .int .i64 0, .int .i64 0, .int .i64 0, .int .i64 0]]) rfl (.cons (.cell _ _ _ _ (by kernel_rfl) (lvA hS_72 2 0 [.int .i64 6, .int .i64 x, .int .i64 0, .int .i64 0, .int .i64 0, .int .i64 0, .int .i64 0] (Try.isAgg50 _) (Try.sizeOf50 _) rfl rfl rfl)) .nil) <| ?_
      have hS_76 := ((((hS_72.pick 6 rfl).pick 6 rfl).pick 6 rfl).pick 6 rfl)
      have hS_73 : Sat W _ (([(bj_2, .cells #[.slice taj_2 tnj_2 tkj_2, .int .i64 j.band, .pointer (some ⟨bbj_2, 0, none⟩), .bool (canc j)] 97 (0, 0))] ++ (Tj_2 ++ Mbj_2)) :: (jcs.eraseIdx nj_2).flatten :: ((acs.set x.toNat M_39).set x.toNat M_55).flatten :: [(b_23, .cells (encTask x_16).toArray 31 (0, 0))] :: [(b_6, .cells #[.int .i64 6, .int .i64 x, .int .i64 0, .int .i64 0, .int .i64 0, .int .i64 0, .int .i64 0] 50 (0, 0))] :: (Tri p 81 (preP F.cfg wb wo wn wk q m) (([] : List Ref).flatMap encRef) (encStt F.st)) :: c_69 :: dcs.flatten :: Qc :: Jc :: H :: F0) := Sat.perm (show Sat W _ ([(bj_2, .cells #[.slice taj_2 tnj_2 tkj_2, .int .i64 j.band, .pointer (some ⟨bbj_2, 0, none⟩), .bool (canc j)] 97 (0, 0))] :: Tj_2 :: Mbj_2 :: (jcs.eraseIdx nj_2).flatten :: ((acs.set x.toNat M_39).set x.toNat M_55).flatten :: [(b_23, .cells (encTask x_16).toArray 31 (0, 0))] :: [(b_6, .cells #[.int .i64 6, .int .i64 x, .int .i64 0, .int .i64 0, .int .i64 0, .int .i64 0, .int .i64 0] 50 (0, 0))] :: (Tri p 81 (preP F.cfg wb wo wn wk q m) (([] : List Ref).flatMap encRef) (encStt F.st)) :: c_69 :: dcs.flatten :: Qc :: Jc :: H :: F0) from hS_76) (by simp)
      have hS_74 := Sat.shutN (d := ([(bj_2, .cells #[.slice taj_2 tnj_2 tkj_2, .int .i64 j.band, .pointer (some ⟨bbj_2, 0, none⟩), .bool (canc j)] 97 (0, 0))] ++ (Tj_2 ++ Mbj_2))) (A := []) nj_2 hjcj_2 hS_73
      rw [set_same hjcj_2] at hS_74
      have hrow0 := hA0.r1 (by omega)
      have hS_77 : Sat W _ ((Tri p 81 (preP F.cfg wb wo wn wk q m) (([] : List Ref).flatMap encRef) (encStt F.st)) :: c_69 :: ((acs.set x.toNat M_39).set x.toNat M_55).flatten :: dcs.flatten :: Qc :: Jc :: jcs.flatten :: [(b_23, .cells (encTask x_16).toArray 31 (0, 0))] :: [(b_6, .cells #[.int .i64 6, .int .i64 x, .int .i64 0, .int .i64 0, .int .i64 0, .int .i64 0, .int .i64 0] 50 (0, 0))] :: H :: F0) := ((((((hS_74.pick 8 rfl).pick 8 rfl).pick 8 rfl).pick 4 rfl).pick 8 rfl).pick 8 rfl)
      have hS_78 := ((hS_77.dropAt 7 rfl).dropAt 7 rfl)
      have hS_79 : Sat W _ (((Tri p 81 (preP F.cfg wb wo wn wk q m) (([] : List Ref).flatMap encRef) (encStt F.st)) ++ (c_69 ++ (((acs.set x.toNat M_39).set x.toNat M_55).flatten ++ (dcs.flatten ++ (Qc ++ (Jc ++ jcs.flatten)))))) :: H :: F0) := Sat.perm (show Sat W _ ((Tri p 81 (preP F.cfg wb wo wn wk q m) (([] : List Ref).flatMap encRef) (encStt F.st)) :: c_69 :: ((acs.set x.toNat M_39).set x.toNat M_55).flatten :: dcs.flatten :: Qc :: Jc :: jcs.flatten :: H :: F0) from hS_78) (by simp)
      have he : (microF F x).1 = (⟨F.cfg, (F.ws.set x.toNat (⟨2, v0.heldJob, v0.heldTask, v0.attempt, v0.row, (allocA (markA s_29) x_16.scratch 16).used, (allocA (markA s_29) x_16.scratch 16).high⟩ : Wkr)), ((F.ar.set x.toNat (markA s_29)).set x.toNat (allocA (markA s_29) x_16.scratch 16)), F.dq, F.q, F.jobs, F.st⟩ : FS) := by unfold microF jobAt; simp only [getD_some hv0, getD_some hj, getD_some htk, getD_some hs_31]; rw [if_pos (by omega)]; rw [if_pos (show x_16.v.scratch > 0 from show x_16.scratch > 0 by omega)]; simp only [List.set_set]; rfl
      exact ⟨_, by unfold microF; simp only [getD_some hv0]; rw [if_pos (by omega)]; rfl, by rw [he]; exact ⟨_, _, _, _, _, _, _, _, _, _, _, _, _, _, rfl, hO_70, (core_set hco (show (⟨2, x_9.heldJob, x_9.heldTask, x_9.attempt, 0⟩ : Core) = ⟨2, v0.heldJob, v0.heldTask, v0.attempt, v0.row⟩ by rw [hv_151, hv_152, hv_153, hrow0])), (by rw [map_setA (x' := (⟨2, x_9.heldJob, x_9.heldTask, x_9.attempt, 0, x_9.a, x_9.d⟩ : PW)) hx_12 rfl]; exact hL_60), (by rw [map_setD (x' := (⟨2, x_9.heldJob, x_9.heldTask, x_9.attempt, 0, x_9.a, x_9.d⟩ : PW)) hx_12 rfl]; exact hDs), hQ, hM, hJs⟩, hS_79⟩
    refine seqE <| regionE <| pu2 <| nilO <| thenK_n <| ?_
    refine cE x_9.phase 2 (fun hc_99 => ?_) (fun hc_99 => ?_)
    rotate_left
    · refine skipE <| blockK_n <| thenK_n <| seqE <| regionE <| pu2 ?_
      have hS_133 := ((((hS_27.pick 5 rfl).pick 5 rfl).pick 5 rfl).pick 5 rfl)
      have hS_130 : Sat W _ (([(bj_2, .cells #[.slice taj_2 tnj_2 tkj_2, .int .i64 j.band, .pointer (some ⟨bbj_2, 0, none⟩), .bool (canc j)] 97 (0, 0))] ++ (Tj_2 ++ Mbj_2)) :: (jcs.eraseIdx nj_2).flatten :: [(b_23, .cells (encTask x_16).toArray 31 (0, 0))] :: [(b_6, .cells #[.int .i64 0, .int .i64 0, .int .i64 0, .int .i64 0, .int .i64 0, .int .i64 0, .int .i64 0] 50 (0, 0))] :: (Tri p 81 (preP F.cfg wb wo wn wk q m) (([] : List Ref).flatMap encRef) (encStt F.st)) :: Wc :: acs.flatten :: dcs.flatten :: Qc :: Jc :: H :: F0) := Sat.perm (show Sat W _ ([(bj_2, .cells #[.slice taj_2 tnj_2 tkj_2, .int .i64 j.band, .pointer (some ⟨bbj_2, 0, none⟩), .bool (canc j)] 97 (0, 0))] :: Tj_2 :: Mbj_2 :: (jcs.eraseIdx nj_2).flatten :: [(b_23, .cells (encTask x_16).toArray 31 (0, 0))] :: [(b_6, .cells #[.int .i64 0, .int .i64 0, .int .i64 0, .int .i64 0, .int .i64 0, .int .i64 0, .int .i64 0] 50 (0, 0))] :: (Tri p 81 (preP F.cfg wb wo wn wk q m) (([] : List Ref).flatMap encRef) (encStt F.st)) :: Wc :: acs.flatten :: dcs.flatten :: Qc :: Jc :: H :: F0) from hS_133) (by simp)
      have hS_131 := Sat.shutN (d := ([(bj_2, .cells #[.slice taj_2 tnj_2 tkj_2, .int .i64 j.band, .pointer (some ⟨bbj_2, 0, none⟩), .bool (canc j)] 97 (0, 0))] ++ (Tj_2 ++ Mbj_2))) (A := []) nj_2 hjcj_2 hS_130
      rw [set_same hjcj_2] at hS_131
      have hS_134 : Sat W _ ((Tri p 81 (preP F.cfg wb wo wn wk q m) (([] : List Ref).flatMap encRef) (encStt F.st)) :: Wc :: acs.flatten :: dcs.flatten :: Qc :: Jc :: jcs.flatten :: [(b_23, .cells (encTask x_16).toArray 31 (0, 0))] :: [(b_6, .cells #[.int .i64 0, .int .i64 0, .int .i64 0, .int .i64 0, .int .i64 0, .int .i64 0, .int .i64 0] 50 (0, 0))] :: H :: F0) := ((((((hS_131.pick 8 rfl).pick 8 rfl).pick 8 rfl).pick 8 rfl).pick 8 rfl).pick 8 rfl)
      have hS_136 : Sat W _ (((Tri p 81 (preP F.cfg wb wo wn wk q m) (([] : List Ref).flatMap encRef) (encStt F.st)) ++ (Wc ++ (acs.flatten ++ (dcs.flatten ++ (Qc ++ (Jc ++ jcs.flatten)))))) :: [(b_23, .cells (encTask x_16).toArray 31 (0, 0))] :: [(b_6, .cells #[.int .i64 0, .int .i64 0, .int .i64 0, .int .i64 0, .int .i64 0, .int .i64 0, .int .i64 0] 50 (0, 0))] :: H :: F0) := Sat.perm (show Sat W _ ((Tri p 81 (preP F.cfg wb wo wn wk q m) (([] : List Ref).flatMap encRef) (encStt F.st)) :: Wc :: acs.flatten :: dcs.flatten :: Qc :: Jc :: jcs.flatten :: [(b_23, .cells (encTask x_16).toArray 31 (0, 0))] :: [(b_6, .cells #[.int .i64 0, .int .i64 0, .int .i64 0, .int .i64 0, .int .i64 0, .int .i64 0, .int .i64 0] 50 (0, 0))] :: H :: F0) from hS_134) (by simp)
      have hRx_137 : FarmP p F ((Tri p 81 (preP F.cfg wb wo wn wk q m) (([] : List Ref).flatMap encRef) (encStt F.st)) ++ (Wc ++ (acs.flatten ++ (dcs.flatten ++ (Qc ++ (Jc ++ jcs.flatten)))))) := ⟨_, _, _, _, _, _, _, _, _, _, _, _, _, _, rfl, hOw, hco, hAs, hDs, hQ, hM, hJs⟩
      refine cX Try.call81 (pf_commit hRx_137 hF x hx hv0 hh hrun0 h12 (by have := hph; omega) (Sat.flat1 hS_136)) ?_
      rintro _ w_138 ⟨M_141, rfl, hR_142, hS_139⟩
      have hS_140 := Sat.unflat1 hS_139
      obtain ⟨ev_143, hev_144⟩ : ∃ z, z = (microF F x).2 := ⟨_, rfl⟩; rw [← hev_144]
      refine sT hS_140 2 0 (.agg (encEvt ev_143).toArray) (encEvt ev_143) (encEvt ev_143).toArray Try.sizeOf50 ?_
      intro w_145 hS_146
      refine nilO <| thenK_n <| retE <| retN (vs := [.agg (encEvt ev_143).toArray]) rfl (.cons (.cell _ _ _ _ (by kernel_rfl) (lvA hS_146 2 0 (encEvt ev_143) (Try.isAgg50 _) (Try.sizeOf50 _) rfl rfl rfl)) .nil) <| ?_
      have hS_147 := ((hS_146.dropAt 1 rfl).dropAt 1 rfl)
      exact ⟨_, by rw [hev_144]; rfl, hR_142, hS_147⟩
    refine seqE <| regionE <| pu3 ?_
    refine sLp hS_27 (hp_13.up 7 rfl) 4 (.int .i64 x_9.row) (Try.isAgg3 _) ?_
    refine sAdd x_9.row 1 ?_
    refine pu2 ?_
    refine sStF hS_27 hOw rfl 7 (x).toNat 4 x_9 (⟨x_9.phase, x_9.heldJob, x_9.heldTask, x_9.attempt, (x_9.row + 1), x_9.a, x_9.d⟩ : PW) hx_12 (.int .i64 (x_9.row + 1)) [.int .i64 (x_9.row + 1)] Try.sizeOf3 ?_
    intro w_100 c_102 hO_103 hS_101
    refine nilO <| thenK_n <| seqE <| seqE ?_
    have hx_104 := set_at (y := (⟨x_9.phase, x_9.heldJob, x_9.heldTask, x_9.attempt, (x_9.row + 1), x_9.a, x_9.d⟩ : PW)) hx_12
    have hp_105 := OwnT.ptr hO_103 rfl hx_104
    refine drawE [] [(3, ⟨wb, wo + (x).toNat * 7 + 4, none⟩, .int .i64 (x_9.row + 1)), (5, ⟨b_23, 7, none⟩, .int .i64 x_16.rows)] [(true, [0, 1, 2, 4]), (true, [3]), (true, [5]), (true, [6])] rfl (by kernel_rfl) ⟨.inr ((hp_105.up 7 rfl).cell hS_101 (k := 4) rfl), .inr (hS_101.cell 0 rfl rfl), trivial⟩ ?_
    have hS_106 := hS_101.drew
    refine wU [0, 1, 2, 4] ?_
    refine wLd (.int .i64 (x_9.row + 1)) 0 Try.isAgg3 ?_
    refine wLd (.int .i64 x_16.rows) 1 Try.isAgg3 ?_
    refine wU [6] ?_
    refine wN ?_
    refine thenK_n <| ?_
    refine cD ((x_9.row + 1) ≥ x_16.rows) (fun hc_107 => ?_) (fun hc_107 => ?_)
    rotate_left
    · refine skipE <| thenK_n <| seqE <| regionE <| pu2 ?_
      refine sT hS_106 1 0 (.agg #[.int .i64 7, .int .i64 x, .int .i64 0, .int .i64 0, .int .i64 0, .int .i64 0, .int .i64 0]) [.int .i64 7, .int .i64 x, .int .i64 0, .int .i64 0, .int .i64 0, .int .i64 0, .int .i64 0] #[.int .i64 7, .int .i64 x, .int .i64 0, .int .i64 0, .int .i64 0, .int .i64 0, .int .i64 0] Try.sizeOf50 ?_
      intro w_121 hS_122
      refine nilO <| thenK_n <| retE <| blockK_r <| thenK_r <| retN (vs := [.agg #[.int .i64 7, .int .i64 x, .int .i64 0, .int .i64 0, .int .i64 0, .int .i64 0, .int .i64 0]]) rfl (.cons (.cell _ _ _ _ (by kernel_rfl) (lvA hS_122 1 0 [.int .i64 7, .int .i64 x, .int .i64 0, .int .i64 0, .int .i64 0, .int .i64 0, .int .i64 0] (Try.isAgg50 _) (Try.sizeOf50 _) rfl rfl rfl)) .nil) <| ?_
      have hS_126 := ((((hS_122.pick 5 rfl).pick 5 rfl).pick 5 rfl).pick 5 rfl)
      have hS_123 : Sat W _ (([(bj_2, .cells #[.slice taj_2 tnj_2 tkj_2, .int .i64 j.band, .pointer (some ⟨bbj_2, 0, none⟩), .bool (canc j)] 97 (0, 0))] ++ (Tj_2 ++ Mbj_2)) :: (jcs.eraseIdx nj_2).flatten :: [(b_23, .cells (encTask x_16).toArray 31 (0, 0))] :: [(b_6, .cells #[.int .i64 7, .int .i64 x, .int .i64 0, .int .i64 0, .int .i64 0, .int .i64 0, .int .i64 0] 50 (0, 0))] :: (Tri p 81 (preP F.cfg wb wo wn wk q m) (([] : List Ref).flatMap encRef) (encStt F.st)) :: c_102 :: acs.flatten :: dcs.flatten :: Qc :: Jc :: H :: F0) := Sat.perm (show Sat W _ ([(bj_2, .cells #[.slice taj_2 tnj_2 tkj_2, .int .i64 j.band, .pointer (some ⟨bbj_2, 0, none⟩), .bool (canc j)] 97 (0, 0))] :: Tj_2 :: Mbj_2 :: (jcs.eraseIdx nj_2).flatten :: [(b_23, .cells (encTask x_16).toArray 31 (0, 0))] :: [(b_6, .cells #[.int .i64 7, .int .i64 x, .int .i64 0, .int .i64 0, .int .i64 0, .int .i64 0, .int .i64 0] 50 (0, 0))] :: (Tri p 81 (preP F.cfg wb wo wn wk q m) (([] : List Ref).flatMap encRef) (encStt F.st)) :: c_102 :: acs.flatten :: dcs.flatten :: Qc :: Jc :: H :: F0) from hS_126) (by simp)
      have hS_124 := Sat.shutN (d := ([(bj_2, .cells #[.slice taj_2 tnj_2 tkj_2, .int .i64 j.band, .pointer (some ⟨bbj_2, 0, none⟩), .bool (canc j)] 97 (0, 0))] ++ (Tj_2 ++ Mbj_2))) (A := []) nj_2 hjcj_2 hS_123
      rw [set_same hjcj_2] at hS_124
      have hS_127 : Sat W _ ((Tri p 81 (preP F.cfg wb wo wn wk q m) (([] : List Ref).flatMap encRef) (encStt F.st)) :: c_102 :: acs.flatten :: dcs.flatten :: Qc :: Jc :: jcs.flatten :: [(b_23, .cells (encTask x_16).toArray 31 (0, 0))] :: [(b_6, .cells #[.int .i64 7, .int .i64 x, .int .i64 0, .int .i64 0, .int .i64 0, .int .i64 0, .int .i64 0] 50 (0, 0))] :: H :: F0) := ((((((hS_124.pick 8 rfl).pick 8 rfl).pick 8 rfl).pick 8 rfl).pick 8 rfl).pick 8 rfl)
      have hS_128 := ((hS_127.dropAt 7 rfl).dropAt 7 rfl)
      have hS_129 : Sat W _ (((Tri p 81 (preP F.cfg wb wo wn wk q m) (([] : List Ref).flatMap encRef) (encStt F.st)) ++ (c_102 ++ (acs.flatten ++ (dcs.flatten ++ (Qc ++ (Jc ++ jcs.flatten)))))) :: H :: F0) := Sat.perm (show Sat W _ ((Tri p 81 (preP F.cfg wb wo wn wk q m) (([] : List Ref).flatMap encRef) (encStt F.st)) :: c_102 :: acs.flatten :: dcs.flatten :: Qc :: Jc :: jcs.flatten :: H :: F0) from hS_128) (by simp)
      have he : (microF F x).1 = (⟨F.cfg, (F.ws.set x.toNat (⟨2, v0.heldJob, v0.heldTask, v0.attempt, v0.row + 1, v0.used, v0.high⟩ : Wkr)), F.ar, F.dq, F.q, F.jobs, F.st⟩ : FS) := by unfold microF jobAt; simp only [getD_some hv0, getD_some hj, getD_some htk]; rw [if_neg (by omega), if_pos (by omega)]; rw [if_neg (show ¬ v0.row + 1 = x_16.v.rows from show ¬ v0.row + 1 = x_16.rows by omega)]
      exact ⟨_, by unfold microF; simp only [getD_some hv0]; rw [if_neg (by omega), if_pos (by omega)]; rfl, by rw [he]; exact ⟨_, _, _, _, _, _, _, _, _, _, _, _, _, _, rfl, hO_103, (core_set hco (show (⟨x_9.phase, x_9.heldJob, x_9.heldTask, x_9.attempt, (x_9.row + 1)⟩ : Core) = ⟨2, v0.heldJob, v0.heldTask, v0.attempt, v0.row + 1⟩ by rw [hv_151, hv_152, hv_153, hv_154]; congr 1 <;> omega)), (by rw [map_setA (x' := (⟨x_9.phase, x_9.heldJob, x_9.heldTask, x_9.attempt, (x_9.row + 1), x_9.a, x_9.d⟩ : PW)) hx_12 rfl]; exact hAs), (by rw [map_setD (x' := (⟨x_9.phase, x_9.heldJob, x_9.heldTask, x_9.attempt, (x_9.row + 1), x_9.a, x_9.d⟩ : PW)) hx_12 rfl]; exact hDs), hQ, hM, hJs⟩, hS_129⟩
    refine regionE <| pu3 ?_
    refine sStF hS_106 hO_103 rfl 7 (x).toNat 0 (⟨x_9.phase, x_9.heldJob, x_9.heldTask, x_9.attempt, (x_9.row + 1), x_9.a, x_9.d⟩ : PW) (⟨3, x_9.heldJob, x_9.heldTask, x_9.attempt, (x_9.row + 1), x_9.a, x_9.d⟩ : PW) hx_104 (.int .i64 3) [.int .i64 3] Try.sizeOf3 ?_
    intro w_108 c_110 hO_111 hS_109
    rw [List.set_set] at hO_111
    refine nilO <| thenK_n <| seqE <| regionE <| pu2 ?_
    refine sT hS_109 1 0 (.agg #[.int .i64 7, .int .i64 x, .int .i64 0, .int .i64 0, .int .i64 0, .int .i64 0, .int .i64 0]) [.int .i64 7, .int .i64 x, .int .i64 0, .int .i64 0, .int .i64 0, .int .i64 0, .int .i64 0] #[.int .i64 7, .int .i64 x, .int .i64 0, .int .i64 0, .int .i64 0, .int .i64 0, .int .i64 0] Try.sizeOf50 ?_
    intro w_112 hS_113
    refine nilO <| thenK_n <| retE <| blockK_r <| thenK_r <| retN (vs := [.agg #[.int .i64 7, .int .i64 x, .int .i64 0, .int .i64 0, .int .i64 0, .int .i64 0, .int .i64 0]]) rfl (.cons (.cell _ _ _ _ (by kernel_rfl) (lvA hS_113 1 0 [.int .i64 7, .int .i64 x, .int .i64 0, .int .i64 0, .int .i64 0, .int .i64 0, .int .i64 0] (Try.isAgg50 _) (Try.sizeOf50 _) rfl rfl rfl)) .nil) <| ?_
    have hS_117 := ((((hS_113.pick 5 rfl).pick 5 rfl).pick 5 rfl).pick 5 rfl)
    have hS_114 : Sat W _ (([(bj_2, .cells #[.slice taj_2 tnj_2 tkj_2, .int .i64 j.band, .pointer (some ⟨bbj_2, 0, none⟩), .bool (canc j)] 97 (0, 0))] ++ (Tj_2 ++ Mbj_2)) :: (jcs.eraseIdx nj_2).flatten :: [(b_23, .cells (encTask x_16).toArray 31 (0, 0))] :: [(b_6, .cells #[.int .i64 7, .int .i64 x, .int .i64 0, .int .i64 0, .int .i64 0, .int .i64 0, .int .i64 0] 50 (0, 0))] :: (Tri p 81 (preP F.cfg wb wo wn wk q m) (([] : List Ref).flatMap encRef) (encStt F.st)) :: c_110 :: acs.flatten :: dcs.flatten :: Qc :: Jc :: H :: F0) := Sat.perm (show Sat W _ ([(bj_2, .cells #[.slice taj_2 tnj_2 tkj_2, .int .i64 j.band, .pointer (some ⟨bbj_2, 0, none⟩), .bool (canc j)] 97 (0, 0))] :: Tj_2 :: Mbj_2 :: (jcs.eraseIdx nj_2).flatten :: [(b_23, .cells (encTask x_16).toArray 31 (0, 0))] :: [(b_6, .cells #[.int .i64 7, .int .i64 x, .int .i64 0, .int .i64 0, .int .i64 0, .int .i64 0, .int .i64 0] 50 (0, 0))] :: (Tri p 81 (preP F.cfg wb wo wn wk q m) (([] : List Ref).flatMap encRef) (encStt F.st)) :: c_110 :: acs.flatten :: dcs.flatten :: Qc :: Jc :: H :: F0) from hS_117) (by simp)
    have hS_115 := Sat.shutN (d := ([(bj_2, .cells #[.slice taj_2 tnj_2 tkj_2, .int .i64 j.band, .pointer (some ⟨bbj_2, 0, none⟩), .bool (canc j)] 97 (0, 0))] ++ (Tj_2 ++ Mbj_2))) (A := []) nj_2 hjcj_2 hS_114
    rw [set_same hjcj_2] at hS_115
    have hS_118 : Sat W _ ((Tri p 81 (preP F.cfg wb wo wn wk q m) (([] : List Ref).flatMap encRef) (encStt F.st)) :: c_110 :: acs.flatten :: dcs.flatten :: Qc :: Jc :: jcs.flatten :: [(b_23, .cells (encTask x_16).toArray 31 (0, 0))] :: [(b_6, .cells #[.int .i64 7, .int .i64 x, .int .i64 0, .int .i64 0, .int .i64 0, .int .i64 0, .int .i64 0] 50 (0, 0))] :: H :: F0) := ((((((hS_115.pick 8 rfl).pick 8 rfl).pick 8 rfl).pick 8 rfl).pick 8 rfl).pick 8 rfl)
    have hS_119 := ((hS_118.dropAt 7 rfl).dropAt 7 rfl)
    have hS_120 : Sat W _ (((Tri p 81 (preP F.cfg wb wo wn wk q m) (([] : List Ref).flatMap encRef) (encStt F.st)) ++ (c_110 ++ (acs.flatten ++ (dcs.flatten ++ (Qc ++ (Jc ++ jcs.flatten)))))) :: H :: F0) := Sat.perm (show Sat W _ ((Tri p 81 (preP F.cfg wb wo wn wk q m) (([] : List Ref).flatMap encRef) (encStt F.st)) :: c_110 :: acs.flatten :: dcs.flatten :: Qc :: Jc :: jcs.flatten :: H :: F0) from hS_119) (by simp)
    have he : (microF F x).1 = (⟨F.cfg, (F.ws.set x.toNat (⟨3, v0.heldJob, v0.heldTask, v0.attempt, v0.row + 1, v0.used, v0.high⟩ : Wkr)), F.ar, F.dq, F.q, F.jobs, F.st⟩ : FS) := by unfold microF jobAt; simp only [getD_some hv0, getD_some hj, getD_some htk]; rw [if_neg (by omega), if_pos (by omega)]; rw [if_pos (show v0.row + 1 = x_16.v.rows from show v0.row + 1 = x_16.rows by have := hr2 (by omega); omega)]
    exact ⟨_, by unfold microF; simp only [getD_some hv0]; rw [if_neg (by omega), if_pos (by omega)]; rfl, by rw [he]; exact ⟨_, _, _, _, _, _, _, _, _, _, _, _, _, _, rfl, hO_111, (core_set hco (show (⟨3, x_9.heldJob, x_9.heldTask, x_9.attempt, (x_9.row + 1)⟩ : Core) = ⟨3, v0.heldJob, v0.heldTask, v0.attempt, v0.row + 1⟩ by rw [hv_151, hv_152, hv_153, hv_154])), (by rw [map_setA (x' := (⟨3, x_9.heldJob, x_9.heldTask, x_9.attempt, (x_9.row + 1), x_9.a, x_9.d⟩ : PW)) hx_12 rfl]; exact hAs), (by rw [map_setD (x' := (⟨3, x_9.heldJob, x_9.heldTask, x_9.attempt, (x_9.row + 1), x_9.a, x_9.d⟩ : PW)) hx_12 rfl]; exact hDs), hQ, hM, hJs⟩, hS_120⟩
  refine qO rfl ?_
  refine sAlloc hS_22 Try.zeroValue31 ?_
  intro b_148 w_149 hS_150
  refine nilO ⟨⟨.inr (cell_up hS_150 6 rfl (k := 10) tri_pre rfl), .inr ((hp_13.up 7 rfl).cell hS_150 (k := 1) rfl), .inr ((hp_13.up 7 rfl).cell hS_150 (k := 2) rfl), .inr (hS_150.cell 2 rfl rfl), .inr ((hp_20.up 3 rfl).cell hS_150 (k := 0) rfl), .inr ((hp_20.up 3 rfl).cell hS_150 (k := 1) rfl), .inr ((hp_20.up 3 rfl).cell hS_150 (k := 2) rfl), .inr ((hp_20.up 3 rfl).cell hS_150 (k := 3) rfl), .inr ((hp_20.up 3 rfl).cell hS_150 (k := 4) rfl), .inr ((hp_20.up 3 rfl).cell hS_150 (k := 5) rfl), .inr ((hp_20.up 3 rfl).cell hS_150 (k := 6) rfl), .inr ((hp_20.up 3 rfl).cell hS_150 (k := 7) rfl), .inr ((hp_20.up 3 rfl).cell hS_150 (k := 8) rfl), trivial⟩, ?_⟩
  refine qO rfl ?_
  refine stepY (.pointer (some ⟨bj_2, 0, none⟩)) rfl rfl (Y_iget (k := x_9.heldJob) hS_150 11 hM (by rw [hv_151, hgj_2]; rfl) Try.runUnderlying78 Try.runUnderlying3 Try.zeroValue90) ?_
  refine nilO ⟨⟨.inl (by kernel_rfl), .inl (by kernel_rfl), .inr ((hp_13.up 7 rfl).cell hS_150 (k := 2) rfl), .inr (hS_150.cell 2 rfl rfl), .inr ((hp_20.up 3 rfl).cell hS_150 (k := 0) rfl), .inr ((hp_20.up 3 rfl).cell hS_150 (k := 1) rfl), .inr ((hp_20.up 3 rfl).cell hS_150 (k := 2) rfl), .inr ((hp_20.up 3 rfl).cell hS_150 (k := 3) rfl), .inr ((hp_20.up 3 rfl).cell hS_150 (k := 4) rfl), .inr ((hp_20.up 3 rfl).cell hS_150 (k := 5) rfl), .inr ((hp_20.up 3 rfl).cell hS_150 (k := 6) rfl), .inr ((hp_20.up 3 rfl).cell hS_150 (k := 7) rfl), .inr ((hp_20.up 3 rfl).cell hS_150 (k := 8) rfl), trivial⟩, ?_⟩
  refine qU [10, 11] ?_
  refine qLd (.slice taj_2 tnj_2 tkj_2) 3 Try.isAgg23 ?_
  refine qY (.pointer (some ⟨b_17, o_18, none⟩)) rfl (fun w _ => Y_idx (a := taj_2) (i := x_9.heldTask) (len := tnj_2) (cap := tkj_2) rfl Try.runUnderlying23 Try.sizeOf31 (by kernel_rfl) (by kernel_rfl) hq_21) ?_
  refine qY (.agg (encTask x_16).toArray) rfl (fun w hF => Y_loadF rfl (Try.isAgg31 w) (Try.sizeOf31 w) (by kernel_rfl) rfl ⟨hF 4 _ _ rfl, hF 5 _ _ rfl, hF 6 _ _ rfl, hF 7 _ _ rfl, hF 8 _ _ rfl, hF 9 _ _ rfl, hF 10 _ _ rfl, hF 11 _ _ rfl, hF 12 _ _ rfl, trivial⟩) ?_
  refine qO rfl ?_
  refine sT hS_150 0 0 (.agg (encTask x_16).toArray) (encTask x_16) (encTask x_16).toArray Try.sizeOf31 ?_
  intro w_151 hS_152
  refine nilO ⟨⟨.inl (by kernel_rfl), .inl (by kernel_rfl), .inl (by kernel_rfl), .inl (by kernel_rfl), .inl (by kernel_rfl), .inl (by kernel_rfl), .inl (by kernel_rfl), .inl (by kernel_rfl), .inl (by kernel_rfl), .inl (by kernel_rfl), .inl (by kernel_rfl), .inl (by kernel_rfl), .inl (by kernel_rfl), trivial⟩, ?_⟩
  refine qN ?_
  refine thenK_n <| seqE <| seqE <| regionE <| pu3 ?_
  refine sLp hS_152 (hp_13.up 7 rfl) 0 (.int .i64 x_9.phase) (Try.isAgg3 _) ?_
  refine nilO <| thenK_n <| blockE <| seqE <| regionE <| pu2 <| nilO <| thenK_n <| ?_
  refine cE x_9.phase 1 (fun hc_153 => ?_) (fun hc_153 => ?_)
  · refine seqE <| regionE <| pu3 ?_
    refine sLp hS_152 (hp_13.up 7 rfl) 5 (.pointer (some ⟨x_9.a, 0, none⟩)) (Try.isAgg82 _) ?_
    obtain ⟨s_154, c_155, hs_156, hc_157, hR_158⟩ := Obs.get hAs (map_at' hx_12)
    have hS_160 := (hS_152.pick 8 rfl)
    have hS_159 := Sat.openN (A := []) x.toNat hc_157 hS_160
    refine cX Try.call79 (pa_mark hR_158  (Sat.flat1 hS_159)) ?_
    rintro _ w_161 ⟨M_164, rfl, hR_165, hS_162⟩
    have hS_163 := Sat.unflat1 hS_162
    have hS_166 := ((hS_163.pick 1 rfl).pick 1 rfl)
    have hS_167 := Sat.shutN (d := M_164) (A := []) x.toNat hc_157 hS_166
    have hL_168 := Obs.set hAs (map_at' hx_12) hR_165
    refine nilO <| thenK_n <| seqE <| seqE <| regionE <| pu1 ?_
    refine sL hS_167 1 8 (.int .i64 x_16.scratch) (Try.isAgg3 _) ?_
    refine pu1 <| nilO <| thenK_n <| ?_
    refine cD (x_16.scratch > 0) (fun hc_169 => ?_) (fun hc_169 => ?_)
    rotate_left
    · refine skipE <| thenK_n <| seqE <| regionE <| pu3 ?_
      refine sStF hS_167 hOw rfl 8 (x).toNat 0 x_9 (⟨2, x_9.heldJob, x_9.heldTask, x_9.attempt, x_9.row, x_9.a, x_9.d⟩ : PW) hx_12 (.int .i64 2) [.int .i64 2] Try.sizeOf3 ?_
      intro w_205 c_207 hO_208 hS_206
      refine nilO <| thenK_n <| seqE <| regionE <| pu3 ?_
      have hx_209 := set_at (y := (⟨2, x_9.heldJob, x_9.heldTask, x_9.attempt, x_9.row, x_9.a, x_9.d⟩ : PW)) hx_12
      have hp_210 := OwnT.ptr hO_208 rfl hx_209
      refine sStF hS_206 hO_208 rfl 8 (x).toNat 4 (⟨2, x_9.heldJob, x_9.heldTask, x_9.attempt, x_9.row, x_9.a, x_9.d⟩ : PW) (⟨2, x_9.heldJob, x_9.heldTask, x_9.attempt, 0, x_9.a, x_9.d⟩ : PW) hx_209 (.int .i64 0) [.int .i64 0] Try.sizeOf3 ?_
      intro w_211 c_213 hO_214 hS_212
      rw [List.set_set] at hO_214
      refine nilO <| thenK_n <| seqE <| regionE <| pu2 ?_
      refine sT hS_212 2 0 (.agg #[.int .i64 6, .int .i64 x, .int .i64 0, .int .i64 0, .int .i64 0, .int .i64 0, .int .i64 0]) [.int .i64 6, .int .i64 x, .int .i64 0, .int .i64 0, .int .i64 0, .int .i64 0, .int .i64 0] #[.int .i64 6, .int .i64 x, .int .i64 0, .int .i64 0, .int .i64 0, .int .i64 0, .int .i64 0] Try.sizeOf50 ?_
      intro w_215 hS_216
      refine nilO <| thenK_n <| retE <| blockK_r <| thenK_r <| retN (vs := [.agg #[.int .i64 6, .int .i64 x, .int .i64 0, .int .i64 0, .int .i64 0, .int .i64 0, .int .i64 0]]) rfl (.cons (.cell _ _ _ _ (by kernel_rfl) (lvA hS_216 2 0 [.int .i64 6, .int .i64 x, .int .i64 0, .int .i64 0, .int .i64 0, .int .i64 0, .int .i64 0] (Try.isAgg50 _) (Try.sizeOf50 _) rfl rfl rfl)) .nil) <| ?_
      have hS_220 := ((((hS_216.pick 6 rfl).pick 6 rfl).pick 6 rfl).pick 6 rfl)
      have hS_217 : Sat W _ (([(bj_2, .cells #[.slice taj_2 tnj_2 tkj_2, .int .i64 j.band, .pointer (some ⟨bbj_2, 0, none⟩), .bool (canc j)] 97 (0, 0))] ++ (Tj_2 ++ Mbj_2)) :: (jcs.eraseIdx nj_2).flatten :: (acs.set x.toNat M_164).flatten :: [(b_148, .cells (encTask x_16).toArray 31 (0, 0))] :: [(b_6, .cells #[.int .i64 6, .int .i64 x, .int .i64 0, .int .i64 0, .int .i64 0, .int .i64 0, .int .i64 0] 50 (0, 0))] :: (Tri p 81 (preP F.cfg wb wo wn wk q m) (([] : List Ref).flatMap encRef) (encStt F.st)) :: c_213 :: dcs.flatten :: Qc :: Jc :: H :: F0) := Sat.perm (show Sat W _ ([(bj_2, .cells #[.slice taj_2 tnj_2 tkj_2, .int .i64 j.band, .pointer (some ⟨bbj_2, 0, none⟩), .bool (canc j)] 97 (0, 0))] :: Tj_2 :: Mbj_2 :: (jcs.eraseIdx nj_2).flatten :: (acs.set x.toNat M_164).flatten :: [(b_148, .cells (encTask x_16).toArray 31 (0, 0))] :: [(b_6, .cells #[.int .i64 6, .int .i64 x, .int .i64 0, .int .i64 0, .int .i64 0, .int .i64 0, .int .i64 0] 50 (0, 0))] :: (Tri p 81 (preP F.cfg wb wo wn wk q m) (([] : List Ref).flatMap encRef) (encStt F.st)) :: c_213 :: dcs.flatten :: Qc :: Jc :: H :: F0) from hS_220) (by simp)
      have hS_218 := Sat.shutN (d := ([(bj_2, .cells #[.slice taj_2 tnj_2 tkj_2, .int .i64 j.band, .pointer (some ⟨bbj_2, 0, none⟩), .bool (canc j)] 97 (0, 0))] ++ (Tj_2 ++ Mbj_2))) (A := []) nj_2 hjcj_2 hS_217
      rw [set_same hjcj_2] at hS_218
      have hrow0 := hA0.r1 (by omega)
      have hS_221 : Sat W _ ((Tri p 81 (preP F.cfg wb wo wn wk q m) (([] : List Ref).flatMap encRef) (encStt F.st)) :: c_213 :: (acs.set x.toNat M_164).flatten :: dcs.flatten :: Qc :: Jc :: jcs.flatten :: [(b_148, .cells (encTask x_16).toArray 31 (0, 0))] :: [(b_6, .cells #[.int .i64 6, .int .i64 x, .int .i64 0, .int .i64 0, .int .i64 0, .int .i64 0, .int .i64 0] 50 (0, 0))] :: H :: F0) := ((((((hS_218.pick 8 rfl).pick 8 rfl).pick 8 rfl).pick 4 rfl).pick 8 rfl).pick 8 rfl)
      have hS_222 := ((hS_221.dropAt 7 rfl).dropAt 7 rfl)
      have hS_223 : Sat W _ (((Tri p 81 (preP F.cfg wb wo wn wk q m) (([] : List Ref).flatMap encRef) (encStt F.st)) ++ (c_213 ++ ((acs.set x.toNat M_164).flatten ++ (dcs.flatten ++ (Qc ++ (Jc ++ jcs.flatten)))))) :: H :: F0) := Sat.perm (show Sat W _ ((Tri p 81 (preP F.cfg wb wo wn wk q m) (([] : List Ref).flatMap encRef) (encStt F.st)) :: c_213 :: (acs.set x.toNat M_164).flatten :: dcs.flatten :: Qc :: Jc :: jcs.flatten :: H :: F0) from hS_222) (by simp)
      have he : (microF F x).1 = (⟨F.cfg, (F.ws.set x.toNat (⟨2, v0.heldJob, v0.heldTask, v0.attempt, v0.row, (markA s_154).used, (markA s_154).high⟩ : Wkr)), (F.ar.set x.toNat (markA s_154)), F.dq, F.q, F.jobs, F.st⟩ : FS) := by unfold microF jobAt; simp only [getD_some hv0, getD_some hj, getD_some htk, getD_some hs_156]; rw [if_pos (by omega)]; rw [if_neg (show ¬ x_16.v.scratch > 0 from show ¬ x_16.scratch > 0 by omega)]
      exact ⟨_, by unfold microF; simp only [getD_some hv0]; rw [if_pos (by omega)]; rfl, by rw [he]; exact ⟨_, _, _, _, _, _, _, _, _, _, _, _, _, _, rfl, hO_214, (core_set hco (show (⟨2, x_9.heldJob, x_9.heldTask, x_9.attempt, 0⟩ : Core) = ⟨2, v0.heldJob, v0.heldTask, v0.attempt, v0.row⟩ by rw [hv_151, hv_152, hv_153, hrow0])), (by rw [map_setA (x' := (⟨2, x_9.heldJob, x_9.heldTask, x_9.attempt, 0, x_9.a, x_9.d⟩ : PW)) hx_12 rfl]; exact hL_168), (by rw [map_setD (x' := (⟨2, x_9.heldJob, x_9.heldTask, x_9.attempt, 0, x_9.a, x_9.d⟩ : PW)) hx_12 rfl]; exact hDs), hQ, hM, hJs⟩, hS_223⟩
    refine drawE [6] [(3, ⟨wb, wo + (x).toNat * 7 + 5, none⟩, .pointer (some ⟨x_9.a, 0, none⟩)), (5, ⟨b_148, 8, none⟩, .int .i64 x_16.scratch)] [(true, [0, 1, 2, 4]), (true, [3]), (true, [5]), (false, [6])] rfl (by kernel_rfl) ⟨.inr ((hp_13.up 8 rfl).cell hS_167 (k := 5) rfl), .inr (hS_167.cell 1 rfl rfl), trivial⟩ ?_
    have hS_170 := hS_167.drew
    refine wU [0, 1, 2, 4] ?_
    refine wLd (.pointer (some ⟨x_9.a, 0, none⟩)) 0 Try.isAgg82 ?_
    refine wLd (.int .i64 x_16.scratch) 1 Try.isAgg3 ?_
    refine wO rfl ?_
    have hS_176 := Sat.openN (A := []) x.toNat (set_at hc_157) hS_170
    refine cX Try.call80 (pa_alloc hR_165 x_16.scratch 16 (Sat.flat1 hS_176)) ?_
    rintro _ w_177 ⟨M_180, v_182, rfl, hR_181, hS_178⟩
    have hS_179 := Sat.unflat1 hS_178
    have hS_183 := ((hS_179.pick 1 rfl).pick 1 rfl)
    have hS_184 := Sat.shutN (d := M_180) (A := []) x.toNat (set_at hc_157) hS_183
    have hL_185 := Obs.set hL_168 (map_at' hx_12) hR_181
    refine nilO ⟨⟨.inl (by kernel_rfl), .inl (by kernel_rfl), trivial⟩, ?_⟩
    refine wN ?_
    refine thenK_n <| seqE <| regionE <| pu3 ?_
    refine sStF hS_184 hOw rfl 8 (x).toNat 0 x_9 (⟨2, x_9.heldJob, x_9.heldTask, x_9.attempt, x_9.row, x_9.a, x_9.d⟩ : PW) hx_12 (.int .i64 2) [.int .i64 2] Try.sizeOf3 ?_
    intro w_186 c_188 hO_189 hS_187
    refine nilO <| thenK_n <| seqE <| regionE <| pu3 ?_
    have hx_190 := set_at (y := (⟨2, x_9.heldJob, x_9.heldTask, x_9.attempt, x_9.row, x_9.a, x_9.d⟩ : PW)) hx_12
    have hp_191 := OwnT.ptr hO_189 rfl hx_190
    refine sStF hS_187 hO_189 rfl 8 (x).toNat 4 (⟨2, x_9.heldJob, x_9.heldTask, x_9.attempt, x_9.row, x_9.a, x_9.d⟩ : PW) (⟨2, x_9.heldJob, x_9.heldTask, x_9.attempt, 0, x_9.a, x_9.d⟩ : PW) hx_190 (.int .i64 0) [.int .i64 0] Try.sizeOf3 ?_
    intro w_192 c_194 hO_195 hS_193
    rw [List.set_set] at hO_195
    refine nilO <| thenK_n <| seqE <| regionE <| pu2 ?_
    refine sT hS_193 2 0 (.agg #[.int .i64 6, .int .i64 x, .int .i64 0, .int .i64 0, .int .i64 0, .int .i64 0, .int .i64 0]) [.int .i64 6, .int .i64 x, .int .i64 0, .int .i64 0, .int .i64 0, .int .i64 0, .int .i64 0] #[.int .i64 6, .int .i64 x, .int .i64 0, .int .i64 0, .int .i64 0, .int .i64 0, .int .i64 0] Try.sizeOf50 ?_
    intro w_196 hS_197
    refine nilO <| thenK_n <| retE <| blockK_r <| thenK_r <| retN (vs := [.agg #[.int .i64 6, .int .i64 x, .int .i64 0, .int .i64 0, .int .i64 0, .int .i64 0, .int .i64 0]]) rfl (.cons (.cell _ _ _ _ (by kernel_rfl) (lvA hS_197 2 0 [.int .i64 6, .int .i64 x, .int .i64 0, .int .i64 0, .int .i64 0, .int .i64 0, .int .i64 0] (Try.isAgg50 _) (Try.sizeOf50 _) rfl rfl rfl)) .nil) <| ?_
    have hS_201 := ((((hS_197.pick 6 rfl).pick 6 rfl).pick 6 rfl).pick 6 rfl)
    have hS_198 : Sat W _ (([(bj_2, .cells #[.slice taj_2 tnj_2 tkj_2, .int .i64 j.band, .pointer (some ⟨bbj_2, 0, none⟩), .bool (canc j)] 97 (0, 0))] ++ (Tj_2 ++ Mbj_2)) :: (jcs.eraseIdx nj_2).flatten :: ((acs.set x.toNat M_164).set x.toNat M_180).flatten :: [(b_148, .cells (encTask x_16).toArray 31 (0, 0))] :: [(b_6, .cells #[.int .i64 6, .int .i64 x, .int .i64 0, .int .i64 0, .int .i64 0, .int .i64 0, .int .i64 0] 50 (0, 0))] :: (Tri p 81 (preP F.cfg wb wo wn wk q m) (([] : List Ref).flatMap encRef) (encStt F.st)) :: c_194 :: dcs.flatten :: Qc :: Jc :: H :: F0) := Sat.perm (show Sat W _ ([(bj_2, .cells #[.slice taj_2 tnj_2 tkj_2, .int .i64 j.band, .pointer (some ⟨bbj_2, 0, none⟩), .bool (canc j)] 97 (0, 0))] :: Tj_2 :: Mbj_2 :: (jcs.eraseIdx nj_2).flatten :: ((acs.set x.toNat M_164).set x.toNat M_180).flatten :: [(b_148, .cells (encTask x_16).toArray 31 (0, 0))] :: [(b_6, .cells #[.int .i64 6, .int .i64 x, .int .i64 0, .int .i64 0, .int .i64 0, .int .i64 0, .int .i64 0] 50 (0, 0))] :: (Tri p 81 (preP F.cfg wb wo wn wk q m) (([] : List Ref).flatMap encRef) (encStt F.st)) :: c_194 :: dcs.flatten :: Qc :: Jc :: H :: F0) from hS_201) (by simp)
    have hS_199 := Sat.shutN (d := ([(bj_2, .cells #[.slice taj_2 tnj_2 tkj_2, .int .i64 j.band, .pointer (some ⟨bbj_2, 0, none⟩), .bool (canc j)] 97 (0, 0))] ++ (Tj_2 ++ Mbj_2))) (A := []) nj_2 hjcj_2 hS_198
    rw [set_same hjcj_2] at hS_199
    have hrow0 := hA0.r1 (by omega)
    have hS_202 : Sat W _ ((Tri p 81 (preP F.cfg wb wo wn wk q m) (([] : List Ref).flatMap encRef) (encStt F.st)) :: c_194 :: ((acs.set x.toNat M_164).set x.toNat M_180).flatten :: dcs.flatten :: Qc :: Jc :: jcs.flatten :: [(b_148, .cells (encTask x_16).toArray 31 (0, 0))] :: [(b_6, .cells #[.int .i64 6, .int .i64 x, .int .i64 0, .int .i64 0, .int .i64 0, .int .i64 0, .int .i64 0] 50 (0, 0))] :: H :: F0) := ((((((hS_199.pick 8 rfl).pick 8 rfl).pick 8 rfl).pick 4 rfl).pick 8 rfl).pick 8 rfl)
    have hS_203 := ((hS_202.dropAt 7 rfl).dropAt 7 rfl)
    have hS_204 : Sat W _ (((Tri p 81 (preP F.cfg wb wo wn wk q m) (([] : List Ref).flatMap encRef) (encStt F.st)) ++ (c_194 ++ (((acs.set x.toNat M_164).set x.toNat M_180).flatten ++ (dcs.flatten ++ (Qc ++ (Jc ++ jcs.flatten)))))) :: H :: F0) := Sat.perm (show Sat W _ ((Tri p 81 (preP F.cfg wb wo wn wk q m) (([] : List Ref).flatMap encRef) (encStt F.st)) :: c_194 :: ((acs.set x.toNat M_164).set x.toNat M_180).flatten :: dcs.flatten :: Qc :: Jc :: jcs.flatten :: H :: F0) from hS_203) (by simp)
    have he : (microF F x).1 = (⟨F.cfg, (F.ws.set x.toNat (⟨2, v0.heldJob, v0.heldTask, v0.attempt, v0.row, (allocA (markA s_154) x_16.scratch 16).used, (allocA (markA s_154) x_16.scratch 16).high⟩ : Wkr)), ((F.ar.set x.toNat (markA s_154)).set x.toNat (allocA (markA s_154) x_16.scratch 16)), F.dq, F.q, F.jobs, F.st⟩ : FS) := by unfold microF jobAt; simp only [getD_some hv0, getD_some hj, getD_some htk, getD_some hs_156]; rw [if_pos (by omega)]; rw [if_pos (show x_16.v.scratch > 0 from show x_16.scratch > 0 by omega)]; simp only [List.set_set]; rfl
    exact ⟨_, by unfold microF; simp only [getD_some hv0]; rw [if_pos (by omega)]; rfl, by rw [he]; exact ⟨_, _, _, _, _, _, _, _, _, _, _, _, _, _, rfl, hO_195, (core_set hco (show (⟨2, x_9.heldJob, x_9.heldTask, x_9.attempt, 0⟩ : Core) = ⟨2, v0.heldJob, v0.heldTask, v0.attempt, v0.row⟩ by rw [hv_151, hv_152, hv_153, hrow0])), (by rw [map_setA (x' := (⟨2, x_9.heldJob, x_9.heldTask, x_9.attempt, 0, x_9.a, x_9.d⟩ : PW)) hx_12 rfl]; exact hL_185), (by rw [map_setD (x' := (⟨2, x_9.heldJob, x_9.heldTask, x_9.attempt, 0, x_9.a, x_9.d⟩ : PW)) hx_12 rfl]; exact hDs), hQ, hM, hJs⟩, hS_204⟩
  refine seqE <| regionE <| pu2 <| nilO <| thenK_n <| ?_
  refine cE x_9.phase 2 (fun hc_224 => ?_) (fun hc_224 => ?_)
  rotate_left
  · refine skipE <| blockK_n <| thenK_n <| seqE <| regionE <| pu2 ?_
    have hS_258 := ((((hS_152.pick 5 rfl).pick 5 rfl).pick 5 rfl).pick 5 rfl)
    have hS_255 : Sat W _ (([(bj_2, .cells #[.slice taj_2 tnj_2 tkj_2, .int .i64 j.band, .pointer (some ⟨bbj_2, 0, none⟩), .bool (canc j)] 97 (0, 0))] ++ (Tj_2 ++ Mbj_2)) :: (jcs.eraseIdx nj_2).flatten :: [(b_148, .cells (encTask x_16).toArray 31 (0, 0))] :: [(b_6, .cells #[.int .i64 0, .int .i64 0, .int .i64 0, .int .i64 0, .int .i64 0, .int .i64 0, .int .i64 0] 50 (0, 0))] :: (Tri p 81 (preP F.cfg wb wo wn wk q m) (([] : List Ref).flatMap encRef) (encStt F.st)) :: Wc :: acs.flatten :: dcs.flatten :: Qc :: Jc :: H :: F0) := Sat.perm (show Sat W _ ([(bj_2, .cells #[.slice taj_2 tnj_2 tkj_2, .int .i64 j.band, .pointer (some ⟨bbj_2, 0, none⟩), .bool (canc j)] 97 (0, 0))] :: Tj_2 :: Mbj_2 :: (jcs.eraseIdx nj_2).flatten :: [(b_148, .cells (encTask x_16).toArray 31 (0, 0))] :: [(b_6, .cells #[.int .i64 0, .int .i64 0, .int .i64 0, .int .i64 0, .int .i64 0, .int .i64 0, .int .i64 0] 50 (0, 0))] :: (Tri p 81 (preP F.cfg wb wo wn wk q m) (([] : List Ref).flatMap encRef) (encStt F.st)) :: Wc :: acs.flatten :: dcs.flatten :: Qc :: Jc :: H :: F0) from hS_258) (by simp)
    have hS_256 := Sat.shutN (d := ([(bj_2, .cells #[.slice taj_2 tnj_2 tkj_2, .int .i64 j.band, .pointer (some ⟨bbj_2, 0, none⟩), .bool (canc j)] 97 (0, 0))] ++ (Tj_2 ++ Mbj_2))) (A := []) nj_2 hjcj_2 hS_255
    rw [set_same hjcj_2] at hS_256
    have hS_259 : Sat W _ ((Tri p 81 (preP F.cfg wb wo wn wk q m) (([] : List Ref).flatMap encRef) (encStt F.st)) :: Wc :: acs.flatten :: dcs.flatten :: Qc :: Jc :: jcs.flatten :: [(b_148, .cells (encTask x_16).toArray 31 (0, 0))] :: [(b_6, .cells #[.int .i64 0, .int .i64 0, .int .i64 0, .int .i64 0, .int .i64 0, .int .i64 0, .int .i64 0] 50 (0, 0))] :: H :: F0) := ((((((hS_256.pick 8 rfl).pick 8 rfl).pick 8 rfl).pick 8 rfl).pick 8 rfl).pick 8 rfl)
    have hS_261 : Sat W _ (((Tri p 81 (preP F.cfg wb wo wn wk q m) (([] : List Ref).flatMap encRef) (encStt F.st)) ++ (Wc ++ (acs.flatten ++ (dcs.flatten ++ (Qc ++ (Jc ++ jcs.flatten)))))) :: [(b_148, .cells (encTask x_16).toArray 31 (0, 0))] :: [(b_6, .cells #[.int .i64 0, .int .i64 0, .int .i64 0, .int .i64 0, .int .i64 0, .int .i64 0, .int .i64 0] 50 (0, 0))] :: H :: F0) := Sat.perm (show Sat W _ ((Tri p 81 (preP F.cfg wb wo wn wk q m) (([] : List Ref).flatMap encRef) (encStt F.st)) :: Wc :: acs.flatten :: dcs.flatten :: Qc :: Jc :: jcs.flatten :: [(b_148, .cells (encTask x_16).toArray 31 (0, 0))] :: [(b_6, .cells #[.int .i64 0, .int .i64 0, .int .i64 0, .int .i64 0, .int .i64 0, .int .i64 0, .int .i64 0] 50 (0, 0))] :: H :: F0) from hS_259) (by simp)
    have hRx_262 : FarmP p F ((Tri p 81 (preP F.cfg wb wo wn wk q m) (([] : List Ref).flatMap encRef) (encStt F.st)) ++ (Wc ++ (acs.flatten ++ (dcs.flatten ++ (Qc ++ (Jc ++ jcs.flatten)))))) := ⟨_, _, _, _, _, _, _, _, _, _, _, _, _, _, rfl, hOw, hco, hAs, hDs, hQ, hM, hJs⟩
    refine cX Try.call81 (pf_commit hRx_262 hF x hx hv0 hh hrun0 h12 (by have := hph; omega) (Sat.flat1 hS_261)) ?_
    rintro _ w_263 ⟨M_266, rfl, hR_267, hS_264⟩
    have hS_265 := Sat.unflat1 hS_264
    obtain ⟨ev_268, hev_269⟩ : ∃ z, z = (microF F x).2 := ⟨_, rfl⟩; rw [← hev_269]
    refine sT hS_265 2 0 (.agg (encEvt ev_268).toArray) (encEvt ev_268) (encEvt ev_268).toArray Try.sizeOf50 ?_
    intro w_270 hS_271
    refine nilO <| thenK_n <| retE <| retN (vs := [.agg (encEvt ev_268).toArray]) rfl (.cons (.cell _ _ _ _ (by kernel_rfl) (lvA hS_271 2 0 (encEvt ev_268) (Try.isAgg50 _) (Try.sizeOf50 _) rfl rfl rfl)) .nil) <| ?_
    have hS_272 := ((hS_271.dropAt 1 rfl).dropAt 1 rfl)
    exact ⟨_, by rw [hev_269]; rfl, hR_267, hS_272⟩
  refine seqE <| regionE <| pu3 ?_
  refine sLp hS_152 (hp_13.up 7 rfl) 4 (.int .i64 x_9.row) (Try.isAgg3 _) ?_
  refine sAdd x_9.row 1 ?_
  refine pu2 ?_
  refine sStF hS_152 hOw rfl 7 (x).toNat 4 x_9 (⟨x_9.phase, x_9.heldJob, x_9.heldTask, x_9.attempt, (x_9.row + 1), x_9.a, x_9.d⟩ : PW) hx_12 (.int .i64 (x_9.row + 1)) [.int .i64 (x_9.row + 1)] Try.sizeOf3 ?_
  intro w_225 c_227 hO_228 hS_226
  refine nilO <| thenK_n <| seqE <| seqE ?_
  have hx_229 := set_at (y := (⟨x_9.phase, x_9.heldJob, x_9.heldTask, x_9.attempt, (x_9.row + 1), x_9.a, x_9.d⟩ : PW)) hx_12
  have hp_230 := OwnT.ptr hO_228 rfl hx_229
  refine drawE [] [(3, ⟨wb, wo + (x).toNat * 7 + 4, none⟩, .int .i64 (x_9.row + 1)), (5, ⟨b_148, 7, none⟩, .int .i64 x_16.rows)] [(true, [0, 1, 2, 4]), (true, [3]), (true, [5]), (true, [6])] rfl (by kernel_rfl) ⟨.inr ((hp_230.up 7 rfl).cell hS_226 (k := 4) rfl), .inr (hS_226.cell 0 rfl rfl), trivial⟩ ?_
  have hS_231 := hS_226.drew
  refine wU [0, 1, 2, 4] ?_
  refine wLd (.int .i64 (x_9.row + 1)) 0 Try.isAgg3 ?_
  refine wLd (.int .i64 x_16.rows) 1 Try.isAgg3 ?_
  refine wU [6] ?_
  refine wN ?_
  refine thenK_n <| ?_
  refine cD ((x_9.row + 1) ≥ x_16.rows) (fun hc_232 => ?_) (fun hc_232 => ?_)
  rotate_left
  · refine skipE <| thenK_n <| seqE <| regionE <| pu2 ?_
    refine sT hS_231 1 0 (.agg #[.int .i64 7, .int .i64 x, .int .i64 0, .int .i64 0, .int .i64 0, .int .i64 0, .int .i64 0]) [.int .i64 7, .int .i64 x, .int .i64 0, .int .i64 0, .int .i64 0, .int .i64 0, .int .i64 0] #[.int .i64 7, .int .i64 x, .int .i64 0, .int .i64 0, .int .i64 0, .int .i64 0, .int .i64 0] Try.sizeOf50 ?_
    intro w_246 hS_247
    refine nilO <| thenK_n <| retE <| blockK_r <| thenK_r <| retN (vs := [.agg #[.int .i64 7, .int .i64 x, .int .i64 0, .int .i64 0, .int .i64 0, .int .i64 0, .int .i64 0]]) rfl (.cons (.cell _ _ _ _ (by kernel_rfl) (lvA hS_247 1 0 [.int .i64 7, .int .i64 x, .int .i64 0, .int .i64 0, .int .i64 0, .int .i64 0, .int .i64 0] (Try.isAgg50 _) (Try.sizeOf50 _) rfl rfl rfl)) .nil) <| ?_
    have hS_251 := ((((hS_247.pick 5 rfl).pick 5 rfl).pick 5 rfl).pick 5 rfl)
    have hS_248 : Sat W _ (([(bj_2, .cells #[.slice taj_2 tnj_2 tkj_2, .int .i64 j.band, .pointer (some ⟨bbj_2, 0, none⟩), .bool (canc j)] 97 (0, 0))] ++ (Tj_2 ++ Mbj_2)) :: (jcs.eraseIdx nj_2).flatten :: [(b_148, .cells (encTask x_16).toArray 31 (0, 0))] :: [(b_6, .cells #[.int .i64 7, .int .i64 x, .int .i64 0, .int .i64 0, .int .i64 0, .int .i64 0, .int .i64 0] 50 (0, 0))] :: (Tri p 81 (preP F.cfg wb wo wn wk q m) (([] : List Ref).flatMap encRef) (encStt F.st)) :: c_227 :: acs.flatten :: dcs.flatten :: Qc :: Jc :: H :: F0) := Sat.perm (show Sat W _ ([(bj_2, .cells #[.slice taj_2 tnj_2 tkj_2, .int .i64 j.band, .pointer (some ⟨bbj_2, 0, none⟩), .bool (canc j)] 97 (0, 0))] :: Tj_2 :: Mbj_2 :: (jcs.eraseIdx nj_2).flatten :: [(b_148, .cells (encTask x_16).toArray 31 (0, 0))] :: [(b_6, .cells #[.int .i64 7, .int .i64 x, .int .i64 0, .int .i64 0, .int .i64 0, .int .i64 0, .int .i64 0] 50 (0, 0))] :: (Tri p 81 (preP F.cfg wb wo wn wk q m) (([] : List Ref).flatMap encRef) (encStt F.st)) :: c_227 :: acs.flatten :: dcs.flatten :: Qc :: Jc :: H :: F0) from hS_251) (by simp)
    have hS_249 := Sat.shutN (d := ([(bj_2, .cells #[.slice taj_2 tnj_2 tkj_2, .int .i64 j.band, .pointer (some ⟨bbj_2, 0, none⟩), .bool (canc j)] 97 (0, 0))] ++ (Tj_2 ++ Mbj_2))) (A := []) nj_2 hjcj_2 hS_248
    rw [set_same hjcj_2] at hS_249
    have hS_252 : Sat W _ ((Tri p 81 (preP F.cfg wb wo wn wk q m) (([] : List Ref).flatMap encRef) (encStt F.st)) :: c_227 :: acs.flatten :: dcs.flatten :: Qc :: Jc :: jcs.flatten :: [(b_148, .cells (encTask x_16).toArray 31 (0, 0))] :: [(b_6, .cells #[.int .i64 7, .int .i64 x, .int .i64 0, .int .i64 0, .int .i64 0, .int .i64 0, .int .i64 0] 50 (0, 0))] :: H :: F0) := ((((((hS_249.pick 8 rfl).pick 8 rfl).pick 8 rfl).pick 8 rfl).pick 8 rfl).pick 8 rfl)
    have hS_253 := ((hS_252.dropAt 7 rfl).dropAt 7 rfl)
    have hS_254 : Sat W _ (((Tri p 81 (preP F.cfg wb wo wn wk q m) (([] : List Ref).flatMap encRef) (encStt F.st)) ++ (c_227 ++ (acs.flatten ++ (dcs.flatten ++ (Qc ++ (Jc ++ jcs.flatten)))))) :: H :: F0) := Sat.perm (show Sat W _ ((Tri p 81 (preP F.cfg wb wo wn wk q m) (([] : List Ref).flatMap encRef) (encStt F.st)) :: c_227 :: acs.flatten :: dcs.flatten :: Qc :: Jc :: jcs.flatten :: H :: F0) from hS_253) (by simp)
    have he : (microF F x).1 = (⟨F.cfg, (F.ws.set x.toNat (⟨2, v0.heldJob, v0.heldTask, v0.attempt, v0.row + 1, v0.used, v0.high⟩ : Wkr)), F.ar, F.dq, F.q, F.jobs, F.st⟩ : FS) := by unfold microF jobAt; simp only [getD_some hv0, getD_some hj, getD_some htk]; rw [if_neg (by omega), if_pos (by omega)]; rw [if_neg (show ¬ v0.row + 1 = x_16.v.rows from show ¬ v0.row + 1 = x_16.rows by omega)]
    exact ⟨_, by unfold microF; simp only [getD_some hv0]; rw [if_neg (by omega), if_pos (by omega)]; rfl, by rw [he]; exact ⟨_, _, _, _, _, _, _, _, _, _, _, _, _, _, rfl, hO_228, (core_set hco (show (⟨x_9.phase, x_9.heldJob, x_9.heldTask, x_9.attempt, (x_9.row + 1)⟩ : Core) = ⟨2, v0.heldJob, v0.heldTask, v0.attempt, v0.row + 1⟩ by rw [hv_151, hv_152, hv_153, hv_154]; congr 1 <;> omega)), (by rw [map_setA (x' := (⟨x_9.phase, x_9.heldJob, x_9.heldTask, x_9.attempt, (x_9.row + 1), x_9.a, x_9.d⟩ : PW)) hx_12 rfl]; exact hAs), (by rw [map_setD (x' := (⟨x_9.phase, x_9.heldJob, x_9.heldTask, x_9.attempt, (x_9.row + 1), x_9.a, x_9.d⟩ : PW)) hx_12 rfl]; exact hDs), hQ, hM, hJs⟩, hS_254⟩
  refine regionE <| pu3 ?_
  refine sStF hS_231 hO_228 rfl 7 (x).toNat 0 (⟨x_9.phase, x_9.heldJob, x_9.heldTask, x_9.attempt, (x_9.row + 1), x_9.a, x_9.d⟩ : PW) (⟨3, x_9.heldJob, x_9.heldTask, x_9.attempt, (x_9.row + 1), x_9.a, x_9.d⟩ : PW) hx_229 (.int .i64 3) [.int .i64 3] Try.sizeOf3 ?_
  intro w_233 c_235 hO_236 hS_234
  rw [List.set_set] at hO_236
  refine nilO <| thenK_n <| seqE <| regionE <| pu2 ?_
  refine sT hS_234 1 0 (.agg #[.int .i64 7, .int .i64 x, .int .i64 0, .int .i64 0, .int .i64 0, .int .i64 0, .int .i64 0]) [.int .i64 7, .int .i64 x, .int .i64 0, .int .i64 0, .int .i64 0, .int .i64 0, .int .i64 0] #[.int .i64 7, .int .i64 x, .int .i64 0, .int .i64 0, .int .i64 0, .int .i64 0, .int .i64 0] Try.sizeOf50 ?_
  intro w_237 hS_238
  refine nilO <| thenK_n <| retE <| blockK_r <| thenK_r <| retN (vs := [.agg #[.int .i64 7, .int .i64 x, .int .i64 0, .int .i64 0, .int .i64 0, .int .i64 0, .int .i64 0]]) rfl (.cons (.cell _ _ _ _ (by kernel_rfl) (lvA hS_238 1 0 [.int .i64 7, .int .i64 x, .int .i64 0, .int .i64 0, .int .i64 0, .int .i64 0, .int .i64 0] (Try.isAgg50 _) (Try.sizeOf50 _) rfl rfl rfl)) .nil) <| ?_
  have hS_242 := ((((hS_238.pick 5 rfl).pick 5 rfl).pick 5 rfl).pick 5 rfl)
  have hS_239 : Sat W _ (([(bj_2, .cells #[.slice taj_2 tnj_2 tkj_2, .int .i64 j.band, .pointer (some ⟨bbj_2, 0, none⟩), .bool (canc j)] 97 (0, 0))] ++ (Tj_2 ++ Mbj_2)) :: (jcs.eraseIdx nj_2).flatten :: [(b_148, .cells (encTask x_16).toArray 31 (0, 0))] :: [(b_6, .cells #[.int .i64 7, .int .i64 x, .int .i64 0, .int .i64 0, .int .i64 0, .int .i64 0, .int .i64 0] 50 (0, 0))] :: (Tri p 81 (preP F.cfg wb wo wn wk q m) (([] : List Ref).flatMap encRef) (encStt F.st)) :: c_235 :: acs.flatten :: dcs.flatten :: Qc :: Jc :: H :: F0) := Sat.perm (show Sat W _ ([(bj_2, .cells #[.slice taj_2 tnj_2 tkj_2, .int .i64 j.band, .pointer (some ⟨bbj_2, 0, none⟩), .bool (canc j)] 97 (0, 0))] :: Tj_2 :: Mbj_2 :: (jcs.eraseIdx nj_2).flatten :: [(b_148, .cells (encTask x_16).toArray 31 (0, 0))] :: [(b_6, .cells #[.int .i64 7, .int .i64 x, .int .i64 0, .int .i64 0, .int .i64 0, .int .i64 0, .int .i64 0] 50 (0, 0))] :: (Tri p 81 (preP F.cfg wb wo wn wk q m) (([] : List Ref).flatMap encRef) (encStt F.st)) :: c_235 :: acs.flatten :: dcs.flatten :: Qc :: Jc :: H :: F0) from hS_242) (by simp)
  have hS_240 := Sat.shutN (d := ([(bj_2, .cells #[.slice taj_2 tnj_2 tkj_2, .int .i64 j.band, .pointer (some ⟨bbj_2, 0, none⟩), .bool (canc j)] 97 (0, 0))] ++ (Tj_2 ++ Mbj_2))) (A := []) nj_2 hjcj_2 hS_239
  rw [set_same hjcj_2] at hS_240
  have hS_243 : Sat W _ ((Tri p 81 (preP F.cfg wb wo wn wk q m) (([] : List Ref).flatMap encRef) (encStt F.st)) :: c_235 :: acs.flatten :: dcs.flatten :: Qc :: Jc :: jcs.flatten :: [(b_148, .cells (encTask x_16).toArray 31 (0, 0))] :: [(b_6, .cells #[.int .i64 7, .int .i64 x, .int .i64 0, .int .i64 0, .int .i64 0, .int .i64 0, .int .i64 0] 50 (0, 0))] :: H :: F0) := ((((((hS_240.pick 8 rfl).pick 8 rfl).pick 8 rfl).pick 8 rfl).pick 8 rfl).pick 8 rfl)
  have hS_244 := ((hS_243.dropAt 7 rfl).dropAt 7 rfl)
  have hS_245 : Sat W _ (((Tri p 81 (preP F.cfg wb wo wn wk q m) (([] : List Ref).flatMap encRef) (encStt F.st)) ++ (c_235 ++ (acs.flatten ++ (dcs.flatten ++ (Qc ++ (Jc ++ jcs.flatten)))))) :: H :: F0) := Sat.perm (show Sat W _ ((Tri p 81 (preP F.cfg wb wo wn wk q m) (([] : List Ref).flatMap encRef) (encStt F.st)) :: c_235 :: acs.flatten :: dcs.flatten :: Qc :: Jc :: jcs.flatten :: H :: F0) from hS_244) (by simp)
  have he : (microF F x).1 = (⟨F.cfg, (F.ws.set x.toNat (⟨3, v0.heldJob, v0.heldTask, v0.attempt, v0.row + 1, v0.used, v0.high⟩ : Wkr)), F.ar, F.dq, F.q, F.jobs, F.st⟩ : FS) := by unfold microF jobAt; simp only [getD_some hv0, getD_some hj, getD_some htk]; rw [if_neg (by omega), if_pos (by omega)]; rw [if_pos (show v0.row + 1 = x_16.v.rows from show v0.row + 1 = x_16.rows by have := hr2 (by omega); omega)]
  exact ⟨_, by unfold microF; simp only [getD_some hv0]; rw [if_neg (by omega), if_pos (by omega)]; rfl, by rw [he]; exact ⟨_, _, _, _, _, _, _, _, _, _, _, _, _, _, rfl, hO_236, (core_set hco (show (⟨3, x_9.heldJob, x_9.heldTask, x_9.attempt, (x_9.row + 1)⟩ : Core) = ⟨3, v0.heldJob, v0.heldTask, v0.attempt, v0.row + 1⟩ by rw [hv_151, hv_152, hv_153, hv_154])), (by rw [map_setA (x' := (⟨3, x_9.heldJob, x_9.heldTask, x_9.attempt, (x_9.row + 1), x_9.a, x_9.d⟩ : PW)) hx_12 rfl]; exact hAs), (by rw [map_setD (x' := (⟨3, x_9.heldJob, x_9.heldTask, x_9.attempt, (x_9.row + 1), x_9.a, x_9.d⟩ : PW)) hx_12 rfl]; exact hDs), hQ, hM, hJs⟩, hS_245⟩
theorem pf_take {p : Nat} {F : FS} {M : Chunk} {F0 : List Chunk} (hR : FarmP p F M) {K : Int} (hF : FI F K) {v0 : Wkr} {c : Int} (x : Int) (al : Option Addr) (nl kl : Nat) (l : List Int) (hl : RdT encI 1 [H] al nl kl l) (hx : 0 ≤ x ∧ x < F.ws.length) (hv0 : F.ws[x.toNat]? = some v0) (hh : ¬ Holds v0) (hseq : l = seqL F.ws.length c) (hS : Sat W w (M :: H :: F0)) :
    Calls Try.prog 55 #[.pointer (some ⟨p, 0, none⟩), .int .i64 x, .slice al nl kl] w fun e w' => (acqF F x c = none ∧ e = .returned (.tuple #[.agg #[.int .i64 0, .int .i64 0, .int .i64 0, .int .i64 0, .int .i64 0, .int .i64 0, .int .i64 0], .bool false]) ∧ Sat W w' (M :: H :: F0)) ∨ (∃ (F' : FS) (ev : Evt) (M' : Chunk), acqF F x c = some (F', ev) ∧ e = .returned (.tuple #[.agg (encEvt ev).toArray, .bool true]) ∧ FarmP p F' M' ∧ Sat W w' (M' :: H :: F0)) := by
  have hl_l := hl.le; have hn_l := hl.len
  obtain ⟨wb, wo, wn, wk, q, m, xs, jm, Wc, Qc, Jc, acs, dcs, jcs, rfl, hOw, hco, hAs, hDs, hQ, hM, hJs⟩ := hR
  have hS_1 : Sat W _ ((Tri p 81 (preP F.cfg wb wo wn wk q m) (([] : List Ref).flatMap encRef) (encStt F.st)) :: Wc :: acs.flatten :: dcs.flatten :: Qc :: Jc :: jcs.flatten :: H :: F0) := Sat.perm hS (by simp)
  have hwl := hOw.len; have hwk := hOw.le; have hcl := core_len hco; have has1 := hAs.1; have hds1 := hDs.1; rw [List.length_map] at has1 hds1; have hjl1 := hJs.l
  have hid := hF.idle hv0 hh; have hs1 := hF.st.a; have hs2 := hF.st.b; have hs3 := hF.st.c; have hs4 := hF.st.d; have hs5 := hF.st.e; have hs6 := hF.st.f; have hs7 := hF.st.g; have hKK := hF.fw.k; have hn9 := hF.fw.n; have hal9 := hF.fw.al; have hdl9 := hF.fw.dl; have hseq9 : l.length = F.ws.length := by rw [hseq, seq_len]
  refine callsA 90 Try.func55 rfl ?_
  refine seqE <| regionE ?_
  refine sAlloc hS_1 Try.zeroValue50 ?_
  intro b_2 w_3 hS_4
  refine pu1 <| nilO <| thenK_n <| seqE <| seqE <| regionE <| pu3 ?_
  refine sLp hS_4 (ptr_up 1 rfl tri_pre) 8 (.slice (some ⟨wb, wo, none⟩) wn wk) (Try.isAgg79 _) ?_
  refine pu1 ?_
  refine sIdxO hOw x (x).toNat Try.runUnderlying79 Try.sizeOf89 ?_
  intro x_5 b_6 o_7 hx_8 hp_9 hq_10
  obtain ⟨rfl, rfl⟩ := some_addr hq_10
  obtain ⟨v_11, hv_11, hv_110, hv_111, hv_112, hv_113, hv_114⟩ := core_at hco hx_8
  refine pu1 ?_
  refine sLp hS_4 (hp_9.up 2 rfl) 6 (.pointer (some ⟨x_5.d, 0, none⟩)) (Try.isAgg85 _) ?_
  obtain ⟨s_12, c_13, hs_14, hc_15, hR_16⟩ := Obs.get hDs (map_at' hx_8)
  have hS_18 := (hS_4.pick 4 rfl)
  have hS_17 := Sat.openN (A := []) x.toNat hc_15 hS_18
  refine cX Try.call82 (pd_pop hR_16 (Sat.flat1 hS_17)) ?_
  rintro _ w_19 (⟨he_21, rfl, hS_20⟩ | ⟨x_22, M_23, hx_24, rfl, hR_25, hS_20⟩)
  rotate_left
  · have hS_143 := Sat.unflat1 hS_20
    have hS_144 := ((hS_143.pick 1 rfl).pick 1 rfl)
    have hS_145 := Sat.shutN (d := M_23) (A := []) x.toNat hc_15 hS_144
    have hL_146 := Obs.set hDs (map_at' hx_8) hR_25
    refine pu3 ?_
    refine sAlloc hS_145 Try.zeroValue48 ?_
    intro b_147 w_148 hS_149
    refine sT hS_149 0 0 (.agg #[.int .i64 x_22.job, .int .i64 x_22.task]) [.int .i64 x_22.job, .int .i64 x_22.task] #[.int .i64 x_22.job, .int .i64 x_22.task] Try.sizeOf48 ?_
    intro w_150 hS_151
    refine pu1 <| nilO <| thenK_n <| seqE <| regionE <| pu1 <| nilO <| thenK_n <| cTt <| seqE <| regionE <| pu2 ?_
    refine lA hS_151 0 0 2 (Try.isAgg48 _) (Try.sizeOf48 _) ?_
    have hS_152 : Sat W _ (Wc :: acs.flatten :: (dcs.set x.toNat M_23).flatten :: Qc :: Jc :: jcs.flatten :: [(b_147, .cells #[.int .i64 x_22.job, .int .i64 x_22.task] 48 (0, 0))] :: [(b_2, .cells #[.int .i64 0, .int .i64 0, .int .i64 0, .int .i64 0, .int .i64 0, .int .i64 0, .int .i64 0] 50 (0, 0))] :: (Tri p 81 (preP F.cfg wb wo wn wk q m) (([] : List Ref).flatMap encRef) (encStt F.st)) :: H :: F0) := ((((((hS_151.pick 8 rfl).pick 8 rfl).pick 8 rfl).pick 4 rfl).pick 8 rfl).pick 8 rfl)
    have hS_153 := (hS_152.pick 8 rfl)
    have hS_154 : Sat W _ (((Tri p 81 (preP F.cfg wb wo wn wk q m) (([] : List Ref).flatMap encRef) (encStt F.st)) ++ (Wc ++ (acs.flatten ++ ((dcs.set x.toNat M_23).flatten ++ (Qc ++ (Jc ++ jcs.flatten)))))) :: [(b_147, .cells #[.int .i64 x_22.job, .int .i64 x_22.task] 48 (0, 0))] :: [(b_2, .cells #[.int .i64 0, .int .i64 0, .int .i64 0, .int .i64 0, .int .i64 0, .int .i64 0, .int .i64 0] 50 (0, 0))] :: H :: F0) := Sat.perm (show Sat W _ ((Tri p 81 (preP F.cfg wb wo wn wk q m) (([] : List Ref).flatMap encRef) (encStt F.st)) :: Wc :: acs.flatten :: (dcs.set x.toNat M_23).flatten :: Qc :: Jc :: jcs.flatten :: [(b_147, .cells #[.int .i64 x_22.job, .int .i64 x_22.task] 48 (0, 0))] :: [(b_2, .cells #[.int .i64 0, .int .i64 0, .int .i64 0, .int .i64 0, .int .i64 0, .int .i64 0, .int .i64 0] 50 (0, 0))] :: H :: F0) from hS_153) (by simp)
    have hRx_155 : FarmP p (⟨F.cfg, F.ws, F.ar, (F.dq.set x.toNat ({ s_12 with l := s_12.l.dropLast } : DS)), F.q, F.jobs, F.st⟩ : FS) ((Tri p 81 (preP F.cfg wb wo wn wk q m) (([] : List Ref).flatMap encRef) (encStt F.st)) ++ (Wc ++ (acs.flatten ++ ((dcs.set x.toNat M_23).flatten ++ (Qc ++ (Jc ++ jcs.flatten)))))) := ⟨_, _, _, _, _, _, _, _, _, _, _, _, _, _, rfl, hOw, hco, hAs, hL_146, hQ, hM, hJs⟩
    have hro_161 : RefOk (shapeF F.jobs) x_22 := (hF.fw.d _ (List.mem_of_getElem? hs_14) _ (List.mem_of_getLast? hx_24))
    obtain ⟨j_162, hj_163, ha_164, hB_165, _⟩ := hF.fw.job hro_161
    refine cX Try.call83 (pf_start hRx_155 x x_22 (by first | omega | (dsimp only; omega) | (simp only [List.length_set]; omega)) ⟨hro_161.1, hro_161.2.1⟩ hj_163 ha_164 hB_165 (by first | omega | (dsimp only; omega) | (simp only [List.length_set]; omega)) (Sat.flat1 hS_154)) ?_
    rintro _ w_156 ⟨M_159, rfl, hR_160, hS_157⟩
    have hS_158 := Sat.unflat1 hS_157
    refine nilO <| thenK_n <| seqE <| regionE <| pu1 ?_
    refine lA hS_158 1 0 2 (Try.isAgg48 _) (Try.sizeOf48 _) ?_
    refine pu1 ?_
    refine sT hS_158 2 0 (.agg #[.int .i64 3, .int .i64 x, .int .i64 0, .int .i64 0, .int .i64 x_22.job, .int .i64 x_22.task, .int .i64 0]) [.int .i64 3, .int .i64 x, .int .i64 0, .int .i64 0, .int .i64 x_22.job, .int .i64 x_22.task, .int .i64 0] #[.int .i64 3, .int .i64 x, .int .i64 0, .int .i64 0, .int .i64 x_22.job, .int .i64 x_22.task, .int .i64 0] Try.sizeOf50 ?_
    intro w_166 hS_167
    refine pu1 <| nilO <| thenK_n <| retE <| thenK_r <| retN (vs := [.agg #[.int .i64 3, .int .i64 x, .int .i64 0, .int .i64 0, .int .i64 x_22.job, .int .i64 x_22.task, .int .i64 0], .bool true]) rfl (.cons (.cell _ _ _ _ (by kernel_rfl) (lvA hS_167 2 0 [.int .i64 3, .int .i64 x, .int .i64 0, .int .i64 0, .int .i64 x_22.job, .int .i64 x_22.task, .int .i64 0] (Try.isAgg50 _) (Try.sizeOf50 _) rfl rfl rfl)) (.cons (.tmp _ _ (by kernel_rfl)) .nil)) <| ?_
    have hS_168 := ((hS_167.dropAt 1 rfl).dropAt 1 rfl)
    have he : acqF F x c = some (takeF (⟨F.cfg, F.ws, F.ar, (F.dq.set x.toNat ({ s_12 with l := s_12.l.dropLast } : DS)), F.q, F.jobs, F.st⟩ : FS) x x_22, (⟨3, x, 0, 0, x_22.job, x_22.task, 0⟩ : Evt)) := acq_own hs_14 hx_24
    exact .inr ⟨_, _, _, he, rfl, hR_160, hS_168⟩
  have hS_26 := Sat.unflat1 hS_20
  have hS_27 := ((hS_26.pick 1 rfl).pick 1 rfl)
  have hS_28 := Sat.shutN (d := c_13) (A := []) x.toNat hc_15 hS_27
  rw [set_same hc_15] at hS_28
  refine pu3 ?_
  refine sAlloc hS_28 Try.zeroValue48 ?_
  intro b_29 w_30 hS_31
  refine sT hS_31 0 0 (.agg #[.int .i64 0, .int .i64 0]) [.int .i64 0, .int .i64 0] #[.int .i64 0, .int .i64 0] Try.sizeOf48 ?_
  intro w_32 hS_33
  refine pu1 <| nilO <| thenK_n <| seqE <| regionE <| pu1 <| nilO <| thenK_n <| cFf <| skipE <| thenK_n <| seqE <| seqE <| regionE <| pu3 ?_
  refine sLp hS_33 (ptr_up 3 rfl tri_pre) 9 (.pointer (some ⟨q, 0, none⟩)) (Try.isAgg75 _) ?_
  have hS_34 := (hS_33.pick 6 rfl)
  refine cX Try.call84 (pq_pop hQ (Sat.flat1 hS_34)) ?_
  rintro _ w_35 (⟨he_37, rfl, hS_36⟩ | ⟨x_38, bs_39, M_40, hx_41, rfl, hR_42, hS_36⟩)
  rotate_left
  · have hS_120 := Sat.unflat1 hS_36
    refine pu3 ?_
    refine sAlloc hS_120 Try.zeroValue48 ?_
    intro b_121 w_122 hS_123
    refine sT hS_123 0 0 (.agg #[.int .i64 x_38.job, .int .i64 x_38.task]) [.int .i64 x_38.job, .int .i64 x_38.task] #[.int .i64 x_38.job, .int .i64 x_38.task] Try.sizeOf48 ?_
    intro w_124 hS_125
    refine pu1 <| nilO <| thenK_n <| seqE <| regionE <| pu1 <| nilO <| thenK_n <| cTt <| seqE <| regionE <| pu2 ?_
    refine lA hS_125 0 0 2 (Try.isAgg48 _) (Try.sizeOf48 _) ?_
    have hS_126 : Sat W _ (Wc :: acs.flatten :: dcs.flatten :: M_40 :: Jc :: jcs.flatten :: [(b_121, .cells #[.int .i64 x_38.job, .int .i64 x_38.task] 48 (0, 0))] :: [(b_29, .cells #[.int .i64 0, .int .i64 0] 48 (0, 0))] :: [(b_2, .cells #[.int .i64 0, .int .i64 0, .int .i64 0, .int .i64 0, .int .i64 0, .int .i64 0, .int .i64 0] 50 (0, 0))] :: (Tri p 81 (preP F.cfg wb wo wn wk q m) (([] : List Ref).flatMap encRef) (encStt F.st)) :: H :: F0) := ((((((hS_125.pick 9 rfl).pick 9 rfl).pick 3 rfl).pick 5 rfl).pick 9 rfl).pick 9 rfl)
    have hS_127 := (hS_126.pick 9 rfl)
    have hS_128 : Sat W _ (((Tri p 81 (preP F.cfg wb wo wn wk q m) (([] : List Ref).flatMap encRef) (encStt F.st)) ++ (Wc ++ (acs.flatten ++ (dcs.flatten ++ (M_40 ++ (Jc ++ jcs.flatten)))))) :: [(b_121, .cells #[.int .i64 x_38.job, .int .i64 x_38.task] 48 (0, 0))] :: [(b_29, .cells #[.int .i64 0, .int .i64 0] 48 (0, 0))] :: [(b_2, .cells #[.int .i64 0, .int .i64 0, .int .i64 0, .int .i64 0, .int .i64 0, .int .i64 0, .int .i64 0] 50 (0, 0))] :: H :: F0) := Sat.perm (show Sat W _ ((Tri p 81 (preP F.cfg wb wo wn wk q m) (([] : List Ref).flatMap encRef) (encStt F.st)) :: Wc :: acs.flatten :: dcs.flatten :: M_40 :: Jc :: jcs.flatten :: [(b_121, .cells #[.int .i64 x_38.job, .int .i64 x_38.task] 48 (0, 0))] :: [(b_29, .cells #[.int .i64 0, .int .i64 0] 48 (0, 0))] :: [(b_2, .cells #[.int .i64 0, .int .i64 0, .int .i64 0, .int .i64 0, .int .i64 0, .int .i64 0, .int .i64 0] 50 (0, 0))] :: H :: F0) from hS_127) (by simp)
    have hRx_129 : FarmP p (⟨F.cfg, F.ws, F.ar, F.dq, ({ F.q with bs := bs_39 } : QS), F.jobs, F.st⟩ : FS) ((Tri p 81 (preP F.cfg wb wo wn wk q m) (([] : List Ref).flatMap encRef) (encStt F.st)) ++ (Wc ++ (acs.flatten ++ (dcs.flatten ++ (M_40 ++ (Jc ++ jcs.flatten)))))) := ⟨_, _, _, _, _, _, _, _, _, _, _, _, _, _, rfl, hOw, hco, hAs, hDs, hR_42, hM, hJs⟩
    have hro_135 : RefOk (shapeF F.jobs) x_38 := (let h := popB_mem hx_41; h.1.elim fun l hl => hF.fw.q l hl.1 _ hl.2)
    obtain ⟨j_136, hj_137, ha_138, hB_139, _⟩ := hF.fw.job hro_135
    refine cX Try.call83 (pf_start hRx_129 x x_38 (by first | omega | (dsimp only; omega) | (simp only [List.length_set]; omega)) ⟨hro_135.1, hro_135.2.1⟩ hj_137 ha_138 hB_139 (by first | omega | (dsimp only; omega) | (simp only [List.length_set]; omega)) (Sat.flat1 hS_128)) ?_
    rintro _ w_130 ⟨M_133, rfl, hR_134, hS_131⟩
    have hS_132 := Sat.unflat1 hS_131
    refine nilO <| thenK_n <| seqE <| regionE <| pu1 ?_
    refine lA hS_132 1 0 2 (Try.isAgg48 _) (Try.sizeOf48 _) ?_
    refine pu1 ?_
    refine sT hS_132 3 0 (.agg #[.int .i64 4, .int .i64 x, .int .i64 0, .int .i64 0, .int .i64 x_38.job, .int .i64 x_38.task, .int .i64 0]) [.int .i64 4, .int .i64 x, .int .i64 0, .int .i64 0, .int .i64 x_38.job, .int .i64 x_38.task, .int .i64 0] #[.int .i64 4, .int .i64 x, .int .i64 0, .int .i64 0, .int .i64 x_38.job, .int .i64 x_38.task, .int .i64 0] Try.sizeOf50 ?_
    intro w_140 hS_141
    refine pu1 <| nilO <| thenK_n <| retE <| thenK_r <| retN (vs := [.agg #[.int .i64 4, .int .i64 x, .int .i64 0, .int .i64 0, .int .i64 x_38.job, .int .i64 x_38.task, .int .i64 0], .bool true]) rfl (.cons (.cell _ _ _ _ (by kernel_rfl) (lvA hS_141 3 0 [.int .i64 4, .int .i64 x, .int .i64 0, .int .i64 0, .int .i64 x_38.job, .int .i64 x_38.task, .int .i64 0] (Try.isAgg50 _) (Try.sizeOf50 _) rfl rfl rfl)) (.cons (.tmp _ _ (by kernel_rfl)) .nil)) <| ?_
    have hS_142 := (((hS_141.dropAt 1 rfl).dropAt 1 rfl).dropAt 1 rfl)
    have he : acqF F x c = some (takeF (⟨F.cfg, F.ws, F.ar, F.dq, ({ F.q with bs := bs_39 } : QS), F.jobs, F.st⟩ : FS) x x_38, (⟨4, x, 0, 0, x_38.job, x_38.task, 0⟩ : Evt)) := acq_inj hs_14 he_21 hx_41
    exact .inr ⟨_, _, _, he, rfl, hR_134, hS_142⟩
  have hS_43 := Sat.unflat1 hS_36
  refine pu3 ?_
  refine sAlloc hS_43 Try.zeroValue48 ?_
  intro b_44 w_45 hS_46
  refine sT hS_46 0 0 (.agg #[.int .i64 0, .int .i64 0]) [.int .i64 0, .int .i64 0] #[.int .i64 0, .int .i64 0] Try.sizeOf48 ?_
  intro w_47 hS_48
  refine pu1 <| nilO <| thenK_n <| seqE <| regionE <| pu1 <| nilO <| thenK_n <| cFf <| skipE <| thenK_n <| seqE <| seqE <| regionE <| pu3 <| nilO <| thenK_n <| blockE ?_
  refine loopA (γ := Nat) (fun i => [(0, .pointer (some ⟨p, 0, none⟩)), (1, .int .i64 x), (6, .pointer (some ⟨b_2, 0, none⟩)), (52, .slice al nl kl), (53, .int .i64 ((nl : Nat) : Int)), (54, .int .i64 ((i : Nat) : Int))]) (fun i w => Sat W w ([(b_44, .cells #[.int .i64 0, .int .i64 0] 48 (0, 0))] :: Qc :: [(b_29, .cells #[.int .i64 0, .int .i64 0] 48 (0, 0))] :: dcs.flatten :: [(b_2, .cells #[.int .i64 0, .int .i64 0, .int .i64 0, .int .i64 0, .int .i64 0, .int .i64 0, .int .i64 0] 50 (0, 0))] :: (Tri p 81 (preP F.cfg wb wo wn wk q m) (([] : List Ref).flatMap encRef) (encStt F.st)) :: Wc :: acs.flatten :: Jc :: jcs.flatten :: H :: F0) ∧ i ≤ nl ∧ (firstI (canSteal F c) F.ws.length 0 = firstI (canSteal F c) (F.ws.length - i) i)) (fun i => nl - i) 0 ⟨hS_48, by omega, rfl⟩ ?_
  rintro i ρ w_49 ⟨hS_50, hi, hfi⟩
  refine seqE <| regionE <| pu1 <| nilO <| thenK_n <| seqE ?_
  refine cD (((i : Nat) : Int) < ((nl : Nat) : Int)) (fun hc_51 => ?_) (fun hc_51 => ?_)
  rotate_left
  · refine exitE <| thenK_x <| thenK_x <| blockK_x <| thenK_n <| seqE <| regionE <| pu1 ?_
    refine sT hS_50 4 0 (.agg #[.int .i64 0, .int .i64 0, .int .i64 0, .int .i64 0, .int .i64 0, .int .i64 0, .int .i64 0]) [.int .i64 0, .int .i64 0, .int .i64 0, .int .i64 0, .int .i64 0, .int .i64 0, .int .i64 0] #[.int .i64 0, .int .i64 0, .int .i64 0, .int .i64 0, .int .i64 0, .int .i64 0, .int .i64 0] Try.sizeOf50 ?_
    intro w_115 hS_116
    refine pu1 <| nilO <| thenK_n <| retE <| retN (vs := [.agg #[.int .i64 0, .int .i64 0, .int .i64 0, .int .i64 0, .int .i64 0, .int .i64 0, .int .i64 0], .bool false]) rfl (.cons (.cell _ _ _ _ (by kernel_rfl) (lvA hS_116 4 0 [.int .i64 0, .int .i64 0, .int .i64 0, .int .i64 0, .int .i64 0, .int .i64 0, .int .i64 0] (Try.isAgg50 _) (Try.sizeOf50 _) rfl rfl rfl)) (.cons (.tmp _ _ (by kernel_rfl)) .nil)) <| ?_
    have hS_117 : Sat W _ ((Tri p 81 (preP F.cfg wb wo wn wk q m) (([] : List Ref).flatMap encRef) (encStt F.st)) :: Wc :: acs.flatten :: dcs.flatten :: Qc :: [(b_2, .cells #[.int .i64 0, .int .i64 0, .int .i64 0, .int .i64 0, .int .i64 0, .int .i64 0, .int .i64 0] 50 (0, 0))] :: Jc :: jcs.flatten :: H :: F0) := ((((((hS_116.pick 3 rfl).pick 7 rfl).pick 7 rfl).pick 7 rfl).dropAt 4 rfl).dropAt 5 rfl)
    have hS_118 := (hS_117.dropAt 5 rfl)
    have hS_119 : Sat W _ (((Tri p 81 (preP F.cfg wb wo wn wk q m) (([] : List Ref).flatMap encRef) (encStt F.st)) ++ (Wc ++ (acs.flatten ++ (dcs.flatten ++ (Qc ++ (Jc ++ jcs.flatten)))))) :: H :: F0) := Sat.perm (show Sat W _ ((Tri p 81 (preP F.cfg wb wo wn wk q m) (([] : List Ref).flatMap encRef) (encStt F.st)) :: Wc :: acs.flatten :: dcs.flatten :: Qc :: Jc :: jcs.flatten :: H :: F0) from hS_118) (by simp)
    exact .inl ⟨(acq_rest hs_14 he_21 he_37).trans (steal_end (by omega) hfi), rfl, hS_119⟩
  refine skipE <| thenK_n <| seqE <| blockE <| seqE <| regionE ?_
  refine sIdx hl ((i : Nat) : Int) Try.runUnderlying22 Try.sizeOf3 ?_
  intro x_52 b_53 o_54 hx_55 hp_56
  rw [Int.toNat_natCast] at hx_55
  have hcx : x_52 = chF F c i := seq_at (n := F.ws.length) (by rw [← hseq]; exact hx_55); have hcb := chF_bd (F := F) (c := c) (i := i) hF.fw.n.1
  refine sLp hS_50 (hp_56.up 10 rfl) 0 (.int .i64 x_52) (Try.isAgg3 _) ?_
  refine pu1 <| nilO <| thenK_n <| seqE <| regionE <| pu3 ?_
  refine sLp hS_50 (ptr_up 5 rfl tri_pre) 8 (.slice (some ⟨wb, wo, none⟩) wn wk) (Try.isAgg79 _) ?_
  refine pu1 ?_
  refine sIdxO hOw x_52 (x_52).toNat Try.runUnderlying79 Try.sizeOf89 ?_
  intro x_57 b_58 o_59 hx_60 hp_61 hq_62
  obtain ⟨rfl, rfl⟩ := some_addr hq_62
  obtain ⟨v_63, hv_63, hv_630, hv_631, hv_632, hv_633, hv_634⟩ := core_at hco hx_60
  refine pu1 ?_
  refine sLp hS_50 (hp_61.up 6 rfl) 6 (.pointer (some ⟨x_57.d, 0, none⟩)) (Try.isAgg85 _) ?_
  obtain ⟨s_64, c_65, hs_66, hc_67, hR_68⟩ := Obs.get hDs (map_at' hx_60)
  have hS_70 := (hS_50.pick 3 rfl)
  have hS_69 := Sat.openN (A := []) x_52.toNat hc_67 hS_70
  refine cX Try.call85 (pd_steal hR_68 (Sat.flat1 hS_69)) ?_
  rintro _ w_71 (⟨he_73, rfl, hS_72⟩ | ⟨x_74, M_75, hx_76, rfl, hR_77, hS_72⟩)
  · have hS_78 := Sat.unflat1 hS_72
    have hS_79 := ((hS_78.pick 1 rfl).pick 1 rfl)
    have hS_80 := Sat.shutN (d := c_65) (A := []) x_52.toNat hc_67 hS_79
    rw [set_same hc_67] at hS_80
    refine pu3 ?_
    refine sAlloc hS_80 Try.zeroValue48 ?_
    intro b_81 w_82 hS_83
    refine sT hS_83 0 0 (.agg #[.int .i64 0, .int .i64 0]) [.int .i64 0, .int .i64 0] #[.int .i64 0, .int .i64 0] Try.sizeOf48 ?_
    intro w_84 hS_85
    refine pu1 <| nilO <| thenK_n <| seqE <| regionE <| pu1 <| nilO <| thenK_n <| cFf <| skipE <| blockK_n <| thenK_n <| regionE ?_
    refine sAdd ((i : Nat) : Int) 1 ?_
    refine pu1 <| nilO <| thenK_n <| ?_
    have hS_86 := ((((hS_85.pick 4 rfl).pick 4 rfl).pick 4 rfl).dropAt 3 rfl)
    exact ⟨i + 1, by first | omega | (dsimp only; omega), alA, hS_86, by omega, (steal_skip (by omega) hfi (by rw [← hcx]; exact hs_66) he_73)⟩
  have hS_87 := Sat.unflat1 hS_72
  have hS_88 := ((hS_87.pick 1 rfl).pick 1 rfl)
  have hS_89 := Sat.shutN (d := M_75) (A := []) x_52.toNat hc_67 hS_88
  have hL_90 := Obs.set hDs (map_at' hx_60) hR_77
  refine pu3 ?_
  refine sAlloc hS_89 Try.zeroValue48 ?_
  intro b_91 w_92 hS_93
  refine sT hS_93 0 0 (.agg #[.int .i64 x_74.job, .int .i64 x_74.task]) [.int .i64 x_74.job, .int .i64 x_74.task] #[.int .i64 x_74.job, .int .i64 x_74.task] Try.sizeOf48 ?_
  intro w_94 hS_95
  refine pu1 <| nilO <| thenK_n <| seqE <| regionE <| pu1 <| nilO <| thenK_n <| cTt <| seqE <| regionE <| pu4 ?_
  refine sLp hS_95 (ptr_up 6 rfl (tri_post (k := 11) (tri_len (sz := 2) (m := 11) (fun _ => rfl) (rfl : ([] : List Ref).length = 0)))) 4 (.int .i64 F.st.steals) (Try.isAgg3 _) ?_
  refine sAdd F.st.steals 1 ?_
  refine pu3 ?_
  refine sTpost hS_95 6 11 4 rfl (.int .i64 (F.st.steals + 1)) [.int .i64 (F.st.steals + 1)] [.int .i64 F.st.starts, .int .i64 F.st.commits, .int .i64 F.st.drops, .int .i64 F.st.crashes, .int .i64 (F.st.steals + 1), .int .i64 F.st.helps, .int .i64 F.st.spills, .int .i64 F.st.queued, .int .i64 F.st.held, .int .i64 F.st.cells] (tri_len (sz := 2) (m := 11) (fun _ => rfl) (rfl : ([] : List Ref).length = 0)) Try.sizeOf3 ?_
  intro w_96 hS_97
  refine nilO <| thenK_n <| seqE <| regionE <| pu2 ?_
  refine lA hS_97 0 0 2 (Try.isAgg48 _) (Try.sizeOf48 _) ?_
  have hS_98 : Sat W _ (Wc :: acs.flatten :: (dcs.set x_52.toNat M_75).flatten :: Qc :: Jc :: jcs.flatten :: [(b_91, .cells #[.int .i64 x_74.job, .int .i64 x_74.task] 48 (0, 0))] :: [(b_44, .cells #[.int .i64 0, .int .i64 0] 48 (0, 0))] :: [(b_29, .cells #[.int .i64 0, .int .i64 0] 48 (0, 0))] :: [(b_2, .cells #[.int .i64 0, .int .i64 0, .int .i64 0, .int .i64 0, .int .i64 0, .int .i64 0, .int .i64 0] 50 (0, 0))] :: (Tri p 81 (preP F.cfg wb wo wn wk q m) (([] : List Ref).flatMap encRef) [.int .i64 F.st.starts, .int .i64 F.st.commits, .int .i64 F.st.drops, .int .i64 F.st.crashes, .int .i64 (F.st.steals + 1), .int .i64 F.st.helps, .int .i64 F.st.spills, .int .i64 F.st.queued, .int .i64 F.st.held, .int .i64 F.st.cells]) :: H :: F0) := ((((((hS_97.pick 10 rfl).pick 10 rfl).pick 5 rfl).pick 4 rfl).pick 10 rfl).pick 10 rfl)
  have hS_99 := (hS_98.pick 10 rfl)
  have hS_100 : Sat W _ (((Tri p 81 (preP F.cfg wb wo wn wk q m) (([] : List Ref).flatMap encRef) [.int .i64 F.st.starts, .int .i64 F.st.commits, .int .i64 F.st.drops, .int .i64 F.st.crashes, .int .i64 (F.st.steals + 1), .int .i64 F.st.helps, .int .i64 F.st.spills, .int .i64 F.st.queued, .int .i64 F.st.held, .int .i64 F.st.cells]) ++ (Wc ++ (acs.flatten ++ ((dcs.set x_52.toNat M_75).flatten ++ (Qc ++ (Jc ++ jcs.flatten)))))) :: [(b_91, .cells #[.int .i64 x_74.job, .int .i64 x_74.task] 48 (0, 0))] :: [(b_44, .cells #[.int .i64 0, .int .i64 0] 48 (0, 0))] :: [(b_29, .cells #[.int .i64 0, .int .i64 0] 48 (0, 0))] :: [(b_2, .cells #[.int .i64 0, .int .i64 0, .int .i64 0, .int .i64 0, .int .i64 0, .int .i64 0, .int .i64 0] 50 (0, 0))] :: H :: F0) := Sat.perm (show Sat W _ ((Tri p 81 (preP F.cfg wb wo wn wk q m) (([] : List Ref).flatMap encRef) [.int .i64 F.st.starts, .int .i64 F.st.commits, .int .i64 F.st.drops, .int .i64 F.st.crashes, .int .i64 (F.st.steals + 1), .int .i64 F.st.helps, .int .i64 F.st.spills, .int .i64 F.st.queued, .int .i64 F.st.held, .int .i64 F.st.cells]) :: Wc :: acs.flatten :: (dcs.set x_52.toNat M_75).flatten :: Qc :: Jc :: jcs.flatten :: [(b_91, .cells #[.int .i64 x_74.job, .int .i64 x_74.task] 48 (0, 0))] :: [(b_44, .cells #[.int .i64 0, .int .i64 0] 48 (0, 0))] :: [(b_29, .cells #[.int .i64 0, .int .i64 0] 48 (0, 0))] :: [(b_2, .cells #[.int .i64 0, .int .i64 0, .int .i64 0, .int .i64 0, .int .i64 0, .int .i64 0, .int .i64 0] 50 (0, 0))] :: H :: F0) from hS_99) (by simp)
  have hRx_101 : FarmP p (⟨F.cfg, F.ws, F.ar, (F.dq.set x_52.toNat ({ s_64 with l := s_64.l.tail } : DS)), F.q, F.jobs, (⟨F.st.starts, F.st.commits, F.st.drops, F.st.crashes, (F.st.steals + 1), F.st.helps, F.st.spills, F.st.queued, F.st.held, F.st.cells⟩ : Stt)⟩ : FS) ((Tri p 81 (preP F.cfg wb wo wn wk q m) (([] : List Ref).flatMap encRef) [.int .i64 F.st.starts, .int .i64 F.st.commits, .int .i64 F.st.drops, .int .i64 F.st.crashes, .int .i64 (F.st.steals + 1), .int .i64 F.st.helps, .int .i64 F.st.spills, .int .i64 F.st.queued, .int .i64 F.st.held, .int .i64 F.st.cells]) ++ (Wc ++ (acs.flatten ++ ((dcs.set x_52.toNat M_75).flatten ++ (Qc ++ (Jc ++ jcs.flatten)))))) := ⟨_, _, _, _, _, _, _, _, _, _, _, _, _, _, rfl, hOw, hco, hAs, hL_90, hQ, hM, hJs⟩
  have hro_107 : RefOk (shapeF F.jobs) x_74 := (hF.fw.d _ (List.mem_of_getElem? hs_66) _ (List.mem_of_head? hx_76))
  obtain ⟨j_108, hj_109, ha_110, hB_111, _⟩ := hF.fw.job hro_107
  refine cX Try.call83 (pf_start hRx_101 x x_74 (by first | omega | (dsimp only; omega) | (simp only [List.length_set]; omega)) ⟨hro_107.1, hro_107.2.1⟩ hj_109 ha_110 hB_111 (by first | omega | (dsimp only; omega) | (simp only [List.length_set]; omega)) (Sat.flat1 hS_100)) ?_
  rintro _ w_102 ⟨M_105, rfl, hR_106, hS_103⟩
  have hS_104 := Sat.unflat1 hS_103
  refine nilO <| thenK_n <| seqE <| regionE <| pu2 ?_
  refine lA hS_104 1 0 2 (Try.isAgg48 _) (Try.sizeOf48 _) ?_
  refine pu1 ?_
  refine sT hS_104 4 0 (.agg #[.int .i64 5, .int .i64 x, .int .i64 x_52, .int .i64 0, .int .i64 x_74.job, .int .i64 x_74.task, .int .i64 0]) [.int .i64 5, .int .i64 x, .int .i64 x_52, .int .i64 0, .int .i64 x_74.job, .int .i64 x_74.task, .int .i64 0] #[.int .i64 5, .int .i64 x, .int .i64 x_52, .int .i64 0, .int .i64 x_74.job, .int .i64 x_74.task, .int .i64 0] Try.sizeOf50 ?_
  intro w_112 hS_113
  refine pu1 <| nilO <| thenK_n <| retE <| blockK_r <| thenK_r <| thenK_r <| blockK_r <| thenK_r <| retN (vs := [.agg #[.int .i64 5, .int .i64 x, .int .i64 x_52, .int .i64 0, .int .i64 x_74.job, .int .i64 x_74.task, .int .i64 0], .bool true]) rfl (.cons (.cell _ _ _ _ (by kernel_rfl) (lvA hS_113 4 0 [.int .i64 5, .int .i64 x, .int .i64 x_52, .int .i64 0, .int .i64 x_74.job, .int .i64 x_74.task, .int .i64 0] (Try.isAgg50 _) (Try.sizeOf50 _) rfl rfl rfl)) (.cons (.tmp _ _ (by kernel_rfl)) .nil)) <| ?_
  have hS_114 := ((((hS_113.dropAt 1 rfl).dropAt 1 rfl).dropAt 1 rfl).dropAt 1 rfl)
  have he : acqF F x c = some (takeF (⟨F.cfg, F.ws, F.ar, (F.dq.set x_52.toNat ({ s_64 with l := s_64.l.tail } : DS)), F.q, F.jobs, (⟨F.st.starts, F.st.commits, F.st.drops, F.st.crashes, (F.st.steals + 1), F.st.helps, F.st.spills, F.st.queued, F.st.held, F.st.cells⟩ : Stt)⟩ : FS) x x_74, (⟨5, x, x_52, 0, x_74.job, x_74.task, 0⟩ : Evt)) := (acq_rest hs_14 he_21 he_37).trans ((steal_at (by omega) hfi (by rw [← hcx]; exact hs_66) hx_76).trans (by rw [← hcx]; rfl))
  exact .inr ⟨_, _, _, he, rfl, hR_106, hS_114⟩
end Go.Proofs.Ytegmennaekipaaa
