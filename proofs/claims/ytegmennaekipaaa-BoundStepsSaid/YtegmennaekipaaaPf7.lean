import Derived.Test.YtegmennaekipaaaPf6
namespace Go.Proofs.Ytegmennaekipaaa
open Go Go.E
set_option linter.unusedVariables false
set_option linter.unusedSimpArgs false
set_option linter.unnecessarySimpa false
set_option maxRecDepth 100000
set_option maxHeartbeats 2000000
variable {W w : World} {H : Chunk} {F : List Chunk}
theorem valid_deps {l : List Task} (hv : validC l = 0) : ∀ z ∈ l, z.deps.l.length ≤ 4096 := by
  intro z hz
  obtain ⟨i, hi⟩ := List.getElem?_of_mem hz
  have h1 := tasksOK_at (validC_zero hv).2.2 hi
  have h3 := asc_len (by omega) (taskOK_asc h1)
  have h4 := (validC_zero hv).2.1
  have h5 := (List.getElem?_eq_some_iff.1 hi).1
  omega
theorem kv_snoc {jm : List (Int × Nat)} {k : Int} {b : Nat} : kvJ jm ++ [(k, ptrV b)] = kvJ (jm ++ [(k, b)]) := by unfold kvJ; rw [List.map_append]; rfl
theorem JobsP.add {jobs : List JS} {jm : List (Int × Nat)} {jcs : List Chunk} {k : Int} {b : Nat} {j2 : JS} {c2 : Chunk} (h : JobsP jobs jm jcs) (hk : 0 ≤ k ∧ k < 64) (hno : (jobs.getD k.toNat default).added = false) (hR : JobP b j2 c2) (ha : j2.added = true) :
    JobsP (jobs.set k.toNat j2) (jm ++ [(k, b)]) (jcs ++ [c2]) := by
  have hl := h.l
  have hkn : k ∉ jm.map (·.1) := fun hm => by have := ((h.k k).1 hm).2.2; rw [hno] at this; cases this
  have e : (jm.map fun x => (jobs.set k.toNat j2).getD x.1.toNat default) = (jm.map fun x => jobs.getD x.1.toNat default) := by
    apply List.map_congr_left
    intro x hx
    rw [getD_set' (by omega), if_neg]
    intro q
    have hx1 := (h.k x.1).1 (List.mem_map.2 ⟨x, hx, rfl⟩)
    have q2 : k = x.1 := by omega
    exact hkn (by rw [q2]; exact List.mem_map.2 ⟨x, hx, rfl⟩)
  refine ⟨?_, ?_, ?_, by rw [List.length_set]; exact hl⟩
  · rw [List.map_append, List.map_append, e]
    refine Obs.snoc h.o ?_
    show JobP b ((jobs.set k.toNat j2).getD k.toNat default) c2
    rw [getD_set' (by omega), if_pos rfl]; exact hR
  · rw [List.map_append, List.nodup_append]
    refine ⟨h.nd, by simp, ?_⟩
    intro a ha b' hb'
    obtain rfl : b' = k := by simpa using hb'
    exact fun q => hkn (by rw [← q]; exact ha)
  · intro i
    rw [List.map_append, List.mem_append, h.k i, getD_set' (by omega)]
    constructor
    · rintro (⟨h1, h2, h3⟩ | h1)
      · refine ⟨h1, h2, ?_⟩
        split
        · exact ha
        · exact h3
      · obtain rfl : i = k := by simpa using h1
        exact ⟨hk.1, hk.2, by rw [if_pos rfl]; exact ha⟩
    · rintro ⟨h1, h2, h3⟩
      by_cases q : k = i
      · right; subst q; simp
      · left
        rw [if_neg (by omega)] at h3
        exact ⟨h1, h2, h3⟩
theorem own_some {α : Type} {enc : α → List Value} {E sz : Nat} {a : Option Addr} {n k : Nat} {xs : List α} {c : Chunk} (h : OwnT enc E sz a n k xs c) (hn : 0 < n) : ∃ b o : Nat, a = some ⟨b, o, none⟩ := by
  rcases h.2.2.2 with ⟨_, h0, _⟩ | ⟨b, off, _, h1, _⟩
  · omega
  · exact ⟨b, off, h1⟩
theorem jobs_zero : JobsP (List.replicate 64 JS.zero) [] [] := by
  refine ⟨Obs.nil _, by simp, ?_, by simp⟩
  intro i
  constructor
  · intro h; cases h
  · rintro ⟨_, _, h⟩
    have e : (List.replicate 64 JS.zero).getD i.toNat default = JS.zero := by
      rw [List.getD_eq_getElem?_getD, List.getElem?_replicate]; split <;> rfl
    rw [e] at h; cases h
theorem pf_add {p : Nat} {F : FS} {M : Chunk} {F0 : List Chunk} (hR : FarmP p F M) {K : Int} (hF : FI F K) {j : JS} (x : Int) (al : Option Addr) (nl kl : Nat) (l : List Task) (bd : Int) (hl : RdT encTask 9 [H] al nl kl l) (dl : ∀ z ∈ l, Task.Ok [H] z) (hx : 0 ≤ x ∧ x < 64) (hj : F.jobs[x.toNat]? = some j) (ha : j.added = false) (hb : 0 ≤ bd ∧ bd < 4) (hv : validC l = 0) (hsc : ∀ z ∈ l, z.scratch ≤ F.cfg.arena) (hct : 0 ≤ F.cfg.tasks ∧ F.cfg.tasks ≤ 4096) (htk : ((l.length : Nat) : Int) ≤ F.cfg.tasks - loadL F.jobs) (hS : Sat W w (M :: H :: F0)) :
    Calls Try.prog 21 #[.pointer (some ⟨p, 0, none⟩), .int .i64 x, .slice al nl kl, .int .i64 bd] w fun e w' => ∃ M' : Chunk, e = .returned (.int .i64 0) ∧ FarmP p (addF F x l bd) M' ∧ Sat W w' (M' :: H :: F0) := by
  have hl_l := hl.le; have hn_l := hl.len
  obtain ⟨wb, wo, wn, wk, q, m, xs, jm, Wc, Qc, Jc, acs, dcs, jcs, rfl, hOw, hco, hAs, hDs, hQ, hM, hJs⟩ := hR
  have hS_1 : Sat W _ ((Tri p 81 (preP F.cfg wb wo wn wk q m) (([] : List Ref).flatMap encRef) (encStt F.st)) :: Wc :: acs.flatten :: dcs.flatten :: Qc :: Jc :: jcs.flatten :: H :: F0) := Sat.perm hS (by simp)
  have hwl := hOw.len; have hwk := hOw.le; have hcl := core_len hco; have has1 := hAs.1; have hds1 := hDs.1; rw [List.length_map] at has1 hds1; have hjl1 := hJs.l
  have hg := JobsP.no hJs (k := x) (fun h => by rw [getD_some hj, ha] at h; exact absurd h.2.2 (by decide))
  have hs1 := hF.st.a; have hs2 := hF.st.b; have hs3 := hF.st.c; have hs4 := hF.st.d; have hs5 := hF.st.e; have hs6 := hF.st.f; have hs7 := hF.st.g; have hn9 := hF.fw.n; have hvz := validC_zero hv; have hlb := hvz.2.1; have hl0 : 0 ≤ loadL F.jobs := Int.natCast_nonneg _; have hir := idx_le (y := 2) (s := (newB l).st) (k := 0); have hnl : (newB l).st.length = l.length := by simp [newB]
  refine callsA 98 Try.func21 rfl ?_
  refine seqE <| regionE <| pu1 <| nilO <| thenK_n <| seqE <| seqE <| regionE <| pu1 ?_
  refine cX Try.call45 (p_empty ⟨by omega, by omega⟩ hS_1) ?_
  rintro _ w_2 ⟨rfl, hS_4⟩
  refine nilO <| thenK_n <| cFf <| skipE <| thenK_n <| seqE <| seqE <| regionE <| pu3 ?_
  refine sD 19 (x < 0) (fun hc_5 => ?_) (fun hc_5 => ?_)
  · refine pu3 <| nilO <| thenK_n <| cTt <| seqE <| regionE <| pu1 <| nilO <| thenK_n <| retE <| thenK_r <| retT [.int .i64 16] <| ?_
    omega
  refine pu3 <| nilO <| thenK_n <| ?_
  refine cD (x ≥ 64) (fun hc_6 => ?_) (fun hc_6 => ?_)
  · refine seqE <| regionE <| pu1 <| nilO <| thenK_n <| retE <| thenK_r <| retT [.int .i64 16] <| ?_
    omega
  refine skipE <| thenK_n <| seqE <| seqE <| regionE <| pu3 ?_
  refine sLp hS_4 (ptr_up 0 rfl tri_pre) 10 (.map (some m)) (Try.isAgg78 _) ?_
  refine pu1 ?_
  refine stepY (.pointer none) rfl rfl (Y_iget (k := x) hS_4 5 hM (by rw [hg]; rfl) Try.runUnderlying78 Try.runUnderlying3 Try.zeroValue90) ?_
  refine pu1 <| nilO <| thenK_n <| cFf <| skipE <| thenK_n <| seqE <| seqE <| regionE <| pu3 ?_
  refine sD 32 (bd < 0) (fun hc_7 => ?_) (fun hc_7 => ?_)
  · refine pu3 <| nilO <| thenK_n <| cTt <| seqE <| regionE <| pu1 <| nilO <| thenK_n <| retE <| thenK_r <| retT [.int .i64 2] <| ?_
    omega
  refine pu3 <| nilO <| thenK_n <| ?_
  refine cD (bd ≥ 4) (fun hc_8 => ?_) (fun hc_8 => ?_)
  · refine seqE <| regionE <| pu1 <| nilO <| thenK_n <| retE <| thenK_r <| retT [.int .i64 2] <| ?_
    omega
  refine skipE <| thenK_n <| seqE <| regionE <| pu1 ?_
  refine cX Try.call46 (b_new al nl kl l (RdT.flat (hl.up 7 (by rfl))) (fun z hz => (dl z hz).of_mem (mem_flat1 7 (by rfl))) (Sat.flat hS_4)) ?_
  rintro _ w_9 (⟨hv_13, rfl, hS_10⟩ | ⟨hv_13, p_11, M_12, rfl, hB_14, hS_10⟩)
  · have hS_15 := Sat.unflat hS_10
    refine pu5 <| nilO <| thenK_n <| seqE <| seqE <| regionE <| pu2 <| nilO <| thenK_n <| ?_
    have hc_16 : ¬ (((validC l) : Int) = 0) := hv_13
    refine cT _ (bne_iff_ne.2 hc_16) ?_
    refine seqE <| regionE <| pu2 <| nilO <| thenK_n <| retE <| thenK_r <| retT [.int .i64 (validC l)] <| ?_
    exact absurd hv hv_13
  have hS_17 := Sat.unflat1 hS_10
  refine pu5 <| nilO <| thenK_n <| seqE <| seqE <| regionE <| pu2 <| nilO <| thenK_n <| cFf <| skipE <| thenK_n <| seqE <| seqE <| regionE <| pu3 <| nilO <| thenK_n <| blockE ?_
  refine loopA (γ := Nat) (fun i => [(0, .pointer (some ⟨p, 0, none⟩)), (1, .int .i64 x), (2, .slice al nl kl), (3, .int .i64 bd), (9, .pointer (some ⟨p_11, 0, none⟩)), (44, .slice al nl kl), (45, .int .i64 ((nl : Nat) : Int)), (46, .int .i64 ((i : Nat) : Int))]) (fun i w => Sat W w (M_12 :: (Tri p 81 (preP F.cfg wb wo wn wk q m) (([] : List Ref).flatMap encRef) (encStt F.st)) :: Wc :: acs.flatten :: dcs.flatten :: Qc :: Jc :: jcs.flatten :: H :: F0) ∧ i ≤ nl) (fun i => nl - i) 0 ⟨hS_17, by omega⟩ ?_
  rintro i ρ w_18 ⟨hS_19, hi⟩
  refine seqE <| regionE <| pu1 <| nilO <| thenK_n <| seqE ?_
  refine cD (((i : Nat) : Int) < ((nl : Nat) : Int)) (fun hc_20 => ?_) (fun hc_20 => ?_)
  · refine skipE <| thenK_n <| seqE <| blockE <| seqE <| regionE ?_
    refine sIdx hl ((i : Nat) : Int) Try.runUnderlying23 Try.sizeOf31 ?_
    intro x_21 b_22 o_23 hx_24 hp_25
    rw [Int.toNat_natCast] at hx_24
    have hsc_x_21 := hsc x_21 (List.mem_of_getElem? hx_24)
    refine sLpA hS_19 (hp_25.up 8 rfl) 0 (encTask x_21) (Try.isAgg31 _) (Try.sizeOf31 _) ?_
    refine sAlloc hS_19 Try.zeroValue31 ?_
    intro b_26 w_27 hS_28
    refine sT hS_28 0 0 (.agg (encTask x_21).toArray) (encTask x_21) (encTask x_21).toArray Try.sizeOf31 ?_
    intro w_29 hS_30
    refine nilO <| thenK_n <| seqE ?_
    refine drawE [] [(1, ⟨b_26, 8, none⟩, .int .i64 x_21.scratch), (6, ⟨p, 3, none⟩, .int .i64 F.cfg.arena)] [(true, [0, 2, 3, 4, 5]), (true, [1]), (true, [6]), (true, [7])] rfl (by kernel_rfl) ⟨.inr (hS_30.cell 0 rfl rfl), .inr (cell_up hS_30 2 rfl (k := 3) tri_pre rfl), trivial⟩ ?_
    have hS_31 := hS_30.drew
    refine wU [0, 2, 3, 4, 5] ?_
    refine wLd (.int .i64 x_21.scratch) 0 Try.isAgg3 ?_
    refine wLd (.int .i64 F.cfg.arena) 1 Try.isAgg3 ?_
    refine wU [7] ?_
    refine wN ?_
    refine thenK_n <| ?_
    refine cD (x_21.scratch > F.cfg.arena) (fun hc_32 => ?_) (fun hc_32 => ?_)
    · refine seqE <| regionE <| pu1 <| nilO <| thenK_n <| retE <| blockK_r <| thenK_r <| thenK_r <| blockK_r <| thenK_r <| retT [.int .i64 12] <| ?_
      omega
    refine skipE <| blockK_n <| thenK_n <| regionE ?_
    refine sAdd ((i : Nat) : Int) 1 ?_
    refine pu1 <| nilO <| thenK_n <| ?_
    have hS_33 := (hS_31.dropAt 0 rfl)
    exact ⟨i + 1, by first | omega | (dsimp only; omega), alA, hS_33, by omega⟩
  refine exitE <| thenK_x <| thenK_x <| blockK_x <| thenK_n <| seqE <| seqE ?_
  refine drawE [3] [(9, ⟨p, 5, none⟩, .int .i64 F.cfg.tasks)] [(true, [0, 1, 2, 5, 6, 7, 8]), (true, [9]), (false, [3]), (true, [4]), (true, [10])] rfl (by kernel_rfl) ⟨.inr (cell_up hS_19 1 rfl (k := 5) tri_pre rfl), trivial⟩ ?_
  have hS_34 := hS_19.drew
  refine wU [0, 1, 2, 5, 6, 7, 8] ?_
  refine wLd (.int .i64 F.cfg.tasks) 0 Try.isAgg3 ?_
  refine wO rfl ?_
  have hS_35 : Sat W _ (Wc :: acs.flatten :: dcs.flatten :: Qc :: Jc :: jcs.flatten :: M_12 :: (Tri p 81 (preP F.cfg wb wo wn wk q m) (([] : List Ref).flatMap encRef) (encStt F.st)) :: H :: F0) := ((((((hS_34.pick 7 rfl).pick 7 rfl).pick 7 rfl).pick 7 rfl).pick 7 rfl).pick 7 rfl)
  have hS_36 := (hS_35.pick 7 rfl)
  have hS_37 : Sat W _ (((Tri p 81 (preP F.cfg wb wo wn wk q m) (([] : List Ref).flatMap encRef) (encStt F.st)) ++ (Wc ++ (acs.flatten ++ (dcs.flatten ++ (Qc ++ (Jc ++ jcs.flatten)))))) :: M_12 :: H :: F0) := Sat.perm (show Sat W _ ((Tri p 81 (preP F.cfg wb wo wn wk q m) (([] : List Ref).flatMap encRef) (encStt F.st)) :: Wc :: acs.flatten :: dcs.flatten :: Qc :: Jc :: jcs.flatten :: M_12 :: H :: F0) from hS_36) (by simp)
  have hRx_38 : FarmP p F ((Tri p 81 (preP F.cfg wb wo wn wk q m) (([] : List Ref).flatMap encRef) (encStt F.st)) ++ (Wc ++ (acs.flatten ++ (dcs.flatten ++ (Qc ++ (Jc ++ jcs.flatten)))))) := ⟨_, _, _, _, _, _, _, _, _, _, _, _, _, _, rfl, hOw, hco, hAs, hDs, hQ, hM, hJs⟩
  refine cX Try.call47 (pf_load hRx_38 hF (Sat.flat1 hS_37)) ?_
  rintro _ w_39 ⟨rfl, h_40⟩
  have hS_41 := Sat.unflat1 h_40
  have hS_42 : Sat W _ ((Tri p 81 (preP F.cfg wb wo wn wk q m) (([] : List Ref).flatMap encRef) (encStt F.st)) :: Wc :: acs.flatten :: dcs.flatten :: Qc :: Jc :: jcs.flatten :: M_12 :: H :: F0) := Sat.perm hS_41 (by simp)
  refine nilO ⟨⟨.inr (cell_up hS_42 0 rfl (k := 5) tri_pre rfl), trivial⟩, ?_⟩
  refine wAdd ((nl : Nat) : Int) (loadL F.jobs) ?_
  refine wU [10] ?_
  refine wN ?_
  refine thenK_n <| ?_
  have hc_43 : ¬ (((((nl : Nat) : Int) + (loadL F.jobs)) : Int) > F.cfg.tasks) := (by omega)
  refine cF _ (decide_eq_false hc_43) ?_
  refine skipE <| thenK_n <| seqE ?_
  refine drawE [6, 10, 11] [(3, ⟨p, 10, none⟩, .map (some m))] [(true, [0, 1, 2, 4, 5, 7, 8]), (true, [3]), (false, [6]), (true, [9]), (false, [10]), (false, [11])] rfl (by kernel_rfl) ⟨.inr (cell_up hS_42 0 rfl (k := 10) tri_pre rfl), trivial⟩ ?_
  have hS_44 := hS_42.drew
  refine wU [0, 1, 2, 4, 5, 7, 8] ?_
  refine wLd (.map (some m)) 0 Try.isAgg78 ?_
  refine wO rfl ?_
  refine cX Try.call48 (p_copies al nl kl l (RdT.flat (hl.up 8 (by rfl))) (fun z hz => (dl z hz).of_mem (mem_flat1 8 (by rfl))) (by omega) (valid_deps hv) (Sat.flat hS_44)) ?_
  rintro _ w_45 ⟨az_48, nz_49, kz_50, zs_51, C_52, G_53, rfl, hO_54, hD_55, hV_56, hS_46⟩
  have hS_47 := Sat.unflat2 hS_46; have hn_az_48 := hO_54.len; have hl_az_48 := hO_54.le; have hv_az_48 := congrArg List.length hV_56; rw [List.length_map, List.length_map] at hv_az_48
  refine nilO ⟨⟨.inr (cell_up hS_47 2 rfl (k := 10) tri_pre rfl), trivial⟩, ?_⟩
  refine wU [9] ?_
  refine wO rfl ?_
  refine sBox hS_47 (.agg #[.slice az_48 nz_49 kz_50, .int .i64 bd, .pointer (some ⟨p_11, 0, none⟩), .bool false]) #[.slice az_48 nz_49 kz_50, .int .i64 bd, .pointer (some ⟨p_11, 0, none⟩), .bool false] ?_
  intro b_57 w_58 hS_59
  refine nilO ⟨⟨.inr (cell_up hS_59 3 rfl (k := 10) tri_pre rfl), trivial⟩, ?_⟩
  refine wO rfl ?_
  refine sIAdd (k := x) (v := .pointer (some ⟨b_57, 0, none⟩)) hS_59 8 hM hg Try.runUnderlying78 Try.runUnderlying3 ?_
  intro c_60 w_62 hM_61 hS_63
  have hM_61_ : MapI m (kvJ (jm ++ [(x, b_57)])) c_60 := by rw [← kv_snoc]; exact hM_61
  refine nilO ⟨⟨.inl (by kernel_rfl), trivial⟩, ?_⟩
  refine wN ?_
  refine thenK_n <| seqE <| seqE <| regionE <| pu1 ?_
  have hS_64 := (hS_63.pick 10 rfl)
  refine cX Try.call49 (b_ready hB_14 (new_wf hv) (Sat.flat1 hS_64)) ?_
  rintro _ w_65 ⟨az_68, nz_69, kz_70, Z_71, M_72, rfl, hr_73, hB_74, hS_66⟩
  have hS_67 := Sat.unflat2 hS_66; have hn_az_68 := hr_73.len; have hl_az_68 := hr_73.le
  refine pu2 <| nilO <| thenK_n <| blockE ?_
  refine loopA (γ := Nat × QS × Chunk) (fun ⟨i, qi, Qci⟩ => [(0, .pointer (some ⟨p, 0, none⟩)), (1, .int .i64 x), (3, .int .i64 bd), (82, .slice az_68 nz_69 kz_70), (83, .int .i64 ((nz_69 : Nat) : Int)), (84, .int .i64 ((i : Nat) : Int))]) (fun ⟨i, qi, Qci⟩ w => Sat W w (Z_71 :: M_72 :: [(b_57, .cells #[.slice az_48 nz_49 kz_50, .int .i64 bd, .pointer (some ⟨p_11, 0, none⟩), .bool false] 97 (0, 0))] :: C_52 :: G_53 :: (Tri p 81 (preP F.cfg wb wo wn wk q m) (([] : List Ref).flatMap encRef) (encStt F.st)) :: Wc :: acs.flatten :: dcs.flatten :: Qci :: c_60 :: jcs.flatten :: H :: F0) ∧ i ≤ nz_69 ∧ (InjP q qi Qci) ∧ (qi = readyQ x bd F.q ((idxOf 2 0 (newB l).st).take i))) (fun ⟨i, qi, Qci⟩ => nz_69 - i) (0, F.q, Qc) ⟨hS_67, by omega, hQ, rfl⟩ ?_
  rintro ⟨i, qi, Qci⟩ ρ w_75 ⟨hS_76, hi, hQi, hqe⟩
  refine seqE <| regionE <| pu1 <| nilO <| thenK_n <| seqE ?_
  refine cD (((i : Nat) : Int) < ((nz_69 : Nat) : Int)) (fun hc_77 => ?_) (fun hc_77 => ?_)
  · refine skipE <| thenK_n <| seqE <| blockE <| seqE <| regionE ?_
    refine sIdx hr_73 ((i : Nat) : Int) Try.runUnderlying22 Try.sizeOf3 ?_
    intro x_78 b_79 o_80 hx_81 hp_82
    rw [Int.toNat_natCast] at hx_81
    refine sLp hS_76 (hp_82.up 0 rfl) 0 (.int .i64 x_78) (Try.isAgg3 _) ?_
    refine pu1 <| nilO <| thenK_n <| regionE <| pu3 ?_
    refine sLp hS_76 (ptr_up 5 rfl tri_pre) 9 (.pointer (some ⟨q, 0, none⟩)) (Try.isAgg75 _) ?_
    refine pu4 ?_
    have hS_83 := (hS_76.pick 9 rfl)
    refine cX Try.call50 (pq_push hQi (⟨x, x_78⟩ : Ref) bd (by omega) (Sat.flat1 hS_83)) ?_
    rintro _ w_84 ⟨M_87, rfl, hR_88, hS_85⟩
    have hS_86 := Sat.unflat1 hS_85
    refine nilO <| blockK_n <| thenK_n <| regionE ?_
    refine sAdd ((i : Nat) : Int) 1 ?_
    refine pu1 <| nilO <| thenK_n <| ?_
    have hS_89 : Sat W _ (C_52 :: G_53 :: (Tri p 81 (preP F.cfg wb wo wn wk q m) (([] : List Ref).flatMap encRef) (encStt F.st)) :: Wc :: acs.flatten :: dcs.flatten :: M_87 :: Z_71 :: M_72 :: [(b_57, .cells #[.slice az_48 nz_49 kz_50, .int .i64 bd, .pointer (some ⟨p_11, 0, none⟩), .bool false] 97 (0, 0))] :: c_60 :: jcs.flatten :: H :: F0) := ((((((hS_86.pick 9 rfl).pick 9 rfl).pick 9 rfl).pick 9 rfl).pick 9 rfl).pick 9 rfl)
    have hS_90 := (((hS_89.pick 9 rfl).pick 9 rfl).pick 9 rfl)
    exact ⟨(i + 1, (pushQ qi (⟨x, x_78⟩ : Ref) bd), M_87), by first | omega | (dsimp only; omega), alA, hS_90, by omega, hR_88, (by rw [ready_take hx_81, ← hqe])⟩
  refine exitE <| thenK_x <| thenK_x <| blockK_x <| thenK_n <| seqE <| regionE <| pu1 <| nilO <| thenK_n <| retE <| retT [.int .i64 0] <| ?_
  have hS_93 := (((((hS_76.pick 1 rfl).pick 3 rfl).pick 4 rfl).pick 4 rfl).pick 11 rfl)
  have hS_91 : Sat W _ ((jcs ++ [([(b_57, Obj.cells #[.slice az_48 nz_49 kz_50, .int .i64 bd, .pointer (some ⟨p_11, 0, none⟩), .bool false] 97 (0, 0))] ++ ((G_53 ++ C_52) ++ M_72))]).flatten :: Z_71 :: (Tri p 81 (preP F.cfg wb wo wn wk q m) (([] : List Ref).flatMap encRef) (encStt F.st)) :: Wc :: acs.flatten :: dcs.flatten :: Qci :: c_60 :: H :: F0) := Sat.perm (show Sat W _ (jcs.flatten :: [(b_57, .cells #[.slice az_48 nz_49 kz_50, .int .i64 bd, .pointer (some ⟨p_11, 0, none⟩), .bool false] 97 (0, 0))] :: G_53 :: C_52 :: M_72 :: Z_71 :: (Tri p 81 (preP F.cfg wb wo wn wk q m) (([] : List Ref).flatMap encRef) (encStt F.st)) :: Wc :: acs.flatten :: dcs.flatten :: Qci :: c_60 :: H :: F0) from hS_93) (by simp)
  have hL_92 := JobsP.add (b := b_57) (c2 := ([(b_57, Obj.cells #[.slice az_48 nz_49 kz_50, .int .i64 bd, .pointer (some ⟨p_11, 0, none⟩), .bool false] 97 (0, 0))] ++ ((G_53 ++ C_52) ++ M_72))) hJs (k := x) hx (by rw [getD_some hj]; exact ha) (JobP.mk (s := jobN l bd) (cn := false) (T := (G_53 ++ C_52)) ((hO_54.rdAt (cs := [G_53, C_52]) 1 rfl).of_mem (fun p hp => by simp at hp ⊢; exact hp)) (fun z hz => (hD_55 z hz).of_mem (fun p hp => by simp at hp ⊢; simp [hp])) hV_56 hB_74 rfl (fun _ => by show doneOf (newB l) < (((l.map Task.v).length : Nat) : Int); rw [done_new, List.length_map]; omega) (canc_run rfl).symm) rfl
  have hS_94 : Sat W _ ((Tri p 81 (preP F.cfg wb wo wn wk q m) (([] : List Ref).flatMap encRef) (encStt F.st)) :: Wc :: acs.flatten :: dcs.flatten :: Qci :: c_60 :: (jcs ++ [([(b_57, Obj.cells #[.slice az_48 nz_49 kz_50, .int .i64 bd, .pointer (some ⟨p_11, 0, none⟩), .bool false] 97 (0, 0))] ++ ((G_53 ++ C_52) ++ M_72))]).flatten :: Z_71 :: H :: F0) := ((((((hS_91.pick 7 rfl).pick 7 rfl).pick 7 rfl).pick 7 rfl).pick 7 rfl).pick 7 rfl)
  have hS_95 := (hS_94.dropAt 7 rfl)
  have hS_96 : Sat W _ (((Tri p 81 (preP F.cfg wb wo wn wk q m) (([] : List Ref).flatMap encRef) (encStt F.st)) ++ (Wc ++ (acs.flatten ++ (dcs.flatten ++ (Qci ++ (c_60 ++ (jcs ++ [([(b_57, Obj.cells #[.slice az_48 nz_49 kz_50, .int .i64 bd, .pointer (some ⟨p_11, 0, none⟩), .bool false] 97 (0, 0))] ++ ((G_53 ++ C_52) ++ M_72))]).flatten)))))) :: H :: F0) := Sat.perm (show Sat W _ ((Tri p 81 (preP F.cfg wb wo wn wk q m) (([] : List Ref).flatMap encRef) (encStt F.st)) :: Wc :: acs.flatten :: dcs.flatten :: Qci :: c_60 :: (jcs ++ [([(b_57, Obj.cells #[.slice az_48 nz_49 kz_50, .int .i64 bd, .pointer (some ⟨p_11, 0, none⟩), .bool false] 97 (0, 0))] ++ ((G_53 ++ C_52) ++ M_72))]).flatten :: H :: F0) from hS_95) (by simp)
  have he : addF F x l bd = (⟨F.cfg, F.ws, F.ar, F.dq, qi, (F.jobs.set x.toNat (jobN l bd)), F.st⟩ : FS) := by unfold addF; rw [hqe, List.take_of_length_le (by omega)]
  exact ⟨_, rfl, by rw [he]; exact ⟨_, _, _, _, _, _, _, _, _, _, _, _, _, _, rfl, hOw, hco, hAs, hDs, hQi, hM_61_, hL_92⟩, hS_96⟩
theorem pf_new {cs : List Chunk} (c : Cfg) (hv : validCfg c = 0) (hS : Sat W w cs) :
    Calls Try.prog 19 #[.agg (encCfg c).toArray] w fun e w' => ∃ (p : Nat) (M : Chunk), e = .returned (.tuple #[.pointer (some ⟨p, 0, none⟩), .int .i64 0]) ∧ FarmP p (newF c) M ∧ Sat W w' (M :: cs) := by
  have hvc := validCfg_zero hv
  refine callsA 66 Try.func19 rfl ?_
  refine seqE <| regionE ?_
  refine sBox hS (.agg (encCfg c).toArray) (encCfg c).toArray ?_
  intro b_1 w_2 hS_3
  refine pu2 <| nilO <| thenK_n <| seqE <| seqE <| regionE ?_
  refine lA hS_3 0 0 8 (Try.isAgg41 _) (Try.sizeOf41 _) ?_
  refine cR Try.call41 (p_valid c (Sat.flat hS_3)) ?_
  intro w_4 hS_5
  refine pu1 <| nilO <| thenK_n <| seqE <| regionE <| pu2 <| nilO <| thenK_n <| ?_
  have hc_7 : ((validCfg c) : Int) = 0 := hv
  refine cF _ (bne_eq_false_iff_eq.2 hc_7) ?_
  refine skipE <| thenK_n <| seqE <| regionE <| pu1 ?_
  refine sL hS_5 0 5 (.int .i64 c.tasks) (Try.isAgg3 _) ?_
  refine cX Try.call42 (pq_new c.tasks (by omega) hS_5) ?_
  rintro _ w_8 ⟨p_10, M_11, rfl, hR_12, hS_9⟩
  refine pu5 <| nilO <| thenK_n <| seqE <| seqE <| regionE <| pu2 <| nilO <| thenK_n <| cFf <| skipE <| thenK_n <| seqE <| regionE ?_
  refine lA hS_9 1 0 8 (Try.isAgg41 _) (Try.sizeOf41 _) ?_
  refine pu1 ?_
  refine sMakeMapI hS_9 ?_
  intro b_13 c_14 w_16 hM_15 hS_17
  refine pu1 ?_
  refine sBox hS_17 (.agg #[.int .i64 c.workers, .int .i64 c.tileW, .int .i64 c.tileH, .int .i64 c.arena, .int .i64 c.deque, .int .i64 c.tasks, .int .i64 c.cells, .int .i64 c.jobs, .slice none 0 0, .pointer (some ⟨p_10, 0, none⟩), .map (some b_13), .int .i64 0, .int .i64 0, .int .i64 0, .int .i64 0, .int .i64 0, .int .i64 0, .int .i64 0, .int .i64 0, .int .i64 0, .int .i64 0]) #[.int .i64 c.workers, .int .i64 c.tileW, .int .i64 c.tileH, .int .i64 c.arena, .int .i64 c.deque, .int .i64 c.tasks, .int .i64 c.cells, .int .i64 c.jobs, .slice none 0 0, .pointer (some ⟨p_10, 0, none⟩), .map (some b_13), .int .i64 0, .int .i64 0, .int .i64 0, .int .i64 0, .int .i64 0, .int .i64 0, .int .i64 0, .int .i64 0, .int .i64 0, .int .i64 0] ?_
  intro b_18 w_19 hS_20
  refine pu1 <| nilO <| thenK_n <| seqE <| seqE <| regionE <| pu1 ?_
  refine sL hS_20 3 0 (.int .i64 c.workers) (Try.isAgg3 _) ?_
  refine pu1 <| nilO <| thenK_n <| blockE ?_
  have hS_21 := (((hS_20.pick 2 rfl).pick 3 rfl).pick 2 rfl)
  have hS_22 : Sat W _ ([(b_18, .cells #[.int .i64 c.workers, .int .i64 c.tileW, .int .i64 c.tileH, .int .i64 c.arena, .int .i64 c.deque, .int .i64 c.tasks, .int .i64 c.cells, .int .i64 c.jobs, .slice none 0 0, .pointer (some ⟨p_10, 0, none⟩), .map (some b_13), .int .i64 0, .int .i64 0, .int .i64 0, .int .i64 0, .int .i64 0, .int .i64 0, .int .i64 0, .int .i64 0, .int .i64 0, .int .i64 0] 81 (0, 0))] :: ([] : Chunk) :: ([] : List Chunk).flatten :: ([] : List Chunk).flatten :: [(b_1, .cells (encCfg c).toArray 41 (0, 0))] :: M_11 :: c_14 :: cs) := Sat.perm hS_21 (by simp)
  refine loopA (γ := Nat × (Option Addr) × Nat × Nat × Chunk × (List PW) × (List Chunk) × (List Chunk)) (fun ⟨i, wa, wn, wk, wc, xs, acs, dcs⟩ => [(1, .pointer (some ⟨b_1, 0, none⟩)), (7, .pointer (some ⟨b_18, 0, none⟩)), (31, .int .i64 c.workers), (32, .int .i64 ((i : Nat) : Int))]) (fun ⟨i, wa, wn, wk, wc, xs, acs, dcs⟩ w => Sat W w ([(b_18, .cells #[.int .i64 c.workers, .int .i64 c.tileW, .int .i64 c.tileH, .int .i64 c.arena, .int .i64 c.deque, .int .i64 c.tasks, .int .i64 c.cells, .int .i64 c.jobs, .slice wa wn wk, .pointer (some ⟨p_10, 0, none⟩), .map (some b_13), .int .i64 0, .int .i64 0, .int .i64 0, .int .i64 0, .int .i64 0, .int .i64 0, .int .i64 0, .int .i64 0, .int .i64 0, .int .i64 0] 81 (0, 0))] :: wc :: acs.flatten :: dcs.flatten :: [(b_1, .cells (encCfg c).toArray 41 (0, 0))] :: M_11 :: c_14 :: cs) ∧ (i : Int) ≤ c.workers ∧ OwnT encPW 89 7 wa wn wk xs wc ∧ xs.map PW.core = List.replicate i (⟨0, 0, 0, 0, 0⟩ : Core) ∧ Obs PaR (xs.map (·.a)) (List.replicate i (⟨c.arena, 0, 0, []⟩ : AS)) acs ∧ Obs DqP (xs.map (·.d)) (List.replicate i (⟨c.deque, []⟩ : DS)) dcs) (fun ⟨i, wa, wn, wk, wc, xs, acs, dcs⟩ => c.workers.toNat - i) (0, none, 0, 0, [], [], [], []) ⟨hS_22, by omega, OwnT.nil (fun _ => rfl), rfl, Obs.nil _, Obs.nil _⟩ ?_
  rintro ⟨i, wa, wn, wk, wc, xs, acs, dcs⟩ ρ w_23 ⟨hS_24, hi, hOw, hco, hAs, hDs⟩
  have hwl := hOw.len; have hwk := hOw.le; have hcl := congrArg List.length hco; rw [List.length_map, List.length_replicate] at hcl
  refine seqE <| regionE <| pu1 <| nilO <| thenK_n <| seqE ?_
  refine cD (((i : Nat) : Int) < c.workers) (fun hc_25 => ?_) (fun hc_25 => ?_)
  rotate_left
  · refine exitE <| thenK_x <| thenK_x <| blockK_x <| thenK_n <| seqE <| regionE <| pu3 <| nilO <| thenK_n <| retE <| retT [.pointer (some ⟨b_18, 0, none⟩), .int .i64 0] <| ?_
    obtain rfl : i = c.workers.toNat := by omega
    obtain ⟨wb, wo, rfl⟩ := own_some hOw (by omega)
    have hS_50 := (hS_24.dropAt 4 rfl)
    have hS_51 : Sat W _ (((Tri b_18 81 (preP c wb wo wn wk p_10 b_13) (([] : List Ref).flatMap encRef) (encStt (newF c).st)) ++ (wc ++ (acs.flatten ++ (dcs.flatten ++ (M_11 ++ (c_14 ++ ([] : List Chunk).flatten)))))) :: cs) := Sat.perm (show Sat W _ ((Tri b_18 81 (preP c wb wo wn wk p_10 b_13) (([] : List Ref).flatMap encRef) (encStt (newF c).st)) :: wc :: acs.flatten :: dcs.flatten :: M_11 :: c_14 :: cs) from hS_50) (by simp)
    exact ⟨_, _, rfl, ⟨_, _, _, _, _, _, _, _, _, _, _, _, _, _, rfl, hOw, by rw [hco]; unfold newF; rw [List.map_replicate]; rfl, hAs, hDs, hR_12, hM_15, jobs_zero⟩, hS_51⟩
  refine skipE <| thenK_n <| seqE <| blockE <| seqE <| regionE <| pu1 ?_
  refine sL hS_24 4 3 (.int .i64 c.arena) (Try.isAgg3 _) ?_
  refine cX Try.call43 (pa_new c.arena (by omega) hS_24) ?_
  rintro _ w_26 ⟨p_28, M_29, rfl, hR_30, hS_27⟩
  refine pu5 <| nilO <| thenK_n <| seqE <| seqE <| regionE <| pu2 <| nilO <| thenK_n <| cFf <| skipE <| thenK_n <| seqE <| regionE <| pu1 ?_
  refine sL hS_27 5 4 (.int .i64 c.deque) (Try.isAgg3 _) ?_
  refine cX Try.call44 (pd_new c.deque (by omega) hS_27) ?_
  rintro _ w_31 ⟨p_33, M_34, rfl, hR_35, hS_32⟩
  refine pu5 <| nilO <| thenK_n <| seqE <| seqE <| regionE <| pu2 <| nilO <| thenK_n <| cFf <| skipE <| thenK_n <| regionE <| pu4 ?_
  refine sL hS_32 2 8 (.slice wa wn wk) (Try.isAgg79 _) ?_
  refine pu3 ?_
  refine sBS hS_32 #[.int .i64 0, .int .i64 0, .int .i64 0, .int .i64 0, .int .i64 0, .pointer (some ⟨p_28, 0, none⟩), .pointer (some ⟨p_33, 0, none⟩)] Try.runUnderlying79 Try.sizeOf89 Try.zeroValue89 ?_
  intro b_36 w_37 hS_38
  refine sApp (nb := 56) hS_38 hOw 4 (RdT.blk (enc := encPW) (sz := 7) (xs := [(⟨0, 0, 0, 0, 0, p_28, p_33⟩ : PW)]) (fun _ => rfl) 1 0 rfl rfl rfl (by omega)) Try.underlying79 (i := Try.t89) (by kernel_rfl) (fun _ => rfl) ?_
  intro a_39 cap_40 c_41 w_42 hO_43 hS_44
  refine pu2 ?_
  refine tW hS_44 3 8 (.slice a_39 (wn + 1) cap_40) Try.sizeOf79 ?_
  intro w_45 hS_46
  refine nilO <| blockK_n <| thenK_n <| regionE ?_
  refine sAdd ((i : Nat) : Int) 1 ?_
  refine pu1 <| nilO <| thenK_n <| ?_
  have hS_47 : Sat W _ ([(b_18, .cells #[.int .i64 c.workers, .int .i64 c.tileW, .int .i64 c.tileH, .int .i64 c.arena, .int .i64 c.deque, .int .i64 c.tasks, .int .i64 c.cells, .int .i64 c.jobs, .slice a_39 (wn + 1) cap_40, .pointer (some ⟨p_10, 0, none⟩), .map (some b_13), .int .i64 0, .int .i64 0, .int .i64 0, .int .i64 0, .int .i64 0, .int .i64 0, .int .i64 0, .int .i64 0, .int .i64 0, .int .i64 0] 81 (0, 0))] :: c_41 :: acs.flatten :: M_29 :: dcs.flatten :: M_34 :: [(b_1, .cells (encCfg c).toArray 41 (0, 0))] :: M_11 :: c_14 :: cs) := ((((((hS_46.pick 6 rfl).pick 3 rfl).pick 6 rfl).pick 6 rfl).pick 6 rfl).dropAt 5 rfl)
  have hS_49 : Sat W _ ([(b_18, .cells #[.int .i64 c.workers, .int .i64 c.tileW, .int .i64 c.tileH, .int .i64 c.arena, .int .i64 c.deque, .int .i64 c.tasks, .int .i64 c.cells, .int .i64 c.jobs, .slice a_39 (wn + 1) cap_40, .pointer (some ⟨p_10, 0, none⟩), .map (some b_13), .int .i64 0, .int .i64 0, .int .i64 0, .int .i64 0, .int .i64 0, .int .i64 0, .int .i64 0, .int .i64 0, .int .i64 0, .int .i64 0] 81 (0, 0))] :: c_41 :: (acs ++ [M_29]).flatten :: (dcs ++ [M_34]).flatten :: [(b_1, .cells (encCfg c).toArray 41 (0, 0))] :: M_11 :: c_14 :: cs) := Sat.perm hS_47 (by simp)
  exact ⟨(i + 1, a_39, (wn + 1), cap_40, c_41, (xs ++ [(⟨0, 0, 0, 0, 0, p_28, p_33⟩ : PW)]), (acs ++ [M_29]), (dcs ++ [M_34])), by first | omega | (dsimp only; omega), alA, hS_49, by omega, hO_43, (by rw [List.map_append, hco, List.replicate_succ']; rfl), (by rw [List.replicate_succ', List.map_append]; exact Obs.snoc hAs hR_30), (by rw [List.replicate_succ', List.map_append]; exact Obs.snoc hDs hR_35)⟩
end Go.Proofs.Ytegmennaekipaaa
