import Derived.Test.YtimkhljglpookaaGreatFm6
import Derived.Test.YtimkhljglpookaaGreatBNew
namespace Go.Proofs.YtimkhljglpookaaGreat
open Go Go.E
set_option linter.unusedVariables false
set_option linter.unusedSimpArgs false
set_option linter.unnecessarySimpa false
set_option maxRecDepth 100000
set_option maxHeartbeats 2000000
variable {W w : World} {H : Chunk} {F : List Chunk}

def readyQ (x bd : Int) (q : QS) (l : List Int) : QS := l.foldl (fun q t => pushQ q ⟨x, t⟩ bd) q
theorem ready_take {x bd : Int} {q : QS} {l : List Int} {i : Nat} {t : Int} (h : l[i]? = some t) : readyQ x bd q (l.take (i + 1)) = pushQ (readyQ x bd q (l.take i)) ⟨x, t⟩ bd := by
  unfold readyQ; rw [take_succ_at h, List.foldl_append]; rfl
def jobN (l : List Task) (bd : Int) : JS := ⟨true, true, bd, l.map Task.v, newB l⟩
def addF (F : FS) (x : Int) (l : List Task) (bd : Int) : FS := { F with jobs := F.jobs.set x.toNat (jobN l bd), q := readyQ x bd F.q (idxOf 2 0 (newB l).st) }
theorem JobM.none {x : FJob} {s : JS} {c : Chunk} (h : JobM x s c) (ha : s.added = false) : c = [] := by
  rcases h with ⟨_, _, h⟩ | ⟨h, _⟩
  · exact h
  · rw [ha] at h; cases h
theorem ready_mem {P : Ref → Prop} {x bd : Int} : ∀ (l : List Int) {q : QS}, (∀ t ∈ l, P ⟨x, t⟩) → (∀ m ∈ q.bs, ∀ y ∈ m, P y) → ∀ m ∈ (readyQ x bd q l).bs, ∀ y ∈ m, P y
  | [], _, _, h => h
  | t :: l, q, hl, h => ready_mem l (q := pushQ q ⟨x, t⟩ bd) (fun y hy => hl y (List.mem_cons_of_mem _ hy)) (pushQ_mem (hl t List.mem_cons_self) h)
theorem idx_in' {y : Int} : ∀ {s : List Int} {k : Nat} {z : Int}, z ∈ idxOf y k s → (k : Int) ≤ z ∧ z < ((k + s.length : Nat) : Int)
  | [], _, _, h => by cases h
  | x :: s, k, z, h => by
    unfold idxOf at h
    rcases List.mem_append.1 h with h | h
    · split at h
      · rw [List.mem_singleton.1 h]; simp only [List.length_cons]; omega
      · cases h
    · have := idx_in' h
      simp only [List.length_cons]; omega
theorem shape_add {l : List JS} {k : Nat} {j' : JS} {r : Ref} (hj : ∀ j, l[k]? = some j → j.added = false) (h : RefOk (shapeF l) r) : RefOk (shapeF (l.set k j')) r := by
  obtain ⟨h1, h2, h3, n, hn, h4⟩ := h
  refine ⟨h1, h2, h3, n, ?_, h4⟩
  unfold shapeF at *
  rw [List.map_set, List.getElem?_set]
  by_cases e : k = r.job.toNat
  · rw [List.getElem?_map] at hn
    cases hq : l[r.job.toNat]? with
    | none => rw [hq] at hn; cases hn
    | some j => rw [hq] at hn; have := hj j (by rw [e]; exact hq); have h5 := (Prod.mk.inj (Option.some.inj hn)).1; rw [this] at h5; cases h5
  · rw [if_neg e]; exact hn
theorem add_ok {F : FS} {K x bd : Int} {l : List Task} (h : FW F K) (hx : 0 ≤ x ∧ x < 64) (hj : ∀ j, F.jobs[x.toNat]? = some j → j.added = false) (hb : 0 ≤ bd ∧ bd < 4) (hv : validC l = 0) : FW (addF F x l bd) K := by
  have hW := new_wf hv
  have hz := validC_zero hv
  have hO : JobOk K (jobN l bd) := ⟨by simp only [jobN, List.length_map]; have := hz.2.1; omega, fun _ => ⟨hW.mono h.k.1, by simp [jobN, newB], hb⟩, fun _ => rfl⟩
  have hm : ∀ r, RefOk (shapeF F.jobs) r → RefOk (shapeF (F.jobs.set x.toNat (jobN l bd))) r := fun r hr => shape_add hj hr
  refine ⟨h.n, h.al, h.dl, by simp only [addF, List.length_set]; exact h.jl, h.k, mem_set' h.j hO, ?_, ?_, ?_⟩
  · intro v hv; have := h.w v hv; exact ⟨this.h, this.r, fun k => hm _ (this.t k)⟩
  · intro d hd r hr; exact hm _ (h.d d hd r hr)
  · refine ready_mem _ ?_ (fun m hm2 y hy => hm _ (h.q m hm2 y hy))
    intro t ht
    have h1 := idx_in' ht
    have h2 : (newB l).st.length = l.length := by simp [newB]
    refine ⟨hx.1, hx.2, by dsimp only; omega, l.length, ?_, by dsimp only; omega⟩
    show ((F.jobs.set x.toNat (jobN l bd)).map (fun j => (j.added, j.tasks.length)))[x.toNat]? = _
    have h3 : x.toNat < F.jobs.length := by rw [h.jl]; omega
    rw [List.getElem?_map, List.getElem?_set, if_pos rfl, if_pos h3]
    simp [jobN]
theorem f_add {p : Nat} {F : FS} {M : Chunk} {F0 : List Chunk} (hR : FarmR p F M) {K : Int} {j : JS} (hF : FW F K) (hst : StOk F.st K) (x : Int) (al : Option Addr) (nl kl : Nat) (l : List Task) (bd : Int) (hl : RdT encTask 9 [H] al nl kl l) (dl : ∀ z ∈ l, Task.Ok [H] z) (hx : 0 ≤ x ∧ x < 64) (hj : F.jobs[x.toNat]? = some j) (ha : j.added = false) (hb : 0 ≤ bd ∧ bd < 4) (hv : validC l = 0) (hsc : ∀ z ∈ l, z.scratch ≤ F.cfg.arena) (hct : 0 ≤ F.cfg.tasks ∧ F.cfg.tasks ≤ 4096) (htk : ((l.length : Nat) : Int) ≤ F.cfg.tasks - loadL F.jobs) (hS : Sat W w (M :: H :: F0)) :
    Calls Tryz.prog 20 #[.pointer (some ⟨p, 0, none⟩), .int .i64 x, .slice al nl kl, .int .i64 bd] w fun e w' => ∃ M' : Chunk, e = .returned (.int .i64 0) ∧ FarmR p (addF F x l bd) M' ∧ Sat W w' (M' :: H :: F0) := by
  have hl_l := hl.le; have hn_l := hl.len
  obtain ⟨wa, aa, da, wn, wk, an, ak, dn, dk, q, xs, ap, dp, Wc, Ac, Dc, Qc, acs, dcs, jcs, rfl, hOw, hOa, hOd, hAs, hDs, hQ, hJs, hxl⟩ := hR
  have hS : Sat W _ ((Tri p 86 (preF F.cfg wa wn wk aa an ak da dn dk q) (xs.flatMap encFJob) (encStt F.st)) :: Wc :: Ac :: Dc :: acs.flatten :: dcs.flatten :: Qc :: jcs.flatten :: H :: F0) := Sat.perm hS (by simp)
  have hwl := hOw.len; have hwk := hOw.le; have hal := hOa.len; have hak := hOa.le; have hdl := hOd.len; have hdk := hOd.le; have has1 := hAs.1; have hds1 := hDs.1; have hjs1 := hJs.1
  have hal_ := hF.al; have hdl_ := hF.dl; have hjl_ := hF.jl; have hn_ := hF.n; have hk_ := hF.k; have hs1 := hst.a; have hs2 := hst.b; have hs3 := hst.c; have hs4 := hst.d; have hs5 := hst.e; have hs6 := hst.f; have hs7 := hst.g
  have hjt : ∀ j ∈ F.jobs, j.tasks.length ≤ 4096 := fun j hj => (hF.j j hj).n; have hl0 : 0 ≤ loadL F.jobs := Int.natCast_nonneg _; have hvz := validC_zero hv; have hlb := hvz.2.1; have hb0 := hct.1
  refine callsA 120 Tryz.func20 rfl ?_
  refine seqE <| regionE <| pu1 <| nilO <| thenK_n <| seqE <| blockE <| seqE <| regionE <| pu1 ?_
  refine cX Tryz.call35 (f_zero (by omega) hS) ?_
  rintro _ w_1 ⟨rfl, hS_2⟩
  refine pu1 <| nilO <| thenK_n <| cFf <| seqE <| regionE <| pu3 ?_
  refine sD 22 (x < 0) (fun hc_3 => ?_) (fun hc_3 => ?_)
  · refine pu4 <| nilO <| thenK_n <| cTt <| seqE <| regionE <| pu1 <| nilO <| thenK_n <| retE <| blockK_r <| thenK_r <| retT [.int .i64 16] <| ?_
    omega
  refine pu4 <| nilO <| thenK_n <| ?_
  refine cD (x ≥ 64) (fun hc_4 => ?_) (fun hc_4 => ?_)
  · refine seqE <| regionE <| pu1 <| nilO <| thenK_n <| retE <| blockK_r <| thenK_r <| retT [.int .i64 16] <| ?_
    omega
  refine seqE <| regionE <| pu4 ?_
  obtain ⟨x_5, hx_6⟩ := at_some hxl (k := (x.toNat)) (by omega)
  obtain ⟨s_7, cs_7, hss_7, hcs_7, hJs_7⟩ := Obs.get hJs hx_6; obtain ⟨has_7, hrs_7, hbs_7, hns_7⟩ := hJs_7.fields; have hjos_7 := hF.j s_7 (List.mem_of_getElem? hss_7)
  obtain rfl : s_7 = j := Option.some.inj (hss_7.symm.trans hj); have hna : ¬ x_5.added = true := by rw [has_7, ha]; decide
  have hcn := hJs_7.none ha; subst hcn
  refine sIdxA (b := p) (off := 12) x (x.toNat) Tryz.runUnderlying84 Tryz.sizeOf83 ?_
  refine pu1 ?_
  refine sLp hS_2 (ptr_up 0 rfl (tri_el (sz := 5) (n0 := 12) (fun _ => rfl) hx_6)) 0 (.bool x_5.added) (Tryz.isAgg4 _) ?_
  refine pu1 <| nilO <| thenK_n <| ?_
  have hc_8 : ¬ (x_5.added = true) := hna
  refine cF _ (Bool.eq_false_iff.2 hc_8) ?_
  refine seqE <| regionE <| pu3 ?_
  refine sD 37 (bd < 0) (fun hc_9 => ?_) (fun hc_9 => ?_)
  · refine pu4 <| nilO <| thenK_n <| cTt <| seqE <| regionE <| pu1 <| nilO <| thenK_n <| retE <| blockK_r <| thenK_r <| retT [.int .i64 2] <| ?_
    omega
  refine pu4 <| nilO <| thenK_n <| ?_
  refine cD (bd ≥ 4) (fun hc_10 => ?_) (fun hc_10 => ?_)
  · refine seqE <| regionE <| pu1 <| nilO <| thenK_n <| retE <| blockK_r <| thenK_r <| retT [.int .i64 2] <| ?_
    omega
  refine skipE <| blockK_n <| thenK_n <| seqE <| regionE <| pu1 ?_
  refine cX Tryz.call36 (r25_new al nl kl l (RdT.flat (hl.up 8 (by rfl))) (fun z hz => (dl z hz).of_mem (mem_flat1 8 (by rfl))) (Sat.flat hS_2)) ?_
  rintro _ w_11 (⟨hv_15, rfl, hS_12⟩ | ⟨hv_15, p_13, M_14, rfl, hB_16, hS_12⟩)
  · have hS_17 := Sat.unflat hS_12
    refine pu5 <| nilO <| thenK_n <| seqE <| seqE <| regionE <| pu2 <| nilO <| thenK_n <| ?_
    have hc_18 : ¬ (((validC l) : Int) = 0) := hv_15
    refine cT _ (bne_iff_ne.2 hc_18) ?_
    refine seqE <| regionE <| pu2 <| nilO <| thenK_n <| retE <| thenK_r <| retT [.int .i64 (validC l)] <| ?_
    exact absurd hv hv_15
  have hS_19 := Sat.unflat1 hS_12
  refine pu5 <| nilO <| thenK_n <| seqE <| seqE <| regionE <| pu2 <| nilO <| thenK_n <| cFf <| skipE <| thenK_n <| seqE <| regionE <| pu3 ?_
  refine sAlloc hS_19 Tryz.zeroValue83 ?_
  intro b_20 w_21 hS_22
  refine sT hS_22 0 0 (.agg #[.bool true, .bool true, .int .i64 bd, .slice none 0 0, .pointer (some ⟨p_13, 0, none⟩)]) [.bool true, .bool true, .int .i64 bd, .slice none 0 0, .pointer (some ⟨p_13, 0, none⟩)] #[.bool true, .bool true, .int .i64 bd, .slice none 0 0, .pointer (some ⟨p_13, 0, none⟩)] Tryz.sizeOf83 ?_
  intro w_23 hS_24
  refine nilO <| thenK_n <| seqE <| seqE <| regionE <| pu1 <| nilO <| thenK_n <| blockE ?_
  have hS_25 := Sat.nilc hS_24
  have hO_26 := OwnT.nil (enc := encTask) (E := 49) (sz := 9) (fun _ => rfl)
  have hS_27 := Sat.nilc hS_25
  refine loopA (γ := Nat × (List Task) × (Option Addr) × Nat × Nat × Chunk × Chunk) (fun ⟨i, zs, azs, nzs, kzs, czs, Gzs⟩ => [(0, .pointer (some ⟨p, 0, none⟩)), (1, .int .i64 x), (2, .slice al nl kl), (3, .int .i64 bd), (9, .pointer (some ⟨p_13, 0, none⟩)), (11, .pointer (some ⟨b_20, 0, none⟩)), (12, .int .i64 ((i : Nat) : Int))]) (fun ⟨i, zs, azs, nzs, kzs, czs, Gzs⟩ w => Sat W w (Gzs :: czs :: [(b_20, .cells #[.bool true, .bool true, .int .i64 bd, .slice azs nzs kzs, .pointer (some ⟨p_13, 0, none⟩)] 83 (0, 0))] :: M_14 :: (Tri p 86 (preF F.cfg wa wn wk aa an ak da dn dk q) (xs.flatMap encFJob) (encStt F.st)) :: Wc :: Ac :: Dc :: acs.flatten :: dcs.flatten :: Qc :: jcs.flatten :: H :: F0) ∧ i ≤ nl ∧ (zs.map Task.v = (l.take i).map Task.v) ∧ (zs.length = i) ∧ OwnT encTask 49 9 azs nzs kzs zs czs ∧ (∀ z ∈ zs, Task.Ok [Gzs] z)) (fun ⟨i, zs, azs, nzs, kzs, czs, Gzs⟩ => nl - i) (0, [], none, 0, 0, [], []) ⟨hS_27, by omega, rfl, rfl, hO_26, (by intro z hz; cases hz)⟩ ?_
  rintro ⟨i, zs, azs, nzs, kzs, czs, Gzs⟩ ρ w_28 ⟨hS_29, hi, hzv, hzl, hOzs, hDzs⟩
  have hn_zs := hOzs.len; have hl_zs := hOzs.le
  refine seqE <| seqE <| regionE <| pu4 <| nilO <| thenK_n <| ?_
  refine cD (((i : Nat) : Int) < ((nl : Nat) : Int)) (fun hc_30 => ?_) (fun hc_30 => ?_)
  · refine skipE <| thenK_n <| seqE <| blockE <| seqE <| seqE ?_
    obtain ⟨x_31, b_32, o_33, hx_34, hp_35, hq_36⟩ := RdT.elem hl ((i : Nat) : Int)
    rw [Int.toNat_natCast] at hx_34
    have hsc_x_31 := hsc x_31 (List.mem_of_getElem? hx_34); have htd_x_31 := (dl x_31 (List.mem_of_getElem? hx_34)).deps.len; have htk_x_31 := (dl x_31 (List.mem_of_getElem? hx_34)).deps.le; have hal_x_31 := asc_len (by omega) (taskOK_asc (tasksOK_at hvz.2.2 hx_34))
    refine drawE [] [(4, ⟨b_32, o_33 + 8, none⟩, .int .i64 x_31.scratch), (9, ⟨p, 3, none⟩, .int .i64 F.cfg.arena)] [(true, [0, 1]), (true, [2]), (true, [3, 5, 6, 7, 8]), (true, [4]), (true, [9]), (true, [10])] rfl (by kernel_rfl) ⟨.inr ((hp_35.up 12 rfl).cell hS_29 (k := 8) rfl), .inr (cell_up hS_29 4 rfl (k := 3) tri_pre rfl), trivial⟩ ?_
    have hS_37 := hS_29.drew
    refine wU [0, 1] ?_
    refine wY (.pointer (some ⟨b_32, o_33, none⟩)) rfl (fun w _ => Y_idx (a := al) (i := ((i : Nat) : Int)) (len := nl) (cap := kl) rfl Tryz.runUnderlying45 Tryz.sizeOf49 (by kernel_rfl) (by kernel_rfl) hq_36) ?_
    refine wU [3, 5, 6, 7, 8] ?_
    refine wLd (.int .i64 x_31.scratch) 0 Tryz.isAgg3 ?_
    refine wLd (.int .i64 F.cfg.arena) 1 Tryz.isAgg3 ?_
    refine wU [10] ?_
    refine wN ?_
    refine thenK_n <| ?_
    refine cD (x_31.scratch > F.cfg.arena) (fun hc_38 => ?_) (fun hc_38 => ?_)
    · refine seqE <| regionE <| pu1 <| nilO <| thenK_n <| retE <| thenK_r <| blockK_r <| thenK_r <| thenK_r <| blockK_r <| thenK_r <| retT [.int .i64 12] <| ?_
      omega
    refine skipE <| thenK_n <| seqE <| regionE <| pu2 ?_
    refine sIdx hl ((i : Nat) : Int) Tryz.runUnderlying45 Tryz.sizeOf49 ?_
    intro x_39 b_40 o_41 hx_42 hp_43
    rw [Int.toNat_natCast] at hx_42
    obtain rfl : x_31 = x_39 := Option.some.inj (hx_34.symm.trans hx_42)
    have hsc_x_31 := hsc x_31 (List.mem_of_getElem? hx_42); have htd_x_31 := (dl x_31 (List.mem_of_getElem? hx_42)).deps.len; have htk_x_31 := (dl x_31 (List.mem_of_getElem? hx_42)).deps.le; have hal_x_31 := asc_len (by omega) (taskOK_asc (tasksOK_at hvz.2.2 hx_42))
    refine sLpA hS_37 (hp_43.up 12 rfl) 0 (encTask x_31) (Tryz.isAgg49 _) (Tryz.sizeOf49 _) ?_
    refine sAlloc hS_37 Tryz.zeroValue49 ?_
    intro b_44 w_45 hS_46
    refine sT hS_46 0 0 (.agg (encTask x_31).toArray) (encTask x_31) (encTask x_31).toArray Tryz.sizeOf49 ?_
    intro w_47 hS_48
    refine nilO <| thenK_n <| seqE <| regionE <| pu1 ?_
    refine sL hS_48 0 6 (.slice x_31.deps.a x_31.deps.n x_31.deps.k) (Tryz.isAgg22 _) ?_
    have hS_49 := Sat.nilc hS_48
    have hO_50 := OwnT.nil (enc := encI) (E := 3) (sz := 1) (fun _ => rfl)
    refine sApp (nb := 8) hS_49 hO_50 0 ((dl x_31 (List.mem_of_getElem? hx_42)).deps.up 14 rfl) Tryz.underlying22 (i := Tryz.t3) (by kernel_rfl) (fun _ => rfl) ?_
    intro a_51 cap_52 c_53 w_54 hO_55 hS_56
    refine pu1 ?_
    refine tW hS_56 1 6 (.slice a_51 (0 + x_31.deps.n) cap_52) Tryz.sizeOf22 ?_
    intro w_57 hS_58
    refine nilO <| thenK_n <| regionE <| pu1 ?_
    refine sL hS_58 4 3 (.slice azs nzs kzs) (Tryz.isAgg45 _) ?_
    refine lA hS_58 1 0 9 (Tryz.isAgg49 _) (Tryz.sizeOf49 _) ?_
    refine sBS hS_58 #[.int .i64 x_31.stage, .int .i64 x_31.part, .int .i64 x_31.rectX0, .int .i64 x_31.rectY0, .int .i64 x_31.rectX1, .int .i64 x_31.rectY1, .slice a_51 (0 + x_31.deps.n) cap_52, .int .i64 x_31.rows, .int .i64 x_31.scratch] Tryz.runUnderlying45 Tryz.sizeOf49 Tryz.zeroValue49 ?_
    intro b_59 w_60 hS_61
    refine sApp (nb := 88) hS_61 hOzs 4 (RdT.blk (enc := encTask) (sz := 9) (xs := [(⟨x_31.stage, x_31.part, x_31.rectX0, x_31.rectY0, x_31.rectX1, x_31.rectY1, ⟨a_51, (0 + x_31.deps.n), cap_52, ([] ++ x_31.deps.l)⟩, x_31.rows, x_31.scratch⟩ : Task)]) (fun _ => rfl) 1 0 rfl rfl rfl (by omega)) Tryz.underlying45 (i := Tryz.t49) (by kernel_rfl) (fun _ => rfl) ?_
    intro a_62 cap_63 c_64 w_65 hO_66 hS_67
    refine pu1 ?_
    refine tW hS_67 5 3 (.slice a_62 (nzs + 1) cap_63) Tryz.sizeOf45 ?_
    intro w_68 hS_69
    refine nilO <| blockK_n <| thenK_n <| regionE <| pu1 ?_
    refine sAdd ((i : Nat) : Int) 1 ?_
    refine pu1 <| nilO <| thenK_n <| ?_
    have hS_70 := ((hS_69.dropAt 0 rfl).dropAt 1 rfl)
    have hS_71 := (Sat.perm (cs' := (c_53 ++ Gzs) :: (c_64 :: [(b_20, .cells #[.bool true, .bool true, .int .i64 bd, .slice a_62 (nzs + 1) cap_63, .pointer (some ⟨p_13, 0, none⟩)] 83 (0, 0))] :: M_14 :: (Tri p 86 (preF F.cfg wa wn wk aa an ak da dn dk q) (xs.flatMap encFJob) (encStt F.st)) :: Wc :: Ac :: Dc :: acs.flatten :: dcs.flatten :: Qc :: jcs.flatten :: H :: F0)) (show Sat W _ (c_53 :: Gzs :: c_64 :: [(b_20, .cells #[.bool true, .bool true, .int .i64 bd, .slice a_62 (nzs + 1) cap_63, .pointer (some ⟨p_13, 0, none⟩)] 83 (0, 0))] :: M_14 :: (Tri p 86 (preF F.cfg wa wn wk aa an ak da dn dk q) (xs.flatMap encFJob) (encStt F.st)) :: Wc :: Ac :: Dc :: acs.flatten :: dcs.flatten :: Qc :: jcs.flatten :: H :: F0) from hS_70) (by simp))
    exact ⟨(i + 1, (zs ++ [(⟨x_31.stage, x_31.part, x_31.rectX0, x_31.rectY0, x_31.rectX1, x_31.rectY1, ⟨a_51, (0 + x_31.deps.n), cap_52, ([] ++ x_31.deps.l)⟩, x_31.rows, x_31.scratch⟩ : Task)]), a_62, (nzs + 1), cap_63, c_64, (c_53 ++ Gzs)), by first | omega | (dsimp only; omega), alA, hS_71, by omega, (by rw [List.map_append, hzv, take_succ_at hx_34, List.map_append]; rfl), by first | omega | (simp; omega), hO_66, (by
        intro z hz
        rcases List.mem_append.1 hz with h | h
        · exact (hDzs z h).of_mem (fun p hp => by simp at hp ⊢; simp [hp])
        · simp only [List.mem_singleton] at h; subst h; exact ⟨(hO_55.rdAt (cs := [c_53]) 0 rfl).of_mem (fun p hp => by simp at hp ⊢; simp [hp])⟩)⟩
  refine exitE <| thenK_x <| thenK_x <| blockK_x <| thenK_n <| seqE <| seqE ?_
  refine drawE [8] [(6, ⟨p, 5, none⟩, .int .i64 F.cfg.tasks)] [(true, [0, 1, 2, 3, 4, 5, 7]), (true, [6]), (false, [8]), (true, [9]), (true, [10])] rfl (by kernel_rfl) ⟨.inr (cell_up hS_29 4 rfl (k := 5) tri_pre rfl), trivial⟩ ?_
  have hS_72 := hS_29.drew
  refine wU [0, 1, 2, 3, 4, 5, 7] ?_
  refine wLd (.int .i64 F.cfg.tasks) 0 Tryz.isAgg3 ?_
  refine wO rfl ?_
  have hS_73 := (hS_72.pick 4 rfl)
  refine cX Tryz.call37 (f_load hJs hxl hjt hS_73) ?_
  rintro _ w_74 ⟨rfl, hS_75⟩
  refine nilO ⟨⟨.inr (cell_up hS_75 0 rfl (k := 5) tri_pre rfl), trivial⟩, ?_⟩
  refine wSub F.cfg.tasks (loadL F.jobs) ?_
  refine wU [10] ?_
  refine wN ?_
  refine thenK_n <| ?_
  refine cD (((nl : Nat) : Int) > (F.cfg.tasks - (loadL F.jobs))) (fun hc_76 => ?_) (fun hc_76 => ?_)
  · refine seqE <| regionE <| pu1 <| nilO <| thenK_n <| retE <| thenK_r <| retT [.int .i64 13] <| ?_
    omega
  refine skipE <| thenK_n <| seqE ?_
  refine drawE [6] [(2, ⟨b_20, 0, none⟩, .bool true), (2, ⟨b_20, 1, none⟩, .bool true), (2, ⟨b_20, 2, none⟩, .int .i64 bd), (2, ⟨b_20, 3, none⟩, .slice azs nzs kzs), (2, ⟨b_20, 4, none⟩, .pointer (some ⟨p_13, 0, none⟩))] [(true, [0, 1, 3, 4]), (true, [2]), (true, [5]), (false, [6])] rfl (by kernel_rfl) ⟨.inr (hS_75.cell 3 rfl rfl), .inr (hS_75.cell 3 rfl rfl), .inr (hS_75.cell 3 rfl rfl), .inr (hS_75.cell 3 rfl rfl), .inr (hS_75.cell 3 rfl rfl), trivial⟩ ?_
  have hS_77 := hS_75.drew
  refine wU [0, 1, 3, 4] ?_
  refine wY (.agg #[.bool true, .bool true, .int .i64 bd, .slice azs nzs kzs, .pointer (some ⟨p_13, 0, none⟩)]) rfl (fun w hF => Y_loadF rfl (Tryz.isAgg83 w) (Tryz.sizeOf83 w) (by kernel_rfl) rfl ⟨hF 0 _ _ rfl, hF 1 _ _ rfl, hF 2 _ _ rfl, hF 3 _ _ rfl, hF 4 _ _ rfl, trivial⟩) ?_
  refine wY (.pointer (some ⟨p, 12 + (x.toNat) * 5, none⟩)) rfl (fun w _ => Y_idxA (b := p) (off := 12) x (x.toNat) Tryz.runUnderlying84 Tryz.sizeOf83) ?_
  refine wO rfl ?_
  refine sTel (enc := encFJob) (sz := 5) hS_77 (fun _ => rfl) 0 (x.toNat) 12 0 x_5 (⟨true, true, bd, ⟨azs, nzs, kzs, zs⟩, some ⟨p_13, 0, none⟩⟩ : FJob) hx_6 (.agg #[.bool true, .bool true, .int .i64 bd, .slice azs nzs kzs, .pointer (some ⟨p_13, 0, none⟩)]) [.bool true, .bool true, .int .i64 bd, .slice azs nzs kzs, .pointer (some ⟨p_13, 0, none⟩)] Tryz.sizeOf83 ?_
  intro w_78 hS_79
  refine nilO ⟨⟨.inl (by kernel_rfl), .inl (by kernel_rfl), .inl (by kernel_rfl), .inl (by kernel_rfl), .inl (by kernel_rfl), trivial⟩, ?_⟩
  refine wN ?_
  refine thenK_n <| seqE <| regionE <| pu1 ?_
  have hS_80 := (hS_79.pick 4 rfl)
  refine cX Tryz.call38 (r_ready hB_16 (new_wf hv) (Sat.flat1 hS_80)) ?_
  rintro _ w_81 ⟨az_84, nz_85, kz_86, Z_87, rfl, hr_88, hS_82⟩
  have hS_83 := Sat.unflat2 hS_82; have hn_az_84 := hr_88.len; have hl_az_84 := hr_88.le
  refine pu1 <| nilO <| thenK_n <| seqE <| seqE <| regionE <| pu1 <| nilO <| thenK_n <| blockE ?_
  refine loopA (γ := Nat × QS × Chunk) (fun ⟨i, qi, Qci⟩ => [(0, .pointer (some ⟨p, 0, none⟩)), (1, .int .i64 x), (3, .int .i64 bd), (14, .slice az_84 nz_85 kz_86), (15, .int .i64 ((i : Nat) : Int))]) (fun ⟨i, qi, Qci⟩ w => Sat W w (Z_87 :: M_14 :: (Tri p 86 (preF F.cfg wa wn wk aa an ak da dn dk q) ((xs.set (x.toNat) (⟨true, true, bd, ⟨azs, nzs, kzs, zs⟩, some ⟨p_13, 0, none⟩⟩ : FJob)).flatMap encFJob) (encStt F.st)) :: Gzs :: czs :: [(b_20, .cells #[.bool true, .bool true, .int .i64 bd, .slice azs nzs kzs, .pointer (some ⟨p_13, 0, none⟩)] 83 (0, 0))] :: Wc :: Ac :: Dc :: acs.flatten :: dcs.flatten :: Qci :: jcs.flatten :: H :: F0) ∧ i ≤ nz_85 ∧ (InjR q qi Qci) ∧ (qi = readyQ x bd F.q ((idxOf 2 0 (newB l).st).take i))) (fun ⟨i, qi, Qci⟩ => nz_85 - i) (0, F.q, Qc) ⟨hS_83, by omega, hQ, rfl⟩ ?_
  rintro ⟨i, qi, Qci⟩ ρ w_89 ⟨hS_90, hi, hQi, hqe⟩
  refine seqE <| seqE <| regionE <| pu4 <| nilO <| thenK_n <| ?_
  refine cD (((i : Nat) : Int) < ((nz_85 : Nat) : Int)) (fun hc_91 => ?_) (fun hc_91 => ?_)
  · refine skipE <| thenK_n <| seqE <| blockE ?_
    obtain ⟨x_92, b_93, o_94, hx_95, hp_96, hq_97⟩ := RdT.elem hr_88 ((i : Nat) : Int)
    rw [Int.toNat_natCast] at hx_95
    refine drawE [11] [(3, ⟨p, 11, none⟩, .pointer (some ⟨q, 0, none⟩)), (8, ⟨b_93, o_94, none⟩, .int .i64 x_92)] [(true, [0, 1, 2, 4, 5, 6]), (true, [7]), (true, [10]), (true, [3]), (true, [8]), (true, [9]), (false, [11])] rfl (by kernel_rfl) ⟨.inr (cell_up hS_90 2 rfl (k := 11) tri_pre rfl), .inr ((hp_96.up 0 rfl).cell hS_90 (k := 0) rfl), trivial⟩ ?_
    have hS_98 := hS_90.drew
    refine wU [0, 1, 2, 4, 5, 6] ?_
    refine wY (.pointer (some ⟨b_93, o_94, none⟩)) rfl (fun w _ => Y_idx (a := az_84) (i := ((i : Nat) : Int)) (len := nz_85) (cap := kz_86) rfl Tryz.runUnderlying22 Tryz.sizeOf3 (by kernel_rfl) (by kernel_rfl) hq_97) ?_
    refine wU [10] ?_
    refine wLd (.pointer (some ⟨q, 0, none⟩)) 0 Tryz.isAgg80 ?_
    refine wLd (.int .i64 x_92) 1 Tryz.isAgg3 ?_
    refine wU [9] ?_
    refine wO rfl ?_
    have hS_99 := (hS_98.pick 11 rfl)
    refine cX Tryz.call39 (iq_push hQi (⟨x, x_92⟩ : Ref) bd (by omega) (Sat.flat1 hS_99)) ?_
    rintro _ w_100 ⟨M_103, rfl, hR_104, hS_101⟩
    have hS_102 := Sat.unflat1 hS_101
    refine nilO ⟨⟨.inl (by kernel_rfl), .inr ((hp_96.up 1 rfl).cell hS_102 (k := 0) rfl), trivial⟩, ?_⟩
    refine wN ?_
    refine blockK_n <| thenK_n <| regionE <| pu1 ?_
    refine sAdd ((i : Nat) : Int) 1 ?_
    refine pu1 <| nilO <| thenK_n <| ?_
    have hS_105 : Sat W _ ([(b_20, .cells #[.bool true, .bool true, .int .i64 bd, .slice azs nzs kzs, .pointer (some ⟨p_13, 0, none⟩)] 83 (0, 0))] :: Wc :: Ac :: Dc :: acs.flatten :: dcs.flatten :: M_103 :: Z_87 :: M_14 :: (Tri p 86 (preF F.cfg wa wn wk aa an ak da dn dk q) ((xs.set (x.toNat) (⟨true, true, bd, ⟨azs, nzs, kzs, zs⟩, some ⟨p_13, 0, none⟩⟩ : FJob)).flatMap encFJob) (encStt F.st)) :: Gzs :: czs :: jcs.flatten :: H :: F0) := ((((((hS_102.pick 11 rfl).pick 11 rfl).pick 11 rfl).pick 11 rfl).pick 11 rfl).pick 11 rfl)
    have hS_106 := (((((hS_105.pick 11 rfl).pick 11 rfl).pick 11 rfl).pick 11 rfl).pick 11 rfl)
    exact ⟨(i + 1, (pushQ qi (⟨x, x_92⟩ : Ref) bd), M_103), by first | omega | (dsimp only; omega), alA, hS_106, by omega, hR_104, (by rw [ready_take hx_95, ← hqe])⟩
  refine exitE <| thenK_x <| thenK_x <| blockK_x <| thenK_n <| seqE <| regionE <| pu1 <| nilO <| thenK_n <| retE <| retT [.int .i64 0] <| ?_
  have hS_107 := (hS_90.pick 12 rfl)
  have hS_108 := Sat.openN (A := []) (x.toNat) hcs_7 hS_107
  have hS_111 := (((((hS_108.pick 1 rfl).pick 1 rfl).pick 3 rfl).pick 6 rfl).pick 6 rfl)
  have hS_109 : Sat W _ (((Gzs ++ czs) ++ M_14) :: (jcs.eraseIdx (x.toNat)).flatten :: Z_87 :: (Tri p 86 (preF F.cfg wa wn wk aa an ak da dn dk q) ((xs.set (x.toNat) (⟨true, true, bd, ⟨azs, nzs, kzs, zs⟩, some ⟨p_13, 0, none⟩⟩ : FJob)).flatMap encFJob) (encStt F.st)) :: [(b_20, .cells #[.bool true, .bool true, .int .i64 bd, .slice azs nzs kzs, .pointer (some ⟨p_13, 0, none⟩)] 83 (0, 0))] :: Wc :: Ac :: Dc :: acs.flatten :: dcs.flatten :: Qci :: H :: F0) := Sat.perm (show Sat W _ (Gzs :: czs :: M_14 :: [] :: (jcs.eraseIdx (x.toNat)).flatten :: Z_87 :: (Tri p 86 (preF F.cfg wa wn wk aa an ak da dn dk q) ((xs.set (x.toNat) (⟨true, true, bd, ⟨azs, nzs, kzs, zs⟩, some ⟨p_13, 0, none⟩⟩ : FJob)).flatMap encFJob) (encStt F.st)) :: [(b_20, .cells #[.bool true, .bool true, .int .i64 bd, .slice azs nzs kzs, .pointer (some ⟨p_13, 0, none⟩)] 83 (0, 0))] :: Wc :: Ac :: Dc :: acs.flatten :: dcs.flatten :: Qci :: H :: F0) from hS_111) (by simp)
  have hS_112 := Sat.shutN (d := (Gzs ++ czs) ++ M_14) (A := []) (x.toNat) hcs_7 hS_109
  rw [List.take_of_length_le (by omega)] at hzv
  have hL_110 := Obs.set3 (p' := (⟨true, true, bd, ⟨azs, nzs, kzs, zs⟩, some ⟨p_13, 0, none⟩⟩ : FJob)) hJs hx_6 (JobM.mk (s := jobN l bd) (T := (Gzs ++ czs)) rfl ((hOzs.rdAt (cs := [Gzs, czs]) 1 rfl).of_mem (fun p hp => by simp at hp ⊢; exact hp)) (fun z hz => (hDzs z hz).of_mem (fun p hp => by simp at hp ⊢; simp [hp])) hzv hB_16)
  have hS_113 : Sat W _ (Wc :: Ac :: Dc :: acs.flatten :: dcs.flatten :: Qci :: (jcs.set (x.toNat) ((Gzs ++ czs) ++ M_14)).flatten :: Z_87 :: (Tri p 86 (preF F.cfg wa wn wk aa an ak da dn dk q) ((xs.set (x.toNat) (⟨true, true, bd, ⟨azs, nzs, kzs, zs⟩, some ⟨p_13, 0, none⟩⟩ : FJob)).flatMap encFJob) (encStt F.st)) :: [(b_20, .cells #[.bool true, .bool true, .int .i64 bd, .slice azs nzs kzs, .pointer (some ⟨p_13, 0, none⟩)] 83 (0, 0))] :: H :: F0) := ((((((hS_112.pick 9 rfl).pick 9 rfl).pick 9 rfl).pick 9 rfl).pick 9 rfl).pick 9 rfl)
  have hS_114 := (((hS_113.pick 8 rfl).dropAt 8 rfl).dropAt 8 rfl)
  have hS_115 : Sat W _ (((Tri p 86 (preF F.cfg wa wn wk aa an ak da dn dk q) ((xs.set (x.toNat) (⟨true, true, bd, ⟨azs, nzs, kzs, zs⟩, some ⟨p_13, 0, none⟩⟩ : FJob)).flatMap encFJob) (encStt F.st)) ++ (Wc ++ (Ac ++ (Dc ++ (acs.flatten ++ (dcs.flatten ++ (Qci ++ (jcs.set (x.toNat) ((Gzs ++ czs) ++ M_14)).flatten))))))) :: H :: F0) := Sat.perm (show Sat W _ ((Tri p 86 (preF F.cfg wa wn wk aa an ak da dn dk q) ((xs.set (x.toNat) (⟨true, true, bd, ⟨azs, nzs, kzs, zs⟩, some ⟨p_13, 0, none⟩⟩ : FJob)).flatMap encFJob) (encStt F.st)) :: Wc :: Ac :: Dc :: acs.flatten :: dcs.flatten :: Qci :: (jcs.set (x.toNat) ((Gzs ++ czs) ++ M_14)).flatten :: H :: F0) from hS_114) (by simp)
  have he : addF F x l bd = (⟨F.cfg, F.ws, F.ar, F.dq, qi, (F.jobs.set (x.toNat) (jobN l bd)), F.st⟩ : FS) := by unfold addF; rw [hqe, List.take_of_length_le (by omega)]
  exact ⟨_, rfl, by rw [he]; exact ⟨_, _, _, _, _, _, _, _, _, _, _, _, _, _, _, _, _, _, _, _, rfl, hOw, hOa, hOd, hAs, hDs, hQi, hL_110, (set_len hxl)⟩, hS_115⟩
end Go.Proofs.YtimkhljglpookaaGreat
