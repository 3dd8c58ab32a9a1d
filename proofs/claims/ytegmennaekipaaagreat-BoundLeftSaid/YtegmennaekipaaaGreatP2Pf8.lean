import Derived.Test.YtegmennaekipaaaGreatP2Pf6
import Derived.Test.YtegmennaekipaaaGreatP2Bd3
namespace Go.Proofs.YtegmennaekipaaaGreat
open Go Go.E
set_option linter.unusedVariables false
set_option linter.unusedSimpArgs false
set_option linter.unnecessarySimpa false
set_option maxRecDepth 100000
set_option maxHeartbeats 2000000
variable {W w : World} {H : Chunk} {F : List Chunk}
-- squeezed
def stateF (F : FS) (x t : Int) : Int := if 0 ≤ x ∧ x < 64 ∧ (jobAt F x).added = true then stAt (jobAt F x).B.st t else 0
def tasksF (F : FS) (x : Int) : List TaskV := if 0 ≤ x ∧ x < 64 ∧ (jobAt F x).added = true then (jobAt F x).tasks else []
theorem wkr_eq {v : Wkr} {a b c d e u h : Int} (h0 : a = v.phase) (h1 : b = v.heldJob) (h2 : c = v.heldTask) (h3 : d = v.attempt) (h4 : e = v.row) (h5 : u = v.used) (h6 : h = v.high) : (⟨a, b, c, d, e, u, h⟩ : Wkr) = v := by
  cases v; simp only at *; subst h0; subst h1; subst h2; subst h3; subst h4; subst h5; subst h6; rfl
theorem DqP.bd {p : Nat} {S : DS} {M : Chunk} (h : DqP p S M) : S.l.length ≤ 256 := by
  obtain ⟨_, _, _, _, _, _, _, _, _, _, hW⟩ := h
  have := hW.c; have := hW.n; omega
theorem asc_allK (n : Nat) : SortTo (allK n) (allK n).length := by
  intro p q u v h1 h2 hu hv
  have at' : ∀ k w, (allK n)[k]? = some w → w = ((k : Nat) : Int) := by
    intro k w hw
    unfold allK at hw
    rw [List.getElem?_map] at hw
    cases hr : (List.range n)[k]? with
    | none => rw [hr] at hw; cases hw
    | some y =>
      rw [hr] at hw
      obtain ⟨h3, h4⟩ := List.getElem?_eq_some_iff.1 hr
      rw [List.getElem_range] at h4
      rw [← Option.some.inj hw, ← h4]
  rw [at' p u hu, at' q v hv]; omega
theorem sort_pw {l : List Int} : SortTo l l.length ↔ l.Pairwise (· ≤ ·) := by
  rw [List.pairwise_iff_getElem]
  constructor
  · intro h i j hi hj hij
    exact h i j _ _ hij hj (List.getElem?_eq_getElem hi) (List.getElem?_eq_getElem hj)
  · intro h p q u v h1 h2 hu hv
    obtain ⟨a, rfl⟩ := List.getElem?_eq_some_iff.1 hu
    obtain ⟨b, rfl⟩ := List.getElem?_eq_some_iff.1 hv
    exact h p q a b h1
theorem runK_asc (jobs : List JS) : SortTo (runK jobs) (runK jobs).length := by
  rw [sort_pw]
  exact (sort_pw.1 (asc_allK 64)).filter _
theorem state_no {F : FS} {x t : Int} (h : ¬ (0 ≤ x ∧ x < 64 ∧ (F.jobs.getD x.toNat default).added = true)) : stateF F x t = 0 := by unfold stateF jobAt; rw [if_neg h]
theorem state_at {F : FS} {x t : Int} {j : JS} (hx : 0 ≤ x ∧ x < 64) (hj : F.jobs[x.toNat]? = some j) (ha : j.added = true) : stateF F x t = stAt j.B.st t := by
  unfold stateF jobAt; rw [getD_some hj, if_pos ⟨hx.1, hx.2, ha⟩]
theorem tasks_no {F : FS} {x : Int} (h : ¬ (0 ≤ x ∧ x < 64 ∧ (F.jobs.getD x.toNat default).added = true)) : tasksF F x = [] := by unfold tasksF jobAt; rw [if_neg h]
theorem tasks_at {F : FS} {x : Int} {j : JS} (hx : 0 ≤ x ∧ x < 64) (hj : F.jobs[x.toNat]? = some j) (ha : j.added = true) : tasksF F x = j.tasks := by
  unfold tasksF jobAt; rw [getD_some hj, if_pos ⟨hx.1, hx.2, ha⟩]
theorem pf_state_0 {p : Nat} {F : FS} {M : Chunk} {F0 : List Chunk} (hR : FarmP p F M) {K : Int} (hF : FI F K) (x : Int) (t : Int) (hk : ¬ (0 ≤ x ∧ x < 64 ∧ (F.jobs.getD x.toNat default).added = true)) (hS : Sat W w (M :: H :: F0)) :
  Calls Tryz.prog 95 #[Pt p 0, I x, I t] w fun e w' => e = .returned (I (stateF F x t)) ∧ Sat W w' (M :: H :: F0) := by
 obtain ⟨wb, wo, wn, wk, q, m, xs, jm, Wc, Qc, Jc, acs, dcs, jcs, rfl, hOw, hco, hAs, hDs, hQ, hM, hJs⟩ := hR
 have b0 : Sat W _ ((Tri p 85 (preP F.cfg wb wo wn wk q m) (([] : List Ref).flatMap encRef) (encStt F.st)) :: Wc :: acs.flatten :: dcs.flatten :: Qc :: Jc :: jcs.flatten :: H :: F0) := Sat.perm hS (by simp)
 have hwl := hOw.len; have hwk := hOw.le; have hcl := core_len hco; have has1 := hAs.1; have hds1 := hDs.1; rw [List.length_map] at has1 hds1; have hjl1 := hJs.l
 have hs1 := hF.st.a; have hs2 := hF.st.b; have hs3 := hF.st.c; have hs4 := hF.st.d; have hs5 := hF.st.e; have hs6 := hF.st.f; have hs7 := hF.st.g; have hKK := hF.fw.k; have hn9 := hF.fw.n; have hal9 := hF.fw.al; have hdl9 := hF.fw.dl; have hjl9 := hF.fw.jl
 have hg := JobsP.no hJs hk
 refine callsA 29 Tryz.func95 rfl ?_
 refine sR <| pu1 <| nT <| seqE <| sR <| pu1 ?_
 refine cX Tryz.call50 (p_empty ⟨om, om⟩ b0) ?_
 rintro _ _ ⟨rfl, a0⟩
 refine pu4 <| gY ?_
 refine sLp a0 (ptr_up 0 rfl tri_pre) 10 (.map (some m)) (Tryz.isAgg80 _) ?_
 refine pu1 <| gY ?_
 refine stepY (.pointer none) rfl rfl (Y_iget (k := x) a0 5 hM (by rw [hg]; rfl) Tryz.runUnderlying80 Tryz.runUnderlying3 Tryz.zeroValue111) ?_
 refine pu2 <| nT <| cTt <| sR <| pu1 <| nT <| retE <| thenK_r <| retT [I 0] ?_
 have c0 := (a0.merge7)
 exact ⟨congrArg (fun z => Ending.returned (I z)) ((state_no hk).symm), c0⟩
theorem pf_state_1 {p : Nat} {F : FS} {M : Chunk} {F0 : List Chunk} (hR : FarmP p F M) {K : Int} (hF : FI F K) {j : JS} (x : Int) (t : Int) (hx : 0 ≤ x ∧ x < 64) (hj : F.jobs[x.toNat]? = some j) (ha : j.added = true) (hS : Sat W w (M :: H :: F0)) :
  Calls Tryz.prog 95 #[Pt p 0, I x, I t] w fun e w' => e = .returned (I (stateF F x t)) ∧ Sat W w' (M :: H :: F0) := by
 obtain ⟨wb, wo, wn, wk, q, m, xs, jm, Wc, Qc, Jc, acs, dcs, jcs, rfl, hOw, hco, hAs, hDs, hQ, hM, hJs⟩ := hR
 have i0 : Sat W _ ((Tri p 85 (preP F.cfg wb wo wn wk q m) (([] : List Ref).flatMap encRef) (encStt F.st)) :: Wc :: acs.flatten :: dcs.flatten :: Qc :: Jc :: jcs.flatten :: H :: F0) := Sat.perm hS (by simp)
 have hwl := hOw.len; have hwk := hOw.le; have hcl := core_len hco; have has1 := hAs.1; have hds1 := hDs.1; rw [List.length_map] at has1 hds1; have hjl1 := hJs.l
 have hs1 := hF.st.a; have hs2 := hF.st.b; have hs3 := hF.st.c; have hs4 := hF.st.d; have hs5 := hF.st.e; have hs6 := hF.st.f; have hs7 := hF.st.g; have hKK := hF.fw.k; have hn9 := hF.fw.n; have hal9 := hF.fw.al; have hdl9 := hF.fw.dl; have hjl9 := hF.fw.jl
 have hjo := hF.fw.j j (List.mem_of_getElem? hj); obtain ⟨hBW, hdl, hb1, hb2⟩ := hjo.b ha
 obtain ⟨d0, b0, c1, d1, c0, j0, e0⟩ := JobsP.get hJs (k := x) ⟨om, om⟩ hj ha
 obtain ⟨k0, l0, m0, e1, f0, n0, o0, rfl, g0, f1, p0, q0, _, g1⟩ := j0.open
 have r0 := (i0.pick 6 rfl)
 have s0 := Sat.openN (A := []) d0 c0 r0
 have t0 := s0.split3
 have hn_taj_2 := g0.len; have hl_taj_2 := g0.le; have hm_taj_2 := congrArg List.length p0; rw [List.length_map] at hm_taj_2
 refine callsA 29 Tryz.func95 rfl ?_
 refine sR <| pu1 <| nT <| seqE <| sR <| pu1 ?_
 have u0 := (t0.pick 4 rfl)
 refine cX Tryz.call50 (p_empty ⟨om, om⟩ u0) ?_
 rintro _ _ ⟨rfl, a0⟩
 refine pu4 <| gY ?_
 refine sLp a0 (ptr_up 0 rfl tri_pre) 10 (.map (some m)) (Tryz.isAgg80 _) ?_
 refine pu1 <| gY ?_
 refine stepY (Pt b0 0) rfl rfl (Y_iget (k := x) a0 9 hM (by rw [e0]; rfl) Tryz.runUnderlying80 Tryz.runUnderlying3 Tryz.zeroValue111) ?_
 refine pu2 <| nT <| cFf <| kT <| sR <| pu3 ?_
 refine sLp a0 (ptr_up 0 rfl tri_pre) 10 (.map (some m)) (Tryz.isAgg80 _) ?_
 refine pu1 ?_
 refine stepY (Pt b0 0) rfl rfl (Y_iget (k := x) a0 9 hM (by rw [e0]; rfl) Tryz.runUnderlying80 Tryz.runUnderlying3 Tryz.zeroValue111) ?_
 refine pu2 ?_
 refine sL a0 1 2 (Pt f0 0) (Tryz.isAgg112 _) ?_
 refine pu1 ?_
 have v0 := (a0.pick 3 rfl)
 refine cX Tryz.call147 (b_state q0 hBW t (Sat.flat1 v0)) ?_
 rintro _ _ ⟨rfl, w0⟩
 have x0 := Sat.unflat1 w0
 refine pu1 <| nT <| retE <| retT [I (stAt j.B.st t)] ?_
 have y0 := (x0.picks [4, 1, 4, 4])
 have z0 := y0.merge3
 have h0 := Sat.shutN (d := ([(b0, .cells #[.slice k0 l0 m0, I j.band, Pt f0 0, .bool (canc j)] 118 (0, 0))] ++ (n0 ++ o0))) (A := []) d0 c0 z0
 rw [set_same c0] at h0
 have a1 := (h0.picks [6, 6, 6, 6, 6, 6])
 have b1 := (a1.merge7)
 exact ⟨congrArg (fun z => Ending.returned (I z)) ((state_at hx hj ha).symm), b1⟩
theorem pf_state {W w : World} {p : Nat} {F : FS} {M H : Chunk} {F0 : List Chunk} (hR : FarmP p F M) {K : Int} (hF : FI F K) (x t : Int) (hS : Sat W w (M :: H :: F0)) :
    Calls Tryz.prog 95 #[.pointer (some ⟨p, 0, none⟩), .int .i64 x, .int .i64 t] w fun e w' => e = .returned (.int .i64 (stateF F x t)) ∧ Sat W w' (M :: H :: F0) := by
  by_cases hk : 0 ≤ x ∧ x < 64 ∧ (F.jobs.getD x.toNat default).added = true
  · obtain ⟨h1, h2, h3⟩ := hk
    obtain ⟨j, hj⟩ := at_some hF.fw.jl (k := x.toNat) (by omega)
    rw [getD_some hj] at h3
    exact pf_state_1 hR hF x t ⟨h1, h2⟩ hj h3 hS
  · exact pf_state_0 hR hF x t hk hS
theorem pf_tasks_0 {p : Nat} {F : FS} {M : Chunk} {F0 : List Chunk} (hR : FarmP p F M) {K : Int} (hF : FI F K) (x : Int) (hk : ¬ (0 ≤ x ∧ x < 64 ∧ (F.jobs.getD x.toNat default).added = true)) (hS : Sat W w (M :: H :: F0)) :
  Calls Tryz.prog 30 #[Pt p 0, I x] w fun e w' => ∃ (az : Option Addr) (nz kz : Nat) (zs : List Task) (C G : Chunk), e = .returned (.slice az nz kz) ∧ OwnT encTask 45 9 az nz kz zs C ∧ (∀ z ∈ zs, Task.Ok [G] z) ∧ zs.map Task.v = tasksF F x ∧ Sat W w' (C :: G :: M :: H :: F0) := by
 obtain ⟨wb, wo, wn, wk, q, m, xs, jm, Wc, Qc, Jc, acs, dcs, jcs, rfl, hOw, hco, hAs, hDs, hQ, hM, hJs⟩ := hR
 have b0 : Sat W _ ((Tri p 85 (preP F.cfg wb wo wn wk q m) (([] : List Ref).flatMap encRef) (encStt F.st)) :: Wc :: acs.flatten :: dcs.flatten :: Qc :: Jc :: jcs.flatten :: H :: F0) := Sat.perm hS (by simp)
 have hwl := hOw.len; have hwk := hOw.le; have hcl := core_len hco; have has1 := hAs.1; have hds1 := hDs.1; rw [List.length_map] at has1 hds1; have hjl1 := hJs.l
 have hs1 := hF.st.a; have hs2 := hF.st.b; have hs3 := hF.st.c; have hs4 := hF.st.d; have hs5 := hF.st.e; have hs6 := hF.st.f; have hs7 := hF.st.g; have hKK := hF.fw.k; have hn9 := hF.fw.n; have hal9 := hF.fw.al; have hdl9 := hF.fw.dl; have hjl9 := hF.fw.jl
 have hg := JobsP.no hJs hk
 refine callsA 26 Tryz.func30 rfl ?_
 refine sR <| pu1 <| nT <| seqE <| sR <| pu1 ?_
 refine cX Tryz.call50 (p_empty ⟨om, om⟩ b0) ?_
 rintro _ _ ⟨rfl, a0⟩
 refine pu4 <| gY ?_
 refine sLp a0 (ptr_up 0 rfl tri_pre) 10 (.map (some m)) (Tryz.isAgg80 _) ?_
 refine pu1 <| gY ?_
 refine stepY (.pointer none) rfl rfl (Y_iget (k := x) a0 5 hM (by rw [hg]; rfl) Tryz.runUnderlying80 Tryz.runUnderlying3 Tryz.zeroValue111) ?_
 refine pu2 <| nT <| cTt <| sR <| pu1 <| nT <| retE <| thenK_r <| retT [.slice none 0 0] ?_
 have c0 := (a0.merge7)
 have d0 := Sat.nilc (Sat.nilc c0)
 exact ⟨_, _, _, [], _, _, rfl, OwnT.nil fR, (fun z hz => by cases hz), (tasks_no hk).symm, d0⟩
theorem pf_tasks_1 {p : Nat} {F : FS} {M : Chunk} {F0 : List Chunk} (hR : FarmP p F M) {K : Int} (hF : FI F K) {j : JS} (x : Int) (hx : 0 ≤ x ∧ x < 64) (hj : F.jobs[x.toNat]? = some j) (ha : j.added = true) (hS : Sat W w (M :: H :: F0)) :
  Calls Tryz.prog 30 #[Pt p 0, I x] w fun e w' => ∃ (az : Option Addr) (nz kz : Nat) (zs : List Task) (C G : Chunk), e = .returned (.slice az nz kz) ∧ OwnT encTask 45 9 az nz kz zs C ∧ (∀ z ∈ zs, Task.Ok [G] z) ∧ zs.map Task.v = tasksF F x ∧ Sat W w' (C :: G :: M :: H :: F0) := by
 obtain ⟨wb, wo, wn, wk, q, m, xs, jm, Wc, Qc, Jc, acs, dcs, jcs, rfl, hOw, hco, hAs, hDs, hQ, hM, hJs⟩ := hR
 have n0 : Sat W _ ((Tri p 85 (preP F.cfg wb wo wn wk q m) (([] : List Ref).flatMap encRef) (encStt F.st)) :: Wc :: acs.flatten :: dcs.flatten :: Qc :: Jc :: jcs.flatten :: H :: F0) := Sat.perm hS (by simp)
 have hwl := hOw.len; have hwk := hOw.le; have hcl := core_len hco; have has1 := hAs.1; have hds1 := hDs.1; rw [List.length_map] at has1 hds1; have hjl1 := hJs.l
 have hs1 := hF.st.a; have hs2 := hF.st.b; have hs3 := hF.st.c; have hs4 := hF.st.d; have hs5 := hF.st.e; have hs6 := hF.st.f; have hs7 := hF.st.g; have hKK := hF.fw.k; have hn9 := hF.fw.n; have hal9 := hF.fw.al; have hdl9 := hF.fw.dl; have hjl9 := hF.fw.jl
 have hjo := hF.fw.j j (List.mem_of_getElem? hj); obtain ⟨hBW, hdl, hb1, hb2⟩ := hjo.b ha
 obtain ⟨j0, b0, i1, j1, c0, o0, k0⟩ := JobsP.get hJs (k := x) ⟨om, om⟩ hj ha
 obtain ⟨d0, e0, f0, p0, q0, r0, s0, rfl, g0, t0, h0, k1, _, l1⟩ := o0.open
 have u0 := (n0.pick 6 rfl)
 have v0 := Sat.openN (A := []) j0 c0 u0
 have w0 := v0.split3
 have hn_taj_2 := g0.len; have hl_taj_2 := g0.le; have hm_taj_2 := congrArg List.length h0; rw [List.length_map] at hm_taj_2
 have hjn9 := hjo.n
 refine callsA 26 Tryz.func30 rfl ?_
 refine sR <| pu1 <| nT <| seqE <| sR <| pu1 ?_
 have x0 := (w0.pick 4 rfl)
 refine cX Tryz.call50 (p_empty ⟨om, om⟩ x0) ?_
 rintro _ _ ⟨rfl, a0⟩
 refine pu4 <| gY ?_
 refine sLp a0 (ptr_up 0 rfl tri_pre) 10 (.map (some m)) (Tryz.isAgg80 _) ?_
 refine pu1 <| gY ?_
 refine stepY (Pt b0 0) rfl rfl (Y_iget (k := x) a0 9 hM (by rw [k0]; rfl) Tryz.runUnderlying80 Tryz.runUnderlying3 Tryz.zeroValue111) ?_
 refine pu2 <| nT <| cFf <| kT <| sR <| pu3 ?_
 refine sLp a0 (ptr_up 0 rfl tri_pre) 10 (.map (some m)) (Tryz.isAgg80 _) ?_
 refine pu1 ?_
 refine stepY (Pt b0 0) rfl rfl (Y_iget (k := x) a0 9 hM (by rw [k0]; rfl) Tryz.runUnderlying80 Tryz.runUnderlying3 Tryz.zeroValue111) ?_
 refine pu2 ?_
 refine sL a0 1 0 (.slice d0 e0 f0) (Tryz.isAgg39 _) ?_
 refine cX Tryz.call53 (p_copies d0 e0 f0 p0 (RdT.flat (g0.up 2 (by rfl))) (fun z hz => (t0 z hz).of_mem (mem_flat1 2 (by rfl))) om (fun z hz => (hF.a.t j (List.mem_of_getElem? hj) z.v (by rw [← h0]; exact List.mem_map.2 ⟨z, hz, rfl⟩)).2.2.2.2) (Sat.flat a0)) ?_
 rintro _ _ ⟨y0, z0, a1, _, _, _, rfl, i0, b1, l0, c1⟩
 have d1 := Sat.unflat2 c1; have hn_az_13 := i0.len; have hl_az_13 := i0.le; have hv_az_13 := congrArg List.length l0; rw [List.length_map, List.length_map] at hv_az_13
 refine pu1 <| nT <| retE <| retT [.slice y0 z0 a1] ?_
 have e1 := (d1.picks [6, 6, 6, 6])
 have f1 := e1.merge3
 have m0 := Sat.shutN (d := ([(b0, .cells #[.slice d0 e0 f0, I j.band, Pt q0 0, .bool (canc j)] 118 (0, 0))] ++ (r0 ++ s0))) (A := []) j0 c0 f1
 rw [set_same c0] at m0
 have g1 := (m0.picks [8, 8, 8, 8, 8, 8])
 have h1 := ((g1.merge7).picks [2, 2])
 exact ⟨_, _, _, _, _, _, rfl, i0, b1, l0.trans (h0.trans (tasks_at hx hj ha).symm), h1⟩
theorem pf_tasks {W w : World} {p : Nat} {F : FS} {M H : Chunk} {F0 : List Chunk} (hR : FarmP p F M) {K : Int} (hF : FI F K) (x : Int) (hS : Sat W w (M :: H :: F0)) :
  Calls Tryz.prog 30 #[Pt p 0, I x] w fun e w' => ∃ (az : Option Addr) (nz kz : Nat) (zs : List Task) (C G : Chunk), e = .returned (.slice az nz kz) ∧ OwnT encTask 45 9 az nz kz zs C ∧ (∀ z ∈ zs, Task.Ok [G] z) ∧ zs.map Task.v = tasksF F x ∧ Sat W w' (C :: G :: M :: H :: F0) := by
 by_cases hk : 0 ≤ x ∧ x < 64 ∧ (F.jobs.getD x.toNat default).added = true
 ·obtain ⟨h1, h2, h3⟩ := hk
  obtain ⟨j, hj⟩ := at_some hF.fw.jl (k := x.toNat) om
  rw [getD_some hj] at h3
  exact pf_tasks_1 hR hF x ⟨h1, h2⟩ hj h3 hS
 ·exact pf_tasks_0 hR hF x hk hS
theorem pf_jobs {p : Nat} {F : FS} {M : Chunk} {F0 : List Chunk} (hR : FarmP p F M) {K : Int} (hF : FI F K) (h12j : (runK F.jobs).length ≤ 12) (hS : Sat W w (M :: H :: F0)) :
  Calls Tryz.prog 37 #[Pt p 0] w fun e w' => ∃ (az : Option Addr) (nz kz : Nat) (Z : Chunk), e = .returned (.slice az nz kz) ∧ OwnT encI 3 1 az nz kz (runK F.jobs) Z ∧ Sat W w' (Z :: M :: H :: F0) := by
 obtain ⟨wb, wo, wn, wk, q, m, xs, jm, Wc, Qc, Jc, acs, dcs, jcs, rfl, hOw, hco, hAs, hDs, hQ, hM, hJs⟩ := hR
 have d1 : Sat W _ ((Tri p 85 (preP F.cfg wb wo wn wk q m) (([] : List Ref).flatMap encRef) (encStt F.st)) :: Wc :: acs.flatten :: dcs.flatten :: Qc :: Jc :: jcs.flatten :: H :: F0) := Sat.perm hS (by simp)
 have hwl := hOw.len; have hwk := hOw.le; have hcl := core_len hco; have has1 := hAs.1; have hds1 := hDs.1; rw [List.length_map] at has1 hds1; have hjl1 := hJs.l
 have hs1 := hF.st.a; have hs2 := hF.st.b; have hs3 := hF.st.c; have hs4 := hF.st.d; have hs5 := hF.st.e; have hs6 := hF.st.f; have hs7 := hF.st.g; have hKK := hF.fw.k; have hn9 := hF.fw.n; have hal9 := hF.fw.al; have hdl9 := hF.fw.dl; have hjl9 := hF.fw.jl
 refine callsA 27 Tryz.func37 rfl ?_
 refine sR <| pu1 <| nT <| seqE <| sR <| pu1 ?_
 refine cX Tryz.call50 (p_empty ⟨om, om⟩ d1) ?_
 rintro _ _ ⟨rfl, l0⟩
 refine nT <| cFf <| kT <| sR <| pu1 <| nT <| seqE <| sR <| pu3 ?_
 refine sLp l0 (ptr_up 0 rfl tri_pre) 10 (.map (some m)) (Tryz.isAgg80 _) ?_
 refine sRangeI l0 5 hM Tryz.runUnderlying80 ?_
 intro m0 e1 _ f1 g1
 refine nT <| blockE ?_
 have h1 := Sat.nilc g1
 have i1 := OwnT.nil (enc := encI) (E := 3) (sz := 1) fR
 refine loopA (γ := (List (Int × Value)) × (Option (Int × Value)) × Chunk × (List Int) × (Option Addr) × Nat × Nat × Chunk) (fun ⟨rs, lt, ci, zs, azs, nzs, kzs, czs⟩ => [(12, Pt m0 0), (3, .slice azs nzs kzs)]) (fun ⟨rs, lt, ci, zs, azs, nzs, kzs, czs⟩ w => Sat W w (czs :: ci :: (Tri p 85 (preP F.cfg wb wo wn wk q m) (([] : List Ref).flatMap encRef) (encStt F.st)) :: Wc :: acs.flatten :: dcs.flatten :: Qc :: Jc :: jcs.flatten :: H :: F0) ∧ RngI m0 m (kvJ jm) rs lt Jc ci ∧ RestJ jm rs ∧ (OwnT encI 3 1 azs nzs kzs zs czs) ∧ ((zs ++ keysR F.jobs rs).Perm (runK F.jobs))) (fun ⟨rs, lt, ci, zs, azs, nzs, kzs, czs⟩ => rs.length) ((kvJ jm), none, e1, [], none, 0, 0, []) ⟨h1, f1, (RestJ.all jm), i1, (keysR_all hF.fw hJs)⟩ ?_
 rintro ⟨rs, lt, ci, zs, azs, nzs, kzs, czs⟩ ρ _ ⟨n0, hRg, hRJ, hOz, hPj⟩
 have hnn9 := sumJ_nn (jobs := F.jobs) (rs := rs)
 have hzl0 : zs.length ≤ 12 := by have h9 := hPj.length_eq; rw [List.length_append] at h9; omega
 have hzn0 := hOz.len
 refine sR ?_
 refine sNextI n0 7 1 hRg (fun j1 => ?_) (fun f0 t2 g0 o0 u2 c0 h0 p0 => ?_)
 ·refine pu1 <| nT <| seqE <| cFf <| exitE <| xB <| thenK_n <| seqE ?_
  have hfin9 : zs.Perm (runK F.jobs) := by rw [j1] at hPj; simpa [keysR] using hPj
  have hzl9 := hfin9.length_eq; have hzl8 := hOz.len
  refine regionE <| pu1 ?_
  refine cX Tryz.call101 (q_sort hOz om n0) ?_
  rintro _ _ ⟨k1, _, rfl, l1, m1, n1, o1⟩
  refine nT <| sR <| pu2 <| nT <| retE <| retT [.slice azs nzs kzs] ?_
  have p1 := ((o1.picks [8, 8, 8, 8, 8, 8, 8]).dropAt 8 rfl)
  have q1 := ((p1.merge7).pick 1 rfl)
  exact ⟨_, _, _, _, rfl, (by rw [← show k1 = runK F.jobs from asc_unique (m1.trans hfin9) n1 (runK_asc F.jobs)]; exact l1), q1⟩
 obtain ⟨a0, d0, rfl, r1, q0⟩ := hRJ.take c0
 refine pu1 <| nT <| seqE <| cTt <| kT <| blockE <| sR ?_
 refine sEntryI (q := (a0, ptrV d0)) p0 7 1 h0 ?_
 obtain ⟨i0, x2, b0, y2, e0, s1, j0, r0, hj_38_1, hj_38_2⟩ := JobsP.mem hJs r1
 obtain ⟨s0, t0, u0, z2, v0, w0, x0, rfl, y0, t1, z0, u1, _, v1⟩ := s1.open
 have w1 := (p0.pick 8 rfl)
 have x1 := Sat.openN (A := []) i0 e0 w1
 have y1 := x1.split3
 have hjo_j_37 := hF.fw.j b0 (List.mem_of_getElem? j0); obtain ⟨z1, a2, _, _⟩ := hjo_j_37.b r0; have hjn_j_37 := hjo_j_37.n
 have hn_taj_36 := y0.len; have hm_taj_36 := congrArg List.length z0; rw [List.length_map] at hm_taj_36
 refine pu4 <| nT <| sR <| pu1 ?_
 have b2 := (y1.picks [2, 2, 2])
 have c2 := b2.merge3
 refine cX Tryz.call71 (p_running (s := b0) (JobP.mk (s := b0) y0 t1 z0 u1 r0 v1 rfl) z1 a2 c2) ?_
 rintro _ _ ⟨rfl, d2⟩
 have a1 := d2.split3
 refine nT ?_
 refine cB b0.running (fun k0 => ?_) (fun k0 => ?_)
 rotate_left
 ·refine skipE <| blockK_n <| thenK_n ?_
  have e2 := (a1.picks [3, 3, 3, 3])
  have f2 := e2.merge3
  have b1 := Sat.shutN (d := ([(d0, .cells #[.slice s0 t0 u0, I b0.band, Pt v0 0, .bool (canc b0)] 118 (0, 0))] ++ (w0 ++ x0))) (A := []) i0 e0 f2
  rw [set_same e0] at b1
  have hkt := keysR_take c0 hPj; rw [show runJ9 F.jobs a0 = false from (by unfold runJ9; rw [getD_some j0]; exact Bool.eq_false_iff.2 k0)] at hkt
  simp only [if_true, Bool.false_eq_true, if_false, List.append_nil] at hkt
  have g2 := (b1.picks [8, 8, 8, 8, 8, 8, 8, 8])
  have hlen9 : ((f0 ++ g0)).length < rs.length := by rw [c0]; simp only [List.length_append, List.length_cons]; omega
  exact ⟨((f0 ++ g0), (some (a0, ptrV d0)), o0, zs, azs, nzs, kzs, czs), by first | exact hlen9 | (dsimp only; exact hlen9), alA, g2, h0, q0, hOz, hkt⟩
 refine regionE <| pu2 ?_
 refine sBS a1 #[I a0] Tryz.runUnderlying22 Tryz.sizeOf3 Tryz.zeroValue3 ?_
 intro _ _ h2
 refine sApp (nb := 8) h2 hOz 5 (RdT.blk (enc := encI) (sz := 1) (xs := [a0]) fR 1 0 rfl rfl rfl om) Tryz.underlying22 (i := Tryz.t3) kr fR ?_
 intro i2 j2 k2 _ l2 m2
 refine pu1 <| nB ?_
 have n2 := (m2.picks [4, 4, 4, 4])
 have o2 := n2.merge3
 have c1 := Sat.shutN (d := ([(d0, .cells #[.slice s0 t0 u0, I b0.band, Pt v0 0, .bool (canc b0)] 118 (0, 0))] ++ (w0 ++ x0))) (A := []) i0 e0 o2
 rw [set_same e0] at c1
 have hkt := keysR_take c0 hPj; rw [show runJ9 F.jobs a0 = true from (by unfold runJ9; rw [getD_some j0]; exact k0)] at hkt
 simp only [if_true, Bool.false_eq_true, if_false, List.append_nil] at hkt
 have p2 := ((c1.picks [9, 9, 9, 9, 9, 9, 9, 9]).dropAt 9 rfl)
 have hlen9 : ((f0 ++ g0)).length < rs.length := by rw [c0]; simp only [List.length_append, List.length_cons]; omega
 exact ⟨((f0 ++ g0), (some (a0, ptrV d0)), o0, (zs ++ [a0]), i2, (nzs + 1), j2, k2), by first | exact hlen9 | (dsimp only; exact hlen9), alA, p2, h0, q0, l2, hkt⟩
end Go.Proofs.YtegmennaekipaaaGreat

namespace Go.Proofs.YtegmennaekipaaaGreat
open Go Go.E
set_option linter.unusedVariables false
set_option linter.unusedSimpArgs false
set_option linter.unnecessarySimpa false
set_option maxRecDepth 100000
set_option maxHeartbeats 2000000
variable {W w : World} {H : Chunk} {F : List Chunk}
theorem pf_workers {p : Nat} {F : FS} {M : Chunk} {F0 : List Chunk} (hR : FarmP p F M) {K : Int} (hF : FI F K)  (hS : Sat W w (M :: H :: F0)) :
  Calls Tryz.prog 39 #[Pt p 0] w fun e w' => ∃ (az : Option Addr) (nz kz : Nat) (Z : Chunk), e = .returned (.slice az nz kz) ∧ OwnT encWkr 69 7 az nz kz F.ws Z ∧ Sat W w' (Z :: M :: H :: F0) := by
 obtain ⟨wb, wo, wn, wk, q, m, xs, jm, Wc, Qc, Jc, acs, dcs, jcs, rfl, hOw, hco, hAs, hDs, hQ, hM, hJs⟩ := hR
 have o0 : Sat W _ ((Tri p 85 (preP F.cfg wb wo wn wk q m) (([] : List Ref).flatMap encRef) (encStt F.st)) :: Wc :: acs.flatten :: dcs.flatten :: Qc :: Jc :: jcs.flatten :: H :: F0) := Sat.perm hS (by simp)
 have hwl := hOw.len; have hwk := hOw.le; have hcl := core_len hco; have has1 := hAs.1; have hds1 := hDs.1; rw [List.length_map] at has1 hds1; have hjl1 := hJs.l
 have hs1 := hF.st.a; have hs2 := hF.st.b; have hs3 := hF.st.c; have hs4 := hF.st.d; have hs5 := hF.st.e; have hs6 := hF.st.f; have hs7 := hF.st.g; have hKK := hF.fw.k; have hn9 := hF.fw.n; have hal9 := hF.fw.al; have hdl9 := hF.fw.dl; have hjl9 := hF.fw.jl
 refine callsA 54 Tryz.func39 rfl ?_
 refine sR <| pu1 <| nT <| seqE <| sR <| pu1 ?_
 refine cX Tryz.call50 (p_empty ⟨om, om⟩ o0) ?_
 rintro _ _ ⟨rfl, n0⟩
 refine nT <| cFf <| kT <| sR <| pu1 <| nT <| seqE <| sR <| pu3 ?_
 refine sLp n0 (ptr_up 0 rfl tri_pre) 8 (.slice (some ⟨wb, wo, none⟩) wn wk) (Tryz.isAgg81 _) ?_
 refine pu2 <| nT <| blockE ?_
 have p0 := Sat.nilc n0
 have q0 := OwnT.nil (enc := encWkr) (E := 69) (sz := 7) fR
 refine loopA (γ := Nat × (List Wkr) × (Option Addr) × Nat × Nat × Chunk) (fun ⟨i, zs, azs, nzs, kzs, czs⟩ => [(0, Pt p 0), (12, I ((wn : Nat) : Int)), (13, I ((i : Nat) : Int)), (3, .slice azs nzs kzs)]) (fun ⟨i, zs, azs, nzs, kzs, czs⟩ w => Sat W w (czs :: (Tri p 85 (preP F.cfg wb wo wn wk q m) (([] : List Ref).flatMap encRef) (encStt F.st)) :: Wc :: acs.flatten :: dcs.flatten :: Qc :: Jc :: jcs.flatten :: H :: F0) ∧ i ≤ wn ∧ (zs = F.ws.take i) ∧ (zs.length ≤ i) ∧ OwnT encWkr 69 7 azs nzs kzs zs czs) (fun ⟨i, zs, azs, nzs, kzs, czs⟩ => wn - i) (0, [], none, 0, 0, []) ⟨p0, om, rfl, (by simp), q0⟩ ?_
 rintro ⟨i, zs, azs, nzs, kzs, czs⟩ ρ _ ⟨c0, hi, hz, hzl, hOzs⟩
 have hn_zs := hOzs.len; have hl_zs := hOzs.le
 refine sR <| pu1 <| nT <| seqE ?_
 refine cD (((i : Nat) : Int) < ((wn : Nat) : Int)) (fun r0 => ?_) (fun r0 => ?_)
 rotate_left
 ·refine exitE <| xB <| thenK_n <| sR <| pu2 <| nT <| retE <| retT [.slice azs nzs kzs] ?_
  have hzf : zs = F.ws := by rw [hz, List.take_of_length_le om]
  have hOf := hOzs; rw [hzf] at hOf
  have s0 := (c0.picks [7, 7, 7, 7, 7, 7, 7])
  have t0 := ((s0.merge7).pick 1 rfl)
  exact ⟨_, _, _, _, rfl, hOf, t0⟩
 refine kT <| seqE <| blockE <| sR <| pu2 <| nT <| sR <| pu3 ?_
 refine sLp c0 (ptr_up 1 rfl tri_pre) 8 (.slice (some ⟨wb, wo, none⟩) wn wk) (Tryz.isAgg81 _) ?_
 refine pu1 ?_
 refine sIdxO hOw ((i : Nat) : Int) i Tryz.runUnderlying81 Tryz.sizeOf93 ?_
 intro a0 _ _ j0 b0 u0
 obtain ⟨rfl, rfl⟩ := some_addr u0
 obtain ⟨v0, k0, w0, x0, y0, z0, a1⟩ := core_at hco j0
 refine pu1 <| nT ?_
 refine drawE [21, 26, 28, 29] [(4, ⟨wb, wo + i * 7 + 0, none⟩, I a0.phase), (8, ⟨wb, wo + i * 7 + 1 + 0, none⟩, I a0.heldJob), (8, ⟨wb, wo + i * 7 + 1 + 1, none⟩, I a0.heldTask), (12, ⟨wb, wo + i * 7 + 3, none⟩, I a0.attempt), (16, ⟨wb, wo + i * 7 + 4, none⟩, I a0.row), (20, ⟨wb, wo + i * 7 + 5, none⟩, .pointer (some ⟨a0.a, 0, none⟩)), (25, ⟨wb, wo + i * 7 + 5, none⟩, .pointer (some ⟨a0.a, 0, none⟩))] [(true, [0, 1, 2, 3, 5, 6, 7, 9, 10, 11, 13, 14, 15, 17, 18, 19, 22, 23, 24]), (true, [4]), (true, [8]), (true, [12]), (true, [16]), (true, [20]), (true, [25]), (false, [21]), (false, [26]), (true, [27]), (false, [28]), (false, [29]), (true, [30])] rfl kr ⟨.inr ((b0.up 2 rfl).cell c0 (k := 0) rfl), .inr ((b0.up 2 rfl).cell c0 (k := 1) rfl), .inr ((b0.up 2 rfl).cell c0 (k := 2) rfl), .inr ((b0.up 2 rfl).cell c0 (k := 3) rfl), .inr ((b0.up 2 rfl).cell c0 (k := 4) rfl), .inr ((b0.up 2 rfl).cell c0 (k := 5) rfl), .inr ((b0.up 2 rfl).cell c0 (k := 5) rfl), trivial⟩ ?_
 have b1 := c0.drew
 refine wU [0, 1, 2, 3, 5, 6, 7, 9, 10, 11, 13, 14, 15, 17, 18, 19, 22, 23, 24] ?_
 refine wLd (I a0.phase) 0 Tryz.isAgg3 ?_
 refine wY (.agg #[I a0.heldJob, I a0.heldTask]) rfl (fun w hF => Y_loadF rfl (Tryz.isAgg60 w) (Tryz.sizeOf60 w) kr rfl ⟨hF 1 _ _ rfl, hF 2 _ _ rfl, trivial⟩) ?_
 refine wLd (I a0.attempt) 3 Tryz.isAgg3 ?_
 refine wLd (I a0.row) 4 Tryz.isAgg3 ?_
 refine wLd (.pointer (some ⟨a0.a, 0, none⟩)) 5 Tryz.isAgg86 ?_
 refine wLd (.pointer (some ⟨a0.a, 0, none⟩)) 6 Tryz.isAgg86 ?_
 refine wO rfl ?_
 obtain ⟨h0, c1, d1, l0, e1⟩ := Obs.get hAs (map_at' j0)
 have f1 := (b1.pick 3 rfl)
 have g1 := Sat.openN (A := []) i l0 f1
 refine cX Tryz.call102 (pa_used e1  (Sat.flat1 g1)) ?_
 rintro _ _ ⟨rfl, h1⟩
 have i1 := Sat.unflat1 h1
 have j1 := (i1.picks [1, 1])
 have d0 := Sat.shutN (d := c1) (A := []) i l0 j1
 rw [set_same l0] at d0
 refine nilO ⟨⟨.inr ((b0.up 3 rfl).cell d0 (k := 0) rfl), .inr ((b0.up 3 rfl).cell d0 (k := 1) rfl), .inr ((b0.up 3 rfl).cell d0 (k := 2) rfl), .inr ((b0.up 3 rfl).cell d0 (k := 3) rfl), .inr ((b0.up 3 rfl).cell d0 (k := 4) rfl), dI, .inr ((b0.up 3 rfl).cell d0 (k := 5) rfl), trivial⟩, ?_⟩
 refine wO rfl ?_
 obtain ⟨i0, k1, l1, m0, m1⟩ := Obs.get hAs (map_at' j0)
 have n1 := Sat.openN (A := []) i m0 d0
 refine cX Tryz.call103 (pa_high m1  (Sat.flat1 n1)) ?_
 rintro _ _ ⟨rfl, o1⟩
 have p1 := Sat.unflat1 o1
 have q1 := (p1.picks [1, 1])
 have e0 := Sat.shutN (d := k1) (A := []) i m0 q1
 rw [set_same m0] at e0
 refine nilO ⟨⟨.inr ((b0.up 3 rfl).cell e0 (k := 0) rfl), .inr ((b0.up 3 rfl).cell e0 (k := 1) rfl), .inr ((b0.up 3 rfl).cell e0 (k := 2) rfl), .inr ((b0.up 3 rfl).cell e0 (k := 3) rfl), .inr ((b0.up 3 rfl).cell e0 (k := 4) rfl), dI, dI, trivial⟩, ?_⟩
 refine wU [27] ?_
 refine wO rfl ?_
 refine sBS e0 #[I a0.phase, I a0.heldJob, I a0.heldTask, I a0.attempt, I a0.row, I ((h0).used), I ((i0).high)] Tryz.runUnderlying66 Tryz.sizeOf69 Tryz.zeroValue69 ?_
 intro _ _ f0
 refine nilO ⟨⟨.inr ((b0.up 4 rfl).cell f0 (k := 0) rfl), .inr ((b0.up 4 rfl).cell f0 (k := 1) rfl), .inr ((b0.up 4 rfl).cell f0 (k := 2) rfl), .inr ((b0.up 4 rfl).cell f0 (k := 3) rfl), .inr ((b0.up 4 rfl).cell f0 (k := 4) rfl), dI, dI, trivial⟩, ?_⟩
 refine wO rfl ?_
 refine sApp (nb := 56) f0 hOzs 2 (RdT.blk (enc := encWkr) (sz := 7) (xs := [(⟨a0.phase, a0.heldJob, a0.heldTask, a0.attempt, a0.row, (h0).used, (i0).high⟩ : Wkr)]) fR 1 0 rfl rfl rfl om) Tryz.underlying66 (i := Tryz.t69) kr fR ?_
 intro r1 s1 t1 _ u1 g0
 refine nilO ⟨⟨.inr ((b0.up 4 rfl).cell g0 (k := 0) rfl), .inr ((b0.up 4 rfl).cell g0 (k := 1) rfl), .inr ((b0.up 4 rfl).cell g0 (k := 2) rfl), .inr ((b0.up 4 rfl).cell g0 (k := 3) rfl), .inr ((b0.up 4 rfl).cell g0 (k := 4) rfl), dI, dI, trivial⟩, ?_⟩
 refine wU [30] ?_
 refine wN ?_
 refine blockK_n <| thenK_n <| regionE ?_
 refine sAdd ((i : Nat) : Int) 1 ?_
 refine pu1 <| nT ?_
 have hA9 := hF.a.a _ _ _ k0 l1; have hA8 := hF.a.a _ _ _ k0 d1; have hlit : (⟨a0.phase, a0.heldJob, a0.heldTask, a0.attempt, a0.row, (h0).used, (i0).high⟩ : Wkr) = v0 := wkr_eq w0 x0 y0 z0 a1 hA8.u.symm hA9.h.symm
 have v1 := ((g0.picks [4, 4, 4]).dropAt 3 rfl)
 exact ⟨(i + 1, (zs ++ [(⟨a0.phase, a0.heldJob, a0.heldTask, a0.attempt, a0.row, (h0).used, (i0).high⟩ : Wkr)]), r1, (nzs + 1), s1, t1), od, alA, v1, om, (by rw [hlit, hz, take_succ_at k0]), (by first | omega | (simp; omega)), u1⟩
end Go.Proofs.YtegmennaekipaaaGreat

namespace Go.Proofs.YtegmennaekipaaaGreat
open Go Go.E
set_option linter.unusedVariables false
set_option linter.unusedSimpArgs false
set_option linter.unnecessarySimpa false
set_option maxRecDepth 100000
set_option maxHeartbeats 2000000
variable {W w : World} {H : Chunk} {F : List Chunk}
/-! ### the farm's calls, for tasks as values; what stays so -/
def newBV (l : List TaskV) : BS := ⟨l.map (·.deps), l.map (fun t => st0 t.deps), l.map (fun _ => 0)⟩
def addV (F : FS) (x : Int) (l : List TaskV) (bd : Int) : FS := { F with jobs := F.jobs.set x.toNat ⟨true, true, bd, l, newBV l⟩, q := readyQ x bd F.q (idxOf 2 0 (newBV l).st) }
def normC (n : Nat) (c : Int) : Int := if c.tmod n < 0 then c.tmod n + n else c.tmod n
theorem norm_bd {n : Nat} {c : Int} (hn : 0 < n) : 0 ≤ normC n c ∧ normC n c < ((n : Nat) : Int) := by
  have h1 : -((n : Nat) : Int) < c.tmod n := Int.lt_tmod_of_pos _ (by omega)
  have h2 : c.tmod n < ((n : Nat) : Int) := Int.tmod_lt_of_pos _ (by omega)
  unfold normC; split <;> omega
def addedN (F : FS) : Nat := ((shapeF F.jobs).filter (·.1)).length
structure FJ (F : FS) (K : Int) (n : Nat) : Prop where
  i : FI F K
  t : F12 F
  n : addedN F ≤ n
  h : F.st.held = 0
theorem runK_len_take (jobs : List JS) : ∀ n, n ≤ jobs.length → ((allK n).filter (runJ9 jobs)).length = ((jobs.take n).filter (·.running)).length
 | 0, _ => rfl
 | n + 1, h => by
  have ih := runK_len_take jobs n om
  have hj : jobs[n]? = some jobs[n] := List.getElem?_eq_getElem om
  rw [take_succ_at hj, List.filter_append, List.length_append, ← ih]
  unfold allK
  rw [List.range_succ, List.map_append, List.filter_append, List.length_append]
  congr 1
  simp only [List.map_cons, List.map_nil, List.filter_cons, List.filter_nil]
  have : runJ9 jobs ((n : Nat) : Int) = jobs[n].running := by unfold runJ9; rw [Int.toNat_natCast, getD_some hj]
  rw [this]; split <;> rfl
theorem run_le {F : FS} {K : Int} (h : FW F K) : (runK F.jobs).length ≤ addedN F := by
 unfold runK
 rw [runK_len_take F.jobs 64 (by rw [h.jl]; exact Nat.le_refl _), List.take_of_length_le (by rw [h.jl]; exact Nat.le_refl _)]
 unfold addedN shapeF
 rw [List.filter_map, List.length_map]
 have : ∀ l : List JS, (∀ j ∈ l, j.running = true → j.added = true) → (l.filter (·.running)).length ≤ (l.filter ((·.1) ∘ fun j => (j.added, j.tasks.length))).length := by
  intro l
  induction l with
  | nil => intro _; exact Nat.le_refl _
  | cons j l ih =>
   intro hl
   have h1 := ih fun y hy => hl y (List.mem_cons_of_mem _ hy)
   have h2 := hl j List.mem_cons_self
   simp only [List.filter_cons, Function.comp]
   cases hr : j.running
   ·simp only [Bool.false_eq_true, if_false]
    split
    ·rw [List.length_cons]; exact Nat.le_succ_of_le h1
    ·exact h1
   ·have h3 := h2 hr
    simp only [h3, if_true, List.length_cons]; exact Nat.succ_le_succ h1
 exact this F.jobs fun j hj => (h.j j hj).r
theorem FJ.r12 {F : FS} {K : Int} {n : Nat} (h : FJ F K n) (hn : n ≤ 12) : (runK F.jobs).length ≤ 12 := Nat.le_trans (run_le h.i.fw) (Nat.le_trans h.n hn)
theorem spill_held {x job band : Int} : ∀ (l : List Int) {F : FS}, (spillF F x job band l).st.held = F.st.held
  | [], _ => rfl
  | t :: l, F => by
    have h : (spill1 F x ⟨job, t⟩ band).st.held = F.st.held := by unfold spill1; split <;> rfl
    exact (spill_held l).trans h
theorem micro_held {F : FS} {x : Int} : (microF F x).1.st.held = F.st.held := by
  unfold microF
  simp only
  split
  · rfl
  · split
    · rfl
    · split <;> exact spill_held _
theorem acq_held {F F' : FS} {x c : Int} {ev : Evt} (he : acqF F x c = some (F', ev)) : F'.st.held = F.st.held := by
  unfold acqF at he
  split at he
  · obtain ⟨rfl, _⟩ := Prod.mk.inj (Option.some.inj he); rfl
  · split at he
    · obtain ⟨rfl, _⟩ := Prod.mk.inj (Option.some.inj he); rfl
    · unfold stealF at he
      split at he
      · cases he
      · split at he
        · cases he
        · obtain ⟨rfl, _⟩ := Prod.mk.inj (Option.some.inj he); rfl
theorem step_held {F : FS} {x c : Int} : (stepF F x c).1.st.held = F.st.held := by
  unfold stepF
  split
  · rfl
  · split
    · rfl
    · split
      · split
        · exact micro_held
        · rfl
      · unfold restF
        split
        · rename_i q hq; exact acq_held (ev := q.2) hq
        · split
          · exact micro_held
          · rfl
theorem ret_held9 {F : FS} {v : Wkr} : (retJ F v).st = F.st := by unfold retJ; split <;> rfl
theorem crash_held {F : FS} {x : Int} : (crashF F x).1.st.held = F.st.held := by
  unfold crashF
  split
  · rfl
  · split
    · rfl
    · show (retJ F (wAt F x)).st.held = _; rw [ret_held9]
theorem restart_held {F : FS} {x : Int} : (restartF F x).1.st.held = F.st.held := by
  unfold restartF
  split
  · rfl
  · split <;> rfl
theorem cancel_held {F : FS} {x : Int} : (cancelF F x).1.st.held = F.st.held := by
  unfold cancelF
  split
  · rfl
  · split <;> rfl
theorem FJ.op {F G : FS} {K L : Int} {n : Nat} (h : FJ F K n) (hi : FI G L) (hs : shapeF G.jobs = shapeF F.jobs) (hh : G.st.held = F.st.held) : FJ G L n := ⟨hi, h.t.of hs, by unfold addedN; rw [hs]; exact h.n, hh.trans h.h⟩
theorem FJ.step {F : FS} {K x c : Int} {n : Nat} (h : FJ F K n) (hK : K + 1 ≤ 4096) : FJ (stepF F x c).1 (K + 1) n := h.op (h.i.step hK) (step_ok h.i.fw h.i.st hK).2.2 step_held
theorem FJ.crash {F : FS} {K x : Int} {n : Nat} (h : FJ F K n) (hK : K + 1 ≤ 4096) : FJ (crashF F x).1 (K + 1) n := h.op (h.i.crash hK) (crash_ok h.i.fw h.i.st hK).2.2 crash_held
theorem FJ.restart {F : FS} {K x : Int} {n : Nat} (h : FJ F K n) (hK : K + 1 ≤ 4096) : FJ (restartF F x).1 (K + 1) n := h.op (h.i.restart hK) (restart_ok h.i.fw h.i.st hK).2.2 restart_held
theorem FJ.cancel {F : FS} {K x : Int} {n : Nat} (h : FJ F K n) (hK : K + 1 ≤ 4096) : FJ (cancelF F x).1 (K + 1) n := h.op (h.i.cancel hK) (cancel_ok h.i.fw h.i.st hK).2.2 cancel_held
theorem filter_set {S : List (Bool × Nat)} : ∀ {k : Nat} {q : Bool × Nat}, ((S.set k q).filter (·.1)).length ≤ (S.filter (·.1)).length + 1 := by
  induction S with
  | nil => intro k q; simp
  | cons x S ih =>
    intro k q
    cases k with
    | zero => simp only [List.set_cons_zero, List.filter_cons]; split <;> split <;> (first | omega | (simp only [List.length_cons]; omega))
    | succ k =>
      have := ih (k := k) (q := q)
      simp only [List.set_cons_succ, List.filter_cons]; split <;> (first | omega | (simp only [List.length_cons]; omega))
theorem FJ.add {F : FS} {K x bd : Int} {n : Nat} {l : List Task} {j : JS} (h : FJ F K n) (hx : 0 ≤ x ∧ x < 64) (hj : F.jobs[x.toNat]? = some j) (ha : j.added = false) (hb : 0 ≤ bd ∧ bd < 4) (hv : validC l = 0) (hs : ∀ z ∈ l, z.scratch ≤ F.cfg.arena) (htk : ((l.length : Nat) : Int) ≤ F.cfg.tasks - loadL F.jobs) (hl : l.length ≤ 12) : FJ (addF F x l bd) K (n + 1) := by
 have e : shapeF (addF F x l bd).jobs = (shapeF F.jobs).set x.toNat (true, l.length) := by simp only [addF, shapeF, List.map_set, jobN, List.length_map]
 refine ⟨h.i.add hx hj ha hb hv hs htk, ?_, ?_, h.h⟩
 ·unfold F12; rw [e]
  intro q hq
  rcases List.mem_or_eq_of_mem_set hq with h1 | rfl
  ·exact h.t q h1
  ·exact hl
 ·have h1 := filter_set (S := shapeF F.jobs) (k := x.toNat) (q := (true, l.length))
  have h2 := h.n
  unfold addedN at *; rw [e]; omega
theorem FJ.new {c : Cfg} (hv : validCfg c = 0) : FJ (newF c) 0 0 := by
  refine ⟨FI.new hv, ?_, ?_, rfl⟩
  · intro q hq
    simp only [newF, shapeF, List.map_replicate] at hq
    obtain rfl := List.eq_of_mem_replicate hq
    exact Nat.zero_le _
  · have : addedN (newF c) = 0 := rfl
    rw [this]; exact Nat.le_refl _
theorem FJ.mono {F : FS} {K L : Int} {n m : Nat} (h : FJ F K n) (hk : K ≤ L) (hL : L ≤ 4096) (hn : n ≤ m) : FJ F L m := ⟨h.i.mono hk hL, h.t, Nat.le_trans h.n hn, h.h⟩
end Go.Proofs.YtegmennaekipaaaGreat

namespace Go.Proofs.YtegmennaekipaaaGreat
open Go Go.E
set_option linter.unusedVariables false
set_option linter.unusedSimpArgs false
set_option linter.unnecessarySimpa false
set_option maxRecDepth 100000
set_option maxHeartbeats 2000000
variable {W w : World} {H : Chunk} {F : List Chunk}
/-! ### the farms of the laws, as values -/
end Go.Proofs.YtegmennaekipaaaGreat

namespace Go.Proofs.YtegmennaekipaaaGreat
open Go Go.E
set_option linter.unusedVariables false
set_option linter.unusedSimpArgs false
set_option linter.unnecessarySimpa false
set_option maxRecDepth 100000
set_option maxHeartbeats 2000000
variable {W w : World} {H : Chunk} {F : List Chunk}
theorem r_has {p : Nat} {B : BS} {K : Int} {M : Chunk} (hB : RefR p B M) (hW : BWf B K) (i : Int) (hS : Sat W w (M :: H :: F)) :
  Calls Tryz.prog 152 #[Pt p 0, I i] w fun e w' => e = .returned (.bool (decide (inB B i))) ∧ Sat W w' (M :: H :: F) := by
 refine callsA 20 Tryz.func152 rfl ?_
 refine sR <| pu1 <| nT <| seqE ?_
 have b0 := (hS.picks [1, 1])
 obtain ⟨a, n, k, ts, sa, sn, sk, ta, tn, tk, c, G, cs, ct, rfl, hO, hD, hOs, hOt, hdp⟩ := hB
 have a0 : Sat W _ ([(p, .cells #[.slice a n k, .slice sa sn sk, .slice ta tn tk] 169 (0, 0))] :: c :: G :: cs :: ct :: H :: F) := Sat.perm b0 (by simp)
 have hlo := hO.le; have hln := hO.len; have hls := hOs.le; have hlns := hOs.len; have hlt := hOt.le; have hlnt := hOt.len; have hld := congrArg List.length hdp; rw [List.length_map] at hld; have hw1 := hW.ls; have hw2 := hW.la; have hw3 := hW.n0
 refine regionE <| pu7 ?_
 refine sD 11 (i ≥ 0) (fun c0 => ?_) (fun c0 => ?_)
 rotate_left
 ·refine pu9 <| nT <| retE <| retT [.bool false] ?_
  have d0 : Sat W _ (([(p, .cells #[.slice a n k, .slice sa sn sk, .slice ta tn tk] 169 (0, 0))] ++ (c ++ (G ++ (cs ++ ct)))) :: H :: F) := Sat.perm a0 (by simp)
  exact ⟨congrArg (fun b => Ending.returned (.bool b)) (decide_eq_false (by unfold inB; omega)).symm, d0⟩
 refine pu4 <| gY ?_
 refine sL a0 0 0 (.slice a n k) (Tryz.isAgg39 _) ?_
 refine pu4 <| nT <| retE <| retT [.bool (decide ((i : Int) < ((n : Nat) : Int)))] ?_
 have e0 : Sat W _ (([(p, .cells #[.slice a n k, .slice sa sn sk, .slice ta tn tk] 169 (0, 0))] ++ (c ++ (G ++ (cs ++ ct)))) :: H :: F) := Sat.perm a0 (by simp)
 exact ⟨congrArg (fun b => Ending.returned (.bool b)) (decide_eq_decide.2 (by unfold inB; omega)), e0⟩
theorem r_held {p : Nat} {B : BS} {K : Int} {M : Chunk} (hB : RefR p B M) (hW : BWf B K) (i : Int) (m : Int) (hS : Sat W w (M :: H :: F)) :
  Calls Tryz.prog 116 #[Pt p 0, I i, I m] w fun e w' => e = .returned (I (heldC B i m)) ∧ Sat W w' (M :: H :: F) := by
 refine callsA 30 Tryz.func116 rfl ?_
 refine sR <| pu1 <| nT <| seqE <| sR <| pu2 ?_
 refine cX Tryz.call152 (r_has hB hW i (Sat.flat1 hS)) ?_
 rintro _ _ ⟨rfl, f0⟩
 have e0 := Sat.unflat1 f0
 refine pu1 <| nT ?_
 refine cDn (inB B i) (fun b0 => ?_) (fun b0 => ?_)
 rotate_left
 ·refine sR <| pu1 <| nT <| retE <| thenK_r <| retT [I 16] ?_
  exact ⟨by unfold heldC; rw [if_neg b0]; rfl, e0⟩
 refine kT <| seqE <| seqE ?_
 have g0 := (e0.picks [1, 1])
 obtain ⟨a, n, k, ts, sa, sn, sk, ta, tn, tk, c, G, cs, ct, rfl, hO, hD, hOs, hOt, hdp⟩ := hB
 have a0 : Sat W _ ([(p, .cells #[.slice a n k, .slice sa sn sk, .slice ta tn tk] 169 (0, 0))] :: c :: G :: cs :: ct :: H :: F) := Sat.perm g0 (by simp)
 have hlo := hO.le; have hln := hO.len; have hls := hOs.le; have hlns := hOs.len; have hlt := hOt.le; have hlnt := hOt.len; have hld := congrArg List.length hdp; rw [List.length_map] at hld; have hw1 := hW.ls; have hw2 := hW.la; have hw3 := hW.n0
 have hib : 0 ≤ i ∧ i < ((B.deps.length : Nat) : Int) := b0; have hsg := stAt_nat B.st hib.1
 refine regionE <| pu3 ?_
 refine sL a0 0 1 (.slice sa sn sk) (Tryz.isAgg22 _) ?_
 refine pu1 ?_
 refine sIdxO hOs i (i).toNat Tryz.runUnderlying22 Tryz.sizeOf3 ?_
 intro c0 _ _ h0 i0 _
 have v0 : B.st.getD i.toNat 0 = c0 := by rw [List.getD_eq_getElem?_getD, h0]; rfl
 refine sLp a0 (i0.up 3 rfl) 0 (I c0) (Tryz.isAgg3 _) ?_
 refine pu2 ?_
 refine sN 19 c0 3 (fun j0 => ?_) (fun j0 => ?_)
 rotate_left
 ·refine pu10 <| nT <| cTt <| sR <| pu1 <| nT <| retE <| thenK_r <| retT [I 20] ?_
  have k0 : Sat W _ (([(p, .cells #[.slice a n k, .slice sa sn sk, .slice ta tn tk] 169 (0, 0))] ++ (c ++ (G ++ (cs ++ ct)))) :: H :: F) := Sat.perm a0 (by simp)
  exact ⟨by unfold heldC; rw [if_pos b0, if_neg (by rw [hsg]; omega)]; rfl, k0⟩
 refine pu3 <| gY ?_
 refine sL a0 0 2 (.slice ta tn tk) (Tryz.isAgg22 _) ?_
 refine pu1 <| gY ?_
 refine sIdxO hOt i (i).toNat Tryz.runUnderlying22 Tryz.sizeOf3 ?_
 intro d0 _ _ l0 m0 _
 have z0 : B.att.getD i.toNat 0 = d0 := by rw [List.getD_eq_getElem?_getD, l0]; rfl
 refine gY ?_
 refine sLp a0 (m0.up 4 rfl) 0 (I d0) (Tryz.isAgg3 _) ?_
 refine pu3 <| nT ?_
 refine cN d0 m (fun o0 => ?_) (fun o0 => ?_)
 rotate_left
 ·refine sR <| pu1 <| nT <| retE <| thenK_r <| retT [I 20] ?_
  have p0 : Sat W _ (([(p, .cells #[.slice a n k, .slice sa sn sk, .slice ta tn tk] 169 (0, 0))] ++ (c ++ (G ++ (cs ++ ct)))) :: H :: F) := Sat.perm a0 (by simp)
  exact ⟨by unfold heldC; rw [if_pos b0, if_neg (by rw [hsg]; omega)]; rfl, p0⟩
 refine kT <| sR <| pu1 <| nT <| retE <| retT [I 0] ?_
 have q0 : Sat W _ (([(p, .cells #[.slice a n k, .slice sa sn sk, .slice ta tn tk] 169 (0, 0))] ++ (c ++ (G ++ (cs ++ ct)))) :: H :: F) := Sat.perm a0 (by simp)
 exact ⟨by unfold heldC; rw [if_pos b0, if_pos (by rw [hsg]; omega)]; rfl, q0⟩
theorem st_out2 {B : BS} {K i : Int} (hW : BWf B K) (h : ¬ inB B i) : stAt B.st i = 0 := by
  have hl := hW.ls
  unfold stAt
  split
  · rw [List.getD_eq_getElem?_getD, List.getElem?_eq_none (by unfold inB at h; omega)]; rfl
  · rfl
theorem r_state {p : Nat} {B : BS} {K : Int} {M : Chunk} (hB : RefR p B M) (hW : BWf B K) (i : Int) (hS : Sat W w (M :: H :: F)) :
  Calls Tryz.prog 148 #[Pt p 0, I i] w fun e w' => e = .returned (I (stAt B.st i)) ∧ Sat W w' (M :: H :: F) := by
 refine callsA 16 Tryz.func148 rfl ?_
 refine sR <| pu1 <| nT <| seqE <| sR <| pu2 ?_
 refine cX Tryz.call152 (r_has hB hW i (Sat.flat1 hS)) ?_
 rintro _ _ ⟨rfl, e0⟩
 have d0 := Sat.unflat1 e0
 refine pu1 <| nT ?_
 refine cDn (inB B i) (fun a0 => ?_) (fun a0 => ?_)
 rotate_left
 ·refine sR <| pu1 <| nT <| retE <| thenK_r <| retT [I 0] ?_
  exact ⟨by rw [st_out2 hW a0]; rfl, d0⟩
 refine kT <| seqE ?_
 have f0 := (d0.picks [1, 1])
 obtain ⟨a, n, k, ts, sa, sn, sk, ta, tn, tk, c, G, cs, ct, rfl, hO, hD, hOs, hOt, hdp⟩ := hB
 have b0 : Sat W _ ([(p, .cells #[.slice a n k, .slice sa sn sk, .slice ta tn tk] 169 (0, 0))] :: c :: G :: cs :: ct :: H :: F) := Sat.perm f0 (by simp)
 have hlo := hO.le; have hln := hO.len; have hls := hOs.le; have hlns := hOs.len; have hlt := hOt.le; have hlnt := hOt.len; have hld := congrArg List.length hdp; rw [List.length_map] at hld; have hw1 := hW.ls; have hw2 := hW.la; have hw3 := hW.n0
 have hib : 0 ≤ i ∧ i < ((B.deps.length : Nat) : Int) := a0; have hsg := stAt_nat B.st hib.1
 refine regionE <| pu3 ?_
 refine sL b0 0 1 (.slice sa sn sk) (Tryz.isAgg22 _) ?_
 refine pu1 ?_
 refine sIdxO hOs i (i).toNat Tryz.runUnderlying22 Tryz.sizeOf3 ?_
 intro c0 _ _ g0 h0 _
 have o0 : B.st.getD i.toNat 0 = c0 := by rw [List.getD_eq_getElem?_getD, g0]; rfl
 refine sLp b0 (h0.up 3 rfl) 0 (I c0) (Tryz.isAgg3 _) ?_
 refine pu1 <| nT <| retE <| retT [I c0] ?_
 have i0 : Sat W _ (([(p, .cells #[.slice a n k, .slice sa sn sk, .slice ta tn tk] 169 (0, 0))] ++ (c ++ (G ++ (cs ++ ct)))) :: H :: F) := Sat.perm b0 (by simp)
 exact ⟨congrArg (fun z => Ending.returned (I z)) (by rw [hsg]; omega), i0⟩
theorem r_with {p : Nat} {B : BS} {K : Int} {M : Chunk} (hB : RefR p B M) (hW : BWf B K) (y : Int) (hS : Sat W w (M :: H :: F)) :
  Calls Tryz.prog 111 #[Pt p 0, I y] w fun e w' => ∃ (az : Option Addr) (nz kz : Nat) (Z : Chunk), e = .returned (.slice az nz kz) ∧ RdT encI 1 [Z] az nz kz (idxOf y 0 B.st) ∧ Sat W w' (Z :: M :: H :: F) := by
 have d0 := (hS.picks [1, 1])
 obtain ⟨a, n, k, ts, sa, sn, sk, ta, tn, tk, c, G, cs, ct, rfl, hO, hD, hOs, hOt, hdp⟩ := hB
 have e0 : Sat W _ ([(p, .cells #[.slice a n k, .slice sa sn sk, .slice ta tn tk] 169 (0, 0))] :: c :: G :: cs :: ct :: H :: F) := Sat.perm d0 (by simp)
 have hlo := hO.le; have hln := hO.len; have hls := hOs.le; have hlns := hOs.len; have hlt := hOt.le; have hlnt := hOt.len; have hld := congrArg List.length hdp; rw [List.length_map] at hld; have hw1 := hW.ls; have hw2 := hW.la; have hw3 := hW.n0
 refine callsA 34 Tryz.func111 rfl ?_
 refine sR <| pu1 <| nT <| sR <| pu1 <| nT <| seqE <| sR <| pu1 <| nT <| blockE ?_
 have f0 := Sat.nilc e0
 have g0 := OwnT.nil (enc := encI) (E := 3) (sz := 1) fR
 refine loopA (γ := Nat × (List Int) × (Option Addr) × Nat × Nat × Chunk) (fun ⟨i, zs, azs, nzs, kzs, czs⟩ => [(0, Pt p 0), (1, I y), (6, I ((i : Nat) : Int)), (5, .slice azs nzs kzs)]) (fun ⟨i, zs, azs, nzs, kzs, czs⟩ w => Sat W w (czs :: [(p, .cells #[.slice a n k, .slice sa sn sk, .slice ta tn tk] 169 (0, 0))] :: c :: G :: cs :: ct :: H :: F) ∧ i ≤ sn ∧ (zs = idxOf y 0 (B.st.take i)) ∧ (zs.length ≤ i) ∧ OwnT encI 3 1 azs nzs kzs zs czs) (fun ⟨i, zs, azs, nzs, kzs, czs⟩ => sn - i) (0, [], none, 0, 0, []) ⟨f0, om, rfl, by simp, g0⟩ ?_
 rintro ⟨i, zs, azs, nzs, kzs, czs⟩ ρ _ ⟨a0, hi, hz, hzl, hOzs⟩
 have hn_zs := hOzs.len; have hl_zs := hOzs.le
 refine seqE <| sR <| pu7 <| gY ?_
 refine sL a0 1 1 (.slice sa sn sk) (Tryz.isAgg22 _) ?_
 refine pu3 <| nT ?_
 refine cD (((i : Nat) : Int) < ((sn : Nat) : Int)) (fun h0 => ?_) (fun h0 => ?_)
 rotate_left
 ·refine exitE <| xB <| thenK_n <| sR <| pu2 <| nT <| retE <| retT [.slice azs nzs kzs] ?_
  have i0 : Sat W _ (czs :: ([(p, .cells #[.slice a n k, .slice sa sn sk, .slice ta tn tk] 169 (0, 0))] ++ (c ++ (G ++ (cs ++ ct)))) :: H :: F) := Sat.perm a0 (by simp)
  have hrd := (hOzs.rdAt (cs := [czs]) 0 rfl); rw [hz, List.take_of_length_le om] at hrd
  exact ⟨_, _, _, _, rfl, hrd, i0⟩
 refine kT <| seqE <| blockE <| sR <| pu3 ?_
 refine sL a0 1 1 (.slice sa sn sk) (Tryz.isAgg22 _) ?_
 refine pu1 ?_
 refine sIdxO hOs ((i : Nat) : Int) i Tryz.runUnderlying22 Tryz.sizeOf3 ?_
 intro b0 _ _ c0 j0 _
 refine sLp a0 (j0.up 4 rfl) 0 (I b0) (Tryz.isAgg3 _) ?_
 refine pu2 <| nT ?_
 refine cE b0 y (fun k0 => ?_) (fun k0 => ?_)
 rotate_left
 ·refine skipE <| blockK_n <| thenK_n <| regionE <| pu1 ?_
  refine sAdd ((i : Nat) : Int) 1 ?_
  refine pu1 <| nT ?_
  exact ⟨(i + 1, zs, azs, nzs, kzs, czs), od, alA, a0, om, (idx_n hz om (by rw [getD_at c0]; omega)), (by first | omega | (simp; omega)), hOzs⟩
 refine regionE <| pu2 ?_
 refine sBS a0 #[I ((i : Nat) : Int)] Tryz.runUnderlying22 Tryz.sizeOf3 Tryz.zeroValue3 ?_
 intro _ _ l0
 refine sApp (nb := 8) l0 hOzs 1 (RdT.blk (enc := encI) (sz := 1) (xs := [((i : Nat) : Int)]) fR 1 0 rfl rfl rfl om) Tryz.underlying22 (i := Tryz.t3) kr fR ?_
 intro m0 o0 p0 _ q0 r0
 refine pu1 <| nB <| regionE <| pu1 ?_
 refine sAdd ((i : Nat) : Int) 1 ?_
 refine pu1 <| nT ?_
 have s0 := (r0.dropAt 0 rfl)
 exact ⟨(i + 1, (zs ++ [((i : Nat) : Int)]), m0, (nzs + 1), o0, p0), od, alA, s0, om, (idx_y hz om (by rw [getD_at c0]; omega)), (by first | omega | (simp; omega)), q0⟩
theorem r_ready {p : Nat} {B : BS} {K : Int} {M : Chunk} (hB : RefR p B M) (hW : BWf B K)  (hS : Sat W w (M :: H :: F)) :
  Calls Tryz.prog 59 #[Pt p 0] w fun e w' => ∃ (az : Option Addr) (nz kz : Nat) (Z : Chunk), e = .returned (.slice az nz kz) ∧ RdT encI 1 [Z] az nz kz (idxOf 2 0 B.st) ∧ Sat W w' (Z :: M :: H :: F) := by
 refine callsA 5 Tryz.func59 rfl ?_
 refine sR <| pu1 <| nT <| sR <| pu1 ?_
 refine cX Tryz.call111 (r_with hB hW 2 (Sat.flat1 hS)) ?_
 rintro _ _ ⟨b0, c0, d0, _, rfl, a0, e0⟩
 have f0 := Sat.unflat2 e0; have hn_az_4 := a0.len
 refine pu1 <| nT <| retE <| retT [.slice b0 c0 d0] ?_
 exact ⟨_, _, _, _, rfl, a0, f0⟩
theorem r_done {p : Nat} {B : BS} {K : Int} {M : Chunk} (hB : RefR p B M) (hW : BWf B K)  (hS : Sat W w (M :: H :: F)) :
  Calls Tryz.prog 137 #[Pt p 0] w fun e w' => e = .returned (I (doneOf B)) ∧ Sat W w' (M :: H :: F) := by
 refine callsA 6 Tryz.func137 rfl ?_
 refine sR <| pu1 <| nT <| sR <| pu1 ?_
 refine cX Tryz.call111 (r_with hB hW 4 (Sat.flat1 hS)) ?_
 rintro _ _ ⟨_, a0, _, _, rfl, b0, c0⟩
 have d0 := Sat.unflat2 c0; have hn_az_4 := b0.len
 refine pu2 <| nT <| retE <| retT [I ((a0 : Nat) : Int)] ?_
 have e0 := (d0.dropAt 0 rfl)
 exact ⟨congrArg (fun z => Ending.returned (I z)) (by unfold doneOf; rw [← idx_len 0]; omega), e0⟩
theorem r_start {p : Nat} {B : BS} {K : Int} {M : Chunk} (hB : RefR p B M) (hW : BWf B K) (i : Int) (hS : Sat W w (M :: H :: F)) :
  Calls Tryz.prog 160 #[Pt p 0, I i] w fun e w' => ∃ M' : Chunk, e = .returned (.tuple #[I (startB B i).2.1, I (startB B i).2.2]) ∧ RefR p ((startB B i).1) M' ∧ Sat W w' (M' :: H :: F) := by
 refine callsA 31 Tryz.func160 rfl ?_
 refine sR <| pu2 <| nT <| seqE <| sR <| pu2 ?_
 refine cX Tryz.call152 (r_has hB hW i (Sat.flat1 hS)) ?_
 rintro _ _ ⟨rfl, j0⟩
 have g0 := Sat.unflat1 j0
 refine pu1 <| nT ?_
 refine cDn (inB B i) (fun b0 => ?_) (fun b0 => ?_)
 rotate_left
 ·refine sR <| pu2 <| nT <| retE <| thenK_r <| retT [I 0, I 16] ?_
  have he : startB B i = (B, 0, 16) := by unfold startB; rw [if_neg b0]
  exact ⟨_, by rw [he]; rfl, by rw [he]; exact hB, g0⟩
 refine kT <| seqE <| seqE ?_
 have k0 := (g0.picks [1, 1])
 obtain ⟨a, n, k, ts, sa, sn, sk, ta, tn, tk, c, G, cs, ct, rfl, hO, hD, hOs, hOt, hdp⟩ := hB
 have c0 : Sat W _ ([(p, .cells #[.slice a n k, .slice sa sn sk, .slice ta tn tk] 169 (0, 0))] :: c :: G :: cs :: ct :: H :: F) := Sat.perm k0 (by simp)
 have hlo := hO.le; have hln := hO.len; have hls := hOs.le; have hlns := hOs.len; have hlt := hOt.le; have hlnt := hOt.len; have hld := congrArg List.length hdp; rw [List.length_map] at hld; have hw1 := hW.ls; have hw2 := hW.la; have hw3 := hW.n0
 have hib : 0 ≤ i ∧ i < ((B.deps.length : Nat) : Int) := b0; have hsg := stAt_nat B.st hib.1
 refine regionE <| pu3 ?_
 refine sL c0 0 1 (.slice sa sn sk) (Tryz.isAgg22 _) ?_
 refine pu1 ?_
 refine sIdxO hOs i (i).toNat Tryz.runUnderlying22 Tryz.sizeOf3 ?_
 intro a0 _ _ h0 l0 _
 have z0 : B.st.getD i.toNat 0 = a0 := by rw [List.getD_eq_getElem?_getD, h0]; rfl
 refine sLp c0 (l0.up 3 rfl) 0 (I a0) (Tryz.isAgg3 _) ?_
 refine pu1 <| nT ?_
 refine cN a0 2 (fun m0 => ?_) (fun m0 => ?_)
 rotate_left
 ·refine sR <| pu2 <| nT <| retE <| thenK_r <| retT [I 0, I 20] ?_
  have o0 : Sat W _ (([(p, .cells #[.slice a n k, .slice sa sn sk, .slice ta tn tk] 169 (0, 0))] ++ (c ++ (G ++ (cs ++ ct)))) :: H :: F) := Sat.perm c0 (by simp)
  have he : startB B i = (B, 0, 20) := by unfold startB; rw [if_pos b0, if_neg (by rw [hsg]; omega)]
  exact ⟨_, by rw [he]; rfl, by rw [he]; exact ⟨_, _, _, ts, _, _, _, _, _, _, c, G, cs, ct, rfl, hO, hD, hOs, hOt, hdp⟩, o0⟩
 refine kT <| sR <| pu3 ?_
 refine sL c0 0 1 (.slice sa sn sk) (Tryz.isAgg22 _) ?_
 refine pu1 ?_
 refine sIdxO hOs i (i).toNat Tryz.runUnderlying22 Tryz.sizeOf3 ?_
 intro p0 _ _ d0 _ q0
 obtain rfl : a0 = p0 := Option.some.inj (h0.symm.trans d0)
 have d1 : B.st.getD i.toNat 0 = a0 := by rw [List.getD_eq_getElem?_getD, d0]; rfl
 refine sStF c0 hOs q0 3 (i).toNat 0 a0 3 d0 (I 3) [I 3] Tryz.sizeOf3 ?_
 intro _ i0 r0 e0
 refine nT <| sR <| pu3 ?_
 refine sL e0 0 2 (.slice ta tn tk) (Tryz.isAgg22 _) ?_
 refine pu1 ?_
 refine sIdxO hOt i (i).toNat Tryz.runUnderlying22 Tryz.sizeOf3 ?_
 intro f0 _ _ s0 t0 _
 have i1 : B.att.getD i.toNat 0 = f0 := by rw [List.getD_eq_getElem?_getD, s0]; rfl
 refine sLp e0 (t0.up 4 rfl) 0 (I f0) (Tryz.isAgg3 _) ?_
 refine pu2 <| nT <| retE <| retT [I f0, I 0] ?_
 have u0 : Sat W _ (([(p, .cells #[.slice a n k, .slice sa sn sk, .slice ta tn tk] 169 (0, 0))] ++ (c ++ (G ++ (i0 ++ ct)))) :: H :: F) := Sat.perm e0 (by simp)
 have he : startB B i = (⟨B.deps, B.st.set i.toNat 3, B.att⟩, B.att.getD i.toNat 0, 0) := by unfold startB; rw [if_pos b0, if_pos (by rw [hsg]; omega)]
 exact ⟨_, by rw [he]; exact congrArg (fun z => Ending.returned (.tuple #[I z, I 0])) (by dsimp only; omega), by rw [he]; exact ⟨_, _, _, ts, _, _, _, _, _, _, c, G, i0, ct, rfl, hO, hD, r0, hOt, hdp⟩, u0⟩
theorem r_return {p : Nat} {B : BS} {K : Int} {M : Chunk} (hB : RefR p B M) (hW : BWf B K) (i : Int) (m : Int) (hK : K ≤ 4611686018427387904) (hS : Sat W w (M :: H :: F)) :
  Calls Tryz.prog 67 #[Pt p 0, I i, I m] w fun e w' => ∃ M' : Chunk, e = .returned (I (heldC B i m)) ∧ RefR p (retB B i m) M' ∧ Sat W w' (M' :: H :: F) := by
 refine callsA 30 Tryz.func67 rfl ?_
 refine sR <| pu1 <| nT <| seqE <| sR <| pu3 ?_
 refine cX Tryz.call116 (r_held hB hW i m (Sat.flat1 hS)) ?_
 rintro _ _ ⟨rfl, l0⟩
 have e0 := Sat.unflat1 l0
 refine pu1 <| nT <| sR <| pu2 <| nT ?_
 refine cN (heldC B i m) 0 (fun b0 => ?_) (fun b0 => ?_)
 rotate_left
 ·refine sR <| pu2 <| nT <| retE <| thenK_r <| retT [I (heldC B i m)] ?_
  have hr : retB B i m = B := by unfold retB; rw [if_neg b0]
  exact ⟨_, rfl, by rw [hr]; exact hB, e0⟩
 refine kT <| seqE ?_
 have hz0 := b0; obtain ⟨hin, hst3, hatt⟩ := heldC_zero hz0
 have m0 := (e0.picks [1, 1])
 obtain ⟨a, n, k, ts, sa, sn, sk, ta, tn, tk, c, G, cs, ct, rfl, hO, hD, hOs, hOt, hdp⟩ := hB
 have f0 : Sat W _ ([(p, .cells #[.slice a n k, .slice sa sn sk, .slice ta tn tk] 169 (0, 0))] :: c :: G :: cs :: ct :: H :: F) := Sat.perm m0 (by simp)
 have hlo := hO.le; have hln := hO.len; have hls := hOs.le; have hlns := hOs.len; have hlt := hOt.le; have hlnt := hOt.len; have hld := congrArg List.length hdp; rw [List.length_map] at hld; have hw1 := hW.ls; have hw2 := hW.la; have hw3 := hW.n0
 have hib : 0 ≤ i ∧ i < ((B.deps.length : Nat) : Int) := hin; have hsg := stAt_nat B.st hib.1; have hab := hW.att _ (getD_mem (q := i.toNat) (s := B.att) om)
 refine regionE <| pu3 ?_
 refine sL f0 0 1 (.slice sa sn sk) (Tryz.isAgg22 _) ?_
 refine pu1 ?_
 refine sIdxO hOs i (i).toNat Tryz.runUnderlying22 Tryz.sizeOf3 ?_
 intro g0 _ _ h0 _ o0
 have a1 : B.st.getD i.toNat 0 = g0 := by rw [List.getD_eq_getElem?_getD, h0]; rfl
 refine sStF f0 hOs o0 3 (i).toNat 0 g0 2 h0 (I 2) [I 2] Tryz.sizeOf3 ?_
 intro _ i0 p0 c0
 refine nT <| sR <| pu3 ?_
 refine sL c0 0 2 (.slice ta tn tk) (Tryz.isAgg22 _) ?_
 refine pu1 ?_
 refine sIdxO hOt i (i).toNat Tryz.runUnderlying22 Tryz.sizeOf3 ?_
 intro a0 _ _ j0 q0 _
 have f1 : B.att.getD i.toNat 0 = a0 := by rw [List.getD_eq_getElem?_getD, j0]; rfl
 refine sLp c0 (q0.up 4 rfl) 0 (I a0) (Tryz.isAgg3 _) ?_
 refine sAdd a0 1 ?_
 refine sIdxO hOt i (i).toNat Tryz.runUnderlying22 Tryz.sizeOf3 ?_
 intro r0 _ _ d0 _ s0
 obtain rfl : a0 = r0 := Option.some.inj (j0.symm.trans d0)
 have j1 : B.att.getD i.toNat 0 = a0 := by rw [List.getD_eq_getElem?_getD, d0]; rfl
 refine sStF c0 hOt s0 4 (i).toNat 0 a0 (a0 + 1) d0 (I (a0 + 1)) [I (a0 + 1)] Tryz.sizeOf3 ?_
 intro _ k0 t0 u0
 refine nT <| sR <| pu1 <| nT <| retE <| retT [I 0] ?_
 have v0 : Sat W _ (([(p, .cells #[.slice a n k, .slice sa sn sk, .slice ta tn tk] 169 (0, 0))] ++ (c ++ (G ++ (i0 ++ k0)))) :: H :: F) := Sat.perm u0 (by simp)
 have hr : retB B i m = ⟨B.deps, B.st.set i.toNat 2, B.att.set i.toNat (a0 + 1)⟩ := by unfold retB; rw [if_pos b0, show m = a0 by omega]
 exact ⟨_, by rw [b0]; rfl, by rw [hr]; exact ⟨_, _, _, ts, _, _, _, _, _, _, c, G, i0, k0, rfl, hO, hD, p0, t0, hdp⟩, v0⟩

theorem open_step {s d : List Int} {j : Nat} {x : Int} (h : openB s (d.take j) = false) (hx : d[j]? = some x) (h4 : stAt s x = 4) : openB s (d.take (j + 1)) = false := by
  unfold openB at *
  rw [take_succ_at hx, List.any_append, h]; simp [h4]
theorem r_open {p : Nat} {a sa ta : Option Addr} {n k sn sk tn tk : Nat} {ts : List Task} {ss : List Int} {c G cs : Chunk} (hO : OwnT encTask 45 9 a n k ts c) (hD : ∀ z ∈ ts, Task.Ok [G] z) (hOs : OwnT encI 3 1 sa sn sk ss cs) {i : Nat} {t : Task} (ht : ts[i]? = some t) (hA : ascFrom i (-1) t.deps.l = true) (hns : n ≤ sn) (hS : Sat W w ([(p, .cells #[.slice a n k, .slice sa sn sk, .slice ta tn tk] 169 (0, 0))] :: c :: G :: cs :: F)) :
  Calls Tryz.prog 159 #[Pt p 0, I ((i : Nat) : Int)] w fun e w' => e = .returned (.bool (openB ss t.deps.l)) ∧ Sat W w' ([(p, .cells #[.slice a n k, .slice sa sn sk, .slice ta tn tk] 169 (0, 0))] :: c :: G :: cs :: F) := by
 have hlo := hO.le; have hln := hO.len; have hls := hOs.le; have hlns := hOs.len; have hil : i < ts.length := (List.getElem?_eq_some_iff.1 ht).1; have hdl := (hD t (List.mem_of_getElem? ht)).deps.len; have hdk := (hD t (List.mem_of_getElem? ht)).deps.le
 refine callsA 37 Tryz.func159 rfl ?_
 refine sR <| pu1 <| nT <| seqE <| sR <| pu1 <| nT <| blockE ?_
 refine loopA (γ := Nat) (fun j => [(0, Pt p 0), (1, I ((i : Nat) : Int)), (5, I ((j : Nat) : Int))]) (fun j w => Sat W w ([(p, .cells #[.slice a n k, .slice sa sn sk, .slice ta tn tk] 169 (0, 0))] :: c :: G :: cs :: F) ∧ j ≤ t.deps.n ∧ (openB ss (t.deps.l.take j) = false)) (fun j => t.deps.n - j) 0 ⟨hS, om, by simp [openB]⟩ ?_
 rintro j ρ _ ⟨a0, hj, hop⟩
 refine seqE <| sR <| pu4 ?_
 refine sL a0 0 0 (.slice a n k) (Tryz.isAgg39 _) ?_
 refine pu1 ?_
 refine sIdxO hO ((i : Nat) : Int) i Tryz.runUnderlying39 Tryz.sizeOf45 ?_
 intro p0 _ _ q0 r0 _
 obtain rfl : t = p0 := Option.some.inj (ht.symm.trans q0)
 refine pu1 ?_
 refine sLp a0 (r0.up 1 rfl) 6 (.slice t.deps.a t.deps.n t.deps.k) (Tryz.isAgg22 _) ?_
 refine pu2 <| nT ?_
 refine cD (((j : Nat) : Int) < ((t.deps.n : Nat) : Int)) (fun s0 => ?_) (fun s0 => ?_)
 rotate_left
 ·refine exitE <| xB <| thenK_n <| sR <| pu1 <| nT <| retE <| retT [.bool false] ?_
  rw [List.take_of_length_le om] at hop
  exact ⟨by rw [hop]; rfl, a0⟩
 refine kT <| seqE <| blockE <| seqE ?_
 obtain ⟨t0, f0, g0, e0, h0, i0, d1⟩ := OwnT.elem hO ((i : Nat) : Int)
 rw [Int.toNat_natCast] at e0 h0 i0
 obtain rfl : t = t0 := Option.some.inj (ht.symm.trans e0)
 obtain ⟨b0, j0, k0, d0, u0, v0⟩ := RdT.elem (hD t (List.mem_of_getElem? e0)).deps ((j : Nat) : Int)
 rw [Int.toNat_natCast] at d0
 have hdb := asc_mem hA b0 (List.mem_of_getElem? d0)
 obtain ⟨c0, l0, m0, n0, w0, x0, e1⟩ := OwnT.elem hOs b0
 refine drawE [] [(3, ⟨p, 1, none⟩, .slice sa sn sk), (7, ⟨p, 0, none⟩, .slice a n k), (11, ⟨f0, g0 + i * 9 + 6, none⟩, .slice t.deps.a t.deps.n t.deps.k), (14, ⟨j0, k0, none⟩, I b0), (16, ⟨l0, m0 + (b0).toNat * 1, none⟩, I c0)] [(true, [0, 1, 2, 4, 5, 6, 8, 12]), (true, [3]), (true, [7]), (true, [9]), (true, [10]), (true, [11]), (true, [13]), (true, [14]), (true, [15]), (true, [16]), (true, [17])] rfl kr ⟨.inr (a0.cell 0 rfl rfl), .inr (a0.cell 0 rfl rfl), .inr ((h0.up 1 rfl).cell a0 (k := 6) rfl), .inr ((u0.up 2 rfl).cell a0 (k := 0) rfl), .inr ((w0.up 3 rfl).cell a0 (k := 0) rfl), trivial⟩ ?_
 have o0 := a0.drew
 refine wU [0, 1, 2, 4, 5, 6, 8, 12] ?_
 refine wLd (.slice sa sn sk) 0 Tryz.isAgg22 ?_
 refine wLd (.slice a n k) 1 Tryz.isAgg39 ?_
 refine wY (.pointer (some ⟨f0, g0 + i * 9, none⟩)) rfl (fun w _ => Y_idx (a := a) (i := ((i : Nat) : Int)) (len := n) (cap := k) rfl Tryz.runUnderlying39 Tryz.sizeOf45 kr kr i0) ?_
 refine wU [10] ?_
 refine wLd (.slice t.deps.a t.deps.n t.deps.k) 2 Tryz.isAgg22 ?_
 refine wY (.pointer (some ⟨j0, k0, none⟩)) rfl (fun w _ => Y_idx (a := t.deps.a) (i := ((j : Nat) : Int)) (len := t.deps.n) (cap := t.deps.k) rfl Tryz.runUnderlying22 Tryz.sizeOf3 kr kr v0) ?_
 refine wLd (I b0) 3 Tryz.isAgg3 ?_
 refine wY (.pointer (some ⟨l0, m0 + (b0).toNat * 1, none⟩)) rfl (fun w _ => Y_idx (a := sa) (i := b0) (len := sn) (cap := sk) rfl Tryz.runUnderlying22 Tryz.sizeOf3 kr kr x0) ?_
 refine wLd (I c0) 4 Tryz.isAgg3 ?_
 refine wU [17] ?_
 refine wN ?_
 refine thenK_n ?_
 refine cN c0 4 (fun y0 => ?_) (fun y0 => ?_)
 ·refine skipE <| blockK_n <| thenK_n <| regionE <| pu1 ?_
  refine sAdd ((j : Nat) : Int) 1 ?_
  refine pu1 <| nT ?_
  exact ⟨j + 1, od, alA, o0, om, (open_step hop d0 (by rw [stAt_nat _ om, List.getD_eq_getElem?_getD, n0]; simpa using (by omega : c0 = 4)))⟩
 refine sR <| pu1 <| nT <| retE <| blockK_r <| thenK_r <| tR <| thenK_r <| retT [.bool true] ?_
 exact ⟨by rw [show openB ss t.deps.l = true from List.any_eq_true.2 ⟨b0, List.mem_of_getElem? d0, by rw [decide_eq_true_eq, stAt_nat _ om, List.getD_eq_getElem?_getD, n0]; simpa using (by omega : ¬ c0 = 4)⟩]; rfl, o0⟩

/-- The states when the first k tasks have been looked at. -/
def stK (s : List Int) (D : List (List Int)) (k : Nat) : List Int := (List.range D.length).map fun q => if q < k ∧ condB s D q = true then 2 else s.getD q 0
theorem stK_zero {s : List Int} {D : List (List Int)} (h : s.length = D.length) : stK s D 0 = s := by
  unfold stK
  apply List.ext_getElem?
  intro q
  by_cases hq : q < D.length
  · rw [map_range_at hq, if_neg (by omega), List.getD_eq_getElem?_getD]
    have : q < s.length := by omega
    simp only [List.getElem?_eq_getElem this, Option.getD_some]
  · rw [List.getElem?_eq_none (by simp; omega), List.getElem?_eq_none (by omega)]
theorem stK_all {s : List Int} {D : List (List Int)} : stK s D D.length = markB s D := by
  unfold stK markB
  apply map_range
  intro q hq
  by_cases hc : condB s D q = true
  · rw [if_pos ⟨hq, hc⟩, if_pos hc]
  · rw [if_neg (fun h => hc h.2), if_neg hc]
theorem stK_four {s : List Int} {D : List (List Int)} {k : Nat} (hl : s.length = D.length) (x : Int) : stAt (stK s D k) x ≠ 4 ↔ stAt s x ≠ 4 := by
 unfold stAt
 by_cases h : 0 ≤ x
 ·rw [if_pos h, if_pos h]
  by_cases h2 : x.toNat < D.length
  ·unfold stK
   rw [getD_range h2]
   split
   ·rename_i h3
    have h4 := h3.2
    simp only [condB, Bool.and_eq_true, decide_eq_true_eq] at h4
    rw [h4.1]; simp
   ·exact Iff.rfl
  ·have e1 : (stK s D k).getD x.toNat 0 = 0 := by rw [List.getD_eq_getElem?_getD, List.getElem?_eq_none (by simp [stK]; omega)]; rfl
   have e2 : s.getD x.toNat 0 = 0 := by rw [List.getD_eq_getElem?_getD, List.getElem?_eq_none om]; rfl
   rw [e1, e2]
 ·rw [if_neg h, if_neg h]
theorem stK_at {s : List Int} {D : List (List Int)} {k : Nat} (h : k < D.length) : (stK s D k)[k]? = some (s.getD k 0) := by unfold stK; rw [map_range_at h, if_neg (by omega)]
theorem stK_y {s : List Int} {D : List (List Int)} {k : Nat} (h : condB s D k = true) : (stK s D k).set k 2 = stK s D (k + 1) := by
  unfold stK
  rw [range_set]
  apply map_range
  intro q hq
  by_cases e : q = k
  · subst e; rw [if_pos rfl, if_pos ⟨by omega, h⟩]
  · rw [if_neg e]
    by_cases h2 : q < k ∧ condB s D q = true
    · rw [if_pos h2, if_pos ⟨by omega, h2.2⟩]
    · rw [if_neg h2, if_neg (fun h3 => h2 ⟨by omega, h3.2⟩)]
theorem stK_n {s : List Int} {D : List (List Int)} {k : Nat} (h : condB s D k ≠ true) : stK s D k = stK s D (k + 1) := by
  unfold stK
  apply map_range
  intro q hq
  by_cases h2 : q < k ∧ condB s D q = true
  · rw [if_pos h2, if_pos ⟨by omega, h2.2⟩]
  · rw [if_neg h2, if_neg (fun h3 => h2 ⟨by
      by_cases e : q = k
      · subst e; exact absurd h3.2 h
      · omega, h3.2⟩)]
def rdyK (s : List Int) (D : List (List Int)) (k : Nat) : List Int := ((List.range k).filter (condB s D)).map fun (q : Nat) => (q : Int)
theorem rdyK_y {s : List Int} {D : List (List Int)} {k : Nat} (h : condB s D k = true) : rdyK s D k ++ [((k : Nat) : Int)] = rdyK s D (k + 1) := by
  unfold rdyK; rw [List.range_succ, List.filter_append, List.map_append]; simp [h]
theorem rdyK_n {s : List Int} {D : List (List Int)} {k : Nat} (h : condB s D k ≠ true) : rdyK s D k = rdyK s D (k + 1) := by
  unfold rdyK; rw [List.range_succ, List.filter_append, List.map_append]; simp [h]
theorem rdyK_len {s : List Int} {D : List (List Int)} {k : Nat} : (rdyK s D k).length ≤ k := by
  unfold rdyK; rw [List.length_map]; have := List.length_filter_le (condB s D) (List.range k); simpa using this

theorem cond_y {B : BS} {K x : Int} {i j : Nat} {d : List Int} (hW : BWf B K) (hi : i < B.deps.length) (hj : j < B.deps.length) (hx : (stK (B.st.set i 4) B.deps j)[j]? = some x) (hd : B.deps[j]? = some d) (h1 : x = 1) (h2 : openB (stK (B.st.set i 4) B.deps j) d = false) : condB (B.st.set i 4) B.deps j = true := by
  rw [stK_at hj] at hx
  rw [open_same (fun y _ => stK_four (by rw [List.length_set]; exact hW.ls) y)] at h2
  unfold condB
  have hdk : B.deps.getD j [] = d := by rw [List.getD_eq_getElem?_getD, hd]; rfl
  rw [hdk, h2, Option.some.inj hx, h1]; rfl
theorem cond_n1 {B : BS} {K : Int} {i j : Nat} {d : List Int} (hW : BWf B K) (hi : i < B.deps.length) (hj : j < B.deps.length) (hd : B.deps[j]? = some d) (h2 : openB (stK (B.st.set i 4) B.deps j) d = true) : condB (B.st.set i 4) B.deps j ≠ true := by
  rw [open_same (fun y _ => stK_four (by rw [List.length_set]; exact hW.ls) y)] at h2
  unfold condB
  have hdk : B.deps.getD j [] = d := by rw [List.getD_eq_getElem?_getD, hd]; rfl
  rw [hdk, h2]; simp
theorem cond_n2 {s : List Int} {D : List (List Int)} {x : Int} {j : Nat} (hj : j < D.length) (hx : (stK s D j)[j]? = some x) (h1 : x ≠ 1) : condB s D j ≠ true := by
  rw [stK_at hj] at hx
  unfold condB
  rw [Option.some.inj hx, decide_eq_false h1]; simp
theorem r_commit {p : Nat} {B : BS} {K : Int} {M : Chunk} (hB : RefR p B M) (hW : BWf B K) (i : Int) (m : Int) (hS : Sat W w (M :: H :: F)) :
  Calls Tryz.prog 134 #[Pt p 0, I i, I m] w fun e w' => ∃ (az : Option Addr) (nz kz : Nat) (Z M' : Chunk), e = .returned (.tuple #[.slice az nz kz, I (heldC B i m)]) ∧ RdT encI 1 [Z] az nz kz (comB B i m).2 ∧ RefR p (comB B i m).1 M' ∧ Sat W w' (Z :: M' :: H :: F) := by
 refine callsA 58 Tryz.func134 rfl ?_
 refine sR <| pu2 <| nT <| seqE <| sR <| pu3 ?_
 refine cX Tryz.call116 (r_held hB hW i m (Sat.flat1 hS)) ?_
 rintro _ _ ⟨rfl, q0⟩
 have h0 := Sat.unflat1 q0
 refine pu1 <| nT <| sR <| pu2 <| nT ?_
 refine cN (heldC B i m) 0 (fun c0 => ?_) (fun c0 => ?_)
 rotate_left
 ·refine sR <| pu3 <| nT <| retE <| thenK_r <| retT [.slice none 0 0, I (heldC B i m)] ?_
  have r0 := Sat.nilc h0
  have hr : comB B i m = (B, []) := by unfold comB; rw [if_neg c0]
  exact ⟨_, _, _, [], _, rfl, by rw [hr]; exact RdT.nil (enc := encI) (sz := 1) fR _, by rw [hr]; exact hB, r0⟩
 refine kT <| seqE ?_
 have hz0 := c0; obtain ⟨hin, hst3, hatt⟩ := heldC_zero hz0
 have s0 := (h0.picks [1, 1])
 obtain ⟨a, n, k, ts, sa, sn, sk, ta, tn, tk, c, G, cs, ct, rfl, hO, hD, hOs, hOt, hdp⟩ := hB
 have i0 : Sat W _ ([(p, .cells #[.slice a n k, .slice sa sn sk, .slice ta tn tk] 169 (0, 0))] :: c :: G :: cs :: ct :: H :: F) := Sat.perm s0 (by simp)
 have hlo := hO.le; have hln := hO.len; have hls := hOs.le; have hlns := hOs.len; have hlt := hOt.le; have hlnt := hOt.len; have hld := congrArg List.length hdp; rw [List.length_map] at hld; have hw1 := hW.ls; have hw2 := hW.la; have hw3 := hW.n0
 have hib : 0 ≤ i ∧ i < ((B.deps.length : Nat) : Int) := hin; have hsg := stAt_nat B.st hib.1; have hab := hW.att _ (getD_mem (q := i.toNat) (s := B.att) om)
 refine regionE <| pu3 ?_
 refine sL i0 0 1 (.slice sa sn sk) (Tryz.isAgg22 _) ?_
 refine pu1 ?_
 refine sIdxO hOs i (i).toNat Tryz.runUnderlying22 Tryz.sizeOf3 ?_
 intro t0 _ _ u0 _ v0
 refine sStF i0 hOs v0 3 (i).toNat 0 t0 4 u0 (I 4) [I 4] Tryz.sizeOf3 ?_
 intro _ w0 x0 y0
 refine nT <| sR <| pu1 <| nT <| seqE <| sR <| pu1 <| nT <| blockE ?_
 have z0 := Sat.nilc y0
 refine loopA (γ := Nat × Chunk × (Option Addr) × Nat × Nat × Chunk) (fun ⟨j, cs1, az, nz, kz, cz⟩ => [(0, Pt p 0), (10, I ((j : Nat) : Int)), (9, .slice az nz kz)]) (fun ⟨j, cs1, az, nz, kz, cz⟩ w => Sat W w (cz :: [(p, .cells #[.slice a n k, .slice sa sn sk, .slice ta tn tk] 169 (0, 0))] :: c :: G :: cs1 :: ct :: H :: F) ∧ j ≤ n ∧ OwnT encI 3 1 sa sn sk (stK (B.st.set i.toNat 4) B.deps j) cs1 ∧ OwnT encI 3 1 az nz kz (rdyK (B.st.set i.toNat 4) B.deps j) cz) (fun ⟨j, cs1, az, nz, kz, cz⟩ => n - j) (0, w0, none, 0, 0, []) ⟨z0, om, (by rw [stK_zero (by rw [List.length_set]; omega)]; exact x0), OwnT.nil fR⟩ ?_
 rintro ⟨j, cs1, az, nz, kz, cz⟩ ρ _ ⟨a0, hj, hOs1, hOz⟩
 have hls1 := hOs1.len; have hlz := hOz.le; have hlnz := hOz.len; have hlzk := rdyK_len (s := (B.st.set i.toNat 4)) (D := B.deps) (k := j); have hlsk : (stK (B.st.set i.toNat 4) B.deps j).length = B.deps.length := by simp [stK]
 refine seqE <| sR <| pu4 ?_
 refine sL a0 1 0 (.slice a n k) (Tryz.isAgg39 _) ?_
 refine pu2 <| nT ?_
 refine cD (((j : Nat) : Int) < ((n : Nat) : Int)) (fun a1 => ?_) (fun a1 => ?_)
 rotate_left
 ·refine exitE <| xB <| thenK_n <| sR <| pu3 <| nT <| retE <| retT [.slice az nz kz, I 0] ?_
  have b1 : Sat W _ (cz :: ([(p, .cells #[.slice a n k, .slice sa sn sk, .slice ta tn tk] 169 (0, 0))] ++ (c ++ (G ++ (cs1 ++ ct)))) :: H :: F) := Sat.perm a0 (by simp)
  obtain rfl : j = B.deps.length := by omega
  have hr : comB B i m = (⟨B.deps, markB (B.st.set i.toNat 4) B.deps, B.att⟩, rdyB (B.st.set i.toNat 4) B.deps) := by unfold comB; rw [if_pos hz0]
  rw [stK_all] at hOs1
  exact ⟨_, _, _, cz, _, by rw [hz0]; rfl, by rw [hr]; exact hOz.rdAt (cs := [cz]) 0 rfl, by rw [hr]; exact ⟨_, _, _, ts, _, _, _, _, _, _, c, G, cs1, ct, rfl, hO, hD, hOs1, hOt, hdp⟩, b1⟩
 refine kT <| seqE <| blockE <| sR <| pu3 ?_
 refine sL a0 1 1 (.slice sa sn sk) (Tryz.isAgg22 _) ?_
 refine pu1 ?_
 refine sIdxO hOs1 ((j : Nat) : Int) j Tryz.runUnderlying22 Tryz.sizeOf3 ?_
 intro b0 _ _ d0 c1 _
 refine sLp a0 (c1.up 4 rfl) 0 (I b0) (Tryz.isAgg3 _) ?_
 refine pu2 ?_
 refine sE 41 b0 1 (fun d1 => ?_) (fun d1 => ?_)
 rotate_left
 ·refine pu5 <| nT <| cFf <| skipE <| blockK_n <| thenK_n <| regionE <| pu1 ?_
  refine sAdd ((j : Nat) : Int) 1 ?_
  refine pu1 <| nT ?_
  have j0 : condB (B.st.set i.toNat 4) B.deps j ≠ true := cond_n2 om d0 om
  exact ⟨(j + 1, cs1, az, nz, kz, cz), od, alA, a0, om, (by rw [← stK_n j0]; exact hOs1), (by rw [← rdyK_n j0]; exact hOz)⟩
 refine pu2 <| gY ?_
 have e1 := (a0.picks [4, 4, 4, 4])
 obtain ⟨k0, l0⟩ : ∃ t, ts[j]? = some t := ⟨ts[j]'om, List.getElem?_eq_getElem _⟩
 have e0 : B.deps[j]? = some k0.deps.l := by rw [← hdp]; simp [l0]
 refine cX Tryz.call159 (r_open hO hD hOs1 l0 (hW.asc _ _ e0) om e1) ?_
 rintro _ _ ⟨rfl, f0⟩
 refine pu2 <| nT ?_
 refine cBn (openB (stK (B.st.set i.toNat 4) B.deps j) k0.deps.l) (fun g0 => ?_) (fun g0 => ?_)
 ·refine skipE <| blockK_n <| thenK_n <| regionE <| pu1 ?_
  refine sAdd ((j : Nat) : Int) 1 ?_
  refine pu1 <| nT ?_
  have m0 : condB (B.st.set i.toNat 4) B.deps j ≠ true := cond_n1 hW om om e0 (by simpa using g0)
  have f1 := (f0.pick 4 rfl)
  exact ⟨(j + 1, cs1, az, nz, kz, cz), od, alA, f1, om, (by rw [← stK_n m0]; exact hOs1), (by rw [← rdyK_n m0]; exact hOz)⟩
 refine sR <| pu3 ?_
 refine sL f0 0 1 (.slice sa sn sk) (Tryz.isAgg22 _) ?_
 refine pu1 ?_
 refine sIdxO hOs1 ((j : Nat) : Int) j Tryz.runUnderlying22 Tryz.sizeOf3 ?_
 intro g1 _ _ o0 _ h1
 obtain rfl : b0 = g1 := Option.some.inj (d0.symm.trans o0)
 refine sStF f0 hOs1 h1 3 j 0 b0 2 o0 (I 2) [I 2] Tryz.sizeOf3 ?_
 intro _ i1 j1 k1
 refine nT <| regionE <| pu2 ?_
 refine sBS k1 #[I ((j : Nat) : Int)] Tryz.runUnderlying22 Tryz.sizeOf3 Tryz.zeroValue3 ?_
 intro _ _ l1
 refine sApp (nb := 8) l1 hOz 5 (RdT.blk (enc := encI) (sz := 1) (xs := [((j : Nat) : Int)]) fR 1 0 rfl rfl rfl om) Tryz.underlying22 (i := Tryz.t3) kr fR ?_
 intro m1 n1 o1 _ p1 q1
 refine pu1 <| nB <| regionE <| pu1 ?_
 refine sAdd ((j : Nat) : Int) 1 ?_
 refine pu1 <| nT ?_
 have p0 : condB (B.st.set i.toNat 4) B.deps j = true := cond_y hW om om d0 e0 om (by simpa using g0)
 have r1 := ((q1.pick 5 rfl).dropAt 1 rfl)
 exact ⟨(j + 1, i1, m1, (nz + 1), n1, o1), od, alA, r1, om, (by rw [← stK_y p0]; exact j1), (by rw [← rdyK_y p0]; exact p1)⟩
end Go.Proofs.YtegmennaekipaaaGreat
