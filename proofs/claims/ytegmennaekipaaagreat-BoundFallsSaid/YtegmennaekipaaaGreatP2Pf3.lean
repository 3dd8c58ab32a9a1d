import Derived.Test.YtegmennaekipaaaGreatP2Pf2
namespace Go.Proofs.YtegmennaekipaaaGreat
open Go Go.E
set_option linter.unusedVariables false
set_option linter.unusedSimpArgs false
set_option linter.unnecessarySimpa false
set_option maxRecDepth 100000
set_option maxHeartbeats 2000000
variable {W w : World} {H : Chunk} {F : List Chunk}
/-- Boards have at most 12 tasks (slices.Sort is walked for so many). -/
-- squeezed
def F12 (F : FS) : Prop := ∀ q ∈ shapeF F.jobs, q.2 ≤ 12
theorem F12.job {F : FS} (h : F12 F) {k : Nat} {j : JS} (hj : F.jobs[k]? = some j) : j.tasks.length ≤ 12 := h (j.added, j.tasks.length) (List.mem_map.2 ⟨j, List.mem_of_getElem? hj, rfl⟩)
theorem F12.of {F G : FS} (h : F12 F) (hs : shapeF G.jobs = shapeF F.jobs) : F12 G := by unfold F12; rw [hs]; exact h
theorem done_le {B : BS} (hl : B.st.length = B.deps.length) : doneOf B ≤ ((B.deps.length : Nat) : Int) := by
  unfold doneOf
  have := List.length_filter_le (fun x => decide (x = 4)) B.st
  omega
theorem ar_some {F : FS} {K x : Int} (hF : FW F K) (hx : 0 ≤ x ∧ x < ((F.ws.length : Nat) : Int)) : F.ar[x.toNat]? = some (F.ar.getD x.toNat default) := by
  have h1 : x.toNat < F.ar.length := by rw [hF.al]; omega
  rw [List.getD_eq_getElem?_getD, List.getElem?_eq_getElem h1]; rfl
theorem FI.helpK {F : FS} {K : Int} (h : FI F K) (hK : K + 1 ≤ 4096) : FI (helpF F) (K + 1) := by
  have g := h.help
  refine ⟨(h.fw.mono (by omega) hK).ss, ?_, g.1, g.2.1, g.2.2⟩
  obtain ⟨_, _, _, _, _, _, _⟩ := h.st
  constructor <;> (simp only [helpF]; omega)
theorem busy_holds {F : FS} {v : Wkr} (hb : busyW F v = true) : Holds v ∧ (jobAt F v.heldJob).running = true := by
  unfold busyW at hb
  obtain ⟨h1, h2⟩ := (Bool.and_eq_true _ _).mp hb
  exact ⟨(of_decide_eq_true h1 : _ ∨ _ ∨ _), h2⟩
theorem ref_job {F : FS} {K : Int} (hF : FW F K) {r : Ref} (hr : RefOk (shapeF F.jobs) r) : ∃ j, F.jobs[r.job.toNat]? = some j ∧ j.added = true ∧ 0 ≤ j.band ∧ j.band < 4 := by
  obtain ⟨j, hj, ha, _, _, h1, h2, _, _⟩ := hF.job hr; exact ⟨j, hj, ha, h1, h2⟩
theorem ref_set {F : FS} {K : Int} (hF : FW F K) {k : Nat} {j : JS} {B : BS} (hj : F.jobs[k]? = some j) {r : Ref} (hr : RefOk (shapeF F.jobs) r) : ∃ j', (F.jobs.set k { j with B := B })[r.job.toNat]? = some j' ∧ j'.added = true ∧ 0 ≤ j'.band ∧ j'.band < 4 := by
  obtain ⟨i, hi, ha, h1, h2⟩ := ref_job hF hr
  by_cases e : k = r.job.toNat
  · subst e
    rw [hj] at hi; obtain rfl := Option.some.inj hi
    exact ⟨_, set_at hj, ha, h1, h2⟩
  · exact ⟨i, by rw [List.getElem?_set, if_neg e]; exact hi, ha, h1, h2⟩
theorem pf_commit {p : Nat} {F : FS} {M : Chunk} {F0 : List Chunk} (hR : FarmP p F M) {K : Int} (hF : FI F K) {v0 : Wkr} (x : Int) (hx : 0 ≤ x ∧ x < F.ws.length) (hv0 : F.ws[x.toNat]? = some v0) (hh : Holds v0) (hrun0 : (jobAt F v0.heldJob).running = true) (h12 : F12 F) (hp : v0.phase = 3) (hS : Sat W w (M :: H :: F0)) :
  Calls Tryz.prog 126 #[Pt p 0, I x] w fun e w' => ∃ M' : Chunk, e = .returned (.agg (encEvt (microF F x).2).toArray) ∧ FarmP p ((microF F x).1) M' ∧ Sat W w' (M' :: H :: F0) := by
 obtain ⟨wb, wo, wn, wk, q, m, xs, jm, Wc, Qc, Jc, acs, dcs, jcs, rfl, hOw, hco, hAs, hDs, hQ, hM, hJs⟩ := hR
 have s1 : Sat W _ ((Tri p 85 (preP F.cfg wb wo wn wk q m) (([] : List Ref).flatMap encRef) (encStt F.st)) :: Wc :: acs.flatten :: dcs.flatten :: Qc :: Jc :: jcs.flatten :: H :: F0) := Sat.perm hS (by simp)
 have hwl := hOw.len; have hwk := hOw.le; have hcl := core_len hco; have has1 := hAs.1; have hds1 := hDs.1; rw [List.length_map] at has1 hds1; have hjl1 := hJs.l
 obtain ⟨j, hj, ha, hz⟩ := hF.h.h _ _ hv0 hh; have hjo := hF.fw.j j (List.mem_of_getElem? hj); obtain ⟨hBW, hdl, hb1, hb2⟩ := hjo.b ha; have hjn := hjo.n; have hwo := hF.fw.w v0 (List.mem_of_getElem? hv0); have hk0 := hwo.h; have hr0 := hwo.r; have hlt := held_lt hBW hz; have hph : v0.phase = 1 ∨ v0.phase = 2 ∨ v0.phase = 3 := hh
 obtain ⟨k0, d0, z3, i1, s0, t1, u1⟩ := JobsP.get hJs (k := v0.heldJob) ⟨om, om⟩ hj ha
 obtain ⟨t0, u0, w0, a4, g0, x0, b4, rfl, l0, j1, y0, v1, _, c4⟩ := t1.open
 have w1 := (s1.pick 6 rfl)
 have x1 := Sat.openN (A := []) k0 s0 w1
 have y1 := x1.split3
 have hn_taj_2 := l0.len; have hl_taj_2 := l0.le; have hm_taj_2 := congrArg List.length y0; rw [List.length_map] at hm_taj_2
 have hrun : j.running = true := by unfold jobAt at hrun0; rw [getD_some hj] at hrun0; exact hrun0
 have h12j := h12.job hj; have hax := ar_some hF.fw hx; have hra := hF.rel hx hv0 hax hp; have hs1 := hF.st.a; have hs2 := hF.st.b; have hs3 := hF.st.c; have hs4 := hF.st.d; have hs5 := hF.st.e; have hs6 := hF.st.f; have hs7 := hF.st.g; have hKK := hF.fw.k; have hal9 := hF.fw.al; have hdl9 := hF.fw.dl
 refine callsA 95 Tryz.func126 rfl ?_
 refine sR ?_
 refine sAlloc y1 Tryz.zeroValue62 ?_
 intro k1 _ z0
 refine nT <| sR <| pu3 ?_
 refine sLp z0 (ptr_up 5 rfl tri_pre) 8 (.slice (some ⟨wb, wo, none⟩) wn wk) (Tryz.isAgg81 _) ?_
 refine pu1 ?_
 refine sIdxO hOw x (x).toNat Tryz.runUnderlying81 Tryz.sizeOf93 ?_
 intro a0 _ _ c0 l1 z1
 obtain ⟨rfl, rfl⟩ := some_addr z1
 obtain ⟨a2, b2, c2, e0, m0, m1, d2⟩ := core_at hco c0
 have hvv_v_15 : a2 = v0 := Option.some.inj (b2.symm.trans hv0); rw [hvv_v_15] at c2 e0 m0 m1 d2
 refine pu1 <| nT <| sR <| pu3 ?_
 refine sLpA z0 (l1.up 6 rfl) 1 [I a0.heldJob, I a0.heldTask] (Tryz.isAgg60 _) (Tryz.sizeOf60 _) ?_
 refine sAlloc z0 Tryz.zeroValue60 ?_
 intro n0 _ e2
 refine sT e2 0 0 (.agg #[I a0.heldJob, I a0.heldTask]) [I a0.heldJob, I a0.heldTask] #[I a0.heldJob, I a0.heldTask] Tryz.sizeOf60 ?_
 intro _ a1
 refine nT <| seqE ?_
 refine drawE [6] [(3, ⟨p, 10, none⟩, .map (some m)), (5, ⟨n0, 0, none⟩, I a0.heldJob)] [(true, [0, 1, 2, 4]), (true, [3]), (true, [5]), (false, [6]), (true, [7])] rfl kr ⟨.inr (cell_up a1 6 rfl (k := 10) tri_pre rfl), .inr (a1.cell 0 rfl rfl), trivial⟩ ?_
 have h0 := a1.drew
 refine wU [0, 1, 2, 4] ?_
 refine wLd (.map (some m)) 0 Tryz.isAgg80 ?_
 refine wLd (I a0.heldJob) 1 Tryz.isAgg3 ?_
 refine wO rfl ?_
 refine stepY (Pt d0 0) rfl rfl (Y_iget (k := a0.heldJob) h0 11 hM (by rw [e0, u1]; rfl) Tryz.runUnderlying80 Tryz.runUnderlying3 Tryz.zeroValue111) ?_
 refine nilO ⟨dA, ?_⟩
 refine wU [7] ?_
 refine wN ?_
 refine thenK_n <| seqE ?_
 refine drawE [10] [(3, ⟨d0, 2, none⟩, Pt g0 0), (5, ⟨n0, 1, none⟩, I a0.heldTask), (9, ⟨wb, wo + (x).toNat * 7 + 3, none⟩, I a0.attempt)] [(true, [0, 1, 2, 4, 6, 7, 8]), (true, [3]), (true, [5]), (true, [9]), (false, [10]), (true, [11]), (true, [12]), (true, [13]), (true, [14, 15])] rfl kr ⟨.inr (h0.cell 2 rfl rfl), .inr (h0.cell 0 rfl rfl), .inr ((l1.up 7 rfl).cell h0 (k := 3) rfl), trivial⟩ ?_
 have f2 := h0.drew
 refine wU [0, 1, 2, 4, 6, 7, 8] ?_
 refine wLd (Pt g0 0) 0 Tryz.isAgg112 ?_
 refine wLd (I a0.heldTask) 1 Tryz.isAgg3 ?_
 refine wLd (I a0.attempt) 2 Tryz.isAgg3 ?_
 refine wO rfl ?_
 have g2 := (f2.pick 4 rfl)
 refine cX Tryz.call155 (b_commit v1 hBW a0.heldTask a0.attempt om (Sat.flat1 g2)) ?_
 rintro _ _ ⟨h2, i0, i2, k2, b1, rfl, o0, c1, l2⟩
 have n1 := Sat.unflat2 l2; have hn_az_29 := o0.len; have hl_az_29 := o0.le; have hcl9 := com_len (B := j.B) (i := v0.heldTask) (a := v0.attempt); rw [m0, m1] at c1 o0 hn_az_29
 refine nilO ⟨dA, ?_⟩
 refine wU [11] <| wU [12] <| wU [13] <| wU [14, 15] ?_
 refine wN ?_
 refine thenK_n <| sR <| pu4 ?_
 refine sLp n1 (ptr_up 7 rfl (tri_post (k := 11) (tri_len (sz := 2) (m := 11) fR (rfl : ([] : List Ref).length = 0)))) 1 (I F.st.commits) (Tryz.isAgg3 _) ?_
 refine sAdd F.st.commits 1 ?_
 refine pu3 ?_
 refine sTpost n1 7 11 1 rfl (I (F.st.commits + 1)) [I (F.st.commits + 1)] [I F.st.starts, I (F.st.commits + 1), I F.st.drops, I F.st.crashes, I F.st.steals, I F.st.helps, I F.st.spills, I F.st.queued, I F.st.held, I F.st.cells] (tri_len (sz := 2) (m := 11) fR (rfl : ([] : List Ref).length = 0)) Tryz.sizeOf3 ?_
 intro _ m2
 refine nT <| sR <| pu1 ?_
 have n2 := (m2.picks [9, 9])
 refine cX Tryz.call65 (p_rest hOw hAs c0 0 n2) ?_
 rintro _ _ ⟨o2, p2, rfl, d1, o1, q2⟩
 refine nT <| seqE <| sR <| pu3 <| nT <| blockE ?_
 refine loopA (γ := Nat × (List DS) × (List Chunk) × QS × Chunk × Int) (fun ⟨i, dqi, dci, qi, Qci, sp⟩ => [(0, Pt p 0), (1, I x), (4, Pt k1 0), (5, .pointer (some ⟨wb, wo + (x).toNat * 7, none⟩)), (6, Pt n0 0), (7, Pt d0 0), (55, .slice h2 i0 i2), (56, I ((i0 : Nat) : Int)), (57, I ((i : Nat) : Int))]) (fun ⟨i, dqi, dci, qi, Qci, sp⟩ w => Sat W w (o2 :: p2.flatten :: k2 :: b1 :: [(n0, .cells #[I a0.heldJob, I a0.heldTask] 60 (0, 0))] :: [(k1, .cells #[I 0, I 0, I 0, I 0, I 0, I 0, I 0] 62 (0, 0))] :: [(d0, .cells #[.slice t0 u0 w0, I j.band, Pt g0 0, .bool (canc j)] 118 (0, 0))] :: x0 :: (jcs.eraseIdx k0).flatten :: (Tri p 85 (preP F.cfg wb wo wn wk q m) (([] : List Ref).flatMap encRef) [I F.st.starts, I (F.st.commits + 1), I F.st.drops, I F.st.crashes, I F.st.steals, I F.st.helps, I sp, I F.st.queued, I F.st.held, I F.st.cells]) :: dci.flatten :: Qci :: Jc :: H :: F0) ∧ i ≤ i0 ∧ (Obs DqP (xs.map (·.d)) dqi dci) ∧ (InjP q qi Qci) ∧ (0 ≤ sp ∧ sp ≤ F.st.spills + i) ∧ (dqi.length = F.dq.length) ∧ ((spillF (⟨F.cfg, (F.ws.set x.toNat ⟨0, 0, 0, 0, 0, 0, (resetA (F.ar.getD x.toNat default)).high⟩), (F.ar.set (x).toNat (resetA (F.ar.getD (x).toNat default))), F.dq, F.q, (F.jobs.set v0.heldJob.toNat { j with B := (comB j.B v0.heldTask v0.attempt).1 }), ⟨F.st.starts, (F.st.commits + 1), F.st.drops, F.st.crashes, F.st.steals, F.st.helps, F.st.spills, F.st.queued, F.st.held, F.st.cells⟩⟩ : FS) x v0.heldJob j.band (((comB j.B v0.heldTask v0.attempt).2).take i)) = (⟨F.cfg, (F.ws.set x.toNat ⟨0, 0, 0, 0, 0, 0, (resetA (F.ar.getD x.toNat default)).high⟩), (F.ar.set (x).toNat (resetA (F.ar.getD (x).toNat default))), dqi, qi, (F.jobs.set v0.heldJob.toNat { j with B := (comB j.B v0.heldTask v0.attempt).1 }), ⟨F.st.starts, (F.st.commits + 1), F.st.drops, F.st.crashes, F.st.steals, F.st.helps, sp, F.st.queued, F.st.held, F.st.cells⟩⟩ : FS))) (fun ⟨i, dqi, dci, qi, Qci, sp⟩ => i0 - i) (0, F.dq, dcs, F.q, Qc, F.st.spills) ⟨q2, om, hDs, hQ, om, by first | rfl | simp only [List.length_set], rfl⟩ ?_
 rintro ⟨i, dqi, dci, qi, Qci, sp⟩ ρ _ ⟨j0, hi, hDi, hQi, hspb, hdqi, hFi⟩
 have hds9 := hDi.1; rw [List.length_map] at hds9
 refine sR <| pu1 <| nT <| seqE ?_
 refine cD (((i : Nat) : Int) < ((i0 : Nat) : Int)) (fun r2 => ?_) (fun r2 => ?_)
 rotate_left
 ·refine exitE <| xB <| thenK_n <| sR <| pu1 ?_
  refine lA j0 4 0 2 (Tryz.isAgg60 _) (Tryz.sizeOf60 _) ?_
  refine pu1 ?_
  refine sT j0 5 0 (.agg #[I 8, I x, I 0, I 0, I a0.heldJob, I a0.heldTask, I 0]) [I 8, I x, I 0, I 0, I a0.heldJob, I a0.heldTask, I 0] #[I 8, I x, I 0, I 0, I a0.heldJob, I a0.heldTask, I 0] Tryz.sizeOf62 ?_
  intro _ e1
  refine nT <| retE <| retN (vs := [.agg #[I 8, I x, I 0, I 0, I a0.heldJob, I a0.heldTask, I 0]]) rfl (.cons (.cell _ _ _ _ kr (lvA e1 5 0 [I 8, I x, I 0, I 0, I a0.heldJob, I a0.heldTask, I 0] (Tryz.isAgg62 _) (Tryz.sizeOf62 _) rfl rfl rfl)) .nil) ?_
  have hFl := hFi; rw [List.take_of_length_le om] at hFl
  have hdle := done_le (com_wf hBW (i := v0.heldTask) (a := v0.attempt)).ls; rw [com_deps] at hdle
  by_cases hdn : doneOf (comB j.B v0.heldTask v0.attempt).1 = ((j.tasks.length : Nat) : Int)
  ·have s2 := (e1.picks [8, 4, 8, 8])
   have t2 := s2.merge3
   have u2 := Sat.shutN (d := ([(d0, .cells #[.slice t0 u0 w0, I j.band, Pt g0 0, .bool (canc j)] 118 (0, 0))] ++ (x0 ++ b1))) (A := []) k0 s0 t2
   have v2 := JobsP.set hJs (k := v0.heldJob) (j2 := { j with B := (comB j.B v0.heldTask v0.attempt).1, running := false }) ⟨om, om⟩ i1 (JobP.mk (s := { j with B := (comB j.B v0.heldTask v0.attempt).1, running := false }) (cn := (canc j)) l0 j1 y0 c1 ha (fun h => by cases h) ((canc_run hrun).trans (canc_done (s := { j with B := (comB j.B v0.heldTask v0.attempt).1, running := false }) hdn).symm)) ha
   have w2 := ((u2.picks [9, 9, 9, 5, 5, 9]).drops [7, 7, 7])
   have x2 := (w2.merge7)
   have he : (microF F x).1 = (⟨F.cfg, (F.ws.set x.toNat ⟨0, 0, 0, 0, 0, 0, (resetA (F.ar.getD x.toNat default)).high⟩), (F.ar.set (x).toNat (resetA (F.ar.getD (x).toNat default))), dqi, qi, (F.jobs.set v0.heldJob.toNat ({ j with B := (comB j.B v0.heldTask v0.attempt).1, running := false })), (⟨F.st.starts, (F.st.commits + 1), F.st.drops, F.st.crashes, F.st.steals, F.st.helps, sp, F.st.queued, F.st.held, F.st.cells⟩ : Stt)⟩ : FS) := by unfold microF jobAt; simp only [getD_some hv0, getD_some hj]; rw [if_neg om, if_neg om]; dsimp only; rw [hra, hFl, if_pos hdn]
   exact ⟨_, by unfold microF; simp only [getD_some hv0]; rw [if_neg om, if_neg om, e0, m0]; rfl, by rw [he]; exact ⟨_, _, _, _, _, _, _, _, _, _, _, _, _, _, rfl, d1, (core_set hco rfl), (by rw [map_setA (x' := (⟨0, 0, 0, 0, 0, a0.a, a0.d⟩ : PW)) c0 rfl]; exact o1), (by rw [map_setD (x' := (⟨0, 0, 0, 0, 0, a0.a, a0.d⟩ : PW)) c0 rfl]; exact hDi), hQi, hM, v2⟩, x2⟩
  have y2 := (e1.picks [8, 4, 8, 8])
  have z2 := y2.merge3
  have a3 := Sat.shutN (d := ([(d0, .cells #[.slice t0 u0 w0, I j.band, Pt g0 0, .bool (canc j)] 118 (0, 0))] ++ (x0 ++ b1))) (A := []) k0 s0 z2
  have b3 := JobsP.set hJs (k := v0.heldJob) (j2 := { j with B := (comB j.B v0.heldTask v0.attempt).1 }) ⟨om, om⟩ i1 (JobP.mk (s := { j with B := (comB j.B v0.heldTask v0.attempt).1 }) (cn := (canc j)) l0 j1 y0 c1 ha (fun _ => (by omega : doneOf (comB j.B v0.heldTask v0.attempt).1 < ((j.tasks.length : Nat) : Int))) ((canc_run hrun).trans (canc_run (s := { j with B := (comB j.B v0.heldTask v0.attempt).1 }) hrun).symm)) ha
  have c3 := ((a3.picks [9, 9, 9, 5, 5, 9]).drops [7, 7, 7])
  have d3 := (c3.merge7)
  have he : (microF F x).1 = (⟨F.cfg, (F.ws.set x.toNat ⟨0, 0, 0, 0, 0, 0, (resetA (F.ar.getD x.toNat default)).high⟩), (F.ar.set (x).toNat (resetA (F.ar.getD (x).toNat default))), dqi, qi, (F.jobs.set v0.heldJob.toNat ({ j with B := (comB j.B v0.heldTask v0.attempt).1 })), (⟨F.st.starts, (F.st.commits + 1), F.st.drops, F.st.crashes, F.st.steals, F.st.helps, sp, F.st.queued, F.st.held, F.st.cells⟩ : Stt)⟩ : FS) := by unfold microF jobAt; simp only [getD_some hv0, getD_some hj]; rw [if_neg om, if_neg om]; dsimp only; rw [hra, hFl, if_neg hdn]
  exact ⟨_, by unfold microF; simp only [getD_some hv0]; rw [if_neg om, if_neg om, e0, m0]; rfl, by rw [he]; exact ⟨_, _, _, _, _, _, _, _, _, _, _, _, _, _, rfl, d1, (core_set hco rfl), (by rw [map_setA (x' := (⟨0, 0, 0, 0, 0, a0.a, a0.d⟩ : PW)) c0 rfl]; exact o1), (by rw [map_setD (x' := (⟨0, 0, 0, 0, 0, a0.a, a0.d⟩ : PW)) c0 rfl]; exact hDi), hQi, hM, b3⟩, d3⟩
 refine kT <| seqE <| blockE <| sR ?_
 refine sIdx o0 ((i : Nat) : Int) Tryz.runUnderlying22 Tryz.sizeOf3 ?_
 intro b0 _ _ f1 e3
 rw [Int.toNat_natCast] at f1
 refine sLp j0 (e3.up 2 rfl) 0 (I b0) (Tryz.isAgg3 _) ?_
 refine pu1 <| nT <| sR <| pu1 ?_
 refine sL j0 4 0 (I a0.heldJob) (Tryz.isAgg3 _) ?_
 refine pu2 ?_
 refine sAlloc j0 Tryz.zeroValue60 ?_
 intro p0 _ f3
 refine sT f3 0 0 (.agg #[I a0.heldJob, I b0]) [I a0.heldJob, I b0] #[I a0.heldJob, I b0] Tryz.sizeOf60 ?_
 intro _ q0
 refine nT <| seqE ?_
 have g3 := set_at (y := (⟨0, 0, 0, 0, 0, a0.a, a0.d⟩ : PW)) c0
 have h3 := OwnT.ptr d1 rfl g3
 refine drawE [5] [(3, ⟨wb, wo + (x).toNat * 7 + 6, none⟩, .pointer (some ⟨a0.d, 0, none⟩)), (4, ⟨p0, 0, none⟩, I a0.heldJob), (4, ⟨p0, 1, none⟩, I b0)] [(true, [0, 1, 2]), (true, [3]), (true, [4]), (false, [5]), (true, [6])] rfl kr ⟨.inr ((h3.up 1 rfl).cell q0 (k := 6) rfl), .inr (q0.cell 0 rfl rfl), .inr (q0.cell 0 rfl rfl), trivial⟩ ?_
 have i3 := q0.drew
 refine wU [0, 1, 2] ?_
 refine wLd (.pointer (some ⟨a0.d, 0, none⟩)) 0 Tryz.isAgg89 ?_
 refine wY (.agg #[I a0.heldJob, I b0]) rfl (fun w hF => Y_loadF rfl (Tryz.isAgg60 w) (Tryz.sizeOf60 w) kr rfl ⟨hF 1 _ _ rfl, hF 2 _ _ rfl, trivial⟩) ?_
 refine wO rfl ?_
 obtain ⟨r0, r4, g1, p1, j3⟩ := Obs.get hDi (map_at' c0)
 have k3 := (i3.pick 11 rfl)
 have l3 := Sat.openN (A := []) x.toNat p1 k3
 refine cX Tryz.call156 (pd_push j3 (⟨a0.heldJob, b0⟩ : Ref) (Sat.flat1 l3)) ?_
 rintro _ _ ⟨h1, rfl, m3, n3⟩
 have o3 := Sat.unflat1 n3
 have p3 := (o3.picks [1, 1])
 have f0 := Sat.shutN (d := h1) (A := []) x.toNat p1 p3
 have q1 := Obs.set hDi (map_at' c0) m3
 refine nilO ⟨dA, ?_⟩
 refine wU [6] ?_
 refine wN ?_
 refine thenK_n ?_
 refine cN (pushC r0) 0 (fun q3 => ?_) (fun q3 => ?_)
 ·refine skipE <| blockK_n <| thenK_n <| regionE ?_
  refine sAdd ((i : Nat) : Int) 1 ?_
  refine pu1 <| nT ?_
  have r3 := ((f0.picks [11, 11, 11, 11, 11, 11, 11, 11, 11, 11]).dropAt 11 rfl)
  exact ⟨(i + 1, (dqi.set x.toNat (pushD r0 (⟨a0.heldJob, b0⟩ : Ref))), (dci.set x.toNat h1), qi, Qci, sp), od, alA, r3, om, q1, hQi, om, (by first | exact hdqi | (simp only [List.length_set]; exact hdqi)), (by rw [spill_take f1, hFi]; unfold spill1; simp only [getD_some g1]; rw [if_pos om]; rw [e0])⟩
 refine seqE ?_
 refine drawE [9] [(3, ⟨p, 9, none⟩, Pt q 0), (4, ⟨p0, 0, none⟩, I a0.heldJob), (4, ⟨p0, 1, none⟩, I b0), (8, ⟨d0, 1, none⟩, I j.band)] [(true, [0, 1, 2, 5, 6, 7]), (true, [3]), (true, [4]), (true, [8]), (false, [9])] rfl kr ⟨.inr (cell_up f0 11 rfl (k := 9) tri_pre rfl), .inr (f0.cell 1 rfl rfl), .inr (f0.cell 1 rfl rfl), .inr (f0.cell 8 rfl rfl), trivial⟩ ?_
 have s3 := f0.drew
 refine wU [0, 1, 2, 5, 6, 7] ?_
 refine wLd (Pt q 0) 0 Tryz.isAgg77 ?_
 refine wY (.agg #[I a0.heldJob, I b0]) rfl (fun w hF => Y_loadF rfl (Tryz.isAgg60 w) (Tryz.sizeOf60 w) kr rfl ⟨hF 1 _ _ rfl, hF 2 _ _ rfl, trivial⟩) ?_
 refine wLd (I j.band) 3 Tryz.isAgg3 ?_
 refine wO rfl ?_
 have t3 := (s3.pick 12 rfl)
 refine cX Tryz.call55 (pq_push hQi (⟨a0.heldJob, b0⟩ : Ref) j.band om (Sat.flat1 t3)) ?_
 rintro _ _ ⟨u3, rfl, v3, w3⟩
 have r1 := Sat.unflat1 w3
 refine nilO ⟨dA, ?_⟩
 refine wN ?_
 refine thenK_n <| regionE <| pu4 ?_
 refine sLp r1 (ptr_up 12 rfl (tri_post (k := 11) (tri_len (sz := 2) (m := 11) fR (rfl : ([] : List Ref).length = 0)))) 6 (I sp) (Tryz.isAgg3 _) ?_
 refine sAdd sp 1 ?_
 refine pu3 ?_
 refine sTpost r1 12 11 6 rfl (I (sp + 1)) [I (sp + 1)] [I F.st.starts, I (F.st.commits + 1), I F.st.drops, I F.st.crashes, I F.st.steals, I F.st.helps, I (sp + 1), I F.st.queued, I F.st.held, I F.st.cells] (tri_len (sz := 2) (m := 11) fR (rfl : ([] : List Ref).length = 0)) Tryz.sizeOf3 ?_
 intro _ x3
 refine nB <| regionE ?_
 refine sAdd ((i : Nat) : Int) 1 ?_
 refine pu1 <| nT ?_
 have y3 := ((x3.picks [1, 12, 12, 12, 12, 12, 12, 12, 12, 12, 12]).dropAt 12 rfl)
 have hpd : pushD r0 (⟨a0.heldJob, b0⟩ : Ref) = r0 := by unfold pushD; rw [if_neg om]
 have hLD := q1; rw [hpd, set_same g1] at hLD
 exact ⟨(i + 1, dqi, (dci.set x.toNat h1), (pushQ qi (⟨a0.heldJob, b0⟩ : Ref) j.band), u3, (sp + 1)), od, alA, y3, om, hLD, v3, om, (by first | exact hdqi | (simp only [List.length_set]; exact hdqi)), (by rw [spill_take f1, hFi]; unfold spill1; simp only [getD_some g1]; rw [if_neg om]; rw [e0])⟩
theorem pf_micro {p : Nat} {F : FS} {M : Chunk} {F0 : List Chunk} (hR : FarmP p F M) {K : Int} (hF : FI F K) {v0 : Wkr} (x : Int) (hx : 0 ≤ x ∧ x < F.ws.length) (hv0 : F.ws[x.toNat]? = some v0) (hh : Holds v0) (hrun0 : (jobAt F v0.heldJob).running = true) (h12 : F12 F) (hS : Sat W w (M :: H :: F0)) :
  Calls Tryz.prog 78 #[Pt p 0, I x] w fun e w' => ∃ M' : Chunk, e = .returned (.agg (encEvt (microF F x).2).toArray) ∧ FarmP p ((microF F x).1) M' ∧ Sat W w' (M' :: H :: F0) := by
 obtain ⟨wb, wo, wn, wk, q, m, xs, jm, Wc, Qc, Jc, acs, dcs, jcs, rfl, hOw, hco, hAs, hDs, hQ, hM, hJs⟩ := hR
 have p3 : Sat W _ ((Tri p 85 (preP F.cfg wb wo wn wk q m) (([] : List Ref).flatMap encRef) (encStt F.st)) :: Wc :: acs.flatten :: dcs.flatten :: Qc :: Jc :: jcs.flatten :: H :: F0) := Sat.perm hS (by simp)
 have hwl := hOw.len; have hwk := hOw.le; have hcl := core_len hco; have has1 := hAs.1; have hds1 := hDs.1; rw [List.length_map] at has1 hds1; have hjl1 := hJs.l
 obtain ⟨j, hj, ha, hz⟩ := hF.h.h _ _ hv0 hh; have hjo := hF.fw.j j (List.mem_of_getElem? hj); obtain ⟨hBW, hdl, hb1, hb2⟩ := hjo.b ha; have hjn := hjo.n; have hwo := hF.fw.w v0 (List.mem_of_getElem? hv0); have hk0 := hwo.h; have hr0 := hwo.r; have hlt := held_lt hBW hz; have hph : v0.phase = 1 ∨ v0.phase = 2 ∨ v0.phase = 3 := hh
 obtain ⟨o0, m0, x7, y7, f0, q3, o1⟩ := JobsP.get hJs (k := v0.heldJob) ⟨om, om⟩ hj ha
 obtain ⟨g0, h0, i0, z7, s0, t0, u0, rfl, j1, a8, p1, b8, _, c8⟩ := q3.open
 have r3 := (p3.pick 6 rfl)
 have s3 := Sat.openN (A := []) o0 f0 r3
 have t3 := s3.split3
 have hn_taj_2 := j1.len; have hl_taj_2 := j1.le; have hm_taj_2 := congrArg List.length p1; rw [List.length_map] at hm_taj_2
 have hrun : j.running = true := by unfold jobAt at hrun0; rw [getD_some hj] at hrun0; exact hrun0
 have hax := ar_some hF.fw hx; have hA0 := hF.a.a _ _ _ hv0 hax; have hro := hwo.t hh; have hrt0 : 0 ≤ v0.heldTask := hro.2.2.1; have hrt9 : v0.heldTask < ((j.tasks.length : Nat) : Int) := by obtain ⟨j9, hj9, _, _, _, _, _, _, h9⟩ := hF.fw.job hro; rw [show (⟨v0.heldJob, v0.heldTask⟩ : Ref).job = v0.heldJob from rfl, hj] at hj9; rw [Option.some.inj hj9]; exact h9
 have hs1 := hF.st.a; have hs2 := hF.st.b; have hs3 := hF.st.c; have hs4 := hF.st.d; have hs5 := hF.st.e; have hs6 := hF.st.f; have hs7 := hF.st.g; have hKK := hF.fw.k; have hal9 := hF.fw.al
 refine callsA 86 Tryz.func78 rfl ?_
 refine sR ?_
 refine sAlloc t3 Tryz.zeroValue62 ?_
 intro _ _ j0
 refine nT <| sR <| pu3 ?_
 refine sLp j0 (ptr_up 5 rfl tri_pre) 8 (.slice (some ⟨wb, wo, none⟩) wn wk) (Tryz.isAgg81 _) ?_
 refine pu1 ?_
 refine sIdxO hOw x (x).toNat Tryz.runUnderlying81 Tryz.sizeOf93 ?_
 intro a0 _ _ d0 k0 u3
 obtain ⟨rfl, rfl⟩ := some_addr u3
 obtain ⟨v3, w3, x3, p0, w0, x0, c1⟩ := core_at hco d0
 have hvv_v_15 : v3 = v0 := Option.some.inj (w3.symm.trans hv0); rw [hvv_v_15] at x3 p0 w0 x0 c1
 refine pu1 <| nT <| seqE ?_
 obtain ⟨b0, q0, r0, y3, c0, q1⟩ := RdT.elem j1 a0.heldTask
 have htk : j.tasks[v0.heldTask.toNat]? = some b0.v := by rw [← p1, ← w0, List.getElem?_map, y3]; rfl
 have hta : taskAt F v0 = b0.v := by unfold taskAt jobAt; rw [getD_some hj, getD_some htk]
 have hr2 : v0.phase = 2 → v0.row < b0.rows := fun h => by have := hA0.r2 h; rw [hta] at this; exact this
 refine drawP [9, 20, 21] [(3, ⟨p, 10, none⟩, .map (some m)), (8, ⟨wb, wo + (x).toNat * 7 + 1 + 0, none⟩, I a0.heldJob), (17, ⟨wb, wo + (x).toNat * 7 + 1 + 1, none⟩, I a0.heldTask), (12, ⟨m0, 0, none⟩, .slice g0 h0 i0), (19, ⟨q0, r0 + 0, none⟩, I b0.stage), (19, ⟨q0, r0 + 1, none⟩, I b0.part), (19, ⟨q0, r0 + 2, none⟩, I b0.rectX0), (19, ⟨q0, r0 + 3, none⟩, I b0.rectY0), (19, ⟨q0, r0 + 4, none⟩, I b0.rectX1), (19, ⟨q0, r0 + 5, none⟩, I b0.rectY1), (19, ⟨q0, r0 + 6, none⟩, .slice b0.deps.a b0.deps.n b0.deps.k), (19, ⟨q0, r0 + 7, none⟩, I b0.rows), (19, ⟨q0, r0 + 8, none⟩, I b0.scratch)] (Plan.sts [0, 1, 2, 4, 5, 6, 7, 13, 14, 15, 16] <| Plan.sts [3] <| Plan.sts [8] <| Plan.sts [17] <| .fk 9 20 (Plan.sts [10, 11] <| Plan.sts [12] <| Plan.sts [18] <| Plan.sts [19] <| .ef 20 <| .ef 21 <| .fin) (.ef 9 <| Plan.sts [10, 11] <| Plan.sts [12] <| Plan.sts [18] <| Plan.sts [19] <| .ef 21 <| .fin)) rfl kr ⟨.inr (cell_up j0 5 rfl (k := 10) tri_pre rfl), .inr ((k0.up 6 rfl).cell j0 (k := 1) rfl), .inr ((k0.up 6 rfl).cell j0 (k := 2) rfl), .inr (j0.cell 1 rfl rfl), .inr ((c0.up 2 rfl).cell j0 (k := 0) rfl), .inr ((c0.up 2 rfl).cell j0 (k := 1) rfl), .inr ((c0.up 2 rfl).cell j0 (k := 2) rfl), .inr ((c0.up 2 rfl).cell j0 (k := 3) rfl), .inr ((c0.up 2 rfl).cell j0 (k := 4) rfl), .inr ((c0.up 2 rfl).cell j0 (k := 5) rfl), .inr ((c0.up 2 rfl).cell j0 (k := 6) rfl), .inr ((c0.up 2 rfl).cell j0 (k := 7) rfl), .inr ((c0.up 2 rfl).cell j0 (k := 8) rfl), trivial⟩ ?_
 have l0 := j0.drew
 refine qU [0, 1, 2, 4, 5, 6, 7, 13, 14, 15, 16] ?_
 refine qLd (.map (some m)) 0 Tryz.isAgg80 ?_
 refine qLd (I a0.heldJob) 1 Tryz.isAgg3 ?_
 refine qLd (I a0.heldTask) 2 Tryz.isAgg3 ?_
 refine qF ?_ ?_
 ·refine qO rfl ?_
  refine stepY (Pt m0 0) rfl rfl (Y_iget (k := a0.heldJob) l0 10 hM (by rw [p0, o1]; rfl) Tryz.runUnderlying80 Tryz.runUnderlying3 Tryz.zeroValue111) ?_
  refine nilO ⟨⟨dI, dI, .inr ((k0.up 6 rfl).cell l0 (k := 2) rfl), .inr (l0.cell 1 rfl rfl), .inr ((c0.up 2 rfl).cell l0 (k := 0) rfl), .inr ((c0.up 2 rfl).cell l0 (k := 1) rfl), .inr ((c0.up 2 rfl).cell l0 (k := 2) rfl), .inr ((c0.up 2 rfl).cell l0 (k := 3) rfl), .inr ((c0.up 2 rfl).cell l0 (k := 4) rfl), .inr ((c0.up 2 rfl).cell l0 (k := 5) rfl), .inr ((c0.up 2 rfl).cell l0 (k := 6) rfl), .inr ((c0.up 2 rfl).cell l0 (k := 7) rfl), .inr ((c0.up 2 rfl).cell l0 (k := 8) rfl), trivial⟩, ?_⟩
  refine qU [10, 11] ?_
  refine qLd (.slice g0 h0 i0) 3 Tryz.isAgg39 ?_
  refine qY (.pointer (some ⟨q0, r0, none⟩)) rfl (fun w _ => Y_idx (a := g0) (i := a0.heldTask) (len := h0) (cap := i0) rfl Tryz.runUnderlying39 Tryz.sizeOf45 kr kr q1) ?_
  refine qY (.agg (encTask b0).toArray) rfl (fun w hF => Y_loadF rfl (Tryz.isAgg45 w) (Tryz.sizeOf45 w) kr rfl ⟨hF 4 _ _ rfl, hF 5 _ _ rfl, hF 6 _ _ rfl, hF 7 _ _ rfl, hF 8 _ _ rfl, hF 9 _ _ rfl, hF 10 _ _ rfl, hF 11 _ _ rfl, hF 12 _ _ rfl, trivial⟩) ?_
  refine qO rfl ?_
  refine sAlloc l0 Tryz.zeroValue45 ?_
  intro s1 _ n0
  refine nilO ⟨⟨dI, dI, .inr ((k0.up 7 rfl).cell n0 (k := 2) rfl), .inr (n0.cell 2 rfl rfl), .inr ((c0.up 3 rfl).cell n0 (k := 0) rfl), .inr ((c0.up 3 rfl).cell n0 (k := 1) rfl), .inr ((c0.up 3 rfl).cell n0 (k := 2) rfl), .inr ((c0.up 3 rfl).cell n0 (k := 3) rfl), .inr ((c0.up 3 rfl).cell n0 (k := 4) rfl), .inr ((c0.up 3 rfl).cell n0 (k := 5) rfl), .inr ((c0.up 3 rfl).cell n0 (k := 6) rfl), .inr ((c0.up 3 rfl).cell n0 (k := 7) rfl), .inr ((c0.up 3 rfl).cell n0 (k := 8) rfl), trivial⟩, ?_⟩
  refine qO rfl ?_
  refine sT n0 0 0 (.agg (encTask b0).toArray) (encTask b0) (encTask b0).toArray Tryz.sizeOf45 ?_
  intro _ a1
  refine nilO ⟨dA, ?_⟩
  refine qN ?_
  refine thenK_n <| seqE <| sR <| pu3 ?_
  refine sLp a1 (k0.up 7 rfl) 0 (I a0.phase) (Tryz.isAgg3 _) ?_
  refine nT <| blockE <| sR <| pu2 <| nT ?_
  refine cE a0.phase 1 (fun z3 => ?_) (fun z3 => ?_)
  rotate_left
  ·refine sR <| pu2 <| nT ?_
   refine cE a0.phase 2 (fun a4 => ?_) (fun a4 => ?_)
   rotate_left
   ·refine skipE <| blockK_n <| thenK_n <| sR <| pu2 ?_
    have b4 := (a1.picks [5, 5, 5, 5])
    have c4 := b4.merge3
    have t1 := Sat.shutN (d := ([(m0, .cells #[.slice g0 h0 i0, I j.band, Pt s0 0, .bool (canc j)] 118 (0, 0))] ++ (t0 ++ u0))) (A := []) o0 f0 c4
    rw [set_same f0] at t1
    have d4 := (t1.picks [8, 8, 8, 8, 8, 8])
    have e4 := (d4.merge7)
    have f4 : FarmP p F ((Tri p 85 (preP F.cfg wb wo wn wk q m) (([] : List Ref).flatMap encRef) (encStt F.st)) ++ (Wc ++ (acs.flatten ++ (dcs.flatten ++ (Qc ++ (Jc ++ jcs.flatten)))))) := ⟨_, _, _, _, _, _, _, _, _, _, _, _, _, _, rfl, hOw, hco, hAs, hDs, hQ, hM, hJs⟩
    refine cX Tryz.call126 (pf_commit f4 hF x hx hv0 hh hrun0 h12 (by have := hph; omega) (Sat.flat1 e4)) ?_
    rintro _ _ ⟨_, rfl, g4, h4⟩
    have i4 := Sat.unflat1 h4
    obtain ⟨d1, u1⟩ : ∃ z, z = (microF F x).2 := ⟨_, rfl⟩; rw [← u1]
    refine sT i4 2 0 (.agg (encEvt d1).toArray) (encEvt d1) (encEvt d1).toArray Tryz.sizeOf62 ?_
    intro _ v1
    refine nT <| retE <| retN (vs := [.agg (encEvt d1).toArray]) rfl (.cons (.cell _ _ _ _ kr (lvA v1 2 0 (encEvt d1) (Tryz.isAgg62 _) (Tryz.sizeOf62 _) rfl rfl rfl)) .nil) ?_
    have j4 := (v1.drops [1, 1])
    exact ⟨_, by rw [u1]; rfl, g4, j4⟩
   refine sR <| pu3 ?_
   refine sLp a1 (k0.up 7 rfl) 4 (I a0.row) (Tryz.isAgg3 _) ?_
   refine sAdd a0.row 1 ?_
   refine pu2 ?_
   refine sStF a1 hOw rfl 7 (x).toNat 4 a0 (⟨a0.phase, a0.heldJob, a0.heldTask, a0.attempt, (a0.row + 1), a0.a, a0.d⟩ : PW) d0 (I (a0.row + 1)) [I (a0.row + 1)] Tryz.sizeOf3 ?_
   intro _ _ k1 l1
   refine nT <| seqE <| seqE ?_
   have w1 := set_at (y := (⟨a0.phase, a0.heldJob, a0.heldTask, a0.attempt, (a0.row + 1), a0.a, a0.d⟩ : PW)) d0
   have k4 := OwnT.ptr k1 rfl w1
   refine drawE [] [(3, ⟨wb, wo + (x).toNat * 7 + 4, none⟩, I (a0.row + 1)), (5, ⟨s1, 7, none⟩, I b0.rows)] [(true, [0, 1, 2, 4]), (true, [3]), (true, [5]), (true, [6])] rfl kr ⟨.inr ((k4.up 7 rfl).cell l1 (k := 4) rfl), .inr (l1.cell 0 rfl rfl), trivial⟩ ?_
   have x1 := l1.drew
   refine wU [0, 1, 2, 4] ?_
   refine wLd (I (a0.row + 1)) 0 Tryz.isAgg3 ?_
   refine wLd (I b0.rows) 1 Tryz.isAgg3 ?_
   refine wU [6] ?_
   refine wN ?_
   refine thenK_n ?_
   refine cD ((a0.row + 1) ≥ b0.rows) (fun l4 => ?_) (fun l4 => ?_)
   rotate_left
   ·refine kT <| sR <| pu2 ?_
    refine sT x1 1 0 (.agg #[I 7, I x, I 0, I 0, I 0, I 0, I 0]) [I 7, I x, I 0, I 0, I 0, I 0, I 0] #[I 7, I x, I 0, I 0, I 0, I 0, I 0] Tryz.sizeOf62 ?_
    intro _ y1
    refine nT <| retE <| blockK_r <| thenK_r <| retN (vs := [.agg #[I 7, I x, I 0, I 0, I 0, I 0, I 0]]) rfl (.cons (.cell _ _ _ _ kr (lvA y1 1 0 [I 7, I x, I 0, I 0, I 0, I 0, I 0] (Tryz.isAgg62 _) (Tryz.sizeOf62 _) rfl rfl rfl)) .nil) ?_
    have m4 := (y1.picks [5, 5, 5, 5])
    have n4 := m4.merge3
    have z1 := Sat.shutN (d := ([(m0, .cells #[.slice g0 h0 i0, I j.band, Pt s0 0, .bool (canc j)] 118 (0, 0))] ++ (t0 ++ u0))) (A := []) o0 f0 n4
    rw [set_same f0] at z1
    have o4 := ((z1.picks [8, 8, 8, 8, 8, 8]).drops [7, 7])
    have p4 := (o4.merge7)
    have he : (microF F x).1 = (⟨F.cfg, (F.ws.set x.toNat (⟨2, v0.heldJob, v0.heldTask, v0.attempt, v0.row + 1, v0.used, v0.high⟩ : Wkr)), F.ar, F.dq, F.q, F.jobs, F.st⟩ : FS) := by unfold microF jobAt; simp only [getD_some hv0, getD_some hj, getD_some htk]; rw [if_neg om, if_pos om]; rw [if_neg (show ¬ v0.row + 1 = b0.v.rows from show ¬ v0.row + 1 = b0.rows by omega)]
    exact ⟨_, by unfold microF; simp only [getD_some hv0]; rw [if_neg om, if_pos om]; rfl, by rw [he]; exact ⟨_, _, _, _, _, _, _, _, _, _, _, _, _, _, rfl, k1, (core_set hco (show (⟨a0.phase, a0.heldJob, a0.heldTask, a0.attempt, (a0.row + 1)⟩ : Core) = ⟨2, v0.heldJob, v0.heldTask, v0.attempt, v0.row + 1⟩ by rw [p0, w0, x0, c1]; congr 1 <;> omega)), (by rw [map_setA (x' := (⟨a0.phase, a0.heldJob, a0.heldTask, a0.attempt, (a0.row + 1), a0.a, a0.d⟩ : PW)) d0 rfl]; exact hAs), (by rw [map_setD (x' := (⟨a0.phase, a0.heldJob, a0.heldTask, a0.attempt, (a0.row + 1), a0.a, a0.d⟩ : PW)) d0 rfl]; exact hDs), hQ, hM, hJs⟩, p4⟩
   refine regionE <| pu3 ?_
   refine sStF x1 k1 rfl 7 (x).toNat 0 (⟨a0.phase, a0.heldJob, a0.heldTask, a0.attempt, (a0.row + 1), a0.a, a0.d⟩ : PW) (⟨3, a0.heldJob, a0.heldTask, a0.attempt, (a0.row + 1), a0.a, a0.d⟩ : PW) w1 (I 3) [I 3] Tryz.sizeOf3 ?_
   intro _ _ a2 q4
   rw [List.set_set] at a2
   refine nT <| sR <| pu2 ?_
   refine sT q4 1 0 (.agg #[I 7, I x, I 0, I 0, I 0, I 0, I 0]) [I 7, I x, I 0, I 0, I 0, I 0, I 0] #[I 7, I x, I 0, I 0, I 0, I 0, I 0] Tryz.sizeOf62 ?_
   intro _ b2
   refine nT <| retE <| blockK_r <| thenK_r <| retN (vs := [.agg #[I 7, I x, I 0, I 0, I 0, I 0, I 0]]) rfl (.cons (.cell _ _ _ _ kr (lvA b2 1 0 [I 7, I x, I 0, I 0, I 0, I 0, I 0] (Tryz.isAgg62 _) (Tryz.sizeOf62 _) rfl rfl rfl)) .nil) ?_
   have r4 := (b2.picks [5, 5, 5, 5])
   have s4 := r4.merge3
   have c2 := Sat.shutN (d := ([(m0, .cells #[.slice g0 h0 i0, I j.band, Pt s0 0, .bool (canc j)] 118 (0, 0))] ++ (t0 ++ u0))) (A := []) o0 f0 s4
   rw [set_same f0] at c2
   have t4 := ((c2.picks [8, 8, 8, 8, 8, 8]).drops [7, 7])
   have u4 := (t4.merge7)
   have he : (microF F x).1 = (⟨F.cfg, (F.ws.set x.toNat (⟨3, v0.heldJob, v0.heldTask, v0.attempt, v0.row + 1, v0.used, v0.high⟩ : Wkr)), F.ar, F.dq, F.q, F.jobs, F.st⟩ : FS) := by unfold microF jobAt; simp only [getD_some hv0, getD_some hj, getD_some htk]; rw [if_neg om, if_pos om]; rw [if_pos (show v0.row + 1 = b0.v.rows from show v0.row + 1 = b0.rows by have := hr2 om; omega)]
   exact ⟨_, by unfold microF; simp only [getD_some hv0]; rw [if_neg om, if_pos om]; rfl, by rw [he]; exact ⟨_, _, _, _, _, _, _, _, _, _, _, _, _, _, rfl, a2, (core_set hco (show (⟨3, a0.heldJob, a0.heldTask, a0.attempt, (a0.row + 1)⟩ : Core) = ⟨3, v0.heldJob, v0.heldTask, v0.attempt, v0.row + 1⟩ by rw [p0, w0, x0, c1])), (by rw [map_setA (x' := (⟨3, a0.heldJob, a0.heldTask, a0.attempt, (a0.row + 1), a0.a, a0.d⟩ : PW)) d0 rfl]; exact hAs), (by rw [map_setD (x' := (⟨3, a0.heldJob, a0.heldTask, a0.attempt, (a0.row + 1), a0.a, a0.d⟩ : PW)) d0 rfl]; exact hDs), hQ, hM, hJs⟩, u4⟩
  refine sR <| pu3 ?_
  refine sLp a1 (k0.up 7 rfl) 5 (.pointer (some ⟨a0.a, 0, none⟩)) (Tryz.isAgg86 _) ?_
  obtain ⟨y0, s8, d2, h1, v4⟩ := Obs.get hAs (map_at' d0)
  have w4 := (a1.pick 8 rfl)
  have x4 := Sat.openN (A := []) x.toNat h1 w4
  refine cX Tryz.call124 (pa_mark v4  (Sat.flat1 x4)) ?_
  rintro _ _ ⟨y4, rfl, e2, z4⟩
  have a5 := Sat.unflat1 z4
  have b5 := (a5.picks [1, 1])
  have e1 := Sat.shutN (d := y4) (A := []) x.toNat h1 b5
  have f2 := Obs.set hAs (map_at' d0) e2
  refine nT <| seqE <| sR <| pu1 ?_
  refine sL e1 1 8 (I b0.scratch) (Tryz.isAgg3 _) ?_
  refine pu1 <| nT ?_
  refine cD (b0.scratch > 0) (fun c5 => ?_) (fun c5 => ?_)
  rotate_left
  ·refine kT <| sR <| pu3 ?_
   refine sStF e1 hOw rfl 8 (x).toNat 0 a0 (⟨2, a0.heldJob, a0.heldTask, a0.attempt, a0.row, a0.a, a0.d⟩ : PW) d0 (I 2) [I 2] Tryz.sizeOf3 ?_
   intro _ _ g2 d5
   refine nT <| sR <| pu3 ?_
   have h2 := set_at (y := (⟨2, a0.heldJob, a0.heldTask, a0.attempt, a0.row, a0.a, a0.d⟩ : PW)) d0
   have w8 := OwnT.ptr g2 rfl h2
   refine sStF d5 g2 rfl 8 (x).toNat 4 (⟨2, a0.heldJob, a0.heldTask, a0.attempt, a0.row, a0.a, a0.d⟩ : PW) (⟨2, a0.heldJob, a0.heldTask, a0.attempt, 0, a0.a, a0.d⟩ : PW) h2 (I 0) [I 0] Tryz.sizeOf3 ?_
   intro _ _ i2 e5
   rw [List.set_set] at i2
   refine nT <| sR <| pu2 ?_
   refine sT e5 2 0 (.agg #[I 6, I x, I 0, I 0, I 0, I 0, I 0]) [I 6, I x, I 0, I 0, I 0, I 0, I 0] #[I 6, I x, I 0, I 0, I 0, I 0, I 0] Tryz.sizeOf62 ?_
   intro _ j2
   refine nT <| retE <| blockK_r <| thenK_r <| retN (vs := [.agg #[I 6, I x, I 0, I 0, I 0, I 0, I 0]]) rfl (.cons (.cell _ _ _ _ kr (lvA j2 2 0 [I 6, I x, I 0, I 0, I 0, I 0, I 0] (Tryz.isAgg62 _) (Tryz.sizeOf62 _) rfl rfl rfl)) .nil) ?_
   have f5 := (j2.picks [6, 6, 6, 6])
   have g5 := f5.merge3
   have k2 := Sat.shutN (d := ([(m0, .cells #[.slice g0 h0 i0, I j.band, Pt s0 0, .bool (canc j)] 118 (0, 0))] ++ (t0 ++ u0))) (A := []) o0 f0 g5
   rw [set_same f0] at k2
   have hrow0 := hA0.r1 om
   have h5 := ((k2.picks [8, 8, 8, 4, 8, 8]).drops [7, 7])
   have i5 := (h5.merge7)
   have he : (microF F x).1 = (⟨F.cfg, (F.ws.set x.toNat (⟨2, v0.heldJob, v0.heldTask, v0.attempt, v0.row, (markA y0).used, (markA y0).high⟩ : Wkr)), (F.ar.set x.toNat (markA y0)), F.dq, F.q, F.jobs, F.st⟩ : FS) := by unfold microF jobAt; simp only [getD_some hv0, getD_some hj, getD_some htk, getD_some d2]; rw [if_pos om]; rw [if_neg (show ¬ b0.v.scratch > 0 from show ¬ b0.scratch > 0 by omega)]
   exact ⟨_, by unfold microF; simp only [getD_some hv0]; rw [if_pos om]; rfl, by rw [he]; exact ⟨_, _, _, _, _, _, _, _, _, _, _, _, _, _, rfl, i2, (core_set hco (show (⟨2, a0.heldJob, a0.heldTask, a0.attempt, 0⟩ : Core) = ⟨2, v0.heldJob, v0.heldTask, v0.attempt, v0.row⟩ by rw [p0, w0, x0, hrow0])), (by rw [map_setA (x' := (⟨2, a0.heldJob, a0.heldTask, a0.attempt, 0, a0.a, a0.d⟩ : PW)) d0 rfl]; exact f2), (by rw [map_setD (x' := (⟨2, a0.heldJob, a0.heldTask, a0.attempt, 0, a0.a, a0.d⟩ : PW)) d0 rfl]; exact hDs), hQ, hM, hJs⟩, i5⟩
  refine drawE [6] [(3, ⟨wb, wo + (x).toNat * 7 + 5, none⟩, .pointer (some ⟨a0.a, 0, none⟩)), (5, ⟨s1, 8, none⟩, I b0.scratch)] [(true, [0, 1, 2, 4]), (true, [3]), (true, [5]), (false, [6])] rfl kr ⟨.inr ((k0.up 8 rfl).cell e1 (k := 5) rfl), .inr (e1.cell 1 rfl rfl), trivial⟩ ?_
  have j5 := e1.drew
  refine wU [0, 1, 2, 4] ?_
  refine wLd (.pointer (some ⟨a0.a, 0, none⟩)) 0 Tryz.isAgg86 ?_
  refine wLd (I b0.scratch) 1 Tryz.isAgg3 ?_
  refine wO rfl ?_
  have k5 := Sat.openN (A := []) x.toNat (set_at h1) j5
  refine cX Tryz.call125 (pa_alloc e2 b0.scratch 16 (Sat.flat1 k5)) ?_
  rintro _ _ ⟨l5, _, rfl, m5, n5⟩
  have o5 := Sat.unflat1 n5
  have p5 := (o5.picks [1, 1])
  have q5 := Sat.shutN (d := l5) (A := []) x.toNat (set_at h1) p5
  have r5 := Obs.set f2 (map_at' d0) m5
  refine nilO ⟨dA, ?_⟩
  refine wN ?_
  refine thenK_n <| sR <| pu3 ?_
  refine sStF q5 hOw rfl 8 (x).toNat 0 a0 (⟨2, a0.heldJob, a0.heldTask, a0.attempt, a0.row, a0.a, a0.d⟩ : PW) d0 (I 2) [I 2] Tryz.sizeOf3 ?_
  intro _ _ l2 s5
  refine nT <| sR <| pu3 ?_
  have m2 := set_at (y := (⟨2, a0.heldJob, a0.heldTask, a0.attempt, a0.row, a0.a, a0.d⟩ : PW)) d0
  have e9 := OwnT.ptr l2 rfl m2
  refine sStF s5 l2 rfl 8 (x).toNat 4 (⟨2, a0.heldJob, a0.heldTask, a0.attempt, a0.row, a0.a, a0.d⟩ : PW) (⟨2, a0.heldJob, a0.heldTask, a0.attempt, 0, a0.a, a0.d⟩ : PW) m2 (I 0) [I 0] Tryz.sizeOf3 ?_
  intro _ _ n2 t5
  rw [List.set_set] at n2
  refine nT <| sR <| pu2 ?_
  refine sT t5 2 0 (.agg #[I 6, I x, I 0, I 0, I 0, I 0, I 0]) [I 6, I x, I 0, I 0, I 0, I 0, I 0] #[I 6, I x, I 0, I 0, I 0, I 0, I 0] Tryz.sizeOf62 ?_
  intro _ o2
  refine nT <| retE <| blockK_r <| thenK_r <| retN (vs := [.agg #[I 6, I x, I 0, I 0, I 0, I 0, I 0]]) rfl (.cons (.cell _ _ _ _ kr (lvA o2 2 0 [I 6, I x, I 0, I 0, I 0, I 0, I 0] (Tryz.isAgg62 _) (Tryz.sizeOf62 _) rfl rfl rfl)) .nil) ?_
  have u5 := (o2.picks [6, 6, 6, 6])
  have v5 := u5.merge3
  have p2 := Sat.shutN (d := ([(m0, .cells #[.slice g0 h0 i0, I j.band, Pt s0 0, .bool (canc j)] 118 (0, 0))] ++ (t0 ++ u0))) (A := []) o0 f0 v5
  rw [set_same f0] at p2
  have hrow0 := hA0.r1 om
  have w5 := ((p2.picks [8, 8, 8, 4, 8, 8]).drops [7, 7])
  have x5 := (w5.merge7)
  have he : (microF F x).1 = (⟨F.cfg, (F.ws.set x.toNat (⟨2, v0.heldJob, v0.heldTask, v0.attempt, v0.row, (allocA (markA y0) b0.scratch 16).used, (allocA (markA y0) b0.scratch 16).high⟩ : Wkr)), ((F.ar.set x.toNat (markA y0)).set x.toNat (allocA (markA y0) b0.scratch 16)), F.dq, F.q, F.jobs, F.st⟩ : FS) := by unfold microF jobAt; simp only [getD_some hv0, getD_some hj, getD_some htk, getD_some d2]; rw [if_pos om]; rw [if_pos (show b0.v.scratch > 0 from show b0.scratch > 0 by omega)]; simp only [List.set_set]; rfl
  exact ⟨_, by unfold microF; simp only [getD_some hv0]; rw [if_pos om]; rfl, by rw [he]; exact ⟨_, _, _, _, _, _, _, _, _, _, _, _, _, _, rfl, n2, (core_set hco (show (⟨2, a0.heldJob, a0.heldTask, a0.attempt, 0⟩ : Core) = ⟨2, v0.heldJob, v0.heldTask, v0.attempt, v0.row⟩ by rw [p0, w0, x0, hrow0])), (by rw [map_setA (x' := (⟨2, a0.heldJob, a0.heldTask, a0.attempt, 0, a0.a, a0.d⟩ : PW)) d0 rfl]; exact r5), (by rw [map_setD (x' := (⟨2, a0.heldJob, a0.heldTask, a0.attempt, 0, a0.a, a0.d⟩ : PW)) d0 rfl]; exact hDs), hQ, hM, hJs⟩, x5⟩
 refine qO rfl ?_
 refine sAlloc l0 Tryz.zeroValue45 ?_
 intro q2 _ e0
 refine nilO ⟨⟨.inr (cell_up e0 6 rfl (k := 10) tri_pre rfl), .inr ((k0.up 7 rfl).cell e0 (k := 1) rfl), .inr ((k0.up 7 rfl).cell e0 (k := 2) rfl), .inr (e0.cell 2 rfl rfl), .inr ((c0.up 3 rfl).cell e0 (k := 0) rfl), .inr ((c0.up 3 rfl).cell e0 (k := 1) rfl), .inr ((c0.up 3 rfl).cell e0 (k := 2) rfl), .inr ((c0.up 3 rfl).cell e0 (k := 3) rfl), .inr ((c0.up 3 rfl).cell e0 (k := 4) rfl), .inr ((c0.up 3 rfl).cell e0 (k := 5) rfl), .inr ((c0.up 3 rfl).cell e0 (k := 6) rfl), .inr ((c0.up 3 rfl).cell e0 (k := 7) rfl), .inr ((c0.up 3 rfl).cell e0 (k := 8) rfl), trivial⟩, ?_⟩
 refine qO rfl ?_
 refine stepY (Pt m0 0) rfl rfl (Y_iget (k := a0.heldJob) e0 11 hM (by rw [p0, o1]; rfl) Tryz.runUnderlying80 Tryz.runUnderlying3 Tryz.zeroValue111) ?_
 refine nilO ⟨⟨dI, dI, .inr ((k0.up 7 rfl).cell e0 (k := 2) rfl), .inr (e0.cell 2 rfl rfl), .inr ((c0.up 3 rfl).cell e0 (k := 0) rfl), .inr ((c0.up 3 rfl).cell e0 (k := 1) rfl), .inr ((c0.up 3 rfl).cell e0 (k := 2) rfl), .inr ((c0.up 3 rfl).cell e0 (k := 3) rfl), .inr ((c0.up 3 rfl).cell e0 (k := 4) rfl), .inr ((c0.up 3 rfl).cell e0 (k := 5) rfl), .inr ((c0.up 3 rfl).cell e0 (k := 6) rfl), .inr ((c0.up 3 rfl).cell e0 (k := 7) rfl), .inr ((c0.up 3 rfl).cell e0 (k := 8) rfl), trivial⟩, ?_⟩
 refine qU [10, 11] ?_
 refine qLd (.slice g0 h0 i0) 3 Tryz.isAgg39 ?_
 refine qY (.pointer (some ⟨q0, r0, none⟩)) rfl (fun w _ => Y_idx (a := g0) (i := a0.heldTask) (len := h0) (cap := i0) rfl Tryz.runUnderlying39 Tryz.sizeOf45 kr kr q1) ?_
 refine qY (.agg (encTask b0).toArray) rfl (fun w hF => Y_loadF rfl (Tryz.isAgg45 w) (Tryz.sizeOf45 w) kr rfl ⟨hF 4 _ _ rfl, hF 5 _ _ rfl, hF 6 _ _ rfl, hF 7 _ _ rfl, hF 8 _ _ rfl, hF 9 _ _ rfl, hF 10 _ _ rfl, hF 11 _ _ rfl, hF 12 _ _ rfl, trivial⟩) ?_
 refine qO rfl ?_
 refine sT e0 0 0 (.agg (encTask b0).toArray) (encTask b0) (encTask b0).toArray Tryz.sizeOf45 ?_
 intro _ b1
 refine nilO ⟨dA, ?_⟩
 refine qN ?_
 refine thenK_n <| seqE <| sR <| pu3 ?_
 refine sLp b1 (k0.up 7 rfl) 0 (I a0.phase) (Tryz.isAgg3 _) ?_
 refine nT <| blockE <| sR <| pu2 <| nT ?_
 refine cE a0.phase 1 (fun y5 => ?_) (fun y5 => ?_)
 rotate_left
 ·refine sR <| pu2 <| nT ?_
  refine cE a0.phase 2 (fun z5 => ?_) (fun z5 => ?_)
  rotate_left
  ·refine skipE <| blockK_n <| thenK_n <| sR <| pu2 ?_
   have a6 := (b1.picks [5, 5, 5, 5])
   have b6 := a6.merge3
   have s2 := Sat.shutN (d := ([(m0, .cells #[.slice g0 h0 i0, I j.band, Pt s0 0, .bool (canc j)] 118 (0, 0))] ++ (t0 ++ u0))) (A := []) o0 f0 b6
   rw [set_same f0] at s2
   have c6 := (s2.picks [8, 8, 8, 8, 8, 8])
   have d6 := (c6.merge7)
   have e6 : FarmP p F ((Tri p 85 (preP F.cfg wb wo wn wk q m) (([] : List Ref).flatMap encRef) (encStt F.st)) ++ (Wc ++ (acs.flatten ++ (dcs.flatten ++ (Qc ++ (Jc ++ jcs.flatten)))))) := ⟨_, _, _, _, _, _, _, _, _, _, _, _, _, _, rfl, hOw, hco, hAs, hDs, hQ, hM, hJs⟩
   refine cX Tryz.call126 (pf_commit e6 hF x hx hv0 hh hrun0 h12 (by have := hph; omega) (Sat.flat1 d6)) ?_
   rintro _ _ ⟨_, rfl, f6, g6⟩
   have h6 := Sat.unflat1 g6
   obtain ⟨f1, t2⟩ : ∃ z, z = (microF F x).2 := ⟨_, rfl⟩; rw [← t2]
   refine sT h6 2 0 (.agg (encEvt f1).toArray) (encEvt f1) (encEvt f1).toArray Tryz.sizeOf62 ?_
   intro _ u2
   refine nT <| retE <| retN (vs := [.agg (encEvt f1).toArray]) rfl (.cons (.cell _ _ _ _ kr (lvA u2 2 0 (encEvt f1) (Tryz.isAgg62 _) (Tryz.sizeOf62 _) rfl rfl rfl)) .nil) ?_
   have i6 := (u2.drops [1, 1])
   exact ⟨_, by rw [t2]; rfl, f6, i6⟩
  refine sR <| pu3 ?_
  refine sLp b1 (k0.up 7 rfl) 4 (I a0.row) (Tryz.isAgg3 _) ?_
  refine sAdd a0.row 1 ?_
  refine pu2 ?_
  refine sStF b1 hOw rfl 7 (x).toNat 4 a0 (⟨a0.phase, a0.heldJob, a0.heldTask, a0.attempt, (a0.row + 1), a0.a, a0.d⟩ : PW) d0 (I (a0.row + 1)) [I (a0.row + 1)] Tryz.sizeOf3 ?_
  intro _ _ m1 n1
  refine nT <| seqE <| seqE ?_
  have v2 := set_at (y := (⟨a0.phase, a0.heldJob, a0.heldTask, a0.attempt, (a0.row + 1), a0.a, a0.d⟩ : PW)) d0
  have j6 := OwnT.ptr m1 rfl v2
  refine drawE [] [(3, ⟨wb, wo + (x).toNat * 7 + 4, none⟩, I (a0.row + 1)), (5, ⟨q2, 7, none⟩, I b0.rows)] [(true, [0, 1, 2, 4]), (true, [3]), (true, [5]), (true, [6])] rfl kr ⟨.inr ((j6.up 7 rfl).cell n1 (k := 4) rfl), .inr (n1.cell 0 rfl rfl), trivial⟩ ?_
  have w2 := n1.drew
  refine wU [0, 1, 2, 4] ?_
  refine wLd (I (a0.row + 1)) 0 Tryz.isAgg3 ?_
  refine wLd (I b0.rows) 1 Tryz.isAgg3 ?_
  refine wU [6] ?_
  refine wN ?_
  refine thenK_n ?_
  refine cD ((a0.row + 1) ≥ b0.rows) (fun k6 => ?_) (fun k6 => ?_)
  rotate_left
  ·refine kT <| sR <| pu2 ?_
   refine sT w2 1 0 (.agg #[I 7, I x, I 0, I 0, I 0, I 0, I 0]) [I 7, I x, I 0, I 0, I 0, I 0, I 0] #[I 7, I x, I 0, I 0, I 0, I 0, I 0] Tryz.sizeOf62 ?_
   intro _ x2
   refine nT <| retE <| blockK_r <| thenK_r <| retN (vs := [.agg #[I 7, I x, I 0, I 0, I 0, I 0, I 0]]) rfl (.cons (.cell _ _ _ _ kr (lvA x2 1 0 [I 7, I x, I 0, I 0, I 0, I 0, I 0] (Tryz.isAgg62 _) (Tryz.sizeOf62 _) rfl rfl rfl)) .nil) ?_
   have l6 := (x2.picks [5, 5, 5, 5])
   have m6 := l6.merge3
   have y2 := Sat.shutN (d := ([(m0, .cells #[.slice g0 h0 i0, I j.band, Pt s0 0, .bool (canc j)] 118 (0, 0))] ++ (t0 ++ u0))) (A := []) o0 f0 m6
   rw [set_same f0] at y2
   have n6 := ((y2.picks [8, 8, 8, 8, 8, 8]).drops [7, 7])
   have o6 := (n6.merge7)
   have he : (microF F x).1 = (⟨F.cfg, (F.ws.set x.toNat (⟨2, v0.heldJob, v0.heldTask, v0.attempt, v0.row + 1, v0.used, v0.high⟩ : Wkr)), F.ar, F.dq, F.q, F.jobs, F.st⟩ : FS) := by unfold microF jobAt; simp only [getD_some hv0, getD_some hj, getD_some htk]; rw [if_neg om, if_pos om]; rw [if_neg (show ¬ v0.row + 1 = b0.v.rows from show ¬ v0.row + 1 = b0.rows by omega)]
   exact ⟨_, by unfold microF; simp only [getD_some hv0]; rw [if_neg om, if_pos om]; rfl, by rw [he]; exact ⟨_, _, _, _, _, _, _, _, _, _, _, _, _, _, rfl, m1, (core_set hco (show (⟨a0.phase, a0.heldJob, a0.heldTask, a0.attempt, (a0.row + 1)⟩ : Core) = ⟨2, v0.heldJob, v0.heldTask, v0.attempt, v0.row + 1⟩ by rw [p0, w0, x0, c1]; congr 1 <;> omega)), (by rw [map_setA (x' := (⟨a0.phase, a0.heldJob, a0.heldTask, a0.attempt, (a0.row + 1), a0.a, a0.d⟩ : PW)) d0 rfl]; exact hAs), (by rw [map_setD (x' := (⟨a0.phase, a0.heldJob, a0.heldTask, a0.attempt, (a0.row + 1), a0.a, a0.d⟩ : PW)) d0 rfl]; exact hDs), hQ, hM, hJs⟩, o6⟩
  refine regionE <| pu3 ?_
  refine sStF w2 m1 rfl 7 (x).toNat 0 (⟨a0.phase, a0.heldJob, a0.heldTask, a0.attempt, (a0.row + 1), a0.a, a0.d⟩ : PW) (⟨3, a0.heldJob, a0.heldTask, a0.attempt, (a0.row + 1), a0.a, a0.d⟩ : PW) v2 (I 3) [I 3] Tryz.sizeOf3 ?_
  intro _ _ z2 p6
  rw [List.set_set] at z2
  refine nT <| sR <| pu2 ?_
  refine sT p6 1 0 (.agg #[I 7, I x, I 0, I 0, I 0, I 0, I 0]) [I 7, I x, I 0, I 0, I 0, I 0, I 0] #[I 7, I x, I 0, I 0, I 0, I 0, I 0] Tryz.sizeOf62 ?_
  intro _ a3
  refine nT <| retE <| blockK_r <| thenK_r <| retN (vs := [.agg #[I 7, I x, I 0, I 0, I 0, I 0, I 0]]) rfl (.cons (.cell _ _ _ _ kr (lvA a3 1 0 [I 7, I x, I 0, I 0, I 0, I 0, I 0] (Tryz.isAgg62 _) (Tryz.sizeOf62 _) rfl rfl rfl)) .nil) ?_
  have q6 := (a3.picks [5, 5, 5, 5])
  have r6 := q6.merge3
  have b3 := Sat.shutN (d := ([(m0, .cells #[.slice g0 h0 i0, I j.band, Pt s0 0, .bool (canc j)] 118 (0, 0))] ++ (t0 ++ u0))) (A := []) o0 f0 r6
  rw [set_same f0] at b3
  have s6 := ((b3.picks [8, 8, 8, 8, 8, 8]).drops [7, 7])
  have t6 := (s6.merge7)
  have he : (microF F x).1 = (⟨F.cfg, (F.ws.set x.toNat (⟨3, v0.heldJob, v0.heldTask, v0.attempt, v0.row + 1, v0.used, v0.high⟩ : Wkr)), F.ar, F.dq, F.q, F.jobs, F.st⟩ : FS) := by unfold microF jobAt; simp only [getD_some hv0, getD_some hj, getD_some htk]; rw [if_neg om, if_pos om]; rw [if_pos (show v0.row + 1 = b0.v.rows from show v0.row + 1 = b0.rows by have := hr2 om; omega)]
  exact ⟨_, by unfold microF; simp only [getD_some hv0]; rw [if_neg om, if_pos om]; rfl, by rw [he]; exact ⟨_, _, _, _, _, _, _, _, _, _, _, _, _, _, rfl, z2, (core_set hco (show (⟨3, a0.heldJob, a0.heldTask, a0.attempt, (a0.row + 1)⟩ : Core) = ⟨3, v0.heldJob, v0.heldTask, v0.attempt, v0.row + 1⟩ by rw [p0, w0, x0, c1])), (by rw [map_setA (x' := (⟨3, a0.heldJob, a0.heldTask, a0.attempt, (a0.row + 1), a0.a, a0.d⟩ : PW)) d0 rfl]; exact hAs), (by rw [map_setD (x' := (⟨3, a0.heldJob, a0.heldTask, a0.attempt, (a0.row + 1), a0.a, a0.d⟩ : PW)) d0 rfl]; exact hDs), hQ, hM, hJs⟩, t6⟩
 refine sR <| pu3 ?_
 refine sLp b1 (k0.up 7 rfl) 5 (.pointer (some ⟨a0.a, 0, none⟩)) (Tryz.isAgg86 _) ?_
 obtain ⟨z0, v9, c3, i1, u6⟩ := Obs.get hAs (map_at' d0)
 have v6 := (b1.pick 8 rfl)
 have w6 := Sat.openN (A := []) x.toNat i1 v6
 refine cX Tryz.call124 (pa_mark u6  (Sat.flat1 w6)) ?_
 rintro _ _ ⟨x6, rfl, d3, y6⟩
 have z6 := Sat.unflat1 y6
 have a7 := (z6.picks [1, 1])
 have g1 := Sat.shutN (d := x6) (A := []) x.toNat i1 a7
 have e3 := Obs.set hAs (map_at' d0) d3
 refine nT <| seqE <| sR <| pu1 ?_
 refine sL g1 1 8 (I b0.scratch) (Tryz.isAgg3 _) ?_
 refine pu1 <| nT ?_
 refine cD (b0.scratch > 0) (fun b7 => ?_) (fun b7 => ?_)
 rotate_left
 ·refine kT <| sR <| pu3 ?_
  refine sStF g1 hOw rfl 8 (x).toNat 0 a0 (⟨2, a0.heldJob, a0.heldTask, a0.attempt, a0.row, a0.a, a0.d⟩ : PW) d0 (I 2) [I 2] Tryz.sizeOf3 ?_
  intro _ _ f3 c7
  refine nT <| sR <| pu3 ?_
  have g3 := set_at (y := (⟨2, a0.heldJob, a0.heldTask, a0.attempt, a0.row, a0.a, a0.d⟩ : PW)) d0
  have z9 := OwnT.ptr f3 rfl g3
  refine sStF c7 f3 rfl 8 (x).toNat 4 (⟨2, a0.heldJob, a0.heldTask, a0.attempt, a0.row, a0.a, a0.d⟩ : PW) (⟨2, a0.heldJob, a0.heldTask, a0.attempt, 0, a0.a, a0.d⟩ : PW) g3 (I 0) [I 0] Tryz.sizeOf3 ?_
  intro _ _ h3 d7
  rw [List.set_set] at h3
  refine nT <| sR <| pu2 ?_
  refine sT d7 2 0 (.agg #[I 6, I x, I 0, I 0, I 0, I 0, I 0]) [I 6, I x, I 0, I 0, I 0, I 0, I 0] #[I 6, I x, I 0, I 0, I 0, I 0, I 0] Tryz.sizeOf62 ?_
  intro _ i3
  refine nT <| retE <| blockK_r <| thenK_r <| retN (vs := [.agg #[I 6, I x, I 0, I 0, I 0, I 0, I 0]]) rfl (.cons (.cell _ _ _ _ kr (lvA i3 2 0 [I 6, I x, I 0, I 0, I 0, I 0, I 0] (Tryz.isAgg62 _) (Tryz.sizeOf62 _) rfl rfl rfl)) .nil) ?_
  have e7 := (i3.picks [6, 6, 6, 6])
  have f7 := e7.merge3
  have j3 := Sat.shutN (d := ([(m0, .cells #[.slice g0 h0 i0, I j.band, Pt s0 0, .bool (canc j)] 118 (0, 0))] ++ (t0 ++ u0))) (A := []) o0 f0 f7
  rw [set_same f0] at j3
  have hrow0 := hA0.r1 om
  have g7 := ((j3.picks [8, 8, 8, 4, 8, 8]).drops [7, 7])
  have h7 := (g7.merge7)
  have he : (microF F x).1 = (⟨F.cfg, (F.ws.set x.toNat (⟨2, v0.heldJob, v0.heldTask, v0.attempt, v0.row, (markA z0).used, (markA z0).high⟩ : Wkr)), (F.ar.set x.toNat (markA z0)), F.dq, F.q, F.jobs, F.st⟩ : FS) := by unfold microF jobAt; simp only [getD_some hv0, getD_some hj, getD_some htk, getD_some c3]; rw [if_pos om]; rw [if_neg (show ¬ b0.v.scratch > 0 from show ¬ b0.scratch > 0 by omega)]
  exact ⟨_, by unfold microF; simp only [getD_some hv0]; rw [if_pos om]; rfl, by rw [he]; exact ⟨_, _, _, _, _, _, _, _, _, _, _, _, _, _, rfl, h3, (core_set hco (show (⟨2, a0.heldJob, a0.heldTask, a0.attempt, 0⟩ : Core) = ⟨2, v0.heldJob, v0.heldTask, v0.attempt, v0.row⟩ by rw [p0, w0, x0, hrow0])), (by rw [map_setA (x' := (⟨2, a0.heldJob, a0.heldTask, a0.attempt, 0, a0.a, a0.d⟩ : PW)) d0 rfl]; exact e3), (by rw [map_setD (x' := (⟨2, a0.heldJob, a0.heldTask, a0.attempt, 0, a0.a, a0.d⟩ : PW)) d0 rfl]; exact hDs), hQ, hM, hJs⟩, h7⟩
 refine drawE [6] [(3, ⟨wb, wo + (x).toNat * 7 + 5, none⟩, .pointer (some ⟨a0.a, 0, none⟩)), (5, ⟨q2, 8, none⟩, I b0.scratch)] [(true, [0, 1, 2, 4]), (true, [3]), (true, [5]), (false, [6])] rfl kr ⟨.inr ((k0.up 8 rfl).cell g1 (k := 5) rfl), .inr (g1.cell 1 rfl rfl), trivial⟩ ?_
 have i7 := g1.drew
 refine wU [0, 1, 2, 4] ?_
 refine wLd (.pointer (some ⟨a0.a, 0, none⟩)) 0 Tryz.isAgg86 ?_
 refine wLd (I b0.scratch) 1 Tryz.isAgg3 ?_
 refine wO rfl ?_
 have j7 := Sat.openN (A := []) x.toNat (set_at i1) i7
 refine cX Tryz.call125 (pa_alloc d3 b0.scratch 16 (Sat.flat1 j7)) ?_
 rintro _ _ ⟨k7, _, rfl, l7, m7⟩
 have n7 := Sat.unflat1 m7
 have o7 := (n7.picks [1, 1])
 have p7 := Sat.shutN (d := k7) (A := []) x.toNat (set_at i1) o7
 have q7 := Obs.set e3 (map_at' d0) l7
 refine nilO ⟨dA, ?_⟩
 refine wN ?_
 refine thenK_n <| sR <| pu3 ?_
 refine sStF p7 hOw rfl 8 (x).toNat 0 a0 (⟨2, a0.heldJob, a0.heldTask, a0.attempt, a0.row, a0.a, a0.d⟩ : PW) d0 (I 2) [I 2] Tryz.sizeOf3 ?_
 intro _ _ k3 r7
 refine nT <| sR <| pu3 ?_
 have l3 := set_at (y := (⟨2, a0.heldJob, a0.heldTask, a0.attempt, a0.row, a0.a, a0.d⟩ : PW)) d0
 have ia := OwnT.ptr k3 rfl l3
 refine sStF r7 k3 rfl 8 (x).toNat 4 (⟨2, a0.heldJob, a0.heldTask, a0.attempt, a0.row, a0.a, a0.d⟩ : PW) (⟨2, a0.heldJob, a0.heldTask, a0.attempt, 0, a0.a, a0.d⟩ : PW) l3 (I 0) [I 0] Tryz.sizeOf3 ?_
 intro _ _ m3 s7
 rw [List.set_set] at m3
 refine nT <| sR <| pu2 ?_
 refine sT s7 2 0 (.agg #[I 6, I x, I 0, I 0, I 0, I 0, I 0]) [I 6, I x, I 0, I 0, I 0, I 0, I 0] #[I 6, I x, I 0, I 0, I 0, I 0, I 0] Tryz.sizeOf62 ?_
 intro _ n3
 refine nT <| retE <| blockK_r <| thenK_r <| retN (vs := [.agg #[I 6, I x, I 0, I 0, I 0, I 0, I 0]]) rfl (.cons (.cell _ _ _ _ kr (lvA n3 2 0 [I 6, I x, I 0, I 0, I 0, I 0, I 0] (Tryz.isAgg62 _) (Tryz.sizeOf62 _) rfl rfl rfl)) .nil) ?_
 have t7 := (n3.picks [6, 6, 6, 6])
 have u7 := t7.merge3
 have o3 := Sat.shutN (d := ([(m0, .cells #[.slice g0 h0 i0, I j.band, Pt s0 0, .bool (canc j)] 118 (0, 0))] ++ (t0 ++ u0))) (A := []) o0 f0 u7
 rw [set_same f0] at o3
 have hrow0 := hA0.r1 om
 have v7 := ((o3.picks [8, 8, 8, 4, 8, 8]).drops [7, 7])
 have w7 := (v7.merge7)
 have he : (microF F x).1 = (⟨F.cfg, (F.ws.set x.toNat (⟨2, v0.heldJob, v0.heldTask, v0.attempt, v0.row, (allocA (markA z0) b0.scratch 16).used, (allocA (markA z0) b0.scratch 16).high⟩ : Wkr)), ((F.ar.set x.toNat (markA z0)).set x.toNat (allocA (markA z0) b0.scratch 16)), F.dq, F.q, F.jobs, F.st⟩ : FS) := by unfold microF jobAt; simp only [getD_some hv0, getD_some hj, getD_some htk, getD_some c3]; rw [if_pos om]; rw [if_pos (show b0.v.scratch > 0 from show b0.scratch > 0 by omega)]; simp only [List.set_set]; rfl
 exact ⟨_, by unfold microF; simp only [getD_some hv0]; rw [if_pos om]; rfl, by rw [he]; exact ⟨_, _, _, _, _, _, _, _, _, _, _, _, _, _, rfl, m3, (core_set hco (show (⟨2, a0.heldJob, a0.heldTask, a0.attempt, 0⟩ : Core) = ⟨2, v0.heldJob, v0.heldTask, v0.attempt, v0.row⟩ by rw [p0, w0, x0, hrow0])), (by rw [map_setA (x' := (⟨2, a0.heldJob, a0.heldTask, a0.attempt, 0, a0.a, a0.d⟩ : PW)) d0 rfl]; exact q7), (by rw [map_setD (x' := (⟨2, a0.heldJob, a0.heldTask, a0.attempt, 0, a0.a, a0.d⟩ : PW)) d0 rfl]; exact hDs), hQ, hM, hJs⟩, w7⟩
theorem pf_take {p : Nat} {F : FS} {M : Chunk} {F0 : List Chunk} (hR : FarmP p F M) {K : Int} (hF : FI F K) {v0 : Wkr} {c : Int} (x : Int) (al : Option Addr) (nl kl : Nat) (l : List Int) (hl : RdT encI 1 [H] al nl kl l) (hx : 0 ≤ x ∧ x < F.ws.length) (hv0 : F.ws[x.toNat]? = some v0) (hh : ¬ Holds v0) (hseq : l = seqL F.ws.length c) (hS : Sat W w (M :: H :: F0)) :
  Calls Tryz.prog 79 #[Pt p 0, I x, .slice al nl kl] w fun e w' => (acqF F x c = none ∧ e = .returned (.tuple #[.agg #[I 0, I 0, I 0, I 0, I 0, I 0, I 0], .bool false]) ∧ Sat W w' (M :: H :: F0)) ∨ (∃ (F' : FS) (ev : Evt) (M' : Chunk), acqF F x c = some (F', ev) ∧ e = .returned (.tuple #[.agg (encEvt ev).toArray, .bool true]) ∧ FarmP p F' M' ∧ Sat W w' (M' :: H :: F0)) := by
 have hl_l := hl.le; have hn_l := hl.len
 obtain ⟨wb, wo, wn, wk, q, m, xs, jm, Wc, Qc, Jc, acs, dcs, jcs, rfl, hOw, hco, hAs, hDs, hQ, hM, hJs⟩ := hR
 have t1 : Sat W _ ((Tri p 85 (preP F.cfg wb wo wn wk q m) (([] : List Ref).flatMap encRef) (encStt F.st)) :: Wc :: acs.flatten :: dcs.flatten :: Qc :: Jc :: jcs.flatten :: H :: F0) := Sat.perm hS (by simp)
 have hwl := hOw.len; have hwk := hOw.le; have hcl := core_len hco; have has1 := hAs.1; have hds1 := hDs.1; rw [List.length_map] at has1 hds1; have hjl1 := hJs.l
 have hid := hF.idle hv0 hh; have hs1 := hF.st.a; have hs2 := hF.st.b; have hs3 := hF.st.c; have hs4 := hF.st.d; have hs5 := hF.st.e; have hs6 := hF.st.f; have hs7 := hF.st.g; have hKK := hF.fw.k; have hn9 := hF.fw.n; have hal9 := hF.fw.al; have hdl9 := hF.fw.dl; have hseq9 : l.length = F.ws.length := by rw [hseq, seq_len]
 refine callsA 90 Tryz.func79 rfl ?_
 refine sR ?_
 refine sAlloc t1 Tryz.zeroValue62 ?_
 intro w0 _ k0
 refine pu1 <| nT <| seqE <| sR <| pu3 ?_
 refine sLp k0 (ptr_up 1 rfl tri_pre) 8 (.slice (some ⟨wb, wo, none⟩) wn wk) (Tryz.isAgg81 _) ?_
 refine pu1 ?_
 refine sIdxO hOw x (x).toNat Tryz.runUnderlying81 Tryz.sizeOf93 ?_
 intro u1 _ _ l0 v1 w1
 obtain ⟨rfl, rfl⟩ := some_addr w1
 obtain ⟨v4, w4, x4, y4, z4, a5, b5⟩ := core_at hco l0
 refine pu1 ?_
 refine sLp k0 (v1.up 2 rfl) 6 (.pointer (some ⟨u1.d, 0, none⟩)) (Tryz.isAgg89 _) ?_
 obtain ⟨g0, x1, e0, h0, y1⟩ := Obs.get hDs (map_at' l0)
 have z1 := (k0.pick 4 rfl)
 have a2 := Sat.openN (A := []) x.toNat h0 z1
 refine cX Tryz.call127 (pd_pop y1 (Sat.flat1 a2)) ?_
 rintro _ _ (⟨m0, rfl, n0⟩ | ⟨a0, x0, y0, rfl, b2, n0⟩)
 rotate_left
 ·have c2 := Sat.unflat1 n0
  have d2 := (c2.picks [1, 1])
  have e2 := Sat.shutN (d := x0) (A := []) x.toNat h0 d2
  have f2 := Obs.set hDs (map_at' l0) b2
  refine pu3 ?_
  refine sAlloc e2 Tryz.zeroValue60 ?_
  intro _ _ g2
  refine sT g2 0 0 (.agg #[I a0.job, I a0.task]) [I a0.job, I a0.task] #[I a0.job, I a0.task] Tryz.sizeOf60 ?_
  intro _ z0
  refine pu1 <| nT <| sR <| pu1 <| nT <| cTt <| sR <| pu2 ?_
  refine lA z0 0 0 2 (Tryz.isAgg60 _) (Tryz.sizeOf60 _) ?_
  have h2 := (z0.picks [8, 8, 8, 4, 8, 8, 8])
  have i2 := (h2.merge7)
  have j2 : FarmP p (⟨F.cfg, F.ws, F.ar, (F.dq.set x.toNat ({ g0 with l := g0.l.dropLast } : DS)), F.q, F.jobs, F.st⟩ : FS) ((Tri p 85 (preP F.cfg wb wo wn wk q m) (([] : List Ref).flatMap encRef) (encStt F.st)) ++ (Wc ++ (acs.flatten ++ ((dcs.set x.toNat x0).flatten ++ (Qc ++ (Jc ++ jcs.flatten)))))) := ⟨_, _, _, _, _, _, _, _, _, _, _, _, _, _, rfl, hOw, hco, hAs, f2, hQ, hM, hJs⟩
  have o0 : RefOk (shapeF F.jobs) a0 := (hF.fw.d _ (List.mem_of_getElem? e0) _ (List.mem_of_getLast? y0))
  obtain ⟨g5, k2, l2, m2, _⟩ := hF.fw.job o0
  refine cX Tryz.call128 (pf_start j2 x a0 (by first | omega | (dsimp only; omega) | (simp only [List.length_set]; omega)) ⟨o0.1, o0.2.1⟩ k2 l2 m2 (by first | omega | (dsimp only; omega) | (simp only [List.length_set]; omega)) (Sat.flat1 i2)) ?_
  rintro _ _ ⟨_, rfl, n2, o2⟩
  have a1 := Sat.unflat1 o2
  refine nT <| sR <| pu1 ?_
  refine lA a1 1 0 2 (Tryz.isAgg60 _) (Tryz.sizeOf60 _) ?_
  refine pu1 ?_
  refine sT a1 2 0 (.agg #[I 3, I x, I 0, I 0, I a0.job, I a0.task, I 0]) [I 3, I x, I 0, I 0, I a0.job, I a0.task, I 0] #[I 3, I x, I 0, I 0, I a0.job, I a0.task, I 0] Tryz.sizeOf62 ?_
  intro _ b1
  refine pu1 <| nT <| retE <| thenK_r <| retN (vs := [.agg #[I 3, I x, I 0, I 0, I a0.job, I a0.task, I 0], .bool true]) rfl (.cons (.cell _ _ _ _ kr (lvA b1 2 0 [I 3, I x, I 0, I 0, I a0.job, I a0.task, I 0] (Tryz.isAgg62 _) (Tryz.sizeOf62 _) rfl rfl rfl)) (.cons (.tmp _ _ kr) .nil)) ?_
  have p2 := (b1.drops [1, 1])
  have he : acqF F x c = some (takeF (⟨F.cfg, F.ws, F.ar, (F.dq.set x.toNat ({ g0 with l := g0.l.dropLast } : DS)), F.q, F.jobs, F.st⟩ : FS) x a0, (⟨3, x, 0, 0, a0.job, a0.task, 0⟩ : Evt)) := acq_own e0 y0
  exact .inr ⟨_, _, _, he, rfl, n2, p2⟩
 have q2 := Sat.unflat1 n0
 have r2 := (q2.picks [1, 1])
 have c1 := Sat.shutN (d := x1) (A := []) x.toNat h0 r2
 rw [set_same h0] at c1
 refine pu3 ?_
 refine sAlloc c1 Tryz.zeroValue60 ?_
 intro s2 _ t2
 refine sT t2 0 0 (.agg #[I 0, I 0]) [I 0, I 0] #[I 0, I 0] Tryz.sizeOf60 ?_
 intro _ d1
 refine pu1 <| nT <| sR <| pu1 <| nT <| cFf <| kT <| seqE <| sR <| pu3 ?_
 refine sLp d1 (ptr_up 3 rfl tri_pre) 9 (Pt q 0) (Tryz.isAgg77 _) ?_
 have u2 := (d1.pick 6 rfl)
 refine cX Tryz.call129 (pq_pop hQ (Sat.flat1 u2)) ?_
 rintro _ _ (⟨e1, rfl, p0⟩ | ⟨b0, f1, v2, g1, rfl, w2, p0⟩)
 rotate_left
 ·have x2 := Sat.unflat1 p0
  refine pu3 ?_
  refine sAlloc x2 Tryz.zeroValue60 ?_
  intro _ _ y2
  refine sT y2 0 0 (.agg #[I b0.job, I b0.task]) [I b0.job, I b0.task] #[I b0.job, I b0.task] Tryz.sizeOf60 ?_
  intro _ h1
  refine pu1 <| nT <| sR <| pu1 <| nT <| cTt <| sR <| pu2 ?_
  refine lA h1 0 0 2 (Tryz.isAgg60 _) (Tryz.sizeOf60 _) ?_
  have z2 := (h1.picks [9, 9, 3, 5, 9, 9, 9])
  have a3 := (z2.merge7)
  have b3 : FarmP p (⟨F.cfg, F.ws, F.ar, F.dq, ({ F.q with bs := f1 } : QS), F.jobs, F.st⟩ : FS) ((Tri p 85 (preP F.cfg wb wo wn wk q m) (([] : List Ref).flatMap encRef) (encStt F.st)) ++ (Wc ++ (acs.flatten ++ (dcs.flatten ++ (v2 ++ (Jc ++ jcs.flatten)))))) := ⟨_, _, _, _, _, _, _, _, _, _, _, _, _, _, rfl, hOw, hco, hAs, hDs, w2, hM, hJs⟩
  have q0 : RefOk (shapeF F.jobs) b0 := (let h := popB_mem g1; h.1.elim fun l hl => hF.fw.q l hl.1 _ hl.2)
  obtain ⟨q5, c3, d3, e3, _⟩ := hF.fw.job q0
  refine cX Tryz.call128 (pf_start b3 x b0 (by first | omega | (dsimp only; omega) | (simp only [List.length_set]; omega)) ⟨q0.1, q0.2.1⟩ c3 d3 e3 (by first | omega | (dsimp only; omega) | (simp only [List.length_set]; omega)) (Sat.flat1 a3)) ?_
  rintro _ _ ⟨_, rfl, f3, g3⟩
  have i1 := Sat.unflat1 g3
  refine nT <| sR <| pu1 ?_
  refine lA i1 1 0 2 (Tryz.isAgg60 _) (Tryz.sizeOf60 _) ?_
  refine pu1 ?_
  refine sT i1 3 0 (.agg #[I 4, I x, I 0, I 0, I b0.job, I b0.task, I 0]) [I 4, I x, I 0, I 0, I b0.job, I b0.task, I 0] #[I 4, I x, I 0, I 0, I b0.job, I b0.task, I 0] Tryz.sizeOf62 ?_
  intro _ j1
  refine pu1 <| nT <| retE <| thenK_r <| retN (vs := [.agg #[I 4, I x, I 0, I 0, I b0.job, I b0.task, I 0], .bool true]) rfl (.cons (.cell _ _ _ _ kr (lvA j1 3 0 [I 4, I x, I 0, I 0, I b0.job, I b0.task, I 0] (Tryz.isAgg62 _) (Tryz.sizeOf62 _) rfl rfl rfl)) (.cons (.tmp _ _ kr) .nil)) ?_
  have h3 := (j1.drops [1, 1, 1])
  have he : acqF F x c = some (takeF (⟨F.cfg, F.ws, F.ar, F.dq, ({ F.q with bs := f1 } : QS), F.jobs, F.st⟩ : FS) x b0, (⟨4, x, 0, 0, b0.job, b0.task, 0⟩ : Evt)) := acq_inj e0 m0 g1
  exact .inr ⟨_, _, _, he, rfl, f3, h3⟩
 have i3 := Sat.unflat1 p0
 refine pu3 ?_
 refine sAlloc i3 Tryz.zeroValue60 ?_
 intro j3 _ k3
 refine sT k3 0 0 (.agg #[I 0, I 0]) [I 0, I 0] #[I 0, I 0] Tryz.sizeOf60 ?_
 intro _ l3
 refine pu1 <| nT <| sR <| pu1 <| nT <| cFf <| kT <| seqE <| sR <| pu3 <| nT <| blockE ?_
 refine loopA (γ := Nat) (fun i => [(0, Pt p 0), (1, I x), (6, Pt w0 0), (52, .slice al nl kl), (53, I ((nl : Nat) : Int)), (54, I ((i : Nat) : Int))]) (fun i w => Sat W w ([(j3, .cells #[I 0, I 0] 60 (0, 0))] :: Qc :: [(s2, .cells #[I 0, I 0] 60 (0, 0))] :: dcs.flatten :: [(w0, .cells #[I 0, I 0, I 0, I 0, I 0, I 0, I 0] 62 (0, 0))] :: (Tri p 85 (preP F.cfg wb wo wn wk q m) (([] : List Ref).flatMap encRef) (encStt F.st)) :: Wc :: acs.flatten :: Jc :: jcs.flatten :: H :: F0) ∧ i ≤ nl ∧ (firstI (canSteal F c) F.ws.length 0 = firstI (canSteal F c) (F.ws.length - i) i)) (fun i => nl - i) 0 ⟨l3, om, rfl⟩ ?_
 rintro i ρ _ ⟨f0, hi, hfi⟩
 refine sR <| pu1 <| nT <| seqE ?_
 refine cD (((i : Nat) : Int) < ((nl : Nat) : Int)) (fun m3 => ?_) (fun m3 => ?_)
 rotate_left
 ·refine exitE <| xB <| thenK_n <| sR <| pu1 ?_
  refine sT f0 4 0 (.agg #[I 0, I 0, I 0, I 0, I 0, I 0, I 0]) [I 0, I 0, I 0, I 0, I 0, I 0, I 0] #[I 0, I 0, I 0, I 0, I 0, I 0, I 0] Tryz.sizeOf62 ?_
  intro _ k1
  refine pu1 <| nT <| retE <| retN (vs := [.agg #[I 0, I 0, I 0, I 0, I 0, I 0, I 0], .bool false]) rfl (.cons (.cell _ _ _ _ kr (lvA k1 4 0 [I 0, I 0, I 0, I 0, I 0, I 0, I 0] (Tryz.isAgg62 _) (Tryz.sizeOf62 _) rfl rfl rfl)) (.cons (.tmp _ _ kr) .nil)) ?_
  have n3 := ((k1.picks [3, 7, 7, 7]).drops [4, 5, 5])
  have o3 := (n3.merge7)
  exact .inl ⟨(acq_rest e0 m0 e1).trans (steal_end om hfi), rfl, o3⟩
 refine kT <| seqE <| blockE <| sR ?_
 refine sIdx hl ((i : Nat) : Int) Tryz.runUnderlying22 Tryz.sizeOf3 ?_
 intro d0 _ _ l1 p3
 rw [Int.toNat_natCast] at l1
 have hcx : d0 = chF F c i := seq_at (n := F.ws.length) (by rw [← hseq]; exact l1); have hcb := chF_bd (F := F) (c := c) (i := i) hF.fw.n.1
 refine sLp f0 (p3.up 10 rfl) 0 (I d0) (Tryz.isAgg3 _) ?_
 refine pu1 <| nT <| sR <| pu3 ?_
 refine sLp f0 (ptr_up 5 rfl tri_pre) 8 (.slice (some ⟨wb, wo, none⟩) wn wk) (Tryz.isAgg81 _) ?_
 refine pu1 ?_
 refine sIdxO hOw d0 (d0).toNat Tryz.runUnderlying81 Tryz.sizeOf93 ?_
 intro q3 _ _ r0 r3 s3
 obtain ⟨rfl, rfl⟩ := some_addr s3
 obtain ⟨c6, d6, e6, f6, g6, h6, i6⟩ := core_at hco r0
 refine pu1 ?_
 refine sLp f0 (r3.up 6 rfl) 6 (.pointer (some ⟨q3.d, 0, none⟩)) (Tryz.isAgg89 _) ?_
 obtain ⟨i0, t3, s0, j0, u3⟩ := Obs.get hDs (map_at' r0)
 have v3 := (f0.pick 3 rfl)
 have w3 := Sat.openN (A := []) d0.toNat j0 v3
 refine cX Tryz.call130 (pd_steal u3 (Sat.flat1 w3)) ?_
 rintro _ _ (⟨x3, rfl, t0⟩ | ⟨c0, m1, n1, rfl, y3, t0⟩)
 ·have z3 := Sat.unflat1 t0
  have a4 := (z3.picks [1, 1])
  have o1 := Sat.shutN (d := t3) (A := []) d0.toNat j0 a4
  rw [set_same j0] at o1
  refine pu3 ?_
  refine sAlloc o1 Tryz.zeroValue60 ?_
  intro _ _ b4
  refine sT b4 0 0 (.agg #[I 0, I 0]) [I 0, I 0] #[I 0, I 0] Tryz.sizeOf60 ?_
  intro _ c4
  refine pu1 <| nT <| sR <| pu1 <| nT <| cFf <| skipE <| blockK_n <| thenK_n <| regionE ?_
  refine sAdd ((i : Nat) : Int) 1 ?_
  refine pu1 <| nT ?_
  have d4 := ((c4.picks [4, 4, 4]).dropAt 3 rfl)
  exact ⟨i + 1, od, alA, d4, om, (steal_skip om hfi (by rw [← hcx]; exact s0) x3)⟩
 have e4 := Sat.unflat1 t0
 have f4 := (e4.picks [1, 1])
 have g4 := Sat.shutN (d := m1) (A := []) d0.toNat j0 f4
 have h4 := Obs.set hDs (map_at' r0) y3
 refine pu3 ?_
 refine sAlloc g4 Tryz.zeroValue60 ?_
 intro _ _ i4
 refine sT i4 0 0 (.agg #[I c0.job, I c0.task]) [I c0.job, I c0.task] #[I c0.job, I c0.task] Tryz.sizeOf60 ?_
 intro _ p1
 refine pu1 <| nT <| sR <| pu1 <| nT <| cTt <| sR <| pu4 ?_
 refine sLp p1 (ptr_up 6 rfl (tri_post (k := 11) (tri_len (sz := 2) (m := 11) fR (rfl : ([] : List Ref).length = 0)))) 4 (I F.st.steals) (Tryz.isAgg3 _) ?_
 refine sAdd F.st.steals 1 ?_
 refine pu3 ?_
 refine sTpost p1 6 11 4 rfl (I (F.st.steals + 1)) [I (F.st.steals + 1)] [I F.st.starts, I F.st.commits, I F.st.drops, I F.st.crashes, I (F.st.steals + 1), I F.st.helps, I F.st.spills, I F.st.queued, I F.st.held, I F.st.cells] (tri_len (sz := 2) (m := 11) fR (rfl : ([] : List Ref).length = 0)) Tryz.sizeOf3 ?_
 intro _ q1
 refine nT <| sR <| pu2 ?_
 refine lA q1 0 0 2 (Tryz.isAgg60 _) (Tryz.sizeOf60 _) ?_
 have j4 := (q1.picks [10, 10, 5, 4, 10, 10, 10])
 have k4 := (j4.merge7)
 have l4 : FarmP p (⟨F.cfg, F.ws, F.ar, (F.dq.set d0.toNat ({ i0 with l := i0.l.tail } : DS)), F.q, F.jobs, (⟨F.st.starts, F.st.commits, F.st.drops, F.st.crashes, (F.st.steals + 1), F.st.helps, F.st.spills, F.st.queued, F.st.held, F.st.cells⟩ : Stt)⟩ : FS) ((Tri p 85 (preP F.cfg wb wo wn wk q m) (([] : List Ref).flatMap encRef) [I F.st.starts, I F.st.commits, I F.st.drops, I F.st.crashes, I (F.st.steals + 1), I F.st.helps, I F.st.spills, I F.st.queued, I F.st.held, I F.st.cells]) ++ (Wc ++ (acs.flatten ++ ((dcs.set d0.toNat m1).flatten ++ (Qc ++ (Jc ++ jcs.flatten)))))) := ⟨_, _, _, _, _, _, _, _, _, _, _, _, _, _, rfl, hOw, hco, hAs, h4, hQ, hM, hJs⟩
 have u0 : RefOk (shapeF F.jobs) c0 := (hF.fw.d _ (List.mem_of_getElem? s0) _ (List.mem_of_head? n1))
 obtain ⟨r6, m4, n4, o4, _⟩ := hF.fw.job u0
 refine cX Tryz.call128 (pf_start l4 x c0 (by first | omega | (dsimp only; omega) | (simp only [List.length_set]; omega)) ⟨u0.1, u0.2.1⟩ m4 n4 o4 (by first | omega | (dsimp only; omega) | (simp only [List.length_set]; omega)) (Sat.flat1 k4)) ?_
 rintro _ _ ⟨_, rfl, p4, q4⟩
 have r1 := Sat.unflat1 q4
 refine nT <| sR <| pu2 ?_
 refine lA r1 1 0 2 (Tryz.isAgg60 _) (Tryz.sizeOf60 _) ?_
 refine pu1 ?_
 refine sT r1 4 0 (.agg #[I 5, I x, I d0, I 0, I c0.job, I c0.task, I 0]) [I 5, I x, I d0, I 0, I c0.job, I c0.task, I 0] #[I 5, I x, I d0, I 0, I c0.job, I c0.task, I 0] Tryz.sizeOf62 ?_
 intro _ s1
 refine pu1 <| nT <| retE <| blockK_r <| thenK_r <| tR <| thenK_r <| retN (vs := [.agg #[I 5, I x, I d0, I 0, I c0.job, I c0.task, I 0], .bool true]) rfl (.cons (.cell _ _ _ _ kr (lvA s1 4 0 [I 5, I x, I d0, I 0, I c0.job, I c0.task, I 0] (Tryz.isAgg62 _) (Tryz.sizeOf62 _) rfl rfl rfl)) (.cons (.tmp _ _ kr) .nil)) ?_
 have r4 := (s1.drops [1, 1, 1, 1])
 have he : acqF F x c = some (takeF (⟨F.cfg, F.ws, F.ar, (F.dq.set d0.toNat ({ i0 with l := i0.l.tail } : DS)), F.q, F.jobs, (⟨F.st.starts, F.st.commits, F.st.drops, F.st.crashes, (F.st.steals + 1), F.st.helps, F.st.spills, F.st.queued, F.st.held, F.st.cells⟩ : Stt)⟩ : FS) x c0, (⟨5, x, d0, 0, c0.job, c0.task, 0⟩ : Evt)) := (acq_rest e0 m0 e1).trans ((steal_at om hfi (by rw [← hcx]; exact s0) n1).trans (by rw [← hcx]; rfl))
 exact .inr ⟨_, _, _, he, rfl, p4, r4⟩
end Go.Proofs.YtegmennaekipaaaGreat
