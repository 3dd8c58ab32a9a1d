import Derived.Test.YtimkhljglpookaaGreatSim7
namespace Go.Proofs.YtimkhljglpookaaGreat
open Go Go.E
set_option linter.unusedVariables false
set_option linter.unusedSimpArgs false
set_option linter.unnecessarySimpa false
set_option maxRecDepth 100000
set_option maxHeartbeats 2000000
variable {W w : World} {H : Chunk} {F : List Chunk}

/-! ### every recorded history is accepted -/
theorem Rel.jset {F F' : FS} {nj : Nat} {m : MS} (h : Rel F nj m) {n : Nat} {j' : JS} {a a' : JA} {r : Int} (hw : F'.ws = F.ws) (hj : F'.jobs = F.jobs.set n j') (ha : m.jobs[n]? = some a) (h1 : a'.B = some j'.B) (h2 : runJ a' = j'.running) (h3 : a'.T.map Task.v = j'.tasks) (hr : r = m.rd + valA a' - valA a) :
    Rel F' nj ⟨m.ws, m.jobs.set n a', r⟩ := by
  refine ⟨by rw [hw]; exact h.wl, by simp only [List.length_set]; exact h.jl, ?_, ?_⟩
  · intro i y hi hy
    rw [hj] at hy
    rcases set_at' hy with ⟨e, rfl⟩ | ⟨e, hy⟩
    · subst e; exact ⟨a', set_at ha, h1, h2, h3⟩
    · obtain ⟨b, b1, b2⟩ := h.jb i y hi hy
      exact ⟨b, by dsimp only; rw [List.getElem?_set, if_neg e]; exact b1, b2⟩
  · have := rsum_set (a' := a') ha
    have h4 := h.rd
    dsimp only; omega
section
variable {c : Cfg} {F : FS} {nj : Nat} {K : Int} {m : MS} {off : List TL}
theorem sim_cancel (hI : RecI c F nj K) (hR : Rel F nj m) (hQ : QI F) (hH : HI F) {k : Int} :
    ∃ m', stepAll off m (cancelF F k).2.1 = some m' ∧ Rel (cancelF F k).1 nj m' ∧ QI (cancelF F k).1 ∧ HI (cancelF F k).1 := by
  have hlen := hR.len
  have hn := hI.fw.n
  unfold cancelF
  split
  · exact ⟨m, rfl, hR, hQ, hH⟩
  · rename_i hk
    split
    · exact ⟨m, rfl, hR, hQ, hH⟩
    · rename_i hrun
      have hk1 : 0 ≤ k ∧ k < 64 := by omega
      obtain ⟨j, hj⟩ := at_some hI.fw.jl (k := k.toNat) (by omega)
      have e : jobAt F k = j := getD_some hj
      rw [e] at hrun hk
      have hrun : j.running = true := by simpa using hrun
      have ha := (hI.fw.j j (List.mem_of_getElem? hj)).r hrun
      obtain ⟨a, a1, a2, a3, a4⟩ := hR.jb _ j (added_lt hI hj ha) hj
      obtain ⟨i1, i2⟩ := inv_cancel hQ hH hk1.1 hj
      obtain ⟨v, hv⟩ : ∃ v, F.ws[(0 : Int).toNat]? = some v := at_some rfl (by simp; omega)
      have hr' : runJ { a with x := true } = false := by unfold runJ; rfl
      refine ⟨_, one_step ?_, hR.jset (F' := cancelW F k) (n := k.toNat) (j' := { j with running := false }) (a := a) (a' := { a with x := true }) (r := m.rd - (((idxOf 2 0 j.B.st).length : Nat) : Int)) rfl (by unfold cancelW; rw [e]) a1 a2 hr' a4 ?_, i1, i2⟩
      · rw [ev_in (v := wkOf v) (by simp [namedE]) (by dsimp only; omega) (hR.wk hv), evK_2 rfl]
        unfold cancelM
        rw [if_pos (by rw [runs_of (n := k) hk1.1 a1, a3]; exact hrun), show jobA m k = a from jobA_at a1, a2]
        dsimp only
        rw [a2]
      · unfold valA
        rw [if_neg (by rw [hr']; decide), if_pos (a3.trans hrun)]
        unfold rdyN; rw [a2]; dsimp only; omega
theorem map_at {α β : Type} {f : α → β} {l : List α} {xs ys : List β} {y : β} (h : l.map f = xs ++ y :: ys) : ∃ x, l[xs.length]? = some x ∧ f x = y := by
  have h1 : (l.map f)[xs.length]? = some y := by rw [h, List.getElem?_append_right (Nat.le_refl _), Nat.sub_self]; rfl
  rw [List.getElem?_map] at h1
  cases hx : l[xs.length]? with
  | none => rw [hx] at h1; cases h1
  | some x => rw [hx] at h1; exact ⟨x, rfl, Option.some.inj h1⟩
theorem sim_add (hI : RecI c F nj K) (hR : Rel F nj m) (hQ : QI F) (hH : HI F) {T : TL} {bd : Int} (hT : off[nj]? = some T) (h4 : nj < 4) (hb : 0 ≤ bd ∧ bd < 4) (hl : validC T.l.l = 0) (hl5 : T.l.l.length ≤ 5) :
    ∃ m', stepAll off m [⟨1, 0, 0, ((nj : Nat) : Int), 0, 0, 0⟩] = some m' ∧ Rel (addF F ((nj : Nat) : Int) T.l.l bd) (nj + 1) m' ∧ QI (addF F ((nj : Nat) : Int) T.l.l bd) ∧ HI (addF F ((nj : Nat) : Int) T.l.l bd) := by
  have h20 : totS (shapeF F.jobs) ≤ 20 := by have := hI.s2; have := hI.n4; omega
  have hlen := hR.len
  have hn := hI.fw.n
  obtain ⟨j, hj, ha⟩ := hI.fresh h4
  obtain ⟨i1, i2⟩ := inv_add (x := ((nj : Nat) : Int)) (bd := bd) (l := T.l.l) hI.fw hQ hH h20 hl5 (by omega) hb hj ha
  obtain ⟨v, hv⟩ : ∃ v, F.ws[(0 : Int).toNat]? = some v := at_some rfl (by simp; omega)
  have hz := validC_zero hl
  have hrn : runJ ⟨T.l.l, some (newB T.l.l), false⟩ = true := by
    unfold runJ
    dsimp only
    rw [done_new, show (newB T.l.l).deps.length = T.l.l.length by simp [newB], decide_eq_true (by omega)]; rfl
  refine ⟨{ m with jobs := m.jobs ++ [⟨T.l.l, some (newB T.l.l), false⟩], rd := m.rd + (((idxOf 2 0 (newB T.l.l).st).length : Nat) : Int) }, one_step ?_, ⟨hR.wl, by simp only [List.length_append, List.length_singleton, hR.jl], ?_, ?_⟩, i1, i2⟩
  · rw [ev_in (v := wkOf v) (by simp [namedE]) (by dsimp only; omega) (hR.wk hv), evK_1 rfl]
    unfold submitM
    rw [if_neg (not_not_intro (by rw [hR.jl])), if_neg (not_not_intro rfl)]
    dsimp only
    rw [Int.toNat_natCast, hT]; dsimp only
    rw [if_neg (not_not_intro hl)]
  · intro k y hk hy
    have hy2 : (F.jobs.set ((nj : Nat) : Int).toNat (jobN T.l.l bd))[k]? = some y := hy
    rw [Int.toNat_natCast] at hy2
    rcases set_at' hy2 with ⟨e, rfl⟩ | ⟨e, hy3⟩
    · subst e
      refine ⟨⟨T.l.l, some (newB T.l.l), false⟩, ?_, rfl, hrn, rfl⟩
      dsimp only
      rw [List.getElem?_append_right (by rw [hR.jl]; exact Nat.le_refl _), hR.jl, Nat.sub_self]; rfl
    · obtain ⟨b, b1, b2⟩ := hR.jb k y (by omega) hy3
      have hbl := (List.getElem?_eq_some_iff.1 b1).1
      exact ⟨b, by dsimp only; rw [List.getElem?_append_left hbl]; exact b1, b2⟩
  · dsimp only
    rw [rsum_snoc, hR.rd]
    unfold valA
    rw [if_pos hrn]; rfl
end
theorem t5_shape {l l' : List JS} (h : shapeF l' = shapeF l) (h5 : ∀ j ∈ l, j.tasks.length ≤ 5) : ∀ j ∈ l', j.tasks.length ≤ 5 := by
  intro j hj
  have h1 : (j.added, j.tasks.length) ∈ shapeF l' := List.mem_map.2 ⟨j, hj, rfl⟩
  rw [h] at h1
  obtain ⟨j2, h2, h3⟩ := List.mem_map.1 h1
  have := h5 j2 h2
  have h4 := (Prod.mk.inj h3).2
  omega
theorem tr_sim {c : Cfg} {off : List TL} {K : Nat} {js : List (List Task)} {es : List Evt} {F : FS} (hv : validCfg c = 0) (hc : c.tasks = 512) (h : Tr c K js es F) : ∀ {rest : List (List Task)}, K ≤ 3000 → off.map (·.l.l) = js ++ rest →
    ∃ m, stepAll off (startM c) es = some m ∧ Rel F js.length m ∧ QI F ∧ HI F ∧ ∀ j ∈ F.jobs, j.tasks.length ≤ 5 := by
  induction h with
  | nil =>
    intro rest _ _
    obtain ⟨h1, h2⟩ := inv_new hc
    refine ⟨startM c, rfl, ⟨?_, rfl, (fun k j hk => by cases hk), rfl⟩, h1, h2, ?_⟩
    · simp only [startM, newF, List.map_replicate]; rfl
    · intro j hj
      obtain rfl := List.eq_of_mem_replicate hj
      simp [JS.zero]
  | @add K js es F l bd ht h4 hb hl h5 hs ih =>
    intro rest hK hoff
    obtain ⟨m, g1, g2, g3, g4, g5⟩ := ih (rest := l :: rest) (by omega) (by rw [hoff]; simp)
    have hI := ht.inv hv (by omega)
    obtain ⟨T, hT, rfl⟩ := map_at (show off.map (·.l.l) = js ++ l :: rest by rw [hoff]; simp)
    obtain ⟨m', e1, e2, e3, e4⟩ := sim_add (off := off) (bd := bd) hI g2 g3 g4 hT h4 hb hl h5
    refine ⟨m', (stepAll_app g1).trans e1, by rw [List.length_append]; exact e2, e3, e4, ?_⟩
    exact mem_set' g5 (by simp only [jobN, List.length_map]; exact h5)
  | @cancel K js es F k ht ih =>
    intro rest hK hoff
    obtain ⟨m, g1, g2, g3, g4, g5⟩ := ih (by omega) hoff
    have hI := ht.inv hv (by omega)
    obtain ⟨m', e1, e2, e3, e4⟩ := sim_cancel (off := off) (k := k) hI g2 g3 g4
    exact ⟨m', (stepAll_app g1).trans e1, e2, e3, e4, t5_shape (cancel_ok hI.fw hI.st (by omega)).2.2 g5⟩
  | @crash K js es F x ht ih =>
    intro rest hK hoff
    obtain ⟨m, g1, g2, g3, g4, g5⟩ := ih (by omega) hoff
    have hI := ht.inv hv (by omega)
    obtain ⟨m', e1, e2, e3, e4⟩ := sim_crash (off := off) (x := x) hI g2 g3 g4
    exact ⟨m', (stepAll_app g1).trans e1, e2, e3, e4, t5_shape (crash_ok hI.fw hI.st (by omega)).2.2 g5⟩
  | @restart K js es F x ht ih =>
    intro rest hK hoff
    obtain ⟨m, g1, g2, g3, g4, g5⟩ := ih (by omega) hoff
    have hI := ht.inv hv (by omega)
    obtain ⟨m', e1, e2, e3, e4⟩ := sim_restart (off := off) (x := x) hI g2 g3 g4
    exact ⟨m', (stepAll_app g1).trans e1, e2, e3, e4, t5_shape (restart_ok hI.fw hI.st (by omega)).2.2 g5⟩
  | @step K js es F x y ht ih =>
    intro rest hK hoff
    obtain ⟨m, g1, g2, g3, g4, g5⟩ := ih (by omega) hoff
    have hI := ht.inv hv (by omega)
    obtain ⟨m', e1, e2, e3, e4⟩ := sim_step (off := off) (x := x) (y := y) hI (by omega) g2 g3 g4 g5
    exact ⟨m', (stepAll_app g1).trans e1, e2, e3, e4, t5_shape (step_ok hI.fw hI.st (by omega)).2.2 g5⟩
theorem tr_len {c : Cfg} {K : Nat} {js : List (List Task)} {es : List Evt} {F : FS} (h : Tr c K js es F) : ∀ l ∈ js, l.length ≤ 5 := by
  induction h with
  | nil => intro l hl; cases hl
  | add l bd _ _ _ _ h5 _ ih =>
    intro x hx
    rcases List.mem_append.1 hx with h | h
    · exact ih x h
    · rw [List.mem_singleton.1 h]; exact h5
  | cancel _ _ ih => exact ih
  | crash _ _ ih => exact ih
  | restart _ _ ih => exact ih
  | step _ _ _ ih => exact ih
/-- The beginnings of a history. -/
theorem rec_pre {c : Cfg} {off : List TL} {K : Nat} {es : List Evt} {F : FS} {n : Nat} (hv : validCfg c = 0) (hc : c.tasks = 512) (h : Tr c K (off.map (·.l.l)) es F) (hK : K ≤ 3000) (hn : n ≤ es.length) :
    checkM off c (es.take n) = (((n : Nat) : Int), true) ∨ (∃ k e, n = k + 1 ∧ es[k]? = some e ∧ e.kind = 12 ∧ checkM off c (es.take n) = (((k : Nat) : Int), false)) := by
  obtain ⟨m, g1, _⟩ := tr_sim (off := off) hv hc h (rest := []) hK (by simp)
  unfold checkM
  rw [if_pos hv]
  rcases runM_pre (i := 0) g1 hn with h1 | ⟨k, e, h1, h2, h3, h4⟩
  · left; rw [h1]; simp
  · right; exact ⟨k, e, h1, h2, h3, by rw [h4]; simp⟩
/-- What is refused stays refused in front of a history. -/
theorem rec_ext {c : Cfg} {off : List TL} {K : Nat} {es x : List Evt} {F : FS} {p : Int} (hv : validCfg c = 0) (hc : c.tasks = 512) (h : Tr c K (off.map (·.l.l)) es F) (hK : K ≤ 3000) (hx : checkM off c x = (p, false)) : checkM off c (x ++ es) = (p, false) := by
  obtain ⟨m, g1, _⟩ := tr_sim (off := off) hv hc h (rest := []) hK (by simp)
  unfold checkM at *
  rw [if_pos hv] at *
  exact runM_ext (head_ok g1) hx
theorem rec_pre2 {c : Cfg} {off : List TL} {K : Nat} {es : List Evt} {F : FS} {n : Nat} (hv : validCfg c = 0) (hc : c.tasks = 512) (h : Tr c K (off.map (·.l.l)) es F) (hK : K ≤ 120) (hn : n ≤ es.length) (hno : ¬ (checkM off c (es.take n)).2 = true) :
    n ≠ 0 ∧ (checkM off c (es.take n)).1 = ((n : Nat) : Int) - 1 ∧ ∀ e, es[n - 1]? = some e → e.kind = 12 := by
  rcases rec_pre hv hc h (by omega) hn with h1 | ⟨k, e, rfl, h2, h3, h4⟩
  · rw [h1] at hno; exact absurd rfl hno
  · refine ⟨by omega, by rw [h4]; dsimp only; omega, ?_⟩
    intro e' he'
    rw [Nat.add_sub_cancel, h2] at he'
    obtain rfl := Option.some.inj he'
    exact h3
theorem rec_ext2 {c : Cfg} {off : List TL} {K : Nat} {es x : List Evt} {F : FS} (hv : validCfg c = 0) (hc : c.tasks = 512) (h : Tr c K (off.map (·.l.l)) es F) (hK : K ≤ 120) (hno : ¬ (checkM off c x).2 = true) :
    checkM off c (x ++ es) = checkM off c x := by
  have h1 : checkM off c x = ((checkM off c x).1, false) := by
    rw [← Bool.eq_false_iff.2 hno]
  rw [rec_ext hv hc h (by omega) h1]; exact h1.symm
theorem tr_es {c : Cfg} {K : Nat} {js : List (List Task)} {es : List Evt} {F : FS} (h : Tr c K js es F) : es.length ≤ 2 * K := by
  induction h with
  | nil => exact Nat.le_refl _
  | add l bd _ _ _ _ _ _ ih => rw [List.length_append, List.length_singleton]; omega
  | @cancel K js es F k _ ih => have := cancel_len (F := F) (k := k); rw [List.length_append]; omega
  | @crash K js es F x _ ih => have := crash_len (F := F) (x := x); rw [List.length_append]; omega
  | @restart K js es F x _ ih => have := restart_len (F := F) (x := x); rw [List.length_append]; omega
  | @step K js es F x y _ ih => have := step_len (F := F) (x := x) (c := y); rw [List.length_append]; omega
end Go.Proofs.YtimkhljglpookaaGreat
