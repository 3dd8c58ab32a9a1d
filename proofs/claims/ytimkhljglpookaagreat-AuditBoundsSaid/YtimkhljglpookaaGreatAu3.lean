import Derived.Test.YtimkhljglpookaaGreatAu2
namespace Go.Proofs.YtimkhljglpookaaGreat
open Go Go.E
set_option linter.unusedVariables false
set_option linter.unusedSimpArgs false
set_option linter.unnecessarySimpa false
set_option maxRecDepth 100000
set_option maxHeartbeats 2000000
variable {W w : World} {H : Chunk} {F : List Chunk}

/-! ### the auditor's events and checks -/
def helpM (jobs : List JA) (ws : List Wk) (rd : Int) (v : Wk) (f : Int) (l : List Evt) : Bool :=
  decide (v.phase = 0) && (busyM jobs (ws.getD f.toNat default) && (decide (¬ rd > 0) && (match l.head? with | none => false | some n => decide ((n.kind = 6 ∨ n.kind = 7 ∨ n.kind = 8) ∧ n.worker = f))))
def evK (off : List TL) (m : MS) (k : Nat) (v : Wk) (e : Evt) (l : List Evt) : Option MS :=
  if e.kind = 1 then submitM off m e
  else if e.kind = 2 then cancelM m e.job
  else if e.kind = 3 ∨ e.kind = 4 then takeM m k v ⟨e.refJob, e.refTask⟩
  else if e.kind = 5 then (if anotherE m.ws.length e = true then takeM m k v ⟨e.refJob, e.refTask⟩ else none)
  else if e.kind = 6 ∨ e.kind = 7 ∨ e.kind = 8 then (if busyM m.jobs v = true then microM m k v e else none)
  else if e.kind = 9 then dropM m k v ⟨e.refJob, e.refTask⟩
  else if e.kind = 10 then crashM m k v ⟨e.refJob, e.refTask⟩
  else if e.kind = 11 then (if v.phase = 4 then some { m with ws := m.ws.set k { v with phase := 0 } } else none)
  else if e.kind = 12 then (if anotherE m.ws.length e = true ∧ helpM m.jobs m.ws m.rd v e.from_ l = true then some m else none)
  else if e.kind = 13 then (if v.phase = 0 ∧ m.rd = 0 ∧ ¬ m.ws.any (busyM m.jobs) = true then some m else none)
  else none
def eventM (off : List TL) (m : MS) (e : Evt) (l : List Evt) : Option MS :=
  if e = namedE e ∧ 0 ≤ e.worker ∧ e.worker < ((m.ws.length : Nat) : Int) then evK off m e.worker.toNat (m.ws.getD e.worker.toNat default) e l else none
theorem ev_in {off : List TL} {m : MS} {e : Evt} {l : List Evt} {v : Wk} (h1 : e = namedE e) (h2 : 0 ≤ e.worker ∧ e.worker < ((m.ws.length : Nat) : Int)) (hv : m.ws[e.worker.toNat]? = some v) : eventM off m e l = evK off m e.worker.toNat v e l := by
  unfold eventM; rw [if_pos ⟨h1, h2⟩, getD_some hv]
theorem ev_out {off : List TL} {m : MS} {e : Evt} {l : List Evt} (h : ¬ (e = namedE e ∧ 0 ≤ e.worker ∧ e.worker < ((m.ws.length : Nat) : Int))) : eventM off m e l = none := by unfold eventM; rw [if_neg h]
theorem evt_ext {a b : Evt} (h : a.kind = b.kind ∧ a.worker = b.worker ∧ a.from_ = b.from_ ∧ a.job = b.job ∧ a.refJob = b.refJob ∧ a.refTask = b.refTask ∧ a.err = b.err) : a = b := by
  cases a; cases b; simp only at h; obtain ⟨rfl, rfl, rfl, rfl, rfl, rfl, rfl⟩ := h; rfl
theorem evt_eqs {a b : Evt} (h : a = b) : a.kind = b.kind ∧ a.worker = b.worker ∧ a.from_ = b.from_ ∧ a.job = b.job ∧ a.refJob = b.refJob ∧ a.refTask = b.refTask ∧ a.err = b.err := by subst h; exact ⟨rfl, rfl, rfl, rfl, rfl, rfl, rfl⟩
section
variable {off : List TL} {m : MS} {k : Nat} {v : Wk} {e : Evt} {l : List Evt}
theorem evK_1 (h : e.kind = 1) : evK off m k v e l = submitM off m e := by unfold evK; rw [if_pos h]
theorem evK_2 (h : e.kind = 2) : evK off m k v e l = cancelM m e.job := by unfold evK; rw [if_neg (by omega), if_pos h]
theorem evK_3 (h : e.kind = 3 ∨ e.kind = 4) : evK off m k v e l = takeM m k v ⟨e.refJob, e.refTask⟩ := by unfold evK; rw [if_neg (by omega), if_neg (by omega), if_pos h]
theorem evK_5 (h : e.kind = 5) : evK off m k v e l = (if anotherE m.ws.length e = true then takeM m k v ⟨e.refJob, e.refTask⟩ else none) := by unfold evK; rw [if_neg (by omega), if_neg (by omega), if_neg (by omega), if_pos h]
theorem evK_6 (h : e.kind = 6 ∨ e.kind = 7 ∨ e.kind = 8) : evK off m k v e l = (if busyM m.jobs v = true then microM m k v e else none) := by unfold evK; rw [if_neg (by omega), if_neg (by omega), if_neg (by omega), if_neg (by omega), if_pos h]
theorem evK_9 (h : e.kind = 9) : evK off m k v e l = dropM m k v ⟨e.refJob, e.refTask⟩ := by unfold evK; rw [if_neg (by omega), if_neg (by omega), if_neg (by omega), if_neg (by omega), if_neg (by omega), if_pos h]
theorem evK_10 (h : e.kind = 10) : evK off m k v e l = crashM m k v ⟨e.refJob, e.refTask⟩ := by unfold evK; rw [if_neg (by omega), if_neg (by omega), if_neg (by omega), if_neg (by omega), if_neg (by omega), if_neg (by omega), if_pos h]
theorem evK_11 (h : e.kind = 11) : evK off m k v e l = (if v.phase = 4 then some { m with ws := m.ws.set k { v with phase := 0 } } else none) := by unfold evK; rw [if_neg (by omega), if_neg (by omega), if_neg (by omega), if_neg (by omega), if_neg (by omega), if_neg (by omega), if_neg (by omega), if_pos h]
theorem evK_12 (h : e.kind = 12) : evK off m k v e l = (if anotherE m.ws.length e = true ∧ helpM m.jobs m.ws m.rd v e.from_ l = true then some m else none) := by unfold evK; rw [if_neg (by omega), if_neg (by omega), if_neg (by omega), if_neg (by omega), if_neg (by omega), if_neg (by omega), if_neg (by omega), if_neg (by omega), if_pos h]
theorem evK_13 (h : e.kind = 13) : evK off m k v e l = (if v.phase = 0 ∧ m.rd = 0 ∧ ¬ m.ws.any (busyM m.jobs) = true then some m else none) := by unfold evK; rw [if_neg (by omega), if_neg (by omega), if_neg (by omega), if_neg (by omega), if_neg (by omega), if_neg (by omega), if_neg (by omega), if_neg (by omega), if_neg (by omega), if_pos h]
theorem evK_no (h : ¬ (1 ≤ e.kind ∧ e.kind ≤ 13)) : evK off m k v e l = none := by unfold evK; rw [if_neg (by omega), if_neg (by omega), if_neg (by omega), if_neg (by omega), if_neg (by omega), if_neg (by omega), if_neg (by omega), if_neg (by omega), if_neg (by omega), if_neg (by omega)]
end
/-- What stays so of a machine. -/
structure MW (m : MS) (K : Int) : Prop where
  j : ∀ j ∈ m.jobs, JW K j
  s : ∀ j ∈ m.jobs, j.T.length ≤ 12
  w : ∀ v ∈ m.ws, (0 ≤ v.row ∧ v.row ≤ K) ∧ (v.phase ≠ 0 ∧ v.phase ≠ 4 → ∃ s B, m.jobs[v.heldJob.toNat]? = some s ∧ 0 ≤ v.heldJob ∧ v.heldJob < ((m.jobs.length : Nat) : Int) ∧ s.B = some B ∧ 0 ≤ v.heldTask ∧ v.heldTask < ((s.T.length : Nat) : Int))
  r : -(4096 * K) ≤ m.rd ∧ m.rd ≤ 4096 * K
  l : ((m.jobs.length : Nat) : Int) ≤ K
  k : 0 ≤ K ∧ K ≤ 200000
theorem JW.mono {j : JA} {K L : Int} (h : JW K j) (hk : K ≤ L) : JW L j := fun B hB => ⟨(h B hB).1.mono hk, (h B hB).2⟩
theorem MW.held {m : MS} {K : Int} {v : Wk} (h : MW m K) (hv : v ∈ m.ws) (hh : v.phase ≠ 0 ∧ v.phase ≠ 4) : ∃ s B, m.jobs[v.heldJob.toNat]? = some s ∧ 0 ≤ v.heldJob ∧ v.heldJob < ((m.jobs.length : Nat) : Int) ∧ s.B = some B ∧ True ∧ True ∧ BWf B K ∧ B.deps.length = s.T.length := by
  obtain ⟨s, B, h1, h2, h3, h4, _, _⟩ := (h.w v hv).2 hh
  have h5 := h.j s (List.mem_of_getElem? h1) B h4
  exact ⟨s, B, h1, h2, h3, h4, trivial, trivial, h5.1, h5.2⟩
theorem MW.task {m : MS} {K : Int} {v : Wk} (h : MW m K) (hv : v ∈ m.ws) (hh : busyM m.jobs v = true) : ∀ s, m.jobs[v.heldJob.toNat]? = some s → 0 ≤ v.heldTask ∧ v.heldTask < ((s.T.length : Nat) : Int) := by
  intro s hs
  unfold busyM at hh
  obtain ⟨s2, B, h1, _, _, _, h5, h6⟩ := (h.w v hv).2 (of_decide_eq_true ((Bool.and_eq_true _ _).mp hh).1)
  rw [hs] at h1; obtain rfl := Option.some.inj h1
  exact ⟨h5, h6⟩
theorem MW.mono {m : MS} {K L : Int} (h : MW m K) (hk : K ≤ L) (hL : L ≤ 200000) : MW m L :=
  ⟨fun j hj => (h.j j hj).mono hk, h.s, fun v hv => ⟨by have := (h.w v hv).1; omega, (h.w v hv).2⟩, by have := h.r; omega, by have := h.l; omega, by have := h.k; omega⟩
/-- A worker changes. -/
theorem MW.sw {m : MS} {K : Int} (h : MW m K) {k : Nat} {v : Wk} (hv : (0 ≤ v.row ∧ v.row ≤ K) ∧ (v.phase ≠ 0 ∧ v.phase ≠ 4 → ∃ s B, m.jobs[v.heldJob.toNat]? = some s ∧ 0 ≤ v.heldJob ∧ v.heldJob < ((m.jobs.length : Nat) : Int) ∧ s.B = some B ∧ 0 ≤ v.heldTask ∧ v.heldTask < ((s.T.length : Nat) : Int))) : MW { m with ws := m.ws.set k v } K :=
  ⟨h.j, h.s, mem_set' h.w hv, h.r, h.l, h.k⟩
theorem MW.sr {m : MS} {K : Int} (h : MW m K) {r : Int} (hr : -(4096 * K) ≤ r ∧ r ≤ 4096 * K) : MW { m with rd := r } K := ⟨h.j, h.s, h.w, hr, h.l, h.k⟩
/-- A job changes: it has the same tasks, and a board where it had one. -/
theorem MW.sj {m : MS} {K : Int} (h : MW m K) {n : Nat} {s s' : JA} (hs : m.jobs[n]? = some s) (hT : s'.T = s.T) (hB : s.B.isSome = true → s'.B.isSome = true) (hW : JW K s') : MW { m with jobs := m.jobs.set n s' } K := by
  refine ⟨mem_set' h.j hW, mem_set' h.s (by rw [hT]; exact h.s s (List.mem_of_getElem? hs)), ?_, h.r, by simp only [List.length_set]; exact h.l, h.k⟩
  intro v hv
  refine ⟨(h.w v hv).1, fun hh => ?_⟩
  obtain ⟨t, B, h1, h2, h3, h4, h5, h6⟩ := (h.w v hv).2 hh
  dsimp only
  rw [List.getElem?_set, List.length_set]
  by_cases e : n = v.heldJob.toNat
  · have h7 : n < m.jobs.length := (List.getElem?_eq_some_iff.1 hs).1
    rw [if_pos e, if_pos h7]
    rw [← e, hs] at h1; obtain rfl := Option.some.inj h1
    cases hB' : s'.B with
    | none => have := hB (by rw [h4]; rfl); rw [hB'] at this; cases this
    | some B' => exact ⟨s', B', rfl, h2, h3, hB', h5, by rw [hT]; exact h6⟩
  · rw [if_neg e]; exact ⟨t, B, h1, h2, h3, h4, h5, h6⟩
theorem jobA_at {m : MS} {n : Int} {s : JA} (h : m.jobs[n.toNat]? = some s) : jobA m n = s := getD_some h
theorem startB_in {B : BS} {i : Int} (h : (startB B i).2.2 = 0) : 0 ≤ i ∧ i < ((B.deps.length : Nat) : Int) := by
  unfold startB at h
  split at h
  · rename_i hi; exact hi
  · cases h
theorem take_ok {m m' : MS} {K : Int} {k : Nat} {v : Wk} {r : Ref} (h : MW m K) (hK : K + 1 ≤ 200000) (he : takeM m k v r = some m') : MW m' (K + 1) ∧ m'.ws.length = m.ws.length := by
  have hm := h.mono (L := K + 1) (by omega) hK
  unfold takeM at he
  split at he
  · cases he
  · rename_i hc
    obtain ⟨s, B, hs, h1, h2, hB, _, _, hW, hl⟩ := runsM_some (Classical.not_not.1 hc).2 h.j
    rw [jobA_at hs, hB] at he
    dsimp only at he
    split at he
    · cases he
    · rename_i hz
      obtain rfl := Option.some.inj he
      have h3 := startB_in (Classical.not_not.1 hz)
      have hr := h.r; have hk := h.k
      have a := (hm.sj (s' := { s with B := some (startB B r.task).1 }) hs rfl (fun _ => rfl) (fun B' hB' => by
        obtain rfl := Option.some.inj hB'; exact ⟨(start_wf hW).mono (by omega), by rw [start_deps]; exact hl⟩)).sw (k := k) (v := ⟨1, r.job, r.task, (startB B r.task).2.1, 0⟩) ⟨⟨Int.le_refl 0, hm.k.1⟩, fun _ => ⟨{ s with B := some (startB B r.task).1 }, (startB B r.task).1, set_at hs, h1, by simp only [List.length_set]; exact h2, rfl, h3.1, by dsimp only; omega⟩⟩
      exact ⟨a.sr (r := m.rd - 1) (by omega), by simp⟩
theorem micro_okM {m m' : MS} {K : Int} {k : Nat} {v : Wk} {e : Evt} (h : MW m K) (hK : K + 1 ≤ 200000) (hv : m.ws[k]? = some v) (hb : busyM m.jobs v = true) (he : microM m k v e = some m') : MW m' (K + 1) ∧ m'.ws.length = m.ws.length := by
  have hm := h.mono (L := K + 1) (by omega) hK
  have hmv := List.mem_of_getElem? hv
  have hw := hm.w v hmv
  have hw0 := h.w v hmv
  have hb' := hb
  unfold busyM at hb'
  obtain ⟨hb1, hb2⟩ := (Bool.and_eq_true _ _).mp hb'
  obtain ⟨s, B, hs, h1, h2, hB, _, _, hW, hl⟩ := runsM_some hb2 h.j
  have hh := hw.2 (of_decide_eq_true hb1)
  unfold microM at he
  rw [jobA_at hs, hB] at he
  dsimp only at he
  split at he
  · obtain rfl := Option.some.inj he; exact ⟨hm.sw ⟨hw.1, fun _ => hh⟩, by simp⟩
  · split at he
    · obtain rfl := Option.some.inj he
      exact ⟨hm.sw ⟨by have := hw0.1; dsimp only; omega, fun _ => hh⟩, by simp⟩
    · split at he
      · split at he
        · cases he
        · obtain rfl := Option.some.inj he
          have hr := h.r; have hk := h.k
          have hc := com_len (B := B) (i := v.heldTask) (a := v.attempt)
          have hn := hW.n0
          have a := (hm.sj (s' := { s with B := some (comB B v.heldTask v.attempt).1 }) hs rfl (fun _ => rfl) (fun B' hB' => by
            obtain rfl := Option.some.inj hB'; exact ⟨(com_wf hW).mono (by omega), by rw [com_deps]; exact hl⟩)).sw (k := k) (v := ⟨0, 0, 0, 0, 0⟩) ⟨⟨Int.le_refl 0, hm.k.1⟩, fun h => absurd rfl h.1⟩
          exact ⟨a.sr (r := m.rd + (((comB B v.heldTask v.attempt).2.length : Nat) : Int)) (by omega), by simp⟩
      · cases he
theorem drop_ok {m m' : MS} {K : Int} {k : Nat} {v : Wk} {r : Ref} (h : MW m K) (he : dropM m k v r = some m') : MW m' K ∧ m'.ws.length = m.ws.length := by
  unfold dropM at he
  split at he
  · obtain rfl := Option.some.inj he; exact ⟨h.sw ⟨⟨Int.le_refl 0, h.k.1⟩, fun h => absurd rfl h.1⟩, by simp⟩
  · cases he
theorem crash_okM {m m' : MS} {K : Int} {k : Nat} {v : Wk} {r : Ref} (h : MW m K) (hK : K + 1 ≤ 200000) (he : crashM m k v r = some m') : MW m' (K + 1) ∧ m'.ws.length = m.ws.length := by
  have hm := h.mono (L := K + 1) (by omega) hK
  unfold crashM at he
  split at he
  · cases he
  · rename_i hc
    split at he
    · rename_i hb
      unfold busyM at hb
      obtain ⟨s, B, hs, h1, h2, hB, _, _, hW, hl⟩ := runsM_some ((Bool.and_eq_true _ _).mp hb).2 h.j
      have e : v.heldJob = r.job := by
        apply Classical.byContradiction; intro hne; exact hc (.inr fun h => hne h.1)
      rw [e] at hs
      rw [jobA_at hs, hB] at he
      dsimp only at he
      split at he
      · cases he
      · obtain rfl := Option.some.inj he
        have hr := h.r; have hk := h.k
        have a := (hm.sj (s' := { s with B := some (retB B r.task v.attempt) }) hs rfl (fun _ => rfl) (fun B' hB' => by
          obtain rfl := Option.some.inj hB'; exact ⟨ret_wf hW, by rw [ret_deps]; exact hl⟩)).sw (k := k) (v := ⟨4, 0, 0, 0, 0⟩) ⟨⟨Int.le_refl 0, hm.k.1⟩, fun h => absurd rfl h.2⟩
        exact ⟨a.sr (r := m.rd + 1) (by omega), by simp⟩
    · obtain rfl := Option.some.inj he; exact ⟨hm.sw ⟨⟨Int.le_refl 0, hm.k.1⟩, fun h => absurd rfl h.2⟩, by simp⟩
theorem cancel_okM {m m' : MS} {K n : Int} (h : MW m K) (hK : K + 1 ≤ 200000) (he : cancelM m n = some m') : MW m' (K + 1) ∧ m'.ws.length = m.ws.length := by
  have hm := h.mono (L := K + 1) (by omega) hK
  unfold cancelM at he
  split at he
  · rename_i hr
    obtain ⟨s, B, hs, h1, h2, hB, _, _, hW, hl⟩ := runsM_some hr h.j
    rw [jobA_at hs, hB] at he
    dsimp only at he
    obtain rfl := Option.some.inj he
    have hr := h.r; have hk := h.k
    have h3 := idx_le (y := 2) (s := B.st) (k := 0)
    have h4 := hW.ls; have h5 := hW.n0
    have a := (hm.sj (s' := { s with x := true }) hs rfl (fun h => h) (hm.j s (List.mem_of_getElem? hs))).sr (r := m.rd - (((idxOf 2 0 B.st).length : Nat) : Int)) (by omega)
    exact ⟨a, rfl⟩
  · cases he
theorem MW.add {m : MS} {K : Int} (h : MW m K) (hK : K + 1 ≤ 200000) {s : JA} {r : Int} (hW : JW (K + 1) s) (hs : s.T.length ≤ 12) (hr : -(4096 * (K + 1)) ≤ r ∧ r ≤ 4096 * (K + 1)) : MW { m with jobs := m.jobs ++ [s], rd := r } (K + 1) := by
  have hm := h.mono (L := K + 1) (by omega) hK
  refine ⟨?_, ?_, ?_, hr, by simp only [List.length_append, List.length_singleton]; have := h.l; omega, hm.k⟩
  · intro j hj; rcases List.mem_append.1 hj with hj | hj
    · exact hm.j j hj
    · rw [List.mem_singleton.1 hj]; exact hW
  · intro j hj; rcases List.mem_append.1 hj with hj | hj
    · exact h.s j hj
    · rw [List.mem_singleton.1 hj]; exact hs
  · intro v hv
    refine ⟨(hm.w v hv).1, fun hh => ?_⟩
    obtain ⟨t, B, h1, h2, h3, h4, h5, h6⟩ := (hm.w v hv).2 hh
    exact ⟨t, B, by dsimp only; rw [List.getElem?_append_left (by omega)]; exact h1, h2, by simp only [List.length_append, List.length_singleton]; omega, h4, h5, h6⟩
theorem submit_ok {off : List TL} {m m' : MS} {K : Int} {e : Evt} (h : MW m K) (hK : K + 1 ≤ 200000) (ho : ∀ z ∈ off, z.l.l.length ≤ 12) (he : submitM off m e = some m') : MW m' (K + 1) ∧ m'.ws.length = m.ws.length := by
  have hr := h.r; have hk := h.k
  unfold submitM at he
  split at he
  · cases he
  · split at he
    · obtain rfl := Option.some.inj he
      exact ⟨h.add hK (s := ⟨[], none, false⟩) (r := m.rd) (fun B hB => by cases hB) (by simp) (by omega), rfl⟩
    · split at he
      · cases he
      · rename_i T hT
        split at he
        · cases he
        · rename_i hv
          have hv := Classical.not_not.1 hv
          obtain rfl := Option.some.inj he
          have hz := validC_zero hv
          have h3 := idx_le (y := 2) (s := (newB T.l.l).st) (k := 0)
          have h4 : (newB T.l.l).st.length = T.l.l.length := by simp [newB]
          refine ⟨h.add hK (s := ⟨T.l.l, some (newB T.l.l), false⟩) (fun B hB => ?_) (ho T (List.mem_of_getElem? hT)) (by omega), rfl⟩
          obtain rfl := Option.some.inj hB
          exact ⟨(new_wf hv).mono (by omega), by simp [newB]⟩
theorem event_ok {off : List TL} {m m' : MS} {K : Int} {e : Evt} {l : List Evt} (h : MW m K) (hK : K + 1 ≤ 200000) (ho : ∀ z ∈ off, z.l.l.length ≤ 12) (he : eventM off m e l = some m') : MW m' (K + 1) ∧ m'.ws.length = m.ws.length := by
  have hm := h.mono (L := K + 1) (by omega) hK
  unfold eventM at he
  split at he
  · rename_i hc
    have hv : m.ws[e.worker.toNat]? = some (m.ws.getD e.worker.toNat default) := by
      have h1 : e.worker.toNat < m.ws.length := by omega
      rw [List.getD_eq_getElem?_getD, List.getElem?_eq_getElem h1]; rfl
    generalize m.ws.getD e.worker.toNat default = v at he hv
    by_cases h1 : e.kind = 1
    · rw [evK_1 h1] at he; exact submit_ok h hK ho he
    by_cases h2 : e.kind = 2
    · rw [evK_2 h2] at he; exact cancel_okM h hK he
    by_cases h3 : e.kind = 3 ∨ e.kind = 4
    · rw [evK_3 h3] at he; exact take_ok h hK he
    by_cases h5 : e.kind = 5
    · rw [evK_5 h5] at he
      split at he
      · exact take_ok h hK he
      · cases he
    by_cases h6 : e.kind = 6 ∨ e.kind = 7 ∨ e.kind = 8
    · rw [evK_6 h6] at he
      split at he
      · rename_i hb; exact micro_okM h hK hv hb he
      · cases he
    by_cases h9 : e.kind = 9
    · rw [evK_9 h9] at he
      obtain ⟨h1, h2⟩ := drop_ok h he
      exact ⟨h1.mono (by omega) hK, h2⟩
    by_cases h10 : e.kind = 10
    · rw [evK_10 h10] at he; exact crash_okM h hK he
    by_cases h11 : e.kind = 11
    · rw [evK_11 h11] at he
      split at he
      · obtain rfl := Option.some.inj he
        exact ⟨hm.sw ⟨(hm.w v (List.mem_of_getElem? hv)).1, fun h => absurd rfl h.1⟩, by simp⟩
      · cases he
    by_cases h12 : e.kind = 12
    · rw [evK_12 h12] at he
      split at he
      · obtain rfl := Option.some.inj he; exact ⟨hm, rfl⟩
      · cases he
    by_cases h13 : e.kind = 13
    · rw [evK_13 h13] at he
      split at he
      · obtain rfl := Option.some.inj he; exact ⟨hm, rfl⟩
      · cases he
    rw [evK_no (by omega)] at he; cases he
  · cases he
def runM (off : List TL) : MS → List Evt → Nat → Int × Bool
  | _, [], i => (((i : Nat) : Int), true)
  | m, e :: l, i => match eventM off m e l with
    | none => (((i : Nat) : Int), false)
    | some m' => runM off m' l (i + 1)
def startM (c : Cfg) : MS := ⟨List.replicate c.workers.toNat ⟨0, 0, 0, 0, 0⟩, [], 0⟩
def checkM (off : List TL) (c : Cfg) (l : List Evt) : Int × Bool := if validCfg c = 0 then runM off (startM c) l 0 else (0, false)
theorem run_no {off : List TL} {m : MS} {l : List Evt} {i : Nat} {e : Evt} (h : l[i]? = some e) (he : eventM off m e (l.drop (i + 1)) = none) : runM off m (l.drop i) i = (((i : Nat) : Int), false) := by
  have hi := (List.getElem?_eq_some_iff.1 h).1
  have h1 : l.drop i = l[i] :: l.drop (i + 1) := List.drop_eq_getElem_cons hi
  have h2 : l[i] = e := (List.getElem?_eq_some_iff.1 h).2
  rw [h1, h2, runM, he]
theorem run_yes {off : List TL} {m m' : MS} {l : List Evt} {i : Nat} {e : Evt} (h : l[i]? = some e) (he : eventM off m e (l.drop (i + 1)) = some m') : runM off m (l.drop i) i = runM off m' (l.drop (i + 1)) (i + 1) := by
  have hi := (List.getElem?_eq_some_iff.1 h).1
  have h1 : l.drop i = l[i] :: l.drop (i + 1) := List.drop_eq_getElem_cons hi
  have h2 : l[i] = e := (List.getElem?_eq_some_iff.1 h).2
  rw [h1, h2, runM, he]
theorem startM_ok (c : Cfg) : MW (startM c) 0 := by
  refine ⟨(fun j hj => by cases hj), (fun j hj => by cases hj), ?_, by simp [startM], by simp [startM], by omega⟩
  intro v hv
  obtain rfl := List.eq_of_mem_replicate hv
  exact ⟨⟨Int.le_refl 0, Int.le_refl 0⟩, fun h => absurd rfl h.1⟩
theorem am_drop {W w : World} {p wb wo : Nat} {H : Chunk} {oa ja : Option Addr} {on ok wn wk jn jk : Nat} {rd : Int} {ws : List Wk} {jobs : List JA} {ps : List Nat} {Wc Jc : Chunk} {jcs F : List Chunk} {K : Int} (hOw : OwnT encWk 120 5 (some ⟨wb, wo, none⟩) wn wk ws Wc) (hOj : OwnT encP 153 1 ja jn jk ps Jc) (hJs : Obs (JobA H) ps jobs jcs) (hJW : ∀ j ∈ jobs, JW K j) {off : List TL} (hof : RdT encTL 1 [H] oa on ok off) (dof : ∀ z ∈ off, TL.Ok [H] z) (hrd : -1000000000 ≤ rd ∧ rd ≤ 1000000000) (hK : K ≤ 1000000000) (k : Nat) (v : Wk) (hv : ws[k]? = some v) (r : Ref) (hheld : (v.phase ≠ 0 ∧ v.phase ≠ 4) → ∃ s B, jobs[v.heldJob.toNat]? = some s ∧ 0 ≤ v.heldJob ∧ v.heldJob < ((jobs.length : Nat) : Int) ∧ s.B = some B ∧ True ∧ True ∧ BWf B K ∧ B.deps.length = s.T.length) (hS : Sat W w ([(p, .cells #[.slice oa on ok, .slice (some ⟨wb, wo, none⟩) wn wk, .slice ja jn jk, .int .i64 rd] 74 (0, 0))] :: Wc :: Jc :: jcs.flatten :: H :: F)) :
    Calls Tryz.prog 59 #[.pointer (some ⟨p, 0, none⟩), .pointer (some ⟨wb, wo + k * 5, none⟩), .agg #[.int .i64 r.job, .int .i64 r.task]] w fun e w' => (dropM (⟨ws, jobs, rd⟩ : MS) k v r = none ∧ e = .returned (.bool false) ∧ Sat W w' (H :: F)) ∨ (∃ (m' : MS) (M' : Chunk), dropM (⟨ws, jobs, rd⟩ : MS) k v r = some m' ∧ e = .returned (.bool true) ∧ MachR p wb wo H off m' M' ∧ Sat W w' (M' :: H :: F)) := by
  by_cases h : (v.phase ≠ 0 ∧ v.phase ≠ 4) ∧ v.heldJob = r.job ∧ v.heldTask = r.task
  · exact am_drop_y hOw hOj hJs hJW hof dof hrd hK k v hv r h.1 h.2 (h.2.1 ▸ hheld h.1) hS
  · exact am_drop_n hOw hOj hJs hJW hof dof hrd hK k v hv r h hS
theorem am_help {p wb wo : Nat} {H : Chunk} {oa ja : Option Addr} {on ok wn wk jn jk : Nat} {rd : Int} {ws : List Wk} {jobs : List JA} {ps : List Nat} {Wc Jc : Chunk} {jcs F : List Chunk} {K : Int} (hOw : OwnT encWk 120 5 (some ⟨wb, wo, none⟩) wn wk ws Wc) (hOj : OwnT encP 153 1 ja jn jk ps Jc) (hJs : Obs (JobA H) ps jobs jcs) (hJW : ∀ j ∈ jobs, JW K j) (k : Nat) (v : Wk) (hv : ws[k]? = some v) (f : Int) (hf : 0 ≤ f ∧ f < ws.length) (al : Option Addr) (nl kl : Nat) (l : List Evt) (hl : RdT encEvt 7 [H] al nl kl l) (hS : Sat W w ([(p, .cells #[.slice oa on ok, .slice (some ⟨wb, wo, none⟩) wn wk, .slice ja jn jk, .int .i64 rd] 74 (0, 0))] :: Wc :: Jc :: jcs.flatten :: H :: F)) :
    Calls Tryz.prog 61 #[.pointer (some ⟨p, 0, none⟩), .pointer (some ⟨wb, wo + k * 5, none⟩), .int .i64 f, .slice al nl kl] w fun e w' => e = .returned (.bool (helpM jobs ws rd v f l)) ∧ Sat W w' ([(p, .cells #[.slice oa on ok, .slice (some ⟨wb, wo, none⟩) wn wk, .slice ja jn jk, .int .i64 rd] 74 (0, 0))] :: Wc :: Jc :: jcs.flatten :: H :: F) := by
  have hwl := hOw.len; have hwk := hOw.le; have hjl := hOj.len; have hjk := hOj.le; have hjs := hJs.1
  have hp_1 := OwnT.ptr hOw rfl hv
  have hl_l := hl.le; have hn_l := hl.len
  refine callsA 51 Tryz.func61 rfl ?_
  refine seqE <| regionE <| pu1 <| nilO <| thenK_n <| seqE <| seqE <| regionE <| pu3 ?_
  refine sLp hS (hp_1.up 1 rfl) 0 (.int .i64 v.phase) (Tryz.isAgg3 _) ?_
  refine pu2 ?_
  refine sN 15 v.phase 0 (fun hc_2 => ?_) (fun hc_2 => ?_)
  rotate_left
  · refine pu16 <| pu6 <| nilO <| thenK_n <| cTt <| seqE <| regionE <| pu1 <| nilO <| thenK_n <| retE <| thenK_r <| retT [.bool false] <| ?_
    exact ⟨congrArg (fun b => Ending.returned (.bool b)) (by unfold helpM; rw [decide_eq_false (by omega)]; rfl), hS⟩
  refine pu4 <| gY ?_
  refine sL hS 0 1 (.slice (some ⟨wb, wo, none⟩) wn wk) (Tryz.isAgg71 _) ?_
  refine pu1 <| gY ?_
  refine sIdxO hOw f (f).toNat Tryz.runUnderlying71 Tryz.sizeOf120 ?_
  intro x_3 b_4 o_5 hx_6 hp_7 hq_8
  obtain ⟨rfl, rfl⟩ := some_addr hq_8
  refine gY ?_
  have hS_9 := (((((hS.pick 4 rfl).pick 4 rfl).pick 4 rfl).pick 4 rfl).pick 4 rfl)
  refine cX Tryz.call57 (am_busy hOw hOj hJs hJW ((f).toNat) x_3 hx_6 hS_9) ?_
  rintro _ w_10 ⟨rfl, hS_11⟩
  refine pu3 ?_
  refine sBn 26 (busyM jobs x_3) (fun hc_12 => ?_) (fun hc_12 => ?_)
  rotate_left
  · refine pu11 <| nilO <| thenK_n <| cTt <| seqE <| regionE <| pu1 <| nilO <| thenK_n <| retE <| thenK_r <| retT [.bool false] <| ?_
    exact ⟨congrArg (fun b => Ending.returned (.bool b)) (by unfold helpM; rw [decide_eq_true (by omega), getD_some hx_6, Bool.eq_false_iff.2 hc_12]; rfl), hS_11⟩
  refine pu3 <| gY ?_
  refine sL hS_11 0 3 (.int .i64 rd) (Tryz.isAgg3 _) ?_
  refine pu3 ?_
  refine sD 33 (rd > 0) (fun hc_13 => ?_) (fun hc_13 => ?_)
  · refine pu4 <| nilO <| thenK_n <| cTt <| seqE <| regionE <| pu1 <| nilO <| thenK_n <| retE <| thenK_r <| retT [.bool false] <| ?_
    exact ⟨congrArg (fun b => Ending.returned (.bool b)) (by unfold helpM; rw [decide_eq_true (by omega), getD_some hx_6, hc_12]; rw [decide_eq_false (by omega)]; rfl), hS_11⟩
  refine pu4 <| nilO <| thenK_n <| ?_
  refine cE ((nl : Nat) : Int) 0 (fun hc_14 => ?_) (fun hc_14 => ?_)
  · refine seqE <| regionE <| pu1 <| nilO <| thenK_n <| retE <| thenK_r <| retT [.bool false] <| ?_
    exact ⟨congrArg (fun b => Ending.returned (.bool b)) (by unfold helpM; rw [decide_eq_true (by omega), getD_some hx_6, hc_12]; rw [decide_eq_true (by omega)]; rw [List.length_eq_zero_iff.1 (show l.length = 0 by omega)]; rfl), hS_11⟩
  refine skipE <| thenK_n <| seqE <| regionE <| pu1 ?_
  refine sIdx hl 0 Tryz.runUnderlying26 Tryz.sizeOf43 ?_
  intro x_15 b_16 o_17 hx_18 hp_19
  refine sLpA hS_11 (hp_19.up 4 rfl) 0 (encEvt x_15) (Tryz.isAgg43 _) (Tryz.sizeOf43 _) ?_
  refine sAlloc hS_11 Tryz.zeroValue43 ?_
  intro b_20 w_21 hS_22
  refine sT hS_22 0 0 (.agg (encEvt x_15).toArray) (encEvt x_15) (encEvt x_15).toArray Tryz.sizeOf43 ?_
  intro w_23 hS_24
  refine nilO <| thenK_n <| seqE <| seqE <| regionE <| pu1 ?_
  refine sL hS_24 0 0 (.int .i64 x_15.kind) (Tryz.isAgg3 _) ?_
  refine nilO <| thenK_n <| blockE <| seqE <| seqE <| regionE <| pu2 <| nilO <| thenK_n <| ?_
  refine cE x_15.kind 6 (fun hc_25 => ?_) (fun hc_25 => ?_)
  · refine skipE <| thenK_n <| ?_
    refine cT _ (beq_iff_eq.2 hc_25) ?_
    refine seqE <| regionE <| pu1 ?_
    refine sL hS_24 0 1 (.int .i64 x_15.worker) (Tryz.isAgg3 _) ?_
    refine pu3 <| nilO <| thenK_n <| retE <| blockK_r <| thenK_r <| retT [.bool ((x_15.worker : Int) == f)] <| ?_
    have hS_26 := (hS_24.dropAt 0 rfl)
    exact ⟨congrArg (fun b => Ending.returned (.bool b)) (by unfold helpM; rw [decide_eq_true (by omega), getD_some hx_6, hc_12]; rw [decide_eq_true (by omega)]; rw [show l.head? = some x_15 from by rw [List.head?_eq_getElem?]; exact hx_18]; simp only [Bool.true_and]; rw [Bool.eq_iff_iff]; simp only [decide_eq_true_eq, beq_iff_eq]; omega), hS_26⟩
  refine seqE <| regionE <| pu2 <| nilO <| thenK_n <| ?_
  refine cE x_15.kind 7 (fun hc_27 => ?_) (fun hc_27 => ?_)
  · refine skipE <| thenK_n <| ?_
    refine cT _ (beq_iff_eq.2 hc_27) ?_
    refine seqE <| regionE <| pu1 ?_
    refine sL hS_24 0 1 (.int .i64 x_15.worker) (Tryz.isAgg3 _) ?_
    refine pu3 <| nilO <| thenK_n <| retE <| blockK_r <| thenK_r <| retT [.bool ((x_15.worker : Int) == f)] <| ?_
    have hS_28 := (hS_24.dropAt 0 rfl)
    exact ⟨congrArg (fun b => Ending.returned (.bool b)) (by unfold helpM; rw [decide_eq_true (by omega), getD_some hx_6, hc_12]; rw [decide_eq_true (by omega)]; rw [show l.head? = some x_15 from by rw [List.head?_eq_getElem?]; exact hx_18]; simp only [Bool.true_and]; rw [Bool.eq_iff_iff]; simp only [decide_eq_true_eq, beq_iff_eq]; omega), hS_28⟩
  refine regionE <| pu2 <| nilO <| thenK_n <| ?_
  refine cE x_15.kind 8 (fun hc_29 => ?_) (fun hc_29 => ?_)
  rotate_left
  · refine skipE <| blockK_n <| thenK_n <| seqE <| regionE <| pu1 <| nilO <| thenK_n <| retE <| retT [.bool false] <| ?_
    have hS_31 := (hS_24.dropAt 0 rfl)
    exact ⟨congrArg (fun b => Ending.returned (.bool b)) (by unfold helpM; rw [decide_eq_true (by omega), getD_some hx_6, hc_12]; rw [decide_eq_true (by omega)]; rw [show l.head? = some x_15 from by rw [List.head?_eq_getElem?]; exact hx_18]; simp only [Bool.true_and]; exact (decide_eq_false (by omega)).symm), hS_31⟩
  refine seqE <| regionE <| pu1 ?_
  refine sL hS_24 0 1 (.int .i64 x_15.worker) (Tryz.isAgg3 _) ?_
  refine pu3 <| nilO <| thenK_n <| retE <| blockK_r <| thenK_r <| retT [.bool ((x_15.worker : Int) == f)] <| ?_
  have hS_30 := (hS_24.dropAt 0 rfl)
  exact ⟨congrArg (fun b => Ending.returned (.bool b)) (by unfold helpM; rw [decide_eq_true (by omega), getD_some hx_6, hc_12]; rw [decide_eq_true (by omega)]; rw [show l.head? = some x_15 from by rw [List.head?_eq_getElem?]; exact hx_18]; simp only [Bool.true_and]; rw [Bool.eq_iff_iff]; simp only [decide_eq_true_eq, beq_iff_eq]; omega), hS_30⟩
theorem another_bd {n : Nat} {e : Evt} (h : anotherE n e = true) : 0 ≤ e.from_ ∧ e.from_ < ((n : Nat) : Int) := by
  unfold anotherE at h; have := of_decide_eq_true h; exact ⟨this.1, this.2.1⟩
theorem am_event {p wb wo : Nat} {H : Chunk} {off : List TL} {m : MS} {M : Chunk} {F : List Chunk} {K : Int} (hM : MachR p wb wo H off m M) (hMW : MW m K) (ev : Evt) (al : Option Addr) (nl kl : Nat) (l : List Evt) (hl : RdT encEvt 7 [H] al nl kl l) (hS : Sat W w (M :: H :: F)) :
    Calls Tryz.prog 29 #[.pointer (some ⟨p, 0, none⟩), .agg (encEvt ev).toArray, .slice al nl kl] w fun e w' => (eventM off m ev l = none ∧ e = .returned (.bool false) ∧ Sat W w' (H :: F)) ∨ (∃ (m' : MS) (M' : Chunk), eventM off m ev l = some m' ∧ e = .returned (.bool true) ∧ MachR p wb wo H off m' M' ∧ Sat W w' (M' :: H :: F)) := by
  obtain ⟨ws, jobs, rd⟩ := m
  obtain ⟨oa, ja, on, ok, wn, wk, jn, jk, ps, Wc, Jc, jcs, rfl, hOw, hOj, hJs, hof, dof⟩ := hM
  have hS : Sat W w ([(p, .cells #[.slice oa on ok, .slice (some ⟨wb, wo, none⟩) wn wk, .slice ja jn jk, .int .i64 rd] 74 (0, 0))] :: Wc :: Jc :: jcs.flatten :: H :: F) := Sat.perm hS (by simp)
  have hJW : ∀ j ∈ jobs, JW K j := hMW.j; have hrd0 := hMW.r; have hkk := hMW.k; have hjl0 := hMW.l; dsimp only at hrd0 hjl0 hOw hOj hJs; have hrd : -1000000000 ≤ rd ∧ rd ≤ 1000000000 := by omega
  have hK2 : K ≤ 1000000000 := by omega
  have hwl := hOw.len; have hwk := hOw.le; have hjl := hOj.len; have hjk := hOj.le; have hjs := hJs.1
  have hl_l := hl.le; have hn_l := hl.len
  refine callsA 136 Tryz.func29 rfl ?_
  refine seqE <| regionE ?_
  refine sBox hS (.agg (encEvt ev).toArray) (encEvt ev).toArray ?_
  intro b_1 w_2 hS_3
  refine pu1 <| nilO <| thenK_n <| seqE <| seqE ?_
  refine drawP [2, 6, 11, 15] [(0, ⟨b_1, 0, none⟩, .int .i64 ev.kind), (0, ⟨b_1, 1, none⟩, .int .i64 ev.worker), (0, ⟨b_1, 2, none⟩, .int .i64 ev.from_), (0, ⟨b_1, 3, none⟩, .int .i64 ev.job), (0, ⟨b_1, 4, none⟩, .int .i64 ev.refJob), (0, ⟨b_1, 5, none⟩, .int .i64 ev.refTask), (0, ⟨b_1, 6, none⟩, .int .i64 ev.err), (1, ⟨b_1, 0, none⟩, .int .i64 ev.kind), (1, ⟨b_1, 1, none⟩, .int .i64 ev.worker), (1, ⟨b_1, 2, none⟩, .int .i64 ev.from_), (1, ⟨b_1, 3, none⟩, .int .i64 ev.job), (1, ⟨b_1, 4, none⟩, .int .i64 ev.refJob), (1, ⟨b_1, 5, none⟩, .int .i64 ev.refTask), (1, ⟨b_1, 6, none⟩, .int .i64 ev.err)] (Plan.sts [0] <| Plan.sts [1] <| .ef 2 <| Plan.sts [3] <| Plan.sts [4] <| Plan.sts [5] <| .ef 6 <| Plan.sts [7] <| Plan.sts [8] <| Plan.sts [9] <| Plan.sts [10] <| Plan.sts [12] <| Plan.sts [13] <| Plan.sts [14] <| .fk 11 15 (.ef 15 <| Plan.sts [16] <| Plan.sts [17] <| Plan.sts [18] <| .fin) (Plan.sts [16] <| .ef 11 <| Plan.sts [17] <| Plan.sts [18] <| .fin)) rfl (by kernel_rfl) ⟨.inr (hS_3.cell 0 rfl rfl), .inr (hS_3.cell 0 rfl rfl), .inr (hS_3.cell 0 rfl rfl), .inr (hS_3.cell 0 rfl rfl), .inr (hS_3.cell 0 rfl rfl), .inr (hS_3.cell 0 rfl rfl), .inr (hS_3.cell 0 rfl rfl), .inr (hS_3.cell 0 rfl rfl), .inr (hS_3.cell 0 rfl rfl), .inr (hS_3.cell 0 rfl rfl), .inr (hS_3.cell 0 rfl rfl), .inr (hS_3.cell 0 rfl rfl), .inr (hS_3.cell 0 rfl rfl), .inr (hS_3.cell 0 rfl rfl), trivial⟩ ?_
  have hS_4 := hS_3.drew
  refine qY (.agg (encEvt ev).toArray) rfl (fun w hF => Y_loadF rfl (Tryz.isAgg43 w) (Tryz.sizeOf43 w) (by kernel_rfl) rfl ⟨hF 0 _ _ rfl, hF 1 _ _ rfl, hF 2 _ _ rfl, hF 3 _ _ rfl, hF 4 _ _ rfl, hF 5 _ _ rfl, hF 6 _ _ rfl, trivial⟩) ?_
  refine qY (.agg (encEvt ev).toArray) rfl (fun w hF => Y_loadF rfl (Tryz.isAgg43 w) (Tryz.sizeOf43 w) (by kernel_rfl) rfl ⟨hF 7 _ _ rfl, hF 8 _ _ rfl, hF 9 _ _ rfl, hF 10 _ _ rfl, hF 11 _ _ rfl, hF 12 _ _ rfl, hF 13 _ _ rfl, trivial⟩) ?_
  refine qO rfl ?_
  refine cR Tryz.call52 (au_named ev (Sat.flat hS_4)) ?_
  intro w_5 hS_6
  refine nilO ⟨⟨.inr (hS_6.cell 0 rfl rfl), .inr (hS_6.cell 0 rfl rfl), .inr (hS_6.cell 0 rfl rfl), .inr (hS_6.cell 0 rfl rfl), .inr (hS_6.cell 0 rfl rfl), .inr (hS_6.cell 0 rfl rfl), .inr (hS_6.cell 0 rfl rfl), .inl (by kernel_rfl), .inl (by kernel_rfl), .inl (by kernel_rfl), .inl (by kernel_rfl), .inl (by kernel_rfl), .inl (by kernel_rfl), .inl (by kernel_rfl), trivial⟩, ?_⟩
  refine qY (.bool (!(((ev.kind : Int) == ((namedE ev).kind)) && ((ev.worker : Int) == ((namedE ev).worker)) && ((ev.from_ : Int) == ((namedE ev).from_)) && ((ev.job : Int) == ((namedE ev).job)) && ((ev.refJob : Int) == ((namedE ev).refJob)) && ((ev.refTask : Int) == ((namedE ev).refTask)) && ((ev.err : Int) == ((namedE ev).err))))) rfl (fun w _ => Y_eqS rfl (by kernel_rfl) (by kernel_rfl) (eqvn43 _ ev.kind ev.worker ev.from_ ev.job ev.refJob ev.refTask ev.err ((namedE ev).kind) ((namedE ev).worker) ((namedE ev).from_) ((namedE ev).job) ((namedE ev).refJob) ((namedE ev).refTask) ((namedE ev).err))) ?_
  refine qU [4] ?_
  rcases Classical.em ((ev.kind : Int) = ((namedE ev).kind) ∧ (ev.worker : Int) = ((namedE ev).worker) ∧ (ev.from_ : Int) = ((namedE ev).from_) ∧ (ev.job : Int) = ((namedE ev).job) ∧ (ev.refJob : Int) = ((namedE ev).refJob) ∧ (ev.refTask : Int) = ((namedE ev).refTask) ∧ (ev.err : Int) = ((namedE ev).err)) with hc_8 | hc_8
  rotate_left
  · refine qFix 12 _ true (congrArg Bool.not (show (((ev.kind : Int) == ((namedE ev).kind)) && ((ev.worker : Int) == ((namedE ev).worker)) && ((ev.from_ : Int) == ((namedE ev).from_)) && ((ev.job : Int) == ((namedE ev).job)) && ((ev.refJob : Int) == ((namedE ev).refJob)) && ((ev.refTask : Int) == ((namedE ev).refTask)) && ((ev.err : Int) == ((namedE ev).err))) = false from by rw [← Bool.not_eq_true]; intro h_; exact hc_8 (by simpa [and_assoc] using h_))) ?_
    refine qU [5] ?_
    refine qO rfl ?_
    refine pu1 ?_
    refine nilO ⟨⟨.inr (hS_6.cell 0 rfl rfl), .inr (hS_6.cell 0 rfl rfl), .inr (hS_6.cell 0 rfl rfl), .inr (hS_6.cell 0 rfl rfl), .inr (hS_6.cell 0 rfl rfl), .inr (hS_6.cell 0 rfl rfl), .inr (hS_6.cell 0 rfl rfl), .inl (by kernel_rfl), .inl (by kernel_rfl), .inl (by kernel_rfl), .inl (by kernel_rfl), .inl (by kernel_rfl), .inl (by kernel_rfl), .inl (by kernel_rfl), trivial⟩, ?_⟩
    refine qU [7] <| qU [8] <| qU [9] <| qU [10] <| qU [12] <| qU [13] <| qU [14] ?_
    refine qF ?_ ?_
    · refine qO rfl ?_
      refine pu1 ?_
      refine nilO ⟨⟨.inr (hS_6.cell 0 rfl rfl), .inr (hS_6.cell 0 rfl rfl), .inr (hS_6.cell 0 rfl rfl), .inr (hS_6.cell 0 rfl rfl), .inr (hS_6.cell 0 rfl rfl), .inr (hS_6.cell 0 rfl rfl), .inr (hS_6.cell 0 rfl rfl), .inl (by kernel_rfl), .inl (by kernel_rfl), .inl (by kernel_rfl), .inl (by kernel_rfl), .inl (by kernel_rfl), .inl (by kernel_rfl), .inl (by kernel_rfl), trivial⟩, ?_⟩
      refine qO rfl ?_
      refine pu1 ?_
      refine nilO ⟨⟨.inr (hS_6.cell 0 rfl rfl), .inr (hS_6.cell 0 rfl rfl), .inr (hS_6.cell 0 rfl rfl), .inr (hS_6.cell 0 rfl rfl), .inr (hS_6.cell 0 rfl rfl), .inr (hS_6.cell 0 rfl rfl), .inr (hS_6.cell 0 rfl rfl), .inl (by kernel_rfl), .inl (by kernel_rfl), .inl (by kernel_rfl), .inl (by kernel_rfl), .inl (by kernel_rfl), .inl (by kernel_rfl), .inl (by kernel_rfl), trivial⟩, ?_⟩
      refine qU [16] <| qU [17] <| qU [18] ?_
      refine qN ?_
      refine thenK_n <| cTt <| seqE <| regionE <| pu1 <| nilO <| thenK_n <| retE <| thenK_r <| retT [.bool false] <| ?_
      have hS_342 := (((((hS_6.dropAt 0 rfl).dropAt 0 rfl).dropAt 0 rfl).dropAt 0 rfl).dropAt 0 rfl)
      exact .inl ⟨ev_out (fun h => hc_8 (evt_eqs h.1)), rfl, hS_342⟩
    refine qO rfl ?_
    refine pu1 ?_
    refine nilO ⟨⟨.inr (hS_6.cell 0 rfl rfl), .inr (hS_6.cell 0 rfl rfl), .inr (hS_6.cell 0 rfl rfl), .inr (hS_6.cell 0 rfl rfl), .inr (hS_6.cell 0 rfl rfl), .inr (hS_6.cell 0 rfl rfl), .inr (hS_6.cell 0 rfl rfl), .inl (by kernel_rfl), .inl (by kernel_rfl), .inl (by kernel_rfl), .inl (by kernel_rfl), .inl (by kernel_rfl), .inl (by kernel_rfl), .inl (by kernel_rfl), trivial⟩, ?_⟩
    refine qU [16] ?_
    refine qO rfl ?_
    refine pu1 ?_
    refine nilO ⟨⟨.inr (hS_6.cell 0 rfl rfl), .inr (hS_6.cell 0 rfl rfl), .inr (hS_6.cell 0 rfl rfl), .inr (hS_6.cell 0 rfl rfl), .inr (hS_6.cell 0 rfl rfl), .inr (hS_6.cell 0 rfl rfl), .inr (hS_6.cell 0 rfl rfl), .inl (by kernel_rfl), .inl (by kernel_rfl), .inl (by kernel_rfl), .inl (by kernel_rfl), .inl (by kernel_rfl), .inl (by kernel_rfl), .inl (by kernel_rfl), trivial⟩, ?_⟩
    refine qU [17] <| qU [18] ?_
    refine qN ?_
    refine thenK_n <| cTt <| seqE <| regionE <| pu1 <| nilO <| thenK_n <| retE <| thenK_r <| retT [.bool false] <| ?_
    have hS_343 := (((((hS_6.dropAt 0 rfl).dropAt 0 rfl).dropAt 0 rfl).dropAt 0 rfl).dropAt 0 rfl)
    exact .inl ⟨ev_out (fun h => hc_8 (evt_eqs h.1)), rfl, hS_343⟩
  refine qFix 12 _ false (congrArg Bool.not (show (((ev.kind : Int) == ((namedE ev).kind)) && ((ev.worker : Int) == ((namedE ev).worker)) && ((ev.from_ : Int) == ((namedE ev).from_)) && ((ev.job : Int) == ((namedE ev).job)) && ((ev.refJob : Int) == ((namedE ev).refJob)) && ((ev.refTask : Int) == ((namedE ev).refTask)) && ((ev.err : Int) == ((namedE ev).err))) = true from by simpa [and_assoc] using hc_8)) ?_
  refine qU [5] ?_
  refine qO rfl ?_
  refine gY ?_
  refine sL hS_6 0 1 (.int .i64 ev.worker) (Tryz.isAgg3 _) ?_
  refine nilO ⟨⟨.inr (hS_6.cell 0 rfl rfl), .inr (hS_6.cell 0 rfl rfl), .inr (hS_6.cell 0 rfl rfl), .inr (hS_6.cell 0 rfl rfl), .inr (hS_6.cell 0 rfl rfl), .inr (hS_6.cell 0 rfl rfl), .inr (hS_6.cell 0 rfl rfl), .inl (by kernel_rfl), .inl (by kernel_rfl), .inl (by kernel_rfl), .inl (by kernel_rfl), .inl (by kernel_rfl), .inl (by kernel_rfl), .inl (by kernel_rfl), trivial⟩, ?_⟩
  refine qU [7] <| qU [8] <| qU [9] ?_
  by_cases hc_9 : (ev.worker : Int) < 0
  · refine qFix 17 _ true (decide_eq_true hc_9) ?_
    refine qU [10] <| qU [12] <| qU [13] <| qU [14] ?_
    refine qF ?_ ?_
    · refine qO rfl ?_
      refine pu1 ?_
      refine nilO ⟨⟨.inr (hS_6.cell 0 rfl rfl), .inr (hS_6.cell 0 rfl rfl), .inr (hS_6.cell 0 rfl rfl), .inr (hS_6.cell 0 rfl rfl), .inr (hS_6.cell 0 rfl rfl), .inr (hS_6.cell 0 rfl rfl), .inr (hS_6.cell 0 rfl rfl), .inl (by kernel_rfl), .inl (by kernel_rfl), .inl (by kernel_rfl), .inl (by kernel_rfl), .inl (by kernel_rfl), .inl (by kernel_rfl), .inl (by kernel_rfl), trivial⟩, ?_⟩
      refine qO rfl ?_
      refine pu1 ?_
      refine nilO ⟨⟨.inr (hS_6.cell 0 rfl rfl), .inr (hS_6.cell 0 rfl rfl), .inr (hS_6.cell 0 rfl rfl), .inr (hS_6.cell 0 rfl rfl), .inr (hS_6.cell 0 rfl rfl), .inr (hS_6.cell 0 rfl rfl), .inr (hS_6.cell 0 rfl rfl), .inl (by kernel_rfl), .inl (by kernel_rfl), .inl (by kernel_rfl), .inl (by kernel_rfl), .inl (by kernel_rfl), .inl (by kernel_rfl), .inl (by kernel_rfl), trivial⟩, ?_⟩
      refine qU [16] <| qU [17] <| qU [18] ?_
      refine qN ?_
      refine thenK_n <| cTt <| seqE <| regionE <| pu1 <| nilO <| thenK_n <| retE <| thenK_r <| retT [.bool false] <| ?_
      have hS_10 := (((((hS_6.dropAt 0 rfl).dropAt 0 rfl).dropAt 0 rfl).dropAt 0 rfl).dropAt 0 rfl)
      exact .inl ⟨ev_out (fun h => by have h2 := h.2; dsimp only at h2; omega), rfl, hS_10⟩
    refine qO rfl ?_
    refine pu1 ?_
    refine nilO ⟨⟨.inr (hS_6.cell 0 rfl rfl), .inr (hS_6.cell 0 rfl rfl), .inr (hS_6.cell 0 rfl rfl), .inr (hS_6.cell 0 rfl rfl), .inr (hS_6.cell 0 rfl rfl), .inr (hS_6.cell 0 rfl rfl), .inr (hS_6.cell 0 rfl rfl), .inl (by kernel_rfl), .inl (by kernel_rfl), .inl (by kernel_rfl), .inl (by kernel_rfl), .inl (by kernel_rfl), .inl (by kernel_rfl), .inl (by kernel_rfl), trivial⟩, ?_⟩
    refine qU [16] ?_
    refine qO rfl ?_
    refine pu1 ?_
    refine nilO ⟨⟨.inr (hS_6.cell 0 rfl rfl), .inr (hS_6.cell 0 rfl rfl), .inr (hS_6.cell 0 rfl rfl), .inr (hS_6.cell 0 rfl rfl), .inr (hS_6.cell 0 rfl rfl), .inr (hS_6.cell 0 rfl rfl), .inr (hS_6.cell 0 rfl rfl), .inl (by kernel_rfl), .inl (by kernel_rfl), .inl (by kernel_rfl), .inl (by kernel_rfl), .inl (by kernel_rfl), .inl (by kernel_rfl), .inl (by kernel_rfl), trivial⟩, ?_⟩
    refine qU [17] <| qU [18] ?_
    refine qN ?_
    refine thenK_n <| cTt <| seqE <| regionE <| pu1 <| nilO <| thenK_n <| retE <| thenK_r <| retT [.bool false] <| ?_
    have hS_11 := (((((hS_6.dropAt 0 rfl).dropAt 0 rfl).dropAt 0 rfl).dropAt 0 rfl).dropAt 0 rfl)
    exact .inl ⟨ev_out (fun h => by have h2 := h.2; dsimp only at h2; omega), rfl, hS_11⟩
  refine qFix 17 _ false (decide_eq_false hc_9) ?_
  refine qU [10] <| qU [12] <| qU [13] <| qU [14] ?_
  refine qF ?_ ?_
  · refine qO rfl ?_
    refine gY ?_
    refine sL hS_6 0 1 (.int .i64 ev.worker) (Tryz.isAgg3 _) ?_
    refine nilO ⟨⟨.inr (hS_6.cell 0 rfl rfl), .inr (hS_6.cell 0 rfl rfl), .inr (hS_6.cell 0 rfl rfl), .inr (hS_6.cell 0 rfl rfl), .inr (hS_6.cell 0 rfl rfl), .inr (hS_6.cell 0 rfl rfl), .inr (hS_6.cell 0 rfl rfl), .inl (by kernel_rfl), .inl (by kernel_rfl), .inl (by kernel_rfl), .inl (by kernel_rfl), .inl (by kernel_rfl), .inl (by kernel_rfl), .inl (by kernel_rfl), trivial⟩, ?_⟩
    refine qO rfl ?_
    refine gY ?_
    refine sL hS_6 1 1 (.slice (some ⟨wb, wo, none⟩) wn wk) (Tryz.isAgg71 _) ?_
    refine nilO ⟨⟨.inr (hS_6.cell 0 rfl rfl), .inr (hS_6.cell 0 rfl rfl), .inr (hS_6.cell 0 rfl rfl), .inr (hS_6.cell 0 rfl rfl), .inr (hS_6.cell 0 rfl rfl), .inr (hS_6.cell 0 rfl rfl), .inr (hS_6.cell 0 rfl rfl), .inl (by kernel_rfl), .inl (by kernel_rfl), .inl (by kernel_rfl), .inl (by kernel_rfl), .inl (by kernel_rfl), .inl (by kernel_rfl), .inl (by kernel_rfl), trivial⟩, ?_⟩
    refine qU [16] <| qU [17] <| qU [18] ?_
    refine qN ?_
    refine thenK_n <| ?_
    refine cD (ev.worker ≥ ((wn : Nat) : Int)) (fun hc_12 => ?_) (fun hc_12 => ?_)
    · refine seqE <| regionE <| pu1 <| nilO <| thenK_n <| retE <| thenK_r <| retT [.bool false] <| ?_
      have hS_13 := (((((hS_6.dropAt 0 rfl).dropAt 0 rfl).dropAt 0 rfl).dropAt 0 rfl).dropAt 0 rfl)
      exact .inl ⟨ev_out (fun h => by have h2 := h.2; dsimp only at h2; omega), rfl, hS_13⟩
    refine skipE <| thenK_n <| seqE ?_
    obtain ⟨x_14, b_15, o_16, hx_17, hp_18, hq_19, ha_20⟩ := OwnT.elem hOw ev.worker
    obtain ⟨rfl, rfl⟩ := some_addr ha_20
    refine drawE [] [(3, ⟨p, 1, none⟩, .slice (some ⟨wb, wo, none⟩) wn wk), (5, ⟨b_1, 1, none⟩, .int .i64 ev.worker)] [(true, [0, 1, 2, 4]), (true, [3]), (true, [5]), (true, [6]), (true, [7])] rfl (by kernel_rfl) ⟨.inr (hS_6.cell 1 rfl rfl), .inr (hS_6.cell 0 rfl rfl), trivial⟩ ?_
    have hS_21 := hS_6.drew
    refine wU [0, 1, 2, 4] ?_
    refine wLd (.slice (some ⟨wb, wo, none⟩) wn wk) 0 Tryz.isAgg71 ?_
    refine wLd (.int .i64 ev.worker) 1 Tryz.isAgg3 ?_
    refine wY (.pointer (some ⟨wb, wo + (ev.worker).toNat * 5, none⟩)) rfl (fun w _ => Y_idx (a := (some ⟨wb, wo, none⟩)) (i := ev.worker) (len := wn) (cap := wk) rfl Tryz.runUnderlying71 Tryz.sizeOf120 (by kernel_rfl) (by kernel_rfl) hq_19) ?_
    refine wU [7] ?_
    refine wN ?_
    refine thenK_n <| seqE <| seqE <| regionE <| pu1 ?_
    refine sL hS_21 0 0 (.int .i64 ev.kind) (Tryz.isAgg3 _) ?_
    refine nilO <| thenK_n <| blockE <| seqE <| regionE <| pu2 <| nilO <| thenK_n <| ?_
    refine cE ev.kind 1 (fun hc_22 => ?_) (fun hc_22 => ?_)
    · refine seqE <| regionE <| pu1 ?_
      refine lA hS_21 0 0 7 (Tryz.isAgg43 _) (Tryz.sizeOf43 _) ?_
      have hS_23 := (((((hS_21.pick 5 rfl).pick 5 rfl).pick 5 rfl).pick 5 rfl).pick 5 rfl)
      refine cX Tryz.call53 (am_submit hOw hOj hJs hJW hof dof hrd hK2 ev (by omega) hS_23) ?_
      rintro _ w_24 (⟨he_28, rfl, hS_25⟩ | ⟨m_26, M_27, he_28, rfl, hR_29, hS_25⟩)
      · refine pu1 <| nilO <| thenK_n <| retE <| blockK_r <| thenK_r <| retT [.bool false] <| ?_
        have hS_30 := (hS_25.dropAt 1 rfl)
        exact .inl ⟨(ev_in (m := (⟨ws, jobs, rd⟩ : MS)) (evt_ext hc_8) (by dsimp only; omega) hx_17).trans ((evK_1 (by omega)).trans (he_28)), rfl, hS_30⟩
      refine pu1 <| nilO <| thenK_n <| retE <| blockK_r <| thenK_r <| retT [.bool true] <| ?_
      have hS_31 := (hS_25.dropAt 2 rfl)
      exact .inr ⟨_, _, (ev_in (m := (⟨ws, jobs, rd⟩ : MS)) (evt_ext hc_8) (by dsimp only; omega) hx_17).trans ((evK_1 (by omega)).trans (he_28)), rfl, hR_29, hS_31⟩
    refine seqE <| regionE <| pu2 <| nilO <| thenK_n <| ?_
    refine cE ev.kind 2 (fun hc_32 => ?_) (fun hc_32 => ?_)
    · refine seqE <| regionE <| pu2 ?_
      refine sL hS_21 0 3 (.int .i64 ev.job) (Tryz.isAgg3 _) ?_
      have hS_33 := (((((hS_21.pick 5 rfl).pick 5 rfl).pick 5 rfl).pick 5 rfl).pick 5 rfl)
      refine cX Tryz.call54 (am_cancel hOw hOj hJs hJW hof dof hrd hK2 ev.job hS_33) ?_
      rintro _ w_34 (⟨he_38, rfl, hS_35⟩ | ⟨m_36, M_37, he_38, rfl, hR_39, hS_35⟩)
      · refine pu1 <| nilO <| thenK_n <| retE <| blockK_r <| thenK_r <| retT [.bool false] <| ?_
        have hS_40 := (hS_35.dropAt 1 rfl)
        exact .inl ⟨(ev_in (m := (⟨ws, jobs, rd⟩ : MS)) (evt_ext hc_8) (by dsimp only; omega) hx_17).trans ((evK_2 (by omega)).trans (he_38)), rfl, hS_40⟩
      refine pu1 <| nilO <| thenK_n <| retE <| blockK_r <| thenK_r <| retT [.bool true] <| ?_
      have hS_41 := (hS_35.dropAt 2 rfl)
      exact .inr ⟨_, _, (ev_in (m := (⟨ws, jobs, rd⟩ : MS)) (evt_ext hc_8) (by dsimp only; omega) hx_17).trans ((evK_2 (by omega)).trans (he_38)), rfl, hR_39, hS_41⟩
    refine seqE <| seqE <| regionE <| pu2 <| nilO <| thenK_n <| ?_
    refine cE ev.kind 3 (fun hc_42 => ?_) (fun hc_42 => ?_)
    · refine skipE <| thenK_n <| ?_
      refine cT _ (beq_iff_eq.2 hc_42) ?_
      refine seqE <| regionE <| pu3 ?_
      refine lA hS_21 0 4 2 (Tryz.isAgg40 _) (Tryz.sizeOf40 _) ?_
      have hS_43 := (((((hS_21.pick 5 rfl).pick 5 rfl).pick 5 rfl).pick 5 rfl).pick 5 rfl)
      refine cX Tryz.call55 (am_take hOw hOj hJs hJW hof dof hrd hK2 ((ev.worker).toNat) x_14 hx_17 (⟨ev.refJob, ev.refTask⟩ : Ref) hS_43) ?_
      rintro _ w_44 (⟨he_48, rfl, hS_45⟩ | ⟨m_46, M_47, he_48, rfl, hR_49, hS_45⟩)
      · refine pu1 <| nilO <| thenK_n <| retE <| blockK_r <| thenK_r <| retT [.bool false] <| ?_
        have hS_50 := (hS_45.dropAt 1 rfl)
        exact .inl ⟨(ev_in (m := (⟨ws, jobs, rd⟩ : MS)) (evt_ext hc_8) (by dsimp only; omega) hx_17).trans ((evK_3 (by omega)).trans (he_48)), rfl, hS_50⟩
      refine pu1 <| nilO <| thenK_n <| retE <| blockK_r <| thenK_r <| retT [.bool true] <| ?_
      have hS_51 := (hS_45.dropAt 2 rfl)
      exact .inr ⟨_, _, (ev_in (m := (⟨ws, jobs, rd⟩ : MS)) (evt_ext hc_8) (by dsimp only; omega) hx_17).trans ((evK_3 (by omega)).trans (he_48)), rfl, hR_49, hS_51⟩
    refine regionE <| pu2 <| nilO <| thenK_n <| ?_
    refine cE ev.kind 4 (fun hc_52 => ?_) (fun hc_52 => ?_)
    · refine seqE <| regionE <| pu3 ?_
      refine lA hS_21 0 4 2 (Tryz.isAgg40 _) (Tryz.sizeOf40 _) ?_
      have hS_53 := (((((hS_21.pick 5 rfl).pick 5 rfl).pick 5 rfl).pick 5 rfl).pick 5 rfl)
      refine cX Tryz.call55 (am_take hOw hOj hJs hJW hof dof hrd hK2 ((ev.worker).toNat) x_14 hx_17 (⟨ev.refJob, ev.refTask⟩ : Ref) hS_53) ?_
      rintro _ w_54 (⟨he_58, rfl, hS_55⟩ | ⟨m_56, M_57, he_58, rfl, hR_59, hS_55⟩)
      · refine pu1 <| nilO <| thenK_n <| retE <| blockK_r <| thenK_r <| retT [.bool false] <| ?_
        have hS_60 := (hS_55.dropAt 1 rfl)
        exact .inl ⟨(ev_in (m := (⟨ws, jobs, rd⟩ : MS)) (evt_ext hc_8) (by dsimp only; omega) hx_17).trans ((evK_3 (by omega)).trans (he_58)), rfl, hS_60⟩
      refine pu1 <| nilO <| thenK_n <| retE <| blockK_r <| thenK_r <| retT [.bool true] <| ?_
      have hS_61 := (hS_55.dropAt 2 rfl)
      exact .inr ⟨_, _, (ev_in (m := (⟨ws, jobs, rd⟩ : MS)) (evt_ext hc_8) (by dsimp only; omega) hx_17).trans ((evK_3 (by omega)).trans (he_58)), rfl, hR_59, hS_61⟩
    refine seqE <| regionE <| pu2 <| nilO <| thenK_n <| ?_
    refine cE ev.kind 5 (fun hc_62 => ?_) (fun hc_62 => ?_)
    · refine seqE <| regionE <| pu1 ?_
      refine lA hS_21 0 0 7 (Tryz.isAgg43 _) (Tryz.sizeOf43 _) ?_
      have hS_63 := (((((hS_21.pick 5 rfl).pick 5 rfl).pick 5 rfl).pick 5 rfl).pick 5 rfl)
      refine cX Tryz.call56 (am_another hOw hOj hJs hJW ev hS_63) ?_
      rintro _ w_64 ⟨rfl, hS_65⟩
      refine pu1 ?_
      refine sB 60 (anotherE ws.length ev) (fun hc_66 => ?_) (fun hc_66 => ?_)
      rotate_left
      · refine pu7 <| nilO <| thenK_n <| retE <| blockK_r <| thenK_r <| retT [.bool false] <| ?_
        have hS_76 := (((((hS_65.dropAt 0 rfl).dropAt 0 rfl).dropAt 0 rfl).dropAt 0 rfl).dropAt 1 rfl)
        exact .inl ⟨(ev_in (m := (⟨ws, jobs, rd⟩ : MS)) (evt_ext hc_8) (by dsimp only; omega) hx_17).trans ((evK_5 (by omega)).trans (if_neg hc_66)), rfl, hS_76⟩
      refine pu3 <| gY ?_
      refine lA hS_65 5 4 2 (Tryz.isAgg40 _) (Tryz.sizeOf40 _) ?_
      refine gY ?_
      have hS_67 := (((((hS_65.pick 4 rfl).pick 4 rfl).pick 4 rfl).pick 4 rfl).pick 4 rfl)
      refine cX Tryz.call55 (am_take hOw hOj hJs hJW hof dof hrd hK2 ((ev.worker).toNat) x_14 hx_17 (⟨ev.refJob, ev.refTask⟩ : Ref) hS_67) ?_
      rintro _ w_68 (⟨he_72, rfl, hS_69⟩ | ⟨m_70, M_71, he_72, rfl, hR_73, hS_69⟩)
      · refine pu2 <| nilO <| thenK_n <| retE <| blockK_r <| thenK_r <| retT [.bool false] <| ?_
        have hS_74 := (hS_69.dropAt 1 rfl)
        exact .inl ⟨(ev_in (m := (⟨ws, jobs, rd⟩ : MS)) (evt_ext hc_8) (by dsimp only; omega) hx_17).trans ((evK_5 (by omega)).trans ((if_pos hc_66).trans he_72)), rfl, hS_74⟩
      refine pu2 <| nilO <| thenK_n <| retE <| blockK_r <| thenK_r <| retT [.bool true] <| ?_
      have hS_75 := (hS_69.dropAt 2 rfl)
      exact .inr ⟨_, _, (ev_in (m := (⟨ws, jobs, rd⟩ : MS)) (evt_ext hc_8) (by dsimp only; omega) hx_17).trans ((evK_5 (by omega)).trans ((if_pos hc_66).trans he_72)), rfl, hR_73, hS_75⟩
    refine seqE <| seqE <| regionE <| pu2 <| nilO <| thenK_n <| ?_
    refine cE ev.kind 6 (fun hc_77 => ?_) (fun hc_77 => ?_)
    · refine skipE <| thenK_n <| ?_
      refine cT _ (beq_iff_eq.2 hc_77) ?_
      refine seqE <| regionE <| pu2 ?_
      have hS_78 := (((((hS_21.pick 5 rfl).pick 5 rfl).pick 5 rfl).pick 5 rfl).pick 5 rfl)
      refine cX Tryz.call57 (am_busy hOw hOj hJs hJW ((ev.worker).toNat) x_14 hx_17 hS_78) ?_
      rintro _ w_79 ⟨rfl, hS_80⟩
      refine pu1 ?_
      refine sB 74 (busyM jobs x_14) (fun hc_81 => ?_) (fun hc_81 => ?_)
      rotate_left
      · refine pu6 <| nilO <| thenK_n <| retE <| blockK_r <| thenK_r <| retT [.bool false] <| ?_
        have hS_91 := (((((hS_80.dropAt 0 rfl).dropAt 0 rfl).dropAt 0 rfl).dropAt 0 rfl).dropAt 1 rfl)
        exact .inl ⟨(ev_in (m := (⟨ws, jobs, rd⟩ : MS)) (evt_ext hc_8) (by dsimp only; omega) hx_17).trans ((evK_6 (by omega)).trans (if_neg hc_81)), rfl, hS_91⟩
      refine pu2 <| gY ?_
      refine lA hS_80 5 0 7 (Tryz.isAgg43 _) (Tryz.sizeOf43 _) ?_
      refine gY ?_
      have hS_82 := (((((hS_80.pick 4 rfl).pick 4 rfl).pick 4 rfl).pick 4 rfl).pick 4 rfl)
      refine cX Tryz.call58 (am_micro hOw hOj hJs hJW hof dof hrd hK2 ((ev.worker).toNat) x_14 hx_17 ev hc_81 (by have h := (hMW.w _ (List.mem_of_getElem? hx_17)).1; omega) (hMW.task (List.mem_of_getElem? hx_17) hc_81) hMW.s hS_82) ?_
      rintro _ w_83 (⟨he_87, rfl, hS_84⟩ | ⟨m_85, M_86, he_87, rfl, hR_88, hS_84⟩)
      · refine pu2 <| nilO <| thenK_n <| retE <| blockK_r <| thenK_r <| retT [.bool false] <| ?_
        have hS_89 := (hS_84.dropAt 1 rfl)
        exact .inl ⟨(ev_in (m := (⟨ws, jobs, rd⟩ : MS)) (evt_ext hc_8) (by dsimp only; omega) hx_17).trans ((evK_6 (by omega)).trans ((if_pos hc_81).trans he_87)), rfl, hS_89⟩
      refine pu2 <| nilO <| thenK_n <| retE <| blockK_r <| thenK_r <| retT [.bool true] <| ?_
      have hS_90 := (hS_84.dropAt 2 rfl)
      exact .inr ⟨_, _, (ev_in (m := (⟨ws, jobs, rd⟩ : MS)) (evt_ext hc_8) (by dsimp only; omega) hx_17).trans ((evK_6 (by omega)).trans ((if_pos hc_81).trans he_87)), rfl, hR_88, hS_90⟩
    refine seqE <| regionE <| pu2 <| nilO <| thenK_n <| ?_
    refine cE ev.kind 7 (fun hc_92 => ?_) (fun hc_92 => ?_)
    · refine skipE <| thenK_n <| ?_
      refine cT _ (beq_iff_eq.2 hc_92) ?_
      refine seqE <| regionE <| pu2 ?_
      have hS_93 := (((((hS_21.pick 5 rfl).pick 5 rfl).pick 5 rfl).pick 5 rfl).pick 5 rfl)
      refine cX Tryz.call57 (am_busy hOw hOj hJs hJW ((ev.worker).toNat) x_14 hx_17 hS_93) ?_
      rintro _ w_94 ⟨rfl, hS_95⟩
      refine pu1 ?_
      refine sB 74 (busyM jobs x_14) (fun hc_96 => ?_) (fun hc_96 => ?_)
      rotate_left
      · refine pu6 <| nilO <| thenK_n <| retE <| blockK_r <| thenK_r <| retT [.bool false] <| ?_
        have hS_106 := (((((hS_95.dropAt 0 rfl).dropAt 0 rfl).dropAt 0 rfl).dropAt 0 rfl).dropAt 1 rfl)
        exact .inl ⟨(ev_in (m := (⟨ws, jobs, rd⟩ : MS)) (evt_ext hc_8) (by dsimp only; omega) hx_17).trans ((evK_6 (by omega)).trans (if_neg hc_96)), rfl, hS_106⟩
      refine pu2 <| gY ?_
      refine lA hS_95 5 0 7 (Tryz.isAgg43 _) (Tryz.sizeOf43 _) ?_
      refine gY ?_
      have hS_97 := (((((hS_95.pick 4 rfl).pick 4 rfl).pick 4 rfl).pick 4 rfl).pick 4 rfl)
      refine cX Tryz.call58 (am_micro hOw hOj hJs hJW hof dof hrd hK2 ((ev.worker).toNat) x_14 hx_17 ev hc_96 (by have h := (hMW.w _ (List.mem_of_getElem? hx_17)).1; omega) (hMW.task (List.mem_of_getElem? hx_17) hc_96) hMW.s hS_97) ?_
      rintro _ w_98 (⟨he_102, rfl, hS_99⟩ | ⟨m_100, M_101, he_102, rfl, hR_103, hS_99⟩)
      · refine pu2 <| nilO <| thenK_n <| retE <| blockK_r <| thenK_r <| retT [.bool false] <| ?_
        have hS_104 := (hS_99.dropAt 1 rfl)
        exact .inl ⟨(ev_in (m := (⟨ws, jobs, rd⟩ : MS)) (evt_ext hc_8) (by dsimp only; omega) hx_17).trans ((evK_6 (by omega)).trans ((if_pos hc_96).trans he_102)), rfl, hS_104⟩
      refine pu2 <| nilO <| thenK_n <| retE <| blockK_r <| thenK_r <| retT [.bool true] <| ?_
      have hS_105 := (hS_99.dropAt 2 rfl)
      exact .inr ⟨_, _, (ev_in (m := (⟨ws, jobs, rd⟩ : MS)) (evt_ext hc_8) (by dsimp only; omega) hx_17).trans ((evK_6 (by omega)).trans ((if_pos hc_96).trans he_102)), rfl, hR_103, hS_105⟩
    refine regionE <| pu2 <| nilO <| thenK_n <| ?_
    refine cE ev.kind 8 (fun hc_107 => ?_) (fun hc_107 => ?_)
    · refine seqE <| regionE <| pu2 ?_
      have hS_108 := (((((hS_21.pick 5 rfl).pick 5 rfl).pick 5 rfl).pick 5 rfl).pick 5 rfl)
      refine cX Tryz.call57 (am_busy hOw hOj hJs hJW ((ev.worker).toNat) x_14 hx_17 hS_108) ?_
      rintro _ w_109 ⟨rfl, hS_110⟩
      refine pu1 ?_
      refine sB 74 (busyM jobs x_14) (fun hc_111 => ?_) (fun hc_111 => ?_)
      rotate_left
      · refine pu6 <| nilO <| thenK_n <| retE <| blockK_r <| thenK_r <| retT [.bool false] <| ?_
        have hS_121 := (((((hS_110.dropAt 0 rfl).dropAt 0 rfl).dropAt 0 rfl).dropAt 0 rfl).dropAt 1 rfl)
        exact .inl ⟨(ev_in (m := (⟨ws, jobs, rd⟩ : MS)) (evt_ext hc_8) (by dsimp only; omega) hx_17).trans ((evK_6 (by omega)).trans (if_neg hc_111)), rfl, hS_121⟩
      refine pu2 <| gY ?_
      refine lA hS_110 5 0 7 (Tryz.isAgg43 _) (Tryz.sizeOf43 _) ?_
      refine gY ?_
      have hS_112 := (((((hS_110.pick 4 rfl).pick 4 rfl).pick 4 rfl).pick 4 rfl).pick 4 rfl)
      refine cX Tryz.call58 (am_micro hOw hOj hJs hJW hof dof hrd hK2 ((ev.worker).toNat) x_14 hx_17 ev hc_111 (by have h := (hMW.w _ (List.mem_of_getElem? hx_17)).1; omega) (hMW.task (List.mem_of_getElem? hx_17) hc_111) hMW.s hS_112) ?_
      rintro _ w_113 (⟨he_117, rfl, hS_114⟩ | ⟨m_115, M_116, he_117, rfl, hR_118, hS_114⟩)
      · refine pu2 <| nilO <| thenK_n <| retE <| blockK_r <| thenK_r <| retT [.bool false] <| ?_
        have hS_119 := (hS_114.dropAt 1 rfl)
        exact .inl ⟨(ev_in (m := (⟨ws, jobs, rd⟩ : MS)) (evt_ext hc_8) (by dsimp only; omega) hx_17).trans ((evK_6 (by omega)).trans ((if_pos hc_111).trans he_117)), rfl, hS_119⟩
      refine pu2 <| nilO <| thenK_n <| retE <| blockK_r <| thenK_r <| retT [.bool true] <| ?_
      have hS_120 := (hS_114.dropAt 2 rfl)
      exact .inr ⟨_, _, (ev_in (m := (⟨ws, jobs, rd⟩ : MS)) (evt_ext hc_8) (by dsimp only; omega) hx_17).trans ((evK_6 (by omega)).trans ((if_pos hc_111).trans he_117)), rfl, hR_118, hS_120⟩
    refine seqE <| regionE <| pu2 <| nilO <| thenK_n <| ?_
    refine cE ev.kind 9 (fun hc_122 => ?_) (fun hc_122 => ?_)
    · refine seqE <| regionE <| pu3 ?_
      refine lA hS_21 0 4 2 (Tryz.isAgg40 _) (Tryz.sizeOf40 _) ?_
      have hS_123 := (((((hS_21.pick 5 rfl).pick 5 rfl).pick 5 rfl).pick 5 rfl).pick 5 rfl)
      refine cX Tryz.call59 (am_drop hOw hOj hJs hJW hof dof hrd hK2 ((ev.worker).toNat) x_14 hx_17 (⟨ev.refJob, ev.refTask⟩ : Ref) (fun h => hMW.held (List.mem_of_getElem? hx_17) h) hS_123) ?_
      rintro _ w_124 (⟨he_128, rfl, hS_125⟩ | ⟨m_126, M_127, he_128, rfl, hR_129, hS_125⟩)
      · refine pu1 <| nilO <| thenK_n <| retE <| blockK_r <| thenK_r <| retT [.bool false] <| ?_
        have hS_130 := (hS_125.dropAt 1 rfl)
        exact .inl ⟨(ev_in (m := (⟨ws, jobs, rd⟩ : MS)) (evt_ext hc_8) (by dsimp only; omega) hx_17).trans ((evK_9 (by omega)).trans (he_128)), rfl, hS_130⟩
      refine pu1 <| nilO <| thenK_n <| retE <| blockK_r <| thenK_r <| retT [.bool true] <| ?_
      have hS_131 := (hS_125.dropAt 2 rfl)
      exact .inr ⟨_, _, (ev_in (m := (⟨ws, jobs, rd⟩ : MS)) (evt_ext hc_8) (by dsimp only; omega) hx_17).trans ((evK_9 (by omega)).trans (he_128)), rfl, hR_129, hS_131⟩
    refine seqE <| regionE <| pu2 <| nilO <| thenK_n <| ?_
    refine cE ev.kind 10 (fun hc_132 => ?_) (fun hc_132 => ?_)
    · refine seqE <| regionE <| pu3 ?_
      refine lA hS_21 0 4 2 (Tryz.isAgg40 _) (Tryz.sizeOf40 _) ?_
      have hS_133 := (((((hS_21.pick 5 rfl).pick 5 rfl).pick 5 rfl).pick 5 rfl).pick 5 rfl)
      refine cX Tryz.call60 (am_crash hOw hOj hJs hJW hof dof hrd hK2 ((ev.worker).toNat) x_14 hx_17 (⟨ev.refJob, ev.refTask⟩ : Ref) hS_133) ?_
      rintro _ w_134 (⟨he_138, rfl, hS_135⟩ | ⟨m_136, M_137, he_138, rfl, hR_139, hS_135⟩)
      · refine pu1 <| nilO <| thenK_n <| retE <| blockK_r <| thenK_r <| retT [.bool false] <| ?_
        have hS_140 := (hS_135.dropAt 1 rfl)
        exact .inl ⟨(ev_in (m := (⟨ws, jobs, rd⟩ : MS)) (evt_ext hc_8) (by dsimp only; omega) hx_17).trans ((evK_10 (by omega)).trans (he_138)), rfl, hS_140⟩
      refine pu1 <| nilO <| thenK_n <| retE <| blockK_r <| thenK_r <| retT [.bool true] <| ?_
      have hS_141 := (hS_135.dropAt 2 rfl)
      exact .inr ⟨_, _, (ev_in (m := (⟨ws, jobs, rd⟩ : MS)) (evt_ext hc_8) (by dsimp only; omega) hx_17).trans ((evK_10 (by omega)).trans (he_138)), rfl, hR_139, hS_141⟩
    refine seqE <| regionE <| pu2 <| nilO <| thenK_n <| ?_
    refine cE ev.kind 11 (fun hc_142 => ?_) (fun hc_142 => ?_)
    · refine seqE <| seqE <| regionE <| pu3 ?_
      refine sLp hS_21 (hp_18.up 2 rfl) 0 (.int .i64 x_14.phase) (Tryz.isAgg3 _) ?_
      refine pu1 <| nilO <| thenK_n <| ?_
      refine cN x_14.phase 4 (fun hc_143 => ?_) (fun hc_143 => ?_)
      rotate_left
      · refine seqE <| regionE <| pu1 <| nilO <| thenK_n <| retE <| thenK_r <| blockK_r <| thenK_r <| retT [.bool false] <| ?_
        have hS_150 := (((((hS_21.dropAt 0 rfl).dropAt 0 rfl).dropAt 0 rfl).dropAt 0 rfl).dropAt 0 rfl)
        exact .inl ⟨(ev_in (m := (⟨ws, jobs, rd⟩ : MS)) (evt_ext hc_8) (by dsimp only; omega) hx_17).trans ((evK_11 (by omega)).trans (if_neg (by omega))), rfl, hS_150⟩
      refine skipE <| thenK_n <| seqE <| regionE <| pu3 ?_
      refine sStF hS_21 hOw rfl 2 (ev.worker).toNat 0 x_14 (⟨0, x_14.heldJob, x_14.heldTask, x_14.attempt, x_14.row⟩ : Wk) hx_17 (.int .i64 0) [.int .i64 0] Tryz.sizeOf3 ?_
      intro w_144 c_146 hO_147 hS_145
      refine nilO <| thenK_n <| seqE <| regionE <| pu1 <| nilO <| thenK_n <| retE <| blockK_r <| thenK_r <| retT [.bool true] <| ?_
      have hS_148 := (hS_145.dropAt 0 rfl)
      have hS_149 : Sat W _ (([(p, .cells #[.slice oa on ok, .slice (some ⟨wb, wo, none⟩) wn wk, .slice ja jn jk, .int .i64 rd] 74 (0, 0))] ++ (c_146 ++ (Jc ++ jcs.flatten))) :: H :: F) := Sat.perm (show Sat W _ ([(p, .cells #[.slice oa on ok, .slice (some ⟨wb, wo, none⟩) wn wk, .slice ja jn jk, .int .i64 rd] 74 (0, 0))] :: c_146 :: Jc :: jcs.flatten :: H :: F) from hS_148) (by simp)
      exact .inr ⟨⟨(ws.set ((ev.worker).toNat) (⟨0, x_14.heldJob, x_14.heldTask, x_14.attempt, x_14.row⟩ : Wk)), jobs, rd⟩, _, (ev_in (m := (⟨ws, jobs, rd⟩ : MS)) (evt_ext hc_8) (by dsimp only; omega) hx_17).trans ((evK_11 (by omega)).trans (if_pos (by omega))), rfl, ⟨_, _, _, _, _, _, _, _, _, _, _, _, rfl, hO_147, hOj, hJs, hof, dof⟩, hS_149⟩
    refine seqE <| regionE <| pu2 <| nilO <| thenK_n <| ?_
    refine cE ev.kind 12 (fun hc_151 => ?_) (fun hc_151 => ?_)
    · refine seqE <| regionE <| pu1 ?_
      refine lA hS_21 0 0 7 (Tryz.isAgg43 _) (Tryz.sizeOf43 _) ?_
      have hS_152 := (((((hS_21.pick 5 rfl).pick 5 rfl).pick 5 rfl).pick 5 rfl).pick 5 rfl)
      refine cX Tryz.call56 (am_another hOw hOj hJs hJW ev hS_152) ?_
      rintro _ w_153 ⟨rfl, hS_154⟩
      refine pu1 ?_
      refine sB 109 (anotherE ws.length ev) (fun hc_155 => ?_) (fun hc_155 => ?_)
      rotate_left
      · refine pu8 <| nilO <| thenK_n <| retE <| blockK_r <| thenK_r <| retT [.bool false] <| ?_
        have hS_163 := (((((hS_154.dropAt 0 rfl).dropAt 0 rfl).dropAt 0 rfl).dropAt 0 rfl).dropAt 1 rfl)
        exact .inl ⟨(ev_in (m := (⟨ws, jobs, rd⟩ : MS)) (evt_ext hc_8) (by dsimp only; omega) hx_17).trans ((evK_12 (by omega)).trans (if_neg (fun h => hc_155 h.1))), rfl, hS_163⟩
      refine pu3 <| gY ?_
      refine sL hS_154 5 2 (.int .i64 ev.from_) (Tryz.isAgg3 _) ?_
      refine pu1 <| gY ?_
      have hS_156 := (((((hS_154.pick 4 rfl).pick 4 rfl).pick 4 rfl).pick 4 rfl).pick 4 rfl)
      have haf := another_bd hc_155
      refine cX Tryz.call61 (am_help hOw hOj hJs hJW ((ev.worker).toNat) x_14 hx_17 ev.from_ (by omega) _ _ _ _ hl hS_156) ?_
      rintro _ w_157 ⟨rfl, hS_158⟩
      refine pu2 <| nilO <| thenK_n <| retE <| blockK_r <| thenK_r <| retT [.bool (helpM jobs ws rd x_14 ev.from_ l)] <| ?_
      rcases Classical.em ((helpM jobs ws rd x_14 ev.from_ l) = true) with hc_159 | hc_159
      rotate_left
      · rw [show (helpM jobs ws rd x_14 ev.from_ l) = false from (Bool.eq_false_iff.2 hc_159)]
        have hS_162 := (((((hS_158.dropAt 0 rfl).dropAt 0 rfl).dropAt 0 rfl).dropAt 0 rfl).dropAt 1 rfl)
        exact .inl ⟨(ev_in (m := (⟨ws, jobs, rd⟩ : MS)) (evt_ext hc_8) (by dsimp only; omega) hx_17).trans ((evK_12 (by omega)).trans (if_neg (fun h => hc_159 h.2))), rfl, hS_162⟩
      rw [show (helpM jobs ws rd x_14 ev.from_ l) = true from hc_159]
      have hS_160 := (hS_158.dropAt 5 rfl)
      have hS_161 : Sat W _ (([(p, .cells #[.slice oa on ok, .slice (some ⟨wb, wo, none⟩) wn wk, .slice ja jn jk, .int .i64 rd] 74 (0, 0))] ++ (Wc ++ (Jc ++ jcs.flatten))) :: H :: F) := Sat.perm (show Sat W _ ([(p, .cells #[.slice oa on ok, .slice (some ⟨wb, wo, none⟩) wn wk, .slice ja jn jk, .int .i64 rd] 74 (0, 0))] :: Wc :: Jc :: jcs.flatten :: H :: F) from hS_160) (by simp)
      exact .inr ⟨⟨ws, jobs, rd⟩, _, (ev_in (m := (⟨ws, jobs, rd⟩ : MS)) (evt_ext hc_8) (by dsimp only; omega) hx_17).trans ((evK_12 (by omega)).trans (if_pos ⟨hc_155, hc_159⟩)), rfl, ⟨_, _, _, _, _, _, _, _, _, _, _, _, rfl, hOw, hOj, hJs, hof, dof⟩, hS_161⟩
    refine seqE <| regionE <| pu2 <| nilO <| thenK_n <| ?_
    refine cE ev.kind 13 (fun hc_164 => ?_) (fun hc_164 => ?_)
    rotate_left
    · refine skipE <| blockK_n <| thenK_n <| seqE <| regionE <| pu1 <| nilO <| thenK_n <| retE <| retT [.bool false] <| ?_
      have hS_176 := (((((hS_21.dropAt 0 rfl).dropAt 0 rfl).dropAt 0 rfl).dropAt 0 rfl).dropAt 0 rfl)
      exact .inl ⟨(ev_in (m := (⟨ws, jobs, rd⟩ : MS)) (evt_ext hc_8) (by dsimp only; omega) hx_17).trans (evK_no (by omega)), rfl, hS_176⟩
    refine seqE <| regionE <| pu3 ?_
    refine sLp hS_21 (hp_18.up 2 rfl) 0 (.int .i64 x_14.phase) (Tryz.isAgg3 _) ?_
    refine pu2 ?_
    refine sE 124 x_14.phase 0 (fun hc_165 => ?_) (fun hc_165 => ?_)
    rotate_left
    · refine pu12 <| nilO <| thenK_n <| retE <| blockK_r <| thenK_r <| retT [.bool false] <| ?_
      have hS_175 := (((((hS_21.dropAt 0 rfl).dropAt 0 rfl).dropAt 0 rfl).dropAt 0 rfl).dropAt 0 rfl)
      exact .inl ⟨(ev_in (m := (⟨ws, jobs, rd⟩ : MS)) (evt_ext hc_8) (by dsimp only; omega) hx_17).trans ((evK_13 (by omega)).trans (if_neg (fun h => by have h1 := h.1; have h2 := h.2.1; dsimp only at h2; omega))), rfl, hS_175⟩
    refine pu3 <| gY ?_
    refine sL hS_21 1 3 (.int .i64 rd) (Tryz.isAgg3 _) ?_
    refine pu3 ?_
    refine sE 131 rd 0 (fun hc_166 => ?_) (fun hc_166 => ?_)
    rotate_left
    · refine pu5 <| nilO <| thenK_n <| retE <| blockK_r <| thenK_r <| retT [.bool false] <| ?_
      have hS_174 := (((((hS_21.dropAt 0 rfl).dropAt 0 rfl).dropAt 0 rfl).dropAt 0 rfl).dropAt 0 rfl)
      exact .inl ⟨(ev_in (m := (⟨ws, jobs, rd⟩ : MS)) (evt_ext hc_8) (by dsimp only; omega) hx_17).trans ((evK_13 (by omega)).trans (if_neg (fun h => by have h1 := h.1; have h2 := h.2.1; dsimp only at h2; omega))), rfl, hS_174⟩
    refine pu1 <| gY ?_
    have hS_167 := (((((hS_21.pick 5 rfl).pick 5 rfl).pick 5 rfl).pick 5 rfl).pick 5 rfl)
    refine cX Tryz.call62 (am_any hOw hOj hJs hJW  hS_167) ?_
    rintro _ w_168 ⟨rfl, hS_169⟩
    refine pu3 <| nilO <| thenK_n <| retE <| blockK_r <| thenK_r <| retT [.bool (!(ws.any (busyM jobs)))] <| ?_
    rcases Classical.em ((ws.any (busyM jobs)) = true) with hc_170 | hc_170
    · rw [show (!(ws.any (busyM jobs))) = false from (congrArg Bool.not hc_170)]
      have hS_171 := (((((hS_169.dropAt 0 rfl).dropAt 0 rfl).dropAt 0 rfl).dropAt 0 rfl).dropAt 1 rfl)
      exact .inl ⟨(ev_in (m := (⟨ws, jobs, rd⟩ : MS)) (evt_ext hc_8) (by dsimp only; omega) hx_17).trans ((evK_13 (by omega)).trans (if_neg (fun h => h.2.2 hc_170))), rfl, hS_171⟩
    rw [show (!(ws.any (busyM jobs))) = true from (congrArg Bool.not (Bool.eq_false_iff.2 hc_170))]
    have hS_172 := (hS_169.dropAt 5 rfl)
    have hS_173 : Sat W _ (([(p, .cells #[.slice oa on ok, .slice (some ⟨wb, wo, none⟩) wn wk, .slice ja jn jk, .int .i64 rd] 74 (0, 0))] ++ (Wc ++ (Jc ++ jcs.flatten))) :: H :: F) := Sat.perm (show Sat W _ ([(p, .cells #[.slice oa on ok, .slice (some ⟨wb, wo, none⟩) wn wk, .slice ja jn jk, .int .i64 rd] 74 (0, 0))] :: Wc :: Jc :: jcs.flatten :: H :: F) from hS_172) (by simp)
    exact .inr ⟨⟨ws, jobs, rd⟩, _, (ev_in (m := (⟨ws, jobs, rd⟩ : MS)) (evt_ext hc_8) (by dsimp only; omega) hx_17).trans ((evK_13 (by omega)).trans (if_pos ⟨by omega, by dsimp only; omega, hc_170⟩)), rfl, ⟨_, _, _, _, _, _, _, _, _, _, _, _, rfl, hOw, hOj, hJs, hof, dof⟩, hS_173⟩
  refine qO rfl ?_
  refine gY ?_
  refine sL hS_6 1 1 (.slice (some ⟨wb, wo, none⟩) wn wk) (Tryz.isAgg71 _) ?_
  refine nilO ⟨⟨.inr (hS_6.cell 0 rfl rfl), .inr (hS_6.cell 0 rfl rfl), .inr (hS_6.cell 0 rfl rfl), .inr (hS_6.cell 0 rfl rfl), .inr (hS_6.cell 0 rfl rfl), .inr (hS_6.cell 0 rfl rfl), .inr (hS_6.cell 0 rfl rfl), .inl (by kernel_rfl), .inl (by kernel_rfl), .inl (by kernel_rfl), .inl (by kernel_rfl), .inl (by kernel_rfl), .inl (by kernel_rfl), .inl (by kernel_rfl), trivial⟩, ?_⟩
  refine qU [16] ?_
  refine qO rfl ?_
  refine gY ?_
  refine sL hS_6 0 1 (.int .i64 ev.worker) (Tryz.isAgg3 _) ?_
  refine nilO ⟨⟨.inr (hS_6.cell 0 rfl rfl), .inr (hS_6.cell 0 rfl rfl), .inr (hS_6.cell 0 rfl rfl), .inr (hS_6.cell 0 rfl rfl), .inr (hS_6.cell 0 rfl rfl), .inr (hS_6.cell 0 rfl rfl), .inr (hS_6.cell 0 rfl rfl), .inl (by kernel_rfl), .inl (by kernel_rfl), .inl (by kernel_rfl), .inl (by kernel_rfl), .inl (by kernel_rfl), .inl (by kernel_rfl), .inl (by kernel_rfl), trivial⟩, ?_⟩
  refine qU [17] <| qU [18] ?_
  refine qN ?_
  refine thenK_n <| ?_
  refine cD (ev.worker ≥ ((wn : Nat) : Int)) (fun hc_177 => ?_) (fun hc_177 => ?_)
  · refine seqE <| regionE <| pu1 <| nilO <| thenK_n <| retE <| thenK_r <| retT [.bool false] <| ?_
    have hS_178 := (((((hS_6.dropAt 0 rfl).dropAt 0 rfl).dropAt 0 rfl).dropAt 0 rfl).dropAt 0 rfl)
    exact .inl ⟨ev_out (fun h => by have h2 := h.2; dsimp only at h2; omega), rfl, hS_178⟩
  refine skipE <| thenK_n <| seqE ?_
  obtain ⟨x_179, b_180, o_181, hx_182, hp_183, hq_184, ha_185⟩ := OwnT.elem hOw ev.worker
  obtain ⟨rfl, rfl⟩ := some_addr ha_185
  refine drawE [] [(3, ⟨p, 1, none⟩, .slice (some ⟨wb, wo, none⟩) wn wk), (5, ⟨b_1, 1, none⟩, .int .i64 ev.worker)] [(true, [0, 1, 2, 4]), (true, [3]), (true, [5]), (true, [6]), (true, [7])] rfl (by kernel_rfl) ⟨.inr (hS_6.cell 1 rfl rfl), .inr (hS_6.cell 0 rfl rfl), trivial⟩ ?_
  have hS_186 := hS_6.drew
  refine wU [0, 1, 2, 4] ?_
  refine wLd (.slice (some ⟨wb, wo, none⟩) wn wk) 0 Tryz.isAgg71 ?_
  refine wLd (.int .i64 ev.worker) 1 Tryz.isAgg3 ?_
  refine wY (.pointer (some ⟨wb, wo + (ev.worker).toNat * 5, none⟩)) rfl (fun w _ => Y_idx (a := (some ⟨wb, wo, none⟩)) (i := ev.worker) (len := wn) (cap := wk) rfl Tryz.runUnderlying71 Tryz.sizeOf120 (by kernel_rfl) (by kernel_rfl) hq_184) ?_
  refine wU [7] ?_
  refine wN ?_
  refine thenK_n <| seqE <| seqE <| regionE <| pu1 ?_
  refine sL hS_186 0 0 (.int .i64 ev.kind) (Tryz.isAgg3 _) ?_
  refine nilO <| thenK_n <| blockE <| seqE <| regionE <| pu2 <| nilO <| thenK_n <| ?_
  refine cE ev.kind 1 (fun hc_187 => ?_) (fun hc_187 => ?_)
  · refine seqE <| regionE <| pu1 ?_
    refine lA hS_186 0 0 7 (Tryz.isAgg43 _) (Tryz.sizeOf43 _) ?_
    have hS_188 := (((((hS_186.pick 5 rfl).pick 5 rfl).pick 5 rfl).pick 5 rfl).pick 5 rfl)
    refine cX Tryz.call53 (am_submit hOw hOj hJs hJW hof dof hrd hK2 ev (by omega) hS_188) ?_
    rintro _ w_189 (⟨he_193, rfl, hS_190⟩ | ⟨m_191, M_192, he_193, rfl, hR_194, hS_190⟩)
    · refine pu1 <| nilO <| thenK_n <| retE <| blockK_r <| thenK_r <| retT [.bool false] <| ?_
      have hS_195 := (hS_190.dropAt 1 rfl)
      exact .inl ⟨(ev_in (m := (⟨ws, jobs, rd⟩ : MS)) (evt_ext hc_8) (by dsimp only; omega) hx_182).trans ((evK_1 (by omega)).trans (he_193)), rfl, hS_195⟩
    refine pu1 <| nilO <| thenK_n <| retE <| blockK_r <| thenK_r <| retT [.bool true] <| ?_
    have hS_196 := (hS_190.dropAt 2 rfl)
    exact .inr ⟨_, _, (ev_in (m := (⟨ws, jobs, rd⟩ : MS)) (evt_ext hc_8) (by dsimp only; omega) hx_182).trans ((evK_1 (by omega)).trans (he_193)), rfl, hR_194, hS_196⟩
  refine seqE <| regionE <| pu2 <| nilO <| thenK_n <| ?_
  refine cE ev.kind 2 (fun hc_197 => ?_) (fun hc_197 => ?_)
  · refine seqE <| regionE <| pu2 ?_
    refine sL hS_186 0 3 (.int .i64 ev.job) (Tryz.isAgg3 _) ?_
    have hS_198 := (((((hS_186.pick 5 rfl).pick 5 rfl).pick 5 rfl).pick 5 rfl).pick 5 rfl)
    refine cX Tryz.call54 (am_cancel hOw hOj hJs hJW hof dof hrd hK2 ev.job hS_198) ?_
    rintro _ w_199 (⟨he_203, rfl, hS_200⟩ | ⟨m_201, M_202, he_203, rfl, hR_204, hS_200⟩)
    · refine pu1 <| nilO <| thenK_n <| retE <| blockK_r <| thenK_r <| retT [.bool false] <| ?_
      have hS_205 := (hS_200.dropAt 1 rfl)
      exact .inl ⟨(ev_in (m := (⟨ws, jobs, rd⟩ : MS)) (evt_ext hc_8) (by dsimp only; omega) hx_182).trans ((evK_2 (by omega)).trans (he_203)), rfl, hS_205⟩
    refine pu1 <| nilO <| thenK_n <| retE <| blockK_r <| thenK_r <| retT [.bool true] <| ?_
    have hS_206 := (hS_200.dropAt 2 rfl)
    exact .inr ⟨_, _, (ev_in (m := (⟨ws, jobs, rd⟩ : MS)) (evt_ext hc_8) (by dsimp only; omega) hx_182).trans ((evK_2 (by omega)).trans (he_203)), rfl, hR_204, hS_206⟩
  refine seqE <| seqE <| regionE <| pu2 <| nilO <| thenK_n <| ?_
  refine cE ev.kind 3 (fun hc_207 => ?_) (fun hc_207 => ?_)
  · refine skipE <| thenK_n <| ?_
    refine cT _ (beq_iff_eq.2 hc_207) ?_
    refine seqE <| regionE <| pu3 ?_
    refine lA hS_186 0 4 2 (Tryz.isAgg40 _) (Tryz.sizeOf40 _) ?_
    have hS_208 := (((((hS_186.pick 5 rfl).pick 5 rfl).pick 5 rfl).pick 5 rfl).pick 5 rfl)
    refine cX Tryz.call55 (am_take hOw hOj hJs hJW hof dof hrd hK2 ((ev.worker).toNat) x_179 hx_182 (⟨ev.refJob, ev.refTask⟩ : Ref) hS_208) ?_
    rintro _ w_209 (⟨he_213, rfl, hS_210⟩ | ⟨m_211, M_212, he_213, rfl, hR_214, hS_210⟩)
    · refine pu1 <| nilO <| thenK_n <| retE <| blockK_r <| thenK_r <| retT [.bool false] <| ?_
      have hS_215 := (hS_210.dropAt 1 rfl)
      exact .inl ⟨(ev_in (m := (⟨ws, jobs, rd⟩ : MS)) (evt_ext hc_8) (by dsimp only; omega) hx_182).trans ((evK_3 (by omega)).trans (he_213)), rfl, hS_215⟩
    refine pu1 <| nilO <| thenK_n <| retE <| blockK_r <| thenK_r <| retT [.bool true] <| ?_
    have hS_216 := (hS_210.dropAt 2 rfl)
    exact .inr ⟨_, _, (ev_in (m := (⟨ws, jobs, rd⟩ : MS)) (evt_ext hc_8) (by dsimp only; omega) hx_182).trans ((evK_3 (by omega)).trans (he_213)), rfl, hR_214, hS_216⟩
  refine regionE <| pu2 <| nilO <| thenK_n <| ?_
  refine cE ev.kind 4 (fun hc_217 => ?_) (fun hc_217 => ?_)
  · refine seqE <| regionE <| pu3 ?_
    refine lA hS_186 0 4 2 (Tryz.isAgg40 _) (Tryz.sizeOf40 _) ?_
    have hS_218 := (((((hS_186.pick 5 rfl).pick 5 rfl).pick 5 rfl).pick 5 rfl).pick 5 rfl)
    refine cX Tryz.call55 (am_take hOw hOj hJs hJW hof dof hrd hK2 ((ev.worker).toNat) x_179 hx_182 (⟨ev.refJob, ev.refTask⟩ : Ref) hS_218) ?_
    rintro _ w_219 (⟨he_223, rfl, hS_220⟩ | ⟨m_221, M_222, he_223, rfl, hR_224, hS_220⟩)
    · refine pu1 <| nilO <| thenK_n <| retE <| blockK_r <| thenK_r <| retT [.bool false] <| ?_
      have hS_225 := (hS_220.dropAt 1 rfl)
      exact .inl ⟨(ev_in (m := (⟨ws, jobs, rd⟩ : MS)) (evt_ext hc_8) (by dsimp only; omega) hx_182).trans ((evK_3 (by omega)).trans (he_223)), rfl, hS_225⟩
    refine pu1 <| nilO <| thenK_n <| retE <| blockK_r <| thenK_r <| retT [.bool true] <| ?_
    have hS_226 := (hS_220.dropAt 2 rfl)
    exact .inr ⟨_, _, (ev_in (m := (⟨ws, jobs, rd⟩ : MS)) (evt_ext hc_8) (by dsimp only; omega) hx_182).trans ((evK_3 (by omega)).trans (he_223)), rfl, hR_224, hS_226⟩
  refine seqE <| regionE <| pu2 <| nilO <| thenK_n <| ?_
  refine cE ev.kind 5 (fun hc_227 => ?_) (fun hc_227 => ?_)
  · refine seqE <| regionE <| pu1 ?_
    refine lA hS_186 0 0 7 (Tryz.isAgg43 _) (Tryz.sizeOf43 _) ?_
    have hS_228 := (((((hS_186.pick 5 rfl).pick 5 rfl).pick 5 rfl).pick 5 rfl).pick 5 rfl)
    refine cX Tryz.call56 (am_another hOw hOj hJs hJW ev hS_228) ?_
    rintro _ w_229 ⟨rfl, hS_230⟩
    refine pu1 ?_
    refine sB 60 (anotherE ws.length ev) (fun hc_231 => ?_) (fun hc_231 => ?_)
    rotate_left
    · refine pu7 <| nilO <| thenK_n <| retE <| blockK_r <| thenK_r <| retT [.bool false] <| ?_
      have hS_241 := (((((hS_230.dropAt 0 rfl).dropAt 0 rfl).dropAt 0 rfl).dropAt 0 rfl).dropAt 1 rfl)
      exact .inl ⟨(ev_in (m := (⟨ws, jobs, rd⟩ : MS)) (evt_ext hc_8) (by dsimp only; omega) hx_182).trans ((evK_5 (by omega)).trans (if_neg hc_231)), rfl, hS_241⟩
    refine pu3 <| gY ?_
    refine lA hS_230 5 4 2 (Tryz.isAgg40 _) (Tryz.sizeOf40 _) ?_
    refine gY ?_
    have hS_232 := (((((hS_230.pick 4 rfl).pick 4 rfl).pick 4 rfl).pick 4 rfl).pick 4 rfl)
    refine cX Tryz.call55 (am_take hOw hOj hJs hJW hof dof hrd hK2 ((ev.worker).toNat) x_179 hx_182 (⟨ev.refJob, ev.refTask⟩ : Ref) hS_232) ?_
    rintro _ w_233 (⟨he_237, rfl, hS_234⟩ | ⟨m_235, M_236, he_237, rfl, hR_238, hS_234⟩)
    · refine pu2 <| nilO <| thenK_n <| retE <| blockK_r <| thenK_r <| retT [.bool false] <| ?_
      have hS_239 := (hS_234.dropAt 1 rfl)
      exact .inl ⟨(ev_in (m := (⟨ws, jobs, rd⟩ : MS)) (evt_ext hc_8) (by dsimp only; omega) hx_182).trans ((evK_5 (by omega)).trans ((if_pos hc_231).trans he_237)), rfl, hS_239⟩
    refine pu2 <| nilO <| thenK_n <| retE <| blockK_r <| thenK_r <| retT [.bool true] <| ?_
    have hS_240 := (hS_234.dropAt 2 rfl)
    exact .inr ⟨_, _, (ev_in (m := (⟨ws, jobs, rd⟩ : MS)) (evt_ext hc_8) (by dsimp only; omega) hx_182).trans ((evK_5 (by omega)).trans ((if_pos hc_231).trans he_237)), rfl, hR_238, hS_240⟩
  refine seqE <| seqE <| regionE <| pu2 <| nilO <| thenK_n <| ?_
  refine cE ev.kind 6 (fun hc_242 => ?_) (fun hc_242 => ?_)
  · refine skipE <| thenK_n <| ?_
    refine cT _ (beq_iff_eq.2 hc_242) ?_
    refine seqE <| regionE <| pu2 ?_
    have hS_243 := (((((hS_186.pick 5 rfl).pick 5 rfl).pick 5 rfl).pick 5 rfl).pick 5 rfl)
    refine cX Tryz.call57 (am_busy hOw hOj hJs hJW ((ev.worker).toNat) x_179 hx_182 hS_243) ?_
    rintro _ w_244 ⟨rfl, hS_245⟩
    refine pu1 ?_
    refine sB 74 (busyM jobs x_179) (fun hc_246 => ?_) (fun hc_246 => ?_)
    rotate_left
    · refine pu6 <| nilO <| thenK_n <| retE <| blockK_r <| thenK_r <| retT [.bool false] <| ?_
      have hS_256 := (((((hS_245.dropAt 0 rfl).dropAt 0 rfl).dropAt 0 rfl).dropAt 0 rfl).dropAt 1 rfl)
      exact .inl ⟨(ev_in (m := (⟨ws, jobs, rd⟩ : MS)) (evt_ext hc_8) (by dsimp only; omega) hx_182).trans ((evK_6 (by omega)).trans (if_neg hc_246)), rfl, hS_256⟩
    refine pu2 <| gY ?_
    refine lA hS_245 5 0 7 (Tryz.isAgg43 _) (Tryz.sizeOf43 _) ?_
    refine gY ?_
    have hS_247 := (((((hS_245.pick 4 rfl).pick 4 rfl).pick 4 rfl).pick 4 rfl).pick 4 rfl)
    refine cX Tryz.call58 (am_micro hOw hOj hJs hJW hof dof hrd hK2 ((ev.worker).toNat) x_179 hx_182 ev hc_246 (by have h := (hMW.w _ (List.mem_of_getElem? hx_182)).1; omega) (hMW.task (List.mem_of_getElem? hx_182) hc_246) hMW.s hS_247) ?_
    rintro _ w_248 (⟨he_252, rfl, hS_249⟩ | ⟨m_250, M_251, he_252, rfl, hR_253, hS_249⟩)
    · refine pu2 <| nilO <| thenK_n <| retE <| blockK_r <| thenK_r <| retT [.bool false] <| ?_
      have hS_254 := (hS_249.dropAt 1 rfl)
      exact .inl ⟨(ev_in (m := (⟨ws, jobs, rd⟩ : MS)) (evt_ext hc_8) (by dsimp only; omega) hx_182).trans ((evK_6 (by omega)).trans ((if_pos hc_246).trans he_252)), rfl, hS_254⟩
    refine pu2 <| nilO <| thenK_n <| retE <| blockK_r <| thenK_r <| retT [.bool true] <| ?_
    have hS_255 := (hS_249.dropAt 2 rfl)
    exact .inr ⟨_, _, (ev_in (m := (⟨ws, jobs, rd⟩ : MS)) (evt_ext hc_8) (by dsimp only; omega) hx_182).trans ((evK_6 (by omega)).trans ((if_pos hc_246).trans he_252)), rfl, hR_253, hS_255⟩
  refine seqE <| regionE <| pu2 <| nilO <| thenK_n <| ?_
  refine cE ev.kind 7 (fun hc_257 => ?_) (fun hc_257 => ?_)
  · refine skipE <| thenK_n <| ?_
    refine cT _ (beq_iff_eq.2 hc_257) ?_
    refine seqE <| regionE <| pu2 ?_
    have hS_258 := (((((hS_186.pick 5 rfl).pick 5 rfl).pick 5 rfl).pick 5 rfl).pick 5 rfl)
    refine cX Tryz.call57 (am_busy hOw hOj hJs hJW ((ev.worker).toNat) x_179 hx_182 hS_258) ?_
    rintro _ w_259 ⟨rfl, hS_260⟩
    refine pu1 ?_
    refine sB 74 (busyM jobs x_179) (fun hc_261 => ?_) (fun hc_261 => ?_)
    rotate_left
    · refine pu6 <| nilO <| thenK_n <| retE <| blockK_r <| thenK_r <| retT [.bool false] <| ?_
      have hS_271 := (((((hS_260.dropAt 0 rfl).dropAt 0 rfl).dropAt 0 rfl).dropAt 0 rfl).dropAt 1 rfl)
      exact .inl ⟨(ev_in (m := (⟨ws, jobs, rd⟩ : MS)) (evt_ext hc_8) (by dsimp only; omega) hx_182).trans ((evK_6 (by omega)).trans (if_neg hc_261)), rfl, hS_271⟩
    refine pu2 <| gY ?_
    refine lA hS_260 5 0 7 (Tryz.isAgg43 _) (Tryz.sizeOf43 _) ?_
    refine gY ?_
    have hS_262 := (((((hS_260.pick 4 rfl).pick 4 rfl).pick 4 rfl).pick 4 rfl).pick 4 rfl)
    refine cX Tryz.call58 (am_micro hOw hOj hJs hJW hof dof hrd hK2 ((ev.worker).toNat) x_179 hx_182 ev hc_261 (by have h := (hMW.w _ (List.mem_of_getElem? hx_182)).1; omega) (hMW.task (List.mem_of_getElem? hx_182) hc_261) hMW.s hS_262) ?_
    rintro _ w_263 (⟨he_267, rfl, hS_264⟩ | ⟨m_265, M_266, he_267, rfl, hR_268, hS_264⟩)
    · refine pu2 <| nilO <| thenK_n <| retE <| blockK_r <| thenK_r <| retT [.bool false] <| ?_
      have hS_269 := (hS_264.dropAt 1 rfl)
      exact .inl ⟨(ev_in (m := (⟨ws, jobs, rd⟩ : MS)) (evt_ext hc_8) (by dsimp only; omega) hx_182).trans ((evK_6 (by omega)).trans ((if_pos hc_261).trans he_267)), rfl, hS_269⟩
    refine pu2 <| nilO <| thenK_n <| retE <| blockK_r <| thenK_r <| retT [.bool true] <| ?_
    have hS_270 := (hS_264.dropAt 2 rfl)
    exact .inr ⟨_, _, (ev_in (m := (⟨ws, jobs, rd⟩ : MS)) (evt_ext hc_8) (by dsimp only; omega) hx_182).trans ((evK_6 (by omega)).trans ((if_pos hc_261).trans he_267)), rfl, hR_268, hS_270⟩
  refine regionE <| pu2 <| nilO <| thenK_n <| ?_
  refine cE ev.kind 8 (fun hc_272 => ?_) (fun hc_272 => ?_)
  · refine seqE <| regionE <| pu2 ?_
    have hS_273 := (((((hS_186.pick 5 rfl).pick 5 rfl).pick 5 rfl).pick 5 rfl).pick 5 rfl)
    refine cX Tryz.call57 (am_busy hOw hOj hJs hJW ((ev.worker).toNat) x_179 hx_182 hS_273) ?_
    rintro _ w_274 ⟨rfl, hS_275⟩
    refine pu1 ?_
    refine sB 74 (busyM jobs x_179) (fun hc_276 => ?_) (fun hc_276 => ?_)
    rotate_left
    · refine pu6 <| nilO <| thenK_n <| retE <| blockK_r <| thenK_r <| retT [.bool false] <| ?_
      have hS_286 := (((((hS_275.dropAt 0 rfl).dropAt 0 rfl).dropAt 0 rfl).dropAt 0 rfl).dropAt 1 rfl)
      exact .inl ⟨(ev_in (m := (⟨ws, jobs, rd⟩ : MS)) (evt_ext hc_8) (by dsimp only; omega) hx_182).trans ((evK_6 (by omega)).trans (if_neg hc_276)), rfl, hS_286⟩
    refine pu2 <| gY ?_
    refine lA hS_275 5 0 7 (Tryz.isAgg43 _) (Tryz.sizeOf43 _) ?_
    refine gY ?_
    have hS_277 := (((((hS_275.pick 4 rfl).pick 4 rfl).pick 4 rfl).pick 4 rfl).pick 4 rfl)
    refine cX Tryz.call58 (am_micro hOw hOj hJs hJW hof dof hrd hK2 ((ev.worker).toNat) x_179 hx_182 ev hc_276 (by have h := (hMW.w _ (List.mem_of_getElem? hx_182)).1; omega) (hMW.task (List.mem_of_getElem? hx_182) hc_276) hMW.s hS_277) ?_
    rintro _ w_278 (⟨he_282, rfl, hS_279⟩ | ⟨m_280, M_281, he_282, rfl, hR_283, hS_279⟩)
    · refine pu2 <| nilO <| thenK_n <| retE <| blockK_r <| thenK_r <| retT [.bool false] <| ?_
      have hS_284 := (hS_279.dropAt 1 rfl)
      exact .inl ⟨(ev_in (m := (⟨ws, jobs, rd⟩ : MS)) (evt_ext hc_8) (by dsimp only; omega) hx_182).trans ((evK_6 (by omega)).trans ((if_pos hc_276).trans he_282)), rfl, hS_284⟩
    refine pu2 <| nilO <| thenK_n <| retE <| blockK_r <| thenK_r <| retT [.bool true] <| ?_
    have hS_285 := (hS_279.dropAt 2 rfl)
    exact .inr ⟨_, _, (ev_in (m := (⟨ws, jobs, rd⟩ : MS)) (evt_ext hc_8) (by dsimp only; omega) hx_182).trans ((evK_6 (by omega)).trans ((if_pos hc_276).trans he_282)), rfl, hR_283, hS_285⟩
  refine seqE <| regionE <| pu2 <| nilO <| thenK_n <| ?_
  refine cE ev.kind 9 (fun hc_287 => ?_) (fun hc_287 => ?_)
  · refine seqE <| regionE <| pu3 ?_
    refine lA hS_186 0 4 2 (Tryz.isAgg40 _) (Tryz.sizeOf40 _) ?_
    have hS_288 := (((((hS_186.pick 5 rfl).pick 5 rfl).pick 5 rfl).pick 5 rfl).pick 5 rfl)
    refine cX Tryz.call59 (am_drop hOw hOj hJs hJW hof dof hrd hK2 ((ev.worker).toNat) x_179 hx_182 (⟨ev.refJob, ev.refTask⟩ : Ref) (fun h => hMW.held (List.mem_of_getElem? hx_182) h) hS_288) ?_
    rintro _ w_289 (⟨he_293, rfl, hS_290⟩ | ⟨m_291, M_292, he_293, rfl, hR_294, hS_290⟩)
    · refine pu1 <| nilO <| thenK_n <| retE <| blockK_r <| thenK_r <| retT [.bool false] <| ?_
      have hS_295 := (hS_290.dropAt 1 rfl)
      exact .inl ⟨(ev_in (m := (⟨ws, jobs, rd⟩ : MS)) (evt_ext hc_8) (by dsimp only; omega) hx_182).trans ((evK_9 (by omega)).trans (he_293)), rfl, hS_295⟩
    refine pu1 <| nilO <| thenK_n <| retE <| blockK_r <| thenK_r <| retT [.bool true] <| ?_
    have hS_296 := (hS_290.dropAt 2 rfl)
    exact .inr ⟨_, _, (ev_in (m := (⟨ws, jobs, rd⟩ : MS)) (evt_ext hc_8) (by dsimp only; omega) hx_182).trans ((evK_9 (by omega)).trans (he_293)), rfl, hR_294, hS_296⟩
  refine seqE <| regionE <| pu2 <| nilO <| thenK_n <| ?_
  refine cE ev.kind 10 (fun hc_297 => ?_) (fun hc_297 => ?_)
  · refine seqE <| regionE <| pu3 ?_
    refine lA hS_186 0 4 2 (Tryz.isAgg40 _) (Tryz.sizeOf40 _) ?_
    have hS_298 := (((((hS_186.pick 5 rfl).pick 5 rfl).pick 5 rfl).pick 5 rfl).pick 5 rfl)
    refine cX Tryz.call60 (am_crash hOw hOj hJs hJW hof dof hrd hK2 ((ev.worker).toNat) x_179 hx_182 (⟨ev.refJob, ev.refTask⟩ : Ref) hS_298) ?_
    rintro _ w_299 (⟨he_303, rfl, hS_300⟩ | ⟨m_301, M_302, he_303, rfl, hR_304, hS_300⟩)
    · refine pu1 <| nilO <| thenK_n <| retE <| blockK_r <| thenK_r <| retT [.bool false] <| ?_
      have hS_305 := (hS_300.dropAt 1 rfl)
      exact .inl ⟨(ev_in (m := (⟨ws, jobs, rd⟩ : MS)) (evt_ext hc_8) (by dsimp only; omega) hx_182).trans ((evK_10 (by omega)).trans (he_303)), rfl, hS_305⟩
    refine pu1 <| nilO <| thenK_n <| retE <| blockK_r <| thenK_r <| retT [.bool true] <| ?_
    have hS_306 := (hS_300.dropAt 2 rfl)
    exact .inr ⟨_, _, (ev_in (m := (⟨ws, jobs, rd⟩ : MS)) (evt_ext hc_8) (by dsimp only; omega) hx_182).trans ((evK_10 (by omega)).trans (he_303)), rfl, hR_304, hS_306⟩
  refine seqE <| regionE <| pu2 <| nilO <| thenK_n <| ?_
  refine cE ev.kind 11 (fun hc_307 => ?_) (fun hc_307 => ?_)
  · refine seqE <| seqE <| regionE <| pu3 ?_
    refine sLp hS_186 (hp_183.up 2 rfl) 0 (.int .i64 x_179.phase) (Tryz.isAgg3 _) ?_
    refine pu1 <| nilO <| thenK_n <| ?_
    refine cN x_179.phase 4 (fun hc_308 => ?_) (fun hc_308 => ?_)
    rotate_left
    · refine seqE <| regionE <| pu1 <| nilO <| thenK_n <| retE <| thenK_r <| blockK_r <| thenK_r <| retT [.bool false] <| ?_
      have hS_315 := (((((hS_186.dropAt 0 rfl).dropAt 0 rfl).dropAt 0 rfl).dropAt 0 rfl).dropAt 0 rfl)
      exact .inl ⟨(ev_in (m := (⟨ws, jobs, rd⟩ : MS)) (evt_ext hc_8) (by dsimp only; omega) hx_182).trans ((evK_11 (by omega)).trans (if_neg (by omega))), rfl, hS_315⟩
    refine skipE <| thenK_n <| seqE <| regionE <| pu3 ?_
    refine sStF hS_186 hOw rfl 2 (ev.worker).toNat 0 x_179 (⟨0, x_179.heldJob, x_179.heldTask, x_179.attempt, x_179.row⟩ : Wk) hx_182 (.int .i64 0) [.int .i64 0] Tryz.sizeOf3 ?_
    intro w_309 c_311 hO_312 hS_310
    refine nilO <| thenK_n <| seqE <| regionE <| pu1 <| nilO <| thenK_n <| retE <| blockK_r <| thenK_r <| retT [.bool true] <| ?_
    have hS_313 := (hS_310.dropAt 0 rfl)
    have hS_314 : Sat W _ (([(p, .cells #[.slice oa on ok, .slice (some ⟨wb, wo, none⟩) wn wk, .slice ja jn jk, .int .i64 rd] 74 (0, 0))] ++ (c_311 ++ (Jc ++ jcs.flatten))) :: H :: F) := Sat.perm (show Sat W _ ([(p, .cells #[.slice oa on ok, .slice (some ⟨wb, wo, none⟩) wn wk, .slice ja jn jk, .int .i64 rd] 74 (0, 0))] :: c_311 :: Jc :: jcs.flatten :: H :: F) from hS_313) (by simp)
    exact .inr ⟨⟨(ws.set ((ev.worker).toNat) (⟨0, x_179.heldJob, x_179.heldTask, x_179.attempt, x_179.row⟩ : Wk)), jobs, rd⟩, _, (ev_in (m := (⟨ws, jobs, rd⟩ : MS)) (evt_ext hc_8) (by dsimp only; omega) hx_182).trans ((evK_11 (by omega)).trans (if_pos (by omega))), rfl, ⟨_, _, _, _, _, _, _, _, _, _, _, _, rfl, hO_312, hOj, hJs, hof, dof⟩, hS_314⟩
  refine seqE <| regionE <| pu2 <| nilO <| thenK_n <| ?_
  refine cE ev.kind 12 (fun hc_316 => ?_) (fun hc_316 => ?_)
  · refine seqE <| regionE <| pu1 ?_
    refine lA hS_186 0 0 7 (Tryz.isAgg43 _) (Tryz.sizeOf43 _) ?_
    have hS_317 := (((((hS_186.pick 5 rfl).pick 5 rfl).pick 5 rfl).pick 5 rfl).pick 5 rfl)
    refine cX Tryz.call56 (am_another hOw hOj hJs hJW ev hS_317) ?_
    rintro _ w_318 ⟨rfl, hS_319⟩
    refine pu1 ?_
    refine sB 109 (anotherE ws.length ev) (fun hc_320 => ?_) (fun hc_320 => ?_)
    rotate_left
    · refine pu8 <| nilO <| thenK_n <| retE <| blockK_r <| thenK_r <| retT [.bool false] <| ?_
      have hS_328 := (((((hS_319.dropAt 0 rfl).dropAt 0 rfl).dropAt 0 rfl).dropAt 0 rfl).dropAt 1 rfl)
      exact .inl ⟨(ev_in (m := (⟨ws, jobs, rd⟩ : MS)) (evt_ext hc_8) (by dsimp only; omega) hx_182).trans ((evK_12 (by omega)).trans (if_neg (fun h => hc_320 h.1))), rfl, hS_328⟩
    refine pu3 <| gY ?_
    refine sL hS_319 5 2 (.int .i64 ev.from_) (Tryz.isAgg3 _) ?_
    refine pu1 <| gY ?_
    have hS_321 := (((((hS_319.pick 4 rfl).pick 4 rfl).pick 4 rfl).pick 4 rfl).pick 4 rfl)
    have haf := another_bd hc_320
    refine cX Tryz.call61 (am_help hOw hOj hJs hJW ((ev.worker).toNat) x_179 hx_182 ev.from_ (by omega) _ _ _ _ hl hS_321) ?_
    rintro _ w_322 ⟨rfl, hS_323⟩
    refine pu2 <| nilO <| thenK_n <| retE <| blockK_r <| thenK_r <| retT [.bool (helpM jobs ws rd x_179 ev.from_ l)] <| ?_
    rcases Classical.em ((helpM jobs ws rd x_179 ev.from_ l) = true) with hc_324 | hc_324
    rotate_left
    · rw [show (helpM jobs ws rd x_179 ev.from_ l) = false from (Bool.eq_false_iff.2 hc_324)]
      have hS_327 := (((((hS_323.dropAt 0 rfl).dropAt 0 rfl).dropAt 0 rfl).dropAt 0 rfl).dropAt 1 rfl)
      exact .inl ⟨(ev_in (m := (⟨ws, jobs, rd⟩ : MS)) (evt_ext hc_8) (by dsimp only; omega) hx_182).trans ((evK_12 (by omega)).trans (if_neg (fun h => hc_324 h.2))), rfl, hS_327⟩
    rw [show (helpM jobs ws rd x_179 ev.from_ l) = true from hc_324]
    have hS_325 := (hS_323.dropAt 5 rfl)
    have hS_326 : Sat W _ (([(p, .cells #[.slice oa on ok, .slice (some ⟨wb, wo, none⟩) wn wk, .slice ja jn jk, .int .i64 rd] 74 (0, 0))] ++ (Wc ++ (Jc ++ jcs.flatten))) :: H :: F) := Sat.perm (show Sat W _ ([(p, .cells #[.slice oa on ok, .slice (some ⟨wb, wo, none⟩) wn wk, .slice ja jn jk, .int .i64 rd] 74 (0, 0))] :: Wc :: Jc :: jcs.flatten :: H :: F) from hS_325) (by simp)
    exact .inr ⟨⟨ws, jobs, rd⟩, _, (ev_in (m := (⟨ws, jobs, rd⟩ : MS)) (evt_ext hc_8) (by dsimp only; omega) hx_182).trans ((evK_12 (by omega)).trans (if_pos ⟨hc_320, hc_324⟩)), rfl, ⟨_, _, _, _, _, _, _, _, _, _, _, _, rfl, hOw, hOj, hJs, hof, dof⟩, hS_326⟩
  refine seqE <| regionE <| pu2 <| nilO <| thenK_n <| ?_
  refine cE ev.kind 13 (fun hc_329 => ?_) (fun hc_329 => ?_)
  rotate_left
  · refine skipE <| blockK_n <| thenK_n <| seqE <| regionE <| pu1 <| nilO <| thenK_n <| retE <| retT [.bool false] <| ?_
    have hS_341 := (((((hS_186.dropAt 0 rfl).dropAt 0 rfl).dropAt 0 rfl).dropAt 0 rfl).dropAt 0 rfl)
    exact .inl ⟨(ev_in (m := (⟨ws, jobs, rd⟩ : MS)) (evt_ext hc_8) (by dsimp only; omega) hx_182).trans (evK_no (by omega)), rfl, hS_341⟩
  refine seqE <| regionE <| pu3 ?_
  refine sLp hS_186 (hp_183.up 2 rfl) 0 (.int .i64 x_179.phase) (Tryz.isAgg3 _) ?_
  refine pu2 ?_
  refine sE 124 x_179.phase 0 (fun hc_330 => ?_) (fun hc_330 => ?_)
  rotate_left
  · refine pu12 <| nilO <| thenK_n <| retE <| blockK_r <| thenK_r <| retT [.bool false] <| ?_
    have hS_340 := (((((hS_186.dropAt 0 rfl).dropAt 0 rfl).dropAt 0 rfl).dropAt 0 rfl).dropAt 0 rfl)
    exact .inl ⟨(ev_in (m := (⟨ws, jobs, rd⟩ : MS)) (evt_ext hc_8) (by dsimp only; omega) hx_182).trans ((evK_13 (by omega)).trans (if_neg (fun h => by have h1 := h.1; have h2 := h.2.1; dsimp only at h2; omega))), rfl, hS_340⟩
  refine pu3 <| gY ?_
  refine sL hS_186 1 3 (.int .i64 rd) (Tryz.isAgg3 _) ?_
  refine pu3 ?_
  refine sE 131 rd 0 (fun hc_331 => ?_) (fun hc_331 => ?_)
  rotate_left
  · refine pu5 <| nilO <| thenK_n <| retE <| blockK_r <| thenK_r <| retT [.bool false] <| ?_
    have hS_339 := (((((hS_186.dropAt 0 rfl).dropAt 0 rfl).dropAt 0 rfl).dropAt 0 rfl).dropAt 0 rfl)
    exact .inl ⟨(ev_in (m := (⟨ws, jobs, rd⟩ : MS)) (evt_ext hc_8) (by dsimp only; omega) hx_182).trans ((evK_13 (by omega)).trans (if_neg (fun h => by have h1 := h.1; have h2 := h.2.1; dsimp only at h2; omega))), rfl, hS_339⟩
  refine pu1 <| gY ?_
  have hS_332 := (((((hS_186.pick 5 rfl).pick 5 rfl).pick 5 rfl).pick 5 rfl).pick 5 rfl)
  refine cX Tryz.call62 (am_any hOw hOj hJs hJW  hS_332) ?_
  rintro _ w_333 ⟨rfl, hS_334⟩
  refine pu3 <| nilO <| thenK_n <| retE <| blockK_r <| thenK_r <| retT [.bool (!(ws.any (busyM jobs)))] <| ?_
  rcases Classical.em ((ws.any (busyM jobs)) = true) with hc_335 | hc_335
  · rw [show (!(ws.any (busyM jobs))) = false from (congrArg Bool.not hc_335)]
    have hS_336 := (((((hS_334.dropAt 0 rfl).dropAt 0 rfl).dropAt 0 rfl).dropAt 0 rfl).dropAt 1 rfl)
    exact .inl ⟨(ev_in (m := (⟨ws, jobs, rd⟩ : MS)) (evt_ext hc_8) (by dsimp only; omega) hx_182).trans ((evK_13 (by omega)).trans (if_neg (fun h => h.2.2 hc_335))), rfl, hS_336⟩
  rw [show (!(ws.any (busyM jobs))) = true from (congrArg Bool.not (Bool.eq_false_iff.2 hc_335))]
  have hS_337 := (hS_334.dropAt 5 rfl)
  have hS_338 : Sat W _ (([(p, .cells #[.slice oa on ok, .slice (some ⟨wb, wo, none⟩) wn wk, .slice ja jn jk, .int .i64 rd] 74 (0, 0))] ++ (Wc ++ (Jc ++ jcs.flatten))) :: H :: F) := Sat.perm (show Sat W _ ([(p, .cells #[.slice oa on ok, .slice (some ⟨wb, wo, none⟩) wn wk, .slice ja jn jk, .int .i64 rd] 74 (0, 0))] :: Wc :: Jc :: jcs.flatten :: H :: F) from hS_337) (by simp)
  exact .inr ⟨⟨ws, jobs, rd⟩, _, (ev_in (m := (⟨ws, jobs, rd⟩ : MS)) (evt_ext hc_8) (by dsimp only; omega) hx_182).trans ((evK_13 (by omega)).trans (if_pos ⟨by omega, by dsimp only; omega, hc_335⟩)), rfl, ⟨_, _, _, _, _, _, _, _, _, _, _, _, rfl, hOw, hOj, hJs, hof, dof⟩, hS_338⟩
end Go.Proofs.YtimkhljglpookaaGreat
