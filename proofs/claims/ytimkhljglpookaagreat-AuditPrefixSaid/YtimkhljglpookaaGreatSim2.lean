import Derived.Test.YtimkhljglpookaaGreatSim1
namespace Go.Proofs.YtimkhljglpookaaGreat
open Go Go.E
set_option linter.unusedVariables false
set_option linter.unusedSimpArgs false
set_option linter.unnecessarySimpa false
set_option maxRecDepth 100000
set_option maxHeartbeats 2000000
variable {W w : World} {H : Chunk} {F : List Chunk}

/-! ### every ready task of a running job is queued once; who holds what -/
def rdyJ (jobs : List JS) (r : Ref) : Bool := decide (0 ≤ r.job) && ((jobs.getD r.job.toNat default).running && decide (stAt (jobs.getD r.job.toNat default).B.st r.task = 2))
def cnt (F : FS) (r : Ref) : Nat := cD F.dq r + cQ F.q.bs r
def Holds (v : Wkr) : Prop := v.phase = 1 ∨ v.phase = 2 ∨ v.phase = 3
structure QI (F : FS) : Prop where
  c : ∀ r, cnt F r = (rdyJ F.jobs r).toNat
  q4 : F.q.bs.length = 4
  cap : F.q.cap = 512
structure HI (F : FS) : Prop where
  h : ∀ (x : Nat) v, F.ws[x]? = some v → Holds v → ∃ j, F.jobs[v.heldJob.toNat]? = some j ∧ j.added = true ∧ heldC j.B v.heldTask v.attempt = 0
  d : ∀ (x y : Nat) v u, F.ws[x]? = some v → F.ws[y]? = some u → x ≠ y → Holds v → Holds u → ¬ (v.heldJob = u.heldJob ∧ v.heldTask = u.heldTask)
  z : ∀ (x : Nat) v, F.ws[x]? = some v → ¬ Holds v → v.heldJob = 0 ∧ v.heldTask = 0 ∧ v.attempt = 0 ∧ v.row = 0 ∧ (v.phase = 0 ∨ v.phase = 4)
theorem set_at' {α : Type} {l : List α} {k y : Nat} {x v : α} (h : (l.set k x)[y]? = some v) : (k = y ∧ v = x) ∨ (k ≠ y ∧ l[y]? = some v) := by
  rw [List.getElem?_set] at h
  by_cases e : k = y
  · rw [if_pos e] at h
    split at h
    · exact .inl ⟨e, (Option.some.inj h).symm⟩
    · cases h
  · rw [if_neg e] at h; exact .inr ⟨e, h⟩
theorem HI.upd {F F' : FS} (h : HI F) {x : Nat} {v' : Wkr} (hw : F'.ws = F.ws.set x v')
    (ha : ∀ (y : Nat) v, x ≠ y → F.ws[y]? = some v → Holds v → ∃ j, F'.jobs[v.heldJob.toNat]? = some j ∧ j.added = true ∧ heldC j.B v.heldTask v.attempt = 0)
    (hb : Holds v' → (∃ j, F'.jobs[v'.heldJob.toNat]? = some j ∧ j.added = true ∧ heldC j.B v'.heldTask v'.attempt = 0) ∧ ∀ (y : Nat) v, x ≠ y → F.ws[y]? = some v → Holds v → ¬ (v.heldJob = v'.heldJob ∧ v.heldTask = v'.heldTask))
    (hc : ¬ Holds v' → v'.heldJob = 0 ∧ v'.heldTask = 0 ∧ v'.attempt = 0 ∧ v'.row = 0 ∧ (v'.phase = 0 ∨ v'.phase = 4)) : HI F' := by
  refine ⟨?_, ?_, ?_⟩
  · intro y v hy hv
    rw [hw] at hy
    rcases set_at' hy with ⟨_, rfl⟩ | ⟨e, hy⟩
    · exact (hb hv).1
    · exact ha y v e hy hv
  · intro y z v u hy hz e hv hu
    rw [hw] at hy hz
    rcases set_at' hy with ⟨e1, e3⟩ | ⟨e1, hy2⟩
    · rcases set_at' hz with ⟨e2, _⟩ | ⟨e2, hz2⟩
      · exact absurd (e1.symm.trans e2) e
      · subst e3; intro k; exact (hb hv).2 z u e2 hz2 hu ⟨k.1.symm, k.2.symm⟩
    · rcases set_at' hz with ⟨e2, e4⟩ | ⟨e2, hz2⟩
      · subst e4; exact (hb hu).2 y v e1 hy2 hv
      · exact h.d y z v u hy2 hz2 e hv hu
  · intro y v hy hv
    rw [hw] at hy
    rcases set_at' hy with ⟨_, rfl⟩ | ⟨e, hy⟩
    · exact hc hv
    · exact h.z y v hy hv
theorem rdy_set {jobs : List JS} {k : Int} {j' : JS} {r : Ref} (hk : 0 ≤ k) (hl : k.toNat < jobs.length) : rdyJ (jobs.set k.toNat j') r = if r.job = k then (j'.running && decide (stAt j'.B.st r.task = 2)) else rdyJ jobs r := by
  unfold rdyJ
  by_cases e : r.job = k
  · rw [if_pos e, e, getD_some (set_at (y := j') (List.getElem?_eq_getElem hl)), decide_eq_true hk]; rfl
  · rw [if_neg e]
    by_cases h0 : 0 ≤ r.job
    · have h1 : (jobs.set k.toNat j').getD r.job.toNat default = jobs.getD r.job.toNat default := by
        rw [List.getD_eq_getElem?_getD, List.getD_eq_getElem?_getD, List.getElem?_set, if_neg (by omega)]
      rw [h1]
    · rw [decide_eq_false h0]; rfl
theorem rdy_at {jobs : List JS} {r : Ref} {j : JS} (h0 : 0 ≤ r.job) (hj : jobs[r.job.toNat]? = some j) : rdyJ jobs r = (j.running && decide (stAt j.B.st r.task = 2)) := by
  unfold rdyJ; rw [getD_some hj, decide_eq_true h0]; rfl
theorem rdy_some {jobs : List JS} {r : Ref} (h : rdyJ jobs r = true) : 0 ≤ r.job ∧ ∃ j, jobs[r.job.toNat]? = some j ∧ j.running = true ∧ stAt j.B.st r.task = 2 := by
  unfold rdyJ at h
  obtain ⟨h1, h2⟩ := (Bool.and_eq_true _ _).mp h
  obtain ⟨h3, h4⟩ := (Bool.and_eq_true _ _).mp h2
  refine ⟨of_decide_eq_true h1, ?_⟩
  cases hj : jobs[r.job.toNat]? with
  | none =>
    rw [List.getD_eq_getElem?_getD, hj] at h3
    cases h3
  | some j => rw [getD_some hj] at h3 h4; exact ⟨j, rfl, h3, of_decide_eq_true h4⟩
theorem stAt_in {s : List Int} {x y : Int} (h : stAt s x = y) (hy : y ≠ 0) : 0 ≤ x ∧ x < ((s.length : Nat) : Int) := by
  unfold stAt at h
  split at h
  · rename_i h0
    refine ⟨h0, ?_⟩
    apply Classical.byContradiction
    intro hn
    have : s.getD x.toNat 0 = 0 := by rw [List.getD_eq_getElem?_getD, List.getElem?_eq_none (by omega)]; rfl
    omega
  · omega
theorem count_idx {y z : Int} : ∀ {s : List Int} {k : Nat}, (idxOf y k s).count z = if (k : Int) ≤ z ∧ z < ((k + s.length : Nat) : Int) ∧ s.getD (z - k).toNat 0 = y then 1 else 0
  | [], k => by rw [if_neg (by simp only [List.length_nil]; omega)]; rfl
  | x :: s, k => by
    have ih := count_idx (y := y) (z := z) (s := s) (k := k + 1)
    simp only [idxOf, List.count_append, ih, List.length_cons]
    by_cases hz : z = (k : Int)
    · have h1 : (z - (k : Int)).toNat = 0 := by omega
      rw [if_neg (show ¬ (((k + 1 : Nat) : Int) ≤ z ∧ _) from fun h => by omega)]
      by_cases hx : x = y
      · rw [if_pos hx, if_pos ⟨by omega, by omega, by rw [h1]; exact hx⟩, hz]; simp
      · rw [if_neg hx, if_neg (by rw [h1]; exact fun h => hx h.2.2)]; simp
    · have h2 : (if x = y then [((k : Nat) : Int)] else []).count z = 0 := by
        split
        · rw [List.count_cons, List.count_nil]; simp; omega
        · rfl
      rw [h2, Nat.zero_add]
      by_cases hk : ((k + 1 : Nat) : Int) ≤ z
      · have h3 : (z - (k : Int)).toNat = (z - ((k + 1 : Nat) : Int)).toNat + 1 := by omega
        rw [h3]
        simp only [List.getD_cons_succ]
        by_cases h4 : ((k + 1 : Nat) : Int) ≤ z ∧ z < ((k + 1 + s.length : Nat) : Int) ∧ s.getD (z - ((k + 1 : Nat) : Int)).toNat 0 = y
        · rw [if_pos h4, if_pos ⟨by omega, by have := h4.2.1; omega, h4.2.2⟩]
        · rw [if_neg h4, if_neg (fun h => h4 ⟨hk, by have := h.2.1; omega, h.2.2⟩)]
      · rw [if_neg (fun h => hk h.1), if_neg (fun h => by omega)]
theorem count_two {s : List Int} {z : Int} : (idxOf 2 0 s).count z = if stAt s z = 2 then 1 else 0 := by
  rw [count_idx]
  by_cases h : stAt s z = 2
  · have h1 := stAt_in h (by decide)
    have h2 : s.getD (z - ((0 : Nat) : Int)).toNat 0 = 2 := by rw [stAt_nat _ h1.1] at h; simpa using h
    rw [if_pos h, if_pos ⟨by omega, by omega, h2⟩]
  · rw [if_neg h, if_neg]
    intro k
    apply h
    rw [stAt_nat _ (by omega)]
    simpa using k.2.2
theorem count_fr {p : Nat → Bool} {t : Int} : ∀ {n : Nat}, (((List.range n).filter p).map fun (q : Nat) => (q : Int)).count t = if 0 ≤ t ∧ t < (n : Int) ∧ p t.toNat = true then 1 else 0
  | 0 => by rw [if_neg (by omega)]; rfl
  | n + 1 => by
    rw [List.range_succ, List.filter_append, List.map_append, List.count_append, count_fr (n := n)]
    by_cases ht : t = (n : Int)
    · have h1 : t.toNat = n := by omega
      rw [if_neg (fun h => by omega)]
      by_cases hp : p n = true
      · rw [if_pos ⟨by omega, by omega, by rw [h1]; exact hp⟩, ht]; simp [hp]
      · rw [if_neg (by rw [h1]; exact fun h => hp h.2.2)]; simp [hp]
    · have h2 : (List.map (fun (q : Nat) => (q : Int)) (List.filter p [n])).count t = 0 := by
        by_cases hp : p n = true
        · simp [hp]; rw [List.count_cons, List.count_nil]; simp; omega
        · simp [hp]
      rw [h2, Nat.add_zero]
      by_cases h3 : 0 ≤ t ∧ t < (n : Int) ∧ p t.toNat = true
      · rw [if_pos h3, if_pos ⟨h3.1, by omega, h3.2.2⟩]
      · rw [if_neg h3, if_neg (fun h => h3 ⟨h.1, by omega, h.2.2⟩)]
theorem count_rdy {s : List Int} {D : List (List Int)} {t : Int} : (rdyB s D).count t = if 0 ≤ t ∧ t < ((D.length : Nat) : Int) ∧ condB s D t.toNat = true then 1 else 0 := count_fr
theorem mark_at {s : List Int} {D : List (List Int)} {t : Int} (hl : s.length = D.length) : stAt (markB s D) t = if 0 ≤ t ∧ t < ((D.length : Nat) : Int) ∧ condB s D t.toNat = true then 2 else stAt s t := by
  by_cases h0 : 0 ≤ t
  · rw [stAt_nat _ h0, stAt_nat _ h0]
    by_cases h1 : t.toNat < D.length
    · unfold markB
      rw [getD_range h1]
      by_cases h2 : condB s D t.toNat = true
      · rw [if_pos h2, if_pos ⟨h0, by omega, h2⟩]
      · rw [if_neg h2, if_neg (fun h => h2 h.2.2)]
    · rw [if_neg (fun h => h1 (by omega))]
      have h3 : (markB s D).length = D.length := by simp [markB]
      rw [List.getD_eq_getElem?_getD, List.getD_eq_getElem?_getD, List.getElem?_eq_none (by omega), List.getElem?_eq_none (by omega)]
  · rw [if_neg (fun h => h0 h.1)]; unfold stAt; rw [if_neg h0, if_neg h0]
theorem cond_one {s : List Int} {D : List (List Int)} {t : Int} (h0 : 0 ≤ t) (h : condB s D t.toNat = true) : stAt s t = 1 := by
  unfold condB at h
  rw [stAt_nat _ h0]
  exact of_decide_eq_true ((Bool.and_eq_true _ _).mp h).1
theorem cmap {job : Int} {r : Ref} : ∀ {l : List Int}, (l.map fun t => (⟨job, t⟩ : Ref)).count r = if r.job = job then l.count r.task else 0
  | [] => by split <;> rfl
  | t :: l => by
    rw [List.map_cons, List.count_cons, cmap (l := l), List.count_cons]
    by_cases h1 : r.job = job
    · rw [if_pos h1, if_pos h1]
      congr 1
      cases r; simp only at h1; subst h1; simp
    · rw [if_neg h1, if_neg h1]
      have h2 : ((⟨job, t⟩ : Ref) == r) = false := by
        rw [beq_eq_false_iff_ne]; intro h; exact h1 (by rw [← h])
      rw [h2]; rfl
def allR : Nat → List JS → List Ref
  | _, [] => []
  | k, j :: l => (if j.added then (List.range j.tasks.length).map (fun (t : Nat) => (⟨(k : Int), (t : Int)⟩ : Ref)) else []) ++ allR (k + 1) l
theorem allR_len : ∀ {l : List JS} {k : Nat}, (allR k l).length = totS (shapeF l)
  | [], _ => rfl
  | j :: l, k => by
    have ih := allR_len (l := l) (k := k + 1)
    simp only [allR, List.length_append, ih, totS, shapeF, List.map_cons, List.sum_cons]
    congr 1
    cases j.added <;> simp
theorem allR_mem : ∀ {l : List JS} {k i : Nat} {j : JS} {t : Int}, l[i]? = some j → j.added = true → 0 ≤ t → t < ((j.tasks.length : Nat) : Int) → (⟨((k + i : Nat) : Int), t⟩ : Ref) ∈ allR k l
  | [], _, _, _, _, h, _, _, _ => by cases h
  | x :: l, k, 0, j, t, h, ha, h0, h1 => by
    obtain rfl : x = j := by simpa using h
    unfold allR
    apply List.mem_append_left
    rw [if_pos ha]
    exact List.mem_map.2 ⟨t.toNat, List.mem_range.2 (by omega), by rw [show ((t.toNat : Nat) : Int) = t by omega]; rfl⟩
  | x :: l, k, i + 1, j, t, h, ha, h0, h1 => by
    have ih := allR_mem (l := l) (k := k + 1) (i := i) (j := j) (t := t) (by simpa using h) ha h0 h1
    unfold allR
    apply List.mem_append_right
    rw [show k + (i + 1) = k + 1 + i by omega]; exact ih
theorem QI.small {F : FS} {K : Int} (h : QI F) (hF : FW F K) : totB F.q.bs ≤ ((totS (shapeF F.jobs) : Nat) : Int) := by
  have h1 : F.q.bs.flatten.length ≤ (allR 0 F.jobs).length := by
    apply len_le
    intro r
    have h2 : F.q.bs.flatten.count r = cQ F.q.bs r := by rw [List.count_flatten]; rfl
    rw [h2]
    have h3 := h.c r
    unfold cnt at h3
    cases hr : rdyJ F.jobs r with
    | false => rw [hr] at h3; simp at h3; omega
    | true =>
      rw [hr] at h3
      obtain ⟨h0, j, hj, hrun, hst⟩ := rdy_some hr
      have hJ := hF.j j (List.mem_of_getElem? hj)
      have ha := hJ.r hrun
      obtain ⟨hW, hd, _, _⟩ := hJ.b ha
      have hi := stAt_in hst (by decide)
      have hm := allR_mem (k := 0) (t := r.task) hj ha hi.1 (by rw [hW.ls, hd] at hi; exact hi.2)
      rw [show (⟨((0 + r.job.toNat : Nat) : Int), r.task⟩ : Ref) = r by cases r; simp only at h0 ⊢; congr 1; omega] at hm
      have := List.count_pos_iff.2 hm
      simp at h3; omega
  rw [allR_len] at h1
  have h2 : totB F.q.bs = ((F.q.bs.flatten.length : Nat) : Int) := by unfold totB; rw [List.length_flatten]
  omega
end Go.Proofs.YtimkhljglpookaaGreat
