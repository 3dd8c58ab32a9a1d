import Derived.Test.YtimkhljglpookaaGreatBnd1
namespace Go.Proofs.YtimkhljglpookaaGreat
open Go Go.E
set_option linter.unusedVariables false
set_option linter.unusedSimpArgs false
set_option linter.unnecessarySimpa false
set_option maxRecDepth 100000
set_option maxHeartbeats 2000000
variable {W w : World} {H : Chunk} {F : List Chunk}

/-! ### what holds in every accepted history -/
def hold1 (v : Wk) : Int := if v.phase ≠ 0 ∧ v.phase ≠ 4 then 1 else 0
def holdN (ws : List Wk) : Int := (ws.map hold1).sum
def nst1 (a : JA) : Int := match a.B with
  | none => 0
  | some B => ((B.st.count 3 : Nat) : Int) + ((B.st.count 4 : Nat) : Int)
def nstN (l : List JA) : Int := (l.map nst1).sum
theorem sum_set {α : Type} {f : α → Int} : ∀ {l : List α} {k : Nat} {a a' : α}, l[k]? = some a → ((l.set k a').map f).sum + f a = (l.map f).sum + f a'
  | [], _, _, _, h => by cases h
  | x :: l, 0, a, a', h => by
    obtain rfl : x = a := by simpa using h
    simp only [List.set_cons_zero, List.map_cons, List.sum_cons]; omega
  | x :: l, k + 1, a, a', h => by
    have ih := sum_set (f := f) (l := l) (k := k) (a := a) (a' := a') (by simpa using h)
    simp only [List.set_cons_succ, List.map_cons, List.sum_cons] at ih ⊢; omega
theorem cset {z y : Int} : ∀ {s : List Int} {k : Nat}, k < s.length → (s.set k y).count z + (if s.getD k 0 = z then 1 else 0) = s.count z + (if y = z then 1 else 0)
  | [], _, h => by simp at h
  | x :: s, 0, _ => by
    simp only [List.set_cons_zero, List.getD_cons_zero, List.count_cons]
    by_cases h1 : x = z <;> by_cases h2 : y = z <;> simp [h1, h2] <;> omega
  | x :: s, k + 1, h => by
    have ih := cset (z := z) (y := y) (s := s) (k := k) (by simpa using h)
    simp only [List.set_cons_succ, List.getD_cons_succ, List.count_cons] at ih ⊢
    omega
theorem count_same {z : Int} : ∀ {s t : List Int}, s.length = t.length → (∀ q : Nat, q < s.length → (s.getD q 0 = z ↔ t.getD q 0 = z)) → s.count z = t.count z
  | [], [], _, _ => rfl
  | [], _ :: _, h, _ => by simp at h
  | _ :: _, [], h, _ => by simp at h
  | x :: s, y :: t, h, hq => by
    have ih := count_same (z := z) (s := s) (t := t) (by simpa using h) (fun q hl => by have := hq (q + 1) (by simpa using hl); simpa using this)
    have h0 := hq 0 (by simp)
    simp only [List.getD_cons_zero] at h0
    simp only [List.count_cons, ih]
    by_cases h1 : x = z
    · have h2 := h0.1 h1; simp [h1, h2]
    · have h2 : ¬ y = z := fun k => h1 (h0.2 k)
      simp [h1, h2]
theorem mark_count {s : List Int} {D : List (List Int)} {z : Int} (hl : s.length = D.length) (hz : z = 3 ∨ z = 4) : (markB s D).count z = s.count z := by
  apply count_same
  · simp [markB, hl]
  · intro q hq
    have h1 : q < D.length := by simpa [markB] using hq
    unfold markB
    rw [getD_range h1]
    by_cases h2 : condB s D q = true
    · rw [if_pos h2]
      unfold condB at h2
      have h3 := of_decide_eq_true ((Bool.and_eq_true _ _).mp h2).1
      omega
    · rw [if_neg h2]
theorem nst_le {off : List TL} : ∀ {l : List JA}, (∀ (k : Nat) a B, l[k]? = some a → a.B = some B → ∃ T, off[k]? = some T ∧ B.st.length = T.l.l.length) → nstN l ≤ (((off.map fun T => T.l.l.length).sum : Nat) : Int) := by
  induction off with
  | nil =>
    intro l h
    have : nstN l = 0 := by
      induction l with
      | nil => rfl
      | cons a l ih =>
        have h1 : nst1 a = 0 := by
          unfold nst1
          cases hB : a.B with
          | none => rfl
          | some B => obtain ⟨T, hT, _⟩ := h 0 a B rfl hB; simp at hT
        have h2 := ih (fun k b B hb hB => by obtain ⟨T, hT, _⟩ := h (k + 1) b B (by simpa using hb) hB; simp at hT)
        simp only [nstN, List.map_cons, List.sum_cons] at h2 ⊢; omega
    simp [this]
  | cons T off ih =>
    intro l h
    cases l with
    | nil => simp only [nstN, List.map_nil, List.sum_nil]; omega
    | cons a l =>
      have h2 := ih (l := l) (fun k b B hb hB => by
        obtain ⟨T, hT, h3⟩ := h (k + 1) b B (by simpa using hb) hB
        exact ⟨T, by simpa using hT, h3⟩)
      have h1 : nst1 a ≤ ((T.l.l.length : Nat) : Int) := by
        unfold nst1
        cases hB : a.B with
        | none => simp
        | some B =>
          obtain ⟨T2, hT2, h3⟩ := h 0 a B rfl hB
          obtain rfl : T = T2 := by simpa using hT2
          have h4 : B.st.count 3 + B.st.count 4 ≤ B.st.length := by
            clear h3 hB
            generalize B.st = s
            induction s with
            | nil => simp
            | cons x s ih =>
              simp only [List.count_cons, List.length_cons]
              by_cases e3 : x = 3
              · subst e3; simp; omega
              · by_cases e4 : x = 4
                · subst e4; simp; omega
                · simp [e3, e4]; omega
          dsimp only; omega
      simp only [nstN, List.map_cons, List.sum_cons, Int.natCast_add] at h2 ⊢; omega
structure BI (off : List TL) (m : MS) (es : List Evt) (ks : List (Int × Int)) : Prop where
  jt : ∀ (k : Nat) a B, m.jobs[k]? = some a → a.B = some B → ∃ T, off[k]? = some T ∧ a.T = T.l.l ∧ B.deps = T.l.l.map (·.deps.l)
  dn : ∀ u v, (u, v) ∈ ks ↔ 0 ≤ u ∧ ∃ a B, m.jobs[u.toNat]? = some a ∧ a.B = some B ∧ stAt B.st v = 4
  cm : (countE es).commits = ((ks.length : Nat) : Int)
  st : (countE es).commits + (countE es).drops + holdN m.ws ≤ (countE es).starts
  tot : (countE es).starts ≤ nstN m.jobs + (countE es).crashes
def nextK (e : Evt) (ks : List (Int × Int)) : List (Int × Int) := if e.kind = 8 then ks ++ [(e.refJob, e.refTask)] else ks
theorem count_snoc {es : List Evt} {e : Evt} : countE (es ++ [e]) = count1 (countE es) e := by unfold countE; rw [List.foldl_append]; rfl
/-- What a commit in an accepted history says. -/
def ComOk (off : List TL) (e : Evt) (ks : List (Int × Int)) : Prop :=
  0 ≤ e.refJob ∧ (e.refJob, e.refTask) ∉ ks ∧ ∃ T, off[e.refJob.toNat]? = some T ∧ 0 ≤ e.refTask ∧ e.refTask < ((T.l.l.length : Nat) : Int) ∧ ∀ t, T.l.l[e.refTask.toNat]? = some t → ∀ d ∈ t.deps.l, (e.refJob, d) ∈ ks
/-- A board changes in one job; the committed tasks are the same. -/
theorem BI.dn_set {off : List TL} {m : MS} {es : List Evt} {ks : List (Int × Int)} (h : BI off m es ks) {n : Nat} {a a' : JA} {B B' : BS} (ha : m.jobs[n]? = some a) (hB : a.B = some B) (hB' : a'.B = some B') (h4 : ∀ v, stAt B'.st v = 4 ↔ stAt B.st v = 4) :
    ∀ u v, (u, v) ∈ ks ↔ 0 ≤ u ∧ ∃ b C, (m.jobs.set n a')[u.toNat]? = some b ∧ b.B = some C ∧ stAt C.st v = 4 := by
  intro u v
  rw [h.dn u v]
  have hl := (List.getElem?_eq_some_iff.1 ha).1
  by_cases e : n = u.toNat
  · rw [List.getElem?_set, if_pos e, if_pos hl]
    constructor
    · rintro ⟨h0, b, C, h1, h2, h3⟩
      rw [← e, ha] at h1; obtain rfl := Option.some.inj h1
      rw [hB] at h2; obtain rfl := Option.some.inj h2
      exact ⟨h0, a', B', rfl, hB', (h4 v).2 h3⟩
    · rintro ⟨h0, b, C, h1, h2, h3⟩
      obtain rfl := Option.some.inj h1
      rw [hB'] at h2; obtain rfl := Option.some.inj h2
      exact ⟨h0, a, B, by rw [← e]; exact ha, hB, (h4 v).1 h3⟩
  · rw [List.getElem?_set, if_neg e]
theorem BI.jt_set {off : List TL} {m : MS} {es : List Evt} {ks : List (Int × Int)} (h : BI off m es ks) {n : Nat} {a a' : JA} {B B' : BS} (ha : m.jobs[n]? = some a) (hB : a.B = some B) (hB' : a'.B = some B') (hT : a'.T = a.T) (hd : B'.deps = B.deps) :
    ∀ (k : Nat) b C, (m.jobs.set n a')[k]? = some b → b.B = some C → ∃ T, off[k]? = some T ∧ b.T = T.l.l ∧ C.deps = T.l.l.map (·.deps.l) := by
  intro k b C hb hC
  rcases set_at' hb with ⟨e, rfl⟩ | ⟨e, hb2⟩
  · subst e
    rw [hB'] at hC; obtain rfl := Option.some.inj hC
    obtain ⟨T, h1, h2, h3⟩ := h.jt _ a B ha hB
    exact ⟨T, h1, hT.trans h2, hd.trans h3⟩
  · exact h.jt k b C hb2 hC
theorem nst_set {l : List JA} {n : Nat} {a a' : JA} (ha : l[n]? = some a) : nstN (l.set n a') + nst1 a = nstN l + nst1 a' := sum_set ha
theorem hold_set {l : List Wk} {n : Nat} {a a' : Wk} (ha : l[n]? = some a) : holdN (l.set n a') + hold1 a = holdN l + hold1 a' := sum_set ha
theorem count_kind {s : Stt} {e : Evt} : count1 s e = (if e.kind = 3 ∨ e.kind = 4 then { s with starts := s.starts + 1 } else if e.kind = 5 then { s with starts := s.starts + 1, steals := s.steals + 1 }
  else if e.kind = 8 then { s with commits := s.commits + 1 } else if e.kind = 9 then { s with drops := s.drops + 1 }
  else if e.kind = 10 then { s with crashes := s.crashes + 1 } else if e.kind = 12 then { s with helps := s.helps + 1 } else s) := rfl
/-- Events that change no counts but 'helps', and leave the boards alone. -/
theorem bi_quiet {off : List TL} {m m' : MS} {es : List Evt} {e : Evt} {ks : List (Int × Int)} (h : BI off m es ks) (hk : ¬ (e.kind = 3 ∨ e.kind = 4 ∨ e.kind = 5 ∨ e.kind = 8 ∨ e.kind = 9 ∨ e.kind = 10)) (hj : m'.jobs = m.jobs) (hw : holdN m'.ws = holdN m.ws) : BI off m' (es ++ [e]) (nextK e ks) := by
  have hc : (countE (es ++ [e])).commits = (countE es).commits ∧ (countE (es ++ [e])).drops = (countE es).drops ∧ (countE (es ++ [e])).starts = (countE es).starts ∧ (countE (es ++ [e])).crashes = (countE es).crashes := by
    rw [count_snoc]; unfold count1
    rw [if_neg (by omega), if_neg (by omega), if_neg (by omega), if_neg (by omega), if_neg (by omega)]
    split <;> exact ⟨rfl, rfl, rfl, rfl⟩
  have hn : nextK e ks = ks := by unfold nextK; rw [if_neg (by omega)]
  rw [hn]
  exact ⟨by rw [hj]; exact h.jt, by rw [hj]; exact h.dn, by rw [hc.1]; exact h.cm, by rw [hc.1, hc.2.1, hc.2.2.1, hw]; exact h.st, by rw [hc.2.2.1, hc.2.2.2, hj]; exact h.tot⟩
end Go.Proofs.YtimkhljglpookaaGreat
