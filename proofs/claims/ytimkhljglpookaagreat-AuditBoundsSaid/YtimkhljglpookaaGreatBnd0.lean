import Derived.Test.YtimkhljglpookaaGreatFrg
namespace Go.Proofs.YtimkhljglpookaaGreat
open Go Go.E
set_option linter.unusedVariables false
set_option linter.unusedSimpArgs false
set_option linter.unnecessarySimpa false
set_option maxRecDepth 100000
set_option maxHeartbeats 2000000
variable {W w : World} {H : Chunk} {F : List Chunk}
def stepAll (off : List TL) : MS → List Evt → Option MS
  | m, [] => some m
  | m, e :: l => match eventM off m e l with
    | none => none
    | some m' => stepAll off m' l
theorem event_head {off : List TL} {m : MS} {e : Evt} {l l' : List Evt} (h : e.kind ≠ 12 ∨ l.head? = l'.head?) : eventM off m e l = eventM off m e l' := by
  unfold eventM
  split
  · by_cases h12 : e.kind = 12
    · have h2 : l.head? = l'.head? := h.resolve_left (fun k => k h12)
      rw [evK_12 h12, evK_12 h12]
      have h3 : helpM m.jobs m.ws m.rd (m.ws.getD e.worker.toNat default) e.from_ l = helpM m.jobs m.ws m.rd (m.ws.getD e.worker.toNat default) e.from_ l' := by unfold helpM; rw [h2]
      rw [h3]
    by_cases h1 : e.kind = 1
    · rw [evK_1 h1, evK_1 h1]
    by_cases h2 : e.kind = 2
    · rw [evK_2 h2, evK_2 h2]
    by_cases h3 : e.kind = 3 ∨ e.kind = 4
    · rw [evK_3 h3, evK_3 h3]
    by_cases h5 : e.kind = 5
    · rw [evK_5 h5, evK_5 h5]
    by_cases h6 : e.kind = 6 ∨ e.kind = 7 ∨ e.kind = 8
    · rw [evK_6 h6, evK_6 h6]
    by_cases h9 : e.kind = 9
    · rw [evK_9 h9, evK_9 h9]
    by_cases h10 : e.kind = 10
    · rw [evK_10 h10, evK_10 h10]
    by_cases h11 : e.kind = 11
    · rw [evK_11 h11, evK_11 h11]
    by_cases h13 : e.kind = 13
    · rw [evK_13 h13, evK_13 h13]
    rw [evK_no (by omega), evK_no (by omega)]
  · rfl
theorem help_no {off : List TL} {m : MS} {e : Evt} {l : List Evt} (h : e.kind = 12) (hl : ∀ n, l.head? = some n → ¬ (n.kind = 6 ∨ n.kind = 7 ∨ n.kind = 8)) : eventM off m e l = none := by
  unfold eventM
  split
  · rw [evK_12 h, if_neg]
    intro k
    have k := k.2
    unfold helpM at k
    cases hh : l.head? with
    | none => rw [hh] at k; simp at k
    | some n => rw [hh] at k; simp at k; exact hl n hh (by omega)
  · rfl
theorem stepAll_app {off : List TL} : ∀ {l : List Evt} {m m' : MS} {l2 : List Evt}, stepAll off m l = some m' → stepAll off m (l ++ l2) = stepAll off m' l2
  | [], m, m', l2, h => by obtain rfl := Option.some.inj h; rfl
  | e :: l, m, m', l2, h => by
    simp only [stepAll] at h
    cases he : eventM off m e l with
    | none => rw [he] at h; cases h
    | some m1 =>
      rw [he] at h
      have h1 : eventM off m e (l ++ l2) = some m1 := by
        rw [← he]
        apply event_head
        cases l with
        | nil =>
          left; intro k
          rw [help_no k (fun n hn => by cases hn)] at he; cases he
        | cons y l => right; rfl
      show (match eventM off m e (l ++ l2) with | none => none | some m' => stepAll off m' (l ++ l2)) = _
      rw [h1]; exact stepAll_app h
theorem runM_all {off : List TL} : ∀ {l : List Evt} {m m' : MS} {i : Nat}, stepAll off m l = some m' → runM off m l i = (((i + l.length : Nat) : Int), true)
  | [], m, m', i, _ => rfl
  | e :: l, m, m', i, h => by
    simp only [stepAll] at h
    cases he : eventM off m e l with
    | none => rw [he] at h; cases h
    | some m1 =>
      rw [he] at h
      simp only [runM, he]
      rw [runM_all h, List.length_cons]
      congr 2; omega
theorem set_at' {α : Type} {l : List α} {k y : Nat} {x v : α} (h : (l.set k x)[y]? = some v) : (k = y ∧ v = x) ∨ (k ≠ y ∧ l[y]? = some v) := by
  rw [List.getElem?_set] at h
  by_cases e : k = y
  · rw [if_pos e] at h
    split at h
    · exact .inl ⟨e, (Option.some.inj h).symm⟩
    · cases h
  · rw [if_neg e] at h; exact .inr ⟨e, h⟩
theorem stAt_in {s : List Int} {x y : Int} (h : stAt s x = y) (hy : y ≠ 0) : 0 ≤ x ∧ x < ((s.length : Nat) : Int) := by
  unfold stAt at h
  split at h
  · rename_i h0
    refine ⟨h0, ?_⟩
    apply Classical.byContradiction
    intro hn
    have : s.getD x.toNat 0 = 0 := by rw [List.getD_eq_getElem?_getD, List.getElem?_eq_none (by omega)]; rfl
    omega
  · omega
theorem mark_at {s : List Int} {D : List (List Int)} {t : Int} (hl : s.length = D.length) : stAt (markB s D) t = if 0 ≤ t ∧ t < ((D.length : Nat) : Int) ∧ condB s D t.toNat = true then 2 else stAt s t := by
  by_cases h0 : 0 ≤ t
  · rw [stAt_nat _ h0, stAt_nat _ h0]
    by_cases h1 : t.toNat < D.length
    · unfold markB
      rw [getD_range h1]
      by_cases h2 : condB s D t.toNat = true
      · rw [if_pos h2, if_pos ⟨h0, by omega, h2⟩]
      · rw [if_neg h2, if_neg (fun h => h2 h.2.2)]
    · rw [if_neg (fun h => h1 (by omega))]
      have h3 : (markB s D).length = D.length := by simp [markB]
      rw [List.getD_eq_getElem?_getD, List.getD_eq_getElem?_getD, List.getElem?_eq_none (by omega), List.getElem?_eq_none (by omega)]
  · rw [if_neg (fun h => h0 h.1)]; unfold stAt; rw [if_neg h0, if_neg h0]
theorem cond_one {s : List Int} {D : List (List Int)} {t : Int} (h0 : 0 ≤ t) (h : condB s D t.toNat = true) : stAt s t = 1 := by
  unfold condB at h
  rw [stAt_nat _ h0]
  exact of_decide_eq_true ((Bool.and_eq_true _ _).mp h).1
theorem start_eq {B : BS} {t : Int} (hl : B.st.length = B.deps.length) (h : stAt B.st t = 2) : startB B t = (⟨B.deps, B.st.set t.toNat 3, B.att⟩, B.att.getD t.toNat 0, 0) := by
  have h1 := stAt_in h (by decide)
  unfold startB; rw [if_pos (show inB B t from ⟨h1.1, by rw [← hl]; exact h1.2⟩), if_pos h]
theorem stAt_other {s : List Int} {t x y : Int} (ht : 0 ≤ t) (h : x ≠ t) : stAt (s.set t.toNat y) x = stAt s x := by
  rw [stAt_set, if_neg (fun k => h (by omega))]
theorem stAt_self {s : List Int} {t y : Int} (ht : 0 ≤ t ∧ t < ((s.length : Nat) : Int)) : stAt (s.set t.toNat y) t = y := by
  rw [stAt_set, if_pos ⟨by omega, by omega⟩]
theorem com_eq {B : BS} {i a : Int} (h : heldC B i a = 0) : comB B i a = (⟨B.deps, markB (B.st.set i.toNat 4) B.deps, B.att⟩, rdyB (B.st.set i.toNat 4) B.deps) := by unfold comB; rw [if_pos h]
theorem ret_eq {B : BS} {i a : Int} (h : heldC B i a = 0) : retB B i a = ⟨B.deps, B.st.set i.toNat 2, B.att.set i.toNat (a + 1)⟩ := by unfold retB; rw [if_pos h]
theorem tr_len {c : Cfg} {K : Nat} {js : List (List Task)} {es : List Evt} {F : FS} (h : Tr c K js es F) : ∀ l ∈ js, l.length ≤ 5 := by
  induction h with
  | nil => intro l hl; cases hl
  | add l bd _ _ _ _ h5 _ ih =>
    intro x hx
    rcases List.mem_append.1 hx with h | h
    · exact ih x h
    · rw [List.mem_singleton.1 h]; exact h5
  | cancel _ _ ih => exact ih
  | crash _ _ ih => exact ih
  | restart _ _ ih => exact ih
  | step _ _ _ ih => exact ih
theorem tr_es {c : Cfg} {K : Nat} {js : List (List Task)} {es : List Evt} {F : FS} (h : Tr c K js es F) : es.length ≤ 2 * K := by
  induction h with
  | nil => exact Nat.le_refl _
  | add l bd _ _ _ _ _ _ ih => rw [List.length_append, List.length_singleton]; omega
  | @cancel K js es F k _ ih => have := cancel_len (F := F) (k := k); rw [List.length_append]; omega
  | @crash K js es F x _ ih => have := crash_len (F := F) (x := x); rw [List.length_append]; omega
  | @restart K js es F x _ ih => have := restart_len (F := F) (x := x); rw [List.length_append]; omega
  | @step K js es F x y _ ih => have := step_len (F := F) (x := x) (c := y); rw [List.length_append]; omega
end Go.Proofs.YtimkhljglpookaaGreat
