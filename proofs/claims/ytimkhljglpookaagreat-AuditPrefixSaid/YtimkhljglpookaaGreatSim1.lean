import Derived.Test.YtimkhljglpookaaGreatAu4
namespace Go.Proofs.YtimkhljglpookaaGreat
open Go Go.E
set_option linter.unusedVariables false
set_option linter.unusedSimpArgs false
set_option linter.unnecessarySimpa false
set_option maxRecDepth 100000
set_option maxHeartbeats 2000000
variable {W w : World} {H : Chunk} {F : List Chunk}

/-! ### runs of the auditor, and their beginnings -/
def stepAll (off : List TL) : MS → List Evt → Option MS
  | m, [] => some m
  | m, e :: l => match eventM off m e l with
    | none => none
    | some m' => stepAll off m' l
theorem event_head {off : List TL} {m : MS} {e : Evt} {l l' : List Evt} (h : e.kind ≠ 12 ∨ l.head? = l'.head?) : eventM off m e l = eventM off m e l' := by
  unfold eventM
  split
  · by_cases h12 : e.kind = 12
    · have h2 : l.head? = l'.head? := h.resolve_left (fun k => k h12)
      rw [evK_12 h12, evK_12 h12]
      have h3 : helpM m.jobs m.ws m.rd (m.ws.getD e.worker.toNat default) e.from_ l = helpM m.jobs m.ws m.rd (m.ws.getD e.worker.toNat default) e.from_ l' := by unfold helpM; rw [h2]
      rw [h3]
    by_cases h1 : e.kind = 1
    · rw [evK_1 h1, evK_1 h1]
    by_cases h2 : e.kind = 2
    · rw [evK_2 h2, evK_2 h2]
    by_cases h3 : e.kind = 3 ∨ e.kind = 4
    · rw [evK_3 h3, evK_3 h3]
    by_cases h5 : e.kind = 5
    · rw [evK_5 h5, evK_5 h5]
    by_cases h6 : e.kind = 6 ∨ e.kind = 7 ∨ e.kind = 8
    · rw [evK_6 h6, evK_6 h6]
    by_cases h9 : e.kind = 9
    · rw [evK_9 h9, evK_9 h9]
    by_cases h10 : e.kind = 10
    · rw [evK_10 h10, evK_10 h10]
    by_cases h11 : e.kind = 11
    · rw [evK_11 h11, evK_11 h11]
    by_cases h13 : e.kind = 13
    · rw [evK_13 h13, evK_13 h13]
    rw [evK_no (by omega), evK_no (by omega)]
  · rfl
theorem help_no {off : List TL} {m : MS} {e : Evt} {l : List Evt} (h : e.kind = 12) (hl : ∀ n, l.head? = some n → ¬ (n.kind = 6 ∨ n.kind = 7 ∨ n.kind = 8)) : eventM off m e l = none := by
  unfold eventM
  split
  · rw [evK_12 h, if_neg]
    intro k
    have k := k.2
    unfold helpM at k
    cases hh : l.head? with
    | none => rw [hh] at k; simp at k
    | some n => rw [hh] at k; simp at k; exact hl n hh (by omega)
  · rfl
theorem stepAll_app {off : List TL} : ∀ {l : List Evt} {m m' : MS} {l2 : List Evt}, stepAll off m l = some m' → stepAll off m (l ++ l2) = stepAll off m' l2
  | [], m, m', l2, h => by obtain rfl := Option.some.inj h; rfl
  | e :: l, m, m', l2, h => by
    simp only [stepAll] at h
    cases he : eventM off m e l with
    | none => rw [he] at h; cases h
    | some m1 =>
      rw [he] at h
      have h1 : eventM off m e (l ++ l2) = some m1 := by
        rw [← he]
        apply event_head
        cases l with
        | nil =>
          left; intro k
          rw [help_no k (fun n hn => by cases hn)] at he; cases he
        | cons y l => right; rfl
      show (match eventM off m e (l ++ l2) with | none => none | some m' => stepAll off m' (l ++ l2)) = _
      rw [h1]; exact stepAll_app h
theorem runM_all {off : List TL} : ∀ {l : List Evt} {m m' : MS} {i : Nat}, stepAll off m l = some m' → runM off m l i = (((i + l.length : Nat) : Int), true)
  | [], m, m', i, _ => rfl
  | e :: l, m, m', i, h => by
    simp only [stepAll] at h
    cases he : eventM off m e l with
    | none => rw [he] at h; cases h
    | some m1 =>
      rw [he] at h
      simp only [runM, he]
      rw [runM_all h, List.length_cons]
      congr 2; omega
theorem runM_pre {off : List TL} : ∀ {l : List Evt} {m m' : MS} {n i : Nat}, stepAll off m l = some m' → n ≤ l.length →
    runM off m (l.take n) i = (((i + n : Nat) : Int), true) ∨ (∃ k e, n = k + 1 ∧ l[k]? = some e ∧ e.kind = 12 ∧ runM off m (l.take n) i = (((i + k : Nat) : Int), false))
  | l, m, m', 0, i, _, _ => .inl (by simp [runM])
  | [], m, m', n + 1, i, _, hn => by simp at hn
  | e :: l, m, m', n + 1, i, h, hn => by
    simp only [stepAll] at h
    cases he : eventM off m e l with
    | none => rw [he] at h; cases h
    | some m1 =>
      rw [he] at h
      have hn' : n ≤ l.length := by simpa using hn
      by_cases hk : e.kind = 12 ∧ n = 0
      · obtain ⟨hk, rfl⟩ := hk
        refine .inr ⟨0, e, rfl, rfl, hk, ?_⟩
        have h0 : eventM off m e [] = none := help_no hk (fun n hn => by cases hn)
        simp only [List.take_succ_cons, List.take_zero, runM, h0]; rfl
      · have h1 : eventM off m e (l.take n) = some m1 := by
          rw [← he]
          apply event_head
          by_cases h12 : e.kind = 12
          · right
            have : n ≠ 0 := fun h => hk ⟨h12, h⟩
            obtain ⟨q, rfl⟩ : ∃ q, n = q + 1 := ⟨n - 1, by omega⟩
            cases l with
            | nil => rfl
            | cons y l => rfl
          · exact .inl h12
        rcases runM_pre (n := n) (i := i + 1) h hn' with h2 | ⟨k, e', rfl, h3, h4, h5⟩
        · left; simp only [List.take_succ_cons, runM, h1, h2]; congr 2; omega
        · right
          refine ⟨k + 1, e', rfl, by simpa using h3, h4, ?_⟩
          simp only [List.take_succ_cons, runM, h1, h5]; congr 2; omega
theorem runM_ext {off : List TL} {l : List Evt} (hl : ∀ n, l.head? = some n → ¬ (n.kind = 6 ∨ n.kind = 7 ∨ n.kind = 8)) : ∀ {x : List Evt} {m : MS} {i : Nat} {p : Int}, runM off m x i = (p, false) → runM off m (x ++ l) i = (p, false)
  | [], m, i, p, h => by cases h
  | e :: x, m, i, p, h => by
    simp only [runM] at h
    cases he : eventM off m e x with
    | none =>
      rw [he] at h
      have h1 : eventM off m e (x ++ l) = none := by
        cases x with
        | nil =>
          by_cases h12 : e.kind = 12
          · exact help_no h12 hl
          · rw [← he]; exact event_head (.inl h12)
        | cons y x => rw [← he]; exact event_head (.inr rfl)
      simp only [List.cons_append, runM, h1]; exact h
    | some m1 =>
      rw [he] at h
      have h1 : eventM off m e (x ++ l) = some m1 := by
        cases x with
        | nil =>
          by_cases h12 : e.kind = 12
          · rw [help_no h12 (fun n hn => by cases hn)] at he; cases he
          · rw [← he]; exact event_head (.inl h12)
        | cons y x => rw [← he]; exact event_head (.inr rfl)
      simp only [List.cons_append, runM, h1]; exact runM_ext hl h
theorem head_ok {off : List TL} {c : Cfg} {l : List Evt} {m : MS} (h : stepAll off (startM c) l = some m) : ∀ n, l.head? = some n → ¬ (n.kind = 6 ∨ n.kind = 7 ∨ n.kind = 8) := by
  intro n hn hk
  cases l with
  | nil => cases hn
  | cons e l =>
    obtain rfl := Option.some.inj hn
    simp only [stepAll] at h
    have h0 : eventM off (startM c) e l = none := by
      unfold eventM
      split
      · rw [evK_6 hk, if_neg]
        intro hb
        unfold busyM runsM at hb
        simp [startM] at hb
        omega
      · rfl
    rw [h0] at h; cases h
/-! ### what is queued -/
theorem len_le {L M : List Ref} : (∀ r, L.count r ≤ M.count r) → L.length ≤ M.length := by
  induction L generalizing M with
  | nil => intro _; exact Nat.zero_le _
  | cons x L ih =>
    intro h
    have hx : x ∈ M := by
      have := h x
      rw [List.count_cons_self] at this
      exact List.count_pos_iff.1 (by omega)
    have h1 := ih (M := M.erase x) (fun r => by
      have h2 := h r
      rw [List.count_cons] at h2
      rw [List.count_erase]
      split at h2 <;> split <;> simp_all <;> omega)
    rw [List.length_erase_of_mem hx] at h1
    have h3 : 0 < M.length := List.length_pos_of_mem hx
    simp only [List.length_cons]; omega
def cD (l : List DS) (r : Ref) : Nat := (l.map fun d => d.l.count r).sum
def cQ (bs : List (List Ref)) (r : Ref) : Nat := (bs.map fun l => l.count r).sum
def eq1 (a b : Ref) : Nat := if a = b then 1 else 0
theorem cD_set : ∀ {l : List DS} {k : Nat} {d d' : DS} {r : Ref}, l[k]? = some d → cD (l.set k d') r + d.l.count r = cD l r + d'.l.count r
  | [], _, _, _, _, h => by cases h
  | x :: l, 0, d, d', r, h => by
    obtain rfl : x = d := by simpa using h
    simp only [cD, List.set_cons_zero, List.map_cons, List.sum_cons]; omega
  | x :: l, k + 1, d, d', r, h => by
    have ih := cD_set (l := l) (k := k) (d := d) (d' := d') (r := r) (by simpa using h)
    simp only [cD, List.set_cons_succ, List.map_cons, List.sum_cons] at ih ⊢; omega
theorem count1_ {a r : Ref} : List.count r [a] = eq1 a r := by
  unfold eq1
  rw [List.count_cons, List.count_nil]
  by_cases h : a = r <;> simp [h]
theorem cQ_push : ∀ {bs : List (List Ref)} {b : Nat} {a r : Ref}, b < bs.length → cQ (pushB bs b a) r = cQ bs r + eq1 a r
  | [], _, _, _, h => by simp at h
  | l :: t, 0, a, r, _ => by simp only [pushB, cQ, List.map_cons, List.sum_cons, List.count_append, count1_]; omega
  | l :: t, b + 1, a, r, h => by
    have ih := cQ_push (bs := t) (b := b) (a := a) (r := r) (by simpa using h)
    simp only [pushB, cQ, List.map_cons, List.sum_cons] at ih ⊢; omega
theorem cQ_pop : ∀ {bs bs' : List (List Ref)} {a r : Ref}, popB bs = some (a, bs') → cQ bs r = cQ bs' r + eq1 a r
  | [], _, _, _, h => by cases h
  | [] :: t, bs', a, r, h => by
    unfold popB at h
    cases hp : popB t with
    | none => rw [hp] at h; cases h
    | some q =>
      rw [hp] at h; obtain ⟨rfl, rfl⟩ := Prod.mk.inj (Option.some.inj h)
      have ih := cQ_pop (bs := t) (bs' := q.2) (a := q.1) (r := r) hp
      simp only [cQ, List.map_cons, List.sum_cons, List.count_nil] at ih ⊢; omega
  | (x :: l) :: t, bs', a, r, h => by
    unfold popB at h; obtain ⟨rfl, rfl⟩ := Prod.mk.inj (Option.some.inj h)
    simp only [cQ, List.map_cons, List.sum_cons, List.count_cons, eq1]
    by_cases h : x = r <;> simp [h] <;> omega
theorem cQ_none : ∀ {bs : List (List Ref)} {r : Ref}, popB bs = none → cQ bs r = 0
  | [], _, _ => rfl
  | [] :: t, r, h => by
    unfold popB at h
    cases hp : popB t with
    | none => have := cQ_none (r := r) hp; simp only [cQ, List.map_cons, List.sum_cons, List.count_nil] at this ⊢; omega
    | some q => rw [hp] at h; cases h
  | (x :: l) :: t, r, h => by cases h
theorem push_len : ∀ {bs : List (List Ref)} {b : Nat} {a : Ref}, (pushB bs b a).length = bs.length
  | [], _, _ => rfl
  | _ :: _, 0, _ => rfl
  | l :: t, b + 1, a => by simp only [pushB, List.length_cons, push_len (bs := t)]
theorem push_tot : ∀ {bs : List (List Ref)} {b : Nat} {a : Ref}, b < bs.length → totB (pushB bs b a) = totB bs + 1
  | [], _, _, h => by simp at h
  | l :: t, 0, a, _ => by simp only [totB, pushB, List.map_cons, List.sum_cons, List.length_append, List.length_singleton]; omega
  | l :: t, b + 1, a, h => by
    have ih := push_tot (bs := t) (b := b) (a := a) (by simpa using h)
    simp only [totB, pushB, List.map_cons, List.sum_cons] at ih ⊢; omega
theorem pop_len : ∀ {bs bs' : List (List Ref)} {a : Ref}, popB bs = some (a, bs') → bs'.length = bs.length
  | [], _, _, h => by cases h
  | [] :: t, bs', a, h => by
    unfold popB at h
    cases hp : popB t with
    | none => rw [hp] at h; cases h
    | some q => rw [hp] at h; obtain ⟨rfl, rfl⟩ := Prod.mk.inj (Option.some.inj h); simp [pop_len (bs := t) (bs' := q.2) (a := q.1) hp]
  | (x :: l) :: t, bs', a, h => by unfold popB at h; obtain ⟨rfl, rfl⟩ := Prod.mk.inj (Option.some.inj h); rfl
theorem cQ_pushQ {q : QS} {a r : Ref} {b : Int} (hb : 0 ≤ b ∧ b < 4) (h4 : q.bs.length = 4) (hc : totB q.bs < q.cap) : cQ (pushQ q a b).bs r = cQ q.bs r + eq1 a r ∧ (pushQ q a b).bs.length = 4 ∧ (pushQ q a b).cap = q.cap ∧ totB (pushQ q a b).bs = totB q.bs + 1 := by
  have h : pushCQ q = 0 := by unfold pushCQ; rw [if_neg (by omega)]
  unfold pushQ; rw [if_pos h]
  exact ⟨cQ_push (by omega), by rw [push_len]; exact h4, rfl, push_tot (by omega)⟩
end Go.Proofs.YtimkhljglpookaaGreat
