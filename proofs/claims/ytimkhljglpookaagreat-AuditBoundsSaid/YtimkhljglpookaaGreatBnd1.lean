import Derived.Test.YtimkhljglpookaaGreatBnd0
namespace Go.Proofs.YtimkhljglpookaaGreat
open Go Go.E
set_option linter.unusedVariables false
set_option linter.unusedSimpArgs false
set_option linter.unnecessarySimpa false
set_option maxRecDepth 100000
set_option maxHeartbeats 2000000
variable {W w : World} {H : Chunk} {F : List Chunk}

/-! ### accepted beginnings -/
def runC (off : List TL) : MS → List Evt → Nat → Option MS
  | m, _, 0 => some m
  | _, [], _ + 1 => none
  | m, e :: l, k + 1 => match eventM off m e l with
    | none => none
    | some m' => runC off m' l k
theorem runC_all {off : List TL} : ∀ {l : List Evt} {m m' : MS}, stepAll off m l = some m' → runC off m l l.length = some m'
  | [], m, m', h => h
  | e :: l, m, m', h => by
    simp only [stepAll] at h
    cases he : eventM off m e l with
    | none => rw [he] at h; cases h
    | some m1 => rw [he] at h; simp only [List.length_cons, runC, he]; exact runC_all h
theorem runC_succ {off : List TL} : ∀ {l : List Evt} {m m' : MS} {k : Nat} {e : Evt}, runC off m l k = some m' → l[k]? = some e → runC off m l (k + 1) = eventM off m' e (l.drop (k + 1))
  | [], _, _, _, _, _, h => by cases h
  | x :: l, m, m', 0, e, h, hk => by
    obtain rfl : m = m' := by simpa [runC] using h
    obtain rfl : x = e := by simpa using hk
    simp only [runC, List.drop_succ_cons, List.drop_zero]
    cases eventM off m x l <;> rfl
  | x :: l, m, m', k + 1, e, h, hk => by
    simp only [runC] at h
    cases he : eventM off m x l with
    | none => rw [he] at h; cases h
    | some m1 =>
      rw [he] at h
      have ih := runC_succ (l := l) (k := k) h (by simpa using hk)
      rw [List.drop_succ_cons, ← ih]
      show (match eventM off m x l with | none => none | some m' => runC off m' l (k + 1)) = _
      rw [he]
theorem runC_le {off : List TL} : ∀ {l : List Evt} {m mN : MS} {k : Nat}, stepAll off m l = some mN → k ≤ l.length → ∃ m', runC off m l k = some m'
  | l, m, _, 0, _, _ => ⟨m, by cases l <;> rfl⟩
  | [], _, _, k + 1, _, hk => by simp at hk
  | e :: l, m, mN, k + 1, h, hk => by
    simp only [stepAll] at h
    cases he : eventM off m e l with
    | none => rw [he] at h; cases h
    | some m1 =>
      rw [he] at h
      obtain ⟨m', h1⟩ := runC_le (k := k) h (by simpa using hk)
      exact ⟨m', by simp only [runC, he]; exact h1⟩
theorem run_stop {off : List TL} : ∀ {x : List Evt} {m : MS} {i : Nat}, ∃ k : Nat, (runM off m x i).1 = ((i + k : Nat) : Int) ∧ k ≤ x.length ∧ ∃ m', runC off m x k = some m'
  | [], m, i => ⟨0, rfl, Nat.le_refl _, m, rfl⟩
  | e :: x, m, i => by
    cases he : eventM off m e x with
    | none => exact ⟨0, by simp only [runM, he]; rfl, Nat.zero_le _, m, rfl⟩
    | some m1 =>
      obtain ⟨k, h1, h2, m', h3⟩ := run_stop (off := off) (x := x) (m := m1) (i := i + 1)
      exact ⟨k + 1, by simp only [runM, he, h1]; omega, by simpa using h2, m', by simp only [runC, he]; exact h3⟩
theorem stop_take {off : List TL} : ∀ {x : List Evt} {m m' : MS} {k : Nat}, runC off m x k = some m' → k ≤ x.length → (∀ e, k ≠ 0 → x[k - 1]? = some e → e.kind ≠ 12) → stepAll off m (x.take k) = some m'
  | x, m, m', 0, h, _, _ => by cases x <;> simpa [runC, stepAll] using h
  | [], _, _, k + 1, _, hk, _ => by simp at hk
  | e :: x, m, m', k + 1, h, hk, hl => by
    simp only [runC] at h
    cases he : eventM off m e x with
    | none => rw [he] at h; cases h
    | some m1 =>
      rw [he] at h
      have h1 : eventM off m e (x.take k) = some m1 := by
        rw [← he]
        apply event_head
        cases k with
        | zero => exact .inl (hl e (by omega) rfl)
        | succ k =>
          right
          cases x with
          | nil => rfl
          | cons y x => rfl
      have ih := stop_take (x := x) (k := k) h (by simpa using hk) (fun e' h0 he' => hl e' (by omega) (by
        rw [Nat.add_sub_cancel]
        obtain ⟨q, rfl⟩ : ∃ q, k = q + 1 := ⟨k - 1, by omega⟩
        simpa using he'))
      simp only [List.take_succ_cons, stepAll, h1]; exact ih
theorem help_next {off : List TL} : ∀ {x : List Evt} {m m' : MS} {k j : Nat} {e : Evt}, runC off m x k = some m' → j < k → x[j]? = some e → e.kind = 12 → ∃ e', x[j + 1]? = some e' ∧ (e'.kind = 6 ∨ e'.kind = 7 ∨ e'.kind = 8)
  | [], _, _, _, _, _, _, _, h, _ => by cases h
  | x :: l, m, m', 0, j, e, _, hj, _, _ => by omega
  | x :: l, m, m', k + 1, 0, e, h, _, hx, hk => by
    obtain rfl : x = e := by simpa using hx
    simp only [runC] at h
    apply Classical.byContradiction
    intro hn
    have h0 : eventM off m x l = none := help_no hk (fun n hn2 hk2 => hn ⟨n, by rw [List.head?_eq_getElem?] at hn2; simpa using hn2, hk2⟩)
    rw [h0] at h; cases h
  | x :: l, m, m', k + 1, j + 1, e, h, hj, hx, hk => by
    simp only [runC] at h
    cases he : eventM off m x l with
    | none => rw [he] at h; cases h
    | some m1 =>
      rw [he] at h
      obtain ⟨e', h1, h2⟩ := help_next (x := l) (k := k) (j := j) h (by omega) (by simpa using hx) hk
      exact ⟨e', by simpa using h1, h2⟩
theorem runC_part {off : List TL} : ∀ {x : List Evt} {m m' : MS} {k n : Nat}, runC off m x k = some m' → n ≤ k → ∃ m1, runC off m x n = some m1
  | x, m, _, _, 0, _, _ => ⟨m, by cases x <;> rfl⟩
  | [], _, _, 0, n + 1, _, h => by omega
  | [], _, _, k + 1, n + 1, h, _ => by cases h
  | y :: x, m, m', 0, n + 1, _, h => by omega
  | y :: x, m, m', k + 1, n + 1, h, hn => by
    simp only [runC] at h ⊢
    cases he : eventM off m y x with
    | none => rw [he] at h; cases h
    | some m2 => rw [he] at h; exact runC_part h (by omega)
/-- The number that Check answers, and the beginning that is accepted. -/
theorem bnd_cut {c : Cfg} {off : List TL} {x : List Evt} (hv : validCfg c = 0) : ∃ k : Nat, (checkM off c x).1 = ((k : Nat) : Int) ∧ k ≤ x.length ∧
    (∀ n : Nat, (n = k ∧ (∀ e, k ≠ 0 → x[k - 1]? = some e → e.kind ≠ 12) ∨ k = n + 1 ∧ ∃ e, x[k - 1]? = some e ∧ e.kind = 12) → ∃ m, stepAll off (startM c) (x.take n) = some m) := by
  obtain ⟨k, h1, h2, m', h3⟩ := run_stop (off := off) (x := x) (m := startM c) (i := 0)
  refine ⟨k, by unfold checkM; rw [if_pos hv, h1]; simp, h2, ?_⟩
  rintro n (⟨rfl, h4⟩ | ⟨rfl, e, h4, h5⟩)
  · exact ⟨m', stop_take h3 h2 h4⟩
  · have hn : n ≤ x.length := by omega
    have h6 : ∃ m1, runC off (startM c) x n = some m1 := runC_part h3 (by omega)
    obtain ⟨m1, h7⟩ := h6
    refine ⟨m1, stop_take h7 hn ?_⟩
    intro e2 h0 he2 hk2
    obtain ⟨e3, h8, h9⟩ := help_next h3 (j := n - 1) (by omega) he2 hk2
    rw [show n - 1 + 1 = n by omega] at h8
    rw [Nat.add_sub_cancel, h8] at h4
    obtain rfl := Option.some.inj h4
    omega
end Go.Proofs.YtimkhljglpookaaGreat
