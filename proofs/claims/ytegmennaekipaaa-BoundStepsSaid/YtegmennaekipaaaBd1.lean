import Derived.Test.YtegmennaekipaaaTape
namespace Go.Proofs.Ytegmennaekipaaa
open Go Go.E
set_option linter.unusedVariables false
set_option linter.unusedSimpArgs false
set_option linter.unnecessarySimpa false
set_option maxRecDepth 100000
set_option maxHeartbeats 2000000
variable {W w : World} {H : Chunk} {F : List Chunk}

/-- Strictly ascending, above 'last', below i. -/
def ascFrom (i : Int) : Int → List Int → Bool
  | _, [] => true
  | a, x :: l => (decide (a < x) && decide (x < i)) && ascFrom i x l
def lastD : Int → List Int → Int
  | a, [] => a
  | _, x :: l => lastD x l
theorem lastD_snoc (a : Int) (l : List Int) (x : Int) : lastD a (l ++ [x]) = x := by
  induction l generalizing a with
  | nil => rfl
  | cons y l ih => exact ih y
theorem asc_snoc (i a : Int) (l : List Int) (x : Int) : ascFrom i a (l ++ [x]) = (ascFrom i a l && (decide (lastD a l < x) && decide (x < i))) := by
  induction l generalizing a with
  | nil => simp [ascFrom, lastD]; try rfl
  | cons y l ih => simp only [List.cons_append, ascFrom, ih, lastD, Bool.and_assoc]; try rfl
theorem asc_take {i a x : Int} {l : List Int} {k : Nat} (hx : l[k]? = some x) : ascFrom i a (l.take (k + 1)) = (ascFrom i a (l.take k) && (decide (lastD a (l.take k) < x) && decide (x < i))) := by rw [take_succ_at hx, asc_snoc]
theorem asc_pre {i a : Int} : ∀ {l m : List Int}, ascFrom i a (l ++ m) = true → ascFrom i a l = true
  | [], _, _ => rfl
  | x :: l, m, h => by
    simp only [List.cons_append, ascFrom, Bool.and_eq_true] at h ⊢
    exact ⟨h.1, asc_pre h.2⟩
theorem asc_no {i a x : Int} {l : List Int} {k : Nat} (hx : l[k]? = some x) (h : ¬ (lastD a (l.take k) < x ∧ x < i)) : ascFrom i a l = false := by
  cases h2 : ascFrom i a l with
  | false => rfl
  | true =>
    rw [← List.take_append_drop (k + 1) l] at h2
    have h3 := asc_pre h2
    rw [asc_take hx] at h3
    simp only [Bool.and_eq_true, decide_eq_true_eq] at h3
    exact absurd h3.2 h
theorem lastD_at {a : Int} : ∀ {l : List Int} {k : Nat} {y : Int}, l[k]? = some y → lastD a (l.take (k + 1)) = y := by
  intro l k y h
  rw [take_succ_at h, lastD_snoc]
theorem lastD_pred {a y : Int} {l : List Int} {j : Nat} (h0 : 0 < j) (hy : l[(((j : Nat) : Int) - 1).toNat]? = some y) : lastD a (l.take j) = y := by
  have e : j = (((j : Nat) : Int) - 1).toNat + 1 := by omega
  rw [e]; exact lastD_at (by rw [← hy])
theorem asc_mem {i a : Int} : ∀ {l : List Int}, ascFrom i a l = true → ∀ x ∈ l, a < x ∧ x < i
  | [], _, x, h => by cases h
  | y :: l, h, x, hx => by
    simp only [ascFrom, Bool.and_eq_true, decide_eq_true_eq] at h
    rcases List.mem_cons.1 hx with rfl | hx
    · exact h.1
    · have := asc_mem h.2 x hx; omega
theorem asc_last {i a : Int} : ∀ {l : List Int}, ascFrom i a l = true → a ≤ lastD a l
  | [], _ => Int.le_refl _
  | y :: l, h => by
    simp only [ascFrom, Bool.and_eq_true, decide_eq_true_eq] at h
    have := asc_last h.2
    simp only [lastD]; omega
def taskOK (i : Int) (t : Task) : Bool := decide ((1 ≤ t.rows ∧ t.rows ≤ 128) ∧ 0 ≤ t.scratch) && ascFrom i (-1) t.deps.l
def tasksOK : Int → List Task → Bool
  | _, [] => true
  | i, t :: l => taskOK i t && tasksOK (i + 1) l
def validC (l : List Task) : Int := if l.length = 0 ∨ 4096 < l.length then 5 else if tasksOK 0 l then 0 else 1
theorem tasksOK_app (i : Int) (l m : List Task) : tasksOK i (l ++ m) = (tasksOK i l && tasksOK (i + l.length) m) := by
  induction l generalizing i with
  | nil => simp [tasksOK]
  | cons t l ih => simp only [List.cons_append, tasksOK, ih, List.length_cons, Bool.and_assoc]; congr 3; omega
theorem tasksOK_take {l : List Task} {i : Nat} {t : Task} (hx : l[i]? = some t) : tasksOK 0 (l.take (i + 1)) = (tasksOK 0 (l.take i) && taskOK i t) := by
  have hl : i < l.length := (List.getElem?_eq_some_iff.1 hx).1
  rw [take_succ_at hx, tasksOK_app, List.length_take, Nat.min_eq_left (by omega)]
  simp [tasksOK]
theorem tasksOK_no {l : List Task} {i : Nat} {t : Task} (hx : l[i]? = some t) (h : taskOK i t = false) : tasksOK 0 l = false := by
  cases h2 : tasksOK 0 l with
  | false => rfl
  | true =>
    rw [← List.take_append_drop (i + 1) l, tasksOK_app, Bool.and_eq_true, tasksOK_take hx] at h2
    simp [h] at h2
theorem validC_bad {l : List Task} (h1 : 0 < l.length) (h2 : l.length ≤ 4096) (h : tasksOK 0 l = false) : validC l = 1 := by unfold validC; rw [if_neg (by omega), h]; rfl
theorem validC_ok {l : List Task} (h1 : 0 < l.length) (h2 : l.length ≤ 4096) (h : tasksOK 0 l = true) : validC l = 0 := by unfold validC; rw [if_neg (by omega), if_pos h]
theorem validC_lim {l : List Task} (h : l.length = 0 ∨ 4096 < l.length) : validC l = 5 := by unfold validC; rw [if_pos h]
theorem validC_zero {l : List Task} (h : validC l = 0) : 0 < l.length ∧ l.length ≤ 4096 ∧ tasksOK 0 l = true := by
  unfold validC at h
  split at h
  · omega
  · split at h
    · rename_i h1 h2; exact ⟨by omega, by omega, h2⟩
    · omega
theorem b_valid (t : Task) (ix : Int) (ht : Task.Ok [H] t) (hS : Sat W w (H :: F)) :
    Ro Try.prog 76 #[.agg (encTask t).toArray, .int .i64 ix] (.bool (taskOK ix t)) W w (H :: F) := by
  have hl_t_deps := ht.deps.le; have hn_t_deps := ht.deps.len
  refine callsA 38 Try.func76 rfl ?_
  refine seqE <| regionE ?_
  refine sBox hS (.agg (encTask t).toArray) (encTask t).toArray ?_
  intro b_1 w_2 hS_3
  refine pu1 <| nilO <| thenK_n <| seqE <| regionE <| pu1 <| nilO <| thenK_n <| seqE <| seqE <| regionE <| pu1 ?_
  refine sL hS_3 0 6 (.slice t.deps.a t.deps.n t.deps.k) (Try.isAgg22 _) ?_
  refine pu2 <| nilO <| thenK_n <| blockE ?_
  refine loopA (γ := Nat × Int) (fun ⟨i, la⟩ => [(1, .int .i64 ix), (2, .pointer (some ⟨b_1, 0, none⟩)), (9, .slice t.deps.a t.deps.n t.deps.k), (10, .int .i64 ((t.deps.n : Nat) : Int)), (11, .int .i64 ((i : Nat) : Int)), (5, .int .i64 la)]) (fun ⟨i, la⟩ w => Sat W w ([(b_1, .cells (encTask t).toArray 31 (0, 0))] :: H :: F) ∧ i ≤ t.deps.n ∧ (ascFrom ix (-1) (t.deps.l.take i) = true) ∧ (la = lastD (-1) (t.deps.l.take i))) (fun ⟨i, la⟩ => t.deps.n - i) (0, (-1)) ⟨hS_3, by omega, by simp [ascFrom], rfl⟩ ?_
  rintro ⟨i, la⟩ ρ w_4 ⟨hS_5, hi, hA, hla⟩
  refine seqE <| regionE <| pu1 <| nilO <| thenK_n <| seqE ?_
  refine cD (((i : Nat) : Int) < ((t.deps.n : Nat) : Int)) (fun hc_6 => ?_) (fun hc_6 => ?_)
  rotate_left
  · refine exitE <| thenK_x <| thenK_x <| blockK_x <| thenK_n <| seqE <| regionE <| pu1 ?_
    refine sL hS_5 0 7 (.int .i64 t.rows) (Try.isAgg3 _) ?_
    refine pu2 ?_
    refine sD 28 (t.rows ≥ 1) (fun hc_16 => ?_) (fun hc_16 => ?_)
    rotate_left
    · refine pu10 <| nilO <| thenK_n <| retE <| retT [.bool false] <| ?_
      have hS_20 := (hS_5.dropAt 0 rfl)
      exact ⟨by unfold taskOK; rw [decide_eq_false (by omega)]; rfl, hS_20⟩
    refine pu1 <| gY ?_
    refine sL hS_5 0 7 (.int .i64 t.rows) (Try.isAgg3 _) ?_
    refine pu3 ?_
    refine sD 33 (t.rows ≤ 128) (fun hc_17 => ?_) (fun hc_17 => ?_)
    rotate_left
    · refine pu5 <| nilO <| thenK_n <| retE <| retT [.bool false] <| ?_
      have hS_19 := (hS_5.dropAt 0 rfl)
      exact ⟨by unfold taskOK; rw [decide_eq_false (by omega)]; rfl, hS_19⟩
    refine pu1 <| gY ?_
    refine sL hS_5 0 8 (.int .i64 t.scratch) (Try.isAgg3 _) ?_
    refine pu3 <| nilO <| thenK_n <| retE <| retT [.bool (decide ((t.scratch : Int) ≥ 0))] <| ?_
    have hS_18 := (hS_5.dropAt 0 rfl)
    exact ⟨by unfold taskOK; rw [← List.take_of_length_le (i := i) (l := t.deps.l) (by omega), hA, Bool.and_true]; exact congrArg (fun b => Ending.returned (.bool b)) (decide_eq_decide.2 (by omega)), hS_18⟩
  refine skipE <| thenK_n <| seqE <| blockE <| seqE <| regionE ?_
  refine sIdx ht.deps ((i : Nat) : Int) Try.runUnderlying22 Try.sizeOf3 ?_
  intro x_7 b_8 o_9 hx_10 hp_11
  rw [Int.toNat_natCast] at hx_10
  refine sLp hS_5 (hp_11.up 1 rfl) 0 (.int .i64 x_7) (Try.isAgg3 _) ?_
  refine pu1 <| nilO <| thenK_n <| seqE <| seqE <| regionE <| pu4 ?_
  refine sD 18 (x_7 ≤ la) (fun hc_12 => ?_) (fun hc_12 => ?_)
  · refine pu4 <| nilO <| thenK_n <| cTt <| seqE <| regionE <| pu1 <| nilO <| thenK_n <| retE <| thenK_r <| blockK_r <| thenK_r <| thenK_r <| blockK_r <| thenK_r <| retT [.bool false] <| ?_
    have hS_13 := (hS_5.dropAt 0 rfl)
    exact ⟨by unfold taskOK; rw [asc_no hx_10 (by omega), Bool.and_false]; rfl, hS_13⟩
  refine pu4 <| nilO <| thenK_n <| ?_
  refine cD (x_7 ≥ ix) (fun hc_14 => ?_) (fun hc_14 => ?_)
  · refine seqE <| regionE <| pu1 <| nilO <| thenK_n <| retE <| thenK_r <| blockK_r <| thenK_r <| thenK_r <| blockK_r <| thenK_r <| retT [.bool false] <| ?_
    have hS_15 := (hS_5.dropAt 0 rfl)
    exact ⟨by unfold taskOK; rw [asc_no hx_10 (by omega), Bool.and_false]; rfl, hS_15⟩
  refine skipE <| thenK_n <| regionE <| pu2 <| nilO <| blockK_n <| thenK_n <| regionE ?_
  refine sAdd ((i : Nat) : Int) 1 ?_
  refine pu1 <| nilO <| thenK_n <| ?_
  exact ⟨(i + 1, x_7), by first | omega | (dsimp only; omega), alA, hS_5, by omega, (by rw [asc_take hx_10, hA]; simp; omega), (lastD_at hx_10).symm⟩
end Go.Proofs.Ytegmennaekipaaa
