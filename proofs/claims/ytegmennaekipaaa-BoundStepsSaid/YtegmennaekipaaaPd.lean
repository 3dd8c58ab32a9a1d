import Derived.Test.YtegmennaekipaaaPa
namespace Go.Proofs.Ytegmennaekipaaa
open Go Go.E
set_option linter.unusedVariables false
set_option linter.unusedSimpArgs false
set_option linter.unnecessarySimpa false
set_option maxRecDepth 100000
set_option maxHeartbeats 2000000
variable {W w : World} {H : Chunk} {F : List Chunk}

theorem place_eq {t z : Int} {n : Nat} (h : 0 ≤ t) (hz : 0 ≤ z) : (t + z).tmod ((n : Nat) : Int) = (((t.toNat + z.toNat) % n : Nat) : Int) := by
  rw [Int.tmod_eq_emod_of_nonneg (by omega), Int.natCast_emod, Int.natCast_add, Int.toNat_of_nonneg h, Int.toNat_of_nonneg hz]
theorem mod_inj {t a b n : Nat} (ha : a < n) (hb : b < n) (ht : t < n) (h : (t + a) % n = (t + b) % n) : a = b := by
  have f : ∀ x, x < n → (t + x) % n = if t + x < n then t + x else t + x - n := by
    intro x hx
    split
    · rename_i h1; exact Nat.mod_eq_of_lt h1
    · rename_i h1; rw [Nat.mod_eq_sub_mod (by omega), Nat.mod_eq_of_lt (by omega)]
  rw [f a ha, f b hb] at h
  split at h <;> split at h <;> omega
/-- The ring r, from place t on, holds the list l. -/
def Ring (r : List Ref) (t : Nat) (l : List Ref) : Prop := t < r.length ∧ l.length ≤ r.length ∧ ∀ i, i < l.length → r[(t + i) % r.length]? = l[i]?
theorem Ring.at {r : List Ref} {t i : Nat} {l : List Ref} {x : Ref} (h : Ring r t l) (hi : i < l.length) (hx : r[(t + i) % r.length]? = some x) : l[i]? = some x := (h.2.2 i hi).symm.trans hx
theorem Ring.push {r : List Ref} {t : Nat} {l : List Ref} {x : Ref} (h : Ring r t l) (hl : l.length < r.length) : Ring (r.set ((t + l.length) % r.length) x) t (l ++ [x]) := by
  refine ⟨by rw [List.length_set]; exact h.1, by rw [List.length_set, List.length_append, List.length_singleton]; omega, ?_⟩
  intro i hi
  rw [List.length_append, List.length_singleton] at hi
  rw [List.length_set, List.getElem?_set]
  by_cases e : i = l.length
  · subst e
    rw [if_pos rfl, if_pos (Nat.mod_lt _ (by omega)), List.getElem?_append_right (Nat.le_refl _), Nat.sub_self]; rfl
  · rw [if_neg (fun q => e (mod_inj (by omega) (by omega) h.1 q.symm)), List.getElem?_append_left (by omega)]
    exact h.2.2 i (by omega)
theorem Ring.pop {r : List Ref} {t : Nat} {l : List Ref} (h : Ring r t l) : Ring r t l.dropLast := by
  refine ⟨h.1, by rw [List.length_dropLast]; have := h.2.1; omega, ?_⟩
  intro i hi
  rw [List.length_dropLast] at hi
  rw [List.dropLast_eq_take, List.getElem?_take, if_pos hi]
  exact h.2.2 i (by omega)
theorem Ring.steal {r : List Ref} {t : Nat} {l : List Ref} (h : Ring r t l) : Ring r ((t + 1) % r.length) l.tail := by
  refine ⟨Nat.mod_lt _ (by have := h.1; omega), by rw [List.length_tail]; have := h.2.1; omega, ?_⟩
  intro i hi
  rw [List.length_tail] at hi
  have e : ((t + 1) % r.length + i) % r.length = (t + (i + 1)) % r.length := by rw [Nat.mod_add_mod]; congr 1; omega
  rw [e, h.2.2 (i + 1) (by omega), List.getElem?_tail]
theorem Ring.nil {r : List Ref} {t : Nat} (h : t < r.length) : Ring r t [] := ⟨h, Nat.zero_le _, fun i hi => absurd hi (Nat.not_lt_zero i)⟩
/-- The first i tasks of l have been looked at; those that stay lie in front. -/
def RemI (r : List Ref) (t : Nat) (l : List Ref) (j : Int) (i : Nat) : Prop := t < r.length ∧ l.length ≤ r.length ∧ (∀ q, q < (without j (l.take i)).length → r[(t + q) % r.length]? = (without j (l.take i))[q]?) ∧ ∀ q, i ≤ q → q < l.length → r[(t + q) % r.length]? = l[q]?
theorem Ring.rem {r : List Ref} {t : Nat} {l : List Ref} {j : Int} (h : Ring r t l) : RemI r t l j 0 := ⟨h.1, h.2.1, fun q hq => by simp [without] at hq, fun q _ hq => h.2.2 q hq⟩
theorem RemI.at {r : List Ref} {t i : Nat} {l : List Ref} {j : Int} {x : Ref} (h : RemI r t l j i) (hi : i < l.length) (hx : r[(t + i) % r.length]? = some x) : l[i]? = some x := (h.2.2.2 i (Nat.le_refl _) hi).symm.trans hx
theorem without_snoc {l : List Ref} {i : Nat} {j : Int} {x : Ref} (h : l[i]? = some x) (hj : x.job ≠ j) : without j (l.take (i + 1)) = without j (l.take i) ++ [x] := (without_y rfl h hj).symm
theorem without_same {l : List Ref} {i : Nat} {j : Int} {x : Ref} (h : l[i]? = some x) (hj : x.job = j) : without j (l.take (i + 1)) = without j (l.take i) := (without_n rfl h hj).symm
theorem RemI.keep {r : List Ref} {t i : Nat} {l : List Ref} {j : Int} {x : Ref} (h : RemI r t l j i) (hx : l[i]? = some x) (hj : x.job ≠ j) : RemI (r.set ((t + (without j (l.take i)).length) % r.length) x) t l j (i + 1) := by
  obtain ⟨h1, h2, h3, h4⟩ := h
  have hi := (List.getElem?_eq_some_iff.1 hx).1
  have hk : (without j (l.take i)).length ≤ i := by have := without_len j (l.take i); rw [List.length_take] at this; omega
  refine ⟨by rw [List.length_set]; exact h1, by rw [List.length_set]; exact h2, ?_, ?_⟩
  · rw [without_snoc hx hj]
    intro q hq
    rw [List.length_append, List.length_singleton] at hq
    rw [List.length_set, List.getElem?_set]
    by_cases e : q = (without j (l.take i)).length
    · subst e
      rw [if_pos rfl, if_pos (Nat.mod_lt _ (by omega)), List.getElem?_append_right (Nat.le_refl _), Nat.sub_self]; rfl
    · rw [if_neg (fun z => e (mod_inj (by omega) (by omega) h1 z.symm)), List.getElem?_append_left (by omega)]
      exact h3 q (by omega)
  · intro q hq hl
    rw [List.length_set, List.getElem?_set, if_neg (fun z => by have := mod_inj (by omega) (by omega) h1 z; omega)]
    exact h4 q (by omega) hl
theorem RemI.drop {r : List Ref} {t i : Nat} {l : List Ref} {j : Int} {x : Ref} (h : RemI r t l j i) (hx : l[i]? = some x) (hj : x.job = j) : RemI r t l j (i + 1) := by
  obtain ⟨h1, h2, h3, h4⟩ := h
  exact ⟨h1, h2, by rw [without_same hx hj]; exact h3, fun q hq hl => h4 q (by omega) hl⟩
theorem RemI.ring {r : List Ref} {t i : Nat} {l : List Ref} {j : Int} (h : RemI r t l j i) (hi : l.length ≤ i) : Ring r t (without j l) := by
  obtain ⟨h1, h2, h3, _⟩ := h
  rw [List.take_of_length_le hi] at h3
  exact ⟨h1, by have := without_len j l; omega, h3⟩
theorem ring_list {r : List Ref} {t i : Nat} {l : List Ref} {x : Ref} (h : Ring r t l) (hi : i < l.length) (hx : r[(t + i) % r.length]? = some x) : l.take i ++ [x] = l.take (i + 1) := (take_succ_at (h.at hi hx)).symm

/-- The program's deque at p. -/
def DqP (p : Nat) (S : DS) (M : Chunk) : Prop := ∃ (a : Option Addr) (n k t : Nat) (r : List Ref) (c : Chunk), M = [(p, .cells #[.slice a n k, .int .i64 ((t : Nat) : Int), .int .i64 ((S.l.length : Nat) : Int)] 118 (0, 0))] ++ c ∧ OwnT encRef 48 2 a n k r c ∧ S.cap = ((n : Nat) : Int) ∧ Ring r t S.l ∧ S.Wf
theorem pd_place {cs : List Chunk} {p : Nat} {a : Option Addr} {n k : Nat} {t s : Int} (z : Int) (hn : 0 < n ∧ n ≤ 256) (ht : 0 ≤ t ∧ t < n) (hz : 0 ≤ z ∧ z ≤ 512) (hS : Sat W w ([(p, .cells #[.slice a n k, .int .i64 t, .int .i64 s] 118 (0, 0))] :: cs)) :
    Calls Try.prog 86 #[.pointer (some ⟨p, 0, none⟩), .int .i64 z] w fun e w' => ∃ v : Nat, e = .returned (.int .i64 ((v : Nat) : Int)) ∧ (v = (t.toNat + z.toNat) % n ∧ v < n) ∧ Sat W w' ([(p, .cells #[.slice a n k, .int .i64 t, .int .i64 s] 118 (0, 0))] :: cs) := by
  refine callsA 17 Try.func86 rfl ?_
  refine seqE <| regionE <| pu1 <| nilO <| thenK_n <| seqE ?_
  refine drawE [] [(3, ⟨p, 1, none⟩, .int .i64 t), (9, ⟨p, 0, none⟩, .slice a n k)] [(true, [0, 1, 2, 4, 6, 7, 8]), (true, [3]), (true, [5]), (true, [9]), (true, [10]), (true, [11]), (true, [12])] rfl (by kernel_rfl) ⟨.inr (hS.cell 0 rfl rfl), .inr (hS.cell 0 rfl rfl), trivial⟩ ?_
  have hS_1 := hS.drew
  refine wU [0, 1, 2, 4, 6, 7, 8] ?_
  refine wLd (.int .i64 t) 0 Try.isAgg3 ?_
  refine wAdd t z ?_
  refine wLd (.slice a n k) 1 Try.isAgg52 ?_
  refine wU [10] ?_
  refine wRem (t + z) ((n : Nat) : Int) ?_
  refine wU [12] ?_
  refine wN ?_
  refine thenK_n <| retE <| retT [.int .i64 ((t + z).tmod ((n : Nat) : Int))] <| ?_
  exact ⟨_, congrArg (fun z => Ending.returned (.int .i64 z)) (place_eq (by omega) (by omega)), ⟨rfl, Nat.mod_lt _ hn.1⟩, hS_1⟩
theorem pd_len {p : Nat} {S : DS} {M : Chunk} (hR : DqP p S M)  (hS : Sat W w (M :: H :: F)) :
    Calls Try.prog 61 #[.pointer (some ⟨p, 0, none⟩)] w fun e w' => e = .returned (.int .i64 ((S.l.length : Nat) : Int)) ∧ Sat W w' (M :: H :: F) := by
  obtain ⟨a, n, k, t, r, c, rfl, hO, hcap, hRg, hW⟩ := hR
  have hS_1 : Sat W _ ([(p, .cells #[.slice a n k, .int .i64 ((t : Nat) : Int), .int .i64 ((S.l.length : Nat) : Int)] 118 (0, 0))] :: c :: H :: F) := Sat.perm hS (by simp)
  have hn := hO.len; have hl := hO.le; have hw1 := hW.c; have hw2 := hW.n; have hr1 := hRg.1; have hr2 := hRg.2.1
  refine callsA 9 Try.func61 rfl ?_
  refine seqE <| regionE <| pu1 <| nilO <| thenK_n <| seqE <| seqE <| regionE <| pu2 <| nilO <| thenK_n <| cFf <| skipE <| thenK_n <| seqE <| regionE <| pu3 ?_
  refine sL hS_1 0 2 (.int .i64 ((S.l.length : Nat) : Int)) (Try.isAgg3 _) ?_
  refine pu1 <| nilO <| thenK_n <| retE <| retT [.int .i64 ((S.l.length : Nat) : Int)] <| ?_
  have hS_2 : Sat W _ (([(p, .cells #[.slice a n k, .int .i64 ((t : Nat) : Int), .int .i64 ((S.l.length : Nat) : Int)] 118 (0, 0))] ++ c) :: H :: F) := Sat.perm (show Sat W _ ([(p, .cells #[.slice a n k, .int .i64 ((t : Nat) : Int), .int .i64 ((S.l.length : Nat) : Int)] 118 (0, 0))] :: c :: H :: F) from hS_1) (by simp)
  exact ⟨rfl, hS_2⟩
theorem pd_push {p : Nat} {S : DS} {M : Chunk} (hR : DqP p S M) (r_ : Ref) (hS : Sat W w (M :: H :: F)) :
    Calls Try.prog 99 #[.pointer (some ⟨p, 0, none⟩), .agg #[.int .i64 r_.job, .int .i64 r_.task]] w fun e w' => ∃ M' : Chunk, e = .returned (.int .i64 (pushC S)) ∧ DqP p (pushD S r_) M' ∧ Sat W w' (M' :: H :: F) := by
  obtain ⟨a, n, k, t, r, c, rfl, hO, hcap, hRg, hW⟩ := hR
  have hS_1 : Sat W _ ([(p, .cells #[.slice a n k, .int .i64 ((t : Nat) : Int), .int .i64 ((S.l.length : Nat) : Int)] 118 (0, 0))] :: c :: H :: F) := Sat.perm hS (by simp)
  have hn := hO.len; have hl := hO.le; have hw1 := hW.c; have hw2 := hW.n; have hr1 := hRg.1; have hr2 := hRg.2.1
  refine callsA 44 Try.func99 rfl ?_
  refine seqE <| regionE ?_
  refine sBox hS_1 (.agg #[.int .i64 r_.job, .int .i64 r_.task]) #[.int .i64 r_.job, .int .i64 r_.task] ?_
  intro b_2 w_3 hS_4
  refine pu1 <| nilO <| thenK_n <| seqE <| seqE <| regionE <| pu6 <| gY ?_
  refine sL hS_4 1 0 (.slice a n k) (Try.isAgg52 _) ?_
  refine pu3 <| nilO <| thenK_n <| ?_
  have hc_5 : ¬ ((((n : Nat) : Int) : Int) = 0) := (by omega)
  refine cF _ (beq_eq_false_iff_ne.2 hc_5) ?_
  refine skipE <| thenK_n <| seqE <| seqE ?_
  refine drawE [] [(3, ⟨p, 2, none⟩, .int .i64 ((S.l.length : Nat) : Int)), (7, ⟨p, 0, none⟩, .slice a n k)] [(true, [0, 1, 2, 4, 5, 6]), (true, [3]), (true, [7]), (true, [8, 9])] rfl (by kernel_rfl) ⟨.inr (hS_4.cell 1 rfl rfl), .inr (hS_4.cell 1 rfl rfl), trivial⟩ ?_
  have hS_6 := hS_4.drew
  refine wU [0, 1, 2, 4, 5, 6] ?_
  refine wLd (.int .i64 ((S.l.length : Nat) : Int)) 0 Try.isAgg3 ?_
  refine wLd (.slice a n k) 1 Try.isAgg52 ?_
  refine wU [8, 9] ?_
  refine wN ?_
  refine thenK_n <| ?_
  refine cE ((S.l.length : Nat) : Int) ((n : Nat) : Int) (fun hc_7 => ?_) (fun hc_7 => ?_)
  · refine seqE <| regionE <| pu1 <| nilO <| thenK_n <| retE <| thenK_r <| retT [.int .i64 19] <| ?_
    have hc : pushC S = 19 := by unfold pushC; rw [if_pos (by omega)]
    have hS_8 := (hS_6.dropAt 0 rfl)
    have hS_9 : Sat W _ (([(p, .cells #[.slice a n k, .int .i64 ((t : Nat) : Int), .int .i64 ((S.l.length : Nat) : Int)] 118 (0, 0))] ++ c) :: H :: F) := Sat.perm (show Sat W _ ([(p, .cells #[.slice a n k, .int .i64 ((t : Nat) : Int), .int .i64 ((S.l.length : Nat) : Int)] 118 (0, 0))] :: c :: H :: F) from hS_8) (by simp)
    have he : pushD S r_ = S := by unfold pushD; rw [hc, if_neg (by decide)]
    exact ⟨_, by rw [hc]; rfl, by rw [he]; exact ⟨_, _, _, t, _, _, rfl, hO, hcap, hRg, hW⟩, hS_9⟩
  refine skipE <| thenK_n <| seqE ?_
  refine drawE [9, 12] [(3, ⟨p, 0, none⟩, .slice a n k), (8, ⟨p, 2, none⟩, .int .i64 ((S.l.length : Nat) : Int)), (10, ⟨b_2, 0, none⟩, .int .i64 r_.job), (10, ⟨b_2, 1, none⟩, .int .i64 r_.task)] [(true, [0, 1, 2, 4, 5, 6, 7]), (true, [3]), (true, [8]), (true, [10]), (false, [9]), (true, [11]), (false, [12])] rfl (by kernel_rfl) ⟨.inr (hS_6.cell 1 rfl rfl), .inr (hS_6.cell 1 rfl rfl), .inr (hS_6.cell 0 rfl rfl), .inr (hS_6.cell 0 rfl rfl), trivial⟩ ?_
  have hS_10 := hS_6.drew
  refine wU [0, 1, 2, 4, 5, 6, 7] ?_
  refine wLd (.slice a n k) 0 Try.isAgg52 ?_
  refine wLd (.int .i64 ((S.l.length : Nat) : Int)) 1 Try.isAgg3 ?_
  refine wY (.agg #[.int .i64 r_.job, .int .i64 r_.task]) rfl (fun w hF => Y_loadF rfl (Try.isAgg48 w) (Try.sizeOf48 w) (by kernel_rfl) rfl ⟨hF 2 _ _ rfl, hF 3 _ _ rfl, trivial⟩) ?_
  refine wO rfl ?_
  have hS_11 := (hS_10.pick 1 rfl)
  refine cX Try.call86 (pd_place ((S.l.length : Nat) : Int) (by omega) (by omega) (by omega) hS_11) ?_
  rintro _ w_12 ⟨v_14, rfl, hv_15, hS_13⟩
  have hv_15e := hv_15.1; rw [Int.toNat_natCast, Int.toNat_natCast] at hv_15e
  refine nilO ⟨⟨.inr (hS_13.cell 0 rfl rfl), .inl (by kernel_rfl), .inr (hS_13.cell 1 rfl rfl), .inr (hS_13.cell 1 rfl rfl), trivial⟩, ?_⟩
  obtain ⟨x_16, b_17, o_18, hx_19, hp_20, hq_21, ha_22⟩ := OwnT.elem hO ((v_14 : Nat) : Int)
  rw [Int.toNat_natCast] at hx_19 hp_20 hq_21
  refine wY (.pointer (some ⟨b_17, o_18 + v_14 * 2, none⟩)) rfl (fun w _ => Y_idx (a := a) (i := ((v_14 : Nat) : Int)) (len := n) (cap := k) rfl Try.runUnderlying52 Try.sizeOf48 (by kernel_rfl) (by kernel_rfl) hq_21) ?_
  refine wO rfl ?_
  refine sStF hS_13 hO ha_22 2 v_14 0 x_16 (⟨r_.job, r_.task⟩ : Ref) hx_19 (.agg #[.int .i64 r_.job, .int .i64 r_.task]) [.int .i64 r_.job, .int .i64 r_.task] Try.sizeOf48 ?_
  intro w_23 c_25 hO_26 hS_24
  refine nilO ⟨⟨.inl (by kernel_rfl), .inl (by kernel_rfl), .inl (by kernel_rfl), .inl (by kernel_rfl), trivial⟩, ?_⟩
  refine wN ?_
  refine thenK_n <| seqE <| regionE <| pu3 ?_
  refine sL hS_24 0 2 (.int .i64 ((S.l.length : Nat) : Int)) (Try.isAgg3 _) ?_
  refine sAdd ((S.l.length : Nat) : Int) 1 ?_
  refine pu2 ?_
  refine sT hS_24 0 2 (.int .i64 (((S.l.length : Nat) : Int) + 1)) [.int .i64 (((S.l.length : Nat) : Int) + 1)] #[.slice a n k, .int .i64 ((t : Nat) : Int), .int .i64 (((S.l.length : Nat) : Int) + 1)] Try.sizeOf3 ?_
  intro w_27 hS_28
  refine nilO <| thenK_n <| seqE <| regionE <| pu1 <| nilO <| thenK_n <| retE <| retT [.int .i64 0] <| ?_
  have hc : pushC S = 0 := by unfold pushC; rw [if_neg (by omega)]
  have hrp := hRg.push (x := r_) (by omega); rw [hn, ← hv_15e] at hrp
  have hll : (S.l ++ [r_]).length = S.l.length + 1 := by simp
  have hS_29 : Sat W w_27 ([(p, .cells #[.slice a n k, .int .i64 ((t : Nat) : Int), .int .i64 (((S.l ++ [r_]).length : Nat) : Int)] 118 (0, 0))] :: [(b_2, .cells #[.int .i64 r_.job, .int .i64 r_.task] 48 (0, 0))] :: c_25 :: H :: F) := by rw [hll]; exact hS_28
  have hS_30 := (hS_29.dropAt 1 rfl)
  have hS_31 : Sat W _ (([(p, .cells #[.slice a n k, .int .i64 ((t : Nat) : Int), .int .i64 (((S.l ++ [r_]).length : Nat) : Int)] 118 (0, 0))] ++ c_25) :: H :: F) := Sat.perm (show Sat W _ ([(p, .cells #[.slice a n k, .int .i64 ((t : Nat) : Int), .int .i64 (((S.l ++ [r_]).length : Nat) : Int)] 118 (0, 0))] :: c_25 :: H :: F) from hS_30) (by simp)
  have he : pushD S r_ = { S with l := S.l ++ [r_] } := by unfold pushD; rw [if_pos hc]
  exact ⟨_, by rw [hc]; rfl, by rw [he]; exact ⟨_, _, _, t, _, _, rfl, hO_26, hcap, hrp, ⟨hW.c, by dsimp only; omega⟩⟩, hS_31⟩
theorem pd_pop {p : Nat} {S : DS} {M : Chunk} (hR : DqP p S M)  (hS : Sat W w (M :: H :: F)) :
    Calls Try.prog 82 #[.pointer (some ⟨p, 0, none⟩)] w fun e w' => (S.l = [] ∧ e = .returned (.tuple #[.agg #[.int .i64 0, .int .i64 0], .bool false]) ∧ Sat W w' (M :: H :: F)) ∨ (∃ (x : Ref) (M' : Chunk), S.l.getLast? = some x ∧ e = .returned (.tuple #[.agg #[.int .i64 x.job, .int .i64 x.task], .bool true]) ∧ DqP p { S with l := S.l.dropLast } M' ∧ Sat W w' (M' :: H :: F)) := by
  obtain ⟨a, n, k, t, r, c, rfl, hO, hcap, hRg, hW⟩ := hR
  have hS_1 : Sat W _ ([(p, .cells #[.slice a n k, .int .i64 ((t : Nat) : Int), .int .i64 ((S.l.length : Nat) : Int)] 118 (0, 0))] :: c :: H :: F) := Sat.perm hS (by simp)
  have hn := hO.len; have hl := hO.le; have hw1 := hW.c; have hw2 := hW.n; have hr1 := hRg.1; have hr2 := hRg.2.1
  refine callsA 33 Try.func82 rfl ?_
  refine seqE <| regionE ?_
  refine sAlloc hS_1 Try.zeroValue48 ?_
  intro b_2 w_3 hS_4
  refine pu1 <| nilO <| thenK_n <| seqE <| seqE <| regionE <| pu6 <| gY ?_
  refine sL hS_4 1 2 (.int .i64 ((S.l.length : Nat) : Int)) (Try.isAgg3 _) ?_
  refine pu2 <| nilO <| thenK_n <| ?_
  refine cE ((S.l.length : Nat) : Int) 0 (fun hc_5 => ?_) (fun hc_5 => ?_)
  · refine seqE <| regionE <| pu1 ?_
    refine sT hS_4 0 0 (.agg #[.int .i64 0, .int .i64 0]) [.int .i64 0, .int .i64 0] #[.int .i64 0, .int .i64 0] Try.sizeOf48 ?_
    intro w_6 hS_7
    refine pu1 <| nilO <| thenK_n <| retE <| thenK_r <| retN (vs := [.agg #[.int .i64 0, .int .i64 0], .bool false]) rfl (.cons (.cell _ _ _ _ (by kernel_rfl) (lvA hS_7 0 0 [.int .i64 0, .int .i64 0] (Try.isAgg48 _) (Try.sizeOf48 _) rfl rfl rfl)) (.cons (.tmp _ _ (by kernel_rfl)) .nil)) <| ?_
    have hS_8 := (hS_7.dropAt 0 rfl)
    have hS_9 : Sat W _ (([(p, .cells #[.slice a n k, .int .i64 ((t : Nat) : Int), .int .i64 ((S.l.length : Nat) : Int)] 118 (0, 0))] ++ c) :: H :: F) := Sat.perm (show Sat W _ ([(p, .cells #[.slice a n k, .int .i64 ((t : Nat) : Int), .int .i64 ((S.l.length : Nat) : Int)] 118 (0, 0))] :: c :: H :: F) from hS_8) (by simp)
    exact .inl ⟨List.length_eq_zero_iff.1 (by omega), rfl, hS_9⟩
  refine skipE <| thenK_n <| seqE <| regionE <| pu3 ?_
  refine sL hS_4 1 2 (.int .i64 ((S.l.length : Nat) : Int)) (Try.isAgg3 _) ?_
  refine sSub ((S.l.length : Nat) : Int) 1 ?_
  refine pu2 ?_
  refine sT hS_4 1 2 (.int .i64 (((S.l.length : Nat) : Int) - 1)) [.int .i64 (((S.l.length : Nat) : Int) - 1)] #[.slice a n k, .int .i64 ((t : Nat) : Int), .int .i64 (((S.l.length : Nat) : Int) - 1)] Try.sizeOf3 ?_
  intro w_10 hS_11
  refine nilO <| thenK_n <| seqE ?_
  refine drawE [9, 11, 12] [(3, ⟨p, 0, none⟩, .slice a n k), (8, ⟨p, 2, none⟩, .int .i64 (((S.l.length : Nat) : Int) - 1))] [(true, [0, 1, 2, 4, 5, 6, 7]), (true, [3]), (true, [8]), (false, [9]), (true, [10]), (false, [11]), (false, [12]), (true, [13])] rfl (by kernel_rfl) ⟨.inr (hS_11.cell 1 rfl rfl), .inr (hS_11.cell 1 rfl rfl), trivial⟩ ?_
  have hS_12 := hS_11.drew
  refine wU [0, 1, 2, 4, 5, 6, 7] ?_
  refine wLd (.slice a n k) 0 Try.isAgg52 ?_
  refine wLd (.int .i64 (((S.l.length : Nat) : Int) - 1)) 1 Try.isAgg3 ?_
  refine wO rfl ?_
  have hS_13 := (hS_12.pick 1 rfl)
  refine cX Try.call86 (pd_place (((S.l.length : Nat) : Int) - 1) (by omega) (by omega) (by omega) hS_13) ?_
  rintro _ w_14 ⟨v_16, rfl, hv_17, hS_15⟩
  have hv_17e := hv_17.1; rw [Int.toNat_natCast, show ((((S.l.length : Nat) : Int) - 1)).toNat = (S.l.length - 1) by omega] at hv_17e
  refine nilO ⟨⟨.inr (hS_15.cell 0 rfl rfl), .inl (by kernel_rfl), trivial⟩, ?_⟩
  obtain ⟨x_18, b_19, o_20, hx_21, hp_22, hq_23, ha_24⟩ := OwnT.elem hO ((v_16 : Nat) : Int)
  rw [Int.toNat_natCast] at hx_21 hp_22 hq_23
  refine wY (.pointer (some ⟨b_19, o_20 + v_16 * 2, none⟩)) rfl (fun w _ => Y_idx (a := a) (i := ((v_16 : Nat) : Int)) (len := n) (cap := k) rfl Try.runUnderlying52 Try.sizeOf48 (by kernel_rfl) (by kernel_rfl) hq_23) ?_
  refine wO rfl ?_
  refine sLpA hS_15 (hp_22.up 2 rfl) 0 [.int .i64 x_18.job, .int .i64 x_18.task] (Try.isAgg48 _) (Try.sizeOf48 _) ?_
  refine nilO ⟨⟨.inr (hS_15.cell 0 rfl rfl), .inl (by kernel_rfl), trivial⟩, ?_⟩
  refine wO rfl ?_
  refine sT hS_15 1 0 (.agg #[.int .i64 x_18.job, .int .i64 x_18.task]) [.int .i64 x_18.job, .int .i64 x_18.task] #[.int .i64 x_18.job, .int .i64 x_18.task] Try.sizeOf48 ?_
  intro w_25 hS_26
  refine nilO ⟨⟨.inl (by kernel_rfl), .inl (by kernel_rfl), trivial⟩, ?_⟩
  refine wU [13] ?_
  refine wN ?_
  refine thenK_n <| retE <| retN (vs := [.agg #[.int .i64 x_18.job, .int .i64 x_18.task], .bool true]) rfl (.cons (.cell _ _ _ _ (by kernel_rfl) (lvA hS_26 1 0 [.int .i64 x_18.job, .int .i64 x_18.task] (Try.isAgg48 _) (Try.sizeOf48 _) rfl rfl rfl)) (.cons (.tmp _ _ (by kernel_rfl)) .nil)) <| ?_
  have hxx : S.l[S.l.length - 1]? = some x_18 := hRg.at (by omega) (by rw [hn, ← hv_17e]; exact hx_21)
  have hgl : S.l.getLast? = some x_18 := by rw [List.getLast?_eq_getElem?]; exact hxx
  have hS_27 : Sat W w_25 ([(p, .cells #[.slice a n k, .int .i64 ((t : Nat) : Int), .int .i64 ((S.l.dropLast.length : Nat) : Int)] 118 (0, 0))] :: [(b_2, .cells #[.int .i64 x_18.job, .int .i64 x_18.task] 48 (0, 0))] :: c :: H :: F) := by rw [show (((S.l.dropLast.length : Nat) : Int)) = (((S.l.length : Nat) : Int) - 1) by rw [List.length_dropLast]; omega]; exact hS_26
  have hS_28 := (hS_27.dropAt 1 rfl)
  have hS_29 : Sat W _ (([(p, .cells #[.slice a n k, .int .i64 ((t : Nat) : Int), .int .i64 ((S.l.dropLast.length : Nat) : Int)] 118 (0, 0))] ++ c) :: H :: F) := Sat.perm (show Sat W _ ([(p, .cells #[.slice a n k, .int .i64 ((t : Nat) : Int), .int .i64 ((S.l.dropLast.length : Nat) : Int)] 118 (0, 0))] :: c :: H :: F) from hS_28) (by simp)
  exact .inr ⟨_, _, hgl, rfl, ⟨_, _, _, t, _, _, rfl, hO, hcap, hRg.pop, ⟨hW.c, by rw [List.length_dropLast]; dsimp only; omega⟩⟩, hS_29⟩
theorem pd_steal {p : Nat} {S : DS} {M : Chunk} (hR : DqP p S M)  (hS : Sat W w (M :: H :: F)) :
    Calls Try.prog 85 #[.pointer (some ⟨p, 0, none⟩)] w fun e w' => (S.l = [] ∧ e = .returned (.tuple #[.agg #[.int .i64 0, .int .i64 0], .bool false]) ∧ Sat W w' (M :: H :: F)) ∨ (∃ (x : Ref) (M' : Chunk), S.l.head? = some x ∧ e = .returned (.tuple #[.agg #[.int .i64 x.job, .int .i64 x.task], .bool true]) ∧ DqP p { S with l := S.l.tail } M' ∧ Sat W w' (M' :: H :: F)) := by
  obtain ⟨a, n, k, t, r, c, rfl, hO, hcap, hRg, hW⟩ := hR
  have hS_1 : Sat W _ ([(p, .cells #[.slice a n k, .int .i64 ((t : Nat) : Int), .int .i64 ((S.l.length : Nat) : Int)] 118 (0, 0))] :: c :: H :: F) := Sat.perm hS (by simp)
  have hn := hO.len; have hl := hO.le; have hw1 := hW.c; have hw2 := hW.n; have hr1 := hRg.1; have hr2 := hRg.2.1
  refine callsA 38 Try.func85 rfl ?_
  refine seqE <| regionE ?_
  refine sAlloc hS_1 Try.zeroValue48 ?_
  intro b_2 w_3 hS_4
  refine pu1 <| nilO <| thenK_n <| seqE <| seqE <| regionE <| pu6 <| gY ?_
  refine sL hS_4 1 2 (.int .i64 ((S.l.length : Nat) : Int)) (Try.isAgg3 _) ?_
  refine pu2 <| nilO <| thenK_n <| ?_
  refine cE ((S.l.length : Nat) : Int) 0 (fun hc_5 => ?_) (fun hc_5 => ?_)
  · refine seqE <| regionE <| pu1 ?_
    refine sT hS_4 0 0 (.agg #[.int .i64 0, .int .i64 0]) [.int .i64 0, .int .i64 0] #[.int .i64 0, .int .i64 0] Try.sizeOf48 ?_
    intro w_6 hS_7
    refine pu1 <| nilO <| thenK_n <| retE <| thenK_r <| retN (vs := [.agg #[.int .i64 0, .int .i64 0], .bool false]) rfl (.cons (.cell _ _ _ _ (by kernel_rfl) (lvA hS_7 0 0 [.int .i64 0, .int .i64 0] (Try.isAgg48 _) (Try.sizeOf48 _) rfl rfl rfl)) (.cons (.tmp _ _ (by kernel_rfl)) .nil)) <| ?_
    have hS_8 := (hS_7.dropAt 0 rfl)
    have hS_9 : Sat W _ (([(p, .cells #[.slice a n k, .int .i64 ((t : Nat) : Int), .int .i64 ((S.l.length : Nat) : Int)] 118 (0, 0))] ++ c) :: H :: F) := Sat.perm (show Sat W _ ([(p, .cells #[.slice a n k, .int .i64 ((t : Nat) : Int), .int .i64 ((S.l.length : Nat) : Int)] 118 (0, 0))] :: c :: H :: F) from hS_8) (by simp)
    exact .inl ⟨List.length_eq_zero_iff.1 (by omega), rfl, hS_9⟩
  refine skipE <| thenK_n <| seqE ?_
  obtain ⟨x_10, b_11, o_12, hx_13, hp_14, hq_15, ha_16⟩ := OwnT.elem hO ((t : Nat) : Int)
  rw [Int.toNat_natCast] at hx_13 hp_14 hq_15
  refine drawE [10, 11] [(3, ⟨p, 0, none⟩, .slice a n k), (7, ⟨p, 1, none⟩, .int .i64 ((t : Nat) : Int)), (9, ⟨b_11, o_12 + t * 2 + 0, none⟩, .int .i64 x_10.job), (9, ⟨b_11, o_12 + t * 2 + 1, none⟩, .int .i64 x_10.task)] [(true, [0, 1, 2, 4, 5, 6]), (true, [3]), (true, [7]), (true, [8]), (true, [9]), (false, [10]), (false, [11])] rfl (by kernel_rfl) ⟨.inr (hS_4.cell 1 rfl rfl), .inr (hS_4.cell 1 rfl rfl), .inr ((hp_14.up 2 rfl).cell hS_4 (k := 0) rfl), .inr ((hp_14.up 2 rfl).cell hS_4 (k := 1) rfl), trivial⟩ ?_
  have hS_17 := hS_4.drew
  refine wU [0, 1, 2, 4, 5, 6] ?_
  refine wLd (.slice a n k) 0 Try.isAgg52 ?_
  refine wLd (.int .i64 ((t : Nat) : Int)) 1 Try.isAgg3 ?_
  refine wY (.pointer (some ⟨b_11, o_12 + t * 2, none⟩)) rfl (fun w _ => Y_idx (a := a) (i := ((t : Nat) : Int)) (len := n) (cap := k) rfl Try.runUnderlying52 Try.sizeOf48 (by kernel_rfl) (by kernel_rfl) hq_15) ?_
  refine wY (.agg #[.int .i64 x_10.job, .int .i64 x_10.task]) rfl (fun w hF => Y_loadF rfl (Try.isAgg48 w) (Try.sizeOf48 w) (by kernel_rfl) rfl ⟨hF 2 _ _ rfl, hF 3 _ _ rfl, trivial⟩) ?_
  refine wO rfl ?_
  refine sAlloc hS_17 Try.zeroValue48 ?_
  intro b_18 w_19 hS_20
  refine nilO ⟨⟨.inr (hS_20.cell 2 rfl rfl), .inr (hS_20.cell 2 rfl rfl), .inr ((hp_14.up 3 rfl).cell hS_20 (k := 0) rfl), .inr ((hp_14.up 3 rfl).cell hS_20 (k := 1) rfl), trivial⟩, ?_⟩
  refine wO rfl ?_
  refine sT hS_20 0 0 (.agg #[.int .i64 x_10.job, .int .i64 x_10.task]) [.int .i64 x_10.job, .int .i64 x_10.task] #[.int .i64 x_10.job, .int .i64 x_10.task] Try.sizeOf48 ?_
  intro w_21 hS_22
  refine nilO ⟨⟨.inl (by kernel_rfl), .inl (by kernel_rfl), .inl (by kernel_rfl), .inl (by kernel_rfl), trivial⟩, ?_⟩
  refine wN ?_
  refine thenK_n <| seqE <| regionE <| pu2 ?_
  have hS_23 := (hS_22.pick 2 rfl)
  refine cX Try.call86 (pd_place (1 : Int) (by omega) (by omega) (by omega) hS_23) ?_
  rintro _ w_24 ⟨v_26, rfl, hv_27, hS_25⟩
  have hv_27e := hv_27.1; rw [Int.toNat_natCast, show ((1 : Int)).toNat = 1 by omega] at hv_27e
  refine pu2 ?_
  refine sT hS_25 0 1 (.int .i64 ((v_26 : Nat) : Int)) [.int .i64 ((v_26 : Nat) : Int)] #[.slice a n k, .int .i64 ((v_26 : Nat) : Int), .int .i64 ((S.l.length : Nat) : Int)] Try.sizeOf3 ?_
  intro w_28 hS_29
  refine nilO <| thenK_n <| seqE <| regionE <| pu3 ?_
  refine sL hS_29 0 2 (.int .i64 ((S.l.length : Nat) : Int)) (Try.isAgg3 _) ?_
  refine sSub ((S.l.length : Nat) : Int) 1 ?_
  refine pu2 ?_
  refine sT hS_29 0 2 (.int .i64 (((S.l.length : Nat) : Int) - 1)) [.int .i64 (((S.l.length : Nat) : Int) - 1)] #[.slice a n k, .int .i64 ((v_26 : Nat) : Int), .int .i64 (((S.l.length : Nat) : Int) - 1)] Try.sizeOf3 ?_
  intro w_30 hS_31
  refine nilO <| thenK_n <| seqE <| regionE ?_
  refine lA hS_31 1 0 2 (Try.isAgg48 _) (Try.sizeOf48 _) ?_
  refine sT hS_31 2 0 (.agg #[.int .i64 x_10.job, .int .i64 x_10.task]) [.int .i64 x_10.job, .int .i64 x_10.task] #[.int .i64 x_10.job, .int .i64 x_10.task] Try.sizeOf48 ?_
  intro w_32 hS_33
  refine pu1 <| nilO <| thenK_n <| retE <| retN (vs := [.agg #[.int .i64 x_10.job, .int .i64 x_10.task], .bool true]) rfl (.cons (.cell _ _ _ _ (by kernel_rfl) (lvA hS_33 2 0 [.int .i64 x_10.job, .int .i64 x_10.task] (Try.isAgg48 _) (Try.sizeOf48 _) rfl rfl rfl)) (.cons (.tmp _ _ (by kernel_rfl)) .nil)) <| ?_
  have hxx : S.l[0]? = some x_10 := hRg.at (by omega) (by rw [Nat.add_zero, Nat.mod_eq_of_lt hr1]; exact hx_13)
  have hgl : S.l.head? = some x_10 := by rw [List.head?_eq_getElem?]; exact hxx
  have hrs := hRg.steal; rw [hn, ← hv_27e] at hrs
  have hS_34 : Sat W w_32 ([(p, .cells #[.slice a n k, .int .i64 ((v_26 : Nat) : Int), .int .i64 ((S.l.tail.length : Nat) : Int)] 118 (0, 0))] :: [(b_18, .cells #[.int .i64 x_10.job, .int .i64 x_10.task] 48 (0, 0))] :: [(b_2, .cells #[.int .i64 x_10.job, .int .i64 x_10.task] 48 (0, 0))] :: c :: H :: F) := by rw [show (((S.l.tail.length : Nat) : Int)) = (((S.l.length : Nat) : Int) - 1) by rw [List.length_tail]; omega]; exact hS_33
  have hS_35 := ((hS_34.dropAt 1 rfl).dropAt 1 rfl)
  have hS_36 : Sat W _ (([(p, .cells #[.slice a n k, .int .i64 ((v_26 : Nat) : Int), .int .i64 ((S.l.tail.length : Nat) : Int)] 118 (0, 0))] ++ c) :: H :: F) := Sat.perm (show Sat W _ ([(p, .cells #[.slice a n k, .int .i64 ((v_26 : Nat) : Int), .int .i64 ((S.l.tail.length : Nat) : Int)] 118 (0, 0))] :: c :: H :: F) from hS_35) (by simp)
  exact .inr ⟨_, _, hgl, rfl, ⟨_, _, _, v_26, _, _, rfl, hO, hcap, hrs, ⟨hW.c, by rw [List.length_tail]; dsimp only; omega⟩⟩, hS_36⟩
theorem pd_list {p : Nat} {S : DS} {M : Chunk} (hR : DqP p S M)  (hS : Sat W w (M :: H :: F)) :
    Calls Try.prog 58 #[.pointer (some ⟨p, 0, none⟩)] w fun e w' => ∃ (az : Option Addr) (nz kz : Nat) (Z : Chunk), e = .returned (.slice az nz kz) ∧ OwnT encRef 48 2 az nz kz S.l Z ∧ Sat W w' (Z :: M :: H :: F) := by
  obtain ⟨a, n, k, t, r, c, rfl, hO, hcap, hRg, hW⟩ := hR
  have hS_1 : Sat W _ ([(p, .cells #[.slice a n k, .int .i64 ((t : Nat) : Int), .int .i64 ((S.l.length : Nat) : Int)] 118 (0, 0))] :: c :: H :: F) := Sat.perm hS (by simp)
  have hn := hO.len; have hl := hO.le; have hw1 := hW.c; have hw2 := hW.n; have hr1 := hRg.1; have hr2 := hRg.2.1
  refine callsA 28 Try.func58 rfl ?_
  refine seqE <| regionE <| pu1 <| nilO <| thenK_n <| seqE <| seqE <| regionE <| pu2 <| nilO <| thenK_n <| cFf <| skipE <| thenK_n <| seqE <| regionE <| pu1 <| nilO <| thenK_n <| seqE <| seqE <| regionE <| pu3 ?_
  refine sL hS_1 0 2 (.int .i64 ((S.l.length : Nat) : Int)) (Try.isAgg3 _) ?_
  refine pu1 <| nilO <| thenK_n <| blockE ?_
  have hS_2 := Sat.nilc hS_1
  have hO_3 := OwnT.nil (enc := encRef) (E := 48) (sz := 2) (fun _ => rfl)
  refine loopA (γ := Nat × (List Ref) × (Option Addr) × Nat × Nat × Chunk) (fun ⟨i, zs, azs, nzs, kzs, czs⟩ => [(0, .pointer (some ⟨p, 0, none⟩)), (10, .int .i64 ((S.l.length : Nat) : Int)), (11, .int .i64 ((i : Nat) : Int)), (3, .slice azs nzs kzs)]) (fun ⟨i, zs, azs, nzs, kzs, czs⟩ w => Sat W w (czs :: [(p, .cells #[.slice a n k, .int .i64 ((t : Nat) : Int), .int .i64 ((S.l.length : Nat) : Int)] 118 (0, 0))] :: c :: H :: F) ∧ i ≤ S.l.length ∧ (zs = S.l.take i) ∧ (zs.length ≤ i) ∧ OwnT encRef 48 2 azs nzs kzs zs czs) (fun ⟨i, zs, azs, nzs, kzs, czs⟩ => S.l.length - i) (0, [], none, 0, 0, []) ⟨hS_2, by omega, rfl, by simp, hO_3⟩ ?_
  rintro ⟨i, zs, azs, nzs, kzs, czs⟩ ρ w_4 ⟨hS_5, hi, hz, hzl, hOzs⟩
  have hn_zs := hOzs.len; have hl_zs := hOzs.le
  refine seqE <| regionE <| pu1 <| nilO <| thenK_n <| seqE ?_
  refine cD (((i : Nat) : Int) < ((S.l.length : Nat) : Int)) (fun hc_6 => ?_) (fun hc_6 => ?_)
  rotate_left
  · refine exitE <| thenK_x <| thenK_x <| blockK_x <| thenK_n <| seqE <| regionE <| pu2 <| nilO <| thenK_n <| retE <| retT [.slice azs nzs kzs] <| ?_
    have hzl_ : zs = S.l := by rw [hz, List.take_of_length_le (by omega)]
    have hOl_ := hOzs; rw [hzl_] at hOl_
    have hS_30 : Sat W _ (czs :: ([(p, .cells #[.slice a n k, .int .i64 ((t : Nat) : Int), .int .i64 ((S.l.length : Nat) : Int)] 118 (0, 0))] ++ c) :: H :: F) := Sat.perm (show Sat W _ (czs :: [(p, .cells #[.slice a n k, .int .i64 ((t : Nat) : Int), .int .i64 ((S.l.length : Nat) : Int)] 118 (0, 0))] :: c :: H :: F) from hS_5) (by simp)
    exact ⟨_, _, _, _, rfl, hOl_, hS_30⟩
  refine skipE <| thenK_n <| seqE <| blockE <| seqE <| regionE <| pu2 <| nilO <| thenK_n <| ?_
  refine drawE [7, 9, 10, 11] [(4, ⟨p, 0, none⟩, .slice a n k)] [(true, [0, 1, 2, 3, 5, 6]), (true, [4]), (false, [7]), (true, [8]), (false, [9]), (false, [10]), (false, [11]), (true, [12])] rfl (by kernel_rfl) ⟨.inr (hS_5.cell 1 rfl rfl), trivial⟩ ?_
  have hS_7 := hS_5.drew
  refine wU [0, 1, 2, 3, 5, 6] ?_
  refine wLd (.slice a n k) 0 Try.isAgg52 ?_
  refine wO rfl ?_
  have hS_8 := (hS_7.pick 1 rfl)
  refine cX Try.call86 (pd_place ((i : Nat) : Int) (by omega) (by omega) (by omega) hS_8) ?_
  rintro _ w_9 ⟨v_11, rfl, hv_12, hS_10⟩
  have hv_12e := hv_12.1; rw [Int.toNat_natCast, Int.toNat_natCast] at hv_12e
  refine nilO ⟨⟨.inr (hS_10.cell 0 rfl rfl), trivial⟩, ?_⟩
  obtain ⟨x_13, b_14, o_15, hx_16, hp_17, hq_18, ha_19⟩ := OwnT.elem hO ((v_11 : Nat) : Int)
  rw [Int.toNat_natCast] at hx_16 hp_17 hq_18
  refine wY (.pointer (some ⟨b_14, o_15 + v_11 * 2, none⟩)) rfl (fun w _ => Y_idx (a := a) (i := ((v_11 : Nat) : Int)) (len := n) (cap := k) rfl Try.runUnderlying52 Try.sizeOf48 (by kernel_rfl) (by kernel_rfl) hq_18) ?_
  refine wO rfl ?_
  refine sLpA hS_10 (hp_17.up 2 rfl) 0 [.int .i64 x_13.job, .int .i64 x_13.task] (Try.isAgg48 _) (Try.sizeOf48 _) ?_
  refine nilO ⟨⟨.inr (hS_10.cell 0 rfl rfl), trivial⟩, ?_⟩
  refine wO rfl ?_
  refine sBS hS_10 #[.int .i64 x_13.job, .int .i64 x_13.task] Try.runUnderlying52 Try.sizeOf48 Try.zeroValue48 ?_
  intro b_20 w_21 hS_22
  refine nilO ⟨⟨.inr (hS_22.cell 1 rfl rfl), trivial⟩, ?_⟩
  refine wO rfl ?_
  refine sApp (nb := 16) hS_22 hOzs 2 (RdT.blk (enc := encRef) (sz := 2) (xs := [(⟨x_13.job, x_13.task⟩ : Ref)]) (fun _ => rfl) 1 0 rfl rfl rfl (by omega)) Try.underlying52 (i := Try.t48) (by kernel_rfl) (fun _ => rfl) ?_
  intro a_23 cap_24 c_25 w_26 hO_27 hS_28
  refine nilO ⟨⟨.inr (hS_28.cell 1 rfl rfl), trivial⟩, ?_⟩
  refine wU [12] ?_
  refine wN ?_
  refine blockK_n <| thenK_n <| regionE ?_
  refine sAdd ((i : Nat) : Int) 1 ?_
  refine pu1 <| nilO <| thenK_n <| ?_
  have hS_29 := ((hS_28.pick 2 rfl).dropAt 1 rfl)
  exact ⟨(i + 1, (zs ++ [(⟨x_13.job, x_13.task⟩ : Ref)]), a_23, (nzs + 1), cap_24, c_25), by first | omega | (dsimp only; omega), alA, hS_29, by omega, (by rw [hz]; exact ring_list hRg (by omega) (by rw [hn, ← hv_12e]; exact hx_16)), (by first | omega | (simp; omega)), hO_27⟩
theorem pd_drain {p : Nat} {S : DS} {M : Chunk} (hR : DqP p S M)  (hS : Sat W w (M :: H :: F)) :
    Calls Try.prog 67 #[.pointer (some ⟨p, 0, none⟩)] w fun e w' => ∃ (a : Option Addr) (n k : Nat) (Z M' : Chunk), e = .returned (.slice a n k) ∧ OwnT encRef 48 2 a n k S.l Z ∧ DqP p { S with l := [] } M' ∧ Sat W w' (Z :: M' :: H :: F) := by
  refine callsA 15 Try.func67 rfl ?_
  refine seqE <| regionE <| pu1 <| nilO <| thenK_n <| seqE <| regionE <| pu1 ?_
  refine cX Try.call58 (pd_list hR (Sat.flat1 hS)) ?_
  rintro _ w_1 ⟨az_4, nz_5, kz_6, Z_7, rfl, hO_8, hS_2⟩
  have hS_3 := Sat.unflat2 hS_2; have hn_az_4 := hO_8.len; have hl_az_4 := hO_8.le
  refine pu1 <| nilO <| thenK_n <| seqE <| seqE <| regionE <| pu2 <| nilO <| thenK_n <| cTt ?_
  obtain ⟨a, n, k, t, r, c, rfl, hO, hcap, hRg, hW⟩ := hR
  have hS_10 := (hS_3.pick 1 rfl)
  have hS_9 : Sat W _ ([(p, .cells #[.slice a n k, .int .i64 ((t : Nat) : Int), .int .i64 ((S.l.length : Nat) : Int)] 118 (0, 0))] :: c :: Z_7 :: H :: F) := Sat.perm hS_10 (by simp)
  have hn := hO.len; have hl := hO.le; have hw1 := hW.c; have hw2 := hW.n; have hr1 := hRg.1; have hr2 := hRg.2.1
  refine regionE <| pu4 ?_
  refine sT hS_9 0 1 (.int .i64 0) [.int .i64 0] #[.slice a n k, .int .i64 0, .int .i64 ((S.l.length : Nat) : Int)] Try.sizeOf3 ?_
  intro w_11 hS_12
  refine pu2 ?_
  refine sT hS_12 0 2 (.int .i64 0) [.int .i64 0] #[.slice a n k, .int .i64 0, .int .i64 0] Try.sizeOf3 ?_
  intro w_13 hS_14
  refine nilO <| thenK_n <| seqE <| regionE <| pu2 <| nilO <| thenK_n <| retE <| retT [.slice az_4 nz_5 kz_6] <| ?_
  have hS_15 := (hS_14.pick 2 rfl)
  have hS_16 : Sat W _ (Z_7 :: ([(p, .cells #[.slice a n k, .int .i64 0, .int .i64 0] 118 (0, 0))] ++ c) :: H :: F) := Sat.perm (show Sat W _ (Z_7 :: [(p, .cells #[.slice a n k, .int .i64 0, .int .i64 0] 118 (0, 0))] :: c :: H :: F) from hS_15) (by simp)
  exact ⟨_, _, _, _, _, rfl, hO_8, ⟨_, _, _, 0, _, _, rfl, hO, hcap, Ring.nil (by omega), ⟨hW.c, by simp; omega⟩⟩, hS_16⟩
theorem pd_remove {p : Nat} {S : DS} {M : Chunk} (hR : DqP p S M) (j : Int) (hS : Sat W w (M :: H :: F)) :
    Calls Try.prog 71 #[.pointer (some ⟨p, 0, none⟩), .int .i64 j] w fun e w' => ∃ (M' : Chunk) (v : Int), e = .returned (.int .i64 v) ∧ DqP p ({ S with l := without j S.l }) M' ∧ Sat W w' (M' :: H :: F) := by
  obtain ⟨a, n, k, t, r, c, rfl, hO, hcap, hRg, hW⟩ := hR
  have hS_1 : Sat W _ ([(p, .cells #[.slice a n k, .int .i64 ((t : Nat) : Int), .int .i64 ((S.l.length : Nat) : Int)] 118 (0, 0))] :: c :: H :: F) := Sat.perm hS (by simp)
  have hn := hO.len; have hl := hO.le; have hw1 := hW.c; have hw2 := hW.n; have hr1 := hRg.1; have hr2 := hRg.2.1
  refine callsA 54 Try.func71 rfl ?_
  refine seqE <| regionE <| pu1 <| nilO <| thenK_n <| seqE <| seqE <| regionE <| pu2 <| nilO <| thenK_n <| cFf <| skipE <| thenK_n <| seqE <| regionE <| pu1 <| nilO <| thenK_n <| seqE <| seqE <| regionE <| pu3 ?_
  refine sL hS_1 0 2 (.int .i64 ((S.l.length : Nat) : Int)) (Try.isAgg3 _) ?_
  refine pu1 <| nilO <| thenK_n <| blockE ?_
  refine loopA (γ := Nat × (List Ref) × Chunk × Int) (fun ⟨i, ri, ci, kp⟩ => [(0, .pointer (some ⟨p, 0, none⟩)), (1, .int .i64 j), (14, .int .i64 ((S.l.length : Nat) : Int)), (15, .int .i64 ((i : Nat) : Int)), (5, .int .i64 kp)]) (fun ⟨i, ri, ci, kp⟩ w => Sat W w ([(p, .cells #[.slice a n k, .int .i64 ((t : Nat) : Int), .int .i64 ((S.l.length : Nat) : Int)] 118 (0, 0))] :: ci :: H :: F) ∧ i ≤ S.l.length ∧ (OwnT encRef 48 2 a n k ri ci) ∧ (RemI ri t S.l j i) ∧ (kp = (((without j (S.l.take i)).length : Nat) : Int))) (fun ⟨i, ri, ci, kp⟩ => S.l.length - i) (0, r, c, 0) ⟨hS_1, by omega, hO, hRg.rem, by simp [without]⟩ ?_
  rintro ⟨i, ri, ci, kp⟩ ρ w_2 ⟨hS_3, hi, hOi, hRI, hkp⟩
  have hri := hOi.len; have hr3 := hRI.1; have hr4 := hRI.2.1; have hwl := without_len j (S.l.take i); rw [List.length_take] at hwl
  refine seqE <| regionE <| pu1 <| nilO <| thenK_n <| seqE ?_
  refine cD (((i : Nat) : Int) < ((S.l.length : Nat) : Int)) (fun hc_4 => ?_) (fun hc_4 => ?_)
  rotate_left
  · refine exitE <| thenK_x <| thenK_x <| blockK_x <| thenK_n <| seqE <| regionE <| pu3 ?_
    refine sL hS_3 0 2 (.int .i64 ((S.l.length : Nat) : Int)) (Try.isAgg3 _) ?_
    refine pu1 ?_
    refine sSub ((S.l.length : Nat) : Int) kp ?_
    refine pu1 <| nilO <| thenK_n <| seqE <| regionE <| pu4 ?_
    refine sT hS_3 0 2 (.int .i64 kp) [.int .i64 kp] #[.slice a n k, .int .i64 ((t : Nat) : Int), .int .i64 kp] Try.sizeOf3 ?_
    intro w_103 hS_104
    refine nilO <| thenK_n <| seqE <| regionE <| pu2 <| nilO <| thenK_n <| retE <| retT [.int .i64 (((S.l.length : Nat) : Int) - kp)] <| ?_
    have hS_105 : Sat W w_103 ([(p, .cells #[.slice a n k, .int .i64 ((t : Nat) : Int), .int .i64 (((without j S.l).length : Nat) : Int)] 118 (0, 0))] :: ci :: H :: F) := by rw [show ((((without j S.l).length : Nat) : Int)) = kp by rw [hkp, List.take_of_length_le (by omega)]]; exact hS_104
    have hS_106 : Sat W _ (([(p, .cells #[.slice a n k, .int .i64 ((t : Nat) : Int), .int .i64 (((without j S.l).length : Nat) : Int)] 118 (0, 0))] ++ ci) :: H :: F) := Sat.perm (show Sat W _ ([(p, .cells #[.slice a n k, .int .i64 ((t : Nat) : Int), .int .i64 (((without j S.l).length : Nat) : Int)] 118 (0, 0))] :: ci :: H :: F) from hS_105) (by simp)
    exact ⟨_, _, rfl, ⟨_, _, _, t, _, _, rfl, hOi, hcap, hRI.ring (by omega), ⟨hW.c, by have := without_len j S.l; dsimp only; omega⟩⟩, hS_106⟩
  refine skipE <| thenK_n <| seqE <| blockE <| seqE <| regionE <| pu2 <| nilO <| thenK_n <| seqE ?_
  refine drawP [6, 8, 9, 10] [(3, ⟨p, 0, none⟩, .slice a n k)] (Plan.sts [0, 1, 2, 4, 5] <| Plan.sts [3] <| .fk 6 9 (Plan.sts [7] <| .fk 8 9 (.ef 9 <| .ef 10 <| .fin) (.ef 8 <| .ef 10 <| .fin)) (.ef 6 <| Plan.sts [7] <| .ef 8 <| .ef 10 <| .fin)) rfl (by kernel_rfl) ⟨.inr (hS_3.cell 0 rfl rfl), trivial⟩ ?_
  have hS_5 := hS_3.drew
  refine qU [0, 1, 2, 4, 5] ?_
  refine qLd (.slice a n k) 0 Try.isAgg52 ?_
  refine qF ?_ ?_
  rotate_left
  · refine qO rfl ?_
    refine sAlloc hS_5 Try.zeroValue48 ?_
    intro b_67 w_68 hS_69
    refine nilO ⟨⟨.inr (hS_69.cell 1 rfl rfl), trivial⟩, ?_⟩
    refine qO rfl ?_
    have hS_70 := (hS_69.pick 1 rfl)
    refine cX Try.call86 (pd_place ((i : Nat) : Int) (by omega) (by omega) (by omega) hS_70) ?_
    rintro _ w_71 ⟨v_73, rfl, hv_74, hS_72⟩
    have hv_74e := hv_74.1; rw [Int.toNat_natCast, Int.toNat_natCast] at hv_74e
    refine nilO ⟨⟨.inr (hS_72.cell 0 rfl rfl), trivial⟩, ?_⟩
    obtain ⟨x_75, b_76, o_77, hx_78, hp_79, hq_80, ha_81⟩ := OwnT.elem hOi ((v_73 : Nat) : Int)
    rw [Int.toNat_natCast] at hx_78 hp_79 hq_80
    refine qY (.pointer (some ⟨b_76, o_77 + v_73 * 2, none⟩)) rfl (fun w _ => Y_idx (a := a) (i := ((v_73 : Nat) : Int)) (len := n) (cap := k) rfl Try.runUnderlying52 Try.sizeOf48 (by kernel_rfl) (by kernel_rfl) hq_80) ?_
    refine qO rfl ?_
    refine sLpA hS_72 (hp_79.up 2 rfl) 0 [.int .i64 x_75.job, .int .i64 x_75.task] (Try.isAgg48 _) (Try.sizeOf48 _) ?_
    refine nilO ⟨⟨.inr (hS_72.cell 0 rfl rfl), trivial⟩, ?_⟩
    refine qO rfl ?_
    refine sT hS_72 1 0 (.agg #[.int .i64 x_75.job, .int .i64 x_75.task]) [.int .i64 x_75.job, .int .i64 x_75.task] #[.int .i64 x_75.job, .int .i64 x_75.task] Try.sizeOf48 ?_
    intro w_82 hS_83
    refine nilO ⟨⟨.inl (by kernel_rfl), trivial⟩, ?_⟩
    refine qN ?_
    refine thenK_n <| seqE <| regionE <| pu1 ?_
    refine sL hS_83 1 0 (.int .i64 x_75.job) (Try.isAgg3 _) ?_
    refine pu2 <| nilO <| thenK_n <| ?_
    refine cN x_75.job j (fun hc_84 => ?_) (fun hc_84 => ?_)
    · refine skipE <| blockK_n <| thenK_n <| regionE ?_
      refine sAdd ((i : Nat) : Int) 1 ?_
      refine pu1 <| nilO <| thenK_n <| ?_
      have hS_85 := (hS_83.dropAt 1 rfl)
      have hxx := hRI.at (by omega) (by rw [hri, ← hv_74e]; exact hx_78)
      exact ⟨(i + 1, ri, ci, kp), by first | omega | (dsimp only; omega), alA, hS_85, by omega, hOi, hRI.drop hxx (by omega), by rw [hkp, without_same hxx (by omega)]⟩
    refine seqE ?_
    refine drawE [6, 9] [(3, ⟨p, 0, none⟩, .slice a n k), (7, ⟨b_67, 0, none⟩, .int .i64 x_75.job), (7, ⟨b_67, 1, none⟩, .int .i64 x_75.task)] [(true, [0, 1, 2, 4, 5]), (true, [3]), (true, [7]), (false, [6]), (true, [8]), (false, [9])] rfl (by kernel_rfl) ⟨.inr (hS_83.cell 0 rfl rfl), .inr (hS_83.cell 1 rfl rfl), .inr (hS_83.cell 1 rfl rfl), trivial⟩ ?_
    have hS_86 := hS_83.drew
    refine wU [0, 1, 2, 4, 5] ?_
    refine wLd (.slice a n k) 0 Try.isAgg52 ?_
    refine wY (.agg #[.int .i64 x_75.job, .int .i64 x_75.task]) rfl (fun w hF => Y_loadF rfl (Try.isAgg48 w) (Try.sizeOf48 w) (by kernel_rfl) rfl ⟨hF 1 _ _ rfl, hF 2 _ _ rfl, trivial⟩) ?_
    refine wO rfl ?_
    refine cX Try.call86 (pd_place kp (by omega) (by omega) (by omega) hS_86) ?_
    rintro _ w_87 ⟨v_89, rfl, hv_90, hS_88⟩
    have hv_90e := hv_90.1; rw [Int.toNat_natCast, show (kp).toNat = (without j (S.l.take i)).length by omega] at hv_90e
    refine nilO ⟨⟨.inr (hS_88.cell 0 rfl rfl), .inr (hS_88.cell 1 rfl rfl), .inr (hS_88.cell 1 rfl rfl), trivial⟩, ?_⟩
    obtain ⟨x_91, b_92, o_93, hx_94, hp_95, hq_96, ha_97⟩ := OwnT.elem hOi ((v_89 : Nat) : Int)
    rw [Int.toNat_natCast] at hx_94 hp_95 hq_96
    refine wY (.pointer (some ⟨b_92, o_93 + v_89 * 2, none⟩)) rfl (fun w _ => Y_idx (a := a) (i := ((v_89 : Nat) : Int)) (len := n) (cap := k) rfl Try.runUnderlying52 Try.sizeOf48 (by kernel_rfl) (by kernel_rfl) hq_96) ?_
    refine wO rfl ?_
    refine sStF hS_88 hOi ha_97 2 v_89 0 x_91 (⟨x_75.job, x_75.task⟩ : Ref) hx_94 (.agg #[.int .i64 x_75.job, .int .i64 x_75.task]) [.int .i64 x_75.job, .int .i64 x_75.task] Try.sizeOf48 ?_
    intro w_98 c_100 hO_101 hS_99
    refine nilO ⟨⟨.inl (by kernel_rfl), .inl (by kernel_rfl), .inl (by kernel_rfl), trivial⟩, ?_⟩
    refine wN ?_
    refine thenK_n <| regionE <| pu1 ?_
    refine sAdd kp 1 ?_
    refine pu1 <| nilO <| blockK_n <| thenK_n <| regionE ?_
    refine sAdd ((i : Nat) : Int) 1 ?_
    refine pu1 <| nilO <| thenK_n <| ?_
    have hS_102 := (hS_99.dropAt 1 rfl)
    have hxx := hRI.at (by omega) (by rw [hri, ← hv_74e]; exact hx_78)
    have hrk := hRI.keep hxx (by omega)
    exact ⟨(i + 1, (ri.set v_89 (⟨x_75.job, x_75.task⟩ : Ref)), c_100, (kp + 1)), by first | omega | (dsimp only; omega), alA, hS_102, by omega, hO_101, (by rw [hri, ← hv_90e] at hrk; exact hrk), by rw [hkp, without_snoc hxx (by omega), List.length_append, List.length_singleton]; omega⟩
  refine qO rfl ?_
  refine cX Try.call86 (pd_place ((i : Nat) : Int) (by omega) (by omega) (by omega) hS_5) ?_
  rintro _ w_6 ⟨v_8, rfl, hv_9, hS_7⟩
  have hv_9e := hv_9.1; rw [Int.toNat_natCast, Int.toNat_natCast] at hv_9e
  refine nilO ⟨⟨.inr (hS_7.cell 0 rfl rfl), trivial⟩, ?_⟩
  obtain ⟨x_10, b_11, o_12, hx_13, hp_14, hq_15, ha_16⟩ := OwnT.elem hOi ((v_8 : Nat) : Int)
  rw [Int.toNat_natCast] at hx_13 hp_14 hq_15
  refine qY (.pointer (some ⟨b_11, o_12 + v_8 * 2, none⟩)) rfl (fun w _ => Y_idx (a := a) (i := ((v_8 : Nat) : Int)) (len := n) (cap := k) rfl Try.runUnderlying52 Try.sizeOf48 (by kernel_rfl) (by kernel_rfl) hq_15) ?_
  refine qF ?_ ?_
  · refine qO rfl ?_
    refine sLpA hS_7 (hp_14.up 1 rfl) 0 [.int .i64 x_10.job, .int .i64 x_10.task] (Try.isAgg48 _) (Try.sizeOf48 _) ?_
    refine nilO ⟨⟨.inr (hS_7.cell 0 rfl rfl), trivial⟩, ?_⟩
    refine qO rfl ?_
    refine sAlloc hS_7 Try.zeroValue48 ?_
    intro b_17 w_18 hS_19
    refine nilO ⟨⟨.inr (hS_19.cell 1 rfl rfl), trivial⟩, ?_⟩
    refine qO rfl ?_
    refine sT hS_19 0 0 (.agg #[.int .i64 x_10.job, .int .i64 x_10.task]) [.int .i64 x_10.job, .int .i64 x_10.task] #[.int .i64 x_10.job, .int .i64 x_10.task] Try.sizeOf48 ?_
    intro w_20 hS_21
    refine nilO ⟨⟨.inl (by kernel_rfl), trivial⟩, ?_⟩
    refine qN ?_
    refine thenK_n <| seqE <| regionE <| pu1 ?_
    refine sL hS_21 0 0 (.int .i64 x_10.job) (Try.isAgg3 _) ?_
    refine pu2 <| nilO <| thenK_n <| ?_
    refine cN x_10.job j (fun hc_22 => ?_) (fun hc_22 => ?_)
    · refine skipE <| blockK_n <| thenK_n <| regionE ?_
      refine sAdd ((i : Nat) : Int) 1 ?_
      refine pu1 <| nilO <| thenK_n <| ?_
      have hS_23 := (hS_21.dropAt 0 rfl)
      have hxx := hRI.at (by omega) (by rw [hri, ← hv_9e]; exact hx_13)
      exact ⟨(i + 1, ri, ci, kp), by first | omega | (dsimp only; omega), alA, hS_23, by omega, hOi, hRI.drop hxx (by omega), by rw [hkp, without_same hxx (by omega)]⟩
    refine seqE ?_
    refine drawE [6, 9] [(3, ⟨p, 0, none⟩, .slice a n k), (7, ⟨b_17, 0, none⟩, .int .i64 x_10.job), (7, ⟨b_17, 1, none⟩, .int .i64 x_10.task)] [(true, [0, 1, 2, 4, 5]), (true, [3]), (true, [7]), (false, [6]), (true, [8]), (false, [9])] rfl (by kernel_rfl) ⟨.inr (hS_21.cell 1 rfl rfl), .inr (hS_21.cell 0 rfl rfl), .inr (hS_21.cell 0 rfl rfl), trivial⟩ ?_
    have hS_24 := hS_21.drew
    refine wU [0, 1, 2, 4, 5] ?_
    refine wLd (.slice a n k) 0 Try.isAgg52 ?_
    refine wY (.agg #[.int .i64 x_10.job, .int .i64 x_10.task]) rfl (fun w hF => Y_loadF rfl (Try.isAgg48 w) (Try.sizeOf48 w) (by kernel_rfl) rfl ⟨hF 1 _ _ rfl, hF 2 _ _ rfl, trivial⟩) ?_
    refine wO rfl ?_
    have hS_25 := (hS_24.pick 1 rfl)
    refine cX Try.call86 (pd_place kp (by omega) (by omega) (by omega) hS_25) ?_
    rintro _ w_26 ⟨v_28, rfl, hv_29, hS_27⟩
    have hv_29e := hv_29.1; rw [Int.toNat_natCast, show (kp).toNat = (without j (S.l.take i)).length by omega] at hv_29e
    refine nilO ⟨⟨.inr (hS_27.cell 0 rfl rfl), .inr (hS_27.cell 1 rfl rfl), .inr (hS_27.cell 1 rfl rfl), trivial⟩, ?_⟩
    obtain ⟨x_30, b_31, o_32, hx_33, hp_34, hq_35, ha_36⟩ := OwnT.elem hOi ((v_28 : Nat) : Int)
    rw [Int.toNat_natCast] at hx_33 hp_34 hq_35
    refine wY (.pointer (some ⟨b_31, o_32 + v_28 * 2, none⟩)) rfl (fun w _ => Y_idx (a := a) (i := ((v_28 : Nat) : Int)) (len := n) (cap := k) rfl Try.runUnderlying52 Try.sizeOf48 (by kernel_rfl) (by kernel_rfl) hq_35) ?_
    refine wO rfl ?_
    refine sStF hS_27 hOi ha_36 2 v_28 0 x_30 (⟨x_10.job, x_10.task⟩ : Ref) hx_33 (.agg #[.int .i64 x_10.job, .int .i64 x_10.task]) [.int .i64 x_10.job, .int .i64 x_10.task] Try.sizeOf48 ?_
    intro w_37 c_39 hO_40 hS_38
    refine nilO ⟨⟨.inl (by kernel_rfl), .inl (by kernel_rfl), .inl (by kernel_rfl), trivial⟩, ?_⟩
    refine wN ?_
    refine thenK_n <| regionE <| pu1 ?_
    refine sAdd kp 1 ?_
    refine pu1 <| nilO <| blockK_n <| thenK_n <| regionE ?_
    refine sAdd ((i : Nat) : Int) 1 ?_
    refine pu1 <| nilO <| thenK_n <| ?_
    have hS_41 := (hS_38.dropAt 1 rfl)
    have hxx := hRI.at (by omega) (by rw [hri, ← hv_9e]; exact hx_13)
    have hrk := hRI.keep hxx (by omega)
    exact ⟨(i + 1, (ri.set v_28 (⟨x_10.job, x_10.task⟩ : Ref)), c_39, (kp + 1)), by first | omega | (dsimp only; omega), alA, hS_41, by omega, hO_40, (by rw [hri, ← hv_29e] at hrk; exact hrk), by rw [hkp, without_snoc hxx (by omega), List.length_append, List.length_singleton]; omega⟩
  refine qO rfl ?_
  refine sAlloc hS_7 Try.zeroValue48 ?_
  intro b_42 w_43 hS_44
  refine nilO ⟨⟨.inr (hS_44.cell 1 rfl rfl), trivial⟩, ?_⟩
  refine qO rfl ?_
  refine sLpA hS_44 (hp_14.up 2 rfl) 0 [.int .i64 x_10.job, .int .i64 x_10.task] (Try.isAgg48 _) (Try.sizeOf48 _) ?_
  refine nilO ⟨⟨.inr (hS_44.cell 1 rfl rfl), trivial⟩, ?_⟩
  refine qO rfl ?_
  refine sT hS_44 0 0 (.agg #[.int .i64 x_10.job, .int .i64 x_10.task]) [.int .i64 x_10.job, .int .i64 x_10.task] #[.int .i64 x_10.job, .int .i64 x_10.task] Try.sizeOf48 ?_
  intro w_45 hS_46
  refine nilO ⟨⟨.inl (by kernel_rfl), trivial⟩, ?_⟩
  refine qN ?_
  refine thenK_n <| seqE <| regionE <| pu1 ?_
  refine sL hS_46 0 0 (.int .i64 x_10.job) (Try.isAgg3 _) ?_
  refine pu2 <| nilO <| thenK_n <| ?_
  refine cN x_10.job j (fun hc_47 => ?_) (fun hc_47 => ?_)
  · refine skipE <| blockK_n <| thenK_n <| regionE ?_
    refine sAdd ((i : Nat) : Int) 1 ?_
    refine pu1 <| nilO <| thenK_n <| ?_
    have hS_48 := (hS_46.dropAt 0 rfl)
    have hxx := hRI.at (by omega) (by rw [hri, ← hv_9e]; exact hx_13)
    exact ⟨(i + 1, ri, ci, kp), by first | omega | (dsimp only; omega), alA, hS_48, by omega, hOi, hRI.drop hxx (by omega), by rw [hkp, without_same hxx (by omega)]⟩
  refine seqE ?_
  refine drawE [6, 9] [(3, ⟨p, 0, none⟩, .slice a n k), (7, ⟨b_42, 0, none⟩, .int .i64 x_10.job), (7, ⟨b_42, 1, none⟩, .int .i64 x_10.task)] [(true, [0, 1, 2, 4, 5]), (true, [3]), (true, [7]), (false, [6]), (true, [8]), (false, [9])] rfl (by kernel_rfl) ⟨.inr (hS_46.cell 1 rfl rfl), .inr (hS_46.cell 0 rfl rfl), .inr (hS_46.cell 0 rfl rfl), trivial⟩ ?_
  have hS_49 := hS_46.drew
  refine wU [0, 1, 2, 4, 5] ?_
  refine wLd (.slice a n k) 0 Try.isAgg52 ?_
  refine wY (.agg #[.int .i64 x_10.job, .int .i64 x_10.task]) rfl (fun w hF => Y_loadF rfl (Try.isAgg48 w) (Try.sizeOf48 w) (by kernel_rfl) rfl ⟨hF 1 _ _ rfl, hF 2 _ _ rfl, trivial⟩) ?_
  refine wO rfl ?_
  have hS_50 := (hS_49.pick 1 rfl)
  refine cX Try.call86 (pd_place kp (by omega) (by omega) (by omega) hS_50) ?_
  rintro _ w_51 ⟨v_53, rfl, hv_54, hS_52⟩
  have hv_54e := hv_54.1; rw [Int.toNat_natCast, show (kp).toNat = (without j (S.l.take i)).length by omega] at hv_54e
  refine nilO ⟨⟨.inr (hS_52.cell 0 rfl rfl), .inr (hS_52.cell 1 rfl rfl), .inr (hS_52.cell 1 rfl rfl), trivial⟩, ?_⟩
  obtain ⟨x_55, b_56, o_57, hx_58, hp_59, hq_60, ha_61⟩ := OwnT.elem hOi ((v_53 : Nat) : Int)
  rw [Int.toNat_natCast] at hx_58 hp_59 hq_60
  refine wY (.pointer (some ⟨b_56, o_57 + v_53 * 2, none⟩)) rfl (fun w _ => Y_idx (a := a) (i := ((v_53 : Nat) : Int)) (len := n) (cap := k) rfl Try.runUnderlying52 Try.sizeOf48 (by kernel_rfl) (by kernel_rfl) hq_60) ?_
  refine wO rfl ?_
  refine sStF hS_52 hOi ha_61 2 v_53 0 x_55 (⟨x_10.job, x_10.task⟩ : Ref) hx_58 (.agg #[.int .i64 x_10.job, .int .i64 x_10.task]) [.int .i64 x_10.job, .int .i64 x_10.task] Try.sizeOf48 ?_
  intro w_62 c_64 hO_65 hS_63
  refine nilO ⟨⟨.inl (by kernel_rfl), .inl (by kernel_rfl), .inl (by kernel_rfl), trivial⟩, ?_⟩
  refine wN ?_
  refine thenK_n <| regionE <| pu1 ?_
  refine sAdd kp 1 ?_
  refine pu1 <| nilO <| blockK_n <| thenK_n <| regionE ?_
  refine sAdd ((i : Nat) : Int) 1 ?_
  refine pu1 <| nilO <| thenK_n <| ?_
  have hS_66 := (hS_63.dropAt 1 rfl)
  have hxx := hRI.at (by omega) (by rw [hri, ← hv_9e]; exact hx_13)
  have hrk := hRI.keep hxx (by omega)
  exact ⟨(i + 1, (ri.set v_53 (⟨x_10.job, x_10.task⟩ : Ref)), c_64, (kp + 1)), by first | omega | (dsimp only; omega), alA, hS_66, by omega, hO_65, (by rw [hri, ← hv_54e] at hrk; exact hrk), by rw [hkp, without_snoc hxx (by omega), List.length_append, List.length_singleton]; omega⟩
theorem pd_new {cs : List Chunk} (c : Int) (hc : 1 ≤ c ∧ c ≤ 256) (hS : Sat W w cs) :
    Calls Try.prog 44 #[.int .i64 c] w fun e w' => ∃ (p : Nat) (M : Chunk), e = .returned (.tuple #[.pointer (some ⟨p, 0, none⟩), .int .i64 0]) ∧ DqP p ⟨c, []⟩ M ∧ Sat W w' (M :: cs) := by
  refine callsA 14 Try.func44 rfl ?_
  refine seqE <| regionE <| pu2 <| nilO <| thenK_n <| seqE <| seqE <| regionE <| pu3 ?_
  refine sD 6 (c < 1) (fun hc_1 => ?_) (fun hc_1 => ?_)
  · refine pu3 <| nilO <| thenK_n <| cTt <| seqE <| regionE <| pu2 <| nilO <| thenK_n <| retE <| thenK_r <| retT [.pointer none, .int .i64 2] <| ?_
    omega
  refine pu3 <| nilO <| thenK_n <| ?_
  refine cD (c > 256) (fun hc_2 => ?_) (fun hc_2 => ?_)
  · refine seqE <| regionE <| pu2 <| nilO <| thenK_n <| retE <| thenK_r <| retT [.pointer none, .int .i64 2] <| ?_
    omega
  refine skipE <| thenK_n <| seqE <| regionE <| pu1 ?_
  refine sMake (kl := .i64) (kc := .i64) (enc := encRef) (sz := 2) (nb := 16) hS ⟨0, 0⟩ (c).toNat c ((by omega) : c = (((c).toNat : Nat) : Int)) Try.underlying52 (i := Try.t48) (by kernel_rfl) (fun _ => rfl) ?_
  intro b_3 c_4 w_6 hO_5 hS_7
  refine pu1 ?_
  refine sBox hS_7 (.agg #[.slice (some ⟨b_3, 0, none⟩) ((c).toNat) ((c).toNat), .int .i64 0, .int .i64 0]) #[.slice (some ⟨b_3, 0, none⟩) ((c).toNat) ((c).toNat), .int .i64 0, .int .i64 0] ?_
  intro b_8 w_9 hS_10
  refine pu2 <| nilO <| thenK_n <| retE <| retT [.pointer (some ⟨b_8, 0, none⟩), .int .i64 0] <| ?_
  have hS_11 : Sat W _ (([(b_8, .cells #[.slice (some ⟨b_3, 0, none⟩) ((c).toNat) ((c).toNat), .int .i64 0, .int .i64 0] 118 (0, 0))] ++ c_4) :: cs) := Sat.perm (show Sat W _ ([(b_8, .cells #[.slice (some ⟨b_3, 0, none⟩) ((c).toNat) ((c).toNat), .int .i64 0, .int .i64 0] 118 (0, 0))] :: c_4 :: cs) from hS_10) (by simp)
  exact ⟨_, _, rfl, ⟨_, _, _, 0, _, _, rfl, hO_5, by dsimp only; omega, Ring.nil (by rw [List.length_replicate]; omega), ⟨hc, by simp; omega⟩⟩, hS_11⟩
end Go.Proofs.Ytegmennaekipaaa
