import Derived.Test.YtegmennaekipaaaSort
namespace Go.Proofs.Ytegmennaekipaaa
open Go Go.E
set_option linter.unusedVariables false
set_option linter.unusedSimpArgs false
set_option linter.unnecessarySimpa false
set_option maxRecDepth 100000
set_option maxHeartbeats 2000000
variable {W w : World} {H : Chunk} {F : List Chunk}
/-- Ascending up to place i. -/
def SortTo (zs : List Int) (i : Nat) : Prop := ∀ (p q : Nat) (u v : Int), p < q → q < i → zs[p]? = some u → zs[q]? = some v → u ≤ v
def InsI (ys : List Int) (i j : Nat) : Prop := ∀ (p q : Nat) (u v : Int), p < q → q ≤ i → q ≠ j → ys[p]? = some u → ys[q]? = some v → u ≤ v
theorem SortTo.one (zs : List Int) {i : Nat} (h : i ≤ 1) : SortTo zs i := fun p q u v h1 h2 => by omega
theorem SortTo.ins {zs : List Int} {i : Nat} (h : SortTo zs i) : InsI zs i i := fun p q u v h1 h2 h3 => h p q u v h1 (by omega)
theorem InsI.zero {ys : List Int} {i j : Nat} (h : InsI ys i j) (hj : j = 0) : SortTo ys (i + 1) := fun p q u v h1 h2 => h p q u v h1 (by omega) (by omega)
theorem InsI.done {ys : List Int} {i j : Nat} {a b : Int} (h : InsI ys i j) (hj : 0 < j) (ha : ys[j - 1]? = some a) (hb : ys[j]? = some b) (hab : a ≤ b) : SortTo ys (i + 1) := by
  intro p q u v h1 h2 hu hv
  by_cases e : q = j
  · subst e
    rw [hb] at hv; obtain rfl := Option.some.inj hv
    by_cases e2 : p = q - 1
    · subst e2; rw [ha] at hu; obtain rfl := Option.some.inj hu; exact hab
    · exact Int.le_trans (h p (q - 1) u a (by omega) (by omega) (by omega) hu ha) hab
  · exact h p q u v h1 (by omega) e hu hv
theorem adj {ys : List Int} {j : Nat} {a b : Int} (hj : 0 < j) (ha : ys[j - 1]? = some a) (hb : ys[j]? = some b) : ∃ A B, ys = A ++ a :: b :: B ∧ A.length = j - 1 := by
  obtain ⟨h1, e1⟩ := List.getElem?_eq_some_iff.1 ha
  obtain ⟨h2, e2⟩ := List.getElem?_eq_some_iff.1 hb
  refine ⟨ys.take (j - 1), ys.drop (j + 1), ?_, by rw [List.length_take]; omega⟩
  have d1 : ys.drop (j - 1) = a :: ys.drop j := by rw [List.drop_eq_getElem_cons h1, e1, show j - 1 + 1 = j by omega]
  have d2 : ys.drop j = b :: ys.drop (j + 1) := by rw [List.drop_eq_getElem_cons h2, e2]
  rw [← d2, ← d1, List.take_append_drop]
theorem swap_eq {A B : List Int} {a b : Int} {j : Nat} (hj : 0 < j) (hA : A.length = j - 1) : ((A ++ a :: b :: B).set j a).set (j - 1) b = A ++ b :: a :: B := by
  rw [List.set_append_right _ _ (by omega), List.set_append_right _ _ (by omega), hA, Nat.sub_self, show j - (j - 1) = 1 by omega]; rfl
theorem swap_perm {ys : List Int} {j : Nat} {a b : Int} (hj : 0 < j) (ha : ys[j - 1]? = some a) (hb : ys[j]? = some b) : ((ys.set j a).set (j - 1) b).Perm ys := by
  obtain ⟨A, B, rfl, hA⟩ := adj hj ha hb
  rw [swap_eq hj hA]
  exact List.Perm.append_left A (List.Perm.swap a b B)
theorem InsI.swap {ys : List Int} {i j : Nat} {a b : Int} (h : InsI ys i j) (hj : 0 < j) (hji : j ≤ i) (ha : ys[j - 1]? = some a) (hb : ys[j]? = some b) (hab : b < a) : InsI ((ys.set j a).set (j - 1) b) i (j - 1) := by
  have hlj := (List.getElem?_eq_some_iff.1 hb).1
  intro p q u v h1 h2 h3 hu hv
  have get : ∀ k w, ((ys.set j a).set (j - 1) b)[k]? = some w → (k = j - 1 ∧ w = b) ∨ (k = j ∧ w = a) ∨ (k ≠ j ∧ k ≠ j - 1 ∧ ys[k]? = some w) := by
    intro k w hw
    rw [List.getElem?_set, List.length_set] at hw
    by_cases e : j - 1 = k
    · rw [if_pos e, if_pos (by omega)] at hw; exact .inl ⟨e.symm, (Option.some.inj hw).symm⟩
    · rw [if_neg e, List.getElem?_set] at hw
      by_cases e2 : j = k
      · rw [if_pos e2, if_pos (by omega)] at hw; exact .inr (.inl ⟨e2.symm, (Option.some.inj hw).symm⟩)
      · rw [if_neg e2] at hw; exact .inr (.inr ⟨fun z => e2 z.symm, fun z => e z.symm, hw⟩)
  rcases get q v hv with ⟨rfl, rfl⟩ | ⟨rfl, rfl⟩ | ⟨q1, q2, hq⟩
  · exact absurd rfl h3
  · rcases get p u hu with ⟨rfl, rfl⟩ | ⟨rfl, _⟩ | ⟨p1, p2, hp⟩
    · omega
    · omega
    · exact h p (q - 1) u v (by omega) (by omega) (by omega) hp ha
  · rcases get p u hu with ⟨rfl, rfl⟩ | ⟨rfl, rfl⟩ | ⟨p1, p2, hp⟩
    · exact h j q u v (by omega) h2 q1 hb hq
    · exact h (p - 1) q u v (by omega) h2 q1 ha hq
    · exact h p q u v h1 h2 q1 hp hq
theorem asc_unique : ∀ {l m : List Int}, l.Perm m → SortTo l l.length → SortTo m m.length → l = m
  | [], m, h, _, _ => by rw [List.nil_perm.1 h]
  | x :: l, [], h, _, _ => by have := h.length_eq; simp at this
  | x :: l, y :: m, h, hl, hm => by
    have hx : x ∈ y :: m := h.subset List.mem_cons_self
    have hy : y ∈ x :: l := h.symm.subset List.mem_cons_self
    have e : x = y := by
      have h1 : y ≤ x := by
        rcases List.mem_cons.1 hx with e | hx
        · omega
        · obtain ⟨k, hk⟩ := List.getElem?_of_mem hx
          exact hm 0 (k + 1) y x (by omega) (by have := (List.getElem?_eq_some_iff.1 hk).1; simp; omega) rfl (by simpa using hk)
      have h2 : x ≤ y := by
        rcases List.mem_cons.1 hy with e | hy
        · omega
        · obtain ⟨k, hk⟩ := List.getElem?_of_mem hy
          exact hl 0 (k + 1) x y (by omega) (by have := (List.getElem?_eq_some_iff.1 hk).1; simp; omega) rfl (by simpa using hk)
      omega
    subst e
    have tl : ∀ {z : Int} {n : List Int}, SortTo (z :: n) (z :: n).length → SortTo n n.length := fun h p q u v h1 h2 hu hv => h (p + 1) (q + 1) u v (by omega) (by simp; omega) (by simpa using hu) (by simpa using hv)
    rw [asc_unique ((List.perm_cons x).1 h) (tl hl) (tl hm)]
theorem q_ins {a : Option Addr} {n k : Nat} {xs : List Int} {c : Chunk} {F : List Chunk} (hO : OwnT encI 3 1 a n k xs c) (hS : Sat W w (c :: F)) :
    Calls Try.prog 101 #[.slice a n k, .int .i64 0, .int .i64 ((n : Nat) : Int)] w fun e w' => ∃ (ys : List Int) (c' : Chunk), e = .returned (.tuple #[]) ∧ OwnT encI 3 1 a n k ys c' ∧ ys.Perm xs ∧ SortTo ys ys.length ∧ Sat W w' (c' :: F) := by
  have hn := hO.len; have hl := hO.le
  refine callsA 49 Try.func101 rfl ?_
  refine seqE <| regionE <| pu3 <| nilO <| thenK_n <| blockE ?_
  refine loopA (γ := Nat × (List Int) × Chunk) (fun ⟨i, zs, C⟩ => [(0, .slice a n k), (1, .int .i64 0), (2, .int .i64 ((n : Nat) : Int)), (6, .int .i64 ((i : Nat) : Int))]) (fun ⟨i, zs, C⟩ w => Sat W w (C :: F) ∧ (1 ≤ i ∧ i ≤ max n 1) ∧ OwnT encI 3 1 a n k zs C ∧ zs.Perm xs ∧ SortTo zs i) (fun ⟨i, zs, C⟩ => n - i) (1, xs, c) ⟨hS, by omega, hO, (List.Perm.refl _), (SortTo.one _ (Nat.le_refl 1))⟩ ?_
  rintro ⟨i, zs, C⟩ ρ w_1 ⟨hS_2, hi, hOz, hPz, hSz⟩
  refine seqE <| seqE <| regionE <| pu3 <| nilO <| thenK_n <| ?_
  refine cD (((i : Nat) : Int) < ((n : Nat) : Int)) (fun hc_3 => ?_) (fun hc_3 => ?_)
  rotate_left
  · refine exitE <| thenK_x <| thenK_x <| blockK_x <| ?_
    refine ret0n rfl <| ?_
    have hnz := hOz.len
    exact ⟨zs, C, rfl, hOz, hPz, (by by_cases h1 : n ≤ 1; exact SortTo.one _ (by omega); rw [show zs.length = i by omega]; exact hSz), hS_2⟩
  refine skipE <| thenK_n <| seqE <| blockE <| seqE <| regionE <| pu2 <| nilO <| thenK_n <| blockE ?_
  refine loopA (γ := Nat × Int × (List Int) × Chunk) (fun ⟨j, jj, ys, D⟩ => [(0, .slice a n k), (1, .int .i64 0), (2, .int .i64 ((n : Nat) : Int)), (6, .int .i64 ((i : Nat) : Int)), (7, .int .i64 jj)]) (fun ⟨j, jj, ys, D⟩ w => Sat W w (D :: F) ∧ (j ≤ i ∧ jj = ((j : Nat) : Int)) ∧ OwnT encI 3 1 a n k ys D ∧ ys.Perm xs ∧ InsI ys i j) (fun ⟨j, jj, ys, D⟩ => j) (i, ((i : Nat) : Int), zs, C) ⟨hS_2, ⟨Nat.le_refl i, rfl⟩, hOz, hPz, hSz.ins⟩ ?_
  rintro ⟨j, jj, ys, D⟩ ρ w_4 ⟨hS_5, hji, hOy, hPy, hIj⟩
  refine seqE <| seqE ?_
  by_cases hc_6 : (jj : Int) > 0
  rotate_left
  · refine drawE [13] [] [(true, [0, 1, 2, 3]), (true, [4, 5, 6, 8, 9, 10, 11, 7, 12]), (false, [13]), (true, [14])] rfl (by kernel_rfl) trivial ?_
    have hS_50 := hS_5.drew
    refine wU [0, 1, 2, 3] ?_
    refine wFix 19 _ false (decide_eq_false hc_6) ?_
    refine wU [4, 5, 6, 8, 9, 10, 11, 7, 12] ?_
    refine wO rfl ?_
    refine pu1 ?_
    refine nilO ⟨trivial, ?_⟩
    refine wU [14] ?_
    refine wN ?_
    refine thenK_n <| cFf <| exitE <| thenK_x <| thenK_x <| blockK_x <| blockK_n <| thenK_n <| regionE <| pu1 ?_
    refine sAdd ((i : Nat) : Int) 1 ?_
    refine pu1 <| nilO <| thenK_n <| ?_
    exact ⟨(i + 1, ys, D), by first | omega | (dsimp only; omega), alA, hS_50, by omega, hOy, hPy, (hIj.zero (by omega))⟩
  obtain ⟨x_7, b_8, o_9, hx_10, hp_11, hq_12, ha_13⟩ := OwnT.elem hOy jj
  obtain ⟨x_14, b_15, o_16, hx_17, hp_18, hq_19, ha_20⟩ := OwnT.elem hOy (jj - 1)
  refine drawE [13] [(7, ⟨b_8, o_9 + (jj).toNat * 1, none⟩, .int .i64 x_7), (12, ⟨b_15, o_16 + ((jj - 1)).toNat * 1, none⟩, .int .i64 x_14)] [(true, [0, 1, 2, 3]), (true, [4, 5]), (true, [6]), (true, [8, 9]), (true, [10]), (true, [11]), (true, [7]), (true, [12]), (false, [13]), (true, [14])] rfl (by kernel_rfl) ⟨.inr ((hp_11.up 0 rfl).cell hS_5 (k := 0) rfl), .inr ((hp_18.up 0 rfl).cell hS_5 (k := 0) rfl), trivial⟩ ?_
  have hS_21 := hS_5.drew
  refine wU [0, 1, 2, 3] ?_
  refine wFix 19 _ true (decide_eq_true hc_6) ?_
  refine wU [4, 5] ?_
  refine wY (.pointer (some ⟨b_8, o_9 + (jj).toNat * 1, none⟩)) rfl (fun w _ => Y_idx (a := a) (i := jj) (len := n) (cap := k) rfl Try.runUnderlying22 Try.sizeOf3 (by kernel_rfl) (by kernel_rfl) hq_12) ?_
  refine wU [8, 9] ?_
  refine wSub jj 1 ?_
  refine wY (.pointer (some ⟨b_15, o_16 + ((jj - 1)).toNat * 1, none⟩)) rfl (fun w _ => Y_idx (a := a) (i := (jj - 1)) (len := n) (cap := k) rfl Try.runUnderlying22 Try.sizeOf3 (by kernel_rfl) (by kernel_rfl) hq_19) ?_
  refine wLd (.int .i64 x_7) 0 Try.isAgg3 ?_
  refine wLd (.int .i64 x_14) 1 Try.isAgg3 ?_
  refine wO rfl ?_
  refine gY ?_
  refine cR Try.call107 (s_less x_7 x_14 (Sat.flat hS_21)) ?_
  intro w_22 hS_23
  refine nilO ⟨⟨.inl (by kernel_rfl), .inl (by kernel_rfl), trivial⟩, ?_⟩
  refine wU [14] ?_
  refine wN ?_
  refine thenK_n <| ?_
  refine cD (x_7 < x_14) (fun hc_25 => ?_) (fun hc_25 => ?_)
  rotate_left
  · refine exitE <| thenK_x <| thenK_x <| blockK_x <| blockK_n <| thenK_n <| regionE <| pu1 ?_
    refine sAdd ((i : Nat) : Int) 1 ?_
    refine pu1 <| nilO <| thenK_n <| ?_
    have ha9 : ys[j - 1]? = some x_14 := by rw [show j - 1 = (jj - 1).toNat by omega]; exact hx_17
    have hb9 : ys[j]? = some x_7 := by rw [show j = jj.toNat by omega]; exact hx_10
    exact ⟨(i + 1, ys, D), by first | omega | (dsimp only; omega), alA, hS_23, by omega, hOy, hPy, (hIj.done (by omega) ha9 hb9 (by omega))⟩
  refine skipE <| thenK_n <| seqE <| blockE ?_
  obtain ⟨x_26, b_27, o_28, hx_29, hp_30, hq_31, ha_32⟩ := OwnT.elem hOy (jj - 1)
  obtain rfl : x_14 = x_26 := Option.some.inj (hx_17.symm.trans hx_29)
  obtain ⟨x_33, b_34, o_35, hx_36, hp_37, hq_38, ha_39⟩ := OwnT.elem hOy jj
  obtain rfl : x_7 = x_33 := Option.some.inj (hx_10.symm.trans hx_36)
  refine drawE [15, 17] [(9, ⟨b_27, o_28 + ((jj - 1)).toNat * 1, none⟩, .int .i64 x_14), (13, ⟨b_34, o_35 + (jj).toNat * 1, none⟩, .int .i64 x_7)] [(true, [0, 1, 2, 3]), (true, [4]), (true, [5, 6]), (true, [7]), (true, [8]), (true, [10, 11]), (true, [12]), (true, [9]), (true, [13]), (true, [14]), (false, [15]), (true, [16]), (false, [17])] rfl (by kernel_rfl) ⟨.inr ((hp_30.up 0 rfl).cell hS_23 (k := 0) rfl), .inr ((hp_37.up 0 rfl).cell hS_23 (k := 0) rfl), trivial⟩ ?_
  have hS_40 := hS_23.drew
  refine wU [0, 1, 2, 3] ?_
  refine wSub jj 1 ?_
  refine wU [5, 6] ?_
  refine wSub jj 1 ?_
  refine wY (.pointer (some ⟨b_27, o_28 + ((jj - 1)).toNat * 1, none⟩)) rfl (fun w _ => Y_idx (a := a) (i := (jj - 1)) (len := n) (cap := k) rfl Try.runUnderlying22 Try.sizeOf3 (by kernel_rfl) (by kernel_rfl) hq_31) ?_
  refine wU [10, 11] ?_
  refine wY (.pointer (some ⟨b_34, o_35 + (jj).toNat * 1, none⟩)) rfl (fun w _ => Y_idx (a := a) (i := jj) (len := n) (cap := k) rfl Try.runUnderlying22 Try.sizeOf3 (by kernel_rfl) (by kernel_rfl) hq_38) ?_
  refine wLd (.int .i64 x_14) 0 Try.isAgg3 ?_
  refine wLd (.int .i64 x_7) 1 Try.isAgg3 ?_
  refine wY (.pointer (some ⟨b_34, o_35 + (jj).toNat * 1, none⟩)) rfl (fun w _ => Y_idx (a := a) (i := jj) (len := n) (cap := k) rfl Try.runUnderlying22 Try.sizeOf3 (by kernel_rfl) (by kernel_rfl) hq_38) ?_
  refine wO rfl ?_
  refine sStF hS_40 hOy ha_39 0 (jj).toNat 0 x_7 x_14 hx_36 (.int .i64 x_14) [.int .i64 x_14] Try.sizeOf3 ?_
  intro w_41 c_43 hO_44 hS_42
  refine nilO ⟨⟨.inl (by kernel_rfl), .inl (by kernel_rfl), trivial⟩, ?_⟩
  refine wY (.pointer (some ⟨b_27, o_28 + ((jj - 1)).toNat * 1, none⟩)) rfl (fun w _ => Y_idx (a := a) (i := (jj - 1)) (len := n) (cap := k) rfl Try.runUnderlying22 Try.sizeOf3 (by kernel_rfl) (by kernel_rfl) hq_31) ?_
  refine wO rfl ?_
  have hx_45 : (ys.set ((jj).toNat) x_14)[((jj - 1)).toNat]? = some x_14 := by rw [List.getElem?_set, if_neg (by omega)]; exact hx_29
  refine sStF hS_42 hO_44 ha_32 0 ((jj - 1)).toNat 0 x_14 x_7 hx_45 (.int .i64 x_7) [.int .i64 x_7] Try.sizeOf3 ?_
  intro w_46 c_48 hO_49 hS_47
  refine nilO ⟨⟨.inl (by kernel_rfl), .inl (by kernel_rfl), trivial⟩, ?_⟩
  refine wN ?_
  refine blockK_n <| thenK_n <| regionE <| pu1 ?_
  refine sSub jj 1 ?_
  refine pu1 <| nilO <| thenK_n <| ?_
  have ha9 : ys[j - 1]? = some x_14 := by rw [show j - 1 = (jj - 1).toNat by omega]; exact hx_17
  have hb9 : ys[j]? = some x_7 := by rw [show j = jj.toNat by omega]; exact hx_10
  have hO9 : OwnT encI 3 1 a n k ((ys.set j x_14).set (j - 1) x_7) c_48 := by rw [show j - 1 = (jj - 1).toNat by omega, show j = jj.toNat by omega]; exact hO_49
  exact ⟨((j - 1), (jj - 1), ((ys.set j x_14).set (j - 1) x_7), c_48), by first | omega | (dsimp only; omega), alA, hS_47, ⟨by omega, by omega⟩, hO9, ((swap_perm (by omega) ha9 hb9).trans hPy), (hIj.swap (by omega) hji.1 ha9 hb9 (by omega))⟩
theorem q_pdq {a : Option Addr} {n k : Nat} {xs : List Int} {c : Chunk} {F : List Chunk} (hO : OwnT encI 3 1 a n k xs c) (m : Int) (h12 : n ≤ 12) (hS : Sat W w (c :: F)) :
    Calls Try.prog 90 #[.slice a n k, .int .i64 0, .int .i64 ((n : Nat) : Int), .int .i64 m] w fun e w' => ∃ (ys : List Int) (c' : Chunk), e = .returned (.tuple #[]) ∧ OwnT encI 3 1 a n k ys c' ∧ ys.Perm xs ∧ SortTo ys ys.length ∧ Sat W w' (c' :: F) := by
  have hn := hO.len; have hl := hO.le
  refine callsA 134 Try.func90 rfl ?_
  refine seqE <| regionE <| pu1 <| nilO <| thenK_n <| seqE <| regionE <| pu1 <| nilO <| thenK_n <| blockE ?_
  refine loopN 1 ?_
  refine roundS ?_
  refine blockE <| seqE <| regionE <| pu2 ?_
  refine sSub ((n : Nat) : Int) 0 ?_
  refine pu1 <| nilO <| thenK_n <| seqE <| seqE <| regionE <| pu2 <| nilO <| thenK_n <| ?_
  have hc_1 : ((((n : Nat) : Int) - 0) : Int) ≤ 12 := by omega
  refine cT _ (decide_eq_true hc_1) ?_
  refine seqE <| regionE <| pu3 ?_
  refine cX Try.call101 (q_ins hO  hS) ?_
  rintro _ w_2 ⟨ys_4, C_5, rfl, hO_6, hP_7, hA_8, hS_3⟩
  refine nilO <| thenK_n <| retE <| thenK_r <| blockK_r <| thenK_r <| blockK_r <| ?_
  refine ret0 rfl <| ?_
  exact ⟨_, _, rfl, hO_6, hP_7, hA_8, hS_3⟩
theorem q_sort {a : Option Addr} {n k : Nat} {xs : List Int} {c : Chunk} {F : List Chunk} (hO : OwnT encI 3 1 a n k xs c) (h12 : n ≤ 12) (hS : Sat W w (c :: F)) :
    Calls Try.prog 65 #[.slice a n k] w fun e w' => ∃ (ys : List Int) (c' : Chunk), e = .returned (.tuple #[]) ∧ OwnT encI 3 1 a n k ys c' ∧ ys.Perm xs ∧ SortTo ys ys.length ∧ Sat W w' (c' :: F) := by
  have hn := hO.len; have hl := hO.le
  refine callsA 11 Try.func65 rfl ?_
  refine seqE <| regionE <| pu3 <| nilO <| thenK_n <| regionE <| pu3 ?_
  refine stepY (.int .u64 (((n : Nat) : Int) % 18446744073709551616)) rfl rfl (Y_conv (k := .i64) (a := ((n : Nat) : Int)) Try.underlying3 Try.underlying136 (wrap_u64 _) rfl (by kernel_rfl)) ?_
  refine cX Try.call91 (s_len (((n : Nat) : Int) % 18446744073709551616) (by omega) hS) ?_
  rintro _ w_1 ⟨r_3, rfl, hr_4, hS_2⟩
  refine cX Try.call90 (q_pdq hO r_3 (by omega) hS_2) ?_
  rintro _ w_5 ⟨ys_7, C_8, rfl, hO_9, hP_10, hA_11, hS_6⟩
  refine nilO ?_
  refine ret0n rfl <| ?_
  exact ⟨_, _, rfl, hO_9, hP_10, hA_11, hS_6⟩
end Go.Proofs.Ytegmennaekipaaa
