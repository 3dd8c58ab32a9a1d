import Derived.Test.YtbofcpnngniopaaGreatP2Gr2
namespace Go.Proofs.YtbofcpnngniopaaGreat
open Go Go.E
set_option linter.unusedVariables false
set_option linter.unusedSimpArgs false
set_option linter.unnecessarySimpa false
set_option maxRecDepth 100000
set_option maxHeartbeats 2000000
variable {W w : World} {H : Chunk} {F : List Chunk}
/-- Ascending up to place i. -/
-- squeezed
def SortTo (zs : List Int) (i : Nat) : Prop := ∀ (p q : Nat) (u v : Int), p < q → q < i → zs[p]? = some u → zs[q]? = some v → u ≤ v
def InsI (ys : List Int) (i j : Nat) : Prop := ∀ (p q : Nat) (u v : Int), p < q → q ≤ i → q ≠ j → ys[p]? = some u → ys[q]? = some v → u ≤ v
theorem SortTo.one (zs : List Int) {i : Nat} (h : i ≤ 1) : SortTo zs i := fun p q u v h1 h2 => by omega
theorem SortTo.ins {zs : List Int} {i : Nat} (h : SortTo zs i) : InsI zs i i := fun p q u v h1 h2 h3 => h p q u v h1 (by omega)
theorem InsI.zero {ys : List Int} {i j : Nat} (h : InsI ys i j) (hj : j = 0) : SortTo ys (i + 1) := fun p q u v h1 h2 => h p q u v h1 (by omega) (by omega)
theorem InsI.done {ys : List Int} {i j : Nat} {a b : Int} (h : InsI ys i j) (hj : 0 < j) (ha : ys[j - 1]? = some a) (hb : ys[j]? = some b) (hab : a ≤ b) : SortTo ys (i + 1) := by
  intro p q u v h1 h2 hu hv
  by_cases e : q = j
  · subst e
    rw [hb] at hv; obtain rfl := Option.some.inj hv
    by_cases e2 : p = q - 1
    · subst e2; rw [ha] at hu; obtain rfl := Option.some.inj hu; exact hab
    · exact Int.le_trans (h p (q - 1) u a (by omega) (by omega) (by omega) hu ha) hab
  · exact h p q u v h1 (by omega) e hu hv
theorem adj {ys : List Int} {j : Nat} {a b : Int} (hj : 0 < j) (ha : ys[j - 1]? = some a) (hb : ys[j]? = some b) : ∃ A B, ys = A ++ a :: b :: B ∧ A.length = j - 1 := by
  obtain ⟨h1, e1⟩ := List.getElem?_eq_some_iff.1 ha
  obtain ⟨h2, e2⟩ := List.getElem?_eq_some_iff.1 hb
  refine ⟨ys.take (j - 1), ys.drop (j + 1), ?_, by rw [List.length_take]; omega⟩
  have d1 : ys.drop (j - 1) = a :: ys.drop j := by rw [List.drop_eq_getElem_cons h1, e1, show j - 1 + 1 = j by omega]
  have d2 : ys.drop j = b :: ys.drop (j + 1) := by rw [List.drop_eq_getElem_cons h2, e2]
  rw [← d2, ← d1, List.take_append_drop]
theorem swap_eq {A B : List Int} {a b : Int} {j : Nat} (hj : 0 < j) (hA : A.length = j - 1) : ((A ++ a :: b :: B).set j a).set (j - 1) b = A ++ b :: a :: B := by
  rw [List.set_append_right _ _ (by omega), List.set_append_right _ _ (by omega), hA, Nat.sub_self, show j - (j - 1) = 1 by omega]; rfl
theorem swap_perm {ys : List Int} {j : Nat} {a b : Int} (hj : 0 < j) (ha : ys[j - 1]? = some a) (hb : ys[j]? = some b) : ((ys.set j a).set (j - 1) b).Perm ys := by
  obtain ⟨A, B, rfl, hA⟩ := adj hj ha hb
  rw [swap_eq hj hA]
  exact List.Perm.append_left A (List.Perm.swap a b B)
theorem InsI.swap {ys : List Int} {i j : Nat} {a b : Int} (h : InsI ys i j) (hj : 0 < j) (hji : j ≤ i) (ha : ys[j - 1]? = some a) (hb : ys[j]? = some b) (hab : b < a) : InsI ((ys.set j a).set (j - 1) b) i (j - 1) := by
 have hlj := (List.getElem?_eq_some_iff.1 hb).1
 intro p q u v h1 h2 h3 hu hv
 have get : ∀ k w, ((ys.set j a).set (j - 1) b)[k]? = some w → (k = j - 1 ∧ w = b) ∨ (k = j ∧ w = a) ∨ (k ≠ j ∧ k ≠ j - 1 ∧ ys[k]? = some w) := by
  intro k w hw
  rw [List.getElem?_set, List.length_set] at hw
  by_cases e : j - 1 = k
  ·rw [if_pos e, if_pos om] at hw; exact .inl ⟨e.symm, (Option.some.inj hw).symm⟩
  ·rw [if_neg e, List.getElem?_set] at hw
   by_cases e2 : j = k
   ·rw [if_pos e2, if_pos om] at hw; exact .inr (.inl ⟨e2.symm, (Option.some.inj hw).symm⟩)
   ·rw [if_neg e2] at hw; exact .inr (.inr ⟨fun z => e2 z.symm, fun z => e z.symm, hw⟩)
 rcases get q v hv with ⟨rfl, rfl⟩ | ⟨rfl, rfl⟩ | ⟨q1, q2, hq⟩
 ·exact absurd rfl h3
 ·rcases get p u hu with ⟨rfl, rfl⟩ | ⟨rfl, _⟩ | ⟨p1, p2, hp⟩
  ·omega
  ·omega
  ·exact h p (q - 1) u v om om om hp ha
 ·rcases get p u hu with ⟨rfl, rfl⟩ | ⟨rfl, rfl⟩ | ⟨p1, p2, hp⟩
  ·exact h j q u v om h2 q1 hb hq
  ·exact h (p - 1) q u v om h2 q1 ha hq
  ·exact h p q u v h1 h2 q1 hp hq
theorem q_ins {a : Option Addr} {n k : Nat} {xs : List Int} {c : Chunk} {F : List Chunk} (hO : OwnT encI 3 1 a n k xs c) (hS : Sat W w (c :: F)) :
  Calls Tryz.prog 86 #[.slice a n k, I 0, I ((n : Nat) : Int)] w fun e w' => ∃ (ys : List Int) (c' : Chunk), e = .returned (.tuple #[]) ∧ OwnT encI 3 1 a n k ys c' ∧ ys.Perm xs ∧ SortTo ys ys.length ∧ Sat W w' (c' :: F) := by
 have hn := hO.len; have hl := hO.le
 refine callsA 49 Tryz.func86 rfl ?_
 refine sR <| pu3 <| nT <| blockE ?_
 refine loopA (γ := Nat × (List Int) × Chunk) (fun ⟨i, zs, C⟩ => [(0, .slice a n k), (1, I 0), (2, I ((n : Nat) : Int)), (6, I ((i : Nat) : Int))]) (fun ⟨i, zs, C⟩ w => Sat W w (C :: F) ∧ (1 ≤ i ∧ i ≤ max n 1) ∧ OwnT encI 3 1 a n k zs C ∧ zs.Perm xs ∧ SortTo zs i) (fun ⟨i, zs, C⟩ => n - i) (1, xs, c) ⟨hS, om, hO, (List.Perm.refl _), (SortTo.one _ (Nat.le_refl 1))⟩ ?_
 rintro ⟨i, zs, C⟩ ρ _ ⟨k0, hi, hOz, hPz, hSz⟩
 refine seqE <| sR <| pu3 <| nT ?_
 refine cD (((i : Nat) : Int) < ((n : Nat) : Int)) (fun v0 => ?_) (fun v0 => ?_)
 rotate_left
 ·refine exitE <| xB ?_
  refine ret0n rfl ?_
  have hnz := hOz.len
  exact ⟨zs, C, rfl, hOz, hPz, (by by_cases h1 : n ≤ 1; exact SortTo.one _ om; rw [show zs.length = i by omega]; exact hSz), k0⟩
 refine kT <| seqE <| blockE <| sR <| pu2 <| nT <| blockE ?_
 refine loopA (γ := Nat × Int × (List Int) × Chunk) (fun ⟨j, jj, ys, D⟩ => [(0, .slice a n k), (1, I 0), (2, I ((n : Nat) : Int)), (6, I ((i : Nat) : Int)), (7, I jj)]) (fun ⟨j, jj, ys, D⟩ w => Sat W w (D :: F) ∧ (j ≤ i ∧ jj = ((j : Nat) : Int)) ∧ OwnT encI 3 1 a n k ys D ∧ ys.Perm xs ∧ InsI ys i j) (fun ⟨j, jj, ys, D⟩ => j) (i, ((i : Nat) : Int), zs, C) ⟨k0, ⟨Nat.le_refl i, rfl⟩, hOz, hPz, hSz.ins⟩ ?_
 rintro ⟨j, jj, ys, D⟩ ρ _ ⟨c0, hji, hOy, hPy, hIj⟩
 refine seqE <| seqE ?_
 by_cases l0 : (jj : Int) > 0
 rotate_left
 ·refine drawE [13] [] [(true, [0, 1, 2, 3]), (true, [4, 5, 6, 8, 9, 10, 11, 7, 12]), (false, [13]), (true, [14])] rfl kr trivial ?_
  have w0 := c0.drew
  refine wU [0, 1, 2, 3] ?_
  refine wFix 19 _ false (decide_eq_false l0) ?_
  refine wU [4, 5, 6, 8, 9, 10, 11, 7, 12] ?_
  refine wO rfl ?_
  refine pu1 ?_
  refine nilO ⟨trivial, ?_⟩
  refine wU [14] ?_
  refine wN ?_
  refine thenK_n <| cFf <| exitE <| xB <| blockK_n <| thenK_n <| regionE <| pu1 ?_
  refine sAdd ((i : Nat) : Int) 1 ?_
  refine pu1 <| nT ?_
  exact ⟨(i + 1, ys, D), od, alA, w0, om, hOy, hPy, (hIj.zero om)⟩
 obtain ⟨b0, m0, n0, e0, x0, y0, s1⟩ := OwnT.elem hOy jj
 obtain ⟨a0, o0, p0, f0, z0, a1, t1⟩ := OwnT.elem hOy (jj - 1)
 refine drawE [13] [(7, ⟨m0, n0 + (jj).toNat * 1, none⟩, I b0), (12, ⟨o0, p0 + ((jj - 1)).toNat * 1, none⟩, I a0)] [(true, [0, 1, 2, 3]), (true, [4, 5]), (true, [6]), (true, [8, 9]), (true, [10]), (true, [11]), (true, [7]), (true, [12]), (false, [13]), (true, [14])] rfl kr ⟨.inr ((x0.up 0 rfl).cell c0 (k := 0) rfl), .inr ((z0.up 0 rfl).cell c0 (k := 0) rfl), trivial⟩ ?_
 have b1 := c0.drew
 refine wU [0, 1, 2, 3] ?_
 refine wFix 19 _ true (decide_eq_true l0) ?_
 refine wU [4, 5] ?_
 refine wY (.pointer (some ⟨m0, n0 + (jj).toNat * 1, none⟩)) rfl (fun w _ => Y_idx (a := a) (i := jj) (len := n) (cap := k) rfl Tryz.runUnderlying22 Tryz.sizeOf3 kr kr y0) ?_
 refine wU [8, 9] ?_
 refine wSub jj 1 ?_
 refine wY (.pointer (some ⟨o0, p0 + ((jj - 1)).toNat * 1, none⟩)) rfl (fun w _ => Y_idx (a := a) (i := (jj - 1)) (len := n) (cap := k) rfl Tryz.runUnderlying22 Tryz.sizeOf3 kr kr a1) ?_
 refine wLd (I b0) 0 Tryz.isAgg3 ?_
 refine wLd (I a0) 1 Tryz.isAgg3 ?_
 refine wO rfl ?_
 refine gY ?_
 refine cR Tryz.call92 (s_less b0 a0 (Sat.flat b1)) ?_
 intro _ d0
 refine nilO ⟨dA, ?_⟩
 refine wU [14] ?_
 refine wN ?_
 refine thenK_n ?_
 refine cD (b0 < a0) (fun c1 => ?_) (fun c1 => ?_)
 rotate_left
 ·refine exitE <| xB <| blockK_n <| thenK_n <| regionE <| pu1 ?_
  refine sAdd ((i : Nat) : Int) 1 ?_
  refine pu1 <| nT ?_
  have ha9 : ys[j - 1]? = some a0 := by rw [show j - 1 = (jj - 1).toNat by omega]; exact f0
  have hb9 : ys[j]? = some b0 := by rw [show j = jj.toNat by omega]; exact e0
  exact ⟨(i + 1, ys, D), od, alA, d0, om, hOy, hPy, (hIj.done om ha9 hb9 om)⟩
 refine kT <| seqE <| blockE ?_
 obtain ⟨d1, g0, h0, q0, e1, r0, f1⟩ := OwnT.elem hOy (jj - 1)
 obtain rfl : a0 = d1 := Option.some.inj (f0.symm.trans q0)
 obtain ⟨g1, i0, j0, s0, i1, t0, j1⟩ := OwnT.elem hOy jj
 obtain rfl : b0 = g1 := Option.some.inj (e0.symm.trans s0)
 refine drawE [15, 17] [(9, ⟨g0, h0 + ((jj - 1)).toNat * 1, none⟩, I a0), (13, ⟨i0, j0 + (jj).toNat * 1, none⟩, I b0)] [(true, [0, 1, 2, 3]), (true, [4]), (true, [5, 6]), (true, [7]), (true, [8]), (true, [10, 11]), (true, [12]), (true, [9]), (true, [13]), (true, [14]), (false, [15]), (true, [16]), (false, [17])] rfl kr ⟨.inr ((e1.up 0 rfl).cell d0 (k := 0) rfl), .inr ((i1.up 0 rfl).cell d0 (k := 0) rfl), trivial⟩ ?_
 have k1 := d0.drew
 refine wU [0, 1, 2, 3] ?_
 refine wSub jj 1 ?_
 refine wU [5, 6] ?_
 refine wSub jj 1 ?_
 refine wY (.pointer (some ⟨g0, h0 + ((jj - 1)).toNat * 1, none⟩)) rfl (fun w _ => Y_idx (a := a) (i := (jj - 1)) (len := n) (cap := k) rfl Tryz.runUnderlying22 Tryz.sizeOf3 kr kr r0) ?_
 refine wU [10, 11] ?_
 refine wY (.pointer (some ⟨i0, j0 + (jj).toNat * 1, none⟩)) rfl (fun w _ => Y_idx (a := a) (i := jj) (len := n) (cap := k) rfl Tryz.runUnderlying22 Tryz.sizeOf3 kr kr t0) ?_
 refine wLd (I a0) 0 Tryz.isAgg3 ?_
 refine wLd (I b0) 1 Tryz.isAgg3 ?_
 refine wY (.pointer (some ⟨i0, j0 + (jj).toNat * 1, none⟩)) rfl (fun w _ => Y_idx (a := a) (i := jj) (len := n) (cap := k) rfl Tryz.runUnderlying22 Tryz.sizeOf3 kr kr t0) ?_
 refine wO rfl ?_
 refine sStF k1 hOy j1 0 (jj).toNat 0 b0 a0 s0 (I a0) [I a0] Tryz.sizeOf3 ?_
 intro _ _ l1 m1
 refine nilO ⟨dA, ?_⟩
 refine wY (.pointer (some ⟨g0, h0 + ((jj - 1)).toNat * 1, none⟩)) rfl (fun w _ => Y_idx (a := a) (i := (jj - 1)) (len := n) (cap := k) rfl Tryz.runUnderlying22 Tryz.sizeOf3 kr kr r0) ?_
 refine wO rfl ?_
 have n1 : (ys.set ((jj).toNat) a0)[((jj - 1)).toNat]? = some a0 := by rw [List.getElem?_set, if_neg om]; exact q0
 refine sStF m1 l1 f1 0 ((jj - 1)).toNat 0 a0 b0 n1 (I b0) [I b0] Tryz.sizeOf3 ?_
 intro _ u0 o1 p1
 refine nilO ⟨dA, ?_⟩
 refine wN ?_
 refine blockK_n <| thenK_n <| regionE <| pu1 ?_
 refine sSub jj 1 ?_
 refine pu1 <| nT ?_
 have ha9 : ys[j - 1]? = some a0 := by rw [show j - 1 = (jj - 1).toNat by omega]; exact f0
 have hb9 : ys[j]? = some b0 := by rw [show j = jj.toNat by omega]; exact e0
 have hO9 : OwnT encI 3 1 a n k ((ys.set j a0).set (j - 1) b0) u0 := by rw [show j - 1 = (jj - 1).toNat by omega, show j = jj.toNat by omega]; exact o1
 exact ⟨((j - 1), (jj - 1), ((ys.set j a0).set (j - 1) b0), u0), od, alA, p1, ⟨om, om⟩, hO9, ((swap_perm om ha9 hb9).trans hPy), (hIj.swap om hji.1 ha9 hb9 om)⟩
theorem q_pdq {a : Option Addr} {n k : Nat} {xs : List Int} {c : Chunk} {F : List Chunk} (hO : OwnT encI 3 1 a n k xs c) (m : Int) (h12 : n ≤ 12) (hS : Sat W w (c :: F)) :
  Calls Tryz.prog 68 #[.slice a n k, I 0, I ((n : Nat) : Int), I m] w fun e w' => ∃ (ys : List Int) (c' : Chunk), e = .returned (.tuple #[]) ∧ OwnT encI 3 1 a n k ys c' ∧ ys.Perm xs ∧ SortTo ys ys.length ∧ Sat W w' (c' :: F) := by
 have hn := hO.len; have hl := hO.le
 refine callsA 134 Tryz.func68 rfl ?_
 refine sR <| pu1 <| nT <| sR <| pu1 <| nT <| blockE ?_
 refine loopN 1 ?_
 refine roundS ?_
 refine blockE <| sR <| pu2 ?_
 refine sSub ((n : Nat) : Int) 0 ?_
 refine pu1 <| nT <| seqE <| sR <| pu2 <| nT ?_
 have a0 : ((((n : Nat) : Int) - 0) : Int) ≤ 12 := by omega
 refine cT _ (decide_eq_true a0) ?_
 refine sR <| pu3 ?_
 refine cX Tryz.call86 (q_ins hO  hS) ?_
 rintro _ _ ⟨_, _, rfl, b0, c0, d0, e0⟩
 refine nT <| retE <| tR <| tR ?_
 refine ret0 rfl ?_
 exact ⟨_, _, rfl, b0, c0, d0, e0⟩
theorem q_sort {a : Option Addr} {n k : Nat} {xs : List Int} {c : Chunk} {F : List Chunk} (hO : OwnT encI 3 1 a n k xs c) (h12 : n ≤ 12) (hS : Sat W w (c :: F)) :
  Calls Tryz.prog 48 #[.slice a n k] w fun e w' => ∃ (ys : List Int) (c' : Chunk), e = .returned (.tuple #[]) ∧ OwnT encI 3 1 a n k ys c' ∧ ys.Perm xs ∧ SortTo ys ys.length ∧ Sat W w' (c' :: F) := by
 have hn := hO.len; have hl := hO.le
 refine callsA 11 Tryz.func48 rfl ?_
 refine sR <| pu3 <| nT <| regionE <| pu3 ?_
 refine stepY (.int .u64 (((n : Nat) : Int) % 18446744073709551616)) rfl rfl (Y_conv (k := .i64) (a := ((n : Nat) : Int)) Tryz.underlying3 Tryz.underlying103 (wrap_u64 _) rfl kr) ?_
 refine cX Tryz.call69 (s_len (((n : Nat) : Int) % 18446744073709551616) om hS) ?_
 rintro _ _ ⟨a0, rfl, _, b0⟩
 refine cX Tryz.call68 (q_pdq hO a0 om b0) ?_
 rintro _ _ ⟨_, _, rfl, c0, d0, e0, f0⟩
 refine nilO ?_
 refine ret0n rfl ?_
 exact ⟨_, _, rfl, c0, d0, e0, f0⟩
end Go.Proofs.YtbofcpnngniopaaGreat

namespace Go.Proofs.YtbofcpnngniopaaGreat
open Go Go.E
set_option linter.unusedVariables false
set_option linter.unusedSimpArgs false
set_option linter.unnecessarySimpa false
set_option maxRecDepth 100000
set_option maxHeartbeats 2000000
variable {W w : World} {H : Chunk} {F : List Chunk}
/-! ### the cycle that Cycle names -/
def minV (f : Nat → Nat → Int) : Nat → Int × Int
  | 0 => (-1, 1000)
  | i + 1 => if f i i < (minV f i).2 then (((i : Nat) : Int), f i i) else minV f i
theorem minV_spec {f : Nat → Nat → Int} : ∀ (k : Nat), ((minV f k).1 = -1 ∧ (minV f k).2 = 1000 ∧ ∀ j, j < k → 1000 ≤ f j j) ∨ (∃ i, i < k ∧ (minV f k).1 = ((i : Nat) : Int) ∧ (minV f k).2 = f i i ∧ f i i < 1000 ∧ (∀ j, j < k → f i i ≤ f j j) ∧ ∀ j, j < i → f i i < f j j)
 | 0 => .inl ⟨rfl, rfl, fun j hj => by omega⟩
 | k + 1 => by
  unfold minV
  rcases minV_spec (f := f) k with ⟨h1, h2, h3⟩ | ⟨i, h1, h2, h3, h4, h5, h6⟩
  ·by_cases c : f k k < (minV f k).2
   ·right
    rw [if_pos c]
    refine ⟨k, om, rfl, rfl, om, fun j hj => ?_, fun j hj => ?_⟩
    ·by_cases e : j = k
     ·rw [e]; exact Int.le_refl _
     ·have := h3 j om; omega
    ·have := h3 j hj; omega
   ·left
    rw [if_neg c]
    refine ⟨h1, h2, fun j hj => ?_⟩
    by_cases e : j = k
    ·rw [e]; omega
    ·exact h3 j om
  ·right
   by_cases c : f k k < (minV f k).2
   ·rw [if_pos c]
    refine ⟨k, om, rfl, rfl, om, fun j hj => ?_, fun j hj => ?_⟩
    ·by_cases e : j = k
     ·rw [e]; exact Int.le_refl _
     ·have := h5 j om; omega
    ·have := h5 j hj; omega
   ·rw [if_neg c]
    refine ⟨i, om, h2, h3, h4, fun j hj => ?_, h6⟩
    by_cases e : j = k
    ·rw [e]; omega
    ·exact h5 j om
/-- The least of the numbers of which f is lf. -/
def NX (f : Nat → Int) (lf : Int) (l : List Int) (n : Int) : Prop := n ∈ l ∧ f n.toNat = lf ∧ ∀ m ∈ l, f m.toNat = lf → n ≤ m
def nxtF (f : Nat → Int) (lf : Int) : List Int → Option Int
  | [] => none
  | x :: l => if f x.toNat = lf then (match nxtF f lf l with | none => some x | some y => some (min x y)) else nxtF f lf l
theorem nxt_none {f : Nat → Int} {lf : Int} : ∀ {l : List Int}, nxtF f lf l = none → ∀ m ∈ l, ¬ f m.toNat = lf
  | [], _ => fun m hm => by cases hm
  | x :: l, h => by
    unfold nxtF at h
    by_cases c : f x.toNat = lf
    · rw [if_pos c] at h; revert h; split <;> (intro h; cases h)
    · rw [if_neg c] at h
      intro m hm
      rcases List.mem_cons.1 hm with rfl | hm
      · exact c
      · exact nxt_none h m hm
theorem nxt_some {f : Nat → Int} {lf : Int} : ∀ {l : List Int} {n : Int}, nxtF f lf l = some n → NX f lf l n
 | [], n, h => by cases h
 | x :: l, n, h => by
  unfold nxtF at h
  by_cases c : f x.toNat = lf
  ·rw [if_pos c] at h
   revert h
   split
   ·rename_i hn
    intro h
    obtain rfl := Option.some.inj h
    refine ⟨List.mem_cons_self, c, fun m hm hf => ?_⟩
    rcases List.mem_cons.1 hm with rfl | hm
    ·exact Int.le_refl _
    ·exact absurd hf (nxt_none hn m hm)
   ·rename_i y hy
    intro h
    obtain rfl := Option.some.inj h
    have h1 := nxt_some hy
    refine ⟨?_, ?_, fun m hm hf => ?_⟩
    ·by_cases e : x ≤ y
     ·rw [show min x y = x by omega]; exact List.mem_cons_self
     ·rw [show min x y = y by omega]; exact List.mem_cons_of_mem _ h1.1
    ·by_cases e : x ≤ y
     ·rw [show min x y = x by omega]; exact c
     ·rw [show min x y = y by omega]; exact h1.2.1
    ·rcases List.mem_cons.1 hm with rfl | hm
     ·omega
     ·have := h1.2.2 m hm hf; omega
  ·rw [if_neg c] at h
   have h1 := nxt_some h
   refine ⟨List.mem_cons_of_mem _ h1.1, h1.2.1, fun m hm hf => ?_⟩
   rcases List.mem_cons.1 hm with rfl | hm
   ·exact absurd hf c
   ·exact h1.2.2 m hm hf
theorem nxt_eq {f : Nat → Int} {lf : Int} {l : List Int} {n : Int} (h : NX f lf l n) : nxtF f lf l = some n := by
  cases hn : nxtF f lf l with
  | none => exact absurd h.2.1 (nxt_none hn n h.1)
  | some m =>
    have h1 := nxt_some hn
    have h2 := h.2.2 m h1.1 h1.2.1
    have h3 := h1.2.2 n h.1 h.2.1
    rw [show m = n by omega]
def wayF (f : Nat → Int) (S : Int → List Int) : Nat → Int → List Int
  | 0, _ => []
  | k + 1, a => (nxtF f (((k : Nat) : Int) + 1) (S a)).getD 0 :: wayF f S k ((nxtF f (((k : Nat) : Int) + 1) (S a)).getD 0)
theorem way_succ {f : Nat → Int} {S : Int → List Int} {a n lf : Int} (hlf : 0 < lf) (h : NX f lf (S a) n) : wayF f S lf.toNat a = n :: wayF f S (lf - 1).toNat n := by
  have e : lf.toNat = (lf - 1).toNat + 1 := by omega
  rw [e, wayF, show (((lf - 1).toNat : Nat) : Int) + 1 = lf by omega, nxt_eq h]; rfl
def srcG (ni : Nat) (D : List (List Int)) (a : Int) : List Int := D.getD (a - ((ni : Nat) : Int)).toNat []
def cycG (ni : Nat) (D : List (List Int)) : List Int :=
  if (minV (fwG (edgG ni D) 16) 16).1 < 0 then [] else (minV (fwG (edgG ni D) 16) 16).1 :: wayF (fun x => fwG (edgG ni D) 16 x (minV (fwG (edgG ni D) 16) 16).1.toNat) (srcG ni D) ((minV (fwG (edgG ni D) 16) 16).2 - 1).toNat (minV (fwG (edgG ni D) 16) 16).1
theorem fw_stage {ni N a b : Nat} {D : List (List Int)} (h : fwG (edgG ni D) N a b < 1000) : ni ≤ a ∧ a < ni + D.length := by
  obtain ⟨y, hy⟩ := walk_out (fw_sound h)
  exact edg_src a y hy
/-- A shortest way goes on. -/
theorem fw_next {ni a b : Nat} {D : List (List Int)} {lf : Int} (hR : RngG ni D) (hN : ni + D.length ≤ 16) (h : fwG (edgG ni D) 16 a b = lf + 1) (h1 : 1 ≤ lf) (h2 : lf + 1 < 1000) :
  ∃ c ∈ srcG ni D ((a : Nat) : Int), 0 ≤ c ∧ fwG (edgG ni D) 16 c.toNat b = lf := by
 obtain ⟨M, _, hM⟩ := lst_ex (fw_sound (e := edgG ni D) (k := 16) (a := a) (b := b) om)
 have hlt := lst_lt edg_src hM
 have e1 := lst_fw (edg_dst hR hN) hM om
 obtain ⟨L, rfl⟩ : ∃ L, M = L + 1 := ⟨M - 1, om⟩
 obtain ⟨c, hc1, hc2⟩ := lst_next hM
 have e2 := lst_fw (edg_dst hR hN) hc2 om
 obtain ⟨ha, s, hs, hm⟩ := edg_iff.1 hc1
 refine ⟨((c : Nat) : Int), ?_, om, by rw [Int.toNat_natCast, e2]; omega⟩
 unfold srcG
 rw [show (((a : Nat) : Int) - ((ni : Nat) : Int)).toNat = a - ni by omega, List.getD_eq_getElem?_getD, hs]; exact hm
/-- The way so far. -/
def WF (ni : Nat) (D : List (List Int)) (rt : Nat) (zs : List Int) (a lf : Int) : Prop :=
  (0 ≤ lf ∧ lf + 1 < 1000 ∧ 0 ≤ a) ∧ fwG (edgG ni D) 16 a.toNat rt = lf + 1 ∧ cycG ni D = zs ++ wayF (fun x => fwG (edgG ni D) 16 x rt) (srcG ni D) lf.toNat a
theorem WF.start {ni : Nat} {D : List (List Int)} {rt bs : Int} (hm : minV (fwG (edgG ni D) 16) 16 = (rt, bs)) (h : ¬ rt < 0) : WF ni D rt.toNat [rt] rt (bs - 1) ∧ 1 ≤ bs ∧ bs < 1000 ∧ 0 ≤ rt ∧ rt < 16 := by
  have hs := minV_spec (f := fwG (edgG ni D) 16) 16
  rw [hm] at hs
  rcases hs with ⟨h1, _⟩ | ⟨i, h1, h2, h3, h4, _⟩
  · simp only at h1; omega
  · simp only at h2 h3
    have hp := fw_pos (e := edgG ni D) (k := 16) (a := i) (b := i)
    refine ⟨⟨by omega, ?_, ?_⟩, by omega, by omega, by omega, by omega⟩
    · rw [show rt.toNat = i by omega]; omega
    · unfold cycG
      rw [hm]; simp only
      rw [if_neg h]; rfl
theorem WF.stage {ni rt : Nat} {D : List (List Int)} {zs : List Int} {a lf : Int} (h : WF ni D rt zs a lf) : ((ni : Nat) : Int) ≤ a ∧ a < ((ni : Nat) : Int) + ((D.length : Nat) : Int) := by
  have h1 := h.1; have h2 := h.2.1
  have := fw_stage (ni := ni) (D := D) (N := 16) (a := a.toNat) (b := rt) (by omega)
  omega
theorem WF.step {ni rt : Nat} {D : List (List Int)} {zs : List Int} {a lf n : Int} (h : WF ni D rt zs a lf) (hlf : 0 < lf) (hn : 0 ≤ n) (hN : NX (fun x => fwG (edgG ni D) 16 x rt) lf (srcG ni D a) n) : WF ni D rt (zs ++ [n]) n (lf - 1) := by
  refine ⟨by have := h.1; omega, ?_, ?_⟩
  · have h1 : fwG (edgG ni D) 16 n.toNat rt = lf := hN.2.1
    rw [h1]; omega
  · rw [h.2.2, way_succ hlf hN, List.append_assoc]; rfl
theorem WF.ex {ni rt : Nat} {D : List (List Int)} {zs : List Int} {a lf : Int} (h : WF ni D rt zs a lf) (hR : RngG ni D) (hN : ni + D.length ≤ 16) (hlf : 0 < lf) : ∃ c ∈ srcG ni D a, 0 ≤ c ∧ fwG (edgG ni D) 16 c.toNat rt = lf := by
  have h1 := h.1
  have := fw_next hR hN h.2.1 (by omega) (by omega)
  rw [show ((a.toNat : Nat) : Int) = a by omega] at this; exact this
theorem WF.fin {ni rt : Nat} {D : List (List Int)} {zs : List Int} {a lf : Int} (h : WF ni D rt zs a lf) (hlf : lf = 0) : cycG ni D = zs := by
  subst hlf
  rw [h.2.2]; simp [wayF]
theorem cyc_none {ni : Nat} {D : List (List Int)} {rt bs : Int} (hm : minV (fwG (edgG ni D) 16) 16 = (rt, bs)) (h : rt < 0) : cycG ni D = [] := by
  unfold cycG; rw [hm]; simp only; rw [if_pos h]
/-- The first hit in a sorted list. -/
theorem NX.of {f : Nat → Int} {lf : Int} {l ys : List Int} {m : Nat} {x : Int} (hp : ys.Perm l) (hs : ∀ (i j : Nat) (u v : Int), i < j → ys[i]? = some u → ys[j]? = some v → u ≤ v) (hx : ys[m]? = some x) (hf : f x.toNat = lf) (hno : ∀ u ∈ ys.take m, ¬ f u.toNat = lf) : NX f lf l x := by
  refine ⟨hp.mem_iff.1 (List.mem_of_getElem? hx), hf, fun u hu huf => ?_⟩
  obtain ⟨k, hk⟩ := List.mem_iff_getElem?.1 (hp.mem_iff.2 hu)
  by_cases c : k < m
  · refine absurd huf (hno u (List.mem_iff_getElem?.2 ⟨k, ?_⟩))
    rw [List.getElem?_take, if_pos c]; exact hk
  · by_cases e : k = m
    · subst e; rw [hx] at hk; rw [Option.some.inj hk]; exact Int.le_refl _
    · exact hs m k x u (by omega) hx hk
def cycV (j : JobV) : List Int := if (ordV j).2 = 7 then cycG j.inputs.length (j.stages.map srcs) else []
theorem ord7_chk {j : JobV} (h : (ordV j).2 = 7) : chkCode j = 0 := by
  by_cases c : chkCode j = 0
  · exact c
  · have e : (ordV j).2 = chkCode j := by unfold ordV; rw [if_neg c]
    rw [e] at h
    unfold chkCode at h
    repeat (first | (split at h) | omega)
theorem chk_rng {j : JobV} (h : chkCode j = 0) : RngG j.inputs.length (j.stages.map srcs) := by
  intro s hs x hx
  obtain ⟨q, hq, rfl⟩ := List.mem_map.1 hs
  have := chk_srcs h hq x hx
  rw [List.length_map]; omega
theorem p17_cycle (p : Job) (hp : Job.Ok [H] p) (hb : p.inputs.n ≤ 1000000 ∧ p.stages.n ≤ 1000000 ∧ p.outputs.n ≤ 1000000) (hS : Sat W w (H :: F)) :
  Calls Tryz.prog 18 #[.agg (encJob p).toArray] w fun e w' => ∃ (az : Option Addr) (nz kz : Nat) (G : Chunk), e = .returned (.slice az nz kz) ∧ OwnT encI 3 1 az nz kz (cycV p.v) G ∧ Sat W w' (G :: H :: F) := by
 have hl_p_inputs := hp.inputs.le; have hn_p_inputs := hp.inputs.len
 have hl_p_stages := hp.stages.le; have hn_p_stages := hp.stages.len
 have hl_p_outputs := hp.outputs.le; have hn_p_outputs := hp.outputs.len
 have hmi : (p.inputs.l.map Plane.v).length = p.inputs.n := by simp [hn_p_inputs]
 have hms : (p.stages.l.map Stage.v).length = p.stages.n := by simp [hn_p_stages]
 refine callsA 84 Tryz.func18 rfl ?_
 refine sR ?_
 refine sBox hS (.agg (encJob p).toArray) (encJob p).toArray ?_
 intro e0 _ w0
 refine pu1 <| nT <| seqE <| sR ?_
 refine lA w0 0 0 4 (Tryz.isAgg28 _) (Tryz.sizeOf28 _) ?_
 refine cX Tryz.call17 (p17_order p ⟨(RdT.flat (hp.inputs.up 1 (by rfl))), (fun z hz => (hp.inputsD z hz).of_mem (mem_flat1 1 (by rfl))), (RdT.flat (hp.stages.up 1 (by rfl))), (fun z hz => (hp.stagesD z hz).of_mem (mem_flat1 1 (by rfl))), (RdT.flat (hp.outputs.up 1 (by rfl)))⟩ (od) (Sat.flat w0)) ?_
 rintro _ _ ⟨_, _, _, l0, rfl, x0, a1⟩
 have o0 := Sat.unflat1 a1
 have hn_az_7 := x0.len; have hl_az_7 := x0.le
 refine pu5 <| nT <| sR <| pu2 <| nT ?_
 refine cN ((ordV p.v).2) 7 (fun b1 => ?_) (fun b1 => ?_)
 rotate_left
 ·refine seqE ?_
  have hk : cycV p.v = [] := by unfold cycV; rw [if_neg om]
  refine regionE <| pu1 <| nT <| retE <| thenK_r <| retT [.slice none 0 0] ?_
  have c1 := (o0.drops [0, 0])
  have d1 : Sat W _ ([] :: H :: F) := Sat.nilc c1
  have hl : ([] : List Int) = cycV p.v := (by rw [hk])
  have hrd := OwnT.nil (enc := encI) (E := 3) (sz := 1) fR
  rw [hl] at hrd
  exact ⟨_, _, _, _, rfl, hrd, d1⟩
 refine kT <| seqE ?_
 have ho7 : (ordV p.v).2 = 7 := by omega
 have hch := ord7_chk ho7; have hlb := chk_len hch; have hlb2 : p.inputs.n + p.stages.n ≤ 16 := (by have h := hlb; simp only [Job.v] at h; omega)
 have hsr16 : ∀ z ∈ p.stages.l, ∀ x ∈ srcs z.v, 0 ≤ x ∧ x < 16 := fun z hz x hx => by have h := chk_srcs hch (s := z.v) (List.mem_map_of_mem hz) x hx; simp only [Job.v] at h; omega
 have hR : RngG p.inputs.n ((p.stages.l.map Stage.v).map srcs) := by have h := chk_rng hch; rw [show p.v.inputs.length = p.inputs.n from hmi] at h; exact h
 have hDl : ((p.stages.l.map Stage.v).map srcs).length = p.stages.n := by rw [List.length_map, hms]
 have hk0 : cycV p.v = cycG p.inputs.n ((p.stages.l.map Stage.v).map srcs) := by unfold cycV; rw [if_pos ho7, show p.v.inputs.length = p.inputs.n from hmi]; rfl
 refine regionE ?_
 refine lA o0 1 0 4 (Tryz.isAgg28 _) (Tryz.sizeOf28 _) ?_
 refine cX Tryz.call47 (p17_dist ⟨(RdT.flat (hp.inputs.up 2 (by rfl))), (fun z hz => (hp.inputsD z hz).of_mem (mem_flat1 2 (by rfl))), (RdT.flat (hp.stages.up 2 (by rfl))), (fun z hz => (hp.stagesD z hz).of_mem (mem_flat1 2 (by rfl))), (RdT.flat (hp.outputs.up 2 (by rfl)))⟩ hlb2 hsr16 (Sat.flat o0)) ?_
 rintro _ _ ⟨p0, rfl, f0, e1⟩
 have f1 := Sat.unflat e1; have hdl := f0.1
 refine sAlloc f1 Tryz.zeroValue82 ?_
 intro a0 _ g1
 have i1 : Sat W _ ((Tri a0 82 [] ((List.replicate 256 0).flatMap encI) []) :: l0 :: [(e0, .cells (encJob p).toArray 28 (0, 0))] :: H :: F) := sat_hd kr g1
 refine sST i1 0 (ints_len (List.length_replicate (n := 256))) (ints_len f0.1) ints_one Tryz.sizeOf82 ?_
 intro _ j1
 refine nT <| sR <| pu2 <| nT <| seqE <| sR <| pu1 <| nT <| blockE ?_
 refine loopA (γ := Nat × Int × Int) (fun ⟨i, rt, bs⟩ => [(1, Pt e0 0), (5, Pt a0 0), (24, I ((i : Nat) : Int)), (6, I rt), (7, I bs)]) (fun ⟨i, rt, bs⟩ w => Sat W w ((Tri a0 82 [] (p0.flatMap encI) []) :: l0 :: [(e0, .cells (encJob p).toArray 28 (0, 0))] :: H :: F) ∧ i ≤ 16 ∧ (minV (fwG (edgG p.inputs.n ((p.stages.l.map Stage.v).map srcs)) 16) i = (rt, bs))) (fun ⟨i, rt, bs⟩ => 16 - i) (0, -1, 1000) ⟨j1, om, by rfl⟩ ?_
 rintro ⟨i, rt, bs⟩ ρ _ ⟨g0, hi, hmin⟩
 refine sR <| pu1 <| nT <| seqE ?_
 refine cD (((i : Nat) : Int) < 16) (fun k1 => ?_) (fun k1 => ?_)
 ·refine kT <| seqE <| blockE <| sR <| pu2 <| nT <| sR <| pu2 ?_
  refine sIdxA (b := a0) (off := 0) ((i : Nat) : Int) i Tryz.runUnderlying82 Tryz.sizeOf81 ?_
  obtain ⟨h0, q0⟩ := at_some f0.1 (k := (i * 16 + i)) om
  have hd_x_27 : h0 = fwG (edgG p.inputs.n ((p.stages.l.map Stage.v).map srcs)) 16 i i := MX.at f0 q0 om om rfl
  have hd2_x_27 := fw_rng (e := (edgG p.inputs.n ((p.stages.l.map Stage.v).map srcs))) (k := 16) (a := i) (b := i)
  refine sIdxB (b := a0) (off := 0 + i * 16) ((i : Nat) : Int) i (0 + (i * 16 + i) * 1) Tryz.runUnderlying81 Tryz.sizeOf3 ?_
  refine sLp g0 (ptr_up 0 rfl (tri_el (sz := 1) (n0 := 0) fR q0)) 0 (I h0) (Tryz.isAgg3 _) ?_
  refine pu2 <| nT ?_
  refine cD (h0 < bs) (fun l1 => ?_) (fun l1 => ?_)
  rotate_left
  ·refine skipE <| blockK_n <| thenK_n <| regionE ?_
   refine sAdd ((i : Nat) : Int) 1 ?_
   refine pu1 <| nT ?_
   exact ⟨(i + 1, rt, bs), od, alA, g0, om, (by unfold minV; rw [hmin, ← hd_x_27, if_neg ‹_›])⟩
  refine drawE [] [(5, ⟨a0, 0 + (i * 16 + i) * 1, none⟩, I h0)] [(true, [0, 1, 2]), (true, [3]), (true, [4]), (true, [6]), (true, [5]), (true, [7])] rfl kr ⟨.inr (cell_up g0 0 rfl (k := 0) (tri_el (sz := 1) (n0 := 0) fR q0) rfl), trivial⟩ ?_
  have m1 := g0.drew
  refine wU [0, 1, 2] ?_
  refine wY (.pointer (some ⟨a0, 0 + i * 16, none⟩)) rfl (fun w _ => Y_idxA (b := a0) (off := 0) ((i : Nat) : Int) i Tryz.runUnderlying82 Tryz.sizeOf81) ?_
  refine wY (.pointer (some ⟨a0, 0 + (i * 16 + i) * 1, none⟩)) rfl (fun w _ => Y_idxB (b := a0) (off := 0 + i * 16) ((i : Nat) : Int) i (0 + (i * 16 + i) * 1) Tryz.runUnderlying81 Tryz.sizeOf3) ?_
  refine wU [6] ?_
  refine wLd (I h0) 0 Tryz.isAgg3 ?_
  refine wU [7] ?_
  refine wN ?_
  refine blockK_n <| thenK_n <| regionE ?_
  refine sAdd ((i : Nat) : Int) 1 ?_
  refine pu1 <| nT ?_
  exact ⟨(i + 1, ((i : Nat) : Int), h0), od, alA, m1, om, (by unfold minV; rw [hmin, ← hd_x_27, if_pos ‹_›])⟩
 refine exitE <| xB <| thenK_n <| seqE <| seqE ?_
 have hi16 : i = 16 := by omega
 have hmn : minV (fwG (edgG p.inputs.n ((p.stages.l.map Stage.v).map srcs)) 16) 16 = (rt, bs) := by rw [hi16] at hmin; exact hmin
 refine regionE <| pu2 <| nT ?_
 refine cD (rt < 0) (fun n1 => ?_) (fun n1 => ?_)
 ·refine seqE ?_
  have hk : cycV p.v = [] := by rw [hk0]; exact cyc_none hmn om
  refine regionE <| pu1 <| nT <| retE <| thenK_r <| retT [.slice none 0 0] ?_
  have o1 := (g0.drops [0, 0, 0])
  have p1 : Sat W _ ([] :: H :: F) := Sat.nilc o1
  have hl : ([] : List Int) = cycV p.v := (by rw [hk])
  have hrd := OwnT.nil (enc := encI) (E := 3) (sz := 1) fR
  rw [hl] at hrd
  exact ⟨_, _, _, _, rfl, hrd, p1⟩
 refine kT <| seqE ?_
 obtain ⟨hw0, hbs1, hbs2, hrt0, hrt1⟩ := WF.start hmn om
 refine regionE <| pu1 ?_
 refine sBS g0 #[I rt] Tryz.runUnderlying22 Tryz.sizeOf3 Tryz.zeroValue3 ?_
 intro r0 _ q1
 refine pu1 <| nT <| seqE <| sR <| pu2 ?_
 refine sSub bs 1 ?_
 refine pu2 <| nT <| blockE ?_
 have r1 := OwnT.blk (enc := encI) (sz := 1) (b := r0) (c := #[I rt]) (E := 3) (xs := [rt]) fR 1 rfl rfl rfl om
 refine loopA (γ := Nat × Int × Int × (List Int) × (Option Addr) × Nat × Nat × Chunk) (fun ⟨k, at_, lf, zs, azs, nzs, kzs, czs⟩ => [(1, Pt e0 0), (5, Pt a0 0), (6, I rt), (10, I at_), (11, I lf), (9, .slice azs nzs kzs)]) (fun ⟨k, at_, lf, zs, azs, nzs, kzs, czs⟩ w => Sat W w (czs :: (Tri a0 82 [] (p0.flatMap encI) []) :: l0 :: [(e0, .cells (encJob p).toArray 28 (0, 0))] :: H :: F) ∧ k ≤ (bs - 1).toNat ∧ (zs.length = k + 1) ∧ (lf = bs - 1 - ((k : Nat) : Int)) ∧ (WF p.inputs.n ((p.stages.l.map Stage.v).map srcs) rt.toNat zs at_ lf) ∧ OwnT encI 3 1 azs nzs kzs zs czs) (fun ⟨k, at_, lf, zs, azs, nzs, kzs, czs⟩ => ((bs - 1).toNat) - k) (0, rt, (bs - 1), [rt], (At r0 0), 1, 1, [(r0, .cells #[I rt] 3 (0, 0))]) ⟨q1, om, by rfl, om, hw0, r1⟩ ?_
 rintro ⟨k, at_, lf, zs, azs, nzs, kzs, czs⟩ ρ _ ⟨i0, hk, hzk, hlf, hW, hOzs⟩
 have hn_zs := hOzs.len; have hl_zs := hOzs.le
 have hst := hW.stage; have hW1 := hW.1; rw [hDl] at hst
 refine seqE <| sR <| pu2 <| nT ?_
 refine cD (lf > 0) (fun s1 => ?_) (fun s1 => ?_)
 rotate_left
 ·refine exitE <| xB <| thenK_n <| sR <| pu2 <| nT <| retE <| retT [.slice azs nzs kzs] ?_
  have hk : cycV p.v = zs := by rw [hk0]; exact hW.fin om
  have t1 := (i0.drops [1, 1, 1])
  have hl : zs = cycV p.v := (by rw [hk])
  have hrd := hOzs
  rw [hl] at hrd
  exact ⟨_, _, _, _, rfl, hrd, t1⟩
 refine kT <| seqE <| blockE <| sR <| pu1 ?_
 refine sL i0 3 1 (.slice p.stages.a p.stages.n p.stages.k) (Tryz.isAgg26 _) ?_
 refine pu2 ?_
 refine sL i0 3 0 (.slice p.inputs.a p.inputs.n p.inputs.k) (Tryz.isAgg25 _) ?_
 refine pu1 ?_
 refine sSub at_ ((p.inputs.n : Nat) : Int) ?_
 refine sIdx hp.stages (at_ - ((p.inputs.n : Nat) : Int)) Tryz.runUnderlying26 Tryz.sizeOf44 ?_
 intro b0 _ _ d0 u1
 refine sLpA i0 (u1.up 4 rfl) 0 (encStage b0) (Tryz.isAgg44 _) (Tryz.sizeOf44 _) ?_
 refine cX Tryz.call26 (p15_sources b0 ⟨(RdT.flat ((hp.stagesD b0 (List.mem_of_getElem? d0)).weights.up 4 (by rfl))), (RdT.flat ((hp.stagesD b0 (List.mem_of_getElem? d0)).row.up 4 (by rfl))), (RdT.flat ((hp.stagesD b0 (List.mem_of_getElem? d0)).col.up 4 (by rfl))), (RdT.flat ((hp.stagesD b0 (List.mem_of_getElem? d0)).x.up 4 (by rfl))), (fun z hz => ((hp.stagesD b0 (List.mem_of_getElem? d0)).xD z hz).of_mem (mem_flat1 4 (by rfl))), (RdT.flat ((hp.stagesD b0 (List.mem_of_getElem? d0)).y.up 4 (by rfl))), (fun z hz => ((hp.stagesD b0 (List.mem_of_getElem? d0)).yD z hz).of_mem (mem_flat1 4 (by rfl))), (RdT.flat ((hp.stagesD b0 (List.mem_of_getElem? d0)).ops.up 4 (by rfl)))⟩ (Sat.flat i0)) ?_
 rintro _ _ ⟨v1, j0, w1, _, rfl, s0, x1⟩
 have y1 := Sat.unflat1 x1
 have hn_az_49 := s0.len; have hl_az_49 := s0.le
 have i3 : 1 ≤ (srcs b0.v).length ∧ (srcs b0.v).length ≤ 2 := srcs_len _
 refine pu1 <| nilO ?_
 have hsg : srcG p.inputs.n ((p.stages.l.map Stage.v).map srcs) at_ = srcs b0.v := by unfold srcG; rw [List.getD_eq_getElem?_getD, map_at (f := srcs) (map_at (f := Stage.v) d0)]; rfl
 refine thenK_n <| sR <| pu1 ?_
 refine cX Tryz.call48 (q_sort s0 om y1) ?_
 rintro _ _ ⟨y0, z1, rfl, t0, m0, a2, b2⟩
 refine nilO ?_
 have hyl := m0.length_eq; have hyn := t0.len; have hyl2 := t0.le
 refine thenK_n <| seqE <| sR <| pu3 <| nT <| blockE ?_
 refine loopA (γ := Nat) (fun m => [(1, Pt e0 0), (5, Pt a0 0), (6, I rt), (11, I lf), (9, .slice azs nzs kzs), (64, .slice v1 j0 w1), (65, I ((j0 : Nat) : Int)), (66, I ((m : Nat) : Int)), (10, I at_)]) (fun m w => Sat W w (z1 :: czs :: (Tri a0 82 [] (p0.flatMap encI) []) :: l0 :: [(e0, .cells (encJob p).toArray 28 (0, 0))] :: H :: F) ∧ m ≤ j0 ∧ (∀ u ∈ y0.take m, ¬ fwG (edgG p.inputs.n ((p.stages.l.map Stage.v).map srcs)) 16 u.toNat rt.toNat = lf)) (fun m => j0 - m) 0 ⟨b2, om, by intro u hu; simp at hu⟩ ?_
 rintro m ρ _ ⟨k0, hm, hY⟩
 refine sR <| pu1 <| nT <| seqE ?_
 refine cD (((m : Nat) : Int) < ((j0 : Nat) : Int)) (fun c2 => ?_) (fun c2 => ?_)
 rotate_left
 ·refine exitE <| xB <| thenK_n ?_
  have hno : False := by
   obtain ⟨c, hc1, hc2, hc3⟩ := hW.ex hR om om
   rw [hsg] at hc1
   have h1 := hY c (by rw [List.take_of_length_le om]; exact m0.mem_iff.2 hc1)
   exact h1 hc3
  refine regionE <| pu2 ?_
  refine sBS k0 #[I at_] Tryz.runUnderlying22 Tryz.sizeOf3 Tryz.zeroValue3 ?_
  intro _ _ d2
  refine sApp (nb := 8) d2 hOzs 2 (RdT.blk (enc := encI) (sz := 1) (xs := [at_]) fR 1 0 rfl rfl rfl om) Tryz.underlying22 (i := Tryz.t3) kr fR ?_
  intro e2 f2 g2 _ h2 i2
  refine pu1 <| nB <| regionE <| pu1 ?_
  refine sSub lf 1 ?_
  refine pu1 <| nT ?_
  have j2 := (i2.drops [0, 0])
  exact ⟨(k + 1, at_, (lf - 1), (zs ++ [at_]), e2, (nzs + 1), f2, g2), od, alA, j2, om, by simp; omega, om, hno.elim, h2⟩
 refine kT <| seqE <| blockE <| sR ?_
 refine sIdxO t0 ((m : Nat) : Int) m Tryz.runUnderlying22 Tryz.sizeOf3 ?_
 intro c0 _ _ u0 k2 _
 have hy_x_65 := hsr16 b0 (List.mem_of_getElem? d0) c0 (m0.mem_iff.1 (List.mem_of_getElem? u0))
 refine sLp k0 (k2.up 0 rfl) 0 (I c0) (Tryz.isAgg3 _) ?_
 refine pu1 <| nT <| sR <| pu2 ?_
 refine sIdxA (b := a0) (off := 0) c0 (c0.toNat) Tryz.runUnderlying82 Tryz.sizeOf81 ?_
 obtain ⟨v0, z0⟩ := at_some f0.1 (k := ((c0.toNat) * 16 + (rt.toNat))) om
 have hd_x_71 : v0 = fwG (edgG p.inputs.n ((p.stages.l.map Stage.v).map srcs)) 16 (c0.toNat) (rt.toNat) := MX.at f0 z0 om om rfl
 have hd2_x_71 := fw_rng (e := (edgG p.inputs.n ((p.stages.l.map Stage.v).map srcs))) (k := 16) (a := (c0.toNat)) (b := (rt.toNat))
 refine sIdxB (b := a0) (off := 0 + (c0.toNat) * 16) rt (rt.toNat) (0 + ((c0.toNat) * 16 + (rt.toNat)) * 1) Tryz.runUnderlying81 Tryz.sizeOf3 ?_
 refine sLp k0 (ptr_up 2 rfl (tri_el (sz := 1) (n0 := 0) fR z0)) 0 (I v0) (Tryz.isAgg3 _) ?_
 refine pu2 <| nT ?_
 refine cE v0 lf (fun l2 => ?_) (fun l2 => ?_)
 rotate_left
 ·refine skipE <| blockK_n <| thenK_n <| regionE ?_
  refine sAdd ((m : Nat) : Int) 1 ?_
  refine pu1 <| nT ?_
  have hY2 : ∀ u ∈ y0.take (m + 1), ¬ fwG (edgG p.inputs.n ((p.stages.l.map Stage.v).map srcs)) 16 u.toNat rt.toNat = lf := by
   rw [take_succ_at u0]; intro u hu
   rcases List.mem_append.1 hu with h | h
   ·exact hY u h
   ·rw [List.mem_singleton.1 h, ← hd_x_71]; omega
  exact ⟨m + 1, od, alA, k0, om, hY2⟩
 refine seqE ?_
 have hN : NX (fun x => fwG (edgG p.inputs.n ((p.stages.l.map Stage.v).map srcs)) 16 x rt.toNat) lf (srcG p.inputs.n ((p.stages.l.map Stage.v).map srcs) at_) c0 := by rw [hsg]; exact NX.of m0 (fun i j u v hij hu hv => a2 i j u v hij (by have := (List.getElem?_eq_some_iff.1 hv).1; omega) hu hv) u0 (by rw [← hd_x_71]; omega) hY
 refine regionE <| pu2 <| nT ?_
 refine exitE <| blockK_y rfl <| xB ?_
 refine thenK_n <| regionE <| pu2 ?_
 refine sBS k0 #[I c0] Tryz.runUnderlying22 Tryz.sizeOf3 Tryz.zeroValue3 ?_
 intro _ _ m2
 refine sApp (nb := 8) m2 hOzs 2 (RdT.blk (enc := encI) (sz := 1) (xs := [c0]) fR 1 0 rfl rfl rfl om) Tryz.underlying22 (i := Tryz.t3) kr fR ?_
 intro n2 o2 p2 _ q2 r2
 refine pu1 <| nB <| regionE <| pu1 ?_
 refine sSub lf 1 ?_
 refine pu1 <| nT ?_
 have s2 := (r2.drops [0, 0])
 exact ⟨(k + 1, c0, (lf - 1), (zs ++ [c0]), n2, (nzs + 1), o2, p2), od, alA, s2, om, by simp; omega, om, (hW.step om om hN), q2⟩
end Go.Proofs.YtbofcpnngniopaaGreat
