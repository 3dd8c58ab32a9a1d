/-
  Slices of structs that came in, read as lists. For any program.
-/
import Derived.Test.YtlhahicakkpnhaaGreatRow
import Derived.Deep.Slices
import Derived.ChangeSame
import Derived.Deep.Fields
namespace Go.E
open Go.RowKit Go.Deep
theorem ptr_row {w : World} {x : Addr} {l : List Value} (h0 : 0 < l.length) (h : ∀ k v, l[k]? = some v → w.cell? (x.add k) = some v) : ∃ b off, x = ⟨b, off, none⟩ ∧ PtR [blocks w] b off l := by
  have h00 := h 0 l[0] (by simp [h0])
  have hx0 : x.add 0 = x := by simp [Addr.add]
  rw [hx0] at h00
  obtain ⟨b, off, sp⟩ := x
  have hsp : sp = none := by
    cases sp with
    | none => rfl
    | some s =>
      exfalso
      unfold World.cell? at h00
      split at h00
      · simp at h00
      · cases h00
  subst hsp
  have hblk : ∃ c E f, w.heap[b]? = some (.cells c E f) := by
    unfold World.cell? at h00
    split at h00
    · rename_i c E f hh; exact ⟨c, E, f, hh⟩
    · cases h00
  obtain ⟨c, E, f, hh⟩ := hblk
  refine ⟨b, off, rfl, c, E, f, by simpa using mem_blocks hh, ?_⟩
  apply List.ext_getElem?
  intro j
  by_cases hj : j < l.length
  · rw [List.getElem?_take, if_pos hj, List.getElem?_drop]
    have hcj := h j l[j] (by simp [hj])
    rw [add_off] at hcj
    simp only [World.cell?, hh, Option.isSome_none, Bool.false_eq_true, if_false] at hcj
    have : c.toList[off + j]? = some l[j] := by simpa using hcj
    rw [this]; simp [hj]
  · rw [List.getElem?_take, if_neg hj, List.getElem?_eq_none (by omega)]
theorem list_of {α : Type} {R : Nat → α → Prop} : ∀ n : Nat, (∀ i, i < n → ∃ t, R i t) → ∃ xs : List α, xs.length = n ∧ ∀ i t, xs[i]? = some t → R i t
  | 0, _ => ⟨[], rfl, fun i t h => by simp at h⟩
  | n + 1, h => by
    obtain ⟨xs, hl, hx⟩ := list_of n (fun i hi => h i (by omega))
    obtain ⟨t, ht⟩ := h n (by omega)
    refine ⟨xs ++ [t], by simp [hl], fun i u hu => ?_⟩
    by_cases hi : i < xs.length
    · rw [List.getElem?_append_left hi] at hu; exact hx i u hu
    · rw [List.getElem?_append_right (by omega)] at hu
      have e : i - xs.length = 0 := by
        have := (List.getElem?_eq_some_iff.1 hu).1
        simp at this; omega
      rw [e] at hu
      simp at hu; subst hu
      have : i = n := by omega
      subst this; exact ht
theorem rd_rowT {α : Type} {enc : α → List Value} {sz : Nat} (he : ∀ x, (enc x).length = sz) (hsz : 0 < sz) {Q : α → Prop} {w : World} {x : Addr} {len cap : Nat} (hl : len ≤ cap) (hm : cap ≤ maxLen)
    (h : ∀ i, i < len → ∃ t, Q t ∧ ∀ j v, (enc t)[j]? = some v → w.cell? ((x.add (i * sz)).add j) = some v) : ∃ xs : List α, RdT enc sz [blocks w] (some x) len cap xs ∧ ∀ t ∈ xs, Q t := by
  obtain ⟨xs, hxl, hx⟩ := list_of (R := fun i t => Q t ∧ ∀ j v, (enc t)[j]? = some v → w.cell? ((x.add (i * sz)).add j) = some v) len h
  refine ⟨xs, ⟨hxl, he, by rw [flatMap_len he, hxl], hl, hm, ?_⟩, fun t ht => by
    obtain ⟨i, hi⟩ := List.mem_iff_getElem?.1 ht
    exact (hx i t hi).1⟩
  by_cases h0 : len = 0
  · exact .inl h0
  · right
    have hfl : (xs.flatMap enc).length = len * sz := by rw [flatMap_len he, hxl]
    obtain ⟨b, off, rfl, hp⟩ := ptr_row (w := w) (x := x) (l := xs.flatMap enc) (by rw [hfl]; exact Nat.mul_pos (by omega) hsz) (by
      intro k v hk
      have hkl : k < len * sz := by rw [← hfl]; exact (List.getElem?_eq_some_iff.1 hk).1
      have hi : k / sz < len := Nat.div_lt_of_lt_mul (by rw [Nat.mul_comm]; exact hkl)
      have hj : k % sz < sz := Nat.mod_lt _ hsz
      have hxi : xs[k / sz]? = some (xs[k / sz]'(by omega)) := by simp [hxl, hi]
      have hat := flatMap_at he xs (k / sz) _ hxi
      have hk2 : k / sz * sz + k % sz = k := by rw [Nat.mul_comm]; exact Nat.div_add_mod k sz
      have hv : (enc (xs[k / sz]'(by omega)))[k % sz]? = some v := by
        rw [← hat, List.getElem?_take, if_pos hj, List.getElem?_drop, hk2]; exact hk
      have h3 := (hx _ _ hxi).2 _ _ hv
      rw [Go.Deep.add_add, hk2] at h3
      exact h3)
    exact ⟨b, off, rfl, hp⟩
section
variable {H : Type} {enc : TypeId × Value → H} {P : Program} {w : World}
open Go.ChangeShapes in
theorem ints_row {t e : TypeId} {n : Nat} {cs : List Value} {y : DataW H × List MemPlace} (ht : P.underlying t = some (.slice e)) (he : P.underlying e = some (.int .i64)) (hc : P.cellsOf e = 1) (h : DataW.trod enc P w 0 (fun _ => true) true n t cs = some y) :
    ∃ (a : Option Addr) (m k : Nat) (l : List Int), cs = [.slice a m k] ∧ RdT encI 1 [blocks w] a m k l := by
  rcases open_ints ht he hc h with ⟨hcs, _⟩ | ⟨x, l, c, zs, hcs, _, hl, hm, hz, _, hcell, hwz⟩
  · exact ⟨none, 0, 0, [], hcs, RdT.nil (enc := encI) (sz := 1) (fun _ => rfl) _⟩
  · exact ⟨some x, l, c, _, hcs, rd_row (.inr ⟨x, rfl, hl, hm, by simpa using hz, hcell, hwz⟩)⟩
theorem structs_row {α : Type} {en : α → List Value} {sz : Nat} {Q : α → Prop} {t e : TypeId} {n : Nat} {cs : List Value} {y : DataW H × List MemPlace} (he : ∀ x, (en x).length = sz) (hsz : 0 < sz) (ht : P.underlying t = some (.slice e)) (hc : P.cellsOf e = sz)
    (ho : ∀ n cs y, DataW.trod enc P w 0 (fun _ => true) true n e cs = some y → ∃ z, cs = en z ∧ Q z) (h : DataW.trod enc P w 0 (fun _ => true) true n t cs = some y) :
    ∃ (a : Option Addr) (m k : Nat) (l : List α), cs = [.slice a m k] ∧ RdT en sz [blocks w] a m k l ∧ ∀ z ∈ l, Q z := by
  rcases open_slice ht h with ⟨hcs, _⟩ | ⟨x, len, cap, m, n', D, Pl, hcs, _, hl, hm, hmm, _, hi⟩
  · exact ⟨none, 0, 0, [], hcs, RdT.nil he _, fun z hz => by cases hz⟩
  · have hlm : len ≤ m := by rw [hmm]; simp only [if_true]; exact hl
    obtain ⟨xs, hR, hQ⟩ := rd_rowT (w := w) (x := x) (Q := Q) he hsz hl hm (fun i hil => by
      obtain ⟨cs', hc', ht'⟩ := hi i (by omega)
      obtain ⟨z, rfl, hq⟩ := ho _ _ _ ht'
      refine ⟨z, hq, fun j v hj => ?_⟩
      obtain ⟨_, hcl, hat⟩ := World.cells?_some hc'
      rw [hc] at hat
      rw [hat j (by rw [← he z]; exact (List.getElem?_eq_some_iff.1 hj).1)]; exact hj)
    exact ⟨some x, len, cap, xs, hcs, hR, hQ⟩
end
end Go.E
