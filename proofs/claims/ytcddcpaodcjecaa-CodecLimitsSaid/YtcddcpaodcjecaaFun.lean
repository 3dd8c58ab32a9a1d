/-
  All pieces of memory as one, loops that scan lists. For any program.
-/
import Derived.Test.YtcddcpaodcjecaaBits
namespace Go.E
set_option linter.unusedVariables false
set_option linter.unusedSimpArgs false

theorem Sat.flat {W w : World} {cs : List Chunk} (h : Sat W w cs) : Sat W w [cs.flatten] := h.perm (by simp)
theorem Sat.unflat {W w : World} {cs : List Chunk} (h : Sat W w [cs.flatten]) : Sat W w cs := h.perm (by simp)
theorem Sat.flat1 {W w : World} {c : Chunk} {cs : List Chunk} (h : Sat W w (c :: cs)) : Sat W w [c, cs.flatten] := h.perm (by simp)
theorem Sat.unflat1 {W w : World} {c : Chunk} {cs : List Chunk} (h : Sat W w [c, cs.flatten]) : Sat W w (c :: cs) := h.perm (by simp)
theorem Sat.unflat2 {W w : World} {c d : Chunk} {cs : List Chunk} (h : Sat W w [c, d, cs.flatten]) : Sat W w (c :: d :: cs) := h.perm (by simp)
theorem mem_flat {cs : List Chunk} : ∀ p ∈ cs.flatten, p ∈ [cs.flatten].flatten := by intro p h; simpa using h
theorem mem_flat1 {cs : List Chunk} {c : Chunk} (i : Nat) (h : cs[i]? = some c) : ∀ p ∈ [c].flatten, p ∈ [cs.flatten].flatten := by
  intro p hp
  simp only [List.flatten_cons, List.flatten_nil, List.append_nil] at hp ⊢
  exact List.mem_flatten.2 ⟨c, List.mem_of_getElem? h, hp⟩
theorem RdT.flat {α : Type} {enc : α → List Value} {sz : Nat} {cs : List Chunk} {a : Option Addr} {n k : Nat} {xs : List α} (h : RdT enc sz cs a n k xs) : RdT enc sz [cs.flatten] a n k xs := h.of_mem mem_flat
theorem take_succ_at {α : Type} {xs : List α} {i : Nat} {x : α} (h : xs[i]? = some x) : xs.take (i + 1) = xs.take i ++ [x] := by
  rw [List.take_add_one, h, Option.toList_some]
theorem take_eq_succ {α : Type} {xs ys : List α} {i : Nat} {x y : α} (h : xs.take i = ys.take i) (hx : xs[i]? = some x) (hy : ys[i]? = some y) (e : x = y) : xs.take (i + 1) = ys.take (i + 1) := by
  rw [take_succ_at hx, take_succ_at hy, h, e]
theorem ne_of_at {α : Type} {xs ys : List α} {i : Nat} {x y : α} (hx : xs[i]? = some x) (hy : ys[i]? = some y) (e : x ≠ y) : xs ≠ ys := by
  intro h; subst h; rw [hx] at hy; exact e (Option.some.inj hy)
theorem eq_of_take {α : Type} {xs ys : List α} {i : Nat} (h : xs.take i = ys.take i) (h1 : xs.length ≤ i) (h2 : ys.length ≤ i) : xs = ys := by
  rwa [List.take_of_length_le h1, List.take_of_length_le h2] at h
theorem map_at {α β : Type} {f : α → β} {xs : List α} {i : Nat} {x : α} (h : xs[i]? = some x) : (xs.map f)[i]? = some (f x) := by rw [List.getElem?_map, h]; rfl
theorem all_succ {α : Type} {p : α → Bool} {xs : List α} {i : Nat} {x : α} (h : (xs.take i).all p = true) (hx : xs[i]? = some x) (e : p x = true) : (xs.take (i + 1)).all p = true := by
  rw [take_succ_at hx, List.all_append, h]; simp [e]
theorem all_false_at {α : Type} {p : α → Bool} {xs : List α} {i : Nat} {x : α} (hx : xs[i]? = some x) (e : p x = false) : xs.all p = false := by
  rw [List.all_eq_false]; exact ⟨x, List.mem_of_getElem? hx, by simp [e]⟩
theorem all_of_take {α : Type} {p : α → Bool} {xs : List α} {i : Nat} (h : (xs.take i).all p = true) (h1 : xs.length ≤ i) : xs.all p = true := by
  rwa [List.take_of_length_le h1] at h
theorem bool_em (a b : Bool) : a = b ∨ ¬ a = b := Decidable.em _
end Go.E
