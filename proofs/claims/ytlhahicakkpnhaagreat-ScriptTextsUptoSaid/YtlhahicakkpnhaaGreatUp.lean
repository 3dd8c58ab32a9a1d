/-
  Slices of bytes that came in, and how long a slice of a small reading is. For any program.
-/
import Derived.Test.YtlhahicakkpnhaaGreatRowS
import Derived.Test.YtlhahicakkpnhaaGreatBits
import Derived.Test.YtlhahicakkpnhaaGreatRows
namespace Go.E
open Go.RowKit Go.Deep Go.Proofs.YtlhahicakkpnhaaGreat
section
variable {H : Type} {enc : TypeId × Value → H} {P : Program} {w : World}
open Go.ChangeShapes in
theorem bytes_row2 {t e : TypeId} {n : Nat} {cs : List Value} {y : DataW H × List MemPlace} (ht : P.underlying t = some (.slice e)) (he : P.underlying e = some (.int .u8)) (hc : P.cellsOf e = 1) (h : DataW.trod enc P w 0 (fun _ => true) true n t cs = some y) :
    ∃ (a : Option Addr) (m k : Nat) (l : List Int), cs = [.slice a m k] ∧ RdT encB 1 [blocks w] a m k l ∧ Bytes l := by
  rcases open_ints ht he hc h with ⟨hcs, _⟩ | ⟨x, l, c, zs, hcs, _, hl, hm, hz, _, hcell, hwz⟩
  · exact ⟨none, 0, 0, [], hcs, RdT.nil (enc := encB) (sz := 1) (fun _ => rfl) _, fun b hb => by cases hb⟩
  · have hr : (some x = none ∧ l = 0 ∧ c = 0 ∧ zs = []) ∨ ∃ x', some x = some x' ∧ l ≤ c ∧ c ≤ maxLen ∧ zs.length = c ∧ (∀ i, i < zs.length → w.cell? (x'.add i) = some (.int .u8 (zs.getD i 0))) ∧ ∀ n ∈ zs, (Lit.int .u8 n).wf = true := .inr ⟨x, rfl, hl, hm, by simpa using hz, hcell, hwz⟩
    exact ⟨some x, l, c, _, hcs, rd_rowK .u8 hr, bytes_row hr⟩
theorem slice_bulk {t e : TypeId} {n : Nat} {a : Option Addr} {len cap : Nat} {y : DataW H × List MemPlace} (ht : P.underlying t = some (.slice e)) (h : DataW.trod enc P w 0 (fun _ => true) true n t [.slice a len cap] = some y) : len ≤ Rows.uptoBulk y.1 := by
  have hl : ∀ l : List (DataW H), l.length ≤ Rows.uptoBulkAll l := by
    intro l
    induction l with
    | nil => simp [Rows.uptoBulkAll]
    | cons x r ih =>
      have h1 : 1 ≤ Rows.uptoBulk x := by
        cases x with
        | lit l => cases l <;> simp [Rows.uptoBulk]
        | nil => simp [Rows.uptoBulk]
        | ptr d => simp [Rows.uptoBulk]
        | slice elems spare => simp [Rows.uptoBulk]
        | agg parts => simp [Rows.uptoBulk]
        | iface t d => simp [Rows.uptoBulk]
        | map entries => simp [Rows.uptoBulk]
        | held h => simp [Rows.uptoBulk]
      simp only [Rows.uptoBulkAll, List.length_cons]; omega
  rcases open_slice ht h with ⟨hcs, _⟩ | ⟨x, l, c, m, n', D, Pl, hcs, _, _, _, _, hy, _⟩
  · simp at hcs; omega
  · simp at hcs
    obtain ⟨_, rfl, _⟩ := hcs
    rw [hy]
    simp only [Rows.uptoBulk]
    have := hl ((List.range len).map D)
    rw [List.length_map, List.length_range] at this
    omega
end
end Go.E
