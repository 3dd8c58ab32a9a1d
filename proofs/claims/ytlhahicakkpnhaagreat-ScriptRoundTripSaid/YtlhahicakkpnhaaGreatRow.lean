/-
  From a call's start to pieces of the heap, and back to 'nothing that was there has turned'. For any program.
-/
import Derived.Test.YtlhahicakkpnhaaGreatWalk
import Derived.OpenShut
namespace Go.E
open Go.RowKit

def blocks (w : World) : Chunk := (List.range w.heap.size).map fun i => (i, w.heap.getD i default)

theorem mem_blocks {w : World} {b : Nat} {o : Obj} (h : w.heap[b]? = some o) : (b, o) ∈ blocks w := by
  have hl : b < w.heap.size := (Array.getElem?_eq_some_iff.1 h).1
  refine List.mem_map.2 ⟨b, List.mem_range.2 hl, ?_⟩
  simp [Array.getD_eq_getD_getElem?, h]

theorem sat_start (w : World) : Sat w w [blocks w] := by
  refine ⟨rfl, rfl, rfl, ?_, ?_⟩
  · have : (blocks w).map (·.1) = List.range w.heap.size := by simp [blocks, Function.comp_def]
    simp only [List.flatten_cons, List.flatten_nil, List.append_nil, this]
    exact List.nodup_range
  · intro p hp
    simp only [List.flatten_cons, List.flatten_nil, List.append_nil, blocks, List.mem_map, List.mem_range] at hp
    obtain ⟨i, hi, rfl⟩ := hp
    simp [Array.getD_eq_getD_getElem?, hi]

theorem below_of_sat {w w' : World} {cs : List Chunk} (h : Sat w w' cs) (hm : ∀ p ∈ blocks w, p ∈ cs.flatten) : Below w.heap.size w w' := by
  have hb : ∀ k, k < w.heap.size → w'.heap[k]? = w.heap[k]? := fun k hk => by
    have : w.heap[k]? = some w.heap[k] := by simp [hk]
    rw [this]
    exact h.heap (hm _ (mem_blocks this))
  refine ⟨h.os, h.tape, h.output, ?_, hb⟩
  rcases Nat.lt_or_ge w'.heap.size w.heap.size with hlt | hge
  · have := hb w'.heap.size hlt
    simp [hlt] at this
  · exact hge

/-- A slice of whole numbers that came in. -/
theorem rd_rowK (K : IntKind) {w : World} {a : Option Addr} {len cap : Nat} {zs : List Int}
    (h : (a = none ∧ len = 0 ∧ cap = 0 ∧ zs = []) ∨ ∃ x, a = some x ∧ len ≤ cap ∧ cap ≤ maxLen ∧ zs.length = cap ∧ (∀ i, i < zs.length → w.cell? (x.add i) = some (.int K (zs.getD i 0))) ∧ ∀ n ∈ zs, (Lit.int K n).wf = true) :
    RdT (fun x => [Value.int K x]) 1 [blocks w] a len cap (zs.take len) := by
  rcases h with ⟨rfl, rfl, rfl, rfl⟩ | ⟨x, rfl, hl, hm, hz, hc, _⟩
  · exact RdT.nil (enc := fun x => [Value.int K x]) (sz := 1) (fun _ => rfl) _
  · refine ⟨by simp; omega, fun _ => rfl, ⟨by rw [flatMap_len (sz := 1) (fun _ => rfl)]; simp; omega, hl, hm, ?_⟩⟩
    by_cases h0 : len = 0
    · exact .inl h0
    · right
      have h00 := hc 0 (by omega)
      have hx0 : x.add 0 = x := by simp [Addr.add]
      rw [hx0] at h00
      obtain ⟨b, off, sp⟩ := x
      have hsp : sp = none := by
        cases sp with
        | none => rfl
        | some s =>
          exfalso
          unfold World.cell? at h00
          split at h00
          · simp at h00
          · cases h00
      subst hsp
      have hblk : ∃ c E f, w.heap[b]? = some (.cells c E f) := by
        unfold World.cell? at h00
        split at h00
        · rename_i c E f hh; exact ⟨c, E, f, hh⟩
        · cases h00
      obtain ⟨c, E, f, hh⟩ := hblk
      refine ⟨b, off, rfl, c, E, f, by simpa using mem_blocks hh, ?_⟩
      apply List.ext_getElem?
      intro j
      have hlen : ((zs.take len).flatMap (fun x => [Value.int K x])).length = len := by rw [flatMap_len (sz := 1) (fun _ => rfl)]; simp; omega
      rw [hlen]
      by_cases hj : j < len
      · rw [List.getElem?_take, if_pos hj, List.getElem?_drop]
        have hcj := hc j (by omega)
        rw [add_off] at hcj
        simp only [World.cell?, hh, Option.isSome_none, Bool.false_eq_true, if_false] at hcj
        have : c.toList[off + j]? = some (.int K (zs.getD j 0)) := by simpa using hcj
        rw [this]
        have hfm : ∀ (l : List Int) (k : Nat), (l.flatMap (fun x => [Value.int K x]))[k]? = (l[k]?).map (Value.int K ·) := by
          intro l
          induction l with
          | nil => simp
          | cons y ys ih => intro k; cases k with | zero => simp | succ k => simp [ih]
        rw [hfm, List.getElem?_take, if_pos hj]
        have hjz : j < zs.length := by omega
        simp [List.getD_eq_getElem?_getD, hjz]
      · rw [List.getElem?_take, if_neg hj, List.getElem?_eq_none (by omega)]

theorem rd_row {w : World} {a : Option Addr} {len cap : Nat} {zs : List Int}
    (h : (a = none ∧ len = 0 ∧ cap = 0 ∧ zs = []) ∨ ∃ x, a = some x ∧ len ≤ cap ∧ cap ≤ maxLen ∧ zs.length = cap ∧ (∀ i, i < zs.length → w.cell? (x.add i) = some (.int .i64 (zs.getD i 0))) ∧ ∀ n ∈ zs, (Lit.int .i64 n).wf = true) :
    RdT encI 1 [blocks w] a len cap (zs.take len) := rd_rowK .i64 h
theorem bytes_row {w : World} {a : Option Addr} {len cap : Nat} {zs : List Int}
    (h : (a = none ∧ len = 0 ∧ cap = 0 ∧ zs = []) ∨ ∃ x, a = some x ∧ len ≤ cap ∧ cap ≤ maxLen ∧ zs.length = cap ∧ (∀ i, i < zs.length → w.cell? (x.add i) = some (.int .u8 (zs.getD i 0))) ∧ ∀ n ∈ zs, (Lit.int .u8 n).wf = true) :
    ∀ b ∈ zs.take len, 0 ≤ b ∧ b < 256 := by
  intro b hb
  rcases h with ⟨_, _, _, rfl⟩ | ⟨_, _, _, _, _, _, hw⟩
  · simp at hb
  · have h2 := hw b (List.mem_of_mem_take hb)
    simp [Lit.wf, IntKind.min, IntKind.max, IntKind.bits, IntKind.signed] at h2
    omega

end Go.E
