import Derived.Test.YtdingplbadblpaaGreatP2TGen
import Derived.Test.YtdingplbadblpaaGreatP2Tri
import Derived.Shelf.SortG.Plain
import Derived.Shelf.SortG.SortNone
import Derived.Shelf.SlicesG.CompactI
import Derived.Test.YtdingplbadblpaaGreatP2Lc
import Derived.Test.YtdingplbadblpaaGreatProg
namespace Go.Proofs.YtdingplbadblpaaGreat
open Go Go.E
set_option linter.unusedVariables false
set_option linter.unusedSimpArgs false
set_option linter.unnecessarySimpa false
set_option maxRecDepth 100000
set_option maxHeartbeats 2000000
variable {W w : World} {H : Chunk} {F : List Chunk}

end Go.Proofs.YtdingplbadblpaaGreat

/-
  The library's slices.Sort and slices.Compact at whole numbers, over slices of one's own. For any program.
-/
namespace Go.E
open Go.Shelf Go.RowKit Go.Sort Go.Proofs
set_option linter.unusedVariables false
set_option linter.unusedSimpArgs false
section
variable {P : Program} {ρ : Ren} {W w : World} {cs : List Chunk} {E : TypeId} {a : Option Addr} {n k : Nat} {xs : List Int} {c : Chunk}
theorem putCells_list {off : Nat} {zs : List Int} {cur : Array Value} (hf : off + zs.length ≤ cur.size) : ((putCells (Value.int .i64) off zs.toArray cur).toList.drop off).take zs.length = zs.flatMap encI := by
  have hm : ∀ l : List Int, l.flatMap encI = l.map (Value.int .i64) := by
    intro l
    induction l with
    | nil => rfl
    | cons x l ih => rw [List.flatMap_cons, ih]; rfl
  rw [hm]
  apply List.ext_getElem?
  intro j
  by_cases hj : j < zs.length
  · rw [List.getElem?_take, if_pos hj, List.getElem?_drop]
    have hlt : off + j < cur.size := by omega
    simp only [putCells, Array.toList_mapIdx, List.getElem?_mapIdx, List.getElem?_map, Array.getElem?_toList]
    rw [Array.getElem?_eq_getElem hlt, List.getElem?_eq_getElem hj]
    simp only [Option.map_some, Option.some.injEq]
    rw [if_pos (by constructor <;> simp <;> omega), show off + j - off = j by omega]
    simp [hj]
  · rw [List.getElem?_take, if_neg hj, List.getElem?_eq_none (by simp; omega)]
theorem putCells_size {off : Nat} {zs : List Int} {cur : Array Value} : (putCells (Value.int .i64) off zs.toArray cur).size = cur.size := by simp [putCells]
theorem sat_putRow {b off : Nat} {cur : Array Value} {q : Nat} {zs : List Int} {os : Array Obj} (hS : Sat W w ([(b, .cells cur E (0, 0))] :: cs)) :
    Sat W (grow (putRow (Value.int .i64) (Go.Sort.ahead w q) b off zs.toArray) os) ([(b, .cells (putCells (Value.int .i64) off zs.toArray cur) E (0, 0))] :: cs) := by
  have hb : w.heap[b]? = some (.cells cur E (0, 0)) := hS.heap (by simp)
  have hbl : b < w.heap.size := (Array.getElem?_eq_some_iff.1 hb).1
  refine ⟨hS.os, hS.tape, hS.output, hS.nd, ?_⟩
  intro p hp
  have hsz : ∀ j, j < w.heap.size → (grow (putRow (Value.int .i64) (Go.Sort.ahead w q) b off zs.toArray) os).heap[j]? = (w.heap.modify b (onCells (putCells (Value.int .i64) off zs.toArray)))[j]? := by
    intro j hj
    rw [heap_grow_old _ _ (by rw [size_putRow]; exact hj)]; rfl
  simp only [List.flatten_cons, List.cons_append, List.nil_append, List.mem_cons] at hp
  rcases hp with rfl | hp
  · rw [hsz b hbl, Array.getElem?_modify, if_pos rfl, hb]; rfl
  · have h0 := hS.all p (by simp [hp])
    have hlt : p.1 < w.heap.size := (Array.getElem?_eq_some_iff.1 h0).1
    have hne : b ≠ p.1 := by
      intro e
      have := hS.nd
      simp only [List.flatten_cons, List.cons_append, List.nil_append, List.map_cons, List.nodup_cons, List.mem_map, not_exists] at this
      exact this.1 p ⟨hp, e.symm⟩
    rw [hsz p.1 hlt, Array.getElem?_modify, if_neg hne]; exact h0
theorem holds_of {b off : Nat} {cur : Array Value} {zs : List Int} (hS : Sat W w ([(b, .cells cur E (0, 0))] :: cs)) (h : (cur.toList.drop off).take zs.length = zs.flatMap encI) : Holds (Value.int .i64) w b off zs.toArray := by
  have hb : w.heap[b]? = some (.cells cur E (0, 0)) := hS.heap (by simp)
  have hm : ∀ l : List Int, l.flatMap encI = l.map (Value.int .i64) := by
    intro l
    induction l with
    | nil => rfl
    | cons x l ih => rw [List.flatMap_cons, ih]; rfl
  intro j hj
  have hj' : j < zs.length := by simpa using hj
  have hat := congrArg (·[j]?) h
  simp only [hm, List.getElem?_take, if_pos hj', List.getElem?_drop, List.getElem?_map, List.getElem?_eq_getElem hj', Option.map_some] at hat
  constructor
  · simp only [World.cell?, hb, Option.isSome_none, Bool.false_eq_true, if_false]
    have : cur[off + j]? = some (Value.int .i64 zs[j]) := by rw [← Array.getElem?_toList]; exact hat
    rw [this]; simp [hj']
  · simp [World.frozen?, hb]
theorem own_sort (L : Go.Proofs.SlLaysN.n53 P ρ) (hO : OwnT encI E 1 a n k xs c) (hS : Sat W w (c :: cs)) (hn : n < 4611686018427387904) :
    Calls P (ρ.f 53) #[.slice a n k] w fun e w' => ∃ c' : Chunk, e = .returned (.tuple #[]) ∧ OwnT encI E 1 a n k (xs.mergeSort fun x y => decide (x ≤ y)) c' ∧ Sat W w' (c' :: cs) := by
  obtain ⟨h1, h2, h3, h4⟩ := hO
  by_cases h0 : n = 0
  · subst h0
    have hx : xs = [] := List.eq_nil_of_length_eq_zero h1
    subst hx
    refine (AnyG.slices_Sort_int_none L a k w).mono ?_
    rintro e w' ⟨rfl, rfl⟩
    have e : ([] : List Int).mergeSort (fun x y => decide (x ≤ y)) = [] := List.eq_nil_of_length_eq_zero (List.length_mergeSort _)
    exact ⟨c, rfl, by rw [e]; exact ⟨h1, h2, h3, h4⟩, hS⟩
  · rcases h4 with ⟨_, h5, _⟩ | ⟨b, off, cur, rfl, rfl, h5, h6, h7, h8⟩
    · exact absurd h5 h0
    · have hb : w.heap[b]? = some (.cells cur E (0, 0)) := hS.heap (by simp)
      have hbl : b < w.heap.size := (Array.getElem?_eq_some_iff.1 hb).1
      subst h1
      rw [Nat.mul_one] at h8 h7
      refine (AnyG.slices_Sort_int L b off k xs w (holds_of hS h8) hbl hn).mono ?_
      rintro e w' ⟨rfl, q, os, rfl⟩
      have hl : (xs.mergeSort fun x y => decide (x ≤ y)).length = xs.length := List.length_mergeSort _
      refine ⟨_, rfl, ⟨hl, h2, by rw [flatMap_len h2, hl], .inr ⟨b, off, _, rfl, rfl, h5, h6, by rw [putCells_size, Nat.mul_one]; exact h7, ?_⟩⟩, sat_putRow hS⟩
      rw [Nat.mul_one, ← hl]
      exact putCells_list (by rw [hl]; omega)
theorem own_comp (L : Go.Proofs.SlLaysN.n43 P ρ) (hO : OwnT encI E 1 a n k xs c) (hS : Sat W w (c :: cs)) :
    Calls P (ρ.f 43) #[.slice a n k] w fun e w' => ∃ (m : Nat) (c' : Chunk), e = .returned (.slice a m k) ∧ OwnT encI E 1 a m k (Go.Lib.compact xs) c' ∧ Sat W w' (c' :: cs) := by
  obtain ⟨h1, h2, h3, h4⟩ := hO
  by_cases h0 : n = 0
  · subst h0
    have hx : xs = [] := List.eq_nil_of_length_eq_zero h1
    subst hx
    refine (AnyG.slices_Compact_int_empty L a k w).mono ?_
    rintro e w' ⟨rfl, rfl⟩
    exact ⟨0, c, rfl, ⟨rfl, h2, h3, h4⟩, hS⟩
  · rcases h4 with ⟨_, h5, _⟩ | ⟨b, off, cur, rfl, rfl, h5, h6, h7, h8⟩
    · exact absurd h5 h0
    · subst h1
      rw [Nat.mul_one] at h8 h7
      refine (AnyG.slices_Compact_int L b off k xs w (holds_of hS h8) (by have : maxLen ≤ 9223372036854775807 := (by decide); omega) h5).mono ?_
      rintro e w' ⟨rfl, q, rfl⟩
      have hle : (Go.Lib.compact xs).length ≤ xs.length := by
        unfold Go.Lib.compact Go.Lib.compactUpTo
        rw [List.length_map]
        exact Nat.le_trans (List.length_filter_le _ _) (by simp)
      have hlen : (Go.Lib.compact xs ++ List.replicate (xs.length - (Go.Lib.compact xs).length) (0 : Int)).length = xs.length := by simp; omega
      have hSat := sat_putRow (q := q) (off := off) (zs := Go.Lib.compact xs ++ List.replicate (xs.length - (Go.Lib.compact xs).length) (0 : Int)) (os := #[]) hS
      rw [grow_empty] at hSat
      refine ⟨_, _, rfl, ⟨rfl, h2, by rw [flatMap_len h2], .inr ⟨b, off, _, rfl, rfl, by omega, h6, by rw [putCells_size, Nat.mul_one]; exact h7, ?_⟩⟩, hSat⟩
      have hp := putCells_list (off := off) (cur := cur) (zs := Go.Lib.compact xs ++ List.replicate (xs.length - (Go.Lib.compact xs).length) (0 : Int)) (by rw [hlen]; omega)
      have ht := congrArg (·.take (Go.Lib.compact xs).length) hp
      rw [List.take_take, Nat.min_eq_left (by rw [hlen]; exact hle), List.flatMap_append] at ht
      rw [Nat.mul_one, ht]
      have hle2 : ((Go.Lib.compact xs).flatMap encI).length = (Go.Lib.compact xs).length := by rw [flatMap_len h2, Nat.mul_one]
      rw [← hle2, List.take_left]
end
end Go.E

namespace Go.Proofs.YtdingplbadblpaaGreat
open Go Go.E
set_option linter.unusedVariables false
set_option linter.unusedSimpArgs false
set_option linter.unnecessarySimpa false
set_option maxRecDepth 100000
set_option maxHeartbeats 2000000
variable {W w : World} {H : Chunk} {F : List Chunk}
structure LayM where
  jobInputs : Sl Plane
  jobStages : Sl Stage
  jobOutputs : Sl Int
  jobPriority : Int
  tw : Int
  th : Int
  order : Sl Int
  shapes : Sl Shape
  first : Sl Int
  count : Sl Int
def encLayM (x : LayM) : List Value := [.slice x.jobInputs.a x.jobInputs.n x.jobInputs.k, .slice x.jobStages.a x.jobStages.n x.jobStages.k, .slice x.jobOutputs.a x.jobOutputs.n x.jobOutputs.k, .int .i64 x.jobPriority, .int .i64 x.tw, .int .i64 x.th, .slice x.order.a x.order.n x.order.k, .slice x.shapes.a x.shapes.n x.shapes.k, .slice x.first.a x.first.n x.first.k, .slice x.count.a x.count.n x.count.k]
structure LayMV where
  jobInputs : List PlaneV
  jobStages : List StageV
  jobOutputs : List Int
  jobPriority : Int
  tw : Int
  th : Int
  order : List Int
  shapes : List Shape
  first : List Int
  count : List Int
  deriving DecidableEq
def LayM.v (x : LayM) : LayMV := ⟨x.jobInputs.l.map Plane.v, x.jobStages.l.map Stage.v, x.jobOutputs.l, x.jobPriority, x.tw, x.th, x.order.l, x.shapes.l, x.first.l, x.count.l⟩
structure LayM.Ok (cs : List Chunk) (q : LayM) : Prop where
  jobInputs : RdT encPlane 4 cs q.jobInputs.a q.jobInputs.n q.jobInputs.k q.jobInputs.l
  jobInputsD : ∀ z ∈ q.jobInputs.l, Plane.Ok cs z
  jobStages : RdT encStage 18 cs q.jobStages.a q.jobStages.n q.jobStages.k q.jobStages.l
  jobStagesD : ∀ z ∈ q.jobStages.l, Stage.Ok cs z
  jobOutputs : RdT Go.E.encI 1 cs q.jobOutputs.a q.jobOutputs.n q.jobOutputs.k q.jobOutputs.l
  order : RdT Go.E.encI 1 cs q.order.a q.order.n q.order.k q.order.l
  shapes : RdT encShape 3 cs q.shapes.a q.shapes.n q.shapes.k q.shapes.l
  first : RdT Go.E.encI 1 cs q.first.a q.first.n q.first.k q.first.l
  count : RdT Go.E.encI 1 cs q.count.a q.count.n q.count.k q.count.l
theorem LayM.Ok.of_mem {cs cs' : List Chunk} {x : LayM} (h : LayM.Ok cs x) (hm : ∀ p ∈ cs.flatten, p ∈ cs'.flatten) : LayM.Ok cs' x := ⟨h.jobInputs.of_mem hm, fun y hy => (h.jobInputsD y hy).of_mem hm, h.jobStages.of_mem hm, fun y hy => (h.jobStagesD y hy).of_mem hm, h.jobOutputs.of_mem hm, h.order.of_mem hm, h.shapes.of_mem hm, h.first.of_mem hm, h.count.of_mem hm⟩
/-! ### what holds of a job whose shapes are known -/
/-- Each listed stage comes behind its sources. -/
def BefG (ni : Int) (D : List (List Int)) (out : List Int) : Prop := ∀ pre x post, out = pre ++ x :: post → ∀ s, D[(x - ni).toNat]? = some s → ∀ y ∈ s, y < ni ∨ y ∈ pre
theorem BefG.nil {ni : Int} {D : List (List Int)} : BefG ni D [] := by
  intro pre x post h; cases pre <;> simp at h
theorem BefG.add {ni : Int} {D : List (List Int)} {out : List Int} {k : Nat} (h : BefG ni D out) (hc : canG ni D out k) : BefG ni D (out ++ [ni + ((k : Nat) : Int)]) := by
  intro pre x post e s hs y hy
  rcases List.append_eq_append_iff.1 e with ⟨z, h1, h2⟩ | ⟨z, h1, h2⟩
  · cases z with
    | nil =>
      simp at h1 h2
      obtain ⟨s2, hs2, _, h4⟩ := hc
      rw [← h2.1, show (ni + ((k : Nat) : Int) - ni).toNat = k by omega, hs2] at hs
      obtain rfl := Option.some.inj hs
      rw [h1]; exact h4 y hy
    | cons a z => simp at h2
  · cases z with
    | nil =>
      simp at h1 h2
      obtain ⟨s2, hs2, _, h4⟩ := hc
      rw [h2.1, show (ni + ((k : Nat) : Int) - ni).toNat = k by omega, hs2] at hs
      obtain rfl := Option.some.inj hs
      rw [← h1]; exact h4 y hy
    | cons a z =>
      simp at h2
      obtain ⟨rfl, h3⟩ := h2
      exact h pre x z h1 s hs y hy
theorem list_bef {ni : Int} (hni : 0 ≤ ni) {D : List (List Int)} : ∀ (k : Nat) {out : List Int}, BefG ni D out → BefG ni D (listG ni D k out)
  | 0, out, h => h
  | k + 1, out, h => by
    unfold listG
    rcases pick0 hni (out := out) (D := D) with h1 | ⟨m, h1, h2, _⟩
    · rw [if_pos h1.1]; exact h
    · rw [if_neg (by omega), h1]
      exact list_bef hni k (h.add h2)
theorem OutG.every {ni : Int} {D : List (List Int)} {out : List Int} (h : OutG ni D out) (hl : out.length = D.length) {x : Int} (h1 : ni ≤ x) (h2 : x < ni + ((D.length : Nat) : Int)) : x ∈ out := by
  by_cases hx : x ∈ out
  · exact hx
  · exfalso
    have h3 : OutG ni D (x :: out) := ⟨fun y hy => by
      rcases List.mem_cons.1 hy with e | hy
      · rw [e]; exact ⟨h1, h2⟩
      · exact h.r y hy, List.nodup_cons.2 ⟨hx, h.d⟩⟩
    have := h3.len
    rw [List.length_cons] at this; omega
theorem stg_at {ss : List StageV} {ni : Int} {x : Int} {s : StageV} (h : ss[(x - ni).toNat]? = some s) : stgAt ss ni x = s := by unfold stgAt; rw [h]; rfl
theorem a_src (s : StageV) : s.a ∈ srcs s := by unfold srcs; split <;> simp
theorem b_src {s : StageV} (h : twoP s) : s.b ∈ srcs s := by unfold srcs; rw [if_pos h]; simp
/-- The shape of a stage fits its sources' shapes. -/
def FitP (ni : Int) (ss : List StageV) (sh : List Shape) (x : Int) : Prop := shpStep ni ss x sh = (shpAt sh x, 0)
theorem shpAt_set {sh : List Shape} {n y : Int} {v : Shape} (h : n.toNat ≠ y.toNat) : shpAt (sh.set n.toNat v) y = shpAt sh y := by
  unfold shpAt; rw [List.getElem?_set, if_neg h]
theorem shpStep_congr {ni n : Int} {ss : List StageV} {sh sh' : List Shape} (h : ∀ y ∈ srcs (stgAt ss ni n), shpAt sh' y = shpAt sh y) : shpStep ni ss n sh' = shpStep ni ss n sh := by
  unfold shpStep
  rw [h _ (a_src _)]
  split
  · rename_i ht; rw [h _ (b_src ht)]
  · rfl
theorem shpStep_sz {ni n : Int} {ss : List StageV} {sh : List Shape} (h : (shpStep ni ss n sh).2 = 0) : szP (shpStep ni ss n sh).1 := ofV_sz h
theorem shpGo_ok {ni : Int} {ss : List StageV} : ∀ (l pre : List Int) (out : List Shape), (pre ++ l).Nodup → (∀ x ∈ pre ++ l, ni ≤ x ∧ x < out.length) → 0 ≤ ni →
    (∀ p x q, pre ++ l = p ++ x :: q → ∀ y ∈ srcs (stgAt ss ni x), 0 ≤ y ∧ (y < ni ∨ y ∈ p)) → (∀ x ∈ pre, szP (shpAt out x) ∧ FitP ni ss out x) → (shpGo ni ss l out).2.2 = 0 →
    (shpGo ni ss l out).1.length = out.length ∧ (∀ x ∈ pre ++ l, szP (shpAt (shpGo ni ss l out).1 x) ∧ FitP ni ss (shpGo ni ss l out).1 x) ∧ ∀ x, 0 ≤ x → x < ni → shpAt (shpGo ni ss l out).1 x = shpAt out x
  | [], pre, out, _, _, _, _, hp, _ => ⟨rfl, by simpa [shpGo] using hp, fun _ _ _ => rfl⟩
  | n :: l, pre, out, hd, hr, hn, hb, hp, h => by
    unfold shpGo at h ⊢
    split at h
    · rename_i hs
      rw [if_pos hs]
      have hrn := hr n (by simp)
      have hnd : n ∉ pre := by
        intro hm
        have := (List.nodup_append.1 hd).2.2 n hm n (by simp)
        exact this rfl
      have hk : ∀ y : Int, 0 ≤ y → (y < ni ∨ y ∈ pre) → shpAt (out.set n.toNat (shpStep ni ss n out).1) y = shpAt out y := by
        intro y h0 hy
        refine shpAt_set ?_
        rcases hy with hy | hy
        · omega
        · have := hr y (by simp [hy])
          have : y ≠ n := fun e => hnd (e ▸ hy)
          omega
      have hself : shpAt (out.set n.toNat (shpStep ni ss n out).1) n = (shpStep ni ss n out).1 := by
        unfold shpAt; rw [List.getElem?_set, if_pos rfl, if_pos (by omega)]; rfl
      have e : pre ++ [n] ++ l = pre ++ n :: l := by simp
      have ih := shpGo_ok (ni := ni) (ss := ss) l (pre ++ [n]) (out.set n.toNat (shpStep ni ss n out).1) (by rw [e]; exact hd) (by rw [e, List.length_set]; exact hr) hn (by rw [e]; exact hb) (by
        intro x hx
        rcases List.mem_append.1 hx with hx | hx
        · have h1 := hp x hx
          have hx0 := hr x (by simp [hx])
          obtain ⟨p, q, hpq⟩ := List.append_of_mem hx
          have hsrc := hb p x (q ++ n :: l) (by rw [hpq]; simp)
          refine ⟨by rw [hk x (by omega) (.inr hx)]; exact h1.1, ?_⟩
          unfold FitP
          rw [hk x (by omega) (.inr hx), shpStep_congr (sh := out) (fun y hy => by
            have := hsrc y hy
            exact hk y this.1 (this.2.imp id (fun h => by rw [hpq]; simp [h])))]
          exact h1.2
        · simp only [List.mem_singleton] at hx
          subst hx
          have hsrc := hb pre x l rfl
          refine ⟨by rw [hself]; exact shpStep_sz hs, ?_⟩
          unfold FitP
          rw [hself, shpStep_congr (sh := out) (fun y hy => hk y (hsrc y hy).1 (hsrc y hy).2)]
          exact Prod.ext rfl hs) h
      rw [e, List.length_set] at ih
      exact ⟨ih.1, ih.2.1, fun x h0 hx => by rw [ih.2.2 x h0 hx]; exact hk x h0 (.inl hx)⟩
    · rename_i hs; exact absurd h hs
structure ShpOK (j : JobV) : Prop where
  ch : chkCode j = 0
  od : (ordV j).2 = 0
  nn : 1 ≤ j.inputs.length ∧ 1 ≤ j.stages.length ∧ j.inputs.length + j.stages.length ≤ 16
  rng : ∀ x ∈ (ordV j).1, (j.inputs.length : Int) ≤ x ∧ x < (j.inputs.length : Int) + j.stages.length
  nd : (ordV j).1.Nodup
  ln : (ordV j).1.length = j.stages.length
  every : ∀ x : Int, (j.inputs.length : Int) ≤ x → x < (j.inputs.length : Int) + j.stages.length → x ∈ (ordV j).1
  bef : ∀ p x q, (ordV j).1 = p ++ x :: q → ∀ y ∈ srcs (stgAt j.stages j.inputs.length x), 0 ≤ y ∧ (y < (j.inputs.length : Int) ∨ y ∈ p)
  len : (shpV j).1.length = j.inputs.length + j.stages.length
  sz : ∀ x : Int, 0 ≤ x → x < (j.inputs.length : Int) + j.stages.length → szP (shpAt (shpV j).1 x)
  fit : ∀ x ∈ (ordV j).1, FitP j.inputs.length j.stages (shpV j).1 x
theorem shp_ok {j : JobV} (h : (shpV j).2.2 = 0) : ShpOK j := by
  unfold shpV at h
  split at h
  · rename_i ho
    split at h
    · rename_i hp
      have hc := ordV_chk ho
      have hl := ord_list hc
      have hn := chk_len hc
      have heq : (ordV j).1 = listV j ∧ (listV j).length = j.stages.length := by
        have h1 := hl.1
        split at h1
        · rw [h1] at ho; simp at ho
        · rename_i h2
          have h3 := hl.2.len
          rw [List.length_map] at h3
          exact ⟨by rw [h1], by omega⟩
      have hout : OutG j.inputs.length (j.stages.map srcs) (ordV j).1 := by rw [heq.1]; exact hl.2
      have hrng := hout.r
      rw [List.length_map] at hrng
      have hbef : BefG j.inputs.length (j.stages.map srcs) (ordV j).1 := by rw [heq.1]; exact list_bef (by omega) _ BefG.nil
      have hstg : ∀ x : Int, (j.inputs.length : Int) ≤ x → x < (j.inputs.length : Int) + j.stages.length → ∃ s, j.stages[(x - (j.inputs.length : Int)).toNat]? = some s ∧ stgAt j.stages j.inputs.length x = s := by
        intro x h1 h2
        have hlt : (x - (j.inputs.length : Int)).toNat < j.stages.length := by omega
        exact ⟨_, List.getElem?_eq_getElem hlt, stg_at (List.getElem?_eq_getElem hlt)⟩
      have hbef2 : ∀ p x q, (ordV j).1 = p ++ x :: q → ∀ y ∈ srcs (stgAt j.stages j.inputs.length x), 0 ≤ y ∧ (y < (j.inputs.length : Int) ∨ y ∈ p) := by
        intro p x q e y hy
        have hx := hrng x (by rw [e]; simp)
        obtain ⟨s, hs, he⟩ := hstg x hx.1 hx.2
        rw [he] at hy
        refine ⟨(chk_srcs hc (s := s) (List.mem_of_getElem? hs) y hy).1, ?_⟩
        exact hbef p x q e (srcs s) (by rw [List.getElem?_map, hs]; rfl) y hy
      have hlen0 : (j.inputs.map shpOf ++ List.replicate j.stages.length (⟨0, 0, 0⟩ : Shape)).length = j.inputs.length + j.stages.length := by simp
      have hgo := shpGo_ok (ni := j.inputs.length) (ss := j.stages) (ordV j).1 [] (j.inputs.map shpOf ++ List.replicate j.stages.length ⟨0, 0, 0⟩) (by simpa using hout.d) (by rw [hlen0]; intro x hx; have := hrng x (by simpa using hx); omega) (by omega) (by simpa using hbef2) (by intro x hx; cases hx) h
      have hsh : (shpV j).1 = (shpGo j.inputs.length j.stages (ordV j).1 (j.inputs.map shpOf ++ List.replicate j.stages.length ⟨0, 0, 0⟩)).1 := by
        unfold shpV; rw [if_pos ho, if_pos hp]
      rw [← hsh, hlen0] at hgo
      have hev : ∀ x : Int, (j.inputs.length : Int) ≤ x → x < (j.inputs.length : Int) + j.stages.length → x ∈ (ordV j).1 := fun x h1 h2 => hout.every (by rw [List.length_map, heq.1]; exact heq.2) h1 (by rw [List.length_map]; exact h2)
      refine ⟨hc, ho, hn, hrng, hout.d, by rw [heq.1]; exact heq.2, hev, hbef2, hgo.1, ?_, fun x hx => (hgo.2.1 x (by simpa using hx)).2⟩
      intro x h0 hx
      by_cases hi : x < (j.inputs.length : Int)
      · rw [hgo.2.2 x h0 hi]
        have hlt : x.toNat < j.inputs.length := by omega
        have hpl := List.all_eq_true.1 hp (j.inputs[x.toNat]) (List.getElem_mem _)
        unfold shpAt
        rw [List.getElem?_append_left (by simp; omega), List.getElem?_map, List.getElem?_eq_getElem hlt]
        unfold planeOK at hpl
        simp only [Bool.and_eq_true, decide_eq_true_eq] at hpl
        have := hpl.1.1
        unfold sizeP at this
        show szP (shpOf _)
        unfold szP shpOf
        dsimp only
        omega
      · exact (hgo.2.1 x (by simpa using hev x (by omega) hx)).1
    · simp at h
  · rename_i ho; exact absurd h ho
/-! ### sorted, each number once -/
theorem sorted_at {zs : List Int} (h : zs.Pairwise (· ≤ ·)) {i j : Nat} {x y : Int} (hi : zs[i]? = some x) (hj : zs[j]? = some y) (hij : i ≤ j) : x ≤ y := by
  by_cases e : i = j
  · subst e; rw [hi] at hj; have := Option.some.inj hj; omega
  · obtain ⟨h1, e1⟩ := List.getElem?_eq_some_iff.1 hi
    obtain ⟨h2, e2⟩ := List.getElem?_eq_some_iff.1 hj
    have := List.pairwise_iff_getElem.1 h i j h1 h2 (by omega)
    rw [e1, e2] at this; exact this
theorem comp_spec {zs : List Int} (h : zs.Pairwise (· ≤ ·)) : ∀ m, m ≤ zs.length → Asc (Go.Lib.compactUpTo zs.toArray m) ∧ ∀ x, x ∈ Go.Lib.compactUpTo zs.toArray m ↔ ∃ j, j < m ∧ zs[j]? = some x
  | 0, _ => ⟨by simp [Go.Lib.compactUpTo, Asc], fun x => by simp [Go.Lib.compactUpTo]⟩
  | m + 1, hm => by
    obtain ⟨h1, h2⟩ := comp_spec h m (by omega)
    have hlt : m < zs.length := by omega
    have hd : zs.toArray[m]! = zs[m] := by simp [hlt]
    have hz : zs[m]? = some zs[m] := List.getElem?_eq_getElem hlt
    rw [Go.Lib.compactUpTo_succ, hd]
    by_cases hk : Go.Lib.keeps zs.toArray m = true
    · rw [if_pos hk]
      constructor
      · refine List.pairwise_append.2 ⟨h1, by simp, ?_⟩
        intro x hx y hy
        simp only [List.mem_singleton] at hy
        subst hy
        obtain ⟨j, hj, hjx⟩ := (h2 x).1 hx
        have hp : m - 1 < zs.length := by omega
        have hz1 : zs[m - 1]? = some zs[m - 1] := List.getElem?_eq_getElem hp
        have ha := sorted_at h hjx hz1 (by omega)
        have hb := sorted_at h hz1 hz (by omega)
        unfold Go.Lib.keeps at hk
        have hk2 := of_decide_eq_true hk
        have hd1 : zs.toArray[m - 1]! = zs[m - 1] := by simp [hp]
        rw [hd, hd1] at hk2
        omega
      · intro x
        rw [List.mem_append, h2, List.mem_singleton]
        constructor
        · rintro (⟨j, hj, hjx⟩ | rfl)
          · exact ⟨j, by omega, hjx⟩
          · exact ⟨m, by omega, hz⟩
        · rintro ⟨j, hj, hjx⟩
          by_cases e : j = m
          · subst e; rw [hz] at hjx; exact .inr (Option.some.inj hjx).symm
          · exact .inl ⟨j, by omega, hjx⟩
    · rw [if_neg hk, List.append_nil]
      refine ⟨h1, fun x => ?_⟩
      rw [h2]
      constructor
      · rintro ⟨j, hj, hjx⟩; exact ⟨j, by omega, hjx⟩
      · rintro ⟨j, hj, hjx⟩
        by_cases e : j = m
        · subst e
          unfold Go.Lib.keeps at hk
          have hk2 : ¬ (j = 0 ∨ zs.toArray[j]! ≠ zs.toArray[j - 1]!) := fun hh => hk (decide_eq_true hh)
          have hp : j - 1 < zs.length := by omega
          have hd1 : zs.toArray[j - 1]! = zs[j - 1] := by simp [hp]
          rw [hd, hd1] at hk2
          have hj0 : j ≠ 0 := fun e => hk2 (.inl e)
          have he : zs[j] = zs[j - 1] := Decidable.of_not_not (fun e => hk2 (.inr e))
          refine ⟨j - 1, by omega, ?_⟩
          rw [List.getElem?_eq_getElem hp, ← he, ← hz]; exact hjx
        · exact ⟨j, by omega, hjx⟩
theorem canon_sort (l : List Int) : Go.Lib.compact (l.mergeSort fun x y => decide (x ≤ y)) = canonV l := by
  have hs : (l.mergeSort fun x y => decide (x ≤ y)).Pairwise (· ≤ ·) := by
    have := List.pairwise_mergeSort (le := fun x y : Int => decide (x ≤ y)) (fun a b c h1 h2 => decide_eq_true (Int.le_trans (of_decide_eq_true h1) (of_decide_eq_true h2))) (fun a b => by simp; omega) l
    exact this.imp (fun h => of_decide_eq_true h)
  have h := comp_spec hs _ (Nat.le_refl _)
  refine asc_ext h.1 (asc_canon l) (fun x => ?_)
  unfold Go.Lib.compact
  rw [h.2, mem_canon, ← List.mem_mergeSort (le := fun x y : Int => decide (x ≤ y))]
  constructor
  · rintro ⟨j, _, hj⟩; exact List.mem_of_getElem? hj
  · intro hx
    obtain ⟨j, hj⟩ := List.getElem?_of_mem hx
    exact ⟨j, (List.getElem?_eq_some_iff.1 hj).1, hj⟩
/-! ### layouts of jobs whose shapes are known -/
structure LayG (L : Lay) : Prop where
  ni : 1 ≤ L.ni ∧ L.ni + (L.ss.length : Int) ≤ 16
  rng : ∀ x ∈ L.od, L.ni ≤ x ∧ x < L.ni + (L.ss.length : Int)
  every : ∀ x : Int, L.ni ≤ x → x < L.ni + (L.ss.length : Int) → x ∈ L.od
  nd : L.od.Nodup
  ln : L.od.length = L.ss.length
  bef : ∀ p x q, L.od = p ++ x :: q → ∀ y ∈ srcs (L.st x), 0 ≤ y ∧ (y < L.ni ∨ y ∈ p)
  len : (L.sh.length : Int) = L.ni + (L.ss.length : Int)
  sz : ∀ x : Int, 0 ≤ x → x < L.ni + (L.ss.length : Int) → szP (shpAt L.sh x)
  fit : ∀ x ∈ L.od, FitP L.ni L.ss L.sh x
  tl : tileP L.tw L.th
theorem lay_ok {j : JobV} {tw th : Int} (h : ShpOK j) (ht : tileP tw th) : LayG (layV j tw th) :=
  ⟨by have := h.nn; simp only [layV]; omega, h.rng, h.every, h.nd, h.ln, h.bef, by have := h.len; simp only [layV]; omega, h.sz, h.fit, ht⟩
section
variable {L : Lay} (g : LayG L)
include g
theorem LayG.src {x : Int} (hx : x ∈ L.od) : ∀ y ∈ srcs (L.st x), 0 ≤ y ∧ y < L.ni + (L.ss.length : Int) ∧ (y < L.ni ∨ y ∈ L.od) := by
  obtain ⟨p, q, e⟩ := List.append_of_mem hx
  intro y hy
  have h := g.bef p x q e y hy
  rcases h.2 with h2 | h2
  · exact ⟨h.1, by omega, .inl h2⟩
  · have hm : y ∈ L.od := by rw [e]; simp [h2]
    have := g.rng y hm
    exact ⟨h.1, this.2, .inr hm⟩
theorem LayG.cutsz {x : Int} (hx : x ∈ L.od) : szP (L.cut x) := by
  unfold Lay.cut
  split
  · have := g.src hx _ (a_src _); exact g.sz _ this.1 this.2.1
  · have := g.rng x hx; have := g.ni; exact g.sz _ (by omega) (by omega)
theorem LayG.fine {x : Int} (hx : x ∈ L.od) : fineP (L.cut x).w (L.cut x).h L.tw L.th := by
  have h := g.cutsz hx
  have ht := g.tl
  unfold szP at h; unfold tileP at ht
  unfold fineP
  omega
theorem LayG.byt {x : Int} (hx : x ∈ L.od) : bytOK (L.st x) := by
  have h := g.fit x hx
  unfold FitP shpStep at h
  exact of_bytOK (congrArg Prod.snd h)
theorem LayG.grid {x : Int} (hx : x ∈ L.od) : (1 ≤ L.nx x ∧ L.nx x ≤ 128) ∧ (1 ≤ L.ny x ∧ L.ny x ≤ 128) ∧ 1 ≤ L.nx x * L.ny x ∧ L.nx x * L.ny x ≤ 16384 := by
  have h := cols_bd (g.fine hx)
  unfold Lay.nx Lay.ny
  refine ⟨h.1, h.2, ?_, ?_⟩
  · have := Int.mul_le_mul h.1.1 h.2.1 (by omega) (by omega); omega
  · have := Int.mul_le_mul h.1.2 h.2.2 (by omega) (by omega); omega
theorem LayG.cntb {x : Int} (hx : x ∈ L.od) : 1 ≤ L.cnt x ∧ L.cnt x ≤ 16385 := by
  have h := (g.grid hx).2.2
  unfold Lay.cnt
  split <;> omega
end
theorem firstG_pre {f : Int → Int} {x : Int} : ∀ (p q : List Int), x ∉ p → firstG f (p ++ x :: q) x = (p.map f).sum
  | [], q, _ => by simp [firstG]
  | y :: p, q, h => by
    have hy : y ≠ x := fun e => h (by simp [e])
    rw [List.cons_append, firstG, if_neg hy, firstG_pre p q (fun hm => h (by simp [hm]))]
    simp
theorem sum_nn {f : Int → Int} : ∀ (l : List Int), (∀ x ∈ l, 0 ≤ f x) → 0 ≤ (l.map f).sum
  | [], _ => by simp
  | y :: l, h => by
    have := sum_nn l (fun x hx => h x (by simp [hx]))
    have := h y (by simp)
    simp; omega
theorem LayG.first_at {L : Lay} (g : LayG L) {p q : List Int} {x : Int} (e : L.od = p ++ x :: q) : L.first x = (p.map L.cnt).sum ∧ x ∉ p := by
  have hn := g.nd
  rw [e] at hn
  have hx : x ∉ p := fun hm => (List.nodup_append.1 hn).2.2 x hm x (by simp) rfl
  refine ⟨?_, hx⟩
  unfold Lay.first
  rw [e, firstG_pre p q hx]
theorem LayG.firstb {L : Lay} (g : LayG L) {x : Int} (hx : x ∈ L.od) : 0 ≤ L.first x ∧ L.first x + L.cnt x ≤ L.total := by
  obtain ⟨p, q, e⟩ := List.append_of_mem hx
  obtain ⟨h1, h2⟩ := g.first_at e
  have hp := sum_nn (f := L.cnt) p (fun y hy => by have := g.cntb (x := y) (by rw [e]; simp [hy]); omega)
  have hq := sum_nn (f := L.cnt) q (fun y hy => by have := g.cntb (x := y) (by rw [e]; simp [hy]); omega)
  refine ⟨by omega, ?_⟩
  have ht : L.total = (p.map L.cnt).sum + (L.cnt x + (q.map L.cnt).sum) := by unfold Lay.total; rw [e]; simp
  omega
theorem LayG.totb {L : Lay} (g : LayG L) : 0 ≤ L.total ∧ L.total ≤ 262160 := by
  have h : ∀ l : List Int, (∀ x ∈ l, x ∈ L.od) → (l.map L.cnt).sum ≤ 16385 * l.length := by
    intro l
    induction l with
    | nil => intro _; simp
    | cons y l ih => intro hm; have h1 := ih (fun x hx => hm x (by simp [hx])); have h2 := g.cntb (hm y (by simp)); simp only [List.map_cons, List.sum_cons, List.length_cons]; push_cast; omega
  have h1 := h L.od (fun _ hx => hx)
  have h2 := sum_nn (f := L.cnt) L.od (fun y hy => by have := g.cntb hy; omega)
  have h3 := g.ln; have h4 := g.ni
  unfold Lay.total
  constructor
  · exact h2
  · have : (L.od.length : Int) ≤ 15 := by omega
    omega
theorem til_len {s : StageV} {w h tw th : Int} {r : Rct} : (tilesV s w h tw th r).length ≤ 16384 := by
  unfold tilesV
  refine Nat.le_trans (List.length_filter_le _ _) ?_
  rw [upto_len]
  unfold tilN
  by_cases hf : fineP w h tw th
  · have hb := cols_bd hf
    have := mul_bd (a := colsN w h tw th) (b := rowsN w h tw th) (A := 128) (B := 128) (by omega) (by omega)
    omega
  · rw [(cols_no hf).1]; simp
theorem srcDeps_len {L : Lay} (g : LayG L) {s : StageV} {r : Rct} {x : Int} (hx : x < L.ni ∨ x ∈ L.od) : (L.srcDeps s r x).length ≤ 16385 := by
  unfold Lay.srcDeps
  split
  · simp
  · rename_i h0
    have hm : x ∈ L.od := by rcases hx with h | h; exact absurd h h0; exact h
    split
    · rw [List.length_map, upto_len]; have := g.cntb hm; omega
    · split
      · simp
      · rw [List.length_map]; exact Nat.le_trans til_len (by omega)
theorem flat_len2 {L : Lay} (g : LayG L) {s : StageV} {r : Rct} : ∀ l : List Int, (∀ x ∈ l, x < L.ni ∨ x ∈ L.od) → (l.flatMap (L.srcDeps s r)).length ≤ 16385 * l.length
  | [], _ => by simp
  | x :: l, h => by
    rw [List.flatMap_cons, List.length_append, List.length_cons]
    have h1 := srcDeps_len (s := s) (r := r) g (h x (by simp))
    have h2 := flat_len2 (s := s) (r := r) g l (fun y hy => h y (by simp [hy]))
    omega
/-- The numbers from a to b - 1. -/
def btwV (a b : Int) : List Int := (uptoV (b - a).toNat).map (a + ·)
theorem btw_len (a b : Int) : (btwV a b).length = (b - a).toNat := by unfold btwV; rw [List.length_map, upto_len]
theorem upto_map_at (k : Nat) (a : Int) : (uptoV (k + 1)).map (a + ·) = (uptoV k).map (a + ·) ++ [a + (k : Int)] := upto_map_snoc k _
theorem take_flat {α : Type} {l : List Int} {i : Nat} {x : Int} {f : Int → List α} (h : l[i]? = some x) : (l.take (i + 1)).flatMap f = (l.take i).flatMap f ++ f x := by
  rw [List.take_add_one, h, Option.toList_some, List.flatMap_append]; simp

/-- The layout that lies in memory. -/
def LayM.L (x : LayM) : Lay := ⟨(x.jobInputs.n : Int), x.jobStages.l.map Stage.v, x.shapes.l, x.order.l, x.tw, x.th⟩
def LayW (x : LayM) : Prop := ∀ n ∈ x.L.od, x.first.l[n.toNat]? = some (x.L.first n) ∧ x.count.l[n.toNat]? = some (x.L.cnt n)
theorem lay_st {x : LayM} {n : Int} {q : Stage} (h : x.jobStages.l[(n - (x.jobInputs.n : Int)).toNat]? = some q) : x.L.st n = q.v := stg_at (map_at (f := Stage.v) h)
theorem shp_at' {l : List Shape} {i : Int} {m : Shape} (h : l[i.toNat]? = some m) : shpAt l i = m := by unfold shpAt; rw [h]; rfl
theorem p20_inputs {b : Nat} {x : LayM} (hx : LayM.Ok [H] x) (hS : Sat W w ([(b, .cells (encLayM x).toArray 97 (0, 0))] :: H :: F)) :
    Calls Tryz.prog 100 #[.pointer (some ⟨b, 0, none⟩)] w fun e w' => e = .returned (.int .i64 ((x.jobInputs.n : Nat) : Int)) ∧ Sat W w' ([(b, .cells (encLayM x).toArray 97 (0, 0))] :: H :: F) := by
  have hl_x_jobInputs := hx.jobInputs.le; have hn_x_jobInputs := hx.jobInputs.len
  have hl_x_jobStages := hx.jobStages.le; have hn_x_jobStages := hx.jobStages.len
  have hl_x_jobOutputs := hx.jobOutputs.le; have hn_x_jobOutputs := hx.jobOutputs.len
  have hl_x_order := hx.order.le; have hn_x_order := hx.order.len
  have hl_x_shapes := hx.shapes.le; have hn_x_shapes := hx.shapes.len
  have hl_x_first := hx.first.le; have hn_x_first := hx.first.len
  have hl_x_count := hx.count.le; have hn_x_count := hx.count.len
  refine callsA 9 Tryz.func100 rfl ?_
  refine seqE <| regionE <| pu1 <| nilO <| thenK_n <| seqE <| regionE <| pu4 ?_
  refine sL hS 0 0 (.slice x.jobInputs.a x.jobInputs.n x.jobInputs.k) (Tryz.isAgg25 _) ?_
  refine pu2 <| nilO <| thenK_n <| retE <| retT [.int .i64 ((x.jobInputs.n : Nat) : Int)] <| ?_
  exact ⟨rfl, hS⟩
theorem p20_stage {b : Nat} {x : LayM} (hx : LayM.Ok [H] x) (nd : Int) (hn : ((x.jobInputs.n : Nat) : Int) ≤ nd ∧ nd < ((x.jobInputs.n : Nat) : Int) + ((x.jobStages.n : Nat) : Int)) (hb : x.jobInputs.n ≤ 1000 ∧ x.jobStages.n ≤ 1000) (hS : Sat W w ([(b, .cells (encLayM x).toArray 97 (0, 0))] :: H :: F)) :
    Calls Tryz.prog 60 #[.pointer (some ⟨b, 0, none⟩), .int .i64 nd] w fun e w' => ∃ q : Stage, e = .returned (.agg (encStage q).toArray) ∧ x.jobStages.l[(nd - ((x.jobInputs.n : Nat) : Int)).toNat]? = some q ∧ Sat W w' ([(b, .cells (encLayM x).toArray 97 (0, 0))] :: H :: F) := by
  have hl_x_jobInputs := hx.jobInputs.le; have hn_x_jobInputs := hx.jobInputs.len
  have hl_x_jobStages := hx.jobStages.le; have hn_x_jobStages := hx.jobStages.len
  have hl_x_jobOutputs := hx.jobOutputs.le; have hn_x_jobOutputs := hx.jobOutputs.len
  have hl_x_order := hx.order.le; have hn_x_order := hx.order.len
  have hl_x_shapes := hx.shapes.le; have hn_x_shapes := hx.shapes.len
  have hl_x_first := hx.first.le; have hn_x_first := hx.first.len
  have hl_x_count := hx.count.le; have hn_x_count := hx.count.len
  refine callsA 16 Tryz.func60 rfl ?_
  refine seqE <| regionE ?_
  refine sAlloc hS Tryz.zeroValue38 ?_
  intro b_1 w_2 hS_3
  refine nilO <| thenK_n <| seqE ?_
  obtain ⟨x_4, b_5, o_6, hx_7, hp_8, hq_9⟩ := RdT.elem hx.jobStages (nd - ((x.jobInputs.n : Nat) : Int))
  refine drawE [7, 11] [(4, ⟨b, 1, none⟩, .slice x.jobStages.a x.jobStages.n x.jobStages.k), (10, ⟨b_5, o_6 + 0, none⟩, .int .i64 x_4.kind), (10, ⟨b_5, o_6 + 1, none⟩, .int .i64 x_4.a), (10, ⟨b_5, o_6 + 2, none⟩, .int .i64 x_4.b), (10, ⟨b_5, o_6 + 3, none⟩, .bool x_4.barrier), (10, ⟨b_5, o_6 + 4, none⟩, .int .i64 x_4.edgePolicy), (10, ⟨b_5, o_6 + 5, none⟩, .int .i64 x_4.edgeFill), (10, ⟨b_5, o_6 + 6, none⟩, .int .i64 x_4.kW), (10, ⟨b_5, o_6 + 7, none⟩, .int .i64 x_4.kH), (10, ⟨b_5, o_6 + 8, none⟩, .slice x_4.weights.a x_4.weights.n x_4.weights.k), (10, ⟨b_5, o_6 + 9, none⟩, .slice x_4.row.a x_4.row.n x_4.row.k), (10, ⟨b_5, o_6 + 10, none⟩, .slice x_4.col.a x_4.col.n x_4.col.k), (10, ⟨b_5, o_6 + 11, none⟩, .int .i64 x_4.shift), (10, ⟨b_5, o_6 + 12, none⟩, .int .i64 x_4.shift2), (10, ⟨b_5, o_6 + 13, none⟩, .slice x_4.x.a x_4.x.n x_4.x.k), (10, ⟨b_5, o_6 + 14, none⟩, .slice x_4.y.a x_4.y.n x_4.y.k), (10, ⟨b_5, o_6 + 15, none⟩, .int .i64 x_4.bins), (10, ⟨b_5, o_6 + 16, none⟩, .slice x_4.ops.a x_4.ops.n x_4.ops.k), (10, ⟨b_5, o_6 + 17, none⟩, .int .i64 x_4.max_)] [(true, [0, 1, 2, 3, 5, 6]), (true, [4]), (false, [7]), (true, [8]), (true, [9]), (true, [10]), (false, [11])] rfl (by kernel_rfl) ⟨.inr (hS_3.cell 1 rfl rfl), .inr ((hp_8.up 2 rfl).cell hS_3 (k := 0) rfl), .inr ((hp_8.up 2 rfl).cell hS_3 (k := 1) rfl), .inr ((hp_8.up 2 rfl).cell hS_3 (k := 2) rfl), .inr ((hp_8.up 2 rfl).cell hS_3 (k := 3) rfl), .inr ((hp_8.up 2 rfl).cell hS_3 (k := 4) rfl), .inr ((hp_8.up 2 rfl).cell hS_3 (k := 5) rfl), .inr ((hp_8.up 2 rfl).cell hS_3 (k := 6) rfl), .inr ((hp_8.up 2 rfl).cell hS_3 (k := 7) rfl), .inr ((hp_8.up 2 rfl).cell hS_3 (k := 8) rfl), .inr ((hp_8.up 2 rfl).cell hS_3 (k := 9) rfl), .inr ((hp_8.up 2 rfl).cell hS_3 (k := 10) rfl), .inr ((hp_8.up 2 rfl).cell hS_3 (k := 11) rfl), .inr ((hp_8.up 2 rfl).cell hS_3 (k := 12) rfl), .inr ((hp_8.up 2 rfl).cell hS_3 (k := 13) rfl), .inr ((hp_8.up 2 rfl).cell hS_3 (k := 14) rfl), .inr ((hp_8.up 2 rfl).cell hS_3 (k := 15) rfl), .inr ((hp_8.up 2 rfl).cell hS_3 (k := 16) rfl), .inr ((hp_8.up 2 rfl).cell hS_3 (k := 17) rfl), trivial⟩ ?_
  have hS_10 := hS_3.drew
  refine wU [0, 1, 2, 3, 5, 6] ?_
  refine wLd (.slice x.jobStages.a x.jobStages.n x.jobStages.k) 0 Tryz.isAgg26 ?_
  refine wO rfl ?_
  have hS_11 := (hS_10.pick 1 rfl)
  refine cX Tryz.call100 (p20_inputs (hx.of_mem (mem_flat1 1 (by rfl))) (Sat.flat1 hS_11)) ?_
  rintro _ w_12 ⟨rfl, hS_13⟩
  have hS_14 := Sat.unflat1 hS_13
  refine nilO ⟨⟨.inr (hS_14.cell 0 rfl rfl), .inr ((hp_8.up 2 rfl).cell hS_14 (k := 0) rfl), .inr ((hp_8.up 2 rfl).cell hS_14 (k := 1) rfl), .inr ((hp_8.up 2 rfl).cell hS_14 (k := 2) rfl), .inr ((hp_8.up 2 rfl).cell hS_14 (k := 3) rfl), .inr ((hp_8.up 2 rfl).cell hS_14 (k := 4) rfl), .inr ((hp_8.up 2 rfl).cell hS_14 (k := 5) rfl), .inr ((hp_8.up 2 rfl).cell hS_14 (k := 6) rfl), .inr ((hp_8.up 2 rfl).cell hS_14 (k := 7) rfl), .inr ((hp_8.up 2 rfl).cell hS_14 (k := 8) rfl), .inr ((hp_8.up 2 rfl).cell hS_14 (k := 9) rfl), .inr ((hp_8.up 2 rfl).cell hS_14 (k := 10) rfl), .inr ((hp_8.up 2 rfl).cell hS_14 (k := 11) rfl), .inr ((hp_8.up 2 rfl).cell hS_14 (k := 12) rfl), .inr ((hp_8.up 2 rfl).cell hS_14 (k := 13) rfl), .inr ((hp_8.up 2 rfl).cell hS_14 (k := 14) rfl), .inr ((hp_8.up 2 rfl).cell hS_14 (k := 15) rfl), .inr ((hp_8.up 2 rfl).cell hS_14 (k := 16) rfl), .inr ((hp_8.up 2 rfl).cell hS_14 (k := 17) rfl), trivial⟩, ?_⟩
  refine wSub nd ((x.jobInputs.n : Nat) : Int) ?_
  refine wY (.pointer (some ⟨b_5, o_6, none⟩)) rfl (fun w _ => Y_idx (a := x.jobStages.a) (i := (nd - ((x.jobInputs.n : Nat) : Int))) (len := x.jobStages.n) (cap := x.jobStages.k) rfl Tryz.runUnderlying26 Tryz.sizeOf38 (by kernel_rfl) (by kernel_rfl) hq_9) ?_
  refine wY (.agg (encStage x_4).toArray) rfl (fun w hF => Y_loadF rfl (Tryz.isAgg38 w) (Tryz.sizeOf38 w) (by kernel_rfl) rfl ⟨hF 1 _ _ rfl, hF 2 _ _ rfl, hF 3 _ _ rfl, hF 4 _ _ rfl, hF 5 _ _ rfl, hF 6 _ _ rfl, hF 7 _ _ rfl, hF 8 _ _ rfl, hF 9 _ _ rfl, hF 10 _ _ rfl, hF 11 _ _ rfl, hF 12 _ _ rfl, hF 13 _ _ rfl, hF 14 _ _ rfl, hF 15 _ _ rfl, hF 16 _ _ rfl, hF 17 _ _ rfl, hF 18 _ _ rfl, trivial⟩) ?_
  refine wO rfl ?_
  refine sT hS_14 1 0 (.agg (encStage x_4).toArray) (encStage x_4) (encStage x_4).toArray Tryz.sizeOf38 ?_
  intro w_15 hS_16
  refine nilO ⟨⟨.inl (by kernel_rfl), .inl (by kernel_rfl), .inl (by kernel_rfl), .inl (by kernel_rfl), .inl (by kernel_rfl), .inl (by kernel_rfl), .inl (by kernel_rfl), .inl (by kernel_rfl), .inl (by kernel_rfl), .inl (by kernel_rfl), .inl (by kernel_rfl), .inl (by kernel_rfl), .inl (by kernel_rfl), .inl (by kernel_rfl), .inl (by kernel_rfl), .inl (by kernel_rfl), .inl (by kernel_rfl), .inl (by kernel_rfl), .inl (by kernel_rfl), trivial⟩, ?_⟩
  refine wN ?_
  refine thenK_n <| retE <| retN (vs := [.agg (encStage x_4).toArray]) rfl (.cons (.cell _ _ _ _ (by kernel_rfl) (lvA hS_16 1 0 (encStage x_4) (Tryz.isAgg38 _) (Tryz.sizeOf38 _) rfl rfl rfl)) .nil) <| ?_
  have hS_17 := (hS_16.dropAt 1 rfl)
  exact ⟨x_4, rfl, hx_7, hS_17⟩
theorem p20_cut {b : Nat} {x : LayM} (hx : LayM.Ok [H] x) (nd : Int) (hg : LayG x.L) (hx2 : x.jobStages.n = x.jobStages.l.length) (hnd : nd ∈ x.L.od) (hS : Sat W w ([(b, .cells (encLayM x).toArray 97 (0, 0))] :: H :: F)) :
    Calls Tryz.prog 87 #[.pointer (some ⟨b, 0, none⟩), .int .i64 nd] w fun e w' => e = .returned (.agg #[.int .i64 ((x.L.cut nd).w), .int .i64 ((x.L.cut nd).h), .int .i64 ((x.L.cut nd).max_)]) ∧ Sat W w' ([(b, .cells (encLayM x).toArray 97 (0, 0))] :: H :: F) := by
  have hl_x_jobInputs := hx.jobInputs.le; have hn_x_jobInputs := hx.jobInputs.len
  have hl_x_jobStages := hx.jobStages.le; have hn_x_jobStages := hx.jobStages.len
  have hl_x_jobOutputs := hx.jobOutputs.le; have hn_x_jobOutputs := hx.jobOutputs.len
  have hl_x_order := hx.order.le; have hn_x_order := hx.order.len
  have hl_x_shapes := hx.shapes.le; have hn_x_shapes := hx.shapes.len
  have hl_x_first := hx.first.le; have hn_x_first := hx.first.len
  have hl_x_count := hx.count.le; have hn_x_count := hx.count.len
  have hgn : 1 ≤ ((x.jobInputs.n : Nat) : Int) ∧ ((x.jobInputs.n : Nat) : Int) + ((x.jobStages.n : Nat) : Int) ≤ 16 := by have h := hg.ni; simp only [LayM.L, List.length_map] at h; omega
  have hgs : (x.shapes.n : Int) = ((x.jobInputs.n : Nat) : Int) + ((x.jobStages.n : Nat) : Int) := by have h := hg.len; simp only [LayM.L, List.length_map] at h; omega
  have htl : tileP x.tw x.th := hg.tl; unfold tileP at htl
  have hr_hnd : ((x.jobInputs.n : Nat) : Int) ≤ nd ∧ nd < ((x.jobInputs.n : Nat) : Int) + ((x.jobStages.n : Nat) : Int) := by have h := hg.rng nd hnd; simp only [LayM.L, List.length_map] at h; omega
  refine callsA 27 Tryz.func87 rfl ?_
  refine seqE <| regionE ?_
  refine sAlloc hS Tryz.zeroValue54 ?_
  intro b_1 w_2 hS_3
  refine nilO <| thenK_n <| seqE <| regionE <| pu2 ?_
  have hS_4 := (hS_3.pick 1 rfl)
  refine cX Tryz.call60 (p20_stage (hx.of_mem (mem_flat1 1 (by rfl))) nd (by omega) (by omega) (Sat.flat1 hS_4)) ?_
  rintro _ w_5 ⟨q_8, rfl, hq_9, hS_6⟩
  have hS_7 := Sat.unflat1 hS_6
  have hok_q_8 := hx.jobStagesD q_8 (List.mem_of_getElem? hq_9); have hst_q_8 := lay_st hq_9
  refine sAlloc hS_7 Tryz.zeroValue38 ?_
  intro b_10 w_11 hS_12
  refine sT hS_12 0 0 (.agg (encStage q_8).toArray) (encStage q_8) (encStage q_8).toArray Tryz.sizeOf38 ?_
  intro w_13 hS_14
  refine nilO ?_
  have hsr := hg.src hnd q_8.a (by rw [hst_q_8]; exact a_src _); simp only [LayM.L, List.length_map] at hsr
  refine thenK_n <| seqE <| seqE <| regionE <| pu1 ?_
  refine sL hS_14 0 0 (.int .i64 q_8.kind) (Tryz.isAgg3 _) ?_
  refine pu1 <| nilO <| thenK_n <| ?_
  refine cE q_8.kind 4 (fun hc_15 => ?_) (fun hc_15 => ?_)
  rotate_left
  · refine skipE <| thenK_n <| seqE <| regionE <| pu3 ?_
    refine sL hS_14 1 7 (.slice x.shapes.a x.shapes.n x.shapes.k) (Tryz.isAgg61 _) ?_
    refine pu1 ?_
    refine sIdx hx.shapes nd Tryz.runUnderlying61 Tryz.sizeOf54 ?_
    intro x_26 b_27 o_28 hx_29 hp_30
    refine sLpA hS_14 (hp_30.up 3 rfl) 0 [.int .i64 x_26.w, .int .i64 x_26.h, .int .i64 x_26.max_] (Tryz.isAgg54 _) (Tryz.sizeOf54 _) ?_
    refine sT hS_14 2 0 (.agg #[.int .i64 x_26.w, .int .i64 x_26.h, .int .i64 x_26.max_]) [.int .i64 x_26.w, .int .i64 x_26.h, .int .i64 x_26.max_] #[.int .i64 x_26.w, .int .i64 x_26.h, .int .i64 x_26.max_] Tryz.sizeOf54 ?_
    intro w_31 hS_32
    refine nilO <| thenK_n <| retE <| retN (vs := [.agg #[.int .i64 x_26.w, .int .i64 x_26.h, .int .i64 x_26.max_]]) rfl (.cons (.cell _ _ _ _ (by kernel_rfl) (lvA hS_32 2 0 [.int .i64 x_26.w, .int .i64 x_26.h, .int .i64 x_26.max_] (Tryz.isAgg54 _) (Tryz.sizeOf54 _) rfl rfl rfl)) .nil) <| ?_
    have hS_33 := (hS_32.drops [0, 1])
    have hcut : x.L.cut nd = x_26 := by unfold Lay.cut; rw [hst_q_8, if_neg (show ¬ q_8.v.kind = 4 from hc_15)]; exact shp_at' hx_29
    exact ⟨by rw [hcut]; rfl, hS_33⟩
  refine seqE ?_
  obtain ⟨x_16, b_17, o_18, hx_19, hp_20, hq_21⟩ := RdT.elem hx.shapes q_8.a
  refine drawE [8] [(3, ⟨b, 7, none⟩, .slice x.shapes.a x.shapes.n x.shapes.k), (5, ⟨b_10, 1, none⟩, .int .i64 q_8.a), (7, ⟨b_17, o_18 + 0, none⟩, .int .i64 x_16.w), (7, ⟨b_17, o_18 + 1, none⟩, .int .i64 x_16.h), (7, ⟨b_17, o_18 + 2, none⟩, .int .i64 x_16.max_)] [(true, [0, 1, 2, 4]), (true, [3]), (true, [5]), (true, [6]), (true, [7]), (false, [8])] rfl (by kernel_rfl) ⟨.inr (hS_14.cell 1 rfl rfl), .inr (hS_14.cell 0 rfl rfl), .inr ((hp_20.up 3 rfl).cell hS_14 (k := 0) rfl), .inr ((hp_20.up 3 rfl).cell hS_14 (k := 1) rfl), .inr ((hp_20.up 3 rfl).cell hS_14 (k := 2) rfl), trivial⟩ ?_
  have hS_22 := hS_14.drew
  refine wU [0, 1, 2, 4] ?_
  refine wLd (.slice x.shapes.a x.shapes.n x.shapes.k) 0 Tryz.isAgg61 ?_
  refine wLd (.int .i64 q_8.a) 1 Tryz.isAgg3 ?_
  refine wY (.pointer (some ⟨b_17, o_18, none⟩)) rfl (fun w _ => Y_idx (a := x.shapes.a) (i := q_8.a) (len := x.shapes.n) (cap := x.shapes.k) rfl Tryz.runUnderlying61 Tryz.sizeOf54 (by kernel_rfl) (by kernel_rfl) hq_21) ?_
  refine wY (.agg #[.int .i64 x_16.w, .int .i64 x_16.h, .int .i64 x_16.max_]) rfl (fun w hF => Y_loadF rfl (Tryz.isAgg54 w) (Tryz.sizeOf54 w) (by kernel_rfl) rfl ⟨hF 2 _ _ rfl, hF 3 _ _ rfl, hF 4 _ _ rfl, trivial⟩) ?_
  refine wO rfl ?_
  refine sT hS_22 2 0 (.agg #[.int .i64 x_16.w, .int .i64 x_16.h, .int .i64 x_16.max_]) [.int .i64 x_16.w, .int .i64 x_16.h, .int .i64 x_16.max_] #[.int .i64 x_16.w, .int .i64 x_16.h, .int .i64 x_16.max_] Tryz.sizeOf54 ?_
  intro w_23 hS_24
  refine nilO ⟨⟨.inl (by kernel_rfl), .inl (by kernel_rfl), .inl (by kernel_rfl), .inl (by kernel_rfl), .inl (by kernel_rfl), trivial⟩, ?_⟩
  refine wN ?_
  refine thenK_n <| retE <| thenK_r <| retN (vs := [.agg #[.int .i64 x_16.w, .int .i64 x_16.h, .int .i64 x_16.max_]]) rfl (.cons (.cell _ _ _ _ (by kernel_rfl) (lvA hS_24 2 0 [.int .i64 x_16.w, .int .i64 x_16.h, .int .i64 x_16.max_] (Tryz.isAgg54 _) (Tryz.sizeOf54 _) rfl rfl rfl)) .nil) <| ?_
  have hS_25 := (hS_24.drops [0, 1])
  have hcut : x.L.cut nd = x_16 := by unfold Lay.cut; rw [hst_q_8, if_pos (show q_8.v.kind = 4 from hc_15)]; exact shp_at' hx_19
  exact ⟨by rw [hcut]; rfl, hS_25⟩
theorem p20_between {a : Option Addr} {n k : Nat} {xs : List Int} {c : Chunk} (fr up : Int) (hO : OwnT Go.E.encI 3 1 a n k xs c) (hb : n ≤ 1000000 ∧ -1000000 ≤ fr ∧ up ≤ 1000000) (hS : Sat W w (c :: F)) :
    Calls Tryz.prog 92 #[.slice a n k, .int .i64 fr, .int .i64 up] w fun e w' => ∃ (az : Option Addr) (nz kz : Nat) (Z : Chunk), e = .returned (.slice az nz kz) ∧ OwnT Go.E.encI 3 1 az nz kz (xs ++ btwV fr up) Z ∧ Sat W w' (Z :: F) := by
  have hl0 := hO.le; have hn0 := hO.len
  refine callsA 19 Tryz.func92 rfl ?_
  refine seqE <| regionE <| pu1 <| nilO <| thenK_n <| seqE <| seqE <| regionE <| pu2 <| nilO <| thenK_n <| blockE ?_
  refine loopA (γ := Nat × Int × (List Int) × (Option Addr) × Nat × Nat × Chunk) (fun ⟨i, cur, zs, azs, nzs, kzs, czs⟩ => [(2, .int .i64 up), (7, .int .i64 cur), (0, .slice azs nzs kzs)]) (fun ⟨i, cur, zs, azs, nzs, kzs, czs⟩ w => Sat W w (czs :: F) ∧ i ≤ (up - fr).toNat ∧ (cur = fr + ((i : Nat) : Int)) ∧ (zs = xs ++ (uptoV i).map (fr + ·)) ∧ OwnT Go.E.encI 3 1 azs nzs kzs zs czs) (fun ⟨i, cur, zs, azs, nzs, kzs, czs⟩ => ((up - fr).toNat) - i) (0, fr, xs, a, n, k, c) ⟨hS, by omega, by omega, (by simp [uptoV]), hO⟩ ?_
  rintro ⟨i, cur, zs, azs, nzs, kzs, czs⟩ ρ w_1 ⟨hS_2, hi, hcu, hE, hOzs⟩
  have hn_zs := hOzs.len; have hl_zs := hOzs.le
  refine seqE <| seqE <| regionE <| pu3 <| nilO <| thenK_n <| ?_
  refine cD (cur < up) (fun hc_3 => ?_) (fun hc_3 => ?_)
  rotate_left
  · refine exitE <| thenK_x <| thenK_x <| blockK_x <| thenK_n <| seqE <| regionE <| pu2 <| nilO <| thenK_n <| retE <| retT [.slice azs nzs kzs] <| ?_
    have hz : zs = xs ++ btwV fr up := by unfold btwV; rw [hE, show i = (up - fr).toNat by omega]
    exact ⟨_, _, _, _, rfl, by rw [← hz]; exact hOzs, hS_2⟩
  refine skipE <| thenK_n <| seqE <| blockE ?_
  have hzl : zs.length = n + i := by rw [hE]; simp [upto_len]; omega
  refine regionE <| pu2 ?_
  refine sBS hS_2 #[.int .i64 cur] Tryz.runUnderlying22 Tryz.sizeOf3 Tryz.zeroValue3 ?_
  intro b_4 w_5 hS_6
  refine sApp (nb := 8) hS_6 hOzs 1 (RdT.blk (enc := Go.E.encI) (sz := 1) (xs := [cur]) (fun _ => rfl) 1 0 rfl rfl rfl (by omega)) Tryz.underlying22 (i := Tryz.t3) (by kernel_rfl) (fun _ => rfl) ?_
  intro a_7 cap_8 c_9 w_10 hO_11 hS_12
  refine pu1 <| nilO <| blockK_n <| thenK_n <| regionE <| pu1 ?_
  refine sAdd cur 1 ?_
  refine pu1 <| nilO <| thenK_n <| ?_
  have hS_13 := (hS_12.dropAt 0 rfl)
  exact ⟨(i + 1, (cur + 1), (zs ++ [cur]), a_7, (nzs + 1), cap_8, c_9), by first | omega | (dsimp only; omega), alA, hS_13, by omega, by omega, (by rw [upto_map_at, ← List.append_assoc, ← hE, hcu]), hO_11⟩
theorem til_b (w h tw th : Int) : (tilN w h tw th : Int) ≤ 16384 := by
  unfold tilN
  by_cases hf : fineP w h tw th
  · have hb := cols_bd hf
    have := mul_bd (a := colsN w h tw th) (b := rowsN w h tw th) (A := 128) (B := 128) (by omega) (by omega)
    omega
  · rw [(cols_no hf).1]; simp
theorem p20_needs {b : Nat} {x : LayM} (hx : LayM.Ok [H] x) {q : Stage} (hq : Stage.Ok [H] q) (r : Rct) (hg : LayG x.L) (hx2 : x.jobStages.n = x.jobStages.l.length) (hW : LayW x) (hsrc : ∀ y ∈ srcs q.v, 0 ≤ y ∧ y < x.L.ni + (x.L.ss.length : Int) ∧ (y < x.L.ni ∨ y ∈ x.L.od)) (hS : Sat W w ([(b, .cells (encLayM x).toArray 97 (0, 0))] :: H :: F)) :
    Calls Tryz.prog 90 #[.pointer (some ⟨b, 0, none⟩), .agg (encStage q).toArray, .agg (encRct r).toArray] w fun e w' => ∃ (az : Option Addr) (nz kz : Nat) (Z : Chunk), e = .returned (.slice az nz kz) ∧ OwnT Go.E.encI 3 1 az nz kz (x.L.needs q.v r) Z ∧ Sat W w' (Z :: [(b, .cells (encLayM x).toArray 97 (0, 0))] :: H :: F) := by
  have hl_x_jobInputs := hx.jobInputs.le; have hn_x_jobInputs := hx.jobInputs.len
  have hl_x_jobStages := hx.jobStages.le; have hn_x_jobStages := hx.jobStages.len
  have hl_x_jobOutputs := hx.jobOutputs.le; have hn_x_jobOutputs := hx.jobOutputs.len
  have hl_x_order := hx.order.le; have hn_x_order := hx.order.len
  have hl_x_shapes := hx.shapes.le; have hn_x_shapes := hx.shapes.len
  have hl_x_first := hx.first.le; have hn_x_first := hx.first.len
  have hl_x_count := hx.count.le; have hn_x_count := hx.count.len
  have hgn : 1 ≤ ((x.jobInputs.n : Nat) : Int) ∧ ((x.jobInputs.n : Nat) : Int) + ((x.jobStages.n : Nat) : Int) ≤ 16 := by have h := hg.ni; simp only [LayM.L, List.length_map] at h; omega
  have hgs : (x.shapes.n : Int) = ((x.jobInputs.n : Nat) : Int) + ((x.jobStages.n : Nat) : Int) := by have h := hg.len; simp only [LayM.L, List.length_map] at h; omega
  have htl : tileP x.tw x.th := hg.tl; unfold tileP at htl
  have hl_q_weights := hq.weights.le; have hn_q_weights := hq.weights.len
  have hl_q_row := hq.row.le; have hn_q_row := hq.row.len
  have hl_q_col := hq.col.le; have hn_q_col := hq.col.len
  have hl_q_x := hq.x.le; have hn_q_x := hq.x.len
  have hl_q_y := hq.y.le; have hn_q_y := hq.y.len
  have hl_q_ops := hq.ops.le; have hn_q_ops := hq.ops.len
  have hsr : ∀ y ∈ srcs q.v, 0 ≤ y ∧ y < ((x.jobInputs.n : Nat) : Int) + ((x.jobStages.n : Nat) : Int) ∧ (y < ((x.jobInputs.n : Nat) : Int) ∨ y ∈ x.L.od) := fun y hy => by have h := hsrc y hy; simp only [LayM.L, List.length_map] at h ⊢; rw [hx2]; exact h
  refine callsA 102 Tryz.func90 rfl ?_
  refine seqE <| regionE ?_
  refine sBox hS (.agg (encStage q).toArray) (encStage q).toArray ?_
  intro b_1 w_2 hS_3
  refine sBox hS_3 (.agg (encRct r).toArray) (encRct r).toArray ?_
  intro b_4 w_5 hS_6
  refine pu1 <| nilO <| thenK_n <| seqE <| regionE <| pu1 <| nilO <| thenK_n <| seqE <| seqE <| regionE ?_
  refine lA hS_6 1 0 18 (Tryz.isAgg38 _) (Tryz.sizeOf38 _) ?_
  refine cX Tryz.call127 (p15_sources q ⟨(RdT.flat (hq.weights.up 3 (by rfl))), (RdT.flat (hq.row.up 3 (by rfl))), (RdT.flat (hq.col.up 3 (by rfl))), (RdT.flat (hq.x.up 3 (by rfl))), (fun z hz => (hq.xD z hz).of_mem (mem_flat1 3 (by rfl))), (RdT.flat (hq.y.up 3 (by rfl))), (fun z hz => (hq.yD z hz).of_mem (mem_flat1 3 (by rfl))), (RdT.flat (hq.ops.up 3 (by rfl)))⟩ (Sat.flat hS_6)) ?_
  rintro _ w_7 ⟨az_10, nz_11, kz_12, G_13, rfl, hR_14, h_9⟩
  have hS_8 := Sat.unflat1 h_9
  have hn_az_10 := hR_14.len; have hl_az_10 := hR_14.le
  have hsl_15 : 1 ≤ (srcs q.v).length ∧ (srcs q.v).length ≤ 2 := srcs_len _
  refine pu2 <| nilO <| thenK_n <| blockE ?_
  have hS_16 := Sat.nilc hS_8
  have hO_17 := OwnT.nil (enc := Go.E.encI) (E := 3) (sz := 1) (fun _ => rfl)
  refine loopA (γ := Nat × (List Int) × (Option Addr) × Nat × Nat × Chunk) (fun ⟨i, zs, azs, nzs, kzs, czs⟩ => [(0, .pointer (some ⟨b, 0, none⟩)), (4, .pointer (some ⟨b_1, 0, none⟩)), (5, .pointer (some ⟨b_4, 0, none⟩)), (16, .slice az_10 nz_11 kz_12), (17, .int .i64 ((nz_11 : Nat) : Int)), (18, .int .i64 ((i : Nat) : Int)), (7, .slice azs nzs kzs)]) (fun ⟨i, zs, azs, nzs, kzs, czs⟩ w => Sat W w (czs :: G_13 :: [(b_4, .cells (encRct r).toArray 44 (0, 0))] :: [(b_1, .cells (encStage q).toArray 38 (0, 0))] :: [(b, .cells (encLayM x).toArray 97 (0, 0))] :: H :: F) ∧ i ≤ nz_11 ∧ (zs = ((srcs q.v).take i).flatMap (x.L.srcDeps q.v r)) ∧ OwnT Go.E.encI 3 1 azs nzs kzs zs czs) (fun ⟨i, zs, azs, nzs, kzs, czs⟩ => nz_11 - i) (0, [], none, 0, 0, []) ⟨hS_16, by omega, by rfl, hO_17⟩ ?_
  rintro ⟨i, zs, azs, nzs, kzs, czs⟩ ρ w_18 ⟨hS_19, hi, hE, hOzs⟩
  have hn_zs := hOzs.len; have hl_zs := hOzs.le
  refine seqE <| regionE <| pu1 <| nilO <| thenK_n <| seqE ?_
  refine cD (((i : Nat) : Int) < ((nz_11 : Nat) : Int)) (fun hc_20 => ?_) (fun hc_20 => ?_)
  rotate_left
  · refine exitE <| thenK_x <| thenK_x <| blockK_x <| thenK_n <| seqE <| regionE <| pu2 <| nilO <| thenK_n <| retE <| retT [.slice azs nzs kzs] <| ?_
    have hS_113 := (hS_19.drops [1, 1, 1])
    have hz : zs = x.L.needs q.v r := by unfold Lay.needs; rw [hE, List.take_of_length_le (by omega)]
    exact ⟨_, _, _, _, rfl, by rw [← hz]; exact hOzs, hS_113⟩
  refine skipE <| thenK_n <| seqE <| blockE <| seqE <| regionE ?_
  refine sIdxO hR_14 ((i : Nat) : Int) i Tryz.runUnderlying22 Tryz.sizeOf3 ?_
  intro x_21 b_22 o_23 hx_24 hp_25 hq_26
  have hs_x_21 := hsr x_21 (List.mem_of_getElem? hx_24)
  refine sLp hS_19 (hp_25.up 1 rfl) 0 (.int .i64 x_21) (Tryz.isAgg3 _) ?_
  refine pu1 <| nilO <| thenK_n <| seqE <| seqE <| regionE <| pu2 ?_
  have hS_27 := (hS_19.pick 4 rfl)
  refine cX Tryz.call100 (p20_inputs (hx.of_mem (mem_flat1 4 (by rfl))) (Sat.flat1 hS_27)) ?_
  rintro _ w_28 ⟨rfl, hS_29⟩
  have hS_30 := Sat.unflat1 hS_29
  refine pu1 <| nilO <| thenK_n <| ?_
  refine cD (x_21 < ((x.jobInputs.n : Nat) : Int)) (fun hc_31 => ?_) (fun hc_31 => ?_)
  · refine exitE <| thenK_x <| blockK_x <| thenK_n <| regionE ?_
    refine sAdd ((i : Nat) : Int) 1 ?_
    refine pu1 <| nilO <| thenK_n <| ?_
    have hS_32 := (hS_30.picks [4, 4, 4, 4])
    exact ⟨(i + 1, zs, azs, nzs, kzs, czs), by first | omega | (dsimp only; omega), alA, hS_32, by omega, (by rw [take_flat (f := (x.L.srcDeps q.v r)) hx_24, ← hE, show (x.L.srcDeps q.v r) x_21 = [] from by unfold Lay.srcDeps; rw [if_pos (show x_21 < x.L.ni from hc_31)], List.append_nil]), hOzs⟩
  refine skipE <| thenK_n <| seqE ?_
  have hmem : x_21 ∈ x.L.od := hs_x_21.2.2.resolve_left (by omega)
  have hr_hmem : ((x.jobInputs.n : Nat) : Int) ≤ x_21 ∧ x_21 < ((x.jobInputs.n : Nat) : Int) + ((x.jobStages.n : Nat) : Int) := by have h := hg.rng x_21 hmem; simp only [LayM.L, List.length_map] at h; omega
  have hb1 := (List.getElem?_eq_some_iff.1 (hW x_21 hmem).1).1; have hb2 := (List.getElem?_eq_some_iff.1 (hW x_21 hmem).2).1
  have hfb := hg.firstb hmem; have hcb := hg.cntb hmem; have htb := hg.totb
  obtain ⟨x_33, b_34, o_35, hx_36, hp_37, hq_38⟩ := RdT.elem hx.first x_21
  have hf_x_33 : x.L.first x_21 = x_33 := Option.some.inj ((hW x_21 hmem).1.symm.trans hx_36)
  obtain ⟨x_39, b_40, o_41, hx_42, hp_43, hq_44⟩ := RdT.elem hx.count x_21
  have hf_x_39 : x.L.cnt x_21 = x_39 := Option.some.inj ((hW x_21 hmem).2.symm.trans hx_42)
  refine drawE [] [(3, ⟨b, 8, none⟩, .slice x.first.a x.first.n x.first.k), (6, ⟨b_34, o_35, none⟩, .int .i64 x_33), (10, ⟨b, 8, none⟩, .slice x.first.a x.first.n x.first.k), (13, ⟨b_34, o_35, none⟩, .int .i64 x_33), (17, ⟨b, 9, none⟩, .slice x.count.a x.count.n x.count.k), (20, ⟨b_40, o_41, none⟩, .int .i64 x_39)] [(true, [0, 1, 2, 4, 7, 8, 9, 11, 14, 15, 16, 18]), (true, [3]), (true, [5]), (true, [6]), (true, [22]), (true, [10]), (true, [12]), (true, [13]), (true, [17]), (true, [19]), (true, [20]), (true, [21]), (true, [23])] rfl (by kernel_rfl) ⟨.inr (hS_30.cell 0 rfl rfl), .inr ((hp_37.up 5 rfl).cell hS_30 (k := 0) rfl), .inr (hS_30.cell 0 rfl rfl), .inr ((hp_37.up 5 rfl).cell hS_30 (k := 0) rfl), .inr (hS_30.cell 0 rfl rfl), .inr ((hp_43.up 5 rfl).cell hS_30 (k := 0) rfl), trivial⟩ ?_
  have hS_45 := hS_30.drew
  refine wU [0, 1, 2, 4, 7, 8, 9, 11, 14, 15, 16, 18] ?_
  refine wLd (.slice x.first.a x.first.n x.first.k) 0 Tryz.isAgg22 ?_
  refine wY (.pointer (some ⟨b_34, o_35, none⟩)) rfl (fun w _ => Y_idx (a := x.first.a) (i := x_21) (len := x.first.n) (cap := x.first.k) rfl Tryz.runUnderlying22 Tryz.sizeOf3 (by kernel_rfl) (by kernel_rfl) hq_38) ?_
  refine wLd (.int .i64 x_33) 1 Tryz.isAgg3 ?_
  refine wU [22] ?_
  refine wLd (.slice x.first.a x.first.n x.first.k) 2 Tryz.isAgg22 ?_
  refine wY (.pointer (some ⟨b_34, o_35, none⟩)) rfl (fun w _ => Y_idx (a := x.first.a) (i := x_21) (len := x.first.n) (cap := x.first.k) rfl Tryz.runUnderlying22 Tryz.sizeOf3 (by kernel_rfl) (by kernel_rfl) hq_38) ?_
  refine wLd (.int .i64 x_33) 3 Tryz.isAgg3 ?_
  refine wLd (.slice x.count.a x.count.n x.count.k) 4 Tryz.isAgg22 ?_
  refine wY (.pointer (some ⟨b_40, o_41, none⟩)) rfl (fun w _ => Y_idx (a := x.count.a) (i := x_21) (len := x.count.n) (cap := x.count.k) rfl Tryz.runUnderlying22 Tryz.sizeOf3 (by kernel_rfl) (by kernel_rfl) hq_44) ?_
  refine wLd (.int .i64 x_39) 5 Tryz.isAgg3 ?_
  refine wAdd x_33 x_39 ?_
  refine wU [23] ?_
  refine wN ?_
  refine thenK_n <| blockE <| seqE <| regionE <| pu1 ?_
  refine sL hS_45 4 3 (.bool q.barrier) (Tryz.isAgg4 _) ?_
  refine pu1 <| nilO <| thenK_n <| ?_
  refine cB q.barrier (fun hc_46 => ?_) (fun hc_46 => ?_)
  · have hzl : zs.length ≤ 40000 := by rw [hE]; have h := flat_len2 (s := q.v) (r := r) hg ((srcs q.v).take i) (fun y hy => (hsr y (List.mem_of_mem_take hy)).2.2); have h2 : ((srcs q.v).take i).length ≤ 2 := (by rw [List.length_take]; have := srcs_len q.v; omega); omega
    refine regionE <| pu3 ?_
    have hS_47 := (hS_45.pick 1 rfl)
    refine cX Tryz.call92 (p20_between x_33 (x_33 + x_39) hOzs (by omega) hS_47) ?_
    rintro _ w_48 ⟨az_51, nz_52, kz_53, Z_54, rfl, hO_55, hS_50⟩
    have hn_az_51 := hO_55.len; have hl_az_51 := hO_55.le; simp only [List.length_append, List.length_nil, btw_len] at hn_az_51
    refine pu1 <| nilO <| blockK_n <| blockK_n <| thenK_n <| regionE ?_
    refine sAdd ((i : Nat) : Int) 1 ?_
    refine pu1 <| nilO <| thenK_n <| ?_
    have hdp : (x.L.srcDeps q.v r) x_21 = btwV x_33 (x_33 + x_39) := by unfold Lay.srcDeps btwV; rw [if_neg (show ¬ x_21 < x.L.ni from hc_31), if_pos (show q.v.barrier = true from hc_46), hf_x_33, hf_x_39, show (x_33 + x_39 - x_33) = x_39 by omega]
    have hS_56 := (hS_50.picks [4, 4, 4, 3])
    exact ⟨(i + 1, (zs ++ btwV x_33 (x_33 + x_39)), az_51, nz_52, kz_53, Z_54), by first | omega | (dsimp only; omega), alA, hS_56, by omega, (by rw [take_flat (f := (x.L.srcDeps q.v r)) hx_24, ← hE, hdp]), hO_55⟩
  refine seqE <| regionE <| pu2 ?_
  refine cX Tryz.call60 (p20_stage (hx.of_mem (mem_flat1 4 (by rfl))) x_21 (by omega) (by omega) (Sat.flat1 hS_45)) ?_
  rintro _ w_57 ⟨q_60, rfl, hq_61, hS_58⟩
  have hS_59 := Sat.unflat1 hS_58
  have hok_q_60 := hx.jobStagesD q_60 (List.mem_of_getElem? hq_61); have hst_q_60 := lay_st hq_61
  refine pu3 <| nilO <| thenK_n <| ?_
  refine cE q_60.kind 4 (fun hc_62 => ?_) (fun hc_62 => ?_)
  · have hzl : zs.length ≤ 40000 := by rw [hE]; have h := flat_len2 (s := q.v) (r := r) hg ((srcs q.v).take i) (fun y hy => (hsr y (List.mem_of_mem_take hy)).2.2); have h2 : ((srcs q.v).take i).length ≤ 2 := (by rw [List.length_take]; have := srcs_len q.v; omega); omega
    refine regionE <| pu2 ?_
    refine sSub (x_33 + x_39) 1 ?_
    refine sBS hS_59 #[.int .i64 ((x_33 + x_39) - 1)] Tryz.runUnderlying22 Tryz.sizeOf3 Tryz.zeroValue3 ?_
    intro b_63 w_64 hS_65
    refine sApp (nb := 8) hS_65 hOzs 2 (RdT.blk (enc := Go.E.encI) (sz := 1) (xs := [((x_33 + x_39) - 1)]) (fun _ => rfl) 1 0 rfl rfl rfl (by omega)) Tryz.underlying22 (i := Tryz.t3) (by kernel_rfl) (fun _ => rfl) ?_
    intro a_66 cap_67 c_68 w_69 hO_70 hS_71
    refine pu1 <| nilO <| blockK_n <| blockK_n <| thenK_n <| regionE ?_
    refine sAdd ((i : Nat) : Int) 1 ?_
    refine pu1 <| nilO <| thenK_n <| ?_
    have hdp : (x.L.srcDeps q.v r) x_21 = [x_33 + x_39 - 1] := by unfold Lay.srcDeps; rw [if_neg (show ¬ x_21 < x.L.ni from hc_31), if_neg (show ¬ q.v.barrier = true from hc_46), if_pos (show (x.L.st x_21).kind = 4 by rw [hst_q_60]; exact hc_62), hf_x_33, hf_x_39]
    have hS_72 := ((hS_71.picks [5, 5, 5, 5]).dropAt 4 rfl)
    exact ⟨(i + 1, (zs ++ [((x_33 + x_39) - 1)]), a_66, (nzs + 1), cap_67, c_68), by first | omega | (dsimp only; omega), alA, hS_72, by omega, (by rw [take_flat (f := (x.L.srcDeps q.v r)) hx_24, ← hE, hdp]), hO_70⟩
  refine seqE <| regionE <| pu3 ?_
  refine sL hS_59 0 7 (.slice x.shapes.a x.shapes.n x.shapes.k) (Tryz.isAgg61 _) ?_
  refine pu1 ?_
  refine sIdx hx.shapes x_21 Tryz.runUnderlying61 Tryz.sizeOf54 ?_
  intro x_73 b_74 o_75 hx_76 hp_77
  refine sLpA hS_59 (hp_77.up 5 rfl) 0 [.int .i64 x_73.w, .int .i64 x_73.h, .int .i64 x_73.max_] (Tryz.isAgg54 _) (Tryz.sizeOf54 _) ?_
  refine sAlloc hS_59 Tryz.zeroValue54 ?_
  intro b_78 w_79 hS_80
  refine sT hS_80 0 0 (.agg #[.int .i64 x_73.w, .int .i64 x_73.h, .int .i64 x_73.max_]) [.int .i64 x_73.w, .int .i64 x_73.h, .int .i64 x_73.max_] #[.int .i64 x_73.w, .int .i64 x_73.h, .int .i64 x_73.max_] Tryz.sizeOf54 ?_
  intro w_81 hS_82
  refine nilO <| thenK_n <| seqE ?_
  refine drawE [14] [(0, ⟨b_1, 0, none⟩, .int .i64 q.kind), (0, ⟨b_1, 1, none⟩, .int .i64 q.a), (0, ⟨b_1, 2, none⟩, .int .i64 q.b), (0, ⟨b_1, 3, none⟩, .bool q.barrier), (0, ⟨b_1, 4, none⟩, .int .i64 q.edgePolicy), (0, ⟨b_1, 5, none⟩, .int .i64 q.edgeFill), (0, ⟨b_1, 6, none⟩, .int .i64 q.kW), (0, ⟨b_1, 7, none⟩, .int .i64 q.kH), (0, ⟨b_1, 8, none⟩, .slice q.weights.a q.weights.n q.weights.k), (0, ⟨b_1, 9, none⟩, .slice q.row.a q.row.n q.row.k), (0, ⟨b_1, 10, none⟩, .slice q.col.a q.col.n q.col.k), (0, ⟨b_1, 11, none⟩, .int .i64 q.shift), (0, ⟨b_1, 12, none⟩, .int .i64 q.shift2), (0, ⟨b_1, 13, none⟩, .slice q.x.a q.x.n q.x.k), (0, ⟨b_1, 14, none⟩, .slice q.y.a q.y.n q.y.k), (0, ⟨b_1, 15, none⟩, .int .i64 q.bins), (0, ⟨b_1, 16, none⟩, .slice q.ops.a q.ops.n q.ops.k), (0, ⟨b_1, 17, none⟩, .int .i64 q.max_), (2, ⟨b_78, 0, none⟩, .int .i64 x_73.w), (4, ⟨b_78, 1, none⟩, .int .i64 x_73.h), (8, ⟨b, 4, none⟩, .int .i64 x.tw), (12, ⟨b, 5, none⟩, .int .i64 x.th), (13, ⟨b_4, 0, none⟩, .int .i64 r.x0), (13, ⟨b_4, 1, none⟩, .int .i64 r.y0), (13, ⟨b_4, 2, none⟩, .int .i64 r.x1), (13, ⟨b_4, 3, none⟩, .int .i64 r.y1)] [(true, [1, 3, 5, 6, 7, 9, 10, 11, 16]), (true, [0]), (true, [2]), (true, [4]), (true, [8]), (true, [12]), (true, [13]), (false, [14]), (true, [15])] rfl (by kernel_rfl) ⟨.inr (hS_82.cell 5 rfl rfl), .inr (hS_82.cell 5 rfl rfl), .inr (hS_82.cell 5 rfl rfl), .inr (hS_82.cell 5 rfl rfl), .inr (hS_82.cell 5 rfl rfl), .inr (hS_82.cell 5 rfl rfl), .inr (hS_82.cell 5 rfl rfl), .inr (hS_82.cell 5 rfl rfl), .inr (hS_82.cell 5 rfl rfl), .inr (hS_82.cell 5 rfl rfl), .inr (hS_82.cell 5 rfl rfl), .inr (hS_82.cell 5 rfl rfl), .inr (hS_82.cell 5 rfl rfl), .inr (hS_82.cell 5 rfl rfl), .inr (hS_82.cell 5 rfl rfl), .inr (hS_82.cell 5 rfl rfl), .inr (hS_82.cell 5 rfl rfl), .inr (hS_82.cell 5 rfl rfl), .inr (hS_82.cell 0 rfl rfl), .inr (hS_82.cell 0 rfl rfl), .inr (hS_82.cell 1 rfl rfl), .inr (hS_82.cell 1 rfl rfl), .inr (hS_82.cell 4 rfl rfl), .inr (hS_82.cell 4 rfl rfl), .inr (hS_82.cell 4 rfl rfl), .inr (hS_82.cell 4 rfl rfl), trivial⟩ ?_
  have hS_83 := hS_82.drew
  refine wU [1, 3, 5, 6, 7, 9, 10, 11, 16] ?_
  refine wY (.agg (encStage q).toArray) rfl (fun w hF => Y_loadF rfl (Tryz.isAgg38 w) (Tryz.sizeOf38 w) (by kernel_rfl) rfl ⟨hF 0 _ _ rfl, hF 1 _ _ rfl, hF 2 _ _ rfl, hF 3 _ _ rfl, hF 4 _ _ rfl, hF 5 _ _ rfl, hF 6 _ _ rfl, hF 7 _ _ rfl, hF 8 _ _ rfl, hF 9 _ _ rfl, hF 10 _ _ rfl, hF 11 _ _ rfl, hF 12 _ _ rfl, hF 13 _ _ rfl, hF 14 _ _ rfl, hF 15 _ _ rfl, hF 16 _ _ rfl, hF 17 _ _ rfl, trivial⟩) ?_
  refine wLd (.int .i64 x_73.w) 18 Tryz.isAgg3 ?_
  refine wLd (.int .i64 x_73.h) 19 Tryz.isAgg3 ?_
  refine wLd (.int .i64 x.tw) 20 Tryz.isAgg3 ?_
  refine wLd (.int .i64 x.th) 21 Tryz.isAgg3 ?_
  refine wY (.agg (encRct r).toArray) rfl (fun w hF => Y_loadF rfl (Tryz.isAgg44 w) (Tryz.sizeOf44 w) (by kernel_rfl) rfl ⟨hF 22 _ _ rfl, hF 23 _ _ rfl, hF 24 _ _ rfl, hF 25 _ _ rfl, trivial⟩) ?_
  refine wO rfl ?_
  refine cX Tryz.call133 (p16_tiles q x_73.w x_73.h x.tw x.th r ⟨(RdT.flat (hq.weights.up 6 (by rfl))), (RdT.flat (hq.row.up 6 (by rfl))), (RdT.flat (hq.col.up 6 (by rfl))), (RdT.flat (hq.x.up 6 (by rfl))), (fun z hz => (hq.xD z hz).of_mem (mem_flat1 6 (by rfl))), (RdT.flat (hq.y.up 6 (by rfl))), (fun z hz => (hq.yD z hz).of_mem (mem_flat1 6 (by rfl))), (RdT.flat (hq.ops.up 6 (by rfl)))⟩ (Sat.flat hS_83)) ?_
  rintro _ w_84 ⟨az_87, nz_88, kz_89, G_90, rfl, hR_91, h_86⟩
  have hS_85 := Sat.unflat1 h_86
  have hn_az_87 := hR_91.len; have hl_az_87 := hR_91.le
  refine nilO ⟨⟨.inl (by kernel_rfl), .inl (by kernel_rfl), .inl (by kernel_rfl), .inl (by kernel_rfl), .inl (by kernel_rfl), .inl (by kernel_rfl), .inl (by kernel_rfl), .inl (by kernel_rfl), .inl (by kernel_rfl), .inl (by kernel_rfl), .inl (by kernel_rfl), .inl (by kernel_rfl), .inl (by kernel_rfl), .inl (by kernel_rfl), .inl (by kernel_rfl), .inl (by kernel_rfl), .inl (by kernel_rfl), .inl (by kernel_rfl), .inl (by kernel_rfl), .inl (by kernel_rfl), .inl (by kernel_rfl), .inl (by kernel_rfl), .inl (by kernel_rfl), .inl (by kernel_rfl), .inl (by kernel_rfl), .inl (by kernel_rfl), trivial⟩, ?_⟩
  refine wU [15] ?_
  refine wN ?_
  have hzl : zs.length ≤ 40000 := by rw [hE]; have h := flat_len2 (s := q.v) (r := r) hg ((srcs q.v).take i) (fun y hy => (hsr y (List.mem_of_mem_take hy)).2.2); have h2 : ((srcs q.v).take i).length ≤ 2 := (by rw [List.length_take]; have := srcs_len q.v; omega); omega
  have htl2 := til_len (s := q.v) (w := x_73.w) (h := x_73.h) (tw := x.tw) (th := x.th) (r := r); have htn := (hR_91).len
  refine thenK_n <| blockE ?_
  have hS_92 := (hS_85.pick 3 rfl)
  refine loopA (γ := Nat × (List Int) × (Option Addr) × Nat × Nat × Chunk) (fun ⟨j, zt, azt, nzt, kzt, czt⟩ => [(0, .pointer (some ⟨b, 0, none⟩)), (4, .pointer (some ⟨b_1, 0, none⟩)), (5, .pointer (some ⟨b_4, 0, none⟩)), (16, .slice az_10 nz_11 kz_12), (17, .int .i64 ((nz_11 : Nat) : Int)), (18, .int .i64 ((i : Nat) : Int)), (10, .int .i64 x_33), (69, .slice az_87 nz_88 kz_89), (70, .int .i64 ((nz_88 : Nat) : Int)), (71, .int .i64 ((j : Nat) : Int)), (7, .slice azt nzt kzt)]) (fun ⟨j, zt, azt, nzt, kzt, czt⟩ w => Sat W w (czt :: G_90 :: [(b_78, .cells #[.int .i64 x_73.w, .int .i64 x_73.h, .int .i64 x_73.max_] 54 (0, 0))] :: [(b, .cells (encLayM x).toArray 97 (0, 0))] :: G_13 :: [(b_4, .cells (encRct r).toArray 44 (0, 0))] :: [(b_1, .cells (encStage q).toArray 38 (0, 0))] :: H :: F) ∧ j ≤ nz_88 ∧ (zt = zs ++ ((tilesV q.v x_73.w x_73.h x.tw x.th r).take j).map (x_33 + ·)) ∧ OwnT Go.E.encI 3 1 azt nzt kzt zt czt) (fun ⟨j, zt, azt, nzt, kzt, czt⟩ => nz_88 - j) (0, zs, azs, nzs, kzs, czs) ⟨hS_92, by omega, by simp, hOzs⟩ ?_
  rintro ⟨j, zt, azt, nzt, kzt, czt⟩ ρ w_93 ⟨hS_94, hj, hE2, hOzt⟩
  have hn_zt := hOzt.len; have hl_zt := hOzt.le
  refine seqE <| regionE <| pu1 <| nilO <| thenK_n <| seqE ?_
  refine cD (((j : Nat) : Int) < ((nz_88 : Nat) : Int)) (fun hc_95 => ?_) (fun hc_95 => ?_)
  rotate_left
  · refine exitE <| thenK_x <| thenK_x <| blockK_x <| blockK_n <| blockK_n <| thenK_n <| regionE ?_
    refine sAdd ((i : Nat) : Int) 1 ?_
    refine pu1 <| nilO <| thenK_n <| ?_
    have hdp : (x.L.srcDeps q.v r) x_21 = (tilesV q.v x_73.w x_73.h x.tw x.th r).map (x_33 + ·) := by unfold Lay.srcDeps; rw [if_neg (show ¬ x_21 < x.L.ni from hc_31), if_neg (show ¬ q.v.barrier = true from hc_46), if_neg (show ¬ (x.L.st x_21).kind = 4 by rw [hst_q_60]; exact hc_62), hf_x_33, show shpAt x.L.sh x_21 = x_73 from shp_at' hx_76]; rfl
    have hS_112 := ((hS_94.picks [6, 6, 6, 3]).drops [4, 4])
    exact ⟨(i + 1, zt, azt, nzt, kzt, czt), by first | omega | (dsimp only; omega), alA, hS_112, by omega, (by rw [take_flat (f := (x.L.srcDeps q.v r)) hx_24, ← hE, hdp, hE2, List.take_of_length_le (by omega)]), hOzt⟩
  refine skipE <| thenK_n <| seqE <| blockE <| seqE <| regionE ?_
  refine sIdxO hR_91 ((j : Nat) : Int) j Tryz.runUnderlying22 Tryz.sizeOf3 ?_
  intro x_96 b_97 o_98 hx_99 hp_100 hq_101
  refine sLp hS_94 (hp_100.up 1 rfl) 0 (.int .i64 x_96) (Tryz.isAgg3 _) ?_
  refine pu1 <| nilO <| thenK_n <| ?_
  have hzt : zt.length ≤ zs.length + j := by rw [hE2]; simp; omega
  have hty : 0 ≤ x_96 ∧ x_96 < 16384 := by have h := mem_upto.1 (List.mem_filter.1 (List.mem_of_getElem? (show (tilesV q.v x_73.w x_73.h x.tw x.th r)[j]? = some x_96 from hx_99))).1; have := til_b x_73.w x_73.h x.tw x.th; omega
  refine regionE <| pu3 ?_
  refine sAdd x_33 x_96 ?_
  refine sBS hS_94 #[.int .i64 (x_33 + x_96)] Tryz.runUnderlying22 Tryz.sizeOf3 Tryz.zeroValue3 ?_
  intro b_102 w_103 hS_104
  refine sApp (nb := 8) hS_104 hOzt 1 (RdT.blk (enc := Go.E.encI) (sz := 1) (xs := [(x_33 + x_96)]) (fun _ => rfl) 1 0 rfl rfl rfl (by omega)) Tryz.underlying22 (i := Tryz.t3) (by kernel_rfl) (fun _ => rfl) ?_
  intro a_105 cap_106 c_107 w_108 hO_109 hS_110
  refine pu1 <| nilO <| blockK_n <| thenK_n <| regionE ?_
  refine sAdd ((j : Nat) : Int) 1 ?_
  refine pu1 <| nilO <| thenK_n <| ?_
  have hS_111 := (hS_110.dropAt 0 rfl)
  exact ⟨(j + 1, (zt ++ [(x_33 + x_96)]), a_105, (nzt + 1), cap_106, c_107), by first | omega | (dsimp only; omega), alA, hS_111, by omega, (by rw [take_succ_at hx_99, List.map_append, ← List.append_assoc, ← hE2]; rfl), hO_109⟩
end Go.Proofs.YtdingplbadblpaaGreat

/- The library's slices.Sort and slices.Compact at []int, laid over this dump by the kit's tool. -/
namespace Go.Proofs.YtdingplbadblpaaGreat
open Go.Shelf
def Tryz.laySort_ren : Go.Shelf.Ren := ⟨fun | 53 => 134 | 64 => 164 | 63 => 163 | 78 => 196 | 79 => 197 | 70 => 187 | 71 => 188 | 72 => 189 | 73 => 190 | 74 => 191 | 75 => 192 | 59 => 193 | 76 => 194 | 77 => 195 | 88 => 215 | 89 => 216 | 90 => 217 | 91 => 218 | 92 => 219 | 68 => 220 | 96 => 226 | n => n, fun | 22 => 22 | 23 => 3 | 3 => 3 | 51 => 160 | 0 => 0 | 67 => 201 | 69 => 159 | 4 => 4 | 61 => 196 | 60 => 195 | 44 => 113 | 5 => 5 | 9 => 9 | 75 => 215 | 79 => 219 | 83 => 223 | 84 => 105 | n => n, fun | n => n⟩
theorem Tryz.laySort : Go.Proofs.SlLaysN.n53 Tryz.prog Tryz.laySort_ren := {
  mixed := by kernel_rfl
  f53 := ⟨Tryz.f134.name, by decide, Tryz.func134.trans (congrArg some (by kernel_rfl))⟩
  f59 := ⟨Tryz.f193.name, by decide, Tryz.func193.trans (congrArg some (by kernel_rfl))⟩
  f63 := ⟨Tryz.f163.name, by decide, Tryz.func163.trans (congrArg some (by kernel_rfl))⟩
  f64 := Tryz.func164.trans (congrArg some (by kernel_rfl))
  f68 := ⟨Tryz.f220.name, by decide, Tryz.func220.trans (congrArg some (by kernel_rfl))⟩
  f70 := ⟨Tryz.f187.name, by decide, Tryz.func187.trans (congrArg some (by kernel_rfl))⟩
  f71 := ⟨Tryz.f188.name, by decide, Tryz.func188.trans (congrArg some (by kernel_rfl))⟩
  f72 := ⟨Tryz.f189.name, by decide, Tryz.func189.trans (congrArg some (by kernel_rfl))⟩
  f73 := ⟨Tryz.f190.name, by decide, Tryz.func190.trans (congrArg some (by kernel_rfl))⟩
  f74 := ⟨Tryz.f191.name, by decide, Tryz.func191.trans (congrArg some (by kernel_rfl))⟩
  f75 := ⟨Tryz.f192.name, by decide, Tryz.func192.trans (congrArg some (by kernel_rfl))⟩
  f76 := ⟨Tryz.f194.name, by decide, Tryz.func194.trans (congrArg some (by kernel_rfl))⟩
  f77 := ⟨Tryz.f195.name, by decide, Tryz.func195.trans (congrArg some (by kernel_rfl))⟩
  f78 := Tryz.func196.trans (congrArg some (by kernel_rfl))
  f79 := Tryz.func197.trans (congrArg some (by kernel_rfl))
  f88 := ⟨Tryz.f215.name, by decide, Tryz.func215.trans (congrArg some (by kernel_rfl))⟩
  f89 := Tryz.func216.trans (congrArg some (by kernel_rfl))
  f90 := Tryz.func217.trans (congrArg some (by kernel_rfl))
  f91 := ⟨Tryz.f218.name, by decide, Tryz.func218.trans (congrArg some (by kernel_rfl))⟩
  f92 := ⟨Tryz.f219.name, by decide, Tryz.func219.trans (congrArg some (by kernel_rfl))⟩
  f96 := ⟨Tryz.f226.name, by decide, Tryz.func226.trans (congrArg some (by kernel_rfl))⟩
  t0 := Tryz.underlying0
  a0 := Tryz.isAgg0
  z0 := Tryz.sizeOf0
  v0 := Tryz.zeroValue0
  t3 := Tryz.underlying3
  a3 := Tryz.isAgg3
  z3 := Tryz.sizeOf3
  v3 := Tryz.zeroValue3
  t4 := Tryz.underlying4
  a4 := Tryz.isAgg4
  z4 := Tryz.sizeOf4
  v4 := Tryz.zeroValue4
  t5 := Tryz.underlying5
  a5 := Tryz.isAgg5
  z5 := Tryz.sizeOf5
  v5 := Tryz.zeroValue5
  t9 := Tryz.underlying9
  a9 := Tryz.isAgg9
  z9 := Tryz.sizeOf9
  v9 := Tryz.zeroValue9
  t22 := Tryz.underlying22
  a22 := Tryz.isAgg22
  z22 := Tryz.sizeOf22
  v22 := Tryz.zeroValue22
  t23 := Tryz.underlying3
  a23 := Tryz.isAgg3
  z23 := Tryz.sizeOf3
  v23 := Tryz.zeroValue3
  t44 := Tryz.underlying113
  a44 := Tryz.isAgg113
  z44 := Tryz.sizeOf113
  v44 := Tryz.zeroValue113
  t51 := Tryz.underlying160
  a51 := Tryz.isAgg160
  z51 := Tryz.sizeOf160
  v51 := Tryz.zeroValue160
  t60 := Tryz.underlying195
  a60 := Tryz.isAgg195
  z60 := Tryz.sizeOf195
  v60 := Tryz.zeroValue195
  t61 := Tryz.underlying196
  a61 := Tryz.isAgg196
  z61 := Tryz.sizeOf196
  v61 := Tryz.zeroValue196
  t67 := Tryz.underlying201
  a67 := Tryz.isAgg201
  z67 := Tryz.sizeOf201
  v67 := Tryz.zeroValue201
  t69 := Tryz.underlying159
  a69 := Tryz.isAgg159
  z69 := Tryz.sizeOf159
  v69 := Tryz.zeroValue159
  t75 := Tryz.underlying215
  a75 := Tryz.isAgg215
  z75 := Tryz.sizeOf215
  v75 := Tryz.zeroValue215
  t79 := Tryz.underlying219
  a79 := Tryz.isAgg219
  z79 := Tryz.sizeOf219
  v79 := Tryz.zeroValue219
  t83 := Tryz.underlying223
  a83 := Tryz.isAgg223
  z83 := Tryz.sizeOf223
  v83 := Tryz.zeroValue223
  t84 := Tryz.underlying105
  a84 := Tryz.isAgg105
  z84 := Tryz.sizeOf105
  v84 := Tryz.zeroValue105 }
def Tryz.layComp_ren : Go.Shelf.Ren := ⟨fun | 43 => 135 | n => n, fun | 22 => 22 | 23 => 3 | 3 => 3 | 4 => 4 | 0 => 0 | n => n, fun | n => n⟩
theorem Tryz.layComp : Go.Proofs.SlLaysN.n43 Tryz.prog Tryz.layComp_ren := {
  mixed := by kernel_rfl
  f43 := ⟨Tryz.f135.name, by decide, Tryz.func135.trans (congrArg some (by kernel_rfl))⟩
  t0 := Tryz.underlying0
  a0 := Tryz.isAgg0
  z0 := Tryz.sizeOf0
  v0 := Tryz.zeroValue0
  t3 := Tryz.underlying3
  a3 := Tryz.isAgg3
  z3 := Tryz.sizeOf3
  v3 := Tryz.zeroValue3
  t4 := Tryz.underlying4
  a4 := Tryz.isAgg4
  z4 := Tryz.sizeOf4
  v4 := Tryz.zeroValue4
  t22 := Tryz.underlying22
  a22 := Tryz.isAgg22
  z22 := Tryz.sizeOf22
  v22 := Tryz.zeroValue22
  t23 := Tryz.underlying3
  a23 := Tryz.isAgg3
  z23 := Tryz.sizeOf3
  v23 := Tryz.zeroValue3
  i23 := by kernel_rfl }
end Go.Proofs.YtdingplbadblpaaGreat
