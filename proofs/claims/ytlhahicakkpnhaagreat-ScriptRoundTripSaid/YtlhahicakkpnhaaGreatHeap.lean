/-
  The heap as a list of known pieces: what is known stays known. For any program.
-/
import Derived.Test.YtlhahicakkpnhaaGreatBase
namespace Go.E

abbrev Chunk := List (Nat × Obj)

/-- In the world w the blocks of these pieces hold just this, no block twice; the streams are those of W. -/
structure Sat (W w : World) (cs : List Chunk) : Prop where
  os : w.os = W.os
  tape : w.tape = W.tape
  output : w.output = W.output
  nd : (cs.flatten.map (·.1)).Nodup
  all : ∀ p ∈ cs.flatten, w.heap[p.1]? = some p.2

section
variable {W w : World} {cs : List Chunk}

theorem Sat.perm {cs' : List Chunk} (h : Sat W w cs) (hp : cs.flatten.Perm cs'.flatten) : Sat W w cs' :=
  ⟨h.os, h.tape, h.output, (hp.map _).nodup_iff.1 h.nd, fun p hm => h.all p (hp.mem_iff.2 hm)⟩
theorem flatten_pick : ∀ (cs : List Chunk) (i : Nat) (c : Chunk), cs[i]? = some c → cs.flatten.Perm (c ++ (cs.eraseIdx i).flatten)
  | [], i, c, h => by simp at h
  | d :: ds, 0, c, h => by simp at h; subst h; simp
  | d :: ds, i + 1, c, h => by
    have ih := flatten_pick ds i c (by simpa using h)
    simp only [List.flatten_cons, List.eraseIdx_cons_succ]
    refine (List.Perm.append_left d ih).trans ?_
    rw [← List.append_assoc, ← List.append_assoc]
    exact List.Perm.append_right _ List.perm_append_comm
theorem Sat.pick0 {c : Chunk} (h : Sat W w cs) (i : Nat) (hi : cs[i]? = some c) : Sat W w (c :: cs.eraseIdx i) := h.perm (by simpa using flatten_pick cs i c hi)
theorem Sat.tail {c : Chunk} {F : List Chunk} (h : Sat W w (c :: F)) : Sat W w F := by
  refine ⟨h.os, h.tape, h.output, ?_, fun p hm => h.all p (by simp only [List.flatten_cons, List.mem_append]; exact .inr hm)⟩
  have := h.nd
  simp only [List.flatten_cons, List.map_append] at this
  exact (List.nodup_append.1 this).2.1
theorem Sat.merge {c d : Chunk} {F : List Chunk} (h : Sat W w (c :: d :: F)) : Sat W w ((c ++ d) :: F) := h.perm (by simp)
theorem Sat.split {c d : Chunk} {F : List Chunk} (h : Sat W w ((c ++ d) :: F)) : Sat W w (c :: d :: F) := h.perm (by simp)
theorem Sat.merge2 {c0 c1 : Chunk} {F : List Chunk} (h : Sat W w (c0 :: c1 :: F)) : Sat W w ((c0 ++ c1) :: F) := h.perm (by simp)
theorem Sat.split2 {c0 c1 : Chunk} {F : List Chunk} (h : Sat W w ((c0 ++ c1) :: F)) : Sat W w (c0 :: c1 :: F) := h.perm (by simp)
theorem Sat.merge3 {c0 c1 c2 : Chunk} {F : List Chunk} (h : Sat W w (c0 :: c1 :: c2 :: F)) : Sat W w ((c0 ++ (c1 ++ c2)) :: F) := h.perm (by simp)
theorem Sat.split3 {c0 c1 c2 : Chunk} {F : List Chunk} (h : Sat W w ((c0 ++ (c1 ++ c2)) :: F)) : Sat W w (c0 :: c1 :: c2 :: F) := h.perm (by simp)
theorem Sat.merge4 {c0 c1 c2 c3 : Chunk} {F : List Chunk} (h : Sat W w (c0 :: c1 :: c2 :: c3 :: F)) : Sat W w ((c0 ++ (c1 ++ (c2 ++ c3))) :: F) := h.perm (by simp)
theorem Sat.split4 {c0 c1 c2 c3 : Chunk} {F : List Chunk} (h : Sat W w ((c0 ++ (c1 ++ (c2 ++ c3))) :: F)) : Sat W w (c0 :: c1 :: c2 :: c3 :: F) := h.perm (by simp)
theorem Sat.merge5 {c0 c1 c2 c3 c4 : Chunk} {F : List Chunk} (h : Sat W w (c0 :: c1 :: c2 :: c3 :: c4 :: F)) : Sat W w ((c0 ++ (c1 ++ (c2 ++ (c3 ++ c4)))) :: F) := h.perm (by simp)
theorem Sat.split5 {c0 c1 c2 c3 c4 : Chunk} {F : List Chunk} (h : Sat W w ((c0 ++ (c1 ++ (c2 ++ (c3 ++ c4)))) :: F)) : Sat W w (c0 :: c1 :: c2 :: c3 :: c4 :: F) := h.perm (by simp)
theorem Sat.merge6 {c0 c1 c2 c3 c4 c5 : Chunk} {F : List Chunk} (h : Sat W w (c0 :: c1 :: c2 :: c3 :: c4 :: c5 :: F)) : Sat W w ((c0 ++ (c1 ++ (c2 ++ (c3 ++ (c4 ++ c5))))) :: F) := h.perm (by simp)
theorem Sat.split6 {c0 c1 c2 c3 c4 c5 : Chunk} {F : List Chunk} (h : Sat W w ((c0 ++ (c1 ++ (c2 ++ (c3 ++ (c4 ++ c5))))) :: F)) : Sat W w (c0 :: c1 :: c2 :: c3 :: c4 :: c5 :: F) := h.perm (by simp)
theorem Sat.merge7 {c0 c1 c2 c3 c4 c5 c6 : Chunk} {F : List Chunk} (h : Sat W w (c0 :: c1 :: c2 :: c3 :: c4 :: c5 :: c6 :: F)) : Sat W w ((c0 ++ (c1 ++ (c2 ++ (c3 ++ (c4 ++ (c5 ++ c6)))))) :: F) := h.perm (by simp)
theorem Sat.split7 {c0 c1 c2 c3 c4 c5 c6 : Chunk} {F : List Chunk} (h : Sat W w ((c0 ++ (c1 ++ (c2 ++ (c3 ++ (c4 ++ (c5 ++ c6)))))) :: F)) : Sat W w (c0 :: c1 :: c2 :: c3 :: c4 :: c5 :: c6 :: F) := h.perm (by simp)
theorem Sat.merge8 {c0 c1 c2 c3 c4 c5 c6 c7 : Chunk} {F : List Chunk} (h : Sat W w (c0 :: c1 :: c2 :: c3 :: c4 :: c5 :: c6 :: c7 :: F)) : Sat W w ((c0 ++ (c1 ++ (c2 ++ (c3 ++ (c4 ++ (c5 ++ (c6 ++ c7))))))) :: F) := h.perm (by simp)
theorem Sat.split8 {c0 c1 c2 c3 c4 c5 c6 c7 : Chunk} {F : List Chunk} (h : Sat W w ((c0 ++ (c1 ++ (c2 ++ (c3 ++ (c4 ++ (c5 ++ (c6 ++ c7))))))) :: F)) : Sat W w (c0 :: c1 :: c2 :: c3 :: c4 :: c5 :: c6 :: c7 :: F) := h.perm (by simp)
theorem Sat.merge9 {c0 c1 c2 c3 c4 c5 c6 c7 c8 : Chunk} {F : List Chunk} (h : Sat W w (c0 :: c1 :: c2 :: c3 :: c4 :: c5 :: c6 :: c7 :: c8 :: F)) : Sat W w ((c0 ++ (c1 ++ (c2 ++ (c3 ++ (c4 ++ (c5 ++ (c6 ++ (c7 ++ c8)))))))) :: F) := h.perm (by simp)
theorem Sat.split9 {c0 c1 c2 c3 c4 c5 c6 c7 c8 : Chunk} {F : List Chunk} (h : Sat W w ((c0 ++ (c1 ++ (c2 ++ (c3 ++ (c4 ++ (c5 ++ (c6 ++ (c7 ++ c8)))))))) :: F)) : Sat W w (c0 :: c1 :: c2 :: c3 :: c4 :: c5 :: c6 :: c7 :: c8 :: F) := h.perm (by simp)
theorem Sat.merge10 {c0 c1 c2 c3 c4 c5 c6 c7 c8 c9 : Chunk} {F : List Chunk} (h : Sat W w (c0 :: c1 :: c2 :: c3 :: c4 :: c5 :: c6 :: c7 :: c8 :: c9 :: F)) : Sat W w ((c0 ++ (c1 ++ (c2 ++ (c3 ++ (c4 ++ (c5 ++ (c6 ++ (c7 ++ (c8 ++ c9))))))))) :: F) := h.perm (by simp)
theorem Sat.split10 {c0 c1 c2 c3 c4 c5 c6 c7 c8 c9 : Chunk} {F : List Chunk} (h : Sat W w ((c0 ++ (c1 ++ (c2 ++ (c3 ++ (c4 ++ (c5 ++ (c6 ++ (c7 ++ (c8 ++ c9))))))))) :: F)) : Sat W w (c0 :: c1 :: c2 :: c3 :: c4 :: c5 :: c6 :: c7 :: c8 :: c9 :: F) := h.perm (by simp)
theorem Sat.pick {c : Chunk} {cs' : List Chunk} (h : Sat W w cs) (i : Nat) (hi : cs[i]? = some c) (he : c :: cs.eraseIdx i = cs' := by first | (dsimp only [List.eraseIdx_cons_succ, List.eraseIdx_cons_zero] <;> rfl) | rfl) : Sat W w cs' := he ▸ h.pick0 i hi
theorem Sat.dropAt {c : Chunk} {cs' : List Chunk} (h : Sat W w cs) (i : Nat) (hi : cs[i]? = some c) (he : cs.eraseIdx i = cs' := by first | (dsimp only [List.eraseIdx_cons_succ, List.eraseIdx_cons_zero] <;> rfl) | rfl) : Sat W w cs' := he ▸ (h.pick0 i hi).tail
theorem Sat.nilc {F : List Chunk} (h : Sat W w F) : Sat W w ([] :: F) := h.perm (by simp)
/-- The i-th piece to the front, one after another. -/
@[simp] def pickL : List Nat → List Chunk → List Chunk
  | [], cs => cs
  | i :: is, cs => pickL is (cs.getD i [] :: cs.eraseIdx i)
@[simp] def dropL : List Nat → List Chunk → List Chunk
  | [], cs => cs
  | i :: is, cs => dropL is (cs.eraseIdx i)
theorem Sat.pickD (h : Sat W w cs) (i : Nat) : Sat W w (cs.getD i [] :: cs.eraseIdx i) := by
  rw [List.getD_eq_getElem?_getD]
  cases hi : cs[i]? with
  | none => rw [List.eraseIdx_of_length_le (List.getElem?_eq_none_iff.1 hi)]; exact h.nilc
  | some c => exact h.pick0 i hi
theorem Sat.picks0 (is : List Nat) {cs : List Chunk} (h : Sat W w cs) : Sat W w (pickL is cs) := by
  induction is generalizing cs with
  | nil => exact h
  | cons i is ih => exact ih (h.pickD i)
theorem Sat.drops0 (is : List Nat) {cs : List Chunk} (h : Sat W w cs) : Sat W w (dropL is cs) := by
  induction is generalizing cs with
  | nil => exact h
  | cons i is ih => exact ih (h.pickD i).tail
theorem Sat.picks (is : List Nat) {cs cs' : List Chunk} (h : Sat W w cs) (he : pickL is cs = cs' := by first | (dsimp only [pickL, List.getD_cons_succ, List.getD_cons_zero, List.eraseIdx_cons_succ, List.eraseIdx_cons_zero] <;> rfl) | rfl) : Sat W w cs' := he ▸ h.picks0 is
theorem Sat.drops (is : List Nat) {cs cs' : List Chunk} (h : Sat W w cs) (he : dropL is cs = cs' := by first | (dsimp only [dropL, List.eraseIdx_cons_succ, List.eraseIdx_cons_zero] <;> rfl) | rfl) : Sat W w cs' := he ▸ h.drops0 is
theorem Sat.unnil {F : List Chunk} (h : Sat W w ([] :: F)) : Sat W w F := h.perm (by simp)
theorem Sat.drew (h : Sat W w cs) : Sat W { w with drawn := w.drawn + 1 } cs := ⟨h.os, h.tape, h.output, h.nd, h.all⟩
theorem Sat.heap {b : Nat} {o : Obj} (h : Sat W w cs) (hm : (b, o) ∈ cs.flatten) : w.heap[b]? = some o := h.all _ hm
theorem mem_at {cs : List Chunk} {p : Nat × Obj} (i : Nat) (h : cs[i]? = some [p]) : p ∈ cs.flatten := by
  have := List.mem_of_getElem? h
  exact List.mem_flatten.2 ⟨_, this, by simp⟩
theorem mem_in {cs : List Chunk} {c : Chunk} {p : Nat × Obj} (i : Nat) (h : cs[i]? = some c) (hp : p ∈ c) : p ∈ cs.flatten :=
  List.mem_flatten.2 ⟨_, List.mem_of_getElem? h, hp⟩
theorem Sat.at {b : Nat} {o : Obj} (h : Sat W w cs) (i : Nat) (hi : cs[i]? = some [(b, o)]) : w.heap[b]? = some o := h.heap (mem_at i hi)
theorem Sat.lt {b : Nat} {o : Obj} (h : Sat W w cs) (hm : (b, o) ∈ cs.flatten) : b < w.heap.size := (Array.getElem?_eq_some_iff.1 (h.heap hm)).1

theorem Sat.alloc (h : Sat W w cs) (o : Obj) : Sat W (w.alloc o) ([(w.heap.size, o)] :: cs) := by
  refine ⟨h.os, h.tape, h.output, ?_, ?_⟩
  · simp only [List.flatten_cons, List.singleton_append, List.map_cons, List.nodup_cons]
    refine ⟨fun hm => ?_, h.nd⟩
    obtain ⟨p, hp, he⟩ := List.mem_map.1 hm
    have := h.lt (b := p.1) (o := p.2) hp
    omega
  · intro p hp
    simp only [List.flatten_cons, List.singleton_append, List.mem_cons] at hp
    rcases hp with rfl | hp
    · show (w.heap.push o)[w.heap.size]? = some o
      simp
    · have hl := h.lt (b := p.1) (o := p.2) hp
      rw [Below.heap_alloc w o p.1 hl]
      exact h.all p hp
where
  Below.heap_alloc (w : World) (o : Obj) (k : Nat) (h : k < w.heap.size) : (w.alloc o).heap[k]? = w.heap[k]? := by
    show (w.heap.push o)[k]? = _
    rw [Array.getElem?_push, if_neg (by omega)]

/-- The first piece, one block, is written anew. -/
theorem Sat.row {b : Nat} {c : Array Value} {E : TypeId} {f : Nat × Nat} {F : List Chunk} (h : Sat W w ([(b, .cells c E f)] :: F)) (c' : Array Value) : Sat W (w.setRow b c') ([(b, .cells c' E f)] :: F) := by
  refine ⟨h.os, h.tape, h.output, h.nd, ?_⟩
  intro p hp
  simp only [List.flatten_cons, List.singleton_append, List.mem_cons] at hp
  rcases hp with rfl | hp
  · exact setRow_heap w b c c' E f (h.heap (by simp))
  · have hn := h.nd
    simp only [List.flatten_cons, List.singleton_append, List.map_cons, List.nodup_cons] at hn
    have hne : p.1 ≠ b := fun e => hn.1 (List.mem_map.2 ⟨p, hp, e⟩)
    rw [setRow_other w b p.1 c' hne]
    exact h.all p (by simp only [List.flatten_cons, List.singleton_append, List.mem_cons]; exact .inr hp)

theorem flatten_set (cs : List Chunk) (i : Nat) (c d : Chunk) (h : cs[i]? = some c) : (cs.set i d).flatten.Perm (d ++ (cs.eraseIdx i).flatten) := by
  have hl : i < cs.length := (List.getElem?_eq_some_iff.1 h).1
  have := flatten_pick (cs.set i d) i d (by simp [hl])
  rwa [List.eraseIdx_set_eq] at this

theorem Sat.set {c d : Chunk} {w' : World} (h : Sat W w cs) (i : Nat) (hi : cs[i]? = some c) (hn : Sat W w (c :: cs.eraseIdx i) → Sat W w' (d :: cs.eraseIdx i)) : Sat W w' (cs.set i d) :=
  (hn (h.pick0 i hi)).perm (by simpa using (flatten_set cs i c d hi).symm)

theorem Sat.rowAt {b : Nat} {c : Array Value} {E : TypeId} {f : Nat × Nat} (h : Sat W w cs) (i : Nat) (hi : cs[i]? = some [(b, .cells c E f)]) (c' : Array Value) :
    Sat W (w.setRow b c') (cs.set i [(b, .cells c' E f)]) := h.set i hi fun h => h.row c'

theorem cell_of {b off : Nat} {c : Array Value} {E : TypeId} {f : Nat × Nat} {v : Value} (h : w.heap[b]? = some (.cells c E f)) (hv : c[off]? = some v) : w.cell? ⟨b, off, none⟩ = some v := by
  simp [World.cell?, h, hv]

theorem Sat.cell {b off : Nat} {c : Array Value} {E : TypeId} {f : Nat × Nat} {v : Value} (h : Sat W w cs) (i : Nat) (hi : cs[i]? = some [(b, .cells c E f)]) (hv : c[off]? = some v) :
    w.cell? ⟨b, off, none⟩ = some v := cell_of (h.at i hi) hv

/-- At p these cells can be read. -/
def PtR (cs : List Chunk) (b off : Nat) (l : List Value) : Prop := ∃ c E f, (b, Obj.cells c E f) ∈ cs.flatten ∧ (c.toList.drop off).take l.length = l

theorem PtR.cell {b off : Nat} {l : List Value} (hp : PtR cs b off l) (h : Sat W w cs) {k : Nat} {v : Value} (hk : l[k]? = some v) : w.cell? ⟨b, off + k, none⟩ = some v := by
  obtain ⟨c, E, f, hm, ht⟩ := hp
  refine cell_of (h.heap hm) ?_
  have hkl : k < l.length := (List.getElem?_eq_some_iff.1 hk).1
  rw [← ht, List.getElem?_take, if_pos hkl, List.getElem?_drop] at hk
  simpa using hk

theorem PtR.sub {b off : Nat} {l : List Value} (hp : PtR cs b off l) (i k : Nat) (h : i + k ≤ l.length) : PtR cs b (off + i) ((l.drop i).take k) := by
  obtain ⟨c, E, f, hm, ht⟩ := hp
  refine ⟨c, E, f, hm, ?_⟩
  have e : ((l.drop i).take k).length = k := by simp; omega
  rw [e, ← ht]
  rw [List.drop_take, List.take_take, List.drop_drop]
  congr 1
  omega

theorem PtR.of_mem {cs' : List Chunk} {b off : Nat} {l : List Value} (hp : PtR cs b off l) (h : ∀ p ∈ cs.flatten, p ∈ cs'.flatten) : PtR cs' b off l := by
  obtain ⟨c, E, f, hm, ht⟩ := hp
  exact ⟨c, E, f, h _ hm, ht⟩

/-- A slice of n elements of sz cells each reads as these cells. -/
def RdS (cs : List Chunk) (sz : Nat) (a : Option Addr) (n cap : Nat) (l : List Value) : Prop :=
  l.length = n * sz ∧ n ≤ cap ∧ cap ≤ maxLen ∧ (n = 0 ∨ ∃ b off, a = some ⟨b, off, none⟩ ∧ PtR cs b off l)

theorem RdS.of_mem {cs' : List Chunk} {sz : Nat} {a : Option Addr} {n cap : Nat} {l : List Value} (hp : RdS cs sz a n cap l) (h : ∀ p ∈ cs.flatten, p ∈ cs'.flatten) : RdS cs' sz a n cap l := by
  obtain ⟨h1, h2, h3, h4⟩ := hp
  refine ⟨h1, h2, h3, ?_⟩
  rcases h4 with h4 | ⟨b, off, h4, h5⟩
  · exact .inl h4
  · exact .inr ⟨b, off, h4, h5.of_mem h⟩
theorem RdS.nil (cs : List Chunk) (sz : Nat) (a : Option Addr) (cap : Nat) (hc : cap ≤ maxLen) : RdS cs sz a 0 cap [] := ⟨by simp, by simp, hc, .inl rfl⟩

/-- A slice that owns its block: written and appended to at will. -/
def OwnS (E : TypeId) (sz : Nat) (a : Option Addr) (n cap : Nat) (l : List Value) (c : Chunk) : Prop :=
  l.length = n * sz ∧ ((a = none ∧ n = 0 ∧ cap = 0 ∧ c = []) ∨
    ∃ b off cur, a = some ⟨b, off, none⟩ ∧ c = [(b, .cells cur E (0, 0))] ∧ n ≤ cap ∧ cap ≤ maxLen ∧ off + cap * sz ≤ cur.size ∧ (cur.toList.drop off).take (n * sz) = l)

theorem OwnS.nil (E : TypeId) (sz : Nat) : OwnS E sz none 0 0 [] [] := ⟨by simp, .inl ⟨rfl, rfl, rfl, rfl⟩⟩

theorem OwnS.cap_le {E : TypeId} {sz : Nat} {a : Option Addr} {n cap : Nat} {l : List Value} {c : Chunk} (h : OwnS E sz a n cap l c) : n ≤ cap ∧ cap ≤ maxLen := by
  rcases h.2 with ⟨_, rfl, rfl, _⟩ | ⟨b, off, cur, _, _, h1, h2, _⟩
  · exact ⟨Nat.le_refl _, by simp [maxLen]⟩
  · exact ⟨h1, h2⟩

theorem OwnS.rd {E : TypeId} {sz : Nat} {a : Option Addr} {n cap : Nat} {l : List Value} {c : Chunk} (h : OwnS E sz a n cap l c) (hm : ∀ p ∈ c, p ∈ cs.flatten) : RdS cs sz a n cap l := by
  have hc := h.cap_le
  refine ⟨h.1, hc.1, hc.2, ?_⟩
  rcases h.2 with ⟨_, rfl, _⟩ | ⟨b, off, cur, rfl, rfl, h1, _, h3, h4⟩
  · exact .inl rfl
  · exact .inr ⟨b, off, rfl, cur, E, (0, 0), hm _ (by simp), by rw [h.1]; exact h4⟩
end
end Go.E
