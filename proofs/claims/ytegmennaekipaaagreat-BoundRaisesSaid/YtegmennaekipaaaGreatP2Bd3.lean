import Derived.Test.YtegmennaekipaaaGreatP2Short
namespace Go.Proofs.YtegmennaekipaaaGreat
open Go Go.E
set_option linter.unusedVariables false
set_option linter.unusedSimpArgs false
set_option linter.unnecessarySimpa false
set_option maxRecDepth 100000
set_option maxHeartbeats 2000000
variable {W w : World} {H : Chunk} {F : List Chunk}
/-! ### what the calls of a board do -/
-- squeezed
def inB (B : BS) (i : Int) : Prop := 0 ≤ i ∧ i < ((B.deps.length : Nat) : Int)
instance (B : BS) (i : Int) : Decidable (inB B i) := inferInstanceAs (Decidable (_ ∧ _))
def startB (B : BS) (i : Int) : BS × Int × Int := if inB B i then (if stAt B.st i = 2 then (⟨B.deps, B.st.set i.toNat 3, B.att⟩, B.att.getD i.toNat 0, 0) else (B, 0, 20)) else (B, 0, 16)
def heldC (B : BS) (i a : Int) : Int := if inB B i then (if stAt B.st i = 3 ∧ B.att.getD i.toNat 0 = a then 0 else 20) else 16
def retB (B : BS) (i a : Int) : BS := if heldC B i a = 0 then ⟨B.deps, B.st.set i.toNat 2, B.att.set i.toNat (a + 1)⟩ else B
def condB (s : List Int) (D : List (List Int)) (q : Nat) : Bool := decide (s.getD q 0 = 1) && !openB s (D.getD q [])
def rdyB (s : List Int) (D : List (List Int)) : List Int := ((List.range D.length).filter (condB s D)).map fun (q : Nat) => (q : Int)
def markB (s : List Int) (D : List (List Int)) : List Int := (List.range D.length).map fun q => if condB s D q then 2 else s.getD q 0
def comB (B : BS) (i a : Int) : BS × List Int := if heldC B i a = 0 then (⟨B.deps, markB (B.st.set i.toNat 4) B.deps, B.att⟩, rdyB (B.st.set i.toNat 4) B.deps) else (B, [])
def idxOf (y : Int) : Nat → List Int → List Int
  | _, [] => []
  | k, x :: l => (if x = y then [((k : Nat) : Int)] else []) ++ idxOf y (k + 1) l
structure BWf (B : BS) (K : Int) : Prop where
  ls : B.st.length = B.deps.length
  la : B.att.length = B.deps.length
  n0 : B.deps.length ≤ 4096
  asc : ∀ (k : Nat) d, B.deps[k]? = some d → ascFrom k (-1) d = true
  st : ∀ x ∈ B.st, 1 ≤ x ∧ x ≤ 4
  wait : ∀ (k : Nat) d, B.deps[k]? = some d → (B.st.getD k 0 = 1 ↔ openB B.st d = true)
  att : ∀ x ∈ B.att, 0 ≤ x ∧ x ≤ K
theorem getD_mem {s : List Int} {q : Nat} (h : q < s.length) : s.getD q 0 ∈ s := by simp [List.getD_eq_getElem?_getD, h]
theorem stAt_nat (s : List Int) {i : Int} (h : 0 ≤ i) : stAt s i = s.getD i.toNat 0 := by unfold stAt; rw [if_pos h]
theorem getD_set {s : List Int} {k q : Nat} {y : Int} : (s.set k y).getD q 0 = if k = q ∧ k < s.length then y else s.getD q 0 := by
  rw [List.getD_eq_getElem?_getD, List.getD_eq_getElem?_getD, List.getElem?_set]
  by_cases h : k = q
  · subst h
    by_cases h2 : k < s.length
    · simp [h2]
    · simp [h2]
  · simp [h]
theorem stAt_set {s : List Int} {k : Nat} {y x : Int} : stAt (s.set k y) x = if x = (k : Nat) ∧ k < s.length then y else stAt s x := by
  unfold stAt
  by_cases h : 0 ≤ x
  · rw [if_pos h, if_pos h, getD_set]
    by_cases h2 : x = (k : Nat)
    · subst h2; simp
    · rw [if_neg (by omega), if_neg (by omega)]
  · rw [if_neg h, if_neg h, if_neg (by omega)]
/-- A task that was not committed changes its state to one that is not 'committed': nothing else depends on it. -/
theorem four_same {s : List Int} {k : Nat} {y : Int} (h : s.getD k 0 ≠ 4) (hy : y ≠ 4) (x : Int) : stAt (s.set k y) x ≠ 4 ↔ stAt s x ≠ 4 := by
  rw [stAt_set]
  split
  · rename_i h2
    have h3 : stAt s x = s.getD k 0 := by rw [h2.1, stAt_nat _ (by omega)]; simp
    rw [h3]; exact ⟨fun _ => h, fun _ => hy⟩
  · exact Iff.rfl
theorem pend_same {s t : List Int} {d : List Int} (h : ∀ x ∈ d, (stAt s x ≠ 4 ↔ stAt t x ≠ 4)) : pendOf s d = pendOf t d := by
  unfold pendOf
  congr 2
  apply List.filter_congr
  intro x hx
  exact decide_eq_decide.2 (h x hx)
theorem open_same {s t : List Int} {d : List Int} (h : ∀ x ∈ d, (stAt s x ≠ 4 ↔ stAt t x ≠ 4)) : openB s d = openB t d := by
  unfold openB
  rw [Bool.eq_iff_iff, List.any_eq_true, List.any_eq_true]
  constructor
  · rintro ⟨x, hx, h2⟩; exact ⟨x, hx, by simpa using (h x hx).1 (by simpa using h2)⟩
  · rintro ⟨x, hx, h2⟩; exact ⟨x, hx, by simpa using (h x hx).2 (by simpa using h2)⟩
theorem pend_open {s d : List Int} : pendOf s d = 0 ↔ openB s d = false := by
  unfold pendOf openB
  rw [List.any_eq_false]
  constructor
  · intro h x hx
    have h2 : (d.filter fun x => decide (stAt s x ≠ 4)) = [] := List.eq_nil_of_length_eq_zero (by omega)
    rw [List.filter_eq_nil_iff] at h2
    exact h2 x hx
  · intro h
    rw [List.filter_eq_nil_iff.2 h]; rfl
theorem count_set {s : List Int} {k : Nat} {y : Int} : ∀ (h : k < s.length), ((s.set k y).filter fun x => decide (x = 4)).length + (if s.getD k 0 = 4 then 1 else 0) = (s.filter fun x => decide (x = 4)).length + (if y = 4 then 1 else 0) := by
 induction s generalizing k with
 | nil => intro h; simp at h
 | cons x s ih =>
  intro h
  cases k with
  | zero =>
   simp only [List.set_cons_zero, List.filter_cons, List.getD_cons_zero, decide_eq_true_eq]
   split <;> split <;> simp_all <;> omega
  | succ k =>
   have h2 := ih (k := k) (by simpa using h)
   simp only [List.set_cons_succ, List.filter_cons, List.getD_cons_succ, decide_eq_true_eq]
   by_cases hx : x = 4
   ·rw [if_pos hx, if_pos hx]; simp only [List.length_cons]; omega
   ·rw [if_neg hx, if_neg hx]; exact h2
theorem entsOf_len {es : List BEnt} {B : BS} (h : es.map BEnt.v = entsOf B) : es.length = B.deps.length := by
  have := congrArg List.length h
  simpa [entsOf] using this
theorem entAt {es : List BEnt} {B : BS} {i : Nat} {x : BEnt} (h : es.map BEnt.v = entsOf B) (hx : es[i]? = some x) : i < B.deps.length ∧ x.state = B.st.getD i 0 ∧ x.attempt = B.att.getD i 0 ∧ x.pending = pendOf B.st (B.deps.getD i []) ∧ x.next.l = nextOf 0 B.deps i := by
  obtain ⟨h1, h2⟩ := ent_at h hx
  have e := congrArg BEntV.state h2; have e2 := congrArg BEntV.attempt h2; have e3 := congrArg BEntV.pending h2; have e4 := congrArg BEntV.next h2
  exact ⟨h1, e, e2, e3, e4⟩
/-- One task's state and attempt change, from and to states that are not 'committed'. -/
theorem ents_state {es : List BEnt} {B : BS} {i : Nat} {x x' : BEnt} {y z : Int} (hl : B.st.length = B.deps.length) (hl2 : B.att.length = B.deps.length) (h : es.map BEnt.v = entsOf B) (hx : es[i]? = some x) (h0 : x.state ≠ 4) (hy : y ≠ 4)
  (h1 : x'.state = y) (h2 : x'.attempt = z) (h3 : x'.pending = x.pending) (h4 : x'.next = x.next) : (es.set i x').map BEnt.v = entsOf ⟨B.deps, B.st.set i y, B.att.set i z⟩ ∧ doneOf ⟨B.deps, B.st.set i y, B.att.set i z⟩ = doneOf B := by
 obtain ⟨hi, e1, e2, e3, e4⟩ := entAt h hx
 have f4 : ∀ x, stAt (B.st.set i y) x ≠ 4 ↔ stAt B.st x ≠ 4 := four_same (by rw [← e1]; exact h0) hy
 constructor
 ·unfold entsOf
  refine ents_set h (fun q hq hne => ?_) (fun _ => ?_)
  ·simp only [entV, getD_set, pend_same (fun x _ => f4 x)]
   rw [if_neg om, if_neg om]
  ·simp only [BEnt.v, entV, getD_set, pend_same (fun x _ => f4 x), h1, h2, h3, h4, e3, e4]
   rw [if_pos ⟨trivial, om⟩, if_pos ⟨trivial, om⟩]
 ·unfold doneOf
  have := count_set (s := B.st) (k := i) (y := y) om
  rw [if_neg (by rw [← e1]; exact h0), if_neg hy] at this
  simp only; omega
theorem set_self {s : List Int} {i : Nat} : s.set i (s.getD i 0) = s := by
  apply List.ext_getElem?
  intro q
  rw [List.getElem?_set]
  by_cases h : i = q
  · subst h
    by_cases h2 : i < s.length
    · simp [h2, List.getD_eq_getElem?_getD]
    · simp [h2]
  · rw [if_neg h]
theorem ok_set {es : List BEnt} {G : Chunk} {i : Nat} {x x' : BEnt} (h : ∀ z ∈ es, BEnt.Ok [G] z) (hx : es[i]? = some x) (hn : x'.next = x.next) : ∀ z ∈ es.set i x', BEnt.Ok [G] z := by
  intro z hz
  rcases List.mem_or_eq_of_mem_set hz with h1 | rfl
  · exact h z h1
  · exact ⟨by rw [hn]; exact (h x (List.mem_of_getElem? hx)).next⟩
/-! ### the invariant stays -/
theorem BWf.mono {B : BS} {K L : Int} (h : BWf B K) (hk : K ≤ L) : BWf B L := ⟨h.ls, h.la, h.n0, h.asc, h.st, h.wait, fun x hx => by have := h.att x hx; omega⟩
theorem wf_state {B : BS} {K L : Int} {i : Nat} {y z : Int} (h : BWf B K) (hi : i < B.deps.length) (h0 : B.st.getD i 0 ≠ 4) (h1 : B.st.getD i 0 ≠ 1) (hy : 2 ≤ y ∧ y ≤ 3) (hz : 0 ≤ z ∧ z ≤ L) (hk : K ≤ L) : BWf ⟨B.deps, B.st.set i y, B.att.set i z⟩ L := by
 refine ⟨by simp [h.ls], by simp [h.la], h.n0, h.asc, fun x hx => ?_, fun k d hd => ?_, fun x hx => ?_⟩
 ·rcases List.mem_or_eq_of_mem_set hx with h2 | rfl
  ·exact h.st x h2
  ·omega
 ·have hw := h.wait k d hd
  simp only at hd ⊢
  rw [open_same (fun x _ => four_same h0 (by omega : y ≠ 4) x), ← hw, getD_set]
  split
  ·rename_i h2; obtain ⟨rfl, _⟩ := h2; omega
  ·exact Iff.rfl
 ·rcases List.mem_or_eq_of_mem_set hx with h2 | rfl
  ·have := h.att x h2; omega
  ·omega
theorem start_wf {B : BS} {K : Int} {i : Int} (h : BWf B K) : BWf (startB B i).1 K := by
  unfold startB
  split
  · rename_i hi
    split
    · rename_i h2
      rw [stAt_nat _ hi.1] at h2
      have hi2 : i.toNat < B.deps.length := by have h8 := hi.1; have h9 := hi.2; omega
      have h3 := wf_state (i := i.toNat) (y := 3) (z := B.att.getD i.toNat 0) h hi2 (by omega) (by omega) (by omega) (L := K) (h.att _ (getD_mem (by rw [h.la]; exact hi2))) (Int.le_refl _)
      rw [set_self] at h3; exact h3
    · exact h
  · exact h
theorem heldC_zero {B : BS} {i a : Int} (h : heldC B i a = 0) : inB B i ∧ stAt B.st i = 3 ∧ B.att.getD i.toNat 0 = a := by
  unfold heldC at h
  split at h
  · split at h
    · rename_i h1 h2; exact ⟨h1, h2⟩
    · omega
  · omega
theorem ret_wf {B : BS} {K : Int} {i a : Int} (h : BWf B K) : BWf (retB B i a) (K + 1) := by
  unfold retB
  split
  · rename_i h0
    obtain ⟨hi, h1, h2⟩ := heldC_zero h0
    rw [stAt_nat _ hi.1] at h1
    have hi2 : i.toNat < B.deps.length := by have h8 := hi.1; have h9 := hi.2; omega
    have h3 := h.att (B.att.getD i.toNat 0) (getD_mem (by rw [h.la]; exact hi2))
    exact wf_state h hi2 (by omega) (by omega) (by omega) (by omega) (by omega)
  · exact h.mono (by omega)
theorem getD_range {n q : Nat} {f : Nat → Int} (h : q < n) : ((List.range n).map f).getD q 0 = f q := by rw [List.getD_eq_getElem?_getD, map_range_at h]; rfl
theorem mark_four {s : List Int} {D : List (List Int)} (hl : s.length = D.length) (x : Int) : stAt (markB s D) x ≠ 4 ↔ stAt s x ≠ 4 := by
 unfold stAt
 by_cases h : 0 ≤ x
 ·rw [if_pos h, if_pos h]
  by_cases h2 : x.toNat < D.length
  ·unfold markB
   rw [getD_range h2]
   split
   ·rename_i h3
    simp only [condB, Bool.and_eq_true, decide_eq_true_eq] at h3
    rw [h3.1]; simp
   ·exact Iff.rfl
  ·have e1 : (markB s D).getD x.toNat 0 = 0 := by rw [List.getD_eq_getElem?_getD, List.getElem?_eq_none (by simp [markB]; omega)]; rfl
   have e2 : s.getD x.toNat 0 = 0 := by rw [List.getD_eq_getElem?_getD, List.getElem?_eq_none om]; rfl
   rw [e1, e2]
 ·rw [if_neg h, if_neg h]
theorem com_wf {B : BS} {K : Int} {i a : Int} (h : BWf B K) : BWf (comB B i a).1 K := by
 unfold comB
 split
 ·rename_i h0
  obtain ⟨hi, h1, h2⟩ := heldC_zero h0
  rw [stAt_nat _ hi.1] at h1
  have hi2 : i.toNat < B.deps.length := by have h8 := hi.1; have h9 := hi.2; omega
  have hls : (B.st.set i.toNat 4).length = B.deps.length := by rw [List.length_set]; exact h.ls
  refine ⟨by simp [markB], h.la, h.n0, h.asc, fun x hx => ?_, fun k d hd => ?_, h.att⟩
  ·simp only [markB, List.mem_map, List.mem_range] at hx
   obtain ⟨q, hq, rfl⟩ := hx
   split
   ·omega
   ·rw [getD_set]
    split
    ·omega
    ·exact h.st _ (getD_mem (by rw [h.ls]; exact hq))
  ·have hk : k < B.deps.length := (List.getElem?_eq_some_iff.1 hd).1
   simp only
   rw [open_same (fun x _ => mark_four hls x)]
   unfold markB
   rw [getD_range hk]
   have hdk : B.deps.getD k [] = d := by rw [List.getD_eq_getElem?_getD, hd]; rfl
   have hw := h.wait k d hd
   have hmono : openB (B.st.set i.toNat 4) d = true → openB B.st d = true := by
    unfold openB
    rw [List.any_eq_true, List.any_eq_true]
    rintro ⟨x, hx, h3⟩
    refine ⟨x, hx, ?_⟩
    rw [decide_eq_true_eq, stAt_set] at h3
    rw [decide_eq_true_eq]
    split at h3
    ·omega
    ·exact h3
   by_cases hc : condB (B.st.set i.toNat 4) B.deps k = true
   ·rw [if_pos hc]
    simp only [condB, Bool.and_eq_true, Bool.not_eq_true', hdk] at hc
    rw [hc.2]; simp
   ·rw [if_neg hc]
    constructor
    ·intro h3
     have hd1 : decide ((B.st.set i.toNat 4).getD k 0 = 1) = true := decide_eq_true h3
     simp only [condB, hd1, hdk, Bool.true_and, Bool.not_eq_true', Bool.not_eq_false] at hc
     exact hc
    ·intro h3
     have h4 := hw.2 (hmono h3)
     rw [getD_set, if_neg ?_]
     ·exact h4
     ·rintro ⟨rfl, _⟩; omega
 ·exact h
theorem new_wf {l : List Task} (h : validC l = 0) : BWf (newB l) 0 := by
 obtain ⟨h1, h2, h3⟩ := validC_zero h
 refine ⟨by simp [newB], by simp [newB], by simp [newB]; omega, fun k d hd => ?_, fun x hx => ?_, fun k d hd => ?_, fun x hx => ?_⟩
 ·simp only [newB, List.getElem?_map, Option.map_eq_some_iff] at hd
  obtain ⟨t, ht, rfl⟩ := hd
  exact taskOK_asc (tasksOK_at h3 ht)
 ·simp only [newB, List.mem_map] at hx
  obtain ⟨t, _, rfl⟩ := hx
  simp only [st0]; split <;> omega
 ·simp only [newB, List.getElem?_map, Option.map_eq_some_iff] at hd
  obtain ⟨t, ht, rfl⟩ := hd
  have hk : k < l.length := (List.getElem?_eq_some_iff.1 ht).1
  have e1 : (newB l).st.getD k 0 = st0 t.deps.l := by simp [newB, List.getD_eq_getElem?_getD, ht]
  have e3 : ∀ x, stAt (newB l).st x ≠ 4 := by
   intro x
   unfold stAt
   split
   ·simp only [newB]
    rw [List.getD_eq_getElem?_getD, List.getElem?_map]
    cases l[x.toNat]? with
    | none => simp
    | some t => simp [st0]; split <;> omega
   ·omega
  rw [e1]
  unfold openB st0
  cases hdl : t.deps.l with
  | nil => simp
  | cons y ys => simp [e3 y]
 ·simp only [newB, List.mem_map] at hx
  obtain ⟨t, _, rfl⟩ := hx
  omega
end Go.Proofs.YtegmennaekipaaaGreat

namespace Go.Proofs.YtegmennaekipaaaGreat
open Go Go.E
set_option linter.unusedVariables false
set_option linter.unusedSimpArgs false
set_option linter.unnecessarySimpa false
set_option maxRecDepth 100000
set_option maxHeartbeats 2000000
variable {W w : World} {H : Chunk} {F : List Chunk}
/-! ### Ready, Commit -/
theorem idx_app (y : Int) (k : Nat) (l : List Int) (x : Int) : idxOf y k (l ++ [x]) = idxOf y k l ++ (if x = y then [((k + l.length : Nat) : Int)] else []) := by
  induction l generalizing k with
  | nil => simp [idxOf]
  | cons z l ih => simp only [List.cons_append, idxOf, ih, List.append_assoc, List.length_cons]; congr 4; simp; omega
theorem take_getD {s : List Int} {i : Nat} (h : i < s.length) : s.take (i + 1) = s.take i ++ [s.getD i 0] := by
  rw [take_succ_at (x := s.getD i 0)]; simp [List.getD_eq_getElem?_getD, h]
theorem idx_y {y : Int} {s zs : List Int} {i : Nat} (hz : zs = idxOf y 0 (s.take i)) (hi : i < s.length) (h : s.getD i 0 = y) : zs ++ [((i : Nat) : Int)] = idxOf y 0 (s.take (i + 1)) := by
  rw [take_getD hi, idx_app, if_pos h, ← hz, List.length_take, Nat.min_eq_left (by omega), Nat.zero_add]
theorem idx_n {y : Int} {s zs : List Int} {i : Nat} (hz : zs = idxOf y 0 (s.take i)) (hi : i < s.length) (h : s.getD i 0 ≠ y) : zs = idxOf y 0 (s.take (i + 1)) := by
  rw [take_getD hi, idx_app, if_neg h, ← hz, List.append_nil]
theorem idx_len {y : Int} : ∀ (k : Nat) (s : List Int), (idxOf y k s).length = (s.filter fun x => decide (x = y)).length
  | _, [] => rfl
  | k, x :: s => by
    simp only [idxOf, List.length_append, idx_len (k + 1) s, List.filter_cons, decide_eq_true_eq]
    split <;> simp <;> omega
/-- The entries while task i is committed: those in 'nx' have been seen to. -/
def entC (B : BS) (s nx : List Int) (q : Nat) : BEntV :=
  if (q : Int) ∈ nx then ⟨if pendOf s (B.deps.getD q []) = 0 then 2 else s.getD q 0, B.att.getD q 0, pendOf s (B.deps.getD q []), nextOf 0 B.deps q⟩ else ⟨s.getD q 0, B.att.getD q 0, pendOf B.st (B.deps.getD q []), nextOf 0 B.deps q⟩
theorem nx_mem {k : Nat} {i z : Int} : ∀ {D : List (List Int)}, z ∈ nextOf k D i ↔ ∃ q : Nat, z = (k + q : Nat) ∧ q < D.length ∧ i ∈ D.getD q []
  | [] => by simp [nextOf]
  | d :: D => by
    simp only [nextOf, List.mem_append, nx_mem (k := k + 1) (D := D)]
    constructor
    · rintro (h | ⟨q, rfl, h1, h2⟩)
      · split at h
        · rename_i h2; simp at h; exact ⟨0, by simp [h], by simp, by simpa using h2⟩
        · cases h
      · exact ⟨q + 1, by omega, by simp; omega, by simpa using h2⟩
    · rintro ⟨q, rfl, h1, h2⟩
      cases q with
      | zero => left; simp at h2; rw [if_pos h2]; simp
      | succ q => right; exact ⟨q, by omega, by simpa using h1, by simpa using h2⟩
theorem nx_asc {i : Int} : ∀ {D : List (List Int)} {k : Nat} {a : Int}, a < k → ascFrom ((k + D.length : Nat) : Int) a (nextOf k D i) = true
  | [], _, _, _ => rfl
  | d :: D, k, a, h => by
    simp only [nextOf]
    split
    · simp only [List.cons_append, List.nil_append, ascFrom, Bool.and_eq_true, decide_eq_true_eq, List.length_cons]
      refine ⟨⟨h, by omega⟩, ?_⟩
      have := nx_asc (i := i) (D := D) (k := k + 1) (a := k) (by omega)
      rw [show k + (D.length + 1) = k + 1 + D.length by omega]; exact this
    · rw [List.nil_append, List.length_cons, show k + (D.length + 1) = k + 1 + D.length by omega]; exact nx_asc (by omega)
theorem asc_notin {i a x : Int} {l : List Int} {j : Nat} (h : ascFrom i a l = true) (hx : l[j]? = some x) : x ∉ l.take j := by
 intro hin
 have h5 : ascFrom i a (l.take (j + 1)) = true := by rw [← List.take_append_drop (j + 1) l] at h; exact asc_pre h
 rw [asc_take hx, Bool.and_eq_true] at h5
 have h6 : ∀ (l : List Int) (a : Int), ascFrom i a l = true → ∀ y ∈ l, y ≤ lastD a l := by
  intro l
  induction l with
  | nil => intro _ _ y hy; cases hy
  | cons z l ih =>
   intro a ha y hy
   simp only [ascFrom, Bool.and_eq_true, decide_eq_true_eq] at ha
   rcases List.mem_cons.1 hy with rfl | hy
   ·exact asc_last ha.2
   ·exact ih z ha.2 y hy
 have h7 := h6 _ _ h5.1 x hin
 have h8 := h5.2
 simp at h8
 omega
theorem pend_cons (s : List Int) (x : Int) (l : List Int) : pendOf s (x :: l) = (if stAt s x ≠ 4 then 1 else 0) + pendOf s l := by
  unfold pendOf
  rw [List.filter_cons]
  by_cases h : stAt s x ≠ 4
  · rw [if_pos (by simpa using h), if_pos h]; simp; omega
  · rw [if_neg (by simpa using h), if_neg h]; simp
theorem pend_dec {s : List Int} {i : Nat} {b : Int} (h3 : s.getD i 0 ≠ 4) (hi : i < s.length) : ∀ {d : List Int} {a : Int}, ascFrom b a d = true → pendOf (s.set i 4) d + (if ((i : Nat) : Int) ∈ d then 1 else 0) = pendOf s d
 | [], _, _ => by simp [pendOf]
 | x :: d, a, h => by
  simp only [ascFrom, Bool.and_eq_true, decide_eq_true_eq] at h
  have ih := pend_dec h3 hi h.2
  have hm := asc_mem h.2
  by_cases e : x = (i : Nat)
  ·have hn : ((i : Nat) : Int) ∉ d := fun hin => by have := hm _ hin; omega
   rw [if_neg hn] at ih
   have h4 : stAt s x ≠ 4 := by rw [e, stAt_nat _ om]; simpa using h3
   have hx4 : stAt (s.set i 4) x = 4 := by rw [stAt_set, if_pos ⟨e, hi⟩]
   rw [pend_cons, pend_cons, hx4, if_pos h4, if_neg (by decide), if_pos (by rw [e]; exact List.mem_cons_self ..)]
   omega
  ·have hxs : stAt (s.set i 4) x = stAt s x := by rw [stAt_set, if_neg (fun h => e h.1)]
   rw [pend_cons, pend_cons, hxs]
   generalize (if stAt s x ≠ 4 then (1 : Int) else 0) = c
   by_cases h5 : ((i : Nat) : Int) ∈ d
   ·rw [if_pos (List.mem_cons_of_mem _ h5)]; rw [if_pos h5] at ih; omega
   ·rw [if_neg (by simp only [List.mem_cons, not_or]; exact ⟨fun h => e h.symm, h5⟩)]; rw [if_neg h5] at ih; omega
theorem com_step {es : List BEnt} {B : BS} {K : Int} {i j : Nat} {z : Int} {y y' : BEnt} (hW : BWf B K) (hi : i < B.deps.length) (h3 : B.st.getD i 0 = 3)
  (h : es.map BEnt.v = (List.range B.deps.length).map (entC B (B.st.set i 4) ((nextOf 0 B.deps i).take j))) (hz : (nextOf 0 B.deps i)[j]? = some z) (hy : es[z.toNat]? = some y)
  (h1 : y'.pending = y.pending - 1) (h2 : y'.attempt = y.attempt) (h4 : y'.next = y.next) (h5 : y'.state = if y.pending - 1 = 0 then 2 else y.state) :
  (es.set z.toNat y').map BEnt.v = (List.range B.deps.length).map (entC B (B.st.set i 4) ((nextOf 0 B.deps i).take (j + 1))) ∧ (pendOf (B.st.set i 4) (B.deps.getD z.toNat []) = y.pending - 1) := by
 obtain ⟨q, hzq, hq, hiq⟩ := nx_mem.1 (List.mem_of_getElem? hz)
 have hzn : z.toNat = q := by omega
 have hzz : ((q : Nat) : Int) = z := by omega
 have hno : z ∉ (nextOf 0 B.deps i).take j := asc_notin (nx_asc (a := -1) om) hz
 have h0 := (ent_at h hy).2
 rw [hzn] at h0 ⊢
 simp only [entC, hzz, if_neg hno] at h0
 have e1 := congrArg BEntV.state h0; have e2 := congrArg BEntV.attempt h0; have e3 := congrArg BEntV.pending h0; have e4 := congrArg BEntV.next h0
 simp only [BEnt.v] at e1 e2 e3 e4
 have hd : B.deps[q]? = some (B.deps.getD q []) := by simp [List.getD_eq_getElem?_getD, hq]
 have hp := pend_dec (s := B.st) (i := i) om (by rw [hW.ls]; exact hi) (hW.asc q _ hd)
 rw [if_pos hiq] at hp
 have hp2 : pendOf (B.st.set i 4) (B.deps.getD q []) = y.pending - 1 := by omega
 refine ⟨ents_set h (fun r hr hne => ?_) (fun _ => ?_), hp2⟩
 ·simp only [entC, take_succ_at hz, List.mem_append, List.mem_singleton]
  have : ¬ ((r : Nat) : Int) = z := by omega
  simp only [this, or_false]
 ·simp only [entC, take_succ_at hz, List.mem_append, List.mem_singleton, hzz, or_true, if_true, BEnt.v, h1, h2, h4, h5, hp2, e1, e2, e4]
/-- A task waits for i exactly if it is listed there; and it is ready then exactly if it waited and now waits for none. -/
theorem cond_iff {B : BS} {K : Int} {i q : Nat} (hW : BWf B K) (hi : i < B.deps.length) (h3 : B.st.getD i 0 = 3) (hq : q < B.deps.length) :
  condB (B.st.set i 4) B.deps q = true ↔ (((q : Nat) : Int) ∈ nextOf 0 B.deps i ∧ pendOf (B.st.set i 4) (B.deps.getD q []) = 0) := by
 have hd : B.deps[q]? = some (B.deps.getD q []) := by simp [List.getD_eq_getElem?_getD, hq]
 have hls := hW.ls
 have hmem : ((q : Nat) : Int) ∈ nextOf 0 B.deps i ↔ ((i : Nat) : Int) ∈ B.deps.getD q [] := by
  rw [nx_mem]
  constructor
  ·rintro ⟨r, hr, _, h⟩; obtain rfl : q = r := by omega
   exact h
  ·intro h; exact ⟨q, om, hq, h⟩
 have hw := hW.wait q _ hd
 simp only [condB, Bool.and_eq_true, decide_eq_true_eq, Bool.not_eq_true', hmem]
 rw [pend_open]
 constructor
 ·rintro ⟨h1, h2⟩
  refine ⟨?_, h2⟩
  by_cases hin : ((i : Nat) : Int) ∈ B.deps.getD q []
  ·exact hin
  ·exfalso
   have hne : i ≠ q := by rintro rfl; rw [getD_set, if_pos ⟨rfl, om⟩] at h1; omega
   rw [getD_set, if_neg (fun h => hne h.1)] at h1
   have h4 := hw.1 h1
   have he : ∀ x ∈ B.deps.getD q [], (stAt B.st x ≠ 4 ↔ stAt (B.st.set i 4) x ≠ 4) := by
    intro x hx
    rw [stAt_set, if_neg]
    rintro ⟨rfl, _⟩; exact hin hx
   rw [open_same he] at h4
   rw [h2] at h4; cases h4
 ·rintro ⟨h1, h2⟩
  refine ⟨?_, h2⟩
  have hlt := asc_mem (hW.asc q _ hd) _ h1
  rw [getD_set, if_neg (fun h => by omega)]
  refine hw.2 ?_
  unfold openB
  rw [List.any_eq_true]
  exact ⟨_, h1, by rw [decide_eq_true_eq, stAt_nat _ om]; simp only [Int.toNat_natCast]; omega⟩
theorem com_ents {es : List BEnt} {B : BS} {K : Int} {i : Nat} (hW : BWf B K) (hi : i < B.deps.length) (h3 : B.st.getD i 0 = 3)
  (h : es.map BEnt.v = (List.range B.deps.length).map (entC B (B.st.set i 4) (nextOf 0 B.deps i))) : es.map BEnt.v = entsOf ⟨B.deps, markB (B.st.set i 4) B.deps, B.att⟩ := by
 rw [h]
 unfold entsOf
 apply map_range
 intro q hq
 have hc := cond_iff hW hi h3 hq
 have hls : (B.st.set i 4).length = B.deps.length := by rw [List.length_set]; exact hW.ls
 have hd : B.deps[q]? = some (B.deps.getD q []) := by simp [List.getD_eq_getElem?_getD, hq]
 have hpm : pendOf (markB (B.st.set i 4) B.deps) (B.deps.getD q []) = pendOf (B.st.set i 4) (B.deps.getD q []) := pend_same (fun x _ => mark_four hls x)
 have hmk : (markB (B.st.set i 4) B.deps).getD q 0 = if condB (B.st.set i 4) B.deps q then 2 else (B.st.set i 4).getD q 0 := getD_range hq
 simp only [entV, hpm, hmk]
 by_cases hin : ((q : Nat) : Int) ∈ nextOf 0 B.deps i
 ·rw [entC, if_pos hin]
  by_cases hp : pendOf (B.st.set i 4) (B.deps.getD q []) = 0
  ·rw [if_pos hp, if_pos (hc.2 ⟨hin, hp⟩)]
  ·rw [if_neg hp, if_neg (fun h => hp (hc.1 h).2)]
 ·rw [entC, if_neg hin, if_neg (fun h => hin (hc.1 h).1)]
  have hin2 : ((i : Nat) : Int) ∉ B.deps.getD q [] := fun h => hin (nx_mem.2 ⟨q, om, hq, h⟩)
  have hp := pend_dec (s := B.st) (i := i) om (by rw [hW.ls]; exact hi) (hW.asc q _ hd)
  rw [if_neg hin2, Int.add_zero] at hp
  rw [hp]
theorem nextOf_range (i : Int) : ∀ (k : Nat) (D : List (List Int)), nextOf k D i = ((List.range D.length).filter fun q => decide (i ∈ D.getD q [])).map fun (q : Nat) => ((k + q : Nat) : Int)
 | _, [] => rfl
 | k, d :: D => by
  have e : ((List.range D.length).filter ((fun q => decide (i ∈ (d :: D).getD q [])) ∘ Nat.succ)) = (List.range D.length).filter fun q => decide (i ∈ D.getD q []) := rfl
  rw [nextOf, nextOf_range i (k + 1) D, List.length_cons, List.range_succ_eq_map, List.filter_cons, List.filter_map, e]
  have e2 : ∀ l : List Nat, (l.map Nat.succ).map (fun q : Nat => ((k + q : Nat) : Int)) = l.map fun (q : Nat) => ((k + 1 + q : Nat) : Int) := by
   intro l
   rw [List.map_map]
   apply List.map_congr_left
   intro q _
   simp only [Function.comp]; omega
  by_cases h : i ∈ d
  ·rw [if_pos h, if_pos (by simpa using h), List.map_cons, e2]; rfl
  ·rw [if_neg h, if_neg (by simpa using h), e2]; rfl
theorem com_rdy {B : BS} {K : Int} {i : Nat} (hW : BWf B K) (hi : i < B.deps.length) (h3 : B.st.getD i 0 = 3) :
  (nextOf 0 B.deps i).filter (fun z => decide (pendOf (B.st.set i 4) (B.deps.getD z.toNat []) = 0)) = rdyB (B.st.set i 4) B.deps := by
 rw [nextOf_range, List.filter_map]
 unfold rdyB
 simp only [Nat.zero_add]
 rw [List.filter_filter]
 congr 1
 apply List.filter_congr
 intro q hq
 have hc := cond_iff hW hi h3 (List.mem_range.1 hq)
 rw [Bool.eq_iff_iff, hc]
 simp only [Function.comp, Bool.and_eq_true, decide_eq_true_eq, Int.toNat_natCast]
 have hmem : ((q : Nat) : Int) ∈ nextOf 0 B.deps i ↔ ((i : Nat) : Int) ∈ B.deps.getD q [] := by
  rw [nx_mem]
  constructor
  ·rintro ⟨r, hr, _, h⟩; obtain rfl : q = r := by omega
   exact h
  ·intro h; exact ⟨q, om, List.mem_range.1 hq, h⟩
 rw [hmem]
 constructor
 ·rintro ⟨h1, h2⟩; exact ⟨h2, h1⟩
 ·rintro ⟨h1, h2⟩; exact ⟨h2, h1⟩
theorem com_done {B : BS} {K : Int} {i : Nat} (hW : BWf B K) (hi : i < B.deps.length) (h3 : B.st.getD i 0 = 3) : doneOf ⟨B.deps, markB (B.st.set i 4) B.deps, B.att⟩ = doneOf B + 1 := by
 unfold doneOf
 have hls : (B.st.set i 4).length = B.deps.length := by rw [List.length_set]; exact hW.ls
 have h1 : ((markB (B.st.set i 4) B.deps).filter fun x => decide (x = 4)).length = ((B.st.set i 4).filter fun x => decide (x = 4)).length := by
  have e : B.st.set i 4 = (List.range B.deps.length).map fun q => (B.st.set i 4).getD q 0 := by
   apply List.ext_getElem?
   intro q
   by_cases hq : q < B.deps.length
   ·rw [map_range_at hq, List.getD_eq_getElem?_getD]
    have : q < (B.st.set i 4).length := by omega
    simp only [List.getElem?_eq_getElem this, Option.getD_some]
   ·rw [List.getElem?_eq_none om, List.getElem?_eq_none (by simp; omega)]
  have e2 : markB (B.st.set i 4) B.deps = (List.range B.deps.length).map fun q => if condB (B.st.set i 4) B.deps q then 2 else (B.st.set i 4).getD q 0 := rfl
  generalize hs : B.st.set i 4 = s at *
  rw [e2]
  conv => rhs; rw [e]
  rw [List.filter_map, List.filter_map, List.length_map, List.length_map]
  congr 1
  apply List.filter_congr
  intro q _
  simp only [Function.comp]
  by_cases hc : condB s B.deps q = true
  ·have hc2 := hc
   simp only [condB, Bool.and_eq_true, decide_eq_true_eq] at hc2
   simp only [hc, if_true, hc2.1]; rfl
  ·simp only [hc, if_false]; rfl
 rw [h1]
 have h2 := count_set (s := B.st) (k := i) (y := 4) (by rw [hW.ls]; exact hi)
 rw [if_neg om, if_pos rfl] at h2
 omega
theorem asc_sorted {i a : Int} {l : List Int} (h : ascFrom i a l = true) : ∀ (q : Nat) (u v : Int), l[q]? = some u → l[q + 1]? = some v → u ≤ v := by
  induction l generalizing a with
  | nil => intro q u v h1; simp at h1
  | cons x l ih =>
    simp only [ascFrom, Bool.and_eq_true, decide_eq_true_eq] at h
    intro q u v h1 h2
    cases q with
    | zero =>
      simp at h1; subst h1
      have := asc_mem h.2 v (List.mem_of_getElem? (by simpa using h2)); omega
    | succ q => exact ih h.2 q u v (by simpa using h1) (by simpa using h2)
theorem asc_filter {i : Int} {p : Int → Bool} : ∀ {l : List Int} {a b : Int}, b ≤ a → ascFrom i a l = true → ascFrom i b (l.filter p) = true
  | [], _, _, _, _ => rfl
  | x :: l, a, b, hab, h => by
    simp only [ascFrom, Bool.and_eq_true, decide_eq_true_eq] at h
    rw [List.filter_cons]
    split
    · simp only [ascFrom, Bool.and_eq_true, decide_eq_true_eq]
      exact ⟨⟨by omega, h.1.2⟩, asc_filter (Int.le_refl _) h.2⟩
    · exact asc_filter (by omega) h.2
end Go.Proofs.YtegmennaekipaaaGreat

/-
  Blocks with an array in their middle; lists of objects. For any program.
-/
namespace Go.E
/-- A block: cells ahead, the array's cells, cells behind. -/
def Tri (p : Nat) (E : TypeId) (pre mid post : List Value) : Chunk := [(p, .cells (pre ++ (mid ++ post)).toArray E (0, 0))]
section
variable {p : Nat} {E : TypeId} {pre mid post : List Value}
theorem tri_at {off : Nat} {l : List Value} (h : ((pre ++ (mid ++ post)).drop off).take l.length = l) : PtR [Tri p E pre mid post] p off l :=
  ⟨(pre ++ (mid ++ post)).toArray, E, (0, 0), by simp [Tri], by simpa using h⟩
theorem tri_pre : PtR [Tri p E pre mid post] p 0 pre := tri_at (by simp)
theorem tri_post {k : Nat} (hk : pre.length + mid.length = k) : PtR [Tri p E pre mid post] p k post := tri_at (by
  subst hk
  rw [← List.append_assoc, ← List.length_append, List.drop_left, List.take_length])
theorem cell_up {W w : World} {cs : List Chunk} {c : Chunk} {b off k : Nat} {l : List Value} {v : Value} (hS : Sat W w cs) (i : Nat) (hi : cs[i]? = some c) (h : PtR [c] b off l) (hk : l[k]? = some v) : w.cell? ⟨b, off + k, none⟩ = some v := (h.up i hi).cell hS hk
theorem ptr_up {cs : List Chunk} {c : Chunk} {b off : Nat} {l : List Value} (i : Nat) (hi : cs[i]? = some c) (h : PtR [c] b off l) : PtR cs b off l := h.up i hi
theorem tri_el {α : Type} {enc : α → List Value} {sz k n0 : Nat} {xs : List α} {x : α} (he : ∀ x, (enc x).length = sz) (hx : xs[k]? = some x) (h0 : pre.length = n0 := by rfl) : PtR [Tri p E pre (xs.flatMap enc) post] p (n0 + k * sz) (enc x) := tri_at (by
 subst h0
 have hk : k < xs.length := (List.getElem?_eq_some_iff.1 hx).1
 have h1 := flatMap_at he xs k x hx
 have h2 : (k + 1) * sz ≤ xs.length * sz := Nat.mul_le_mul_right _ hk
 rw [Nat.add_mul, Nat.one_mul] at h2
 rw [List.drop_append, Nat.add_sub_cancel_left, List.drop_eq_nil_of_le (by omega : pre.length ≤ pre.length + k * sz), List.nil_append, he, List.drop_append_of_le_length (by rw [flatMap_len he]; omega), List.take_append_of_le_length (by rw [List.length_drop, flatMap_len he]; omega)]
 exact h1)
end
theorem wr_left {A B vs : List Value} {o : Nat} (h : o + vs.length ≤ A.length) : wr (A ++ B).toArray o vs = (wrL A o vs ++ B).toArray := by
  simp only [wr, wrL]
  rw [List.take_append_of_le_length (by omega), List.drop_append_of_le_length (by omega)]
  simp
theorem wrL_left {A B vs : List Value} {o : Nat} (h : o + vs.length ≤ A.length) : wrL (A ++ B) o vs = wrL A o vs ++ B := by
  simp only [wrL]
  rw [List.take_append_of_le_length (by omega), List.drop_append_of_le_length (by omega)]
  simp
theorem wrL_right {A B vs : List Value} {o : Nat} : wrL (A ++ B) (A.length + o) vs = A ++ wrL B o vs := by
  simp only [wrL]
  rw [List.take_length_add_append, Nat.add_assoc, List.drop_length_add_append]
  simp
theorem wr_right {A B vs : List Value} {o : Nat} : wr (A ++ B).toArray (A.length + o) vs = (A ++ wrL B o vs).toArray := by
  have h : wr (A ++ B).toArray (A.length + o) vs = (wrL (A ++ B) (A.length + o) vs).toArray := rfl
  rw [h, wrL_right]
theorem at_some {α : Type} {xs : List α} {n k : Nat} (h : xs.length = n) (hk : k < n) : ∃ x, xs[k]? = some x := ⟨xs[k]'(by omega), by simp [show k < xs.length by omega]⟩
theorem set_len {α : Type} {xs : List α} {n k : Nat} {x : α} (h : xs.length = n) : (xs.set k x).length = n := by simp [h]
theorem tri_len {α : Type} {enc : α → List Value} {sz n m k : Nat} {xs : List α} {pre : List Value} (he : ∀ x, (enc x).length = sz) (hl : xs.length = n) (h0 : pre.length = m := by rfl) (hk : m + n * sz = k := by rfl) : pre.length + (xs.flatMap enc).length = k := by rw [flatMap_len he, hl, h0, hk]
section
variable {P : Program} {W w : World} {cs : List Chunk} {ρ : Env} {o : Oper} {ops : Array Oper} {rest : List Oper} {n : Nat} {N : Env → World → Prop}
/-- The address of an element of an array. -/
theorem Y_idxA (i : Int) (k : Nat) {t E : TypeId} {x y : Operand} {m sz b off : Nat} (hu : ∀ w, (underlying t).run P w = .ok (.array m E) w) (hsz : ∀ w, (sizeOf E).run P w = .ok sz w)
    (h0 : 0 ≤ i := by omega) (h1 : i < m := by omega) (ho : o.op = .indexAddr t x y := by rfl) (hx : ev ρ x = .pointer (some ⟨b, off, none⟩) := by kernel_rfl) (hy : ev ρ y = .int .i64 i := by kernel_rfl) (hk : i.toNat = k := by first | rfl | omega) : Yields P ρ o (.pointer (some ⟨b, off + k * sz, none⟩)) w := by
  subst hk
  unfold Yields execOp
  rw [ho]
  simp [Instr.indexAt, hx, hy, asIntOf, hu, hsz, Instr.sureAddr, h0, h1, Addr.add]
theorem sIdxA (i : Int) (k : Nat) {t E : TypeId} {x y : Operand} {m sz b off : Nat} (hu : ∀ w, (underlying t).run P w = .ok (.array m E) w) (hsz : ∀ w, (sizeOf E).run P w = .ok sz w)
  (h : OpsE P n ops rest N (put ρ o.dst (.pointer (some ⟨b, off + k * sz, none⟩))) w) (h0 : 0 ≤ i := by omega) (h1 : i < m := by omega)
  (ho : o.op = .indexAddr t x y := by rfl) (hg : o.guard = none := by rfl) (hd : dstOK n o.dst = true := by rfl) (hx : ev ρ x = .pointer (some ⟨b, off, none⟩) := by kernel_rfl) (hy : ev ρ y = I i := by kernel_rfl) (hk : i.toNat = k := by first | rfl | omega) : OpsE P n ops (o :: rest) N ρ w :=
 stepY _ hg hd (Y_idxA i k hu hsz h0 h1 ho hx hy hk) h
/-- A store into the cells ahead of the array. -/
theorem sTpre (hS : Sat W w cs) (i off : Nat) (v : Value) (vs pre' : List Value) {t : TypeId} {x y : Operand} {b k : Nat} {E : TypeId} {pre mid post : List Value} (hsz : ∀ w, (sizeOf t).run P w = .ok k w)
  (h : ∀ w', Sat W w' (cs.set i (Tri b E pre' mid post)) → OpsE P n ops rest N ρ w')
  (ho : o.op = .store t x y := by rfl) (hg : o.guard = none := by rfl) (hd : o.dst = none := by rfl) (hi : cs[i]? = some (Tri b E pre mid post) := by rfl)
  (hx : ev ρ x = .pointer (some ⟨b, off, none⟩) := by kernel_rfl) (hy : ev ρ y = v := by kernel_rfl) (hv : v.cells.toList = vs := by kernel_rfl) (hk : vs.length = k := by kernel_rfl)
  (h1 : vs.all (·.oneCell') = true := by kernel_rfl) (hfit : Nat.ble (off + vs.length) pre.length = true := by kernel_rfl) (hw : wrL pre off vs = pre' := by kernel_rfl) : OpsE P n ops (o :: rest) N ρ w := by
 have hf := Nat.le_of_ble_eq_true hfit
 refine stepStore ho hg hd hsz hx hy hv hk (fun u hu => List.all_eq_true.1 h1 u hu) hS i hi (by simp; omega) _ (wr_left hf) ?_
 intro w' hS'
 rw [hw] at hS'
 exact h w' hS'
/-- A store into an element of the array. -/
theorem sTel {α : Type} {enc : α → List Value} {sz : Nat} {xs : List α} (hS : Sat W w cs) (he : ∀ x, (enc x).length = sz) (j i n0 k : Nat) (x x' : α) (hx : xs[i]? = some x) (v : Value) (vs : List Value) {t : TypeId} {px py : Operand} {b q : Nat} {E : TypeId} {pre post : List Value} (hsz : ∀ w, (sizeOf t).run P w = .ok q w)
  (h : ∀ w', Sat W w' (cs.set j (Tri b E pre ((xs.set i x').flatMap enc) post)) → OpsE P n ops rest N ρ w')
  (ho : o.op = .store t px py := by rfl) (hg : o.guard = none := by rfl) (hd : o.dst = none := by rfl) (hj : cs[j]? = some (Tri b E pre (xs.flatMap enc) post) := by rfl) (h0 : pre.length = n0 := by rfl)
  (hp : ev ρ px = .pointer (some ⟨b, n0 + i * sz + k, none⟩) := by kernel_rfl) (hv : ev ρ py = v := by kernel_rfl) (hvs : v.cells.toList = vs := by kernel_rfl) (hk : vs.length = q := by kernel_rfl) (h1 : vs.all (·.oneCell') = true := by kernel_rfl)
  (hw : wrL (enc x) k vs = enc x' := by kernel_rfl) (hle : Nat.ble (k + vs.length) sz = true := by kernel_rfl) : OpsE P n ops (o :: rest) N ρ w := by
 have hle' := Nat.le_of_ble_eq_true hle
 have hil : i < xs.length := (List.getElem?_eq_some_iff.1 hx).1
 have hms : (i + 1) * sz ≤ xs.length * sz := Nat.mul_le_mul_right _ hil
 rw [Nat.add_mul, Nat.one_mul] at hms
 have hfl := flatMap_len he xs
 refine stepStore ho hg hd hsz hp hv hvs hk (fun u hu => List.all_eq_true.1 h1 u hu) hS j hj (by simp only [List.size_toArray, List.length_append]; omega) _ (by rw [← h0, Nat.add_assoc, wr_right, wrL_left om]) ?_
 intro w' hS'
 rw [wrL_flat he hle' xs i x x' hx hw] at hS'
 exact h w' hS'
/-- A store into the cells behind the array. -/
theorem sTpost {t : TypeId} {x y : Operand} {b k : Nat} {E : TypeId} {pre mid post : List Value} (hS : Sat W w cs) (i d off : Nat) (hi : cs[i]? = some (Tri b E pre mid post)) (v : Value) (vs post' : List Value) (hl : pre.length + mid.length = d) (hsz : ∀ w, (sizeOf t).run P w = .ok k w)
  (h : ∀ w', Sat W w' (cs.set i (Tri b E pre mid post')) → OpsE P n ops rest N ρ w')
  (ho : o.op = .store t x y := by rfl) (hg : o.guard = none := by rfl) (hd : o.dst = none := by rfl)
  (hx : ev ρ x = .pointer (some ⟨b, d + off, none⟩) := by kernel_rfl) (hy : ev ρ y = v := by kernel_rfl) (hv : v.cells.toList = vs := by kernel_rfl) (hk : vs.length = k := by kernel_rfl)
  (h1 : vs.all (·.oneCell') = true := by kernel_rfl) (hfit : Nat.ble (off + vs.length) post.length = true := by kernel_rfl) (hw : wrL post off vs = post' := by kernel_rfl) : OpsE P n ops (o :: rest) N ρ w := by
 have hf := Nat.le_of_ble_eq_true hfit
 refine stepStore ho hg hd hsz hx hy hv hk (fun u hu => List.all_eq_true.1 h1 u hu) hS i hi (by simp only [List.size_toArray, List.length_append]; omega) _ (by rw [← hl, Nat.add_assoc, wr_right, wrL_right, hw]) ?_
 intro w' hS'
 exact h w' hS'
end
/-! ### lists of objects: their blocks, states and pieces -/
def Obs {π σ : Type} (R : π → σ → Chunk → Prop) (ps : List π) (ss : List σ) (cs : List Chunk) : Prop :=
  ps.length = ss.length ∧ cs.length = ss.length ∧ ∀ (i : Nat) p s c, ps[i]? = some p → ss[i]? = some s → cs[i]? = some c → R p s c
theorem Obs.get {π σ : Type} {R : π → σ → Chunk → Prop} {ps : List π} {ss : List σ} {cs : List Chunk} (h : Obs R ps ss cs) {i : Nat} {p : π} (hp : ps[i]? = some p) : ∃ s c, ss[i]? = some s ∧ cs[i]? = some c ∧ R p s c := by
  have hi : i < ps.length := (List.getElem?_eq_some_iff.1 hp).1
  have h1 := h.1; have h2 := h.2.1
  have e1 : ss[i]? = some (ss[i]'(by omega)) := by simp [show i < ss.length by omega]
  have e2 : cs[i]? = some (cs[i]'(by omega)) := by simp [show i < cs.length by omega]
  exact ⟨_, _, e1, e2, h.2.2 i p _ _ hp e1 e2⟩
theorem Obs.set {π σ : Type} {R : π → σ → Chunk → Prop} {ps : List π} {ss : List σ} {cs : List Chunk} (h : Obs R ps ss cs) {i : Nat} {p : π} {s : σ} {c : Chunk} (hp : ps[i]? = some p) (hR : R p s c) : Obs R ps (ss.set i s) (cs.set i c) := by
  refine ⟨by simp [h.1], by simp [h.2.1], fun j q t d hq ht hd => ?_⟩
  by_cases hij : i = j
  · subst hij
    rw [hp] at hq; cases hq
    rw [List.getElem?_set] at ht hd
    simp only [if_true] at ht hd
    split at ht
    · cases ht
      split at hd
      · cases hd; exact hR
      · cases hd
    · cases ht
  · rw [List.getElem?_set_ne hij] at ht hd
    exact h.2.2 j q t d hq ht hd
theorem Obs.set3 {π σ : Type} {R : π → σ → Chunk → Prop} {ps : List π} {ss : List σ} {cs : List Chunk} (h : Obs R ps ss cs) {i : Nat} {p p' : π} {s : σ} {c : Chunk} (_hp : ps[i]? = some p) (hR : R p' s c) : Obs R (ps.set i p') (ss.set i s) (cs.set i c) := by
  refine ⟨by simp [h.1], by simp [h.2.1], fun j q t d hq ht hd => ?_⟩
  by_cases hij : i = j
  · subst hij
    rw [List.getElem?_set] at hq ht hd
    simp only [if_true] at hq ht hd
    split at ht
    · cases ht
      split at hd
      · cases hd
        split at hq
        · cases hq; exact hR
        · cases hq
      · cases hd
    · cases ht
  · rw [List.getElem?_set_ne hij] at hq ht hd
    exact h.2.2 j q t d hq ht hd
theorem getD_some {α : Type} {xs : List α} {k : Nat} {x d : α} (h : xs[k]? = some x) : xs.getD k d = x := by rw [List.getD_eq_getElem?_getD, h]; rfl
theorem Obs.snoc {π σ : Type} {R : π → σ → Chunk → Prop} {ps : List π} {ss : List σ} {cs : List Chunk} (h : Obs R ps ss cs) {p : π} {s : σ} {c : Chunk} (hR : R p s c) : Obs R (ps ++ [p]) (ss ++ [s]) (cs ++ [c]) := by
 have h1 := h.1; have h2 := h.2.1
 refine ⟨by simp [h1], by simp [h2], fun j q t d hq ht hd => ?_⟩
 by_cases hj : j < ss.length
 ·rw [List.getElem?_append_left om] at hq ht hd
  exact h.2.2 j q t d hq ht hd
 ·have hjl : j = ss.length := by
   have := (List.getElem?_eq_some_iff.1 ht).1
   simp at this; omega
  rw [List.getElem?_append_right om] at hq ht hd
  rw [show j - ps.length = 0 by omega] at hq
  rw [show j - ss.length = 0 by omega] at ht
  rw [show j - cs.length = 0 by omega] at hd
  simp at hq ht hd
  subst hq ht hd
  exact hR
theorem Obs.nil {π σ : Type} (R : π → σ → Chunk → Prop) : Obs R [] [] [] := ⟨rfl, rfl, fun i p s c h => by simp at h⟩
theorem set_same {α : Type} {xs : List α} {k : Nat} {x : α} (h : xs[k]? = some x) : xs.set k x = xs := by
  apply List.ext_getElem?
  intro i
  rw [List.getElem?_set]
  split
  · rename_i h1; subst h1; rw [h]; rw [if_pos (List.getElem?_eq_some_iff.1 h).1]
  · rfl
end Go.E
