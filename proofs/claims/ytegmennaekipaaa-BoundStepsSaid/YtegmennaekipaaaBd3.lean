import Derived.Test.YtegmennaekipaaaBd2
namespace Go.Proofs.Ytegmennaekipaaa
open Go Go.E
set_option linter.unusedVariables false
set_option linter.unusedSimpArgs false
set_option linter.unnecessarySimpa false
set_option maxRecDepth 100000
set_option maxHeartbeats 2000000
variable {W w : World} {H : Chunk} {F : List Chunk}
/-! ### what the calls of a board do -/
def inB (B : BS) (i : Int) : Prop := 0 ≤ i ∧ i < ((B.deps.length : Nat) : Int)
instance (B : BS) (i : Int) : Decidable (inB B i) := inferInstanceAs (Decidable (_ ∧ _))
def startB (B : BS) (i : Int) : BS × Int × Int := if inB B i then (if stAt B.st i = 2 then (⟨B.deps, B.st.set i.toNat 3, B.att⟩, B.att.getD i.toNat 0, 0) else (B, 0, 20)) else (B, 0, 16)
def heldC (B : BS) (i a : Int) : Int := if inB B i then (if stAt B.st i = 3 ∧ B.att.getD i.toNat 0 = a then 0 else 20) else 16
def retB (B : BS) (i a : Int) : BS := if heldC B i a = 0 then ⟨B.deps, B.st.set i.toNat 2, B.att.set i.toNat (a + 1)⟩ else B
def condB (s : List Int) (D : List (List Int)) (q : Nat) : Bool := decide (s.getD q 0 = 1) && !openB s (D.getD q [])
def rdyB (s : List Int) (D : List (List Int)) : List Int := ((List.range D.length).filter (condB s D)).map fun (q : Nat) => (q : Int)
def markB (s : List Int) (D : List (List Int)) : List Int := (List.range D.length).map fun q => if condB s D q then 2 else s.getD q 0
def comB (B : BS) (i a : Int) : BS × List Int := if heldC B i a = 0 then (⟨B.deps, markB (B.st.set i.toNat 4) B.deps, B.att⟩, rdyB (B.st.set i.toNat 4) B.deps) else (B, [])
def idxOf (y : Int) : Nat → List Int → List Int
  | _, [] => []
  | k, x :: l => (if x = y then [((k : Nat) : Int)] else []) ++ idxOf y (k + 1) l
structure BWf (B : BS) (K : Int) : Prop where
  ls : B.st.length = B.deps.length
  la : B.att.length = B.deps.length
  n0 : B.deps.length ≤ 4096
  asc : ∀ (k : Nat) d, B.deps[k]? = some d → ascFrom k (-1) d = true
  st : ∀ x ∈ B.st, 1 ≤ x ∧ x ≤ 4
  wait : ∀ (k : Nat) d, B.deps[k]? = some d → (B.st.getD k 0 = 1 ↔ openB B.st d = true)
  att : ∀ x ∈ B.att, 0 ≤ x ∧ x ≤ K
theorem getD_mem {s : List Int} {q : Nat} (h : q < s.length) : s.getD q 0 ∈ s := by simp [List.getD_eq_getElem?_getD, h]
theorem stAt_nat (s : List Int) {i : Int} (h : 0 ≤ i) : stAt s i = s.getD i.toNat 0 := by unfold stAt; rw [if_pos h]
theorem getD_set {s : List Int} {k q : Nat} {y : Int} : (s.set k y).getD q 0 = if k = q ∧ k < s.length then y else s.getD q 0 := by
  rw [List.getD_eq_getElem?_getD, List.getD_eq_getElem?_getD, List.getElem?_set]
  by_cases h : k = q
  · subst h
    by_cases h2 : k < s.length
    · simp [h2]
    · simp [h2]
  · simp [h]
theorem stAt_set {s : List Int} {k : Nat} {y x : Int} : stAt (s.set k y) x = if x = (k : Nat) ∧ k < s.length then y else stAt s x := by
  unfold stAt
  by_cases h : 0 ≤ x
  · rw [if_pos h, if_pos h, getD_set]
    by_cases h2 : x = (k : Nat)
    · subst h2; simp
    · rw [if_neg (by omega), if_neg (by omega)]
  · rw [if_neg h, if_neg h, if_neg (by omega)]
/-- A task that was not committed changes its state to one that is not 'committed': nothing else depends on it. -/
theorem four_same {s : List Int} {k : Nat} {y : Int} (h : s.getD k 0 ≠ 4) (hy : y ≠ 4) (x : Int) : stAt (s.set k y) x ≠ 4 ↔ stAt s x ≠ 4 := by
  rw [stAt_set]
  split
  · rename_i h2
    have h3 : stAt s x = s.getD k 0 := by rw [h2.1, stAt_nat _ (by omega)]; simp
    rw [h3]; exact ⟨fun _ => h, fun _ => hy⟩
  · exact Iff.rfl
theorem pend_same {s t : List Int} {d : List Int} (h : ∀ x ∈ d, (stAt s x ≠ 4 ↔ stAt t x ≠ 4)) : pendOf s d = pendOf t d := by
  unfold pendOf
  congr 2
  apply List.filter_congr
  intro x hx
  exact decide_eq_decide.2 (h x hx)
theorem open_same {s t : List Int} {d : List Int} (h : ∀ x ∈ d, (stAt s x ≠ 4 ↔ stAt t x ≠ 4)) : openB s d = openB t d := by
  unfold openB
  rw [Bool.eq_iff_iff, List.any_eq_true, List.any_eq_true]
  constructor
  · rintro ⟨x, hx, h2⟩; exact ⟨x, hx, by simpa using (h x hx).1 (by simpa using h2)⟩
  · rintro ⟨x, hx, h2⟩; exact ⟨x, hx, by simpa using (h x hx).2 (by simpa using h2)⟩
theorem pend_open {s d : List Int} : pendOf s d = 0 ↔ openB s d = false := by
  unfold pendOf openB
  rw [List.any_eq_false]
  constructor
  · intro h x hx
    have h2 : (d.filter fun x => decide (stAt s x ≠ 4)) = [] := List.eq_nil_of_length_eq_zero (by omega)
    rw [List.filter_eq_nil_iff] at h2
    exact h2 x hx
  · intro h
    rw [List.filter_eq_nil_iff.2 h]; rfl
theorem count_set {s : List Int} {k : Nat} {y : Int} : ∀ (h : k < s.length), ((s.set k y).filter fun x => decide (x = 4)).length + (if s.getD k 0 = 4 then 1 else 0) = (s.filter fun x => decide (x = 4)).length + (if y = 4 then 1 else 0) := by
  induction s generalizing k with
  | nil => intro h; simp at h
  | cons x s ih =>
    intro h
    cases k with
    | zero =>
      simp only [List.set_cons_zero, List.filter_cons, List.getD_cons_zero, decide_eq_true_eq]
      split <;> split <;> simp_all <;> omega
    | succ k =>
      have h2 := ih (k := k) (by simpa using h)
      simp only [List.set_cons_succ, List.filter_cons, List.getD_cons_succ, decide_eq_true_eq]
      by_cases hx : x = 4
      · rw [if_pos hx, if_pos hx]; simp only [List.length_cons]; omega
      · rw [if_neg hx, if_neg hx]; exact h2
theorem entsOf_len {es : List BEnt} {B : BS} (h : es.map BEnt.v = entsOf B) : es.length = B.deps.length := by
  have := congrArg List.length h
  simpa [entsOf] using this
theorem entAt {es : List BEnt} {B : BS} {i : Nat} {x : BEnt} (h : es.map BEnt.v = entsOf B) (hx : es[i]? = some x) : i < B.deps.length ∧ x.state = B.st.getD i 0 ∧ x.attempt = B.att.getD i 0 ∧ x.pending = pendOf B.st (B.deps.getD i []) ∧ x.next.l = nextOf 0 B.deps i := by
  obtain ⟨h1, h2⟩ := ent_at h hx
  have e := congrArg BEntV.state h2; have e2 := congrArg BEntV.attempt h2; have e3 := congrArg BEntV.pending h2; have e4 := congrArg BEntV.next h2
  exact ⟨h1, e, e2, e3, e4⟩
/-- One task's state and attempt change, from and to states that are not 'committed'. -/
theorem ents_state {es : List BEnt} {B : BS} {i : Nat} {x x' : BEnt} {y z : Int} (hl : B.st.length = B.deps.length) (hl2 : B.att.length = B.deps.length) (h : es.map BEnt.v = entsOf B) (hx : es[i]? = some x) (h0 : x.state ≠ 4) (hy : y ≠ 4)
    (h1 : x'.state = y) (h2 : x'.attempt = z) (h3 : x'.pending = x.pending) (h4 : x'.next = x.next) : (es.set i x').map BEnt.v = entsOf ⟨B.deps, B.st.set i y, B.att.set i z⟩ ∧ doneOf ⟨B.deps, B.st.set i y, B.att.set i z⟩ = doneOf B := by
  obtain ⟨hi, e1, e2, e3, e4⟩ := entAt h hx
  have f4 : ∀ x, stAt (B.st.set i y) x ≠ 4 ↔ stAt B.st x ≠ 4 := four_same (by rw [← e1]; exact h0) hy
  constructor
  · unfold entsOf
    refine ents_set h (fun q hq hne => ?_) (fun _ => ?_)
    · simp only [entV, getD_set, pend_same (fun x _ => f4 x)]
      rw [if_neg (by omega), if_neg (by omega)]
    · simp only [BEnt.v, entV, getD_set, pend_same (fun x _ => f4 x), h1, h2, h3, h4, e3, e4]
      rw [if_pos ⟨trivial, by omega⟩, if_pos ⟨trivial, by omega⟩]
  · unfold doneOf
    have := count_set (s := B.st) (k := i) (y := y) (by omega)
    rw [if_neg (by rw [← e1]; exact h0), if_neg hy] at this
    simp only; omega
theorem set_self {s : List Int} {i : Nat} : s.set i (s.getD i 0) = s := by
  apply List.ext_getElem?
  intro q
  rw [List.getElem?_set]
  by_cases h : i = q
  · subst h
    by_cases h2 : i < s.length
    · simp [h2, List.getD_eq_getElem?_getD]
    · simp [h2]
  · rw [if_neg h]
theorem ok_set {es : List BEnt} {G : Chunk} {i : Nat} {x x' : BEnt} (h : ∀ z ∈ es, BEnt.Ok [G] z) (hx : es[i]? = some x) (hn : x'.next = x.next) : ∀ z ∈ es.set i x', BEnt.Ok [G] z := by
  intro z hz
  rcases List.mem_or_eq_of_mem_set hz with h1 | rfl
  · exact h z h1
  · exact ⟨by rw [hn]; exact (h x (List.mem_of_getElem? hx)).next⟩
/-! ### the invariant stays -/
theorem BWf.mono {B : BS} {K L : Int} (h : BWf B K) (hk : K ≤ L) : BWf B L := ⟨h.ls, h.la, h.n0, h.asc, h.st, h.wait, fun x hx => by have := h.att x hx; omega⟩
theorem wf_state {B : BS} {K L : Int} {i : Nat} {y z : Int} (h : BWf B K) (hi : i < B.deps.length) (h0 : B.st.getD i 0 ≠ 4) (h1 : B.st.getD i 0 ≠ 1) (hy : 2 ≤ y ∧ y ≤ 3) (hz : 0 ≤ z ∧ z ≤ L) (hk : K ≤ L) : BWf ⟨B.deps, B.st.set i y, B.att.set i z⟩ L := by
  refine ⟨by simp [h.ls], by simp [h.la], h.n0, h.asc, fun x hx => ?_, fun k d hd => ?_, fun x hx => ?_⟩
  · rcases List.mem_or_eq_of_mem_set hx with h2 | rfl
    · exact h.st x h2
    · omega
  · have hw := h.wait k d hd
    simp only at hd ⊢
    rw [open_same (fun x _ => four_same h0 (by omega : y ≠ 4) x), ← hw, getD_set]
    split
    · rename_i h2; obtain ⟨rfl, _⟩ := h2; omega
    · exact Iff.rfl
  · rcases List.mem_or_eq_of_mem_set hx with h2 | rfl
    · have := h.att x h2; omega
    · omega
theorem start_wf {B : BS} {K : Int} {i : Int} (h : BWf B K) : BWf (startB B i).1 K := by
  unfold startB
  split
  · rename_i hi
    split
    · rename_i h2
      rw [stAt_nat _ hi.1] at h2
      have hi2 : i.toNat < B.deps.length := by have h8 := hi.1; have h9 := hi.2; omega
      have h3 := wf_state (i := i.toNat) (y := 3) (z := B.att.getD i.toNat 0) h hi2 (by omega) (by omega) (by omega) (L := K) (h.att _ (getD_mem (by rw [h.la]; exact hi2))) (Int.le_refl _)
      rw [set_self] at h3; exact h3
    · exact h
  · exact h
theorem heldC_zero {B : BS} {i a : Int} (h : heldC B i a = 0) : inB B i ∧ stAt B.st i = 3 ∧ B.att.getD i.toNat 0 = a := by
  unfold heldC at h
  split at h
  · split at h
    · rename_i h1 h2; exact ⟨h1, h2⟩
    · omega
  · omega
theorem ret_wf {B : BS} {K : Int} {i a : Int} (h : BWf B K) : BWf (retB B i a) (K + 1) := by
  unfold retB
  split
  · rename_i h0
    obtain ⟨hi, h1, h2⟩ := heldC_zero h0
    rw [stAt_nat _ hi.1] at h1
    have hi2 : i.toNat < B.deps.length := by have h8 := hi.1; have h9 := hi.2; omega
    have h3 := h.att (B.att.getD i.toNat 0) (getD_mem (by rw [h.la]; exact hi2))
    exact wf_state h hi2 (by omega) (by omega) (by omega) (by omega) (by omega)
  · exact h.mono (by omega)
theorem getD_range {n q : Nat} {f : Nat → Int} (h : q < n) : ((List.range n).map f).getD q 0 = f q := by rw [List.getD_eq_getElem?_getD, map_range_at h]; rfl
theorem mark_four {s : List Int} {D : List (List Int)} (hl : s.length = D.length) (x : Int) : stAt (markB s D) x ≠ 4 ↔ stAt s x ≠ 4 := by
  unfold stAt
  by_cases h : 0 ≤ x
  · rw [if_pos h, if_pos h]
    by_cases h2 : x.toNat < D.length
    · unfold markB
      rw [getD_range h2]
      split
      · rename_i h3
        simp only [condB, Bool.and_eq_true, decide_eq_true_eq] at h3
        rw [h3.1]; simp
      · exact Iff.rfl
    · have e1 : (markB s D).getD x.toNat 0 = 0 := by rw [List.getD_eq_getElem?_getD, List.getElem?_eq_none (by simp [markB]; omega)]; rfl
      have e2 : s.getD x.toNat 0 = 0 := by rw [List.getD_eq_getElem?_getD, List.getElem?_eq_none (by omega)]; rfl
      rw [e1, e2]
  · rw [if_neg h, if_neg h]
theorem com_wf {B : BS} {K : Int} {i a : Int} (h : BWf B K) : BWf (comB B i a).1 K := by
  unfold comB
  split
  · rename_i h0
    obtain ⟨hi, h1, h2⟩ := heldC_zero h0
    rw [stAt_nat _ hi.1] at h1
    have hi2 : i.toNat < B.deps.length := by have h8 := hi.1; have h9 := hi.2; omega
    have hls : (B.st.set i.toNat 4).length = B.deps.length := by rw [List.length_set]; exact h.ls
    refine ⟨by simp [markB], h.la, h.n0, h.asc, fun x hx => ?_, fun k d hd => ?_, h.att⟩
    · simp only [markB, List.mem_map, List.mem_range] at hx
      obtain ⟨q, hq, rfl⟩ := hx
      split
      · omega
      · rw [getD_set]
        split
        · omega
        · exact h.st _ (getD_mem (by rw [h.ls]; exact hq))
    · have hk : k < B.deps.length := (List.getElem?_eq_some_iff.1 hd).1
      simp only
      rw [open_same (fun x _ => mark_four hls x)]
      unfold markB
      rw [getD_range hk]
      have hdk : B.deps.getD k [] = d := by rw [List.getD_eq_getElem?_getD, hd]; rfl
      have hw := h.wait k d hd
      have hmono : openB (B.st.set i.toNat 4) d = true → openB B.st d = true := by
        unfold openB
        rw [List.any_eq_true, List.any_eq_true]
        rintro ⟨x, hx, h3⟩
        refine ⟨x, hx, ?_⟩
        rw [decide_eq_true_eq, stAt_set] at h3
        rw [decide_eq_true_eq]
        split at h3
        · omega
        · exact h3
      by_cases hc : condB (B.st.set i.toNat 4) B.deps k = true
      · rw [if_pos hc]
        simp only [condB, Bool.and_eq_true, Bool.not_eq_true', hdk] at hc
        rw [hc.2]; simp
      · rw [if_neg hc]
        constructor
        · intro h3
          have hd1 : decide ((B.st.set i.toNat 4).getD k 0 = 1) = true := decide_eq_true h3
          simp only [condB, hd1, hdk, Bool.true_and, Bool.not_eq_true', Bool.not_eq_false] at hc
          exact hc
        · intro h3
          have h4 := hw.2 (hmono h3)
          rw [getD_set, if_neg ?_]
          · exact h4
          · rintro ⟨rfl, _⟩; omega
  · exact h
theorem new_wf {l : List Task} (h : validC l = 0) : BWf (newB l) 0 := by
  obtain ⟨h1, h2, h3⟩ := validC_zero h
  refine ⟨by simp [newB], by simp [newB], by simp [newB]; omega, fun k d hd => ?_, fun x hx => ?_, fun k d hd => ?_, fun x hx => ?_⟩
  · simp only [newB, List.getElem?_map, Option.map_eq_some_iff] at hd
    obtain ⟨t, ht, rfl⟩ := hd
    exact taskOK_asc (tasksOK_at h3 ht)
  · simp only [newB, List.mem_map] at hx
    obtain ⟨t, _, rfl⟩ := hx
    simp only [st0]; split <;> omega
  · simp only [newB, List.getElem?_map, Option.map_eq_some_iff] at hd
    obtain ⟨t, ht, rfl⟩ := hd
    have hk : k < l.length := (List.getElem?_eq_some_iff.1 ht).1
    have e1 : (newB l).st.getD k 0 = st0 t.deps.l := by simp [newB, List.getD_eq_getElem?_getD, ht]
    have e3 : ∀ x, stAt (newB l).st x ≠ 4 := by
      intro x
      unfold stAt
      split
      · simp only [newB]
        rw [List.getD_eq_getElem?_getD, List.getElem?_map]
        cases l[x.toNat]? with
        | none => simp
        | some t => simp [st0]; split <;> omega
      · omega
    rw [e1]
    unfold openB st0
    cases hdl : t.deps.l with
    | nil => simp
    | cons y ys => simp [e3 y]
  · simp only [newB, List.mem_map] at hx
    obtain ⟨t, _, rfl⟩ := hx
    omega
end Go.Proofs.Ytegmennaekipaaa
