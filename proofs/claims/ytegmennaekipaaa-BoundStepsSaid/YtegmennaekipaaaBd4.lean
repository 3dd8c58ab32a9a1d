import Derived.Test.YtegmennaekipaaaBd3
namespace Go.Proofs.Ytegmennaekipaaa
open Go Go.E
set_option linter.unusedVariables false
set_option linter.unusedSimpArgs false
set_option linter.unnecessarySimpa false
set_option maxRecDepth 100000
set_option maxHeartbeats 2000000
variable {W w : World} {H : Chunk} {F : List Chunk}
/-! ### Ready, Commit -/
theorem idx_app (y : Int) (k : Nat) (l : List Int) (x : Int) : idxOf y k (l ++ [x]) = idxOf y k l ++ (if x = y then [((k + l.length : Nat) : Int)] else []) := by
  induction l generalizing k with
  | nil => simp [idxOf]
  | cons z l ih => simp only [List.cons_append, idxOf, ih, List.append_assoc, List.length_cons]; congr 4; simp; omega
theorem take_getD {s : List Int} {i : Nat} (h : i < s.length) : s.take (i + 1) = s.take i ++ [s.getD i 0] := by
  rw [take_succ_at (x := s.getD i 0)]; simp [List.getD_eq_getElem?_getD, h]
theorem idx_y {y : Int} {s zs : List Int} {i : Nat} (hz : zs = idxOf y 0 (s.take i)) (hi : i < s.length) (h : s.getD i 0 = y) : zs ++ [((i : Nat) : Int)] = idxOf y 0 (s.take (i + 1)) := by
  rw [take_getD hi, idx_app, if_pos h, ← hz, List.length_take, Nat.min_eq_left (by omega), Nat.zero_add]
theorem idx_n {y : Int} {s zs : List Int} {i : Nat} (hz : zs = idxOf y 0 (s.take i)) (hi : i < s.length) (h : s.getD i 0 ≠ y) : zs = idxOf y 0 (s.take (i + 1)) := by
  rw [take_getD hi, idx_app, if_neg h, ← hz, List.append_nil]
theorem idx_len {y : Int} : ∀ (k : Nat) (s : List Int), (idxOf y k s).length = (s.filter fun x => decide (x = y)).length
  | _, [] => rfl
  | k, x :: s => by
    simp only [idxOf, List.length_append, idx_len (k + 1) s, List.filter_cons, decide_eq_true_eq]
    split <;> simp <;> omega
/-- The entries while task i is committed: those in 'nx' have been seen to. -/
def entC (B : BS) (s nx : List Int) (q : Nat) : BEntV :=
  if (q : Int) ∈ nx then ⟨if pendOf s (B.deps.getD q []) = 0 then 2 else s.getD q 0, B.att.getD q 0, pendOf s (B.deps.getD q []), nextOf 0 B.deps q⟩ else ⟨s.getD q 0, B.att.getD q 0, pendOf B.st (B.deps.getD q []), nextOf 0 B.deps q⟩
theorem nx_mem {k : Nat} {i z : Int} : ∀ {D : List (List Int)}, z ∈ nextOf k D i ↔ ∃ q : Nat, z = (k + q : Nat) ∧ q < D.length ∧ i ∈ D.getD q []
  | [] => by simp [nextOf]
  | d :: D => by
    simp only [nextOf, List.mem_append, nx_mem (k := k + 1) (D := D)]
    constructor
    · rintro (h | ⟨q, rfl, h1, h2⟩)
      · split at h
        · rename_i h2; simp at h; exact ⟨0, by simp [h], by simp, by simpa using h2⟩
        · cases h
      · exact ⟨q + 1, by omega, by simp; omega, by simpa using h2⟩
    · rintro ⟨q, rfl, h1, h2⟩
      cases q with
      | zero => left; simp at h2; rw [if_pos h2]; simp
      | succ q => right; exact ⟨q, by omega, by simpa using h1, by simpa using h2⟩
theorem nx_asc {i : Int} : ∀ {D : List (List Int)} {k : Nat} {a : Int}, a < k → ascFrom ((k + D.length : Nat) : Int) a (nextOf k D i) = true
  | [], _, _, _ => rfl
  | d :: D, k, a, h => by
    simp only [nextOf]
    split
    · simp only [List.cons_append, List.nil_append, ascFrom, Bool.and_eq_true, decide_eq_true_eq, List.length_cons]
      refine ⟨⟨h, by omega⟩, ?_⟩
      have := nx_asc (i := i) (D := D) (k := k + 1) (a := k) (by omega)
      rw [show k + (D.length + 1) = k + 1 + D.length by omega]; exact this
    · rw [List.nil_append, List.length_cons, show k + (D.length + 1) = k + 1 + D.length by omega]; exact nx_asc (by omega)
theorem asc_notin {i a x : Int} {l : List Int} {j : Nat} (h : ascFrom i a l = true) (hx : l[j]? = some x) : x ∉ l.take j := by
  intro hin
  have h5 : ascFrom i a (l.take (j + 1)) = true := by rw [← List.take_append_drop (j + 1) l] at h; exact asc_pre h
  rw [asc_take hx, Bool.and_eq_true] at h5
  have h6 : ∀ (l : List Int) (a : Int), ascFrom i a l = true → ∀ y ∈ l, y ≤ lastD a l := by
    intro l
    induction l with
    | nil => intro _ _ y hy; cases hy
    | cons z l ih =>
      intro a ha y hy
      simp only [ascFrom, Bool.and_eq_true, decide_eq_true_eq] at ha
      rcases List.mem_cons.1 hy with rfl | hy
      · exact asc_last ha.2
      · exact ih z ha.2 y hy
  have h7 := h6 _ _ h5.1 x hin
  have h8 := h5.2
  simp at h8
  omega
theorem pend_cons (s : List Int) (x : Int) (l : List Int) : pendOf s (x :: l) = (if stAt s x ≠ 4 then 1 else 0) + pendOf s l := by
  unfold pendOf
  rw [List.filter_cons]
  by_cases h : stAt s x ≠ 4
  · rw [if_pos (by simpa using h), if_pos h]; simp; omega
  · rw [if_neg (by simpa using h), if_neg h]; simp
theorem pend_dec {s : List Int} {i : Nat} {b : Int} (h3 : s.getD i 0 ≠ 4) (hi : i < s.length) : ∀ {d : List Int} {a : Int}, ascFrom b a d = true → pendOf (s.set i 4) d + (if ((i : Nat) : Int) ∈ d then 1 else 0) = pendOf s d
  | [], _, _ => by simp [pendOf]
  | x :: d, a, h => by
    simp only [ascFrom, Bool.and_eq_true, decide_eq_true_eq] at h
    have ih := pend_dec h3 hi h.2
    have hm := asc_mem h.2
    by_cases e : x = (i : Nat)
    · have hn : ((i : Nat) : Int) ∉ d := fun hin => by have := hm _ hin; omega
      rw [if_neg hn] at ih
      have h4 : stAt s x ≠ 4 := by rw [e, stAt_nat _ (by omega)]; simpa using h3
      have hx4 : stAt (s.set i 4) x = 4 := by rw [stAt_set, if_pos ⟨e, hi⟩]
      rw [pend_cons, pend_cons, hx4, if_pos h4, if_neg (by decide), if_pos (by rw [e]; exact List.mem_cons_self ..)]
      omega
    · have hxs : stAt (s.set i 4) x = stAt s x := by rw [stAt_set, if_neg (fun h => e h.1)]
      rw [pend_cons, pend_cons, hxs]
      generalize (if stAt s x ≠ 4 then (1 : Int) else 0) = c
      by_cases h5 : ((i : Nat) : Int) ∈ d
      · rw [if_pos (List.mem_cons_of_mem _ h5)]; rw [if_pos h5] at ih; omega
      · rw [if_neg (by simp only [List.mem_cons, not_or]; exact ⟨fun h => e h.symm, h5⟩)]; rw [if_neg h5] at ih; omega
theorem com_step {es : List BEnt} {B : BS} {K : Int} {i j : Nat} {z : Int} {y y' : BEnt} (hW : BWf B K) (hi : i < B.deps.length) (h3 : B.st.getD i 0 = 3)
    (h : es.map BEnt.v = (List.range B.deps.length).map (entC B (B.st.set i 4) ((nextOf 0 B.deps i).take j))) (hz : (nextOf 0 B.deps i)[j]? = some z) (hy : es[z.toNat]? = some y)
    (h1 : y'.pending = y.pending - 1) (h2 : y'.attempt = y.attempt) (h4 : y'.next = y.next) (h5 : y'.state = if y.pending - 1 = 0 then 2 else y.state) :
    (es.set z.toNat y').map BEnt.v = (List.range B.deps.length).map (entC B (B.st.set i 4) ((nextOf 0 B.deps i).take (j + 1))) ∧ (pendOf (B.st.set i 4) (B.deps.getD z.toNat []) = y.pending - 1) := by
  obtain ⟨q, hzq, hq, hiq⟩ := nx_mem.1 (List.mem_of_getElem? hz)
  have hzn : z.toNat = q := by omega
  have hzz : ((q : Nat) : Int) = z := by omega
  have hno : z ∉ (nextOf 0 B.deps i).take j := asc_notin (nx_asc (a := -1) (by omega)) hz
  have h0 := (ent_at h hy).2
  rw [hzn] at h0 ⊢
  simp only [entC, hzz, if_neg hno] at h0
  have e1 := congrArg BEntV.state h0; have e2 := congrArg BEntV.attempt h0; have e3 := congrArg BEntV.pending h0; have e4 := congrArg BEntV.next h0
  simp only [BEnt.v] at e1 e2 e3 e4
  have hd : B.deps[q]? = some (B.deps.getD q []) := by simp [List.getD_eq_getElem?_getD, hq]
  have hp := pend_dec (s := B.st) (i := i) (by omega) (by rw [hW.ls]; exact hi) (hW.asc q _ hd)
  rw [if_pos hiq] at hp
  have hp2 : pendOf (B.st.set i 4) (B.deps.getD q []) = y.pending - 1 := by omega
  refine ⟨ents_set h (fun r hr hne => ?_) (fun _ => ?_), hp2⟩
  · simp only [entC, take_succ_at hz, List.mem_append, List.mem_singleton]
    have : ¬ ((r : Nat) : Int) = z := by omega
    simp only [this, or_false]
  · simp only [entC, take_succ_at hz, List.mem_append, List.mem_singleton, hzz, or_true, if_true, BEnt.v, h1, h2, h4, h5, hp2, e1, e2, e4]
/-- A task waits for i exactly if it is listed there; and it is ready then exactly if it waited and now waits for none. -/
theorem cond_iff {B : BS} {K : Int} {i q : Nat} (hW : BWf B K) (hi : i < B.deps.length) (h3 : B.st.getD i 0 = 3) (hq : q < B.deps.length) :
    condB (B.st.set i 4) B.deps q = true ↔ (((q : Nat) : Int) ∈ nextOf 0 B.deps i ∧ pendOf (B.st.set i 4) (B.deps.getD q []) = 0) := by
  have hd : B.deps[q]? = some (B.deps.getD q []) := by simp [List.getD_eq_getElem?_getD, hq]
  have hls := hW.ls
  have hmem : ((q : Nat) : Int) ∈ nextOf 0 B.deps i ↔ ((i : Nat) : Int) ∈ B.deps.getD q [] := by
    rw [nx_mem]
    constructor
    · rintro ⟨r, hr, _, h⟩; obtain rfl : q = r := by omega
      exact h
    · intro h; exact ⟨q, by omega, hq, h⟩
  have hw := hW.wait q _ hd
  simp only [condB, Bool.and_eq_true, decide_eq_true_eq, Bool.not_eq_true', hmem]
  rw [pend_open]
  constructor
  · rintro ⟨h1, h2⟩
    refine ⟨?_, h2⟩
    by_cases hin : ((i : Nat) : Int) ∈ B.deps.getD q []
    · exact hin
    · exfalso
      have hne : i ≠ q := by rintro rfl; rw [getD_set, if_pos ⟨rfl, by omega⟩] at h1; omega
      rw [getD_set, if_neg (fun h => hne h.1)] at h1
      have h4 := hw.1 h1
      have he : ∀ x ∈ B.deps.getD q [], (stAt B.st x ≠ 4 ↔ stAt (B.st.set i 4) x ≠ 4) := by
        intro x hx
        rw [stAt_set, if_neg]
        rintro ⟨rfl, _⟩; exact hin hx
      rw [open_same he] at h4
      rw [h2] at h4; cases h4
  · rintro ⟨h1, h2⟩
    refine ⟨?_, h2⟩
    have hlt := asc_mem (hW.asc q _ hd) _ h1
    rw [getD_set, if_neg (fun h => by omega)]
    refine hw.2 ?_
    unfold openB
    rw [List.any_eq_true]
    exact ⟨_, h1, by rw [decide_eq_true_eq, stAt_nat _ (by omega)]; simp only [Int.toNat_natCast]; omega⟩
theorem com_ents {es : List BEnt} {B : BS} {K : Int} {i : Nat} (hW : BWf B K) (hi : i < B.deps.length) (h3 : B.st.getD i 0 = 3)
    (h : es.map BEnt.v = (List.range B.deps.length).map (entC B (B.st.set i 4) (nextOf 0 B.deps i))) : es.map BEnt.v = entsOf ⟨B.deps, markB (B.st.set i 4) B.deps, B.att⟩ := by
  rw [h]
  unfold entsOf
  apply map_range
  intro q hq
  have hc := cond_iff hW hi h3 hq
  have hls : (B.st.set i 4).length = B.deps.length := by rw [List.length_set]; exact hW.ls
  have hd : B.deps[q]? = some (B.deps.getD q []) := by simp [List.getD_eq_getElem?_getD, hq]
  have hpm : pendOf (markB (B.st.set i 4) B.deps) (B.deps.getD q []) = pendOf (B.st.set i 4) (B.deps.getD q []) := pend_same (fun x _ => mark_four hls x)
  have hmk : (markB (B.st.set i 4) B.deps).getD q 0 = if condB (B.st.set i 4) B.deps q then 2 else (B.st.set i 4).getD q 0 := getD_range hq
  simp only [entV, hpm, hmk]
  by_cases hin : ((q : Nat) : Int) ∈ nextOf 0 B.deps i
  · rw [entC, if_pos hin]
    by_cases hp : pendOf (B.st.set i 4) (B.deps.getD q []) = 0
    · rw [if_pos hp, if_pos (hc.2 ⟨hin, hp⟩)]
    · rw [if_neg hp, if_neg (fun h => hp (hc.1 h).2)]
  · rw [entC, if_neg hin, if_neg (fun h => hin (hc.1 h).1)]
    have hin2 : ((i : Nat) : Int) ∉ B.deps.getD q [] := fun h => hin (nx_mem.2 ⟨q, by omega, hq, h⟩)
    have hp := pend_dec (s := B.st) (i := i) (by omega) (by rw [hW.ls]; exact hi) (hW.asc q _ hd)
    rw [if_neg hin2, Int.add_zero] at hp
    rw [hp]
theorem nextOf_range (i : Int) : ∀ (k : Nat) (D : List (List Int)), nextOf k D i = ((List.range D.length).filter fun q => decide (i ∈ D.getD q [])).map fun (q : Nat) => ((k + q : Nat) : Int)
  | _, [] => rfl
  | k, d :: D => by
    have e : ((List.range D.length).filter ((fun q => decide (i ∈ (d :: D).getD q [])) ∘ Nat.succ)) = (List.range D.length).filter fun q => decide (i ∈ D.getD q []) := rfl
    rw [nextOf, nextOf_range i (k + 1) D, List.length_cons, List.range_succ_eq_map, List.filter_cons, List.filter_map, e]
    have e2 : ∀ l : List Nat, (l.map Nat.succ).map (fun q : Nat => ((k + q : Nat) : Int)) = l.map fun (q : Nat) => ((k + 1 + q : Nat) : Int) := by
      intro l
      rw [List.map_map]
      apply List.map_congr_left
      intro q _
      simp only [Function.comp]; omega
    by_cases h : i ∈ d
    · rw [if_pos h, if_pos (by simpa using h), List.map_cons, e2]; rfl
    · rw [if_neg h, if_neg (by simpa using h), e2]; rfl
theorem com_rdy {B : BS} {K : Int} {i : Nat} (hW : BWf B K) (hi : i < B.deps.length) (h3 : B.st.getD i 0 = 3) :
    (nextOf 0 B.deps i).filter (fun z => decide (pendOf (B.st.set i 4) (B.deps.getD z.toNat []) = 0)) = rdyB (B.st.set i 4) B.deps := by
  rw [nextOf_range, List.filter_map]
  unfold rdyB
  simp only [Nat.zero_add]
  rw [List.filter_filter]
  congr 1
  apply List.filter_congr
  intro q hq
  have hc := cond_iff hW hi h3 (List.mem_range.1 hq)
  rw [Bool.eq_iff_iff, hc]
  simp only [Function.comp, Bool.and_eq_true, decide_eq_true_eq, Int.toNat_natCast]
  have hmem : ((q : Nat) : Int) ∈ nextOf 0 B.deps i ↔ ((i : Nat) : Int) ∈ B.deps.getD q [] := by
    rw [nx_mem]
    constructor
    · rintro ⟨r, hr, _, h⟩; obtain rfl : q = r := by omega
      exact h
    · intro h; exact ⟨q, by omega, List.mem_range.1 hq, h⟩
  rw [hmem]
  constructor
  · rintro ⟨h1, h2⟩; exact ⟨h2, h1⟩
  · rintro ⟨h1, h2⟩; exact ⟨h2, h1⟩
theorem com_done {B : BS} {K : Int} {i : Nat} (hW : BWf B K) (hi : i < B.deps.length) (h3 : B.st.getD i 0 = 3) : doneOf ⟨B.deps, markB (B.st.set i 4) B.deps, B.att⟩ = doneOf B + 1 := by
  unfold doneOf
  have hls : (B.st.set i 4).length = B.deps.length := by rw [List.length_set]; exact hW.ls
  have h1 : ((markB (B.st.set i 4) B.deps).filter fun x => decide (x = 4)).length = ((B.st.set i 4).filter fun x => decide (x = 4)).length := by
    have e : B.st.set i 4 = (List.range B.deps.length).map fun q => (B.st.set i 4).getD q 0 := by
      apply List.ext_getElem?
      intro q
      by_cases hq : q < B.deps.length
      · rw [map_range_at hq, List.getD_eq_getElem?_getD]
        have : q < (B.st.set i 4).length := by omega
        simp only [List.getElem?_eq_getElem this, Option.getD_some]
      · rw [List.getElem?_eq_none (by omega), List.getElem?_eq_none (by simp; omega)]
    have e2 : markB (B.st.set i 4) B.deps = (List.range B.deps.length).map fun q => if condB (B.st.set i 4) B.deps q then 2 else (B.st.set i 4).getD q 0 := rfl
    generalize hs : B.st.set i 4 = s at *
    rw [e2]
    conv => rhs; rw [e]
    rw [List.filter_map, List.filter_map, List.length_map, List.length_map]
    congr 1
    apply List.filter_congr
    intro q _
    simp only [Function.comp]
    by_cases hc : condB s B.deps q = true
    · have hc2 := hc
      simp only [condB, Bool.and_eq_true, decide_eq_true_eq] at hc2
      simp only [hc, if_true, hc2.1]; rfl
    · simp only [hc, if_false]; rfl
  rw [h1]
  have h2 := count_set (s := B.st) (k := i) (y := 4) (by rw [hW.ls]; exact hi)
  rw [if_neg (by omega), if_pos rfl] at h2
  omega
theorem asc_sorted {i a : Int} {l : List Int} (h : ascFrom i a l = true) : ∀ (q : Nat) (u v : Int), l[q]? = some u → l[q + 1]? = some v → u ≤ v := by
  induction l generalizing a with
  | nil => intro q u v h1; simp at h1
  | cons x l ih =>
    simp only [ascFrom, Bool.and_eq_true, decide_eq_true_eq] at h
    intro q u v h1 h2
    cases q with
    | zero =>
      simp at h1; subst h1
      have := asc_mem h.2 v (List.mem_of_getElem? (by simpa using h2)); omega
    | succ q => exact ih h.2 q u v (by simpa using h1) (by simpa using h2)
theorem asc_filter {i : Int} {p : Int → Bool} : ∀ {l : List Int} {a b : Int}, b ≤ a → ascFrom i a l = true → ascFrom i b (l.filter p) = true
  | [], _, _, _, _ => rfl
  | x :: l, a, b, hab, h => by
    simp only [ascFrom, Bool.and_eq_true, decide_eq_true_eq] at h
    rw [List.filter_cons]
    split
    · simp only [ascFrom, Bool.and_eq_true, decide_eq_true_eq]
      exact ⟨⟨by omega, h.1.2⟩, asc_filter (Int.le_refl _) h.2⟩
    · exact asc_filter (by omega) h.2
end Go.Proofs.Ytegmennaekipaaa
