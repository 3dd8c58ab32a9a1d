import Derived.Test.YtimkhljglpookaaL25B
namespace Go.Proofs.Ytimkhljglpookaa
open Go Go.E
set_option linter.unusedVariables false
set_option linter.unusedSimpArgs false
set_option linter.unnecessarySimpa false
set_option maxRecDepth 100000
set_option maxHeartbeats 2000000
variable {W w : World} {H : Chunk} {F : List Chunk}
/-! ### a board is played to its end -/
theorem idx_mem {y z : Int} : ∀ {s : List Int} {k : Nat}, z ∈ idxOf y k s → ∃ q : Nat, z = ((k + q : Nat) : Int) ∧ q < s.length ∧ s.getD q 0 = y
  | [], _, h => by cases h
  | x :: s, k, h => by
    simp only [idxOf, List.mem_append] at h
    rcases h with h | h
    · split at h
      · rename_i e; simp at h; exact ⟨0, by simp [h], by simp, by simpa using e⟩
      · cases h
    · obtain ⟨q, h1, h2, h3⟩ := idx_mem h
      exact ⟨q + 1, by omega, by simp; omega, by simpa using h3⟩
theorem idx_at {B : BS} {K z : Int} (hW : BWf B K) (h : z ∈ idxOf 2 0 B.st) : inB B z ∧ stAt B.st z = 2 := by
  obtain ⟨q, h1, h2, h3⟩ := idx_mem h
  have hl := hW.ls
  have e : z.toNat = q := by omega
  refine ⟨⟨by omega, by omega⟩, ?_⟩
  rw [stAt_nat _ (by omega), e, h3]
theorem idx_in {y : Int} : ∀ {s : List Int} {k q : Nat}, q < s.length → s.getD q 0 = y → ((k + q : Nat) : Int) ∈ idxOf y k s
  | [], _, _, h, _ => by simp at h
  | x :: s, k, 0, _, h => by
    simp only [idxOf, List.mem_append]; left
    rw [if_pos (by simpa using h)]; simp
  | x :: s, k, q + 1, h, h2 => by
    simp only [idxOf, List.mem_append]; right
    have := idx_in (y := y) (s := s) (k := k + 1) (q := q) (by simpa using h) (by simpa using h2)
    rw [show k + (q + 1) = k + 1 + q by omega]; exact this
theorem filter_all {s : List Int} (h : (s.filter fun x => decide (x = 4)).length = s.length) : ∀ x ∈ s, x = 4 := by
  induction s with
  | nil => intro x hx; cases hx
  | cons y s ih =>
    have h1 := List.length_filter_le (fun x : Int => decide (x = 4)) s
    rw [List.filter_cons] at h
    split at h
    · rename_i h2
      intro x hx
      rcases List.mem_cons.1 hx with rfl | hx
      · simpa using h2
      · exact ih (by simpa using h) x hx
    · rw [List.length_cons] at h; omega
/-- While not all tasks are committed and none is held, one is ready. -/
theorem progress {B : BS} {K : Int} (hW : BWf B K) (h3 : ∀ x ∈ B.st, x ≠ 3) (hd : doneOf B < ((B.deps.length : Nat) : Int)) : idxOf 2 0 B.st ≠ [] := by
  have hls := hW.ls
  have key : ∀ n q : Nat, q ≤ n → q < B.st.length → B.st.getD q 0 ≠ 4 → ∃ p, p < B.st.length ∧ B.st.getD p 0 = 2 := by
    intro n
    induction n with
    | zero =>
      intro q hq hl h4
      obtain rfl : q = 0 := by omega
      have hm := hW.st _ (getD_mem hl)
      have h5 := h3 _ (getD_mem hl)
      by_cases h1 : B.st.getD 0 0 = 1
      · have hdd : B.deps[0]? = some (B.deps.getD 0 []) := by simp [List.getD_eq_getElem?_getD, show 0 < B.deps.length by omega]
        have h6 := (hW.wait 0 _ hdd).1 h1
        unfold openB at h6
        rw [List.any_eq_true] at h6
        obtain ⟨d, hd1, _⟩ := h6
        have := asc_mem (hW.asc 0 _ hdd) d hd1
        omega
      · exact ⟨0, hl, by omega⟩
    | succ n ih =>
      intro q hq hl h4
      have hm := hW.st _ (getD_mem hl)
      have h5 := h3 _ (getD_mem hl)
      by_cases h1 : B.st.getD q 0 = 1
      · have hdd : B.deps[q]? = some (B.deps.getD q []) := by simp [List.getD_eq_getElem?_getD, show q < B.deps.length by omega]
        have h6 := (hW.wait q _ hdd).1 h1
        unfold openB at h6
        rw [List.any_eq_true] at h6
        obtain ⟨d, hd1, hd2⟩ := h6
        have h7 := asc_mem (hW.asc q _ hdd) d hd1
        rw [decide_eq_true_eq, stAt_nat _ (by omega)] at hd2
        exact ih d.toNat (by omega) (by omega) hd2
      · exact ⟨q, hl, by omega⟩
  have hex : ∃ q, q < B.st.length ∧ B.st.getD q 0 ≠ 4 := by
    apply Classical.byContradiction
    intro hn
    have h1 : (B.st.filter fun x => decide (x = 4)) = B.st := by
      rw [List.filter_eq_self]
      intro x hx
      obtain ⟨q, hq⟩ := List.mem_iff_getElem?.1 hx
      have hl : q < B.st.length := (List.getElem?_eq_some_iff.1 hq).1
      by_cases h4 : x = 4
      · simp [h4]
      · exact absurd ⟨q, hl, by rw [List.getD_eq_getElem?_getD, hq]; exact h4⟩ hn
    unfold doneOf at hd
    rw [h1] at hd
    omega
  obtain ⟨q, hq, h4⟩ := hex
  obtain ⟨p, hp, h2⟩ := key q q (Nat.le_refl _) hq h4
  have := idx_in (k := 0) hp h2
  intro h
  rw [h] at this; cases this
theorem all_done {B : BS} {K : Int} (hW : BWf B K) (hd : doneOf B = ((B.deps.length : Nat) : Int)) : idxOf 2 0 B.st = [] := by
  have hls := hW.ls
  unfold doneOf at hd
  have h4 := filter_all (s := B.st) (by omega)
  cases h : idxOf 2 0 B.st with
  | nil => rfl
  | cons z l =>
    obtain ⟨q, _, hq, h2⟩ := idx_mem (y := 2) (z := z) (s := B.st) (k := 0) (by rw [h]; simp)
    have := h4 _ (getD_mem hq); omega
theorem start_at {B : BS} {i : Int} (h : inB B i) (h2 : stAt B.st i = 2) : startB B i = (⟨B.deps, B.st.set i.toNat 3, B.att⟩, B.att.getD i.toNat 0, 0) := by unfold startB; rw [if_pos h, if_pos h2]
/-- Task i, which was ready, is held with the attempt a; all else is as it was. -/
structure HeldB (B B' : BS) (i a : Int) : Prop where
  deps : B'.deps = B.deps
  st : B'.st = B.st.set i.toNat 3
  att : B'.att.getD i.toNat 0 = a
theorem HeldB.start {B : BS} {i : Int} (h : inB B i) (h2 : stAt B.st i = 2) : HeldB B (startB B i).1 i (startB B i).2.1 := by rw [start_at h h2]; exact ⟨rfl, rfl, rfl⟩
theorem HeldB.held {B B' : BS} {K i a : Int} (hW : BWf B K) (h : inB B i) (hh : HeldB B B' i a) : heldC B' i a = 0 := by
  have hl := hW.ls
  unfold heldC
  rw [if_pos (by unfold inB at *; rw [hh.deps]; exact h), if_pos]
  refine ⟨?_, hh.att⟩
  unfold inB at h
  rw [hh.st, stAt_set, if_pos ⟨by omega, by omega⟩]
theorem HeldB.again {B B' : BS} {K K' i a : Int} (hW : BWf B K) (hW' : BWf B' K') (h : inB B i) (hh : HeldB B B' i a) : HeldB B (startB (retB B' i a) i).1 i (a + 1) ∧ (startB (retB B' i a) i).2.1 = a + 1 ∧ (startB (retB B' i a) i).2.2 = 0 := by
  have h0 := hh.held hW h
  have hl := hW.ls; have hl2 := hW'.la
  have hr : retB B' i a = ⟨B'.deps, B'.st.set i.toNat 2, B'.att.set i.toNat (a + 1)⟩ := by unfold retB; rw [if_pos h0]
  have hin : inB (retB B' i a) i := by rw [hr]; unfold inB at *; simp only [hh.deps]; exact h
  unfold inB at h
  have hd := hh.deps
  have h2 : stAt (retB B' i a).st i = 2 := by rw [hr]; simp only [hh.st]; rw [stAt_set, if_pos ⟨by omega, by rw [List.length_set]; omega⟩]
  rw [start_at hin h2, hr]
  have ha : (B'.att.set i.toNat (a + 1)).getD i.toNat 0 = a + 1 := by rw [getD_set, if_pos ⟨rfl, by rw [hl2, hd]; omega⟩]
  exact ⟨⟨hh.deps, by simp only [hh.st, List.set_set], ha⟩, ha, rfl⟩
theorem ends_step {B B' : BS} {K K' i a : Int} {bs : List Bool} (hW : BWf B K) (hW' : BWf B' K') (h : inB B i) (h2 : stAt B.st i = 2) (hh : HeldB B B' i a) (h3 : ∀ x ∈ B.st, x ≠ 3) (hb : bs = B.st.map fun x => decide (x = 4)) :
    doneOf (comB B' i a).1 = doneOf B + 1 ∧ (∀ x ∈ (comB B' i a).1.st, x ≠ 3) ∧ bs.set i.toNat true = ((comB B' i a).1.st.map fun x => decide (x = 4)) ∧ (∀ z ∈ (comB B' i a).2, i < z ∧ stAt (comB B' i a).1.st z = 2) := by
  have h0 := hh.held hW h
  have hl := hW.ls; have hl' := hW'.ls
  have hd := hh.deps
  have hcom : comB B' i a = (⟨B'.deps, markB (B'.st.set i.toNat 4) B'.deps, B'.att⟩, rdyB (B'.st.set i.toNat 4) B'.deps) := by unfold comB; rw [if_pos h0]
  unfold inB at h
  have hi : i.toNat < B'.deps.length := by rw [hd]; omega
  have h3' : B'.st.getD i.toNat 0 = 3 := by rw [hh.st, getD_set, if_pos ⟨rfl, by omega⟩]
  have hs1 : B'.st.set i.toNat 4 = B.st.set i.toNat 4 := by rw [hh.st, List.set_set]
  have hdl : B'.deps.length = B.deps.length := by rw [hd]
  have hls1 : (B'.st.set i.toNat 4).length = B'.deps.length := by rw [List.length_set]; exact hl'
  have hmap : ((markB (B'.st.set i.toNat 4) B'.deps).map fun x => decide (x = 4)) = ((B'.st.set i.toNat 4).map fun x => decide (x = 4)) := by
    apply List.ext_getElem?
    intro q
    rw [List.getElem?_map, List.getElem?_map]
    by_cases hq : q < B'.deps.length
    · unfold markB
      rw [map_range_at hq]
      have hq2 : q < (B'.st.set i.toNat 4).length := by omega
      have e : (B'.st.set i.toNat 4)[q]? = some ((B'.st.set i.toNat 4).getD q 0) := by rw [List.getD_eq_getElem?_getD]; simp only [List.getElem?_eq_getElem hq2, Option.getD_some]
      rw [e]
      simp only [Option.map_some]
      by_cases hc : condB (B'.st.set i.toNat 4) B'.deps q = true
      · have hc2 := hc
        simp only [condB, Bool.and_eq_true, decide_eq_true_eq] at hc2
        rw [if_pos hc, hc2.1]; rfl
      · rw [if_neg hc]
    · rw [List.getElem?_eq_none (by simp [markB]; omega), List.getElem?_eq_none (by omega)]
  rw [hcom]
  refine ⟨?_, ?_, ?_, ?_⟩
  · have := com_done hW' hi h3'
    rw [this]
    have h6 := count_set (s := B.st) (k := i.toNat) (y := 3) (by omega)
    rw [stAt_nat _ h.1] at h2
    rw [if_neg (by omega), if_neg (by decide), ← hh.st] at h6
    unfold doneOf; omega
  · intro x hx
    simp only [markB, List.mem_map, List.mem_range] at hx
    obtain ⟨q, hq, rfl⟩ := hx
    split
    · omega
    · rw [hs1, getD_set]
      split
      · omega
      · exact h3 _ (getD_mem (by omega))
  · show bs.set i.toNat true = (markB (B'.st.set i.toNat 4) B'.deps).map _
    rw [hmap, hs1, hb, List.map_set]; rfl
  · intro z hz
    simp only [rdyB, List.mem_map, List.mem_filter, List.mem_range] at hz
    obtain ⟨q, ⟨hq, hc⟩, rfl⟩ := hz
    have h7 := ((cond_iff hW' hi h3' hq).1 hc).1
    obtain ⟨p, hp, _, hip⟩ := nx_mem.1 h7
    obtain rfl : q = p := by omega
    have hdd : B'.deps[q]? = some (B'.deps.getD q []) := by simp [List.getD_eq_getElem?_getD, hq]
    have h8 := asc_mem (hW'.asc q _ hdd) _ hip
    refine ⟨by omega, ?_⟩
    rw [stAt_nat _ (by omega), Int.toNat_natCast]
    simp only [markB]
    rw [getD_range hq, if_pos hc]
/-- What a ready task depends on is committed. -/
theorem deps_done {B : BS} {K i d : Int} {dl : List Int} {bs : List Bool} {b : Bool} (hW : BWf B K) (h : inB B i) (h2 : stAt B.st i = 2) (hd : B.deps[i.toNat]? = some dl) (hm : d ∈ dl) (hb : bs = B.st.map fun x => decide (x = 4)) (hx : bs[d.toNat]? = some b) : b = true := by
  rw [stAt_nat _ h.1] at h2
  have hno : openB B.st dl = false := by
    cases ho : openB B.st dl with
    | false => rfl
    | true => have := (hW.wait _ _ hd).2 ho; omega
  unfold openB at hno
  rw [List.any_eq_false] at hno
  have h3 := hno d hm
  have h4 := asc_mem (hW.asc _ _ hd) d hm
  rw [decide_eq_true_eq, stAt_nat _ (by omega), Classical.not_not] at h3
  rw [hb, List.getElem?_map, Option.map_eq_some_iff] at hx
  obtain ⟨x, hx1, rfl⟩ := hx
  rw [List.getD_eq_getElem?_getD, hx1] at h3
  simpa using h3
theorem ready_not_done {B : BS} {i : Int} {bs : List Bool} {b : Bool} (h0 : 0 ≤ i) (h2 : stAt B.st i = 2) (hb : bs = B.st.map fun x => decide (x = 4)) (hx : bs[i.toNat]? = some b) : ¬ b = true := by
  rw [hb, List.getElem?_map, Option.map_eq_some_iff] at hx
  obtain ⟨x, hx1, rfl⟩ := hx
  rw [stAt_nat _ h0, List.getD_eq_getElem?_getD, hx1] at h2
  simp at h2
  simp [h2]
def encBl (x : Bool) : List Value := [.bool x]

theorem new_no3 (l : List Task) : ∀ x ∈ (newB l).st, x ≠ 3 := by
  intro x hx
  simp only [newB, List.mem_map] at hx
  obtain ⟨t, _, rfl⟩ := hx
  simp only [st0]; split <;> omega
theorem new_bs (l : List Task) : (newB l).st.map (fun x => decide (x = 4)) = List.replicate l.length false := by
  simp only [newB, List.map_map]
  induction l with
  | nil => rfl
  | cons t l ih =>
    rw [List.map_cons, ih, List.length_cons, List.replicate_succ]
    congr 1
    simp only [Function.comp, st0]; split <;> rfl
theorem l25_ends (W w : World) (H : Chunk) (F : List Chunk) (t : Option Addr) (nt kt : Nat) (xt : List Int) (ht : RdT encI 1 [H] t nt kt xt) (hS : Sat W w (H :: F)) :
    Calls Try.prog 5 #[.slice t nt kt] w fun e w' => e = .returned (.bool true) ∧ Sat W w' (H :: F) := by
  have hlt := ht.le
  refine callsA 177 Try.func5 rfl ?_
  refine seqE <| regionE <| pu1 <| nilO <| thenK_n <| seqE <| regionE <| pu1 ?_
  refine cX Try.call8 (tape_new t nt kt hS) ?_
  rintro _ w_1 ⟨p_3, rfl, hS_2⟩
  have hle_4 := ht.le
  refine pu1 <| nilO <| thenK_n <| seqE <| regionE <| pu1 ?_
  refine cX Try.call9 (tg_tasks (RdT.flat (ht.up 0 (by rfl))) (by omega) (Sat.flat1 hS_2) 9 (by omega)) ?_
  rintro _ w_5 ⟨az_7, nz_8, kz_9, zs_10, C_11, G_12, rfl, hO_13, hD_14, hV_15, i_16, hi_17, hS_6⟩
  have hS_18 := Sat.unflat3 hS_6
  have hn_zs_10 := hO_13.len; have hl_zs_10 := hO_13.le
  refine pu1 <| nilO ?_
  have hz1 := hV_15.1; have hz2 := hV_15.2.1
  refine thenK_n <| seqE <| regionE <| pu1 ?_
  refine cX Try.call12 (b_new az_7 nz_8 kz_9 zs_10 (RdT.flat (hO_13.rdAt 1 (by rfl))) (fun z hz => (hD_14 z hz).of_mem (mem_flat1 2 (by rfl))) (Sat.flat hS_18)) ?_
  rintro _ w_19 (⟨hv_23, rfl, hS_20⟩ | ⟨hv_23, p_21, M_22, rfl, hB_24, hS_20⟩)
  · have hS_25 := Sat.unflat hS_20
    exact absurd (validC_ok (by omega) (by omega) hV_15.2.2) hv_23
  have hS_26 := Sat.unflat1 hS_20
  have hW_27 := new_wf hv_23
  refine pu5 <| nilO <| thenK_n <| seqE <| seqE <| regionE <| pu6 <| nilO <| thenK_n <| cFf <| skipE <| thenK_n <| seqE <| regionE <| pu2 ?_
  refine sMake (kl := .i64) (kc := .i64) (enc := encBl) (sz := 1) (nb := 1) hS_26 false nz_8 ((nz_8 : Nat) : Int) (rfl : ((nz_8 : Nat) : Int) = ((nz_8 : Nat) : Int)) Try.underlying50 (i := Try.t4) (by kernel_rfl) (fun _ => rfl) ?_
  intro b_28 c_29 w_31 hO_30 hS_32
  refine pu1 <| nilO <| thenK_n <| seqE <| seqE <| regionE <| pu1 <| nilO <| thenK_n <| blockE ?_
  have hzn := hO_13.len
  have hS_33 := ((((((hS_32.pick 5 rfl).pick 5 rfl).pick 5 rfl).pick 3 rfl).pick 4 rfl).pick 5 rfl)
  refine loopA (γ := Nat × BS × Chunk × (List Bool) × Chunk × Int) (fun ⟨r, B, M1, bs, cd, it⟩ => [(3, .pointer (some ⟨p_3, 0, none⟩)), (4, .slice az_7 nz_8 kz_9), (5, .pointer (some ⟨p_21, 0, none⟩)), (7, .slice (some ⟨b_28, 0, none⟩) nz_8 nz_8), (8, .int .i64 ((r : Nat) : Int))]) (fun ⟨r, B, M1, bs, cd, it⟩ w => Sat W w ([(p_3, .cells #[.slice t nt kt, .int .i64 it] 62 (0, 0))] :: M1 :: cd :: C_11 :: G_12 :: H :: F) ∧ r ≤ nz_8 ∧ BoardR p_21 B M1 ∧ BWf B ((r : Nat) : Int) ∧ B.deps = zs_10.map (·.deps.l) ∧ doneOf B = ((r : Nat) : Int) ∧ (∀ x ∈ B.st, x ≠ 3) ∧ OwnT encBl 4 1 (some ⟨b_28, 0, none⟩) nz_8 nz_8 bs cd ∧ bs = B.st.map (fun x => decide (x = 4)) ∧ (0 ≤ it ∧ it ≤ nt)) (fun ⟨r, B, M1, bs, cd, it⟩ => nz_8 - r) (0, (newB zs_10), M_22, (List.replicate nz_8 false), c_29, i_16) ⟨hS_33, by omega, hB_24, hW_27, rfl, done_new _, (new_no3 _), hO_30, (by rw [new_bs]; congr 1; omega), by omega⟩ ?_
  rintro ⟨r, B, M1, bs, cd, it⟩ ρ w_34 ⟨hS_35, hr, hB1, hW1, hdp, hdn, h3, hOd, hbs, hit⟩
  have hlod := hOd.le; have hlnd := hOd.len; have hdlen : B.deps.length = nz_8 := by rw [hdp, List.length_map]; omega
  have hrdl : (idxOf 2 0 B.st).length ≤ 9 := by rw [idx_len]; have h1 := List.length_filter_le (fun x : Int => decide (x = 2)) B.st; have h2 := hW1.ls; omega
  have hprog : r < nz_8 → 0 < (idxOf 2 0 B.st).length := fun h => List.length_pos_iff.2 (progress hW1 h3 (by omega))
  refine seqE <| seqE <| regionE <| pu4 <| nilO <| thenK_n <| ?_
  refine cD (((r : Nat) : Int) < ((nz_8 : Nat) : Int)) (fun hc_36 => ?_) (fun hc_36 => ?_)
  rotate_left
  · refine exitE <| thenK_x <| thenK_x <| blockK_x <| thenK_n <| seqE ?_
    have hfin : doneOf B = ((B.deps.length : Nat) : Int) := (by omega)
    have hnil := all_done hW1 hfin
    refine regionE <| pu1 ?_
    have hS_190 := (hS_35.pick 1 rfl)
    refine cX Try.call25 (b_done hB1 hW1  (Sat.flat1 hS_190)) ?_
    rintro _ w_187 ⟨rfl, hS_188⟩
    have hS_189 := Sat.unflat1 hS_188
    refine pu4 ?_
    have hc_191 : ((doneOf B) : Int) = ((nz_8 : Nat) : Int) := by omega
    refine sFix 168 _ true (beq_iff_eq.2 hc_191) ?_
    refine pu1 <| gY ?_
    refine cX Try.call24 (b_ready hB1 hW1  (Sat.flat1 hS_189)) ?_
    rintro _ w_192 ⟨az_197, nz_198, kz_199, Z_200, M_195, rfl, hr_201, hB_196, hS_193⟩
    have hS_194 := Sat.unflat2 hS_193
    have hn_az_197 := hr_201.len; have hl_az_197 := hr_201.le
    rw [hnil] at hn_az_197; simp only [List.length_nil] at hn_az_197
    refine pu4 ?_
    have hc_202 : (((nz_198 : Nat) : Int) : Int) = 0 := by omega
    refine sFix 174 _ true (beq_iff_eq.2 hc_202) ?_
    refine gY ?_
    refine cX Try.call15 (l25_sane hS_194) ?_
    rintro _ w_203 ⟨rfl, hS_204⟩
    refine pu2 <| nilO <| thenK_n <| retE <| retT [.bool true] <| ?_
    have hS_205 := (hS_204.pick 6 rfl)
    have hS_206 := hS_205.dropAt 1 rfl
    have hS_207 := hS_206.dropAt 1 rfl
    have hS_208 := hS_207.dropAt 1 rfl
    have hS_209 := hS_208.dropAt 1 rfl
    have hS_210 := hS_209.dropAt 1 rfl
    have hS_211 := hS_210.dropAt 1 rfl
    exact ⟨rfl, hS_211⟩
  refine skipE <| thenK_n <| seqE <| blockE <| seqE <| regionE <| pu1 ?_
  have hS_40 := (hS_35.pick 1 rfl)
  refine cX Try.call24 (b_ready hB1 hW1  (Sat.flat1 hS_40)) ?_
  rintro _ w_37 ⟨az_43, nz_44, kz_45, Z_46, M_41, rfl, hr_47, hB_42, hS_38⟩
  have hS_39 := Sat.unflat2 hS_38
  have hn_az_43 := hr_47.len; have hl_az_43 := hr_47.le
  refine pu1 <| nilO <| thenK_n <| seqE <| seqE <| regionE <| pu4 ?_
  have hc_48 : ¬ ((((nz_44 : Nat) : Int) : Int) = 0) := by have := hprog (by omega); omega
  refine sFix 48 _ false (beq_eq_false_iff_ne.2 hc_48) ?_
  refine pu1 <| gY ?_
  have hS_52 := (hS_39.pick 1 rfl)
  refine cX Try.call25 (b_done hB_42 hW1  (Sat.flat1 hS_52)) ?_
  rintro _ w_49 ⟨rfl, hS_50⟩
  have hS_51 := Sat.unflat1 hS_50
  refine pu3 <| nilO <| thenK_n <| ?_
  have hc_53 : ((doneOf B) : Int) = ((r : Nat) : Int) := hdn
  refine cF _ (bne_eq_false_iff_eq.2 hc_53) ?_
  refine skipE <| thenK_n <| seqE <| regionE <| pu4 ?_
  have hS_54 := (hS_51.pick 2 rfl)
  refine cX Try.call10 (tape_next (RdT.flat (ht.up 5 (by rfl))) (by omega) (Sat.flat1 hS_54) ((nz_44 : Nat) : Int) (by omega)) ?_
  rintro _ w_55 ⟨r_57, rfl, hr_58, i_59, hi_60, hS_56⟩
  have hS_61 := Sat.unflat1 hS_56
  refine sIdx hr_47 r_57 Try.runUnderlying22 Try.sizeOf3 ?_
  intro x_62 b_63 o_64 hx_65 hp_66
  refine sLp hS_61 (hp_66.up 2 rfl) 0 (.int .i64 x_62) (Try.isAgg3 _) ?_
  refine pu1 <| nilO ?_
  obtain ⟨hin, hx2⟩ := idx_at hW1 (List.mem_of_getElem? hx_65)
  have hib : 0 ≤ x_62 ∧ x_62 < ((B.deps.length : Nat) : Int) := hin; have hsa := start_at hin hx2; have hh0 := HeldB.start hin hx2
  have hst2 : (startB B x_62).2.2 = 0 := by rw [hsa]
  refine thenK_n <| seqE <| regionE <| pu2 ?_
  have hS_70 := (hS_61.pick 1 rfl)
  refine cX Try.call17 (b_start hB_42 hW1 x_62 (Sat.flat1 hS_70)) ?_
  rintro _ w_67 ⟨M_71, rfl, hB_72, hS_68⟩
  have hS_69 := Sat.unflat1 hS_68
  have hW_73 := (start_wf hW1 (i := x_62))
  refine pu5 <| nilO <| thenK_n <| seqE <| seqE <| regionE <| pu3 ?_
  have hc_74 : ((startB B x_62).2.2 : Int) = 0 := hst2
  refine sFix 69 _ false (bne_eq_false_iff_eq.2 hc_74) ?_
  refine pu4 ?_
  have hc_75 : ¬ ((x_62 : Int) < 0) := by omega
  refine sFix 73 _ false (decide_eq_false hc_75) ?_
  refine pu6 ?_
  have hc_76 : ¬ ((x_62 : Int) ≥ ((nz_8 : Nat) : Int)) := by omega
  refine sFix 79 _ false (decide_eq_false hc_76) ?_
  refine pu2 <| gY ?_
  refine sIdxO hOd x_62 (x_62).toNat Try.runUnderlying50 Try.sizeOf4 ?_
  intro x_77 b_78 o_79 hx_80 hp_81 hq_82
  refine gY ?_
  refine sLp hS_69 (hp_81.up 3 rfl) 0 (.bool x_77) (Try.isAgg4 _) ?_
  refine pu1 <| nilO <| thenK_n <| ?_
  have hc_83 : ¬ (x_77 = true) := (ready_not_done hib.1 hx2 hbs hx_80)
  refine cF _ (Bool.eq_false_iff.2 hc_83) ?_
  refine skipE <| thenK_n <| ?_
  refine cutA (γ := BS × Chunk × Int × Int) (fun ⟨B1, N1, at1, it1⟩ => [(3, .pointer (some ⟨p_3, 0, none⟩)), (4, .slice az_7 nz_8 kz_9), (5, .pointer (some ⟨p_21, 0, none⟩)), (7, .slice (some ⟨b_28, 0, none⟩) nz_8 nz_8), (8, .int .i64 ((r : Nat) : Int)), (10, .int .i64 x_62), (11, .int .i64 at1)]) (fun ⟨B1, N1, at1, it1⟩ w => Sat W w ([(p_3, .cells #[.slice t nt kt, .int .i64 it1] 62 (0, 0))] :: N1 :: cd :: C_11 :: G_12 :: H :: F) ∧ BoardR p_21 B1 N1 ∧ BWf B1 (((r + 1 : Nat)) : Int) ∧ HeldB B B1 x_62 at1 ∧ (0 ≤ it1 ∧ it1 ≤ nt)) ?_ ?_
  · refine seqE <| regionE <| pu1 ?_
    have hS_84 := (hS_69.pick 1 rfl)
    refine cX Try.call10 (tape_next (RdT.flat (ht.up 5 (by rfl))) (by omega) (Sat.flat1 hS_84) 4 (by omega)) ?_
    rintro _ w_85 ⟨r_87, rfl, hr_88, i_89, hi_90, hS_86⟩
    have hS_91 := Sat.unflat1 hS_86
    refine pu1 <| nilO <| thenK_n <| ?_
    refine cE r_87 3 (fun hc_92 => ?_) (fun hc_92 => ?_)
    rotate_left
    · refine skipE <| thenK_n <| ?_
      have hS_110 := (((((((hS_91.pick 6 rfl).pick 6 rfl).pick 6 rfl).pick 6 rfl).pick 5 rfl).pick 5 rfl).dropAt 6 rfl)
      exact ⟨((startB B x_62).1, M_71, (startB B x_62).2.1, i_89), alA, hS_110, hB_72, (hW_73.mono (by omega)), hh0, by omega⟩
    refine seqE <| seqE ?_
    have hag := hh0.again hW1 hW_73 hin
    have hab0 := hW1.att _ (getD_mem (q := x_62.toNat) (s := B.att) (by have := hW1.la; omega)); have hsa1 : (startB B x_62).2.1 = B.att.getD x_62.toNat 0 := by rw [hsa]
    refine regionE <| pu3 ?_
    have hS_96 := (hS_91.pick 1 rfl)
    refine cX Try.call19 (b_return hB_72 hW_73 x_62 ((startB B x_62).2.1) (by first | omega | decide) (Sat.flat1 hS_96)) ?_
    rintro _ w_93 ⟨M_97, rfl, hB_98, hS_94⟩
    have hS_95 := Sat.unflat1 hS_94
    have hW_99 := (ret_wf hW_73 (i := x_62) (a := ((startB B x_62).2.1)))
    refine pu1 <| nilO <| thenK_n <| ?_
    have hc_100 : ((heldC ((startB B x_62).1) x_62 ((startB B x_62).2.1)) : Int) = 0 := (hh0.held hW1 hin)
    refine cF _ (bne_eq_false_iff_eq.2 hc_100) ?_
    refine skipE <| thenK_n <| seqE <| regionE <| pu2 ?_
    refine cX Try.call17 (b_start hB_98 hW_99 x_62 (Sat.flat1 hS_95)) ?_
    rintro _ w_101 ⟨M_104, rfl, hB_105, hS_102⟩
    have hS_103 := Sat.unflat1 hS_102
    have hW_106 := (start_wf hW_99 (i := x_62))
    refine pu5 <| nilO <| thenK_n <| seqE <| seqE <| regionE <| pu3 ?_
    have hc_107 : ((startB (retB ((startB B x_62).1) x_62 ((startB B x_62).2.1)) x_62).2.2 : Int) = 0 := hag.2.2
    refine sFix 101 _ false (bne_eq_false_iff_eq.2 hc_107) ?_
    refine pu2 <| gY ?_
    refine sAdd ((startB B x_62).2.1) 1 ?_
    refine pu2 <| nilO <| thenK_n <| ?_
    have hc_108 : ((startB (retB ((startB B x_62).1) x_62 ((startB B x_62).2.1)) x_62).2.1 : Int) = ((startB B x_62).2.1 + 1) := hag.2.1
    refine cF _ (bne_eq_false_iff_eq.2 hc_108) ?_
    refine skipE <| thenK_n <| regionE <| pu2 <| nilO <| thenK_n <| ?_
    have hS_109 := (((((((hS_103.pick 6 rfl).pick 6 rfl).pick 6 rfl).pick 6 rfl).pick 4 rfl).pick 5 rfl).dropAt 6 rfl)
    exact ⟨((startB (retB ((startB B x_62).1) x_62 ((startB B x_62).2.1)) x_62).1, M_104, (startB (retB ((startB B x_62).1) x_62 ((startB B x_62).2.1)) x_62).2.1, i_89), alA, hS_109, hB_105, (hW_106.mono (by omega)), (by rw [hag.2.1]; exact hag.1), by omega⟩
  rintro ⟨B1, N1, at1, it1⟩ ρ w_111 ⟨hS_112, hB2, hW2, hh, hit1⟩
  refine seqE <| seqE ?_
  obtain ⟨t_113, ht_114⟩ : ∃ t, zs_10[x_62.toNat]? = some t := ⟨zs_10[x_62.toNat]'(by omega), List.getElem?_eq_getElem _⟩
  have hdt : B.deps[x_62.toNat]? = some t_113.deps.l := by rw [hdp]; simp [ht_114]
  have hokt := hD_14 t_113 (List.mem_of_getElem? ht_114); have hlt1 := hokt.deps.len; have hlt2 := hokt.deps.le
  refine regionE <| pu1 <| nilO <| thenK_n <| blockE ?_
  refine loopA (γ := Nat) (fun j => [(3, .pointer (some ⟨p_3, 0, none⟩)), (4, .slice az_7 nz_8 kz_9), (5, .pointer (some ⟨p_21, 0, none⟩)), (7, .slice (some ⟨b_28, 0, none⟩) nz_8 nz_8), (8, .int .i64 ((r : Nat) : Int)), (10, .int .i64 x_62), (11, .int .i64 at1), (15, .int .i64 ((j : Nat) : Int))]) (fun j w => Sat W w ([(p_3, .cells #[.slice t nt kt, .int .i64 it1] 62 (0, 0))] :: N1 :: cd :: C_11 :: G_12 :: H :: F) ∧ j ≤ t_113.deps.n) (fun j => t_113.deps.n - j) 0 ⟨hS_112, by omega⟩ ?_
  rintro j ρ w_115 ⟨hS_116, hj⟩
  refine seqE <| seqE <| regionE <| pu3 ?_
  refine sIdxO hO_13 x_62 (x_62).toNat Try.runUnderlying23 Try.sizeOf31 ?_
  intro x_117 b_118 o_119 hx_120 hp_121 hq_122
  obtain rfl : t_113 = x_117 := Option.some.inj (ht_114.symm.trans hx_120)
  refine pu1 ?_
  refine sLp hS_116 (hp_121.up 3 rfl) 6 (.slice t_113.deps.a t_113.deps.n t_113.deps.k) (Try.isAgg22 _) ?_
  refine pu2 <| nilO <| thenK_n <| ?_
  refine cD (((j : Nat) : Int) < ((t_113.deps.n : Nat) : Int)) (fun hc_123 => ?_) (fun hc_123 => ?_)
  · refine skipE <| thenK_n <| seqE <| blockE <| seqE <| regionE <| pu3 ?_
    refine sIdxO hO_13 x_62 (x_62).toNat Try.runUnderlying23 Try.sizeOf31 ?_
    intro x_124 b_125 o_126 hx_127 hp_128 hq_129
    obtain rfl : t_113 = x_124 := Option.some.inj (ht_114.symm.trans hx_127)
    refine pu1 ?_
    refine sLp hS_116 (hp_128.up 3 rfl) 6 (.slice t_113.deps.a t_113.deps.n t_113.deps.k) (Try.isAgg22 _) ?_
    refine pu1 ?_
    refine sIdx (hD_14 t_113 (List.mem_of_getElem? hx_127)).deps ((j : Nat) : Int) Try.runUnderlying22 Try.sizeOf3 ?_
    intro x_130 b_131 o_132 hx_133 hp_134
    rw [Int.toNat_natCast] at hx_133
    have hdm := asc_mem (hW1.asc _ _ hdt) x_130 (List.mem_of_getElem? hx_133)
    refine sLp hS_116 (hp_134.up 4 rfl) 0 (.int .i64 x_130) (Try.isAgg3 _) ?_
    refine sIdxO hOd x_130 (x_130).toNat Try.runUnderlying50 Try.sizeOf4 ?_
    intro x_135 b_136 o_137 hx_138 hp_139 hq_140
    refine sLp hS_116 (hp_139.up 2 rfl) 0 (.bool x_135) (Try.isAgg4 _) ?_
    refine pu1 <| nilO <| thenK_n <| ?_
    have hc_141 : x_135 = true := (deps_done hW1 hin hx2 hdt (List.mem_of_getElem? hx_133) hbs hx_138)
    refine cF _ (congrArg Bool.not hc_141) ?_
    refine skipE <| blockK_n <| thenK_n <| regionE <| pu1 ?_
    refine sAdd ((j : Nat) : Int) 1 ?_
    refine pu1 <| nilO <| thenK_n <| ?_
    have hS_142 := ((((((hS_116.pick 5 rfl).pick 5 rfl).pick 5 rfl).pick 5 rfl).pick 5 rfl).pick 5 rfl)
    exact ⟨j + 1, by first | omega | (dsimp only; omega), alA, hS_142, by omega⟩
  refine exitE <| thenK_x <| thenK_x <| blockK_x <| thenK_n <| seqE ?_
  have hdl1 : B1.deps.length = B.deps.length := by rw [hh.deps]
  refine regionE <| pu3 ?_
  have hS_146 := (hS_116.pick 1 rfl)
  refine cX Try.call21 (b_commit hB2 hW2 x_62 at1 (by first | omega | decide) (Sat.flat1 hS_146)) ?_
  rintro _ w_143 ⟨az_149, nz_150, kz_151, Z_152, M_147, rfl, hr_153, hB_148, hS_144⟩
  have hS_145 := Sat.unflat2 hS_144
  have hn_az_149 := hr_153.len; have hl_az_149 := hr_153.le
  have hW_154 := (com_wf hW2 (i := x_62) (a := at1))
  refine pu5 <| nilO ?_
  have hes := ends_step hW1 hW2 hin hx2 hh h3 hbs
  refine thenK_n <| seqE <| seqE <| regionE <| pu2 <| nilO <| thenK_n <| ?_
  have hc_155 : ((heldC B1 x_62 at1) : Int) = 0 := (hh.held hW1 hin)
  refine cF _ (bne_eq_false_iff_eq.2 hc_155) ?_
  refine skipE <| thenK_n <| seqE <| regionE <| pu2 ?_
  refine sIdxO hOd x_62 (x_62).toNat Try.runUnderlying50 Try.sizeOf4 ?_
  intro x_156 b_157 o_158 hx_159 hp_160 hq_161
  obtain rfl : x_77 = x_156 := Option.some.inj (hx_80.symm.trans hx_159)
  refine sStF hS_145 hOd hq_161 3 (x_62).toNat 0 x_77 true hx_159 (.bool true) [.bool true] Try.sizeOf4 ?_
  intro w_162 c_164 hO_165 hS_163
  refine nilO <| thenK_n <| seqE <| regionE <| pu1 <| nilO <| thenK_n <| blockE ?_
  refine loopA (γ := Nat) (fun q => [(3, .pointer (some ⟨p_3, 0, none⟩)), (4, .slice az_7 nz_8 kz_9), (5, .pointer (some ⟨p_21, 0, none⟩)), (7, .slice (some ⟨b_28, 0, none⟩) nz_8 nz_8), (8, .int .i64 ((r : Nat) : Int)), (10, .int .i64 x_62), (16, .slice az_149 nz_150 kz_151), (18, .int .i64 ((q : Nat) : Int))]) (fun q w => Sat W w (Z_152 :: M_147 :: [(p_3, .cells #[.slice t nt kt, .int .i64 it1] 62 (0, 0))] :: c_164 :: C_11 :: G_12 :: H :: F) ∧ q ≤ nz_150) (fun q => nz_150 - q) 0 ⟨hS_163, by omega⟩ ?_
  rintro q ρ w_166 ⟨hS_167, hq⟩
  refine seqE <| seqE <| regionE <| pu4 <| nilO <| thenK_n <| ?_
  refine cD (((q : Nat) : Int) < ((nz_150 : Nat) : Int)) (fun hc_168 => ?_) (fun hc_168 => ?_)
  rotate_left
  · refine exitE <| thenK_x <| thenK_x <| blockK_x <| blockK_n <| thenK_n <| regionE <| pu1 ?_
    refine sAdd ((r : Nat) : Int) 1 ?_
    refine pu1 <| nilO <| thenK_n <| ?_
    have hS_186 := (((((((hS_167.pick 6 rfl).pick 6 rfl).pick 6 rfl).pick 6 rfl).pick 5 rfl).pick 6 rfl).dropAt 6 rfl)
    exact ⟨(r + 1, (comB B1 x_62 at1).1, M_147, (bs.set ((x_62).toNat) true), c_164, it1), by first | omega | (dsimp only; omega), alA, hS_186, by omega, hB_148, hW_154, (by rw [com_deps, hh.deps]; exact hdp), (by rw [hes.1]; omega), hes.2.1, hO_165, hes.2.2.1, by omega⟩
  refine skipE <| thenK_n <| seqE <| blockE <| seqE <| regionE <| pu2 ?_
  refine sIdx hr_153 ((q : Nat) : Int) Try.runUnderlying22 Try.sizeOf3 ?_
  intro x_169 b_170 o_171 hx_172 hp_173
  rw [Int.toNat_natCast] at hx_172
  refine sLp hS_167 (hp_173.up 0 rfl) 0 (.int .i64 x_169) (Try.isAgg3 _) ?_
  refine pu3 ?_
  have hc_174 : ¬ ((x_169 : Int) ≤ x_62) := by have h := hes.2.2.2 _ (List.mem_of_getElem? hx_172); omega
  refine sFix 154 _ false (decide_eq_false hc_174) ?_
  refine pu3 <| gY ?_
  refine sIdx hr_153 ((q : Nat) : Int) Try.runUnderlying22 Try.sizeOf3 ?_
  intro x_175 b_176 o_177 hx_178 hp_179
  rw [Int.toNat_natCast] at hx_178
  obtain rfl : x_169 = x_175 := Option.some.inj (hx_172.symm.trans hx_178)
  refine gY ?_
  refine sLp hS_167 (hp_179.up 0 rfl) 0 (.int .i64 x_169) (Try.isAgg3 _) ?_
  refine gY ?_
  have hS_183 := (hS_167.pick 1 rfl)
  refine cX Try.call26 (b_state hB_148 hW_154 x_169 (Sat.flat1 hS_183)) ?_
  rintro _ w_180 ⟨rfl, hS_181⟩
  have hS_182 := Sat.unflat1 hS_181
  refine pu2 <| nilO <| thenK_n <| ?_
  have hc_184 : ((stAt ((comB B1 x_62 at1).1).st x_169) : Int) = 2 := (hes.2.2.2 _ (List.mem_of_getElem? hx_172)).2
  refine cF _ (bne_eq_false_iff_eq.2 hc_184) ?_
  refine skipE <| blockK_n <| thenK_n <| regionE <| pu1 ?_
  refine sAdd ((q : Nat) : Int) 1 ?_
  refine pu1 <| nilO <| thenK_n <| ?_
  have hS_185 := (((((((hS_182.pick 6 rfl).pick 6 rfl).pick 6 rfl).pick 6 rfl).pick 6 rfl).pick 5 rfl).pick 6 rfl)
  exact ⟨q + 1, by first | omega | (dsimp only; omega), alA, hS_185, by omega⟩
end Go.Proofs.Ytimkhljglpookaa
