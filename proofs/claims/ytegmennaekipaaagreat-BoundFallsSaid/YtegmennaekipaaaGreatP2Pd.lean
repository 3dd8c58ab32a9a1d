import Derived.Test.YtegmennaekipaaaGreatP2Pu
namespace Go.Proofs.YtegmennaekipaaaGreat
open Go Go.E
set_option linter.unusedVariables false
set_option linter.unusedSimpArgs false
set_option linter.unnecessarySimpa false
set_option maxRecDepth 100000
set_option maxHeartbeats 2000000
variable {W w : World} {H : Chunk} {F : List Chunk}

-- squeezed
theorem place_eq {t z : Int} {n : Nat} (h : 0 ≤ t) (hz : 0 ≤ z) : (t + z).tmod ((n : Nat) : Int) = (((t.toNat + z.toNat) % n : Nat) : Int) := by
  rw [Int.tmod_eq_emod_of_nonneg (by omega), Int.natCast_emod, Int.natCast_add, Int.toNat_of_nonneg h, Int.toNat_of_nonneg hz]
theorem mod_inj {t a b n : Nat} (ha : a < n) (hb : b < n) (ht : t < n) (h : (t + a) % n = (t + b) % n) : a = b := by
  have f : ∀ x, x < n → (t + x) % n = if t + x < n then t + x else t + x - n := by
    intro x hx
    split
    · rename_i h1; exact Nat.mod_eq_of_lt h1
    · rename_i h1; rw [Nat.mod_eq_sub_mod (by omega), Nat.mod_eq_of_lt (by omega)]
  rw [f a ha, f b hb] at h
  split at h <;> split at h <;> omega
/-- The ring r, from place t on, holds the list l. -/
def Ring (r : List Ref) (t : Nat) (l : List Ref) : Prop := t < r.length ∧ l.length ≤ r.length ∧ ∀ i, i < l.length → r[(t + i) % r.length]? = l[i]?
theorem Ring.at {r : List Ref} {t i : Nat} {l : List Ref} {x : Ref} (h : Ring r t l) (hi : i < l.length) (hx : r[(t + i) % r.length]? = some x) : l[i]? = some x := (h.2.2 i hi).symm.trans hx
theorem Ring.push {r : List Ref} {t : Nat} {l : List Ref} {x : Ref} (h : Ring r t l) (hl : l.length < r.length) : Ring (r.set ((t + l.length) % r.length) x) t (l ++ [x]) := by
 refine ⟨by rw [List.length_set]; exact h.1, by rw [List.length_set, List.length_append, List.length_singleton]; omega, ?_⟩
 intro i hi
 rw [List.length_append, List.length_singleton] at hi
 rw [List.length_set, List.getElem?_set]
 by_cases e : i = l.length
 ·subst e
  rw [if_pos rfl, if_pos (Nat.mod_lt _ om), List.getElem?_append_right (Nat.le_refl _), Nat.sub_self]; rfl
 ·rw [if_neg (fun q => e (mod_inj om om h.1 q.symm)), List.getElem?_append_left om]
  exact h.2.2 i om
theorem Ring.pop {r : List Ref} {t : Nat} {l : List Ref} (h : Ring r t l) : Ring r t l.dropLast := by
  refine ⟨h.1, by rw [List.length_dropLast]; have := h.2.1; omega, ?_⟩
  intro i hi
  rw [List.length_dropLast] at hi
  rw [List.dropLast_eq_take, List.getElem?_take, if_pos hi]
  exact h.2.2 i (by omega)
theorem Ring.steal {r : List Ref} {t : Nat} {l : List Ref} (h : Ring r t l) : Ring r ((t + 1) % r.length) l.tail := by
  refine ⟨Nat.mod_lt _ (by have := h.1; omega), by rw [List.length_tail]; have := h.2.1; omega, ?_⟩
  intro i hi
  rw [List.length_tail] at hi
  have e : ((t + 1) % r.length + i) % r.length = (t + (i + 1)) % r.length := by rw [Nat.mod_add_mod]; congr 1; omega
  rw [e, h.2.2 (i + 1) (by omega), List.getElem?_tail]
theorem Ring.nil {r : List Ref} {t : Nat} (h : t < r.length) : Ring r t [] := ⟨h, Nat.zero_le _, fun i hi => absurd hi (Nat.not_lt_zero i)⟩
/-- The first i tasks of l have been looked at; those that stay lie in front. -/
def RemI (r : List Ref) (t : Nat) (l : List Ref) (j : Int) (i : Nat) : Prop := t < r.length ∧ l.length ≤ r.length ∧ (∀ q, q < (without j (l.take i)).length → r[(t + q) % r.length]? = (without j (l.take i))[q]?) ∧ ∀ q, i ≤ q → q < l.length → r[(t + q) % r.length]? = l[q]?
theorem Ring.rem {r : List Ref} {t : Nat} {l : List Ref} {j : Int} (h : Ring r t l) : RemI r t l j 0 := ⟨h.1, h.2.1, fun q hq => by simp [without] at hq, fun q _ hq => h.2.2 q hq⟩
theorem RemI.at {r : List Ref} {t i : Nat} {l : List Ref} {j : Int} {x : Ref} (h : RemI r t l j i) (hi : i < l.length) (hx : r[(t + i) % r.length]? = some x) : l[i]? = some x := (h.2.2.2 i (Nat.le_refl _) hi).symm.trans hx
theorem without_snoc {l : List Ref} {i : Nat} {j : Int} {x : Ref} (h : l[i]? = some x) (hj : x.job ≠ j) : without j (l.take (i + 1)) = without j (l.take i) ++ [x] := (without_y rfl h hj).symm
theorem without_same {l : List Ref} {i : Nat} {j : Int} {x : Ref} (h : l[i]? = some x) (hj : x.job = j) : without j (l.take (i + 1)) = without j (l.take i) := (without_n rfl h hj).symm
theorem RemI.keep {r : List Ref} {t i : Nat} {l : List Ref} {j : Int} {x : Ref} (h : RemI r t l j i) (hx : l[i]? = some x) (hj : x.job ≠ j) : RemI (r.set ((t + (without j (l.take i)).length) % r.length) x) t l j (i + 1) := by
 obtain ⟨h1, h2, h3, h4⟩ := h
 have hi := (List.getElem?_eq_some_iff.1 hx).1
 have hk : (without j (l.take i)).length ≤ i := by have := without_len j (l.take i); rw [List.length_take] at this; omega
 refine ⟨by rw [List.length_set]; exact h1, by rw [List.length_set]; exact h2, ?_, ?_⟩
 ·rw [without_snoc hx hj]
  intro q hq
  rw [List.length_append, List.length_singleton] at hq
  rw [List.length_set, List.getElem?_set]
  by_cases e : q = (without j (l.take i)).length
  ·subst e
   rw [if_pos rfl, if_pos (Nat.mod_lt _ om), List.getElem?_append_right (Nat.le_refl _), Nat.sub_self]; rfl
  ·rw [if_neg (fun z => e (mod_inj om om h1 z.symm)), List.getElem?_append_left om]
   exact h3 q om
 ·intro q hq hl
  rw [List.length_set, List.getElem?_set, if_neg (fun z => by have := mod_inj om om h1 z; omega)]
  exact h4 q om hl
theorem RemI.drop {r : List Ref} {t i : Nat} {l : List Ref} {j : Int} {x : Ref} (h : RemI r t l j i) (hx : l[i]? = some x) (hj : x.job = j) : RemI r t l j (i + 1) := by
  obtain ⟨h1, h2, h3, h4⟩ := h
  exact ⟨h1, h2, by rw [without_same hx hj]; exact h3, fun q hq hl => h4 q (by omega) hl⟩
theorem RemI.ring {r : List Ref} {t i : Nat} {l : List Ref} {j : Int} (h : RemI r t l j i) (hi : l.length ≤ i) : Ring r t (without j l) := by
  obtain ⟨h1, h2, h3, _⟩ := h
  rw [List.take_of_length_le hi] at h3
  exact ⟨h1, by have := without_len j l; omega, h3⟩
theorem ring_list {r : List Ref} {t i : Nat} {l : List Ref} {x : Ref} (h : Ring r t l) (hi : i < l.length) (hx : r[(t + i) % r.length]? = some x) : l.take i ++ [x] = l.take (i + 1) := (take_succ_at (h.at hi hx)).symm

/-- The program's deque at p. -/
def DqP (p : Nat) (S : DS) (M : Chunk) : Prop := ∃ (a : Option Addr) (n k t : Nat) (r : List Ref) (c : Chunk), M = [(p, .cells #[.slice a n k, .int .i64 ((t : Nat) : Int), .int .i64 ((S.l.length : Nat) : Int)] 152 (0, 0))] ++ c ∧ OwnT encRef 60 2 a n k r c ∧ S.cap = ((n : Nat) : Int) ∧ Ring r t S.l ∧ S.Wf
theorem pd_place {cs : List Chunk} {p : Nat} {a : Option Addr} {n k : Nat} {t s : Int} (z : Int) (hn : 0 < n ∧ n ≤ 256) (ht : 0 ≤ t ∧ t < n) (hz : 0 ≤ z ∧ z ≤ 512) (hS : Sat W w ([(p, .cells #[.slice a n k, I t, I s] 152 (0, 0))] :: cs)) :
  Calls Tryz.prog 120 #[Pt p 0, I z] w fun e w' => ∃ v : Nat, e = .returned (I ((v : Nat) : Int)) ∧ (v = (t.toNat + z.toNat) % n ∧ v < n) ∧ Sat W w' ([(p, .cells #[.slice a n k, I t, I s] 152 (0, 0))] :: cs) := by
 refine callsA 17 Tryz.func120 rfl ?_
 refine sR <| pu1 <| nT <| seqE ?_
 refine drawE [] [(3, ⟨p, 1, none⟩, I t), (9, ⟨p, 0, none⟩, .slice a n k)] [(true, [0, 1, 2, 4, 6, 7, 8]), (true, [3]), (true, [5]), (true, [9]), (true, [10]), (true, [11]), (true, [12])] rfl kr ⟨.inr (hS.cell 0 rfl rfl), .inr (hS.cell 0 rfl rfl), trivial⟩ ?_
 have a0 := hS.drew
 refine wU [0, 1, 2, 4, 6, 7, 8] ?_
 refine wLd (I t) 0 Tryz.isAgg3 ?_
 refine wAdd t z ?_
 refine wLd (.slice a n k) 1 Tryz.isAgg125 ?_
 refine wU [10] ?_
 refine wRem (t + z) ((n : Nat) : Int) ?_
 refine wU [12] ?_
 refine wN ?_
 refine thenK_n <| retE <| retT [I ((t + z).tmod ((n : Nat) : Int))] ?_
 exact ⟨_, congrArg (fun z => Ending.returned (I z)) (place_eq om om), ⟨rfl, Nat.mod_lt _ hn.1⟩, a0⟩
theorem pd_push {p : Nat} {S : DS} {M : Chunk} (hR : DqP p S M) (r_ : Ref) (hS : Sat W w (M :: H :: F)) :
  Calls Tryz.prog 156 #[Pt p 0, .agg #[I r_.job, I r_.task]] w fun e w' => ∃ M' : Chunk, e = .returned (I (pushC S)) ∧ DqP p (pushD S r_) M' ∧ Sat W w' (M' :: H :: F) := by
 obtain ⟨a, n, k, t, r, c, rfl, hO, hcap, hRg, hW⟩ := hR
 have i0 : Sat W _ ([(p, .cells #[.slice a n k, I ((t : Nat) : Int), I ((S.l.length : Nat) : Int)] 152 (0, 0))] :: c :: H :: F) := Sat.perm hS (by simp)
 have hn := hO.len; have hl := hO.le; have hw1 := hW.c; have hw2 := hW.n; have hr1 := hRg.1; have hr2 := hRg.2.1
 refine callsA 44 Tryz.func156 rfl ?_
 refine sR ?_
 refine sBox i0 (.agg #[I r_.job, I r_.task]) #[I r_.job, I r_.task] ?_
 intro e0 _ b0
 refine pu1 <| nT <| seqE <| sR <| pu6 <| gY ?_
 refine sL b0 1 0 (.slice a n k) (Tryz.isAgg125 _) ?_
 refine pu3 <| nT ?_
 have j0 : ¬ ((((n : Nat) : Int) : Int) = 0) := om
 refine cF _ (beq_eq_false_iff_ne.2 j0) ?_
 refine kT <| seqE <| seqE ?_
 refine drawE [] [(3, ⟨p, 2, none⟩, I ((S.l.length : Nat) : Int)), (7, ⟨p, 0, none⟩, .slice a n k)] [(true, [0, 1, 2, 4, 5, 6]), (true, [3]), (true, [7]), (true, [8, 9])] rfl kr ⟨.inr (b0.cell 1 rfl rfl), .inr (b0.cell 1 rfl rfl), trivial⟩ ?_
 have a0 := b0.drew
 refine wU [0, 1, 2, 4, 5, 6] ?_
 refine wLd (I ((S.l.length : Nat) : Int)) 0 Tryz.isAgg3 ?_
 refine wLd (.slice a n k) 1 Tryz.isAgg125 ?_
 refine wU [8, 9] ?_
 refine wN ?_
 refine thenK_n ?_
 refine cE ((S.l.length : Nat) : Int) ((n : Nat) : Int) (fun k0 => ?_) (fun k0 => ?_)
 ·refine sR <| pu1 <| nT <| retE <| thenK_r <| retT [I 19] ?_
  have hc : pushC S = 19 := by unfold pushC; rw [if_pos om]
  have l0 := (a0.dropAt 0 rfl)
  have m0 := (l0.merge2)
  have he : pushD S r_ = S := by unfold pushD; rw [hc, if_neg (by decide)]
  exact ⟨_, by rw [hc]; rfl, by rw [he]; exact ⟨_, _, _, t, _, _, rfl, hO, hcap, hRg, hW⟩, m0⟩
 refine kT <| seqE ?_
 refine drawE [9, 12] [(3, ⟨p, 0, none⟩, .slice a n k), (8, ⟨p, 2, none⟩, I ((S.l.length : Nat) : Int)), (10, ⟨e0, 0, none⟩, I r_.job), (10, ⟨e0, 1, none⟩, I r_.task)] [(true, [0, 1, 2, 4, 5, 6, 7]), (true, [3]), (true, [8]), (true, [10]), (false, [9]), (true, [11]), (false, [12])] rfl kr ⟨.inr (a0.cell 1 rfl rfl), .inr (a0.cell 1 rfl rfl), .inr (a0.cell 0 rfl rfl), .inr (a0.cell 0 rfl rfl), trivial⟩ ?_
 have n0 := a0.drew
 refine wU [0, 1, 2, 4, 5, 6, 7] ?_
 refine wLd (.slice a n k) 0 Tryz.isAgg125 ?_
 refine wLd (I ((S.l.length : Nat) : Int)) 1 Tryz.isAgg3 ?_
 refine wY (.agg #[I r_.job, I r_.task]) rfl (fun w hF => Y_loadF rfl (Tryz.isAgg60 w) (Tryz.sizeOf60 w) kr rfl ⟨hF 2 _ _ rfl, hF 3 _ _ rfl, trivial⟩) ?_
 refine wO rfl ?_
 have o0 := (n0.pick 1 rfl)
 refine cX Tryz.call120 (pd_place ((S.l.length : Nat) : Int) om om om o0) ?_
 rintro _ _ ⟨c0, rfl, p0, d0⟩
 have hv_15e := p0.1; rw [Int.toNat_natCast, Int.toNat_natCast] at hv_15e
 refine nilO ⟨⟨.inr (d0.cell 0 rfl rfl), dI, .inr (d0.cell 1 rfl rfl), .inr (d0.cell 1 rfl rfl), trivial⟩, ?_⟩
 obtain ⟨q0, r0, s0, f0, t0, g0, u0⟩ := OwnT.elem hO ((c0 : Nat) : Int)
 rw [Int.toNat_natCast] at f0 t0 g0
 refine wY (.pointer (some ⟨r0, s0 + c0 * 2, none⟩)) rfl (fun w _ => Y_idx (a := a) (i := ((c0 : Nat) : Int)) (len := n) (cap := k) rfl Tryz.runUnderlying125 Tryz.sizeOf60 kr kr g0) ?_
 refine wO rfl ?_
 refine sStF d0 hO u0 2 c0 0 q0 (⟨r_.job, r_.task⟩ : Ref) f0 (.agg #[I r_.job, I r_.task]) [I r_.job, I r_.task] Tryz.sizeOf60 ?_
 intro _ v0 w0 h0
 refine nilO ⟨dA, ?_⟩
 refine wN ?_
 refine thenK_n <| sR <| pu3 ?_
 refine sL h0 0 2 (I ((S.l.length : Nat) : Int)) (Tryz.isAgg3 _) ?_
 refine sAdd ((S.l.length : Nat) : Int) 1 ?_
 refine pu2 ?_
 refine sT h0 0 2 (I (((S.l.length : Nat) : Int) + 1)) [I (((S.l.length : Nat) : Int) + 1)] #[.slice a n k, I ((t : Nat) : Int), I (((S.l.length : Nat) : Int) + 1)] Tryz.sizeOf3 ?_
 intro x0 y0
 refine nT <| sR <| pu1 <| nT <| retE <| retT [I 0] ?_
 have hc : pushC S = 0 := by unfold pushC; rw [if_neg om]
 have hrp := hRg.push (x := r_) om; rw [hn, ← hv_15e] at hrp
 have hll : (S.l ++ [r_]).length = S.l.length + 1 := by simp
 have z0 : Sat W x0 ([(p, .cells #[.slice a n k, I ((t : Nat) : Int), I (((S.l ++ [r_]).length : Nat) : Int)] 152 (0, 0))] :: [(e0, .cells #[I r_.job, I r_.task] 60 (0, 0))] :: v0 :: H :: F) := by rw [hll]; exact y0
 have a1 := (z0.dropAt 1 rfl)
 have b1 := (a1.merge2)
 have he : pushD S r_ = { S with l := S.l ++ [r_] } := by unfold pushD; rw [if_pos hc]
 exact ⟨_, by rw [hc]; rfl, by rw [he]; exact ⟨_, _, _, t, _, _, rfl, w0, hcap, hrp, ⟨hW.c, by dsimp only; omega⟩⟩, b1⟩
theorem pd_pop {p : Nat} {S : DS} {M : Chunk} (hR : DqP p S M)  (hS : Sat W w (M :: H :: F)) :
  Calls Tryz.prog 127 #[Pt p 0] w fun e w' => (S.l = [] ∧ e = .returned (.tuple #[.agg #[I 0, I 0], .bool false]) ∧ Sat W w' (M :: H :: F)) ∨ (∃ (x : Ref) (M' : Chunk), S.l.getLast? = some x ∧ e = .returned (.tuple #[.agg #[I x.job, I x.task], .bool true]) ∧ DqP p { S with l := S.l.dropLast } M' ∧ Sat W w' (M' :: H :: F)) := by
 obtain ⟨a, n, k, t, r, c, rfl, hO, hcap, hRg, hW⟩ := hR
 have k0 : Sat W _ ([(p, .cells #[.slice a n k, I ((t : Nat) : Int), I ((S.l.length : Nat) : Int)] 152 (0, 0))] :: c :: H :: F) := Sat.perm hS (by simp)
 have hn := hO.len; have hl := hO.le; have hw1 := hW.c; have hw2 := hW.n; have hr1 := hRg.1; have hr2 := hRg.2.1
 refine callsA 33 Tryz.func127 rfl ?_
 refine sR ?_
 refine sAlloc k0 Tryz.zeroValue60 ?_
 intro l0 _ b0
 refine pu1 <| nT <| seqE <| sR <| pu6 <| gY ?_
 refine sL b0 1 2 (I ((S.l.length : Nat) : Int)) (Tryz.isAgg3 _) ?_
 refine pu2 <| nT ?_
 refine cE ((S.l.length : Nat) : Int) 0 (fun m0 => ?_) (fun m0 => ?_)
 ·refine sR <| pu1 ?_
  refine sT b0 0 0 (.agg #[I 0, I 0]) [I 0, I 0] #[I 0, I 0] Tryz.sizeOf60 ?_
  intro _ f0
  refine pu1 <| nT <| retE <| thenK_r <| retN (vs := [.agg #[I 0, I 0], .bool false]) rfl (.cons (.cell _ _ _ _ kr (lvA f0 0 0 [I 0, I 0] (Tryz.isAgg60 _) (Tryz.sizeOf60 _) rfl rfl rfl)) (.cons (.tmp _ _ kr) .nil)) ?_
  have n0 := (f0.dropAt 0 rfl)
  have o0 := (n0.merge2)
  exact .inl ⟨List.length_eq_zero_iff.1 om, rfl, o0⟩
 refine kT <| sR <| pu3 ?_
 refine sL b0 1 2 (I ((S.l.length : Nat) : Int)) (Tryz.isAgg3 _) ?_
 refine sSub ((S.l.length : Nat) : Int) 1 ?_
 refine pu2 ?_
 refine sT b0 1 2 (I (((S.l.length : Nat) : Int) - 1)) [I (((S.l.length : Nat) : Int) - 1)] #[.slice a n k, I ((t : Nat) : Int), I (((S.l.length : Nat) : Int) - 1)] Tryz.sizeOf3 ?_
 intro _ d0
 refine nT <| seqE ?_
 refine drawE [9, 11, 12] [(3, ⟨p, 0, none⟩, .slice a n k), (8, ⟨p, 2, none⟩, I (((S.l.length : Nat) : Int) - 1))] [(true, [0, 1, 2, 4, 5, 6, 7]), (true, [3]), (true, [8]), (false, [9]), (true, [10]), (false, [11]), (false, [12]), (true, [13])] rfl kr ⟨.inr (d0.cell 1 rfl rfl), .inr (d0.cell 1 rfl rfl), trivial⟩ ?_
 have p0 := d0.drew
 refine wU [0, 1, 2, 4, 5, 6, 7] ?_
 refine wLd (.slice a n k) 0 Tryz.isAgg125 ?_
 refine wLd (I (((S.l.length : Nat) : Int) - 1)) 1 Tryz.isAgg3 ?_
 refine wO rfl ?_
 have q0 := (p0.pick 1 rfl)
 refine cX Tryz.call120 (pd_place (((S.l.length : Nat) : Int) - 1) om om om q0) ?_
 rintro _ _ ⟨e0, rfl, r0, c0⟩
 have hv_17e := r0.1; rw [Int.toNat_natCast, show ((((S.l.length : Nat) : Int) - 1)).toNat = (S.l.length - 1) by omega] at hv_17e
 refine nilO ⟨⟨.inr (c0.cell 0 rfl rfl), dI, trivial⟩, ?_⟩
 obtain ⟨a0, s0, t0, g0, h0, i0, c1⟩ := OwnT.elem hO ((e0 : Nat) : Int)
 rw [Int.toNat_natCast] at g0 h0 i0
 refine wY (.pointer (some ⟨s0, t0 + e0 * 2, none⟩)) rfl (fun w _ => Y_idx (a := a) (i := ((e0 : Nat) : Int)) (len := n) (cap := k) rfl Tryz.runUnderlying125 Tryz.sizeOf60 kr kr i0) ?_
 refine wO rfl ?_
 refine sLpA c0 (h0.up 2 rfl) 0 [I a0.job, I a0.task] (Tryz.isAgg60 _) (Tryz.sizeOf60 _) ?_
 refine nilO ⟨⟨.inr (c0.cell 0 rfl rfl), dI, trivial⟩, ?_⟩
 refine wO rfl ?_
 refine sT c0 1 0 (.agg #[I a0.job, I a0.task]) [I a0.job, I a0.task] #[I a0.job, I a0.task] Tryz.sizeOf60 ?_
 intro u0 j0
 refine nilO ⟨dA, ?_⟩
 refine wU [13] ?_
 refine wN ?_
 refine thenK_n <| retE <| retN (vs := [.agg #[I a0.job, I a0.task], .bool true]) rfl (.cons (.cell _ _ _ _ kr (lvA j0 1 0 [I a0.job, I a0.task] (Tryz.isAgg60 _) (Tryz.sizeOf60 _) rfl rfl rfl)) (.cons (.tmp _ _ kr) .nil)) ?_
 have hxx : S.l[S.l.length - 1]? = some a0 := hRg.at om (by rw [hn, ← hv_17e]; exact g0)
 have hgl : S.l.getLast? = some a0 := by rw [List.getLast?_eq_getElem?]; exact hxx
 have v0 : Sat W u0 ([(p, .cells #[.slice a n k, I ((t : Nat) : Int), I ((S.l.dropLast.length : Nat) : Int)] 152 (0, 0))] :: [(l0, .cells #[I a0.job, I a0.task] 60 (0, 0))] :: c :: H :: F) := by rw [show (((S.l.dropLast.length : Nat) : Int)) = (((S.l.length : Nat) : Int) - 1) by rw [List.length_dropLast]; omega]; exact j0
 have w0 := (v0.dropAt 1 rfl)
 have x0 := (w0.merge2)
 exact .inr ⟨_, _, hgl, rfl, ⟨_, _, _, t, _, _, rfl, hO, hcap, hRg.pop, ⟨hW.c, by rw [List.length_dropLast]; dsimp only; omega⟩⟩, x0⟩
theorem pd_steal {p : Nat} {S : DS} {M : Chunk} (hR : DqP p S M)  (hS : Sat W w (M :: H :: F)) :
  Calls Tryz.prog 130 #[Pt p 0] w fun e w' => (S.l = [] ∧ e = .returned (.tuple #[.agg #[I 0, I 0], .bool false]) ∧ Sat W w' (M :: H :: F)) ∨ (∃ (x : Ref) (M' : Chunk), S.l.head? = some x ∧ e = .returned (.tuple #[.agg #[I x.job, I x.task], .bool true]) ∧ DqP p { S with l := S.l.tail } M' ∧ Sat W w' (M' :: H :: F)) := by
 obtain ⟨a, n, k, t, r, c, rfl, hO, hcap, hRg, hW⟩ := hR
 have n0 : Sat W _ ([(p, .cells #[.slice a n k, I ((t : Nat) : Int), I ((S.l.length : Nat) : Int)] 152 (0, 0))] :: c :: H :: F) := Sat.perm hS (by simp)
 have hn := hO.len; have hl := hO.le; have hw1 := hW.c; have hw2 := hW.n; have hr1 := hRg.1; have hr2 := hRg.2.1
 refine callsA 38 Tryz.func130 rfl ?_
 refine sR ?_
 refine sAlloc n0 Tryz.zeroValue60 ?_
 intro o0 _ b0
 refine pu1 <| nT <| seqE <| sR <| pu6 <| gY ?_
 refine sL b0 1 2 (I ((S.l.length : Nat) : Int)) (Tryz.isAgg3 _) ?_
 refine pu2 <| nT ?_
 refine cE ((S.l.length : Nat) : Int) 0 (fun p0 => ?_) (fun p0 => ?_)
 ·refine sR <| pu1 ?_
  refine sT b0 0 0 (.agg #[I 0, I 0]) [I 0, I 0] #[I 0, I 0] Tryz.sizeOf60 ?_
  intro _ h0
  refine pu1 <| nT <| retE <| thenK_r <| retN (vs := [.agg #[I 0, I 0], .bool false]) rfl (.cons (.cell _ _ _ _ kr (lvA h0 0 0 [I 0, I 0] (Tryz.isAgg60 _) (Tryz.sizeOf60 _) rfl rfl rfl)) (.cons (.tmp _ _ kr) .nil)) ?_
  have q0 := (h0.dropAt 0 rfl)
  have r0 := (q0.merge2)
  exact .inl ⟨List.length_eq_zero_iff.1 om, rfl, r0⟩
 refine kT <| seqE ?_
 obtain ⟨a0, f0, g0, i0, d0, j0, e1⟩ := OwnT.elem hO ((t : Nat) : Int)
 rw [Int.toNat_natCast] at i0 d0 j0
 refine drawE [10, 11] [(3, ⟨p, 0, none⟩, .slice a n k), (7, ⟨p, 1, none⟩, I ((t : Nat) : Int)), (9, ⟨f0, g0 + t * 2 + 0, none⟩, I a0.job), (9, ⟨f0, g0 + t * 2 + 1, none⟩, I a0.task)] [(true, [0, 1, 2, 4, 5, 6]), (true, [3]), (true, [7]), (true, [8]), (true, [9]), (false, [10]), (false, [11])] rfl kr ⟨.inr (b0.cell 1 rfl rfl), .inr (b0.cell 1 rfl rfl), .inr ((d0.up 2 rfl).cell b0 (k := 0) rfl), .inr ((d0.up 2 rfl).cell b0 (k := 1) rfl), trivial⟩ ?_
 have s0 := b0.drew
 refine wU [0, 1, 2, 4, 5, 6] ?_
 refine wLd (.slice a n k) 0 Tryz.isAgg125 ?_
 refine wLd (I ((t : Nat) : Int)) 1 Tryz.isAgg3 ?_
 refine wY (.pointer (some ⟨f0, g0 + t * 2, none⟩)) rfl (fun w _ => Y_idx (a := a) (i := ((t : Nat) : Int)) (len := n) (cap := k) rfl Tryz.runUnderlying125 Tryz.sizeOf60 kr kr j0) ?_
 refine wY (.agg #[I a0.job, I a0.task]) rfl (fun w hF => Y_loadF rfl (Tryz.isAgg60 w) (Tryz.sizeOf60 w) kr rfl ⟨hF 2 _ _ rfl, hF 3 _ _ rfl, trivial⟩) ?_
 refine wO rfl ?_
 refine sAlloc s0 Tryz.zeroValue60 ?_
 intro t0 _ e0
 refine nilO ⟨⟨.inr (e0.cell 2 rfl rfl), .inr (e0.cell 2 rfl rfl), .inr ((d0.up 3 rfl).cell e0 (k := 0) rfl), .inr ((d0.up 3 rfl).cell e0 (k := 1) rfl), trivial⟩, ?_⟩
 refine wO rfl ?_
 refine sT e0 0 0 (.agg #[I a0.job, I a0.task]) [I a0.job, I a0.task] #[I a0.job, I a0.task] Tryz.sizeOf60 ?_
 intro _ u0
 refine nilO ⟨dA, ?_⟩
 refine wN ?_
 refine thenK_n <| sR <| pu2 ?_
 have v0 := (u0.pick 2 rfl)
 refine cX Tryz.call120 (pd_place (1 : Int) om om om v0) ?_
 rintro _ _ ⟨c0, rfl, w0, x0⟩
 have hv_27e := w0.1; rw [Int.toNat_natCast, show ((1 : Int)).toNat = 1 by omega] at hv_27e
 refine pu2 ?_
 refine sT x0 0 1 (I ((c0 : Nat) : Int)) [I ((c0 : Nat) : Int)] #[.slice a n k, I ((c0 : Nat) : Int), I ((S.l.length : Nat) : Int)] Tryz.sizeOf3 ?_
 intro _ k0
 refine nT <| sR <| pu3 ?_
 refine sL k0 0 2 (I ((S.l.length : Nat) : Int)) (Tryz.isAgg3 _) ?_
 refine sSub ((S.l.length : Nat) : Int) 1 ?_
 refine pu2 ?_
 refine sT k0 0 2 (I (((S.l.length : Nat) : Int) - 1)) [I (((S.l.length : Nat) : Int) - 1)] #[.slice a n k, I ((c0 : Nat) : Int), I (((S.l.length : Nat) : Int) - 1)] Tryz.sizeOf3 ?_
 intro _ l0
 refine nT <| sR ?_
 refine lA l0 1 0 2 (Tryz.isAgg60 _) (Tryz.sizeOf60 _) ?_
 refine sT l0 2 0 (.agg #[I a0.job, I a0.task]) [I a0.job, I a0.task] #[I a0.job, I a0.task] Tryz.sizeOf60 ?_
 intro y0 m0
 refine pu1 <| nT <| retE <| retN (vs := [.agg #[I a0.job, I a0.task], .bool true]) rfl (.cons (.cell _ _ _ _ kr (lvA m0 2 0 [I a0.job, I a0.task] (Tryz.isAgg60 _) (Tryz.sizeOf60 _) rfl rfl rfl)) (.cons (.tmp _ _ kr) .nil)) ?_
 have hxx : S.l[0]? = some a0 := hRg.at om (by rw [Nat.add_zero, Nat.mod_eq_of_lt hr1]; exact i0)
 have hgl : S.l.head? = some a0 := by rw [List.head?_eq_getElem?]; exact hxx
 have hrs := hRg.steal; rw [hn, ← hv_27e] at hrs
 have z0 : Sat W y0 ([(p, .cells #[.slice a n k, I ((c0 : Nat) : Int), I ((S.l.tail.length : Nat) : Int)] 152 (0, 0))] :: [(t0, .cells #[I a0.job, I a0.task] 60 (0, 0))] :: [(o0, .cells #[I a0.job, I a0.task] 60 (0, 0))] :: c :: H :: F) := by rw [show (((S.l.tail.length : Nat) : Int)) = (((S.l.length : Nat) : Int) - 1) by rw [List.length_tail]; omega]; exact m0
 have a1 := (z0.drops [1, 1])
 have b1 := (a1.merge2)
 exact .inr ⟨_, _, hgl, rfl, ⟨_, _, _, c0, _, _, rfl, hO, hcap, hrs, ⟨hW.c, by rw [List.length_tail]; dsimp only; omega⟩⟩, b1⟩
theorem pd_list {p : Nat} {S : DS} {M : Chunk} (hR : DqP p S M)  (hS : Sat W w (M :: H :: F)) :
  Calls Tryz.prog 114 #[Pt p 0] w fun e w' => ∃ (az : Option Addr) (nz kz : Nat) (Z : Chunk), e = .returned (.slice az nz kz) ∧ OwnT encRef 60 2 az nz kz S.l Z ∧ Sat W w' (Z :: M :: H :: F) := by
 obtain ⟨a, n, k, t, r, c, rfl, hO, hcap, hRg, hW⟩ := hR
 have e0 : Sat W _ ([(p, .cells #[.slice a n k, I ((t : Nat) : Int), I ((S.l.length : Nat) : Int)] 152 (0, 0))] :: c :: H :: F) := Sat.perm hS (by simp)
 have hn := hO.len; have hl := hO.le; have hw1 := hW.c; have hw2 := hW.n; have hr1 := hRg.1; have hr2 := hRg.2.1
 refine callsA 28 Tryz.func114 rfl ?_
 refine sR <| pu1 <| nT <| seqE <| sR <| pu2 <| nT <| cFf <| kT <| sR <| pu1 <| nT <| seqE <| sR <| pu3 ?_
 refine sL e0 0 2 (I ((S.l.length : Nat) : Int)) (Tryz.isAgg3 _) ?_
 refine pu1 <| nT <| blockE ?_
 have k0 := Sat.nilc e0
 have l0 := OwnT.nil (enc := encRef) (E := 60) (sz := 2) fR
 refine loopA (γ := Nat × (List Ref) × (Option Addr) × Nat × Nat × Chunk) (fun ⟨i, zs, azs, nzs, kzs, czs⟩ => [(0, Pt p 0), (10, I ((S.l.length : Nat) : Int)), (11, I ((i : Nat) : Int)), (3, .slice azs nzs kzs)]) (fun ⟨i, zs, azs, nzs, kzs, czs⟩ w => Sat W w (czs :: [(p, .cells #[.slice a n k, I ((t : Nat) : Int), I ((S.l.length : Nat) : Int)] 152 (0, 0))] :: c :: H :: F) ∧ i ≤ S.l.length ∧ (zs = S.l.take i) ∧ (zs.length ≤ i) ∧ OwnT encRef 60 2 azs nzs kzs zs czs) (fun ⟨i, zs, azs, nzs, kzs, czs⟩ => S.l.length - i) (0, [], none, 0, 0, []) ⟨k0, om, rfl, by simp, l0⟩ ?_
 rintro ⟨i, zs, azs, nzs, kzs, czs⟩ ρ _ ⟨c0, hi, hz, hzl, hOzs⟩
 have hn_zs := hOzs.len; have hl_zs := hOzs.le
 refine sR <| pu1 <| nT <| seqE ?_
 refine cD (((i : Nat) : Int) < ((S.l.length : Nat) : Int)) (fun m0 => ?_) (fun m0 => ?_)
 rotate_left
 ·refine exitE <| xB <| thenK_n <| sR <| pu2 <| nT <| retE <| retT [.slice azs nzs kzs] ?_
  have hzl_ : zs = S.l := by rw [hz, List.take_of_length_le om]
  have hOl_ := hOzs; rw [hzl_] at hOl_
  have n0 := (c0.picks [2, 2])
  have o0 := ((n0.merge2).pick 1 rfl)
  exact ⟨_, _, _, _, rfl, hOl_, o0⟩
 refine kT <| seqE <| blockE <| sR <| pu2 <| nT ?_
 refine drawE [7, 9, 10, 11] [(4, ⟨p, 0, none⟩, .slice a n k)] [(true, [0, 1, 2, 3, 5, 6]), (true, [4]), (false, [7]), (true, [8]), (false, [9]), (false, [10]), (false, [11]), (true, [12])] rfl kr ⟨.inr (c0.cell 1 rfl rfl), trivial⟩ ?_
 have p0 := c0.drew
 refine wU [0, 1, 2, 3, 5, 6] ?_
 refine wLd (.slice a n k) 0 Tryz.isAgg125 ?_
 refine wO rfl ?_
 have q0 := (p0.pick 1 rfl)
 refine cX Tryz.call120 (pd_place ((i : Nat) : Int) om om om q0) ?_
 rintro _ _ ⟨d0, rfl, r0, b0⟩
 have hv_12e := r0.1; rw [Int.toNat_natCast, Int.toNat_natCast] at hv_12e
 refine nilO ⟨⟨.inr (b0.cell 0 rfl rfl), trivial⟩, ?_⟩
 obtain ⟨a0, s0, t0, f0, g0, h0, b1⟩ := OwnT.elem hO ((d0 : Nat) : Int)
 rw [Int.toNat_natCast] at f0 g0 h0
 refine wY (.pointer (some ⟨s0, t0 + d0 * 2, none⟩)) rfl (fun w _ => Y_idx (a := a) (i := ((d0 : Nat) : Int)) (len := n) (cap := k) rfl Tryz.runUnderlying125 Tryz.sizeOf60 kr kr h0) ?_
 refine wO rfl ?_
 refine sLpA b0 (g0.up 2 rfl) 0 [I a0.job, I a0.task] (Tryz.isAgg60 _) (Tryz.sizeOf60 _) ?_
 refine nilO ⟨⟨.inr (b0.cell 0 rfl rfl), trivial⟩, ?_⟩
 refine wO rfl ?_
 refine sBS b0 #[I a0.job, I a0.task] Tryz.runUnderlying125 Tryz.sizeOf60 Tryz.zeroValue60 ?_
 intro _ _ i0
 refine nilO ⟨⟨.inr (i0.cell 1 rfl rfl), trivial⟩, ?_⟩
 refine wO rfl ?_
 refine sApp (nb := 16) i0 hOzs 2 (RdT.blk (enc := encRef) (sz := 2) (xs := [(⟨a0.job, a0.task⟩ : Ref)]) fR 1 0 rfl rfl rfl om) Tryz.underlying125 (i := Tryz.t60) kr fR ?_
 intro u0 v0 w0 _ x0 j0
 refine nilO ⟨⟨.inr (j0.cell 1 rfl rfl), trivial⟩, ?_⟩
 refine wU [12] ?_
 refine wN ?_
 refine blockK_n <| thenK_n <| regionE ?_
 refine sAdd ((i : Nat) : Int) 1 ?_
 refine pu1 <| nT ?_
 have y0 := ((j0.pick 2 rfl).dropAt 1 rfl)
 exact ⟨(i + 1, (zs ++ [(⟨a0.job, a0.task⟩ : Ref)]), u0, (nzs + 1), v0, w0), od, alA, y0, om, (by rw [hz]; exact ring_list hRg om (by rw [hn, ← hv_12e]; exact f0)), (by first | omega | (simp; omega)), x0⟩
theorem pd_drain {p : Nat} {S : DS} {M : Chunk} (hR : DqP p S M)  (hS : Sat W w (M :: H :: F)) :
  Calls Tryz.prog 64 #[Pt p 0] w fun e w' => ∃ (a : Option Addr) (n k : Nat) (Z M' : Chunk), e = .returned (.slice a n k) ∧ OwnT encRef 60 2 a n k S.l Z ∧ DqP p { S with l := [] } M' ∧ Sat W w' (Z :: M' :: H :: F) := by
 refine callsA 15 Tryz.func64 rfl ?_
 refine sR <| pu1 <| nT <| sR <| pu1 ?_
 refine cX Tryz.call114 (pd_list hR (Sat.flat1 hS)) ?_
 rintro _ _ ⟨b0, c0, d0, e0, rfl, a0, f0⟩
 have g0 := Sat.unflat2 f0; have hn_az_4 := a0.len; have hl_az_4 := a0.le
 refine pu1 <| nT <| seqE <| sR <| pu2 <| nT <| cTt ?_
 obtain ⟨a, n, k, t, r, c, rfl, hO, hcap, hRg, hW⟩ := hR
 have h0 := (g0.pick 1 rfl)
 have i0 : Sat W _ ([(p, .cells #[.slice a n k, I ((t : Nat) : Int), I ((S.l.length : Nat) : Int)] 152 (0, 0))] :: c :: e0 :: H :: F) := Sat.perm h0 (by simp)
 have hn := hO.len; have hl := hO.le; have hw1 := hW.c; have hw2 := hW.n; have hr1 := hRg.1; have hr2 := hRg.2.1
 refine regionE <| pu4 ?_
 refine sT i0 0 1 (I 0) [I 0] #[.slice a n k, I 0, I ((S.l.length : Nat) : Int)] Tryz.sizeOf3 ?_
 intro _ j0
 refine pu2 ?_
 refine sT j0 0 2 (I 0) [I 0] #[.slice a n k, I 0, I 0] Tryz.sizeOf3 ?_
 intro _ k0
 refine nT <| sR <| pu2 <| nT <| retE <| retT [.slice b0 c0 d0] ?_
 have l0 := ((k0.merge2).pick 1 rfl)
 exact ⟨_, _, _, _, _, rfl, a0, ⟨_, _, _, 0, _, _, rfl, hO, hcap, Ring.nil om, ⟨hW.c, by simp; omega⟩⟩, l0⟩
theorem pd_remove {p : Nat} {S : DS} {M : Chunk} (hR : DqP p S M) (j : Int) (hS : Sat W w (M :: H :: F)) :
  Calls Tryz.prog 72 #[Pt p 0, I j] w fun e w' => ∃ (M' : Chunk) (v : Int), e = .returned (I v) ∧ DqP p ({ S with l := without j S.l }) M' ∧ Sat W w' (M' :: H :: F) := by
 obtain ⟨a, n, k, t, r, c, rfl, hO, hcap, hRg, hW⟩ := hR
 have u0 : Sat W _ ([(p, .cells #[.slice a n k, I ((t : Nat) : Int), I ((S.l.length : Nat) : Int)] 152 (0, 0))] :: c :: H :: F) := Sat.perm hS (by simp)
 have hn := hO.len; have hl := hO.le; have hw1 := hW.c; have hw2 := hW.n; have hr1 := hRg.1; have hr2 := hRg.2.1
 refine callsA 54 Tryz.func72 rfl ?_
 refine sR <| pu1 <| nT <| seqE <| sR <| pu2 <| nT <| cFf <| kT <| sR <| pu1 <| nT <| seqE <| sR <| pu3 ?_
 refine sL u0 0 2 (I ((S.l.length : Nat) : Int)) (Tryz.isAgg3 _) ?_
 refine pu1 <| nT <| blockE ?_
 refine loopA (γ := Nat × (List Ref) × Chunk × Int) (fun ⟨i, ri, ci, kp⟩ => [(0, Pt p 0), (1, I j), (14, I ((S.l.length : Nat) : Int)), (15, I ((i : Nat) : Int)), (5, I kp)]) (fun ⟨i, ri, ci, kp⟩ w => Sat W w ([(p, .cells #[.slice a n k, I ((t : Nat) : Int), I ((S.l.length : Nat) : Int)] 152 (0, 0))] :: ci :: H :: F) ∧ i ≤ S.l.length ∧ (OwnT encRef 60 2 a n k ri ci) ∧ (RemI ri t S.l j i) ∧ (kp = (((without j (S.l.take i)).length : Nat) : Int))) (fun ⟨i, ri, ci, kp⟩ => S.l.length - i) (0, r, c, 0) ⟨u0, om, hO, hRg.rem, by simp [without]⟩ ?_
 rintro ⟨i, ri, ci, kp⟩ ρ _ ⟨k0, hi, hOi, hRI, hkp⟩
 have hri := hOi.len; have hr3 := hRI.1; have hr4 := hRI.2.1; have hwl := without_len j (S.l.take i); rw [List.length_take] at hwl
 refine sR <| pu1 <| nT <| seqE ?_
 refine cD (((i : Nat) : Int) < ((S.l.length : Nat) : Int)) (fun k1 => ?_) (fun k1 => ?_)
 rotate_left
 ·refine exitE <| xB <| thenK_n <| sR <| pu3 ?_
  refine sL k0 0 2 (I ((S.l.length : Nat) : Int)) (Tryz.isAgg3 _) ?_
  refine pu1 ?_
  refine sSub ((S.l.length : Nat) : Int) kp ?_
  refine pu1 <| nT <| sR <| pu4 ?_
  refine sT k0 0 2 (I kp) [I kp] #[.slice a n k, I ((t : Nat) : Int), I kp] Tryz.sizeOf3 ?_
  intro l1 m1
  refine nT <| sR <| pu2 <| nT <| retE <| retT [I (((S.l.length : Nat) : Int) - kp)] ?_
  have n1 : Sat W l1 ([(p, .cells #[.slice a n k, I ((t : Nat) : Int), I (((without j S.l).length : Nat) : Int)] 152 (0, 0))] :: ci :: H :: F) := by rw [show ((((without j S.l).length : Nat) : Int)) = kp by rw [hkp, List.take_of_length_le om]]; exact m1
  have o1 := (n1.merge2)
  exact ⟨_, _, rfl, ⟨_, _, _, t, _, _, rfl, hOi, hcap, hRI.ring om, ⟨hW.c, by have := without_len j S.l; dsimp only; omega⟩⟩, o1⟩
 refine kT <| seqE <| blockE <| sR <| pu2 <| nT <| seqE ?_
 refine drawP [6, 8, 9, 10] [(3, ⟨p, 0, none⟩, .slice a n k)] (Plan.sts [0, 1, 2, 4, 5] <| Plan.sts [3] <| .fk 6 9 (Plan.sts [7] <| .fk 8 9 (.ef 9 <| .ef 10 <| .fin) (.ef 8 <| .ef 10 <| .fin)) (.ef 6 <| Plan.sts [7] <| .ef 8 <| .ef 10 <| .fin)) rfl kr ⟨.inr (k0.cell 0 rfl rfl), trivial⟩ ?_
 have v0 := k0.drew
 refine qU [0, 1, 2, 4, 5] ?_
 refine qLd (.slice a n k) 0 Tryz.isAgg125 ?_
 refine qF ?_ ?_
 rotate_left
 ·refine qO rfl ?_
  refine sAlloc v0 Tryz.zeroValue60 ?_
  intro w0 _ x0
  refine nilO ⟨⟨.inr (x0.cell 1 rfl rfl), trivial⟩, ?_⟩
  refine qO rfl ?_
  have p1 := (x0.pick 1 rfl)
  refine cX Tryz.call120 (pd_place ((i : Nat) : Int) om om om p1) ?_
  rintro _ _ ⟨q0, rfl, q1, l0⟩
  have hv_74e := q1.1; rw [Int.toNat_natCast, Int.toNat_natCast] at hv_74e
  refine nilO ⟨⟨.inr (l0.cell 0 rfl rfl), trivial⟩, ?_⟩
  obtain ⟨b0, r1, s1, r0, y0, z0, o3⟩ := OwnT.elem hOi ((q0 : Nat) : Int)
  rw [Int.toNat_natCast] at r0 y0 z0
  refine qY (.pointer (some ⟨r1, s1 + q0 * 2, none⟩)) rfl (fun w _ => Y_idx (a := a) (i := ((q0 : Nat) : Int)) (len := n) (cap := k) rfl Tryz.runUnderlying125 Tryz.sizeOf60 kr kr z0) ?_
  refine qO rfl ?_
  refine sLpA l0 (y0.up 2 rfl) 0 [I b0.job, I b0.task] (Tryz.isAgg60 _) (Tryz.sizeOf60 _) ?_
  refine nilO ⟨⟨.inr (l0.cell 0 rfl rfl), trivial⟩, ?_⟩
  refine qO rfl ?_
  refine sT l0 1 0 (.agg #[I b0.job, I b0.task]) [I b0.job, I b0.task] #[I b0.job, I b0.task] Tryz.sizeOf60 ?_
  intro _ c0
  refine nilO ⟨dA, ?_⟩
  refine qN ?_
  refine thenK_n <| sR <| pu1 ?_
  refine sL c0 1 0 (I b0.job) (Tryz.isAgg3 _) ?_
  refine pu2 <| nT ?_
  refine cN b0.job j (fun t1 => ?_) (fun t1 => ?_)
  ·refine skipE <| blockK_n <| thenK_n <| regionE ?_
   refine sAdd ((i : Nat) : Int) 1 ?_
   refine pu1 <| nT ?_
   have u1 := (c0.dropAt 1 rfl)
   have hxx := hRI.at om (by rw [hri, ← hv_74e]; exact r0)
   exact ⟨(i + 1, ri, ci, kp), od, alA, u1, om, hOi, hRI.drop hxx om, by rw [hkp, without_same hxx om]⟩
  refine seqE ?_
  refine drawE [6, 9] [(3, ⟨p, 0, none⟩, .slice a n k), (7, ⟨w0, 0, none⟩, I b0.job), (7, ⟨w0, 1, none⟩, I b0.task)] [(true, [0, 1, 2, 4, 5]), (true, [3]), (true, [7]), (false, [6]), (true, [8]), (false, [9])] rfl kr ⟨.inr (c0.cell 0 rfl rfl), .inr (c0.cell 1 rfl rfl), .inr (c0.cell 1 rfl rfl), trivial⟩ ?_
  have v1 := c0.drew
  refine wU [0, 1, 2, 4, 5] ?_
  refine wLd (.slice a n k) 0 Tryz.isAgg125 ?_
  refine wY (.agg #[I b0.job, I b0.task]) rfl (fun w hF => Y_loadF rfl (Tryz.isAgg60 w) (Tryz.sizeOf60 w) kr rfl ⟨hF 1 _ _ rfl, hF 2 _ _ rfl, trivial⟩) ?_
  refine wO rfl ?_
  refine cX Tryz.call120 (pd_place kp om om om v1) ?_
  rintro _ _ ⟨f0, rfl, w1, m0⟩
  have hv_90e := w1.1; rw [Int.toNat_natCast, show (kp).toNat = (without j (S.l.take i)).length by omega] at hv_90e
  refine nilO ⟨⟨.inr (m0.cell 0 rfl rfl), .inr (m0.cell 1 rfl rfl), .inr (m0.cell 1 rfl rfl), trivial⟩, ?_⟩
  obtain ⟨x1, y1, z1, a1, a2, b1, b2⟩ := OwnT.elem hOi ((f0 : Nat) : Int)
  rw [Int.toNat_natCast] at a1 a2 b1
  refine wY (.pointer (some ⟨y1, z1 + f0 * 2, none⟩)) rfl (fun w _ => Y_idx (a := a) (i := ((f0 : Nat) : Int)) (len := n) (cap := k) rfl Tryz.runUnderlying125 Tryz.sizeOf60 kr kr b1) ?_
  refine wO rfl ?_
  refine sStF m0 hOi b2 2 f0 0 x1 (⟨b0.job, b0.task⟩ : Ref) a1 (.agg #[I b0.job, I b0.task]) [I b0.job, I b0.task] Tryz.sizeOf60 ?_
  intro _ c2 d2 e2
  refine nilO ⟨dA, ?_⟩
  refine wN ?_
  refine thenK_n <| regionE <| pu1 ?_
  refine sAdd kp 1 ?_
  refine pu1 <| nB <| regionE ?_
  refine sAdd ((i : Nat) : Int) 1 ?_
  refine pu1 <| nT ?_
  have f2 := (e2.dropAt 1 rfl)
  have hxx := hRI.at om (by rw [hri, ← hv_74e]; exact r0)
  have hrk := hRI.keep hxx om
  exact ⟨(i + 1, (ri.set f0 (⟨b0.job, b0.task⟩ : Ref)), c2, (kp + 1)), od, alA, f2, om, d2, (by rw [hri, ← hv_90e] at hrk; exact hrk), by rw [hkp, without_snoc hxx om, List.length_append, List.length_singleton]; omega⟩
 refine qO rfl ?_
 refine cX Tryz.call120 (pd_place ((i : Nat) : Int) om om om v0) ?_
 rintro _ _ ⟨s0, rfl, g2, g0⟩
 have hv_9e := g2.1; rw [Int.toNat_natCast, Int.toNat_natCast] at hv_9e
 refine nilO ⟨⟨.inr (g0.cell 0 rfl rfl), trivial⟩, ?_⟩
 obtain ⟨a0, h2, i2, h0, t0, c1, t3⟩ := OwnT.elem hOi ((s0 : Nat) : Int)
 rw [Int.toNat_natCast] at h0 t0 c1
 refine qY (.pointer (some ⟨h2, i2 + s0 * 2, none⟩)) rfl (fun w _ => Y_idx (a := a) (i := ((s0 : Nat) : Int)) (len := n) (cap := k) rfl Tryz.runUnderlying125 Tryz.sizeOf60 kr kr c1) ?_
 refine qF ?_ ?_
 ·refine qO rfl ?_
  refine sLpA g0 (t0.up 1 rfl) 0 [I a0.job, I a0.task] (Tryz.isAgg60 _) (Tryz.sizeOf60 _) ?_
  refine nilO ⟨⟨.inr (g0.cell 0 rfl rfl), trivial⟩, ?_⟩
  refine qO rfl ?_
  refine sAlloc g0 Tryz.zeroValue60 ?_
  intro d1 _ e1
  refine nilO ⟨⟨.inr (e1.cell 1 rfl rfl), trivial⟩, ?_⟩
  refine qO rfl ?_
  refine sT e1 0 0 (.agg #[I a0.job, I a0.task]) [I a0.job, I a0.task] #[I a0.job, I a0.task] Tryz.sizeOf60 ?_
  intro _ d0
  refine nilO ⟨dA, ?_⟩
  refine qN ?_
  refine thenK_n <| sR <| pu1 ?_
  refine sL d0 0 0 (I a0.job) (Tryz.isAgg3 _) ?_
  refine pu2 <| nT ?_
  refine cN a0.job j (fun j2 => ?_) (fun j2 => ?_)
  ·refine skipE <| blockK_n <| thenK_n <| regionE ?_
   refine sAdd ((i : Nat) : Int) 1 ?_
   refine pu1 <| nT ?_
   have k2 := (d0.dropAt 0 rfl)
   have hxx := hRI.at om (by rw [hri, ← hv_9e]; exact h0)
   exact ⟨(i + 1, ri, ci, kp), od, alA, k2, om, hOi, hRI.drop hxx om, by rw [hkp, without_same hxx om]⟩
  refine seqE ?_
  refine drawE [6, 9] [(3, ⟨p, 0, none⟩, .slice a n k), (7, ⟨d1, 0, none⟩, I a0.job), (7, ⟨d1, 1, none⟩, I a0.task)] [(true, [0, 1, 2, 4, 5]), (true, [3]), (true, [7]), (false, [6]), (true, [8]), (false, [9])] rfl kr ⟨.inr (d0.cell 1 rfl rfl), .inr (d0.cell 0 rfl rfl), .inr (d0.cell 0 rfl rfl), trivial⟩ ?_
  have l2 := d0.drew
  refine wU [0, 1, 2, 4, 5] ?_
  refine wLd (.slice a n k) 0 Tryz.isAgg125 ?_
  refine wY (.agg #[I a0.job, I a0.task]) rfl (fun w hF => Y_loadF rfl (Tryz.isAgg60 w) (Tryz.sizeOf60 w) kr rfl ⟨hF 1 _ _ rfl, hF 2 _ _ rfl, trivial⟩) ?_
  refine wO rfl ?_
  have m2 := (l2.pick 1 rfl)
  refine cX Tryz.call120 (pd_place kp om om om m2) ?_
  rintro _ _ ⟨i0, rfl, n2, n0⟩
  have hv_29e := n2.1; rw [Int.toNat_natCast, show (kp).toNat = (without j (S.l.take i)).length by omega] at hv_29e
  refine nilO ⟨⟨.inr (n0.cell 0 rfl rfl), .inr (n0.cell 1 rfl rfl), .inr (n0.cell 1 rfl rfl), trivial⟩, ?_⟩
  obtain ⟨o2, p2, q2, f1, r2, g1, s2⟩ := OwnT.elem hOi ((i0 : Nat) : Int)
  rw [Int.toNat_natCast] at f1 r2 g1
  refine wY (.pointer (some ⟨p2, q2 + i0 * 2, none⟩)) rfl (fun w _ => Y_idx (a := a) (i := ((i0 : Nat) : Int)) (len := n) (cap := k) rfl Tryz.runUnderlying125 Tryz.sizeOf60 kr kr g1) ?_
  refine wO rfl ?_
  refine sStF n0 hOi s2 2 i0 0 o2 (⟨a0.job, a0.task⟩ : Ref) f1 (.agg #[I a0.job, I a0.task]) [I a0.job, I a0.task] Tryz.sizeOf60 ?_
  intro _ t2 u2 v2
  refine nilO ⟨dA, ?_⟩
  refine wN ?_
  refine thenK_n <| regionE <| pu1 ?_
  refine sAdd kp 1 ?_
  refine pu1 <| nB <| regionE ?_
  refine sAdd ((i : Nat) : Int) 1 ?_
  refine pu1 <| nT ?_
  have w2 := (v2.dropAt 1 rfl)
  have hxx := hRI.at om (by rw [hri, ← hv_9e]; exact h0)
  have hrk := hRI.keep hxx om
  exact ⟨(i + 1, (ri.set i0 (⟨a0.job, a0.task⟩ : Ref)), t2, (kp + 1)), od, alA, w2, om, u2, (by rw [hri, ← hv_29e] at hrk; exact hrk), by rw [hkp, without_snoc hxx om, List.length_append, List.length_singleton]; omega⟩
 refine qO rfl ?_
 refine sAlloc g0 Tryz.zeroValue60 ?_
 intro h1 _ o0
 refine nilO ⟨⟨.inr (o0.cell 1 rfl rfl), trivial⟩, ?_⟩
 refine qO rfl ?_
 refine sLpA o0 (t0.up 2 rfl) 0 [I a0.job, I a0.task] (Tryz.isAgg60 _) (Tryz.sizeOf60 _) ?_
 refine nilO ⟨⟨.inr (o0.cell 1 rfl rfl), trivial⟩, ?_⟩
 refine qO rfl ?_
 refine sT o0 0 0 (.agg #[I a0.job, I a0.task]) [I a0.job, I a0.task] #[I a0.job, I a0.task] Tryz.sizeOf60 ?_
 intro _ e0
 refine nilO ⟨dA, ?_⟩
 refine qN ?_
 refine thenK_n <| sR <| pu1 ?_
 refine sL e0 0 0 (I a0.job) (Tryz.isAgg3 _) ?_
 refine pu2 <| nT ?_
 refine cN a0.job j (fun x2 => ?_) (fun x2 => ?_)
 ·refine skipE <| blockK_n <| thenK_n <| regionE ?_
  refine sAdd ((i : Nat) : Int) 1 ?_
  refine pu1 <| nT ?_
  have y2 := (e0.dropAt 0 rfl)
  have hxx := hRI.at om (by rw [hri, ← hv_9e]; exact h0)
  exact ⟨(i + 1, ri, ci, kp), od, alA, y2, om, hOi, hRI.drop hxx om, by rw [hkp, without_same hxx om]⟩
 refine seqE ?_
 refine drawE [6, 9] [(3, ⟨p, 0, none⟩, .slice a n k), (7, ⟨h1, 0, none⟩, I a0.job), (7, ⟨h1, 1, none⟩, I a0.task)] [(true, [0, 1, 2, 4, 5]), (true, [3]), (true, [7]), (false, [6]), (true, [8]), (false, [9])] rfl kr ⟨.inr (e0.cell 1 rfl rfl), .inr (e0.cell 0 rfl rfl), .inr (e0.cell 0 rfl rfl), trivial⟩ ?_
 have z2 := e0.drew
 refine wU [0, 1, 2, 4, 5] ?_
 refine wLd (.slice a n k) 0 Tryz.isAgg125 ?_
 refine wY (.agg #[I a0.job, I a0.task]) rfl (fun w hF => Y_loadF rfl (Tryz.isAgg60 w) (Tryz.sizeOf60 w) kr rfl ⟨hF 1 _ _ rfl, hF 2 _ _ rfl, trivial⟩) ?_
 refine wO rfl ?_
 have a3 := (z2.pick 1 rfl)
 refine cX Tryz.call120 (pd_place kp om om om a3) ?_
 rintro _ _ ⟨j0, rfl, b3, p0⟩
 have hv_54e := b3.1; rw [Int.toNat_natCast, show (kp).toNat = (without j (S.l.take i)).length by omega] at hv_54e
 refine nilO ⟨⟨.inr (p0.cell 0 rfl rfl), .inr (p0.cell 1 rfl rfl), .inr (p0.cell 1 rfl rfl), trivial⟩, ?_⟩
 obtain ⟨c3, d3, e3, i1, f3, j1, g3⟩ := OwnT.elem hOi ((j0 : Nat) : Int)
 rw [Int.toNat_natCast] at i1 f3 j1
 refine wY (.pointer (some ⟨d3, e3 + j0 * 2, none⟩)) rfl (fun w _ => Y_idx (a := a) (i := ((j0 : Nat) : Int)) (len := n) (cap := k) rfl Tryz.runUnderlying125 Tryz.sizeOf60 kr kr j1) ?_
 refine wO rfl ?_
 refine sStF p0 hOi g3 2 j0 0 c3 (⟨a0.job, a0.task⟩ : Ref) i1 (.agg #[I a0.job, I a0.task]) [I a0.job, I a0.task] Tryz.sizeOf60 ?_
 intro _ h3 i3 j3
 refine nilO ⟨dA, ?_⟩
 refine wN ?_
 refine thenK_n <| regionE <| pu1 ?_
 refine sAdd kp 1 ?_
 refine pu1 <| nB <| regionE ?_
 refine sAdd ((i : Nat) : Int) 1 ?_
 refine pu1 <| nT ?_
 have k3 := (j3.dropAt 1 rfl)
 have hxx := hRI.at om (by rw [hri, ← hv_9e]; exact h0)
 have hrk := hRI.keep hxx om
 exact ⟨(i + 1, (ri.set j0 (⟨a0.job, a0.task⟩ : Ref)), h3, (kp + 1)), od, alA, k3, om, i3, (by rw [hri, ← hv_54e] at hrk; exact hrk), by rw [hkp, without_snoc hxx om, List.length_append, List.length_singleton]; omega⟩
theorem pd_new {cs : List Chunk} (c : Int) (hc : 1 ≤ c ∧ c ≤ 256) (hS : Sat W w cs) :
  Calls Tryz.prog 45 #[I c] w fun e w' => ∃ (p : Nat) (M : Chunk), e = .returned (.tuple #[Pt p 0, I 0]) ∧ DqP p ⟨c, []⟩ M ∧ Sat W w' (M :: cs) := by
 refine callsA 14 Tryz.func45 rfl ?_
 refine sR <| pu2 <| nT <| seqE <| sR <| pu3 ?_
 refine sD 6 (c < 1) (fun d0 => ?_) (fun d0 => ?_)
 ·refine pu3 <| nT <| cTt <| sR <| pu2 <| nT <| retE <| thenK_r <| retT [.pointer none, I 2] ?_
  omega
 refine pu3 <| nT ?_
 refine cD (c > 256) (fun e0 => ?_) (fun e0 => ?_)
 ·refine sR <| pu2 <| nT <| retE <| thenK_r <| retT [.pointer none, I 2] ?_
  omega
 refine kT <| sR <| pu1 ?_
 refine sMake (kl := .i64) (kc := .i64) (enc := encRef) (sz := 2) (nb := 16) hS ⟨0, 0⟩ (c).toNat c (om : c = (((c).toNat : Nat) : Int)) Tryz.underlying125 (i := Tryz.t60) kr fR ?_
 intro a0 c0 _ f0 g0
 refine pu1 ?_
 refine sBox g0 (.agg #[.slice (At a0 0) ((c).toNat) ((c).toNat), I 0, I 0]) #[.slice (At a0 0) ((c).toNat) ((c).toNat), I 0, I 0] ?_
 intro b0 _ h0
 refine pu2 <| nT <| retE <| retT [Pt b0 0, I 0] ?_
 have i0 : Sat W _ (([(b0, .cells #[.slice (At a0 0) ((c).toNat) ((c).toNat), I 0, I 0] 152 (0, 0))] ++ c0) :: cs) := Sat.perm (show Sat W _ ([(b0, .cells #[.slice (At a0 0) ((c).toNat) ((c).toNat), I 0, I 0] 152 (0, 0))] :: c0 :: cs) from h0) (by simp)
 exact ⟨_, _, rfl, ⟨_, _, _, 0, _, _, rfl, f0, by dsimp only; omega, Ring.nil (by rw [List.length_replicate]; omega), ⟨hc, by simp; omega⟩⟩, i0⟩
end Go.Proofs.YtegmennaekipaaaGreat
