import Derived.Test.YtcddcpaodcjecaaFun
import Derived.Test.YtcddcpaodcjecaaProg
namespace Go.Proofs.Ytcddcpaodcjecaa
open Go Go.E
set_option linter.unusedVariables false
set_option linter.unusedSimpArgs false
set_option linter.unnecessarySimpa false
set_option maxRecDepth 100000
set_option maxHeartbeats 2000000
-- squeezed
theorem tape_new (W w : World) (cs : List Chunk) (a : Option Addr) (n k : Nat) (hS : Sat W w cs) :
    Calls Try.prog 8 #[.slice a n k] w fun e w' => ∃ p : Nat, e = .returned (.pointer (some ⟨p, 0, none⟩)) ∧ Sat W w' ([(p, .cells #[.slice a n k, .int .i64 0] 46 (0, 0))] :: cs) := by
  refine callsE (n := 6) Try.func8 rfl rfl (Nat.le_of_ble_eq_true rfl) ?_
  refine seqE <| regionE <| pu1 <| nilO <| thenK_n <| seqE <| regionE <| pu2 ?_
  refine sBox hS (.agg #[.slice a n k, .int .i64 0]) #[.slice a n k, .int .i64 0] ?_
  intro b_1 w_2 hS_3
  refine pu1 <| nilO <| thenK_n <| retE <| retT [.pointer (some ⟨b_1, 0, none⟩)] <| ?_
  exact ⟨_, rfl, hS_3⟩

theorem tmod_bd (v n : Int) (h : 0 < n) : -n < v.tmod n ∧ v.tmod n < n := by
  have h1 := Int.tmod_lt_of_pos v h
  have h2 := Int.lt_tmod_of_pos v h
  omega
theorem mod_ok (W w : World) (cs : List Chunk) (v n : Int) (hn : 0 < n) (hn2 : n ≤ 4611686018427387904) (hS : Sat W w cs) :
  Calls Try.prog 18 #[I v, I n] w fun e w' => ∃ r : Int, e = .returned (I r) ∧ (0 ≤ r ∧ r < n) ∧ Sat W w' cs := by
 have hm := tmod_bd v n hn
 refine callsE (n := 15) Try.func18 rfl rfl (Nat.le_of_ble_eq_true rfl) ?_
 refine sR <| pu1 <| nT <| sR <| pu2 ?_
 refine sRem v n ?_
 refine pu1 <| nT <| seqE <| sR <| pu2 <| nT ?_
 by_cases a0 : ((v.tmod n) : Int) < 0
 rotate_left
 ·refine cF _ (decide_eq_false a0) ?_
  refine kT <| sR <| pu2 <| nT <| retE <| retT [I (v.tmod n)] ?_
  exact ⟨_, rfl, om, hS⟩
 refine cT _ (decide_eq_true a0) ?_
 refine regionE <| pu2 ?_
 refine sAdd (v.tmod n) n ?_
 refine pu1 <| nT <| sR <| pu2 <| nT <| retE <| retT [I ((v.tmod n) + n)] ?_
 exact ⟨_, rfl, om, hS⟩
theorem tape_next (W w : World) (p : Nat) (a : Option Addr) (n k : Nat) (i : Int) (xs : List Int) (H : Chunk) (F : List Chunk) (hR : RdT encI 1 [H] a n k xs) (hi : 0 ≤ i ∧ i ≤ n) (hS : Sat W w ([(p, .cells #[.slice a n k, I i] 46 (0, 0))] :: H :: F)) (m : Int) (hm : m ≤ 4611686018427387904) :
  Calls Try.prog 19 #[Pt p 0, I m] w fun e w' => ∃ r : Int, e = .returned (I r) ∧ (0 ≤ r ∧ (r < m ∨ r = 0)) ∧ ∃ i' : Int, (0 ≤ i' ∧ i' ≤ n) ∧ Sat W w' ([(p, .cells #[.slice a n k, I i'] 46 (0, 0))] :: H :: F) := by
 have hle := hR.le
 refine callsE (n := 39) Try.func19 rfl rfl (Nat.le_of_ble_eq_true rfl) ?_
 refine sR <| pu1 <| nT <| seqE <| seqE ?_
 by_cases e0 : (m : Int) < 1
 ·refine drawE [] [] [(true, [0, 1, 2]), (true, [3, 4, 5, 7, 8, 9, 6, 10, 11, 12, 13])] rfl kr trivial ?_
  have i0 := hS.drew
  refine wU [0, 1, 2] ?_
  refine wFix 7 _ true (decide_eq_true e0) ?_
  refine wU [3, 4, 5, 7, 8, 9, 6, 10, 11, 12, 13] ?_
  refine wN ?_
  refine thenK_n <| cTt <| sR <| pu1 <| nT ?_
  refine retE (thenK_r <| ?_)
  refine retT [I 0] ?_
  exact ⟨_, rfl, om, _, om, i0⟩
 refine drawE [] [(6, ⟨p, 1, none⟩, I i), (10, ⟨p, 0, none⟩, .slice a n k)] [(true, [0, 1, 2]), (true, [3, 4, 5, 7, 8, 9]), (true, [6]), (true, [10]), (true, [11, 12, 13])] rfl kr ⟨.inr (hS.cell 0 rfl rfl), .inr (hS.cell 0 rfl rfl), trivial⟩ ?_
 have d0 := hS.drew
 refine wU [0, 1, 2] ?_
 refine wFix 7 _ false (decide_eq_false e0) ?_
 refine wU [3, 4, 5, 7, 8, 9] ?_
 refine wSg (I i) rfl rfl rfl ⟨_, rfl, rfl, kr⟩ (fun w hF => Y_load rfl (Try.isAgg3 w) kr (hF 0 _ _ rfl)) ?_
 refine wSg (.slice a n k) rfl rfl rfl ⟨_, rfl, rfl, kr⟩ (fun w hF => Y_load rfl (Try.isAgg22 w) kr (hF 1 _ _ rfl)) ?_
 refine wU [11, 12, 13] ?_
 refine wN ?_
 refine thenK_n ?_
 by_cases f0 : (i : Int) ≥ ((n : Nat) : Int)
 ·refine cT _ (decide_eq_true f0) ?_
  refine sR <| pu1 <| nT ?_
  refine retE (thenK_r <| ?_)
  refine retT [I 0] ?_
  exact ⟨_, rfl, om, _, om, d0⟩
 refine cF _ (decide_eq_false f0) ?_
 refine kT <| sR <| pu3 ?_
 refine sL d0 0 1 (I i) (Try.isAgg3 _) ?_
 refine sAdd i 1 ?_
 refine pu2 ?_
 refine sT1 d0 0 1 (I (i + 1)) #[.slice a n k, I (i + 1)] Try.sizeOf3 ?_
 intro _ a0
 change Sat _ _ ([(p, .cells #[.slice a n k, I (i + 1)] 46 (0, 0))] :: H :: F) at a0
 refine nT <| seqE ?_
 obtain ⟨b0, g0, h0, o0, j0, k0⟩ := RdT.elem hR ((i + 1) - 1)
 refine drawE [12] [(3, ⟨p, 0, none⟩, .slice a n k), (7, ⟨p, 1, none⟩, I (i + 1)), (10, ⟨g0, h0, none⟩, I b0)] [(true, [0, 1, 2, 4, 5, 6, 11]), (true, [3]), (true, [7]), (true, [8]), (true, [9]), (true, [10]), (false, [12]), (true, [13])] rfl kr ⟨.inr (a0.cell 0 rfl rfl), .inr (a0.cell 0 rfl rfl), .inr ((j0.up 1 rfl).cell a0 (k := 0) rfl), trivial⟩ ?_
 have l0 := a0.drew
 refine wU [0, 1, 2, 4, 5, 6, 11] ?_
 refine wS (.slice a n k) rfl rfl rfl (fun w hF => Y_load rfl (Try.isAgg22 w) kr (hF 0 _ _ rfl)) ?_
 refine wS (I (i + 1)) rfl rfl rfl (fun w hF => Y_load rfl (Try.isAgg3 w) kr (hF 1 _ _ rfl)) ?_
 refine wS (I ((i + 1) - 1)) rfl rfl rfl (fun w _ => Y_sub (a := (i + 1)) (b := 1) rfl kr kr om) ?_
 refine wS (.pointer (some ⟨g0, h0, none⟩)) rfl rfl rfl (fun w _ => Y_idx (a := a) (i := ((i + 1) - 1)) (len := n) (cap := k) rfl Try.runUnderlying22 Try.sizeOf3 kr kr k0) ?_
 refine wS (I b0) rfl rfl rfl (fun w hF => Y_load rfl (Try.isAgg3 w) kr (hF 2 _ _ rfl)) ?_
 refine wO rfl ?_
 refine sF #[I b0, I m] Try.call18 (Calls.mono (mod_ok W _ _ b0 m om om l0) ?_)
 rintro _ _ ⟨m0, rfl, _, c0⟩
 refine ⟨_, rfl, ?_⟩
 change Sat _ _ ([(p, .cells #[.slice a n k, I (i + 1)] 46 (0, 0))] :: H :: F) at c0
 refine nilO ⟨⟨.inr (c0.cell 0 rfl rfl), .inr (c0.cell 0 rfl rfl), dI, trivial⟩, ?_⟩
 refine wU [13] ?_
 refine wN ?_
 refine thenK_n <| retE <| retT [I m0] ?_
 exact ⟨_, rfl, om, _, om, c0⟩
theorem tape_pick (W w : World) (p : Nat) (a : Option Addr) (n k : Nat) (i : Int) (xs : List Int) (H : Chunk) (F : List Chunk) (hR : RdT encI 1 [H] a n k xs) (hi : 0 ≤ i ∧ i ≤ n) (hS : Sat W w ([(p, .cells #[.slice a n k, I i] 46 (0, 0))] :: H :: F)) (b : Option Addr) (m cap : Nat) (l : List Int) (hL : RdT encI 1 [H] b m cap l) (h0 : 0 < m) (hm : m ≤ 1000000) :
  Calls Try.prog 26 #[Pt p 0, .slice b m cap] w fun e w' => ∃ x : Int, e = .returned (I x) ∧ x ∈ l ∧ ∃ i' : Int, (0 ≤ i' ∧ i' ≤ n) ∧ Sat W w' ([(p, .cells #[.slice a n k, I i'] 46 (0, 0))] :: H :: F) := by
 have hle := hR.le
 refine callsE (n := 12) Try.func26 rfl rfl (Nat.le_of_ble_eq_true rfl) ?_
 refine sR <| pu1 <| nT <| sR <| pu4 ?_
 change Sat _ _ ([(p, .cells #[.slice a n k, I i] 46 (0, 0))] :: H :: F) at hS
 refine sF #[Pt p 0, I ((m : Nat) : Int)] Try.call19 (Calls.mono (tape_next W _ _ _ _ _ i _ _ [] (RdT.flat (hR.up 0 (by rfl))) om (Sat.flat1 hS) ((m : Nat) : Int) om) ?_)
 rintro _ _ ⟨d0, rfl, _, e0, _, b0⟩
 refine ⟨_, rfl, ?_⟩
 have a0 := Sat.unflat1 b0; clear b0
 change Sat _ _ ([(p, .cells #[.slice a n k, I e0] 46 (0, 0))] :: H :: F) at a0
 refine sIdx hL d0 Try.runUnderlying22 Try.sizeOf3 ?_
 intro c0 _ _ f0 g0
 refine sLp a0 (g0.up 1 rfl) 0 (I c0) (Try.isAgg3 _) ?_
 refine pu1 <| nT <| retE <| retT [I c0] ?_
 exact ⟨_, rfl, List.mem_of_getElem? f0, _, om, a0⟩
end Go.Proofs.Ytcddcpaodcjecaa
