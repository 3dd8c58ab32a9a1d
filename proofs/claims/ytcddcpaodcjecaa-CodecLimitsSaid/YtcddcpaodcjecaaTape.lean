import Derived.Test.YtcddcpaodcjecaaFun
import Derived.Test.YtcddcpaodcjecaaProg
namespace Go.Proofs.Ytcddcpaodcjecaa
open Go Go.E
set_option linter.unusedVariables false
set_option linter.unusedSimpArgs false
set_option linter.unnecessarySimpa false
set_option maxRecDepth 100000
theorem tape_new (W w : World) (cs : List Chunk) (a : Option Addr) (n k : Nat) (hS : Sat W w cs) :
    Calls Try.prog 8 #[.slice a n k] w fun e w' => ∃ p : Nat, e = .returned (.pointer (some ⟨p, 0, none⟩)) ∧ Sat W w' ([(p, .cells #[.slice a n k, .int .i64 0] 46 (0, 0))] :: cs) := by
  refine callsE (n := 6) Try.func8 rfl rfl (Nat.le_of_ble_eq_true rfl) ?_
  refine seqE ?_
  refine regionE ?_
  refine p1 (by kernel_rfl) ?_
  refine nilO ?_
  refine thenK_n <| ?_
  refine seqE ?_
  refine regionE ?_
  refine p2 (by kernel_rfl) ?_
  refine sBox hS (.agg #[.slice a n k, .int .i64 0]) #[.slice a n k, .int .i64 0] ?_
  intro b_1 w_2 hS_3
  refine p1 (by kernel_rfl) ?_
  refine nilO ?_
  refine thenK_n <| ?_
  refine retE ?_
  refine retN (vs := [.pointer (some ⟨b_1, 0, none⟩)]) rfl (.cons (.tmp _ _ (by kernel_rfl)) .nil) <| ?_
  exact ⟨_, rfl, hS_3⟩

theorem tmod_bd (v n : Int) (h : 0 < n) : -n < v.tmod n ∧ v.tmod n < n := by
  have h1 := Int.tmod_lt_of_pos v h
  have h2 := Int.lt_tmod_of_pos v h
  omega
theorem mod_ok (W w : World) (cs : List Chunk) (v n : Int) (hn : 0 < n) (hn2 : n ≤ 4611686018427387904) (hS : Sat W w cs) :
    Calls Try.prog 18 #[.int .i64 v, .int .i64 n] w fun e w' => ∃ r : Int, e = .returned (.int .i64 r) ∧ (0 ≤ r ∧ r < n) ∧ Sat W w' cs := by
  have hm := tmod_bd v n hn
  refine callsE (n := 15) Try.func18 rfl rfl (Nat.le_of_ble_eq_true rfl) ?_
  refine seqE ?_
  refine regionE ?_
  refine p1 (by kernel_rfl) ?_
  refine nilO ?_
  refine thenK_n <| ?_
  refine seqE ?_
  refine regionE ?_
  refine p2 (by kernel_rfl) ?_
  refine sRem v n ?_
  refine p1 (by kernel_rfl) ?_
  refine nilO ?_
  refine thenK_n <| ?_
  refine seqE ?_
  refine seqE ?_
  refine regionE ?_
  refine p2 (by kernel_rfl) ?_
  refine nilO ?_
  refine thenK_n <| ?_
  by_cases hc_1 : ((v.tmod n) : Int) < 0
  · refine cT (decide (((v.tmod n) : Int) < 0)) (decide_eq_true hc_1) ?_
    refine regionE ?_
    refine p2 (by kernel_rfl) ?_
    refine sAdd (v.tmod n) n ?_
    refine p1 (by kernel_rfl) ?_
    refine nilO ?_
    refine thenK_n <| ?_
    refine seqE ?_
    refine regionE ?_
    refine p2 (by kernel_rfl) ?_
    refine nilO ?_
    refine thenK_n <| ?_
    refine retE ?_
    refine retN (vs := [.int .i64 ((v.tmod n) + n)]) rfl (.cons (.tmp _ _ (by kernel_rfl)) .nil) <| ?_
    exact ⟨_, rfl, by omega, hS⟩
  · refine cF (decide (((v.tmod n) : Int) < 0)) (decide_eq_false hc_1) ?_
    refine skipE ?_
    refine thenK_n <| ?_
    refine seqE ?_
    refine regionE ?_
    refine p2 (by kernel_rfl) ?_
    refine nilO ?_
    refine thenK_n <| ?_
    refine retE ?_
    refine retN (vs := [.int .i64 (v.tmod n)]) rfl (.cons (.tmp _ _ (by kernel_rfl)) .nil) <| ?_
    exact ⟨_, rfl, by omega, hS⟩
theorem tape_next (W w : World) (p : Nat) (a : Option Addr) (n k : Nat) (i : Int) (xs : List Int) (H : Chunk) (F : List Chunk) (hR : RdT encI 1 [H] a n k xs) (hi : 0 ≤ i ∧ i ≤ n) (hS : Sat W w ([(p, .cells #[.slice a n k, .int .i64 i] 46 (0, 0))] :: H :: F)) (m : Int) (hm : m ≤ 4611686018427387904) :
    Calls Try.prog 19 #[.pointer (some ⟨p, 0, none⟩), .int .i64 m] w fun e w' => ∃ r : Int, e = .returned (.int .i64 r) ∧ (0 ≤ r ∧ (r < m ∨ r = 0)) ∧ ∃ i' : Int, (0 ≤ i' ∧ i' ≤ n) ∧ Sat W w' ([(p, .cells #[.slice a n k, .int .i64 i'] 46 (0, 0))] :: H :: F) := by
  have hle := hR.le
  refine callsE (n := 39) Try.func19 rfl rfl (Nat.le_of_ble_eq_true rfl) ?_
  refine seqE ?_
  refine regionE ?_
  refine p1 (by kernel_rfl) ?_
  refine nilO ?_
  refine thenK_n <| ?_
  refine seqE ?_
  refine seqE ?_
  by_cases hc_1 : (m : Int) < 1
  · refine drawE [] [] [(true, [0, 1, 2]), (true, [3, 4, 5, 7, 8, 9, 6, 10, 11, 12, 13])] rfl (by kernel_rfl) trivial ?_
    have hS_2 := hS.drew
    refine wP [0, 1, 2] rfl (by kernel_rfl) ?_
    refine wFix 7 (decide ((m : Int) < 1)) true (decide_eq_true hc_1) ?_
    refine wP [3, 4, 5, 7, 8, 9, 6, 10, 11, 12, 13] rfl (by kernel_rfl) ?_
    refine wN ?_
    refine thenK_n <| ?_
    refine condE_true (by kernel_rfl) ?_
    refine seqE ?_
    refine regionE ?_
    refine p1 (by kernel_rfl) ?_
    refine nilO ?_
    refine thenK_n <| ?_
    refine retE (thenK_r <| ?_)
    refine retN (vs := [.int .i64 0]) rfl (.cons (.tmp _ _ (by kernel_rfl)) .nil) <| ?_
    exact ⟨_, rfl, by omega, _, by omega, hS_2⟩
  · refine drawE [] [(6, ⟨p, 1, none⟩, .int .i64 i), (10, ⟨p, 0, none⟩, .slice a n k)] [(true, [0, 1, 2]), (true, [3, 4, 5, 7, 8, 9]), (true, [6]), (true, [10]), (true, [11, 12, 13])] rfl (by kernel_rfl) ⟨.inr (hS.cell 0 rfl rfl), .inr (hS.cell 0 rfl rfl), trivial⟩ ?_
    have hS_3 := hS.drew
    refine wP [0, 1, 2] rfl (by kernel_rfl) ?_
    refine wFix 7 (decide ((m : Int) < 1)) false (decide_eq_false hc_1) ?_
    refine wP [3, 4, 5, 7, 8, 9] rfl (by kernel_rfl) ?_
    refine wSg (.int .i64 i) rfl rfl rfl ⟨_, rfl, rfl, by kernel_rfl⟩ (fun w hF => Y_load rfl (Try.isAgg3 w) (by kernel_rfl) (hF 0 _ _ rfl)) ?_
    refine wSg (.slice a n k) rfl rfl rfl ⟨_, rfl, rfl, by kernel_rfl⟩ (fun w hF => Y_load rfl (Try.isAgg22 w) (by kernel_rfl) (hF 1 _ _ rfl)) ?_
    refine wP [11, 12, 13] rfl (by kernel_rfl) ?_
    refine wN ?_
    refine thenK_n <| ?_
    by_cases hc_4 : (i : Int) ≥ ((n : Nat) : Int)
    · refine cT (decide ((i : Int) ≥ ((n : Nat) : Int))) (decide_eq_true hc_4) ?_
      refine seqE ?_
      refine regionE ?_
      refine p1 (by kernel_rfl) ?_
      refine nilO ?_
      refine thenK_n <| ?_
      refine retE (thenK_r <| ?_)
      refine retN (vs := [.int .i64 0]) rfl (.cons (.tmp _ _ (by kernel_rfl)) .nil) <| ?_
      exact ⟨_, rfl, by omega, _, by omega, hS_3⟩
    · refine cF (decide ((i : Int) ≥ ((n : Nat) : Int))) (decide_eq_false hc_4) ?_
      refine skipE ?_
      refine thenK_n <| ?_
      refine seqE ?_
      refine regionE ?_
      refine p3 (by kernel_rfl) ?_
      refine sL hS_3 0 1 (.int .i64 i) (Try.isAgg3 _) ?_
      refine sAdd i 1 ?_
      refine p2 (by kernel_rfl) ?_
      refine sT hS_3 0 1 (.int .i64 (i + 1)) [.int .i64 (i + 1)] #[.slice a n k, .int .i64 (i + 1)] Try.sizeOf3 ?_
      intro w_5 hS_6
      change Sat _ _ ([(p, .cells #[.slice a n k, .int .i64 (i + 1)] 46 (0, 0))] :: H :: F) at hS_6
      refine nilO ?_
      refine thenK_n <| ?_
      refine seqE ?_
      obtain ⟨x_7, b_8, o_9, hx_10, hp_11, hq_12⟩ := RdT.elem hR ((i + 1) - 1)
      refine drawE [12] [(3, ⟨p, 0, none⟩, .slice a n k), (7, ⟨p, 1, none⟩, .int .i64 (i + 1)), (10, ⟨b_8, o_9, none⟩, .int .i64 x_7)] [(true, [0, 1, 2, 4, 5, 6, 11]), (true, [3]), (true, [7]), (true, [8]), (true, [9]), (true, [10]), (false, [12]), (true, [13])] rfl (by kernel_rfl) ⟨.inr (hS_6.cell 0 rfl rfl), .inr (hS_6.cell 0 rfl rfl), .inr ((hp_11.up 1 rfl).cell hS_6 (k := 0) rfl), trivial⟩ ?_
      have hS_13 := hS_6.drew
      refine wP [0, 1, 2, 4, 5, 6, 11] rfl (by kernel_rfl) ?_
      refine wS (.slice a n k) rfl rfl rfl (fun w hF => Y_load rfl (Try.isAgg22 w) (by kernel_rfl) (hF 0 _ _ rfl)) ?_
      refine wS (.int .i64 (i + 1)) rfl rfl rfl (fun w hF => Y_load rfl (Try.isAgg3 w) (by kernel_rfl) (hF 1 _ _ rfl)) ?_
      refine wS (.int .i64 ((i + 1) - 1)) rfl rfl rfl (fun w _ => Y_sub (a := (i + 1)) (b := 1) rfl (by kernel_rfl) (by kernel_rfl) (by omega)) ?_
      refine wS (.pointer (some ⟨b_8, o_9, none⟩)) rfl rfl rfl (fun w _ => Y_idx (a := a) (i := ((i + 1) - 1)) (len := n) (cap := k) rfl Try.runUnderlying22 Try.sizeOf3 (by kernel_rfl) (by kernel_rfl) hq_12) ?_
      refine wS (.int .i64 x_7) rfl rfl rfl (fun w hF => Y_load rfl (Try.isAgg3 w) (by kernel_rfl) (hF 2 _ _ rfl)) ?_
      refine wO rfl ?_
      refine sF #[.int .i64 x_7, .int .i64 m] Try.call18 (Calls.mono (mod_ok W _ _ x_7 m (by omega) (by omega) hS_13) ?_)
      rintro _ w_14 ⟨r_16, rfl, hr_17, hS_15⟩
      refine ⟨_, rfl, ?_⟩
      change Sat _ _ ([(p, .cells #[.slice a n k, .int .i64 (i + 1)] 46 (0, 0))] :: H :: F) at hS_15
      refine nilO ⟨⟨.inr (hS_15.cell 0 rfl rfl), .inr (hS_15.cell 0 rfl rfl), .inl (by kernel_rfl), trivial⟩, ?_⟩
      refine wP [13] rfl (by kernel_rfl) ?_
      refine wN ?_
      refine thenK_n <| ?_
      refine retE ?_
      refine retN (vs := [.int .i64 r_16]) rfl (.cons (.tmp _ _ (by kernel_rfl)) .nil) <| ?_
      exact ⟨_, rfl, by omega, _, by omega, hS_15⟩
theorem tape_pick (W w : World) (p : Nat) (a : Option Addr) (n k : Nat) (i : Int) (xs : List Int) (H : Chunk) (F : List Chunk) (hR : RdT encI 1 [H] a n k xs) (hi : 0 ≤ i ∧ i ≤ n) (hS : Sat W w ([(p, .cells #[.slice a n k, .int .i64 i] 46 (0, 0))] :: H :: F)) (b : Option Addr) (m cap : Nat) (l : List Int) (hL : RdT encI 1 [H] b m cap l) (h0 : 0 < m) (hm : m ≤ 1000000) :
    Calls Try.prog 26 #[.pointer (some ⟨p, 0, none⟩), .slice b m cap] w fun e w' => ∃ x : Int, e = .returned (.int .i64 x) ∧ x ∈ l ∧ ∃ i' : Int, (0 ≤ i' ∧ i' ≤ n) ∧ Sat W w' ([(p, .cells #[.slice a n k, .int .i64 i'] 46 (0, 0))] :: H :: F) := by
  have hle := hR.le
  refine callsE (n := 12) Try.func26 rfl rfl (Nat.le_of_ble_eq_true rfl) ?_
  refine seqE ?_
  refine regionE ?_
  refine p1 (by kernel_rfl) ?_
  refine nilO ?_
  refine thenK_n <| ?_
  refine seqE ?_
  refine regionE ?_
  refine p4 (by kernel_rfl) ?_
  change Sat _ _ ([(p, .cells #[.slice a n k, .int .i64 i] 46 (0, 0))] :: H :: F) at hS
  refine sF #[.pointer (some ⟨p, 0, none⟩), .int .i64 ((m : Nat) : Int)] Try.call19 (Calls.mono (tape_next W _ _ _ _ _ i _ (List.flatten (H :: F)) [] (RdT.flat (cs := (H :: F)) (hR.up 0 rfl)) (by omega) (Sat.flat1 hS) ((m : Nat) : Int) (by omega)) ?_)
  rintro _ w_1 ⟨r_3, rfl, hr_4, i_5, hi_6, hS_2⟩
  refine ⟨_, rfl, ?_⟩
  have hS_7 := Sat.unflat1 hS_2; clear hS_2
  change Sat _ _ ([(p, .cells #[.slice a n k, .int .i64 i_5] 46 (0, 0))] :: H :: F) at hS_7
  refine sIdx hL r_3 Try.runUnderlying22 Try.sizeOf3 ?_
  intro x_8 b_9 o_10 hx_11 hp_12
  refine sLp hS_7 (hp_12.up 1 rfl) 0 (.int .i64 x_8) (Try.isAgg3 _) ?_
  refine p1 (by kernel_rfl) ?_
  refine nilO ?_
  refine thenK_n <| ?_
  refine retE ?_
  refine retN (vs := [.int .i64 x_8]) rfl (.cons (.tmp _ _ (by kernel_rfl)) .nil) <| ?_
  exact ⟨_, rfl, List.mem_of_getElem? hx_11, _, by omega, hS_7⟩
end Go.Proofs.Ytcddcpaodcjecaa
