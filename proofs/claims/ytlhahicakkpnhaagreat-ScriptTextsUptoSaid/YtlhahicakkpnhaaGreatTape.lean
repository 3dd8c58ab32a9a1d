import Derived.Test.YtlhahicakkpnhaaGreatSc
import Derived.Test.YtlhahicakkpnhaaGreatProg
namespace Go.Proofs.YtlhahicakkpnhaaGreat
open Go Go.E
set_option linter.unusedVariables false
set_option linter.unusedSimpArgs false
set_option linter.unnecessarySimpa false
set_option maxRecDepth 100000
set_option maxHeartbeats 2000000
variable {W w : World} {H : Chunk} {F : List Chunk}
theorem tape_new {cs : List Chunk} (a : Option Addr) (n k : Nat) (hS : Sat W w cs) :
    Calls Tryz.prog 5 #[.slice a n k] w fun e w' => ∃ p : Nat, e = .returned (.pointer (some ⟨p, 0, none⟩)) ∧ Sat W w' ([(p, .cells #[.slice a n k, .int .i64 0] 40 (0, 0))] :: cs) := by
  refine callsA 6 Tryz.func5 rfl ?_
  refine seqE <| regionE <| pu1 <| nilO <| thenK_n <| seqE <| regionE <| pu2 ?_
  refine sBox hS (.agg #[.slice a n k, .int .i64 0]) #[.slice a n k, .int .i64 0] ?_
  intro b_1 w_2 hS_3
  refine pu1 <| nilO <| thenK_n <| retE <| retT [.pointer (some ⟨b_1, 0, none⟩)] <| ?_
  exact ⟨_, rfl, hS_3⟩

theorem tmod_bd (v n : Int) (h : 0 < n) : -n < v.tmod n ∧ v.tmod n < n := by
  have h1 := Int.tmod_lt_of_pos v h
  have h2 := Int.lt_tmod_of_pos v h
  omega
theorem mod_ok {cs : List Chunk} (v n : Int) (hn : 0 < n) (hn2 : n ≤ 4611686018427387904) (hS : Sat W w cs) :
    Calls Tryz.prog 17 #[.int .i64 v, .int .i64 n] w fun e w' => ∃ r : Int, e = .returned (.int .i64 r) ∧ (0 ≤ r ∧ r < n) ∧ Sat W w' cs := by
  have hm := tmod_bd v n hn
  refine callsA 15 Tryz.func17 rfl ?_
  refine seqE <| regionE <| pu1 <| nilO <| thenK_n <| seqE <| regionE <| pu2 ?_
  refine sRem v n ?_
  refine pu1 <| nilO <| thenK_n <| seqE <| seqE <| regionE <| pu2 <| nilO <| thenK_n <| ?_
  refine cD ((v.tmod n) < 0) (fun hc_1 => ?_) (fun hc_1 => ?_)
  rotate_left
  · refine skipE <| thenK_n <| seqE <| regionE <| pu2 <| nilO <| thenK_n <| retE <| retT [.int .i64 (v.tmod n)] <| ?_
    exact ⟨_, rfl, by omega, hS⟩
  refine regionE <| pu2 ?_
  refine sAdd (v.tmod n) n ?_
  refine pu1 <| nilO <| thenK_n <| seqE <| regionE <| pu2 <| nilO <| thenK_n <| retE <| retT [.int .i64 ((v.tmod n) + n)] <| ?_
  exact ⟨_, rfl, by omega, hS⟩
theorem tape_next {p : Nat} {a : Option Addr} {n k : Nat} {i : Int} {xs : List Int} (hR : RdT encI 1 [H] a n k xs) (hi : 0 ≤ i ∧ i ≤ n) (hS : Sat W w ([(p, .cells #[.slice a n k, .int .i64 i] 40 (0, 0))] :: H :: F)) (m : Int) (hm : m ≤ 4611686018427387904) :
    Calls Tryz.prog 13 #[.pointer (some ⟨p, 0, none⟩), .int .i64 m] w fun e w' => ∃ r : Int, e = .returned (.int .i64 r) ∧ (0 ≤ r ∧ (r < m ∨ r = 0)) ∧ ∃ i' : Int, (0 ≤ i' ∧ i' ≤ n) ∧ Sat W w' ([(p, .cells #[.slice a n k, .int .i64 i'] 40 (0, 0))] :: H :: F) := by
  have hle := hR.le
  refine callsA 39 Tryz.func13 rfl ?_
  refine seqE <| regionE <| pu1 <| nilO <| thenK_n <| seqE <| seqE ?_
  by_cases hc_1 : (m : Int) < 1
  · refine drawE [] [] [(true, [0, 1, 2]), (true, [3, 4, 5, 7, 8, 9, 6, 10, 11, 12, 13])] rfl (by kernel_rfl) trivial ?_
    have hS_2 := hS.drew
    refine wU [0, 1, 2] ?_
    refine wFix 7 _ true (decide_eq_true hc_1) ?_
    refine wU [3, 4, 5, 7, 8, 9, 6, 10, 11, 12, 13] ?_
    refine wN ?_
    refine thenK_n <| cTt <| seqE <| regionE <| pu1 <| nilO <| thenK_n <| retE <| thenK_r <| retT [.int .i64 0] <| ?_
    exact ⟨_, rfl, by omega, _, by omega, hS_2⟩
  refine drawE [] [(6, ⟨p, 1, none⟩, .int .i64 i), (10, ⟨p, 0, none⟩, .slice a n k)] [(true, [0, 1, 2]), (true, [3, 4, 5, 7, 8, 9]), (true, [6]), (true, [10]), (true, [11, 12, 13])] rfl (by kernel_rfl) ⟨.inr (hS.cell 0 rfl rfl), .inr (hS.cell 0 rfl rfl), trivial⟩ ?_
  have hS_3 := hS.drew
  refine wU [0, 1, 2] ?_
  refine wFix 7 _ false (decide_eq_false hc_1) ?_
  refine wU [3, 4, 5, 7, 8, 9] ?_
  refine wLd (.int .i64 i) 0 Tryz.isAgg3 ?_
  refine wLd (.slice a n k) 1 Tryz.isAgg22 ?_
  refine wU [11, 12, 13] ?_
  refine wN ?_
  refine thenK_n <| ?_
  refine cD (i ≥ ((n : Nat) : Int)) (fun hc_4 => ?_) (fun hc_4 => ?_)
  · refine seqE <| regionE <| pu1 <| nilO <| thenK_n <| retE <| thenK_r <| retT [.int .i64 0] <| ?_
    exact ⟨_, rfl, by omega, _, by omega, hS_3⟩
  refine skipE <| thenK_n <| seqE <| regionE <| pu3 ?_
  refine sL hS_3 0 1 (.int .i64 i) (Tryz.isAgg3 _) ?_
  refine sAdd i 1 ?_
  refine pu2 ?_
  refine sT hS_3 0 1 (.int .i64 (i + 1)) [.int .i64 (i + 1)] #[.slice a n k, .int .i64 (i + 1)] Tryz.sizeOf3 ?_
  intro w_5 hS_6
  refine nilO <| thenK_n <| seqE ?_
  obtain ⟨x_7, b_8, o_9, hx_10, hp_11, hq_12⟩ := RdT.elem hR ((i + 1) - 1)
  refine drawE [12] [(3, ⟨p, 0, none⟩, .slice a n k), (7, ⟨p, 1, none⟩, .int .i64 (i + 1)), (10, ⟨b_8, o_9, none⟩, .int .i64 x_7)] [(true, [0, 1, 2, 4, 5, 6, 11]), (true, [3]), (true, [7]), (true, [8]), (true, [9]), (true, [10]), (false, [12]), (true, [13])] rfl (by kernel_rfl) ⟨.inr (hS_6.cell 0 rfl rfl), .inr (hS_6.cell 0 rfl rfl), .inr ((hp_11.up 1 rfl).cell hS_6 (k := 0) rfl), trivial⟩ ?_
  have hS_13 := hS_6.drew
  refine wU [0, 1, 2, 4, 5, 6, 11] ?_
  refine wLd (.slice a n k) 0 Tryz.isAgg22 ?_
  refine wLd (.int .i64 (i + 1)) 1 Tryz.isAgg3 ?_
  refine wSub (i + 1) 1 ?_
  refine wY (.pointer (some ⟨b_8, o_9, none⟩)) rfl (fun w _ => Y_idx (a := a) (i := ((i + 1) - 1)) (len := n) (cap := k) rfl Tryz.runUnderlying22 Tryz.sizeOf3 (by kernel_rfl) (by kernel_rfl) hq_12) ?_
  refine wLd (.int .i64 x_7) 2 Tryz.isAgg3 ?_
  refine wO rfl ?_
  refine cX Tryz.call17 (mod_ok x_7 m (by omega) (by omega) hS_13) ?_
  rintro _ w_14 ⟨r_16, rfl, hr_17, hS_15⟩
  refine nilO ⟨⟨.inr (hS_15.cell 0 rfl rfl), .inr (hS_15.cell 0 rfl rfl), .inl (by kernel_rfl), trivial⟩, ?_⟩
  refine wU [13] ?_
  refine wN ?_
  refine thenK_n <| retE <| retT [.int .i64 r_16] <| ?_
  exact ⟨_, rfl, by omega, _, by omega, hS_15⟩
theorem tape_left {p : Nat} {a : Option Addr} {n k : Nat} {i : Int} {xs : List Int} (hR : RdT encI 1 [H] a n k xs) (hi : 0 ≤ i ∧ i ≤ n) (hS : Sat W w ([(p, .cells #[.slice a n k, .int .i64 i] 40 (0, 0))] :: H :: F)) :
    Calls Tryz.prog 14 #[.pointer (some ⟨p, 0, none⟩)] w fun e w' => ∃ v : Bool, e = .returned (.bool v) ∧ Sat W w' ([(p, .cells #[.slice a n k, .int .i64 i] 40 (0, 0))] :: H :: F) := by
  have hle := hR.le
  refine callsA 13 Tryz.func14 rfl ?_
  refine seqE <| regionE <| pu1 <| nilO <| thenK_n <| seqE ?_
  refine drawE [] [(3, ⟨p, 1, none⟩, .int .i64 i), (7, ⟨p, 0, none⟩, .slice a n k)] [(true, [0, 1, 2, 4, 5, 6]), (true, [3]), (true, [7]), (true, [8, 9, 10])] rfl (by kernel_rfl) ⟨.inr (hS.cell 0 rfl rfl), .inr (hS.cell 0 rfl rfl), trivial⟩ ?_
  have hS_1 := hS.drew
  refine wU [0, 1, 2, 4, 5, 6] ?_
  refine wLd (.int .i64 i) 0 Tryz.isAgg3 ?_
  refine wLd (.slice a n k) 1 Tryz.isAgg22 ?_
  refine wU [8, 9, 10] ?_
  refine wN ?_
  refine thenK_n <| retE <| retT [.bool (decide ((i : Int) < ((n : Nat) : Int)))] <| ?_
  exact ⟨_, rfl, hS_1⟩
theorem tape_pick {p : Nat} {a : Option Addr} {n k : Nat} {i : Int} {xs : List Int} (hR : RdT encI 1 [H] a n k xs) (hi : 0 ≤ i ∧ i ≤ n) (hS : Sat W w ([(p, .cells #[.slice a n k, .int .i64 i] 40 (0, 0))] :: H :: F)) {b : Option Addr} {m cap : Nat} {l : List Int} (hL : RdT encI 1 [H] b m cap l) (h0 : 0 < m) (hm : m ≤ 1000000) :
    Calls Tryz.prog 18 #[.pointer (some ⟨p, 0, none⟩), .slice b m cap] w fun e w' => ∃ x : Int, e = .returned (.int .i64 x) ∧ x ∈ l ∧ ∃ i' : Int, (0 ≤ i' ∧ i' ≤ n) ∧ Sat W w' ([(p, .cells #[.slice a n k, .int .i64 i'] 40 (0, 0))] :: H :: F) := by
  have hle := hR.le
  refine callsA 12 Tryz.func18 rfl ?_
  refine seqE <| regionE <| pu1 <| nilO <| thenK_n <| seqE <| regionE <| pu4 ?_
  refine cX Tryz.call13 (tape_next (RdT.flat (hR.up 0 (by rfl))) (by omega) (Sat.flat1 hS) ((m : Nat) : Int) (by omega)) ?_
  rintro _ w_1 ⟨r_3, rfl, hr_4, i_5, hi_6, hS_2⟩
  have hS_7 := Sat.unflat1 hS_2
  refine sIdx hL r_3 Tryz.runUnderlying22 Tryz.sizeOf3 ?_
  intro x_8 b_9 o_10 hx_11 hp_12
  refine sLp hS_7 (hp_12.up 1 rfl) 0 (.int .i64 x_8) (Tryz.isAgg3 _) ?_
  refine pu1 <| nilO <| thenK_n <| retE <| retT [.int .i64 x_8] <| ?_
  exact ⟨_, rfl, List.mem_of_getElem? hx_11, _, by omega, hS_7⟩
end Go.Proofs.YtlhahicakkpnhaaGreat
