import Derived.Test.YtegmennaekipaaaPu
namespace Go.Proofs.Ytegmennaekipaaa
open Go Go.E
set_option linter.unusedVariables false
set_option linter.unusedSimpArgs false
set_option linter.unnecessarySimpa false
set_option maxRecDepth 100000
set_option maxHeartbeats 2000000
variable {W w : World} {H : Chunk} {F : List Chunk}

def PaR (p : Nat) (S : AS) (M : Chunk) : Prop := ∃ (a : Option Addr) (n k : Nat) (c : Chunk), M = [(p, .cells #[.int .i64 S.cap, .int .i64 S.used, .int .i64 S.high, .slice a n k] 116 (0, 0))] ++ c ∧ OwnT encI 3 1 a n k S.marks c ∧ S.Wf
theorem ex_ceil (x : Int) (y : Int) (hx : 0 ≤ x ∧ x ≤ 1048576) (hy : 1 ≤ y ∧ y ≤ 4096) (hS : Sat W w (H :: F)) :
    Ro Try.prog 114 #[.int .i64 x, .int .i64 y] (.int .i64 (ceilD x y)) W w (H :: F) := by
  obtain ⟨hd1, hd2, hd3, hd4, hd5⟩ := ceilD_bd hx hy
  refine callsA 22 Try.func114 rfl ?_
  refine seqE <| regionE <| pu1 <| nilO <| thenK_n <| seqE <| seqE <| regionE <| pu3 ?_
  refine sD 8 (x < 0) (fun hc_1 => ?_) (fun hc_1 => ?_)
  · refine pu3 <| nilO <| thenK_n <| cTt <| seqE <| regionE <| pu1 <| nilO <| thenK_n <| retE <| thenK_r <| retT [.int .i64 0] <| ?_
    omega
  refine pu3 <| nilO <| thenK_n <| ?_
  refine cD (y < 1) (fun hc_2 => ?_) (fun hc_2 => ?_)
  · refine seqE <| regionE <| pu1 <| nilO <| thenK_n <| retE <| thenK_r <| retT [.int .i64 0] <| ?_
    omega
  refine skipE <| thenK_n <| seqE <| regionE <| pu2 ?_
  refine sQuo x y ?_
  refine pu1 <| nilO <| thenK_n <| seqE <| seqE <| regionE <| pu2 ?_
  refine sRem x y ?_
  refine pu1 <| nilO <| thenK_n <| ?_
  refine cN (x.tmod y) 0 (fun hc_3 => ?_) (fun hc_3 => ?_)
  · refine skipE <| thenK_n <| seqE <| regionE <| pu2 <| nilO <| thenK_n <| retE <| retT [.int .i64 (x.tdiv y)] <| ?_
    exact ⟨by unfold ceilD; rw [if_neg (by omega)]; rfl, hS⟩
  refine regionE <| pu1 ?_
  refine sAdd (x.tdiv y) 1 ?_
  refine pu1 <| nilO <| thenK_n <| seqE <| regionE <| pu2 <| nilO <| thenK_n <| retE <| retT [.int .i64 ((x.tdiv y) + 1)] <| ?_
  exact ⟨by unfold ceilD; rw [if_pos (by omega)]; rfl, hS⟩
theorem ex_mul {cs : List Chunk} (x y z : Int) (hx : 0 ≤ x ∧ x ≤ 1048577) (hy : 1 ≤ y ∧ y ≤ 4096) (hz : 0 ≤ z ∧ z ≤ 1048576) (hS : Sat W w cs) :
    Calls Try.prog 113 #[.int .i64 x, .int .i64 y, .int .i64 z] w fun e w' => (x * y ≤ z ∧ e = .returned (.tuple #[.int .i64 (x * y), .bool true]) ∨ ¬ (x * y ≤ z) ∧ e = .returned (.tuple #[.int .i64 0, .bool false])) ∧ Sat W w' cs := by
  have hq : 0 ≤ z.tdiv y ∧ z.tdiv y ≤ 1048576 := by rw [Int.tdiv_eq_ediv_of_nonneg hz.1]; exact ⟨Int.ediv_nonneg hz.1 (by omega), by have := Int.ediv_le_self y hz.1; omega⟩
  have hml := mul_lim (c := x) (a := y) (l := z) hx.1 hy.1 hz.1
  refine callsA 30 Try.func113 rfl ?_
  refine seqE <| regionE <| pu2 <| nilO <| thenK_n <| seqE <| seqE <| regionE <| pu3 ?_
  refine sD 10 (x < 0) (fun hc_1 => ?_) (fun hc_1 => ?_)
  · refine pu7 <| nilO <| thenK_n <| cTt <| seqE <| regionE <| pu2 <| nilO <| thenK_n <| retE <| thenK_r <| retT [.int .i64 0, .bool false] <| ?_
    exact ⟨.inr ⟨fun h => by have := hml.2 h; omega, rfl⟩, hS⟩
  refine pu4 ?_
  refine sD 14 (y < 0) (fun hc_2 => ?_) (fun hc_2 => ?_)
  · refine pu3 <| nilO <| thenK_n <| cTt <| seqE <| regionE <| pu2 <| nilO <| thenK_n <| retE <| thenK_r <| retT [.int .i64 0, .bool false] <| ?_
    exact ⟨.inr ⟨fun h => by have := hml.2 h; omega, rfl⟩, hS⟩
  refine pu3 <| nilO <| thenK_n <| ?_
  refine cD (z < 0) (fun hc_3 => ?_) (fun hc_3 => ?_)
  · refine seqE <| regionE <| pu2 <| nilO <| thenK_n <| retE <| thenK_r <| retT [.int .i64 0, .bool false] <| ?_
    exact ⟨.inr ⟨fun h => by have := hml.2 h; omega, rfl⟩, hS⟩
  refine skipE <| thenK_n <| seqE <| seqE <| regionE <| pu3 ?_
  refine sD 20 (y > 0) (fun hc_4 => ?_) (fun hc_4 => ?_)
  rotate_left
  · refine pu6 <| nilO <| thenK_n <| cFf <| skipE <| thenK_n <| seqE ?_
    have hle := hml.1 (by omega); have hnn := Int.mul_nonneg hx.1 (show (0 : Int) ≤ y by omega)
    refine regionE <| pu2 ?_
    refine sMul x y ?_
    refine pu2 <| nilO <| thenK_n <| retE <| retT [.int .i64 (x * y), .bool true] <| ?_
    exact ⟨.inl ⟨hml.1 (by omega), rfl⟩, hS⟩
  refine pu3 <| gY ?_
  refine sQuo z y ?_
  refine pu2 <| nilO <| thenK_n <| ?_
  refine cD (x > (z.tdiv y)) (fun hc_5 => ?_) (fun hc_5 => ?_)
  · refine seqE <| regionE <| pu2 <| nilO <| thenK_n <| retE <| thenK_r <| retT [.int .i64 0, .bool false] <| ?_
    exact ⟨.inr ⟨fun h => by have := hml.2 h; omega, rfl⟩, hS⟩
  refine skipE <| thenK_n <| seqE ?_
  have hle := hml.1 (by omega); have hnn := Int.mul_nonneg hx.1 (show (0 : Int) ≤ y by omega)
  refine regionE <| pu2 ?_
  refine sMul x y ?_
  refine pu2 <| nilO <| thenK_n <| retE <| retT [.int .i64 (x * y), .bool true] <| ?_
  exact ⟨.inl ⟨hml.1 (by omega), rfl⟩, hS⟩
theorem ex_align {cs : List Chunk} (x y z : Int) (hx : 0 ≤ x ∧ x ≤ 1048576) (hy : 1 ≤ y ∧ y ≤ 4096) (hz : 0 ≤ z ∧ z ≤ 1048576) (hS : Sat W w cs) :
    Calls Try.prog 97 #[.int .i64 x, .int .i64 y, .int .i64 z] w fun e w' => (alignI x y ≤ z ∧ e = .returned (.tuple #[.int .i64 (alignI x y), .bool true]) ∨ ¬ (alignI x y ≤ z) ∧ e = .returned (.tuple #[.int .i64 0, .bool false])) ∧ Sat W w' cs := by
  obtain ⟨hd1, hd2, hd3, hd4, hd5⟩ := ceilD_bd hx hy
  refine callsA 22 Try.func97 rfl ?_
  refine seqE <| regionE <| pu2 <| nilO <| thenK_n <| seqE <| seqE <| regionE <| pu3 ?_
  refine sD 10 (x < 0) (fun hc_1 => ?_) (fun hc_1 => ?_)
  · refine pu3 <| nilO <| thenK_n <| cTt <| seqE <| regionE <| pu2 <| nilO <| thenK_n <| retE <| thenK_r <| retT [.int .i64 0, .bool false] <| ?_
    omega
  refine pu3 <| nilO <| thenK_n <| ?_
  refine cD (y < 1) (fun hc_2 => ?_) (fun hc_2 => ?_)
  · refine seqE <| regionE <| pu2 <| nilO <| thenK_n <| retE <| thenK_r <| retT [.int .i64 0, .bool false] <| ?_
    omega
  refine skipE <| thenK_n <| seqE <| regionE <| pu2 ?_
  refine cR Try.call114 (ex_ceil x y (by first | omega | (dsimp only; omega)) (by first | omega | (dsimp only; omega)) (Sat.flat hS)) ?_
  intro w_3 hS_4
  refine pu2 ?_
  refine cX Try.call113 (ex_mul (ceilD x y) y z (by omega) (by omega) (by omega) hS_4) ?_
  rintro _ w_6 ⟨⟨hm_8, rfl⟩ | ⟨hm_8, rfl⟩, hS_7⟩
  rotate_left
  · refine pu4 <| nilO <| thenK_n <| retE <| retT [.int .i64 0, .bool false] <| ?_
    exact ⟨.inr ⟨hm_8, rfl⟩, hS_7⟩
  refine pu4 <| nilO <| thenK_n <| retE <| retT [.int .i64 ((ceilD x y) * y), .bool true] <| ?_
  exact ⟨.inl ⟨hm_8, rfl⟩, hS_7⟩
theorem pa_mark {p : Nat} {S : AS} {M : Chunk} (hR : PaR p S M)  (hS : Sat W w (M :: H :: F)) :
    Calls Try.prog 79 #[.pointer (some ⟨p, 0, none⟩)] w fun e w' => ∃ M' : Chunk, e = .returned (.int .i64 (if 1024 ≤ S.marks.length then 19 else 0)) ∧ PaR p (markA S) M' ∧ Sat W w' (M' :: H :: F) := by
  obtain ⟨a, n, k, c, rfl, hO, hW⟩ := hR
  have hS : Sat W _ ([(p, .cells #[.int .i64 S.cap, .int .i64 S.used, .int .i64 S.high, .slice a n k] 116 (0, 0))] :: c :: H :: F) := Sat.perm hS (by simp)
  have hn := hO.len; have hl := hO.le; have hw1 := hW.c; have hw2 := hW.u; have hw3 := hW.h
  refine callsA 24 Try.func79 rfl ?_
  refine seqE <| regionE <| pu1 <| nilO <| thenK_n <| seqE <| seqE <| regionE <| pu2 <| nilO <| thenK_n <| cFf <| skipE <| thenK_n <| seqE <| seqE <| regionE <| pu3 ?_
  refine sL hS 0 3 (.slice a n k) (Try.isAgg22 _) ?_
  refine pu2 <| nilO <| thenK_n <| ?_
  refine cD (((n : Nat) : Int) ≥ 1024) (fun hc_1 => ?_) (fun hc_1 => ?_)
  · refine seqE <| regionE <| pu1 <| nilO <| thenK_n <| retE <| thenK_r <| retT [.int .i64 19] <| ?_
    have hS_2 : Sat W _ (([(p, .cells #[.int .i64 S.cap, .int .i64 S.used, .int .i64 S.high, .slice a n k] 116 (0, 0))] ++ c) :: H :: F) := Sat.perm (show Sat W _ ([(p, .cells #[.int .i64 S.cap, .int .i64 S.used, .int .i64 S.high, .slice a n k] 116 (0, 0))] :: c :: H :: F) from hS) (by simp)
    have he : markA S = S := by unfold markA; rw [if_pos (by omega)]
    exact ⟨_, by rw [if_pos (by omega)]; rfl, by rw [he]; exact ⟨_, _, _, _, rfl, hO, hW⟩, hS_2⟩
  refine skipE <| thenK_n <| seqE ?_
  refine drawE [9, 10, 13] [(4, ⟨p, 3, none⟩, .slice a n k), (8, ⟨p, 1, none⟩, .int .i64 S.used)] [(true, [0, 1, 2, 3, 5, 6, 7]), (true, [4]), (true, [8]), (false, [9]), (false, [10]), (true, [11, 12]), (false, [13])] rfl (by kernel_rfl) ⟨.inr (hS.cell 0 rfl rfl), .inr (hS.cell 0 rfl rfl), trivial⟩ ?_
  have hS_3 := hS.drew
  refine wU [0, 1, 2, 3, 5, 6, 7] ?_
  refine wLd (.slice a n k) 0 Try.isAgg22 ?_
  refine wLd (.int .i64 S.used) 1 Try.isAgg3 ?_
  refine wO rfl ?_
  refine sBS hS_3 #[.int .i64 S.used] Try.runUnderlying22 Try.sizeOf3 Try.zeroValue3 ?_
  intro b_4 w_5 hS_6
  refine nilO ⟨⟨.inr (hS_6.cell 1 rfl rfl), .inl (by kernel_rfl), trivial⟩, ?_⟩
  refine wO rfl ?_
  refine sApp (nb := 8) hS_6 hO 2 (RdT.blk (enc := encI) (sz := 1) (xs := [S.used]) (fun _ => rfl) 1 0 rfl rfl rfl (by omega)) Try.underlying22 (i := Try.t3) (by kernel_rfl) (fun _ => rfl) ?_
  intro a_7 cap_8 c_9 w_10 hO_11 hS_12
  refine nilO ⟨⟨.inl (by kernel_rfl), .inl (by kernel_rfl), trivial⟩, ?_⟩
  refine wU [11, 12] ?_
  refine wO rfl ?_
  refine tW hS_12 1 3 (.slice a_7 (n + 1) cap_8) Try.sizeOf22 ?_
  intro w_13 hS_14
  refine nilO ⟨⟨.inl (by kernel_rfl), .inl (by kernel_rfl), trivial⟩, ?_⟩
  refine wN ?_
  refine thenK_n <| seqE <| regionE <| pu1 <| nilO <| thenK_n <| retE <| retT [.int .i64 0] <| ?_
  have hS_15 := (hS_14.dropAt 0 rfl)
  have hS_16 : Sat W _ (([(p, .cells #[.int .i64 S.cap, .int .i64 S.used, .int .i64 S.high, .slice a_7 (n + 1) cap_8] 116 (0, 0))] ++ c_9) :: H :: F) := Sat.perm (show Sat W _ ([(p, .cells #[.int .i64 S.cap, .int .i64 S.used, .int .i64 S.high, .slice a_7 (n + 1) cap_8] 116 (0, 0))] :: c_9 :: H :: F) from hS_15) (by simp)
  have he : markA S = { S with marks := S.marks ++ [S.used] } := by unfold markA; rw [if_neg (by omega)]
  exact ⟨_, by rw [if_neg (by omega)]; rfl, by rw [he]; exact ⟨_, _, _, _, rfl, hO_11, ⟨hW.c, hW.u, hW.h, by intro x hx; rcases List.mem_append.1 hx with h | h; exact hW.m x h; rw [List.mem_singleton.1 h]; exact ⟨hW.u.1, hW.h.1⟩⟩⟩, hS_16⟩
theorem pa_alloc {p : Nat} {S : AS} {M : Chunk} (hR : PaR p S M) (x : Int) (y : Int) (hS : Sat W w (M :: H :: F)) :
    Calls Try.prog 80 #[.pointer (some ⟨p, 0, none⟩), .int .i64 x, .int .i64 y] w fun e w' => ∃ (M' : Chunk) (v : Int), e = .returned (.tuple #[.int .i64 v, .int .i64 (allocC S x y)]) ∧ PaR p (allocA S x y) M' ∧ Sat W w' (M' :: H :: F) := by
  obtain ⟨a, n, k, c, rfl, hO, hW⟩ := hR
  have hS : Sat W _ ([(p, .cells #[.int .i64 S.cap, .int .i64 S.used, .int .i64 S.high, .slice a n k] 116 (0, 0))] :: c :: H :: F) := Sat.perm hS (by simp)
  have hn := hO.len; have hl := hO.le; have hw1 := hW.c; have hw2 := hW.u; have hw3 := hW.h
  refine callsA 70 Try.func80 rfl ?_
  refine seqE <| regionE <| pu2 <| nilO <| thenK_n <| seqE <| seqE <| regionE <| pu2 <| nilO <| thenK_n <| cFf <| skipE <| thenK_n <| seqE <| seqE <| regionE <| pu3 ?_
  refine sD 14 (x < 1) (fun hc_1 => ?_) (fun hc_1 => ?_)
  · refine pu11 <| nilO <| thenK_n <| cTt <| seqE <| regionE <| pu2 <| nilO <| thenK_n <| retE <| thenK_r <| retT [.int .i64 0, .int .i64 2] <| ?_
    have hc : allocC S x y = 2 := by unfold allocC; rw [if_pos (by omega)]
    have hS_2 : Sat W _ (([(p, .cells #[.int .i64 S.cap, .int .i64 S.used, .int .i64 S.high, .slice a n k] 116 (0, 0))] ++ c) :: H :: F) := Sat.perm (show Sat W _ ([(p, .cells #[.int .i64 S.cap, .int .i64 S.used, .int .i64 S.high, .slice a n k] 116 (0, 0))] :: c :: H :: F) from hS) (by simp)
    have he : allocA S x y = S := by unfold allocA; rw [hc, if_neg (by decide)]
    exact ⟨_, _, by rw [hc]; rfl, by rw [he]; exact ⟨_, _, _, _, rfl, hO, hW⟩, hS_2⟩
  refine pu4 ?_
  refine sD 18 (x > 1048576) (fun hc_3 => ?_) (fun hc_3 => ?_)
  · refine pu7 <| nilO <| thenK_n <| cTt <| seqE <| regionE <| pu2 <| nilO <| thenK_n <| retE <| thenK_r <| retT [.int .i64 0, .int .i64 2] <| ?_
    have hc : allocC S x y = 2 := by unfold allocC; rw [if_pos (by omega)]
    have hS_4 : Sat W _ (([(p, .cells #[.int .i64 S.cap, .int .i64 S.used, .int .i64 S.high, .slice a n k] 116 (0, 0))] ++ c) :: H :: F) := Sat.perm (show Sat W _ ([(p, .cells #[.int .i64 S.cap, .int .i64 S.used, .int .i64 S.high, .slice a n k] 116 (0, 0))] :: c :: H :: F) from hS) (by simp)
    have he : allocA S x y = S := by unfold allocA; rw [hc, if_neg (by decide)]
    exact ⟨_, _, by rw [hc]; rfl, by rw [he]; exact ⟨_, _, _, _, rfl, hO, hW⟩, hS_4⟩
  refine pu4 ?_
  refine sD 22 (y < 1) (fun hc_5 => ?_) (fun hc_5 => ?_)
  · refine pu3 <| nilO <| thenK_n <| cTt <| seqE <| regionE <| pu2 <| nilO <| thenK_n <| retE <| thenK_r <| retT [.int .i64 0, .int .i64 2] <| ?_
    have hc : allocC S x y = 2 := by unfold allocC; rw [if_pos (by omega)]
    have hS_6 : Sat W _ (([(p, .cells #[.int .i64 S.cap, .int .i64 S.used, .int .i64 S.high, .slice a n k] 116 (0, 0))] ++ c) :: H :: F) := Sat.perm (show Sat W _ ([(p, .cells #[.int .i64 S.cap, .int .i64 S.used, .int .i64 S.high, .slice a n k] 116 (0, 0))] :: c :: H :: F) from hS) (by simp)
    have he : allocA S x y = S := by unfold allocA; rw [hc, if_neg (by decide)]
    exact ⟨_, _, by rw [hc]; rfl, by rw [he]; exact ⟨_, _, _, _, rfl, hO, hW⟩, hS_6⟩
  refine pu3 <| nilO <| thenK_n <| ?_
  refine cD (y > 4096) (fun hc_7 => ?_) (fun hc_7 => ?_)
  · refine seqE <| regionE <| pu2 <| nilO <| thenK_n <| retE <| thenK_r <| retT [.int .i64 0, .int .i64 2] <| ?_
    have hc : allocC S x y = 2 := by unfold allocC; rw [if_pos (by omega)]
    have hS_8 : Sat W _ (([(p, .cells #[.int .i64 S.cap, .int .i64 S.used, .int .i64 S.high, .slice a n k] 116 (0, 0))] ++ c) :: H :: F) := Sat.perm (show Sat W _ ([(p, .cells #[.int .i64 S.cap, .int .i64 S.used, .int .i64 S.high, .slice a n k] 116 (0, 0))] :: c :: H :: F) from hS) (by simp)
    have he : allocA S x y = S := by unfold allocA; rw [hc, if_neg (by decide)]
    exact ⟨_, _, by rw [hc]; rfl, by rw [he]; exact ⟨_, _, _, _, rfl, hO, hW⟩, hS_8⟩
  refine skipE <| thenK_n <| seqE ?_
  refine drawE [9] [(3, ⟨p, 1, none⟩, .int .i64 S.used), (8, ⟨p, 0, none⟩, .int .i64 S.cap)] [(true, [0, 1, 2, 4, 5, 6, 7]), (true, [3]), (true, [8]), (false, [9]), (true, [10]), (true, [11]), (true, [12]), (true, [13, 14])] rfl (by kernel_rfl) ⟨.inr (hS.cell 0 rfl rfl), .inr (hS.cell 0 rfl rfl), trivial⟩ ?_
  have hS_9 := hS.drew
  refine wU [0, 1, 2, 4, 5, 6, 7] ?_
  refine wLd (.int .i64 S.used) 0 Try.isAgg3 ?_
  refine wLd (.int .i64 S.cap) 1 Try.isAgg3 ?_
  refine wO rfl ?_
  have hnn := align_nn (u := S.used) (a := y) (by omega) (by omega)
  refine cX Try.call97 (ex_align S.used y S.cap (by omega) (by omega) (by omega) hS_9) ?_
  rintro _ w_10 ⟨⟨hm_12, rfl⟩ | ⟨hm_12, rfl⟩, hS_11⟩
  rotate_left
  · refine nilO ⟨⟨.inl (by kernel_rfl), .inl (by kernel_rfl), trivial⟩, ?_⟩
    refine wU [10] <| wU [11] <| wU [12] <| wU [13, 14] ?_
    refine wN ?_
    refine thenK_n <| seqE <| seqE <| regionE <| pu12 <| nilO <| thenK_n <| cTt <| seqE <| regionE <| pu2 <| nilO <| thenK_n <| retE <| thenK_r <| retT [.int .i64 0, .int .i64 19] <| ?_
    have hc : allocC S x y = 19 := by unfold allocC; rw [if_neg (by omega), if_neg (by omega)]
    have hS_21 : Sat W _ (([(p, .cells #[.int .i64 S.cap, .int .i64 S.used, .int .i64 S.high, .slice a n k] 116 (0, 0))] ++ c) :: H :: F) := Sat.perm (show Sat W _ ([(p, .cells #[.int .i64 S.cap, .int .i64 S.used, .int .i64 S.high, .slice a n k] 116 (0, 0))] :: c :: H :: F) from hS_11) (by simp)
    have he : allocA S x y = S := by unfold allocA; rw [hc, if_neg (by decide)]
    exact ⟨_, _, by rw [hc]; rfl, by rw [he]; exact ⟨_, _, _, _, rfl, hO, hW⟩, hS_21⟩
  refine nilO ⟨⟨.inl (by kernel_rfl), .inl (by kernel_rfl), trivial⟩, ?_⟩
  refine wU [10] <| wU [11] <| wU [12] <| wU [13, 14] ?_
  refine wN ?_
  refine thenK_n <| seqE <| seqE <| regionE <| pu7 <| gY ?_
  refine sL hS_11 0 0 (.int .i64 S.cap) (Try.isAgg3 _) ?_
  refine pu1 <| gY ?_
  refine sSub S.cap (alignI S.used y) ?_
  refine pu2 <| nilO <| thenK_n <| ?_
  refine cD (x > (S.cap - (alignI S.used y))) (fun hc_13 => ?_) (fun hc_13 => ?_)
  · refine seqE <| regionE <| pu2 <| nilO <| thenK_n <| retE <| thenK_r <| retT [.int .i64 0, .int .i64 19] <| ?_
    have hc : allocC S x y = 19 := by unfold allocC; rw [if_neg (by omega), if_neg (by omega)]
    have hS_14 : Sat W _ (([(p, .cells #[.int .i64 S.cap, .int .i64 S.used, .int .i64 S.high, .slice a n k] 116 (0, 0))] ++ c) :: H :: F) := Sat.perm (show Sat W _ ([(p, .cells #[.int .i64 S.cap, .int .i64 S.used, .int .i64 S.high, .slice a n k] 116 (0, 0))] :: c :: H :: F) from hS_11) (by simp)
    have he : allocA S x y = S := by unfold allocA; rw [hc, if_neg (by decide)]
    exact ⟨_, _, by rw [hc]; rfl, by rw [he]; exact ⟨_, _, _, _, rfl, hO, hW⟩, hS_14⟩
  refine skipE <| thenK_n <| seqE <| regionE <| pu3 ?_
  refine sAdd (alignI S.used y) x ?_
  refine pu2 ?_
  refine tW hS_11 0 1 (.int .i64 ((alignI S.used y) + x)) Try.sizeOf3 ?_
  intro w_15 hS_16
  refine nilO <| thenK_n <| seqE ?_
  refine drawE [12] [(4, ⟨p, 2, none⟩, .int .i64 S.high), (8, ⟨p, 1, none⟩, .int .i64 ((alignI S.used y) + x))] [(true, [0, 1, 2, 3, 5, 6, 7]), (true, [4]), (true, [8]), (true, [9]), (true, [10, 11]), (false, [12])] rfl (by kernel_rfl) ⟨.inr (hS_16.cell 0 rfl rfl), .inr (hS_16.cell 0 rfl rfl), trivial⟩ ?_
  have hS_17 := hS_16.drew
  refine wU [0, 1, 2, 3, 5, 6, 7] ?_
  refine wLd (.int .i64 S.high) 0 Try.isAgg3 ?_
  refine wLd (.int .i64 ((alignI S.used y) + x)) 1 Try.isAgg3 ?_
  refine wY (.int .i64 (max S.high ((alignI S.used y) + x))) rfl (fun w _ => Y_max2 S.high ((alignI S.used y) + x) rfl rfl (by kernel_rfl) (by kernel_rfl)) ?_
  refine wU [10, 11] ?_
  refine wO rfl ?_
  refine tW hS_17 0 2 (.int .i64 (max S.high ((alignI S.used y) + x))) Try.sizeOf3 ?_
  intro w_18 hS_19
  refine nilO ⟨⟨.inl (by kernel_rfl), .inl (by kernel_rfl), trivial⟩, ?_⟩
  refine wN ?_
  refine thenK_n <| seqE <| regionE <| pu3 <| nilO <| thenK_n <| retE <| retT [.int .i64 (alignI S.used y), .int .i64 0] <| ?_
  have hc : allocC S x y = 0 := by unfold allocC; rw [if_neg (by omega), if_pos (by omega)]
  have hS_20 : Sat W _ (([(p, .cells #[.int .i64 S.cap, .int .i64 ((alignI S.used y) + x), .int .i64 (max S.high ((alignI S.used y) + x)), .slice a n k] 116 (0, 0))] ++ c) :: H :: F) := Sat.perm (show Sat W _ ([(p, .cells #[.int .i64 S.cap, .int .i64 ((alignI S.used y) + x), .int .i64 (max S.high ((alignI S.used y) + x)), .slice a n k] 116 (0, 0))] :: c :: H :: F) from hS_19) (by simp)
  have he : allocA S x y = { S with used := alignI S.used y + x, high := (max S.high ((alignI S.used y) + x)) } := by unfold allocA; rw [if_pos hc]
  exact ⟨_, _, by rw [hc]; rfl, by rw [he]; exact ⟨_, _, _, _, rfl, hO, ⟨hW.c, by dsimp only; omega, by dsimp only; omega, fun z hz => ⟨(hW.m z hz).1, by have h := (hW.m z hz).2; dsimp only; omega⟩⟩⟩, hS_20⟩
theorem pa_reset {p : Nat} {S : AS} {M : Chunk} (hR : PaR p S M)  (hS : Sat W w (M :: H :: F)) :
    Calls Try.prog 93 #[.pointer (some ⟨p, 0, none⟩)] w fun e w' => ∃ M' : Chunk, e = .returned (.tuple #[]) ∧ PaR p (resetA S) M' ∧ Sat W w' (M' :: H :: F) := by
  obtain ⟨a, n, k, c, rfl, hO, hW⟩ := hR
  have hS : Sat W _ ([(p, .cells #[.int .i64 S.cap, .int .i64 S.used, .int .i64 S.high, .slice a n k] 116 (0, 0))] :: c :: H :: F) := Sat.perm hS (by simp)
  have hn := hO.len; have hl := hO.le; have hw1 := hW.c; have hw2 := hW.u; have hw3 := hW.h
  refine callsA 10 Try.func93 rfl ?_
  refine seqE <| seqE <| regionE <| pu2 <| nilO <| thenK_n <| cFf <| skipE <| thenK_n <| seqE <| regionE <| pu3 ?_
  refine tW hS 0 1 (.int .i64 0) Try.sizeOf3 ?_
  intro w_1 hS_2
  refine nilO <| thenK_n <| regionE <| pu3 ?_
  refine tW hS_2 0 3 (.slice none 0 0) Try.sizeOf22 ?_
  intro w_3 hS_4
  refine nilO ?_
  refine ret0n rfl <| ?_
  have hS_5 := (hS_4.dropAt 1 rfl)
  have hS_6 : Sat W _ (([(p, .cells #[.int .i64 S.cap, .int .i64 0, .int .i64 S.high, .slice none 0 0] 116 (0, 0))] ++ ([] : Chunk)) :: H :: F) := Sat.perm (show Sat W _ ([(p, .cells #[.int .i64 S.cap, .int .i64 0, .int .i64 S.high, .slice none 0 0] 116 (0, 0))] :: H :: F) from hS_5) (by simp)
  have he : resetA S = ⟨S.cap, 0, S.high, []⟩ := rfl
  exact ⟨_, rfl, by rw [he]; exact ⟨_, _, _, _, rfl, OwnT.nil (fun _ => rfl), ⟨hW.c, by dsimp only; omega, by dsimp only; omega, fun x hx => by cases hx⟩⟩, hS_6⟩
theorem pa_used {p : Nat} {S : AS} {M : Chunk} (hR : PaR p S M)  (hS : Sat W w (M :: H :: F)) :
    Calls Try.prog 62 #[.pointer (some ⟨p, 0, none⟩)] w fun e w' => e = .returned (.int .i64 S.used) ∧ Sat W w' (M :: H :: F) := by
  obtain ⟨a, n, k, c, rfl, hO, hW⟩ := hR
  have hS : Sat W _ ([(p, .cells #[.int .i64 S.cap, .int .i64 S.used, .int .i64 S.high, .slice a n k] 116 (0, 0))] :: c :: H :: F) := Sat.perm hS (by simp)
  have hn := hO.len; have hl := hO.le; have hw1 := hW.c; have hw2 := hW.u; have hw3 := hW.h
  refine callsA 9 Try.func62 rfl ?_
  refine seqE <| regionE <| pu1 <| nilO <| thenK_n <| seqE <| seqE <| regionE <| pu2 <| nilO <| thenK_n <| cFf <| skipE <| thenK_n <| seqE <| regionE <| pu3 ?_
  refine sL hS 0 1 (.int .i64 S.used) (Try.isAgg3 _) ?_
  refine pu1 <| nilO <| thenK_n <| retE <| retT [.int .i64 S.used] <| ?_
  have hS_1 : Sat W _ (([(p, .cells #[.int .i64 S.cap, .int .i64 S.used, .int .i64 S.high, .slice a n k] 116 (0, 0))] ++ c) :: H :: F) := Sat.perm (show Sat W _ ([(p, .cells #[.int .i64 S.cap, .int .i64 S.used, .int .i64 S.high, .slice a n k] 116 (0, 0))] :: c :: H :: F) from hS) (by simp)
  exact ⟨rfl, hS_1⟩
theorem pa_high {p : Nat} {S : AS} {M : Chunk} (hR : PaR p S M)  (hS : Sat W w (M :: H :: F)) :
    Calls Try.prog 63 #[.pointer (some ⟨p, 0, none⟩)] w fun e w' => e = .returned (.int .i64 S.high) ∧ Sat W w' (M :: H :: F) := by
  obtain ⟨a, n, k, c, rfl, hO, hW⟩ := hR
  have hS : Sat W _ ([(p, .cells #[.int .i64 S.cap, .int .i64 S.used, .int .i64 S.high, .slice a n k] 116 (0, 0))] :: c :: H :: F) := Sat.perm hS (by simp)
  have hn := hO.len; have hl := hO.le; have hw1 := hW.c; have hw2 := hW.u; have hw3 := hW.h
  refine callsA 9 Try.func63 rfl ?_
  refine seqE <| regionE <| pu1 <| nilO <| thenK_n <| seqE <| seqE <| regionE <| pu2 <| nilO <| thenK_n <| cFf <| skipE <| thenK_n <| seqE <| regionE <| pu3 ?_
  refine sL hS 0 2 (.int .i64 S.high) (Try.isAgg3 _) ?_
  refine pu1 <| nilO <| thenK_n <| retE <| retT [.int .i64 S.high] <| ?_
  have hS_1 : Sat W _ (([(p, .cells #[.int .i64 S.cap, .int .i64 S.used, .int .i64 S.high, .slice a n k] 116 (0, 0))] ++ c) :: H :: F) := Sat.perm (show Sat W _ ([(p, .cells #[.int .i64 S.cap, .int .i64 S.used, .int .i64 S.high, .slice a n k] 116 (0, 0))] :: c :: H :: F) from hS) (by simp)
  exact ⟨rfl, hS_1⟩
theorem pa_new {cs : List Chunk} (c : Int) (hc : 0 ≤ c ∧ c ≤ 1048576) (hS : Sat W w cs) :
    Calls Try.prog 43 #[.int .i64 c] w fun e w' => ∃ (p : Nat) (M : Chunk), e = .returned (.tuple #[.pointer (some ⟨p, 0, none⟩), .int .i64 0]) ∧ PaR p ⟨c, 0, 0, []⟩ M ∧ Sat W w' (M :: cs) := by
  refine callsA 13 Try.func43 rfl ?_
  refine seqE <| regionE <| pu2 <| nilO <| thenK_n <| seqE <| seqE <| regionE <| pu3 ?_
  refine sD 6 (c < 0) (fun hc_1 => ?_) (fun hc_1 => ?_)
  · refine pu3 <| nilO <| thenK_n <| cTt <| seqE <| regionE <| pu2 <| nilO <| thenK_n <| retE <| thenK_r <| retT [.pointer none, .int .i64 2] <| ?_
    omega
  refine pu3 <| nilO <| thenK_n <| ?_
  refine cD (c > 1048576) (fun hc_2 => ?_) (fun hc_2 => ?_)
  · refine seqE <| regionE <| pu2 <| nilO <| thenK_n <| retE <| thenK_r <| retT [.pointer none, .int .i64 2] <| ?_
    omega
  refine skipE <| thenK_n <| seqE <| regionE <| pu2 ?_
  refine sBox hS (.agg #[.int .i64 c, .int .i64 0, .int .i64 0, .slice none 0 0]) #[.int .i64 c, .int .i64 0, .int .i64 0, .slice none 0 0] ?_
  intro b_3 w_4 hS_5
  refine pu2 <| nilO <| thenK_n <| retE <| retT [.pointer (some ⟨b_3, 0, none⟩), .int .i64 0] <| ?_
  exact ⟨_, _, rfl, ⟨_, _, _, [], rfl, OwnT.nil (fun _ => rfl), ⟨hc, by dsimp only; omega, by dsimp only; omega, fun x hx => by cases hx⟩⟩, hS_5⟩
end Go.Proofs.Ytegmennaekipaaa
