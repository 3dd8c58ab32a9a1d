import Derived.Test.YtimkhljglpookaaGreatRMeth
namespace Go.Proofs.YtimkhljglpookaaGreat
open Go Go.E
set_option linter.unusedVariables false
set_option linter.unusedSimpArgs false
set_option linter.unnecessarySimpa false
set_option maxRecDepth 100000
set_option maxHeartbeats 2000000
variable {W w : World} {H : Chunk} {F : List Chunk}

structure AS where
  cap : Int
  used : Int
  high : Int
  marks : List Int
def ceilD (a b : Int) : Int := if a.tmod b > 0 then a.tdiv b + 1 else a.tdiv b
def alignI (u a : Int) : Int := ceilD u a * a
structure AS.Wf (S : AS) : Prop where
  c : 0 ≤ S.cap ∧ S.cap ≤ 1048576
  u : 0 ≤ S.used ∧ S.used ≤ S.cap
  h : S.used ≤ S.high ∧ S.high ≤ S.cap
  m : ∀ x ∈ S.marks, 0 ≤ x ∧ x ≤ S.high
def markA (S : AS) : AS := if 1024 ≤ S.marks.length then S else { S with marks := S.marks ++ [S.used] }
def allocC (S : AS) (n a : Int) : Int := if ¬ ((1 ≤ n ∧ n ≤ 1048576) ∧ (1 ≤ a ∧ a ≤ 4096)) then 2 else if alignI S.used a ≤ S.cap ∧ n ≤ S.cap - alignI S.used a then 0 else 19
def allocA (S : AS) (n a : Int) : AS := if allocC S n a = 0 then { S with used := alignI S.used a + n, high := max S.high (alignI S.used a + n) } else S
def relA (S : AS) : AS := match S.marks.getLast? with | none => S | some x => { S with used := x, marks := S.marks.dropLast }
def resetA (S : AS) : AS := { S with used := 0, marks := [] }
theorem ceilD_bd {u a : Int} (h : 0 ≤ u ∧ u ≤ 1048576) (ha : 1 ≤ a ∧ a ≤ 4096) : 0 ≤ u.tdiv a ∧ u.tdiv a ≤ 1048576 ∧ 0 ≤ u.tmod a ∧ 0 ≤ ceilD u a ∧ ceilD u a ≤ 1048577 := by
  have h1 : u.tdiv a = u / a := Int.tdiv_eq_ediv_of_nonneg h.1
  have h2 : u.tmod a = u % a := Int.tmod_eq_emod_of_nonneg h.1
  have h3 : 0 ≤ u / a := Int.ediv_nonneg h.1 (by omega)
  have h4 : u / a ≤ u := Int.ediv_le_self _ h.1
  have h5 : 0 ≤ u % a := Int.emod_nonneg _ (by omega)
  unfold ceilD
  rw [h1, h2]
  refine ⟨h3, by omega, h5, ?_, ?_⟩ <;> split <;> omega
theorem align_nn {u a : Int} (h : 0 ≤ u ∧ u ≤ 1048576) (ha : 1 ≤ a ∧ a ≤ 4096) : 0 ≤ alignI u a := Int.mul_nonneg (ceilD_bd h ha).2.2.2.1 (by omega)
theorem mul_lim {c a l : Int} (hc : 0 ≤ c) (ha : 1 ≤ a) (hl : 0 ≤ l) : c ≤ l.tdiv a ↔ c * a ≤ l := by
  rw [Int.tdiv_eq_ediv_of_nonneg hl]; exact Int.le_ediv_iff_mul_le (by omega)

def ArR (p : Nat) (S : AS) (M : Chunk) : Prop := ∃ (a : Option Addr) (n k : Nat) (c : Chunk), M = [(p, .cells #[.int .i64 S.cap, .int .i64 S.used, .int .i64 S.high, .slice a n k] 128 (0, 0))] ++ c ∧ OwnT encI 3 1 a n k S.marks c ∧ S.Wf
theorem r1_ceil (x : Int) (y : Int) (hx : 0 ≤ x ∧ x ≤ 1048576) (hy : 1 ≤ y ∧ y ≤ 4096) (hS : Sat W w (H :: F)) :
    Ro Tryz.prog 111 #[.int .i64 x, .int .i64 y] (.int .i64 (ceilD x y)) W w (H :: F) := by
  obtain ⟨hd1, hd2, hd3, hd4, hd5⟩ := ceilD_bd hx hy
  refine callsA 22 Tryz.func111 rfl ?_
  refine seqE <| regionE <| pu1 <| nilO <| thenK_n <| seqE <| seqE <| regionE <| pu3 ?_
  refine sD 8 (x < 0) (fun hc_1 => ?_) (fun hc_1 => ?_)
  · refine pu3 <| nilO <| thenK_n <| cTt <| seqE <| regionE <| pu1 <| nilO <| thenK_n <| retE <| thenK_r <| retT [.int .i64 0] <| ?_
    omega
  refine pu3 <| nilO <| thenK_n <| ?_
  refine cD (y < 1) (fun hc_2 => ?_) (fun hc_2 => ?_)
  · refine seqE <| regionE <| pu1 <| nilO <| thenK_n <| retE <| thenK_r <| retT [.int .i64 0] <| ?_
    omega
  refine skipE <| thenK_n <| seqE <| regionE <| pu2 ?_
  refine sQuo x y ?_
  refine pu1 <| nilO <| thenK_n <| seqE <| seqE <| regionE <| pu2 ?_
  refine sRem x y ?_
  refine pu1 <| nilO <| thenK_n <| ?_
  refine cD ((x.tmod y) > 0) (fun hc_3 => ?_) (fun hc_3 => ?_)
  rotate_left
  · refine skipE <| thenK_n <| seqE <| regionE <| pu2 <| nilO <| thenK_n <| retE <| retT [.int .i64 (x.tdiv y)] <| ?_
    exact ⟨by unfold ceilD; rw [if_neg (by omega)]; rfl, hS⟩
  refine regionE <| pu1 ?_
  refine sAdd (x.tdiv y) 1 ?_
  refine pu1 <| nilO <| thenK_n <| seqE <| regionE <| pu2 <| nilO <| thenK_n <| retE <| retT [.int .i64 ((x.tdiv y) + 1)] <| ?_
  exact ⟨by unfold ceilD; rw [if_pos (by omega)]; rfl, hS⟩
theorem r1_mul {cs : List Chunk} (x y z : Int) (hx : 0 ≤ x ∧ x ≤ 1048577) (hy : 1 ≤ y ∧ y ≤ 4096) (hz : 0 ≤ z ∧ z ≤ 1048576) (hS : Sat W w cs) :
    Calls Tryz.prog 110 #[.int .i64 x, .int .i64 y, .int .i64 z] w fun e w' => (x * y ≤ z ∧ e = .returned (.tuple #[.int .i64 (x * y), .bool true]) ∨ ¬ (x * y ≤ z) ∧ e = .returned (.tuple #[.int .i64 0, .bool false])) ∧ Sat W w' cs := by
  have hq : 0 ≤ z.tdiv y ∧ z.tdiv y ≤ 1048576 := by rw [Int.tdiv_eq_ediv_of_nonneg hz.1]; exact ⟨Int.ediv_nonneg hz.1 (by omega), by have := Int.ediv_le_self y hz.1; omega⟩
  have hml := mul_lim (c := x) (a := y) (l := z) hx.1 hy.1 hz.1
  refine callsA 32 Tryz.func110 rfl ?_
  refine seqE <| regionE <| pu2 <| nilO <| thenK_n <| seqE <| seqE <| regionE <| pu3 ?_
  refine sD 10 (x < 0) (fun hc_1 => ?_) (fun hc_1 => ?_)
  · refine pu16 <| pu2 <| nilO <| thenK_n <| cTt <| seqE <| regionE <| pu2 <| nilO <| thenK_n <| retE <| thenK_r <| retT [.int .i64 0, .bool false] <| ?_
    exact ⟨.inr ⟨fun h => by have := hml.2 h; omega, rfl⟩, hS⟩
  refine pu4 ?_
  refine sD 14 (y < 0) (fun hc_2 => ?_) (fun hc_2 => ?_)
  · refine pu14 <| nilO <| thenK_n <| cTt <| seqE <| regionE <| pu2 <| nilO <| thenK_n <| retE <| thenK_r <| retT [.int .i64 0, .bool false] <| ?_
    exact ⟨.inr ⟨fun h => by have := hml.2 h; omega, rfl⟩, hS⟩
  refine pu4 ?_
  refine sD 18 (z < 0) (fun hc_3 => ?_) (fun hc_3 => ?_)
  · refine pu10 <| nilO <| thenK_n <| cTt <| seqE <| regionE <| pu2 <| nilO <| thenK_n <| retE <| thenK_r <| retT [.int .i64 0, .bool false] <| ?_
    exact ⟨.inr ⟨fun h => by have := hml.2 h; omega, rfl⟩, hS⟩
  refine pu3 ?_
  refine sD 21 (y > 0) (fun hc_4 => ?_) (fun hc_4 => ?_)
  rotate_left
  · refine pu7 <| nilO <| thenK_n <| cFf <| skipE <| thenK_n <| seqE ?_
    have hle := hml.1 (by omega); have hnn := Int.mul_nonneg hx.1 (show (0 : Int) ≤ y by omega)
    refine regionE <| pu2 ?_
    refine sMul x y ?_
    refine pu2 <| nilO <| thenK_n <| retE <| retT [.int .i64 (x * y), .bool true] <| ?_
    exact ⟨.inl ⟨hml.1 (by omega), rfl⟩, hS⟩
  refine pu3 <| gY ?_
  refine sQuo z y ?_
  refine pu3 <| nilO <| thenK_n <| ?_
  refine cD (x > (z.tdiv y)) (fun hc_5 => ?_) (fun hc_5 => ?_)
  · refine seqE <| regionE <| pu2 <| nilO <| thenK_n <| retE <| thenK_r <| retT [.int .i64 0, .bool false] <| ?_
    exact ⟨.inr ⟨fun h => by have := hml.2 h; omega, rfl⟩, hS⟩
  refine skipE <| thenK_n <| seqE ?_
  have hle := hml.1 (by omega); have hnn := Int.mul_nonneg hx.1 (show (0 : Int) ≤ y by omega)
  refine regionE <| pu2 ?_
  refine sMul x y ?_
  refine pu2 <| nilO <| thenK_n <| retE <| retT [.int .i64 (x * y), .bool true] <| ?_
  exact ⟨.inl ⟨hml.1 (by omega), rfl⟩, hS⟩
theorem r1_align {cs : List Chunk} (x y z : Int) (hx : 0 ≤ x ∧ x ≤ 1048576) (hy : 1 ≤ y ∧ y ≤ 4096) (hz : 0 ≤ z ∧ z ≤ 1048576) (hS : Sat W w cs) :
    Calls Tryz.prog 99 #[.int .i64 x, .int .i64 y, .int .i64 z] w fun e w' => (alignI x y ≤ z ∧ e = .returned (.tuple #[.int .i64 (alignI x y), .bool true]) ∨ ¬ (alignI x y ≤ z) ∧ e = .returned (.tuple #[.int .i64 0, .bool false])) ∧ Sat W w' cs := by
  obtain ⟨hd1, hd2, hd3, hd4, hd5⟩ := ceilD_bd hx hy
  refine callsA 22 Tryz.func99 rfl ?_
  refine seqE <| regionE <| pu2 <| nilO <| thenK_n <| seqE <| seqE <| regionE <| pu3 ?_
  refine sD 10 (x < 0) (fun hc_1 => ?_) (fun hc_1 => ?_)
  · refine pu3 <| nilO <| thenK_n <| cTt <| seqE <| regionE <| pu2 <| nilO <| thenK_n <| retE <| thenK_r <| retT [.int .i64 0, .bool false] <| ?_
    omega
  refine pu3 <| nilO <| thenK_n <| ?_
  refine cD (y < 1) (fun hc_2 => ?_) (fun hc_2 => ?_)
  · refine seqE <| regionE <| pu2 <| nilO <| thenK_n <| retE <| thenK_r <| retT [.int .i64 0, .bool false] <| ?_
    omega
  refine skipE <| thenK_n <| seqE <| regionE <| pu2 ?_
  refine cR Tryz.call111 (r1_ceil x y (by first | omega | (dsimp only; omega)) (by first | omega | (dsimp only; omega)) (Sat.flat hS)) ?_
  intro w_3 hS_4
  refine pu2 ?_
  refine cX Tryz.call110 (r1_mul (ceilD x y) y z (by omega) (by omega) (by omega) hS_4) ?_
  rintro _ w_6 ⟨⟨hm_8, rfl⟩ | ⟨hm_8, rfl⟩, hS_7⟩
  rotate_left
  · refine pu4 <| nilO <| thenK_n <| retE <| retT [.int .i64 0, .bool false] <| ?_
    exact ⟨.inr ⟨hm_8, rfl⟩, hS_7⟩
  refine pu4 <| nilO <| thenK_n <| retE <| retT [.int .i64 ((ceilD x y) * y), .bool true] <| ?_
  exact ⟨.inl ⟨hm_8, rfl⟩, hS_7⟩
theorem ar_mark {p : Nat} {S : AS} {M : Chunk} (hR : ArR p S M)  (hS : Sat W w (M :: H :: F)) :
    Calls Tryz.prog 70 #[.pointer (some ⟨p, 0, none⟩)] w fun e w' => ∃ M' : Chunk, e = .returned (.int .i64 (if 1024 ≤ S.marks.length then 19 else 0)) ∧ ArR p (markA S) M' ∧ Sat W w' (M' :: H :: F) := by
  obtain ⟨a, n, k, c, rfl, hO, hW⟩ := hR
  have hS : Sat W _ ([(p, .cells #[.int .i64 S.cap, .int .i64 S.used, .int .i64 S.high, .slice a n k] 128 (0, 0))] :: c :: H :: F) := Sat.perm hS (by simp)
  have hn := hO.len; have hl := hO.le; have hw1 := hW.c; have hw2 := hW.u; have hw3 := hW.h
  refine callsA 24 Tryz.func70 rfl ?_
  refine seqE <| regionE <| pu1 <| nilO <| thenK_n <| seqE <| seqE <| regionE <| pu2 <| nilO <| thenK_n <| cFf <| skipE <| thenK_n <| seqE <| seqE <| regionE <| pu3 ?_
  refine sL hS 0 3 (.slice a n k) (Tryz.isAgg22 _) ?_
  refine pu2 <| nilO <| thenK_n <| ?_
  refine cD (((n : Nat) : Int) ≥ 1024) (fun hc_1 => ?_) (fun hc_1 => ?_)
  · refine seqE <| regionE <| pu1 <| nilO <| thenK_n <| retE <| thenK_r <| retT [.int .i64 19] <| ?_
    have hS_2 := (((hS.pick 2 rfl).pick 2 rfl).pick 2 rfl)
    have hS_3 : Sat W _ (([(p, .cells #[.int .i64 S.cap, .int .i64 S.used, .int .i64 S.high, .slice a n k] 128 (0, 0))] ++ c) :: H :: F) := Sat.perm (show Sat W _ ([(p, .cells #[.int .i64 S.cap, .int .i64 S.used, .int .i64 S.high, .slice a n k] 128 (0, 0))] :: c :: H :: F) from hS_2) (by simp)
    have he : markA S = S := by unfold markA; rw [if_pos (by omega)]
    exact ⟨_, by rw [if_pos (by omega)]; rfl, by rw [he]; exact ⟨_, _, _, _, rfl, hO, hW⟩, hS_3⟩
  refine skipE <| thenK_n <| seqE ?_
  refine drawE [9, 10, 13] [(4, ⟨p, 3, none⟩, .slice a n k), (8, ⟨p, 1, none⟩, .int .i64 S.used)] [(true, [0, 1, 2, 3, 5, 6, 7]), (true, [4]), (true, [8]), (false, [9]), (false, [10]), (true, [11, 12]), (false, [13])] rfl (by kernel_rfl) ⟨.inr (hS.cell 0 rfl rfl), .inr (hS.cell 0 rfl rfl), trivial⟩ ?_
  have hS_4 := hS.drew
  refine wU [0, 1, 2, 3, 5, 6, 7] ?_
  refine wLd (.slice a n k) 0 Tryz.isAgg22 ?_
  refine wLd (.int .i64 S.used) 1 Tryz.isAgg3 ?_
  refine wO rfl ?_
  refine sBS hS_4 #[.int .i64 S.used] Tryz.runUnderlying22 Tryz.sizeOf3 Tryz.zeroValue3 ?_
  intro b_5 w_6 hS_7
  refine nilO ⟨⟨.inr (hS_7.cell 1 rfl rfl), .inl (by kernel_rfl), trivial⟩, ?_⟩
  refine wO rfl ?_
  refine sApp (nb := 8) hS_7 hO 2 (RdT.blk (enc := encI) (sz := 1) (xs := [S.used]) (fun _ => rfl) 1 0 rfl rfl rfl (by omega)) Tryz.underlying22 (i := Tryz.t3) (by kernel_rfl) (fun _ => rfl) ?_
  intro a_8 cap_9 c_10 w_11 hO_12 hS_13
  refine nilO ⟨⟨.inl (by kernel_rfl), .inl (by kernel_rfl), trivial⟩, ?_⟩
  refine wU [11, 12] ?_
  refine wO rfl ?_
  refine tW hS_13 1 3 (.slice a_8 (n + 1) cap_9) Tryz.sizeOf22 ?_
  intro w_14 hS_15
  refine nilO ⟨⟨.inl (by kernel_rfl), .inl (by kernel_rfl), trivial⟩, ?_⟩
  refine wN ?_
  refine thenK_n <| seqE <| regionE <| pu1 <| nilO <| thenK_n <| retE <| retT [.int .i64 0] <| ?_
  have hS_16 := ((((hS_15.pick 3 rfl).pick 3 rfl).pick 3 rfl).dropAt 3 rfl)
  have hS_17 : Sat W _ (([(p, .cells #[.int .i64 S.cap, .int .i64 S.used, .int .i64 S.high, .slice a_8 (n + 1) cap_9] 128 (0, 0))] ++ c_10) :: H :: F) := Sat.perm (show Sat W _ ([(p, .cells #[.int .i64 S.cap, .int .i64 S.used, .int .i64 S.high, .slice a_8 (n + 1) cap_9] 128 (0, 0))] :: c_10 :: H :: F) from hS_16) (by simp)
  have he : markA S = { S with marks := S.marks ++ [S.used] } := by unfold markA; rw [if_neg (by omega)]
  exact ⟨_, by rw [if_neg (by omega)]; rfl, by rw [he]; exact ⟨_, _, _, _, rfl, hO_12, ⟨hW.c, hW.u, hW.h, by intro x hx; rcases List.mem_append.1 hx with h | h; exact hW.m x h; rw [List.mem_singleton.1 h]; exact ⟨hW.u.1, hW.h.1⟩⟩⟩, hS_17⟩
theorem ar_alloc {p : Nat} {S : AS} {M : Chunk} (hR : ArR p S M) (x : Int) (y : Int) (hS : Sat W w (M :: H :: F)) :
    Calls Tryz.prog 71 #[.pointer (some ⟨p, 0, none⟩), .int .i64 x, .int .i64 y] w fun e w' => ∃ (M' : Chunk) (v : Int), e = .returned (.tuple #[.int .i64 v, .int .i64 (allocC S x y)]) ∧ ArR p (allocA S x y) M' ∧ Sat W w' (M' :: H :: F) := by
  obtain ⟨a, n, k, c, rfl, hO, hW⟩ := hR
  have hS : Sat W _ ([(p, .cells #[.int .i64 S.cap, .int .i64 S.used, .int .i64 S.high, .slice a n k] 128 (0, 0))] :: c :: H :: F) := Sat.perm hS (by simp)
  have hn := hO.len; have hl := hO.le; have hw1 := hW.c; have hw2 := hW.u; have hw3 := hW.h
  refine callsA 70 Tryz.func71 rfl ?_
  refine seqE <| regionE <| pu2 <| nilO <| thenK_n <| seqE <| seqE <| regionE <| pu2 <| nilO <| thenK_n <| cFf <| skipE <| thenK_n <| seqE <| seqE <| regionE <| pu3 ?_
  refine sD 14 (x < 1) (fun hc_1 => ?_) (fun hc_1 => ?_)
  · refine pu11 <| nilO <| thenK_n <| cTt <| seqE <| regionE <| pu2 <| nilO <| thenK_n <| retE <| thenK_r <| retT [.int .i64 0, .int .i64 2] <| ?_
    have hc : allocC S x y = 2 := by unfold allocC; rw [if_pos (by omega)]
    have hS_2 := (((hS.pick 2 rfl).pick 2 rfl).pick 2 rfl)
    have hS_3 : Sat W _ (([(p, .cells #[.int .i64 S.cap, .int .i64 S.used, .int .i64 S.high, .slice a n k] 128 (0, 0))] ++ c) :: H :: F) := Sat.perm (show Sat W _ ([(p, .cells #[.int .i64 S.cap, .int .i64 S.used, .int .i64 S.high, .slice a n k] 128 (0, 0))] :: c :: H :: F) from hS_2) (by simp)
    have he : allocA S x y = S := by unfold allocA; rw [hc, if_neg (by decide)]
    exact ⟨_, _, by rw [hc]; rfl, by rw [he]; exact ⟨_, _, _, _, rfl, hO, hW⟩, hS_3⟩
  refine pu4 ?_
  refine sD 18 (x > 1048576) (fun hc_4 => ?_) (fun hc_4 => ?_)
  · refine pu7 <| nilO <| thenK_n <| cTt <| seqE <| regionE <| pu2 <| nilO <| thenK_n <| retE <| thenK_r <| retT [.int .i64 0, .int .i64 2] <| ?_
    have hc : allocC S x y = 2 := by unfold allocC; rw [if_pos (by omega)]
    have hS_5 := (((hS.pick 2 rfl).pick 2 rfl).pick 2 rfl)
    have hS_6 : Sat W _ (([(p, .cells #[.int .i64 S.cap, .int .i64 S.used, .int .i64 S.high, .slice a n k] 128 (0, 0))] ++ c) :: H :: F) := Sat.perm (show Sat W _ ([(p, .cells #[.int .i64 S.cap, .int .i64 S.used, .int .i64 S.high, .slice a n k] 128 (0, 0))] :: c :: H :: F) from hS_5) (by simp)
    have he : allocA S x y = S := by unfold allocA; rw [hc, if_neg (by decide)]
    exact ⟨_, _, by rw [hc]; rfl, by rw [he]; exact ⟨_, _, _, _, rfl, hO, hW⟩, hS_6⟩
  refine pu4 ?_
  refine sD 22 (y < 1) (fun hc_7 => ?_) (fun hc_7 => ?_)
  · refine pu3 <| nilO <| thenK_n <| cTt <| seqE <| regionE <| pu2 <| nilO <| thenK_n <| retE <| thenK_r <| retT [.int .i64 0, .int .i64 2] <| ?_
    have hc : allocC S x y = 2 := by unfold allocC; rw [if_pos (by omega)]
    have hS_8 := (((hS.pick 2 rfl).pick 2 rfl).pick 2 rfl)
    have hS_9 : Sat W _ (([(p, .cells #[.int .i64 S.cap, .int .i64 S.used, .int .i64 S.high, .slice a n k] 128 (0, 0))] ++ c) :: H :: F) := Sat.perm (show Sat W _ ([(p, .cells #[.int .i64 S.cap, .int .i64 S.used, .int .i64 S.high, .slice a n k] 128 (0, 0))] :: c :: H :: F) from hS_8) (by simp)
    have he : allocA S x y = S := by unfold allocA; rw [hc, if_neg (by decide)]
    exact ⟨_, _, by rw [hc]; rfl, by rw [he]; exact ⟨_, _, _, _, rfl, hO, hW⟩, hS_9⟩
  refine pu3 <| nilO <| thenK_n <| ?_
  refine cD (y > 4096) (fun hc_10 => ?_) (fun hc_10 => ?_)
  · refine seqE <| regionE <| pu2 <| nilO <| thenK_n <| retE <| thenK_r <| retT [.int .i64 0, .int .i64 2] <| ?_
    have hc : allocC S x y = 2 := by unfold allocC; rw [if_pos (by omega)]
    have hS_11 := (((hS.pick 2 rfl).pick 2 rfl).pick 2 rfl)
    have hS_12 : Sat W _ (([(p, .cells #[.int .i64 S.cap, .int .i64 S.used, .int .i64 S.high, .slice a n k] 128 (0, 0))] ++ c) :: H :: F) := Sat.perm (show Sat W _ ([(p, .cells #[.int .i64 S.cap, .int .i64 S.used, .int .i64 S.high, .slice a n k] 128 (0, 0))] :: c :: H :: F) from hS_11) (by simp)
    have he : allocA S x y = S := by unfold allocA; rw [hc, if_neg (by decide)]
    exact ⟨_, _, by rw [hc]; rfl, by rw [he]; exact ⟨_, _, _, _, rfl, hO, hW⟩, hS_12⟩
  refine skipE <| thenK_n <| seqE ?_
  refine drawE [9] [(3, ⟨p, 1, none⟩, .int .i64 S.used), (8, ⟨p, 0, none⟩, .int .i64 S.cap)] [(true, [0, 1, 2, 4, 5, 6, 7]), (true, [3]), (true, [8]), (false, [9]), (true, [10]), (true, [11]), (true, [12]), (true, [13, 14])] rfl (by kernel_rfl) ⟨.inr (hS.cell 0 rfl rfl), .inr (hS.cell 0 rfl rfl), trivial⟩ ?_
  have hS_13 := hS.drew
  refine wU [0, 1, 2, 4, 5, 6, 7] ?_
  refine wLd (.int .i64 S.used) 0 Tryz.isAgg3 ?_
  refine wLd (.int .i64 S.cap) 1 Tryz.isAgg3 ?_
  refine wO rfl ?_
  have hnn := align_nn (u := S.used) (a := y) (by omega) (by omega)
  refine cX Tryz.call99 (r1_align S.used y S.cap (by omega) (by omega) (by omega) hS_13) ?_
  rintro _ w_14 ⟨⟨hm_16, rfl⟩ | ⟨hm_16, rfl⟩, hS_15⟩
  rotate_left
  · refine nilO ⟨⟨.inl (by kernel_rfl), .inl (by kernel_rfl), trivial⟩, ?_⟩
    refine wU [10] <| wU [11] <| wU [12] <| wU [13, 14] ?_
    refine wN ?_
    refine thenK_n <| seqE <| seqE <| regionE <| pu12 <| nilO <| thenK_n <| cTt <| seqE <| regionE <| pu2 <| nilO <| thenK_n <| retE <| thenK_r <| retT [.int .i64 0, .int .i64 19] <| ?_
    have hc : allocC S x y = 19 := by unfold allocC; rw [if_neg (by omega), if_neg (by omega)]
    have hS_27 := (((hS_15.pick 2 rfl).pick 2 rfl).pick 2 rfl)
    have hS_28 : Sat W _ (([(p, .cells #[.int .i64 S.cap, .int .i64 S.used, .int .i64 S.high, .slice a n k] 128 (0, 0))] ++ c) :: H :: F) := Sat.perm (show Sat W _ ([(p, .cells #[.int .i64 S.cap, .int .i64 S.used, .int .i64 S.high, .slice a n k] 128 (0, 0))] :: c :: H :: F) from hS_27) (by simp)
    have he : allocA S x y = S := by unfold allocA; rw [hc, if_neg (by decide)]
    exact ⟨_, _, by rw [hc]; rfl, by rw [he]; exact ⟨_, _, _, _, rfl, hO, hW⟩, hS_28⟩
  refine nilO ⟨⟨.inl (by kernel_rfl), .inl (by kernel_rfl), trivial⟩, ?_⟩
  refine wU [10] <| wU [11] <| wU [12] <| wU [13, 14] ?_
  refine wN ?_
  refine thenK_n <| seqE <| seqE <| regionE <| pu7 <| gY ?_
  refine sL hS_15 0 0 (.int .i64 S.cap) (Tryz.isAgg3 _) ?_
  refine pu1 <| gY ?_
  refine sSub S.cap (alignI S.used y) ?_
  refine pu2 <| nilO <| thenK_n <| ?_
  refine cD (x > (S.cap - (alignI S.used y))) (fun hc_17 => ?_) (fun hc_17 => ?_)
  · refine seqE <| regionE <| pu2 <| nilO <| thenK_n <| retE <| thenK_r <| retT [.int .i64 0, .int .i64 19] <| ?_
    have hc : allocC S x y = 19 := by unfold allocC; rw [if_neg (by omega), if_neg (by omega)]
    have hS_18 := (((hS_15.pick 2 rfl).pick 2 rfl).pick 2 rfl)
    have hS_19 : Sat W _ (([(p, .cells #[.int .i64 S.cap, .int .i64 S.used, .int .i64 S.high, .slice a n k] 128 (0, 0))] ++ c) :: H :: F) := Sat.perm (show Sat W _ ([(p, .cells #[.int .i64 S.cap, .int .i64 S.used, .int .i64 S.high, .slice a n k] 128 (0, 0))] :: c :: H :: F) from hS_18) (by simp)
    have he : allocA S x y = S := by unfold allocA; rw [hc, if_neg (by decide)]
    exact ⟨_, _, by rw [hc]; rfl, by rw [he]; exact ⟨_, _, _, _, rfl, hO, hW⟩, hS_19⟩
  refine skipE <| thenK_n <| seqE <| regionE <| pu3 ?_
  refine sAdd (alignI S.used y) x ?_
  refine pu2 ?_
  refine tW hS_15 0 1 (.int .i64 ((alignI S.used y) + x)) Tryz.sizeOf3 ?_
  intro w_20 hS_21
  refine nilO <| thenK_n <| seqE ?_
  refine drawE [12] [(4, ⟨p, 2, none⟩, .int .i64 S.high), (8, ⟨p, 1, none⟩, .int .i64 ((alignI S.used y) + x))] [(true, [0, 1, 2, 3, 5, 6, 7]), (true, [4]), (true, [8]), (true, [9]), (true, [10, 11]), (false, [12])] rfl (by kernel_rfl) ⟨.inr (hS_21.cell 0 rfl rfl), .inr (hS_21.cell 0 rfl rfl), trivial⟩ ?_
  have hS_22 := hS_21.drew
  refine wU [0, 1, 2, 3, 5, 6, 7] ?_
  refine wLd (.int .i64 S.high) 0 Tryz.isAgg3 ?_
  refine wLd (.int .i64 ((alignI S.used y) + x)) 1 Tryz.isAgg3 ?_
  refine wY (.int .i64 (max S.high ((alignI S.used y) + x))) rfl (fun w _ => Y_max2 S.high ((alignI S.used y) + x) rfl rfl (by kernel_rfl) (by kernel_rfl)) ?_
  refine wU [10, 11] ?_
  refine wO rfl ?_
  refine tW hS_22 0 2 (.int .i64 (max S.high ((alignI S.used y) + x))) Tryz.sizeOf3 ?_
  intro w_23 hS_24
  refine nilO ⟨⟨.inl (by kernel_rfl), .inl (by kernel_rfl), trivial⟩, ?_⟩
  refine wN ?_
  refine thenK_n <| seqE <| regionE <| pu3 <| nilO <| thenK_n <| retE <| retT [.int .i64 (alignI S.used y), .int .i64 0] <| ?_
  have hc : allocC S x y = 0 := by unfold allocC; rw [if_neg (by omega), if_pos (by omega)]
  have hS_25 := (((hS_24.pick 2 rfl).pick 2 rfl).pick 2 rfl)
  have hS_26 : Sat W _ (([(p, .cells #[.int .i64 S.cap, .int .i64 ((alignI S.used y) + x), .int .i64 (max S.high ((alignI S.used y) + x)), .slice a n k] 128 (0, 0))] ++ c) :: H :: F) := Sat.perm (show Sat W _ ([(p, .cells #[.int .i64 S.cap, .int .i64 ((alignI S.used y) + x), .int .i64 (max S.high ((alignI S.used y) + x)), .slice a n k] 128 (0, 0))] :: c :: H :: F) from hS_25) (by simp)
  have he : allocA S x y = { S with used := alignI S.used y + x, high := (max S.high ((alignI S.used y) + x)) } := by unfold allocA; rw [if_pos hc]
  exact ⟨_, _, by rw [hc]; rfl, by rw [he]; exact ⟨_, _, _, _, rfl, hO, ⟨hW.c, by dsimp only; omega, by dsimp only; omega, fun z hz => ⟨(hW.m z hz).1, by have h := (hW.m z hz).2; dsimp only; omega⟩⟩⟩, hS_26⟩
theorem ar_release {p : Nat} {S : AS} {M : Chunk} (hR : ArR p S M)  (hS : Sat W w (M :: H :: F)) :
    Calls Tryz.prog 74 #[.pointer (some ⟨p, 0, none⟩)] w fun e w' => ∃ (M' : Chunk) (v : Int), e = .returned (.int .i64 v) ∧ ArR p (relA S) M' ∧ Sat W w' (M' :: H :: F) := by
  obtain ⟨a, n, k, c, rfl, hO, hW⟩ := hR
  have hS : Sat W _ ([(p, .cells #[.int .i64 S.cap, .int .i64 S.used, .int .i64 S.high, .slice a n k] 128 (0, 0))] :: c :: H :: F) := Sat.perm hS (by simp)
  have hn := hO.len; have hl := hO.le; have hw1 := hW.c; have hw2 := hW.u; have hw3 := hW.h
  refine callsA 42 Tryz.func74 rfl ?_
  refine seqE <| regionE <| pu1 <| nilO <| thenK_n <| seqE <| seqE <| regionE <| pu6 <| gY ?_
  refine sL hS 0 3 (.slice a n k) (Tryz.isAgg22 _) ?_
  refine pu3 <| nilO <| thenK_n <| ?_
  refine cE ((n : Nat) : Int) 0 (fun hc_1 => ?_) (fun hc_1 => ?_)
  · refine seqE <| regionE <| pu1 <| nilO <| thenK_n <| retE <| thenK_r <| retT [.int .i64 20] <| ?_
    have hS_2 := (((hS.pick 2 rfl).pick 2 rfl).pick 2 rfl)
    have hS_3 : Sat W _ (([(p, .cells #[.int .i64 S.cap, .int .i64 S.used, .int .i64 S.high, .slice a n k] 128 (0, 0))] ++ c) :: H :: F) := Sat.perm (show Sat W _ ([(p, .cells #[.int .i64 S.cap, .int .i64 S.used, .int .i64 S.high, .slice a n k] 128 (0, 0))] :: c :: H :: F) from hS_2) (by simp)
    have he : relA S = S := by unfold relA; rw [List.getLast?_eq_none_iff.2 (List.length_eq_zero_iff.1 (by omega))]
    exact ⟨_, _, rfl, by rw [he]; exact ⟨_, _, _, _, rfl, hO, hW⟩, hS_3⟩
  refine skipE <| thenK_n <| seqE ?_
  obtain ⟨x_4, b_5, o_6, hx_7, hp_8, hq_9, ha_10⟩ := OwnT.elem hO (((n : Nat) : Int) - 1)
  refine drawE [15] [(4, ⟨p, 3, none⟩, .slice a n k), (8, ⟨p, 3, none⟩, .slice a n k), (12, ⟨b_5, o_6 + ((((n : Nat) : Int) - 1)).toNat * 1, none⟩, .int .i64 x_4)] [(true, [0, 1, 2, 3, 5, 6, 7]), (true, [4]), (true, [8]), (true, [9]), (true, [10]), (true, [11]), (true, [12]), (true, [13, 14]), (false, [15])] rfl (by kernel_rfl) ⟨.inr (hS.cell 0 rfl rfl), .inr (hS.cell 0 rfl rfl), .inr ((hp_8.up 1 rfl).cell hS (k := 0) rfl), trivial⟩ ?_
  have hS_11 := hS.drew
  refine wU [0, 1, 2, 3, 5, 6, 7] ?_
  refine wLd (.slice a n k) 0 Tryz.isAgg22 ?_
  refine wLd (.slice a n k) 1 Tryz.isAgg22 ?_
  refine wU [9] ?_
  refine wSub ((n : Nat) : Int) 1 ?_
  refine wY (.pointer (some ⟨b_5, o_6 + ((((n : Nat) : Int) - 1)).toNat * 1, none⟩)) rfl (fun w _ => Y_idx (a := a) (i := (((n : Nat) : Int) - 1)) (len := n) (cap := k) rfl Tryz.runUnderlying22 Tryz.sizeOf3 (by kernel_rfl) (by kernel_rfl) hq_9) ?_
  refine wLd (.int .i64 x_4) 2 Tryz.isAgg3 ?_
  refine wU [13, 14] ?_
  refine wO rfl ?_
  refine tW hS_11 0 1 (.int .i64 x_4) Tryz.sizeOf3 ?_
  intro w_12 hS_13
  refine nilO ⟨⟨.inl (by kernel_rfl), .inl (by kernel_rfl), .inl (by kernel_rfl), trivial⟩, ?_⟩
  refine wN ?_
  refine thenK_n <| seqE ?_
  refine drawE [14] [(4, ⟨p, 3, none⟩, .slice a n k), (8, ⟨p, 3, none⟩, .slice a n k)] [(true, [0, 1, 2, 3, 5, 6, 7]), (true, [4]), (true, [8]), (true, [9]), (true, [10]), (true, [11]), (true, [12, 13]), (false, [14])] rfl (by kernel_rfl) ⟨.inr (hS_13.cell 0 rfl rfl), .inr (hS_13.cell 0 rfl rfl), trivial⟩ ?_
  have hS_14 := hS_13.drew
  refine wU [0, 1, 2, 3, 5, 6, 7] ?_
  refine wLd (.slice a n k) 0 Tryz.isAgg22 ?_
  refine wLd (.slice a n k) 1 Tryz.isAgg22 ?_
  refine wU [9] ?_
  refine wSub ((n : Nat) : Int) 1 ?_
  have hP_15 := hO.part (lo := 0) (hi := ((((n : Nat) : Int) - 1)).toNat) (by omega) (by omega)
  refine wY (.slice (partAddr a k 0 1) (((((n : Nat) : Int) - 1)).toNat - 0) (k - 0)) rfl (fun w _ => Y_sl (a := a) (len := n) (cap := k) none (some (((n : Nat) : Int) - 1)) 0 (((((n : Nat) : Int) - 1)).toNat) Tryz.runUnderlying22 Tryz.sizeOf3 rfl ⟨by omega, by omega⟩ (by omega) (by omega)) ?_
  refine wU [12, 13] ?_
  refine wO rfl ?_
  refine tW hS_14 0 3 (.slice (partAddr a k 0 1) (((((n : Nat) : Int) - 1)).toNat - 0) (k - 0)) Tryz.sizeOf22 ?_
  intro w_16 hS_17
  refine nilO ⟨⟨.inl (by kernel_rfl), .inl (by kernel_rfl), trivial⟩, ?_⟩
  refine wN ?_
  refine thenK_n <| seqE <| regionE <| pu1 <| nilO <| thenK_n <| retE <| retT [.int .i64 0] <| ?_
  have hgl : S.marks.getLast? = some x_4 := by rw [List.getLast?_eq_getElem?, ← hx_7]; congr 1; omega
  have hS_18 := (((hS_17.pick 2 rfl).pick 2 rfl).pick 2 rfl)
  have hS_19 : Sat W _ (([(p, .cells #[.int .i64 S.cap, .int .i64 x_4, .int .i64 S.high, .slice (partAddr a k 0 1) (((((n : Nat) : Int) - 1)).toNat - 0) (k - 0)] 128 (0, 0))] ++ c) :: H :: F) := Sat.perm (show Sat W _ ([(p, .cells #[.int .i64 S.cap, .int .i64 x_4, .int .i64 S.high, .slice (partAddr a k 0 1) (((((n : Nat) : Int) - 1)).toNat - 0) (k - 0)] 128 (0, 0))] :: c :: H :: F) from hS_18) (by simp)
  have he : relA S = { S with used := x_4, marks := ((S.marks.drop 0).take (((((n : Nat) : Int) - 1)).toNat - 0)) } := by unfold relA; rw [hgl]; simp only [List.drop_zero, List.dropLast_eq_take]; congr 2; omega
  exact ⟨_, _, rfl, by rw [he]; exact ⟨_, _, _, _, rfl, hP_15, ⟨hW.c, by have h := hW.m _ (List.mem_of_getElem? hx_7); dsimp only; omega, ⟨(hW.m _ (List.mem_of_getElem? hx_7)).2, hW.h.2⟩, fun z hz => hW.m z (List.mem_of_mem_drop (List.mem_of_mem_take hz))⟩⟩, hS_19⟩
theorem ar_reset {p : Nat} {S : AS} {M : Chunk} (hR : ArR p S M)  (hS : Sat W w (M :: H :: F)) :
    Calls Tryz.prog 45 #[.pointer (some ⟨p, 0, none⟩)] w fun e w' => ∃ M' : Chunk, e = .returned (.tuple #[]) ∧ ArR p (resetA S) M' ∧ Sat W w' (M' :: H :: F) := by
  obtain ⟨a, n, k, c, rfl, hO, hW⟩ := hR
  have hS : Sat W _ ([(p, .cells #[.int .i64 S.cap, .int .i64 S.used, .int .i64 S.high, .slice a n k] 128 (0, 0))] :: c :: H :: F) := Sat.perm hS (by simp)
  have hn := hO.len; have hl := hO.le; have hw1 := hW.c; have hw2 := hW.u; have hw3 := hW.h
  refine callsA 10 Tryz.func45 rfl ?_
  refine seqE <| regionE <| pu2 <| nilO <| thenK_n <| cTt <| regionE <| pu4 ?_
  refine tW hS 0 1 (.int .i64 0) Tryz.sizeOf3 ?_
  intro w_1 hS_2
  refine pu2 ?_
  refine tW hS_2 0 3 (.slice none 0 0) Tryz.sizeOf22 ?_
  intro w_3 hS_4
  refine nilO ?_
  refine ret0n rfl <| ?_
  have hS_5 := (((hS_4.pick 2 rfl).pick 1 rfl).dropAt 2 rfl)
  have hS_6 : Sat W _ (([(p, .cells #[.int .i64 S.cap, .int .i64 0, .int .i64 S.high, .slice none 0 0] 128 (0, 0))] ++ ([] : Chunk)) :: H :: F) := Sat.perm (show Sat W _ ([(p, .cells #[.int .i64 S.cap, .int .i64 0, .int .i64 S.high, .slice none 0 0] 128 (0, 0))] :: H :: F) from hS_5) (by simp)
  have he : resetA S = ⟨S.cap, 0, S.high, []⟩ := rfl
  exact ⟨_, rfl, by rw [he]; exact ⟨_, _, _, _, rfl, OwnT.nil (fun _ => rfl), ⟨hW.c, by dsimp only; omega, by dsimp only; omega, fun x hx => by cases hx⟩⟩, hS_6⟩
theorem ar_used {p : Nat} {S : AS} {M : Chunk} (hR : ArR p S M)  (hS : Sat W w (M :: H :: F)) :
    Calls Tryz.prog 72 #[.pointer (some ⟨p, 0, none⟩)] w fun e w' => e = .returned (.int .i64 S.used) ∧ Sat W w' (M :: H :: F) := by
  obtain ⟨a, n, k, c, rfl, hO, hW⟩ := hR
  have hS : Sat W _ ([(p, .cells #[.int .i64 S.cap, .int .i64 S.used, .int .i64 S.high, .slice a n k] 128 (0, 0))] :: c :: H :: F) := Sat.perm hS (by simp)
  have hn := hO.len; have hl := hO.le; have hw1 := hW.c; have hw2 := hW.u; have hw3 := hW.h
  refine callsA 9 Tryz.func72 rfl ?_
  refine seqE <| regionE <| pu1 <| nilO <| thenK_n <| seqE <| seqE <| regionE <| pu2 <| nilO <| thenK_n <| cFf <| skipE <| thenK_n <| seqE <| regionE <| pu3 ?_
  refine sL hS 0 1 (.int .i64 S.used) (Tryz.isAgg3 _) ?_
  refine pu1 <| nilO <| thenK_n <| retE <| retT [.int .i64 S.used] <| ?_
  have hS_1 := (((hS.pick 2 rfl).pick 2 rfl).pick 2 rfl)
  have hS_2 : Sat W _ (([(p, .cells #[.int .i64 S.cap, .int .i64 S.used, .int .i64 S.high, .slice a n k] 128 (0, 0))] ++ c) :: H :: F) := Sat.perm (show Sat W _ ([(p, .cells #[.int .i64 S.cap, .int .i64 S.used, .int .i64 S.high, .slice a n k] 128 (0, 0))] :: c :: H :: F) from hS_1) (by simp)
  exact ⟨rfl, hS_2⟩
theorem ar_high {p : Nat} {S : AS} {M : Chunk} (hR : ArR p S M)  (hS : Sat W w (M :: H :: F)) :
    Calls Tryz.prog 69 #[.pointer (some ⟨p, 0, none⟩)] w fun e w' => e = .returned (.int .i64 S.high) ∧ Sat W w' (M :: H :: F) := by
  obtain ⟨a, n, k, c, rfl, hO, hW⟩ := hR
  have hS : Sat W _ ([(p, .cells #[.int .i64 S.cap, .int .i64 S.used, .int .i64 S.high, .slice a n k] 128 (0, 0))] :: c :: H :: F) := Sat.perm hS (by simp)
  have hn := hO.len; have hl := hO.le; have hw1 := hW.c; have hw2 := hW.u; have hw3 := hW.h
  refine callsA 9 Tryz.func69 rfl ?_
  refine seqE <| regionE <| pu1 <| nilO <| thenK_n <| seqE <| seqE <| regionE <| pu2 <| nilO <| thenK_n <| cFf <| skipE <| thenK_n <| seqE <| regionE <| pu3 ?_
  refine sL hS 0 2 (.int .i64 S.high) (Tryz.isAgg3 _) ?_
  refine pu1 <| nilO <| thenK_n <| retE <| retT [.int .i64 S.high] <| ?_
  have hS_1 := (((hS.pick 2 rfl).pick 2 rfl).pick 2 rfl)
  have hS_2 : Sat W _ (([(p, .cells #[.int .i64 S.cap, .int .i64 S.used, .int .i64 S.high, .slice a n k] 128 (0, 0))] ++ c) :: H :: F) := Sat.perm (show Sat W _ ([(p, .cells #[.int .i64 S.cap, .int .i64 S.used, .int .i64 S.high, .slice a n k] 128 (0, 0))] :: c :: H :: F) from hS_1) (by simp)
  exact ⟨rfl, hS_2⟩
theorem r22_new {cs : List Chunk} (c : Int) (hc : 0 ≤ c ∧ c ≤ 1048576) (hS : Sat W w cs) :
    Calls Tryz.prog 32 #[.int .i64 c] w fun e w' => ∃ (p : Nat) (M : Chunk), e = .returned (.tuple #[.pointer (some ⟨p, 0, none⟩), .int .i64 0]) ∧ ArR p ⟨c, 0, 0, []⟩ M ∧ Sat W w' (M :: cs) := by
  refine callsA 13 Tryz.func32 rfl ?_
  refine seqE <| regionE <| pu2 <| nilO <| thenK_n <| seqE <| seqE <| regionE <| pu3 ?_
  refine sD 6 (c < 0) (fun hc_1 => ?_) (fun hc_1 => ?_)
  · refine pu3 <| nilO <| thenK_n <| cTt <| seqE <| regionE <| pu2 <| nilO <| thenK_n <| retE <| thenK_r <| retT [.pointer none, .int .i64 2] <| ?_
    omega
  refine pu3 <| nilO <| thenK_n <| ?_
  refine cD (c > 1048576) (fun hc_2 => ?_) (fun hc_2 => ?_)
  · refine seqE <| regionE <| pu2 <| nilO <| thenK_n <| retE <| thenK_r <| retT [.pointer none, .int .i64 2] <| ?_
    omega
  refine skipE <| thenK_n <| seqE <| regionE <| pu2 ?_
  refine sBox hS (.agg #[.int .i64 c, .int .i64 0, .int .i64 0, .slice none 0 0]) #[.int .i64 c, .int .i64 0, .int .i64 0, .slice none 0 0] ?_
  intro b_3 w_4 hS_5
  refine pu2 <| nilO <| thenK_n <| retE <| retT [.pointer (some ⟨b_3, 0, none⟩), .int .i64 0] <| ?_
  exact ⟨_, _, rfl, ⟨_, _, _, [], rfl, OwnT.nil (fun _ => rfl), ⟨hc, by dsimp only; omega, by dsimp only; omega, fun x hx => by cases hx⟩⟩, hS_5⟩
end Go.Proofs.YtimkhljglpookaaGreat
