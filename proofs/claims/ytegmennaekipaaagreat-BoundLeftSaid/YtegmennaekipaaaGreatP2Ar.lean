import Derived.Test.YtegmennaekipaaaGreatP2Pf8
namespace Go.Proofs.YtegmennaekipaaaGreat
open Go Go.E
set_option linter.unusedVariables false
set_option linter.unusedSimpArgs false
set_option linter.unnecessarySimpa false
set_option maxRecDepth 100000
set_option maxHeartbeats 2000000
variable {W w : World} {H : Chunk} {F : List Chunk}

-- squeezed
def ArR (p : Nat) (S : AS) (M : Chunk) : Prop := ∃ (a : Option Addr) (n k : Nat) (c : Chunk), M = [(p, .cells #[.int .i64 S.cap, .int .i64 S.used, .int .i64 S.high, .slice a n k] 154 (0, 0))] ++ c ∧ OwnT encI 3 1 a n k S.marks c ∧ S.Wf
theorem r1_ceil (x : Int) (y : Int) (hx : 0 ≤ x ∧ x ≤ 1048576) (hy : 1 ≤ y ∧ y ≤ 4096) (hS : Sat W w (H :: F)) :
  Ro Tryz.prog 176 #[I x, I y] (I (ceilD x y)) W w (H :: F) := by
 obtain ⟨hd1, hd2, hd3, hd4, hd5⟩ := ceilD_bd hx hy
 refine callsA 22 Tryz.func176 rfl ?_
 refine sR <| pu1 <| nT <| seqE <| sR <| pu3 ?_
 refine sD 8 (x < 0) (fun a0 => ?_) (fun a0 => ?_)
 ·refine pu3 <| nT <| cTt <| sR <| pu1 <| nT <| retE <| thenK_r <| retT [I 0] ?_
  omega
 refine pu3 <| nT ?_
 refine cD (y < 1) (fun b0 => ?_) (fun b0 => ?_)
 ·refine sR <| pu1 <| nT <| retE <| thenK_r <| retT [I 0] ?_
  omega
 refine kT <| sR <| pu2 ?_
 refine sQuo x y ?_
 refine pu1 <| nT <| seqE <| sR <| pu2 ?_
 refine sRem x y ?_
 refine pu1 <| nT ?_
 refine cD ((x.tmod y) > 0) (fun c0 => ?_) (fun c0 => ?_)
 rotate_left
 ·refine kT <| sR <| pu2 <| nT <| retE <| retT [I (x.tdiv y)] ?_
  exact ⟨by unfold ceilD; rw [if_neg om]; rfl, hS⟩
 refine regionE <| pu1 ?_
 refine sAdd (x.tdiv y) 1 ?_
 refine pu1 <| nT <| sR <| pu2 <| nT <| retE <| retT [I ((x.tdiv y) + 1)] ?_
 exact ⟨by unfold ceilD; rw [if_pos om]; rfl, hS⟩
theorem r1_mul {cs : List Chunk} (x y z : Int) (hx : 0 ≤ x ∧ x ≤ 1048577) (hy : 1 ≤ y ∧ y ≤ 4096) (hz : 0 ≤ z ∧ z ≤ 1048576) (hS : Sat W w cs) :
  Calls Tryz.prog 175 #[I x, I y, I z] w fun e w' => (x * y ≤ z ∧ e = .returned (.tuple #[I (x * y), .bool true]) ∨ ¬ (x * y ≤ z) ∧ e = .returned (.tuple #[I 0, .bool false])) ∧ Sat W w' cs := by
 have hq : 0 ≤ z.tdiv y ∧ z.tdiv y ≤ 1048576 := by rw [Int.tdiv_eq_ediv_of_nonneg hz.1]; exact ⟨Int.ediv_nonneg hz.1 om, by have := Int.ediv_le_self y hz.1; omega⟩
 have hml := mul_lim (c := x) (a := y) (l := z) hx.1 hy.1 hz.1
 refine callsA 32 Tryz.func175 rfl ?_
 refine sR <| pu2 <| nT <| seqE <| sR <| pu3 ?_
 refine sD 10 (x < 0) (fun a0 => ?_) (fun a0 => ?_)
 ·refine pu16 <| pu2 <| nT <| cTt <| sR <| pu2 <| nT <| retE <| thenK_r <| retT [I 0, .bool false] ?_
  exact ⟨.inr ⟨fun h => by have := hml.2 h; omega, rfl⟩, hS⟩
 refine pu4 ?_
 refine sD 14 (y < 0) (fun b0 => ?_) (fun b0 => ?_)
 ·refine pu14 <| nT <| cTt <| sR <| pu2 <| nT <| retE <| thenK_r <| retT [I 0, .bool false] ?_
  exact ⟨.inr ⟨fun h => by have := hml.2 h; omega, rfl⟩, hS⟩
 refine pu4 ?_
 refine sD 18 (z < 0) (fun c0 => ?_) (fun c0 => ?_)
 ·refine pu10 <| nT <| cTt <| sR <| pu2 <| nT <| retE <| thenK_r <| retT [I 0, .bool false] ?_
  exact ⟨.inr ⟨fun h => by have := hml.2 h; omega, rfl⟩, hS⟩
 refine pu3 ?_
 refine sD 21 (y > 0) (fun d0 => ?_) (fun d0 => ?_)
 rotate_left
 ·refine pu7 <| nT <| cFf <| kT <| seqE ?_
  have hle := hml.1 om; have hnn := Int.mul_nonneg hx.1 (show (0 : Int) ≤ y by omega)
  refine regionE <| pu2 ?_
  refine sMul x y ?_
  refine pu2 <| nT <| retE <| retT [I (x * y), .bool true] ?_
  exact ⟨.inl ⟨hml.1 om, rfl⟩, hS⟩
 refine pu3 <| gY ?_
 refine sQuo z y ?_
 refine pu3 <| nT ?_
 refine cD (x > (z.tdiv y)) (fun e0 => ?_) (fun e0 => ?_)
 ·refine sR <| pu2 <| nT <| retE <| thenK_r <| retT [I 0, .bool false] ?_
  exact ⟨.inr ⟨fun h => by have := hml.2 h; omega, rfl⟩, hS⟩
 refine kT <| seqE ?_
 have hle := hml.1 om; have hnn := Int.mul_nonneg hx.1 (show (0 : Int) ≤ y by omega)
 refine regionE <| pu2 ?_
 refine sMul x y ?_
 refine pu2 <| nT <| retE <| retT [I (x * y), .bool true] ?_
 exact ⟨.inl ⟨hml.1 om, rfl⟩, hS⟩
theorem r1_align {cs : List Chunk} (x y z : Int) (hx : 0 ≤ x ∧ x ≤ 1048576) (hy : 1 ≤ y ∧ y ≤ 4096) (hz : 0 ≤ z ∧ z ≤ 1048576) (hS : Sat W w cs) :
  Calls Tryz.prog 158 #[I x, I y, I z] w fun e w' => (alignI x y ≤ z ∧ e = .returned (.tuple #[I (alignI x y), .bool true]) ∨ ¬ (alignI x y ≤ z) ∧ e = .returned (.tuple #[I 0, .bool false])) ∧ Sat W w' cs := by
 obtain ⟨hd1, hd2, hd3, hd4, hd5⟩ := ceilD_bd hx hy
 refine callsA 22 Tryz.func158 rfl ?_
 refine sR <| pu2 <| nT <| seqE <| sR <| pu3 ?_
 refine sD 10 (x < 0) (fun c0 => ?_) (fun c0 => ?_)
 ·refine pu3 <| nT <| cTt <| sR <| pu2 <| nT <| retE <| thenK_r <| retT [I 0, .bool false] ?_
  omega
 refine pu3 <| nT ?_
 refine cD (y < 1) (fun d0 => ?_) (fun d0 => ?_)
 ·refine sR <| pu2 <| nT <| retE <| thenK_r <| retT [I 0, .bool false] ?_
  omega
 refine kT <| sR <| pu2 ?_
 refine cR Tryz.call176 (r1_ceil x y (od) (od) (Sat.flat hS)) ?_
 intro _ e0
 refine pu2 ?_
 refine cX Tryz.call175 (r1_mul (ceilD x y) y z om om om e0) ?_
 rintro _ _ ⟨⟨a0, rfl⟩ | ⟨a0, rfl⟩, b0⟩
 rotate_left
 ·refine pu4 <| nT <| retE <| retT [I 0, .bool false] ?_
  exact ⟨.inr ⟨a0, rfl⟩, b0⟩
 refine pu4 <| nT <| retE <| retT [I ((ceilD x y) * y), .bool true] ?_
 exact ⟨.inl ⟨a0, rfl⟩, b0⟩
theorem ar_mark {p : Nat} {S : AS} {M : Chunk} (hR : ArR p S M)  (hS : Sat W w (M :: H :: F)) :
  Calls Tryz.prog 131 #[Pt p 0] w fun e w' => ∃ M' : Chunk, e = .returned (I (if 1024 ≤ S.marks.length then 19 else 0)) ∧ ArR p (markA S) M' ∧ Sat W w' (M' :: H :: F) := by
 obtain ⟨a, n, k, c, rfl, hO, hW⟩ := hR
 have hS : Sat W _ ([(p, .cells #[I S.cap, I S.used, I S.high, .slice a n k] 154 (0, 0))] :: c :: H :: F) := Sat.perm hS (by simp)
 have hn := hO.len; have hl := hO.le; have hw1 := hW.c; have hw2 := hW.u; have hw3 := hW.h
 refine callsA 24 Tryz.func131 rfl ?_
 refine sR <| pu1 <| nT <| seqE <| sR <| pu2 <| nT <| cFf <| kT <| seqE <| sR <| pu3 ?_
 refine sL hS 0 3 (.slice a n k) (Tryz.isAgg22 _) ?_
 refine pu2 <| nT ?_
 refine cD (((n : Nat) : Int) ≥ 1024) (fun b0 => ?_) (fun b0 => ?_)
 ·refine sR <| pu1 <| nT <| retE <| thenK_r <| retT [I 19] ?_
  have c0 := (hS.merge2)
  have he : markA S = S := by unfold markA; rw [if_pos om]
  exact ⟨_, by rw [if_pos om]; rfl, by rw [he]; exact ⟨_, _, _, _, rfl, hO, hW⟩, c0⟩
 refine kT <| seqE ?_
 refine drawE [9, 10, 13] [(4, ⟨p, 3, none⟩, .slice a n k), (8, ⟨p, 1, none⟩, I S.used)] [(true, [0, 1, 2, 3, 5, 6, 7]), (true, [4]), (true, [8]), (false, [9]), (false, [10]), (true, [11, 12]), (false, [13])] rfl kr ⟨.inr (hS.cell 0 rfl rfl), .inr (hS.cell 0 rfl rfl), trivial⟩ ?_
 have d0 := hS.drew
 refine wU [0, 1, 2, 3, 5, 6, 7] ?_
 refine wLd (.slice a n k) 0 Tryz.isAgg22 ?_
 refine wLd (I S.used) 1 Tryz.isAgg3 ?_
 refine wO rfl ?_
 refine sBS d0 #[I S.used] Tryz.runUnderlying22 Tryz.sizeOf3 Tryz.zeroValue3 ?_
 intro _ _ a0
 refine nilO ⟨⟨.inr (a0.cell 1 rfl rfl), dI, trivial⟩, ?_⟩
 refine wO rfl ?_
 refine sApp (nb := 8) a0 hO 2 (RdT.blk (enc := encI) (sz := 1) (xs := [S.used]) fR 1 0 rfl rfl rfl om) Tryz.underlying22 (i := Tryz.t3) kr fR ?_
 intro e0 f0 _ _ g0 h0
 refine nilO ⟨dA, ?_⟩
 refine wU [11, 12] ?_
 refine wO rfl ?_
 refine tW h0 1 3 (.slice e0 (n + 1) f0) Tryz.sizeOf22 ?_
 intro _ i0
 refine nilO ⟨dA, ?_⟩
 refine wN ?_
 refine thenK_n <| sR <| pu1 <| nT <| retE <| retT [I 0] ?_
 have j0 := (i0.dropAt 0 rfl)
 have k0 := (j0.merge2)
 have he : markA S = { S with marks := S.marks ++ [S.used] } := by unfold markA; rw [if_neg om]
 exact ⟨_, by rw [if_neg om]; rfl, by rw [he]; exact ⟨_, _, _, _, rfl, g0, ⟨hW.c, hW.u, hW.h, by intro x hx; rcases List.mem_append.1 hx with h | h; exact hW.m x h; rw [List.mem_singleton.1 h]; exact ⟨hW.u.1, hW.h.1⟩⟩⟩, k0⟩
theorem ar_alloc {p : Nat} {S : AS} {M : Chunk} (hR : ArR p S M) (x : Int) (y : Int) (hS : Sat W w (M :: H :: F)) :
  Calls Tryz.prog 132 #[Pt p 0, I x, I y] w fun e w' => ∃ (M' : Chunk) (v : Int), e = .returned (.tuple #[I v, I (allocC S x y)]) ∧ ArR p (allocA S x y) M' ∧ Sat W w' (M' :: H :: F) := by
 obtain ⟨a, n, k, c, rfl, hO, hW⟩ := hR
 have hS : Sat W _ ([(p, .cells #[I S.cap, I S.used, I S.high, .slice a n k] 154 (0, 0))] :: c :: H :: F) := Sat.perm hS (by simp)
 have hn := hO.len; have hl := hO.le; have hw1 := hW.c; have hw2 := hW.u; have hw3 := hW.h
 refine callsA 70 Tryz.func132 rfl ?_
 refine sR <| pu2 <| nT <| seqE <| sR <| pu2 <| nT <| cFf <| kT <| seqE <| sR <| pu3 ?_
 refine sD 14 (x < 1) (fun c0 => ?_) (fun c0 => ?_)
 ·refine pu11 <| nT <| cTt <| sR <| pu2 <| nT <| retE <| thenK_r <| retT [I 0, I 2] ?_
  have hc : allocC S x y = 2 := by unfold allocC; rw [if_pos om]
  have d0 := (hS.merge2)
  have he : allocA S x y = S := by unfold allocA; rw [hc, if_neg (by decide)]
  exact ⟨_, _, by rw [hc]; rfl, by rw [he]; exact ⟨_, _, _, _, rfl, hO, hW⟩, d0⟩
 refine pu4 ?_
 refine sD 18 (x > 1048576) (fun e0 => ?_) (fun e0 => ?_)
 ·refine pu7 <| nT <| cTt <| sR <| pu2 <| nT <| retE <| thenK_r <| retT [I 0, I 2] ?_
  have hc : allocC S x y = 2 := by unfold allocC; rw [if_pos om]
  have f0 := (hS.merge2)
  have he : allocA S x y = S := by unfold allocA; rw [hc, if_neg (by decide)]
  exact ⟨_, _, by rw [hc]; rfl, by rw [he]; exact ⟨_, _, _, _, rfl, hO, hW⟩, f0⟩
 refine pu4 ?_
 refine sD 22 (y < 1) (fun g0 => ?_) (fun g0 => ?_)
 ·refine pu3 <| nT <| cTt <| sR <| pu2 <| nT <| retE <| thenK_r <| retT [I 0, I 2] ?_
  have hc : allocC S x y = 2 := by unfold allocC; rw [if_pos om]
  have h0 := (hS.merge2)
  have he : allocA S x y = S := by unfold allocA; rw [hc, if_neg (by decide)]
  exact ⟨_, _, by rw [hc]; rfl, by rw [he]; exact ⟨_, _, _, _, rfl, hO, hW⟩, h0⟩
 refine pu3 <| nT ?_
 refine cD (y > 4096) (fun i0 => ?_) (fun i0 => ?_)
 ·refine sR <| pu2 <| nT <| retE <| thenK_r <| retT [I 0, I 2] ?_
  have hc : allocC S x y = 2 := by unfold allocC; rw [if_pos om]
  have j0 := (hS.merge2)
  have he : allocA S x y = S := by unfold allocA; rw [hc, if_neg (by decide)]
  exact ⟨_, _, by rw [hc]; rfl, by rw [he]; exact ⟨_, _, _, _, rfl, hO, hW⟩, j0⟩
 refine kT <| seqE ?_
 refine drawE [9] [(3, ⟨p, 1, none⟩, I S.used), (8, ⟨p, 0, none⟩, I S.cap)] [(true, [0, 1, 2, 4, 5, 6, 7]), (true, [3]), (true, [8]), (false, [9]), (true, [10]), (true, [11]), (true, [12]), (true, [13, 14])] rfl kr ⟨.inr (hS.cell 0 rfl rfl), .inr (hS.cell 0 rfl rfl), trivial⟩ ?_
 have k0 := hS.drew
 refine wU [0, 1, 2, 4, 5, 6, 7] ?_
 refine wLd (I S.used) 0 Tryz.isAgg3 ?_
 refine wLd (I S.cap) 1 Tryz.isAgg3 ?_
 refine wO rfl ?_
 have hnn := align_nn (u := S.used) (a := y) om om
 refine cX Tryz.call158 (r1_align S.used y S.cap om om om k0) ?_
 rintro _ _ ⟨⟨l0, rfl⟩ | ⟨l0, rfl⟩, a0⟩
 rotate_left
 ·refine nilO ⟨dA, ?_⟩
  refine wU [10] <| wU [11] <| wU [12] <| wU [13, 14] ?_
  refine wN ?_
  refine thenK_n <| seqE <| sR <| pu12 <| nT <| cTt <| sR <| pu2 <| nT <| retE <| thenK_r <| retT [I 0, I 19] ?_
  have hc : allocC S x y = 19 := by unfold allocC; rw [if_neg om, if_neg om]
  have m0 := (a0.merge2)
  have he : allocA S x y = S := by unfold allocA; rw [hc, if_neg (by decide)]
  exact ⟨_, _, by rw [hc]; rfl, by rw [he]; exact ⟨_, _, _, _, rfl, hO, hW⟩, m0⟩
 refine nilO ⟨dA, ?_⟩
 refine wU [10] <| wU [11] <| wU [12] <| wU [13, 14] ?_
 refine wN ?_
 refine thenK_n <| seqE <| sR <| pu7 <| gY ?_
 refine sL a0 0 0 (I S.cap) (Tryz.isAgg3 _) ?_
 refine pu1 <| gY ?_
 refine sSub S.cap (alignI S.used y) ?_
 refine pu2 <| nT ?_
 refine cD (x > (S.cap - (alignI S.used y))) (fun n0 => ?_) (fun n0 => ?_)
 ·refine sR <| pu2 <| nT <| retE <| thenK_r <| retT [I 0, I 19] ?_
  have hc : allocC S x y = 19 := by unfold allocC; rw [if_neg om, if_neg om]
  have o0 := (a0.merge2)
  have he : allocA S x y = S := by unfold allocA; rw [hc, if_neg (by decide)]
  exact ⟨_, _, by rw [hc]; rfl, by rw [he]; exact ⟨_, _, _, _, rfl, hO, hW⟩, o0⟩
 refine kT <| sR <| pu3 ?_
 refine sAdd (alignI S.used y) x ?_
 refine pu2 ?_
 refine tW a0 0 1 (I ((alignI S.used y) + x)) Tryz.sizeOf3 ?_
 intro _ b0
 refine nT <| seqE ?_
 refine drawE [12] [(4, ⟨p, 2, none⟩, I S.high), (8, ⟨p, 1, none⟩, I ((alignI S.used y) + x))] [(true, [0, 1, 2, 3, 5, 6, 7]), (true, [4]), (true, [8]), (true, [9]), (true, [10, 11]), (false, [12])] rfl kr ⟨.inr (b0.cell 0 rfl rfl), .inr (b0.cell 0 rfl rfl), trivial⟩ ?_
 have p0 := b0.drew
 refine wU [0, 1, 2, 3, 5, 6, 7] ?_
 refine wLd (I S.high) 0 Tryz.isAgg3 ?_
 refine wLd (I ((alignI S.used y) + x)) 1 Tryz.isAgg3 ?_
 refine wY (I (max S.high ((alignI S.used y) + x))) rfl (fun w _ => Y_max2 S.high ((alignI S.used y) + x) rfl rfl kr kr) ?_
 refine wU [10, 11] ?_
 refine wO rfl ?_
 refine tW p0 0 2 (I (max S.high ((alignI S.used y) + x))) Tryz.sizeOf3 ?_
 intro _ q0
 refine nilO ⟨dA, ?_⟩
 refine wN ?_
 refine thenK_n <| sR <| pu3 <| nT <| retE <| retT [I (alignI S.used y), I 0] ?_
 have hc : allocC S x y = 0 := by unfold allocC; rw [if_neg om, if_pos om]
 have r0 := (q0.merge2)
 have he : allocA S x y = { S with used := alignI S.used y + x, high := (max S.high ((alignI S.used y) + x)) } := by unfold allocA; rw [if_pos hc]
 exact ⟨_, _, by rw [hc]; rfl, by rw [he]; exact ⟨_, _, _, _, rfl, hO, ⟨hW.c, by dsimp only; omega, by dsimp only; omega, fun z hz => ⟨(hW.m z hz).1, by have h := (hW.m z hz).2; dsimp only; omega⟩⟩⟩, r0⟩
theorem ar_release {p : Nat} {S : AS} {M : Chunk} (hR : ArR p S M)  (hS : Sat W w (M :: H :: F)) :
  Calls Tryz.prog 135 #[Pt p 0] w fun e w' => ∃ (M' : Chunk) (v : Int), e = .returned (I v) ∧ ArR p (relA S) M' ∧ Sat W w' (M' :: H :: F) := by
 obtain ⟨a, n, k, c, rfl, hO, hW⟩ := hR
 have hS : Sat W _ ([(p, .cells #[I S.cap, I S.used, I S.high, .slice a n k] 154 (0, 0))] :: c :: H :: F) := Sat.perm hS (by simp)
 have hn := hO.len; have hl := hO.le; have hw1 := hW.c; have hw2 := hW.u; have hw3 := hW.h
 refine callsA 42 Tryz.func135 rfl ?_
 refine sR <| pu1 <| nT <| seqE <| sR <| pu6 <| gY ?_
 refine sL hS 0 3 (.slice a n k) (Tryz.isAgg22 _) ?_
 refine pu3 <| nT ?_
 refine cE ((n : Nat) : Int) 0 (fun f0 => ?_) (fun f0 => ?_)
 ·refine sR <| pu1 <| nT <| retE <| thenK_r <| retT [I 20] ?_
  have g0 := (hS.merge2)
  have he : relA S = S := by unfold relA; rw [List.getLast?_eq_none_iff.2 (List.length_eq_zero_iff.1 om)]
  exact ⟨_, _, rfl, by rw [he]; exact ⟨_, _, _, _, rfl, hO, hW⟩, g0⟩
 refine kT <| seqE ?_
 obtain ⟨a0, d0, e0, b0, h0, i0, o0⟩ := OwnT.elem hO (((n : Nat) : Int) - 1)
 refine drawE [15] [(4, ⟨p, 3, none⟩, .slice a n k), (8, ⟨p, 3, none⟩, .slice a n k), (12, ⟨d0, e0 + ((((n : Nat) : Int) - 1)).toNat * 1, none⟩, I a0)] [(true, [0, 1, 2, 3, 5, 6, 7]), (true, [4]), (true, [8]), (true, [9]), (true, [10]), (true, [11]), (true, [12]), (true, [13, 14]), (false, [15])] rfl kr ⟨.inr (hS.cell 0 rfl rfl), .inr (hS.cell 0 rfl rfl), .inr ((h0.up 1 rfl).cell hS (k := 0) rfl), trivial⟩ ?_
 have j0 := hS.drew
 refine wU [0, 1, 2, 3, 5, 6, 7] ?_
 refine wLd (.slice a n k) 0 Tryz.isAgg22 ?_
 refine wLd (.slice a n k) 1 Tryz.isAgg22 ?_
 refine wU [9] ?_
 refine wSub ((n : Nat) : Int) 1 ?_
 refine wY (.pointer (some ⟨d0, e0 + ((((n : Nat) : Int) - 1)).toNat * 1, none⟩)) rfl (fun w _ => Y_idx (a := a) (i := (((n : Nat) : Int) - 1)) (len := n) (cap := k) rfl Tryz.runUnderlying22 Tryz.sizeOf3 kr kr i0) ?_
 refine wLd (I a0) 2 Tryz.isAgg3 ?_
 refine wU [13, 14] ?_
 refine wO rfl ?_
 refine tW j0 0 1 (I a0) Tryz.sizeOf3 ?_
 intro _ c0
 refine nilO ⟨dA, ?_⟩
 refine wN ?_
 refine thenK_n <| seqE ?_
 refine drawE [14] [(4, ⟨p, 3, none⟩, .slice a n k), (8, ⟨p, 3, none⟩, .slice a n k)] [(true, [0, 1, 2, 3, 5, 6, 7]), (true, [4]), (true, [8]), (true, [9]), (true, [10]), (true, [11]), (true, [12, 13]), (false, [14])] rfl kr ⟨.inr (c0.cell 0 rfl rfl), .inr (c0.cell 0 rfl rfl), trivial⟩ ?_
 have k0 := c0.drew
 refine wU [0, 1, 2, 3, 5, 6, 7] ?_
 refine wLd (.slice a n k) 0 Tryz.isAgg22 ?_
 refine wLd (.slice a n k) 1 Tryz.isAgg22 ?_
 refine wU [9] ?_
 refine wSub ((n : Nat) : Int) 1 ?_
 have l0 := hO.part (lo := 0) (hi := ((((n : Nat) : Int) - 1)).toNat) om om
 refine wY (.slice (partAddr a k 0 1) (((((n : Nat) : Int) - 1)).toNat - 0) (k - 0)) rfl (fun w _ => Y_sl (a := a) (len := n) (cap := k) none (some (((n : Nat) : Int) - 1)) 0 (((((n : Nat) : Int) - 1)).toNat) Tryz.runUnderlying22 Tryz.sizeOf3 rfl ⟨om, om⟩ om om) ?_
 refine wU [12, 13] ?_
 refine wO rfl ?_
 refine tW k0 0 3 (.slice (partAddr a k 0 1) (((((n : Nat) : Int) - 1)).toNat - 0) (k - 0)) Tryz.sizeOf22 ?_
 intro _ m0
 refine nilO ⟨dA, ?_⟩
 refine wN ?_
 refine thenK_n <| sR <| pu1 <| nT <| retE <| retT [I 0] ?_
 have hgl : S.marks.getLast? = some a0 := by rw [List.getLast?_eq_getElem?, ← b0]; congr 1; omega
 have n0 := (m0.merge2)
 have he : relA S = { S with used := a0, marks := ((S.marks.drop 0).take (((((n : Nat) : Int) - 1)).toNat - 0)) } := by unfold relA; rw [hgl]; simp only [List.drop_zero, List.dropLast_eq_take]; congr 2; omega
 exact ⟨_, _, rfl, by rw [he]; exact ⟨_, _, _, _, rfl, l0, ⟨hW.c, by have h := hW.m _ (List.mem_of_getElem? b0); dsimp only; omega, ⟨(hW.m _ (List.mem_of_getElem? b0)).2, hW.h.2⟩, fun z hz => hW.m z (List.mem_of_mem_drop (List.mem_of_mem_take hz))⟩⟩, n0⟩
theorem ar_reset {p : Nat} {S : AS} {M : Chunk} (hR : ArR p S M)  (hS : Sat W w (M :: H :: F)) :
  Calls Tryz.prog 69 #[Pt p 0] w fun e w' => ∃ M' : Chunk, e = .returned (.tuple #[]) ∧ ArR p (resetA S) M' ∧ Sat W w' (M' :: H :: F) := by
 obtain ⟨a, n, k, c, rfl, hO, hW⟩ := hR
 have hS : Sat W _ ([(p, .cells #[I S.cap, I S.used, I S.high, .slice a n k] 154 (0, 0))] :: c :: H :: F) := Sat.perm hS (by simp)
 have hn := hO.len; have hl := hO.le; have hw1 := hW.c; have hw2 := hW.u; have hw3 := hW.h
 refine callsA 10 Tryz.func69 rfl ?_
 refine sR <| pu2 <| nT <| cTt <| regionE <| pu4 ?_
 refine tW hS 0 1 (I 0) Tryz.sizeOf3 ?_
 intro _ a0
 refine pu2 ?_
 refine tW a0 0 3 (.slice none 0 0) Tryz.sizeOf22 ?_
 intro _ b0
 refine nilO ?_
 refine ret0n rfl ?_
 have c0 := (b0.dropAt 1 rfl)
 have d0 : Sat W _ (([(p, .cells #[I S.cap, I 0, I S.high, .slice none 0 0] 154 (0, 0))] ++ ([] : Chunk)) :: H :: F) := Sat.perm (show Sat W _ ([(p, .cells #[I S.cap, I 0, I S.high, .slice none 0 0] 154 (0, 0))] :: H :: F) from c0) (by simp)
 have he : resetA S = ⟨S.cap, 0, S.high, []⟩ := rfl
 exact ⟨_, rfl, by rw [he]; exact ⟨_, _, _, _, rfl, OwnT.nil fR, ⟨hW.c, by dsimp only; omega, by dsimp only; omega, fun x hx => by cases hx⟩⟩, d0⟩
theorem ar_used {p : Nat} {S : AS} {M : Chunk} (hR : ArR p S M)  (hS : Sat W w (M :: H :: F)) :
  Calls Tryz.prog 133 #[Pt p 0] w fun e w' => e = .returned (I S.used) ∧ Sat W w' (M :: H :: F) := by
 obtain ⟨a, n, k, c, rfl, hO, hW⟩ := hR
 have hS : Sat W _ ([(p, .cells #[I S.cap, I S.used, I S.high, .slice a n k] 154 (0, 0))] :: c :: H :: F) := Sat.perm hS (by simp)
 have hn := hO.len; have hl := hO.le; have hw1 := hW.c; have hw2 := hW.u; have hw3 := hW.h
 refine callsA 9 Tryz.func133 rfl ?_
 refine sR <| pu1 <| nT <| seqE <| sR <| pu2 <| nT <| cFf <| kT <| sR <| pu3 ?_
 refine sL hS 0 1 (I S.used) (Tryz.isAgg3 _) ?_
 refine pu1 <| nT <| retE <| retT [I S.used] ?_
 have a0 := (hS.merge2)
 exact ⟨rfl, a0⟩
theorem ar_high {p : Nat} {S : AS} {M : Chunk} (hR : ArR p S M)  (hS : Sat W w (M :: H :: F)) :
  Calls Tryz.prog 117 #[Pt p 0] w fun e w' => e = .returned (I S.high) ∧ Sat W w' (M :: H :: F) := by
 obtain ⟨a, n, k, c, rfl, hO, hW⟩ := hR
 have hS : Sat W _ ([(p, .cells #[I S.cap, I S.used, I S.high, .slice a n k] 154 (0, 0))] :: c :: H :: F) := Sat.perm hS (by simp)
 have hn := hO.len; have hl := hO.le; have hw1 := hW.c; have hw2 := hW.u; have hw3 := hW.h
 refine callsA 9 Tryz.func117 rfl ?_
 refine sR <| pu1 <| nT <| seqE <| sR <| pu2 <| nT <| cFf <| kT <| sR <| pu3 ?_
 refine sL hS 0 2 (I S.high) (Tryz.isAgg3 _) ?_
 refine pu1 <| nT <| retE <| retT [I S.high] ?_
 have a0 := (hS.merge2)
 exact ⟨rfl, a0⟩
theorem r22_new {cs : List Chunk} (c : Int) (hc : 0 ≤ c ∧ c ≤ 1048576) (hS : Sat W w cs) :
  Calls Tryz.prog 47 #[I c] w fun e w' => ∃ (p : Nat) (M : Chunk), e = .returned (.tuple #[Pt p 0, I 0]) ∧ ArR p ⟨c, 0, 0, []⟩ M ∧ Sat W w' (M :: cs) := by
 refine callsA 13 Tryz.func47 rfl ?_
 refine sR <| pu2 <| nT <| seqE <| sR <| pu3 ?_
 refine sD 6 (c < 0) (fun a0 => ?_) (fun a0 => ?_)
 ·refine pu3 <| nT <| cTt <| sR <| pu2 <| nT <| retE <| thenK_r <| retT [.pointer none, I 2] ?_
  omega
 refine pu3 <| nT ?_
 refine cD (c > 1048576) (fun b0 => ?_) (fun b0 => ?_)
 ·refine sR <| pu2 <| nT <| retE <| thenK_r <| retT [.pointer none, I 2] ?_
  omega
 refine kT <| sR <| pu2 ?_
 refine sBox hS (.agg #[I c, I 0, I 0, .slice none 0 0]) #[I c, I 0, I 0, .slice none 0 0] ?_
 intro c0 _ d0
 refine pu2 <| nT <| retE <| retT [Pt c0 0, I 0] ?_
 exact ⟨_, _, rfl, ⟨_, _, _, [], rfl, OwnT.nil fR, ⟨hc, by dsimp only; omega, by dsimp only; omega, fun x hx => by cases hx⟩⟩, d0⟩
end Go.Proofs.YtegmennaekipaaaGreat

namespace Go.Proofs.YtegmennaekipaaaGreat
open Go Go.E
set_option linter.unusedVariables false
set_option linter.unusedSimpArgs false
set_option linter.unnecessarySimpa false
set_option maxRecDepth 100000
set_option maxHeartbeats 2000000
variable {W w : World} {H : Chunk} {F : List Chunk}

def DqR (p : Nat) (S : DS) (M : Chunk) : Prop := ∃ (a : Option Addr) (n k : Nat) (c : Chunk), M = [(p, .cells #[.int .i64 S.cap, .slice a n k] 156 (0, 0))] ++ c ∧ OwnT encRef 60 2 a n k S.l c ∧ S.Wf
theorem r23_without (al : Option Addr) (nl kl : Nat) (l : List Ref) (j : Int) (hl : RdT encRef 2 [H] al nl kl l) (hlb : l.length ≤ 4096) (hS : Sat W w (H :: F)) :
  Calls Tryz.prog 123 #[.slice al nl kl, I j] w fun e w' => ∃ (az : Option Addr) (nz kz : Nat) (G : Chunk), e = .returned (.slice az nz kz) ∧ OwnT encRef 60 2 az nz kz (without j l) G ∧ Sat W w' (G :: H :: F) := by
 have hl_l := hl.le; have hn_l := hl.len
 refine callsA 28 Tryz.func123 rfl ?_
 refine sR <| pu1 <| nT <| sR <| pu1 <| nT <| seqE <| sR <| pu1 <| nT <| blockE ?_
 have e0 := Sat.nilc hS
 have f0 := OwnT.nil (enc := encRef) (E := 60) (sz := 2) fR
 refine loopA (γ := Nat × (List Ref) × (Option Addr) × Nat × Nat × Chunk) (fun ⟨i, zs, azs, nzs, kzs, czs⟩ => [(0, .slice al nl kl), (1, I j), (6, I ((i : Nat) : Int)), (5, .slice azs nzs kzs)]) (fun ⟨i, zs, azs, nzs, kzs, czs⟩ w => Sat W w (czs :: H :: F) ∧ i ≤ nl ∧ (zs = without j (l.take i)) ∧ (zs.length ≤ i) ∧ OwnT encRef 60 2 azs nzs kzs zs czs) (fun ⟨i, zs, azs, nzs, kzs, czs⟩ => nl - i) (0, [], none, 0, 0, []) ⟨e0, om, rfl, by simp, f0⟩ ?_
 rintro ⟨i, zs, azs, nzs, kzs, czs⟩ ρ _ ⟨b0, hi, hz, hzl, hOzs⟩
 have hn_zs := hOzs.len; have hl_zs := hOzs.le
 refine seqE <| sR <| pu4 <| nT ?_
 refine cD (((i : Nat) : Int) < ((nl : Nat) : Int)) (fun g0 => ?_) (fun g0 => ?_)
 rotate_left
 ·refine exitE <| xB <| thenK_n <| sR <| pu2 <| nT <| retE <| retT [.slice azs nzs kzs] ?_
  have hl : zs = without j l := by rw [hz, List.take_of_length_le om]
  have hrd := hOzs
  rw [hl] at hrd
  exact ⟨_, _, _, _, rfl, hrd, b0⟩
 refine kT <| seqE <| blockE <| sR <| pu2 ?_
 refine sIdx hl ((i : Nat) : Int) Tryz.runUnderlying125 Tryz.sizeOf60 ?_
 intro a0 _ _ c0 h0
 rw [Int.toNat_natCast] at c0
 refine pu1 ?_
 refine sLp b0 (h0.up 1 rfl) 0 (I a0.job) (Tryz.isAgg3 _) ?_
 refine pu2 <| nT ?_
 refine cN a0.job j (fun i0 => ?_) (fun i0 => ?_)
 ·refine skipE <| blockK_n <| thenK_n <| regionE <| pu1 ?_
  refine sAdd ((i : Nat) : Int) 1 ?_
  refine pu1 <| nT ?_
  exact ⟨(i + 1, zs, azs, nzs, kzs, czs), od, alA, b0, om, (without_n hz c0 om), (by first | omega | (simp; omega)), hOzs⟩
 refine regionE <| pu3 ?_
 refine sIdx hl ((i : Nat) : Int) Tryz.runUnderlying125 Tryz.sizeOf60 ?_
 intro j0 _ _ d0 k0
 rw [Int.toNat_natCast] at d0
 obtain rfl : a0 = j0 := Option.some.inj (c0.symm.trans d0)
 refine sLpA b0 (k0.up 1 rfl) 0 [I a0.job, I a0.task] (Tryz.isAgg60 _) (Tryz.sizeOf60 _) ?_
 refine sBS b0 #[I a0.job, I a0.task] Tryz.runUnderlying125 Tryz.sizeOf60 Tryz.zeroValue60 ?_
 intro _ _ l0
 refine sApp (nb := 16) l0 hOzs 1 (RdT.blk (enc := encRef) (sz := 2) (xs := [(⟨a0.job, a0.task⟩ : Ref)]) fR 1 0 rfl rfl rfl om) Tryz.underlying125 (i := Tryz.t60) kr fR ?_
 intro m0 n0 o0 _ p0 q0
 refine pu1 <| nB <| regionE <| pu1 ?_
 refine sAdd ((i : Nat) : Int) 1 ?_
 refine pu1 <| nT ?_
 have r0 := (q0.dropAt 0 rfl)
 exact ⟨(i + 1, (zs ++ [(⟨a0.job, a0.task⟩ : Ref)]), m0, (nzs + 1), n0, o0), od, alA, r0, om, (without_y hz c0 om), (by first | omega | (simp; omega)), p0⟩
theorem dq_len {p : Nat} {S : DS} {M : Chunk} (hR : DqR p S M)  (hS : Sat W w (M :: H :: F)) :
  Calls Tryz.prog 143 #[Pt p 0] w fun e w' => e = .returned (I ((S.l.length : Nat) : Int)) ∧ Sat W w' (M :: H :: F) := by
 obtain ⟨a, n, k, c, rfl, hO, hW⟩ := hR
 have hS : Sat W _ ([(p, .cells #[I S.cap, .slice a n k] 156 (0, 0))] :: c :: H :: F) := Sat.perm hS (by simp)
 have hn := hO.len; have hl := hO.le; have hw1 := hW.c; have hw2 := hW.n
 refine callsA 10 Tryz.func143 rfl ?_
 refine sR <| pu1 <| nT <| seqE <| sR <| pu2 <| nT <| cFf <| kT <| sR <| pu3 ?_
 refine sL hS 0 1 (.slice a n k) (Tryz.isAgg125 _) ?_
 refine pu2 <| nT <| retE <| retT [I ((n : Nat) : Int)] ?_
 have a0 := (hS.merge2)
 exact ⟨by rw [hn]; rfl, a0⟩
theorem dq_push {p : Nat} {S : DS} {M : Chunk} (hR : DqR p S M) (r : Ref) (hS : Sat W w (M :: H :: F)) :
  Calls Tryz.prog 136 #[Pt p 0, .agg #[I r.job, I r.task]] w fun e w' => ∃ M' : Chunk, e = .returned (I (pushC S)) ∧ DqR p (pushD S r) M' ∧ Sat W w' (M' :: H :: F) := by
 obtain ⟨a, n, k, c, rfl, hO, hW⟩ := hR
 have hS : Sat W _ ([(p, .cells #[I S.cap, .slice a n k] 156 (0, 0))] :: c :: H :: F) := Sat.perm hS (by simp)
 have hn := hO.len; have hl := hO.le; have hw1 := hW.c; have hw2 := hW.n
 refine callsA 34 Tryz.func136 rfl ?_
 refine sR ?_
 refine sBox hS (.agg #[I r.job, I r.task]) #[I r.job, I r.task] ?_
 intro e0 _ b0
 refine pu1 <| nT <| seqE <| sR <| pu6 <| gY ?_
 refine sL b0 1 0 (I S.cap) (Tryz.isAgg3 _) ?_
 refine pu2 <| nT ?_
 refine cE S.cap 0 (fun g0 => ?_) (fun g0 => ?_)
 ·refine sR <| pu1 <| nT <| retE <| thenK_r <| retT [I 20] ?_
  omega
 refine kT <| seqE <| seqE ?_
 refine drawE [] [(3, ⟨p, 1, none⟩, .slice a n k), (8, ⟨p, 0, none⟩, I S.cap)] [(true, [0, 1, 2, 5, 6, 7]), (true, [3]), (true, [4]), (true, [8]), (true, [9])] rfl kr ⟨.inr (b0.cell 1 rfl rfl), .inr (b0.cell 1 rfl rfl), trivial⟩ ?_
 have a0 := b0.drew
 refine wU [0, 1, 2, 5, 6, 7] ?_
 refine wLd (.slice a n k) 0 Tryz.isAgg125 ?_
 refine wU [4] ?_
 refine wLd (I S.cap) 1 Tryz.isAgg3 ?_
 refine wU [9] ?_
 refine wN ?_
 refine thenK_n ?_
 refine cD (((n : Nat) : Int) ≥ S.cap) (fun h0 => ?_) (fun h0 => ?_)
 ·refine sR <| pu1 <| nT <| retE <| thenK_r <| retT [I 19] ?_
  have hc : pushC S = 19 := by unfold pushC; rw [if_pos om]
  have i0 := (a0.dropAt 0 rfl)
  have j0 := (i0.merge2)
  have he : pushD S r = S := by unfold pushD; rw [hc, if_neg (by decide)]
  exact ⟨_, by rw [hc]; rfl, by rw [he]; exact ⟨_, _, _, _, rfl, hO, hW⟩, j0⟩
 refine kT <| seqE ?_
 refine drawE [6, 7, 10] [(4, ⟨p, 1, none⟩, .slice a n k), (5, ⟨e0, 0, none⟩, I r.job), (5, ⟨e0, 1, none⟩, I r.task)] [(true, [0, 1, 2, 3]), (true, [4]), (true, [5]), (false, [6]), (false, [7]), (true, [8, 9]), (false, [10])] rfl kr ⟨.inr (a0.cell 1 rfl rfl), .inr (a0.cell 0 rfl rfl), .inr (a0.cell 0 rfl rfl), trivial⟩ ?_
 have k0 := a0.drew
 refine wU [0, 1, 2, 3] ?_
 refine wLd (.slice a n k) 0 Tryz.isAgg125 ?_
 refine wY (.agg #[I r.job, I r.task]) rfl (fun w hF => Y_loadF rfl (Tryz.isAgg60 w) (Tryz.sizeOf60 w) kr rfl ⟨hF 1 _ _ rfl, hF 2 _ _ rfl, trivial⟩) ?_
 refine wO rfl ?_
 refine sBS k0 #[I r.job, I r.task] Tryz.runUnderlying125 Tryz.sizeOf60 Tryz.zeroValue60 ?_
 intro _ _ f0
 refine nilO ⟨⟨.inr (f0.cell 2 rfl rfl), dI, dI, trivial⟩, ?_⟩
 refine wO rfl ?_
 refine sApp (nb := 16) f0 hO 3 (RdT.blk (enc := encRef) (sz := 2) (xs := [(⟨r.job, r.task⟩ : Ref)]) fR 1 0 rfl rfl rfl om) Tryz.underlying125 (i := Tryz.t60) kr fR ?_
 intro c0 d0 _ _ l0 m0
 refine nilO ⟨dA, ?_⟩
 refine wU [8, 9] ?_
 refine wO rfl ?_
 refine sT m0 2 1 (.slice c0 (n + 1) d0) [.slice c0 (n + 1) d0] #[I S.cap, .slice c0 (n + 1) d0] Tryz.sizeOf125 ?_
 intro _ n0
 refine nilO ⟨dA, ?_⟩
 refine wN ?_
 refine thenK_n <| sR <| pu1 <| nT <| retE <| retT [I 0] ?_
 have hc : pushC S = 0 := by unfold pushC; rw [if_neg om]
 have o0 := (n0.drops [0, 0])
 have p0 := (o0.merge2)
 have he : pushD S r = { S with l := S.l ++ [r] } := by unfold pushD; rw [if_pos hc]
 exact ⟨_, by rw [hc]; rfl, by rw [he]; exact ⟨_, _, _, _, rfl, l0, ⟨hW.c, by simp only [List.length_append, List.length_singleton]; omega⟩⟩, p0⟩
theorem dq_pop {p : Nat} {S : DS} {M : Chunk} (hR : DqR p S M)  (hS : Sat W w (M :: H :: F)) :
  Calls Tryz.prog 138 #[Pt p 0] w fun e w' => (S.l = [] ∧ e = .returned (.tuple #[.agg #[I 0, I 0], .bool false]) ∧ Sat W w' (M :: H :: F)) ∨ (∃ (x : Ref) (M' : Chunk), S.l.getLast? = some x ∧ e = .returned (.tuple #[.agg #[I x.job, I x.task], .bool true]) ∧ DqR p { S with l := S.l.dropLast } M' ∧ Sat W w' (M' :: H :: F)) := by
 obtain ⟨a, n, k, c, rfl, hO, hW⟩ := hR
 have hS : Sat W _ ([(p, .cells #[I S.cap, .slice a n k] 156 (0, 0))] :: c :: H :: F) := Sat.perm hS (by simp)
 have hn := hO.len; have hl := hO.le; have hw1 := hW.c; have hw2 := hW.n
 refine callsA 36 Tryz.func138 rfl ?_
 refine sR ?_
 refine sAlloc hS Tryz.zeroValue60 ?_
 intro l0 _ m0
 refine pu1 <| nT <| seqE <| sR <| pu1 ?_
 have n0 := (m0.picks [2, 2])
 have o0 := (n0.merge2)
 refine cX Tryz.call143 (dq_len ⟨_, _, _, _, rfl, hO, hW⟩ (Sat.flat1 o0)) ?_
 rintro _ _ ⟨rfl, p0⟩
 have b0 : Sat W _ ([(p, .cells #[I S.cap, .slice a n k] 156 (0, 0))] :: c :: [(l0, .cells #[I 0, I 0] 60 (0, 0))] :: H :: F) := Sat.perm (Sat.unflat1 p0) (by simp [Value.cells])
 refine pu1 <| nT ?_
 refine cE ((S.l.length : Nat) : Int) 0 (fun q0 => ?_) (fun q0 => ?_)
 ·refine sR <| pu1 ?_
  refine sT b0 2 0 (.agg #[I 0, I 0]) [I 0, I 0] #[I 0, I 0] Tryz.sizeOf60 ?_
  intro _ h0
  refine pu1 <| nT <| retE <| thenK_r <| retN (vs := [.agg #[I 0, I 0], .bool false]) rfl (.cons (.cell _ _ _ _ kr (lvA h0 2 0 [I 0, I 0] (Tryz.isAgg60 _) (Tryz.sizeOf60 _) rfl rfl rfl)) (.cons (.tmp _ _ kr) .nil)) ?_
  have r0 := (h0.dropAt 2 rfl)
  have s0 := (r0.merge2)
  exact .inl ⟨List.length_eq_zero_iff.1 om, rfl, s0⟩
 refine kT <| seqE ?_
 obtain ⟨a0, e0, f0, t0, d0, u0, c1⟩ := OwnT.elem hO (((n : Nat) : Int) - 1)
 refine drawE [12, 13] [(3, ⟨p, 1, none⟩, .slice a n k), (7, ⟨p, 1, none⟩, .slice a n k), (11, ⟨e0, f0 + ((((n : Nat) : Int) - 1)).toNat * 2 + 0, none⟩, I a0.job), (11, ⟨e0, f0 + ((((n : Nat) : Int) - 1)).toNat * 2 + 1, none⟩, I a0.task)] [(true, [0, 1, 2, 4, 5, 6]), (true, [3]), (true, [7]), (true, [8]), (true, [9]), (true, [10]), (true, [11]), (false, [12]), (false, [13])] rfl kr ⟨.inr (b0.cell 0 rfl rfl), .inr (b0.cell 0 rfl rfl), .inr ((d0.up 1 rfl).cell b0 (k := 0) rfl), .inr ((d0.up 1 rfl).cell b0 (k := 1) rfl), trivial⟩ ?_
 have v0 := b0.drew
 refine wU [0, 1, 2, 4, 5, 6] ?_
 refine wLd (.slice a n k) 0 Tryz.isAgg125 ?_
 refine wLd (.slice a n k) 1 Tryz.isAgg125 ?_
 refine wU [8] ?_
 refine wSub ((n : Nat) : Int) 1 ?_
 refine wY (.pointer (some ⟨e0, f0 + ((((n : Nat) : Int) - 1)).toNat * 2, none⟩)) rfl (fun w _ => Y_idx (a := a) (i := (((n : Nat) : Int) - 1)) (len := n) (cap := k) rfl Tryz.runUnderlying125 Tryz.sizeOf60 kr kr u0) ?_
 refine wY (.agg #[I a0.job, I a0.task]) rfl (fun w hF => Y_loadF rfl (Tryz.isAgg60 w) (Tryz.sizeOf60 w) kr rfl ⟨hF 2 _ _ rfl, hF 3 _ _ rfl, trivial⟩) ?_
 refine wO rfl ?_
 refine sAlloc v0 Tryz.zeroValue60 ?_
 intro _ _ c0
 refine nilO ⟨⟨.inr (c0.cell 1 rfl rfl), .inr (c0.cell 1 rfl rfl), .inr ((d0.up 2 rfl).cell c0 (k := 0) rfl), .inr ((d0.up 2 rfl).cell c0 (k := 1) rfl), trivial⟩, ?_⟩
 refine wO rfl ?_
 refine sT c0 0 0 (.agg #[I a0.job, I a0.task]) [I a0.job, I a0.task] #[I a0.job, I a0.task] Tryz.sizeOf60 ?_
 intro _ g0
 refine nilO ⟨dA, ?_⟩
 refine wN ?_
 refine thenK_n <| seqE ?_
 refine drawE [14] [(4, ⟨p, 1, none⟩, .slice a n k), (8, ⟨p, 1, none⟩, .slice a n k)] [(true, [0, 1, 2, 3, 5, 6, 7]), (true, [4]), (true, [8]), (true, [9]), (true, [10]), (true, [11]), (true, [12, 13]), (false, [14])] rfl kr ⟨.inr (g0.cell 1 rfl rfl), .inr (g0.cell 1 rfl rfl), trivial⟩ ?_
 have w0 := g0.drew
 refine wU [0, 1, 2, 3, 5, 6, 7] ?_
 refine wLd (.slice a n k) 0 Tryz.isAgg125 ?_
 refine wLd (.slice a n k) 1 Tryz.isAgg125 ?_
 refine wU [9] ?_
 refine wSub ((n : Nat) : Int) 1 ?_
 have i0 := hO.part (lo := 0) (hi := ((((n : Nat) : Int) - 1)).toNat) om om
 refine wY (.slice (partAddr a k 0 2) (((((n : Nat) : Int) - 1)).toNat - 0) (k - 0)) rfl (fun w _ => Y_sl (a := a) (len := n) (cap := k) none (some (((n : Nat) : Int) - 1)) 0 (((((n : Nat) : Int) - 1)).toNat) Tryz.runUnderlying125 Tryz.sizeOf60 rfl ⟨om, om⟩ om om) ?_
 refine wU [12, 13] ?_
 refine wO rfl ?_
 refine sT w0 1 1 (.slice (partAddr a k 0 2) (((((n : Nat) : Int) - 1)).toNat - 0) (k - 0)) [.slice (partAddr a k 0 2) (((((n : Nat) : Int) - 1)).toNat - 0) (k - 0)] #[I S.cap, .slice (partAddr a k 0 2) (((((n : Nat) : Int) - 1)).toNat - 0) (k - 0)] Tryz.sizeOf125 ?_
 intro _ j0
 refine nilO ⟨dA, ?_⟩
 refine wN ?_
 refine thenK_n <| sR ?_
 refine lA j0 0 0 2 (Tryz.isAgg60 _) (Tryz.sizeOf60 _) ?_
 refine sT j0 3 0 (.agg #[I a0.job, I a0.task]) [I a0.job, I a0.task] #[I a0.job, I a0.task] Tryz.sizeOf60 ?_
 intro _ k0
 refine pu1 <| nT <| retE <| retN (vs := [.agg #[I a0.job, I a0.task], .bool true]) rfl (.cons (.cell _ _ _ _ kr (lvA k0 3 0 [I a0.job, I a0.task] (Tryz.isAgg60 _) (Tryz.sizeOf60 _) rfl rfl rfl)) (.cons (.tmp _ _ kr) .nil)) ?_
 have x0 := (k0.drops [0, 2])
 have y0 := (x0.merge2)
 have hgl : S.l.getLast? = some a0 := by rw [List.getLast?_eq_getElem?, ← t0]; congr 1; omega
 have he : S.l.dropLast = ((S.l.drop 0).take (((((n : Nat) : Int) - 1)).toNat - 0)) := by simp only [List.drop_zero, List.dropLast_eq_take]; congr 1; omega
 exact .inr ⟨_, _, hgl, rfl, by rw [he]; exact ⟨_, _, _, _, rfl, i0, ⟨hW.c, by have := i0.len; dsimp only; omega⟩⟩, y0⟩
theorem dq_steal {p : Nat} {S : DS} {M : Chunk} (hR : DqR p S M)  (hS : Sat W w (M :: H :: F)) :
  Calls Tryz.prog 141 #[Pt p 0] w fun e w' => (S.l = [] ∧ e = .returned (.tuple #[.agg #[I 0, I 0], .bool false]) ∧ Sat W w' (M :: H :: F)) ∨ (∃ (x : Ref) (M' : Chunk), S.l.head? = some x ∧ e = .returned (.tuple #[.agg #[I x.job, I x.task], .bool true]) ∧ DqR p { S with l := S.l.tail } M' ∧ Sat W w' (M' :: H :: F)) := by
 obtain ⟨a, n, k, c, rfl, hO, hW⟩ := hR
 have hS : Sat W _ ([(p, .cells #[I S.cap, .slice a n k] 156 (0, 0))] :: c :: H :: F) := Sat.perm hS (by simp)
 have hn := hO.len; have hl := hO.le; have hw1 := hW.c; have hw2 := hW.n
 refine callsA 25 Tryz.func141 rfl ?_
 refine sR ?_
 refine sAlloc hS Tryz.zeroValue60 ?_
 intro i0 _ j0
 refine pu1 <| nT <| seqE <| sR <| pu1 ?_
 have k0 := (j0.picks [2, 2])
 have l0 := (k0.merge2)
 refine cX Tryz.call143 (dq_len ⟨_, _, _, _, rfl, hO, hW⟩ (Sat.flat1 l0)) ?_
 rintro _ _ ⟨rfl, m0⟩
 have b0 : Sat W _ ([(p, .cells #[I S.cap, .slice a n k] 156 (0, 0))] :: c :: [(i0, .cells #[I 0, I 0] 60 (0, 0))] :: H :: F) := Sat.perm (Sat.unflat1 m0) (by simp [Value.cells])
 refine pu1 <| nT ?_
 refine cE ((S.l.length : Nat) : Int) 0 (fun n0 => ?_) (fun n0 => ?_)
 ·refine sR <| pu1 ?_
  refine sT b0 2 0 (.agg #[I 0, I 0]) [I 0, I 0] #[I 0, I 0] Tryz.sizeOf60 ?_
  intro _ e0
  refine pu1 <| nT <| retE <| thenK_r <| retN (vs := [.agg #[I 0, I 0], .bool false]) rfl (.cons (.cell _ _ _ _ kr (lvA e0 2 0 [I 0, I 0] (Tryz.isAgg60 _) (Tryz.sizeOf60 _) rfl rfl rfl)) (.cons (.tmp _ _ kr) .nil)) ?_
  have o0 := (e0.dropAt 2 rfl)
  have p0 := (o0.merge2)
  exact .inl ⟨List.length_eq_zero_iff.1 om, rfl, p0⟩
 refine kT <| sR <| pu3 ?_
 refine sL b0 0 1 (.slice a n k) (Tryz.isAgg125 _) ?_
 refine sIdxO hO 0 0 Tryz.runUnderlying125 Tryz.sizeOf60 ?_
 intro a0 _ _ q0 r0 _
 refine sLpA b0 (r0.up 1 rfl) 0 [I a0.job, I a0.task] (Tryz.isAgg60 _) (Tryz.sizeOf60 _) ?_
 refine sAlloc b0 Tryz.zeroValue60 ?_
 intro _ _ s0
 refine sT s0 0 0 (.agg #[I a0.job, I a0.task]) [I a0.job, I a0.task] #[I a0.job, I a0.task] Tryz.sizeOf60 ?_
 intro _ f0
 refine nT <| sR <| pu4 ?_
 refine sL f0 1 1 (.slice a n k) (Tryz.isAgg125 _) ?_
 refine sSl (some 1) none 1 n Tryz.runUnderlying125 Tryz.sizeOf60 ⟨by decide, rfl⟩ rfl om om ?_ (a := a) (len := n) (cap := k)
 have t0 := hO.part (lo := 1) (hi := n) om om
 have u0 := Sat.nilc f0
 have v0 := OwnT.nil (enc := encRef) (E := 60) (sz := 2) fR
 refine sApp (nb := 16) u0 v0 0 (t0.rdAt 3 rfl) Tryz.underlying125 (i := Tryz.t60) kr fR ?_
 intro c0 d0 _ _ w0 x0
 refine pu2 ?_
 refine sT x0 2 1 (.slice c0 (0 + (n - 1)) d0) [.slice c0 (0 + (n - 1)) d0] #[I S.cap, .slice c0 (0 + (n - 1)) d0] Tryz.sizeOf125 ?_
 intro _ g0
 refine nT <| sR ?_
 refine lA g0 1 0 2 (Tryz.isAgg60 _) (Tryz.sizeOf60 _) ?_
 refine sT g0 4 0 (.agg #[I a0.job, I a0.task]) [I a0.job, I a0.task] #[I a0.job, I a0.task] Tryz.sizeOf60 ?_
 intro _ h0
 refine pu1 <| nT <| retE <| retN (vs := [.agg #[I a0.job, I a0.task], .bool true]) rfl (.cons (.cell _ _ _ _ kr (lvA h0 4 0 [I a0.job, I a0.task] (Tryz.isAgg60 _) (Tryz.sizeOf60 _) rfl rfl rfl)) (.cons (.tmp _ _ kr) .nil)) ?_
 have y0 := ((h0.pick 2 rfl).drops [2, 2, 2])
 have z0 := (y0.merge2)
 have hgl : S.l.head? = some a0 := by rw [List.head?_eq_getElem?]; exact q0
 have he : S.l.tail = ([] ++ ((S.l.drop 1).take (n - 1))) := by rw [← List.drop_one]; simp; exact (List.take_of_length_le (by simp; omega)).symm
 exact .inr ⟨_, _, hgl, rfl, by rw [he]; exact ⟨_, _, _, _, rfl, w0, ⟨hW.c, by rw [← he, List.length_tail]; dsimp only; omega⟩⟩, z0⟩
theorem dq_remove {p : Nat} {S : DS} {M : Chunk} (hR : DqR p S M) (j : Int) (hS : Sat W w (M :: H :: F)) :
  Calls Tryz.prog 75 #[Pt p 0, I j] w fun e w' => ∃ (M' : Chunk) (v : Int), e = .returned (I v) ∧ DqR p ({ S with l := without j S.l }) M' ∧ Sat W w' (M' :: H :: F) := by
 obtain ⟨a, n, k, c, rfl, hO, hW⟩ := hR
 have hS : Sat W _ ([(p, .cells #[I S.cap, .slice a n k] 156 (0, 0))] :: c :: H :: F) := Sat.perm hS (by simp)
 have hn := hO.len; have hl := hO.le; have hw1 := hW.c; have hw2 := hW.n
 refine callsA 29 Tryz.func75 rfl ?_
 refine sR <| pu1 <| nT <| seqE <| sR <| pu2 <| nT <| cFf <| kT <| sR <| pu3 ?_
 refine sL hS 0 1 (.slice a n k) (Tryz.isAgg125 _) ?_
 refine pu2 <| nT <| sR <| pu4 ?_
 refine sL hS 0 1 (.slice a n k) (Tryz.isAgg125 _) ?_
 refine pu1 ?_
 refine cX Tryz.call123 (r23_without a n k S.l j (RdT.flat (hO.rdAt 1 (by rfl))) (od) (Sat.flat hS)) ?_
 rintro _ _ ⟨b0, a0, c0, _, rfl, d0, f0⟩
 have g0 := Sat.unflat1 f0
 have hn_az_4 := d0.len; have hl_az_4 := d0.le
 refine pu2 ?_
 refine sT g0 1 1 (.slice b0 a0 c0) [.slice b0 a0 c0] #[I S.cap, .slice b0 a0 c0] Tryz.sizeOf125 ?_
 intro _ e0
 refine nT <| sR <| pu4 ?_
 refine sL e0 1 1 (.slice b0 a0 c0) (Tryz.isAgg125 _) ?_
 refine pu1 ?_
 refine sSub ((n : Nat) : Int) ((a0 : Nat) : Int) ?_
 refine pu1 <| nilO ?_
 have hwl := without_len j S.l
 refine thenK_n <| retE <| retT [I (((n : Nat) : Int) - ((a0 : Nat) : Int))] ?_
 have h0 := ((e0.pick 1 rfl).dropAt 2 rfl)
 have i0 := (h0.merge2)
 exact ⟨_, _, rfl, ⟨_, _, _, _, rfl, d0, ⟨hW.c, by have := without_len j S.l; dsimp only; omega⟩⟩, i0⟩
theorem dq_drain {p : Nat} {S : DS} {M : Chunk} (hR : DqR p S M)  (hS : Sat W w (M :: H :: F)) :
  Calls Tryz.prog 68 #[Pt p 0] w fun e w' => ∃ (a : Option Addr) (n k : Nat) (Z M' : Chunk), e = .returned (.slice a n k) ∧ OwnT encRef 60 2 a n k S.l Z ∧ DqR p { S with l := [] } M' ∧ Sat W w' (Z :: M' :: H :: F) := by
 obtain ⟨a, n, k, c, rfl, hO, hW⟩ := hR
 have hS : Sat W _ ([(p, .cells #[I S.cap, .slice a n k] 156 (0, 0))] :: c :: H :: F) := Sat.perm hS (by simp)
 have hn := hO.len; have hl := hO.le; have hw1 := hW.c; have hw2 := hW.n
 refine callsA 14 Tryz.func68 rfl ?_
 refine sR <| pu1 <| nT <| seqE <| sR <| pu2 <| nT <| cFf <| kT <| sR <| pu3 ?_
 refine sL hS 0 1 (.slice a n k) (Tryz.isAgg125 _) ?_
 refine pu1 <| nT <| sR <| pu3 ?_
 refine sT hS 0 1 (.slice none 0 0) [.slice none 0 0] #[I S.cap, .slice none 0 0] Tryz.sizeOf125 ?_
 intro _ a0
 refine nT <| sR <| pu2 <| nT <| retE <| retT [.slice a n k] ?_
 have b0 := (a0.pick 1 rfl)
 have c0 : Sat W _ (c :: ([(p, .cells #[I S.cap, .slice none 0 0] 156 (0, 0))] ++ ([] : Chunk)) :: H :: F) := Sat.perm (show Sat W _ (c :: [(p, .cells #[I S.cap, .slice none 0 0] 156 (0, 0))] :: H :: F) from b0) (by simp)
 exact ⟨_, _, _, _, _, rfl, hO, ⟨_, _, _, _, rfl, OwnT.nil fR, ⟨hW.c, by simp; omega⟩⟩, c0⟩
theorem r23_new {cs : List Chunk} (c : Int) (hc : 1 ≤ c ∧ c ≤ 256) (hS : Sat W w cs) :
  Calls Tryz.prog 48 #[I c] w fun e w' => ∃ (p : Nat) (M : Chunk), e = .returned (.tuple #[Pt p 0, I 0]) ∧ DqR p ⟨c, []⟩ M ∧ Sat W w' (M :: cs) := by
 refine callsA 13 Tryz.func48 rfl ?_
 refine sR <| pu2 <| nT <| seqE <| sR <| pu3 ?_
 refine sD 6 (c < 1) (fun a0 => ?_) (fun a0 => ?_)
 ·refine pu3 <| nT <| cTt <| sR <| pu2 <| nT <| retE <| thenK_r <| retT [.pointer none, I 2] ?_
  omega
 refine pu3 <| nT ?_
 refine cD (c > 256) (fun b0 => ?_) (fun b0 => ?_)
 ·refine sR <| pu2 <| nT <| retE <| thenK_r <| retT [.pointer none, I 2] ?_
  omega
 refine kT <| sR <| pu2 ?_
 refine sBox hS (.agg #[I c, .slice none 0 0]) #[I c, .slice none 0 0] ?_
 intro c0 _ d0
 refine pu2 <| nT <| retE <| retT [Pt c0 0, I 0] ?_
 exact ⟨_, _, rfl, ⟨_, _, _, [], rfl, OwnT.nil fR, ⟨hc, by simp; omega⟩⟩, d0⟩
end Go.Proofs.YtegmennaekipaaaGreat
