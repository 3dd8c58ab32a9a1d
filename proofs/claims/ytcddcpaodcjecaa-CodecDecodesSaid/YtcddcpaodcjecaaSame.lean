import Derived.Test.YtcddcpaodcjecaaDec
namespace Go.Proofs.Ytcddcpaodcjecaa
open Go Go.E
set_option linter.unusedVariables false
set_option linter.unusedSimpArgs false
set_option linter.unnecessarySimpa false
set_option maxRecDepth 100000
set_option maxHeartbeats 2000000
-- squeezed
theorem r4_same (W w : World) (H : Chunk) (F : List Chunk) (ax : Option Addr) (nx kx : Nat) (x : List Int) (ay : Option Addr) (ny ky : Nat) (y : List Int) (hx : RdT encI 1 [H] ax nx kx x) (hy : RdT encI 1 [H] ay ny ky y) (hS : Sat W w (H :: F)) :
  Calls Try.prog 32 #[.slice ax nx kx, .slice ay ny ky] w fun e w' => e = .returned (.bool (decide (x = y))) ∧ Sat W w' (H :: F) := by
 have hl_x := hx.le; have hn_x := hx.len
 have hl_y := hy.le; have hn_y := hy.len
 refine callsE (n := 26) Try.func32 rfl rfl (Nat.le_of_ble_eq_true rfl) ?_
 refine sR <| pu1 <| nT <| seqE <| sR <| pu5 <| nT ?_
 by_cases g0 : (((nx : Nat) : Int) : Int) = ((ny : Nat) : Int)
 rotate_left
 ·refine cT _ (bne_iff_ne.2 g0) ?_
  refine sR <| pu1 <| nT ?_
  refine retE (thenK_r <| ?_)
  refine retT [.bool false] ?_
  change Sat _ _ (H :: F) at hS
  exact ⟨by rw [decide_eq_false (fun h => by have := congrArg List.length h; omega)]; rfl, hS⟩
 refine cF _ (bne_eq_false_iff_eq.2 g0) ?_
 refine kT <| seqE <| sR <| pu1 <| nT <| blockE ?_
 refine loopE (γ := Nat) (fun i ρ w => AllAt ρ [(0, .slice ax nx kx), (1, .slice ay ny ky), (6, .slice ax nx kx), (7, I ((nx : Nat) : Int)), (8, .slice ay ny ky), (9, I ((ny : Nat) : Int)), (10, .bool ((((nx : Nat) : Int) : Int) != ((ny : Nat) : Int))), (5, I ((i : Nat) : Int))] ∧ Sat W w (H :: F) ∧ i ≤ nx ∧ (x.take i = y.take i)) (fun i => nx - i) 0 ⟨alA, hS, om, by simp⟩ ?_
 skip
 rintro i ρ _ ⟨hA, a0, hi, hE⟩
 refine cAnchor hA (fun ρ => ?_)
 clear hA
 refine seqE <| sR <| pu4 <| nT ?_
 by_cases h0 : (((i : Nat) : Int) : Int) < ((nx : Nat) : Int)
 rotate_left
 ·refine cF _ (decide_eq_false h0) ?_
  refine exitE (xB <| ?_)
  refine thenK_n <| sR <| pu1 <| nT <| retE <| retT [.bool true] ?_
  change Sat _ _ (H :: F) at a0
  exact ⟨by rw [decide_eq_true (eq_of_take hE om om)]; rfl, a0⟩
 refine cT _ (decide_eq_true h0) ?_
 refine kT <| seqE <| blockE <| seqE ?_
 obtain ⟨c0, i0, j0, d0, n0, o0⟩ := RdT.elem hx ((i : Nat) : Int)
 rw [Int.toNat_natCast] at d0
 obtain ⟨e0, k0, l0, f0, p0, q0⟩ := RdT.elem hy ((i : Nat) : Int)
 rw [Int.toNat_natCast] at f0
 refine drawE [] [(3, ⟨i0, j0, none⟩, I c0), (7, ⟨k0, l0, none⟩, I e0)] [(true, [0, 1]), (true, [2]), (true, [4, 5]), (true, [6]), (true, [3]), (true, [7]), (true, [8])] rfl kr ⟨.inr ((n0.up 0 rfl).cell a0 (k := 0) rfl), .inr ((p0.up 0 rfl).cell a0 (k := 0) rfl), trivial⟩ ?_
 have b0 := a0.drew
 refine wU [0, 1] ?_
 refine wS (.pointer (some ⟨i0, j0, none⟩)) rfl rfl rfl (fun w _ => Y_idx (a := ax) (i := ((i : Nat) : Int)) (len := nx) (cap := kx) rfl Try.runUnderlying22 Try.sizeOf3 kr kr o0) ?_
 refine wU [4, 5] ?_
 refine wS (.pointer (some ⟨k0, l0, none⟩)) rfl rfl rfl (fun w _ => Y_idx (a := ay) (i := ((i : Nat) : Int)) (len := ny) (cap := ky) rfl Try.runUnderlying22 Try.sizeOf3 kr kr q0) ?_
 refine wS (I c0) rfl rfl rfl (fun w hF => Y_load rfl (Try.isAgg3 w) kr (hF 0 _ _ rfl)) ?_
 refine wS (I e0) rfl rfl rfl (fun w hF => Y_load rfl (Try.isAgg3 w) kr (hF 1 _ _ rfl)) ?_
 refine wU [8] ?_
 refine wN ?_
 refine thenK_n ?_
 by_cases m0 : (c0 : Int) = e0
 rotate_left
 ·refine cT _ (bne_iff_ne.2 m0) ?_
  refine sR <| pu1 <| nT ?_
  refine retE (blockK_r <| thenK_r <| tR <| thenK_r <| ?_)
  refine retT [.bool false] ?_
  change Sat _ _ (H :: F) at b0
  exact ⟨by rw [decide_eq_false (ne_of_at d0 f0 om)]; rfl, b0⟩
 refine cF _ (bne_eq_false_iff_eq.2 m0) ?_
 refine skipE <| blockK_n <| thenK_n <| regionE <| pu1 ?_
 refine sAdd ((i : Nat) : Int) 1 ?_
 refine pu1 <| nT ?_
 change Sat _ _ (H :: F) at b0
 exact ⟨i + 1, od, alA, b0, om, take_eq_succ hE d0 f0 om⟩
theorem r4_equal (W w : World) (H : Chunk) (F : List Chunk) (p : Plane) (q : Plane) (hp : Plane.Ok [H] p) (hq : Plane.Ok [H] q) (hS : Sat W w (H :: F)) :
  Calls Try.prog 33 #[.agg (encPlane p).toArray, .agg (encPlane q).toArray] w fun e w' => e = .returned (.bool (decide (p.v = q.v))) ∧ Sat W w' (H :: F) := by
 have hl_p_pix := hp.pix.le; have hn_p_pix := hp.pix.len
 have hl_q_pix := hq.pix.le; have hn_q_pix := hq.pix.len
 refine callsE (n := 31) Try.func33 rfl rfl (Nat.le_of_ble_eq_true rfl) ?_
 refine sR ?_
 refine sBox hS (.agg (encPlane p).toArray) (encPlane p).toArray ?_
 intro _ _ k0
 refine sBox k0 (.agg (encPlane q).toArray) (encPlane q).toArray ?_
 intro _ _ a0
 refine pu1 <| nT <| sR <| pu1 ?_
 refine sL a0 1 0 (I p.w) (Try.isAgg3 _) ?_
 refine pu1 ?_
 refine sL a0 0 0 (I q.w) (Try.isAgg3 _) ?_
 refine pu2 ?_
 by_cases b0 : (p.w : Int) = q.w
 rotate_left
 ·refine sFix 10 _ false (beq_eq_false_iff_ne.2 b0) ?_
  refine pu16 <| pu5 <| nT <| retE <| retT [.bool false] ?_
  have c0 := (((a0.pick 2 rfl).dropAt 1 rfl).dropAt 1 rfl)
  change Sat _ _ (H :: F) at c0
  refine ⟨congrArg (fun b => Ending.returned (.bool b)) ?_, c0⟩
  first | (rw [Bool.eq_iff_iff]; simp [Plane.v, *]; done) | (simp [Plane.v, *]; done) | (exact (decide_eq_false (fun h => by simp_all [Plane.v])).symm) | (exact (decide_eq_true (by simp_all [Plane.v])).symm)
 refine sFix 10 _ true (beq_iff_eq.2 b0) ?_
 refine pu1 <| gY ?_
 refine sL a0 1 1 (I p.h) (Try.isAgg3 _) ?_
 refine pu1 <| gY ?_
 refine sL a0 0 1 (I q.h) (Try.isAgg3 _) ?_
 refine pu3 ?_
 by_cases d0 : (p.h : Int) = q.h
 rotate_left
 ·refine sFix 17 _ false (beq_eq_false_iff_ne.2 d0) ?_
  refine pu14 <| nT <| retE <| retT [.bool false] ?_
  have e0 := (((a0.pick 2 rfl).dropAt 1 rfl).dropAt 1 rfl)
  change Sat _ _ (H :: F) at e0
  refine ⟨congrArg (fun b => Ending.returned (.bool b)) ?_, e0⟩
  first | (rw [Bool.eq_iff_iff]; simp [Plane.v, *]; done) | (simp [Plane.v, *]; done) | (exact (decide_eq_false (fun h => by simp_all [Plane.v])).symm) | (exact (decide_eq_true (by simp_all [Plane.v])).symm)
 refine sFix 17 _ true (beq_iff_eq.2 d0) ?_
 refine pu1 <| gY ?_
 refine sL a0 1 2 (I p.max_) (Try.isAgg3 _) ?_
 refine pu1 <| gY ?_
 refine sL a0 0 2 (I q.max_) (Try.isAgg3 _) ?_
 refine pu3 ?_
 by_cases f0 : (p.max_ : Int) = q.max_
 rotate_left
 ·refine sFix 24 _ false (beq_eq_false_iff_ne.2 f0) ?_
  refine pu7 <| nT <| retE <| retT [.bool false] ?_
  have g0 := (((a0.pick 2 rfl).dropAt 1 rfl).dropAt 1 rfl)
  change Sat _ _ (H :: F) at g0
  refine ⟨congrArg (fun b => Ending.returned (.bool b)) ?_, g0⟩
  first | (rw [Bool.eq_iff_iff]; simp [Plane.v, *]; done) | (simp [Plane.v, *]; done) | (exact (decide_eq_false (fun h => by simp_all [Plane.v])).symm) | (exact (decide_eq_true (by simp_all [Plane.v])).symm)
 refine sFix 24 _ true (beq_iff_eq.2 f0) ?_
 refine pu1 <| gY ?_
 refine sL a0 1 3 (.slice p.pix.a p.pix.n p.pix.k) (Try.isAgg22 _) ?_
 refine pu1 <| gY ?_
 refine sL a0 0 3 (.slice q.pix.a q.pix.n q.pix.k) (Try.isAgg22 _) ?_
 refine gY ?_
 refine sF #[.slice p.pix.a p.pix.n p.pix.k, .slice q.pix.a q.pix.n q.pix.k] Try.call32 (Calls.mono (r4_same W _ _ [] p.pix.a p.pix.n p.pix.k p.pix.l q.pix.a q.pix.n q.pix.k q.pix.l (RdT.flat (hp.pix.up 2 (by rfl))) (RdT.flat (hq.pix.up 2 (by rfl))) (Sat.flat a0)) ?_)
 rintro _ _ ⟨rfl, h0⟩
 refine ⟨_, rfl, ?_⟩
 have i0 := Sat.unflat h0; clear h0
 try dsimp only [List.set, List.eraseIdx, Value.cells] at i0
 refine pu2 <| nT <| retE <| retT [.bool (decide (p.pix.l = q.pix.l))] ?_
 have j0 := (((i0.pick 2 rfl).dropAt 1 rfl).dropAt 1 rfl)
 change Sat _ _ (H :: F) at j0
 refine ⟨congrArg (fun b => Ending.returned (.bool b)) ?_, j0⟩
 first | (rw [Bool.eq_iff_iff]; simp [Plane.v, *]; done) | (simp [Plane.v, *]; done) | (exact (decide_eq_false (fun h => by simp_all [Plane.v])).symm) | (exact (decide_eq_true (by simp_all [Plane.v])).symm)
theorem r8_same (W w : World) (H : Chunk) (F : List Chunk) (ax : Option Addr) (nx kx : Nat) (x : List Tap) (ay : Option Addr) (ny ky : Nat) (y : List Tap) (hx : RdT encTap 2 [H] ax nx kx x) (dx : ∀ z ∈ x, Tap.Ok [H] z) (hy : RdT encTap 2 [H] ay ny ky y) (dy : ∀ z ∈ y, Tap.Ok [H] z) (hS : Sat W w (H :: F)) :
  Calls Try.prog 47 #[.slice ax nx kx, .slice ay ny ky] w fun e w' => e = .returned (.bool (decide (x.map Tap.v = y.map Tap.v))) ∧ Sat W w' (H :: F) := by
 have hl_x := hx.le; have hn_x := hx.len
 have hl_y := hy.le; have hn_y := hy.len
 refine callsE (n := 71) Try.func47 rfl rfl (Nat.le_of_ble_eq_true rfl) ?_
 refine sR <| pu1 <| nT <| seqE <| sR <| pu5 <| nT ?_
 by_cases w0 : (((nx : Nat) : Int) : Int) = ((ny : Nat) : Int)
 rotate_left
 ·refine cT _ (bne_iff_ne.2 w0) ?_
  refine sR <| pu1 <| nT ?_
  refine retE (thenK_r <| ?_)
  refine retT [.bool false] ?_
  change Sat _ _ (H :: F) at hS
  exact ⟨by rw [decide_eq_false (fun h => by have := congrArg List.length h; simp at this; omega)]; rfl, hS⟩
 refine cF _ (bne_eq_false_iff_eq.2 w0) ?_
 refine kT <| seqE <| sR <| pu1 <| nT <| blockE ?_
 refine loopE (γ := Nat) (fun i ρ w => AllAt ρ [(0, .slice ax nx kx), (1, .slice ay ny ky), (7, .slice ax nx kx), (8, I ((nx : Nat) : Int)), (9, .slice ay ny ky), (10, I ((ny : Nat) : Int)), (11, .bool ((((nx : Nat) : Int) : Int) != ((ny : Nat) : Int))), (5, I ((i : Nat) : Int))] ∧ Sat W w (H :: F) ∧ i ≤ nx ∧ ((x.map Tap.v).take i = (y.map Tap.v).take i)) (fun i => nx - i) 0 ⟨alA, hS, om, by simp⟩ ?_
 skip
 rintro i ρ _ ⟨hA, d0, hi, hE⟩
 refine cAnchor hA (fun ρ => ?_)
 clear hA
 refine seqE <| sR <| pu4 <| nT ?_
 by_cases x0 : (((i : Nat) : Int) : Int) < ((nx : Nat) : Int)
 rotate_left
 ·refine cF _ (decide_eq_false x0) ?_
  refine exitE (xB <| ?_)
  refine thenK_n <| sR <| pu1 <| nT <| retE <| retT [.bool true] ?_
  change Sat _ _ (H :: F) at d0
  exact ⟨by rw [decide_eq_true (eq_of_take hE (by simp; omega) (by simp; omega))]; rfl, d0⟩
 refine cT _ (decide_eq_true x0) ?_
 refine kT <| seqE <| blockE <| seqE <| seqE ?_
 obtain ⟨a0, e0, f0, c0, l0, m0⟩ := RdT.elem hx ((i : Nat) : Int)
 rw [Int.toNat_natCast] at c0
 obtain ⟨b0, g0, h0, i0, n0, o0⟩ := RdT.elem hy ((i : Nat) : Int)
 rw [Int.toNat_natCast] at i0
 by_cases y0 : (a0.first : Int) = b0.first
 rotate_left
 ·refine drawE [] [(4, ⟨e0, f0 + 0, none⟩, I a0.first), (9, ⟨g0, h0 + 0, none⟩, I b0.first)] [(true, [0, 1]), (true, [2]), (true, [3, 5, 6]), (true, [7]), (true, [8]), (true, [4]), (true, [9]), (true, [10, 11]), (true, [12, 13, 14, 15, 18, 19, 20, 21, 16, 17, 22, 23, 24, 25])] rfl kr ⟨.inr ((l0.up 0 rfl).cell d0 (k := 0) rfl), .inr ((n0.up 0 rfl).cell d0 (k := 0) rfl), trivial⟩ ?_
  have z0 := d0.drew
  refine wU [0, 1] ?_
  refine wS (.pointer (some ⟨e0, f0, none⟩)) rfl rfl rfl (fun w _ => Y_idx (a := ax) (i := ((i : Nat) : Int)) (len := nx) (cap := kx) rfl Try.runUnderlying58 Try.sizeOf94 kr kr m0) ?_
  refine wU [3, 5, 6] ?_
  refine wS (.pointer (some ⟨g0, h0, none⟩)) rfl rfl rfl (fun w _ => Y_idx (a := ay) (i := ((i : Nat) : Int)) (len := ny) (cap := ky) rfl Try.runUnderlying58 Try.sizeOf94 kr kr o0) ?_
  refine wU [8] ?_
  refine wS (I a0.first) rfl rfl rfl (fun w hF => Y_load rfl (Try.isAgg3 w) kr (hF 0 _ _ rfl)) ?_
  refine wS (I b0.first) rfl rfl rfl (fun w hF => Y_load rfl (Try.isAgg3 w) kr (hF 1 _ _ rfl)) ?_
  refine wU [10, 11] ?_
  refine wFix 29 _ true (bne_iff_ne.2 y0) ?_
  refine wU [12, 13, 14, 15, 18, 19, 20, 21, 16, 17, 22, 23, 24, 25] ?_
  refine wN ?_
  have hnw1 := (dx a0 (List.mem_of_getElem? c0)).weights.len; have hnw2 := (dy b0 (List.mem_of_getElem? i0)).weights.len; have hlw1 := (dx a0 (List.mem_of_getElem? c0)).weights.le; have hlw2 := (dy b0 (List.mem_of_getElem? i0)).weights.le
  refine thenK_n <| cTt <| sR <| pu1 <| nT ?_
  refine retE (tR <| thenK_r <| tR <| thenK_r <| ?_)
  refine retT [.bool false] ?_
  change Sat _ _ (H :: F) at z0
  exact ⟨by rw [decide_eq_false (ne_of_at (map_at (f := Tap.v) c0) (map_at (f := Tap.v) i0) (by simp only [Tap.v, ne_eq, TapV.mk.injEq, not_and]; intro e1 e2; have e3 := congrArg List.length e2; omega))]; rfl, z0⟩
 refine drawE [] [(4, ⟨e0, f0 + 0, none⟩, I a0.first), (9, ⟨g0, h0 + 0, none⟩, I b0.first), (16, ⟨e0, f0 + 1, none⟩, .slice a0.weights.a a0.weights.n a0.weights.k), (22, ⟨g0, h0 + 1, none⟩, .slice b0.weights.a b0.weights.n b0.weights.k)] [(true, [0, 1]), (true, [2]), (true, [3, 5, 6]), (true, [7]), (true, [8]), (true, [4]), (true, [9]), (true, [10, 11]), (true, [12, 13]), (true, [14]), (true, [15, 18, 19]), (true, [20]), (true, [21]), (true, [16]), (true, [17]), (true, [22]), (true, [23, 24, 25])] rfl kr ⟨.inr ((l0.up 0 rfl).cell d0 (k := 0) rfl), .inr ((n0.up 0 rfl).cell d0 (k := 0) rfl), .inr ((l0.up 0 rfl).cell d0 (k := 1) rfl), .inr ((n0.up 0 rfl).cell d0 (k := 1) rfl), trivial⟩ ?_
 have p0 := d0.drew
 refine wU [0, 1] ?_
 refine wS (.pointer (some ⟨e0, f0, none⟩)) rfl rfl rfl (fun w _ => Y_idx (a := ax) (i := ((i : Nat) : Int)) (len := nx) (cap := kx) rfl Try.runUnderlying58 Try.sizeOf94 kr kr m0) ?_
 refine wU [3, 5, 6] ?_
 refine wS (.pointer (some ⟨g0, h0, none⟩)) rfl rfl rfl (fun w _ => Y_idx (a := ay) (i := ((i : Nat) : Int)) (len := ny) (cap := ky) rfl Try.runUnderlying58 Try.sizeOf94 kr kr o0) ?_
 refine wU [8] ?_
 refine wS (I a0.first) rfl rfl rfl (fun w hF => Y_load rfl (Try.isAgg3 w) kr (hF 0 _ _ rfl)) ?_
 refine wS (I b0.first) rfl rfl rfl (fun w hF => Y_load rfl (Try.isAgg3 w) kr (hF 1 _ _ rfl)) ?_
 refine wU [10, 11] ?_
 refine wFix 29 _ false (bne_eq_false_iff_eq.2 y0) ?_
 refine wU [12, 13] ?_
 refine wSg (.pointer (some ⟨e0, f0, none⟩)) rfl rfl rfl ⟨_, rfl, rfl, kr⟩ (fun w _ => Y_idx (a := ax) (i := ((i : Nat) : Int)) (len := nx) (cap := kx) rfl Try.runUnderlying58 Try.sizeOf94 kr kr m0) ?_
 refine wU [15, 18, 19] ?_
 refine wSg (.pointer (some ⟨g0, h0, none⟩)) rfl rfl rfl ⟨_, rfl, rfl, kr⟩ (fun w _ => Y_idx (a := ay) (i := ((i : Nat) : Int)) (len := ny) (cap := ky) rfl Try.runUnderlying58 Try.sizeOf94 kr kr o0) ?_
 refine wU [21] ?_
 refine wSg (.slice a0.weights.a a0.weights.n a0.weights.k) rfl rfl rfl ⟨_, rfl, rfl, kr⟩ (fun w hF => Y_load rfl (Try.isAgg22 w) kr (hF 2 _ _ rfl)) ?_
 refine wU [17] ?_
 refine wSg (.slice b0.weights.a b0.weights.n b0.weights.k) rfl rfl rfl ⟨_, rfl, rfl, kr⟩ (fun w hF => Y_load rfl (Try.isAgg22 w) kr (hF 3 _ _ rfl)) ?_
 refine wU [23, 24, 25] ?_
 refine wN ?_
 have hnw1 := (dx a0 (List.mem_of_getElem? c0)).weights.len; have hnw2 := (dy b0 (List.mem_of_getElem? i0)).weights.len; have hlw1 := (dx a0 (List.mem_of_getElem? c0)).weights.le; have hlw2 := (dy b0 (List.mem_of_getElem? i0)).weights.le
 refine thenK_n ?_
 by_cases a1 : (((a0.weights.n : Nat) : Int) : Int) = ((b0.weights.n : Nat) : Int)
 rotate_left
 ·refine cT _ (bne_iff_ne.2 a1) ?_
  refine sR <| pu1 <| nT ?_
  refine retE (tR <| thenK_r <| tR <| thenK_r <| ?_)
  refine retT [.bool false] ?_
  change Sat _ _ (H :: F) at p0
  exact ⟨by rw [decide_eq_false (ne_of_at (map_at (f := Tap.v) c0) (map_at (f := Tap.v) i0) (by simp only [Tap.v, ne_eq, TapV.mk.injEq, not_and]; intro e1 e2; have e3 := congrArg List.length e2; omega))]; rfl, p0⟩
 refine cF _ (bne_eq_false_iff_eq.2 a1) ?_
 refine kT <| sR <| pu1 <| nT <| blockE ?_
 refine loopE (γ := Nat) (fun j ρ w => AllAt ρ [(0, .slice ax nx kx), (1, .slice ay ny ky), (7, .slice ax nx kx), (8, I ((nx : Nat) : Int)), (9, .slice ay ny ky), (10, I ((ny : Nat) : Int)), (11, .bool ((((nx : Nat) : Int) : Int) != ((ny : Nat) : Int))), (5, I ((i : Nat) : Int)), (12, I ((i : Nat) : Int)), (13, .slice ax nx kx), (14, I ((nx : Nat) : Int)), (15, .bool (decide ((((i : Nat) : Int) : Int) < ((nx : Nat) : Int)))), (18, .slice ax nx kx), (19, I ((i : Nat) : Int)), (20, .pointer (some ⟨e0, f0, none⟩)), (21, .pointer (some ⟨e0, f0 + 0, none⟩)), (23, .slice ay ny ky), (24, I ((i : Nat) : Int)), (25, .pointer (some ⟨g0, h0, none⟩)), (26, .pointer (some ⟨g0, h0 + 0, none⟩)), (22, I a0.first), (27, I b0.first), (28, .bool ((a0.first : Int) != b0.first)), (29, .bool false), (30, .slice ax nx kx), (31, I ((i : Nat) : Int)), (32, .pointer (some ⟨e0, f0, none⟩)), (33, .pointer (some ⟨e0, f0 + 1, none⟩)), (36, .slice ay ny ky), (37, I ((i : Nat) : Int)), (38, .pointer (some ⟨g0, h0, none⟩)), (39, .pointer (some ⟨g0, h0 + 1, none⟩)), (34, .slice a0.weights.a a0.weights.n a0.weights.k), (35, I ((a0.weights.n : Nat) : Int)), (40, .slice b0.weights.a b0.weights.n b0.weights.k), (41, I ((b0.weights.n : Nat) : Int)), (42, .bool ((((a0.weights.n : Nat) : Int) : Int) != ((b0.weights.n : Nat) : Int))), (43, .bool ((((a0.weights.n : Nat) : Int) : Int) != ((b0.weights.n : Nat) : Int))), (6, I ((j : Nat) : Int))] ∧ Sat W w (H :: F) ∧ j ≤ a0.weights.n ∧ (a0.weights.l.take j = b0.weights.l.take j)) (fun j => a0.weights.n - j) 0 ⟨alA, p0, om, by simp⟩ ?_
 skip
 rintro j ρ _ ⟨hA, j0, hj, hE2⟩
 refine cAnchor hA (fun ρ => ?_)
 clear hA
 refine seqE <| sR <| pu3 ?_
 refine sIdx hx ((i : Nat) : Int) Try.runUnderlying58 Try.sizeOf94 ?_
 intro n1 _ _ b1 o1
 rw [Int.toNat_natCast] at b1
 obtain rfl : a0 = n1 := Option.some.inj (c0.symm.trans b1)
 refine pu1 ?_
 refine sLp j0 (o1.up 0 rfl) 1 (.slice a0.weights.a a0.weights.n a0.weights.k) (Try.isAgg22 _) ?_
 refine pu2 <| nT ?_
 by_cases c1 : (((j : Nat) : Int) : Int) < ((a0.weights.n : Nat) : Int)
 rotate_left
 ·refine cF _ (decide_eq_false c1) ?_
  refine exitE (xB <| ?_)
  refine blockK_n <| thenK_n <| regionE <| pu1 ?_
  refine sAdd ((i : Nat) : Int) 1 ?_
  refine pu1 <| nT ?_
  change Sat _ _ (H :: F) at j0
  exact ⟨i + 1, od, alA, j0, om, take_eq_succ hE (map_at (f := Tap.v) c0) (map_at (f := Tap.v) i0) (by simp only [Tap.v, TapV.mk.injEq]; exact ⟨om, eq_of_take hE2 om om⟩)⟩
 refine cT _ (decide_eq_true c1) ?_
 refine kT <| seqE <| blockE <| seqE ?_
 obtain ⟨p1, d1, f1, q0, q1, r1⟩ := RdT.elem hx ((i : Nat) : Int)
 rw [Int.toNat_natCast] at q0
 obtain rfl : a0 = p1 := Option.some.inj (c0.symm.trans q0)
 obtain ⟨s1, g1, h1, r0, t1, u1⟩ := RdT.elem hy ((i : Nat) : Int)
 rw [Int.toNat_natCast] at r0
 obtain rfl : b0 = s1 := Option.some.inj (i0.symm.trans r0)
 obtain ⟨s0, i1, j1, t0, v1, w1⟩ := RdT.elem (dx a0 (List.mem_of_getElem? q0)).weights ((j : Nat) : Int)
 rw [Int.toNat_natCast] at t0
 obtain ⟨u0, k1, l1, v0, x1, y1⟩ := RdT.elem (dy b0 (List.mem_of_getElem? r0)).weights ((j : Nat) : Int)
 rw [Int.toNat_natCast] at v0
 refine drawE [] [(4, ⟨d1, f1 + 1, none⟩, .slice a0.weights.a a0.weights.n a0.weights.k), (7, ⟨i1, j1, none⟩, I s0), (12, ⟨g1, h1 + 1, none⟩, .slice b0.weights.a b0.weights.n b0.weights.k), (15, ⟨k1, l1, none⟩, I u0)] [(true, [0, 1]), (true, [2]), (true, [3, 5, 8, 9]), (true, [10]), (true, [11, 13]), (true, [4]), (true, [6]), (true, [7]), (true, [12]), (true, [14]), (true, [15]), (true, [16])] rfl kr ⟨.inr ((q1.up 0 rfl).cell j0 (k := 1) rfl), .inr ((v1.up 0 rfl).cell j0 (k := 0) rfl), .inr ((t1.up 0 rfl).cell j0 (k := 1) rfl), .inr ((x1.up 0 rfl).cell j0 (k := 0) rfl), trivial⟩ ?_
 have k0 := j0.drew
 refine wU [0, 1] ?_
 refine wS (.pointer (some ⟨d1, f1, none⟩)) rfl rfl rfl (fun w _ => Y_idx (a := ax) (i := ((i : Nat) : Int)) (len := nx) (cap := kx) rfl Try.runUnderlying58 Try.sizeOf94 kr kr r1) ?_
 refine wU [3, 5, 8, 9] ?_
 refine wS (.pointer (some ⟨g1, h1, none⟩)) rfl rfl rfl (fun w _ => Y_idx (a := ay) (i := ((i : Nat) : Int)) (len := ny) (cap := ky) rfl Try.runUnderlying58 Try.sizeOf94 kr kr u1) ?_
 refine wU [11, 13] ?_
 refine wS (.slice a0.weights.a a0.weights.n a0.weights.k) rfl rfl rfl (fun w hF => Y_load rfl (Try.isAgg22 w) kr (hF 0 _ _ rfl)) ?_
 refine wS (.pointer (some ⟨i1, j1, none⟩)) rfl rfl rfl (fun w _ => Y_idx (a := a0.weights.a) (i := ((j : Nat) : Int)) (len := a0.weights.n) (cap := a0.weights.k) rfl Try.runUnderlying22 Try.sizeOf3 kr kr w1) ?_
 refine wS (I s0) rfl rfl rfl (fun w hF => Y_load rfl (Try.isAgg3 w) kr (hF 1 _ _ rfl)) ?_
 refine wS (.slice b0.weights.a b0.weights.n b0.weights.k) rfl rfl rfl (fun w hF => Y_load rfl (Try.isAgg22 w) kr (hF 2 _ _ rfl)) ?_
 refine wS (.pointer (some ⟨k1, l1, none⟩)) rfl rfl rfl (fun w _ => Y_idx (a := b0.weights.a) (i := ((j : Nat) : Int)) (len := b0.weights.n) (cap := b0.weights.k) rfl Try.runUnderlying22 Try.sizeOf3 kr kr y1) ?_
 refine wS (I u0) rfl rfl rfl (fun w hF => Y_load rfl (Try.isAgg3 w) kr (hF 3 _ _ rfl)) ?_
 refine wU [16] ?_
 refine wN ?_
 refine thenK_n ?_
 by_cases m1 : (s0 : Int) = u0
 ·refine cF _ (bne_eq_false_iff_eq.2 m1) ?_
  refine skipE <| blockK_n <| thenK_n <| regionE <| pu1 ?_
  refine sAdd ((j : Nat) : Int) 1 ?_
  refine pu1 <| nT ?_
  change Sat _ _ (H :: F) at k0
  exact ⟨j + 1, od, alA, k0, om, take_eq_succ hE2 t0 v0 om⟩
 refine cT _ (bne_iff_ne.2 m1) ?_
 refine sR <| pu1 <| nT ?_
 refine retE (blockK_r <| thenK_r <| tR <| blockK_r <| thenK_r <| tR <| thenK_r <| ?_)
 refine retT [.bool false] ?_
 change Sat _ _ (H :: F) at k0
 exact ⟨by rw [decide_eq_false (ne_of_at (map_at (f := Tap.v) c0) (map_at (f := Tap.v) i0) (by simp only [Tap.v, ne_eq, TapV.mk.injEq, not_and]; intro _; exact ne_of_at t0 v0 om))]; rfl, k0⟩
theorem eqvn66 (w : World) (a0 a1 b0 b1 : Int) : ∀ x y, ((do eqGuard .neq 66 x y (.agg #[.int .i64 a0, .int .i64 a1]) (.agg #[.int .i64 b0, .int .i64 b1]); binOp .neq 66 (.agg #[.int .i64 a0, .int .i64 a1]) (.agg #[.int .i64 b0, .int .i64 b1])) : Sem Value).run Try.prog w = .ok (.bool (!((a0 == b0) && (a1 == b1)))) w := by
  intro x y
  simp [go_sem, run_eqGuard_agg, run_neq_struct, run_equalIn_agg]
  by_cases h0 : a0 = b0 <;> by_cases h1 : a1 = b1 <;> simp [*]
theorem eqve66 (w : World) (a0 a1 b0 b1 : Int) : ∀ x y, ((do eqGuard .eql 66 x y (.agg #[.int .i64 a0, .int .i64 a1]) (.agg #[.int .i64 b0, .int .i64 b1]); binOp .eql 66 (.agg #[.int .i64 a0, .int .i64 a1]) (.agg #[.int .i64 b0, .int .i64 b1])) : Sem Value).run Try.prog w = .ok (.bool ((a0 == b0) && (a1 == b1))) w := by
  intro x y
  simp [go_sem, run_eqGuard_agg, run_eql_struct, run_equalIn_agg]
  by_cases h0 : a0 = b0 <;> by_cases h1 : a1 = b1 <;> simp [*]
theorem eqvn57 (w : World) (a0 a1 b0 b1 : Int) : ∀ x y, ((do eqGuard .neq 57 x y (.agg #[.int .i64 a0, .int .i64 a1]) (.agg #[.int .i64 b0, .int .i64 b1]); binOp .neq 57 (.agg #[.int .i64 a0, .int .i64 a1]) (.agg #[.int .i64 b0, .int .i64 b1])) : Sem Value).run Try.prog w = .ok (.bool (!((a0 == b0) && (a1 == b1)))) w := by
  intro x y
  simp [go_sem, run_eqGuard_agg, run_neq_struct, run_equalIn_agg]
  by_cases h0 : a0 = b0 <;> by_cases h1 : a1 = b1 <;> simp [*]
theorem eqve57 (w : World) (a0 a1 b0 b1 : Int) : ∀ x y, ((do eqGuard .eql 57 x y (.agg #[.int .i64 a0, .int .i64 a1]) (.agg #[.int .i64 b0, .int .i64 b1]); binOp .eql 57 (.agg #[.int .i64 a0, .int .i64 a1]) (.agg #[.int .i64 b0, .int .i64 b1])) : Sem Value).run Try.prog w = .ok (.bool ((a0 == b0) && (a1 == b1))) w := by
  intro x y
  simp [go_sem, run_eqGuard_agg, run_eql_struct, run_equalIn_agg]
  by_cases h0 : a0 = b0 <;> by_cases h1 : a1 = b1 <;> simp [*]
theorem r19_stage (W w : World) (H : Chunk) (F : List Chunk) (p : Stage) (q : Stage) (hp : Stage.Ok [H] p) (hq : Stage.Ok [H] q) (hS : Sat W w (H :: F)) :
  Calls Try.prog 34 #[.agg (encStage p).toArray, .agg (encStage q).toArray] w fun e w' => e = .returned (.bool (decide (p.v = q.v))) ∧ Sat W w' (H :: F) := by
 have hl_p_weights := hp.weights.le; have hn_p_weights := hp.weights.len
 have hl_p_row := hp.row.le; have hn_p_row := hp.row.len
 have hl_p_col := hp.col.le; have hn_p_col := hp.col.len
 have hl_p_x := hp.x.le; have hn_p_x := hp.x.len
 have hl_p_y := hp.y.le; have hn_p_y := hp.y.len
 have hl_p_ops := hp.ops.le; have hn_p_ops := hp.ops.len
 have hl_q_weights := hq.weights.le; have hn_q_weights := hq.weights.len
 have hl_q_row := hq.row.le; have hn_q_row := hq.row.len
 have hl_q_col := hq.col.le; have hn_q_col := hq.col.len
 have hl_q_x := hq.x.le; have hn_q_x := hq.x.len
 have hl_q_y := hq.y.le; have hn_q_y := hq.y.len
 have hl_q_ops := hq.ops.le; have hn_q_ops := hq.ops.len
 refine callsE (n := 141) Try.func34 rfl rfl (Nat.le_of_ble_eq_true rfl) ?_
 refine sR ?_
 refine sBox hS (.agg (encStage p).toArray) (encStage p).toArray ?_
 intro i0 _ l2
 refine sBox l2 (.agg (encStage q).toArray) (encStage q).toArray ?_
 intro j0 _ k0
 refine pu1 <| nT <| seqE <| sR <| pu1 ?_
 refine sL k0 1 16 (.slice p.ops.a p.ops.n p.ops.k) (Try.isAgg59 _) ?_
 refine pu2 ?_
 refine sL k0 0 16 (.slice q.ops.a q.ops.n q.ops.k) (Try.isAgg59 _) ?_
 refine pu2 <| nT ?_
 by_cases z0 : (((p.ops.n : Nat) : Int) : Int) = ((q.ops.n : Nat) : Int)
 rotate_left
 ·refine cT _ (bne_iff_ne.2 z0) ?_
  refine sR <| pu1 <| nT ?_
  refine retE (thenK_r <| ?_)
  refine retT [.bool false] ?_
  have a1 := (((k0.pick 2 rfl).dropAt 1 rfl).dropAt 1 rfl)
  change Sat _ _ (H :: F) at a1
  exact ⟨by rw [decide_eq_false (fun h => by have h2 := congrArg List.length (congrArg StageV.ops h); simp only [Stage.v] at h2; omega)]; rfl, a1⟩
 refine cF _ (bne_eq_false_iff_eq.2 z0) ?_
 refine kT <| seqE <| sR <| pu1 <| nT <| blockE ?_
 refine loopE (γ := Nat) (fun i ρ w => AllAt ρ [(0, .agg (encStage p).toArray), (1, .agg (encStage q).toArray), (2, Pt i0 0), (3, Pt j0 0), (6, Pt i0 16), (7, .slice p.ops.a p.ops.n p.ops.k), (8, I ((p.ops.n : Nat) : Int)), (9, Pt j0 16), (10, .slice q.ops.a q.ops.n q.ops.k), (11, I ((q.ops.n : Nat) : Int)), (12, .bool ((((p.ops.n : Nat) : Int) : Int) != ((q.ops.n : Nat) : Int))), (5, I ((i : Nat) : Int))] ∧ Sat W w ([(j0, .cells (encStage q).toArray 61 (0, 0))] :: [(i0, .cells (encStage p).toArray 61 (0, 0))] :: H :: F) ∧ i ≤ p.ops.n ∧ (p.ops.l.take i = q.ops.l.take i)) (fun i => p.ops.n - i) 0 ⟨alA, k0, om, by simp⟩ ?_
 skip
 rintro i ρ _ ⟨hA, a0, hi, hE⟩
 refine cAnchor hA (fun ρ => ?_)
 clear hA
 refine seqE <| sR <| pu2 ?_
 refine sL a0 1 16 (.slice p.ops.a p.ops.n p.ops.k) (Try.isAgg59 _) ?_
 refine pu2 <| nT ?_
 by_cases b1 : (((i : Nat) : Int) : Int) < ((p.ops.n : Nat) : Int)
 ·refine cT _ (decide_eq_true b1) ?_
  refine kT <| seqE <| blockE <| seqE ?_
  obtain ⟨b0, l0, m0, n0, c1, m2⟩ := RdT.elem hp.ops ((i : Nat) : Int)
  rw [Int.toNat_natCast] at n0
  obtain ⟨c0, o0, p0, q0, d1, n2⟩ := RdT.elem hq.ops ((i : Nat) : Int)
  rw [Int.toNat_natCast] at q0
  refine drawE [] [(1, ⟨i0, 16, none⟩, .slice p.ops.a p.ops.n p.ops.k), (4, ⟨l0, m0 + 0, none⟩, I b0.code), (4, ⟨l0, m0 + 1, none⟩, I b0.arg), (6, ⟨j0, 16, none⟩, .slice q.ops.a q.ops.n q.ops.k), (9, ⟨o0, p0 + 0, none⟩, I c0.code), (9, ⟨o0, p0 + 1, none⟩, I c0.arg)] [(true, [0, 2, 5, 7]), (true, [1]), (true, [3]), (true, [4]), (true, [6]), (true, [8]), (true, [9]), (true, [10])] rfl kr ⟨.inr (a0.cell 1 rfl rfl), .inr ((c1.up 2 rfl).cell a0 (k := 0) rfl), .inr ((c1.up 2 rfl).cell a0 (k := 1) rfl), .inr (a0.cell 0 rfl rfl), .inr ((d1.up 2 rfl).cell a0 (k := 0) rfl), .inr ((d1.up 2 rfl).cell a0 (k := 1) rfl), trivial⟩ ?_
  have e1 := a0.drew
  refine wU [0, 2, 5, 7] ?_
  refine wS (.slice p.ops.a p.ops.n p.ops.k) rfl rfl rfl (fun w hF => Y_load rfl (Try.isAgg59 w) kr (hF 0 _ _ rfl)) ?_
  refine wS (.pointer (some ⟨l0, m0, none⟩)) rfl rfl rfl (fun w _ => Y_idx (a := p.ops.a) (i := ((i : Nat) : Int)) (len := p.ops.n) (cap := p.ops.k) rfl Try.runUnderlying59 Try.sizeOf66 kr kr m2) ?_
  refine wS (.agg #[I b0.code, I b0.arg]) rfl rfl rfl (fun w hF => Y_loadF rfl (Try.isAgg66 w) (Try.sizeOf66 w) kr rfl ⟨hF 1 _ _ rfl, hF 2 _ _ rfl, trivial⟩) ?_
  refine wS (.slice q.ops.a q.ops.n q.ops.k) rfl rfl rfl (fun w hF => Y_load rfl (Try.isAgg59 w) kr (hF 3 _ _ rfl)) ?_
  refine wS (.pointer (some ⟨o0, p0, none⟩)) rfl rfl rfl (fun w _ => Y_idx (a := q.ops.a) (i := ((i : Nat) : Int)) (len := q.ops.n) (cap := q.ops.k) rfl Try.runUnderlying59 Try.sizeOf66 kr kr n2) ?_
  refine wS (.agg #[I c0.code, I c0.arg]) rfl rfl rfl (fun w hF => Y_loadF rfl (Try.isAgg66 w) (Try.sizeOf66 w) kr rfl ⟨hF 4 _ _ rfl, hF 5 _ _ rfl, trivial⟩) ?_
  refine wS (.bool (!(((b0.code : Int) == c0.code) && ((b0.arg : Int) == c0.arg)))) rfl rfl rfl (fun w _ => Y_eqS rfl kr kr (eqvn66 _ b0.code b0.arg c0.code c0.arg)) ?_
  refine wN ?_
  refine thenK_n ?_
  rcases Classical.em ((b0.code : Int) = c0.code ∧ (b0.arg : Int) = c0.arg) with r0 | r0
  rotate_left
  ·refine cT _ (congrArg Bool.not (show (((b0.code : Int) == c0.code) && ((b0.arg : Int) == c0.arg)) = false from by simpa using r0)) ?_
   refine sR <| pu1 <| nT ?_
   refine retE (blockK_r <| thenK_r <| tR <| thenK_r <| ?_)
   refine retT [.bool false] ?_
   have f1 := (((e1.pick 2 rfl).dropAt 1 rfl).dropAt 1 rfl)
   change Sat _ _ (H :: F) at f1
   exact ⟨by rw [decide_eq_false (fun h => ne_of_at n0 q0 (by intro h; subst h; simp_all) (congrArg StageV.ops h))]; rfl, f1⟩
  refine cF _ (congrArg Bool.not (show (((b0.code : Int) == c0.code) && ((b0.arg : Int) == c0.arg)) = true from by simpa using r0)) ?_
  refine skipE <| blockK_n <| thenK_n <| regionE <| pu1 ?_
  refine sAdd ((i : Nat) : Int) 1 ?_
  refine pu1 <| nT ?_
  have g1 := (((e1.pick 2 rfl).pick 2 rfl).pick 2 rfl)
  try dsimp only [List.set, List.eraseIdx, Value.cells] at g1
  exact ⟨i + 1, od, alA, g1, om, take_eq_succ hE n0 q0 (by cases b0; cases c0; simp_all)⟩
 refine cF _ (decide_eq_false b1) ?_
 refine exitE (xB <| ?_)
 refine thenK_n <| seqE ?_
 have hops : p.ops.l = q.ops.l := eq_of_take hE om om
 refine regionE <| pu1 ?_
 refine sL a0 1 0 (I p.kind) (Try.isAgg3 _) ?_
 refine pu1 ?_
 refine sL a0 0 0 (I q.kind) (Try.isAgg3 _) ?_
 refine pu2 ?_
 by_cases h1 : (p.kind : Int) = q.kind
 rotate_left
 ·refine sFix 36 _ false (beq_eq_false_iff_ne.2 h1) ?_
  refine pu16 <| pu16 <| pu16 <| pu16 <| pu16 <| pu16 <| pu9 <| nT <| retE <| retT [.bool false] ?_
  have i1 := (((a0.pick 2 rfl).dropAt 1 rfl).dropAt 1 rfl)
  change Sat _ _ (H :: F) at i1
  refine ⟨congrArg (fun b => Ending.returned (.bool b)) ?_, i1⟩
  first | (rw [Bool.eq_iff_iff]; simp [Stage.v, *]; done) | (simp [Stage.v, *]; done) | (exact (decide_eq_false (fun h => by simp_all [Stage.v])).symm) | (exact (decide_eq_true (by simp_all [Stage.v])).symm)
 refine sFix 36 _ true (beq_iff_eq.2 h1) ?_
 refine pu1 <| gY ?_
 refine sL a0 1 1 (I p.a) (Try.isAgg3 _) ?_
 refine pu1 <| gY ?_
 refine sL a0 0 1 (I q.a) (Try.isAgg3 _) ?_
 refine pu3 ?_
 by_cases j1 : (p.a : Int) = q.a
 rotate_left
 ·refine sFix 43 _ false (beq_eq_false_iff_ne.2 j1) ?_
  refine pu16 <| pu16 <| pu16 <| pu16 <| pu16 <| pu16 <| pu2 <| nT <| retE <| retT [.bool false] ?_
  have k1 := (((a0.pick 2 rfl).dropAt 1 rfl).dropAt 1 rfl)
  change Sat _ _ (H :: F) at k1
  refine ⟨congrArg (fun b => Ending.returned (.bool b)) ?_, k1⟩
  first | (rw [Bool.eq_iff_iff]; simp [Stage.v, *]; done) | (simp [Stage.v, *]; done) | (exact (decide_eq_false (fun h => by simp_all [Stage.v])).symm) | (exact (decide_eq_true (by simp_all [Stage.v])).symm)
 refine sFix 43 _ true (beq_iff_eq.2 j1) ?_
 refine pu1 <| gY ?_
 refine sL a0 1 2 (I p.b) (Try.isAgg3 _) ?_
 refine pu1 <| gY ?_
 refine sL a0 0 2 (I q.b) (Try.isAgg3 _) ?_
 refine pu3 ?_
 by_cases l1 : (p.b : Int) = q.b
 rotate_left
 ·refine sFix 50 _ false (beq_eq_false_iff_ne.2 l1) ?_
  refine pu16 <| pu16 <| pu16 <| pu16 <| pu16 <| pu11 <| nT <| retE <| retT [.bool false] ?_
  have m1 := (((a0.pick 2 rfl).dropAt 1 rfl).dropAt 1 rfl)
  change Sat _ _ (H :: F) at m1
  refine ⟨congrArg (fun b => Ending.returned (.bool b)) ?_, m1⟩
  first | (rw [Bool.eq_iff_iff]; simp [Stage.v, *]; done) | (simp [Stage.v, *]; done) | (exact (decide_eq_false (fun h => by simp_all [Stage.v])).symm) | (exact (decide_eq_true (by simp_all [Stage.v])).symm)
 refine sFix 50 _ true (beq_iff_eq.2 l1) ?_
 refine pu1 <| gY ?_
 refine sL a0 1 3 (.bool p.barrier) (Try.isAgg4 _) ?_
 refine pu1 <| gY ?_
 refine sL a0 0 3 (.bool q.barrier) (Try.isAgg4 _) ?_
 refine pu3 ?_
 rcases bool_em p.barrier q.barrier with s0 | s0
 rotate_left
 ·refine sFix 57 _ false (show (p.barrier == q.barrier) = false from by simpa using s0) ?_
  refine pu16 <| pu16 <| pu16 <| pu16 <| pu16 <| pu4 <| nT <| retE <| retT [.bool false] ?_
  have n1 := (((a0.pick 2 rfl).dropAt 1 rfl).dropAt 1 rfl)
  change Sat _ _ (H :: F) at n1
  refine ⟨congrArg (fun b => Ending.returned (.bool b)) ?_, n1⟩
  first | (rw [Bool.eq_iff_iff]; simp [Stage.v, *]; done) | (simp [Stage.v, *]; done) | (exact (decide_eq_false (fun h => by simp_all [Stage.v])).symm) | (exact (decide_eq_true (by simp_all [Stage.v])).symm)
 refine sFix 57 _ true (show (p.barrier == q.barrier) = true from by simpa using s0) ?_
 refine pu1 <| gY ?_
 refine sLA a0 1 4 [I p.edgePolicy, I p.edgeFill] (Try.isAgg57 _) (Try.sizeOf57 _) ?_
 refine pu1 <| gY ?_
 refine sLA a0 0 4 [I q.edgePolicy, I q.edgeFill] (Try.isAgg57 _) (Try.sizeOf57 _) ?_
 refine gY ?_
 refine stepY (.bool (((p.edgePolicy : Int) == q.edgePolicy) && ((p.edgeFill : Int) == q.edgeFill))) rfl rfl (Y_eqS rfl kr kr (eqve57 _ p.edgePolicy p.edgeFill q.edgePolicy q.edgeFill)) ?_
 refine pu2 ?_
 rcases Classical.em ((p.edgePolicy : Int) = q.edgePolicy ∧ (p.edgeFill : Int) = q.edgeFill) with t0 | t0
 rotate_left
 ·refine sFix 64 _ false (show (((p.edgePolicy : Int) == q.edgePolicy) && ((p.edgeFill : Int) == q.edgeFill)) = false from by simpa using t0) ?_
  refine pu16 <| pu16 <| pu16 <| pu16 <| pu13 <| nT <| retE <| retT [.bool false] ?_
  have o1 := (((a0.pick 2 rfl).dropAt 1 rfl).dropAt 1 rfl)
  change Sat _ _ (H :: F) at o1
  refine ⟨congrArg (fun b => Ending.returned (.bool b)) ?_, o1⟩
  first | (rw [Bool.eq_iff_iff]; simp [Stage.v, *]; done) | (simp [Stage.v, *]; done) | (exact (decide_eq_false (fun h => by simp_all [Stage.v])).symm) | (exact (decide_eq_true (by simp_all [Stage.v])).symm)
 refine sFix 64 _ true (show (((p.edgePolicy : Int) == q.edgePolicy) && ((p.edgeFill : Int) == q.edgeFill)) = true from by simpa using t0) ?_
 refine pu1 <| gY ?_
 refine sL a0 1 6 (I p.kW) (Try.isAgg3 _) ?_
 refine pu1 <| gY ?_
 refine sL a0 0 6 (I q.kW) (Try.isAgg3 _) ?_
 refine pu3 ?_
 by_cases p1 : (p.kW : Int) = q.kW
 rotate_left
 ·refine sFix 71 _ false (beq_eq_false_iff_ne.2 p1) ?_
  refine pu16 <| pu16 <| pu16 <| pu16 <| pu6 <| nT <| retE <| retT [.bool false] ?_
  have q1 := (((a0.pick 2 rfl).dropAt 1 rfl).dropAt 1 rfl)
  change Sat _ _ (H :: F) at q1
  refine ⟨congrArg (fun b => Ending.returned (.bool b)) ?_, q1⟩
  first | (rw [Bool.eq_iff_iff]; simp [Stage.v, *]; done) | (simp [Stage.v, *]; done) | (exact (decide_eq_false (fun h => by simp_all [Stage.v])).symm) | (exact (decide_eq_true (by simp_all [Stage.v])).symm)
 refine sFix 71 _ true (beq_iff_eq.2 p1) ?_
 refine pu1 <| gY ?_
 refine sL a0 1 7 (I p.kH) (Try.isAgg3 _) ?_
 refine pu1 <| gY ?_
 refine sL a0 0 7 (I q.kH) (Try.isAgg3 _) ?_
 refine pu3 ?_
 by_cases r1 : (p.kH : Int) = q.kH
 rotate_left
 ·refine sFix 78 _ false (beq_eq_false_iff_ne.2 r1) ?_
  refine pu16 <| pu16 <| pu16 <| pu15 <| nT <| retE <| retT [.bool false] ?_
  have s1 := (((a0.pick 2 rfl).dropAt 1 rfl).dropAt 1 rfl)
  change Sat _ _ (H :: F) at s1
  refine ⟨congrArg (fun b => Ending.returned (.bool b)) ?_, s1⟩
  first | (rw [Bool.eq_iff_iff]; simp [Stage.v, *]; done) | (simp [Stage.v, *]; done) | (exact (decide_eq_false (fun h => by simp_all [Stage.v])).symm) | (exact (decide_eq_true (by simp_all [Stage.v])).symm)
 refine sFix 78 _ true (beq_iff_eq.2 r1) ?_
 refine pu1 <| gY ?_
 refine sL a0 1 8 (.slice p.weights.a p.weights.n p.weights.k) (Try.isAgg22 _) ?_
 refine pu1 <| gY ?_
 refine sL a0 0 8 (.slice q.weights.a q.weights.n q.weights.k) (Try.isAgg22 _) ?_
 refine gY ?_
 refine sF #[.slice p.weights.a p.weights.n p.weights.k, .slice q.weights.a q.weights.n q.weights.k] Try.call32 (Calls.mono (r4_same W _ _ [] p.weights.a p.weights.n p.weights.k p.weights.l q.weights.a q.weights.n q.weights.k q.weights.l (RdT.flat (hp.weights.up 2 (by rfl))) (RdT.flat (hq.weights.up 2 (by rfl))) (Sat.flat a0)) ?_)
 rintro _ _ ⟨rfl, t1⟩
 refine ⟨_, rfl, ?_⟩
 have f0 := Sat.unflat t1; clear t1
 try dsimp only [List.set, List.eraseIdx, Value.cells] at f0
 refine pu2 ?_
 rcases Classical.em (p.weights.l = q.weights.l) with u0 | u0
 rotate_left
 ·refine sFix 85 _ false (decide_eq_false u0) ?_
  refine pu16 <| pu16 <| pu16 <| pu8 <| nT <| retE <| retT [.bool false] ?_
  have u1 := (((f0.pick 2 rfl).dropAt 1 rfl).dropAt 1 rfl)
  change Sat _ _ (H :: F) at u1
  refine ⟨congrArg (fun b => Ending.returned (.bool b)) ?_, u1⟩
  first | (rw [Bool.eq_iff_iff]; simp [Stage.v, *]; done) | (simp [Stage.v, *]; done) | (exact (decide_eq_false (fun h => by simp_all [Stage.v])).symm) | (exact (decide_eq_true (by simp_all [Stage.v])).symm)
 refine sFix 85 _ true (decide_eq_true u0) ?_
 refine pu1 <| gY ?_
 refine sL f0 1 9 (.slice p.row.a p.row.n p.row.k) (Try.isAgg22 _) ?_
 refine pu1 <| gY ?_
 refine sL f0 0 9 (.slice q.row.a q.row.n q.row.k) (Try.isAgg22 _) ?_
 refine gY ?_
 refine sF #[.slice p.row.a p.row.n p.row.k, .slice q.row.a q.row.n q.row.k] Try.call32 (Calls.mono (r4_same W _ _ [] p.row.a p.row.n p.row.k p.row.l q.row.a q.row.n q.row.k q.row.l (RdT.flat (hp.row.up 2 (by rfl))) (RdT.flat (hq.row.up 2 (by rfl))) (Sat.flat f0)) ?_)
 rintro _ _ ⟨rfl, v1⟩
 refine ⟨_, rfl, ?_⟩
 have g0 := Sat.unflat v1; clear v1
 try dsimp only [List.set, List.eraseIdx, Value.cells] at g0
 refine pu2 ?_
 rcases Classical.em (p.row.l = q.row.l) with v0 | v0
 rotate_left
 ·refine sFix 92 _ false (decide_eq_false v0) ?_
  refine pu16 <| pu16 <| pu16 <| pu1 <| nT <| retE <| retT [.bool false] ?_
  have w1 := (((g0.pick 2 rfl).dropAt 1 rfl).dropAt 1 rfl)
  change Sat _ _ (H :: F) at w1
  refine ⟨congrArg (fun b => Ending.returned (.bool b)) ?_, w1⟩
  first | (rw [Bool.eq_iff_iff]; simp [Stage.v, *]; done) | (simp [Stage.v, *]; done) | (exact (decide_eq_false (fun h => by simp_all [Stage.v])).symm) | (exact (decide_eq_true (by simp_all [Stage.v])).symm)
 refine sFix 92 _ true (decide_eq_true v0) ?_
 refine pu1 <| gY ?_
 refine sL g0 1 10 (.slice p.col.a p.col.n p.col.k) (Try.isAgg22 _) ?_
 refine pu1 <| gY ?_
 refine sL g0 0 10 (.slice q.col.a q.col.n q.col.k) (Try.isAgg22 _) ?_
 refine gY ?_
 refine sF #[.slice p.col.a p.col.n p.col.k, .slice q.col.a q.col.n q.col.k] Try.call32 (Calls.mono (r4_same W _ _ [] p.col.a p.col.n p.col.k p.col.l q.col.a q.col.n q.col.k q.col.l (RdT.flat (hp.col.up 2 (by rfl))) (RdT.flat (hq.col.up 2 (by rfl))) (Sat.flat g0)) ?_)
 rintro _ _ ⟨rfl, x1⟩
 refine ⟨_, rfl, ?_⟩
 have d0 := Sat.unflat x1; clear x1
 try dsimp only [List.set, List.eraseIdx, Value.cells] at d0
 refine pu2 ?_
 rcases Classical.em (p.col.l = q.col.l) with w0 | w0
 rotate_left
 ·refine sFix 99 _ false (decide_eq_false w0) ?_
  refine pu16 <| pu16 <| pu10 <| nT <| retE <| retT [.bool false] ?_
  have y1 := (((d0.pick 2 rfl).dropAt 1 rfl).dropAt 1 rfl)
  change Sat _ _ (H :: F) at y1
  refine ⟨congrArg (fun b => Ending.returned (.bool b)) ?_, y1⟩
  first | (rw [Bool.eq_iff_iff]; simp [Stage.v, *]; done) | (simp [Stage.v, *]; done) | (exact (decide_eq_false (fun h => by simp_all [Stage.v])).symm) | (exact (decide_eq_true (by simp_all [Stage.v])).symm)
 refine sFix 99 _ true (decide_eq_true w0) ?_
 refine pu1 <| gY ?_
 refine sL d0 1 11 (I p.shift) (Try.isAgg3 _) ?_
 refine pu1 <| gY ?_
 refine sL d0 0 11 (I q.shift) (Try.isAgg3 _) ?_
 refine pu3 ?_
 by_cases z1 : (p.shift : Int) = q.shift
 rotate_left
 ·refine sFix 106 _ false (beq_eq_false_iff_ne.2 z1) ?_
  refine pu16 <| pu16 <| pu3 <| nT <| retE <| retT [.bool false] ?_
  have a2 := (((d0.pick 2 rfl).dropAt 1 rfl).dropAt 1 rfl)
  change Sat _ _ (H :: F) at a2
  refine ⟨congrArg (fun b => Ending.returned (.bool b)) ?_, a2⟩
  first | (rw [Bool.eq_iff_iff]; simp [Stage.v, *]; done) | (simp [Stage.v, *]; done) | (exact (decide_eq_false (fun h => by simp_all [Stage.v])).symm) | (exact (decide_eq_true (by simp_all [Stage.v])).symm)
 refine sFix 106 _ true (beq_iff_eq.2 z1) ?_
 refine pu1 <| gY ?_
 refine sL d0 1 12 (I p.shift2) (Try.isAgg3 _) ?_
 refine pu1 <| gY ?_
 refine sL d0 0 12 (I q.shift2) (Try.isAgg3 _) ?_
 refine pu3 ?_
 by_cases b2 : (p.shift2 : Int) = q.shift2
 rotate_left
 ·refine sFix 113 _ false (beq_eq_false_iff_ne.2 b2) ?_
  refine pu16 <| pu12 <| nT <| retE <| retT [.bool false] ?_
  have c2 := (((d0.pick 2 rfl).dropAt 1 rfl).dropAt 1 rfl)
  change Sat _ _ (H :: F) at c2
  refine ⟨congrArg (fun b => Ending.returned (.bool b)) ?_, c2⟩
  first | (rw [Bool.eq_iff_iff]; simp [Stage.v, *]; done) | (simp [Stage.v, *]; done) | (exact (decide_eq_false (fun h => by simp_all [Stage.v])).symm) | (exact (decide_eq_true (by simp_all [Stage.v])).symm)
 refine sFix 113 _ true (beq_iff_eq.2 b2) ?_
 refine pu1 <| gY ?_
 refine sL d0 1 13 (.slice p.x.a p.x.n p.x.k) (Try.isAgg58 _) ?_
 refine pu1 <| gY ?_
 refine sL d0 0 13 (.slice q.x.a q.x.n q.x.k) (Try.isAgg58 _) ?_
 refine gY ?_
 refine sF #[.slice p.x.a p.x.n p.x.k, .slice q.x.a q.x.n q.x.k] Try.call47 (Calls.mono (r8_same W _ _ [] p.x.a p.x.n p.x.k p.x.l q.x.a q.x.n q.x.k q.x.l (RdT.flat (hp.x.up 2 (by rfl))) (fun z hz => (hp.xD z hz).of_mem (mem_flat1 2 (by rfl))) (RdT.flat (hq.x.up 2 (by rfl))) (fun z hz => (hq.xD z hz).of_mem (mem_flat1 2 (by rfl))) (Sat.flat d0)) ?_)
 rintro _ _ ⟨rfl, d2⟩
 refine ⟨_, rfl, ?_⟩
 have h0 := Sat.unflat d2; clear d2
 try dsimp only [List.set, List.eraseIdx, Value.cells] at h0
 refine pu2 ?_
 rcases Classical.em (p.x.l.map Tap.v = q.x.l.map Tap.v) with x0 | x0
 rotate_left
 ·refine sFix 120 _ false (decide_eq_false x0) ?_
  refine pu16 <| pu5 <| nT <| retE <| retT [.bool false] ?_
  have e2 := (((h0.pick 2 rfl).dropAt 1 rfl).dropAt 1 rfl)
  change Sat _ _ (H :: F) at e2
  refine ⟨congrArg (fun b => Ending.returned (.bool b)) ?_, e2⟩
  first | (rw [Bool.eq_iff_iff]; simp [Stage.v, *]; done) | (simp [Stage.v, *]; done) | (exact (decide_eq_false (fun h => by simp_all [Stage.v])).symm) | (exact (decide_eq_true (by simp_all [Stage.v])).symm)
 refine sFix 120 _ true (decide_eq_true x0) ?_
 refine pu1 <| gY ?_
 refine sL h0 1 14 (.slice p.y.a p.y.n p.y.k) (Try.isAgg58 _) ?_
 refine pu1 <| gY ?_
 refine sL h0 0 14 (.slice q.y.a q.y.n q.y.k) (Try.isAgg58 _) ?_
 refine gY ?_
 refine sF #[.slice p.y.a p.y.n p.y.k, .slice q.y.a q.y.n q.y.k] Try.call47 (Calls.mono (r8_same W _ _ [] p.y.a p.y.n p.y.k p.y.l q.y.a q.y.n q.y.k q.y.l (RdT.flat (hp.y.up 2 (by rfl))) (fun z hz => (hp.yD z hz).of_mem (mem_flat1 2 (by rfl))) (RdT.flat (hq.y.up 2 (by rfl))) (fun z hz => (hq.yD z hz).of_mem (mem_flat1 2 (by rfl))) (Sat.flat h0)) ?_)
 rintro _ _ ⟨rfl, f2⟩
 refine ⟨_, rfl, ?_⟩
 have e0 := Sat.unflat f2; clear f2
 try dsimp only [List.set, List.eraseIdx, Value.cells] at e0
 refine pu2 ?_
 rcases Classical.em (p.y.l.map Tap.v = q.y.l.map Tap.v) with y0 | y0
 rotate_left
 ·refine sFix 127 _ false (decide_eq_false y0) ?_
  refine pu14 <| nT <| retE <| retT [.bool false] ?_
  have g2 := (((e0.pick 2 rfl).dropAt 1 rfl).dropAt 1 rfl)
  change Sat _ _ (H :: F) at g2
  refine ⟨congrArg (fun b => Ending.returned (.bool b)) ?_, g2⟩
  first | (rw [Bool.eq_iff_iff]; simp [Stage.v, *]; done) | (simp [Stage.v, *]; done) | (exact (decide_eq_false (fun h => by simp_all [Stage.v])).symm) | (exact (decide_eq_true (by simp_all [Stage.v])).symm)
 refine sFix 127 _ true (decide_eq_true y0) ?_
 refine pu1 <| gY ?_
 refine sL e0 1 15 (I p.bins) (Try.isAgg3 _) ?_
 refine pu1 <| gY ?_
 refine sL e0 0 15 (I q.bins) (Try.isAgg3 _) ?_
 refine pu3 ?_
 by_cases i2 : (p.bins : Int) = q.bins
 rotate_left
 ·refine sFix 134 _ false (beq_eq_false_iff_ne.2 i2) ?_
  refine pu7 <| nT <| retE <| retT [.bool false] ?_
  have j2 := (((e0.pick 2 rfl).dropAt 1 rfl).dropAt 1 rfl)
  change Sat _ _ (H :: F) at j2
  refine ⟨congrArg (fun b => Ending.returned (.bool b)) ?_, j2⟩
  first | (rw [Bool.eq_iff_iff]; simp [Stage.v, *]; done) | (simp [Stage.v, *]; done) | (exact (decide_eq_false (fun h => by simp_all [Stage.v])).symm) | (exact (decide_eq_true (by simp_all [Stage.v])).symm)
 refine sFix 134 _ true (beq_iff_eq.2 i2) ?_
 refine pu1 <| gY ?_
 refine sL e0 1 17 (I p.max_) (Try.isAgg3 _) ?_
 refine pu1 <| gY ?_
 refine sL e0 0 17 (I q.max_) (Try.isAgg3 _) ?_
 refine pu3 <| nT <| retE <| retT [.bool ((p.max_ : Int) == q.max_)] ?_
 have k2 := (((e0.pick 2 rfl).dropAt 1 rfl).dropAt 1 rfl)
 change Sat _ _ (H :: F) at k2
 refine ⟨congrArg (fun b => Ending.returned (.bool b)) ?_, k2⟩
 first | (rw [Bool.eq_iff_iff]; simp [Stage.v, *]; done) | (simp [Stage.v, *]; done) | (exact (decide_eq_false (fun h => by simp_all [Stage.v])).symm) | (exact (decide_eq_true (by simp_all [Stage.v])).symm)
theorem r19_same (W w : World) (H : Chunk) (F : List Chunk) (p : Job) (q : Job) (hp : Job.Ok [H] p) (hq : Job.Ok [H] q) (hS : Sat W w (H :: F)) :
  Calls Try.prog 12 #[.agg (encJob p).toArray, .agg (encJob q).toArray] w fun e w' => e = .returned (.bool (decide (p.v = q.v))) ∧ Sat W w' (H :: F) := by
 have hl_p_inputs := hp.inputs.le; have hn_p_inputs := hp.inputs.len
 have hl_p_stages := hp.stages.le; have hn_p_stages := hp.stages.len
 have hl_p_outputs := hp.outputs.le; have hn_p_outputs := hp.outputs.len
 have hl_q_inputs := hq.inputs.le; have hn_q_inputs := hq.inputs.len
 have hl_q_stages := hq.stages.le; have hn_q_stages := hq.stages.len
 have hl_q_outputs := hq.outputs.le; have hn_q_outputs := hq.outputs.len
 refine callsE (n := 76) Try.func12 rfl rfl (Nat.le_of_ble_eq_true rfl) ?_
 refine sR ?_
 refine sBox hS (.agg (encJob p).toArray) (encJob p).toArray ?_
 intro j0 _ x1
 refine sBox x1 (.agg (encJob q).toArray) (encJob q).toArray ?_
 intro k0 _ m0
 refine pu1 <| nT <| seqE <| sR <| pu1 ?_
 refine sL m0 1 3 (I p.priority) (Try.isAgg3 _) ?_
 refine pu1 ?_
 refine sL m0 0 3 (I q.priority) (Try.isAgg3 _) ?_
 refine pu2 ?_
 by_cases f1 : (p.priority : Int) = q.priority
 rotate_left
 ·refine sFix 12 _ true (bne_iff_ne.2 f1) ?_
  refine pu16 <| pu9 <| nT <| cTt <| sR <| pu1 <| nT ?_
  refine retE (thenK_r <| ?_)
  refine retT [.bool false] ?_
  have g1 := (((m0.pick 2 rfl).dropAt 1 rfl).dropAt 1 rfl)
  change Sat _ _ (H :: F) at g1
  exact ⟨by
   rw [decide_eq_false (fun h => by
    have h1 := congrArg List.length (congrArg JobV.inputs h); have h2 := congrArg List.length (congrArg JobV.stages h); have h3 := congrArg JobV.outputs h; have h4 := congrArg JobV.priority h
    simp only [Job.v, List.length_map] at h1 h2 h3 h4
    first | omega | contradiction)]; rfl, g1⟩
 refine sFix 12 _ false (bne_eq_false_iff_eq.2 f1) ?_
 refine pu1 <| gY ?_
 refine sL m0 1 0 (.slice p.inputs.a p.inputs.n p.inputs.k) (Try.isAgg25 _) ?_
 refine pu2 <| gY ?_
 refine sL m0 0 0 (.slice q.inputs.a q.inputs.n q.inputs.k) (Try.isAgg25 _) ?_
 refine pu4 ?_
 by_cases i1 : (((p.inputs.n : Nat) : Int) : Int) = ((q.inputs.n : Nat) : Int)
 rotate_left
 ·refine sFix 21 _ true (bne_iff_ne.2 i1) ?_
  refine pu16 <| nT <| cTt <| sR <| pu1 <| nT ?_
  refine retE (thenK_r <| ?_)
  refine retT [.bool false] ?_
  have j1 := (((m0.pick 2 rfl).dropAt 1 rfl).dropAt 1 rfl)
  change Sat _ _ (H :: F) at j1
  exact ⟨by
   rw [decide_eq_false (fun h => by
    have h1 := congrArg List.length (congrArg JobV.inputs h); have h2 := congrArg List.length (congrArg JobV.stages h); have h3 := congrArg JobV.outputs h; have h4 := congrArg JobV.priority h
    simp only [Job.v, List.length_map] at h1 h2 h3 h4
    first | omega | contradiction)]; rfl, j1⟩
 refine sFix 21 _ false (bne_eq_false_iff_eq.2 i1) ?_
 refine pu1 <| gY ?_
 refine sL m0 1 1 (.slice p.stages.a p.stages.n p.stages.k) (Try.isAgg26 _) ?_
 refine pu2 <| gY ?_
 refine sL m0 0 1 (.slice q.stages.a q.stages.n q.stages.k) (Try.isAgg26 _) ?_
 refine pu4 ?_
 by_cases k1 : (((p.stages.n : Nat) : Int) : Int) = ((q.stages.n : Nat) : Int)
 rotate_left
 ·refine sFix 30 _ true (bne_iff_ne.2 k1) ?_
  refine pu7 <| nT <| cTt <| sR <| pu1 <| nT ?_
  refine retE (thenK_r <| ?_)
  refine retT [.bool false] ?_
  have l1 := (((m0.pick 2 rfl).dropAt 1 rfl).dropAt 1 rfl)
  change Sat _ _ (H :: F) at l1
  exact ⟨by
   rw [decide_eq_false (fun h => by
    have h1 := congrArg List.length (congrArg JobV.inputs h); have h2 := congrArg List.length (congrArg JobV.stages h); have h3 := congrArg JobV.outputs h; have h4 := congrArg JobV.priority h
    simp only [Job.v, List.length_map] at h1 h2 h3 h4
    first | omega | contradiction)]; rfl, l1⟩
 refine sFix 30 _ false (bne_eq_false_iff_eq.2 k1) ?_
 refine pu1 <| gY ?_
 refine sL m0 1 2 (.slice p.outputs.a p.outputs.n p.outputs.k) (Try.isAgg22 _) ?_
 refine pu1 <| gY ?_
 refine sL m0 0 2 (.slice q.outputs.a q.outputs.n q.outputs.k) (Try.isAgg22 _) ?_
 refine gY ?_
 refine sF #[.slice p.outputs.a p.outputs.n p.outputs.k, .slice q.outputs.a q.outputs.n q.outputs.k] Try.call32 (Calls.mono (r4_same W _ _ [] p.outputs.a p.outputs.n p.outputs.k p.outputs.l q.outputs.a q.outputs.n q.outputs.k q.outputs.l (RdT.flat (hp.outputs.up 2 (by rfl))) (RdT.flat (hq.outputs.up 2 (by rfl))) (Sat.flat m0)) ?_)
 rintro _ _ ⟨rfl, m1⟩
 refine ⟨_, rfl, ?_⟩
 have b1 := Sat.unflat m1; clear m1
 try dsimp only [List.set, List.eraseIdx, Value.cells] at b1
 refine pu2 <| nT ?_
 rcases Classical.em (p.outputs.l = q.outputs.l) with c1 | c1
 rotate_left
 ·refine cT _ (congrArg Bool.not (decide_eq_false c1)) ?_
  refine sR <| pu1 <| nT ?_
  refine retE (thenK_r <| ?_)
  refine retT [.bool false] ?_
  have n1 := (((b1.pick 2 rfl).dropAt 1 rfl).dropAt 1 rfl)
  change Sat _ _ (H :: F) at n1
  exact ⟨by
   rw [decide_eq_false (fun h => by
    have h1 := congrArg List.length (congrArg JobV.inputs h); have h2 := congrArg List.length (congrArg JobV.stages h); have h3 := congrArg JobV.outputs h; have h4 := congrArg JobV.priority h
    simp only [Job.v, List.length_map] at h1 h2 h3 h4
    first | omega | contradiction)]; rfl, n1⟩
 refine cF _ (congrArg Bool.not (decide_eq_true c1)) ?_
 refine kT <| seqE <| sR <| pu1 <| nT <| blockE ?_
 refine loopE (γ := Nat) (fun i ρ w => AllAt ρ [(0, .agg (encJob p).toArray), (1, .agg (encJob q).toArray), (2, Pt j0 0), (3, Pt k0 0), (7, Pt j0 3), (8, I p.priority), (9, Pt k0 3), (10, I q.priority), (11, .bool ((p.priority : Int) != q.priority)), (12, .bool false), (13, Pt j0 0), (14, .slice p.inputs.a p.inputs.n p.inputs.k), (15, I ((p.inputs.n : Nat) : Int)), (16, Pt k0 0), (17, .slice q.inputs.a q.inputs.n q.inputs.k), (18, I ((q.inputs.n : Nat) : Int)), (19, .bool ((((p.inputs.n : Nat) : Int) : Int) != ((q.inputs.n : Nat) : Int))), (20, .bool ((((p.inputs.n : Nat) : Int) : Int) != ((q.inputs.n : Nat) : Int))), (21, .bool false), (22, Pt j0 1), (23, .slice p.stages.a p.stages.n p.stages.k), (24, I ((p.stages.n : Nat) : Int)), (25, Pt k0 1), (26, .slice q.stages.a q.stages.n q.stages.k), (27, I ((q.stages.n : Nat) : Int)), (28, .bool ((((p.stages.n : Nat) : Int) : Int) != ((q.stages.n : Nat) : Int))), (29, .bool ((((p.stages.n : Nat) : Int) : Int) != ((q.stages.n : Nat) : Int))), (30, .bool false), (31, Pt j0 2), (32, .slice p.outputs.a p.outputs.n p.outputs.k), (33, Pt k0 2), (34, .slice q.outputs.a q.outputs.n q.outputs.k), (35, .bool (decide (p.outputs.l = q.outputs.l))), (36, .bool (!decide (p.outputs.l = q.outputs.l))), (37, .bool (!decide (p.outputs.l = q.outputs.l))), (5, I ((i : Nat) : Int))] ∧ Sat W w ([(k0, .cells (encJob q).toArray 28 (0, 0))] :: [(j0, .cells (encJob p).toArray 28 (0, 0))] :: H :: F) ∧ i ≤ p.inputs.n ∧ ((p.inputs.l.map Plane.v).take i = (q.inputs.l.map Plane.v).take i)) (fun i => p.inputs.n - i) 0 ⟨alA, b1, om, by simp⟩ ?_
 skip
 rintro i ρ _ ⟨hA, l0, hi, hE⟩
 refine cAnchor hA (fun ρ => ?_)
 clear hA
 refine seqE <| sR <| pu2 ?_
 refine sL l0 1 0 (.slice p.inputs.a p.inputs.n p.inputs.k) (Try.isAgg25 _) ?_
 refine pu2 <| nT ?_
 by_cases o1 : (((i : Nat) : Int) : Int) < ((p.inputs.n : Nat) : Int)
 ·refine cT _ (decide_eq_true o1) ?_
  refine kT <| seqE <| blockE <| seqE ?_
  obtain ⟨n0, r0, s0, x0, y0, y1⟩ := RdT.elem hp.inputs ((i : Nat) : Int)
  rw [Int.toNat_natCast] at x0
  obtain ⟨o0, t0, u0, z0, a1, z1⟩ := RdT.elem hq.inputs ((i : Nat) : Int)
  rw [Int.toNat_natCast] at z0
  refine drawE [10] [(1, ⟨j0, 0, none⟩, .slice p.inputs.a p.inputs.n p.inputs.k), (4, ⟨r0, s0 + 0, none⟩, I n0.w), (4, ⟨r0, s0 + 1, none⟩, I n0.h), (4, ⟨r0, s0 + 2, none⟩, I n0.max_), (4, ⟨r0, s0 + 3, none⟩, .slice n0.pix.a n0.pix.n n0.pix.k), (6, ⟨k0, 0, none⟩, .slice q.inputs.a q.inputs.n q.inputs.k), (9, ⟨t0, u0 + 0, none⟩, I o0.w), (9, ⟨t0, u0 + 1, none⟩, I o0.h), (9, ⟨t0, u0 + 2, none⟩, I o0.max_), (9, ⟨t0, u0 + 3, none⟩, .slice o0.pix.a o0.pix.n o0.pix.k)] [(true, [0, 2, 5, 7]), (true, [1]), (true, [3]), (true, [4]), (true, [6]), (true, [8]), (true, [9]), (false, [10]), (true, [11])] rfl kr ⟨.inr (l0.cell 1 rfl rfl), .inr ((y0.up 2 rfl).cell l0 (k := 0) rfl), .inr ((y0.up 2 rfl).cell l0 (k := 1) rfl), .inr ((y0.up 2 rfl).cell l0 (k := 2) rfl), .inr ((y0.up 2 rfl).cell l0 (k := 3) rfl), .inr (l0.cell 0 rfl rfl), .inr ((a1.up 2 rfl).cell l0 (k := 0) rfl), .inr ((a1.up 2 rfl).cell l0 (k := 1) rfl), .inr ((a1.up 2 rfl).cell l0 (k := 2) rfl), .inr ((a1.up 2 rfl).cell l0 (k := 3) rfl), trivial⟩ ?_
  have a2 := l0.drew
  refine wU [0, 2, 5, 7] ?_
  refine wS (.slice p.inputs.a p.inputs.n p.inputs.k) rfl rfl rfl (fun w hF => Y_load rfl (Try.isAgg25 w) kr (hF 0 _ _ rfl)) ?_
  refine wS (.pointer (some ⟨r0, s0, none⟩)) rfl rfl rfl (fun w _ => Y_idx (a := p.inputs.a) (i := ((i : Nat) : Int)) (len := p.inputs.n) (cap := p.inputs.k) rfl Try.runUnderlying25 Try.sizeOf49 kr kr y1) ?_
  refine wS (.agg (encPlane n0).toArray) rfl rfl rfl (fun w hF => Y_loadF rfl (Try.isAgg49 w) (Try.sizeOf49 w) kr rfl ⟨hF 1 _ _ rfl, hF 2 _ _ rfl, hF 3 _ _ rfl, hF 4 _ _ rfl, trivial⟩) ?_
  refine wS (.slice q.inputs.a q.inputs.n q.inputs.k) rfl rfl rfl (fun w hF => Y_load rfl (Try.isAgg25 w) kr (hF 5 _ _ rfl)) ?_
  refine wS (.pointer (some ⟨t0, u0, none⟩)) rfl rfl rfl (fun w _ => Y_idx (a := q.inputs.a) (i := ((i : Nat) : Int)) (len := q.inputs.n) (cap := q.inputs.k) rfl Try.runUnderlying25 Try.sizeOf49 kr kr z1) ?_
  refine wS (.agg (encPlane o0).toArray) rfl rfl rfl (fun w hF => Y_loadF rfl (Try.isAgg49 w) (Try.sizeOf49 w) kr rfl ⟨hF 6 _ _ rfl, hF 7 _ _ rfl, hF 8 _ _ rfl, hF 9 _ _ rfl, trivial⟩) ?_
  refine wO rfl ?_
  refine sF #[.agg (encPlane n0).toArray, .agg (encPlane o0).toArray] Try.call33 (Calls.mono (r4_equal W _ _ [] n0 o0 ⟨(RdT.flat ((hp.inputsD n0 (List.mem_of_getElem? x0)).pix.up 2 (by rfl)))⟩ ⟨(RdT.flat ((hq.inputsD o0 (List.mem_of_getElem? z0)).pix.up 2 (by rfl)))⟩ (Sat.flat a2)) ?_)
  rintro _ _ ⟨rfl, p1⟩
  refine ⟨_, rfl, ?_⟩
  have v0 := Sat.unflat p1; clear p1
  try dsimp only [List.set, List.eraseIdx, Value.cells] at v0
  refine nilO ⟨⟨.inr (v0.cell 1 rfl rfl), dI, dI, dI, dI, .inr (v0.cell 0 rfl rfl), dI, dI, dI, dI, trivial⟩, ?_⟩
  refine wU [11] ?_
  refine wN ?_
  refine thenK_n ?_
  rcases Classical.em (n0.v = o0.v) with d1 | d1
  ·refine cF _ (congrArg Bool.not (decide_eq_true d1)) ?_
   refine skipE <| blockK_n <| thenK_n <| regionE <| pu1 ?_
   refine sAdd ((i : Nat) : Int) 1 ?_
   refine pu1 <| nT ?_
   have q1 := (((v0.pick 2 rfl).pick 2 rfl).pick 2 rfl)
   try dsimp only [List.set, List.eraseIdx, Value.cells] at q1
   exact ⟨i + 1, od, alA, q1, om, take_eq_succ hE (map_at (f := Plane.v) x0) (map_at (f := Plane.v) z0) ‹_›⟩
  refine cT _ (congrArg Bool.not (decide_eq_false d1)) ?_
  refine sR <| pu1 <| nT ?_
  refine retE (blockK_r <| thenK_r <| tR <| thenK_r <| ?_)
  refine retT [.bool false] ?_
  have r1 := (((v0.pick 2 rfl).dropAt 1 rfl).dropAt 1 rfl)
  change Sat _ _ (H :: F) at r1
  exact ⟨by rw [decide_eq_false (fun h => ne_of_at (map_at (f := Plane.v) x0) (map_at (f := Plane.v) z0) ‹_› (congrArg JobV.inputs h))]; rfl, r1⟩
 refine cF _ (decide_eq_false o1) ?_
 refine exitE (xB <| ?_)
 refine thenK_n <| seqE <| seqE ?_
 have hin := eq_of_take hE (by simp; omega) (by simp; omega)
 refine regionE <| pu1 <| nT <| blockE ?_
 refine loopE (γ := Nat) (fun i ρ w => AllAt ρ [(0, .agg (encJob p).toArray), (1, .agg (encJob q).toArray), (2, Pt j0 0), (3, Pt k0 0), (7, Pt j0 3), (8, I p.priority), (9, Pt k0 3), (10, I q.priority), (11, .bool ((p.priority : Int) != q.priority)), (12, .bool false), (13, Pt j0 0), (14, .slice p.inputs.a p.inputs.n p.inputs.k), (15, I ((p.inputs.n : Nat) : Int)), (16, Pt k0 0), (17, .slice q.inputs.a q.inputs.n q.inputs.k), (18, I ((q.inputs.n : Nat) : Int)), (19, .bool ((((p.inputs.n : Nat) : Int) : Int) != ((q.inputs.n : Nat) : Int))), (20, .bool ((((p.inputs.n : Nat) : Int) : Int) != ((q.inputs.n : Nat) : Int))), (21, .bool false), (22, Pt j0 1), (23, .slice p.stages.a p.stages.n p.stages.k), (24, I ((p.stages.n : Nat) : Int)), (25, Pt k0 1), (26, .slice q.stages.a q.stages.n q.stages.k), (27, I ((q.stages.n : Nat) : Int)), (28, .bool ((((p.stages.n : Nat) : Int) : Int) != ((q.stages.n : Nat) : Int))), (29, .bool ((((p.stages.n : Nat) : Int) : Int) != ((q.stages.n : Nat) : Int))), (30, .bool false), (31, Pt j0 2), (32, .slice p.outputs.a p.outputs.n p.outputs.k), (33, Pt k0 2), (34, .slice q.outputs.a q.outputs.n q.outputs.k), (35, .bool (decide (p.outputs.l = q.outputs.l))), (36, .bool (!decide (p.outputs.l = q.outputs.l))), (37, .bool (!decide (p.outputs.l = q.outputs.l))), (39, Pt j0 0), (40, .slice p.inputs.a p.inputs.n p.inputs.k), (41, I ((p.inputs.n : Nat) : Int)), (6, I ((i : Nat) : Int))] ∧ Sat W w ([(k0, .cells (encJob q).toArray 28 (0, 0))] :: [(j0, .cells (encJob p).toArray 28 (0, 0))] :: H :: F) ∧ i ≤ p.stages.n ∧ ((p.stages.l.map Stage.v).take i = (q.stages.l.map Stage.v).take i)) (fun i => p.stages.n - i) 0 ⟨alA, l0, om, by simp⟩ ?_
 skip
 rintro i ρ _ ⟨hA, c0, hi, hE⟩
 refine cAnchor hA (fun ρ => ?_)
 clear hA
 refine seqE <| sR <| pu2 ?_
 refine sL c0 1 1 (.slice p.stages.a p.stages.n p.stages.k) (Try.isAgg26 _) ?_
 refine pu2 <| nT ?_
 by_cases s1 : (((i : Nat) : Int) : Int) < ((p.stages.n : Nat) : Int)
 rotate_left
 ·refine cF _ (decide_eq_false s1) ?_
  refine exitE (xB <| ?_)
  refine thenK_n <| sR <| pu1 <| nT <| retE <| retT [.bool true] ?_
  have t1 := (((c0.pick 2 rfl).dropAt 1 rfl).dropAt 1 rfl)
  change Sat _ _ (H :: F) at t1
  exact ⟨by rw [decide_eq_true (by simp only [Job.v, JobV.mk.injEq]; exact ⟨hin, eq_of_take hE (by simp; omega) (by simp; omega), by assumption, by assumption⟩)]; rfl, t1⟩
 refine cT _ (decide_eq_true s1) ?_
 refine kT <| seqE <| blockE <| seqE ?_
 obtain ⟨a0, d0, e0, p0, h0, b2⟩ := RdT.elem hp.stages ((i : Nat) : Int)
 rw [Int.toNat_natCast] at p0
 obtain ⟨b0, f0, g0, q0, i0, c2⟩ := RdT.elem hq.stages ((i : Nat) : Int)
 rw [Int.toNat_natCast] at q0
 refine drawE [10] [(1, ⟨j0, 1, none⟩, .slice p.stages.a p.stages.n p.stages.k), (4, ⟨d0, e0 + 0, none⟩, I a0.kind), (4, ⟨d0, e0 + 1, none⟩, I a0.a), (4, ⟨d0, e0 + 2, none⟩, I a0.b), (4, ⟨d0, e0 + 3, none⟩, .bool a0.barrier), (4, ⟨d0, e0 + 4, none⟩, I a0.edgePolicy), (4, ⟨d0, e0 + 5, none⟩, I a0.edgeFill), (4, ⟨d0, e0 + 6, none⟩, I a0.kW), (4, ⟨d0, e0 + 7, none⟩, I a0.kH), (4, ⟨d0, e0 + 8, none⟩, .slice a0.weights.a a0.weights.n a0.weights.k), (4, ⟨d0, e0 + 9, none⟩, .slice a0.row.a a0.row.n a0.row.k), (4, ⟨d0, e0 + 10, none⟩, .slice a0.col.a a0.col.n a0.col.k), (4, ⟨d0, e0 + 11, none⟩, I a0.shift), (4, ⟨d0, e0 + 12, none⟩, I a0.shift2), (4, ⟨d0, e0 + 13, none⟩, .slice a0.x.a a0.x.n a0.x.k), (4, ⟨d0, e0 + 14, none⟩, .slice a0.y.a a0.y.n a0.y.k), (4, ⟨d0, e0 + 15, none⟩, I a0.bins), (4, ⟨d0, e0 + 16, none⟩, .slice a0.ops.a a0.ops.n a0.ops.k), (4, ⟨d0, e0 + 17, none⟩, I a0.max_), (6, ⟨k0, 1, none⟩, .slice q.stages.a q.stages.n q.stages.k), (9, ⟨f0, g0 + 0, none⟩, I b0.kind), (9, ⟨f0, g0 + 1, none⟩, I b0.a), (9, ⟨f0, g0 + 2, none⟩, I b0.b), (9, ⟨f0, g0 + 3, none⟩, .bool b0.barrier), (9, ⟨f0, g0 + 4, none⟩, I b0.edgePolicy), (9, ⟨f0, g0 + 5, none⟩, I b0.edgeFill), (9, ⟨f0, g0 + 6, none⟩, I b0.kW), (9, ⟨f0, g0 + 7, none⟩, I b0.kH), (9, ⟨f0, g0 + 8, none⟩, .slice b0.weights.a b0.weights.n b0.weights.k), (9, ⟨f0, g0 + 9, none⟩, .slice b0.row.a b0.row.n b0.row.k), (9, ⟨f0, g0 + 10, none⟩, .slice b0.col.a b0.col.n b0.col.k), (9, ⟨f0, g0 + 11, none⟩, I b0.shift), (9, ⟨f0, g0 + 12, none⟩, I b0.shift2), (9, ⟨f0, g0 + 13, none⟩, .slice b0.x.a b0.x.n b0.x.k), (9, ⟨f0, g0 + 14, none⟩, .slice b0.y.a b0.y.n b0.y.k), (9, ⟨f0, g0 + 15, none⟩, I b0.bins), (9, ⟨f0, g0 + 16, none⟩, .slice b0.ops.a b0.ops.n b0.ops.k), (9, ⟨f0, g0 + 17, none⟩, I b0.max_)] [(true, [0, 2, 5, 7]), (true, [1]), (true, [3]), (true, [4]), (true, [6]), (true, [8]), (true, [9]), (false, [10]), (true, [11])] rfl kr ⟨.inr (c0.cell 1 rfl rfl), .inr ((h0.up 2 rfl).cell c0 (k := 0) rfl), .inr ((h0.up 2 rfl).cell c0 (k := 1) rfl), .inr ((h0.up 2 rfl).cell c0 (k := 2) rfl), .inr ((h0.up 2 rfl).cell c0 (k := 3) rfl), .inr ((h0.up 2 rfl).cell c0 (k := 4) rfl), .inr ((h0.up 2 rfl).cell c0 (k := 5) rfl), .inr ((h0.up 2 rfl).cell c0 (k := 6) rfl), .inr ((h0.up 2 rfl).cell c0 (k := 7) rfl), .inr ((h0.up 2 rfl).cell c0 (k := 8) rfl), .inr ((h0.up 2 rfl).cell c0 (k := 9) rfl), .inr ((h0.up 2 rfl).cell c0 (k := 10) rfl), .inr ((h0.up 2 rfl).cell c0 (k := 11) rfl), .inr ((h0.up 2 rfl).cell c0 (k := 12) rfl), .inr ((h0.up 2 rfl).cell c0 (k := 13) rfl), .inr ((h0.up 2 rfl).cell c0 (k := 14) rfl), .inr ((h0.up 2 rfl).cell c0 (k := 15) rfl), .inr ((h0.up 2 rfl).cell c0 (k := 16) rfl), .inr ((h0.up 2 rfl).cell c0 (k := 17) rfl), .inr (c0.cell 0 rfl rfl), .inr ((i0.up 2 rfl).cell c0 (k := 0) rfl), .inr ((i0.up 2 rfl).cell c0 (k := 1) rfl), .inr ((i0.up 2 rfl).cell c0 (k := 2) rfl), .inr ((i0.up 2 rfl).cell c0 (k := 3) rfl), .inr ((i0.up 2 rfl).cell c0 (k := 4) rfl), .inr ((i0.up 2 rfl).cell c0 (k := 5) rfl), .inr ((i0.up 2 rfl).cell c0 (k := 6) rfl), .inr ((i0.up 2 rfl).cell c0 (k := 7) rfl), .inr ((i0.up 2 rfl).cell c0 (k := 8) rfl), .inr ((i0.up 2 rfl).cell c0 (k := 9) rfl), .inr ((i0.up 2 rfl).cell c0 (k := 10) rfl), .inr ((i0.up 2 rfl).cell c0 (k := 11) rfl), .inr ((i0.up 2 rfl).cell c0 (k := 12) rfl), .inr ((i0.up 2 rfl).cell c0 (k := 13) rfl), .inr ((i0.up 2 rfl).cell c0 (k := 14) rfl), .inr ((i0.up 2 rfl).cell c0 (k := 15) rfl), .inr ((i0.up 2 rfl).cell c0 (k := 16) rfl), .inr ((i0.up 2 rfl).cell c0 (k := 17) rfl), trivial⟩ ?_
 have d2 := c0.drew
 refine wU [0, 2, 5, 7] ?_
 refine wS (.slice p.stages.a p.stages.n p.stages.k) rfl rfl rfl (fun w hF => Y_load rfl (Try.isAgg26 w) kr (hF 0 _ _ rfl)) ?_
 refine wS (.pointer (some ⟨d0, e0, none⟩)) rfl rfl rfl (fun w _ => Y_idx (a := p.stages.a) (i := ((i : Nat) : Int)) (len := p.stages.n) (cap := p.stages.k) rfl Try.runUnderlying26 Try.sizeOf61 kr kr b2) ?_
 refine wS (.agg (encStage a0).toArray) rfl rfl rfl (fun w hF => Y_loadF rfl (Try.isAgg61 w) (Try.sizeOf61 w) kr rfl ⟨hF 1 _ _ rfl, hF 2 _ _ rfl, hF 3 _ _ rfl, hF 4 _ _ rfl, hF 5 _ _ rfl, hF 6 _ _ rfl, hF 7 _ _ rfl, hF 8 _ _ rfl, hF 9 _ _ rfl, hF 10 _ _ rfl, hF 11 _ _ rfl, hF 12 _ _ rfl, hF 13 _ _ rfl, hF 14 _ _ rfl, hF 15 _ _ rfl, hF 16 _ _ rfl, hF 17 _ _ rfl, hF 18 _ _ rfl, trivial⟩) ?_
 refine wS (.slice q.stages.a q.stages.n q.stages.k) rfl rfl rfl (fun w hF => Y_load rfl (Try.isAgg26 w) kr (hF 19 _ _ rfl)) ?_
 refine wS (.pointer (some ⟨f0, g0, none⟩)) rfl rfl rfl (fun w _ => Y_idx (a := q.stages.a) (i := ((i : Nat) : Int)) (len := q.stages.n) (cap := q.stages.k) rfl Try.runUnderlying26 Try.sizeOf61 kr kr c2) ?_
 refine wS (.agg (encStage b0).toArray) rfl rfl rfl (fun w hF => Y_loadF rfl (Try.isAgg61 w) (Try.sizeOf61 w) kr rfl ⟨hF 20 _ _ rfl, hF 21 _ _ rfl, hF 22 _ _ rfl, hF 23 _ _ rfl, hF 24 _ _ rfl, hF 25 _ _ rfl, hF 26 _ _ rfl, hF 27 _ _ rfl, hF 28 _ _ rfl, hF 29 _ _ rfl, hF 30 _ _ rfl, hF 31 _ _ rfl, hF 32 _ _ rfl, hF 33 _ _ rfl, hF 34 _ _ rfl, hF 35 _ _ rfl, hF 36 _ _ rfl, hF 37 _ _ rfl, trivial⟩) ?_
 refine wO rfl ?_
 refine sF #[.agg (encStage a0).toArray, .agg (encStage b0).toArray] Try.call34 (Calls.mono (r19_stage W _ _ [] a0 b0 ⟨(RdT.flat ((hp.stagesD a0 (List.mem_of_getElem? p0)).weights.up 2 (by rfl))), (RdT.flat ((hp.stagesD a0 (List.mem_of_getElem? p0)).row.up 2 (by rfl))), (RdT.flat ((hp.stagesD a0 (List.mem_of_getElem? p0)).col.up 2 (by rfl))), (RdT.flat ((hp.stagesD a0 (List.mem_of_getElem? p0)).x.up 2 (by rfl))), (fun z hz => ((hp.stagesD a0 (List.mem_of_getElem? p0)).xD z hz).of_mem (mem_flat1 2 (by rfl))), (RdT.flat ((hp.stagesD a0 (List.mem_of_getElem? p0)).y.up 2 (by rfl))), (fun z hz => ((hp.stagesD a0 (List.mem_of_getElem? p0)).yD z hz).of_mem (mem_flat1 2 (by rfl))), (RdT.flat ((hp.stagesD a0 (List.mem_of_getElem? p0)).ops.up 2 (by rfl)))⟩ ⟨(RdT.flat ((hq.stagesD b0 (List.mem_of_getElem? q0)).weights.up 2 (by rfl))), (RdT.flat ((hq.stagesD b0 (List.mem_of_getElem? q0)).row.up 2 (by rfl))), (RdT.flat ((hq.stagesD b0 (List.mem_of_getElem? q0)).col.up 2 (by rfl))), (RdT.flat ((hq.stagesD b0 (List.mem_of_getElem? q0)).x.up 2 (by rfl))), (fun z hz => ((hq.stagesD b0 (List.mem_of_getElem? q0)).xD z hz).of_mem (mem_flat1 2 (by rfl))), (RdT.flat ((hq.stagesD b0 (List.mem_of_getElem? q0)).y.up 2 (by rfl))), (fun z hz => ((hq.stagesD b0 (List.mem_of_getElem? q0)).yD z hz).of_mem (mem_flat1 2 (by rfl))), (RdT.flat ((hq.stagesD b0 (List.mem_of_getElem? q0)).ops.up 2 (by rfl)))⟩ (Sat.flat d2)) ?_)
 rintro _ _ ⟨rfl, u1⟩
 refine ⟨_, rfl, ?_⟩
 have w0 := Sat.unflat u1; clear u1
 try dsimp only [List.set, List.eraseIdx, Value.cells] at w0
 refine nilO ⟨⟨.inr (w0.cell 1 rfl rfl), dI, dI, dI, dI, dI, dI, dI, dI, dI, dI, dI, dI, dI, dI, dI, dI, dI, dI, .inr (w0.cell 0 rfl rfl), dI, dI, dI, dI, dI, dI, dI, dI, dI, dI, dI, dI, dI, dI, dI, dI, dI, dI, trivial⟩, ?_⟩
 refine wU [11] ?_
 refine wN ?_
 refine thenK_n ?_
 rcases Classical.em (a0.v = b0.v) with e1 | e1
 ·refine cF _ (congrArg Bool.not (decide_eq_true e1)) ?_
  refine skipE <| blockK_n <| thenK_n <| regionE <| pu1 ?_
  refine sAdd ((i : Nat) : Int) 1 ?_
  refine pu1 <| nT ?_
  have v1 := (((w0.pick 2 rfl).pick 2 rfl).pick 2 rfl)
  try dsimp only [List.set, List.eraseIdx, Value.cells] at v1
  exact ⟨i + 1, od, alA, v1, om, take_eq_succ hE (map_at (f := Stage.v) p0) (map_at (f := Stage.v) q0) ‹_›⟩
 refine cT _ (congrArg Bool.not (decide_eq_false e1)) ?_
 refine sR <| pu1 <| nT ?_
 refine retE (blockK_r <| thenK_r <| tR <| thenK_r <| ?_)
 refine retT [.bool false] ?_
 have w1 := (((w0.pick 2 rfl).dropAt 1 rfl).dropAt 1 rfl)
 change Sat _ _ (H :: F) at w1
 exact ⟨by rw [decide_eq_false (fun h => ne_of_at (map_at (f := Stage.v) p0) (map_at (f := Stage.v) q0) ‹_› (congrArg JobV.stages h))]; rfl, w1⟩
end Go.Proofs.Ytcddcpaodcjecaa
