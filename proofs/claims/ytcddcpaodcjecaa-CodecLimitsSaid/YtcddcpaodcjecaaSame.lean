import Derived.Test.YtcddcpaodcjecaaDec
namespace Go.Proofs.Ytcddcpaodcjecaa
open Go Go.E
set_option linter.unusedVariables false
set_option linter.unusedSimpArgs false
set_option linter.unnecessarySimpa false
set_option maxRecDepth 100000
theorem r4_same (W w : World) (H : Chunk) (F : List Chunk) (ax : Option Addr) (nx kx : Nat) (x : List Int) (ay : Option Addr) (ny ky : Nat) (y : List Int) (hx : RdT encI 1 [H] ax nx kx x) (hy : RdT encI 1 [H] ay ny ky y) (hS : Sat W w (H :: F)) :
    Calls Try.prog 32 #[.slice ax nx kx, .slice ay ny ky] w fun e w' => e = .returned (.bool (decide (x = y))) ∧ Sat W w' (H :: F) := by
  have hl_x := hx.le; have hn_x := hx.len
  have hl_y := hy.le; have hn_y := hy.len
  refine callsE (n := 26) Try.func32 rfl rfl (Nat.le_of_ble_eq_true rfl) ?_
  refine seqE ?_
  refine regionE ?_
  refine p1 (by kernel_rfl) ?_
  refine nilO ?_
  refine thenK_n <| ?_
  refine seqE ?_
  refine seqE ?_
  refine regionE ?_
  refine p5 (by kernel_rfl) ?_
  refine nilO ?_
  refine thenK_n <| ?_
  by_cases hc_1 : (((nx : Nat) : Int) : Int) = ((ny : Nat) : Int)
  · refine cF ((((nx : Nat) : Int) : Int) != ((ny : Nat) : Int)) (bne_eq_false_iff_eq.2 hc_1) ?_
    refine skipE ?_
    refine thenK_n <| ?_
    refine seqE ?_
    refine seqE ?_
    refine regionE ?_
    refine p1 (by kernel_rfl) ?_
    refine nilO ?_
    refine thenK_n <| ?_
    refine blockE ?_
    refine loopE (γ := Nat) (fun i ρ w => AllAt ρ [(0, .slice ax nx kx), (1, .slice ay ny ky), (6, .slice ax nx kx), (7, .int .i64 ((nx : Nat) : Int)), (8, .slice ay ny ky), (9, .int .i64 ((ny : Nat) : Int)), (10, .bool ((((nx : Nat) : Int) : Int) != ((ny : Nat) : Int))), (5, .int .i64 ((i : Nat) : Int))] ∧ Sat W w (H :: F) ∧ i ≤ nx ∧ x.take i = y.take i) (fun i => nx - i) 0 ⟨⟨by kernel_rfl, by kernel_rfl, by kernel_rfl, by kernel_rfl, by kernel_rfl, by kernel_rfl, by kernel_rfl, by kernel_rfl, trivial⟩, hS, by omega, by simp⟩ ?_
    skip
    rintro i ρ w_2 ⟨hA, hS_3, hi, hE⟩
    refine cAnchor hA (fun ρ => ?_)
    clear hA
    refine seqE ?_
    refine seqE ?_
    refine regionE ?_
    refine p4 (by kernel_rfl) ?_
    refine nilO ?_
    refine thenK_n <| ?_
    by_cases hc_4 : (((i : Nat) : Int) : Int) < ((nx : Nat) : Int)
    · refine cT (decide ((((i : Nat) : Int) : Int) < ((nx : Nat) : Int))) (decide_eq_true hc_4) ?_
      refine skipE ?_
      refine thenK_n <| ?_
      refine seqE ?_
      refine blockE ?_
      refine seqE ?_
      obtain ⟨x_5, b_6, o_7, hx_8, hp_9, hq_10⟩ := RdT.elem hx ((i : Nat) : Int)
      rw [Int.toNat_natCast] at hx_8
      obtain ⟨x_11, b_12, o_13, hx_14, hp_15, hq_16⟩ := RdT.elem hy ((i : Nat) : Int)
      rw [Int.toNat_natCast] at hx_14
      refine drawE [] [(3, ⟨b_6, o_7, none⟩, .int .i64 x_5), (7, ⟨b_12, o_13, none⟩, .int .i64 x_11)] [(true, [0, 1]), (true, [2]), (true, [4, 5]), (true, [6]), (true, [3]), (true, [7]), (true, [8])] rfl (by kernel_rfl) ⟨.inr ((hp_9.up 0 rfl).cell hS_3 (k := 0) rfl), .inr ((hp_15.up 0 rfl).cell hS_3 (k := 0) rfl), trivial⟩ ?_
      have hS_17 := hS_3.drew
      refine wP [0, 1] rfl (by kernel_rfl) ?_
      refine wS (.pointer (some ⟨b_6, o_7, none⟩)) rfl rfl rfl (fun w _ => Y_idx (a := ax) (i := ((i : Nat) : Int)) (len := nx) (cap := kx) rfl Try.runUnderlying22 Try.sizeOf3 (by kernel_rfl) (by kernel_rfl) hq_10) ?_
      refine wP [4, 5] rfl (by kernel_rfl) ?_
      refine wS (.pointer (some ⟨b_12, o_13, none⟩)) rfl rfl rfl (fun w _ => Y_idx (a := ay) (i := ((i : Nat) : Int)) (len := ny) (cap := ky) rfl Try.runUnderlying22 Try.sizeOf3 (by kernel_rfl) (by kernel_rfl) hq_16) ?_
      refine wS (.int .i64 x_5) rfl rfl rfl (fun w hF => Y_load rfl (Try.isAgg3 w) (by kernel_rfl) (hF 0 _ _ rfl)) ?_
      refine wS (.int .i64 x_11) rfl rfl rfl (fun w hF => Y_load rfl (Try.isAgg3 w) (by kernel_rfl) (hF 1 _ _ rfl)) ?_
      refine wP [8] rfl (by kernel_rfl) ?_
      refine wN ?_
      refine thenK_n <| ?_
      by_cases hc_18 : (x_5 : Int) = x_11
      · refine cF ((x_5 : Int) != x_11) (bne_eq_false_iff_eq.2 hc_18) ?_
        refine skipE ?_
        refine blockK_n <| thenK_n <| ?_
        refine regionE ?_
        refine p1 (by kernel_rfl) ?_
        refine sAdd ((i : Nat) : Int) 1 ?_
        refine p1 (by kernel_rfl) ?_
        refine nilO ?_
        refine thenK_n <| ?_
        change Sat _ _ (H :: F) at hS_17
        change Sat _ _ (H :: F) at hS_17
        exact ⟨i + 1, by first | omega | (dsimp only; omega), ⟨by kernel_rfl, by kernel_rfl, by kernel_rfl, by kernel_rfl, by kernel_rfl, by kernel_rfl, by kernel_rfl, by kernel_rfl, trivial⟩, hS_17, by omega, take_eq_succ hE hx_8 hx_14 (by omega)⟩
      · refine cT ((x_5 : Int) != x_11) (bne_iff_ne.2 hc_18) ?_
        refine seqE ?_
        refine regionE ?_
        refine p1 (by kernel_rfl) ?_
        refine nilO ?_
        refine thenK_n <| ?_
        refine retE (blockK_r <| thenK_r <| thenK_r <| blockK_r <| thenK_r <| ?_)
        refine retN (vs := [.bool false]) rfl (.cons (.tmp _ _ (by kernel_rfl)) .nil) <| ?_
        change Sat _ _ (H :: F) at hS_17
        change Sat _ _ (H :: F) at hS_17
        exact ⟨by rw [decide_eq_false (ne_of_at hx_8 hx_14 (by omega))]; rfl, hS_17⟩
    · refine cF (decide ((((i : Nat) : Int) : Int) < ((nx : Nat) : Int))) (decide_eq_false hc_4) ?_
      refine exitE (thenK_x <| thenK_x <| blockK_x <| ?_)
      refine thenK_n <| ?_
      refine seqE ?_
      refine regionE ?_
      refine p1 (by kernel_rfl) ?_
      refine nilO ?_
      refine thenK_n <| ?_
      refine retE ?_
      refine retN (vs := [.bool true]) rfl (.cons (.tmp _ _ (by kernel_rfl)) .nil) <| ?_
      change Sat _ _ (H :: F) at hS_3
      change Sat _ _ (H :: F) at hS_3
      exact ⟨by rw [decide_eq_true (eq_of_take hE (by omega) (by omega))]; rfl, hS_3⟩
  · refine cT ((((nx : Nat) : Int) : Int) != ((ny : Nat) : Int)) (bne_iff_ne.2 hc_1) ?_
    refine seqE ?_
    refine regionE ?_
    refine p1 (by kernel_rfl) ?_
    refine nilO ?_
    refine thenK_n <| ?_
    refine retE (thenK_r <| ?_)
    refine retN (vs := [.bool false]) rfl (.cons (.tmp _ _ (by kernel_rfl)) .nil) <| ?_
    change Sat _ _ (H :: F) at hS
    change Sat _ _ (H :: F) at hS
    exact ⟨by rw [decide_eq_false (fun h => by have := congrArg List.length h; omega)]; rfl, hS⟩
theorem r4_equal (W w : World) (H : Chunk) (F : List Chunk) (p : Plane) (q : Plane) (hp : Plane.Ok [H] p) (hq : Plane.Ok [H] q) (hS : Sat W w (H :: F)) :
    Calls Try.prog 33 #[.agg #[.int .i64 p.w, .int .i64 p.h, .int .i64 p.max_, .slice p.pix.a p.pix.n p.pix.k], .agg #[.int .i64 q.w, .int .i64 q.h, .int .i64 q.max_, .slice q.pix.a q.pix.n q.pix.k]] w fun e w' => e = .returned (.bool (decide (p.v = q.v))) ∧ Sat W w' (H :: F) := by
  have hl_p_pix := hp.pix.le; have hn_p_pix := hp.pix.len
  have hl_q_pix := hq.pix.le; have hn_q_pix := hq.pix.len
  refine callsE (n := 31) Try.func33 rfl rfl (Nat.le_of_ble_eq_true rfl) ?_
  refine seqE ?_
  refine regionE ?_
  refine sBox hS (.agg #[.int .i64 p.w, .int .i64 p.h, .int .i64 p.max_, .slice p.pix.a p.pix.n p.pix.k]) #[.int .i64 p.w, .int .i64 p.h, .int .i64 p.max_, .slice p.pix.a p.pix.n p.pix.k] ?_
  intro b_1 w_2 hS_3
  refine sBox hS_3 (.agg #[.int .i64 q.w, .int .i64 q.h, .int .i64 q.max_, .slice q.pix.a q.pix.n q.pix.k]) #[.int .i64 q.w, .int .i64 q.h, .int .i64 q.max_, .slice q.pix.a q.pix.n q.pix.k] ?_
  intro b_4 w_5 hS_6
  refine p1 (by kernel_rfl) ?_
  refine nilO ?_
  refine thenK_n <| ?_
  refine seqE ?_
  refine regionE ?_
  refine p1 (by kernel_rfl) ?_
  refine sL hS_6 1 0 (.int .i64 p.w) (Try.isAgg3 _) ?_
  refine p1 (by kernel_rfl) ?_
  refine sL hS_6 0 0 (.int .i64 q.w) (Try.isAgg3 _) ?_
  refine p2 (by kernel_rfl) ?_
  by_cases hc_7 : (p.w : Int) = q.w
  · refine sFix 10 ((p.w : Int) == q.w) true (beq_iff_eq.2 hc_7) ?_
    refine p1 (by kernel_rfl) ?_
    refine guardYes rfl ⟨_, rfl, rfl, by kernel_rfl⟩ ?_
    refine sL hS_6 1 1 (.int .i64 p.h) (Try.isAgg3 _) ?_
    refine p1 (by kernel_rfl) ?_
    refine guardYes rfl ⟨_, rfl, rfl, by kernel_rfl⟩ ?_
    refine sL hS_6 0 1 (.int .i64 q.h) (Try.isAgg3 _) ?_
    refine p3 (by kernel_rfl) ?_
    by_cases hc_8 : (p.h : Int) = q.h
    · refine sFix 17 ((p.h : Int) == q.h) true (beq_iff_eq.2 hc_8) ?_
      refine p1 (by kernel_rfl) ?_
      refine guardYes rfl ⟨_, rfl, rfl, by kernel_rfl⟩ ?_
      refine sL hS_6 1 2 (.int .i64 p.max_) (Try.isAgg3 _) ?_
      refine p1 (by kernel_rfl) ?_
      refine guardYes rfl ⟨_, rfl, rfl, by kernel_rfl⟩ ?_
      refine sL hS_6 0 2 (.int .i64 q.max_) (Try.isAgg3 _) ?_
      refine p3 (by kernel_rfl) ?_
      by_cases hc_9 : (p.max_ : Int) = q.max_
      · refine sFix 24 ((p.max_ : Int) == q.max_) true (beq_iff_eq.2 hc_9) ?_
        refine p1 (by kernel_rfl) ?_
        refine guardYes rfl ⟨_, rfl, rfl, by kernel_rfl⟩ ?_
        refine sL hS_6 1 3 (.slice p.pix.a p.pix.n p.pix.k) (Try.isAgg22 _) ?_
        refine p1 (by kernel_rfl) ?_
        refine guardYes rfl ⟨_, rfl, rfl, by kernel_rfl⟩ ?_
        refine sL hS_6 0 3 (.slice q.pix.a q.pix.n q.pix.k) (Try.isAgg22 _) ?_
        refine guardYes rfl ⟨_, rfl, rfl, by kernel_rfl⟩ ?_
        refine sF #[.slice p.pix.a p.pix.n p.pix.k, .slice q.pix.a q.pix.n q.pix.k] Try.call32 (Calls.mono (r4_same W _ (List.flatten ([(b_4, .cells #[.int .i64 q.w, .int .i64 q.h, .int .i64 q.max_, .slice q.pix.a q.pix.n q.pix.k] 49 (0, 0))] :: [(b_1, .cells #[.int .i64 p.w, .int .i64 p.h, .int .i64 p.max_, .slice p.pix.a p.pix.n p.pix.k] 49 (0, 0))] :: H :: F)) [] p.pix.a p.pix.n p.pix.k p.pix.l q.pix.a q.pix.n q.pix.k q.pix.l (RdT.flat (cs := ([(b_4, .cells #[.int .i64 q.w, .int .i64 q.h, .int .i64 q.max_, .slice q.pix.a q.pix.n q.pix.k] 49 (0, 0))] :: [(b_1, .cells #[.int .i64 p.w, .int .i64 p.h, .int .i64 p.max_, .slice p.pix.a p.pix.n p.pix.k] 49 (0, 0))] :: H :: F)) (hp.pix.up 2 rfl)) (RdT.flat (cs := ([(b_4, .cells #[.int .i64 q.w, .int .i64 q.h, .int .i64 q.max_, .slice q.pix.a q.pix.n q.pix.k] 49 (0, 0))] :: [(b_1, .cells #[.int .i64 p.w, .int .i64 p.h, .int .i64 p.max_, .slice p.pix.a p.pix.n p.pix.k] 49 (0, 0))] :: H :: F)) (hq.pix.up 2 rfl)) hS_6.flat) ?_)
        rintro _ w_10 ⟨rfl, h_12⟩
        refine ⟨_, rfl, ?_⟩
        have hS_11 := Sat.unflat h_12; clear h_12
        try dsimp only [List.set, List.eraseIdx] at hS_11
        refine p2 (by kernel_rfl) ?_
        refine nilO ?_
        refine thenK_n <| ?_
        refine retE ?_
        refine retN (vs := [.bool (decide (p.pix.l = q.pix.l))]) rfl (.cons (.tmp _ _ (by kernel_rfl)) .nil) <| ?_
        have hS_13 := hS_11.pick 2 rfl
        try dsimp only [List.set, List.eraseIdx] at hS_13
        have hS_14 := hS_13.dropAt 1 rfl
        have hS_15 := hS_14.dropAt 1 rfl
        change Sat _ _ (H :: F) at hS_15
        refine ⟨congrArg (fun b => Ending.returned (.bool b)) ?_, hS_15⟩
        first | (rw [Bool.eq_iff_iff]; simp [Plane.v, *]; done) | (simp [Plane.v, *]; done) | (exact (decide_eq_false (fun h => by simp_all [Plane.v])).symm) | (exact (decide_eq_true (by simp_all [Plane.v])).symm)
      · refine sFix 24 ((p.max_ : Int) == q.max_) false (beq_eq_false_iff_ne.2 hc_9) ?_
        refine p7 (by kernel_rfl) ?_
        refine nilO ?_
        refine thenK_n <| ?_
        refine retE ?_
        refine retN (vs := [.bool false]) rfl (.cons (.tmp _ _ (by kernel_rfl)) .nil) <| ?_
        have hS_16 := hS_6.pick 2 rfl
        try dsimp only [List.set, List.eraseIdx] at hS_16
        have hS_17 := hS_16.dropAt 1 rfl
        have hS_18 := hS_17.dropAt 1 rfl
        change Sat _ _ (H :: F) at hS_18
        refine ⟨congrArg (fun b => Ending.returned (.bool b)) ?_, hS_18⟩
        first | (rw [Bool.eq_iff_iff]; simp [Plane.v, *]; done) | (simp [Plane.v, *]; done) | (exact (decide_eq_false (fun h => by simp_all [Plane.v])).symm) | (exact (decide_eq_true (by simp_all [Plane.v])).symm)
    · refine sFix 17 ((p.h : Int) == q.h) false (beq_eq_false_iff_ne.2 hc_8) ?_
      refine p14 (by kernel_rfl) ?_
      refine nilO ?_
      refine thenK_n <| ?_
      refine retE ?_
      refine retN (vs := [.bool false]) rfl (.cons (.tmp _ _ (by kernel_rfl)) .nil) <| ?_
      have hS_19 := hS_6.pick 2 rfl
      try dsimp only [List.set, List.eraseIdx] at hS_19
      have hS_20 := hS_19.dropAt 1 rfl
      have hS_21 := hS_20.dropAt 1 rfl
      change Sat _ _ (H :: F) at hS_21
      refine ⟨congrArg (fun b => Ending.returned (.bool b)) ?_, hS_21⟩
      first | (rw [Bool.eq_iff_iff]; simp [Plane.v, *]; done) | (simp [Plane.v, *]; done) | (exact (decide_eq_false (fun h => by simp_all [Plane.v])).symm) | (exact (decide_eq_true (by simp_all [Plane.v])).symm)
  · refine sFix 10 ((p.w : Int) == q.w) false (beq_eq_false_iff_ne.2 hc_7) ?_
    refine p16 (by kernel_rfl) ?_
    refine p5 (by kernel_rfl) ?_
    refine nilO ?_
    refine thenK_n <| ?_
    refine retE ?_
    refine retN (vs := [.bool false]) rfl (.cons (.tmp _ _ (by kernel_rfl)) .nil) <| ?_
    have hS_22 := hS_6.pick 2 rfl
    try dsimp only [List.set, List.eraseIdx] at hS_22
    have hS_23 := hS_22.dropAt 1 rfl
    have hS_24 := hS_23.dropAt 1 rfl
    change Sat _ _ (H :: F) at hS_24
    refine ⟨congrArg (fun b => Ending.returned (.bool b)) ?_, hS_24⟩
    first | (rw [Bool.eq_iff_iff]; simp [Plane.v, *]; done) | (simp [Plane.v, *]; done) | (exact (decide_eq_false (fun h => by simp_all [Plane.v])).symm) | (exact (decide_eq_true (by simp_all [Plane.v])).symm)
theorem r8_same (W w : World) (H : Chunk) (F : List Chunk) (ax : Option Addr) (nx kx : Nat) (x : List Tap) (ay : Option Addr) (ny ky : Nat) (y : List Tap) (hx : RdT encTap 2 [H] ax nx kx x) (dx : ∀ z ∈ x, Tap.Ok [H] z) (hy : RdT encTap 2 [H] ay ny ky y) (dy : ∀ z ∈ y, Tap.Ok [H] z) (hS : Sat W w (H :: F)) :
    Calls Try.prog 47 #[.slice ax nx kx, .slice ay ny ky] w fun e w' => e = .returned (.bool (decide (x.map Tap.v = y.map Tap.v))) ∧ Sat W w' (H :: F) := by
  have hl_x := hx.le; have hn_x := hx.len
  have hl_y := hy.le; have hn_y := hy.len
  refine callsE (n := 71) Try.func47 rfl rfl (Nat.le_of_ble_eq_true rfl) ?_
  refine seqE ?_
  refine regionE ?_
  refine p1 (by kernel_rfl) ?_
  refine nilO ?_
  refine thenK_n <| ?_
  refine seqE ?_
  refine seqE ?_
  refine regionE ?_
  refine p5 (by kernel_rfl) ?_
  refine nilO ?_
  refine thenK_n <| ?_
  by_cases hc_1 : (((nx : Nat) : Int) : Int) = ((ny : Nat) : Int)
  · refine cF ((((nx : Nat) : Int) : Int) != ((ny : Nat) : Int)) (bne_eq_false_iff_eq.2 hc_1) ?_
    refine skipE ?_
    refine thenK_n <| ?_
    refine seqE ?_
    refine seqE ?_
    refine regionE ?_
    refine p1 (by kernel_rfl) ?_
    refine nilO ?_
    refine thenK_n <| ?_
    refine blockE ?_
    refine loopE (γ := Nat) (fun i ρ w => AllAt ρ [(0, .slice ax nx kx), (1, .slice ay ny ky), (7, .slice ax nx kx), (8, .int .i64 ((nx : Nat) : Int)), (9, .slice ay ny ky), (10, .int .i64 ((ny : Nat) : Int)), (11, .bool ((((nx : Nat) : Int) : Int) != ((ny : Nat) : Int))), (5, .int .i64 ((i : Nat) : Int))] ∧ Sat W w (H :: F) ∧ i ≤ nx ∧ (x.map Tap.v).take i = (y.map Tap.v).take i) (fun i => nx - i) 0 ⟨⟨by kernel_rfl, by kernel_rfl, by kernel_rfl, by kernel_rfl, by kernel_rfl, by kernel_rfl, by kernel_rfl, by kernel_rfl, trivial⟩, hS, by omega, by simp⟩ ?_
    skip
    rintro i ρ w_2 ⟨hA, hS_3, hi, hE⟩
    refine cAnchor hA (fun ρ => ?_)
    clear hA
    refine seqE ?_
    refine seqE ?_
    refine regionE ?_
    refine p4 (by kernel_rfl) ?_
    refine nilO ?_
    refine thenK_n <| ?_
    by_cases hc_4 : (((i : Nat) : Int) : Int) < ((nx : Nat) : Int)
    · refine cT (decide ((((i : Nat) : Int) : Int) < ((nx : Nat) : Int))) (decide_eq_true hc_4) ?_
      refine skipE ?_
      refine thenK_n <| ?_
      refine seqE ?_
      refine blockE ?_
      refine seqE ?_
      refine seqE ?_
      obtain ⟨x_5, b_6, o_7, hx_8, hp_9, hq_10⟩ := RdT.elem hx ((i : Nat) : Int)
      rw [Int.toNat_natCast] at hx_8
      obtain ⟨x_11, b_12, o_13, hx_14, hp_15, hq_16⟩ := RdT.elem hy ((i : Nat) : Int)
      rw [Int.toNat_natCast] at hx_14
      by_cases hc_17 : (x_5.first : Int) = x_11.first
      · refine drawE [] [(4, ⟨b_6, o_7 + 0, none⟩, .int .i64 x_5.first), (9, ⟨b_12, o_13 + 0, none⟩, .int .i64 x_11.first), (16, ⟨b_6, o_7 + 1, none⟩, .slice x_5.weights.a x_5.weights.n x_5.weights.k), (22, ⟨b_12, o_13 + 1, none⟩, .slice x_11.weights.a x_11.weights.n x_11.weights.k)] [(true, [0, 1]), (true, [2]), (true, [3, 5, 6]), (true, [7]), (true, [8]), (true, [4]), (true, [9]), (true, [10, 11]), (true, [12, 13]), (true, [14]), (true, [15, 18, 19]), (true, [20]), (true, [21]), (true, [16]), (true, [17]), (true, [22]), (true, [23, 24, 25])] rfl (by kernel_rfl) ⟨.inr ((hp_9.up 0 rfl).cell hS_3 (k := 0) rfl), .inr ((hp_15.up 0 rfl).cell hS_3 (k := 0) rfl), .inr ((hp_9.up 0 rfl).cell hS_3 (k := 1) rfl), .inr ((hp_15.up 0 rfl).cell hS_3 (k := 1) rfl), trivial⟩ ?_
        have hS_18 := hS_3.drew
        refine wP [0, 1] rfl (by kernel_rfl) ?_
        refine wS (.pointer (some ⟨b_6, o_7, none⟩)) rfl rfl rfl (fun w _ => Y_idx (a := ax) (i := ((i : Nat) : Int)) (len := nx) (cap := kx) rfl Try.runUnderlying58 Try.sizeOf94 (by kernel_rfl) (by kernel_rfl) hq_10) ?_
        refine wP [3, 5, 6] rfl (by kernel_rfl) ?_
        refine wS (.pointer (some ⟨b_12, o_13, none⟩)) rfl rfl rfl (fun w _ => Y_idx (a := ay) (i := ((i : Nat) : Int)) (len := ny) (cap := ky) rfl Try.runUnderlying58 Try.sizeOf94 (by kernel_rfl) (by kernel_rfl) hq_16) ?_
        refine wP [8] rfl (by kernel_rfl) ?_
        refine wS (.int .i64 x_5.first) rfl rfl rfl (fun w hF => Y_load rfl (Try.isAgg3 w) (by kernel_rfl) (hF 0 _ _ rfl)) ?_
        refine wS (.int .i64 x_11.first) rfl rfl rfl (fun w hF => Y_load rfl (Try.isAgg3 w) (by kernel_rfl) (hF 1 _ _ rfl)) ?_
        refine wP [10, 11] rfl (by kernel_rfl) ?_
        refine wFix 29 ((x_5.first : Int) != x_11.first) false (bne_eq_false_iff_eq.2 hc_17) ?_
        refine wP [12, 13] rfl (by kernel_rfl) ?_
        refine wSg (.pointer (some ⟨b_6, o_7, none⟩)) rfl rfl rfl ⟨_, rfl, rfl, by kernel_rfl⟩ (fun w _ => Y_idx (a := ax) (i := ((i : Nat) : Int)) (len := nx) (cap := kx) rfl Try.runUnderlying58 Try.sizeOf94 (by kernel_rfl) (by kernel_rfl) hq_10) ?_
        refine wP [15, 18, 19] rfl (by kernel_rfl) ?_
        refine wSg (.pointer (some ⟨b_12, o_13, none⟩)) rfl rfl rfl ⟨_, rfl, rfl, by kernel_rfl⟩ (fun w _ => Y_idx (a := ay) (i := ((i : Nat) : Int)) (len := ny) (cap := ky) rfl Try.runUnderlying58 Try.sizeOf94 (by kernel_rfl) (by kernel_rfl) hq_16) ?_
        refine wP [21] rfl (by kernel_rfl) ?_
        refine wSg (.slice x_5.weights.a x_5.weights.n x_5.weights.k) rfl rfl rfl ⟨_, rfl, rfl, by kernel_rfl⟩ (fun w hF => Y_load rfl (Try.isAgg22 w) (by kernel_rfl) (hF 2 _ _ rfl)) ?_
        refine wP [17] rfl (by kernel_rfl) ?_
        refine wSg (.slice x_11.weights.a x_11.weights.n x_11.weights.k) rfl rfl rfl ⟨_, rfl, rfl, by kernel_rfl⟩ (fun w hF => Y_load rfl (Try.isAgg22 w) (by kernel_rfl) (hF 3 _ _ rfl)) ?_
        refine wP [23, 24, 25] rfl (by kernel_rfl) ?_
        refine wN ?_
        have hnw1 := (dx x_5 (List.mem_of_getElem? hx_8)).weights.len; have hnw2 := (dy x_11 (List.mem_of_getElem? hx_14)).weights.len; have hlw1 := (dx x_5 (List.mem_of_getElem? hx_8)).weights.le; have hlw2 := (dy x_11 (List.mem_of_getElem? hx_14)).weights.le
        refine thenK_n <| ?_
        by_cases hc_19 : (((x_5.weights.n : Nat) : Int) : Int) = ((x_11.weights.n : Nat) : Int)
        · refine cF ((((x_5.weights.n : Nat) : Int) : Int) != ((x_11.weights.n : Nat) : Int)) (bne_eq_false_iff_eq.2 hc_19) ?_
          refine skipE ?_
          refine thenK_n <| ?_
          refine seqE ?_
          refine regionE ?_
          refine p1 (by kernel_rfl) ?_
          refine nilO ?_
          refine thenK_n <| ?_
          refine blockE ?_
          refine loopE (γ := Nat) (fun j ρ w => AllAt ρ [(0, .slice ax nx kx), (1, .slice ay ny ky), (7, .slice ax nx kx), (8, .int .i64 ((nx : Nat) : Int)), (9, .slice ay ny ky), (10, .int .i64 ((ny : Nat) : Int)), (11, .bool ((((nx : Nat) : Int) : Int) != ((ny : Nat) : Int))), (5, .int .i64 ((i : Nat) : Int)), (12, .int .i64 ((i : Nat) : Int)), (13, .slice ax nx kx), (14, .int .i64 ((nx : Nat) : Int)), (15, .bool (decide ((((i : Nat) : Int) : Int) < ((nx : Nat) : Int)))), (18, .slice ax nx kx), (19, .int .i64 ((i : Nat) : Int)), (20, .pointer (some ⟨b_6, o_7, none⟩)), (21, .pointer (some ⟨b_6, o_7 + 0, none⟩)), (23, .slice ay ny ky), (24, .int .i64 ((i : Nat) : Int)), (25, .pointer (some ⟨b_12, o_13, none⟩)), (26, .pointer (some ⟨b_12, o_13 + 0, none⟩)), (22, .int .i64 x_5.first), (27, .int .i64 x_11.first), (28, .bool ((x_5.first : Int) != x_11.first)), (29, .bool false), (30, .slice ax nx kx), (31, .int .i64 ((i : Nat) : Int)), (32, .pointer (some ⟨b_6, o_7, none⟩)), (33, .pointer (some ⟨b_6, o_7 + 1, none⟩)), (36, .slice ay ny ky), (37, .int .i64 ((i : Nat) : Int)), (38, .pointer (some ⟨b_12, o_13, none⟩)), (39, .pointer (some ⟨b_12, o_13 + 1, none⟩)), (34, .slice x_5.weights.a x_5.weights.n x_5.weights.k), (35, .int .i64 ((x_5.weights.n : Nat) : Int)), (40, .slice x_11.weights.a x_11.weights.n x_11.weights.k), (41, .int .i64 ((x_11.weights.n : Nat) : Int)), (42, .bool ((((x_5.weights.n : Nat) : Int) : Int) != ((x_11.weights.n : Nat) : Int))), (43, .bool ((((x_5.weights.n : Nat) : Int) : Int) != ((x_11.weights.n : Nat) : Int))), (6, .int .i64 ((j : Nat) : Int))] ∧ Sat W w (H :: F) ∧ j ≤ x_5.weights.n ∧ x_5.weights.l.take j = x_11.weights.l.take j) (fun j => x_5.weights.n - j) 0 ⟨⟨by kernel_rfl, by kernel_rfl, by kernel_rfl, by kernel_rfl, by kernel_rfl, by kernel_rfl, by kernel_rfl, by kernel_rfl, by kernel_rfl, by kernel_rfl, by kernel_rfl, by kernel_rfl, by kernel_rfl, by kernel_rfl, by kernel_rfl, by kernel_rfl, by kernel_rfl, by kernel_rfl, by kernel_rfl, by kernel_rfl, by kernel_rfl, by kernel_rfl, by kernel_rfl, by kernel_rfl, by kernel_rfl, by kernel_rfl, by kernel_rfl, by kernel_rfl, by kernel_rfl, by kernel_rfl, by kernel_rfl, by kernel_rfl, by kernel_rfl, by kernel_rfl, by kernel_rfl, by kernel_rfl, by kernel_rfl, by kernel_rfl, by kernel_rfl, trivial⟩, hS_18, by omega, by simp⟩ ?_
          skip
          rintro j ρ w_20 ⟨hA, hS_21, hj, hE2⟩
          refine cAnchor hA (fun ρ => ?_)
          clear hA
          refine seqE ?_
          refine seqE ?_
          refine regionE ?_
          refine p3 (by kernel_rfl) ?_
          refine sIdx hx ((i : Nat) : Int) Try.runUnderlying58 Try.sizeOf94 ?_
          intro x_22 b_23 o_24 hx_25 hp_26
          rw [Int.toNat_natCast] at hx_25
          obtain rfl : x_5 = x_22 := Option.some.inj (hx_8.symm.trans hx_25)
          refine p1 (by kernel_rfl) ?_
          refine sLp hS_21 (hp_26.up 0 rfl) 1 (.slice x_5.weights.a x_5.weights.n x_5.weights.k) (Try.isAgg22 _) ?_
          refine p2 (by kernel_rfl) ?_
          refine nilO ?_
          refine thenK_n <| ?_
          by_cases hc_27 : (((j : Nat) : Int) : Int) < ((x_5.weights.n : Nat) : Int)
          · refine cT (decide ((((j : Nat) : Int) : Int) < ((x_5.weights.n : Nat) : Int))) (decide_eq_true hc_27) ?_
            refine skipE ?_
            refine thenK_n <| ?_
            refine seqE ?_
            refine blockE ?_
            refine seqE ?_
            obtain ⟨x_28, b_29, o_30, hx_31, hp_32, hq_33⟩ := RdT.elem hx ((i : Nat) : Int)
            rw [Int.toNat_natCast] at hx_31
            obtain rfl : x_5 = x_28 := Option.some.inj (hx_8.symm.trans hx_31)
            obtain ⟨x_34, b_35, o_36, hx_37, hp_38, hq_39⟩ := RdT.elem hy ((i : Nat) : Int)
            rw [Int.toNat_natCast] at hx_37
            obtain rfl : x_11 = x_34 := Option.some.inj (hx_14.symm.trans hx_37)
            obtain ⟨x_40, b_41, o_42, hx_43, hp_44, hq_45⟩ := RdT.elem (dx x_5 (List.mem_of_getElem? hx_31)).weights ((j : Nat) : Int)
            rw [Int.toNat_natCast] at hx_43
            obtain ⟨x_46, b_47, o_48, hx_49, hp_50, hq_51⟩ := RdT.elem (dy x_11 (List.mem_of_getElem? hx_37)).weights ((j : Nat) : Int)
            rw [Int.toNat_natCast] at hx_49
            refine drawE [] [(4, ⟨b_29, o_30 + 1, none⟩, .slice x_5.weights.a x_5.weights.n x_5.weights.k), (7, ⟨b_41, o_42, none⟩, .int .i64 x_40), (12, ⟨b_35, o_36 + 1, none⟩, .slice x_11.weights.a x_11.weights.n x_11.weights.k), (15, ⟨b_47, o_48, none⟩, .int .i64 x_46)] [(true, [0, 1]), (true, [2]), (true, [3, 5, 8, 9]), (true, [10]), (true, [11, 13]), (true, [4]), (true, [6]), (true, [7]), (true, [12]), (true, [14]), (true, [15]), (true, [16])] rfl (by kernel_rfl) ⟨.inr ((hp_32.up 0 rfl).cell hS_21 (k := 1) rfl), .inr ((hp_44.up 0 rfl).cell hS_21 (k := 0) rfl), .inr ((hp_38.up 0 rfl).cell hS_21 (k := 1) rfl), .inr ((hp_50.up 0 rfl).cell hS_21 (k := 0) rfl), trivial⟩ ?_
            have hS_52 := hS_21.drew
            refine wP [0, 1] rfl (by kernel_rfl) ?_
            refine wS (.pointer (some ⟨b_29, o_30, none⟩)) rfl rfl rfl (fun w _ => Y_idx (a := ax) (i := ((i : Nat) : Int)) (len := nx) (cap := kx) rfl Try.runUnderlying58 Try.sizeOf94 (by kernel_rfl) (by kernel_rfl) hq_33) ?_
            refine wP [3, 5, 8, 9] rfl (by kernel_rfl) ?_
            refine wS (.pointer (some ⟨b_35, o_36, none⟩)) rfl rfl rfl (fun w _ => Y_idx (a := ay) (i := ((i : Nat) : Int)) (len := ny) (cap := ky) rfl Try.runUnderlying58 Try.sizeOf94 (by kernel_rfl) (by kernel_rfl) hq_39) ?_
            refine wP [11, 13] rfl (by kernel_rfl) ?_
            refine wS (.slice x_5.weights.a x_5.weights.n x_5.weights.k) rfl rfl rfl (fun w hF => Y_load rfl (Try.isAgg22 w) (by kernel_rfl) (hF 0 _ _ rfl)) ?_
            refine wS (.pointer (some ⟨b_41, o_42, none⟩)) rfl rfl rfl (fun w _ => Y_idx (a := x_5.weights.a) (i := ((j : Nat) : Int)) (len := x_5.weights.n) (cap := x_5.weights.k) rfl Try.runUnderlying22 Try.sizeOf3 (by kernel_rfl) (by kernel_rfl) hq_45) ?_
            refine wS (.int .i64 x_40) rfl rfl rfl (fun w hF => Y_load rfl (Try.isAgg3 w) (by kernel_rfl) (hF 1 _ _ rfl)) ?_
            refine wS (.slice x_11.weights.a x_11.weights.n x_11.weights.k) rfl rfl rfl (fun w hF => Y_load rfl (Try.isAgg22 w) (by kernel_rfl) (hF 2 _ _ rfl)) ?_
            refine wS (.pointer (some ⟨b_47, o_48, none⟩)) rfl rfl rfl (fun w _ => Y_idx (a := x_11.weights.a) (i := ((j : Nat) : Int)) (len := x_11.weights.n) (cap := x_11.weights.k) rfl Try.runUnderlying22 Try.sizeOf3 (by kernel_rfl) (by kernel_rfl) hq_51) ?_
            refine wS (.int .i64 x_46) rfl rfl rfl (fun w hF => Y_load rfl (Try.isAgg3 w) (by kernel_rfl) (hF 3 _ _ rfl)) ?_
            refine wP [16] rfl (by kernel_rfl) ?_
            refine wN ?_
            refine thenK_n <| ?_
            by_cases hc_53 : (x_40 : Int) = x_46
            · refine cF ((x_40 : Int) != x_46) (bne_eq_false_iff_eq.2 hc_53) ?_
              refine skipE ?_
              refine blockK_n <| thenK_n <| ?_
              refine regionE ?_
              refine p1 (by kernel_rfl) ?_
              refine sAdd ((j : Nat) : Int) 1 ?_
              refine p1 (by kernel_rfl) ?_
              refine nilO ?_
              refine thenK_n <| ?_
              change Sat _ _ (H :: F) at hS_52
              change Sat _ _ (H :: F) at hS_52
              exact ⟨j + 1, by first | omega | (dsimp only; omega), ⟨by kernel_rfl, by kernel_rfl, by kernel_rfl, by kernel_rfl, by kernel_rfl, by kernel_rfl, by kernel_rfl, by kernel_rfl, by kernel_rfl, by kernel_rfl, by kernel_rfl, by kernel_rfl, by kernel_rfl, by kernel_rfl, by kernel_rfl, by kernel_rfl, by kernel_rfl, by kernel_rfl, by kernel_rfl, by kernel_rfl, by kernel_rfl, by kernel_rfl, by kernel_rfl, by kernel_rfl, by kernel_rfl, by kernel_rfl, by kernel_rfl, by kernel_rfl, by kernel_rfl, by kernel_rfl, by kernel_rfl, by kernel_rfl, by kernel_rfl, by kernel_rfl, by kernel_rfl, by kernel_rfl, by kernel_rfl, by kernel_rfl, by kernel_rfl, trivial⟩, hS_52, by omega, take_eq_succ hE2 hx_43 hx_49 (by omega)⟩
            · refine cT ((x_40 : Int) != x_46) (bne_iff_ne.2 hc_53) ?_
              refine seqE ?_
              refine regionE ?_
              refine p1 (by kernel_rfl) ?_
              refine nilO ?_
              refine thenK_n <| ?_
              refine retE (blockK_r <| thenK_r <| thenK_r <| blockK_r <| blockK_r <| thenK_r <| thenK_r <| blockK_r <| thenK_r <| ?_)
              refine retN (vs := [.bool false]) rfl (.cons (.tmp _ _ (by kernel_rfl)) .nil) <| ?_
              change Sat _ _ (H :: F) at hS_52
              change Sat _ _ (H :: F) at hS_52
              exact ⟨by rw [decide_eq_false (ne_of_at (map_at (f := Tap.v) hx_8) (map_at (f := Tap.v) hx_14) (by simp only [Tap.v, ne_eq, TapV.mk.injEq, not_and]; intro _; exact ne_of_at hx_43 hx_49 (by omega)))]; rfl, hS_52⟩
          · refine cF (decide ((((j : Nat) : Int) : Int) < ((x_5.weights.n : Nat) : Int))) (decide_eq_false hc_27) ?_
            refine exitE (thenK_x <| thenK_x <| blockK_x <| ?_)
            refine blockK_n <| thenK_n <| ?_
            refine regionE ?_
            refine p1 (by kernel_rfl) ?_
            refine sAdd ((i : Nat) : Int) 1 ?_
            refine p1 (by kernel_rfl) ?_
            refine nilO ?_
            refine thenK_n <| ?_
            change Sat _ _ (H :: F) at hS_21
            change Sat _ _ (H :: F) at hS_21
            exact ⟨i + 1, by first | omega | (dsimp only; omega), ⟨by kernel_rfl, by kernel_rfl, by kernel_rfl, by kernel_rfl, by kernel_rfl, by kernel_rfl, by kernel_rfl, by kernel_rfl, trivial⟩, hS_21, by omega, take_eq_succ hE (map_at (f := Tap.v) hx_8) (map_at (f := Tap.v) hx_14) (by simp only [Tap.v, TapV.mk.injEq]; exact ⟨by omega, eq_of_take hE2 (by omega) (by omega)⟩)⟩
        · refine cT ((((x_5.weights.n : Nat) : Int) : Int) != ((x_11.weights.n : Nat) : Int)) (bne_iff_ne.2 hc_19) ?_
          refine seqE ?_
          refine regionE ?_
          refine p1 (by kernel_rfl) ?_
          refine nilO ?_
          refine thenK_n <| ?_
          refine retE (thenK_r <| blockK_r <| thenK_r <| thenK_r <| blockK_r <| thenK_r <| ?_)
          refine retN (vs := [.bool false]) rfl (.cons (.tmp _ _ (by kernel_rfl)) .nil) <| ?_
          change Sat _ _ (H :: F) at hS_18
          change Sat _ _ (H :: F) at hS_18
          exact ⟨by rw [decide_eq_false (ne_of_at (map_at (f := Tap.v) hx_8) (map_at (f := Tap.v) hx_14) (by simp only [Tap.v, ne_eq, TapV.mk.injEq, not_and]; intro e1 e2; have e3 := congrArg List.length e2; omega))]; rfl, hS_18⟩
      · refine drawE [] [(4, ⟨b_6, o_7 + 0, none⟩, .int .i64 x_5.first), (9, ⟨b_12, o_13 + 0, none⟩, .int .i64 x_11.first)] [(true, [0, 1]), (true, [2]), (true, [3, 5, 6]), (true, [7]), (true, [8]), (true, [4]), (true, [9]), (true, [10, 11]), (true, [12, 13, 14, 15, 18, 19, 20, 21, 16, 17, 22, 23, 24, 25])] rfl (by kernel_rfl) ⟨.inr ((hp_9.up 0 rfl).cell hS_3 (k := 0) rfl), .inr ((hp_15.up 0 rfl).cell hS_3 (k := 0) rfl), trivial⟩ ?_
        have hS_54 := hS_3.drew
        refine wP [0, 1] rfl (by kernel_rfl) ?_
        refine wS (.pointer (some ⟨b_6, o_7, none⟩)) rfl rfl rfl (fun w _ => Y_idx (a := ax) (i := ((i : Nat) : Int)) (len := nx) (cap := kx) rfl Try.runUnderlying58 Try.sizeOf94 (by kernel_rfl) (by kernel_rfl) hq_10) ?_
        refine wP [3, 5, 6] rfl (by kernel_rfl) ?_
        refine wS (.pointer (some ⟨b_12, o_13, none⟩)) rfl rfl rfl (fun w _ => Y_idx (a := ay) (i := ((i : Nat) : Int)) (len := ny) (cap := ky) rfl Try.runUnderlying58 Try.sizeOf94 (by kernel_rfl) (by kernel_rfl) hq_16) ?_
        refine wP [8] rfl (by kernel_rfl) ?_
        refine wS (.int .i64 x_5.first) rfl rfl rfl (fun w hF => Y_load rfl (Try.isAgg3 w) (by kernel_rfl) (hF 0 _ _ rfl)) ?_
        refine wS (.int .i64 x_11.first) rfl rfl rfl (fun w hF => Y_load rfl (Try.isAgg3 w) (by kernel_rfl) (hF 1 _ _ rfl)) ?_
        refine wP [10, 11] rfl (by kernel_rfl) ?_
        refine wFix 29 ((x_5.first : Int) != x_11.first) true (bne_iff_ne.2 hc_17) ?_
        refine wP [12, 13, 14, 15, 18, 19, 20, 21, 16, 17, 22, 23, 24, 25] rfl (by kernel_rfl) ?_
        refine wN ?_
        have hnw1 := (dx x_5 (List.mem_of_getElem? hx_8)).weights.len; have hnw2 := (dy x_11 (List.mem_of_getElem? hx_14)).weights.len; have hlw1 := (dx x_5 (List.mem_of_getElem? hx_8)).weights.le; have hlw2 := (dy x_11 (List.mem_of_getElem? hx_14)).weights.le
        refine thenK_n <| ?_
        refine condE_true (by kernel_rfl) ?_
        refine seqE ?_
        refine regionE ?_
        refine p1 (by kernel_rfl) ?_
        refine nilO ?_
        refine thenK_n <| ?_
        refine retE (thenK_r <| blockK_r <| thenK_r <| thenK_r <| blockK_r <| thenK_r <| ?_)
        refine retN (vs := [.bool false]) rfl (.cons (.tmp _ _ (by kernel_rfl)) .nil) <| ?_
        change Sat _ _ (H :: F) at hS_54
        change Sat _ _ (H :: F) at hS_54
        exact ⟨by rw [decide_eq_false (ne_of_at (map_at (f := Tap.v) hx_8) (map_at (f := Tap.v) hx_14) (by simp only [Tap.v, ne_eq, TapV.mk.injEq, not_and]; intro e1 e2; have e3 := congrArg List.length e2; omega))]; rfl, hS_54⟩
    · refine cF (decide ((((i : Nat) : Int) : Int) < ((nx : Nat) : Int))) (decide_eq_false hc_4) ?_
      refine exitE (thenK_x <| thenK_x <| blockK_x <| ?_)
      refine thenK_n <| ?_
      refine seqE ?_
      refine regionE ?_
      refine p1 (by kernel_rfl) ?_
      refine nilO ?_
      refine thenK_n <| ?_
      refine retE ?_
      refine retN (vs := [.bool true]) rfl (.cons (.tmp _ _ (by kernel_rfl)) .nil) <| ?_
      change Sat _ _ (H :: F) at hS_3
      change Sat _ _ (H :: F) at hS_3
      exact ⟨by rw [decide_eq_true (eq_of_take hE (by simp; omega) (by simp; omega))]; rfl, hS_3⟩
  · refine cT ((((nx : Nat) : Int) : Int) != ((ny : Nat) : Int)) (bne_iff_ne.2 hc_1) ?_
    refine seqE ?_
    refine regionE ?_
    refine p1 (by kernel_rfl) ?_
    refine nilO ?_
    refine thenK_n <| ?_
    refine retE (thenK_r <| ?_)
    refine retN (vs := [.bool false]) rfl (.cons (.tmp _ _ (by kernel_rfl)) .nil) <| ?_
    change Sat _ _ (H :: F) at hS
    change Sat _ _ (H :: F) at hS
    exact ⟨by rw [decide_eq_false (fun h => by have := congrArg List.length h; simp at this; omega)]; rfl, hS⟩
theorem eqvn66 (w : World) (a0 a1 b0 b1 : Int) : ∀ x y, ((do eqGuard .neq 66 x y (.agg #[.int .i64 a0, .int .i64 a1]) (.agg #[.int .i64 b0, .int .i64 b1]); binOp .neq 66 (.agg #[.int .i64 a0, .int .i64 a1]) (.agg #[.int .i64 b0, .int .i64 b1])) : Sem Value).run Try.prog w = .ok (.bool (!((a0 == b0) && (a1 == b1)))) w := by
  intro x y
  simp [go_sem, run_eqGuard_agg, run_neq_struct, run_equalIn_agg]
  by_cases h0 : a0 = b0 <;> by_cases h1 : a1 = b1 <;> simp [*]
theorem eqve66 (w : World) (a0 a1 b0 b1 : Int) : ∀ x y, ((do eqGuard .eql 66 x y (.agg #[.int .i64 a0, .int .i64 a1]) (.agg #[.int .i64 b0, .int .i64 b1]); binOp .eql 66 (.agg #[.int .i64 a0, .int .i64 a1]) (.agg #[.int .i64 b0, .int .i64 b1])) : Sem Value).run Try.prog w = .ok (.bool ((a0 == b0) && (a1 == b1))) w := by
  intro x y
  simp [go_sem, run_eqGuard_agg, run_eql_struct, run_equalIn_agg]
  by_cases h0 : a0 = b0 <;> by_cases h1 : a1 = b1 <;> simp [*]
theorem eqvn57 (w : World) (a0 a1 b0 b1 : Int) : ∀ x y, ((do eqGuard .neq 57 x y (.agg #[.int .i64 a0, .int .i64 a1]) (.agg #[.int .i64 b0, .int .i64 b1]); binOp .neq 57 (.agg #[.int .i64 a0, .int .i64 a1]) (.agg #[.int .i64 b0, .int .i64 b1])) : Sem Value).run Try.prog w = .ok (.bool (!((a0 == b0) && (a1 == b1)))) w := by
  intro x y
  simp [go_sem, run_eqGuard_agg, run_neq_struct, run_equalIn_agg]
  by_cases h0 : a0 = b0 <;> by_cases h1 : a1 = b1 <;> simp [*]
theorem eqve57 (w : World) (a0 a1 b0 b1 : Int) : ∀ x y, ((do eqGuard .eql 57 x y (.agg #[.int .i64 a0, .int .i64 a1]) (.agg #[.int .i64 b0, .int .i64 b1]); binOp .eql 57 (.agg #[.int .i64 a0, .int .i64 a1]) (.agg #[.int .i64 b0, .int .i64 b1])) : Sem Value).run Try.prog w = .ok (.bool ((a0 == b0) && (a1 == b1))) w := by
  intro x y
  simp [go_sem, run_eqGuard_agg, run_eql_struct, run_equalIn_agg]
  by_cases h0 : a0 = b0 <;> by_cases h1 : a1 = b1 <;> simp [*]
theorem r19_stage (W w : World) (H : Chunk) (F : List Chunk) (p : Stage) (q : Stage) (hp : Stage.Ok [H] p) (hq : Stage.Ok [H] q) (hS : Sat W w (H :: F)) :
    Calls Try.prog 34 #[.agg #[.int .i64 p.kind, .int .i64 p.a, .int .i64 p.b, .bool p.barrier, .int .i64 p.edgePolicy, .int .i64 p.edgeFill, .int .i64 p.kW, .int .i64 p.kH, .slice p.weights.a p.weights.n p.weights.k, .slice p.row.a p.row.n p.row.k, .slice p.col.a p.col.n p.col.k, .int .i64 p.shift, .int .i64 p.shift2, .slice p.x.a p.x.n p.x.k, .slice p.y.a p.y.n p.y.k, .int .i64 p.bins, .slice p.ops.a p.ops.n p.ops.k, .int .i64 p.max_], .agg #[.int .i64 q.kind, .int .i64 q.a, .int .i64 q.b, .bool q.barrier, .int .i64 q.edgePolicy, .int .i64 q.edgeFill, .int .i64 q.kW, .int .i64 q.kH, .slice q.weights.a q.weights.n q.weights.k, .slice q.row.a q.row.n q.row.k, .slice q.col.a q.col.n q.col.k, .int .i64 q.shift, .int .i64 q.shift2, .slice q.x.a q.x.n q.x.k, .slice q.y.a q.y.n q.y.k, .int .i64 q.bins, .slice q.ops.a q.ops.n q.ops.k, .int .i64 q.max_]] w fun e w' => e = .returned (.bool (decide (p.v = q.v))) ∧ Sat W w' (H :: F) := by
  have hl_p_weights := hp.weights.le; have hn_p_weights := hp.weights.len
  have hl_p_row := hp.row.le; have hn_p_row := hp.row.len
  have hl_p_col := hp.col.le; have hn_p_col := hp.col.len
  have hl_p_x := hp.x.le; have hn_p_x := hp.x.len
  have hl_p_y := hp.y.le; have hn_p_y := hp.y.len
  have hl_p_ops := hp.ops.le; have hn_p_ops := hp.ops.len
  have hl_q_weights := hq.weights.le; have hn_q_weights := hq.weights.len
  have hl_q_row := hq.row.le; have hn_q_row := hq.row.len
  have hl_q_col := hq.col.le; have hn_q_col := hq.col.len
  have hl_q_x := hq.x.le; have hn_q_x := hq.x.len
  have hl_q_y := hq.y.le; have hn_q_y := hq.y.len
  have hl_q_ops := hq.ops.le; have hn_q_ops := hq.ops.len
  refine callsE (n := 141) Try.func34 rfl rfl (Nat.le_of_ble_eq_true rfl) ?_
  refine seqE ?_
  refine regionE ?_
  refine sBox hS (.agg #[.int .i64 p.kind, .int .i64 p.a, .int .i64 p.b, .bool p.barrier, .int .i64 p.edgePolicy, .int .i64 p.edgeFill, .int .i64 p.kW, .int .i64 p.kH, .slice p.weights.a p.weights.n p.weights.k, .slice p.row.a p.row.n p.row.k, .slice p.col.a p.col.n p.col.k, .int .i64 p.shift, .int .i64 p.shift2, .slice p.x.a p.x.n p.x.k, .slice p.y.a p.y.n p.y.k, .int .i64 p.bins, .slice p.ops.a p.ops.n p.ops.k, .int .i64 p.max_]) #[.int .i64 p.kind, .int .i64 p.a, .int .i64 p.b, .bool p.barrier, .int .i64 p.edgePolicy, .int .i64 p.edgeFill, .int .i64 p.kW, .int .i64 p.kH, .slice p.weights.a p.weights.n p.weights.k, .slice p.row.a p.row.n p.row.k, .slice p.col.a p.col.n p.col.k, .int .i64 p.shift, .int .i64 p.shift2, .slice p.x.a p.x.n p.x.k, .slice p.y.a p.y.n p.y.k, .int .i64 p.bins, .slice p.ops.a p.ops.n p.ops.k, .int .i64 p.max_] ?_
  intro b_1 w_2 hS_3
  refine sBox hS_3 (.agg #[.int .i64 q.kind, .int .i64 q.a, .int .i64 q.b, .bool q.barrier, .int .i64 q.edgePolicy, .int .i64 q.edgeFill, .int .i64 q.kW, .int .i64 q.kH, .slice q.weights.a q.weights.n q.weights.k, .slice q.row.a q.row.n q.row.k, .slice q.col.a q.col.n q.col.k, .int .i64 q.shift, .int .i64 q.shift2, .slice q.x.a q.x.n q.x.k, .slice q.y.a q.y.n q.y.k, .int .i64 q.bins, .slice q.ops.a q.ops.n q.ops.k, .int .i64 q.max_]) #[.int .i64 q.kind, .int .i64 q.a, .int .i64 q.b, .bool q.barrier, .int .i64 q.edgePolicy, .int .i64 q.edgeFill, .int .i64 q.kW, .int .i64 q.kH, .slice q.weights.a q.weights.n q.weights.k, .slice q.row.a q.row.n q.row.k, .slice q.col.a q.col.n q.col.k, .int .i64 q.shift, .int .i64 q.shift2, .slice q.x.a q.x.n q.x.k, .slice q.y.a q.y.n q.y.k, .int .i64 q.bins, .slice q.ops.a q.ops.n q.ops.k, .int .i64 q.max_] ?_
  intro b_4 w_5 hS_6
  refine p1 (by kernel_rfl) ?_
  refine nilO ?_
  refine thenK_n <| ?_
  refine seqE ?_
  refine seqE ?_
  refine regionE ?_
  refine p1 (by kernel_rfl) ?_
  refine sL hS_6 1 16 (.slice p.ops.a p.ops.n p.ops.k) (Try.isAgg59 _) ?_
  refine p2 (by kernel_rfl) ?_
  refine sL hS_6 0 16 (.slice q.ops.a q.ops.n q.ops.k) (Try.isAgg59 _) ?_
  refine p2 (by kernel_rfl) ?_
  refine nilO ?_
  refine thenK_n <| ?_
  by_cases hc_7 : (((p.ops.n : Nat) : Int) : Int) = ((q.ops.n : Nat) : Int)
  · refine cF ((((p.ops.n : Nat) : Int) : Int) != ((q.ops.n : Nat) : Int)) (bne_eq_false_iff_eq.2 hc_7) ?_
    refine skipE ?_
    refine thenK_n <| ?_
    refine seqE ?_
    refine seqE ?_
    refine regionE ?_
    refine p1 (by kernel_rfl) ?_
    refine nilO ?_
    refine thenK_n <| ?_
    refine blockE ?_
    refine loopE (γ := Nat) (fun i ρ w => AllAt ρ [(0, .agg #[.int .i64 p.kind, .int .i64 p.a, .int .i64 p.b, .bool p.barrier, .int .i64 p.edgePolicy, .int .i64 p.edgeFill, .int .i64 p.kW, .int .i64 p.kH, .slice p.weights.a p.weights.n p.weights.k, .slice p.row.a p.row.n p.row.k, .slice p.col.a p.col.n p.col.k, .int .i64 p.shift, .int .i64 p.shift2, .slice p.x.a p.x.n p.x.k, .slice p.y.a p.y.n p.y.k, .int .i64 p.bins, .slice p.ops.a p.ops.n p.ops.k, .int .i64 p.max_]), (1, .agg #[.int .i64 q.kind, .int .i64 q.a, .int .i64 q.b, .bool q.barrier, .int .i64 q.edgePolicy, .int .i64 q.edgeFill, .int .i64 q.kW, .int .i64 q.kH, .slice q.weights.a q.weights.n q.weights.k, .slice q.row.a q.row.n q.row.k, .slice q.col.a q.col.n q.col.k, .int .i64 q.shift, .int .i64 q.shift2, .slice q.x.a q.x.n q.x.k, .slice q.y.a q.y.n q.y.k, .int .i64 q.bins, .slice q.ops.a q.ops.n q.ops.k, .int .i64 q.max_]), (2, .pointer (some ⟨b_1, 0, none⟩)), (3, .pointer (some ⟨b_4, 0, none⟩)), (6, .pointer (some ⟨b_1, 16, none⟩)), (7, .slice p.ops.a p.ops.n p.ops.k), (8, .int .i64 ((p.ops.n : Nat) : Int)), (9, .pointer (some ⟨b_4, 16, none⟩)), (10, .slice q.ops.a q.ops.n q.ops.k), (11, .int .i64 ((q.ops.n : Nat) : Int)), (12, .bool ((((p.ops.n : Nat) : Int) : Int) != ((q.ops.n : Nat) : Int))), (5, .int .i64 ((i : Nat) : Int))] ∧ Sat W w ([(b_4, .cells #[.int .i64 q.kind, .int .i64 q.a, .int .i64 q.b, .bool q.barrier, .int .i64 q.edgePolicy, .int .i64 q.edgeFill, .int .i64 q.kW, .int .i64 q.kH, .slice q.weights.a q.weights.n q.weights.k, .slice q.row.a q.row.n q.row.k, .slice q.col.a q.col.n q.col.k, .int .i64 q.shift, .int .i64 q.shift2, .slice q.x.a q.x.n q.x.k, .slice q.y.a q.y.n q.y.k, .int .i64 q.bins, .slice q.ops.a q.ops.n q.ops.k, .int .i64 q.max_] 61 (0, 0))] :: [(b_1, .cells #[.int .i64 p.kind, .int .i64 p.a, .int .i64 p.b, .bool p.barrier, .int .i64 p.edgePolicy, .int .i64 p.edgeFill, .int .i64 p.kW, .int .i64 p.kH, .slice p.weights.a p.weights.n p.weights.k, .slice p.row.a p.row.n p.row.k, .slice p.col.a p.col.n p.col.k, .int .i64 p.shift, .int .i64 p.shift2, .slice p.x.a p.x.n p.x.k, .slice p.y.a p.y.n p.y.k, .int .i64 p.bins, .slice p.ops.a p.ops.n p.ops.k, .int .i64 p.max_] 61 (0, 0))] :: H :: F) ∧ i ≤ p.ops.n ∧ p.ops.l.take i = q.ops.l.take i) (fun i => p.ops.n - i) 0 ⟨⟨by kernel_rfl, by kernel_rfl, by kernel_rfl, by kernel_rfl, by kernel_rfl, by kernel_rfl, by kernel_rfl, by kernel_rfl, by kernel_rfl, by kernel_rfl, by kernel_rfl, by kernel_rfl, trivial⟩, hS_6, by omega, by simp⟩ ?_
    skip
    rintro i ρ w_8 ⟨hA, hS_9, hi, hE⟩
    refine cAnchor hA (fun ρ => ?_)
    clear hA
    refine seqE ?_
    refine seqE ?_
    refine regionE ?_
    refine p2 (by kernel_rfl) ?_
    refine sL hS_9 1 16 (.slice p.ops.a p.ops.n p.ops.k) (Try.isAgg59 _) ?_
    refine p2 (by kernel_rfl) ?_
    refine nilO ?_
    refine thenK_n <| ?_
    by_cases hc_10 : (((i : Nat) : Int) : Int) < ((p.ops.n : Nat) : Int)
    · refine cT (decide ((((i : Nat) : Int) : Int) < ((p.ops.n : Nat) : Int))) (decide_eq_true hc_10) ?_
      refine skipE ?_
      refine thenK_n <| ?_
      refine seqE ?_
      refine blockE ?_
      refine seqE ?_
      obtain ⟨x_11, b_12, o_13, hx_14, hp_15, hq_16⟩ := RdT.elem hp.ops ((i : Nat) : Int)
      rw [Int.toNat_natCast] at hx_14
      obtain ⟨x_17, b_18, o_19, hx_20, hp_21, hq_22⟩ := RdT.elem hq.ops ((i : Nat) : Int)
      rw [Int.toNat_natCast] at hx_20
      refine drawE [] [(1, ⟨b_1, 16, none⟩, .slice p.ops.a p.ops.n p.ops.k), (4, ⟨b_12, o_13 + 0, none⟩, .int .i64 x_11.code), (4, ⟨b_12, o_13 + 1, none⟩, .int .i64 x_11.arg), (6, ⟨b_4, 16, none⟩, .slice q.ops.a q.ops.n q.ops.k), (9, ⟨b_18, o_19 + 0, none⟩, .int .i64 x_17.code), (9, ⟨b_18, o_19 + 1, none⟩, .int .i64 x_17.arg)] [(true, [0, 2, 5, 7]), (true, [1]), (true, [3]), (true, [4]), (true, [6]), (true, [8]), (true, [9]), (true, [10])] rfl (by kernel_rfl) ⟨.inr (hS_9.cell 1 rfl rfl), .inr ((hp_15.up 2 rfl).cell hS_9 (k := 0) rfl), .inr ((hp_15.up 2 rfl).cell hS_9 (k := 1) rfl), .inr (hS_9.cell 0 rfl rfl), .inr ((hp_21.up 2 rfl).cell hS_9 (k := 0) rfl), .inr ((hp_21.up 2 rfl).cell hS_9 (k := 1) rfl), trivial⟩ ?_
      have hS_23 := hS_9.drew
      refine wP [0, 2, 5, 7] rfl (by kernel_rfl) ?_
      refine wS (.slice p.ops.a p.ops.n p.ops.k) rfl rfl rfl (fun w hF => Y_load rfl (Try.isAgg59 w) (by kernel_rfl) (hF 0 _ _ rfl)) ?_
      refine wS (.pointer (some ⟨b_12, o_13, none⟩)) rfl rfl rfl (fun w _ => Y_idx (a := p.ops.a) (i := ((i : Nat) : Int)) (len := p.ops.n) (cap := p.ops.k) rfl Try.runUnderlying59 Try.sizeOf66 (by kernel_rfl) (by kernel_rfl) hq_16) ?_
      refine wS (.agg #[.int .i64 x_11.code, .int .i64 x_11.arg]) rfl rfl rfl (fun w hF => Y_loadF rfl (Try.isAgg66 w) (Try.sizeOf66 w) (by kernel_rfl) rfl ⟨hF 1 _ _ rfl, hF 2 _ _ rfl, trivial⟩) ?_
      refine wS (.slice q.ops.a q.ops.n q.ops.k) rfl rfl rfl (fun w hF => Y_load rfl (Try.isAgg59 w) (by kernel_rfl) (hF 3 _ _ rfl)) ?_
      refine wS (.pointer (some ⟨b_18, o_19, none⟩)) rfl rfl rfl (fun w _ => Y_idx (a := q.ops.a) (i := ((i : Nat) : Int)) (len := q.ops.n) (cap := q.ops.k) rfl Try.runUnderlying59 Try.sizeOf66 (by kernel_rfl) (by kernel_rfl) hq_22) ?_
      refine wS (.agg #[.int .i64 x_17.code, .int .i64 x_17.arg]) rfl rfl rfl (fun w hF => Y_loadF rfl (Try.isAgg66 w) (Try.sizeOf66 w) (by kernel_rfl) rfl ⟨hF 4 _ _ rfl, hF 5 _ _ rfl, trivial⟩) ?_
      refine wS (.bool (!(((x_11.code : Int) == x_17.code) && ((x_11.arg : Int) == x_17.arg)))) rfl rfl rfl (fun w _ => Y_eqS rfl (by kernel_rfl) (by kernel_rfl) (eqvn66 _ x_11.code x_11.arg x_17.code x_17.arg)) ?_
      refine wN ?_
      refine thenK_n <| ?_
      rcases Classical.em ((x_11.code : Int) = x_17.code ∧ (x_11.arg : Int) = x_17.arg) with hc_24 | hc_24
      · refine cF (!(((x_11.code : Int) == x_17.code) && ((x_11.arg : Int) == x_17.arg))) (congrArg Bool.not (show (((x_11.code : Int) == x_17.code) && ((x_11.arg : Int) == x_17.arg)) = true from by simpa using hc_24)) ?_
        refine skipE ?_
        refine blockK_n <| thenK_n <| ?_
        refine regionE ?_
        refine p1 (by kernel_rfl) ?_
        refine sAdd ((i : Nat) : Int) 1 ?_
        refine p1 (by kernel_rfl) ?_
        refine nilO ?_
        refine thenK_n <| ?_
        have hS_25 := hS_23.pick 2 rfl
        have hS_26 := hS_25.pick 2 rfl
        have hS_27 := hS_26.pick 2 rfl
        try dsimp only [List.set, List.eraseIdx] at hS_27
        try dsimp only [List.set, List.eraseIdx] at hS_27
        exact ⟨i + 1, by first | omega | (dsimp only; omega), ⟨by kernel_rfl, by kernel_rfl, by kernel_rfl, by kernel_rfl, by kernel_rfl, by kernel_rfl, by kernel_rfl, by kernel_rfl, by kernel_rfl, by kernel_rfl, by kernel_rfl, by kernel_rfl, trivial⟩, hS_27, by omega, take_eq_succ hE hx_14 hx_20 (by cases x_11; cases x_17; simp_all)⟩
      · refine cT (!(((x_11.code : Int) == x_17.code) && ((x_11.arg : Int) == x_17.arg))) (congrArg Bool.not (show (((x_11.code : Int) == x_17.code) && ((x_11.arg : Int) == x_17.arg)) = false from by simpa using hc_24)) ?_
        refine seqE ?_
        refine regionE ?_
        refine p1 (by kernel_rfl) ?_
        refine nilO ?_
        refine thenK_n <| ?_
        refine retE (blockK_r <| thenK_r <| thenK_r <| blockK_r <| thenK_r <| ?_)
        refine retN (vs := [.bool false]) rfl (.cons (.tmp _ _ (by kernel_rfl)) .nil) <| ?_
        have hS_28 := hS_23.pick 2 rfl
        try dsimp only [List.set, List.eraseIdx] at hS_28
        have hS_29 := hS_28.dropAt 1 rfl
        have hS_30 := hS_29.dropAt 1 rfl
        change Sat _ _ (H :: F) at hS_30
        exact ⟨by rw [decide_eq_false (fun h => ne_of_at hx_14 hx_20 (by intro h; subst h; simp_all) (congrArg StageV.ops h))]; rfl, hS_30⟩
    · refine cF (decide ((((i : Nat) : Int) : Int) < ((p.ops.n : Nat) : Int))) (decide_eq_false hc_10) ?_
      refine exitE (thenK_x <| thenK_x <| blockK_x <| ?_)
      refine thenK_n <| ?_
      refine seqE ?_
      have hops : p.ops.l = q.ops.l := eq_of_take hE (by omega) (by omega)
      refine regionE ?_
      refine p1 (by kernel_rfl) ?_
      refine sL hS_9 1 0 (.int .i64 p.kind) (Try.isAgg3 _) ?_
      refine p1 (by kernel_rfl) ?_
      refine sL hS_9 0 0 (.int .i64 q.kind) (Try.isAgg3 _) ?_
      refine p2 (by kernel_rfl) ?_
      by_cases hc_31 : (p.kind : Int) = q.kind
      · refine sFix 36 ((p.kind : Int) == q.kind) true (beq_iff_eq.2 hc_31) ?_
        refine p1 (by kernel_rfl) ?_
        refine guardYes rfl ⟨_, rfl, rfl, by kernel_rfl⟩ ?_
        refine sL hS_9 1 1 (.int .i64 p.a) (Try.isAgg3 _) ?_
        refine p1 (by kernel_rfl) ?_
        refine guardYes rfl ⟨_, rfl, rfl, by kernel_rfl⟩ ?_
        refine sL hS_9 0 1 (.int .i64 q.a) (Try.isAgg3 _) ?_
        refine p3 (by kernel_rfl) ?_
        by_cases hc_32 : (p.a : Int) = q.a
        · refine sFix 43 ((p.a : Int) == q.a) true (beq_iff_eq.2 hc_32) ?_
          refine p1 (by kernel_rfl) ?_
          refine guardYes rfl ⟨_, rfl, rfl, by kernel_rfl⟩ ?_
          refine sL hS_9 1 2 (.int .i64 p.b) (Try.isAgg3 _) ?_
          refine p1 (by kernel_rfl) ?_
          refine guardYes rfl ⟨_, rfl, rfl, by kernel_rfl⟩ ?_
          refine sL hS_9 0 2 (.int .i64 q.b) (Try.isAgg3 _) ?_
          refine p3 (by kernel_rfl) ?_
          by_cases hc_33 : (p.b : Int) = q.b
          · refine sFix 50 ((p.b : Int) == q.b) true (beq_iff_eq.2 hc_33) ?_
            refine p1 (by kernel_rfl) ?_
            refine guardYes rfl ⟨_, rfl, rfl, by kernel_rfl⟩ ?_
            refine sL hS_9 1 3 (.bool p.barrier) (Try.isAgg4 _) ?_
            refine p1 (by kernel_rfl) ?_
            refine guardYes rfl ⟨_, rfl, rfl, by kernel_rfl⟩ ?_
            refine sL hS_9 0 3 (.bool q.barrier) (Try.isAgg4 _) ?_
            refine p3 (by kernel_rfl) ?_
            rcases bool_em p.barrier q.barrier with hc_34 | hc_34
            · refine sFix 57 (p.barrier == q.barrier) true (show (p.barrier == q.barrier) = true from by simpa using hc_34) ?_
              refine p1 (by kernel_rfl) ?_
              refine guardYes rfl ⟨_, rfl, rfl, by kernel_rfl⟩ ?_
              refine sLA hS_9 1 4 [.int .i64 p.edgePolicy, .int .i64 p.edgeFill] (Try.isAgg57 _) (Try.sizeOf57 _) ?_
              refine p1 (by kernel_rfl) ?_
              refine guardYes rfl ⟨_, rfl, rfl, by kernel_rfl⟩ ?_
              refine sLA hS_9 0 4 [.int .i64 q.edgePolicy, .int .i64 q.edgeFill] (Try.isAgg57 _) (Try.sizeOf57 _) ?_
              refine guardYes rfl ⟨_, rfl, rfl, by kernel_rfl⟩ ?_
              refine stepY (.bool (((p.edgePolicy : Int) == q.edgePolicy) && ((p.edgeFill : Int) == q.edgeFill))) rfl rfl (Y_eqS rfl (by kernel_rfl) (by kernel_rfl) (eqve57 _ p.edgePolicy p.edgeFill q.edgePolicy q.edgeFill)) ?_
              refine p2 (by kernel_rfl) ?_
              rcases Classical.em ((p.edgePolicy : Int) = q.edgePolicy ∧ (p.edgeFill : Int) = q.edgeFill) with hc_35 | hc_35
              · refine sFix 64 (((p.edgePolicy : Int) == q.edgePolicy) && ((p.edgeFill : Int) == q.edgeFill)) true (show (((p.edgePolicy : Int) == q.edgePolicy) && ((p.edgeFill : Int) == q.edgeFill)) = true from by simpa using hc_35) ?_
                refine p1 (by kernel_rfl) ?_
                refine guardYes rfl ⟨_, rfl, rfl, by kernel_rfl⟩ ?_
                refine sL hS_9 1 6 (.int .i64 p.kW) (Try.isAgg3 _) ?_
                refine p1 (by kernel_rfl) ?_
                refine guardYes rfl ⟨_, rfl, rfl, by kernel_rfl⟩ ?_
                refine sL hS_9 0 6 (.int .i64 q.kW) (Try.isAgg3 _) ?_
                refine p3 (by kernel_rfl) ?_
                by_cases hc_36 : (p.kW : Int) = q.kW
                · refine sFix 71 ((p.kW : Int) == q.kW) true (beq_iff_eq.2 hc_36) ?_
                  refine p1 (by kernel_rfl) ?_
                  refine guardYes rfl ⟨_, rfl, rfl, by kernel_rfl⟩ ?_
                  refine sL hS_9 1 7 (.int .i64 p.kH) (Try.isAgg3 _) ?_
                  refine p1 (by kernel_rfl) ?_
                  refine guardYes rfl ⟨_, rfl, rfl, by kernel_rfl⟩ ?_
                  refine sL hS_9 0 7 (.int .i64 q.kH) (Try.isAgg3 _) ?_
                  refine p3 (by kernel_rfl) ?_
                  by_cases hc_37 : (p.kH : Int) = q.kH
                  · refine sFix 78 ((p.kH : Int) == q.kH) true (beq_iff_eq.2 hc_37) ?_
                    refine p1 (by kernel_rfl) ?_
                    refine guardYes rfl ⟨_, rfl, rfl, by kernel_rfl⟩ ?_
                    refine sL hS_9 1 8 (.slice p.weights.a p.weights.n p.weights.k) (Try.isAgg22 _) ?_
                    refine p1 (by kernel_rfl) ?_
                    refine guardYes rfl ⟨_, rfl, rfl, by kernel_rfl⟩ ?_
                    refine sL hS_9 0 8 (.slice q.weights.a q.weights.n q.weights.k) (Try.isAgg22 _) ?_
                    refine guardYes rfl ⟨_, rfl, rfl, by kernel_rfl⟩ ?_
                    refine sF #[.slice p.weights.a p.weights.n p.weights.k, .slice q.weights.a q.weights.n q.weights.k] Try.call32 (Calls.mono (r4_same W _ (List.flatten ([(b_4, .cells #[.int .i64 q.kind, .int .i64 q.a, .int .i64 q.b, .bool q.barrier, .int .i64 q.edgePolicy, .int .i64 q.edgeFill, .int .i64 q.kW, .int .i64 q.kH, .slice q.weights.a q.weights.n q.weights.k, .slice q.row.a q.row.n q.row.k, .slice q.col.a q.col.n q.col.k, .int .i64 q.shift, .int .i64 q.shift2, .slice q.x.a q.x.n q.x.k, .slice q.y.a q.y.n q.y.k, .int .i64 q.bins, .slice q.ops.a q.ops.n q.ops.k, .int .i64 q.max_] 61 (0, 0))] :: [(b_1, .cells #[.int .i64 p.kind, .int .i64 p.a, .int .i64 p.b, .bool p.barrier, .int .i64 p.edgePolicy, .int .i64 p.edgeFill, .int .i64 p.kW, .int .i64 p.kH, .slice p.weights.a p.weights.n p.weights.k, .slice p.row.a p.row.n p.row.k, .slice p.col.a p.col.n p.col.k, .int .i64 p.shift, .int .i64 p.shift2, .slice p.x.a p.x.n p.x.k, .slice p.y.a p.y.n p.y.k, .int .i64 p.bins, .slice p.ops.a p.ops.n p.ops.k, .int .i64 p.max_] 61 (0, 0))] :: H :: F)) [] p.weights.a p.weights.n p.weights.k p.weights.l q.weights.a q.weights.n q.weights.k q.weights.l (RdT.flat (cs := ([(b_4, .cells #[.int .i64 q.kind, .int .i64 q.a, .int .i64 q.b, .bool q.barrier, .int .i64 q.edgePolicy, .int .i64 q.edgeFill, .int .i64 q.kW, .int .i64 q.kH, .slice q.weights.a q.weights.n q.weights.k, .slice q.row.a q.row.n q.row.k, .slice q.col.a q.col.n q.col.k, .int .i64 q.shift, .int .i64 q.shift2, .slice q.x.a q.x.n q.x.k, .slice q.y.a q.y.n q.y.k, .int .i64 q.bins, .slice q.ops.a q.ops.n q.ops.k, .int .i64 q.max_] 61 (0, 0))] :: [(b_1, .cells #[.int .i64 p.kind, .int .i64 p.a, .int .i64 p.b, .bool p.barrier, .int .i64 p.edgePolicy, .int .i64 p.edgeFill, .int .i64 p.kW, .int .i64 p.kH, .slice p.weights.a p.weights.n p.weights.k, .slice p.row.a p.row.n p.row.k, .slice p.col.a p.col.n p.col.k, .int .i64 p.shift, .int .i64 p.shift2, .slice p.x.a p.x.n p.x.k, .slice p.y.a p.y.n p.y.k, .int .i64 p.bins, .slice p.ops.a p.ops.n p.ops.k, .int .i64 p.max_] 61 (0, 0))] :: H :: F)) (hp.weights.up 2 rfl)) (RdT.flat (cs := ([(b_4, .cells #[.int .i64 q.kind, .int .i64 q.a, .int .i64 q.b, .bool q.barrier, .int .i64 q.edgePolicy, .int .i64 q.edgeFill, .int .i64 q.kW, .int .i64 q.kH, .slice q.weights.a q.weights.n q.weights.k, .slice q.row.a q.row.n q.row.k, .slice q.col.a q.col.n q.col.k, .int .i64 q.shift, .int .i64 q.shift2, .slice q.x.a q.x.n q.x.k, .slice q.y.a q.y.n q.y.k, .int .i64 q.bins, .slice q.ops.a q.ops.n q.ops.k, .int .i64 q.max_] 61 (0, 0))] :: [(b_1, .cells #[.int .i64 p.kind, .int .i64 p.a, .int .i64 p.b, .bool p.barrier, .int .i64 p.edgePolicy, .int .i64 p.edgeFill, .int .i64 p.kW, .int .i64 p.kH, .slice p.weights.a p.weights.n p.weights.k, .slice p.row.a p.row.n p.row.k, .slice p.col.a p.col.n p.col.k, .int .i64 p.shift, .int .i64 p.shift2, .slice p.x.a p.x.n p.x.k, .slice p.y.a p.y.n p.y.k, .int .i64 p.bins, .slice p.ops.a p.ops.n p.ops.k, .int .i64 p.max_] 61 (0, 0))] :: H :: F)) (hq.weights.up 2 rfl)) hS_9.flat) ?_)
                    rintro _ w_38 ⟨rfl, h_40⟩
                    refine ⟨_, rfl, ?_⟩
                    have hS_39 := Sat.unflat h_40; clear h_40
                    try dsimp only [List.set, List.eraseIdx] at hS_39
                    refine p2 (by kernel_rfl) ?_
                    rcases Classical.em (p.weights.l = q.weights.l) with hc_41 | hc_41
                    · refine sFix 85 (decide (p.weights.l = q.weights.l)) true (decide_eq_true hc_41) ?_
                      refine p1 (by kernel_rfl) ?_
                      refine guardYes rfl ⟨_, rfl, rfl, by kernel_rfl⟩ ?_
                      refine sL hS_39 1 9 (.slice p.row.a p.row.n p.row.k) (Try.isAgg22 _) ?_
                      refine p1 (by kernel_rfl) ?_
                      refine guardYes rfl ⟨_, rfl, rfl, by kernel_rfl⟩ ?_
                      refine sL hS_39 0 9 (.slice q.row.a q.row.n q.row.k) (Try.isAgg22 _) ?_
                      refine guardYes rfl ⟨_, rfl, rfl, by kernel_rfl⟩ ?_
                      refine sF #[.slice p.row.a p.row.n p.row.k, .slice q.row.a q.row.n q.row.k] Try.call32 (Calls.mono (r4_same W _ (List.flatten ([(b_4, .cells #[.int .i64 q.kind, .int .i64 q.a, .int .i64 q.b, .bool q.barrier, .int .i64 q.edgePolicy, .int .i64 q.edgeFill, .int .i64 q.kW, .int .i64 q.kH, .slice q.weights.a q.weights.n q.weights.k, .slice q.row.a q.row.n q.row.k, .slice q.col.a q.col.n q.col.k, .int .i64 q.shift, .int .i64 q.shift2, .slice q.x.a q.x.n q.x.k, .slice q.y.a q.y.n q.y.k, .int .i64 q.bins, .slice q.ops.a q.ops.n q.ops.k, .int .i64 q.max_] 61 (0, 0))] :: [(b_1, .cells #[.int .i64 p.kind, .int .i64 p.a, .int .i64 p.b, .bool p.barrier, .int .i64 p.edgePolicy, .int .i64 p.edgeFill, .int .i64 p.kW, .int .i64 p.kH, .slice p.weights.a p.weights.n p.weights.k, .slice p.row.a p.row.n p.row.k, .slice p.col.a p.col.n p.col.k, .int .i64 p.shift, .int .i64 p.shift2, .slice p.x.a p.x.n p.x.k, .slice p.y.a p.y.n p.y.k, .int .i64 p.bins, .slice p.ops.a p.ops.n p.ops.k, .int .i64 p.max_] 61 (0, 0))] :: H :: F)) [] p.row.a p.row.n p.row.k p.row.l q.row.a q.row.n q.row.k q.row.l (RdT.flat (cs := ([(b_4, .cells #[.int .i64 q.kind, .int .i64 q.a, .int .i64 q.b, .bool q.barrier, .int .i64 q.edgePolicy, .int .i64 q.edgeFill, .int .i64 q.kW, .int .i64 q.kH, .slice q.weights.a q.weights.n q.weights.k, .slice q.row.a q.row.n q.row.k, .slice q.col.a q.col.n q.col.k, .int .i64 q.shift, .int .i64 q.shift2, .slice q.x.a q.x.n q.x.k, .slice q.y.a q.y.n q.y.k, .int .i64 q.bins, .slice q.ops.a q.ops.n q.ops.k, .int .i64 q.max_] 61 (0, 0))] :: [(b_1, .cells #[.int .i64 p.kind, .int .i64 p.a, .int .i64 p.b, .bool p.barrier, .int .i64 p.edgePolicy, .int .i64 p.edgeFill, .int .i64 p.kW, .int .i64 p.kH, .slice p.weights.a p.weights.n p.weights.k, .slice p.row.a p.row.n p.row.k, .slice p.col.a p.col.n p.col.k, .int .i64 p.shift, .int .i64 p.shift2, .slice p.x.a p.x.n p.x.k, .slice p.y.a p.y.n p.y.k, .int .i64 p.bins, .slice p.ops.a p.ops.n p.ops.k, .int .i64 p.max_] 61 (0, 0))] :: H :: F)) (hp.row.up 2 rfl)) (RdT.flat (cs := ([(b_4, .cells #[.int .i64 q.kind, .int .i64 q.a, .int .i64 q.b, .bool q.barrier, .int .i64 q.edgePolicy, .int .i64 q.edgeFill, .int .i64 q.kW, .int .i64 q.kH, .slice q.weights.a q.weights.n q.weights.k, .slice q.row.a q.row.n q.row.k, .slice q.col.a q.col.n q.col.k, .int .i64 q.shift, .int .i64 q.shift2, .slice q.x.a q.x.n q.x.k, .slice q.y.a q.y.n q.y.k, .int .i64 q.bins, .slice q.ops.a q.ops.n q.ops.k, .int .i64 q.max_] 61 (0, 0))] :: [(b_1, .cells #[.int .i64 p.kind, .int .i64 p.a, .int .i64 p.b, .bool p.barrier, .int .i64 p.edgePolicy, .int .i64 p.edgeFill, .int .i64 p.kW, .int .i64 p.kH, .slice p.weights.a p.weights.n p.weights.k, .slice p.row.a p.row.n p.row.k, .slice p.col.a p.col.n p.col.k, .int .i64 p.shift, .int .i64 p.shift2, .slice p.x.a p.x.n p.x.k, .slice p.y.a p.y.n p.y.k, .int .i64 p.bins, .slice p.ops.a p.ops.n p.ops.k, .int .i64 p.max_] 61 (0, 0))] :: H :: F)) (hq.row.up 2 rfl)) hS_39.flat) ?_)
                      rintro _ w_42 ⟨rfl, h_44⟩
                      refine ⟨_, rfl, ?_⟩
                      have hS_43 := Sat.unflat h_44; clear h_44
                      try dsimp only [List.set, List.eraseIdx] at hS_43
                      refine p2 (by kernel_rfl) ?_
                      rcases Classical.em (p.row.l = q.row.l) with hc_45 | hc_45
                      · refine sFix 92 (decide (p.row.l = q.row.l)) true (decide_eq_true hc_45) ?_
                        refine p1 (by kernel_rfl) ?_
                        refine guardYes rfl ⟨_, rfl, rfl, by kernel_rfl⟩ ?_
                        refine sL hS_43 1 10 (.slice p.col.a p.col.n p.col.k) (Try.isAgg22 _) ?_
                        refine p1 (by kernel_rfl) ?_
                        refine guardYes rfl ⟨_, rfl, rfl, by kernel_rfl⟩ ?_
                        refine sL hS_43 0 10 (.slice q.col.a q.col.n q.col.k) (Try.isAgg22 _) ?_
                        refine guardYes rfl ⟨_, rfl, rfl, by kernel_rfl⟩ ?_
                        refine sF #[.slice p.col.a p.col.n p.col.k, .slice q.col.a q.col.n q.col.k] Try.call32 (Calls.mono (r4_same W _ (List.flatten ([(b_4, .cells #[.int .i64 q.kind, .int .i64 q.a, .int .i64 q.b, .bool q.barrier, .int .i64 q.edgePolicy, .int .i64 q.edgeFill, .int .i64 q.kW, .int .i64 q.kH, .slice q.weights.a q.weights.n q.weights.k, .slice q.row.a q.row.n q.row.k, .slice q.col.a q.col.n q.col.k, .int .i64 q.shift, .int .i64 q.shift2, .slice q.x.a q.x.n q.x.k, .slice q.y.a q.y.n q.y.k, .int .i64 q.bins, .slice q.ops.a q.ops.n q.ops.k, .int .i64 q.max_] 61 (0, 0))] :: [(b_1, .cells #[.int .i64 p.kind, .int .i64 p.a, .int .i64 p.b, .bool p.barrier, .int .i64 p.edgePolicy, .int .i64 p.edgeFill, .int .i64 p.kW, .int .i64 p.kH, .slice p.weights.a p.weights.n p.weights.k, .slice p.row.a p.row.n p.row.k, .slice p.col.a p.col.n p.col.k, .int .i64 p.shift, .int .i64 p.shift2, .slice p.x.a p.x.n p.x.k, .slice p.y.a p.y.n p.y.k, .int .i64 p.bins, .slice p.ops.a p.ops.n p.ops.k, .int .i64 p.max_] 61 (0, 0))] :: H :: F)) [] p.col.a p.col.n p.col.k p.col.l q.col.a q.col.n q.col.k q.col.l (RdT.flat (cs := ([(b_4, .cells #[.int .i64 q.kind, .int .i64 q.a, .int .i64 q.b, .bool q.barrier, .int .i64 q.edgePolicy, .int .i64 q.edgeFill, .int .i64 q.kW, .int .i64 q.kH, .slice q.weights.a q.weights.n q.weights.k, .slice q.row.a q.row.n q.row.k, .slice q.col.a q.col.n q.col.k, .int .i64 q.shift, .int .i64 q.shift2, .slice q.x.a q.x.n q.x.k, .slice q.y.a q.y.n q.y.k, .int .i64 q.bins, .slice q.ops.a q.ops.n q.ops.k, .int .i64 q.max_] 61 (0, 0))] :: [(b_1, .cells #[.int .i64 p.kind, .int .i64 p.a, .int .i64 p.b, .bool p.barrier, .int .i64 p.edgePolicy, .int .i64 p.edgeFill, .int .i64 p.kW, .int .i64 p.kH, .slice p.weights.a p.weights.n p.weights.k, .slice p.row.a p.row.n p.row.k, .slice p.col.a p.col.n p.col.k, .int .i64 p.shift, .int .i64 p.shift2, .slice p.x.a p.x.n p.x.k, .slice p.y.a p.y.n p.y.k, .int .i64 p.bins, .slice p.ops.a p.ops.n p.ops.k, .int .i64 p.max_] 61 (0, 0))] :: H :: F)) (hp.col.up 2 rfl)) (RdT.flat (cs := ([(b_4, .cells #[.int .i64 q.kind, .int .i64 q.a, .int .i64 q.b, .bool q.barrier, .int .i64 q.edgePolicy, .int .i64 q.edgeFill, .int .i64 q.kW, .int .i64 q.kH, .slice q.weights.a q.weights.n q.weights.k, .slice q.row.a q.row.n q.row.k, .slice q.col.a q.col.n q.col.k, .int .i64 q.shift, .int .i64 q.shift2, .slice q.x.a q.x.n q.x.k, .slice q.y.a q.y.n q.y.k, .int .i64 q.bins, .slice q.ops.a q.ops.n q.ops.k, .int .i64 q.max_] 61 (0, 0))] :: [(b_1, .cells #[.int .i64 p.kind, .int .i64 p.a, .int .i64 p.b, .bool p.barrier, .int .i64 p.edgePolicy, .int .i64 p.edgeFill, .int .i64 p.kW, .int .i64 p.kH, .slice p.weights.a p.weights.n p.weights.k, .slice p.row.a p.row.n p.row.k, .slice p.col.a p.col.n p.col.k, .int .i64 p.shift, .int .i64 p.shift2, .slice p.x.a p.x.n p.x.k, .slice p.y.a p.y.n p.y.k, .int .i64 p.bins, .slice p.ops.a p.ops.n p.ops.k, .int .i64 p.max_] 61 (0, 0))] :: H :: F)) (hq.col.up 2 rfl)) hS_43.flat) ?_)
                        rintro _ w_46 ⟨rfl, h_48⟩
                        refine ⟨_, rfl, ?_⟩
                        have hS_47 := Sat.unflat h_48; clear h_48
                        try dsimp only [List.set, List.eraseIdx] at hS_47
                        refine p2 (by kernel_rfl) ?_
                        rcases Classical.em (p.col.l = q.col.l) with hc_49 | hc_49
                        · refine sFix 99 (decide (p.col.l = q.col.l)) true (decide_eq_true hc_49) ?_
                          refine p1 (by kernel_rfl) ?_
                          refine guardYes rfl ⟨_, rfl, rfl, by kernel_rfl⟩ ?_
                          refine sL hS_47 1 11 (.int .i64 p.shift) (Try.isAgg3 _) ?_
                          refine p1 (by kernel_rfl) ?_
                          refine guardYes rfl ⟨_, rfl, rfl, by kernel_rfl⟩ ?_
                          refine sL hS_47 0 11 (.int .i64 q.shift) (Try.isAgg3 _) ?_
                          refine p3 (by kernel_rfl) ?_
                          by_cases hc_50 : (p.shift : Int) = q.shift
                          · refine sFix 106 ((p.shift : Int) == q.shift) true (beq_iff_eq.2 hc_50) ?_
                            refine p1 (by kernel_rfl) ?_
                            refine guardYes rfl ⟨_, rfl, rfl, by kernel_rfl⟩ ?_
                            refine sL hS_47 1 12 (.int .i64 p.shift2) (Try.isAgg3 _) ?_
                            refine p1 (by kernel_rfl) ?_
                            refine guardYes rfl ⟨_, rfl, rfl, by kernel_rfl⟩ ?_
                            refine sL hS_47 0 12 (.int .i64 q.shift2) (Try.isAgg3 _) ?_
                            refine p3 (by kernel_rfl) ?_
                            by_cases hc_51 : (p.shift2 : Int) = q.shift2
                            · refine sFix 113 ((p.shift2 : Int) == q.shift2) true (beq_iff_eq.2 hc_51) ?_
                              refine p1 (by kernel_rfl) ?_
                              refine guardYes rfl ⟨_, rfl, rfl, by kernel_rfl⟩ ?_
                              refine sL hS_47 1 13 (.slice p.x.a p.x.n p.x.k) (Try.isAgg58 _) ?_
                              refine p1 (by kernel_rfl) ?_
                              refine guardYes rfl ⟨_, rfl, rfl, by kernel_rfl⟩ ?_
                              refine sL hS_47 0 13 (.slice q.x.a q.x.n q.x.k) (Try.isAgg58 _) ?_
                              refine guardYes rfl ⟨_, rfl, rfl, by kernel_rfl⟩ ?_
                              refine sF #[.slice p.x.a p.x.n p.x.k, .slice q.x.a q.x.n q.x.k] Try.call47 (Calls.mono (r8_same W _ (List.flatten ([(b_4, .cells #[.int .i64 q.kind, .int .i64 q.a, .int .i64 q.b, .bool q.barrier, .int .i64 q.edgePolicy, .int .i64 q.edgeFill, .int .i64 q.kW, .int .i64 q.kH, .slice q.weights.a q.weights.n q.weights.k, .slice q.row.a q.row.n q.row.k, .slice q.col.a q.col.n q.col.k, .int .i64 q.shift, .int .i64 q.shift2, .slice q.x.a q.x.n q.x.k, .slice q.y.a q.y.n q.y.k, .int .i64 q.bins, .slice q.ops.a q.ops.n q.ops.k, .int .i64 q.max_] 61 (0, 0))] :: [(b_1, .cells #[.int .i64 p.kind, .int .i64 p.a, .int .i64 p.b, .bool p.barrier, .int .i64 p.edgePolicy, .int .i64 p.edgeFill, .int .i64 p.kW, .int .i64 p.kH, .slice p.weights.a p.weights.n p.weights.k, .slice p.row.a p.row.n p.row.k, .slice p.col.a p.col.n p.col.k, .int .i64 p.shift, .int .i64 p.shift2, .slice p.x.a p.x.n p.x.k, .slice p.y.a p.y.n p.y.k, .int .i64 p.bins, .slice p.ops.a p.ops.n p.ops.k, .int .i64 p.max_] 61 (0, 0))] :: H :: F)) [] p.x.a p.x.n p.x.k p.x.l q.x.a q.x.n q.x.k q.x.l (RdT.flat (cs := ([(b_4, .cells #[.int .i64 q.kind, .int .i64 q.a, .int .i64 q.b, .bool q.barrier, .int .i64 q.edgePolicy, .int .i64 q.edgeFill, .int .i64 q.kW, .int .i64 q.kH, .slice q.weights.a q.weights.n q.weights.k, .slice q.row.a q.row.n q.row.k, .slice q.col.a q.col.n q.col.k, .int .i64 q.shift, .int .i64 q.shift2, .slice q.x.a q.x.n q.x.k, .slice q.y.a q.y.n q.y.k, .int .i64 q.bins, .slice q.ops.a q.ops.n q.ops.k, .int .i64 q.max_] 61 (0, 0))] :: [(b_1, .cells #[.int .i64 p.kind, .int .i64 p.a, .int .i64 p.b, .bool p.barrier, .int .i64 p.edgePolicy, .int .i64 p.edgeFill, .int .i64 p.kW, .int .i64 p.kH, .slice p.weights.a p.weights.n p.weights.k, .slice p.row.a p.row.n p.row.k, .slice p.col.a p.col.n p.col.k, .int .i64 p.shift, .int .i64 p.shift2, .slice p.x.a p.x.n p.x.k, .slice p.y.a p.y.n p.y.k, .int .i64 p.bins, .slice p.ops.a p.ops.n p.ops.k, .int .i64 p.max_] 61 (0, 0))] :: H :: F)) (hp.x.up 2 rfl)) (fun z hz => (hp.xD z hz).of_mem (mem_flat1 (cs := ([(b_4, .cells #[.int .i64 q.kind, .int .i64 q.a, .int .i64 q.b, .bool q.barrier, .int .i64 q.edgePolicy, .int .i64 q.edgeFill, .int .i64 q.kW, .int .i64 q.kH, .slice q.weights.a q.weights.n q.weights.k, .slice q.row.a q.row.n q.row.k, .slice q.col.a q.col.n q.col.k, .int .i64 q.shift, .int .i64 q.shift2, .slice q.x.a q.x.n q.x.k, .slice q.y.a q.y.n q.y.k, .int .i64 q.bins, .slice q.ops.a q.ops.n q.ops.k, .int .i64 q.max_] 61 (0, 0))] :: [(b_1, .cells #[.int .i64 p.kind, .int .i64 p.a, .int .i64 p.b, .bool p.barrier, .int .i64 p.edgePolicy, .int .i64 p.edgeFill, .int .i64 p.kW, .int .i64 p.kH, .slice p.weights.a p.weights.n p.weights.k, .slice p.row.a p.row.n p.row.k, .slice p.col.a p.col.n p.col.k, .int .i64 p.shift, .int .i64 p.shift2, .slice p.x.a p.x.n p.x.k, .slice p.y.a p.y.n p.y.k, .int .i64 p.bins, .slice p.ops.a p.ops.n p.ops.k, .int .i64 p.max_] 61 (0, 0))] :: H :: F)) 2 rfl)) (RdT.flat (cs := ([(b_4, .cells #[.int .i64 q.kind, .int .i64 q.a, .int .i64 q.b, .bool q.barrier, .int .i64 q.edgePolicy, .int .i64 q.edgeFill, .int .i64 q.kW, .int .i64 q.kH, .slice q.weights.a q.weights.n q.weights.k, .slice q.row.a q.row.n q.row.k, .slice q.col.a q.col.n q.col.k, .int .i64 q.shift, .int .i64 q.shift2, .slice q.x.a q.x.n q.x.k, .slice q.y.a q.y.n q.y.k, .int .i64 q.bins, .slice q.ops.a q.ops.n q.ops.k, .int .i64 q.max_] 61 (0, 0))] :: [(b_1, .cells #[.int .i64 p.kind, .int .i64 p.a, .int .i64 p.b, .bool p.barrier, .int .i64 p.edgePolicy, .int .i64 p.edgeFill, .int .i64 p.kW, .int .i64 p.kH, .slice p.weights.a p.weights.n p.weights.k, .slice p.row.a p.row.n p.row.k, .slice p.col.a p.col.n p.col.k, .int .i64 p.shift, .int .i64 p.shift2, .slice p.x.a p.x.n p.x.k, .slice p.y.a p.y.n p.y.k, .int .i64 p.bins, .slice p.ops.a p.ops.n p.ops.k, .int .i64 p.max_] 61 (0, 0))] :: H :: F)) (hq.x.up 2 rfl)) (fun z hz => (hq.xD z hz).of_mem (mem_flat1 (cs := ([(b_4, .cells #[.int .i64 q.kind, .int .i64 q.a, .int .i64 q.b, .bool q.barrier, .int .i64 q.edgePolicy, .int .i64 q.edgeFill, .int .i64 q.kW, .int .i64 q.kH, .slice q.weights.a q.weights.n q.weights.k, .slice q.row.a q.row.n q.row.k, .slice q.col.a q.col.n q.col.k, .int .i64 q.shift, .int .i64 q.shift2, .slice q.x.a q.x.n q.x.k, .slice q.y.a q.y.n q.y.k, .int .i64 q.bins, .slice q.ops.a q.ops.n q.ops.k, .int .i64 q.max_] 61 (0, 0))] :: [(b_1, .cells #[.int .i64 p.kind, .int .i64 p.a, .int .i64 p.b, .bool p.barrier, .int .i64 p.edgePolicy, .int .i64 p.edgeFill, .int .i64 p.kW, .int .i64 p.kH, .slice p.weights.a p.weights.n p.weights.k, .slice p.row.a p.row.n p.row.k, .slice p.col.a p.col.n p.col.k, .int .i64 p.shift, .int .i64 p.shift2, .slice p.x.a p.x.n p.x.k, .slice p.y.a p.y.n p.y.k, .int .i64 p.bins, .slice p.ops.a p.ops.n p.ops.k, .int .i64 p.max_] 61 (0, 0))] :: H :: F)) 2 rfl)) hS_47.flat) ?_)
                              rintro _ w_52 ⟨rfl, h_54⟩
                              refine ⟨_, rfl, ?_⟩
                              have hS_53 := Sat.unflat h_54; clear h_54
                              try dsimp only [List.set, List.eraseIdx] at hS_53
                              refine p2 (by kernel_rfl) ?_
                              rcases Classical.em (p.x.l.map Tap.v = q.x.l.map Tap.v) with hc_55 | hc_55
                              · refine sFix 120 (decide (p.x.l.map Tap.v = q.x.l.map Tap.v)) true (decide_eq_true hc_55) ?_
                                refine p1 (by kernel_rfl) ?_
                                refine guardYes rfl ⟨_, rfl, rfl, by kernel_rfl⟩ ?_
                                refine sL hS_53 1 14 (.slice p.y.a p.y.n p.y.k) (Try.isAgg58 _) ?_
                                refine p1 (by kernel_rfl) ?_
                                refine guardYes rfl ⟨_, rfl, rfl, by kernel_rfl⟩ ?_
                                refine sL hS_53 0 14 (.slice q.y.a q.y.n q.y.k) (Try.isAgg58 _) ?_
                                refine guardYes rfl ⟨_, rfl, rfl, by kernel_rfl⟩ ?_
                                refine sF #[.slice p.y.a p.y.n p.y.k, .slice q.y.a q.y.n q.y.k] Try.call47 (Calls.mono (r8_same W _ (List.flatten ([(b_4, .cells #[.int .i64 q.kind, .int .i64 q.a, .int .i64 q.b, .bool q.barrier, .int .i64 q.edgePolicy, .int .i64 q.edgeFill, .int .i64 q.kW, .int .i64 q.kH, .slice q.weights.a q.weights.n q.weights.k, .slice q.row.a q.row.n q.row.k, .slice q.col.a q.col.n q.col.k, .int .i64 q.shift, .int .i64 q.shift2, .slice q.x.a q.x.n q.x.k, .slice q.y.a q.y.n q.y.k, .int .i64 q.bins, .slice q.ops.a q.ops.n q.ops.k, .int .i64 q.max_] 61 (0, 0))] :: [(b_1, .cells #[.int .i64 p.kind, .int .i64 p.a, .int .i64 p.b, .bool p.barrier, .int .i64 p.edgePolicy, .int .i64 p.edgeFill, .int .i64 p.kW, .int .i64 p.kH, .slice p.weights.a p.weights.n p.weights.k, .slice p.row.a p.row.n p.row.k, .slice p.col.a p.col.n p.col.k, .int .i64 p.shift, .int .i64 p.shift2, .slice p.x.a p.x.n p.x.k, .slice p.y.a p.y.n p.y.k, .int .i64 p.bins, .slice p.ops.a p.ops.n p.ops.k, .int .i64 p.max_] 61 (0, 0))] :: H :: F)) [] p.y.a p.y.n p.y.k p.y.l q.y.a q.y.n q.y.k q.y.l (RdT.flat (cs := ([(b_4, .cells #[.int .i64 q.kind, .int .i64 q.a, .int .i64 q.b, .bool q.barrier, .int .i64 q.edgePolicy, .int .i64 q.edgeFill, .int .i64 q.kW, .int .i64 q.kH, .slice q.weights.a q.weights.n q.weights.k, .slice q.row.a q.row.n q.row.k, .slice q.col.a q.col.n q.col.k, .int .i64 q.shift, .int .i64 q.shift2, .slice q.x.a q.x.n q.x.k, .slice q.y.a q.y.n q.y.k, .int .i64 q.bins, .slice q.ops.a q.ops.n q.ops.k, .int .i64 q.max_] 61 (0, 0))] :: [(b_1, .cells #[.int .i64 p.kind, .int .i64 p.a, .int .i64 p.b, .bool p.barrier, .int .i64 p.edgePolicy, .int .i64 p.edgeFill, .int .i64 p.kW, .int .i64 p.kH, .slice p.weights.a p.weights.n p.weights.k, .slice p.row.a p.row.n p.row.k, .slice p.col.a p.col.n p.col.k, .int .i64 p.shift, .int .i64 p.shift2, .slice p.x.a p.x.n p.x.k, .slice p.y.a p.y.n p.y.k, .int .i64 p.bins, .slice p.ops.a p.ops.n p.ops.k, .int .i64 p.max_] 61 (0, 0))] :: H :: F)) (hp.y.up 2 rfl)) (fun z hz => (hp.yD z hz).of_mem (mem_flat1 (cs := ([(b_4, .cells #[.int .i64 q.kind, .int .i64 q.a, .int .i64 q.b, .bool q.barrier, .int .i64 q.edgePolicy, .int .i64 q.edgeFill, .int .i64 q.kW, .int .i64 q.kH, .slice q.weights.a q.weights.n q.weights.k, .slice q.row.a q.row.n q.row.k, .slice q.col.a q.col.n q.col.k, .int .i64 q.shift, .int .i64 q.shift2, .slice q.x.a q.x.n q.x.k, .slice q.y.a q.y.n q.y.k, .int .i64 q.bins, .slice q.ops.a q.ops.n q.ops.k, .int .i64 q.max_] 61 (0, 0))] :: [(b_1, .cells #[.int .i64 p.kind, .int .i64 p.a, .int .i64 p.b, .bool p.barrier, .int .i64 p.edgePolicy, .int .i64 p.edgeFill, .int .i64 p.kW, .int .i64 p.kH, .slice p.weights.a p.weights.n p.weights.k, .slice p.row.a p.row.n p.row.k, .slice p.col.a p.col.n p.col.k, .int .i64 p.shift, .int .i64 p.shift2, .slice p.x.a p.x.n p.x.k, .slice p.y.a p.y.n p.y.k, .int .i64 p.bins, .slice p.ops.a p.ops.n p.ops.k, .int .i64 p.max_] 61 (0, 0))] :: H :: F)) 2 rfl)) (RdT.flat (cs := ([(b_4, .cells #[.int .i64 q.kind, .int .i64 q.a, .int .i64 q.b, .bool q.barrier, .int .i64 q.edgePolicy, .int .i64 q.edgeFill, .int .i64 q.kW, .int .i64 q.kH, .slice q.weights.a q.weights.n q.weights.k, .slice q.row.a q.row.n q.row.k, .slice q.col.a q.col.n q.col.k, .int .i64 q.shift, .int .i64 q.shift2, .slice q.x.a q.x.n q.x.k, .slice q.y.a q.y.n q.y.k, .int .i64 q.bins, .slice q.ops.a q.ops.n q.ops.k, .int .i64 q.max_] 61 (0, 0))] :: [(b_1, .cells #[.int .i64 p.kind, .int .i64 p.a, .int .i64 p.b, .bool p.barrier, .int .i64 p.edgePolicy, .int .i64 p.edgeFill, .int .i64 p.kW, .int .i64 p.kH, .slice p.weights.a p.weights.n p.weights.k, .slice p.row.a p.row.n p.row.k, .slice p.col.a p.col.n p.col.k, .int .i64 p.shift, .int .i64 p.shift2, .slice p.x.a p.x.n p.x.k, .slice p.y.a p.y.n p.y.k, .int .i64 p.bins, .slice p.ops.a p.ops.n p.ops.k, .int .i64 p.max_] 61 (0, 0))] :: H :: F)) (hq.y.up 2 rfl)) (fun z hz => (hq.yD z hz).of_mem (mem_flat1 (cs := ([(b_4, .cells #[.int .i64 q.kind, .int .i64 q.a, .int .i64 q.b, .bool q.barrier, .int .i64 q.edgePolicy, .int .i64 q.edgeFill, .int .i64 q.kW, .int .i64 q.kH, .slice q.weights.a q.weights.n q.weights.k, .slice q.row.a q.row.n q.row.k, .slice q.col.a q.col.n q.col.k, .int .i64 q.shift, .int .i64 q.shift2, .slice q.x.a q.x.n q.x.k, .slice q.y.a q.y.n q.y.k, .int .i64 q.bins, .slice q.ops.a q.ops.n q.ops.k, .int .i64 q.max_] 61 (0, 0))] :: [(b_1, .cells #[.int .i64 p.kind, .int .i64 p.a, .int .i64 p.b, .bool p.barrier, .int .i64 p.edgePolicy, .int .i64 p.edgeFill, .int .i64 p.kW, .int .i64 p.kH, .slice p.weights.a p.weights.n p.weights.k, .slice p.row.a p.row.n p.row.k, .slice p.col.a p.col.n p.col.k, .int .i64 p.shift, .int .i64 p.shift2, .slice p.x.a p.x.n p.x.k, .slice p.y.a p.y.n p.y.k, .int .i64 p.bins, .slice p.ops.a p.ops.n p.ops.k, .int .i64 p.max_] 61 (0, 0))] :: H :: F)) 2 rfl)) hS_53.flat) ?_)
                                rintro _ w_56 ⟨rfl, h_58⟩
                                refine ⟨_, rfl, ?_⟩
                                have hS_57 := Sat.unflat h_58; clear h_58
                                try dsimp only [List.set, List.eraseIdx] at hS_57
                                refine p2 (by kernel_rfl) ?_
                                rcases Classical.em (p.y.l.map Tap.v = q.y.l.map Tap.v) with hc_59 | hc_59
                                · refine sFix 127 (decide (p.y.l.map Tap.v = q.y.l.map Tap.v)) true (decide_eq_true hc_59) ?_
                                  refine p1 (by kernel_rfl) ?_
                                  refine guardYes rfl ⟨_, rfl, rfl, by kernel_rfl⟩ ?_
                                  refine sL hS_57 1 15 (.int .i64 p.bins) (Try.isAgg3 _) ?_
                                  refine p1 (by kernel_rfl) ?_
                                  refine guardYes rfl ⟨_, rfl, rfl, by kernel_rfl⟩ ?_
                                  refine sL hS_57 0 15 (.int .i64 q.bins) (Try.isAgg3 _) ?_
                                  refine p3 (by kernel_rfl) ?_
                                  by_cases hc_60 : (p.bins : Int) = q.bins
                                  · refine sFix 134 ((p.bins : Int) == q.bins) true (beq_iff_eq.2 hc_60) ?_
                                    refine p1 (by kernel_rfl) ?_
                                    refine guardYes rfl ⟨_, rfl, rfl, by kernel_rfl⟩ ?_
                                    refine sL hS_57 1 17 (.int .i64 p.max_) (Try.isAgg3 _) ?_
                                    refine p1 (by kernel_rfl) ?_
                                    refine guardYes rfl ⟨_, rfl, rfl, by kernel_rfl⟩ ?_
                                    refine sL hS_57 0 17 (.int .i64 q.max_) (Try.isAgg3 _) ?_
                                    refine p3 (by kernel_rfl) ?_
                                    refine nilO ?_
                                    refine thenK_n <| ?_
                                    refine retE ?_
                                    refine retN (vs := [.bool ((p.max_ : Int) == q.max_)]) rfl (.cons (.tmp _ _ (by kernel_rfl)) .nil) <| ?_
                                    have hS_61 := hS_57.pick 2 rfl
                                    try dsimp only [List.set, List.eraseIdx] at hS_61
                                    have hS_62 := hS_61.dropAt 1 rfl
                                    have hS_63 := hS_62.dropAt 1 rfl
                                    change Sat _ _ (H :: F) at hS_63
                                    refine ⟨congrArg (fun b => Ending.returned (.bool b)) ?_, hS_63⟩
                                    first | (rw [Bool.eq_iff_iff]; simp [Stage.v, *]; done) | (simp [Stage.v, *]; done) | (exact (decide_eq_false (fun h => by simp_all [Stage.v])).symm) | (exact (decide_eq_true (by simp_all [Stage.v])).symm)
                                  · refine sFix 134 ((p.bins : Int) == q.bins) false (beq_eq_false_iff_ne.2 hc_60) ?_
                                    refine p7 (by kernel_rfl) ?_
                                    refine nilO ?_
                                    refine thenK_n <| ?_
                                    refine retE ?_
                                    refine retN (vs := [.bool false]) rfl (.cons (.tmp _ _ (by kernel_rfl)) .nil) <| ?_
                                    have hS_64 := hS_57.pick 2 rfl
                                    try dsimp only [List.set, List.eraseIdx] at hS_64
                                    have hS_65 := hS_64.dropAt 1 rfl
                                    have hS_66 := hS_65.dropAt 1 rfl
                                    change Sat _ _ (H :: F) at hS_66
                                    refine ⟨congrArg (fun b => Ending.returned (.bool b)) ?_, hS_66⟩
                                    first | (rw [Bool.eq_iff_iff]; simp [Stage.v, *]; done) | (simp [Stage.v, *]; done) | (exact (decide_eq_false (fun h => by simp_all [Stage.v])).symm) | (exact (decide_eq_true (by simp_all [Stage.v])).symm)
                                · refine sFix 127 (decide (p.y.l.map Tap.v = q.y.l.map Tap.v)) false (decide_eq_false hc_59) ?_
                                  refine p14 (by kernel_rfl) ?_
                                  refine nilO ?_
                                  refine thenK_n <| ?_
                                  refine retE ?_
                                  refine retN (vs := [.bool false]) rfl (.cons (.tmp _ _ (by kernel_rfl)) .nil) <| ?_
                                  have hS_67 := hS_57.pick 2 rfl
                                  try dsimp only [List.set, List.eraseIdx] at hS_67
                                  have hS_68 := hS_67.dropAt 1 rfl
                                  have hS_69 := hS_68.dropAt 1 rfl
                                  change Sat _ _ (H :: F) at hS_69
                                  refine ⟨congrArg (fun b => Ending.returned (.bool b)) ?_, hS_69⟩
                                  first | (rw [Bool.eq_iff_iff]; simp [Stage.v, *]; done) | (simp [Stage.v, *]; done) | (exact (decide_eq_false (fun h => by simp_all [Stage.v])).symm) | (exact (decide_eq_true (by simp_all [Stage.v])).symm)
                              · refine sFix 120 (decide (p.x.l.map Tap.v = q.x.l.map Tap.v)) false (decide_eq_false hc_55) ?_
                                refine p16 (by kernel_rfl) ?_
                                refine p5 (by kernel_rfl) ?_
                                refine nilO ?_
                                refine thenK_n <| ?_
                                refine retE ?_
                                refine retN (vs := [.bool false]) rfl (.cons (.tmp _ _ (by kernel_rfl)) .nil) <| ?_
                                have hS_70 := hS_53.pick 2 rfl
                                try dsimp only [List.set, List.eraseIdx] at hS_70
                                have hS_71 := hS_70.dropAt 1 rfl
                                have hS_72 := hS_71.dropAt 1 rfl
                                change Sat _ _ (H :: F) at hS_72
                                refine ⟨congrArg (fun b => Ending.returned (.bool b)) ?_, hS_72⟩
                                first | (rw [Bool.eq_iff_iff]; simp [Stage.v, *]; done) | (simp [Stage.v, *]; done) | (exact (decide_eq_false (fun h => by simp_all [Stage.v])).symm) | (exact (decide_eq_true (by simp_all [Stage.v])).symm)
                            · refine sFix 113 ((p.shift2 : Int) == q.shift2) false (beq_eq_false_iff_ne.2 hc_51) ?_
                              refine p16 (by kernel_rfl) ?_
                              refine p12 (by kernel_rfl) ?_
                              refine nilO ?_
                              refine thenK_n <| ?_
                              refine retE ?_
                              refine retN (vs := [.bool false]) rfl (.cons (.tmp _ _ (by kernel_rfl)) .nil) <| ?_
                              have hS_73 := hS_47.pick 2 rfl
                              try dsimp only [List.set, List.eraseIdx] at hS_73
                              have hS_74 := hS_73.dropAt 1 rfl
                              have hS_75 := hS_74.dropAt 1 rfl
                              change Sat _ _ (H :: F) at hS_75
                              refine ⟨congrArg (fun b => Ending.returned (.bool b)) ?_, hS_75⟩
                              first | (rw [Bool.eq_iff_iff]; simp [Stage.v, *]; done) | (simp [Stage.v, *]; done) | (exact (decide_eq_false (fun h => by simp_all [Stage.v])).symm) | (exact (decide_eq_true (by simp_all [Stage.v])).symm)
                          · refine sFix 106 ((p.shift : Int) == q.shift) false (beq_eq_false_iff_ne.2 hc_50) ?_
                            refine p16 (by kernel_rfl) ?_
                            refine p16 (by kernel_rfl) ?_
                            refine p3 (by kernel_rfl) ?_
                            refine nilO ?_
                            refine thenK_n <| ?_
                            refine retE ?_
                            refine retN (vs := [.bool false]) rfl (.cons (.tmp _ _ (by kernel_rfl)) .nil) <| ?_
                            have hS_76 := hS_47.pick 2 rfl
                            try dsimp only [List.set, List.eraseIdx] at hS_76
                            have hS_77 := hS_76.dropAt 1 rfl
                            have hS_78 := hS_77.dropAt 1 rfl
                            change Sat _ _ (H :: F) at hS_78
                            refine ⟨congrArg (fun b => Ending.returned (.bool b)) ?_, hS_78⟩
                            first | (rw [Bool.eq_iff_iff]; simp [Stage.v, *]; done) | (simp [Stage.v, *]; done) | (exact (decide_eq_false (fun h => by simp_all [Stage.v])).symm) | (exact (decide_eq_true (by simp_all [Stage.v])).symm)
                        · refine sFix 99 (decide (p.col.l = q.col.l)) false (decide_eq_false hc_49) ?_
                          refine p16 (by kernel_rfl) ?_
                          refine p16 (by kernel_rfl) ?_
                          refine p10 (by kernel_rfl) ?_
                          refine nilO ?_
                          refine thenK_n <| ?_
                          refine retE ?_
                          refine retN (vs := [.bool false]) rfl (.cons (.tmp _ _ (by kernel_rfl)) .nil) <| ?_
                          have hS_79 := hS_47.pick 2 rfl
                          try dsimp only [List.set, List.eraseIdx] at hS_79
                          have hS_80 := hS_79.dropAt 1 rfl
                          have hS_81 := hS_80.dropAt 1 rfl
                          change Sat _ _ (H :: F) at hS_81
                          refine ⟨congrArg (fun b => Ending.returned (.bool b)) ?_, hS_81⟩
                          first | (rw [Bool.eq_iff_iff]; simp [Stage.v, *]; done) | (simp [Stage.v, *]; done) | (exact (decide_eq_false (fun h => by simp_all [Stage.v])).symm) | (exact (decide_eq_true (by simp_all [Stage.v])).symm)
                      · refine sFix 92 (decide (p.row.l = q.row.l)) false (decide_eq_false hc_45) ?_
                        refine p16 (by kernel_rfl) ?_
                        refine p16 (by kernel_rfl) ?_
                        refine p16 (by kernel_rfl) ?_
                        refine p1 (by kernel_rfl) ?_
                        refine nilO ?_
                        refine thenK_n <| ?_
                        refine retE ?_
                        refine retN (vs := [.bool false]) rfl (.cons (.tmp _ _ (by kernel_rfl)) .nil) <| ?_
                        have hS_82 := hS_43.pick 2 rfl
                        try dsimp only [List.set, List.eraseIdx] at hS_82
                        have hS_83 := hS_82.dropAt 1 rfl
                        have hS_84 := hS_83.dropAt 1 rfl
                        change Sat _ _ (H :: F) at hS_84
                        refine ⟨congrArg (fun b => Ending.returned (.bool b)) ?_, hS_84⟩
                        first | (rw [Bool.eq_iff_iff]; simp [Stage.v, *]; done) | (simp [Stage.v, *]; done) | (exact (decide_eq_false (fun h => by simp_all [Stage.v])).symm) | (exact (decide_eq_true (by simp_all [Stage.v])).symm)
                    · refine sFix 85 (decide (p.weights.l = q.weights.l)) false (decide_eq_false hc_41) ?_
                      refine p16 (by kernel_rfl) ?_
                      refine p16 (by kernel_rfl) ?_
                      refine p16 (by kernel_rfl) ?_
                      refine p8 (by kernel_rfl) ?_
                      refine nilO ?_
                      refine thenK_n <| ?_
                      refine retE ?_
                      refine retN (vs := [.bool false]) rfl (.cons (.tmp _ _ (by kernel_rfl)) .nil) <| ?_
                      have hS_85 := hS_39.pick 2 rfl
                      try dsimp only [List.set, List.eraseIdx] at hS_85
                      have hS_86 := hS_85.dropAt 1 rfl
                      have hS_87 := hS_86.dropAt 1 rfl
                      change Sat _ _ (H :: F) at hS_87
                      refine ⟨congrArg (fun b => Ending.returned (.bool b)) ?_, hS_87⟩
                      first | (rw [Bool.eq_iff_iff]; simp [Stage.v, *]; done) | (simp [Stage.v, *]; done) | (exact (decide_eq_false (fun h => by simp_all [Stage.v])).symm) | (exact (decide_eq_true (by simp_all [Stage.v])).symm)
                  · refine sFix 78 ((p.kH : Int) == q.kH) false (beq_eq_false_iff_ne.2 hc_37) ?_
                    refine p16 (by kernel_rfl) ?_
                    refine p16 (by kernel_rfl) ?_
                    refine p16 (by kernel_rfl) ?_
                    refine p15 (by kernel_rfl) ?_
                    refine nilO ?_
                    refine thenK_n <| ?_
                    refine retE ?_
                    refine retN (vs := [.bool false]) rfl (.cons (.tmp _ _ (by kernel_rfl)) .nil) <| ?_
                    have hS_88 := hS_9.pick 2 rfl
                    try dsimp only [List.set, List.eraseIdx] at hS_88
                    have hS_89 := hS_88.dropAt 1 rfl
                    have hS_90 := hS_89.dropAt 1 rfl
                    change Sat _ _ (H :: F) at hS_90
                    refine ⟨congrArg (fun b => Ending.returned (.bool b)) ?_, hS_90⟩
                    first | (rw [Bool.eq_iff_iff]; simp [Stage.v, *]; done) | (simp [Stage.v, *]; done) | (exact (decide_eq_false (fun h => by simp_all [Stage.v])).symm) | (exact (decide_eq_true (by simp_all [Stage.v])).symm)
                · refine sFix 71 ((p.kW : Int) == q.kW) false (beq_eq_false_iff_ne.2 hc_36) ?_
                  refine p16 (by kernel_rfl) ?_
                  refine p16 (by kernel_rfl) ?_
                  refine p16 (by kernel_rfl) ?_
                  refine p16 (by kernel_rfl) ?_
                  refine p6 (by kernel_rfl) ?_
                  refine nilO ?_
                  refine thenK_n <| ?_
                  refine retE ?_
                  refine retN (vs := [.bool false]) rfl (.cons (.tmp _ _ (by kernel_rfl)) .nil) <| ?_
                  have hS_91 := hS_9.pick 2 rfl
                  try dsimp only [List.set, List.eraseIdx] at hS_91
                  have hS_92 := hS_91.dropAt 1 rfl
                  have hS_93 := hS_92.dropAt 1 rfl
                  change Sat _ _ (H :: F) at hS_93
                  refine ⟨congrArg (fun b => Ending.returned (.bool b)) ?_, hS_93⟩
                  first | (rw [Bool.eq_iff_iff]; simp [Stage.v, *]; done) | (simp [Stage.v, *]; done) | (exact (decide_eq_false (fun h => by simp_all [Stage.v])).symm) | (exact (decide_eq_true (by simp_all [Stage.v])).symm)
              · refine sFix 64 (((p.edgePolicy : Int) == q.edgePolicy) && ((p.edgeFill : Int) == q.edgeFill)) false (show (((p.edgePolicy : Int) == q.edgePolicy) && ((p.edgeFill : Int) == q.edgeFill)) = false from by simpa using hc_35) ?_
                refine p16 (by kernel_rfl) ?_
                refine p16 (by kernel_rfl) ?_
                refine p16 (by kernel_rfl) ?_
                refine p16 (by kernel_rfl) ?_
                refine p13 (by kernel_rfl) ?_
                refine nilO ?_
                refine thenK_n <| ?_
                refine retE ?_
                refine retN (vs := [.bool false]) rfl (.cons (.tmp _ _ (by kernel_rfl)) .nil) <| ?_
                have hS_94 := hS_9.pick 2 rfl
                try dsimp only [List.set, List.eraseIdx] at hS_94
                have hS_95 := hS_94.dropAt 1 rfl
                have hS_96 := hS_95.dropAt 1 rfl
                change Sat _ _ (H :: F) at hS_96
                refine ⟨congrArg (fun b => Ending.returned (.bool b)) ?_, hS_96⟩
                first | (rw [Bool.eq_iff_iff]; simp [Stage.v, *]; done) | (simp [Stage.v, *]; done) | (exact (decide_eq_false (fun h => by simp_all [Stage.v])).symm) | (exact (decide_eq_true (by simp_all [Stage.v])).symm)
            · refine sFix 57 (p.barrier == q.barrier) false (show (p.barrier == q.barrier) = false from by simpa using hc_34) ?_
              refine p16 (by kernel_rfl) ?_
              refine p16 (by kernel_rfl) ?_
              refine p16 (by kernel_rfl) ?_
              refine p16 (by kernel_rfl) ?_
              refine p16 (by kernel_rfl) ?_
              refine p4 (by kernel_rfl) ?_
              refine nilO ?_
              refine thenK_n <| ?_
              refine retE ?_
              refine retN (vs := [.bool false]) rfl (.cons (.tmp _ _ (by kernel_rfl)) .nil) <| ?_
              have hS_97 := hS_9.pick 2 rfl
              try dsimp only [List.set, List.eraseIdx] at hS_97
              have hS_98 := hS_97.dropAt 1 rfl
              have hS_99 := hS_98.dropAt 1 rfl
              change Sat _ _ (H :: F) at hS_99
              refine ⟨congrArg (fun b => Ending.returned (.bool b)) ?_, hS_99⟩
              first | (rw [Bool.eq_iff_iff]; simp [Stage.v, *]; done) | (simp [Stage.v, *]; done) | (exact (decide_eq_false (fun h => by simp_all [Stage.v])).symm) | (exact (decide_eq_true (by simp_all [Stage.v])).symm)
          · refine sFix 50 ((p.b : Int) == q.b) false (beq_eq_false_iff_ne.2 hc_33) ?_
            refine p16 (by kernel_rfl) ?_
            refine p16 (by kernel_rfl) ?_
            refine p16 (by kernel_rfl) ?_
            refine p16 (by kernel_rfl) ?_
            refine p16 (by kernel_rfl) ?_
            refine p11 (by kernel_rfl) ?_
            refine nilO ?_
            refine thenK_n <| ?_
            refine retE ?_
            refine retN (vs := [.bool false]) rfl (.cons (.tmp _ _ (by kernel_rfl)) .nil) <| ?_
            have hS_100 := hS_9.pick 2 rfl
            try dsimp only [List.set, List.eraseIdx] at hS_100
            have hS_101 := hS_100.dropAt 1 rfl
            have hS_102 := hS_101.dropAt 1 rfl
            change Sat _ _ (H :: F) at hS_102
            refine ⟨congrArg (fun b => Ending.returned (.bool b)) ?_, hS_102⟩
            first | (rw [Bool.eq_iff_iff]; simp [Stage.v, *]; done) | (simp [Stage.v, *]; done) | (exact (decide_eq_false (fun h => by simp_all [Stage.v])).symm) | (exact (decide_eq_true (by simp_all [Stage.v])).symm)
        · refine sFix 43 ((p.a : Int) == q.a) false (beq_eq_false_iff_ne.2 hc_32) ?_
          refine p16 (by kernel_rfl) ?_
          refine p16 (by kernel_rfl) ?_
          refine p16 (by kernel_rfl) ?_
          refine p16 (by kernel_rfl) ?_
          refine p16 (by kernel_rfl) ?_
          refine p16 (by kernel_rfl) ?_
          refine p2 (by kernel_rfl) ?_
          refine nilO ?_
          refine thenK_n <| ?_
          refine retE ?_
          refine retN (vs := [.bool false]) rfl (.cons (.tmp _ _ (by kernel_rfl)) .nil) <| ?_
          have hS_103 := hS_9.pick 2 rfl
          try dsimp only [List.set, List.eraseIdx] at hS_103
          have hS_104 := hS_103.dropAt 1 rfl
          have hS_105 := hS_104.dropAt 1 rfl
          change Sat _ _ (H :: F) at hS_105
          refine ⟨congrArg (fun b => Ending.returned (.bool b)) ?_, hS_105⟩
          first | (rw [Bool.eq_iff_iff]; simp [Stage.v, *]; done) | (simp [Stage.v, *]; done) | (exact (decide_eq_false (fun h => by simp_all [Stage.v])).symm) | (exact (decide_eq_true (by simp_all [Stage.v])).symm)
      · refine sFix 36 ((p.kind : Int) == q.kind) false (beq_eq_false_iff_ne.2 hc_31) ?_
        refine p16 (by kernel_rfl) ?_
        refine p16 (by kernel_rfl) ?_
        refine p16 (by kernel_rfl) ?_
        refine p16 (by kernel_rfl) ?_
        refine p16 (by kernel_rfl) ?_
        refine p16 (by kernel_rfl) ?_
        refine p9 (by kernel_rfl) ?_
        refine nilO ?_
        refine thenK_n <| ?_
        refine retE ?_
        refine retN (vs := [.bool false]) rfl (.cons (.tmp _ _ (by kernel_rfl)) .nil) <| ?_
        have hS_106 := hS_9.pick 2 rfl
        try dsimp only [List.set, List.eraseIdx] at hS_106
        have hS_107 := hS_106.dropAt 1 rfl
        have hS_108 := hS_107.dropAt 1 rfl
        change Sat _ _ (H :: F) at hS_108
        refine ⟨congrArg (fun b => Ending.returned (.bool b)) ?_, hS_108⟩
        first | (rw [Bool.eq_iff_iff]; simp [Stage.v, *]; done) | (simp [Stage.v, *]; done) | (exact (decide_eq_false (fun h => by simp_all [Stage.v])).symm) | (exact (decide_eq_true (by simp_all [Stage.v])).symm)
  · refine cT ((((p.ops.n : Nat) : Int) : Int) != ((q.ops.n : Nat) : Int)) (bne_iff_ne.2 hc_7) ?_
    refine seqE ?_
    refine regionE ?_
    refine p1 (by kernel_rfl) ?_
    refine nilO ?_
    refine thenK_n <| ?_
    refine retE (thenK_r <| ?_)
    refine retN (vs := [.bool false]) rfl (.cons (.tmp _ _ (by kernel_rfl)) .nil) <| ?_
    have hS_109 := hS_6.pick 2 rfl
    try dsimp only [List.set, List.eraseIdx] at hS_109
    have hS_110 := hS_109.dropAt 1 rfl
    have hS_111 := hS_110.dropAt 1 rfl
    change Sat _ _ (H :: F) at hS_111
    exact ⟨by rw [decide_eq_false (fun h => by have h2 := congrArg List.length (congrArg StageV.ops h); simp only [Stage.v] at h2; omega)]; rfl, hS_111⟩
theorem r19_same (W w : World) (H : Chunk) (F : List Chunk) (p : Job) (q : Job) (hp : Job.Ok [H] p) (hq : Job.Ok [H] q) (hS : Sat W w (H :: F)) :
    Calls Try.prog 12 #[.agg #[.slice p.inputs.a p.inputs.n p.inputs.k, .slice p.stages.a p.stages.n p.stages.k, .slice p.outputs.a p.outputs.n p.outputs.k, .int .i64 p.priority], .agg #[.slice q.inputs.a q.inputs.n q.inputs.k, .slice q.stages.a q.stages.n q.stages.k, .slice q.outputs.a q.outputs.n q.outputs.k, .int .i64 q.priority]] w fun e w' => e = .returned (.bool (decide (p.v = q.v))) ∧ Sat W w' (H :: F) := by
  have hl_p_inputs := hp.inputs.le; have hn_p_inputs := hp.inputs.len
  have hl_p_stages := hp.stages.le; have hn_p_stages := hp.stages.len
  have hl_p_outputs := hp.outputs.le; have hn_p_outputs := hp.outputs.len
  have hl_q_inputs := hq.inputs.le; have hn_q_inputs := hq.inputs.len
  have hl_q_stages := hq.stages.le; have hn_q_stages := hq.stages.len
  have hl_q_outputs := hq.outputs.le; have hn_q_outputs := hq.outputs.len
  refine callsE (n := 76) Try.func12 rfl rfl (Nat.le_of_ble_eq_true rfl) ?_
  refine seqE ?_
  refine regionE ?_
  refine sBox hS (.agg #[.slice p.inputs.a p.inputs.n p.inputs.k, .slice p.stages.a p.stages.n p.stages.k, .slice p.outputs.a p.outputs.n p.outputs.k, .int .i64 p.priority]) #[.slice p.inputs.a p.inputs.n p.inputs.k, .slice p.stages.a p.stages.n p.stages.k, .slice p.outputs.a p.outputs.n p.outputs.k, .int .i64 p.priority] ?_
  intro b_1 w_2 hS_3
  refine sBox hS_3 (.agg #[.slice q.inputs.a q.inputs.n q.inputs.k, .slice q.stages.a q.stages.n q.stages.k, .slice q.outputs.a q.outputs.n q.outputs.k, .int .i64 q.priority]) #[.slice q.inputs.a q.inputs.n q.inputs.k, .slice q.stages.a q.stages.n q.stages.k, .slice q.outputs.a q.outputs.n q.outputs.k, .int .i64 q.priority] ?_
  intro b_4 w_5 hS_6
  refine p1 (by kernel_rfl) ?_
  refine nilO ?_
  refine thenK_n <| ?_
  refine seqE ?_
  refine seqE ?_
  refine regionE ?_
  refine p1 (by kernel_rfl) ?_
  refine sL hS_6 1 3 (.int .i64 p.priority) (Try.isAgg3 _) ?_
  refine p1 (by kernel_rfl) ?_
  refine sL hS_6 0 3 (.int .i64 q.priority) (Try.isAgg3 _) ?_
  refine p2 (by kernel_rfl) ?_
  by_cases hc_7 : (p.priority : Int) = q.priority
  · refine sFix 12 ((p.priority : Int) != q.priority) false (bne_eq_false_iff_eq.2 hc_7) ?_
    refine p1 (by kernel_rfl) ?_
    refine guardYes rfl ⟨_, rfl, rfl, by kernel_rfl⟩ ?_
    refine sL hS_6 1 0 (.slice p.inputs.a p.inputs.n p.inputs.k) (Try.isAgg25 _) ?_
    refine p2 (by kernel_rfl) ?_
    refine guardYes rfl ⟨_, rfl, rfl, by kernel_rfl⟩ ?_
    refine sL hS_6 0 0 (.slice q.inputs.a q.inputs.n q.inputs.k) (Try.isAgg25 _) ?_
    refine p4 (by kernel_rfl) ?_
    by_cases hc_8 : (((p.inputs.n : Nat) : Int) : Int) = ((q.inputs.n : Nat) : Int)
    · refine sFix 21 ((((p.inputs.n : Nat) : Int) : Int) != ((q.inputs.n : Nat) : Int)) false (bne_eq_false_iff_eq.2 hc_8) ?_
      refine p1 (by kernel_rfl) ?_
      refine guardYes rfl ⟨_, rfl, rfl, by kernel_rfl⟩ ?_
      refine sL hS_6 1 1 (.slice p.stages.a p.stages.n p.stages.k) (Try.isAgg26 _) ?_
      refine p2 (by kernel_rfl) ?_
      refine guardYes rfl ⟨_, rfl, rfl, by kernel_rfl⟩ ?_
      refine sL hS_6 0 1 (.slice q.stages.a q.stages.n q.stages.k) (Try.isAgg26 _) ?_
      refine p4 (by kernel_rfl) ?_
      by_cases hc_9 : (((p.stages.n : Nat) : Int) : Int) = ((q.stages.n : Nat) : Int)
      · refine sFix 30 ((((p.stages.n : Nat) : Int) : Int) != ((q.stages.n : Nat) : Int)) false (bne_eq_false_iff_eq.2 hc_9) ?_
        refine p1 (by kernel_rfl) ?_
        refine guardYes rfl ⟨_, rfl, rfl, by kernel_rfl⟩ ?_
        refine sL hS_6 1 2 (.slice p.outputs.a p.outputs.n p.outputs.k) (Try.isAgg22 _) ?_
        refine p1 (by kernel_rfl) ?_
        refine guardYes rfl ⟨_, rfl, rfl, by kernel_rfl⟩ ?_
        refine sL hS_6 0 2 (.slice q.outputs.a q.outputs.n q.outputs.k) (Try.isAgg22 _) ?_
        refine guardYes rfl ⟨_, rfl, rfl, by kernel_rfl⟩ ?_
        refine sF #[.slice p.outputs.a p.outputs.n p.outputs.k, .slice q.outputs.a q.outputs.n q.outputs.k] Try.call32 (Calls.mono (r4_same W _ (List.flatten ([(b_4, .cells #[.slice q.inputs.a q.inputs.n q.inputs.k, .slice q.stages.a q.stages.n q.stages.k, .slice q.outputs.a q.outputs.n q.outputs.k, .int .i64 q.priority] 28 (0, 0))] :: [(b_1, .cells #[.slice p.inputs.a p.inputs.n p.inputs.k, .slice p.stages.a p.stages.n p.stages.k, .slice p.outputs.a p.outputs.n p.outputs.k, .int .i64 p.priority] 28 (0, 0))] :: H :: F)) [] p.outputs.a p.outputs.n p.outputs.k p.outputs.l q.outputs.a q.outputs.n q.outputs.k q.outputs.l (RdT.flat (cs := ([(b_4, .cells #[.slice q.inputs.a q.inputs.n q.inputs.k, .slice q.stages.a q.stages.n q.stages.k, .slice q.outputs.a q.outputs.n q.outputs.k, .int .i64 q.priority] 28 (0, 0))] :: [(b_1, .cells #[.slice p.inputs.a p.inputs.n p.inputs.k, .slice p.stages.a p.stages.n p.stages.k, .slice p.outputs.a p.outputs.n p.outputs.k, .int .i64 p.priority] 28 (0, 0))] :: H :: F)) (hp.outputs.up 2 rfl)) (RdT.flat (cs := ([(b_4, .cells #[.slice q.inputs.a q.inputs.n q.inputs.k, .slice q.stages.a q.stages.n q.stages.k, .slice q.outputs.a q.outputs.n q.outputs.k, .int .i64 q.priority] 28 (0, 0))] :: [(b_1, .cells #[.slice p.inputs.a p.inputs.n p.inputs.k, .slice p.stages.a p.stages.n p.stages.k, .slice p.outputs.a p.outputs.n p.outputs.k, .int .i64 p.priority] 28 (0, 0))] :: H :: F)) (hq.outputs.up 2 rfl)) hS_6.flat) ?_)
        rintro _ w_10 ⟨rfl, h_12⟩
        refine ⟨_, rfl, ?_⟩
        have hS_11 := Sat.unflat h_12; clear h_12
        try dsimp only [List.set, List.eraseIdx] at hS_11
        refine p2 (by kernel_rfl) ?_
        refine nilO ?_
        refine thenK_n <| ?_
        rcases Classical.em (p.outputs.l = q.outputs.l) with hc_13 | hc_13
        · refine cF (!decide (p.outputs.l = q.outputs.l)) (congrArg Bool.not (decide_eq_true hc_13)) ?_
          refine skipE ?_
          refine thenK_n <| ?_
          refine seqE ?_
          refine seqE ?_
          refine regionE ?_
          refine p1 (by kernel_rfl) ?_
          refine nilO ?_
          refine thenK_n <| ?_
          refine blockE ?_
          refine loopE (γ := Nat) (fun i ρ w => AllAt ρ [(0, .agg #[.slice p.inputs.a p.inputs.n p.inputs.k, .slice p.stages.a p.stages.n p.stages.k, .slice p.outputs.a p.outputs.n p.outputs.k, .int .i64 p.priority]), (1, .agg #[.slice q.inputs.a q.inputs.n q.inputs.k, .slice q.stages.a q.stages.n q.stages.k, .slice q.outputs.a q.outputs.n q.outputs.k, .int .i64 q.priority]), (2, .pointer (some ⟨b_1, 0, none⟩)), (3, .pointer (some ⟨b_4, 0, none⟩)), (7, .pointer (some ⟨b_1, 3, none⟩)), (8, .int .i64 p.priority), (9, .pointer (some ⟨b_4, 3, none⟩)), (10, .int .i64 q.priority), (11, .bool ((p.priority : Int) != q.priority)), (12, .bool false), (13, .pointer (some ⟨b_1, 0, none⟩)), (14, .slice p.inputs.a p.inputs.n p.inputs.k), (15, .int .i64 ((p.inputs.n : Nat) : Int)), (16, .pointer (some ⟨b_4, 0, none⟩)), (17, .slice q.inputs.a q.inputs.n q.inputs.k), (18, .int .i64 ((q.inputs.n : Nat) : Int)), (19, .bool ((((p.inputs.n : Nat) : Int) : Int) != ((q.inputs.n : Nat) : Int))), (20, .bool ((((p.inputs.n : Nat) : Int) : Int) != ((q.inputs.n : Nat) : Int))), (21, .bool false), (22, .pointer (some ⟨b_1, 1, none⟩)), (23, .slice p.stages.a p.stages.n p.stages.k), (24, .int .i64 ((p.stages.n : Nat) : Int)), (25, .pointer (some ⟨b_4, 1, none⟩)), (26, .slice q.stages.a q.stages.n q.stages.k), (27, .int .i64 ((q.stages.n : Nat) : Int)), (28, .bool ((((p.stages.n : Nat) : Int) : Int) != ((q.stages.n : Nat) : Int))), (29, .bool ((((p.stages.n : Nat) : Int) : Int) != ((q.stages.n : Nat) : Int))), (30, .bool false), (31, .pointer (some ⟨b_1, 2, none⟩)), (32, .slice p.outputs.a p.outputs.n p.outputs.k), (33, .pointer (some ⟨b_4, 2, none⟩)), (34, .slice q.outputs.a q.outputs.n q.outputs.k), (35, .bool (decide (p.outputs.l = q.outputs.l))), (36, .bool (!decide (p.outputs.l = q.outputs.l))), (37, .bool (!decide (p.outputs.l = q.outputs.l))), (5, .int .i64 ((i : Nat) : Int))] ∧ Sat W w ([(b_4, .cells #[.slice q.inputs.a q.inputs.n q.inputs.k, .slice q.stages.a q.stages.n q.stages.k, .slice q.outputs.a q.outputs.n q.outputs.k, .int .i64 q.priority] 28 (0, 0))] :: [(b_1, .cells #[.slice p.inputs.a p.inputs.n p.inputs.k, .slice p.stages.a p.stages.n p.stages.k, .slice p.outputs.a p.outputs.n p.outputs.k, .int .i64 p.priority] 28 (0, 0))] :: H :: F) ∧ i ≤ p.inputs.n ∧ (p.inputs.l.map Plane.v).take i = (q.inputs.l.map Plane.v).take i) (fun i => p.inputs.n - i) 0 ⟨⟨by kernel_rfl, by kernel_rfl, by kernel_rfl, by kernel_rfl, by kernel_rfl, by kernel_rfl, by kernel_rfl, by kernel_rfl, by kernel_rfl, by kernel_rfl, by kernel_rfl, by kernel_rfl, by kernel_rfl, by kernel_rfl, by kernel_rfl, by kernel_rfl, by kernel_rfl, by kernel_rfl, by kernel_rfl, by kernel_rfl, by kernel_rfl, by kernel_rfl, by kernel_rfl, by kernel_rfl, by kernel_rfl, by kernel_rfl, by kernel_rfl, by kernel_rfl, by kernel_rfl, by kernel_rfl, by kernel_rfl, by kernel_rfl, by kernel_rfl, by kernel_rfl, by kernel_rfl, by kernel_rfl, trivial⟩, hS_11, by omega, by simp⟩ ?_
          skip
          rintro i ρ w_14 ⟨hA, hS_15, hi, hE⟩
          refine cAnchor hA (fun ρ => ?_)
          clear hA
          refine seqE ?_
          refine seqE ?_
          refine regionE ?_
          refine p2 (by kernel_rfl) ?_
          refine sL hS_15 1 0 (.slice p.inputs.a p.inputs.n p.inputs.k) (Try.isAgg25 _) ?_
          refine p2 (by kernel_rfl) ?_
          refine nilO ?_
          refine thenK_n <| ?_
          by_cases hc_16 : (((i : Nat) : Int) : Int) < ((p.inputs.n : Nat) : Int)
          · refine cT (decide ((((i : Nat) : Int) : Int) < ((p.inputs.n : Nat) : Int))) (decide_eq_true hc_16) ?_
            refine skipE ?_
            refine thenK_n <| ?_
            refine seqE ?_
            refine blockE ?_
            refine seqE ?_
            obtain ⟨x_17, b_18, o_19, hx_20, hp_21, hq_22⟩ := RdT.elem hp.inputs ((i : Nat) : Int)
            rw [Int.toNat_natCast] at hx_20
            obtain ⟨x_23, b_24, o_25, hx_26, hp_27, hq_28⟩ := RdT.elem hq.inputs ((i : Nat) : Int)
            rw [Int.toNat_natCast] at hx_26
            refine drawE [10] [(1, ⟨b_1, 0, none⟩, .slice p.inputs.a p.inputs.n p.inputs.k), (4, ⟨b_18, o_19 + 0, none⟩, .int .i64 x_17.w), (4, ⟨b_18, o_19 + 1, none⟩, .int .i64 x_17.h), (4, ⟨b_18, o_19 + 2, none⟩, .int .i64 x_17.max_), (4, ⟨b_18, o_19 + 3, none⟩, .slice x_17.pix.a x_17.pix.n x_17.pix.k), (6, ⟨b_4, 0, none⟩, .slice q.inputs.a q.inputs.n q.inputs.k), (9, ⟨b_24, o_25 + 0, none⟩, .int .i64 x_23.w), (9, ⟨b_24, o_25 + 1, none⟩, .int .i64 x_23.h), (9, ⟨b_24, o_25 + 2, none⟩, .int .i64 x_23.max_), (9, ⟨b_24, o_25 + 3, none⟩, .slice x_23.pix.a x_23.pix.n x_23.pix.k)] [(true, [0, 2, 5, 7]), (true, [1]), (true, [3]), (true, [4]), (true, [6]), (true, [8]), (true, [9]), (false, [10]), (true, [11])] rfl (by kernel_rfl) ⟨.inr (hS_15.cell 1 rfl rfl), .inr ((hp_21.up 2 rfl).cell hS_15 (k := 0) rfl), .inr ((hp_21.up 2 rfl).cell hS_15 (k := 1) rfl), .inr ((hp_21.up 2 rfl).cell hS_15 (k := 2) rfl), .inr ((hp_21.up 2 rfl).cell hS_15 (k := 3) rfl), .inr (hS_15.cell 0 rfl rfl), .inr ((hp_27.up 2 rfl).cell hS_15 (k := 0) rfl), .inr ((hp_27.up 2 rfl).cell hS_15 (k := 1) rfl), .inr ((hp_27.up 2 rfl).cell hS_15 (k := 2) rfl), .inr ((hp_27.up 2 rfl).cell hS_15 (k := 3) rfl), trivial⟩ ?_
            have hS_29 := hS_15.drew
            refine wP [0, 2, 5, 7] rfl (by kernel_rfl) ?_
            refine wS (.slice p.inputs.a p.inputs.n p.inputs.k) rfl rfl rfl (fun w hF => Y_load rfl (Try.isAgg25 w) (by kernel_rfl) (hF 0 _ _ rfl)) ?_
            refine wS (.pointer (some ⟨b_18, o_19, none⟩)) rfl rfl rfl (fun w _ => Y_idx (a := p.inputs.a) (i := ((i : Nat) : Int)) (len := p.inputs.n) (cap := p.inputs.k) rfl Try.runUnderlying25 Try.sizeOf49 (by kernel_rfl) (by kernel_rfl) hq_22) ?_
            refine wS (.agg #[.int .i64 x_17.w, .int .i64 x_17.h, .int .i64 x_17.max_, .slice x_17.pix.a x_17.pix.n x_17.pix.k]) rfl rfl rfl (fun w hF => Y_loadF rfl (Try.isAgg49 w) (Try.sizeOf49 w) (by kernel_rfl) rfl ⟨hF 1 _ _ rfl, hF 2 _ _ rfl, hF 3 _ _ rfl, hF 4 _ _ rfl, trivial⟩) ?_
            refine wS (.slice q.inputs.a q.inputs.n q.inputs.k) rfl rfl rfl (fun w hF => Y_load rfl (Try.isAgg25 w) (by kernel_rfl) (hF 5 _ _ rfl)) ?_
            refine wS (.pointer (some ⟨b_24, o_25, none⟩)) rfl rfl rfl (fun w _ => Y_idx (a := q.inputs.a) (i := ((i : Nat) : Int)) (len := q.inputs.n) (cap := q.inputs.k) rfl Try.runUnderlying25 Try.sizeOf49 (by kernel_rfl) (by kernel_rfl) hq_28) ?_
            refine wS (.agg #[.int .i64 x_23.w, .int .i64 x_23.h, .int .i64 x_23.max_, .slice x_23.pix.a x_23.pix.n x_23.pix.k]) rfl rfl rfl (fun w hF => Y_loadF rfl (Try.isAgg49 w) (Try.sizeOf49 w) (by kernel_rfl) rfl ⟨hF 6 _ _ rfl, hF 7 _ _ rfl, hF 8 _ _ rfl, hF 9 _ _ rfl, trivial⟩) ?_
            refine wO rfl ?_
            refine sF #[.agg #[.int .i64 x_17.w, .int .i64 x_17.h, .int .i64 x_17.max_, .slice x_17.pix.a x_17.pix.n x_17.pix.k], .agg #[.int .i64 x_23.w, .int .i64 x_23.h, .int .i64 x_23.max_, .slice x_23.pix.a x_23.pix.n x_23.pix.k]] Try.call33 (Calls.mono (r4_equal W _ (List.flatten ([(b_4, .cells #[.slice q.inputs.a q.inputs.n q.inputs.k, .slice q.stages.a q.stages.n q.stages.k, .slice q.outputs.a q.outputs.n q.outputs.k, .int .i64 q.priority] 28 (0, 0))] :: [(b_1, .cells #[.slice p.inputs.a p.inputs.n p.inputs.k, .slice p.stages.a p.stages.n p.stages.k, .slice p.outputs.a p.outputs.n p.outputs.k, .int .i64 p.priority] 28 (0, 0))] :: H :: F)) [] x_17 x_23 ⟨(RdT.flat (cs := ([(b_4, .cells #[.slice q.inputs.a q.inputs.n q.inputs.k, .slice q.stages.a q.stages.n q.stages.k, .slice q.outputs.a q.outputs.n q.outputs.k, .int .i64 q.priority] 28 (0, 0))] :: [(b_1, .cells #[.slice p.inputs.a p.inputs.n p.inputs.k, .slice p.stages.a p.stages.n p.stages.k, .slice p.outputs.a p.outputs.n p.outputs.k, .int .i64 p.priority] 28 (0, 0))] :: H :: F)) ((hp.inputsD x_17 (List.mem_of_getElem? hx_20)).pix.up 2 rfl))⟩ ⟨(RdT.flat (cs := ([(b_4, .cells #[.slice q.inputs.a q.inputs.n q.inputs.k, .slice q.stages.a q.stages.n q.stages.k, .slice q.outputs.a q.outputs.n q.outputs.k, .int .i64 q.priority] 28 (0, 0))] :: [(b_1, .cells #[.slice p.inputs.a p.inputs.n p.inputs.k, .slice p.stages.a p.stages.n p.stages.k, .slice p.outputs.a p.outputs.n p.outputs.k, .int .i64 p.priority] 28 (0, 0))] :: H :: F)) ((hq.inputsD x_23 (List.mem_of_getElem? hx_26)).pix.up 2 rfl))⟩ hS_29.flat) ?_)
            rintro _ w_30 ⟨rfl, h_32⟩
            refine ⟨_, rfl, ?_⟩
            have hS_31 := Sat.unflat h_32; clear h_32
            try dsimp only [List.set, List.eraseIdx] at hS_31
            refine nilO ⟨⟨.inr (hS_31.cell 1 rfl rfl), .inl (by kernel_rfl), .inl (by kernel_rfl), .inl (by kernel_rfl), .inl (by kernel_rfl), .inr (hS_31.cell 0 rfl rfl), .inl (by kernel_rfl), .inl (by kernel_rfl), .inl (by kernel_rfl), .inl (by kernel_rfl), trivial⟩, ?_⟩
            refine wP [11] rfl (by kernel_rfl) ?_
            refine wN ?_
            refine thenK_n <| ?_
            rcases Classical.em (x_17.v = x_23.v) with hc_33 | hc_33
            · refine cF (!decide (x_17.v = x_23.v)) (congrArg Bool.not (decide_eq_true hc_33)) ?_
              refine skipE ?_
              refine blockK_n <| thenK_n <| ?_
              refine regionE ?_
              refine p1 (by kernel_rfl) ?_
              refine sAdd ((i : Nat) : Int) 1 ?_
              refine p1 (by kernel_rfl) ?_
              refine nilO ?_
              refine thenK_n <| ?_
              have hS_34 := hS_31.pick 2 rfl
              have hS_35 := hS_34.pick 2 rfl
              have hS_36 := hS_35.pick 2 rfl
              try dsimp only [List.set, List.eraseIdx] at hS_36
              try dsimp only [List.set, List.eraseIdx] at hS_36
              exact ⟨i + 1, by first | omega | (dsimp only; omega), ⟨by kernel_rfl, by kernel_rfl, by kernel_rfl, by kernel_rfl, by kernel_rfl, by kernel_rfl, by kernel_rfl, by kernel_rfl, by kernel_rfl, by kernel_rfl, by kernel_rfl, by kernel_rfl, by kernel_rfl, by kernel_rfl, by kernel_rfl, by kernel_rfl, by kernel_rfl, by kernel_rfl, by kernel_rfl, by kernel_rfl, by kernel_rfl, by kernel_rfl, by kernel_rfl, by kernel_rfl, by kernel_rfl, by kernel_rfl, by kernel_rfl, by kernel_rfl, by kernel_rfl, by kernel_rfl, by kernel_rfl, by kernel_rfl, by kernel_rfl, by kernel_rfl, by kernel_rfl, by kernel_rfl, trivial⟩, hS_36, by omega, take_eq_succ hE (map_at (f := Plane.v) hx_20) (map_at (f := Plane.v) hx_26) (by assumption)⟩
            · refine cT (!decide (x_17.v = x_23.v)) (congrArg Bool.not (decide_eq_false hc_33)) ?_
              refine seqE ?_
              refine regionE ?_
              refine p1 (by kernel_rfl) ?_
              refine nilO ?_
              refine thenK_n <| ?_
              refine retE (blockK_r <| thenK_r <| thenK_r <| blockK_r <| thenK_r <| ?_)
              refine retN (vs := [.bool false]) rfl (.cons (.tmp _ _ (by kernel_rfl)) .nil) <| ?_
              have hS_37 := hS_31.pick 2 rfl
              try dsimp only [List.set, List.eraseIdx] at hS_37
              have hS_38 := hS_37.dropAt 1 rfl
              have hS_39 := hS_38.dropAt 1 rfl
              change Sat _ _ (H :: F) at hS_39
              exact ⟨by rw [decide_eq_false (fun h => ne_of_at (map_at (f := Plane.v) hx_20) (map_at (f := Plane.v) hx_26) (by assumption) (congrArg JobV.inputs h))]; rfl, hS_39⟩
          · refine cF (decide ((((i : Nat) : Int) : Int) < ((p.inputs.n : Nat) : Int))) (decide_eq_false hc_16) ?_
            refine exitE (thenK_x <| thenK_x <| blockK_x <| ?_)
            refine thenK_n <| ?_
            refine seqE ?_
            refine seqE ?_
            have hin := eq_of_take hE (by simp; omega) (by simp; omega)
            refine regionE ?_
            refine p1 (by kernel_rfl) ?_
            refine nilO ?_
            refine thenK_n <| ?_
            refine blockE ?_
            refine loopE (γ := Nat) (fun i ρ w => AllAt ρ [(0, .agg #[.slice p.inputs.a p.inputs.n p.inputs.k, .slice p.stages.a p.stages.n p.stages.k, .slice p.outputs.a p.outputs.n p.outputs.k, .int .i64 p.priority]), (1, .agg #[.slice q.inputs.a q.inputs.n q.inputs.k, .slice q.stages.a q.stages.n q.stages.k, .slice q.outputs.a q.outputs.n q.outputs.k, .int .i64 q.priority]), (2, .pointer (some ⟨b_1, 0, none⟩)), (3, .pointer (some ⟨b_4, 0, none⟩)), (7, .pointer (some ⟨b_1, 3, none⟩)), (8, .int .i64 p.priority), (9, .pointer (some ⟨b_4, 3, none⟩)), (10, .int .i64 q.priority), (11, .bool ((p.priority : Int) != q.priority)), (12, .bool false), (13, .pointer (some ⟨b_1, 0, none⟩)), (14, .slice p.inputs.a p.inputs.n p.inputs.k), (15, .int .i64 ((p.inputs.n : Nat) : Int)), (16, .pointer (some ⟨b_4, 0, none⟩)), (17, .slice q.inputs.a q.inputs.n q.inputs.k), (18, .int .i64 ((q.inputs.n : Nat) : Int)), (19, .bool ((((p.inputs.n : Nat) : Int) : Int) != ((q.inputs.n : Nat) : Int))), (20, .bool ((((p.inputs.n : Nat) : Int) : Int) != ((q.inputs.n : Nat) : Int))), (21, .bool false), (22, .pointer (some ⟨b_1, 1, none⟩)), (23, .slice p.stages.a p.stages.n p.stages.k), (24, .int .i64 ((p.stages.n : Nat) : Int)), (25, .pointer (some ⟨b_4, 1, none⟩)), (26, .slice q.stages.a q.stages.n q.stages.k), (27, .int .i64 ((q.stages.n : Nat) : Int)), (28, .bool ((((p.stages.n : Nat) : Int) : Int) != ((q.stages.n : Nat) : Int))), (29, .bool ((((p.stages.n : Nat) : Int) : Int) != ((q.stages.n : Nat) : Int))), (30, .bool false), (31, .pointer (some ⟨b_1, 2, none⟩)), (32, .slice p.outputs.a p.outputs.n p.outputs.k), (33, .pointer (some ⟨b_4, 2, none⟩)), (34, .slice q.outputs.a q.outputs.n q.outputs.k), (35, .bool (decide (p.outputs.l = q.outputs.l))), (36, .bool (!decide (p.outputs.l = q.outputs.l))), (37, .bool (!decide (p.outputs.l = q.outputs.l))), (39, .pointer (some ⟨b_1, 0, none⟩)), (40, .slice p.inputs.a p.inputs.n p.inputs.k), (41, .int .i64 ((p.inputs.n : Nat) : Int)), (6, .int .i64 ((i : Nat) : Int))] ∧ Sat W w ([(b_4, .cells #[.slice q.inputs.a q.inputs.n q.inputs.k, .slice q.stages.a q.stages.n q.stages.k, .slice q.outputs.a q.outputs.n q.outputs.k, .int .i64 q.priority] 28 (0, 0))] :: [(b_1, .cells #[.slice p.inputs.a p.inputs.n p.inputs.k, .slice p.stages.a p.stages.n p.stages.k, .slice p.outputs.a p.outputs.n p.outputs.k, .int .i64 p.priority] 28 (0, 0))] :: H :: F) ∧ i ≤ p.stages.n ∧ (p.stages.l.map Stage.v).take i = (q.stages.l.map Stage.v).take i) (fun i => p.stages.n - i) 0 ⟨⟨by kernel_rfl, by kernel_rfl, by kernel_rfl, by kernel_rfl, by kernel_rfl, by kernel_rfl, by kernel_rfl, by kernel_rfl, by kernel_rfl, by kernel_rfl, by kernel_rfl, by kernel_rfl, by kernel_rfl, by kernel_rfl, by kernel_rfl, by kernel_rfl, by kernel_rfl, by kernel_rfl, by kernel_rfl, by kernel_rfl, by kernel_rfl, by kernel_rfl, by kernel_rfl, by kernel_rfl, by kernel_rfl, by kernel_rfl, by kernel_rfl, by kernel_rfl, by kernel_rfl, by kernel_rfl, by kernel_rfl, by kernel_rfl, by kernel_rfl, by kernel_rfl, by kernel_rfl, by kernel_rfl, by kernel_rfl, by kernel_rfl, by kernel_rfl, trivial⟩, hS_15, by omega, by simp⟩ ?_
            skip
            rintro i ρ w_40 ⟨hA, hS_41, hi, hE⟩
            refine cAnchor hA (fun ρ => ?_)
            clear hA
            refine seqE ?_
            refine seqE ?_
            refine regionE ?_
            refine p2 (by kernel_rfl) ?_
            refine sL hS_41 1 1 (.slice p.stages.a p.stages.n p.stages.k) (Try.isAgg26 _) ?_
            refine p2 (by kernel_rfl) ?_
            refine nilO ?_
            refine thenK_n <| ?_
            by_cases hc_42 : (((i : Nat) : Int) : Int) < ((p.stages.n : Nat) : Int)
            · refine cT (decide ((((i : Nat) : Int) : Int) < ((p.stages.n : Nat) : Int))) (decide_eq_true hc_42) ?_
              refine skipE ?_
              refine thenK_n <| ?_
              refine seqE ?_
              refine blockE ?_
              refine seqE ?_
              obtain ⟨x_43, b_44, o_45, hx_46, hp_47, hq_48⟩ := RdT.elem hp.stages ((i : Nat) : Int)
              rw [Int.toNat_natCast] at hx_46
              obtain ⟨x_49, b_50, o_51, hx_52, hp_53, hq_54⟩ := RdT.elem hq.stages ((i : Nat) : Int)
              rw [Int.toNat_natCast] at hx_52
              refine drawE [10] [(1, ⟨b_1, 1, none⟩, .slice p.stages.a p.stages.n p.stages.k), (4, ⟨b_44, o_45 + 0, none⟩, .int .i64 x_43.kind), (4, ⟨b_44, o_45 + 1, none⟩, .int .i64 x_43.a), (4, ⟨b_44, o_45 + 2, none⟩, .int .i64 x_43.b), (4, ⟨b_44, o_45 + 3, none⟩, .bool x_43.barrier), (4, ⟨b_44, o_45 + 4, none⟩, .int .i64 x_43.edgePolicy), (4, ⟨b_44, o_45 + 5, none⟩, .int .i64 x_43.edgeFill), (4, ⟨b_44, o_45 + 6, none⟩, .int .i64 x_43.kW), (4, ⟨b_44, o_45 + 7, none⟩, .int .i64 x_43.kH), (4, ⟨b_44, o_45 + 8, none⟩, .slice x_43.weights.a x_43.weights.n x_43.weights.k), (4, ⟨b_44, o_45 + 9, none⟩, .slice x_43.row.a x_43.row.n x_43.row.k), (4, ⟨b_44, o_45 + 10, none⟩, .slice x_43.col.a x_43.col.n x_43.col.k), (4, ⟨b_44, o_45 + 11, none⟩, .int .i64 x_43.shift), (4, ⟨b_44, o_45 + 12, none⟩, .int .i64 x_43.shift2), (4, ⟨b_44, o_45 + 13, none⟩, .slice x_43.x.a x_43.x.n x_43.x.k), (4, ⟨b_44, o_45 + 14, none⟩, .slice x_43.y.a x_43.y.n x_43.y.k), (4, ⟨b_44, o_45 + 15, none⟩, .int .i64 x_43.bins), (4, ⟨b_44, o_45 + 16, none⟩, .slice x_43.ops.a x_43.ops.n x_43.ops.k), (4, ⟨b_44, o_45 + 17, none⟩, .int .i64 x_43.max_), (6, ⟨b_4, 1, none⟩, .slice q.stages.a q.stages.n q.stages.k), (9, ⟨b_50, o_51 + 0, none⟩, .int .i64 x_49.kind), (9, ⟨b_50, o_51 + 1, none⟩, .int .i64 x_49.a), (9, ⟨b_50, o_51 + 2, none⟩, .int .i64 x_49.b), (9, ⟨b_50, o_51 + 3, none⟩, .bool x_49.barrier), (9, ⟨b_50, o_51 + 4, none⟩, .int .i64 x_49.edgePolicy), (9, ⟨b_50, o_51 + 5, none⟩, .int .i64 x_49.edgeFill), (9, ⟨b_50, o_51 + 6, none⟩, .int .i64 x_49.kW), (9, ⟨b_50, o_51 + 7, none⟩, .int .i64 x_49.kH), (9, ⟨b_50, o_51 + 8, none⟩, .slice x_49.weights.a x_49.weights.n x_49.weights.k), (9, ⟨b_50, o_51 + 9, none⟩, .slice x_49.row.a x_49.row.n x_49.row.k), (9, ⟨b_50, o_51 + 10, none⟩, .slice x_49.col.a x_49.col.n x_49.col.k), (9, ⟨b_50, o_51 + 11, none⟩, .int .i64 x_49.shift), (9, ⟨b_50, o_51 + 12, none⟩, .int .i64 x_49.shift2), (9, ⟨b_50, o_51 + 13, none⟩, .slice x_49.x.a x_49.x.n x_49.x.k), (9, ⟨b_50, o_51 + 14, none⟩, .slice x_49.y.a x_49.y.n x_49.y.k), (9, ⟨b_50, o_51 + 15, none⟩, .int .i64 x_49.bins), (9, ⟨b_50, o_51 + 16, none⟩, .slice x_49.ops.a x_49.ops.n x_49.ops.k), (9, ⟨b_50, o_51 + 17, none⟩, .int .i64 x_49.max_)] [(true, [0, 2, 5, 7]), (true, [1]), (true, [3]), (true, [4]), (true, [6]), (true, [8]), (true, [9]), (false, [10]), (true, [11])] rfl (by kernel_rfl) ⟨.inr (hS_41.cell 1 rfl rfl), .inr ((hp_47.up 2 rfl).cell hS_41 (k := 0) rfl), .inr ((hp_47.up 2 rfl).cell hS_41 (k := 1) rfl), .inr ((hp_47.up 2 rfl).cell hS_41 (k := 2) rfl), .inr ((hp_47.up 2 rfl).cell hS_41 (k := 3) rfl), .inr ((hp_47.up 2 rfl).cell hS_41 (k := 4) rfl), .inr ((hp_47.up 2 rfl).cell hS_41 (k := 5) rfl), .inr ((hp_47.up 2 rfl).cell hS_41 (k := 6) rfl), .inr ((hp_47.up 2 rfl).cell hS_41 (k := 7) rfl), .inr ((hp_47.up 2 rfl).cell hS_41 (k := 8) rfl), .inr ((hp_47.up 2 rfl).cell hS_41 (k := 9) rfl), .inr ((hp_47.up 2 rfl).cell hS_41 (k := 10) rfl), .inr ((hp_47.up 2 rfl).cell hS_41 (k := 11) rfl), .inr ((hp_47.up 2 rfl).cell hS_41 (k := 12) rfl), .inr ((hp_47.up 2 rfl).cell hS_41 (k := 13) rfl), .inr ((hp_47.up 2 rfl).cell hS_41 (k := 14) rfl), .inr ((hp_47.up 2 rfl).cell hS_41 (k := 15) rfl), .inr ((hp_47.up 2 rfl).cell hS_41 (k := 16) rfl), .inr ((hp_47.up 2 rfl).cell hS_41 (k := 17) rfl), .inr (hS_41.cell 0 rfl rfl), .inr ((hp_53.up 2 rfl).cell hS_41 (k := 0) rfl), .inr ((hp_53.up 2 rfl).cell hS_41 (k := 1) rfl), .inr ((hp_53.up 2 rfl).cell hS_41 (k := 2) rfl), .inr ((hp_53.up 2 rfl).cell hS_41 (k := 3) rfl), .inr ((hp_53.up 2 rfl).cell hS_41 (k := 4) rfl), .inr ((hp_53.up 2 rfl).cell hS_41 (k := 5) rfl), .inr ((hp_53.up 2 rfl).cell hS_41 (k := 6) rfl), .inr ((hp_53.up 2 rfl).cell hS_41 (k := 7) rfl), .inr ((hp_53.up 2 rfl).cell hS_41 (k := 8) rfl), .inr ((hp_53.up 2 rfl).cell hS_41 (k := 9) rfl), .inr ((hp_53.up 2 rfl).cell hS_41 (k := 10) rfl), .inr ((hp_53.up 2 rfl).cell hS_41 (k := 11) rfl), .inr ((hp_53.up 2 rfl).cell hS_41 (k := 12) rfl), .inr ((hp_53.up 2 rfl).cell hS_41 (k := 13) rfl), .inr ((hp_53.up 2 rfl).cell hS_41 (k := 14) rfl), .inr ((hp_53.up 2 rfl).cell hS_41 (k := 15) rfl), .inr ((hp_53.up 2 rfl).cell hS_41 (k := 16) rfl), .inr ((hp_53.up 2 rfl).cell hS_41 (k := 17) rfl), trivial⟩ ?_
              have hS_55 := hS_41.drew
              refine wP [0, 2, 5, 7] rfl (by kernel_rfl) ?_
              refine wS (.slice p.stages.a p.stages.n p.stages.k) rfl rfl rfl (fun w hF => Y_load rfl (Try.isAgg26 w) (by kernel_rfl) (hF 0 _ _ rfl)) ?_
              refine wS (.pointer (some ⟨b_44, o_45, none⟩)) rfl rfl rfl (fun w _ => Y_idx (a := p.stages.a) (i := ((i : Nat) : Int)) (len := p.stages.n) (cap := p.stages.k) rfl Try.runUnderlying26 Try.sizeOf61 (by kernel_rfl) (by kernel_rfl) hq_48) ?_
              refine wS (.agg #[.int .i64 x_43.kind, .int .i64 x_43.a, .int .i64 x_43.b, .bool x_43.barrier, .int .i64 x_43.edgePolicy, .int .i64 x_43.edgeFill, .int .i64 x_43.kW, .int .i64 x_43.kH, .slice x_43.weights.a x_43.weights.n x_43.weights.k, .slice x_43.row.a x_43.row.n x_43.row.k, .slice x_43.col.a x_43.col.n x_43.col.k, .int .i64 x_43.shift, .int .i64 x_43.shift2, .slice x_43.x.a x_43.x.n x_43.x.k, .slice x_43.y.a x_43.y.n x_43.y.k, .int .i64 x_43.bins, .slice x_43.ops.a x_43.ops.n x_43.ops.k, .int .i64 x_43.max_]) rfl rfl rfl (fun w hF => Y_loadF rfl (Try.isAgg61 w) (Try.sizeOf61 w) (by kernel_rfl) rfl ⟨hF 1 _ _ rfl, hF 2 _ _ rfl, hF 3 _ _ rfl, hF 4 _ _ rfl, hF 5 _ _ rfl, hF 6 _ _ rfl, hF 7 _ _ rfl, hF 8 _ _ rfl, hF 9 _ _ rfl, hF 10 _ _ rfl, hF 11 _ _ rfl, hF 12 _ _ rfl, hF 13 _ _ rfl, hF 14 _ _ rfl, hF 15 _ _ rfl, hF 16 _ _ rfl, hF 17 _ _ rfl, hF 18 _ _ rfl, trivial⟩) ?_
              refine wS (.slice q.stages.a q.stages.n q.stages.k) rfl rfl rfl (fun w hF => Y_load rfl (Try.isAgg26 w) (by kernel_rfl) (hF 19 _ _ rfl)) ?_
              refine wS (.pointer (some ⟨b_50, o_51, none⟩)) rfl rfl rfl (fun w _ => Y_idx (a := q.stages.a) (i := ((i : Nat) : Int)) (len := q.stages.n) (cap := q.stages.k) rfl Try.runUnderlying26 Try.sizeOf61 (by kernel_rfl) (by kernel_rfl) hq_54) ?_
              refine wS (.agg #[.int .i64 x_49.kind, .int .i64 x_49.a, .int .i64 x_49.b, .bool x_49.barrier, .int .i64 x_49.edgePolicy, .int .i64 x_49.edgeFill, .int .i64 x_49.kW, .int .i64 x_49.kH, .slice x_49.weights.a x_49.weights.n x_49.weights.k, .slice x_49.row.a x_49.row.n x_49.row.k, .slice x_49.col.a x_49.col.n x_49.col.k, .int .i64 x_49.shift, .int .i64 x_49.shift2, .slice x_49.x.a x_49.x.n x_49.x.k, .slice x_49.y.a x_49.y.n x_49.y.k, .int .i64 x_49.bins, .slice x_49.ops.a x_49.ops.n x_49.ops.k, .int .i64 x_49.max_]) rfl rfl rfl (fun w hF => Y_loadF rfl (Try.isAgg61 w) (Try.sizeOf61 w) (by kernel_rfl) rfl ⟨hF 20 _ _ rfl, hF 21 _ _ rfl, hF 22 _ _ rfl, hF 23 _ _ rfl, hF 24 _ _ rfl, hF 25 _ _ rfl, hF 26 _ _ rfl, hF 27 _ _ rfl, hF 28 _ _ rfl, hF 29 _ _ rfl, hF 30 _ _ rfl, hF 31 _ _ rfl, hF 32 _ _ rfl, hF 33 _ _ rfl, hF 34 _ _ rfl, hF 35 _ _ rfl, hF 36 _ _ rfl, hF 37 _ _ rfl, trivial⟩) ?_
              refine wO rfl ?_
              refine sF #[.agg #[.int .i64 x_43.kind, .int .i64 x_43.a, .int .i64 x_43.b, .bool x_43.barrier, .int .i64 x_43.edgePolicy, .int .i64 x_43.edgeFill, .int .i64 x_43.kW, .int .i64 x_43.kH, .slice x_43.weights.a x_43.weights.n x_43.weights.k, .slice x_43.row.a x_43.row.n x_43.row.k, .slice x_43.col.a x_43.col.n x_43.col.k, .int .i64 x_43.shift, .int .i64 x_43.shift2, .slice x_43.x.a x_43.x.n x_43.x.k, .slice x_43.y.a x_43.y.n x_43.y.k, .int .i64 x_43.bins, .slice x_43.ops.a x_43.ops.n x_43.ops.k, .int .i64 x_43.max_], .agg #[.int .i64 x_49.kind, .int .i64 x_49.a, .int .i64 x_49.b, .bool x_49.barrier, .int .i64 x_49.edgePolicy, .int .i64 x_49.edgeFill, .int .i64 x_49.kW, .int .i64 x_49.kH, .slice x_49.weights.a x_49.weights.n x_49.weights.k, .slice x_49.row.a x_49.row.n x_49.row.k, .slice x_49.col.a x_49.col.n x_49.col.k, .int .i64 x_49.shift, .int .i64 x_49.shift2, .slice x_49.x.a x_49.x.n x_49.x.k, .slice x_49.y.a x_49.y.n x_49.y.k, .int .i64 x_49.bins, .slice x_49.ops.a x_49.ops.n x_49.ops.k, .int .i64 x_49.max_]] Try.call34 (Calls.mono (r19_stage W _ (List.flatten ([(b_4, .cells #[.slice q.inputs.a q.inputs.n q.inputs.k, .slice q.stages.a q.stages.n q.stages.k, .slice q.outputs.a q.outputs.n q.outputs.k, .int .i64 q.priority] 28 (0, 0))] :: [(b_1, .cells #[.slice p.inputs.a p.inputs.n p.inputs.k, .slice p.stages.a p.stages.n p.stages.k, .slice p.outputs.a p.outputs.n p.outputs.k, .int .i64 p.priority] 28 (0, 0))] :: H :: F)) [] x_43 x_49 ⟨(RdT.flat (cs := ([(b_4, .cells #[.slice q.inputs.a q.inputs.n q.inputs.k, .slice q.stages.a q.stages.n q.stages.k, .slice q.outputs.a q.outputs.n q.outputs.k, .int .i64 q.priority] 28 (0, 0))] :: [(b_1, .cells #[.slice p.inputs.a p.inputs.n p.inputs.k, .slice p.stages.a p.stages.n p.stages.k, .slice p.outputs.a p.outputs.n p.outputs.k, .int .i64 p.priority] 28 (0, 0))] :: H :: F)) ((hp.stagesD x_43 (List.mem_of_getElem? hx_46)).weights.up 2 rfl)), (RdT.flat (cs := ([(b_4, .cells #[.slice q.inputs.a q.inputs.n q.inputs.k, .slice q.stages.a q.stages.n q.stages.k, .slice q.outputs.a q.outputs.n q.outputs.k, .int .i64 q.priority] 28 (0, 0))] :: [(b_1, .cells #[.slice p.inputs.a p.inputs.n p.inputs.k, .slice p.stages.a p.stages.n p.stages.k, .slice p.outputs.a p.outputs.n p.outputs.k, .int .i64 p.priority] 28 (0, 0))] :: H :: F)) ((hp.stagesD x_43 (List.mem_of_getElem? hx_46)).row.up 2 rfl)), (RdT.flat (cs := ([(b_4, .cells #[.slice q.inputs.a q.inputs.n q.inputs.k, .slice q.stages.a q.stages.n q.stages.k, .slice q.outputs.a q.outputs.n q.outputs.k, .int .i64 q.priority] 28 (0, 0))] :: [(b_1, .cells #[.slice p.inputs.a p.inputs.n p.inputs.k, .slice p.stages.a p.stages.n p.stages.k, .slice p.outputs.a p.outputs.n p.outputs.k, .int .i64 p.priority] 28 (0, 0))] :: H :: F)) ((hp.stagesD x_43 (List.mem_of_getElem? hx_46)).col.up 2 rfl)), (RdT.flat (cs := ([(b_4, .cells #[.slice q.inputs.a q.inputs.n q.inputs.k, .slice q.stages.a q.stages.n q.stages.k, .slice q.outputs.a q.outputs.n q.outputs.k, .int .i64 q.priority] 28 (0, 0))] :: [(b_1, .cells #[.slice p.inputs.a p.inputs.n p.inputs.k, .slice p.stages.a p.stages.n p.stages.k, .slice p.outputs.a p.outputs.n p.outputs.k, .int .i64 p.priority] 28 (0, 0))] :: H :: F)) ((hp.stagesD x_43 (List.mem_of_getElem? hx_46)).x.up 2 rfl)), (fun z hz => ((hp.stagesD x_43 (List.mem_of_getElem? hx_46)).xD z hz).of_mem (mem_flat1 (cs := ([(b_4, .cells #[.slice q.inputs.a q.inputs.n q.inputs.k, .slice q.stages.a q.stages.n q.stages.k, .slice q.outputs.a q.outputs.n q.outputs.k, .int .i64 q.priority] 28 (0, 0))] :: [(b_1, .cells #[.slice p.inputs.a p.inputs.n p.inputs.k, .slice p.stages.a p.stages.n p.stages.k, .slice p.outputs.a p.outputs.n p.outputs.k, .int .i64 p.priority] 28 (0, 0))] :: H :: F)) 2 rfl)), (RdT.flat (cs := ([(b_4, .cells #[.slice q.inputs.a q.inputs.n q.inputs.k, .slice q.stages.a q.stages.n q.stages.k, .slice q.outputs.a q.outputs.n q.outputs.k, .int .i64 q.priority] 28 (0, 0))] :: [(b_1, .cells #[.slice p.inputs.a p.inputs.n p.inputs.k, .slice p.stages.a p.stages.n p.stages.k, .slice p.outputs.a p.outputs.n p.outputs.k, .int .i64 p.priority] 28 (0, 0))] :: H :: F)) ((hp.stagesD x_43 (List.mem_of_getElem? hx_46)).y.up 2 rfl)), (fun z hz => ((hp.stagesD x_43 (List.mem_of_getElem? hx_46)).yD z hz).of_mem (mem_flat1 (cs := ([(b_4, .cells #[.slice q.inputs.a q.inputs.n q.inputs.k, .slice q.stages.a q.stages.n q.stages.k, .slice q.outputs.a q.outputs.n q.outputs.k, .int .i64 q.priority] 28 (0, 0))] :: [(b_1, .cells #[.slice p.inputs.a p.inputs.n p.inputs.k, .slice p.stages.a p.stages.n p.stages.k, .slice p.outputs.a p.outputs.n p.outputs.k, .int .i64 p.priority] 28 (0, 0))] :: H :: F)) 2 rfl)), (RdT.flat (cs := ([(b_4, .cells #[.slice q.inputs.a q.inputs.n q.inputs.k, .slice q.stages.a q.stages.n q.stages.k, .slice q.outputs.a q.outputs.n q.outputs.k, .int .i64 q.priority] 28 (0, 0))] :: [(b_1, .cells #[.slice p.inputs.a p.inputs.n p.inputs.k, .slice p.stages.a p.stages.n p.stages.k, .slice p.outputs.a p.outputs.n p.outputs.k, .int .i64 p.priority] 28 (0, 0))] :: H :: F)) ((hp.stagesD x_43 (List.mem_of_getElem? hx_46)).ops.up 2 rfl))⟩ ⟨(RdT.flat (cs := ([(b_4, .cells #[.slice q.inputs.a q.inputs.n q.inputs.k, .slice q.stages.a q.stages.n q.stages.k, .slice q.outputs.a q.outputs.n q.outputs.k, .int .i64 q.priority] 28 (0, 0))] :: [(b_1, .cells #[.slice p.inputs.a p.inputs.n p.inputs.k, .slice p.stages.a p.stages.n p.stages.k, .slice p.outputs.a p.outputs.n p.outputs.k, .int .i64 p.priority] 28 (0, 0))] :: H :: F)) ((hq.stagesD x_49 (List.mem_of_getElem? hx_52)).weights.up 2 rfl)), (RdT.flat (cs := ([(b_4, .cells #[.slice q.inputs.a q.inputs.n q.inputs.k, .slice q.stages.a q.stages.n q.stages.k, .slice q.outputs.a q.outputs.n q.outputs.k, .int .i64 q.priority] 28 (0, 0))] :: [(b_1, .cells #[.slice p.inputs.a p.inputs.n p.inputs.k, .slice p.stages.a p.stages.n p.stages.k, .slice p.outputs.a p.outputs.n p.outputs.k, .int .i64 p.priority] 28 (0, 0))] :: H :: F)) ((hq.stagesD x_49 (List.mem_of_getElem? hx_52)).row.up 2 rfl)), (RdT.flat (cs := ([(b_4, .cells #[.slice q.inputs.a q.inputs.n q.inputs.k, .slice q.stages.a q.stages.n q.stages.k, .slice q.outputs.a q.outputs.n q.outputs.k, .int .i64 q.priority] 28 (0, 0))] :: [(b_1, .cells #[.slice p.inputs.a p.inputs.n p.inputs.k, .slice p.stages.a p.stages.n p.stages.k, .slice p.outputs.a p.outputs.n p.outputs.k, .int .i64 p.priority] 28 (0, 0))] :: H :: F)) ((hq.stagesD x_49 (List.mem_of_getElem? hx_52)).col.up 2 rfl)), (RdT.flat (cs := ([(b_4, .cells #[.slice q.inputs.a q.inputs.n q.inputs.k, .slice q.stages.a q.stages.n q.stages.k, .slice q.outputs.a q.outputs.n q.outputs.k, .int .i64 q.priority] 28 (0, 0))] :: [(b_1, .cells #[.slice p.inputs.a p.inputs.n p.inputs.k, .slice p.stages.a p.stages.n p.stages.k, .slice p.outputs.a p.outputs.n p.outputs.k, .int .i64 p.priority] 28 (0, 0))] :: H :: F)) ((hq.stagesD x_49 (List.mem_of_getElem? hx_52)).x.up 2 rfl)), (fun z hz => ((hq.stagesD x_49 (List.mem_of_getElem? hx_52)).xD z hz).of_mem (mem_flat1 (cs := ([(b_4, .cells #[.slice q.inputs.a q.inputs.n q.inputs.k, .slice q.stages.a q.stages.n q.stages.k, .slice q.outputs.a q.outputs.n q.outputs.k, .int .i64 q.priority] 28 (0, 0))] :: [(b_1, .cells #[.slice p.inputs.a p.inputs.n p.inputs.k, .slice p.stages.a p.stages.n p.stages.k, .slice p.outputs.a p.outputs.n p.outputs.k, .int .i64 p.priority] 28 (0, 0))] :: H :: F)) 2 rfl)), (RdT.flat (cs := ([(b_4, .cells #[.slice q.inputs.a q.inputs.n q.inputs.k, .slice q.stages.a q.stages.n q.stages.k, .slice q.outputs.a q.outputs.n q.outputs.k, .int .i64 q.priority] 28 (0, 0))] :: [(b_1, .cells #[.slice p.inputs.a p.inputs.n p.inputs.k, .slice p.stages.a p.stages.n p.stages.k, .slice p.outputs.a p.outputs.n p.outputs.k, .int .i64 p.priority] 28 (0, 0))] :: H :: F)) ((hq.stagesD x_49 (List.mem_of_getElem? hx_52)).y.up 2 rfl)), (fun z hz => ((hq.stagesD x_49 (List.mem_of_getElem? hx_52)).yD z hz).of_mem (mem_flat1 (cs := ([(b_4, .cells #[.slice q.inputs.a q.inputs.n q.inputs.k, .slice q.stages.a q.stages.n q.stages.k, .slice q.outputs.a q.outputs.n q.outputs.k, .int .i64 q.priority] 28 (0, 0))] :: [(b_1, .cells #[.slice p.inputs.a p.inputs.n p.inputs.k, .slice p.stages.a p.stages.n p.stages.k, .slice p.outputs.a p.outputs.n p.outputs.k, .int .i64 p.priority] 28 (0, 0))] :: H :: F)) 2 rfl)), (RdT.flat (cs := ([(b_4, .cells #[.slice q.inputs.a q.inputs.n q.inputs.k, .slice q.stages.a q.stages.n q.stages.k, .slice q.outputs.a q.outputs.n q.outputs.k, .int .i64 q.priority] 28 (0, 0))] :: [(b_1, .cells #[.slice p.inputs.a p.inputs.n p.inputs.k, .slice p.stages.a p.stages.n p.stages.k, .slice p.outputs.a p.outputs.n p.outputs.k, .int .i64 p.priority] 28 (0, 0))] :: H :: F)) ((hq.stagesD x_49 (List.mem_of_getElem? hx_52)).ops.up 2 rfl))⟩ hS_55.flat) ?_)
              rintro _ w_56 ⟨rfl, h_58⟩
              refine ⟨_, rfl, ?_⟩
              have hS_57 := Sat.unflat h_58; clear h_58
              try dsimp only [List.set, List.eraseIdx] at hS_57
              refine nilO ⟨⟨.inr (hS_57.cell 1 rfl rfl), .inl (by kernel_rfl), .inl (by kernel_rfl), .inl (by kernel_rfl), .inl (by kernel_rfl), .inl (by kernel_rfl), .inl (by kernel_rfl), .inl (by kernel_rfl), .inl (by kernel_rfl), .inl (by kernel_rfl), .inl (by kernel_rfl), .inl (by kernel_rfl), .inl (by kernel_rfl), .inl (by kernel_rfl), .inl (by kernel_rfl), .inl (by kernel_rfl), .inl (by kernel_rfl), .inl (by kernel_rfl), .inl (by kernel_rfl), .inr (hS_57.cell 0 rfl rfl), .inl (by kernel_rfl), .inl (by kernel_rfl), .inl (by kernel_rfl), .inl (by kernel_rfl), .inl (by kernel_rfl), .inl (by kernel_rfl), .inl (by kernel_rfl), .inl (by kernel_rfl), .inl (by kernel_rfl), .inl (by kernel_rfl), .inl (by kernel_rfl), .inl (by kernel_rfl), .inl (by kernel_rfl), .inl (by kernel_rfl), .inl (by kernel_rfl), .inl (by kernel_rfl), .inl (by kernel_rfl), .inl (by kernel_rfl), trivial⟩, ?_⟩
              refine wP [11] rfl (by kernel_rfl) ?_
              refine wN ?_
              refine thenK_n <| ?_
              rcases Classical.em (x_43.v = x_49.v) with hc_59 | hc_59
              · refine cF (!decide (x_43.v = x_49.v)) (congrArg Bool.not (decide_eq_true hc_59)) ?_
                refine skipE ?_
                refine blockK_n <| thenK_n <| ?_
                refine regionE ?_
                refine p1 (by kernel_rfl) ?_
                refine sAdd ((i : Nat) : Int) 1 ?_
                refine p1 (by kernel_rfl) ?_
                refine nilO ?_
                refine thenK_n <| ?_
                have hS_60 := hS_57.pick 2 rfl
                have hS_61 := hS_60.pick 2 rfl
                have hS_62 := hS_61.pick 2 rfl
                try dsimp only [List.set, List.eraseIdx] at hS_62
                try dsimp only [List.set, List.eraseIdx] at hS_62
                exact ⟨i + 1, by first | omega | (dsimp only; omega), ⟨by kernel_rfl, by kernel_rfl, by kernel_rfl, by kernel_rfl, by kernel_rfl, by kernel_rfl, by kernel_rfl, by kernel_rfl, by kernel_rfl, by kernel_rfl, by kernel_rfl, by kernel_rfl, by kernel_rfl, by kernel_rfl, by kernel_rfl, by kernel_rfl, by kernel_rfl, by kernel_rfl, by kernel_rfl, by kernel_rfl, by kernel_rfl, by kernel_rfl, by kernel_rfl, by kernel_rfl, by kernel_rfl, by kernel_rfl, by kernel_rfl, by kernel_rfl, by kernel_rfl, by kernel_rfl, by kernel_rfl, by kernel_rfl, by kernel_rfl, by kernel_rfl, by kernel_rfl, by kernel_rfl, by kernel_rfl, by kernel_rfl, by kernel_rfl, trivial⟩, hS_62, by omega, take_eq_succ hE (map_at (f := Stage.v) hx_46) (map_at (f := Stage.v) hx_52) (by assumption)⟩
              · refine cT (!decide (x_43.v = x_49.v)) (congrArg Bool.not (decide_eq_false hc_59)) ?_
                refine seqE ?_
                refine regionE ?_
                refine p1 (by kernel_rfl) ?_
                refine nilO ?_
                refine thenK_n <| ?_
                refine retE (blockK_r <| thenK_r <| thenK_r <| blockK_r <| thenK_r <| ?_)
                refine retN (vs := [.bool false]) rfl (.cons (.tmp _ _ (by kernel_rfl)) .nil) <| ?_
                have hS_63 := hS_57.pick 2 rfl
                try dsimp only [List.set, List.eraseIdx] at hS_63
                have hS_64 := hS_63.dropAt 1 rfl
                have hS_65 := hS_64.dropAt 1 rfl
                change Sat _ _ (H :: F) at hS_65
                exact ⟨by rw [decide_eq_false (fun h => ne_of_at (map_at (f := Stage.v) hx_46) (map_at (f := Stage.v) hx_52) (by assumption) (congrArg JobV.stages h))]; rfl, hS_65⟩
            · refine cF (decide ((((i : Nat) : Int) : Int) < ((p.stages.n : Nat) : Int))) (decide_eq_false hc_42) ?_
              refine exitE (thenK_x <| thenK_x <| blockK_x <| ?_)
              refine thenK_n <| ?_
              refine seqE ?_
              refine regionE ?_
              refine p1 (by kernel_rfl) ?_
              refine nilO ?_
              refine thenK_n <| ?_
              refine retE ?_
              refine retN (vs := [.bool true]) rfl (.cons (.tmp _ _ (by kernel_rfl)) .nil) <| ?_
              have hS_66 := hS_41.pick 2 rfl
              try dsimp only [List.set, List.eraseIdx] at hS_66
              have hS_67 := hS_66.dropAt 1 rfl
              have hS_68 := hS_67.dropAt 1 rfl
              change Sat _ _ (H :: F) at hS_68
              exact ⟨by rw [decide_eq_true (by simp only [Job.v, JobV.mk.injEq]; exact ⟨hin, eq_of_take hE (by simp; omega) (by simp; omega), by assumption, by assumption⟩)]; rfl, hS_68⟩
        · refine cT (!decide (p.outputs.l = q.outputs.l)) (congrArg Bool.not (decide_eq_false hc_13)) ?_
          refine seqE ?_
          refine regionE ?_
          refine p1 (by kernel_rfl) ?_
          refine nilO ?_
          refine thenK_n <| ?_
          refine retE (thenK_r <| ?_)
          refine retN (vs := [.bool false]) rfl (.cons (.tmp _ _ (by kernel_rfl)) .nil) <| ?_
          have hS_69 := hS_11.pick 2 rfl
          try dsimp only [List.set, List.eraseIdx] at hS_69
          have hS_70 := hS_69.dropAt 1 rfl
          have hS_71 := hS_70.dropAt 1 rfl
          change Sat _ _ (H :: F) at hS_71
          exact ⟨by
            rw [decide_eq_false (fun h => by
              have h1 := congrArg List.length (congrArg JobV.inputs h); have h2 := congrArg List.length (congrArg JobV.stages h); have h3 := congrArg JobV.outputs h; have h4 := congrArg JobV.priority h
              simp only [Job.v, List.length_map] at h1 h2 h3 h4
              first | omega | contradiction)]; rfl, hS_71⟩
      · refine sFix 30 ((((p.stages.n : Nat) : Int) : Int) != ((q.stages.n : Nat) : Int)) true (bne_iff_ne.2 hc_9) ?_
        refine p7 (by kernel_rfl) ?_
        refine nilO ?_
        refine thenK_n <| ?_
        refine condE_true (by kernel_rfl) ?_
        refine seqE ?_
        refine regionE ?_
        refine p1 (by kernel_rfl) ?_
        refine nilO ?_
        refine thenK_n <| ?_
        refine retE (thenK_r <| ?_)
        refine retN (vs := [.bool false]) rfl (.cons (.tmp _ _ (by kernel_rfl)) .nil) <| ?_
        have hS_72 := hS_6.pick 2 rfl
        try dsimp only [List.set, List.eraseIdx] at hS_72
        have hS_73 := hS_72.dropAt 1 rfl
        have hS_74 := hS_73.dropAt 1 rfl
        change Sat _ _ (H :: F) at hS_74
        exact ⟨by
          rw [decide_eq_false (fun h => by
            have h1 := congrArg List.length (congrArg JobV.inputs h); have h2 := congrArg List.length (congrArg JobV.stages h); have h3 := congrArg JobV.outputs h; have h4 := congrArg JobV.priority h
            simp only [Job.v, List.length_map] at h1 h2 h3 h4
            first | omega | contradiction)]; rfl, hS_74⟩
    · refine sFix 21 ((((p.inputs.n : Nat) : Int) : Int) != ((q.inputs.n : Nat) : Int)) true (bne_iff_ne.2 hc_8) ?_
      refine p16 (by kernel_rfl) ?_
      refine nilO ?_
      refine thenK_n <| ?_
      refine condE_true (by kernel_rfl) ?_
      refine seqE ?_
      refine regionE ?_
      refine p1 (by kernel_rfl) ?_
      refine nilO ?_
      refine thenK_n <| ?_
      refine retE (thenK_r <| ?_)
      refine retN (vs := [.bool false]) rfl (.cons (.tmp _ _ (by kernel_rfl)) .nil) <| ?_
      have hS_75 := hS_6.pick 2 rfl
      try dsimp only [List.set, List.eraseIdx] at hS_75
      have hS_76 := hS_75.dropAt 1 rfl
      have hS_77 := hS_76.dropAt 1 rfl
      change Sat _ _ (H :: F) at hS_77
      exact ⟨by
        rw [decide_eq_false (fun h => by
          have h1 := congrArg List.length (congrArg JobV.inputs h); have h2 := congrArg List.length (congrArg JobV.stages h); have h3 := congrArg JobV.outputs h; have h4 := congrArg JobV.priority h
          simp only [Job.v, List.length_map] at h1 h2 h3 h4
          first | omega | contradiction)]; rfl, hS_77⟩
  · refine sFix 12 ((p.priority : Int) != q.priority) true (bne_iff_ne.2 hc_7) ?_
    refine p16 (by kernel_rfl) ?_
    refine p9 (by kernel_rfl) ?_
    refine nilO ?_
    refine thenK_n <| ?_
    refine condE_true (by kernel_rfl) ?_
    refine seqE ?_
    refine regionE ?_
    refine p1 (by kernel_rfl) ?_
    refine nilO ?_
    refine thenK_n <| ?_
    refine retE (thenK_r <| ?_)
    refine retN (vs := [.bool false]) rfl (.cons (.tmp _ _ (by kernel_rfl)) .nil) <| ?_
    have hS_78 := hS_6.pick 2 rfl
    try dsimp only [List.set, List.eraseIdx] at hS_78
    have hS_79 := hS_78.dropAt 1 rfl
    have hS_80 := hS_79.dropAt 1 rfl
    change Sat _ _ (H :: F) at hS_80
    exact ⟨by
      rw [decide_eq_false (fun h => by
        have h1 := congrArg List.length (congrArg JobV.inputs h); have h2 := congrArg List.length (congrArg JobV.stages h); have h3 := congrArg JobV.outputs h; have h4 := congrArg JobV.priority h
        simp only [Job.v, List.length_map] at h1 h2 h3 h4
        first | omega | contradiction)]; rfl, hS_80⟩
end Go.Proofs.Ytcddcpaodcjecaa
