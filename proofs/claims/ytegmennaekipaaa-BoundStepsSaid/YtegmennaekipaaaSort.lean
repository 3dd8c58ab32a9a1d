import Derived.Test.YtegmennaekipaaaTape
namespace Go.Proofs.Ytegmennaekipaaa
open Go Go.E
set_option linter.unusedVariables false
set_option linter.unusedSimpArgs false
set_option linter.unnecessarySimpa false
set_option maxRecDepth 100000
set_option maxHeartbeats 2000000
variable {W w : World} {H : Chunk} {F : List Chunk}
theorem s_nan (x : Int) (hS : Sat W w (H :: F)) :
    Ro Try.prog 120 #[.int .i64 x] (.bool false) W w (H :: F) := by
  refine callsA 6 Try.func120 rfl ?_
  refine seqE <| regionE <| pu1 <| nilO <| thenK_n <| seqE <| regionE <| pu4 <| nilO <| thenK_n <| retE <| retT [.bool ((x : Int) != x)] <| ?_
  exact ⟨congrArg (fun b => Ending.returned (.bool b)) (by simp), hS⟩
theorem s_less (x : Int) (y : Int) (hS : Sat W w (H :: F)) :
    Ro Try.prog 107 #[.int .i64 x, .int .i64 y] (.bool (decide ((x : Int) < y))) W w (H :: F) := by
  refine callsA 17 Try.func107 rfl ?_
  refine seqE <| regionE <| pu1 <| nilO <| thenK_n <| seqE <| regionE <| pu1 ?_
  refine cR Try.call120 (s_nan x (Sat.flat hS)) ?_
  intro w_1 hS_2
  refine pu11 <| nilO <| thenK_n <| retE <| retT [.bool (decide ((x : Int) < y))] <| ?_
  exact ⟨rfl, hS_2⟩
theorem s_len64 {cs : List Chunk} (x : Int) (hx : 0 ≤ x ∧ x < 18446744073709551616) (hS : Sat W w cs) :
    Calls Try.prog 111 #[.int .u64 x] w fun e w' => ∃ r : Int, e = .returned (.int .i64 r) ∧ (0 ≤ r ∧ r ≤ 400) ∧ Sat W w' cs := by
  refine callsA 25 Try.func111 rfl ?_
  refine seqE <| regionE <| pu1 <| nilO <| thenK_n <| seqE <| seqE <| regionE <| pu2 <| nilO <| thenK_n <| ?_
  refine cD (x ≥ 4294967296) (fun hc_1 => ?_) (fun hc_1 => ?_)
  rotate_left
  · refine skipE <| thenK_n <| seqE <| seqE <| regionE <| pu2 <| nilO <| thenK_n <| ?_
    refine cD (x ≥ 65536) (fun hc_13 => ?_) (fun hc_13 => ?_)
    rotate_left
    · refine skipE <| thenK_n <| seqE <| seqE <| regionE <| pu2 <| nilO <| thenK_n <| ?_
      refine cD (x ≥ 256) (fun hc_19 => ?_) (fun hc_19 => ?_)
      rotate_left
      · refine skipE <| thenK_n <| seqE <| regionE <| pu2 ?_
        refine stepY (.int .u8 (x % 256)) rfl rfl (Y_conv (k := .u64) (a := x) Try.underlying158 Try.underlying5 (wrap_u8 _) rfl (by kernel_rfl)) ?_
        refine sStrIdx (k := .u8) (x % 256) Try.underlying9 ?_
        intro r_22 hr_23
        refine stepY (.int .i64 r_22) rfl rfl (Y_conv (k := .u8) (a := r_22) Try.underlying5 Try.underlying3 (wrapIn_i64 _ (by omega)) rfl (by kernel_rfl)) ?_
        refine sAdd 0 r_22 ?_
        refine pu1 <| nilO <| thenK_n <| retE <| retT [.int .i64 (0 + r_22)] <| ?_
        exact ⟨_, rfl, by omega, hS⟩
      refine seqE <| regionE <| pu1 ?_
      refine stepY (.int .u64 (x / 256)) rfl rfl (Y_shr .u64 .u64 x 8 256 rfl (by kernel_rfl) (by kernel_rfl) (by decide) (by decide)) ?_
      refine pu1 <| nilO <| thenK_n <| regionE <| pu3 <| nilO <| thenK_n <| seqE <| regionE <| pu2 ?_
      refine stepY (.int .u8 ((x / 256) % 256)) rfl rfl (Y_conv (k := .u64) (a := (x / 256)) Try.underlying158 Try.underlying5 (wrap_u8 _) rfl (by kernel_rfl)) ?_
      refine sStrIdx (k := .u8) ((x / 256) % 256) Try.underlying9 ?_
      intro r_20 hr_21
      refine stepY (.int .i64 r_20) rfl rfl (Y_conv (k := .u8) (a := r_20) Try.underlying5 Try.underlying3 (wrapIn_i64 _ (by omega)) rfl (by kernel_rfl)) ?_
      refine sAdd 8 r_20 ?_
      refine pu1 <| nilO <| thenK_n <| retE <| retT [.int .i64 (8 + r_20)] <| ?_
      exact ⟨_, rfl, by omega, hS⟩
    refine seqE <| regionE <| pu1 ?_
    refine stepY (.int .u64 (x / 65536)) rfl rfl (Y_shr .u64 .u64 x 16 65536 rfl (by kernel_rfl) (by kernel_rfl) (by decide) (by decide)) ?_
    refine pu1 <| nilO <| thenK_n <| regionE <| pu3 <| nilO <| thenK_n <| seqE <| seqE <| regionE <| pu2 <| nilO <| thenK_n <| ?_
    refine cD ((x / 65536) ≥ 256) (fun hc_14 => ?_) (fun hc_14 => ?_)
    rotate_left
    · refine skipE <| thenK_n <| seqE <| regionE <| pu2 ?_
      refine stepY (.int .u8 ((x / 65536) % 256)) rfl rfl (Y_conv (k := .u64) (a := (x / 65536)) Try.underlying158 Try.underlying5 (wrap_u8 _) rfl (by kernel_rfl)) ?_
      refine sStrIdx (k := .u8) ((x / 65536) % 256) Try.underlying9 ?_
      intro r_17 hr_18
      refine stepY (.int .i64 r_17) rfl rfl (Y_conv (k := .u8) (a := r_17) Try.underlying5 Try.underlying3 (wrapIn_i64 _ (by omega)) rfl (by kernel_rfl)) ?_
      refine sAdd 16 r_17 ?_
      refine pu1 <| nilO <| thenK_n <| retE <| retT [.int .i64 (16 + r_17)] <| ?_
      exact ⟨_, rfl, by omega, hS⟩
    refine seqE <| regionE <| pu1 ?_
    refine stepY (.int .u64 ((x / 65536) / 256)) rfl rfl (Y_shr .u64 .u64 (x / 65536) 8 256 rfl (by kernel_rfl) (by kernel_rfl) (by decide) (by decide)) ?_
    refine pu1 <| nilO <| thenK_n <| regionE <| pu3 <| nilO <| thenK_n <| seqE <| regionE <| pu2 ?_
    refine stepY (.int .u8 (((x / 65536) / 256) % 256)) rfl rfl (Y_conv (k := .u64) (a := ((x / 65536) / 256)) Try.underlying158 Try.underlying5 (wrap_u8 _) rfl (by kernel_rfl)) ?_
    refine sStrIdx (k := .u8) (((x / 65536) / 256) % 256) Try.underlying9 ?_
    intro r_15 hr_16
    refine stepY (.int .i64 r_15) rfl rfl (Y_conv (k := .u8) (a := r_15) Try.underlying5 Try.underlying3 (wrapIn_i64 _ (by omega)) rfl (by kernel_rfl)) ?_
    refine sAdd 24 r_15 ?_
    refine pu1 <| nilO <| thenK_n <| retE <| retT [.int .i64 (24 + r_15)] <| ?_
    exact ⟨_, rfl, by omega, hS⟩
  refine seqE <| regionE <| pu1 ?_
  refine stepY (.int .u64 (x / 4294967296)) rfl rfl (Y_shr .u64 .u64 x 32 4294967296 rfl (by kernel_rfl) (by kernel_rfl) (by decide) (by decide)) ?_
  refine pu1 <| nilO <| thenK_n <| regionE <| pu1 <| nilO <| thenK_n <| seqE <| seqE <| regionE <| pu2 <| nilO <| thenK_n <| ?_
  refine cD ((x / 4294967296) ≥ 65536) (fun hc_2 => ?_) (fun hc_2 => ?_)
  rotate_left
  · refine skipE <| thenK_n <| seqE <| seqE <| regionE <| pu2 <| nilO <| thenK_n <| ?_
    refine cD ((x / 4294967296) ≥ 256) (fun hc_8 => ?_) (fun hc_8 => ?_)
    rotate_left
    · refine skipE <| thenK_n <| seqE <| regionE <| pu2 ?_
      refine stepY (.int .u8 ((x / 4294967296) % 256)) rfl rfl (Y_conv (k := .u64) (a := (x / 4294967296)) Try.underlying158 Try.underlying5 (wrap_u8 _) rfl (by kernel_rfl)) ?_
      refine sStrIdx (k := .u8) ((x / 4294967296) % 256) Try.underlying9 ?_
      intro r_11 hr_12
      refine stepY (.int .i64 r_11) rfl rfl (Y_conv (k := .u8) (a := r_11) Try.underlying5 Try.underlying3 (wrapIn_i64 _ (by omega)) rfl (by kernel_rfl)) ?_
      refine sAdd 32 r_11 ?_
      refine pu1 <| nilO <| thenK_n <| retE <| retT [.int .i64 (32 + r_11)] <| ?_
      exact ⟨_, rfl, by omega, hS⟩
    refine seqE <| regionE <| pu1 ?_
    refine stepY (.int .u64 ((x / 4294967296) / 256)) rfl rfl (Y_shr .u64 .u64 (x / 4294967296) 8 256 rfl (by kernel_rfl) (by kernel_rfl) (by decide) (by decide)) ?_
    refine pu1 <| nilO <| thenK_n <| regionE <| pu3 <| nilO <| thenK_n <| seqE <| regionE <| pu2 ?_
    refine stepY (.int .u8 (((x / 4294967296) / 256) % 256)) rfl rfl (Y_conv (k := .u64) (a := ((x / 4294967296) / 256)) Try.underlying158 Try.underlying5 (wrap_u8 _) rfl (by kernel_rfl)) ?_
    refine sStrIdx (k := .u8) (((x / 4294967296) / 256) % 256) Try.underlying9 ?_
    intro r_9 hr_10
    refine stepY (.int .i64 r_9) rfl rfl (Y_conv (k := .u8) (a := r_9) Try.underlying5 Try.underlying3 (wrapIn_i64 _ (by omega)) rfl (by kernel_rfl)) ?_
    refine sAdd 40 r_9 ?_
    refine pu1 <| nilO <| thenK_n <| retE <| retT [.int .i64 (40 + r_9)] <| ?_
    exact ⟨_, rfl, by omega, hS⟩
  refine seqE <| regionE <| pu1 ?_
  refine stepY (.int .u64 ((x / 4294967296) / 65536)) rfl rfl (Y_shr .u64 .u64 (x / 4294967296) 16 65536 rfl (by kernel_rfl) (by kernel_rfl) (by decide) (by decide)) ?_
  refine pu1 <| nilO <| thenK_n <| regionE <| pu3 <| nilO <| thenK_n <| seqE <| seqE <| regionE <| pu2 <| nilO <| thenK_n <| ?_
  refine cD (((x / 4294967296) / 65536) ≥ 256) (fun hc_3 => ?_) (fun hc_3 => ?_)
  rotate_left
  · refine skipE <| thenK_n <| seqE <| regionE <| pu2 ?_
    refine stepY (.int .u8 (((x / 4294967296) / 65536) % 256)) rfl rfl (Y_conv (k := .u64) (a := ((x / 4294967296) / 65536)) Try.underlying158 Try.underlying5 (wrap_u8 _) rfl (by kernel_rfl)) ?_
    refine sStrIdx (k := .u8) (((x / 4294967296) / 65536) % 256) Try.underlying9 ?_
    intro r_6 hr_7
    refine stepY (.int .i64 r_6) rfl rfl (Y_conv (k := .u8) (a := r_6) Try.underlying5 Try.underlying3 (wrapIn_i64 _ (by omega)) rfl (by kernel_rfl)) ?_
    refine sAdd 48 r_6 ?_
    refine pu1 <| nilO <| thenK_n <| retE <| retT [.int .i64 (48 + r_6)] <| ?_
    exact ⟨_, rfl, by omega, hS⟩
  refine seqE <| regionE <| pu1 ?_
  refine stepY (.int .u64 (((x / 4294967296) / 65536) / 256)) rfl rfl (Y_shr .u64 .u64 ((x / 4294967296) / 65536) 8 256 rfl (by kernel_rfl) (by kernel_rfl) (by decide) (by decide)) ?_
  refine pu1 <| nilO <| thenK_n <| regionE <| pu3 <| nilO <| thenK_n <| seqE <| regionE <| pu2 ?_
  refine stepY (.int .u8 ((((x / 4294967296) / 65536) / 256) % 256)) rfl rfl (Y_conv (k := .u64) (a := (((x / 4294967296) / 65536) / 256)) Try.underlying158 Try.underlying5 (wrap_u8 _) rfl (by kernel_rfl)) ?_
  refine sStrIdx (k := .u8) ((((x / 4294967296) / 65536) / 256) % 256) Try.underlying9 ?_
  intro r_4 hr_5
  refine stepY (.int .i64 r_4) rfl rfl (Y_conv (k := .u8) (a := r_4) Try.underlying5 Try.underlying3 (wrapIn_i64 _ (by omega)) rfl (by kernel_rfl)) ?_
  refine sAdd 56 r_4 ?_
  refine pu1 <| nilO <| thenK_n <| retE <| retT [.int .i64 (56 + r_4)] <| ?_
  exact ⟨_, rfl, by omega, hS⟩
theorem s_len {cs : List Chunk} (x : Int) (hx : 0 ≤ x ∧ x < 18446744073709551616) (hS : Sat W w cs) :
    Calls Try.prog 91 #[.int .u64 x] w fun e w' => ∃ r : Int, e = .returned (.int .i64 r) ∧ (0 ≤ r ∧ r ≤ 400) ∧ Sat W w' cs := by
  refine callsA 8 Try.func91 rfl ?_
  refine seqE <| regionE <| pu1 <| nilO <| thenK_n <| seqE <| cFf <| skipE <| thenK_n <| seqE <| regionE <| pu1 ?_
  refine cX Try.call111 (s_len64 x (by omega) hS) ?_
  rintro _ w_1 ⟨r_3, rfl, hr_4, hS_2⟩
  refine pu1 <| nilO <| thenK_n <| retE <| retT [.int .i64 r_3] <| ?_
  exact ⟨_, rfl, by omega, hS_2⟩
theorem s_ins (ax : Option Addr) (nx kx : Nat) (x : List Int) (a : Int) (b : Int) (hx : RdT encI 1 [H] ax nx kx x) (hs : ∀ (q : Nat) (u v : Int), x[q]? = some u → x[q + 1]? = some v → u ≤ v) (hab : a = 0 ∧ b = nx) (hS : Sat W w (H :: F)) :
    Ro Try.prog 101 #[.slice ax nx kx, .int .i64 a, .int .i64 b] (.tuple #[]) W w (H :: F) := by
  have hl_x := hx.le; have hn_x := hx.len
  obtain ⟨rfl, rfl⟩ := hab
  refine callsA 49 Try.func101 rfl ?_
  refine seqE <| regionE <| pu3 <| nilO <| thenK_n <| blockE ?_
  refine loopA (γ := Nat) (fun j => [(0, .slice ax nx kx), (1, .int .i64 0), (2, .int .i64 ((nx : Nat) : Int)), (6, .int .i64 ((j : Nat) : Int))]) (fun j w => Sat W w (H :: F) ∧ j ≤ max nx 1 ∧ (1 ≤ j)) (fun j => (max nx 1) - j) 1 ⟨hS, by omega, by omega⟩ ?_
  rintro j ρ w_1 ⟨hS_2, hj, hj1⟩
  refine seqE <| seqE <| regionE <| pu3 <| nilO <| thenK_n <| ?_
  refine cD (((j : Nat) : Int) < ((nx : Nat) : Int)) (fun hc_3 => ?_) (fun hc_3 => ?_)
  rotate_left
  · refine exitE <| thenK_x <| thenK_x <| blockK_x <| ?_
    refine ret0n rfl <| ?_
    exact ⟨rfl, hS_2⟩
  refine skipE <| thenK_n <| seqE <| blockE <| seqE <| regionE <| pu2 <| nilO <| thenK_n <| blockE ?_
  refine loopN 1 ?_
  refine roundS ?_
  refine seqE <| seqE ?_
  by_cases hc_4 : (((j : Nat) : Int) : Int) > 0
  rotate_left
  · refine drawE [13] [] [(true, [0, 1, 2, 3]), (true, [4, 5, 6, 8, 9, 10, 11, 7, 12]), (false, [13]), (true, [14])] rfl (by kernel_rfl) trivial ?_
    have hS_22 := hS_2.drew
    refine wU [0, 1, 2, 3] ?_
    refine wFix 19 _ false (decide_eq_false hc_4) ?_
    refine wU [4, 5, 6, 8, 9, 10, 11, 7, 12] ?_
    refine wO rfl ?_
    refine pu1 ?_
    refine nilO ⟨trivial, ?_⟩
    refine wU [14] ?_
    refine wN ?_
    refine thenK_n <| cFf <| exitE <| thenK_x <| thenK_x <| blockK_x <| blockK_n <| thenK_n <| regionE <| pu1 ?_
    refine sAdd ((j : Nat) : Int) 1 ?_
    refine pu1 <| nilO <| thenK_n <| ?_
    exact ⟨j + 1, by first | omega | (dsimp only; omega), alA, hS_22, by omega, by omega⟩
  obtain ⟨x_5, b_6, o_7, hx_8, hp_9, hq_10⟩ := RdT.elem hx ((j : Nat) : Int)
  rw [Int.toNat_natCast] at hx_8
  obtain ⟨x_11, b_12, o_13, hx_14, hp_15, hq_16⟩ := RdT.elem hx (((j : Nat) : Int) - 1)
  refine drawE [13] [(7, ⟨b_6, o_7, none⟩, .int .i64 x_5), (12, ⟨b_12, o_13, none⟩, .int .i64 x_11)] [(true, [0, 1, 2, 3]), (true, [4, 5]), (true, [6]), (true, [8, 9]), (true, [10]), (true, [11]), (true, [7]), (true, [12]), (false, [13]), (true, [14])] rfl (by kernel_rfl) ⟨.inr ((hp_9.up 0 rfl).cell hS_2 (k := 0) rfl), .inr ((hp_15.up 0 rfl).cell hS_2 (k := 0) rfl), trivial⟩ ?_
  have hS_17 := hS_2.drew
  refine wU [0, 1, 2, 3] ?_
  refine wFix 19 _ true (decide_eq_true hc_4) ?_
  refine wU [4, 5] ?_
  refine wY (.pointer (some ⟨b_6, o_7, none⟩)) rfl (fun w _ => Y_idx (a := ax) (i := ((j : Nat) : Int)) (len := nx) (cap := kx) rfl Try.runUnderlying22 Try.sizeOf3 (by kernel_rfl) (by kernel_rfl) hq_10) ?_
  refine wU [8, 9] ?_
  refine wSub ((j : Nat) : Int) 1 ?_
  refine wY (.pointer (some ⟨b_12, o_13, none⟩)) rfl (fun w _ => Y_idx (a := ax) (i := (((j : Nat) : Int) - 1)) (len := nx) (cap := kx) rfl Try.runUnderlying22 Try.sizeOf3 (by kernel_rfl) (by kernel_rfl) hq_16) ?_
  refine wLd (.int .i64 x_5) 0 Try.isAgg3 ?_
  refine wLd (.int .i64 x_11) 1 Try.isAgg3 ?_
  refine wO rfl ?_
  refine gY ?_
  refine cR Try.call107 (s_less x_5 x_11 (Sat.flat hS_17)) ?_
  intro w_18 hS_19
  refine nilO ⟨⟨.inl (by kernel_rfl), .inl (by kernel_rfl), trivial⟩, ?_⟩
  refine wU [14] ?_
  refine wN ?_
  refine thenK_n <| ?_
  have hc_21 : ¬ ((x_5 : Int) < x_11) := by have h := hs (j - 1) x_11 x_5 (by rw [show j - 1 = (((j : Nat) : Int) - 1).toNat by omega]; exact hx_14) (by rw [show j - 1 + 1 = j by omega]; exact hx_8); omega
  refine cF _ (decide_eq_false hc_21) ?_
  refine exitE <| thenK_x <| thenK_x <| blockK_x <| blockK_n <| thenK_n <| regionE <| pu1 ?_
  refine sAdd ((j : Nat) : Int) 1 ?_
  refine pu1 <| nilO <| thenK_n <| ?_
  exact ⟨j + 1, by first | omega | (dsimp only; omega), alA, hS_19, by omega, by omega⟩
theorem s_pdq (ax : Option Addr) (nx kx : Nat) (x : List Int) (a : Int) (b : Int) (m : Int) (hx : RdT encI 1 [H] ax nx kx x) (hs : ∀ (q : Nat) (u v : Int), x[q]? = some u → x[q + 1]? = some v → u ≤ v) (hab : a = 0 ∧ b = nx) (hn : nx ≤ 12) (hS : Sat W w (H :: F)) :
    Ro Try.prog 90 #[.slice ax nx kx, .int .i64 a, .int .i64 b, .int .i64 m] (.tuple #[]) W w (H :: F) := by
  have hl_x := hx.le; have hn_x := hx.len
  refine callsA 134 Try.func90 rfl ?_
  refine seqE <| regionE <| pu1 <| nilO <| thenK_n <| seqE <| regionE <| pu1 <| nilO <| thenK_n <| blockE ?_
  refine loopN 1 ?_
  refine roundS ?_
  refine blockE <| seqE <| regionE <| pu2 ?_
  refine sSub b a ?_
  refine pu1 <| nilO <| thenK_n <| seqE <| seqE <| regionE <| pu2 <| nilO <| thenK_n <| ?_
  have hc_1 : ((b - a) : Int) ≤ 12 := by omega
  refine cT _ (decide_eq_true hc_1) ?_
  refine seqE <| regionE <| pu3 ?_
  refine cR Try.call101 (s_ins ax nx kx x a b (RdT.flat (hx.up 0 (by rfl))) hs (by omega) (Sat.flat hS)) ?_
  intro w_2 hS_3
  refine nilO <| thenK_n <| retE <| thenK_r <| blockK_r <| thenK_r <| blockK_r <| ?_
  refine ret0 rfl <| ?_
  exact ⟨rfl, hS_3⟩
theorem s_sort (ax : Option Addr) (nx kx : Nat) (x : List Int) (hx : RdT encI 1 [H] ax nx kx x) (hs : ∀ (q : Nat) (u v : Int), x[q]? = some u → x[q + 1]? = some v → u ≤ v) (hn : nx ≤ 12) (hS : Sat W w (H :: F)) :
    Ro Try.prog 65 #[.slice ax nx kx] (.tuple #[]) W w (H :: F) := by
  have hl_x := hx.le; have hn_x := hx.len
  refine callsA 11 Try.func65 rfl ?_
  refine seqE <| regionE <| pu3 <| nilO <| thenK_n <| regionE <| pu3 ?_
  refine stepY (.int .u64 (((nx : Nat) : Int) % 18446744073709551616)) rfl rfl (Y_conv (k := .i64) (a := ((nx : Nat) : Int)) Try.underlying3 Try.underlying136 (wrap_u64 _) rfl (by kernel_rfl)) ?_
  refine cX Try.call91 (s_len (((nx : Nat) : Int) % 18446744073709551616) (by omega) hS) ?_
  rintro _ w_1 ⟨r_3, rfl, hr_4, hS_2⟩
  refine cR Try.call90 (s_pdq ax nx kx x 0 ((nx : Nat) : Int) r_3 (RdT.flat (hx.up 0 (by rfl))) hs (by omega) (by omega) (Sat.flat hS_2)) ?_
  intro w_5 hS_6
  refine nilO ?_
  refine ret0n rfl <| ?_
  exact ⟨rfl, hS_6⟩
end Go.Proofs.Ytegmennaekipaaa
