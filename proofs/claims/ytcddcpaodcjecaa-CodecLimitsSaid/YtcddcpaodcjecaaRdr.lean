import Derived.Test.YtcddcpaodcjecaaGot
namespace Go.Proofs.Ytcddcpaodcjecaa
open Go Go.E
set_option linter.unusedVariables false
set_option linter.unusedSimpArgs false
set_option linter.unnecessarySimpa false
set_option maxRecDepth 100000
theorem rdr_number (W w : World) (p : Nat) (H fp : Chunk) (F : List Chunk) (r : List Int) (b : Bool) (hI : RdrR 84 H p r b fp) (hS : Sat W w (fp :: H :: F)) :
    Calls Try.prog 53 #[.pointer (some ⟨p, 0, none⟩)] w fun e w' => ∃ (v : Int) (r' : List Int) (b' : Bool), e = .returned (.int .i64 v) ∧ Got encN WfI r b v r' b' ∧ WfI v ∧ ∃ fp' : Chunk, RdrR 84 H p r' b' fp' ∧ Sat W w' (fp' :: H :: F) := by
  obtain ⟨a, n, k, rfl, hR, hB⟩ := hI
  have hle := hR.le; have hll := hR.len
  refine callsE (n := 55) Try.func53 rfl rfl (Nat.le_of_ble_eq_true rfl) ?_
  refine seqE ?_
  refine regionE ?_
  refine p1 (by kernel_rfl) ?_
  refine nilO ?_
  refine thenK_n <| ?_
  refine seqE ?_
  refine seqE ?_
  refine regionE ?_
  refine p3 (by kernel_rfl) ?_
  refine sL hS 0 1 (.bool b) (Try.isAgg4 _) ?_
  refine p1 (by kernel_rfl) ?_
  cases b
  · refine p3 (by kernel_rfl) ?_
    refine guardYes rfl ⟨_, rfl, rfl, by kernel_rfl⟩ ?_
    refine sL hS 0 0 (.slice a n k) (Try.isAgg31 _) ?_
    refine p3 (by kernel_rfl) ?_
    refine nilO ?_
    refine thenK_n <| ?_
    by_cases hc_1 : (((n : Nat) : Int) : Int) < 8
    · refine cT (decide ((((n : Nat) : Int) : Int) < 8)) (decide_eq_true hc_1) ?_
      refine seqE ?_
      refine regionE ?_
      refine p3 (by kernel_rfl) ?_
      refine sT hS 0 1 (.bool true) [.bool true] #[.slice a n k, .bool true] Try.sizeOf4 ?_
      intro w_2 hS_3
      change Sat _ _ ([(p, .cells #[.slice a n k, .bool true] 84 (0, 0))] :: H :: F) at hS_3
      refine nilO ?_
      refine thenK_n <| ?_
      refine seqE ?_
      refine regionE ?_
      refine p1 (by kernel_rfl) ?_
      refine nilO ?_
      refine thenK_n <| ?_
      refine retE (thenK_r <| ?_)
      refine retN (vs := [.int .i64 0]) rfl (.cons (.tmp _ _ (by kernel_rfl)) .nil) <| ?_
      have hS_4 := hS_3.pick 1 rfl
      have hS_5 := hS_4.pick 1 rfl
      change Sat _ _ ([(p, .cells #[.slice a n k, .bool true] 84 (0, 0))] :: H :: F) at hS_5
      change Sat _ _ ([(p, .cells #[.slice a n k, .bool true] 84 (0, 0))] :: H :: F) at hS_5
      exact ⟨0, r, true, rfl, Got.fail 0 (by first | exact .inl rfl | (right; omega)), by unfold WfI; omega, _, ⟨_, _, _, rfl, hR, hB⟩, hS_5⟩
    · refine cF (decide ((((n : Nat) : Int) : Int) < 8)) (decide_eq_false hc_1) ?_
      refine skipE ?_
      refine thenK_n <| ?_
      refine seqE ?_
      refine regionE ?_
      refine p1 (by kernel_rfl) ?_
      refine nilO ?_
      refine thenK_n <| ?_
      refine seqE ?_
      refine seqE ?_
      refine regionE ?_
      refine p3 (by kernel_rfl) ?_
      refine sL hS 0 0 (.slice a n k) (Try.isAgg31 _) ?_
      refine sSl none (some 8) 0 8 Try.runUnderlying31 Try.sizeOf5 rfl ⟨by decide, rfl⟩ (by omega) (by omega) ?_ (a := a) (len := n) (cap := k)
      have hP_6 := hR.part (lo := 0) (hi := 8) (by omega) (by omega)
      refine p2 (by kernel_rfl) ?_
      refine nilO ?_
      refine thenK_n <| ?_
      refine blockE ?_
      refine loopN 9 ?_
      refine roundS ?_
      refine seqE ?_
      refine regionE ?_
      refine p1 (by kernel_rfl) ?_
      refine nilO ?_
      refine thenK_n <| ?_
      refine seqE ?_
      refine condE_true (by kernel_rfl) ?_
      refine skipE ?_
      refine thenK_n <| ?_
      refine seqE ?_
      refine blockE ?_
      refine seqE ?_
      refine regionE ?_
      refine sIdx hP_6 0 Try.runUnderlying31 Try.sizeOf5 ?_
      intro x_7 b_8 o_9 hx_10 hp_11
      have hq_12 : r[0]? = some x_7 := by have h := hx_10; first | exact h | (simp only [List.drop_zero] at h; rw [List.getElem?_take] at h; simpa using h)
      have hb_x_7 := hB.1 x_7 (List.mem_of_getElem? hq_12)
      refine sLp hS (hp_11.up 1 rfl) 0 (.int .u8 x_7) (Try.isAgg5 _) ?_
      refine p1 (by kernel_rfl) ?_
      refine nilO ?_
      refine thenK_n <| ?_
      refine regionE ?_
      refine p1 (by kernel_rfl) ?_
      refine stepY (.int .u64 ((0 : Int) * 256)) rfl rfl (Y_shl .u64 .u64 0 8 256 _ rfl (by kernel_rfl) (by kernel_rfl) (by decide) (by decide) (wrapIn_u64 _ (by omega))) ?_
      refine p1 (by kernel_rfl) ?_
      refine stepY (.int .u64 x_7) rfl rfl (Y_conv (k := .u8) (a := x_7) Try.underlying5 Try.underlying95 (wrapIn_u64 _ (by omega)) rfl (by kernel_rfl)) ?_
      refine stepY (.int .u64 (((0 : Int) * 256) + x_7)) rfl rfl (Y_orLow ((0 : Int) * 256) x_7 rfl (by kernel_rfl) (by kernel_rfl) (by omega) (by omega) (by omega)) ?_
      refine p1 (by kernel_rfl) ?_
      refine nilO ?_
      refine blockK_n <| thenK_n <| ?_
      refine regionE ?_
      refine p2 (by kernel_rfl) ?_
      refine nilO ?_
      refine thenK_n <| ?_
      refine roundS ?_
      refine seqE ?_
      refine regionE ?_
      refine p1 (by kernel_rfl) ?_
      refine nilO ?_
      refine thenK_n <| ?_
      refine seqE ?_
      refine condE_true (by kernel_rfl) ?_
      refine skipE ?_
      refine thenK_n <| ?_
      refine seqE ?_
      refine blockE ?_
      refine seqE ?_
      refine regionE ?_
      refine sIdx hP_6 1 Try.runUnderlying31 Try.sizeOf5 ?_
      intro x_13 b_14 o_15 hx_16 hp_17
      have hq_18 : r[1]? = some x_13 := by have h := hx_16; first | exact h | (simp only [List.drop_zero] at h; rw [List.getElem?_take] at h; simpa using h)
      have hb_x_13 := hB.1 x_13 (List.mem_of_getElem? hq_18)
      refine sLp hS (hp_17.up 1 rfl) 0 (.int .u8 x_13) (Try.isAgg5 _) ?_
      refine p1 (by kernel_rfl) ?_
      refine nilO ?_
      refine thenK_n <| ?_
      refine regionE ?_
      refine p1 (by kernel_rfl) ?_
      refine stepY (.int .u64 ((((0 : Int) * 256) + x_7) * 256)) rfl rfl (Y_shl .u64 .u64 (((0 : Int) * 256) + x_7) 8 256 _ rfl (by kernel_rfl) (by kernel_rfl) (by decide) (by decide) (wrapIn_u64 _ (by omega))) ?_
      refine p1 (by kernel_rfl) ?_
      refine stepY (.int .u64 x_13) rfl rfl (Y_conv (k := .u8) (a := x_13) Try.underlying5 Try.underlying95 (wrapIn_u64 _ (by omega)) rfl (by kernel_rfl)) ?_
      refine stepY (.int .u64 (((((0 : Int) * 256) + x_7) * 256) + x_13)) rfl rfl (Y_orLow ((((0 : Int) * 256) + x_7) * 256) x_13 rfl (by kernel_rfl) (by kernel_rfl) (by omega) (by omega) (by omega)) ?_
      refine p1 (by kernel_rfl) ?_
      refine nilO ?_
      refine blockK_n <| thenK_n <| ?_
      refine regionE ?_
      refine p2 (by kernel_rfl) ?_
      refine nilO ?_
      refine thenK_n <| ?_
      refine roundS ?_
      refine seqE ?_
      refine regionE ?_
      refine p1 (by kernel_rfl) ?_
      refine nilO ?_
      refine thenK_n <| ?_
      refine seqE ?_
      refine condE_true (by kernel_rfl) ?_
      refine skipE ?_
      refine thenK_n <| ?_
      refine seqE ?_
      refine blockE ?_
      refine seqE ?_
      refine regionE ?_
      refine sIdx hP_6 2 Try.runUnderlying31 Try.sizeOf5 ?_
      intro x_19 b_20 o_21 hx_22 hp_23
      have hq_24 : r[2]? = some x_19 := by have h := hx_22; first | exact h | (simp only [List.drop_zero] at h; rw [List.getElem?_take] at h; simpa using h)
      have hb_x_19 := hB.1 x_19 (List.mem_of_getElem? hq_24)
      refine sLp hS (hp_23.up 1 rfl) 0 (.int .u8 x_19) (Try.isAgg5 _) ?_
      refine p1 (by kernel_rfl) ?_
      refine nilO ?_
      refine thenK_n <| ?_
      refine regionE ?_
      refine p1 (by kernel_rfl) ?_
      refine stepY (.int .u64 ((((((0 : Int) * 256) + x_7) * 256) + x_13) * 256)) rfl rfl (Y_shl .u64 .u64 (((((0 : Int) * 256) + x_7) * 256) + x_13) 8 256 _ rfl (by kernel_rfl) (by kernel_rfl) (by decide) (by decide) (wrapIn_u64 _ (by omega))) ?_
      refine p1 (by kernel_rfl) ?_
      refine stepY (.int .u64 x_19) rfl rfl (Y_conv (k := .u8) (a := x_19) Try.underlying5 Try.underlying95 (wrapIn_u64 _ (by omega)) rfl (by kernel_rfl)) ?_
      refine stepY (.int .u64 (((((((0 : Int) * 256) + x_7) * 256) + x_13) * 256) + x_19)) rfl rfl (Y_orLow ((((((0 : Int) * 256) + x_7) * 256) + x_13) * 256) x_19 rfl (by kernel_rfl) (by kernel_rfl) (by omega) (by omega) (by omega)) ?_
      refine p1 (by kernel_rfl) ?_
      refine nilO ?_
      refine blockK_n <| thenK_n <| ?_
      refine regionE ?_
      refine p2 (by kernel_rfl) ?_
      refine nilO ?_
      refine thenK_n <| ?_
      refine roundS ?_
      refine seqE ?_
      refine regionE ?_
      refine p1 (by kernel_rfl) ?_
      refine nilO ?_
      refine thenK_n <| ?_
      refine seqE ?_
      refine condE_true (by kernel_rfl) ?_
      refine skipE ?_
      refine thenK_n <| ?_
      refine seqE ?_
      refine blockE ?_
      refine seqE ?_
      refine regionE ?_
      refine sIdx hP_6 3 Try.runUnderlying31 Try.sizeOf5 ?_
      intro x_25 b_26 o_27 hx_28 hp_29
      have hq_30 : r[3]? = some x_25 := by have h := hx_28; first | exact h | (simp only [List.drop_zero] at h; rw [List.getElem?_take] at h; simpa using h)
      have hb_x_25 := hB.1 x_25 (List.mem_of_getElem? hq_30)
      refine sLp hS (hp_29.up 1 rfl) 0 (.int .u8 x_25) (Try.isAgg5 _) ?_
      refine p1 (by kernel_rfl) ?_
      refine nilO ?_
      refine thenK_n <| ?_
      refine regionE ?_
      refine p1 (by kernel_rfl) ?_
      refine stepY (.int .u64 ((((((((0 : Int) * 256) + x_7) * 256) + x_13) * 256) + x_19) * 256)) rfl rfl (Y_shl .u64 .u64 (((((((0 : Int) * 256) + x_7) * 256) + x_13) * 256) + x_19) 8 256 _ rfl (by kernel_rfl) (by kernel_rfl) (by decide) (by decide) (wrapIn_u64 _ (by omega))) ?_
      refine p1 (by kernel_rfl) ?_
      refine stepY (.int .u64 x_25) rfl rfl (Y_conv (k := .u8) (a := x_25) Try.underlying5 Try.underlying95 (wrapIn_u64 _ (by omega)) rfl (by kernel_rfl)) ?_
      refine stepY (.int .u64 (((((((((0 : Int) * 256) + x_7) * 256) + x_13) * 256) + x_19) * 256) + x_25)) rfl rfl (Y_orLow ((((((((0 : Int) * 256) + x_7) * 256) + x_13) * 256) + x_19) * 256) x_25 rfl (by kernel_rfl) (by kernel_rfl) (by omega) (by omega) (by omega)) ?_
      refine p1 (by kernel_rfl) ?_
      refine nilO ?_
      refine blockK_n <| thenK_n <| ?_
      refine regionE ?_
      refine p2 (by kernel_rfl) ?_
      refine nilO ?_
      refine thenK_n <| ?_
      refine roundS ?_
      refine seqE ?_
      refine regionE ?_
      refine p1 (by kernel_rfl) ?_
      refine nilO ?_
      refine thenK_n <| ?_
      refine seqE ?_
      refine condE_true (by kernel_rfl) ?_
      refine skipE ?_
      refine thenK_n <| ?_
      refine seqE ?_
      refine blockE ?_
      refine seqE ?_
      refine regionE ?_
      refine sIdx hP_6 4 Try.runUnderlying31 Try.sizeOf5 ?_
      intro x_31 b_32 o_33 hx_34 hp_35
      have hq_36 : r[4]? = some x_31 := by have h := hx_34; first | exact h | (simp only [List.drop_zero] at h; rw [List.getElem?_take] at h; simpa using h)
      have hb_x_31 := hB.1 x_31 (List.mem_of_getElem? hq_36)
      refine sLp hS (hp_35.up 1 rfl) 0 (.int .u8 x_31) (Try.isAgg5 _) ?_
      refine p1 (by kernel_rfl) ?_
      refine nilO ?_
      refine thenK_n <| ?_
      refine regionE ?_
      refine p1 (by kernel_rfl) ?_
      refine stepY (.int .u64 ((((((((((0 : Int) * 256) + x_7) * 256) + x_13) * 256) + x_19) * 256) + x_25) * 256)) rfl rfl (Y_shl .u64 .u64 (((((((((0 : Int) * 256) + x_7) * 256) + x_13) * 256) + x_19) * 256) + x_25) 8 256 _ rfl (by kernel_rfl) (by kernel_rfl) (by decide) (by decide) (wrapIn_u64 _ (by omega))) ?_
      refine p1 (by kernel_rfl) ?_
      refine stepY (.int .u64 x_31) rfl rfl (Y_conv (k := .u8) (a := x_31) Try.underlying5 Try.underlying95 (wrapIn_u64 _ (by omega)) rfl (by kernel_rfl)) ?_
      refine stepY (.int .u64 (((((((((((0 : Int) * 256) + x_7) * 256) + x_13) * 256) + x_19) * 256) + x_25) * 256) + x_31)) rfl rfl (Y_orLow ((((((((((0 : Int) * 256) + x_7) * 256) + x_13) * 256) + x_19) * 256) + x_25) * 256) x_31 rfl (by kernel_rfl) (by kernel_rfl) (by omega) (by omega) (by omega)) ?_
      refine p1 (by kernel_rfl) ?_
      refine nilO ?_
      refine blockK_n <| thenK_n <| ?_
      refine regionE ?_
      refine p2 (by kernel_rfl) ?_
      refine nilO ?_
      refine thenK_n <| ?_
      refine roundS ?_
      refine seqE ?_
      refine regionE ?_
      refine p1 (by kernel_rfl) ?_
      refine nilO ?_
      refine thenK_n <| ?_
      refine seqE ?_
      refine condE_true (by kernel_rfl) ?_
      refine skipE ?_
      refine thenK_n <| ?_
      refine seqE ?_
      refine blockE ?_
      refine seqE ?_
      refine regionE ?_
      refine sIdx hP_6 5 Try.runUnderlying31 Try.sizeOf5 ?_
      intro x_37 b_38 o_39 hx_40 hp_41
      have hq_42 : r[5]? = some x_37 := by have h := hx_40; first | exact h | (simp only [List.drop_zero] at h; rw [List.getElem?_take] at h; simpa using h)
      have hb_x_37 := hB.1 x_37 (List.mem_of_getElem? hq_42)
      refine sLp hS (hp_41.up 1 rfl) 0 (.int .u8 x_37) (Try.isAgg5 _) ?_
      refine p1 (by kernel_rfl) ?_
      refine nilO ?_
      refine thenK_n <| ?_
      refine regionE ?_
      refine p1 (by kernel_rfl) ?_
      refine stepY (.int .u64 ((((((((((((0 : Int) * 256) + x_7) * 256) + x_13) * 256) + x_19) * 256) + x_25) * 256) + x_31) * 256)) rfl rfl (Y_shl .u64 .u64 (((((((((((0 : Int) * 256) + x_7) * 256) + x_13) * 256) + x_19) * 256) + x_25) * 256) + x_31) 8 256 _ rfl (by kernel_rfl) (by kernel_rfl) (by decide) (by decide) (wrapIn_u64 _ (by omega))) ?_
      refine p1 (by kernel_rfl) ?_
      refine stepY (.int .u64 x_37) rfl rfl (Y_conv (k := .u8) (a := x_37) Try.underlying5 Try.underlying95 (wrapIn_u64 _ (by omega)) rfl (by kernel_rfl)) ?_
      refine stepY (.int .u64 (((((((((((((0 : Int) * 256) + x_7) * 256) + x_13) * 256) + x_19) * 256) + x_25) * 256) + x_31) * 256) + x_37)) rfl rfl (Y_orLow ((((((((((((0 : Int) * 256) + x_7) * 256) + x_13) * 256) + x_19) * 256) + x_25) * 256) + x_31) * 256) x_37 rfl (by kernel_rfl) (by kernel_rfl) (by omega) (by omega) (by omega)) ?_
      refine p1 (by kernel_rfl) ?_
      refine nilO ?_
      refine blockK_n <| thenK_n <| ?_
      refine regionE ?_
      refine p2 (by kernel_rfl) ?_
      refine nilO ?_
      refine thenK_n <| ?_
      refine roundS ?_
      refine seqE ?_
      refine regionE ?_
      refine p1 (by kernel_rfl) ?_
      refine nilO ?_
      refine thenK_n <| ?_
      refine seqE ?_
      refine condE_true (by kernel_rfl) ?_
      refine skipE ?_
      refine thenK_n <| ?_
      refine seqE ?_
      refine blockE ?_
      refine seqE ?_
      refine regionE ?_
      refine sIdx hP_6 6 Try.runUnderlying31 Try.sizeOf5 ?_
      intro x_43 b_44 o_45 hx_46 hp_47
      have hq_48 : r[6]? = some x_43 := by have h := hx_46; first | exact h | (simp only [List.drop_zero] at h; rw [List.getElem?_take] at h; simpa using h)
      have hb_x_43 := hB.1 x_43 (List.mem_of_getElem? hq_48)
      refine sLp hS (hp_47.up 1 rfl) 0 (.int .u8 x_43) (Try.isAgg5 _) ?_
      refine p1 (by kernel_rfl) ?_
      refine nilO ?_
      refine thenK_n <| ?_
      refine regionE ?_
      refine p1 (by kernel_rfl) ?_
      refine stepY (.int .u64 ((((((((((((((0 : Int) * 256) + x_7) * 256) + x_13) * 256) + x_19) * 256) + x_25) * 256) + x_31) * 256) + x_37) * 256)) rfl rfl (Y_shl .u64 .u64 (((((((((((((0 : Int) * 256) + x_7) * 256) + x_13) * 256) + x_19) * 256) + x_25) * 256) + x_31) * 256) + x_37) 8 256 _ rfl (by kernel_rfl) (by kernel_rfl) (by decide) (by decide) (wrapIn_u64 _ (by omega))) ?_
      refine p1 (by kernel_rfl) ?_
      refine stepY (.int .u64 x_43) rfl rfl (Y_conv (k := .u8) (a := x_43) Try.underlying5 Try.underlying95 (wrapIn_u64 _ (by omega)) rfl (by kernel_rfl)) ?_
      refine stepY (.int .u64 (((((((((((((((0 : Int) * 256) + x_7) * 256) + x_13) * 256) + x_19) * 256) + x_25) * 256) + x_31) * 256) + x_37) * 256) + x_43)) rfl rfl (Y_orLow ((((((((((((((0 : Int) * 256) + x_7) * 256) + x_13) * 256) + x_19) * 256) + x_25) * 256) + x_31) * 256) + x_37) * 256) x_43 rfl (by kernel_rfl) (by kernel_rfl) (by omega) (by omega) (by omega)) ?_
      refine p1 (by kernel_rfl) ?_
      refine nilO ?_
      refine blockK_n <| thenK_n <| ?_
      refine regionE ?_
      refine p2 (by kernel_rfl) ?_
      refine nilO ?_
      refine thenK_n <| ?_
      refine roundS ?_
      refine seqE ?_
      refine regionE ?_
      refine p1 (by kernel_rfl) ?_
      refine nilO ?_
      refine thenK_n <| ?_
      refine seqE ?_
      refine condE_true (by kernel_rfl) ?_
      refine skipE ?_
      refine thenK_n <| ?_
      refine seqE ?_
      refine blockE ?_
      refine seqE ?_
      refine regionE ?_
      refine sIdx hP_6 7 Try.runUnderlying31 Try.sizeOf5 ?_
      intro x_49 b_50 o_51 hx_52 hp_53
      have hq_54 : r[7]? = some x_49 := by have h := hx_52; first | exact h | (simp only [List.drop_zero] at h; rw [List.getElem?_take] at h; simpa using h)
      have hb_x_49 := hB.1 x_49 (List.mem_of_getElem? hq_54)
      refine sLp hS (hp_53.up 1 rfl) 0 (.int .u8 x_49) (Try.isAgg5 _) ?_
      refine p1 (by kernel_rfl) ?_
      refine nilO ?_
      refine thenK_n <| ?_
      refine regionE ?_
      refine p1 (by kernel_rfl) ?_
      refine stepY (.int .u64 ((((((((((((((((0 : Int) * 256) + x_7) * 256) + x_13) * 256) + x_19) * 256) + x_25) * 256) + x_31) * 256) + x_37) * 256) + x_43) * 256)) rfl rfl (Y_shl .u64 .u64 (((((((((((((((0 : Int) * 256) + x_7) * 256) + x_13) * 256) + x_19) * 256) + x_25) * 256) + x_31) * 256) + x_37) * 256) + x_43) 8 256 _ rfl (by kernel_rfl) (by kernel_rfl) (by decide) (by decide) (wrapIn_u64 _ (by omega))) ?_
      refine p1 (by kernel_rfl) ?_
      refine stepY (.int .u64 x_49) rfl rfl (Y_conv (k := .u8) (a := x_49) Try.underlying5 Try.underlying95 (wrapIn_u64 _ (by omega)) rfl (by kernel_rfl)) ?_
      refine stepY (.int .u64 (((((((((((((((((0 : Int) * 256) + x_7) * 256) + x_13) * 256) + x_19) * 256) + x_25) * 256) + x_31) * 256) + x_37) * 256) + x_43) * 256) + x_49)) rfl rfl (Y_orLow ((((((((((((((((0 : Int) * 256) + x_7) * 256) + x_13) * 256) + x_19) * 256) + x_25) * 256) + x_31) * 256) + x_37) * 256) + x_43) * 256) x_49 rfl (by kernel_rfl) (by kernel_rfl) (by omega) (by omega) (by omega)) ?_
      refine p1 (by kernel_rfl) ?_
      refine nilO ?_
      refine blockK_n <| thenK_n <| ?_
      refine regionE ?_
      refine p2 (by kernel_rfl) ?_
      refine nilO ?_
      refine thenK_n <| ?_
      refine roundS ?_
      refine seqE ?_
      refine regionE ?_
      refine p1 (by kernel_rfl) ?_
      refine nilO ?_
      refine thenK_n <| ?_
      refine seqE ?_
      refine condE_false (by kernel_rfl) ?_
      refine exitE (thenK_x <| thenK_x <| blockK_x <| ?_)
      refine thenK_n <| ?_
      refine seqE ?_
      refine regionE ?_
      refine p4 (by kernel_rfl) ?_
      refine sL hS 0 0 (.slice a n k) (Try.isAgg31 _) ?_
      refine sSl (some 8) none 8 n Try.runUnderlying31 Try.sizeOf5 ⟨by decide, rfl⟩ rfl (by omega) (by omega) ?_ (a := a) (len := n) (cap := k)
      have hP_55 := hR.part (lo := 8) (hi := n) (by omega) (by omega)
      refine p2 (by kernel_rfl) ?_
      refine sT hS 0 0 (.slice (partAddr a k 8 1) (n - 8) (k - 8)) [.slice (partAddr a k 8 1) (n - 8) (k - 8)] #[.slice (partAddr a k 8 1) (n - 8) (k - 8), .bool false] Try.sizeOf31 ?_
      intro w_56 hS_57
      try dsimp only [List.set, List.eraseIdx] at hS_57
      refine nilO ?_
      refine thenK_n <| ?_
      refine seqE ?_
      refine seqE ?_
      refine regionE ?_
      refine p1 (by kernel_rfl) ?_
      refine stepY (.int .i64 (IntKind.i64.wrap (((((((((((((((((0 : Int) * 256) + x_7) * 256) + x_13) * 256) + x_19) * 256) + x_25) * 256) + x_31) * 256) + x_37) * 256) + x_43) * 256) + x_49))) rfl rfl (Y_conv (k := .u64) (a := (((((((((((((((((0 : Int) * 256) + x_7) * 256) + x_13) * 256) + x_19) * 256) + x_25) * 256) + x_31) * 256) + x_37) * 256) + x_43) * 256) + x_49)) Try.underlying95 Try.underlying2 (rfl) rfl (by kernel_rfl)) ?_
      refine p1 (by kernel_rfl) ?_
      refine stepY (.int .i64 (IntKind.i64.wrap (((((((((((((((((0 : Int) * 256) + x_7) * 256) + x_13) * 256) + x_19) * 256) + x_25) * 256) + x_31) * 256) + x_37) * 256) + x_43) * 256) + x_49))) rfl rfl (Y_conv (k := .u64) (a := (((((((((((((((((0 : Int) * 256) + x_7) * 256) + x_13) * 256) + x_19) * 256) + x_25) * 256) + x_31) * 256) + x_37) * 256) + x_43) * 256) + x_49)) Try.underlying95 Try.underlying2 (rfl) rfl (by kernel_rfl)) ?_
      refine p1 (by kernel_rfl) ?_
      refine nilO ?_
      refine thenK_n <| ?_
      have hc_58 : ((IntKind.i64.wrap (((((((((((((((((0 : Int) * 256) + x_7) * 256) + x_13) * 256) + x_19) * 256) + x_25) * 256) + x_31) * 256) + x_37) * 256) + x_43) * 256) + x_49)) : Int) = (IntKind.i64.wrap (((((((((((((((((0 : Int) * 256) + x_7) * 256) + x_13) * 256) + x_19) * 256) + x_25) * 256) + x_31) * 256) + x_37) * 256) + x_43) * 256) + x_49)) := rfl
      refine cF (((IntKind.i64.wrap (((((((((((((((((0 : Int) * 256) + x_7) * 256) + x_13) * 256) + x_19) * 256) + x_25) * 256) + x_31) * 256) + x_37) * 256) + x_43) * 256) + x_49)) : Int) != (IntKind.i64.wrap (((((((((((((((((0 : Int) * 256) + x_7) * 256) + x_13) * 256) + x_19) * 256) + x_25) * 256) + x_31) * 256) + x_37) * 256) + x_43) * 256) + x_49))) (bne_eq_false_iff_eq.2 hc_58) ?_
      refine skipE ?_
      refine thenK_n <| ?_
      refine seqE ?_
      refine regionE ?_
      refine p1 (by kernel_rfl) ?_
      refine stepY (.int .i64 (IntKind.i64.wrap (((((((((((((((((0 : Int) * 256) + x_7) * 256) + x_13) * 256) + x_19) * 256) + x_25) * 256) + x_31) * 256) + x_37) * 256) + x_43) * 256) + x_49))) rfl rfl (Y_conv (k := .u64) (a := (((((((((((((((((0 : Int) * 256) + x_7) * 256) + x_13) * 256) + x_19) * 256) + x_25) * 256) + x_31) * 256) + x_37) * 256) + x_43) * 256) + x_49)) Try.underlying95 Try.underlying2 (rfl) rfl (by kernel_rfl)) ?_
      refine p1 (by kernel_rfl) ?_
      refine nilO ?_
      refine thenK_n <| ?_
      refine retE ?_
      refine retN (vs := [.int .i64 (IntKind.i64.wrap (((((((((((((((((0 : Int) * 256) + x_7) * 256) + x_13) * 256) + x_19) * 256) + x_25) * 256) + x_31) * 256) + x_37) * 256) + x_43) * 256) + x_49))]) rfl (.cons (.tmp _ _ (by kernel_rfl)) .nil) <| ?_
      have hS_59 := hS_57.pick 1 rfl
      have hS_60 := hS_59.pick 1 rfl
      try dsimp only [List.set, List.eraseIdx] at hS_60
      try dsimp only [List.set, List.eraseIdx] at hS_60
      have hd := dec8 hb_x_7 hb_x_13 hb_x_19 hb_x_25 hb_x_31 hb_x_37 hb_x_43 hb_x_49 (((((((((((((((((0 : Int) * 256) + x_7) * 256) + x_13) * 256) + x_19) * 256) + x_25) * 256) + x_31) * 256) + x_37) * 256) + x_43) * 256) + x_49) (by omega)
      have hR2 := hP_55
      rw [List.take_of_length_le (by simp; omega)] at hR2
      exact ⟨_, r.drop 8, false, rfl, Got.read (take8 hq_12 hq_18 hq_24 hq_30 hq_36 hq_42 hq_48 hq_54) hd.1 hd.2, hd.2, _, ⟨_, _, _, rfl, hR2, fun x hx => hB.1 x (List.mem_of_mem_drop hx), by have := hB.2; simp; omega⟩, hS_60⟩
  · refine p7 (by kernel_rfl) ?_
    refine nilO ?_
    refine thenK_n <| ?_
    refine condE_true (by kernel_rfl) ?_
    refine seqE ?_
    refine regionE ?_
    refine p3 (by kernel_rfl) ?_
    refine sT hS 0 1 (.bool true) [.bool true] #[.slice a n k, .bool true] Try.sizeOf4 ?_
    intro w_61 hS_62
    change Sat _ _ ([(p, .cells #[.slice a n k, .bool true] 84 (0, 0))] :: H :: F) at hS_62
    refine nilO ?_
    refine thenK_n <| ?_
    refine seqE ?_
    refine regionE ?_
    refine p1 (by kernel_rfl) ?_
    refine nilO ?_
    refine thenK_n <| ?_
    refine retE (thenK_r <| ?_)
    refine retN (vs := [.int .i64 0]) rfl (.cons (.tmp _ _ (by kernel_rfl)) .nil) <| ?_
    have hS_63 := hS_62.pick 1 rfl
    have hS_64 := hS_63.pick 1 rfl
    change Sat _ _ ([(p, .cells #[.slice a n k, .bool true] 84 (0, 0))] :: H :: F) at hS_64
    change Sat _ _ ([(p, .cells #[.slice a n k, .bool true] 84 (0, 0))] :: H :: F) at hS_64
    exact ⟨0, r, true, rfl, Got.fail 0 (by first | exact .inl rfl | (right; omega)), by unfold WfI; omega, _, ⟨_, _, _, rfl, hR, hB⟩, hS_64⟩
theorem rdr_count_1 (W w : World) (p : Nat) (H fp : Chunk) (F : List Chunk) (r : List Int) (b : Bool) (hI : RdrR 84 H p r b fp) (hS : Sat W w (fp :: H :: F)) :
    Calls Try.prog 54 #[.pointer (some ⟨p, 0, none⟩), .int .i64 1] w fun e w' => ∃ (v : Int) (r' : List Int) (b' : Bool), e = .returned (.int .i64 v) ∧ GotC 1 r b v r' b' ∧ ∃ fp' : Chunk, RdrR 84 H p r' b' fp' ∧ Sat W w' (fp' :: H :: F) := by
  refine callsE (n := 26) Try.func54 rfl rfl (Nat.le_of_ble_eq_true rfl) ?_
  refine seqE ?_
  refine regionE ?_
  refine p1 (by kernel_rfl) ?_
  refine nilO ?_
  refine thenK_n <| ?_
  refine seqE ?_
  refine regionE ?_
  refine p1 (by kernel_rfl) ?_
  have hS_1 := hS.pick 1 rfl
  have hS_2 := hS_1.pick 1 rfl
  change Sat _ _ (fp :: H :: F) at hS_2
  refine sF #[.pointer (some ⟨p, 0, none⟩)] Try.call53 (Calls.mono (rdr_number W _ _ _ _ _ _ _ hI hS_2) ?_)
  rintro _ w_3 ⟨v_5, r_6, b_7, rfl, hG_9, hW_10, fp_8, hI_11, hS_4⟩
  refine ⟨_, rfl, ?_⟩
  change Sat _ _ (fp_8 :: H :: F) at hS_4
  refine p1 (by kernel_rfl) ?_
  refine nilO ?_
  refine thenK_n <| ?_
  refine seqE ?_
  refine seqE ?_
  change Sat _ _ (fp_8 :: H :: F) at hS_4
  obtain ⟨a_12, n_13, k_14, rfl, hR_15, hB_16⟩ := hI_11
  have hll_a_12 := hR_15.len; have hle_a_12 := hR_15.le
  refine regionE ?_
  refine p3 (by kernel_rfl) ?_
  by_cases hc_17 : (v_5 : Int) < 0
  · refine sFix 10 (decide ((v_5 : Int) < 0)) true (decide_eq_true hc_17) ?_
    refine p11 (by kernel_rfl) ?_
    refine nilO ?_
    refine thenK_n <| ?_
    refine condE_true (by kernel_rfl) ?_
    refine seqE ?_
    refine regionE ?_
    refine p3 (by kernel_rfl) ?_
    refine sT hS_4 0 1 (.bool true) [.bool true] #[.slice a_12 n_13 k_14, .bool true] Try.sizeOf4 ?_
    intro w_18 hS_19
    change Sat _ _ ([(p, .cells #[.slice a_12 n_13 k_14, .bool true] 84 (0, 0))] :: H :: F) at hS_19
    refine nilO ?_
    refine thenK_n <| ?_
    refine seqE ?_
    refine regionE ?_
    refine p1 (by kernel_rfl) ?_
    refine nilO ?_
    refine thenK_n <| ?_
    refine retE (thenK_r <| ?_)
    refine retN (vs := [.int .i64 0]) rfl (.cons (.tmp _ _ (by kernel_rfl)) .nil) <| ?_
    have hI_20 : RdrR 84 H p r_6 true [(p, .cells #[.slice a_12 n_13 k_14, .bool true] 84 (0, 0))] := ⟨_, _, _, rfl, hR_15, hB_16⟩
    have hS_21 := hS_19.pick 1 rfl
    have hS_22 := hS_21.pick 1 rfl
    change Sat _ _ ([(p, .cells #[.slice a_12 n_13 k_14, .bool true] 84 (0, 0))] :: H :: F) at hS_22
    change Sat _ _ ([(p, .cells #[.slice a_12 n_13 k_14, .bool true] 84 (0, 0))] :: H :: F) at hS_22
    have ht : (((n_13 : Nat) : Int)).tdiv 8 = ((n_13 : Nat) : Int) / 8 := Int.tdiv_eq_ediv_of_nonneg (by omega)
    simp only [ht] at *
    exact ⟨0, _, _, rfl, GotC.bad hG_9 (by first | (left; omega) | (right; omega)), _, hI_20, hS_22⟩
  · refine sFix 10 (decide ((v_5 : Int) < 0)) false (decide_eq_false hc_17) ?_
    refine p4 (by kernel_rfl) ?_
    refine guardYes rfl ⟨_, rfl, rfl, by kernel_rfl⟩ ?_
    refine sL hS_4 0 0 (.slice a_12 n_13 k_14) (Try.isAgg31 _) ?_
    refine p3 (by kernel_rfl) ?_
    refine guardYes rfl ⟨_, rfl, rfl, by kernel_rfl⟩ ?_
    refine sQuo ((n_13 : Nat) : Int) 8 ?_
    refine p2 (by kernel_rfl) ?_
    refine nilO ?_
    refine thenK_n <| ?_
    by_cases hc_23 : (v_5 : Int) > (((n_13 : Nat) : Int).tdiv 8)
    · refine cT (decide ((v_5 : Int) > (((n_13 : Nat) : Int).tdiv 8))) (decide_eq_true hc_23) ?_
      refine seqE ?_
      refine regionE ?_
      refine p3 (by kernel_rfl) ?_
      refine sT hS_4 0 1 (.bool true) [.bool true] #[.slice a_12 n_13 k_14, .bool true] Try.sizeOf4 ?_
      intro w_24 hS_25
      change Sat _ _ ([(p, .cells #[.slice a_12 n_13 k_14, .bool true] 84 (0, 0))] :: H :: F) at hS_25
      refine nilO ?_
      refine thenK_n <| ?_
      refine seqE ?_
      refine regionE ?_
      refine p1 (by kernel_rfl) ?_
      refine nilO ?_
      refine thenK_n <| ?_
      refine retE (thenK_r <| ?_)
      refine retN (vs := [.int .i64 0]) rfl (.cons (.tmp _ _ (by kernel_rfl)) .nil) <| ?_
      have hI_26 : RdrR 84 H p r_6 true [(p, .cells #[.slice a_12 n_13 k_14, .bool true] 84 (0, 0))] := ⟨_, _, _, rfl, hR_15, hB_16⟩
      have hS_27 := hS_25.pick 1 rfl
      have hS_28 := hS_27.pick 1 rfl
      change Sat _ _ ([(p, .cells #[.slice a_12 n_13 k_14, .bool true] 84 (0, 0))] :: H :: F) at hS_28
      change Sat _ _ ([(p, .cells #[.slice a_12 n_13 k_14, .bool true] 84 (0, 0))] :: H :: F) at hS_28
      have ht : (((n_13 : Nat) : Int)).tdiv 8 = ((n_13 : Nat) : Int) / 8 := Int.tdiv_eq_ediv_of_nonneg (by omega)
      simp only [ht] at *
      exact ⟨0, _, _, rfl, GotC.bad hG_9 (by first | (left; omega) | (right; omega)), _, hI_26, hS_28⟩
    · refine cF (decide ((v_5 : Int) > (((n_13 : Nat) : Int).tdiv 8))) (decide_eq_false hc_23) ?_
      refine skipE ?_
      refine thenK_n <| ?_
      refine seqE ?_
      refine regionE ?_
      refine p2 (by kernel_rfl) ?_
      refine nilO ?_
      refine thenK_n <| ?_
      refine retE ?_
      refine retN (vs := [.int .i64 v_5]) rfl (.cons (.tmp _ _ (by kernel_rfl)) .nil) <| ?_
      have hI_29 : RdrR 84 H p r_6 b_7 [(p, .cells #[.slice a_12 n_13 k_14, .bool b_7] 84 (0, 0))] := ⟨_, _, _, rfl, hR_15, hB_16⟩
      have hS_30 := hS_4.pick 1 rfl
      have hS_31 := hS_30.pick 1 rfl
      change Sat _ _ ([(p, .cells #[.slice a_12 n_13 k_14, .bool b_7] 84 (0, 0))] :: H :: F) at hS_31
      change Sat _ _ ([(p, .cells #[.slice a_12 n_13 k_14, .bool b_7] 84 (0, 0))] :: H :: F) at hS_31
      have ht : (((n_13 : Nat) : Int)).tdiv 8 = ((n_13 : Nat) : Int) / 8 := Int.tdiv_eq_ediv_of_nonneg (by omega)
      simp only [ht] at *
      exact ⟨v_5, _, _, rfl, GotC.good hG_9 hW_10 (by omega) (by omega), _, hI_29, hS_31⟩
theorem rdr_count_2 (W w : World) (p : Nat) (H fp : Chunk) (F : List Chunk) (r : List Int) (b : Bool) (hI : RdrR 84 H p r b fp) (hS : Sat W w (fp :: H :: F)) :
    Calls Try.prog 54 #[.pointer (some ⟨p, 0, none⟩), .int .i64 2] w fun e w' => ∃ (v : Int) (r' : List Int) (b' : Bool), e = .returned (.int .i64 v) ∧ GotC 2 r b v r' b' ∧ ∃ fp' : Chunk, RdrR 84 H p r' b' fp' ∧ Sat W w' (fp' :: H :: F) := by
  refine callsE (n := 26) Try.func54 rfl rfl (Nat.le_of_ble_eq_true rfl) ?_
  refine seqE ?_
  refine regionE ?_
  refine p1 (by kernel_rfl) ?_
  refine nilO ?_
  refine thenK_n <| ?_
  refine seqE ?_
  refine regionE ?_
  refine p1 (by kernel_rfl) ?_
  have hS_1 := hS.pick 1 rfl
  have hS_2 := hS_1.pick 1 rfl
  change Sat _ _ (fp :: H :: F) at hS_2
  refine sF #[.pointer (some ⟨p, 0, none⟩)] Try.call53 (Calls.mono (rdr_number W _ _ _ _ _ _ _ hI hS_2) ?_)
  rintro _ w_3 ⟨v_5, r_6, b_7, rfl, hG_9, hW_10, fp_8, hI_11, hS_4⟩
  refine ⟨_, rfl, ?_⟩
  change Sat _ _ (fp_8 :: H :: F) at hS_4
  refine p1 (by kernel_rfl) ?_
  refine nilO ?_
  refine thenK_n <| ?_
  refine seqE ?_
  refine seqE ?_
  change Sat _ _ (fp_8 :: H :: F) at hS_4
  obtain ⟨a_12, n_13, k_14, rfl, hR_15, hB_16⟩ := hI_11
  have hll_a_12 := hR_15.len; have hle_a_12 := hR_15.le
  refine regionE ?_
  refine p3 (by kernel_rfl) ?_
  by_cases hc_17 : (v_5 : Int) < 0
  · refine sFix 10 (decide ((v_5 : Int) < 0)) true (decide_eq_true hc_17) ?_
    refine p11 (by kernel_rfl) ?_
    refine nilO ?_
    refine thenK_n <| ?_
    refine condE_true (by kernel_rfl) ?_
    refine seqE ?_
    refine regionE ?_
    refine p3 (by kernel_rfl) ?_
    refine sT hS_4 0 1 (.bool true) [.bool true] #[.slice a_12 n_13 k_14, .bool true] Try.sizeOf4 ?_
    intro w_18 hS_19
    change Sat _ _ ([(p, .cells #[.slice a_12 n_13 k_14, .bool true] 84 (0, 0))] :: H :: F) at hS_19
    refine nilO ?_
    refine thenK_n <| ?_
    refine seqE ?_
    refine regionE ?_
    refine p1 (by kernel_rfl) ?_
    refine nilO ?_
    refine thenK_n <| ?_
    refine retE (thenK_r <| ?_)
    refine retN (vs := [.int .i64 0]) rfl (.cons (.tmp _ _ (by kernel_rfl)) .nil) <| ?_
    have hI_20 : RdrR 84 H p r_6 true [(p, .cells #[.slice a_12 n_13 k_14, .bool true] 84 (0, 0))] := ⟨_, _, _, rfl, hR_15, hB_16⟩
    have hS_21 := hS_19.pick 1 rfl
    have hS_22 := hS_21.pick 1 rfl
    change Sat _ _ ([(p, .cells #[.slice a_12 n_13 k_14, .bool true] 84 (0, 0))] :: H :: F) at hS_22
    change Sat _ _ ([(p, .cells #[.slice a_12 n_13 k_14, .bool true] 84 (0, 0))] :: H :: F) at hS_22
    have ht : (((n_13 : Nat) : Int)).tdiv 16 = ((n_13 : Nat) : Int) / 16 := Int.tdiv_eq_ediv_of_nonneg (by omega)
    simp only [ht] at *
    exact ⟨0, _, _, rfl, GotC.bad hG_9 (by first | (left; omega) | (right; omega)), _, hI_20, hS_22⟩
  · refine sFix 10 (decide ((v_5 : Int) < 0)) false (decide_eq_false hc_17) ?_
    refine p4 (by kernel_rfl) ?_
    refine guardYes rfl ⟨_, rfl, rfl, by kernel_rfl⟩ ?_
    refine sL hS_4 0 0 (.slice a_12 n_13 k_14) (Try.isAgg31 _) ?_
    refine p3 (by kernel_rfl) ?_
    refine guardYes rfl ⟨_, rfl, rfl, by kernel_rfl⟩ ?_
    refine sQuo ((n_13 : Nat) : Int) 16 ?_
    refine p2 (by kernel_rfl) ?_
    refine nilO ?_
    refine thenK_n <| ?_
    by_cases hc_23 : (v_5 : Int) > (((n_13 : Nat) : Int).tdiv 16)
    · refine cT (decide ((v_5 : Int) > (((n_13 : Nat) : Int).tdiv 16))) (decide_eq_true hc_23) ?_
      refine seqE ?_
      refine regionE ?_
      refine p3 (by kernel_rfl) ?_
      refine sT hS_4 0 1 (.bool true) [.bool true] #[.slice a_12 n_13 k_14, .bool true] Try.sizeOf4 ?_
      intro w_24 hS_25
      change Sat _ _ ([(p, .cells #[.slice a_12 n_13 k_14, .bool true] 84 (0, 0))] :: H :: F) at hS_25
      refine nilO ?_
      refine thenK_n <| ?_
      refine seqE ?_
      refine regionE ?_
      refine p1 (by kernel_rfl) ?_
      refine nilO ?_
      refine thenK_n <| ?_
      refine retE (thenK_r <| ?_)
      refine retN (vs := [.int .i64 0]) rfl (.cons (.tmp _ _ (by kernel_rfl)) .nil) <| ?_
      have hI_26 : RdrR 84 H p r_6 true [(p, .cells #[.slice a_12 n_13 k_14, .bool true] 84 (0, 0))] := ⟨_, _, _, rfl, hR_15, hB_16⟩
      have hS_27 := hS_25.pick 1 rfl
      have hS_28 := hS_27.pick 1 rfl
      change Sat _ _ ([(p, .cells #[.slice a_12 n_13 k_14, .bool true] 84 (0, 0))] :: H :: F) at hS_28
      change Sat _ _ ([(p, .cells #[.slice a_12 n_13 k_14, .bool true] 84 (0, 0))] :: H :: F) at hS_28
      have ht : (((n_13 : Nat) : Int)).tdiv 16 = ((n_13 : Nat) : Int) / 16 := Int.tdiv_eq_ediv_of_nonneg (by omega)
      simp only [ht] at *
      exact ⟨0, _, _, rfl, GotC.bad hG_9 (by first | (left; omega) | (right; omega)), _, hI_26, hS_28⟩
    · refine cF (decide ((v_5 : Int) > (((n_13 : Nat) : Int).tdiv 16))) (decide_eq_false hc_23) ?_
      refine skipE ?_
      refine thenK_n <| ?_
      refine seqE ?_
      refine regionE ?_
      refine p2 (by kernel_rfl) ?_
      refine nilO ?_
      refine thenK_n <| ?_
      refine retE ?_
      refine retN (vs := [.int .i64 v_5]) rfl (.cons (.tmp _ _ (by kernel_rfl)) .nil) <| ?_
      have hI_29 : RdrR 84 H p r_6 b_7 [(p, .cells #[.slice a_12 n_13 k_14, .bool b_7] 84 (0, 0))] := ⟨_, _, _, rfl, hR_15, hB_16⟩
      have hS_30 := hS_4.pick 1 rfl
      have hS_31 := hS_30.pick 1 rfl
      change Sat _ _ ([(p, .cells #[.slice a_12 n_13 k_14, .bool b_7] 84 (0, 0))] :: H :: F) at hS_31
      change Sat _ _ ([(p, .cells #[.slice a_12 n_13 k_14, .bool b_7] 84 (0, 0))] :: H :: F) at hS_31
      have ht : (((n_13 : Nat) : Int)).tdiv 16 = ((n_13 : Nat) : Int) / 16 := Int.tdiv_eq_ediv_of_nonneg (by omega)
      simp only [ht] at *
      exact ⟨v_5, _, _, rfl, GotC.good hG_9 hW_10 (by omega) (by omega), _, hI_29, hS_31⟩
theorem rdr_count_4 (W w : World) (p : Nat) (H fp : Chunk) (F : List Chunk) (r : List Int) (b : Bool) (hI : RdrR 84 H p r b fp) (hS : Sat W w (fp :: H :: F)) :
    Calls Try.prog 54 #[.pointer (some ⟨p, 0, none⟩), .int .i64 4] w fun e w' => ∃ (v : Int) (r' : List Int) (b' : Bool), e = .returned (.int .i64 v) ∧ GotC 4 r b v r' b' ∧ ∃ fp' : Chunk, RdrR 84 H p r' b' fp' ∧ Sat W w' (fp' :: H :: F) := by
  refine callsE (n := 26) Try.func54 rfl rfl (Nat.le_of_ble_eq_true rfl) ?_
  refine seqE ?_
  refine regionE ?_
  refine p1 (by kernel_rfl) ?_
  refine nilO ?_
  refine thenK_n <| ?_
  refine seqE ?_
  refine regionE ?_
  refine p1 (by kernel_rfl) ?_
  have hS_1 := hS.pick 1 rfl
  have hS_2 := hS_1.pick 1 rfl
  change Sat _ _ (fp :: H :: F) at hS_2
  refine sF #[.pointer (some ⟨p, 0, none⟩)] Try.call53 (Calls.mono (rdr_number W _ _ _ _ _ _ _ hI hS_2) ?_)
  rintro _ w_3 ⟨v_5, r_6, b_7, rfl, hG_9, hW_10, fp_8, hI_11, hS_4⟩
  refine ⟨_, rfl, ?_⟩
  change Sat _ _ (fp_8 :: H :: F) at hS_4
  refine p1 (by kernel_rfl) ?_
  refine nilO ?_
  refine thenK_n <| ?_
  refine seqE ?_
  refine seqE ?_
  change Sat _ _ (fp_8 :: H :: F) at hS_4
  obtain ⟨a_12, n_13, k_14, rfl, hR_15, hB_16⟩ := hI_11
  have hll_a_12 := hR_15.len; have hle_a_12 := hR_15.le
  refine regionE ?_
  refine p3 (by kernel_rfl) ?_
  by_cases hc_17 : (v_5 : Int) < 0
  · refine sFix 10 (decide ((v_5 : Int) < 0)) true (decide_eq_true hc_17) ?_
    refine p11 (by kernel_rfl) ?_
    refine nilO ?_
    refine thenK_n <| ?_
    refine condE_true (by kernel_rfl) ?_
    refine seqE ?_
    refine regionE ?_
    refine p3 (by kernel_rfl) ?_
    refine sT hS_4 0 1 (.bool true) [.bool true] #[.slice a_12 n_13 k_14, .bool true] Try.sizeOf4 ?_
    intro w_18 hS_19
    change Sat _ _ ([(p, .cells #[.slice a_12 n_13 k_14, .bool true] 84 (0, 0))] :: H :: F) at hS_19
    refine nilO ?_
    refine thenK_n <| ?_
    refine seqE ?_
    refine regionE ?_
    refine p1 (by kernel_rfl) ?_
    refine nilO ?_
    refine thenK_n <| ?_
    refine retE (thenK_r <| ?_)
    refine retN (vs := [.int .i64 0]) rfl (.cons (.tmp _ _ (by kernel_rfl)) .nil) <| ?_
    have hI_20 : RdrR 84 H p r_6 true [(p, .cells #[.slice a_12 n_13 k_14, .bool true] 84 (0, 0))] := ⟨_, _, _, rfl, hR_15, hB_16⟩
    have hS_21 := hS_19.pick 1 rfl
    have hS_22 := hS_21.pick 1 rfl
    change Sat _ _ ([(p, .cells #[.slice a_12 n_13 k_14, .bool true] 84 (0, 0))] :: H :: F) at hS_22
    change Sat _ _ ([(p, .cells #[.slice a_12 n_13 k_14, .bool true] 84 (0, 0))] :: H :: F) at hS_22
    have ht : (((n_13 : Nat) : Int)).tdiv 32 = ((n_13 : Nat) : Int) / 32 := Int.tdiv_eq_ediv_of_nonneg (by omega)
    simp only [ht] at *
    exact ⟨0, _, _, rfl, GotC.bad hG_9 (by first | (left; omega) | (right; omega)), _, hI_20, hS_22⟩
  · refine sFix 10 (decide ((v_5 : Int) < 0)) false (decide_eq_false hc_17) ?_
    refine p4 (by kernel_rfl) ?_
    refine guardYes rfl ⟨_, rfl, rfl, by kernel_rfl⟩ ?_
    refine sL hS_4 0 0 (.slice a_12 n_13 k_14) (Try.isAgg31 _) ?_
    refine p3 (by kernel_rfl) ?_
    refine guardYes rfl ⟨_, rfl, rfl, by kernel_rfl⟩ ?_
    refine sQuo ((n_13 : Nat) : Int) 32 ?_
    refine p2 (by kernel_rfl) ?_
    refine nilO ?_
    refine thenK_n <| ?_
    by_cases hc_23 : (v_5 : Int) > (((n_13 : Nat) : Int).tdiv 32)
    · refine cT (decide ((v_5 : Int) > (((n_13 : Nat) : Int).tdiv 32))) (decide_eq_true hc_23) ?_
      refine seqE ?_
      refine regionE ?_
      refine p3 (by kernel_rfl) ?_
      refine sT hS_4 0 1 (.bool true) [.bool true] #[.slice a_12 n_13 k_14, .bool true] Try.sizeOf4 ?_
      intro w_24 hS_25
      change Sat _ _ ([(p, .cells #[.slice a_12 n_13 k_14, .bool true] 84 (0, 0))] :: H :: F) at hS_25
      refine nilO ?_
      refine thenK_n <| ?_
      refine seqE ?_
      refine regionE ?_
      refine p1 (by kernel_rfl) ?_
      refine nilO ?_
      refine thenK_n <| ?_
      refine retE (thenK_r <| ?_)
      refine retN (vs := [.int .i64 0]) rfl (.cons (.tmp _ _ (by kernel_rfl)) .nil) <| ?_
      have hI_26 : RdrR 84 H p r_6 true [(p, .cells #[.slice a_12 n_13 k_14, .bool true] 84 (0, 0))] := ⟨_, _, _, rfl, hR_15, hB_16⟩
      have hS_27 := hS_25.pick 1 rfl
      have hS_28 := hS_27.pick 1 rfl
      change Sat _ _ ([(p, .cells #[.slice a_12 n_13 k_14, .bool true] 84 (0, 0))] :: H :: F) at hS_28
      change Sat _ _ ([(p, .cells #[.slice a_12 n_13 k_14, .bool true] 84 (0, 0))] :: H :: F) at hS_28
      have ht : (((n_13 : Nat) : Int)).tdiv 32 = ((n_13 : Nat) : Int) / 32 := Int.tdiv_eq_ediv_of_nonneg (by omega)
      simp only [ht] at *
      exact ⟨0, _, _, rfl, GotC.bad hG_9 (by first | (left; omega) | (right; omega)), _, hI_26, hS_28⟩
    · refine cF (decide ((v_5 : Int) > (((n_13 : Nat) : Int).tdiv 32))) (decide_eq_false hc_23) ?_
      refine skipE ?_
      refine thenK_n <| ?_
      refine seqE ?_
      refine regionE ?_
      refine p2 (by kernel_rfl) ?_
      refine nilO ?_
      refine thenK_n <| ?_
      refine retE ?_
      refine retN (vs := [.int .i64 v_5]) rfl (.cons (.tmp _ _ (by kernel_rfl)) .nil) <| ?_
      have hI_29 : RdrR 84 H p r_6 b_7 [(p, .cells #[.slice a_12 n_13 k_14, .bool b_7] 84 (0, 0))] := ⟨_, _, _, rfl, hR_15, hB_16⟩
      have hS_30 := hS_4.pick 1 rfl
      have hS_31 := hS_30.pick 1 rfl
      change Sat _ _ ([(p, .cells #[.slice a_12 n_13 k_14, .bool b_7] 84 (0, 0))] :: H :: F) at hS_31
      change Sat _ _ ([(p, .cells #[.slice a_12 n_13 k_14, .bool b_7] 84 (0, 0))] :: H :: F) at hS_31
      have ht : (((n_13 : Nat) : Int)).tdiv 32 = ((n_13 : Nat) : Int) / 32 := Int.tdiv_eq_ediv_of_nonneg (by omega)
      simp only [ht] at *
      exact ⟨v_5, _, _, rfl, GotC.good hG_9 hW_10 (by omega) (by omega), _, hI_29, hS_31⟩
theorem rdr_count_18 (W w : World) (p : Nat) (H fp : Chunk) (F : List Chunk) (r : List Int) (b : Bool) (hI : RdrR 84 H p r b fp) (hS : Sat W w (fp :: H :: F)) :
    Calls Try.prog 54 #[.pointer (some ⟨p, 0, none⟩), .int .i64 18] w fun e w' => ∃ (v : Int) (r' : List Int) (b' : Bool), e = .returned (.int .i64 v) ∧ GotC 18 r b v r' b' ∧ ∃ fp' : Chunk, RdrR 84 H p r' b' fp' ∧ Sat W w' (fp' :: H :: F) := by
  refine callsE (n := 26) Try.func54 rfl rfl (Nat.le_of_ble_eq_true rfl) ?_
  refine seqE ?_
  refine regionE ?_
  refine p1 (by kernel_rfl) ?_
  refine nilO ?_
  refine thenK_n <| ?_
  refine seqE ?_
  refine regionE ?_
  refine p1 (by kernel_rfl) ?_
  have hS_1 := hS.pick 1 rfl
  have hS_2 := hS_1.pick 1 rfl
  change Sat _ _ (fp :: H :: F) at hS_2
  refine sF #[.pointer (some ⟨p, 0, none⟩)] Try.call53 (Calls.mono (rdr_number W _ _ _ _ _ _ _ hI hS_2) ?_)
  rintro _ w_3 ⟨v_5, r_6, b_7, rfl, hG_9, hW_10, fp_8, hI_11, hS_4⟩
  refine ⟨_, rfl, ?_⟩
  change Sat _ _ (fp_8 :: H :: F) at hS_4
  refine p1 (by kernel_rfl) ?_
  refine nilO ?_
  refine thenK_n <| ?_
  refine seqE ?_
  refine seqE ?_
  change Sat _ _ (fp_8 :: H :: F) at hS_4
  obtain ⟨a_12, n_13, k_14, rfl, hR_15, hB_16⟩ := hI_11
  have hll_a_12 := hR_15.len; have hle_a_12 := hR_15.le
  refine regionE ?_
  refine p3 (by kernel_rfl) ?_
  by_cases hc_17 : (v_5 : Int) < 0
  · refine sFix 10 (decide ((v_5 : Int) < 0)) true (decide_eq_true hc_17) ?_
    refine p11 (by kernel_rfl) ?_
    refine nilO ?_
    refine thenK_n <| ?_
    refine condE_true (by kernel_rfl) ?_
    refine seqE ?_
    refine regionE ?_
    refine p3 (by kernel_rfl) ?_
    refine sT hS_4 0 1 (.bool true) [.bool true] #[.slice a_12 n_13 k_14, .bool true] Try.sizeOf4 ?_
    intro w_18 hS_19
    change Sat _ _ ([(p, .cells #[.slice a_12 n_13 k_14, .bool true] 84 (0, 0))] :: H :: F) at hS_19
    refine nilO ?_
    refine thenK_n <| ?_
    refine seqE ?_
    refine regionE ?_
    refine p1 (by kernel_rfl) ?_
    refine nilO ?_
    refine thenK_n <| ?_
    refine retE (thenK_r <| ?_)
    refine retN (vs := [.int .i64 0]) rfl (.cons (.tmp _ _ (by kernel_rfl)) .nil) <| ?_
    have hI_20 : RdrR 84 H p r_6 true [(p, .cells #[.slice a_12 n_13 k_14, .bool true] 84 (0, 0))] := ⟨_, _, _, rfl, hR_15, hB_16⟩
    have hS_21 := hS_19.pick 1 rfl
    have hS_22 := hS_21.pick 1 rfl
    change Sat _ _ ([(p, .cells #[.slice a_12 n_13 k_14, .bool true] 84 (0, 0))] :: H :: F) at hS_22
    change Sat _ _ ([(p, .cells #[.slice a_12 n_13 k_14, .bool true] 84 (0, 0))] :: H :: F) at hS_22
    have ht : (((n_13 : Nat) : Int)).tdiv 144 = ((n_13 : Nat) : Int) / 144 := Int.tdiv_eq_ediv_of_nonneg (by omega)
    simp only [ht] at *
    exact ⟨0, _, _, rfl, GotC.bad hG_9 (by first | (left; omega) | (right; omega)), _, hI_20, hS_22⟩
  · refine sFix 10 (decide ((v_5 : Int) < 0)) false (decide_eq_false hc_17) ?_
    refine p4 (by kernel_rfl) ?_
    refine guardYes rfl ⟨_, rfl, rfl, by kernel_rfl⟩ ?_
    refine sL hS_4 0 0 (.slice a_12 n_13 k_14) (Try.isAgg31 _) ?_
    refine p3 (by kernel_rfl) ?_
    refine guardYes rfl ⟨_, rfl, rfl, by kernel_rfl⟩ ?_
    refine sQuo ((n_13 : Nat) : Int) 144 ?_
    refine p2 (by kernel_rfl) ?_
    refine nilO ?_
    refine thenK_n <| ?_
    by_cases hc_23 : (v_5 : Int) > (((n_13 : Nat) : Int).tdiv 144)
    · refine cT (decide ((v_5 : Int) > (((n_13 : Nat) : Int).tdiv 144))) (decide_eq_true hc_23) ?_
      refine seqE ?_
      refine regionE ?_
      refine p3 (by kernel_rfl) ?_
      refine sT hS_4 0 1 (.bool true) [.bool true] #[.slice a_12 n_13 k_14, .bool true] Try.sizeOf4 ?_
      intro w_24 hS_25
      change Sat _ _ ([(p, .cells #[.slice a_12 n_13 k_14, .bool true] 84 (0, 0))] :: H :: F) at hS_25
      refine nilO ?_
      refine thenK_n <| ?_
      refine seqE ?_
      refine regionE ?_
      refine p1 (by kernel_rfl) ?_
      refine nilO ?_
      refine thenK_n <| ?_
      refine retE (thenK_r <| ?_)
      refine retN (vs := [.int .i64 0]) rfl (.cons (.tmp _ _ (by kernel_rfl)) .nil) <| ?_
      have hI_26 : RdrR 84 H p r_6 true [(p, .cells #[.slice a_12 n_13 k_14, .bool true] 84 (0, 0))] := ⟨_, _, _, rfl, hR_15, hB_16⟩
      have hS_27 := hS_25.pick 1 rfl
      have hS_28 := hS_27.pick 1 rfl
      change Sat _ _ ([(p, .cells #[.slice a_12 n_13 k_14, .bool true] 84 (0, 0))] :: H :: F) at hS_28
      change Sat _ _ ([(p, .cells #[.slice a_12 n_13 k_14, .bool true] 84 (0, 0))] :: H :: F) at hS_28
      have ht : (((n_13 : Nat) : Int)).tdiv 144 = ((n_13 : Nat) : Int) / 144 := Int.tdiv_eq_ediv_of_nonneg (by omega)
      simp only [ht] at *
      exact ⟨0, _, _, rfl, GotC.bad hG_9 (by first | (left; omega) | (right; omega)), _, hI_26, hS_28⟩
    · refine cF (decide ((v_5 : Int) > (((n_13 : Nat) : Int).tdiv 144))) (decide_eq_false hc_23) ?_
      refine skipE ?_
      refine thenK_n <| ?_
      refine seqE ?_
      refine regionE ?_
      refine p2 (by kernel_rfl) ?_
      refine nilO ?_
      refine thenK_n <| ?_
      refine retE ?_
      refine retN (vs := [.int .i64 v_5]) rfl (.cons (.tmp _ _ (by kernel_rfl)) .nil) <| ?_
      have hI_29 : RdrR 84 H p r_6 b_7 [(p, .cells #[.slice a_12 n_13 k_14, .bool b_7] 84 (0, 0))] := ⟨_, _, _, rfl, hR_15, hB_16⟩
      have hS_30 := hS_4.pick 1 rfl
      have hS_31 := hS_30.pick 1 rfl
      change Sat _ _ ([(p, .cells #[.slice a_12 n_13 k_14, .bool b_7] 84 (0, 0))] :: H :: F) at hS_31
      change Sat _ _ ([(p, .cells #[.slice a_12 n_13 k_14, .bool b_7] 84 (0, 0))] :: H :: F) at hS_31
      have ht : (((n_13 : Nat) : Int)).tdiv 144 = ((n_13 : Nat) : Int) / 144 := Int.tdiv_eq_ediv_of_nonneg (by omega)
      simp only [ht] at *
      exact ⟨v_5, _, _, rfl, GotC.good hG_9 hW_10 (by omega) (by omega), _, hI_29, hS_31⟩
theorem rdr_numbers (W w : World) (p : Nat) (H fp : Chunk) (F : List Chunk) (r : List Int) (b : Bool) (hI : RdrR 84 H p r b fp) (hS : Sat W w (fp :: H :: F)) :
    Calls Try.prog 57 #[.pointer (some ⟨p, 0, none⟩)] w fun e w' => ∃ (a : Option Addr) (n k : Nat) (xs : List Int) (G : Chunk) (r' : List Int) (b' : Bool), e = .returned (.slice a n k) ∧ RdT encI 1 [G] a n k xs ∧ Got (encL encN) (wfL WfI) r b xs r' b' ∧ ∃ fp' : Chunk, RdrR 84 H p r' b' fp' ∧ Sat W w' (fp' :: G :: H :: F) := by
  refine callsE (n := 15) Try.func57 rfl rfl (Nat.le_of_ble_eq_true rfl) ?_
  refine seqE ?_
  refine regionE ?_
  refine p1 (by kernel_rfl) ?_
  refine nilO ?_
  refine thenK_n <| ?_
  refine seqE ?_
  refine regionE ?_
  refine p1 (by kernel_rfl) ?_
  refine nilO ?_
  refine thenK_n <| ?_
  refine seqE ?_
  refine seqE ?_
  refine regionE ?_
  refine p1 (by kernel_rfl) ?_
  have hS_1 := hS.pick 1 rfl
  have hS_2 := hS_1.pick 1 rfl
  change Sat _ _ (fp :: H :: F) at hS_2
  refine sF #[.pointer (some ⟨p, 0, none⟩), .int .i64 1] Try.call54 (Calls.mono (rdr_count_1 W _ _ _ _ _ _ _ hI hS_2) ?_)
  rintro _ w_3 ⟨v_5, r_6, b_7, rfl, hC_9, fp_8, hI_10, hS_4⟩
  refine ⟨_, rfl, ?_⟩
  have hrng_v_5 := hC_9.rng; have hcap_v_5 := (by obtain ⟨_, _, _, _, _, _, h⟩ := hI_10; exact h : r_6.length ≤ 262144)
  change Sat _ _ (fp_8 :: H :: F) at hS_4
  refine p1 (by kernel_rfl) ?_
  refine nilO ?_
  refine thenK_n <| ?_
  refine blockE ?_
  have hS_11 := Sat.nilc hS_4
  have hO_12 := OwnT.nil (enc := encI) (E := 3) (sz := 1) (fun _ => rfl)
  have hS_13 := hS_11.pick 1 rfl
  change Sat _ _ (fp_8 :: [] :: H :: F) at hS_13
  refine loopE (γ := Nat × (List Int) × (Option Addr) × Nat × Nat × Chunk × (List Int) × Bool × Chunk) (fun ⟨i, xs, a, n, k, c, r', b', fp'⟩ ρ w => AllAt ρ [(0, .pointer (some ⟨p, 0, none⟩)), (3, .slice a n k), (5, .int .i64 v_5), (6, .int .i64 ((i : Nat) : Int))] ∧ Sat W w (fp' :: c :: H :: F) ∧ (i : Int) ≤ v_5 ∧ Got (encF encN) (wfN WfI i) r_6 b_7 xs r' b' ∧ RdrR 84 H p r' b' fp' ∧ OwnT encI 3 1 a n k xs c ∧ n = i) (fun ⟨i, xs, a, n, k, c, r', b', fp'⟩ => v_5.toNat - i) (0, [], none, 0, 0, [], r_6, b_7, fp_8) ⟨⟨by kernel_rfl, by kernel_rfl, by kernel_rfl, by kernel_rfl, trivial⟩, hS_13, by omega, Got.none _ _, hI_10, hO_12, rfl⟩ ?_
  skip
  rintro ⟨i, xs, a, n, k, c, r', b', fp'⟩ ρ w_14 ⟨hA, hS_15, hi, hG, hI', hO, hn⟩
  refine cAnchor hA (fun ρ => ?_)
  clear hA
  refine seqE ?_
  refine regionE ?_
  refine p1 (by kernel_rfl) ?_
  refine nilO ?_
  refine thenK_n <| ?_
  refine seqE ?_
  by_cases hc_16 : (((i : Nat) : Int) : Int) < v_5
  · refine cT (decide ((((i : Nat) : Int) : Int) < v_5)) (decide_eq_true hc_16) ?_
    refine skipE ?_
    refine thenK_n <| ?_
    refine seqE ?_
    refine blockE ?_
    refine regionE ?_
    refine p2 (by kernel_rfl) ?_
    have hS_17 := hS_15.pick 2 rfl
    have hS_18 := hS_17.pick 1 rfl
    change Sat _ _ (fp' :: H :: c :: F) at hS_18
    refine sF #[.pointer (some ⟨p, 0, none⟩)] Try.call53 (Calls.mono (rdr_number W _ _ _ _ _ _ _ hI' hS_18) ?_)
    rintro _ w_19 ⟨v_21, r_22, b_23, rfl, hG_25, hW_26, fp_24, hI_27, hS_20⟩
    refine ⟨_, rfl, ?_⟩
    change Sat _ _ (fp_24 :: H :: c :: F) at hS_20
    refine sBS hS_20 #[.int .i64 v_21] Try.runUnderlying22 Try.sizeOf3 Try.zeroValue3 ?_
    intro b_28 w_29 hS_30
    refine sApp (nb := 8) hS_30 hO 3 (RdT.blk (enc := encI) (sz := 1) (xs := [v_21]) (fun _ => rfl) 1 0 rfl rfl rfl (by omega)) Try.underlying22 (i := Try.t3) (by kernel_rfl) (fun _ => rfl) ?_
    intro a_31 cap_32 c_33 w_34 hO_35 hS_36
    change Sat _ _ ([(b_28, .cells #[.int .i64 v_21] 3 (0, 0))] :: fp_24 :: H :: c_33 :: F) at hS_36
    refine p1 (by kernel_rfl) ?_
    refine nilO ?_
    refine blockK_n <| thenK_n <| ?_
    refine regionE ?_
    refine sAdd ((i : Nat) : Int) 1 ?_
    refine p1 (by kernel_rfl) ?_
    refine nilO ?_
    refine thenK_n <| ?_
    have hS_37 := hS_36.pick 2 rfl
    have hS_38 := hS_37.pick 3 rfl
    have hS_39 := hS_38.pick 3 rfl
    change Sat _ _ (fp_24 :: c_33 :: H :: [(b_28, .cells #[.int .i64 v_21] 3 (0, 0))] :: F) at hS_39
    have hS_40 := hS_39.dropAt 3 rfl
    change Sat _ _ (fp_24 :: c_33 :: H :: F) at hS_40
    have hX := hG.snoc pfI hG_25
    exact ⟨(i + 1, (xs ++ [v_21]), a_31, (n + 1), cap_32, c_33, r_22, b_23, fp_24), by dsimp only; omega, ⟨by kernel_rfl, by kernel_rfl, by kernel_rfl, by kernel_rfl, trivial⟩, hS_40, by omega, by first | exact hX | simpa using hX, hI_27, hO_35, by omega⟩
  · refine cF (decide ((((i : Nat) : Int) : Int) < v_5)) (decide_eq_false hc_16) ?_
    refine exitE (thenK_x <| thenK_x <| blockK_x <| ?_)
    refine thenK_n <| ?_
    refine seqE ?_
    refine regionE ?_
    refine p2 (by kernel_rfl) ?_
    refine nilO ?_
    refine thenK_n <| ?_
    refine retE ?_
    refine retN (vs := [.slice a n k]) rfl (.cons (.tmp _ _ (by kernel_rfl)) .nil) <| ?_
    have hS_41 := hS_15.pick 2 rfl
    have hS_42 := hS_41.pick 2 rfl
    have hS_43 := hS_42.pick 2 rfl
    change Sat _ _ (fp' :: c :: H :: F) at hS_43
    change Sat _ _ (fp' :: c :: H :: F) at hS_43
    have hZ : Got (encF encN) (wfN WfI v_5.toNat) r_6 b_7 xs r' b' := by rw [show v_5.toNat = i from by omega]; exact hG
    exact ⟨a, n, k, xs, c, r', b', rfl, (hO.rd (fun p hp => by simp [hp])), Got.list encN_ge hC_9 hZ, _, hI', hS_43⟩
theorem rdr_taps (W w : World) (p : Nat) (H fp : Chunk) (F : List Chunk) (r : List Int) (b : Bool) (hI : RdrR 84 H p r b fp) (hS : Sat W w (fp :: H :: F)) :
    Calls Try.prog 65 #[.pointer (some ⟨p, 0, none⟩)] w fun e w' => ∃ (a : Option Addr) (n k : Nat) (xs : List Tap) (G : Chunk) (r' : List Int) (b' : Bool), e = .returned (.slice a n k) ∧ RdT encTap 2 [G] a n k xs ∧ (∀ z ∈ xs, Tap.Ok [G] z) ∧ Got (encL nTap) (wfL wfTap) r b (xs.map Tap.v) r' b' ∧ ∃ fp' : Chunk, RdrR 84 H p r' b' fp' ∧ Sat W w' (fp' :: G :: H :: F) := by
  refine callsE (n := 25) Try.func65 rfl rfl (Nat.le_of_ble_eq_true rfl) ?_
  refine seqE ?_
  refine regionE ?_
  refine p1 (by kernel_rfl) ?_
  refine nilO ?_
  refine thenK_n <| ?_
  refine seqE ?_
  refine regionE ?_
  refine p1 (by kernel_rfl) ?_
  refine nilO ?_
  refine thenK_n <| ?_
  refine seqE ?_
  refine seqE ?_
  refine regionE ?_
  refine p1 (by kernel_rfl) ?_
  have hS_1 := hS.pick 1 rfl
  have hS_2 := hS_1.pick 1 rfl
  change Sat _ _ (fp :: H :: F) at hS_2
  refine sF #[.pointer (some ⟨p, 0, none⟩), .int .i64 2] Try.call54 (Calls.mono (rdr_count_2 W _ _ _ _ _ _ _ hI hS_2) ?_)
  rintro _ w_3 ⟨v_5, r_6, b_7, rfl, hC_9, fp_8, hI_10, hS_4⟩
  refine ⟨_, rfl, ?_⟩
  have hrng_v_5 := hC_9.rng; have hcap_v_5 := (by obtain ⟨_, _, _, _, _, _, h⟩ := hI_10; exact h : r_6.length ≤ 262144)
  change Sat _ _ (fp_8 :: H :: F) at hS_4
  refine p1 (by kernel_rfl) ?_
  refine nilO ?_
  refine thenK_n <| ?_
  refine blockE ?_
  have hS_11 := Sat.nilc hS_4
  have hO_12 := OwnT.nil (enc := encTap) (E := 94) (sz := 2) (fun _ => rfl)
  have hS_13 := Sat.nilc hS_11
  have hS_14 := hS_13.pick 2 rfl
  change Sat _ _ (fp_8 :: [] :: [] :: H :: F) at hS_14
  refine loopE (γ := Nat × (List Tap) × (Option Addr) × Nat × Nat × Chunk × Chunk × (List Int) × Bool × Chunk) (fun ⟨i, xs, a, n, k, c, G, r', b', fp'⟩ ρ w => AllAt ρ [(0, .pointer (some ⟨p, 0, none⟩)), (3, .slice a n k), (6, .int .i64 v_5), (7, .int .i64 ((i : Nat) : Int))] ∧ Sat W w (fp' :: c :: G :: H :: F) ∧ (i : Int) ≤ v_5 ∧ Got (encF nTap) (wfN wfTap i) r_6 b_7 (xs.map Tap.v) r' b' ∧ RdrR 84 H p r' b' fp' ∧ OwnT encTap 94 2 a n k xs c ∧ n = i ∧ (∀ z ∈ xs, Tap.Ok [G] z)) (fun ⟨i, xs, a, n, k, c, G, r', b', fp'⟩ => v_5.toNat - i) (0, [], none, 0, 0, [], [], r_6, b_7, fp_8) ⟨⟨by kernel_rfl, by kernel_rfl, by kernel_rfl, by kernel_rfl, trivial⟩, hS_14, by omega, Got.none _ _, hI_10, hO_12, rfl, (by intro z hz; cases hz)⟩ ?_
  skip
  rintro ⟨i, xs, a, n, k, c, G, r', b', fp'⟩ ρ w_15 ⟨hA, hS_16, hi, hG, hI', hO, hn, hD⟩
  refine cAnchor hA (fun ρ => ?_)
  clear hA
  refine seqE ?_
  refine regionE ?_
  refine p1 (by kernel_rfl) ?_
  refine nilO ?_
  refine thenK_n <| ?_
  refine seqE ?_
  by_cases hc_17 : (((i : Nat) : Int) : Int) < v_5
  · refine cT (decide ((((i : Nat) : Int) : Int) < v_5)) (decide_eq_true hc_17) ?_
    refine skipE ?_
    refine thenK_n <| ?_
    refine seqE ?_
    refine blockE ?_
    refine seqE ?_
    refine regionE ?_
    refine p1 (by kernel_rfl) ?_
    have hS_18 := hS_16.pick 3 rfl
    have hS_19 := hS_18.pick 1 rfl
    change Sat _ _ (fp' :: H :: c :: G :: F) at hS_19
    refine sF #[.pointer (some ⟨p, 0, none⟩)] Try.call53 (Calls.mono (rdr_number W _ _ _ _ _ _ _ hI' hS_19) ?_)
    rintro _ w_20 ⟨v_22, r_23, b_24, rfl, hG_26, hW_27, fp_25, hI_28, hS_21⟩
    refine ⟨_, rfl, ?_⟩
    change Sat _ _ (fp_25 :: H :: c :: G :: F) at hS_21
    refine p1 (by kernel_rfl) ?_
    refine sAlloc hS_21 Try.zeroValue94 ?_
    intro b_29 w_30 hS_31
    try dsimp only [List.set, List.eraseIdx] at hS_31
    refine sT hS_31 0 0 (.agg #[.int .i64 v_22, .slice none 0 0]) [.int .i64 v_22, .slice none 0 0] #[.int .i64 v_22, .slice none 0 0] Try.sizeOf94 ?_
    intro w_32 hS_33
    try dsimp only [List.set, List.eraseIdx] at hS_33
    refine nilO ?_
    refine thenK_n <| ?_
    refine seqE ?_
    refine regionE ?_
    refine p1 (by kernel_rfl) ?_
    have hS_34 := hS_33.pick 2 rfl
    have hS_35 := hS_34.pick 2 rfl
    try dsimp only [List.set, List.eraseIdx] at hS_35
    refine sF #[.pointer (some ⟨p, 0, none⟩)] Try.call57 (Calls.mono (rdr_numbers W _ _ _ _ _ _ _ hI_28 hS_35) ?_)
    rintro _ w_36 ⟨a_38, n_39, k_40, xs_41, G_42, r_43, b_44, rfl, hR_46, hG_48, fp_45, hI_49, hS_37⟩
    refine ⟨_, rfl, ?_⟩
    try dsimp only [List.set, List.eraseIdx] at hS_37
    refine p1 (by kernel_rfl) ?_
    refine sT hS_37 3 1 (.slice a_38 n_39 k_40) [.slice a_38 n_39 k_40] #[.int .i64 v_22, .slice a_38 n_39 k_40] Try.sizeOf22 ?_
    intro w_50 hS_51
    try dsimp only [List.set, List.eraseIdx] at hS_51
    refine nilO ?_
    refine thenK_n <| ?_
    refine seqE ?_
    refine regionE ?_
    refine p1 (by kernel_rfl) ?_
    refine sLA hS_51 3 0 [.int .i64 v_22, .slice a_38 n_39 k_40] (Try.isAgg94 _) (Try.sizeOf94 _) ?_
    refine sBS hS_51 #[.int .i64 v_22, .slice a_38 n_39 k_40] Try.runUnderlying58 Try.sizeOf94 Try.zeroValue94 ?_
    intro b_52 w_53 hS_54
    refine sApp (nb := 32) hS_54 hO 5 (RdT.blk (enc := encTap) (sz := 2) (xs := [(⟨v_22, ⟨a_38, n_39, k_40, xs_41⟩⟩ : Tap)]) (fun _ => rfl) 1 0 rfl rfl rfl (by omega)) Try.underlying58 (i := Try.t94) (by kernel_rfl) (fun _ => rfl) ?_
    intro a_55 cap_56 c_57 w_58 hO_59 hS_60
    try dsimp only [List.set, List.eraseIdx] at hS_60
    refine p1 (by kernel_rfl) ?_
    refine nilO ?_
    refine thenK_n <| ?_
    refine seqE ?_
    have hS_66 := hS_60.pick 1 rfl
    try dsimp only [List.set, List.eraseIdx] at hS_66
    obtain ⟨a_61, n_62, k_63, rfl, hR_64, hB_65⟩ := hI_49
    have hll_a_61 := hR_64.len; have hle_a_61 := hR_64.le
    refine regionE ?_
    refine p3 (by kernel_rfl) ?_
    refine sL hS_66 0 1 (.bool b_44) (Try.isAgg4 _) ?_
    refine nilO ?_
    refine thenK_n <| ?_
    cases b_44
    · refine condE_false (by kernel_rfl) ?_
      refine skipE ?_
      refine blockK_n <| thenK_n <| ?_
      refine regionE ?_
      refine sAdd ((i : Nat) : Int) 1 ?_
      refine p1 (by kernel_rfl) ?_
      refine nilO ?_
      refine thenK_n <| ?_
      have hI_67 : RdrR 84 H p r_43 false [(p, .cells #[.slice a_61 n_62 k_63, .bool false] 84 (0, 0))] := ⟨_, _, _, rfl, hR_64, hB_65⟩
      have hS_68 := hS_66.pick 3 rfl
      have hS_69 := hS_68.pick 6 rfl
      have hS_70 := hS_69.pick 4 rfl
      have hS_71 := hS_70.pick 6 rfl
      have hS_72 := hS_71.pick 4 rfl
      try dsimp only [List.set, List.eraseIdx] at hS_72
      have hS_73 := hS_72.dropAt 5 rfl
      have hS_74 := hS_73.dropAt 5 rfl
      try dsimp only [List.set, List.eraseIdx] at hS_74
      have hX := hG.snoc pfTap (Got.tap hG_26 hG_48)
      have hS_75 := (Sat.perm (cs' := [(p, .cells #[.slice a_61 n_62 k_63, .bool false] 84 (0, 0))] :: c_57 :: (G_42 ++ G) :: H :: F) hS_74 (by simp))
      have hD2 : ∀ z ∈ xs ++ [(⟨v_22, ⟨a_38, n_39, k_40, xs_41⟩⟩ : Tap)], Tap.Ok [(G_42 ++ G)] z := by
        intro z hz
        rcases List.mem_append.1 hz with h | h
        · exact (hD z h).of_mem (fun p hp => by simp at hp ⊢; simp [hp])
        · simp only [List.mem_singleton] at h; subst h; exact ⟨hR_46.of_mem (fun p hp => by simp at hp ⊢; simp [hp])⟩
      exact ⟨(i + 1, (xs ++ [(⟨v_22, ⟨a_38, n_39, k_40, xs_41⟩⟩ : Tap)]), a_55, (n + 1), cap_56, c_57, (G_42 ++ G), r_43, false, [(p, .cells #[.slice a_61 n_62 k_63, .bool false] 84 (0, 0))]), by dsimp only; omega, ⟨by kernel_rfl, by kernel_rfl, by kernel_rfl, by kernel_rfl, trivial⟩, hS_75, by omega, by simpa [Tap.v] using hX, hI_67, hO_59, by omega, hD2⟩
    · refine condE_true (by kernel_rfl) ?_
      refine seqE ?_
      refine regionE ?_
      refine p1 (by kernel_rfl) ?_
      refine nilO ?_
      refine thenK_n <| ?_
      refine retE (blockK_r <| thenK_r <| thenK_r <| blockK_r <| thenK_r <| ?_)
      refine retN (vs := [.slice none 0 0]) rfl (.cons (.tmp _ _ (by kernel_rfl)) .nil) <| ?_
      have hI_76 : RdrR 84 H p r_43 true [(p, .cells #[.slice a_61 n_62 k_63, .bool true] 84 (0, 0))] := ⟨_, _, _, rfl, hR_64, hB_65⟩
      have hX := hG.snoc pfTap (Got.tap hG_26 hG_48)
      have hS_77 := hS_66.pick 3 rfl
      have hS_78 := hS_77.pick 1 rfl
      try dsimp only [List.set, List.eraseIdx] at hS_78
      have hS_79 := hS_78.dropAt 2 rfl
      have hS_80 := hS_79.dropAt 2 rfl
      have hS_81 := hS_80.dropAt 2 rfl
      have hS_82 := hS_81.dropAt 2 rfl
      have hS_83 := hS_82.dropAt 2 rfl
      change Sat _ _ ([(p, .cells #[.slice a_61 n_62 k_63, .bool true] 84 (0, 0))] :: H :: F) at hS_83
      have hS_84 : Sat W _ ([(p, .cells #[.slice a_61 n_62 k_63, .bool true] 84 (0, 0))] :: [] :: H :: F) := Sat.perm hS_83 (by simp)
      have hZ := (hX.stop (n := v_5.toNat) (by omega) ([] : List TapV))
      exact ⟨none, 0, 0, [], [], _, _, rfl, RdT.nil (enc := encTap) (sz := 2) (fun _ => rfl) _, (fun z hz => by cases hz), Got.list nTap_ge hC_9 hZ, _, hI_76, hS_84⟩
  · refine cF (decide ((((i : Nat) : Int) : Int) < v_5)) (decide_eq_false hc_17) ?_
    refine exitE (thenK_x <| thenK_x <| blockK_x <| ?_)
    refine thenK_n <| ?_
    refine seqE ?_
    refine regionE ?_
    refine p2 (by kernel_rfl) ?_
    refine nilO ?_
    refine thenK_n <| ?_
    refine retE ?_
    refine retN (vs := [.slice a n k]) rfl (.cons (.tmp _ _ (by kernel_rfl)) .nil) <| ?_
    have hS_85 := hS_16.pick 3 rfl
    have hS_86 := hS_85.pick 3 rfl
    have hS_87 := hS_86.pick 3 rfl
    have hS_88 := hS_87.pick 3 rfl
    change Sat _ _ (fp' :: c :: G :: H :: F) at hS_88
    change Sat _ _ (fp' :: c :: G :: H :: F) at hS_88
    have hS_89 : Sat W _ (fp' :: (c ++ G) :: H :: F) := Sat.perm hS_88 (by simp)
    have hZ : Got (encF nTap) (wfN wfTap v_5.toNat) r_6 b_7 (xs.map Tap.v) r' b' := by rw [show v_5.toNat = i from by omega]; exact hG
    exact ⟨a, n, k, xs, (c ++ G), r', b', rfl, (hO.rd (fun p hp => by simp [hp])), (fun z hz => (hD z hz).of_mem (fun p hp => by simp at hp ⊢; simp [hp])), Got.list nTap_ge hC_9 hZ, _, hI', hS_89⟩
theorem rdr_ops (W w : World) (p : Nat) (H fp : Chunk) (F : List Chunk) (r : List Int) (b : Bool) (hI : RdrR 84 H p r b fp) (hS : Sat W w (fp :: H :: F)) :
    Calls Try.prog 66 #[.pointer (some ⟨p, 0, none⟩)] w fun e w' => ∃ (a : Option Addr) (n k : Nat) (xs : List POp) (G : Chunk) (r' : List Int) (b' : Bool), e = .returned (.slice a n k) ∧ RdT encPOp 2 [G] a n k xs ∧ Got (encL nOp) (wfL wfOp) r b xs r' b' ∧ ∃ fp' : Chunk, RdrR 84 H p r' b' fp' ∧ Sat W w' (fp' :: G :: H :: F) := by
  refine callsE (n := 21) Try.func66 rfl rfl (Nat.le_of_ble_eq_true rfl) ?_
  refine seqE ?_
  refine regionE ?_
  refine p1 (by kernel_rfl) ?_
  refine nilO ?_
  refine thenK_n <| ?_
  refine seqE ?_
  refine regionE ?_
  refine p1 (by kernel_rfl) ?_
  refine nilO ?_
  refine thenK_n <| ?_
  refine seqE ?_
  refine seqE ?_
  refine regionE ?_
  refine p1 (by kernel_rfl) ?_
  have hS_1 := hS.pick 1 rfl
  have hS_2 := hS_1.pick 1 rfl
  change Sat _ _ (fp :: H :: F) at hS_2
  refine sF #[.pointer (some ⟨p, 0, none⟩), .int .i64 2] Try.call54 (Calls.mono (rdr_count_2 W _ _ _ _ _ _ _ hI hS_2) ?_)
  rintro _ w_3 ⟨v_5, r_6, b_7, rfl, hC_9, fp_8, hI_10, hS_4⟩
  refine ⟨_, rfl, ?_⟩
  have hrng_v_5 := hC_9.rng; have hcap_v_5 := (by obtain ⟨_, _, _, _, _, _, h⟩ := hI_10; exact h : r_6.length ≤ 262144)
  change Sat _ _ (fp_8 :: H :: F) at hS_4
  refine p1 (by kernel_rfl) ?_
  refine nilO ?_
  refine thenK_n <| ?_
  refine blockE ?_
  have hS_11 := Sat.nilc hS_4
  have hO_12 := OwnT.nil (enc := encPOp) (E := 66) (sz := 2) (fun _ => rfl)
  have hS_13 := hS_11.pick 1 rfl
  change Sat _ _ (fp_8 :: [] :: H :: F) at hS_13
  refine loopE (γ := Nat × (List POp) × (Option Addr) × Nat × Nat × Chunk × (List Int) × Bool × Chunk) (fun ⟨i, xs, a, n, k, c, r', b', fp'⟩ ρ w => AllAt ρ [(0, .pointer (some ⟨p, 0, none⟩)), (3, .slice a n k), (6, .int .i64 v_5), (7, .int .i64 ((i : Nat) : Int))] ∧ Sat W w (fp' :: c :: H :: F) ∧ (i : Int) ≤ v_5 ∧ Got (encF nOp) (wfN wfOp i) r_6 b_7 xs r' b' ∧ RdrR 84 H p r' b' fp' ∧ OwnT encPOp 66 2 a n k xs c ∧ n = i) (fun ⟨i, xs, a, n, k, c, r', b', fp'⟩ => v_5.toNat - i) (0, [], none, 0, 0, [], r_6, b_7, fp_8) ⟨⟨by kernel_rfl, by kernel_rfl, by kernel_rfl, by kernel_rfl, trivial⟩, hS_13, by omega, Got.none _ _, hI_10, hO_12, rfl⟩ ?_
  skip
  rintro ⟨i, xs, a, n, k, c, r', b', fp'⟩ ρ w_14 ⟨hA, hS_15, hi, hG, hI', hO, hn⟩
  refine cAnchor hA (fun ρ => ?_)
  clear hA
  refine seqE ?_
  refine regionE ?_
  refine p1 (by kernel_rfl) ?_
  refine nilO ?_
  refine thenK_n <| ?_
  refine seqE ?_
  by_cases hc_16 : (((i : Nat) : Int) : Int) < v_5
  · refine cT (decide ((((i : Nat) : Int) : Int) < v_5)) (decide_eq_true hc_16) ?_
    refine skipE ?_
    refine thenK_n <| ?_
    refine seqE ?_
    refine blockE ?_
    refine seqE ?_
    refine regionE ?_
    refine p1 (by kernel_rfl) ?_
    have hS_17 := hS_15.pick 2 rfl
    have hS_18 := hS_17.pick 1 rfl
    change Sat _ _ (fp' :: H :: c :: F) at hS_18
    refine sF #[.pointer (some ⟨p, 0, none⟩)] Try.call53 (Calls.mono (rdr_number W _ _ _ _ _ _ _ hI' hS_18) ?_)
    rintro _ w_19 ⟨v_21, r_22, b_23, rfl, hG_25, hW_26, fp_24, hI_27, hS_20⟩
    refine ⟨_, rfl, ?_⟩
    change Sat _ _ (fp_24 :: H :: c :: F) at hS_20
    refine p1 (by kernel_rfl) ?_
    refine sAlloc hS_20 Try.zeroValue66 ?_
    intro b_28 w_29 hS_30
    change Sat _ _ ([(b_28, .cells #[.int .i64 0, .int .i64 0] 66 (0, 0))] :: fp_24 :: H :: c :: F) at hS_30
    refine sT hS_30 0 0 (.agg #[.int .i64 v_21, .int .i64 0]) [.int .i64 v_21, .int .i64 0] #[.int .i64 v_21, .int .i64 0] Try.sizeOf66 ?_
    intro w_31 hS_32
    change Sat _ _ ([(b_28, .cells #[.int .i64 v_21, .int .i64 0] 66 (0, 0))] :: fp_24 :: H :: c :: F) at hS_32
    refine nilO ?_
    refine thenK_n <| ?_
    refine seqE ?_
    refine regionE ?_
    refine p1 (by kernel_rfl) ?_
    have hS_33 := hS_32.pick 2 rfl
    have hS_34 := hS_33.pick 2 rfl
    change Sat _ _ (fp_24 :: H :: [(b_28, .cells #[.int .i64 v_21, .int .i64 0] 66 (0, 0))] :: c :: F) at hS_34
    refine sF #[.pointer (some ⟨p, 0, none⟩)] Try.call53 (Calls.mono (rdr_number W _ _ _ _ _ _ _ hI_27 hS_34) ?_)
    rintro _ w_35 ⟨v_37, r_38, b_39, rfl, hG_41, hW_42, fp_40, hI_43, hS_36⟩
    refine ⟨_, rfl, ?_⟩
    change Sat _ _ (fp_40 :: H :: [(b_28, .cells #[.int .i64 v_21, .int .i64 0] 66 (0, 0))] :: c :: F) at hS_36
    refine p1 (by kernel_rfl) ?_
    refine sT hS_36 2 1 (.int .i64 v_37) [.int .i64 v_37] #[.int .i64 v_21, .int .i64 v_37] Try.sizeOf3 ?_
    intro w_44 hS_45
    change Sat _ _ (fp_40 :: H :: [(b_28, .cells #[.int .i64 v_21, .int .i64 v_37] 66 (0, 0))] :: c :: F) at hS_45
    refine nilO ?_
    refine thenK_n <| ?_
    refine regionE ?_
    refine p1 (by kernel_rfl) ?_
    refine sLA hS_45 2 0 [.int .i64 v_21, .int .i64 v_37] (Try.isAgg66 _) (Try.sizeOf66 _) ?_
    refine sBS hS_45 #[.int .i64 v_21, .int .i64 v_37] Try.runUnderlying59 Try.sizeOf66 Try.zeroValue66 ?_
    intro b_46 w_47 hS_48
    refine sApp (nb := 16) hS_48 hO 4 (RdT.blk (enc := encPOp) (sz := 2) (xs := [(⟨v_21, v_37⟩ : POp)]) (fun _ => rfl) 1 0 rfl rfl rfl (by omega)) Try.underlying59 (i := Try.t66) (by kernel_rfl) (fun _ => rfl) ?_
    intro a_49 cap_50 c_51 w_52 hO_53 hS_54
    try dsimp only [List.set, List.eraseIdx] at hS_54
    refine p1 (by kernel_rfl) ?_
    refine nilO ?_
    refine blockK_n <| thenK_n <| ?_
    refine regionE ?_
    refine sAdd ((i : Nat) : Int) 1 ?_
    refine p1 (by kernel_rfl) ?_
    refine nilO ?_
    refine thenK_n <| ?_
    have hS_55 := hS_54.pick 2 rfl
    have hS_56 := hS_55.pick 4 rfl
    have hS_57 := hS_56.pick 3 rfl
    try dsimp only [List.set, List.eraseIdx] at hS_57
    have hS_58 := hS_57.dropAt 3 rfl
    have hS_59 := hS_58.dropAt 3 rfl
    change Sat _ _ (fp_40 :: c_51 :: H :: F) at hS_59
    have hX := hG.snoc pfOp (Got.op hG_25 hG_41)
    exact ⟨(i + 1, (xs ++ [(⟨v_21, v_37⟩ : POp)]), a_49, (n + 1), cap_50, c_51, r_38, b_39, fp_40), by dsimp only; omega, ⟨by kernel_rfl, by kernel_rfl, by kernel_rfl, by kernel_rfl, trivial⟩, hS_59, by omega, by first | exact hX | simpa using hX, hI_43, hO_53, by omega⟩
  · refine cF (decide ((((i : Nat) : Int) : Int) < v_5)) (decide_eq_false hc_16) ?_
    refine exitE (thenK_x <| thenK_x <| blockK_x <| ?_)
    refine thenK_n <| ?_
    refine seqE ?_
    refine regionE ?_
    refine p2 (by kernel_rfl) ?_
    refine nilO ?_
    refine thenK_n <| ?_
    refine retE ?_
    refine retN (vs := [.slice a n k]) rfl (.cons (.tmp _ _ (by kernel_rfl)) .nil) <| ?_
    have hS_60 := hS_15.pick 2 rfl
    have hS_61 := hS_60.pick 2 rfl
    have hS_62 := hS_61.pick 2 rfl
    change Sat _ _ (fp' :: c :: H :: F) at hS_62
    change Sat _ _ (fp' :: c :: H :: F) at hS_62
    have hZ : Got (encF nOp) (wfN wfOp v_5.toNat) r_6 b_7 xs r' b' := by rw [show v_5.toNat = i from by omega]; exact hG
    exact ⟨a, n, k, xs, c, r', b', rfl, (hO.rd (fun p hp => by simp [hp])), Got.list nOp_ge hC_9 hZ, _, hI', hS_62⟩
theorem rrf_number (W w : World) (p : Nat) (H fp : Chunk) (F : List Chunk) (r : List Int) (b : Bool) (hI : RdrR 102 H p r b fp) (hS : Sat W w (fp :: H :: F)) :
    Calls Try.prog 49 #[.pointer (some ⟨p, 0, none⟩)] w fun e w' => ∃ (v : Int) (r' : List Int) (b' : Bool), e = .returned (.int .i64 v) ∧ Got encN WfI r b v r' b' ∧ WfI v ∧ ∃ fp' : Chunk, RdrR 102 H p r' b' fp' ∧ Sat W w' (fp' :: H :: F) := by
  obtain ⟨a, n, k, rfl, hR, hB⟩ := hI
  have hle := hR.le; have hll := hR.len
  refine callsE (n := 45) Try.func49 rfl rfl (Nat.le_of_ble_eq_true rfl) ?_
  refine seqE ?_
  refine regionE ?_
  refine p1 (by kernel_rfl) ?_
  refine nilO ?_
  refine thenK_n <| ?_
  refine seqE ?_
  refine seqE ?_
  refine regionE ?_
  refine p3 (by kernel_rfl) ?_
  refine sL hS 0 1 (.bool b) (Try.isAgg4 _) ?_
  refine p1 (by kernel_rfl) ?_
  cases b
  · refine p3 (by kernel_rfl) ?_
    refine guardYes rfl ⟨_, rfl, rfl, by kernel_rfl⟩ ?_
    refine sL hS 0 0 (.slice a n k) (Try.isAgg31 _) ?_
    refine p3 (by kernel_rfl) ?_
    refine nilO ?_
    refine thenK_n <| ?_
    by_cases hc_1 : (((n : Nat) : Int) : Int) < 8
    · refine cT (decide ((((n : Nat) : Int) : Int) < 8)) (decide_eq_true hc_1) ?_
      refine seqE ?_
      refine regionE ?_
      refine p3 (by kernel_rfl) ?_
      refine sT hS 0 1 (.bool true) [.bool true] #[.slice a n k, .bool true] Try.sizeOf4 ?_
      intro w_2 hS_3
      change Sat _ _ ([(p, .cells #[.slice a n k, .bool true] 102 (0, 0))] :: H :: F) at hS_3
      refine nilO ?_
      refine thenK_n <| ?_
      refine seqE ?_
      refine regionE ?_
      refine p1 (by kernel_rfl) ?_
      refine nilO ?_
      refine thenK_n <| ?_
      refine retE (thenK_r <| ?_)
      refine retN (vs := [.int .i64 0]) rfl (.cons (.tmp _ _ (by kernel_rfl)) .nil) <| ?_
      have hS_4 := hS_3.pick 1 rfl
      have hS_5 := hS_4.pick 1 rfl
      change Sat _ _ ([(p, .cells #[.slice a n k, .bool true] 102 (0, 0))] :: H :: F) at hS_5
      change Sat _ _ ([(p, .cells #[.slice a n k, .bool true] 102 (0, 0))] :: H :: F) at hS_5
      exact ⟨0, r, true, rfl, Got.fail 0 (by first | exact .inl rfl | (right; omega)), by unfold WfI; omega, _, ⟨_, _, _, rfl, hR, hB⟩, hS_5⟩
    · refine cF (decide ((((n : Nat) : Int) : Int) < 8)) (decide_eq_false hc_1) ?_
      refine skipE ?_
      refine thenK_n <| ?_
      refine seqE ?_
      refine regionE ?_
      refine p1 (by kernel_rfl) ?_
      refine nilO ?_
      refine thenK_n <| ?_
      refine seqE ?_
      refine seqE ?_
      refine regionE ?_
      refine p1 (by kernel_rfl) ?_
      refine nilO ?_
      refine thenK_n <| ?_
      refine blockE ?_
      refine loopN 9 ?_
      refine roundS ?_
      refine seqE ?_
      refine seqE ?_
      refine regionE ?_
      refine p2 (by kernel_rfl) ?_
      refine nilO ?_
      refine thenK_n <| ?_
      refine condE_true (by kernel_rfl) ?_
      refine skipE ?_
      refine thenK_n <| ?_
      refine seqE ?_
      refine blockE ?_
      refine regionE ?_
      refine p1 (by kernel_rfl) ?_
      refine stepY (.int .u64 ((0 : Int) * 256)) rfl rfl (Y_shl .u64 .u64 0 8 256 _ rfl (by kernel_rfl) (by kernel_rfl) (by decide) (by decide) (wrapIn_u64 _ (by omega))) ?_
      refine p3 (by kernel_rfl) ?_
      refine sL hS 0 0 (.slice a n k) (Try.isAgg31 _) ?_
      refine p1 (by kernel_rfl) ?_
      refine sIdx hR 0 Try.runUnderlying31 Try.sizeOf5 ?_
      intro x_6 b_7 o_8 hx_9 hp_10
      have hq_11 : r[0]? = some x_6 := by have h := hx_9; first | exact h | (simp only [List.drop_zero] at h; rw [List.getElem?_take] at h; simpa using h)
      have hb_x_6 := hB.1 x_6 (List.mem_of_getElem? hq_11)
      refine sLp hS (hp_10.up 1 rfl) 0 (.int .u8 x_6) (Try.isAgg5 _) ?_
      refine stepY (.int .u64 x_6) rfl rfl (Y_conv (k := .u8) (a := x_6) Try.underlying5 Try.underlying95 (wrapIn_u64 _ (by omega)) rfl (by kernel_rfl)) ?_
      refine stepY (.int .u64 (((0 : Int) * 256) + x_6)) rfl rfl (Y_orLow ((0 : Int) * 256) x_6 rfl (by kernel_rfl) (by kernel_rfl) (by omega) (by omega) (by omega)) ?_
      refine p1 (by kernel_rfl) ?_
      refine nilO ?_
      refine blockK_n <| thenK_n <| ?_
      refine regionE ?_
      refine p3 (by kernel_rfl) ?_
      refine nilO ?_
      refine thenK_n <| ?_
      refine roundS ?_
      refine seqE ?_
      refine seqE ?_
      refine regionE ?_
      refine p2 (by kernel_rfl) ?_
      refine nilO ?_
      refine thenK_n <| ?_
      refine condE_true (by kernel_rfl) ?_
      refine skipE ?_
      refine thenK_n <| ?_
      refine seqE ?_
      refine blockE ?_
      refine regionE ?_
      refine p1 (by kernel_rfl) ?_
      refine stepY (.int .u64 ((((0 : Int) * 256) + x_6) * 256)) rfl rfl (Y_shl .u64 .u64 (((0 : Int) * 256) + x_6) 8 256 _ rfl (by kernel_rfl) (by kernel_rfl) (by decide) (by decide) (wrapIn_u64 _ (by omega))) ?_
      refine p3 (by kernel_rfl) ?_
      refine sL hS 0 0 (.slice a n k) (Try.isAgg31 _) ?_
      refine p1 (by kernel_rfl) ?_
      refine sIdx hR 1 Try.runUnderlying31 Try.sizeOf5 ?_
      intro x_12 b_13 o_14 hx_15 hp_16
      have hq_17 : r[1]? = some x_12 := by have h := hx_15; first | exact h | (simp only [List.drop_zero] at h; rw [List.getElem?_take] at h; simpa using h)
      have hb_x_12 := hB.1 x_12 (List.mem_of_getElem? hq_17)
      refine sLp hS (hp_16.up 1 rfl) 0 (.int .u8 x_12) (Try.isAgg5 _) ?_
      refine stepY (.int .u64 x_12) rfl rfl (Y_conv (k := .u8) (a := x_12) Try.underlying5 Try.underlying95 (wrapIn_u64 _ (by omega)) rfl (by kernel_rfl)) ?_
      refine stepY (.int .u64 (((((0 : Int) * 256) + x_6) * 256) + x_12)) rfl rfl (Y_orLow ((((0 : Int) * 256) + x_6) * 256) x_12 rfl (by kernel_rfl) (by kernel_rfl) (by omega) (by omega) (by omega)) ?_
      refine p1 (by kernel_rfl) ?_
      refine nilO ?_
      refine blockK_n <| thenK_n <| ?_
      refine regionE ?_
      refine p3 (by kernel_rfl) ?_
      refine nilO ?_
      refine thenK_n <| ?_
      refine roundS ?_
      refine seqE ?_
      refine seqE ?_
      refine regionE ?_
      refine p2 (by kernel_rfl) ?_
      refine nilO ?_
      refine thenK_n <| ?_
      refine condE_true (by kernel_rfl) ?_
      refine skipE ?_
      refine thenK_n <| ?_
      refine seqE ?_
      refine blockE ?_
      refine regionE ?_
      refine p1 (by kernel_rfl) ?_
      refine stepY (.int .u64 ((((((0 : Int) * 256) + x_6) * 256) + x_12) * 256)) rfl rfl (Y_shl .u64 .u64 (((((0 : Int) * 256) + x_6) * 256) + x_12) 8 256 _ rfl (by kernel_rfl) (by kernel_rfl) (by decide) (by decide) (wrapIn_u64 _ (by omega))) ?_
      refine p3 (by kernel_rfl) ?_
      refine sL hS 0 0 (.slice a n k) (Try.isAgg31 _) ?_
      refine p1 (by kernel_rfl) ?_
      refine sIdx hR 2 Try.runUnderlying31 Try.sizeOf5 ?_
      intro x_18 b_19 o_20 hx_21 hp_22
      have hq_23 : r[2]? = some x_18 := by have h := hx_21; first | exact h | (simp only [List.drop_zero] at h; rw [List.getElem?_take] at h; simpa using h)
      have hb_x_18 := hB.1 x_18 (List.mem_of_getElem? hq_23)
      refine sLp hS (hp_22.up 1 rfl) 0 (.int .u8 x_18) (Try.isAgg5 _) ?_
      refine stepY (.int .u64 x_18) rfl rfl (Y_conv (k := .u8) (a := x_18) Try.underlying5 Try.underlying95 (wrapIn_u64 _ (by omega)) rfl (by kernel_rfl)) ?_
      refine stepY (.int .u64 (((((((0 : Int) * 256) + x_6) * 256) + x_12) * 256) + x_18)) rfl rfl (Y_orLow ((((((0 : Int) * 256) + x_6) * 256) + x_12) * 256) x_18 rfl (by kernel_rfl) (by kernel_rfl) (by omega) (by omega) (by omega)) ?_
      refine p1 (by kernel_rfl) ?_
      refine nilO ?_
      refine blockK_n <| thenK_n <| ?_
      refine regionE ?_
      refine p3 (by kernel_rfl) ?_
      refine nilO ?_
      refine thenK_n <| ?_
      refine roundS ?_
      refine seqE ?_
      refine seqE ?_
      refine regionE ?_
      refine p2 (by kernel_rfl) ?_
      refine nilO ?_
      refine thenK_n <| ?_
      refine condE_true (by kernel_rfl) ?_
      refine skipE ?_
      refine thenK_n <| ?_
      refine seqE ?_
      refine blockE ?_
      refine regionE ?_
      refine p1 (by kernel_rfl) ?_
      refine stepY (.int .u64 ((((((((0 : Int) * 256) + x_6) * 256) + x_12) * 256) + x_18) * 256)) rfl rfl (Y_shl .u64 .u64 (((((((0 : Int) * 256) + x_6) * 256) + x_12) * 256) + x_18) 8 256 _ rfl (by kernel_rfl) (by kernel_rfl) (by decide) (by decide) (wrapIn_u64 _ (by omega))) ?_
      refine p3 (by kernel_rfl) ?_
      refine sL hS 0 0 (.slice a n k) (Try.isAgg31 _) ?_
      refine p1 (by kernel_rfl) ?_
      refine sIdx hR 3 Try.runUnderlying31 Try.sizeOf5 ?_
      intro x_24 b_25 o_26 hx_27 hp_28
      have hq_29 : r[3]? = some x_24 := by have h := hx_27; first | exact h | (simp only [List.drop_zero] at h; rw [List.getElem?_take] at h; simpa using h)
      have hb_x_24 := hB.1 x_24 (List.mem_of_getElem? hq_29)
      refine sLp hS (hp_28.up 1 rfl) 0 (.int .u8 x_24) (Try.isAgg5 _) ?_
      refine stepY (.int .u64 x_24) rfl rfl (Y_conv (k := .u8) (a := x_24) Try.underlying5 Try.underlying95 (wrapIn_u64 _ (by omega)) rfl (by kernel_rfl)) ?_
      refine stepY (.int .u64 (((((((((0 : Int) * 256) + x_6) * 256) + x_12) * 256) + x_18) * 256) + x_24)) rfl rfl (Y_orLow ((((((((0 : Int) * 256) + x_6) * 256) + x_12) * 256) + x_18) * 256) x_24 rfl (by kernel_rfl) (by kernel_rfl) (by omega) (by omega) (by omega)) ?_
      refine p1 (by kernel_rfl) ?_
      refine nilO ?_
      refine blockK_n <| thenK_n <| ?_
      refine regionE ?_
      refine p3 (by kernel_rfl) ?_
      refine nilO ?_
      refine thenK_n <| ?_
      refine roundS ?_
      refine seqE ?_
      refine seqE ?_
      refine regionE ?_
      refine p2 (by kernel_rfl) ?_
      refine nilO ?_
      refine thenK_n <| ?_
      refine condE_true (by kernel_rfl) ?_
      refine skipE ?_
      refine thenK_n <| ?_
      refine seqE ?_
      refine blockE ?_
      refine regionE ?_
      refine p1 (by kernel_rfl) ?_
      refine stepY (.int .u64 ((((((((((0 : Int) * 256) + x_6) * 256) + x_12) * 256) + x_18) * 256) + x_24) * 256)) rfl rfl (Y_shl .u64 .u64 (((((((((0 : Int) * 256) + x_6) * 256) + x_12) * 256) + x_18) * 256) + x_24) 8 256 _ rfl (by kernel_rfl) (by kernel_rfl) (by decide) (by decide) (wrapIn_u64 _ (by omega))) ?_
      refine p3 (by kernel_rfl) ?_
      refine sL hS 0 0 (.slice a n k) (Try.isAgg31 _) ?_
      refine p1 (by kernel_rfl) ?_
      refine sIdx hR 4 Try.runUnderlying31 Try.sizeOf5 ?_
      intro x_30 b_31 o_32 hx_33 hp_34
      have hq_35 : r[4]? = some x_30 := by have h := hx_33; first | exact h | (simp only [List.drop_zero] at h; rw [List.getElem?_take] at h; simpa using h)
      have hb_x_30 := hB.1 x_30 (List.mem_of_getElem? hq_35)
      refine sLp hS (hp_34.up 1 rfl) 0 (.int .u8 x_30) (Try.isAgg5 _) ?_
      refine stepY (.int .u64 x_30) rfl rfl (Y_conv (k := .u8) (a := x_30) Try.underlying5 Try.underlying95 (wrapIn_u64 _ (by omega)) rfl (by kernel_rfl)) ?_
      refine stepY (.int .u64 (((((((((((0 : Int) * 256) + x_6) * 256) + x_12) * 256) + x_18) * 256) + x_24) * 256) + x_30)) rfl rfl (Y_orLow ((((((((((0 : Int) * 256) + x_6) * 256) + x_12) * 256) + x_18) * 256) + x_24) * 256) x_30 rfl (by kernel_rfl) (by kernel_rfl) (by omega) (by omega) (by omega)) ?_
      refine p1 (by kernel_rfl) ?_
      refine nilO ?_
      refine blockK_n <| thenK_n <| ?_
      refine regionE ?_
      refine p3 (by kernel_rfl) ?_
      refine nilO ?_
      refine thenK_n <| ?_
      refine roundS ?_
      refine seqE ?_
      refine seqE ?_
      refine regionE ?_
      refine p2 (by kernel_rfl) ?_
      refine nilO ?_
      refine thenK_n <| ?_
      refine condE_true (by kernel_rfl) ?_
      refine skipE ?_
      refine thenK_n <| ?_
      refine seqE ?_
      refine blockE ?_
      refine regionE ?_
      refine p1 (by kernel_rfl) ?_
      refine stepY (.int .u64 ((((((((((((0 : Int) * 256) + x_6) * 256) + x_12) * 256) + x_18) * 256) + x_24) * 256) + x_30) * 256)) rfl rfl (Y_shl .u64 .u64 (((((((((((0 : Int) * 256) + x_6) * 256) + x_12) * 256) + x_18) * 256) + x_24) * 256) + x_30) 8 256 _ rfl (by kernel_rfl) (by kernel_rfl) (by decide) (by decide) (wrapIn_u64 _ (by omega))) ?_
      refine p3 (by kernel_rfl) ?_
      refine sL hS 0 0 (.slice a n k) (Try.isAgg31 _) ?_
      refine p1 (by kernel_rfl) ?_
      refine sIdx hR 5 Try.runUnderlying31 Try.sizeOf5 ?_
      intro x_36 b_37 o_38 hx_39 hp_40
      have hq_41 : r[5]? = some x_36 := by have h := hx_39; first | exact h | (simp only [List.drop_zero] at h; rw [List.getElem?_take] at h; simpa using h)
      have hb_x_36 := hB.1 x_36 (List.mem_of_getElem? hq_41)
      refine sLp hS (hp_40.up 1 rfl) 0 (.int .u8 x_36) (Try.isAgg5 _) ?_
      refine stepY (.int .u64 x_36) rfl rfl (Y_conv (k := .u8) (a := x_36) Try.underlying5 Try.underlying95 (wrapIn_u64 _ (by omega)) rfl (by kernel_rfl)) ?_
      refine stepY (.int .u64 (((((((((((((0 : Int) * 256) + x_6) * 256) + x_12) * 256) + x_18) * 256) + x_24) * 256) + x_30) * 256) + x_36)) rfl rfl (Y_orLow ((((((((((((0 : Int) * 256) + x_6) * 256) + x_12) * 256) + x_18) * 256) + x_24) * 256) + x_30) * 256) x_36 rfl (by kernel_rfl) (by kernel_rfl) (by omega) (by omega) (by omega)) ?_
      refine p1 (by kernel_rfl) ?_
      refine nilO ?_
      refine blockK_n <| thenK_n <| ?_
      refine regionE ?_
      refine p3 (by kernel_rfl) ?_
      refine nilO ?_
      refine thenK_n <| ?_
      refine roundS ?_
      refine seqE ?_
      refine seqE ?_
      refine regionE ?_
      refine p2 (by kernel_rfl) ?_
      refine nilO ?_
      refine thenK_n <| ?_
      refine condE_true (by kernel_rfl) ?_
      refine skipE ?_
      refine thenK_n <| ?_
      refine seqE ?_
      refine blockE ?_
      refine regionE ?_
      refine p1 (by kernel_rfl) ?_
      refine stepY (.int .u64 ((((((((((((((0 : Int) * 256) + x_6) * 256) + x_12) * 256) + x_18) * 256) + x_24) * 256) + x_30) * 256) + x_36) * 256)) rfl rfl (Y_shl .u64 .u64 (((((((((((((0 : Int) * 256) + x_6) * 256) + x_12) * 256) + x_18) * 256) + x_24) * 256) + x_30) * 256) + x_36) 8 256 _ rfl (by kernel_rfl) (by kernel_rfl) (by decide) (by decide) (wrapIn_u64 _ (by omega))) ?_
      refine p3 (by kernel_rfl) ?_
      refine sL hS 0 0 (.slice a n k) (Try.isAgg31 _) ?_
      refine p1 (by kernel_rfl) ?_
      refine sIdx hR 6 Try.runUnderlying31 Try.sizeOf5 ?_
      intro x_42 b_43 o_44 hx_45 hp_46
      have hq_47 : r[6]? = some x_42 := by have h := hx_45; first | exact h | (simp only [List.drop_zero] at h; rw [List.getElem?_take] at h; simpa using h)
      have hb_x_42 := hB.1 x_42 (List.mem_of_getElem? hq_47)
      refine sLp hS (hp_46.up 1 rfl) 0 (.int .u8 x_42) (Try.isAgg5 _) ?_
      refine stepY (.int .u64 x_42) rfl rfl (Y_conv (k := .u8) (a := x_42) Try.underlying5 Try.underlying95 (wrapIn_u64 _ (by omega)) rfl (by kernel_rfl)) ?_
      refine stepY (.int .u64 (((((((((((((((0 : Int) * 256) + x_6) * 256) + x_12) * 256) + x_18) * 256) + x_24) * 256) + x_30) * 256) + x_36) * 256) + x_42)) rfl rfl (Y_orLow ((((((((((((((0 : Int) * 256) + x_6) * 256) + x_12) * 256) + x_18) * 256) + x_24) * 256) + x_30) * 256) + x_36) * 256) x_42 rfl (by kernel_rfl) (by kernel_rfl) (by omega) (by omega) (by omega)) ?_
      refine p1 (by kernel_rfl) ?_
      refine nilO ?_
      refine blockK_n <| thenK_n <| ?_
      refine regionE ?_
      refine p3 (by kernel_rfl) ?_
      refine nilO ?_
      refine thenK_n <| ?_
      refine roundS ?_
      refine seqE ?_
      refine seqE ?_
      refine regionE ?_
      refine p2 (by kernel_rfl) ?_
      refine nilO ?_
      refine thenK_n <| ?_
      refine condE_true (by kernel_rfl) ?_
      refine skipE ?_
      refine thenK_n <| ?_
      refine seqE ?_
      refine blockE ?_
      refine regionE ?_
      refine p1 (by kernel_rfl) ?_
      refine stepY (.int .u64 ((((((((((((((((0 : Int) * 256) + x_6) * 256) + x_12) * 256) + x_18) * 256) + x_24) * 256) + x_30) * 256) + x_36) * 256) + x_42) * 256)) rfl rfl (Y_shl .u64 .u64 (((((((((((((((0 : Int) * 256) + x_6) * 256) + x_12) * 256) + x_18) * 256) + x_24) * 256) + x_30) * 256) + x_36) * 256) + x_42) 8 256 _ rfl (by kernel_rfl) (by kernel_rfl) (by decide) (by decide) (wrapIn_u64 _ (by omega))) ?_
      refine p3 (by kernel_rfl) ?_
      refine sL hS 0 0 (.slice a n k) (Try.isAgg31 _) ?_
      refine p1 (by kernel_rfl) ?_
      refine sIdx hR 7 Try.runUnderlying31 Try.sizeOf5 ?_
      intro x_48 b_49 o_50 hx_51 hp_52
      have hq_53 : r[7]? = some x_48 := by have h := hx_51; first | exact h | (simp only [List.drop_zero] at h; rw [List.getElem?_take] at h; simpa using h)
      have hb_x_48 := hB.1 x_48 (List.mem_of_getElem? hq_53)
      refine sLp hS (hp_52.up 1 rfl) 0 (.int .u8 x_48) (Try.isAgg5 _) ?_
      refine stepY (.int .u64 x_48) rfl rfl (Y_conv (k := .u8) (a := x_48) Try.underlying5 Try.underlying95 (wrapIn_u64 _ (by omega)) rfl (by kernel_rfl)) ?_
      refine stepY (.int .u64 (((((((((((((((((0 : Int) * 256) + x_6) * 256) + x_12) * 256) + x_18) * 256) + x_24) * 256) + x_30) * 256) + x_36) * 256) + x_42) * 256) + x_48)) rfl rfl (Y_orLow ((((((((((((((((0 : Int) * 256) + x_6) * 256) + x_12) * 256) + x_18) * 256) + x_24) * 256) + x_30) * 256) + x_36) * 256) + x_42) * 256) x_48 rfl (by kernel_rfl) (by kernel_rfl) (by omega) (by omega) (by omega)) ?_
      refine p1 (by kernel_rfl) ?_
      refine nilO ?_
      refine blockK_n <| thenK_n <| ?_
      refine regionE ?_
      refine p3 (by kernel_rfl) ?_
      refine nilO ?_
      refine thenK_n <| ?_
      refine roundS ?_
      refine seqE ?_
      refine seqE ?_
      refine regionE ?_
      refine p2 (by kernel_rfl) ?_
      refine nilO ?_
      refine thenK_n <| ?_
      refine condE_false (by kernel_rfl) ?_
      refine exitE (thenK_x <| thenK_x <| blockK_x <| ?_)
      refine thenK_n <| ?_
      refine seqE ?_
      refine regionE ?_
      refine p4 (by kernel_rfl) ?_
      refine sL hS 0 0 (.slice a n k) (Try.isAgg31 _) ?_
      refine sSl (some 8) none 8 n Try.runUnderlying31 Try.sizeOf5 ⟨by decide, rfl⟩ rfl (by omega) (by omega) ?_ (a := a) (len := n) (cap := k)
      have hP_54 := hR.part (lo := 8) (hi := n) (by omega) (by omega)
      refine p2 (by kernel_rfl) ?_
      refine sT hS 0 0 (.slice (partAddr a k 8 1) (n - 8) (k - 8)) [.slice (partAddr a k 8 1) (n - 8) (k - 8)] #[.slice (partAddr a k 8 1) (n - 8) (k - 8), .bool false] Try.sizeOf31 ?_
      intro w_55 hS_56
      try dsimp only [List.set, List.eraseIdx] at hS_56
      refine nilO ?_
      refine thenK_n <| ?_
      refine seqE ?_
      refine regionE ?_
      refine p1 (by kernel_rfl) ?_
      refine stepY (.int .i64 (IntKind.i64.wrap (((((((((((((((((0 : Int) * 256) + x_6) * 256) + x_12) * 256) + x_18) * 256) + x_24) * 256) + x_30) * 256) + x_36) * 256) + x_42) * 256) + x_48))) rfl rfl (Y_conv (k := .u64) (a := (((((((((((((((((0 : Int) * 256) + x_6) * 256) + x_12) * 256) + x_18) * 256) + x_24) * 256) + x_30) * 256) + x_36) * 256) + x_42) * 256) + x_48)) Try.underlying95 Try.underlying3 (rfl) rfl (by kernel_rfl)) ?_
      refine p1 (by kernel_rfl) ?_
      refine nilO ?_
      refine thenK_n <| ?_
      refine retE ?_
      refine retN (vs := [.int .i64 (IntKind.i64.wrap (((((((((((((((((0 : Int) * 256) + x_6) * 256) + x_12) * 256) + x_18) * 256) + x_24) * 256) + x_30) * 256) + x_36) * 256) + x_42) * 256) + x_48))]) rfl (.cons (.tmp _ _ (by kernel_rfl)) .nil) <| ?_
      have hS_57 := hS_56.pick 1 rfl
      have hS_58 := hS_57.pick 1 rfl
      try dsimp only [List.set, List.eraseIdx] at hS_58
      try dsimp only [List.set, List.eraseIdx] at hS_58
      have hd := dec8 hb_x_6 hb_x_12 hb_x_18 hb_x_24 hb_x_30 hb_x_36 hb_x_42 hb_x_48 (((((((((((((((((0 : Int) * 256) + x_6) * 256) + x_12) * 256) + x_18) * 256) + x_24) * 256) + x_30) * 256) + x_36) * 256) + x_42) * 256) + x_48) (by omega)
      have hR2 := hP_54
      rw [List.take_of_length_le (by simp; omega)] at hR2
      exact ⟨_, r.drop 8, false, rfl, Got.read (take8 hq_11 hq_17 hq_23 hq_29 hq_35 hq_41 hq_47 hq_53) hd.1 hd.2, hd.2, _, ⟨_, _, _, rfl, hR2, fun x hx => hB.1 x (List.mem_of_mem_drop hx), by have := hB.2; simp; omega⟩, hS_58⟩
  · refine p7 (by kernel_rfl) ?_
    refine nilO ?_
    refine thenK_n <| ?_
    refine condE_true (by kernel_rfl) ?_
    refine seqE ?_
    refine regionE ?_
    refine p3 (by kernel_rfl) ?_
    refine sT hS 0 1 (.bool true) [.bool true] #[.slice a n k, .bool true] Try.sizeOf4 ?_
    intro w_59 hS_60
    change Sat _ _ ([(p, .cells #[.slice a n k, .bool true] 102 (0, 0))] :: H :: F) at hS_60
    refine nilO ?_
    refine thenK_n <| ?_
    refine seqE ?_
    refine regionE ?_
    refine p1 (by kernel_rfl) ?_
    refine nilO ?_
    refine thenK_n <| ?_
    refine retE (thenK_r <| ?_)
    refine retN (vs := [.int .i64 0]) rfl (.cons (.tmp _ _ (by kernel_rfl)) .nil) <| ?_
    have hS_61 := hS_60.pick 1 rfl
    have hS_62 := hS_61.pick 1 rfl
    change Sat _ _ ([(p, .cells #[.slice a n k, .bool true] 102 (0, 0))] :: H :: F) at hS_62
    change Sat _ _ ([(p, .cells #[.slice a n k, .bool true] 102 (0, 0))] :: H :: F) at hS_62
    exact ⟨0, r, true, rfl, Got.fail 0 (by first | exact .inl rfl | (right; omega)), by unfold WfI; omega, _, ⟨_, _, _, rfl, hR, hB⟩, hS_62⟩
theorem rrf_count (W w : World) (p : Nat) (H fp : Chunk) (F : List Chunk) (r : List Int) (b : Bool) (hI : RdrR 102 H p r b fp) (hS : Sat W w (fp :: H :: F)) :
    Calls Try.prog 50 #[.pointer (some ⟨p, 0, none⟩)] w fun e w' => ∃ (v : Int) (r' : List Int) (b' : Bool), e = .returned (.int .i64 v) ∧ GotC 1 r b v r' b' ∧ ∃ fp' : Chunk, RdrR 102 H p r' b' fp' ∧ Sat W w' (fp' :: H :: F) := by
  refine callsE (n := 22) Try.func50 rfl rfl (Nat.le_of_ble_eq_true rfl) ?_
  refine seqE ?_
  refine regionE ?_
  refine p1 (by kernel_rfl) ?_
  refine nilO ?_
  refine thenK_n <| ?_
  refine seqE ?_
  refine regionE ?_
  refine p1 (by kernel_rfl) ?_
  have hS_1 := hS.pick 1 rfl
  have hS_2 := hS_1.pick 1 rfl
  change Sat _ _ (fp :: H :: F) at hS_2
  refine sF #[.pointer (some ⟨p, 0, none⟩)] Try.call49 (Calls.mono (rrf_number W _ _ _ _ _ _ _ hI hS_2) ?_)
  rintro _ w_3 ⟨v_5, r_6, b_7, rfl, hG_9, hW_10, fp_8, hI_11, hS_4⟩
  refine ⟨_, rfl, ?_⟩
  change Sat _ _ (fp_8 :: H :: F) at hS_4
  refine p1 (by kernel_rfl) ?_
  refine nilO ?_
  refine thenK_n <| ?_
  refine seqE ?_
  refine seqE ?_
  change Sat _ _ (fp_8 :: H :: F) at hS_4
  obtain ⟨a_12, n_13, k_14, rfl, hR_15, hB_16⟩ := hI_11
  have hll_a_12 := hR_15.len; have hle_a_12 := hR_15.le
  refine regionE ?_
  refine p3 (by kernel_rfl) ?_
  by_cases hc_17 : (v_5 : Int) < 0
  · refine sFix 8 (decide ((v_5 : Int) < 0)) true (decide_eq_true hc_17) ?_
    refine p9 (by kernel_rfl) ?_
    refine nilO ?_
    refine thenK_n <| ?_
    refine condE_true (by kernel_rfl) ?_
    refine seqE ?_
    refine regionE ?_
    refine p3 (by kernel_rfl) ?_
    refine sT hS_4 0 1 (.bool true) [.bool true] #[.slice a_12 n_13 k_14, .bool true] Try.sizeOf4 ?_
    intro w_18 hS_19
    change Sat _ _ ([(p, .cells #[.slice a_12 n_13 k_14, .bool true] 102 (0, 0))] :: H :: F) at hS_19
    refine nilO ?_
    refine thenK_n <| ?_
    refine seqE ?_
    refine regionE ?_
    refine p1 (by kernel_rfl) ?_
    refine nilO ?_
    refine thenK_n <| ?_
    refine retE (thenK_r <| ?_)
    refine retN (vs := [.int .i64 0]) rfl (.cons (.tmp _ _ (by kernel_rfl)) .nil) <| ?_
    have hI_20 : RdrR 102 H p r_6 true [(p, .cells #[.slice a_12 n_13 k_14, .bool true] 102 (0, 0))] := ⟨_, _, _, rfl, hR_15, hB_16⟩
    have hS_21 := hS_19.pick 1 rfl
    have hS_22 := hS_21.pick 1 rfl
    change Sat _ _ ([(p, .cells #[.slice a_12 n_13 k_14, .bool true] 102 (0, 0))] :: H :: F) at hS_22
    change Sat _ _ ([(p, .cells #[.slice a_12 n_13 k_14, .bool true] 102 (0, 0))] :: H :: F) at hS_22
    have ht : (((n_13 : Nat) : Int)).tdiv 8 = ((n_13 : Nat) : Int) / 8 := Int.tdiv_eq_ediv_of_nonneg (by omega)
    simp only [ht] at *
    exact ⟨0, _, _, rfl, GotC.bad hG_9 (by first | (left; omega) | (right; omega)), _, hI_20, hS_22⟩
  · refine sFix 8 (decide ((v_5 : Int) < 0)) false (decide_eq_false hc_17) ?_
    refine p4 (by kernel_rfl) ?_
    refine guardYes rfl ⟨_, rfl, rfl, by kernel_rfl⟩ ?_
    refine sL hS_4 0 0 (.slice a_12 n_13 k_14) (Try.isAgg31 _) ?_
    refine p1 (by kernel_rfl) ?_
    refine guardYes rfl ⟨_, rfl, rfl, by kernel_rfl⟩ ?_
    refine sQuo ((n_13 : Nat) : Int) 8 ?_
    refine p2 (by kernel_rfl) ?_
    refine nilO ?_
    refine thenK_n <| ?_
    by_cases hc_23 : (v_5 : Int) > (((n_13 : Nat) : Int).tdiv 8)
    · refine cT (decide ((v_5 : Int) > (((n_13 : Nat) : Int).tdiv 8))) (decide_eq_true hc_23) ?_
      refine seqE ?_
      refine regionE ?_
      refine p3 (by kernel_rfl) ?_
      refine sT hS_4 0 1 (.bool true) [.bool true] #[.slice a_12 n_13 k_14, .bool true] Try.sizeOf4 ?_
      intro w_24 hS_25
      change Sat _ _ ([(p, .cells #[.slice a_12 n_13 k_14, .bool true] 102 (0, 0))] :: H :: F) at hS_25
      refine nilO ?_
      refine thenK_n <| ?_
      refine seqE ?_
      refine regionE ?_
      refine p1 (by kernel_rfl) ?_
      refine nilO ?_
      refine thenK_n <| ?_
      refine retE (thenK_r <| ?_)
      refine retN (vs := [.int .i64 0]) rfl (.cons (.tmp _ _ (by kernel_rfl)) .nil) <| ?_
      have hI_26 : RdrR 102 H p r_6 true [(p, .cells #[.slice a_12 n_13 k_14, .bool true] 102 (0, 0))] := ⟨_, _, _, rfl, hR_15, hB_16⟩
      have hS_27 := hS_25.pick 1 rfl
      have hS_28 := hS_27.pick 1 rfl
      change Sat _ _ ([(p, .cells #[.slice a_12 n_13 k_14, .bool true] 102 (0, 0))] :: H :: F) at hS_28
      change Sat _ _ ([(p, .cells #[.slice a_12 n_13 k_14, .bool true] 102 (0, 0))] :: H :: F) at hS_28
      have ht : (((n_13 : Nat) : Int)).tdiv 8 = ((n_13 : Nat) : Int) / 8 := Int.tdiv_eq_ediv_of_nonneg (by omega)
      simp only [ht] at *
      exact ⟨0, _, _, rfl, GotC.bad hG_9 (by first | (left; omega) | (right; omega)), _, hI_26, hS_28⟩
    · refine cF (decide ((v_5 : Int) > (((n_13 : Nat) : Int).tdiv 8))) (decide_eq_false hc_23) ?_
      refine skipE ?_
      refine thenK_n <| ?_
      refine seqE ?_
      refine regionE ?_
      refine p2 (by kernel_rfl) ?_
      refine nilO ?_
      refine thenK_n <| ?_
      refine retE ?_
      refine retN (vs := [.int .i64 v_5]) rfl (.cons (.tmp _ _ (by kernel_rfl)) .nil) <| ?_
      have hI_29 : RdrR 102 H p r_6 b_7 [(p, .cells #[.slice a_12 n_13 k_14, .bool b_7] 102 (0, 0))] := ⟨_, _, _, rfl, hR_15, hB_16⟩
      have hS_30 := hS_4.pick 1 rfl
      have hS_31 := hS_30.pick 1 rfl
      change Sat _ _ ([(p, .cells #[.slice a_12 n_13 k_14, .bool b_7] 102 (0, 0))] :: H :: F) at hS_31
      change Sat _ _ ([(p, .cells #[.slice a_12 n_13 k_14, .bool b_7] 102 (0, 0))] :: H :: F) at hS_31
      have ht : (((n_13 : Nat) : Int)).tdiv 8 = ((n_13 : Nat) : Int) / 8 := Int.tdiv_eq_ediv_of_nonneg (by omega)
      simp only [ht] at *
      exact ⟨v_5, _, _, rfl, GotC.good hG_9 hW_10 (by omega) (by omega), _, hI_29, hS_31⟩
theorem rrf_numbers (W w : World) (p : Nat) (H fp : Chunk) (F : List Chunk) (r : List Int) (b : Bool) (hI : RdrR 102 H p r b fp) (hS : Sat W w (fp :: H :: F)) :
    Calls Try.prog 51 #[.pointer (some ⟨p, 0, none⟩)] w fun e w' => ∃ (a : Option Addr) (n k : Nat) (xs : List Int) (G : Chunk) (r' : List Int) (b' : Bool), e = .returned (.slice a n k) ∧ RdT encI 1 [G] a n k xs ∧ Got (encL encN) (wfL WfI) r b xs r' b' ∧ ∃ fp' : Chunk, RdrR 102 H p r' b' fp' ∧ Sat W w' (fp' :: G :: H :: F) := by
  refine callsE (n := 17) Try.func51 rfl rfl (Nat.le_of_ble_eq_true rfl) ?_
  refine seqE ?_
  refine regionE ?_
  refine p1 (by kernel_rfl) ?_
  refine nilO ?_
  refine thenK_n <| ?_
  refine seqE ?_
  refine regionE ?_
  refine p1 (by kernel_rfl) ?_
  refine nilO ?_
  refine thenK_n <| ?_
  refine seqE ?_
  refine seqE ?_
  refine regionE ?_
  refine p1 (by kernel_rfl) ?_
  have hS_1 := hS.pick 1 rfl
  have hS_2 := hS_1.pick 1 rfl
  change Sat _ _ (fp :: H :: F) at hS_2
  refine sF #[.pointer (some ⟨p, 0, none⟩)] Try.call50 (Calls.mono (rrf_count W _ _ _ _ _ _ _ hI hS_2) ?_)
  rintro _ w_3 ⟨v_5, r_6, b_7, rfl, hC_9, fp_8, hI_10, hS_4⟩
  refine ⟨_, rfl, ?_⟩
  have hrng_v_5 := hC_9.rng; have hcap_v_5 := (by obtain ⟨_, _, _, _, _, _, h⟩ := hI_10; exact h : r_6.length ≤ 262144)
  change Sat _ _ (fp_8 :: H :: F) at hS_4
  refine p1 (by kernel_rfl) ?_
  refine nilO ?_
  refine thenK_n <| ?_
  refine blockE ?_
  have hS_11 := Sat.nilc hS_4
  have hO_12 := OwnT.nil (enc := encI) (E := 3) (sz := 1) (fun _ => rfl)
  have hS_13 := hS_11.pick 1 rfl
  change Sat _ _ (fp_8 :: [] :: H :: F) at hS_13
  refine loopE (γ := Nat × (List Int) × (Option Addr) × Nat × Nat × Chunk × (List Int) × Bool × Chunk × Int) (fun ⟨i, xs, a, n, k, c, r', b', fp', j⟩ ρ w => AllAt ρ [(0, .pointer (some ⟨p, 0, none⟩)), (3, .slice a n k), (4, .int .i64 j)] ∧ Sat W w (fp' :: c :: H :: F) ∧ (i : Int) ≤ v_5 ∧ Got (encF encN) (wfN WfI i) r_6 b_7 xs r' b' ∧ RdrR 102 H p r' b' fp' ∧ OwnT encI 3 1 a n k xs c ∧ n = i ∧ j = v_5 - i) (fun ⟨i, xs, a, n, k, c, r', b', fp', j⟩ => v_5.toNat - i) (0, [], none, 0, 0, [], r_6, b_7, fp_8, v_5) ⟨⟨by kernel_rfl, by kernel_rfl, by kernel_rfl, trivial⟩, hS_13, by omega, Got.none _ _, hI_10, hO_12, rfl, by omega⟩ ?_
  skip
  rintro ⟨i, xs, a, n, k, c, r', b', fp', j⟩ ρ w_14 ⟨hA, hS_15, hi, hG, hI', hO, hn, hj⟩
  refine cAnchor hA (fun ρ => ?_)
  clear hA
  refine seqE ?_
  refine seqE ?_
  refine regionE ?_
  refine p2 (by kernel_rfl) ?_
  refine nilO ?_
  refine thenK_n <| ?_
  by_cases hc_16 : (j : Int) > 0
  · refine cT (decide ((j : Int) > 0)) (decide_eq_true hc_16) ?_
    refine skipE ?_
    refine thenK_n <| ?_
    refine seqE ?_
    refine blockE ?_
    refine regionE ?_
    refine p2 (by kernel_rfl) ?_
    have hS_17 := hS_15.pick 2 rfl
    have hS_18 := hS_17.pick 1 rfl
    change Sat _ _ (fp' :: H :: c :: F) at hS_18
    refine sF #[.pointer (some ⟨p, 0, none⟩)] Try.call49 (Calls.mono (rrf_number W _ _ _ _ _ _ _ hI' hS_18) ?_)
    rintro _ w_19 ⟨v_21, r_22, b_23, rfl, hG_25, hW_26, fp_24, hI_27, hS_20⟩
    refine ⟨_, rfl, ?_⟩
    change Sat _ _ (fp_24 :: H :: c :: F) at hS_20
    refine sBS hS_20 #[.int .i64 v_21] Try.runUnderlying22 Try.sizeOf3 Try.zeroValue3 ?_
    intro b_28 w_29 hS_30
    refine sApp (nb := 8) hS_30 hO 3 (RdT.blk (enc := encI) (sz := 1) (xs := [v_21]) (fun _ => rfl) 1 0 rfl rfl rfl (by omega)) Try.underlying22 (i := Try.t3) (by kernel_rfl) (fun _ => rfl) ?_
    intro a_31 cap_32 c_33 w_34 hO_35 hS_36
    change Sat _ _ ([(b_28, .cells #[.int .i64 v_21] 3 (0, 0))] :: fp_24 :: H :: c_33 :: F) at hS_36
    refine p1 (by kernel_rfl) ?_
    refine nilO ?_
    refine blockK_n <| thenK_n <| ?_
    refine regionE ?_
    refine p1 (by kernel_rfl) ?_
    refine sSub j 1 ?_
    refine p1 (by kernel_rfl) ?_
    refine nilO ?_
    refine thenK_n <| ?_
    have hS_37 := hS_36.pick 2 rfl
    have hS_38 := hS_37.pick 3 rfl
    have hS_39 := hS_38.pick 3 rfl
    change Sat _ _ (fp_24 :: c_33 :: H :: [(b_28, .cells #[.int .i64 v_21] 3 (0, 0))] :: F) at hS_39
    have hS_40 := hS_39.dropAt 3 rfl
    change Sat _ _ (fp_24 :: c_33 :: H :: F) at hS_40
    have hX := hG.snoc pfI hG_25
    exact ⟨(i + 1, (xs ++ [v_21]), a_31, (n + 1), cap_32, c_33, r_22, b_23, fp_24, (j - 1)), by dsimp only; omega, ⟨by kernel_rfl, by kernel_rfl, by kernel_rfl, trivial⟩, hS_40, by omega, by first | exact hX | simpa using hX, hI_27, hO_35, by omega, by omega⟩
  · refine cF (decide ((j : Int) > 0)) (decide_eq_false hc_16) ?_
    refine exitE (thenK_x <| thenK_x <| blockK_x <| ?_)
    refine thenK_n <| ?_
    refine seqE ?_
    refine regionE ?_
    refine p2 (by kernel_rfl) ?_
    refine nilO ?_
    refine thenK_n <| ?_
    refine retE ?_
    refine retN (vs := [.slice a n k]) rfl (.cons (.tmp _ _ (by kernel_rfl)) .nil) <| ?_
    have hS_41 := hS_15.pick 2 rfl
    have hS_42 := hS_41.pick 2 rfl
    have hS_43 := hS_42.pick 2 rfl
    change Sat _ _ (fp' :: c :: H :: F) at hS_43
    change Sat _ _ (fp' :: c :: H :: F) at hS_43
    have hZ : Got (encF encN) (wfN WfI v_5.toNat) r_6 b_7 xs r' b' := by rw [show v_5.toNat = i from by omega]; exact hG
    exact ⟨a, n, k, xs, c, r', b', rfl, (hO.rd (fun p hp => by simp [hp])), Got.list encN_ge hC_9 hZ, _, hI', hS_43⟩
theorem rrf_taps (W w : World) (p : Nat) (H fp : Chunk) (F : List Chunk) (r : List Int) (b : Bool) (hI : RdrR 102 H p r b fp) (hS : Sat W w (fp :: H :: F)) :
    Calls Try.prog 64 #[.pointer (some ⟨p, 0, none⟩)] w fun e w' => ∃ (a : Option Addr) (n k : Nat) (xs : List Tap) (G : Chunk) (r' : List Int) (b' : Bool), e = .returned (.slice a n k) ∧ RdT encTap 2 [G] a n k xs ∧ (∀ z ∈ xs, Tap.Ok [G] z) ∧ Got (encL nTap) (wfL wfTap) r b (xs.map Tap.v) r' b' ∧ ∃ fp' : Chunk, RdrR 102 H p r' b' fp' ∧ Sat W w' (fp' :: G :: H :: F) := by
  refine callsE (n := 30) Try.func64 rfl rfl (Nat.le_of_ble_eq_true rfl) ?_
  refine seqE ?_
  refine regionE ?_
  refine p1 (by kernel_rfl) ?_
  refine nilO ?_
  refine thenK_n <| ?_
  refine seqE ?_
  refine regionE ?_
  refine p1 (by kernel_rfl) ?_
  refine nilO ?_
  refine thenK_n <| ?_
  refine seqE ?_
  refine seqE ?_
  refine regionE ?_
  refine p1 (by kernel_rfl) ?_
  have hS_1 := hS.pick 1 rfl
  have hS_2 := hS_1.pick 1 rfl
  change Sat _ _ (fp :: H :: F) at hS_2
  refine sF #[.pointer (some ⟨p, 0, none⟩)] Try.call50 (Calls.mono (rrf_count W _ _ _ _ _ _ _ hI hS_2) ?_)
  rintro _ w_3 ⟨v_5, r_6, b_7, rfl, hC_9, fp_8, hI_10, hS_4⟩
  refine ⟨_, rfl, ?_⟩
  have hrng_v_5 := hC_9.rng; have hcap_v_5 := (by obtain ⟨_, _, _, _, _, _, h⟩ := hI_10; exact h : r_6.length ≤ 262144)
  change Sat _ _ (fp_8 :: H :: F) at hS_4
  refine p1 (by kernel_rfl) ?_
  refine nilO ?_
  refine thenK_n <| ?_
  refine blockE ?_
  have hS_11 := Sat.nilc hS_4
  have hO_12 := OwnT.nil (enc := encTap) (E := 94) (sz := 2) (fun _ => rfl)
  have hS_13 := Sat.nilc hS_11
  have hS_14 := hS_13.pick 2 rfl
  change Sat _ _ (fp_8 :: [] :: [] :: H :: F) at hS_14
  refine loopE (γ := Nat × (List Tap) × (Option Addr) × Nat × Nat × Chunk × Chunk × (List Int) × Bool × Chunk × Int) (fun ⟨i, xs, a, n, k, c, G, r', b', fp', j⟩ ρ w => AllAt ρ [(0, .pointer (some ⟨p, 0, none⟩)), (3, .slice a n k), (4, .int .i64 j)] ∧ Sat W w (fp' :: c :: G :: H :: F) ∧ (i : Int) ≤ v_5 ∧ Got (encF nTap) (wfN wfTap i) r_6 b_7 (xs.map Tap.v) r' b' ∧ RdrR 102 H p r' b' fp' ∧ OwnT encTap 94 2 a n k xs c ∧ n = i ∧ (∀ z ∈ xs, Tap.Ok [G] z) ∧ j = v_5 - i) (fun ⟨i, xs, a, n, k, c, G, r', b', fp', j⟩ => v_5.toNat - i) (0, [], none, 0, 0, [], [], r_6, b_7, fp_8, v_5) ⟨⟨by kernel_rfl, by kernel_rfl, by kernel_rfl, trivial⟩, hS_14, by omega, Got.none _ _, hI_10, hO_12, rfl, (by intro z hz; cases hz), by omega⟩ ?_
  skip
  rintro ⟨i, xs, a, n, k, c, G, r', b', fp', j⟩ ρ w_15 ⟨hA, hS_16, hi, hG, hI', hO, hn, hD, hj⟩
  refine cAnchor hA (fun ρ => ?_)
  clear hA
  refine seqE ?_
  refine seqE ?_
  change Sat _ _ (fp' :: c :: G :: H :: F) at hS_16
  obtain ⟨a_17, n_18, k_19, rfl, hR_20, hB_21⟩ := hI'
  have hll_a_17 := hR_20.len; have hle_a_17 := hR_20.le
  refine regionE ?_
  refine p3 (by kernel_rfl) ?_
  by_cases hc_22 : (j : Int) > 0
  · refine sFix 10 (decide ((j : Int) > 0)) true (decide_eq_true hc_22) ?_
    refine p3 (by kernel_rfl) ?_
    refine guardYes rfl ⟨_, rfl, rfl, by kernel_rfl⟩ ?_
    refine sL hS_16 0 1 (.bool b') (Try.isAgg4 _) ?_
    refine p2 (by kernel_rfl) ?_
    refine nilO ?_
    refine thenK_n <| ?_
    cases b'
    · refine condE_true (by kernel_rfl) ?_
      refine skipE ?_
      refine thenK_n <| ?_
      refine seqE ?_
      refine blockE ?_
      refine seqE ?_
      refine regionE ?_
      refine p1 (by kernel_rfl) ?_
      have hI_23 : RdrR 102 H p r' false [(p, .cells #[.slice a_17 n_18 k_19, .bool false] 102 (0, 0))] := ⟨_, _, _, rfl, hR_20, hB_21⟩
      have hS_24 := hS_16.pick 3 rfl
      have hS_25 := hS_24.pick 1 rfl
      change Sat _ _ ([(p, .cells #[.slice a_17 n_18 k_19, .bool false] 102 (0, 0))] :: H :: c :: G :: F) at hS_25
      refine sF #[.pointer (some ⟨p, 0, none⟩)] Try.call49 (Calls.mono (rrf_number W _ _ _ _ _ _ _ hI_23 hS_25) ?_)
      rintro _ w_26 ⟨v_28, r_29, b_30, rfl, hG_32, hW_33, fp_31, hI_34, hS_27⟩
      refine ⟨_, rfl, ?_⟩
      change Sat _ _ (fp_31 :: H :: c :: G :: F) at hS_27
      refine p1 (by kernel_rfl) ?_
      refine sAlloc hS_27 Try.zeroValue94 ?_
      intro b_35 w_36 hS_37
      try dsimp only [List.set, List.eraseIdx] at hS_37
      refine sT hS_37 0 0 (.agg #[.int .i64 v_28, .slice none 0 0]) [.int .i64 v_28, .slice none 0 0] #[.int .i64 v_28, .slice none 0 0] Try.sizeOf94 ?_
      intro w_38 hS_39
      try dsimp only [List.set, List.eraseIdx] at hS_39
      refine nilO ?_
      refine thenK_n <| ?_
      refine seqE ?_
      refine regionE ?_
      refine p1 (by kernel_rfl) ?_
      have hS_40 := hS_39.pick 2 rfl
      have hS_41 := hS_40.pick 2 rfl
      try dsimp only [List.set, List.eraseIdx] at hS_41
      refine sF #[.pointer (some ⟨p, 0, none⟩)] Try.call51 (Calls.mono (rrf_numbers W _ _ _ _ _ _ _ hI_34 hS_41) ?_)
      rintro _ w_42 ⟨a_44, n_45, k_46, xs_47, G_48, r_49, b_50, rfl, hR_52, hG_54, fp_51, hI_55, hS_43⟩
      refine ⟨_, rfl, ?_⟩
      try dsimp only [List.set, List.eraseIdx] at hS_43
      refine p1 (by kernel_rfl) ?_
      refine sT hS_43 3 1 (.slice a_44 n_45 k_46) [.slice a_44 n_45 k_46] #[.int .i64 v_28, .slice a_44 n_45 k_46] Try.sizeOf22 ?_
      intro w_56 hS_57
      try dsimp only [List.set, List.eraseIdx] at hS_57
      refine nilO ?_
      refine thenK_n <| ?_
      refine regionE ?_
      refine p1 (by kernel_rfl) ?_
      refine sLA hS_57 3 0 [.int .i64 v_28, .slice a_44 n_45 k_46] (Try.isAgg94 _) (Try.sizeOf94 _) ?_
      refine sBS hS_57 #[.int .i64 v_28, .slice a_44 n_45 k_46] Try.runUnderlying58 Try.sizeOf94 Try.zeroValue94 ?_
      intro b_58 w_59 hS_60
      refine sApp (nb := 32) hS_60 hO 5 (RdT.blk (enc := encTap) (sz := 2) (xs := [(⟨v_28, ⟨a_44, n_45, k_46, xs_47⟩⟩ : Tap)]) (fun _ => rfl) 1 0 rfl rfl rfl (by omega)) Try.underlying58 (i := Try.t94) (by kernel_rfl) (fun _ => rfl) ?_
      intro a_61 cap_62 c_63 w_64 hO_65 hS_66
      try dsimp only [List.set, List.eraseIdx] at hS_66
      refine p1 (by kernel_rfl) ?_
      refine nilO ?_
      refine blockK_n <| thenK_n <| ?_
      refine regionE ?_
      refine p1 (by kernel_rfl) ?_
      refine sSub j 1 ?_
      refine p1 (by kernel_rfl) ?_
      refine nilO ?_
      refine thenK_n <| ?_
      have hS_67 := hS_66.pick 3 rfl
      have hS_68 := hS_67.pick 6 rfl
      have hS_69 := hS_68.pick 4 rfl
      have hS_70 := hS_69.pick 6 rfl
      have hS_71 := hS_70.pick 5 rfl
      try dsimp only [List.set, List.eraseIdx] at hS_71
      have hS_72 := hS_71.dropAt 5 rfl
      have hS_73 := hS_72.dropAt 5 rfl
      change Sat _ _ (fp_51 :: c_63 :: G_48 :: G :: H :: F) at hS_73
      have hX := hG.snoc pfTap (Got.tap hG_32 hG_54)
      have hS_74 := (Sat.perm (cs' := fp_51 :: c_63 :: (G_48 ++ G) :: H :: F) hS_73 (by simp))
      have hD2 : ∀ z ∈ xs ++ [(⟨v_28, ⟨a_44, n_45, k_46, xs_47⟩⟩ : Tap)], Tap.Ok [(G_48 ++ G)] z := by
        intro z hz
        rcases List.mem_append.1 hz with h | h
        · exact (hD z h).of_mem (fun p hp => by simp at hp ⊢; simp [hp])
        · simp only [List.mem_singleton] at h; subst h; exact ⟨hR_52.of_mem (fun p hp => by simp at hp ⊢; simp [hp])⟩
      exact ⟨(i + 1, (xs ++ [(⟨v_28, ⟨a_44, n_45, k_46, xs_47⟩⟩ : Tap)]), a_61, (n + 1), cap_62, c_63, (G_48 ++ G), r_49, b_50, fp_51, (j - 1)), by dsimp only; omega, ⟨by kernel_rfl, by kernel_rfl, by kernel_rfl, trivial⟩, hS_74, by omega, by simpa [Tap.v] using hX, hI_55, hO_65, by omega, hD2, by omega⟩
    · refine condE_false (by kernel_rfl) ?_
      refine exitE (thenK_x <| thenK_x <| blockK_x <| ?_)
      refine thenK_n <| ?_
      refine seqE ?_
      refine regionE ?_
      refine p2 (by kernel_rfl) ?_
      refine nilO ?_
      refine thenK_n <| ?_
      refine retE ?_
      refine retN (vs := [.slice a n k]) rfl (.cons (.tmp _ _ (by kernel_rfl)) .nil) <| ?_
      have hI_75 : RdrR 102 H p r' true [(p, .cells #[.slice a_17 n_18 k_19, .bool true] 102 (0, 0))] := ⟨_, _, _, rfl, hR_20, hB_21⟩
      have hS_76 := hS_16.pick 3 rfl
      have hS_77 := hS_76.pick 3 rfl
      have hS_78 := hS_77.pick 3 rfl
      have hS_79 := hS_78.pick 3 rfl
      change Sat _ _ ([(p, .cells #[.slice a_17 n_18 k_19, .bool true] 102 (0, 0))] :: c :: G :: H :: F) at hS_79
      change Sat _ _ ([(p, .cells #[.slice a_17 n_18 k_19, .bool true] 102 (0, 0))] :: c :: G :: H :: F) at hS_79
      have hS_80 : Sat W _ ([(p, .cells #[.slice a_17 n_18 k_19, .bool true] 102 (0, 0))] :: (c ++ G) :: H :: F) := Sat.perm hS_79 (by simp)
      have hZ : Got (encF nTap) (wfN wfTap v_5.toNat) r_6 b_7 (xs.map Tap.v) r' true := by
        by_cases hfull : (i : Int) = v_5
        · rw [show v_5.toNat = i from by omega]; exact hG
        · first | (exfalso; omega) | exact hG.stop (by omega) _
      exact ⟨a, n, k, xs, (c ++ G), r', true, rfl, (hO.rd (fun p hp => by simp [hp])), (fun z hz => (hD z hz).of_mem (fun p hp => by simp at hp ⊢; simp [hp])), Got.list nTap_ge1 hC_9 hZ, _, hI_75, hS_80⟩
  · refine sFix 10 (decide ((j : Int) > 0)) false (decide_eq_false hc_22) ?_
    refine p6 (by kernel_rfl) ?_
    refine nilO ?_
    refine thenK_n <| ?_
    refine condE_false (by kernel_rfl) ?_
    refine exitE (thenK_x <| thenK_x <| blockK_x <| ?_)
    refine thenK_n <| ?_
    refine seqE ?_
    refine regionE ?_
    refine p2 (by kernel_rfl) ?_
    refine nilO ?_
    refine thenK_n <| ?_
    refine retE ?_
    refine retN (vs := [.slice a n k]) rfl (.cons (.tmp _ _ (by kernel_rfl)) .nil) <| ?_
    have hI_81 : RdrR 102 H p r' b' [(p, .cells #[.slice a_17 n_18 k_19, .bool b'] 102 (0, 0))] := ⟨_, _, _, rfl, hR_20, hB_21⟩
    have hS_82 := hS_16.pick 3 rfl
    have hS_83 := hS_82.pick 3 rfl
    have hS_84 := hS_83.pick 3 rfl
    have hS_85 := hS_84.pick 3 rfl
    change Sat _ _ ([(p, .cells #[.slice a_17 n_18 k_19, .bool b'] 102 (0, 0))] :: c :: G :: H :: F) at hS_85
    change Sat _ _ ([(p, .cells #[.slice a_17 n_18 k_19, .bool b'] 102 (0, 0))] :: c :: G :: H :: F) at hS_85
    have hS_86 : Sat W _ ([(p, .cells #[.slice a_17 n_18 k_19, .bool b'] 102 (0, 0))] :: (c ++ G) :: H :: F) := Sat.perm hS_85 (by simp)
    have hZ : Got (encF nTap) (wfN wfTap v_5.toNat) r_6 b_7 (xs.map Tap.v) r' b' := by
      by_cases hfull : (i : Int) = v_5
      · rw [show v_5.toNat = i from by omega]; exact hG
      · first | (exfalso; omega) | exact hG.stop (by omega) _
    exact ⟨a, n, k, xs, (c ++ G), r', b', rfl, (hO.rd (fun p hp => by simp [hp])), (fun z hz => (hD z hz).of_mem (fun p hp => by simp at hp ⊢; simp [hp])), Got.list nTap_ge1 hC_9 hZ, _, hI_81, hS_86⟩
end Go.Proofs.Ytcddcpaodcjecaa
