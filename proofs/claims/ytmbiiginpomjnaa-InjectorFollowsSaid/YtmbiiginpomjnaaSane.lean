import Derived.Test.YtmbiiginpomjnaaInj
import Derived.Test.YtmbiiginpomjnaaTape
import Derived.Test.YtmbiiginpomjnaaSlc
namespace Go.Proofs.Ytmbiiginpomjnaa
open Go Go.E
set_option linter.unusedVariables false
set_option linter.unusedSimpArgs false
set_option linter.unnecessarySimpa false
theorem sane_ok (W w : World) (cs : List Chunk) (hS : Sat W w cs) :
    Calls Try.prog 13 #[] w fun e w' => e = .returned (.bool true) ∧ Sat W w' cs := by
  refine callsE (n := 78) Try.func13 rfl rfl (Nat.le_of_ble_eq_true rfl) ?_
  refine seqE ?_
  refine regionE ?_
  refine p1 (by kernel_rfl) ?_
  refine nilO ?_
  refine thenK_n <| ?_
  refine seqE ?_
  refine regionE ?_
  refine sF #[.int .i64 3] Try.call7 (Calls.mono (inj_new W _ _ 3 (by omega) hS) ?_)
  rintro _ w_1 ⟨p_3, rfl, fp_4, hI_5, hS_2⟩
  refine ⟨_, rfl, ?_⟩
  refine p5 (by kernel_rfl) ?_
  refine nilO ?_
  refine thenK_n <| ?_
  refine seqE ?_
  refine seqE ?_
  refine regionE ?_
  refine p9 (by kernel_rfl) ?_
  refine guardYes rfl ⟨_, rfl, rfl, by kernel_rfl⟩ ?_
  change Sat _ _ (fp_4 :: cs) at hS_2
  refine sF #[.pointer (some ⟨p_3, 0, none⟩), .agg #[.int .i64 0, .int .i64 1], .int .i64 2] Try.call10 (Calls.mono (inj_push W _ _ _ _ _ hI_5 hS_2 (by decide) ⟨0, 1⟩ 2) ?_)
  rintro _ w_6 ⟨rfl, fp_8, hI_9, hS_7⟩
  refine ⟨_, rfl, ?_⟩
  change Sat _ _ (fp_8 :: cs) at hS_7
  refine p5 (by kernel_rfl) ?_
  refine guardYes rfl ⟨_, rfl, rfl, by kernel_rfl⟩ ?_
  change Sat _ _ (fp_8 :: cs) at hS_7
  refine sF #[.pointer (some ⟨p_3, 0, none⟩), .agg #[.int .i64 0, .int .i64 2], .int .i64 0] Try.call10 (Calls.mono (inj_push W _ _ _ _ _ hI_9 hS_7 (by decide) ⟨0, 2⟩ 0) ?_)
  rintro _ w_10 ⟨rfl, fp_12, hI_13, hS_11⟩
  refine ⟨_, rfl, ?_⟩
  change Sat _ _ (fp_12 :: cs) at hS_11
  refine p5 (by kernel_rfl) ?_
  refine guardYes rfl ⟨_, rfl, rfl, by kernel_rfl⟩ ?_
  change Sat _ _ (fp_12 :: cs) at hS_11
  refine sF #[.pointer (some ⟨p_3, 0, none⟩), .agg #[.int .i64 0, .int .i64 3], .int .i64 2] Try.call10 (Calls.mono (inj_push W _ _ _ _ _ hI_13 hS_11 (by decide) ⟨0, 3⟩ 2) ?_)
  rintro _ w_14 ⟨rfl, fp_16, hI_17, hS_15⟩
  refine ⟨_, rfl, ?_⟩
  change Sat _ _ (fp_16 :: cs) at hS_15
  refine p2 (by kernel_rfl) ?_
  refine nilO ?_
  refine thenK_n <| ?_
  refine condE_false (by kernel_rfl) ?_
  refine skipE ?_
  refine thenK_n <| ?_
  refine seqE ?_
  refine regionE ?_
  refine p2 (by kernel_rfl) ?_
  change Sat _ _ (fp_16 :: cs) at hS_15
  refine sF #[.pointer (some ⟨p_3, 0, none⟩), .agg #[.int .i64 0, .int .i64 0], .int .i64 1] Try.call10 (Calls.mono (inj_push W _ _ _ _ _ hI_17 hS_15 (by decide) ⟨0, 0⟩ 1) ?_)
  rintro _ w_18 ⟨rfl, fp_20, hI_21, hS_19⟩
  refine ⟨_, rfl, ?_⟩
  change Sat _ _ (fp_20 :: cs) at hS_19
  refine p1 (by kernel_rfl) ?_
  refine nilO ?_
  refine thenK_n <| ?_
  refine seqE ?_
  refine regionE ?_
  refine p1 (by kernel_rfl) ?_
  change Sat _ _ (fp_20 :: cs) at hS_19
  refine sF #[.pointer (some ⟨p_3, 0, none⟩)] Try.call11 (Calls.mono (inj_pop W _ _ _ _ _ hI_21 hS_19 (by decide)) ?_)
  rintro _ w_22 ⟨rfl, fp_24, hI_25, hS_23⟩
  refine ⟨_, rfl, ?_⟩
  change Sat _ _ (fp_24 :: cs) at hS_23
  refine p3 (by kernel_rfl) ?_
  refine sAlloc hS_23 Try.zeroValue33 ?_
  intro b_26 w_27 hS_28
  change Sat _ _ ([(b_26, .cells #[.int .i64 0, .int .i64 0] 33 (0, 0))] :: fp_24 :: cs) at hS_28
  refine sT hS_28 0 0 (.agg #[.int .i64 0, .int .i64 2]) [.int .i64 0, .int .i64 2] #[.int .i64 0, .int .i64 2] Try.sizeOf33 ?_
  intro w_29 hS_30
  change Sat _ _ ([(b_26, .cells #[.int .i64 0, .int .i64 2] 33 (0, 0))] :: fp_24 :: cs) at hS_30
  refine p1 (by kernel_rfl) ?_
  refine nilO ?_
  refine thenK_n <| ?_
  refine seqE ?_
  refine regionE ?_
  refine p1 (by kernel_rfl) ?_
  have hS_31 := hS_30.pick 1 rfl
  change Sat _ _ (fp_24 :: [(b_26, .cells #[.int .i64 0, .int .i64 2] 33 (0, 0))] :: cs) at hS_31
  refine sF #[.pointer (some ⟨p_3, 0, none⟩)] Try.call11 (Calls.mono (inj_pop W _ _ _ _ _ hI_25 hS_31 (by decide)) ?_)
  rintro _ w_32 ⟨rfl, fp_34, hI_35, hS_33⟩
  refine ⟨_, rfl, ?_⟩
  change Sat _ _ (fp_34 :: [(b_26, .cells #[.int .i64 0, .int .i64 2] 33 (0, 0))] :: cs) at hS_33
  refine p3 (by kernel_rfl) ?_
  refine sAlloc hS_33 Try.zeroValue33 ?_
  intro b_36 w_37 hS_38
  change Sat _ _ ([(b_36, .cells #[.int .i64 0, .int .i64 0] 33 (0, 0))] :: fp_34 :: [(b_26, .cells #[.int .i64 0, .int .i64 2] 33 (0, 0))] :: cs) at hS_38
  refine sT hS_38 0 0 (.agg #[.int .i64 0, .int .i64 1]) [.int .i64 0, .int .i64 1] #[.int .i64 0, .int .i64 1] Try.sizeOf33 ?_
  intro w_39 hS_40
  change Sat _ _ ([(b_36, .cells #[.int .i64 0, .int .i64 1] 33 (0, 0))] :: fp_34 :: [(b_26, .cells #[.int .i64 0, .int .i64 2] 33 (0, 0))] :: cs) at hS_40
  refine p1 (by kernel_rfl) ?_
  refine nilO ?_
  refine thenK_n <| ?_
  refine seqE ?_
  refine regionE ?_
  refine p7 (by kernel_rfl) ?_
  refine guardYes rfl ⟨_, rfl, rfl, by kernel_rfl⟩ ?_
  refine sL hS_40 2 1 (.int .i64 2) (Try.isAgg3 _) ?_
  refine p7 (by kernel_rfl) ?_
  refine guardYes rfl ⟨_, rfl, rfl, by kernel_rfl⟩ ?_
  refine sL hS_40 0 1 (.int .i64 1) (Try.isAgg3 _) ?_
  refine p4 (by kernel_rfl) ?_
  refine guardYes rfl ⟨_, rfl, rfl, by kernel_rfl⟩ ?_
  have hS_41 := hS_40.pick 1 rfl
  change Sat _ _ (fp_34 :: [(b_36, .cells #[.int .i64 0, .int .i64 1] 33 (0, 0))] :: [(b_26, .cells #[.int .i64 0, .int .i64 2] 33 (0, 0))] :: cs) at hS_41
  refine sF #[.pointer (some ⟨p_3, 0, none⟩)] Try.call12 (Calls.mono (inj_len W _ _ _ _ _ hI_35 hS_41 (by decide)) ?_)
  rintro _ _ ⟨rfl, rfl⟩
  refine ⟨_, rfl, ?_⟩
  refine p4 (by kernel_rfl) ?_
  refine guardYes rfl ⟨_, rfl, rfl, by kernel_rfl⟩ ?_
  change Sat _ _ (fp_34 :: [(b_36, .cells #[.int .i64 0, .int .i64 1] 33 (0, 0))] :: [(b_26, .cells #[.int .i64 0, .int .i64 2] 33 (0, 0))] :: cs) at hS_41
  refine sF #[.pointer (some ⟨p_3, 0, none⟩), .int .i64 2] Try.call22 (Calls.mono (inj_list W _ _ _ _ _ hI_35 hS_41 (by decide) 2) ?_)
  rintro _ w_42 ⟨a_44, cap_45, c_46, rfl, hO_47, hS_43⟩
  refine ⟨_, rfl, ?_⟩
  change Sat _ _ (c_46 :: fp_34 :: [(b_36, .cells #[.int .i64 0, .int .i64 1] 33 (0, 0))] :: [(b_26, .cells #[.int .i64 0, .int .i64 2] 33 (0, 0))] :: cs) at hS_43
  refine p4 (by kernel_rfl) ?_
  refine nilO ?_
  refine thenK_n <| ?_
  refine retE ?_
  refine retN (vs := [.bool true]) rfl (.cons (.tmp _ _ (by kernel_rfl)) .nil) <| ?_
  have hS_48 := hS_43.tail
  have hS_49 := hS_48.tail
  have hS_50 := hS_49.tail
  have hS_51 := hS_50.tail
  exact ⟨rfl, hS_51⟩
end Go.Proofs.Ytmbiiginpomjnaa
