import Derived.Test.YtmbiiginpomjnaaSane
namespace Go.Proofs.Ytmbiiginpomjnaa
open Go Go.E
theorem inj_remove_nil (W w : World) (cs : List Chunk) (j : Int) (hS : Sat W w cs) :
    Calls Try.prog 18 #[.pointer none, .int .i64 j] w fun e w' => e = .returned (.int .i64 0) ∧ Sat W w' cs := by
  refine callsE (n := 33) Try.func18 rfl rfl (Nat.le_of_ble_eq_true rfl) ?_
  refine seqE ?_
  refine regionE ?_
  refine sBox hS (.int .i64 j) #[.int .i64 j] ?_
  intro b_1 w_2 hS_3
  refine p1 (by kernel_rfl) ?_
  refine nilO ?_
  refine thenK_n <| ?_
  refine seqE ?_
  refine seqE ?_
  refine regionE ?_
  refine p2 (by kernel_rfl) ?_
  refine nilO ?_
  refine thenK_n <| ?_
  refine condE_true (by kernel_rfl) ?_
  refine seqE ?_
  refine regionE ?_
  refine p1 (by kernel_rfl) ?_
  refine nilO ?_
  refine thenK_n <| ?_
  refine retE (thenK_r <| ?_)
  refine retN (vs := [.int .i64 0]) rfl (.cons (.tmp _ _ (by kernel_rfl)) .nil) <| ?_
  have hS_4 := hS_3.tail
  exact ⟨rfl, hS_4⟩

theorem zero_push (r : Ref) (b : Int) : (⟨0, [], [], [], []⟩ : Inj).push r b = ⟨0, [], [], [], []⟩ := rfl
theorem zero_q (b : Int) : (⟨0, [], [], [], []⟩ : Inj).q b = [] := by unfold Inj.q; (repeat' split) <;> rfl
theorem nil_walk (W w : World) (H : Chunk) (F : List Chunk) (band : Int) (job : Int) (_hband : -9223372036854775808 ≤ band ∧ band ≤ 9223372036854775807) (_hjob : -9223372036854775808 ≤ job ∧ job ≤ 9223372036854775807) (hS : Sat W w (H :: F)) :
    Calls Try.prog 5 #[.int .i64 band, .int .i64 job] w fun e w' => e = .returned (.bool true) ∧ Sat W w' (H :: F) := by
  refine callsE (n := 115) Try.func5 rfl rfl (Nat.le_of_ble_eq_true rfl) ?_
  refine seqE ?_
  refine regionE ?_
  refine p1 (by kernel_rfl) ?_
  refine nilO ?_
  refine thenK_n <| ?_
  refine seqE ?_
  refine regionE ?_
  refine sF #[.int .i64 5] Try.call7 (Calls.mono (inj_new W _ _ 5 (by omega) hS) ?_)
  rintro _ w_1 ⟨p_3, rfl, fp_4, hI_5, hS_2⟩
  refine ⟨_, rfl, ?_⟩
  refine p5 (by kernel_rfl) ?_
  refine nilO ?_
  refine thenK_n <| ?_
  refine seqE ?_
  refine seqE ?_
  refine regionE ?_
  refine p9 (by kernel_rfl) ?_
  refine guardYes rfl ⟨_, rfl, rfl, by kernel_rfl⟩ ?_
  change Sat _ _ (fp_4 :: H :: F) at hS_2
  refine sF #[.pointer (some ⟨p_3, 0, none⟩), .agg #[.int .i64 1, .int .i64 0], .int .i64 1] Try.call10 (Calls.mono (inj_push W _ _ _ _ _ hI_5 hS_2 (by decide) ⟨1, 0⟩ 1) ?_)
  rintro _ w_6 ⟨rfl, fp_8, hI_9, hS_7⟩
  refine ⟨_, rfl, ?_⟩
  change Sat _ _ (fp_8 :: H :: F) at hS_7
  refine p2 (by kernel_rfl) ?_
  refine nilO ?_
  refine thenK_n <| ?_
  refine condE_false (by kernel_rfl) ?_
  refine skipE ?_
  refine thenK_n <| ?_
  refine seqE ?_
  refine regionE ?_
  refine p1 (by kernel_rfl) ?_
  change Sat _ _ (fp_8 :: H :: F) at hS_7
  refine sF #[.pointer (some ⟨p_3, 0, none⟩), .int .i64 1] Try.call22 (Calls.mono (inj_list W _ _ _ _ _ hI_9 hS_7 (by decide) 1) ?_)
  rintro _ w_10 ⟨a_12, cap_13, c_14, rfl, hO_15, hS_11⟩
  refine ⟨_, rfl, ?_⟩
  change Sat _ _ (c_14 :: fp_8 :: H :: F) at hS_11
  refine p1 (by kernel_rfl) ?_
  refine nilO ?_
  refine thenK_n <| ?_
  refine seqE ?_
  refine seqE ?_
  refine regionE ?_
  refine p1 (by kernel_rfl) ?_
  refine nilO ?_
  refine thenK_n <| ?_
  refine blockE ?_
  refine loopN 2 ?_
  refine roundS ?_
  refine seqE ?_
  refine seqE ?_
  refine regionE ?_
  refine p4 (by kernel_rfl) ?_
  refine nilO ?_
  refine thenK_n <| ?_
  refine condE_true (by kernel_rfl) ?_
  refine skipE ?_
  refine thenK_n <| ?_
  refine seqE ?_
  refine blockE ?_
  refine regionE ?_
  refine p2 (by kernel_rfl) ?_
  refine sIdxO hO_15 0 0 Try.runUnderlying44 Try.sizeOf33 ?_
  intro x_16 b_17 o_18 hx_19 hp_20 hq_21
  refine p1 (by kernel_rfl) ?_
  refine sStF hS_11 hO_15 hq_21 0 0 0 x_16 ⟨9, x_16.task⟩ hx_19 (.int .i64 9) [.int .i64 9] Try.sizeOf3 ?_
  intro w_22 c_24 hO_25 hS_23
  change Sat _ _ (c_24 :: fp_8 :: H :: F) at hS_23
  refine nilO ?_
  refine blockK_n <| thenK_n <| ?_
  refine regionE ?_
  refine p3 (by kernel_rfl) ?_
  refine nilO ?_
  refine thenK_n <| ?_
  refine roundS ?_
  refine seqE ?_
  refine seqE ?_
  refine regionE ?_
  refine p4 (by kernel_rfl) ?_
  refine nilO ?_
  refine thenK_n <| ?_
  refine condE_false (by kernel_rfl) ?_
  refine exitE (thenK_x <| thenK_x <| blockK_x <| ?_)
  refine thenK_n <| ?_
  refine seqE ?_
  refine regionE ?_
  refine p1 (by kernel_rfl) ?_
  refine nilO ?_
  refine thenK_n <| ?_
  refine seqE ?_
  refine regionE ?_
  refine p1 (by kernel_rfl) ?_
  refine sBox hS_23 (.agg #[.int .i64 0, .slice none 0 0, .slice none 0 0, .slice none 0 0, .slice none 0 0]) #[.int .i64 0, .slice none 0 0, .slice none 0 0, .slice none 0 0, .slice none 0 0] ?_
  intro b_26 w_27 hS_28
  refine p1 (by kernel_rfl) ?_
  refine nilO ?_
  refine thenK_n <| ?_
  refine seqE ?_
  refine regionE ?_
  refine p1 (by kernel_rfl) ?_
  refine sF #[.pointer none] Try.call11 (Calls.mono (inj_pop_nil W _ _ hS_28) ?_)
  rintro _ w_29 ⟨rfl, hS_30⟩
  refine ⟨_, rfl, ?_⟩
  refine p3 (by kernel_rfl) ?_
  refine sAlloc hS_30 Try.zeroValue33 ?_
  intro b_31 w_32 hS_33
  change Sat _ _ ([(b_31, .cells #[.int .i64 0, .int .i64 0] 33 (0, 0))] :: [(b_26, .cells #[.int .i64 0, .slice none 0 0, .slice none 0 0, .slice none 0 0, .slice none 0 0] 49 (0, 0))] :: c_24 :: fp_8 :: H :: F) at hS_33
  refine sT hS_33 0 0 (.agg #[.int .i64 0, .int .i64 0]) [.int .i64 0, .int .i64 0] #[.int .i64 0, .int .i64 0] Try.sizeOf33 ?_
  intro w_34 hS_35
  change Sat _ _ ([(b_31, .cells #[.int .i64 0, .int .i64 0] 33 (0, 0))] :: [(b_26, .cells #[.int .i64 0, .slice none 0 0, .slice none 0 0, .slice none 0 0, .slice none 0 0] 49 (0, 0))] :: c_24 :: fp_8 :: H :: F) at hS_35
  refine p1 (by kernel_rfl) ?_
  refine nilO ?_
  refine thenK_n <| ?_
  refine seqE ?_
  refine regionE ?_
  refine p1 (by kernel_rfl) ?_
  have hI_36 : InjR b_26 ⟨0, [], [], [], []⟩ [(b_26, .cells #[.int .i64 0, .slice none 0 0, .slice none 0 0, .slice none 0 0, .slice none 0 0] 49 (0, 0))] := ⟨_, _, _, [], _, _, _, [], _, _, _, [], _, _, _, [], rfl, OwnT.nil (fun _ => rfl), OwnT.nil (fun _ => rfl), OwnT.nil (fun _ => rfl), OwnT.nil (fun _ => rfl)⟩
  have hS_38 := hS_35.pick 1 rfl
  change Sat _ _ ([(b_26, .cells #[.int .i64 0, .slice none 0 0, .slice none 0 0, .slice none 0 0, .slice none 0 0] 49 (0, 0))] :: [(b_31, .cells #[.int .i64 0, .int .i64 0] 33 (0, 0))] :: c_24 :: fp_8 :: H :: F) at hS_38
  refine sF #[.pointer (some ⟨b_26, 0, none⟩)] Try.call11 (Calls.mono (inj_pop W _ _ _ _ _ hI_36 hS_38 (by decide)) ?_)
  rintro _ w_39 ⟨rfl, fp_41, hI_42, hS_40⟩
  refine ⟨_, rfl, ?_⟩
  change Sat _ _ (fp_41 :: [(b_31, .cells #[.int .i64 0, .int .i64 0] 33 (0, 0))] :: c_24 :: fp_8 :: H :: F) at hS_40
  refine p3 (by kernel_rfl) ?_
  refine sAlloc hS_40 Try.zeroValue33 ?_
  intro b_43 w_44 hS_45
  change Sat _ _ ([(b_43, .cells #[.int .i64 0, .int .i64 0] 33 (0, 0))] :: fp_41 :: [(b_31, .cells #[.int .i64 0, .int .i64 0] 33 (0, 0))] :: c_24 :: fp_8 :: H :: F) at hS_45
  refine sT hS_45 0 0 (.agg #[.int .i64 0, .int .i64 0]) [.int .i64 0, .int .i64 0] #[.int .i64 0, .int .i64 0] Try.sizeOf33 ?_
  intro w_46 hS_47
  change Sat _ _ ([(b_43, .cells #[.int .i64 0, .int .i64 0] 33 (0, 0))] :: fp_41 :: [(b_31, .cells #[.int .i64 0, .int .i64 0] 33 (0, 0))] :: c_24 :: fp_8 :: H :: F) at hS_47
  refine p1 (by kernel_rfl) ?_
  refine nilO ?_
  refine thenK_n <| ?_
  refine seqE ?_
  refine regionE ?_
  refine p3 (by kernel_rfl) ?_
  refine sF #[.pointer none, .agg #[.int .i64 0, .int .i64 0], .int .i64 band] Try.call10 (Calls.mono (inj_push_nil W _ _ _ _ _ hS_47) ?_)
  rintro _ w_48 ⟨rfl, hS_49⟩
  refine ⟨_, rfl, ?_⟩
  refine p3 (by kernel_rfl) ?_
  have hS_50 := hS_49.pick 1 rfl
  change Sat _ _ (fp_41 :: [(b_43, .cells #[.int .i64 0, .int .i64 0] 33 (0, 0))] :: [(b_31, .cells #[.int .i64 0, .int .i64 0] 33 (0, 0))] :: c_24 :: fp_8 :: H :: F) at hS_50
  refine sF #[.pointer (some ⟨b_26, 0, none⟩), .agg #[.int .i64 0, .int .i64 0], .int .i64 band] Try.call10 (Calls.mono (inj_push W _ _ _ _ _ hI_42 hS_50 (by decide) ⟨0, 0⟩ band) ?_)
  rintro _ w_51 ⟨rfl, fp_53, hI_54, hS_52⟩
  refine ⟨_, rfl, ?_⟩
  change Sat _ _ (fp_53 :: [(b_43, .cells #[.int .i64 0, .int .i64 0] 33 (0, 0))] :: [(b_31, .cells #[.int .i64 0, .int .i64 0] 33 (0, 0))] :: c_24 :: fp_8 :: H :: F) at hS_52
  refine p2 (by kernel_rfl) ?_
  refine nilO ?_
  refine thenK_n <| ?_
  refine seqE ?_
  refine regionE ?_
  refine p1 (by kernel_rfl) ?_
  have hS_55 := hS_52.pick 4 rfl
  change Sat _ _ (fp_8 :: fp_53 :: [(b_43, .cells #[.int .i64 0, .int .i64 0] 33 (0, 0))] :: [(b_31, .cells #[.int .i64 0, .int .i64 0] 33 (0, 0))] :: c_24 :: H :: F) at hS_55
  refine sF #[.pointer (some ⟨p_3, 0, none⟩), .int .i64 1] Try.call22 (Calls.mono (inj_list W _ _ _ _ _ hI_9 hS_55 (by decide) 1) ?_)
  rintro _ w_56 ⟨a_58, cap_59, c_60, rfl, hO_61, hS_57⟩
  refine ⟨_, rfl, ?_⟩
  change Sat _ _ (c_60 :: fp_8 :: fp_53 :: [(b_43, .cells #[.int .i64 0, .int .i64 0] 33 (0, 0))] :: [(b_31, .cells #[.int .i64 0, .int .i64 0] 33 (0, 0))] :: c_24 :: H :: F) at hS_57
  refine p1 (by kernel_rfl) ?_
  refine nilO ?_
  refine thenK_n <| ?_
  refine seqE ?_
  refine regionE ?_
  refine p5 (by kernel_rfl) ?_
  refine guardYes rfl ⟨_, rfl, rfl, by kernel_rfl⟩ ?_
  refine sIdxO hO_61 0 0 Try.runUnderlying44 Try.sizeOf33 ?_
  intro x_62 b_63 o_64 hx_65 hp_66 hq_67
  refine p1 (by kernel_rfl) ?_
  refine guardYes rfl ⟨_, rfl, rfl, by kernel_rfl⟩ ?_
  refine sLp hS_57 (hp_66.up 0 rfl) 0 (.int .i64 x_62.job) (Try.isAgg3 _) ?_
  refine p3 (by kernel_rfl) ?_
  have hc_68 : (x_62.job : Int) = 1 := (by have h : some (⟨1, 0⟩ : Ref) = some x_62 := hx_65; cases h; rfl)
  refine sFix 78 ((x_62.job : Int) == 1) true (beq_iff_eq.2 hc_68) ?_
  refine p16 (by kernel_rfl) ?_
  refine p1 (by kernel_rfl) ?_
  refine guardYes rfl ⟨_, rfl, rfl, by kernel_rfl⟩ ?_
  refine sF #[.pointer none] Try.call12 (Calls.mono (inj_len_nil _) ?_)
  rintro _ _ ⟨rfl, rfl⟩
  refine ⟨_, rfl, ?_⟩
  refine p5 (by kernel_rfl) ?_
  refine guardYes rfl ⟨_, rfl, rfl, by kernel_rfl⟩ ?_
  refine sF #[.pointer none, .int .i64 job] Try.call18 (Calls.mono (inj_remove_nil W _ _ _ hS_57) ?_)
  rintro _ w_70 ⟨rfl, hS_71⟩
  refine ⟨_, rfl, ?_⟩
  refine p5 (by kernel_rfl) ?_
  refine guardYes rfl ⟨_, rfl, rfl, by kernel_rfl⟩ ?_
  have hS_78 := hS_71.pick 2 rfl
  change Sat _ _ (fp_53 :: c_60 :: fp_8 :: [(b_43, .cells #[.int .i64 0, .int .i64 0] 33 (0, 0))] :: [(b_31, .cells #[.int .i64 0, .int .i64 0] 33 (0, 0))] :: c_24 :: H :: F) at hS_78
  refine sF #[.pointer (some ⟨b_26, 0, none⟩), .int .i64 band] Try.call22 (Calls.mono (inj_list W _ _ (⟨0, [], [], [], []⟩ : Inj) _ _ hI_54 hS_78 (by decide) band) ?_)
  rw [zero_q]
  rintro _ w_72 ⟨a_74, cap_75, c_76, rfl, hO_77, hS_73⟩
  refine ⟨_, rfl, ?_⟩
  change Sat _ _ (c_76 :: fp_53 :: c_60 :: fp_8 :: [(b_43, .cells #[.int .i64 0, .int .i64 0] 33 (0, 0))] :: [(b_31, .cells #[.int .i64 0, .int .i64 0] 33 (0, 0))] :: c_24 :: H :: F) at hS_73
  refine p4 (by kernel_rfl) ?_
  refine guardYes rfl ⟨_, rfl, rfl, by kernel_rfl⟩ ?_
  refine sF #[] Try.call13 (Calls.mono (sane_ok W _ _ hS_73) ?_)
  rintro _ w_79 ⟨rfl, hS_80⟩
  refine ⟨_, rfl, ?_⟩
  refine p2 (by kernel_rfl) ?_
  refine nilO ?_
  refine thenK_n <| ?_
  refine retE ?_
  refine retN (vs := [.bool true]) rfl (.cons (.tmp _ _ (by kernel_rfl)) .nil) <| ?_
  have hS_81 := hS_80.pick 7 rfl
  change Sat _ _ (H :: c_76 :: fp_53 :: c_60 :: fp_8 :: [(b_43, .cells #[.int .i64 0, .int .i64 0] 33 (0, 0))] :: [(b_31, .cells #[.int .i64 0, .int .i64 0] 33 (0, 0))] :: c_24 :: F) at hS_81
  have hS_82 := hS_81.dropAt 1 rfl
  have hS_83 := hS_82.dropAt 1 rfl
  have hS_84 := hS_83.dropAt 1 rfl
  have hS_85 := hS_84.dropAt 1 rfl
  have hS_86 := hS_85.dropAt 1 rfl
  have hS_87 := hS_86.dropAt 1 rfl
  have hS_88 := hS_87.dropAt 1 rfl
  exact ⟨rfl, hS_88⟩
end Go.Proofs.Ytmbiiginpomjnaa
