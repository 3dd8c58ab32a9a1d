import Derived.Test.YtmbiiginpomjnaaRem
import Derived.Test.YtmbiiginpomjnaaSane
namespace Go.Proofs.Ytmbiiginpomjnaa
open Go Go.E
set_option linter.unusedVariables false
set_option linter.unusedSimpArgs false
set_option linter.unnecessarySimpa false

theorem push_len (S : Inj) (r : Ref) (b : Int) : (S.push r b).len ≤ S.len + 1 := by
  unfold Inj.push
  split
  · unfold Inj.setq Inj.q
    (repeat' split) <;> simp only [Inj.len, List.length_append, List.length_cons, List.length_nil] <;> omega
  · omega
theorem rem_len (S : Inj) (j : Int) : (S.rem j).len ≤ S.len := by
  have := without_len j S.q0; have := without_len j S.q1; have := without_len j S.q2; have := without_len j S.q3
  simp only [Inj.len, Inj.rem]; omega
theorem pop_len (S : Inj) : S.pop.1.len ≤ S.len := by
  obtain ⟨cap, q0, q1, q2, q3⟩ := S
  unfold Inj.pop
  (repeat' split) <;> simp_all [Inj.len] <;> omega
theorem follows_walk (W w : World) (H : Chunk) (F : List Chunk) (t : Option Addr) (nt kt : Nat) (xt : List Int) (capacity : Int) (band : Int) (ht : RdT encI 1 [H] t nt kt xt) (_hcapacity : -9223372036854775808 ≤ capacity ∧ capacity ≤ 9223372036854775807) (_hband : -9223372036854775808 ≤ band ∧ band ≤ 9223372036854775807) (hS : Sat W w (H :: F)) :
    Calls Try.prog 4 #[.slice t nt kt, .int .i64 capacity, .int .i64 band] w fun e w' => e = .returned (.bool true) ∧ Sat W w' (H :: F) := by
  have hlt := ht.le
  refine callsE (n := 145) Try.func4 rfl rfl (Nat.le_of_ble_eq_true rfl) ?_
  refine seqE ?_
  refine regionE ?_
  refine p1 (by kernel_rfl) ?_
  refine nilO ?_
  refine thenK_n <| ?_
  refine seqE ?_
  refine regionE ?_
  refine p1 (by kernel_rfl) ?_
  change Sat _ _ (H :: F) at hS
  refine sF #[.slice t nt kt] Try.call6 (Calls.mono (tape_new W _ _ _ _ _ _ _ ht hS) ?_)
  rintro _ w_1 ⟨p_3, rfl, fp_4, hT_5, hS_2⟩
  refine ⟨_, rfl, ?_⟩
  refine p1 (by kernel_rfl) ?_
  refine nilO ?_
  refine thenK_n <| ?_
  refine seqE ?_
  refine regionE ?_
  refine p2 (by kernel_rfl) ?_
  refine sF #[.int .i64 capacity, .int .i64 8] Try.call8 (Calls.mono (mod_ok W _ _ capacity 8 (by omega) (by omega) hS_2) ?_)
  rintro _ w_6 ⟨r_8, rfl, hr_9, hS_7⟩
  refine ⟨_, rfl, ?_⟩
  refine p1 (by kernel_rfl) ?_
  refine sF #[.int .i64 capacity, .int .i64 4098] Try.call8 (Calls.mono (mod_ok W _ _ capacity 4098 (by omega) (by omega) hS_7) ?_)
  rintro _ w_10 ⟨r_12, rfl, hr_13, hS_11⟩
  refine ⟨_, rfl, ?_⟩
  refine sBS hS_11 #[.int .i64 capacity, .int .i64 r_8, .int .i64 r_12] Try.runUnderlying22 Try.sizeOf3 Try.zeroValue3 ?_
  intro b_14 w_15 hS_16
  refine p1 (by kernel_rfl) ?_
  have hS_23 := hS_16.pick 2 rfl
  have hS_24 := hS_23.pick 2 rfl
  change Sat _ _ (fp_4 :: H :: [(b_14, .cells #[.int .i64 capacity, .int .i64 r_8, .int .i64 r_12] 3 (0, 0))] :: F) at hS_24
  refine sF #[.pointer (some ⟨p_3, 0, none⟩), .int .i64 3] Try.call9 (Calls.mono (tape_next W _ _ _ _ _ hT_5 hS_24 3 (by omega)) ?_)
  rintro _ w_17 ⟨r_19, rfl, hr_20, fp_21, hT_22, hS_18⟩
  refine ⟨_, rfl, ?_⟩
  change Sat _ _ (fp_21 :: H :: [(b_14, .cells #[.int .i64 capacity, .int .i64 r_8, .int .i64 r_12] 3 (0, 0))] :: F) at hS_18
  refine sIdx (RdT.blk (cs := [[(b_14, .cells #[.int .i64 capacity, .int .i64 r_8, .int .i64 r_12] 3 (0, 0))]]) (enc := encI) (sz := 1) (xs := [capacity, r_8, r_12]) (fun _ => rfl) 3 0 rfl rfl rfl (by omega)) r_19 Try.runUnderlying22 Try.sizeOf3 ?_
  intro x_25 b_26 o_27 hx_28 hp_29
  refine sLp hS_18 (hp_29.up 2 rfl) 0 (.int .i64 x_25) (Try.isAgg3 _) ?_
  refine p1 (by kernel_rfl) ?_
  refine nilO ?_
  refine thenK_n <| ?_
  refine seqE ?_
  refine regionE ?_
  refine p1 (by kernel_rfl) ?_
  by_cases hcap : 1 ≤ x_25 ∧ x_25 ≤ 4096
  · refine sF #[.int .i64 x_25] Try.call7 (Calls.mono (inj_new W _ _ x_25 (by omega) hS_18) ?_)
    rintro _ w_30 ⟨p_32, rfl, fp_33, hI_34, hS_31⟩
    refine ⟨_, rfl, ?_⟩
    refine p5 (by kernel_rfl) ?_
    refine nilO ?_
    refine thenK_n <| ?_
    refine seqE ?_
    refine regionE ?_
    refine p1 (by kernel_rfl) ?_
    refine sF #[.int .i64 x_25] Try.call14 (Calls.mono (rnj_new W _ _ x_25 (by omega) hS_31) ?_)
    rintro _ w_35 ⟨p_37, rfl, fp_38, hI_39, hS_36⟩
    refine ⟨_, rfl, ?_⟩
    refine p5 (by kernel_rfl) ?_
    refine nilO ?_
    refine thenK_n <| ?_
    refine seqE ?_
    refine seqE ?_
    refine regionE ?_
    refine p10 (by kernel_rfl) ?_
    refine nilO ?_
    refine thenK_n <| ?_
    refine condE_false (by kernel_rfl) ?_
    refine skipE ?_
    refine thenK_n <| ?_
    refine seqE ?_
    refine seqE ?_
    refine regionE ?_
    refine p1 (by kernel_rfl) ?_
    refine nilO ?_
    refine thenK_n <| ?_
    refine blockE ?_
    have hS_40 := hS_36.pick 3 rfl
    have hS_41 := hS_40.pick 3 rfl
    have hS_42 := hS_41.pick 2 rfl
    have hS_43 := hS_42.pick 3 rfl
    change Sat _ _ (fp_33 :: fp_38 :: fp_21 :: H :: [(b_14, .cells #[.int .i64 capacity, .int .i64 r_8, .int .i64 r_12] 3 (0, 0))] :: F) at hS_43
    have hS_44 := hS_43.dropAt 4 rfl
    change Sat _ _ (fp_33 :: fp_38 :: fp_21 :: H :: F) at hS_44
    refine loopE (γ := Int × Inj × Chunk × Chunk × Chunk) (fun ⟨i, S, fa, fb, ft⟩ ρ w => AllAt ρ [(2, .int .i64 band), (7, .pointer (some ⟨p_3, 0, none⟩)), (9, .pointer (some ⟨p_32, 0, none⟩)), (11, .pointer (some ⟨p_37, 0, none⟩)), (13, .int .i64 i)] ∧ Sat W w (fa :: fb :: ft :: H :: F) ∧ TapeR H p_3 ft ∧ InjR p_32 S fa ∧ InjR2 p_37 S fb ∧ (0 ≤ i ∧ i ≤ 60) ∧ (S.len : Int) ≤ i) (fun ⟨i, S, fa, fb, ft⟩ => (60 - i).toNat) (0, (⟨x_25, [], [], [], []⟩ : Inj), fp_33, fp_38, fp_21) ⟨⟨by kernel_rfl, by kernel_rfl, by kernel_rfl, by kernel_rfl, by kernel_rfl, trivial⟩, hS_44, hT_22, hI_34, hI_39, by omega, by simp [Inj.len]⟩ ?_
    skip
    rintro ⟨i, S, fa, fb, ft⟩ ρ w_45 ⟨hA, hS_46, hT, hIa, hIb, hi, hlen⟩
    refine cAnchor hA (fun ρ => ?_)
    clear hA
    refine seqE ?_
    refine seqE ?_
    refine regionE ?_
    refine p3 (by kernel_rfl) ?_
    by_cases hc_47 : (i : Int) < 60
    · refine sFix 55 (decide ((i : Int) < 60)) true (decide_eq_true hc_47) ?_
      refine p1 (by kernel_rfl) ?_
      refine guardYes rfl ⟨_, rfl, rfl, by kernel_rfl⟩ ?_
      have hS_51 := hS_46.pick 3 rfl
      have hS_52 := hS_51.pick 3 rfl
      change Sat _ _ (ft :: H :: fa :: fb :: F) at hS_52
      refine sF #[.pointer (some ⟨p_3, 0, none⟩)] Try.call15 (Calls.mono (tape_left W _ _ _ _ _ hT hS_52) ?_)
      rintro _ w_48 ⟨bb_50, rfl, hS_49⟩
      refine ⟨_, rfl, ?_⟩
      change Sat _ _ (ft :: H :: fa :: fb :: F) at hS_49
      refine p1 (by kernel_rfl) ?_
      refine nilO ?_
      refine thenK_n <| ?_
      cases bb_50
      · refine condE_false (by kernel_rfl) ?_
        refine exitE (thenK_x <| thenK_x <| blockK_x <| ?_)
        refine thenK_n <| ?_
        refine seqE ?_
        refine regionE ?_
        refine sF #[] Try.call13 (Calls.mono (sane_ok W _ _ hS_49) ?_)
        rintro _ w_53 ⟨rfl, hS_54⟩
        refine ⟨_, rfl, ?_⟩
        refine p1 (by kernel_rfl) ?_
        refine nilO ?_
        refine thenK_n <| ?_
        refine retE ?_
        refine retN (vs := [.bool true]) rfl (.cons (.tmp _ _ (by kernel_rfl)) .nil) <| ?_
        have hS_55 := hS_54.pick 1 rfl
        change Sat _ _ (H :: ft :: fa :: fb :: F) at hS_55
        have hS_56 := hS_55.dropAt 1 rfl
        have hS_57 := hS_56.dropAt 1 rfl
        have hS_58 := hS_57.dropAt 1 rfl
        exact ⟨rfl, hS_58⟩
      · refine condE_true (by kernel_rfl) ?_
        refine skipE ?_
        refine thenK_n <| ?_
        refine seqE ?_
        refine blockE ?_
        refine seqE ?_
        refine regionE ?_
        refine p1 (by kernel_rfl) ?_
        have hS_65 := hS_49.pick 1 rfl
        have hS_66 := hS_65.pick 1 rfl
        change Sat _ _ (ft :: H :: fa :: fb :: F) at hS_66
        refine sF #[.pointer (some ⟨p_3, 0, none⟩), .int .i64 3] Try.call9 (Calls.mono (tape_next W _ _ _ _ _ hT hS_66 3 (by omega)) ?_)
        rintro _ w_59 ⟨r_61, rfl, hr_62, fp_63, hT_64, hS_60⟩
        refine ⟨_, rfl, ?_⟩
        change Sat _ _ (fp_63 :: H :: fa :: fb :: F) at hS_60
        refine p2 (by kernel_rfl) ?_
        refine sAlloc hS_60 Try.zeroValue33 ?_
        intro b_67 w_68 hS_69
        change Sat _ _ ([(b_67, .cells #[.int .i64 0, .int .i64 0] 33 (0, 0))] :: fp_63 :: H :: fa :: fb :: F) at hS_69
        refine sT hS_69 0 0 (.agg #[.int .i64 r_61, .int .i64 i]) [.int .i64 r_61, .int .i64 i] #[.int .i64 r_61, .int .i64 i] Try.sizeOf33 ?_
        intro w_70 hS_71
        change Sat _ _ ([(b_67, .cells #[.int .i64 r_61, .int .i64 i] 33 (0, 0))] :: fp_63 :: H :: fa :: fb :: F) at hS_71
        refine nilO ?_
        refine thenK_n <| ?_
        refine cutE (fun ρ w => ∃ (S : Inj) (fa : Chunk) (fb : Chunk) (ft : Chunk), AllAt ρ [(2, .int .i64 band), (7, .pointer (some ⟨p_3, 0, none⟩)), (9, .pointer (some ⟨p_32, 0, none⟩)), (11, .pointer (some ⟨p_37, 0, none⟩)), (13, .int .i64 i)] ∧ Sat W w (fa :: fb :: ft :: H :: F) ∧ TapeR H p_3 ft ∧ InjR p_32 S fa ∧ InjR2 p_37 S fb ∧ (S.len : Int) ≤ i + 1) ?_ ?_
        · refine seqE ?_
          refine regionE ?_
          refine p1 (by kernel_rfl) ?_
          have hS_78 := hS_71.pick 2 rfl
          have hS_79 := hS_78.pick 2 rfl
          change Sat _ _ (fp_63 :: H :: [(b_67, .cells #[.int .i64 r_61, .int .i64 i] 33 (0, 0))] :: fa :: fb :: F) at hS_79
          refine sF #[.pointer (some ⟨p_3, 0, none⟩), .int .i64 8] Try.call9 (Calls.mono (tape_next W _ _ _ _ _ hT_64 hS_79 8 (by omega)) ?_)
          rintro _ w_72 ⟨r_74, rfl, hr_75, fp_76, hT_77, hS_73⟩
          refine ⟨_, rfl, ?_⟩
          change Sat _ _ (fp_76 :: H :: [(b_67, .cells #[.int .i64 r_61, .int .i64 i] 33 (0, 0))] :: fa :: fb :: F) at hS_73
          refine nilO ?_
          refine thenK_n <| ?_
          refine blockE ?_
          refine cutE (fun ρ w => ∃ (bc : Bool), AllAt ρ [(2, .int .i64 band), (7, .pointer (some ⟨p_3, 0, none⟩)), (9, .pointer (some ⟨p_32, 0, none⟩)), (11, .pointer (some ⟨p_37, 0, none⟩)), (13, .int .i64 i), (14, .pointer (some ⟨b_67, 0, none⟩)), (66, .int .i64 r_74), (85, .bool bc)] ∧ Sat W w (fp_76 :: H :: [(b_67, .cells #[.int .i64 r_61, .int .i64 i] 33 (0, 0))] :: fa :: fb :: F)) ?_ ?_
          · refine seqE ?_
            refine regionE ?_
            refine p2 (by kernel_rfl) ?_
            refine nilO ?_
            refine thenK_n <| ?_
            by_cases hc_80 : (r_74 : Int) = 0
            · refine cT ((r_74 : Int) == 0) (beq_iff_eq.2 hc_80) ?_
              refine skipE ?_
              refine thenK_n <| ?_
              exact ⟨((r_74 : Int) == 0), ⟨by kernel_rfl, by kernel_rfl, by kernel_rfl, by kernel_rfl, by kernel_rfl, by kernel_rfl, by kernel_rfl, by kernel_rfl, trivial⟩, hS_73⟩
            · refine cF ((r_74 : Int) == 0) (beq_eq_false_iff_ne.2 hc_80) ?_
              refine seqE ?_
              refine regionE ?_
              refine p2 (by kernel_rfl) ?_
              refine nilO ?_
              refine thenK_n <| ?_
              by_cases hc_81 : (r_74 : Int) = 1
              · refine cT ((r_74 : Int) == 1) (beq_iff_eq.2 hc_81) ?_
                refine skipE ?_
                refine thenK_n <| ?_
                exact ⟨((r_74 : Int) == 1), ⟨by kernel_rfl, by kernel_rfl, by kernel_rfl, by kernel_rfl, by kernel_rfl, by kernel_rfl, by kernel_rfl, by kernel_rfl, trivial⟩, hS_73⟩
              · refine cF ((r_74 : Int) == 1) (beq_eq_false_iff_ne.2 hc_81) ?_
                refine seqE ?_
                refine regionE ?_
                refine p2 (by kernel_rfl) ?_
                refine nilO ?_
                refine thenK_n <| ?_
                by_cases hc_82 : (r_74 : Int) = 2
                · refine cT ((r_74 : Int) == 2) (beq_iff_eq.2 hc_82) ?_
                  refine skipE ?_
                  refine thenK_n <| ?_
                  exact ⟨((r_74 : Int) == 2), ⟨by kernel_rfl, by kernel_rfl, by kernel_rfl, by kernel_rfl, by kernel_rfl, by kernel_rfl, by kernel_rfl, by kernel_rfl, trivial⟩, hS_73⟩
                · refine cF ((r_74 : Int) == 2) (beq_eq_false_iff_ne.2 hc_82) ?_
                  refine regionE ?_
                  refine p2 (by kernel_rfl) ?_
                  refine nilO ?_
                  refine thenK_n <| ?_
                  exact ⟨((r_74 : Int) == 3), ⟨by kernel_rfl, by kernel_rfl, by kernel_rfl, by kernel_rfl, by kernel_rfl, by kernel_rfl, by kernel_rfl, by kernel_rfl, trivial⟩, hS_73⟩
          · rintro ρ w_83 ⟨bc, hA, hS_84⟩
            refine cAnchor hA (fun ρ => ?_)
            clear hA
            cases bc
            · refine condE_false (by kernel_rfl) ?_
              refine seqE ?_
              refine regionE ?_
              refine p2 (by kernel_rfl) ?_
              refine nilO ?_
              refine thenK_n <| ?_
              by_cases hc_85 : (r_74 : Int) = 7
              · refine cT ((r_74 : Int) == 7) (beq_iff_eq.2 hc_85) ?_
                refine seqE ?_
                refine drawE [3, 7] [(2, ⟨b_67, 0, none⟩, .int .i64 r_61), (6, ⟨b_67, 0, none⟩, .int .i64 r_61)] [(true, [0, 1, 4, 5]), (true, [2]), (true, [6]), (false, [3]), (false, [7]), (true, [8])] rfl (by kernel_rfl) ⟨.inr (hS_84.cell 2 rfl rfl), .inr (hS_84.cell 2 rfl rfl), trivial⟩ ?_
                have hS_86 := hS_84.drew
                refine wP [0, 1, 4, 5] rfl (by kernel_rfl) ?_
                refine wS (.int .i64 r_61) rfl rfl rfl (fun w hF => Y_load rfl (Try.isAgg3 w) (by kernel_rfl) (hF 0 _ _ rfl)) ?_
                refine wS (.int .i64 r_61) rfl rfl rfl (fun w hF => Y_load rfl (Try.isAgg3 w) (by kernel_rfl) (hF 1 _ _ rfl)) ?_
                refine wO rfl ?_
                have hS_87 := hS_86.pick 3 rfl
                change Sat _ _ (fa :: fp_76 :: H :: [(b_67, .cells #[.int .i64 r_61, .int .i64 i] 33 (0, 0))] :: fb :: F) at hS_87
                refine sF #[.pointer (some ⟨p_32, 0, none⟩), .int .i64 r_61] Try.call18 (Calls.mono (inj_remove W _ _ _ _ _ hIa hS_87 (by omega) r_61) ?_)
                rintro _ w_88 ⟨rfl, fp_90, hI_91, hS_89⟩
                refine ⟨_, rfl, ?_⟩
                change Sat _ _ (fp_90 :: fp_76 :: H :: [(b_67, .cells #[.int .i64 r_61, .int .i64 i] 33 (0, 0))] :: fb :: F) at hS_89
                have hrl := rem_len S r_61
                refine nilO ⟨⟨.inl (by kernel_rfl), .inr (hS_89.cell 3 rfl rfl), trivial⟩, ?_⟩
                refine wO rfl ?_
                have hS_92 := hS_89.pick 4 rfl
                change Sat _ _ (fb :: fp_90 :: fp_76 :: H :: [(b_67, .cells #[.int .i64 r_61, .int .i64 i] 33 (0, 0))] :: F) at hS_92
                refine sF #[.pointer (some ⟨p_37, 0, none⟩), .int .i64 r_61] Try.call19 (Calls.mono (rnj_remove W _ _ _ _ _ hIb hS_92 (by omega) r_61) ?_)
                rintro _ w_93 ⟨rfl, fp_95, hI_96, hS_94⟩
                refine ⟨_, rfl, ?_⟩
                change Sat _ _ (fp_95 :: fp_90 :: fp_76 :: H :: [(b_67, .cells #[.int .i64 r_61, .int .i64 i] 33 (0, 0))] :: F) at hS_94
                have hrl := rem_len S r_61
                refine nilO ⟨⟨.inl (by kernel_rfl), .inl (by kernel_rfl), trivial⟩, ?_⟩
                refine wP [8] rfl (by kernel_rfl) ?_
                refine wN ?_
                refine thenK_n <| ?_
                have hc_97 : ((((S.len : Nat) : Int) - (((S.rem r_61).len : Nat) : Int)) : Int) = (((S.len : Nat) : Int) - (((S.rem r_61).len : Nat) : Int)) := rfl
                refine cF (((((S.len : Nat) : Int) - (((S.rem r_61).len : Nat) : Int)) : Int) != (((S.len : Nat) : Int) - (((S.rem r_61).len : Nat) : Int))) (bne_eq_false_iff_eq.2 hc_97) ?_
                refine skipE ?_
                refine blockK_n <| thenK_n <| ?_
                have hS_98 := hS_94.pick 3 rfl
                have hS_99 := hS_98.pick 3 rfl
                have hS_100 := hS_99.pick 2 rfl
                have hS_101 := hS_100.pick 3 rfl
                change Sat _ _ (fp_90 :: fp_95 :: fp_76 :: H :: [(b_67, .cells #[.int .i64 r_61, .int .i64 i] 33 (0, 0))] :: F) at hS_101
                have hS_102 := hS_101.dropAt 4 rfl
                change Sat _ _ (fp_90 :: fp_95 :: fp_76 :: H :: F) at hS_102
                exact ⟨(S.rem r_61), fp_90, fp_95, fp_76, ⟨by kernel_rfl, by kernel_rfl, by kernel_rfl, by kernel_rfl, by kernel_rfl, trivial⟩, hS_102, hT_77, hI_91, hI_96, by omega⟩
              · refine cF ((r_74 : Int) == 7) (beq_eq_false_iff_ne.2 hc_85) ?_
                refine seqE ?_
                refine regionE ?_
                refine p1 (by kernel_rfl) ?_
                have hS_103 := hS_84.pick 3 rfl
                change Sat _ _ (fa :: fp_76 :: H :: [(b_67, .cells #[.int .i64 r_61, .int .i64 i] 33 (0, 0))] :: fb :: F) at hS_103
                refine sF #[.pointer (some ⟨p_32, 0, none⟩)] Try.call11 (Calls.mono (inj_pop W _ _ _ _ _ hIa hS_103 (by omega)) ?_)
                rintro _ w_104 ⟨rfl, fp_106, hI_107, hS_105⟩
                refine ⟨_, rfl, ?_⟩
                change Sat _ _ (fp_106 :: fp_76 :: H :: [(b_67, .cells #[.int .i64 r_61, .int .i64 i] 33 (0, 0))] :: fb :: F) at hS_105
                have hppl := pop_len S
                refine p3 (by kernel_rfl) ?_
                refine sAlloc hS_105 Try.zeroValue33 ?_
                intro b_108 w_109 hS_110
                change Sat _ _ ([(b_108, .cells #[.int .i64 0, .int .i64 0] 33 (0, 0))] :: fp_106 :: fp_76 :: H :: [(b_67, .cells #[.int .i64 r_61, .int .i64 i] 33 (0, 0))] :: fb :: F) at hS_110
                refine sT hS_110 0 0 (.agg #[.int .i64 S.pop.2.1.job, .int .i64 S.pop.2.1.task]) [.int .i64 S.pop.2.1.job, .int .i64 S.pop.2.1.task] #[.int .i64 S.pop.2.1.job, .int .i64 S.pop.2.1.task] Try.sizeOf33 ?_
                intro w_111 hS_112
                change Sat _ _ ([(b_108, .cells #[.int .i64 S.pop.2.1.job, .int .i64 S.pop.2.1.task] 33 (0, 0))] :: fp_106 :: fp_76 :: H :: [(b_67, .cells #[.int .i64 r_61, .int .i64 i] 33 (0, 0))] :: fb :: F) at hS_112
                refine p1 (by kernel_rfl) ?_
                refine nilO ?_
                refine thenK_n <| ?_
                refine seqE ?_
                refine regionE ?_
                refine p1 (by kernel_rfl) ?_
                have hS_113 := hS_112.pick 5 rfl
                change Sat _ _ (fb :: [(b_108, .cells #[.int .i64 S.pop.2.1.job, .int .i64 S.pop.2.1.task] 33 (0, 0))] :: fp_106 :: fp_76 :: H :: [(b_67, .cells #[.int .i64 r_61, .int .i64 i] 33 (0, 0))] :: F) at hS_113
                refine sF #[.pointer (some ⟨p_37, 0, none⟩)] Try.call20 (Calls.mono (rnj_pop W _ _ _ _ _ hIb hS_113 (by omega)) ?_)
                rintro _ w_114 ⟨rfl, fp_116, hI_117, hS_115⟩
                refine ⟨_, rfl, ?_⟩
                change Sat _ _ (fp_116 :: [(b_108, .cells #[.int .i64 S.pop.2.1.job, .int .i64 S.pop.2.1.task] 33 (0, 0))] :: fp_106 :: fp_76 :: H :: [(b_67, .cells #[.int .i64 r_61, .int .i64 i] 33 (0, 0))] :: F) at hS_115
                have hppl := pop_len S
                refine p3 (by kernel_rfl) ?_
                refine sAlloc hS_115 Try.zeroValue33 ?_
                intro b_118 w_119 hS_120
                change Sat _ _ ([(b_118, .cells #[.int .i64 0, .int .i64 0] 33 (0, 0))] :: fp_116 :: [(b_108, .cells #[.int .i64 S.pop.2.1.job, .int .i64 S.pop.2.1.task] 33 (0, 0))] :: fp_106 :: fp_76 :: H :: [(b_67, .cells #[.int .i64 r_61, .int .i64 i] 33 (0, 0))] :: F) at hS_120
                refine sT hS_120 0 0 (.agg #[.int .i64 S.pop.2.1.job, .int .i64 S.pop.2.1.task]) [.int .i64 S.pop.2.1.job, .int .i64 S.pop.2.1.task] #[.int .i64 S.pop.2.1.job, .int .i64 S.pop.2.1.task] Try.sizeOf33 ?_
                intro w_121 hS_122
                change Sat _ _ ([(b_118, .cells #[.int .i64 S.pop.2.1.job, .int .i64 S.pop.2.1.task] 33 (0, 0))] :: fp_116 :: [(b_108, .cells #[.int .i64 S.pop.2.1.job, .int .i64 S.pop.2.1.task] 33 (0, 0))] :: fp_106 :: fp_76 :: H :: [(b_67, .cells #[.int .i64 r_61, .int .i64 i] 33 (0, 0))] :: F) at hS_122
                refine p1 (by kernel_rfl) ?_
                refine nilO ?_
                refine thenK_n <| ?_
                refine seqE ?_
                refine regionE ?_
                refine sLA hS_122 2 0 [.int .i64 S.pop.2.1.job, .int .i64 S.pop.2.1.task] (Try.isAgg33 _) (Try.sizeOf33 _) ?_
                refine sLA hS_122 0 0 [.int .i64 S.pop.2.1.job, .int .i64 S.pop.2.1.task] (Try.isAgg33 _) (Try.sizeOf33 _) ?_
                refine stepY (.bool (!(((S.pop.2.1.job : Int) == S.pop.2.1.job) && ((S.pop.2.1.task : Int) == S.pop.2.1.task)))) rfl rfl (Y_eqS rfl (by kernel_rfl) (by kernel_rfl) (eqvn33 _ S.pop.2.1.job S.pop.2.1.task S.pop.2.1.job S.pop.2.1.task)) ?_
                refine p1 (by kernel_rfl) ?_
                have hc_123 : (S.pop.2.1.job : Int) = S.pop.2.1.job ∧ (S.pop.2.1.task : Int) = S.pop.2.1.task := ⟨rfl, rfl⟩
                refine sFix 80 (!(((S.pop.2.1.job : Int) == S.pop.2.1.job) && ((S.pop.2.1.task : Int) == S.pop.2.1.task))) false (congrArg Bool.not (show (((S.pop.2.1.job : Int) == S.pop.2.1.job) && ((S.pop.2.1.task : Int) == S.pop.2.1.task)) = true from by simpa using hc_123)) ?_
                refine p4 (by kernel_rfl) ?_
                refine nilO ?_
                refine thenK_n <| ?_
                have hc_124 : S.pop.2.2 = S.pop.2.2 := rfl
                refine cF (!(S.pop.2.2 == S.pop.2.2)) (congrArg Bool.not (show (S.pop.2.2 == S.pop.2.2) = true from by simpa using hc_124)) ?_
                refine skipE ?_
                refine blockK_n <| thenK_n <| ?_
                have hS_125 := hS_122.pick 5 rfl
                have hS_126 := hS_125.pick 5 rfl
                have hS_127 := hS_126.pick 3 rfl
                have hS_128 := hS_127.pick 5 rfl
                change Sat _ _ (fp_106 :: fp_116 :: fp_76 :: H :: [(b_118, .cells #[.int .i64 S.pop.2.1.job, .int .i64 S.pop.2.1.task] 33 (0, 0))] :: [(b_108, .cells #[.int .i64 S.pop.2.1.job, .int .i64 S.pop.2.1.task] 33 (0, 0))] :: [(b_67, .cells #[.int .i64 r_61, .int .i64 i] 33 (0, 0))] :: F) at hS_128
                have hS_129 := hS_128.dropAt 4 rfl
                have hS_130 := hS_129.dropAt 4 rfl
                have hS_131 := hS_130.dropAt 4 rfl
                change Sat _ _ (fp_106 :: fp_116 :: fp_76 :: H :: F) at hS_131
                exact ⟨S.pop.1, fp_106, fp_116, fp_76, ⟨by kernel_rfl, by kernel_rfl, by kernel_rfl, by kernel_rfl, by kernel_rfl, trivial⟩, hS_131, hT_77, hI_107, hI_117, by omega⟩
            · refine condE_true (by kernel_rfl) ?_
              refine seqE ?_
              refine regionE ?_
              refine p2 (by kernel_rfl) ?_
              have hS_138 := hS_84.pick 1 rfl
              have hS_139 := hS_138.pick 1 rfl
              change Sat _ _ (fp_76 :: H :: [(b_67, .cells #[.int .i64 r_61, .int .i64 i] 33 (0, 0))] :: fa :: fb :: F) at hS_139
              refine sF #[.pointer (some ⟨p_3, 0, none⟩), .int .i64 4] Try.call9 (Calls.mono (tape_next W _ _ _ _ _ hT_77 hS_139 4 (by omega)) ?_)
              rintro _ w_132 ⟨r_134, rfl, hr_135, fp_136, hT_137, hS_133⟩
              refine ⟨_, rfl, ?_⟩
              change Sat _ _ (fp_136 :: H :: [(b_67, .cells #[.int .i64 r_61, .int .i64 i] 33 (0, 0))] :: fa :: fb :: F) at hS_133
              refine p1 (by kernel_rfl) ?_
              refine sBS hS_133 #[.int .i64 r_134, .int .i64 band, .int .i64 4, .int .i64 (-1), .int .i64 0] Try.runUnderlying22 Try.sizeOf3 Try.zeroValue3 ?_
              intro b_140 w_141 hS_142
              have hS_149 := hS_142.pick 0 rfl
              have hS_150 := hS_149.pick 2 rfl
              have hS_151 := hS_150.pick 2 rfl
              change Sat _ _ (fp_136 :: H :: [(b_140, .cells #[.int .i64 r_134, .int .i64 band, .int .i64 4, .int .i64 (-1), .int .i64 0] 3 (0, 0))] :: [(b_67, .cells #[.int .i64 r_61, .int .i64 i] 33 (0, 0))] :: fa :: fb :: F) at hS_151
              refine sF #[.pointer (some ⟨p_3, 0, none⟩), .slice (some ⟨b_140, 0, none⟩) 5 5] Try.call16 (Calls.mono (tape_pick W _ _ _ _ _ _ _ _ _ _ hT_137 (RdT.blk (cs := [[(b_140, .cells #[.int .i64 r_134, .int .i64 band, .int .i64 4, .int .i64 (-1), .int .i64 0] 3 (0, 0))]]) (enc := encI) (sz := 1) (xs := [r_134, band, 4, -1, 0]) (fun _ => rfl) 5 0 rfl rfl rfl (by omega)) (by omega) (by omega) hS_151) ?_)
              rintro _ w_143 ⟨x_145, rfl, hx_146, fp_147, hT_148, hS_144⟩
              refine ⟨_, rfl, ?_⟩
              skip
              change Sat _ _ (fp_147 :: H :: [(b_140, .cells #[.int .i64 r_134, .int .i64 band, .int .i64 4, .int .i64 (-1), .int .i64 0] 3 (0, 0))] :: [(b_67, .cells #[.int .i64 r_61, .int .i64 i] 33 (0, 0))] :: fa :: fb :: F) at hS_144
              refine p1 (by kernel_rfl) ?_
              refine nilO ?_
              refine thenK_n <| ?_
              refine seqE ?_
              refine drawE [3, 7] [(1, ⟨b_67, 0, none⟩, .int .i64 r_61), (1, ⟨b_67, 1, none⟩, .int .i64 i), (5, ⟨b_67, 0, none⟩, .int .i64 r_61), (5, ⟨b_67, 1, none⟩, .int .i64 i)] [(true, [0, 2, 4, 6]), (true, [1]), (true, [5]), (false, [3]), (false, [7]), (true, [8])] rfl (by kernel_rfl) ⟨.inr (hS_144.cell 3 rfl rfl), .inr (hS_144.cell 3 rfl rfl), .inr (hS_144.cell 3 rfl rfl), .inr (hS_144.cell 3 rfl rfl), trivial⟩ ?_
              have hS_152 := hS_144.drew
              refine wP [0, 2, 4, 6] rfl (by kernel_rfl) ?_
              refine wS (.agg #[.int .i64 r_61, .int .i64 i]) rfl rfl rfl (fun w hF => Y_loadF rfl (Try.isAgg33 w) (Try.sizeOf33 w) (by kernel_rfl) rfl ⟨hF 0 _ _ rfl, hF 1 _ _ rfl, trivial⟩) ?_
              refine wS (.agg #[.int .i64 r_61, .int .i64 i]) rfl rfl rfl (fun w hF => Y_loadF rfl (Try.isAgg33 w) (Try.sizeOf33 w) (by kernel_rfl) rfl ⟨hF 2 _ _ rfl, hF 3 _ _ rfl, trivial⟩) ?_
              refine wO rfl ?_
              have hS_153 := hS_152.pick 4 rfl
              change Sat _ _ (fa :: fp_147 :: H :: [(b_140, .cells #[.int .i64 r_134, .int .i64 band, .int .i64 4, .int .i64 (-1), .int .i64 0] 3 (0, 0))] :: [(b_67, .cells #[.int .i64 r_61, .int .i64 i] 33 (0, 0))] :: fb :: F) at hS_153
              refine sF #[.pointer (some ⟨p_32, 0, none⟩), .agg #[.int .i64 r_61, .int .i64 i], .int .i64 x_145] Try.call10 (Calls.mono (inj_push W _ _ _ _ _ hIa hS_153 (by omega) ⟨r_61, i⟩ x_145) ?_)
              rintro _ w_154 ⟨rfl, fp_156, hI_157, hS_155⟩
              refine ⟨_, rfl, ?_⟩
              change Sat _ _ (fp_156 :: fp_147 :: H :: [(b_140, .cells #[.int .i64 r_134, .int .i64 band, .int .i64 4, .int .i64 (-1), .int .i64 0] 3 (0, 0))] :: [(b_67, .cells #[.int .i64 r_61, .int .i64 i] 33 (0, 0))] :: fb :: F) at hS_155
              have hpl := push_len S ⟨r_61, i⟩ x_145
              refine nilO ⟨⟨.inl (by kernel_rfl), .inl (by kernel_rfl), .inr (hS_155.cell 4 rfl rfl), .inr (hS_155.cell 4 rfl rfl), trivial⟩, ?_⟩
              refine wO rfl ?_
              have hS_158 := hS_155.pick 5 rfl
              change Sat _ _ (fb :: fp_156 :: fp_147 :: H :: [(b_140, .cells #[.int .i64 r_134, .int .i64 band, .int .i64 4, .int .i64 (-1), .int .i64 0] 3 (0, 0))] :: [(b_67, .cells #[.int .i64 r_61, .int .i64 i] 33 (0, 0))] :: F) at hS_158
              refine sF #[.pointer (some ⟨p_37, 0, none⟩), .agg #[.int .i64 r_61, .int .i64 i], .int .i64 x_145] Try.call17 (Calls.mono (rnj_push W _ _ _ _ _ hIb hS_158 (by omega) ⟨r_61, i⟩ x_145) ?_)
              rintro _ w_159 ⟨rfl, fp_161, hI_162, hS_160⟩
              refine ⟨_, rfl, ?_⟩
              change Sat _ _ (fp_161 :: fp_156 :: fp_147 :: H :: [(b_140, .cells #[.int .i64 r_134, .int .i64 band, .int .i64 4, .int .i64 (-1), .int .i64 0] 3 (0, 0))] :: [(b_67, .cells #[.int .i64 r_61, .int .i64 i] 33 (0, 0))] :: F) at hS_160
              have hpl := push_len S ⟨r_61, i⟩ x_145
              refine nilO ⟨⟨.inl (by kernel_rfl), .inl (by kernel_rfl), .inl (by kernel_rfl), .inl (by kernel_rfl), trivial⟩, ?_⟩
              refine wP [8] rfl (by kernel_rfl) ?_
              refine wN ?_
              refine thenK_n <| ?_
              have hc_163 : ((S.pushCode x_145) : Int) = (S.pushCode x_145) := rfl
              refine cF (((S.pushCode x_145) : Int) != (S.pushCode x_145)) (bne_eq_false_iff_eq.2 hc_163) ?_
              refine skipE ?_
              refine blockK_n <| thenK_n <| ?_
              have hS_164 := hS_160.pick 3 rfl
              have hS_165 := hS_164.pick 3 rfl
              have hS_166 := hS_165.pick 2 rfl
              have hS_167 := hS_166.pick 3 rfl
              change Sat _ _ (fp_156 :: fp_161 :: fp_147 :: H :: [(b_140, .cells #[.int .i64 r_134, .int .i64 band, .int .i64 4, .int .i64 (-1), .int .i64 0] 3 (0, 0))] :: [(b_67, .cells #[.int .i64 r_61, .int .i64 i] 33 (0, 0))] :: F) at hS_167
              have hS_168 := hS_167.dropAt 4 rfl
              have hS_169 := hS_168.dropAt 4 rfl
              change Sat _ _ (fp_156 :: fp_161 :: fp_147 :: H :: F) at hS_169
              exact ⟨(S.push ⟨r_61, i⟩ x_145), fp_156, fp_161, fp_147, ⟨by kernel_rfl, by kernel_rfl, by kernel_rfl, by kernel_rfl, by kernel_rfl, trivial⟩, hS_169, hT_148, hI_157, hI_162, by omega⟩
        · rintro ρ w_170 ⟨S, fa, fb, ft, hA, hS_171, hT, hIa, hIb, hlen⟩
          refine cAnchor hA (fun ρ => ?_)
          clear hA
          refine seqE ?_
          refine seqE ?_
          refine regionE ?_
          refine p1 (by kernel_rfl) ?_
          refine nilO ?_
          refine thenK_n <| ?_
          refine blockE ?_
          have hS_172 := hS_171.pick 3 rfl
          have hS_173 := hS_172.pick 3 rfl
          have hS_174 := hS_173.pick 3 rfl
          have hS_175 := hS_174.pick 3 rfl
          change Sat _ _ (fa :: fb :: ft :: H :: F) at hS_175
          change Sat _ _ (fa :: fb :: ft :: H :: F) at hS_175
          refine loopE (γ := Int × Inj × Chunk × Chunk × Chunk) (fun ⟨n, S, fa, fb, ft⟩ ρ w => AllAt ρ [(2, .int .i64 band), (7, .pointer (some ⟨p_3, 0, none⟩)), (9, .pointer (some ⟨p_32, 0, none⟩)), (11, .pointer (some ⟨p_37, 0, none⟩)), (13, .int .i64 i), (20, .int .i64 n)] ∧ Sat W w (fa :: fb :: ft :: H :: F) ∧ TapeR H p_3 ft ∧ InjR p_32 S fa ∧ InjR2 p_37 S fb ∧ (-1 ≤ n ∧ n ≤ 5) ∧ (S.len : Int) ≤ i + 1) (fun ⟨n, S, fa, fb, ft⟩ => (5 - n).toNat) ((-1), S, fa, fb, ft) ⟨⟨by kernel_rfl, by kernel_rfl, by kernel_rfl, by kernel_rfl, by kernel_rfl, by kernel_rfl, trivial⟩, hS_175, hT, hIa, hIb, by omega, by omega⟩ ?_
          skip
          rintro ⟨n, S, fa, fb, ft⟩ ρ w_176 ⟨hA, hS_177, hT, hIa, hIb, hn, hlen⟩
          refine cAnchor hA (fun ρ => ?_)
          clear hA
          refine seqE ?_
          refine seqE ?_
          refine regionE ?_
          refine p2 (by kernel_rfl) ?_
          refine nilO ?_
          refine thenK_n <| ?_
          by_cases hc_178 : (n : Int) ≤ 4
          · refine cT (decide ((n : Int) ≤ 4)) (decide_eq_true hc_178) ?_
            refine skipE ?_
            refine thenK_n <| ?_
            refine seqE ?_
            refine blockE ?_
            refine seqE ?_
            refine regionE ?_
            refine p2 (by kernel_rfl) ?_
            change Sat _ _ (fa :: fb :: ft :: H :: F) at hS_177
            refine sF #[.pointer (some ⟨p_32, 0, none⟩), .int .i64 n] Try.call22 (Calls.mono (inj_list W _ _ _ _ _ hIa hS_177 (by omega) n) ?_)
            rintro _ w_179 ⟨a_181, cap_182, c_183, rfl, hO_184, hS_180⟩
            refine ⟨_, rfl, ?_⟩
            change Sat _ _ (c_183 :: fa :: fb :: ft :: H :: F) at hS_180
            refine p2 (by kernel_rfl) ?_
            have hS_185 := hS_180.pick 2 rfl
            change Sat _ _ (fb :: c_183 :: fa :: ft :: H :: F) at hS_185
            refine sF #[.pointer (some ⟨p_37, 0, none⟩), .int .i64 n] Try.call23 (Calls.mono (rnj_list W _ _ _ _ _ hIb hS_185 (by omega) n) ?_)
            rintro _ w_186 ⟨a_188, cap_189, c_190, rfl, hO_191, hS_187⟩
            refine ⟨_, rfl, ?_⟩
            change Sat _ _ (c_190 :: fb :: c_183 :: fa :: ft :: H :: F) at hS_187
            have hS_194 := hS_187.pick 0 rfl
            have hS_195 := hS_194.pick 2 rfl
            change Sat _ _ (c_183 :: c_190 :: fb :: fa :: ft :: H :: F) at hS_195
            have hA_196 := (hO_184.rdAt (cs := [c_183]) 0 rfl)
            have hB_197 := (hO_191.rdAt (cs := [c_190]) 0 rfl)
            refine sF #[.slice a_181 ((S.q n).length) cap_182, .slice a_188 ((S.q n).length) cap_189] Try.call21 (Calls.mono (same_ok W _ _ _ _ _ _ _ _ _ _ _ hA_196 hB_197 hS_195) ?_)
            rintro _ w_192 ⟨rfl, hS_193⟩
            refine ⟨_, rfl, ?_⟩
            refine p1 (by kernel_rfl) ?_
            refine nilO ?_
            refine thenK_n <| ?_
            refine condE_false (by kernel_rfl) ?_
            refine skipE ?_
            refine blockK_n <| thenK_n <| ?_
            refine regionE ?_
            refine p1 (by kernel_rfl) ?_
            refine sAdd n 1 ?_
            refine p1 (by kernel_rfl) ?_
            refine nilO ?_
            refine thenK_n <| ?_
            have hS_198 := hS_193.pick 5 rfl
            have hS_199 := hS_198.pick 5 rfl
            have hS_200 := hS_199.pick 4 rfl
            have hS_201 := hS_200.pick 5 rfl
            change Sat _ _ (fa :: fb :: ft :: H :: c_183 :: c_190 :: F) at hS_201
            have hS_202 := hS_201.dropAt 4 rfl
            have hS_203 := hS_202.dropAt 4 rfl
            change Sat _ _ (fa :: fb :: ft :: H :: F) at hS_203
            exact ⟨(n + 1, S, fa, fb, ft), by dsimp only; omega, ⟨by kernel_rfl, by kernel_rfl, by kernel_rfl, by kernel_rfl, by kernel_rfl, by kernel_rfl, trivial⟩, hS_203, hT, hIa, hIb, by omega, hlen⟩
          · refine cF (decide ((n : Int) ≤ 4)) (decide_eq_false hc_178) ?_
            refine exitE (thenK_x <| thenK_x <| blockK_x <| ?_)
            refine thenK_n <| ?_
            refine seqE ?_
            refine regionE ?_
            refine p1 (by kernel_rfl) ?_
            change Sat _ _ (fa :: fb :: ft :: H :: F) at hS_177
            refine sF #[.pointer (some ⟨p_32, 0, none⟩)] Try.call12 (Calls.mono (inj_len W _ _ _ _ _ hIa hS_177 (by omega)) ?_)
            rintro _ _ ⟨rfl, rfl⟩
            refine ⟨_, rfl, ?_⟩
            refine p1 (by kernel_rfl) ?_
            have hS_204 := hS_177.pick 1 rfl
            change Sat _ _ (fb :: fa :: ft :: H :: F) at hS_204
            refine sF #[.pointer (some ⟨p_37, 0, none⟩)] Try.call24 (Calls.mono (rnj_len W _ _ _ _ _ hIb hS_204 (by omega)) ?_)
            rintro _ _ ⟨rfl, rfl⟩
            refine ⟨_, rfl, ?_⟩
            refine p2 (by kernel_rfl) ?_
            have hc_205 : (((S.len : Nat) : Int) : Int) = ((S.len : Nat) : Int) := rfl
            refine sFix 133 ((((S.len : Nat) : Int) : Int) != ((S.len : Nat) : Int)) false (bne_eq_false_iff_eq.2 hc_205) ?_
            refine p2 (by kernel_rfl) ?_
            refine guardYes rfl ⟨_, rfl, rfl, by kernel_rfl⟩ ?_
            have hS_206 := hS_204.pick 1 rfl
            change Sat _ _ (fa :: fb :: ft :: H :: F) at hS_206
            refine sF #[.pointer (some ⟨p_32, 0, none⟩), .int .i64 band] Try.call22 (Calls.mono (inj_list W _ _ _ _ _ hIa hS_206 (by omega) band) ?_)
            rintro _ w_207 ⟨a_209, cap_210, c_211, rfl, hO_212, hS_208⟩
            refine ⟨_, rfl, ?_⟩
            change Sat _ _ (c_211 :: fa :: fb :: ft :: H :: F) at hS_208
            refine p3 (by kernel_rfl) ?_
            refine guardYes rfl ⟨_, rfl, rfl, by kernel_rfl⟩ ?_
            have hS_213 := hS_208.pick 2 rfl
            change Sat _ _ (fb :: c_211 :: fa :: ft :: H :: F) at hS_213
            refine sF #[.pointer (some ⟨p_37, 0, none⟩), .int .i64 band] Try.call23 (Calls.mono (rnj_list W _ _ _ _ _ hIb hS_213 (by omega) band) ?_)
            rintro _ w_214 ⟨a_216, cap_217, c_218, rfl, hO_219, hS_215⟩
            refine ⟨_, rfl, ?_⟩
            change Sat _ _ (c_218 :: fb :: c_211 :: fa :: ft :: H :: F) at hS_215
            refine p3 (by kernel_rfl) ?_
            refine nilO ?_
            refine thenK_n <| ?_
            have hc_220 : ((((S.q band).length : Nat) : Int) : Int) = (((S.q band).length : Nat) : Int) := rfl
            refine cF (((((S.q band).length : Nat) : Int) : Int) != (((S.q band).length : Nat) : Int)) (bne_eq_false_iff_eq.2 hc_220) ?_
            refine skipE ?_
            refine blockK_n <| thenK_n <| ?_
            refine regionE ?_
            refine p1 (by kernel_rfl) ?_
            refine sAdd i 1 ?_
            refine p1 (by kernel_rfl) ?_
            refine nilO ?_
            refine thenK_n <| ?_
            have hS_221 := hS_215.pick 5 rfl
            have hS_222 := hS_221.pick 5 rfl
            have hS_223 := hS_222.pick 3 rfl
            have hS_224 := hS_223.pick 5 rfl
            change Sat _ _ (fa :: fb :: ft :: H :: c_218 :: c_211 :: F) at hS_224
            have hS_225 := hS_224.dropAt 4 rfl
            have hS_226 := hS_225.dropAt 4 rfl
            change Sat _ _ (fa :: fb :: ft :: H :: F) at hS_226
            exact ⟨(i + 1, S, fa, fb, ft), by dsimp only; omega, ⟨by kernel_rfl, by kernel_rfl, by kernel_rfl, by kernel_rfl, by kernel_rfl, trivial⟩, hS_226, hT, hIa, hIb, by omega, by omega⟩
    · refine sFix 55 (decide ((i : Int) < 60)) false (decide_eq_false hc_47) ?_
      refine p3 (by kernel_rfl) ?_
      refine nilO ?_
      refine thenK_n <| ?_
      refine condE_false (by kernel_rfl) ?_
      refine exitE (thenK_x <| thenK_x <| blockK_x <| ?_)
      refine thenK_n <| ?_
      refine seqE ?_
      refine regionE ?_
      refine sF #[] Try.call13 (Calls.mono (sane_ok W _ _ hS_46) ?_)
      rintro _ w_227 ⟨rfl, hS_228⟩
      refine ⟨_, rfl, ?_⟩
      refine p1 (by kernel_rfl) ?_
      refine nilO ?_
      refine thenK_n <| ?_
      refine retE ?_
      refine retN (vs := [.bool true]) rfl (.cons (.tmp _ _ (by kernel_rfl)) .nil) <| ?_
      have hS_229 := hS_228.pick 3 rfl
      change Sat _ _ (H :: fa :: fb :: ft :: F) at hS_229
      have hS_230 := hS_229.dropAt 1 rfl
      have hS_231 := hS_230.dropAt 1 rfl
      have hS_232 := hS_231.dropAt 1 rfl
      exact ⟨rfl, hS_232⟩
  · refine sF #[.int .i64 x_25] Try.call7 (Calls.mono (inj_new_bad W _ _ x_25 hcap hS_18) ?_)
    rintro _ w_233 ⟨rfl, hS_234⟩
    refine ⟨_, rfl, ?_⟩
    refine p5 (by kernel_rfl) ?_
    refine nilO ?_
    refine thenK_n <| ?_
    refine seqE ?_
    refine regionE ?_
    refine p1 (by kernel_rfl) ?_
    refine sF #[.int .i64 x_25] Try.call14 (Calls.mono (rnj_new_bad W _ _ x_25 hcap hS_234) ?_)
    rintro _ w_235 ⟨rfl, hS_236⟩
    refine ⟨_, rfl, ?_⟩
    refine p5 (by kernel_rfl) ?_
    refine nilO ?_
    refine thenK_n <| ?_
    refine seqE ?_
    refine seqE ?_
    refine regionE ?_
    refine p10 (by kernel_rfl) ?_
    refine nilO ?_
    refine thenK_n <| ?_
    refine condE_false (by kernel_rfl) ?_
    refine skipE ?_
    refine thenK_n <| ?_
    refine seqE ?_
    refine seqE ?_
    refine regionE ?_
    refine p1 (by kernel_rfl) ?_
    refine nilO ?_
    refine thenK_n <| ?_
    refine blockE ?_
    have hS_237 := hS_236.pick 1 rfl
    have hS_238 := hS_237.pick 1 rfl
    change Sat _ _ (fp_21 :: H :: [(b_14, .cells #[.int .i64 capacity, .int .i64 r_8, .int .i64 r_12] 3 (0, 0))] :: F) at hS_238
    have hS_239 := hS_238.dropAt 2 rfl
    change Sat _ _ (fp_21 :: H :: F) at hS_239
    refine loopE (γ := Int × Chunk) (fun ⟨i, ft⟩ ρ w => AllAt ρ [(2, .int .i64 band), (7, .pointer (some ⟨p_3, 0, none⟩)), (9, .pointer none), (11, .pointer none), (13, .int .i64 i)] ∧ Sat W w (ft :: H :: F) ∧ TapeR H p_3 ft ∧ (0 ≤ i ∧ i ≤ 60)) (fun ⟨i, ft⟩ => (60 - i).toNat) (0, fp_21) ⟨⟨by kernel_rfl, by kernel_rfl, by kernel_rfl, by kernel_rfl, by kernel_rfl, trivial⟩, hS_239, hT_22, by omega⟩ ?_
    skip
    rintro ⟨i, ft⟩ ρ w_240 ⟨hA, hS_241, hT, hi⟩
    refine cAnchor hA (fun ρ => ?_)
    clear hA
    refine seqE ?_
    refine seqE ?_
    refine regionE ?_
    refine p3 (by kernel_rfl) ?_
    by_cases hc_242 : (i : Int) < 60
    · refine sFix 55 (decide ((i : Int) < 60)) true (decide_eq_true hc_242) ?_
      refine p1 (by kernel_rfl) ?_
      refine guardYes rfl ⟨_, rfl, rfl, by kernel_rfl⟩ ?_
      have hS_246 := hS_241.pick 1 rfl
      have hS_247 := hS_246.pick 1 rfl
      change Sat _ _ (ft :: H :: F) at hS_247
      refine sF #[.pointer (some ⟨p_3, 0, none⟩)] Try.call15 (Calls.mono (tape_left W _ _ _ _ _ hT hS_247) ?_)
      rintro _ w_243 ⟨bb_245, rfl, hS_244⟩
      refine ⟨_, rfl, ?_⟩
      change Sat _ _ (ft :: H :: F) at hS_244
      refine p1 (by kernel_rfl) ?_
      refine nilO ?_
      refine thenK_n <| ?_
      cases bb_245
      · refine condE_false (by kernel_rfl) ?_
        refine exitE (thenK_x <| thenK_x <| blockK_x <| ?_)
        refine thenK_n <| ?_
        refine seqE ?_
        refine regionE ?_
        refine sF #[] Try.call13 (Calls.mono (sane_ok W _ _ hS_244) ?_)
        rintro _ w_248 ⟨rfl, hS_249⟩
        refine ⟨_, rfl, ?_⟩
        refine p1 (by kernel_rfl) ?_
        refine nilO ?_
        refine thenK_n <| ?_
        refine retE ?_
        refine retN (vs := [.bool true]) rfl (.cons (.tmp _ _ (by kernel_rfl)) .nil) <| ?_
        have hS_250 := hS_249.pick 1 rfl
        change Sat _ _ (H :: ft :: F) at hS_250
        have hS_251 := hS_250.dropAt 1 rfl
        exact ⟨rfl, hS_251⟩
      · refine condE_true (by kernel_rfl) ?_
        refine skipE ?_
        refine thenK_n <| ?_
        refine seqE ?_
        refine blockE ?_
        refine seqE ?_
        refine regionE ?_
        refine p1 (by kernel_rfl) ?_
        have hS_258 := hS_244.pick 1 rfl
        have hS_259 := hS_258.pick 1 rfl
        change Sat _ _ (ft :: H :: F) at hS_259
        refine sF #[.pointer (some ⟨p_3, 0, none⟩), .int .i64 3] Try.call9 (Calls.mono (tape_next W _ _ _ _ _ hT hS_259 3 (by omega)) ?_)
        rintro _ w_252 ⟨r_254, rfl, hr_255, fp_256, hT_257, hS_253⟩
        refine ⟨_, rfl, ?_⟩
        change Sat _ _ (fp_256 :: H :: F) at hS_253
        refine p2 (by kernel_rfl) ?_
        refine sAlloc hS_253 Try.zeroValue33 ?_
        intro b_260 w_261 hS_262
        change Sat _ _ ([(b_260, .cells #[.int .i64 0, .int .i64 0] 33 (0, 0))] :: fp_256 :: H :: F) at hS_262
        refine sT hS_262 0 0 (.agg #[.int .i64 r_254, .int .i64 i]) [.int .i64 r_254, .int .i64 i] #[.int .i64 r_254, .int .i64 i] Try.sizeOf33 ?_
        intro w_263 hS_264
        change Sat _ _ ([(b_260, .cells #[.int .i64 r_254, .int .i64 i] 33 (0, 0))] :: fp_256 :: H :: F) at hS_264
        refine nilO ?_
        refine thenK_n <| ?_
        refine cutE (fun ρ w => ∃ (ft : Chunk), AllAt ρ [(2, .int .i64 band), (7, .pointer (some ⟨p_3, 0, none⟩)), (9, .pointer none), (11, .pointer none), (13, .int .i64 i)] ∧ Sat W w (ft :: H :: F) ∧ TapeR H p_3 ft) ?_ ?_
        · refine seqE ?_
          refine regionE ?_
          refine p1 (by kernel_rfl) ?_
          have hS_271 := hS_264.pick 2 rfl
          have hS_272 := hS_271.pick 2 rfl
          change Sat _ _ (fp_256 :: H :: [(b_260, .cells #[.int .i64 r_254, .int .i64 i] 33 (0, 0))] :: F) at hS_272
          refine sF #[.pointer (some ⟨p_3, 0, none⟩), .int .i64 8] Try.call9 (Calls.mono (tape_next W _ _ _ _ _ hT_257 hS_272 8 (by omega)) ?_)
          rintro _ w_265 ⟨r_267, rfl, hr_268, fp_269, hT_270, hS_266⟩
          refine ⟨_, rfl, ?_⟩
          change Sat _ _ (fp_269 :: H :: [(b_260, .cells #[.int .i64 r_254, .int .i64 i] 33 (0, 0))] :: F) at hS_266
          refine nilO ?_
          refine thenK_n <| ?_
          refine blockE ?_
          refine cutE (fun ρ w => ∃ (bc : Bool), AllAt ρ [(2, .int .i64 band), (7, .pointer (some ⟨p_3, 0, none⟩)), (9, .pointer none), (11, .pointer none), (13, .int .i64 i), (14, .pointer (some ⟨b_260, 0, none⟩)), (66, .int .i64 r_267), (85, .bool bc)] ∧ Sat W w (fp_269 :: H :: [(b_260, .cells #[.int .i64 r_254, .int .i64 i] 33 (0, 0))] :: F)) ?_ ?_
          · refine seqE ?_
            refine regionE ?_
            refine p2 (by kernel_rfl) ?_
            refine nilO ?_
            refine thenK_n <| ?_
            by_cases hc_273 : (r_267 : Int) = 0
            · refine cT ((r_267 : Int) == 0) (beq_iff_eq.2 hc_273) ?_
              refine skipE ?_
              refine thenK_n <| ?_
              exact ⟨((r_267 : Int) == 0), ⟨by kernel_rfl, by kernel_rfl, by kernel_rfl, by kernel_rfl, by kernel_rfl, by kernel_rfl, by kernel_rfl, by kernel_rfl, trivial⟩, hS_266⟩
            · refine cF ((r_267 : Int) == 0) (beq_eq_false_iff_ne.2 hc_273) ?_
              refine seqE ?_
              refine regionE ?_
              refine p2 (by kernel_rfl) ?_
              refine nilO ?_
              refine thenK_n <| ?_
              by_cases hc_274 : (r_267 : Int) = 1
              · refine cT ((r_267 : Int) == 1) (beq_iff_eq.2 hc_274) ?_
                refine skipE ?_
                refine thenK_n <| ?_
                exact ⟨((r_267 : Int) == 1), ⟨by kernel_rfl, by kernel_rfl, by kernel_rfl, by kernel_rfl, by kernel_rfl, by kernel_rfl, by kernel_rfl, by kernel_rfl, trivial⟩, hS_266⟩
              · refine cF ((r_267 : Int) == 1) (beq_eq_false_iff_ne.2 hc_274) ?_
                refine seqE ?_
                refine regionE ?_
                refine p2 (by kernel_rfl) ?_
                refine nilO ?_
                refine thenK_n <| ?_
                by_cases hc_275 : (r_267 : Int) = 2
                · refine cT ((r_267 : Int) == 2) (beq_iff_eq.2 hc_275) ?_
                  refine skipE ?_
                  refine thenK_n <| ?_
                  exact ⟨((r_267 : Int) == 2), ⟨by kernel_rfl, by kernel_rfl, by kernel_rfl, by kernel_rfl, by kernel_rfl, by kernel_rfl, by kernel_rfl, by kernel_rfl, trivial⟩, hS_266⟩
                · refine cF ((r_267 : Int) == 2) (beq_eq_false_iff_ne.2 hc_275) ?_
                  refine regionE ?_
                  refine p2 (by kernel_rfl) ?_
                  refine nilO ?_
                  refine thenK_n <| ?_
                  exact ⟨((r_267 : Int) == 3), ⟨by kernel_rfl, by kernel_rfl, by kernel_rfl, by kernel_rfl, by kernel_rfl, by kernel_rfl, by kernel_rfl, by kernel_rfl, trivial⟩, hS_266⟩
          · rintro ρ w_276 ⟨bc, hA, hS_277⟩
            refine cAnchor hA (fun ρ => ?_)
            clear hA
            cases bc
            · refine condE_false (by kernel_rfl) ?_
              refine seqE ?_
              refine regionE ?_
              refine p2 (by kernel_rfl) ?_
              refine nilO ?_
              refine thenK_n <| ?_
              by_cases hc_278 : (r_267 : Int) = 7
              · refine cT ((r_267 : Int) == 7) (beq_iff_eq.2 hc_278) ?_
                refine seqE ?_
                refine drawE [3, 7] [(2, ⟨b_260, 0, none⟩, .int .i64 r_254), (6, ⟨b_260, 0, none⟩, .int .i64 r_254)] [(true, [0, 1, 4, 5]), (true, [2]), (true, [6]), (false, [3]), (false, [7]), (true, [8])] rfl (by kernel_rfl) ⟨.inr (hS_277.cell 2 rfl rfl), .inr (hS_277.cell 2 rfl rfl), trivial⟩ ?_
                have hS_279 := hS_277.drew
                refine wP [0, 1, 4, 5] rfl (by kernel_rfl) ?_
                refine wS (.int .i64 r_254) rfl rfl rfl (fun w hF => Y_load rfl (Try.isAgg3 w) (by kernel_rfl) (hF 0 _ _ rfl)) ?_
                refine wS (.int .i64 r_254) rfl rfl rfl (fun w hF => Y_load rfl (Try.isAgg3 w) (by kernel_rfl) (hF 1 _ _ rfl)) ?_
                refine wO rfl ?_
                refine sF #[.pointer none, .int .i64 r_254] Try.call18 (Calls.mono (inj_remove_nil W _ _ _ hS_279) ?_)
                rintro _ w_280 ⟨rfl, hS_281⟩
                refine ⟨_, rfl, ?_⟩
                refine nilO ⟨⟨.inl (by kernel_rfl), .inr (hS_281.cell 2 rfl rfl), trivial⟩, ?_⟩
                refine wO rfl ?_
                refine sF #[.pointer none, .int .i64 r_254] Try.call19 (Calls.mono (rnj_remove_nil W _ _ _ hS_281) ?_)
                rintro _ w_282 ⟨rfl, hS_283⟩
                refine ⟨_, rfl, ?_⟩
                refine nilO ⟨⟨.inl (by kernel_rfl), .inl (by kernel_rfl), trivial⟩, ?_⟩
                refine wP [8] rfl (by kernel_rfl) ?_
                refine wN ?_
                refine thenK_n <| ?_
                refine condE_false (by kernel_rfl) ?_
                refine skipE ?_
                refine blockK_n <| thenK_n <| ?_
                have hS_284 := hS_283.pick 1 rfl
                have hS_285 := hS_284.pick 1 rfl
                change Sat _ _ (fp_269 :: H :: [(b_260, .cells #[.int .i64 r_254, .int .i64 i] 33 (0, 0))] :: F) at hS_285
                have hS_286 := hS_285.dropAt 2 rfl
                change Sat _ _ (fp_269 :: H :: F) at hS_286
                exact ⟨fp_269, ⟨by kernel_rfl, by kernel_rfl, by kernel_rfl, by kernel_rfl, by kernel_rfl, trivial⟩, hS_286, hT_270⟩
              · refine cF ((r_267 : Int) == 7) (beq_eq_false_iff_ne.2 hc_278) ?_
                refine seqE ?_
                refine regionE ?_
                refine p1 (by kernel_rfl) ?_
                refine sF #[.pointer none] Try.call11 (Calls.mono (inj_pop_nil W _ _ hS_277) ?_)
                rintro _ w_287 ⟨rfl, hS_288⟩
                refine ⟨_, rfl, ?_⟩
                refine p3 (by kernel_rfl) ?_
                refine sAlloc hS_288 Try.zeroValue33 ?_
                intro b_289 w_290 hS_291
                change Sat _ _ ([(b_289, .cells #[.int .i64 0, .int .i64 0] 33 (0, 0))] :: fp_269 :: H :: [(b_260, .cells #[.int .i64 r_254, .int .i64 i] 33 (0, 0))] :: F) at hS_291
                refine sT hS_291 0 0 (.agg #[.int .i64 0, .int .i64 0]) [.int .i64 0, .int .i64 0] #[.int .i64 0, .int .i64 0] Try.sizeOf33 ?_
                intro w_292 hS_293
                change Sat _ _ ([(b_289, .cells #[.int .i64 0, .int .i64 0] 33 (0, 0))] :: fp_269 :: H :: [(b_260, .cells #[.int .i64 r_254, .int .i64 i] 33 (0, 0))] :: F) at hS_293
                refine p1 (by kernel_rfl) ?_
                refine nilO ?_
                refine thenK_n <| ?_
                refine seqE ?_
                refine regionE ?_
                refine p1 (by kernel_rfl) ?_
                refine sF #[.pointer none] Try.call20 (Calls.mono (rnj_pop_nil W _ _ hS_293) ?_)
                rintro _ w_294 ⟨rfl, hS_295⟩
                refine ⟨_, rfl, ?_⟩
                refine p3 (by kernel_rfl) ?_
                refine sAlloc hS_295 Try.zeroValue33 ?_
                intro b_296 w_297 hS_298
                change Sat _ _ ([(b_296, .cells #[.int .i64 0, .int .i64 0] 33 (0, 0))] :: [(b_289, .cells #[.int .i64 0, .int .i64 0] 33 (0, 0))] :: fp_269 :: H :: [(b_260, .cells #[.int .i64 r_254, .int .i64 i] 33 (0, 0))] :: F) at hS_298
                refine sT hS_298 0 0 (.agg #[.int .i64 0, .int .i64 0]) [.int .i64 0, .int .i64 0] #[.int .i64 0, .int .i64 0] Try.sizeOf33 ?_
                intro w_299 hS_300
                change Sat _ _ ([(b_296, .cells #[.int .i64 0, .int .i64 0] 33 (0, 0))] :: [(b_289, .cells #[.int .i64 0, .int .i64 0] 33 (0, 0))] :: fp_269 :: H :: [(b_260, .cells #[.int .i64 r_254, .int .i64 i] 33 (0, 0))] :: F) at hS_300
                refine p1 (by kernel_rfl) ?_
                refine nilO ?_
                refine thenK_n <| ?_
                refine seqE ?_
                refine regionE ?_
                refine sLA hS_300 1 0 [.int .i64 0, .int .i64 0] (Try.isAgg33 _) (Try.sizeOf33 _) ?_
                refine sLA hS_300 0 0 [.int .i64 0, .int .i64 0] (Try.isAgg33 _) (Try.sizeOf33 _) ?_
                refine stepY (.bool (!(((0 : Int) == 0) && ((0 : Int) == 0)))) rfl rfl (Y_eqS rfl (by kernel_rfl) (by kernel_rfl) (eqvn33 _ 0 0 0 0)) ?_
                refine p1 (by kernel_rfl) ?_
                have hc_301 : (0 : Int) = 0 ∧ (0 : Int) = 0 := ⟨rfl, rfl⟩
                refine sFix 80 (!(((0 : Int) == 0) && ((0 : Int) == 0))) false (congrArg Bool.not (show (((0 : Int) == 0) && ((0 : Int) == 0)) = true from by simpa using hc_301)) ?_
                refine p4 (by kernel_rfl) ?_
                refine nilO ?_
                refine thenK_n <| ?_
                refine condE_false (by kernel_rfl) ?_
                refine skipE ?_
                refine blockK_n <| thenK_n <| ?_
                have hS_302 := hS_300.pick 3 rfl
                have hS_303 := hS_302.pick 3 rfl
                change Sat _ _ (fp_269 :: H :: [(b_296, .cells #[.int .i64 0, .int .i64 0] 33 (0, 0))] :: [(b_289, .cells #[.int .i64 0, .int .i64 0] 33 (0, 0))] :: [(b_260, .cells #[.int .i64 r_254, .int .i64 i] 33 (0, 0))] :: F) at hS_303
                have hS_304 := hS_303.dropAt 2 rfl
                have hS_305 := hS_304.dropAt 2 rfl
                have hS_306 := hS_305.dropAt 2 rfl
                change Sat _ _ (fp_269 :: H :: F) at hS_306
                exact ⟨fp_269, ⟨by kernel_rfl, by kernel_rfl, by kernel_rfl, by kernel_rfl, by kernel_rfl, trivial⟩, hS_306, hT_270⟩
            · refine condE_true (by kernel_rfl) ?_
              refine seqE ?_
              refine regionE ?_
              refine p2 (by kernel_rfl) ?_
              have hS_313 := hS_277.pick 1 rfl
              have hS_314 := hS_313.pick 1 rfl
              change Sat _ _ (fp_269 :: H :: [(b_260, .cells #[.int .i64 r_254, .int .i64 i] 33 (0, 0))] :: F) at hS_314
              refine sF #[.pointer (some ⟨p_3, 0, none⟩), .int .i64 4] Try.call9 (Calls.mono (tape_next W _ _ _ _ _ hT_270 hS_314 4 (by omega)) ?_)
              rintro _ w_307 ⟨r_309, rfl, hr_310, fp_311, hT_312, hS_308⟩
              refine ⟨_, rfl, ?_⟩
              change Sat _ _ (fp_311 :: H :: [(b_260, .cells #[.int .i64 r_254, .int .i64 i] 33 (0, 0))] :: F) at hS_308
              refine p1 (by kernel_rfl) ?_
              refine sBS hS_308 #[.int .i64 r_309, .int .i64 band, .int .i64 4, .int .i64 (-1), .int .i64 0] Try.runUnderlying22 Try.sizeOf3 Try.zeroValue3 ?_
              intro b_315 w_316 hS_317
              have hS_324 := hS_317.pick 0 rfl
              have hS_325 := hS_324.pick 2 rfl
              have hS_326 := hS_325.pick 2 rfl
              change Sat _ _ (fp_311 :: H :: [(b_315, .cells #[.int .i64 r_309, .int .i64 band, .int .i64 4, .int .i64 (-1), .int .i64 0] 3 (0, 0))] :: [(b_260, .cells #[.int .i64 r_254, .int .i64 i] 33 (0, 0))] :: F) at hS_326
              refine sF #[.pointer (some ⟨p_3, 0, none⟩), .slice (some ⟨b_315, 0, none⟩) 5 5] Try.call16 (Calls.mono (tape_pick W _ _ _ _ _ _ _ _ _ _ hT_312 (RdT.blk (cs := [[(b_315, .cells #[.int .i64 r_309, .int .i64 band, .int .i64 4, .int .i64 (-1), .int .i64 0] 3 (0, 0))]]) (enc := encI) (sz := 1) (xs := [r_309, band, 4, -1, 0]) (fun _ => rfl) 5 0 rfl rfl rfl (by omega)) (by omega) (by omega) hS_326) ?_)
              rintro _ w_318 ⟨x_320, rfl, hx_321, fp_322, hT_323, hS_319⟩
              refine ⟨_, rfl, ?_⟩
              skip
              change Sat _ _ (fp_322 :: H :: [(b_315, .cells #[.int .i64 r_309, .int .i64 band, .int .i64 4, .int .i64 (-1), .int .i64 0] 3 (0, 0))] :: [(b_260, .cells #[.int .i64 r_254, .int .i64 i] 33 (0, 0))] :: F) at hS_319
              refine p1 (by kernel_rfl) ?_
              refine nilO ?_
              refine thenK_n <| ?_
              refine seqE ?_
              refine drawE [3, 7] [(1, ⟨b_260, 0, none⟩, .int .i64 r_254), (1, ⟨b_260, 1, none⟩, .int .i64 i), (5, ⟨b_260, 0, none⟩, .int .i64 r_254), (5, ⟨b_260, 1, none⟩, .int .i64 i)] [(true, [0, 2, 4, 6]), (true, [1]), (true, [5]), (false, [3]), (false, [7]), (true, [8])] rfl (by kernel_rfl) ⟨.inr (hS_319.cell 3 rfl rfl), .inr (hS_319.cell 3 rfl rfl), .inr (hS_319.cell 3 rfl rfl), .inr (hS_319.cell 3 rfl rfl), trivial⟩ ?_
              have hS_327 := hS_319.drew
              refine wP [0, 2, 4, 6] rfl (by kernel_rfl) ?_
              refine wS (.agg #[.int .i64 r_254, .int .i64 i]) rfl rfl rfl (fun w hF => Y_loadF rfl (Try.isAgg33 w) (Try.sizeOf33 w) (by kernel_rfl) rfl ⟨hF 0 _ _ rfl, hF 1 _ _ rfl, trivial⟩) ?_
              refine wS (.agg #[.int .i64 r_254, .int .i64 i]) rfl rfl rfl (fun w hF => Y_loadF rfl (Try.isAgg33 w) (Try.sizeOf33 w) (by kernel_rfl) rfl ⟨hF 2 _ _ rfl, hF 3 _ _ rfl, trivial⟩) ?_
              refine wO rfl ?_
              refine sF #[.pointer none, .agg #[.int .i64 r_254, .int .i64 i], .int .i64 x_320] Try.call10 (Calls.mono (inj_push_nil W _ _ _ _ _ hS_327) ?_)
              rintro _ w_328 ⟨rfl, hS_329⟩
              refine ⟨_, rfl, ?_⟩
              refine nilO ⟨⟨.inl (by kernel_rfl), .inl (by kernel_rfl), .inr (hS_329.cell 3 rfl rfl), .inr (hS_329.cell 3 rfl rfl), trivial⟩, ?_⟩
              refine wO rfl ?_
              refine sF #[.pointer none, .agg #[.int .i64 r_254, .int .i64 i], .int .i64 x_320] Try.call17 (Calls.mono (rnj_push_nil W _ _ _ _ _ hS_329) ?_)
              rintro _ w_330 ⟨rfl, hS_331⟩
              refine ⟨_, rfl, ?_⟩
              refine nilO ⟨⟨.inl (by kernel_rfl), .inl (by kernel_rfl), .inl (by kernel_rfl), .inl (by kernel_rfl), trivial⟩, ?_⟩
              refine wP [8] rfl (by kernel_rfl) ?_
              refine wN ?_
              refine thenK_n <| ?_
              refine condE_false (by kernel_rfl) ?_
              refine skipE ?_
              refine blockK_n <| thenK_n <| ?_
              have hS_332 := hS_331.pick 1 rfl
              have hS_333 := hS_332.pick 1 rfl
              change Sat _ _ (fp_322 :: H :: [(b_315, .cells #[.int .i64 r_309, .int .i64 band, .int .i64 4, .int .i64 (-1), .int .i64 0] 3 (0, 0))] :: [(b_260, .cells #[.int .i64 r_254, .int .i64 i] 33 (0, 0))] :: F) at hS_333
              have hS_334 := hS_333.dropAt 2 rfl
              have hS_335 := hS_334.dropAt 2 rfl
              change Sat _ _ (fp_322 :: H :: F) at hS_335
              exact ⟨fp_322, ⟨by kernel_rfl, by kernel_rfl, by kernel_rfl, by kernel_rfl, by kernel_rfl, trivial⟩, hS_335, hT_323⟩
        · rintro ρ w_336 ⟨ft, hA, hS_337, hT⟩
          refine cAnchor hA (fun ρ => ?_)
          clear hA
          refine seqE ?_
          refine seqE ?_
          refine regionE ?_
          refine p1 (by kernel_rfl) ?_
          refine nilO ?_
          refine thenK_n <| ?_
          refine blockE ?_
          have hS_338 := hS_337.pick 1 rfl
          have hS_339 := hS_338.pick 1 rfl
          change Sat _ _ (ft :: H :: F) at hS_339
          change Sat _ _ (ft :: H :: F) at hS_339
          refine loopE (γ := Int × Chunk) (fun ⟨n, ft⟩ ρ w => AllAt ρ [(2, .int .i64 band), (7, .pointer (some ⟨p_3, 0, none⟩)), (9, .pointer none), (11, .pointer none), (13, .int .i64 i), (20, .int .i64 n)] ∧ Sat W w (ft :: H :: F) ∧ TapeR H p_3 ft ∧ (-1 ≤ n ∧ n ≤ 5)) (fun ⟨n, ft⟩ => (5 - n).toNat) ((-1), ft) ⟨⟨by kernel_rfl, by kernel_rfl, by kernel_rfl, by kernel_rfl, by kernel_rfl, by kernel_rfl, trivial⟩, hS_339, hT, by omega⟩ ?_
          skip
          rintro ⟨n, ft⟩ ρ w_340 ⟨hA, hS_341, hT, hn⟩
          refine cAnchor hA (fun ρ => ?_)
          clear hA
          refine seqE ?_
          refine seqE ?_
          refine regionE ?_
          refine p2 (by kernel_rfl) ?_
          refine nilO ?_
          refine thenK_n <| ?_
          by_cases hc_342 : (n : Int) ≤ 4
          · refine cT (decide ((n : Int) ≤ 4)) (decide_eq_true hc_342) ?_
            refine skipE ?_
            refine thenK_n <| ?_
            refine seqE ?_
            refine blockE ?_
            refine seqE ?_
            refine regionE ?_
            refine p2 (by kernel_rfl) ?_
            refine sF #[.pointer none, .int .i64 n] Try.call22 (Calls.mono (inj_list_nil W _ _ n hS_341) ?_)
            rintro _ w_343 ⟨rfl, hS_344⟩
            refine ⟨_, rfl, ?_⟩
            have hS_345 := hS_344.nilc
            have hR_346 := OwnT.nil (enc := encR) (E := 33) (sz := 2) (fun _ => rfl)
            refine p2 (by kernel_rfl) ?_
            refine sF #[.pointer none, .int .i64 n] Try.call23 (Calls.mono (rnj_list_nil W _ _ n hS_345) ?_)
            rintro _ w_347 ⟨rfl, hS_348⟩
            refine ⟨_, rfl, ?_⟩
            have hS_349 := hS_348.nilc
            have hR_350 := OwnT.nil (enc := encR) (E := 33) (sz := 2) (fun _ => rfl)
            change Sat _ _ ([] :: [] :: ft :: H :: F) at hS_349
            have hA_353 := (hR_350.rdAt (cs := [[]]) 0 rfl)
            refine sF #[.slice none 0 0, .slice none 0 0] Try.call21 (Calls.mono (same_ok W _ [] [] _ _ _ _ _ _ _ _ hA_353 hA_353 hS_349.nilc) ?_)
            rintro _ w_351 ⟨rfl, hS_352⟩
            have hS_354 := hS_352.tail
            refine ⟨_, rfl, ?_⟩
            refine p1 (by kernel_rfl) ?_
            refine nilO ?_
            refine thenK_n <| ?_
            refine condE_false (by kernel_rfl) ?_
            refine skipE ?_
            refine blockK_n <| thenK_n <| ?_
            refine regionE ?_
            refine p1 (by kernel_rfl) ?_
            refine sAdd n 1 ?_
            refine p1 (by kernel_rfl) ?_
            refine nilO ?_
            refine thenK_n <| ?_
            have hS_355 := hS_354.pick 3 rfl
            have hS_356 := hS_355.pick 3 rfl
            change Sat _ _ (ft :: H :: [] :: [] :: F) at hS_356
            have hS_357 := hS_356.dropAt 2 rfl
            have hS_358 := hS_357.dropAt 2 rfl
            change Sat _ _ (ft :: H :: F) at hS_358
            exact ⟨(n + 1, ft), by dsimp only; omega, ⟨by kernel_rfl, by kernel_rfl, by kernel_rfl, by kernel_rfl, by kernel_rfl, by kernel_rfl, trivial⟩, hS_358, hT, by omega⟩
          · refine cF (decide ((n : Int) ≤ 4)) (decide_eq_false hc_342) ?_
            refine exitE (thenK_x <| thenK_x <| blockK_x <| ?_)
            refine thenK_n <| ?_
            refine seqE ?_
            refine regionE ?_
            refine p1 (by kernel_rfl) ?_
            refine sF #[.pointer none] Try.call12 (Calls.mono (inj_len_nil _) ?_)
            rintro _ _ ⟨rfl, rfl⟩
            refine ⟨_, rfl, ?_⟩
            refine p1 (by kernel_rfl) ?_
            refine sF #[.pointer none] Try.call24 (Calls.mono (rnj_len_nil _) ?_)
            rintro _ _ ⟨rfl, rfl⟩
            refine ⟨_, rfl, ?_⟩
            refine p4 (by kernel_rfl) ?_
            refine guardYes rfl ⟨_, rfl, rfl, by kernel_rfl⟩ ?_
            refine sF #[.pointer none, .int .i64 band] Try.call22 (Calls.mono (inj_list_nil W _ _ band hS_341) ?_)
            rintro _ w_361 ⟨rfl, hS_362⟩
            refine ⟨_, rfl, ?_⟩
            have hS_363 := hS_362.nilc
            have hR_364 := OwnT.nil (enc := encR) (E := 33) (sz := 2) (fun _ => rfl)
            refine p3 (by kernel_rfl) ?_
            refine guardYes rfl ⟨_, rfl, rfl, by kernel_rfl⟩ ?_
            refine sF #[.pointer none, .int .i64 band] Try.call23 (Calls.mono (rnj_list_nil W _ _ band hS_363) ?_)
            rintro _ w_365 ⟨rfl, hS_366⟩
            refine ⟨_, rfl, ?_⟩
            have hS_367 := hS_366.nilc
            have hR_368 := OwnT.nil (enc := encR) (E := 33) (sz := 2) (fun _ => rfl)
            refine p3 (by kernel_rfl) ?_
            refine nilO ?_
            refine thenK_n <| ?_
            refine condE_false (by kernel_rfl) ?_
            refine skipE ?_
            refine blockK_n <| thenK_n <| ?_
            refine regionE ?_
            refine p1 (by kernel_rfl) ?_
            refine sAdd i 1 ?_
            refine p1 (by kernel_rfl) ?_
            refine nilO ?_
            refine thenK_n <| ?_
            have hS_369 := hS_367.pick 3 rfl
            have hS_370 := hS_369.pick 3 rfl
            change Sat _ _ (ft :: H :: [] :: [] :: F) at hS_370
            have hS_371 := hS_370.dropAt 2 rfl
            have hS_372 := hS_371.dropAt 2 rfl
            change Sat _ _ (ft :: H :: F) at hS_372
            exact ⟨(i + 1, ft), by dsimp only; omega, ⟨by kernel_rfl, by kernel_rfl, by kernel_rfl, by kernel_rfl, by kernel_rfl, trivial⟩, hS_372, hT, by omega⟩
    · refine sFix 55 (decide ((i : Int) < 60)) false (decide_eq_false hc_242) ?_
      refine p3 (by kernel_rfl) ?_
      refine nilO ?_
      refine thenK_n <| ?_
      refine condE_false (by kernel_rfl) ?_
      refine exitE (thenK_x <| thenK_x <| blockK_x <| ?_)
      refine thenK_n <| ?_
      refine seqE ?_
      refine regionE ?_
      refine sF #[] Try.call13 (Calls.mono (sane_ok W _ _ hS_241) ?_)
      rintro _ w_373 ⟨rfl, hS_374⟩
      refine ⟨_, rfl, ?_⟩
      refine p1 (by kernel_rfl) ?_
      refine nilO ?_
      refine thenK_n <| ?_
      refine retE ?_
      refine retN (vs := [.bool true]) rfl (.cons (.tmp _ _ (by kernel_rfl)) .nil) <| ?_
      have hS_375 := hS_374.pick 1 rfl
      change Sat _ _ (H :: ft :: F) at hS_375
      have hS_376 := hS_375.dropAt 1 rfl
      exact ⟨rfl, hS_376⟩
end Go.Proofs.Ytmbiiginpomjnaa
