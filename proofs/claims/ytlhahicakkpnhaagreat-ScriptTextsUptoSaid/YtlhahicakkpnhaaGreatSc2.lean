import Derived.Test.YtlhahicakkpnhaaGreatTape
namespace Go.Proofs.YtlhahicakkpnhaaGreat
open Go Go.E
set_option linter.unusedVariables false
set_option linter.unusedSimpArgs false
set_option linter.unnecessarySimpa false
set_option maxRecDepth 100000
set_option maxHeartbeats 2000000
variable {W w : World} {H : Chunk} {F : List Chunk}
theorem tg_entry {p : Nat} {a : Option Addr} {n k : Nat} {i : Int} {xs : List Int} (hR : RdT encI 1 [H] a n k xs) (hi : 0 ≤ i ∧ i ≤ n) (hS : Sat W w ([(p, .cells #[.slice a n k, .int .i64 i] 40 (0, 0))] :: H :: F)) (w0 : Int) (hw : 0 ≤ w0 ∧ w0 ≤ 1000) :
    Calls Tryz.prog 15 #[.pointer (some ⟨p, 0, none⟩), .int .i64 w0] w fun e w' => ∃ (e0 : Ent), e = .returned (.agg #[.int .i64 e0.kind, .int .i64 e0.worker, .int .i64 e0.arg]) ∧ ∃ i' : Int, (0 ≤ i' ∧ i' ≤ n) ∧ Sat W w' ([(p, .cells #[.slice a n k, .int .i64 i'] 40 (0, 0))] :: H :: F) := by
  have hle := hR.le
  refine callsA 57 Tryz.func15 rfl ?_
  refine seqE <| regionE ?_
  refine sAlloc hS Tryz.zeroValue37 ?_
  intro b_1 w_2 hS_3
  refine nilO <| thenK_n <| seqE <| regionE <| pu2 ?_
  have hS_4 := (hS_3.pick 1 rfl)
  refine cX Tryz.call13 (tape_next (RdT.flat (hR.up 1 (by rfl))) (by omega) (Sat.flat1 hS_4) w0 (by omega)) ?_
  rintro _ w_5 ⟨r_7, rfl, hr_8, i_9, hi_10, hS_6⟩
  have hS_11 := Sat.unflat1 hS_6
  refine pu2 ?_
  refine sAdd w0 2 ?_
  refine cX Tryz.call13 (tape_next (RdT.flat (hR.up 1 (by rfl))) (by omega) (Sat.flat1 hS_11) (w0 + 2) (by omega)) ?_
  rintro _ w_12 ⟨r_14, rfl, hr_15, i_16, hi_17, hS_13⟩
  have hS_18 := Sat.unflat1 hS_13
  refine pu1 ?_
  refine sAlloc hS_18 Tryz.zeroValue37 ?_
  intro b_19 w_20 hS_21
  refine sT hS_21 0 0 (.agg #[.int .i64 0, .int .i64 r_7, .int .i64 r_14]) [.int .i64 0, .int .i64 r_7, .int .i64 r_14] #[.int .i64 0, .int .i64 r_7, .int .i64 r_14] Tryz.sizeOf37 ?_
  intro w_22 hS_23
  refine nilO <| thenK_n <| seqE <| seqE <| regionE <| pu1 ?_
  have hS_24 := (hS_23.pick 1 rfl)
  refine cX Tryz.call13 (tape_next (RdT.flat (hR.up 2 (by rfl))) (by omega) (Sat.flat1 hS_24) 24 (by omega)) ?_
  rintro _ w_25 ⟨r_27, rfl, hr_28, i_29, hi_30, hS_26⟩
  have hS_31 := Sat.unflat1 hS_26
  refine nilO <| thenK_n <| blockE <| seqE <| regionE <| pu2 <| nilO <| thenK_n <| ?_
  refine cE r_27 0 (fun hc_32 => ?_) (fun hc_32 => ?_)
  · refine regionE <| pu1 ?_
    refine cX Tryz.call13 (tape_next (RdT.flat (hR.up 2 (by rfl))) (by omega) (Sat.flat1 hS_31) 4 (by omega)) ?_
    rintro _ w_33 ⟨r_35, rfl, hr_36, i_37, hi_38, hS_34⟩
    have hS_39 := Sat.unflat1 hS_34
    refine pu1 ?_
    refine sT hS_39 1 0 (.int .i64 2) [.int .i64 2] #[.int .i64 2, .int .i64 r_7, .int .i64 r_14] Tryz.sizeOf3 ?_
    intro w_40 hS_41
    refine pu1 ?_
    refine sT hS_41 1 2 (.int .i64 r_35) [.int .i64 r_35] #[.int .i64 2, .int .i64 r_7, .int .i64 r_35] Tryz.sizeOf3 ?_
    intro w_42 hS_43
    refine nilO <| blockK_n <| thenK_n <| seqE <| regionE ?_
    refine lA hS_43 1 0 3 (Tryz.isAgg37 _) (Tryz.sizeOf37 _) ?_
    refine sT hS_43 2 0 (.agg #[.int .i64 2, .int .i64 r_7, .int .i64 r_35]) [.int .i64 2, .int .i64 r_7, .int .i64 r_35] #[.int .i64 2, .int .i64 r_7, .int .i64 r_35] Tryz.sizeOf37 ?_
    intro w_44 hS_45
    refine nilO <| thenK_n <| retE <| retN (vs := [.agg #[.int .i64 2, .int .i64 r_7, .int .i64 r_35]]) rfl (.cons (.cell _ _ _ _ (by kernel_rfl) (lvA hS_45 2 0 [.int .i64 2, .int .i64 r_7, .int .i64 r_35] (Tryz.isAgg37 _) (Tryz.sizeOf37 _) rfl rfl rfl)) .nil) <| ?_
    have hS_46 := (hS_45.drops [1, 1])
    exact ⟨(⟨2, r_7, r_35⟩ : Ent), rfl, _, by omega, hS_46⟩
  refine seqE <| seqE <| regionE <| pu2 <| nilO <| thenK_n <| ?_
  refine cE r_27 1 (fun hc_47 => ?_) (fun hc_47 => ?_)
  · refine skipE <| thenK_n <| ?_
    refine cT _ (beq_iff_eq.2 hc_47) ?_
    refine regionE <| pu1 ?_
    refine sT hS_31 1 0 (.int .i64 3) [.int .i64 3] #[.int .i64 3, .int .i64 r_7, .int .i64 r_14] Tryz.sizeOf3 ?_
    intro w_48 hS_49
    refine nilO <| blockK_n <| thenK_n <| seqE <| regionE ?_
    refine lA hS_49 1 0 3 (Tryz.isAgg37 _) (Tryz.sizeOf37 _) ?_
    refine sT hS_49 2 0 (.agg #[.int .i64 3, .int .i64 r_7, .int .i64 r_14]) [.int .i64 3, .int .i64 r_7, .int .i64 r_14] #[.int .i64 3, .int .i64 r_7, .int .i64 r_14] Tryz.sizeOf37 ?_
    intro w_50 hS_51
    refine nilO <| thenK_n <| retE <| retN (vs := [.agg #[.int .i64 3, .int .i64 r_7, .int .i64 r_14]]) rfl (.cons (.cell _ _ _ _ (by kernel_rfl) (lvA hS_51 2 0 [.int .i64 3, .int .i64 r_7, .int .i64 r_14] (Tryz.isAgg37 _) (Tryz.sizeOf37 _) rfl rfl rfl)) .nil) <| ?_
    have hS_52 := (hS_51.drops [1, 1])
    exact ⟨(⟨3, r_7, r_14⟩ : Ent), rfl, _, by omega, hS_52⟩
  refine regionE <| pu2 <| nilO <| thenK_n <| ?_
  refine cE r_27 2 (fun hc_53 => ?_) (fun hc_53 => ?_)
  · refine regionE <| pu1 ?_
    refine sT hS_31 1 0 (.int .i64 3) [.int .i64 3] #[.int .i64 3, .int .i64 r_7, .int .i64 r_14] Tryz.sizeOf3 ?_
    intro w_54 hS_55
    refine nilO <| blockK_n <| thenK_n <| seqE <| regionE ?_
    refine lA hS_55 1 0 3 (Tryz.isAgg37 _) (Tryz.sizeOf37 _) ?_
    refine sT hS_55 2 0 (.agg #[.int .i64 3, .int .i64 r_7, .int .i64 r_14]) [.int .i64 3, .int .i64 r_7, .int .i64 r_14] #[.int .i64 3, .int .i64 r_7, .int .i64 r_14] Tryz.sizeOf37 ?_
    intro w_56 hS_57
    refine nilO <| thenK_n <| retE <| retN (vs := [.agg #[.int .i64 3, .int .i64 r_7, .int .i64 r_14]]) rfl (.cons (.cell _ _ _ _ (by kernel_rfl) (lvA hS_57 2 0 [.int .i64 3, .int .i64 r_7, .int .i64 r_14] (Tryz.isAgg37 _) (Tryz.sizeOf37 _) rfl rfl rfl)) .nil) <| ?_
    have hS_58 := (hS_57.drops [1, 1])
    exact ⟨(⟨3, r_7, r_14⟩ : Ent), rfl, _, by omega, hS_58⟩
  refine seqE <| seqE <| regionE <| pu2 <| nilO <| thenK_n <| ?_
  refine cE r_27 3 (fun hc_59 => ?_) (fun hc_59 => ?_)
  · refine skipE <| thenK_n <| ?_
    refine cT _ (beq_iff_eq.2 hc_59) ?_
    refine regionE <| pu1 ?_
    refine sT hS_31 1 0 (.int .i64 4) [.int .i64 4] #[.int .i64 4, .int .i64 r_7, .int .i64 r_14] Tryz.sizeOf3 ?_
    intro w_60 hS_61
    refine nilO <| blockK_n <| thenK_n <| seqE <| regionE ?_
    refine lA hS_61 1 0 3 (Tryz.isAgg37 _) (Tryz.sizeOf37 _) ?_
    refine sT hS_61 2 0 (.agg #[.int .i64 4, .int .i64 r_7, .int .i64 r_14]) [.int .i64 4, .int .i64 r_7, .int .i64 r_14] #[.int .i64 4, .int .i64 r_7, .int .i64 r_14] Tryz.sizeOf37 ?_
    intro w_62 hS_63
    refine nilO <| thenK_n <| retE <| retN (vs := [.agg #[.int .i64 4, .int .i64 r_7, .int .i64 r_14]]) rfl (.cons (.cell _ _ _ _ (by kernel_rfl) (lvA hS_63 2 0 [.int .i64 4, .int .i64 r_7, .int .i64 r_14] (Tryz.isAgg37 _) (Tryz.sizeOf37 _) rfl rfl rfl)) .nil) <| ?_
    have hS_64 := (hS_63.drops [1, 1])
    exact ⟨(⟨4, r_7, r_14⟩ : Ent), rfl, _, by omega, hS_64⟩
  refine seqE <| regionE <| pu2 <| nilO <| thenK_n <| ?_
  refine cE r_27 4 (fun hc_65 => ?_) (fun hc_65 => ?_)
  · refine skipE <| thenK_n <| ?_
    refine cT _ (beq_iff_eq.2 hc_65) ?_
    refine regionE <| pu1 ?_
    refine sT hS_31 1 0 (.int .i64 4) [.int .i64 4] #[.int .i64 4, .int .i64 r_7, .int .i64 r_14] Tryz.sizeOf3 ?_
    intro w_66 hS_67
    refine nilO <| blockK_n <| thenK_n <| seqE <| regionE ?_
    refine lA hS_67 1 0 3 (Tryz.isAgg37 _) (Tryz.sizeOf37 _) ?_
    refine sT hS_67 2 0 (.agg #[.int .i64 4, .int .i64 r_7, .int .i64 r_14]) [.int .i64 4, .int .i64 r_7, .int .i64 r_14] #[.int .i64 4, .int .i64 r_7, .int .i64 r_14] Tryz.sizeOf37 ?_
    intro w_68 hS_69
    refine nilO <| thenK_n <| retE <| retN (vs := [.agg #[.int .i64 4, .int .i64 r_7, .int .i64 r_14]]) rfl (.cons (.cell _ _ _ _ (by kernel_rfl) (lvA hS_69 2 0 [.int .i64 4, .int .i64 r_7, .int .i64 r_14] (Tryz.isAgg37 _) (Tryz.sizeOf37 _) rfl rfl rfl)) .nil) <| ?_
    have hS_70 := (hS_69.drops [1, 1])
    exact ⟨(⟨4, r_7, r_14⟩ : Ent), rfl, _, by omega, hS_70⟩
  refine regionE <| pu2 <| nilO <| thenK_n <| ?_
  refine cE r_27 5 (fun hc_71 => ?_) (fun hc_71 => ?_)
  · refine regionE <| pu1 ?_
    refine sT hS_31 1 0 (.int .i64 4) [.int .i64 4] #[.int .i64 4, .int .i64 r_7, .int .i64 r_14] Tryz.sizeOf3 ?_
    intro w_72 hS_73
    refine nilO <| blockK_n <| thenK_n <| seqE <| regionE ?_
    refine lA hS_73 1 0 3 (Tryz.isAgg37 _) (Tryz.sizeOf37 _) ?_
    refine sT hS_73 2 0 (.agg #[.int .i64 4, .int .i64 r_7, .int .i64 r_14]) [.int .i64 4, .int .i64 r_7, .int .i64 r_14] #[.int .i64 4, .int .i64 r_7, .int .i64 r_14] Tryz.sizeOf37 ?_
    intro w_74 hS_75
    refine nilO <| thenK_n <| retE <| retN (vs := [.agg #[.int .i64 4, .int .i64 r_7, .int .i64 r_14]]) rfl (.cons (.cell _ _ _ _ (by kernel_rfl) (lvA hS_75 2 0 [.int .i64 4, .int .i64 r_7, .int .i64 r_14] (Tryz.isAgg37 _) (Tryz.sizeOf37 _) rfl rfl rfl)) .nil) <| ?_
    have hS_76 := (hS_75.drops [1, 1])
    exact ⟨(⟨4, r_7, r_14⟩ : Ent), rfl, _, by omega, hS_76⟩
  refine seqE <| regionE <| pu2 <| nilO <| thenK_n <| ?_
  refine cE r_27 6 (fun hc_77 => ?_) (fun hc_77 => ?_)
  · refine regionE <| pu1 ?_
    refine cX Tryz.call13 (tape_next (RdT.flat (hR.up 2 (by rfl))) (by omega) (Sat.flat1 hS_31) 5 (by omega)) ?_
    rintro _ w_78 ⟨r_80, rfl, hr_81, i_82, hi_83, hS_79⟩
    have hS_84 := Sat.unflat1 hS_79
    refine pu1 ?_
    refine sT hS_84 1 0 (.int .i64 5) [.int .i64 5] #[.int .i64 5, .int .i64 r_7, .int .i64 r_14] Tryz.sizeOf3 ?_
    intro w_85 hS_86
    refine pu1 ?_
    refine sT hS_86 1 2 (.int .i64 r_80) [.int .i64 r_80] #[.int .i64 5, .int .i64 r_7, .int .i64 r_80] Tryz.sizeOf3 ?_
    intro w_87 hS_88
    refine nilO <| blockK_n <| thenK_n <| seqE <| regionE ?_
    refine lA hS_88 1 0 3 (Tryz.isAgg37 _) (Tryz.sizeOf37 _) ?_
    refine sT hS_88 2 0 (.agg #[.int .i64 5, .int .i64 r_7, .int .i64 r_80]) [.int .i64 5, .int .i64 r_7, .int .i64 r_80] #[.int .i64 5, .int .i64 r_7, .int .i64 r_80] Tryz.sizeOf37 ?_
    intro w_89 hS_90
    refine nilO <| thenK_n <| retE <| retN (vs := [.agg #[.int .i64 5, .int .i64 r_7, .int .i64 r_80]]) rfl (.cons (.cell _ _ _ _ (by kernel_rfl) (lvA hS_90 2 0 [.int .i64 5, .int .i64 r_7, .int .i64 r_80] (Tryz.isAgg37 _) (Tryz.sizeOf37 _) rfl rfl rfl)) .nil) <| ?_
    have hS_91 := (hS_90.drops [1, 1])
    exact ⟨(⟨5, r_7, r_80⟩ : Ent), rfl, _, by omega, hS_91⟩
  refine seqE <| regionE <| pu2 <| nilO <| thenK_n <| ?_
  refine cE r_27 7 (fun hc_92 => ?_) (fun hc_92 => ?_)
  · refine regionE <| pu1 ?_
    refine cX Tryz.call13 (tape_next (RdT.flat (hR.up 2 (by rfl))) (by omega) (Sat.flat1 hS_31) 5 (by omega)) ?_
    rintro _ w_93 ⟨r_95, rfl, hr_96, i_97, hi_98, hS_94⟩
    have hS_99 := Sat.unflat1 hS_94
    refine pu1 ?_
    refine sT hS_99 1 0 (.int .i64 6) [.int .i64 6] #[.int .i64 6, .int .i64 r_7, .int .i64 r_14] Tryz.sizeOf3 ?_
    intro w_100 hS_101
    refine pu1 ?_
    refine sT hS_101 1 2 (.int .i64 r_95) [.int .i64 r_95] #[.int .i64 6, .int .i64 r_7, .int .i64 r_95] Tryz.sizeOf3 ?_
    intro w_102 hS_103
    refine nilO <| blockK_n <| thenK_n <| seqE <| regionE ?_
    refine lA hS_103 1 0 3 (Tryz.isAgg37 _) (Tryz.sizeOf37 _) ?_
    refine sT hS_103 2 0 (.agg #[.int .i64 6, .int .i64 r_7, .int .i64 r_95]) [.int .i64 6, .int .i64 r_7, .int .i64 r_95] #[.int .i64 6, .int .i64 r_7, .int .i64 r_95] Tryz.sizeOf37 ?_
    intro w_104 hS_105
    refine nilO <| thenK_n <| retE <| retN (vs := [.agg #[.int .i64 6, .int .i64 r_7, .int .i64 r_95]]) rfl (.cons (.cell _ _ _ _ (by kernel_rfl) (lvA hS_105 2 0 [.int .i64 6, .int .i64 r_7, .int .i64 r_95] (Tryz.isAgg37 _) (Tryz.sizeOf37 _) rfl rfl rfl)) .nil) <| ?_
    have hS_106 := (hS_105.drops [1, 1])
    exact ⟨(⟨6, r_7, r_95⟩ : Ent), rfl, _, by omega, hS_106⟩
  refine seqE <| regionE <| pu2 <| nilO <| thenK_n <| ?_
  refine cE r_27 8 (fun hc_107 => ?_) (fun hc_107 => ?_)
  · refine regionE <| pu1 ?_
    refine cX Tryz.call13 (tape_next (RdT.flat (hR.up 2 (by rfl))) (by omega) (Sat.flat1 hS_31) 4 (by omega)) ?_
    rintro _ w_108 ⟨r_110, rfl, hr_111, i_112, hi_113, hS_109⟩
    have hS_114 := Sat.unflat1 hS_109
    refine pu1 ?_
    refine sT hS_114 1 0 (.int .i64 1) [.int .i64 1] #[.int .i64 1, .int .i64 r_7, .int .i64 r_14] Tryz.sizeOf3 ?_
    intro w_115 hS_116
    refine pu1 ?_
    refine sT hS_116 1 2 (.int .i64 r_110) [.int .i64 r_110] #[.int .i64 1, .int .i64 r_7, .int .i64 r_110] Tryz.sizeOf3 ?_
    intro w_117 hS_118
    refine nilO <| blockK_n <| thenK_n <| seqE <| regionE ?_
    refine lA hS_118 1 0 3 (Tryz.isAgg37 _) (Tryz.sizeOf37 _) ?_
    refine sT hS_118 2 0 (.agg #[.int .i64 1, .int .i64 r_7, .int .i64 r_110]) [.int .i64 1, .int .i64 r_7, .int .i64 r_110] #[.int .i64 1, .int .i64 r_7, .int .i64 r_110] Tryz.sizeOf37 ?_
    intro w_119 hS_120
    refine nilO <| thenK_n <| retE <| retN (vs := [.agg #[.int .i64 1, .int .i64 r_7, .int .i64 r_110]]) rfl (.cons (.cell _ _ _ _ (by kernel_rfl) (lvA hS_120 2 0 [.int .i64 1, .int .i64 r_7, .int .i64 r_110] (Tryz.isAgg37 _) (Tryz.sizeOf37 _) rfl rfl rfl)) .nil) <| ?_
    have hS_121 := (hS_120.drops [1, 1])
    exact ⟨(⟨1, r_7, r_110⟩ : Ent), rfl, _, by omega, hS_121⟩
  refine seqE <| regionE <| pu2 <| nilO <| thenK_n <| ?_
  refine cE r_27 9 (fun hc_122 => ?_) (fun hc_122 => ?_)
  rotate_left
  · refine skipE <| blockK_n <| thenK_n <| seqE <| regionE ?_
    refine lA hS_31 1 0 3 (Tryz.isAgg37 _) (Tryz.sizeOf37 _) ?_
    refine sT hS_31 2 0 (.agg #[.int .i64 0, .int .i64 r_7, .int .i64 r_14]) [.int .i64 0, .int .i64 r_7, .int .i64 r_14] #[.int .i64 0, .int .i64 r_7, .int .i64 r_14] Tryz.sizeOf37 ?_
    intro w_140 hS_141
    refine nilO <| thenK_n <| retE <| retN (vs := [.agg #[.int .i64 0, .int .i64 r_7, .int .i64 r_14]]) rfl (.cons (.cell _ _ _ _ (by kernel_rfl) (lvA hS_141 2 0 [.int .i64 0, .int .i64 r_7, .int .i64 r_14] (Tryz.isAgg37 _) (Tryz.sizeOf37 _) rfl rfl rfl)) .nil) <| ?_
    have hS_142 := (hS_141.drops [1, 1])
    exact ⟨(⟨0, r_7, r_14⟩ : Ent), rfl, _, by omega, hS_142⟩
  refine regionE <| pu2 ?_
  refine sBS hS_31 #[.int .i64 w0, .int .i64 (-1), .int .i64 200] Tryz.runUnderlying22 Tryz.sizeOf3 Tryz.zeroValue3 ?_
  intro b_123 w_124 hS_125
  have hS_126 := (hS_125.pick 1 rfl)
  refine cX Tryz.call18 (tape_pick (RdT.flat (hR.up 3 (by rfl))) (by omega) (Sat.flat1 hS_126) (RdT.flat (RdT.blk (enc := encI) (sz := 1) (xs := [w0, -1, 200]) (fun _ => (by rfl)) 3 0 rfl rfl rfl (by omega))) (by omega) (by omega)) ?_
  rintro _ w_127 ⟨x_129, rfl, hx_130, i_131, hi_132, hS_128⟩
  have hS_133 := Sat.unflat1 hS_128
  have hx_134 : (x_129 : Int) = w0 ∨ (x_129 : Int) = (-1) ∨ (x_129 : Int) = 200 := by simpa using hx_130
  refine pu1 ?_
  refine sT hS_133 2 1 (.int .i64 x_129) [.int .i64 x_129] #[.int .i64 0, .int .i64 x_129, .int .i64 r_14] Tryz.sizeOf3 ?_
  intro w_135 hS_136
  refine nilO <| blockK_n <| thenK_n <| seqE <| regionE ?_
  refine lA hS_136 2 0 3 (Tryz.isAgg37 _) (Tryz.sizeOf37 _) ?_
  refine sT hS_136 3 0 (.agg #[.int .i64 0, .int .i64 x_129, .int .i64 r_14]) [.int .i64 0, .int .i64 x_129, .int .i64 r_14] #[.int .i64 0, .int .i64 x_129, .int .i64 r_14] Tryz.sizeOf37 ?_
  intro w_137 hS_138
  refine nilO <| thenK_n <| retE <| retN (vs := [.agg #[.int .i64 0, .int .i64 x_129, .int .i64 r_14]]) rfl (.cons (.cell _ _ _ _ (by kernel_rfl) (lvA hS_138 3 0 [.int .i64 0, .int .i64 x_129, .int .i64 r_14] (Tryz.isAgg37 _) (Tryz.sizeOf37 _) rfl rfl rfl)) .nil) <| ?_
  have hS_139 := (hS_138.drops [1, 1, 1])
  exact ⟨(⟨0, x_129, r_14⟩ : Ent), rfl, _, by omega, hS_139⟩
theorem tg_script {p : Nat} {a : Option Addr} {n k : Nat} {i : Int} {xs : List Int} (hR : RdT encI 1 [H] a n k xs) (hi : 0 ≤ i ∧ i ≤ n) (hS : Sat W w ([(p, .cells #[.slice a n k, .int .i64 i] 40 (0, 0))] :: H :: F)) (w0 : Int) (m0 : Int) (hw : 0 ≤ w0 ∧ w0 ≤ 1000) (hm : m0 ≤ 1000) :
    Calls Tryz.prog 6 #[.pointer (some ⟨p, 0, none⟩), .int .i64 w0, .int .i64 m0] w fun e w' => ∃ (az : Option Addr) (nz : Nat) (kz : Nat) (zs : List Ent) (G : Chunk), e = .returned (.slice az nz kz) ∧ (RdT encEnt 3 [G] az nz kz zs) ∧ ∃ i' : Int, (0 ≤ i' ∧ i' ≤ n) ∧ Sat W w' ([(p, .cells #[.slice a n k, .int .i64 i'] 40 (0, 0))] :: G :: H :: F) := by
  have hle := hR.le
  refine callsA 27 Tryz.func6 rfl ?_
  refine seqE <| regionE <| pu1 <| nilO <| thenK_n <| seqE <| regionE <| pu1 ?_
  refine sBS hS #[.int .i64 1, .int .i64 0, .int .i64 0] Tryz.runUnderlying24 Tryz.sizeOf37 Tryz.zeroValue37 ?_
  intro b_1 w_2 hS_3
  refine pu1 <| nilO <| thenK_n <| seqE <| seqE <| regionE <| pu1 <| nilO <| thenK_n <| blockE ?_
  have hO_4 := OwnT.blk (enc := encEnt) (sz := 3) (b := b_1) (c := #[.int .i64 1, .int .i64 0, .int .i64 0]) (E := 37) (xs := [(⟨1, 0, 0⟩ : Ent)]) (fun _ => rfl) 1 rfl rfl rfl (by omega)
  refine loopA (γ := Nat × Int × (List Ent) × (Option Addr) × Nat × Nat × Chunk) (fun ⟨i, iti, zs, azs, nzs, kzs, czs⟩ => [(0, .pointer (some ⟨p, 0, none⟩)), (1, .int .i64 w0), (2, .int .i64 m0), (8, .int .i64 ((i : Nat) : Int)), (7, .slice azs nzs kzs)]) (fun ⟨i, iti, zs, azs, nzs, kzs, czs⟩ w => Sat W w (czs :: [(p, .cells #[.slice a n k, .int .i64 iti] 40 (0, 0))] :: H :: F) ∧ i ≤ m0.toNat ∧ (zs.length = i + 1) ∧ (0 ≤ iti ∧ iti ≤ n) ∧ OwnT encEnt 37 3 azs nzs kzs zs czs) (fun ⟨i, iti, zs, azs, nzs, kzs, czs⟩ => m0.toNat - i) (0, i, [(⟨1, 0, 0⟩ : Ent)], (some ⟨b_1, 0, none⟩), 1, 1, [(b_1, .cells #[.int .i64 1, .int .i64 0, .int .i64 0] 37 (0, 0))]) ⟨hS_3, by omega, by rfl, by omega, hO_4⟩ ?_
  rintro ⟨i, iti, zs, azs, nzs, kzs, czs⟩ ρ w_5 ⟨hS_6, hi, hzl, hiti, hOzs⟩
  have hn_zs := hOzs.len; have hl_zs := hOzs.le
  refine seqE <| seqE <| regionE <| pu4 ?_
  refine sD 14 (((i : Nat) : Int) < m0) (fun hc_7 => ?_) (fun hc_7 => ?_)
  rotate_left
  · refine pu3 <| nilO <| thenK_n <| cFf <| exitE <| thenK_x <| thenK_x <| blockK_x <| thenK_n <| seqE <| regionE <| pu2 <| nilO <| thenK_n <| retE <| retT [.slice azs nzs kzs] <| ?_
    have hS_29 := (hS_6.pick 1 rfl)
    exact ⟨_, _, _, zs, czs, rfl, (hOzs.rdAt (cs := [czs]) 0 rfl), _, by omega, hS_29⟩
  refine pu1 <| gY ?_
  have hS_8 := (hS_6.pick 1 rfl)
  refine cX Tryz.call14 (tape_left (RdT.flat (hR.up 1 (by rfl))) (by omega) (Sat.flat1 hS_8)) ?_
  rintro _ w_9 ⟨v_11, rfl, hS_10⟩
  have hS_12 := Sat.unflat1 hS_10
  refine pu1 <| nilO <| thenK_n <| ?_
  cases v_11
  · refine cFf <| exitE <| thenK_x <| thenK_x <| blockK_x <| thenK_n <| seqE <| regionE <| pu2 <| nilO <| thenK_n <| retE <| retT [.slice azs nzs kzs] <| ?_
    exact ⟨_, _, _, zs, czs, rfl, (hOzs.rdAt (cs := [czs]) 0 rfl), _, by omega, hS_12⟩
  refine cTt <| skipE <| thenK_n <| seqE <| blockE <| regionE <| pu3 ?_
  refine cX Tryz.call15 (tg_entry (RdT.flat (hR.up 1 (by rfl))) (by omega) (Sat.flat1 hS_12) w0 (by omega)) ?_
  rintro _ w_13 ⟨e0_15, rfl, i_16, hi_17, hS_14⟩
  have hS_18 := Sat.unflat1 hS_14
  refine sBS hS_18 #[.int .i64 e0_15.kind, .int .i64 e0_15.worker, .int .i64 e0_15.arg] Tryz.runUnderlying24 Tryz.sizeOf37 Tryz.zeroValue37 ?_
  intro b_19 w_20 hS_21
  refine sApp (nb := 24) hS_21 hOzs 2 (RdT.blk (enc := encEnt) (sz := 3) (xs := [(⟨e0_15.kind, e0_15.worker, e0_15.arg⟩ : Ent)]) (fun _ => rfl) 1 0 rfl rfl rfl (by omega)) Tryz.underlying24 (i := Tryz.t37) (by kernel_rfl) (fun _ => rfl) ?_
  intro a_22 cap_23 c_24 w_25 hO_26 hS_27
  refine pu1 <| nilO <| blockK_n <| thenK_n <| regionE <| pu1 ?_
  refine sAdd ((i : Nat) : Int) 1 ?_
  refine pu1 <| nilO <| thenK_n <| ?_
  have hS_28 := ((hS_27.pick 2 rfl).dropAt 1 rfl)
  exact ⟨(i + 1, i_16, (zs ++ [(⟨e0_15.kind, e0_15.worker, e0_15.arg⟩ : Ent)]), a_22, (nzs + 1), cap_23, c_24), by first | omega | (dsimp only; omega), alA, hS_28, by omega, (by simp; omega), by omega, hO_26⟩
end Go.Proofs.YtlhahicakkpnhaaGreat
