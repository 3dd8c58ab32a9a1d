import Derived.Test.YtlhahicakkpnhaaGreatSc3
namespace Go.Proofs.YtlhahicakkpnhaaGreat
open Go Go.E
set_option linter.unusedVariables false
set_option linter.unusedSimpArgs false
set_option linter.unnecessarySimpa false
set_option maxRecDepth 100000
set_option maxHeartbeats 2000000
variable {W w : World} {H : Chunk} {F : List Chunk}
theorem l30_texts (W w : World) (H : Chunk) (F : List Chunk) (t : Option Addr) (nt kt : Nat) (xt : List Int) (b : Option Addr) (nb kb : Nat) (xb : List Int) (l : Option Addr) (nl kl : Nat) (xl : List Ent) (ht : RdT encI 1 [H] t nt kt xt) (hb : RdT encB 1 [H] b nb kb xb) (bdb : Bytes xb) (hl : RdT encEnt 3 [H] l nl kl xl) (ut : nt ≤ 1048576) (ub : nb ≤ 1048576) (ul : nl ≤ 1048576) (hS : Sat W w (H :: F)) :
    Calls Tryz.prog 3 #[.slice t nt kt, .slice b nb kb, .slice l nl kl] w fun e w' => e = .returned (.bool true) ∧ Sat W w' (H :: F) := by
  have hlt := ht.le
  have hlb := hb.le
  have hll := hl.le; have hnl := hl.len
  refine callsA 80 Tryz.func3 rfl ?_
  refine seqE <| regionE <| pu1 <| nilO <| thenK_n <| seqE <| regionE <| pu1 ?_
  refine cX Tryz.call5 (tape_new t nt kt hS) ?_
  rintro _ w_1 ⟨p_3, rfl, hS_2⟩
  have hle_4 := ht.le
  refine pu1 <| nilO <| thenK_n <| seqE <| regionE <| pu1 ?_
  refine cX Tryz.call6 (tg_script (RdT.flat (ht.up 0 (by rfl))) (by omega) (Sat.flat1 hS_2) 4 20 (by omega) (by omega)) ?_
  rintro _ w_5 ⟨az_7, nz_8, kz_9, zs_10, G_11, rfl, hR_12, i_13, hi_14, hS_6⟩
  have hS_15 := Sat.unflat2 hS_6
  have hn_az_7 := hR_12.len; have hl_az_7 := hR_12.le
  refine pu1 <| nilO <| thenK_n <| seqE <| regionE <| pu1 ?_
  refine cX Tryz.call7 (p30_enc az_7 nz_8 kz_9 zs_10 (RdT.flat (hR_12.up 1 (by rfl))) (Sat.flat hS_15)) ?_
  rintro _ w_16 ⟨az_19, nz_20, kz_21, G_22, rfl, hR_23, h_18⟩
  have hS_17 := Sat.unflat1 h_18
  have hn_az_19 := hR_23.len; have hl_az_19 := hR_23.le
  have hbl_24 : (bytE zs_10).length ≤ 196608 := bytE_len _
  refine pu5 <| nilO <| thenK_n <| seqE <| regionE <| pu1 ?_
  refine cX Tryz.call8 (r30_enc az_7 nz_8 kz_9 zs_10 (RdT.flat (hR_12.up 2 (by rfl))) (Sat.flat hS_17)) ?_
  rintro _ w_25 ⟨az_28, nz_29, kz_30, G_31, rfl, hR_32, h_27⟩
  have hS_26 := Sat.unflat1 h_27
  have hn_az_28 := hR_32.len; have hl_az_28 := hR_32.le
  have hbl_33 : (bytE zs_10).length ≤ 196608 := bytE_len _
  refine pu5 <| nilO <| thenK_n <| seqE <| regionE <| pu1 ?_
  refine cX Tryz.call7 (p30_enc l nl kl xl (RdT.flat (hl.up 4 (by rfl))) (Sat.flat hS_26)) ?_
  rintro _ w_34 ⟨az_37, nz_38, kz_39, G_40, rfl, hR_41, h_36⟩
  have hS_35 := Sat.unflat1 h_36
  have hn_az_37 := hR_41.len; have hl_az_37 := hR_41.le
  have hbl_42 : (bytE xl).length ≤ 196608 := bytE_len _
  refine pu5 <| nilO <| thenK_n <| seqE <| regionE <| pu1 ?_
  refine cX Tryz.call8 (r30_enc l nl kl xl (RdT.flat (hl.up 5 (by rfl))) (Sat.flat hS_35)) ?_
  rintro _ w_43 ⟨az_46, nz_47, kz_48, G_49, rfl, hR_50, h_45⟩
  have hS_44 := Sat.unflat1 h_45
  have hn_az_46 := hR_50.len; have hl_az_46 := hR_50.le
  have hbl_51 : (bytE xl).length ≤ 196608 := bytE_len _
  refine pu5 <| nilO <| thenK_n <| seqE <| regionE <| pu1 ?_
  refine sBstr hS_44 ((hR_23.rdAt 3 rfl)) Tryz.underlying23 Tryz.underlying5 Tryz.underlying9 ?_
  refine pu1 ?_
  refine sBstr hS_44 ((hR_32.rdAt 2 rfl)) Tryz.underlying23 Tryz.underlying5 Tryz.underlying9 ?_
  refine stepY (.bool (decide ((bytE zs_10) = (bytE zs_10)))) rfl rfl (Y_streq (bytE zs_10) (bytE zs_10) (bytE_bytes _) (bytE_bytes _) rfl (by kernel_rfl) (by kernel_rfl)) ?_
  refine pu1 ?_
  have hc_52 : (bytE zs_10) = (bytE zs_10) := rfl
  refine sFix 46 _ true (decide_eq_true hc_52) ?_
  refine pu5 ?_
  have hc_53 : ((codeE zs_10) : Int) = (codeE zs_10) := rfl
  refine sFix 51 _ true (beq_iff_eq.2 hc_53) ?_
  refine pu1 <| gY ?_
  refine sBstr hS_44 ((hR_41.rdAt 1 rfl)) Tryz.underlying23 Tryz.underlying5 Tryz.underlying9 ?_
  refine pu1 <| gY ?_
  refine sBstr hS_44 ((hR_50.rdAt 0 rfl)) Tryz.underlying23 Tryz.underlying5 Tryz.underlying9 ?_
  refine gY ?_
  refine stepY (.bool (decide ((bytE xl) = (bytE xl)))) rfl rfl (Y_streq (bytE xl) (bytE xl) (bytE_bytes _) (bytE_bytes _) rfl (by kernel_rfl) (by kernel_rfl)) ?_
  refine pu2 ?_
  have hc_54 : (bytE xl) = (bytE xl) := rfl
  refine sFix 58 _ true (decide_eq_true hc_54) ?_
  refine pu5 ?_
  have hc_55 : ((codeE xl) : Int) = (codeE xl) := rfl
  refine sFix 63 _ true (beq_iff_eq.2 hc_55) ?_
  refine pu1 <| gY ?_
  refine cX Tryz.call10 (p30_dec b nb kb xb (RdT.flat (hb.up 6 (by rfl))) bdb (by omega) (Sat.flat hS_44)) ?_
  rintro _ w_56 ⟨az_59, nz_60, kz_61, G_62, rfl, hR_63, h_58⟩
  have hS_57 := Sat.unflat1 h_58
  have hn_az_59 := hR_63.len; have hl_az_59 := hR_63.le
  refine pu1 <| gY ?_
  refine cX Tryz.call11 (r30_dec b nb kb xb (RdT.flat (hb.up 7 (by rfl))) bdb (by omega) (Sat.flat hS_57)) ?_
  rintro _ w_64 ⟨az_67, nz_68, kz_69, G_70, rfl, hR_71, h_66⟩
  have hS_65 := Sat.unflat1 h_66
  have hn_az_67 := hR_71.len; have hl_az_67 := hR_71.le
  refine gY ?_
  refine cR Tryz.call9 (l30_same az_59 nz_60 kz_61 (decS xb) az_67 nz_68 kz_69 (decS xb) (RdT.flat (hR_63.rdAt 1 (by rfl))) (RdT.flat (hR_71.rdAt 0 (by rfl))) (Sat.flat hS_65)) ?_
  intro w_72 hS_73
  refine pu2 ?_
  have hc_75 : (decS xb) = (decS xb) := rfl
  refine sFix 70 _ true (decide_eq_true hc_75) ?_
  refine pu1 <| gY ?_
  refine cX Tryz.call10 (p30_dec az_28 nz_29 kz_30 (bytE zs_10) (RdT.flat (hR_32.rdAt 4 (by rfl))) (bytE_bytes _) (by omega) (Sat.flat hS_73)) ?_
  rintro _ w_76 ⟨az_79, nz_80, kz_81, G_82, rfl, hR_83, h_78⟩
  have hS_77 := Sat.unflat1 h_78
  have hn_az_79 := hR_83.len; have hl_az_79 := hR_83.le
  refine pu1 <| gY ?_
  refine cX Tryz.call11 (r30_dec az_28 nz_29 kz_30 (bytE zs_10) (RdT.flat (hR_32.rdAt 5 (by rfl))) (bytE_bytes _) (by omega) (Sat.flat hS_77)) ?_
  rintro _ w_84 ⟨az_87, nz_88, kz_89, G_90, rfl, hR_91, h_86⟩
  have hS_85 := Sat.unflat1 h_86
  have hn_az_87 := hR_91.len; have hl_az_87 := hR_91.le
  refine gY ?_
  refine cR Tryz.call9 (l30_same az_79 nz_80 kz_81 (decS (bytE zs_10)) az_87 nz_88 kz_89 (decS (bytE zs_10)) (RdT.flat (hR_83.rdAt 1 (by rfl))) (RdT.flat (hR_91.rdAt 0 (by rfl))) (Sat.flat hS_85)) ?_
  intro w_92 hS_93
  refine pu2 ?_
  have hc_95 : (decS (bytE zs_10)) = (decS (bytE zs_10)) := rfl
  refine sFix 77 _ true (decide_eq_true hc_95) ?_
  refine gY ?_
  refine cX Tryz.call12 (l30_sane hS_93) ?_
  rintro _ w_96 ⟨rfl, hS_97⟩
  refine pu2 <| nilO <| thenK_n <| retE <| retT [.bool true] <| ?_
  have hS_98 := (hS_97.pick 10 rfl)
  have hS_99 := hS_98.dropAt 1 rfl
  have hS_100 := hS_99.dropAt 1 rfl
  have hS_101 := hS_100.dropAt 1 rfl
  have hS_102 := hS_101.dropAt 1 rfl
  have hS_103 := hS_102.dropAt 1 rfl
  have hS_104 := hS_103.dropAt 1 rfl
  have hS_105 := hS_104.dropAt 1 rfl
  have hS_106 := hS_105.dropAt 1 rfl
  have hS_107 := hS_106.dropAt 1 rfl
  have hS_108 := hS_107.dropAt 1 rfl
  exact ⟨rfl, hS_108⟩
end Go.Proofs.YtlhahicakkpnhaaGreat
