import Derived.Test.YtlhahicakkpnhaaGreatSc3
namespace Go.Proofs.YtlhahicakkpnhaaGreat
open Go Go.E
set_option linter.unusedVariables false
set_option linter.unusedSimpArgs false
set_option linter.unnecessarySimpa false
set_option maxRecDepth 100000
set_option maxHeartbeats 2000000
variable {W w : World} {H : Chunk} {F : List Chunk}
theorem l30_round (W w : World) (H : Chunk) (F : List Chunk) (t : Option Addr) (nt kt : Nat) (xt : List Int) (b : Option Addr) (nb kb : Nat) (xb : List Int) (ht : RdT encI 1 [H] t nt kt xt) (hb : RdT encB 1 [H] b nb kb xb) (bdb : Bytes xb) (hS : Sat W w (H :: F)) :
    Calls Tryz.prog 4 #[.slice t nt kt, .slice b nb kb] w fun e w' => e = .returned (.bool true) ∧ Sat W w' (H :: F) := by
  have hlt := ht.le
  have hlb := hb.le
  refine callsA 86 Tryz.func4 rfl ?_
  refine seqE <| regionE <| pu1 <| nilO <| thenK_n <| seqE <| regionE <| pu1 ?_
  refine cX Tryz.call5 (tape_new t nt kt hS) ?_
  rintro _ w_1 ⟨p_3, rfl, hS_2⟩
  have hle_4 := ht.le
  refine pu1 <| nilO <| thenK_n <| seqE <| regionE <| pu1 <| nilO <| thenK_n <| seqE <| seqE <| regionE <| pu1 ?_
  refine cX Tryz.call13 (tape_next (RdT.flat (ht.up 0 (by rfl))) (by omega) (Sat.flat1 hS_2) 30 (by omega)) ?_
  rintro _ w_5 ⟨r_7, rfl, hr_8, i_9, hi_10, hS_6⟩
  have hS_11 := Sat.unflat1 hS_6
  refine pu1 <| nilO <| thenK_n <| blockE ?_
  have hS_12 := Sat.nilc hS_11
  have hO_13 := OwnT.nil (enc := encEnt) (E := 37) (sz := 3) (fun _ => rfl)
  refine loopA (γ := Nat × Int × Int × (List Ent) × (Option Addr) × Nat × Nat × Chunk) (fun ⟨i, cnt, iti, zs, azs, nzs, kzs, czs⟩ => [(1, .slice b nb kb), (5, .pointer (some ⟨p_3, 0, none⟩)), (7, .int .i64 cnt), (6, .slice azs nzs kzs)]) (fun ⟨i, cnt, iti, zs, azs, nzs, kzs, czs⟩ w => Sat W w (czs :: [(p_3, .cells #[.slice t nt kt, .int .i64 iti] 40 (0, 0))] :: H :: F) ∧ i ≤ (r_7).toNat ∧ (cnt = r_7 - ((i : Nat) : Int)) ∧ (okE zs = true) ∧ (zs.length = i) ∧ (0 ≤ iti ∧ iti ≤ nt) ∧ OwnT encEnt 37 3 azs nzs kzs zs czs) (fun ⟨i, cnt, iti, zs, azs, nzs, kzs, czs⟩ => ((r_7).toNat) - i) (0, r_7, i_9, [], none, 0, 0, []) ⟨hS_12, by omega, by omega, by rfl, by rfl, by omega, hO_13⟩ ?_
  rintro ⟨i, cnt, iti, zs, azs, nzs, kzs, czs⟩ ρ w_14 ⟨hS_15, hi, hcn, hA, hzl, hiti, hOzs⟩
  have hn_zs := hOzs.len; have hl_zs := hOzs.le
  refine seqE <| seqE <| regionE <| pu2 <| nilO <| thenK_n <| ?_
  refine cD (cnt > 0) (fun hc_16 => ?_) (fun hc_16 => ?_)
  · refine skipE <| thenK_n <| seqE <| blockE <| regionE <| pu2 ?_
    have hS_17 := (hS_15.pick 1 rfl)
    refine cX Tryz.call13 (tape_next (RdT.flat (ht.up 1 (by rfl))) (by omega) (Sat.flat1 hS_17) 7 (by omega)) ?_
    rintro _ w_18 ⟨r_20, rfl, hr_21, i_22, hi_23, hS_19⟩
    have hS_24 := Sat.unflat1 hS_19
    refine pu1 ?_
    refine cX Tryz.call13 (tape_next (RdT.flat (ht.up 1 (by rfl))) (by omega) (Sat.flat1 hS_24) 256 (by omega)) ?_
    rintro _ w_25 ⟨r_27, rfl, hr_28, i_29, hi_30, hS_26⟩
    have hS_31 := Sat.unflat1 hS_26
    refine pu1 ?_
    refine cX Tryz.call13 (tape_next (RdT.flat (ht.up 1 (by rfl))) (by omega) (Sat.flat1 hS_31) 256 (by omega)) ?_
    rintro _ w_32 ⟨r_34, rfl, hr_35, i_36, hi_37, hS_33⟩
    have hS_38 := Sat.unflat1 hS_33
    refine pu1 ?_
    refine sBS hS_38 #[.int .i64 r_20, .int .i64 r_27, .int .i64 r_34] Tryz.runUnderlying24 Tryz.sizeOf37 Tryz.zeroValue37 ?_
    intro b_39 w_40 hS_41
    refine sApp (nb := 24) hS_41 hOzs 2 (RdT.blk (enc := encEnt) (sz := 3) (xs := [(⟨r_20, r_27, r_34⟩ : Ent)]) (fun _ => rfl) 1 0 rfl rfl rfl (by omega)) Tryz.underlying24 (i := Tryz.t37) (by kernel_rfl) (fun _ => rfl) ?_
    intro a_42 cap_43 c_44 w_45 hO_46 hS_47
    refine pu1 <| nilO <| blockK_n <| thenK_n <| regionE <| pu1 ?_
    refine sSub cnt 1 ?_
    refine pu1 <| nilO <| thenK_n <| ?_
    have hS_48 := ((hS_47.pick 2 rfl).dropAt 1 rfl)
    exact ⟨(i + 1, (cnt - 1), i_36, (zs ++ [(⟨r_20, r_27, r_34⟩ : Ent)]), a_42, (nzs + 1), cap_43, c_44), by first | omega | (dsimp only; omega), alA, hS_48, by omega, by omega, (by unfold okE at hA ⊢; rw [List.all_append, hA]; simp only [List.all_cons, List.all_nil, Bool.and_true, Bool.true_and]; exact decide_eq_true (by unfold entP; dsimp only; omega)), (by simp; omega), by omega, hO_46⟩
  refine exitE <| thenK_x <| thenK_x <| blockK_x <| thenK_n <| seqE ?_
  have hcz : codeE zs = 0 := codeE_ok (by omega) hA
  refine regionE <| pu1 ?_
  refine cX Tryz.call7 (p30_enc azs nzs kzs zs (RdT.flat (hOzs.rdAt 0 (by rfl))) (Sat.flat hS_15)) ?_
  rintro _ w_49 ⟨az_52, nz_53, kz_54, G_55, rfl, hR_56, h_51⟩
  have hS_50 := Sat.unflat1 h_51
  have hn_az_52 := hR_56.len; have hl_az_52 := hR_56.le
  have hbl_57 : (bytE zs).length ≤ 196608 := bytE_len _
  refine pu5 <| nilO <| thenK_n <| seqE <| seqE <| regionE <| pu3 ?_
  have hc_58 : ((codeE zs) : Int) = 0 := hcz
  refine sFix 38 _ false (bne_eq_false_iff_eq.2 hc_58) ?_
  refine pu1 <| gY ?_
  refine cX Tryz.call10 (p30_dec az_52 nz_53 kz_54 (bytE zs) (RdT.flat (hR_56.rdAt 0 (by rfl))) (bytE_bytes _) (by omega) (Sat.flat hS_50)) ?_
  rintro _ w_59 ⟨az_62, nz_63, kz_64, G_65, rfl, hR_66, h_61⟩
  have hS_60 := Sat.unflat1 h_61
  have hn_az_62 := hR_66.len; have hl_az_62 := hR_66.le
  refine pu1 <| gY ?_
  refine cR Tryz.call9 (l30_same az_62 nz_63 kz_64 (decS (bytE zs)) azs nzs kzs zs (RdT.flat (hR_66.rdAt 0 (by rfl))) (RdT.flat (hOzs.rdAt 2 (by rfl))) (Sat.flat hS_60)) ?_
  intro w_67 hS_68
  refine pu3 ?_
  have hc_70 : (decS (bytE zs)) = zs := (by rw [bytE_ok hcz, dec_enc _ hA])
  refine sFix 45 _ false (congrArg Bool.not (decide_eq_true hc_70)) ?_
  refine pu4 <| nilO <| thenK_n <| ?_
  refine cD (((nb : Nat) : Int) > 10000) (fun hc_71 => ?_) (fun hc_71 => ?_)
  · refine seqE <| regionE <| pu3 ?_
    refine sFix 52 _ true (beq_iff_eq.2 hc_58) ?_
    refine pu5 ?_
    refine sFix 57 _ true (decide_eq_true hc_71) ?_
    refine gY ?_
    refine cX Tryz.call12 (l30_sane hS_68) ?_
    rintro _ w_72 ⟨rfl, hS_73⟩
    refine pu2 <| nilO <| thenK_n <| retE <| thenK_r <| retT [.bool true] <| ?_
    have hS_74 := (hS_73.pick 4 rfl)
    have hS_75 := hS_74.dropAt 1 rfl
    have hS_76 := hS_75.dropAt 1 rfl
    have hS_77 := hS_76.dropAt 1 rfl
    have hS_78 := hS_77.dropAt 1 rfl
    exact ⟨rfl, hS_78⟩
  refine skipE <| thenK_n <| seqE <| regionE <| pu1 ?_
  refine cX Tryz.call10 (p30_dec b nb kb xb (RdT.flat (hb.up 4 (by rfl))) bdb (by omega) (Sat.flat hS_68)) ?_
  rintro _ w_79 ⟨az_82, nz_83, kz_84, G_85, rfl, hR_86, h_81⟩
  have hS_80 := Sat.unflat1 h_81
  have hn_az_82 := hR_86.len; have hl_az_82 := hR_86.le
  refine pu1 <| nilO ?_
  have hdl := decS_len (xb.length + 1) xb (by omega); have hlb := hb.len; have hcd : codeE (decS xb) = 0 := codeE_ok (by omega) (ok_dec (xb.length + 1) xb (by omega) bdb)
  refine thenK_n <| seqE <| regionE <| pu1 ?_
  refine cX Tryz.call7 (p30_enc az_82 nz_83 kz_84 (decS xb) (RdT.flat (hR_86.rdAt 0 (by rfl))) (Sat.flat hS_80)) ?_
  rintro _ w_87 ⟨az_90, nz_91, kz_92, G_93, rfl, hR_94, h_89⟩
  have hS_88 := Sat.unflat1 h_89
  have hn_az_90 := hR_94.len; have hl_az_90 := hR_94.le
  have hbl_95 : (bytE (decS xb)).length ≤ 196608 := bytE_len _
  refine pu5 <| nilO <| thenK_n <| seqE <| regionE <| pu3 ?_
  have hc_96 : ((codeE (decS xb)) : Int) = 0 := hcd
  refine sFix 69 _ true (beq_iff_eq.2 hc_96) ?_
  refine pu4 <| gY ?_
  refine sQuo ((nb : Nat) : Int) 3 ?_
  refine pu3 ?_
  have hc_97 : (((nz_83 : Nat) : Int) : Int) = (((nb : Nat) : Int).tdiv 3) := (by rw [Int.tdiv_eq_ediv_of_nonneg (by omega)]; omega)
  refine sFix 77 _ true (beq_iff_eq.2 hc_97) ?_
  refine pu1 <| gY ?_
  refine cX Tryz.call10 (p30_dec az_90 nz_91 kz_92 (bytE (decS xb)) (RdT.flat (hR_94.rdAt 0 (by rfl))) (bytE_bytes _) (by omega) (Sat.flat hS_88)) ?_
  rintro _ w_98 ⟨az_101, nz_102, kz_103, G_104, rfl, hR_105, h_100⟩
  have hS_99 := Sat.unflat1 h_100
  have hn_az_101 := hR_105.len; have hl_az_101 := hR_105.le
  refine pu1 <| gY ?_
  refine cR Tryz.call9 (l30_same az_101 nz_102 kz_103 (decS (bytE (decS xb))) az_82 nz_83 kz_84 (decS xb) (RdT.flat (hR_105.rdAt 0 (by rfl))) (RdT.flat (hR_86.rdAt 2 (by rfl))) (Sat.flat hS_99)) ?_
  intro w_106 hS_107
  refine pu2 ?_
  have hc_109 : (decS (bytE (decS xb))) = (decS xb) := (by rw [bytE_ok hcd, dec_enc _ (codeE_okE hcd)])
  refine sFix 83 _ true (decide_eq_true hc_109) ?_
  refine gY ?_
  refine cX Tryz.call12 (l30_sane hS_107) ?_
  rintro _ w_110 ⟨rfl, hS_111⟩
  refine pu2 <| nilO <| thenK_n <| retE <| retT [.bool true] <| ?_
  have hS_112 := (hS_111.pick 7 rfl)
  have hS_113 := hS_112.dropAt 1 rfl
  have hS_114 := hS_113.dropAt 1 rfl
  have hS_115 := hS_114.dropAt 1 rfl
  have hS_116 := hS_115.dropAt 1 rfl
  have hS_117 := hS_116.dropAt 1 rfl
  have hS_118 := hS_117.dropAt 1 rfl
  have hS_119 := hS_118.dropAt 1 rfl
  exact ⟨rfl, hS_119⟩
end Go.Proofs.YtlhahicakkpnhaaGreat
