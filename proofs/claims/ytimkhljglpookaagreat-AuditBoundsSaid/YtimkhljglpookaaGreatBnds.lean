import Derived.Test.YtimkhljglpookaaGreatBnd4
import Derived.Test.YtimkhljglpookaaGreatSan
import Derived.Test.YtimkhljglpookaaGreatMap
namespace Go.Proofs.YtimkhljglpookaaGreat
open Go Go.E
set_option linter.unusedVariables false
set_option linter.unusedSimpArgs false
set_option linter.unnecessarySimpa false
set_option maxRecDepth 100000
set_option maxHeartbeats 2000000
variable {W w : World} {H : Chunk} {F : List Chunk}
theorem key2P : Key2 Tryz.prog 40 where
  u := ⟨_, fun w => Tryz.runUnderlying40 w⟩
  eq := by
    intro a b c d w
    have h : Op.equal 40 (key2 (a, b)) (key2 (c, d)) = Op.equalIn (9999 + 1) 40 (key2 (a, b)) (key2 (c, d)) := rfl
    rw [h]
    simp [go_sem, key2]
    by_cases h1 : a = c <;> by_cases h2 : b = d <;> simp [*]
  ck := by
    intro e q w
    rw [show (10000 : Nat) = 9998 + 1 + 1 from rfl]
    unfold Instr.checkKey
    simp [key2, Tryz.runUnderlying40]
    unfold Instr.checkKey
    simp [Tryz.runUnderlying3, part, Tryz.isAgg3]

theorem tr_jl {c : Cfg} {K : Nat} {js : List (List Task)} {es : List Evt} {F : FS} (h : Tr c K js es F) : js.length ≤ 4 := by
  induction h with
  | nil => simp
  | add l bd _ h4 _ _ _ _ ih => rw [List.length_append, List.length_singleton]; omega
  | cancel _ _ ih => exact ih
  | crash _ _ ih => exact ih
  | restart _ _ ih => exact ih
  | step _ _ _ ih => exact ih
theorem chk_all {off : List TL} {c : Cfg} {l : List Evt} {m : MS} (hv : validCfg c = 0) (h : stepAll off (startM c) l = some m) : checkM off c l = (((l.length : Nat) : Int), true) := by
  unfold checkM; rw [if_pos hv, runM_all h, Nat.zero_add]
def totT (l : List TL) : Nat := (l.map fun T => T.l.l.length).sum
theorem tot_take {l : List TL} {i : Nat} {x : TL} (h : l[i]? = some x) : totT (l.take (i + 1)) = totT (l.take i) + x.l.l.length := by
  unfold totT; rw [take_succ_at h, List.map_append, List.sum_append]; simp
theorem tot_le {l : List TL} (h : ∀ z ∈ l, z.l.l.length ≤ 12) : totT l ≤ 12 * l.length := by
  induction l with
  | nil => simp [totT]
  | cons x l ih =>
    have h1 := h x List.mem_cons_self
    have h2 := ih fun z hz => h z (List.mem_cons_of_mem _ hz)
    unfold totT at *
    simp only [List.map_cons, List.sum_cons, List.length_cons]; omega
theorem l31_bounds (W w : World) (H : Chunk) (F : List Chunk) (t : Option Addr) (nt kt : Nat) (xt : List Int) (ht : RdT encI 1 [H] t nt kt xt) (hS : Sat W w (H :: F)) :
    Calls Tryz.prog 4 #[.slice t nt kt] w fun e w' => e = .returned (.bool true) ∧ Sat W w' (H :: F) := by
  have hlt := ht.le
  refine callsA 204 Tryz.func4 rfl ?_
  refine seqE <| regionE <| pu1 <| nilO <| thenK_n <| seqE <| regionE <| pu1 ?_
  refine cX Tryz.call6 (tape_new t nt kt hS) ?_
  rintro _ w_1 ⟨p_3, rfl, hS_2⟩
  have hle_4 := ht.le
  refine pu1 <| nilO <| thenK_n <| seqE <| regionE <| pu1 ?_
  refine cX Tryz.call7 (l31_record (RdT.flat (ht.up 0 (by rfl))) (by omega) (Sat.flat1 hS_2) 60 (by omega)) ?_
  rintro _ w_5 ⟨c_7, aj_8, nj_9, kj_10, js_11, cj_12, Gj_13, ao_14, no_15, ko_16, es_17, co_18, rfl, hv_19, hc_20, hOj_21, hDj_22, hOe_23, hTr_24, i_25, hi_26, hS_6⟩
  have hS_27 := Sat.unflat4 hS_6
  refine pu4 ?_
  refine sAlloc hS_27 Tryz.zeroValue24 ?_
  intro b_28 w_29 hS_30
  refine sT hS_30 0 0 (.agg (encCfg c_7).toArray) (encCfg c_7) (encCfg c_7).toArray Tryz.sizeOf24 ?_
  intro w_31 hS_32
  refine pu2 <| nilO ?_
  obtain ⟨K_, F_, hK_, hT_⟩ := hTr_24; have hes_ := tr_es hT_; have hjl_ := tr_jl hT_; rw [List.length_map] at hjl_; have hc5_ := hc_20.2.2; have hel_ := hOe_23.len; have hek_ := hOe_23.le; have hjn_ := hOj_21.len; have hjk_ := hOj_21.le; have ho12 : ∀ z ∈ js_11, z.l.l.length ≤ 12 := fun z hz => by have := tr_len hT_ _ (List.mem_map.2 ⟨z, hz, rfl⟩); omega
  refine thenK_n <| seqE <| seqE <| regionE <| pu1 ?_
  have hS_33 := (hS_32.pick 1 rfl)
  refine cX Tryz.call12 (tape_next (RdT.flat (ht.up 4 (by rfl))) (by omega) (Sat.flat1 hS_33) 4 (by omega)) ?_
  rintro _ w_34 ⟨r_36, rfl, hr_37, i_38, hi_39, hS_35⟩
  have hS_40 := Sat.unflat1 hS_35
  refine pu1 <| nilO <| thenK_n <| blockE ?_
  refine loopA (γ := Int × Int × (Option Addr) × Nat × Nat × (List Evt) × Chunk) (fun ⟨q, it, az, nz, kz, zs, C⟩ => [(3, .pointer (some ⟨p_3, 0, none⟩)), (4, .pointer (some ⟨b_28, 0, none⟩)), (5, .slice aj_8 nj_9 kj_10), (6, .slice az nz kz), (7, .int .i64 q)]) (fun ⟨q, it, az, nz, kz, zs, C⟩ w => Sat W w ([(p_3, .cells #[.slice t nt kt, .int .i64 it] 57 (0, 0))] :: [(b_28, .cells (encCfg c_7).toArray 24 (0, 0))] :: cj_12 :: Gj_13 :: C :: H :: F) ∧ (0 ≤ it ∧ it ≤ nt) ∧ (0 ≤ q ∧ q ≤ 4) ∧ OwnT encEvt 43 7 az nz kz zs C ∧ ((zs.length : Nat) : Int) + q ≤ 300) (fun ⟨q, it, az, nz, kz, zs, C⟩ => q.toNat) (r_36, i_38, ao_14, no_15, ko_16, es_17, co_18) ⟨hS_40, by omega, by omega, hOe_23, by omega⟩ ?_
  rintro ⟨q, it, az, nz, kz, zs, C⟩ ρ w_41 ⟨hS_42, hit, hq, hOz, hzl⟩
  have hzn_ := hOz.len; have hzk_ := hOz.le
  refine seqE <| seqE <| regionE <| pu2 <| nilO <| thenK_n <| ?_
  refine cD (q > 0) (fun hc_43 => ?_) (fun hc_43 => ?_)
  · refine skipE <| thenK_n <| seqE <| blockE <| regionE <| pu2 ?_
    refine cX Tryz.call10 (l31_forge (RdT.flat (ht.up 4 (by rfl))) (by omega) (Sat.flat1 hS_42) az nz kz zs (RdT.flat (hOz.rdAt 3 (by rfl))) (by omega)) ?_
    rintro _ w_44 ⟨az_46, nz_47, kz_48, zs_49, C_50, rfl, hO_51, hz_52, i_53, hi_54, hS_45⟩
    have hS_55 := Sat.unflat2 hS_45
    have hn_zs_49 := hO_51.len; have hl_zs_49 := hO_51.le
    refine pu1 <| nilO <| blockK_n <| thenK_n <| regionE <| pu1 ?_
    refine sSub q 1 ?_
    refine pu1 <| nilO <| thenK_n <| ?_
    have hS_56 := (((((hS_55.pick 4 rfl).pick 4 rfl).pick 4 rfl).pick 3 rfl).dropAt 5 rfl)
    have hzz_ := hz_52
    exact ⟨((q - 1), i_53, az_46, nz_47, kz_48, zs_49, C_50), by first | omega | (dsimp only; omega), alA, hS_56, by omega, by omega, hO_51, by omega⟩
  refine exitE <| thenK_x <| thenK_x <| blockK_x <| thenK_n <| seqE <| regionE ?_
  refine lA hS_42 1 0 8 (Tryz.isAgg24 _) (Tryz.sizeOf24 _) ?_
  refine pu2 ?_
  refine cR Tryz.call13 (au_check c_7 aj_8 nj_9 kj_10 js_11 az nz kz zs (RdT.flat (hOj_21.rdAt 2 (by rfl))) (fun z hz => (hDj_22 z hz).of_mem (mem_flat1 3 (by rfl))) (RdT.flat (hOz.rdAt 4 (by rfl))) ho12 (by first | omega | (simp only [List.length_append, List.length_take, List.length_drop, List.length_nil]; omega)) (Sat.flat hS_42)) ?_
  intro w_57 hS_58
  obtain ⟨k, hk1_, hk2_, hk3_⟩ := bnd_cut (off := js_11) (x := zs) hv_19
  refine pu5 <| nilO <| thenK_n <| seqE <| seqE <| regionE <| pu3 ?_
  have hc_60 : ¬ (((checkM js_11 c_7 zs).1 : Int) < 0) := (by omega)
  refine sFix 46 _ false (decide_eq_false hc_60) ?_
  refine pu5 <| nilO <| thenK_n <| ?_
  have hc_61 : ¬ (((checkM js_11 c_7 zs).1 : Int) > ((nz : Nat) : Int)) := (by omega)
  refine cF _ (decide_eq_false hc_61) ?_
  refine skipE <| thenK_n <| ?_
  refine cutA (γ := Nat) (fun n => [(4, .pointer (some ⟨b_28, 0, none⟩)), (5, .slice aj_8 nj_9 kj_10), (6, .slice az nz kz), (8, .int .i64 ((n : Nat) : Int))]) (fun n w => Sat W w ([(p_3, .cells #[.slice t nt kt, .int .i64 it] 57 (0, 0))] :: [(b_28, .cells (encCfg c_7).toArray 24 (0, 0))] :: cj_12 :: Gj_13 :: C :: H :: F) ∧ n ≤ zs.length ∧ ∃ m, stepAll js_11 (startM c_7) (zs.take n) = some m) ?_ ?_
  · refine seqE <| regionE <| pu3 ?_
    refine sD 54 ((checkM js_11 c_7 zs).1 > 0) (fun hc_62 => ?_) (fun hc_62 => ?_)
    rotate_left
    · refine pu14 <| nilO <| thenK_n <| cFf <| skipE <| thenK_n <| ?_
      exact ⟨k, ⟨by kernel_rfl, by kernel_rfl, by kernel_rfl, (Eq.trans (b := .int .i64 ((checkM js_11 c_7 zs).1)) (by kernel_rfl) (congrArg (Value.int .i64) (by omega))), trivial⟩, hS_58, hk2_, (hk3_ k (.inl ⟨rfl, fun e h0 _ => absurd h0 (by omega)⟩))⟩
    refine pu6 ?_
    have hc_63 : ((checkM js_11 c_7 zs).1 : Int) ≤ ((nz : Nat) : Int) := (by omega)
    refine sFix 60 _ true (decide_eq_true hc_63) ?_
    refine pu2 <| gY ?_
    refine sSub ((checkM js_11 c_7 zs).1) 1 ?_
    refine gY ?_
    refine sIdxO hOz ((checkM js_11 c_7 zs).1 - 1) (((checkM js_11 c_7 zs).1 - 1)).toNat Tryz.runUnderlying26 Tryz.sizeOf43 ?_
    intro x_64 b_65 o_66 hx_67 hp_68 hq_69
    refine pu1 <| gY ?_
    refine sLp hS_58 (hp_68.up 4 rfl) 0 (.int .i64 x_64.kind) (Tryz.isAgg3 _) ?_
    refine pu2 <| nilO <| thenK_n <| ?_
    refine cE x_64.kind 12 (fun hc_70 => ?_) (fun hc_70 => ?_)
    rotate_left
    · refine skipE <| thenK_n <| ?_
      exact ⟨k, ⟨by kernel_rfl, by kernel_rfl, by kernel_rfl, (Eq.trans (b := .int .i64 ((checkM js_11 c_7 zs).1)) (by kernel_rfl) (congrArg (Value.int .i64) (by omega))), trivial⟩, hS_58, hk2_, (hk3_ k (.inl ⟨rfl, fun e h0 he_ => by rw [show k - 1 = ((checkM js_11 c_7 zs).1 - 1).toNat by omega] at he_; obtain rfl := Option.some.inj (he_.symm.trans hx_67); exact hc_70⟩))⟩
    refine regionE <| pu1 ?_
    refine sSub ((checkM js_11 c_7 zs).1) 1 ?_
    refine pu1 <| nilO <| thenK_n <| ?_
    exact ⟨k - 1, ⟨by kernel_rfl, by kernel_rfl, by kernel_rfl, (Eq.trans (b := .int .i64 ((checkM js_11 c_7 zs).1 - 1)) (by kernel_rfl) (congrArg (Value.int .i64) (by omega))), trivial⟩, hS_58, by omega, (hk3_ (k - 1) (.inr ⟨by omega, x_64, by rw [show k - 1 = ((checkM js_11 c_7 zs).1 - 1).toNat by omega]; exact hx_67, hc_70⟩))⟩
  rintro n ρ w_71 ⟨hS_72, hn, hst⟩
  refine seqE <| regionE <| pu2 ?_
  refine sSl none (some ((n : Nat) : Int)) 0 n Tryz.runUnderlying26 Tryz.sizeOf43 rfl ⟨by omega, by omega⟩ (by omega) (by omega) ?_ (a := az) (len := nz) (cap := kz)
  have hP_73 := hOz.part (lo := 0) (hi := n) (by omega) (by omega)
  refine pu1 <| nilO ?_
  obtain ⟨ls, hls⟩ : ∃ z, z = zs.take n := ⟨_, rfl⟩
  have hOl_74 : OwnT encEvt 43 7 (partAddr az kz 0 7) (n - 0) (kz - 0) ls C := by rw [hls]; simpa using hP_73
  rw [← hls] at hst; have hln : ls.length = n := by rw [hls, List.length_take]; omega
  obtain ⟨mN, hmN⟩ := id hst; have hl5 : ls.length ≤ 100000 := by omega
  refine thenK_n <| seqE <| seqE <| regionE ?_
  refine lA hS_72 1 0 8 (Tryz.isAgg24 _) (Tryz.sizeOf24 _) ?_
  refine pu2 ?_
  refine cR Tryz.call13 (au_check c_7 aj_8 nj_9 kj_10 js_11 (partAddr az kz 0 7) (n - 0) (kz - 0) ls (RdT.flat (hOj_21.rdAt 2 (by rfl))) (fun z hz => (hDj_22 z hz).of_mem (mem_flat1 3 (by rfl))) (RdT.flat (hOl_74.rdAt 4 (by rfl))) ho12 (by first | omega | (simp only [List.length_append, List.length_take, List.length_drop, List.length_nil]; omega)) (Sat.flat hS_72)) ?_
  intro w_75 hS_76
  have hck_ : checkM js_11 c_7 ls = (((n : Nat) : Int), true) := by obtain ⟨m_, hm_⟩ := hst; rw [chk_all hv_19 hm_, hln]
  refine pu5 <| nilO <| thenK_n <| seqE <| regionE <| pu3 ?_
  have hc_78 : (checkM js_11 c_7 ls).2 = true := (by rw [hck_])
  refine sFix 83 _ false (congrArg Bool.not hc_78) ?_
  refine pu4 <| nilO <| thenK_n <| ?_
  have hc_79 : ((checkM js_11 c_7 ls).1 : Int) = ((n : Nat) : Int) := (by rw [hck_])
  refine cF _ (bne_eq_false_iff_eq.2 hc_79) ?_
  refine skipE <| thenK_n <| seqE <| regionE ?_
  refine sMakeMap hS_76 ?_
  intro b_80 c_81 w_83 hM_82 hS_84
  refine pu1 <| nilO <| thenK_n <| seqE <| seqE <| regionE <| pu1 <| nilO <| thenK_n <| blockE ?_
  have hS_85 := (((((hS_84.pick 5 rfl).pick 5 rfl).pick 5 rfl).dropAt 4 rfl).dropAt 4 rfl)
  refine loopA (γ := Nat × (List (Int × Int)) × Chunk) (fun ⟨i, ks, cM⟩ => [(5, .slice aj_8 nj_9 kj_10), (6, .slice (partAddr az kz 0 7) (n - 0) (kz - 0)), (12, .map (some b_80)), (13, .int .i64 ((i : Nat) : Int))]) (fun ⟨i, ks, cM⟩ w => Sat W w (cj_12 :: Gj_13 :: C :: cM :: H :: F) ∧ i ≤ n ∧ MapR b_80 ks cM ∧ BL js_11 c_7 ls i ks) (fun ⟨i, ks, cM⟩ => n - i) (0, [], c_81) ⟨hS_85, by omega, hM_82, bl_start⟩ ?_
  rintro ⟨i, ks, cM⟩ ρ w_86 ⟨hS_87, hi, hM, hBL⟩
  refine seqE <| seqE <| regionE <| pu4 <| nilO <| thenK_n <| ?_
  refine cD (((i : Nat) : Int) < (((n - 0) : Nat) : Int)) (fun hc_88 => ?_) (fun hc_88 => ?_)
  rotate_left
  · refine exitE <| thenK_x <| thenK_x <| blockK_x <| thenK_n <| seqE <| regionE <| pu1 <| nilO <| thenK_n <| seqE <| seqE <| regionE <| pu1 <| nilO <| thenK_n <| blockE ?_
    refine loopA (γ := Nat × Int) (fun ⟨i2, tt⟩ => [(5, .slice aj_8 nj_9 kj_10), (6, .slice (partAddr az kz 0 7) (n - 0) (kz - 0)), (12, .map (some b_80)), (17, .int .i64 tt), (18, .int .i64 ((i2 : Nat) : Int))]) (fun ⟨i2, tt⟩ w => Sat W w (cj_12 :: Gj_13 :: C :: cM :: H :: F) ∧ i2 ≤ js_11.length ∧ tt = ((totT (js_11.take i2) : Nat) : Int) ∧ totT (js_11.take i2) ≤ 12 * i2) (fun ⟨i2, tt⟩ => js_11.length - i2) (0, 0) ⟨hS_87, by omega, by simp [totT], by simp [totT]⟩ ?_
    rintro ⟨i2, tt⟩ ρ w_149 ⟨hS_150, hi2, htt0, htl⟩
    refine seqE <| seqE <| regionE <| pu4 <| nilO <| thenK_n <| ?_
    refine cD (((i2 : Nat) : Int) < ((nj_9 : Nat) : Int)) (fun hc_151 => ?_) (fun hc_151 => ?_)
    · refine skipE <| thenK_n <| seqE <| blockE <| regionE <| pu3 ?_
      refine sIdxO hOj_21 ((i2 : Nat) : Int) i2 Tryz.runUnderlying25 Tryz.sizeOf45 ?_
      intro x_152 b_153 o_154 hx_155 hp_156 hq_157
      have hTn_ := (hDj_22 _ (List.mem_of_getElem? hx_155)).l.len; have hT12_ := ho12 _ (List.mem_of_getElem? hx_155)
      refine sLp hS_150 (hp_156.up 0 rfl) 0 (.slice x_152.l.a x_152.l.n x_152.l.k) (Tryz.isAgg45 _) ?_
      refine pu1 ?_
      refine sAdd tt ((x_152.l.n : Nat) : Int) ?_
      refine pu1 <| nilO <| blockK_n <| thenK_n <| regionE <| pu1 ?_
      refine sAdd ((i2 : Nat) : Int) 1 ?_
      refine pu1 <| nilO <| thenK_n <| ?_
      exact ⟨(i2 + 1, (tt + ((x_152.l.n : Nat) : Int))), by first | omega | (dsimp only; omega), alA, hS_150, by omega, (by rw [tot_take hx_155]; omega), (by rw [tot_take hx_155]; have := ho12 _ (List.mem_of_getElem? hx_155); omega)⟩
    refine exitE <| thenK_x <| thenK_x <| blockK_x <| thenK_n <| seqE <| regionE <| pu1 ?_
    refine cR Tryz.call14 (au_count (partAddr az kz 0 7) (n - 0) (kz - 0) ls (RdT.flat (hOl_74.rdAt 2 (by rfl))) (by first | omega | decide | (simp only [List.length_append, List.length_take, List.length_drop, List.length_nil]; omega)) (Sat.flat hS_150)) ?_
    intro w_158 hS_159
    have hi_ : i = ls.length := by omega
    rw [hi_] at hBL; obtain ⟨e1_, e2_, e3_⟩ := bl_end hBL; have hcn_ := count_ok (l := ls) (i := ls.length); rw [List.take_length] at hcn_; unfold CntOk at hcn_; obtain ⟨n1_, n2_, n3_, n4_, _, _⟩ := hcn_
    have htt_ : totT (js_11.take i2) = totT js_11 := by rw [List.take_of_length_le (by omega)]
    have e4_ : (countE ls).starts ≤ ((totT js_11 : Nat) : Int) + (countE ls).crashes := e3_
    refine sAlloc hS_159 Tryz.zeroValue51 ?_
    intro b_161 w_162 hS_163
    refine sT hS_163 0 0 (.agg #[.int .i64 ((countE ls).starts), .int .i64 ((countE ls).commits), .int .i64 ((countE ls).drops), .int .i64 ((countE ls).crashes), .int .i64 ((countE ls).steals), .int .i64 ((countE ls).helps), .int .i64 ((countE ls).spills), .int .i64 ((countE ls).queued), .int .i64 ((countE ls).held), .int .i64 ((countE ls).cells)]) [.int .i64 ((countE ls).starts), .int .i64 ((countE ls).commits), .int .i64 ((countE ls).drops), .int .i64 ((countE ls).crashes), .int .i64 ((countE ls).steals), .int .i64 ((countE ls).helps), .int .i64 ((countE ls).spills), .int .i64 ((countE ls).queued), .int .i64 ((countE ls).held), .int .i64 ((countE ls).cells)] #[.int .i64 ((countE ls).starts), .int .i64 ((countE ls).commits), .int .i64 ((countE ls).drops), .int .i64 ((countE ls).crashes), .int .i64 ((countE ls).steals), .int .i64 ((countE ls).helps), .int .i64 ((countE ls).spills), .int .i64 ((countE ls).queued), .int .i64 ((countE ls).held), .int .i64 ((countE ls).cells)] Tryz.sizeOf51 ?_
    intro w_164 hS_165
    refine nilO <| thenK_n <| seqE <| regionE <| pu1 ?_
    refine sL hS_165 0 0 (.int .i64 ((countE ls).starts)) (Tryz.isAgg3 _) ?_
    refine pu2 ?_
    refine sL hS_165 0 3 (.int .i64 ((countE ls).crashes)) (Tryz.isAgg3 _) ?_
    refine sAdd tt ((countE ls).crashes) ?_
    refine pu2 ?_
    have hc_166 : ((countE ls).starts : Int) ≤ (tt + ((countE ls).crashes)) := (by omega)
    refine sFix 184 _ true (decide_eq_true hc_166) ?_
    refine pu1 <| gY ?_
    refine sL hS_165 0 1 (.int .i64 ((countE ls).commits)) (Tryz.isAgg3 _) ?_
    refine pu1 <| gY ?_
    refine stepY (.int .i64 ((ks.length : Nat) : Int)) rfl rfl (Y_maplen hS_165 4 rfl hM Tryz.runUnderlying44) ?_
    refine pu3 ?_
    have hc_167 : ((countE ls).commits : Int) = ((ks.length : Nat) : Int) := (by omega)
    refine sFix 191 _ true (beq_iff_eq.2 hc_167) ?_
    refine pu1 <| gY ?_
    refine sL hS_165 0 1 (.int .i64 ((countE ls).commits)) (Tryz.isAgg3 _) ?_
    refine pu1 <| gY ?_
    refine sL hS_165 0 2 (.int .i64 ((countE ls).drops)) (Tryz.isAgg3 _) ?_
    refine gY ?_
    refine sAdd ((countE ls).commits) ((countE ls).drops) ?_
    refine pu1 <| gY ?_
    refine sL hS_165 0 0 (.int .i64 ((countE ls).starts)) (Tryz.isAgg3 _) ?_
    refine pu3 ?_
    have hc_168 : (((countE ls).commits + ((countE ls).drops)) : Int) ≤ ((countE ls).starts) := (by omega)
    refine sFix 201 _ true (decide_eq_true hc_168) ?_
    refine gY ?_
    refine cX Tryz.call11 (l31_sane hS_165) ?_
    rintro _ w_169 ⟨rfl, hS_170⟩
    refine pu2 <| nilO <| thenK_n <| retE <| retT [.bool true] <| ?_
    have hS_171 := (hS_170.pick 5 rfl)
    have hS_172 := hS_171.dropAt 1 rfl
    have hS_173 := hS_172.dropAt 1 rfl
    have hS_174 := hS_173.dropAt 1 rfl
    have hS_175 := hS_174.dropAt 1 rfl
    have hS_176 := hS_175.dropAt 1 rfl
    exact ⟨rfl, hS_176⟩
  refine skipE <| thenK_n <| seqE <| blockE <| seqE <| seqE <| regionE <| pu2 ?_
  refine sIdxO hOl_74 ((i : Nat) : Int) i Tryz.runUnderlying26 Tryz.sizeOf43 ?_
  intro x_89 b_90 o_91 hx_92 hp_93 hq_94
  refine pu1 ?_
  refine sLp hS_87 (hp_93.up 2 rfl) 0 (.int .i64 x_89.kind) (Tryz.isAgg3 _) ?_
  refine pu1 <| nilO <| thenK_n <| ?_
  refine cN x_89.kind 8 (fun hc_95 => ?_) (fun hc_95 => ?_)
  rotate_left
  · refine exitE <| thenK_x <| blockK_x <| thenK_n <| regionE <| pu1 ?_
    refine sAdd ((i : Nat) : Int) 1 ?_
    refine pu1 <| nilO <| thenK_n <| ?_
    have hbs_ := (bl_step ho12 hl5 hmN hx_92 hBL).1; rw [show nextK x_89 ks = ks by unfold nextK; rw [if_neg hc_95]] at hbs_
    exact ⟨(i + 1, ks, cM), by first | omega | (dsimp only; omega), alA, hS_87, by omega, hM, hbs_⟩
  refine skipE <| thenK_n <| seqE ?_
  obtain ⟨hbs_, hco_⟩ := bl_step ho12 hl5 hmN hx_92 hBL; rw [show nextK x_89 ks = ks ++ [(x_89.refJob, x_89.refTask)] by unfold nextK; rw [if_pos hc_95]] at hbs_
  obtain ⟨kj0_, kno_, T_, hT0_, kt0_, kt1_, kdep_⟩ := hco_ hc_95; have hjb_ := (List.getElem?_eq_some_iff.1 hT0_).1
  refine regionE <| pu2 ?_
  refine sIdxO hOl_74 ((i : Nat) : Int) i Tryz.runUnderlying26 Tryz.sizeOf43 ?_
  intro x_96 b_97 o_98 hx_99 hp_100 hq_101
  obtain rfl : x_89 = x_96 := Option.some.inj (hx_92.symm.trans hx_99)
  refine pu1 ?_
  refine sLpA hS_87 (hp_100.up 2 rfl) 4 [.int .i64 x_89.refJob, .int .i64 x_89.refTask] (Tryz.isAgg40 _) (Tryz.sizeOf40 _) ?_
  refine sAlloc hS_87 Tryz.zeroValue40 ?_
  intro b_102 w_103 hS_104
  refine sT hS_104 0 0 (.agg #[.int .i64 x_89.refJob, .int .i64 x_89.refTask]) [.int .i64 x_89.refJob, .int .i64 x_89.refTask] #[.int .i64 x_89.refJob, .int .i64 x_89.refTask] Tryz.sizeOf40 ?_
  intro w_105 hS_106
  refine nilO <| thenK_n <| seqE <| seqE ?_
  have hc_107 : ¬ ((x_89.refJob : Int) < 0) := (by omega)
  have hc_108 : ¬ ((x_89.refTask : Int) < 0) := (by omega)
  have hc_109 : ¬ ((x_89.refJob : Int) ≥ ((nj_9 : Nat) : Int)) := (by omega)
  obtain ⟨x_110, b_111, o_112, hx_113, hp_114, hq_115, ha_116⟩ := OwnT.elem hOj_21 x_89.refJob
  have hTe_ : T_ = x_110 := Option.some.inj (hT0_.symm.trans hx_113); have kt1b_ := kt1_; have kdepb_ := kdep_; rw [hTe_] at kt1b_ kdepb_; have hTn_ := (hDj_22 _ (List.mem_of_getElem? hx_113)).l.len
  have hc_117 : ¬ ((x_89.refTask : Int) ≥ ((x_110.l.n : Nat) : Int)) := (by omega)
  refine drawE [29] [(1, ⟨b_102, 0, none⟩, .int .i64 x_89.refJob), (5, ⟨b_102, 1, none⟩, .int .i64 x_89.refTask), (10, ⟨b_102, 0, none⟩, .int .i64 x_89.refJob), (17, ⟨b_102, 1, none⟩, .int .i64 x_89.refTask), (20, ⟨b_102, 0, none⟩, .int .i64 x_89.refJob), (22, ⟨b_111, o_112 + (x_89.refJob).toNat * 1, none⟩, .slice x_110.l.a x_110.l.n x_110.l.k), (28, ⟨b_102, 0, none⟩, .int .i64 x_89.refJob), (28, ⟨b_102, 1, none⟩, .int .i64 x_89.refTask)] [(true, [0]), (true, [1]), (true, [2, 3]), (true, [4]), (true, [5]), (true, [6, 7, 8]), (true, [9, 11, 12]), (true, [10]), (true, [13, 14, 15]), (true, [16, 18, 19]), (true, [17]), (true, [20]), (true, [21]), (true, [22]), (true, [23, 24, 25, 26]), (true, [27]), (true, [28]), (false, [29]), (true, [30])] rfl (by kernel_rfl) ⟨.inr (hS_106.cell 0 rfl rfl), .inr (hS_106.cell 0 rfl rfl), .inr (hS_106.cell 0 rfl rfl), .inr (hS_106.cell 0 rfl rfl), .inr (hS_106.cell 0 rfl rfl), .inr ((hp_114.up 1 rfl).cell hS_106 (k := 0) rfl), .inr (hS_106.cell 0 rfl rfl), .inr (hS_106.cell 0 rfl rfl), trivial⟩ ?_
  have hS_118 := hS_106.drew
  refine wU [0] ?_
  refine wLd (.int .i64 x_89.refJob) 0 Tryz.isAgg3 ?_
  refine wU [2, 3] ?_
  refine wFix 109 _ false (decide_eq_false hc_107) ?_
  refine wU [4] ?_
  refine wLd (.int .i64 x_89.refTask) 1 Tryz.isAgg3 ?_
  refine wU [6, 7, 8] ?_
  refine wFix 114 _ false (decide_eq_false hc_108) ?_
  refine wU [9, 11, 12] ?_
  refine wLd (.int .i64 x_89.refJob) 2 Tryz.isAgg3 ?_
  refine wU [13, 14, 15] ?_
  refine wFix 121 _ false (decide_eq_false hc_109) ?_
  refine wU [16, 18, 19] ?_
  refine wLd (.int .i64 x_89.refTask) 3 Tryz.isAgg3 ?_
  refine wLd (.int .i64 x_89.refJob) 4 Tryz.isAgg3 ?_
  refine wY (.pointer (some ⟨b_111, o_112 + (x_89.refJob).toNat * 1, none⟩)) rfl (fun w _ => Y_idx (a := aj_8) (i := x_89.refJob) (len := nj_9) (cap := kj_10) rfl Tryz.runUnderlying25 Tryz.sizeOf45 (by kernel_rfl) (by kernel_rfl) hq_115) ?_
  refine wLd (.slice x_110.l.a x_110.l.n x_110.l.k) 5 Tryz.isAgg45 ?_
  refine wU [23, 24, 25, 26] ?_
  refine wFix 132 _ false (decide_eq_false hc_117) ?_
  refine wU [27] ?_
  refine wY (.agg #[.int .i64 x_89.refJob, .int .i64 x_89.refTask]) rfl (fun w hF => Y_loadF rfl (Tryz.isAgg40 w) (Tryz.sizeOf40 w) (by kernel_rfl) rfl ⟨hF 6 _ _ rfl, hF 7 _ _ rfl, trivial⟩) ?_
  refine wO rfl ?_
  refine gY ?_
  refine stepY (.bool (decide ((x_89.refJob, x_89.refTask) ∈ ks))) rfl rfl (Y_mapget (u := x_89.refJob) (v := x_89.refTask) hS_118 4 rfl hM key2P Tryz.runUnderlying44 Tryz.zeroValue4) ?_
  refine nilO ⟨⟨.inr (hS_118.cell 0 rfl rfl), .inr (hS_118.cell 0 rfl rfl), .inr (hS_118.cell 0 rfl rfl), .inr (hS_118.cell 0 rfl rfl), .inr (hS_118.cell 0 rfl rfl), .inr ((hp_114.up 1 rfl).cell hS_118 (k := 0) rfl), .inl (by kernel_rfl), .inl (by kernel_rfl), trivial⟩, ?_⟩
  refine wU [30] ?_
  refine wN ?_
  refine thenK_n <| ?_
  have hc_119 : ¬ ((x_89.refJob, x_89.refTask) ∈ ks) := kno_
  refine cF _ (decide_eq_false hc_119) ?_
  refine skipE <| thenK_n <| seqE <| regionE <| pu1 ?_
  refine lA hS_118 0 0 2 (Tryz.isAgg40 _) (Tryz.sizeOf40 _) ?_
  refine sMapAdd hS_118 4 hM key2P hc_119 Tryz.runUnderlying44 ?_
  intro c_120 w_122 hM_121 hS_123
  refine nilO <| thenK_n <| seqE ?_
  obtain ⟨x_124, b_125, o_126, hx_127, hp_128, hq_129, ha_130⟩ := OwnT.elem hOj_21 x_89.refJob
  obtain rfl : x_110 = x_124 := Option.some.inj (hx_113.symm.trans hx_127)
  have hTe_ : T_ = x_110 := Option.some.inj (hT0_.symm.trans hx_127); have kt1b_ := kt1_; have kdepb_ := kdep_; rw [hTe_] at kt1b_ kdepb_; have hTn_ := (hDj_22 _ (List.mem_of_getElem? hx_127)).l.len
  obtain ⟨x_131, b_132, o_133, hx_134, hp_135, hq_136⟩ := RdT.elem (hDj_22 x_110 (List.mem_of_getElem? hx_127)).l x_89.refTask
  have hde_ := kdepb_ x_131 hx_134
  refine drawE [] [(2, ⟨b_102, 0, none⟩, .int .i64 x_89.refJob), (4, ⟨b_125, o_126 + (x_89.refJob).toNat * 1, none⟩, .slice x_110.l.a x_110.l.n x_110.l.k), (6, ⟨b_102, 1, none⟩, .int .i64 x_89.refTask), (9, ⟨b_132, o_133 + 6, none⟩, .slice x_131.deps.a x_131.deps.n x_131.deps.k)] [(true, [0, 1, 5, 11]), (true, [2]), (true, [3]), (true, [4]), (true, [6]), (true, [7]), (true, [8]), (true, [9]), (true, [10])] rfl (by kernel_rfl) ⟨.inr (hS_123.cell 0 rfl rfl), .inr ((hp_128.up 1 rfl).cell hS_123 (k := 0) rfl), .inr (hS_123.cell 0 rfl rfl), .inr ((hp_135.up 2 rfl).cell hS_123 (k := 6) rfl), trivial⟩ ?_
  have hS_137 := hS_123.drew
  refine wU [0, 1, 5, 11] ?_
  refine wLd (.int .i64 x_89.refJob) 0 Tryz.isAgg3 ?_
  refine wY (.pointer (some ⟨b_125, o_126 + (x_89.refJob).toNat * 1, none⟩)) rfl (fun w _ => Y_idx (a := aj_8) (i := x_89.refJob) (len := nj_9) (cap := kj_10) rfl Tryz.runUnderlying25 Tryz.sizeOf45 (by kernel_rfl) (by kernel_rfl) hq_129) ?_
  refine wLd (.slice x_110.l.a x_110.l.n x_110.l.k) 1 Tryz.isAgg45 ?_
  refine wLd (.int .i64 x_89.refTask) 2 Tryz.isAgg3 ?_
  refine wY (.pointer (some ⟨b_132, o_133, none⟩)) rfl (fun w _ => Y_idx (a := x_110.l.a) (i := x_89.refTask) (len := x_110.l.n) (cap := x_110.l.k) rfl Tryz.runUnderlying45 Tryz.sizeOf49 (by kernel_rfl) (by kernel_rfl) hq_136) ?_
  refine wU [8] ?_
  refine wLd (.slice x_131.deps.a x_131.deps.n x_131.deps.k) 3 Tryz.isAgg22 ?_
  refine wU [10] ?_
  refine wN ?_
  refine thenK_n <| blockE ?_
  have hS_138 := ((((hS_137.pick 4 rfl).pick 4 rfl).pick 4 rfl).pick 4 rfl)
  refine loopA (γ := Nat) (fun j => [(5, .slice aj_8 nj_9 kj_10), (6, .slice (partAddr az kz 0 7) (n - 0) (kz - 0)), (12, .map (some b_80)), (13, .int .i64 ((i : Nat) : Int)), (14, .pointer (some ⟨b_102, 0, none⟩)), (148, .slice x_131.deps.a x_131.deps.n x_131.deps.k), (149, .int .i64 ((x_131.deps.n : Nat) : Int)), (150, .int .i64 ((j : Nat) : Int))]) (fun j w => Sat W w (cj_12 :: Gj_13 :: C :: c_120 :: [(b_102, .cells #[.int .i64 x_89.refJob, .int .i64 x_89.refTask] 40 (0, 0))] :: H :: F) ∧ j ≤ x_131.deps.n) (fun j => x_131.deps.n - j) 0 ⟨hS_138, by omega⟩ ?_
  rintro j ρ w_139 ⟨hS_140, hj⟩
  have hdn_ := ((hDj_22 x_110 (List.mem_of_getElem? hx_127)).lD x_131 (List.mem_of_getElem? hx_134)).deps.len; have hdk_ := ((hDj_22 x_110 (List.mem_of_getElem? hx_127)).lD x_131 (List.mem_of_getElem? hx_134)).deps.le
  refine seqE <| regionE <| pu1 <| nilO <| thenK_n <| seqE ?_
  refine cD (((j : Nat) : Int) < ((x_131.deps.n : Nat) : Int)) (fun hc_141 => ?_) (fun hc_141 => ?_)
  rotate_left
  · refine exitE <| thenK_x <| thenK_x <| blockK_x <| blockK_n <| thenK_n <| regionE <| pu1 ?_
    refine sAdd ((i : Nat) : Int) 1 ?_
    refine pu1 <| nilO <| thenK_n <| ?_
    have hS_148 := (hS_140.dropAt 4 rfl)
    exact ⟨(i + 1, (ks ++ [(x_89.refJob, x_89.refTask)]), c_120), by first | omega | (dsimp only; omega), alA, hS_148, by omega, hM_121, hbs_⟩
  refine skipE <| thenK_n <| seqE <| blockE <| seqE <| regionE ?_
  refine sIdx ((hDj_22 x_110 (List.mem_of_getElem? hx_127)).lD x_131 (List.mem_of_getElem? hx_134)).deps ((j : Nat) : Int) Tryz.runUnderlying22 Tryz.sizeOf3 ?_
  intro x_142 b_143 o_144 hx_145 hp_146
  rw [Int.toNat_natCast] at hx_145
  refine sLp hS_140 (hp_146.up 1 rfl) 0 (.int .i64 x_142) (Tryz.isAgg3 _) ?_
  refine pu1 <| nilO <| thenK_n <| seqE <| regionE <| pu2 ?_
  refine sL hS_140 4 0 (.int .i64 x_89.refJob) (Tryz.isAgg3 _) ?_
  refine pu2 ?_
  refine stepY (.bool (decide ((x_89.refJob, x_142) ∈ (ks ++ [(x_89.refJob, x_89.refTask)])))) rfl rfl (Y_mapget (u := x_89.refJob) (v := x_142) hS_140 3 rfl hM_121 key2P Tryz.runUnderlying44 Tryz.zeroValue4) ?_
  refine pu1 <| nilO <| thenK_n <| ?_
  have hc_147 : (x_89.refJob, x_142) ∈ (ks ++ [(x_89.refJob, x_89.refTask)]) := (List.mem_append_left _ (hde_ x_142 (List.mem_of_getElem? hx_145)))
  refine cF _ (congrArg Bool.not (decide_eq_true hc_147)) ?_
  refine skipE <| blockK_n <| thenK_n <| regionE ?_
  refine sAdd ((j : Nat) : Int) 1 ?_
  refine pu1 <| nilO <| thenK_n <| ?_
  exact ⟨j + 1, by first | omega | (dsimp only; omega), alA, hS_140, by omega⟩
end Go.Proofs.YtimkhljglpookaaGreat
