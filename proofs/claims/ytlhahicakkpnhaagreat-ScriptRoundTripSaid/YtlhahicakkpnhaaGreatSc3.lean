import Derived.Test.YtlhahicakkpnhaaGreatSc2
import Derived.Test.YtlhahicakkpnhaaGreatMap
namespace Go.Proofs.YtlhahicakkpnhaaGreat
open Go Go.E
set_option linter.unusedVariables false
set_option linter.unusedSimpArgs false
set_option linter.unnecessarySimpa false
set_option maxRecDepth 100000
set_option maxHeartbeats 2000000
variable {W w : World} {H : Chunk} {F : List Chunk}
theorem sane_d : decS [8, 1, 2, 9] = [⟨1, 1, 2⟩] := by decide +kernel
theorem sane_e : bytE [(⟨6, 255, 0⟩ : Ent)] = [6, 255, 0] := by decide +kernel
theorem l30_sane (hS : Sat W w (H :: F)) :
    Ro Tryz.prog 12 #[] (.bool true) W w (H :: F) := by
  refine callsA 72 Tryz.func12 rfl ?_
  refine seqE <| regionE <| pu1 <| nilO <| thenK_n <| seqE <| regionE ?_
  refine sBS hS #[.int .u8 8, .int .u8 1, .int .u8 2, .int .u8 9] Tryz.runUnderlying23 Tryz.sizeOf5 Tryz.zeroValue5 ?_
  intro b_1 w_2 hS_3
  refine cX Tryz.call10 (p30_dec (some ⟨b_1, 0, none⟩) 4 4 ([8, 1, 2, 9]) (RdT.flat (RdT.blk (enc := encB) (sz := 1) (xs := [8, 1, 2, 9]) (fun _ => (by rfl)) 4 0 rfl rfl rfl (by omega))) (by intro b hb; simp at hb; omega) (by omega) (Sat.flat hS_3)) ?_
  rintro _ w_4 ⟨az_7, nz_8, kz_9, G_10, rfl, hR_11, h_6⟩
  have hS_5 := Sat.unflat1 h_6
  have hn_az_7 := hR_11.len; have hl_az_7 := hR_11.le
  refine pu1 <| nilO ?_
  rw [sane_d] at hR_11
  have hl1 : nz_8 = 1 := by have h := hR_11.len; exact h.symm
  refine thenK_n <| seqE <| regionE <| pu1 ?_
  refine sBS hS_5 #[.int .i64 6, .int .i64 255, .int .i64 0] Tryz.runUnderlying24 Tryz.sizeOf37 Tryz.zeroValue37 ?_
  intro b_12 w_13 hS_14
  refine cX Tryz.call7 (p30_enc (some ⟨b_12, 0, none⟩) 1 1 ([(⟨6, 255, 0⟩ : Ent)]) (RdT.flat (RdT.blk (enc := encEnt) (sz := 3) (xs := [(⟨6, 255, 0⟩ : Ent)]) (fun _ => (by rfl)) 1 0 rfl rfl rfl (by omega))) (Sat.flat hS_14)) ?_
  rintro _ w_15 ⟨az_18, nz_19, kz_20, G_21, rfl, hR_22, h_17⟩
  have hS_16 := Sat.unflat1 h_17
  have hn_az_18 := hR_22.len; have hl_az_18 := hR_22.le
  have hbl_23 : (bytE ([(⟨6, 255, 0⟩ : Ent)])).length ≤ 196608 := bytE_len _
  refine pu5 <| nilO ?_
  rw [sane_e] at hR_22
  have hl2 : nz_19 = 3 := by have h := hR_22.len; exact h.symm
  refine thenK_n <| seqE <| regionE <| pu3 ?_
  refine sBS hS_16 #[.int .i64 5, .int .i64 0, .int .i64 0, .int .i64 9, .int .i64 0, .int .i64 0] Tryz.runUnderlying24 Tryz.sizeOf37 Tryz.zeroValue37 ?_
  intro b_24 w_25 hS_26
  refine sF #[.agg #[.int .i64 1, .int .i64 1, .int .i64 1, .int .i64 0, .int .i64 1, .int .i64 9, .int .i64 1, .int .i64 1], .slice none 0 0, .slice (some ⟨b_24, 0, none⟩) 2 2] Tryz.call16 ?_
  refine callsA 48 Tryz.func16 rfl ?_
  refine seqE <| regionE ?_
  refine sBox hS_26 (.agg #[.int .i64 1, .int .i64 1, .int .i64 1, .int .i64 0, .int .i64 1, .int .i64 9, .int .i64 1, .int .i64 1]) #[.int .i64 1, .int .i64 1, .int .i64 1, .int .i64 0, .int .i64 1, .int .i64 9, .int .i64 1, .int .i64 1] ?_
  intro b_27 w_28 hS_29
  refine pu1 ?_
  refine sAlloc hS_29 Tryz.zeroValue44 ?_
  intro b_30 w_31 hS_32
  refine pu1 <| nilO <| thenK_n <| seqE <| regionE ?_
  refine lA hS_32 1 0 8 (Tryz.isAgg48 _) (Tryz.sizeOf48 _) ?_
  refine sF #[.agg #[.int .i64 1, .int .i64 1, .int .i64 1, .int .i64 0, .int .i64 1, .int .i64 9, .int .i64 1, .int .i64 1]] Tryz.call19 ?_
  refine callsA 24 Tryz.func19 rfl ?_
  refine seqE <| regionE ?_
  refine sBox hS_32 (.agg #[.int .i64 1, .int .i64 1, .int .i64 1, .int .i64 0, .int .i64 1, .int .i64 9, .int .i64 1, .int .i64 1]) #[.int .i64 1, .int .i64 1, .int .i64 1, .int .i64 0, .int .i64 1, .int .i64 9, .int .i64 1, .int .i64 1] ?_
  intro b_33 w_34 hS_35
  refine pu2 <| nilO <| thenK_n <| seqE <| seqE <| regionE ?_
  refine lA hS_35 0 0 8 (Tryz.isAgg48 _) (Tryz.sizeOf48 _) ?_
  refine sF #[.agg #[.int .i64 1, .int .i64 1, .int .i64 1, .int .i64 0, .int .i64 1, .int .i64 9, .int .i64 1, .int .i64 1]] Tryz.call22 ?_
  refine callsA 44 Tryz.func22 rfl ?_
  refine seqE <| regionE ?_
  refine sBox hS_35 (.agg #[.int .i64 1, .int .i64 1, .int .i64 1, .int .i64 0, .int .i64 1, .int .i64 9, .int .i64 1, .int .i64 1]) #[.int .i64 1, .int .i64 1, .int .i64 1, .int .i64 0, .int .i64 1, .int .i64 9, .int .i64 1, .int .i64 1] ?_
  intro b_36 w_37 hS_38
  refine pu1 <| nilO <| thenK_n <| seqE <| regionE <| pu1 ?_
  refine sL hS_38 0 0 (.int .i64 1) (Tryz.isAgg3 _) ?_
  refine sF #[.int .i64 1, .int .i64 1, .int .i64 64] Tryz.call34 ?_
  refine callsA 15 Tryz.func34 rfl ?_
  refine seqE <| regionE <| pu1 <| nilO <| thenK_n <| seqE <| regionE <| pu9 <| nilO <| thenK_n <| retE <| retT [.bool true] <| ?_
  refine ⟨_, rfl, ?_⟩
  have hS_39 : Sat W _ ([(b_36, .cells #[.int .i64 1, .int .i64 1, .int .i64 1, .int .i64 0, .int .i64 1, .int .i64 9, .int .i64 1, .int .i64 1] 48 (0, 0))] :: [(b_33, .cells #[.int .i64 1, .int .i64 1, .int .i64 1, .int .i64 0, .int .i64 1, .int .i64 9, .int .i64 1, .int .i64 1] 48 (0, 0))] :: [(b_30, .cells #[.int .i64 0, .int .i64 0, .int .i64 0, .int .i64 0, .int .i64 0, .int .i64 0, .int .i64 0, .int .i64 0, .int .i64 0, .int .i64 0] 44 (0, 0))] :: [(b_27, .cells #[.int .i64 1, .int .i64 1, .int .i64 1, .int .i64 0, .int .i64 1, .int .i64 9, .int .i64 1, .int .i64 1] 48 (0, 0))] :: [(b_24, .cells #[.int .i64 5, .int .i64 0, .int .i64 0, .int .i64 9, .int .i64 0, .int .i64 0] 37 (0, 0))] :: G_21 :: [(b_12, .cells #[.int .i64 6, .int .i64 255, .int .i64 0] 37 (0, 0))] :: G_10 :: [(b_1, .cells #[.int .u8 8, .int .u8 1, .int .u8 2, .int .u8 9] 5 (0, 0))] :: H :: F) := hS_38
  clear hS_38
  refine pu2 <| gY ?_
  refine sL hS_39 0 1 (.int .i64 1) (Tryz.isAgg3 _) ?_
  refine gY ?_
  refine sF #[.int .i64 1, .int .i64 1, .int .i64 64] Tryz.call34 ?_
  refine callsA 15 Tryz.func34 rfl ?_
  refine seqE <| regionE <| pu1 <| nilO <| thenK_n <| seqE <| regionE <| pu9 <| nilO <| thenK_n <| retE <| retT [.bool true] <| ?_
  refine ⟨_, rfl, ?_⟩
  have hS_40 : Sat W _ ([(b_36, .cells #[.int .i64 1, .int .i64 1, .int .i64 1, .int .i64 0, .int .i64 1, .int .i64 9, .int .i64 1, .int .i64 1] 48 (0, 0))] :: [(b_33, .cells #[.int .i64 1, .int .i64 1, .int .i64 1, .int .i64 0, .int .i64 1, .int .i64 9, .int .i64 1, .int .i64 1] 48 (0, 0))] :: [(b_30, .cells #[.int .i64 0, .int .i64 0, .int .i64 0, .int .i64 0, .int .i64 0, .int .i64 0, .int .i64 0, .int .i64 0, .int .i64 0, .int .i64 0] 44 (0, 0))] :: [(b_27, .cells #[.int .i64 1, .int .i64 1, .int .i64 1, .int .i64 0, .int .i64 1, .int .i64 9, .int .i64 1, .int .i64 1] 48 (0, 0))] :: [(b_24, .cells #[.int .i64 5, .int .i64 0, .int .i64 0, .int .i64 9, .int .i64 0, .int .i64 0] 37 (0, 0))] :: G_21 :: [(b_12, .cells #[.int .i64 6, .int .i64 255, .int .i64 0] 37 (0, 0))] :: G_10 :: [(b_1, .cells #[.int .u8 8, .int .u8 1, .int .u8 2, .int .u8 9] 5 (0, 0))] :: H :: F) := hS_39
  clear hS_39
  refine pu3 <| gY ?_
  refine sL hS_40 0 2 (.int .i64 1) (Tryz.isAgg3 _) ?_
  refine gY ?_
  refine sF #[.int .i64 1, .int .i64 1, .int .i64 64] Tryz.call34 ?_
  refine callsA 15 Tryz.func34 rfl ?_
  refine seqE <| regionE <| pu1 <| nilO <| thenK_n <| seqE <| regionE <| pu9 <| nilO <| thenK_n <| retE <| retT [.bool true] <| ?_
  refine ⟨_, rfl, ?_⟩
  have hS_41 : Sat W _ ([(b_36, .cells #[.int .i64 1, .int .i64 1, .int .i64 1, .int .i64 0, .int .i64 1, .int .i64 9, .int .i64 1, .int .i64 1] 48 (0, 0))] :: [(b_33, .cells #[.int .i64 1, .int .i64 1, .int .i64 1, .int .i64 0, .int .i64 1, .int .i64 9, .int .i64 1, .int .i64 1] 48 (0, 0))] :: [(b_30, .cells #[.int .i64 0, .int .i64 0, .int .i64 0, .int .i64 0, .int .i64 0, .int .i64 0, .int .i64 0, .int .i64 0, .int .i64 0, .int .i64 0] 44 (0, 0))] :: [(b_27, .cells #[.int .i64 1, .int .i64 1, .int .i64 1, .int .i64 0, .int .i64 1, .int .i64 9, .int .i64 1, .int .i64 1] 48 (0, 0))] :: [(b_24, .cells #[.int .i64 5, .int .i64 0, .int .i64 0, .int .i64 9, .int .i64 0, .int .i64 0] 37 (0, 0))] :: G_21 :: [(b_12, .cells #[.int .i64 6, .int .i64 255, .int .i64 0] 37 (0, 0))] :: G_10 :: [(b_1, .cells #[.int .u8 8, .int .u8 1, .int .u8 2, .int .u8 9] 5 (0, 0))] :: H :: F) := hS_40
  clear hS_40
  refine pu3 <| gY ?_
  refine sL hS_41 0 3 (.int .i64 0) (Tryz.isAgg3 _) ?_
  refine gY ?_
  refine sF #[.int .i64 0, .int .i64 0, .int .i64 1048576] Tryz.call34 ?_
  refine callsA 15 Tryz.func34 rfl ?_
  refine seqE <| regionE <| pu1 <| nilO <| thenK_n <| seqE <| regionE <| pu9 <| nilO <| thenK_n <| retE <| retT [.bool true] <| ?_
  refine ⟨_, rfl, ?_⟩
  have hS_42 : Sat W _ ([(b_36, .cells #[.int .i64 1, .int .i64 1, .int .i64 1, .int .i64 0, .int .i64 1, .int .i64 9, .int .i64 1, .int .i64 1] 48 (0, 0))] :: [(b_33, .cells #[.int .i64 1, .int .i64 1, .int .i64 1, .int .i64 0, .int .i64 1, .int .i64 9, .int .i64 1, .int .i64 1] 48 (0, 0))] :: [(b_30, .cells #[.int .i64 0, .int .i64 0, .int .i64 0, .int .i64 0, .int .i64 0, .int .i64 0, .int .i64 0, .int .i64 0, .int .i64 0, .int .i64 0] 44 (0, 0))] :: [(b_27, .cells #[.int .i64 1, .int .i64 1, .int .i64 1, .int .i64 0, .int .i64 1, .int .i64 9, .int .i64 1, .int .i64 1] 48 (0, 0))] :: [(b_24, .cells #[.int .i64 5, .int .i64 0, .int .i64 0, .int .i64 9, .int .i64 0, .int .i64 0] 37 (0, 0))] :: G_21 :: [(b_12, .cells #[.int .i64 6, .int .i64 255, .int .i64 0] 37 (0, 0))] :: G_10 :: [(b_1, .cells #[.int .u8 8, .int .u8 1, .int .u8 2, .int .u8 9] 5 (0, 0))] :: H :: F) := hS_41
  clear hS_41
  refine pu3 <| gY ?_
  refine sL hS_42 0 4 (.int .i64 1) (Tryz.isAgg3 _) ?_
  refine gY ?_
  refine sF #[.int .i64 1, .int .i64 1, .int .i64 256] Tryz.call34 ?_
  refine callsA 15 Tryz.func34 rfl ?_
  refine seqE <| regionE <| pu1 <| nilO <| thenK_n <| seqE <| regionE <| pu9 <| nilO <| thenK_n <| retE <| retT [.bool true] <| ?_
  refine ⟨_, rfl, ?_⟩
  have hS_43 : Sat W _ ([(b_36, .cells #[.int .i64 1, .int .i64 1, .int .i64 1, .int .i64 0, .int .i64 1, .int .i64 9, .int .i64 1, .int .i64 1] 48 (0, 0))] :: [(b_33, .cells #[.int .i64 1, .int .i64 1, .int .i64 1, .int .i64 0, .int .i64 1, .int .i64 9, .int .i64 1, .int .i64 1] 48 (0, 0))] :: [(b_30, .cells #[.int .i64 0, .int .i64 0, .int .i64 0, .int .i64 0, .int .i64 0, .int .i64 0, .int .i64 0, .int .i64 0, .int .i64 0, .int .i64 0] 44 (0, 0))] :: [(b_27, .cells #[.int .i64 1, .int .i64 1, .int .i64 1, .int .i64 0, .int .i64 1, .int .i64 9, .int .i64 1, .int .i64 1] 48 (0, 0))] :: [(b_24, .cells #[.int .i64 5, .int .i64 0, .int .i64 0, .int .i64 9, .int .i64 0, .int .i64 0] 37 (0, 0))] :: G_21 :: [(b_12, .cells #[.int .i64 6, .int .i64 255, .int .i64 0] 37 (0, 0))] :: G_10 :: [(b_1, .cells #[.int .u8 8, .int .u8 1, .int .u8 2, .int .u8 9] 5 (0, 0))] :: H :: F) := hS_42
  clear hS_42
  refine pu3 <| gY ?_
  refine sL hS_43 0 5 (.int .i64 9) (Tryz.isAgg3 _) ?_
  refine gY ?_
  refine sF #[.int .i64 9, .int .i64 1, .int .i64 4096] Tryz.call34 ?_
  refine callsA 15 Tryz.func34 rfl ?_
  refine seqE <| regionE <| pu1 <| nilO <| thenK_n <| seqE <| regionE <| pu9 <| nilO <| thenK_n <| retE <| retT [.bool true] <| ?_
  refine ⟨_, rfl, ?_⟩
  have hS_44 : Sat W _ ([(b_36, .cells #[.int .i64 1, .int .i64 1, .int .i64 1, .int .i64 0, .int .i64 1, .int .i64 9, .int .i64 1, .int .i64 1] 48 (0, 0))] :: [(b_33, .cells #[.int .i64 1, .int .i64 1, .int .i64 1, .int .i64 0, .int .i64 1, .int .i64 9, .int .i64 1, .int .i64 1] 48 (0, 0))] :: [(b_30, .cells #[.int .i64 0, .int .i64 0, .int .i64 0, .int .i64 0, .int .i64 0, .int .i64 0, .int .i64 0, .int .i64 0, .int .i64 0, .int .i64 0] 44 (0, 0))] :: [(b_27, .cells #[.int .i64 1, .int .i64 1, .int .i64 1, .int .i64 0, .int .i64 1, .int .i64 9, .int .i64 1, .int .i64 1] 48 (0, 0))] :: [(b_24, .cells #[.int .i64 5, .int .i64 0, .int .i64 0, .int .i64 9, .int .i64 0, .int .i64 0] 37 (0, 0))] :: G_21 :: [(b_12, .cells #[.int .i64 6, .int .i64 255, .int .i64 0] 37 (0, 0))] :: G_10 :: [(b_1, .cells #[.int .u8 8, .int .u8 1, .int .u8 2, .int .u8 9] 5 (0, 0))] :: H :: F) := hS_43
  clear hS_43
  refine pu3 <| gY ?_
  refine sL hS_44 0 6 (.int .i64 1) (Tryz.isAgg3 _) ?_
  refine gY ?_
  refine sF #[.int .i64 1, .int .i64 1, .int .i64 1048576] Tryz.call34 ?_
  refine callsA 15 Tryz.func34 rfl ?_
  refine seqE <| regionE <| pu1 <| nilO <| thenK_n <| seqE <| regionE <| pu9 <| nilO <| thenK_n <| retE <| retT [.bool true] <| ?_
  refine ⟨_, rfl, ?_⟩
  have hS_45 : Sat W _ ([(b_36, .cells #[.int .i64 1, .int .i64 1, .int .i64 1, .int .i64 0, .int .i64 1, .int .i64 9, .int .i64 1, .int .i64 1] 48 (0, 0))] :: [(b_33, .cells #[.int .i64 1, .int .i64 1, .int .i64 1, .int .i64 0, .int .i64 1, .int .i64 9, .int .i64 1, .int .i64 1] 48 (0, 0))] :: [(b_30, .cells #[.int .i64 0, .int .i64 0, .int .i64 0, .int .i64 0, .int .i64 0, .int .i64 0, .int .i64 0, .int .i64 0, .int .i64 0, .int .i64 0] 44 (0, 0))] :: [(b_27, .cells #[.int .i64 1, .int .i64 1, .int .i64 1, .int .i64 0, .int .i64 1, .int .i64 9, .int .i64 1, .int .i64 1] 48 (0, 0))] :: [(b_24, .cells #[.int .i64 5, .int .i64 0, .int .i64 0, .int .i64 9, .int .i64 0, .int .i64 0] 37 (0, 0))] :: G_21 :: [(b_12, .cells #[.int .i64 6, .int .i64 255, .int .i64 0] 37 (0, 0))] :: G_10 :: [(b_1, .cells #[.int .u8 8, .int .u8 1, .int .u8 2, .int .u8 9] 5 (0, 0))] :: H :: F) := hS_44
  clear hS_44
  refine pu3 <| gY ?_
  refine sL hS_45 0 7 (.int .i64 1) (Tryz.isAgg3 _) ?_
  refine gY ?_
  refine sF #[.int .i64 1, .int .i64 1, .int .i64 64] Tryz.call34 ?_
  refine callsA 15 Tryz.func34 rfl ?_
  refine seqE <| regionE <| pu1 <| nilO <| thenK_n <| seqE <| regionE <| pu9 <| nilO <| thenK_n <| retE <| retT [.bool true] <| ?_
  refine ⟨_, rfl, ?_⟩
  have hS_46 : Sat W _ ([(b_36, .cells #[.int .i64 1, .int .i64 1, .int .i64 1, .int .i64 0, .int .i64 1, .int .i64 9, .int .i64 1, .int .i64 1] 48 (0, 0))] :: [(b_33, .cells #[.int .i64 1, .int .i64 1, .int .i64 1, .int .i64 0, .int .i64 1, .int .i64 9, .int .i64 1, .int .i64 1] 48 (0, 0))] :: [(b_30, .cells #[.int .i64 0, .int .i64 0, .int .i64 0, .int .i64 0, .int .i64 0, .int .i64 0, .int .i64 0, .int .i64 0, .int .i64 0, .int .i64 0] 44 (0, 0))] :: [(b_27, .cells #[.int .i64 1, .int .i64 1, .int .i64 1, .int .i64 0, .int .i64 1, .int .i64 9, .int .i64 1, .int .i64 1] 48 (0, 0))] :: [(b_24, .cells #[.int .i64 5, .int .i64 0, .int .i64 0, .int .i64 9, .int .i64 0, .int .i64 0] 37 (0, 0))] :: G_21 :: [(b_12, .cells #[.int .i64 6, .int .i64 255, .int .i64 0] 37 (0, 0))] :: G_10 :: [(b_1, .cells #[.int .u8 8, .int .u8 1, .int .u8 2, .int .u8 9] 5 (0, 0))] :: H :: F) := hS_45
  clear hS_45
  refine pu2 <| nilO <| thenK_n <| seqE <| seqE <| regionE <| pu2 <| nilO <| thenK_n <| cFf <| skipE <| thenK_n <| seqE <| regionE <| pu1 <| nilO <| thenK_n <| retE <| retT [.int .i64 0] <| ?_
  refine ⟨_, rfl, ?_⟩
  have hS_47 := (hS_46.dropAt 0 rfl)
  have hS_48 : Sat W _ ([(b_33, .cells #[.int .i64 1, .int .i64 1, .int .i64 1, .int .i64 0, .int .i64 1, .int .i64 9, .int .i64 1, .int .i64 1] 48 (0, 0))] :: [(b_30, .cells #[.int .i64 0, .int .i64 0, .int .i64 0, .int .i64 0, .int .i64 0, .int .i64 0, .int .i64 0, .int .i64 0, .int .i64 0, .int .i64 0] 44 (0, 0))] :: [(b_27, .cells #[.int .i64 1, .int .i64 1, .int .i64 1, .int .i64 0, .int .i64 1, .int .i64 9, .int .i64 1, .int .i64 1] 48 (0, 0))] :: [(b_24, .cells #[.int .i64 5, .int .i64 0, .int .i64 0, .int .i64 9, .int .i64 0, .int .i64 0] 37 (0, 0))] :: G_21 :: [(b_12, .cells #[.int .i64 6, .int .i64 255, .int .i64 0] 37 (0, 0))] :: G_10 :: [(b_1, .cells #[.int .u8 8, .int .u8 1, .int .u8 2, .int .u8 9] 5 (0, 0))] :: H :: F) := hS_47
  clear hS_47
  refine pu1 <| nilO <| thenK_n <| seqE <| regionE <| pu2 <| nilO <| thenK_n <| cFf <| skipE <| thenK_n <| seqE <| regionE ?_
  refine lA hS_48 0 0 8 (Tryz.isAgg48 _) (Tryz.sizeOf48 _) ?_
  refine sF #[.agg #[.int .i64 1, .int .i64 1, .int .i64 1, .int .i64 0, .int .i64 1, .int .i64 9, .int .i64 1, .int .i64 1]] Tryz.call23 ?_
  refine callsA 66 Tryz.func23 rfl ?_
  refine seqE <| regionE ?_
  refine sBox hS_48 (.agg #[.int .i64 1, .int .i64 1, .int .i64 1, .int .i64 0, .int .i64 1, .int .i64 9, .int .i64 1, .int .i64 1]) #[.int .i64 1, .int .i64 1, .int .i64 1, .int .i64 0, .int .i64 1, .int .i64 9, .int .i64 1, .int .i64 1] ?_
  intro b_49 w_50 hS_51
  refine pu2 <| nilO <| thenK_n <| seqE <| seqE <| regionE ?_
  refine lA hS_51 0 0 8 (Tryz.isAgg48 _) (Tryz.sizeOf48 _) ?_
  refine sF #[.agg #[.int .i64 1, .int .i64 1, .int .i64 1, .int .i64 0, .int .i64 1, .int .i64 9, .int .i64 1, .int .i64 1]] Tryz.call22 ?_
  refine callsA 44 Tryz.func22 rfl ?_
  refine seqE <| regionE ?_
  refine sBox hS_51 (.agg #[.int .i64 1, .int .i64 1, .int .i64 1, .int .i64 0, .int .i64 1, .int .i64 9, .int .i64 1, .int .i64 1]) #[.int .i64 1, .int .i64 1, .int .i64 1, .int .i64 0, .int .i64 1, .int .i64 9, .int .i64 1, .int .i64 1] ?_
  intro b_52 w_53 hS_54
  refine pu1 <| nilO <| thenK_n <| seqE <| regionE <| pu1 ?_
  refine sL hS_54 0 0 (.int .i64 1) (Tryz.isAgg3 _) ?_
  refine sF #[.int .i64 1, .int .i64 1, .int .i64 64] Tryz.call34 ?_
  refine callsA 15 Tryz.func34 rfl ?_
  refine seqE <| regionE <| pu1 <| nilO <| thenK_n <| seqE <| regionE <| pu9 <| nilO <| thenK_n <| retE <| retT [.bool true] <| ?_
  refine ⟨_, rfl, ?_⟩
  have hS_55 : Sat W _ ([(b_52, .cells #[.int .i64 1, .int .i64 1, .int .i64 1, .int .i64 0, .int .i64 1, .int .i64 9, .int .i64 1, .int .i64 1] 48 (0, 0))] :: [(b_49, .cells #[.int .i64 1, .int .i64 1, .int .i64 1, .int .i64 0, .int .i64 1, .int .i64 9, .int .i64 1, .int .i64 1] 48 (0, 0))] :: [(b_33, .cells #[.int .i64 1, .int .i64 1, .int .i64 1, .int .i64 0, .int .i64 1, .int .i64 9, .int .i64 1, .int .i64 1] 48 (0, 0))] :: [(b_30, .cells #[.int .i64 0, .int .i64 0, .int .i64 0, .int .i64 0, .int .i64 0, .int .i64 0, .int .i64 0, .int .i64 0, .int .i64 0, .int .i64 0] 44 (0, 0))] :: [(b_27, .cells #[.int .i64 1, .int .i64 1, .int .i64 1, .int .i64 0, .int .i64 1, .int .i64 9, .int .i64 1, .int .i64 1] 48 (0, 0))] :: [(b_24, .cells #[.int .i64 5, .int .i64 0, .int .i64 0, .int .i64 9, .int .i64 0, .int .i64 0] 37 (0, 0))] :: G_21 :: [(b_12, .cells #[.int .i64 6, .int .i64 255, .int .i64 0] 37 (0, 0))] :: G_10 :: [(b_1, .cells #[.int .u8 8, .int .u8 1, .int .u8 2, .int .u8 9] 5 (0, 0))] :: H :: F) := hS_54
  clear hS_54
  refine pu2 <| gY ?_
  refine sL hS_55 0 1 (.int .i64 1) (Tryz.isAgg3 _) ?_
  refine gY ?_
  refine sF #[.int .i64 1, .int .i64 1, .int .i64 64] Tryz.call34 ?_
  refine callsA 15 Tryz.func34 rfl ?_
  refine seqE <| regionE <| pu1 <| nilO <| thenK_n <| seqE <| regionE <| pu9 <| nilO <| thenK_n <| retE <| retT [.bool true] <| ?_
  refine ⟨_, rfl, ?_⟩
  have hS_56 : Sat W _ ([(b_52, .cells #[.int .i64 1, .int .i64 1, .int .i64 1, .int .i64 0, .int .i64 1, .int .i64 9, .int .i64 1, .int .i64 1] 48 (0, 0))] :: [(b_49, .cells #[.int .i64 1, .int .i64 1, .int .i64 1, .int .i64 0, .int .i64 1, .int .i64 9, .int .i64 1, .int .i64 1] 48 (0, 0))] :: [(b_33, .cells #[.int .i64 1, .int .i64 1, .int .i64 1, .int .i64 0, .int .i64 1, .int .i64 9, .int .i64 1, .int .i64 1] 48 (0, 0))] :: [(b_30, .cells #[.int .i64 0, .int .i64 0, .int .i64 0, .int .i64 0, .int .i64 0, .int .i64 0, .int .i64 0, .int .i64 0, .int .i64 0, .int .i64 0] 44 (0, 0))] :: [(b_27, .cells #[.int .i64 1, .int .i64 1, .int .i64 1, .int .i64 0, .int .i64 1, .int .i64 9, .int .i64 1, .int .i64 1] 48 (0, 0))] :: [(b_24, .cells #[.int .i64 5, .int .i64 0, .int .i64 0, .int .i64 9, .int .i64 0, .int .i64 0] 37 (0, 0))] :: G_21 :: [(b_12, .cells #[.int .i64 6, .int .i64 255, .int .i64 0] 37 (0, 0))] :: G_10 :: [(b_1, .cells #[.int .u8 8, .int .u8 1, .int .u8 2, .int .u8 9] 5 (0, 0))] :: H :: F) := hS_55
  clear hS_55
  refine pu3 <| gY ?_
  refine sL hS_56 0 2 (.int .i64 1) (Tryz.isAgg3 _) ?_
  refine gY ?_
  refine sF #[.int .i64 1, .int .i64 1, .int .i64 64] Tryz.call34 ?_
  refine callsA 15 Tryz.func34 rfl ?_
  refine seqE <| regionE <| pu1 <| nilO <| thenK_n <| seqE <| regionE <| pu9 <| nilO <| thenK_n <| retE <| retT [.bool true] <| ?_
  refine ⟨_, rfl, ?_⟩
  have hS_57 : Sat W _ ([(b_52, .cells #[.int .i64 1, .int .i64 1, .int .i64 1, .int .i64 0, .int .i64 1, .int .i64 9, .int .i64 1, .int .i64 1] 48 (0, 0))] :: [(b_49, .cells #[.int .i64 1, .int .i64 1, .int .i64 1, .int .i64 0, .int .i64 1, .int .i64 9, .int .i64 1, .int .i64 1] 48 (0, 0))] :: [(b_33, .cells #[.int .i64 1, .int .i64 1, .int .i64 1, .int .i64 0, .int .i64 1, .int .i64 9, .int .i64 1, .int .i64 1] 48 (0, 0))] :: [(b_30, .cells #[.int .i64 0, .int .i64 0, .int .i64 0, .int .i64 0, .int .i64 0, .int .i64 0, .int .i64 0, .int .i64 0, .int .i64 0, .int .i64 0] 44 (0, 0))] :: [(b_27, .cells #[.int .i64 1, .int .i64 1, .int .i64 1, .int .i64 0, .int .i64 1, .int .i64 9, .int .i64 1, .int .i64 1] 48 (0, 0))] :: [(b_24, .cells #[.int .i64 5, .int .i64 0, .int .i64 0, .int .i64 9, .int .i64 0, .int .i64 0] 37 (0, 0))] :: G_21 :: [(b_12, .cells #[.int .i64 6, .int .i64 255, .int .i64 0] 37 (0, 0))] :: G_10 :: [(b_1, .cells #[.int .u8 8, .int .u8 1, .int .u8 2, .int .u8 9] 5 (0, 0))] :: H :: F) := hS_56
  clear hS_56
  refine pu3 <| gY ?_
  refine sL hS_57 0 3 (.int .i64 0) (Tryz.isAgg3 _) ?_
  refine gY ?_
  refine sF #[.int .i64 0, .int .i64 0, .int .i64 1048576] Tryz.call34 ?_
  refine callsA 15 Tryz.func34 rfl ?_
  refine seqE <| regionE <| pu1 <| nilO <| thenK_n <| seqE <| regionE <| pu9 <| nilO <| thenK_n <| retE <| retT [.bool true] <| ?_
  refine ⟨_, rfl, ?_⟩
  have hS_58 : Sat W _ ([(b_52, .cells #[.int .i64 1, .int .i64 1, .int .i64 1, .int .i64 0, .int .i64 1, .int .i64 9, .int .i64 1, .int .i64 1] 48 (0, 0))] :: [(b_49, .cells #[.int .i64 1, .int .i64 1, .int .i64 1, .int .i64 0, .int .i64 1, .int .i64 9, .int .i64 1, .int .i64 1] 48 (0, 0))] :: [(b_33, .cells #[.int .i64 1, .int .i64 1, .int .i64 1, .int .i64 0, .int .i64 1, .int .i64 9, .int .i64 1, .int .i64 1] 48 (0, 0))] :: [(b_30, .cells #[.int .i64 0, .int .i64 0, .int .i64 0, .int .i64 0, .int .i64 0, .int .i64 0, .int .i64 0, .int .i64 0, .int .i64 0, .int .i64 0] 44 (0, 0))] :: [(b_27, .cells #[.int .i64 1, .int .i64 1, .int .i64 1, .int .i64 0, .int .i64 1, .int .i64 9, .int .i64 1, .int .i64 1] 48 (0, 0))] :: [(b_24, .cells #[.int .i64 5, .int .i64 0, .int .i64 0, .int .i64 9, .int .i64 0, .int .i64 0] 37 (0, 0))] :: G_21 :: [(b_12, .cells #[.int .i64 6, .int .i64 255, .int .i64 0] 37 (0, 0))] :: G_10 :: [(b_1, .cells #[.int .u8 8, .int .u8 1, .int .u8 2, .int .u8 9] 5 (0, 0))] :: H :: F) := hS_57
  clear hS_57
  refine pu3 <| gY ?_
  refine sL hS_58 0 4 (.int .i64 1) (Tryz.isAgg3 _) ?_
  refine gY ?_
  refine sF #[.int .i64 1, .int .i64 1, .int .i64 256] Tryz.call34 ?_
  refine callsA 15 Tryz.func34 rfl ?_
  refine seqE <| regionE <| pu1 <| nilO <| thenK_n <| seqE <| regionE <| pu9 <| nilO <| thenK_n <| retE <| retT [.bool true] <| ?_
  refine ⟨_, rfl, ?_⟩
  have hS_59 : Sat W _ ([(b_52, .cells #[.int .i64 1, .int .i64 1, .int .i64 1, .int .i64 0, .int .i64 1, .int .i64 9, .int .i64 1, .int .i64 1] 48 (0, 0))] :: [(b_49, .cells #[.int .i64 1, .int .i64 1, .int .i64 1, .int .i64 0, .int .i64 1, .int .i64 9, .int .i64 1, .int .i64 1] 48 (0, 0))] :: [(b_33, .cells #[.int .i64 1, .int .i64 1, .int .i64 1, .int .i64 0, .int .i64 1, .int .i64 9, .int .i64 1, .int .i64 1] 48 (0, 0))] :: [(b_30, .cells #[.int .i64 0, .int .i64 0, .int .i64 0, .int .i64 0, .int .i64 0, .int .i64 0, .int .i64 0, .int .i64 0, .int .i64 0, .int .i64 0] 44 (0, 0))] :: [(b_27, .cells #[.int .i64 1, .int .i64 1, .int .i64 1, .int .i64 0, .int .i64 1, .int .i64 9, .int .i64 1, .int .i64 1] 48 (0, 0))] :: [(b_24, .cells #[.int .i64 5, .int .i64 0, .int .i64 0, .int .i64 9, .int .i64 0, .int .i64 0] 37 (0, 0))] :: G_21 :: [(b_12, .cells #[.int .i64 6, .int .i64 255, .int .i64 0] 37 (0, 0))] :: G_10 :: [(b_1, .cells #[.int .u8 8, .int .u8 1, .int .u8 2, .int .u8 9] 5 (0, 0))] :: H :: F) := hS_58
  clear hS_58
  refine pu3 <| gY ?_
  refine sL hS_59 0 5 (.int .i64 9) (Tryz.isAgg3 _) ?_
  refine gY ?_
  refine sF #[.int .i64 9, .int .i64 1, .int .i64 4096] Tryz.call34 ?_
  refine callsA 15 Tryz.func34 rfl ?_
  refine seqE <| regionE <| pu1 <| nilO <| thenK_n <| seqE <| regionE <| pu9 <| nilO <| thenK_n <| retE <| retT [.bool true] <| ?_
  refine ⟨_, rfl, ?_⟩
  have hS_60 : Sat W _ ([(b_52, .cells #[.int .i64 1, .int .i64 1, .int .i64 1, .int .i64 0, .int .i64 1, .int .i64 9, .int .i64 1, .int .i64 1] 48 (0, 0))] :: [(b_49, .cells #[.int .i64 1, .int .i64 1, .int .i64 1, .int .i64 0, .int .i64 1, .int .i64 9, .int .i64 1, .int .i64 1] 48 (0, 0))] :: [(b_33, .cells #[.int .i64 1, .int .i64 1, .int .i64 1, .int .i64 0, .int .i64 1, .int .i64 9, .int .i64 1, .int .i64 1] 48 (0, 0))] :: [(b_30, .cells #[.int .i64 0, .int .i64 0, .int .i64 0, .int .i64 0, .int .i64 0, .int .i64 0, .int .i64 0, .int .i64 0, .int .i64 0, .int .i64 0] 44 (0, 0))] :: [(b_27, .cells #[.int .i64 1, .int .i64 1, .int .i64 1, .int .i64 0, .int .i64 1, .int .i64 9, .int .i64 1, .int .i64 1] 48 (0, 0))] :: [(b_24, .cells #[.int .i64 5, .int .i64 0, .int .i64 0, .int .i64 9, .int .i64 0, .int .i64 0] 37 (0, 0))] :: G_21 :: [(b_12, .cells #[.int .i64 6, .int .i64 255, .int .i64 0] 37 (0, 0))] :: G_10 :: [(b_1, .cells #[.int .u8 8, .int .u8 1, .int .u8 2, .int .u8 9] 5 (0, 0))] :: H :: F) := hS_59
  clear hS_59
  refine pu3 <| gY ?_
  refine sL hS_60 0 6 (.int .i64 1) (Tryz.isAgg3 _) ?_
  refine gY ?_
  refine sF #[.int .i64 1, .int .i64 1, .int .i64 1048576] Tryz.call34 ?_
  refine callsA 15 Tryz.func34 rfl ?_
  refine seqE <| regionE <| pu1 <| nilO <| thenK_n <| seqE <| regionE <| pu9 <| nilO <| thenK_n <| retE <| retT [.bool true] <| ?_
  refine ⟨_, rfl, ?_⟩
  have hS_61 : Sat W _ ([(b_52, .cells #[.int .i64 1, .int .i64 1, .int .i64 1, .int .i64 0, .int .i64 1, .int .i64 9, .int .i64 1, .int .i64 1] 48 (0, 0))] :: [(b_49, .cells #[.int .i64 1, .int .i64 1, .int .i64 1, .int .i64 0, .int .i64 1, .int .i64 9, .int .i64 1, .int .i64 1] 48 (0, 0))] :: [(b_33, .cells #[.int .i64 1, .int .i64 1, .int .i64 1, .int .i64 0, .int .i64 1, .int .i64 9, .int .i64 1, .int .i64 1] 48 (0, 0))] :: [(b_30, .cells #[.int .i64 0, .int .i64 0, .int .i64 0, .int .i64 0, .int .i64 0, .int .i64 0, .int .i64 0, .int .i64 0, .int .i64 0, .int .i64 0] 44 (0, 0))] :: [(b_27, .cells #[.int .i64 1, .int .i64 1, .int .i64 1, .int .i64 0, .int .i64 1, .int .i64 9, .int .i64 1, .int .i64 1] 48 (0, 0))] :: [(b_24, .cells #[.int .i64 5, .int .i64 0, .int .i64 0, .int .i64 9, .int .i64 0, .int .i64 0] 37 (0, 0))] :: G_21 :: [(b_12, .cells #[.int .i64 6, .int .i64 255, .int .i64 0] 37 (0, 0))] :: G_10 :: [(b_1, .cells #[.int .u8 8, .int .u8 1, .int .u8 2, .int .u8 9] 5 (0, 0))] :: H :: F) := hS_60
  clear hS_60
  refine pu3 <| gY ?_
  refine sL hS_61 0 7 (.int .i64 1) (Tryz.isAgg3 _) ?_
  refine gY ?_
  refine sF #[.int .i64 1, .int .i64 1, .int .i64 64] Tryz.call34 ?_
  refine callsA 15 Tryz.func34 rfl ?_
  refine seqE <| regionE <| pu1 <| nilO <| thenK_n <| seqE <| regionE <| pu9 <| nilO <| thenK_n <| retE <| retT [.bool true] <| ?_
  refine ⟨_, rfl, ?_⟩
  have hS_62 : Sat W _ ([(b_52, .cells #[.int .i64 1, .int .i64 1, .int .i64 1, .int .i64 0, .int .i64 1, .int .i64 9, .int .i64 1, .int .i64 1] 48 (0, 0))] :: [(b_49, .cells #[.int .i64 1, .int .i64 1, .int .i64 1, .int .i64 0, .int .i64 1, .int .i64 9, .int .i64 1, .int .i64 1] 48 (0, 0))] :: [(b_33, .cells #[.int .i64 1, .int .i64 1, .int .i64 1, .int .i64 0, .int .i64 1, .int .i64 9, .int .i64 1, .int .i64 1] 48 (0, 0))] :: [(b_30, .cells #[.int .i64 0, .int .i64 0, .int .i64 0, .int .i64 0, .int .i64 0, .int .i64 0, .int .i64 0, .int .i64 0, .int .i64 0, .int .i64 0] 44 (0, 0))] :: [(b_27, .cells #[.int .i64 1, .int .i64 1, .int .i64 1, .int .i64 0, .int .i64 1, .int .i64 9, .int .i64 1, .int .i64 1] 48 (0, 0))] :: [(b_24, .cells #[.int .i64 5, .int .i64 0, .int .i64 0, .int .i64 9, .int .i64 0, .int .i64 0] 37 (0, 0))] :: G_21 :: [(b_12, .cells #[.int .i64 6, .int .i64 255, .int .i64 0] 37 (0, 0))] :: G_10 :: [(b_1, .cells #[.int .u8 8, .int .u8 1, .int .u8 2, .int .u8 9] 5 (0, 0))] :: H :: F) := hS_61
  clear hS_61
  refine pu2 <| nilO <| thenK_n <| seqE <| seqE <| regionE <| pu2 <| nilO <| thenK_n <| cFf <| skipE <| thenK_n <| seqE <| regionE <| pu1 <| nilO <| thenK_n <| retE <| retT [.int .i64 0] <| ?_
  refine ⟨_, rfl, ?_⟩
  have hS_63 := (hS_62.dropAt 0 rfl)
  have hS_64 : Sat W _ ([(b_49, .cells #[.int .i64 1, .int .i64 1, .int .i64 1, .int .i64 0, .int .i64 1, .int .i64 9, .int .i64 1, .int .i64 1] 48 (0, 0))] :: [(b_33, .cells #[.int .i64 1, .int .i64 1, .int .i64 1, .int .i64 0, .int .i64 1, .int .i64 9, .int .i64 1, .int .i64 1] 48 (0, 0))] :: [(b_30, .cells #[.int .i64 0, .int .i64 0, .int .i64 0, .int .i64 0, .int .i64 0, .int .i64 0, .int .i64 0, .int .i64 0, .int .i64 0, .int .i64 0] 44 (0, 0))] :: [(b_27, .cells #[.int .i64 1, .int .i64 1, .int .i64 1, .int .i64 0, .int .i64 1, .int .i64 9, .int .i64 1, .int .i64 1] 48 (0, 0))] :: [(b_24, .cells #[.int .i64 5, .int .i64 0, .int .i64 0, .int .i64 9, .int .i64 0, .int .i64 0] 37 (0, 0))] :: G_21 :: [(b_12, .cells #[.int .i64 6, .int .i64 255, .int .i64 0] 37 (0, 0))] :: G_10 :: [(b_1, .cells #[.int .u8 8, .int .u8 1, .int .u8 2, .int .u8 9] 5 (0, 0))] :: H :: F) := hS_63
  clear hS_63
  refine pu1 <| nilO <| thenK_n <| seqE <| regionE <| pu2 <| nilO <| thenK_n <| cFf <| skipE <| thenK_n <| seqE <| regionE <| pu1 ?_
  refine sL hS_64 0 5 (.int .i64 9) (Tryz.isAgg3 _) ?_
  refine sF #[.int .i64 9] Tryz.call35 ?_
  refine callsA 13 Tryz.func35 rfl ?_
  refine seqE <| regionE <| pu2 <| nilO <| thenK_n <| seqE <| seqE <| regionE <| pu6 <| nilO <| thenK_n <| cFf <| skipE <| thenK_n <| seqE <| regionE <| pu2 ?_
  refine sBox hS_64 (.agg #[.int .i64 9, .slice none 0 0, .slice none 0 0, .slice none 0 0, .slice none 0 0]) #[.int .i64 9, .slice none 0 0, .slice none 0 0, .slice none 0 0, .slice none 0 0] ?_
  intro b_65 w_66 hS_67
  refine pu2 <| nilO <| thenK_n <| retE <| retT [.pointer (some ⟨b_65, 0, none⟩), .int .i64 0] <| ?_
  refine ⟨_, rfl, ?_⟩
  have hS_68 : Sat W _ ([(b_65, .cells #[.int .i64 9, .slice none 0 0, .slice none 0 0, .slice none 0 0, .slice none 0 0] 123 (0, 0))] :: [(b_49, .cells #[.int .i64 1, .int .i64 1, .int .i64 1, .int .i64 0, .int .i64 1, .int .i64 9, .int .i64 1, .int .i64 1] 48 (0, 0))] :: [(b_33, .cells #[.int .i64 1, .int .i64 1, .int .i64 1, .int .i64 0, .int .i64 1, .int .i64 9, .int .i64 1, .int .i64 1] 48 (0, 0))] :: [(b_30, .cells #[.int .i64 0, .int .i64 0, .int .i64 0, .int .i64 0, .int .i64 0, .int .i64 0, .int .i64 0, .int .i64 0, .int .i64 0, .int .i64 0] 44 (0, 0))] :: [(b_27, .cells #[.int .i64 1, .int .i64 1, .int .i64 1, .int .i64 0, .int .i64 1, .int .i64 9, .int .i64 1, .int .i64 1] 48 (0, 0))] :: [(b_24, .cells #[.int .i64 5, .int .i64 0, .int .i64 0, .int .i64 9, .int .i64 0, .int .i64 0] 37 (0, 0))] :: G_21 :: [(b_12, .cells #[.int .i64 6, .int .i64 255, .int .i64 0] 37 (0, 0))] :: G_10 :: [(b_1, .cells #[.int .u8 8, .int .u8 1, .int .u8 2, .int .u8 9] 5 (0, 0))] :: H :: F) := hS_67
  clear hS_67
  refine pu5 <| nilO <| thenK_n <| seqE <| seqE <| regionE <| pu2 <| nilO <| thenK_n <| cFf <| skipE <| thenK_n <| seqE <| regionE ?_
  refine lA hS_68 1 0 8 (Tryz.isAgg48 _) (Tryz.sizeOf48 _) ?_
  refine pu1 ?_
  refine sMakeMap hS_68 ?_
  intro b_69 c_70 w_72 hM_71 hS_73
  refine pu1 ?_
  refine sBox hS_73 (.agg #[.int .i64 1, .int .i64 1, .int .i64 1, .int .i64 0, .int .i64 1, .int .i64 9, .int .i64 1, .int .i64 1, .slice none 0 0, .pointer (some ⟨b_65, 0, none⟩), .map (some b_69), .int .i64 0, .int .i64 0, .int .i64 0, .int .i64 0, .int .i64 0, .int .i64 0, .int .i64 0, .int .i64 0, .int .i64 0, .int .i64 0]) #[.int .i64 1, .int .i64 1, .int .i64 1, .int .i64 0, .int .i64 1, .int .i64 9, .int .i64 1, .int .i64 1, .slice none 0 0, .pointer (some ⟨b_65, 0, none⟩), .map (some b_69), .int .i64 0, .int .i64 0, .int .i64 0, .int .i64 0, .int .i64 0, .int .i64 0, .int .i64 0, .int .i64 0, .int .i64 0, .int .i64 0] ?_
  intro b_74 w_75 hS_76
  refine pu1 <| nilO <| thenK_n <| seqE <| seqE <| regionE <| pu1 ?_
  refine sL hS_76 3 0 (.int .i64 1) (Tryz.isAgg3 _) ?_
  refine pu1 <| nilO <| thenK_n <| blockE ?_
  refine loopN 40 ?_
  refine roundS ?_
  refine seqE <| regionE <| pu1 <| nilO <| thenK_n <| seqE <| cTt <| skipE <| thenK_n <| seqE <| blockE <| seqE <| regionE <| pu1 ?_
  refine sL hS_76 3 3 (.int .i64 0) (Tryz.isAgg3 _) ?_
  refine sF #[.int .i64 0] Tryz.call36 ?_
  refine callsA 13 Tryz.func36 rfl ?_
  refine seqE <| regionE <| pu2 <| nilO <| thenK_n <| seqE <| seqE <| regionE <| pu6 <| nilO <| thenK_n <| cFf <| skipE <| thenK_n <| seqE <| regionE <| pu2 ?_
  refine sBox hS_76 (.agg #[.int .i64 0, .int .i64 0, .int .i64 0, .slice none 0 0]) #[.int .i64 0, .int .i64 0, .int .i64 0, .slice none 0 0] ?_
  intro b_77 w_78 hS_79
  refine pu2 <| nilO <| thenK_n <| retE <| retT [.pointer (some ⟨b_77, 0, none⟩), .int .i64 0] <| ?_
  refine ⟨_, rfl, ?_⟩
  have hS_80 : Sat W _ ([(b_77, .cells #[.int .i64 0, .int .i64 0, .int .i64 0, .slice none 0 0] 125 (0, 0))] :: [(b_74, .cells #[.int .i64 1, .int .i64 1, .int .i64 1, .int .i64 0, .int .i64 1, .int .i64 9, .int .i64 1, .int .i64 1, .slice none 0 0, .pointer (some ⟨b_65, 0, none⟩), .map (some b_69), .int .i64 0, .int .i64 0, .int .i64 0, .int .i64 0, .int .i64 0, .int .i64 0, .int .i64 0, .int .i64 0, .int .i64 0, .int .i64 0] 90 (0, 0))] :: c_70 :: [(b_65, .cells #[.int .i64 9, .slice none 0 0, .slice none 0 0, .slice none 0 0, .slice none 0 0] 123 (0, 0))] :: [(b_49, .cells #[.int .i64 1, .int .i64 1, .int .i64 1, .int .i64 0, .int .i64 1, .int .i64 9, .int .i64 1, .int .i64 1] 48 (0, 0))] :: [(b_33, .cells #[.int .i64 1, .int .i64 1, .int .i64 1, .int .i64 0, .int .i64 1, .int .i64 9, .int .i64 1, .int .i64 1] 48 (0, 0))] :: [(b_30, .cells #[.int .i64 0, .int .i64 0, .int .i64 0, .int .i64 0, .int .i64 0, .int .i64 0, .int .i64 0, .int .i64 0, .int .i64 0, .int .i64 0] 44 (0, 0))] :: [(b_27, .cells #[.int .i64 1, .int .i64 1, .int .i64 1, .int .i64 0, .int .i64 1, .int .i64 9, .int .i64 1, .int .i64 1] 48 (0, 0))] :: [(b_24, .cells #[.int .i64 5, .int .i64 0, .int .i64 0, .int .i64 9, .int .i64 0, .int .i64 0] 37 (0, 0))] :: G_21 :: [(b_12, .cells #[.int .i64 6, .int .i64 255, .int .i64 0] 37 (0, 0))] :: G_10 :: [(b_1, .cells #[.int .u8 8, .int .u8 1, .int .u8 2, .int .u8 9] 5 (0, 0))] :: H :: F) := hS_79
  clear hS_79
  refine pu5 <| nilO <| thenK_n <| seqE <| seqE <| regionE <| pu2 <| nilO <| thenK_n <| cFf <| skipE <| thenK_n <| seqE <| regionE <| pu1 ?_
  refine sL hS_80 4 4 (.int .i64 1) (Tryz.isAgg3 _) ?_
  refine sF #[.int .i64 1] Tryz.call37 ?_
  refine callsA 14 Tryz.func37 rfl ?_
  refine seqE <| regionE <| pu2 <| nilO <| thenK_n <| seqE <| seqE <| regionE <| pu6 <| nilO <| thenK_n <| cFf <| skipE <| thenK_n <| seqE <| regionE <| pu1 ?_
  refine sMake (kl := .i64) (kc := .i64) (enc := encRef) (sz := 2) (nb := 16) hS_80 ⟨0, 0⟩ 1 1 (rfl : (1 : Int) = ((1 : Nat) : Int)) Tryz.underlying120 (i := Tryz.t98) (by kernel_rfl) (fun _ => rfl) ?_
  intro b_81 c_82 w_84 hO_83 hS_85
  refine pu1 ?_
  refine sBox hS_85 (.agg #[.slice (some ⟨b_81, 0, none⟩) 1 1, .int .i64 0, .int .i64 0]) #[.slice (some ⟨b_81, 0, none⟩) 1 1, .int .i64 0, .int .i64 0] ?_
  intro b_86 w_87 hS_88
  refine pu2 <| nilO <| thenK_n <| retE <| retT [.pointer (some ⟨b_86, 0, none⟩), .int .i64 0] <| ?_
  refine ⟨_, rfl, ?_⟩
  have hS_89 : Sat W _ ([(b_86, .cells #[.slice (some ⟨b_81, 0, none⟩) 1 1, .int .i64 0, .int .i64 0] 127 (0, 0))] :: c_82 :: [(b_77, .cells #[.int .i64 0, .int .i64 0, .int .i64 0, .slice none 0 0] 125 (0, 0))] :: [(b_74, .cells #[.int .i64 1, .int .i64 1, .int .i64 1, .int .i64 0, .int .i64 1, .int .i64 9, .int .i64 1, .int .i64 1, .slice none 0 0, .pointer (some ⟨b_65, 0, none⟩), .map (some b_69), .int .i64 0, .int .i64 0, .int .i64 0, .int .i64 0, .int .i64 0, .int .i64 0, .int .i64 0, .int .i64 0, .int .i64 0, .int .i64 0] 90 (0, 0))] :: c_70 :: [(b_65, .cells #[.int .i64 9, .slice none 0 0, .slice none 0 0, .slice none 0 0, .slice none 0 0] 123 (0, 0))] :: [(b_49, .cells #[.int .i64 1, .int .i64 1, .int .i64 1, .int .i64 0, .int .i64 1, .int .i64 9, .int .i64 1, .int .i64 1] 48 (0, 0))] :: [(b_33, .cells #[.int .i64 1, .int .i64 1, .int .i64 1, .int .i64 0, .int .i64 1, .int .i64 9, .int .i64 1, .int .i64 1] 48 (0, 0))] :: [(b_30, .cells #[.int .i64 0, .int .i64 0, .int .i64 0, .int .i64 0, .int .i64 0, .int .i64 0, .int .i64 0, .int .i64 0, .int .i64 0, .int .i64 0] 44 (0, 0))] :: [(b_27, .cells #[.int .i64 1, .int .i64 1, .int .i64 1, .int .i64 0, .int .i64 1, .int .i64 9, .int .i64 1, .int .i64 1] 48 (0, 0))] :: [(b_24, .cells #[.int .i64 5, .int .i64 0, .int .i64 0, .int .i64 9, .int .i64 0, .int .i64 0] 37 (0, 0))] :: G_21 :: [(b_12, .cells #[.int .i64 6, .int .i64 255, .int .i64 0] 37 (0, 0))] :: G_10 :: [(b_1, .cells #[.int .u8 8, .int .u8 1, .int .u8 2, .int .u8 9] 5 (0, 0))] :: H :: F) := hS_88
  clear hS_88
  refine pu5 <| nilO <| thenK_n <| seqE <| seqE <| regionE <| pu2 <| nilO <| thenK_n <| cFf <| skipE <| thenK_n <| regionE <| pu4 ?_
  refine sL hS_89 3 8 (.slice none 0 0) (Tryz.isAgg88 _) ?_
  refine pu3 ?_
  refine sBS hS_89 #[.int .i64 0, .int .i64 0, .int .i64 0, .int .i64 0, .int .i64 0, .pointer (some ⟨b_77, 0, none⟩), .pointer (some ⟨b_86, 0, none⟩)] Tryz.runUnderlying88 Tryz.sizeOf100 Tryz.zeroValue100 ?_
  intro b_90 w_91 hS_92
  have hS_93 := Sat.nilc hS_92
  have hO_94 := OwnT.nil (enc := encPW) (E := 100) (sz := 7) (fun _ => rfl)
  refine sApp (nb := 56) hS_93 hO_94 0 (RdT.blk (enc := encPW) (sz := 7) (xs := [(⟨0, 0, 0, 0, 0, (some ⟨b_77, 0, none⟩), (some ⟨b_86, 0, none⟩)⟩ : PW)]) (fun _ => rfl) 1 1 rfl rfl rfl (by omega)) Tryz.underlying88 (i := Tryz.t100) (by kernel_rfl) (fun _ => rfl) ?_
  intro a_95 cap_96 c_97 w_98 hO_99 hS_100
  refine pu2 ?_
  refine tW hS_100 5 8 (.slice a_95 1 cap_96) Tryz.sizeOf88 ?_
  intro w_101 hS_102
  refine nilO <| blockK_n <| thenK_n <| regionE <| pu2 <| nilO <| thenK_n <| ?_
  refine roundS ?_
  refine seqE <| regionE <| pu1 <| nilO <| thenK_n <| seqE <| cFf <| exitE <| thenK_x <| thenK_x <| blockK_x <| thenK_n <| seqE <| regionE <| pu3 <| nilO <| thenK_n <| retE <| retT [.pointer (some ⟨b_74, 0, none⟩), .int .i64 0] <| ?_
  refine ⟨_, rfl, ?_⟩
  have hS_103 := (hS_102.drops [1, 7])
  have hS_104 : Sat W _ (c_97 :: [(b_86, .cells #[.slice (some ⟨b_81, 0, none⟩) 1 1, .int .i64 0, .int .i64 0] 127 (0, 0))] :: c_82 :: [(b_77, .cells #[.int .i64 0, .int .i64 0, .int .i64 0, .slice none 0 0] 125 (0, 0))] :: [(b_74, .cells #[.int .i64 1, .int .i64 1, .int .i64 1, .int .i64 0, .int .i64 1, .int .i64 9, .int .i64 1, .int .i64 1, .slice a_95 1 cap_96, .pointer (some ⟨b_65, 0, none⟩), .map (some b_69), .int .i64 0, .int .i64 0, .int .i64 0, .int .i64 0, .int .i64 0, .int .i64 0, .int .i64 0, .int .i64 0, .int .i64 0, .int .i64 0] 90 (0, 0))] :: c_70 :: [(b_65, .cells #[.int .i64 9, .slice none 0 0, .slice none 0 0, .slice none 0 0, .slice none 0 0] 123 (0, 0))] :: [(b_33, .cells #[.int .i64 1, .int .i64 1, .int .i64 1, .int .i64 0, .int .i64 1, .int .i64 9, .int .i64 1, .int .i64 1] 48 (0, 0))] :: [(b_30, .cells #[.int .i64 0, .int .i64 0, .int .i64 0, .int .i64 0, .int .i64 0, .int .i64 0, .int .i64 0, .int .i64 0, .int .i64 0, .int .i64 0] 44 (0, 0))] :: [(b_27, .cells #[.int .i64 1, .int .i64 1, .int .i64 1, .int .i64 0, .int .i64 1, .int .i64 9, .int .i64 1, .int .i64 1] 48 (0, 0))] :: [(b_24, .cells #[.int .i64 5, .int .i64 0, .int .i64 0, .int .i64 9, .int .i64 0, .int .i64 0] 37 (0, 0))] :: G_21 :: [(b_12, .cells #[.int .i64 6, .int .i64 255, .int .i64 0] 37 (0, 0))] :: G_10 :: [(b_1, .cells #[.int .u8 8, .int .u8 1, .int .u8 2, .int .u8 9] 5 (0, 0))] :: H :: F) := hS_103
  clear hS_103
  refine pu5 <| nilO <| thenK_n <| seqE <| seqE <| regionE <| pu2 <| nilO <| thenK_n <| cFf <| skipE <| thenK_n <| seqE <| regionE ?_
  refine lA hS_104 7 0 8 (Tryz.isAgg48 _) (Tryz.sizeOf48 _) ?_
  refine pu2 ?_
  refine sBox hS_104 (.agg #[.int .i64 1, .int .i64 1, .int .i64 1, .int .i64 0, .int .i64 1, .int .i64 9, .int .i64 1, .int .i64 1, .pointer (some ⟨b_74, 0, none⟩), .slice none 0 0]) #[.int .i64 1, .int .i64 1, .int .i64 1, .int .i64 0, .int .i64 1, .int .i64 9, .int .i64 1, .int .i64 1, .pointer (some ⟨b_74, 0, none⟩), .slice none 0 0] ?_
  intro b_105 w_106 hS_107
  refine pu2 <| nilO <| thenK_n <| retE <| retT [.pointer (some ⟨b_105, 0, none⟩), .int .i64 0] <| ?_
  refine ⟨_, rfl, ?_⟩
  have hS_108 := (hS_107.dropAt 8 rfl)
  have hS_109 : Sat W _ ([(b_105, .cells #[.int .i64 1, .int .i64 1, .int .i64 1, .int .i64 0, .int .i64 1, .int .i64 9, .int .i64 1, .int .i64 1, .pointer (some ⟨b_74, 0, none⟩), .slice none 0 0] 68 (0, 0))] :: c_97 :: [(b_86, .cells #[.slice (some ⟨b_81, 0, none⟩) 1 1, .int .i64 0, .int .i64 0] 127 (0, 0))] :: c_82 :: [(b_77, .cells #[.int .i64 0, .int .i64 0, .int .i64 0, .slice none 0 0] 125 (0, 0))] :: [(b_74, .cells #[.int .i64 1, .int .i64 1, .int .i64 1, .int .i64 0, .int .i64 1, .int .i64 9, .int .i64 1, .int .i64 1, .slice a_95 1 cap_96, .pointer (some ⟨b_65, 0, none⟩), .map (some b_69), .int .i64 0, .int .i64 0, .int .i64 0, .int .i64 0, .int .i64 0, .int .i64 0, .int .i64 0, .int .i64 0, .int .i64 0, .int .i64 0] 90 (0, 0))] :: c_70 :: [(b_65, .cells #[.int .i64 9, .slice none 0 0, .slice none 0 0, .slice none 0 0, .slice none 0 0] 123 (0, 0))] :: [(b_30, .cells #[.int .i64 0, .int .i64 0, .int .i64 0, .int .i64 0, .int .i64 0, .int .i64 0, .int .i64 0, .int .i64 0, .int .i64 0, .int .i64 0] 44 (0, 0))] :: [(b_27, .cells #[.int .i64 1, .int .i64 1, .int .i64 1, .int .i64 0, .int .i64 1, .int .i64 9, .int .i64 1, .int .i64 1] 48 (0, 0))] :: [(b_24, .cells #[.int .i64 5, .int .i64 0, .int .i64 0, .int .i64 9, .int .i64 0, .int .i64 0] 37 (0, 0))] :: G_21 :: [(b_12, .cells #[.int .i64 6, .int .i64 255, .int .i64 0] 37 (0, 0))] :: G_10 :: [(b_1, .cells #[.int .u8 8, .int .u8 1, .int .u8 2, .int .u8 9] 5 (0, 0))] :: H :: F) := hS_108
  clear hS_108
  refine pu5 <| nilO <| thenK_n <| seqE <| seqE <| regionE <| pu2 <| nilO <| thenK_n <| cFf <| skipE <| thenK_n <| seqE <| seqE <| regionE <| pu3 <| nilO <| thenK_n <| cFf <| skipE <| thenK_n <| seqE <| regionE <| pu2 ?_
  refine sMake (kl := .i64) (kc := .i64) (enc := encAns) (sz := 7) (nb := 72) hS_109 ⟨0, 0, 0, 0, 0, 0, ⟨none, 0, 0, []⟩⟩ 2 2 (rfl : (2 : Int) = ((2 : Nat) : Int)) Tryz.underlying42 (i := Tryz.t53) (by kernel_rfl) (fun _ => rfl) ?_
  intro b_110 c_111 w_113 hO_112 hS_114
  refine pu1 <| nilO <| thenK_n <| seqE <| seqE <| regionE <| pu3 <| nilO <| thenK_n <| blockE ?_
  refine loopN 40 ?_
  refine roundS ?_
  refine seqE <| regionE <| pu1 <| nilO <| thenK_n <| seqE <| cTt <| skipE <| thenK_n <| seqE <| blockE <| seqE <| regionE <| pu1 ?_
  refine stepY (.pointer (some ⟨b_24, 0, none⟩)) rfl rfl (Y_idx (a := (some ⟨b_24, 0, none⟩)) (i := 0) (len := 2) (cap := 2) rfl Tryz.runUnderlying24 Tryz.sizeOf37 (by kernel_rfl) (by kernel_rfl) ⟨_, rfl, add_off _ 0 _, by decide, by decide⟩) ?_
  refine lA hS_114 11 0 3 (Tryz.isAgg37 _) (Tryz.sizeOf37 _) ?_
  refine sAlloc hS_114 Tryz.zeroValue37 ?_
  intro b_115 w_116 hS_117
  refine pu1 ?_
  refine sT hS_117 0 0 (.agg #[.int .i64 5, .int .i64 0, .int .i64 0]) [.int .i64 5, .int .i64 0, .int .i64 0] #[.int .i64 5, .int .i64 0, .int .i64 0] Tryz.sizeOf37 ?_
  intro w_118 hS_119
  refine nilO <| thenK_n <| regionE <| pu4 ?_
  refine lA hS_119 0 0 3 (Tryz.isAgg37 _) (Tryz.sizeOf37 _) ?_
  refine sF #[.pointer (some ⟨b_105, 0, none⟩), .slice none 0 0, .agg #[.int .i64 5, .int .i64 0, .int .i64 0]] Tryz.call20 ?_
  refine callsA 98 Tryz.func20 rfl ?_
  refine seqE <| regionE ?_
  refine sBox hS_119 (.agg #[.int .i64 5, .int .i64 0, .int .i64 0]) #[.int .i64 5, .int .i64 0, .int .i64 0] ?_
  intro b_120 w_121 hS_122
  refine sAlloc hS_122 Tryz.zeroValue53 ?_
  intro b_123 w_124 hS_125
  refine nilO <| thenK_n <| seqE <| regionE ?_
  refine sAlloc hS_125 Tryz.zeroValue53 ?_
  intro b_126 w_127 hS_128
  refine nilO <| thenK_n <| seqE <| seqE <| regionE <| pu1 ?_
  refine sL hS_128 2 0 (.int .i64 5) (Tryz.isAgg3 _) ?_
  refine nilO <| thenK_n <| blockE <| seqE <| regionE <| pu2 <| nilO <| thenK_n <| cFf <| seqE <| regionE <| pu2 <| nilO <| thenK_n <| cFf <| seqE <| regionE <| pu2 <| nilO <| thenK_n <| cFf <| seqE <| regionE <| pu2 <| nilO <| thenK_n <| cFf <| seqE <| regionE <| pu2 <| nilO <| thenK_n <| cFf <| seqE <| regionE <| pu2 <| nilO <| thenK_n <| cTt <| regionE <| pu2 ?_
  refine sL hS_128 2 2 (.int .i64 0) (Tryz.isAgg3 _) ?_
  refine sF #[.pointer (some ⟨b_105, 0, none⟩), .int .i64 0] Tryz.call29 ?_
  refine callsA 17 Tryz.func29 rfl ?_
  refine seqE <| regionE ?_
  refine sAlloc hS_128 Tryz.zeroValue50 ?_
  intro b_129 w_130 hS_131
  refine pu1 <| nilO <| thenK_n <| seqE <| regionE <| pu2 ?_
  refine sF #[.pointer (some ⟨b_105, 0, none⟩), .int .i64 0] Tryz.call41 ?_
  refine callsA 27 Tryz.func41 rfl ?_
  refine seqE <| regionE <| pu1 <| nilO <| thenK_n <| seqE <| seqE <| regionE <| pu1 ?_
  refine sF #[.pointer (some ⟨b_105, 0, none⟩)] Tryz.call31 ?_
  refine callsA 12 Tryz.func31 rfl ?_
  refine seqE <| regionE <| pu1 <| nilO <| thenK_n <| seqE <| regionE <| pu6 <| gY ?_
  refine sL hS_131 6 8 (.pointer (some ⟨b_74, 0, none⟩)) (Tryz.isAgg63 _) ?_
  refine pu3 <| nilO <| thenK_n <| retE <| retT [.bool false] <| ?_
  refine ⟨_, rfl, ?_⟩
  have hS_132 : Sat W _ ([(b_129, .cells #[.int .i64 0, .int .i64 0, .int .i64 0, .int .i64 0] 50 (0, 0))] :: [(b_126, .cells #[.int .i64 0, .int .i64 0, .int .i64 0, .int .i64 0, .int .i64 0, .int .i64 0, .slice none 0 0] 53 (0, 0))] :: [(b_123, .cells #[.int .i64 0, .int .i64 0, .int .i64 0, .int .i64 0, .int .i64 0, .int .i64 0, .slice none 0 0] 53 (0, 0))] :: [(b_120, .cells #[.int .i64 5, .int .i64 0, .int .i64 0] 37 (0, 0))] :: [(b_115, .cells #[.int .i64 5, .int .i64 0, .int .i64 0] 37 (0, 0))] :: c_111 :: [(b_105, .cells #[.int .i64 1, .int .i64 1, .int .i64 1, .int .i64 0, .int .i64 1, .int .i64 9, .int .i64 1, .int .i64 1, .pointer (some ⟨b_74, 0, none⟩), .slice none 0 0] 68 (0, 0))] :: c_97 :: [(b_86, .cells #[.slice (some ⟨b_81, 0, none⟩) 1 1, .int .i64 0, .int .i64 0] 127 (0, 0))] :: c_82 :: [(b_77, .cells #[.int .i64 0, .int .i64 0, .int .i64 0, .slice none 0 0] 125 (0, 0))] :: [(b_74, .cells #[.int .i64 1, .int .i64 1, .int .i64 1, .int .i64 0, .int .i64 1, .int .i64 9, .int .i64 1, .int .i64 1, .slice a_95 1 cap_96, .pointer (some ⟨b_65, 0, none⟩), .map (some b_69), .int .i64 0, .int .i64 0, .int .i64 0, .int .i64 0, .int .i64 0, .int .i64 0, .int .i64 0, .int .i64 0, .int .i64 0, .int .i64 0] 90 (0, 0))] :: c_70 :: [(b_65, .cells #[.int .i64 9, .slice none 0 0, .slice none 0 0, .slice none 0 0, .slice none 0 0] 123 (0, 0))] :: [(b_30, .cells #[.int .i64 0, .int .i64 0, .int .i64 0, .int .i64 0, .int .i64 0, .int .i64 0, .int .i64 0, .int .i64 0, .int .i64 0, .int .i64 0] 44 (0, 0))] :: [(b_27, .cells #[.int .i64 1, .int .i64 1, .int .i64 1, .int .i64 0, .int .i64 1, .int .i64 9, .int .i64 1, .int .i64 1] 48 (0, 0))] :: [(b_24, .cells #[.int .i64 5, .int .i64 0, .int .i64 0, .int .i64 9, .int .i64 0, .int .i64 0] 37 (0, 0))] :: G_21 :: [(b_12, .cells #[.int .i64 6, .int .i64 255, .int .i64 0] 37 (0, 0))] :: G_10 :: [(b_1, .cells #[.int .u8 8, .int .u8 1, .int .u8 2, .int .u8 9] 5 (0, 0))] :: H :: F) := hS_131
  clear hS_131
  refine pu9 <| gY ?_
  refine sL hS_132 6 9 (.slice none 0 0) (Tryz.isAgg66 _) ?_
  refine pu3 <| nilO <| thenK_n <| cTt <| seqE <| regionE <| pu1 <| nilO <| thenK_n <| retE <| thenK_r <| retT [.pointer none] <| ?_
  refine ⟨_, rfl, ?_⟩
  have hS_133 : Sat W _ ([(b_129, .cells #[.int .i64 0, .int .i64 0, .int .i64 0, .int .i64 0] 50 (0, 0))] :: [(b_126, .cells #[.int .i64 0, .int .i64 0, .int .i64 0, .int .i64 0, .int .i64 0, .int .i64 0, .slice none 0 0] 53 (0, 0))] :: [(b_123, .cells #[.int .i64 0, .int .i64 0, .int .i64 0, .int .i64 0, .int .i64 0, .int .i64 0, .slice none 0 0] 53 (0, 0))] :: [(b_120, .cells #[.int .i64 5, .int .i64 0, .int .i64 0] 37 (0, 0))] :: [(b_115, .cells #[.int .i64 5, .int .i64 0, .int .i64 0] 37 (0, 0))] :: c_111 :: [(b_105, .cells #[.int .i64 1, .int .i64 1, .int .i64 1, .int .i64 0, .int .i64 1, .int .i64 9, .int .i64 1, .int .i64 1, .pointer (some ⟨b_74, 0, none⟩), .slice none 0 0] 68 (0, 0))] :: c_97 :: [(b_86, .cells #[.slice (some ⟨b_81, 0, none⟩) 1 1, .int .i64 0, .int .i64 0] 127 (0, 0))] :: c_82 :: [(b_77, .cells #[.int .i64 0, .int .i64 0, .int .i64 0, .slice none 0 0] 125 (0, 0))] :: [(b_74, .cells #[.int .i64 1, .int .i64 1, .int .i64 1, .int .i64 0, .int .i64 1, .int .i64 9, .int .i64 1, .int .i64 1, .slice a_95 1 cap_96, .pointer (some ⟨b_65, 0, none⟩), .map (some b_69), .int .i64 0, .int .i64 0, .int .i64 0, .int .i64 0, .int .i64 0, .int .i64 0, .int .i64 0, .int .i64 0, .int .i64 0, .int .i64 0] 90 (0, 0))] :: c_70 :: [(b_65, .cells #[.int .i64 9, .slice none 0 0, .slice none 0 0, .slice none 0 0, .slice none 0 0] 123 (0, 0))] :: [(b_30, .cells #[.int .i64 0, .int .i64 0, .int .i64 0, .int .i64 0, .int .i64 0, .int .i64 0, .int .i64 0, .int .i64 0, .int .i64 0, .int .i64 0] 44 (0, 0))] :: [(b_27, .cells #[.int .i64 1, .int .i64 1, .int .i64 1, .int .i64 0, .int .i64 1, .int .i64 9, .int .i64 1, .int .i64 1] 48 (0, 0))] :: [(b_24, .cells #[.int .i64 5, .int .i64 0, .int .i64 0, .int .i64 9, .int .i64 0, .int .i64 0] 37 (0, 0))] :: G_21 :: [(b_12, .cells #[.int .i64 6, .int .i64 255, .int .i64 0] 37 (0, 0))] :: G_10 :: [(b_1, .cells #[.int .u8 8, .int .u8 1, .int .u8 2, .int .u8 9] 5 (0, 0))] :: H :: F) := hS_132
  clear hS_132
  refine pu1 <| nilO <| thenK_n <| seqE <| seqE <| regionE <| pu2 <| nilO <| thenK_n <| cTt <| seqE <| regionE <| pu1 ?_
  refine sT hS_133 0 0 (.agg #[.int .i64 0, .int .i64 0, .int .i64 0, .int .i64 0]) [.int .i64 0, .int .i64 0, .int .i64 0, .int .i64 0] #[.int .i64 0, .int .i64 0, .int .i64 0, .int .i64 0] Tryz.sizeOf50 ?_
  intro w_134 hS_135
  refine pu1 <| nilO <| thenK_n <| retE <| thenK_r <| retN (vs := [.agg #[.int .i64 0, .int .i64 0, .int .i64 0, .int .i64 0], .int .i64 16]) rfl (.cons (.cell _ _ _ _ (by kernel_rfl) (lvA hS_135 0 0 [.int .i64 0, .int .i64 0, .int .i64 0, .int .i64 0] (Tryz.isAgg50 _) (Tryz.sizeOf50 _) rfl rfl rfl)) (.cons (.tmp _ _ (by kernel_rfl)) .nil)) <| ?_
  refine ⟨_, rfl, ?_⟩
  have hS_136 := (hS_135.dropAt 0 rfl)
  have hS_137 : Sat W _ ([(b_126, .cells #[.int .i64 0, .int .i64 0, .int .i64 0, .int .i64 0, .int .i64 0, .int .i64 0, .slice none 0 0] 53 (0, 0))] :: [(b_123, .cells #[.int .i64 0, .int .i64 0, .int .i64 0, .int .i64 0, .int .i64 0, .int .i64 0, .slice none 0 0] 53 (0, 0))] :: [(b_120, .cells #[.int .i64 5, .int .i64 0, .int .i64 0] 37 (0, 0))] :: [(b_115, .cells #[.int .i64 5, .int .i64 0, .int .i64 0] 37 (0, 0))] :: c_111 :: [(b_105, .cells #[.int .i64 1, .int .i64 1, .int .i64 1, .int .i64 0, .int .i64 1, .int .i64 9, .int .i64 1, .int .i64 1, .pointer (some ⟨b_74, 0, none⟩), .slice none 0 0] 68 (0, 0))] :: c_97 :: [(b_86, .cells #[.slice (some ⟨b_81, 0, none⟩) 1 1, .int .i64 0, .int .i64 0] 127 (0, 0))] :: c_82 :: [(b_77, .cells #[.int .i64 0, .int .i64 0, .int .i64 0, .slice none 0 0] 125 (0, 0))] :: [(b_74, .cells #[.int .i64 1, .int .i64 1, .int .i64 1, .int .i64 0, .int .i64 1, .int .i64 9, .int .i64 1, .int .i64 1, .slice a_95 1 cap_96, .pointer (some ⟨b_65, 0, none⟩), .map (some b_69), .int .i64 0, .int .i64 0, .int .i64 0, .int .i64 0, .int .i64 0, .int .i64 0, .int .i64 0, .int .i64 0, .int .i64 0, .int .i64 0] 90 (0, 0))] :: c_70 :: [(b_65, .cells #[.int .i64 9, .slice none 0 0, .slice none 0 0, .slice none 0 0, .slice none 0 0] 123 (0, 0))] :: [(b_30, .cells #[.int .i64 0, .int .i64 0, .int .i64 0, .int .i64 0, .int .i64 0, .int .i64 0, .int .i64 0, .int .i64 0, .int .i64 0, .int .i64 0] 44 (0, 0))] :: [(b_27, .cells #[.int .i64 1, .int .i64 1, .int .i64 1, .int .i64 0, .int .i64 1, .int .i64 9, .int .i64 1, .int .i64 1] 48 (0, 0))] :: [(b_24, .cells #[.int .i64 5, .int .i64 0, .int .i64 0, .int .i64 9, .int .i64 0, .int .i64 0] 37 (0, 0))] :: G_21 :: [(b_12, .cells #[.int .i64 6, .int .i64 255, .int .i64 0] 37 (0, 0))] :: G_10 :: [(b_1, .cells #[.int .u8 8, .int .u8 1, .int .u8 2, .int .u8 9] 5 (0, 0))] :: H :: F) := hS_136
  clear hS_136
  refine pu4 ?_
  refine tW hS_137 0 2 (.agg #[.int .i64 0, .int .i64 0, .int .i64 0, .int .i64 0]) Tryz.sizeOf50 ?_
  intro w_138 hS_139
  refine pu1 ?_
  refine tW hS_139 0 0 (.int .i64 16) Tryz.sizeOf28 ?_
  intro w_140 hS_141
  refine nilO <| blockK_n <| thenK_n <| seqE <| regionE ?_
  refine lA hS_141 0 0 7 (Tryz.isAgg53 _) (Tryz.sizeOf53 _) ?_
  refine sT hS_141 1 0 (.agg #[.int .i64 16, .int .i64 0, .int .i64 0, .int .i64 0, .int .i64 0, .int .i64 0, .slice none 0 0]) [.int .i64 16, .int .i64 0, .int .i64 0, .int .i64 0, .int .i64 0, .int .i64 0, .slice none 0 0] #[.int .i64 16, .int .i64 0, .int .i64 0, .int .i64 0, .int .i64 0, .int .i64 0, .slice none 0 0] Tryz.sizeOf53 ?_
  intro w_142 hS_143
  refine nilO <| thenK_n <| retE <| retN (vs := [.agg #[.int .i64 16, .int .i64 0, .int .i64 0, .int .i64 0, .int .i64 0, .int .i64 0, .slice none 0 0]]) rfl (.cons (.cell _ _ _ _ (by kernel_rfl) (lvA hS_143 1 0 [.int .i64 16, .int .i64 0, .int .i64 0, .int .i64 0, .int .i64 0, .int .i64 0, .slice none 0 0] (Tryz.isAgg53 _) (Tryz.sizeOf53 _) rfl rfl rfl)) .nil) <| ?_
  refine ⟨_, rfl, ?_⟩
  have hS_144 := (hS_143.drops [0, 0, 0])
  have hS_145 : Sat W _ ([(b_115, .cells #[.int .i64 5, .int .i64 0, .int .i64 0] 37 (0, 0))] :: c_111 :: [(b_105, .cells #[.int .i64 1, .int .i64 1, .int .i64 1, .int .i64 0, .int .i64 1, .int .i64 9, .int .i64 1, .int .i64 1, .pointer (some ⟨b_74, 0, none⟩), .slice none 0 0] 68 (0, 0))] :: c_97 :: [(b_86, .cells #[.slice (some ⟨b_81, 0, none⟩) 1 1, .int .i64 0, .int .i64 0] 127 (0, 0))] :: c_82 :: [(b_77, .cells #[.int .i64 0, .int .i64 0, .int .i64 0, .slice none 0 0] 125 (0, 0))] :: [(b_74, .cells #[.int .i64 1, .int .i64 1, .int .i64 1, .int .i64 0, .int .i64 1, .int .i64 9, .int .i64 1, .int .i64 1, .slice a_95 1 cap_96, .pointer (some ⟨b_65, 0, none⟩), .map (some b_69), .int .i64 0, .int .i64 0, .int .i64 0, .int .i64 0, .int .i64 0, .int .i64 0, .int .i64 0, .int .i64 0, .int .i64 0, .int .i64 0] 90 (0, 0))] :: c_70 :: [(b_65, .cells #[.int .i64 9, .slice none 0 0, .slice none 0 0, .slice none 0 0, .slice none 0 0] 123 (0, 0))] :: [(b_30, .cells #[.int .i64 0, .int .i64 0, .int .i64 0, .int .i64 0, .int .i64 0, .int .i64 0, .int .i64 0, .int .i64 0, .int .i64 0, .int .i64 0] 44 (0, 0))] :: [(b_27, .cells #[.int .i64 1, .int .i64 1, .int .i64 1, .int .i64 0, .int .i64 1, .int .i64 9, .int .i64 1, .int .i64 1] 48 (0, 0))] :: [(b_24, .cells #[.int .i64 5, .int .i64 0, .int .i64 0, .int .i64 9, .int .i64 0, .int .i64 0] 37 (0, 0))] :: G_21 :: [(b_12, .cells #[.int .i64 6, .int .i64 255, .int .i64 0] 37 (0, 0))] :: G_10 :: [(b_1, .cells #[.int .u8 8, .int .u8 1, .int .u8 2, .int .u8 9] 5 (0, 0))] :: H :: F) := hS_144
  clear hS_144
  refine sIdxO hO_112 0 0 Tryz.runUnderlying42 Tryz.sizeOf53 ?_
  intro x_146 b_147 o_148 hx_149 hp_150 hq_151
  obtain rfl : (⟨0, 0, 0, 0, 0, 0, ⟨none, 0, 0, []⟩⟩ : Ans) = x_146 := Option.some.inj (show some (⟨0, 0, 0, 0, 0, 0, ⟨none, 0, 0, []⟩⟩ : Ans) = some x_146 from hx_149)
  refine sStF hS_145 hO_112 hq_151 1 0 0 (⟨0, 0, 0, 0, 0, 0, ⟨none, 0, 0, []⟩⟩ : Ans) (⟨16, 0, 0, 0, 0, 0, ⟨none, 0, 0, []⟩⟩ : Ans) (show (List.replicate 2 ⟨0, 0, 0, 0, 0, 0, ⟨none, 0, 0, []⟩⟩)[0]? = some (⟨0, 0, 0, 0, 0, 0, ⟨none, 0, 0, []⟩⟩ : Ans) from rfl) (.agg #[.int .i64 16, .int .i64 0, .int .i64 0, .int .i64 0, .int .i64 0, .int .i64 0, .slice none 0 0]) [.int .i64 16, .int .i64 0, .int .i64 0, .int .i64 0, .int .i64 0, .int .i64 0, .slice none 0 0] Tryz.sizeOf53 ?_
  intro w_152 c_154 hO_155 hS_153
  refine nilO <| blockK_n <| thenK_n <| regionE <| pu2 <| nilO <| thenK_n <| ?_
  refine roundS ?_
  refine seqE <| regionE <| pu1 <| nilO <| thenK_n <| seqE <| cTt <| skipE <| thenK_n <| seqE <| blockE <| seqE <| regionE <| pu1 ?_
  refine stepY (.pointer (some ⟨b_24, 3, none⟩)) rfl rfl (Y_idx (a := (some ⟨b_24, 0, none⟩)) (i := 1) (len := 2) (cap := 2) rfl Tryz.runUnderlying24 Tryz.sizeOf37 (by kernel_rfl) (by kernel_rfl) ⟨_, rfl, add_off _ 0 _, by decide, by decide⟩) ?_
  refine lA hS_153 12 3 3 (Tryz.isAgg37 _) (Tryz.sizeOf37 _) ?_
  refine sAlloc hS_153 Tryz.zeroValue37 ?_
  intro b_156 w_157 hS_158
  refine pu1 ?_
  refine sT hS_158 0 0 (.agg #[.int .i64 9, .int .i64 0, .int .i64 0]) [.int .i64 9, .int .i64 0, .int .i64 0] #[.int .i64 9, .int .i64 0, .int .i64 0] Tryz.sizeOf37 ?_
  intro w_159 hS_160
  refine nilO <| thenK_n <| regionE <| pu4 ?_
  refine lA hS_160 0 0 3 (Tryz.isAgg37 _) (Tryz.sizeOf37 _) ?_
  refine sF #[.pointer (some ⟨b_105, 0, none⟩), .slice none 0 0, .agg #[.int .i64 9, .int .i64 0, .int .i64 0]] Tryz.call20 ?_
  refine callsA 98 Tryz.func20 rfl ?_
  refine seqE <| regionE ?_
  refine sBox hS_160 (.agg #[.int .i64 9, .int .i64 0, .int .i64 0]) #[.int .i64 9, .int .i64 0, .int .i64 0] ?_
  intro b_161 w_162 hS_163
  refine sAlloc hS_163 Tryz.zeroValue53 ?_
  intro b_164 w_165 hS_166
  refine nilO <| thenK_n <| seqE <| regionE ?_
  refine sAlloc hS_166 Tryz.zeroValue53 ?_
  intro b_167 w_168 hS_169
  refine nilO <| thenK_n <| seqE <| seqE <| regionE <| pu1 ?_
  refine sL hS_169 2 0 (.int .i64 9) (Tryz.isAgg3 _) ?_
  refine nilO <| thenK_n <| blockE <| seqE <| regionE <| pu2 <| nilO <| thenK_n <| cFf <| seqE <| regionE <| pu2 <| nilO <| thenK_n <| cFf <| seqE <| regionE <| pu2 <| nilO <| thenK_n <| cFf <| seqE <| regionE <| pu2 <| nilO <| thenK_n <| cFf <| seqE <| regionE <| pu2 <| nilO <| thenK_n <| cFf <| seqE <| regionE <| pu2 <| nilO <| thenK_n <| cFf <| seqE <| regionE <| pu2 <| nilO <| thenK_n <| cFf <| regionE ?_
  refine pu1 ?_
  refine tW hS_169 0 0 (.int .i64 1) Tryz.sizeOf28 ?_
  intro w_170 hS_171
  refine nilO <| blockK_n <| thenK_n <| seqE <| regionE ?_
  refine lA hS_171 0 0 7 (Tryz.isAgg53 _) (Tryz.sizeOf53 _) ?_
  refine sT hS_171 1 0 (.agg #[.int .i64 1, .int .i64 0, .int .i64 0, .int .i64 0, .int .i64 0, .int .i64 0, .slice none 0 0]) [.int .i64 1, .int .i64 0, .int .i64 0, .int .i64 0, .int .i64 0, .int .i64 0, .slice none 0 0] #[.int .i64 1, .int .i64 0, .int .i64 0, .int .i64 0, .int .i64 0, .int .i64 0, .slice none 0 0] Tryz.sizeOf53 ?_
  intro w_172 hS_173
  refine nilO <| thenK_n <| retE <| retN (vs := [.agg #[.int .i64 1, .int .i64 0, .int .i64 0, .int .i64 0, .int .i64 0, .int .i64 0, .slice none 0 0]]) rfl (.cons (.cell _ _ _ _ (by kernel_rfl) (lvA hS_173 1 0 [.int .i64 1, .int .i64 0, .int .i64 0, .int .i64 0, .int .i64 0, .int .i64 0, .slice none 0 0] (Tryz.isAgg53 _) (Tryz.sizeOf53 _) rfl rfl rfl)) .nil) <| ?_
  refine ⟨_, rfl, ?_⟩
  have hS_174 := (hS_173.drops [0, 0, 0, 1])
  have hS_175 : Sat W _ ([(b_156, .cells #[.int .i64 9, .int .i64 0, .int .i64 0] 37 (0, 0))] :: c_154 :: [(b_105, .cells #[.int .i64 1, .int .i64 1, .int .i64 1, .int .i64 0, .int .i64 1, .int .i64 9, .int .i64 1, .int .i64 1, .pointer (some ⟨b_74, 0, none⟩), .slice none 0 0] 68 (0, 0))] :: c_97 :: [(b_86, .cells #[.slice (some ⟨b_81, 0, none⟩) 1 1, .int .i64 0, .int .i64 0] 127 (0, 0))] :: c_82 :: [(b_77, .cells #[.int .i64 0, .int .i64 0, .int .i64 0, .slice none 0 0] 125 (0, 0))] :: [(b_74, .cells #[.int .i64 1, .int .i64 1, .int .i64 1, .int .i64 0, .int .i64 1, .int .i64 9, .int .i64 1, .int .i64 1, .slice a_95 1 cap_96, .pointer (some ⟨b_65, 0, none⟩), .map (some b_69), .int .i64 0, .int .i64 0, .int .i64 0, .int .i64 0, .int .i64 0, .int .i64 0, .int .i64 0, .int .i64 0, .int .i64 0, .int .i64 0] 90 (0, 0))] :: c_70 :: [(b_65, .cells #[.int .i64 9, .slice none 0 0, .slice none 0 0, .slice none 0 0, .slice none 0 0] 123 (0, 0))] :: [(b_30, .cells #[.int .i64 0, .int .i64 0, .int .i64 0, .int .i64 0, .int .i64 0, .int .i64 0, .int .i64 0, .int .i64 0, .int .i64 0, .int .i64 0] 44 (0, 0))] :: [(b_27, .cells #[.int .i64 1, .int .i64 1, .int .i64 1, .int .i64 0, .int .i64 1, .int .i64 9, .int .i64 1, .int .i64 1] 48 (0, 0))] :: [(b_24, .cells #[.int .i64 5, .int .i64 0, .int .i64 0, .int .i64 9, .int .i64 0, .int .i64 0] 37 (0, 0))] :: G_21 :: [(b_12, .cells #[.int .i64 6, .int .i64 255, .int .i64 0] 37 (0, 0))] :: G_10 :: [(b_1, .cells #[.int .u8 8, .int .u8 1, .int .u8 2, .int .u8 9] 5 (0, 0))] :: H :: F) := hS_174
  clear hS_174
  refine sIdxO hO_155 1 1 Tryz.runUnderlying42 Tryz.sizeOf53 ?_
  intro x_176 b_177 o_178 hx_179 hp_180 hq_181
  obtain rfl : (⟨0, 0, 0, 0, 0, 0, ⟨none, 0, 0, []⟩⟩ : Ans) = x_176 := Option.some.inj (show some (⟨0, 0, 0, 0, 0, 0, ⟨none, 0, 0, []⟩⟩ : Ans) = some x_176 from hx_179)
  refine sStF hS_175 hO_155 hq_181 1 1 0 (⟨0, 0, 0, 0, 0, 0, ⟨none, 0, 0, []⟩⟩ : Ans) (⟨1, 0, 0, 0, 0, 0, ⟨none, 0, 0, []⟩⟩ : Ans) (show ((List.replicate 2 ⟨0, 0, 0, 0, 0, 0, ⟨none, 0, 0, []⟩⟩).set 0 (⟨16, 0, 0, 0, 0, 0, ⟨none, 0, 0, []⟩⟩ : Ans))[1]? = some (⟨0, 0, 0, 0, 0, 0, ⟨none, 0, 0, []⟩⟩ : Ans) from rfl) (.agg #[.int .i64 1, .int .i64 0, .int .i64 0, .int .i64 0, .int .i64 0, .int .i64 0, .slice none 0 0]) [.int .i64 1, .int .i64 0, .int .i64 0, .int .i64 0, .int .i64 0, .int .i64 0, .slice none 0 0] Tryz.sizeOf53 ?_
  intro w_182 c_184 hO_185 hS_183
  refine nilO <| blockK_n <| thenK_n <| regionE <| pu2 <| nilO <| thenK_n <| ?_
  refine roundS ?_
  refine seqE <| regionE <| pu1 <| nilO <| thenK_n <| seqE <| cFf <| exitE <| thenK_x <| thenK_x <| blockK_x <| thenK_n <| seqE <| regionE <| pu2 ?_
  refine sF #[.pointer (some ⟨b_105, 0, none⟩)] Tryz.call21 ?_
  refine callsA 17 Tryz.func21 rfl ?_
  refine seqE <| regionE ?_
  refine sAlloc hS_183 Tryz.zeroValue44 ?_
  intro b_186 w_187 hS_188
  refine nilO <| thenK_n <| seqE <| seqE <| regionE <| pu1 ?_
  refine sF #[.pointer (some ⟨b_105, 0, none⟩)] Tryz.call31 ?_
  refine callsA 12 Tryz.func31 rfl ?_
  refine seqE <| regionE <| pu1 <| nilO <| thenK_n <| seqE <| regionE <| pu6 <| gY ?_
  refine sL hS_188 3 8 (.pointer (some ⟨b_74, 0, none⟩)) (Tryz.isAgg63 _) ?_
  refine pu3 <| nilO <| thenK_n <| retE <| retT [.bool false] <| ?_
  refine ⟨_, rfl, ?_⟩
  have hS_189 : Sat W _ ([(b_186, .cells #[.int .i64 0, .int .i64 0, .int .i64 0, .int .i64 0, .int .i64 0, .int .i64 0, .int .i64 0, .int .i64 0, .int .i64 0, .int .i64 0] 44 (0, 0))] :: [(b_156, .cells #[.int .i64 9, .int .i64 0, .int .i64 0] 37 (0, 0))] :: c_184 :: [(b_105, .cells #[.int .i64 1, .int .i64 1, .int .i64 1, .int .i64 0, .int .i64 1, .int .i64 9, .int .i64 1, .int .i64 1, .pointer (some ⟨b_74, 0, none⟩), .slice none 0 0] 68 (0, 0))] :: c_97 :: [(b_86, .cells #[.slice (some ⟨b_81, 0, none⟩) 1 1, .int .i64 0, .int .i64 0] 127 (0, 0))] :: c_82 :: [(b_77, .cells #[.int .i64 0, .int .i64 0, .int .i64 0, .slice none 0 0] 125 (0, 0))] :: [(b_74, .cells #[.int .i64 1, .int .i64 1, .int .i64 1, .int .i64 0, .int .i64 1, .int .i64 9, .int .i64 1, .int .i64 1, .slice a_95 1 cap_96, .pointer (some ⟨b_65, 0, none⟩), .map (some b_69), .int .i64 0, .int .i64 0, .int .i64 0, .int .i64 0, .int .i64 0, .int .i64 0, .int .i64 0, .int .i64 0, .int .i64 0, .int .i64 0] 90 (0, 0))] :: c_70 :: [(b_65, .cells #[.int .i64 9, .slice none 0 0, .slice none 0 0, .slice none 0 0, .slice none 0 0] 123 (0, 0))] :: [(b_30, .cells #[.int .i64 0, .int .i64 0, .int .i64 0, .int .i64 0, .int .i64 0, .int .i64 0, .int .i64 0, .int .i64 0, .int .i64 0, .int .i64 0] 44 (0, 0))] :: [(b_27, .cells #[.int .i64 1, .int .i64 1, .int .i64 1, .int .i64 0, .int .i64 1, .int .i64 9, .int .i64 1, .int .i64 1] 48 (0, 0))] :: [(b_24, .cells #[.int .i64 5, .int .i64 0, .int .i64 0, .int .i64 9, .int .i64 0, .int .i64 0] 37 (0, 0))] :: G_21 :: [(b_12, .cells #[.int .i64 6, .int .i64 255, .int .i64 0] 37 (0, 0))] :: G_10 :: [(b_1, .cells #[.int .u8 8, .int .u8 1, .int .u8 2, .int .u8 9] 5 (0, 0))] :: H :: F) := hS_188
  clear hS_188
  refine nilO <| thenK_n <| cFf <| skipE <| thenK_n <| seqE <| regionE <| pu3 ?_
  refine sL hS_189 3 8 (.pointer (some ⟨b_74, 0, none⟩)) (Tryz.isAgg63 _) ?_
  refine sF #[.pointer (some ⟨b_74, 0, none⟩)] Tryz.call32 ?_
  refine callsA 50 Tryz.func32 rfl ?_
  refine seqE <| regionE ?_
  refine sAlloc hS_189 Tryz.zeroValue44 ?_
  intro b_190 w_191 hS_192
  refine nilO <| thenK_n <| seqE <| seqE <| regionE <| pu1 ?_
  refine sF #[.pointer (some ⟨b_74, 0, none⟩)] Tryz.call46 ?_
  refine callsA 13 Tryz.func46 rfl ?_
  refine seqE <| regionE <| pu1 <| nilO <| thenK_n <| seqE <| regionE <| pu6 <| gY ?_
  refine sL hS_192 9 8 (.slice a_95 1 cap_96) (Tryz.isAgg88 _) ?_
  refine pu4 <| nilO <| thenK_n <| retE <| retT [.bool false] <| ?_
  refine ⟨_, rfl, ?_⟩
  have hS_193 : Sat W _ ([(b_190, .cells #[.int .i64 0, .int .i64 0, .int .i64 0, .int .i64 0, .int .i64 0, .int .i64 0, .int .i64 0, .int .i64 0, .int .i64 0, .int .i64 0] 44 (0, 0))] :: [(b_186, .cells #[.int .i64 0, .int .i64 0, .int .i64 0, .int .i64 0, .int .i64 0, .int .i64 0, .int .i64 0, .int .i64 0, .int .i64 0, .int .i64 0] 44 (0, 0))] :: [(b_156, .cells #[.int .i64 9, .int .i64 0, .int .i64 0] 37 (0, 0))] :: c_184 :: [(b_105, .cells #[.int .i64 1, .int .i64 1, .int .i64 1, .int .i64 0, .int .i64 1, .int .i64 9, .int .i64 1, .int .i64 1, .pointer (some ⟨b_74, 0, none⟩), .slice none 0 0] 68 (0, 0))] :: c_97 :: [(b_86, .cells #[.slice (some ⟨b_81, 0, none⟩) 1 1, .int .i64 0, .int .i64 0] 127 (0, 0))] :: c_82 :: [(b_77, .cells #[.int .i64 0, .int .i64 0, .int .i64 0, .slice none 0 0] 125 (0, 0))] :: [(b_74, .cells #[.int .i64 1, .int .i64 1, .int .i64 1, .int .i64 0, .int .i64 1, .int .i64 9, .int .i64 1, .int .i64 1, .slice a_95 1 cap_96, .pointer (some ⟨b_65, 0, none⟩), .map (some b_69), .int .i64 0, .int .i64 0, .int .i64 0, .int .i64 0, .int .i64 0, .int .i64 0, .int .i64 0, .int .i64 0, .int .i64 0, .int .i64 0] 90 (0, 0))] :: c_70 :: [(b_65, .cells #[.int .i64 9, .slice none 0 0, .slice none 0 0, .slice none 0 0, .slice none 0 0] 123 (0, 0))] :: [(b_30, .cells #[.int .i64 0, .int .i64 0, .int .i64 0, .int .i64 0, .int .i64 0, .int .i64 0, .int .i64 0, .int .i64 0, .int .i64 0, .int .i64 0] 44 (0, 0))] :: [(b_27, .cells #[.int .i64 1, .int .i64 1, .int .i64 1, .int .i64 0, .int .i64 1, .int .i64 9, .int .i64 1, .int .i64 1] 48 (0, 0))] :: [(b_24, .cells #[.int .i64 5, .int .i64 0, .int .i64 0, .int .i64 9, .int .i64 0, .int .i64 0] 37 (0, 0))] :: G_21 :: [(b_12, .cells #[.int .i64 6, .int .i64 255, .int .i64 0] 37 (0, 0))] :: G_10 :: [(b_1, .cells #[.int .u8 8, .int .u8 1, .int .u8 2, .int .u8 9] 5 (0, 0))] :: H :: F) := hS_192
  clear hS_192
  refine nilO <| thenK_n <| cFf <| skipE <| thenK_n <| seqE <| regionE <| pu3 ?_
  refine lA hS_193 9 11 10 (Tryz.isAgg44 _) (Tryz.sizeOf44 _) ?_
  refine sAlloc hS_193 Tryz.zeroValue44 ?_
  intro b_194 w_195 hS_196
  refine sT hS_196 0 0 (.agg #[.int .i64 0, .int .i64 0, .int .i64 0, .int .i64 0, .int .i64 0, .int .i64 0, .int .i64 0, .int .i64 0, .int .i64 0, .int .i64 0]) [.int .i64 0, .int .i64 0, .int .i64 0, .int .i64 0, .int .i64 0, .int .i64 0, .int .i64 0, .int .i64 0, .int .i64 0, .int .i64 0] #[.int .i64 0, .int .i64 0, .int .i64 0, .int .i64 0, .int .i64 0, .int .i64 0, .int .i64 0, .int .i64 0, .int .i64 0, .int .i64 0] Tryz.sizeOf44 ?_
  intro w_197 hS_198
  refine nilO <| thenK_n <| seqE <| regionE <| pu3 ?_
  refine sL hS_198 10 9 (.pointer (some ⟨b_65, 0, none⟩)) (Tryz.isAgg84 _) ?_
  refine sF #[.pointer (some ⟨b_65, 0, none⟩)] Tryz.call47 ?_
  refine callsA 21 Tryz.func47 rfl ?_
  refine seqE <| regionE <| pu1 <| nilO <| thenK_n <| seqE <| seqE <| regionE <| pu2 <| nilO <| thenK_n <| cFf <| skipE <| thenK_n <| seqE <| regionE <| pu1 <| nilO <| thenK_n <| seqE <| seqE <| regionE <| pu3 ?_
  refine lA hS_198 12 1 4 (Tryz.isAgg121 _) (Tryz.sizeOf121 _) ?_
  refine pu1 <| nilO <| thenK_n <| blockE ?_
  refine loopN 40 ?_
  refine roundS ?_
  refine seqE <| regionE <| pu1 <| nilO <| thenK_n <| seqE <| cTt <| skipE <| thenK_n <| seqE <| blockE <| seqE <| regionE <| pu2 <| nilO <| thenK_n <| regionE <| pu5 <| nilO <| blockK_n <| thenK_n <| regionE <| pu2 <| nilO <| thenK_n <| ?_
  refine roundS ?_
  refine seqE <| regionE <| pu1 <| nilO <| thenK_n <| seqE <| cTt <| skipE <| thenK_n <| seqE <| blockE <| seqE <| regionE <| pu2 <| nilO <| thenK_n <| regionE <| pu5 <| nilO <| blockK_n <| thenK_n <| regionE <| pu2 <| nilO <| thenK_n <| ?_
  refine roundS ?_
  refine seqE <| regionE <| pu1 <| nilO <| thenK_n <| seqE <| cTt <| skipE <| thenK_n <| seqE <| blockE <| seqE <| regionE <| pu2 <| nilO <| thenK_n <| regionE <| pu5 <| nilO <| blockK_n <| thenK_n <| regionE <| pu2 <| nilO <| thenK_n <| ?_
  refine roundS ?_
  refine seqE <| regionE <| pu1 <| nilO <| thenK_n <| seqE <| cTt <| skipE <| thenK_n <| seqE <| blockE <| seqE <| regionE <| pu2 <| nilO <| thenK_n <| regionE <| pu5 <| nilO <| blockK_n <| thenK_n <| regionE <| pu2 <| nilO <| thenK_n <| ?_
  refine roundS ?_
  refine seqE <| regionE <| pu1 <| nilO <| thenK_n <| seqE <| cFf <| exitE <| thenK_x <| thenK_x <| blockK_x <| thenK_n <| seqE <| regionE <| pu2 <| nilO <| thenK_n <| retE <| retT [.int .i64 0] <| ?_
  refine ⟨_, rfl, ?_⟩
  have hS_199 : Sat W _ ([(b_194, .cells #[.int .i64 0, .int .i64 0, .int .i64 0, .int .i64 0, .int .i64 0, .int .i64 0, .int .i64 0, .int .i64 0, .int .i64 0, .int .i64 0] 44 (0, 0))] :: [(b_190, .cells #[.int .i64 0, .int .i64 0, .int .i64 0, .int .i64 0, .int .i64 0, .int .i64 0, .int .i64 0, .int .i64 0, .int .i64 0, .int .i64 0] 44 (0, 0))] :: [(b_186, .cells #[.int .i64 0, .int .i64 0, .int .i64 0, .int .i64 0, .int .i64 0, .int .i64 0, .int .i64 0, .int .i64 0, .int .i64 0, .int .i64 0] 44 (0, 0))] :: [(b_156, .cells #[.int .i64 9, .int .i64 0, .int .i64 0] 37 (0, 0))] :: c_184 :: [(b_105, .cells #[.int .i64 1, .int .i64 1, .int .i64 1, .int .i64 0, .int .i64 1, .int .i64 9, .int .i64 1, .int .i64 1, .pointer (some ⟨b_74, 0, none⟩), .slice none 0 0] 68 (0, 0))] :: c_97 :: [(b_86, .cells #[.slice (some ⟨b_81, 0, none⟩) 1 1, .int .i64 0, .int .i64 0] 127 (0, 0))] :: c_82 :: [(b_77, .cells #[.int .i64 0, .int .i64 0, .int .i64 0, .slice none 0 0] 125 (0, 0))] :: [(b_74, .cells #[.int .i64 1, .int .i64 1, .int .i64 1, .int .i64 0, .int .i64 1, .int .i64 9, .int .i64 1, .int .i64 1, .slice a_95 1 cap_96, .pointer (some ⟨b_65, 0, none⟩), .map (some b_69), .int .i64 0, .int .i64 0, .int .i64 0, .int .i64 0, .int .i64 0, .int .i64 0, .int .i64 0, .int .i64 0, .int .i64 0, .int .i64 0] 90 (0, 0))] :: c_70 :: [(b_65, .cells #[.int .i64 9, .slice none 0 0, .slice none 0 0, .slice none 0 0, .slice none 0 0] 123 (0, 0))] :: [(b_30, .cells #[.int .i64 0, .int .i64 0, .int .i64 0, .int .i64 0, .int .i64 0, .int .i64 0, .int .i64 0, .int .i64 0, .int .i64 0, .int .i64 0] 44 (0, 0))] :: [(b_27, .cells #[.int .i64 1, .int .i64 1, .int .i64 1, .int .i64 0, .int .i64 1, .int .i64 9, .int .i64 1, .int .i64 1] 48 (0, 0))] :: [(b_24, .cells #[.int .i64 5, .int .i64 0, .int .i64 0, .int .i64 9, .int .i64 0, .int .i64 0] 37 (0, 0))] :: G_21 :: [(b_12, .cells #[.int .i64 6, .int .i64 255, .int .i64 0] 37 (0, 0))] :: G_10 :: [(b_1, .cells #[.int .u8 8, .int .u8 1, .int .u8 2, .int .u8 9] 5 (0, 0))] :: H :: F) := hS_198
  clear hS_198
  refine pu1 ?_
  refine tW hS_199 0 7 (.int .i64 0) Tryz.sizeOf3 ?_
  intro w_200 hS_201
  refine nilO <| thenK_n <| seqE <| seqE <| regionE <| pu3 ?_
  refine sL hS_201 10 8 (.slice a_95 1 cap_96) (Tryz.isAgg88 _) ?_
  refine pu2 <| nilO <| thenK_n <| blockE ?_
  refine loopN 40 ?_
  refine roundS ?_
  refine seqE <| regionE <| pu1 <| nilO <| thenK_n <| seqE <| cTt <| skipE <| thenK_n <| seqE <| blockE <| seqE <| regionE <| pu2 <| nilO <| thenK_n <| seqE <| regionE <| pu3 ?_
  refine sL hS_201 10 8 (.slice a_95 1 cap_96) (Tryz.isAgg88 _) ?_
  refine pu1 ?_
  refine sIdxO hO_99 0 0 Tryz.runUnderlying88 Tryz.sizeOf100 ?_
  intro x_202 b_203 o_204 hx_205 hp_206 hq_207
  obtain rfl : (⟨0, 0, 0, 0, 0, (some ⟨b_77, 0, none⟩), (some ⟨b_86, 0, none⟩)⟩ : PW) = x_202 := Option.some.inj (show some (⟨0, 0, 0, 0, 0, (some ⟨b_77, 0, none⟩), (some ⟨b_86, 0, none⟩)⟩ : PW) = some x_202 from hx_205)
  refine pu1 <| nilO <| thenK_n <| seqE ?_
  have hx_208 := set_at (y := (⟨1, 0, 0, 0, 0, 0, ⟨none, 0, 0, []⟩⟩ : Ans)) (show ((List.replicate 2 ⟨0, 0, 0, 0, 0, 0, ⟨none, 0, 0, []⟩⟩).set 0 (⟨16, 0, 0, 0, 0, 0, ⟨none, 0, 0, []⟩⟩ : Ans))[1]? = some (⟨0, 0, 0, 0, 0, 0, ⟨none, 0, 0, []⟩⟩ : Ans) from rfl)
  have hp_209 := OwnT.ptr hO_185 hq_181 hx_208
  refine drawE [6, 9] [(1, ⟨b_194, 7, none⟩, .int .i64 0), (5, ⟨b_203, o_204 + 0 * 7 + 6, none⟩, .pointer (some ⟨b_86, 0, none⟩))] [(true, [0, 2, 3, 4]), (true, [1]), (true, [5]), (false, [6]), (true, [7]), (true, [8]), (false, [9])] rfl (by kernel_rfl) ⟨.inr (hS_201.cell 0 rfl rfl), .inr ((hp_206.up 6 rfl).cell hS_201 (k := 6) rfl), trivial⟩ ?_
  have hS_210 := hS_201.drew
  refine wU [0, 2, 3, 4] ?_
  refine wLd (.int .i64 0) 0 Tryz.isAgg3 ?_
  refine wLd (.pointer (some ⟨b_86, 0, none⟩)) 1 Tryz.isAgg94 ?_
  refine wO rfl ?_
  refine sF #[.pointer (some ⟨b_86, 0, none⟩)] Tryz.call48 ?_
  refine callsA 9 Tryz.func48 rfl ?_
  refine seqE <| regionE <| pu1 <| nilO <| thenK_n <| seqE <| seqE <| regionE <| pu2 <| nilO <| thenK_n <| cFf <| skipE <| thenK_n <| seqE <| regionE <| pu3 ?_
  refine sL hS_210 7 2 (.int .i64 0) (Tryz.isAgg3 _) ?_
  refine pu1 <| nilO <| thenK_n <| retE <| retT [.int .i64 0] <| ?_
  refine ⟨_, rfl, ?_⟩
  have hS_211 : Sat W _ ([(b_194, .cells #[.int .i64 0, .int .i64 0, .int .i64 0, .int .i64 0, .int .i64 0, .int .i64 0, .int .i64 0, .int .i64 0, .int .i64 0, .int .i64 0] 44 (0, 0))] :: [(b_190, .cells #[.int .i64 0, .int .i64 0, .int .i64 0, .int .i64 0, .int .i64 0, .int .i64 0, .int .i64 0, .int .i64 0, .int .i64 0, .int .i64 0] 44 (0, 0))] :: [(b_186, .cells #[.int .i64 0, .int .i64 0, .int .i64 0, .int .i64 0, .int .i64 0, .int .i64 0, .int .i64 0, .int .i64 0, .int .i64 0, .int .i64 0] 44 (0, 0))] :: [(b_156, .cells #[.int .i64 9, .int .i64 0, .int .i64 0] 37 (0, 0))] :: c_184 :: [(b_105, .cells #[.int .i64 1, .int .i64 1, .int .i64 1, .int .i64 0, .int .i64 1, .int .i64 9, .int .i64 1, .int .i64 1, .pointer (some ⟨b_74, 0, none⟩), .slice none 0 0] 68 (0, 0))] :: c_97 :: [(b_86, .cells #[.slice (some ⟨b_81, 0, none⟩) 1 1, .int .i64 0, .int .i64 0] 127 (0, 0))] :: c_82 :: [(b_77, .cells #[.int .i64 0, .int .i64 0, .int .i64 0, .slice none 0 0] 125 (0, 0))] :: [(b_74, .cells #[.int .i64 1, .int .i64 1, .int .i64 1, .int .i64 0, .int .i64 1, .int .i64 9, .int .i64 1, .int .i64 1, .slice a_95 1 cap_96, .pointer (some ⟨b_65, 0, none⟩), .map (some b_69), .int .i64 0, .int .i64 0, .int .i64 0, .int .i64 0, .int .i64 0, .int .i64 0, .int .i64 0, .int .i64 0, .int .i64 0, .int .i64 0] 90 (0, 0))] :: c_70 :: [(b_65, .cells #[.int .i64 9, .slice none 0 0, .slice none 0 0, .slice none 0 0, .slice none 0 0] 123 (0, 0))] :: [(b_30, .cells #[.int .i64 0, .int .i64 0, .int .i64 0, .int .i64 0, .int .i64 0, .int .i64 0, .int .i64 0, .int .i64 0, .int .i64 0, .int .i64 0] 44 (0, 0))] :: [(b_27, .cells #[.int .i64 1, .int .i64 1, .int .i64 1, .int .i64 0, .int .i64 1, .int .i64 9, .int .i64 1, .int .i64 1] 48 (0, 0))] :: [(b_24, .cells #[.int .i64 5, .int .i64 0, .int .i64 0, .int .i64 9, .int .i64 0, .int .i64 0] 37 (0, 0))] :: G_21 :: [(b_12, .cells #[.int .i64 6, .int .i64 255, .int .i64 0] 37 (0, 0))] :: G_10 :: [(b_1, .cells #[.int .u8 8, .int .u8 1, .int .u8 2, .int .u8 9] 5 (0, 0))] :: H :: F) := hS_210
  clear hS_210
  refine nilO ⟨⟨.inr (hS_211.cell 0 rfl rfl), .inl (by kernel_rfl), trivial⟩, ?_⟩
  refine wU [7] <| wU [8] ?_
  refine wO rfl ?_
  refine tW hS_211 0 7 (.int .i64 0) Tryz.sizeOf3 ?_
  intro w_212 hS_213
  refine nilO ⟨⟨.inl (by kernel_rfl), .inl (by kernel_rfl), trivial⟩, ?_⟩
  refine wN ?_
  refine thenK_n <| seqE <| regionE <| pu1 ?_
  refine sF #[.pointer (some ⟨b_203, o_204 + 0 * 7, none⟩)] Tryz.call49 ?_
  refine callsA 15 Tryz.func49 rfl ?_
  refine seqE <| regionE <| pu1 <| nilO <| thenK_n <| seqE <| regionE <| pu3 ?_
  refine sLp hS_213 (hp_206.up 6 rfl) 0 (.int .i64 0) (Tryz.isAgg3 _) ?_
  refine pu9 <| nilO <| thenK_n <| retE <| retT [.bool false] <| ?_
  refine ⟨_, rfl, ?_⟩
  have hS_214 : Sat W _ ([(b_194, .cells #[.int .i64 0, .int .i64 0, .int .i64 0, .int .i64 0, .int .i64 0, .int .i64 0, .int .i64 0, .int .i64 0, .int .i64 0, .int .i64 0] 44 (0, 0))] :: [(b_190, .cells #[.int .i64 0, .int .i64 0, .int .i64 0, .int .i64 0, .int .i64 0, .int .i64 0, .int .i64 0, .int .i64 0, .int .i64 0, .int .i64 0] 44 (0, 0))] :: [(b_186, .cells #[.int .i64 0, .int .i64 0, .int .i64 0, .int .i64 0, .int .i64 0, .int .i64 0, .int .i64 0, .int .i64 0, .int .i64 0, .int .i64 0] 44 (0, 0))] :: [(b_156, .cells #[.int .i64 9, .int .i64 0, .int .i64 0] 37 (0, 0))] :: c_184 :: [(b_105, .cells #[.int .i64 1, .int .i64 1, .int .i64 1, .int .i64 0, .int .i64 1, .int .i64 9, .int .i64 1, .int .i64 1, .pointer (some ⟨b_74, 0, none⟩), .slice none 0 0] 68 (0, 0))] :: c_97 :: [(b_86, .cells #[.slice (some ⟨b_81, 0, none⟩) 1 1, .int .i64 0, .int .i64 0] 127 (0, 0))] :: c_82 :: [(b_77, .cells #[.int .i64 0, .int .i64 0, .int .i64 0, .slice none 0 0] 125 (0, 0))] :: [(b_74, .cells #[.int .i64 1, .int .i64 1, .int .i64 1, .int .i64 0, .int .i64 1, .int .i64 9, .int .i64 1, .int .i64 1, .slice a_95 1 cap_96, .pointer (some ⟨b_65, 0, none⟩), .map (some b_69), .int .i64 0, .int .i64 0, .int .i64 0, .int .i64 0, .int .i64 0, .int .i64 0, .int .i64 0, .int .i64 0, .int .i64 0, .int .i64 0] 90 (0, 0))] :: c_70 :: [(b_65, .cells #[.int .i64 9, .slice none 0 0, .slice none 0 0, .slice none 0 0, .slice none 0 0] 123 (0, 0))] :: [(b_30, .cells #[.int .i64 0, .int .i64 0, .int .i64 0, .int .i64 0, .int .i64 0, .int .i64 0, .int .i64 0, .int .i64 0, .int .i64 0, .int .i64 0] 44 (0, 0))] :: [(b_27, .cells #[.int .i64 1, .int .i64 1, .int .i64 1, .int .i64 0, .int .i64 1, .int .i64 9, .int .i64 1, .int .i64 1] 48 (0, 0))] :: [(b_24, .cells #[.int .i64 5, .int .i64 0, .int .i64 0, .int .i64 9, .int .i64 0, .int .i64 0] 37 (0, 0))] :: G_21 :: [(b_12, .cells #[.int .i64 6, .int .i64 255, .int .i64 0] 37 (0, 0))] :: G_10 :: [(b_1, .cells #[.int .u8 8, .int .u8 1, .int .u8 2, .int .u8 9] 5 (0, 0))] :: H :: F) := hS_213
  clear hS_213
  refine nilO <| thenK_n <| cFf <| skipE <| blockK_n <| thenK_n <| regionE <| pu2 <| nilO <| thenK_n <| ?_
  refine roundS ?_
  refine seqE <| regionE <| pu1 <| nilO <| thenK_n <| seqE <| cFf <| exitE <| thenK_x <| thenK_x <| blockK_x <| thenK_n <| seqE <| regionE ?_
  refine lA hS_214 0 0 10 (Tryz.isAgg44 _) (Tryz.sizeOf44 _) ?_
  refine sT hS_214 1 0 (.agg #[.int .i64 0, .int .i64 0, .int .i64 0, .int .i64 0, .int .i64 0, .int .i64 0, .int .i64 0, .int .i64 0, .int .i64 0, .int .i64 0]) [.int .i64 0, .int .i64 0, .int .i64 0, .int .i64 0, .int .i64 0, .int .i64 0, .int .i64 0, .int .i64 0, .int .i64 0, .int .i64 0] #[.int .i64 0, .int .i64 0, .int .i64 0, .int .i64 0, .int .i64 0, .int .i64 0, .int .i64 0, .int .i64 0, .int .i64 0, .int .i64 0] Tryz.sizeOf44 ?_
  intro w_215 hS_216
  refine nilO <| thenK_n <| retE <| retN (vs := [.agg #[.int .i64 0, .int .i64 0, .int .i64 0, .int .i64 0, .int .i64 0, .int .i64 0, .int .i64 0, .int .i64 0, .int .i64 0, .int .i64 0]]) rfl (.cons (.cell _ _ _ _ (by kernel_rfl) (lvA hS_216 1 0 [.int .i64 0, .int .i64 0, .int .i64 0, .int .i64 0, .int .i64 0, .int .i64 0, .int .i64 0, .int .i64 0, .int .i64 0, .int .i64 0] (Tryz.isAgg44 _) (Tryz.sizeOf44 _) rfl rfl rfl)) .nil) <| ?_
  refine ⟨_, rfl, ?_⟩
  have hS_217 := (hS_216.drops [0, 0])
  have hS_218 : Sat W _ ([(b_186, .cells #[.int .i64 0, .int .i64 0, .int .i64 0, .int .i64 0, .int .i64 0, .int .i64 0, .int .i64 0, .int .i64 0, .int .i64 0, .int .i64 0] 44 (0, 0))] :: [(b_156, .cells #[.int .i64 9, .int .i64 0, .int .i64 0] 37 (0, 0))] :: c_184 :: [(b_105, .cells #[.int .i64 1, .int .i64 1, .int .i64 1, .int .i64 0, .int .i64 1, .int .i64 9, .int .i64 1, .int .i64 1, .pointer (some ⟨b_74, 0, none⟩), .slice none 0 0] 68 (0, 0))] :: c_97 :: [(b_86, .cells #[.slice (some ⟨b_81, 0, none⟩) 1 1, .int .i64 0, .int .i64 0] 127 (0, 0))] :: c_82 :: [(b_77, .cells #[.int .i64 0, .int .i64 0, .int .i64 0, .slice none 0 0] 125 (0, 0))] :: [(b_74, .cells #[.int .i64 1, .int .i64 1, .int .i64 1, .int .i64 0, .int .i64 1, .int .i64 9, .int .i64 1, .int .i64 1, .slice a_95 1 cap_96, .pointer (some ⟨b_65, 0, none⟩), .map (some b_69), .int .i64 0, .int .i64 0, .int .i64 0, .int .i64 0, .int .i64 0, .int .i64 0, .int .i64 0, .int .i64 0, .int .i64 0, .int .i64 0] 90 (0, 0))] :: c_70 :: [(b_65, .cells #[.int .i64 9, .slice none 0 0, .slice none 0 0, .slice none 0 0, .slice none 0 0] 123 (0, 0))] :: [(b_30, .cells #[.int .i64 0, .int .i64 0, .int .i64 0, .int .i64 0, .int .i64 0, .int .i64 0, .int .i64 0, .int .i64 0, .int .i64 0, .int .i64 0] 44 (0, 0))] :: [(b_27, .cells #[.int .i64 1, .int .i64 1, .int .i64 1, .int .i64 0, .int .i64 1, .int .i64 9, .int .i64 1, .int .i64 1] 48 (0, 0))] :: [(b_24, .cells #[.int .i64 5, .int .i64 0, .int .i64 0, .int .i64 9, .int .i64 0, .int .i64 0] 37 (0, 0))] :: G_21 :: [(b_12, .cells #[.int .i64 6, .int .i64 255, .int .i64 0] 37 (0, 0))] :: G_10 :: [(b_1, .cells #[.int .u8 8, .int .u8 1, .int .u8 2, .int .u8 9] 5 (0, 0))] :: H :: F) := hS_217
  clear hS_217
  refine sAlloc hS_218 Tryz.zeroValue44 ?_
  intro b_219 w_220 hS_221
  refine sT hS_221 0 0 (.agg #[.int .i64 0, .int .i64 0, .int .i64 0, .int .i64 0, .int .i64 0, .int .i64 0, .int .i64 0, .int .i64 0, .int .i64 0, .int .i64 0]) [.int .i64 0, .int .i64 0, .int .i64 0, .int .i64 0, .int .i64 0, .int .i64 0, .int .i64 0, .int .i64 0, .int .i64 0, .int .i64 0] #[.int .i64 0, .int .i64 0, .int .i64 0, .int .i64 0, .int .i64 0, .int .i64 0, .int .i64 0, .int .i64 0, .int .i64 0, .int .i64 0] Tryz.sizeOf44 ?_
  intro w_222 hS_223
  refine nilO <| thenK_n <| seqE <| regionE <| pu1 ?_
  refine sF #[.pointer (some ⟨b_105, 0, none⟩)] Tryz.call33 ?_
  refine callsA 60 Tryz.func33 rfl ?_
  refine seqE <| regionE ?_
  refine sAlloc hS_223 Tryz.zeroValue81 ?_
  intro b_224 w_225 hS_226
  refine nilO <| thenK_n <| seqE <| seqE <| regionE <| pu1 ?_
  refine sF #[.pointer (some ⟨b_105, 0, none⟩)] Tryz.call31 ?_
  refine callsA 12 Tryz.func31 rfl ?_
  refine seqE <| regionE <| pu1 <| nilO <| thenK_n <| seqE <| regionE <| pu6 <| gY ?_
  refine sL hS_226 5 8 (.pointer (some ⟨b_74, 0, none⟩)) (Tryz.isAgg63 _) ?_
  refine pu3 <| nilO <| thenK_n <| retE <| retT [.bool false] <| ?_
  refine ⟨_, rfl, ?_⟩
  have hS_227 : Sat W _ ([(b_224, .cells #[.int .i64 0, .int .i64 0, .int .i64 0] 81 (0, 0))] :: [(b_219, .cells #[.int .i64 0, .int .i64 0, .int .i64 0, .int .i64 0, .int .i64 0, .int .i64 0, .int .i64 0, .int .i64 0, .int .i64 0, .int .i64 0] 44 (0, 0))] :: [(b_186, .cells #[.int .i64 0, .int .i64 0, .int .i64 0, .int .i64 0, .int .i64 0, .int .i64 0, .int .i64 0, .int .i64 0, .int .i64 0, .int .i64 0] 44 (0, 0))] :: [(b_156, .cells #[.int .i64 9, .int .i64 0, .int .i64 0] 37 (0, 0))] :: c_184 :: [(b_105, .cells #[.int .i64 1, .int .i64 1, .int .i64 1, .int .i64 0, .int .i64 1, .int .i64 9, .int .i64 1, .int .i64 1, .pointer (some ⟨b_74, 0, none⟩), .slice none 0 0] 68 (0, 0))] :: c_97 :: [(b_86, .cells #[.slice (some ⟨b_81, 0, none⟩) 1 1, .int .i64 0, .int .i64 0] 127 (0, 0))] :: c_82 :: [(b_77, .cells #[.int .i64 0, .int .i64 0, .int .i64 0, .slice none 0 0] 125 (0, 0))] :: [(b_74, .cells #[.int .i64 1, .int .i64 1, .int .i64 1, .int .i64 0, .int .i64 1, .int .i64 9, .int .i64 1, .int .i64 1, .slice a_95 1 cap_96, .pointer (some ⟨b_65, 0, none⟩), .map (some b_69), .int .i64 0, .int .i64 0, .int .i64 0, .int .i64 0, .int .i64 0, .int .i64 0, .int .i64 0, .int .i64 0, .int .i64 0, .int .i64 0] 90 (0, 0))] :: c_70 :: [(b_65, .cells #[.int .i64 9, .slice none 0 0, .slice none 0 0, .slice none 0 0, .slice none 0 0] 123 (0, 0))] :: [(b_30, .cells #[.int .i64 0, .int .i64 0, .int .i64 0, .int .i64 0, .int .i64 0, .int .i64 0, .int .i64 0, .int .i64 0, .int .i64 0, .int .i64 0] 44 (0, 0))] :: [(b_27, .cells #[.int .i64 1, .int .i64 1, .int .i64 1, .int .i64 0, .int .i64 1, .int .i64 9, .int .i64 1, .int .i64 1] 48 (0, 0))] :: [(b_24, .cells #[.int .i64 5, .int .i64 0, .int .i64 0, .int .i64 9, .int .i64 0, .int .i64 0] 37 (0, 0))] :: G_21 :: [(b_12, .cells #[.int .i64 6, .int .i64 255, .int .i64 0] 37 (0, 0))] :: G_10 :: [(b_1, .cells #[.int .u8 8, .int .u8 1, .int .u8 2, .int .u8 9] 5 (0, 0))] :: H :: F) := hS_226
  clear hS_226
  refine nilO <| thenK_n <| cFf <| skipE <| thenK_n <| seqE <| regionE <| pu3 ?_
  refine sL hS_227 5 9 (.slice none 0 0) (Tryz.isAgg66 _) ?_
  refine pu2 ?_
  refine sAlloc hS_227 Tryz.zeroValue81 ?_
  intro b_228 w_229 hS_230
  refine sT hS_230 0 0 (.agg #[.int .i64 0, .int .i64 0, .int .i64 0]) [.int .i64 0, .int .i64 0, .int .i64 0] #[.int .i64 0, .int .i64 0, .int .i64 0] Tryz.sizeOf81 ?_
  intro w_231 hS_232
  refine nilO <| thenK_n <| seqE <| seqE <| regionE <| pu3 ?_
  refine sL hS_232 6 9 (.slice none 0 0) (Tryz.isAgg66 _) ?_
  refine pu2 <| nilO <| thenK_n <| blockE ?_
  refine loopN 40 ?_
  refine roundS ?_
  refine seqE <| regionE <| pu1 <| nilO <| thenK_n <| seqE <| cFf <| exitE <| thenK_x <| thenK_x <| blockK_x <| thenK_n <| seqE <| regionE ?_
  refine lA hS_232 0 0 3 (Tryz.isAgg81 _) (Tryz.sizeOf81 _) ?_
  refine sT hS_232 1 0 (.agg #[.int .i64 0, .int .i64 0, .int .i64 0]) [.int .i64 0, .int .i64 0, .int .i64 0] #[.int .i64 0, .int .i64 0, .int .i64 0] Tryz.sizeOf81 ?_
  intro w_233 hS_234
  refine nilO <| thenK_n <| retE <| retN (vs := [.agg #[.int .i64 0, .int .i64 0, .int .i64 0]]) rfl (.cons (.cell _ _ _ _ (by kernel_rfl) (lvA hS_234 1 0 [.int .i64 0, .int .i64 0, .int .i64 0] (Tryz.isAgg81 _) (Tryz.sizeOf81 _) rfl rfl rfl)) .nil) <| ?_
  refine ⟨_, rfl, ?_⟩
  have hS_235 := (hS_234.drops [0, 0])
  have hS_236 : Sat W _ ([(b_219, .cells #[.int .i64 0, .int .i64 0, .int .i64 0, .int .i64 0, .int .i64 0, .int .i64 0, .int .i64 0, .int .i64 0, .int .i64 0, .int .i64 0] 44 (0, 0))] :: [(b_186, .cells #[.int .i64 0, .int .i64 0, .int .i64 0, .int .i64 0, .int .i64 0, .int .i64 0, .int .i64 0, .int .i64 0, .int .i64 0, .int .i64 0] 44 (0, 0))] :: [(b_156, .cells #[.int .i64 9, .int .i64 0, .int .i64 0] 37 (0, 0))] :: c_184 :: [(b_105, .cells #[.int .i64 1, .int .i64 1, .int .i64 1, .int .i64 0, .int .i64 1, .int .i64 9, .int .i64 1, .int .i64 1, .pointer (some ⟨b_74, 0, none⟩), .slice none 0 0] 68 (0, 0))] :: c_97 :: [(b_86, .cells #[.slice (some ⟨b_81, 0, none⟩) 1 1, .int .i64 0, .int .i64 0] 127 (0, 0))] :: c_82 :: [(b_77, .cells #[.int .i64 0, .int .i64 0, .int .i64 0, .slice none 0 0] 125 (0, 0))] :: [(b_74, .cells #[.int .i64 1, .int .i64 1, .int .i64 1, .int .i64 0, .int .i64 1, .int .i64 9, .int .i64 1, .int .i64 1, .slice a_95 1 cap_96, .pointer (some ⟨b_65, 0, none⟩), .map (some b_69), .int .i64 0, .int .i64 0, .int .i64 0, .int .i64 0, .int .i64 0, .int .i64 0, .int .i64 0, .int .i64 0, .int .i64 0, .int .i64 0] 90 (0, 0))] :: c_70 :: [(b_65, .cells #[.int .i64 9, .slice none 0 0, .slice none 0 0, .slice none 0 0, .slice none 0 0] 123 (0, 0))] :: [(b_30, .cells #[.int .i64 0, .int .i64 0, .int .i64 0, .int .i64 0, .int .i64 0, .int .i64 0, .int .i64 0, .int .i64 0, .int .i64 0, .int .i64 0] 44 (0, 0))] :: [(b_27, .cells #[.int .i64 1, .int .i64 1, .int .i64 1, .int .i64 0, .int .i64 1, .int .i64 9, .int .i64 1, .int .i64 1] 48 (0, 0))] :: [(b_24, .cells #[.int .i64 5, .int .i64 0, .int .i64 0, .int .i64 9, .int .i64 0, .int .i64 0] 37 (0, 0))] :: G_21 :: [(b_12, .cells #[.int .i64 6, .int .i64 255, .int .i64 0] 37 (0, 0))] :: G_10 :: [(b_1, .cells #[.int .u8 8, .int .u8 1, .int .u8 2, .int .u8 9] 5 (0, 0))] :: H :: F) := hS_235
  clear hS_235
  refine pu2 ?_
  refine tW hS_236 0 9 (.int .i64 0) Tryz.sizeOf3 ?_
  intro w_237 hS_238
  refine nilO <| thenK_n <| seqE <| regionE ?_
  refine lA hS_238 0 0 10 (Tryz.isAgg44 _) (Tryz.sizeOf44 _) ?_
  refine sT hS_238 1 0 (.agg #[.int .i64 0, .int .i64 0, .int .i64 0, .int .i64 0, .int .i64 0, .int .i64 0, .int .i64 0, .int .i64 0, .int .i64 0, .int .i64 0]) [.int .i64 0, .int .i64 0, .int .i64 0, .int .i64 0, .int .i64 0, .int .i64 0, .int .i64 0, .int .i64 0, .int .i64 0, .int .i64 0] #[.int .i64 0, .int .i64 0, .int .i64 0, .int .i64 0, .int .i64 0, .int .i64 0, .int .i64 0, .int .i64 0, .int .i64 0, .int .i64 0] Tryz.sizeOf44 ?_
  intro w_239 hS_240
  refine nilO <| thenK_n <| retE <| retN (vs := [.agg #[.int .i64 0, .int .i64 0, .int .i64 0, .int .i64 0, .int .i64 0, .int .i64 0, .int .i64 0, .int .i64 0, .int .i64 0, .int .i64 0]]) rfl (.cons (.cell _ _ _ _ (by kernel_rfl) (lvA hS_240 1 0 [.int .i64 0, .int .i64 0, .int .i64 0, .int .i64 0, .int .i64 0, .int .i64 0, .int .i64 0, .int .i64 0, .int .i64 0, .int .i64 0] (Tryz.isAgg44 _) (Tryz.sizeOf44 _) rfl rfl rfl)) .nil) <| ?_
  refine ⟨_, rfl, ?_⟩
  have hS_241 := (hS_240.drops [0, 0])
  have hS_242 : Sat W _ ([(b_156, .cells #[.int .i64 9, .int .i64 0, .int .i64 0] 37 (0, 0))] :: c_184 :: [(b_105, .cells #[.int .i64 1, .int .i64 1, .int .i64 1, .int .i64 0, .int .i64 1, .int .i64 9, .int .i64 1, .int .i64 1, .pointer (some ⟨b_74, 0, none⟩), .slice none 0 0] 68 (0, 0))] :: c_97 :: [(b_86, .cells #[.slice (some ⟨b_81, 0, none⟩) 1 1, .int .i64 0, .int .i64 0] 127 (0, 0))] :: c_82 :: [(b_77, .cells #[.int .i64 0, .int .i64 0, .int .i64 0, .slice none 0 0] 125 (0, 0))] :: [(b_74, .cells #[.int .i64 1, .int .i64 1, .int .i64 1, .int .i64 0, .int .i64 1, .int .i64 9, .int .i64 1, .int .i64 1, .slice a_95 1 cap_96, .pointer (some ⟨b_65, 0, none⟩), .map (some b_69), .int .i64 0, .int .i64 0, .int .i64 0, .int .i64 0, .int .i64 0, .int .i64 0, .int .i64 0, .int .i64 0, .int .i64 0, .int .i64 0] 90 (0, 0))] :: c_70 :: [(b_65, .cells #[.int .i64 9, .slice none 0 0, .slice none 0 0, .slice none 0 0, .slice none 0 0] 123 (0, 0))] :: [(b_30, .cells #[.int .i64 0, .int .i64 0, .int .i64 0, .int .i64 0, .int .i64 0, .int .i64 0, .int .i64 0, .int .i64 0, .int .i64 0, .int .i64 0] 44 (0, 0))] :: [(b_27, .cells #[.int .i64 1, .int .i64 1, .int .i64 1, .int .i64 0, .int .i64 1, .int .i64 9, .int .i64 1, .int .i64 1] 48 (0, 0))] :: [(b_24, .cells #[.int .i64 5, .int .i64 0, .int .i64 0, .int .i64 9, .int .i64 0, .int .i64 0] 37 (0, 0))] :: G_21 :: [(b_12, .cells #[.int .i64 6, .int .i64 255, .int .i64 0] 37 (0, 0))] :: G_10 :: [(b_1, .cells #[.int .u8 8, .int .u8 1, .int .u8 2, .int .u8 9] 5 (0, 0))] :: H :: F) := hS_241
  clear hS_241
  refine pu1 ?_
  refine sT hS_242 10 0 (.agg #[.int .i64 0, .int .i64 0, .int .i64 0, .int .i64 0, .int .i64 0, .int .i64 0, .int .i64 0, .int .i64 0, .int .i64 0, .int .i64 0]) [.int .i64 0, .int .i64 0, .int .i64 0, .int .i64 0, .int .i64 0, .int .i64 0, .int .i64 0, .int .i64 0, .int .i64 0, .int .i64 0] #[.int .i64 0, .int .i64 0, .int .i64 0, .int .i64 0, .int .i64 0, .int .i64 0, .int .i64 0, .int .i64 0, .int .i64 0, .int .i64 0] Tryz.sizeOf44 ?_
  intro w_243 hS_244
  refine pu1 <| nilO <| thenK_n <| retE <| retN (vs := [.slice (some ⟨b_110, 0, none⟩) 2 2, .agg #[.int .i64 0, .int .i64 0, .int .i64 0, .int .i64 0, .int .i64 0, .int .i64 0, .int .i64 0, .int .i64 0, .int .i64 0, .int .i64 0], .int .i64 0]) rfl (.cons (.tmp _ _ (by kernel_rfl)) (.cons (.cell _ _ _ _ (by kernel_rfl) (lvA hS_244 10 0 [.int .i64 0, .int .i64 0, .int .i64 0, .int .i64 0, .int .i64 0, .int .i64 0, .int .i64 0, .int .i64 0, .int .i64 0, .int .i64 0] (Tryz.isAgg44 _) (Tryz.sizeOf44 _) rfl rfl rfl)) (.cons (.tmp _ _ (by kernel_rfl)) .nil))) <| ?_
  refine ⟨_, rfl, ?_⟩
  have hS_245 := (hS_244.drops [0, 1, 1, 1, 1, 1, 1, 1, 1, 1, 1])
  have hS_246 : Sat W _ (c_184 :: [(b_24, .cells #[.int .i64 5, .int .i64 0, .int .i64 0, .int .i64 9, .int .i64 0, .int .i64 0] 37 (0, 0))] :: G_21 :: [(b_12, .cells #[.int .i64 6, .int .i64 255, .int .i64 0] 37 (0, 0))] :: G_10 :: [(b_1, .cells #[.int .u8 8, .int .u8 1, .int .u8 2, .int .u8 9] 5 (0, 0))] :: H :: F) := hS_245
  clear hS_245
  refine pu4 ?_
  refine sAlloc hS_246 Tryz.zeroValue44 ?_
  intro b_247 w_248 hS_249
  refine pu1 ?_
  refine sT hS_249 0 0 (.agg #[.int .i64 0, .int .i64 0, .int .i64 0, .int .i64 0, .int .i64 0, .int .i64 0, .int .i64 0, .int .i64 0, .int .i64 0, .int .i64 0]) [.int .i64 0, .int .i64 0, .int .i64 0, .int .i64 0, .int .i64 0, .int .i64 0, .int .i64 0, .int .i64 0, .int .i64 0, .int .i64 0] #[.int .i64 0, .int .i64 0, .int .i64 0, .int .i64 0, .int .i64 0, .int .i64 0, .int .i64 0, .int .i64 0, .int .i64 0, .int .i64 0] Tryz.sizeOf44 ?_
  intro w_250 hS_251
  refine pu1 <| nilO <| thenK_n <| seqE <| regionE <| pu4 ?_
  have hc_252 : (((nz_8 : Nat) : Int) : Int) = 1 := (by omega)
  refine sFix 27 _ true (beq_iff_eq.2 hc_252) ?_
  refine pu1 <| gY ?_
  refine sIdxO hR_11 0 0 Tryz.runUnderlying24 Tryz.sizeOf37 ?_
  intro x_253 b_254 o_255 hx_256 hp_257 hq_258
  have hx_x_253 : (⟨1, 1, 2⟩ : Ent) = x_253 := Option.some.inj (show some (⟨1, 1, 2⟩ : Ent) = some x_253 from hx_256)
  refine gY ?_
  refine sLpA hS_251 (hp_257.up 5 rfl) 0 [.int .i64 x_253.kind, .int .i64 x_253.worker, .int .i64 x_253.arg] (Tryz.isAgg37 _) (Tryz.sizeOf37 _) ?_
  refine pu1 <| gY ?_
  refine stepY (.bool (((x_253.kind : Int) == 1) && ((x_253.worker : Int) == 1) && ((x_253.arg : Int) == 2))) rfl rfl (Y_eqS rfl (by kernel_rfl) (by kernel_rfl) (eqve37 _ x_253.kind x_253.worker x_253.arg 1 1 2)) ?_
  refine pu2 ?_
  have hc_259 : (x_253.kind : Int) = 1 ∧ (x_253.worker : Int) = 1 ∧ (x_253.arg : Int) = 2 := (by rw [← hx_x_253]; exact ⟨rfl, rfl, rfl⟩)
  refine sFix 34 _ true (show (((x_253.kind : Int) == 1) && ((x_253.worker : Int) == 1) && ((x_253.arg : Int) == 2)) = true from by simpa [and_assoc] using hc_259) ?_
  refine pu4 ?_
  have hc_260 : ((codeE ([(⟨6, 255, 0⟩ : Ent)])) : Int) = 0 := (by decide +kernel)
  refine sFix 38 _ true (beq_iff_eq.2 hc_260) ?_
  refine pu5 ?_
  have hc_261 : (((nz_19 : Nat) : Int) : Int) = 3 := (by omega)
  refine sFix 43 _ true (beq_iff_eq.2 hc_261) ?_
  refine pu1 <| gY ?_
  refine sIdxO hR_22 0 0 Tryz.runUnderlying23 Tryz.sizeOf5 ?_
  intro x_262 b_263 o_264 hx_265 hp_266 hq_267
  have hx_x_262 : (6 : Int) = x_262 := Option.some.inj (show some (6 : Int) = some x_262 from hx_265)
  refine gY ?_
  refine sLp hS_251 (hp_266.up 3 rfl) 0 (.int .u8 x_262) (Tryz.isAgg5 _) ?_
  refine pu3 ?_
  have hc_268 : (x_262 : Int) = 6 := (by omega)
  refine sFix 49 _ true (beq_iff_eq.2 hc_268) ?_
  refine pu10 <| gY ?_
  refine sIdxO hO_185 0 0 Tryz.runUnderlying42 Tryz.sizeOf53 ?_
  intro x_269 b_270 o_271 hx_272 hp_273 hq_274
  obtain rfl : (⟨16, 0, 0, 0, 0, 0, ⟨none, 0, 0, []⟩⟩ : Ans) = x_269 := Option.some.inj (show some (⟨16, 0, 0, 0, 0, 0, ⟨none, 0, 0, []⟩⟩ : Ans) = some x_269 from hx_272)
  refine pu1 <| gY ?_
  refine sLp hS_251 (hp_273.up 1 rfl) 0 (.int .i64 16) (Tryz.isAgg28 _) ?_
  refine pu4 <| gY ?_
  refine sIdxO hO_185 1 1 Tryz.runUnderlying42 Tryz.sizeOf53 ?_
  intro x_275 b_276 o_277 hx_278 hp_279 hq_280
  obtain rfl : (⟨1, 0, 0, 0, 0, 0, ⟨none, 0, 0, []⟩⟩ : Ans) = x_275 := Option.some.inj (show some (⟨1, 0, 0, 0, 0, 0, ⟨none, 0, 0, []⟩⟩ : Ans) = some x_275 from hx_278)
  refine pu1 <| gY ?_
  refine sLp hS_251 (hp_279.up 1 rfl) 0 (.int .i64 1) (Tryz.isAgg28 _) ?_
  refine pu3 <| nilO <| thenK_n <| retE <| retT [.bool true] <| ?_
  have hS_281 := (hS_251.drops [0, 0, 0, 0, 0, 0, 0])
  exact ⟨rfl, hS_281⟩
end Go.Proofs.YtlhahicakkpnhaaGreat
