import Derived.Test.YtimkhljglpookaaL25
namespace Go.Proofs.Ytimkhljglpookaa
open Go Go.E
set_option linter.unusedVariables false
set_option linter.unusedSimpArgs false
set_option linter.unnecessarySimpa false
set_option maxRecDepth 100000
set_option maxHeartbeats 2000000
variable {W w : World} {H : Chunk} {F : List Chunk}

theorem start_deps {B : BS} {i : Int} : (startB B i).1.deps = B.deps := by unfold startB; split; (split <;> rfl); rfl
theorem ret_deps {B : BS} {i a : Int} : (retB B i a).deps = B.deps := by unfold retB; split <;> rfl
theorem com_deps {B : BS} {i a : Int} : (comB B i a).1.deps = B.deps := by unfold comB; split <;> rfl

theorem zero_brd (p : Nat) : BoardR p ⟨[], [], []⟩ [(p, .cells #[.slice none 0 0, .int .i64 0] 57 (0, 0))] := ⟨none, 0, 0, [], [], [], rfl, OwnT.nil (fun _ => rfl), (fun z hz => by cases hz), rfl⟩
theorem zero_wf : BWf ⟨[], [], []⟩ 0 := ⟨rfl, rfl, by simp, (fun k d h => by simp at h), (fun x h => by cases h), (fun k d h => by simp at h), (fun x h => by cases h)⟩
theorem zero_held (i a : Int) : heldC ⟨[], [], []⟩ i a = 16 := by unfold heldC; rw [if_neg (by unfold inB; simp only [List.length_nil]; omega)]
theorem zero_com (i a : Int) : comB ⟨[], [], []⟩ i a = (⟨[], [], []⟩, []) := by unfold comB; rw [zero_held]; rfl
theorem l25_nil (W w : World) (H : Chunk) (F : List Chunk) (i : Int) (m : Int) (_hi : -9223372036854775808 ≤ i ∧ i ≤ 9223372036854775807) (_hm : -9223372036854775808 ≤ m ∧ m ≤ 9223372036854775807) (hS : Sat W w (H :: F)) :
    Calls Try.prog 6 #[.int .i64 i, .int .i64 m] w fun e w' => e = .returned (.bool true) ∧ Sat W w' (H :: F) := by
  refine callsA 112 Try.func6 rfl ?_
  refine seqE <| regionE <| pu1 <| nilO <| thenK_n <| seqE <| regionE ?_
  refine cX Try.call27 (l25_two hS) ?_
  rintro _ w_1 ⟨b_3, b_4, rfl, hS_2⟩
  refine pu1 <| nilO <| thenK_n <| seqE <| regionE <| pu1 ?_
  refine cX Try.call12 (b_new (some ⟨b_3, 0, none⟩) 2 2 ([(⟨0, 0, 0, 0, 0, 0, ⟨none, 0, 0, []⟩, 1, 0⟩ : Task), (⟨0, 0, 0, 0, 0, 0, ⟨(some ⟨b_4, 0, none⟩), 1, 1, [0]⟩, 1, 0⟩ : Task)]) (RdT.flat (RdT.blk (enc := encTask) (sz := 9) (xs := [(⟨0, 0, 0, 0, 0, 0, ⟨none, 0, 0, []⟩, 1, 0⟩ : Task), (⟨0, 0, 0, 0, 0, 0, ⟨(some ⟨b_4, 0, none⟩), 1, 1, [0]⟩, 1, 0⟩ : Task)]) (fun _ => (by rfl)) 2 0 rfl rfl rfl (by omega))) (fun z hz => by
      rcases List.mem_cons.1 hz with rfl | hz
      · exact ⟨RdT.nil (enc := encI) (sz := 1) (fun _ => rfl) _⟩
      · rcases List.mem_singleton.1 hz with rfl
        exact ⟨(RdT.blk (enc := encI) (sz := 1) (xs := [0]) (fun _ => rfl) 1 1 rfl rfl rfl (by omega)).of_mem mem_flat⟩) (Sat.flat hS_2)) ?_
  rintro _ w_5 (⟨hv_9, rfl, hS_6⟩ | ⟨hv_9, p_7, M_8, rfl, hB_10, hS_6⟩)
  · have hS_11 := Sat.unflat hS_6
    exact absurd two_ok hv_9
  have hS_12 := Sat.unflat1 hS_6
  have hW_13 := new_wf hv_9
  have hB_14 : BoardR p_7 (⟨[[], [0]], [2, 1], [0, 0]⟩ : BS) M_8 := hB_10
  have hW_15 : BWf (⟨[[], [0]], [2, 1], [0, 0]⟩ : BS) 0 := hW_13
  refine pu5 <| nilO <| thenK_n <| seqE <| seqE <| regionE <| pu6 <| nilO <| thenK_n <| cFf <| skipE <| thenK_n <| seqE <| regionE <| pu1 ?_
  refine stepY (.pointer (some ⟨b_3, 9, none⟩)) rfl rfl (Y_idx (a := (some ⟨b_3, 0, none⟩)) (i := 1) (len := 2) (cap := 2) rfl Try.runUnderlying23 Try.sizeOf31 (by kernel_rfl) (by kernel_rfl) ⟨_, rfl, add_off _ 0 _, by decide, by decide⟩) ?_
  refine pu1 ?_
  refine sL hS_12 1 15 (.slice (some ⟨b_4, 0, none⟩) 1 1) (Try.isAgg22 _) ?_
  refine stepY (.pointer (some ⟨b_4, 0, none⟩)) rfl rfl (Y_idx (a := (some ⟨b_4, 0, none⟩)) (i := 0) (len := 1) (cap := 1) rfl Try.runUnderlying22 Try.sizeOf3 (by kernel_rfl) (by kernel_rfl) ⟨_, rfl, add_off _ 0 _, by decide, by decide⟩) ?_
  refine sT hS_12 2 0 (.int .i64 7) [.int .i64 7] #[.int .i64 7] Try.sizeOf3 ?_
  intro w_16 hS_17
  refine nilO <| thenK_n <| seqE <| regionE <| pu1 ?_
  refine cX Try.call17 (b_start hB_14 hW_15 0 (Sat.flat1 hS_17)) ?_
  rintro _ w_18 ⟨M_21, rfl, hB_22, hS_19⟩
  have hS_20 := Sat.unflat1 hS_19
  have hB_23 : BoardR p_7 (⟨[[], [0]], [3, 1], [0, 0]⟩ : BS) M_21 := by have h := hB_22; rwa [show (startB (⟨[[], [0]], [2, 1], [0, 0]⟩ : BS) 0).1 = (⟨[[], [0]], [3, 1], [0, 0]⟩ : BS) from by kernel_rfl] at h
  have hW_24 := (start_wf hW_15 (i := 0)); rw [show (startB (⟨[[], [0]], [2, 1], [0, 0]⟩ : BS) 0).1 = (⟨[[], [0]], [3, 1], [0, 0]⟩ : BS) from by kernel_rfl] at hW_24
  refine pu5 <| nilO <| thenK_n <| seqE <| regionE <| pu2 ?_
  refine cX Try.call21 (b_commit hB_23 hW_24 0 0 (by first | omega | decide) (Sat.flat1 hS_20)) ?_
  rintro _ w_25 ⟨az_30, nz_31, kz_32, Z_33, M_28, rfl, hr_34, hB_29, hS_26⟩
  have hS_27 := Sat.unflat2 hS_26
  rw [show (comB (⟨[[], [0]], [3, 1], [0, 0]⟩ : BS) 0 0).2 = [1] from by kernel_rfl] at hr_34
  have hn_az_30 := hr_34.len; have hl_az_30 := hr_34.le
  simp only [List.length_cons, List.length_nil] at hn_az_30
  have hB_35 : BoardR p_7 (⟨[[], [0]], [4, 2], [0, 0]⟩ : BS) M_28 := by have h := hB_29; rwa [show (comB (⟨[[], [0]], [3, 1], [0, 0]⟩ : BS) 0 0).1 = (⟨[[], [0]], [4, 2], [0, 0]⟩ : BS) from by kernel_rfl] at h
  have hW_36 := (com_wf hW_24 (i := 0) (a := 0)); rw [show (comB (⟨[[], [0]], [3, 1], [0, 0]⟩ : BS) 0 0).1 = (⟨[[], [0]], [4, 2], [0, 0]⟩ : BS) from by kernel_rfl] at hW_36
  refine pu5 <| nilO <| thenK_n <| seqE <| regionE <| pu1 <| nilO <| thenK_n <| seqE <| regionE <| pu1 ?_
  refine sBox hS_27 (.agg #[.slice none 0 0, .int .i64 0]) #[.slice none 0 0, .int .i64 0] ?_
  intro b_37 w_38 hS_39
  refine pu1 <| nilO <| thenK_n <| seqE <| regionE <| pu2 ?_
  refine cX Try.call17 (b_start_nil i hS_39) ?_
  rintro _ w_40 ⟨rfl, hS_41⟩
  refine pu5 <| nilO <| thenK_n <| seqE <| regionE <| pu3 ?_
  refine cX Try.call21 (b_commit (zero_brd b_37) zero_wf i m (by first | omega | decide) (Sat.flat1 hS_41)) ?_
  rintro _ w_42 ⟨az_47, nz_48, kz_49, Z_50, M_45, rfl, hr_51, hB_46, hS_43⟩
  have hS_44 := Sat.unflat2 hS_43
  have hn_az_47 := hr_51.len; have hl_az_47 := hr_51.le
  have hW_52 := (com_wf zero_wf (i := i) (a := m))
  rw [zero_com] at hB_46 hr_51 hn_az_47
  refine pu5 <| nilO <| thenK_n <| seqE <| regionE <| pu12 ?_
  have hc_53 : (((nz_31 : Nat) : Int) : Int) = 1 := by first | omega | (simp at *; omega)
  refine sFix 72 _ true (beq_iff_eq.2 hc_53) ?_
  refine pu8 ?_
  have hc_54 : ((heldC (⟨[], [], []⟩ : BS) i m) : Int) = 16 := (zero_held i m)
  refine sFix 80 _ true (beq_iff_eq.2 hc_54) ?_
  refine pu3 <| gY ?_
  refine cX Try.call19 (b_return_nil i m hS_44) ?_
  rintro _ w_55 ⟨rfl, hS_56⟩
  refine pu5 <| gY ?_
  refine cX Try.call26 (b_state_nil i hS_56) ?_
  rintro _ w_57 ⟨rfl, hS_58⟩
  refine pu4 <| gY ?_
  have hS_62 := (hS_58.pick 1 rfl)
  refine cX Try.call24 (b_ready hB_46 zero_wf  (Sat.flat1 hS_62)) ?_
  rintro _ w_59 ⟨az_65, nz_66, kz_67, Z_68, M_63, rfl, hr_69, hB_64, hS_60⟩
  have hS_61 := Sat.unflat2 hS_60
  rw [show (idxOf 2 0 (⟨[], [], []⟩ : BS).st) = [] from by kernel_rfl] at hr_69
  have hn_az_65 := hr_69.len; have hl_az_65 := hr_69.le
  simp only [List.length_cons, List.length_nil] at hn_az_65
  refine pu4 ?_
  have hc_70 : (((nz_66 : Nat) : Int) : Int) = 0 := by first | omega | (simp at *; omega)
  refine sFix 99 _ true (beq_iff_eq.2 hc_70) ?_
  refine pu1 <| gY ?_
  refine cX Try.call25 (b_done_nil  hS_61) ?_
  rintro _ w_71 ⟨rfl, hS_72⟩
  refine pu4 <| gY ?_
  refine cX Try.call28 (b_total_nil  hS_72) ?_
  rintro _ w_73 ⟨rfl, hS_74⟩
  refine pu3 <| gY ?_
  refine cX Try.call15 (l25_sane hS_74) ?_
  rintro _ w_75 ⟨rfl, hS_76⟩
  refine pu2 <| nilO <| thenK_n <| retE <| retT [.bool true] <| ?_
  have hS_77 := (hS_76.pick 7 rfl)
  have hS_78 := hS_77.dropAt 1 rfl
  have hS_79 := hS_78.dropAt 1 rfl
  have hS_80 := hS_79.dropAt 1 rfl
  have hS_81 := hS_80.dropAt 1 rfl
  have hS_82 := hS_81.dropAt 1 rfl
  have hS_83 := hS_82.dropAt 1 rfl
  have hS_84 := hS_83.dropAt 1 rfl
  exact ⟨rfl, hS_84⟩
theorem l25_follows (W w : World) (H : Chunk) (F : List Chunk) (t : Option Addr) (nt kt : Nat) (xt : List Int) (i : Int) (m : Int) (ht : RdT encI 1 [H] t nt kt xt) (_hi : -9223372036854775808 ≤ i ∧ i ≤ 9223372036854775807) (_hm : -9223372036854775808 ≤ m ∧ m ≤ 9223372036854775807) (hS : Sat W w (H :: F)) :
    Calls Try.prog 4 #[.slice t nt kt, .int .i64 i, .int .i64 m] w fun e w' => e = .returned (.bool true) ∧ Sat W w' (H :: F) := by
  have hlt := ht.le
  refine callsA 136 Try.func4 rfl ?_
  refine seqE <| regionE <| pu1 <| nilO <| thenK_n <| seqE <| regionE <| pu1 ?_
  refine cX Try.call8 (tape_new t nt kt hS) ?_
  rintro _ w_1 ⟨p_3, rfl, hS_2⟩
  have hle_4 := ht.le
  refine pu1 <| nilO <| thenK_n <| seqE <| regionE <| pu1 ?_
  refine cX Try.call9 (tg_tasks (RdT.flat (ht.up 0 (by rfl))) (by omega) (Sat.flat1 hS_2) 7 (by omega)) ?_
  rintro _ w_5 ⟨az_7, nz_8, kz_9, zs_10, C_11, G_12, rfl, hO_13, hD_14, hV_15, i_16, hi_17, hS_6⟩
  have hS_18 := Sat.unflat3 hS_6
  have hn_zs_10 := hO_13.len; have hl_zs_10 := hO_13.le
  refine pu1 <| nilO ?_
  have hz1 := hV_15.1; have hz2 := hV_15.2.1
  refine thenK_n <| seqE <| regionE <| pu1 ?_
  refine cX Try.call12 (b_new az_7 nz_8 kz_9 zs_10 (RdT.flat (hO_13.rdAt 1 (by rfl))) (fun z hz => (hD_14 z hz).of_mem (mem_flat1 2 (by rfl))) (Sat.flat hS_18)) ?_
  rintro _ w_19 (⟨hv_23, rfl, hS_20⟩ | ⟨hv_23, p_21, M_22, rfl, hB_24, hS_20⟩)
  · have hS_25 := Sat.unflat hS_20
    exact absurd (validC_ok (by omega) (by omega) hV_15.2.2) hv_23
  have hS_26 := Sat.unflat1 hS_20
  have hW_27 := new_wf hv_23
  refine pu5 <| nilO <| thenK_n <| seqE <| regionE <| pu1 ?_
  refine cX Try.call13 (r25_new az_7 nz_8 kz_9 zs_10 (RdT.flat (hO_13.rdAt 2 (by rfl))) (fun z hz => (hD_14 z hz).of_mem (mem_flat1 3 (by rfl))) (Sat.flat hS_26)) ?_
  rintro _ w_28 (⟨hv_32, rfl, hS_29⟩ | ⟨hv_32, p_30, M_31, rfl, hB_33, hS_29⟩)
  · have hS_34 := Sat.unflat hS_29
    exact absurd (validC_ok (by omega) (by omega) hV_15.2.2) hv_32
  have hS_35 := Sat.unflat1 hS_29
  have hW_36 := new_wf hv_32
  refine pu5 <| nilO <| thenK_n <| seqE <| seqE <| regionE <| pu10 <| nilO <| thenK_n <| cFf <| skipE <| thenK_n <| seqE <| seqE <| regionE <| pu1 <| nilO <| thenK_n <| blockE ?_
  have hS_37 := ((((((hS_35.pick 5 rfl).pick 1 rfl).pick 2 rfl).pick 3 rfl).dropAt 4 rfl).dropAt 4 rfl)
  refine loopA (γ := Nat × BS × Chunk × Chunk × Int) (fun ⟨r, B, M1, M2, it⟩ => [(1, .int .i64 i), (2, .int .i64 m), (7, .pointer (some ⟨p_3, 0, none⟩)), (8, .slice az_7 nz_8 kz_9), (9, .pointer (some ⟨p_21, 0, none⟩)), (11, .pointer (some ⟨p_30, 0, none⟩)), (13, .int .i64 ((r : Nat) : Int))]) (fun ⟨r, B, M1, M2, it⟩ w => Sat W w ([(p_3, .cells #[.slice t nt kt, .int .i64 it] 62 (0, 0))] :: M1 :: M2 :: H :: F) ∧ r ≤ 60 ∧ BoardR p_21 B M1 ∧ RefR p_30 B M2 ∧ BWf B ((r : Nat) : Int) ∧ B.deps.length ≤ 9 ∧ (0 ≤ it ∧ it ≤ nt)) (fun ⟨r, B, M1, M2, it⟩ => 60 - r) (0, (newB zs_10), M_22, M_31, i_16) ⟨hS_37, by omega, hB_24, hB_33, hW_27, (by simp [newB]; omega), by omega⟩ ?_
  rintro ⟨r, B, M1, M2, it⟩ ρ w_38 ⟨hS_39, hr, hB1, hR1, hW1, hdl, hit⟩
  refine seqE <| seqE <| regionE <| pu3 ?_
  refine sD 50 (((r : Nat) : Int) < 60) (fun hc_40 => ?_) (fun hc_40 => ?_)
  rotate_left
  · refine pu3 <| nilO <| thenK_n <| cFf <| exitE <| thenK_x <| thenK_x <| blockK_x <| thenK_n <| seqE <| regionE ?_
    refine cX Try.call15 (l25_sane hS_39) ?_
    rintro _ w_181 ⟨rfl, hS_182⟩
    refine pu1 <| nilO <| thenK_n <| retE <| retT [.bool true] <| ?_
    have hS_183 := (hS_182.pick 3 rfl)
    have hS_184 := hS_183.dropAt 1 rfl
    have hS_185 := hS_184.dropAt 1 rfl
    have hS_186 := hS_185.dropAt 1 rfl
    exact ⟨rfl, hS_186⟩
  refine pu1 <| gY ?_
  refine cX Try.call16 (tape_left (RdT.flat (ht.up 2 (by rfl))) (by omega) (Sat.flat1 hS_39)) ?_
  rintro _ w_41 ⟨v_43, rfl, hS_42⟩
  have hS_44 := Sat.unflat1 hS_42
  refine pu1 <| nilO <| thenK_n <| ?_
  cases v_43
  · refine cFf <| exitE <| thenK_x <| thenK_x <| blockK_x <| thenK_n <| seqE <| regionE ?_
    refine cX Try.call15 (l25_sane hS_44) ?_
    rintro _ w_45 ⟨rfl, hS_46⟩
    refine pu1 <| nilO <| thenK_n <| retE <| retT [.bool true] <| ?_
    have hS_47 := (hS_46.pick 3 rfl)
    have hS_48 := hS_47.dropAt 1 rfl
    have hS_49 := hS_48.dropAt 1 rfl
    have hS_50 := hS_49.dropAt 1 rfl
    exact ⟨rfl, hS_50⟩
  refine cTt <| skipE <| thenK_n <| seqE <| blockE <| seqE <| regionE <| pu3 ?_
  refine sAdd ((nz_8 : Nat) : Int) 2 ?_
  refine cX Try.call10 (tape_next (RdT.flat (ht.up 2 (by rfl))) (by omega) (Sat.flat1 hS_44) (((nz_8 : Nat) : Int) + 2) (by omega)) ?_
  rintro _ w_51 ⟨r_53, rfl, hr_54, i_55, hi_56, hS_52⟩
  have hS_57 := Sat.unflat1 hS_52
  refine sSub r_53 1 ?_
  refine pu1 ?_
  refine sBS hS_57 #[.int .i64 0, .int .i64 0, .int .i64 1, .int .i64 2] Try.runUnderlying22 Try.sizeOf3 Try.zeroValue3 ?_
  intro b_58 w_59 hS_60
  have hS_61 := (hS_60.pick 1 rfl)
  refine cX Try.call11 (tape_pick (RdT.flat (ht.up 3 (by rfl))) (by omega) (Sat.flat1 hS_61) (RdT.flat (RdT.blk (enc := encI) (sz := 1) (xs := [0, 0, 1, 2]) (fun _ => (by rfl)) 4 0 rfl rfl rfl (by omega))) (by omega) (by omega)) ?_
  rintro _ w_62 ⟨x_64, rfl, hx_65, i_66, hi_67, hS_63⟩
  have hS_68 := Sat.unflat1 hS_63
  have hx_69 : (x_64 : Int) = 0 ∨ (x_64 : Int) = 0 ∨ (x_64 : Int) = 1 ∨ (x_64 : Int) = 2 := by simpa using hx_65
  refine pu2 <| nilO <| thenK_n <| ?_
  refine cutA (γ := Int × Int × Int) (fun ⟨mi, mc, it1⟩ => [(1, .int .i64 i), (2, .int .i64 m), (7, .pointer (some ⟨p_3, 0, none⟩)), (8, .slice az_7 nz_8 kz_9), (9, .pointer (some ⟨p_21, 0, none⟩)), (11, .pointer (some ⟨p_30, 0, none⟩)), (13, .int .i64 ((r : Nat) : Int)), (14, .int .i64 mi), (15, .int .i64 mc)]) (fun ⟨mi, mc, it1⟩ w => Sat W w ([(p_3, .cells #[.slice t nt kt, .int .i64 it1] 62 (0, 0))] :: M1 :: M2 :: H :: F) ∧ (0 ≤ it1 ∧ it1 ≤ nt)) ?_ ?_
  · refine seqE <| regionE <| pu1 ?_
    refine cX Try.call10 (tape_next (RdT.flat (ht.up 3 (by rfl))) (by omega) (Sat.flat1 hS_68) 20 (by omega)) ?_
    rintro _ w_70 ⟨r_72, rfl, hr_73, i_74, hi_75, hS_71⟩
    have hS_76 := Sat.unflat1 hS_71
    refine pu1 <| nilO <| thenK_n <| ?_
    refine cE r_72 19 (fun hc_77 => ?_) (fun hc_77 => ?_)
    rotate_left
    · refine skipE <| thenK_n <| ?_
      have hS_79 := (((((hS_76.pick 4 rfl).pick 4 rfl).pick 4 rfl).pick 3 rfl).dropAt 4 rfl)
      exact ⟨((r_53 - 1), x_64, i_74), alA, hS_79, by omega⟩
    refine regionE <| pu4 <| nilO <| thenK_n <| ?_
    have hS_78 := (((((hS_76.pick 4 rfl).pick 4 rfl).pick 4 rfl).pick 3 rfl).dropAt 4 rfl)
    exact ⟨(i, m, i_74), alA, hS_78, by omega⟩
  rintro ⟨mi, mc, it1⟩ ρ w_80 ⟨hS_81, hit1⟩
  refine cutA (γ := BS × Chunk × Chunk × Int) (fun ⟨B2, N1, N2, it2⟩ => [(1, .int .i64 i), (2, .int .i64 m), (7, .pointer (some ⟨p_3, 0, none⟩)), (8, .slice az_7 nz_8 kz_9), (9, .pointer (some ⟨p_21, 0, none⟩)), (11, .pointer (some ⟨p_30, 0, none⟩)), (13, .int .i64 ((r : Nat) : Int))]) (fun ⟨B2, N1, N2, it2⟩ w => Sat W w ([(p_3, .cells #[.slice t nt kt, .int .i64 it2] 62 (0, 0))] :: N1 :: N2 :: H :: F) ∧ BoardR p_21 B2 N1 ∧ RefR p_30 B2 N2 ∧ BWf B2 (((r + 1 : Nat)) : Int) ∧ B2.deps.length ≤ 9 ∧ (0 ≤ it2 ∧ it2 ≤ nt)) ?_ ?_
  rotate_left
  · rintro ⟨B2, N1, N2, it2⟩ ρ w_172 ⟨hS_173, hB2, hR2, hW2, hdl2, hit2⟩
    refine seqE <| regionE <| pu4 ?_
    have hS_174 := ((hS_173.pick 2 rfl).pick 2 rfl)
    refine cX Try.call14 (l25_same hB2 hR2 hW2 ((nz_8 : Nat) : Int) (by omega) (Sat.flat2 hS_174)) ?_
    rintro _ w_175 ⟨M_178, rfl, hB_179, hS_176⟩
    have hS_177 := Sat.unflat2 hS_176
    refine pu1 <| nilO <| thenK_n <| cFf <| skipE <| blockK_n <| thenK_n <| regionE <| pu1 ?_
    refine sAdd ((r : Nat) : Int) 1 ?_
    refine pu1 <| nilO <| thenK_n <| ?_
    have hS_180 := ((((hS_177.pick 3 rfl).pick 2 rfl).pick 2 rfl).pick 3 rfl)
    exact ⟨(r + 1, B2, M_178, N2, it2), by first | omega | (dsimp only; omega), alA, hS_180, by omega, hB_179, hR2, hW2, hdl2, by omega⟩
  refine seqE <| regionE <| pu1 ?_
  refine cX Try.call10 (tape_next (RdT.flat (ht.up 2 (by rfl))) (by omega) (Sat.flat1 hS_81) 5 (by omega)) ?_
  rintro _ w_82 ⟨r_84, rfl, hr_85, i_86, hi_87, hS_83⟩
  have hS_88 := Sat.unflat1 hS_83
  refine nilO <| thenK_n <| blockE <| seqE <| seqE <| regionE <| pu2 <| nilO <| thenK_n <| ?_
  refine cE r_84 0 (fun hc_89 => ?_) (fun hc_89 => ?_)
  · refine skipE <| thenK_n <| ?_
    refine cT _ (beq_iff_eq.2 hc_89) ?_
    refine seqE <| regionE <| pu2 ?_
    have hS_93 := (hS_88.pick 1 rfl)
    refine cX Try.call17 (b_start hB1 hW1 mi (Sat.flat1 hS_93)) ?_
    rintro _ w_90 ⟨M_94, rfl, hB_95, hS_91⟩
    have hS_92 := Sat.unflat1 hS_91
    have hW_96 := (start_wf hW1 (i := mi))
    refine pu5 <| nilO <| thenK_n <| seqE <| regionE <| pu2 ?_
    have hS_100 := (hS_92.pick 2 rfl)
    refine cX Try.call18 (r_start hR1 hW1 mi (Sat.flat1 hS_100)) ?_
    rintro _ w_97 ⟨M_101, rfl, hB_102, hS_98⟩
    have hS_99 := Sat.unflat1 hS_98
    have hW_103 := (start_wf hW1 (i := mi))
    refine pu5 <| nilO <| thenK_n <| seqE <| regionE <| pu4 ?_
    have hc_104 : ((startB B mi).2.1 : Int) = ((startB B mi).2.1) := rfl
    refine sFix 113 _ false (bne_eq_false_iff_eq.2 hc_104) ?_
    refine pu4 <| nilO <| thenK_n <| ?_
    have hc_105 : ((startB B mi).2.2 : Int) = ((startB B mi).2.2) := rfl
    refine cF _ (bne_eq_false_iff_eq.2 hc_105) ?_
    refine skipE <| blockK_n <| thenK_n <| ?_
    have hS_106 := ((((hS_99.pick 3 rfl).pick 1 rfl).pick 2 rfl).pick 3 rfl)
    exact ⟨((startB B mi).1, M_94, M_101, i_86), alA, hS_106, hB_95, hB_102, (hW_96.mono (by omega)), (by rw [start_deps]; exact hdl), by omega⟩
  refine regionE <| pu2 <| nilO <| thenK_n <| ?_
  refine cE r_84 1 (fun hc_107 => ?_) (fun hc_107 => ?_)
  · refine seqE <| regionE <| pu2 ?_
    have hS_111 := (hS_88.pick 1 rfl)
    refine cX Try.call17 (b_start hB1 hW1 mi (Sat.flat1 hS_111)) ?_
    rintro _ w_108 ⟨M_112, rfl, hB_113, hS_109⟩
    have hS_110 := Sat.unflat1 hS_109
    have hW_114 := (start_wf hW1 (i := mi))
    refine pu5 <| nilO <| thenK_n <| seqE <| regionE <| pu2 ?_
    have hS_118 := (hS_110.pick 2 rfl)
    refine cX Try.call18 (r_start hR1 hW1 mi (Sat.flat1 hS_118)) ?_
    rintro _ w_115 ⟨M_119, rfl, hB_120, hS_116⟩
    have hS_117 := Sat.unflat1 hS_116
    have hW_121 := (start_wf hW1 (i := mi))
    refine pu5 <| nilO <| thenK_n <| seqE <| regionE <| pu4 ?_
    have hc_122 : ((startB B mi).2.1 : Int) = ((startB B mi).2.1) := rfl
    refine sFix 113 _ false (bne_eq_false_iff_eq.2 hc_122) ?_
    refine pu4 <| nilO <| thenK_n <| ?_
    have hc_123 : ((startB B mi).2.2 : Int) = ((startB B mi).2.2) := rfl
    refine cF _ (bne_eq_false_iff_eq.2 hc_123) ?_
    refine skipE <| blockK_n <| thenK_n <| ?_
    have hS_124 := ((((hS_117.pick 3 rfl).pick 1 rfl).pick 2 rfl).pick 3 rfl)
    exact ⟨((startB B mi).1, M_112, M_119, i_86), alA, hS_124, hB_113, hB_120, (hW_114.mono (by omega)), (by rw [start_deps]; exact hdl), by omega⟩
  refine seqE <| regionE <| pu2 <| nilO <| thenK_n <| ?_
  refine cE r_84 2 (fun hc_125 => ?_) (fun hc_125 => ?_)
  · refine seqE <| regionE <| pu3 ?_
    have hS_129 := (hS_88.pick 1 rfl)
    refine cX Try.call19 (b_return hB1 hW1 mi mc (by first | omega | decide) (Sat.flat1 hS_129)) ?_
    rintro _ w_126 ⟨M_130, rfl, hB_131, hS_127⟩
    have hS_128 := Sat.unflat1 hS_127
    have hW_132 := (ret_wf hW1 (i := mi) (a := mc))
    refine pu3 ?_
    have hS_136 := (hS_128.pick 2 rfl)
    refine cX Try.call20 (r_return hR1 hW1 mi mc (by first | omega | decide) (Sat.flat1 hS_136)) ?_
    rintro _ w_133 ⟨M_137, rfl, hB_138, hS_134⟩
    have hS_135 := Sat.unflat1 hS_134
    have hW_139 := (ret_wf hW1 (i := mi) (a := mc))
    refine pu1 <| nilO <| thenK_n <| ?_
    have hc_140 : ((heldC B mi mc) : Int) = (heldC B mi mc) := rfl
    refine cF _ (bne_eq_false_iff_eq.2 hc_140) ?_
    refine skipE <| blockK_n <| thenK_n <| ?_
    have hS_141 := ((((hS_135.pick 3 rfl).pick 1 rfl).pick 2 rfl).pick 3 rfl)
    exact ⟨((retB B mi mc), M_130, M_137, i_86), alA, hS_141, hB_131, hB_138, (hW_132.mono (by omega)), (by rw [ret_deps]; exact hdl), by omega⟩
  refine seqE <| regionE <| pu3 ?_
  have hS_145 := (hS_88.pick 1 rfl)
  refine cX Try.call21 (b_commit hB1 hW1 mi mc (by first | omega | decide) (Sat.flat1 hS_145)) ?_
  rintro _ w_142 ⟨az_148, nz_149, kz_150, Z_151, M_146, rfl, hr_152, hB_147, hS_143⟩
  have hS_144 := Sat.unflat2 hS_143
  have hn_az_148 := hr_152.len; have hl_az_148 := hr_152.le
  have hW_153 := (com_wf hW1 (i := mi) (a := mc))
  refine pu5 <| nilO <| thenK_n <| seqE <| regionE <| pu3 ?_
  have hS_157 := (hS_144.pick 3 rfl)
  refine cX Try.call22 (r_commit hR1 hW1 mi mc (Sat.flat1 hS_157)) ?_
  rintro _ w_154 ⟨az_160, nz_161, kz_162, Z_163, M_158, rfl, hr_164, hB_159, hS_155⟩
  have hS_156 := Sat.unflat2 hS_155
  have hn_az_160 := hr_164.len; have hl_az_160 := hr_164.le
  have hW_165 := (com_wf hW1 (i := mi) (a := mc))
  refine pu5 <| nilO <| thenK_n <| seqE <| regionE <| pu2 ?_
  refine cR Try.call23 (r4_same az_148 nz_149 kz_150 ((comB B mi mc).2) az_160 nz_161 kz_162 ((comB B mi mc).2) (RdT.flat (hr_152.up 2 (by rfl))) (RdT.flat (hr_164.up 0 (by rfl))) (Sat.flat hS_156)) ?_
  intro w_166 hS_167
  refine pu2 ?_
  have hc_169 : ((comB B mi mc).2) = ((comB B mi mc).2) := rfl
  refine sFix 90 _ false (congrArg Bool.not (decide_eq_true hc_169)) ?_
  refine pu4 <| nilO <| thenK_n <| ?_
  have hc_170 : ((heldC B mi mc) : Int) = (heldC B mi mc) := rfl
  refine cF _ (bne_eq_false_iff_eq.2 hc_170) ?_
  refine skipE <| blockK_n <| thenK_n <| ?_
  have hS_171 := ((((((hS_167.pick 5 rfl).pick 2 rfl).pick 4 rfl).pick 5 rfl).dropAt 4 rfl).dropAt 4 rfl)
  exact ⟨((comB B mi mc).1, M_146, M_158, i_86), alA, hS_171, hB_147, hB_159, (hW_153.mono (by omega)), (by rw [com_deps]; exact hdl), by omega⟩
end Go.Proofs.Ytimkhljglpookaa
