import Derived.Test.YtimkhljglpookaaBCom
import Derived.Test.YtimkhljglpookaaBNew
import Derived.Test.YtimkhljglpookaaRMeth
namespace Go.Proofs.Ytimkhljglpookaa
open Go Go.E
set_option linter.unusedVariables false
set_option linter.unusedSimpArgs false
set_option linter.unnecessarySimpa false
set_option maxRecDepth 100000
set_option maxHeartbeats 2000000
variable {W w : World} {H : Chunk} {F : List Chunk}
theorem r_has_nil {cs : List Chunk} (i : Int) (hS : Sat W w cs) :
    Ro Try.prog 42 #[.pointer none, .int .i64 i] (.bool false) W w cs := by
  refine callsA 20 Try.func42 rfl ?_
  refine seqE <| regionE <| pu1 <| nilO <| thenK_n <| seqE <| regionE <| pu16 <| nilO <| thenK_n <| retE <| retT [.bool false] <| ?_
  exact ⟨rfl, hS⟩
theorem r_state_nil {cs : List Chunk} (i : Int) (hS : Sat W w cs) :
    Ro Try.prog 37 #[.pointer none, .int .i64 i] (.int .i64 0) W w cs := by
  refine callsA 16 Try.func37 rfl ?_
  refine seqE <| regionE <| pu1 <| nilO <| thenK_n <| seqE <| seqE <| regionE <| pu2 ?_
  refine cX Try.call42 (r_has_nil i hS) ?_
  rintro _ w_1 ⟨rfl, hS_2⟩
  refine pu1 <| nilO <| thenK_n <| cTt <| seqE <| regionE <| pu1 <| nilO <| thenK_n <| retE <| thenK_r <| retT [.int .i64 0] <| ?_
  exact ⟨rfl, hS_2⟩
theorem r_with_nil {cs : List Chunk} (i : Int) (hS : Sat W w cs) :
    Ro Try.prog 50 #[.pointer none, .int .i64 i] (.slice none 0 0) W w cs := by
  refine callsA 34 Try.func50 rfl ?_
  refine seqE <| regionE <| pu1 <| nilO <| thenK_n <| seqE <| regionE <| pu1 <| nilO <| thenK_n <| seqE <| seqE <| regionE <| pu1 <| nilO <| thenK_n <| blockE ?_
  refine loopN 1 ?_
  refine roundS ?_
  refine seqE <| seqE <| regionE <| pu11 <| nilO <| thenK_n <| cFf <| exitE <| thenK_x <| thenK_x <| blockK_x <| thenK_n <| seqE <| regionE <| pu2 <| nilO <| thenK_n <| retE <| retT [.slice none 0 0] <| ?_
  exact ⟨rfl, hS⟩
theorem r_ready_nil {cs : List Chunk}  (hS : Sat W w cs) :
    Ro Try.prog 38 #[.pointer none] (.slice none 0 0) W w cs := by
  refine callsA 5 Try.func38 rfl ?_
  refine seqE <| regionE <| pu1 <| nilO <| thenK_n <| seqE <| regionE <| pu1 ?_
  refine cX Try.call50 (r_with_nil 2 hS) ?_
  rintro _ w_1 ⟨rfl, hS_2⟩
  refine pu1 <| nilO <| thenK_n <| retE <| retT [.slice none 0 0] <| ?_
  exact ⟨rfl, hS_2⟩
theorem r_done_nil {cs : List Chunk}  (hS : Sat W w cs) :
    Ro Try.prog 39 #[.pointer none] (.int .i64 0) W w cs := by
  refine callsA 6 Try.func39 rfl ?_
  refine seqE <| regionE <| pu1 <| nilO <| thenK_n <| seqE <| regionE <| pu1 ?_
  refine cX Try.call50 (r_with_nil 4 hS) ?_
  rintro _ w_1 ⟨rfl, hS_2⟩
  refine pu2 <| nilO <| thenK_n <| retE <| retT [.int .i64 0] <| ?_
  exact ⟨rfl, hS_2⟩
theorem r_total_nil {cs : List Chunk}  (hS : Sat W w cs) :
    Ro Try.prog 40 #[.pointer none] (.int .i64 0) W w cs := by
  refine callsA 10 Try.func40 rfl ?_
  refine seqE <| regionE <| pu1 <| nilO <| thenK_n <| seqE <| seqE <| regionE <| pu2 <| nilO <| thenK_n <| cTt <| seqE <| regionE <| pu1 <| nilO <| thenK_n <| retE <| thenK_r <| retT [.int .i64 0] <| ?_
  exact ⟨rfl, hS⟩
theorem b_ready_nil {cs : List Chunk}  (hS : Sat W w cs) :
    Ro Try.prog 24 #[.pointer none] (.slice none 0 0) W w cs := by
  refine callsA 27 Try.func24 rfl ?_
  refine seqE <| regionE <| pu1 <| nilO <| thenK_n <| seqE <| seqE <| regionE <| pu2 <| nilO <| thenK_n <| cTt <| seqE <| regionE <| pu1 <| nilO <| thenK_n <| retE <| thenK_r <| retT [.slice none 0 0] <| ?_
  exact ⟨rfl, hS⟩
theorem l25_two {cs : List Chunk} (hS : Sat W w cs) :
    Calls Try.prog 27 #[] w fun e w' => ∃ b1 b2 : Nat, e = .returned (.slice (some ⟨b1, 0, none⟩) 2 2) ∧ Sat W w' ([(b1, .cells #[.int .i64 0, .int .i64 0, .int .i64 0, .int .i64 0, .int .i64 0, .int .i64 0, .slice none 0 0, .int .i64 1, .int .i64 0, .int .i64 0, .int .i64 0, .int .i64 0, .int .i64 0, .int .i64 0, .int .i64 0, .slice (some ⟨b2, 0, none⟩) 1 1, .int .i64 1, .int .i64 0] 31 (0, 0))] :: [(b2, .cells #[.int .i64 0] 3 (0, 0))] :: cs) := by
  refine callsA 5 Try.func27 rfl ?_
  refine seqE <| regionE <| pu1 <| nilO <| thenK_n <| seqE <| regionE <| pu1 ?_
  refine sBS hS #[.int .i64 0] Try.runUnderlying22 Try.sizeOf3 Try.zeroValue3 ?_
  intro b_1 w_2 hS_3
  refine pu1 ?_
  refine sBS hS_3 #[.int .i64 0, .int .i64 0, .int .i64 0, .int .i64 0, .int .i64 0, .int .i64 0, .slice none 0 0, .int .i64 1, .int .i64 0, .int .i64 0, .int .i64 0, .int .i64 0, .int .i64 0, .int .i64 0, .int .i64 0, .slice (some ⟨b_1, 0, none⟩) 1 1, .int .i64 1, .int .i64 0] Try.runUnderlying23 Try.sizeOf31 Try.zeroValue31 ?_
  intro b_4 w_5 hS_6
  refine pu1 <| nilO <| thenK_n <| retE <| retT [.slice (some ⟨b_4, 0, none⟩) 2 2] <| ?_
  exact ⟨_, _, rfl, hS_6⟩
theorem two_ok {a : Option Addr} : validC [(⟨0, 0, 0, 0, 0, 0, ⟨none, 0, 0, []⟩, 1, 0⟩ : Task), (⟨0, 0, 0, 0, 0, 0, ⟨a, 1, 1, [0]⟩, 1, 0⟩ : Task)] = 0 := by kernel_rfl
theorem l25_sane {cs : List Chunk} (hS : Sat W w cs) :
    Calls Try.prog 15 #[] w fun e w' => e = .returned (.bool true) ∧ Sat W w' cs := by
  refine callsA 93 Try.func15 rfl ?_
  refine seqE <| regionE <| pu1 <| nilO <| thenK_n <| seqE <| regionE ?_
  refine cX Try.call27 (l25_two hS) ?_
  rintro _ w_1 ⟨b_3, b_4, rfl, hS_2⟩
  refine cX Try.call12 (b_new (some ⟨b_3, 0, none⟩) 2 2 ([(⟨0, 0, 0, 0, 0, 0, ⟨none, 0, 0, []⟩, 1, 0⟩ : Task), (⟨0, 0, 0, 0, 0, 0, ⟨(some ⟨b_4, 0, none⟩), 1, 1, [0]⟩, 1, 0⟩ : Task)]) (RdT.flat (RdT.blk (enc := encTask) (sz := 9) (xs := [(⟨0, 0, 0, 0, 0, 0, ⟨none, 0, 0, []⟩, 1, 0⟩ : Task), (⟨0, 0, 0, 0, 0, 0, ⟨(some ⟨b_4, 0, none⟩), 1, 1, [0]⟩, 1, 0⟩ : Task)]) (fun _ => (by rfl)) 2 0 rfl rfl rfl (by omega))) (fun z hz => by
      rcases List.mem_cons.1 hz with rfl | hz
      · exact ⟨RdT.nil (enc := encI) (sz := 1) (fun _ => rfl) _⟩
      · rcases List.mem_singleton.1 hz with rfl
        exact ⟨(RdT.blk (enc := encI) (sz := 1) (xs := [0]) (fun _ => rfl) 1 1 rfl rfl rfl (by omega)).of_mem mem_flat⟩) (Sat.flat hS_2)) ?_
  rintro _ w_5 (⟨hv_9, rfl, hS_6⟩ | ⟨hv_9, p_7, M_8, rfl, hB_10, hS_6⟩)
  · have hS_11 := Sat.unflat hS_6
    exact absurd two_ok hv_9
  have hS_12 := Sat.unflat1 hS_6
  have hW_13 := new_wf hv_9
  have hB_14 : BoardR p_7 (⟨[[], [0]], [2, 1], [0, 0]⟩ : BS) M_8 := hB_10
  have hW_15 : BWf (⟨[[], [0]], [2, 1], [0, 0]⟩ : BS) 0 := hW_13
  refine pu5 <| nilO <| thenK_n <| seqE <| seqE <| regionE <| pu6 <| nilO <| thenK_n <| cFf <| skipE <| thenK_n <| seqE <| regionE <| pu1 ?_
  refine cX Try.call17 (b_start hB_14 hW_15 0 (Sat.flat1 hS_12)) ?_
  rintro _ w_16 ⟨M_19, rfl, hB_20, hS_17⟩
  have hS_18 := Sat.unflat1 hS_17
  have hB_21 : BoardR p_7 (⟨[[], [0]], [3, 1], [0, 0]⟩ : BS) M_19 := by have h := hB_20; rwa [show (startB (⟨[[], [0]], [2, 1], [0, 0]⟩ : BS) 0).1 = (⟨[[], [0]], [3, 1], [0, 0]⟩ : BS) from by kernel_rfl] at h
  have hW_22 := (start_wf hW_15 (i := 0)); rw [show (startB (⟨[[], [0]], [2, 1], [0, 0]⟩ : BS) 0).1 = (⟨[[], [0]], [3, 1], [0, 0]⟩ : BS) from by kernel_rfl] at hW_22
  refine pu5 <| nilO <| thenK_n <| seqE <| regionE <| pu1 ?_
  refine cX Try.call19 (b_return hB_21 hW_22 0 0 (by first | omega | decide) (Sat.flat1 hS_18)) ?_
  rintro _ w_23 ⟨M_26, rfl, hB_27, hS_24⟩
  have hS_25 := Sat.unflat1 hS_24
  have hB_28 : BoardR p_7 (⟨[[], [0]], [2, 1], [1, 0]⟩ : BS) M_26 := by have h := hB_27; rwa [show (retB (⟨[[], [0]], [3, 1], [0, 0]⟩ : BS) 0 0) = (⟨[[], [0]], [2, 1], [1, 0]⟩ : BS) from by kernel_rfl] at h
  have hW_29 := (ret_wf hW_22 (i := 0) (a := 0)); rw [show (retB (⟨[[], [0]], [3, 1], [0, 0]⟩ : BS) 0 0) = (⟨[[], [0]], [2, 1], [1, 0]⟩ : BS) from by kernel_rfl] at hW_29
  refine pu1 <| nilO <| thenK_n <| seqE <| regionE <| pu1 ?_
  refine cX Try.call17 (b_start hB_28 hW_29 0 (Sat.flat1 hS_25)) ?_
  rintro _ w_30 ⟨M_33, rfl, hB_34, hS_31⟩
  have hS_32 := Sat.unflat1 hS_31
  have hB_35 : BoardR p_7 (⟨[[], [0]], [3, 1], [1, 0]⟩ : BS) M_33 := by have h := hB_34; rwa [show (startB (⟨[[], [0]], [2, 1], [1, 0]⟩ : BS) 0).1 = (⟨[[], [0]], [3, 1], [1, 0]⟩ : BS) from by kernel_rfl] at h
  have hW_36 := (start_wf hW_29 (i := 0)); rw [show (startB (⟨[[], [0]], [2, 1], [1, 0]⟩ : BS) 0).1 = (⟨[[], [0]], [3, 1], [1, 0]⟩ : BS) from by kernel_rfl] at hW_36
  refine pu5 <| nilO <| thenK_n <| seqE <| regionE <| pu1 ?_
  refine cX Try.call21 (b_commit hB_35 hW_36 0 0 (by first | omega | decide) (Sat.flat1 hS_32)) ?_
  rintro _ w_37 ⟨az_42, nz_43, kz_44, Z_45, M_40, rfl, hr_46, hB_41, hS_38⟩
  have hS_39 := Sat.unflat2 hS_38
  rw [show (comB (⟨[[], [0]], [3, 1], [1, 0]⟩ : BS) 0 0).2 = [] from by kernel_rfl] at hr_46
  have hn_az_42 := hr_46.len; have hl_az_42 := hr_46.le
  simp only [List.length_cons, List.length_nil] at hn_az_42
  have hB_47 : BoardR p_7 (⟨[[], [0]], [3, 1], [1, 0]⟩ : BS) M_40 := by have h := hB_41; rwa [show (comB (⟨[[], [0]], [3, 1], [1, 0]⟩ : BS) 0 0).1 = (⟨[[], [0]], [3, 1], [1, 0]⟩ : BS) from by kernel_rfl] at h
  have hW_48 := (com_wf hW_36 (i := 0) (a := 0)); rw [show (comB (⟨[[], [0]], [3, 1], [1, 0]⟩ : BS) 0 0).1 = (⟨[[], [0]], [3, 1], [1, 0]⟩ : BS) from by kernel_rfl] at hW_48
  refine pu5 <| nilO <| thenK_n <| seqE <| regionE <| pu1 ?_
  have hS_52 := (hS_39.pick 1 rfl)
  refine cX Try.call21 (b_commit hB_47 hW_48 0 1 (by first | omega | decide) (Sat.flat1 hS_52)) ?_
  rintro _ w_49 ⟨az_55, nz_56, kz_57, Z_58, M_53, rfl, hr_59, hB_54, hS_50⟩
  have hS_51 := Sat.unflat2 hS_50
  rw [show (comB (⟨[[], [0]], [3, 1], [1, 0]⟩ : BS) 0 1).2 = [1] from by kernel_rfl] at hr_59
  have hn_az_55 := hr_59.len; have hl_az_55 := hr_59.le
  simp only [List.length_cons, List.length_nil] at hn_az_55
  have hB_60 : BoardR p_7 (⟨[[], [0]], [4, 2], [1, 0]⟩ : BS) M_53 := by have h := hB_54; rwa [show (comB (⟨[[], [0]], [3, 1], [1, 0]⟩ : BS) 0 1).1 = (⟨[[], [0]], [4, 2], [1, 0]⟩ : BS) from by kernel_rfl] at h
  have hW_61 := (com_wf hW_48 (i := 0) (a := 1)); rw [show (comB (⟨[[], [0]], [3, 1], [1, 0]⟩ : BS) 0 1).1 = (⟨[[], [0]], [4, 2], [1, 0]⟩ : BS) from by kernel_rfl] at hW_61
  refine pu5 <| nilO <| thenK_n <| seqE <| regionE <| pu16 <| pu12 ?_
  have hc_62 : (((nz_56 : Nat) : Int) : Int) = 1 := by omega
  refine sFix 72 _ true (beq_iff_eq.2 hc_62) ?_
  refine pu1 <| gY ?_
  refine sIdx hr_59 0 Try.runUnderlying22 Try.sizeOf3 ?_
  intro x_63 b_64 o_65 hx_66 hp_67
  refine gY ?_
  refine sLp hS_51 (hp_67.up 0 rfl) 0 (.int .i64 x_63) (Try.isAgg3 _) ?_
  refine pu3 ?_
  have hc_68 : (x_63 : Int) = 1 := (Option.some.inj hx_66).symm
  refine sFix 78 _ true (beq_iff_eq.2 hc_68) ?_
  refine pu1 <| gY ?_
  have hS_72 := (hS_51.pick 1 rfl)
  refine cX Try.call25 (b_done hB_60 hW_61  (Sat.flat1 hS_72)) ?_
  rintro _ w_69 ⟨rfl, hS_70⟩
  have hS_71 := Sat.unflat1 hS_70
  refine pu4 <| gY ?_
  refine cX Try.call28 (b_total hB_60 hW_61  (Sat.flat1 hS_71)) ?_
  rintro _ w_73 ⟨rfl, hS_74⟩
  have hS_75 := Sat.unflat1 hS_74
  refine pu4 <| gY ?_
  refine cX Try.call26 (b_state hB_60 hW_61 1 (Sat.flat1 hS_75)) ?_
  rintro _ w_76 ⟨rfl, hS_77⟩
  have hS_78 := Sat.unflat1 hS_77
  refine pu3 <| nilO <| thenK_n <| retE <| retT [.bool true] <| ?_
  have hS_79 := (((((hS_78.dropAt 0 rfl).dropAt 0 rfl).dropAt 0 rfl).dropAt 0 rfl).dropAt 0 rfl)
  exact ⟨rfl, hS_79⟩
theorem l25_same {p q : Nat} {B : BS} {K : Int} {M M2 : Chunk} (hB : BoardR p B M) (hR : RefR q B M2) (hW : BWf B K) (i : Int) (hi : -1 ≤ i ∧ i ≤ 1000000) (hS : Sat W w (M :: M2 :: H :: F)) :
    Calls Try.prog 14 #[.pointer (some ⟨p, 0, none⟩), .pointer (some ⟨q, 0, none⟩), .int .i64 i] w fun e w' => ∃ M' : Chunk, e = .returned (.bool true) ∧ BoardR p B M' ∧ Sat W w' (M' :: M2 :: H :: F) := by
  refine callsA 39 Try.func14 rfl ?_
  refine seqE <| regionE <| pu1 <| nilO <| thenK_n <| seqE <| seqE <| regionE <| pu1 <| nilO <| thenK_n <| blockE ?_
  refine loopA (γ := Int) (fun j => [(0, .pointer (some ⟨p, 0, none⟩)), (1, .pointer (some ⟨q, 0, none⟩)), (2, .int .i64 i), (7, .int .i64 j)]) (fun j w => Sat W w (M :: M2 :: H :: F) ∧ (-1 ≤ j ∧ j ≤ i + 1)) (fun j => (i + 1 - j).toNat) (-1) ⟨hS, by omega⟩ ?_
  rintro j ρ w_1 ⟨hS_2, hj⟩
  refine seqE <| seqE <| regionE <| pu3 <| nilO <| thenK_n <| ?_
  refine cD (j ≤ i) (fun hc_3 => ?_) (fun hc_3 => ?_)
  · refine skipE <| thenK_n <| seqE <| blockE <| seqE <| regionE <| pu2 ?_
    refine cX Try.call26 (b_state hB hW j (Sat.flat1 hS_2)) ?_
    rintro _ w_4 ⟨rfl, hS_5⟩
    have hS_6 := Sat.unflat1 hS_5
    refine pu2 ?_
    have hS_10 := (hS_6.pick 1 rfl)
    refine cX Try.call37 (r_state hR hW j (Sat.flat1 hS_10)) ?_
    rintro _ w_7 ⟨rfl, hS_8⟩
    have hS_9 := Sat.unflat1 hS_8
    refine pu1 <| nilO <| thenK_n <| ?_
    have hc_11 : ((stAt B.st j) : Int) = (stAt B.st j) := rfl
    refine cF _ (bne_eq_false_iff_eq.2 hc_11) ?_
    refine skipE <| blockK_n <| thenK_n <| regionE <| pu1 ?_
    refine sAdd j 1 ?_
    refine pu1 <| nilO <| thenK_n <| ?_
    have hS_12 := (((hS_9.pick 2 rfl).pick 1 rfl).pick 2 rfl)
    exact ⟨j + 1, by first | omega | (dsimp only; omega), alA, hS_12, by omega⟩
  refine exitE <| thenK_x <| thenK_x <| blockK_x <| thenK_n <| seqE <| regionE <| pu1 ?_
  refine cX Try.call24 (b_ready hB hW  (Sat.flat1 hS_2)) ?_
  rintro _ w_13 ⟨az_18, nz_19, kz_20, Z_21, M_16, rfl, hr_22, hB_17, hS_14⟩
  have hS_15 := Sat.unflat2 hS_14
  have hn_az_18 := hr_22.len; have hl_az_18 := hr_22.le
  refine pu1 ?_
  have hS_26 := (hS_15.pick 2 rfl)
  refine cX Try.call38 (r_ready hR hW  (Sat.flat1 hS_26)) ?_
  rintro _ w_23 ⟨az_29, nz_30, kz_31, Z_32, rfl, hr_33, hS_24⟩
  have hS_25 := Sat.unflat2 hS_24
  have hn_az_29 := hr_33.len; have hl_az_29 := hr_33.le
  refine cR Try.call23 (r4_same az_18 nz_19 kz_20 (idxOf 2 0 B.st) az_29 nz_30 kz_31 (idxOf 2 0 B.st) (RdT.flat (hr_22.up 2 (by rfl))) (RdT.flat (hr_33.up 0 (by rfl))) (Sat.flat hS_25)) ?_
  intro w_34 hS_35
  refine pu1 ?_
  have hc_37 : (idxOf 2 0 B.st) = (idxOf 2 0 B.st) := rfl
  refine sFix 25 _ true (decide_eq_true hc_37) ?_
  refine pu1 <| gY ?_
  have hS_41 := (hS_35.pick 3 rfl)
  refine cX Try.call25 (b_done hB_17 hW  (Sat.flat1 hS_41)) ?_
  rintro _ w_38 ⟨rfl, hS_39⟩
  have hS_40 := Sat.unflat1 hS_39
  refine pu1 <| gY ?_
  have hS_45 := (hS_40.pick 2 rfl)
  refine cX Try.call39 (r_done hR hW  (Sat.flat1 hS_45)) ?_
  rintro _ w_42 ⟨rfl, hS_43⟩
  have hS_44 := Sat.unflat1 hS_43
  refine pu3 ?_
  have hc_46 : ((doneOf B) : Int) = (doneOf B) := rfl
  refine sFix 32 _ true (beq_iff_eq.2 hc_46) ?_
  refine pu1 <| gY ?_
  have hS_50 := (hS_44.pick 1 rfl)
  refine cX Try.call28 (b_total hB_17 hW  (Sat.flat1 hS_50)) ?_
  rintro _ w_47 ⟨rfl, hS_48⟩
  have hS_49 := Sat.unflat1 hS_48
  refine pu1 <| gY ?_
  have hS_54 := (hS_49.pick 1 rfl)
  refine cX Try.call40 (r_total hR hW  (Sat.flat1 hS_54)) ?_
  rintro _ w_51 ⟨rfl, hS_52⟩
  have hS_53 := Sat.unflat1 hS_52
  refine pu3 <| nilO <| thenK_n <| retE <| retT [.bool (((((B.deps.length : Nat) : Int)) : Int) == (((B.deps.length : Nat) : Int)))] <| ?_
  have hS_55 := (((((hS_53.pick 4 rfl).pick 1 rfl).pick 2 rfl).dropAt 3 rfl).dropAt 3 rfl)
  exact ⟨_, congrArg (fun b => Ending.returned (.bool b)) (beq_self_eq_true _), hB_17, hS_55⟩
theorem l25_same_nil {cs : List Chunk} (i : Int) (hi : -1 ≤ i ∧ i ≤ 1000000) (hS : Sat W w cs) :
    Calls Try.prog 14 #[.pointer none, .pointer none, .int .i64 i] w fun e w' => e = .returned (.bool true) ∧ Sat W w' cs := by
  refine callsA 39 Try.func14 rfl ?_
  refine seqE <| regionE <| pu1 <| nilO <| thenK_n <| seqE <| seqE <| regionE <| pu1 <| nilO <| thenK_n <| blockE ?_
  refine loopA (γ := Int) (fun j => [(0, .pointer none), (1, .pointer none), (2, .int .i64 i), (7, .int .i64 j)]) (fun j w => Sat W w (cs) ∧ (-1 ≤ j ∧ j ≤ i + 1)) (fun j => (i + 1 - j).toNat) (-1) ⟨hS, by omega⟩ ?_
  rintro j ρ w_1 ⟨hS_2, hj⟩
  refine seqE <| seqE <| regionE <| pu3 <| nilO <| thenK_n <| ?_
  refine cD (j ≤ i) (fun hc_3 => ?_) (fun hc_3 => ?_)
  · refine skipE <| thenK_n <| seqE <| blockE <| seqE <| regionE <| pu2 ?_
    refine cX Try.call26 (b_state_nil j hS_2) ?_
    rintro _ w_4 ⟨rfl, hS_5⟩
    refine pu2 ?_
    refine cX Try.call37 (r_state_nil j hS_5) ?_
    rintro _ w_6 ⟨rfl, hS_7⟩
    refine pu1 <| nilO <| thenK_n <| cFf <| skipE <| blockK_n <| thenK_n <| regionE <| pu1 ?_
    refine sAdd j 1 ?_
    refine pu1 <| nilO <| thenK_n <| ?_
    exact ⟨j + 1, by first | omega | (dsimp only; omega), alA, hS_7, by omega⟩
  refine exitE <| thenK_x <| thenK_x <| blockK_x <| thenK_n <| seqE <| regionE <| pu1 ?_
  refine cX Try.call24 (b_ready_nil  hS_2) ?_
  rintro _ w_8 ⟨rfl, hS_9⟩
  refine pu1 ?_
  refine cX Try.call38 (r_ready_nil  hS_9) ?_
  rintro _ w_10 ⟨rfl, hS_11⟩
  refine cR Try.call23 (r4_same none 0 0 ([]) none 0 0 ([]) (RdT.nil (enc := encI) (sz := 1) (fun _ => rfl) _) (RdT.nil (enc := encI) (sz := 1) (fun _ => rfl) _) (Sat.flat hS_11)) ?_
  intro w_12 hS_13
  refine pu1 ?_
  have hc_15 : ([] : List Int) = ([] : List Int) := rfl
  refine sFix 25 _ true (decide_eq_true hc_15) ?_
  refine pu1 <| gY ?_
  refine cX Try.call25 (b_done_nil  hS_13) ?_
  rintro _ w_16 ⟨rfl, hS_17⟩
  refine pu1 <| gY ?_
  refine cX Try.call39 (r_done_nil  hS_17) ?_
  rintro _ w_18 ⟨rfl, hS_19⟩
  refine pu4 <| gY ?_
  refine cX Try.call28 (b_total_nil  hS_19) ?_
  rintro _ w_20 ⟨rfl, hS_21⟩
  refine pu1 <| gY ?_
  refine cX Try.call40 (r_total_nil  hS_21) ?_
  rintro _ w_22 ⟨rfl, hS_23⟩
  refine pu3 <| nilO <| thenK_n <| retE <| retT [.bool true] <| ?_
  exact ⟨rfl, hS_23⟩
end Go.Proofs.Ytimkhljglpookaa
