import Derived.Test.YtcddcpaodcjecaaSame
import Derived.Test.YtcddcpaodcjecaaTape
import Derived.Test.YtcddcpaodcjecaaDec
namespace Go.Proofs.Ytcddcpaodcjecaa
open Go Go.E
set_option linter.unusedVariables false
set_option linter.unusedSimpArgs false
set_option linter.unnecessarySimpa false
set_option maxRecDepth 100000

theorem DecR.of_enc {x : List Int} {j0 j : JobV} {c : Int} (h : DecR x j c) (hw : wfJob j0) (hx : x = [84, 70, 1] ++ bytesOf (nJob j0)) (hl : x.length ≤ 262144) : c = 0 ∧ j = j0 := by
  have h0 := h.all hl j0 hw hx
  obtain ⟨h1, _, h3⟩ := h.ok h0
  rw [hx] at h3
  exact ⟨h0, ((pfJob j0 j [] [] hw h1 (by simpa using h3)).1).symm⟩
theorem DecR.not {x : List Int} {j : JobV} {c : Int} (h : DecR x j c) (hl : x.length ≤ 262144) (hn : x.take 3 ≠ [84, 70, 1]) : c = 4 ∧ j = ⟨[], [], [], 0⟩ := by
  by_cases h0 : c = 0
  · obtain ⟨_, _, h3⟩ := h.ok h0
    rw [h3] at hn; simp at hn
  · obtain ⟨h1, h2⟩ := h.bad h0
    rw [if_neg (by omega)] at h2
    exact ⟨h2, h1⟩
theorem DecR.code {x : List Int} {j : JobV} {c : Int} (h : DecR x j c) : c = 0 ∨ (c = 5 ∧ 262144 < x.length) ∨ (c = 4 ∧ x.length ≤ 262144) := by
  by_cases h0 : c = 0
  · exact .inl h0
  · obtain ⟨_, h2⟩ := h.bad h0
    by_cases h3 : 262144 < x.length
    · rw [if_pos h3] at h2; omega
    · rw [if_neg h3] at h2; omega
theorem enc_bytes (l : List Int) : Bytes ([84, 70, 1] ++ bytesOf l) := Bytes.app (by intro b hb; simp at hb; omega) (bytesOf_bytes l)
theorem enc_len (l : List Int) : ([84, 70, 1] ++ bytesOf l).length = 3 + 8 * l.length := by rw [List.length_append, bytesOf_len]; rfl
theorem zeros_bytes (n : Nat) : Bytes (List.replicate n 0) := by intro b hb; have := List.eq_of_mem_replicate hb; omega
theorem wf_zero : wfJob (Job.v ⟨⟨none, 0, 0, []⟩, ⟨none, 0, 0, []⟩, ⟨none, 0, 0, []⟩, 0⟩) := by
  refine ⟨?_, ?_, ?_, ?_⟩
  · unfold WfI; decide
  all_goals (refine ⟨by unfold WfI; decide, ?_⟩; intro z hz; cases hz)
theorem l19_sane (W w : World) (cs : List Chunk) (hS : Sat W w cs) :
    Calls Try.prog 13 #[] w fun e w' => e = .returned (.bool true) ∧ Sat W w' cs := by
  refine callsE (n := 48) Try.func13 rfl rfl (Nat.le_of_ble_eq_true rfl) ?_
  refine seqE ?_
  refine regionE ?_
  refine p1 (by kernel_rfl) ?_
  refine nilO ?_
  refine thenK_n <| ?_
  refine seqE ?_
  refine regionE ?_
  refine p1 (by kernel_rfl) ?_
  refine sF #[.agg #[.slice none 0 0, .slice none 0 0, .slice none 0 0, .int .i64 0]] Try.call11 (Calls.mono (codec_encode W _ (List.flatten (cs)) [] (⟨⟨none, 0, 0, []⟩, ⟨none, 0, 0, []⟩, ⟨none, 0, 0, []⟩, 0⟩ : Job) ⟨(RdT.nil (enc := encPlane) (sz := 4) (fun _ => rfl) _), (fun z hz => by cases hz), (RdT.nil (enc := encStage) (sz := 18) (fun _ => rfl) _), (fun z hz => by cases hz), (RdT.nil (enc := encI) (sz := 1) (fun _ => rfl) _)⟩ hS.flat) ?_)
  rintro _ w_1 (⟨hl_4, a_5, n_6, k_7, c_8, rfl, hO_9, hS_2⟩ | ⟨hl_4, rfl, hS_2⟩)
  · refine ⟨_, rfl, ?_⟩
    have hS_3 := Sat.unflat1 hS_2; clear hS_2
    change Sat _ _ (c_8 :: cs) at hS_3
    have hn_a_5 := hO_9.len; rw [enc_len] at hn_a_5; have hle_a_5 := hO_9.le
    refine p5 (by kernel_rfl) ?_
    refine nilO ?_
    refine thenK_n <| ?_
    refine seqE ?_
    refine regionE ?_
    refine p1 (by kernel_rfl) ?_
    refine sF #[.slice a_5 n_6 k_7] Try.call17 (Calls.mono (codec_decode W _ (List.flatten (c_8 :: cs)) [] _ _ _ ([84, 70, 1] ++ bytesOf (nJob (⟨⟨none, 0, 0, []⟩, ⟨none, 0, 0, []⟩, ⟨none, 0, 0, []⟩, 0⟩ : Job).v)) (RdT.flat (cs := (c_8 :: cs)) (hO_9.rdAt 0 rfl)) (enc_bytes _) hS_3.flat) ?_)
    rintro _ w_10 ⟨q_13, G_14, c_15, rfl, hok_16, hD_17, hS_11⟩
    refine ⟨_, rfl, ?_⟩
    have hS_12 := Sat.unflat1 hS_11; clear hS_11
    change Sat _ _ (G_14 :: c_8 :: cs) at hS_12
    refine p3 (by kernel_rfl) ?_
    refine sAlloc hS_12 Try.zeroValue28 ?_
    intro b_18 w_19 hS_20
    try dsimp only [List.set, List.eraseIdx] at hS_20
    refine sT hS_20 0 0 (.agg #[.slice q_13.inputs.a q_13.inputs.n q_13.inputs.k, .slice q_13.stages.a q_13.stages.n q_13.stages.k, .slice q_13.outputs.a q_13.outputs.n q_13.outputs.k, .int .i64 q_13.priority]) [.slice q_13.inputs.a q_13.inputs.n q_13.inputs.k, .slice q_13.stages.a q_13.stages.n q_13.stages.k, .slice q_13.outputs.a q_13.outputs.n q_13.outputs.k, .int .i64 q_13.priority] #[.slice q_13.inputs.a q_13.inputs.n q_13.inputs.k, .slice q_13.stages.a q_13.stages.n q_13.stages.k, .slice q_13.outputs.a q_13.outputs.n q_13.outputs.k, .int .i64 q_13.priority] Try.sizeOf28 ?_
    intro w_21 hS_22
    try dsimp only [List.set, List.eraseIdx] at hS_22
    refine p1 (by kernel_rfl) ?_
    refine nilO ?_
    obtain ⟨hc0, hj0⟩ := DecR.of_enc hD_17 wf_zero rfl (by decide)
    refine thenK_n <| ?_
    refine seqE ?_
    refine regionE ?_
    refine sBS hS_22 #[.int .u8 84, .int .u8 70, .int .u8 2] Try.runUnderlying31 Try.sizeOf5 Try.zeroValue5 ?_
    intro b_23 w_24 hS_25
    refine sF #[.slice (some ⟨b_23, 0, none⟩) 3 3] Try.call17 (Calls.mono (codec_decode W _ (List.flatten ([(b_23, .cells #[.int .u8 84, .int .u8 70, .int .u8 2] 5 (0, 0))] :: [(b_18, .cells #[.slice q_13.inputs.a q_13.inputs.n q_13.inputs.k, .slice q_13.stages.a q_13.stages.n q_13.stages.k, .slice q_13.outputs.a q_13.outputs.n q_13.outputs.k, .int .i64 q_13.priority] 28 (0, 0))] :: G_14 :: c_8 :: cs)) [] _ _ _ ([84, 70, 2]) (RdT.flat (cs := ([(b_23, .cells #[.int .u8 84, .int .u8 70, .int .u8 2] 5 (0, 0))] :: [(b_18, .cells #[.slice q_13.inputs.a q_13.inputs.n q_13.inputs.k, .slice q_13.stages.a q_13.stages.n q_13.stages.k, .slice q_13.outputs.a q_13.outputs.n q_13.outputs.k, .int .i64 q_13.priority] 28 (0, 0))] :: G_14 :: c_8 :: cs)) (RdT.blk (enc := encB) (sz := 1) (xs := [84, 70, 2]) (fun _ => rfl) 3 0 rfl rfl rfl (by omega))) (by intro b hb; simp at hb; omega) hS_25.flat) ?_)
    rintro _ w_26 ⟨q_29, G_30, c_31, rfl, hok_32, hD_33, hS_27⟩
    refine ⟨_, rfl, ?_⟩
    have hS_28 := Sat.unflat1 hS_27; clear hS_27
    try dsimp only [List.set, List.eraseIdx] at hS_28
    refine p3 (by kernel_rfl) ?_
    refine sAlloc hS_28 Try.zeroValue28 ?_
    intro b_34 w_35 hS_36
    try dsimp only [List.set, List.eraseIdx] at hS_36
    refine sT hS_36 0 0 (.agg #[.slice q_29.inputs.a q_29.inputs.n q_29.inputs.k, .slice q_29.stages.a q_29.stages.n q_29.stages.k, .slice q_29.outputs.a q_29.outputs.n q_29.outputs.k, .int .i64 q_29.priority]) [.slice q_29.inputs.a q_29.inputs.n q_29.inputs.k, .slice q_29.stages.a q_29.stages.n q_29.stages.k, .slice q_29.outputs.a q_29.outputs.n q_29.outputs.k, .int .i64 q_29.priority] #[.slice q_29.inputs.a q_29.inputs.n q_29.inputs.k, .slice q_29.stages.a q_29.stages.n q_29.stages.k, .slice q_29.outputs.a q_29.outputs.n q_29.outputs.k, .int .i64 q_29.priority] Try.sizeOf28 ?_
    intro w_37 hS_38
    try dsimp only [List.set, List.eraseIdx] at hS_38
    refine p1 (by kernel_rfl) ?_
    refine nilO ?_
    obtain ⟨hc1, hj1⟩ := DecR.not hD_33 (by decide) (by decide)
    have hn : n_6 = 35 := by have h := hn_a_5; exact h.symm.trans (by decide)
    refine thenK_n <| ?_
    refine seqE ?_
    refine regionE ?_
    refine p8 (by kernel_rfl) ?_
    by_cases hc_39 : (((n_6 : Nat) : Int) : Int) = 35
    · refine sFix 29 ((((n_6 : Nat) : Int) : Int) == 35) true (beq_iff_eq.2 hc_39) ?_
      refine p1 (by kernel_rfl) ?_
      refine guardYes rfl ⟨_, rfl, rfl, by kernel_rfl⟩ ?_
      refine sIdxO hO_9 0 0 Try.runUnderlying31 Try.sizeOf5 ?_
      intro x_40 b_41 o_42 hx_43 hp_44 hq_45
      have hx0 : (84 : Int) = x_40 := Option.some.inj hx_43
      refine guardYes rfl ⟨_, rfl, rfl, by kernel_rfl⟩ ?_
      refine sLp hS_38 (hp_44.up 5 rfl) 0 (.int .u8 x_40) (Try.isAgg5 _) ?_
      refine p3 (by kernel_rfl) ?_
      by_cases hc_46 : (x_40 : Int) = 84
      · refine sFix 35 ((x_40 : Int) == 84) true (beq_iff_eq.2 hc_46) ?_
        refine p4 (by kernel_rfl) ?_
        by_cases hc_47 : (c_15 : Int) = 0
        · refine sFix 39 ((c_15 : Int) == 0) true (beq_iff_eq.2 hc_47) ?_
          refine guardYes rfl ⟨_, rfl, rfl, by kernel_rfl⟩ ?_
          refine sLA hS_38 3 0 [.slice q_13.inputs.a q_13.inputs.n q_13.inputs.k, .slice q_13.stages.a q_13.stages.n q_13.stages.k, .slice q_13.outputs.a q_13.outputs.n q_13.outputs.k, .int .i64 q_13.priority] (Try.isAgg28 _) (Try.sizeOf28 _) ?_
          refine p1 (by kernel_rfl) ?_
          refine guardYes rfl ⟨_, rfl, rfl, by kernel_rfl⟩ ?_
          refine sF #[.agg #[.slice q_13.inputs.a q_13.inputs.n q_13.inputs.k, .slice q_13.stages.a q_13.stages.n q_13.stages.k, .slice q_13.outputs.a q_13.outputs.n q_13.outputs.k, .int .i64 q_13.priority], .agg #[.slice none 0 0, .slice none 0 0, .slice none 0 0, .int .i64 0]] Try.call12 (Calls.mono (r19_same W _ (List.flatten ([(b_34, .cells #[.slice q_29.inputs.a q_29.inputs.n q_29.inputs.k, .slice q_29.stages.a q_29.stages.n q_29.stages.k, .slice q_29.outputs.a q_29.outputs.n q_29.outputs.k, .int .i64 q_29.priority] 28 (0, 0))] :: G_30 :: [(b_23, .cells #[.int .u8 84, .int .u8 70, .int .u8 2] 5 (0, 0))] :: [(b_18, .cells #[.slice q_13.inputs.a q_13.inputs.n q_13.inputs.k, .slice q_13.stages.a q_13.stages.n q_13.stages.k, .slice q_13.outputs.a q_13.outputs.n q_13.outputs.k, .int .i64 q_13.priority] 28 (0, 0))] :: G_14 :: c_8 :: cs)) [] q_13 (⟨⟨none, 0, 0, []⟩, ⟨none, 0, 0, []⟩, ⟨none, 0, 0, []⟩, 0⟩ : Job) ⟨(RdT.flat (cs := ([(b_34, .cells #[.slice q_29.inputs.a q_29.inputs.n q_29.inputs.k, .slice q_29.stages.a q_29.stages.n q_29.stages.k, .slice q_29.outputs.a q_29.outputs.n q_29.outputs.k, .int .i64 q_29.priority] 28 (0, 0))] :: G_30 :: [(b_23, .cells #[.int .u8 84, .int .u8 70, .int .u8 2] 5 (0, 0))] :: [(b_18, .cells #[.slice q_13.inputs.a q_13.inputs.n q_13.inputs.k, .slice q_13.stages.a q_13.stages.n q_13.stages.k, .slice q_13.outputs.a q_13.outputs.n q_13.outputs.k, .int .i64 q_13.priority] 28 (0, 0))] :: G_14 :: c_8 :: cs)) (hok_16.inputs.up 4 rfl)), (fun z hz => (hok_16.inputsD z hz).of_mem (mem_flat1 (cs := ([(b_34, .cells #[.slice q_29.inputs.a q_29.inputs.n q_29.inputs.k, .slice q_29.stages.a q_29.stages.n q_29.stages.k, .slice q_29.outputs.a q_29.outputs.n q_29.outputs.k, .int .i64 q_29.priority] 28 (0, 0))] :: G_30 :: [(b_23, .cells #[.int .u8 84, .int .u8 70, .int .u8 2] 5 (0, 0))] :: [(b_18, .cells #[.slice q_13.inputs.a q_13.inputs.n q_13.inputs.k, .slice q_13.stages.a q_13.stages.n q_13.stages.k, .slice q_13.outputs.a q_13.outputs.n q_13.outputs.k, .int .i64 q_13.priority] 28 (0, 0))] :: G_14 :: c_8 :: cs)) 4 rfl)), (RdT.flat (cs := ([(b_34, .cells #[.slice q_29.inputs.a q_29.inputs.n q_29.inputs.k, .slice q_29.stages.a q_29.stages.n q_29.stages.k, .slice q_29.outputs.a q_29.outputs.n q_29.outputs.k, .int .i64 q_29.priority] 28 (0, 0))] :: G_30 :: [(b_23, .cells #[.int .u8 84, .int .u8 70, .int .u8 2] 5 (0, 0))] :: [(b_18, .cells #[.slice q_13.inputs.a q_13.inputs.n q_13.inputs.k, .slice q_13.stages.a q_13.stages.n q_13.stages.k, .slice q_13.outputs.a q_13.outputs.n q_13.outputs.k, .int .i64 q_13.priority] 28 (0, 0))] :: G_14 :: c_8 :: cs)) (hok_16.stages.up 4 rfl)), (fun z hz => (hok_16.stagesD z hz).of_mem (mem_flat1 (cs := ([(b_34, .cells #[.slice q_29.inputs.a q_29.inputs.n q_29.inputs.k, .slice q_29.stages.a q_29.stages.n q_29.stages.k, .slice q_29.outputs.a q_29.outputs.n q_29.outputs.k, .int .i64 q_29.priority] 28 (0, 0))] :: G_30 :: [(b_23, .cells #[.int .u8 84, .int .u8 70, .int .u8 2] 5 (0, 0))] :: [(b_18, .cells #[.slice q_13.inputs.a q_13.inputs.n q_13.inputs.k, .slice q_13.stages.a q_13.stages.n q_13.stages.k, .slice q_13.outputs.a q_13.outputs.n q_13.outputs.k, .int .i64 q_13.priority] 28 (0, 0))] :: G_14 :: c_8 :: cs)) 4 rfl)), (RdT.flat (cs := ([(b_34, .cells #[.slice q_29.inputs.a q_29.inputs.n q_29.inputs.k, .slice q_29.stages.a q_29.stages.n q_29.stages.k, .slice q_29.outputs.a q_29.outputs.n q_29.outputs.k, .int .i64 q_29.priority] 28 (0, 0))] :: G_30 :: [(b_23, .cells #[.int .u8 84, .int .u8 70, .int .u8 2] 5 (0, 0))] :: [(b_18, .cells #[.slice q_13.inputs.a q_13.inputs.n q_13.inputs.k, .slice q_13.stages.a q_13.stages.n q_13.stages.k, .slice q_13.outputs.a q_13.outputs.n q_13.outputs.k, .int .i64 q_13.priority] 28 (0, 0))] :: G_14 :: c_8 :: cs)) (hok_16.outputs.up 4 rfl))⟩ ⟨(RdT.nil (enc := encPlane) (sz := 4) (fun _ => rfl) _), (fun z hz => by cases hz), (RdT.nil (enc := encStage) (sz := 18) (fun _ => rfl) _), (fun z hz => by cases hz), (RdT.nil (enc := encI) (sz := 1) (fun _ => rfl) _)⟩ hS_38.flat) ?_)
          rintro _ w_48 ⟨rfl, h_50⟩
          refine ⟨_, rfl, ?_⟩
          have hS_49 := Sat.unflat h_50; clear h_50
          try dsimp only [List.set, List.eraseIdx] at hS_49
          refine p2 (by kernel_rfl) ?_
          rcases Classical.em (q_13.v = (⟨⟨none, 0, 0, []⟩, ⟨none, 0, 0, []⟩, ⟨none, 0, 0, []⟩, 0⟩ : Job).v) with hc_51 | hc_51
          · refine sFix 44 (decide (q_13.v = (⟨⟨none, 0, 0, []⟩, ⟨none, 0, 0, []⟩, ⟨none, 0, 0, []⟩, 0⟩ : Job).v)) true (decide_eq_true hc_51) ?_
            refine p4 (by kernel_rfl) ?_
            refine nilO ?_
            refine thenK_n <| ?_
            refine retE ?_
            refine retN (vs := [.bool ((c_31 : Int) == 4)]) rfl (.cons (.tmp _ _ (by kernel_rfl)) .nil) <| ?_
            try dsimp only [List.set, List.eraseIdx] at hS_49
            have hS_52 := hS_49.dropAt 0 rfl
            have hS_53 := hS_52.dropAt 0 rfl
            have hS_54 := hS_53.dropAt 0 rfl
            have hS_55 := hS_54.dropAt 0 rfl
            have hS_56 := hS_55.dropAt 0 rfl
            have hS_57 := hS_56.dropAt 0 rfl
            change Sat _ _ (cs) at hS_57
            exact ⟨congrArg (fun b => Ending.returned (.bool b)) (by first | exact beq_iff_eq.2 (by omega) | exact decide_eq_true (by omega) | (simp_all; done)), hS_57⟩
          · refine sFix 44 (decide (q_13.v = (⟨⟨none, 0, 0, []⟩, ⟨none, 0, 0, []⟩, ⟨none, 0, 0, []⟩, 0⟩ : Job).v)) false (decide_eq_false hc_51) ?_
            refine p4 (by kernel_rfl) ?_
            refine nilO ?_
            refine thenK_n <| ?_
            refine retE ?_
            refine retN (vs := [.bool false]) rfl (.cons (.tmp _ _ (by kernel_rfl)) .nil) <| ?_
            first | (exfalso; omega) | contradiction | (exfalso; simp_all; done)
        · refine sFix 39 ((c_15 : Int) == 0) false (beq_eq_false_iff_ne.2 hc_47) ?_
          refine p9 (by kernel_rfl) ?_
          refine nilO ?_
          refine thenK_n <| ?_
          refine retE ?_
          refine retN (vs := [.bool false]) rfl (.cons (.tmp _ _ (by kernel_rfl)) .nil) <| ?_
          first | (exfalso; omega) | contradiction | (exfalso; simp_all; done)
      · refine sFix 35 ((x_40 : Int) == 84) false (beq_eq_false_iff_ne.2 hc_46) ?_
        refine p13 (by kernel_rfl) ?_
        refine nilO ?_
        refine thenK_n <| ?_
        refine retE ?_
        refine retN (vs := [.bool false]) rfl (.cons (.tmp _ _ (by kernel_rfl)) .nil) <| ?_
        first | (exfalso; omega) | contradiction | (exfalso; simp_all; done)
    · refine sFix 29 ((((n_6 : Nat) : Int) : Int) == 35) false (beq_eq_false_iff_ne.2 hc_39) ?_
      refine p16 (by kernel_rfl) ?_
      refine p3 (by kernel_rfl) ?_
      refine nilO ?_
      refine thenK_n <| ?_
      refine retE ?_
      refine retN (vs := [.bool false]) rfl (.cons (.tmp _ _ (by kernel_rfl)) .nil) <| ?_
      first | (exfalso; omega) | contradiction | (exfalso; simp_all; done)
  · exact absurd hl_4 (by decide)
theorem DecR.not0 {n : Nat} {j : JobV} {c : Int} (h : DecR (List.replicate n 0) j c) (hn : 0 < n) : c ≠ 0 := by
  intro h0
  obtain ⟨_, _, h3⟩ := h.ok h0
  cases n with
  | zero => omega
  | succ n => rw [List.replicate_succ] at h3; simp at h3
theorem l19_limits (W w : World) (H : Chunk) (F : List Chunk) (n : Int) (_hn : -9223372036854775808 ≤ n ∧ n ≤ 9223372036854775807) (hS : Sat W w (H :: F)) :
    Calls Try.prog 7 #[.int .i64 n] w fun e w' => e = .returned (.bool true) ∧ Sat W w' (H :: F) := by
  refine callsE (n := 68) Try.func7 rfl rfl (Nat.le_of_ble_eq_true rfl) ?_
  refine seqE ?_
  refine regionE ?_
  refine p1 (by kernel_rfl) ?_
  refine nilO ?_
  refine thenK_n <| ?_
  refine seqE ?_
  refine regionE ?_
  refine p1 (by kernel_rfl) ?_
  refine sF #[.int .i64 n, .int .i64 3] Try.call18 (Calls.mono (mod_ok W _ _ n 3 (by omega) (by omega) hS) ?_)
  rintro _ w_1 ⟨r_3, rfl, hr_4, hS_2⟩
  refine ⟨_, rfl, ?_⟩
  change Sat _ _ (H :: F) at hS_2
  refine p1 (by kernel_rfl) ?_
  refine nilO ?_
  refine thenK_n <| ?_
  refine seqE ?_
  refine regionE ?_
  refine p1 (by kernel_rfl) ?_
  refine sAdd 32762 r_3 ?_
  refine sMake (kl := .i64) (kc := .i64) (enc := encI) (sz := 1) (nb := 8) hS_2 0 ((32762 + r_3)).toNat (32762 + r_3) ((by omega) : (32762 + r_3) = ((((32762 + r_3)).toNat : Nat) : Int)) Try.underlying22 (i := Try.t3) (by kernel_rfl) (fun _ => rfl) ?_
  intro b_5 c_6 w_8 hO_7 hS_9
  change Sat _ _ (c_6 :: H :: F) at hS_9
  refine p1 (by kernel_rfl) ?_
  refine sAlloc hS_9 Try.zeroValue28 ?_
  intro b_10 w_11 hS_12
  try dsimp only [List.set, List.eraseIdx] at hS_12
  refine sT hS_12 0 0 (.agg #[.slice none 0 0, .slice none 0 0, .slice (some ⟨b_5, 0, none⟩) (((32762 + r_3)).toNat) (((32762 + r_3)).toNat), .int .i64 0]) [.slice none 0 0, .slice none 0 0, .slice (some ⟨b_5, 0, none⟩) (((32762 + r_3)).toNat) (((32762 + r_3)).toNat), .int .i64 0] #[.slice none 0 0, .slice none 0 0, .slice (some ⟨b_5, 0, none⟩) (((32762 + r_3)).toNat) (((32762 + r_3)).toNat), .int .i64 0] Try.sizeOf28 ?_
  intro w_13 hS_14
  try dsimp only [List.set, List.eraseIdx] at hS_14
  refine nilO ?_
  refine thenK_n <| ?_
  refine seqE ?_
  have hlj : (nJob (⟨⟨none, 0, 0, []⟩, ⟨none, 0, 0, []⟩, ⟨(some ⟨b_5, 0, none⟩), ((32762 + r_3)).toNat, ((32762 + r_3)).toNat, (List.replicate ((32762 + r_3)).toNat 0)⟩, 0⟩ : Job).v).length = 4 + (32762 + r_3).toNat := by simp [nJob, nInts, Job.v]; try omega
  refine regionE ?_
  refine sLA hS_14 0 0 [.slice none 0 0, .slice none 0 0, .slice (some ⟨b_5, 0, none⟩) (((32762 + r_3)).toNat) (((32762 + r_3)).toNat), .int .i64 0] (Try.isAgg28 _) (Try.sizeOf28 _) ?_
  refine sF #[.agg #[.slice none 0 0, .slice none 0 0, .slice (some ⟨b_5, 0, none⟩) (((32762 + r_3)).toNat) (((32762 + r_3)).toNat), .int .i64 0]] Try.call11 (Calls.mono (codec_encode W _ (List.flatten ([(b_10, .cells #[.slice none 0 0, .slice none 0 0, .slice (some ⟨b_5, 0, none⟩) (((32762 + r_3)).toNat) (((32762 + r_3)).toNat), .int .i64 0] 28 (0, 0))] :: c_6 :: H :: F)) [] (⟨⟨none, 0, 0, []⟩, ⟨none, 0, 0, []⟩, ⟨(some ⟨b_5, 0, none⟩), ((32762 + r_3)).toNat, ((32762 + r_3)).toNat, (List.replicate ((32762 + r_3)).toNat 0)⟩, 0⟩ : Job) ⟨(RdT.nil (enc := encPlane) (sz := 4) (fun _ => rfl) _), (fun z hz => by cases hz), (RdT.nil (enc := encStage) (sz := 18) (fun _ => rfl) _), (fun z hz => by cases hz), (RdT.flat (cs := ([(b_10, .cells #[.slice none 0 0, .slice none 0 0, .slice (some ⟨b_5, 0, none⟩) (((32762 + r_3)).toNat) (((32762 + r_3)).toNat), .int .i64 0] 28 (0, 0))] :: c_6 :: H :: F)) (hO_7.rdAt 1 rfl))⟩ hS_14.flat) ?_)
  rintro _ w_15 (⟨hl_18, a_19, n_20, k_21, c_22, rfl, hO_23, hS_16⟩ | ⟨hl_18, rfl, hS_16⟩)
  · refine ⟨_, rfl, ?_⟩
    have hS_17 := Sat.unflat1 hS_16; clear hS_16
    try dsimp only [List.set, List.eraseIdx] at hS_17
    have hn_a_19 := hO_23.len; rw [enc_len] at hn_a_19; have hle_a_19 := hO_23.le
    refine p5 (by kernel_rfl) ?_
    refine nilO ?_
    refine thenK_n <| ?_
    refine seqE ?_
    refine regionE ?_
    refine p1 (by kernel_rfl) ?_
    refine sL hS_17 1 2 (.slice (some ⟨b_5, 0, none⟩) (((32762 + r_3)).toNat) (((32762 + r_3)).toNat)) (Try.isAgg22 _) ?_
    refine p1 (by kernel_rfl) ?_
    refine sMul 8 ((((32762 + r_3)).toNat : Nat) : Int) ?_
    refine sAdd 35 (8 * ((((32762 + r_3)).toNat : Nat) : Int)) ?_
    refine p2 (by kernel_rfl) ?_
    refine nilO ?_
    refine thenK_n <| ?_
    refine seqE ?_
    refine regionE ?_
    refine p1 (by kernel_rfl) ?_
    refine sAdd 262143 r_3 ?_
    refine sMake (kl := .i64) (kc := .i64) (enc := encB) (sz := 1) (nb := 1) hS_17 0 ((262143 + r_3)).toNat (262143 + r_3) ((by omega) : (262143 + r_3) = ((((262143 + r_3)).toNat : Nat) : Int)) Try.underlying31 (i := Try.t5) (by kernel_rfl) (fun _ => rfl) ?_
    intro b_24 c_25 w_27 hO_26 hS_28
    try dsimp only [List.set, List.eraseIdx] at hS_28
    refine p1 (by kernel_rfl) ?_
    refine nilO ?_
    refine thenK_n <| ?_
    refine seqE ?_
    refine regionE ?_
    refine p1 (by kernel_rfl) ?_
    refine sF #[.slice (some ⟨b_24, 0, none⟩) (((262143 + r_3)).toNat) (((262143 + r_3)).toNat)] Try.call17 (Calls.mono (codec_decode W _ (List.flatten (c_25 :: c_22 :: [(b_10, .cells #[.slice none 0 0, .slice none 0 0, .slice (some ⟨b_5, 0, none⟩) (((32762 + r_3)).toNat) (((32762 + r_3)).toNat), .int .i64 0] 28 (0, 0))] :: c_6 :: H :: F)) [] _ _ _ (List.replicate ((262143 + r_3)).toNat 0) (RdT.flat (cs := (c_25 :: c_22 :: [(b_10, .cells #[.slice none 0 0, .slice none 0 0, .slice (some ⟨b_5, 0, none⟩) (((32762 + r_3)).toNat) (((32762 + r_3)).toNat), .int .i64 0] 28 (0, 0))] :: c_6 :: H :: F)) (hO_26.rdAt 0 rfl)) (zeros_bytes _) hS_28.flat) ?_)
    rintro _ w_29 ⟨q_32, G_33, c_34, rfl, hok_35, hD_36, hS_30⟩
    refine ⟨_, rfl, ?_⟩
    have hS_31 := Sat.unflat1 hS_30; clear hS_30
    try dsimp only [List.set, List.eraseIdx] at hS_31
    refine p3 (by kernel_rfl) ?_
    refine sAlloc hS_31 Try.zeroValue28 ?_
    intro b_37 w_38 hS_39
    try dsimp only [List.set, List.eraseIdx] at hS_39
    refine sT hS_39 0 0 (.agg #[.slice q_32.inputs.a q_32.inputs.n q_32.inputs.k, .slice q_32.stages.a q_32.stages.n q_32.stages.k, .slice q_32.outputs.a q_32.outputs.n q_32.outputs.k, .int .i64 q_32.priority]) [.slice q_32.inputs.a q_32.inputs.n q_32.inputs.k, .slice q_32.stages.a q_32.stages.n q_32.stages.k, .slice q_32.outputs.a q_32.outputs.n q_32.outputs.k, .int .i64 q_32.priority] #[.slice q_32.inputs.a q_32.inputs.n q_32.inputs.k, .slice q_32.stages.a q_32.stages.n q_32.stages.k, .slice q_32.outputs.a q_32.outputs.n q_32.outputs.k, .int .i64 q_32.priority] Try.sizeOf28 ?_
    intro w_40 hS_41
    try dsimp only [List.set, List.eraseIdx] at hS_41
    refine p1 (by kernel_rfl) ?_
    refine nilO ?_
    have hdc := DecR.code hD_36; simp only [List.length_replicate] at hdc; have hdz := DecR.not0 hD_36 (by omega)
    refine thenK_n <| ?_
    refine seqE ?_
    refine regionE ?_
    refine p5 (by kernel_rfl) ?_
    rcases bool_em true (decide (((35 + (8 * ((((32762 + r_3)).toNat : Nat) : Int))) : Int) ≤ 262144)) with hc_42 | hc_42
    · refine sFix 40 (true == (decide (((35 + (8 * ((((32762 + r_3)).toNat : Nat) : Int))) : Int) ≤ 262144))) true (show (true == (decide (((35 + (8 * ((((32762 + r_3)).toNat : Nat) : Int))) : Int) ≤ 262144))) = true from by simpa using hc_42) ?_
      refine p16 (by kernel_rfl) ?_
      refine p5 (by kernel_rfl) ?_
      rcases bool_em ((c_34 : Int) == 5) (decide ((((((262143 + r_3)).toNat : Nat) : Int) : Int) > 262144)) with hc_43 | hc_43
      · refine sFix 61 (((c_34 : Int) == 5) == (decide ((((((262143 + r_3)).toNat : Nat) : Int) : Int) > 262144))) true (show (((c_34 : Int) == 5) == (decide ((((((262143 + r_3)).toNat : Nat) : Int) : Int) > 262144))) = true from by simpa using hc_43) ?_
        refine p4 (by kernel_rfl) ?_
        by_cases hc_44 : (c_34 : Int) = 0
        · refine sFix 65 ((c_34 : Int) != 0) false (bne_eq_false_iff_eq.2 hc_44) ?_
          refine p3 (by kernel_rfl) ?_
          refine nilO ?_
          refine thenK_n <| ?_
          refine retE ?_
          refine retN (vs := [.bool false]) rfl (.cons (.tmp _ _ (by kernel_rfl)) .nil) <| ?_
          first | omega
        · refine sFix 65 ((c_34 : Int) != 0) true (bne_iff_ne.2 hc_44) ?_
          refine guardYes rfl ⟨_, rfl, rfl, by kernel_rfl⟩ ?_
          refine sF #[] Try.call13 (Calls.mono (l19_sane W _ ([(b_37, .cells #[.slice q_32.inputs.a q_32.inputs.n q_32.inputs.k, .slice q_32.stages.a q_32.stages.n q_32.stages.k, .slice q_32.outputs.a q_32.outputs.n q_32.outputs.k, .int .i64 q_32.priority] 28 (0, 0))] :: G_33 :: c_25 :: c_22 :: [(b_10, .cells #[.slice none 0 0, .slice none 0 0, .slice (some ⟨b_5, 0, none⟩) (((32762 + r_3)).toNat) (((32762 + r_3)).toNat), .int .i64 0] 28 (0, 0))] :: c_6 :: H :: F) hS_41) ?_)
          rintro _ w_45 ⟨rfl, hS_46⟩
          refine ⟨_, rfl, ?_⟩
          try dsimp only [List.set, List.eraseIdx] at hS_46
          refine p2 (by kernel_rfl) ?_
          refine nilO ?_
          refine thenK_n <| ?_
          refine retE ?_
          refine retN (vs := [.bool true]) rfl (.cons (.tmp _ _ (by kernel_rfl)) .nil) <| ?_
          have hS_47 := hS_46.pick 6 rfl
          try dsimp only [List.set, List.eraseIdx] at hS_47
          have hS_48 := hS_47.dropAt 1 rfl
          have hS_49 := hS_48.dropAt 1 rfl
          have hS_50 := hS_49.dropAt 1 rfl
          have hS_51 := hS_50.dropAt 1 rfl
          have hS_52 := hS_51.dropAt 1 rfl
          have hS_53 := hS_52.dropAt 1 rfl
          exact ⟨rfl, hS_53⟩
      · refine sFix 61 (((c_34 : Int) == 5) == (decide ((((((262143 + r_3)).toNat : Nat) : Int) : Int) > 262144))) false (show (((c_34 : Int) == 5) == (decide ((((((262143 + r_3)).toNat : Nat) : Int) : Int) > 262144))) = false from by simpa using hc_43) ?_
        refine p7 (by kernel_rfl) ?_
        refine nilO ?_
        refine thenK_n <| ?_
        refine retE ?_
        refine retN (vs := [.bool false]) rfl (.cons (.tmp _ _ (by kernel_rfl)) .nil) <| ?_
        first | omega | (exact absurd (by rw [Bool.eq_iff_iff]; simp <;> omega) hc_43)
    · refine sFix 40 (true == (decide (((35 + (8 * ((((32762 + r_3)).toNat : Nat) : Int))) : Int) ≤ 262144))) false (show (true == (decide (((35 + (8 * ((((32762 + r_3)).toNat : Nat) : Int))) : Int) ≤ 262144))) = false from by simpa using hc_42) ?_
      refine p16 (by kernel_rfl) ?_
      refine p12 (by kernel_rfl) ?_
      refine nilO ?_
      refine thenK_n <| ?_
      refine retE ?_
      refine retN (vs := [.bool false]) rfl (.cons (.tmp _ _ (by kernel_rfl)) .nil) <| ?_
      first | omega | (exact absurd (by rw [Bool.eq_iff_iff]; simp <;> omega) hc_42)
  · refine ⟨_, rfl, ?_⟩
    have hS_17 := Sat.unflat hS_16; clear hS_16
    try dsimp only [List.set, List.eraseIdx] at hS_17
    refine p5 (by kernel_rfl) ?_
    refine nilO ?_
    refine thenK_n <| ?_
    refine seqE ?_
    refine regionE ?_
    refine p1 (by kernel_rfl) ?_
    refine sL hS_17 0 2 (.slice (some ⟨b_5, 0, none⟩) (((32762 + r_3)).toNat) (((32762 + r_3)).toNat)) (Try.isAgg22 _) ?_
    refine p1 (by kernel_rfl) ?_
    refine sMul 8 ((((32762 + r_3)).toNat : Nat) : Int) ?_
    refine sAdd 35 (8 * ((((32762 + r_3)).toNat : Nat) : Int)) ?_
    refine p2 (by kernel_rfl) ?_
    refine nilO ?_
    refine thenK_n <| ?_
    refine seqE ?_
    refine regionE ?_
    refine p1 (by kernel_rfl) ?_
    refine sAdd 262143 r_3 ?_
    refine sMake (kl := .i64) (kc := .i64) (enc := encB) (sz := 1) (nb := 1) hS_17 0 ((262143 + r_3)).toNat (262143 + r_3) ((by omega) : (262143 + r_3) = ((((262143 + r_3)).toNat : Nat) : Int)) Try.underlying31 (i := Try.t5) (by kernel_rfl) (fun _ => rfl) ?_
    intro b_54 c_55 w_57 hO_56 hS_58
    try dsimp only [List.set, List.eraseIdx] at hS_58
    refine p1 (by kernel_rfl) ?_
    refine nilO ?_
    refine thenK_n <| ?_
    refine seqE ?_
    refine regionE ?_
    refine p1 (by kernel_rfl) ?_
    refine sF #[.slice (some ⟨b_54, 0, none⟩) (((262143 + r_3)).toNat) (((262143 + r_3)).toNat)] Try.call17 (Calls.mono (codec_decode W _ (List.flatten (c_55 :: [(b_10, .cells #[.slice none 0 0, .slice none 0 0, .slice (some ⟨b_5, 0, none⟩) (((32762 + r_3)).toNat) (((32762 + r_3)).toNat), .int .i64 0] 28 (0, 0))] :: c_6 :: H :: F)) [] _ _ _ (List.replicate ((262143 + r_3)).toNat 0) (RdT.flat (cs := (c_55 :: [(b_10, .cells #[.slice none 0 0, .slice none 0 0, .slice (some ⟨b_5, 0, none⟩) (((32762 + r_3)).toNat) (((32762 + r_3)).toNat), .int .i64 0] 28 (0, 0))] :: c_6 :: H :: F)) (hO_56.rdAt 0 rfl)) (zeros_bytes _) hS_58.flat) ?_)
    rintro _ w_59 ⟨q_62, G_63, c_64, rfl, hok_65, hD_66, hS_60⟩
    refine ⟨_, rfl, ?_⟩
    have hS_61 := Sat.unflat1 hS_60; clear hS_60
    try dsimp only [List.set, List.eraseIdx] at hS_61
    refine p3 (by kernel_rfl) ?_
    refine sAlloc hS_61 Try.zeroValue28 ?_
    intro b_67 w_68 hS_69
    try dsimp only [List.set, List.eraseIdx] at hS_69
    refine sT hS_69 0 0 (.agg #[.slice q_62.inputs.a q_62.inputs.n q_62.inputs.k, .slice q_62.stages.a q_62.stages.n q_62.stages.k, .slice q_62.outputs.a q_62.outputs.n q_62.outputs.k, .int .i64 q_62.priority]) [.slice q_62.inputs.a q_62.inputs.n q_62.inputs.k, .slice q_62.stages.a q_62.stages.n q_62.stages.k, .slice q_62.outputs.a q_62.outputs.n q_62.outputs.k, .int .i64 q_62.priority] #[.slice q_62.inputs.a q_62.inputs.n q_62.inputs.k, .slice q_62.stages.a q_62.stages.n q_62.stages.k, .slice q_62.outputs.a q_62.outputs.n q_62.outputs.k, .int .i64 q_62.priority] Try.sizeOf28 ?_
    intro w_70 hS_71
    try dsimp only [List.set, List.eraseIdx] at hS_71
    refine p1 (by kernel_rfl) ?_
    refine nilO ?_
    have hdc := DecR.code hD_66; simp only [List.length_replicate] at hdc; have hdz := DecR.not0 hD_66 (by omega)
    refine thenK_n <| ?_
    refine seqE ?_
    refine regionE ?_
    refine p5 (by kernel_rfl) ?_
    rcases bool_em false (decide (((35 + (8 * ((((32762 + r_3)).toNat : Nat) : Int))) : Int) ≤ 262144)) with hc_72 | hc_72
    · refine sFix 40 (false == (decide (((35 + (8 * ((((32762 + r_3)).toNat : Nat) : Int))) : Int) ≤ 262144))) true (show (false == (decide (((35 + (8 * ((((32762 + r_3)).toNat : Nat) : Int))) : Int) ≤ 262144))) = true from by simpa using hc_72) ?_
      refine p16 (by kernel_rfl) ?_
      refine p5 (by kernel_rfl) ?_
      rcases bool_em ((c_64 : Int) == 5) (decide ((((((262143 + r_3)).toNat : Nat) : Int) : Int) > 262144)) with hc_73 | hc_73
      · refine sFix 61 (((c_64 : Int) == 5) == (decide ((((((262143 + r_3)).toNat : Nat) : Int) : Int) > 262144))) true (show (((c_64 : Int) == 5) == (decide ((((((262143 + r_3)).toNat : Nat) : Int) : Int) > 262144))) = true from by simpa using hc_73) ?_
        refine p4 (by kernel_rfl) ?_
        by_cases hc_74 : (c_64 : Int) = 0
        · refine sFix 65 ((c_64 : Int) != 0) false (bne_eq_false_iff_eq.2 hc_74) ?_
          refine p3 (by kernel_rfl) ?_
          refine nilO ?_
          refine thenK_n <| ?_
          refine retE ?_
          refine retN (vs := [.bool false]) rfl (.cons (.tmp _ _ (by kernel_rfl)) .nil) <| ?_
          first | omega
        · refine sFix 65 ((c_64 : Int) != 0) true (bne_iff_ne.2 hc_74) ?_
          refine guardYes rfl ⟨_, rfl, rfl, by kernel_rfl⟩ ?_
          refine sF #[] Try.call13 (Calls.mono (l19_sane W _ ([(b_67, .cells #[.slice q_62.inputs.a q_62.inputs.n q_62.inputs.k, .slice q_62.stages.a q_62.stages.n q_62.stages.k, .slice q_62.outputs.a q_62.outputs.n q_62.outputs.k, .int .i64 q_62.priority] 28 (0, 0))] :: G_63 :: c_55 :: [(b_10, .cells #[.slice none 0 0, .slice none 0 0, .slice (some ⟨b_5, 0, none⟩) (((32762 + r_3)).toNat) (((32762 + r_3)).toNat), .int .i64 0] 28 (0, 0))] :: c_6 :: H :: F) hS_71) ?_)
          rintro _ w_75 ⟨rfl, hS_76⟩
          refine ⟨_, rfl, ?_⟩
          try dsimp only [List.set, List.eraseIdx] at hS_76
          refine p2 (by kernel_rfl) ?_
          refine nilO ?_
          refine thenK_n <| ?_
          refine retE ?_
          refine retN (vs := [.bool true]) rfl (.cons (.tmp _ _ (by kernel_rfl)) .nil) <| ?_
          have hS_77 := hS_76.pick 5 rfl
          try dsimp only [List.set, List.eraseIdx] at hS_77
          have hS_78 := hS_77.dropAt 1 rfl
          have hS_79 := hS_78.dropAt 1 rfl
          have hS_80 := hS_79.dropAt 1 rfl
          have hS_81 := hS_80.dropAt 1 rfl
          have hS_82 := hS_81.dropAt 1 rfl
          exact ⟨rfl, hS_82⟩
      · refine sFix 61 (((c_64 : Int) == 5) == (decide ((((((262143 + r_3)).toNat : Nat) : Int) : Int) > 262144))) false (show (((c_64 : Int) == 5) == (decide ((((((262143 + r_3)).toNat : Nat) : Int) : Int) > 262144))) = false from by simpa using hc_73) ?_
        refine p7 (by kernel_rfl) ?_
        refine nilO ?_
        refine thenK_n <| ?_
        refine retE ?_
        refine retN (vs := [.bool false]) rfl (.cons (.tmp _ _ (by kernel_rfl)) .nil) <| ?_
        first | omega | (exact absurd (by rw [Bool.eq_iff_iff]; simp <;> omega) hc_73)
    · refine sFix 40 (false == (decide (((35 + (8 * ((((32762 + r_3)).toNat : Nat) : Int))) : Int) ≤ 262144))) false (show (false == (decide (((35 + (8 * ((((32762 + r_3)).toNat : Nat) : Int))) : Int) ≤ 262144))) = false from by simpa using hc_72) ?_
      refine p16 (by kernel_rfl) ?_
      refine p12 (by kernel_rfl) ?_
      refine nilO ?_
      refine thenK_n <| ?_
      refine retE ?_
      refine retN (vs := [.bool false]) rfl (.cons (.tmp _ _ (by kernel_rfl)) .nil) <| ?_
      first | omega | (exact absurd (by rw [Bool.eq_iff_iff]; simp <;> omega) hc_72)
end Go.Proofs.Ytcddcpaodcjecaa
