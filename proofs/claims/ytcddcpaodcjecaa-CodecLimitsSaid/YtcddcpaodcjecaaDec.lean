import Derived.Test.YtcddcpaodcjecaaRdr
import Derived.Test.YtcddcpaodcjecaaFun
namespace Go.Proofs.Ytcddcpaodcjecaa
open Go Go.E
set_option linter.unusedVariables false
set_option linter.unusedSimpArgs false
set_option linter.unnecessarySimpa false
set_option maxRecDepth 100000

theorem take3 {l : List Int} {x0 x1 x2 : Int} (h0 : l[0]? = some x0) (h1 : l[1]? = some x1) (h2 : l[2]? = some x2) : l = [x0, x1, x2] ++ l.drop 3 := by
  match l with
  | [] => simp at h0
  | [_] => simp at h1
  | [_, _] => simp at h2
  | a :: b :: c :: l => simp at h0 h1 h2; simp [*]
/-- What Decode returns for the bytes x: the job j and the code c. -/
structure DecR (x : List Int) (j : JobV) (c : Int) : Prop where
  ok : c = 0 → wfJob j ∧ x.length ≤ 262144 ∧ x = [84, 70, 1] ++ bytesOf (nJob j)
  bad : c ≠ 0 → j = ⟨[], [], [], 0⟩ ∧ c = (if 262144 < x.length then 5 else 4)
  all : x.length ≤ 262144 → ∀ j0, wfJob j0 → x = [84, 70, 1] ++ bytesOf (nJob j0) → c = 0
theorem DecR.big {x : List Int} (h : 262144 < x.length) : DecR x (Job.v ⟨⟨none, 0, 0, []⟩, ⟨none, 0, 0, []⟩, ⟨none, 0, 0, []⟩, 0⟩) 5 :=
  ⟨fun h => by omega, fun _ => ⟨rfl, by rw [if_pos h]⟩, fun h2 => by omega⟩
theorem DecR.head {x : List Int} (h : x.length ≤ 262144) (hn : x.length < 3 ∨ (∃ q, x[0]? = some q ∧ q ≠ 84) ∨ (∃ q, x[1]? = some q ∧ q ≠ 70) ∨ (∃ q, x[2]? = some q ∧ q ≠ 1)) : DecR x (Job.v ⟨⟨none, 0, 0, []⟩, ⟨none, 0, 0, []⟩, ⟨none, 0, 0, []⟩, 0⟩) 4 := by
  refine ⟨fun h => by omega, fun _ => ⟨rfl, by rw [if_neg (by omega)]⟩, fun _ j0 _ e => ?_⟩
  subst e
  rcases hn with h | ⟨q, h, h2⟩ | ⟨q, h, h2⟩ | ⟨q, h, h2⟩ <;> simp at h <;> omega
theorem DecR.fail {x r : List Int} {b : Bool} {j : JobV} (h : x.length ≤ 262144) (hx : x = [84, 70, 1] ++ x.drop 3) (hG : Got nJob wfJob (x.drop 3) false j r b) (hb : b = true ∨ 0 < r.length) : DecR x (Job.v ⟨⟨none, 0, 0, []⟩, ⟨none, 0, 0, []⟩, ⟨none, 0, 0, []⟩, 0⟩) 4 := by
  refine ⟨fun h => by omega, fun _ => ⟨rfl, by rw [if_neg (by omega)]⟩, fun _ j0 hw e => ?_⟩
  exfalso
  have e2 : x.drop 3 = bytesOf (nJob j0) ++ [] := by rw [e]; simp
  have h1 := hG.cmp rfl j0 [] hw e2
  rcases hb with h2 | h2
  · rw [h1] at h2; cases h2
  · obtain ⟨_, hw2, e3⟩ := hG.snd h1
    rw [e2] at e3
    have := (pfJob _ _ _ _ hw hw2 e3).2
    subst this; simp at h2
theorem DecR.good {x r : List Int} {b : Bool} {j : JobV} (h : x.length ≤ 262144) (hx : x = [84, 70, 1] ++ x.drop 3) (hG : Got nJob wfJob (x.drop 3) false j r b) (hb : b = false) (hr : r = []) : DecR x j 0 := by
  obtain ⟨_, hw, e⟩ := hG.snd hb
  refine ⟨fun _ => ⟨hw, h, ?_⟩, fun h => absurd rfl h, fun _ _ _ _ => rfl⟩
  rw [hr, List.append_nil] at e
  rw [← e]; exact hx
/-- Two answers for the same bytes agree. -/
theorem DecR.same {x : List Int} {j j' : JobV} {c c' : Int} (h : DecR x j c) (h' : DecR x j' c') : j = j' ∧ c = c' := by
  by_cases e : c = 0
  · obtain ⟨h1, h2, h3⟩ := h.ok e
    have e' := h'.all h2 j h1 h3
    obtain ⟨h4, _, h5⟩ := h'.ok e'
    rw [h3] at h5
    have h6 := (pfJob j j' [] [] h1 h4 (by simpa using h5)).1
    exact ⟨h6, by omega⟩
  · by_cases e' : c' = 0
    · obtain ⟨h1, h2, h3⟩ := h'.ok e'
      exact absurd (h.all h2 j' h1 h3) e
    · obtain ⟨h1, h2⟩ := h.bad e
      obtain ⟨h3, h4⟩ := h'.bad e'
      exact ⟨by rw [h1, h3], by rw [h2, h4]⟩
theorem rdr_plane (W w : World) (p : Nat) (H fp : Chunk) (F : List Chunk) (r : List Int) (b : Bool) (hI : RdrR 84 H p r b fp) (hS : Sat W w (fp :: H :: F)) :
    Calls Try.prog 55 #[.pointer (some ⟨p, 0, none⟩)] w fun e w' => ∃ (q : Plane) (G : Chunk) (r' : List Int) (b' : Bool), e = .returned (.agg #[.int .i64 q.w, .int .i64 q.h, .int .i64 q.max_, .slice q.pix.a q.pix.n q.pix.k]) ∧ Plane.Ok [G] q ∧ Got nPlane wfPlane r b q.v r' b' ∧ ∃ fp' : Chunk, RdrR 84 H p r' b' fp' ∧ Sat W w' (fp' :: G :: H :: F) := by
  refine callsE (n := 17) Try.func55 rfl rfl (Nat.le_of_ble_eq_true rfl) ?_
  refine seqE ?_
  refine regionE ?_
  refine sAlloc hS Try.zeroValue49 ?_
  intro b_1 w_2 hS_3
  try dsimp only [List.set, List.eraseIdx] at hS_3
  refine nilO ?_
  refine thenK_n <| ?_
  refine seqE ?_
  refine regionE ?_
  refine sAlloc hS_3 Try.zeroValue49 ?_
  intro b_4 w_5 hS_6
  try dsimp only [List.set, List.eraseIdx] at hS_6
  refine nilO ?_
  refine thenK_n <| ?_
  refine seqE ?_
  refine regionE ?_
  refine p1 (by kernel_rfl) ?_
  have hS_7 := hS_6.pick 3 rfl
  have hS_8 := hS_7.pick 3 rfl
  try dsimp only [List.set, List.eraseIdx] at hS_8
  refine sF #[.pointer (some ⟨p, 0, none⟩)] Try.call53 (Calls.mono (rdr_number W _ _ _ _ _ _ _ hI hS_8) ?_)
  rintro _ w_9 ⟨v_11, r_12, b_13, rfl, hG_15, hW_16, fp_14, hI_17, hS_10⟩
  refine ⟨_, rfl, ?_⟩
  try dsimp only [List.set, List.eraseIdx] at hS_10
  refine p1 (by kernel_rfl) ?_
  refine sT hS_10 2 0 (.int .i64 v_11) [.int .i64 v_11] #[.int .i64 v_11, .int .i64 0, .int .i64 0, .slice none 0 0] Try.sizeOf3 ?_
  intro w_18 hS_19
  try dsimp only [List.set, List.eraseIdx] at hS_19
  refine nilO ?_
  refine thenK_n <| ?_
  refine seqE ?_
  refine regionE ?_
  refine p1 (by kernel_rfl) ?_
  have hS_20 := hS_19.pick 1 rfl
  have hS_21 := hS_20.pick 1 rfl
  try dsimp only [List.set, List.eraseIdx] at hS_21
  refine sF #[.pointer (some ⟨p, 0, none⟩)] Try.call53 (Calls.mono (rdr_number W _ _ _ _ _ _ _ hI_17 hS_21) ?_)
  rintro _ w_22 ⟨v_24, r_25, b_26, rfl, hG_28, hW_29, fp_27, hI_30, hS_23⟩
  refine ⟨_, rfl, ?_⟩
  try dsimp only [List.set, List.eraseIdx] at hS_23
  refine p1 (by kernel_rfl) ?_
  refine sT hS_23 2 1 (.int .i64 v_24) [.int .i64 v_24] #[.int .i64 v_11, .int .i64 v_24, .int .i64 0, .slice none 0 0] Try.sizeOf3 ?_
  intro w_31 hS_32
  try dsimp only [List.set, List.eraseIdx] at hS_32
  refine nilO ?_
  refine thenK_n <| ?_
  refine seqE ?_
  refine regionE ?_
  refine p1 (by kernel_rfl) ?_
  have hS_33 := hS_32.pick 1 rfl
  have hS_34 := hS_33.pick 1 rfl
  try dsimp only [List.set, List.eraseIdx] at hS_34
  refine sF #[.pointer (some ⟨p, 0, none⟩)] Try.call53 (Calls.mono (rdr_number W _ _ _ _ _ _ _ hI_30 hS_34) ?_)
  rintro _ w_35 ⟨v_37, r_38, b_39, rfl, hG_41, hW_42, fp_40, hI_43, hS_36⟩
  refine ⟨_, rfl, ?_⟩
  try dsimp only [List.set, List.eraseIdx] at hS_36
  refine p1 (by kernel_rfl) ?_
  refine sT hS_36 2 2 (.int .i64 v_37) [.int .i64 v_37] #[.int .i64 v_11, .int .i64 v_24, .int .i64 v_37, .slice none 0 0] Try.sizeOf3 ?_
  intro w_44 hS_45
  try dsimp only [List.set, List.eraseIdx] at hS_45
  refine nilO ?_
  refine thenK_n <| ?_
  refine seqE ?_
  refine regionE ?_
  refine p1 (by kernel_rfl) ?_
  have hS_46 := hS_45.pick 1 rfl
  have hS_47 := hS_46.pick 1 rfl
  try dsimp only [List.set, List.eraseIdx] at hS_47
  refine sF #[.pointer (some ⟨p, 0, none⟩)] Try.call57 (Calls.mono (rdr_numbers W _ _ _ _ _ _ _ hI_43 hS_47) ?_)
  rintro _ w_48 ⟨a_50, n_51, k_52, xs_53, G_54, r_55, b_56, rfl, hR_58, hG_60, fp_57, hI_61, hS_49⟩
  refine ⟨_, rfl, ?_⟩
  try dsimp only [List.set, List.eraseIdx] at hS_49
  refine p1 (by kernel_rfl) ?_
  refine sT hS_49 3 3 (.slice a_50 n_51 k_52) [.slice a_50 n_51 k_52] #[.int .i64 v_11, .int .i64 v_24, .int .i64 v_37, .slice a_50 n_51 k_52] Try.sizeOf22 ?_
  intro w_62 hS_63
  try dsimp only [List.set, List.eraseIdx] at hS_63
  refine nilO ?_
  refine thenK_n <| ?_
  refine seqE ?_
  refine regionE ?_
  refine sLA hS_63 3 0 [.int .i64 v_11, .int .i64 v_24, .int .i64 v_37, .slice a_50 n_51 k_52] (Try.isAgg49 _) (Try.sizeOf49 _) ?_
  refine sT hS_63 4 0 (.agg #[.int .i64 v_11, .int .i64 v_24, .int .i64 v_37, .slice a_50 n_51 k_52]) [.int .i64 v_11, .int .i64 v_24, .int .i64 v_37, .slice a_50 n_51 k_52] #[.int .i64 v_11, .int .i64 v_24, .int .i64 v_37, .slice a_50 n_51 k_52] Try.sizeOf49 ?_
  intro w_64 hS_65
  try dsimp only [List.set, List.eraseIdx] at hS_65
  refine nilO ?_
  refine thenK_n <| ?_
  refine retE ?_
  refine retN (vs := [.agg #[.int .i64 v_11, .int .i64 v_24, .int .i64 v_37, .slice a_50 n_51 k_52]]) rfl (.cons (.cell _ _ _ _ (by kernel_rfl) (lvA hS_65 4 0 [.int .i64 v_11, .int .i64 v_24, .int .i64 v_37, .slice a_50 n_51 k_52] (Try.isAgg49 _) (Try.sizeOf49 _) rfl rfl rfl)) .nil) <| ?_
  have hS_66 := hS_65.pick 2 rfl
  have hS_67 := hS_66.pick 2 rfl
  have hS_68 := hS_67.pick 2 rfl
  try dsimp only [List.set, List.eraseIdx] at hS_68
  have hS_69 := hS_68.dropAt 3 rfl
  have hS_70 := hS_69.dropAt 3 rfl
  change Sat _ _ (fp_57 :: G_54 :: H :: F) at hS_70
  have hS_71 := (Sat.perm (cs' := fp_57 :: (G_54) :: H :: F) hS_70 (by simp))
  have hgot := Got.plane hG_15 hG_28 hG_41 hG_60
  exact ⟨(⟨v_11, v_24, v_37, ⟨a_50, n_51, k_52, xs_53⟩⟩ : Plane), _, _, _, rfl, ⟨hR_58.of_mem (fun p hp => by simp at hp ⊢; simp [hp])⟩, hgot, _, hI_61, hS_71⟩
theorem rdr_stage (W w : World) (p : Nat) (H fp : Chunk) (F : List Chunk) (r : List Int) (b : Bool) (hI : RdrR 84 H p r b fp) (hS : Sat W w (fp :: H :: F)) :
    Calls Try.prog 56 #[.pointer (some ⟨p, 0, none⟩)] w fun e w' => ∃ (q : Stage) (G : Chunk) (r' : List Int) (b' : Bool), e = .returned (.agg #[.int .i64 q.kind, .int .i64 q.a, .int .i64 q.b, .bool q.barrier, .int .i64 q.edgePolicy, .int .i64 q.edgeFill, .int .i64 q.kW, .int .i64 q.kH, .slice q.weights.a q.weights.n q.weights.k, .slice q.row.a q.row.n q.row.k, .slice q.col.a q.col.n q.col.k, .int .i64 q.shift, .int .i64 q.shift2, .slice q.x.a q.x.n q.x.k, .slice q.y.a q.y.n q.y.k, .int .i64 q.bins, .slice q.ops.a q.ops.n q.ops.k, .int .i64 q.max_]) ∧ Stage.Ok [G] q ∧ Got nStage wfStage r b q.v r' b' ∧ ∃ fp' : Chunk, RdrR 84 H p r' b' fp' ∧ Sat W w' (fp' :: G :: H :: F) := by
  refine callsE (n := 68) Try.func56 rfl rfl (Nat.le_of_ble_eq_true rfl) ?_
  refine seqE ?_
  refine regionE ?_
  refine sAlloc hS Try.zeroValue61 ?_
  intro b_1 w_2 hS_3
  try dsimp only [List.set, List.eraseIdx] at hS_3
  refine nilO ?_
  refine thenK_n <| ?_
  refine seqE ?_
  refine regionE ?_
  refine sAlloc hS_3 Try.zeroValue61 ?_
  intro b_4 w_5 hS_6
  try dsimp only [List.set, List.eraseIdx] at hS_6
  refine nilO ?_
  refine thenK_n <| ?_
  refine seqE ?_
  refine regionE ?_
  refine p1 (by kernel_rfl) ?_
  have hS_7 := hS_6.pick 3 rfl
  have hS_8 := hS_7.pick 3 rfl
  try dsimp only [List.set, List.eraseIdx] at hS_8
  refine sF #[.pointer (some ⟨p, 0, none⟩)] Try.call53 (Calls.mono (rdr_number W _ _ _ _ _ _ _ hI hS_8) ?_)
  rintro _ w_9 ⟨v_11, r_12, b_13, rfl, hG_15, hW_16, fp_14, hI_17, hS_10⟩
  refine ⟨_, rfl, ?_⟩
  try dsimp only [List.set, List.eraseIdx] at hS_10
  refine p1 (by kernel_rfl) ?_
  refine sT hS_10 2 0 (.int .i64 v_11) [.int .i64 v_11] #[.int .i64 v_11, .int .i64 0, .int .i64 0, .bool false, .int .i64 0, .int .i64 0, .int .i64 0, .int .i64 0, .slice none 0 0, .slice none 0 0, .slice none 0 0, .int .i64 0, .int .i64 0, .slice none 0 0, .slice none 0 0, .int .i64 0, .slice none 0 0, .int .i64 0] Try.sizeOf3 ?_
  intro w_18 hS_19
  try dsimp only [List.set, List.eraseIdx] at hS_19
  refine nilO ?_
  refine thenK_n <| ?_
  refine seqE ?_
  refine regionE ?_
  refine p1 (by kernel_rfl) ?_
  have hS_20 := hS_19.pick 1 rfl
  have hS_21 := hS_20.pick 1 rfl
  try dsimp only [List.set, List.eraseIdx] at hS_21
  refine sF #[.pointer (some ⟨p, 0, none⟩)] Try.call53 (Calls.mono (rdr_number W _ _ _ _ _ _ _ hI_17 hS_21) ?_)
  rintro _ w_22 ⟨v_24, r_25, b_26, rfl, hG_28, hW_29, fp_27, hI_30, hS_23⟩
  refine ⟨_, rfl, ?_⟩
  try dsimp only [List.set, List.eraseIdx] at hS_23
  refine p1 (by kernel_rfl) ?_
  refine sT hS_23 2 1 (.int .i64 v_24) [.int .i64 v_24] #[.int .i64 v_11, .int .i64 v_24, .int .i64 0, .bool false, .int .i64 0, .int .i64 0, .int .i64 0, .int .i64 0, .slice none 0 0, .slice none 0 0, .slice none 0 0, .int .i64 0, .int .i64 0, .slice none 0 0, .slice none 0 0, .int .i64 0, .slice none 0 0, .int .i64 0] Try.sizeOf3 ?_
  intro w_31 hS_32
  try dsimp only [List.set, List.eraseIdx] at hS_32
  refine nilO ?_
  refine thenK_n <| ?_
  refine seqE ?_
  refine regionE ?_
  refine p1 (by kernel_rfl) ?_
  have hS_33 := hS_32.pick 1 rfl
  have hS_34 := hS_33.pick 1 rfl
  try dsimp only [List.set, List.eraseIdx] at hS_34
  refine sF #[.pointer (some ⟨p, 0, none⟩)] Try.call53 (Calls.mono (rdr_number W _ _ _ _ _ _ _ hI_30 hS_34) ?_)
  rintro _ w_35 ⟨v_37, r_38, b_39, rfl, hG_41, hW_42, fp_40, hI_43, hS_36⟩
  refine ⟨_, rfl, ?_⟩
  try dsimp only [List.set, List.eraseIdx] at hS_36
  refine p1 (by kernel_rfl) ?_
  refine sT hS_36 2 2 (.int .i64 v_37) [.int .i64 v_37] #[.int .i64 v_11, .int .i64 v_24, .int .i64 v_37, .bool false, .int .i64 0, .int .i64 0, .int .i64 0, .int .i64 0, .slice none 0 0, .slice none 0 0, .slice none 0 0, .int .i64 0, .int .i64 0, .slice none 0 0, .slice none 0 0, .int .i64 0, .slice none 0 0, .int .i64 0] Try.sizeOf3 ?_
  intro w_44 hS_45
  try dsimp only [List.set, List.eraseIdx] at hS_45
  refine nilO ?_
  refine thenK_n <| ?_
  refine cutE (fun ρ w => ∃ (bar : Bool) (rb : List Int) (bb : Bool) (fpb : Chunk), AllAt ρ [(0, .pointer (some ⟨p, 0, none⟩)), (2, .pointer (some ⟨b_1, 0, none⟩)), (3, .pointer (some ⟨b_4, 0, none⟩))] ∧ Sat W w (fpb :: [(b_4, .cells #[.int .i64 v_11, .int .i64 v_24, .int .i64 v_37, .bool bar, .int .i64 0, .int .i64 0, .int .i64 0, .int .i64 0, .slice none 0 0, .slice none 0 0, .slice none 0 0, .int .i64 0, .int .i64 0, .slice none 0 0, .slice none 0 0, .int .i64 0, .slice none 0 0, .int .i64 0] 61 (0, 0))] :: [(b_1, .cells #[.int .i64 0, .int .i64 0, .int .i64 0, .bool false, .int .i64 0, .int .i64 0, .int .i64 0, .int .i64 0, .slice none 0 0, .slice none 0 0, .slice none 0 0, .int .i64 0, .int .i64 0, .slice none 0 0, .slice none 0 0, .int .i64 0, .slice none 0 0, .int .i64 0] 61 (0, 0))] :: H :: F) ∧ Got encBo wfBo r_38 b_39 bar rb bb ∧ RdrR 84 H p rb bb fpb) ?_ ?_
  · refine seqE ?_
    refine regionE ?_
    refine p1 (by kernel_rfl) ?_
    have hS_46 := hS_45.pick 1 rfl
    have hS_47 := hS_46.pick 1 rfl
    try dsimp only [List.set, List.eraseIdx] at hS_47
    refine sF #[.pointer (some ⟨p, 0, none⟩)] Try.call53 (Calls.mono (rdr_number W _ _ _ _ _ _ _ hI_43 hS_47) ?_)
    rintro _ w_48 ⟨v_50, r_51, b_52, rfl, hG_54, hW_55, fp_53, hI_56, hS_49⟩
    refine ⟨_, rfl, ?_⟩
    try dsimp only [List.set, List.eraseIdx] at hS_49
    refine nilO ?_
    refine thenK_n <| ?_
    refine blockE ?_
    refine seqE ?_
    refine regionE ?_
    refine p2 (by kernel_rfl) ?_
    refine nilO ?_
    refine thenK_n <| ?_
    by_cases hc_57 : (v_50 : Int) = 0
    · refine cT ((v_50 : Int) == 0) (beq_iff_eq.2 hc_57) ?_
      refine skipE ?_
      refine blockK_n <| thenK_n <| ?_
      have hS_58 := hS_49.pick 1 rfl
      have hS_59 := hS_58.pick 3 rfl
      have hS_60 := hS_59.pick 3 rfl
      have hS_61 := hS_60.pick 3 rfl
      try dsimp only [List.set, List.eraseIdx] at hS_61
      try dsimp only [List.set, List.eraseIdx] at hS_61
      exact ⟨false, r_51, b_52, fp_53, ⟨by kernel_rfl, by kernel_rfl, by kernel_rfl, trivial⟩, hS_61, Got.bool false hG_54 (by simp only [nBool, if_true, if_false, Bool.false_eq_true]; omega), hI_56⟩
    · refine cF ((v_50 : Int) == 0) (beq_eq_false_iff_ne.2 hc_57) ?_
      refine seqE ?_
      refine regionE ?_
      refine p2 (by kernel_rfl) ?_
      refine nilO ?_
      refine thenK_n <| ?_
      by_cases hc_62 : (v_50 : Int) = 1
      · refine cT ((v_50 : Int) == 1) (beq_iff_eq.2 hc_62) ?_
        refine regionE ?_
        refine p1 (by kernel_rfl) ?_
        refine sT hS_49 2 3 (.bool true) [.bool true] #[.int .i64 v_11, .int .i64 v_24, .int .i64 v_37, .bool true, .int .i64 0, .int .i64 0, .int .i64 0, .int .i64 0, .slice none 0 0, .slice none 0 0, .slice none 0 0, .int .i64 0, .int .i64 0, .slice none 0 0, .slice none 0 0, .int .i64 0, .slice none 0 0, .int .i64 0] Try.sizeOf4 ?_
        intro w_63 hS_64
        try dsimp only [List.set, List.eraseIdx] at hS_64
        refine nilO ?_
        refine blockK_n <| thenK_n <| ?_
        have hS_65 := hS_64.pick 1 rfl
        have hS_66 := hS_65.pick 3 rfl
        have hS_67 := hS_66.pick 3 rfl
        have hS_68 := hS_67.pick 3 rfl
        try dsimp only [List.set, List.eraseIdx] at hS_68
        try dsimp only [List.set, List.eraseIdx] at hS_68
        exact ⟨true, r_51, b_52, fp_53, ⟨by kernel_rfl, by kernel_rfl, by kernel_rfl, trivial⟩, hS_68, Got.bool true hG_54 (by simp only [nBool, if_true, if_false, Bool.false_eq_true]; omega), hI_56⟩
      · refine cF ((v_50 : Int) == 1) (beq_eq_false_iff_ne.2 hc_62) ?_
        try dsimp only [List.set, List.eraseIdx] at hS_49
        obtain ⟨a_69, n_70, k_71, rfl, hR_72, hB_73⟩ := hI_56
        have hll_a_69 := hR_72.len; have hle_a_69 := hR_72.le
        refine regionE ?_
        refine p3 (by kernel_rfl) ?_
        refine sT hS_49 0 1 (.bool true) [.bool true] #[.slice a_69 n_70 k_71, .bool true] Try.sizeOf4 ?_
        intro w_74 hS_75
        try dsimp only [List.set, List.eraseIdx] at hS_75
        refine nilO ?_
        refine blockK_n <| thenK_n <| ?_
        have hI_76 : RdrR 84 H p r_51 true [(p, .cells #[.slice a_69 n_70 k_71, .bool true] 84 (0, 0))] := ⟨_, _, _, rfl, hR_72, hB_73⟩
        have hS_77 := hS_75.pick 1 rfl
        have hS_78 := hS_77.pick 3 rfl
        have hS_79 := hS_78.pick 3 rfl
        have hS_80 := hS_79.pick 3 rfl
        try dsimp only [List.set, List.eraseIdx] at hS_80
        try dsimp only [List.set, List.eraseIdx] at hS_80
        exact ⟨false, r_51, true, [(p, .cells #[.slice a_69 n_70 k_71, .bool true] 84 (0, 0))], ⟨by kernel_rfl, by kernel_rfl, by kernel_rfl, trivial⟩, hS_80, Got.boolbad false hG_54 (by omega) (by omega), hI_76⟩
  · rintro ρ w_81 ⟨bar, rb, bb, fpb, hA, hS_82, hGb, hIb⟩
    refine cAnchor hA (fun ρ => ?_)
    clear hA
    refine seqE ?_
    refine regionE ?_
    refine p1 (by kernel_rfl) ?_
    have hS_83 := hS_82.pick 3 rfl
    have hS_84 := hS_83.pick 1 rfl
    try dsimp only [List.set, List.eraseIdx] at hS_84
    refine sF #[.pointer (some ⟨p, 0, none⟩)] Try.call53 (Calls.mono (rdr_number W _ _ _ _ _ _ _ hIb hS_84) ?_)
    rintro _ w_85 ⟨v_87, r_88, b_89, rfl, hG_91, hW_92, fp_90, hI_93, hS_86⟩
    refine ⟨_, rfl, ?_⟩
    try dsimp only [List.set, List.eraseIdx] at hS_86
    refine p2 (by kernel_rfl) ?_
    refine sT hS_86 2 4 (.int .i64 v_87) [.int .i64 v_87] #[.int .i64 v_11, .int .i64 v_24, .int .i64 v_37, .bool bar, .int .i64 v_87, .int .i64 0, .int .i64 0, .int .i64 0, .slice none 0 0, .slice none 0 0, .slice none 0 0, .int .i64 0, .int .i64 0, .slice none 0 0, .slice none 0 0, .int .i64 0, .slice none 0 0, .int .i64 0] Try.sizeOf3 ?_
    intro w_94 hS_95
    try dsimp only [List.set, List.eraseIdx] at hS_95
    refine nilO ?_
    refine thenK_n <| ?_
    refine seqE ?_
    refine regionE ?_
    refine p1 (by kernel_rfl) ?_
    have hS_96 := hS_95.pick 1 rfl
    have hS_97 := hS_96.pick 1 rfl
    try dsimp only [List.set, List.eraseIdx] at hS_97
    refine sF #[.pointer (some ⟨p, 0, none⟩)] Try.call53 (Calls.mono (rdr_number W _ _ _ _ _ _ _ hI_93 hS_97) ?_)
    rintro _ w_98 ⟨v_100, r_101, b_102, rfl, hG_104, hW_105, fp_103, hI_106, hS_99⟩
    refine ⟨_, rfl, ?_⟩
    try dsimp only [List.set, List.eraseIdx] at hS_99
    refine p2 (by kernel_rfl) ?_
    refine sT hS_99 2 5 (.int .i64 v_100) [.int .i64 v_100] #[.int .i64 v_11, .int .i64 v_24, .int .i64 v_37, .bool bar, .int .i64 v_87, .int .i64 v_100, .int .i64 0, .int .i64 0, .slice none 0 0, .slice none 0 0, .slice none 0 0, .int .i64 0, .int .i64 0, .slice none 0 0, .slice none 0 0, .int .i64 0, .slice none 0 0, .int .i64 0] Try.sizeOf3 ?_
    intro w_107 hS_108
    try dsimp only [List.set, List.eraseIdx] at hS_108
    refine nilO ?_
    refine thenK_n <| ?_
    refine seqE ?_
    refine regionE ?_
    refine p1 (by kernel_rfl) ?_
    have hS_109 := hS_108.pick 1 rfl
    have hS_110 := hS_109.pick 1 rfl
    try dsimp only [List.set, List.eraseIdx] at hS_110
    refine sF #[.pointer (some ⟨p, 0, none⟩)] Try.call53 (Calls.mono (rdr_number W _ _ _ _ _ _ _ hI_106 hS_110) ?_)
    rintro _ w_111 ⟨v_113, r_114, b_115, rfl, hG_117, hW_118, fp_116, hI_119, hS_112⟩
    refine ⟨_, rfl, ?_⟩
    try dsimp only [List.set, List.eraseIdx] at hS_112
    refine p1 (by kernel_rfl) ?_
    refine sT hS_112 2 6 (.int .i64 v_113) [.int .i64 v_113] #[.int .i64 v_11, .int .i64 v_24, .int .i64 v_37, .bool bar, .int .i64 v_87, .int .i64 v_100, .int .i64 v_113, .int .i64 0, .slice none 0 0, .slice none 0 0, .slice none 0 0, .int .i64 0, .int .i64 0, .slice none 0 0, .slice none 0 0, .int .i64 0, .slice none 0 0, .int .i64 0] Try.sizeOf3 ?_
    intro w_120 hS_121
    try dsimp only [List.set, List.eraseIdx] at hS_121
    refine nilO ?_
    refine thenK_n <| ?_
    refine seqE ?_
    refine regionE ?_
    refine p1 (by kernel_rfl) ?_
    have hS_122 := hS_121.pick 1 rfl
    have hS_123 := hS_122.pick 1 rfl
    try dsimp only [List.set, List.eraseIdx] at hS_123
    refine sF #[.pointer (some ⟨p, 0, none⟩)] Try.call53 (Calls.mono (rdr_number W _ _ _ _ _ _ _ hI_119 hS_123) ?_)
    rintro _ w_124 ⟨v_126, r_127, b_128, rfl, hG_130, hW_131, fp_129, hI_132, hS_125⟩
    refine ⟨_, rfl, ?_⟩
    try dsimp only [List.set, List.eraseIdx] at hS_125
    refine p1 (by kernel_rfl) ?_
    refine sT hS_125 2 7 (.int .i64 v_126) [.int .i64 v_126] #[.int .i64 v_11, .int .i64 v_24, .int .i64 v_37, .bool bar, .int .i64 v_87, .int .i64 v_100, .int .i64 v_113, .int .i64 v_126, .slice none 0 0, .slice none 0 0, .slice none 0 0, .int .i64 0, .int .i64 0, .slice none 0 0, .slice none 0 0, .int .i64 0, .slice none 0 0, .int .i64 0] Try.sizeOf3 ?_
    intro w_133 hS_134
    try dsimp only [List.set, List.eraseIdx] at hS_134
    refine nilO ?_
    refine thenK_n <| ?_
    refine seqE ?_
    refine regionE ?_
    refine p1 (by kernel_rfl) ?_
    have hS_135 := hS_134.pick 1 rfl
    have hS_136 := hS_135.pick 1 rfl
    try dsimp only [List.set, List.eraseIdx] at hS_136
    refine sF #[.pointer (some ⟨p, 0, none⟩)] Try.call57 (Calls.mono (rdr_numbers W _ _ _ _ _ _ _ hI_132 hS_136) ?_)
    rintro _ w_137 ⟨a_139, n_140, k_141, xs_142, G_143, r_144, b_145, rfl, hR_147, hG_149, fp_146, hI_150, hS_138⟩
    refine ⟨_, rfl, ?_⟩
    try dsimp only [List.set, List.eraseIdx] at hS_138
    refine p1 (by kernel_rfl) ?_
    refine sT hS_138 3 8 (.slice a_139 n_140 k_141) [.slice a_139 n_140 k_141] #[.int .i64 v_11, .int .i64 v_24, .int .i64 v_37, .bool bar, .int .i64 v_87, .int .i64 v_100, .int .i64 v_113, .int .i64 v_126, .slice a_139 n_140 k_141, .slice none 0 0, .slice none 0 0, .int .i64 0, .int .i64 0, .slice none 0 0, .slice none 0 0, .int .i64 0, .slice none 0 0, .int .i64 0] Try.sizeOf22 ?_
    intro w_151 hS_152
    try dsimp only [List.set, List.eraseIdx] at hS_152
    refine nilO ?_
    refine thenK_n <| ?_
    refine seqE ?_
    refine regionE ?_
    refine p1 (by kernel_rfl) ?_
    have hS_153 := hS_152.pick 2 rfl
    have hS_154 := hS_153.pick 1 rfl
    try dsimp only [List.set, List.eraseIdx] at hS_154
    refine sF #[.pointer (some ⟨p, 0, none⟩)] Try.call57 (Calls.mono (rdr_numbers W _ _ _ _ _ _ _ hI_150 hS_154) ?_)
    rintro _ w_155 ⟨a_157, n_158, k_159, xs_160, G_161, r_162, b_163, rfl, hR_165, hG_167, fp_164, hI_168, hS_156⟩
    refine ⟨_, rfl, ?_⟩
    try dsimp only [List.set, List.eraseIdx] at hS_156
    refine p1 (by kernel_rfl) ?_
    refine sT hS_156 4 9 (.slice a_157 n_158 k_159) [.slice a_157 n_158 k_159] #[.int .i64 v_11, .int .i64 v_24, .int .i64 v_37, .bool bar, .int .i64 v_87, .int .i64 v_100, .int .i64 v_113, .int .i64 v_126, .slice a_139 n_140 k_141, .slice a_157 n_158 k_159, .slice none 0 0, .int .i64 0, .int .i64 0, .slice none 0 0, .slice none 0 0, .int .i64 0, .slice none 0 0, .int .i64 0] Try.sizeOf22 ?_
    intro w_169 hS_170
    try dsimp only [List.set, List.eraseIdx] at hS_170
    refine nilO ?_
    refine thenK_n <| ?_
    refine seqE ?_
    refine regionE ?_
    refine p1 (by kernel_rfl) ?_
    have hS_171 := hS_170.pick 2 rfl
    have hS_172 := hS_171.pick 1 rfl
    try dsimp only [List.set, List.eraseIdx] at hS_172
    refine sF #[.pointer (some ⟨p, 0, none⟩)] Try.call57 (Calls.mono (rdr_numbers W _ _ _ _ _ _ _ hI_168 hS_172) ?_)
    rintro _ w_173 ⟨a_175, n_176, k_177, xs_178, G_179, r_180, b_181, rfl, hR_183, hG_185, fp_182, hI_186, hS_174⟩
    refine ⟨_, rfl, ?_⟩
    try dsimp only [List.set, List.eraseIdx] at hS_174
    refine p1 (by kernel_rfl) ?_
    refine sT hS_174 5 10 (.slice a_175 n_176 k_177) [.slice a_175 n_176 k_177] #[.int .i64 v_11, .int .i64 v_24, .int .i64 v_37, .bool bar, .int .i64 v_87, .int .i64 v_100, .int .i64 v_113, .int .i64 v_126, .slice a_139 n_140 k_141, .slice a_157 n_158 k_159, .slice a_175 n_176 k_177, .int .i64 0, .int .i64 0, .slice none 0 0, .slice none 0 0, .int .i64 0, .slice none 0 0, .int .i64 0] Try.sizeOf22 ?_
    intro w_187 hS_188
    try dsimp only [List.set, List.eraseIdx] at hS_188
    refine nilO ?_
    refine thenK_n <| ?_
    refine seqE ?_
    refine regionE ?_
    refine p1 (by kernel_rfl) ?_
    have hS_189 := hS_188.pick 2 rfl
    have hS_190 := hS_189.pick 1 rfl
    try dsimp only [List.set, List.eraseIdx] at hS_190
    refine sF #[.pointer (some ⟨p, 0, none⟩)] Try.call53 (Calls.mono (rdr_number W _ _ _ _ _ _ _ hI_186 hS_190) ?_)
    rintro _ w_191 ⟨v_193, r_194, b_195, rfl, hG_197, hW_198, fp_196, hI_199, hS_192⟩
    refine ⟨_, rfl, ?_⟩
    try dsimp only [List.set, List.eraseIdx] at hS_192
    refine p1 (by kernel_rfl) ?_
    refine sT hS_192 5 11 (.int .i64 v_193) [.int .i64 v_193] #[.int .i64 v_11, .int .i64 v_24, .int .i64 v_37, .bool bar, .int .i64 v_87, .int .i64 v_100, .int .i64 v_113, .int .i64 v_126, .slice a_139 n_140 k_141, .slice a_157 n_158 k_159, .slice a_175 n_176 k_177, .int .i64 v_193, .int .i64 0, .slice none 0 0, .slice none 0 0, .int .i64 0, .slice none 0 0, .int .i64 0] Try.sizeOf3 ?_
    intro w_200 hS_201
    try dsimp only [List.set, List.eraseIdx] at hS_201
    refine nilO ?_
    refine thenK_n <| ?_
    refine seqE ?_
    refine regionE ?_
    refine p1 (by kernel_rfl) ?_
    have hS_202 := hS_201.pick 1 rfl
    have hS_203 := hS_202.pick 1 rfl
    try dsimp only [List.set, List.eraseIdx] at hS_203
    refine sF #[.pointer (some ⟨p, 0, none⟩)] Try.call53 (Calls.mono (rdr_number W _ _ _ _ _ _ _ hI_199 hS_203) ?_)
    rintro _ w_204 ⟨v_206, r_207, b_208, rfl, hG_210, hW_211, fp_209, hI_212, hS_205⟩
    refine ⟨_, rfl, ?_⟩
    try dsimp only [List.set, List.eraseIdx] at hS_205
    refine p1 (by kernel_rfl) ?_
    refine sT hS_205 5 12 (.int .i64 v_206) [.int .i64 v_206] #[.int .i64 v_11, .int .i64 v_24, .int .i64 v_37, .bool bar, .int .i64 v_87, .int .i64 v_100, .int .i64 v_113, .int .i64 v_126, .slice a_139 n_140 k_141, .slice a_157 n_158 k_159, .slice a_175 n_176 k_177, .int .i64 v_193, .int .i64 v_206, .slice none 0 0, .slice none 0 0, .int .i64 0, .slice none 0 0, .int .i64 0] Try.sizeOf3 ?_
    intro w_213 hS_214
    try dsimp only [List.set, List.eraseIdx] at hS_214
    refine nilO ?_
    refine thenK_n <| ?_
    refine seqE ?_
    refine regionE ?_
    refine p1 (by kernel_rfl) ?_
    have hS_215 := hS_214.pick 1 rfl
    have hS_216 := hS_215.pick 1 rfl
    try dsimp only [List.set, List.eraseIdx] at hS_216
    refine sF #[.pointer (some ⟨p, 0, none⟩)] Try.call65 (Calls.mono (rdr_taps W _ _ _ _ _ _ _ hI_212 hS_216) ?_)
    rintro _ w_217 ⟨a_219, n_220, k_221, xs_222, G_223, r_224, b_225, rfl, hR_227, hD_228, hG_229, fp_226, hI_230, hS_218⟩
    refine ⟨_, rfl, ?_⟩
    try dsimp only [List.set, List.eraseIdx] at hS_218
    refine p1 (by kernel_rfl) ?_
    refine sT hS_218 6 13 (.slice a_219 n_220 k_221) [.slice a_219 n_220 k_221] #[.int .i64 v_11, .int .i64 v_24, .int .i64 v_37, .bool bar, .int .i64 v_87, .int .i64 v_100, .int .i64 v_113, .int .i64 v_126, .slice a_139 n_140 k_141, .slice a_157 n_158 k_159, .slice a_175 n_176 k_177, .int .i64 v_193, .int .i64 v_206, .slice a_219 n_220 k_221, .slice none 0 0, .int .i64 0, .slice none 0 0, .int .i64 0] Try.sizeOf58 ?_
    intro w_231 hS_232
    try dsimp only [List.set, List.eraseIdx] at hS_232
    refine nilO ?_
    refine thenK_n <| ?_
    refine seqE ?_
    refine regionE ?_
    refine p1 (by kernel_rfl) ?_
    have hS_233 := hS_232.pick 2 rfl
    have hS_234 := hS_233.pick 1 rfl
    try dsimp only [List.set, List.eraseIdx] at hS_234
    refine sF #[.pointer (some ⟨p, 0, none⟩)] Try.call65 (Calls.mono (rdr_taps W _ _ _ _ _ _ _ hI_230 hS_234) ?_)
    rintro _ w_235 ⟨a_237, n_238, k_239, xs_240, G_241, r_242, b_243, rfl, hR_245, hD_246, hG_247, fp_244, hI_248, hS_236⟩
    refine ⟨_, rfl, ?_⟩
    try dsimp only [List.set, List.eraseIdx] at hS_236
    refine p1 (by kernel_rfl) ?_
    refine sT hS_236 7 14 (.slice a_237 n_238 k_239) [.slice a_237 n_238 k_239] #[.int .i64 v_11, .int .i64 v_24, .int .i64 v_37, .bool bar, .int .i64 v_87, .int .i64 v_100, .int .i64 v_113, .int .i64 v_126, .slice a_139 n_140 k_141, .slice a_157 n_158 k_159, .slice a_175 n_176 k_177, .int .i64 v_193, .int .i64 v_206, .slice a_219 n_220 k_221, .slice a_237 n_238 k_239, .int .i64 0, .slice none 0 0, .int .i64 0] Try.sizeOf58 ?_
    intro w_249 hS_250
    try dsimp only [List.set, List.eraseIdx] at hS_250
    refine nilO ?_
    refine thenK_n <| ?_
    refine seqE ?_
    refine regionE ?_
    refine p1 (by kernel_rfl) ?_
    have hS_251 := hS_250.pick 2 rfl
    have hS_252 := hS_251.pick 1 rfl
    try dsimp only [List.set, List.eraseIdx] at hS_252
    refine sF #[.pointer (some ⟨p, 0, none⟩)] Try.call53 (Calls.mono (rdr_number W _ _ _ _ _ _ _ hI_248 hS_252) ?_)
    rintro _ w_253 ⟨v_255, r_256, b_257, rfl, hG_259, hW_260, fp_258, hI_261, hS_254⟩
    refine ⟨_, rfl, ?_⟩
    try dsimp only [List.set, List.eraseIdx] at hS_254
    refine p1 (by kernel_rfl) ?_
    refine sT hS_254 7 15 (.int .i64 v_255) [.int .i64 v_255] #[.int .i64 v_11, .int .i64 v_24, .int .i64 v_37, .bool bar, .int .i64 v_87, .int .i64 v_100, .int .i64 v_113, .int .i64 v_126, .slice a_139 n_140 k_141, .slice a_157 n_158 k_159, .slice a_175 n_176 k_177, .int .i64 v_193, .int .i64 v_206, .slice a_219 n_220 k_221, .slice a_237 n_238 k_239, .int .i64 v_255, .slice none 0 0, .int .i64 0] Try.sizeOf3 ?_
    intro w_262 hS_263
    try dsimp only [List.set, List.eraseIdx] at hS_263
    refine nilO ?_
    refine thenK_n <| ?_
    refine seqE ?_
    refine regionE ?_
    refine p1 (by kernel_rfl) ?_
    have hS_264 := hS_263.pick 1 rfl
    have hS_265 := hS_264.pick 1 rfl
    try dsimp only [List.set, List.eraseIdx] at hS_265
    refine sF #[.pointer (some ⟨p, 0, none⟩)] Try.call66 (Calls.mono (rdr_ops W _ _ _ _ _ _ _ hI_261 hS_265) ?_)
    rintro _ w_266 ⟨a_268, n_269, k_270, xs_271, G_272, r_273, b_274, rfl, hR_276, hG_278, fp_275, hI_279, hS_267⟩
    refine ⟨_, rfl, ?_⟩
    try dsimp only [List.set, List.eraseIdx] at hS_267
    refine p1 (by kernel_rfl) ?_
    refine sT hS_267 8 16 (.slice a_268 n_269 k_270) [.slice a_268 n_269 k_270] #[.int .i64 v_11, .int .i64 v_24, .int .i64 v_37, .bool bar, .int .i64 v_87, .int .i64 v_100, .int .i64 v_113, .int .i64 v_126, .slice a_139 n_140 k_141, .slice a_157 n_158 k_159, .slice a_175 n_176 k_177, .int .i64 v_193, .int .i64 v_206, .slice a_219 n_220 k_221, .slice a_237 n_238 k_239, .int .i64 v_255, .slice a_268 n_269 k_270, .int .i64 0] Try.sizeOf59 ?_
    intro w_280 hS_281
    try dsimp only [List.set, List.eraseIdx] at hS_281
    refine nilO ?_
    refine thenK_n <| ?_
    refine seqE ?_
    refine regionE ?_
    refine p1 (by kernel_rfl) ?_
    have hS_282 := hS_281.pick 2 rfl
    have hS_283 := hS_282.pick 1 rfl
    try dsimp only [List.set, List.eraseIdx] at hS_283
    refine sF #[.pointer (some ⟨p, 0, none⟩)] Try.call53 (Calls.mono (rdr_number W _ _ _ _ _ _ _ hI_279 hS_283) ?_)
    rintro _ w_284 ⟨v_286, r_287, b_288, rfl, hG_290, hW_291, fp_289, hI_292, hS_285⟩
    refine ⟨_, rfl, ?_⟩
    try dsimp only [List.set, List.eraseIdx] at hS_285
    refine p1 (by kernel_rfl) ?_
    refine sT hS_285 8 17 (.int .i64 v_286) [.int .i64 v_286] #[.int .i64 v_11, .int .i64 v_24, .int .i64 v_37, .bool bar, .int .i64 v_87, .int .i64 v_100, .int .i64 v_113, .int .i64 v_126, .slice a_139 n_140 k_141, .slice a_157 n_158 k_159, .slice a_175 n_176 k_177, .int .i64 v_193, .int .i64 v_206, .slice a_219 n_220 k_221, .slice a_237 n_238 k_239, .int .i64 v_255, .slice a_268 n_269 k_270, .int .i64 v_286] Try.sizeOf3 ?_
    intro w_293 hS_294
    try dsimp only [List.set, List.eraseIdx] at hS_294
    refine nilO ?_
    refine thenK_n <| ?_
    refine seqE ?_
    refine regionE ?_
    refine sLA hS_294 8 0 [.int .i64 v_11, .int .i64 v_24, .int .i64 v_37, .bool bar, .int .i64 v_87, .int .i64 v_100, .int .i64 v_113, .int .i64 v_126, .slice a_139 n_140 k_141, .slice a_157 n_158 k_159, .slice a_175 n_176 k_177, .int .i64 v_193, .int .i64 v_206, .slice a_219 n_220 k_221, .slice a_237 n_238 k_239, .int .i64 v_255, .slice a_268 n_269 k_270, .int .i64 v_286] (Try.isAgg61 _) (Try.sizeOf61 _) ?_
    refine sT hS_294 9 0 (.agg #[.int .i64 v_11, .int .i64 v_24, .int .i64 v_37, .bool bar, .int .i64 v_87, .int .i64 v_100, .int .i64 v_113, .int .i64 v_126, .slice a_139 n_140 k_141, .slice a_157 n_158 k_159, .slice a_175 n_176 k_177, .int .i64 v_193, .int .i64 v_206, .slice a_219 n_220 k_221, .slice a_237 n_238 k_239, .int .i64 v_255, .slice a_268 n_269 k_270, .int .i64 v_286]) [.int .i64 v_11, .int .i64 v_24, .int .i64 v_37, .bool bar, .int .i64 v_87, .int .i64 v_100, .int .i64 v_113, .int .i64 v_126, .slice a_139 n_140 k_141, .slice a_157 n_158 k_159, .slice a_175 n_176 k_177, .int .i64 v_193, .int .i64 v_206, .slice a_219 n_220 k_221, .slice a_237 n_238 k_239, .int .i64 v_255, .slice a_268 n_269 k_270, .int .i64 v_286] #[.int .i64 v_11, .int .i64 v_24, .int .i64 v_37, .bool bar, .int .i64 v_87, .int .i64 v_100, .int .i64 v_113, .int .i64 v_126, .slice a_139 n_140 k_141, .slice a_157 n_158 k_159, .slice a_175 n_176 k_177, .int .i64 v_193, .int .i64 v_206, .slice a_219 n_220 k_221, .slice a_237 n_238 k_239, .int .i64 v_255, .slice a_268 n_269 k_270, .int .i64 v_286] Try.sizeOf61 ?_
    intro w_295 hS_296
    try dsimp only [List.set, List.eraseIdx] at hS_296
    refine nilO ?_
    refine thenK_n <| ?_
    refine retE ?_
    refine retN (vs := [.agg #[.int .i64 v_11, .int .i64 v_24, .int .i64 v_37, .bool bar, .int .i64 v_87, .int .i64 v_100, .int .i64 v_113, .int .i64 v_126, .slice a_139 n_140 k_141, .slice a_157 n_158 k_159, .slice a_175 n_176 k_177, .int .i64 v_193, .int .i64 v_206, .slice a_219 n_220 k_221, .slice a_237 n_238 k_239, .int .i64 v_255, .slice a_268 n_269 k_270, .int .i64 v_286]]) rfl (.cons (.cell _ _ _ _ (by kernel_rfl) (lvA hS_296 9 0 [.int .i64 v_11, .int .i64 v_24, .int .i64 v_37, .bool bar, .int .i64 v_87, .int .i64 v_100, .int .i64 v_113, .int .i64 v_126, .slice a_139 n_140 k_141, .slice a_157 n_158 k_159, .slice a_175 n_176 k_177, .int .i64 v_193, .int .i64 v_206, .slice a_219 n_220 k_221, .slice a_237 n_238 k_239, .int .i64 v_255, .slice a_268 n_269 k_270, .int .i64 v_286] (Try.isAgg61 _) (Try.sizeOf61 _) rfl rfl rfl)) .nil) <| ?_
    have hS_297 := hS_296.pick 1 rfl
    have hS_298 := hS_297.pick 2 rfl
    have hS_299 := hS_298.pick 3 rfl
    have hS_300 := hS_299.pick 4 rfl
    have hS_301 := hS_300.pick 5 rfl
    have hS_302 := hS_301.pick 6 rfl
    have hS_303 := hS_302.pick 7 rfl
    have hS_304 := hS_303.pick 7 rfl
    try dsimp only [List.set, List.eraseIdx] at hS_304
    have hS_305 := hS_304.dropAt 8 rfl
    have hS_306 := hS_305.dropAt 8 rfl
    change Sat _ _ (fp_289 :: G_143 :: G_161 :: G_179 :: G_223 :: G_241 :: G_272 :: H :: F) at hS_306
    have hS_307 := (Sat.perm (cs' := fp_289 :: (G_143 ++ G_161 ++ G_179 ++ G_223 ++ G_241 ++ G_272) :: H :: F) hS_306 (by simp))
    have hgot := Got.stage hG_15 hG_28 hG_41 hGb hG_91 hG_104 hG_117 hG_130 hG_149 hG_167 hG_185 hG_197 hG_210 hG_229 hG_247 hG_259 hG_278 hG_290
    exact ⟨(⟨v_11, v_24, v_37, bar, v_87, v_100, v_113, v_126, ⟨a_139, n_140, k_141, xs_142⟩, ⟨a_157, n_158, k_159, xs_160⟩, ⟨a_175, n_176, k_177, xs_178⟩, v_193, v_206, ⟨a_219, n_220, k_221, xs_222⟩, ⟨a_237, n_238, k_239, xs_240⟩, v_255, ⟨a_268, n_269, k_270, xs_271⟩, v_286⟩ : Stage), _, _, _, rfl, ⟨hR_147.of_mem (fun p hp => by simp at hp ⊢; simp [hp]), hR_165.of_mem (fun p hp => by simp at hp ⊢; simp [hp]), hR_183.of_mem (fun p hp => by simp at hp ⊢; simp [hp]), hR_227.of_mem (fun p hp => by simp at hp ⊢; simp [hp]), (fun z hz => (hD_228 z hz).of_mem (fun p hp => by simp at hp ⊢; simp [hp])), hR_245.of_mem (fun p hp => by simp at hp ⊢; simp [hp]), (fun z hz => (hD_246 z hz).of_mem (fun p hp => by simp at hp ⊢; simp [hp])), hR_276.of_mem (fun p hp => by simp at hp ⊢; simp [hp])⟩, hgot, _, hI_292, hS_307⟩
theorem rdr_job (W w : World) (p : Nat) (H fp : Chunk) (F : List Chunk) (r : List Int) (b : Bool) (hI : RdrR 84 H p r b fp) (hS : Sat W w (fp :: H :: F)) :
    Calls Try.prog 39 #[.pointer (some ⟨p, 0, none⟩)] w fun e w' => ∃ (q : Job) (G : Chunk) (r' : List Int) (b' : Bool), e = .returned (.agg #[.slice q.inputs.a q.inputs.n q.inputs.k, .slice q.stages.a q.stages.n q.stages.k, .slice q.outputs.a q.outputs.n q.outputs.k, .int .i64 q.priority]) ∧ Job.Ok [G] q ∧ Got nJob wfJob r b q.v r' b' ∧ ∃ fp' : Chunk, RdrR 84 H p r' b' fp' ∧ Sat W w' (fp' :: G :: H :: F) := by
  refine callsE (n := 45) Try.func39 rfl rfl (Nat.le_of_ble_eq_true rfl) ?_
  refine seqE ?_
  refine regionE ?_
  refine sAlloc hS Try.zeroValue28 ?_
  intro b_1 w_2 hS_3
  try dsimp only [List.set, List.eraseIdx] at hS_3
  refine nilO ?_
  refine thenK_n <| ?_
  refine seqE ?_
  refine regionE ?_
  refine sAlloc hS_3 Try.zeroValue28 ?_
  intro b_4 w_5 hS_6
  try dsimp only [List.set, List.eraseIdx] at hS_6
  refine nilO ?_
  refine thenK_n <| ?_
  refine seqE ?_
  refine regionE ?_
  refine p1 (by kernel_rfl) ?_
  have hS_7 := hS_6.pick 3 rfl
  have hS_8 := hS_7.pick 3 rfl
  try dsimp only [List.set, List.eraseIdx] at hS_8
  refine sF #[.pointer (some ⟨p, 0, none⟩)] Try.call53 (Calls.mono (rdr_number W _ _ _ _ _ _ _ hI hS_8) ?_)
  rintro _ w_9 ⟨v_11, r_12, b_13, rfl, hG_15, hW_16, fp_14, hI_17, hS_10⟩
  refine ⟨_, rfl, ?_⟩
  try dsimp only [List.set, List.eraseIdx] at hS_10
  refine p1 (by kernel_rfl) ?_
  refine sT hS_10 2 3 (.int .i64 v_11) [.int .i64 v_11] #[.slice none 0 0, .slice none 0 0, .slice none 0 0, .int .i64 v_11] Try.sizeOf3 ?_
  intro w_18 hS_19
  try dsimp only [List.set, List.eraseIdx] at hS_19
  refine nilO ?_
  refine thenK_n <| ?_
  refine cutE (fun ρ w => ∃ (xsAc : List Plane) (aAc : Option Addr) (nAc : Nat) (kAc : Nat) (GAc : Chunk) (rAc : List Int) (bAc : Bool) (fpAc : Chunk), AllAt ρ [(0, .pointer (some ⟨p, 0, none⟩)), (2, .pointer (some ⟨b_1, 0, none⟩)), (3, .pointer (some ⟨b_4, 0, none⟩)), (4, .pointer (some ⟨p, 0, none⟩)), (6, .pointer (some ⟨b_4, 3, none⟩))] ∧ Sat W w (GAc :: fpAc :: H :: [(b_4, .cells #[.slice aAc nAc kAc, .slice none 0 0, .slice none 0 0, .int .i64 v_11] 28 (0, 0))] :: [(b_1, .cells #[.slice none 0 0, .slice none 0 0, .slice none 0 0, .int .i64 0] 28 (0, 0))] :: F) ∧ Got (encL nPlane) (wfL wfPlane) r_12 b_13 (xsAc.map Plane.v) rAc bAc ∧ RdrR 84 H p rAc bAc fpAc ∧ RdT encPlane 4 [GAc] aAc nAc kAc xsAc ∧ (∀ z ∈ xsAc, Plane.Ok [GAc] z)) ?_ ?_
  · refine seqE ?_
    refine regionE ?_
    refine p1 (by kernel_rfl) ?_
    have hS_20 := hS_19.pick 1 rfl
    have hS_21 := hS_20.pick 1 rfl
    try dsimp only [List.set, List.eraseIdx] at hS_21
    refine sF #[.pointer (some ⟨p, 0, none⟩), .int .i64 4] Try.call54 (Calls.mono (rdr_count_4 W _ _ _ _ _ _ _ hI_17 hS_21) ?_)
    rintro _ w_22 ⟨v_24, r_25, b_26, rfl, hC_28, fp_27, hI_29, hS_23⟩
    refine ⟨_, rfl, ?_⟩
    have hrng_v_24 := hC_28.rng; have hcap_v_24 := (by obtain ⟨_, _, _, _, _, _, h⟩ := hI_29; exact h : r_25.length ≤ 262144)
    try dsimp only [List.set, List.eraseIdx] at hS_23
    refine p1 (by kernel_rfl) ?_
    refine nilO ?_
    refine thenK_n <| ?_
    refine blockE ?_
    have hS_30 := Sat.nilc hS_23
    have hO_31 := OwnT.nil (enc := encPlane) (E := 49) (sz := 4) (fun _ => rfl)
    have hS_32 := Sat.nilc hS_30
    try dsimp only [List.set, List.eraseIdx] at hS_32
    refine loopE (γ := Nat × (List Plane) × (Option Addr) × Nat × Nat × Chunk × Chunk × (List Int) × Bool × Chunk) (fun ⟨iA, xsA, aA, nA, kA, cA, GA, rA, bA, fpA⟩ ρ w => AllAt ρ [(0, .pointer (some ⟨p, 0, none⟩)), (2, .pointer (some ⟨b_1, 0, none⟩)), (3, .pointer (some ⟨b_4, 0, none⟩)), (4, .pointer (some ⟨p, 0, none⟩)), (5, .int .i64 v_11), (6, .pointer (some ⟨b_4, 3, none⟩)), (7, .pointer (some ⟨p, 0, none⟩)), (8, .int .i64 v_24), (9, .int .i64 ((iA : Nat) : Int))] ∧ Sat W w (GA :: cA :: fpA :: H :: [(b_4, .cells #[.slice aA nA kA, .slice none 0 0, .slice none 0 0, .int .i64 v_11] 28 (0, 0))] :: [(b_1, .cells #[.slice none 0 0, .slice none 0 0, .slice none 0 0, .int .i64 0] 28 (0, 0))] :: F) ∧ (iA : Int) ≤ v_24 ∧ Got (encF nPlane) (wfN wfPlane iA) r_25 b_26 (xsA.map Plane.v) rA bA ∧ RdrR 84 H p rA bA fpA ∧ OwnT encPlane 49 4 aA nA kA xsA cA ∧ nA = iA ∧ (∀ z ∈ xsA, Plane.Ok [GA] z)) (fun ⟨iA, xsA, aA, nA, kA, cA, GA, rA, bA, fpA⟩ => v_24.toNat - iA) (0, [], none, 0, 0, [], [], r_25, b_26, fp_27) ⟨⟨by kernel_rfl, by kernel_rfl, by kernel_rfl, by kernel_rfl, by kernel_rfl, by kernel_rfl, by kernel_rfl, by kernel_rfl, by kernel_rfl, trivial⟩, hS_32, by omega, Got.none _ _, hI_29, hO_31, rfl, (by intro z hz; cases hz)⟩ ?_
    skip
    rintro ⟨iA, xsA, aA, nA, kA, cA, GA, rA, bA, fpA⟩ ρ w_33 ⟨hA, hS_34, hiA, hGA, hIA, hOA, hnA, hDA⟩
    refine cAnchor hA (fun ρ => ?_)
    clear hA
    refine seqE ?_
    refine regionE ?_
    refine p1 (by kernel_rfl) ?_
    refine nilO ?_
    refine thenK_n <| ?_
    refine seqE ?_
    by_cases hc_35 : (((iA : Nat) : Int) : Int) < v_24
    · refine cT (decide ((((iA : Nat) : Int) : Int) < v_24)) (decide_eq_true hc_35) ?_
      refine skipE ?_
      refine thenK_n <| ?_
      refine seqE ?_
      refine blockE ?_
      refine seqE ?_
      refine drawE [3, 4, 5, 7] [(1, ⟨b_4, 0, none⟩, .slice aA nA kA)] [(true, [0, 2]), (true, [1]), (false, [3]), (false, [4]), (false, [5]), (true, [6]), (false, [7])] rfl (by kernel_rfl) ⟨.inr (hS_34.cell 4 rfl rfl), trivial⟩ ?_
      have hS_36 := hS_34.drew
      refine wP [0, 2] rfl (by kernel_rfl) ?_
      refine wS (.slice aA nA kA) rfl rfl rfl (fun w hF => Y_load rfl (Try.isAgg25 w) (by kernel_rfl) (hF 0 _ _ rfl)) ?_
      refine wO rfl ?_
      have hS_37 := hS_36.pick 3 rfl
      have hS_38 := hS_37.pick 3 rfl
      try dsimp only [List.set, List.eraseIdx] at hS_38
      refine sF #[.pointer (some ⟨p, 0, none⟩)] Try.call55 (Calls.mono (rdr_plane W _ _ _ _ _ _ _ hIA hS_38) ?_)
      rintro _ w_39 ⟨q_41, G_42, r_43, b_44, rfl, hok_46, hG_47, fp_45, hI_48, hS_40⟩
      refine ⟨_, rfl, ?_⟩
      try dsimp only [List.set, List.eraseIdx] at hS_40
      refine nilO ⟨⟨.inr (hS_40.cell 5 rfl rfl), trivial⟩, ?_⟩
      refine wO rfl ?_
      refine sBS hS_40 #[.int .i64 q_41.w, .int .i64 q_41.h, .int .i64 q_41.max_, .slice q_41.pix.a q_41.pix.n q_41.pix.k] Try.runUnderlying25 Try.sizeOf49 Try.zeroValue49 ?_
      intro b_49 w_50 hS_51
      refine nilO ⟨⟨.inr (hS_51.cell 6 rfl rfl), trivial⟩, ?_⟩
      refine wO rfl ?_
      refine sApp (nb := 48) hS_51 hOA 5 (RdT.blk (enc := encPlane) (sz := 4) (xs := [(⟨q_41.w, q_41.h, q_41.max_, ⟨q_41.pix.a, q_41.pix.n, q_41.pix.k, q_41.pix.l⟩⟩ : Plane)]) (fun _ => rfl) 1 0 rfl rfl rfl (by omega)) Try.underlying25 (i := Try.t49) (by kernel_rfl) (fun _ => rfl) ?_
      intro a_52 cap_53 c_54 w_55 hO_56 hS_57
      try dsimp only [List.set, List.eraseIdx] at hS_57
      refine nilO ⟨⟨.inl (by kernel_rfl), trivial⟩, ?_⟩
      refine wP [6] rfl (by kernel_rfl) ?_
      refine wO rfl ?_
      refine sT hS_57 6 0 (.slice a_52 (nA + 1) cap_53) [.slice a_52 (nA + 1) cap_53] #[.slice a_52 (nA + 1) cap_53, .slice none 0 0, .slice none 0 0, .int .i64 v_11] Try.sizeOf25 ?_
      intro w_58 hS_59
      try dsimp only [List.set, List.eraseIdx] at hS_59
      refine nilO ⟨⟨.inl (by kernel_rfl), trivial⟩, ?_⟩
      refine wN ?_
      refine thenK_n <| ?_
      refine seqE ?_
      have hS_65 := hS_59.pick 1 rfl
      try dsimp only [List.set, List.eraseIdx] at hS_65
      obtain ⟨a_60, n_61, k_62, rfl, hR_63, hB_64⟩ := hI_48
      have hll_a_60 := hR_63.len; have hle_a_60 := hR_63.le
      refine regionE ?_
      refine p3 (by kernel_rfl) ?_
      refine sL hS_65 0 1 (.bool b_44) (Try.isAgg4 _) ?_
      refine nilO ?_
      refine thenK_n <| ?_
      cases b_44
      · refine condE_false (by kernel_rfl) ?_
        refine skipE ?_
        refine blockK_n <| thenK_n <| ?_
        refine regionE ?_
        refine sAdd ((iA : Nat) : Int) 1 ?_
        refine p1 (by kernel_rfl) ?_
        refine nilO ?_
        refine thenK_n <| ?_
        have hI_66 : RdrR 84 H p r_43 false [(p, .cells #[.slice a_60 n_61 k_62, .bool false] 84 (0, 0))] := ⟨_, _, _, rfl, hR_63, hB_64⟩
        have hX := hGA.snoc pfPlane hG_47
        have hS_67 := hS_65.pick 7 rfl
        have hS_68 := hS_67.pick 7 rfl
        have hS_69 := hS_68.pick 5 rfl
        have hS_70 := hS_69.pick 3 rfl
        have hS_71 := hS_70.pick 7 rfl
        have hS_72 := hS_71.pick 7 rfl
        have hS_73 := hS_72.pick 7 rfl
        try dsimp only [List.set, List.eraseIdx] at hS_73
        have hS_74 := hS_73.dropAt 7 rfl
        try dsimp only [List.set, List.eraseIdx] at hS_74
        have hS_75 := (Sat.perm (cs' := (G_42 ++ GA) :: (c_54 :: [(p, .cells #[.slice a_60 n_61 k_62, .bool false] 84 (0, 0))] :: H :: [(b_4, .cells #[.slice a_52 (nA + 1) cap_53, .slice none 0 0, .slice none 0 0, .int .i64 v_11] 28 (0, 0))] :: [(b_1, .cells #[.slice none 0 0, .slice none 0 0, .slice none 0 0, .int .i64 0] 28 (0, 0))] :: F)) hS_74 (by simp))
        have hD2 : ∀ z ∈ xsA ++ [(⟨q_41.w, q_41.h, q_41.max_, ⟨q_41.pix.a, q_41.pix.n, q_41.pix.k, q_41.pix.l⟩⟩ : Plane)], Plane.Ok [(G_42 ++ GA)] z := by
          intro z hz
          rcases List.mem_append.1 hz with h | h
          · exact (hDA z h).of_mem (fun p hp => by simp at hp ⊢; simp [hp])
          · simp only [List.mem_singleton] at h; subst h; exact hok_46.of_mem (fun p hp => by simp at hp ⊢; simp [hp])
        exact ⟨(iA + 1, (xsA ++ [(⟨q_41.w, q_41.h, q_41.max_, ⟨q_41.pix.a, q_41.pix.n, q_41.pix.k, q_41.pix.l⟩⟩ : Plane)]), a_52, (nA + 1), cap_53, c_54, (G_42 ++ GA), r_43, false, [(p, .cells #[.slice a_60 n_61 k_62, .bool false] 84 (0, 0))]), by dsimp only; omega, ⟨by kernel_rfl, by kernel_rfl, by kernel_rfl, by kernel_rfl, by kernel_rfl, by kernel_rfl, by kernel_rfl, by kernel_rfl, by kernel_rfl, trivial⟩, hS_75, by omega, by first | simpa [Plane.v] using hX | simpa using hX, hI_66, hO_56, by omega, hD2⟩
      · refine condE_true (by kernel_rfl) ?_
        refine seqE ?_
        refine regionE ?_
        refine p1 (by kernel_rfl) ?_
        refine sT hS_65 7 0 (.agg #[.slice none 0 0, .slice none 0 0, .slice none 0 0, .int .i64 0]) [.slice none 0 0, .slice none 0 0, .slice none 0 0, .int .i64 0] #[.slice none 0 0, .slice none 0 0, .slice none 0 0, .int .i64 0] Try.sizeOf28 ?_
        intro w_76 hS_77
        try dsimp only [List.set, List.eraseIdx] at hS_77
        refine nilO ?_
        refine thenK_n <| ?_
        refine retE (blockK_r <| thenK_r <| thenK_r <| blockK_r <| thenK_r <| ?_)
        refine retN (vs := [.agg #[.slice none 0 0, .slice none 0 0, .slice none 0 0, .int .i64 0]]) rfl (.cons (.cell _ _ _ _ (by kernel_rfl) (lvA hS_77 7 0 [.slice none 0 0, .slice none 0 0, .slice none 0 0, .int .i64 0] (Try.isAgg28 _) (Try.sizeOf28 _) rfl rfl rfl)) .nil) <| ?_
        have hI_78 : RdrR 84 H p r_43 true [(p, .cells #[.slice a_60 n_61 k_62, .bool true] 84 (0, 0))] := ⟨_, _, _, rfl, hR_63, hB_64⟩
        have hX := hGA.snoc pfPlane hG_47
        have hS_79 := hS_77.pick 3 rfl
        have hS_80 := hS_79.pick 1 rfl
        try dsimp only [List.set, List.eraseIdx] at hS_80
        have hS_81 := hS_80.dropAt 2 rfl
        have hS_82 := hS_81.dropAt 2 rfl
        have hS_83 := hS_82.dropAt 2 rfl
        have hS_84 := hS_83.dropAt 2 rfl
        have hS_85 := hS_84.dropAt 2 rfl
        have hS_86 := hS_85.dropAt 2 rfl
        change Sat _ _ ([(p, .cells #[.slice a_60 n_61 k_62, .bool true] 84 (0, 0))] :: H :: F) at hS_86
        have hZ := Got.list nPlane_ge hC_28 (hX.stop (n := v_24.toNat) (by omega) [])
        have hS_87 : Sat W _ ([(p, .cells #[.slice a_60 n_61 k_62, .bool true] 84 (0, 0))] :: [] :: H :: F) := Sat.perm hS_86 (by simp)
        have hgot := Got.job hG_15 hZ (Got.dead _ []) (Got.dead _ [])
        exact ⟨(⟨⟨none, 0, 0, []⟩, ⟨none, 0, 0, []⟩, ⟨none, 0, 0, []⟩, 0⟩ : Job), [], _, true, rfl, ⟨RdT.nil (enc := encPlane) (sz := 4) (fun _ => rfl) _, (fun z hz => by cases hz), RdT.nil (enc := encStage) (sz := 18) (fun _ => rfl) _, (fun z hz => by cases hz), RdT.nil (enc := encI) (sz := 1) (fun _ => rfl) _⟩, hgot.any _, _, hI_78, hS_87⟩
    · refine cF (decide ((((iA : Nat) : Int) : Int) < v_24)) (decide_eq_false hc_35) ?_
      refine exitE (thenK_x <| thenK_x <| blockK_x <| ?_)
      refine thenK_n <| ?_
      have hS_88 := hS_34.pick 5 rfl
      have hS_89 := hS_88.pick 5 rfl
      have hS_90 := hS_89.pick 5 rfl
      have hS_91 := hS_90.pick 5 rfl
      have hS_92 := hS_91.pick 5 rfl
      have hS_93 := hS_92.pick 5 rfl
      try dsimp only [List.set, List.eraseIdx] at hS_93
      try dsimp only [List.set, List.eraseIdx] at hS_93
      have hS_94 : Sat W _ ((GA ++ cA) :: (fpA :: H :: [(b_4, .cells #[.slice aA nA kA, .slice none 0 0, .slice none 0 0, .int .i64 v_11] 28 (0, 0))] :: [(b_1, .cells #[.slice none 0 0, .slice none 0 0, .slice none 0 0, .int .i64 0] 28 (0, 0))] :: F)) := Sat.perm hS_93 (by simp)
      have hZ : Got (encF nPlane) (wfN wfPlane v_24.toNat) r_25 b_26 (xsA.map Plane.v) rA bA := by rw [show v_24.toNat = iA from by omega]; exact hGA
      exact ⟨xsA, aA, nA, kA, (GA ++ cA), rA, bA, fpA, ⟨by kernel_rfl, by kernel_rfl, by kernel_rfl, by kernel_rfl, by kernel_rfl, trivial⟩, hS_94, Got.list nPlane_ge hC_28 hZ, hIA, (hOA.rd (fun p hp => by simp [hp])), (fun z hz => (hDA z hz).of_mem (fun p hp => by simp at hp ⊢; simp [hp]))⟩
  · rintro ρ w_95 ⟨xsAc, aAc, nAc, kAc, GAc, rAc, bAc, fpAc, hA, hS_96, hLAc, hIAc, hRAc, hDAc⟩
    refine cAnchor hA (fun ρ => ?_)
    clear hA
    refine cutE (fun ρ w => ∃ (xsBc : List Stage) (aBc : Option Addr) (nBc : Nat) (kBc : Nat) (GBc : Chunk) (rBc : List Int) (bBc : Bool) (fpBc : Chunk), AllAt ρ [(0, .pointer (some ⟨p, 0, none⟩)), (2, .pointer (some ⟨b_1, 0, none⟩)), (3, .pointer (some ⟨b_4, 0, none⟩)), (4, .pointer (some ⟨p, 0, none⟩)), (6, .pointer (some ⟨b_4, 3, none⟩))] ∧ Sat W w (GBc :: GAc :: fpBc :: H :: [(b_4, .cells #[.slice aAc nAc kAc, .slice aBc nBc kBc, .slice none 0 0, .int .i64 v_11] 28 (0, 0))] :: [(b_1, .cells #[.slice none 0 0, .slice none 0 0, .slice none 0 0, .int .i64 0] 28 (0, 0))] :: F) ∧ Got (encL nStage) (wfL wfStage) rAc bAc (xsBc.map Stage.v) rBc bBc ∧ RdrR 84 H p rBc bBc fpBc ∧ RdT encStage 18 [GBc] aBc nBc kBc xsBc ∧ (∀ z ∈ xsBc, Stage.Ok [GBc] z)) ?_ ?_
    · refine seqE ?_
      refine regionE ?_
      refine p1 (by kernel_rfl) ?_
      have hS_97 := hS_96.pick 2 rfl
      have hS_98 := hS_97.pick 2 rfl
      try dsimp only [List.set, List.eraseIdx] at hS_98
      refine sF #[.pointer (some ⟨p, 0, none⟩), .int .i64 18] Try.call54 (Calls.mono (rdr_count_18 W _ _ _ _ _ _ _ hIAc hS_98) ?_)
      rintro _ w_99 ⟨v_101, r_102, b_103, rfl, hC_105, fp_104, hI_106, hS_100⟩
      refine ⟨_, rfl, ?_⟩
      have hrng_v_101 := hC_105.rng; have hcap_v_101 := (by obtain ⟨_, _, _, _, _, _, h⟩ := hI_106; exact h : r_102.length ≤ 262144)
      try dsimp only [List.set, List.eraseIdx] at hS_100
      refine p1 (by kernel_rfl) ?_
      refine nilO ?_
      refine thenK_n <| ?_
      refine blockE ?_
      have hS_107 := Sat.nilc hS_100
      have hO_108 := OwnT.nil (enc := encStage) (E := 61) (sz := 18) (fun _ => rfl)
      have hS_109 := Sat.nilc hS_107
      try dsimp only [List.set, List.eraseIdx] at hS_109
      refine loopE (γ := Nat × (List Stage) × (Option Addr) × Nat × Nat × Chunk × Chunk × (List Int) × Bool × Chunk) (fun ⟨iB, xsB, aB, nB, kB, cB, GB, rB, bB, fpB⟩ ρ w => AllAt ρ [(0, .pointer (some ⟨p, 0, none⟩)), (2, .pointer (some ⟨b_1, 0, none⟩)), (3, .pointer (some ⟨b_4, 0, none⟩)), (4, .pointer (some ⟨p, 0, none⟩)), (6, .pointer (some ⟨b_4, 3, none⟩)), (24, .pointer (some ⟨p, 0, none⟩)), (25, .int .i64 v_101), (26, .int .i64 ((iB : Nat) : Int))] ∧ Sat W w (GB :: cB :: fpB :: H :: GAc :: [(b_4, .cells #[.slice aAc nAc kAc, .slice aB nB kB, .slice none 0 0, .int .i64 v_11] 28 (0, 0))] :: [(b_1, .cells #[.slice none 0 0, .slice none 0 0, .slice none 0 0, .int .i64 0] 28 (0, 0))] :: F) ∧ (iB : Int) ≤ v_101 ∧ Got (encF nStage) (wfN wfStage iB) r_102 b_103 (xsB.map Stage.v) rB bB ∧ RdrR 84 H p rB bB fpB ∧ OwnT encStage 61 18 aB nB kB xsB cB ∧ nB = iB ∧ (∀ z ∈ xsB, Stage.Ok [GB] z)) (fun ⟨iB, xsB, aB, nB, kB, cB, GB, rB, bB, fpB⟩ => v_101.toNat - iB) (0, [], none, 0, 0, [], [], r_102, b_103, fp_104) ⟨⟨by kernel_rfl, by kernel_rfl, by kernel_rfl, by kernel_rfl, by kernel_rfl, by kernel_rfl, by kernel_rfl, by kernel_rfl, trivial⟩, hS_109, by omega, Got.none _ _, hI_106, hO_108, rfl, (by intro z hz; cases hz)⟩ ?_
      skip
      rintro ⟨iB, xsB, aB, nB, kB, cB, GB, rB, bB, fpB⟩ ρ w_110 ⟨hA, hS_111, hiB, hGB, hIB, hOB, hnB, hDB⟩
      refine cAnchor hA (fun ρ => ?_)
      clear hA
      refine seqE ?_
      refine regionE ?_
      refine p1 (by kernel_rfl) ?_
      refine nilO ?_
      refine thenK_n <| ?_
      refine seqE ?_
      by_cases hc_112 : (((iB : Nat) : Int) : Int) < v_101
      · refine cT (decide ((((iB : Nat) : Int) : Int) < v_101)) (decide_eq_true hc_112) ?_
        refine skipE ?_
        refine thenK_n <| ?_
        refine seqE ?_
        refine blockE ?_
        refine seqE ?_
        refine drawE [3, 4, 5, 7] [(1, ⟨b_4, 1, none⟩, .slice aB nB kB)] [(true, [0, 2]), (true, [1]), (false, [3]), (false, [4]), (false, [5]), (true, [6]), (false, [7])] rfl (by kernel_rfl) ⟨.inr (hS_111.cell 5 rfl rfl), trivial⟩ ?_
        have hS_113 := hS_111.drew
        refine wP [0, 2] rfl (by kernel_rfl) ?_
        refine wS (.slice aB nB kB) rfl rfl rfl (fun w hF => Y_load rfl (Try.isAgg26 w) (by kernel_rfl) (hF 0 _ _ rfl)) ?_
        refine wO rfl ?_
        have hS_114 := hS_113.pick 3 rfl
        have hS_115 := hS_114.pick 3 rfl
        try dsimp only [List.set, List.eraseIdx] at hS_115
        refine sF #[.pointer (some ⟨p, 0, none⟩)] Try.call56 (Calls.mono (rdr_stage W _ _ _ _ _ _ _ hIB hS_115) ?_)
        rintro _ w_116 ⟨q_118, G_119, r_120, b_121, rfl, hok_123, hG_124, fp_122, hI_125, hS_117⟩
        refine ⟨_, rfl, ?_⟩
        try dsimp only [List.set, List.eraseIdx] at hS_117
        refine nilO ⟨⟨.inr (hS_117.cell 6 rfl rfl), trivial⟩, ?_⟩
        refine wO rfl ?_
        refine sBS hS_117 #[.int .i64 q_118.kind, .int .i64 q_118.a, .int .i64 q_118.b, .bool q_118.barrier, .int .i64 q_118.edgePolicy, .int .i64 q_118.edgeFill, .int .i64 q_118.kW, .int .i64 q_118.kH, .slice q_118.weights.a q_118.weights.n q_118.weights.k, .slice q_118.row.a q_118.row.n q_118.row.k, .slice q_118.col.a q_118.col.n q_118.col.k, .int .i64 q_118.shift, .int .i64 q_118.shift2, .slice q_118.x.a q_118.x.n q_118.x.k, .slice q_118.y.a q_118.y.n q_118.y.k, .int .i64 q_118.bins, .slice q_118.ops.a q_118.ops.n q_118.ops.k, .int .i64 q_118.max_] Try.runUnderlying26 Try.sizeOf61 Try.zeroValue61 ?_
        intro b_126 w_127 hS_128
        refine nilO ⟨⟨.inr (hS_128.cell 7 rfl rfl), trivial⟩, ?_⟩
        refine wO rfl ?_
        refine sApp (nb := 240) hS_128 hOB 5 (RdT.blk (enc := encStage) (sz := 18) (xs := [(⟨q_118.kind, q_118.a, q_118.b, q_118.barrier, q_118.edgePolicy, q_118.edgeFill, q_118.kW, q_118.kH, ⟨q_118.weights.a, q_118.weights.n, q_118.weights.k, q_118.weights.l⟩, ⟨q_118.row.a, q_118.row.n, q_118.row.k, q_118.row.l⟩, ⟨q_118.col.a, q_118.col.n, q_118.col.k, q_118.col.l⟩, q_118.shift, q_118.shift2, ⟨q_118.x.a, q_118.x.n, q_118.x.k, q_118.x.l⟩, ⟨q_118.y.a, q_118.y.n, q_118.y.k, q_118.y.l⟩, q_118.bins, ⟨q_118.ops.a, q_118.ops.n, q_118.ops.k, q_118.ops.l⟩, q_118.max_⟩ : Stage)]) (fun _ => rfl) 1 0 rfl rfl rfl (by omega)) Try.underlying26 (i := Try.t61) (by kernel_rfl) (fun _ => rfl) ?_
        intro a_129 cap_130 c_131 w_132 hO_133 hS_134
        try dsimp only [List.set, List.eraseIdx] at hS_134
        refine nilO ⟨⟨.inl (by kernel_rfl), trivial⟩, ?_⟩
        refine wP [6] rfl (by kernel_rfl) ?_
        refine wO rfl ?_
        refine sT hS_134 7 1 (.slice a_129 (nB + 1) cap_130) [.slice a_129 (nB + 1) cap_130] #[.slice aAc nAc kAc, .slice a_129 (nB + 1) cap_130, .slice none 0 0, .int .i64 v_11] Try.sizeOf26 ?_
        intro w_135 hS_136
        try dsimp only [List.set, List.eraseIdx] at hS_136
        refine nilO ⟨⟨.inl (by kernel_rfl), trivial⟩, ?_⟩
        refine wN ?_
        refine thenK_n <| ?_
        refine seqE ?_
        have hS_142 := hS_136.pick 1 rfl
        try dsimp only [List.set, List.eraseIdx] at hS_142
        obtain ⟨a_137, n_138, k_139, rfl, hR_140, hB_141⟩ := hI_125
        have hll_a_137 := hR_140.len; have hle_a_137 := hR_140.le
        refine regionE ?_
        refine p3 (by kernel_rfl) ?_
        refine sL hS_142 0 1 (.bool b_121) (Try.isAgg4 _) ?_
        refine nilO ?_
        refine thenK_n <| ?_
        cases b_121
        · refine condE_false (by kernel_rfl) ?_
          refine skipE ?_
          refine blockK_n <| thenK_n <| ?_
          refine regionE ?_
          refine sAdd ((iB : Nat) : Int) 1 ?_
          refine p1 (by kernel_rfl) ?_
          refine nilO ?_
          refine thenK_n <| ?_
          have hI_143 : RdrR 84 H p r_120 false [(p, .cells #[.slice a_137 n_138 k_139, .bool false] 84 (0, 0))] := ⟨_, _, _, rfl, hR_140, hB_141⟩
          have hX := hGB.snoc pfStage hG_124
          have hS_144 := hS_142.pick 8 rfl
          have hS_145 := hS_144.pick 8 rfl
          have hS_146 := hS_145.pick 8 rfl
          have hS_147 := hS_146.pick 6 rfl
          have hS_148 := hS_147.pick 4 rfl
          have hS_149 := hS_148.pick 8 rfl
          have hS_150 := hS_149.pick 8 rfl
          have hS_151 := hS_150.pick 8 rfl
          try dsimp only [List.set, List.eraseIdx] at hS_151
          have hS_152 := hS_151.dropAt 8 rfl
          try dsimp only [List.set, List.eraseIdx] at hS_152
          have hS_153 := (Sat.perm (cs' := (G_119 ++ GB) :: (c_131 :: [(p, .cells #[.slice a_137 n_138 k_139, .bool false] 84 (0, 0))] :: H :: GAc :: [(b_4, .cells #[.slice aAc nAc kAc, .slice a_129 (nB + 1) cap_130, .slice none 0 0, .int .i64 v_11] 28 (0, 0))] :: [(b_1, .cells #[.slice none 0 0, .slice none 0 0, .slice none 0 0, .int .i64 0] 28 (0, 0))] :: F)) hS_152 (by simp))
          have hD2 : ∀ z ∈ xsB ++ [(⟨q_118.kind, q_118.a, q_118.b, q_118.barrier, q_118.edgePolicy, q_118.edgeFill, q_118.kW, q_118.kH, ⟨q_118.weights.a, q_118.weights.n, q_118.weights.k, q_118.weights.l⟩, ⟨q_118.row.a, q_118.row.n, q_118.row.k, q_118.row.l⟩, ⟨q_118.col.a, q_118.col.n, q_118.col.k, q_118.col.l⟩, q_118.shift, q_118.shift2, ⟨q_118.x.a, q_118.x.n, q_118.x.k, q_118.x.l⟩, ⟨q_118.y.a, q_118.y.n, q_118.y.k, q_118.y.l⟩, q_118.bins, ⟨q_118.ops.a, q_118.ops.n, q_118.ops.k, q_118.ops.l⟩, q_118.max_⟩ : Stage)], Stage.Ok [(G_119 ++ GB)] z := by
            intro z hz
            rcases List.mem_append.1 hz with h | h
            · exact (hDB z h).of_mem (fun p hp => by simp at hp ⊢; simp [hp])
            · simp only [List.mem_singleton] at h; subst h; exact hok_123.of_mem (fun p hp => by simp at hp ⊢; simp [hp])
          exact ⟨(iB + 1, (xsB ++ [(⟨q_118.kind, q_118.a, q_118.b, q_118.barrier, q_118.edgePolicy, q_118.edgeFill, q_118.kW, q_118.kH, ⟨q_118.weights.a, q_118.weights.n, q_118.weights.k, q_118.weights.l⟩, ⟨q_118.row.a, q_118.row.n, q_118.row.k, q_118.row.l⟩, ⟨q_118.col.a, q_118.col.n, q_118.col.k, q_118.col.l⟩, q_118.shift, q_118.shift2, ⟨q_118.x.a, q_118.x.n, q_118.x.k, q_118.x.l⟩, ⟨q_118.y.a, q_118.y.n, q_118.y.k, q_118.y.l⟩, q_118.bins, ⟨q_118.ops.a, q_118.ops.n, q_118.ops.k, q_118.ops.l⟩, q_118.max_⟩ : Stage)]), a_129, (nB + 1), cap_130, c_131, (G_119 ++ GB), r_120, false, [(p, .cells #[.slice a_137 n_138 k_139, .bool false] 84 (0, 0))]), by dsimp only; omega, ⟨by kernel_rfl, by kernel_rfl, by kernel_rfl, by kernel_rfl, by kernel_rfl, by kernel_rfl, by kernel_rfl, by kernel_rfl, trivial⟩, hS_153, by omega, by first | simpa [Stage.v] using hX | simpa using hX, hI_143, hO_133, by omega, hD2⟩
        · refine condE_true (by kernel_rfl) ?_
          refine seqE ?_
          refine regionE ?_
          refine p1 (by kernel_rfl) ?_
          refine sT hS_142 8 0 (.agg #[.slice none 0 0, .slice none 0 0, .slice none 0 0, .int .i64 0]) [.slice none 0 0, .slice none 0 0, .slice none 0 0, .int .i64 0] #[.slice none 0 0, .slice none 0 0, .slice none 0 0, .int .i64 0] Try.sizeOf28 ?_
          intro w_154 hS_155
          try dsimp only [List.set, List.eraseIdx] at hS_155
          refine nilO ?_
          refine thenK_n <| ?_
          refine retE (blockK_r <| thenK_r <| thenK_r <| blockK_r <| thenK_r <| ?_)
          refine retN (vs := [.agg #[.slice none 0 0, .slice none 0 0, .slice none 0 0, .int .i64 0]]) rfl (.cons (.cell _ _ _ _ (by kernel_rfl) (lvA hS_155 8 0 [.slice none 0 0, .slice none 0 0, .slice none 0 0, .int .i64 0] (Try.isAgg28 _) (Try.sizeOf28 _) rfl rfl rfl)) .nil) <| ?_
          have hI_156 : RdrR 84 H p r_120 true [(p, .cells #[.slice a_137 n_138 k_139, .bool true] 84 (0, 0))] := ⟨_, _, _, rfl, hR_140, hB_141⟩
          have hX := hGB.snoc pfStage hG_124
          have hS_157 := hS_155.pick 3 rfl
          have hS_158 := hS_157.pick 1 rfl
          try dsimp only [List.set, List.eraseIdx] at hS_158
          have hS_159 := hS_158.dropAt 2 rfl
          have hS_160 := hS_159.dropAt 2 rfl
          have hS_161 := hS_160.dropAt 2 rfl
          have hS_162 := hS_161.dropAt 2 rfl
          have hS_163 := hS_162.dropAt 2 rfl
          have hS_164 := hS_163.dropAt 2 rfl
          have hS_165 := hS_164.dropAt 2 rfl
          change Sat _ _ ([(p, .cells #[.slice a_137 n_138 k_139, .bool true] 84 (0, 0))] :: H :: F) at hS_165
          have hZ := Got.list nStage_ge hC_105 (hX.stop (n := v_101.toNat) (by omega) [])
          have hS_166 : Sat W _ ([(p, .cells #[.slice a_137 n_138 k_139, .bool true] 84 (0, 0))] :: [] :: H :: F) := Sat.perm hS_165 (by simp)
          have hgot := Got.job hG_15 hLAc hZ (Got.dead _ [])
          exact ⟨(⟨⟨none, 0, 0, []⟩, ⟨none, 0, 0, []⟩, ⟨none, 0, 0, []⟩, 0⟩ : Job), [], _, true, rfl, ⟨RdT.nil (enc := encPlane) (sz := 4) (fun _ => rfl) _, (fun z hz => by cases hz), RdT.nil (enc := encStage) (sz := 18) (fun _ => rfl) _, (fun z hz => by cases hz), RdT.nil (enc := encI) (sz := 1) (fun _ => rfl) _⟩, hgot.any _, _, hI_156, hS_166⟩
      · refine cF (decide ((((iB : Nat) : Int) : Int) < v_101)) (decide_eq_false hc_112) ?_
        refine exitE (thenK_x <| thenK_x <| blockK_x <| ?_)
        refine thenK_n <| ?_
        have hS_167 := hS_111.pick 6 rfl
        have hS_168 := hS_167.pick 6 rfl
        have hS_169 := hS_168.pick 5 rfl
        have hS_170 := hS_169.pick 5 rfl
        have hS_171 := hS_170.pick 6 rfl
        have hS_172 := hS_171.pick 6 rfl
        have hS_173 := hS_172.pick 6 rfl
        try dsimp only [List.set, List.eraseIdx] at hS_173
        try dsimp only [List.set, List.eraseIdx] at hS_173
        have hS_174 : Sat W _ ((GB ++ cB) :: (GAc :: fpB :: H :: [(b_4, .cells #[.slice aAc nAc kAc, .slice aB nB kB, .slice none 0 0, .int .i64 v_11] 28 (0, 0))] :: [(b_1, .cells #[.slice none 0 0, .slice none 0 0, .slice none 0 0, .int .i64 0] 28 (0, 0))] :: F)) := Sat.perm hS_173 (by simp)
        have hZ : Got (encF nStage) (wfN wfStage v_101.toNat) r_102 b_103 (xsB.map Stage.v) rB bB := by rw [show v_101.toNat = iB from by omega]; exact hGB
        exact ⟨xsB, aB, nB, kB, (GB ++ cB), rB, bB, fpB, ⟨by kernel_rfl, by kernel_rfl, by kernel_rfl, by kernel_rfl, by kernel_rfl, trivial⟩, hS_174, Got.list nStage_ge hC_105 hZ, hIB, (hOB.rd (fun p hp => by simp [hp])), (fun z hz => (hDB z hz).of_mem (fun p hp => by simp at hp ⊢; simp [hp]))⟩
    · rintro ρ w_175 ⟨xsBc, aBc, nBc, kBc, GBc, rBc, bBc, fpBc, hA, hS_176, hLBc, hIBc, hRBc, hDBc⟩
      refine cAnchor hA (fun ρ => ?_)
      clear hA
      refine seqE ?_
      refine regionE ?_
      refine p1 (by kernel_rfl) ?_
      have hS_177 := hS_176.pick 3 rfl
      have hS_178 := hS_177.pick 3 rfl
      try dsimp only [List.set, List.eraseIdx] at hS_178
      refine sF #[.pointer (some ⟨p, 0, none⟩)] Try.call57 (Calls.mono (rdr_numbers W _ _ _ _ _ _ _ hIBc hS_178) ?_)
      rintro _ w_179 ⟨a_181, n_182, k_183, xs_184, G_185, r_186, b_187, rfl, hR_189, hG_191, fp_188, hI_192, hS_180⟩
      refine ⟨_, rfl, ?_⟩
      try dsimp only [List.set, List.eraseIdx] at hS_180
      refine p1 (by kernel_rfl) ?_
      refine sT hS_180 5 2 (.slice a_181 n_182 k_183) [.slice a_181 n_182 k_183] #[.slice aAc nAc kAc, .slice aBc nBc kBc, .slice a_181 n_182 k_183, .int .i64 v_11] Try.sizeOf22 ?_
      intro w_193 hS_194
      try dsimp only [List.set, List.eraseIdx] at hS_194
      refine nilO ?_
      refine thenK_n <| ?_
      refine seqE ?_
      refine regionE ?_
      refine sLA hS_194 5 0 [.slice aAc nAc kAc, .slice aBc nBc kBc, .slice a_181 n_182 k_183, .int .i64 v_11] (Try.isAgg28 _) (Try.sizeOf28 _) ?_
      refine sT hS_194 6 0 (.agg #[.slice aAc nAc kAc, .slice aBc nBc kBc, .slice a_181 n_182 k_183, .int .i64 v_11]) [.slice aAc nAc kAc, .slice aBc nBc kBc, .slice a_181 n_182 k_183, .int .i64 v_11] #[.slice aAc nAc kAc, .slice aBc nBc kBc, .slice a_181 n_182 k_183, .int .i64 v_11] Try.sizeOf28 ?_
      intro w_195 hS_196
      try dsimp only [List.set, List.eraseIdx] at hS_196
      refine nilO ?_
      refine thenK_n <| ?_
      refine retE ?_
      refine retN (vs := [.agg #[.slice aAc nAc kAc, .slice aBc nBc kBc, .slice a_181 n_182 k_183, .int .i64 v_11]]) rfl (.cons (.cell _ _ _ _ (by kernel_rfl) (lvA hS_196 6 0 [.slice aAc nAc kAc, .slice aBc nBc kBc, .slice a_181 n_182 k_183, .int .i64 v_11] (Try.isAgg28 _) (Try.sizeOf28 _) rfl rfl rfl)) .nil) <| ?_
      have hS_197 := hS_196.pick 2 rfl
      have hS_198 := hS_197.pick 2 rfl
      have hS_199 := hS_198.pick 3 rfl
      have hS_200 := hS_199.pick 4 rfl
      have hS_201 := hS_200.pick 4 rfl
      try dsimp only [List.set, List.eraseIdx] at hS_201
      have hS_202 := hS_201.dropAt 5 rfl
      have hS_203 := hS_202.dropAt 5 rfl
      change Sat _ _ (fp_188 :: GAc :: GBc :: G_185 :: H :: F) at hS_203
      have hS_204 := (Sat.perm (cs' := fp_188 :: (GAc ++ GBc ++ G_185) :: H :: F) hS_203 (by simp))
      have hgot := Got.job hG_15 hLAc hLBc hG_191
      exact ⟨(⟨⟨aAc, nAc, kAc, xsAc⟩, ⟨aBc, nBc, kBc, xsBc⟩, ⟨a_181, n_182, k_183, xs_184⟩, v_11⟩ : Job), _, _, _, rfl, ⟨hRAc.of_mem (fun p hp => by simp at hp ⊢; simp [hp]), (fun z hz => (hDAc z hz).of_mem (fun p hp => by simp at hp ⊢; simp [hp])), hRBc.of_mem (fun p hp => by simp at hp ⊢; simp [hp]), (fun z hz => (hDBc z hz).of_mem (fun p hp => by simp at hp ⊢; simp [hp])), hR_189.of_mem (fun p hp => by simp at hp ⊢; simp [hp])⟩, hgot, _, hI_192, hS_204⟩
theorem codec_decode (W w : World) (H : Chunk) (F : List Chunk) (a : Option Addr) (n k : Nat) (x : List Int) (hx : RdT encB 1 [H] a n k x) (hB : Bytes x) (hS : Sat W w (H :: F)) :
    Calls Try.prog 17 #[.slice a n k] w fun e w' => ∃ (q : Job) (G : Chunk) (c : Int), e = .returned (.tuple #[.agg #[.slice q.inputs.a q.inputs.n q.inputs.k, .slice q.stages.a q.stages.n q.stages.k, .slice q.outputs.a q.outputs.n q.outputs.k, .int .i64 q.priority], .int .i64 c]) ∧ Job.Ok [G] q ∧ DecR x q.v c ∧ Sat W w' (G :: H :: F) := by
  have hle := hx.le; have hll := hx.len
  refine callsE (n := 52) Try.func17 rfl rfl (Nat.le_of_ble_eq_true rfl) ?_
  refine seqE ?_
  refine regionE ?_
  refine sAlloc hS Try.zeroValue28 ?_
  intro b_1 w_2 hS_3
  try dsimp only [List.set, List.eraseIdx] at hS_3
  refine p1 (by kernel_rfl) ?_
  refine nilO ?_
  refine thenK_n <| ?_
  refine seqE ?_
  refine seqE ?_
  refine regionE ?_
  refine p3 (by kernel_rfl) ?_
  refine nilO ?_
  refine thenK_n <| ?_
  by_cases hc_4 : (((n : Nat) : Int) : Int) > 262144
  · refine cT (decide ((((n : Nat) : Int) : Int) > 262144)) (decide_eq_true hc_4) ?_
    refine seqE ?_
    refine regionE ?_
    refine p1 (by kernel_rfl) ?_
    refine sT hS_3 0 0 (.agg #[.slice none 0 0, .slice none 0 0, .slice none 0 0, .int .i64 0]) [.slice none 0 0, .slice none 0 0, .slice none 0 0, .int .i64 0] #[.slice none 0 0, .slice none 0 0, .slice none 0 0, .int .i64 0] Try.sizeOf28 ?_
    intro w_5 hS_6
    try dsimp only [List.set, List.eraseIdx] at hS_6
    refine p1 (by kernel_rfl) ?_
    refine nilO ?_
    refine thenK_n <| ?_
    refine retE (thenK_r <| ?_)
    refine retN (vs := [.agg #[.slice none 0 0, .slice none 0 0, .slice none 0 0, .int .i64 0], .int .i64 5]) rfl (.cons (.cell _ _ _ _ (by kernel_rfl) (lvA hS_6 0 0 [.slice none 0 0, .slice none 0 0, .slice none 0 0, .int .i64 0] (Try.isAgg28 _) (Try.sizeOf28 _) rfl rfl rfl)) (.cons (.tmp _ _ (by kernel_rfl)) .nil)) <| ?_
    have hS_7 := hS_6.pick 1 rfl
    try dsimp only [List.set, List.eraseIdx] at hS_7
    have hS_8 := hS_7.dropAt 1 rfl
    change Sat _ _ (H :: F) at hS_8
    have h2 : Sat W _ ([] :: H :: F) := Sat.nilc hS_8
    exact ⟨(⟨⟨none, 0, 0, []⟩, ⟨none, 0, 0, []⟩, ⟨none, 0, 0, []⟩, 0⟩ : Job), [], 5, rfl, ⟨RdT.nil (enc := encPlane) (sz := 4) (fun _ => rfl) _, (fun z hz => by cases hz), RdT.nil (enc := encStage) (sz := 18) (fun _ => rfl) _, (fun z hz => by cases hz), RdT.nil (enc := encI) (sz := 1) (fun _ => rfl) _⟩, DecR.big (by omega), h2⟩
  · refine cF (decide ((((n : Nat) : Int) : Int) > 262144)) (decide_eq_false hc_4) ?_
    refine skipE ?_
    refine thenK_n <| ?_
    refine seqE ?_
    refine seqE ?_
    refine regionE ?_
    refine p4 (by kernel_rfl) ?_
    by_cases hc_9 : (((n : Nat) : Int) : Int) < 3
    · refine sFix 13 (decide ((((n : Nat) : Int) : Int) < 3)) true (decide_eq_true hc_9) ?_
      refine p16 (by kernel_rfl) ?_
      refine p1 (by kernel_rfl) ?_
      refine nilO ?_
      refine thenK_n <| ?_
      refine condE_true (by kernel_rfl) ?_
      refine seqE ?_
      refine regionE ?_
      refine p1 (by kernel_rfl) ?_
      refine sT hS_3 0 0 (.agg #[.slice none 0 0, .slice none 0 0, .slice none 0 0, .int .i64 0]) [.slice none 0 0, .slice none 0 0, .slice none 0 0, .int .i64 0] #[.slice none 0 0, .slice none 0 0, .slice none 0 0, .int .i64 0] Try.sizeOf28 ?_
      intro w_10 hS_11
      try dsimp only [List.set, List.eraseIdx] at hS_11
      refine p1 (by kernel_rfl) ?_
      refine nilO ?_
      refine thenK_n <| ?_
      refine retE (thenK_r <| ?_)
      refine retN (vs := [.agg #[.slice none 0 0, .slice none 0 0, .slice none 0 0, .int .i64 0], .int .i64 4]) rfl (.cons (.cell _ _ _ _ (by kernel_rfl) (lvA hS_11 0 0 [.slice none 0 0, .slice none 0 0, .slice none 0 0, .int .i64 0] (Try.isAgg28 _) (Try.sizeOf28 _) rfl rfl rfl)) (.cons (.tmp _ _ (by kernel_rfl)) .nil)) <| ?_
      have hS_12 := hS_11.pick 1 rfl
      try dsimp only [List.set, List.eraseIdx] at hS_12
      have hS_13 := hS_12.dropAt 1 rfl
      change Sat _ _ (H :: F) at hS_13
      have h2 : Sat W _ ([] :: H :: F) := Sat.nilc hS_13
      exact ⟨(⟨⟨none, 0, 0, []⟩, ⟨none, 0, 0, []⟩, ⟨none, 0, 0, []⟩, 0⟩ : Job), [], 4, rfl, ⟨RdT.nil (enc := encPlane) (sz := 4) (fun _ => rfl) _, (fun z hz => by cases hz), RdT.nil (enc := encStage) (sz := 18) (fun _ => rfl) _, (fun z hz => by cases hz), RdT.nil (enc := encI) (sz := 1) (fun _ => rfl) _⟩, DecR.head (by omega) (.inl (by omega)), h2⟩
    · refine sFix 13 (decide ((((n : Nat) : Int) : Int) < 3)) false (decide_eq_false hc_9) ?_
      refine p1 (by kernel_rfl) ?_
      refine guardYes rfl ⟨_, rfl, rfl, by kernel_rfl⟩ ?_
      refine sIdx hx 0 Try.runUnderlying31 Try.sizeOf5 ?_
      intro x_14 b_15 o_16 hx_17 hp_18
      refine guardYes rfl ⟨_, rfl, rfl, by kernel_rfl⟩ ?_
      refine sLp hS_3 (hp_18.up 1 rfl) 0 (.int .u8 x_14) (Try.isAgg5 _) ?_
      refine p3 (by kernel_rfl) ?_
      by_cases hc_19 : (x_14 : Int) = 84
      · refine sFix 19 ((x_14 : Int) != 84) false (bne_eq_false_iff_eq.2 hc_19) ?_
        refine p1 (by kernel_rfl) ?_
        refine guardYes rfl ⟨_, rfl, rfl, by kernel_rfl⟩ ?_
        refine sIdx hx 1 Try.runUnderlying31 Try.sizeOf5 ?_
        intro x_20 b_21 o_22 hx_23 hp_24
        refine guardYes rfl ⟨_, rfl, rfl, by kernel_rfl⟩ ?_
        refine sLp hS_3 (hp_24.up 1 rfl) 0 (.int .u8 x_20) (Try.isAgg5 _) ?_
        refine p3 (by kernel_rfl) ?_
        by_cases hc_25 : (x_20 : Int) = 70
        · refine sFix 25 ((x_20 : Int) != 70) false (bne_eq_false_iff_eq.2 hc_25) ?_
          refine p1 (by kernel_rfl) ?_
          refine guardYes rfl ⟨_, rfl, rfl, by kernel_rfl⟩ ?_
          refine sIdx hx 2 Try.runUnderlying31 Try.sizeOf5 ?_
          intro x_26 b_27 o_28 hx_29 hp_30
          refine guardYes rfl ⟨_, rfl, rfl, by kernel_rfl⟩ ?_
          refine sLp hS_3 (hp_30.up 1 rfl) 0 (.int .u8 x_26) (Try.isAgg5 _) ?_
          refine p2 (by kernel_rfl) ?_
          refine nilO ?_
          refine thenK_n <| ?_
          by_cases hc_31 : (x_26 : Int) = 1
          · refine cF ((x_26 : Int) != 1) (bne_eq_false_iff_eq.2 hc_31) ?_
            refine skipE ?_
            refine thenK_n <| ?_
            refine seqE ?_
            refine regionE ?_
            refine p1 (by kernel_rfl) ?_
            refine sSl (some 3) none 3 n Try.runUnderlying31 Try.sizeOf5 ⟨by decide, rfl⟩ rfl (by omega) (by omega) ?_ (a := a) (len := n) (cap := k)
            have hP_32 := hx.part (lo := 3) (hi := n) (by omega) (by omega)
            refine p1 (by kernel_rfl) ?_
            refine sBox hS_3 (.agg #[.slice (partAddr a k 3 1) (n - 3) (k - 3), .bool false]) #[.slice (partAddr a k 3 1) (n - 3) (k - 3), .bool false] ?_
            intro b_33 w_34 hS_35
            refine p1 (by kernel_rfl) ?_
            refine nilO ?_
            refine thenK_n <| ?_
            refine seqE ?_
            have he_36 : x_14 = 84 := by omega
            have he_37 : x_20 = 70 := by omega
            have he_38 : x_26 = 1 := by omega
            have hx3 : x = [84, 70, 1] ++ x.drop 3 := by
              have h := take3 hx_17 hx_23 hx_29
              rw [he_36, he_37, he_38] at h; exact h
            have hR2 := hP_32
            rw [List.take_of_length_le (by simp; omega)] at hR2
            have hI0 : RdrR 84 H b_33 (x.drop 3) false [(b_33, .cells #[.slice (partAddr a k 3 1) (n - 3) (k - 3), .bool false] 84 (0, 0))] := ⟨_, _, _, rfl, hR2, (fun y hy => hB y (List.mem_of_mem_drop hy)), by simp; omega⟩
            refine regionE ?_
            refine p1 (by kernel_rfl) ?_
            have hS_39 := hS_35.pick 2 rfl
            have hS_40 := hS_39.pick 1 rfl
            try dsimp only [List.set, List.eraseIdx] at hS_40
            refine sF #[.pointer (some ⟨b_33, 0, none⟩)] Try.call39 (Calls.mono (rdr_job W _ _ _ _ _ _ _ hI0 hS_40) ?_)
            rintro _ w_41 ⟨q_43, G_44, r_45, b_46, rfl, hok_48, hG_49, fp_47, hI_50, hS_42⟩
            refine ⟨_, rfl, ?_⟩
            try dsimp only [List.set, List.eraseIdx] at hS_42
            refine sAlloc hS_42 Try.zeroValue28 ?_
            intro b_51 w_52 hS_53
            try dsimp only [List.set, List.eraseIdx] at hS_53
            refine sT hS_53 0 0 (.agg #[.slice q_43.inputs.a q_43.inputs.n q_43.inputs.k, .slice q_43.stages.a q_43.stages.n q_43.stages.k, .slice q_43.outputs.a q_43.outputs.n q_43.outputs.k, .int .i64 q_43.priority]) [.slice q_43.inputs.a q_43.inputs.n q_43.inputs.k, .slice q_43.stages.a q_43.stages.n q_43.stages.k, .slice q_43.outputs.a q_43.outputs.n q_43.outputs.k, .int .i64 q_43.priority] #[.slice q_43.inputs.a q_43.inputs.n q_43.inputs.k, .slice q_43.stages.a q_43.stages.n q_43.stages.k, .slice q_43.outputs.a q_43.outputs.n q_43.outputs.k, .int .i64 q_43.priority] Try.sizeOf28 ?_
            intro w_54 hS_55
            try dsimp only [List.set, List.eraseIdx] at hS_55
            refine nilO ?_
            refine thenK_n <| ?_
            refine seqE ?_
            refine seqE ?_
            have hS_61 := hS_55.pick 1 rfl
            try dsimp only [List.set, List.eraseIdx] at hS_61
            obtain ⟨a_56, n_57, k_58, rfl, hR_59, hB_60⟩ := hI_50
            have hll_a_56 := hR_59.len; have hle_a_56 := hR_59.le
            refine regionE ?_
            refine p3 (by kernel_rfl) ?_
            refine sL hS_61 0 1 (.bool b_46) (Try.isAgg4 _) ?_
            refine p1 (by kernel_rfl) ?_
            cases b_46
            · refine p3 (by kernel_rfl) ?_
              refine guardYes rfl ⟨_, rfl, rfl, by kernel_rfl⟩ ?_
              refine sL hS_61 0 0 (.slice a_56 n_57 k_58) (Try.isAgg31 _) ?_
              refine p3 (by kernel_rfl) ?_
              refine nilO ?_
              refine thenK_n <| ?_
              by_cases hc_62 : (((n_57 : Nat) : Int) : Int) > 0
              · refine cT (decide ((((n_57 : Nat) : Int) : Int) > 0)) (decide_eq_true hc_62) ?_
                refine seqE ?_
                refine regionE ?_
                refine p1 (by kernel_rfl) ?_
                refine sT hS_61 4 0 (.agg #[.slice none 0 0, .slice none 0 0, .slice none 0 0, .int .i64 0]) [.slice none 0 0, .slice none 0 0, .slice none 0 0, .int .i64 0] #[.slice none 0 0, .slice none 0 0, .slice none 0 0, .int .i64 0] Try.sizeOf28 ?_
                intro w_63 hS_64
                try dsimp only [List.set, List.eraseIdx] at hS_64
                refine p1 (by kernel_rfl) ?_
                refine nilO ?_
                refine thenK_n <| ?_
                refine retE (thenK_r <| ?_)
                refine retN (vs := [.agg #[.slice none 0 0, .slice none 0 0, .slice none 0 0, .int .i64 0], .int .i64 4]) rfl (.cons (.cell _ _ _ _ (by kernel_rfl) (lvA hS_64 4 0 [.slice none 0 0, .slice none 0 0, .slice none 0 0, .int .i64 0] (Try.isAgg28 _) (Try.sizeOf28 _) rfl rfl rfl)) (.cons (.tmp _ _ (by kernel_rfl)) .nil)) <| ?_
                have hI_65 : RdrR 84 H b_33 r_45 false [(b_33, .cells #[.slice a_56 n_57 k_58, .bool false] 84 (0, 0))] := ⟨_, _, _, rfl, hR_59, hB_60⟩
                have hgot := hG_49
                have hS_66 := hS_64.pick 3 rfl
                try dsimp only [List.set, List.eraseIdx] at hS_66
                have hS_67 := hS_66.dropAt 1 rfl
                have hS_68 := hS_67.dropAt 1 rfl
                have hS_69 := hS_68.dropAt 1 rfl
                have hS_70 := hS_69.dropAt 1 rfl
                change Sat _ _ (H :: F) at hS_70
                have h2 : Sat W _ ([] :: H :: F) := Sat.nilc hS_70
                exact ⟨(⟨⟨none, 0, 0, []⟩, ⟨none, 0, 0, []⟩, ⟨none, 0, 0, []⟩, 0⟩ : Job), [], 4, rfl, ⟨RdT.nil (enc := encPlane) (sz := 4) (fun _ => rfl) _, (fun z hz => by cases hz), RdT.nil (enc := encStage) (sz := 18) (fun _ => rfl) _, (fun z hz => by cases hz), RdT.nil (enc := encI) (sz := 1) (fun _ => rfl) _⟩, DecR.fail (by omega) hx3 hgot (by first | (left; rfl) | (right; omega)), h2⟩
              · refine cF (decide ((((n_57 : Nat) : Int) : Int) > 0)) (decide_eq_false hc_62) ?_
                refine skipE ?_
                refine thenK_n <| ?_
                refine seqE ?_
                refine regionE ?_
                refine sLA hS_61 1 0 [.slice q_43.inputs.a q_43.inputs.n q_43.inputs.k, .slice q_43.stages.a q_43.stages.n q_43.stages.k, .slice q_43.outputs.a q_43.outputs.n q_43.outputs.k, .int .i64 q_43.priority] (Try.isAgg28 _) (Try.sizeOf28 _) ?_
                refine sT hS_61 4 0 (.agg #[.slice q_43.inputs.a q_43.inputs.n q_43.inputs.k, .slice q_43.stages.a q_43.stages.n q_43.stages.k, .slice q_43.outputs.a q_43.outputs.n q_43.outputs.k, .int .i64 q_43.priority]) [.slice q_43.inputs.a q_43.inputs.n q_43.inputs.k, .slice q_43.stages.a q_43.stages.n q_43.stages.k, .slice q_43.outputs.a q_43.outputs.n q_43.outputs.k, .int .i64 q_43.priority] #[.slice q_43.inputs.a q_43.inputs.n q_43.inputs.k, .slice q_43.stages.a q_43.stages.n q_43.stages.k, .slice q_43.outputs.a q_43.outputs.n q_43.outputs.k, .int .i64 q_43.priority] Try.sizeOf28 ?_
                intro w_71 hS_72
                try dsimp only [List.set, List.eraseIdx] at hS_72
                refine p1 (by kernel_rfl) ?_
                refine nilO ?_
                refine thenK_n <| ?_
                refine retE ?_
                refine retN (vs := [.agg #[.slice q_43.inputs.a q_43.inputs.n q_43.inputs.k, .slice q_43.stages.a q_43.stages.n q_43.stages.k, .slice q_43.outputs.a q_43.outputs.n q_43.outputs.k, .int .i64 q_43.priority], .int .i64 0]) rfl (.cons (.cell _ _ _ _ (by kernel_rfl) (lvA hS_72 4 0 [.slice q_43.inputs.a q_43.inputs.n q_43.inputs.k, .slice q_43.stages.a q_43.stages.n q_43.stages.k, .slice q_43.outputs.a q_43.outputs.n q_43.outputs.k, .int .i64 q_43.priority] (Try.isAgg28 _) (Try.sizeOf28 _) rfl rfl rfl)) (.cons (.tmp _ _ (by kernel_rfl)) .nil)) <| ?_
                have hI_73 : RdrR 84 H b_33 r_45 false [(b_33, .cells #[.slice a_56 n_57 k_58, .bool false] 84 (0, 0))] := ⟨_, _, _, rfl, hR_59, hB_60⟩
                have hgot := hG_49
                have hr0 : r_45 = [] := List.eq_nil_of_length_eq_zero (by omega)
                have hS_74 := hS_72.pick 3 rfl
                have hS_75 := hS_74.pick 3 rfl
                try dsimp only [List.set, List.eraseIdx] at hS_75
                have hS_76 := hS_75.dropAt 2 rfl
                have hS_77 := hS_76.dropAt 2 rfl
                have hS_78 := hS_77.dropAt 2 rfl
                change Sat _ _ (G_44 :: H :: F) at hS_78
                exact ⟨q_43, _, 0, rfl, hok_48, DecR.good (by omega) hx3 hgot rfl hr0, hS_78⟩
            · refine p7 (by kernel_rfl) ?_
              refine nilO ?_
              refine thenK_n <| ?_
              refine condE_true (by kernel_rfl) ?_
              refine seqE ?_
              refine regionE ?_
              refine p1 (by kernel_rfl) ?_
              refine sT hS_61 4 0 (.agg #[.slice none 0 0, .slice none 0 0, .slice none 0 0, .int .i64 0]) [.slice none 0 0, .slice none 0 0, .slice none 0 0, .int .i64 0] #[.slice none 0 0, .slice none 0 0, .slice none 0 0, .int .i64 0] Try.sizeOf28 ?_
              intro w_79 hS_80
              try dsimp only [List.set, List.eraseIdx] at hS_80
              refine p1 (by kernel_rfl) ?_
              refine nilO ?_
              refine thenK_n <| ?_
              refine retE (thenK_r <| ?_)
              refine retN (vs := [.agg #[.slice none 0 0, .slice none 0 0, .slice none 0 0, .int .i64 0], .int .i64 4]) rfl (.cons (.cell _ _ _ _ (by kernel_rfl) (lvA hS_80 4 0 [.slice none 0 0, .slice none 0 0, .slice none 0 0, .int .i64 0] (Try.isAgg28 _) (Try.sizeOf28 _) rfl rfl rfl)) (.cons (.tmp _ _ (by kernel_rfl)) .nil)) <| ?_
              have hI_81 : RdrR 84 H b_33 r_45 true [(b_33, .cells #[.slice a_56 n_57 k_58, .bool true] 84 (0, 0))] := ⟨_, _, _, rfl, hR_59, hB_60⟩
              have hgot := hG_49
              have hS_82 := hS_80.pick 3 rfl
              try dsimp only [List.set, List.eraseIdx] at hS_82
              have hS_83 := hS_82.dropAt 1 rfl
              have hS_84 := hS_83.dropAt 1 rfl
              have hS_85 := hS_84.dropAt 1 rfl
              have hS_86 := hS_85.dropAt 1 rfl
              change Sat _ _ (H :: F) at hS_86
              have h2 : Sat W _ ([] :: H :: F) := Sat.nilc hS_86
              exact ⟨(⟨⟨none, 0, 0, []⟩, ⟨none, 0, 0, []⟩, ⟨none, 0, 0, []⟩, 0⟩ : Job), [], 4, rfl, ⟨RdT.nil (enc := encPlane) (sz := 4) (fun _ => rfl) _, (fun z hz => by cases hz), RdT.nil (enc := encStage) (sz := 18) (fun _ => rfl) _, (fun z hz => by cases hz), RdT.nil (enc := encI) (sz := 1) (fun _ => rfl) _⟩, DecR.fail (by omega) hx3 hgot (by first | (left; rfl) | (right; omega)), h2⟩
          · refine cT ((x_26 : Int) != 1) (bne_iff_ne.2 hc_31) ?_
            refine seqE ?_
            refine regionE ?_
            refine p1 (by kernel_rfl) ?_
            refine sT hS_3 0 0 (.agg #[.slice none 0 0, .slice none 0 0, .slice none 0 0, .int .i64 0]) [.slice none 0 0, .slice none 0 0, .slice none 0 0, .int .i64 0] #[.slice none 0 0, .slice none 0 0, .slice none 0 0, .int .i64 0] Try.sizeOf28 ?_
            intro w_87 hS_88
            try dsimp only [List.set, List.eraseIdx] at hS_88
            refine p1 (by kernel_rfl) ?_
            refine nilO ?_
            refine thenK_n <| ?_
            refine retE (thenK_r <| ?_)
            refine retN (vs := [.agg #[.slice none 0 0, .slice none 0 0, .slice none 0 0, .int .i64 0], .int .i64 4]) rfl (.cons (.cell _ _ _ _ (by kernel_rfl) (lvA hS_88 0 0 [.slice none 0 0, .slice none 0 0, .slice none 0 0, .int .i64 0] (Try.isAgg28 _) (Try.sizeOf28 _) rfl rfl rfl)) (.cons (.tmp _ _ (by kernel_rfl)) .nil)) <| ?_
            have hS_89 := hS_88.pick 1 rfl
            try dsimp only [List.set, List.eraseIdx] at hS_89
            have hS_90 := hS_89.dropAt 1 rfl
            change Sat _ _ (H :: F) at hS_90
            have h2 : Sat W _ ([] :: H :: F) := Sat.nilc hS_90
            exact ⟨(⟨⟨none, 0, 0, []⟩, ⟨none, 0, 0, []⟩, ⟨none, 0, 0, []⟩, 0⟩ : Job), [], 4, rfl, ⟨RdT.nil (enc := encPlane) (sz := 4) (fun _ => rfl) _, (fun z hz => by cases hz), RdT.nil (enc := encStage) (sz := 18) (fun _ => rfl) _, (fun z hz => by cases hz), RdT.nil (enc := encI) (sz := 1) (fun _ => rfl) _⟩, DecR.head (by omega) (.inr (.inr (.inr ⟨_, hx_29, by omega⟩))), h2⟩
        · refine sFix 25 ((x_20 : Int) != 70) true (bne_iff_ne.2 hc_25) ?_
          refine p5 (by kernel_rfl) ?_
          refine nilO ?_
          refine thenK_n <| ?_
          refine condE_true (by kernel_rfl) ?_
          refine seqE ?_
          refine regionE ?_
          refine p1 (by kernel_rfl) ?_
          refine sT hS_3 0 0 (.agg #[.slice none 0 0, .slice none 0 0, .slice none 0 0, .int .i64 0]) [.slice none 0 0, .slice none 0 0, .slice none 0 0, .int .i64 0] #[.slice none 0 0, .slice none 0 0, .slice none 0 0, .int .i64 0] Try.sizeOf28 ?_
          intro w_91 hS_92
          try dsimp only [List.set, List.eraseIdx] at hS_92
          refine p1 (by kernel_rfl) ?_
          refine nilO ?_
          refine thenK_n <| ?_
          refine retE (thenK_r <| ?_)
          refine retN (vs := [.agg #[.slice none 0 0, .slice none 0 0, .slice none 0 0, .int .i64 0], .int .i64 4]) rfl (.cons (.cell _ _ _ _ (by kernel_rfl) (lvA hS_92 0 0 [.slice none 0 0, .slice none 0 0, .slice none 0 0, .int .i64 0] (Try.isAgg28 _) (Try.sizeOf28 _) rfl rfl rfl)) (.cons (.tmp _ _ (by kernel_rfl)) .nil)) <| ?_
          have hS_93 := hS_92.pick 1 rfl
          try dsimp only [List.set, List.eraseIdx] at hS_93
          have hS_94 := hS_93.dropAt 1 rfl
          change Sat _ _ (H :: F) at hS_94
          have h2 : Sat W _ ([] :: H :: F) := Sat.nilc hS_94
          exact ⟨(⟨⟨none, 0, 0, []⟩, ⟨none, 0, 0, []⟩, ⟨none, 0, 0, []⟩, 0⟩ : Job), [], 4, rfl, ⟨RdT.nil (enc := encPlane) (sz := 4) (fun _ => rfl) _, (fun z hz => by cases hz), RdT.nil (enc := encStage) (sz := 18) (fun _ => rfl) _, (fun z hz => by cases hz), RdT.nil (enc := encI) (sz := 1) (fun _ => rfl) _⟩, DecR.head (by omega) (.inr (.inr (.inl ⟨_, hx_23, by omega⟩))), h2⟩
      · refine sFix 19 ((x_14 : Int) != 84) true (bne_iff_ne.2 hc_19) ?_
        refine p11 (by kernel_rfl) ?_
        refine nilO ?_
        refine thenK_n <| ?_
        refine condE_true (by kernel_rfl) ?_
        refine seqE ?_
        refine regionE ?_
        refine p1 (by kernel_rfl) ?_
        refine sT hS_3 0 0 (.agg #[.slice none 0 0, .slice none 0 0, .slice none 0 0, .int .i64 0]) [.slice none 0 0, .slice none 0 0, .slice none 0 0, .int .i64 0] #[.slice none 0 0, .slice none 0 0, .slice none 0 0, .int .i64 0] Try.sizeOf28 ?_
        intro w_95 hS_96
        try dsimp only [List.set, List.eraseIdx] at hS_96
        refine p1 (by kernel_rfl) ?_
        refine nilO ?_
        refine thenK_n <| ?_
        refine retE (thenK_r <| ?_)
        refine retN (vs := [.agg #[.slice none 0 0, .slice none 0 0, .slice none 0 0, .int .i64 0], .int .i64 4]) rfl (.cons (.cell _ _ _ _ (by kernel_rfl) (lvA hS_96 0 0 [.slice none 0 0, .slice none 0 0, .slice none 0 0, .int .i64 0] (Try.isAgg28 _) (Try.sizeOf28 _) rfl rfl rfl)) (.cons (.tmp _ _ (by kernel_rfl)) .nil)) <| ?_
        have hS_97 := hS_96.pick 1 rfl
        try dsimp only [List.set, List.eraseIdx] at hS_97
        have hS_98 := hS_97.dropAt 1 rfl
        change Sat _ _ (H :: F) at hS_98
        have h2 : Sat W _ ([] :: H :: F) := Sat.nilc hS_98
        exact ⟨(⟨⟨none, 0, 0, []⟩, ⟨none, 0, 0, []⟩, ⟨none, 0, 0, []⟩, 0⟩ : Job), [], 4, rfl, ⟨RdT.nil (enc := encPlane) (sz := 4) (fun _ => rfl) _, (fun z hz => by cases hz), RdT.nil (enc := encStage) (sz := 18) (fun _ => rfl) _, (fun z hz => by cases hz), RdT.nil (enc := encI) (sz := 1) (fun _ => rfl) _⟩, DecR.head (by omega) (.inr (.inl ⟨_, hx_17, by omega⟩)), h2⟩
theorem rrf_stage (W w : World) (p : Nat) (H fp : Chunk) (F : List Chunk) (r : List Int) (b : Bool) (hI : RdrR 102 H p r b fp) (hS : Sat W w (fp :: H :: F)) :
    Calls Try.prog 52 #[.pointer (some ⟨p, 0, none⟩)] w fun e w' => ∃ (q : Stage) (G : Chunk) (r' : List Int) (b' : Bool), e = .returned (.agg #[.int .i64 q.kind, .int .i64 q.a, .int .i64 q.b, .bool q.barrier, .int .i64 q.edgePolicy, .int .i64 q.edgeFill, .int .i64 q.kW, .int .i64 q.kH, .slice q.weights.a q.weights.n q.weights.k, .slice q.row.a q.row.n q.row.k, .slice q.col.a q.col.n q.col.k, .int .i64 q.shift, .int .i64 q.shift2, .slice q.x.a q.x.n q.x.k, .slice q.y.a q.y.n q.y.k, .int .i64 q.bins, .slice q.ops.a q.ops.n q.ops.k, .int .i64 q.max_]) ∧ Stage.Ok [G] q ∧ Got nStage wfStage r b q.v r' b' ∧ ∃ fp' : Chunk, RdrR 102 H p r' b' fp' ∧ Sat W w' (fp' :: G :: H :: F) := by
  refine callsE (n := 93) Try.func52 rfl rfl (Nat.le_of_ble_eq_true rfl) ?_
  refine seqE ?_
  refine regionE ?_
  refine sAlloc hS Try.zeroValue61 ?_
  intro b_1 w_2 hS_3
  try dsimp only [List.set, List.eraseIdx] at hS_3
  refine nilO ?_
  refine thenK_n <| ?_
  refine seqE ?_
  refine regionE ?_
  refine p1 (by kernel_rfl) ?_
  refine sAlloc hS_3 Try.zeroValue61 ?_
  intro b_4 w_5 hS_6
  try dsimp only [List.set, List.eraseIdx] at hS_6
  refine sT hS_6 0 0 (.agg #[.int .i64 0, .int .i64 0, .int .i64 0, .bool false, .int .i64 0, .int .i64 0, .int .i64 0, .int .i64 0, .slice none 0 0, .slice none 0 0, .slice none 0 0, .int .i64 0, .int .i64 0, .slice none 0 0, .slice none 0 0, .int .i64 0, .slice none 0 0, .int .i64 0]) [.int .i64 0, .int .i64 0, .int .i64 0, .bool false, .int .i64 0, .int .i64 0, .int .i64 0, .int .i64 0, .slice none 0 0, .slice none 0 0, .slice none 0 0, .int .i64 0, .int .i64 0, .slice none 0 0, .slice none 0 0, .int .i64 0, .slice none 0 0, .int .i64 0] #[.int .i64 0, .int .i64 0, .int .i64 0, .bool false, .int .i64 0, .int .i64 0, .int .i64 0, .int .i64 0, .slice none 0 0, .slice none 0 0, .slice none 0 0, .int .i64 0, .int .i64 0, .slice none 0 0, .slice none 0 0, .int .i64 0, .slice none 0 0, .int .i64 0] Try.sizeOf61 ?_
  intro w_7 hS_8
  try dsimp only [List.set, List.eraseIdx] at hS_8
  refine nilO ?_
  refine thenK_n <| ?_
  refine seqE ?_
  refine regionE ?_
  refine p1 (by kernel_rfl) ?_
  have hS_9 := hS_8.pick 3 rfl
  have hS_10 := hS_9.pick 3 rfl
  try dsimp only [List.set, List.eraseIdx] at hS_10
  refine sF #[.pointer (some ⟨p, 0, none⟩)] Try.call49 (Calls.mono (rrf_number W _ _ _ _ _ _ _ hI hS_10) ?_)
  rintro _ w_11 ⟨v_13, r_14, b_15, rfl, hG_17, hW_18, fp_16, hI_19, hS_12⟩
  refine ⟨_, rfl, ?_⟩
  try dsimp only [List.set, List.eraseIdx] at hS_12
  refine p1 (by kernel_rfl) ?_
  refine sT hS_12 2 0 (.int .i64 v_13) [.int .i64 v_13] #[.int .i64 v_13, .int .i64 0, .int .i64 0, .bool false, .int .i64 0, .int .i64 0, .int .i64 0, .int .i64 0, .slice none 0 0, .slice none 0 0, .slice none 0 0, .int .i64 0, .int .i64 0, .slice none 0 0, .slice none 0 0, .int .i64 0, .slice none 0 0, .int .i64 0] Try.sizeOf3 ?_
  intro w_20 hS_21
  try dsimp only [List.set, List.eraseIdx] at hS_21
  refine nilO ?_
  refine thenK_n <| ?_
  refine seqE ?_
  refine regionE ?_
  refine p1 (by kernel_rfl) ?_
  have hS_22 := hS_21.pick 1 rfl
  have hS_23 := hS_22.pick 1 rfl
  try dsimp only [List.set, List.eraseIdx] at hS_23
  refine sF #[.pointer (some ⟨p, 0, none⟩)] Try.call49 (Calls.mono (rrf_number W _ _ _ _ _ _ _ hI_19 hS_23) ?_)
  rintro _ w_24 ⟨v_26, r_27, b_28, rfl, hG_30, hW_31, fp_29, hI_32, hS_25⟩
  refine ⟨_, rfl, ?_⟩
  try dsimp only [List.set, List.eraseIdx] at hS_25
  refine p1 (by kernel_rfl) ?_
  refine sT hS_25 2 1 (.int .i64 v_26) [.int .i64 v_26] #[.int .i64 v_13, .int .i64 v_26, .int .i64 0, .bool false, .int .i64 0, .int .i64 0, .int .i64 0, .int .i64 0, .slice none 0 0, .slice none 0 0, .slice none 0 0, .int .i64 0, .int .i64 0, .slice none 0 0, .slice none 0 0, .int .i64 0, .slice none 0 0, .int .i64 0] Try.sizeOf3 ?_
  intro w_33 hS_34
  try dsimp only [List.set, List.eraseIdx] at hS_34
  refine nilO ?_
  refine thenK_n <| ?_
  refine seqE ?_
  refine regionE ?_
  refine p1 (by kernel_rfl) ?_
  have hS_35 := hS_34.pick 1 rfl
  have hS_36 := hS_35.pick 1 rfl
  try dsimp only [List.set, List.eraseIdx] at hS_36
  refine sF #[.pointer (some ⟨p, 0, none⟩)] Try.call49 (Calls.mono (rrf_number W _ _ _ _ _ _ _ hI_32 hS_36) ?_)
  rintro _ w_37 ⟨v_39, r_40, b_41, rfl, hG_43, hW_44, fp_42, hI_45, hS_38⟩
  refine ⟨_, rfl, ?_⟩
  try dsimp only [List.set, List.eraseIdx] at hS_38
  refine p1 (by kernel_rfl) ?_
  refine sT hS_38 2 2 (.int .i64 v_39) [.int .i64 v_39] #[.int .i64 v_13, .int .i64 v_26, .int .i64 v_39, .bool false, .int .i64 0, .int .i64 0, .int .i64 0, .int .i64 0, .slice none 0 0, .slice none 0 0, .slice none 0 0, .int .i64 0, .int .i64 0, .slice none 0 0, .slice none 0 0, .int .i64 0, .slice none 0 0, .int .i64 0] Try.sizeOf3 ?_
  intro w_46 hS_47
  try dsimp only [List.set, List.eraseIdx] at hS_47
  refine nilO ?_
  refine thenK_n <| ?_
  refine cutE (fun ρ w => ∃ (bar : Bool) (rb : List Int) (bb : Bool) (fpb : Chunk), AllAt ρ [(0, .pointer (some ⟨p, 0, none⟩)), (2, .pointer (some ⟨b_1, 0, none⟩)), (3, .pointer (some ⟨b_4, 0, none⟩))] ∧ Sat W w (fpb :: [(b_4, .cells #[.int .i64 v_13, .int .i64 v_26, .int .i64 v_39, .bool bar, .int .i64 0, .int .i64 0, .int .i64 0, .int .i64 0, .slice none 0 0, .slice none 0 0, .slice none 0 0, .int .i64 0, .int .i64 0, .slice none 0 0, .slice none 0 0, .int .i64 0, .slice none 0 0, .int .i64 0] 61 (0, 0))] :: [(b_1, .cells #[.int .i64 0, .int .i64 0, .int .i64 0, .bool false, .int .i64 0, .int .i64 0, .int .i64 0, .int .i64 0, .slice none 0 0, .slice none 0 0, .slice none 0 0, .int .i64 0, .int .i64 0, .slice none 0 0, .slice none 0 0, .int .i64 0, .slice none 0 0, .int .i64 0] 61 (0, 0))] :: H :: F) ∧ Got encBo wfBo r_40 b_41 bar rb bb ∧ RdrR 102 H p rb bb fpb) ?_ ?_
  · refine seqE ?_
    refine regionE ?_
    refine p1 (by kernel_rfl) ?_
    have hS_48 := hS_47.pick 1 rfl
    have hS_49 := hS_48.pick 1 rfl
    try dsimp only [List.set, List.eraseIdx] at hS_49
    refine sF #[.pointer (some ⟨p, 0, none⟩)] Try.call49 (Calls.mono (rrf_number W _ _ _ _ _ _ _ hI_45 hS_49) ?_)
    rintro _ w_50 ⟨v_52, r_53, b_54, rfl, hG_56, hW_57, fp_55, hI_58, hS_51⟩
    refine ⟨_, rfl, ?_⟩
    try dsimp only [List.set, List.eraseIdx] at hS_51
    refine nilO ?_
    refine thenK_n <| ?_
    refine blockE ?_
    refine seqE ?_
    refine regionE ?_
    refine p2 (by kernel_rfl) ?_
    refine nilO ?_
    refine thenK_n <| ?_
    by_cases hc_59 : (v_52 : Int) = 0
    · refine cT ((v_52 : Int) == 0) (beq_iff_eq.2 hc_59) ?_
      refine skipE ?_
      refine blockK_n <| thenK_n <| ?_
      have hS_60 := hS_51.pick 1 rfl
      have hS_61 := hS_60.pick 3 rfl
      have hS_62 := hS_61.pick 3 rfl
      have hS_63 := hS_62.pick 3 rfl
      try dsimp only [List.set, List.eraseIdx] at hS_63
      try dsimp only [List.set, List.eraseIdx] at hS_63
      exact ⟨false, r_53, b_54, fp_55, ⟨by kernel_rfl, by kernel_rfl, by kernel_rfl, trivial⟩, hS_63, Got.bool false hG_56 (by simp only [nBool, if_true, if_false, Bool.false_eq_true]; omega), hI_58⟩
    · refine cF ((v_52 : Int) == 0) (beq_eq_false_iff_ne.2 hc_59) ?_
      refine seqE ?_
      refine regionE ?_
      refine p2 (by kernel_rfl) ?_
      refine nilO ?_
      refine thenK_n <| ?_
      by_cases hc_64 : (v_52 : Int) = 1
      · refine cT ((v_52 : Int) == 1) (beq_iff_eq.2 hc_64) ?_
        refine regionE ?_
        refine p1 (by kernel_rfl) ?_
        refine sT hS_51 2 3 (.bool true) [.bool true] #[.int .i64 v_13, .int .i64 v_26, .int .i64 v_39, .bool true, .int .i64 0, .int .i64 0, .int .i64 0, .int .i64 0, .slice none 0 0, .slice none 0 0, .slice none 0 0, .int .i64 0, .int .i64 0, .slice none 0 0, .slice none 0 0, .int .i64 0, .slice none 0 0, .int .i64 0] Try.sizeOf4 ?_
        intro w_65 hS_66
        try dsimp only [List.set, List.eraseIdx] at hS_66
        refine nilO ?_
        refine blockK_n <| thenK_n <| ?_
        have hS_67 := hS_66.pick 1 rfl
        have hS_68 := hS_67.pick 3 rfl
        have hS_69 := hS_68.pick 3 rfl
        have hS_70 := hS_69.pick 3 rfl
        try dsimp only [List.set, List.eraseIdx] at hS_70
        try dsimp only [List.set, List.eraseIdx] at hS_70
        exact ⟨true, r_53, b_54, fp_55, ⟨by kernel_rfl, by kernel_rfl, by kernel_rfl, trivial⟩, hS_70, Got.bool true hG_56 (by simp only [nBool, if_true, if_false, Bool.false_eq_true]; omega), hI_58⟩
      · refine cF ((v_52 : Int) == 1) (beq_eq_false_iff_ne.2 hc_64) ?_
        try dsimp only [List.set, List.eraseIdx] at hS_51
        obtain ⟨a_71, n_72, k_73, rfl, hR_74, hB_75⟩ := hI_58
        have hll_a_71 := hR_74.len; have hle_a_71 := hR_74.le
        refine regionE ?_
        refine p3 (by kernel_rfl) ?_
        refine sT hS_51 0 1 (.bool true) [.bool true] #[.slice a_71 n_72 k_73, .bool true] Try.sizeOf4 ?_
        intro w_76 hS_77
        try dsimp only [List.set, List.eraseIdx] at hS_77
        refine nilO ?_
        refine blockK_n <| thenK_n <| ?_
        have hI_78 : RdrR 102 H p r_53 true [(p, .cells #[.slice a_71 n_72 k_73, .bool true] 102 (0, 0))] := ⟨_, _, _, rfl, hR_74, hB_75⟩
        have hS_79 := hS_77.pick 1 rfl
        have hS_80 := hS_79.pick 3 rfl
        have hS_81 := hS_80.pick 3 rfl
        have hS_82 := hS_81.pick 3 rfl
        try dsimp only [List.set, List.eraseIdx] at hS_82
        try dsimp only [List.set, List.eraseIdx] at hS_82
        exact ⟨false, r_53, true, [(p, .cells #[.slice a_71 n_72 k_73, .bool true] 102 (0, 0))], ⟨by kernel_rfl, by kernel_rfl, by kernel_rfl, trivial⟩, hS_82, Got.boolbad false hG_56 (by omega) (by omega), hI_78⟩
  · rintro ρ w_83 ⟨bar, rb, bb, fpb, hA, hS_84, hGb, hIb⟩
    refine cAnchor hA (fun ρ => ?_)
    clear hA
    refine seqE ?_
    refine regionE ?_
    refine p1 (by kernel_rfl) ?_
    have hS_85 := hS_84.pick 3 rfl
    have hS_86 := hS_85.pick 1 rfl
    try dsimp only [List.set, List.eraseIdx] at hS_86
    refine sF #[.pointer (some ⟨p, 0, none⟩)] Try.call49 (Calls.mono (rrf_number W _ _ _ _ _ _ _ hIb hS_86) ?_)
    rintro _ w_87 ⟨v_89, r_90, b_91, rfl, hG_93, hW_94, fp_92, hI_95, hS_88⟩
    refine ⟨_, rfl, ?_⟩
    try dsimp only [List.set, List.eraseIdx] at hS_88
    refine p2 (by kernel_rfl) ?_
    refine sT hS_88 2 4 (.int .i64 v_89) [.int .i64 v_89] #[.int .i64 v_13, .int .i64 v_26, .int .i64 v_39, .bool bar, .int .i64 v_89, .int .i64 0, .int .i64 0, .int .i64 0, .slice none 0 0, .slice none 0 0, .slice none 0 0, .int .i64 0, .int .i64 0, .slice none 0 0, .slice none 0 0, .int .i64 0, .slice none 0 0, .int .i64 0] Try.sizeOf3 ?_
    intro w_96 hS_97
    try dsimp only [List.set, List.eraseIdx] at hS_97
    refine nilO ?_
    refine thenK_n <| ?_
    refine seqE ?_
    refine regionE ?_
    refine p1 (by kernel_rfl) ?_
    have hS_98 := hS_97.pick 1 rfl
    have hS_99 := hS_98.pick 1 rfl
    try dsimp only [List.set, List.eraseIdx] at hS_99
    refine sF #[.pointer (some ⟨p, 0, none⟩)] Try.call49 (Calls.mono (rrf_number W _ _ _ _ _ _ _ hI_95 hS_99) ?_)
    rintro _ w_100 ⟨v_102, r_103, b_104, rfl, hG_106, hW_107, fp_105, hI_108, hS_101⟩
    refine ⟨_, rfl, ?_⟩
    try dsimp only [List.set, List.eraseIdx] at hS_101
    refine p2 (by kernel_rfl) ?_
    refine sT hS_101 2 5 (.int .i64 v_102) [.int .i64 v_102] #[.int .i64 v_13, .int .i64 v_26, .int .i64 v_39, .bool bar, .int .i64 v_89, .int .i64 v_102, .int .i64 0, .int .i64 0, .slice none 0 0, .slice none 0 0, .slice none 0 0, .int .i64 0, .int .i64 0, .slice none 0 0, .slice none 0 0, .int .i64 0, .slice none 0 0, .int .i64 0] Try.sizeOf3 ?_
    intro w_109 hS_110
    try dsimp only [List.set, List.eraseIdx] at hS_110
    refine nilO ?_
    refine thenK_n <| ?_
    refine seqE ?_
    refine regionE ?_
    refine p1 (by kernel_rfl) ?_
    have hS_111 := hS_110.pick 1 rfl
    have hS_112 := hS_111.pick 1 rfl
    try dsimp only [List.set, List.eraseIdx] at hS_112
    refine sF #[.pointer (some ⟨p, 0, none⟩)] Try.call49 (Calls.mono (rrf_number W _ _ _ _ _ _ _ hI_108 hS_112) ?_)
    rintro _ w_113 ⟨v_115, r_116, b_117, rfl, hG_119, hW_120, fp_118, hI_121, hS_114⟩
    refine ⟨_, rfl, ?_⟩
    try dsimp only [List.set, List.eraseIdx] at hS_114
    refine p1 (by kernel_rfl) ?_
    refine sT hS_114 2 6 (.int .i64 v_115) [.int .i64 v_115] #[.int .i64 v_13, .int .i64 v_26, .int .i64 v_39, .bool bar, .int .i64 v_89, .int .i64 v_102, .int .i64 v_115, .int .i64 0, .slice none 0 0, .slice none 0 0, .slice none 0 0, .int .i64 0, .int .i64 0, .slice none 0 0, .slice none 0 0, .int .i64 0, .slice none 0 0, .int .i64 0] Try.sizeOf3 ?_
    intro w_122 hS_123
    try dsimp only [List.set, List.eraseIdx] at hS_123
    refine nilO ?_
    refine thenK_n <| ?_
    refine seqE ?_
    refine regionE ?_
    refine p1 (by kernel_rfl) ?_
    have hS_124 := hS_123.pick 1 rfl
    have hS_125 := hS_124.pick 1 rfl
    try dsimp only [List.set, List.eraseIdx] at hS_125
    refine sF #[.pointer (some ⟨p, 0, none⟩)] Try.call49 (Calls.mono (rrf_number W _ _ _ _ _ _ _ hI_121 hS_125) ?_)
    rintro _ w_126 ⟨v_128, r_129, b_130, rfl, hG_132, hW_133, fp_131, hI_134, hS_127⟩
    refine ⟨_, rfl, ?_⟩
    try dsimp only [List.set, List.eraseIdx] at hS_127
    refine p1 (by kernel_rfl) ?_
    refine sT hS_127 2 7 (.int .i64 v_128) [.int .i64 v_128] #[.int .i64 v_13, .int .i64 v_26, .int .i64 v_39, .bool bar, .int .i64 v_89, .int .i64 v_102, .int .i64 v_115, .int .i64 v_128, .slice none 0 0, .slice none 0 0, .slice none 0 0, .int .i64 0, .int .i64 0, .slice none 0 0, .slice none 0 0, .int .i64 0, .slice none 0 0, .int .i64 0] Try.sizeOf3 ?_
    intro w_135 hS_136
    try dsimp only [List.set, List.eraseIdx] at hS_136
    refine nilO ?_
    refine thenK_n <| ?_
    refine seqE ?_
    refine regionE ?_
    refine p1 (by kernel_rfl) ?_
    have hS_137 := hS_136.pick 1 rfl
    have hS_138 := hS_137.pick 1 rfl
    try dsimp only [List.set, List.eraseIdx] at hS_138
    refine sF #[.pointer (some ⟨p, 0, none⟩)] Try.call51 (Calls.mono (rrf_numbers W _ _ _ _ _ _ _ hI_134 hS_138) ?_)
    rintro _ w_139 ⟨a_141, n_142, k_143, xs_144, G_145, r_146, b_147, rfl, hR_149, hG_151, fp_148, hI_152, hS_140⟩
    refine ⟨_, rfl, ?_⟩
    try dsimp only [List.set, List.eraseIdx] at hS_140
    refine p1 (by kernel_rfl) ?_
    refine sT hS_140 3 8 (.slice a_141 n_142 k_143) [.slice a_141 n_142 k_143] #[.int .i64 v_13, .int .i64 v_26, .int .i64 v_39, .bool bar, .int .i64 v_89, .int .i64 v_102, .int .i64 v_115, .int .i64 v_128, .slice a_141 n_142 k_143, .slice none 0 0, .slice none 0 0, .int .i64 0, .int .i64 0, .slice none 0 0, .slice none 0 0, .int .i64 0, .slice none 0 0, .int .i64 0] Try.sizeOf22 ?_
    intro w_153 hS_154
    try dsimp only [List.set, List.eraseIdx] at hS_154
    refine nilO ?_
    refine thenK_n <| ?_
    refine seqE ?_
    refine regionE ?_
    refine p1 (by kernel_rfl) ?_
    have hS_155 := hS_154.pick 2 rfl
    have hS_156 := hS_155.pick 1 rfl
    try dsimp only [List.set, List.eraseIdx] at hS_156
    refine sF #[.pointer (some ⟨p, 0, none⟩)] Try.call51 (Calls.mono (rrf_numbers W _ _ _ _ _ _ _ hI_152 hS_156) ?_)
    rintro _ w_157 ⟨a_159, n_160, k_161, xs_162, G_163, r_164, b_165, rfl, hR_167, hG_169, fp_166, hI_170, hS_158⟩
    refine ⟨_, rfl, ?_⟩
    try dsimp only [List.set, List.eraseIdx] at hS_158
    refine p1 (by kernel_rfl) ?_
    refine sT hS_158 4 9 (.slice a_159 n_160 k_161) [.slice a_159 n_160 k_161] #[.int .i64 v_13, .int .i64 v_26, .int .i64 v_39, .bool bar, .int .i64 v_89, .int .i64 v_102, .int .i64 v_115, .int .i64 v_128, .slice a_141 n_142 k_143, .slice a_159 n_160 k_161, .slice none 0 0, .int .i64 0, .int .i64 0, .slice none 0 0, .slice none 0 0, .int .i64 0, .slice none 0 0, .int .i64 0] Try.sizeOf22 ?_
    intro w_171 hS_172
    try dsimp only [List.set, List.eraseIdx] at hS_172
    refine nilO ?_
    refine thenK_n <| ?_
    refine seqE ?_
    refine regionE ?_
    refine p1 (by kernel_rfl) ?_
    have hS_173 := hS_172.pick 2 rfl
    have hS_174 := hS_173.pick 1 rfl
    try dsimp only [List.set, List.eraseIdx] at hS_174
    refine sF #[.pointer (some ⟨p, 0, none⟩)] Try.call51 (Calls.mono (rrf_numbers W _ _ _ _ _ _ _ hI_170 hS_174) ?_)
    rintro _ w_175 ⟨a_177, n_178, k_179, xs_180, G_181, r_182, b_183, rfl, hR_185, hG_187, fp_184, hI_188, hS_176⟩
    refine ⟨_, rfl, ?_⟩
    try dsimp only [List.set, List.eraseIdx] at hS_176
    refine p1 (by kernel_rfl) ?_
    refine sT hS_176 5 10 (.slice a_177 n_178 k_179) [.slice a_177 n_178 k_179] #[.int .i64 v_13, .int .i64 v_26, .int .i64 v_39, .bool bar, .int .i64 v_89, .int .i64 v_102, .int .i64 v_115, .int .i64 v_128, .slice a_141 n_142 k_143, .slice a_159 n_160 k_161, .slice a_177 n_178 k_179, .int .i64 0, .int .i64 0, .slice none 0 0, .slice none 0 0, .int .i64 0, .slice none 0 0, .int .i64 0] Try.sizeOf22 ?_
    intro w_189 hS_190
    try dsimp only [List.set, List.eraseIdx] at hS_190
    refine nilO ?_
    refine thenK_n <| ?_
    refine seqE ?_
    refine regionE ?_
    refine p1 (by kernel_rfl) ?_
    have hS_191 := hS_190.pick 2 rfl
    have hS_192 := hS_191.pick 1 rfl
    try dsimp only [List.set, List.eraseIdx] at hS_192
    refine sF #[.pointer (some ⟨p, 0, none⟩)] Try.call49 (Calls.mono (rrf_number W _ _ _ _ _ _ _ hI_188 hS_192) ?_)
    rintro _ w_193 ⟨v_195, r_196, b_197, rfl, hG_199, hW_200, fp_198, hI_201, hS_194⟩
    refine ⟨_, rfl, ?_⟩
    try dsimp only [List.set, List.eraseIdx] at hS_194
    refine p1 (by kernel_rfl) ?_
    refine sT hS_194 5 11 (.int .i64 v_195) [.int .i64 v_195] #[.int .i64 v_13, .int .i64 v_26, .int .i64 v_39, .bool bar, .int .i64 v_89, .int .i64 v_102, .int .i64 v_115, .int .i64 v_128, .slice a_141 n_142 k_143, .slice a_159 n_160 k_161, .slice a_177 n_178 k_179, .int .i64 v_195, .int .i64 0, .slice none 0 0, .slice none 0 0, .int .i64 0, .slice none 0 0, .int .i64 0] Try.sizeOf3 ?_
    intro w_202 hS_203
    try dsimp only [List.set, List.eraseIdx] at hS_203
    refine nilO ?_
    refine thenK_n <| ?_
    refine seqE ?_
    refine regionE ?_
    refine p1 (by kernel_rfl) ?_
    have hS_204 := hS_203.pick 1 rfl
    have hS_205 := hS_204.pick 1 rfl
    try dsimp only [List.set, List.eraseIdx] at hS_205
    refine sF #[.pointer (some ⟨p, 0, none⟩)] Try.call49 (Calls.mono (rrf_number W _ _ _ _ _ _ _ hI_201 hS_205) ?_)
    rintro _ w_206 ⟨v_208, r_209, b_210, rfl, hG_212, hW_213, fp_211, hI_214, hS_207⟩
    refine ⟨_, rfl, ?_⟩
    try dsimp only [List.set, List.eraseIdx] at hS_207
    refine p1 (by kernel_rfl) ?_
    refine sT hS_207 5 12 (.int .i64 v_208) [.int .i64 v_208] #[.int .i64 v_13, .int .i64 v_26, .int .i64 v_39, .bool bar, .int .i64 v_89, .int .i64 v_102, .int .i64 v_115, .int .i64 v_128, .slice a_141 n_142 k_143, .slice a_159 n_160 k_161, .slice a_177 n_178 k_179, .int .i64 v_195, .int .i64 v_208, .slice none 0 0, .slice none 0 0, .int .i64 0, .slice none 0 0, .int .i64 0] Try.sizeOf3 ?_
    intro w_215 hS_216
    try dsimp only [List.set, List.eraseIdx] at hS_216
    refine nilO ?_
    refine thenK_n <| ?_
    refine seqE ?_
    refine regionE ?_
    refine p1 (by kernel_rfl) ?_
    have hS_217 := hS_216.pick 1 rfl
    have hS_218 := hS_217.pick 1 rfl
    try dsimp only [List.set, List.eraseIdx] at hS_218
    refine sF #[.pointer (some ⟨p, 0, none⟩)] Try.call64 (Calls.mono (rrf_taps W _ _ _ _ _ _ _ hI_214 hS_218) ?_)
    rintro _ w_219 ⟨a_221, n_222, k_223, xs_224, G_225, r_226, b_227, rfl, hR_229, hD_230, hG_231, fp_228, hI_232, hS_220⟩
    refine ⟨_, rfl, ?_⟩
    try dsimp only [List.set, List.eraseIdx] at hS_220
    refine p1 (by kernel_rfl) ?_
    refine sT hS_220 6 13 (.slice a_221 n_222 k_223) [.slice a_221 n_222 k_223] #[.int .i64 v_13, .int .i64 v_26, .int .i64 v_39, .bool bar, .int .i64 v_89, .int .i64 v_102, .int .i64 v_115, .int .i64 v_128, .slice a_141 n_142 k_143, .slice a_159 n_160 k_161, .slice a_177 n_178 k_179, .int .i64 v_195, .int .i64 v_208, .slice a_221 n_222 k_223, .slice none 0 0, .int .i64 0, .slice none 0 0, .int .i64 0] Try.sizeOf58 ?_
    intro w_233 hS_234
    try dsimp only [List.set, List.eraseIdx] at hS_234
    refine nilO ?_
    refine thenK_n <| ?_
    refine seqE ?_
    refine regionE ?_
    refine p1 (by kernel_rfl) ?_
    have hS_235 := hS_234.pick 2 rfl
    have hS_236 := hS_235.pick 1 rfl
    try dsimp only [List.set, List.eraseIdx] at hS_236
    refine sF #[.pointer (some ⟨p, 0, none⟩)] Try.call64 (Calls.mono (rrf_taps W _ _ _ _ _ _ _ hI_232 hS_236) ?_)
    rintro _ w_237 ⟨a_239, n_240, k_241, xs_242, G_243, r_244, b_245, rfl, hR_247, hD_248, hG_249, fp_246, hI_250, hS_238⟩
    refine ⟨_, rfl, ?_⟩
    try dsimp only [List.set, List.eraseIdx] at hS_238
    refine p1 (by kernel_rfl) ?_
    refine sT hS_238 7 14 (.slice a_239 n_240 k_241) [.slice a_239 n_240 k_241] #[.int .i64 v_13, .int .i64 v_26, .int .i64 v_39, .bool bar, .int .i64 v_89, .int .i64 v_102, .int .i64 v_115, .int .i64 v_128, .slice a_141 n_142 k_143, .slice a_159 n_160 k_161, .slice a_177 n_178 k_179, .int .i64 v_195, .int .i64 v_208, .slice a_221 n_222 k_223, .slice a_239 n_240 k_241, .int .i64 0, .slice none 0 0, .int .i64 0] Try.sizeOf58 ?_
    intro w_251 hS_252
    try dsimp only [List.set, List.eraseIdx] at hS_252
    refine nilO ?_
    refine thenK_n <| ?_
    refine seqE ?_
    refine regionE ?_
    refine p1 (by kernel_rfl) ?_
    have hS_253 := hS_252.pick 2 rfl
    have hS_254 := hS_253.pick 1 rfl
    try dsimp only [List.set, List.eraseIdx] at hS_254
    refine sF #[.pointer (some ⟨p, 0, none⟩)] Try.call49 (Calls.mono (rrf_number W _ _ _ _ _ _ _ hI_250 hS_254) ?_)
    rintro _ w_255 ⟨v_257, r_258, b_259, rfl, hG_261, hW_262, fp_260, hI_263, hS_256⟩
    refine ⟨_, rfl, ?_⟩
    try dsimp only [List.set, List.eraseIdx] at hS_256
    refine p1 (by kernel_rfl) ?_
    refine sT hS_256 7 15 (.int .i64 v_257) [.int .i64 v_257] #[.int .i64 v_13, .int .i64 v_26, .int .i64 v_39, .bool bar, .int .i64 v_89, .int .i64 v_102, .int .i64 v_115, .int .i64 v_128, .slice a_141 n_142 k_143, .slice a_159 n_160 k_161, .slice a_177 n_178 k_179, .int .i64 v_195, .int .i64 v_208, .slice a_221 n_222 k_223, .slice a_239 n_240 k_241, .int .i64 v_257, .slice none 0 0, .int .i64 0] Try.sizeOf3 ?_
    intro w_264 hS_265
    try dsimp only [List.set, List.eraseIdx] at hS_265
    refine nilO ?_
    refine thenK_n <| ?_
    refine cutE (fun ρ w => ∃ (xsAc : List POp) (aAc : Option Addr) (nAc : Nat) (kAc : Nat) (GAc : Chunk) (rAc : List Int) (bAc : Bool) (fpAc : Chunk), AllAt ρ [(0, .pointer (some ⟨p, 0, none⟩)), (2, .pointer (some ⟨b_1, 0, none⟩)), (3, .pointer (some ⟨b_4, 0, none⟩)), (26, .pointer (some ⟨p, 0, none⟩)), (28, .pointer (some ⟨b_4, 4, none⟩)), (29, .pointer (some ⟨b_4, 4, none⟩)), (30, .pointer (some ⟨p, 0, none⟩)), (32, .pointer (some ⟨b_4, 4, none⟩)), (33, .pointer (some ⟨b_4, 5, none⟩)), (34, .pointer (some ⟨p, 0, none⟩)), (36, .pointer (some ⟨b_4, 6, none⟩)), (37, .pointer (some ⟨p, 0, none⟩)), (39, .pointer (some ⟨b_4, 7, none⟩)), (40, .pointer (some ⟨p, 0, none⟩)), (42, .pointer (some ⟨b_4, 8, none⟩)), (43, .pointer (some ⟨p, 0, none⟩)), (45, .pointer (some ⟨b_4, 9, none⟩)), (46, .pointer (some ⟨p, 0, none⟩)), (48, .pointer (some ⟨b_4, 10, none⟩)), (49, .pointer (some ⟨p, 0, none⟩)), (51, .pointer (some ⟨b_4, 11, none⟩)), (52, .pointer (some ⟨p, 0, none⟩)), (54, .pointer (some ⟨b_4, 12, none⟩)), (55, .pointer (some ⟨p, 0, none⟩)), (57, .pointer (some ⟨b_4, 13, none⟩)), (58, .pointer (some ⟨p, 0, none⟩)), (60, .pointer (some ⟨b_4, 14, none⟩)), (61, .pointer (some ⟨p, 0, none⟩)), (63, .pointer (some ⟨b_4, 15, none⟩))] ∧ Sat W w (GAc :: fpAc :: H :: G_243 :: G_225 :: G_181 :: G_163 :: G_145 :: [(b_4, .cells #[.int .i64 v_13, .int .i64 v_26, .int .i64 v_39, .bool bar, .int .i64 v_89, .int .i64 v_102, .int .i64 v_115, .int .i64 v_128, .slice a_141 n_142 k_143, .slice a_159 n_160 k_161, .slice a_177 n_178 k_179, .int .i64 v_195, .int .i64 v_208, .slice a_221 n_222 k_223, .slice a_239 n_240 k_241, .int .i64 v_257, .slice aAc nAc kAc, .int .i64 0] 61 (0, 0))] :: [(b_1, .cells #[.int .i64 0, .int .i64 0, .int .i64 0, .bool false, .int .i64 0, .int .i64 0, .int .i64 0, .int .i64 0, .slice none 0 0, .slice none 0 0, .slice none 0 0, .int .i64 0, .int .i64 0, .slice none 0 0, .slice none 0 0, .int .i64 0, .slice none 0 0, .int .i64 0] 61 (0, 0))] :: F) ∧ Got (encL nOp) (wfL wfOp) r_258 b_259 xsAc rAc bAc ∧ RdrR 102 H p rAc bAc fpAc ∧ RdT encPOp 2 [GAc] aAc nAc kAc xsAc) ?_ ?_
    · refine seqE ?_
      refine regionE ?_
      refine p1 (by kernel_rfl) ?_
      have hS_266 := hS_265.pick 1 rfl
      have hS_267 := hS_266.pick 1 rfl
      try dsimp only [List.set, List.eraseIdx] at hS_267
      refine sF #[.pointer (some ⟨p, 0, none⟩)] Try.call50 (Calls.mono (rrf_count W _ _ _ _ _ _ _ hI_263 hS_267) ?_)
      rintro _ w_268 ⟨v_270, r_271, b_272, rfl, hC_274, fp_273, hI_275, hS_269⟩
      refine ⟨_, rfl, ?_⟩
      have hrng_v_270 := hC_274.rng; have hcap_v_270 := (by obtain ⟨_, _, _, _, _, _, h⟩ := hI_275; exact h : r_271.length ≤ 262144)
      try dsimp only [List.set, List.eraseIdx] at hS_269
      refine p1 (by kernel_rfl) ?_
      refine nilO ?_
      refine thenK_n <| ?_
      refine blockE ?_
      have hS_276 := Sat.nilc hS_269
      have hO_277 := OwnT.nil (enc := encPOp) (E := 66) (sz := 2) (fun _ => rfl)
      try dsimp only [List.set, List.eraseIdx] at hS_276
      refine loopE (γ := Nat × (List POp) × (Option Addr) × Nat × Nat × Chunk × (List Int) × Bool × Chunk × Int) (fun ⟨iA, xsA, aA, nA, kA, cA, rA, bA, fpA, jA⟩ ρ w => AllAt ρ [(0, .pointer (some ⟨p, 0, none⟩)), (2, .pointer (some ⟨b_1, 0, none⟩)), (3, .pointer (some ⟨b_4, 0, none⟩)), (26, .pointer (some ⟨p, 0, none⟩)), (27, .int .i64 v_89), (28, .pointer (some ⟨b_4, 4, none⟩)), (29, .pointer (some ⟨b_4, 4, none⟩)), (30, .pointer (some ⟨p, 0, none⟩)), (31, .int .i64 v_102), (32, .pointer (some ⟨b_4, 4, none⟩)), (33, .pointer (some ⟨b_4, 5, none⟩)), (34, .pointer (some ⟨p, 0, none⟩)), (35, .int .i64 v_115), (36, .pointer (some ⟨b_4, 6, none⟩)), (37, .pointer (some ⟨p, 0, none⟩)), (38, .int .i64 v_128), (39, .pointer (some ⟨b_4, 7, none⟩)), (40, .pointer (some ⟨p, 0, none⟩)), (41, .slice a_141 n_142 k_143), (42, .pointer (some ⟨b_4, 8, none⟩)), (43, .pointer (some ⟨p, 0, none⟩)), (44, .slice a_159 n_160 k_161), (45, .pointer (some ⟨b_4, 9, none⟩)), (46, .pointer (some ⟨p, 0, none⟩)), (47, .slice a_177 n_178 k_179), (48, .pointer (some ⟨b_4, 10, none⟩)), (49, .pointer (some ⟨p, 0, none⟩)), (50, .int .i64 v_195), (51, .pointer (some ⟨b_4, 11, none⟩)), (52, .pointer (some ⟨p, 0, none⟩)), (53, .int .i64 v_208), (54, .pointer (some ⟨b_4, 12, none⟩)), (55, .pointer (some ⟨p, 0, none⟩)), (56, .slice a_221 n_222 k_223), (57, .pointer (some ⟨b_4, 13, none⟩)), (58, .pointer (some ⟨p, 0, none⟩)), (59, .slice a_239 n_240 k_241), (60, .pointer (some ⟨b_4, 14, none⟩)), (61, .pointer (some ⟨p, 0, none⟩)), (62, .int .i64 v_257), (63, .pointer (some ⟨b_4, 15, none⟩)), (64, .pointer (some ⟨p, 0, none⟩)), (65, .int .i64 v_270), (4, .int .i64 jA)] ∧ Sat W w (cA :: fpA :: H :: G_243 :: G_225 :: G_181 :: G_163 :: G_145 :: [(b_4, .cells #[.int .i64 v_13, .int .i64 v_26, .int .i64 v_39, .bool bar, .int .i64 v_89, .int .i64 v_102, .int .i64 v_115, .int .i64 v_128, .slice a_141 n_142 k_143, .slice a_159 n_160 k_161, .slice a_177 n_178 k_179, .int .i64 v_195, .int .i64 v_208, .slice a_221 n_222 k_223, .slice a_239 n_240 k_241, .int .i64 v_257, .slice aA nA kA, .int .i64 0] 61 (0, 0))] :: [(b_1, .cells #[.int .i64 0, .int .i64 0, .int .i64 0, .bool false, .int .i64 0, .int .i64 0, .int .i64 0, .int .i64 0, .slice none 0 0, .slice none 0 0, .slice none 0 0, .int .i64 0, .int .i64 0, .slice none 0 0, .slice none 0 0, .int .i64 0, .slice none 0 0, .int .i64 0] 61 (0, 0))] :: F) ∧ (iA : Int) ≤ v_270 ∧ Got (encF nOp) (wfN wfOp iA) r_271 b_272 xsA rA bA ∧ RdrR 102 H p rA bA fpA ∧ OwnT encPOp 66 2 aA nA kA xsA cA ∧ nA = iA ∧ jA = v_270 - iA) (fun ⟨iA, xsA, aA, nA, kA, cA, rA, bA, fpA, jA⟩ => v_270.toNat - iA) (0, [], none, 0, 0, [], r_271, b_272, fp_273, v_270) ⟨⟨by kernel_rfl, by kernel_rfl, by kernel_rfl, by kernel_rfl, by kernel_rfl, by kernel_rfl, by kernel_rfl, by kernel_rfl, by kernel_rfl, by kernel_rfl, by kernel_rfl, by kernel_rfl, by kernel_rfl, by kernel_rfl, by kernel_rfl, by kernel_rfl, by kernel_rfl, by kernel_rfl, by kernel_rfl, by kernel_rfl, by kernel_rfl, by kernel_rfl, by kernel_rfl, by kernel_rfl, by kernel_rfl, by kernel_rfl, by kernel_rfl, by kernel_rfl, by kernel_rfl, by kernel_rfl, by kernel_rfl, by kernel_rfl, by kernel_rfl, by kernel_rfl, by kernel_rfl, by kernel_rfl, by kernel_rfl, by kernel_rfl, by kernel_rfl, by kernel_rfl, by kernel_rfl, by kernel_rfl, by kernel_rfl, by kernel_rfl, trivial⟩, hS_276, by omega, Got.none _ _, hI_275, hO_277, rfl, by omega⟩ ?_
      skip
      rintro ⟨iA, xsA, aA, nA, kA, cA, rA, bA, fpA, jA⟩ ρ w_278 ⟨hA, hS_279, hiA, hGA, hIA, hOA, hnA, hjA⟩
      refine cAnchor hA (fun ρ => ?_)
      clear hA
      refine seqE ?_
      refine seqE ?_
      have hS_285 := hS_279.pick 1 rfl
      try dsimp only [List.set, List.eraseIdx] at hS_285
      obtain ⟨a_280, n_281, k_282, rfl, hR_283, hB_284⟩ := hIA
      have hll_a_280 := hR_283.len; have hle_a_280 := hR_283.le
      refine regionE ?_
      refine p3 (by kernel_rfl) ?_
      by_cases hc_286 : (jA : Int) > 0
      · refine sFix 68 (decide ((jA : Int) > 0)) true (decide_eq_true hc_286) ?_
        refine p3 (by kernel_rfl) ?_
        refine guardYes rfl ⟨_, rfl, rfl, by kernel_rfl⟩ ?_
        refine sL hS_285 0 1 (.bool bA) (Try.isAgg4 _) ?_
        refine p2 (by kernel_rfl) ?_
        refine nilO ?_
        refine thenK_n <| ?_
        cases bA
        · refine condE_true (by kernel_rfl) ?_
          refine skipE ?_
          refine thenK_n <| ?_
          refine seqE ?_
          refine blockE ?_
          refine seqE ?_
          refine regionE ?_
          refine p1 (by kernel_rfl) ?_
          have hI_287 : RdrR 102 H p rA false [(p, .cells #[.slice a_280 n_281 k_282, .bool false] 102 (0, 0))] := ⟨_, _, _, rfl, hR_283, hB_284⟩
          have hS_288 := hS_285.pick 2 rfl
          have hS_289 := hS_288.pick 1 rfl
          try dsimp only [List.set, List.eraseIdx] at hS_289
          refine sF #[.pointer (some ⟨p, 0, none⟩)] Try.call49 (Calls.mono (rrf_number W _ _ _ _ _ _ _ hI_287 hS_289) ?_)
          rintro _ w_290 ⟨v_292, r_293, b_294, rfl, hG_296, hW_297, fp_295, hI_298, hS_291⟩
          refine ⟨_, rfl, ?_⟩
          try dsimp only [List.set, List.eraseIdx] at hS_291
          refine p1 (by kernel_rfl) ?_
          refine sAlloc hS_291 Try.zeroValue66 ?_
          intro b_299 w_300 hS_301
          try dsimp only [List.set, List.eraseIdx] at hS_301
          refine sT hS_301 0 0 (.agg #[.int .i64 v_292, .int .i64 0]) [.int .i64 v_292, .int .i64 0] #[.int .i64 v_292, .int .i64 0] Try.sizeOf66 ?_
          intro w_302 hS_303
          try dsimp only [List.set, List.eraseIdx] at hS_303
          refine nilO ?_
          refine thenK_n <| ?_
          refine seqE ?_
          refine regionE ?_
          refine p1 (by kernel_rfl) ?_
          have hS_304 := hS_303.pick 2 rfl
          have hS_305 := hS_304.pick 2 rfl
          try dsimp only [List.set, List.eraseIdx] at hS_305
          refine sF #[.pointer (some ⟨p, 0, none⟩)] Try.call49 (Calls.mono (rrf_number W _ _ _ _ _ _ _ hI_298 hS_305) ?_)
          rintro _ w_306 ⟨v_308, r_309, b_310, rfl, hG_312, hW_313, fp_311, hI_314, hS_307⟩
          refine ⟨_, rfl, ?_⟩
          try dsimp only [List.set, List.eraseIdx] at hS_307
          refine p1 (by kernel_rfl) ?_
          refine sT hS_307 2 1 (.int .i64 v_308) [.int .i64 v_308] #[.int .i64 v_292, .int .i64 v_308] Try.sizeOf3 ?_
          intro w_315 hS_316
          try dsimp only [List.set, List.eraseIdx] at hS_316
          refine nilO ?_
          refine thenK_n <| ?_
          refine regionE ?_
          refine p1 (by kernel_rfl) ?_
          refine sL hS_316 9 16 (.slice aA nA kA) (Try.isAgg59 _) ?_
          refine sLA hS_316 2 0 [.int .i64 v_292, .int .i64 v_308] (Try.isAgg66 _) (Try.sizeOf66 _) ?_
          refine sBS hS_316 #[.int .i64 v_292, .int .i64 v_308] Try.runUnderlying59 Try.sizeOf66 Try.zeroValue66 ?_
          intro b_317 w_318 hS_319
          refine sApp (nb := 16) hS_319 hOA 4 (RdT.blk (enc := encPOp) (sz := 2) (xs := [(⟨v_292, v_308⟩ : POp)]) (fun _ => rfl) 1 0 rfl rfl rfl (by omega)) Try.underlying59 (i := Try.t66) (by kernel_rfl) (fun _ => rfl) ?_
          intro a_320 cap_321 c_322 w_323 hO_324 hS_325
          try dsimp only [List.set, List.eraseIdx] at hS_325
          refine p1 (by kernel_rfl) ?_
          refine sT hS_325 10 16 (.slice a_320 (nA + 1) cap_321) [.slice a_320 (nA + 1) cap_321] #[.int .i64 v_13, .int .i64 v_26, .int .i64 v_39, .bool bar, .int .i64 v_89, .int .i64 v_102, .int .i64 v_115, .int .i64 v_128, .slice a_141 n_142 k_143, .slice a_159 n_160 k_161, .slice a_177 n_178 k_179, .int .i64 v_195, .int .i64 v_208, .slice a_221 n_222 k_223, .slice a_239 n_240 k_241, .int .i64 v_257, .slice a_320 (nA + 1) cap_321, .int .i64 0] Try.sizeOf59 ?_
          intro w_326 hS_327
          try dsimp only [List.set, List.eraseIdx] at hS_327
          refine nilO ?_
          refine blockK_n <| thenK_n <| ?_
          refine regionE ?_
          refine p1 (by kernel_rfl) ?_
          refine sSub jA 1 ?_
          refine p1 (by kernel_rfl) ?_
          refine nilO ?_
          refine thenK_n <| ?_
          have hX := hGA.snoc pfOp (Got.op hG_296 hG_312)
          have hS_328 := hS_327.pick 11 rfl
          have hS_329 := hS_328.pick 11 rfl
          have hS_330 := hS_329.pick 11 rfl
          have hS_331 := hS_330.pick 11 rfl
          have hS_332 := hS_331.pick 11 rfl
          have hS_333 := hS_332.pick 11 rfl
          have hS_334 := hS_333.pick 11 rfl
          have hS_335 := hS_334.pick 9 rfl
          have hS_336 := hS_335.pick 9 rfl
          have hS_337 := hS_336.pick 11 rfl
          try dsimp only [List.set, List.eraseIdx] at hS_337
          have hS_338 := hS_337.dropAt 10 rfl
          have hS_339 := hS_338.dropAt 10 rfl
          try dsimp only [List.set, List.eraseIdx] at hS_339
          exact ⟨(iA + 1, (xsA ++ [(⟨v_292, v_308⟩ : POp)]), a_320, (nA + 1), cap_321, c_322, r_309, b_310, fp_311, (jA - 1)), by dsimp only; omega, ⟨by kernel_rfl, by kernel_rfl, by kernel_rfl, by kernel_rfl, by kernel_rfl, by kernel_rfl, by kernel_rfl, by kernel_rfl, by kernel_rfl, by kernel_rfl, by kernel_rfl, by kernel_rfl, by kernel_rfl, by kernel_rfl, by kernel_rfl, by kernel_rfl, by kernel_rfl, by kernel_rfl, by kernel_rfl, by kernel_rfl, by kernel_rfl, by kernel_rfl, by kernel_rfl, by kernel_rfl, by kernel_rfl, by kernel_rfl, by kernel_rfl, by kernel_rfl, by kernel_rfl, by kernel_rfl, by kernel_rfl, by kernel_rfl, by kernel_rfl, by kernel_rfl, by kernel_rfl, by kernel_rfl, by kernel_rfl, by kernel_rfl, by kernel_rfl, by kernel_rfl, by kernel_rfl, by kernel_rfl, by kernel_rfl, by kernel_rfl, trivial⟩, hS_339, by omega, by first | exact hX | simpa using hX, hI_314, hO_324, by omega, by omega⟩
        · refine condE_false (by kernel_rfl) ?_
          refine exitE (thenK_x <| thenK_x <| blockK_x <| ?_)
          refine thenK_n <| ?_
          have hI_340 : RdrR 102 H p rA true [(p, .cells #[.slice a_280 n_281 k_282, .bool true] 102 (0, 0))] := ⟨_, _, _, rfl, hR_283, hB_284⟩
          have hS_341 := hS_285.pick 9 rfl
          have hS_342 := hS_341.pick 9 rfl
          have hS_343 := hS_342.pick 9 rfl
          have hS_344 := hS_343.pick 9 rfl
          have hS_345 := hS_344.pick 9 rfl
          have hS_346 := hS_345.pick 9 rfl
          have hS_347 := hS_346.pick 9 rfl
          have hS_348 := hS_347.pick 9 rfl
          have hS_349 := hS_348.pick 8 rfl
          have hS_350 := hS_349.pick 9 rfl
          try dsimp only [List.set, List.eraseIdx] at hS_350
          try dsimp only [List.set, List.eraseIdx] at hS_350
          have hZ : Got (encF nOp) (wfN wfOp v_270.toNat) r_271 b_272 xsA rA true := by
            by_cases hfull : (iA : Int) = v_270
            · rw [show v_270.toNat = iA from by omega]; exact hGA
            · first | (exfalso; omega) | exact hGA.stop (by omega) _
          exact ⟨xsA, aA, nA, kA, cA, rA, true, [(p, .cells #[.slice a_280 n_281 k_282, .bool true] 102 (0, 0))], ⟨by kernel_rfl, by kernel_rfl, by kernel_rfl, by kernel_rfl, by kernel_rfl, by kernel_rfl, by kernel_rfl, by kernel_rfl, by kernel_rfl, by kernel_rfl, by kernel_rfl, by kernel_rfl, by kernel_rfl, by kernel_rfl, by kernel_rfl, by kernel_rfl, by kernel_rfl, by kernel_rfl, by kernel_rfl, by kernel_rfl, by kernel_rfl, by kernel_rfl, by kernel_rfl, by kernel_rfl, by kernel_rfl, by kernel_rfl, by kernel_rfl, by kernel_rfl, by kernel_rfl, trivial⟩, hS_350, Got.list nOp_ge1 hC_274 hZ, hI_340, (hOA.rd (fun p hp => by simp [hp]))⟩
      · refine sFix 68 (decide ((jA : Int) > 0)) false (decide_eq_false hc_286) ?_
        refine p6 (by kernel_rfl) ?_
        refine nilO ?_
        refine thenK_n <| ?_
        refine condE_false (by kernel_rfl) ?_
        refine exitE (thenK_x <| thenK_x <| blockK_x <| ?_)
        refine thenK_n <| ?_
        have hI_351 : RdrR 102 H p rA bA [(p, .cells #[.slice a_280 n_281 k_282, .bool bA] 102 (0, 0))] := ⟨_, _, _, rfl, hR_283, hB_284⟩
        have hS_352 := hS_285.pick 9 rfl
        have hS_353 := hS_352.pick 9 rfl
        have hS_354 := hS_353.pick 9 rfl
        have hS_355 := hS_354.pick 9 rfl
        have hS_356 := hS_355.pick 9 rfl
        have hS_357 := hS_356.pick 9 rfl
        have hS_358 := hS_357.pick 9 rfl
        have hS_359 := hS_358.pick 9 rfl
        have hS_360 := hS_359.pick 8 rfl
        have hS_361 := hS_360.pick 9 rfl
        try dsimp only [List.set, List.eraseIdx] at hS_361
        try dsimp only [List.set, List.eraseIdx] at hS_361
        have hZ : Got (encF nOp) (wfN wfOp v_270.toNat) r_271 b_272 xsA rA bA := by
          by_cases hfull : (iA : Int) = v_270
          · rw [show v_270.toNat = iA from by omega]; exact hGA
          · first | (exfalso; omega) | exact hGA.stop (by omega) _
        exact ⟨xsA, aA, nA, kA, cA, rA, bA, [(p, .cells #[.slice a_280 n_281 k_282, .bool bA] 102 (0, 0))], ⟨by kernel_rfl, by kernel_rfl, by kernel_rfl, by kernel_rfl, by kernel_rfl, by kernel_rfl, by kernel_rfl, by kernel_rfl, by kernel_rfl, by kernel_rfl, by kernel_rfl, by kernel_rfl, by kernel_rfl, by kernel_rfl, by kernel_rfl, by kernel_rfl, by kernel_rfl, by kernel_rfl, by kernel_rfl, by kernel_rfl, by kernel_rfl, by kernel_rfl, by kernel_rfl, by kernel_rfl, by kernel_rfl, by kernel_rfl, by kernel_rfl, by kernel_rfl, by kernel_rfl, trivial⟩, hS_361, Got.list nOp_ge1 hC_274 hZ, hI_351, (hOA.rd (fun p hp => by simp [hp]))⟩
    · rintro ρ w_362 ⟨xsAc, aAc, nAc, kAc, GAc, rAc, bAc, fpAc, hA, hS_363, hLAc, hIAc, hRAc⟩
      refine cAnchor hA (fun ρ => ?_)
      clear hA
      refine seqE ?_
      refine regionE ?_
      refine p1 (by kernel_rfl) ?_
      have hS_364 := hS_363.pick 2 rfl
      have hS_365 := hS_364.pick 2 rfl
      try dsimp only [List.set, List.eraseIdx] at hS_365
      refine sF #[.pointer (some ⟨p, 0, none⟩)] Try.call49 (Calls.mono (rrf_number W _ _ _ _ _ _ _ hIAc hS_365) ?_)
      rintro _ w_366 ⟨v_368, r_369, b_370, rfl, hG_372, hW_373, fp_371, hI_374, hS_367⟩
      refine ⟨_, rfl, ?_⟩
      try dsimp only [List.set, List.eraseIdx] at hS_367
      refine p1 (by kernel_rfl) ?_
      refine sT hS_367 8 17 (.int .i64 v_368) [.int .i64 v_368] #[.int .i64 v_13, .int .i64 v_26, .int .i64 v_39, .bool bar, .int .i64 v_89, .int .i64 v_102, .int .i64 v_115, .int .i64 v_128, .slice a_141 n_142 k_143, .slice a_159 n_160 k_161, .slice a_177 n_178 k_179, .int .i64 v_195, .int .i64 v_208, .slice a_221 n_222 k_223, .slice a_239 n_240 k_241, .int .i64 v_257, .slice aAc nAc kAc, .int .i64 v_368] Try.sizeOf3 ?_
      intro w_375 hS_376
      try dsimp only [List.set, List.eraseIdx] at hS_376
      refine nilO ?_
      refine thenK_n <| ?_
      refine seqE ?_
      refine regionE ?_
      refine sLA hS_376 8 0 [.int .i64 v_13, .int .i64 v_26, .int .i64 v_39, .bool bar, .int .i64 v_89, .int .i64 v_102, .int .i64 v_115, .int .i64 v_128, .slice a_141 n_142 k_143, .slice a_159 n_160 k_161, .slice a_177 n_178 k_179, .int .i64 v_195, .int .i64 v_208, .slice a_221 n_222 k_223, .slice a_239 n_240 k_241, .int .i64 v_257, .slice aAc nAc kAc, .int .i64 v_368] (Try.isAgg61 _) (Try.sizeOf61 _) ?_
      refine sT hS_376 9 0 (.agg #[.int .i64 v_13, .int .i64 v_26, .int .i64 v_39, .bool bar, .int .i64 v_89, .int .i64 v_102, .int .i64 v_115, .int .i64 v_128, .slice a_141 n_142 k_143, .slice a_159 n_160 k_161, .slice a_177 n_178 k_179, .int .i64 v_195, .int .i64 v_208, .slice a_221 n_222 k_223, .slice a_239 n_240 k_241, .int .i64 v_257, .slice aAc nAc kAc, .int .i64 v_368]) [.int .i64 v_13, .int .i64 v_26, .int .i64 v_39, .bool bar, .int .i64 v_89, .int .i64 v_102, .int .i64 v_115, .int .i64 v_128, .slice a_141 n_142 k_143, .slice a_159 n_160 k_161, .slice a_177 n_178 k_179, .int .i64 v_195, .int .i64 v_208, .slice a_221 n_222 k_223, .slice a_239 n_240 k_241, .int .i64 v_257, .slice aAc nAc kAc, .int .i64 v_368] #[.int .i64 v_13, .int .i64 v_26, .int .i64 v_39, .bool bar, .int .i64 v_89, .int .i64 v_102, .int .i64 v_115, .int .i64 v_128, .slice a_141 n_142 k_143, .slice a_159 n_160 k_161, .slice a_177 n_178 k_179, .int .i64 v_195, .int .i64 v_208, .slice a_221 n_222 k_223, .slice a_239 n_240 k_241, .int .i64 v_257, .slice aAc nAc kAc, .int .i64 v_368] Try.sizeOf61 ?_
      intro w_377 hS_378
      try dsimp only [List.set, List.eraseIdx] at hS_378
      refine nilO ?_
      refine thenK_n <| ?_
      refine retE ?_
      refine retN (vs := [.agg #[.int .i64 v_13, .int .i64 v_26, .int .i64 v_39, .bool bar, .int .i64 v_89, .int .i64 v_102, .int .i64 v_115, .int .i64 v_128, .slice a_141 n_142 k_143, .slice a_159 n_160 k_161, .slice a_177 n_178 k_179, .int .i64 v_195, .int .i64 v_208, .slice a_221 n_222 k_223, .slice a_239 n_240 k_241, .int .i64 v_257, .slice aAc nAc kAc, .int .i64 v_368]]) rfl (.cons (.cell _ _ _ _ (by kernel_rfl) (lvA hS_378 9 0 [.int .i64 v_13, .int .i64 v_26, .int .i64 v_39, .bool bar, .int .i64 v_89, .int .i64 v_102, .int .i64 v_115, .int .i64 v_128, .slice a_141 n_142 k_143, .slice a_159 n_160 k_161, .slice a_177 n_178 k_179, .int .i64 v_195, .int .i64 v_208, .slice a_221 n_222 k_223, .slice a_239 n_240 k_241, .int .i64 v_257, .slice aAc nAc kAc, .int .i64 v_368] (Try.isAgg61 _) (Try.sizeOf61 _) rfl rfl rfl)) .nil) <| ?_
      have hS_379 := hS_378.pick 1 rfl
      have hS_380 := hS_379.pick 2 rfl
      have hS_381 := hS_380.pick 3 rfl
      have hS_382 := hS_381.pick 4 rfl
      have hS_383 := hS_382.pick 5 rfl
      have hS_384 := hS_383.pick 6 rfl
      have hS_385 := hS_384.pick 7 rfl
      have hS_386 := hS_385.pick 7 rfl
      try dsimp only [List.set, List.eraseIdx] at hS_386
      have hS_387 := hS_386.dropAt 8 rfl
      have hS_388 := hS_387.dropAt 8 rfl
      change Sat _ _ (fp_371 :: G_145 :: G_163 :: G_181 :: G_225 :: G_243 :: GAc :: H :: F) at hS_388
      have hS_389 := (Sat.perm (cs' := fp_371 :: (G_145 ++ G_163 ++ G_181 ++ G_225 ++ G_243 ++ GAc) :: H :: F) hS_388 (by simp))
      have hgot := Got.stage hG_17 hG_30 hG_43 hGb hG_93 hG_106 hG_119 hG_132 hG_151 hG_169 hG_187 hG_199 hG_212 hG_231 hG_249 hG_261 hLAc hG_372
      exact ⟨(⟨v_13, v_26, v_39, bar, v_89, v_102, v_115, v_128, ⟨a_141, n_142, k_143, xs_144⟩, ⟨a_159, n_160, k_161, xs_162⟩, ⟨a_177, n_178, k_179, xs_180⟩, v_195, v_208, ⟨a_221, n_222, k_223, xs_224⟩, ⟨a_239, n_240, k_241, xs_242⟩, v_257, ⟨aAc, nAc, kAc, xsAc⟩, v_368⟩ : Stage), _, _, _, rfl, ⟨hR_149.of_mem (fun p hp => by simp at hp ⊢; simp [hp]), hR_167.of_mem (fun p hp => by simp at hp ⊢; simp [hp]), hR_185.of_mem (fun p hp => by simp at hp ⊢; simp [hp]), hR_229.of_mem (fun p hp => by simp at hp ⊢; simp [hp]), (fun z hz => (hD_230 z hz).of_mem (fun p hp => by simp at hp ⊢; simp [hp])), hR_247.of_mem (fun p hp => by simp at hp ⊢; simp [hp]), (fun z hz => (hD_248 z hz).of_mem (fun p hp => by simp at hp ⊢; simp [hp])), hRAc.of_mem (fun p hp => by simp at hp ⊢; simp [hp])⟩, hgot, _, hI_374, hS_389⟩
theorem ref_decode (W w : World) (H : Chunk) (F : List Chunk) (a : Option Addr) (n k : Nat) (x : List Int) (hx : RdT encB 1 [H] a n k x) (hB : Bytes x) (hS : Sat W w (H :: F)) :
    Calls Try.prog 38 #[.slice a n k] w fun e w' => ∃ (q : Job) (G : Chunk) (c : Int), e = .returned (.tuple #[.agg #[.slice q.inputs.a q.inputs.n q.inputs.k, .slice q.stages.a q.stages.n q.stages.k, .slice q.outputs.a q.outputs.n q.outputs.k, .int .i64 q.priority], .int .i64 c]) ∧ Job.Ok [G] q ∧ DecR x q.v c ∧ Sat W w' (G :: H :: F) := by
  have hle := hx.le; have hll := hx.len
  refine callsE (n := 110) Try.func38 rfl rfl (Nat.le_of_ble_eq_true rfl) ?_
  refine seqE ?_
  refine regionE ?_
  refine sAlloc hS Try.zeroValue28 ?_
  intro b_1 w_2 hS_3
  try dsimp only [List.set, List.eraseIdx] at hS_3
  refine p1 (by kernel_rfl) ?_
  refine nilO ?_
  refine thenK_n <| ?_
  refine seqE ?_
  refine seqE ?_
  refine regionE ?_
  refine p3 (by kernel_rfl) ?_
  refine nilO ?_
  refine thenK_n <| ?_
  by_cases hc_4 : (((n : Nat) : Int) : Int) > 262144
  · refine cT (decide ((((n : Nat) : Int) : Int) > 262144)) (decide_eq_true hc_4) ?_
    refine seqE ?_
    refine regionE ?_
    refine p1 (by kernel_rfl) ?_
    refine sT hS_3 0 0 (.agg #[.slice none 0 0, .slice none 0 0, .slice none 0 0, .int .i64 0]) [.slice none 0 0, .slice none 0 0, .slice none 0 0, .int .i64 0] #[.slice none 0 0, .slice none 0 0, .slice none 0 0, .int .i64 0] Try.sizeOf28 ?_
    intro w_5 hS_6
    try dsimp only [List.set, List.eraseIdx] at hS_6
    refine p1 (by kernel_rfl) ?_
    refine nilO ?_
    refine thenK_n <| ?_
    refine retE (thenK_r <| ?_)
    refine retN (vs := [.agg #[.slice none 0 0, .slice none 0 0, .slice none 0 0, .int .i64 0], .int .i64 5]) rfl (.cons (.cell _ _ _ _ (by kernel_rfl) (lvA hS_6 0 0 [.slice none 0 0, .slice none 0 0, .slice none 0 0, .int .i64 0] (Try.isAgg28 _) (Try.sizeOf28 _) rfl rfl rfl)) (.cons (.tmp _ _ (by kernel_rfl)) .nil)) <| ?_
    have hS_7 := hS_6.pick 1 rfl
    try dsimp only [List.set, List.eraseIdx] at hS_7
    have hS_8 := hS_7.dropAt 1 rfl
    change Sat _ _ (H :: F) at hS_8
    have h2 : Sat W _ ([] :: H :: F) := Sat.nilc hS_8
    exact ⟨(⟨⟨none, 0, 0, []⟩, ⟨none, 0, 0, []⟩, ⟨none, 0, 0, []⟩, 0⟩ : Job), [], 5, rfl, ⟨RdT.nil (enc := encPlane) (sz := 4) (fun _ => rfl) _, (fun z hz => by cases hz), RdT.nil (enc := encStage) (sz := 18) (fun _ => rfl) _, (fun z hz => by cases hz), RdT.nil (enc := encI) (sz := 1) (fun _ => rfl) _⟩, DecR.big (by omega), h2⟩
  · refine cF (decide ((((n : Nat) : Int) : Int) > 262144)) (decide_eq_false hc_4) ?_
    refine skipE ?_
    refine thenK_n <| ?_
    refine seqE ?_
    refine seqE ?_
    refine regionE ?_
    refine p4 (by kernel_rfl) ?_
    by_cases hc_9 : (((n : Nat) : Int) : Int) < 3
    · refine sFix 16 (decide ((((n : Nat) : Int) : Int) < 3)) true (decide_eq_true hc_9) ?_
      refine p16 (by kernel_rfl) ?_
      refine p1 (by kernel_rfl) ?_
      refine nilO ?_
      refine thenK_n <| ?_
      refine condE_true (by kernel_rfl) ?_
      refine seqE ?_
      refine regionE ?_
      refine p1 (by kernel_rfl) ?_
      refine sT hS_3 0 0 (.agg #[.slice none 0 0, .slice none 0 0, .slice none 0 0, .int .i64 0]) [.slice none 0 0, .slice none 0 0, .slice none 0 0, .int .i64 0] #[.slice none 0 0, .slice none 0 0, .slice none 0 0, .int .i64 0] Try.sizeOf28 ?_
      intro w_10 hS_11
      try dsimp only [List.set, List.eraseIdx] at hS_11
      refine p1 (by kernel_rfl) ?_
      refine nilO ?_
      refine thenK_n <| ?_
      refine retE (thenK_r <| ?_)
      refine retN (vs := [.agg #[.slice none 0 0, .slice none 0 0, .slice none 0 0, .int .i64 0], .int .i64 4]) rfl (.cons (.cell _ _ _ _ (by kernel_rfl) (lvA hS_11 0 0 [.slice none 0 0, .slice none 0 0, .slice none 0 0, .int .i64 0] (Try.isAgg28 _) (Try.sizeOf28 _) rfl rfl rfl)) (.cons (.tmp _ _ (by kernel_rfl)) .nil)) <| ?_
      have hS_12 := hS_11.pick 1 rfl
      try dsimp only [List.set, List.eraseIdx] at hS_12
      have hS_13 := hS_12.dropAt 1 rfl
      change Sat _ _ (H :: F) at hS_13
      have h2 : Sat W _ ([] :: H :: F) := Sat.nilc hS_13
      exact ⟨(⟨⟨none, 0, 0, []⟩, ⟨none, 0, 0, []⟩, ⟨none, 0, 0, []⟩, 0⟩ : Job), [], 4, rfl, ⟨RdT.nil (enc := encPlane) (sz := 4) (fun _ => rfl) _, (fun z hz => by cases hz), RdT.nil (enc := encStage) (sz := 18) (fun _ => rfl) _, (fun z hz => by cases hz), RdT.nil (enc := encI) (sz := 1) (fun _ => rfl) _⟩, DecR.head (by omega) (.inl (by omega)), h2⟩
    · refine sFix 16 (decide ((((n : Nat) : Int) : Int) < 3)) false (decide_eq_false hc_9) ?_
      refine p1 (by kernel_rfl) ?_
      refine guardYes rfl ⟨_, rfl, rfl, by kernel_rfl⟩ ?_
      refine sIdx hx 0 Try.runUnderlying31 Try.sizeOf5 ?_
      intro x_14 b_15 o_16 hx_17 hp_18
      refine guardYes rfl ⟨_, rfl, rfl, by kernel_rfl⟩ ?_
      refine sLp hS_3 (hp_18.up 1 rfl) 0 (.int .u8 x_14) (Try.isAgg5 _) ?_
      refine p3 (by kernel_rfl) ?_
      by_cases hc_19 : (x_14 : Int) = 84
      · refine sFix 22 ((x_14 : Int) != 84) false (bne_eq_false_iff_eq.2 hc_19) ?_
        refine p1 (by kernel_rfl) ?_
        refine guardYes rfl ⟨_, rfl, rfl, by kernel_rfl⟩ ?_
        refine sIdx hx 1 Try.runUnderlying31 Try.sizeOf5 ?_
        intro x_20 b_21 o_22 hx_23 hp_24
        refine guardYes rfl ⟨_, rfl, rfl, by kernel_rfl⟩ ?_
        refine sLp hS_3 (hp_24.up 1 rfl) 0 (.int .u8 x_20) (Try.isAgg5 _) ?_
        refine p3 (by kernel_rfl) ?_
        by_cases hc_25 : (x_20 : Int) = 70
        · refine sFix 28 ((x_20 : Int) != 70) false (bne_eq_false_iff_eq.2 hc_25) ?_
          refine p1 (by kernel_rfl) ?_
          refine guardYes rfl ⟨_, rfl, rfl, by kernel_rfl⟩ ?_
          refine sIdx hx 2 Try.runUnderlying31 Try.sizeOf5 ?_
          intro x_26 b_27 o_28 hx_29 hp_30
          refine guardYes rfl ⟨_, rfl, rfl, by kernel_rfl⟩ ?_
          refine sLp hS_3 (hp_30.up 1 rfl) 0 (.int .u8 x_26) (Try.isAgg5 _) ?_
          refine p2 (by kernel_rfl) ?_
          refine nilO ?_
          refine thenK_n <| ?_
          by_cases hc_31 : (x_26 : Int) = 1
          · refine cF ((x_26 : Int) != 1) (bne_eq_false_iff_eq.2 hc_31) ?_
            refine skipE ?_
            refine thenK_n <| ?_
            refine seqE ?_
            refine regionE ?_
            refine p1 (by kernel_rfl) ?_
            refine sSl (some 3) none 3 n Try.runUnderlying31 Try.sizeOf5 ⟨by decide, rfl⟩ rfl (by omega) (by omega) ?_ (a := a) (len := n) (cap := k)
            have hP_32 := hx.part (lo := 3) (hi := n) (by omega) (by omega)
            refine p1 (by kernel_rfl) ?_
            refine sBox hS_3 (.agg #[.slice (partAddr a k 3 1) (n - 3) (k - 3), .bool false]) #[.slice (partAddr a k 3 1) (n - 3) (k - 3), .bool false] ?_
            intro b_33 w_34 hS_35
            refine p1 (by kernel_rfl) ?_
            refine nilO ?_
            refine thenK_n <| ?_
            refine seqE ?_
            have he_36 : x_14 = 84 := by omega
            have he_37 : x_20 = 70 := by omega
            have he_38 : x_26 = 1 := by omega
            have hx3 : x = [84, 70, 1] ++ x.drop 3 := by
              have h := take3 hx_17 hx_23 hx_29
              rw [he_36, he_37, he_38] at h; exact h
            have hR2 := hP_32
            rw [List.take_of_length_le (by simp; omega)] at hR2
            have hI0 : RdrR 102 H b_33 (x.drop 3) false [(b_33, .cells #[.slice (partAddr a k 3 1) (n - 3) (k - 3), .bool false] 102 (0, 0))] := ⟨_, _, _, rfl, hR2, (fun y hy => hB y (List.mem_of_mem_drop hy)), by simp; omega⟩
            refine regionE ?_
            refine p1 (by kernel_rfl) ?_
            have hS_39 := hS_35.pick 2 rfl
            have hS_40 := hS_39.pick 1 rfl
            try dsimp only [List.set, List.eraseIdx] at hS_40
            refine sF #[.pointer (some ⟨b_33, 0, none⟩)] Try.call49 (Calls.mono (rrf_number W _ _ _ _ _ _ _ hI0 hS_40) ?_)
            rintro _ w_41 ⟨v_43, r_44, b_45, rfl, hG_47, hW_48, fp_46, hI_49, hS_42⟩
            refine ⟨_, rfl, ?_⟩
            try dsimp only [List.set, List.eraseIdx] at hS_42
            refine p1 (by kernel_rfl) ?_
            refine sAlloc hS_42 Try.zeroValue28 ?_
            intro b_50 w_51 hS_52
            try dsimp only [List.set, List.eraseIdx] at hS_52
            refine sT hS_52 0 0 (.agg #[.slice none 0 0, .slice none 0 0, .slice none 0 0, .int .i64 v_43]) [.slice none 0 0, .slice none 0 0, .slice none 0 0, .int .i64 v_43] #[.slice none 0 0, .slice none 0 0, .slice none 0 0, .int .i64 v_43] Try.sizeOf28 ?_
            intro w_53 hS_54
            try dsimp only [List.set, List.eraseIdx] at hS_54
            refine nilO ?_
            refine thenK_n <| ?_
            refine cutE (fun ρ w => ∃ (xsAc : List Plane) (aAc : Option Addr) (nAc : Nat) (kAc : Nat) (GAc : Chunk) (rAc : List Int) (bAc : Bool) (fpAc : Chunk), AllAt ρ [(2, .pointer (some ⟨b_1, 0, none⟩)), (18, .pointer (some ⟨b_15, o_16, none⟩)), (24, .pointer (some ⟨b_21, o_22, none⟩)), (30, .pointer (some ⟨b_27, o_28, none⟩)), (38, .pointer (some ⟨b_33, 0, none⟩)), (4, .pointer (some ⟨b_33, 0, none⟩)), (39, .pointer (some ⟨b_33, 0, none⟩)), (5, .pointer (some ⟨b_50, 0, none⟩)), (3, .int .i64 0)] ∧ Sat W w (GAc :: [(b_50, .cells #[.slice aAc nAc kAc, .slice none 0 0, .slice none 0 0, .int .i64 v_43] 28 (0, 0))] :: fpAc :: H :: [(b_1, .cells #[.slice none 0 0, .slice none 0 0, .slice none 0 0, .int .i64 0] 28 (0, 0))] :: F) ∧ Got (encL nPlane) (wfL wfPlane) r_44 b_45 (xsAc.map Plane.v) rAc bAc ∧ RdrR 102 H b_33 rAc bAc fpAc ∧ RdT encPlane 4 [GAc] aAc nAc kAc xsAc ∧ (∀ z ∈ xsAc, Plane.Ok [GAc] z)) ?_ ?_
            · refine seqE ?_
              refine regionE ?_
              refine p1 (by kernel_rfl) ?_
              have hS_55 := hS_54.pick 2 rfl
              have hS_56 := hS_55.pick 2 rfl
              try dsimp only [List.set, List.eraseIdx] at hS_56
              refine sF #[.pointer (some ⟨b_33, 0, none⟩)] Try.call50 (Calls.mono (rrf_count W _ _ _ _ _ _ _ hI_49 hS_56) ?_)
              rintro _ w_57 ⟨v_59, r_60, b_61, rfl, hC_63, fp_62, hI_64, hS_58⟩
              refine ⟨_, rfl, ?_⟩
              have hrng_v_59 := hC_63.rng; have hcap_v_59 := (by obtain ⟨_, _, _, _, _, _, h⟩ := hI_64; exact h : r_60.length ≤ 262144)
              try dsimp only [List.set, List.eraseIdx] at hS_58
              refine p1 (by kernel_rfl) ?_
              refine nilO ?_
              refine thenK_n <| ?_
              refine blockE ?_
              have hS_65 := Sat.nilc hS_58
              have hO_66 := OwnT.nil (enc := encPlane) (E := 49) (sz := 4) (fun _ => rfl)
              have hS_67 := Sat.nilc hS_65
              try dsimp only [List.set, List.eraseIdx] at hS_67
              refine loopE (γ := Nat × (List Plane) × (Option Addr) × Nat × Nat × Chunk × Chunk × (List Int) × Bool × Chunk × Int) (fun ⟨iA, xsA, aA, nA, kA, cA, GA, rA, bA, fpA, jA⟩ ρ w => AllAt ρ [(0, .slice a n k), (2, .pointer (some ⟨b_1, 0, none⟩)), (3, .int .i64 0), (9, .slice a n k), (10, .int .i64 ((n : Nat) : Int)), (11, .bool (decide ((((n : Nat) : Int) : Int) > 262144))), (13, .slice a n k), (14, .int .i64 ((n : Nat) : Int)), (15, .bool (decide ((((n : Nat) : Int) : Int) < 3))), (16, .bool false), (17, .slice a n k), (18, .pointer (some ⟨b_15, o_16, none⟩)), (19, .int .u8 x_14), (20, .bool ((x_14 : Int) != 84)), (21, .bool ((x_14 : Int) != 84)), (22, .bool false), (23, .slice a n k), (24, .pointer (some ⟨b_21, o_22, none⟩)), (25, .int .u8 x_20), (26, .bool ((x_20 : Int) != 70)), (27, .bool ((x_20 : Int) != 70)), (28, .bool false), (29, .slice a n k), (30, .pointer (some ⟨b_27, o_28, none⟩)), (31, .int .u8 x_26), (32, .bool ((x_26 : Int) != 1)), (33, .bool ((x_26 : Int) != 1)), (35, .slice a n k), (36, .slice (partAddr a k 3 1) (n - 3) (k - 3)), (37, .agg #[.slice (partAddr a k 3 1) (n - 3) (k - 3), .bool false]), (38, .pointer (some ⟨b_33, 0, none⟩)), (4, .pointer (some ⟨b_33, 0, none⟩)), (39, .pointer (some ⟨b_33, 0, none⟩)), (40, .int .i64 v_43), (41, .agg #[.slice none 0 0, .slice none 0 0, .slice none 0 0, .int .i64 v_43]), (5, .pointer (some ⟨b_50, 0, none⟩)), (42, .pointer (some ⟨b_33, 0, none⟩)), (43, .int .i64 v_59), (6, .int .i64 jA)] ∧ Sat W w (GA :: cA :: fpA :: H :: [(b_50, .cells #[.slice aA nA kA, .slice none 0 0, .slice none 0 0, .int .i64 v_43] 28 (0, 0))] :: [(b_1, .cells #[.slice none 0 0, .slice none 0 0, .slice none 0 0, .int .i64 0] 28 (0, 0))] :: F) ∧ (iA : Int) ≤ v_59 ∧ Got (encF nPlane) (wfN wfPlane iA) r_60 b_61 (xsA.map Plane.v) rA bA ∧ RdrR 102 H b_33 rA bA fpA ∧ OwnT encPlane 49 4 aA nA kA xsA cA ∧ nA = iA ∧ (∀ z ∈ xsA, Plane.Ok [GA] z) ∧ jA = v_59 - iA) (fun ⟨iA, xsA, aA, nA, kA, cA, GA, rA, bA, fpA, jA⟩ => v_59.toNat - iA) (0, [], none, 0, 0, [], [], r_60, b_61, fp_62, v_59) ⟨⟨by kernel_rfl, by kernel_rfl, by kernel_rfl, by kernel_rfl, by kernel_rfl, by kernel_rfl, by kernel_rfl, by kernel_rfl, by kernel_rfl, by kernel_rfl, by kernel_rfl, by kernel_rfl, by kernel_rfl, by kernel_rfl, by kernel_rfl, by kernel_rfl, by kernel_rfl, by kernel_rfl, by kernel_rfl, by kernel_rfl, by kernel_rfl, by kernel_rfl, by kernel_rfl, by kernel_rfl, by kernel_rfl, by kernel_rfl, by kernel_rfl, by kernel_rfl, by kernel_rfl, by kernel_rfl, by kernel_rfl, by kernel_rfl, by kernel_rfl, by kernel_rfl, by kernel_rfl, by kernel_rfl, by kernel_rfl, by kernel_rfl, by kernel_rfl, trivial⟩, hS_67, by omega, Got.none _ _, hI_64, hO_66, rfl, (by intro z hz; cases hz), by omega⟩ ?_
              skip
              rintro ⟨iA, xsA, aA, nA, kA, cA, GA, rA, bA, fpA, jA⟩ ρ w_68 ⟨hA, hS_69, hiA, hGA, hIA, hOA, hnA, hDA, hjA⟩
              refine cAnchor hA (fun ρ => ?_)
              clear hA
              refine seqE ?_
              refine seqE ?_
              have hS_75 := hS_69.pick 2 rfl
              try dsimp only [List.set, List.eraseIdx] at hS_75
              obtain ⟨a_70, n_71, k_72, rfl, hR_73, hB_74⟩ := hIA
              have hll_a_70 := hR_73.len; have hle_a_70 := hR_73.le
              refine regionE ?_
              refine p3 (by kernel_rfl) ?_
              by_cases hc_76 : (jA : Int) > 0
              · refine sFix 46 (decide ((jA : Int) > 0)) true (decide_eq_true hc_76) ?_
                refine p3 (by kernel_rfl) ?_
                refine guardYes rfl ⟨_, rfl, rfl, by kernel_rfl⟩ ?_
                refine sL hS_75 0 1 (.bool bA) (Try.isAgg4 _) ?_
                refine p2 (by kernel_rfl) ?_
                refine nilO ?_
                refine thenK_n <| ?_
                cases bA
                · refine condE_true (by kernel_rfl) ?_
                  refine skipE ?_
                  refine thenK_n <| ?_
                  refine seqE ?_
                  refine blockE ?_
                  refine seqE ?_
                  refine regionE ?_
                  refine p1 (by kernel_rfl) ?_
                  have hI_77 : RdrR 102 H b_33 rA false [(b_33, .cells #[.slice a_70 n_71 k_72, .bool false] 102 (0, 0))] := ⟨_, _, _, rfl, hR_73, hB_74⟩
                  have hS_78 := hS_75.pick 3 rfl
                  have hS_79 := hS_78.pick 1 rfl
                  try dsimp only [List.set, List.eraseIdx] at hS_79
                  refine sF #[.pointer (some ⟨b_33, 0, none⟩)] Try.call49 (Calls.mono (rrf_number W _ _ _ _ _ _ _ hI_77 hS_79) ?_)
                  rintro _ w_80 ⟨v_82, r_83, b_84, rfl, hG_86, hW_87, fp_85, hI_88, hS_81⟩
                  refine ⟨_, rfl, ?_⟩
                  try dsimp only [List.set, List.eraseIdx] at hS_81
                  refine p1 (by kernel_rfl) ?_
                  refine sAlloc hS_81 Try.zeroValue49 ?_
                  intro b_89 w_90 hS_91
                  try dsimp only [List.set, List.eraseIdx] at hS_91
                  refine sT hS_91 0 0 (.agg #[.int .i64 v_82, .int .i64 0, .int .i64 0, .slice none 0 0]) [.int .i64 v_82, .int .i64 0, .int .i64 0, .slice none 0 0] #[.int .i64 v_82, .int .i64 0, .int .i64 0, .slice none 0 0] Try.sizeOf49 ?_
                  intro w_92 hS_93
                  try dsimp only [List.set, List.eraseIdx] at hS_93
                  refine nilO ?_
                  refine thenK_n <| ?_
                  refine seqE ?_
                  refine regionE ?_
                  refine p1 (by kernel_rfl) ?_
                  have hS_94 := hS_93.pick 2 rfl
                  have hS_95 := hS_94.pick 2 rfl
                  try dsimp only [List.set, List.eraseIdx] at hS_95
                  refine sF #[.pointer (some ⟨b_33, 0, none⟩)] Try.call49 (Calls.mono (rrf_number W _ _ _ _ _ _ _ hI_88 hS_95) ?_)
                  rintro _ w_96 ⟨v_98, r_99, b_100, rfl, hG_102, hW_103, fp_101, hI_104, hS_97⟩
                  refine ⟨_, rfl, ?_⟩
                  try dsimp only [List.set, List.eraseIdx] at hS_97
                  refine p1 (by kernel_rfl) ?_
                  refine sT hS_97 2 1 (.int .i64 v_98) [.int .i64 v_98] #[.int .i64 v_82, .int .i64 v_98, .int .i64 0, .slice none 0 0] Try.sizeOf3 ?_
                  intro w_105 hS_106
                  try dsimp only [List.set, List.eraseIdx] at hS_106
                  refine nilO ?_
                  refine thenK_n <| ?_
                  refine seqE ?_
                  refine regionE ?_
                  refine p1 (by kernel_rfl) ?_
                  have hS_107 := hS_106.pick 1 rfl
                  have hS_108 := hS_107.pick 1 rfl
                  try dsimp only [List.set, List.eraseIdx] at hS_108
                  refine sF #[.pointer (some ⟨b_33, 0, none⟩)] Try.call49 (Calls.mono (rrf_number W _ _ _ _ _ _ _ hI_104 hS_108) ?_)
                  rintro _ w_109 ⟨v_111, r_112, b_113, rfl, hG_115, hW_116, fp_114, hI_117, hS_110⟩
                  refine ⟨_, rfl, ?_⟩
                  try dsimp only [List.set, List.eraseIdx] at hS_110
                  refine p1 (by kernel_rfl) ?_
                  refine sT hS_110 2 2 (.int .i64 v_111) [.int .i64 v_111] #[.int .i64 v_82, .int .i64 v_98, .int .i64 v_111, .slice none 0 0] Try.sizeOf3 ?_
                  intro w_118 hS_119
                  try dsimp only [List.set, List.eraseIdx] at hS_119
                  refine nilO ?_
                  refine thenK_n <| ?_
                  refine seqE ?_
                  refine regionE ?_
                  refine p1 (by kernel_rfl) ?_
                  have hS_120 := hS_119.pick 1 rfl
                  have hS_121 := hS_120.pick 1 rfl
                  try dsimp only [List.set, List.eraseIdx] at hS_121
                  refine sF #[.pointer (some ⟨b_33, 0, none⟩)] Try.call51 (Calls.mono (rrf_numbers W _ _ _ _ _ _ _ hI_117 hS_121) ?_)
                  rintro _ w_122 ⟨a_124, n_125, k_126, xs_127, G_128, r_129, b_130, rfl, hR_132, hG_134, fp_131, hI_135, hS_123⟩
                  refine ⟨_, rfl, ?_⟩
                  try dsimp only [List.set, List.eraseIdx] at hS_123
                  refine p1 (by kernel_rfl) ?_
                  refine sT hS_123 3 3 (.slice a_124 n_125 k_126) [.slice a_124 n_125 k_126] #[.int .i64 v_82, .int .i64 v_98, .int .i64 v_111, .slice a_124 n_125 k_126] Try.sizeOf22 ?_
                  intro w_136 hS_137
                  try dsimp only [List.set, List.eraseIdx] at hS_137
                  refine nilO ?_
                  refine thenK_n <| ?_
                  refine regionE ?_
                  refine p1 (by kernel_rfl) ?_
                  refine sL hS_137 6 0 (.slice aA nA kA) (Try.isAgg25 _) ?_
                  refine sLA hS_137 3 0 [.int .i64 v_82, .int .i64 v_98, .int .i64 v_111, .slice a_124 n_125 k_126] (Try.isAgg49 _) (Try.sizeOf49 _) ?_
                  refine sBS hS_137 #[.int .i64 v_82, .int .i64 v_98, .int .i64 v_111, .slice a_124 n_125 k_126] Try.runUnderlying25 Try.sizeOf49 Try.zeroValue49 ?_
                  intro b_138 w_139 hS_140
                  refine sApp (nb := 48) hS_140 hOA 6 (RdT.blk (enc := encPlane) (sz := 4) (xs := [(⟨v_82, v_98, v_111, ⟨a_124, n_125, k_126, xs_127⟩⟩ : Plane)]) (fun _ => rfl) 1 0 rfl rfl rfl (by omega)) Try.underlying25 (i := Try.t49) (by kernel_rfl) (fun _ => rfl) ?_
                  intro a_141 cap_142 c_143 w_144 hO_145 hS_146
                  try dsimp only [List.set, List.eraseIdx] at hS_146
                  refine p1 (by kernel_rfl) ?_
                  refine sT hS_146 7 0 (.slice a_141 (nA + 1) cap_142) [.slice a_141 (nA + 1) cap_142] #[.slice a_141 (nA + 1) cap_142, .slice none 0 0, .slice none 0 0, .int .i64 v_43] Try.sizeOf25 ?_
                  intro w_147 hS_148
                  try dsimp only [List.set, List.eraseIdx] at hS_148
                  refine nilO ?_
                  refine blockK_n <| thenK_n <| ?_
                  refine regionE ?_
                  refine p1 (by kernel_rfl) ?_
                  refine sSub jA 1 ?_
                  refine p1 (by kernel_rfl) ?_
                  refine nilO ?_
                  refine thenK_n <| ?_
                  have hX := hGA.snoc pfPlane (Got.plane hG_86 hG_102 hG_115 hG_134)
                  have hS_149 := hS_148.pick 8 rfl
                  have hS_150 := hS_149.pick 8 rfl
                  have hS_151 := hS_150.pick 5 rfl
                  have hS_152 := hS_151.pick 4 rfl
                  have hS_153 := hS_152.pick 8 rfl
                  have hS_154 := hS_153.pick 8 rfl
                  have hS_155 := hS_154.pick 7 rfl
                  try dsimp only [List.set, List.eraseIdx] at hS_155
                  have hS_156 := hS_155.dropAt 7 rfl
                  have hS_157 := hS_156.dropAt 7 rfl
                  try dsimp only [List.set, List.eraseIdx] at hS_157
                  have hS_158 := (Sat.perm (cs' := (G_128 ++ GA) :: (c_143 :: fp_131 :: H :: [(b_50, .cells #[.slice a_141 (nA + 1) cap_142, .slice none 0 0, .slice none 0 0, .int .i64 v_43] 28 (0, 0))] :: [(b_1, .cells #[.slice none 0 0, .slice none 0 0, .slice none 0 0, .int .i64 0] 28 (0, 0))] :: F)) hS_157 (by simp))
                  have hD2 : ∀ z ∈ xsA ++ [(⟨v_82, v_98, v_111, ⟨a_124, n_125, k_126, xs_127⟩⟩ : Plane)], Plane.Ok [(G_128 ++ GA)] z := by
                    intro z hz
                    rcases List.mem_append.1 hz with h | h
                    · exact (hDA z h).of_mem (fun p hp => by simp at hp ⊢; simp [hp])
                    · simp only [List.mem_singleton] at h; subst h; exact ⟨hR_132.of_mem (fun p hp => by simp at hp ⊢; simp [hp])⟩
                  exact ⟨(iA + 1, (xsA ++ [(⟨v_82, v_98, v_111, ⟨a_124, n_125, k_126, xs_127⟩⟩ : Plane)]), a_141, (nA + 1), cap_142, c_143, (G_128 ++ GA), r_129, b_130, fp_131, (jA - 1)), by dsimp only; omega, ⟨by kernel_rfl, by kernel_rfl, by kernel_rfl, by kernel_rfl, by kernel_rfl, by kernel_rfl, by kernel_rfl, by kernel_rfl, by kernel_rfl, by kernel_rfl, by kernel_rfl, by kernel_rfl, by kernel_rfl, by kernel_rfl, by kernel_rfl, by kernel_rfl, by kernel_rfl, by kernel_rfl, by kernel_rfl, by kernel_rfl, by kernel_rfl, by kernel_rfl, by kernel_rfl, by kernel_rfl, by kernel_rfl, by kernel_rfl, by kernel_rfl, by kernel_rfl, by kernel_rfl, by kernel_rfl, by kernel_rfl, by kernel_rfl, by kernel_rfl, by kernel_rfl, by kernel_rfl, by kernel_rfl, by kernel_rfl, by kernel_rfl, by kernel_rfl, trivial⟩, hS_158, by omega, by first | simpa [Plane.v] using hX | simpa using hX, hI_135, hO_145, by omega, hD2, by omega⟩
                · refine condE_false (by kernel_rfl) ?_
                  refine exitE (thenK_x <| thenK_x <| blockK_x <| ?_)
                  refine thenK_n <| ?_
                  have hI_159 : RdrR 102 H b_33 rA true [(b_33, .cells #[.slice a_70 n_71 k_72, .bool true] 102 (0, 0))] := ⟨_, _, _, rfl, hR_73, hB_74⟩
                  have hS_160 := hS_75.pick 5 rfl
                  have hS_161 := hS_160.pick 4 rfl
                  have hS_162 := hS_161.pick 2 rfl
                  have hS_163 := hS_162.pick 5 rfl
                  have hS_164 := hS_163.pick 5 rfl
                  have hS_165 := hS_164.pick 5 rfl
                  try dsimp only [List.set, List.eraseIdx] at hS_165
                  try dsimp only [List.set, List.eraseIdx] at hS_165
                  have hS_166 : Sat W _ ((GA ++ cA) :: ([(b_50, .cells #[.slice aA nA kA, .slice none 0 0, .slice none 0 0, .int .i64 v_43] 28 (0, 0))] :: [(b_33, .cells #[.slice a_70 n_71 k_72, .bool true] 102 (0, 0))] :: H :: [(b_1, .cells #[.slice none 0 0, .slice none 0 0, .slice none 0 0, .int .i64 0] 28 (0, 0))] :: F)) := Sat.perm hS_165 (by simp)
                  have hZ : Got (encF nPlane) (wfN wfPlane v_59.toNat) r_60 b_61 (xsA.map Plane.v) rA true := by
                    by_cases hfull : (iA : Int) = v_59
                    · rw [show v_59.toNat = iA from by omega]; exact hGA
                    · first | (exfalso; omega) | exact hGA.stop (by omega) _
                  exact ⟨xsA, aA, nA, kA, (GA ++ cA), rA, true, [(b_33, .cells #[.slice a_70 n_71 k_72, .bool true] 102 (0, 0))], ⟨by kernel_rfl, by kernel_rfl, by kernel_rfl, by kernel_rfl, by kernel_rfl, by kernel_rfl, by kernel_rfl, by kernel_rfl, by kernel_rfl, trivial⟩, hS_166, Got.list nPlane_ge1 hC_63 hZ, hI_159, (hOA.rd (fun p hp => by simp [hp])), (fun z hz => (hDA z hz).of_mem (fun p hp => by simp at hp ⊢; simp [hp]))⟩
              · refine sFix 46 (decide ((jA : Int) > 0)) false (decide_eq_false hc_76) ?_
                refine p6 (by kernel_rfl) ?_
                refine nilO ?_
                refine thenK_n <| ?_
                refine condE_false (by kernel_rfl) ?_
                refine exitE (thenK_x <| thenK_x <| blockK_x <| ?_)
                refine thenK_n <| ?_
                have hI_167 : RdrR 102 H b_33 rA bA [(b_33, .cells #[.slice a_70 n_71 k_72, .bool bA] 102 (0, 0))] := ⟨_, _, _, rfl, hR_73, hB_74⟩
                have hS_168 := hS_75.pick 5 rfl
                have hS_169 := hS_168.pick 4 rfl
                have hS_170 := hS_169.pick 2 rfl
                have hS_171 := hS_170.pick 5 rfl
                have hS_172 := hS_171.pick 5 rfl
                have hS_173 := hS_172.pick 5 rfl
                try dsimp only [List.set, List.eraseIdx] at hS_173
                try dsimp only [List.set, List.eraseIdx] at hS_173
                have hS_174 : Sat W _ ((GA ++ cA) :: ([(b_50, .cells #[.slice aA nA kA, .slice none 0 0, .slice none 0 0, .int .i64 v_43] 28 (0, 0))] :: [(b_33, .cells #[.slice a_70 n_71 k_72, .bool bA] 102 (0, 0))] :: H :: [(b_1, .cells #[.slice none 0 0, .slice none 0 0, .slice none 0 0, .int .i64 0] 28 (0, 0))] :: F)) := Sat.perm hS_173 (by simp)
                have hZ : Got (encF nPlane) (wfN wfPlane v_59.toNat) r_60 b_61 (xsA.map Plane.v) rA bA := by
                  by_cases hfull : (iA : Int) = v_59
                  · rw [show v_59.toNat = iA from by omega]; exact hGA
                  · first | (exfalso; omega) | exact hGA.stop (by omega) _
                exact ⟨xsA, aA, nA, kA, (GA ++ cA), rA, bA, [(b_33, .cells #[.slice a_70 n_71 k_72, .bool bA] 102 (0, 0))], ⟨by kernel_rfl, by kernel_rfl, by kernel_rfl, by kernel_rfl, by kernel_rfl, by kernel_rfl, by kernel_rfl, by kernel_rfl, by kernel_rfl, trivial⟩, hS_174, Got.list nPlane_ge1 hC_63 hZ, hI_167, (hOA.rd (fun p hp => by simp [hp])), (fun z hz => (hDA z hz).of_mem (fun p hp => by simp at hp ⊢; simp [hp]))⟩
            · rintro ρ w_175 ⟨xsAc, aAc, nAc, kAc, GAc, rAc, bAc, fpAc, hA, hS_176, hLAc, hIAc, hRAc, hDAc⟩
              refine cAnchor hA (fun ρ => ?_)
              clear hA
              refine cutE (fun ρ w => ∃ (xsBc : List Stage) (aBc : Option Addr) (nBc : Nat) (kBc : Nat) (GBc : Chunk) (rBc : List Int) (bBc : Bool) (fpBc : Chunk), AllAt ρ [(2, .pointer (some ⟨b_1, 0, none⟩)), (18, .pointer (some ⟨b_15, o_16, none⟩)), (24, .pointer (some ⟨b_21, o_22, none⟩)), (30, .pointer (some ⟨b_27, o_28, none⟩)), (38, .pointer (some ⟨b_33, 0, none⟩)), (4, .pointer (some ⟨b_33, 0, none⟩)), (39, .pointer (some ⟨b_33, 0, none⟩)), (5, .pointer (some ⟨b_50, 0, none⟩)), (3, .int .i64 0)] ∧ Sat W w (GBc :: GAc :: [(b_50, .cells #[.slice aAc nAc kAc, .slice aBc nBc kBc, .slice none 0 0, .int .i64 v_43] 28 (0, 0))] :: fpBc :: H :: [(b_1, .cells #[.slice none 0 0, .slice none 0 0, .slice none 0 0, .int .i64 0] 28 (0, 0))] :: F) ∧ Got (encL nStage) (wfL wfStage) rAc bAc (xsBc.map Stage.v) rBc bBc ∧ RdrR 102 H b_33 rBc bBc fpBc ∧ RdT encStage 18 [GBc] aBc nBc kBc xsBc ∧ (∀ z ∈ xsBc, Stage.Ok [GBc] z)) ?_ ?_
              · refine seqE ?_
                refine regionE ?_
                refine p1 (by kernel_rfl) ?_
                have hS_177 := hS_176.pick 3 rfl
                have hS_178 := hS_177.pick 3 rfl
                try dsimp only [List.set, List.eraseIdx] at hS_178
                refine sF #[.pointer (some ⟨b_33, 0, none⟩)] Try.call50 (Calls.mono (rrf_count W _ _ _ _ _ _ _ hIAc hS_178) ?_)
                rintro _ w_179 ⟨v_181, r_182, b_183, rfl, hC_185, fp_184, hI_186, hS_180⟩
                refine ⟨_, rfl, ?_⟩
                have hrng_v_181 := hC_185.rng; have hcap_v_181 := (by obtain ⟨_, _, _, _, _, _, h⟩ := hI_186; exact h : r_182.length ≤ 262144)
                try dsimp only [List.set, List.eraseIdx] at hS_180
                refine p1 (by kernel_rfl) ?_
                refine nilO ?_
                refine thenK_n <| ?_
                refine blockE ?_
                have hS_187 := Sat.nilc hS_180
                have hO_188 := OwnT.nil (enc := encStage) (E := 61) (sz := 18) (fun _ => rfl)
                have hS_189 := Sat.nilc hS_187
                try dsimp only [List.set, List.eraseIdx] at hS_189
                refine loopE (γ := Nat × (List Stage) × (Option Addr) × Nat × Nat × Chunk × Chunk × (List Int) × Bool × Chunk × Int) (fun ⟨iB, xsB, aB, nB, kB, cB, GB, rB, bB, fpB, jB⟩ ρ w => AllAt ρ [(2, .pointer (some ⟨b_1, 0, none⟩)), (18, .pointer (some ⟨b_15, o_16, none⟩)), (24, .pointer (some ⟨b_21, o_22, none⟩)), (30, .pointer (some ⟨b_27, o_28, none⟩)), (38, .pointer (some ⟨b_33, 0, none⟩)), (4, .pointer (some ⟨b_33, 0, none⟩)), (39, .pointer (some ⟨b_33, 0, none⟩)), (5, .pointer (some ⟨b_50, 0, none⟩)), (3, .int .i64 0), (73, .pointer (some ⟨b_33, 0, none⟩)), (74, .int .i64 v_181), (8, .int .i64 jB)] ∧ Sat W w (GB :: cB :: fpB :: H :: GAc :: [(b_50, .cells #[.slice aAc nAc kAc, .slice aB nB kB, .slice none 0 0, .int .i64 v_43] 28 (0, 0))] :: [(b_1, .cells #[.slice none 0 0, .slice none 0 0, .slice none 0 0, .int .i64 0] 28 (0, 0))] :: F) ∧ (iB : Int) ≤ v_181 ∧ Got (encF nStage) (wfN wfStage iB) r_182 b_183 (xsB.map Stage.v) rB bB ∧ RdrR 102 H b_33 rB bB fpB ∧ OwnT encStage 61 18 aB nB kB xsB cB ∧ nB = iB ∧ (∀ z ∈ xsB, Stage.Ok [GB] z) ∧ jB = v_181 - iB) (fun ⟨iB, xsB, aB, nB, kB, cB, GB, rB, bB, fpB, jB⟩ => v_181.toNat - iB) (0, [], none, 0, 0, [], [], r_182, b_183, fp_184, v_181) ⟨⟨by kernel_rfl, by kernel_rfl, by kernel_rfl, by kernel_rfl, by kernel_rfl, by kernel_rfl, by kernel_rfl, by kernel_rfl, by kernel_rfl, by kernel_rfl, by kernel_rfl, by kernel_rfl, trivial⟩, hS_189, by omega, Got.none _ _, hI_186, hO_188, rfl, (by intro z hz; cases hz), by omega⟩ ?_
                skip
                rintro ⟨iB, xsB, aB, nB, kB, cB, GB, rB, bB, fpB, jB⟩ ρ w_190 ⟨hA, hS_191, hiB, hGB, hIB, hOB, hnB, hDB, hjB⟩
                refine cAnchor hA (fun ρ => ?_)
                clear hA
                refine seqE ?_
                refine seqE ?_
                have hS_197 := hS_191.pick 2 rfl
                try dsimp only [List.set, List.eraseIdx] at hS_197
                obtain ⟨a_192, n_193, k_194, rfl, hR_195, hB_196⟩ := hIB
                have hll_a_192 := hR_195.len; have hle_a_192 := hR_195.le
                refine regionE ?_
                refine p3 (by kernel_rfl) ?_
                by_cases hc_198 : (jB : Int) > 0
                · refine sFix 77 (decide ((jB : Int) > 0)) true (decide_eq_true hc_198) ?_
                  refine p3 (by kernel_rfl) ?_
                  refine guardYes rfl ⟨_, rfl, rfl, by kernel_rfl⟩ ?_
                  refine sL hS_197 0 1 (.bool bB) (Try.isAgg4 _) ?_
                  refine p2 (by kernel_rfl) ?_
                  refine nilO ?_
                  refine thenK_n <| ?_
                  cases bB
                  · refine condE_true (by kernel_rfl) ?_
                    refine skipE ?_
                    refine thenK_n <| ?_
                    refine seqE ?_
                    refine blockE ?_
                    refine drawE [3, 4, 5, 7] [(1, ⟨b_50, 1, none⟩, .slice aB nB kB)] [(true, [0, 2]), (true, [1]), (false, [3]), (false, [4]), (false, [5]), (true, [6]), (false, [7])] rfl (by kernel_rfl) ⟨.inr (hS_197.cell 5 rfl rfl), trivial⟩ ?_
                    have hS_199 := hS_197.drew
                    refine wP [0, 2] rfl (by kernel_rfl) ?_
                    refine wS (.slice aB nB kB) rfl rfl rfl (fun w hF => Y_load rfl (Try.isAgg26 w) (by kernel_rfl) (hF 0 _ _ rfl)) ?_
                    refine wO rfl ?_
                    have hI_200 : RdrR 102 H b_33 rB false [(b_33, .cells #[.slice a_192 n_193 k_194, .bool false] 102 (0, 0))] := ⟨_, _, _, rfl, hR_195, hB_196⟩
                    have hS_201 := hS_199.pick 3 rfl
                    have hS_202 := hS_201.pick 1 rfl
                    try dsimp only [List.set, List.eraseIdx] at hS_202
                    refine sF #[.pointer (some ⟨b_33, 0, none⟩)] Try.call52 (Calls.mono (rrf_stage W _ _ _ _ _ _ _ hI_200 hS_202) ?_)
                    rintro _ w_203 ⟨q_205, G_206, r_207, b_208, rfl, hok_210, hG_211, fp_209, hI_212, hS_204⟩
                    refine ⟨_, rfl, ?_⟩
                    try dsimp only [List.set, List.eraseIdx] at hS_204
                    refine nilO ⟨⟨.inr (hS_204.cell 6 rfl rfl), trivial⟩, ?_⟩
                    refine wO rfl ?_
                    refine sBS hS_204 #[.int .i64 q_205.kind, .int .i64 q_205.a, .int .i64 q_205.b, .bool q_205.barrier, .int .i64 q_205.edgePolicy, .int .i64 q_205.edgeFill, .int .i64 q_205.kW, .int .i64 q_205.kH, .slice q_205.weights.a q_205.weights.n q_205.weights.k, .slice q_205.row.a q_205.row.n q_205.row.k, .slice q_205.col.a q_205.col.n q_205.col.k, .int .i64 q_205.shift, .int .i64 q_205.shift2, .slice q_205.x.a q_205.x.n q_205.x.k, .slice q_205.y.a q_205.y.n q_205.y.k, .int .i64 q_205.bins, .slice q_205.ops.a q_205.ops.n q_205.ops.k, .int .i64 q_205.max_] Try.runUnderlying26 Try.sizeOf61 Try.zeroValue61 ?_
                    intro b_213 w_214 hS_215
                    refine nilO ⟨⟨.inr (hS_215.cell 7 rfl rfl), trivial⟩, ?_⟩
                    refine wO rfl ?_
                    refine sApp (nb := 240) hS_215 hOB 5 (RdT.blk (enc := encStage) (sz := 18) (xs := [(⟨q_205.kind, q_205.a, q_205.b, q_205.barrier, q_205.edgePolicy, q_205.edgeFill, q_205.kW, q_205.kH, ⟨q_205.weights.a, q_205.weights.n, q_205.weights.k, q_205.weights.l⟩, ⟨q_205.row.a, q_205.row.n, q_205.row.k, q_205.row.l⟩, ⟨q_205.col.a, q_205.col.n, q_205.col.k, q_205.col.l⟩, q_205.shift, q_205.shift2, ⟨q_205.x.a, q_205.x.n, q_205.x.k, q_205.x.l⟩, ⟨q_205.y.a, q_205.y.n, q_205.y.k, q_205.y.l⟩, q_205.bins, ⟨q_205.ops.a, q_205.ops.n, q_205.ops.k, q_205.ops.l⟩, q_205.max_⟩ : Stage)]) (fun _ => rfl) 1 0 rfl rfl rfl (by omega)) Try.underlying26 (i := Try.t61) (by kernel_rfl) (fun _ => rfl) ?_
                    intro a_216 cap_217 c_218 w_219 hO_220 hS_221
                    try dsimp only [List.set, List.eraseIdx] at hS_221
                    refine nilO ⟨⟨.inl (by kernel_rfl), trivial⟩, ?_⟩
                    refine wP [6] rfl (by kernel_rfl) ?_
                    refine wO rfl ?_
                    refine sT hS_221 7 1 (.slice a_216 (nB + 1) cap_217) [.slice a_216 (nB + 1) cap_217] #[.slice aAc nAc kAc, .slice a_216 (nB + 1) cap_217, .slice none 0 0, .int .i64 v_43] Try.sizeOf26 ?_
                    intro w_222 hS_223
                    try dsimp only [List.set, List.eraseIdx] at hS_223
                    refine nilO ⟨⟨.inl (by kernel_rfl), trivial⟩, ?_⟩
                    refine wN ?_
                    refine blockK_n <| thenK_n <| ?_
                    refine regionE ?_
                    refine p1 (by kernel_rfl) ?_
                    refine sSub jB 1 ?_
                    refine p1 (by kernel_rfl) ?_
                    refine nilO ?_
                    refine thenK_n <| ?_
                    have hX := hGB.snoc pfStage hG_211
                    have hS_224 := hS_223.pick 8 rfl
                    have hS_225 := hS_224.pick 8 rfl
                    have hS_226 := hS_225.pick 8 rfl
                    have hS_227 := hS_226.pick 6 rfl
                    have hS_228 := hS_227.pick 5 rfl
                    have hS_229 := hS_228.pick 8 rfl
                    have hS_230 := hS_229.pick 8 rfl
                    have hS_231 := hS_230.pick 8 rfl
                    try dsimp only [List.set, List.eraseIdx] at hS_231
                    have hS_232 := hS_231.dropAt 8 rfl
                    try dsimp only [List.set, List.eraseIdx] at hS_232
                    have hS_233 := (Sat.perm (cs' := (G_206 ++ GB) :: (c_218 :: fp_209 :: H :: GAc :: [(b_50, .cells #[.slice aAc nAc kAc, .slice a_216 (nB + 1) cap_217, .slice none 0 0, .int .i64 v_43] 28 (0, 0))] :: [(b_1, .cells #[.slice none 0 0, .slice none 0 0, .slice none 0 0, .int .i64 0] 28 (0, 0))] :: F)) hS_232 (by simp))
                    have hD2 : ∀ z ∈ xsB ++ [(⟨q_205.kind, q_205.a, q_205.b, q_205.barrier, q_205.edgePolicy, q_205.edgeFill, q_205.kW, q_205.kH, ⟨q_205.weights.a, q_205.weights.n, q_205.weights.k, q_205.weights.l⟩, ⟨q_205.row.a, q_205.row.n, q_205.row.k, q_205.row.l⟩, ⟨q_205.col.a, q_205.col.n, q_205.col.k, q_205.col.l⟩, q_205.shift, q_205.shift2, ⟨q_205.x.a, q_205.x.n, q_205.x.k, q_205.x.l⟩, ⟨q_205.y.a, q_205.y.n, q_205.y.k, q_205.y.l⟩, q_205.bins, ⟨q_205.ops.a, q_205.ops.n, q_205.ops.k, q_205.ops.l⟩, q_205.max_⟩ : Stage)], Stage.Ok [(G_206 ++ GB)] z := by
                      intro z hz
                      rcases List.mem_append.1 hz with h | h
                      · exact (hDB z h).of_mem (fun p hp => by simp at hp ⊢; simp [hp])
                      · simp only [List.mem_singleton] at h; subst h; exact hok_210.of_mem (fun p hp => by simp at hp ⊢; simp [hp])
                    exact ⟨(iB + 1, (xsB ++ [(⟨q_205.kind, q_205.a, q_205.b, q_205.barrier, q_205.edgePolicy, q_205.edgeFill, q_205.kW, q_205.kH, ⟨q_205.weights.a, q_205.weights.n, q_205.weights.k, q_205.weights.l⟩, ⟨q_205.row.a, q_205.row.n, q_205.row.k, q_205.row.l⟩, ⟨q_205.col.a, q_205.col.n, q_205.col.k, q_205.col.l⟩, q_205.shift, q_205.shift2, ⟨q_205.x.a, q_205.x.n, q_205.x.k, q_205.x.l⟩, ⟨q_205.y.a, q_205.y.n, q_205.y.k, q_205.y.l⟩, q_205.bins, ⟨q_205.ops.a, q_205.ops.n, q_205.ops.k, q_205.ops.l⟩, q_205.max_⟩ : Stage)]), a_216, (nB + 1), cap_217, c_218, (G_206 ++ GB), r_207, b_208, fp_209, (jB - 1)), by dsimp only; omega, ⟨by kernel_rfl, by kernel_rfl, by kernel_rfl, by kernel_rfl, by kernel_rfl, by kernel_rfl, by kernel_rfl, by kernel_rfl, by kernel_rfl, by kernel_rfl, by kernel_rfl, by kernel_rfl, trivial⟩, hS_233, by omega, by first | simpa [Stage.v] using hX | simpa using hX, hI_212, hO_220, by omega, hD2, by omega⟩
                  · refine condE_false (by kernel_rfl) ?_
                    refine exitE (thenK_x <| thenK_x <| blockK_x <| ?_)
                    refine thenK_n <| ?_
                    have hI_234 : RdrR 102 H b_33 rB true [(b_33, .cells #[.slice a_192 n_193 k_194, .bool true] 102 (0, 0))] := ⟨_, _, _, rfl, hR_195, hB_196⟩
                    have hS_235 := hS_197.pick 6 rfl
                    have hS_236 := hS_235.pick 4 rfl
                    have hS_237 := hS_236.pick 2 rfl
                    have hS_238 := hS_237.pick 6 rfl
                    have hS_239 := hS_238.pick 6 rfl
                    have hS_240 := hS_239.pick 6 rfl
                    have hS_241 := hS_240.pick 6 rfl
                    try dsimp only [List.set, List.eraseIdx] at hS_241
                    try dsimp only [List.set, List.eraseIdx] at hS_241
                    have hS_242 : Sat W _ ((GB ++ cB) :: (GAc :: [(b_50, .cells #[.slice aAc nAc kAc, .slice aB nB kB, .slice none 0 0, .int .i64 v_43] 28 (0, 0))] :: [(b_33, .cells #[.slice a_192 n_193 k_194, .bool true] 102 (0, 0))] :: H :: [(b_1, .cells #[.slice none 0 0, .slice none 0 0, .slice none 0 0, .int .i64 0] 28 (0, 0))] :: F)) := Sat.perm hS_241 (by simp)
                    have hZ : Got (encF nStage) (wfN wfStage v_181.toNat) r_182 b_183 (xsB.map Stage.v) rB true := by
                      by_cases hfull : (iB : Int) = v_181
                      · rw [show v_181.toNat = iB from by omega]; exact hGB
                      · first | (exfalso; omega) | exact hGB.stop (by omega) _
                    exact ⟨xsB, aB, nB, kB, (GB ++ cB), rB, true, [(b_33, .cells #[.slice a_192 n_193 k_194, .bool true] 102 (0, 0))], ⟨by kernel_rfl, by kernel_rfl, by kernel_rfl, by kernel_rfl, by kernel_rfl, by kernel_rfl, by kernel_rfl, by kernel_rfl, by kernel_rfl, trivial⟩, hS_242, Got.list nStage_ge1 hC_185 hZ, hI_234, (hOB.rd (fun p hp => by simp [hp])), (fun z hz => (hDB z hz).of_mem (fun p hp => by simp at hp ⊢; simp [hp]))⟩
                · refine sFix 77 (decide ((jB : Int) > 0)) false (decide_eq_false hc_198) ?_
                  refine p6 (by kernel_rfl) ?_
                  refine nilO ?_
                  refine thenK_n <| ?_
                  refine condE_false (by kernel_rfl) ?_
                  refine exitE (thenK_x <| thenK_x <| blockK_x <| ?_)
                  refine thenK_n <| ?_
                  have hI_243 : RdrR 102 H b_33 rB bB [(b_33, .cells #[.slice a_192 n_193 k_194, .bool bB] 102 (0, 0))] := ⟨_, _, _, rfl, hR_195, hB_196⟩
                  have hS_244 := hS_197.pick 6 rfl
                  have hS_245 := hS_244.pick 4 rfl
                  have hS_246 := hS_245.pick 2 rfl
                  have hS_247 := hS_246.pick 6 rfl
                  have hS_248 := hS_247.pick 6 rfl
                  have hS_249 := hS_248.pick 6 rfl
                  have hS_250 := hS_249.pick 6 rfl
                  try dsimp only [List.set, List.eraseIdx] at hS_250
                  try dsimp only [List.set, List.eraseIdx] at hS_250
                  have hS_251 : Sat W _ ((GB ++ cB) :: (GAc :: [(b_50, .cells #[.slice aAc nAc kAc, .slice aB nB kB, .slice none 0 0, .int .i64 v_43] 28 (0, 0))] :: [(b_33, .cells #[.slice a_192 n_193 k_194, .bool bB] 102 (0, 0))] :: H :: [(b_1, .cells #[.slice none 0 0, .slice none 0 0, .slice none 0 0, .int .i64 0] 28 (0, 0))] :: F)) := Sat.perm hS_250 (by simp)
                  have hZ : Got (encF nStage) (wfN wfStage v_181.toNat) r_182 b_183 (xsB.map Stage.v) rB bB := by
                    by_cases hfull : (iB : Int) = v_181
                    · rw [show v_181.toNat = iB from by omega]; exact hGB
                    · first | (exfalso; omega) | exact hGB.stop (by omega) _
                  exact ⟨xsB, aB, nB, kB, (GB ++ cB), rB, bB, [(b_33, .cells #[.slice a_192 n_193 k_194, .bool bB] 102 (0, 0))], ⟨by kernel_rfl, by kernel_rfl, by kernel_rfl, by kernel_rfl, by kernel_rfl, by kernel_rfl, by kernel_rfl, by kernel_rfl, by kernel_rfl, trivial⟩, hS_251, Got.list nStage_ge1 hC_185 hZ, hI_243, (hOB.rd (fun p hp => by simp [hp])), (fun z hz => (hDB z hz).of_mem (fun p hp => by simp at hp ⊢; simp [hp]))⟩
              · rintro ρ w_252 ⟨xsBc, aBc, nBc, kBc, GBc, rBc, bBc, fpBc, hA, hS_253, hLBc, hIBc, hRBc, hDBc⟩
                refine cAnchor hA (fun ρ => ?_)
                clear hA
                refine seqE ?_
                refine regionE ?_
                refine p1 (by kernel_rfl) ?_
                have hS_254 := hS_253.pick 4 rfl
                have hS_255 := hS_254.pick 4 rfl
                try dsimp only [List.set, List.eraseIdx] at hS_255
                refine sF #[.pointer (some ⟨b_33, 0, none⟩)] Try.call51 (Calls.mono (rrf_numbers W _ _ _ _ _ _ _ hIBc hS_255) ?_)
                rintro _ w_256 ⟨a_258, n_259, k_260, xs_261, G_262, r_263, b_264, rfl, hR_266, hG_268, fp_265, hI_269, hS_257⟩
                refine ⟨_, rfl, ?_⟩
                try dsimp only [List.set, List.eraseIdx] at hS_257
                refine p1 (by kernel_rfl) ?_
                refine sT hS_257 5 2 (.slice a_258 n_259 k_260) [.slice a_258 n_259 k_260] #[.slice aAc nAc kAc, .slice aBc nBc kBc, .slice a_258 n_259 k_260, .int .i64 v_43] Try.sizeOf22 ?_
                intro w_270 hS_271
                try dsimp only [List.set, List.eraseIdx] at hS_271
                refine nilO ?_
                refine thenK_n <| ?_
                refine seqE ?_
                refine seqE ?_
                try dsimp only [List.set, List.eraseIdx] at hS_271
                obtain ⟨a_272, n_273, k_274, rfl, hR_275, hB_276⟩ := hI_269
                have hll_a_272 := hR_275.len; have hle_a_272 := hR_275.le
                refine regionE ?_
                refine p3 (by kernel_rfl) ?_
                refine sL hS_271 0 1 (.bool b_264) (Try.isAgg4 _) ?_
                refine p1 (by kernel_rfl) ?_
                cases b_264
                · refine p3 (by kernel_rfl) ?_
                  refine guardYes rfl ⟨_, rfl, rfl, by kernel_rfl⟩ ?_
                  refine sL hS_271 0 0 (.slice a_272 n_273 k_274) (Try.isAgg31 _) ?_
                  refine p3 (by kernel_rfl) ?_
                  refine nilO ?_
                  refine thenK_n <| ?_
                  by_cases hc_277 : (((n_273 : Nat) : Int) : Int) > 0
                  · refine cT (decide ((((n_273 : Nat) : Int) : Int) > 0)) (decide_eq_true hc_277) ?_
                    refine seqE ?_
                    refine regionE ?_
                    refine p1 (by kernel_rfl) ?_
                    refine sT hS_271 6 0 (.agg #[.slice none 0 0, .slice none 0 0, .slice none 0 0, .int .i64 0]) [.slice none 0 0, .slice none 0 0, .slice none 0 0, .int .i64 0] #[.slice none 0 0, .slice none 0 0, .slice none 0 0, .int .i64 0] Try.sizeOf28 ?_
                    intro w_278 hS_279
                    try dsimp only [List.set, List.eraseIdx] at hS_279
                    refine p1 (by kernel_rfl) ?_
                    refine nilO ?_
                    refine thenK_n <| ?_
                    refine retE (thenK_r <| ?_)
                    refine retN (vs := [.agg #[.slice none 0 0, .slice none 0 0, .slice none 0 0, .int .i64 0], .int .i64 4]) rfl (.cons (.cell _ _ _ _ (by kernel_rfl) (lvA hS_279 6 0 [.slice none 0 0, .slice none 0 0, .slice none 0 0, .int .i64 0] (Try.isAgg28 _) (Try.sizeOf28 _) rfl rfl rfl)) (.cons (.tmp _ _ (by kernel_rfl)) .nil)) <| ?_
                    have hI_280 : RdrR 102 H b_33 r_263 false [(b_33, .cells #[.slice a_272 n_273 k_274, .bool false] 102 (0, 0))] := ⟨_, _, _, rfl, hR_275, hB_276⟩
                    have hgot := Got.job hG_47 hLAc hLBc hG_268
                    have hS_281 := hS_279.pick 2 rfl
                    try dsimp only [List.set, List.eraseIdx] at hS_281
                    have hS_282 := hS_281.dropAt 1 rfl
                    have hS_283 := hS_282.dropAt 1 rfl
                    have hS_284 := hS_283.dropAt 1 rfl
                    have hS_285 := hS_284.dropAt 1 rfl
                    have hS_286 := hS_285.dropAt 1 rfl
                    have hS_287 := hS_286.dropAt 1 rfl
                    change Sat _ _ (H :: F) at hS_287
                    have h2 : Sat W _ ([] :: H :: F) := Sat.nilc hS_287
                    exact ⟨(⟨⟨none, 0, 0, []⟩, ⟨none, 0, 0, []⟩, ⟨none, 0, 0, []⟩, 0⟩ : Job), [], 4, rfl, ⟨RdT.nil (enc := encPlane) (sz := 4) (fun _ => rfl) _, (fun z hz => by cases hz), RdT.nil (enc := encStage) (sz := 18) (fun _ => rfl) _, (fun z hz => by cases hz), RdT.nil (enc := encI) (sz := 1) (fun _ => rfl) _⟩, DecR.fail (by omega) hx3 hgot (by first | (left; rfl) | (right; omega)), h2⟩
                  · refine cF (decide ((((n_273 : Nat) : Int) : Int) > 0)) (decide_eq_false hc_277) ?_
                    refine skipE ?_
                    refine thenK_n <| ?_
                    refine seqE ?_
                    refine regionE ?_
                    refine sLA hS_271 5 0 [.slice aAc nAc kAc, .slice aBc nBc kBc, .slice a_258 n_259 k_260, .int .i64 v_43] (Try.isAgg28 _) (Try.sizeOf28 _) ?_
                    refine sT hS_271 6 0 (.agg #[.slice aAc nAc kAc, .slice aBc nBc kBc, .slice a_258 n_259 k_260, .int .i64 v_43]) [.slice aAc nAc kAc, .slice aBc nBc kBc, .slice a_258 n_259 k_260, .int .i64 v_43] #[.slice aAc nAc kAc, .slice aBc nBc kBc, .slice a_258 n_259 k_260, .int .i64 v_43] Try.sizeOf28 ?_
                    intro w_288 hS_289
                    try dsimp only [List.set, List.eraseIdx] at hS_289
                    refine p1 (by kernel_rfl) ?_
                    refine nilO ?_
                    refine thenK_n <| ?_
                    refine retE ?_
                    refine retN (vs := [.agg #[.slice aAc nAc kAc, .slice aBc nBc kBc, .slice a_258 n_259 k_260, .int .i64 v_43], .int .i64 0]) rfl (.cons (.cell _ _ _ _ (by kernel_rfl) (lvA hS_289 6 0 [.slice aAc nAc kAc, .slice aBc nBc kBc, .slice a_258 n_259 k_260, .int .i64 v_43] (Try.isAgg28 _) (Try.sizeOf28 _) rfl rfl rfl)) (.cons (.tmp _ _ (by kernel_rfl)) .nil)) <| ?_
                    have hI_290 : RdrR 102 H b_33 r_263 false [(b_33, .cells #[.slice a_272 n_273 k_274, .bool false] 102 (0, 0))] := ⟨_, _, _, rfl, hR_275, hB_276⟩
                    have hgot := Got.job hG_47 hLAc hLBc hG_268
                    have hr0 : r_263 = [] := List.eq_nil_of_length_eq_zero (by omega)
                    have hS_291 := hS_289.pick 2 rfl
                    have hS_292 := hS_291.pick 2 rfl
                    have hS_293 := hS_292.pick 3 rfl
                    have hS_294 := hS_293.pick 4 rfl
                    try dsimp only [List.set, List.eraseIdx] at hS_294
                    have hS_295 := hS_294.dropAt 4 rfl
                    have hS_296 := hS_295.dropAt 4 rfl
                    have hS_297 := hS_296.dropAt 4 rfl
                    change Sat _ _ (GAc :: GBc :: G_262 :: H :: F) at hS_297
                    have hS_298 := (Sat.perm (cs' := (GAc ++ GBc ++ G_262) :: H :: F) hS_297 (by simp))
                    exact ⟨(⟨⟨aAc, nAc, kAc, xsAc⟩, ⟨aBc, nBc, kBc, xsBc⟩, ⟨a_258, n_259, k_260, xs_261⟩, v_43⟩ : Job), _, 0, rfl, ⟨hRAc.of_mem (fun p hp => by simp at hp ⊢; simp [hp]), (fun z hz => (hDAc z hz).of_mem (fun p hp => by simp at hp ⊢; simp [hp])), hRBc.of_mem (fun p hp => by simp at hp ⊢; simp [hp]), (fun z hz => (hDBc z hz).of_mem (fun p hp => by simp at hp ⊢; simp [hp])), hR_266.of_mem (fun p hp => by simp at hp ⊢; simp [hp])⟩, DecR.good (by omega) hx3 hgot rfl hr0, hS_298⟩
                · refine p7 (by kernel_rfl) ?_
                  refine nilO ?_
                  refine thenK_n <| ?_
                  refine condE_true (by kernel_rfl) ?_
                  refine seqE ?_
                  refine regionE ?_
                  refine p1 (by kernel_rfl) ?_
                  refine sT hS_271 6 0 (.agg #[.slice none 0 0, .slice none 0 0, .slice none 0 0, .int .i64 0]) [.slice none 0 0, .slice none 0 0, .slice none 0 0, .int .i64 0] #[.slice none 0 0, .slice none 0 0, .slice none 0 0, .int .i64 0] Try.sizeOf28 ?_
                  intro w_299 hS_300
                  try dsimp only [List.set, List.eraseIdx] at hS_300
                  refine p1 (by kernel_rfl) ?_
                  refine nilO ?_
                  refine thenK_n <| ?_
                  refine retE (thenK_r <| ?_)
                  refine retN (vs := [.agg #[.slice none 0 0, .slice none 0 0, .slice none 0 0, .int .i64 0], .int .i64 4]) rfl (.cons (.cell _ _ _ _ (by kernel_rfl) (lvA hS_300 6 0 [.slice none 0 0, .slice none 0 0, .slice none 0 0, .int .i64 0] (Try.isAgg28 _) (Try.sizeOf28 _) rfl rfl rfl)) (.cons (.tmp _ _ (by kernel_rfl)) .nil)) <| ?_
                  have hI_301 : RdrR 102 H b_33 r_263 true [(b_33, .cells #[.slice a_272 n_273 k_274, .bool true] 102 (0, 0))] := ⟨_, _, _, rfl, hR_275, hB_276⟩
                  have hgot := Got.job hG_47 hLAc hLBc hG_268
                  have hS_302 := hS_300.pick 2 rfl
                  try dsimp only [List.set, List.eraseIdx] at hS_302
                  have hS_303 := hS_302.dropAt 1 rfl
                  have hS_304 := hS_303.dropAt 1 rfl
                  have hS_305 := hS_304.dropAt 1 rfl
                  have hS_306 := hS_305.dropAt 1 rfl
                  have hS_307 := hS_306.dropAt 1 rfl
                  have hS_308 := hS_307.dropAt 1 rfl
                  change Sat _ _ (H :: F) at hS_308
                  have h2 : Sat W _ ([] :: H :: F) := Sat.nilc hS_308
                  exact ⟨(⟨⟨none, 0, 0, []⟩, ⟨none, 0, 0, []⟩, ⟨none, 0, 0, []⟩, 0⟩ : Job), [], 4, rfl, ⟨RdT.nil (enc := encPlane) (sz := 4) (fun _ => rfl) _, (fun z hz => by cases hz), RdT.nil (enc := encStage) (sz := 18) (fun _ => rfl) _, (fun z hz => by cases hz), RdT.nil (enc := encI) (sz := 1) (fun _ => rfl) _⟩, DecR.fail (by omega) hx3 hgot (by first | (left; rfl) | (right; omega)), h2⟩
          · refine cT ((x_26 : Int) != 1) (bne_iff_ne.2 hc_31) ?_
            refine seqE ?_
            refine regionE ?_
            refine p1 (by kernel_rfl) ?_
            refine sT hS_3 0 0 (.agg #[.slice none 0 0, .slice none 0 0, .slice none 0 0, .int .i64 0]) [.slice none 0 0, .slice none 0 0, .slice none 0 0, .int .i64 0] #[.slice none 0 0, .slice none 0 0, .slice none 0 0, .int .i64 0] Try.sizeOf28 ?_
            intro w_309 hS_310
            try dsimp only [List.set, List.eraseIdx] at hS_310
            refine p1 (by kernel_rfl) ?_
            refine nilO ?_
            refine thenK_n <| ?_
            refine retE (thenK_r <| ?_)
            refine retN (vs := [.agg #[.slice none 0 0, .slice none 0 0, .slice none 0 0, .int .i64 0], .int .i64 4]) rfl (.cons (.cell _ _ _ _ (by kernel_rfl) (lvA hS_310 0 0 [.slice none 0 0, .slice none 0 0, .slice none 0 0, .int .i64 0] (Try.isAgg28 _) (Try.sizeOf28 _) rfl rfl rfl)) (.cons (.tmp _ _ (by kernel_rfl)) .nil)) <| ?_
            have hS_311 := hS_310.pick 1 rfl
            try dsimp only [List.set, List.eraseIdx] at hS_311
            have hS_312 := hS_311.dropAt 1 rfl
            change Sat _ _ (H :: F) at hS_312
            have h2 : Sat W _ ([] :: H :: F) := Sat.nilc hS_312
            exact ⟨(⟨⟨none, 0, 0, []⟩, ⟨none, 0, 0, []⟩, ⟨none, 0, 0, []⟩, 0⟩ : Job), [], 4, rfl, ⟨RdT.nil (enc := encPlane) (sz := 4) (fun _ => rfl) _, (fun z hz => by cases hz), RdT.nil (enc := encStage) (sz := 18) (fun _ => rfl) _, (fun z hz => by cases hz), RdT.nil (enc := encI) (sz := 1) (fun _ => rfl) _⟩, DecR.head (by omega) (.inr (.inr (.inr ⟨_, hx_29, by omega⟩))), h2⟩
        · refine sFix 28 ((x_20 : Int) != 70) true (bne_iff_ne.2 hc_25) ?_
          refine p5 (by kernel_rfl) ?_
          refine nilO ?_
          refine thenK_n <| ?_
          refine condE_true (by kernel_rfl) ?_
          refine seqE ?_
          refine regionE ?_
          refine p1 (by kernel_rfl) ?_
          refine sT hS_3 0 0 (.agg #[.slice none 0 0, .slice none 0 0, .slice none 0 0, .int .i64 0]) [.slice none 0 0, .slice none 0 0, .slice none 0 0, .int .i64 0] #[.slice none 0 0, .slice none 0 0, .slice none 0 0, .int .i64 0] Try.sizeOf28 ?_
          intro w_313 hS_314
          try dsimp only [List.set, List.eraseIdx] at hS_314
          refine p1 (by kernel_rfl) ?_
          refine nilO ?_
          refine thenK_n <| ?_
          refine retE (thenK_r <| ?_)
          refine retN (vs := [.agg #[.slice none 0 0, .slice none 0 0, .slice none 0 0, .int .i64 0], .int .i64 4]) rfl (.cons (.cell _ _ _ _ (by kernel_rfl) (lvA hS_314 0 0 [.slice none 0 0, .slice none 0 0, .slice none 0 0, .int .i64 0] (Try.isAgg28 _) (Try.sizeOf28 _) rfl rfl rfl)) (.cons (.tmp _ _ (by kernel_rfl)) .nil)) <| ?_
          have hS_315 := hS_314.pick 1 rfl
          try dsimp only [List.set, List.eraseIdx] at hS_315
          have hS_316 := hS_315.dropAt 1 rfl
          change Sat _ _ (H :: F) at hS_316
          have h2 : Sat W _ ([] :: H :: F) := Sat.nilc hS_316
          exact ⟨(⟨⟨none, 0, 0, []⟩, ⟨none, 0, 0, []⟩, ⟨none, 0, 0, []⟩, 0⟩ : Job), [], 4, rfl, ⟨RdT.nil (enc := encPlane) (sz := 4) (fun _ => rfl) _, (fun z hz => by cases hz), RdT.nil (enc := encStage) (sz := 18) (fun _ => rfl) _, (fun z hz => by cases hz), RdT.nil (enc := encI) (sz := 1) (fun _ => rfl) _⟩, DecR.head (by omega) (.inr (.inr (.inl ⟨_, hx_23, by omega⟩))), h2⟩
      · refine sFix 22 ((x_14 : Int) != 84) true (bne_iff_ne.2 hc_19) ?_
        refine p11 (by kernel_rfl) ?_
        refine nilO ?_
        refine thenK_n <| ?_
        refine condE_true (by kernel_rfl) ?_
        refine seqE ?_
        refine regionE ?_
        refine p1 (by kernel_rfl) ?_
        refine sT hS_3 0 0 (.agg #[.slice none 0 0, .slice none 0 0, .slice none 0 0, .int .i64 0]) [.slice none 0 0, .slice none 0 0, .slice none 0 0, .int .i64 0] #[.slice none 0 0, .slice none 0 0, .slice none 0 0, .int .i64 0] Try.sizeOf28 ?_
        intro w_317 hS_318
        try dsimp only [List.set, List.eraseIdx] at hS_318
        refine p1 (by kernel_rfl) ?_
        refine nilO ?_
        refine thenK_n <| ?_
        refine retE (thenK_r <| ?_)
        refine retN (vs := [.agg #[.slice none 0 0, .slice none 0 0, .slice none 0 0, .int .i64 0], .int .i64 4]) rfl (.cons (.cell _ _ _ _ (by kernel_rfl) (lvA hS_318 0 0 [.slice none 0 0, .slice none 0 0, .slice none 0 0, .int .i64 0] (Try.isAgg28 _) (Try.sizeOf28 _) rfl rfl rfl)) (.cons (.tmp _ _ (by kernel_rfl)) .nil)) <| ?_
        have hS_319 := hS_318.pick 1 rfl
        try dsimp only [List.set, List.eraseIdx] at hS_319
        have hS_320 := hS_319.dropAt 1 rfl
        change Sat _ _ (H :: F) at hS_320
        have h2 : Sat W _ ([] :: H :: F) := Sat.nilc hS_320
        exact ⟨(⟨⟨none, 0, 0, []⟩, ⟨none, 0, 0, []⟩, ⟨none, 0, 0, []⟩, 0⟩ : Job), [], 4, rfl, ⟨RdT.nil (enc := encPlane) (sz := 4) (fun _ => rfl) _, (fun z hz => by cases hz), RdT.nil (enc := encStage) (sz := 18) (fun _ => rfl) _, (fun z hz => by cases hz), RdT.nil (enc := encI) (sz := 1) (fun _ => rfl) _⟩, DecR.head (by omega) (.inr (.inl ⟨_, hx_17, by omega⟩)), h2⟩
end Go.Proofs.Ytcddcpaodcjecaa
