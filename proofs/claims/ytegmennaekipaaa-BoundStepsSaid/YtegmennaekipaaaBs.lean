import Derived.Test.YtegmennaekipaaaBo
import Derived.Test.YtegmennaekipaaaTks
namespace Go.Proofs.Ytegmennaekipaaa
open Go Go.E
set_option linter.unusedVariables false
set_option linter.unusedSimpArgs false
set_option linter.unnecessarySimpa false
set_option maxRecDepth 100000
set_option maxHeartbeats 2000000
variable {W w : World} {H : Chunk} {F : List Chunk}
def saF : FS := addV (newF ⟨1, 1, 1, 0, 1, 9, 1, 1⟩) 0 [⟨0, 0, 0, 0, 0, 0, [], 2, 0⟩] 0
theorem sa_left : leftF saF = 5 := by decide +kernel
theorem l29_sane {cs : List Chunk} (hS : Sat W w cs) :
    Ro Try.prog 17 #[] (.bool true) W w cs := by
  refine callsA 32 Try.func17 rfl ?_
  refine seqE <| regionE <| pu1 <| nilO <| thenK_n <| seqE <| regionE <| pu1 ?_
  have hv_6 : validCfg (⟨1, 1, 1, 0, 1, 9, 1, 1⟩ : Cfg) = 0 := by decide
  refine cX Try.call19 (pf_new (⟨1, 1, 1, 0, 1, 9, 1, 1⟩ : Cfg) hv_6 hS) ?_
  rintro _ w_1 ⟨p_3, M_4, rfl, hR_5, hS_2⟩
  have hJ_7 := FJ.new hv_6
  refine pu5 <| nilO <| thenK_n <| seqE <| seqE <| regionE <| pu5 <| gY ?_
  refine sBS hS_2 #[.int .i64 0, .int .i64 0, .int .i64 0, .int .i64 0, .int .i64 0, .int .i64 0, .slice none 0 0, .int .i64 2, .int .i64 0] Try.runUnderlying23 Try.sizeOf31 Try.zeroValue31 ?_
  intro b_8 w_9 hS_10
  refine gY ?_
  have hS_11 := (hS_10.pick 1 rfl)
  have p_18 : 0 ≤ (0 : Int) ∧ (0 : Int) < 64 := by decide
  have p_21 : 0 ≤ (0 : Int) ∧ (0 : Int) < 4 := by decide
  have p_22 : validC ([(⟨0, 0, 0, 0, 0, 0, ⟨none, 0, 0, []⟩, 2, 0⟩ : Task)]) = 0 := by decide
  have p_23 : ∀ z ∈ [(⟨0, 0, 0, 0, 0, 0, ⟨none, 0, 0, []⟩, 2, 0⟩ : Task)], z.scratch ≤ (newF (⟨1, 1, 1, 0, 1, 9, 1, 1⟩ : Cfg)).cfg.arena := by intro z hz; rcases List.mem_singleton.1 hz with rfl; decide
  have p_24 : 0 ≤ (newF (⟨1, 1, 1, 0, 1, 9, 1, 1⟩ : Cfg)).cfg.tasks ∧ (newF (⟨1, 1, 1, 0, 1, 9, 1, 1⟩ : Cfg)).cfg.tasks ≤ 4096 := by decide
  have p_25 : ((([(⟨0, 0, 0, 0, 0, 0, ⟨none, 0, 0, []⟩, 2, 0⟩ : Task)]).length : Nat) : Int) ≤ (newF (⟨1, 1, 1, 0, 1, 9, 1, 1⟩ : Cfg)).cfg.tasks - loadL (newF (⟨1, 1, 1, 0, 1, 9, 1, 1⟩ : Cfg)).jobs := by decide
  have p_26 : ([(⟨0, 0, 0, 0, 0, 0, ⟨none, 0, 0, []⟩, 2, 0⟩ : Task)]).length ≤ 12 := by decide
  have p_19 : (newF (⟨1, 1, 1, 0, 1, 9, 1, 1⟩ : Cfg)).jobs[((0 : Int)).toNat]? = some JS.zero := rfl
  have p_20 : JS.added JS.zero = false := rfl
  refine cX Try.call21 (pf_add hR_5 hJ_7.i 0 (some ⟨b_8, 0, none⟩) 1 1 ([(⟨0, 0, 0, 0, 0, 0, ⟨none, 0, 0, []⟩, 2, 0⟩ : Task)]) 0 (RdT.flat (RdT.blk (enc := encTask) (sz := 9) (xs := [(⟨0, 0, 0, 0, 0, 0, ⟨none, 0, 0, []⟩, 2, 0⟩ : Task)]) (fun _ => (by rfl)) 1 0 rfl rfl rfl (by omega))) (fun z hz => by rcases List.mem_singleton.1 hz with rfl; exact ⟨RdT.nil (enc := encI) (sz := 1) (fun _ => rfl) _⟩) p_18 p_19 p_20 p_21 p_22 p_23 p_24 p_25  (Sat.flat1 hS_11)) ?_
  rintro _ w_12 ⟨M_15, rfl, hR_16, hS_13⟩
  have hS_14 := Sat.unflat1 hS_13
  have hJ_17 := hJ_7.add p_18 p_19 p_20 p_21 p_22 p_23 p_25 p_26
  have hR_27 : FarmP p_3 (saF) M_15 := by skip; exact hR_16
  have hJ_28 : FJ (saF) 0 1 := by skip; exact hJ_17
  refine pu2 <| nilO <| thenK_n <| cFf <| skipE <| thenK_n <| seqE <| regionE <| pu1 ?_
  refine cX Try.call40 (bo_left hR_27 hJ_28 (by omega) hS_14) ?_
  rintro _ w_29 ⟨rfl, hS_30⟩
  rw [show (leftF (saF)) = 5 from sa_left]
  refine pu3 <| gY ?_
  refine cR Try.call13 (bo_steps (⟨0, 0, 0, 0, 0, 0, ⟨none, 0, 0, []⟩, 2, 0⟩ : Task) ⟨(RdT.nil (enc := encI) (sz := 1) (fun _ => rfl) _)⟩ (Sat.flat hS_30)) ?_
  intro w_31 hS_32
  have hsb_34 : 0 ≤ (stpR (⟨0, 0, 0, 0, 0, 0, ⟨none, 0, 0, []⟩, 2, 0⟩ : Task).rows) ∧ (stpR (⟨0, 0, 0, 0, 0, 0, ⟨none, 0, 0, []⟩, 2, 0⟩ : Task).rows) ≤ 131 := stpR_bd _
  refine pu3 ?_
  have hc_35 : ((stpR (⟨0, 0, 0, 0, 0, 0, ⟨none, 0, 0, []⟩, 2, 0⟩ : Task).rows) : Int) = 5 := (by decide)
  refine sFix 25 _ true (beq_iff_eq.2 hc_35) ?_
  refine pu2 <| gY ?_
  refine sBS hS_32 #[.int .i64 0, .int .i64 0, .int .i64 0, .int .i64 0, .int .i64 0, .int .i64 0, .slice none 0 0, .int .i64 1, .int .i64 0, .int .i64 0, .int .i64 0, .int .i64 0, .int .i64 0, .int .i64 0, .int .i64 0, .slice none 0 0, .int .i64 200, .int .i64 0] Try.runUnderlying23 Try.sizeOf31 Try.zeroValue31 ?_
  intro b_36 w_37 hS_38
  refine gY ?_
  refine cR Try.call15 (bo_total (some ⟨b_36, 0, none⟩) 2 2 ([(⟨0, 0, 0, 0, 0, 0, ⟨none, 0, 0, []⟩, 1, 0⟩ : Task), (⟨0, 0, 0, 0, 0, 0, ⟨none, 0, 0, []⟩, 200, 0⟩ : Task)]) (RdT.flat (RdT.blk (enc := encTask) (sz := 9) (xs := [(⟨0, 0, 0, 0, 0, 0, ⟨none, 0, 0, []⟩, 1, 0⟩ : Task), (⟨0, 0, 0, 0, 0, 0, ⟨none, 0, 0, []⟩, 200, 0⟩ : Task)]) (fun _ => (by rfl)) 2 0 rfl rfl rfl (by omega))) (fun z hz => by
      simp only [List.mem_cons, List.not_mem_nil, or_false] at hz
      rcases hz with rfl | rfl
      · exact ⟨RdT.nil (enc := encI) (sz := 1) (fun _ => rfl) _⟩
      · exact ⟨RdT.nil (enc := encI) (sz := 1) (fun _ => rfl) _⟩) (by first | omega | (dsimp only; omega)) (Sat.flat hS_38)) ?_
  intro w_39 hS_40
  refine pu3 <| nilO <| thenK_n <| retE <| retT [.bool (((totR (([(⟨0, 0, 0, 0, 0, 0, ⟨none, 0, 0, []⟩, 1, 0⟩ : Task), (⟨0, 0, 0, 0, 0, 0, ⟨none, 0, 0, []⟩, 200, 0⟩ : Task)]).map (·.rows))) : Int) == 4)] <| ?_
  have hS_42 := (((hS_40.dropAt 0 rfl).dropAt 0 rfl).dropAt 0 rfl)
  exact ⟨rfl, hS_42⟩
theorem l29_steps (W w : World) (H : Chunk) (F : List Chunk) (t : Option Addr) (nt kt : Nat) (xt : List Int) (l : Option Addr) (nl kl : Nat) (xl : List Task) (ht : RdT encI 1 [H] t nt kt xt) (hl : RdT encTask 9 [H] l nl kl xl) (dl : ∀ z ∈ xl, Task.Ok [H] z) (hS : Sat W w (H :: F)) :
    Calls Try.prog 3 #[.slice t nt kt, .slice l nl kl] w fun e w' => e = .returned (.bool true) ∧ Sat W w' (H :: F) := by
  have hlt := ht.le
  have hll := hl.le; have hnl := hl.len
  refine callsA 53 Try.func3 rfl ?_
  refine seqE <| regionE <| pu1 <| nilO <| thenK_n <| seqE <| regionE <| pu1 ?_
  refine cX Try.call11 (tape_new t nt kt hS) ?_
  rintro _ w_1 ⟨p_3, rfl, hS_2⟩
  have hle_4 := ht.le
  refine pu1 <| nilO <| thenK_n <| seqE <| regionE <| pu1 ?_
  refine cX Try.call12 (tg_tasks (RdT.flat (ht.up 0 (by rfl))) (by omega) (Sat.flat1 hS_2) 9 (by omega)) ?_
  rintro _ w_5 ⟨az_7, nz_8, kz_9, zs_10, C_11, G_12, rfl, hO_13, hD_14, hV_15, hW_16, i_17, hi_18, hS_6⟩
  have hS_19 := Sat.unflat3 hS_6
  have hn_zs_10 := hO_13.len; have hl_zs_10 := hO_13.le
  refine pu1 <| nilO <| thenK_n <| seqE <| seqE <| regionE <| pu1 <| nilO <| thenK_n <| blockE ?_
  refine loopA (γ := Nat) (fun i => [(1, .slice l nl kl), (6, .slice az_7 nz_8 kz_9), (7, .int .i64 ((i : Nat) : Int))]) (fun i w => Sat W w ([(p_3, .cells #[.slice t nt kt, .int .i64 i_17] 71 (0, 0))] :: C_11 :: G_12 :: H :: F) ∧ i ≤ nl) (fun i => nl - i) 0 ⟨hS_19, by omega⟩ ?_
  rintro i ρ w_20 ⟨hS_21, hi⟩
  refine seqE <| seqE <| regionE <| pu5 ?_
  refine sD 16 (((i : Nat) : Int) < ((nl : Nat) : Int)) (fun hc_22 => ?_) (fun hc_22 => ?_)
  rotate_left
  · refine pu3 <| nilO <| thenK_n <| cFf <| exitE <| thenK_x <| thenK_x <| blockK_x <| thenK_n <| seqE <| regionE <| pu1 ?_
    refine cR Try.call15 (bo_total az_7 nz_8 kz_9 zs_10 (RdT.flat (hO_13.rdAt 1 (by rfl))) (fun z hz => (hD_14 z hz).of_mem (mem_flat1 2 (by rfl))) (by first | omega | (dsimp only; omega)) (Sat.flat hS_21)) ?_
    intro w_67 hS_68
    refine pu1 ?_
    refine cR Try.call16 (r29_total az_7 nz_8 kz_9 zs_10 (RdT.flat (hO_13.rdAt 1 (by rfl))) (fun z hz => (hD_14 z hz).of_mem (mem_flat1 2 (by rfl))) (by first | omega | (dsimp only; omega)) (Sat.flat hS_68)) ?_
    intro w_70 hS_71
    refine pu2 ?_
    have hc_73 : ((totR (zs_10.map (·.rows))) : Int) = (totR (zs_10.map (·.rows))) := rfl
    refine sFix 38 _ true (beq_iff_eq.2 hc_73) ?_
    refine pu4 ?_
    refine sD 42 (((nl : Nat) : Int) > 1000) (fun hc_74 => ?_) (fun hc_74 => ?_)
    · refine pu8 <| gY ?_
      refine cX Try.call17 (l29_sane hS_71) ?_
      rintro _ w_75 ⟨rfl, hS_76⟩
      refine pu2 <| nilO <| thenK_n <| retE <| retT [.bool true] <| ?_
      have hS_77 := (hS_76.pick 3 rfl)
      have hS_78 := hS_77.dropAt 1 rfl
      have hS_79 := hS_78.dropAt 1 rfl
      have hS_80 := hS_79.dropAt 1 rfl
      exact ⟨rfl, hS_80⟩
    refine pu1 <| gY ?_
    refine cR Try.call15 (bo_total l nl kl xl (RdT.flat (hl.up 3 (by rfl))) (fun z hz => (dl z hz).of_mem (mem_flat1 3 (by rfl))) (by first | omega | (dsimp only; omega)) (Sat.flat hS_71)) ?_
    intro w_81 hS_82
    refine pu1 <| gY ?_
    refine cR Try.call16 (r29_total l nl kl xl (RdT.flat (hl.up 3 (by rfl))) (fun z hz => (dl z hz).of_mem (mem_flat1 3 (by rfl))) (by first | omega | (dsimp only; omega)) (Sat.flat hS_82)) ?_
    intro w_84 hS_85
    refine pu4 ?_
    have hc_87 : ((totR (xl.map (·.rows))) : Int) = (totR (xl.map (·.rows))) := rfl
    refine sFix 50 _ true (beq_iff_eq.2 hc_87) ?_
    refine gY ?_
    refine cX Try.call17 (l29_sane hS_85) ?_
    rintro _ w_88 ⟨rfl, hS_89⟩
    refine pu2 <| nilO <| thenK_n <| retE <| retT [.bool true] <| ?_
    have hS_90 := (hS_89.pick 3 rfl)
    have hS_91 := hS_90.dropAt 1 rfl
    have hS_92 := hS_91.dropAt 1 rfl
    have hS_93 := hS_92.dropAt 1 rfl
    exact ⟨rfl, hS_93⟩
  refine pu3 <| nilO <| thenK_n <| ?_
  refine cD (((i : Nat) : Int) < 100) (fun hc_23 => ?_) (fun hc_23 => ?_)
  rotate_left
  · refine exitE <| thenK_x <| thenK_x <| blockK_x <| thenK_n <| seqE <| regionE <| pu1 ?_
    refine cR Try.call15 (bo_total az_7 nz_8 kz_9 zs_10 (RdT.flat (hO_13.rdAt 1 (by rfl))) (fun z hz => (hD_14 z hz).of_mem (mem_flat1 2 (by rfl))) (by first | omega | (dsimp only; omega)) (Sat.flat hS_21)) ?_
    intro w_40 hS_41
    refine pu1 ?_
    refine cR Try.call16 (r29_total az_7 nz_8 kz_9 zs_10 (RdT.flat (hO_13.rdAt 1 (by rfl))) (fun z hz => (hD_14 z hz).of_mem (mem_flat1 2 (by rfl))) (by first | omega | (dsimp only; omega)) (Sat.flat hS_41)) ?_
    intro w_43 hS_44
    refine pu2 ?_
    have hc_46 : ((totR (zs_10.map (·.rows))) : Int) = (totR (zs_10.map (·.rows))) := rfl
    refine sFix 38 _ true (beq_iff_eq.2 hc_46) ?_
    refine pu4 ?_
    refine sD 42 (((nl : Nat) : Int) > 1000) (fun hc_47 => ?_) (fun hc_47 => ?_)
    · refine pu8 <| gY ?_
      refine cX Try.call17 (l29_sane hS_44) ?_
      rintro _ w_48 ⟨rfl, hS_49⟩
      refine pu2 <| nilO <| thenK_n <| retE <| retT [.bool true] <| ?_
      have hS_50 := (hS_49.pick 3 rfl)
      have hS_51 := hS_50.dropAt 1 rfl
      have hS_52 := hS_51.dropAt 1 rfl
      have hS_53 := hS_52.dropAt 1 rfl
      exact ⟨rfl, hS_53⟩
    refine pu1 <| gY ?_
    refine cR Try.call15 (bo_total l nl kl xl (RdT.flat (hl.up 3 (by rfl))) (fun z hz => (dl z hz).of_mem (mem_flat1 3 (by rfl))) (by first | omega | (dsimp only; omega)) (Sat.flat hS_44)) ?_
    intro w_54 hS_55
    refine pu1 <| gY ?_
    refine cR Try.call16 (r29_total l nl kl xl (RdT.flat (hl.up 3 (by rfl))) (fun z hz => (dl z hz).of_mem (mem_flat1 3 (by rfl))) (by first | omega | (dsimp only; omega)) (Sat.flat hS_55)) ?_
    intro w_57 hS_58
    refine pu4 ?_
    have hc_60 : ((totR (xl.map (·.rows))) : Int) = (totR (xl.map (·.rows))) := rfl
    refine sFix 50 _ true (beq_iff_eq.2 hc_60) ?_
    refine gY ?_
    refine cX Try.call17 (l29_sane hS_58) ?_
    rintro _ w_61 ⟨rfl, hS_62⟩
    refine pu2 <| nilO <| thenK_n <| retE <| retT [.bool true] <| ?_
    have hS_63 := (hS_62.pick 3 rfl)
    have hS_64 := hS_63.dropAt 1 rfl
    have hS_65 := hS_64.dropAt 1 rfl
    have hS_66 := hS_65.dropAt 1 rfl
    exact ⟨rfl, hS_66⟩
  refine skipE <| thenK_n <| seqE <| blockE <| seqE ?_
  obtain ⟨x_24, b_25, o_26, hx_27, hp_28, hq_29⟩ := RdT.elem hl ((i : Nat) : Int)
  rw [Int.toNat_natCast] at hx_27
  refine drawE [4, 9] [(3, ⟨b_25, o_26 + 0, none⟩, .int .i64 x_24.stage), (3, ⟨b_25, o_26 + 1, none⟩, .int .i64 x_24.part), (3, ⟨b_25, o_26 + 2, none⟩, .int .i64 x_24.rectX0), (3, ⟨b_25, o_26 + 3, none⟩, .int .i64 x_24.rectY0), (3, ⟨b_25, o_26 + 4, none⟩, .int .i64 x_24.rectX1), (3, ⟨b_25, o_26 + 5, none⟩, .int .i64 x_24.rectY1), (3, ⟨b_25, o_26 + 6, none⟩, .slice x_24.deps.a x_24.deps.n x_24.deps.k), (3, ⟨b_25, o_26 + 7, none⟩, .int .i64 x_24.rows), (3, ⟨b_25, o_26 + 8, none⟩, .int .i64 x_24.scratch), (8, ⟨b_25, o_26 + 0, none⟩, .int .i64 x_24.stage), (8, ⟨b_25, o_26 + 1, none⟩, .int .i64 x_24.part), (8, ⟨b_25, o_26 + 2, none⟩, .int .i64 x_24.rectX0), (8, ⟨b_25, o_26 + 3, none⟩, .int .i64 x_24.rectY0), (8, ⟨b_25, o_26 + 4, none⟩, .int .i64 x_24.rectX1), (8, ⟨b_25, o_26 + 5, none⟩, .int .i64 x_24.rectY1), (8, ⟨b_25, o_26 + 6, none⟩, .slice x_24.deps.a x_24.deps.n x_24.deps.k), (8, ⟨b_25, o_26 + 7, none⟩, .int .i64 x_24.rows), (8, ⟨b_25, o_26 + 8, none⟩, .int .i64 x_24.scratch)] [(true, [0, 1]), (true, [2]), (true, [5, 6]), (true, [7]), (true, [3]), (true, [8]), (false, [4]), (false, [9]), (true, [10])] rfl (by kernel_rfl) ⟨.inr ((hp_28.up 3 rfl).cell hS_21 (k := 0) rfl), .inr ((hp_28.up 3 rfl).cell hS_21 (k := 1) rfl), .inr ((hp_28.up 3 rfl).cell hS_21 (k := 2) rfl), .inr ((hp_28.up 3 rfl).cell hS_21 (k := 3) rfl), .inr ((hp_28.up 3 rfl).cell hS_21 (k := 4) rfl), .inr ((hp_28.up 3 rfl).cell hS_21 (k := 5) rfl), .inr ((hp_28.up 3 rfl).cell hS_21 (k := 6) rfl), .inr ((hp_28.up 3 rfl).cell hS_21 (k := 7) rfl), .inr ((hp_28.up 3 rfl).cell hS_21 (k := 8) rfl), .inr ((hp_28.up 3 rfl).cell hS_21 (k := 0) rfl), .inr ((hp_28.up 3 rfl).cell hS_21 (k := 1) rfl), .inr ((hp_28.up 3 rfl).cell hS_21 (k := 2) rfl), .inr ((hp_28.up 3 rfl).cell hS_21 (k := 3) rfl), .inr ((hp_28.up 3 rfl).cell hS_21 (k := 4) rfl), .inr ((hp_28.up 3 rfl).cell hS_21 (k := 5) rfl), .inr ((hp_28.up 3 rfl).cell hS_21 (k := 6) rfl), .inr ((hp_28.up 3 rfl).cell hS_21 (k := 7) rfl), .inr ((hp_28.up 3 rfl).cell hS_21 (k := 8) rfl), trivial⟩ ?_
  have hS_30 := hS_21.drew
  refine wU [0, 1] ?_
  refine wY (.pointer (some ⟨b_25, o_26, none⟩)) rfl (fun w _ => Y_idx (a := l) (i := ((i : Nat) : Int)) (len := nl) (cap := kl) rfl Try.runUnderlying23 Try.sizeOf31 (by kernel_rfl) (by kernel_rfl) hq_29) ?_
  refine wU [5, 6] ?_
  refine wY (.pointer (some ⟨b_25, o_26, none⟩)) rfl (fun w _ => Y_idx (a := l) (i := ((i : Nat) : Int)) (len := nl) (cap := kl) rfl Try.runUnderlying23 Try.sizeOf31 (by kernel_rfl) (by kernel_rfl) hq_29) ?_
  refine wY (.agg (encTask x_24).toArray) rfl (fun w hF => Y_loadF rfl (Try.isAgg31 w) (Try.sizeOf31 w) (by kernel_rfl) rfl ⟨hF 0 _ _ rfl, hF 1 _ _ rfl, hF 2 _ _ rfl, hF 3 _ _ rfl, hF 4 _ _ rfl, hF 5 _ _ rfl, hF 6 _ _ rfl, hF 7 _ _ rfl, hF 8 _ _ rfl, trivial⟩) ?_
  refine wY (.agg (encTask x_24).toArray) rfl (fun w hF => Y_loadF rfl (Try.isAgg31 w) (Try.sizeOf31 w) (by kernel_rfl) rfl ⟨hF 9 _ _ rfl, hF 10 _ _ rfl, hF 11 _ _ rfl, hF 12 _ _ rfl, hF 13 _ _ rfl, hF 14 _ _ rfl, hF 15 _ _ rfl, hF 16 _ _ rfl, hF 17 _ _ rfl, trivial⟩) ?_
  refine wO rfl ?_
  refine cR Try.call13 (bo_steps x_24 ⟨(RdT.flat ((dl x_24 (List.mem_of_getElem? hx_27)).deps.up 3 (by rfl)))⟩ (Sat.flat hS_30)) ?_
  intro w_31 hS_32
  have hsb_34 : 0 ≤ (stpR x_24.rows) ∧ (stpR x_24.rows) ≤ 131 := stpR_bd _
  refine nilO ⟨⟨.inl (by kernel_rfl), .inl (by kernel_rfl), .inl (by kernel_rfl), .inl (by kernel_rfl), .inl (by kernel_rfl), .inl (by kernel_rfl), .inl (by kernel_rfl), .inl (by kernel_rfl), .inl (by kernel_rfl), .inr ((hp_28.up 3 rfl).cell hS_32 (k := 0) rfl), .inr ((hp_28.up 3 rfl).cell hS_32 (k := 1) rfl), .inr ((hp_28.up 3 rfl).cell hS_32 (k := 2) rfl), .inr ((hp_28.up 3 rfl).cell hS_32 (k := 3) rfl), .inr ((hp_28.up 3 rfl).cell hS_32 (k := 4) rfl), .inr ((hp_28.up 3 rfl).cell hS_32 (k := 5) rfl), .inr ((hp_28.up 3 rfl).cell hS_32 (k := 6) rfl), .inr ((hp_28.up 3 rfl).cell hS_32 (k := 7) rfl), .inr ((hp_28.up 3 rfl).cell hS_32 (k := 8) rfl), trivial⟩, ?_⟩
  refine wO rfl ?_
  refine cR Try.call14 (r29_steps x_24 ⟨(RdT.flat ((dl x_24 (List.mem_of_getElem? hx_27)).deps.up 3 (by rfl)))⟩ (Sat.flat hS_32)) ?_
  intro w_35 hS_36
  have hsb_38 : 0 ≤ (stpR x_24.rows) ∧ (stpR x_24.rows) ≤ 131 := stpR_bd _
  refine nilO ⟨⟨.inl (by kernel_rfl), .inl (by kernel_rfl), .inl (by kernel_rfl), .inl (by kernel_rfl), .inl (by kernel_rfl), .inl (by kernel_rfl), .inl (by kernel_rfl), .inl (by kernel_rfl), .inl (by kernel_rfl), .inl (by kernel_rfl), .inl (by kernel_rfl), .inl (by kernel_rfl), .inl (by kernel_rfl), .inl (by kernel_rfl), .inl (by kernel_rfl), .inl (by kernel_rfl), .inl (by kernel_rfl), .inl (by kernel_rfl), trivial⟩, ?_⟩
  refine wU [10] ?_
  refine wN ?_
  refine thenK_n <| ?_
  have hc_39 : ((stpR x_24.rows) : Int) = (stpR x_24.rows) := rfl
  refine cF _ (bne_eq_false_iff_eq.2 hc_39) ?_
  refine skipE <| blockK_n <| thenK_n <| regionE <| pu1 ?_
  refine sAdd ((i : Nat) : Int) 1 ?_
  refine pu1 <| nilO <| thenK_n <| ?_
  exact ⟨i + 1, by first | omega | (dsimp only; omega), alA, hS_36, by omega⟩
end Go.Proofs.Ytegmennaekipaaa
