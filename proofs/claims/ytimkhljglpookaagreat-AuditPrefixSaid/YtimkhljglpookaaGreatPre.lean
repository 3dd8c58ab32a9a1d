import Derived.Test.YtimkhljglpookaaGreatFrg
import Derived.Test.YtimkhljglpookaaGreatSim8
namespace Go.Proofs.YtimkhljglpookaaGreat
open Go Go.E
set_option linter.unusedVariables false
set_option linter.unusedSimpArgs false
set_option linter.unnecessarySimpa false
set_option maxRecDepth 100000
set_option maxHeartbeats 2000000
variable {W w : World} {H : Chunk} {F : List Chunk}
theorem l31_config {cs : List Chunk} (hS : Sat W w cs) :
    Ro Tryz.prog 27 #[] (.agg #[.int .i64 2, .int .i64 1, .int .i64 1, .int .i64 0, .int .i64 1, .int .i64 9, .int .i64 1, .int .i64 9]) W w cs := by
  refine callsA 2 Tryz.func27 rfl ?_
  refine seqE <| regionE ?_
  refine sAlloc hS Tryz.zeroValue24 ?_
  intro b_1 w_2 hS_3
  refine nilO <| thenK_n <| seqE <| regionE <| pu1 ?_
  refine sT hS_3 0 0 (.agg #[.int .i64 2, .int .i64 1, .int .i64 1, .int .i64 0, .int .i64 1, .int .i64 9, .int .i64 1, .int .i64 9]) [.int .i64 2, .int .i64 1, .int .i64 1, .int .i64 0, .int .i64 1, .int .i64 9, .int .i64 1, .int .i64 9] #[.int .i64 2, .int .i64 1, .int .i64 1, .int .i64 0, .int .i64 1, .int .i64 9, .int .i64 1, .int .i64 9] Tryz.sizeOf24 ?_
  intro w_4 hS_5
  refine nilO <| thenK_n <| retE <| retN (vs := [.agg #[.int .i64 2, .int .i64 1, .int .i64 1, .int .i64 0, .int .i64 1, .int .i64 9, .int .i64 1, .int .i64 9]]) rfl (.cons (.cell _ _ _ _ (by kernel_rfl) (lvA hS_5 0 0 [.int .i64 2, .int .i64 1, .int .i64 1, .int .i64 0, .int .i64 1, .int .i64 9, .int .i64 1, .int .i64 9] (Tryz.isAgg24 _) (Tryz.sizeOf24 _) rfl rfl rfl)) .nil) <| ?_
  have hS_6 := (hS_5.dropAt 0 rfl)
  exact ⟨rfl, hS_6⟩
theorem l31_sane {cs : List Chunk} (hS : Sat W w cs) :
    Ro Tryz.prog 11 #[] (.bool true) W w cs := by
  refine callsA 65 Tryz.func11 rfl ?_
  refine seqE <| regionE <| pu1 <| nilO <| thenK_n <| seqE <| regionE <| pu1 ?_
  refine sBS hS #[.int .i64 0, .int .i64 0, .int .i64 0, .int .i64 0, .int .i64 0, .int .i64 0, .slice none 0 0, .int .i64 1, .int .i64 0] Tryz.runUnderlying45 Tryz.sizeOf49 Tryz.zeroValue49 ?_
  intro b_1 w_2 hS_3
  refine sBS hS_3 #[.slice (some ⟨b_1, 0, none⟩) 1 1] Tryz.runUnderlying25 Tryz.sizeOf45 Tryz.zeroValue45 ?_
  intro b_4 w_5 hS_6
  refine pu1 <| nilO <| thenK_n <| seqE <| regionE <| pu5 ?_
  refine sBS hS_6 #[.int .i64 1, .int .i64 0, .int .i64 0, .int .i64 0, .int .i64 0, .int .i64 0, .int .i64 0, .int .i64 4, .int .i64 0, .int .i64 0, .int .i64 0, .int .i64 0, .int .i64 0, .int .i64 0, .int .i64 6, .int .i64 0, .int .i64 0, .int .i64 0, .int .i64 0, .int .i64 0, .int .i64 0, .int .i64 7, .int .i64 0, .int .i64 0, .int .i64 0, .int .i64 0, .int .i64 0, .int .i64 0, .int .i64 8, .int .i64 0, .int .i64 0, .int .i64 0, .int .i64 0, .int .i64 0, .int .i64 0] Tryz.runUnderlying26 Tryz.sizeOf43 Tryz.zeroValue43 ?_
  intro b_7 w_8 hS_9
  refine pu1 <| nilO <| thenK_n <| seqE <| regionE ?_
  refine cX Tryz.call27 (l31_config hS_9) ?_
  rintro _ w_10 ⟨rfl, hS_11⟩
  refine pu2 ?_
  refine cR Tryz.call13 (au_check (⟨2, 1, 1, 0, 1, 9, 1, 9⟩ : Cfg) (some ⟨b_4, 0, none⟩) 1 1 ([(⟨⟨(some ⟨b_1, 0, none⟩), 1, 1, [(⟨0, 0, 0, 0, 0, 0, ⟨none, 0, 0, []⟩, 1, 0⟩ : Task)]⟩⟩ : TL)]) (some ⟨b_7, 0, none⟩) 5 5 ([(⟨1, 0, 0, 0, 0, 0, 0⟩ : Evt), (⟨4, 0, 0, 0, 0, 0, 0⟩ : Evt), (⟨6, 0, 0, 0, 0, 0, 0⟩ : Evt), (⟨7, 0, 0, 0, 0, 0, 0⟩ : Evt), (⟨8, 0, 0, 0, 0, 0, 0⟩ : Evt)]) (RdT.flat (RdT.blk (enc := encTL) (sz := 1) (xs := [(⟨⟨(some ⟨b_1, 0, none⟩), 1, 1, [(⟨0, 0, 0, 0, 0, 0, ⟨none, 0, 0, []⟩, 1, 0⟩ : Task)]⟩⟩ : TL)]) (fun _ => (by rfl)) 1 1 rfl rfl rfl (by omega))) (fun z hz => by
      rcases List.mem_singleton.1 hz with rfl
      exact ⟨(RdT.blk (enc := encTask) (sz := 9) (xs := [(⟨0, 0, 0, 0, 0, 0, ⟨none, 0, 0, []⟩, 1, 0⟩ : Task)]) (fun _ => rfl) 1 2 rfl rfl rfl (by omega)).of_mem mem_flat, fun y hy => by
        rcases List.mem_singleton.1 hy with rfl
        exact ⟨RdT.nil (enc := encI) (sz := 1) (fun _ => rfl) _⟩⟩) (RdT.flat (RdT.blk (enc := encEvt) (sz := 7) (xs := [(⟨1, 0, 0, 0, 0, 0, 0⟩ : Evt), (⟨4, 0, 0, 0, 0, 0, 0⟩ : Evt), (⟨6, 0, 0, 0, 0, 0, 0⟩ : Evt), (⟨7, 0, 0, 0, 0, 0, 0⟩ : Evt), (⟨8, 0, 0, 0, 0, 0, 0⟩ : Evt)]) (fun _ => (by rfl)) 5 0 rfl rfl rfl (by omega))) (by intro z hz; rcases List.mem_singleton.1 hz with rfl; show 1 ≤ 12; decide) (by decide) (Sat.flat hS_11)) ?_
  intro w_12 hS_13
  refine pu5 <| nilO <| thenK_n <| seqE ?_
  refine drawP [0, 11, 12] [(4, ⟨b_7, 0, none⟩, .int .i64 1), (4, ⟨b_7, 1, none⟩, .int .i64 0), (4, ⟨b_7, 2, none⟩, .int .i64 0), (4, ⟨b_7, 3, none⟩, .int .i64 0), (4, ⟨b_7, 4, none⟩, .int .i64 0), (4, ⟨b_7, 5, none⟩, .int .i64 0), (4, ⟨b_7, 6, none⟩, .int .i64 0), (7, ⟨b_7, 7, none⟩, .int .i64 4), (7, ⟨b_7, 8, none⟩, .int .i64 0), (7, ⟨b_7, 9, none⟩, .int .i64 0), (7, ⟨b_7, 10, none⟩, .int .i64 0), (7, ⟨b_7, 11, none⟩, .int .i64 0), (7, ⟨b_7, 12, none⟩, .int .i64 0), (7, ⟨b_7, 13, none⟩, .int .i64 0), (10, ⟨b_7, 21, none⟩, .int .i64 7), (10, ⟨b_7, 22, none⟩, .int .i64 0), (10, ⟨b_7, 23, none⟩, .int .i64 0), (10, ⟨b_7, 24, none⟩, .int .i64 0), (10, ⟨b_7, 25, none⟩, .int .i64 0), (10, ⟨b_7, 26, none⟩, .int .i64 0), (10, ⟨b_7, 27, none⟩, .int .i64 0)] (Plan.sts [1, 2] <| Plan.sts [3] <| Plan.sts [5] <| Plan.sts [6] <| Plan.sts [8] <| Plan.sts [9] <| Plan.sts [4] <| Plan.sts [7] <| Plan.sts [10] <| .fk 0 11 (.ef 11 <| .ef 12 <| Plan.sts [13] <| Plan.sts [14] <| Plan.sts [15] <| Plan.sts [16, 17] <| .fin) (.ef 0 <| .ef 12 <| Plan.sts [13] <| Plan.sts [14] <| Plan.sts [15] <| Plan.sts [16, 17] <| .fin)) rfl (by kernel_rfl) ⟨.inr (hS_13.cell 0 rfl rfl), .inr (hS_13.cell 0 rfl rfl), .inr (hS_13.cell 0 rfl rfl), .inr (hS_13.cell 0 rfl rfl), .inr (hS_13.cell 0 rfl rfl), .inr (hS_13.cell 0 rfl rfl), .inr (hS_13.cell 0 rfl rfl), .inr (hS_13.cell 0 rfl rfl), .inr (hS_13.cell 0 rfl rfl), .inr (hS_13.cell 0 rfl rfl), .inr (hS_13.cell 0 rfl rfl), .inr (hS_13.cell 0 rfl rfl), .inr (hS_13.cell 0 rfl rfl), .inr (hS_13.cell 0 rfl rfl), .inr (hS_13.cell 0 rfl rfl), .inr (hS_13.cell 0 rfl rfl), .inr (hS_13.cell 0 rfl rfl), .inr (hS_13.cell 0 rfl rfl), .inr (hS_13.cell 0 rfl rfl), .inr (hS_13.cell 0 rfl rfl), .inr (hS_13.cell 0 rfl rfl), trivial⟩ ?_
  have hS_15 := hS_13.drew
  refine qU [1, 2] ?_
  refine qY (.pointer (some ⟨b_7, 0, none⟩)) rfl (fun w _ => Y_idx (a := (some ⟨b_7, 0, none⟩)) (i := 0) (len := 5) (cap := 5) rfl Tryz.runUnderlying26 Tryz.sizeOf43 (by kernel_rfl) (by kernel_rfl) ⟨_, rfl, add_off _ 0 _, by decide, by decide⟩) ?_
  refine qU [5] ?_
  refine qY (.pointer (some ⟨b_7, 7, none⟩)) rfl (fun w _ => Y_idx (a := (some ⟨b_7, 0, none⟩)) (i := 1) (len := 5) (cap := 5) rfl Tryz.runUnderlying26 Tryz.sizeOf43 (by kernel_rfl) (by kernel_rfl) ⟨_, rfl, add_off _ 0 _, by decide, by decide⟩) ?_
  refine qU [8] ?_
  refine qY (.pointer (some ⟨b_7, 21, none⟩)) rfl (fun w _ => Y_idx (a := (some ⟨b_7, 0, none⟩)) (i := 3) (len := 5) (cap := 5) rfl Tryz.runUnderlying26 Tryz.sizeOf43 (by kernel_rfl) (by kernel_rfl) ⟨_, rfl, add_off _ 0 _, by decide, by decide⟩) ?_
  refine qY (.agg #[.int .i64 1, .int .i64 0, .int .i64 0, .int .i64 0, .int .i64 0, .int .i64 0, .int .i64 0]) rfl (fun w hF => Y_loadF rfl (Tryz.isAgg43 w) (Tryz.sizeOf43 w) (by kernel_rfl) rfl ⟨hF 0 _ _ rfl, hF 1 _ _ rfl, hF 2 _ _ rfl, hF 3 _ _ rfl, hF 4 _ _ rfl, hF 5 _ _ rfl, hF 6 _ _ rfl, trivial⟩) ?_
  refine qY (.agg #[.int .i64 4, .int .i64 0, .int .i64 0, .int .i64 0, .int .i64 0, .int .i64 0, .int .i64 0]) rfl (fun w hF => Y_loadF rfl (Tryz.isAgg43 w) (Tryz.sizeOf43 w) (by kernel_rfl) rfl ⟨hF 7 _ _ rfl, hF 8 _ _ rfl, hF 9 _ _ rfl, hF 10 _ _ rfl, hF 11 _ _ rfl, hF 12 _ _ rfl, hF 13 _ _ rfl, trivial⟩) ?_
  refine qY (.agg #[.int .i64 7, .int .i64 0, .int .i64 0, .int .i64 0, .int .i64 0, .int .i64 0, .int .i64 0]) rfl (fun w hF => Y_loadF rfl (Tryz.isAgg43 w) (Tryz.sizeOf43 w) (by kernel_rfl) rfl ⟨hF 14 _ _ rfl, hF 15 _ _ rfl, hF 16 _ _ rfl, hF 17 _ _ rfl, hF 18 _ _ rfl, hF 19 _ _ rfl, hF 20 _ _ rfl, trivial⟩) ?_
  refine qF ?_ ?_
  rotate_left
  · refine qO rfl ?_
    refine sBS hS_15 #[.int .i64 1, .int .i64 0, .int .i64 0, .int .i64 0, .int .i64 0, .int .i64 0, .int .i64 0, .int .i64 4, .int .i64 0, .int .i64 0, .int .i64 0, .int .i64 0, .int .i64 0, .int .i64 0, .int .i64 7, .int .i64 0, .int .i64 0, .int .i64 0, .int .i64 0, .int .i64 0, .int .i64 0] Tryz.runUnderlying26 Tryz.sizeOf43 Tryz.zeroValue43 ?_
    intro b_33 w_34 hS_35
    refine nilO ⟨⟨.inl (by kernel_rfl), .inl (by kernel_rfl), .inl (by kernel_rfl), .inl (by kernel_rfl), .inl (by kernel_rfl), .inl (by kernel_rfl), .inl (by kernel_rfl), .inl (by kernel_rfl), .inl (by kernel_rfl), .inl (by kernel_rfl), .inl (by kernel_rfl), .inl (by kernel_rfl), .inl (by kernel_rfl), .inl (by kernel_rfl), .inl (by kernel_rfl), .inl (by kernel_rfl), .inl (by kernel_rfl), .inl (by kernel_rfl), .inl (by kernel_rfl), .inl (by kernel_rfl), .inl (by kernel_rfl), trivial⟩, ?_⟩
    refine qO rfl ?_
    refine cX Tryz.call27 (l31_config hS_35) ?_
    rintro _ w_36 ⟨rfl, hS_37⟩
    refine nilO ⟨⟨.inl (by kernel_rfl), .inl (by kernel_rfl), .inl (by kernel_rfl), .inl (by kernel_rfl), .inl (by kernel_rfl), .inl (by kernel_rfl), .inl (by kernel_rfl), .inl (by kernel_rfl), .inl (by kernel_rfl), .inl (by kernel_rfl), .inl (by kernel_rfl), .inl (by kernel_rfl), .inl (by kernel_rfl), .inl (by kernel_rfl), .inl (by kernel_rfl), .inl (by kernel_rfl), .inl (by kernel_rfl), .inl (by kernel_rfl), .inl (by kernel_rfl), .inl (by kernel_rfl), .inl (by kernel_rfl), trivial⟩, ?_⟩
    refine qO rfl ?_
    refine cR Tryz.call13 (au_check (⟨2, 1, 1, 0, 1, 9, 1, 9⟩ : Cfg) (some ⟨b_4, 0, none⟩) 1 1 ([(⟨⟨(some ⟨b_1, 0, none⟩), 1, 1, [(⟨0, 0, 0, 0, 0, 0, ⟨none, 0, 0, []⟩, 1, 0⟩ : Task)]⟩⟩ : TL)]) (some ⟨b_33, 0, none⟩) 3 3 ([(⟨1, 0, 0, 0, 0, 0, 0⟩ : Evt), (⟨4, 0, 0, 0, 0, 0, 0⟩ : Evt), (⟨7, 0, 0, 0, 0, 0, 0⟩ : Evt)]) (RdT.flat (RdT.blk (enc := encTL) (sz := 1) (xs := [(⟨⟨(some ⟨b_1, 0, none⟩), 1, 1, [(⟨0, 0, 0, 0, 0, 0, ⟨none, 0, 0, []⟩, 1, 0⟩ : Task)]⟩⟩ : TL)]) (fun _ => (by rfl)) 1 2 rfl rfl rfl (by omega))) (fun z hz => by
        rcases List.mem_singleton.1 hz with rfl
        exact ⟨(RdT.blk (enc := encTask) (sz := 9) (xs := [(⟨0, 0, 0, 0, 0, 0, ⟨none, 0, 0, []⟩, 1, 0⟩ : Task)]) (fun _ => rfl) 1 3 rfl rfl rfl (by omega)).of_mem mem_flat, fun y hy => by
          rcases List.mem_singleton.1 hy with rfl
          exact ⟨RdT.nil (enc := encI) (sz := 1) (fun _ => rfl) _⟩⟩) (RdT.flat (RdT.blk (enc := encEvt) (sz := 7) (xs := [(⟨1, 0, 0, 0, 0, 0, 0⟩ : Evt), (⟨4, 0, 0, 0, 0, 0, 0⟩ : Evt), (⟨7, 0, 0, 0, 0, 0, 0⟩ : Evt)]) (fun _ => (by rfl)) 3 0 rfl rfl rfl (by omega))) (by intro z hz; rcases List.mem_singleton.1 hz with rfl; show 1 ≤ 12; decide) (by decide) (Sat.flat hS_37)) ?_
    intro w_38 hS_39
    refine nilO ⟨⟨.inl (by kernel_rfl), .inl (by kernel_rfl), .inl (by kernel_rfl), .inl (by kernel_rfl), .inl (by kernel_rfl), .inl (by kernel_rfl), .inl (by kernel_rfl), .inl (by kernel_rfl), .inl (by kernel_rfl), .inl (by kernel_rfl), .inl (by kernel_rfl), .inl (by kernel_rfl), .inl (by kernel_rfl), .inl (by kernel_rfl), .inl (by kernel_rfl), .inl (by kernel_rfl), .inl (by kernel_rfl), .inl (by kernel_rfl), .inl (by kernel_rfl), .inl (by kernel_rfl), .inl (by kernel_rfl), trivial⟩, ?_⟩
    refine qU [13] <| qU [14] <| qU [15] <| qU [16, 17] ?_
    refine qN ?_
    refine thenK_n <| seqE <| regionE <| pu1 ?_
    refine cR Tryz.call14 (au_count (some ⟨b_7, 0, none⟩) 5 5 ([(⟨1, 0, 0, 0, 0, 0, 0⟩ : Evt), (⟨4, 0, 0, 0, 0, 0, 0⟩ : Evt), (⟨6, 0, 0, 0, 0, 0, 0⟩ : Evt), (⟨7, 0, 0, 0, 0, 0, 0⟩ : Evt), (⟨8, 0, 0, 0, 0, 0, 0⟩ : Evt)]) (RdT.flat (RdT.blk (enc := encEvt) (sz := 7) (xs := [(⟨1, 0, 0, 0, 0, 0, 0⟩ : Evt), (⟨4, 0, 0, 0, 0, 0, 0⟩ : Evt), (⟨6, 0, 0, 0, 0, 0, 0⟩ : Evt), (⟨7, 0, 0, 0, 0, 0, 0⟩ : Evt), (⟨8, 0, 0, 0, 0, 0, 0⟩ : Evt)]) (fun _ => (by rfl)) 5 1 rfl rfl rfl (by omega))) (by first | omega | decide | (simp only [List.length_append, List.length_take, List.length_drop, List.length_nil]; omega)) (Sat.flat hS_39)) ?_
    intro w_41 hS_42
    refine sAlloc hS_42 Tryz.zeroValue51 ?_
    intro b_44 w_45 hS_46
    refine sT hS_46 0 0 (.agg #[.int .i64 1, .int .i64 1, .int .i64 0, .int .i64 0, .int .i64 0, .int .i64 0, .int .i64 0, .int .i64 0, .int .i64 0, .int .i64 0]) [.int .i64 1, .int .i64 1, .int .i64 0, .int .i64 0, .int .i64 0, .int .i64 0, .int .i64 0, .int .i64 0, .int .i64 0, .int .i64 0] #[.int .i64 1, .int .i64 1, .int .i64 0, .int .i64 0, .int .i64 0, .int .i64 0, .int .i64 0, .int .i64 0, .int .i64 0, .int .i64 0] Tryz.sizeOf51 ?_
    intro w_47 hS_48
    refine nilO <| thenK_n <| seqE <| regionE <| pu15 <| gY ?_
    refine sL hS_48 0 0 (.int .i64 1) (Tryz.isAgg3 _) ?_
    refine pu4 <| gY ?_
    refine sL hS_48 0 1 (.int .i64 1) (Tryz.isAgg3 _) ?_
    refine pu3 <| nilO <| thenK_n <| retE <| retT [.bool true] <| ?_
    have hS_49 := (((((hS_48.dropAt 0 rfl).dropAt 0 rfl).dropAt 0 rfl).dropAt 0 rfl).dropAt 0 rfl)
    exact ⟨rfl, hS_49⟩
  refine qO rfl ?_
  refine cX Tryz.call27 (l31_config hS_15) ?_
  rintro _ w_16 ⟨rfl, hS_17⟩
  refine nilO ⟨⟨.inr (hS_17.cell 0 rfl rfl), .inr (hS_17.cell 0 rfl rfl), .inr (hS_17.cell 0 rfl rfl), .inr (hS_17.cell 0 rfl rfl), .inr (hS_17.cell 0 rfl rfl), .inr (hS_17.cell 0 rfl rfl), .inr (hS_17.cell 0 rfl rfl), .inr (hS_17.cell 0 rfl rfl), .inr (hS_17.cell 0 rfl rfl), .inr (hS_17.cell 0 rfl rfl), .inr (hS_17.cell 0 rfl rfl), .inr (hS_17.cell 0 rfl rfl), .inr (hS_17.cell 0 rfl rfl), .inr (hS_17.cell 0 rfl rfl), .inr (hS_17.cell 0 rfl rfl), .inr (hS_17.cell 0 rfl rfl), .inr (hS_17.cell 0 rfl rfl), .inr (hS_17.cell 0 rfl rfl), .inr (hS_17.cell 0 rfl rfl), .inr (hS_17.cell 0 rfl rfl), .inr (hS_17.cell 0 rfl rfl), trivial⟩, ?_⟩
  refine qO rfl ?_
  refine sBS hS_17 #[.int .i64 1, .int .i64 0, .int .i64 0, .int .i64 0, .int .i64 0, .int .i64 0, .int .i64 0, .int .i64 4, .int .i64 0, .int .i64 0, .int .i64 0, .int .i64 0, .int .i64 0, .int .i64 0, .int .i64 7, .int .i64 0, .int .i64 0, .int .i64 0, .int .i64 0, .int .i64 0, .int .i64 0] Tryz.runUnderlying26 Tryz.sizeOf43 Tryz.zeroValue43 ?_
  intro b_18 w_19 hS_20
  refine nilO ⟨⟨.inl (by kernel_rfl), .inl (by kernel_rfl), .inl (by kernel_rfl), .inl (by kernel_rfl), .inl (by kernel_rfl), .inl (by kernel_rfl), .inl (by kernel_rfl), .inl (by kernel_rfl), .inl (by kernel_rfl), .inl (by kernel_rfl), .inl (by kernel_rfl), .inl (by kernel_rfl), .inl (by kernel_rfl), .inl (by kernel_rfl), .inl (by kernel_rfl), .inl (by kernel_rfl), .inl (by kernel_rfl), .inl (by kernel_rfl), .inl (by kernel_rfl), .inl (by kernel_rfl), .inl (by kernel_rfl), trivial⟩, ?_⟩
  refine qO rfl ?_
  refine cR Tryz.call13 (au_check (⟨2, 1, 1, 0, 1, 9, 1, 9⟩ : Cfg) (some ⟨b_4, 0, none⟩) 1 1 ([(⟨⟨(some ⟨b_1, 0, none⟩), 1, 1, [(⟨0, 0, 0, 0, 0, 0, ⟨none, 0, 0, []⟩, 1, 0⟩ : Task)]⟩⟩ : TL)]) (some ⟨b_18, 0, none⟩) 3 3 ([(⟨1, 0, 0, 0, 0, 0, 0⟩ : Evt), (⟨4, 0, 0, 0, 0, 0, 0⟩ : Evt), (⟨7, 0, 0, 0, 0, 0, 0⟩ : Evt)]) (RdT.flat (RdT.blk (enc := encTL) (sz := 1) (xs := [(⟨⟨(some ⟨b_1, 0, none⟩), 1, 1, [(⟨0, 0, 0, 0, 0, 0, ⟨none, 0, 0, []⟩, 1, 0⟩ : Task)]⟩⟩ : TL)]) (fun _ => (by rfl)) 1 2 rfl rfl rfl (by omega))) (fun z hz => by
      rcases List.mem_singleton.1 hz with rfl
      exact ⟨(RdT.blk (enc := encTask) (sz := 9) (xs := [(⟨0, 0, 0, 0, 0, 0, ⟨none, 0, 0, []⟩, 1, 0⟩ : Task)]) (fun _ => rfl) 1 3 rfl rfl rfl (by omega)).of_mem mem_flat, fun y hy => by
        rcases List.mem_singleton.1 hy with rfl
        exact ⟨RdT.nil (enc := encI) (sz := 1) (fun _ => rfl) _⟩⟩) (RdT.flat (RdT.blk (enc := encEvt) (sz := 7) (xs := [(⟨1, 0, 0, 0, 0, 0, 0⟩ : Evt), (⟨4, 0, 0, 0, 0, 0, 0⟩ : Evt), (⟨7, 0, 0, 0, 0, 0, 0⟩ : Evt)]) (fun _ => (by rfl)) 3 0 rfl rfl rfl (by omega))) (by intro z hz; rcases List.mem_singleton.1 hz with rfl; show 1 ≤ 12; decide) (by decide) (Sat.flat hS_20)) ?_
  intro w_21 hS_22
  refine nilO ⟨⟨.inl (by kernel_rfl), .inl (by kernel_rfl), .inl (by kernel_rfl), .inl (by kernel_rfl), .inl (by kernel_rfl), .inl (by kernel_rfl), .inl (by kernel_rfl), .inl (by kernel_rfl), .inl (by kernel_rfl), .inl (by kernel_rfl), .inl (by kernel_rfl), .inl (by kernel_rfl), .inl (by kernel_rfl), .inl (by kernel_rfl), .inl (by kernel_rfl), .inl (by kernel_rfl), .inl (by kernel_rfl), .inl (by kernel_rfl), .inl (by kernel_rfl), .inl (by kernel_rfl), .inl (by kernel_rfl), trivial⟩, ?_⟩
  refine qU [13] <| qU [14] <| qU [15] <| qU [16, 17] ?_
  refine qN ?_
  refine thenK_n <| seqE <| regionE <| pu1 ?_
  refine cR Tryz.call14 (au_count (some ⟨b_7, 0, none⟩) 5 5 ([(⟨1, 0, 0, 0, 0, 0, 0⟩ : Evt), (⟨4, 0, 0, 0, 0, 0, 0⟩ : Evt), (⟨6, 0, 0, 0, 0, 0, 0⟩ : Evt), (⟨7, 0, 0, 0, 0, 0, 0⟩ : Evt), (⟨8, 0, 0, 0, 0, 0, 0⟩ : Evt)]) (RdT.flat (RdT.blk (enc := encEvt) (sz := 7) (xs := [(⟨1, 0, 0, 0, 0, 0, 0⟩ : Evt), (⟨4, 0, 0, 0, 0, 0, 0⟩ : Evt), (⟨6, 0, 0, 0, 0, 0, 0⟩ : Evt), (⟨7, 0, 0, 0, 0, 0, 0⟩ : Evt), (⟨8, 0, 0, 0, 0, 0, 0⟩ : Evt)]) (fun _ => (by rfl)) 5 1 rfl rfl rfl (by omega))) (by first | omega | decide | (simp only [List.length_append, List.length_take, List.length_drop, List.length_nil]; omega)) (Sat.flat hS_22)) ?_
  intro w_24 hS_25
  refine sAlloc hS_25 Tryz.zeroValue51 ?_
  intro b_27 w_28 hS_29
  refine sT hS_29 0 0 (.agg #[.int .i64 1, .int .i64 1, .int .i64 0, .int .i64 0, .int .i64 0, .int .i64 0, .int .i64 0, .int .i64 0, .int .i64 0, .int .i64 0]) [.int .i64 1, .int .i64 1, .int .i64 0, .int .i64 0, .int .i64 0, .int .i64 0, .int .i64 0, .int .i64 0, .int .i64 0, .int .i64 0] #[.int .i64 1, .int .i64 1, .int .i64 0, .int .i64 0, .int .i64 0, .int .i64 0, .int .i64 0, .int .i64 0, .int .i64 0, .int .i64 0] Tryz.sizeOf51 ?_
  intro w_30 hS_31
  refine nilO <| thenK_n <| seqE <| regionE <| pu15 <| gY ?_
  refine sL hS_31 0 0 (.int .i64 1) (Tryz.isAgg3 _) ?_
  refine pu4 <| gY ?_
  refine sL hS_31 0 1 (.int .i64 1) (Tryz.isAgg3 _) ?_
  refine pu3 <| nilO <| thenK_n <| retE <| retT [.bool true] <| ?_
  have hS_32 := (((((hS_31.dropAt 0 rfl).dropAt 0 rfl).dropAt 0 rfl).dropAt 0 rfl).dropAt 0 rfl)
  exact ⟨rfl, hS_32⟩
theorem l31_prefix (W w : World) (H : Chunk) (F : List Chunk) (t : Option Addr) (nt kt : Nat) (xt : List Int) (cut : Int) (ht : RdT encI 1 [H] t nt kt xt) (_hcut : -9223372036854775808 ≤ cut ∧ cut ≤ 9223372036854775807) (hS : Sat W w (H :: F)) :
    Calls Tryz.prog 5 #[.slice t nt kt, .int .i64 cut] w fun e w' => e = .returned (.bool true) ∧ Sat W w' (H :: F) := by
  have hlt := ht.le
  refine callsA 94 Tryz.func5 rfl ?_
  refine seqE <| regionE <| pu1 <| nilO <| thenK_n <| seqE <| regionE <| pu1 ?_
  refine cX Tryz.call6 (tape_new t nt kt hS) ?_
  rintro _ w_1 ⟨p_3, rfl, hS_2⟩
  have hle_4 := ht.le
  refine pu1 <| nilO <| thenK_n <| seqE <| regionE <| pu1 ?_
  refine cX Tryz.call7 (l31_record (RdT.flat (ht.up 0 (by rfl))) (by omega) (Sat.flat1 hS_2) 60 (by omega)) ?_
  rintro _ w_5 ⟨c_7, aj_8, nj_9, kj_10, js_11, cj_12, Gj_13, ao_14, no_15, ko_16, es_17, co_18, rfl, hv_19, hc_20, hOj_21, hDj_22, hOe_23, hTr_24, i_25, hi_26, hS_6⟩
  have hS_27 := Sat.unflat4 hS_6
  refine pu4 ?_
  refine sAlloc hS_27 Tryz.zeroValue24 ?_
  intro b_28 w_29 hS_30
  refine sT hS_30 0 0 (.agg (encCfg c_7).toArray) (encCfg c_7) (encCfg c_7).toArray Tryz.sizeOf24 ?_
  intro w_31 hS_32
  refine pu2 <| nilO ?_
  obtain ⟨K_, F_, hK_, hT_⟩ := hTr_24; have hes_ := tr_es hT_; have hc5_ := hc_20.2.2; have hel_ := hOe_23.len; have hek_ := hOe_23.le
  refine thenK_n <| seqE <| regionE <| pu3 ?_
  refine sAdd ((no_15 : Nat) : Int) 1 ?_
  refine cX Tryz.call15 (mod_ok cut (((no_15 : Nat) : Int) + 1) (by omega) (by omega) hS_32) ?_
  rintro _ w_33 ⟨r_35, rfl, hr_36, hS_34⟩
  refine pu1 <| nilO <| thenK_n <| seqE ?_
  refine drawE [5] [(0, ⟨b_28, 0, none⟩, .int .i64 c_7.workers), (0, ⟨b_28, 1, none⟩, .int .i64 c_7.tileW), (0, ⟨b_28, 2, none⟩, .int .i64 c_7.tileH), (0, ⟨b_28, 3, none⟩, .int .i64 c_7.arena), (0, ⟨b_28, 4, none⟩, .int .i64 c_7.deque), (0, ⟨b_28, 5, none⟩, .int .i64 c_7.tasks), (0, ⟨b_28, 6, none⟩, .int .i64 c_7.cells), (0, ⟨b_28, 7, none⟩, .int .i64 c_7.jobs)] [(true, [1, 2, 3]), (true, [4]), (true, [0]), (false, [5]), (true, [6]), (true, [7]), (true, [8]), (true, [9, 10])] rfl (by kernel_rfl) ⟨.inr (hS_34.cell 0 rfl rfl), .inr (hS_34.cell 0 rfl rfl), .inr (hS_34.cell 0 rfl rfl), .inr (hS_34.cell 0 rfl rfl), .inr (hS_34.cell 0 rfl rfl), .inr (hS_34.cell 0 rfl rfl), .inr (hS_34.cell 0 rfl rfl), .inr (hS_34.cell 0 rfl rfl), trivial⟩ ?_
  have hS_37 := hS_34.drew
  refine wU [1, 2, 3] ?_
  have hP_38 := hOe_23.part (lo := 0) (hi := (r_35).toNat) (by omega) (by omega)
  refine wY (.slice (partAddr ao_14 ko_16 0 7) ((r_35).toNat - 0) (ko_16 - 0)) rfl (fun w _ => Y_sl (a := ao_14) (len := no_15) (cap := ko_16) none (some r_35) 0 ((r_35).toNat) Tryz.runUnderlying26 Tryz.sizeOf43 rfl ⟨by omega, by omega⟩ (by omega) (by omega)) ?_
  refine wY (.agg (encCfg c_7).toArray) rfl (fun w hF => Y_loadF rfl (Tryz.isAgg24 w) (Tryz.sizeOf24 w) (by kernel_rfl) rfl ⟨hF 0 _ _ rfl, hF 1 _ _ rfl, hF 2 _ _ rfl, hF 3 _ _ rfl, hF 4 _ _ rfl, hF 5 _ _ rfl, hF 6 _ _ rfl, hF 7 _ _ rfl, trivial⟩) ?_
  refine wO rfl ?_
  refine cR Tryz.call13 (au_check c_7 aj_8 nj_9 kj_10 js_11 (partAddr ao_14 ko_16 0 7) ((r_35).toNat - 0) (ko_16 - 0) ((es_17.drop 0).take ((r_35).toNat - 0)) (RdT.flat (hOj_21.rdAt 2 (by rfl))) (fun z hz => (hDj_22 z hz).of_mem (mem_flat1 3 (by rfl))) (RdT.flat (hP_38.rdAt 4 (by rfl))) (fun z hz => by have := tr_len hT_ _ (List.mem_map.2 ⟨z, hz, rfl⟩); omega) (by first | omega | (simp only [List.length_append, List.length_take, List.length_drop, List.length_nil]; omega)) (Sat.flat hS_37)) ?_
  intro w_39 hS_40
  have hL_ : ((es_17.drop 0).take ((r_35).toNat - 0)) = es_17.take r_35.toNat := by simp
  have hpre_ : ¬ (checkM js_11 c_7 ((es_17.drop 0).take ((r_35).toNat - 0))).2 = true → r_35.toNat ≠ 0 ∧ (checkM js_11 c_7 ((es_17.drop 0).take ((r_35).toNat - 0))).1 = ((r_35.toNat : Nat) : Int) - 1 ∧ ∀ e, es_17[r_35.toNat - 1]? = some e → e.kind = 12 := by rw [hL_]; exact rec_pre2 hv_19 hc5_ hT_ hK_ (by omega)
  refine nilO ⟨⟨.inl (by kernel_rfl), .inl (by kernel_rfl), .inl (by kernel_rfl), .inl (by kernel_rfl), .inl (by kernel_rfl), .inl (by kernel_rfl), .inl (by kernel_rfl), .inl (by kernel_rfl), trivial⟩, ?_⟩
  refine wU [6] <| wU [7] <| wU [8] <| wU [9, 10] ?_
  refine wN ?_
  refine thenK_n <| seqE <| seqE <| regionE <| pu3 ?_
  refine sBn 41 ((checkM js_11 c_7 ((es_17.drop 0).take ((r_35).toNat - 0))).2) (fun hc_42 => ?_) (fun hc_42 => ?_)
  · refine pu16 <| pu2 <| nilO <| thenK_n <| cFf <| skipE <| thenK_n <| seqE <| regionE <| pu2 ?_
    have hS_43 := (hS_40.pick 1 rfl)
    refine cX Tryz.call10 (l31_forge (RdT.flat (ht.up 4 (by rfl))) (by omega) (Sat.flat1 hS_43) ao_14 no_15 ko_16 es_17 (RdT.flat (hOe_23.rdAt 3 (by rfl))) (by omega)) ?_
    rintro _ w_44 ⟨az_46, nz_47, kz_48, zs_49, C_50, rfl, hO_51, hz_52, i_53, hi_54, hS_45⟩
    have hS_55 := Sat.unflat2 hS_45
    have hn_zs_49 := hO_51.len; have hl_zs_49 := hO_51.le
    refine pu1 <| nilO <| thenK_n <| seqE <| regionE ?_
    refine lA hS_55 2 0 8 (Tryz.isAgg24 _) (Tryz.sizeOf24 _) ?_
    refine pu2 ?_
    refine cR Tryz.call13 (au_check c_7 aj_8 nj_9 kj_10 js_11 az_46 nz_47 kz_48 zs_49 (RdT.flat (hOj_21.rdAt 3 (by rfl))) (fun z hz => (hDj_22 z hz).of_mem (mem_flat1 4 (by rfl))) (RdT.flat (hO_51.rdAt 1 (by rfl))) (fun z hz => by have := tr_len hT_ _ (List.mem_map.2 ⟨z, hz, rfl⟩); omega) (by first | omega | (simp only [List.length_append, List.length_take, List.length_drop, List.length_nil]; omega)) (Sat.flat hS_55)) ?_
    intro w_56 hS_57
    refine pu5 <| nilO <| thenK_n <| seqE ?_
    refine drawE [2, 4, 6, 7] [(0, ⟨b_28, 0, none⟩, .int .i64 c_7.workers), (0, ⟨b_28, 1, none⟩, .int .i64 c_7.tileW), (0, ⟨b_28, 2, none⟩, .int .i64 c_7.tileH), (0, ⟨b_28, 3, none⟩, .int .i64 c_7.arena), (0, ⟨b_28, 4, none⟩, .int .i64 c_7.deque), (0, ⟨b_28, 5, none⟩, .int .i64 c_7.tasks), (0, ⟨b_28, 6, none⟩, .int .i64 c_7.cells), (0, ⟨b_28, 7, none⟩, .int .i64 c_7.jobs)] [(true, [1, 3, 5]), (true, [0]), (false, [2]), (false, [4]), (false, [6]), (false, [7]), (true, [8]), (true, [9]), (true, [10]), (true, [11, 12])] rfl (by kernel_rfl) ⟨.inr (hS_57.cell 2 rfl rfl), .inr (hS_57.cell 2 rfl rfl), .inr (hS_57.cell 2 rfl rfl), .inr (hS_57.cell 2 rfl rfl), .inr (hS_57.cell 2 rfl rfl), .inr (hS_57.cell 2 rfl rfl), .inr (hS_57.cell 2 rfl rfl), .inr (hS_57.cell 2 rfl rfl), trivial⟩ ?_
    have hS_59 := hS_57.drew
    refine wU [1, 3, 5] ?_
    refine wY (.agg (encCfg c_7).toArray) rfl (fun w hF => Y_loadF rfl (Tryz.isAgg24 w) (Tryz.sizeOf24 w) (by kernel_rfl) rfl ⟨hF 0 _ _ rfl, hF 1 _ _ rfl, hF 2 _ _ rfl, hF 3 _ _ rfl, hF 4 _ _ rfl, hF 5 _ _ rfl, hF 6 _ _ rfl, hF 7 _ _ rfl, trivial⟩) ?_
    refine wO rfl ?_
    refine sBS hS_59 #[] Tryz.runUnderlying26 Tryz.sizeOf43 Tryz.zeroValue43 ?_
    intro b_60 w_61 hS_62
    refine nilO ⟨⟨.inr (hS_62.cell 3 rfl rfl), .inr (hS_62.cell 3 rfl rfl), .inr (hS_62.cell 3 rfl rfl), .inr (hS_62.cell 3 rfl rfl), .inr (hS_62.cell 3 rfl rfl), .inr (hS_62.cell 3 rfl rfl), .inr (hS_62.cell 3 rfl rfl), .inr (hS_62.cell 3 rfl rfl), trivial⟩, ?_⟩
    refine wO rfl ?_
    have hO_63 := OwnT.blk (enc := encEvt) (sz := 7) (b := b_60) (c := #[]) (E := 43) (xs := []) (fun _ => rfl) 0 rfl rfl rfl (by omega)
    refine sApp (nb := 56) hS_62 hO_63 0 (hO_51.rdAt 2 rfl) Tryz.underlying26 (i := Tryz.t43) (by kernel_rfl) (fun _ => rfl) ?_
    intro a_64 cap_65 c_66 w_67 hO_68 hS_69
    refine nilO ⟨⟨.inr (hS_69.cell 3 rfl rfl), .inr (hS_69.cell 3 rfl rfl), .inr (hS_69.cell 3 rfl rfl), .inr (hS_69.cell 3 rfl rfl), .inr (hS_69.cell 3 rfl rfl), .inr (hS_69.cell 3 rfl rfl), .inr (hS_69.cell 3 rfl rfl), .inr (hS_69.cell 3 rfl rfl), trivial⟩, ?_⟩
    refine wO rfl ?_
    refine sApp (nb := 56) hS_69 hO_68 0 (hOe_23.rdAt 6 rfl) Tryz.underlying26 (i := Tryz.t43) (by kernel_rfl) (fun _ => rfl) ?_
    intro a_70 cap_71 c_72 w_73 hO_74 hS_75
    refine nilO ⟨⟨.inr (hS_75.cell 3 rfl rfl), .inr (hS_75.cell 3 rfl rfl), .inr (hS_75.cell 3 rfl rfl), .inr (hS_75.cell 3 rfl rfl), .inr (hS_75.cell 3 rfl rfl), .inr (hS_75.cell 3 rfl rfl), .inr (hS_75.cell 3 rfl rfl), .inr (hS_75.cell 3 rfl rfl), trivial⟩, ?_⟩
    refine wO rfl ?_
    refine cR Tryz.call13 (au_check c_7 aj_8 nj_9 kj_10 js_11 a_70 ((0 + nz_47) + no_15) cap_71 (([] ++ zs_49) ++ es_17) (RdT.flat (hOj_21.rdAt 4 (by rfl))) (fun z hz => (hDj_22 z hz).of_mem (mem_flat1 5 (by rfl))) (RdT.flat (hO_74.rdAt 0 (by rfl))) (fun z hz => by have := tr_len hT_ _ (List.mem_map.2 ⟨z, hz, rfl⟩); omega) (by first | omega | (simp only [List.length_append, List.length_take, List.length_drop, List.length_nil]; omega)) (Sat.flat hS_75)) ?_
    intro w_76 hS_77
    have hext_ : ¬ (checkM js_11 c_7 zs_49).2 = true → checkM js_11 c_7 (([] ++ zs_49) ++ es_17) = checkM js_11 c_7 zs_49 := by rw [show (([] ++ zs_49) ++ es_17) = zs_49 ++ es_17 by simp]; exact rec_ext2 hv_19 hc5_ hT_ hK_
    refine nilO ⟨⟨.inl (by kernel_rfl), .inl (by kernel_rfl), .inl (by kernel_rfl), .inl (by kernel_rfl), .inl (by kernel_rfl), .inl (by kernel_rfl), .inl (by kernel_rfl), .inl (by kernel_rfl), trivial⟩, ?_⟩
    refine wU [8] <| wU [9] <| wU [10] <| wU [11, 12] ?_
    refine wN ?_
    refine thenK_n <| seqE <| regionE <| pu2 ?_
    refine sB 82 ((checkM js_11 c_7 zs_49).2) (fun hc_79 => ?_) (fun hc_79 => ?_)
    · refine pu9 <| gY ?_
      refine cX Tryz.call11 (l31_sane hS_77) ?_
      rintro _ w_80 ⟨rfl, hS_81⟩
      refine pu2 <| nilO <| thenK_n <| retE <| retT [.bool true] <| ?_
      have hS_82 := (hS_81.pick 7 rfl)
      have hS_83 := hS_82.dropAt 1 rfl
      have hS_84 := hS_83.dropAt 1 rfl
      have hS_85 := hS_84.dropAt 1 rfl
      have hS_86 := hS_85.dropAt 1 rfl
      have hS_87 := hS_86.dropAt 1 rfl
      have hS_88 := hS_87.dropAt 1 rfl
      have hS_89 := hS_88.dropAt 1 rfl
      exact ⟨rfl, hS_89⟩
    refine pu3 ?_
    have hc_90 : ¬ ((checkM js_11 c_7 (([] ++ zs_49) ++ es_17)).2 = true) := (by rw [hext_ hc_79]; exact hc_79)
    refine sFix 85 _ true (congrArg Bool.not (Bool.eq_false_iff.2 hc_90)) ?_
    refine pu6 ?_
    have hc_91 : ((checkM js_11 c_7 (([] ++ zs_49) ++ es_17)).1 : Int) = ((checkM js_11 c_7 zs_49).1) := (by rw [hext_ hc_79])
    refine sFix 91 _ true (beq_iff_eq.2 hc_91) ?_
    refine gY ?_
    refine cX Tryz.call11 (l31_sane hS_77) ?_
    rintro _ w_92 ⟨rfl, hS_93⟩
    refine pu2 <| nilO <| thenK_n <| retE <| retT [.bool true] <| ?_
    have hS_94 := (hS_93.pick 7 rfl)
    have hS_95 := hS_94.dropAt 1 rfl
    have hS_96 := hS_95.dropAt 1 rfl
    have hS_97 := hS_96.dropAt 1 rfl
    have hS_98 := hS_97.dropAt 1 rfl
    have hS_99 := hS_98.dropAt 1 rfl
    have hS_100 := hS_99.dropAt 1 rfl
    have hS_101 := hS_100.dropAt 1 rfl
    exact ⟨rfl, hS_101⟩
  refine pu3 ?_
  have hc_102 : ¬ ((r_35 : Int) = 0) := (by have := (hpre_ hc_42).1; omega)
  refine sFix 44 _ false (beq_eq_false_iff_ne.2 hc_102) ?_
  refine pu2 <| gY ?_
  refine sSub r_35 1 ?_
  refine pu3 ?_
  have hc_103 : ((checkM js_11 c_7 ((es_17.drop 0).take ((r_35).toNat - 0))).1 : Int) = (r_35 - 1) := (by have := (hpre_ hc_42).2.1; omega)
  refine sFix 50 _ false (bne_eq_false_iff_eq.2 hc_103) ?_
  refine pu2 <| gY ?_
  refine sSub r_35 1 ?_
  refine gY ?_
  refine sIdxO hOe_23 (r_35 - 1) ((r_35 - 1)).toNat Tryz.runUnderlying26 Tryz.sizeOf43 ?_
  intro x_104 b_105 o_106 hx_107 hp_108 hq_109
  refine pu1 <| gY ?_
  refine sLp hS_40 (hp_108.up 4 rfl) 0 (.int .i64 x_104.kind) (Tryz.isAgg3 _) ?_
  refine pu3 <| nilO <| thenK_n <| ?_
  have hc_110 : (x_104.kind : Int) = 12 := ((hpre_ hc_42).2.2 _ (by rw [show r_35.toNat - 1 = (r_35 - 1).toNat by omega]; exact hx_107))
  refine cF _ (bne_eq_false_iff_eq.2 hc_110) ?_
  refine skipE <| thenK_n <| seqE <| regionE <| pu2 ?_
  have hS_111 := (hS_40.pick 1 rfl)
  refine cX Tryz.call10 (l31_forge (RdT.flat (ht.up 4 (by rfl))) (by omega) (Sat.flat1 hS_111) ao_14 no_15 ko_16 es_17 (RdT.flat (hOe_23.rdAt 3 (by rfl))) (by omega)) ?_
  rintro _ w_112 ⟨az_114, nz_115, kz_116, zs_117, C_118, rfl, hO_119, hz_120, i_121, hi_122, hS_113⟩
  have hS_123 := Sat.unflat2 hS_113
  have hn_zs_117 := hO_119.len; have hl_zs_117 := hO_119.le
  refine pu1 <| nilO <| thenK_n <| seqE <| regionE ?_
  refine lA hS_123 2 0 8 (Tryz.isAgg24 _) (Tryz.sizeOf24 _) ?_
  refine pu2 ?_
  refine cR Tryz.call13 (au_check c_7 aj_8 nj_9 kj_10 js_11 az_114 nz_115 kz_116 zs_117 (RdT.flat (hOj_21.rdAt 3 (by rfl))) (fun z hz => (hDj_22 z hz).of_mem (mem_flat1 4 (by rfl))) (RdT.flat (hO_119.rdAt 1 (by rfl))) (fun z hz => by have := tr_len hT_ _ (List.mem_map.2 ⟨z, hz, rfl⟩); omega) (by first | omega | (simp only [List.length_append, List.length_take, List.length_drop, List.length_nil]; omega)) (Sat.flat hS_123)) ?_
  intro w_124 hS_125
  refine pu5 <| nilO <| thenK_n <| seqE ?_
  refine drawE [2, 4, 6, 7] [(0, ⟨b_28, 0, none⟩, .int .i64 c_7.workers), (0, ⟨b_28, 1, none⟩, .int .i64 c_7.tileW), (0, ⟨b_28, 2, none⟩, .int .i64 c_7.tileH), (0, ⟨b_28, 3, none⟩, .int .i64 c_7.arena), (0, ⟨b_28, 4, none⟩, .int .i64 c_7.deque), (0, ⟨b_28, 5, none⟩, .int .i64 c_7.tasks), (0, ⟨b_28, 6, none⟩, .int .i64 c_7.cells), (0, ⟨b_28, 7, none⟩, .int .i64 c_7.jobs)] [(true, [1, 3, 5]), (true, [0]), (false, [2]), (false, [4]), (false, [6]), (false, [7]), (true, [8]), (true, [9]), (true, [10]), (true, [11, 12])] rfl (by kernel_rfl) ⟨.inr (hS_125.cell 2 rfl rfl), .inr (hS_125.cell 2 rfl rfl), .inr (hS_125.cell 2 rfl rfl), .inr (hS_125.cell 2 rfl rfl), .inr (hS_125.cell 2 rfl rfl), .inr (hS_125.cell 2 rfl rfl), .inr (hS_125.cell 2 rfl rfl), .inr (hS_125.cell 2 rfl rfl), trivial⟩ ?_
  have hS_127 := hS_125.drew
  refine wU [1, 3, 5] ?_
  refine wY (.agg (encCfg c_7).toArray) rfl (fun w hF => Y_loadF rfl (Tryz.isAgg24 w) (Tryz.sizeOf24 w) (by kernel_rfl) rfl ⟨hF 0 _ _ rfl, hF 1 _ _ rfl, hF 2 _ _ rfl, hF 3 _ _ rfl, hF 4 _ _ rfl, hF 5 _ _ rfl, hF 6 _ _ rfl, hF 7 _ _ rfl, trivial⟩) ?_
  refine wO rfl ?_
  refine sBS hS_127 #[] Tryz.runUnderlying26 Tryz.sizeOf43 Tryz.zeroValue43 ?_
  intro b_128 w_129 hS_130
  refine nilO ⟨⟨.inr (hS_130.cell 3 rfl rfl), .inr (hS_130.cell 3 rfl rfl), .inr (hS_130.cell 3 rfl rfl), .inr (hS_130.cell 3 rfl rfl), .inr (hS_130.cell 3 rfl rfl), .inr (hS_130.cell 3 rfl rfl), .inr (hS_130.cell 3 rfl rfl), .inr (hS_130.cell 3 rfl rfl), trivial⟩, ?_⟩
  refine wO rfl ?_
  have hO_131 := OwnT.blk (enc := encEvt) (sz := 7) (b := b_128) (c := #[]) (E := 43) (xs := []) (fun _ => rfl) 0 rfl rfl rfl (by omega)
  refine sApp (nb := 56) hS_130 hO_131 0 (hO_119.rdAt 2 rfl) Tryz.underlying26 (i := Tryz.t43) (by kernel_rfl) (fun _ => rfl) ?_
  intro a_132 cap_133 c_134 w_135 hO_136 hS_137
  refine nilO ⟨⟨.inr (hS_137.cell 3 rfl rfl), .inr (hS_137.cell 3 rfl rfl), .inr (hS_137.cell 3 rfl rfl), .inr (hS_137.cell 3 rfl rfl), .inr (hS_137.cell 3 rfl rfl), .inr (hS_137.cell 3 rfl rfl), .inr (hS_137.cell 3 rfl rfl), .inr (hS_137.cell 3 rfl rfl), trivial⟩, ?_⟩
  refine wO rfl ?_
  refine sApp (nb := 56) hS_137 hO_136 0 (hOe_23.rdAt 6 rfl) Tryz.underlying26 (i := Tryz.t43) (by kernel_rfl) (fun _ => rfl) ?_
  intro a_138 cap_139 c_140 w_141 hO_142 hS_143
  refine nilO ⟨⟨.inr (hS_143.cell 3 rfl rfl), .inr (hS_143.cell 3 rfl rfl), .inr (hS_143.cell 3 rfl rfl), .inr (hS_143.cell 3 rfl rfl), .inr (hS_143.cell 3 rfl rfl), .inr (hS_143.cell 3 rfl rfl), .inr (hS_143.cell 3 rfl rfl), .inr (hS_143.cell 3 rfl rfl), trivial⟩, ?_⟩
  refine wO rfl ?_
  refine cR Tryz.call13 (au_check c_7 aj_8 nj_9 kj_10 js_11 a_138 ((0 + nz_115) + no_15) cap_139 (([] ++ zs_117) ++ es_17) (RdT.flat (hOj_21.rdAt 4 (by rfl))) (fun z hz => (hDj_22 z hz).of_mem (mem_flat1 5 (by rfl))) (RdT.flat (hO_142.rdAt 0 (by rfl))) (fun z hz => by have := tr_len hT_ _ (List.mem_map.2 ⟨z, hz, rfl⟩); omega) (by first | omega | (simp only [List.length_append, List.length_take, List.length_drop, List.length_nil]; omega)) (Sat.flat hS_143)) ?_
  intro w_144 hS_145
  have hext_ : ¬ (checkM js_11 c_7 zs_117).2 = true → checkM js_11 c_7 (([] ++ zs_117) ++ es_17) = checkM js_11 c_7 zs_117 := by rw [show (([] ++ zs_117) ++ es_17) = zs_117 ++ es_17 by simp]; exact rec_ext2 hv_19 hc5_ hT_ hK_
  refine nilO ⟨⟨.inl (by kernel_rfl), .inl (by kernel_rfl), .inl (by kernel_rfl), .inl (by kernel_rfl), .inl (by kernel_rfl), .inl (by kernel_rfl), .inl (by kernel_rfl), .inl (by kernel_rfl), trivial⟩, ?_⟩
  refine wU [8] <| wU [9] <| wU [10] <| wU [11, 12] ?_
  refine wN ?_
  refine thenK_n <| seqE <| regionE <| pu2 ?_
  refine sB 82 ((checkM js_11 c_7 zs_117).2) (fun hc_147 => ?_) (fun hc_147 => ?_)
  · refine pu9 <| gY ?_
    refine cX Tryz.call11 (l31_sane hS_145) ?_
    rintro _ w_148 ⟨rfl, hS_149⟩
    refine pu2 <| nilO <| thenK_n <| retE <| retT [.bool true] <| ?_
    have hS_150 := (hS_149.pick 7 rfl)
    have hS_151 := hS_150.dropAt 1 rfl
    have hS_152 := hS_151.dropAt 1 rfl
    have hS_153 := hS_152.dropAt 1 rfl
    have hS_154 := hS_153.dropAt 1 rfl
    have hS_155 := hS_154.dropAt 1 rfl
    have hS_156 := hS_155.dropAt 1 rfl
    have hS_157 := hS_156.dropAt 1 rfl
    exact ⟨rfl, hS_157⟩
  refine pu3 ?_
  have hc_158 : ¬ ((checkM js_11 c_7 (([] ++ zs_117) ++ es_17)).2 = true) := (by rw [hext_ hc_147]; exact hc_147)
  refine sFix 85 _ true (congrArg Bool.not (Bool.eq_false_iff.2 hc_158)) ?_
  refine pu6 ?_
  have hc_159 : ((checkM js_11 c_7 (([] ++ zs_117) ++ es_17)).1 : Int) = ((checkM js_11 c_7 zs_117).1) := (by rw [hext_ hc_147])
  refine sFix 91 _ true (beq_iff_eq.2 hc_159) ?_
  refine gY ?_
  refine cX Tryz.call11 (l31_sane hS_145) ?_
  rintro _ w_160 ⟨rfl, hS_161⟩
  refine pu2 <| nilO <| thenK_n <| retE <| retT [.bool true] <| ?_
  have hS_162 := (hS_161.pick 7 rfl)
  have hS_163 := hS_162.dropAt 1 rfl
  have hS_164 := hS_163.dropAt 1 rfl
  have hS_165 := hS_164.dropAt 1 rfl
  have hS_166 := hS_165.dropAt 1 rfl
  have hS_167 := hS_166.dropAt 1 rfl
  have hS_168 := hS_167.dropAt 1 rfl
  have hS_169 := hS_168.dropAt 1 rfl
  exact ⟨rfl, hS_169⟩
end Go.Proofs.YtimkhljglpookaaGreat
