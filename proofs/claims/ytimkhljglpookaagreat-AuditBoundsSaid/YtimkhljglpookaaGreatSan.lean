import Derived.Test.YtimkhljglpookaaGreatFrg
namespace Go.Proofs.YtimkhljglpookaaGreat
open Go Go.E
set_option linter.unusedVariables false
set_option linter.unusedSimpArgs false
set_option linter.unnecessarySimpa false
set_option maxRecDepth 100000
set_option maxHeartbeats 2000000
variable {W w : World} {H : Chunk} {F : List Chunk}
theorem l31_config {cs : List Chunk} (hS : Sat W w cs) :
    Ro Tryz.prog 27 #[] (.agg #[.int .i64 2, .int .i64 1, .int .i64 1, .int .i64 0, .int .i64 1, .int .i64 9, .int .i64 1, .int .i64 9]) W w cs := by
  refine callsA 2 Tryz.func27 rfl ?_
  refine seqE <| regionE ?_
  refine sAlloc hS Tryz.zeroValue24 ?_
  intro b_1 w_2 hS_3
  refine nilO <| thenK_n <| seqE <| regionE <| pu1 ?_
  refine sT hS_3 0 0 (.agg #[.int .i64 2, .int .i64 1, .int .i64 1, .int .i64 0, .int .i64 1, .int .i64 9, .int .i64 1, .int .i64 9]) [.int .i64 2, .int .i64 1, .int .i64 1, .int .i64 0, .int .i64 1, .int .i64 9, .int .i64 1, .int .i64 9] #[.int .i64 2, .int .i64 1, .int .i64 1, .int .i64 0, .int .i64 1, .int .i64 9, .int .i64 1, .int .i64 9] Tryz.sizeOf24 ?_
  intro w_4 hS_5
  refine nilO <| thenK_n <| retE <| retN (vs := [.agg #[.int .i64 2, .int .i64 1, .int .i64 1, .int .i64 0, .int .i64 1, .int .i64 9, .int .i64 1, .int .i64 9]]) rfl (.cons (.cell _ _ _ _ (by kernel_rfl) (lvA hS_5 0 0 [.int .i64 2, .int .i64 1, .int .i64 1, .int .i64 0, .int .i64 1, .int .i64 9, .int .i64 1, .int .i64 9] (Tryz.isAgg24 _) (Tryz.sizeOf24 _) rfl rfl rfl)) .nil) <| ?_
  have hS_6 := (hS_5.dropAt 0 rfl)
  exact ⟨rfl, hS_6⟩
theorem l31_sane {cs : List Chunk} (hS : Sat W w cs) :
    Ro Tryz.prog 11 #[] (.bool true) W w cs := by
  refine callsA 65 Tryz.func11 rfl ?_
  refine seqE <| regionE <| pu1 <| nilO <| thenK_n <| seqE <| regionE <| pu1 ?_
  refine sBS hS #[.int .i64 0, .int .i64 0, .int .i64 0, .int .i64 0, .int .i64 0, .int .i64 0, .slice none 0 0, .int .i64 1, .int .i64 0] Tryz.runUnderlying45 Tryz.sizeOf49 Tryz.zeroValue49 ?_
  intro b_1 w_2 hS_3
  refine sBS hS_3 #[.slice (some ⟨b_1, 0, none⟩) 1 1] Tryz.runUnderlying25 Tryz.sizeOf45 Tryz.zeroValue45 ?_
  intro b_4 w_5 hS_6
  refine pu1 <| nilO <| thenK_n <| seqE <| regionE <| pu5 ?_
  refine sBS hS_6 #[.int .i64 1, .int .i64 0, .int .i64 0, .int .i64 0, .int .i64 0, .int .i64 0, .int .i64 0, .int .i64 4, .int .i64 0, .int .i64 0, .int .i64 0, .int .i64 0, .int .i64 0, .int .i64 0, .int .i64 6, .int .i64 0, .int .i64 0, .int .i64 0, .int .i64 0, .int .i64 0, .int .i64 0, .int .i64 7, .int .i64 0, .int .i64 0, .int .i64 0, .int .i64 0, .int .i64 0, .int .i64 0, .int .i64 8, .int .i64 0, .int .i64 0, .int .i64 0, .int .i64 0, .int .i64 0, .int .i64 0] Tryz.runUnderlying26 Tryz.sizeOf43 Tryz.zeroValue43 ?_
  intro b_7 w_8 hS_9
  refine pu1 <| nilO <| thenK_n <| seqE <| regionE ?_
  refine cX Tryz.call27 (l31_config hS_9) ?_
  rintro _ w_10 ⟨rfl, hS_11⟩
  refine pu2 ?_
  refine cR Tryz.call13 (au_check (⟨2, 1, 1, 0, 1, 9, 1, 9⟩ : Cfg) (some ⟨b_4, 0, none⟩) 1 1 ([(⟨⟨(some ⟨b_1, 0, none⟩), 1, 1, [(⟨0, 0, 0, 0, 0, 0, ⟨none, 0, 0, []⟩, 1, 0⟩ : Task)]⟩⟩ : TL)]) (some ⟨b_7, 0, none⟩) 5 5 ([(⟨1, 0, 0, 0, 0, 0, 0⟩ : Evt), (⟨4, 0, 0, 0, 0, 0, 0⟩ : Evt), (⟨6, 0, 0, 0, 0, 0, 0⟩ : Evt), (⟨7, 0, 0, 0, 0, 0, 0⟩ : Evt), (⟨8, 0, 0, 0, 0, 0, 0⟩ : Evt)]) (RdT.flat (RdT.blk (enc := encTL) (sz := 1) (xs := [(⟨⟨(some ⟨b_1, 0, none⟩), 1, 1, [(⟨0, 0, 0, 0, 0, 0, ⟨none, 0, 0, []⟩, 1, 0⟩ : Task)]⟩⟩ : TL)]) (fun _ => (by rfl)) 1 1 rfl rfl rfl (by omega))) (fun z hz => by
      rcases List.mem_singleton.1 hz with rfl
      exact ⟨(RdT.blk (enc := encTask) (sz := 9) (xs := [(⟨0, 0, 0, 0, 0, 0, ⟨none, 0, 0, []⟩, 1, 0⟩ : Task)]) (fun _ => rfl) 1 2 rfl rfl rfl (by omega)).of_mem mem_flat, fun y hy => by
        rcases List.mem_singleton.1 hy with rfl
        exact ⟨RdT.nil (enc := encI) (sz := 1) (fun _ => rfl) _⟩⟩) (RdT.flat (RdT.blk (enc := encEvt) (sz := 7) (xs := [(⟨1, 0, 0, 0, 0, 0, 0⟩ : Evt), (⟨4, 0, 0, 0, 0, 0, 0⟩ : Evt), (⟨6, 0, 0, 0, 0, 0, 0⟩ : Evt), (⟨7, 0, 0, 0, 0, 0, 0⟩ : Evt), (⟨8, 0, 0, 0, 0, 0, 0⟩ : Evt)]) (fun _ => (by rfl)) 5 0 rfl rfl rfl (by omega))) (by intro z hz; rcases List.mem_singleton.1 hz with rfl; show 1 ≤ 12; decide) (by decide) (Sat.flat hS_11)) ?_
  intro w_12 hS_13
  refine pu5 <| nilO <| thenK_n <| seqE ?_
  refine drawP [0, 11, 12] [(4, ⟨b_7, 0, none⟩, .int .i64 1), (4, ⟨b_7, 1, none⟩, .int .i64 0), (4, ⟨b_7, 2, none⟩, .int .i64 0), (4, ⟨b_7, 3, none⟩, .int .i64 0), (4, ⟨b_7, 4, none⟩, .int .i64 0), (4, ⟨b_7, 5, none⟩, .int .i64 0), (4, ⟨b_7, 6, none⟩, .int .i64 0), (7, ⟨b_7, 7, none⟩, .int .i64 4), (7, ⟨b_7, 8, none⟩, .int .i64 0), (7, ⟨b_7, 9, none⟩, .int .i64 0), (7, ⟨b_7, 10, none⟩, .int .i64 0), (7, ⟨b_7, 11, none⟩, .int .i64 0), (7, ⟨b_7, 12, none⟩, .int .i64 0), (7, ⟨b_7, 13, none⟩, .int .i64 0), (10, ⟨b_7, 21, none⟩, .int .i64 7), (10, ⟨b_7, 22, none⟩, .int .i64 0), (10, ⟨b_7, 23, none⟩, .int .i64 0), (10, ⟨b_7, 24, none⟩, .int .i64 0), (10, ⟨b_7, 25, none⟩, .int .i64 0), (10, ⟨b_7, 26, none⟩, .int .i64 0), (10, ⟨b_7, 27, none⟩, .int .i64 0)] (Plan.sts [1, 2] <| Plan.sts [3] <| Plan.sts [5] <| Plan.sts [6] <| Plan.sts [8] <| Plan.sts [9] <| Plan.sts [4] <| Plan.sts [7] <| Plan.sts [10] <| .fk 0 11 (.ef 11 <| .ef 12 <| Plan.sts [13] <| Plan.sts [14] <| Plan.sts [15] <| Plan.sts [16, 17] <| .fin) (.ef 0 <| .ef 12 <| Plan.sts [13] <| Plan.sts [14] <| Plan.sts [15] <| Plan.sts [16, 17] <| .fin)) rfl (by kernel_rfl) ⟨.inr (hS_13.cell 0 rfl rfl), .inr (hS_13.cell 0 rfl rfl), .inr (hS_13.cell 0 rfl rfl), .inr (hS_13.cell 0 rfl rfl), .inr (hS_13.cell 0 rfl rfl), .inr (hS_13.cell 0 rfl rfl), .inr (hS_13.cell 0 rfl rfl), .inr (hS_13.cell 0 rfl rfl), .inr (hS_13.cell 0 rfl rfl), .inr (hS_13.cell 0 rfl rfl), .inr (hS_13.cell 0 rfl rfl), .inr (hS_13.cell 0 rfl rfl), .inr (hS_13.cell 0 rfl rfl), .inr (hS_13.cell 0 rfl rfl), .inr (hS_13.cell 0 rfl rfl), .inr (hS_13.cell 0 rfl rfl), .inr (hS_13.cell 0 rfl rfl), .inr (hS_13.cell 0 rfl rfl), .inr (hS_13.cell 0 rfl rfl), .inr (hS_13.cell 0 rfl rfl), .inr (hS_13.cell 0 rfl rfl), trivial⟩ ?_
  have hS_15 := hS_13.drew
  refine qU [1, 2] ?_
  refine qY (.pointer (some ⟨b_7, 0, none⟩)) rfl (fun w _ => Y_idx (a := (some ⟨b_7, 0, none⟩)) (i := 0) (len := 5) (cap := 5) rfl Tryz.runUnderlying26 Tryz.sizeOf43 (by kernel_rfl) (by kernel_rfl) ⟨_, rfl, add_off _ 0 _, by decide, by decide⟩) ?_
  refine qU [5] ?_
  refine qY (.pointer (some ⟨b_7, 7, none⟩)) rfl (fun w _ => Y_idx (a := (some ⟨b_7, 0, none⟩)) (i := 1) (len := 5) (cap := 5) rfl Tryz.runUnderlying26 Tryz.sizeOf43 (by kernel_rfl) (by kernel_rfl) ⟨_, rfl, add_off _ 0 _, by decide, by decide⟩) ?_
  refine qU [8] ?_
  refine qY (.pointer (some ⟨b_7, 21, none⟩)) rfl (fun w _ => Y_idx (a := (some ⟨b_7, 0, none⟩)) (i := 3) (len := 5) (cap := 5) rfl Tryz.runUnderlying26 Tryz.sizeOf43 (by kernel_rfl) (by kernel_rfl) ⟨_, rfl, add_off _ 0 _, by decide, by decide⟩) ?_
  refine qY (.agg #[.int .i64 1, .int .i64 0, .int .i64 0, .int .i64 0, .int .i64 0, .int .i64 0, .int .i64 0]) rfl (fun w hF => Y_loadF rfl (Tryz.isAgg43 w) (Tryz.sizeOf43 w) (by kernel_rfl) rfl ⟨hF 0 _ _ rfl, hF 1 _ _ rfl, hF 2 _ _ rfl, hF 3 _ _ rfl, hF 4 _ _ rfl, hF 5 _ _ rfl, hF 6 _ _ rfl, trivial⟩) ?_
  refine qY (.agg #[.int .i64 4, .int .i64 0, .int .i64 0, .int .i64 0, .int .i64 0, .int .i64 0, .int .i64 0]) rfl (fun w hF => Y_loadF rfl (Tryz.isAgg43 w) (Tryz.sizeOf43 w) (by kernel_rfl) rfl ⟨hF 7 _ _ rfl, hF 8 _ _ rfl, hF 9 _ _ rfl, hF 10 _ _ rfl, hF 11 _ _ rfl, hF 12 _ _ rfl, hF 13 _ _ rfl, trivial⟩) ?_
  refine qY (.agg #[.int .i64 7, .int .i64 0, .int .i64 0, .int .i64 0, .int .i64 0, .int .i64 0, .int .i64 0]) rfl (fun w hF => Y_loadF rfl (Tryz.isAgg43 w) (Tryz.sizeOf43 w) (by kernel_rfl) rfl ⟨hF 14 _ _ rfl, hF 15 _ _ rfl, hF 16 _ _ rfl, hF 17 _ _ rfl, hF 18 _ _ rfl, hF 19 _ _ rfl, hF 20 _ _ rfl, trivial⟩) ?_
  refine qF ?_ ?_
  rotate_left
  · refine qO rfl ?_
    refine sBS hS_15 #[.int .i64 1, .int .i64 0, .int .i64 0, .int .i64 0, .int .i64 0, .int .i64 0, .int .i64 0, .int .i64 4, .int .i64 0, .int .i64 0, .int .i64 0, .int .i64 0, .int .i64 0, .int .i64 0, .int .i64 7, .int .i64 0, .int .i64 0, .int .i64 0, .int .i64 0, .int .i64 0, .int .i64 0] Tryz.runUnderlying26 Tryz.sizeOf43 Tryz.zeroValue43 ?_
    intro b_33 w_34 hS_35
    refine nilO ⟨⟨.inl (by kernel_rfl), .inl (by kernel_rfl), .inl (by kernel_rfl), .inl (by kernel_rfl), .inl (by kernel_rfl), .inl (by kernel_rfl), .inl (by kernel_rfl), .inl (by kernel_rfl), .inl (by kernel_rfl), .inl (by kernel_rfl), .inl (by kernel_rfl), .inl (by kernel_rfl), .inl (by kernel_rfl), .inl (by kernel_rfl), .inl (by kernel_rfl), .inl (by kernel_rfl), .inl (by kernel_rfl), .inl (by kernel_rfl), .inl (by kernel_rfl), .inl (by kernel_rfl), .inl (by kernel_rfl), trivial⟩, ?_⟩
    refine qO rfl ?_
    refine cX Tryz.call27 (l31_config hS_35) ?_
    rintro _ w_36 ⟨rfl, hS_37⟩
    refine nilO ⟨⟨.inl (by kernel_rfl), .inl (by kernel_rfl), .inl (by kernel_rfl), .inl (by kernel_rfl), .inl (by kernel_rfl), .inl (by kernel_rfl), .inl (by kernel_rfl), .inl (by kernel_rfl), .inl (by kernel_rfl), .inl (by kernel_rfl), .inl (by kernel_rfl), .inl (by kernel_rfl), .inl (by kernel_rfl), .inl (by kernel_rfl), .inl (by kernel_rfl), .inl (by kernel_rfl), .inl (by kernel_rfl), .inl (by kernel_rfl), .inl (by kernel_rfl), .inl (by kernel_rfl), .inl (by kernel_rfl), trivial⟩, ?_⟩
    refine qO rfl ?_
    refine cR Tryz.call13 (au_check (⟨2, 1, 1, 0, 1, 9, 1, 9⟩ : Cfg) (some ⟨b_4, 0, none⟩) 1 1 ([(⟨⟨(some ⟨b_1, 0, none⟩), 1, 1, [(⟨0, 0, 0, 0, 0, 0, ⟨none, 0, 0, []⟩, 1, 0⟩ : Task)]⟩⟩ : TL)]) (some ⟨b_33, 0, none⟩) 3 3 ([(⟨1, 0, 0, 0, 0, 0, 0⟩ : Evt), (⟨4, 0, 0, 0, 0, 0, 0⟩ : Evt), (⟨7, 0, 0, 0, 0, 0, 0⟩ : Evt)]) (RdT.flat (RdT.blk (enc := encTL) (sz := 1) (xs := [(⟨⟨(some ⟨b_1, 0, none⟩), 1, 1, [(⟨0, 0, 0, 0, 0, 0, ⟨none, 0, 0, []⟩, 1, 0⟩ : Task)]⟩⟩ : TL)]) (fun _ => (by rfl)) 1 2 rfl rfl rfl (by omega))) (fun z hz => by
        rcases List.mem_singleton.1 hz with rfl
        exact ⟨(RdT.blk (enc := encTask) (sz := 9) (xs := [(⟨0, 0, 0, 0, 0, 0, ⟨none, 0, 0, []⟩, 1, 0⟩ : Task)]) (fun _ => rfl) 1 3 rfl rfl rfl (by omega)).of_mem mem_flat, fun y hy => by
          rcases List.mem_singleton.1 hy with rfl
          exact ⟨RdT.nil (enc := encI) (sz := 1) (fun _ => rfl) _⟩⟩) (RdT.flat (RdT.blk (enc := encEvt) (sz := 7) (xs := [(⟨1, 0, 0, 0, 0, 0, 0⟩ : Evt), (⟨4, 0, 0, 0, 0, 0, 0⟩ : Evt), (⟨7, 0, 0, 0, 0, 0, 0⟩ : Evt)]) (fun _ => (by rfl)) 3 0 rfl rfl rfl (by omega))) (by intro z hz; rcases List.mem_singleton.1 hz with rfl; show 1 ≤ 12; decide) (by decide) (Sat.flat hS_37)) ?_
    intro w_38 hS_39
    refine nilO ⟨⟨.inl (by kernel_rfl), .inl (by kernel_rfl), .inl (by kernel_rfl), .inl (by kernel_rfl), .inl (by kernel_rfl), .inl (by kernel_rfl), .inl (by kernel_rfl), .inl (by kernel_rfl), .inl (by kernel_rfl), .inl (by kernel_rfl), .inl (by kernel_rfl), .inl (by kernel_rfl), .inl (by kernel_rfl), .inl (by kernel_rfl), .inl (by kernel_rfl), .inl (by kernel_rfl), .inl (by kernel_rfl), .inl (by kernel_rfl), .inl (by kernel_rfl), .inl (by kernel_rfl), .inl (by kernel_rfl), trivial⟩, ?_⟩
    refine qU [13] <| qU [14] <| qU [15] <| qU [16, 17] ?_
    refine qN ?_
    refine thenK_n <| seqE <| regionE <| pu1 ?_
    refine cR Tryz.call14 (au_count (some ⟨b_7, 0, none⟩) 5 5 ([(⟨1, 0, 0, 0, 0, 0, 0⟩ : Evt), (⟨4, 0, 0, 0, 0, 0, 0⟩ : Evt), (⟨6, 0, 0, 0, 0, 0, 0⟩ : Evt), (⟨7, 0, 0, 0, 0, 0, 0⟩ : Evt), (⟨8, 0, 0, 0, 0, 0, 0⟩ : Evt)]) (RdT.flat (RdT.blk (enc := encEvt) (sz := 7) (xs := [(⟨1, 0, 0, 0, 0, 0, 0⟩ : Evt), (⟨4, 0, 0, 0, 0, 0, 0⟩ : Evt), (⟨6, 0, 0, 0, 0, 0, 0⟩ : Evt), (⟨7, 0, 0, 0, 0, 0, 0⟩ : Evt), (⟨8, 0, 0, 0, 0, 0, 0⟩ : Evt)]) (fun _ => (by rfl)) 5 1 rfl rfl rfl (by omega))) (by first | omega | decide | (simp only [List.length_append, List.length_take, List.length_drop, List.length_nil]; omega)) (Sat.flat hS_39)) ?_
    intro w_41 hS_42
    refine sAlloc hS_42 Tryz.zeroValue51 ?_
    intro b_44 w_45 hS_46
    refine sT hS_46 0 0 (.agg #[.int .i64 1, .int .i64 1, .int .i64 0, .int .i64 0, .int .i64 0, .int .i64 0, .int .i64 0, .int .i64 0, .int .i64 0, .int .i64 0]) [.int .i64 1, .int .i64 1, .int .i64 0, .int .i64 0, .int .i64 0, .int .i64 0, .int .i64 0, .int .i64 0, .int .i64 0, .int .i64 0] #[.int .i64 1, .int .i64 1, .int .i64 0, .int .i64 0, .int .i64 0, .int .i64 0, .int .i64 0, .int .i64 0, .int .i64 0, .int .i64 0] Tryz.sizeOf51 ?_
    intro w_47 hS_48
    refine nilO <| thenK_n <| seqE <| regionE <| pu15 <| gY ?_
    refine sL hS_48 0 0 (.int .i64 1) (Tryz.isAgg3 _) ?_
    refine pu4 <| gY ?_
    refine sL hS_48 0 1 (.int .i64 1) (Tryz.isAgg3 _) ?_
    refine pu3 <| nilO <| thenK_n <| retE <| retT [.bool true] <| ?_
    have hS_49 := (((((hS_48.dropAt 0 rfl).dropAt 0 rfl).dropAt 0 rfl).dropAt 0 rfl).dropAt 0 rfl)
    exact ⟨rfl, hS_49⟩
  refine qO rfl ?_
  refine cX Tryz.call27 (l31_config hS_15) ?_
  rintro _ w_16 ⟨rfl, hS_17⟩
  refine nilO ⟨⟨.inr (hS_17.cell 0 rfl rfl), .inr (hS_17.cell 0 rfl rfl), .inr (hS_17.cell 0 rfl rfl), .inr (hS_17.cell 0 rfl rfl), .inr (hS_17.cell 0 rfl rfl), .inr (hS_17.cell 0 rfl rfl), .inr (hS_17.cell 0 rfl rfl), .inr (hS_17.cell 0 rfl rfl), .inr (hS_17.cell 0 rfl rfl), .inr (hS_17.cell 0 rfl rfl), .inr (hS_17.cell 0 rfl rfl), .inr (hS_17.cell 0 rfl rfl), .inr (hS_17.cell 0 rfl rfl), .inr (hS_17.cell 0 rfl rfl), .inr (hS_17.cell 0 rfl rfl), .inr (hS_17.cell 0 rfl rfl), .inr (hS_17.cell 0 rfl rfl), .inr (hS_17.cell 0 rfl rfl), .inr (hS_17.cell 0 rfl rfl), .inr (hS_17.cell 0 rfl rfl), .inr (hS_17.cell 0 rfl rfl), trivial⟩, ?_⟩
  refine qO rfl ?_
  refine sBS hS_17 #[.int .i64 1, .int .i64 0, .int .i64 0, .int .i64 0, .int .i64 0, .int .i64 0, .int .i64 0, .int .i64 4, .int .i64 0, .int .i64 0, .int .i64 0, .int .i64 0, .int .i64 0, .int .i64 0, .int .i64 7, .int .i64 0, .int .i64 0, .int .i64 0, .int .i64 0, .int .i64 0, .int .i64 0] Tryz.runUnderlying26 Tryz.sizeOf43 Tryz.zeroValue43 ?_
  intro b_18 w_19 hS_20
  refine nilO ⟨⟨.inl (by kernel_rfl), .inl (by kernel_rfl), .inl (by kernel_rfl), .inl (by kernel_rfl), .inl (by kernel_rfl), .inl (by kernel_rfl), .inl (by kernel_rfl), .inl (by kernel_rfl), .inl (by kernel_rfl), .inl (by kernel_rfl), .inl (by kernel_rfl), .inl (by kernel_rfl), .inl (by kernel_rfl), .inl (by kernel_rfl), .inl (by kernel_rfl), .inl (by kernel_rfl), .inl (by kernel_rfl), .inl (by kernel_rfl), .inl (by kernel_rfl), .inl (by kernel_rfl), .inl (by kernel_rfl), trivial⟩, ?_⟩
  refine qO rfl ?_
  refine cR Tryz.call13 (au_check (⟨2, 1, 1, 0, 1, 9, 1, 9⟩ : Cfg) (some ⟨b_4, 0, none⟩) 1 1 ([(⟨⟨(some ⟨b_1, 0, none⟩), 1, 1, [(⟨0, 0, 0, 0, 0, 0, ⟨none, 0, 0, []⟩, 1, 0⟩ : Task)]⟩⟩ : TL)]) (some ⟨b_18, 0, none⟩) 3 3 ([(⟨1, 0, 0, 0, 0, 0, 0⟩ : Evt), (⟨4, 0, 0, 0, 0, 0, 0⟩ : Evt), (⟨7, 0, 0, 0, 0, 0, 0⟩ : Evt)]) (RdT.flat (RdT.blk (enc := encTL) (sz := 1) (xs := [(⟨⟨(some ⟨b_1, 0, none⟩), 1, 1, [(⟨0, 0, 0, 0, 0, 0, ⟨none, 0, 0, []⟩, 1, 0⟩ : Task)]⟩⟩ : TL)]) (fun _ => (by rfl)) 1 2 rfl rfl rfl (by omega))) (fun z hz => by
      rcases List.mem_singleton.1 hz with rfl
      exact ⟨(RdT.blk (enc := encTask) (sz := 9) (xs := [(⟨0, 0, 0, 0, 0, 0, ⟨none, 0, 0, []⟩, 1, 0⟩ : Task)]) (fun _ => rfl) 1 3 rfl rfl rfl (by omega)).of_mem mem_flat, fun y hy => by
        rcases List.mem_singleton.1 hy with rfl
        exact ⟨RdT.nil (enc := encI) (sz := 1) (fun _ => rfl) _⟩⟩) (RdT.flat (RdT.blk (enc := encEvt) (sz := 7) (xs := [(⟨1, 0, 0, 0, 0, 0, 0⟩ : Evt), (⟨4, 0, 0, 0, 0, 0, 0⟩ : Evt), (⟨7, 0, 0, 0, 0, 0, 0⟩ : Evt)]) (fun _ => (by rfl)) 3 0 rfl rfl rfl (by omega))) (by intro z hz; rcases List.mem_singleton.1 hz with rfl; show 1 ≤ 12; decide) (by decide) (Sat.flat hS_20)) ?_
  intro w_21 hS_22
  refine nilO ⟨⟨.inl (by kernel_rfl), .inl (by kernel_rfl), .inl (by kernel_rfl), .inl (by kernel_rfl), .inl (by kernel_rfl), .inl (by kernel_rfl), .inl (by kernel_rfl), .inl (by kernel_rfl), .inl (by kernel_rfl), .inl (by kernel_rfl), .inl (by kernel_rfl), .inl (by kernel_rfl), .inl (by kernel_rfl), .inl (by kernel_rfl), .inl (by kernel_rfl), .inl (by kernel_rfl), .inl (by kernel_rfl), .inl (by kernel_rfl), .inl (by kernel_rfl), .inl (by kernel_rfl), .inl (by kernel_rfl), trivial⟩, ?_⟩
  refine qU [13] <| qU [14] <| qU [15] <| qU [16, 17] ?_
  refine qN ?_
  refine thenK_n <| seqE <| regionE <| pu1 ?_
  refine cR Tryz.call14 (au_count (some ⟨b_7, 0, none⟩) 5 5 ([(⟨1, 0, 0, 0, 0, 0, 0⟩ : Evt), (⟨4, 0, 0, 0, 0, 0, 0⟩ : Evt), (⟨6, 0, 0, 0, 0, 0, 0⟩ : Evt), (⟨7, 0, 0, 0, 0, 0, 0⟩ : Evt), (⟨8, 0, 0, 0, 0, 0, 0⟩ : Evt)]) (RdT.flat (RdT.blk (enc := encEvt) (sz := 7) (xs := [(⟨1, 0, 0, 0, 0, 0, 0⟩ : Evt), (⟨4, 0, 0, 0, 0, 0, 0⟩ : Evt), (⟨6, 0, 0, 0, 0, 0, 0⟩ : Evt), (⟨7, 0, 0, 0, 0, 0, 0⟩ : Evt), (⟨8, 0, 0, 0, 0, 0, 0⟩ : Evt)]) (fun _ => (by rfl)) 5 1 rfl rfl rfl (by omega))) (by first | omega | decide | (simp only [List.length_append, List.length_take, List.length_drop, List.length_nil]; omega)) (Sat.flat hS_22)) ?_
  intro w_24 hS_25
  refine sAlloc hS_25 Tryz.zeroValue51 ?_
  intro b_27 w_28 hS_29
  refine sT hS_29 0 0 (.agg #[.int .i64 1, .int .i64 1, .int .i64 0, .int .i64 0, .int .i64 0, .int .i64 0, .int .i64 0, .int .i64 0, .int .i64 0, .int .i64 0]) [.int .i64 1, .int .i64 1, .int .i64 0, .int .i64 0, .int .i64 0, .int .i64 0, .int .i64 0, .int .i64 0, .int .i64 0, .int .i64 0] #[.int .i64 1, .int .i64 1, .int .i64 0, .int .i64 0, .int .i64 0, .int .i64 0, .int .i64 0, .int .i64 0, .int .i64 0, .int .i64 0] Tryz.sizeOf51 ?_
  intro w_30 hS_31
  refine nilO <| thenK_n <| seqE <| regionE <| pu15 <| gY ?_
  refine sL hS_31 0 0 (.int .i64 1) (Tryz.isAgg3 _) ?_
  refine pu4 <| gY ?_
  refine sL hS_31 0 1 (.int .i64 1) (Tryz.isAgg3 _) ?_
  refine pu3 <| nilO <| thenK_n <| retE <| retT [.bool true] <| ?_
  have hS_32 := (((((hS_31.dropAt 0 rfl).dropAt 0 rfl).dropAt 0 rfl).dropAt 0 rfl).dropAt 0 rfl)
  exact ⟨rfl, hS_32⟩
end Go.Proofs.YtimkhljglpookaaGreat
