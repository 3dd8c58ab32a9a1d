import Derived.Test.YtimkhljglpookaaGreatAu4
import Derived.Test.YtimkhljglpookaaGreatSl3
namespace Go.Proofs.YtimkhljglpookaaGreat
open Go Go.E
set_option linter.unusedVariables false
set_option linter.unusedSimpArgs false
set_option linter.unnecessarySimpa false
set_option maxRecDepth 100000
set_option maxHeartbeats 2000000
variable {W w : World} {H : Chunk} {F : List Chunk}
theorem l31_forge {p : Nat} {a : Option Addr} {n k : Nat} {i : Int} {xs : List Int} (hR : RdT encI 1 [H] a n k xs) (hi : 0 ≤ i ∧ i ≤ n) (hS : Sat W w ([(p, .cells #[.slice a n k, .int .i64 i] 57 (0, 0))] :: H :: F)) (al : Option Addr) (nl kl : Nat) (l : List Evt) (hl : RdT encEvt 7 [H] al nl kl l) (hlb : l.length ≤ 100000) :
    Calls Tryz.prog 10 #[.pointer (some ⟨p, 0, none⟩), .slice al nl kl] w fun e w' => ∃ (az : Option Addr) (nz : Nat) (kz : Nat) (zs : List Evt) (C : Chunk), e = .returned (.slice az nz kz) ∧ (OwnT encEvt 43 7 az nz kz zs C) ∧ (zs.length ≤ l.length + 1) ∧ ∃ i' : Int, (0 ≤ i' ∧ i' ≤ n) ∧ Sat W w' ([(p, .cells #[.slice a n k, .int .i64 i'] 57 (0, 0))] :: C :: H :: F) := by
  have hl_l := hl.le; have hn_l := hl.len
  have hle := hR.le
  refine callsA 133 Tryz.func10 rfl ?_
  refine seqE <| regionE <| pu1 <| nilO <| thenK_n <| seqE <| regionE ?_
  refine sBS hS #[] Tryz.runUnderlying26 Tryz.sizeOf43 Tryz.zeroValue43 ?_
  intro b_1 w_2 hS_3
  refine pu1 ?_
  have hO_4 := OwnT.blk (enc := encEvt) (sz := 7) (b := b_1) (c := #[]) (E := 43) (xs := []) (fun _ => rfl) 0 rfl rfl rfl (by omega)
  refine sApp (nb := 56) hS_3 hO_4 0 (hl.up 2 rfl) Tryz.underlying26 (i := Tryz.t43) (by kernel_rfl) (fun _ => rfl) ?_
  intro a_5 cap_6 c_7 w_8 hO_9 hS_10
  refine pu1 <| nilO ?_
  have hol_ := hO_9.le; have hon_ := hO_9.len
  refine thenK_n <| seqE <| seqE <| regionE <| pu3 <| nilO <| thenK_n <| ?_
  refine cE (((0 + nl) : Nat) : Int) 0 (fun hc_11 => ?_) (fun hc_11 => ?_)
  · refine seqE <| regionE <| pu2 ?_
    have hS_12 := (hS_10.pick 1 rfl)
    refine cX Tryz.call12 (tape_next (RdT.flat (hR.up 1 (by rfl))) (by omega) (Sat.flat1 hS_12) 15 (by omega)) ?_
    rintro _ w_13 ⟨r_15, rfl, hr_16, i_17, hi_18, hS_14⟩
    have hS_19 := Sat.unflat1 hS_14
    refine pu1 ?_
    refine cX Tryz.call12 (tape_next (RdT.flat (hR.up 1 (by rfl))) (by omega) (Sat.flat1 hS_19) 3 (by omega)) ?_
    rintro _ w_20 ⟨r_22, rfl, hr_23, i_24, hi_25, hS_21⟩
    have hS_26 := Sat.unflat1 hS_21
    refine pu1 ?_
    refine sBS hS_26 #[.int .i64 r_15, .int .i64 0, .int .i64 0, .int .i64 r_22, .int .i64 0, .int .i64 0, .int .i64 0] Tryz.runUnderlying26 Tryz.sizeOf43 Tryz.zeroValue43 ?_
    intro b_27 w_28 hS_29
    refine sApp (nb := 56) hS_29 hO_9 2 (RdT.blk (enc := encEvt) (sz := 7) (xs := [(⟨r_15, 0, 0, r_22, 0, 0, 0⟩ : Evt)]) (fun _ => rfl) 1 0 rfl rfl rfl (by omega)) Tryz.underlying26 (i := Tryz.t43) (by kernel_rfl) (fun _ => rfl) ?_
    intro a_30 cap_31 c_32 w_33 hO_34 hS_35
    refine pu1 <| nilO <| thenK_n <| retE <| thenK_r <| retT [.slice a_30 ((0 + nl) + 1) cap_31] <| ?_
    have hzl_ : (([] ++ l) ++ [(⟨r_15, 0, 0, r_22, 0, 0, 0⟩ : Evt)]).length ≤ l.length + 1 := by simp only [List.length_append, List.length_set, List.length_take, List.length_drop, List.length_cons, List.length_nil]; omega
    have hS_36 := (hS_35.dropAt 0 rfl)
    exact ⟨_, _, _, _, _, rfl, hO_34, hzl_, _, by omega, hS_36⟩
  refine skipE <| thenK_n <| seqE <| regionE <| pu3 ?_
  have hS_37 := (hS_10.pick 1 rfl)
  refine cX Tryz.call12 (tape_next (RdT.flat (hR.up 1 (by rfl))) (by omega) (Sat.flat1 hS_37) (((0 + nl) : Nat) : Int) (by omega)) ?_
  rintro _ w_38 ⟨r_40, rfl, hr_41, i_42, hi_43, hS_39⟩
  have hS_44 := Sat.unflat1 hS_39
  refine pu1 <| nilO <| thenK_n <| seqE <| seqE <| regionE <| pu1 ?_
  refine cX Tryz.call12 (tape_next (RdT.flat (hR.up 1 (by rfl))) (by omega) (Sat.flat1 hS_44) 9 (by omega)) ?_
  rintro _ w_45 ⟨r_47, rfl, hr_48, i_49, hi_50, hS_46⟩
  have hS_51 := Sat.unflat1 hS_46
  refine nilO <| thenK_n <| blockE <| seqE <| regionE <| pu2 <| nilO <| thenK_n <| ?_
  refine cE r_47 0 (fun hc_52 => ?_) (fun hc_52 => ?_)
  · refine seqE ?_
    refine drawE [8] [] [(true, [0, 1, 2]), (true, [3]), (true, [4, 5]), (true, [6]), (true, [7]), (false, [8]), (true, [9])] rfl (by kernel_rfl) trivial ?_
    have hS_53 := hS_51.drew
    refine wU [0, 1, 2] ?_
    have hP_54 := hO_9.cut (i := (r_40).toNat) (by omega)
    refine wY (.slice (partAddr a_5 ((r_40).toNat) 0 7) ((r_40).toNat) ((r_40).toNat)) rfl (fun w _ => Y_sl3 (a := a_5) (len := (0 + nl)) (cap := cap_6) r_40 ((r_40).toNat) Tryz.runUnderlying26 Tryz.sizeOf43 (by omega) (by omega) (by omega)) ?_
    refine wU [4, 5] ?_
    refine wAdd r_40 1 ?_
    have hP_55 := hO_9.part (lo := ((r_40 + 1)).toNat) (hi := (0 + nl)) (by omega) (by omega)
    refine wY (.slice (partAddr a_5 cap_6 (((r_40 + 1)).toNat) 7) ((0 + nl) - (((r_40 + 1)).toNat)) (cap_6 - (((r_40 + 1)).toNat))) rfl (fun w _ => Y_sl (a := a_5) (len := (0 + nl)) (cap := cap_6) (some (r_40 + 1)) none (((r_40 + 1)).toNat) (0 + nl) Tryz.runUnderlying26 Tryz.sizeOf43 ⟨by omega, by omega⟩ rfl (by omega) (by omega)) ?_
    refine wO rfl ?_
    refine sApp (nb := 56) hS_53 hP_54 1 (hP_55.rdAt 1 rfl) Tryz.underlying26 (i := Tryz.t43) (by kernel_rfl) (fun _ => rfl) ?_
    intro a_56 cap_57 c_58 w_59 hO_60 hS_61
    refine nilO ⟨trivial, ?_⟩
    refine wU [9] ?_
    refine wN ?_
    refine thenK_n <| retE <| blockK_r <| thenK_r <| retT [.slice a_56 ((r_40).toNat + ((0 + nl) - (((r_40 + 1)).toNat))) cap_57] <| ?_
    have hzl_ : ((([] ++ l).take ((r_40).toNat)) ++ ((([] ++ l).drop (((r_40 + 1)).toNat)).take ((0 + nl) - (((r_40 + 1)).toNat)))).length ≤ l.length + 1 := by simp only [List.length_append, List.length_set, List.length_take, List.length_drop, List.length_cons, List.length_nil]; omega
    exact ⟨_, _, _, _, _, rfl, hO_60, hzl_, _, by omega, hS_61⟩
  refine seqE <| regionE <| pu2 <| nilO <| thenK_n <| ?_
  refine cE r_47 1 (fun hc_62 => ?_) (fun hc_62 => ?_)
  · refine seqE ?_
    obtain ⟨x_63, b_64, o_65, hx_66, hp_67, hq_68, ha_69⟩ := OwnT.elem hO_9 r_40
    refine drawE [8, 9, 13] [(7, ⟨b_64, o_65 + (r_40).toNat * 7 + 0, none⟩, .int .i64 x_63.kind), (7, ⟨b_64, o_65 + (r_40).toNat * 7 + 1, none⟩, .int .i64 x_63.worker), (7, ⟨b_64, o_65 + (r_40).toNat * 7 + 2, none⟩, .int .i64 x_63.from_), (7, ⟨b_64, o_65 + (r_40).toNat * 7 + 3, none⟩, .int .i64 x_63.job), (7, ⟨b_64, o_65 + (r_40).toNat * 7 + 4, none⟩, .int .i64 x_63.refJob), (7, ⟨b_64, o_65 + (r_40).toNat * 7 + 5, none⟩, .int .i64 x_63.refTask), (7, ⟨b_64, o_65 + (r_40).toNat * 7 + 6, none⟩, .int .i64 x_63.err)] [(true, [0, 1, 2]), (true, [3]), (true, [4, 5]), (true, [6]), (true, [10, 11]), (true, [12]), (true, [7]), (false, [8]), (false, [9]), (false, [13]), (true, [14])] rfl (by kernel_rfl) ⟨.inr ((hp_67.up 1 rfl).cell hS_51 (k := 0) rfl), .inr ((hp_67.up 1 rfl).cell hS_51 (k := 1) rfl), .inr ((hp_67.up 1 rfl).cell hS_51 (k := 2) rfl), .inr ((hp_67.up 1 rfl).cell hS_51 (k := 3) rfl), .inr ((hp_67.up 1 rfl).cell hS_51 (k := 4) rfl), .inr ((hp_67.up 1 rfl).cell hS_51 (k := 5) rfl), .inr ((hp_67.up 1 rfl).cell hS_51 (k := 6) rfl), trivial⟩ ?_
    have hS_70 := hS_51.drew
    refine wU [0, 1, 2] ?_
    have hP_71 := hO_9.cut (i := (r_40).toNat) (by omega)
    refine wY (.slice (partAddr a_5 ((r_40).toNat) 0 7) ((r_40).toNat) ((r_40).toNat)) rfl (fun w _ => Y_sl3 (a := a_5) (len := (0 + nl)) (cap := cap_6) r_40 ((r_40).toNat) Tryz.runUnderlying26 Tryz.sizeOf43 (by omega) (by omega) (by omega)) ?_
    refine wU [4, 5] ?_
    refine wY (.pointer (some ⟨b_64, o_65 + (r_40).toNat * 7, none⟩)) rfl (fun w _ => Y_idx (a := a_5) (i := r_40) (len := (0 + nl)) (cap := cap_6) rfl Tryz.runUnderlying26 Tryz.sizeOf43 (by kernel_rfl) (by kernel_rfl) hq_68) ?_
    refine wU [10, 11] ?_
    have hP_72 := hl.part (lo := (r_40).toNat) (hi := nl) (by omega) (by omega)
    refine wY (.slice (partAddr al kl ((r_40).toNat) 7) (nl - ((r_40).toNat)) (kl - ((r_40).toNat))) rfl (fun w _ => Y_sl (a := al) (len := nl) (cap := kl) (some r_40) none ((r_40).toNat) nl Tryz.runUnderlying26 Tryz.sizeOf43 ⟨by omega, by omega⟩ rfl (by omega) (by omega)) ?_
    refine wY (.agg (encEvt x_63).toArray) rfl (fun w hF => Y_loadF rfl (Tryz.isAgg43 w) (Tryz.sizeOf43 w) (by kernel_rfl) rfl ⟨hF 0 _ _ rfl, hF 1 _ _ rfl, hF 2 _ _ rfl, hF 3 _ _ rfl, hF 4 _ _ rfl, hF 5 _ _ rfl, hF 6 _ _ rfl, trivial⟩) ?_
    refine wO rfl ?_
    refine sBS hS_70 (encEvt x_63).toArray Tryz.runUnderlying26 Tryz.sizeOf43 Tryz.zeroValue43 ?_
    intro b_73 w_74 hS_75
    refine nilO ⟨⟨.inl (by kernel_rfl), .inl (by kernel_rfl), .inl (by kernel_rfl), .inl (by kernel_rfl), .inl (by kernel_rfl), .inl (by kernel_rfl), .inl (by kernel_rfl), trivial⟩, ?_⟩
    refine wO rfl ?_
    refine sApp (nb := 56) hS_75 hP_71 2 (RdT.blk (enc := encEvt) (sz := 7) (xs := [x_63]) (fun _ => rfl) 1 0 rfl rfl rfl (by omega)) Tryz.underlying26 (i := Tryz.t43) (by kernel_rfl) (fun _ => rfl) ?_
    intro a_76 cap_77 c_78 w_79 hO_80 hS_81
    refine nilO ⟨⟨.inl (by kernel_rfl), .inl (by kernel_rfl), .inl (by kernel_rfl), .inl (by kernel_rfl), .inl (by kernel_rfl), .inl (by kernel_rfl), .inl (by kernel_rfl), trivial⟩, ?_⟩
    refine wO rfl ?_
    refine sApp (nb := 56) hS_81 hO_80 2 (hP_72.up 3 rfl) Tryz.underlying26 (i := Tryz.t43) (by kernel_rfl) (fun _ => rfl) ?_
    intro a_82 cap_83 c_84 w_85 hO_86 hS_87
    refine nilO ⟨⟨.inl (by kernel_rfl), .inl (by kernel_rfl), .inl (by kernel_rfl), .inl (by kernel_rfl), .inl (by kernel_rfl), .inl (by kernel_rfl), .inl (by kernel_rfl), trivial⟩, ?_⟩
    refine wU [14] ?_
    refine wN ?_
    refine thenK_n <| retE <| blockK_r <| thenK_r <| retT [.slice a_82 (((r_40).toNat + 1) + (nl - ((r_40).toNat))) cap_83] <| ?_
    have hzl_ : (((([] ++ l).take ((r_40).toNat)) ++ [x_63]) ++ ((l.drop ((r_40).toNat)).take (nl - ((r_40).toNat)))).length ≤ l.length + 1 := by simp only [List.length_append, List.length_set, List.length_take, List.length_drop, List.length_cons, List.length_nil]; omega
    have hS_88 := (hS_87.dropAt 0 rfl)
    exact ⟨_, _, _, _, _, rfl, hO_86, hzl_, _, by omega, hS_88⟩
  refine seqE <| regionE <| pu2 <| nilO <| thenK_n <| ?_
  refine cE r_47 2 (fun hc_89 => ?_) (fun hc_89 => ?_)
  · refine seqE <| regionE <| pu1 ?_
    refine sAdd r_40 1 ?_
    refine pu3 <| nilO <| thenK_n <| ?_
    refine cD ((r_40 + 1) < (((0 + nl) : Nat) : Int)) (fun hc_90 => ?_) (fun hc_90 => ?_)
    rotate_left
    · refine skipE <| blockK_n <| thenK_n <| seqE <| regionE <| pu2 <| nilO <| thenK_n <| retE <| retT [.slice a_5 (0 + nl) cap_6] <| ?_
      have hzl_ : ([] ++ l).length ≤ l.length + 1 := by simp only [List.length_append, List.length_set, List.length_take, List.length_drop, List.length_cons, List.length_nil]; omega
      exact ⟨_, _, _, _, _, rfl, hO_9, hzl_, _, by omega, hS_51⟩
    obtain ⟨x_91, b_92, o_93, hx_94, hp_95, hq_96, ha_97⟩ := OwnT.elem hO_9 (r_40 + 1)
    obtain ⟨x_98, b_99, o_100, hx_101, hp_102, hq_103, ha_104⟩ := OwnT.elem hO_9 r_40
    refine drawE [15, 17] [(9, ⟨b_92, o_93 + ((r_40 + 1)).toNat * 7 + 0, none⟩, .int .i64 x_91.kind), (9, ⟨b_92, o_93 + ((r_40 + 1)).toNat * 7 + 1, none⟩, .int .i64 x_91.worker), (9, ⟨b_92, o_93 + ((r_40 + 1)).toNat * 7 + 2, none⟩, .int .i64 x_91.from_), (9, ⟨b_92, o_93 + ((r_40 + 1)).toNat * 7 + 3, none⟩, .int .i64 x_91.job), (9, ⟨b_92, o_93 + ((r_40 + 1)).toNat * 7 + 4, none⟩, .int .i64 x_91.refJob), (9, ⟨b_92, o_93 + ((r_40 + 1)).toNat * 7 + 5, none⟩, .int .i64 x_91.refTask), (9, ⟨b_92, o_93 + ((r_40 + 1)).toNat * 7 + 6, none⟩, .int .i64 x_91.err), (13, ⟨b_99, o_100 + (r_40).toNat * 7 + 0, none⟩, .int .i64 x_98.kind), (13, ⟨b_99, o_100 + (r_40).toNat * 7 + 1, none⟩, .int .i64 x_98.worker), (13, ⟨b_99, o_100 + (r_40).toNat * 7 + 2, none⟩, .int .i64 x_98.from_), (13, ⟨b_99, o_100 + (r_40).toNat * 7 + 3, none⟩, .int .i64 x_98.job), (13, ⟨b_99, o_100 + (r_40).toNat * 7 + 4, none⟩, .int .i64 x_98.refJob), (13, ⟨b_99, o_100 + (r_40).toNat * 7 + 5, none⟩, .int .i64 x_98.refTask), (13, ⟨b_99, o_100 + (r_40).toNat * 7 + 6, none⟩, .int .i64 x_98.err)] [(true, [0, 1, 2, 3]), (true, [4]), (true, [5, 6]), (true, [7]), (true, [8]), (true, [10, 11]), (true, [12]), (true, [9]), (true, [13]), (true, [14]), (false, [15]), (true, [16]), (false, [17])] rfl (by kernel_rfl) ⟨.inr ((hp_95.up 1 rfl).cell hS_51 (k := 0) rfl), .inr ((hp_95.up 1 rfl).cell hS_51 (k := 1) rfl), .inr ((hp_95.up 1 rfl).cell hS_51 (k := 2) rfl), .inr ((hp_95.up 1 rfl).cell hS_51 (k := 3) rfl), .inr ((hp_95.up 1 rfl).cell hS_51 (k := 4) rfl), .inr ((hp_95.up 1 rfl).cell hS_51 (k := 5) rfl), .inr ((hp_95.up 1 rfl).cell hS_51 (k := 6) rfl), .inr ((hp_102.up 1 rfl).cell hS_51 (k := 0) rfl), .inr ((hp_102.up 1 rfl).cell hS_51 (k := 1) rfl), .inr ((hp_102.up 1 rfl).cell hS_51 (k := 2) rfl), .inr ((hp_102.up 1 rfl).cell hS_51 (k := 3) rfl), .inr ((hp_102.up 1 rfl).cell hS_51 (k := 4) rfl), .inr ((hp_102.up 1 rfl).cell hS_51 (k := 5) rfl), .inr ((hp_102.up 1 rfl).cell hS_51 (k := 6) rfl), trivial⟩ ?_
    have hS_105 := hS_51.drew
    refine wU [0, 1, 2, 3] ?_
    refine wAdd r_40 1 ?_
    refine wU [5, 6] ?_
    refine wAdd r_40 1 ?_
    refine wY (.pointer (some ⟨b_92, o_93 + ((r_40 + 1)).toNat * 7, none⟩)) rfl (fun w _ => Y_idx (a := a_5) (i := (r_40 + 1)) (len := (0 + nl)) (cap := cap_6) rfl Tryz.runUnderlying26 Tryz.sizeOf43 (by kernel_rfl) (by kernel_rfl) hq_96) ?_
    refine wU [10, 11] ?_
    refine wY (.pointer (some ⟨b_99, o_100 + (r_40).toNat * 7, none⟩)) rfl (fun w _ => Y_idx (a := a_5) (i := r_40) (len := (0 + nl)) (cap := cap_6) rfl Tryz.runUnderlying26 Tryz.sizeOf43 (by kernel_rfl) (by kernel_rfl) hq_103) ?_
    refine wY (.agg (encEvt x_91).toArray) rfl (fun w hF => Y_loadF rfl (Tryz.isAgg43 w) (Tryz.sizeOf43 w) (by kernel_rfl) rfl ⟨hF 0 _ _ rfl, hF 1 _ _ rfl, hF 2 _ _ rfl, hF 3 _ _ rfl, hF 4 _ _ rfl, hF 5 _ _ rfl, hF 6 _ _ rfl, trivial⟩) ?_
    refine wY (.agg (encEvt x_98).toArray) rfl (fun w hF => Y_loadF rfl (Tryz.isAgg43 w) (Tryz.sizeOf43 w) (by kernel_rfl) rfl ⟨hF 7 _ _ rfl, hF 8 _ _ rfl, hF 9 _ _ rfl, hF 10 _ _ rfl, hF 11 _ _ rfl, hF 12 _ _ rfl, hF 13 _ _ rfl, trivial⟩) ?_
    refine wY (.pointer (some ⟨b_99, o_100 + (r_40).toNat * 7, none⟩)) rfl (fun w _ => Y_idx (a := a_5) (i := r_40) (len := (0 + nl)) (cap := cap_6) rfl Tryz.runUnderlying26 Tryz.sizeOf43 (by kernel_rfl) (by kernel_rfl) hq_103) ?_
    refine wO rfl ?_
    refine sStF hS_105 hO_9 ha_104 1 (r_40).toNat 0 x_98 x_91 hx_101 (.agg (encEvt x_91).toArray) (encEvt x_91) Tryz.sizeOf43 ?_
    intro w_106 c_108 hO_109 hS_107
    refine nilO ⟨⟨.inl (by kernel_rfl), .inl (by kernel_rfl), .inl (by kernel_rfl), .inl (by kernel_rfl), .inl (by kernel_rfl), .inl (by kernel_rfl), .inl (by kernel_rfl), .inl (by kernel_rfl), .inl (by kernel_rfl), .inl (by kernel_rfl), .inl (by kernel_rfl), .inl (by kernel_rfl), .inl (by kernel_rfl), .inl (by kernel_rfl), trivial⟩, ?_⟩
    refine wY (.pointer (some ⟨b_92, o_93 + ((r_40 + 1)).toNat * 7, none⟩)) rfl (fun w _ => Y_idx (a := a_5) (i := (r_40 + 1)) (len := (0 + nl)) (cap := cap_6) rfl Tryz.runUnderlying26 Tryz.sizeOf43 (by kernel_rfl) (by kernel_rfl) hq_96) ?_
    refine wO rfl ?_
    have hx_110 : (([] ++ l).set ((r_40).toNat) x_91)[((r_40 + 1)).toNat]? = some x_91 := by rw [List.getElem?_set, if_neg (by omega)]; exact hx_94
    refine sStF hS_107 hO_109 ha_97 1 ((r_40 + 1)).toNat 0 x_91 x_98 hx_110 (.agg (encEvt x_98).toArray) (encEvt x_98) Tryz.sizeOf43 ?_
    intro w_111 c_113 hO_114 hS_112
    refine nilO ⟨⟨.inl (by kernel_rfl), .inl (by kernel_rfl), .inl (by kernel_rfl), .inl (by kernel_rfl), .inl (by kernel_rfl), .inl (by kernel_rfl), .inl (by kernel_rfl), .inl (by kernel_rfl), .inl (by kernel_rfl), .inl (by kernel_rfl), .inl (by kernel_rfl), .inl (by kernel_rfl), .inl (by kernel_rfl), .inl (by kernel_rfl), trivial⟩, ?_⟩
    refine wN ?_
    refine blockK_n <| thenK_n <| seqE <| regionE <| pu2 <| nilO <| thenK_n <| retE <| retT [.slice a_5 (0 + nl) cap_6] <| ?_
    have hzl_ : ((([] ++ l).set ((r_40).toNat) x_91).set (((r_40 + 1)).toNat) x_98).length ≤ l.length + 1 := by simp only [List.length_append, List.length_set, List.length_take, List.length_drop, List.length_cons, List.length_nil]; omega
    exact ⟨_, _, _, _, _, rfl, hO_114, hzl_, _, by omega, hS_112⟩
  refine seqE <| regionE <| pu2 <| nilO <| thenK_n <| ?_
  refine cE r_47 3 (fun hc_115 => ?_) (fun hc_115 => ?_)
  · refine regionE <| pu3 ?_
    refine cX Tryz.call12 (tape_next (RdT.flat (hR.up 1 (by rfl))) (by omega) (Sat.flat1 hS_51) 16 (by omega)) ?_
    rintro _ w_116 ⟨r_118, rfl, hr_119, i_120, hi_121, hS_117⟩
    have hS_122 := Sat.unflat1 hS_117
    refine sSub r_118 1 ?_
    refine sIdxO hO_9 r_40 (r_40).toNat Tryz.runUnderlying26 Tryz.sizeOf43 ?_
    intro x_123 b_124 o_125 hx_126 hp_127 hq_128
    refine pu1 ?_
    refine sStF hS_122 hO_9 hq_128 1 (r_40).toNat 0 x_123 (⟨(r_118 - 1), x_123.worker, x_123.from_, x_123.job, x_123.refJob, x_123.refTask, x_123.err⟩ : Evt) hx_126 (.int .i64 (r_118 - 1)) [.int .i64 (r_118 - 1)] Tryz.sizeOf3 ?_
    intro w_129 c_131 hO_132 hS_130
    refine nilO <| blockK_n <| thenK_n <| seqE <| regionE <| pu2 <| nilO <| thenK_n <| retE <| retT [.slice a_5 (0 + nl) cap_6] <| ?_
    have hzl_ : (([] ++ l).set ((r_40).toNat) (⟨(r_118 - 1), x_123.worker, x_123.from_, x_123.job, x_123.refJob, x_123.refTask, x_123.err⟩ : Evt)).length ≤ l.length + 1 := by simp only [List.length_append, List.length_set, List.length_take, List.length_drop, List.length_cons, List.length_nil]; omega
    exact ⟨_, _, _, _, _, rfl, hO_132, hzl_, _, by omega, hS_130⟩
  refine seqE <| regionE <| pu2 <| nilO <| thenK_n <| ?_
  refine cE r_47 4 (fun hc_133 => ?_) (fun hc_133 => ?_)
  · refine regionE <| pu3 ?_
    refine cX Tryz.call12 (tape_next (RdT.flat (hR.up 1 (by rfl))) (by omega) (Sat.flat1 hS_51) 6 (by omega)) ?_
    rintro _ w_134 ⟨r_136, rfl, hr_137, i_138, hi_139, hS_135⟩
    have hS_140 := Sat.unflat1 hS_135
    refine sSub r_136 1 ?_
    refine sIdxO hO_9 r_40 (r_40).toNat Tryz.runUnderlying26 Tryz.sizeOf43 ?_
    intro x_141 b_142 o_143 hx_144 hp_145 hq_146
    refine pu1 ?_
    refine sStF hS_140 hO_9 hq_146 1 (r_40).toNat 1 x_141 (⟨x_141.kind, (r_136 - 1), x_141.from_, x_141.job, x_141.refJob, x_141.refTask, x_141.err⟩ : Evt) hx_144 (.int .i64 (r_136 - 1)) [.int .i64 (r_136 - 1)] Tryz.sizeOf3 ?_
    intro w_147 c_149 hO_150 hS_148
    refine nilO <| blockK_n <| thenK_n <| seqE <| regionE <| pu2 <| nilO <| thenK_n <| retE <| retT [.slice a_5 (0 + nl) cap_6] <| ?_
    have hzl_ : (([] ++ l).set ((r_40).toNat) (⟨x_141.kind, (r_136 - 1), x_141.from_, x_141.job, x_141.refJob, x_141.refTask, x_141.err⟩ : Evt)).length ≤ l.length + 1 := by simp only [List.length_append, List.length_set, List.length_take, List.length_drop, List.length_cons, List.length_nil]; omega
    exact ⟨_, _, _, _, _, rfl, hO_150, hzl_, _, by omega, hS_148⟩
  refine seqE <| regionE <| pu2 <| nilO <| thenK_n <| ?_
  refine cE r_47 5 (fun hc_151 => ?_) (fun hc_151 => ?_)
  · refine regionE <| pu3 ?_
    refine cX Tryz.call12 (tape_next (RdT.flat (hR.up 1 (by rfl))) (by omega) (Sat.flat1 hS_51) 4 (by omega)) ?_
    rintro _ w_152 ⟨r_154, rfl, hr_155, i_156, hi_157, hS_153⟩
    have hS_158 := Sat.unflat1 hS_153
    refine sSub r_154 1 ?_
    refine pu1 ?_
    refine cX Tryz.call12 (tape_next (RdT.flat (hR.up 1 (by rfl))) (by omega) (Sat.flat1 hS_158) 6 (by omega)) ?_
    rintro _ w_159 ⟨r_161, rfl, hr_162, i_163, hi_164, hS_160⟩
    have hS_165 := Sat.unflat1 hS_160
    refine sSub r_161 1 ?_
    refine pu1 ?_
    refine sIdxO hO_9 r_40 (r_40).toNat Tryz.runUnderlying26 Tryz.sizeOf43 ?_
    intro x_166 b_167 o_168 hx_169 hp_170 hq_171
    refine pu1 ?_
    refine sStF hS_165 hO_9 hq_171 1 (r_40).toNat 4 x_166 (⟨x_166.kind, x_166.worker, x_166.from_, x_166.job, (r_154 - 1), (r_161 - 1), x_166.err⟩ : Evt) hx_169 (.agg #[.int .i64 (r_154 - 1), .int .i64 (r_161 - 1)]) [.int .i64 (r_154 - 1), .int .i64 (r_161 - 1)] Tryz.sizeOf40 ?_
    intro w_172 c_174 hO_175 hS_173
    refine nilO <| blockK_n <| thenK_n <| seqE <| regionE <| pu2 <| nilO <| thenK_n <| retE <| retT [.slice a_5 (0 + nl) cap_6] <| ?_
    have hzl_ : (([] ++ l).set ((r_40).toNat) (⟨x_166.kind, x_166.worker, x_166.from_, x_166.job, (r_154 - 1), (r_161 - 1), x_166.err⟩ : Evt)).length ≤ l.length + 1 := by simp only [List.length_append, List.length_set, List.length_take, List.length_drop, List.length_cons, List.length_nil]; omega
    exact ⟨_, _, _, _, _, rfl, hO_175, hzl_, _, by omega, hS_173⟩
  refine seqE <| regionE <| pu2 <| nilO <| thenK_n <| ?_
  refine cE r_47 6 (fun hc_176 => ?_) (fun hc_176 => ?_)
  · refine regionE <| pu3 ?_
    refine cX Tryz.call12 (tape_next (RdT.flat (hR.up 1 (by rfl))) (by omega) (Sat.flat1 hS_51) 5 (by omega)) ?_
    rintro _ w_177 ⟨r_179, rfl, hr_180, i_181, hi_182, hS_178⟩
    have hS_183 := Sat.unflat1 hS_178
    refine sSub r_179 1 ?_
    refine sIdxO hO_9 r_40 (r_40).toNat Tryz.runUnderlying26 Tryz.sizeOf43 ?_
    intro x_184 b_185 o_186 hx_187 hp_188 hq_189
    refine pu1 ?_
    refine sStF hS_183 hO_9 hq_189 1 (r_40).toNat 2 x_184 (⟨x_184.kind, x_184.worker, (r_179 - 1), x_184.job, x_184.refJob, x_184.refTask, x_184.err⟩ : Evt) hx_187 (.int .i64 (r_179 - 1)) [.int .i64 (r_179 - 1)] Tryz.sizeOf3 ?_
    intro w_190 c_192 hO_193 hS_191
    refine nilO <| blockK_n <| thenK_n <| seqE <| regionE <| pu2 <| nilO <| thenK_n <| retE <| retT [.slice a_5 (0 + nl) cap_6] <| ?_
    have hzl_ : (([] ++ l).set ((r_40).toNat) (⟨x_184.kind, x_184.worker, (r_179 - 1), x_184.job, x_184.refJob, x_184.refTask, x_184.err⟩ : Evt)).length ≤ l.length + 1 := by simp only [List.length_append, List.length_set, List.length_take, List.length_drop, List.length_cons, List.length_nil]; omega
    exact ⟨_, _, _, _, _, rfl, hO_193, hzl_, _, by omega, hS_191⟩
  refine seqE <| regionE <| pu2 <| nilO <| thenK_n <| ?_
  refine cE r_47 7 (fun hc_194 => ?_) (fun hc_194 => ?_)
  rotate_left
  · refine regionE <| pu3 ?_
    refine cX Tryz.call12 (tape_next (RdT.flat (hR.up 1 (by rfl))) (by omega) (Sat.flat1 hS_51) 3 (by omega)) ?_
    rintro _ w_212 ⟨r_214, rfl, hr_215, i_216, hi_217, hS_213⟩
    have hS_218 := Sat.unflat1 hS_213
    refine sIdxO hO_9 r_40 (r_40).toNat Tryz.runUnderlying26 Tryz.sizeOf43 ?_
    intro x_219 b_220 o_221 hx_222 hp_223 hq_224
    refine pu1 ?_
    refine sStF hS_218 hO_9 hq_224 1 (r_40).toNat 6 x_219 (⟨x_219.kind, x_219.worker, x_219.from_, x_219.job, x_219.refJob, x_219.refTask, r_214⟩ : Evt) hx_222 (.int .i64 r_214) [.int .i64 r_214] Tryz.sizeOf41 ?_
    intro w_225 c_227 hO_228 hS_226
    refine nilO <| blockK_n <| thenK_n <| seqE <| regionE <| pu2 <| nilO <| thenK_n <| retE <| retT [.slice a_5 (0 + nl) cap_6] <| ?_
    have hzl_ : (([] ++ l).set ((r_40).toNat) (⟨x_219.kind, x_219.worker, x_219.from_, x_219.job, x_219.refJob, x_219.refTask, r_214⟩ : Evt)).length ≤ l.length + 1 := by simp only [List.length_append, List.length_set, List.length_take, List.length_drop, List.length_cons, List.length_nil]; omega
    exact ⟨_, _, _, _, _, rfl, hO_228, hzl_, _, by omega, hS_226⟩
  refine regionE <| pu3 ?_
  refine cX Tryz.call12 (tape_next (RdT.flat (hR.up 1 (by rfl))) (by omega) (Sat.flat1 hS_51) 5 (by omega)) ?_
  rintro _ w_195 ⟨r_197, rfl, hr_198, i_199, hi_200, hS_196⟩
  have hS_201 := Sat.unflat1 hS_196
  refine sSub r_197 1 ?_
  refine sIdxO hO_9 r_40 (r_40).toNat Tryz.runUnderlying26 Tryz.sizeOf43 ?_
  intro x_202 b_203 o_204 hx_205 hp_206 hq_207
  refine pu1 ?_
  refine sStF hS_201 hO_9 hq_207 1 (r_40).toNat 3 x_202 (⟨x_202.kind, x_202.worker, x_202.from_, (r_197 - 1), x_202.refJob, x_202.refTask, x_202.err⟩ : Evt) hx_205 (.int .i64 (r_197 - 1)) [.int .i64 (r_197 - 1)] Tryz.sizeOf3 ?_
  intro w_208 c_210 hO_211 hS_209
  refine nilO <| blockK_n <| thenK_n <| seqE <| regionE <| pu2 <| nilO <| thenK_n <| retE <| retT [.slice a_5 (0 + nl) cap_6] <| ?_
  have hzl_ : (([] ++ l).set ((r_40).toNat) (⟨x_202.kind, x_202.worker, x_202.from_, (r_197 - 1), x_202.refJob, x_202.refTask, x_202.err⟩ : Evt)).length ≤ l.length + 1 := by simp only [List.length_append, List.length_set, List.length_take, List.length_drop, List.length_cons, List.length_nil]; omega
  exact ⟨_, _, _, _, _, rfl, hO_211, hzl_, _, by omega, hS_209⟩
end Go.Proofs.YtimkhljglpookaaGreat
