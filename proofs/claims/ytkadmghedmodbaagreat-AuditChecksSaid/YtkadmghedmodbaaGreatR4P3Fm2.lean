import Derived.Test.YtkadmghedmodbaaGreatR4P3Iq
set_option linter.all false
namespace Go.Proofs.YtkadmghedmodbaaGreat
open Go Go.E
set_option linter.unusedVariables false
set_option linter.unusedSimpArgs false
set_option linter.unnecessarySimpa false
set_option maxRecDepth 100000
set_option maxHeartbeats 2000000
variable {W w : World} {H : Chunk} {F : List Chunk}
theorem f_micro {p : Nat} {F : FS} {M : Chunk} {F0 : List Chunk} (hR : FarmR p F M) {j : JS} {K : Int} {v0 : Wkr} (x : Int) (hx : 0 ≤ x ∧ x < F.ws.length) (hal_ : F.ar.length = F.ws.length) (hdl_ : F.dq.length = F.ws.length) (hv0 : F.ws[x.toNat]? = some v0) (hr : 0 ≤ v0.heldJob ∧ v0.heldJob < 64) (hj : F.jobs[v0.heldJob.toNat]? = some j) (ha : j.added = true) (hBW : BWf j.B K) (hrt : 0 ≤ v0.heldTask ∧ v0.heldTask < j.tasks.length) (htl : j.tasks.length ≤ 4096 ∧ j.B.deps.length = j.tasks.length) (hbd : 0 ≤ j.band ∧ j.band < 4) (hrow : 0 ≤ v0.row ∧ v0.row ≤ 4096) (hst : 0 ≤ F.st.commits ∧ F.st.commits < 4611686018427387904 ∧ 0 ≤ F.st.spills ∧ F.st.spills < 4611686018427387904) (hS : Sat W w (M :: H :: F0)) :
    Calls Tryz.prog 81 #[.pointer (some ⟨p, 0, none⟩), .int .i64 x] w fun e w' => ∃ M' : Chunk, e = .returned (.agg (encEvt (microF F x).2).toArray) ∧ FarmR p ((microF F x).1) M' ∧ Sat W w' (M' :: H :: F0) := by
  obtain ⟨wa, aa, da, wn, wk, an, ak, dn, dk, q, xs, ap, dp, Wc, Ac, Dc, Qc, acs, dcs, jcs, rfl, hOw, hOa, hOd, hAs, hDs, hQ, hJs, hxl⟩ := hR
  have hS : Sat W _ ((Tri p 101 (preF F.cfg wa wn wk aa an ak da dn dk q) (xs.flatMap encFJob) (encStt F.st)) :: Wc :: Ac :: Dc :: acs.flatten :: dcs.flatten :: Qc :: jcs.flatten :: H :: F0) := Sat.perm hS (by simp [Value.cells])
  have hwl := hOw.len; have hwk := hOw.le; have hal := hOa.len; have hak := hOa.le; have hdl := hOd.len; have hdk := hOd.le; have has1 := hAs.1; have hds1 := hDs.1; have hjs1 := hJs.1
  obtain ⟨x_1, hx_2⟩ := at_some hxl (k := (v0.heldJob.toNat)) (by omega)
  obtain ⟨s_3, c_4, hs_5, hc_6, hJ_7⟩ := Obs.get hJs hx_2
  obtain rfl : s_3 = j := Option.some.inj (hs_5.symm.trans hj)
  obtain ⟨ta_7, tn_7, tk_7, tl_7, b_7, T_7, Mb_7, rfl, rfl, hT_7, hD_7, hV_7, hB_7⟩ := hJ_7.open ha
  have hS_8 := (hS.pick 7 rfl)
  have hS_9 := Sat.openN (A := []) (v0.heldJob.toNat) hc_6 hS_8
  have hS_10 : Sat W _ (T_7 :: Mb_7 :: (jcs.eraseIdx (v0.heldJob.toNat)).flatten :: (Tri p 101 (preF F.cfg wa wn wk aa an ak da dn dk q) (xs.flatMap encFJob) (encStt F.st)) :: Wc :: Ac :: Dc :: acs.flatten :: dcs.flatten :: Qc :: H :: F0) := Sat.perm hS_9 (by simp [Value.cells])
  have hn_ta_7 := hT_7.len; have hl_ta_7 := hT_7.le; have hm_ta_7 := congrArg List.length hV_7; rw [List.length_map] at hm_ta_7
  have hv00 := hv0
  refine callsA 211 Tryz.func81 rfl ?_
  refine seqE <| regionE ?_
  refine sAlloc hS_10 Tryz.zeroValue63 ?_
  intro b_11 w_12 hS_13
  refine nilO <| thenK_n <| seqE <| regionE <| pu3 ?_
  refine sLp hS_13 (ptr_up 4 rfl tri_pre) 8 (.slice wa wn wk) (Tryz.isAgg92 _) ?_
  refine pu1 ?_
  refine sIdxO hOw x (x).toNat Tryz.runUnderlying92 Tryz.sizeOf129 ?_
  intro x_14 b_15 o_16 hx_17 hp_18 hq_19
  obtain rfl : v0 = x_14 := Option.some.inj (hv0.symm.trans hx_17)
  refine pu1 <| nilO <| thenK_n <| seqE ?_
  refine drawF hS_13 [] (fq 5 1 (hp_18.up 5 rfl) <| fn) [0, 1, 2, 3, 4, 6, 7, 5, 8, 9] fun _ hS_20 => ?_
  refine wV 7 ?_
  refine wL 0 ?_
  refine wY (.pointer (some ⟨p, 12 + (v0.heldJob.toNat) * 5, none⟩)) rfl (fun w _ => Y_idxA (b := p) (off := 12) v0.heldJob (v0.heldJob.toNat) Tryz.runUnderlying99 Tryz.sizeOf98) ?_
  refine wV 1 ?_
  refine wN ?_
  refine thenK_n <| seqE ?_
  obtain ⟨x_21, b_22, o_23, hx_24, hp_25, hq_26⟩ := RdT.elem hT_7 v0.heldTask
  refine drawE [11, 12] [(3, ⟨p, 12 + (v0.heldJob.toNat) * 5 + 3, none⟩, .slice ta_7 tn_7 tk_7), (8, ⟨b_15, o_16 + (x).toNat * 7 + 1 + 1, none⟩, .int .i64 v0.heldTask), (10, ⟨b_22, o_23 + 0, none⟩, .int .i64 x_21.stage), (10, ⟨b_22, o_23 + 1, none⟩, .int .i64 x_21.part), (10, ⟨b_22, o_23 + 2, none⟩, .int .i64 x_21.rectX0), (10, ⟨b_22, o_23 + 3, none⟩, .int .i64 x_21.rectY0), (10, ⟨b_22, o_23 + 4, none⟩, .int .i64 x_21.rectX1), (10, ⟨b_22, o_23 + 5, none⟩, .int .i64 x_21.rectY1), (10, ⟨b_22, o_23 + 6, none⟩, .slice x_21.deps.a x_21.deps.n x_21.deps.k), (10, ⟨b_22, o_23 + 7, none⟩, .int .i64 x_21.rows), (10, ⟨b_22, o_23 + 8, none⟩, .int .i64 x_21.scratch)] [(true, [0, 1, 2, 4, 5, 6, 7]), (true, [3]), (true, [8]), (true, [9]), (true, [10]), (false, [11]), (false, [12])] rfl (by kernel_rfl) ⟨.inr (cell_up hS_20 4 rfl (k := 3) (tri_el (sz := 5) (n0 := 12) (fun _ => rfl) hx_2) rfl), .inr ((hp_18.up 5 rfl).cell hS_20 (k := 2) rfl), .inr ((hp_25.up 1 rfl).cell hS_20 (k := 0) rfl), .inr ((hp_25.up 1 rfl).cell hS_20 (k := 1) rfl), .inr ((hp_25.up 1 rfl).cell hS_20 (k := 2) rfl), .inr ((hp_25.up 1 rfl).cell hS_20 (k := 3) rfl), .inr ((hp_25.up 1 rfl).cell hS_20 (k := 4) rfl), .inr ((hp_25.up 1 rfl).cell hS_20 (k := 5) rfl), .inr ((hp_25.up 1 rfl).cell hS_20 (k := 6) rfl), .inr ((hp_25.up 1 rfl).cell hS_20 (k := 7) rfl), .inr ((hp_25.up 1 rfl).cell hS_20 (k := 8) rfl), trivial⟩ ?_
  have hS_27 := hS_20.drew
  refine wU [0, 1, 2, 4, 5, 6, 7] ?_
  refine wLd (.slice ta_7 tn_7 tk_7) 0 Tryz.isAgg45 ?_
  refine wLd (.int .i64 v0.heldTask) 1 Tryz.isAgg3 ?_
  refine wI hq_26 ?_
  refine wY (.agg (encTask x_21).toArray) rfl (fun w hF => Y_loadF rfl (Tryz.isAgg51 w) (Tryz.sizeOf51 w) (by kernel_rfl) rfl ⟨hF 2 _ _ rfl, hF 3 _ _ rfl, hF 4 _ _ rfl, hF 5 _ _ rfl, hF 6 _ _ rfl, hF 7 _ _ rfl, hF 8 _ _ rfl, hF 9 _ _ rfl, hF 10 _ _ rfl, trivial⟩) ?_
  refine wO rfl ?_
  refine sAlloc hS_27 Tryz.zeroValue51 ?_
  intro b_28 w_29 hS_30
  refine nilO ⟨⟨.inr (cell_up hS_30 5 rfl (k := 3) (tri_el (sz := 5) (n0 := 12) (fun _ => rfl) hx_2) rfl), .inr ((hp_18.up 6 rfl).cell hS_30 (k := 2) rfl), .inr ((hp_25.up 2 rfl).cell hS_30 (k := 0) rfl), .inr ((hp_25.up 2 rfl).cell hS_30 (k := 1) rfl), .inr ((hp_25.up 2 rfl).cell hS_30 (k := 2) rfl), .inr ((hp_25.up 2 rfl).cell hS_30 (k := 3) rfl), .inr ((hp_25.up 2 rfl).cell hS_30 (k := 4) rfl), .inr ((hp_25.up 2 rfl).cell hS_30 (k := 5) rfl), .inr ((hp_25.up 2 rfl).cell hS_30 (k := 6) rfl), .inr ((hp_25.up 2 rfl).cell hS_30 (k := 7) rfl), .inr ((hp_25.up 2 rfl).cell hS_30 (k := 8) rfl), trivial⟩, ?_⟩
  refine wO rfl ?_
  refine sT hS_30 0 0 (.agg (encTask x_21).toArray) (encTask x_21) (encTask x_21).toArray Tryz.sizeOf51 ?_
  intro w_31 hS_32
  refine nilO ⟨⟨.inl (by kernel_rfl), .inl (by kernel_rfl), .inl (by kernel_rfl), .inl (by kernel_rfl), .inl (by kernel_rfl), .inl (by kernel_rfl), .inl (by kernel_rfl), .inl (by kernel_rfl), .inl (by kernel_rfl), .inl (by kernel_rfl), .inl (by kernel_rfl), trivial⟩, ?_⟩
  refine wN ?_
  refine thenK_n <| seqE <| seqE <| regionE <| pu3 ?_
  refine sLp hS_32 (hp_18.up 6 rfl) 0 (.int .i64 v0.phase) (Tryz.isAgg3 _) ?_
  refine nilO <| thenK_n <| blockE <| seqE <| regionE <| pu2 <| nilO <| thenK_n <| ?_
  refine cE v0.phase 1 (fun hc_33 => ?_) (fun hc_33 => ?_)
  · refine seqE <| regionE <| pu3 ?_
    refine sLp hS_32 (ptr_up 5 rfl tri_pre) 9 (.slice aa an ak) (Tryz.isAgg93 _) ?_
    refine pu1 ?_
    refine sIdxO hOa x (x).toNat Tryz.runUnderlying93 Tryz.sizeOf102 ?_
    intro x_34 b_35 o_36 hx_37 hp_38 hq_39
    refine sLp hS_32 (hp_38.up 7 rfl) 0 (.pointer (some ⟨x_34, 0, none⟩)) (Tryz.isAgg102 _) ?_
    obtain ⟨s_40, c_41, hs_42, hc_43, hR_44⟩ := Obs.get hAs hx_37
    have hS_46 := (hS_32.pick 9 rfl)
    have hS_45 := Sat.openN (A := []) x.toNat hc_43 hS_46
    refine cX Tryz.call129 (ar_mark hR_44  (Sat.flat1 hS_45)) ?_
    rintro _ w_47 ⟨M_50, rfl, hR_51, hS_48⟩
    have hS_49 := Sat.unflat1 hS_48
    have hS_52 := (hS_49.picks [1, 1])
    have hS_53 := Sat.shutN (d := M_50) (A := []) x.toNat hc_43 hS_52
    have hL_54 := Obs.set hAs hx_37 hR_51
    refine nilO <| thenK_n <| seqE <| seqE <| regionE <| pu1 ?_
    refine sL hS_53 1 8 (.int .i64 x_21.scratch) (Tryz.isAgg3 _) ?_
    refine pu1 <| nilO <| thenK_n <| ?_
    refine cD (x_21.scratch > 0) (fun hc_55 => ?_) (fun hc_55 => ?_)
    rotate_left
    · refine skipE <| thenK_n <| seqE ?_
      obtain ⟨x_133, b_134, o_135, hx_136, hp_137, hq_138, ha_139⟩ := OwnT.elem hOa x
      obtain rfl : x_34 = x_133 := Option.some.inj (hx_37.symm.trans hx_136)
      refine drawE [10, 18, 21, 24, 27] [(6, ⟨p, 9, none⟩, .slice aa an ak), (9, ⟨b_134, o_135 + (x).toNat * 1, none⟩, .pointer (some ⟨x_34, 0, none⟩)), (14, ⟨p, 9, none⟩, .slice aa an ak), (17, ⟨b_134, o_135 + (x).toNat * 1, none⟩, .pointer (some ⟨x_34, 0, none⟩))] [(true, [0, 1, 2, 3, 4, 5, 7, 11, 12, 13, 15]), (true, [6]), (true, [8]), (true, [9]), (true, [14]), (true, [16]), (true, [17]), (false, [10]), (false, [18]), (true, [19, 20]), (false, [21]), (true, [22, 23]), (false, [24]), (true, [25, 26]), (false, [27])] rfl (by kernel_rfl) ⟨.inr (cell_up hS_53 6 rfl (k := 9) tri_pre rfl), .inr ((hp_137.up 8 rfl).cell hS_53 (k := 0) rfl), .inr (cell_up hS_53 6 rfl (k := 9) tri_pre rfl), .inr ((hp_137.up 8 rfl).cell hS_53 (k := 0) rfl), trivial⟩ ?_
      have hS_140 := hS_53.drew
      refine wU [0, 1, 2, 3, 4, 5, 7, 11, 12, 13, 15] ?_
      refine wLd (.slice aa an ak) 0 Tryz.isAgg93 ?_
      refine wI hq_138 ?_
      refine wLd (.pointer (some ⟨x_34, 0, none⟩)) 1 Tryz.isAgg102 ?_
      refine wLd (.slice aa an ak) 2 Tryz.isAgg93 ?_
      refine wI hq_138 ?_
      refine wLd (.pointer (some ⟨x_34, 0, none⟩)) 3 Tryz.isAgg102 ?_
      refine wO rfl ?_
      have hS_146 := Sat.openN (A := []) x.toNat (set_at hc_43) hS_140
      refine cX Tryz.call131 (ar_used hR_51  (Sat.flat1 hS_146)) ?_
      rintro _ w_147 ⟨rfl, hS_148⟩
      have hS_149 := Sat.unflat1 hS_148
      have hS_150 := (hS_149.picks [1, 1])
      have hS_151 := Sat.shutN (d := M_50) (A := []) x.toNat (set_at hc_43) hS_150
      rw [set_same (set_at hc_43)] at hS_151
      refine nilO ⟨⟨.inr (cell_up hS_151 6 rfl (k := 9) tri_pre rfl), .inl (by kernel_rfl), .inr (cell_up hS_151 6 rfl (k := 9) tri_pre rfl), .inr ((hp_137.up 8 rfl).cell hS_151 (k := 0) rfl), trivial⟩, ?_⟩
      refine wO rfl ?_
      have hS_157 := Sat.openN (A := []) x.toNat (set_at hc_43) hS_151
      refine cX Tryz.call115 (ar_high hR_51  (Sat.flat1 hS_157)) ?_
      rintro _ w_158 ⟨rfl, hS_159⟩
      have hS_160 := Sat.unflat1 hS_159
      have hS_161 := (hS_160.picks [1, 1])
      have hS_162 := Sat.shutN (d := M_50) (A := []) x.toNat (set_at hc_43) hS_161
      rw [set_same (set_at hc_43)] at hS_162
      refine nilO ⟨⟨.inr (cell_up hS_162 6 rfl (k := 9) tri_pre rfl), .inl (by kernel_rfl), .inr (cell_up hS_162 6 rfl (k := 9) tri_pre rfl), .inl (by kernel_rfl), trivial⟩, ?_⟩
      refine wU [19, 20] ?_
      refine wO rfl ?_
      refine sStF hS_162 hOw hq_19 7 (x).toNat 0 v0 (⟨2, v0.heldJob, v0.heldTask, v0.attempt, v0.row, v0.used, v0.high⟩ : Wkr) hx_17 (.int .i64 2) [.int .i64 2] Tryz.sizeOf3 ?_
      intro w_163 c_165 hO_166 hS_164
      refine nilO ⟨⟨.inl (by kernel_rfl), .inl (by kernel_rfl), .inl (by kernel_rfl), .inl (by kernel_rfl), trivial⟩, ?_⟩
      refine wU [22, 23] ?_
      refine wO rfl ?_
      have hx_167 := set_at (y := (⟨2, v0.heldJob, v0.heldTask, v0.attempt, v0.row, v0.used, v0.high⟩ : Wkr)) hx_17
      have hp_168 := OwnT.ptr hO_166 hq_19 hx_167
      refine sStF hS_164 hO_166 hq_19 7 (x).toNat 5 (⟨2, v0.heldJob, v0.heldTask, v0.attempt, v0.row, v0.used, v0.high⟩ : Wkr) (⟨2, v0.heldJob, v0.heldTask, v0.attempt, v0.row, ((markA s_40)).used, v0.high⟩ : Wkr) hx_167 (.int .i64 (((markA s_40)).used)) [.int .i64 (((markA s_40)).used)] Tryz.sizeOf3 ?_
      intro w_169 c_171 hO_172 hS_170
      rw [List.set_set] at hO_172
      refine nilO ⟨⟨.inl (by kernel_rfl), .inl (by kernel_rfl), .inl (by kernel_rfl), .inl (by kernel_rfl), trivial⟩, ?_⟩
      refine wU [25, 26] ?_
      refine wO rfl ?_
      have hx_173 := set_at (y := (⟨2, v0.heldJob, v0.heldTask, v0.attempt, v0.row, ((markA s_40)).used, v0.high⟩ : Wkr)) hx_17
      have hp_174 := OwnT.ptr hO_172 hq_19 hx_173
      refine sStF hS_170 hO_172 hq_19 7 (x).toNat 6 (⟨2, v0.heldJob, v0.heldTask, v0.attempt, v0.row, ((markA s_40)).used, v0.high⟩ : Wkr) (⟨2, v0.heldJob, v0.heldTask, v0.attempt, v0.row, ((markA s_40)).used, ((markA s_40)).high⟩ : Wkr) hx_173 (.int .i64 (((markA s_40)).high)) [.int .i64 (((markA s_40)).high)] Tryz.sizeOf3 ?_
      intro w_175 c_177 hO_178 hS_176
      rw [List.set_set] at hO_178
      refine nilO ⟨⟨.inl (by kernel_rfl), .inl (by kernel_rfl), .inl (by kernel_rfl), .inl (by kernel_rfl), trivial⟩, ?_⟩
      refine wN ?_
      refine thenK_n <| seqE <| regionE <| pu2 ?_
      refine sT hS_176 2 0 (.agg #[.int .i64 6, .int .i64 x, .int .i64 0, .int .i64 0, .int .i64 0, .int .i64 0, .int .i64 0]) [.int .i64 6, .int .i64 x, .int .i64 0, .int .i64 0, .int .i64 0, .int .i64 0, .int .i64 0] #[.int .i64 6, .int .i64 x, .int .i64 0, .int .i64 0, .int .i64 0, .int .i64 0, .int .i64 0] Tryz.sizeOf63 ?_
      intro w_179 hS_180
      refine nilO <| thenK_n <| retE <| blockK_r <| thenK_r <| retN (vs := [.agg #[.int .i64 6, .int .i64 x, .int .i64 0, .int .i64 0, .int .i64 0, .int .i64 0, .int .i64 0]]) rfl (.cons (.cell _ _ _ _ (by kernel_rfl) (lvA hS_180 2 0 [.int .i64 6, .int .i64 x, .int .i64 0, .int .i64 0, .int .i64 0, .int .i64 0, .int .i64 0] (Tryz.isAgg63 _) (Tryz.sizeOf63 _) rfl rfl rfl)) .nil) <| ?_
      have htk : s_3.tasks[v0.heldTask.toNat]? = some x_21.v := by rw [← hV_7, List.getElem?_map, hx_24]; rfl
      have hS_181 := (hS_180.picks [5, 5, 5])
      have hS_182 : Sat W _ ((T_7 ++ Mb_7) :: (jcs.eraseIdx (v0.heldJob.toNat)).flatten :: (acs.set x.toNat M_50).flatten :: [(b_28, .cells (encTask x_21).toArray 51 (0, 0))] :: [(b_11, .cells #[.int .i64 6, .int .i64 x, .int .i64 0, .int .i64 0, .int .i64 0, .int .i64 0, .int .i64 0] 63 (0, 0))] :: (Tri p 101 (preF F.cfg wa wn wk aa an ak da dn dk q) (xs.flatMap encFJob) (encStt F.st)) :: c_177 :: Ac :: Dc :: dcs.flatten :: Qc :: H :: F0) := Sat.perm (show Sat W _ (T_7 :: Mb_7 :: (jcs.eraseIdx (v0.heldJob.toNat)).flatten :: (acs.set x.toNat M_50).flatten :: [(b_28, .cells (encTask x_21).toArray 51 (0, 0))] :: [(b_11, .cells #[.int .i64 6, .int .i64 x, .int .i64 0, .int .i64 0, .int .i64 0, .int .i64 0, .int .i64 0] 63 (0, 0))] :: (Tri p 101 (preF F.cfg wa wn wk aa an ak da dn dk q) (xs.flatMap encFJob) (encStt F.st)) :: c_177 :: Ac :: Dc :: dcs.flatten :: Qc :: H :: F0) from hS_181) (by simp [Value.cells])
      have hS_183 := Sat.shutN (d := T_7 ++ Mb_7) (A := []) (v0.heldJob.toNat) hc_6 hS_182
      have hL_184 := Obs.set hJs hx_2 (JobM.mk (s := s_3) ha hT_7 hD_7 hV_7 hB_7)
      have hjs_ := set_same hs_5
      have hS_185 := ((hS_183.picks [9, 9, 3, 9, 9, 9, 9]).drops [8, 8])
      have hS_186 := (hS_185.merge8)
      have he : (microF F x).1 = (⟨F.cfg, (F.ws.set ((x).toNat) (⟨2, v0.heldJob, v0.heldTask, v0.attempt, v0.row, ((markA s_40)).used, ((markA s_40)).high⟩ : Wkr)), (F.ar.set x.toNat (markA s_40)), F.dq, F.q, (F.jobs.set (v0.heldJob.toNat) s_3), F.st⟩ : FS) := by unfold microF jobAt; simp only [getD_some hv0, getD_some hs_5, getD_some htk, getD_some hs_42]; rw [if_pos (by omega)]; rw [hjs_]; rw [if_neg (show ¬ x_21.v.scratch > 0 from show ¬ x_21.scratch > 0 by omega)]
      exact ⟨_, by unfold microF; simp only [getD_some hv0]; rw [if_pos (by omega)]; rfl, by rw [he]; exact ⟨_, _, _, _, _, _, _, _, _, _, _, _, _, _, _, _, _, _, _, _, rfl, hO_178, hOa, hOd, hL_54, hDs, hQ, hL_184, hxl⟩, hS_186⟩
    obtain ⟨x_56, b_57, o_58, hx_59, hp_60, hq_61, ha_62⟩ := OwnT.elem hOa x
    obtain rfl : x_34 = x_56 := Option.some.inj (hx_37.symm.trans hx_59)
    refine drawE [9] [(3, ⟨p, 9, none⟩, .slice aa an ak), (6, ⟨b_57, o_58 + (x).toNat * 1, none⟩, .pointer (some ⟨x_34, 0, none⟩)), (8, ⟨b_28, 8, none⟩, .int .i64 x_21.scratch)] [(true, [0, 1, 2, 4, 7]), (true, [3]), (true, [5]), (true, [6]), (true, [8]), (false, [9])] rfl (by kernel_rfl) ⟨.inr (cell_up hS_53 6 rfl (k := 9) tri_pre rfl), .inr ((hp_60.up 8 rfl).cell hS_53 (k := 0) rfl), .inr (hS_53.cell 1 rfl rfl), trivial⟩ ?_
    have hS_63 := hS_53.drew
    refine wU [0, 1, 2, 4, 7] ?_
    refine wLd (.slice aa an ak) 0 Tryz.isAgg93 ?_
    refine wI hq_61 ?_
    refine wLd (.pointer (some ⟨x_34, 0, none⟩)) 1 Tryz.isAgg102 ?_
    refine wLd (.int .i64 x_21.scratch) 2 Tryz.isAgg3 ?_
    refine wO rfl ?_
    have hS_69 := Sat.openN (A := []) x.toNat (set_at hc_43) hS_63
    refine cX Tryz.call130 (ar_alloc hR_51 x_21.scratch 16 (Sat.flat1 hS_69)) ?_
    rintro _ w_70 ⟨M_73, v_75, rfl, hR_74, hS_71⟩
    have hS_72 := Sat.unflat1 hS_71
    have hS_76 := (hS_72.picks [1, 1])
    have hS_77 := Sat.shutN (d := M_73) (A := []) x.toNat (set_at hc_43) hS_76
    have hL_78 := Obs.set hL_54 hx_59 hR_74
    refine nilO ⟨⟨.inr (cell_up hS_77 6 rfl (k := 9) tri_pre rfl), .inl (by kernel_rfl), .inl (by kernel_rfl), trivial⟩, ?_⟩
    refine wN ?_
    refine thenK_n <| seqE ?_
    obtain ⟨x_79, b_80, o_81, hx_82, hp_83, hq_84, ha_85⟩ := OwnT.elem hOa x
    obtain rfl : x_34 = x_79 := Option.some.inj (hx_37.symm.trans hx_82)
    refine drawE [10, 18, 21, 24, 27] [(6, ⟨p, 9, none⟩, .slice aa an ak), (9, ⟨b_80, o_81 + (x).toNat * 1, none⟩, .pointer (some ⟨x_34, 0, none⟩)), (14, ⟨p, 9, none⟩, .slice aa an ak), (17, ⟨b_80, o_81 + (x).toNat * 1, none⟩, .pointer (some ⟨x_34, 0, none⟩))] [(true, [0, 1, 2, 3, 4, 5, 7, 11, 12, 13, 15]), (true, [6]), (true, [8]), (true, [9]), (true, [14]), (true, [16]), (true, [17]), (false, [10]), (false, [18]), (true, [19, 20]), (false, [21]), (true, [22, 23]), (false, [24]), (true, [25, 26]), (false, [27])] rfl (by kernel_rfl) ⟨.inr (cell_up hS_77 6 rfl (k := 9) tri_pre rfl), .inr ((hp_83.up 8 rfl).cell hS_77 (k := 0) rfl), .inr (cell_up hS_77 6 rfl (k := 9) tri_pre rfl), .inr ((hp_83.up 8 rfl).cell hS_77 (k := 0) rfl), trivial⟩ ?_
    have hS_86 := hS_77.drew
    refine wU [0, 1, 2, 3, 4, 5, 7, 11, 12, 13, 15] ?_
    refine wLd (.slice aa an ak) 0 Tryz.isAgg93 ?_
    refine wI hq_84 ?_
    refine wLd (.pointer (some ⟨x_34, 0, none⟩)) 1 Tryz.isAgg102 ?_
    refine wLd (.slice aa an ak) 2 Tryz.isAgg93 ?_
    refine wI hq_84 ?_
    refine wLd (.pointer (some ⟨x_34, 0, none⟩)) 3 Tryz.isAgg102 ?_
    refine wO rfl ?_
    have hS_92 := Sat.openN (A := []) x.toNat (set_at (set_at hc_43)) hS_86
    refine cX Tryz.call131 (ar_used hR_74  (Sat.flat1 hS_92)) ?_
    rintro _ w_93 ⟨rfl, hS_94⟩
    have hS_95 := Sat.unflat1 hS_94
    have hS_96 := (hS_95.picks [1, 1])
    have hS_97 := Sat.shutN (d := M_73) (A := []) x.toNat (set_at (set_at hc_43)) hS_96
    rw [set_same (set_at (set_at hc_43))] at hS_97
    refine nilO ⟨⟨.inr (cell_up hS_97 6 rfl (k := 9) tri_pre rfl), .inl (by kernel_rfl), .inr (cell_up hS_97 6 rfl (k := 9) tri_pre rfl), .inr ((hp_83.up 8 rfl).cell hS_97 (k := 0) rfl), trivial⟩, ?_⟩
    refine wO rfl ?_
    have hS_103 := Sat.openN (A := []) x.toNat (set_at (set_at hc_43)) hS_97
    refine cX Tryz.call115 (ar_high hR_74  (Sat.flat1 hS_103)) ?_
    rintro _ w_104 ⟨rfl, hS_105⟩
    have hS_106 := Sat.unflat1 hS_105
    have hS_107 := (hS_106.picks [1, 1])
    have hS_108 := Sat.shutN (d := M_73) (A := []) x.toNat (set_at (set_at hc_43)) hS_107
    rw [set_same (set_at (set_at hc_43))] at hS_108
    refine nilO ⟨⟨.inr (cell_up hS_108 6 rfl (k := 9) tri_pre rfl), .inl (by kernel_rfl), .inr (cell_up hS_108 6 rfl (k := 9) tri_pre rfl), .inl (by kernel_rfl), trivial⟩, ?_⟩
    refine wU [19, 20] ?_
    refine wO rfl ?_
    refine sStF hS_108 hOw hq_19 7 (x).toNat 0 v0 (⟨2, v0.heldJob, v0.heldTask, v0.attempt, v0.row, v0.used, v0.high⟩ : Wkr) hx_17 (.int .i64 2) [.int .i64 2] Tryz.sizeOf3 ?_
    intro w_109 c_111 hO_112 hS_110
    refine nilO ⟨⟨.inl (by kernel_rfl), .inl (by kernel_rfl), .inl (by kernel_rfl), .inl (by kernel_rfl), trivial⟩, ?_⟩
    refine wU [22, 23] ?_
    refine wO rfl ?_
    have hx_113 := set_at (y := (⟨2, v0.heldJob, v0.heldTask, v0.attempt, v0.row, v0.used, v0.high⟩ : Wkr)) hx_17
    have hp_114 := OwnT.ptr hO_112 hq_19 hx_113
    refine sStF hS_110 hO_112 hq_19 7 (x).toNat 5 (⟨2, v0.heldJob, v0.heldTask, v0.attempt, v0.row, v0.used, v0.high⟩ : Wkr) (⟨2, v0.heldJob, v0.heldTask, v0.attempt, v0.row, ((allocA (markA s_40) x_21.scratch 16)).used, v0.high⟩ : Wkr) hx_113 (.int .i64 (((allocA (markA s_40) x_21.scratch 16)).used)) [.int .i64 (((allocA (markA s_40) x_21.scratch 16)).used)] Tryz.sizeOf3 ?_
    intro w_115 c_117 hO_118 hS_116
    rw [List.set_set] at hO_118
    refine nilO ⟨⟨.inl (by kernel_rfl), .inl (by kernel_rfl), .inl (by kernel_rfl), .inl (by kernel_rfl), trivial⟩, ?_⟩
    refine wU [25, 26] ?_
    refine wO rfl ?_
    have hx_119 := set_at (y := (⟨2, v0.heldJob, v0.heldTask, v0.attempt, v0.row, ((allocA (markA s_40) x_21.scratch 16)).used, v0.high⟩ : Wkr)) hx_17
    have hp_120 := OwnT.ptr hO_118 hq_19 hx_119
    refine sStF hS_116 hO_118 hq_19 7 (x).toNat 6 (⟨2, v0.heldJob, v0.heldTask, v0.attempt, v0.row, ((allocA (markA s_40) x_21.scratch 16)).used, v0.high⟩ : Wkr) (⟨2, v0.heldJob, v0.heldTask, v0.attempt, v0.row, ((allocA (markA s_40) x_21.scratch 16)).used, ((allocA (markA s_40) x_21.scratch 16)).high⟩ : Wkr) hx_119 (.int .i64 (((allocA (markA s_40) x_21.scratch 16)).high)) [.int .i64 (((allocA (markA s_40) x_21.scratch 16)).high)] Tryz.sizeOf3 ?_
    intro w_121 c_123 hO_124 hS_122
    rw [List.set_set] at hO_124
    refine nilO ⟨⟨.inl (by kernel_rfl), .inl (by kernel_rfl), .inl (by kernel_rfl), .inl (by kernel_rfl), trivial⟩, ?_⟩
    refine wN ?_
    refine thenK_n <| seqE <| regionE <| pu2 ?_
    refine sT hS_122 2 0 (.agg #[.int .i64 6, .int .i64 x, .int .i64 0, .int .i64 0, .int .i64 0, .int .i64 0, .int .i64 0]) [.int .i64 6, .int .i64 x, .int .i64 0, .int .i64 0, .int .i64 0, .int .i64 0, .int .i64 0] #[.int .i64 6, .int .i64 x, .int .i64 0, .int .i64 0, .int .i64 0, .int .i64 0, .int .i64 0] Tryz.sizeOf63 ?_
    intro w_125 hS_126
    refine nilO <| thenK_n <| retE <| blockK_r <| thenK_r <| retN (vs := [.agg #[.int .i64 6, .int .i64 x, .int .i64 0, .int .i64 0, .int .i64 0, .int .i64 0, .int .i64 0]]) rfl (.cons (.cell _ _ _ _ (by kernel_rfl) (lvA hS_126 2 0 [.int .i64 6, .int .i64 x, .int .i64 0, .int .i64 0, .int .i64 0, .int .i64 0, .int .i64 0] (Tryz.isAgg63 _) (Tryz.sizeOf63 _) rfl rfl rfl)) .nil) <| ?_
    have htk : s_3.tasks[v0.heldTask.toNat]? = some x_21.v := by rw [← hV_7, List.getElem?_map, hx_24]; rfl
    have hS_127 := (hS_126.picks [5, 5, 5])
    have hS_128 : Sat W _ ((T_7 ++ Mb_7) :: (jcs.eraseIdx (v0.heldJob.toNat)).flatten :: ((acs.set x.toNat M_50).set x.toNat M_73).flatten :: [(b_28, .cells (encTask x_21).toArray 51 (0, 0))] :: [(b_11, .cells #[.int .i64 6, .int .i64 x, .int .i64 0, .int .i64 0, .int .i64 0, .int .i64 0, .int .i64 0] 63 (0, 0))] :: (Tri p 101 (preF F.cfg wa wn wk aa an ak da dn dk q) (xs.flatMap encFJob) (encStt F.st)) :: c_123 :: Ac :: Dc :: dcs.flatten :: Qc :: H :: F0) := Sat.perm (show Sat W _ (T_7 :: Mb_7 :: (jcs.eraseIdx (v0.heldJob.toNat)).flatten :: ((acs.set x.toNat M_50).set x.toNat M_73).flatten :: [(b_28, .cells (encTask x_21).toArray 51 (0, 0))] :: [(b_11, .cells #[.int .i64 6, .int .i64 x, .int .i64 0, .int .i64 0, .int .i64 0, .int .i64 0, .int .i64 0] 63 (0, 0))] :: (Tri p 101 (preF F.cfg wa wn wk aa an ak da dn dk q) (xs.flatMap encFJob) (encStt F.st)) :: c_123 :: Ac :: Dc :: dcs.flatten :: Qc :: H :: F0) from hS_127) (by simp [Value.cells])
    have hS_129 := Sat.shutN (d := T_7 ++ Mb_7) (A := []) (v0.heldJob.toNat) hc_6 hS_128
    have hL_130 := Obs.set hJs hx_2 (JobM.mk (s := s_3) ha hT_7 hD_7 hV_7 hB_7)
    have hjs_ := set_same hs_5
    have hS_131 := ((hS_129.picks [9, 9, 3, 9, 9, 9, 9]).drops [8, 8])
    have hS_132 := (hS_131.merge8)
    have he : (microF F x).1 = (⟨F.cfg, (F.ws.set ((x).toNat) (⟨2, v0.heldJob, v0.heldTask, v0.attempt, v0.row, ((allocA (markA s_40) x_21.scratch 16)).used, ((allocA (markA s_40) x_21.scratch 16)).high⟩ : Wkr)), ((F.ar.set x.toNat (markA s_40)).set x.toNat (allocA (markA s_40) x_21.scratch 16)), F.dq, F.q, (F.jobs.set (v0.heldJob.toNat) s_3), F.st⟩ : FS) := by unfold microF jobAt; simp only [getD_some hv0, getD_some hs_5, getD_some htk, getD_some hs_42]; rw [if_pos (by omega)]; rw [hjs_]; rw [if_pos (show x_21.v.scratch > 0 from show x_21.scratch > 0 by omega), List.set_set]; rfl
    exact ⟨_, by unfold microF; simp only [getD_some hv0]; rw [if_pos (by omega)]; rfl, by rw [he]; exact ⟨_, _, _, _, _, _, _, _, _, _, _, _, _, _, _, _, _, _, _, _, rfl, hO_124, hOa, hOd, hL_78, hDs, hQ, hL_130, hxl⟩, hS_132⟩
  refine seqE <| regionE <| pu2 <| nilO <| thenK_n <| ?_
  refine cE v0.phase 2 (fun hc_187 => ?_) (fun hc_187 => ?_)
  · refine seqE <| regionE <| pu3 ?_
    refine sLp hS_32 (hp_18.up 6 rfl) 4 (.int .i64 v0.row) (Tryz.isAgg3 _) ?_
    refine sAdd v0.row 1 ?_
    refine pu2 ?_
    refine sStF hS_32 hOw hq_19 6 (x).toNat 4 v0 (⟨v0.phase, v0.heldJob, v0.heldTask, v0.attempt, (v0.row + 1), v0.used, v0.high⟩ : Wkr) hx_17 (.int .i64 (v0.row + 1)) [.int .i64 (v0.row + 1)] Tryz.sizeOf3 ?_
    intro w_188 c_190 hO_191 hS_189
    refine nilO <| thenK_n <| seqE <| seqE ?_
    have hx_192 := set_at (y := (⟨v0.phase, v0.heldJob, v0.heldTask, v0.attempt, (v0.row + 1), v0.used, v0.high⟩ : Wkr)) hx_17
    have hp_193 := OwnT.ptr hO_191 hq_19 hx_192
    refine drawF hS_189 [] (fq 3 4 (hp_193.up 6 rfl) <| fb 5 0 7 1 <| fn) [0, 1, 2, 4, 3, 5, 6] fun _ hS_194 => ?_
    refine wV 4 ?_
    refine wL 0 ?_
    refine wL 1 ?_
    refine wV 1 ?_
    refine wN ?_
    refine thenK_n <| ?_
    refine cE (v0.row + 1) x_21.rows (fun hc_195 => ?_) (fun hc_195 => ?_)
    rotate_left
    · refine skipE <| thenK_n <| seqE <| regionE <| pu2 ?_
      refine sT hS_194 1 0 (.agg #[.int .i64 7, .int .i64 x, .int .i64 0, .int .i64 0, .int .i64 0, .int .i64 0, .int .i64 0]) [.int .i64 7, .int .i64 x, .int .i64 0, .int .i64 0, .int .i64 0, .int .i64 0, .int .i64 0] #[.int .i64 7, .int .i64 x, .int .i64 0, .int .i64 0, .int .i64 0, .int .i64 0, .int .i64 0] Tryz.sizeOf63 ?_
      intro w_208 hS_209
      refine nilO <| thenK_n <| retE <| blockK_r <| thenK_r <| retN (vs := [.agg #[.int .i64 7, .int .i64 x, .int .i64 0, .int .i64 0, .int .i64 0, .int .i64 0, .int .i64 0]]) rfl (.cons (.cell _ _ _ _ (by kernel_rfl) (lvA hS_209 1 0 [.int .i64 7, .int .i64 x, .int .i64 0, .int .i64 0, .int .i64 0, .int .i64 0, .int .i64 0] (Tryz.isAgg63 _) (Tryz.sizeOf63 _) rfl rfl rfl)) .nil) <| ?_
      have htk : s_3.tasks[v0.heldTask.toNat]? = some x_21.v := by rw [← hV_7, List.getElem?_map, hx_24]; rfl
      have hS_210 := (hS_209.picks [4, 4, 4])
      have hS_211 : Sat W _ ((T_7 ++ Mb_7) :: (jcs.eraseIdx (v0.heldJob.toNat)).flatten :: [(b_28, .cells (encTask x_21).toArray 51 (0, 0))] :: [(b_11, .cells #[.int .i64 7, .int .i64 x, .int .i64 0, .int .i64 0, .int .i64 0, .int .i64 0, .int .i64 0] 63 (0, 0))] :: (Tri p 101 (preF F.cfg wa wn wk aa an ak da dn dk q) (xs.flatMap encFJob) (encStt F.st)) :: c_190 :: Ac :: Dc :: acs.flatten :: dcs.flatten :: Qc :: H :: F0) := Sat.perm (show Sat W _ (T_7 :: Mb_7 :: (jcs.eraseIdx (v0.heldJob.toNat)).flatten :: [(b_28, .cells (encTask x_21).toArray 51 (0, 0))] :: [(b_11, .cells #[.int .i64 7, .int .i64 x, .int .i64 0, .int .i64 0, .int .i64 0, .int .i64 0, .int .i64 0] 63 (0, 0))] :: (Tri p 101 (preF F.cfg wa wn wk aa an ak da dn dk q) (xs.flatMap encFJob) (encStt F.st)) :: c_190 :: Ac :: Dc :: acs.flatten :: dcs.flatten :: Qc :: H :: F0) from hS_210) (by simp [Value.cells])
      have hS_212 := Sat.shutN (d := T_7 ++ Mb_7) (A := []) (v0.heldJob.toNat) hc_6 hS_211
      have hL_213 := Obs.set hJs hx_2 (JobM.mk (s := s_3) ha hT_7 hD_7 hV_7 hB_7)
      have hjs_ := set_same hs_5
      have hS_214 := ((hS_212.picks [9, 9, 9, 9, 9, 9, 9]).drops [8, 8])
      have hS_215 := (hS_214.merge8)
      have he : (microF F x).1 = (⟨F.cfg, (F.ws.set ((x).toNat) (⟨v0.phase, v0.heldJob, v0.heldTask, v0.attempt, (v0.row + 1), v0.used, v0.high⟩ : Wkr)), F.ar, F.dq, F.q, (F.jobs.set (v0.heldJob.toNat) s_3), F.st⟩ : FS) := by unfold microF jobAt; simp only [getD_some hv0, getD_some hs_5, getD_some htk]; rw [if_neg (by omega), if_pos (by omega)]; rw [if_neg (show ¬ v0.row + 1 = x_21.v.rows from show ¬ v0.row + 1 = x_21.rows by omega), show v0.phase = 2 by omega]; rw [hjs_]
      exact ⟨_, by unfold microF; simp only [getD_some hv0]; rw [if_neg (by omega), if_pos (by omega)]; rfl, by rw [he]; exact ⟨_, _, _, _, _, _, _, _, _, _, _, _, _, _, _, _, _, _, _, _, rfl, hO_191, hOa, hOd, hAs, hDs, hQ, hL_213, hxl⟩, hS_215⟩
    refine regionE <| pu3 ?_
    refine sStF hS_194 hO_191 hq_19 6 (x).toNat 0 (⟨v0.phase, v0.heldJob, v0.heldTask, v0.attempt, (v0.row + 1), v0.used, v0.high⟩ : Wkr) (⟨3, v0.heldJob, v0.heldTask, v0.attempt, (v0.row + 1), v0.used, v0.high⟩ : Wkr) hx_192 (.int .i64 3) [.int .i64 3] Tryz.sizeOf3 ?_
    intro w_196 c_198 hO_199 hS_197
    rw [List.set_set] at hO_199
    refine nilO <| thenK_n <| seqE <| regionE <| pu2 ?_
    refine sT hS_197 1 0 (.agg #[.int .i64 7, .int .i64 x, .int .i64 0, .int .i64 0, .int .i64 0, .int .i64 0, .int .i64 0]) [.int .i64 7, .int .i64 x, .int .i64 0, .int .i64 0, .int .i64 0, .int .i64 0, .int .i64 0] #[.int .i64 7, .int .i64 x, .int .i64 0, .int .i64 0, .int .i64 0, .int .i64 0, .int .i64 0] Tryz.sizeOf63 ?_
    intro w_200 hS_201
    refine nilO <| thenK_n <| retE <| blockK_r <| thenK_r <| retN (vs := [.agg #[.int .i64 7, .int .i64 x, .int .i64 0, .int .i64 0, .int .i64 0, .int .i64 0, .int .i64 0]]) rfl (.cons (.cell _ _ _ _ (by kernel_rfl) (lvA hS_201 1 0 [.int .i64 7, .int .i64 x, .int .i64 0, .int .i64 0, .int .i64 0, .int .i64 0, .int .i64 0] (Tryz.isAgg63 _) (Tryz.sizeOf63 _) rfl rfl rfl)) .nil) <| ?_
    have htk : s_3.tasks[v0.heldTask.toNat]? = some x_21.v := by rw [← hV_7, List.getElem?_map, hx_24]; rfl
    have hS_202 := (hS_201.picks [4, 4, 4])
    have hS_203 : Sat W _ ((T_7 ++ Mb_7) :: (jcs.eraseIdx (v0.heldJob.toNat)).flatten :: [(b_28, .cells (encTask x_21).toArray 51 (0, 0))] :: [(b_11, .cells #[.int .i64 7, .int .i64 x, .int .i64 0, .int .i64 0, .int .i64 0, .int .i64 0, .int .i64 0] 63 (0, 0))] :: (Tri p 101 (preF F.cfg wa wn wk aa an ak da dn dk q) (xs.flatMap encFJob) (encStt F.st)) :: c_198 :: Ac :: Dc :: acs.flatten :: dcs.flatten :: Qc :: H :: F0) := Sat.perm (show Sat W _ (T_7 :: Mb_7 :: (jcs.eraseIdx (v0.heldJob.toNat)).flatten :: [(b_28, .cells (encTask x_21).toArray 51 (0, 0))] :: [(b_11, .cells #[.int .i64 7, .int .i64 x, .int .i64 0, .int .i64 0, .int .i64 0, .int .i64 0, .int .i64 0] 63 (0, 0))] :: (Tri p 101 (preF F.cfg wa wn wk aa an ak da dn dk q) (xs.flatMap encFJob) (encStt F.st)) :: c_198 :: Ac :: Dc :: acs.flatten :: dcs.flatten :: Qc :: H :: F0) from hS_202) (by simp [Value.cells])
    have hS_204 := Sat.shutN (d := T_7 ++ Mb_7) (A := []) (v0.heldJob.toNat) hc_6 hS_203
    have hL_205 := Obs.set hJs hx_2 (JobM.mk (s := s_3) ha hT_7 hD_7 hV_7 hB_7)
    have hjs_ := set_same hs_5
    have hS_206 := ((hS_204.picks [9, 9, 9, 9, 9, 9, 9]).drops [8, 8])
    have hS_207 := (hS_206.merge8)
    have he : (microF F x).1 = (⟨F.cfg, (F.ws.set ((x).toNat) (⟨3, v0.heldJob, v0.heldTask, v0.attempt, (v0.row + 1), v0.used, v0.high⟩ : Wkr)), F.ar, F.dq, F.q, (F.jobs.set (v0.heldJob.toNat) s_3), F.st⟩ : FS) := by unfold microF jobAt; simp only [getD_some hv0, getD_some hs_5, getD_some htk]; rw [if_neg (by omega), if_pos (by omega)]; rw [if_pos (show v0.row + 1 = x_21.v.rows from show v0.row + 1 = x_21.rows by omega)]; rw [hjs_]
    exact ⟨_, by unfold microF; simp only [getD_some hv0]; rw [if_neg (by omega), if_pos (by omega)]; rfl, by rw [he]; exact ⟨_, _, _, _, _, _, _, _, _, _, _, _, _, _, _, _, _, _, _, _, rfl, hO_199, hOa, hOd, hAs, hDs, hQ, hL_205, hxl⟩, hS_207⟩
  refine skipE <| blockK_n <| thenK_n <| seqE <| regionE <| pu3 ?_
  refine sLpA hS_32 (hp_18.up 6 rfl) 1 [.int .i64 v0.heldJob, .int .i64 v0.heldTask] (Tryz.isAgg61 _) (Tryz.sizeOf61 _) ?_
  refine sAlloc hS_32 Tryz.zeroValue61 ?_
  intro b_216 w_217 hS_218
  refine sT hS_218 0 0 (.agg #[.int .i64 v0.heldJob, .int .i64 v0.heldTask]) [.int .i64 v0.heldJob, .int .i64 v0.heldTask] #[.int .i64 v0.heldJob, .int .i64 v0.heldTask] Tryz.sizeOf61 ?_
  intro w_219 hS_220
  refine nilO <| thenK_n <| seqE ?_
  refine drawE [10] [(3, ⟨p, 12 + (v0.heldJob.toNat) * 5 + 4, none⟩, .pointer (some ⟨b_7, 0, none⟩)), (5, ⟨b_216, 1, none⟩, .int .i64 v0.heldTask), (9, ⟨b_15, o_16 + (x).toNat * 7 + 3, none⟩, .int .i64 v0.attempt)] [(true, [0, 1, 2, 4, 6, 7, 8]), (true, [3]), (true, [5]), (true, [9]), (false, [10]), (true, [11]), (true, [12]), (true, [13]), (true, [14, 15])] rfl (by kernel_rfl) ⟨.inr (cell_up hS_220 6 rfl (k := 4) (tri_el (sz := 5) (n0 := 12) (fun _ => rfl) hx_2) rfl), .inr (hS_220.cell 0 rfl rfl), .inr ((hp_18.up 7 rfl).cell hS_220 (k := 3) rfl), trivial⟩ ?_
  have hS_221 := hS_220.drew
  refine wU [0, 1, 2, 4, 6, 7, 8] ?_
  refine wLd (.pointer (some ⟨b_7, 0, none⟩)) 0 Tryz.isAgg96 ?_
  refine wLd (.int .i64 v0.heldTask) 1 Tryz.isAgg3 ?_
  refine wLd (.int .i64 v0.attempt) 2 Tryz.isAgg3 ?_
  refine wO rfl ?_
  have hS_222 := (hS_221.pick 4 rfl)
  refine cX Tryz.call132 (r_commit hB_7 hBW v0.heldTask v0.attempt (Sat.flat1 hS_222)) ?_
  rintro _ w_223 ⟨az_228, nz_229, kz_230, Z_231, M_226, rfl, hr_232, hB_227, hS_224⟩
  have hS_225 := Sat.unflat2 hS_224; have hn_az_228 := hr_232.len; have hl_az_228 := hr_232.le
  refine nilO ⟨⟨.inl (by kernel_rfl), .inl (by kernel_rfl), .inl (by kernel_rfl), trivial⟩, ?_⟩
  refine wU [11] <| wU [12] <| wU [13] <| wU [14, 15] ?_
  refine wN ?_
  refine thenK_n <| seqE <| regionE <| pu3 ?_
  refine sLp hS_225 (ptr_up 7 rfl tri_pre) 9 (.slice aa an ak) (Tryz.isAgg93 _) ?_
  refine pu1 ?_
  refine sIdxO hOa x (x).toNat Tryz.runUnderlying93 Tryz.sizeOf102 ?_
  intro x_233 b_234 o_235 hx_236 hp_237 hq_238
  refine sLp hS_225 (hp_237.up 9 rfl) 0 (.pointer (some ⟨x_233, 0, none⟩)) (Tryz.isAgg102 _) ?_
  obtain ⟨s_239, c_240, hs_241, hc_242, hR_243⟩ := Obs.get hAs hx_236
  have hS_245 := (hS_225.pick 11 rfl)
  have hS_244 := Sat.openN (A := []) x.toNat hc_242 hS_245
  refine cX Tryz.call133 (ar_release hR_243  (Sat.flat1 hS_244)) ?_
  rintro _ w_246 ⟨M_249, v_251, rfl, hR_250, hS_247⟩
  have hS_248 := Sat.unflat1 hS_247
  have hS_252 := (hS_248.picks [1, 1])
  have hS_253 := Sat.shutN (d := M_249) (A := []) x.toNat hc_242 hS_252
  have hL_254 := Obs.set hAs hx_236 hR_250
  refine nilO <| thenK_n <| seqE <| regionE <| pu2 ?_
  have hS_255 := (hS_253.picks [0, 10, 10, 10])
  refine cX Tryz.call70 (f_idle hOw hOa hL_254 x 0 (by first | omega | (dsimp only; omega) | (simp only [List.length_set]; omega)) (by first | omega | (dsimp only; omega) | (simp only [List.length_set]; omega)) hS_255) ?_
  rintro _ w_256 ⟨Wc_258, rfl, hO_259, hS_257⟩
  refine nilO <| thenK_n <| seqE <| regionE <| pu4 ?_
  refine sLp hS_257 (ptr_up 0 rfl (tri_post (k := 332) (tri_len (sz := 5) (m := 12) (fun _ => rfl) hxl))) 1 (.int .i64 F.st.commits) (Tryz.isAgg3 _) ?_
  refine sAdd F.st.commits 1 ?_
  refine pu3 ?_
  refine sTpost hS_257 0 332 1 rfl (.int .i64 (F.st.commits + 1)) [.int .i64 (F.st.commits + 1)] [.int .i64 F.st.starts, .int .i64 (F.st.commits + 1), .int .i64 F.st.drops, .int .i64 F.st.crashes, .int .i64 F.st.steals, .int .i64 F.st.helps, .int .i64 F.st.spills, .int .i64 F.st.queued, .int .i64 F.st.held, .int .i64 F.st.cells] (tri_len (sz := 5) (m := 12) (fun _ => rfl) hxl) Tryz.sizeOf3 ?_
  intro w_260 hS_261
  refine nilO <| thenK_n <| seqE <| seqE <| regionE <| pu1 <| nilO <| thenK_n <| blockE ?_
  have hcl := com_len (B := s_3.B) (i := v0.heldTask) (a := v0.attempt)
  refine loopB [0, 1, 4, 6, 8, 9] (γ := Nat × (List DS) × (List Chunk) × QS × Chunk × Int) (fun ⟨i, dqi, dci, qi, Qci, sp⟩ R => ⟨[(11, .int .i64 ((i : Nat) : Int))], (Tri p 101 (preF F.cfg wa wn wk aa an ak da dn dk q) (xs.flatMap encFJob) [.int .i64 F.st.starts, .int .i64 (F.st.commits + 1), .int .i64 F.st.drops, .int .i64 F.st.crashes, .int .i64 F.st.steals, .int .i64 F.st.helps, .int .i64 sp, .int .i64 F.st.queued, .int .i64 F.st.held, .int .i64 F.st.cells]) :: Wc_258 :: Ac :: (acs.set x.toNat M_249).flatten :: Z_231 :: M_226 :: [(b_216, .cells #[.int .i64 v0.heldJob, .int .i64 v0.heldTask] 61 (0, 0))] :: [(b_28, .cells (encTask x_21).toArray 51 (0, 0))] :: [(b_11, .cells #[.int .i64 0, .int .i64 0, .int .i64 0, .int .i64 0, .int .i64 0, .int .i64 0, .int .i64 0] 63 (0, 0))] :: T_7 :: (jcs.eraseIdx (v0.heldJob.toNat)).flatten :: Dc :: dci.flatten :: Qci :: R, nz_229 - i, i ≤ nz_229 ∧ (Obs DqR dp dqi dci) ∧ (InjR q qi Qci) ∧ (0 ≤ sp ∧ sp ≤ F.st.spills + i) ∧ (dqi.length = F.dq.length) ∧ ((spillF (⟨F.cfg, (F.ws.set x.toNat ⟨0, 0, 0, 0, 0, 0, ((F.ar.set x.toNat (relA s_239)).getD x.toNat default).high⟩), (F.ar.set x.toNat (relA s_239)), F.dq, F.q, (F.jobs.set (v0.heldJob.toNat) { s_3 with B := (comB s_3.B v0.heldTask v0.attempt).1 }), ⟨F.st.starts, (F.st.commits + 1), F.st.drops, F.st.crashes, F.st.steals, F.st.helps, F.st.spills, F.st.queued, F.st.held, F.st.cells⟩⟩ : FS) x v0.heldJob s_3.band (((comB s_3.B v0.heldTask v0.attempt).2).take i)) = (⟨F.cfg, (F.ws.set x.toNat ⟨0, 0, 0, 0, 0, 0, ((F.ar.set x.toNat (relA s_239)).getD x.toNat default).high⟩), (F.ar.set x.toNat (relA s_239)), dqi, qi, (F.jobs.set (v0.heldJob.toNat) { s_3 with B := (comB s_3.B v0.heldTask v0.attempt).1 }), ⟨F.st.starts, (F.st.commits + 1), F.st.drops, F.st.crashes, F.st.steals, F.st.helps, sp, F.st.queued, F.st.held, F.st.cells⟩⟩ : FS))⟩) (0, F.dq, dcs, F.q, Qc, F.st.spills) ⟨hS_261, by omega, hDs, hQ, by omega, by first | rfl | simp only [List.length_set], rfl⟩ ?_
  rintro ⟨i, dqi, dci, qi, Qci, sp⟩ ρ w_262 ⟨hS_263, hi, hDi, hQi, hspb, hdqi, hFi⟩
  have hds1 := hDi.1
  refine seqE <| seqE <| regionE <| pu4 <| nilO <| thenK_n <| ?_
  refine cD (((i : Nat) : Int) < ((nz_229 : Nat) : Int)) (fun hc_264 => ?_) (fun hc_264 => ?_)
  · refine skipE <| thenK_n <| seqE <| blockE <| seqE ?_
    obtain ⟨x_265, b_266, o_267, hx_268, hp_269, hq_270⟩ := RdT.elem hr_232 ((i : Nat) : Int)
    rw [Int.toNat_natCast] at hx_268
    refine drawF hS_263 [7, 8] (fb 1 6 0 1 <| fq 5 0 (hp_269.up 4 rfl) <| fn) [0, 2, 3, 4, 1, 5, 6, 7, 8] fun _ hS_271 => ?_
    refine wV 3 ?_
    refine wI hq_270 ?_
    refine wL 0 ?_
    refine wL 1 ?_
    refine wV 1 ?_
    refine wO rfl ?_
    refine sAlloc hS_271 Tryz.zeroValue61 ?_
    intro b_272 w_273 hS_274
    refine nilO ⟨⟨.inr (hS_274.cell 7 rfl rfl), .inr ((hp_269.up 5 rfl).cell hS_274 (k := 0) rfl), trivial⟩, ?_⟩
    refine wO rfl ?_
    refine sT hS_274 0 0 (.agg #[.int .i64 v0.heldJob, .int .i64 x_265]) [.int .i64 v0.heldJob, .int .i64 x_265] #[.int .i64 v0.heldJob, .int .i64 x_265] Tryz.sizeOf61 ?_
    intro w_275 hS_276
    refine nA ?_
    refine wN ?_
    refine thenK_n <| seqE ?_
    obtain ⟨x_277, b_278, o_279, hx_280, hp_281, hq_282, ha_283⟩ := OwnT.elem hOd x
    refine drawE [8] [(3, ⟨p, 10, none⟩, .slice da dn dk), (6, ⟨b_278, o_279 + (x).toNat * 1, none⟩, .pointer (some ⟨x_277, 0, none⟩)), (7, ⟨b_272, 0, none⟩, .int .i64 v0.heldJob), (7, ⟨b_272, 1, none⟩, .int .i64 x_265)] [(true, [0, 1, 2, 4]), (true, [3]), (true, [5]), (true, [6]), (true, [7]), (false, [8]), (true, [9])] rfl (by kernel_rfl) ⟨.inr (cell_up hS_276 1 rfl (k := 10) tri_pre rfl), .inr ((hp_281.up 12 rfl).cell hS_276 (k := 0) rfl), .inr (hS_276.cell 0 rfl rfl), .inr (hS_276.cell 0 rfl rfl), trivial⟩ ?_
    have hS_284 := hS_276.drew
    refine wU [0, 1, 2, 4] ?_
    refine wLd (.slice da dn dk) 0 Tryz.isAgg94 ?_
    refine wI hq_282 ?_
    refine wLd (.pointer (some ⟨x_277, 0, none⟩)) 1 Tryz.isAgg105 ?_
    refine wY (.agg #[.int .i64 v0.heldJob, .int .i64 x_265]) rfl (fun w hF => Y_loadF rfl (Tryz.isAgg61 w) (Tryz.sizeOf61 w) (by kernel_rfl) rfl ⟨hF 2 _ _ rfl, hF 3 _ _ rfl, trivial⟩) ?_
    refine wO rfl ?_
    obtain ⟨s_285, c_286, hs_287, hc_288, hR_289⟩ := Obs.get hDi hx_280
    have hS_291 := (hS_284.pick 13 rfl)
    have hS_290 := Sat.openN (A := []) x.toNat hc_288 hS_291
    refine cX Tryz.call134 (dq_push hR_289 (⟨v0.heldJob, x_265⟩ : Ref) (Sat.flat1 hS_290)) ?_
    rintro _ w_292 ⟨M_295, rfl, hR_296, hS_293⟩
    have hS_294 := Sat.unflat1 hS_293
    have hS_297 := (hS_294.picks [1, 1])
    have hS_298 := Sat.shutN (d := M_295) (A := []) x.toNat hc_288 hS_297
    have hL_299 := Obs.set hDi hx_280 hR_296
    refine nilO ⟨⟨.inr (cell_up hS_298 2 rfl (k := 10) tri_pre rfl), .inl (by kernel_rfl), .inl (by kernel_rfl), .inl (by kernel_rfl), trivial⟩, ?_⟩
    refine wU [9] ?_
    refine wN ?_
    refine thenK_n <| ?_
    refine cN (pushC s_285) 0 (fun hc_300 => ?_) (fun hc_300 => ?_)
    · refine skipE <| blockK_n <| thenK_n <| regionE <| pu1 ?_
      refine sAdd ((i : Nat) : Int) 1 ?_
      refine pu1 <| nilO <| thenK_n <| ?_
      have hS_301 := ((hS_298.picks [13, 13, 13, 13, 13, 13, 13, 13, 13, 13, 13, 13]).dropAt 13 rfl)
      exact ⟨(i + 1, (dqi.set x.toNat (pushD s_285 (⟨v0.heldJob, x_265⟩ : Ref))), (dci.set x.toNat M_295), qi, Qci, sp), by first | omega | (dsimp only; omega), alB, hS_301, by omega, hL_299, hQi, by omega, (by first | exact hdqi | (simp only [List.length_set]; exact hdqi)), (by rw [spill_take hx_268, hFi]; unfold spill1; simp only [getD_some hs_287]; rw [if_pos (by omega)])⟩
    refine seqE ?_
    refine drawE [9] [(3, ⟨p, 11, none⟩, .pointer (some ⟨q, 0, none⟩)), (4, ⟨b_272, 0, none⟩, .int .i64 v0.heldJob), (4, ⟨b_272, 1, none⟩, .int .i64 x_265), (8, ⟨p, 12 + (v0.heldJob.toNat) * 5 + 2, none⟩, .int .i64 s_3.band)] [(true, [0, 1, 2, 5, 6, 7]), (true, [3]), (true, [4]), (true, [8]), (false, [9])] rfl (by kernel_rfl) ⟨.inr (cell_up hS_298 2 rfl (k := 11) tri_pre rfl), .inr (hS_298.cell 1 rfl rfl), .inr (hS_298.cell 1 rfl rfl), .inr (cell_up hS_298 2 rfl (k := 2) (tri_el (sz := 5) (n0 := 12) (fun _ => rfl) hx_2) rfl), trivial⟩ ?_
    have hS_302 := hS_298.drew
    refine wU [0, 1, 2, 5, 6, 7] ?_
    refine wLd (.pointer (some ⟨q, 0, none⟩)) 0 Tryz.isAgg95 ?_
    refine wY (.agg #[.int .i64 v0.heldJob, .int .i64 x_265]) rfl (fun w hF => Y_loadF rfl (Tryz.isAgg61 w) (Tryz.sizeOf61 w) (by kernel_rfl) rfl ⟨hF 1 _ _ rfl, hF 2 _ _ rfl, trivial⟩) ?_
    refine wLd (.int .i64 s_3.band) 3 Tryz.isAgg3 ?_
    refine wO rfl ?_
    have hS_303 := (hS_302.pick 14 rfl)
    refine cX Tryz.call60 (iq_push hQi (⟨v0.heldJob, x_265⟩ : Ref) s_3.band (by omega) (Sat.flat1 hS_303)) ?_
    rintro _ w_304 ⟨M_307, rfl, hR_308, hS_305⟩
    have hS_306 := Sat.unflat1 hS_305
    refine nilO ⟨⟨.inl (by kernel_rfl), .inl (by kernel_rfl), .inl (by kernel_rfl), .inl (by kernel_rfl), trivial⟩, ?_⟩
    refine wN ?_
    refine thenK_n <| regionE <| pu4 ?_
    refine sLp hS_306 (ptr_up 3 rfl (tri_post (k := 332) (tri_len (sz := 5) (m := 12) (fun _ => rfl) hxl))) 6 (.int .i64 sp) (Tryz.isAgg3 _) ?_
    refine sAdd sp 1 ?_
    refine pu3 ?_
    refine sTpost hS_306 3 332 6 rfl (.int .i64 (sp + 1)) [.int .i64 (sp + 1)] [.int .i64 F.st.starts, .int .i64 (F.st.commits + 1), .int .i64 F.st.drops, .int .i64 F.st.crashes, .int .i64 F.st.steals, .int .i64 F.st.helps, .int .i64 (sp + 1), .int .i64 F.st.queued, .int .i64 F.st.held, .int .i64 F.st.cells] (tri_len (sz := 5) (m := 12) (fun _ => rfl) hxl) Tryz.sizeOf3 ?_
    intro w_309 hS_310
    refine nilO <| blockK_n <| thenK_n <| regionE <| pu1 ?_
    refine sAdd ((i : Nat) : Int) 1 ?_
    refine pu1 <| nilO <| thenK_n <| ?_
    have hS_311 := ((hS_310.picks [1, 14, 14, 14, 14, 14, 14, 14, 14, 14, 14, 14, 14]).dropAt 14 rfl)
    have hpd : pushD s_285 (⟨v0.heldJob, x_265⟩ : Ref) = s_285 := by unfold pushD; rw [if_neg (by omega)]
    have hLD := hL_299; rw [hpd, set_same hs_287] at hLD
    exact ⟨(i + 1, dqi, (dci.set x.toNat M_295), (pushQ qi (⟨v0.heldJob, x_265⟩ : Ref) s_3.band), M_307, (sp + 1)), by first | omega | (dsimp only; omega), alB, hS_311, by omega, hLD, hR_308, by omega, (by first | exact hdqi | (simp only [List.length_set]; exact hdqi)), (by rw [spill_take hx_268, hFi]; unfold spill1; simp only [getD_some hs_287]; rw [if_neg (by omega)])⟩
  refine exitE <| thenK_x <| thenK_x <| blockK_x <| thenK_n <| seqE <| seqE ?_
  refine drawE [4] [(3, ⟨p, 12 + (v0.heldJob.toNat) * 5 + 4, none⟩, .pointer (some ⟨b_7, 0, none⟩)), (8, ⟨p, 12 + (v0.heldJob.toNat) * 5 + 3, none⟩, .slice ta_7 tn_7 tk_7)] [(true, [0, 1, 2, 5, 6, 7]), (true, [3]), (true, [8]), (true, [9]), (false, [4]), (true, [10])] rfl (by kernel_rfl) ⟨.inr (cell_up hS_263 0 rfl (k := 4) (tri_el (sz := 5) (n0 := 12) (fun _ => rfl) hx_2) rfl), .inr (cell_up hS_263 0 rfl (k := 3) (tri_el (sz := 5) (n0 := 12) (fun _ => rfl) hx_2) rfl), trivial⟩ ?_
  have hS_312 := hS_263.drew
  refine wU [0, 1, 2, 5, 6, 7] ?_
  refine wLd (.pointer (some ⟨b_7, 0, none⟩)) 0 Tryz.isAgg96 ?_
  refine wLd (.slice ta_7 tn_7 tk_7) 1 Tryz.isAgg45 ?_
  refine wU [9] ?_
  refine wO rfl ?_
  have hS_313 := (hS_312.pick 5 rfl)
  refine cX Tryz.call135 (r_done hB_227 (com_wf hBW (i := v0.heldTask) (a := v0.attempt)) (Sat.flat1 hS_313)) ?_
  rintro _ w_314 ⟨rfl, hS_315⟩
  have hS_316 := Sat.unflat1 hS_315
  refine nilO ⟨⟨.inl (by kernel_rfl), .inr (cell_up hS_316 1 rfl (k := 3) (tri_el (sz := 5) (n0 := 12) (fun _ => rfl) hx_2) rfl), trivial⟩, ?_⟩
  refine wU [10] ?_
  refine wN ?_
  refine thenK_n <| ?_
  refine cE (doneOf ((comB s_3.B v0.heldTask v0.attempt).1)) ((tn_7 : Nat) : Int) (fun hc_317 => ?_) (fun hc_317 => ?_)
  rotate_left
  · refine skipE <| thenK_n <| seqE <| regionE <| pu1 ?_
    refine lA hS_316 6 0 2 (Tryz.isAgg61 _) (Tryz.sizeOf61 _) ?_
    refine pu1 ?_
    refine sT hS_316 8 0 (.agg #[.int .i64 8, .int .i64 x, .int .i64 0, .int .i64 0, .int .i64 v0.heldJob, .int .i64 v0.heldTask, .int .i64 0]) [.int .i64 8, .int .i64 x, .int .i64 0, .int .i64 0, .int .i64 v0.heldJob, .int .i64 v0.heldTask, .int .i64 0] #[.int .i64 8, .int .i64 x, .int .i64 0, .int .i64 0, .int .i64 v0.heldJob, .int .i64 v0.heldTask, .int .i64 0] Tryz.sizeOf63 ?_
    intro w_328 hS_329
    refine nilO <| thenK_n <| retE <| retN (vs := [.agg #[.int .i64 8, .int .i64 x, .int .i64 0, .int .i64 0, .int .i64 v0.heldJob, .int .i64 v0.heldTask, .int .i64 0]]) rfl (.cons (.cell _ _ _ _ (by kernel_rfl) (lvA hS_329 8 0 [.int .i64 8, .int .i64 x, .int .i64 0, .int .i64 0, .int .i64 v0.heldJob, .int .i64 v0.heldTask, .int .i64 0] (Tryz.isAgg63 _) (Tryz.sizeOf63 _) rfl rfl rfl)) .nil) <| ?_
    have htk : s_3.tasks[v0.heldTask.toNat]? = some x_21.v := by rw [← hV_7, List.getElem?_map, hx_24]; rfl
    have hS_330 := (hS_329.picks [10, 1, 10])
    have hS_331 : Sat W _ ((T_7 ++ M_226) :: (jcs.eraseIdx (v0.heldJob.toNat)).flatten :: (Tri p 101 (preF F.cfg wa wn wk aa an ak da dn dk q) (xs.flatMap encFJob) [.int .i64 F.st.starts, .int .i64 (F.st.commits + 1), .int .i64 F.st.drops, .int .i64 F.st.crashes, .int .i64 F.st.steals, .int .i64 F.st.helps, .int .i64 sp, .int .i64 F.st.queued, .int .i64 F.st.held, .int .i64 F.st.cells]) :: Wc_258 :: Ac :: (acs.set x.toNat M_249).flatten :: Z_231 :: [(b_216, .cells #[.int .i64 v0.heldJob, .int .i64 v0.heldTask] 61 (0, 0))] :: [(b_28, .cells (encTask x_21).toArray 51 (0, 0))] :: [(b_11, .cells #[.int .i64 8, .int .i64 x, .int .i64 0, .int .i64 0, .int .i64 v0.heldJob, .int .i64 v0.heldTask, .int .i64 0] 63 (0, 0))] :: Dc :: dci.flatten :: Qci :: H :: F0) := Sat.perm (show Sat W _ (T_7 :: M_226 :: (jcs.eraseIdx (v0.heldJob.toNat)).flatten :: (Tri p 101 (preF F.cfg wa wn wk aa an ak da dn dk q) (xs.flatMap encFJob) [.int .i64 F.st.starts, .int .i64 (F.st.commits + 1), .int .i64 F.st.drops, .int .i64 F.st.crashes, .int .i64 F.st.steals, .int .i64 F.st.helps, .int .i64 sp, .int .i64 F.st.queued, .int .i64 F.st.held, .int .i64 F.st.cells]) :: Wc_258 :: Ac :: (acs.set x.toNat M_249).flatten :: Z_231 :: [(b_216, .cells #[.int .i64 v0.heldJob, .int .i64 v0.heldTask] 61 (0, 0))] :: [(b_28, .cells (encTask x_21).toArray 51 (0, 0))] :: [(b_11, .cells #[.int .i64 8, .int .i64 x, .int .i64 0, .int .i64 0, .int .i64 v0.heldJob, .int .i64 v0.heldTask, .int .i64 0] 63 (0, 0))] :: Dc :: dci.flatten :: Qci :: H :: F0) from hS_330) (by simp [Value.cells])
    have hS_332 := Sat.shutN (d := T_7 ++ M_226) (A := []) (v0.heldJob.toNat) hc_6 hS_331
    have hL_333 := Obs.set hJs hx_2 (JobM.mk (s := { s_3 with B := (comB s_3.B v0.heldTask v0.attempt).1 }) ha hT_7 hD_7 hV_7 hB_227)
    have hFl := hFi; rw [List.take_of_length_le (by omega)] at hFl
    have hS_334 := ((hS_332.picks [11, 11, 6, 11, 7, 7, 7]).drops [8, 8, 8, 8])
    have hS_335 := (hS_334.merge8)
    have he : (microF F x).1 = (⟨F.cfg, (F.ws.set x.toNat ⟨0, 0, 0, 0, 0, 0, ((F.ar.set x.toNat (relA s_239)).getD x.toNat default).high⟩), (F.ar.set x.toNat (relA s_239)), dqi, qi, (F.jobs.set (v0.heldJob.toNat) ({ s_3 with B := (comB s_3.B v0.heldTask v0.attempt).1 })), (⟨F.st.starts, (F.st.commits + 1), F.st.drops, F.st.crashes, F.st.steals, F.st.helps, sp, F.st.queued, F.st.held, F.st.cells⟩ : Stt)⟩ : FS) := by unfold microF jobAt; simp only [getD_some hv0, getD_some hs_5, getD_some htk, getD_some hs_241]; rw [if_neg (by omega), if_neg (by omega)]; dsimp only; simp only [getD_some (set_at hs_241)] at hFl; simp only [getD_some (set_at hs_241)]; rw [hFl]; rw [if_neg (by omega)]
    exact ⟨_, by unfold microF; simp only [getD_some hv0]; rw [if_neg (by omega), if_neg (by omega)]; rfl, by rw [he]; exact ⟨_, _, _, _, _, _, _, _, _, _, _, _, _, _, _, _, _, _, _, _, rfl, hO_259, hOa, hOd, hL_254, hDi, hQi, hL_333, hxl⟩, hS_335⟩
  refine regionE <| pu3 ?_
  refine sTel (enc := encFJob) (sz := 5) hS_316 (fun _ => rfl) 1 (v0.heldJob.toNat) 12 1 (⟨true, s_3.running, s_3.band, ⟨ta_7, tn_7, tk_7, tl_7⟩, some ⟨b_7, 0, none⟩⟩ : FJob) (⟨true, false, s_3.band, ⟨ta_7, tn_7, tk_7, tl_7⟩, some ⟨b_7, 0, none⟩⟩ : FJob) hx_2 (.bool false) [.bool false] Tryz.sizeOf4 ?_
  intro w_318 hS_319
  refine nilO <| thenK_n <| seqE <| regionE <| pu1 ?_
  refine lA hS_319 6 0 2 (Tryz.isAgg61 _) (Tryz.sizeOf61 _) ?_
  refine pu1 ?_
  refine sT hS_319 8 0 (.agg #[.int .i64 8, .int .i64 x, .int .i64 0, .int .i64 0, .int .i64 v0.heldJob, .int .i64 v0.heldTask, .int .i64 0]) [.int .i64 8, .int .i64 x, .int .i64 0, .int .i64 0, .int .i64 v0.heldJob, .int .i64 v0.heldTask, .int .i64 0] #[.int .i64 8, .int .i64 x, .int .i64 0, .int .i64 0, .int .i64 v0.heldJob, .int .i64 v0.heldTask, .int .i64 0] Tryz.sizeOf63 ?_
  intro w_320 hS_321
  refine nilO <| thenK_n <| retE <| retN (vs := [.agg #[.int .i64 8, .int .i64 x, .int .i64 0, .int .i64 0, .int .i64 v0.heldJob, .int .i64 v0.heldTask, .int .i64 0]]) rfl (.cons (.cell _ _ _ _ (by kernel_rfl) (lvA hS_321 8 0 [.int .i64 8, .int .i64 x, .int .i64 0, .int .i64 0, .int .i64 v0.heldJob, .int .i64 v0.heldTask, .int .i64 0] (Tryz.isAgg63 _) (Tryz.sizeOf63 _) rfl rfl rfl)) .nil) <| ?_
  have htk : s_3.tasks[v0.heldTask.toNat]? = some x_21.v := by rw [← hV_7, List.getElem?_map, hx_24]; rfl
  have hS_322 := (hS_321.picks [10, 1, 10])
  have hS_323 : Sat W _ ((T_7 ++ M_226) :: (jcs.eraseIdx (v0.heldJob.toNat)).flatten :: (Tri p 101 (preF F.cfg wa wn wk aa an ak da dn dk q) ((xs.set (v0.heldJob.toNat) (⟨true, false, s_3.band, ⟨ta_7, tn_7, tk_7, tl_7⟩, some ⟨b_7, 0, none⟩⟩ : FJob)).flatMap encFJob) [.int .i64 F.st.starts, .int .i64 (F.st.commits + 1), .int .i64 F.st.drops, .int .i64 F.st.crashes, .int .i64 F.st.steals, .int .i64 F.st.helps, .int .i64 sp, .int .i64 F.st.queued, .int .i64 F.st.held, .int .i64 F.st.cells]) :: Wc_258 :: Ac :: (acs.set x.toNat M_249).flatten :: Z_231 :: [(b_216, .cells #[.int .i64 v0.heldJob, .int .i64 v0.heldTask] 61 (0, 0))] :: [(b_28, .cells (encTask x_21).toArray 51 (0, 0))] :: [(b_11, .cells #[.int .i64 8, .int .i64 x, .int .i64 0, .int .i64 0, .int .i64 v0.heldJob, .int .i64 v0.heldTask, .int .i64 0] 63 (0, 0))] :: Dc :: dci.flatten :: Qci :: H :: F0) := Sat.perm (show Sat W _ (T_7 :: M_226 :: (jcs.eraseIdx (v0.heldJob.toNat)).flatten :: (Tri p 101 (preF F.cfg wa wn wk aa an ak da dn dk q) ((xs.set (v0.heldJob.toNat) (⟨true, false, s_3.band, ⟨ta_7, tn_7, tk_7, tl_7⟩, some ⟨b_7, 0, none⟩⟩ : FJob)).flatMap encFJob) [.int .i64 F.st.starts, .int .i64 (F.st.commits + 1), .int .i64 F.st.drops, .int .i64 F.st.crashes, .int .i64 F.st.steals, .int .i64 F.st.helps, .int .i64 sp, .int .i64 F.st.queued, .int .i64 F.st.held, .int .i64 F.st.cells]) :: Wc_258 :: Ac :: (acs.set x.toNat M_249).flatten :: Z_231 :: [(b_216, .cells #[.int .i64 v0.heldJob, .int .i64 v0.heldTask] 61 (0, 0))] :: [(b_28, .cells (encTask x_21).toArray 51 (0, 0))] :: [(b_11, .cells #[.int .i64 8, .int .i64 x, .int .i64 0, .int .i64 0, .int .i64 v0.heldJob, .int .i64 v0.heldTask, .int .i64 0] 63 (0, 0))] :: Dc :: dci.flatten :: Qci :: H :: F0) from hS_322) (by simp [Value.cells])
  have hS_324 := Sat.shutN (d := T_7 ++ M_226) (A := []) (v0.heldJob.toNat) hc_6 hS_323
  have hL_325 := Obs.set3 (p' := (⟨true, false, s_3.band, ⟨ta_7, tn_7, tk_7, tl_7⟩, some ⟨b_7, 0, none⟩⟩ : FJob)) hJs hx_2 (JobM.mk (s := { s_3 with B := (comB s_3.B v0.heldTask v0.attempt).1, running := false }) ha hT_7 hD_7 hV_7 hB_227)
  have hFl := hFi; rw [List.take_of_length_le (by omega)] at hFl
  have hS_326 := ((hS_324.picks [11, 11, 6, 11, 7, 7, 7]).drops [8, 8, 8, 8])
  have hS_327 := (hS_326.merge8)
  have he : (microF F x).1 = (⟨F.cfg, (F.ws.set x.toNat ⟨0, 0, 0, 0, 0, 0, ((F.ar.set x.toNat (relA s_239)).getD x.toNat default).high⟩), (F.ar.set x.toNat (relA s_239)), dqi, qi, (F.jobs.set (v0.heldJob.toNat) ({ s_3 with B := (comB s_3.B v0.heldTask v0.attempt).1, running := false })), (⟨F.st.starts, (F.st.commits + 1), F.st.drops, F.st.crashes, F.st.steals, F.st.helps, sp, F.st.queued, F.st.held, F.st.cells⟩ : Stt)⟩ : FS) := by unfold microF jobAt; simp only [getD_some hv0, getD_some hs_5, getD_some htk, getD_some hs_241]; rw [if_neg (by omega), if_neg (by omega)]; dsimp only; simp only [getD_some (set_at hs_241)] at hFl; simp only [getD_some (set_at hs_241)]; rw [hFl]; rw [if_pos (by omega)]
  exact ⟨_, by unfold microF; simp only [getD_some hv0]; rw [if_neg (by omega), if_neg (by omega)]; rfl, by rw [he]; exact ⟨_, _, _, _, _, _, _, _, _, _, _, _, _, _, _, _, _, _, _, _, rfl, hO_259, hOa, hOd, hL_254, hDi, hQi, hL_325, (set_len hxl)⟩, hS_327⟩
end Go.Proofs.YtkadmghedmodbaaGreat

namespace Go.Proofs.YtkadmghedmodbaaGreat
open Go Go.E Go.Proofs.Tryz
set_option linter.all false
set_option maxRecDepth 100000
set_option maxHeartbeats 2000000
variable {W w:World} {H:Chunk} {F:List Chunk}
theorem f_acquire {p:Nat} {F:FS} {M:Chunk} {F0:List Chunk} (hR:FarmR p F M) {K:Int} (hF:FW F K) (hst:StOk F.st K) (x:Int) (c:Int) (hx:0<=x/\x<F.ws.length) (hS:Sat W w (M::H::F0)):
  Calls prog 82 #[Pt p 0,I x,I c] w fun e w'=>(acqF F x c=none/\e= .returned (.tuple #[.agg #[I 0,I 0,I 0,I 0,I 0,I 0,I 0], .bool false])/\Sat W w' (M::H::F0))\/(∃(F':FS) (ev:Evt) (M':Chunk),acqF F x c=some (F',ev)/\e= .returned (.tuple #[.agg (encEvt ev).toArray, .bool true])/\FarmR p F' M'/\Sat W w' (M'::H::F0)):=by
 obtain ⟨wa,aa,da,wn,wk,an,ak,dn,dk,q,xs,ap,dp,Wc,Ac,Dc,Qc,H4,I4,L4,rfl,F4,E4,g3,J4,I3,hQ,K4,N4⟩:=hR
 have hS:Sat W _ ((Tri p 101 (preF F.cfg wa wn wk aa an ak da dn dk q) (xs.flatMap encFJob) (encStt F.st))::Wc::Ac::Dc::H4.flatten::I4.flatten::Qc::L4.flatten::H::F0):=Sat.perm hS (by simp [Value.cells])
 have U4:=F4.len;have o5:=F4.le;have W4:=E4.ll;have Y4:=g3.ll;have P4:=J4.1;have R4:=I3.1;have T4:=K4.1
 have O4:=hF.al;have Q4:=hF.dl;have S4:=hF.jl;have f5:=hF.n;have Z4:=hF.k;have g5:=hst.a;have h5:=hst.b;have i5:=hst.c;have j5:=hst.d;have k5:=hst.e;have l5:=hst.f;have n5:=hst.g
 refine callsK 94 func82 rfl<|jCO 2 rfl<|sAlloc hS zeroValue63 fun l0 _ m0=>jOO 9 rfl<|sMp m0 (ptr_up 1 rfl tri_pre) 10 (.slice da dn dk)<|pu1<|sIO g3 x (x).toNat fun c2 _ _ a1 d2 _=>sMp m0 (d2.up 4 rfl) 0 (Pt c2 0) ?_
 obtain ⟨h0,e2,g0,i0,f2⟩:=Obs.get I3 a1
 have g2:=(m0.pick 6 rfl)
 refine cZ (dq_pop f2 (Sat.flat1 (Sat.openN (A:=[]) x.toNat i0 g2))) ?_
 rintro _ _ (⟨n0,rfl,o0⟩|⟨b0,b1,c1,rfl,i2,o0⟩)
 rotate_left
 ·have j2:=o0.unflat1
  have k2:=(j2.picks [1,1])
  have l2:=Sat.shutN (d:=b1) (A:=[]) x.toNat i0 k2
  have m2:=Obs.set I3 a1 i2
  refine pu3<|sAlloc l2 zeroValue61 fun n2 _ o2=>sTk o2 0 rfl [I b0.job,I b0.task] fun _ d1=>gOO d1 14 [200] rfl ?_
  have p0:RefOk (shapeF F.jobs) b0:=(hF.d _ (List.mem_of_getElem? g0) _ (List.mem_of_getLast? c1))
  obtain ⟨m5,q2,r2,s2,_⟩:=hF.job p0
  have t2:=(d1.picks [9,9,3,9,9,9,9,9])
  have u2:=(t2.merge8)
  have v2:FarmR p (⟨F.cfg,F.ws,F.ar,(F.dq.set x.toNat ({h0 with l:=h0.l.dropLast}:DS)),F.q,F.jobs,F.st⟩:FS) ((Tri p 101 (preF F.cfg wa wn wk aa an ak da dn dk q) (xs.flatMap encFJob) (encStt F.st))++(Wc++(Ac++(Dc++(H4.flatten++((I4.set x.toNat b1).flatten++(Qc++L4.flatten))))))):=⟨_,_,_,_,_,_,_,_,_,_,_,_,_,_,_,_,_,_,_,_,rfl,F4,E4,g3,J4,m2,hQ,K4,N4⟩
  refine cZ (f_take v2 x b0 (by first|omega|(dsimp only;omega)|(simp only [List.length_set];omega)) (by first|omega|(dsimp only;omega)|(simp only [List.length_set];omega)) ⟨p0.1,p0.2.1⟩ q2 r2 s2 (by first|omega|(dsimp only;omega)|(simp only [List.length_set];omega)) u2.flat1) ?_
  rintro _ _ ⟨_,rfl,e1,w2⟩
  have x2:=w2.unflat1
  obtain ⟨e0,q0⟩:∃z,z=takeF (⟨F.cfg,F.ws,F.ar,(F.dq.set x.toNat ({h0 with l:=h0.l.dropLast}:DS)),F.q,F.jobs,F.st⟩:FS) x b0:=⟨_,rfl⟩
  rw [<-q0] at e1
  obtain ⟨N2,T1,B2,T2,Q2,Z1,W1,H2,E2,Z2,W2,A4,D4,Q1,H1,K1,N1,W0,Z0,E1,rfl,J0,C0,G0,N0,Q0,K2,T0,B1⟩:=e1
  have f1:Sat W _ ((Tri p 101 (preF e0.cfg N2 T2 Q2 T1 Z1 W1 B2 H2 E2 Z2) (W2.flatMap encFJob) (encStt e0.st))::Q1::H1::K1::W0.flatten::Z0.flatten::N1::E1.flatten::[(n2, .cells #[I b0.job,I b0.task] 61 (0,0))]::[(l0, .cells #[I 0,I 0,I 0,I 0,I 0,I 0,I 0] 63 (0,0))]::H::F0):=Sat.perm x2 (by simp [Value.cells])
  have a4:=J0.ll;have O3:=C0.ll;have U3:=G0.ll;have B3:=N0.1;have E3:=Q0.1;have H3:=T0.1
  have G4:e0.st.steals=F.st.steals:=by subst q0;rfl
  refine gOO f1 7 [208] rfl<|sTk f1 9 rfl [I 3,I x,I 0,I 0,I b0.job,I b0.task,I 0] fun _ g1=>jOR 5 rfl<|retD g1 9 [I 3,I x,I 0,I 0,I b0.job,I b0.task,I 0] (.bool true) ?_
  have y2:=(g1.drops [8,8])
  have z2:=(y2.merge8)
  have he:acqF F x c=some ((⟨e0.cfg,e0.ws,e0.ar,e0.dq,e0.q,e0.jobs,e0.st⟩:FS),(⟨3,x,0,0,b0.job,b0.task,0⟩:Evt)):=by subst q0;exact acq_own g0 c1
  exact .inr ⟨_,_,_,he,rfl,⟨_,_,_,_,_,_,_,_,_,_,_,_,_,_,_,_,_,_,_,_,rfl,J0,C0,G0,N0,Q0,K2,T0,B1⟩,z2⟩
 have a3:=o0.unflat1
 have b3:=(a3.picks [1,1])
 have h1:=Sat.shutN (d:=e2) (A:=[]) x.toNat i0 b3
 rw [set_same i0] at h1
 refine pu3<|sAlloc h1 zeroValue61 fun i1 _ c3=>sTk c3 0 rfl [I 0,I 0] fun _ j1=>jOO 17 rfl<|sMp j1 (ptr_up 3 rfl tri_pre) 11 (Pt q 0) ?_
 have d3:=(j1.pick 8 rfl)
 refine cZ (iq_pop hQ d3.flat1) ?_
 rintro _ _ (⟨k1,rfl,r0⟩|⟨c0,l1,e3,m1,rfl,f3,r0⟩)
 rotate_left
 ·refine pu3<|sAlloc r0.unflat1 zeroValue61 fun h3 _ i3=>sTk i3 0 rfl [I c0.job,I c0.task] fun _ n1=>gOO n1 14 [200] rfl ?_
  have s0:RefOk (shapeF F.jobs) c0:=(let h:=popB_mem m1;h.1.elim fun l hl=>hF.q l hl.1 _ hl.2)
  obtain ⟨v5,j3,k3,l3,_⟩:=hF.job s0
  have m3:=(n1.picks [10,2,4,10,10,10,10,10])
  have n3:=(m3.merge8)
  have o3:FarmR p (⟨F.cfg,F.ws,F.ar,F.dq,({F.q with bs:=l1}:QS),F.jobs,F.st⟩:FS) ((Tri p 101 (preF F.cfg wa wn wk aa an ak da dn dk q) (xs.flatMap encFJob) (encStt F.st))++(Wc++(Ac++(Dc++(H4.flatten++(I4.flatten++(e3++L4.flatten))))))):=⟨_,_,_,_,_,_,_,_,_,_,_,_,_,_,_,_,_,_,_,_,rfl,F4,E4,g3,J4,I3,f3,K4,N4⟩
  refine cZ (f_take o3 x c0 (by first|omega|(dsimp only;omega)|(simp only [List.length_set];omega)) (by first|omega|(dsimp only;omega)|(simp only [List.length_set];omega)) ⟨s0.1,s0.2.1⟩ j3 k3 l3 (by first|omega|(dsimp only;omega)|(simp only [List.length_set];omega)) n3.flat1) ?_
  rintro _ _ ⟨_,rfl,o1,q3⟩
  have r3:=q3.unflat1
  obtain ⟨f0,t0⟩:∃z,z=takeF (⟨F.cfg,F.ws,F.ar,F.dq,({F.q with bs:=l1}:QS),F.jobs,F.st⟩:FS) x c0:=⟨_,rfl⟩
  rw [<-t0] at o1
  obtain ⟨M2,S1,A2,S2,P2,Y1,V1,G2,D2,Y2,V2,o4,C4,P1,G1,J1,M1,V0,Y0,D1,rfl,I0,B0,E0,M0,P0,J2,S0,A1⟩:=o1
  have q1:Sat W _ ((Tri p 101 (preF f0.cfg M2 S2 P2 S1 Y1 V1 A2 G2 D2 Y2) (V2.flatMap encFJob) (encStt f0.st))::P1::G1::J1::V0.flatten::Y0.flatten::M1::D1.flatten::[(h3, .cells #[I c0.job,I c0.task] 61 (0,0))]::[(i1, .cells #[I 0,I 0] 61 (0,0))]::[(l0, .cells #[I 0,I 0,I 0,I 0,I 0,I 0,I 0] 63 (0,0))]::H::F0):=Sat.perm r3 (by simp [Value.cells])
  have Z3:=I0.ll;have N3:=B0.ll;have T3:=E0.ll;have A3:=M0.1;have D3:=P0.1;have G3:=S0.1
  have G4:f0.st.steals=F.st.steals:=by subst t0;rfl
  refine gOO q1 7 [208] rfl<|sTk q1 10 rfl [I 4,I x,I 0,I 0,I c0.job,I c0.task,I 0] fun _ r1=>jOR 5 rfl<|retD r1 10 [I 4,I x,I 0,I 0,I c0.job,I c0.task,I 0] (.bool true) ?_
  have s3:=(r1.drops [8,8,8])
  have t3:=(s3.merge8)
  have he:acqF F x c=some ((⟨f0.cfg,f0.ws,f0.ar,f0.dq,f0.q,f0.jobs,f0.st⟩:FS),(⟨4,x,0,0,c0.job,c0.task,0⟩:Evt)):=by subst t0;exact acq_inj g0 n0 m1
  exact .inr ⟨_,_,_,he,rfl,⟨_,_,_,_,_,_,_,_,_,_,_,_,_,_,_,_,_,_,_,_,rfl,I0,B0,E0,M0,P0,J2,S0,A1⟩,t3⟩
 refine pu3<|sAlloc r0.unflat1 zeroValue61 fun v3 _ w3=>sTk w3 0 rfl [I 0,I 0] fun _ x3=>jOC 18 rfl<|loopF [0,1,2,6] (γ:=Nat) (fun i R=>⟨[(12,I (i:Int))],R,wn-i,i<=wn/\(firstI (canSteal F c) F.ws.length 0=firstI (canSteal F c) (F.ws.length-i) i)⟩) 0 ⟨x3,om,rfl⟩ ?_
 rintro i ρ _ ⟨u0,hi,M4⟩
 refine jCO 7 rfl<|sMp u0 (ptr_up 5 rfl tri_pre) 8 (.slice wa wn wk)<|jOC 4 rfl<|CD ((i:Int)<(wn:Int)) (fun y3=>jCO 8 rfl<|sTk u0 4 rfl [I 0,I 0,I 0,I 0,I 0,I 0,I 0] fun _ s1=>jOR 4 rfl<|retD s1 4 [I 0,I 0,I 0,I 0,I 0,I 0,I 0] (.bool false)<|(by have z3:=((s1.picks [3,9,9,9,9,9]).drops [6,7,7]);exact .inl ⟨(acq_rest g0 n0 k1).trans (steal_end om M4),rfl,(z3.merge8)⟩)) fun y3=>jCO 9 rfl ?_
 have b4:=(u0.pick 5 rfl)
 refine cZ (f_choice c (i:Int) F.ws.length U4 om om b4) ?_
 rintro _ _ ⟨rfl,v0⟩
 have e6:=choice_bd (n:=(F.ws.length:Int)) (c:=c) (i:=(i:Int)) om om
 refine jOO 8 rfl<|sMp v0 (ptr_up 0 rfl tri_pre) 10 (.slice da dn dk)<|pu1<|sIO g3 (choiceI (F.ws.length:Int) c (i:Int)) ((choiceI (F.ws.length:Int) c (i:Int))).toNat fun c4 _ _ t1 d4 _=>sMp v0 (d4.up 8 rfl) 0 (Pt c4 0) ?_
 obtain ⟨j0,e4,w0,k0,f4⟩:=Obs.get I3 t1
 have g4:=(v0.pick 4 rfl)
 refine cZ (dq_steal f4 (Sat.flat1 (Sat.openN (A:=[]) ((choiceI (F.ws.length:Int) c (i:Int)).toNat) k0 g4))) ?_
 rintro _ _ (⟨i4,rfl,x0⟩|⟨d0,u1,v1,rfl,j4,x0⟩)
 · exact (by have k4:=x0.unflat1;have l4:=(k4.picks [1,1]);have w1:=Sat.shutN (d:=e4) (A:=[]) ((choiceI (F.ws.length:Int) c (i:Int)).toNat) k0 l4;rw [set_same k0] at w1;exact pu3<|sAlloc w1 zeroValue61 fun _ _ m4=>sTk m4 0 rfl [I 0,I 0] fun _ n4=>jOO 14 rfl<|sAdd (i:Int) 1<|jOI 2 rfl<|⟨i+1,od,alB,((n4.picks [6,2,6,6,6]).dropAt 5 rfl),om,(steal_skip om M4 w0 i4)⟩)
 have p4:=x0.unflat1
 have q4:=(p4.picks [1,1])
 have r4:=Sat.shutN (d:=u1) (A:=[]) ((choiceI (F.ws.length:Int) c (i:Int)).toNat) k0 q4
 have s4:=Obs.set I3 t1 j4
 refine pu3<|sAlloc r4 zeroValue61 fun t4 _ u4=>sTk u4 0 rfl [I d0.job,I d0.task] fun _ x1=>gOO x1 14 [200] rfl ?_
 have y0:RefOk (shapeF F.jobs) d0:=(hF.d _ (List.mem_of_getElem? w0) _ (List.mem_of_head? v1))
 obtain ⟨o6,v4,w4,x4,_⟩:=hF.job y0
 have y4:=(x1.picks [11,5,3,11,11,11,11,8])
 have z4:=(y4.merge8)
 have a5:FarmR p (⟨F.cfg,F.ws,F.ar,(F.dq.set ((choiceI (F.ws.length:Int) c (i:Int)).toNat) ({j0 with l:=j0.l.tail}:DS)),F.q,F.jobs,F.st⟩:FS) ((Tri p 101 (preF F.cfg wa wn wk aa an ak da dn dk q) (xs.flatMap encFJob) (encStt F.st))++(Wc++(Ac++(Dc++(H4.flatten++((I4.set ((choiceI (F.ws.length:Int) c (i:Int)).toNat) u1).flatten++(Qc++L4.flatten))))))):=⟨_,_,_,_,_,_,_,_,_,_,_,_,_,_,_,_,_,_,_,_,rfl,F4,E4,g3,J4,s4,hQ,K4,N4⟩
 refine cZ (f_take a5 x d0 (by first|omega|(dsimp only;omega)|(simp only [List.length_set];omega)) (by first|omega|(dsimp only;omega)|(simp only [List.length_set];omega)) ⟨y0.1,y0.2.1⟩ v4 w4 x4 (by first|omega|(dsimp only;omega)|(simp only [List.length_set];omega)) z4.flat1) ?_
 rintro _ _ ⟨_,rfl,y1,b5⟩
 have c5:=b5.unflat1
 obtain ⟨a0,z0⟩:∃z,z=takeF (⟨F.cfg,F.ws,F.ar,(F.dq.set ((choiceI (F.ws.length:Int) c (i:Int)).toNat) ({j0 with l:=j0.l.tail}:DS)),F.q,F.jobs,F.st⟩:FS) x d0:=⟨_,rfl⟩
 rw [<-z0] at y1
 obtain ⟨L2,R1,h2,R2,O2,X1,U1,F2,C2,X2,U2,h4,B4,O1,F1,I1,L1,U0,X0,C1,rfl,H0,A0,D0,L0,O0,I2,R0,K0⟩:=y1
 have z1:Sat W _ ((Tri p 101 (preF a0.cfg L2 R2 O2 R1 X1 U1 h2 F2 C2 X2) (U2.flatMap encFJob) (encStt a0.st))::O1::F1::I1::U0.flatten::X0.flatten::L1::C1.flatten::[(t4, .cells #[I d0.job,I d0.task] 61 (0,0))]::[(v3, .cells #[I 0,I 0] 61 (0,0))]::[(i1, .cells #[I 0,I 0] 61 (0,0))]::[(l0, .cells #[I 0,I 0,I 0,I 0,I 0,I 0,I 0] 63 (0,0))]::H::F0):=Sat.perm c5 (by simp [Value.cells])
 have Y3:=H0.ll;have M3:=A0.ll;have S3:=D0.ll;have u3:=L0.1;have C3:=O0.1;have F3:=R0.1
 have G4:a0.st.steals=F.st.steals:=by subst z0;rfl
 refine jOO 8 rfl<|sMp z1 (ptr_up 0 rfl (tri_post (k:=332) (tri_len (sz:=5) (m:=12) fR K0))) 4 (I a0.st.steals)<|sAdd a0.st.steals 1<|pu3<|sTpost z1 0 332 4 rfl (I (a0.st.steals+1)) [I (a0.st.steals+1)] [I a0.st.starts,I a0.st.commits,I a0.st.drops,I a0.st.crashes,I (a0.st.steals+1),I a0.st.helps,I a0.st.spills,I a0.st.queued,I a0.st.held,I a0.st.cells] (tri_len (sz:=5) (m:=12) fR K0) sizeOf3 fun _ a2=>gOO a2 8 [208] rfl<|sTk a2 11 rfl [I 5,I x,I (choiceI (F.ws.length:Int) c (i:Int)),I 0,I d0.job,I d0.task,I 0] fun _ b2=>jOR 9 rfl<|retD b2 11 [I 5,I x,I (choiceI (F.ws.length:Int) c (i:Int)),I 0,I d0.job,I d0.task,I 0] (.bool true) ?_
 have d5:=(b2.drops [8,8,8,8])
 have e5:=(d5.merge8)
 have he:acqF F x c=some ((⟨a0.cfg,a0.ws,a0.ar,a0.dq,a0.q,a0.jobs,(⟨a0.st.starts,a0.st.commits,a0.st.drops,a0.st.crashes,(a0.st.steals+1),a0.st.helps,a0.st.spills,a0.st.queued,a0.st.held,a0.st.cells⟩:Stt)⟩:FS),(⟨5,x,(choiceI (F.ws.length:Int) c (i:Int)),0,d0.job,d0.task,0⟩:Evt)):=by subst z0;exact (acq_rest g0 n0 k1).trans (steal_at om M4 w0 v1)
 exact .inr ⟨_,_,_,he,rfl,⟨_,_,_,_,_,_,_,_,_,_,_,_,_,_,_,_,_,_,_,_,rfl,H0,A0,D0,L0,O0,I2,R0,K0⟩,e5⟩
end Go.Proofs.YtkadmghedmodbaaGreat
