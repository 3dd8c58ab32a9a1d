import Derived.Test.YtegmennaekipaaaPf4
namespace Go.Proofs.Ytegmennaekipaaa
open Go Go.E
set_option linter.unusedVariables false
set_option linter.unusedSimpArgs false
set_option linter.unnecessarySimpa false
set_option maxRecDepth 100000
set_option maxHeartbeats 2000000
variable {W w : World} {H : Chunk} {F : List Chunk}
theorem pf_crash_g {p : Nat} {F : FS} {M : Chunk} {F0 : List Chunk} (hR : FarmP p F M) {K : Int} (hF : FI F K) {v0 : Wkr} (x : Int) (hx : 0 ≤ x ∧ x < F.ws.length) (hv0 : F.ws[x.toNat]? = some v0) (hS : Sat W w (M :: H :: F0)) :
    Calls Try.prog 31 #[.pointer (some ⟨p, 0, none⟩), .int .i64 x] w fun e w' => ∃ (az : Option Addr) (nz kz : Nat) (G M' : Chunk), e = .returned (.tuple #[.slice az nz kz, .int .i64 (crashF F x).2.2]) ∧ OwnT encEvt 50 7 az nz kz (crashF F x).2.1 G ∧ FarmP p (crashF F x).1 M' ∧ Sat W w' (G :: M' :: H :: F0) := by
  obtain ⟨wb, wo, wn, wk, q, m, xs, jm, Wc, Qc, Jc, acs, dcs, jcs, rfl, hOw, hco, hAs, hDs, hQ, hM, hJs⟩ := hR
  have hS_1 : Sat W _ ((Tri p 81 (preP F.cfg wb wo wn wk q m) (([] : List Ref).flatMap encRef) (encStt F.st)) :: Wc :: acs.flatten :: dcs.flatten :: Qc :: Jc :: jcs.flatten :: H :: F0) := Sat.perm hS (by simp)
  have hwl := hOw.len; have hwk := hOw.le; have hcl := core_len hco; have has1 := hAs.1; have hds1 := hDs.1; rw [List.length_map] at has1 hds1; have hjl1 := hJs.l
  have hs1 := hF.st.a; have hs2 := hF.st.b; have hs3 := hF.st.c; have hs4 := hF.st.d; have hs5 := hF.st.e; have hs6 := hF.st.f; have hs7 := hF.st.g; have hKK := hF.fw.k; have hn9 := hF.fw.n; have hal9 := hF.fw.al; have hdl9 := hF.fw.dl; have hjl9 := hF.fw.jl
  have hax := ar_some hF.fw hx
  refine callsA 103 Try.func31 rfl ?_
  refine seqE <| regionE <| pu2 <| nilO <| thenK_n <| seqE <| seqE <| regionE <| pu2 ?_
  have hS_2 : Sat W _ (((Tri p 81 (preP F.cfg wb wo wn wk q m) (([] : List Ref).flatMap encRef) (encStt F.st)) ++ (Wc ++ (acs.flatten ++ (dcs.flatten ++ (Qc ++ (Jc ++ jcs.flatten)))))) :: H :: F0) := Sat.perm (show Sat W _ ((Tri p 81 (preP F.cfg wb wo wn wk q m) (([] : List Ref).flatMap encRef) (encStt F.st)) :: Wc :: acs.flatten :: dcs.flatten :: Qc :: Jc :: jcs.flatten :: H :: F0) from hS_1) (by simp)
  have hRx_3 : FarmP p F ((Tri p 81 (preP F.cfg wb wo wn wk q m) (([] : List Ref).flatMap encRef) (encStt F.st)) ++ (Wc ++ (acs.flatten ++ (dcs.flatten ++ (Qc ++ (Jc ++ jcs.flatten)))))) := ⟨_, _, _, _, _, _, _, _, _, _, _, _, _, _, rfl, hOw, hco, hAs, hDs, hQ, hM, hJs⟩
  refine cX Try.call51 (pf_worker hRx_3 x (Sat.flat1 hS_2)) ?_
  rintro _ w_4 ⟨rfl, h_5⟩
  have hS_6 := Sat.unflat1 h_5
  have hS_7 : Sat W _ ((Tri p 81 (preP F.cfg wb wo wn wk q m) (([] : List Ref).flatMap encRef) (encStt F.st)) :: Wc :: acs.flatten :: dcs.flatten :: Qc :: Jc :: jcs.flatten :: H :: F0) := Sat.perm hS_6 (by simp)
  refine pu1 <| nilO <| thenK_n <| ?_
  have hc_8 : 0 ≤ x ∧ x < ((F.ws.length : Nat) : Int) := ⟨by omega, by omega⟩
  refine cF _ (congrArg Bool.not (decide_eq_true hc_8)) ?_
  refine skipE <| thenK_n <| seqE <| regionE <| pu3 ?_
  refine sLp hS_7 (ptr_up 0 rfl tri_pre) 8 (.slice (some ⟨wb, wo, none⟩) wn wk) (Try.isAgg79 _) ?_
  refine pu1 ?_
  refine sIdxO hOw x (x).toNat Try.runUnderlying79 Try.sizeOf89 ?_
  intro x_9 b_10 o_11 hx_12 hp_13 hq_14
  obtain ⟨rfl, rfl⟩ := some_addr hq_14
  obtain ⟨v_15, hv_15, hv_150, hv_151, hv_152, hv_153, hv_154⟩ := core_at hco hx_12
  have hvv_v_15 : v_15 = v0 := Option.some.inj (hv_15.symm.trans hv0); rw [hvv_v_15] at hv_150 hv_151 hv_152 hv_153 hv_154
  refine pu1 <| nilO <| thenK_n <| seqE <| seqE <| regionE <| pu3 ?_
  refine sLp hS_7 (hp_13.up 1 rfl) 0 (.int .i64 x_9.phase) (Try.isAgg3 _) ?_
  refine pu1 <| nilO <| thenK_n <| ?_
  refine cE x_9.phase 4 (fun hc_16 => ?_) (fun hc_16 => ?_)
  · refine seqE <| regionE <| pu2 <| nilO <| thenK_n <| retE <| thenK_r <| retT [.slice none 0 0, .int .i64 20] <| ?_
    have hS_17 := Sat.nilc hS_7
    have hS_18 : Sat W _ ([] :: ((Tri p 81 (preP F.cfg wb wo wn wk q m) (([] : List Ref).flatMap encRef) (encStt F.st)) ++ (Wc ++ (acs.flatten ++ (dcs.flatten ++ (Qc ++ (Jc ++ jcs.flatten)))))) :: H :: F0) := Sat.perm (show Sat W _ ([] :: (Tri p 81 (preP F.cfg wb wo wn wk q m) (([] : List Ref).flatMap encRef) (encStt F.st)) :: Wc :: acs.flatten :: dcs.flatten :: Qc :: Jc :: jcs.flatten :: H :: F0) from hS_17) (by simp)
    have he : crashF F x = (F, [], 20) := crash_down ⟨by omega, by omega⟩ hv0 (by omega)
    rw [he]; exact ⟨_, _, _, _, _, rfl, (OwnT.nil (enc := encEvt) (E := 50) (sz := 7) (fun _ => rfl)), ⟨_, _, _, _, _, _, _, _, _, _, _, _, _, _, rfl, hOw, hco, hAs, hDs, hQ, hM, hJs⟩, hS_18⟩
  refine skipE <| thenK_n <| seqE <| regionE <| pu3 ?_
  refine sLpA hS_7 (hp_13.up 1 rfl) 1 [.int .i64 x_9.heldJob, .int .i64 x_9.heldTask] (Try.isAgg48 _) (Try.sizeOf48 _) ?_
  refine sAlloc hS_7 Try.zeroValue48 ?_
  intro b_19 w_20 hS_21
  refine sT hS_21 0 0 (.agg #[.int .i64 x_9.heldJob, .int .i64 x_9.heldTask]) [.int .i64 x_9.heldJob, .int .i64 x_9.heldTask] #[.int .i64 x_9.heldJob, .int .i64 x_9.heldTask] Try.sizeOf48 ?_
  intro w_22 hS_23
  refine nilO <| thenK_n <| seqE <| seqE <| regionE <| pu2 ?_
  have hS_24 : Sat W _ (Wc :: acs.flatten :: dcs.flatten :: Qc :: Jc :: jcs.flatten :: [(b_19, .cells #[.int .i64 x_9.heldJob, .int .i64 x_9.heldTask] 48 (0, 0))] :: (Tri p 81 (preP F.cfg wb wo wn wk q m) (([] : List Ref).flatMap encRef) (encStt F.st)) :: H :: F0) := ((((((hS_23.pick 7 rfl).pick 7 rfl).pick 7 rfl).pick 7 rfl).pick 7 rfl).pick 7 rfl)
  have hS_25 := (hS_24.pick 7 rfl)
  have hS_26 : Sat W _ (((Tri p 81 (preP F.cfg wb wo wn wk q m) (([] : List Ref).flatMap encRef) (encStt F.st)) ++ (Wc ++ (acs.flatten ++ (dcs.flatten ++ (Qc ++ (Jc ++ jcs.flatten)))))) :: [(b_19, .cells #[.int .i64 x_9.heldJob, .int .i64 x_9.heldTask] 48 (0, 0))] :: H :: F0) := Sat.perm (show Sat W _ ((Tri p 81 (preP F.cfg wb wo wn wk q m) (([] : List Ref).flatMap encRef) (encStt F.st)) :: Wc :: acs.flatten :: dcs.flatten :: Qc :: Jc :: jcs.flatten :: [(b_19, .cells #[.int .i64 x_9.heldJob, .int .i64 x_9.heldTask] 48 (0, 0))] :: H :: F0) from hS_25) (by simp)
  have hRx_27 : FarmP p F ((Tri p 81 (preP F.cfg wb wo wn wk q m) (([] : List Ref).flatMap encRef) (encStt F.st)) ++ (Wc ++ (acs.flatten ++ (dcs.flatten ++ (Qc ++ (Jc ++ jcs.flatten)))))) := ⟨_, _, _, _, _, _, _, _, _, _, _, _, _, _, rfl, hOw, hco, hAs, hDs, hQ, hM, hJs⟩
  refine cX Try.call57 (pf_busy hRx_27 hF x (by omega) (Sat.flat1 hS_26)) ?_
  rintro _ w_28 ⟨rfl, h_29⟩
  have hS_30 := Sat.unflat1 h_29
  have hS_31 : Sat W _ ((Tri p 81 (preP F.cfg wb wo wn wk q m) (([] : List Ref).flatMap encRef) (encStt F.st)) :: Wc :: acs.flatten :: dcs.flatten :: Qc :: Jc :: jcs.flatten :: [(b_19, .cells #[.int .i64 x_9.heldJob, .int .i64 x_9.heldTask] 48 (0, 0))] :: H :: F0) := Sat.perm hS_30 (by simp)
  refine nilO <| thenK_n <| ?_
  refine cB (busyW F (wAt F x)) (fun hc_32 => ?_) (fun hc_32 => ?_)
  rotate_left
  · refine skipE <| thenK_n <| seqE <| seqE <| regionE <| pu3 ?_
    refine sLp hS_31 (hp_13.up 1 rfl) 6 (.pointer (some ⟨x_9.d, 0, none⟩)) (Try.isAgg85 _) ?_
    obtain ⟨s_126, c_127, hs_128, hc_129, hR_130⟩ := Obs.get hDs (map_at' hx_12)
    have hS_132 := (hS_31.pick 3 rfl)
    have hS_131 := Sat.openN (A := []) x.toNat hc_129 hS_132
    refine cX Try.call67 (pd_drain hR_130 (Sat.flat1 hS_131)) ?_
    rintro _ w_133 ⟨az_136, nz_137, kz_138, Z_139, M_140, rfl, hO_141, hR_142, hS_134⟩
    have hS_135 := Sat.unflat2 hS_134; have hn_az_136 := hO_141.len; have hl_az_136 := hO_141.le
    have hS_143 := ((hS_135.pick 2 rfl).pick 2 rfl)
    have hS_144 := Sat.shutN (d := M_140) (A := []) x.toNat hc_129 hS_143
    have hL_145 := Obs.set hDs (map_at' hx_12) hR_142
    refine pu2 <| nilO <| thenK_n <| blockE ?_
    have hJx := fun (r : Ref) (hr : RefOk (shapeF F.jobs) r) => ref_job hF.fw hr
    refine loopA (γ := Nat × QS × Chunk) (fun ⟨i, qi, Qci⟩ => [(0, .pointer (some ⟨p, 0, none⟩)), (1, .int .i64 x), (6, .pointer (some ⟨wb, wo + (x).toNat * 7, none⟩)), (7, .pointer (some ⟨b_19, 0, none⟩)), (65, .slice az_136 nz_137 kz_138), (66, .int .i64 ((nz_137 : Nat) : Int)), (67, .int .i64 ((i : Nat) : Int))]) (fun ⟨i, qi, Qci⟩ w => Sat W w ((dcs.set x.toNat M_140).flatten :: Z_139 :: (Tri p 81 (preP F.cfg wb wo wn wk q m) (([] : List Ref).flatMap encRef) (encStt F.st)) :: Wc :: acs.flatten :: Qci :: Jc :: jcs.flatten :: [(b_19, .cells #[.int .i64 x_9.heldJob, .int .i64 x_9.heldTask] 48 (0, 0))] :: H :: F0) ∧ i ≤ nz_137 ∧ (InjP q qi Qci) ∧ (qi = drainQ F.jobs F.q (s_126.l.take i))) (fun ⟨i, qi, Qci⟩ => nz_137 - i) (0, F.q, Qc) ⟨hS_144, by omega, hQ, rfl⟩ ?_
    rintro ⟨i, qi, Qci⟩ ρ w_146 ⟨hS_147, hi, hQi, hqe⟩
    refine seqE <| regionE <| pu1 <| nilO <| thenK_n <| seqE ?_
    refine cD (((i : Nat) : Int) < ((nz_137 : Nat) : Int)) (fun hc_148 => ?_) (fun hc_148 => ?_)
    rotate_left
    · refine exitE <| thenK_x <| thenK_x <| blockK_x <| thenK_n <| seqE <| regionE <| pu1 ?_
      have hS_181 := ((hS_147.pick 4 rfl).pick 4 rfl)
      refine cX Try.call68 (p_rest hOw hAs hx_12 4 hS_181) ?_
      rintro _ w_182 ⟨Wc_184, acs_185, rfl, hO_186, hA_187, hS_183⟩
      refine nilO <| thenK_n <| seqE <| regionE <| pu4 ?_
      refine sLp hS_183 (ptr_up 4 rfl (tri_post (k := 11) (tri_len (sz := 2) (m := 11) (fun _ => rfl) (rfl : ([] : List Ref).length = 0)))) 3 (.int .i64 F.st.crashes) (Try.isAgg3 _) ?_
      refine sAdd F.st.crashes 1 ?_
      refine pu3 ?_
      refine sTpost hS_183 4 11 3 rfl (.int .i64 (F.st.crashes + 1)) [.int .i64 (F.st.crashes + 1)] [.int .i64 F.st.starts, .int .i64 F.st.commits, .int .i64 F.st.drops, .int .i64 (F.st.crashes + 1), .int .i64 F.st.steals, .int .i64 F.st.helps, .int .i64 F.st.spills, .int .i64 F.st.queued, .int .i64 F.st.held, .int .i64 F.st.cells] (tri_len (sz := 2) (m := 11) (fun _ => rfl) (rfl : ([] : List Ref).length = 0)) Try.sizeOf3 ?_
      intro w_188 hS_189
      refine nilO <| thenK_n <| seqE <| regionE <| pu1 ?_
      refine lA hS_189 8 0 2 (Try.isAgg48 _) (Try.sizeOf48 _) ?_
      refine pu1 ?_
      refine sBS hS_189 #[.int .i64 10, .int .i64 x, .int .i64 0, .int .i64 0, .int .i64 x_9.heldJob, .int .i64 x_9.heldTask, .int .i64 0] Try.runUnderlying44 Try.sizeOf50 Try.zeroValue50 ?_
      intro b_190 w_191 hS_192
      refine pu2 <| nilO <| thenK_n <| retE <| retT [.slice (some ⟨b_190, 0, none⟩) 1 1, .int .i64 0] <| ?_
      have hO_193 := OwnT.blk (enc := encEvt) (sz := 7) (b := b_190) (c := #[.int .i64 10, .int .i64 x, .int .i64 0, .int .i64 0, .int .i64 x_9.heldJob, .int .i64 x_9.heldTask, .int .i64 0]) (E := 50) (xs := [(⟨10, x, 0, 0, x_9.heldJob, x_9.heldTask, 0⟩ : Evt)]) (fun _ => rfl) 1 rfl rfl rfl (by omega)
      have hS_194 := ((((hS_192.pick 5 rfl).pick 1 rfl).dropAt 5 rfl).dropAt 8 rfl)
      have hS_195 : Sat W _ ([(b_190, .cells #[.int .i64 10, .int .i64 x, .int .i64 0, .int .i64 0, .int .i64 x_9.heldJob, .int .i64 x_9.heldTask, .int .i64 0] 50 (0, 0))] :: ((Tri p 81 (preP F.cfg wb wo wn wk q m) (([] : List Ref).flatMap encRef) [.int .i64 F.st.starts, .int .i64 F.st.commits, .int .i64 F.st.drops, .int .i64 (F.st.crashes + 1), .int .i64 F.st.steals, .int .i64 F.st.helps, .int .i64 F.st.spills, .int .i64 F.st.queued, .int .i64 F.st.held, .int .i64 F.st.cells]) ++ (Wc_184 ++ (acs_185.flatten ++ ((dcs.set x.toNat M_140).flatten ++ (Qci ++ (Jc ++ jcs.flatten)))))) :: H :: F0) := Sat.perm (show Sat W _ ([(b_190, .cells #[.int .i64 10, .int .i64 x, .int .i64 0, .int .i64 0, .int .i64 x_9.heldJob, .int .i64 x_9.heldTask, .int .i64 0] 50 (0, 0))] :: (Tri p 81 (preP F.cfg wb wo wn wk q m) (([] : List Ref).flatMap encRef) [.int .i64 F.st.starts, .int .i64 F.st.commits, .int .i64 F.st.drops, .int .i64 (F.st.crashes + 1), .int .i64 F.st.steals, .int .i64 F.st.helps, .int .i64 F.st.spills, .int .i64 F.st.queued, .int .i64 F.st.held, .int .i64 F.st.cells]) :: Wc_184 :: acs_185.flatten :: (dcs.set x.toNat M_140).flatten :: Qci :: Jc :: jcs.flatten :: H :: F0) from hS_194) (by simp)
      have he : crashF F x = ((⟨F.cfg, (F.ws.set x.toNat ⟨4, 0, 0, 0, 0, 0, (F.ar.getD x.toNat default).high⟩), (F.ar.set (x).toNat (resetA (F.ar.getD (x).toNat default))), (F.dq.set x.toNat ({ s_126 with l := [] } : DS)), qi, F.jobs, (⟨F.st.starts, F.st.commits, F.st.drops, (F.st.crashes + 1), F.st.steals, F.st.helps, F.st.spills, F.st.queued, F.st.held, F.st.cells⟩ : Stt)⟩ : FS), [(⟨10, x, 0, 0, x_9.heldJob, x_9.heldTask, 0⟩ : Evt)], 0) := (crash_free ⟨by omega, by omega⟩ hv0 (by omega) (by rw [← show wAt F x = v0 from getD_some hv0]; exact Bool.eq_false_iff.2 hc_32) hs_128 hax).trans (by rw [hqe, List.take_of_length_le (by omega), hv_151, hv_152])
      rw [he]; exact ⟨_, _, _, _, _, rfl, hO_193, ⟨_, _, _, _, _, _, _, _, _, _, _, _, _, _, rfl, hO_186, (core_set hco rfl), (by rw [map_setA (x' := (⟨4, 0, 0, 0, 0, x_9.a, x_9.d⟩ : PW)) hx_12 rfl]; exact hA_187), (by rw [map_setD (x' := (⟨4, 0, 0, 0, 0, x_9.a, x_9.d⟩ : PW)) hx_12 rfl]; exact hL_145), hQi, hM, hJs⟩, hS_195⟩
    refine skipE <| thenK_n <| seqE <| blockE <| seqE <| regionE ?_
    refine sIdxO hO_141 ((i : Nat) : Int) i Try.runUnderlying52 Try.sizeOf48 ?_
    intro x_149 b_150 o_151 hx_152 hp_153 hq_154
    have hro_155 := hF.fw.d _ (List.mem_of_getElem? hs_128) _ (List.mem_of_getElem? hx_152); have hro_155_1 := hro_155.1; have hro_155_2 := hro_155.2.1; obtain ⟨j_156, hj_157, ha_158, hro_155_3, hro_155_4⟩ := hJx x_149 hro_155
    refine sLpA hS_147 (hp_153.up 1 rfl) 0 [.int .i64 x_149.job, .int .i64 x_149.task] (Try.isAgg48 _) (Try.sizeOf48 _) ?_
    refine sAlloc hS_147 Try.zeroValue48 ?_
    intro b_159 w_160 hS_161
    refine sT hS_161 0 0 (.agg #[.int .i64 x_149.job, .int .i64 x_149.task]) [.int .i64 x_149.job, .int .i64 x_149.task] #[.int .i64 x_149.job, .int .i64 x_149.task] Try.sizeOf48 ?_
    intro w_162 hS_163
    refine nilO <| thenK_n <| ?_
    obtain ⟨nj_164, bj_164, cj_164, hjmj_164, hjcj_164, hJj_164, hgj_164⟩ := JobsP.get hJs (k := x_149.job) ⟨by omega, by omega⟩ hj_157 ha_158
    obtain ⟨taj_164, tnj_164, tkj_164, tlj_164, bbj_164, Tj_164, Mbj_164, rfl, hTj_164, hDj_164, hVj_164, hBj_164, _, hrj_164⟩ := hJj_164.open
    have hS_165 := (hS_163.pick 8 rfl)
    have hS_166 := Sat.openN (A := []) nj_164 hjcj_164 hS_165
    have hS_167 : Sat W _ ([(bj_164, .cells #[.slice taj_164 tnj_164 tkj_164, .int .i64 j_156.band, .pointer (some ⟨bbj_164, 0, none⟩), .bool (canc j_156)] 97 (0, 0))] :: Tj_164 :: Mbj_164 :: (jcs.eraseIdx nj_164).flatten :: [(b_159, .cells #[.int .i64 x_149.job, .int .i64 x_149.task] 48 (0, 0))] :: (dcs.set x.toNat M_140).flatten :: Z_139 :: (Tri p 81 (preP F.cfg wb wo wn wk q m) (([] : List Ref).flatMap encRef) (encStt F.st)) :: Wc :: acs.flatten :: Qci :: Jc :: [(b_19, .cells #[.int .i64 x_9.heldJob, .int .i64 x_9.heldTask] 48 (0, 0))] :: H :: F0) := Sat.perm hS_166 (by simp)
    have hn_taj_164 := hTj_164.len; have hl_taj_164 := hTj_164.le; have hm_taj_164 := congrArg List.length hVj_164; rw [List.length_map] at hm_taj_164
    refine drawE [11, 15] [(3, ⟨p, 9, none⟩, .pointer (some ⟨q, 0, none⟩)), (4, ⟨b_159, 0, none⟩, .int .i64 x_149.job), (4, ⟨b_159, 1, none⟩, .int .i64 x_149.task), (8, ⟨p, 10, none⟩, .map (some m)), (10, ⟨b_159, 0, none⟩, .int .i64 x_149.job), (14, ⟨bj_164, 1, none⟩, .int .i64 j_156.band)] [(true, [0, 1, 2, 5, 6, 7, 9]), (true, [3]), (true, [4]), (true, [8]), (true, [10]), (false, [11]), (true, [12, 13]), (true, [14]), (false, [15])] rfl (by kernel_rfl) ⟨.inr (cell_up hS_167 7 rfl (k := 9) tri_pre rfl), .inr (hS_167.cell 4 rfl rfl), .inr (hS_167.cell 4 rfl rfl), .inr (cell_up hS_167 7 rfl (k := 10) tri_pre rfl), .inr (hS_167.cell 4 rfl rfl), .inr (hS_167.cell 0 rfl rfl), trivial⟩ ?_
    have hS_168 := hS_167.drew
    refine wU [0, 1, 2, 5, 6, 7, 9] ?_
    refine wLd (.pointer (some ⟨q, 0, none⟩)) 0 Try.isAgg75 ?_
    refine wY (.agg #[.int .i64 x_149.job, .int .i64 x_149.task]) rfl (fun w hF => Y_loadF rfl (Try.isAgg48 w) (Try.sizeOf48 w) (by kernel_rfl) rfl ⟨hF 1 _ _ rfl, hF 2 _ _ rfl, trivial⟩) ?_
    refine wLd (.map (some m)) 3 Try.isAgg78 ?_
    refine wLd (.int .i64 x_149.job) 4 Try.isAgg3 ?_
    refine wO rfl ?_
    refine stepY (.pointer (some ⟨bj_164, 0, none⟩)) rfl rfl (Y_iget (k := x_149.job) hS_168 11 hM (by rw [hgj_164]; rfl) Try.runUnderlying78 Try.runUnderlying3 Try.zeroValue90) ?_
    refine nilO ⟨⟨.inr (cell_up hS_168 7 rfl (k := 9) tri_pre rfl), .inr (hS_168.cell 4 rfl rfl), .inr (hS_168.cell 4 rfl rfl), .inl (by kernel_rfl), .inl (by kernel_rfl), .inr (hS_168.cell 0 rfl rfl), trivial⟩, ?_⟩
    refine wU [12, 13] ?_
    refine wLd (.int .i64 j_156.band) 5 Try.isAgg3 ?_
    refine wO rfl ?_
    have hS_169 := (hS_168.pick 10 rfl)
    refine cX Try.call50 (pq_push hQi x_149 j_156.band (by omega) (Sat.flat1 hS_169)) ?_
    rintro _ w_170 ⟨M_173, rfl, hR_174, hS_171⟩
    have hS_172 := Sat.unflat1 hS_171
    refine nilO ⟨⟨.inl (by kernel_rfl), .inl (by kernel_rfl), .inl (by kernel_rfl), .inl (by kernel_rfl), .inl (by kernel_rfl), .inl (by kernel_rfl), trivial⟩, ?_⟩
    refine wN ?_
    have hS_178 := ((((hS_172.pick 4 rfl).pick 4 rfl).pick 4 rfl).pick 4 rfl)
    have hS_175 : Sat W _ (([(bj_164, .cells #[.slice taj_164 tnj_164 tkj_164, .int .i64 j_156.band, .pointer (some ⟨bbj_164, 0, none⟩), .bool (canc j_156)] 97 (0, 0))] ++ (Tj_164 ++ Mbj_164)) :: (jcs.eraseIdx nj_164).flatten :: M_173 :: [(b_159, .cells #[.int .i64 x_149.job, .int .i64 x_149.task] 48 (0, 0))] :: (dcs.set x.toNat M_140).flatten :: Z_139 :: (Tri p 81 (preP F.cfg wb wo wn wk q m) (([] : List Ref).flatMap encRef) (encStt F.st)) :: Wc :: acs.flatten :: Jc :: [(b_19, .cells #[.int .i64 x_9.heldJob, .int .i64 x_9.heldTask] 48 (0, 0))] :: H :: F0) := Sat.perm (show Sat W _ ([(bj_164, .cells #[.slice taj_164 tnj_164 tkj_164, .int .i64 j_156.band, .pointer (some ⟨bbj_164, 0, none⟩), .bool (canc j_156)] 97 (0, 0))] :: Tj_164 :: Mbj_164 :: (jcs.eraseIdx nj_164).flatten :: M_173 :: [(b_159, .cells #[.int .i64 x_149.job, .int .i64 x_149.task] 48 (0, 0))] :: (dcs.set x.toNat M_140).flatten :: Z_139 :: (Tri p 81 (preP F.cfg wb wo wn wk q m) (([] : List Ref).flatMap encRef) (encStt F.st)) :: Wc :: acs.flatten :: Jc :: [(b_19, .cells #[.int .i64 x_9.heldJob, .int .i64 x_9.heldTask] 48 (0, 0))] :: H :: F0) from hS_178) (by simp)
    have hS_176 := Sat.shutN (d := ([(bj_164, .cells #[.slice taj_164 tnj_164 tkj_164, .int .i64 j_156.band, .pointer (some ⟨bbj_164, 0, none⟩), .bool (canc j_156)] 97 (0, 0))] ++ (Tj_164 ++ Mbj_164))) (A := []) nj_164 hjcj_164 hS_175
    rw [set_same hjcj_164] at hS_176
    refine blockK_n <| thenK_n <| regionE ?_
    refine sAdd ((i : Nat) : Int) 1 ?_
    refine pu1 <| nilO <| thenK_n <| ?_
    have hS_179 : Sat W _ (Z_139 :: (Tri p 81 (preP F.cfg wb wo wn wk q m) (([] : List Ref).flatMap encRef) (encStt F.st)) :: Wc :: acs.flatten :: M_173 :: Jc :: jcs.flatten :: [(b_159, .cells #[.int .i64 x_149.job, .int .i64 x_149.task] 48 (0, 0))] :: (dcs.set x.toNat M_140).flatten :: [(b_19, .cells #[.int .i64 x_9.heldJob, .int .i64 x_9.heldTask] 48 (0, 0))] :: H :: F0) := ((((((hS_176.pick 8 rfl).pick 2 rfl).pick 8 rfl).pick 8 rfl).pick 8 rfl).pick 8 rfl)
    have hS_180 := ((hS_179.pick 8 rfl).dropAt 8 rfl)
    exact ⟨(i + 1, (pushQ qi x_149 j_156.band), M_173), by first | omega | (dsimp only; omega), alA, hS_180, by omega, hR_174, (by rw [drain_take hx_152, ← hqe]; unfold pushR; rw [getD_some hj_157])⟩
  refine seqE ?_
  have hbh := busy_holds hc_32; rw [show wAt F x = v0 from getD_some hv0] at hbh; have hh := hbh.1
  obtain ⟨j, hj, ha, hz⟩ := hF.h.h _ _ hv0 hh; have hjo := hF.fw.j j (List.mem_of_getElem? hj); obtain ⟨hBW, hdl, hb1, hb2⟩ := hjo.b ha; have hjn := hjo.n; have hwo := hF.fw.w v0 (List.mem_of_getElem? hv0); have hk0 := hwo.h; have hr0 := hwo.r; have hlt := held_lt hBW hz; have hph : v0.phase = 1 ∨ v0.phase = 2 ∨ v0.phase = 3 := hh
  obtain ⟨nj_33, bj_33, cj_33, hjmj_33, hjcj_33, hJj_33, hgj_33⟩ := JobsP.get hJs (k := v0.heldJob) ⟨by omega, by omega⟩ hj ha
  obtain ⟨taj_33, tnj_33, tkj_33, tlj_33, bbj_33, Tj_33, Mbj_33, rfl, hTj_33, hDj_33, hVj_33, hBj_33, _, hrj_33⟩ := hJj_33.open
  have hS_34 := (hS_31.pick 6 rfl)
  have hS_35 := Sat.openN (A := []) nj_33 hjcj_33 hS_34
  have hS_36 : Sat W _ ([(bj_33, .cells #[.slice taj_33 tnj_33 tkj_33, .int .i64 j.band, .pointer (some ⟨bbj_33, 0, none⟩), .bool (canc j)] 97 (0, 0))] :: Tj_33 :: Mbj_33 :: (jcs.eraseIdx nj_33).flatten :: (Tri p 81 (preP F.cfg wb wo wn wk q m) (([] : List Ref).flatMap encRef) (encStt F.st)) :: Wc :: acs.flatten :: dcs.flatten :: Qc :: Jc :: [(b_19, .cells #[.int .i64 x_9.heldJob, .int .i64 x_9.heldTask] 48 (0, 0))] :: H :: F0) := Sat.perm hS_35 (by simp)
  have hn_taj_33 := hTj_33.len; have hl_taj_33 := hTj_33.le; have hm_taj_33 := congrArg List.length hVj_33; rw [List.length_map] at hm_taj_33
  have hrun : j.running = true := by have h9 := hbh.2; unfold jobAt at h9; rw [getD_some hj] at h9; exact h9
  refine drawE [6] [(3, ⟨p, 10, none⟩, .map (some m)), (5, ⟨b_19, 0, none⟩, .int .i64 x_9.heldJob)] [(true, [0, 1, 2, 4]), (true, [3]), (true, [5]), (false, [6]), (true, [7])] rfl (by kernel_rfl) ⟨.inr (cell_up hS_36 4 rfl (k := 10) tri_pre rfl), .inr (hS_36.cell 10 rfl rfl), trivial⟩ ?_
  have hS_37 := hS_36.drew
  refine wU [0, 1, 2, 4] ?_
  refine wLd (.map (some m)) 0 Try.isAgg78 ?_
  refine wLd (.int .i64 x_9.heldJob) 1 Try.isAgg3 ?_
  refine wO rfl ?_
  refine stepY (.pointer (some ⟨bj_33, 0, none⟩)) rfl rfl (Y_iget (k := x_9.heldJob) hS_37 9 hM (by rw [hv_151, hgj_33]; rfl) Try.runUnderlying78 Try.runUnderlying3 Try.zeroValue90) ?_
  refine nilO ⟨⟨.inl (by kernel_rfl), .inl (by kernel_rfl), trivial⟩, ?_⟩
  refine wU [7] ?_
  refine wN ?_
  refine thenK_n <| seqE ?_
  refine drawE [10] [(3, ⟨bj_33, 2, none⟩, .pointer (some ⟨bbj_33, 0, none⟩)), (5, ⟨b_19, 1, none⟩, .int .i64 x_9.heldTask), (9, ⟨wb, wo + (x).toNat * 7 + 3, none⟩, .int .i64 x_9.attempt)] [(true, [0, 1, 2, 4, 6, 7, 8]), (true, [3]), (true, [5]), (true, [9]), (false, [10])] rfl (by kernel_rfl) ⟨.inr (hS_37.cell 0 rfl rfl), .inr (hS_37.cell 10 rfl rfl), .inr ((hp_13.up 5 rfl).cell hS_37 (k := 3) rfl), trivial⟩ ?_
  have hS_38 := hS_37.drew
  refine wU [0, 1, 2, 4, 6, 7, 8] ?_
  refine wLd (.pointer (some ⟨bbj_33, 0, none⟩)) 0 Try.isAgg91 ?_
  refine wLd (.int .i64 x_9.heldTask) 1 Try.isAgg3 ?_
  refine wLd (.int .i64 x_9.attempt) 2 Try.isAgg3 ?_
  refine wO rfl ?_
  have hS_39 := (hS_38.pick 2 rfl)
  refine cX Try.call66 (b_return hBj_33 hBW x_9.heldTask x_9.attempt (by omega) (Sat.flat1 hS_39)) ?_
  rintro _ w_40 ⟨M_43, rfl, hB_44, hS_41⟩
  have hS_42 := Sat.unflat1 hS_41; rw [hv_152, hv_153] at hB_44
  refine nilO ⟨⟨.inl (by kernel_rfl), .inl (by kernel_rfl), .inl (by kernel_rfl), trivial⟩, ?_⟩
  refine wN ?_
  refine thenK_n <| ?_
  refine drawE [9] [(3, ⟨p, 9, none⟩, .pointer (some ⟨q, 0, none⟩)), (4, ⟨b_19, 0, none⟩, .int .i64 x_9.heldJob), (4, ⟨b_19, 1, none⟩, .int .i64 x_9.heldTask), (8, ⟨bj_33, 1, none⟩, .int .i64 j.band)] [(true, [0, 1, 2, 5, 6, 7]), (true, [3]), (true, [4]), (true, [8]), (false, [9])] rfl (by kernel_rfl) ⟨.inr (cell_up hS_42 4 rfl (k := 9) tri_pre rfl), .inr (hS_42.cell 10 rfl rfl), .inr (hS_42.cell 10 rfl rfl), .inr (hS_42.cell 1 rfl rfl), trivial⟩ ?_
  have hS_45 := hS_42.drew
  refine wU [0, 1, 2, 5, 6, 7] ?_
  refine wLd (.pointer (some ⟨q, 0, none⟩)) 0 Try.isAgg75 ?_
  refine wY (.agg #[.int .i64 x_9.heldJob, .int .i64 x_9.heldTask]) rfl (fun w hF => Y_loadF rfl (Try.isAgg48 w) (Try.sizeOf48 w) (by kernel_rfl) rfl ⟨hF 1 _ _ rfl, hF 2 _ _ rfl, trivial⟩) ?_
  refine wLd (.int .i64 j.band) 3 Try.isAgg3 ?_
  refine wO rfl ?_
  have hS_46 := (hS_45.pick 8 rfl)
  refine cX Try.call50 (pq_push hQ (⟨x_9.heldJob, x_9.heldTask⟩ : Ref) j.band (by omega) (Sat.flat1 hS_46)) ?_
  rintro _ w_47 ⟨M_50, rfl, hR_51, hS_48⟩
  have hS_49 := Sat.unflat1 hS_48
  refine nilO ⟨⟨.inl (by kernel_rfl), .inl (by kernel_rfl), .inl (by kernel_rfl), .inl (by kernel_rfl), trivial⟩, ?_⟩
  refine wN ?_
  refine thenK_n <| seqE <| seqE <| regionE <| pu3 ?_
  refine sLp hS_49 (hp_13.up 6 rfl) 6 (.pointer (some ⟨x_9.d, 0, none⟩)) (Try.isAgg85 _) ?_
  obtain ⟨s_52, c_53, hs_54, hc_55, hR_56⟩ := Obs.get hDs (map_at' hx_12)
  have hS_58 := (hS_49.pick 8 rfl)
  have hS_57 := Sat.openN (A := []) x.toNat hc_55 hS_58
  refine cX Try.call67 (pd_drain hR_56 (Sat.flat1 hS_57)) ?_
  rintro _ w_59 ⟨az_62, nz_63, kz_64, Z_65, M_66, rfl, hO_67, hR_68, hS_60⟩
  have hS_61 := Sat.unflat2 hS_60; have hn_az_62 := hO_67.len; have hl_az_62 := hO_67.le
  have hS_69 := ((hS_61.pick 2 rfl).pick 2 rfl)
  have hS_70 := Sat.shutN (d := M_66) (A := []) x.toNat hc_55 hS_69
  have hL_71 := Obs.set hDs (map_at' hx_12) hR_68
  refine pu2 <| nilO <| thenK_n <| blockE ?_
  have hS_75 := ((((hS_70.pick 6 rfl).pick 4 rfl).pick 6 rfl).pick 6 rfl)
  have hS_72 : Sat W _ (([(bj_33, .cells #[.slice taj_33 tnj_33 tkj_33, .int .i64 j.band, .pointer (some ⟨bbj_33, 0, none⟩), .bool (canc j)] 97 (0, 0))] ++ (Tj_33 ++ M_43)) :: (jcs.eraseIdx nj_33).flatten :: (dcs.set x.toNat M_66).flatten :: Z_65 :: M_50 :: (Tri p 81 (preP F.cfg wb wo wn wk q m) (([] : List Ref).flatMap encRef) (encStt F.st)) :: Wc :: acs.flatten :: Jc :: [(b_19, .cells #[.int .i64 x_9.heldJob, .int .i64 x_9.heldTask] 48 (0, 0))] :: H :: F0) := Sat.perm (show Sat W _ ([(bj_33, .cells #[.slice taj_33 tnj_33 tkj_33, .int .i64 j.band, .pointer (some ⟨bbj_33, 0, none⟩), .bool (canc j)] 97 (0, 0))] :: Tj_33 :: M_43 :: (jcs.eraseIdx nj_33).flatten :: (dcs.set x.toNat M_66).flatten :: Z_65 :: M_50 :: (Tri p 81 (preP F.cfg wb wo wn wk q m) (([] : List Ref).flatMap encRef) (encStt F.st)) :: Wc :: acs.flatten :: Jc :: [(b_19, .cells #[.int .i64 x_9.heldJob, .int .i64 x_9.heldTask] 48 (0, 0))] :: H :: F0) from hS_75) (by simp)
  have hS_73 := Sat.shutN (d := ([(bj_33, .cells #[.slice taj_33 tnj_33 tkj_33, .int .i64 j.band, .pointer (some ⟨bbj_33, 0, none⟩), .bool (canc j)] 97 (0, 0))] ++ (Tj_33 ++ M_43))) (A := []) nj_33 hjcj_33 hS_72
  have hL_74 := JobsP.set hJs (k := v0.heldJob) (j2 := { j with B := (retB j.B v0.heldTask v0.attempt) }) ⟨by omega, by omega⟩ hjmj_33 (JobP.mk (s := { j with B := (retB j.B v0.heldTask v0.attempt) }) (cn := (canc j)) hTj_33 hDj_33 hVj_33 hB_44 ha (fun h => by show doneOf (retB j.B v0.heldTask v0.attempt) < _; rw [ret_done]; exact hrj_33 h) (by unfold canc; dsimp only; rw [ret_done])) ha
  have hJx := fun (r : Ref) (hr : RefOk (shapeF F.jobs) r) => ref_set (B := (retB j.B v0.heldTask v0.attempt)) hF.fw hj hr
  refine loopA (γ := Nat × QS × Chunk) (fun ⟨i, qi, Qci⟩ => [(0, .pointer (some ⟨p, 0, none⟩)), (1, .int .i64 x), (6, .pointer (some ⟨wb, wo + (x).toNat * 7, none⟩)), (7, .pointer (some ⟨b_19, 0, none⟩)), (65, .slice az_62 nz_63 kz_64), (66, .int .i64 ((nz_63 : Nat) : Int)), (67, .int .i64 ((i : Nat) : Int))]) (fun ⟨i, qi, Qci⟩ w => Sat W w ((jcs.set nj_33 ([(bj_33, .cells #[.slice taj_33 tnj_33 tkj_33, .int .i64 j.band, .pointer (some ⟨bbj_33, 0, none⟩), .bool (canc j)] 97 (0, 0))] ++ (Tj_33 ++ M_43))).flatten :: (dcs.set x.toNat M_66).flatten :: Z_65 :: Qci :: (Tri p 81 (preP F.cfg wb wo wn wk q m) (([] : List Ref).flatMap encRef) (encStt F.st)) :: Wc :: acs.flatten :: Jc :: [(b_19, .cells #[.int .i64 x_9.heldJob, .int .i64 x_9.heldTask] 48 (0, 0))] :: H :: F0) ∧ i ≤ nz_63 ∧ (InjP q qi Qci) ∧ (qi = drainQ (F.jobs.set v0.heldJob.toNat ({ j with B := (retB j.B v0.heldTask v0.attempt) })) (pushQ F.q (⟨x_9.heldJob, x_9.heldTask⟩ : Ref) j.band) (s_52.l.take i))) (fun ⟨i, qi, Qci⟩ => nz_63 - i) (0, (pushQ F.q (⟨x_9.heldJob, x_9.heldTask⟩ : Ref) j.band), M_50) ⟨hS_73, by omega, hR_51, rfl⟩ ?_
  rintro ⟨i, qi, Qci⟩ ρ w_76 ⟨hS_77, hi, hQi, hqe⟩
  refine seqE <| regionE <| pu1 <| nilO <| thenK_n <| seqE ?_
  refine cD (((i : Nat) : Int) < ((nz_63 : Nat) : Int)) (fun hc_78 => ?_) (fun hc_78 => ?_)
  rotate_left
  · refine exitE <| thenK_x <| thenK_x <| blockK_x <| thenK_n <| seqE <| regionE <| pu1 ?_
    have hS_110 := ((hS_77.pick 6 rfl).pick 6 rfl)
    refine cX Try.call68 (p_rest hOw hAs hx_12 4 hS_110) ?_
    rintro _ w_111 ⟨Wc_113, acs_114, rfl, hO_115, hA_116, hS_112⟩
    refine nilO <| thenK_n <| seqE <| regionE <| pu4 ?_
    refine sLp hS_112 (ptr_up 6 rfl (tri_post (k := 11) (tri_len (sz := 2) (m := 11) (fun _ => rfl) (rfl : ([] : List Ref).length = 0)))) 3 (.int .i64 F.st.crashes) (Try.isAgg3 _) ?_
    refine sAdd F.st.crashes 1 ?_
    refine pu3 ?_
    refine sTpost hS_112 6 11 3 rfl (.int .i64 (F.st.crashes + 1)) [.int .i64 (F.st.crashes + 1)] [.int .i64 F.st.starts, .int .i64 F.st.commits, .int .i64 F.st.drops, .int .i64 (F.st.crashes + 1), .int .i64 F.st.steals, .int .i64 F.st.helps, .int .i64 F.st.spills, .int .i64 F.st.queued, .int .i64 F.st.held, .int .i64 F.st.cells] (tri_len (sz := 2) (m := 11) (fun _ => rfl) (rfl : ([] : List Ref).length = 0)) Try.sizeOf3 ?_
    intro w_117 hS_118
    refine nilO <| thenK_n <| seqE <| regionE <| pu1 ?_
    refine lA hS_118 8 0 2 (Try.isAgg48 _) (Try.sizeOf48 _) ?_
    refine pu1 ?_
    refine sBS hS_118 #[.int .i64 10, .int .i64 x, .int .i64 0, .int .i64 0, .int .i64 x_9.heldJob, .int .i64 x_9.heldTask, .int .i64 0] Try.runUnderlying44 Try.sizeOf50 Try.zeroValue50 ?_
    intro b_119 w_120 hS_121
    refine pu2 <| nilO <| thenK_n <| retE <| retT [.slice (some ⟨b_119, 0, none⟩) 1 1, .int .i64 0] <| ?_
    have hO_122 := OwnT.blk (enc := encEvt) (sz := 7) (b := b_119) (c := #[.int .i64 10, .int .i64 x, .int .i64 0, .int .i64 0, .int .i64 x_9.heldJob, .int .i64 x_9.heldTask, .int .i64 0]) (E := 50) (xs := [(⟨10, x, 0, 0, x_9.heldJob, x_9.heldTask, 0⟩ : Evt)]) (fun _ => rfl) 1 rfl rfl rfl (by omega)
    have hS_123 : Sat W _ ((Tri p 81 (preP F.cfg wb wo wn wk q m) (([] : List Ref).flatMap encRef) [.int .i64 F.st.starts, .int .i64 F.st.commits, .int .i64 F.st.drops, .int .i64 (F.st.crashes + 1), .int .i64 F.st.steals, .int .i64 F.st.helps, .int .i64 F.st.spills, .int .i64 F.st.queued, .int .i64 F.st.held, .int .i64 F.st.cells]) :: Wc_113 :: acs_114.flatten :: (dcs.set x.toNat M_66).flatten :: Qci :: Jc :: [(b_119, .cells #[.int .i64 10, .int .i64 x, .int .i64 0, .int .i64 0, .int .i64 x_9.heldJob, .int .i64 x_9.heldTask, .int .i64 0] 50 (0, 0))] :: (jcs.set nj_33 ([(bj_33, .cells #[.slice taj_33 tnj_33 tkj_33, .int .i64 j.band, .pointer (some ⟨bbj_33, 0, none⟩), .bool (canc j)] 97 (0, 0))] ++ (Tj_33 ++ M_43))).flatten :: Z_65 :: [(b_19, .cells #[.int .i64 x_9.heldJob, .int .i64 x_9.heldTask] 48 (0, 0))] :: H :: F0) := ((((((hS_121.pick 8 rfl).pick 7 rfl).pick 6 rfl).pick 5 rfl).pick 5 rfl).pick 8 rfl)
    have hS_124 := (((hS_123.pick 6 rfl).dropAt 8 rfl).dropAt 8 rfl)
    have hS_125 : Sat W _ ([(b_119, .cells #[.int .i64 10, .int .i64 x, .int .i64 0, .int .i64 0, .int .i64 x_9.heldJob, .int .i64 x_9.heldTask, .int .i64 0] 50 (0, 0))] :: ((Tri p 81 (preP F.cfg wb wo wn wk q m) (([] : List Ref).flatMap encRef) [.int .i64 F.st.starts, .int .i64 F.st.commits, .int .i64 F.st.drops, .int .i64 (F.st.crashes + 1), .int .i64 F.st.steals, .int .i64 F.st.helps, .int .i64 F.st.spills, .int .i64 F.st.queued, .int .i64 F.st.held, .int .i64 F.st.cells]) ++ (Wc_113 ++ (acs_114.flatten ++ ((dcs.set x.toNat M_66).flatten ++ (Qci ++ (Jc ++ (jcs.set nj_33 ([(bj_33, .cells #[.slice taj_33 tnj_33 tkj_33, .int .i64 j.band, .pointer (some ⟨bbj_33, 0, none⟩), .bool (canc j)] 97 (0, 0))] ++ (Tj_33 ++ M_43))).flatten)))))) :: H :: F0) := Sat.perm (show Sat W _ ([(b_119, .cells #[.int .i64 10, .int .i64 x, .int .i64 0, .int .i64 0, .int .i64 x_9.heldJob, .int .i64 x_9.heldTask, .int .i64 0] 50 (0, 0))] :: (Tri p 81 (preP F.cfg wb wo wn wk q m) (([] : List Ref).flatMap encRef) [.int .i64 F.st.starts, .int .i64 F.st.commits, .int .i64 F.st.drops, .int .i64 (F.st.crashes + 1), .int .i64 F.st.steals, .int .i64 F.st.helps, .int .i64 F.st.spills, .int .i64 F.st.queued, .int .i64 F.st.held, .int .i64 F.st.cells]) :: Wc_113 :: acs_114.flatten :: (dcs.set x.toNat M_66).flatten :: Qci :: Jc :: (jcs.set nj_33 ([(bj_33, .cells #[.slice taj_33 tnj_33 tkj_33, .int .i64 j.band, .pointer (some ⟨bbj_33, 0, none⟩), .bool (canc j)] 97 (0, 0))] ++ (Tj_33 ++ M_43))).flatten :: H :: F0) from hS_124) (by simp)
    have he : crashF F x = ((⟨F.cfg, (F.ws.set x.toNat ⟨4, 0, 0, 0, 0, 0, (F.ar.getD x.toNat default).high⟩), (F.ar.set (x).toNat (resetA (F.ar.getD (x).toNat default))), (F.dq.set x.toNat ({ s_52 with l := [] } : DS)), qi, (F.jobs.set v0.heldJob.toNat ({ j with B := (retB j.B v0.heldTask v0.attempt) })), (⟨F.st.starts, F.st.commits, F.st.drops, (F.st.crashes + 1), F.st.steals, F.st.helps, F.st.spills, F.st.queued, F.st.held, F.st.cells⟩ : Stt)⟩ : FS), [(⟨10, x, 0, 0, x_9.heldJob, x_9.heldTask, 0⟩ : Evt)], 0) := (crash_busy ⟨by omega, by omega⟩ hv0 hh hj hrun hs_54 hax).trans (by rw [hqe, List.take_of_length_le (by omega), drain_set hj, hv_151, hv_152])
    rw [he]; exact ⟨_, _, _, _, _, rfl, hO_122, ⟨_, _, _, _, _, _, _, _, _, _, _, _, _, _, rfl, hO_115, (core_set hco rfl), (by rw [map_setA (x' := (⟨4, 0, 0, 0, 0, x_9.a, x_9.d⟩ : PW)) hx_12 rfl]; exact hA_116), (by rw [map_setD (x' := (⟨4, 0, 0, 0, 0, x_9.a, x_9.d⟩ : PW)) hx_12 rfl]; exact hL_71), hQi, hM, hL_74⟩, hS_125⟩
  refine skipE <| thenK_n <| seqE <| blockE <| seqE <| regionE ?_
  refine sIdxO hO_67 ((i : Nat) : Int) i Try.runUnderlying52 Try.sizeOf48 ?_
  intro x_79 b_80 o_81 hx_82 hp_83 hq_84
  have hro_85 := hF.fw.d _ (List.mem_of_getElem? hs_54) _ (List.mem_of_getElem? hx_82); have hro_85_1 := hro_85.1; have hro_85_2 := hro_85.2.1; obtain ⟨j_86, hj_87, ha_88, hro_85_3, hro_85_4⟩ := hJx x_79 hro_85
  refine sLpA hS_77 (hp_83.up 2 rfl) 0 [.int .i64 x_79.job, .int .i64 x_79.task] (Try.isAgg48 _) (Try.sizeOf48 _) ?_
  refine sAlloc hS_77 Try.zeroValue48 ?_
  intro b_89 w_90 hS_91
  refine sT hS_91 0 0 (.agg #[.int .i64 x_79.job, .int .i64 x_79.task]) [.int .i64 x_79.job, .int .i64 x_79.task] #[.int .i64 x_79.job, .int .i64 x_79.task] Try.sizeOf48 ?_
  intro w_92 hS_93
  refine nilO <| thenK_n <| ?_
  obtain ⟨nj_94, bj_94, cj_94, hjmj_94, hjcj_94, hJj_94, hgj_94⟩ := JobsP.get hL_74 (k := x_79.job) ⟨by omega, by omega⟩ hj_87 ha_88
  obtain ⟨taj_94, tnj_94, tkj_94, tlj_94, bbj_94, Tj_94, Mbj_94, rfl, hTj_94, hDj_94, hVj_94, hBj_94, _, hrj_94⟩ := hJj_94.open
  have hS_95 := (hS_93.pick 1 rfl)
  have hS_96 := Sat.openN (A := []) nj_94 hjcj_94 hS_95
  have hS_97 : Sat W _ ([(bj_94, .cells #[.slice taj_94 tnj_94 tkj_94, .int .i64 j_86.band, .pointer (some ⟨bbj_94, 0, none⟩), .bool (canc j_86)] 97 (0, 0))] :: Tj_94 :: Mbj_94 :: ((jcs.set nj_33 ([(bj_33, .cells #[.slice taj_33 tnj_33 tkj_33, .int .i64 j.band, .pointer (some ⟨bbj_33, 0, none⟩), .bool (canc j)] 97 (0, 0))] ++ (Tj_33 ++ M_43))).eraseIdx nj_94).flatten :: [(b_89, .cells #[.int .i64 x_79.job, .int .i64 x_79.task] 48 (0, 0))] :: (dcs.set x.toNat M_66).flatten :: Z_65 :: Qci :: (Tri p 81 (preP F.cfg wb wo wn wk q m) (([] : List Ref).flatMap encRef) (encStt F.st)) :: Wc :: acs.flatten :: Jc :: [(b_19, .cells #[.int .i64 x_9.heldJob, .int .i64 x_9.heldTask] 48 (0, 0))] :: H :: F0) := Sat.perm hS_96 (by simp)
  have hn_taj_94 := hTj_94.len; have hl_taj_94 := hTj_94.le; have hm_taj_94 := congrArg List.length hVj_94; rw [List.length_map] at hm_taj_94
  refine drawE [11, 15] [(3, ⟨p, 9, none⟩, .pointer (some ⟨q, 0, none⟩)), (4, ⟨b_89, 0, none⟩, .int .i64 x_79.job), (4, ⟨b_89, 1, none⟩, .int .i64 x_79.task), (8, ⟨p, 10, none⟩, .map (some m)), (10, ⟨b_89, 0, none⟩, .int .i64 x_79.job), (14, ⟨bj_94, 1, none⟩, .int .i64 j_86.band)] [(true, [0, 1, 2, 5, 6, 7, 9]), (true, [3]), (true, [4]), (true, [8]), (true, [10]), (false, [11]), (true, [12, 13]), (true, [14]), (false, [15])] rfl (by kernel_rfl) ⟨.inr (cell_up hS_97 8 rfl (k := 9) tri_pre rfl), .inr (hS_97.cell 4 rfl rfl), .inr (hS_97.cell 4 rfl rfl), .inr (cell_up hS_97 8 rfl (k := 10) tri_pre rfl), .inr (hS_97.cell 4 rfl rfl), .inr (hS_97.cell 0 rfl rfl), trivial⟩ ?_
  have hS_98 := hS_97.drew
  refine wU [0, 1, 2, 5, 6, 7, 9] ?_
  refine wLd (.pointer (some ⟨q, 0, none⟩)) 0 Try.isAgg75 ?_
  refine wY (.agg #[.int .i64 x_79.job, .int .i64 x_79.task]) rfl (fun w hF => Y_loadF rfl (Try.isAgg48 w) (Try.sizeOf48 w) (by kernel_rfl) rfl ⟨hF 1 _ _ rfl, hF 2 _ _ rfl, trivial⟩) ?_
  refine wLd (.map (some m)) 3 Try.isAgg78 ?_
  refine wLd (.int .i64 x_79.job) 4 Try.isAgg3 ?_
  refine wO rfl ?_
  refine stepY (.pointer (some ⟨bj_94, 0, none⟩)) rfl rfl (Y_iget (k := x_79.job) hS_98 11 hM (by rw [hgj_94]; rfl) Try.runUnderlying78 Try.runUnderlying3 Try.zeroValue90) ?_
  refine nilO ⟨⟨.inr (cell_up hS_98 8 rfl (k := 9) tri_pre rfl), .inr (hS_98.cell 4 rfl rfl), .inr (hS_98.cell 4 rfl rfl), .inl (by kernel_rfl), .inl (by kernel_rfl), .inr (hS_98.cell 0 rfl rfl), trivial⟩, ?_⟩
  refine wU [12, 13] ?_
  refine wLd (.int .i64 j_86.band) 5 Try.isAgg3 ?_
  refine wO rfl ?_
  have hS_99 := (hS_98.pick 7 rfl)
  refine cX Try.call50 (pq_push hQi x_79 j_86.band (by omega) (Sat.flat1 hS_99)) ?_
  rintro _ w_100 ⟨M_103, rfl, hR_104, hS_101⟩
  have hS_102 := Sat.unflat1 hS_101
  refine nilO ⟨⟨.inl (by kernel_rfl), .inl (by kernel_rfl), .inl (by kernel_rfl), .inl (by kernel_rfl), .inl (by kernel_rfl), .inl (by kernel_rfl), trivial⟩, ?_⟩
  refine wN ?_
  have hS_108 := ((((hS_102.pick 4 rfl).pick 4 rfl).pick 4 rfl).pick 4 rfl)
  have hS_105 : Sat W _ (([(bj_94, .cells #[.slice taj_94 tnj_94 tkj_94, .int .i64 j_86.band, .pointer (some ⟨bbj_94, 0, none⟩), .bool (canc j_86)] 97 (0, 0))] ++ (Tj_94 ++ Mbj_94)) :: ((jcs.set nj_33 ([(bj_33, .cells #[.slice taj_33 tnj_33 tkj_33, .int .i64 j.band, .pointer (some ⟨bbj_33, 0, none⟩), .bool (canc j)] 97 (0, 0))] ++ (Tj_33 ++ M_43))).eraseIdx nj_94).flatten :: M_103 :: [(b_89, .cells #[.int .i64 x_79.job, .int .i64 x_79.task] 48 (0, 0))] :: (dcs.set x.toNat M_66).flatten :: Z_65 :: (Tri p 81 (preP F.cfg wb wo wn wk q m) (([] : List Ref).flatMap encRef) (encStt F.st)) :: Wc :: acs.flatten :: Jc :: [(b_19, .cells #[.int .i64 x_9.heldJob, .int .i64 x_9.heldTask] 48 (0, 0))] :: H :: F0) := Sat.perm (show Sat W _ ([(bj_94, .cells #[.slice taj_94 tnj_94 tkj_94, .int .i64 j_86.band, .pointer (some ⟨bbj_94, 0, none⟩), .bool (canc j_86)] 97 (0, 0))] :: Tj_94 :: Mbj_94 :: ((jcs.set nj_33 ([(bj_33, .cells #[.slice taj_33 tnj_33 tkj_33, .int .i64 j.band, .pointer (some ⟨bbj_33, 0, none⟩), .bool (canc j)] 97 (0, 0))] ++ (Tj_33 ++ M_43))).eraseIdx nj_94).flatten :: M_103 :: [(b_89, .cells #[.int .i64 x_79.job, .int .i64 x_79.task] 48 (0, 0))] :: (dcs.set x.toNat M_66).flatten :: Z_65 :: (Tri p 81 (preP F.cfg wb wo wn wk q m) (([] : List Ref).flatMap encRef) (encStt F.st)) :: Wc :: acs.flatten :: Jc :: [(b_19, .cells #[.int .i64 x_9.heldJob, .int .i64 x_9.heldTask] 48 (0, 0))] :: H :: F0) from hS_108) (by simp)
  have hS_106 := Sat.shutN (d := ([(bj_94, .cells #[.slice taj_94 tnj_94 tkj_94, .int .i64 j_86.band, .pointer (some ⟨bbj_94, 0, none⟩), .bool (canc j_86)] 97 (0, 0))] ++ (Tj_94 ++ Mbj_94))) (A := []) nj_94 hjcj_94 hS_105
  rw [set_same hjcj_94] at hS_106
  refine blockK_n <| thenK_n <| regionE ?_
  refine sAdd ((i : Nat) : Int) 1 ?_
  refine pu1 <| nilO <| thenK_n <| ?_
  have hS_109 := ((((hS_106.pick 4 rfl).pick 4 rfl).pick 2 rfl).dropAt 4 rfl)
  exact ⟨(i + 1, (pushQ qi x_79 j_86.band), M_103), by first | omega | (dsimp only; omega), alA, hS_109, by omega, hR_104, (by rw [drain_take hx_82, ← hqe]; unfold pushR; rw [getD_some hj_87])⟩
theorem pf_crash_b {p : Nat} {F : FS} {M : Chunk} {F0 : List Chunk} (hR : FarmP p F M) {K : Int} (hF : FI F K) (x : Int) (hx : ¬ (0 ≤ x ∧ x < ((F.ws.length : Nat) : Int))) (hS : Sat W w (M :: H :: F0)) :
    Calls Try.prog 31 #[.pointer (some ⟨p, 0, none⟩), .int .i64 x] w fun e w' => ∃ (az : Option Addr) (nz kz : Nat) (G M' : Chunk), e = .returned (.tuple #[.slice az nz kz, .int .i64 (crashF F x).2.2]) ∧ OwnT encEvt 50 7 az nz kz (crashF F x).2.1 G ∧ FarmP p (crashF F x).1 M' ∧ Sat W w' (G :: M' :: H :: F0) := by
  refine callsA 103 Try.func31 rfl ?_
  refine seqE <| regionE <| pu2 <| nilO <| thenK_n <| seqE <| seqE <| regionE <| pu2 ?_
  refine cX Try.call51 (pf_worker hR x (Sat.flat1 hS)) ?_
  rintro _ w_1 ⟨rfl, h_2⟩
  have hS_3 := Sat.unflat1 h_2
  refine pu1 <| nilO <| thenK_n <| ?_
  have hc_4 : ¬ (0 ≤ x ∧ x < ((F.ws.length : Nat) : Int)) := hx
  refine cT _ (congrArg Bool.not (decide_eq_false hc_4)) ?_
  refine seqE <| regionE <| pu2 <| nilO <| thenK_n <| retE <| thenK_r <| retT [.slice none 0 0, .int .i64 16] <| ?_
  have hS_5 := Sat.nilc hS_3
  have he : crashF F x = (F, [], 16) := crash_unk hx
  rw [he]; exact ⟨_, _, _, _, _, rfl, (OwnT.nil (enc := encEvt) (E := 50) (sz := 7) (fun _ => rfl)), hR, hS_5⟩
theorem pf_restart_b {p : Nat} {F : FS} {M : Chunk} {F0 : List Chunk} (hR : FarmP p F M) {K : Int} (hF : FI F K) (x : Int) (hx : ¬ (0 ≤ x ∧ x < ((F.ws.length : Nat) : Int))) (hS : Sat W w (M :: H :: F0)) :
    Calls Try.prog 32 #[.pointer (some ⟨p, 0, none⟩), .int .i64 x] w fun e w' => ∃ (az : Option Addr) (nz kz : Nat) (G M' : Chunk), e = .returned (.tuple #[.slice az nz kz, .int .i64 (restartF F x).2.2]) ∧ OwnT encEvt 50 7 az nz kz (restartF F x).2.1 G ∧ FarmP p (restartF F x).1 M' ∧ Sat W w' (G :: M' :: H :: F0) := by
  refine callsA 27 Try.func32 rfl ?_
  refine seqE <| regionE <| pu2 <| nilO <| thenK_n <| seqE <| seqE <| regionE <| pu2 ?_
  refine cX Try.call51 (pf_worker hR x (Sat.flat1 hS)) ?_
  rintro _ w_1 ⟨rfl, h_2⟩
  have hS_3 := Sat.unflat1 h_2
  refine pu1 <| nilO <| thenK_n <| ?_
  have hc_4 : ¬ (0 ≤ x ∧ x < ((F.ws.length : Nat) : Int)) := hx
  refine cT _ (congrArg Bool.not (decide_eq_false hc_4)) ?_
  refine seqE <| regionE <| pu2 <| nilO <| thenK_n <| retE <| thenK_r <| retT [.slice none 0 0, .int .i64 16] <| ?_
  have hS_5 := Sat.nilc hS_3
  have he : restartF F x = (F, [], 16) := by unfold restartF; rw [if_pos hx]
  rw [he]; exact ⟨_, _, _, _, _, rfl, (OwnT.nil (enc := encEvt) (E := 50) (sz := 7) (fun _ => rfl)), hR, hS_5⟩
theorem pf_crash {W w : World} {p : Nat} {F : FS} {M H : Chunk} {F0 : List Chunk} (hR : FarmP p F M) {K : Int} (hF : FI F K) (x : Int) (hS : Sat W w (M :: H :: F0)) :
    Calls Try.prog 31 #[.pointer (some ⟨p, 0, none⟩), .int .i64 x] w fun e w' => ∃ (az : Option Addr) (nz kz : Nat) (G M' : Chunk), e = .returned (.tuple #[.slice az nz kz, .int .i64 (crashF F x).2.2]) ∧ OwnT encEvt 50 7 az nz kz (crashF F x).2.1 G ∧ FarmP p (crashF F x).1 M' ∧ Sat W w' (G :: M' :: H :: F0) := by
  by_cases hx : 0 ≤ x ∧ x < ((F.ws.length : Nat) : Int)
  · exact pf_crash_g hR hF x hx (hF.fw.wmem hx) hS
  · exact pf_crash_b hR hF x hx hS
theorem pf_restart {W w : World} {p : Nat} {F : FS} {M H : Chunk} {F0 : List Chunk} (hR : FarmP p F M) {K : Int} (hF : FI F K) (x : Int) (hS : Sat W w (M :: H :: F0)) :
    Calls Try.prog 32 #[.pointer (some ⟨p, 0, none⟩), .int .i64 x] w fun e w' => ∃ (az : Option Addr) (nz kz : Nat) (G M' : Chunk), e = .returned (.tuple #[.slice az nz kz, .int .i64 (restartF F x).2.2]) ∧ OwnT encEvt 50 7 az nz kz (restartF F x).2.1 G ∧ FarmP p (restartF F x).1 M' ∧ Sat W w' (G :: M' :: H :: F0) := by
  by_cases hx : 0 ≤ x ∧ x < ((F.ws.length : Nat) : Int)
  · exact pf_restart_g hR hF x hx (hF.fw.wmem hx) hS
  · exact pf_restart_b hR hF x hx hS
theorem cancel_none {F : FS} {k : Int} (h : ¬ (0 ≤ k ∧ k < 64 ∧ (F.jobs.getD k.toNat default).added = true)) : cancelF F k = (F, [], 16) := by
  unfold cancelF
  rw [if_pos]
  by_cases h1 : 0 ≤ k ∧ k < 64
  · right
    unfold jobAt
    cases h2 : (F.jobs.getD k.toNat default).added
    · rfl
    · exact absurd ⟨h1.1, h1.2, h2⟩ h
  · exact .inl h1
theorem pf_cancel_0 {p : Nat} {F : FS} {M : Chunk} {F0 : List Chunk} (hR : FarmP p F M) {K : Int} (hF : FI F K) (x : Int) (hk : ¬ (0 ≤ x ∧ x < 64 ∧ (F.jobs.getD x.toNat default).added = true)) (hS : Sat W w (M :: H :: F0)) :
    Calls Try.prog 34 #[.pointer (some ⟨p, 0, none⟩), .int .i64 x] w fun e w' => ∃ (az : Option Addr) (nz kz : Nat) (G M' : Chunk), e = .returned (.tuple #[.slice az nz kz, .int .i64 (cancelF F x).2.2]) ∧ OwnT encEvt 50 7 az nz kz (cancelF F x).2.1 G ∧ FarmP p (cancelF F x).1 M' ∧ Sat W w' (G :: M' :: H :: F0) := by
  obtain ⟨wb, wo, wn, wk, q, m, xs, jm, Wc, Qc, Jc, acs, dcs, jcs, rfl, hOw, hco, hAs, hDs, hQ, hM, hJs⟩ := hR
  have hS_1 : Sat W _ ((Tri p 81 (preP F.cfg wb wo wn wk q m) (([] : List Ref).flatMap encRef) (encStt F.st)) :: Wc :: acs.flatten :: dcs.flatten :: Qc :: Jc :: jcs.flatten :: H :: F0) := Sat.perm hS (by simp)
  have hwl := hOw.len; have hwk := hOw.le; have hcl := core_len hco; have has1 := hAs.1; have hds1 := hDs.1; rw [List.length_map] at has1 hds1; have hjl1 := hJs.l
  have hs1 := hF.st.a; have hs2 := hF.st.b; have hs3 := hF.st.c; have hs4 := hF.st.d; have hs5 := hF.st.e; have hs6 := hF.st.f; have hs7 := hF.st.g; have hKK := hF.fw.k; have hn9 := hF.fw.n; have hal9 := hF.fw.al; have hdl9 := hF.fw.dl; have hjl9 := hF.fw.jl
  have hg := JobsP.no hJs hk
  refine callsA 59 Try.func34 rfl ?_
  refine seqE <| regionE <| pu2 <| nilO <| thenK_n <| seqE <| seqE <| regionE <| pu1 ?_
  refine cX Try.call45 (p_empty ⟨by omega, by omega⟩ hS_1) ?_
  rintro _ w_2 ⟨rfl, hS_4⟩
  refine pu4 <| gY ?_
  refine sLp hS_4 (ptr_up 0 rfl tri_pre) 10 (.map (some m)) (Try.isAgg78 _) ?_
  refine pu1 <| gY ?_
  refine stepY (.pointer none) rfl rfl (Y_iget (k := x) hS_4 5 hM (by rw [hg]; rfl) Try.runUnderlying78 Try.runUnderlying3 Try.zeroValue90) ?_
  refine pu2 <| nilO <| thenK_n <| cTt <| seqE <| regionE <| pu2 <| nilO <| thenK_n <| retE <| thenK_r <| retT [.slice none 0 0, .int .i64 16] <| ?_
  have hS_5 := Sat.nilc hS_4
  have hS_6 : Sat W _ ([] :: ((Tri p 81 (preP F.cfg wb wo wn wk q m) (([] : List Ref).flatMap encRef) (encStt F.st)) ++ (Wc ++ (acs.flatten ++ (dcs.flatten ++ (Qc ++ (Jc ++ jcs.flatten)))))) :: H :: F0) := Sat.perm (show Sat W _ ([] :: (Tri p 81 (preP F.cfg wb wo wn wk q m) (([] : List Ref).flatMap encRef) (encStt F.st)) :: Wc :: acs.flatten :: dcs.flatten :: Qc :: Jc :: jcs.flatten :: H :: F0) from hS_5) (by simp)
  have he : cancelF F x = (F, [], 16) := cancel_none hk
  rw [he]; exact ⟨_, _, _, _, _, rfl, (OwnT.nil (enc := encEvt) (E := 50) (sz := 7) (fun _ => rfl)), ⟨_, _, _, _, _, _, _, _, _, _, _, _, _, _, rfl, hOw, hco, hAs, hDs, hQ, hM, hJs⟩, hS_6⟩
theorem pf_cancel_1 {p : Nat} {F : FS} {M : Chunk} {F0 : List Chunk} (hR : FarmP p F M) {K : Int} (hF : FI F K) {j : JS} (x : Int) (hx : 0 ≤ x ∧ x < 64) (hj : F.jobs[x.toNat]? = some j) (ha : j.added = true) (hrun : ¬ j.running = true) (hS : Sat W w (M :: H :: F0)) :
    Calls Try.prog 34 #[.pointer (some ⟨p, 0, none⟩), .int .i64 x] w fun e w' => ∃ (az : Option Addr) (nz kz : Nat) (G M' : Chunk), e = .returned (.tuple #[.slice az nz kz, .int .i64 (cancelF F x).2.2]) ∧ OwnT encEvt 50 7 az nz kz (cancelF F x).2.1 G ∧ FarmP p (cancelF F x).1 M' ∧ Sat W w' (G :: M' :: H :: F0) := by
  obtain ⟨wb, wo, wn, wk, q, m, xs, jm, Wc, Qc, Jc, acs, dcs, jcs, rfl, hOw, hco, hAs, hDs, hQ, hM, hJs⟩ := hR
  have hS_1 : Sat W _ ((Tri p 81 (preP F.cfg wb wo wn wk q m) (([] : List Ref).flatMap encRef) (encStt F.st)) :: Wc :: acs.flatten :: dcs.flatten :: Qc :: Jc :: jcs.flatten :: H :: F0) := Sat.perm hS (by simp)
  have hwl := hOw.len; have hwk := hOw.le; have hcl := core_len hco; have has1 := hAs.1; have hds1 := hDs.1; rw [List.length_map] at has1 hds1; have hjl1 := hJs.l
  have hs1 := hF.st.a; have hs2 := hF.st.b; have hs3 := hF.st.c; have hs4 := hF.st.d; have hs5 := hF.st.e; have hs6 := hF.st.f; have hs7 := hF.st.g; have hKK := hF.fw.k; have hn9 := hF.fw.n; have hal9 := hF.fw.al; have hdl9 := hF.fw.dl; have hjl9 := hF.fw.jl
  have hjo := hF.fw.j j (List.mem_of_getElem? hj); obtain ⟨hBW, hdl, hb1, hb2⟩ := hjo.b ha
  obtain ⟨nj_2, bj_2, cj_2, hjmj_2, hjcj_2, hJj_2, hgj_2⟩ := JobsP.get hJs (k := x) ⟨by omega, by omega⟩ hj ha
  obtain ⟨taj_2, tnj_2, tkj_2, tlj_2, bbj_2, Tj_2, Mbj_2, rfl, hTj_2, hDj_2, hVj_2, hBj_2, _, hrj_2⟩ := hJj_2.open
  have hS_3 := (hS_1.pick 6 rfl)
  have hS_4 := Sat.openN (A := []) nj_2 hjcj_2 hS_3
  have hS_5 : Sat W _ ([(bj_2, .cells #[.slice taj_2 tnj_2 tkj_2, .int .i64 j.band, .pointer (some ⟨bbj_2, 0, none⟩), .bool (canc j)] 97 (0, 0))] :: Tj_2 :: Mbj_2 :: (jcs.eraseIdx nj_2).flatten :: (Tri p 81 (preP F.cfg wb wo wn wk q m) (([] : List Ref).flatMap encRef) (encStt F.st)) :: Wc :: acs.flatten :: dcs.flatten :: Qc :: Jc :: H :: F0) := Sat.perm hS_4 (by simp)
  have hn_taj_2 := hTj_2.len; have hl_taj_2 := hTj_2.le; have hm_taj_2 := congrArg List.length hVj_2; rw [List.length_map] at hm_taj_2
  refine callsA 59 Try.func34 rfl ?_
  refine seqE <| regionE <| pu2 <| nilO <| thenK_n <| seqE <| seqE <| regionE <| pu1 ?_
  have hS_9 := (hS_5.pick 4 rfl)
  refine cX Try.call45 (p_empty ⟨by omega, by omega⟩ hS_9) ?_
  rintro _ w_6 ⟨rfl, hS_8⟩
  refine pu4 <| gY ?_
  refine sLp hS_8 (ptr_up 0 rfl tri_pre) 10 (.map (some m)) (Try.isAgg78 _) ?_
  refine pu1 <| gY ?_
  refine stepY (.pointer (some ⟨bj_2, 0, none⟩)) rfl rfl (Y_iget (k := x) hS_8 9 hM (by rw [hgj_2]; rfl) Try.runUnderlying78 Try.runUnderlying3 Try.zeroValue90) ?_
  refine pu2 <| nilO <| thenK_n <| cFf <| skipE <| thenK_n <| seqE <| regionE <| pu3 ?_
  refine sLp hS_8 (ptr_up 0 rfl tri_pre) 10 (.map (some m)) (Try.isAgg78 _) ?_
  refine pu1 ?_
  refine stepY (.pointer (some ⟨bj_2, 0, none⟩)) rfl rfl (Y_iget (k := x) hS_8 9 hM (by rw [hgj_2]; rfl) Try.runUnderlying78 Try.runUnderlying3 Try.zeroValue90) ?_
  refine pu1 <| nilO <| thenK_n <| seqE <| seqE <| regionE <| pu1 ?_
  have hS_10 := (((hS_8.pick 3 rfl).pick 3 rfl).pick 3 rfl)
  have hS_11 : Sat W _ (([(bj_2, .cells #[.slice taj_2 tnj_2 tkj_2, .int .i64 j.band, .pointer (some ⟨bbj_2, 0, none⟩), .bool (canc j)] 97 (0, 0))] ++ (Tj_2 ++ Mbj_2)) :: (Tri p 81 (preP F.cfg wb wo wn wk q m) (([] : List Ref).flatMap encRef) (encStt F.st)) :: (jcs.eraseIdx nj_2).flatten :: Wc :: acs.flatten :: dcs.flatten :: Qc :: Jc :: H :: F0) := Sat.perm (show Sat W _ ([(bj_2, .cells #[.slice taj_2 tnj_2 tkj_2, .int .i64 j.band, .pointer (some ⟨bbj_2, 0, none⟩), .bool (canc j)] 97 (0, 0))] :: Tj_2 :: Mbj_2 :: (Tri p 81 (preP F.cfg wb wo wn wk q m) (([] : List Ref).flatMap encRef) (encStt F.st)) :: (jcs.eraseIdx nj_2).flatten :: Wc :: acs.flatten :: dcs.flatten :: Qc :: Jc :: H :: F0) from hS_10) (by simp)
  refine cX Try.call64 (p_running (s := j) (JobP.mk (s := j) hTj_2 hDj_2 hVj_2 hBj_2 ha hrj_2 rfl) hBW hdl hS_11) ?_
  rintro _ w_14 ⟨rfl, hS_12⟩
  have hS_13 : Sat W _ ([(bj_2, .cells #[.slice taj_2 tnj_2 tkj_2, .int .i64 j.band, .pointer (some ⟨bbj_2, 0, none⟩), .bool (canc j)] 97 (0, 0))] :: Tj_2 :: Mbj_2 :: (Tri p 81 (preP F.cfg wb wo wn wk q m) (([] : List Ref).flatMap encRef) (encStt F.st)) :: (jcs.eraseIdx nj_2).flatten :: Wc :: acs.flatten :: dcs.flatten :: Qc :: Jc :: H :: F0) := Sat.perm hS_12 (by simp)
  refine pu1 <| nilO <| thenK_n <| ?_
  have hc_15 : ¬ (j.running = true) := hrun
  refine cT _ (congrArg Bool.not (Bool.eq_false_iff.2 hc_15)) ?_
  refine seqE <| regionE <| pu2 <| nilO <| thenK_n <| retE <| thenK_r <| retT [.slice none 0 0, .int .i64 18] <| ?_
  have hS_16 := Sat.nilc hS_13
  have hS_20 := ((((hS_16.pick 5 rfl).pick 4 rfl).pick 4 rfl).pick 4 rfl)
  have hS_17 : Sat W _ (([(bj_2, .cells #[.slice taj_2 tnj_2 tkj_2, .int .i64 j.band, .pointer (some ⟨bbj_2, 0, none⟩), .bool (canc j)] 97 (0, 0))] ++ (Tj_2 ++ Mbj_2)) :: (jcs.eraseIdx nj_2).flatten :: [] :: (Tri p 81 (preP F.cfg wb wo wn wk q m) (([] : List Ref).flatMap encRef) (encStt F.st)) :: Wc :: acs.flatten :: dcs.flatten :: Qc :: Jc :: H :: F0) := Sat.perm (show Sat W _ ([(bj_2, .cells #[.slice taj_2 tnj_2 tkj_2, .int .i64 j.band, .pointer (some ⟨bbj_2, 0, none⟩), .bool (canc j)] 97 (0, 0))] :: Tj_2 :: Mbj_2 :: (jcs.eraseIdx nj_2).flatten :: [] :: (Tri p 81 (preP F.cfg wb wo wn wk q m) (([] : List Ref).flatMap encRef) (encStt F.st)) :: Wc :: acs.flatten :: dcs.flatten :: Qc :: Jc :: H :: F0) from hS_20) (by simp)
  have hS_18 := Sat.shutN (d := ([(bj_2, .cells #[.slice taj_2 tnj_2 tkj_2, .int .i64 j.band, .pointer (some ⟨bbj_2, 0, none⟩), .bool (canc j)] 97 (0, 0))] ++ (Tj_2 ++ Mbj_2))) (A := []) nj_2 hjcj_2 hS_17
  rw [set_same hjcj_2] at hS_18
  have hS_21 : Sat W _ ((Tri p 81 (preP F.cfg wb wo wn wk q m) (([] : List Ref).flatMap encRef) (encStt F.st)) :: Wc :: acs.flatten :: dcs.flatten :: Qc :: Jc :: jcs.flatten :: [] :: H :: F0) := ((((((hS_18.pick 7 rfl).pick 7 rfl).pick 7 rfl).pick 7 rfl).pick 7 rfl).pick 7 rfl)
  have hS_22 := (hS_21.pick 7 rfl)
  have hS_23 : Sat W _ ([] :: ((Tri p 81 (preP F.cfg wb wo wn wk q m) (([] : List Ref).flatMap encRef) (encStt F.st)) ++ (Wc ++ (acs.flatten ++ (dcs.flatten ++ (Qc ++ (Jc ++ jcs.flatten)))))) :: H :: F0) := Sat.perm (show Sat W _ ([] :: (Tri p 81 (preP F.cfg wb wo wn wk q m) (([] : List Ref).flatMap encRef) (encStt F.st)) :: Wc :: acs.flatten :: dcs.flatten :: Qc :: Jc :: jcs.flatten :: H :: F0) from hS_22) (by simp)
  have he : cancelF F x = (F, [], 18) := cancel_fin hx hj ha hrun
  rw [he]; exact ⟨_, _, _, _, _, rfl, (OwnT.nil (enc := encEvt) (E := 50) (sz := 7) (fun _ => rfl)), ⟨_, _, _, _, _, _, _, _, _, _, _, _, _, _, rfl, hOw, hco, hAs, hDs, hQ, hM, hJs⟩, hS_23⟩
theorem pf_cancel_2 {p : Nat} {F : FS} {M : Chunk} {F0 : List Chunk} (hR : FarmP p F M) {K : Int} (hF : FI F K) {j : JS} (x : Int) (hx : 0 ≤ x ∧ x < 64) (hj : F.jobs[x.toNat]? = some j) (ha : j.added = true) (hrun : j.running = true) (hS : Sat W w (M :: H :: F0)) :
    Calls Try.prog 34 #[.pointer (some ⟨p, 0, none⟩), .int .i64 x] w fun e w' => ∃ (az : Option Addr) (nz kz : Nat) (G M' : Chunk), e = .returned (.tuple #[.slice az nz kz, .int .i64 (cancelF F x).2.2]) ∧ OwnT encEvt 50 7 az nz kz (cancelF F x).2.1 G ∧ FarmP p (cancelF F x).1 M' ∧ Sat W w' (G :: M' :: H :: F0) := by
  obtain ⟨wb, wo, wn, wk, q, m, xs, jm, Wc, Qc, Jc, acs, dcs, jcs, rfl, hOw, hco, hAs, hDs, hQ, hM, hJs⟩ := hR
  have hS_1 : Sat W _ ((Tri p 81 (preP F.cfg wb wo wn wk q m) (([] : List Ref).flatMap encRef) (encStt F.st)) :: Wc :: acs.flatten :: dcs.flatten :: Qc :: Jc :: jcs.flatten :: H :: F0) := Sat.perm hS (by simp)
  have hwl := hOw.len; have hwk := hOw.le; have hcl := core_len hco; have has1 := hAs.1; have hds1 := hDs.1; rw [List.length_map] at has1 hds1; have hjl1 := hJs.l
  have hs1 := hF.st.a; have hs2 := hF.st.b; have hs3 := hF.st.c; have hs4 := hF.st.d; have hs5 := hF.st.e; have hs6 := hF.st.f; have hs7 := hF.st.g; have hKK := hF.fw.k; have hn9 := hF.fw.n; have hal9 := hF.fw.al; have hdl9 := hF.fw.dl; have hjl9 := hF.fw.jl
  have hjo := hF.fw.j j (List.mem_of_getElem? hj); obtain ⟨hBW, hdl, hb1, hb2⟩ := hjo.b ha
  obtain ⟨nj_2, bj_2, cj_2, hjmj_2, hjcj_2, hJj_2, hgj_2⟩ := JobsP.get hJs (k := x) ⟨by omega, by omega⟩ hj ha
  obtain ⟨taj_2, tnj_2, tkj_2, tlj_2, bbj_2, Tj_2, Mbj_2, rfl, hTj_2, hDj_2, hVj_2, hBj_2, _, hrj_2⟩ := hJj_2.open
  have hS_3 := (hS_1.pick 6 rfl)
  have hS_4 := Sat.openN (A := []) nj_2 hjcj_2 hS_3
  have hS_5 : Sat W _ ([(bj_2, .cells #[.slice taj_2 tnj_2 tkj_2, .int .i64 j.band, .pointer (some ⟨bbj_2, 0, none⟩), .bool (canc j)] 97 (0, 0))] :: Tj_2 :: Mbj_2 :: (jcs.eraseIdx nj_2).flatten :: (Tri p 81 (preP F.cfg wb wo wn wk q m) (([] : List Ref).flatMap encRef) (encStt F.st)) :: Wc :: acs.flatten :: dcs.flatten :: Qc :: Jc :: H :: F0) := Sat.perm hS_4 (by simp)
  have hn_taj_2 := hTj_2.len; have hl_taj_2 := hTj_2.le; have hm_taj_2 := congrArg List.length hVj_2; rw [List.length_map] at hm_taj_2
  refine callsA 59 Try.func34 rfl ?_
  refine seqE <| regionE <| pu2 <| nilO <| thenK_n <| seqE <| seqE <| regionE <| pu1 ?_
  have hS_9 := (hS_5.pick 4 rfl)
  refine cX Try.call45 (p_empty ⟨by omega, by omega⟩ hS_9) ?_
  rintro _ w_6 ⟨rfl, hS_8⟩
  refine pu4 <| gY ?_
  refine sLp hS_8 (ptr_up 0 rfl tri_pre) 10 (.map (some m)) (Try.isAgg78 _) ?_
  refine pu1 <| gY ?_
  refine stepY (.pointer (some ⟨bj_2, 0, none⟩)) rfl rfl (Y_iget (k := x) hS_8 9 hM (by rw [hgj_2]; rfl) Try.runUnderlying78 Try.runUnderlying3 Try.zeroValue90) ?_
  refine pu2 <| nilO <| thenK_n <| cFf <| skipE <| thenK_n <| seqE <| regionE <| pu3 ?_
  refine sLp hS_8 (ptr_up 0 rfl tri_pre) 10 (.map (some m)) (Try.isAgg78 _) ?_
  refine pu1 ?_
  refine stepY (.pointer (some ⟨bj_2, 0, none⟩)) rfl rfl (Y_iget (k := x) hS_8 9 hM (by rw [hgj_2]; rfl) Try.runUnderlying78 Try.runUnderlying3 Try.zeroValue90) ?_
  refine pu1 <| nilO <| thenK_n <| seqE <| seqE <| regionE <| pu1 ?_
  have hS_10 := (((hS_8.pick 3 rfl).pick 3 rfl).pick 3 rfl)
  have hS_11 : Sat W _ (([(bj_2, .cells #[.slice taj_2 tnj_2 tkj_2, .int .i64 j.band, .pointer (some ⟨bbj_2, 0, none⟩), .bool (canc j)] 97 (0, 0))] ++ (Tj_2 ++ Mbj_2)) :: (Tri p 81 (preP F.cfg wb wo wn wk q m) (([] : List Ref).flatMap encRef) (encStt F.st)) :: (jcs.eraseIdx nj_2).flatten :: Wc :: acs.flatten :: dcs.flatten :: Qc :: Jc :: H :: F0) := Sat.perm (show Sat W _ ([(bj_2, .cells #[.slice taj_2 tnj_2 tkj_2, .int .i64 j.band, .pointer (some ⟨bbj_2, 0, none⟩), .bool (canc j)] 97 (0, 0))] :: Tj_2 :: Mbj_2 :: (Tri p 81 (preP F.cfg wb wo wn wk q m) (([] : List Ref).flatMap encRef) (encStt F.st)) :: (jcs.eraseIdx nj_2).flatten :: Wc :: acs.flatten :: dcs.flatten :: Qc :: Jc :: H :: F0) from hS_10) (by simp)
  refine cX Try.call64 (p_running (s := j) (JobP.mk (s := j) hTj_2 hDj_2 hVj_2 hBj_2 ha hrj_2 rfl) hBW hdl hS_11) ?_
  rintro _ w_14 ⟨rfl, hS_12⟩
  have hS_13 : Sat W _ ([(bj_2, .cells #[.slice taj_2 tnj_2 tkj_2, .int .i64 j.band, .pointer (some ⟨bbj_2, 0, none⟩), .bool (canc j)] 97 (0, 0))] :: Tj_2 :: Mbj_2 :: (Tri p 81 (preP F.cfg wb wo wn wk q m) (([] : List Ref).flatMap encRef) (encStt F.st)) :: (jcs.eraseIdx nj_2).flatten :: Wc :: acs.flatten :: dcs.flatten :: Qc :: Jc :: H :: F0) := Sat.perm hS_12 (by simp)
  refine pu1 <| nilO <| thenK_n <| ?_
  have hc_15 : j.running = true := hrun
  refine cF _ (congrArg Bool.not hc_15) ?_
  refine skipE <| thenK_n <| seqE <| regionE <| pu3 ?_
  refine tW hS_13 0 3 (.bool true) Try.sizeOf4 ?_
  intro w_16 hS_17
  refine nilO <| thenK_n <| seqE <| seqE <| regionE <| pu3 ?_
  refine sLp hS_17 (ptr_up 3 rfl tri_pre) 8 (.slice (some ⟨wb, wo, none⟩) wn wk) (Try.isAgg79 _) ?_
  refine pu2 <| nilO <| thenK_n <| blockE ?_
  have hS_21 := ((((hS_17.pick 4 rfl).pick 3 rfl).pick 3 rfl).pick 3 rfl)
  have hS_18 : Sat W _ (([(bj_2, .cells #[.slice taj_2 tnj_2 tkj_2, .int .i64 j.band, .pointer (some ⟨bbj_2, 0, none⟩), .bool true] 97 (0, 0))] ++ (Tj_2 ++ Mbj_2)) :: (jcs.eraseIdx nj_2).flatten :: (Tri p 81 (preP F.cfg wb wo wn wk q m) (([] : List Ref).flatMap encRef) (encStt F.st)) :: Wc :: acs.flatten :: dcs.flatten :: Qc :: Jc :: H :: F0) := Sat.perm (show Sat W _ ([(bj_2, .cells #[.slice taj_2 tnj_2 tkj_2, .int .i64 j.band, .pointer (some ⟨bbj_2, 0, none⟩), .bool true] 97 (0, 0))] :: Tj_2 :: Mbj_2 :: (jcs.eraseIdx nj_2).flatten :: (Tri p 81 (preP F.cfg wb wo wn wk q m) (([] : List Ref).flatMap encRef) (encStt F.st)) :: Wc :: acs.flatten :: dcs.flatten :: Qc :: Jc :: H :: F0) from hS_21) (by simp)
  have hS_19 := Sat.shutN (d := ([(bj_2, .cells #[.slice taj_2 tnj_2 tkj_2, .int .i64 j.band, .pointer (some ⟨bbj_2, 0, none⟩), .bool true] 97 (0, 0))] ++ (Tj_2 ++ Mbj_2))) (A := []) nj_2 hjcj_2 hS_18
  have hL_20 := JobsP.set hJs (k := x) (j2 := { j with running := false }) ⟨by omega, by omega⟩ hjmj_2 (JobP.mk (s := { j with running := false }) (cn := true) hTj_2 hDj_2 hVj_2 hBj_2 ha (fun h => by cases h) (by unfold canc; rw [decide_eq_true (hrj_2 hrun)]; rfl)) ha
  refine loopA (γ := Nat × (List DS) × (List Chunk)) (fun ⟨i, dqi, dci⟩ => [(0, .pointer (some ⟨p, 0, none⟩)), (1, .int .i64 x), (35, .int .i64 ((wn : Nat) : Int)), (36, .int .i64 ((i : Nat) : Int))]) (fun ⟨i, dqi, dci⟩ w => Sat W w ((jcs.set nj_2 ([(bj_2, .cells #[.slice taj_2 tnj_2 tkj_2, .int .i64 j.band, .pointer (some ⟨bbj_2, 0, none⟩), .bool true] 97 (0, 0))] ++ (Tj_2 ++ Mbj_2))).flatten :: (Tri p 81 (preP F.cfg wb wo wn wk q m) (([] : List Ref).flatMap encRef) (encStt F.st)) :: Wc :: acs.flatten :: dci.flatten :: Qc :: Jc :: H :: F0) ∧ i ≤ wn ∧ (Obs DqP (xs.map (·.d)) dqi dci) ∧ (dqi = (F.dq.take i).map (rmD x) ++ F.dq.drop i)) (fun ⟨i, dqi, dci⟩ => wn - i) (0, F.dq, dcs) ⟨hS_19, by omega, hDs, by simp⟩ ?_
  rintro ⟨i, dqi, dci⟩ ρ w_22 ⟨hS_23, hi, hDi, hde⟩
  have hds9 := hDi.1; rw [List.length_map] at hds9
  refine seqE <| regionE <| pu1 <| nilO <| thenK_n <| seqE ?_
  refine cD (((i : Nat) : Int) < ((wn : Nat) : Int)) (fun hc_24 => ?_) (fun hc_24 => ?_)
  · refine skipE <| thenK_n <| seqE <| blockE <| seqE <| regionE <| pu2 <| nilO <| thenK_n <| regionE <| pu3 ?_
    refine sLp hS_23 (ptr_up 1 rfl tri_pre) 8 (.slice (some ⟨wb, wo, none⟩) wn wk) (Try.isAgg79 _) ?_
    refine pu1 ?_
    refine sIdxO hOw ((i : Nat) : Int) i Try.runUnderlying79 Try.sizeOf89 ?_
    intro x_25 b_26 o_27 hx_28 hp_29 hq_30
    obtain ⟨rfl, rfl⟩ := some_addr hq_30
    obtain ⟨v_31, hv_31, hv_310, hv_311, hv_312, hv_313, hv_314⟩ := core_at hco hx_28
    refine pu1 ?_
    refine sLp hS_23 (hp_29.up 2 rfl) 6 (.pointer (some ⟨x_25.d, 0, none⟩)) (Try.isAgg85 _) ?_
    refine pu1 ?_
    obtain ⟨s_32, c_33, hs_34, hc_35, hR_36⟩ := Obs.get hDi (map_at' hx_28)
    have hS_38 := (hS_23.pick 4 rfl)
    have hS_37 := Sat.openN (A := []) i hc_35 hS_38
    refine cX Try.call71 (pd_remove hR_36 x (Sat.flat1 hS_37)) ?_
    rintro _ w_39 ⟨M_42, v_44, rfl, hR_43, hS_40⟩
    have hS_41 := Sat.unflat1 hS_40
    have hS_45 := ((hS_41.pick 1 rfl).pick 1 rfl)
    have hS_46 := Sat.shutN (d := M_42) (A := []) i hc_35 hS_45
    have hL_47 := Obs.set hDi (map_at' hx_28) hR_43
    refine nilO <| blockK_n <| thenK_n <| regionE ?_
    refine sAdd ((i : Nat) : Int) 1 ?_
    refine pu1 <| nilO <| thenK_n <| ?_
    have hS_48 := ((((hS_46.pick 4 rfl).pick 4 rfl).pick 4 rfl).pick 4 rfl)
    exact ⟨(i + 1, (dqi.set i ({ s_32 with l := without x s_32.l } : DS)), (dci.set i M_42)), by first | omega | (dsimp only; omega), alA, hS_48, by omega, hL_47, (rm_step hde hs_34)⟩
  refine exitE <| thenK_x <| thenK_x <| blockK_x <| thenK_n <| seqE <| regionE <| pu3 ?_
  refine sLp hS_23 (ptr_up 1 rfl tri_pre) 9 (.pointer (some ⟨q, 0, none⟩)) (Try.isAgg75 _) ?_
  refine pu1 ?_
  have hS_49 := (hS_23.pick 5 rfl)
  refine cX Try.call72 (pq_remove hQ x (Sat.flat1 hS_49)) ?_
  rintro _ w_50 ⟨M_53, v_55, rfl, hR_54, hS_51⟩
  have hS_52 := Sat.unflat1 hS_51
  refine nilO <| thenK_n <| seqE <| regionE <| pu2 ?_
  refine sBS hS_52 #[.int .i64 2, .int .i64 0, .int .i64 0, .int .i64 x, .int .i64 0, .int .i64 0, .int .i64 0] Try.runUnderlying44 Try.sizeOf50 Try.zeroValue50 ?_
  intro b_56 w_57 hS_58
  refine pu2 <| nilO <| thenK_n <| retE <| retT [.slice (some ⟨b_56, 0, none⟩) 1 1, .int .i64 0] <| ?_
  have hO_59 := OwnT.blk (enc := encEvt) (sz := 7) (b := b_56) (c := #[.int .i64 2, .int .i64 0, .int .i64 0, .int .i64 x, .int .i64 0, .int .i64 0, .int .i64 0]) (E := 50) (xs := [(⟨2, 0, 0, x, 0, 0, 0⟩ : Evt)]) (fun _ => rfl) 1 rfl rfl rfl (by omega)
  have hS_60 : Sat W _ ((Tri p 81 (preP F.cfg wb wo wn wk q m) (([] : List Ref).flatMap encRef) (encStt F.st)) :: Wc :: acs.flatten :: dci.flatten :: M_53 :: Jc :: [(b_56, .cells #[.int .i64 2, .int .i64 0, .int .i64 0, .int .i64 x, .int .i64 0, .int .i64 0, .int .i64 0] 50 (0, 0))] :: (jcs.set nj_2 ([(bj_2, .cells #[.slice taj_2 tnj_2 tkj_2, .int .i64 j.band, .pointer (some ⟨bbj_2, 0, none⟩), .bool true] 97 (0, 0))] ++ (Tj_2 ++ Mbj_2))).flatten :: H :: F0) := ((((((hS_58.pick 7 rfl).pick 2 rfl).pick 7 rfl).pick 7 rfl).pick 7 rfl).pick 7 rfl)
  have hS_61 := (hS_60.pick 6 rfl)
  have hS_62 : Sat W _ ([(b_56, .cells #[.int .i64 2, .int .i64 0, .int .i64 0, .int .i64 x, .int .i64 0, .int .i64 0, .int .i64 0] 50 (0, 0))] :: ((Tri p 81 (preP F.cfg wb wo wn wk q m) (([] : List Ref).flatMap encRef) (encStt F.st)) ++ (Wc ++ (acs.flatten ++ (dci.flatten ++ (M_53 ++ (Jc ++ (jcs.set nj_2 ([(bj_2, .cells #[.slice taj_2 tnj_2 tkj_2, .int .i64 j.band, .pointer (some ⟨bbj_2, 0, none⟩), .bool true] 97 (0, 0))] ++ (Tj_2 ++ Mbj_2))).flatten)))))) :: H :: F0) := Sat.perm (show Sat W _ ([(b_56, .cells #[.int .i64 2, .int .i64 0, .int .i64 0, .int .i64 x, .int .i64 0, .int .i64 0, .int .i64 0] 50 (0, 0))] :: (Tri p 81 (preP F.cfg wb wo wn wk q m) (([] : List Ref).flatMap encRef) (encStt F.st)) :: Wc :: acs.flatten :: dci.flatten :: M_53 :: Jc :: (jcs.set nj_2 ([(bj_2, .cells #[.slice taj_2 tnj_2 tkj_2, .int .i64 j.band, .pointer (some ⟨bbj_2, 0, none⟩), .bool true] 97 (0, 0))] ++ (Tj_2 ++ Mbj_2))).flatten :: H :: F0) from hS_61) (by simp)
  have he : cancelF F x = ((⟨F.cfg, F.ws, F.ar, dqi, ({ F.q with bs := F.q.bs.map (without x) } : QS), (F.jobs.set x.toNat ({ j with running := false })), F.st⟩ : FS), [(⟨2, 0, 0, x, 0, 0, 0⟩ : Evt)], 0) := (cancel_at hx hj ha hrun).trans (by rw [hde, List.take_of_length_le (by omega), List.drop_of_length_le (by omega), List.append_nil])
  rw [he]; exact ⟨_, _, _, _, _, rfl, hO_59, ⟨_, _, _, _, _, _, _, _, _, _, _, _, _, _, rfl, hOw, hco, hAs, hDi, hR_54, hM, hL_20⟩, hS_62⟩
theorem pf_cancel {W w : World} {p : Nat} {F : FS} {M H : Chunk} {F0 : List Chunk} (hR : FarmP p F M) {K : Int} (hF : FI F K) (x : Int) (hS : Sat W w (M :: H :: F0)) :
    Calls Try.prog 34 #[.pointer (some ⟨p, 0, none⟩), .int .i64 x] w fun e w' => ∃ (az : Option Addr) (nz kz : Nat) (G M' : Chunk), e = .returned (.tuple #[.slice az nz kz, .int .i64 (cancelF F x).2.2]) ∧ OwnT encEvt 50 7 az nz kz (cancelF F x).2.1 G ∧ FarmP p (cancelF F x).1 M' ∧ Sat W w' (G :: M' :: H :: F0) := by
  by_cases hk : 0 ≤ x ∧ x < 64 ∧ (F.jobs.getD x.toNat default).added = true
  · obtain ⟨h1, h2, h3⟩ := hk
    obtain ⟨j, hj⟩ := at_some hF.fw.jl (k := x.toNat) (by omega)
    rw [getD_some hj] at h3
    by_cases hr : j.running = true
    · exact pf_cancel_2 hR hF x ⟨h1, h2⟩ hj h3 hr hS
    · exact pf_cancel_1 hR hF x ⟨h1, h2⟩ hj h3 hr hS
  · exact pf_cancel_0 hR hF x hk hS
end Go.Proofs.Ytegmennaekipaaa
