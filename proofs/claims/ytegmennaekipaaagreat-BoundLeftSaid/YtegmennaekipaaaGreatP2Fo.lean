import Derived.Test.YtegmennaekipaaaGreatP2Ld
namespace Go.Proofs.YtegmennaekipaaaGreat
open Go Go.E
set_option linter.unusedVariables false
set_option linter.unusedSimpArgs false
set_option linter.unnecessarySimpa false
set_option maxRecDepth 100000
set_option maxHeartbeats 2000000
variable {W w : World} {H : Chunk} {F : List Chunk}
-- squeezed
theorem jobM_zero {x : FJob} {s : JS} {c : Chunk} (h : JobM x s c) (ha : s.added = false) : x = ⟨false, false, 0, ⟨none, 0, 0, []⟩, none⟩ := by
  rcases h with ⟨_, h, _⟩ | ⟨h, _⟩
  · exact h
  · rw [ha] at h; cases h
theorem allK_step {p : Int → Bool} {i : Nat} : (allK (i + 1)).filter p = (allK i).filter p ++ if p ((i : Nat) : Int) = true then [((i : Nat) : Int)] else [] := by
  unfold allK
  rw [List.range_succ, List.map_append, List.filter_append]
  congr 1
  simp only [List.map_cons, List.map_nil, List.filter_cons, List.filter_nil]
theorem runJ_at {jobs : List JS} {i : Nat} {j : JS} (h : jobs[i]? = some j) : runJ9 jobs ((i : Nat) : Int) = j.running := by unfold runJ9; rw [Int.toNat_natCast, getD_some h]
theorem f_workers {p : Nat} {F : FS} {M : Chunk} {F0 : List Chunk} (hR : FarmR p F M) {K : Int} (hF : FI F K)  (hS : Sat W w (M :: H :: F0)) :
  Calls Tryz.prog 84 #[Pt p 0] w fun e w' => ∃ (az : Option Addr) (nz kz : Nat) (Z : Chunk), e = .returned (.slice az nz kz) ∧ OwnT encWkr 69 7 az nz kz (F.ws) Z ∧ Sat W w' (Z :: M :: H :: F0) := by
 obtain ⟨wa, aa, da, wn, wk, an, ak, dn, dk, q, xs, ap, dp, Wc, Ac, Dc, Qc, acs, dcs, jcs, rfl, hOw, hOa, hOd, hAs, hDs, hQ, hJs, hxl⟩ := hR
 have hS : Sat W _ ((Tri p 102 (preF F.cfg wa wn wk aa an ak da dn dk q) (xs.flatMap encFJob) (encStt F.st)) :: Wc :: Ac :: Dc :: acs.flatten :: dcs.flatten :: Qc :: jcs.flatten :: H :: F0) := Sat.perm hS (by simp [Value.cells])
 have hwl := hOw.len; have hwk := hOw.le; have hal := hOa.len; have hak := hOa.le; have hdl := hOd.len; have hdk := hOd.le; have has1 := hAs.1; have hds1 := hDs.1; have hjs1 := hJs.1
 have hKK := hF.fw.k; have hn9 := hF.fw.n; have hal9 := hF.fw.al; have hdl9 := hF.fw.dl; have hjl9 := hF.fw.jl
 refine callsA 10 Tryz.func84 rfl ?_
 refine sR <| pu1 <| nT <| seqE <| sR <| pu1 ?_
 refine cX Tryz.call56 (f_zero om hS) ?_
 rintro _ _ ⟨rfl, a0⟩
 refine nT <| cFf <| kT <| sR <| pu3 ?_
 refine sLp a0 (ptr_up 0 rfl tri_pre) 8 (.slice wa wn wk) (Tryz.isAgg66 _) ?_
 have b0 := Sat.nilc a0
 have c0 := OwnT.nil (enc := encWkr) (E := 69) (sz := 7) fR
 refine sApp (nb := 56) b0 c0 0 (hOw.rdAt 2 rfl) Tryz.underlying66 (i := Tryz.t69) kr fR ?_
 intro d0 e0 _ _ f0 g0
 refine pu1 <| nT <| retE <| retT [.slice d0 (0 + wn) e0] ?_
 have h0 := (g0.picks [8, 8, 8, 8, 8, 8, 8, 8])
 have i0 := ((h0.merge8).pick 1 rfl)
 exact ⟨_, _, _, _, rfl, (by rw [← List.nil_append F.ws]; exact f0), i0⟩
theorem f_jobs {p : Nat} {F : FS} {M : Chunk} {F0 : List Chunk} (hR : FarmR p F M) {K : Int} (hF : FI F K)  (hS : Sat W w (M :: H :: F0)) :
  Calls Tryz.prog 87 #[Pt p 0] w fun e w' => ∃ (az : Option Addr) (nz kz : Nat) (Z : Chunk), e = .returned (.slice az nz kz) ∧ OwnT encI 3 1 az nz kz (runK F.jobs) Z ∧ Sat W w' (Z :: M :: H :: F0) := by
 obtain ⟨wa, aa, da, wn, wk, an, ak, dn, dk, q, xs, ap, dp, Wc, Ac, Dc, Qc, acs, dcs, jcs, rfl, hOw, hOa, hOd, hAs, hDs, hQ, hJs, hxl⟩ := hR
 have hS : Sat W _ ((Tri p 102 (preF F.cfg wa wn wk aa an ak da dn dk q) (xs.flatMap encFJob) (encStt F.st)) :: Wc :: Ac :: Dc :: acs.flatten :: dcs.flatten :: Qc :: jcs.flatten :: H :: F0) := Sat.perm hS (by simp [Value.cells])
 have hwl := hOw.len; have hwk := hOw.le; have hal := hOa.len; have hak := hOa.le; have hdl := hOd.len; have hdk := hOd.le; have has1 := hAs.1; have hds1 := hDs.1; have hjs1 := hJs.1
 have hKK := hF.fw.k; have hn9 := hF.fw.n; have hal9 := hF.fw.al; have hdl9 := hF.fw.dl; have hjl9 := hF.fw.jl
 refine callsA 26 Tryz.func87 rfl ?_
 refine sR <| pu1 <| nT <| sR <| pu1 <| nT <| seqE <| sR <| pu1 <| nT <| blockE ?_
 have h0 := Sat.nilc hS
 have i0 := OwnT.nil (enc := encI) (E := 3) (sz := 1) fR
 refine loopA (γ := Nat × (List Int) × (Option Addr) × Nat × Nat × Chunk) (fun ⟨i, zs, azs, nzs, kzs, czs⟩ => [(0, Pt p 0), (4, I ((i : Nat) : Int)), (3, .slice azs nzs kzs)]) (fun ⟨i, zs, azs, nzs, kzs, czs⟩ w => Sat W w (czs :: (Tri p 102 (preF F.cfg wa wn wk aa an ak da dn dk q) (xs.flatMap encFJob) (encStt F.st)) :: Wc :: Ac :: Dc :: acs.flatten :: dcs.flatten :: Qc :: jcs.flatten :: H :: F0) ∧ i ≤ 64 ∧ (zs = (allK i).filter (runJ9 F.jobs)) ∧ (zs.length ≤ i) ∧ OwnT encI 3 1 azs nzs kzs zs czs) (fun ⟨i, zs, azs, nzs, kzs, czs⟩ => 64 - i) (0, [], none, 0, 0, []) ⟨h0, om, rfl, (by simp), i0⟩ ?_
 rintro ⟨i, zs, azs, nzs, kzs, czs⟩ ρ _ ⟨j0, hi, hz, hzl, hOzs⟩
 have hn_zs := hOzs.len; have hl_zs := hOzs.le
 refine seqE <| sR <| pu1 ?_
 have k0 := (j0.pick 1 rfl)
 refine cX Tryz.call56 (f_zero om k0) ?_
 rintro _ _ ⟨rfl, a0⟩
 refine pu5 <| nT ?_
 refine cD (((i : Nat) : Int) < 64) (fun l0 => ?_) (fun l0 => ?_)
 rotate_left
 ·refine exitE <| xB <| thenK_n <| sR <| pu2 <| nT <| retE <| retT [.slice azs nzs kzs] ?_
  have m0 := (a0.picks [8, 8, 8, 8, 8, 8, 8, 7])
  have o0 := ((m0.merge8).pick 1 rfl)
  exact ⟨_, _, _, _, rfl, (by rw [show runK F.jobs = zs from by rw [hz, show i = 64 by omega]; rfl]; exact hOzs), o0⟩
 refine kT <| seqE <| blockE <| sR <| pu4 ?_
 obtain ⟨c0, d0⟩ := at_some hxl (k := i) om
 obtain ⟨e0, a1, f0, b1, p0⟩ := Obs.get hJs d0; obtain ⟨c1, g0, d1, e1⟩ := p0.fields
 refine sIdxA (b := p) (off := 12) ((i : Nat) : Int) i Tryz.runUnderlying100 Tryz.sizeOf99 ?_
 refine pu1 ?_
 refine sLp a0 (ptr_up 0 rfl (tri_el (sz := 5) (n0 := 12) fR d0)) 1 (.bool c0.running) (Tryz.isAgg4 _) ?_
 refine nT ?_
 refine cB c0.running (fun b0 => ?_) (fun b0 => ?_)
 rotate_left
 ·refine skipE <| blockK_n <| thenK_n <| regionE <| pu1 ?_
  refine sAdd ((i : Nat) : Int) 1 ?_
  refine pu1 <| nT ?_
  have q0 := (a0.pick 1 rfl)
  exact ⟨(i + 1, zs, azs, nzs, kzs, czs), od, alA, q0, om, (by rw [allK_step, runJ_at f0, show e0.running = false from g0 ▸ Bool.eq_false_iff.2 b0, ← hz]; simp), (by first | omega | (simp; omega)), hOzs⟩
 refine regionE <| pu2 ?_
 refine sBS a0 #[I ((i : Nat) : Int)] Tryz.runUnderlying22 Tryz.sizeOf3 Tryz.zeroValue3 ?_
 intro _ _ r0
 refine sApp (nb := 8) r0 hOzs 2 (RdT.blk (enc := encI) (sz := 1) (xs := [((i : Nat) : Int)]) fR 1 0 rfl rfl rfl om) Tryz.underlying22 (i := Tryz.t3) kr fR ?_
 intro s0 t0 u0 _ v0 w0
 refine pu1 <| nB <| regionE <| pu1 ?_
 refine sAdd ((i : Nat) : Int) 1 ?_
 refine pu1 <| nT ?_
 have x0 := ((w0.pick 2 rfl).dropAt 1 rfl)
 exact ⟨(i + 1, (zs ++ [((i : Nat) : Int)]), s0, (nzs + 1), t0, u0), od, alA, x0, om, (by rw [allK_step, runJ_at f0, show e0.running = true from g0 ▸ b0, ← hz]; simp), (by first | omega | (simp; omega)), v0⟩
theorem r_has_nil {cs : List Chunk} (i : Int) (hS : Sat W w cs) :
    Ro Tryz.prog 152 #[.pointer none, .int .i64 i] (.bool false) W w cs := by
  refine callsA 20 Tryz.func152 rfl ?_
  refine seqE <| regionE <| pu1 <| nilO <| thenK_n <| seqE <| regionE <| pu16 <| nilO <| thenK_n <| retE <| retT [.bool false] <| ?_
  exact ⟨rfl, hS⟩
theorem r_state_nil {cs : List Chunk} (i : Int) (hS : Sat W w cs) :
    Ro Tryz.prog 148 #[.pointer none, .int .i64 i] (.int .i64 0) W w cs := by
  refine callsA 16 Tryz.func148 rfl ?_
  refine seqE <| regionE <| pu1 <| nilO <| thenK_n <| seqE <| seqE <| regionE <| pu2 ?_
  refine cX Tryz.call152 (r_has_nil i hS) ?_
  rintro _ w_1 ⟨rfl, hS_2⟩
  refine pu1 <| nilO <| thenK_n <| cTt <| seqE <| regionE <| pu1 <| nilO <| thenK_n <| retE <| thenK_r <| retT [.int .i64 0] <| ?_
  exact ⟨rfl, hS_2⟩
theorem f_state_o {p : Nat} {F : FS} {M : Chunk} {F0 : List Chunk} (hR : FarmR p F M) {K : Int} (hF : FI F K) (x : Int) (t : Int) (hk : ¬ (0 ≤ x ∧ x < 64)) (hS : Sat W w (M :: H :: F0)) :
  Calls Tryz.prog 96 #[Pt p 0, I x, I t] w fun e w' => e = .returned (I (stateF F x t)) ∧ Sat W w' (M :: H :: F0) := by
 obtain ⟨wa, aa, da, wn, wk, an, ak, dn, dk, q, xs, ap, dp, Wc, Ac, Dc, Qc, acs, dcs, jcs, rfl, hOw, hOa, hOd, hAs, hDs, hQ, hJs, hxl⟩ := hR
 have hS : Sat W _ ((Tri p 102 (preF F.cfg wa wn wk aa an ak da dn dk q) (xs.flatMap encFJob) (encStt F.st)) :: Wc :: Ac :: Dc :: acs.flatten :: dcs.flatten :: Qc :: jcs.flatten :: H :: F0) := Sat.perm hS (by simp [Value.cells])
 have hwl := hOw.len; have hwk := hOw.le; have hal := hOa.len; have hak := hOa.le; have hdl := hOd.len; have hdk := hOd.le; have has1 := hAs.1; have hds1 := hDs.1; have hjs1 := hJs.1
 have hKK := hF.fw.k; have hn9 := hF.fw.n; have hal9 := hF.fw.al; have hdl9 := hF.fw.dl; have hjl9 := hF.fw.jl
 refine callsA 26 Tryz.func96 rfl ?_
 refine sR <| pu1 <| nT <| seqE <| sR <| pu1 ?_
 refine cX Tryz.call56 (f_zero om hS) ?_
 rintro _ _ ⟨rfl, a0⟩
 refine pu5 ?_
 refine sD 13 (x < 0) (fun b0 => ?_) (fun b0 => ?_)
 ·refine pu3 <| nT <| cTt <| sR <| pu1 <| nT <| retE <| thenK_r <| retT [I 0] ?_
  have c0 := (a0.merge8)
  exact ⟨congrArg (fun z => Ending.returned (I z)) ((state_no (fun h => hk ⟨h.1, h.2.1⟩)).symm), c0⟩
 refine pu3 <| nT ?_
 have d0 : (x : Int) ≥ 64 := om
 refine cT _ (decide_eq_true d0) ?_
 refine sR <| pu1 <| nT <| retE <| thenK_r <| retT [I 0] ?_
 have e0 := (a0.merge8)
 exact ⟨congrArg (fun z => Ending.returned (I z)) ((state_no (fun h => hk ⟨h.1, h.2.1⟩)).symm), e0⟩
theorem f_state_n {p : Nat} {F : FS} {M : Chunk} {F0 : List Chunk} (hR : FarmR p F M) {K : Int} (hF : FI F K) {j : JS} (x : Int) (t : Int) (hx : 0 ≤ x ∧ x < 64) (hj : F.jobs[x.toNat]? = some j) (ha : j.added = false) (hS : Sat W w (M :: H :: F0)) :
  Calls Tryz.prog 96 #[Pt p 0, I x, I t] w fun e w' => e = .returned (I (stateF F x t)) ∧ Sat W w' (M :: H :: F0) := by
 obtain ⟨wa, aa, da, wn, wk, an, ak, dn, dk, q, xs, ap, dp, Wc, Ac, Dc, Qc, acs, dcs, jcs, rfl, hOw, hOa, hOd, hAs, hDs, hQ, hJs, hxl⟩ := hR
 have hS : Sat W _ ((Tri p 102 (preF F.cfg wa wn wk aa an ak da dn dk q) (xs.flatMap encFJob) (encStt F.st)) :: Wc :: Ac :: Dc :: acs.flatten :: dcs.flatten :: Qc :: jcs.flatten :: H :: F0) := Sat.perm hS (by simp [Value.cells])
 have hwl := hOw.len; have hwk := hOw.le; have hal := hOa.len; have hak := hOa.le; have hdl := hOd.len; have hdk := hOd.le; have has1 := hAs.1; have hds1 := hDs.1; have hjs1 := hJs.1
 have hKK := hF.fw.k; have hn9 := hF.fw.n; have hal9 := hF.fw.al; have hdl9 := hF.fw.dl; have hjl9 := hF.fw.jl
 obtain ⟨m0, b0⟩ := at_some hxl (k := (x.toNat)) om
 obtain ⟨c0, o0, d0, p0, e0⟩ := Obs.get hJs b0
 obtain rfl : c0 = j := Option.some.inj (d0.symm.trans hj)
 have f0 := jobM_zero e0 ha; subst f0
 refine callsA 26 Tryz.func96 rfl ?_
 refine sR <| pu1 <| nT <| seqE <| sR <| pu1 ?_
 refine cX Tryz.call56 (f_zero om hS) ?_
 rintro _ _ ⟨rfl, a0⟩
 refine pu5 ?_
 refine sD 13 (x < 0) (fun g0 => ?_) (fun g0 => ?_)
 ·refine pu3 <| nT <| cTt <| sR <| pu1 <| nT <| retE <| thenK_r <| retT [I 0] ?_
  have h0 := (a0.merge8)
  exact ⟨congrArg (fun z => Ending.returned (I z)) ((state_no (F := F) (x := x) (by rw [getD_some hj, ha]; simp)).symm), h0⟩
 refine pu3 <| nT ?_
 refine cD (x ≥ 64) (fun i0 => ?_) (fun i0 => ?_)
 ·refine sR <| pu1 <| nT <| retE <| thenK_r <| retT [I 0] ?_
  have j0 := (a0.merge8)
  exact ⟨congrArg (fun z => Ending.returned (I z)) ((state_no (F := F) (x := x) (by rw [getD_some hj, ha]; simp)).symm), j0⟩
 refine kT <| sR <| pu4 ?_
 refine sIdxA (b := p) (off := 12) x (x.toNat) Tryz.runUnderlying100 Tryz.sizeOf99 ?_
 refine pu1 ?_
 refine sLp a0 (ptr_up 0 rfl (tri_el (sz := 5) (n0 := 12) fR b0)) 4 (.pointer none) (Tryz.isAgg97 _) ?_
 refine pu1 ?_
 refine cX Tryz.call148 (r_state_nil t a0) ?_
 rintro _ _ ⟨rfl, k0⟩
 refine pu1 <| nT <| retE <| retT [I 0] ?_
 have l0 := (k0.merge8)
 exact ⟨congrArg (fun z => Ending.returned (I z)) ((state_no (F := F) (x := x) (by rw [getD_some hj, ha]; simp)).symm), l0⟩
theorem f_state_1 {p : Nat} {F : FS} {M : Chunk} {F0 : List Chunk} (hR : FarmR p F M) {K : Int} (hF : FI F K) {j : JS} (x : Int) (t : Int) (hx : 0 ≤ x ∧ x < 64) (hj : F.jobs[x.toNat]? = some j) (ha : j.added = true) (hS : Sat W w (M :: H :: F0)) :
  Calls Tryz.prog 96 #[Pt p 0, I x, I t] w fun e w' => e = .returned (I (stateF F x t)) ∧ Sat W w' (M :: H :: F0) := by
 obtain ⟨wa, aa, da, wn, wk, an, ak, dn, dk, q, xs, ap, dp, Wc, Ac, Dc, Qc, acs, dcs, jcs, rfl, hOw, hOa, hOd, hAs, hDs, hQ, hJs, hxl⟩ := hR
 have hS : Sat W _ ((Tri p 102 (preF F.cfg wa wn wk aa an ak da dn dk q) (xs.flatMap encFJob) (encStt F.st)) :: Wc :: Ac :: Dc :: acs.flatten :: dcs.flatten :: Qc :: jcs.flatten :: H :: F0) := Sat.perm hS (by simp [Value.cells])
 have hwl := hOw.len; have hwk := hOw.le; have hal := hOa.len; have hak := hOa.le; have hdl := hOd.len; have hdk := hOd.le; have has1 := hAs.1; have hds1 := hDs.1; have hjs1 := hJs.1
 have hKK := hF.fw.k; have hn9 := hF.fw.n; have hal9 := hF.fw.al; have hdl9 := hF.fw.dl; have hjl9 := hF.fw.jl
 have hjo := hF.fw.j j (List.mem_of_getElem? hj); obtain ⟨hBW, hdl, hb1, hb2⟩ := hjo.b ha; have hjn9 := hjo.n
 obtain ⟨b1, d0⟩ := at_some hxl (k := (x.toNat)) om
 obtain ⟨e0, c1, i0, c0, j0⟩ := Obs.get hJs d0
 obtain rfl : e0 = j := Option.some.inj (i0.symm.trans hj)
 obtain ⟨d1, e1, f1, g1, k0, a0, b0, rfl, rfl, f0, h1, l0, m0⟩ := j0.open ha
 have o0 := (hS.pick 7 rfl)
 have p0 := Sat.openN (A := []) (x.toNat) c0 o0
 have q0 : Sat W _ (a0 :: b0 :: (jcs.eraseIdx (x.toNat)).flatten :: (Tri p 102 (preF F.cfg wa wn wk aa an ak da dn dk q) (xs.flatMap encFJob) (encStt F.st)) :: Wc :: Ac :: Dc :: acs.flatten :: dcs.flatten :: Qc :: H :: F0) := Sat.perm p0 (by simp [Value.cells])
 have hn_ta_7 := f0.len; have hl_ta_7 := f0.le; have hm_ta_7 := congrArg List.length l0; rw [List.length_map] at hm_ta_7
 refine callsA 26 Tryz.func96 rfl ?_
 refine sR <| pu1 <| nT <| seqE <| sR <| pu1 ?_
 have r0 := (q0.pick 3 rfl)
 refine cX Tryz.call56 (f_zero om r0) ?_
 rintro _ _ ⟨rfl, g0⟩
 refine pu5 ?_
 refine sD 13 (x < 0) (fun s0 => ?_) (fun s0 => ?_)
 ·refine pu3 <| nT <| cTt <| sR <| pu1 <| nT <| retE <| thenK_r <| retT [I 0] ?_
  omega
 refine pu3 <| nT ?_
 refine cD (x ≥ 64) (fun t0 => ?_) (fun t0 => ?_)
 ·refine sR <| pu1 <| nT <| retE <| thenK_r <| retT [I 0] ?_
  omega
 refine kT <| sR <| pu4 ?_
 refine sIdxA (b := p) (off := 12) x (x.toNat) Tryz.runUnderlying100 Tryz.sizeOf99 ?_
 refine pu1 ?_
 refine sLp g0 (ptr_up 0 rfl (tri_el (sz := 5) (n0 := 12) fR d0)) 4 (Pt k0 0) (Tryz.isAgg97 _) ?_
 refine pu1 ?_
 have u0 := (g0.pick 2 rfl)
 refine cX Tryz.call148 (r_state m0 hBW t (Sat.flat1 u0)) ?_
 rintro _ _ ⟨rfl, v0⟩
 have w0 := Sat.unflat1 v0
 refine pu1 <| nT <| retE <| retT [I (stAt e0.B.st t)] ?_
 have x0 := (w0.picks [3, 1, 3])
 have y0 : Sat W _ ((a0 ++ b0) :: (jcs.eraseIdx (x.toNat)).flatten :: (Tri p 102 (preF F.cfg wa wn wk aa an ak da dn dk q) (xs.flatMap encFJob) (encStt F.st)) :: Wc :: Ac :: Dc :: acs.flatten :: dcs.flatten :: Qc :: H :: F0) := Sat.perm (show Sat W _ (a0 :: b0 :: (jcs.eraseIdx (x.toNat)).flatten :: (Tri p 102 (preF F.cfg wa wn wk aa an ak da dn dk q) (xs.flatMap encFJob) (encStt F.st)) :: Wc :: Ac :: Dc :: acs.flatten :: dcs.flatten :: Qc :: H :: F0) from x0) (by simp [Value.cells])
 have h0 := Sat.shutN (d := a0 ++ b0) (A := []) (x.toNat) c0 y0; rw [set_same c0] at h0
 have z0 := (h0.picks [7, 7, 7, 7, 7, 7, 7])
 have a1 := (z0.merge8)
 exact ⟨congrArg (fun z => Ending.returned (I z)) ((state_at hx hj ha).symm), a1⟩
theorem f_state {W w : World} {p : Nat} {F : FS} {M H : Chunk} {F0 : List Chunk} (hR : FarmR p F M) {K : Int} (hF : FI F K) (x t : Int) (hS : Sat W w (M :: H :: F0)) :
    Calls Tryz.prog 96 #[.pointer (some ⟨p, 0, none⟩), .int .i64 x, .int .i64 t] w fun e w' => e = .returned (.int .i64 (stateF F x t)) ∧ Sat W w' (M :: H :: F0) := by
  by_cases hx : 0 ≤ x ∧ x < 64
  · obtain ⟨j, hj⟩ := at_some hF.fw.jl (k := x.toNat) (by omega)
    cases ha : j.added
    · exact f_state_n hR hF x t hx hj ha hS
    · exact f_state_1 hR hF x t hx hj ha hS
  · exact f_state_o hR hF x t hx hS
theorem f_tasks_o {p : Nat} {F : FS} {M : Chunk} {F0 : List Chunk} (hR : FarmR p F M) {K : Int} (hF : FI F K) (x : Int) (hk : ¬ (0 ≤ x ∧ x < 64)) (hS : Sat W w (M :: H :: F0)) :
  Calls Tryz.prog 31 #[Pt p 0, I x] w fun e w' => ∃ (az : Option Addr) (nz kz : Nat) (zs : List Task) (C G : Chunk), e = .returned (.slice az nz kz) ∧ OwnT encTask 45 9 az nz kz zs C ∧ (∀ z ∈ zs, Task.Ok [G] z) ∧ zs.map Task.v = tasksF F x ∧ Sat W w' (C :: G :: M :: H :: F0) := by
 obtain ⟨wa, aa, da, wn, wk, an, ak, dn, dk, q, xs, ap, dp, Wc, Ac, Dc, Qc, acs, dcs, jcs, rfl, hOw, hOa, hOd, hAs, hDs, hQ, hJs, hxl⟩ := hR
 have hS : Sat W _ ((Tri p 102 (preF F.cfg wa wn wk aa an ak da dn dk q) (xs.flatMap encFJob) (encStt F.st)) :: Wc :: Ac :: Dc :: acs.flatten :: dcs.flatten :: Qc :: jcs.flatten :: H :: F0) := Sat.perm hS (by simp [Value.cells])
 have hwl := hOw.len; have hwk := hOw.le; have hal := hOa.len; have hak := hOa.le; have hdl := hOd.len; have hdk := hOd.le; have has1 := hAs.1; have hds1 := hDs.1; have hjs1 := hJs.1
 have hKK := hF.fw.k; have hn9 := hF.fw.n; have hal9 := hF.fw.al; have hdl9 := hF.fw.dl; have hjl9 := hF.fw.jl
 refine callsA 49 Tryz.func31 rfl ?_
 refine sR <| pu1 <| nT <| sR <| pu1 <| nT <| seqE <| sR <| pu1 ?_
 refine cX Tryz.call56 (f_zero om hS) ?_
 rintro _ _ ⟨rfl, a0⟩
 refine pu5 ?_
 refine sD 14 (x < 0) (fun b0 => ?_) (fun b0 => ?_)
 ·refine pu3 <| nT <| cTt <| sR <| pu1 <| nT <| retE <| thenK_r <| retT [.slice none 0 0] ?_
  have c0 := (a0.merge8)
  have d0 := Sat.nilc (Sat.nilc c0)
  exact ⟨_, _, _, [], _, _, rfl, OwnT.nil fR, (fun z hz => by cases hz), (tasks_no (F := F) (x := x) (fun h => hk ⟨h.1, h.2.1⟩)).symm, d0⟩
 refine pu3 <| nT ?_
 have e0 : (x : Int) ≥ 64 := om
 refine cT _ (decide_eq_true e0) ?_
 refine sR <| pu1 <| nT <| retE <| thenK_r <| retT [.slice none 0 0] ?_
 have f0 := (a0.merge8)
 have g0 := Sat.nilc (Sat.nilc f0)
 exact ⟨_, _, _, [], _, _, rfl, OwnT.nil fR, (fun z hz => by cases hz), (tasks_no (F := F) (x := x) (fun h => hk ⟨h.1, h.2.1⟩)).symm, g0⟩
theorem f_tasks_n {p : Nat} {F : FS} {M : Chunk} {F0 : List Chunk} (hR : FarmR p F M) {K : Int} (hF : FI F K) {j : JS} (x : Int) (hx : 0 ≤ x ∧ x < 64) (hj : F.jobs[x.toNat]? = some j) (ha : j.added = false) (hS : Sat W w (M :: H :: F0)) :
  Calls Tryz.prog 31 #[Pt p 0, I x] w fun e w' => ∃ (az : Option Addr) (nz kz : Nat) (zs : List Task) (C G : Chunk), e = .returned (.slice az nz kz) ∧ OwnT encTask 45 9 az nz kz zs C ∧ (∀ z ∈ zs, Task.Ok [G] z) ∧ zs.map Task.v = tasksF F x ∧ Sat W w' (C :: G :: M :: H :: F0) := by
 obtain ⟨wa, aa, da, wn, wk, an, ak, dn, dk, q, xs, ap, dp, Wc, Ac, Dc, Qc, acs, dcs, jcs, rfl, hOw, hOa, hOd, hAs, hDs, hQ, hJs, hxl⟩ := hR
 have hS : Sat W _ ((Tri p 102 (preF F.cfg wa wn wk aa an ak da dn dk q) (xs.flatMap encFJob) (encStt F.st)) :: Wc :: Ac :: Dc :: acs.flatten :: dcs.flatten :: Qc :: jcs.flatten :: H :: F0) := Sat.perm hS (by simp [Value.cells])
 have hwl := hOw.len; have hwk := hOw.le; have hal := hOa.len; have hak := hOa.le; have hdl := hOd.len; have hdk := hOd.le; have has1 := hAs.1; have hds1 := hDs.1; have hjs1 := hJs.1
 have hKK := hF.fw.k; have hn9 := hF.fw.n; have hal9 := hF.fw.al; have hdl9 := hF.fw.dl; have hjl9 := hF.fw.jl
 obtain ⟨p0, b0⟩ := at_some hxl (k := (x.toNat)) om
 obtain ⟨c0, q0, d0, r0, e0⟩ := Obs.get hJs b0
 obtain rfl : c0 = j := Option.some.inj (d0.symm.trans hj)
 have f0 := jobM_zero e0 ha; subst f0
 refine callsA 49 Tryz.func31 rfl ?_
 refine sR <| pu1 <| nT <| sR <| pu1 <| nT <| seqE <| sR <| pu1 ?_
 refine cX Tryz.call56 (f_zero om hS) ?_
 rintro _ _ ⟨rfl, a0⟩
 refine pu5 ?_
 refine sD 14 (x < 0) (fun g0 => ?_) (fun g0 => ?_)
 ·refine pu3 <| nT <| cTt <| sR <| pu1 <| nT <| retE <| thenK_r <| retT [.slice none 0 0] ?_
  have h0 := (a0.merge8)
  have i0 := Sat.nilc (Sat.nilc h0)
  exact ⟨_, _, _, [], _, _, rfl, OwnT.nil fR, (fun z hz => by cases hz), (tasks_no (F := F) (x := x) (by rw [getD_some hj, ha]; simp)).symm, i0⟩
 refine pu3 <| nT ?_
 refine cD (x ≥ 64) (fun j0 => ?_) (fun j0 => ?_)
 ·refine sR <| pu1 <| nT <| retE <| thenK_r <| retT [.slice none 0 0] ?_
  have k0 := (a0.merge8)
  have l0 := Sat.nilc (Sat.nilc k0)
  exact ⟨_, _, _, [], _, _, rfl, OwnT.nil fR, (fun z hz => by cases hz), (tasks_no (F := F) (x := x) (by rw [getD_some hj, ha]; simp)).symm, l0⟩
 refine kT <| seqE <| sR <| pu1 <| nT <| blockE ?_
 refine loopN 1 ?_
 refine roundS ?_
 refine seqE <| sR <| pu5 ?_
 refine sIdxA (b := p) (off := 12) x (x.toNat) Tryz.runUnderlying100 Tryz.sizeOf99 ?_
 refine pu1 ?_
 refine sLp a0 (ptr_up 0 rfl (tri_el (sz := 5) (n0 := 12) fR b0)) 3 (.slice none 0 0) (Tryz.isAgg39 _) ?_
 refine pu2 <| nT <| cFf <| exitE <| xB <| thenK_n <| sR <| pu2 <| nT <| retE <| retT [.slice none 0 0] ?_
 have m0 := (a0.merge8)
 have o0 := Sat.nilc (Sat.nilc m0)
 exact ⟨_, _, _, [], _, _, rfl, OwnT.nil fR, (fun z hz => by cases hz), (tasks_no (F := F) (x := x) (by rw [getD_some hj, ha]; simp)).symm, o0⟩
theorem f_tasks_1 {p : Nat} {F : FS} {M : Chunk} {F0 : List Chunk} (hR : FarmR p F M) {K : Int} (hF : FI F K) {j : JS} (x : Int) (hx : 0 ≤ x ∧ x < 64) (hj : F.jobs[x.toNat]? = some j) (ha : j.added = true) (hS : Sat W w (M :: H :: F0)) :
  Calls Tryz.prog 31 #[Pt p 0, I x] w fun e w' => ∃ (az : Option Addr) (nz kz : Nat) (zs : List Task) (C G : Chunk), e = .returned (.slice az nz kz) ∧ OwnT encTask 45 9 az nz kz zs C ∧ (∀ z ∈ zs, Task.Ok [G] z) ∧ zs.map Task.v = tasksF F x ∧ Sat W w' (C :: G :: M :: H :: F0) := by
 obtain ⟨wa, aa, da, wn, wk, an, ak, dn, dk, q, xs, ap, dp, Wc, Ac, Dc, Qc, acs, dcs, jcs, rfl, hOw, hOa, hOd, hAs, hDs, hQ, hJs, hxl⟩ := hR
 have hS : Sat W _ ((Tri p 102 (preF F.cfg wa wn wk aa an ak da dn dk q) (xs.flatMap encFJob) (encStt F.st)) :: Wc :: Ac :: Dc :: acs.flatten :: dcs.flatten :: Qc :: jcs.flatten :: H :: F0) := Sat.perm hS (by simp [Value.cells])
 have hwl := hOw.len; have hwk := hOw.le; have hal := hOa.len; have hak := hOa.le; have hdl := hOd.len; have hdk := hOd.le; have has1 := hAs.1; have hds1 := hDs.1; have hjs1 := hJs.1
 have hKK := hF.fw.k; have hn9 := hF.fw.n; have hal9 := hF.fw.al; have hdl9 := hF.fw.dl; have hjl9 := hF.fw.jl
 have hjo := hF.fw.j j (List.mem_of_getElem? hj); obtain ⟨hBW, hdl, hb1, hb2⟩ := hjo.b ha; have hjn9 := hjo.n
 obtain ⟨b2, i0⟩ := at_some hxl (k := (x.toNat)) om
 obtain ⟨v0, c2, w0, j0, x0⟩ := Obs.get hJs i0
 obtain rfl : v0 = j := Option.some.inj (w0.symm.trans hj)
 obtain ⟨p0, e0, q0, y0, d2, b0, c0, rfl, rfl, k0, l0, m0, e2⟩ := x0.open ha
 have z0 := (hS.pick 7 rfl)
 have a1 := Sat.openN (A := []) (x.toNat) j0 z0
 have b1 : Sat W _ (b0 :: c0 :: (jcs.eraseIdx (x.toNat)).flatten :: (Tri p 102 (preF F.cfg wa wn wk aa an ak da dn dk q) (xs.flatMap encFJob) (encStt F.st)) :: Wc :: Ac :: Dc :: acs.flatten :: dcs.flatten :: Qc :: H :: F0) := Sat.perm a1 (by simp [Value.cells])
 have hn_ta_7 := k0.len; have hl_ta_7 := k0.le; have hm_ta_7 := congrArg List.length m0; rw [List.length_map] at hm_ta_7
 refine callsA 49 Tryz.func31 rfl ?_
 refine sR <| pu1 <| nT <| sR <| pu1 <| nT <| seqE <| sR <| pu1 ?_
 have c1 := (b1.pick 3 rfl)
 refine cX Tryz.call56 (f_zero om c1) ?_
 rintro _ _ ⟨rfl, d1⟩
 refine pu5 ?_
 refine sD 14 (x < 0) (fun e1 => ?_) (fun e1 => ?_)
 ·refine pu3 <| nT <| cTt <| sR <| pu1 <| nT <| retE <| thenK_r <| retT [.slice none 0 0] ?_
  omega
 refine pu3 <| nT ?_
 refine cD (x ≥ 64) (fun f1 => ?_) (fun f1 => ?_)
 ·refine sR <| pu1 <| nT <| retE <| thenK_r <| retT [.slice none 0 0] ?_
  omega
 refine kT <| seqE <| sR <| pu1 <| nT <| blockE ?_
 have g1 := Sat.nilc d1
 have h1 := OwnT.nil (enc := encTask) (E := 45) (sz := 9) fR
 have i1 := Sat.nilc g1
 refine loopA (γ := Nat × (List Task) × (Option Addr) × Nat × Nat × Chunk × Chunk) (fun ⟨i, zs, azs, nzs, kzs, czs, Gzs⟩ => [(0, Pt p 0), (1, I x), (6, I ((i : Nat) : Int)), (5, .slice azs nzs kzs)]) (fun ⟨i, zs, azs, nzs, kzs, czs, Gzs⟩ w => Sat W w (Gzs :: czs :: (Tri p 102 (preF F.cfg wa wn wk aa an ak da dn dk q) (xs.flatMap encFJob) (encStt F.st)) :: b0 :: c0 :: (jcs.eraseIdx (x.toNat)).flatten :: Wc :: Ac :: Dc :: acs.flatten :: dcs.flatten :: Qc :: H :: F0) ∧ i ≤ e0 ∧ (zs.map Task.v = (y0.take i).map Task.v) ∧ (zs.length = i) ∧ OwnT encTask 45 9 azs nzs kzs zs czs ∧ (∀ z ∈ zs, Task.Ok [Gzs] z)) (fun ⟨i, zs, azs, nzs, kzs, czs, Gzs⟩ => e0 - i) (0, [], none, 0, 0, [], []) ⟨i1, om, rfl, rfl, h1, (by intro z hz; cases hz)⟩ ?_
 rintro ⟨i, zs, azs, nzs, kzs, czs, Gzs⟩ ρ _ ⟨f0, hi, hzv, hzl, hOzs, hDzs⟩
 have hn_zs := hOzs.len; have hl_zs := hOzs.le
 refine seqE <| sR <| pu5 ?_
 refine sIdxA (b := p) (off := 12) x (x.toNat) Tryz.runUnderlying100 Tryz.sizeOf99 ?_
 refine pu1 ?_
 refine sLp f0 (ptr_up 2 rfl (tri_el (sz := 5) (n0 := 12) fR i0)) 3 (.slice p0 e0 q0) (Tryz.isAgg39 _) ?_
 refine pu2 <| nT ?_
 refine cD (((i : Nat) : Int) < ((e0 : Nat) : Int)) (fun j1 => ?_) (fun j1 => ?_)
 rotate_left
 ·refine exitE <| xB <| thenK_n <| sR <| pu2 <| nT <| retE <| retT [.slice azs nzs kzs] ?_
  have k1 := (f0.picks [5, 5, 5])
  have l1 : Sat W _ ((b0 ++ c0) :: (jcs.eraseIdx (x.toNat)).flatten :: Gzs :: czs :: (Tri p 102 (preF F.cfg wa wn wk aa an ak da dn dk q) (xs.flatMap encFJob) (encStt F.st)) :: Wc :: Ac :: Dc :: acs.flatten :: dcs.flatten :: Qc :: H :: F0) := Sat.perm (show Sat W _ (b0 :: c0 :: (jcs.eraseIdx (x.toNat)).flatten :: Gzs :: czs :: (Tri p 102 (preF F.cfg wa wn wk aa an ak da dn dk q) (xs.flatMap encFJob) (encStt F.st)) :: Wc :: Ac :: Dc :: acs.flatten :: dcs.flatten :: Qc :: H :: F0) from k1) (by simp [Value.cells])
  have r0 := Sat.shutN (d := b0 ++ c0) (A := []) (x.toNat) j0 l1; rw [set_same j0] at r0
  have m1 := (r0.picks [2, 1, 9, 9, 9, 9, 9, 9, 9])
  have n1 := ((m1.merge8).picks [2, 2])
  rw [List.take_of_length_le om] at hzv
  exact ⟨_, _, _, _, _, _, rfl, hOzs, hDzs, hzv.trans (m0.trans (tasks_at hx hj ha).symm), n1⟩
 refine kT <| seqE <| blockE <| sR <| pu4 ?_
 refine sIdxA (b := p) (off := 12) x (x.toNat) Tryz.runUnderlying100 Tryz.sizeOf99 ?_
 refine pu1 ?_
 refine sLp f0 (ptr_up 2 rfl (tri_el (sz := 5) (n0 := 12) fR i0)) 3 (.slice p0 e0 q0) (Tryz.isAgg39 _) ?_
 refine pu1 ?_
 refine sIdx k0 ((i : Nat) : Int) Tryz.runUnderlying39 Tryz.sizeOf45 ?_
 intro a0 _ _ d0 o1
 rw [Int.toNat_natCast] at d0
 have htd_x_22 := (l0 a0 (List.mem_of_getElem? d0)).deps.len; have htk_x_22 := (l0 a0 (List.mem_of_getElem? d0)).deps.le; have hal_x_22 := (hF.a.t _ (List.mem_of_getElem? hj) a0.v (by rw [← m0]; exact List.mem_map.2 ⟨a0, (List.mem_of_getElem? d0), rfl⟩)).2.2.2.2; have hal2_x_22 : a0.deps.l.length ≤ 4096 := hal_x_22
 refine sLpA f0 (o1.up 3 rfl) 0 (encTask a0) (Tryz.isAgg45 _) (Tryz.sizeOf45 _) ?_
 refine sAlloc f0 Tryz.zeroValue45 ?_
 intro _ _ p1
 refine sT p1 0 0 (.agg (encTask a0).toArray) (encTask a0) (encTask a0).toArray Tryz.sizeOf45 ?_
 intro _ s0
 refine nT <| sR <| pu1 ?_
 refine sL s0 0 6 (.slice a0.deps.a a0.deps.n a0.deps.k) (Tryz.isAgg22 _) ?_
 have q1 := Sat.nilc s0
 have r1 := OwnT.nil (enc := encI) (E := 3) (sz := 1) fR
 refine sApp (nb := 8) q1 r1 0 ((l0 a0 (List.mem_of_getElem? d0)).deps.up 5 rfl) Tryz.underlying22 (i := Tryz.t3) kr fR ?_
 intro g0 h0 o0 _ s1 t1
 refine pu1 ?_
 refine tW t1 1 6 (.slice g0 (0 + a0.deps.n) h0) Tryz.sizeOf22 ?_
 intro _ t0
 refine nT <| regionE <| pu1 ?_
 refine lA t0 1 0 9 (Tryz.isAgg45 _) (Tryz.sizeOf45 _) ?_
 refine sBS t0 #[I a0.stage, I a0.part, I a0.rectX0, I a0.rectY0, I a0.rectX1, I a0.rectY1, .slice g0 (0 + a0.deps.n) h0, I a0.rows, I a0.scratch] Tryz.runUnderlying39 Tryz.sizeOf45 Tryz.zeroValue45 ?_
 intro _ _ u1
 refine sApp (nb := 88) u1 hOzs 4 (RdT.blk (enc := encTask) (sz := 9) (xs := [(⟨a0.stage, a0.part, a0.rectX0, a0.rectY0, a0.rectX1, a0.rectY1, ⟨g0, (0 + a0.deps.n), h0, ([] ++ a0.deps.l)⟩, a0.rows, a0.scratch⟩ : Task)]) fR 1 0 rfl rfl rfl om) Tryz.underlying39 (i := Tryz.t45) kr fR ?_
 intro v1 w1 u0 _ x1 y1
 refine pu1 <| nB <| regionE <| pu1 ?_
 refine sAdd ((i : Nat) : Int) 1 ?_
 refine pu1 <| nT ?_
 have z1 := (y1.drops [0, 1])
 have a2 := (Sat.perm (cs' := (o0 ++ Gzs) :: (u0 :: (Tri p 102 (preF F.cfg wa wn wk aa an ak da dn dk q) (xs.flatMap encFJob) (encStt F.st)) :: b0 :: c0 :: (jcs.eraseIdx (x.toNat)).flatten :: Wc :: Ac :: Dc :: acs.flatten :: dcs.flatten :: Qc :: H :: F0)) z1 (by simp))
 exact ⟨(i + 1, (zs ++ [(⟨a0.stage, a0.part, a0.rectX0, a0.rectY0, a0.rectX1, a0.rectY1, ⟨g0, (0 + a0.deps.n), h0, ([] ++ a0.deps.l)⟩, a0.rows, a0.scratch⟩ : Task)]), v1, (nzs + 1), w1, u0, (o0 ++ Gzs)), od, alA, a2, om, (by rw [List.map_append, hzv, take_succ_at d0, List.map_append]; rfl), by first | omega | (simp; omega), x1, (by
   intro z hz
   rcases List.mem_append.1 hz with h | h
   ·exact (hDzs z h).of_mem mS
   ·simp only [List.mem_singleton] at h; subst h; exact ⟨(s1.rdAt (cs := [o0]) 0 rfl).of_mem mS⟩)⟩
theorem f_tasks {W w : World} {p : Nat} {F : FS} {M H : Chunk} {F0 : List Chunk} (hR : FarmR p F M) {K : Int} (hF : FI F K) (x : Int) (hS : Sat W w (M :: H :: F0)) :
  Calls Tryz.prog 31 #[Pt p 0, I x] w fun e w' => ∃ (az : Option Addr) (nz kz : Nat) (zs : List Task) (C G : Chunk), e = .returned (.slice az nz kz) ∧ OwnT encTask 45 9 az nz kz zs C ∧ (∀ z ∈ zs, Task.Ok [G] z) ∧ zs.map Task.v = tasksF F x ∧ Sat W w' (C :: G :: M :: H :: F0) := by
 by_cases hx : 0 ≤ x ∧ x < 64
 ·obtain ⟨j, hj⟩ := at_some hF.fw.jl (k := x.toNat) om
  cases ha : j.added
  ·exact f_tasks_n hR hF x hx hj ha hS
  ·exact f_tasks_1 hR hF x hx hj ha hS
 ·exact f_tasks_o hR hF x hx hS
end Go.Proofs.YtegmennaekipaaaGreat

namespace Go.Proofs.YtegmennaekipaaaGreat
open Go Go.E
set_option linter.unusedVariables false
set_option linter.unusedSimpArgs false
set_option linter.unnecessarySimpa false
set_option maxRecDepth 100000
set_option maxHeartbeats 2000000
variable {W w : World} {H : Chunk} {F : List Chunk}
theorem any_run {F : FS} {K x : Int} (hF : FW F K) (hx : 0 ≤ x ∧ x < 64) : ((runK F.jobs).any fun y => y == x) = (jobAt F x).running := by
  rw [Bool.eq_iff_iff, List.any_eq_true]
  constructor
  · rintro ⟨y, hy, h⟩
    rw [beq_iff_eq.1 h] at hy
    exact ((runK_mem hF).1 hy).2
  · intro h
    exact ⟨x, (runK_mem hF).2 ⟨hx, h⟩, beq_iff_eq.2 rfl⟩
  
theorem any_more {l : List Int} {k : Nat} {p : Int → Bool} (h : (l.take k).any p = true) : (l.take (k + 1)).any p = true := by rw [List.take_add_one, List.any_append, h, Bool.true_or]
theorem r29_rest (w0 : Wkr) (t : Task) (ht : Task.Ok [H] t) (hr1 : 0 ≤ t.rows ∧ t.rows ≤ 128) (hr2 : 0 ≤ w0.row ∧ w0.row ≤ 4096) (hr3 : w0.phase = 1 ∨ w0.phase = 2 ∨ w0.phase = 3) (hS : Sat W w (H :: F)) :
  Ro Tryz.prog 100 #[.agg (encWkr w0).toArray, .agg (encTask t).toArray] (I (restR w0 t.rows)) W w (H :: F) := by
 have hl_t_deps := ht.deps.le; have hn_t_deps := ht.deps.len
 refine callsA 22 Tryz.func100 rfl ?_
 refine sR ?_
 refine sBox hS (.agg (encWkr w0).toArray) (encWkr w0).toArray ?_
 intro _ _ b0
 refine sBox b0 (.agg (encTask t).toArray) (encTask t).toArray ?_
 intro _ _ a0
 refine pu1 <| nT <| seqE <| sR <| pu1 ?_
 refine sL a0 1 0 (I w0.phase) (Tryz.isAgg3 _) ?_
 refine nT <| blockE <| sR <| pu2 <| nT ?_
 refine cE w0.phase 1 (fun c0 => ?_) (fun c0 => ?_)
 ·refine sR <| pu1 ?_
  refine sL a0 0 7 (I t.rows) (Tryz.isAgg3 _) ?_
  refine sAdd t.rows 2 ?_
  refine pu1 <| nT <| retE <| blockK_r <| thenK_r <| retT [I (t.rows + 2)] ?_
  have d0 := (a0.drops [0, 0])
  exact ⟨congrArg (fun z => Ending.returned (I z)) (by unfold restR; first | rw [if_pos om] | rw [if_neg om, if_pos om] | rw [if_neg om, if_neg om]), d0⟩
 refine sR <| pu2 <| nT ?_
 refine cE w0.phase 2 (fun e0 => ?_) (fun e0 => ?_)
 ·refine sR <| pu1 ?_
  refine sL a0 0 7 (I t.rows) (Tryz.isAgg3 _) ?_
  refine pu1 ?_
  refine sL a0 1 4 (I w0.row) (Tryz.isAgg3 _) ?_
  refine sSub t.rows w0.row ?_
  refine sAdd (t.rows - w0.row) 1 ?_
  refine pu1 <| nT <| retE <| blockK_r <| thenK_r <| retT [I ((t.rows - w0.row) + 1)] ?_
  have f0 := (a0.drops [0, 0])
  exact ⟨congrArg (fun z => Ending.returned (I z)) (by unfold restR; first | rw [if_pos om] | rw [if_neg om, if_pos om] | rw [if_neg om, if_neg om]), f0⟩
 refine sR <| pu2 <| nT ?_
 refine cE w0.phase 3 (fun g0 => ?_) (fun g0 => ?_)
 rotate_left
 ·refine skipE <| blockK_n <| thenK_n <| sR <| pu1 <| nT <| retE <| retT [I 0] ?_
  have m0 := (a0.drops [0, 0])
  omega
 refine sR <| pu1 <| nT <| retE <| blockK_r <| thenK_r <| retT [I 1] ?_
 have h0 := (a0.drops [0, 0])
 exact ⟨congrArg (fun z => Ending.returned (I z)) (by unfold restR; first | rw [if_pos om] | rw [if_neg om, if_pos om] | rw [if_neg om, if_neg om]), h0⟩
set_option maxHeartbeats 6000000
theorem r29_left {p : Nat} {F : FS} {M : Chunk} {cs : List Chunk} {K : Int} {n : Nat} (hR : FarmR p F M) (hJ : FJ F K n) (hn12 : n ≤ 12) (hS : Sat W w (M :: cs)) :
  Calls Tryz.prog 35 #[Pt p 0] w fun e w' => e = .returned (I (leftF F)) ∧ Sat W w' (M :: cs) := by
 refine callsA 122 Tryz.func35 rfl ?_
 refine sR <| pu1 <| nT <| sR <| pu1 <| nT <| sR <| pu1 ?_
 refine cX Tryz.call87 (f_jobs hR hJ.i  (Sat.flat1 hS)) ?_
 rintro _ _ ⟨t0, g0, u0, a1, rfl, v0, c2⟩
 have d2 := Sat.unflat2 c2; have hn_az_4 := v0.len; have hl_az_4 := v0.le
 refine pu1 <| nilO ?_
 have hj12_ := hJ.r12 hn12; have hFI := hJ.i
 refine thenK_n <| seqE <| sR <| pu1 <| nT <| blockE ?_
 refine loopA (γ := Nat × Int) (fun ⟨i, n1⟩ => [(0, Pt p 0), (4, .slice t0 g0 u0), (5, I ((i : Nat) : Int)), (3, I n1)]) (fun ⟨i, n1⟩ w => Sat W w (a1 :: M :: cs) ∧ i ≤ g0 ∧ (n1 = jobsL F ((runK F.jobs).take i)) ∧ (0 ≤ n1 ∧ n1 ≤ 536576 * i)) (fun ⟨i, n1⟩ => g0 - i) (0, 0) ⟨d2, om, rfl, om⟩ ?_
 rintro ⟨i, n1⟩ ρ _ ⟨f1, hi, hn1, hn1b⟩
 refine seqE <| sR <| pu4 <| nT ?_
 refine cD (((i : Nat) : Int) < ((g0 : Nat) : Int)) (fun e2 => ?_) (fun e2 => ?_)
 ·refine kT <| seqE <| blockE <| sR <| pu3 ?_
  refine sIdxO v0 ((i : Nat) : Int) i Tryz.runUnderlying22 Tryz.sizeOf3 ?_
  intro h0 _ _ p1 f2 _
  refine sLp f1 (f2.up 0 rfl) 0 (I h0) (Tryz.isAgg3 _) ?_
  have g2 := (f1.pick 1 rfl)
  refine cX Tryz.call31 (f_tasks hR hJ.i h0 (Sat.flat1 g2)) ?_
  rintro _ _ ⟨h2, b1, i2, g1, j2, k2, rfl, c1, q1, o0, l2⟩
  have m2 := Sat.unflat3 l2; have hn_az_22 := c1.len; have hl_az_22 := c1.le
  have htl_zs_25 : g1.length = (tasksF F h0).length := by rw [← o0, List.length_map]
  refine pu1 <| nT <| sR <| pu1 <| nT <| blockE ?_
  have htl4_ := tasks_le hFI.fw h0; have htl_ : g1.length = (tasksF F h0).length := by rw [← o0, List.length_map]
  refine loopA (γ := Nat × Int) (fun ⟨j, n2⟩ => [(0, Pt p 0), (4, .slice t0 g0 u0), (5, I ((i : Nat) : Int)), (6, .slice h2 b1 i2), (7, I ((j : Nat) : Int)), (3, I n2)]) (fun ⟨j, n2⟩ w => Sat W w (j2 :: k2 :: M :: a1 :: cs) ∧ j ≤ b1 ∧ (n2 = n1 + waitT F h0 j) ∧ (0 ≤ n2 ∧ n2 ≤ n1 + 131 * j)) (fun ⟨j, n2⟩ => b1 - j) (0, n1) ⟨m2, om, by rw [waitT_zero]; omega, om⟩ ?_
  rintro ⟨j, n2⟩ ρ _ ⟨h1, hj, hn2, hn2b⟩
  refine seqE <| sR <| pu4 <| nT ?_
  refine cD (((j : Nat) : Int) < ((b1 : Nat) : Int)) (fun o2 => ?_) (fun o2 => ?_)
  rotate_left
  ·refine exitE <| xB <| blockK_n <| thenK_n <| regionE <| pu1 ?_
   refine sAdd ((i : Nat) : Int) 1 ?_
   refine pu1 <| nT ?_
   have p2 := ((h1.pick 3 rfl).drops [1, 1])
   exact ⟨(i + 1, n2), od, alA, p2, om, (by rw [jobsL_take p1, ← hn1, ← htl_, show g1.length = j by omega]; exact hn2), om⟩
  refine kT <| seqE <| blockE <| sR <| pu3 ?_
  refine sIdxO v0 ((i : Nat) : Int) i Tryz.runUnderlying22 Tryz.sizeOf3 ?_
  intro q2 _ _ r2 s2 _
  obtain rfl : h0 = q2 := Option.some.inj (p1.symm.trans r2)
  refine sLp h1 (s2.up 3 rfl) 0 (I h0) (Tryz.isAgg3 _) ?_
  refine pu1 ?_
  have t2 := (h1.pick 2 rfl)
  refine cX Tryz.call96 (f_state hR hJ.i h0 ((j : Nat) : Int) (Sat.flat1 t2)) ?_
  rintro _ _ ⟨rfl, u2⟩
  have w0 := Sat.unflat1 u2
  refine pu1 <| nT <| sR <| pu3 ?_
  refine sE 42 (stateF F h0 ((j : Nat) : Int)) 1 (fun v2 => ?_) (fun v2 => ?_)
  ·refine pu3 <| nT <| cTt <| regionE <| pu3 ?_
   refine sIdxO c1 ((j : Nat) : Int) j Tryz.runUnderlying39 Tryz.sizeOf45 ?_
   intro j0 _ _ i1 w2 _
   have htr_x_45 := task_rows hFI o0 i1
   refine sLpA w0 (w2.up 1 rfl) 0 (encTask j0) (Tryz.isAgg45 _) (Tryz.sizeOf45 _) ?_
   refine cR Tryz.call40 (r29_steps j0 ⟨(RdT.flat ((q1 j0 (List.mem_of_getElem? i1)).deps.up 2 (by rfl)))⟩ (Sat.flat w0)) ?_
   intro _ x2
   have w4 : 0 ≤ (stpR j0.rows) ∧ (stpR j0.rows) ≤ 131 := stpR_bd _
   refine sAdd n2 (stpR j0.rows) ?_
   refine pu1 <| nB <| regionE <| pu1 ?_
   refine sAdd ((j : Nat) : Int) 1 ?_
   refine pu1 <| nT ?_
   have y2 := (x2.picks [2, 2])
   exact ⟨(j + 1, (n2 + (stpR j0.rows))), od, alA, y2, om, (by rw [waitT_yes o0 i1 om]; omega), om⟩
  refine pu3 <| nT ?_
  refine cE (stateF F h0 ((j : Nat) : Int)) 2 (fun z2 => ?_) (fun z2 => ?_)
  rotate_left
  ·refine skipE <| blockK_n <| thenK_n <| regionE <| pu1 ?_
   refine sAdd ((j : Nat) : Int) 1 ?_
   refine pu1 <| nT ?_
   have a3 := (w0.picks [2, 2])
   exact ⟨(j + 1, n2), od, alA, a3, om, (by rw [waitT_no om]; omega), om⟩
  refine regionE <| pu3 ?_
  refine sIdxO c1 ((j : Nat) : Int) j Tryz.runUnderlying39 Tryz.sizeOf45 ?_
  intro k0 _ _ j1 b3 _
  have htr_x_57 := task_rows hFI o0 j1
  refine sLpA w0 (b3.up 1 rfl) 0 (encTask k0) (Tryz.isAgg45 _) (Tryz.sizeOf45 _) ?_
  refine cR Tryz.call40 (r29_steps k0 ⟨(RdT.flat ((q1 k0 (List.mem_of_getElem? j1)).deps.up 2 (by rfl)))⟩ (Sat.flat w0)) ?_
  intro _ c3
  have b5 : 0 ≤ (stpR k0.rows) ∧ (stpR k0.rows) ≤ 131 := stpR_bd _
  refine sAdd n2 (stpR k0.rows) ?_
  refine pu1 <| nB <| regionE <| pu1 ?_
  refine sAdd ((j : Nat) : Int) 1 ?_
  refine pu1 <| nT ?_
  have d3 := (c3.picks [2, 2])
  exact ⟨(j + 1, (n2 + (stpR k0.rows))), od, alA, d3, om, (by rw [waitT_yes o0 j1 om]; omega), om⟩
 refine exitE <| xB <| thenK_n <| sR <| pu1 ?_
 have e3 := (f1.pick 1 rfl)
 refine cX Tryz.call84 (f_workers hR hJ.i  (Sat.flat1 e3)) ?_
 rintro _ _ ⟨p0, i0, q0, r1, rfl, r0, f3⟩
 have g3 := Sat.unflat2 f3; have hn_az_74 := r0.len; have hl_az_74 := r0.le
 refine pu1 <| nilO ?_
 have hwn9 := hFI.fw.n
 refine thenK_n <| seqE <| sR <| pu1 <| nT <| blockE ?_
 refine loopA (γ := Nat × Int) (fun ⟨q, n3⟩ => [(0, Pt p 0), (4, .slice t0 g0 u0), (9, .slice p0 i0 q0), (10, I ((q : Nat) : Int)), (3, I n3)]) (fun ⟨q, n3⟩ w => Sat W w (r1 :: M :: a1 :: cs) ∧ q ≤ i0 ∧ (n3 = n1 + wksL F (F.ws.take q)) ∧ (-4096 * q ≤ n3 ∧ n3 ≤ n1 + 131 * q)) (fun ⟨q, n3⟩ => i0 - q) (0, n1) ⟨g3, om, by show n1 = n1 + 0; omega, om⟩ ?_
 rintro ⟨q, n3⟩ ρ _ ⟨s0, hq, hn3, hn3b⟩
 refine seqE <| sR <| pu4 <| nT ?_
 refine cD (((q : Nat) : Int) < ((i0 : Nat) : Int)) (fun h3 => ?_) (fun h3 => ?_)
 rotate_left
 ·refine exitE <| xB <| thenK_n <| sR <| pu2 <| nT <| retE <| retT [I n3] ?_
  have i3 := (s0.drops [0, 1])
  exact ⟨congrArg (fun z => Ending.returned (I z)) (by rw [hn3, hn1, List.take_of_length_le om, List.take_of_length_le om]; rfl), i3⟩
 refine kT <| seqE <| blockE <| seqE <| sR <| pu2 ?_
 refine sIdxO r0 ((q : Nat) : Int) q Tryz.runUnderlying66 Tryz.sizeOf69 ?_
 intro a0 _ _ l0 j3 _
 have hWF := wk_ok hFI l0; have hWr := wk_row hFI l0; have hWj := wk_job hFI l0; have hWh : ¬ (a0.phase = 0 ∨ a0.phase = 4) → (a0.phase = 1 ∨ a0.phase = 2 ∨ a0.phase = 3) ∧ 0 ≤ a0.heldTask ∧ a0.heldTask < (((tasksF F a0.heldJob).length : Nat) : Int) := fun h => ⟨(hWF.h h).1, (hWF.h h).2.1, (hWF.h h).2.2.1⟩
 refine pu1 ?_
 refine sLp s0 (j3.up 0 rfl) 0 (I a0.phase) (Tryz.isAgg3 _) ?_
 refine pu2 ?_
 refine sE 67 a0.phase 0 (fun k3 => ?_) (fun k3 => ?_)
 ·refine pu7 <| nT <| cTt <| exitE <| thenK_x <| blockK_x <| thenK_n <| regionE <| pu1 ?_
  refine sAdd ((q : Nat) : Int) 1 ?_
  refine pu1 <| nT ?_
  exact ⟨(q + 1, n3), od, alA, s0, om, (by rw [wksL_take l0, rst_idle om]; omega), om⟩
 refine pu2 <| gY ?_
 refine sIdxO r0 ((q : Nat) : Int) q Tryz.runUnderlying66 Tryz.sizeOf69 ?_
 intro l3 _ _ m0 m3 _
 obtain rfl : a0 = l3 := Option.some.inj (l0.symm.trans m0)
 have hWF := wk_ok hFI m0; have hWr := wk_row hFI m0; have hWj := wk_job hFI m0; have hWh : ¬ (a0.phase = 0 ∨ a0.phase = 4) → (a0.phase = 1 ∨ a0.phase = 2 ∨ a0.phase = 3) ∧ 0 ≤ a0.heldTask ∧ a0.heldTask < (((tasksF F a0.heldJob).length : Nat) : Int) := fun h => ⟨(hWF.h h).1, (hWF.h h).2.1, (hWF.h h).2.2.1⟩
 refine pu1 <| gY ?_
 refine sLp s0 (m3.up 0 rfl) 0 (I a0.phase) (Tryz.isAgg3 _) ?_
 refine pu2 <| nT ?_
 refine cE a0.phase 4 (fun o3 => ?_) (fun o3 => ?_)
 ·refine exitE <| thenK_x <| blockK_x <| thenK_n <| regionE <| pu1 ?_
  refine sAdd ((q : Nat) : Int) 1 ?_
  refine pu1 <| nT ?_
  exact ⟨(q + 1, n3), od, alA, s0, om, (by rw [wksL_take m0, rst_idle om]; omega), om⟩
 refine kT <| sR <| pu1 <| nT <| seqE <| sR <| pu1 <| nT <| blockE ?_
 refine loopA (γ := Nat × Bool) (fun ⟨k, lv⟩ => [(0, Pt p 0), (4, .slice t0 g0 u0), (9, .slice p0 i0 q0), (10, I ((q : Nat) : Int)), (3, I n3), (12, I ((k : Nat) : Int)), (11, .bool lv)]) (fun ⟨k, lv⟩ w => Sat W w (r1 :: M :: a1 :: cs) ∧ k ≤ g0 ∧ (lv = ((runK F.jobs).take k).any fun y => y == a0.heldJob)) (fun ⟨k, lv⟩ => g0 - k) (0, false) ⟨s0, om, rfl⟩ ?_
 rintro ⟨k, lv⟩ ρ _ ⟨d0, hk, hlv⟩
 refine seqE <| sR <| pu4 <| nT ?_
 refine cD (((k : Nat) : Int) < ((g0 : Nat) : Int)) (fun p3 => ?_) (fun p3 => ?_)
 ·refine kT <| seqE <| blockE ?_
  rcases Classical.em (lv = true) with x0 | x0
  ·refine drawE [] [] [(true, [0, 1]), (true, [2, 3, 4, 6, 7, 8, 9, 10, 5, 11, 12, 13, 14])] rfl kr trivial ?_
   have q3 := d0.drew
   refine wU [0, 1] ?_
   refine wFix 82 _ true x0 ?_
   refine wU [2, 3, 4, 6, 7, 8, 9, 10, 5, 11, 12, 13, 14] ?_
   refine wN ?_
   refine blockK_n <| thenK_n <| regionE <| pu1 ?_
   refine sAdd ((k : Nat) : Int) 1 ?_
   refine pu1 <| nT ?_
   exact ⟨(k + 1, true), od, alA, q3, om, (any_more (hlv.symm.trans x0)).symm⟩
  obtain ⟨k1, s1, t1, u1, v1, w1, l5⟩ := OwnT.elem v0 ((k : Nat) : Int)
  rw [Int.toNat_natCast] at u1 v1 w1
  obtain ⟨r3, x1, y1, y0, z1, a2, m5⟩ := OwnT.elem r0 ((q : Nat) : Int)
  rw [Int.toNat_natCast] at y0 z1 a2
  obtain rfl : a0 = r3 := Option.some.inj (l0.symm.trans y0)
  have hWF := wk_ok hFI y0; have hWr := wk_row hFI y0; have hWj := wk_job hFI y0; have hWh : ¬ (a0.phase = 0 ∨ a0.phase = 4) → (a0.phase = 1 ∨ a0.phase = 2 ∨ a0.phase = 3) ∧ 0 ≤ a0.heldTask ∧ a0.heldTask < (((tasksF F a0.heldJob).length : Nat) : Int) := fun h => ⟨(hWF.h h).1, (hWF.h h).2.1, (hWF.h h).2.2.1⟩
  refine drawE [] [(5, ⟨s1, t1 + k * 1, none⟩, I k1), (11, ⟨x1, y1 + q * 7 + 1 + 0, none⟩, I a0.heldJob)] [(true, [0, 1]), (true, [2, 3]), (true, [4]), (true, [6, 7]), (true, [8]), (true, [9, 10]), (true, [5]), (true, [11]), (true, [12, 13, 14])] rfl kr ⟨.inr ((v1.up 2 rfl).cell d0 (k := 0) rfl), .inr ((z1.up 0 rfl).cell d0 (k := 1) rfl), trivial⟩ ?_
  have s3 := d0.drew
  refine wU [0, 1] ?_
  refine wFix 82 _ false (Bool.eq_false_iff.2 x0) ?_
  refine wU [2, 3] ?_
  refine wY (.pointer (some ⟨s1, t1 + k * 1, none⟩)) rfl (fun w _ => Y_idx (a := t0) (i := ((k : Nat) : Int)) (len := g0) (cap := u0) rfl Tryz.runUnderlying22 Tryz.sizeOf3 kr kr w1) ?_
  refine wU [6, 7] ?_
  refine wY (.pointer (some ⟨x1, y1 + q * 7, none⟩)) rfl (fun w _ => Y_idx (a := p0) (i := ((q : Nat) : Int)) (len := i0) (cap := q0) rfl Tryz.runUnderlying66 Tryz.sizeOf69 kr kr a2) ?_
  refine wU [9, 10] ?_
  refine wLd (I k1) 0 Tryz.isAgg3 ?_
  refine wLd (I a0.heldJob) 1 Tryz.isAgg3 ?_
  refine wU [12, 13, 14] ?_
  refine wN ?_
  refine blockK_n <| thenK_n <| regionE <| pu1 ?_
  refine sAdd ((k : Nat) : Int) 1 ?_
  refine pu1 <| nT ?_
  exact ⟨(k + 1, ((k1 : Int) == a0.heldJob)), od, alA, s3, om, (by rw [take_succ_at u1, List.any_append, ← hlv]; simp [x0])⟩
 refine exitE <| xB <| thenK_n <| seqE ?_
 have hlvr : lv = (jobAt F a0.heldJob).running := by rw [hlv, List.take_of_length_le om]; exact any_run hFI.fw hWj
 refine regionE <| pu1 <| nT ?_
 refine cB lv (fun d1 => ?_) (fun d1 => ?_)
 rotate_left
 ·refine regionE <| pu1 ?_
  refine sAdd n3 1 ?_
  refine pu1 <| nB <| regionE <| pu1 ?_
  refine sAdd ((q : Nat) : Int) 1 ?_
  refine pu1 <| nT ?_
  exact ⟨(q + 1, (n3 + 1)), od, alA, d0, om, (by rw [wksL_take m0, rst_old om (hlvr ▸ d1)]; omega), om⟩
 have hWh2 := hWh om
 obtain ⟨t3, e0, f0, z0, b0, e1, n5⟩ := OwnT.elem r0 ((q : Nat) : Int)
 rw [Int.toNat_natCast] at z0 b0 e1
 obtain rfl : a0 = t3 := Option.some.inj (l0.symm.trans z0)
 have hWF := wk_ok hFI z0; have hWr := wk_row hFI z0; have hWj := wk_job hFI z0; have hWh : ¬ (a0.phase = 0 ∨ a0.phase = 4) → (a0.phase = 1 ∨ a0.phase = 2 ∨ a0.phase = 3) ∧ 0 ≤ a0.heldTask ∧ a0.heldTask < (((tasksF F a0.heldJob).length : Nat) : Int) := fun h => ⟨(hWF.h h).1, (hWF.h h).2.1, (hWF.h h).2.2.1⟩
 refine drawE [12, 20, 21] [(4, ⟨e0, f0 + q * 7 + 0, none⟩, I a0.phase), (4, ⟨e0, f0 + q * 7 + 1, none⟩, I a0.heldJob), (4, ⟨e0, f0 + q * 7 + 2, none⟩, I a0.heldTask), (4, ⟨e0, f0 + q * 7 + 3, none⟩, I a0.attempt), (4, ⟨e0, f0 + q * 7 + 4, none⟩, I a0.row), (4, ⟨e0, f0 + q * 7 + 5, none⟩, I a0.used), (4, ⟨e0, f0 + q * 7 + 6, none⟩, I a0.high), (11, ⟨e0, f0 + q * 7 + 1 + 0, none⟩, I a0.heldJob), (18, ⟨e0, f0 + q * 7 + 1 + 1, none⟩, I a0.heldTask)] [(true, [0, 1, 2]), (true, [3]), (true, [5, 6, 7]), (true, [8]), (true, [9, 10, 13, 14]), (true, [15]), (true, [16, 17]), (true, [4]), (true, [11]), (true, [18]), (false, [12]), (true, [19]), (false, [20]), (false, [21]), (true, [22]), (true, [23])] rfl kr ⟨.inr ((b0.up 0 rfl).cell d0 (k := 0) rfl), .inr ((b0.up 0 rfl).cell d0 (k := 1) rfl), .inr ((b0.up 0 rfl).cell d0 (k := 2) rfl), .inr ((b0.up 0 rfl).cell d0 (k := 3) rfl), .inr ((b0.up 0 rfl).cell d0 (k := 4) rfl), .inr ((b0.up 0 rfl).cell d0 (k := 5) rfl), .inr ((b0.up 0 rfl).cell d0 (k := 6) rfl), .inr ((b0.up 0 rfl).cell d0 (k := 1) rfl), .inr ((b0.up 0 rfl).cell d0 (k := 2) rfl), trivial⟩ ?_
 have u3 := d0.drew
 refine wU [0, 1, 2] ?_
 refine wY (.pointer (some ⟨e0, f0 + q * 7, none⟩)) rfl (fun w _ => Y_idx (a := p0) (i := ((q : Nat) : Int)) (len := i0) (cap := q0) rfl Tryz.runUnderlying66 Tryz.sizeOf69 kr kr e1) ?_
 refine wU [5, 6, 7] ?_
 refine wY (.pointer (some ⟨e0, f0 + q * 7, none⟩)) rfl (fun w _ => Y_idx (a := p0) (i := ((q : Nat) : Int)) (len := i0) (cap := q0) rfl Tryz.runUnderlying66 Tryz.sizeOf69 kr kr e1) ?_
 refine wU [9, 10, 13, 14] ?_
 refine wY (.pointer (some ⟨e0, f0 + q * 7, none⟩)) rfl (fun w _ => Y_idx (a := p0) (i := ((q : Nat) : Int)) (len := i0) (cap := q0) rfl Tryz.runUnderlying66 Tryz.sizeOf69 kr kr e1) ?_
 refine wU [16, 17] ?_
 refine wY (.agg (encWkr a0).toArray) rfl (fun w hF => Y_loadF rfl (Tryz.isAgg69 w) (Tryz.sizeOf69 w) kr rfl ⟨hF 0 _ _ rfl, hF 1 _ _ rfl, hF 2 _ _ rfl, hF 3 _ _ rfl, hF 4 _ _ rfl, hF 5 _ _ rfl, hF 6 _ _ rfl, trivial⟩) ?_
 refine wLd (I a0.heldJob) 7 Tryz.isAgg3 ?_
 refine wLd (I a0.heldTask) 8 Tryz.isAgg3 ?_
 refine wO rfl ?_
 have v3 := (u3.pick 1 rfl)
 refine cX Tryz.call31 (f_tasks hR hJ.i a0.heldJob (Sat.flat1 v3)) ?_
 rintro _ _ ⟨w3, x3, y3, z3, _, _, rfl, l1, a4, m1, b4⟩
 have c0 := Sat.unflat3 b4; have hn_az_129 := l1.len; have hl_az_129 := l1.le
 have htl_zs_132 : z3.length = (tasksF F a0.heldJob).length := by rw [← m1, List.length_map]
 refine nilO ⟨⟨.inr ((b0.up 3 rfl).cell c0 (k := 0) rfl), .inr ((b0.up 3 rfl).cell c0 (k := 1) rfl), .inr ((b0.up 3 rfl).cell c0 (k := 2) rfl), .inr ((b0.up 3 rfl).cell c0 (k := 3) rfl), .inr ((b0.up 3 rfl).cell c0 (k := 4) rfl), .inr ((b0.up 3 rfl).cell c0 (k := 5) rfl), .inr ((b0.up 3 rfl).cell c0 (k := 6) rfl), dI, .inr ((b0.up 3 rfl).cell c0 (k := 2) rfl), trivial⟩, ?_⟩
 obtain ⟨n0, c4, d4, o1, e4, f4, r5⟩ := OwnT.elem l1 a0.heldTask
 have htr_x_138 := task_rows hFI m1 o1
 refine wY (.pointer (some ⟨c4, d4 + (a0.heldTask).toNat * 9, none⟩)) rfl (fun w _ => Y_idx (a := w3) (i := a0.heldTask) (len := x3) (cap := y3) rfl Tryz.runUnderlying39 Tryz.sizeOf45 kr kr f4) ?_
 refine wO rfl ?_
 refine sLpA c0 (e4.up 0 rfl) 0 (encTask n0) (Tryz.isAgg45 _) (Tryz.sizeOf45 _) ?_
 refine nilO ⟨⟨.inr ((b0.up 3 rfl).cell c0 (k := 0) rfl), .inr ((b0.up 3 rfl).cell c0 (k := 1) rfl), .inr ((b0.up 3 rfl).cell c0 (k := 2) rfl), .inr ((b0.up 3 rfl).cell c0 (k := 3) rfl), .inr ((b0.up 3 rfl).cell c0 (k := 4) rfl), .inr ((b0.up 3 rfl).cell c0 (k := 5) rfl), .inr ((b0.up 3 rfl).cell c0 (k := 6) rfl), dI, .inr ((b0.up 3 rfl).cell c0 (k := 2) rfl), trivial⟩, ?_⟩
 refine wO rfl ?_
 refine cR Tryz.call100 (r29_rest a0 n0 ⟨(RdT.flat ((a4 n0 (List.mem_of_getElem? o1)).deps.up 1 (by rfl)))⟩ (od) (od) (od) (Sat.flat c0)) ?_
 intro _ b2
 have t5 : -4096 ≤ (restR a0 n0.rows) ∧ (restR a0 n0.rows) ≤ 131 := restR_bd om om
 refine nilO ⟨⟨dI, dI, dI, dI, dI, dI, dI, dI, .inr ((b0.up 3 rfl).cell b2 (k := 2) rfl), trivial⟩, ?_⟩
 refine wAdd n3 (restR a0 n0.rows) ?_
 refine wU [23] ?_
 refine wN ?_
 refine blockK_n <| thenK_n <| regionE <| pu1 ?_
 refine sAdd ((q : Nat) : Int) 1 ?_
 refine pu1 <| nT ?_
 have g4 := ((b2.pick 3 rfl).drops [1, 1])
 exact ⟨(q + 1, (n3 + (restR a0 n0.rows))), od, alA, g4, om, (by rw [wksL_take m0, rst_run om (hlvr ▸ d1) ((tasksF_run hFI.fw hWj (hlvr ▸ d1)).symm.trans m1.symm) o1]; omega), om⟩
theorem l29_left (W w : World) (H : Chunk) (F : List Chunk) (t : Option Addr) (nt kt : Nat) (xt : List Int) (ht : RdT encI 1 [H] t nt kt xt) (hS : Sat W w (H :: F)) :
  Calls Tryz.prog 4 #[.slice t nt kt] w fun e w' => e = .returned (.bool true) ∧ Sat W w' (H :: F) := by
 have hlt := ht.le
 refine callsA 27 Tryz.func4 rfl ?_
 refine sR <| pu1 <| nT <| sR <| pu1 ?_
 refine cX Tryz.call8 (tape_new t nt kt hS) ?_
 rintro _ _ ⟨_, rfl, c0⟩
 have y0 := ht.le
 refine pu1 <| nT <| sR <| pu1 ?_
 refine cX Tryz.call33 (l29_pair (RdT.flat (ht.up 0 (by rfl))) om (Sat.flat1 c0) 50 om) ?_
 rintro _ _ ⟨_, _, b0, F1_10, M1_11, N1_12, rfl, d0, e0, f0, g0, a0, _, hR3_19, _, _, h0⟩
 have i0 := Sat.unflat3 h0
 refine pu4 ?_
 refine sAlloc i0 Tryz.zeroValue26 ?_
 intro _ _ j0
 refine pu2 ?_
 refine sT j0 0 0 (.agg (encCfg b0).toArray) (encCfg b0) (encCfg b0).toArray Tryz.sizeOf26 ?_
 intro _ k0
 refine nilO ?_
 have hvc0 := validCfg_zero d0; have hpc := e0; have hFI := a0.j.i; have hpw := a0.ws; have hpn := trivial
 refine thenK_n <| sR <| pu4 <| gY ?_
 have l0 := (k0.pick 2 rfl)
 refine cX Tryz.call34 (bo_left f0 a0.j om l0) ?_
 rintro _ _ ⟨rfl, m0⟩
 refine pu1 <| gY ?_
 have n0 := (m0.pick 3 rfl)
 refine cX Tryz.call35 (r29_left g0 a0.j om n0) ?_
 rintro _ _ ⟨rfl, o0⟩
 refine pu3 ?_
 have p0 : ((leftF F1_10) : Int) = (leftF F1_10) := rfl
 refine sFix 24 _ true (beq_iff_eq.2 p0) ?_
 refine gY ?_
 refine cX Tryz.call36 (l29_sane o0) ?_
 rintro _ _ ⟨rfl, q0⟩
 refine pu2 <| nT <| retE <| retT [.bool true] ?_
 have r0 := (q0.pick 4 rfl)
 have s0 := r0.dropAt 1 rfl
 have t0 := s0.dropAt 1 rfl
 have u0 := t0.dropAt 1 rfl
 have v0 := u0.dropAt 1 rfl
 exact ⟨rfl, v0⟩
end Go.Proofs.YtegmennaekipaaaGreat
