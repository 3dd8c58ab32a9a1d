import Derived.Test.YtegmennaekipaaaGreatP2Pf3
namespace Go.Proofs.YtegmennaekipaaaGreat
open Go Go.E
set_option linter.unusedVariables false
set_option linter.unusedSimpArgs false
set_option linter.unnecessarySimpa false
set_option maxRecDepth 100000
set_option maxHeartbeats 2000000
variable {W w : World} {H : Chunk} {F : List Chunk}

-- squeezed
theorem set_reset {l : List AS} {k : Nat} {a : AS} (h : l[k]? = some a) (hz : a.used = 0 ∧ a.marks = []) : l.set k (resetA a) = l := by
  have e : resetA a = a := by
    cases a with
    | mk c u h m => obtain ⟨h1, h2⟩ := hz; dsimp only at h1 h2; subst h1; subst h2; rfl
  rw [e]; exact set_same h
theorem pf_step_h {p : Nat} {F : FS} {M : Chunk} {F0 : List Chunk} (hR : FarmP p F M) {K : Int} (hF : FI F K) {v0 : Wkr} (x : Int) (c : Int) (hx : 0 ≤ x ∧ x < F.ws.length) (hv0 : F.ws[x.toNat]? = some v0) (hh : Holds v0) (h12 : F12 F) (hK : K + 1 ≤ 4096) (hS : Sat W w (M :: H :: F0)) :
  Calls Tryz.prog 25 #[Pt p 0, I x, I c] w fun e w' => ∃ (az : Option Addr) (nz kz : Nat) (G M' : Chunk), e = .returned (.tuple #[.slice az nz kz, I (stepF F x c).2.2]) ∧ OwnT encEvt 62 7 az nz kz (stepF F x c).2.1 G ∧ FarmP p (stepF F x c).1 M' ∧ Sat W w' (G :: M' :: H :: F0) := by
 obtain ⟨wb, wo, wn, wk, q, m, xs, jm, Wc, Qc, Jc, acs, dcs, jcs, rfl, hOw, hco, hAs, hDs, hQ, hM, hJs⟩ := hR
 have y0 : Sat W _ ((Tri p 85 (preP F.cfg wb wo wn wk q m) (([] : List Ref).flatMap encRef) (encStt F.st)) :: Wc :: acs.flatten :: dcs.flatten :: Qc :: Jc :: jcs.flatten :: H :: F0) := Sat.perm hS (by simp)
 have hwl := hOw.len; have hwk := hOw.le; have hcl := core_len hco; have has1 := hAs.1; have hds1 := hDs.1; rw [List.length_map] at has1 hds1; have hjl1 := hJs.l
 have hs1 := hF.st.a; have hs2 := hF.st.b; have hs3 := hF.st.c; have hs4 := hF.st.d; have hs5 := hF.st.e; have hs6 := hF.st.f; have hs7 := hF.st.g; have hKK := hF.fw.k; have hn9 := hF.fw.n; have hal9 := hF.fw.al; have hdl9 := hF.fw.dl
 have hph0 : v0.phase = 1 ∨ v0.phase = 2 ∨ v0.phase = 3 := hh
 refine callsA 101 Tryz.func25 rfl ?_
 refine sR <| pu2 <| nT <| seqE <| sR <| pu2 ?_
 have z0 := (y0.merge7)
 have a1 : FarmP p F ((Tri p 85 (preP F.cfg wb wo wn wk q m) (([] : List Ref).flatMap encRef) (encStt F.st)) ++ (Wc ++ (acs.flatten ++ (dcs.flatten ++ (Qc ++ (Jc ++ jcs.flatten)))))) := ⟨_, _, _, _, _, _, _, _, _, _, _, _, _, _, rfl, hOw, hco, hAs, hDs, hQ, hM, hJs⟩
 refine cX Tryz.call61 (pf_worker a1 x (Sat.flat1 z0)) ?_
 rintro _ _ ⟨rfl, b1⟩
 have c1 := Sat.unflat1 b1
 have g0 := c1.split7
 refine pu1 <| nT ?_
 have d1 : 0 ≤ x ∧ x < ((F.ws.length : Nat) : Int) := ⟨om, om⟩
 refine cF _ (congrArg Bool.not (decide_eq_true d1)) ?_
 refine kT <| sR <| pu3 ?_
 refine sLp g0 (ptr_up 0 rfl tri_pre) 8 (.slice (some ⟨wb, wo, none⟩) wn wk) (Tryz.isAgg81 _) ?_
 refine pu1 ?_
 refine sIdxO hOw x (x).toNat Tryz.runUnderlying81 Tryz.sizeOf93 ?_
 intro b0 _ _ e1 h0 f1
 obtain ⟨rfl, rfl⟩ := some_addr f1
 obtain ⟨g1, h1, i1, k0, j1, k1, l1⟩ := core_at hco e1
 have hvv_v_15 : g1 = v0 := Option.some.inj (h1.symm.trans hv0); rw [hvv_v_15] at i1 k0 j1 k1 l1
 refine pu1 <| nT <| seqE <| sR <| pu3 ?_
 refine sLp g0 (h0.up 1 rfl) 0 (I b0.phase) (Tryz.isAgg3 _) ?_
 refine pu1 <| nT ?_
 refine cE b0.phase 4 (fun m1 => ?_) (fun m1 => ?_)
 ·refine sR <| pu2 <| nT <| retE <| thenK_r <| retT [.slice none 0 0, I 20] ?_
  omega
 refine kT <| seqE <| sR <| pu1 ?_
 have n1 := (g0.pick 1 rfl)
 refine cX Tryz.call76 (p_holds (x := b0) h0 n1) ?_
 rintro _ _ ⟨rfl, o1⟩
 refine nT ?_
 have p1 : b0.phase ≠ 0 ∧ b0.phase ≠ 4 := om
 refine cT _ (decide_eq_true p1) ?_
 refine seqE <| seqE ?_
 obtain ⟨j, hj, ha, hz⟩ := hF.h.h _ _ hv0 hh; have hjo := hF.fw.j j (List.mem_of_getElem? hj); obtain ⟨hBW, hdl, hb1, hb2⟩ := hjo.b ha; have hjn := hjo.n; have hwo := hF.fw.w v0 (List.mem_of_getElem? hv0); have hk0 := hwo.h; have hr0 := hwo.r; have hlt := held_lt hBW hz; have hph : v0.phase = 1 ∨ v0.phase = 2 ∨ v0.phase = 3 := hh
 obtain ⟨i0, d0, t2, u2, c0, q1, r1⟩ := JobsP.get hJs (k := v0.heldJob) ⟨om, om⟩ hj ha
 obtain ⟨l0, m0, n0, v2, o0, p0, q0, rfl, r0, w2, s1, x2, _, y2⟩ := q1.open
 have t1 := (o1.pick 6 rfl)
 have u1 := Sat.openN (A := []) i0 c0 t1
 have e0 := u1.split3
 have hn_taj_21 := r0.len; have hl_taj_21 := r0.le; have hm_taj_21 := congrArg List.length s1; rw [List.length_map] at hm_taj_21
 refine drawE [9] [(3, ⟨p, 10, none⟩, .map (some m)), (8, ⟨wb, wo + (x).toNat * 7 + 1 + 0, none⟩, I b0.heldJob), (12, ⟨d0, 3, none⟩, .bool (canc j))] [(true, [0, 1, 2, 4, 5, 6, 7]), (true, [3]), (true, [8]), (false, [9]), (true, [10, 11]), (true, [12])] rfl kr ⟨.inr (cell_up e0 5 rfl (k := 10) tri_pre rfl), .inr ((h0.up 4 rfl).cell e0 (k := 1) rfl), .inr (e0.cell 0 rfl rfl), trivial⟩ ?_
 have f0 := e0.drew
 refine wU [0, 1, 2, 4, 5, 6, 7] ?_
 refine wLd (.map (some m)) 0 Tryz.isAgg80 ?_
 refine wLd (I b0.heldJob) 1 Tryz.isAgg3 ?_
 refine wO rfl ?_
 refine stepY (Pt d0 0) rfl rfl (Y_iget (k := b0.heldJob) f0 9 hM (by rw [k0, r1]; rfl) Tryz.runUnderlying80 Tryz.runUnderlying3 Tryz.zeroValue111) ?_
 refine nilO ⟨⟨dI, dI, .inr (f0.cell 0 rfl rfl), trivial⟩, ?_⟩
 refine wU [10, 11] ?_
 refine wLd (.bool (canc j)) 2 Tryz.isAgg4 ?_
 refine wN ?_
 refine thenK_n ?_
 refine cB (canc j) (fun j0 => ?_) (fun j0 => ?_)
 ·refine sR <| pu2 ?_
  have v1 := (f0.picks [3, 3, 3, 3])
  have w1 := v1.merge3
  have s0 := Sat.shutN (d := ([(d0, .cells #[.slice l0 m0 n0, I j.band, Pt o0 0, .bool (canc j)] 118 (0, 0))] ++ (p0 ++ q0))) (A := []) i0 c0 w1
  rw [set_same c0] at s0
  have x1 := (s0.picks [6, 6, 6, 6, 5, 6])
  have y1 := (x1.merge7)
  have z1 : FarmP p F ((Tri p 85 (preP F.cfg wb wo wn wk q m) (([] : List Ref).flatMap encRef) (encStt F.st)) ++ (Wc ++ (acs.flatten ++ (dcs.flatten ++ (Qc ++ (Jc ++ jcs.flatten)))))) := ⟨_, _, _, _, _, _, _, _, _, _, _, _, _, _, rfl, hOw, hco, hAs, hDs, hQ, hM, hJs⟩
  refine cX Tryz.call77 (pf_drop z1 x hx hv0 om (Sat.flat1 y1)) ?_
  rintro _ _ ⟨_, rfl, a2, b2⟩
  have c2 := Sat.unflat1 b2
  refine sBS c2 #[I 9, I x, I 0, I 0, I v0.heldJob, I v0.heldTask, I 0] Tryz.runUnderlying38 Tryz.sizeOf62 Tryz.zeroValue62 ?_
  intro t0 _ d2
  refine pu2 <| nT <| retE <| thenK_r <| thenK_r <| retT [.slice (At t0 0) 1 1, I 0] ?_
  have e2 := OwnT.blk (enc := encEvt) (sz := 7) (b := t0) (c := #[I 9, I x, I 0, I 0, I v0.heldJob, I v0.heldTask, I 0]) (E := 62) (xs := [(⟨9, x, 0, 0, v0.heldJob, v0.heldTask, 0⟩ : Evt)]) fR 1 rfl rfl rfl om
  have he : stepF F x c = ((dropF F x), [(⟨9, x, 0, 0, v0.heldJob, v0.heldTask, 0⟩ : Evt)], 0) := step_drop ⟨om, om⟩ hv0 hh hj (by rw [canc_t j0]; decide)
  rw [he]; exact ⟨_, _, _, _, _, rfl, e2, a2, d2⟩
 refine kT <| sR <| pu2 ?_
 have f2 := (f0.picks [3, 3, 3, 3])
 have g2 := f2.merge3
 have u0 := Sat.shutN (d := ([(d0, .cells #[.slice l0 m0 n0, I j.band, Pt o0 0, .bool (canc j)] 118 (0, 0))] ++ (p0 ++ q0))) (A := []) i0 c0 g2
 rw [set_same c0] at u0
 have h2 := (u0.picks [6, 6, 6, 6, 5, 6])
 have i2 := (h2.merge7)
 have j2 : FarmP p F ((Tri p 85 (preP F.cfg wb wo wn wk q m) (([] : List Ref).flatMap encRef) (encStt F.st)) ++ (Wc ++ (acs.flatten ++ (dcs.flatten ++ (Qc ++ (Jc ++ jcs.flatten)))))) := ⟨_, _, _, _, _, _, _, _, _, _, _, _, _, _, rfl, hOw, hco, hAs, hDs, hQ, hM, hJs⟩
 have hrun : j.running = true := canc_f j0 om; have hrun0 : (jobAt F v0.heldJob).running = true := by unfold jobAt; rw [getD_some hj]; exact hrun
 refine cX Tryz.call78 (pf_micro j2 hF x hx hv0 hh hrun0 h12 (Sat.flat1 i2)) ?_
 rintro _ _ ⟨_, rfl, k2, l2⟩
 have m2 := Sat.unflat1 l2
 obtain ⟨a0, w0⟩ : ∃ z, z = (microF F x).2 := ⟨_, rfl⟩; rw [← w0]
 refine sBS m2 (encEvt a0).toArray Tryz.runUnderlying38 Tryz.sizeOf62 Tryz.zeroValue62 ?_
 intro x0 _ n2
 refine pu2 <| nT <| retE <| thenK_r <| retT [.slice (At x0 0) 1 1, I 0] ?_
 have o2 := OwnT.blk (enc := encEvt) (sz := 7) (b := x0) (c := #[I a0.kind, I a0.worker, I a0.from_, I a0.job, I a0.refJob, I a0.refTask, I a0.err]) (E := 62) (xs := [a0]) fR 1 rfl rfl rfl om
 have he : stepF F x c = ((microF F x).1, [a0], 0) := by rw [w0]; exact step_micro ⟨om, om⟩ hv0 hh hj hrun
 rw [he]; exact ⟨_, _, _, _, _, rfl, o2, k2, n2⟩
theorem pf_step_n {p : Nat} {F : FS} {M : Chunk} {F0 : List Chunk} (hR : FarmP p F M) {K : Int} (hF : FI F K) {v0 : Wkr} (x : Int) (c : Int) (hx : 0 ≤ x ∧ x < F.ws.length) (hv0 : F.ws[x.toNat]? = some v0) (hh : ¬ Holds v0) (h12 : F12 F) (hK : K + 1 ≤ 4096) (hS : Sat W w (M :: H :: F0)) :
  Calls Tryz.prog 25 #[Pt p 0, I x, I c] w fun e w' => ∃ (az : Option Addr) (nz kz : Nat) (G M' : Chunk), e = .returned (.tuple #[.slice az nz kz, I (stepF F x c).2.2]) ∧ OwnT encEvt 62 7 az nz kz (stepF F x c).2.1 G ∧ FarmP p (stepF F x c).1 M' ∧ Sat W w' (G :: M' :: H :: F0) := by
 obtain ⟨wb, wo, wn, wk, q, m, xs, jm, Wc, Qc, Jc, acs, dcs, jcs, rfl, hOw, hco, hAs, hDs, hQ, hM, hJs⟩ := hR
 have a1 : Sat W _ ((Tri p 85 (preP F.cfg wb wo wn wk q m) (([] : List Ref).flatMap encRef) (encStt F.st)) :: Wc :: acs.flatten :: dcs.flatten :: Qc :: Jc :: jcs.flatten :: H :: F0) := Sat.perm hS (by simp)
 have hwl := hOw.len; have hwk := hOw.le; have hcl := core_len hco; have has1 := hAs.1; have hds1 := hDs.1; rw [List.length_map] at has1 hds1; have hjl1 := hJs.l
 have hs1 := hF.st.a; have hs2 := hF.st.b; have hs3 := hF.st.c; have hs4 := hF.st.d; have hs5 := hF.st.e; have hs6 := hF.st.f; have hs7 := hF.st.g; have hKK := hF.fw.k; have hn9 := hF.fw.n; have hal9 := hF.fw.al; have hdl9 := hF.fw.dl
 have hid := hF.idle hv0 hh
 refine callsA 101 Tryz.func25 rfl ?_
 refine sR <| pu2 <| nT <| seqE <| sR <| pu2 ?_
 have b1 := (a1.merge7)
 have c1 : FarmP p F ((Tri p 85 (preP F.cfg wb wo wn wk q m) (([] : List Ref).flatMap encRef) (encStt F.st)) ++ (Wc ++ (acs.flatten ++ (dcs.flatten ++ (Qc ++ (Jc ++ jcs.flatten)))))) := ⟨_, _, _, _, _, _, _, _, _, _, _, _, _, _, rfl, hOw, hco, hAs, hDs, hQ, hM, hJs⟩
 refine cX Tryz.call61 (pf_worker c1 x (Sat.flat1 b1)) ?_
 rintro _ _ ⟨rfl, d1⟩
 have e1 := Sat.unflat1 d1
 have h0 := e1.split7
 refine pu1 <| nT ?_
 have f1 : 0 ≤ x ∧ x < ((F.ws.length : Nat) : Int) := ⟨om, om⟩
 refine cF _ (congrArg Bool.not (decide_eq_true f1)) ?_
 refine kT <| sR <| pu3 ?_
 refine sLp h0 (ptr_up 0 rfl tri_pre) 8 (.slice (some ⟨wb, wo, none⟩) wn wk) (Tryz.isAgg81 _) ?_
 refine pu1 ?_
 refine sIdxO hOw x (x).toNat Tryz.runUnderlying81 Tryz.sizeOf93 ?_
 intro g0 _ _ g1 r0 h1
 obtain ⟨rfl, rfl⟩ := some_addr h1
 obtain ⟨i1, j1, k1, l1, m1, n1, o1⟩ := core_at hco g1
 have hvv_v_15 : i1 = v0 := Option.some.inj (j1.symm.trans hv0); rw [hvv_v_15] at k1 l1 m1 n1 o1
 refine pu1 <| nT <| seqE <| sR <| pu3 ?_
 refine sLp h0 (r0.up 1 rfl) 0 (I g0.phase) (Tryz.isAgg3 _) ?_
 refine pu1 <| nT ?_
 refine cE g0.phase 4 (fun p1 => ?_) (fun p1 => ?_)
 ·refine sR <| pu2 <| nT <| retE <| thenK_r <| retT [.slice none 0 0, I 20] ?_
  have q1 := Sat.nilc h0
  have r1 := (q1.picks [7, 7, 7, 7, 7, 7, 7])
  have s1 := ((r1.merge7).pick 1 rfl)
  have he : stepF F x c = (F, [], 20) := step_down ⟨om, om⟩ hv0 om
  rw [he]; exact ⟨_, _, _, _, _, rfl, (OwnT.nil (enc := encEvt) (E := 62) (sz := 7) fR), ⟨_, _, _, _, _, _, _, _, _, _, _, _, _, _, rfl, hOw, hco, hAs, hDs, hQ, hM, hJs⟩, s1⟩
 refine kT <| seqE <| sR <| pu1 ?_
 have t1 := (h0.pick 1 rfl)
 refine cX Tryz.call76 (p_holds (x := g0) r0 t1) ?_
 rintro _ _ ⟨rfl, u1⟩
 refine nT ?_
 have v1 : ¬ (g0.phase ≠ 0 ∧ g0.phase ≠ 4) := om
 refine cF _ (decide_eq_false v1) ?_
 refine kT <| seqE <| sR <| pu4 ?_
 have w1 := (u1.pick 1 rfl)
 have x1 := (w1.merge7)
 have y1 : FarmP p F ((Tri p 85 (preP F.cfg wb wo wn wk q m) (([] : List Ref).flatMap encRef) (encStt F.st)) ++ (Wc ++ (acs.flatten ++ (dcs.flatten ++ (Qc ++ (Jc ++ jcs.flatten)))))) := ⟨_, _, _, _, _, _, _, _, _, _, _, _, _, _, rfl, hOw, hco, hAs, hDs, hQ, hM, hJs⟩
 refine cX Tryz.call80 (pf_seq y1 c (by first | omega | (simp only [List.length_set]; omega)) (Sat.flat1 x1)) ?_
 rintro _ _ ⟨z1, a2, b2, c2, rfl, m0, d2⟩
 have e2 := Sat.unflat2 d2; have hn_az_30 := m0.len; have hl_az_30 := m0.le; rw [seq_len] at hn_az_30
 have f2 := (e2.pick 1 rfl)
 have g2 := f2.split7
 have h2 := (g2.merge7)
 have i0 : FarmP p F ((Tri p 85 (preP F.cfg wb wo wn wk q m) (([] : List Ref).flatMap encRef) (encStt F.st)) ++ (Wc ++ (acs.flatten ++ (dcs.flatten ++ (Qc ++ (Jc ++ jcs.flatten)))))) := ⟨_, _, _, _, _, _, _, _, _, _, _, _, _, _, rfl, hOw, hco, hAs, hDs, hQ, hM, hJs⟩
 refine cX Tryz.call79 (pf_take i0 hF x z1 a2 b2 (seqL F.ws.length c) (RdT.flat (m0.rdAt 0 (by rfl))) hx hv0 hh rfl (Sat.flat1 h2)) ?_
 rintro _ _ (⟨j0, rfl, n0⟩ | ⟨i2, c0, _, j0, rfl, j2, n0⟩)
 rotate_left
 ·have o0 := Sat.unflat1 n0
  refine pu3 ?_
  refine sAlloc o0 Tryz.zeroValue62 ?_
  intro _ _ k2
  refine sT k2 0 0 (.agg (encEvt c0).toArray) (encEvt c0) (encEvt c0).toArray Tryz.sizeOf62 ?_
  intro _ s0
  refine pu1 <| nT <| sR <| pu1 <| nT <| cTt <| sR ?_
  refine lA s0 0 0 7 (Tryz.isAgg62 _) (Tryz.sizeOf62 _) ?_
  refine sBS s0 (encEvt c0).toArray Tryz.runUnderlying38 Tryz.sizeOf62 Tryz.zeroValue62 ?_
  intro t0 _ l2
  refine pu2 <| nT <| retE <| thenK_r <| retT [.slice (At t0 0) 1 1, I 0] ?_
  have m2 := OwnT.blk (enc := encEvt) (sz := 7) (b := t0) (c := #[I c0.kind, I c0.worker, I c0.from_, I c0.job, I c0.refJob, I c0.refTask, I c0.err]) (E := 62) (xs := [c0]) fR 1 rfl rfl rfl om
  have n2 := (l2.drops [1, 2])
  have he : stepF F x c = (i2, [c0], 0) := (step_rest ⟨om, om⟩ hv0 om hh).trans (rest_acq j0)
  rw [he]; exact ⟨_, _, _, _, _, rfl, m2, j2, n2⟩
 have o0 := Sat.unflat1 n0
 refine pu3 ?_
 refine sAlloc o0 Tryz.zeroValue62 ?_
 intro o2 _ p2
 refine sT p2 0 0 (.agg #[I 0, I 0, I 0, I 0, I 0, I 0, I 0]) [I 0, I 0, I 0, I 0, I 0, I 0, I 0] #[I 0, I 0, I 0, I 0, I 0, I 0, I 0] Tryz.sizeOf62 ?_
 intro _ q2
 refine pu1 <| nT <| sR <| pu1 <| nT <| cFf <| kT <| seqE <| sR <| pu2 ?_
 have r2 := (q2.pick 1 rfl)
 refine cX Tryz.call80 (pf_seq i0 c (by first | omega | (simp only [List.length_set]; omega)) (Sat.flat1 r2)) ?_
 rintro _ _ ⟨s2, p0, t2, u2, rfl, q0, v2⟩
 have w2 := Sat.unflat2 v2; have hn_az_56 := q0.len; have hl_az_56 := q0.le; rw [seq_len] at hn_az_56
 refine pu2 <| nT <| blockE ?_
 refine loopA (γ := Nat) (fun i => [(0, Pt p 0), (1, I x), (66, .slice s2 p0 t2), (67, I ((p0 : Nat) : Int)), (68, I ((i : Nat) : Int))]) (fun i w => Sat W w (u2 :: ((Tri p 85 (preP F.cfg wb wo wn wk q m) (([] : List Ref).flatMap encRef) (encStt F.st)) ++ (Wc ++ (acs.flatten ++ (dcs.flatten ++ (Qc ++ (Jc ++ jcs.flatten)))))) :: [(o2, .cells #[I 0, I 0, I 0, I 0, I 0, I 0, I 0] 62 (0, 0))] :: c2 :: H :: F0) ∧ i ≤ F.ws.length ∧ (firstI (canHelp F x c) F.ws.length 0 = firstI (canHelp F x c) (F.ws.length - i) i)) (fun i => F.ws.length - i) 0 ⟨w2, om, rfl⟩ ?_
 rintro i ρ _ ⟨k0, hi, hfi⟩
 refine sR <| pu1 <| nT <| seqE ?_
 refine cD (((i : Nat) : Int) < ((p0 : Nat) : Int)) (fun x2 => ?_) (fun x2 => ?_)
 rotate_left
 ·refine exitE <| xB <| thenK_n <| sR <| pu2 ?_
  refine sBS k0 #[I 13, I x, I 0, I 0, I 0, I 0, I 0] Tryz.runUnderlying38 Tryz.sizeOf62 Tryz.zeroValue62 ?_
  intro u0 _ y2
  refine pu2 <| nT <| retE <| retT [.slice (At u0 0) 1 1, I 0] ?_
  have z2 := OwnT.blk (enc := encEvt) (sz := 7) (b := u0) (c := #[I 13, I x, I 0, I 0, I 0, I 0, I 0]) (E := 62) (xs := [(⟨13, x, 0, 0, 0, 0, 0⟩ : Evt)]) fR 1 rfl rfl rfl om
  have a3 := (y2.drops [1, 2, 2])
  have he : stepF F x c = (F, [(⟨13, x, 0, 0, 0, 0, 0⟩ : Evt)], 0) := (step_rest ⟨om, om⟩ hv0 om hh).trans (help_end j0 om hfi)
  rw [he]; exact ⟨_, _, _, _, _, rfl, z2, i0, a3⟩
 refine kT <| seqE <| blockE <| sR ?_
 refine sIdxO q0 ((i : Nat) : Int) i Tryz.runUnderlying22 Tryz.sizeOf3 ?_
 intro a0 _ _ b3 c3 _
 have hcx : a0 = chF F c i := seq_at (n := F.ws.length) b3; have hcb := chF_bd (F := F) (c := c) (i := i) hF.fw.n.1
 refine sLp k0 (c3.up 0 rfl) 0 (I a0) (Tryz.isAgg3 _) ?_
 refine pu1 <| nT <| sR <| pu4 ?_
 refine sN 75 a0 x (fun d3 => ?_) (fun d3 => ?_)
 ·refine pu4 <| nT <| cFf <| skipE <| blockK_n <| thenK_n <| regionE ?_
  refine sAdd ((i : Nat) : Int) 1 ?_
  refine pu1 <| nT ?_
  exact ⟨i + 1, od, alA, k0, om, (help_skip om hfi (by unfold canHelp; rw [← hcx, decide_eq_false om]; rfl))⟩
 refine pu2 <| gY ?_
 have e3 := (k0.pick 1 rfl)
 refine cX Tryz.call62 (pf_busy i0 hF a0 om (Sat.flat1 e3)) ?_
 rintro _ _ ⟨rfl, f3⟩
 have w0 := Sat.unflat1 f3
 refine pu1 <| nT ?_
 refine cB (busyW F (wAt F a0)) (fun l0 => ?_) (fun l0 => ?_)
 rotate_left
 ·refine skipE <| blockK_n <| thenK_n <| regionE ?_
  refine sAdd ((i : Nat) : Int) 1 ?_
  refine pu1 <| nT ?_
  have g3 := (w0.pick 1 rfl)
  exact ⟨i + 1, od, alA, g3, om, (help_skip om hfi (by unfold canHelp; rw [← hcx, Bool.eq_false_iff.2 l0, Bool.and_false]))⟩
 refine seqE ?_
 have x0 := w0.split7
 refine regionE <| pu4 ?_
 refine sLp x0 (ptr_up 0 rfl (tri_post (k := 11) (tri_len (sz := 2) (m := 11) fR (rfl : ([] : List Ref).length = 0)))) 5 (I F.st.helps) (Tryz.isAgg3 _) ?_
 refine sAdd F.st.helps 1 ?_
 refine pu3 ?_
 refine sTpost x0 0 11 5 rfl (I (F.st.helps + 1)) [I (F.st.helps + 1)] [I F.st.starts, I F.st.commits, I F.st.drops, I F.st.crashes, I F.st.steals, I (F.st.helps + 1), I F.st.spills, I F.st.queued, I F.st.held, I F.st.cells] (tri_len (sz := 2) (m := 11) fR (rfl : ([] : List Ref).length = 0)) Tryz.sizeOf3 ?_
 intro _ h3
 refine nT <| sR <| pu3 ?_
 refine sAlloc h3 Tryz.zeroValue62 ?_
 intro f0 _ i3
 refine sT i3 0 0 (.agg #[I 12, I x, I a0, I 0, I 0, I 0, I 0]) [I 12, I x, I a0, I 0, I 0, I 0, I 0] #[I 12, I x, I a0, I 0, I 0, I 0, I 0] Tryz.sizeOf62 ?_
 intro _ d0
 refine nT <| seqE ?_
 refine drawE [3, 4] [(0, ⟨f0, 0, none⟩, I 12), (0, ⟨f0, 1, none⟩, I x), (0, ⟨f0, 2, none⟩, I a0), (0, ⟨f0, 3, none⟩, I 0), (0, ⟨f0, 4, none⟩, I 0), (0, ⟨f0, 5, none⟩, I 0), (0, ⟨f0, 6, none⟩, I 0)] [(true, [1, 2]), (true, [0]), (false, [3]), (false, [4]), (true, [5, 6])] rfl kr ⟨.inr (d0.cell 0 rfl rfl), .inr (d0.cell 0 rfl rfl), .inr (d0.cell 0 rfl rfl), .inr (d0.cell 0 rfl rfl), .inr (d0.cell 0 rfl rfl), .inr (d0.cell 0 rfl rfl), .inr (d0.cell 0 rfl rfl), trivial⟩ ?_
 have j3 := d0.drew
 refine wU [1, 2] ?_
 refine wY (.agg #[I 12, I x, I a0, I 0, I 0, I 0, I 0]) rfl (fun w hF => Y_loadF rfl (Tryz.isAgg62 w) (Tryz.sizeOf62 w) kr rfl ⟨hF 0 _ _ rfl, hF 1 _ _ rfl, hF 2 _ _ rfl, hF 3 _ _ rfl, hF 4 _ _ rfl, hF 5 _ _ rfl, hF 6 _ _ rfl, trivial⟩) ?_
 refine wO rfl ?_
 have k3 := (j3.picks [7, 7, 7, 7, 7, 7, 7])
 have l3 := (k3.merge7)
 have m3 : FarmP p (⟨F.cfg, F.ws, F.ar, F.dq, F.q, F.jobs, (⟨F.st.starts, F.st.commits, F.st.drops, F.st.crashes, F.st.steals, (F.st.helps + 1), F.st.spills, F.st.queued, F.st.held, F.st.cells⟩ : Stt)⟩ : FS) ((Tri p 85 (preP F.cfg wb wo wn wk q m) (([] : List Ref).flatMap encRef) [I F.st.starts, I F.st.commits, I F.st.drops, I F.st.crashes, I F.st.steals, I (F.st.helps + 1), I F.st.spills, I F.st.queued, I F.st.held, I F.st.cells]) ++ (Wc ++ (acs.flatten ++ (dcs.flatten ++ (Qc ++ (Jc ++ jcs.flatten)))))) := ⟨_, _, _, _, _, _, _, _, _, _, _, _, _, _, rfl, hOw, hco, hAs, hDs, hQ, hM, hJs⟩
 have hbh := busy_holds l0; have hFh := hF.helpK om
 refine cX Tryz.call78 (pf_micro m3 (F := helpF F) hFh a0 ⟨om, by show _ < ((F.ws.length : Nat) : Int); omega⟩ (hF.fw.wmem ⟨om, om⟩) hbh.1 hbh.2 (h12.of rfl) (Sat.flat1 l3)) ?_
 rintro _ _ ⟨_, rfl, n3, o3⟩
 have e0 := Sat.unflat1 o3
 obtain ⟨b0, y0⟩ : ∃ z, z = (microF (helpF F) a0).2 := ⟨_, rfl⟩; rw [← y0]
 refine nilO ⟨⟨.inr (e0.cell 1 rfl rfl), .inr (e0.cell 1 rfl rfl), .inr (e0.cell 1 rfl rfl), .inr (e0.cell 1 rfl rfl), .inr (e0.cell 1 rfl rfl), .inr (e0.cell 1 rfl rfl), .inr (e0.cell 1 rfl rfl), trivial⟩, ?_⟩
 refine wO rfl ?_
 refine sBS e0 #[I 12, I x, I a0, I 0, I 0, I 0, I 0, I b0.kind, I b0.worker, I b0.from_, I b0.job, I b0.refJob, I b0.refTask, I b0.err] Tryz.runUnderlying38 Tryz.sizeOf62 Tryz.zeroValue62 ?_
 intro z0 _ p3
 refine nilO ⟨dA, ?_⟩
 refine wU [5, 6] ?_
 refine wN ?_
 refine thenK_n <| retE <| blockK_r <| thenK_r <| tR <| thenK_r <| retT [.slice (At z0 0) 2 2, I 0] ?_
 have q3 := OwnT.blk (enc := encEvt) (sz := 7) (b := z0) (c := #[I 12, I x, I a0, I 0, I 0, I 0, I 0, I b0.kind, I b0.worker, I b0.from_, I b0.job, I b0.refJob, I b0.refTask, I b0.err]) (E := 62) (xs := [(⟨12, x, a0, 0, 0, 0, 0⟩ : Evt), b0]) fR 2 rfl rfl rfl om
 have r3 := (p3.drops [2, 2, 2, 2])
 have he : stepF F x c = ((microF (helpF F) a0).1, [(⟨12, x, a0, 0, 0, 0, 0⟩ : Evt), b0], 0) := (step_rest ⟨om, om⟩ hv0 om hh).trans ((help_at j0 om hfi (by unfold canHelp; rw [← hcx, l0, decide_eq_true om]; rfl)).trans (by rw [← hcx, y0]))
 rw [he]; exact ⟨_, _, _, _, _, rfl, q3, n3, r3⟩
theorem pf_step_b {p : Nat} {F : FS} {M : Chunk} {F0 : List Chunk} (hR : FarmP p F M) {K : Int} (hF : FI F K) (x : Int) (c : Int) (hx : ¬ (0 ≤ x ∧ x < ((F.ws.length : Nat) : Int))) (hS : Sat W w (M :: H :: F0)) :
  Calls Tryz.prog 25 #[Pt p 0, I x, I c] w fun e w' => ∃ (az : Option Addr) (nz kz : Nat) (G M' : Chunk), e = .returned (.tuple #[.slice az nz kz, I (stepF F x c).2.2]) ∧ OwnT encEvt 62 7 az nz kz (stepF F x c).2.1 G ∧ FarmP p (stepF F x c).1 M' ∧ Sat W w' (G :: M' :: H :: F0) := by
 refine callsA 101 Tryz.func25 rfl ?_
 refine sR <| pu2 <| nT <| seqE <| sR <| pu2 ?_
 refine cX Tryz.call61 (pf_worker hR x (Sat.flat1 hS)) ?_
 rintro _ _ ⟨rfl, a0⟩
 have b0 := Sat.unflat1 a0
 refine pu1 <| nT ?_
 have c0 : ¬ (0 ≤ x ∧ x < ((F.ws.length : Nat) : Int)) := hx
 refine cT _ (congrArg Bool.not (decide_eq_false c0)) ?_
 refine sR <| pu2 <| nT <| retE <| thenK_r <| retT [.slice none 0 0, I 16] ?_
 have d0 := Sat.nilc b0
 have he : stepF F x c = (F, [], 16) := step_unk hx
 rw [he]; exact ⟨_, _, _, _, _, rfl, (OwnT.nil (enc := encEvt) (E := 62) (sz := 7) fR), hR, d0⟩
theorem pf_step {W w : World} {p : Nat} {F : FS} {M H : Chunk} {F0 : List Chunk} (hR : FarmP p F M) {K : Int} (hF : FI F K) (x c : Int) (h12 : F12 F) (hK : K + 1 ≤ 4096) (hS : Sat W w (M :: H :: F0)) :
  Calls Tryz.prog 25 #[Pt p 0, I x, I c] w fun e w' => ∃ (az : Option Addr) (nz kz : Nat) (G M' : Chunk), e = .returned (.tuple #[.slice az nz kz, I (stepF F x c).2.2]) ∧ OwnT encEvt 62 7 az nz kz (stepF F x c).2.1 G ∧ FarmP p (stepF F x c).1 M' ∧ Sat W w' (G :: M' :: H :: F0) := by
 by_cases hx : 0 ≤ x ∧ x < ((F.ws.length : Nat) : Int)
 ·by_cases hh : Holds (wAt F x)
  ·exact pf_step_h hR hF x c hx (hF.fw.wmem hx) hh h12 hK hS
  ·exact pf_step_n hR hF x c hx (hF.fw.wmem hx) hh h12 hK hS
 ·exact pf_step_b hR hF x c hx hS
theorem pf_restart_g {p : Nat} {F : FS} {M : Chunk} {F0 : List Chunk} (hR : FarmP p F M) {K : Int} (hF : FI F K) {v0 : Wkr} (x : Int) (hx : 0 ≤ x ∧ x < F.ws.length) (hv0 : F.ws[x.toNat]? = some v0) (hS : Sat W w (M :: H :: F0)) :
  Calls Tryz.prog 21 #[Pt p 0, I x] w fun e w' => ∃ (az : Option Addr) (nz kz : Nat) (G M' : Chunk), e = .returned (.tuple #[.slice az nz kz, I (restartF F x).2.2]) ∧ OwnT encEvt 62 7 az nz kz (restartF F x).2.1 G ∧ FarmP p (restartF F x).1 M' ∧ Sat W w' (G :: M' :: H :: F0) := by
 obtain ⟨wb, wo, wn, wk, q, m, xs, jm, Wc, Qc, Jc, acs, dcs, jcs, rfl, hOw, hco, hAs, hDs, hQ, hM, hJs⟩ := hR
 have e0 : Sat W _ ((Tri p 85 (preP F.cfg wb wo wn wk q m) (([] : List Ref).flatMap encRef) (encStt F.st)) :: Wc :: acs.flatten :: dcs.flatten :: Qc :: Jc :: jcs.flatten :: H :: F0) := Sat.perm hS (by simp)
 have hwl := hOw.len; have hwk := hOw.le; have hcl := core_len hco; have has1 := hAs.1; have hds1 := hDs.1; rw [List.length_map] at has1 hds1; have hjl1 := hJs.l
 have hs1 := hF.st.a; have hs2 := hF.st.b; have hs3 := hF.st.c; have hs4 := hF.st.d; have hs5 := hF.st.e; have hs6 := hF.st.f; have hs7 := hF.st.g; have hKK := hF.fw.k; have hn9 := hF.fw.n; have hal9 := hF.fw.al; have hdl9 := hF.fw.dl
 have hax := ar_some hF.fw hx
 have har9 : v0.phase = 4 → F.ar.set x.toNat (resetA (F.ar.getD x.toNat default)) = F.ar := fun h => set_reset hax ((hF.a.a _ _ _ hv0 hax).z (.inr (.inr h)))
 refine callsA 27 Tryz.func21 rfl ?_
 refine sR <| pu2 <| nT <| seqE <| sR <| pu2 ?_
 have f0 := (e0.merge7)
 have g0 : FarmP p F ((Tri p 85 (preP F.cfg wb wo wn wk q m) (([] : List Ref).flatMap encRef) (encStt F.st)) ++ (Wc ++ (acs.flatten ++ (dcs.flatten ++ (Qc ++ (Jc ++ jcs.flatten)))))) := ⟨_, _, _, _, _, _, _, _, _, _, _, _, _, _, rfl, hOw, hco, hAs, hDs, hQ, hM, hJs⟩
 refine cX Tryz.call61 (pf_worker g0 x (Sat.flat1 f0)) ?_
 rintro _ _ ⟨rfl, h0⟩
 have i0 := Sat.unflat1 h0
 have b0 := i0.split7
 refine pu1 <| nT ?_
 have j0 : 0 ≤ x ∧ x < ((F.ws.length : Nat) : Int) := ⟨om, om⟩
 refine cF _ (congrArg Bool.not (decide_eq_true j0)) ?_
 refine kT <| sR <| pu3 ?_
 refine sLp b0 (ptr_up 0 rfl tri_pre) 8 (.slice (some ⟨wb, wo, none⟩) wn wk) (Tryz.isAgg81 _) ?_
 refine pu1 ?_
 refine sIdxO hOw x (x).toNat Tryz.runUnderlying81 Tryz.sizeOf93 ?_
 intro a0 _ _ c0 k0 l0
 obtain ⟨rfl, rfl⟩ := some_addr l0
 obtain ⟨m0, n0, o0, p0, q0, r0, s0⟩ := core_at hco c0
 have hvv_v_15 : m0 = v0 := Option.some.inj (n0.symm.trans hv0); rw [hvv_v_15] at o0 p0 q0 r0 s0
 refine pu1 <| nT <| seqE <| sR <| pu3 ?_
 refine sLp b0 (k0.up 1 rfl) 0 (I a0.phase) (Tryz.isAgg3 _) ?_
 refine pu1 <| nT ?_
 refine cN a0.phase 4 (fun t0 => ?_) (fun t0 => ?_)
 rotate_left
 ·refine sR <| pu2 <| nT <| retE <| thenK_r <| retT [.slice none 0 0, I 20] ?_
  have u0 := Sat.nilc b0
  have w0 := (u0.picks [7, 7, 7, 7, 7, 7, 7])
  have x0 := ((w0.merge7).pick 1 rfl)
  have he : restartF F x = (F, [], 20) := by unfold restartF wAt; rw [if_neg (fun k => k ⟨om, om⟩), getD_some hv0, if_neg om]
  rw [he]; exact ⟨_, _, _, _, _, rfl, (OwnT.nil (enc := encEvt) (E := 62) (sz := 7) fR), ⟨_, _, _, _, _, _, _, _, _, _, _, _, _, _, rfl, hOw, hco, hAs, hDs, hQ, hM, hJs⟩, x0⟩
 refine kT <| sR <| pu1 ?_
 have y0 := (b0.picks [2, 2])
 refine cX Tryz.call65 (p_rest hOw hAs c0 0 y0) ?_
 rintro _ _ ⟨_, _, rfl, z0, a1, b1⟩
 refine nT <| sR <| pu2 ?_
 refine sBS b1 #[I 11, I x, I 0, I 0, I 0, I 0, I 0] Tryz.runUnderlying38 Tryz.sizeOf62 Tryz.zeroValue62 ?_
 intro d0 _ c1
 refine pu2 <| nT <| retE <| retT [.slice (At d0 0) 1 1, I 0] ?_
 have d1 := OwnT.blk (enc := encEvt) (sz := 7) (b := d0) (c := #[I 11, I x, I 0, I 0, I 0, I 0, I 0]) (E := 62) (xs := [(⟨11, x, 0, 0, 0, 0, 0⟩ : Evt)]) fR 1 rfl rfl rfl om
 have e1 := (c1.picks [7, 7, 7, 7, 6, 6, 7])
 have f1 := ((e1.merge7).pick 1 rfl)
 have he : restartF F x = ((⟨F.cfg, (F.ws.set x.toNat ⟨0, 0, 0, 0, 0, 0, (F.ar.getD x.toNat default).high⟩), (F.ar.set (x).toNat (resetA (F.ar.getD (x).toNat default))), F.dq, F.q, F.jobs, F.st⟩ : FS), [(⟨11, x, 0, 0, 0, 0, 0⟩ : Evt)], 0) := (by unfold restartF wAt idleF; rw [if_neg (fun k => k ⟨om, om⟩), getD_some hv0, if_pos om, har9 om]; rfl)
 rw [he]; exact ⟨_, _, _, _, _, rfl, d1, ⟨_, _, _, _, _, _, _, _, _, _, _, _, _, _, rfl, z0, (core_set hco rfl), (by rw [map_setA (x' := (⟨0, 0, 0, 0, 0, a0.a, a0.d⟩ : PW)) c0 rfl]; exact a1), (by rw [map_setD (x' := (⟨0, 0, 0, 0, 0, a0.a, a0.d⟩ : PW)) c0 rfl]; exact hDs), hQ, hM, hJs⟩, f1⟩
end Go.Proofs.YtegmennaekipaaaGreat

namespace Go.Proofs.YtegmennaekipaaaGreat
open Go Go.E
set_option linter.unusedVariables false
set_option linter.unusedSimpArgs false
set_option linter.unnecessarySimpa false
set_option maxRecDepth 100000
set_option maxHeartbeats 2000000
variable {W w : World} {H : Chunk} {F : List Chunk}
theorem pf_crash_g {p : Nat} {F : FS} {M : Chunk} {F0 : List Chunk} (hR : FarmP p F M) {K : Int} (hF : FI F K) {v0 : Wkr} (x : Int) (hx : 0 ≤ x ∧ x < F.ws.length) (hv0 : F.ws[x.toNat]? = some v0) (hS : Sat W w (M :: H :: F0)) :
  Calls Tryz.prog 19 #[Pt p 0, I x] w fun e w' => ∃ (az : Option Addr) (nz kz : Nat) (G M' : Chunk), e = .returned (.tuple #[.slice az nz kz, I (crashF F x).2.2]) ∧ OwnT encEvt 62 7 az nz kz (crashF F x).2.1 G ∧ FarmP p (crashF F x).1 M' ∧ Sat W w' (G :: M' :: H :: F0) := by
 obtain ⟨wb, wo, wn, wk, q, m, xs, jm, Wc, Qc, Jc, acs, dcs, jcs, rfl, hOw, hco, hAs, hDs, hQ, hM, hJs⟩ := hR
 have x2 : Sat W _ ((Tri p 85 (preP F.cfg wb wo wn wk q m) (([] : List Ref).flatMap encRef) (encStt F.st)) :: Wc :: acs.flatten :: dcs.flatten :: Qc :: Jc :: jcs.flatten :: H :: F0) := Sat.perm hS (by simp)
 have hwl := hOw.len; have hwk := hOw.le; have hcl := core_len hco; have has1 := hAs.1; have hds1 := hDs.1; rw [List.length_map] at has1 hds1; have hjl1 := hJs.l
 have hs1 := hF.st.a; have hs2 := hF.st.b; have hs3 := hF.st.c; have hs4 := hF.st.d; have hs5 := hF.st.e; have hs6 := hF.st.f; have hs7 := hF.st.g; have hKK := hF.fw.k; have hn9 := hF.fw.n; have hal9 := hF.fw.al; have hdl9 := hF.fw.dl; have hjl9 := hF.fw.jl
 have hax := ar_some hF.fw hx
 refine callsA 103 Tryz.func19 rfl ?_
 refine sR <| pu2 <| nT <| seqE <| sR <| pu2 ?_
 have y2 := (x2.merge7)
 have z2 : FarmP p F ((Tri p 85 (preP F.cfg wb wo wn wk q m) (([] : List Ref).flatMap encRef) (encStt F.st)) ++ (Wc ++ (acs.flatten ++ (dcs.flatten ++ (Qc ++ (Jc ++ jcs.flatten)))))) := ⟨_, _, _, _, _, _, _, _, _, _, _, _, _, _, rfl, hOw, hco, hAs, hDs, hQ, hM, hJs⟩
 refine cX Tryz.call61 (pf_worker z2 x (Sat.flat1 y2)) ?_
 rintro _ _ ⟨rfl, a3⟩
 have b3 := Sat.unflat1 a3
 have l0 := b3.split7
 refine pu1 <| nT ?_
 have c3 : 0 ≤ x ∧ x < ((F.ws.length : Nat) : Int) := ⟨om, om⟩
 refine cF _ (congrArg Bool.not (decide_eq_true c3)) ?_
 refine kT <| sR <| pu3 ?_
 refine sLp l0 (ptr_up 0 rfl tri_pre) 8 (.slice (some ⟨wb, wo, none⟩) wn wk) (Tryz.isAgg81 _) ?_
 refine pu1 ?_
 refine sIdxO hOw x (x).toNat Tryz.runUnderlying81 Tryz.sizeOf93 ?_
 intro a0 _ _ d0 m0 d3
 obtain ⟨rfl, rfl⟩ := some_addr d3
 obtain ⟨e3, f3, g3, s0, t0, n1, h3⟩ := core_at hco d0
 have hvv_v_15 : e3 = v0 := Option.some.inj (f3.symm.trans hv0); rw [hvv_v_15] at g3 s0 t0 n1 h3
 refine pu1 <| nT <| seqE <| sR <| pu3 ?_
 refine sLp l0 (m0.up 1 rfl) 0 (I a0.phase) (Tryz.isAgg3 _) ?_
 refine pu1 <| nT ?_
 refine cE a0.phase 4 (fun i3 => ?_) (fun i3 => ?_)
 ·refine sR <| pu2 <| nT <| retE <| thenK_r <| retT [.slice none 0 0, I 20] ?_
  have j3 := Sat.nilc l0
  have k3 := (j3.picks [7, 7, 7, 7, 7, 7, 7])
  have l3 := ((k3.merge7).pick 1 rfl)
  have he : crashF F x = (F, [], 20) := crash_down ⟨om, om⟩ hv0 om
  rw [he]; exact ⟨_, _, _, _, _, rfl, (OwnT.nil (enc := encEvt) (E := 62) (sz := 7) fR), ⟨_, _, _, _, _, _, _, _, _, _, _, _, _, _, rfl, hOw, hco, hAs, hDs, hQ, hM, hJs⟩, l3⟩
 refine kT <| sR <| pu3 ?_
 refine sLpA l0 (m0.up 1 rfl) 1 [I a0.heldJob, I a0.heldTask] (Tryz.isAgg60 _) (Tryz.sizeOf60 _) ?_
 refine sAlloc l0 Tryz.zeroValue60 ?_
 intro e0 _ m3
 refine sT m3 0 0 (.agg #[I a0.heldJob, I a0.heldTask]) [I a0.heldJob, I a0.heldTask] #[I a0.heldJob, I a0.heldTask] Tryz.sizeOf60 ?_
 intro _ n3
 refine nT <| seqE <| sR <| pu2 ?_
 have o3 := (n3.picks [7, 7, 7, 7, 7, 7, 7])
 have p3 := (o3.merge7)
 have q3 : FarmP p F ((Tri p 85 (preP F.cfg wb wo wn wk q m) (([] : List Ref).flatMap encRef) (encStt F.st)) ++ (Wc ++ (acs.flatten ++ (dcs.flatten ++ (Qc ++ (Jc ++ jcs.flatten)))))) := ⟨_, _, _, _, _, _, _, _, _, _, _, _, _, _, rfl, hOw, hco, hAs, hDs, hQ, hM, hJs⟩
 refine cX Tryz.call62 (pf_busy q3 hF x om (Sat.flat1 p3)) ?_
 rintro _ _ ⟨rfl, r3⟩
 have s3 := Sat.unflat1 r3
 have w0 := s3.split7
 refine nT ?_
 refine cB (busyW F (wAt F x)) (fun x0 => ?_) (fun x0 => ?_)
 rotate_left
 ·refine kT <| seqE <| sR <| pu3 ?_
  refine sLp w0 (m0.up 1 rfl) 6 (.pointer (some ⟨a0.d, 0, none⟩)) (Tryz.isAgg89 _) ?_
  obtain ⟨o1, a8, p1, q1, t3⟩ := Obs.get hDs (map_at' d0)
  have u3 := (w0.pick 3 rfl)
  have v3 := Sat.openN (A := []) x.toNat q1 u3
  refine cX Tryz.call64 (pd_drain t3 (Sat.flat1 v3)) ?_
  rintro _ _ ⟨w3, n0, x3, y3, r1, rfl, y0, z3, a4⟩
  have b4 := Sat.unflat2 a4; have hn_az_135 := y0.len; have hl_az_135 := y0.le
  have c4 := (b4.picks [2, 2])
  have d4 := Sat.shutN (d := r1) (A := []) x.toNat q1 c4
  have e4 := Obs.set hDs (map_at' d0) z3
  refine pu2 <| nT <| blockE ?_
  have hJx := fun (r : Ref) (hr : RefOk (shapeF F.jobs) r) => ref_job hF.fw hr
  refine loopA (γ := Nat × QS × Chunk) (fun ⟨i, qi, Qci⟩ => [(0, Pt p 0), (1, I x), (6, .pointer (some ⟨wb, wo + (x).toNat * 7, none⟩)), (7, Pt e0 0), (65, .slice w3 n0 x3), (66, I ((n0 : Nat) : Int)), (67, I ((i : Nat) : Int))]) (fun ⟨i, qi, Qci⟩ w => Sat W w ((dcs.set x.toNat r1).flatten :: y3 :: (Tri p 85 (preP F.cfg wb wo wn wk q m) (([] : List Ref).flatMap encRef) (encStt F.st)) :: Wc :: acs.flatten :: Qci :: Jc :: jcs.flatten :: [(e0, .cells #[I a0.heldJob, I a0.heldTask] 60 (0, 0))] :: H :: F0) ∧ i ≤ n0 ∧ (InjP q qi Qci) ∧ (qi = drainQ F.jobs F.q (o1.l.take i))) (fun ⟨i, qi, Qci⟩ => n0 - i) (0, F.q, Qc) ⟨d4, om, hQ, rfl⟩ ?_
  rintro ⟨i, qi, Qci⟩ ρ _ ⟨z0, hi, hQi, hqe⟩
  refine sR <| pu1 <| nT <| seqE ?_
  refine cD (((i : Nat) : Int) < ((n0 : Nat) : Int)) (fun f4 => ?_) (fun f4 => ?_)
  rotate_left
  ·refine exitE <| xB <| thenK_n <| sR <| pu1 ?_
   have g4 := (z0.picks [4, 4])
   refine cX Tryz.call65 (p_rest hOw hAs d0 4 g4) ?_
   rintro _ _ ⟨_, _, rfl, h4, i4, s1⟩
   refine nT <| sR <| pu4 ?_
   refine sLp s1 (ptr_up 4 rfl (tri_post (k := 11) (tri_len (sz := 2) (m := 11) fR (rfl : ([] : List Ref).length = 0)))) 3 (I F.st.crashes) (Tryz.isAgg3 _) ?_
   refine sAdd F.st.crashes 1 ?_
   refine pu3 ?_
   refine sTpost s1 4 11 3 rfl (I (F.st.crashes + 1)) [I (F.st.crashes + 1)] [I F.st.starts, I F.st.commits, I F.st.drops, I (F.st.crashes + 1), I F.st.steals, I F.st.helps, I F.st.spills, I F.st.queued, I F.st.held, I F.st.cells] (tri_len (sz := 2) (m := 11) fR (rfl : ([] : List Ref).length = 0)) Tryz.sizeOf3 ?_
   intro _ t1
   refine nT <| sR <| pu1 ?_
   refine lA t1 8 0 2 (Tryz.isAgg60 _) (Tryz.sizeOf60 _) ?_
   refine pu1 ?_
   refine sBS t1 #[I 10, I x, I 0, I 0, I a0.heldJob, I a0.heldTask, I 0] Tryz.runUnderlying38 Tryz.sizeOf62 Tryz.zeroValue62 ?_
   intro u1 _ j4
   refine pu2 <| nT <| retE <| retT [.slice (At u1 0) 1 1, I 0] ?_
   have k4 := OwnT.blk (enc := encEvt) (sz := 7) (b := u1) (c := #[I 10, I x, I 0, I 0, I a0.heldJob, I a0.heldTask, I 0]) (E := 62) (xs := [(⟨10, x, 0, 0, a0.heldJob, a0.heldTask, 0⟩ : Evt)]) fR 1 rfl rfl rfl om
   have l4 := ((j4.picks [8, 8, 8, 6, 6, 6, 8]).drops [8, 8])
   have m4 := ((l4.merge7).pick 1 rfl)
   have he : crashF F x = ((⟨F.cfg, (F.ws.set x.toNat ⟨4, 0, 0, 0, 0, 0, (F.ar.getD x.toNat default).high⟩), (F.ar.set (x).toNat (resetA (F.ar.getD (x).toNat default))), (F.dq.set x.toNat ({ o1 with l := [] } : DS)), qi, F.jobs, (⟨F.st.starts, F.st.commits, F.st.drops, (F.st.crashes + 1), F.st.steals, F.st.helps, F.st.spills, F.st.queued, F.st.held, F.st.cells⟩ : Stt)⟩ : FS), [(⟨10, x, 0, 0, a0.heldJob, a0.heldTask, 0⟩ : Evt)], 0) := (crash_free ⟨om, om⟩ hv0 om (by rw [← show wAt F x = v0 from getD_some hv0]; exact Bool.eq_false_iff.2 x0) p1 hax).trans (by rw [hqe, List.take_of_length_le om, s0, t0])
   rw [he]; exact ⟨_, _, _, _, _, rfl, k4, ⟨_, _, _, _, _, _, _, _, _, _, _, _, _, _, rfl, h4, (core_set hco rfl), (by rw [map_setA (x' := (⟨4, 0, 0, 0, 0, a0.a, a0.d⟩ : PW)) d0 rfl]; exact i4), (by rw [map_setD (x' := (⟨4, 0, 0, 0, 0, a0.a, a0.d⟩ : PW)) d0 rfl]; exact e4), hQi, hM, hJs⟩, m4⟩
  refine kT <| seqE <| blockE <| sR ?_
  refine sIdxO y0 ((i : Nat) : Int) i Tryz.runUnderlying125 Tryz.sizeOf60 ?_
  intro b0 _ _ v1 n4 _
  have a1 := hF.fw.d _ (List.mem_of_getElem? p1) _ (List.mem_of_getElem? v1); have hro_154_1 := a1.1; have hro_154_2 := a1.2.1; obtain ⟨h0, w1, o4, hro_154_3, hro_154_4⟩ := hJx b0 a1
  refine sLpA z0 (n4.up 1 rfl) 0 [I b0.job, I b0.task] (Tryz.isAgg60 _) (Tryz.sizeOf60 _) ?_
  refine sAlloc z0 Tryz.zeroValue60 ?_
  intro b1 _ p4
  refine sT p4 0 0 (.agg #[I b0.job, I b0.task]) [I b0.job, I b0.task] #[I b0.job, I b0.task] Tryz.sizeOf60 ?_
  intro _ q4
  refine nT ?_
  obtain ⟨x1, c1, n8, o8, d1, r4, s4⟩ := JobsP.get hJs (k := b0.job) ⟨om, om⟩ w1 o4
  obtain ⟨t4, u4, v4, p8, w4, x4, y4, rfl, y1, q8, z4, r8, _, s8⟩ := r4.open
  have a5 := (q4.pick 8 rfl)
  have b5 := Sat.openN (A := []) x1 d1 a5
  have f0 := b5.split3
  have hn_taj_163 := y1.len; have hl_taj_163 := y1.le; have hm_taj_163 := congrArg List.length z4; rw [List.length_map] at hm_taj_163
  refine drawE [11, 15] [(3, ⟨p, 9, none⟩, Pt q 0), (4, ⟨b1, 0, none⟩, I b0.job), (4, ⟨b1, 1, none⟩, I b0.task), (8, ⟨p, 10, none⟩, .map (some m)), (10, ⟨b1, 0, none⟩, I b0.job), (14, ⟨c1, 1, none⟩, I h0.band)] [(true, [0, 1, 2, 5, 6, 7, 9]), (true, [3]), (true, [4]), (true, [8]), (true, [10]), (false, [11]), (true, [12, 13]), (true, [14]), (false, [15])] rfl kr ⟨.inr (cell_up f0 7 rfl (k := 9) tri_pre rfl), .inr (f0.cell 4 rfl rfl), .inr (f0.cell 4 rfl rfl), .inr (cell_up f0 7 rfl (k := 10) tri_pre rfl), .inr (f0.cell 4 rfl rfl), .inr (f0.cell 0 rfl rfl), trivial⟩ ?_
  have i0 := f0.drew
  refine wU [0, 1, 2, 5, 6, 7, 9] ?_
  refine wLd (Pt q 0) 0 Tryz.isAgg77 ?_
  refine wY (.agg #[I b0.job, I b0.task]) rfl (fun w hF => Y_loadF rfl (Tryz.isAgg60 w) (Tryz.sizeOf60 w) kr rfl ⟨hF 1 _ _ rfl, hF 2 _ _ rfl, trivial⟩) ?_
  refine wLd (.map (some m)) 3 Tryz.isAgg80 ?_
  refine wLd (I b0.job) 4 Tryz.isAgg3 ?_
  refine wO rfl ?_
  refine stepY (Pt c1 0) rfl rfl (Y_iget (k := b0.job) i0 11 hM (by rw [s4]; rfl) Tryz.runUnderlying80 Tryz.runUnderlying3 Tryz.zeroValue111) ?_
  refine nilO ⟨⟨.inr (cell_up i0 7 rfl (k := 9) tri_pre rfl), .inr (i0.cell 4 rfl rfl), .inr (i0.cell 4 rfl rfl), dI, dI, .inr (i0.cell 0 rfl rfl), trivial⟩, ?_⟩
  refine wU [12, 13] ?_
  refine wLd (I h0.band) 5 Tryz.isAgg3 ?_
  refine wO rfl ?_
  have c5 := (i0.pick 10 rfl)
  refine cX Tryz.call55 (pq_push hQi b0 h0.band om (Sat.flat1 c5)) ?_
  rintro _ _ ⟨d5, rfl, e5, f5⟩
  have g5 := Sat.unflat1 f5
  refine nilO ⟨dA, ?_⟩
  refine wN ?_
  have h5 := (g5.picks [4, 4, 4, 4])
  have i5 := h5.merge3
  have z1 := Sat.shutN (d := ([(c1, .cells #[.slice t4 u4 v4, I h0.band, Pt w4 0, .bool (canc h0)] 118 (0, 0))] ++ (x4 ++ y4))) (A := []) x1 d1 i5
  rw [set_same d1] at z1
  refine blockK_n <| thenK_n <| regionE ?_
  refine sAdd ((i : Nat) : Int) 1 ?_
  refine pu1 <| nT ?_
  have j5 := ((z1.picks [8, 2, 8, 8, 8, 8, 8]).dropAt 8 rfl)
  exact ⟨(i + 1, (pushQ qi b0 h0.band), d5), od, alA, j5, om, e5, (by rw [drain_take v1, ← hqe]; unfold pushR; rw [getD_some w1])⟩
 refine seqE ?_
 have hbh := busy_holds x0; rw [show wAt F x = v0 from getD_some hv0] at hbh; have hh := hbh.1
 obtain ⟨j, hj, ha, hz⟩ := hF.h.h _ _ hv0 hh; have hjo := hF.fw.j j (List.mem_of_getElem? hj); obtain ⟨hBW, hdl, hb1, hb2⟩ := hjo.b ha; have hjn := hjo.n; have hwo := hF.fw.w v0 (List.mem_of_getElem? hv0); have hk0 := hwo.h; have hr0 := hwo.r; have hlt := held_lt hBW hz; have hph : v0.phase = 1 ∨ v0.phase = 2 ∨ v0.phase = 3 := hh
 obtain ⟨e1, o0, u8, k5, a2, l5, m5⟩ := JobsP.get hJs (k := v0.heldJob) ⟨om, om⟩ hj ha
 obtain ⟨b2, c2, d2, v8, u0, e2, w8, rfl, f1, n5, f2, o5, _, p5⟩ := l5.open
 have q5 := (w0.pick 6 rfl)
 have r5 := Sat.openN (A := []) e1 a2 q5
 have g1 := r5.split3
 have hn_taj_33 := f1.len; have hl_taj_33 := f1.le; have hm_taj_33 := congrArg List.length f2; rw [List.length_map] at hm_taj_33
 have hrun : j.running = true := by have h9 := hbh.2; unfold jobAt at h9; rw [getD_some hj] at h9; exact h9
 refine drawE [6] [(3, ⟨p, 10, none⟩, .map (some m)), (5, ⟨e0, 0, none⟩, I a0.heldJob)] [(true, [0, 1, 2, 4]), (true, [3]), (true, [5]), (false, [6]), (true, [7])] rfl kr ⟨.inr (cell_up g1 4 rfl (k := 10) tri_pre rfl), .inr (g1.cell 10 rfl rfl), trivial⟩ ?_
 have p0 := g1.drew
 refine wU [0, 1, 2, 4] ?_
 refine wLd (.map (some m)) 0 Tryz.isAgg80 ?_
 refine wLd (I a0.heldJob) 1 Tryz.isAgg3 ?_
 refine wO rfl ?_
 refine stepY (Pt o0 0) rfl rfl (Y_iget (k := a0.heldJob) p0 9 hM (by rw [s0, m5]; rfl) Tryz.runUnderlying80 Tryz.runUnderlying3 Tryz.zeroValue111) ?_
 refine nilO ⟨dA, ?_⟩
 refine wU [7] ?_
 refine wN ?_
 refine thenK_n <| seqE ?_
 refine drawE [10] [(3, ⟨o0, 2, none⟩, Pt u0 0), (5, ⟨e0, 1, none⟩, I a0.heldTask), (9, ⟨wb, wo + (x).toNat * 7 + 3, none⟩, I a0.attempt)] [(true, [0, 1, 2, 4, 6, 7, 8]), (true, [3]), (true, [5]), (true, [9]), (false, [10])] rfl kr ⟨.inr (p0.cell 0 rfl rfl), .inr (p0.cell 10 rfl rfl), .inr ((m0.up 5 rfl).cell p0 (k := 3) rfl), trivial⟩ ?_
 have s5 := p0.drew
 refine wU [0, 1, 2, 4, 6, 7, 8] ?_
 refine wLd (Pt u0 0) 0 Tryz.isAgg112 ?_
 refine wLd (I a0.heldTask) 1 Tryz.isAgg3 ?_
 refine wLd (I a0.attempt) 2 Tryz.isAgg3 ?_
 refine wO rfl ?_
 have t5 := (s5.pick 2 rfl)
 refine cX Tryz.call63 (b_return o5 hBW a0.heldTask a0.attempt om (Sat.flat1 t5)) ?_
 rintro _ _ ⟨g2, rfl, h2, u5⟩
 have q0 := Sat.unflat1 u5; rw [t0, n1] at h2
 refine nilO ⟨dA, ?_⟩
 refine wN ?_
 refine thenK_n ?_
 refine drawE [9] [(3, ⟨p, 9, none⟩, Pt q 0), (4, ⟨e0, 0, none⟩, I a0.heldJob), (4, ⟨e0, 1, none⟩, I a0.heldTask), (8, ⟨o0, 1, none⟩, I j.band)] [(true, [0, 1, 2, 5, 6, 7]), (true, [3]), (true, [4]), (true, [8]), (false, [9])] rfl kr ⟨.inr (cell_up q0 4 rfl (k := 9) tri_pre rfl), .inr (q0.cell 10 rfl rfl), .inr (q0.cell 10 rfl rfl), .inr (q0.cell 1 rfl rfl), trivial⟩ ?_
 have v5 := q0.drew
 refine wU [0, 1, 2, 5, 6, 7] ?_
 refine wLd (Pt q 0) 0 Tryz.isAgg77 ?_
 refine wY (.agg #[I a0.heldJob, I a0.heldTask]) rfl (fun w hF => Y_loadF rfl (Tryz.isAgg60 w) (Tryz.sizeOf60 w) kr rfl ⟨hF 1 _ _ rfl, hF 2 _ _ rfl, trivial⟩) ?_
 refine wLd (I j.band) 3 Tryz.isAgg3 ?_
 refine wO rfl ?_
 have w5 := (v5.pick 8 rfl)
 refine cX Tryz.call55 (pq_push hQ (⟨a0.heldJob, a0.heldTask⟩ : Ref) j.band om (Sat.flat1 w5)) ?_
 rintro _ _ ⟨x5, rfl, y5, z5⟩
 have i2 := Sat.unflat1 z5
 refine nilO ⟨dA, ?_⟩
 refine wN ?_
 refine thenK_n <| seqE <| sR <| pu3 ?_
 refine sLp i2 (m0.up 6 rfl) 6 (.pointer (some ⟨a0.d, 0, none⟩)) (Tryz.isAgg89 _) ?_
 obtain ⟨k2, z8, l2, m2, a6⟩ := Obs.get hDs (map_at' d0)
 have b6 := (i2.pick 8 rfl)
 have c6 := Sat.openN (A := []) x.toNat m2 b6
 refine cX Tryz.call64 (pd_drain a6 (Sat.flat1 c6)) ?_
 rintro _ _ ⟨d6, r0, e6, f6, n2, rfl, h1, g6, h6⟩
 have i6 := Sat.unflat2 h6; have hn_az_62 := h1.len; have hl_az_62 := h1.le
 have j6 := (i6.picks [2, 2])
 have k6 := Sat.shutN (d := n2) (A := []) x.toNat m2 j6
 have l6 := Obs.set hDs (map_at' d0) g6
 refine pu2 <| nT <| blockE ?_
 have m6 := (k6.picks [6, 4, 6, 6])
 have n6 := m6.merge3
 have o6 := Sat.shutN (d := ([(o0, .cells #[.slice b2 c2 d2, I j.band, Pt u0 0, .bool (canc j)] 118 (0, 0))] ++ (e2 ++ g2))) (A := []) e1 a2 n6
 have o2 := JobsP.set hJs (k := v0.heldJob) (j2 := { j with B := (retB j.B v0.heldTask v0.attempt) }) ⟨om, om⟩ k5 (JobP.mk (s := { j with B := (retB j.B v0.heldTask v0.attempt) }) (cn := (canc j)) f1 n5 f2 h2 ha (fun h => by show doneOf (retB j.B v0.heldTask v0.attempt) < _; rw [ret_done]; exact p5 h) (by unfold canc; dsimp only; rw [ret_done])) ha
 have hJx := fun (r : Ref) (hr : RefOk (shapeF F.jobs) r) => ref_set (B := (retB j.B v0.heldTask v0.attempt)) hF.fw hj hr
 refine loopA (γ := Nat × QS × Chunk) (fun ⟨i, qi, Qci⟩ => [(0, Pt p 0), (1, I x), (6, .pointer (some ⟨wb, wo + (x).toNat * 7, none⟩)), (7, Pt e0 0), (65, .slice d6 r0 e6), (66, I ((r0 : Nat) : Int)), (67, I ((i : Nat) : Int))]) (fun ⟨i, qi, Qci⟩ w => Sat W w ((jcs.set e1 ([(o0, .cells #[.slice b2 c2 d2, I j.band, Pt u0 0, .bool (canc j)] 118 (0, 0))] ++ (e2 ++ g2))).flatten :: (dcs.set x.toNat n2).flatten :: f6 :: Qci :: (Tri p 85 (preP F.cfg wb wo wn wk q m) (([] : List Ref).flatMap encRef) (encStt F.st)) :: Wc :: acs.flatten :: Jc :: [(e0, .cells #[I a0.heldJob, I a0.heldTask] 60 (0, 0))] :: H :: F0) ∧ i ≤ r0 ∧ (InjP q qi Qci) ∧ (qi = drainQ (F.jobs.set v0.heldJob.toNat ({ j with B := (retB j.B v0.heldTask v0.attempt) })) (pushQ F.q (⟨a0.heldJob, a0.heldTask⟩ : Ref) j.band) (k2.l.take i))) (fun ⟨i, qi, Qci⟩ => r0 - i) (0, (pushQ F.q (⟨a0.heldJob, a0.heldTask⟩ : Ref) j.band), x5) ⟨o6, om, y5, rfl⟩ ?_
 rintro ⟨i, qi, Qci⟩ ρ _ ⟨i1, hi, hQi, hqe⟩
 refine sR <| pu1 <| nT <| seqE ?_
 refine cD (((i : Nat) : Int) < ((r0 : Nat) : Int)) (fun p6 => ?_) (fun p6 => ?_)
 rotate_left
 ·refine exitE <| xB <| thenK_n <| sR <| pu1 ?_
  have q6 := (i1.picks [6, 6])
  refine cX Tryz.call65 (p_rest hOw hAs d0 4 q6) ?_
  rintro _ _ ⟨_, _, rfl, r6, s6, p2⟩
  refine nT <| sR <| pu4 ?_
  refine sLp p2 (ptr_up 6 rfl (tri_post (k := 11) (tri_len (sz := 2) (m := 11) fR (rfl : ([] : List Ref).length = 0)))) 3 (I F.st.crashes) (Tryz.isAgg3 _) ?_
  refine sAdd F.st.crashes 1 ?_
  refine pu3 ?_
  refine sTpost p2 6 11 3 rfl (I (F.st.crashes + 1)) [I (F.st.crashes + 1)] [I F.st.starts, I F.st.commits, I F.st.drops, I (F.st.crashes + 1), I F.st.steals, I F.st.helps, I F.st.spills, I F.st.queued, I F.st.held, I F.st.cells] (tri_len (sz := 2) (m := 11) fR (rfl : ([] : List Ref).length = 0)) Tryz.sizeOf3 ?_
  intro _ q2
  refine nT <| sR <| pu1 ?_
  refine lA q2 8 0 2 (Tryz.isAgg60 _) (Tryz.sizeOf60 _) ?_
  refine pu1 ?_
  refine sBS q2 #[I 10, I x, I 0, I 0, I a0.heldJob, I a0.heldTask, I 0] Tryz.runUnderlying38 Tryz.sizeOf62 Tryz.zeroValue62 ?_
  intro r2 _ t6
  refine pu2 <| nT <| retE <| retT [.slice (At r2 0) 1 1, I 0] ?_
  have u6 := OwnT.blk (enc := encEvt) (sz := 7) (b := r2) (c := #[I 10, I x, I 0, I 0, I a0.heldJob, I a0.heldTask, I 0]) (E := 62) (xs := [(⟨10, x, 0, 0, a0.heldJob, a0.heldTask, 0⟩ : Evt)]) fR 1 rfl rfl rfl om
  have v6 := ((t6.picks [3, 8, 7, 6, 6, 6, 8]).drops [8, 8])
  have w6 := ((v6.merge7).pick 1 rfl)
  have he : crashF F x = ((⟨F.cfg, (F.ws.set x.toNat ⟨4, 0, 0, 0, 0, 0, (F.ar.getD x.toNat default).high⟩), (F.ar.set (x).toNat (resetA (F.ar.getD (x).toNat default))), (F.dq.set x.toNat ({ k2 with l := [] } : DS)), qi, (F.jobs.set v0.heldJob.toNat ({ j with B := (retB j.B v0.heldTask v0.attempt) })), (⟨F.st.starts, F.st.commits, F.st.drops, (F.st.crashes + 1), F.st.steals, F.st.helps, F.st.spills, F.st.queued, F.st.held, F.st.cells⟩ : Stt)⟩ : FS), [(⟨10, x, 0, 0, a0.heldJob, a0.heldTask, 0⟩ : Evt)], 0) := (crash_busy ⟨om, om⟩ hv0 hh hj hrun l2 hax).trans (by rw [hqe, List.take_of_length_le om, drain_set hj, s0, t0])
  rw [he]; exact ⟨_, _, _, _, _, rfl, u6, ⟨_, _, _, _, _, _, _, _, _, _, _, _, _, _, rfl, r6, (core_set hco rfl), (by rw [map_setA (x' := (⟨4, 0, 0, 0, 0, a0.a, a0.d⟩ : PW)) d0 rfl]; exact s6), (by rw [map_setD (x' := (⟨4, 0, 0, 0, 0, a0.a, a0.d⟩ : PW)) d0 rfl]; exact l6), hQi, hM, o2⟩, w6⟩
 refine kT <| seqE <| blockE <| sR ?_
 refine sIdxO h1 ((i : Nat) : Int) i Tryz.runUnderlying125 Tryz.sizeOf60 ?_
 intro c0 _ _ s2 x6 _
 have j1 := hF.fw.d _ (List.mem_of_getElem? l2) _ (List.mem_of_getElem? s2); have hro_85_1 := j1.1; have hro_85_2 := j1.2.1; obtain ⟨j0, t2, y6, hro_85_3, hro_85_4⟩ := hJx c0 j1
 refine sLpA i1 (x6.up 2 rfl) 0 [I c0.job, I c0.task] (Tryz.isAgg60 _) (Tryz.sizeOf60 _) ?_
 refine sAlloc i1 Tryz.zeroValue60 ?_
 intro k1 _ z6
 refine sT z6 0 0 (.agg #[I c0.job, I c0.task]) [I c0.job, I c0.task] #[I c0.job, I c0.task] Tryz.sizeOf60 ?_
 intro _ a7
 refine nT ?_
 obtain ⟨u2, l1, n9, o9, m1, b7, c7⟩ := JobsP.get o2 (k := c0.job) ⟨om, om⟩ t2 y6
 obtain ⟨d7, e7, f7, p9, g7, h7, i7, rfl, v2, q9, j7, r9, _, s9⟩ := b7.open
 have k7 := (a7.pick 1 rfl)
 have l7 := Sat.openN (A := []) u2 m1 k7
 have g0 := l7.split3
 have hn_taj_94 := v2.len; have hl_taj_94 := v2.le; have hm_taj_94 := congrArg List.length j7; rw [List.length_map] at hm_taj_94
 refine drawE [11, 15] [(3, ⟨p, 9, none⟩, Pt q 0), (4, ⟨k1, 0, none⟩, I c0.job), (4, ⟨k1, 1, none⟩, I c0.task), (8, ⟨p, 10, none⟩, .map (some m)), (10, ⟨k1, 0, none⟩, I c0.job), (14, ⟨l1, 1, none⟩, I j0.band)] [(true, [0, 1, 2, 5, 6, 7, 9]), (true, [3]), (true, [4]), (true, [8]), (true, [10]), (false, [11]), (true, [12, 13]), (true, [14]), (false, [15])] rfl kr ⟨.inr (cell_up g0 8 rfl (k := 9) tri_pre rfl), .inr (g0.cell 4 rfl rfl), .inr (g0.cell 4 rfl rfl), .inr (cell_up g0 8 rfl (k := 10) tri_pre rfl), .inr (g0.cell 4 rfl rfl), .inr (g0.cell 0 rfl rfl), trivial⟩ ?_
 have k0 := g0.drew
 refine wU [0, 1, 2, 5, 6, 7, 9] ?_
 refine wLd (Pt q 0) 0 Tryz.isAgg77 ?_
 refine wY (.agg #[I c0.job, I c0.task]) rfl (fun w hF => Y_loadF rfl (Tryz.isAgg60 w) (Tryz.sizeOf60 w) kr rfl ⟨hF 1 _ _ rfl, hF 2 _ _ rfl, trivial⟩) ?_
 refine wLd (.map (some m)) 3 Tryz.isAgg80 ?_
 refine wLd (I c0.job) 4 Tryz.isAgg3 ?_
 refine wO rfl ?_
 refine stepY (Pt l1 0) rfl rfl (Y_iget (k := c0.job) k0 11 hM (by rw [c7]; rfl) Tryz.runUnderlying80 Tryz.runUnderlying3 Tryz.zeroValue111) ?_
 refine nilO ⟨⟨.inr (cell_up k0 8 rfl (k := 9) tri_pre rfl), .inr (k0.cell 4 rfl rfl), .inr (k0.cell 4 rfl rfl), dI, dI, .inr (k0.cell 0 rfl rfl), trivial⟩, ?_⟩
 refine wU [12, 13] ?_
 refine wLd (I j0.band) 5 Tryz.isAgg3 ?_
 refine wO rfl ?_
 have m7 := (k0.pick 7 rfl)
 refine cX Tryz.call55 (pq_push hQi c0 j0.band om (Sat.flat1 m7)) ?_
 rintro _ _ ⟨n7, rfl, o7, p7⟩
 have q7 := Sat.unflat1 p7
 refine nilO ⟨dA, ?_⟩
 refine wN ?_
 have r7 := (q7.picks [4, 4, 4, 4])
 have s7 := r7.merge3
 have w2 := Sat.shutN (d := ([(l1, .cells #[.slice d7 e7 f7, I j0.band, Pt g7 0, .bool (canc j0)] 118 (0, 0))] ++ (h7 ++ i7))) (A := []) u2 m1 s7
 rw [set_same m1] at w2
 refine blockK_n <| thenK_n <| regionE ?_
 refine sAdd ((i : Nat) : Int) 1 ?_
 refine pu1 <| nT ?_
 have t7 := ((w2.picks [4, 4, 2]).dropAt 4 rfl)
 exact ⟨(i + 1, (pushQ qi c0 j0.band), n7), od, alA, t7, om, o7, (by rw [drain_take s2, ← hqe]; unfold pushR; rw [getD_some t2])⟩
theorem pf_crash_b {p : Nat} {F : FS} {M : Chunk} {F0 : List Chunk} (hR : FarmP p F M) {K : Int} (hF : FI F K) (x : Int) (hx : ¬ (0 ≤ x ∧ x < ((F.ws.length : Nat) : Int))) (hS : Sat W w (M :: H :: F0)) :
  Calls Tryz.prog 19 #[Pt p 0, I x] w fun e w' => ∃ (az : Option Addr) (nz kz : Nat) (G M' : Chunk), e = .returned (.tuple #[.slice az nz kz, I (crashF F x).2.2]) ∧ OwnT encEvt 62 7 az nz kz (crashF F x).2.1 G ∧ FarmP p (crashF F x).1 M' ∧ Sat W w' (G :: M' :: H :: F0) := by
 refine callsA 103 Tryz.func19 rfl ?_
 refine sR <| pu2 <| nT <| seqE <| sR <| pu2 ?_
 refine cX Tryz.call61 (pf_worker hR x (Sat.flat1 hS)) ?_
 rintro _ _ ⟨rfl, a0⟩
 have b0 := Sat.unflat1 a0
 refine pu1 <| nT ?_
 have c0 : ¬ (0 ≤ x ∧ x < ((F.ws.length : Nat) : Int)) := hx
 refine cT _ (congrArg Bool.not (decide_eq_false c0)) ?_
 refine sR <| pu2 <| nT <| retE <| thenK_r <| retT [.slice none 0 0, I 16] ?_
 have d0 := Sat.nilc b0
 have he : crashF F x = (F, [], 16) := crash_unk hx
 rw [he]; exact ⟨_, _, _, _, _, rfl, (OwnT.nil (enc := encEvt) (E := 62) (sz := 7) fR), hR, d0⟩
theorem pf_restart_b {p : Nat} {F : FS} {M : Chunk} {F0 : List Chunk} (hR : FarmP p F M) {K : Int} (hF : FI F K) (x : Int) (hx : ¬ (0 ≤ x ∧ x < ((F.ws.length : Nat) : Int))) (hS : Sat W w (M :: H :: F0)) :
  Calls Tryz.prog 21 #[Pt p 0, I x] w fun e w' => ∃ (az : Option Addr) (nz kz : Nat) (G M' : Chunk), e = .returned (.tuple #[.slice az nz kz, I (restartF F x).2.2]) ∧ OwnT encEvt 62 7 az nz kz (restartF F x).2.1 G ∧ FarmP p (restartF F x).1 M' ∧ Sat W w' (G :: M' :: H :: F0) := by
 refine callsA 27 Tryz.func21 rfl ?_
 refine sR <| pu2 <| nT <| seqE <| sR <| pu2 ?_
 refine cX Tryz.call61 (pf_worker hR x (Sat.flat1 hS)) ?_
 rintro _ _ ⟨rfl, a0⟩
 have b0 := Sat.unflat1 a0
 refine pu1 <| nT ?_
 have c0 : ¬ (0 ≤ x ∧ x < ((F.ws.length : Nat) : Int)) := hx
 refine cT _ (congrArg Bool.not (decide_eq_false c0)) ?_
 refine sR <| pu2 <| nT <| retE <| thenK_r <| retT [.slice none 0 0, I 16] ?_
 have d0 := Sat.nilc b0
 have he : restartF F x = (F, [], 16) := by unfold restartF; rw [if_pos hx]
 rw [he]; exact ⟨_, _, _, _, _, rfl, (OwnT.nil (enc := encEvt) (E := 62) (sz := 7) fR), hR, d0⟩
theorem pf_crash {W w : World} {p : Nat} {F : FS} {M H : Chunk} {F0 : List Chunk} (hR : FarmP p F M) {K : Int} (hF : FI F K) (x : Int) (hS : Sat W w (M :: H :: F0)) :
    Calls Tryz.prog 19 #[.pointer (some ⟨p, 0, none⟩), .int .i64 x] w fun e w' => ∃ (az : Option Addr) (nz kz : Nat) (G M' : Chunk), e = .returned (.tuple #[.slice az nz kz, .int .i64 (crashF F x).2.2]) ∧ OwnT encEvt 62 7 az nz kz (crashF F x).2.1 G ∧ FarmP p (crashF F x).1 M' ∧ Sat W w' (G :: M' :: H :: F0) := by
  by_cases hx : 0 ≤ x ∧ x < ((F.ws.length : Nat) : Int)
  · exact pf_crash_g hR hF x hx (hF.fw.wmem hx) hS
  · exact pf_crash_b hR hF x hx hS
theorem pf_restart {W w : World} {p : Nat} {F : FS} {M H : Chunk} {F0 : List Chunk} (hR : FarmP p F M) {K : Int} (hF : FI F K) (x : Int) (hS : Sat W w (M :: H :: F0)) :
    Calls Tryz.prog 21 #[.pointer (some ⟨p, 0, none⟩), .int .i64 x] w fun e w' => ∃ (az : Option Addr) (nz kz : Nat) (G M' : Chunk), e = .returned (.tuple #[.slice az nz kz, .int .i64 (restartF F x).2.2]) ∧ OwnT encEvt 62 7 az nz kz (restartF F x).2.1 G ∧ FarmP p (restartF F x).1 M' ∧ Sat W w' (G :: M' :: H :: F0) := by
  by_cases hx : 0 ≤ x ∧ x < ((F.ws.length : Nat) : Int)
  · exact pf_restart_g hR hF x hx (hF.fw.wmem hx) hS
  · exact pf_restart_b hR hF x hx hS
theorem cancel_none {F : FS} {k : Int} (h : ¬ (0 ≤ k ∧ k < 64 ∧ (F.jobs.getD k.toNat default).added = true)) : cancelF F k = (F, [], 16) := by
  unfold cancelF
  rw [if_pos]
  by_cases h1 : 0 ≤ k ∧ k < 64
  · right
    unfold jobAt
    cases h2 : (F.jobs.getD k.toNat default).added
    · rfl
    · exact absurd ⟨h1.1, h1.2, h2⟩ h
  · exact .inl h1
theorem pf_cancel_0 {p : Nat} {F : FS} {M : Chunk} {F0 : List Chunk} (hR : FarmP p F M) {K : Int} (hF : FI F K) (x : Int) (hk : ¬ (0 ≤ x ∧ x < 64 ∧ (F.jobs.getD x.toNat default).added = true)) (hS : Sat W w (M :: H :: F0)) :
  Calls Tryz.prog 23 #[Pt p 0, I x] w fun e w' => ∃ (az : Option Addr) (nz kz : Nat) (G M' : Chunk), e = .returned (.tuple #[.slice az nz kz, I (cancelF F x).2.2]) ∧ OwnT encEvt 62 7 az nz kz (cancelF F x).2.1 G ∧ FarmP p (cancelF F x).1 M' ∧ Sat W w' (G :: M' :: H :: F0) := by
 obtain ⟨wb, wo, wn, wk, q, m, xs, jm, Wc, Qc, Jc, acs, dcs, jcs, rfl, hOw, hco, hAs, hDs, hQ, hM, hJs⟩ := hR
 have b0 : Sat W _ ((Tri p 85 (preP F.cfg wb wo wn wk q m) (([] : List Ref).flatMap encRef) (encStt F.st)) :: Wc :: acs.flatten :: dcs.flatten :: Qc :: Jc :: jcs.flatten :: H :: F0) := Sat.perm hS (by simp)
 have hwl := hOw.len; have hwk := hOw.le; have hcl := core_len hco; have has1 := hAs.1; have hds1 := hDs.1; rw [List.length_map] at has1 hds1; have hjl1 := hJs.l
 have hs1 := hF.st.a; have hs2 := hF.st.b; have hs3 := hF.st.c; have hs4 := hF.st.d; have hs5 := hF.st.e; have hs6 := hF.st.f; have hs7 := hF.st.g; have hKK := hF.fw.k; have hn9 := hF.fw.n; have hal9 := hF.fw.al; have hdl9 := hF.fw.dl; have hjl9 := hF.fw.jl
 have hg := JobsP.no hJs hk
 refine callsA 59 Tryz.func23 rfl ?_
 refine sR <| pu2 <| nT <| seqE <| sR <| pu1 ?_
 refine cX Tryz.call50 (p_empty ⟨om, om⟩ b0) ?_
 rintro _ _ ⟨rfl, a0⟩
 refine pu4 <| gY ?_
 refine sLp a0 (ptr_up 0 rfl tri_pre) 10 (.map (some m)) (Tryz.isAgg80 _) ?_
 refine pu1 <| gY ?_
 refine stepY (.pointer none) rfl rfl (Y_iget (k := x) a0 5 hM (by rw [hg]; rfl) Tryz.runUnderlying80 Tryz.runUnderlying3 Tryz.zeroValue111) ?_
 refine pu2 <| nT <| cTt <| sR <| pu2 <| nT <| retE <| thenK_r <| retT [.slice none 0 0, I 16] ?_
 have c0 := Sat.nilc a0
 have d0 := (c0.picks [7, 7, 7, 7, 7, 7, 7])
 have e0 := ((d0.merge7).pick 1 rfl)
 have he : cancelF F x = (F, [], 16) := cancel_none hk
 rw [he]; exact ⟨_, _, _, _, _, rfl, (OwnT.nil (enc := encEvt) (E := 62) (sz := 7) fR), ⟨_, _, _, _, _, _, _, _, _, _, _, _, _, _, rfl, hOw, hco, hAs, hDs, hQ, hM, hJs⟩, e0⟩
theorem pf_cancel_1 {p : Nat} {F : FS} {M : Chunk} {F0 : List Chunk} (hR : FarmP p F M) {K : Int} (hF : FI F K) {j : JS} (x : Int) (hx : 0 ≤ x ∧ x < 64) (hj : F.jobs[x.toNat]? = some j) (ha : j.added = true) (hrun : ¬ j.running = true) (hS : Sat W w (M :: H :: F0)) :
  Calls Tryz.prog 23 #[Pt p 0, I x] w fun e w' => ∃ (az : Option Addr) (nz kz : Nat) (G M' : Chunk), e = .returned (.tuple #[.slice az nz kz, I (cancelF F x).2.2]) ∧ OwnT encEvt 62 7 az nz kz (cancelF F x).2.1 G ∧ FarmP p (cancelF F x).1 M' ∧ Sat W w' (G :: M' :: H :: F0) := by
 obtain ⟨wb, wo, wn, wk, q, m, xs, jm, Wc, Qc, Jc, acs, dcs, jcs, rfl, hOw, hco, hAs, hDs, hQ, hM, hJs⟩ := hR
 have i0 : Sat W _ ((Tri p 85 (preP F.cfg wb wo wn wk q m) (([] : List Ref).flatMap encRef) (encStt F.st)) :: Wc :: acs.flatten :: dcs.flatten :: Qc :: Jc :: jcs.flatten :: H :: F0) := Sat.perm hS (by simp)
 have hwl := hOw.len; have hwk := hOw.le; have hcl := core_len hco; have has1 := hAs.1; have hds1 := hDs.1; rw [List.length_map] at has1 hds1; have hjl1 := hJs.l
 have hs1 := hF.st.a; have hs2 := hF.st.b; have hs3 := hF.st.c; have hs4 := hF.st.d; have hs5 := hF.st.e; have hs6 := hF.st.f; have hs7 := hF.st.g; have hKK := hF.fw.k; have hn9 := hF.fw.n; have hal9 := hF.fw.al; have hdl9 := hF.fw.dl; have hjl9 := hF.fw.jl
 have hjo := hF.fw.j j (List.mem_of_getElem? hj); obtain ⟨hBW, hdl, hb1, hb2⟩ := hjo.b ha
 obtain ⟨e0, b0, h1, i1, c0, j0, f0⟩ := JobsP.get hJs (k := x) ⟨om, om⟩ hj ha
 obtain ⟨k0, l0, m0, j1, n0, o0, p0, rfl, d0, q0, g0, r0, _, s0⟩ := j0.open
 have t0 := (i0.pick 6 rfl)
 have u0 := Sat.openN (A := []) e0 c0 t0
 have v0 := u0.split3
 have hn_taj_2 := d0.len; have hl_taj_2 := d0.le; have hm_taj_2 := congrArg List.length g0; rw [List.length_map] at hm_taj_2
 refine callsA 59 Tryz.func23 rfl ?_
 refine sR <| pu2 <| nT <| seqE <| sR <| pu1 ?_
 have w0 := (v0.pick 4 rfl)
 refine cX Tryz.call50 (p_empty ⟨om, om⟩ w0) ?_
 rintro _ _ ⟨rfl, a0⟩
 refine pu4 <| gY ?_
 refine sLp a0 (ptr_up 0 rfl tri_pre) 10 (.map (some m)) (Tryz.isAgg80 _) ?_
 refine pu1 <| gY ?_
 refine stepY (Pt b0 0) rfl rfl (Y_iget (k := x) a0 9 hM (by rw [f0]; rfl) Tryz.runUnderlying80 Tryz.runUnderlying3 Tryz.zeroValue111) ?_
 refine pu2 <| nT <| cFf <| kT <| sR <| pu3 ?_
 refine sLp a0 (ptr_up 0 rfl tri_pre) 10 (.map (some m)) (Tryz.isAgg80 _) ?_
 refine pu1 ?_
 refine stepY (Pt b0 0) rfl rfl (Y_iget (k := x) a0 9 hM (by rw [f0]; rfl) Tryz.runUnderlying80 Tryz.runUnderlying3 Tryz.zeroValue111) ?_
 refine pu1 <| nT <| seqE <| sR <| pu1 ?_
 have x0 := (a0.picks [3, 3, 3])
 have y0 := x0.merge3
 refine cX Tryz.call71 (p_running (s := j) (JobP.mk (s := j) d0 q0 g0 r0 ha s0 rfl) hBW hdl y0) ?_
 rintro _ _ ⟨rfl, z0⟩
 have a1 := z0.split3
 refine pu1 <| nT ?_
 have b1 : ¬ (j.running = true) := hrun
 refine cT _ (congrArg Bool.not (Bool.eq_false_iff.2 b1)) ?_
 refine sR <| pu2 <| nT <| retE <| thenK_r <| retT [.slice none 0 0, I 18] ?_
 have c1 := Sat.nilc a1
 have d1 := (c1.picks [5, 4, 4, 4])
 have e1 := d1.merge3
 have h0 := Sat.shutN (d := ([(b0, .cells #[.slice k0 l0 m0, I j.band, Pt n0 0, .bool (canc j)] 118 (0, 0))] ++ (o0 ++ p0))) (A := []) e0 c0 e1
 rw [set_same c0] at h0
 have f1 := (h0.picks [7, 7, 7, 7, 7, 7])
 have g1 := ((f1.merge7).pick 1 rfl)
 have he : cancelF F x = (F, [], 18) := cancel_fin hx hj ha hrun
 rw [he]; exact ⟨_, _, _, _, _, rfl, (OwnT.nil (enc := encEvt) (E := 62) (sz := 7) fR), ⟨_, _, _, _, _, _, _, _, _, _, _, _, _, _, rfl, hOw, hco, hAs, hDs, hQ, hM, hJs⟩, g1⟩
theorem pf_cancel_2 {p : Nat} {F : FS} {M : Chunk} {F0 : List Chunk} (hR : FarmP p F M) {K : Int} (hF : FI F K) {j : JS} (x : Int) (hx : 0 ≤ x ∧ x < 64) (hj : F.jobs[x.toNat]? = some j) (ha : j.added = true) (hrun : j.running = true) (hS : Sat W w (M :: H :: F0)) :
  Calls Tryz.prog 23 #[Pt p 0, I x] w fun e w' => ∃ (az : Option Addr) (nz kz : Nat) (G M' : Chunk), e = .returned (.tuple #[.slice az nz kz, I (cancelF F x).2.2]) ∧ OwnT encEvt 62 7 az nz kz (cancelF F x).2.1 G ∧ FarmP p (cancelF F x).1 M' ∧ Sat W w' (G :: M' :: H :: F0) := by
 obtain ⟨wb, wo, wn, wk, q, m, xs, jm, Wc, Qc, Jc, acs, dcs, jcs, rfl, hOw, hco, hAs, hDs, hQ, hM, hJs⟩ := hR
 have x0 : Sat W _ ((Tri p 85 (preP F.cfg wb wo wn wk q m) (([] : List Ref).flatMap encRef) (encStt F.st)) :: Wc :: acs.flatten :: dcs.flatten :: Qc :: Jc :: jcs.flatten :: H :: F0) := Sat.perm hS (by simp)
 have hwl := hOw.len; have hwk := hOw.le; have hcl := core_len hco; have has1 := hAs.1; have hds1 := hDs.1; rw [List.length_map] at has1 hds1; have hjl1 := hJs.l
 have hs1 := hF.st.a; have hs2 := hF.st.b; have hs3 := hF.st.c; have hs4 := hF.st.d; have hs5 := hF.st.e; have hs6 := hF.st.f; have hs7 := hF.st.g; have hKK := hF.fw.k; have hn9 := hF.fw.n; have hal9 := hF.fw.al; have hdl9 := hF.fw.dl; have hjl9 := hF.fw.jl
 have hjo := hF.fw.j j (List.mem_of_getElem? hj); obtain ⟨hBW, hdl, hb1, hb2⟩ := hjo.b ha
 obtain ⟨e0, c0, l2, y0, h0, z0, i0⟩ := JobsP.get hJs (k := x) ⟨om, om⟩ hj ha
 obtain ⟨j0, k0, l0, m2, m0, n0, o0, rfl, d0, p0, f0, q0, _, r0⟩ := z0.open
 have a1 := (x0.pick 6 rfl)
 have b1 := Sat.openN (A := []) e0 h0 a1
 have c1 := b1.split3
 have hn_taj_2 := d0.len; have hl_taj_2 := d0.le; have hm_taj_2 := congrArg List.length f0; rw [List.length_map] at hm_taj_2
 refine callsA 59 Tryz.func23 rfl ?_
 refine sR <| pu2 <| nT <| seqE <| sR <| pu1 ?_
 have d1 := (c1.pick 4 rfl)
 refine cX Tryz.call50 (p_empty ⟨om, om⟩ d1) ?_
 rintro _ _ ⟨rfl, a0⟩
 refine pu4 <| gY ?_
 refine sLp a0 (ptr_up 0 rfl tri_pre) 10 (.map (some m)) (Tryz.isAgg80 _) ?_
 refine pu1 <| gY ?_
 refine stepY (Pt c0 0) rfl rfl (Y_iget (k := x) a0 9 hM (by rw [i0]; rfl) Tryz.runUnderlying80 Tryz.runUnderlying3 Tryz.zeroValue111) ?_
 refine pu2 <| nT <| cFf <| kT <| sR <| pu3 ?_
 refine sLp a0 (ptr_up 0 rfl tri_pre) 10 (.map (some m)) (Tryz.isAgg80 _) ?_
 refine pu1 ?_
 refine stepY (Pt c0 0) rfl rfl (Y_iget (k := x) a0 9 hM (by rw [i0]; rfl) Tryz.runUnderlying80 Tryz.runUnderlying3 Tryz.zeroValue111) ?_
 refine pu1 <| nT <| seqE <| sR <| pu1 ?_
 have e1 := (a0.picks [3, 3, 3])
 have f1 := e1.merge3
 refine cX Tryz.call71 (p_running (s := j) (JobP.mk (s := j) d0 p0 f0 q0 ha r0 rfl) hBW hdl f1) ?_
 rintro _ _ ⟨rfl, g1⟩
 have h1 := g1.split3
 refine pu1 <| nT ?_
 have i1 : j.running = true := hrun
 refine cF _ (congrArg Bool.not i1) ?_
 refine kT <| sR <| pu3 ?_
 refine tW h1 0 3 (.bool true) Tryz.sizeOf4 ?_
 intro _ s0
 refine nT <| seqE <| sR <| pu3 ?_
 refine sLp s0 (ptr_up 3 rfl tri_pre) 8 (.slice (some ⟨wb, wo, none⟩) wn wk) (Tryz.isAgg81 _) ?_
 refine pu2 <| nT <| blockE ?_
 have j1 := (s0.picks [4, 3, 3, 3])
 have k1 := j1.merge3
 have l1 := Sat.shutN (d := ([(c0, .cells #[.slice j0 k0 l0, I j.band, Pt m0 0, .bool true] 118 (0, 0))] ++ (n0 ++ o0))) (A := []) e0 h0 k1
 have m1 := JobsP.set hJs (k := x) (j2 := { j with running := false }) ⟨om, om⟩ y0 (JobP.mk (s := { j with running := false }) (cn := true) d0 p0 f0 q0 ha (fun h => by cases h) (by unfold canc; rw [decide_eq_true (r0 hrun)]; rfl)) ha
 refine loopA (γ := Nat × (List DS) × (List Chunk)) (fun ⟨i, dqi, dci⟩ => [(0, Pt p 0), (1, I x), (35, I ((wn : Nat) : Int)), (36, I ((i : Nat) : Int))]) (fun ⟨i, dqi, dci⟩ w => Sat W w ((jcs.set e0 ([(c0, .cells #[.slice j0 k0 l0, I j.band, Pt m0 0, .bool true] 118 (0, 0))] ++ (n0 ++ o0))).flatten :: (Tri p 85 (preP F.cfg wb wo wn wk q m) (([] : List Ref).flatMap encRef) (encStt F.st)) :: Wc :: acs.flatten :: dci.flatten :: Qc :: Jc :: H :: F0) ∧ i ≤ wn ∧ (Obs DqP (xs.map (·.d)) dqi dci) ∧ (dqi = (F.dq.take i).map (rmD x) ++ F.dq.drop i)) (fun ⟨i, dqi, dci⟩ => wn - i) (0, F.dq, dcs) ⟨l1, om, hDs, by simp⟩ ?_
 rintro ⟨i, dqi, dci⟩ ρ _ ⟨b0, hi, hDi, hde⟩
 have hds9 := hDi.1; rw [List.length_map] at hds9
 refine sR <| pu1 <| nT <| seqE ?_
 refine cD (((i : Nat) : Int) < ((wn : Nat) : Int)) (fun n1 => ?_) (fun n1 => ?_)
 ·refine kT <| seqE <| blockE <| sR <| pu2 <| nT <| regionE <| pu3 ?_
  refine sLp b0 (ptr_up 1 rfl tri_pre) 8 (.slice (some ⟨wb, wo, none⟩) wn wk) (Tryz.isAgg81 _) ?_
  refine pu1 ?_
  refine sIdxO hOw ((i : Nat) : Int) i Tryz.runUnderlying81 Tryz.sizeOf93 ?_
  intro o1 _ _ g0 p1 q1
  obtain ⟨rfl, rfl⟩ := some_addr q1
  obtain ⟨t2, u2, v2, w2, x2, y2, z2⟩ := core_at hco g0
  refine pu1 ?_
  refine sLp b0 (p1.up 2 rfl) 6 (.pointer (some ⟨o1.d, 0, none⟩)) (Tryz.isAgg89 _) ?_
  refine pu1 ?_
  obtain ⟨t0, a3, r1, u0, s1⟩ := Obs.get hDi (map_at' g0)
  have t1 := (b0.pick 4 rfl)
  have u1 := Sat.openN (A := []) i u0 t1
  refine cX Tryz.call72 (pd_remove s1 x (Sat.flat1 u1)) ?_
  rintro _ _ ⟨v0, _, rfl, v1, w1⟩
  have x1 := Sat.unflat1 w1
  have y1 := (x1.picks [1, 1])
  have z1 := Sat.shutN (d := v0) (A := []) i u0 y1
  have a2 := Obs.set hDi (map_at' g0) v1
  refine nB <| regionE ?_
  refine sAdd ((i : Nat) : Int) 1 ?_
  refine pu1 <| nT ?_
  have b2 := (z1.picks [4, 4, 4, 4])
  exact ⟨(i + 1, (dqi.set i ({ t0 with l := without x t0.l } : DS)), (dci.set i v0)), od, alA, b2, om, a2, (rm_step hde r1)⟩
 refine exitE <| xB <| thenK_n <| sR <| pu3 ?_
 refine sLp b0 (ptr_up 1 rfl tri_pre) 9 (Pt q 0) (Tryz.isAgg77 _) ?_
 refine pu1 ?_
 have c2 := (b0.pick 5 rfl)
 refine cX Tryz.call73 (pq_remove hQ x (Sat.flat1 c2)) ?_
 rintro _ _ ⟨_, _, rfl, d2, e2⟩
 have f2 := Sat.unflat1 e2
 refine nT <| sR <| pu2 ?_
 refine sBS f2 #[I 2, I 0, I 0, I x, I 0, I 0, I 0] Tryz.runUnderlying38 Tryz.sizeOf62 Tryz.zeroValue62 ?_
 intro w0 _ g2
 refine pu2 <| nT <| retE <| retT [.slice (At w0 0) 1 1, I 0] ?_
 have h2 := OwnT.blk (enc := encEvt) (sz := 7) (b := w0) (c := #[I 2, I 0, I 0, I x, I 0, I 0, I 0]) (E := 62) (xs := [(⟨2, 0, 0, x, 0, 0, 0⟩ : Evt)]) fR 1 rfl rfl rfl om
 have i2 := (g2.picks [2, 7, 3, 7, 7, 7, 7])
 have k2 := ((i2.merge7).pick 1 rfl)
 have he : cancelF F x = ((⟨F.cfg, F.ws, F.ar, dqi, ({ F.q with bs := F.q.bs.map (without x) } : QS), (F.jobs.set x.toNat ({ j with running := false })), F.st⟩ : FS), [(⟨2, 0, 0, x, 0, 0, 0⟩ : Evt)], 0) := (cancel_at hx hj ha hrun).trans (by rw [hde, List.take_of_length_le om, List.drop_of_length_le om, List.append_nil])
 rw [he]; exact ⟨_, _, _, _, _, rfl, h2, ⟨_, _, _, _, _, _, _, _, _, _, _, _, _, _, rfl, hOw, hco, hAs, hDi, d2, hM, m1⟩, k2⟩
theorem pf_cancel {W w : World} {p : Nat} {F : FS} {M H : Chunk} {F0 : List Chunk} (hR : FarmP p F M) {K : Int} (hF : FI F K) (x : Int) (hS : Sat W w (M :: H :: F0)) :
  Calls Tryz.prog 23 #[Pt p 0, I x] w fun e w' => ∃ (az : Option Addr) (nz kz : Nat) (G M' : Chunk), e = .returned (.tuple #[.slice az nz kz, I (cancelF F x).2.2]) ∧ OwnT encEvt 62 7 az nz kz (cancelF F x).2.1 G ∧ FarmP p (cancelF F x).1 M' ∧ Sat W w' (G :: M' :: H :: F0) := by
 by_cases hk : 0 ≤ x ∧ x < 64 ∧ (F.jobs.getD x.toNat default).added = true
 ·obtain ⟨h1, h2, h3⟩ := hk
  obtain ⟨j, hj⟩ := at_some hF.fw.jl (k := x.toNat) om
  rw [getD_some hj] at h3
  by_cases hr : j.running = true
  ·exact pf_cancel_2 hR hF x ⟨h1, h2⟩ hj h3 hr hS
  ·exact pf_cancel_1 hR hF x ⟨h1, h2⟩ hj h3 hr hS
 ·exact pf_cancel_0 hR hF x hk hS
end Go.Proofs.YtegmennaekipaaaGreat
