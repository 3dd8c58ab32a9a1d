import Derived.Test.YtegmennaekipaaaGreatP2BNew
namespace Go.Proofs.YtegmennaekipaaaGreat
open Go Go.E
set_option linter.unusedVariables false
set_option linter.unusedSimpArgs false
set_option linter.unnecessarySimpa false
set_option maxRecDepth 100000
set_option maxHeartbeats 2000000
variable {W w : World} {H : Chunk} {F : List Chunk}
-- squeezed
theorem done_same {s : List Int} {k : Nat} {y : Int} (h : s.getD k 0 ≠ 4) (hy : y ≠ 4) : ((s.set k y).filter fun x => decide (x = 4)).length = (s.filter fun x => decide (x = 4)).length := by
  by_cases hk : k < s.length
  · have h1 := count_set (s := s) (k := k) (y := y) hk
    rw [if_neg h, if_neg hy] at h1; omega
  · rw [List.set_eq_of_length_le (by omega)]
theorem start_done {B : BS} {i : Int} : doneOf (startB B i).1 = doneOf B := by
  unfold startB
  split
  · rename_i hi
    split
    · rename_i h2
      unfold doneOf; dsimp only
      rw [done_same (by rw [stAt_nat _ hi.1] at h2; omega) (by decide)]
    · rfl
  · rfl
theorem ret_done {B : BS} {i a : Int} : doneOf (retB B i a) = doneOf B := by
  unfold retB
  split
  · rename_i h
    have hz := heldC_zero h
    unfold doneOf; dsimp only
    rw [done_same (by have := hz.2.1; rw [stAt_nat _ hz.1.1] at this; omega) (by decide)]
  · rfl
def seqL (n : Nat) (c : Int) : List Int := (List.range n).map fun i => choiceI ((n : Nat) : Int) c ((i : Nat) : Int)
theorem seq_len {n : Nat} {c : Int} : (seqL n c).length = n := by unfold seqL; simp
theorem seq_at {n i : Nat} {c x : Int} (h : (seqL n c)[i]? = some x) : x = choiceI ((n : Nat) : Int) c ((i : Nat) : Int) := by
  unfold seqL at h
  rw [List.getElem?_map] at h
  cases hr : (List.range n)[i]? with
  | none => rw [hr] at h; cases h
  | some y =>
    rw [hr] at h
    have hy : y = i := by
      obtain ⟨h1, h2⟩ := List.getElem?_eq_some_iff.1 hr
      rw [List.getElem_range] at h2; exact h2.symm
    subst hy; exact (Option.some.inj h).symm
theorem seq_step {n i : Nat} {c v : Int} {zs : List Int} (hz : zs = (seqL n c).take i ++ List.replicate (n - i) 0) (hi : i < n) (hv : v = choiceI ((n : Nat) : Int) c ((i : Nat) : Int)) : zs.set i v = (seqL n c).take (i + 1) ++ List.replicate (n - (i + 1)) 0 := by
 have hl : ((seqL n c).take i).length = i := by rw [List.length_take, seq_len]; omega
 have hx : (seqL n c)[i]? = some v := by
  unfold seqL; rw [List.getElem?_map, List.getElem?_eq_getElem (by simpa using hi), List.getElem_range, hv]; rfl
 rw [hz, List.set_append_right _ _ om, hl, Nat.sub_self, take_succ_at hx, List.append_assoc]
 obtain ⟨m, hm⟩ : ∃ m, n - i = m + 1 := ⟨n - i - 1, om⟩
 rw [hm, show n - (i + 1) = m by omega, List.replicate_succ, List.set_cons_zero]; rfl
theorem busy_at {F : FS} {x : Int} {v : Wkr} {j : JS} (hv : F.ws[x.toNat]? = some v) (hh : Holds v) (hj : F.jobs[v.heldJob.toNat]? = some j) : busyW F (wAt F x) = j.running := by
  unfold busyW wAt jobAt; rw [getD_some hv, getD_some hj, decide_eq_true (show v.phase = 1 ∨ v.phase = 2 ∨ v.phase = 3 from hh), Bool.true_and]
theorem busy_not {F : FS} {x : Int} {v : Wkr} (hv : F.ws[x.toNat]? = some v) (hh : ¬ Holds v) : busyW F (wAt F x) = false := by
  unfold busyW wAt; rw [getD_some hv, decide_eq_false (show ¬ (v.phase = 1 ∨ v.phase = 2 ∨ v.phase = 3) from hh), Bool.false_and]
theorem pf_start {p : Nat} {F : FS} {M : Chunk} {F0 : List Chunk} (hR : FarmP p F M) {j : JS} {K : Int} (x : Int) (r : Ref) (hx : 0 ≤ x ∧ x < F.ws.length) (hr : 0 ≤ r.job ∧ r.job < 64) (hj : F.jobs[r.job.toNat]? = some j) (ha : j.added = true) (hBW : BWf j.B K) (hst : 0 ≤ F.st.starts ∧ F.st.starts < 4611686018427387904) (hS : Sat W w (M :: H :: F0)) :
  Calls Tryz.prog 128 #[Pt p 0, I x, .agg #[I r.job, I r.task]] w fun e w' => ∃ M' : Chunk, e = .returned (.tuple #[]) ∧ FarmP p (takeF F x r) M' ∧ Sat W w' (M' :: H :: F0) := by
 obtain ⟨wb, wo, wn, wk, q, m, xs, jm, Wc, Qc, Jc, acs, dcs, jcs, rfl, hOw, hco, hAs, hDs, hQ, hM, hJs⟩ := hR
 have v0 : Sat W _ ((Tri p 85 (preP F.cfg wb wo wn wk q m) (([] : List Ref).flatMap encRef) (encStt F.st)) :: Wc :: acs.flatten :: dcs.flatten :: Qc :: Jc :: jcs.flatten :: H :: F0) := Sat.perm hS (by simp)
 have hwl := hOw.len; have hwk := hOw.le; have hcl := core_len hco; have has1 := hAs.1; have hds1 := hDs.1; rw [List.length_map] at has1 hds1; have hjl1 := hJs.l
 obtain ⟨j0, e0, x1, w0, k0, x0, y0⟩ := JobsP.get hJs (k := r.job) ⟨om, om⟩ hj ha
 obtain ⟨z0, a1, b1, y1, f0, c1, z1, rfl, g0, d1, l0, e1, _, f1⟩ := x0.open
 have g1 := (v0.pick 6 rfl)
 have h1 := Sat.openN (A := []) j0 k0 g1
 have i1 := h1.split3
 have hn_taj_2 := g0.len; have hl_taj_2 := g0.le; have hm_taj_2 := congrArg List.length l0; rw [List.length_map] at hm_taj_2
 refine callsA 54 Tryz.func128 rfl ?_
 refine sR ?_
 refine sBox i1 (.agg #[I r.job, I r.task]) #[I r.job, I r.task] ?_
 intro m0 _ c0
 refine nT <| seqE ?_
 refine drawE [6, 12] [(3, ⟨p, 10, none⟩, .map (some m)), (5, ⟨m0, 0, none⟩, I r.job), (11, ⟨m0, 1, none⟩, I r.task), (9, ⟨e0, 2, none⟩, Pt f0 0)] [(true, [0, 1, 2, 4, 10]), (true, [3]), (true, [5]), (true, [11]), (false, [6]), (true, [7, 8]), (true, [9]), (false, [12]), (true, [13]), (true, [14]), (true, [15]), (true, [16, 17])] rfl kr ⟨.inr (cell_up c0 5 rfl (k := 10) tri_pre rfl), .inr (c0.cell 0 rfl rfl), .inr (c0.cell 0 rfl rfl), .inr (c0.cell 1 rfl rfl), trivial⟩ ?_
 have d0 := c0.drew
 refine wU [0, 1, 2, 4, 10] ?_
 refine wLd (.map (some m)) 0 Tryz.isAgg80 ?_
 refine wLd (I r.job) 1 Tryz.isAgg3 ?_
 refine wLd (I r.task) 2 Tryz.isAgg3 ?_
 refine wO rfl ?_
 refine stepY (Pt e0 0) rfl rfl (Y_iget (k := r.job) d0 10 hM (by rw [y0]; rfl) Tryz.runUnderlying80 Tryz.runUnderlying3 Tryz.zeroValue111) ?_
 refine nilO ⟨⟨dI, dI, .inr (d0.cell 0 rfl rfl), .inr (d0.cell 1 rfl rfl), trivial⟩, ?_⟩
 refine wU [7, 8] ?_
 refine wLd (Pt f0 0) 3 Tryz.isAgg112 ?_
 refine wO rfl ?_
 have j1 := (d0.pick 3 rfl)
 refine cX Tryz.call157 (b_start e1 hBW r.task (Sat.flat1 j1)) ?_
 rintro _ _ ⟨k1, rfl, l1, m1⟩
 have n0 := Sat.unflat1 m1
 refine nilO ⟨dA, ?_⟩
 refine wU [13] <| wU [14] <| wU [15] <| wU [16, 17] ?_
 refine wN ?_
 refine thenK_n <| sR <| pu3 ?_
 refine sLp n0 (ptr_up 5 rfl tri_pre) 8 (.slice (some ⟨wb, wo, none⟩) wn wk) (Tryz.isAgg81 _) ?_
 refine pu1 ?_
 refine sIdxO hOw x (x).toNat Tryz.runUnderlying81 Tryz.sizeOf93 ?_
 intro a0 _ _ b0 _ n1
 obtain ⟨rfl, rfl⟩ := some_addr n1
 obtain ⟨f2, g2, h2, i2, k2, l2, m2⟩ := core_at hco b0
 refine pu1 <| nT <| sR <| pu3 ?_
 refine sStF n0 hOw rfl 6 (x).toNat 0 a0 (⟨1, a0.heldJob, a0.heldTask, a0.attempt, a0.row, a0.a, a0.d⟩ : PW) b0 (I 1) [I 1] Tryz.sizeOf3 ?_
 intro _ _ o0 p0
 refine nT <| sR <| pu1 ?_
 refine lA p0 1 0 2 (Tryz.isAgg60 _) (Tryz.sizeOf60 _) ?_
 refine pu2 ?_
 have q0 := set_at (y := (⟨1, a0.heldJob, a0.heldTask, a0.attempt, a0.row, a0.a, a0.d⟩ : PW)) b0
 have p2 := OwnT.ptr o0 rfl q0
 refine sStF p0 o0 rfl 6 (x).toNat 1 (⟨1, a0.heldJob, a0.heldTask, a0.attempt, a0.row, a0.a, a0.d⟩ : PW) (⟨1, r.job, r.task, a0.attempt, a0.row, a0.a, a0.d⟩ : PW) q0 (.agg #[I r.job, I r.task]) [I r.job, I r.task] Tryz.sizeOf60 ?_
 intro _ _ h0 o1
 rw [List.set_set] at h0
 refine nT <| sR <| pu4 ?_
 have r0 := set_at (y := (⟨1, r.job, r.task, a0.attempt, a0.row, a0.a, a0.d⟩ : PW)) b0
 have s2 := OwnT.ptr h0 rfl r0
 refine sStF o1 h0 rfl 6 (x).toNat 3 (⟨1, r.job, r.task, a0.attempt, a0.row, a0.a, a0.d⟩ : PW) (⟨1, r.job, r.task, (startB j.B r.task).2.1, a0.row, a0.a, a0.d⟩ : PW) r0 (I ((startB j.B r.task).2.1)) [I ((startB j.B r.task).2.1)] Tryz.sizeOf3 ?_
 intro _ _ i0 p1
 rw [List.set_set] at i0
 refine nT <| sR <| pu3 ?_
 have s0 := set_at (y := (⟨1, r.job, r.task, (startB j.B r.task).2.1, a0.row, a0.a, a0.d⟩ : PW)) b0
 have v2 := OwnT.ptr i0 rfl s0
 refine sStF p1 i0 rfl 6 (x).toNat 4 (⟨1, r.job, r.task, (startB j.B r.task).2.1, a0.row, a0.a, a0.d⟩ : PW) (⟨1, r.job, r.task, (startB j.B r.task).2.1, 0, a0.a, a0.d⟩ : PW) s0 (I 0) [I 0] Tryz.sizeOf3 ?_
 intro _ _ t0 u0
 rw [List.set_set] at t0
 refine nT <| regionE <| pu4 ?_
 refine sLp u0 (ptr_up 5 rfl (tri_post (k := 11) (tri_len (sz := 2) (m := 11) fR (rfl : ([] : List Ref).length = 0)))) 0 (I F.st.starts) (Tryz.isAgg3 _) ?_
 refine sAdd F.st.starts 1 ?_
 refine pu3 ?_
 refine sTpost u0 5 11 0 rfl (I (F.st.starts + 1)) [I (F.st.starts + 1)] [I (F.st.starts + 1), I F.st.commits, I F.st.drops, I F.st.crashes, I F.st.steals, I F.st.helps, I F.st.spills, I F.st.queued, I F.st.held, I F.st.cells] (tri_len (sz := 2) (m := 11) fR (rfl : ([] : List Ref).length = 0)) Tryz.sizeOf3 ?_
 intro _ q1
 refine nilO ?_
 refine ret0n rfl ?_
 have r1 := (q1.picks [4, 1, 4, 4])
 have s1 := r1.merge3
 have t1 := Sat.shutN (d := ([(e0, .cells #[.slice z0 a1 b1, I j.band, Pt f0 0, .bool (canc j)] 118 (0, 0))] ++ (c1 ++ k1))) (A := []) j0 k0 s1
 have u1 := JobsP.set hJs (k := r.job) (j2 := { j with B := (startB j.B r.task).1 }) ⟨om, om⟩ w0 (JobP.mk (s := { j with B := (startB j.B r.task).1 }) (cn := (canc j)) g0 d1 l0 l1 ha (fun h => by rw [show ({ j with B := (startB j.B r.task).1 } : JS).B = (startB j.B r.task).1 from rfl, start_done]; exact f1 h) (by unfold canc; dsimp only; rw [start_done])) ha
 have v1 := ((t1.picks [7, 7, 7, 7, 7, 7]).dropAt 7 rfl)
 have w1 := (v1.merge7)
 have he : takeF F x r = (⟨F.cfg, (F.ws.set x.toNat ⟨1, r.job, r.task, (startB j.B r.task).2.1, 0, 0, (F.ar.getD x.toNat default).high⟩), F.ar, F.dq, F.q, (F.jobs.set r.job.toNat ({ j with B := (startB j.B r.task).1 })), (⟨(F.st.starts + 1), F.st.commits, F.st.drops, F.st.crashes, F.st.steals, F.st.helps, F.st.spills, F.st.queued, F.st.held, F.st.cells⟩ : Stt)⟩ : FS) := by unfold takeF jobAt; rw [getD_some hj]
 exact ⟨_, rfl, by rw [he]; exact ⟨_, _, _, _, _, _, _, _, _, _, _, _, _, _, rfl, t0, (core_set hco rfl), (by rw [map_setA (x' := (⟨1, r.job, r.task, (startB j.B r.task).2.1, 0, a0.a, a0.d⟩ : PW)) b0 rfl]; exact hAs), (by rw [map_setD (x' := (⟨1, r.job, r.task, (startB j.B r.task).2.1, 0, a0.a, a0.d⟩ : PW)) b0 rfl]; exact hDs), hQ, hM, u1⟩, w1⟩
theorem pf_drop {p : Nat} {F : FS} {M : Chunk} {F0 : List Chunk} (hR : FarmP p F M) {v0 : Wkr} (x : Int) (hx : 0 ≤ x ∧ x < F.ws.length) (hv0 : F.ws[x.toNat]? = some v0) (hst : 0 ≤ F.st.drops ∧ F.st.drops < 4611686018427387904) (hS : Sat W w (M :: H :: F0)) :
  Calls Tryz.prog 77 #[Pt p 0, I x] w fun e w' => ∃ M' : Chunk, e = .returned (.agg (encEvt ⟨9, x, 0, 0, v0.heldJob, v0.heldTask, 0⟩).toArray) ∧ FarmP p (dropF F x) M' ∧ Sat W w' (M' :: H :: F0) := by
 obtain ⟨wb, wo, wn, wk, q, m, xs, jm, Wc, Qc, Jc, acs, dcs, jcs, rfl, hOw, hco, hAs, hDs, hQ, hM, hJs⟩ := hR
 have i0 : Sat W _ ((Tri p 85 (preP F.cfg wb wo wn wk q m) (([] : List Ref).flatMap encRef) (encStt F.st)) :: Wc :: acs.flatten :: dcs.flatten :: Qc :: Jc :: jcs.flatten :: H :: F0) := Sat.perm hS (by simp)
 have hwl := hOw.len; have hwk := hOw.le; have hcl := core_len hco; have has1 := hAs.1; have hds1 := hDs.1; rw [List.length_map] at has1 hds1; have hjl1 := hJs.l
 refine callsA 31 Tryz.func77 rfl ?_
 refine sR ?_
 refine sAlloc i0 Tryz.zeroValue62 ?_
 intro _ _ c0
 refine nT <| sR <| pu3 ?_
 refine sLp c0 (ptr_up 1 rfl tri_pre) 8 (.slice (some ⟨wb, wo, none⟩) wn wk) (Tryz.isAgg81 _) ?_
 refine pu1 ?_
 refine sIdxO hOw x (x).toNat Tryz.runUnderlying81 Tryz.sizeOf93 ?_
 intro a0 _ _ b0 j0 k0
 obtain ⟨rfl, rfl⟩ := some_addr k0
 obtain ⟨l0, m0, n0, d0, e0, o0, p0⟩ := core_at hco b0
 have hvv_v_11 : l0 = v0 := Option.some.inj (m0.symm.trans hv0); rw [hvv_v_11] at n0 d0 e0 o0 p0
 refine pu1 <| nT <| sR <| pu4 ?_
 refine sLpA c0 (j0.up 2 rfl) 1 [I a0.heldJob, I a0.heldTask] (Tryz.isAgg60 _) (Tryz.sizeOf60 _) ?_
 refine pu1 ?_
 refine sAlloc c0 Tryz.zeroValue62 ?_
 intro _ _ q0
 refine sT q0 0 0 (.agg #[I 9, I x, I 0, I 0, I a0.heldJob, I a0.heldTask, I 0]) [I 9, I x, I 0, I 0, I a0.heldJob, I a0.heldTask, I 0] #[I 9, I x, I 0, I 0, I a0.heldJob, I a0.heldTask, I 0] Tryz.sizeOf62 ?_
 intro _ f0
 refine nT <| sR <| pu4 ?_
 refine sLp f0 (ptr_up 2 rfl (tri_post (k := 11) (tri_len (sz := 2) (m := 11) fR (rfl : ([] : List Ref).length = 0)))) 2 (I F.st.drops) (Tryz.isAgg3 _) ?_
 refine sAdd F.st.drops 1 ?_
 refine pu3 ?_
 refine sTpost f0 2 11 2 rfl (I (F.st.drops + 1)) [I (F.st.drops + 1)] [I F.st.starts, I F.st.commits, I (F.st.drops + 1), I F.st.crashes, I F.st.steals, I F.st.helps, I F.st.spills, I F.st.queued, I F.st.held, I F.st.cells] (tri_len (sz := 2) (m := 11) fR (rfl : ([] : List Ref).length = 0)) Tryz.sizeOf3 ?_
 intro _ r0
 refine nT <| sR <| pu1 ?_
 have s0 := (r0.picks [4, 4])
 refine cX Tryz.call65 (p_rest hOw hAs b0 0 s0) ?_
 rintro _ _ ⟨_, _, rfl, t0, u0, g0⟩
 refine nT <| sR ?_
 refine lA g0 2 0 7 (Tryz.isAgg62 _) (Tryz.sizeOf62 _) ?_
 refine sT g0 3 0 (.agg #[I 9, I x, I 0, I 0, I a0.heldJob, I a0.heldTask, I 0]) [I 9, I x, I 0, I 0, I a0.heldJob, I a0.heldTask, I 0] #[I 9, I x, I 0, I 0, I a0.heldJob, I a0.heldTask, I 0] Tryz.sizeOf62 ?_
 intro _ h0
 refine nT <| retE <| retN (vs := [.agg #[I 9, I x, I 0, I 0, I a0.heldJob, I a0.heldTask, I 0]]) rfl (.cons (.cell _ _ _ _ kr (lvA h0 3 0 [I 9, I x, I 0, I 0, I a0.heldJob, I a0.heldTask, I 0] (Tryz.isAgg62 _) (Tryz.sizeOf62 _) rfl rfl rfl)) .nil) ?_
 have w0 := ((h0.pick 4 rfl).drops [3, 3])
 have x0 := (w0.merge7)
 have he : dropF F x = (⟨F.cfg, (F.ws.set x.toNat ⟨0, 0, 0, 0, 0, 0, (F.ar.getD x.toNat default).high⟩), (F.ar.set (x).toNat (resetA (F.ar.getD (x).toNat default))), F.dq, F.q, F.jobs, (⟨F.st.starts, F.st.commits, (F.st.drops + 1), F.st.crashes, F.st.steals, F.st.helps, F.st.spills, F.st.queued, F.st.held, F.st.cells⟩ : Stt)⟩ : FS) := by unfold dropF clearF arAt; rfl
 exact ⟨_, by rw [d0, e0]; rfl, by rw [he]; exact ⟨_, _, _, _, _, _, _, _, _, _, _, _, _, _, rfl, t0, (core_set hco rfl), (by rw [map_setA (x' := (⟨0, 0, 0, 0, 0, a0.a, a0.d⟩ : PW)) b0 rfl]; exact u0), (by rw [map_setD (x' := (⟨0, 0, 0, 0, 0, a0.a, a0.d⟩ : PW)) b0 rfl]; exact hDs), hQ, hM, hJs⟩, x0⟩
theorem pf_seq {p : Nat} {F : FS} {M : Chunk} {F0 : List Chunk} (hR : FarmP p F M) (c : Int) (hn : 1 ≤ F.ws.length ∧ F.ws.length ≤ 64) (hS : Sat W w (M :: H :: F0)) :
  Calls Tryz.prog 80 #[Pt p 0, I c] w fun e w' => ∃ (az : Option Addr) (nz kz : Nat) (Z : Chunk), e = .returned (.slice az nz kz) ∧ OwnT encI 3 1 az nz kz (seqL F.ws.length c) Z ∧ Sat W w' (Z :: M :: H :: F0) := by
 obtain ⟨wb, wo, wn, wk, q, m, xs, jm, Wc, Qc, Jc, acs, dcs, jcs, rfl, hOw, hco, hAs, hDs, hQ, hM, hJs⟩ := hR
 have a0 : Sat W _ ((Tri p 85 (preP F.cfg wb wo wn wk q m) (([] : List Ref).flatMap encRef) (encStt F.st)) :: Wc :: acs.flatten :: dcs.flatten :: Qc :: Jc :: jcs.flatten :: H :: F0) := Sat.perm hS (by simp)
 have hwl := hOw.len; have hwk := hOw.le; have hcl := core_len hco; have has1 := hAs.1; have hds1 := hDs.1; rw [List.length_map] at has1 hds1; have hjl1 := hJs.l
 have hq1 : -((wn : Nat) : Int) < c.tmod wn := Int.lt_tmod_of_pos _ om; have hq2 : c.tmod wn < ((wn : Nat) : Int) := Int.tmod_lt_of_pos _ om
 refine callsA 39 Tryz.func80 rfl ?_
 refine sR <| pu1 <| nT <| sR <| pu3 ?_
 refine sLp a0 (ptr_up 0 rfl tri_pre) 8 (.slice (some ⟨wb, wo, none⟩) wn wk) (Tryz.isAgg81 _) ?_
 refine pu2 <| nT <| sR <| pu2 ?_
 refine sRem c ((wn : Nat) : Int) ?_
 refine pu1 <| nT <| seqE <| sR <| pu2 <| nT ?_
 refine cD ((c.tmod ((wn : Nat) : Int)) < 0) (fun d0 => ?_) (fun d0 => ?_)
 rotate_left
 ·refine kT <| sR <| pu1 ?_
  refine sMake (kl := .i64) (kc := .i64) (enc := encI) (sz := 1) (nb := 8) a0 0 wn ((wn : Nat) : Int) (rfl : ((wn : Nat) : Int) = ((wn : Nat) : Int)) Tryz.underlying22 (i := Tryz.t3) kr fR ?_
  intro e0 f0 _ g0 h0
  refine pu1 <| nT <| seqE <| sR <| pu3 <| nT <| blockE ?_
  refine loopA (γ := Nat × (List Int) × (Option Addr) × Nat × Nat × Chunk) (fun ⟨i, zs, azs, nzs, kzs, czs⟩ => [(5, I ((wn : Nat) : Int)), (6, I (c.tmod ((wn : Nat) : Int))), (25, I ((wn : Nat) : Int)), (26, I ((i : Nat) : Int)), (7, .slice azs nzs kzs)]) (fun ⟨i, zs, azs, nzs, kzs, czs⟩ w => Sat W w (czs :: (Tri p 85 (preP F.cfg wb wo wn wk q m) (([] : List Ref).flatMap encRef) (encStt F.st)) :: Wc :: acs.flatten :: dcs.flatten :: Qc :: Jc :: jcs.flatten :: H :: F0) ∧ i ≤ wn ∧ (zs = (seqL wn c).take i ++ List.replicate (wn - i) 0) ∧ (zs.length = wn) ∧ OwnT encI 3 1 azs nzs kzs zs czs) (fun ⟨i, zs, azs, nzs, kzs, czs⟩ => wn - i) (0, (List.replicate wn 0), (At e0 0), wn, wn, f0) ⟨h0, om, (by simp), (by simp), g0⟩ ?_
  rintro ⟨i, zs, azs, nzs, kzs, czs⟩ ρ _ ⟨b0, hi, hz, hzl, hOzs⟩
  have hn_zs := hOzs.len; have hl_zs := hOzs.le
  refine sR <| pu1 <| nT <| seqE ?_
  refine cD (((i : Nat) : Int) < ((wn : Nat) : Int)) (fun i0 => ?_) (fun i0 => ?_)
  rotate_left
  ·refine exitE <| xB <| thenK_n <| sR <| pu2 <| nT <| retE <| retT [.slice azs nzs kzs] ?_
   have hzf : zs = seqL F.ws.length c := by rw [hz, List.take_of_length_le (by rw [seq_len]; omega), show wn - i = 0 by omega, show F.ws.length = wn by omega]; simp
   have hOz := hOzs; rw [hzf] at hOz
   have j0 := (b0.picks [7, 7, 7, 7, 7, 7, 7])
   have k0 := ((j0.merge7).pick 1 rfl)
   exact ⟨_, _, _, _, rfl, hOz, k0⟩
  refine kT <| seqE <| blockE <| sR <| pu2 <| nT <| regionE <| pu4 ?_
  refine sAdd (c.tmod ((wn : Nat) : Int)) ((i : Nat) : Int) ?_
  refine pu1 ?_
  refine sRem ((c.tmod ((wn : Nat) : Int)) + ((i : Nat) : Int)) ((wn : Nat) : Int) ?_
  refine sIdxO hOzs ((i : Nat) : Int) i Tryz.runUnderlying22 Tryz.sizeOf3 ?_
  intro l0 _ _ m0 _ n0
  refine sStF b0 hOzs n0 0 i 0 l0 (((c.tmod ((wn : Nat) : Int)) + ((i : Nat) : Int)).tmod ((wn : Nat) : Int)) m0 (I (((c.tmod ((wn : Nat) : Int)) + ((i : Nat) : Int)).tmod ((wn : Nat) : Int))) [I (((c.tmod ((wn : Nat) : Int)) + ((i : Nat) : Int)).tmod ((wn : Nat) : Int))] Tryz.sizeOf3 ?_
  intro _ o0 p0 q0
  refine nB <| regionE ?_
  refine sAdd ((i : Nat) : Int) 1 ?_
  refine pu1 <| nT ?_
  exact ⟨(i + 1, (zs.set i (((c.tmod ((wn : Nat) : Int)) + ((i : Nat) : Int)).tmod ((wn : Nat) : Int))), azs, nzs, kzs, o0), od, alA, q0, om, (seq_step hz om (by unfold choiceI; first | rw [if_pos om] | rw [if_neg om])), (by rw [List.length_set]; exact hzl), p0⟩
 refine regionE <| pu2 ?_
 refine sAdd (c.tmod ((wn : Nat) : Int)) ((wn : Nat) : Int) ?_
 refine pu1 <| nT <| sR <| pu1 ?_
 refine sMake (kl := .i64) (kc := .i64) (enc := encI) (sz := 1) (nb := 8) a0 0 wn ((wn : Nat) : Int) (rfl : ((wn : Nat) : Int) = ((wn : Nat) : Int)) Tryz.underlying22 (i := Tryz.t3) kr fR ?_
 intro r0 s0 _ t0 u0
 refine pu1 <| nT <| seqE <| sR <| pu3 <| nT <| blockE ?_
 refine loopA (γ := Nat × (List Int) × (Option Addr) × Nat × Nat × Chunk) (fun ⟨i, zs, azs, nzs, kzs, czs⟩ => [(5, I ((wn : Nat) : Int)), (6, I ((c.tmod ((wn : Nat) : Int)) + ((wn : Nat) : Int))), (25, I ((wn : Nat) : Int)), (26, I ((i : Nat) : Int)), (7, .slice azs nzs kzs)]) (fun ⟨i, zs, azs, nzs, kzs, czs⟩ w => Sat W w (czs :: (Tri p 85 (preP F.cfg wb wo wn wk q m) (([] : List Ref).flatMap encRef) (encStt F.st)) :: Wc :: acs.flatten :: dcs.flatten :: Qc :: Jc :: jcs.flatten :: H :: F0) ∧ i ≤ wn ∧ (zs = (seqL wn c).take i ++ List.replicate (wn - i) 0) ∧ (zs.length = wn) ∧ OwnT encI 3 1 azs nzs kzs zs czs) (fun ⟨i, zs, azs, nzs, kzs, czs⟩ => wn - i) (0, (List.replicate wn 0), (At r0 0), wn, wn, s0) ⟨u0, om, (by simp), (by simp), t0⟩ ?_
 rintro ⟨i, zs, azs, nzs, kzs, czs⟩ ρ _ ⟨c0, hi, hz, hzl, hOzs⟩
 have hn_zs := hOzs.len; have hl_zs := hOzs.le
 refine sR <| pu1 <| nT <| seqE ?_
 refine cD (((i : Nat) : Int) < ((wn : Nat) : Int)) (fun v0 => ?_) (fun v0 => ?_)
 rotate_left
 ·refine exitE <| xB <| thenK_n <| sR <| pu2 <| nT <| retE <| retT [.slice azs nzs kzs] ?_
  have hzf : zs = seqL F.ws.length c := by rw [hz, List.take_of_length_le (by rw [seq_len]; omega), show wn - i = 0 by omega, show F.ws.length = wn by omega]; simp
  have hOz := hOzs; rw [hzf] at hOz
  have w0 := (c0.picks [7, 7, 7, 7, 7, 7, 7])
  have x0 := ((w0.merge7).pick 1 rfl)
  exact ⟨_, _, _, _, rfl, hOz, x0⟩
 refine kT <| seqE <| blockE <| sR <| pu2 <| nT <| regionE <| pu4 ?_
 refine sAdd ((c.tmod ((wn : Nat) : Int)) + ((wn : Nat) : Int)) ((i : Nat) : Int) ?_
 refine pu1 ?_
 refine sRem (((c.tmod ((wn : Nat) : Int)) + ((wn : Nat) : Int)) + ((i : Nat) : Int)) ((wn : Nat) : Int) ?_
 refine sIdxO hOzs ((i : Nat) : Int) i Tryz.runUnderlying22 Tryz.sizeOf3 ?_
 intro y0 _ _ z0 _ a1
 refine sStF c0 hOzs a1 0 i 0 y0 ((((c.tmod ((wn : Nat) : Int)) + ((wn : Nat) : Int)) + ((i : Nat) : Int)).tmod ((wn : Nat) : Int)) z0 (I ((((c.tmod ((wn : Nat) : Int)) + ((wn : Nat) : Int)) + ((i : Nat) : Int)).tmod ((wn : Nat) : Int))) [I ((((c.tmod ((wn : Nat) : Int)) + ((wn : Nat) : Int)) + ((i : Nat) : Int)).tmod ((wn : Nat) : Int))] Tryz.sizeOf3 ?_
 intro _ b1 c1 d1
 refine nB <| regionE ?_
 refine sAdd ((i : Nat) : Int) 1 ?_
 refine pu1 <| nT ?_
 exact ⟨(i + 1, (zs.set i ((((c.tmod ((wn : Nat) : Int)) + ((wn : Nat) : Int)) + ((i : Nat) : Int)).tmod ((wn : Nat) : Int))), azs, nzs, kzs, b1), od, alA, d1, om, (seq_step hz om (by unfold choiceI; first | rw [if_pos om] | rw [if_neg om])), (by rw [List.length_set]; exact hzl), c1⟩
theorem pf_busy_h {p : Nat} {F : FS} {M : Chunk} {F0 : List Chunk} (hR : FarmP p F M) {K : Int} (hF : FI F K) {v0 : Wkr} (x : Int) (hx : 0 ≤ x ∧ x < F.ws.length) (hv0 : F.ws[x.toNat]? = some v0) (hh : Holds v0) (hS : Sat W w (M :: H :: F0)) :
  Calls Tryz.prog 62 #[Pt p 0, I x] w fun e w' => e = .returned (.bool (busyW F (wAt F x))) ∧ Sat W w' (M :: H :: F0) := by
 obtain ⟨wb, wo, wn, wk, q, m, xs, jm, Wc, Qc, Jc, acs, dcs, jcs, rfl, hOw, hco, hAs, hDs, hQ, hM, hJs⟩ := hR
 have m0 : Sat W _ ((Tri p 85 (preP F.cfg wb wo wn wk q m) (([] : List Ref).flatMap encRef) (encStt F.st)) :: Wc :: acs.flatten :: dcs.flatten :: Qc :: Jc :: jcs.flatten :: H :: F0) := Sat.perm hS (by simp)
 have hwl := hOw.len; have hwk := hOw.le; have hcl := core_len hco; have has1 := hAs.1; have hds1 := hDs.1; rw [List.length_map] at has1 hds1; have hjl1 := hJs.l
 obtain ⟨j, hj, ha, hz⟩ := hF.h.h _ _ hv0 hh; have hjo := hF.fw.j j (List.mem_of_getElem? hj); obtain ⟨hBW, hdl, hb1, hb2⟩ := hjo.b ha; have hjn := hjo.n; have hwo := hF.fw.w v0 (List.mem_of_getElem? hv0); have hk0 := hwo.h; have hr0 := hwo.r; have hlt := held_lt hBW hz; have hph : v0.phase = 1 ∨ v0.phase = 2 ∨ v0.phase = 3 := hh
 obtain ⟨h0, i0, v1, w1, e0, n0, o0⟩ := JobsP.get hJs (k := v0.heldJob) ⟨om, om⟩ hj ha
 obtain ⟨p0, q0, r0, x1, s0, t0, u0, rfl, f0, w0, j0, x0, _, y0⟩ := n0.open
 have z0 := (m0.pick 6 rfl)
 have a1 := Sat.openN (A := []) h0 e0 z0
 have b0 := a1.split3
 have hn_taj_2 := f0.len; have hl_taj_2 := f0.le; have hm_taj_2 := congrArg List.length j0; rw [List.length_map] at hm_taj_2
 refine callsA 27 Tryz.func62 rfl ?_
 refine sR <| pu1 <| nT <| sR <| pu3 ?_
 refine sLp b0 (ptr_up 4 rfl tri_pre) 8 (.slice (some ⟨wb, wo, none⟩) wn wk) (Tryz.isAgg81 _) ?_
 refine pu1 ?_
 refine sIdxO hOw x (x).toNat Tryz.runUnderlying81 Tryz.sizeOf93 ?_
 intro a0 _ _ b1 c0 c1
 obtain ⟨rfl, rfl⟩ := some_addr c1
 obtain ⟨d1, e1, f1, k0, g1, h1, i1⟩ := core_at hco b1
 have hvv_v_12 : d1 = v0 := Option.some.inj (e1.symm.trans hv0); rw [hvv_v_12] at f1 k0 g1 h1 i1
 refine pu1 <| nT <| seqE ?_
 rcases Classical.em (a0.phase ≠ 0 ∧ a0.phase ≠ 4) with g0 | g0
 rotate_left
 ·refine drawE [1, 12, 13] [] [(true, [0]), (false, [1]), (true, [2]), (true, [3, 4, 5, 7, 8, 9, 10, 6, 11]), (false, [12]), (false, [13]), (true, [14, 15])] rfl kr trivial ?_
  have j1 := b0.drew
  refine wU [0] ?_
  refine wO rfl ?_
  have k1 := (j1.pick 5 rfl)
  refine cX Tryz.call76 (p_holds (x := a0) c0 k1) ?_
  rintro _ _ ⟨rfl, _⟩
  refine nilO ⟨trivial, ?_⟩
  refine wU [2] ?_
  refine wFix 14 _ false (decide_eq_false g0) ?_
  refine wU [3, 4, 5, 7, 8, 9, 10, 6, 11] ?_
  refine wO rfl ?_
  refine pu1 ?_
  refine nilO ⟨trivial, ?_⟩
  refine wO rfl ?_
  refine pu1 ?_
  refine nilO ⟨trivial, ?_⟩
  refine wU [14, 15] ?_
  refine wN ?_
  refine thenK_n <| retE <| retT [.bool false] ?_
  omega
 refine drawE [1, 12, 13] [(6, ⟨p, 10, none⟩, .map (some m)), (11, ⟨wb, wo + (x).toNat * 7 + 1 + 0, none⟩, I a0.heldJob)] [(true, [0]), (false, [1]), (true, [2]), (true, [3, 4, 5, 7, 8, 9, 10]), (true, [6]), (true, [11]), (false, [12]), (false, [13]), (true, [14, 15])] rfl kr ⟨.inr (cell_up b0 4 rfl (k := 10) tri_pre rfl), .inr ((c0.up 5 rfl).cell b0 (k := 1) rfl), trivial⟩ ?_
 have l1 := b0.drew
 refine wU [0] ?_
 refine wO rfl ?_
 have m1 := (l1.pick 5 rfl)
 refine cX Tryz.call76 (p_holds (x := a0) c0 m1) ?_
 rintro _ _ ⟨rfl, d0⟩
 refine nilO ⟨⟨.inr (cell_up d0 5 rfl (k := 10) tri_pre rfl), .inr ((c0.up 0 rfl).cell d0 (k := 1) rfl), trivial⟩, ?_⟩
 refine wU [2] ?_
 refine wFix 14 _ true (decide_eq_true g0) ?_
 refine wU [3, 4, 5, 7, 8, 9, 10] ?_
 refine wLd (.map (some m)) 0 Tryz.isAgg80 ?_
 refine wLd (I a0.heldJob) 1 Tryz.isAgg3 ?_
 refine wO rfl ?_
 refine gY ?_
 refine stepY (Pt i0 0) rfl rfl (Y_iget (k := a0.heldJob) d0 9 hM (by rw [k0, o0]; rfl) Tryz.runUnderlying80 Tryz.runUnderlying3 Tryz.zeroValue111) ?_
 refine nilO ⟨dA, ?_⟩
 refine wO rfl ?_
 refine gY ?_
 have n1 := (d0.picks [3, 3, 3])
 have o1 := n1.merge3
 refine cX Tryz.call71 (p_running (s := j) (JobP.mk (s := j) f0 w0 j0 x0 ha y0 rfl) hBW hdl o1) ?_
 rintro _ _ ⟨rfl, p1⟩
 have q1 := p1.split3
 refine nilO ⟨dA, ?_⟩
 refine wU [14, 15] ?_
 refine wN ?_
 refine thenK_n <| retE <| retT [.bool j.running] ?_
 have r1 := (q1.picks [4, 3, 3, 3])
 have s1 := r1.merge3
 have l0 := Sat.shutN (d := ([(i0, .cells #[.slice p0 q0 r0, I j.band, Pt s0 0, .bool (canc j)] 118 (0, 0))] ++ (t0 ++ u0))) (A := []) h0 e0 s1
 rw [set_same e0] at l0
 have t1 := (l0.picks [6, 6, 6, 6, 5, 6])
 have u1 := (t1.merge7)
 exact ⟨congrArg (fun b => Ending.returned (.bool b)) ((busy_at hv0 hh hj).symm), u1⟩
theorem pf_busy_n {p : Nat} {F : FS} {M : Chunk} {F0 : List Chunk} (hR : FarmP p F M) {K : Int} (hF : FI F K) {v0 : Wkr} (x : Int) (hx : 0 ≤ x ∧ x < F.ws.length) (hv0 : F.ws[x.toNat]? = some v0) (hh : ¬ Holds v0) (hS : Sat W w (M :: H :: F0)) :
  Calls Tryz.prog 62 #[Pt p 0, I x] w fun e w' => e = .returned (.bool (busyW F (wAt F x))) ∧ Sat W w' (M :: H :: F0) := by
 obtain ⟨wb, wo, wn, wk, q, m, xs, jm, Wc, Qc, Jc, acs, dcs, jcs, rfl, hOw, hco, hAs, hDs, hQ, hM, hJs⟩ := hR
 have b0 : Sat W _ ((Tri p 85 (preP F.cfg wb wo wn wk q m) (([] : List Ref).flatMap encRef) (encStt F.st)) :: Wc :: acs.flatten :: dcs.flatten :: Qc :: Jc :: jcs.flatten :: H :: F0) := Sat.perm hS (by simp)
 have hwl := hOw.len; have hwk := hOw.le; have hcl := core_len hco; have has1 := hAs.1; have hds1 := hDs.1; rw [List.length_map] at has1 hds1; have hjl1 := hJs.l
 have hid := hF.idle hv0 hh
 refine callsA 27 Tryz.func62 rfl ?_
 refine sR <| pu1 <| nT <| sR <| pu3 ?_
 refine sLp b0 (ptr_up 0 rfl tri_pre) 8 (.slice (some ⟨wb, wo, none⟩) wn wk) (Tryz.isAgg81 _) ?_
 refine pu1 ?_
 refine sIdxO hOw x (x).toNat Tryz.runUnderlying81 Tryz.sizeOf93 ?_
 intro a0 _ _ c0 d0 e0
 obtain ⟨rfl, rfl⟩ := some_addr e0
 obtain ⟨f0, g0, h0, i0, j0, k0, l0⟩ := core_at hco c0
 have hvv_v_8 : f0 = v0 := Option.some.inj (g0.symm.trans hv0); rw [hvv_v_8] at h0 i0 j0 k0 l0
 refine pu1 <| nT <| seqE ?_
 have m0 : ¬ (a0.phase ≠ 0 ∧ a0.phase ≠ 4) := om
 refine drawE [1, 12, 13] [] [(true, [0]), (false, [1]), (true, [2]), (true, [3, 4, 5, 7, 8, 9, 10, 6, 11]), (false, [12]), (false, [13]), (true, [14, 15])] rfl kr trivial ?_
 have n0 := b0.drew
 refine wU [0] ?_
 refine wO rfl ?_
 have o0 := (n0.pick 1 rfl)
 refine cX Tryz.call76 (p_holds (x := a0) d0 o0) ?_
 rintro _ _ ⟨rfl, p0⟩
 refine nilO ⟨trivial, ?_⟩
 refine wU [2] ?_
 refine wFix 14 _ false (decide_eq_false m0) ?_
 refine wU [3, 4, 5, 7, 8, 9, 10, 6, 11] ?_
 refine wO rfl ?_
 refine pu1 ?_
 refine nilO ⟨trivial, ?_⟩
 refine wO rfl ?_
 refine pu1 ?_
 refine nilO ⟨trivial, ?_⟩
 refine wU [14, 15] ?_
 refine wN ?_
 refine thenK_n <| retE <| retT [.bool false] ?_
 have q0 := (p0.pick 1 rfl)
 have r0 := (q0.merge7)
 exact ⟨congrArg (fun b => Ending.returned (.bool b)) ((busy_not hv0 hh).symm), r0⟩
theorem pf_busy {W w : World} {p : Nat} {F : FS} {M H : Chunk} {F0 : List Chunk} (hR : FarmP p F M) {K : Int} (hF : FI F K) (x : Int) (hx : 0 ≤ x ∧ x < F.ws.length) (hS : Sat W w (M :: H :: F0)) :
    Calls Tryz.prog 62 #[.pointer (some ⟨p, 0, none⟩), .int .i64 x] w fun e w' => e = .returned (.bool (busyW F (wAt F x))) ∧ Sat W w' (M :: H :: F0) := by
  by_cases hh : Holds (wAt F x)
  · exact pf_busy_h hR hF x hx (hF.fw.wmem hx) hh hS
  · exact pf_busy_n hR hF x hx (hF.fw.wmem hx) hh hS
end Go.Proofs.YtegmennaekipaaaGreat
