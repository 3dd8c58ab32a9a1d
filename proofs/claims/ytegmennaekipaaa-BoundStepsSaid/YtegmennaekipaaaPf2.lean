import Derived.Test.YtegmennaekipaaaPf
namespace Go.Proofs.Ytegmennaekipaaa
open Go Go.E
set_option linter.unusedVariables false
set_option linter.unusedSimpArgs false
set_option linter.unnecessarySimpa false
set_option maxRecDepth 100000
set_option maxHeartbeats 2000000
variable {W w : World} {H : Chunk} {F : List Chunk}
theorem done_same {s : List Int} {k : Nat} {y : Int} (h : s.getD k 0 ≠ 4) (hy : y ≠ 4) : ((s.set k y).filter fun x => decide (x = 4)).length = (s.filter fun x => decide (x = 4)).length := by
  by_cases hk : k < s.length
  · have h1 := count_set (s := s) (k := k) (y := y) hk
    rw [if_neg h, if_neg hy] at h1; omega
  · rw [List.set_eq_of_length_le (by omega)]
theorem start_done {B : BS} {i : Int} : doneOf (startB B i).1 = doneOf B := by
  unfold startB
  split
  · rename_i hi
    split
    · rename_i h2
      unfold doneOf; dsimp only
      rw [done_same (by rw [stAt_nat _ hi.1] at h2; omega) (by decide)]
    · rfl
  · rfl
theorem ret_done {B : BS} {i a : Int} : doneOf (retB B i a) = doneOf B := by
  unfold retB
  split
  · rename_i h
    have hz := heldC_zero h
    unfold doneOf; dsimp only
    rw [done_same (by have := hz.2.1; rw [stAt_nat _ hz.1.1] at this; omega) (by decide)]
  · rfl
def seqL (n : Nat) (c : Int) : List Int := (List.range n).map fun i => choiceI ((n : Nat) : Int) c ((i : Nat) : Int)
theorem seq_len {n : Nat} {c : Int} : (seqL n c).length = n := by unfold seqL; simp
theorem seq_at {n i : Nat} {c x : Int} (h : (seqL n c)[i]? = some x) : x = choiceI ((n : Nat) : Int) c ((i : Nat) : Int) := by
  unfold seqL at h
  rw [List.getElem?_map] at h
  cases hr : (List.range n)[i]? with
  | none => rw [hr] at h; cases h
  | some y =>
    rw [hr] at h
    have hy : y = i := by
      obtain ⟨h1, h2⟩ := List.getElem?_eq_some_iff.1 hr
      rw [List.getElem_range] at h2; exact h2.symm
    subst hy; exact (Option.some.inj h).symm
theorem seq_step {n i : Nat} {c v : Int} {zs : List Int} (hz : zs = (seqL n c).take i ++ List.replicate (n - i) 0) (hi : i < n) (hv : v = choiceI ((n : Nat) : Int) c ((i : Nat) : Int)) : zs.set i v = (seqL n c).take (i + 1) ++ List.replicate (n - (i + 1)) 0 := by
  have hl : ((seqL n c).take i).length = i := by rw [List.length_take, seq_len]; omega
  have hx : (seqL n c)[i]? = some v := by
    unfold seqL; rw [List.getElem?_map, List.getElem?_eq_getElem (by simpa using hi), List.getElem_range, hv]; rfl
  rw [hz, List.set_append_right _ _ (by omega), hl, Nat.sub_self, take_succ_at hx, List.append_assoc]
  obtain ⟨m, hm⟩ : ∃ m, n - i = m + 1 := ⟨n - i - 1, by omega⟩
  rw [hm, show n - (i + 1) = m by omega, List.replicate_succ, List.set_cons_zero]; rfl
theorem busy_at {F : FS} {x : Int} {v : Wkr} {j : JS} (hv : F.ws[x.toNat]? = some v) (hh : Holds v) (hj : F.jobs[v.heldJob.toNat]? = some j) : busyW F (wAt F x) = j.running := by
  unfold busyW wAt jobAt; rw [getD_some hv, getD_some hj, decide_eq_true (show v.phase = 1 ∨ v.phase = 2 ∨ v.phase = 3 from hh), Bool.true_and]
theorem busy_not {F : FS} {x : Int} {v : Wkr} (hv : F.ws[x.toNat]? = some v) (hh : ¬ Holds v) : busyW F (wAt F x) = false := by
  unfold busyW wAt; rw [getD_some hv, decide_eq_false (show ¬ (v.phase = 1 ∨ v.phase = 2 ∨ v.phase = 3) from hh), Bool.false_and]
theorem pf_start {p : Nat} {F : FS} {M : Chunk} {F0 : List Chunk} (hR : FarmP p F M) {j : JS} {K : Int} (x : Int) (r : Ref) (hx : 0 ≤ x ∧ x < F.ws.length) (hr : 0 ≤ r.job ∧ r.job < 64) (hj : F.jobs[r.job.toNat]? = some j) (ha : j.added = true) (hBW : BWf j.B K) (hst : 0 ≤ F.st.starts ∧ F.st.starts < 4611686018427387904) (hS : Sat W w (M :: H :: F0)) :
    Calls Try.prog 83 #[.pointer (some ⟨p, 0, none⟩), .int .i64 x, .agg #[.int .i64 r.job, .int .i64 r.task]] w fun e w' => ∃ M' : Chunk, e = .returned (.tuple #[]) ∧ FarmP p (takeF F x r) M' ∧ Sat W w' (M' :: H :: F0) := by
  obtain ⟨wb, wo, wn, wk, q, m, xs, jm, Wc, Qc, Jc, acs, dcs, jcs, rfl, hOw, hco, hAs, hDs, hQ, hM, hJs⟩ := hR
  have hS_1 : Sat W _ ((Tri p 81 (preP F.cfg wb wo wn wk q m) (([] : List Ref).flatMap encRef) (encStt F.st)) :: Wc :: acs.flatten :: dcs.flatten :: Qc :: Jc :: jcs.flatten :: H :: F0) := Sat.perm hS (by simp)
  have hwl := hOw.len; have hwk := hOw.le; have hcl := core_len hco; have has1 := hAs.1; have hds1 := hDs.1; rw [List.length_map] at has1 hds1; have hjl1 := hJs.l
  obtain ⟨nj_2, bj_2, cj_2, hjmj_2, hjcj_2, hJj_2, hgj_2⟩ := JobsP.get hJs (k := r.job) ⟨by omega, by omega⟩ hj ha
  obtain ⟨taj_2, tnj_2, tkj_2, tlj_2, bbj_2, Tj_2, Mbj_2, rfl, hTj_2, hDj_2, hVj_2, hBj_2, _, hrj_2⟩ := hJj_2.open
  have hS_3 := (hS_1.pick 6 rfl)
  have hS_4 := Sat.openN (A := []) nj_2 hjcj_2 hS_3
  have hS_5 : Sat W _ ([(bj_2, .cells #[.slice taj_2 tnj_2 tkj_2, .int .i64 j.band, .pointer (some ⟨bbj_2, 0, none⟩), .bool (canc j)] 97 (0, 0))] :: Tj_2 :: Mbj_2 :: (jcs.eraseIdx nj_2).flatten :: (Tri p 81 (preP F.cfg wb wo wn wk q m) (([] : List Ref).flatMap encRef) (encStt F.st)) :: Wc :: acs.flatten :: dcs.flatten :: Qc :: Jc :: H :: F0) := Sat.perm hS_4 (by simp)
  have hn_taj_2 := hTj_2.len; have hl_taj_2 := hTj_2.le; have hm_taj_2 := congrArg List.length hVj_2; rw [List.length_map] at hm_taj_2
  refine callsA 54 Try.func83 rfl ?_
  refine seqE <| regionE ?_
  refine sBox hS_5 (.agg #[.int .i64 r.job, .int .i64 r.task]) #[.int .i64 r.job, .int .i64 r.task] ?_
  intro b_6 w_7 hS_8
  refine nilO <| thenK_n <| seqE ?_
  refine drawE [6, 12] [(3, ⟨p, 10, none⟩, .map (some m)), (5, ⟨b_6, 0, none⟩, .int .i64 r.job), (11, ⟨b_6, 1, none⟩, .int .i64 r.task), (9, ⟨bj_2, 2, none⟩, .pointer (some ⟨bbj_2, 0, none⟩))] [(true, [0, 1, 2, 4, 10]), (true, [3]), (true, [5]), (true, [11]), (false, [6]), (true, [7, 8]), (true, [9]), (false, [12]), (true, [13]), (true, [14]), (true, [15]), (true, [16, 17])] rfl (by kernel_rfl) ⟨.inr (cell_up hS_8 5 rfl (k := 10) tri_pre rfl), .inr (hS_8.cell 0 rfl rfl), .inr (hS_8.cell 0 rfl rfl), .inr (hS_8.cell 1 rfl rfl), trivial⟩ ?_
  have hS_9 := hS_8.drew
  refine wU [0, 1, 2, 4, 10] ?_
  refine wLd (.map (some m)) 0 Try.isAgg78 ?_
  refine wLd (.int .i64 r.job) 1 Try.isAgg3 ?_
  refine wLd (.int .i64 r.task) 2 Try.isAgg3 ?_
  refine wO rfl ?_
  refine stepY (.pointer (some ⟨bj_2, 0, none⟩)) rfl rfl (Y_iget (k := r.job) hS_9 10 hM (by rw [hgj_2]; rfl) Try.runUnderlying78 Try.runUnderlying3 Try.zeroValue90) ?_
  refine nilO ⟨⟨.inl (by kernel_rfl), .inl (by kernel_rfl), .inr (hS_9.cell 0 rfl rfl), .inr (hS_9.cell 1 rfl rfl), trivial⟩, ?_⟩
  refine wU [7, 8] ?_
  refine wLd (.pointer (some ⟨bbj_2, 0, none⟩)) 3 Try.isAgg91 ?_
  refine wO rfl ?_
  have hS_10 := (hS_9.pick 3 rfl)
  refine cX Try.call100 (b_start hBj_2 hBW r.task (Sat.flat1 hS_10)) ?_
  rintro _ w_11 ⟨M_14, rfl, hB_15, hS_12⟩
  have hS_13 := Sat.unflat1 hS_12
  refine nilO ⟨⟨.inl (by kernel_rfl), .inl (by kernel_rfl), .inl (by kernel_rfl), .inl (by kernel_rfl), trivial⟩, ?_⟩
  refine wU [13] <| wU [14] <| wU [15] <| wU [16, 17] ?_
  refine wN ?_
  refine thenK_n <| seqE <| regionE <| pu3 ?_
  refine sLp hS_13 (ptr_up 5 rfl tri_pre) 8 (.slice (some ⟨wb, wo, none⟩) wn wk) (Try.isAgg79 _) ?_
  refine pu1 ?_
  refine sIdxO hOw x (x).toNat Try.runUnderlying79 Try.sizeOf89 ?_
  intro x_16 b_17 o_18 hx_19 hp_20 hq_21
  obtain ⟨rfl, rfl⟩ := some_addr hq_21
  obtain ⟨v_22, hv_22, hv_220, hv_221, hv_222, hv_223, hv_224⟩ := core_at hco hx_19
  refine pu1 <| nilO <| thenK_n <| seqE <| regionE <| pu3 ?_
  refine sStF hS_13 hOw rfl 6 (x).toNat 0 x_16 (⟨1, x_16.heldJob, x_16.heldTask, x_16.attempt, x_16.row, x_16.a, x_16.d⟩ : PW) hx_19 (.int .i64 1) [.int .i64 1] Try.sizeOf3 ?_
  intro w_23 c_25 hO_26 hS_24
  refine nilO <| thenK_n <| seqE <| regionE <| pu1 ?_
  refine lA hS_24 1 0 2 (Try.isAgg48 _) (Try.sizeOf48 _) ?_
  refine pu2 ?_
  have hx_27 := set_at (y := (⟨1, x_16.heldJob, x_16.heldTask, x_16.attempt, x_16.row, x_16.a, x_16.d⟩ : PW)) hx_19
  have hp_28 := OwnT.ptr hO_26 rfl hx_27
  refine sStF hS_24 hO_26 rfl 6 (x).toNat 1 (⟨1, x_16.heldJob, x_16.heldTask, x_16.attempt, x_16.row, x_16.a, x_16.d⟩ : PW) (⟨1, r.job, r.task, x_16.attempt, x_16.row, x_16.a, x_16.d⟩ : PW) hx_27 (.agg #[.int .i64 r.job, .int .i64 r.task]) [.int .i64 r.job, .int .i64 r.task] Try.sizeOf48 ?_
  intro w_29 c_31 hO_32 hS_30
  rw [List.set_set] at hO_32
  refine nilO <| thenK_n <| seqE <| regionE <| pu4 ?_
  have hx_33 := set_at (y := (⟨1, r.job, r.task, x_16.attempt, x_16.row, x_16.a, x_16.d⟩ : PW)) hx_19
  have hp_34 := OwnT.ptr hO_32 rfl hx_33
  refine sStF hS_30 hO_32 rfl 6 (x).toNat 3 (⟨1, r.job, r.task, x_16.attempt, x_16.row, x_16.a, x_16.d⟩ : PW) (⟨1, r.job, r.task, (startB j.B r.task).2.1, x_16.row, x_16.a, x_16.d⟩ : PW) hx_33 (.int .i64 ((startB j.B r.task).2.1)) [.int .i64 ((startB j.B r.task).2.1)] Try.sizeOf3 ?_
  intro w_35 c_37 hO_38 hS_36
  rw [List.set_set] at hO_38
  refine nilO <| thenK_n <| seqE <| regionE <| pu3 ?_
  have hx_39 := set_at (y := (⟨1, r.job, r.task, (startB j.B r.task).2.1, x_16.row, x_16.a, x_16.d⟩ : PW)) hx_19
  have hp_40 := OwnT.ptr hO_38 rfl hx_39
  refine sStF hS_36 hO_38 rfl 6 (x).toNat 4 (⟨1, r.job, r.task, (startB j.B r.task).2.1, x_16.row, x_16.a, x_16.d⟩ : PW) (⟨1, r.job, r.task, (startB j.B r.task).2.1, 0, x_16.a, x_16.d⟩ : PW) hx_39 (.int .i64 0) [.int .i64 0] Try.sizeOf3 ?_
  intro w_41 c_43 hO_44 hS_42
  rw [List.set_set] at hO_44
  refine nilO <| thenK_n <| regionE <| pu4 ?_
  refine sLp hS_42 (ptr_up 5 rfl (tri_post (k := 11) (tri_len (sz := 2) (m := 11) (fun _ => rfl) (rfl : ([] : List Ref).length = 0)))) 0 (.int .i64 F.st.starts) (Try.isAgg3 _) ?_
  refine sAdd F.st.starts 1 ?_
  refine pu3 ?_
  refine sTpost hS_42 5 11 0 rfl (.int .i64 (F.st.starts + 1)) [.int .i64 (F.st.starts + 1)] [.int .i64 (F.st.starts + 1), .int .i64 F.st.commits, .int .i64 F.st.drops, .int .i64 F.st.crashes, .int .i64 F.st.steals, .int .i64 F.st.helps, .int .i64 F.st.spills, .int .i64 F.st.queued, .int .i64 F.st.held, .int .i64 F.st.cells] (tri_len (sz := 2) (m := 11) (fun _ => rfl) (rfl : ([] : List Ref).length = 0)) Try.sizeOf3 ?_
  intro w_45 hS_46
  refine nilO ?_
  refine ret0n rfl <| ?_
  have hS_50 := ((((hS_46.pick 4 rfl).pick 1 rfl).pick 4 rfl).pick 4 rfl)
  have hS_47 : Sat W _ (([(bj_2, .cells #[.slice taj_2 tnj_2 tkj_2, .int .i64 j.band, .pointer (some ⟨bbj_2, 0, none⟩), .bool (canc j)] 97 (0, 0))] ++ (Tj_2 ++ M_14)) :: (jcs.eraseIdx nj_2).flatten :: [(b_6, .cells #[.int .i64 r.job, .int .i64 r.task] 48 (0, 0))] :: (Tri p 81 (preP F.cfg wb wo wn wk q m) (([] : List Ref).flatMap encRef) [.int .i64 (F.st.starts + 1), .int .i64 F.st.commits, .int .i64 F.st.drops, .int .i64 F.st.crashes, .int .i64 F.st.steals, .int .i64 F.st.helps, .int .i64 F.st.spills, .int .i64 F.st.queued, .int .i64 F.st.held, .int .i64 F.st.cells]) :: c_43 :: acs.flatten :: dcs.flatten :: Qc :: Jc :: H :: F0) := Sat.perm (show Sat W _ ([(bj_2, .cells #[.slice taj_2 tnj_2 tkj_2, .int .i64 j.band, .pointer (some ⟨bbj_2, 0, none⟩), .bool (canc j)] 97 (0, 0))] :: Tj_2 :: M_14 :: (jcs.eraseIdx nj_2).flatten :: [(b_6, .cells #[.int .i64 r.job, .int .i64 r.task] 48 (0, 0))] :: (Tri p 81 (preP F.cfg wb wo wn wk q m) (([] : List Ref).flatMap encRef) [.int .i64 (F.st.starts + 1), .int .i64 F.st.commits, .int .i64 F.st.drops, .int .i64 F.st.crashes, .int .i64 F.st.steals, .int .i64 F.st.helps, .int .i64 F.st.spills, .int .i64 F.st.queued, .int .i64 F.st.held, .int .i64 F.st.cells]) :: c_43 :: acs.flatten :: dcs.flatten :: Qc :: Jc :: H :: F0) from hS_50) (by simp)
  have hS_48 := Sat.shutN (d := ([(bj_2, .cells #[.slice taj_2 tnj_2 tkj_2, .int .i64 j.band, .pointer (some ⟨bbj_2, 0, none⟩), .bool (canc j)] 97 (0, 0))] ++ (Tj_2 ++ M_14))) (A := []) nj_2 hjcj_2 hS_47
  have hL_49 := JobsP.set hJs (k := r.job) (j2 := { j with B := (startB j.B r.task).1 }) ⟨by omega, by omega⟩ hjmj_2 (JobP.mk (s := { j with B := (startB j.B r.task).1 }) (cn := (canc j)) hTj_2 hDj_2 hVj_2 hB_15 ha (fun h => by rw [show ({ j with B := (startB j.B r.task).1 } : JS).B = (startB j.B r.task).1 from rfl, start_done]; exact hrj_2 h) (by unfold canc; dsimp only; rw [start_done])) ha
  have hS_51 : Sat W _ ((Tri p 81 (preP F.cfg wb wo wn wk q m) (([] : List Ref).flatMap encRef) [.int .i64 (F.st.starts + 1), .int .i64 F.st.commits, .int .i64 F.st.drops, .int .i64 F.st.crashes, .int .i64 F.st.steals, .int .i64 F.st.helps, .int .i64 F.st.spills, .int .i64 F.st.queued, .int .i64 F.st.held, .int .i64 F.st.cells]) :: c_43 :: acs.flatten :: dcs.flatten :: Qc :: Jc :: (jcs.set nj_2 ([(bj_2, .cells #[.slice taj_2 tnj_2 tkj_2, .int .i64 j.band, .pointer (some ⟨bbj_2, 0, none⟩), .bool (canc j)] 97 (0, 0))] ++ (Tj_2 ++ M_14))).flatten :: [(b_6, .cells #[.int .i64 r.job, .int .i64 r.task] 48 (0, 0))] :: H :: F0) := ((((((hS_48.pick 7 rfl).pick 7 rfl).pick 7 rfl).pick 7 rfl).pick 7 rfl).pick 7 rfl)
  have hS_52 := (hS_51.dropAt 7 rfl)
  have hS_53 : Sat W _ (((Tri p 81 (preP F.cfg wb wo wn wk q m) (([] : List Ref).flatMap encRef) [.int .i64 (F.st.starts + 1), .int .i64 F.st.commits, .int .i64 F.st.drops, .int .i64 F.st.crashes, .int .i64 F.st.steals, .int .i64 F.st.helps, .int .i64 F.st.spills, .int .i64 F.st.queued, .int .i64 F.st.held, .int .i64 F.st.cells]) ++ (c_43 ++ (acs.flatten ++ (dcs.flatten ++ (Qc ++ (Jc ++ (jcs.set nj_2 ([(bj_2, .cells #[.slice taj_2 tnj_2 tkj_2, .int .i64 j.band, .pointer (some ⟨bbj_2, 0, none⟩), .bool (canc j)] 97 (0, 0))] ++ (Tj_2 ++ M_14))).flatten)))))) :: H :: F0) := Sat.perm (show Sat W _ ((Tri p 81 (preP F.cfg wb wo wn wk q m) (([] : List Ref).flatMap encRef) [.int .i64 (F.st.starts + 1), .int .i64 F.st.commits, .int .i64 F.st.drops, .int .i64 F.st.crashes, .int .i64 F.st.steals, .int .i64 F.st.helps, .int .i64 F.st.spills, .int .i64 F.st.queued, .int .i64 F.st.held, .int .i64 F.st.cells]) :: c_43 :: acs.flatten :: dcs.flatten :: Qc :: Jc :: (jcs.set nj_2 ([(bj_2, .cells #[.slice taj_2 tnj_2 tkj_2, .int .i64 j.band, .pointer (some ⟨bbj_2, 0, none⟩), .bool (canc j)] 97 (0, 0))] ++ (Tj_2 ++ M_14))).flatten :: H :: F0) from hS_52) (by simp)
  have he : takeF F x r = (⟨F.cfg, (F.ws.set x.toNat ⟨1, r.job, r.task, (startB j.B r.task).2.1, 0, 0, (F.ar.getD x.toNat default).high⟩), F.ar, F.dq, F.q, (F.jobs.set r.job.toNat ({ j with B := (startB j.B r.task).1 })), (⟨(F.st.starts + 1), F.st.commits, F.st.drops, F.st.crashes, F.st.steals, F.st.helps, F.st.spills, F.st.queued, F.st.held, F.st.cells⟩ : Stt)⟩ : FS) := by unfold takeF jobAt; rw [getD_some hj]
  exact ⟨_, rfl, by rw [he]; exact ⟨_, _, _, _, _, _, _, _, _, _, _, _, _, _, rfl, hO_44, (core_set hco rfl), (by rw [map_setA (x' := (⟨1, r.job, r.task, (startB j.B r.task).2.1, 0, x_16.a, x_16.d⟩ : PW)) hx_19 rfl]; exact hAs), (by rw [map_setD (x' := (⟨1, r.job, r.task, (startB j.B r.task).2.1, 0, x_16.a, x_16.d⟩ : PW)) hx_19 rfl]; exact hDs), hQ, hM, hL_49⟩, hS_53⟩
theorem pf_drop {p : Nat} {F : FS} {M : Chunk} {F0 : List Chunk} (hR : FarmP p F M) {v0 : Wkr} (x : Int) (hx : 0 ≤ x ∧ x < F.ws.length) (hv0 : F.ws[x.toNat]? = some v0) (hst : 0 ≤ F.st.drops ∧ F.st.drops < 4611686018427387904) (hS : Sat W w (M :: H :: F0)) :
    Calls Try.prog 53 #[.pointer (some ⟨p, 0, none⟩), .int .i64 x] w fun e w' => ∃ M' : Chunk, e = .returned (.agg (encEvt ⟨9, x, 0, 0, v0.heldJob, v0.heldTask, 0⟩).toArray) ∧ FarmP p (dropF F x) M' ∧ Sat W w' (M' :: H :: F0) := by
  obtain ⟨wb, wo, wn, wk, q, m, xs, jm, Wc, Qc, Jc, acs, dcs, jcs, rfl, hOw, hco, hAs, hDs, hQ, hM, hJs⟩ := hR
  have hS_1 : Sat W _ ((Tri p 81 (preP F.cfg wb wo wn wk q m) (([] : List Ref).flatMap encRef) (encStt F.st)) :: Wc :: acs.flatten :: dcs.flatten :: Qc :: Jc :: jcs.flatten :: H :: F0) := Sat.perm hS (by simp)
  have hwl := hOw.len; have hwk := hOw.le; have hcl := core_len hco; have has1 := hAs.1; have hds1 := hDs.1; rw [List.length_map] at has1 hds1; have hjl1 := hJs.l
  refine callsA 31 Try.func53 rfl ?_
  refine seqE <| regionE ?_
  refine sAlloc hS_1 Try.zeroValue50 ?_
  intro b_2 w_3 hS_4
  refine nilO <| thenK_n <| seqE <| regionE <| pu3 ?_
  refine sLp hS_4 (ptr_up 1 rfl tri_pre) 8 (.slice (some ⟨wb, wo, none⟩) wn wk) (Try.isAgg79 _) ?_
  refine pu1 ?_
  refine sIdxO hOw x (x).toNat Try.runUnderlying79 Try.sizeOf89 ?_
  intro x_5 b_6 o_7 hx_8 hp_9 hq_10
  obtain ⟨rfl, rfl⟩ := some_addr hq_10
  obtain ⟨v_11, hv_11, hv_110, hv_111, hv_112, hv_113, hv_114⟩ := core_at hco hx_8
  have hvv_v_11 : v_11 = v0 := Option.some.inj (hv_11.symm.trans hv0); rw [hvv_v_11] at hv_110 hv_111 hv_112 hv_113 hv_114
  refine pu1 <| nilO <| thenK_n <| seqE <| regionE <| pu4 ?_
  refine sLpA hS_4 (hp_9.up 2 rfl) 1 [.int .i64 x_5.heldJob, .int .i64 x_5.heldTask] (Try.isAgg48 _) (Try.sizeOf48 _) ?_
  refine pu1 ?_
  refine sAlloc hS_4 Try.zeroValue50 ?_
  intro b_12 w_13 hS_14
  refine sT hS_14 0 0 (.agg #[.int .i64 9, .int .i64 x, .int .i64 0, .int .i64 0, .int .i64 x_5.heldJob, .int .i64 x_5.heldTask, .int .i64 0]) [.int .i64 9, .int .i64 x, .int .i64 0, .int .i64 0, .int .i64 x_5.heldJob, .int .i64 x_5.heldTask, .int .i64 0] #[.int .i64 9, .int .i64 x, .int .i64 0, .int .i64 0, .int .i64 x_5.heldJob, .int .i64 x_5.heldTask, .int .i64 0] Try.sizeOf50 ?_
  intro w_15 hS_16
  refine nilO <| thenK_n <| seqE <| regionE <| pu4 ?_
  refine sLp hS_16 (ptr_up 2 rfl (tri_post (k := 11) (tri_len (sz := 2) (m := 11) (fun _ => rfl) (rfl : ([] : List Ref).length = 0)))) 2 (.int .i64 F.st.drops) (Try.isAgg3 _) ?_
  refine sAdd F.st.drops 1 ?_
  refine pu3 ?_
  refine sTpost hS_16 2 11 2 rfl (.int .i64 (F.st.drops + 1)) [.int .i64 (F.st.drops + 1)] [.int .i64 F.st.starts, .int .i64 F.st.commits, .int .i64 (F.st.drops + 1), .int .i64 F.st.crashes, .int .i64 F.st.steals, .int .i64 F.st.helps, .int .i64 F.st.spills, .int .i64 F.st.queued, .int .i64 F.st.held, .int .i64 F.st.cells] (tri_len (sz := 2) (m := 11) (fun _ => rfl) (rfl : ([] : List Ref).length = 0)) Try.sizeOf3 ?_
  intro w_17 hS_18
  refine nilO <| thenK_n <| seqE <| regionE <| pu1 ?_
  have hS_19 := ((hS_18.pick 4 rfl).pick 4 rfl)
  refine cX Try.call68 (p_rest hOw hAs hx_8 0 hS_19) ?_
  rintro _ w_20 ⟨Wc_22, acs_23, rfl, hO_24, hA_25, hS_21⟩
  refine nilO <| thenK_n <| seqE <| regionE ?_
  refine lA hS_21 2 0 7 (Try.isAgg50 _) (Try.sizeOf50 _) ?_
  refine sT hS_21 3 0 (.agg #[.int .i64 9, .int .i64 x, .int .i64 0, .int .i64 0, .int .i64 x_5.heldJob, .int .i64 x_5.heldTask, .int .i64 0]) [.int .i64 9, .int .i64 x, .int .i64 0, .int .i64 0, .int .i64 x_5.heldJob, .int .i64 x_5.heldTask, .int .i64 0] #[.int .i64 9, .int .i64 x, .int .i64 0, .int .i64 0, .int .i64 x_5.heldJob, .int .i64 x_5.heldTask, .int .i64 0] Try.sizeOf50 ?_
  intro w_26 hS_27
  refine nilO <| thenK_n <| retE <| retN (vs := [.agg #[.int .i64 9, .int .i64 x, .int .i64 0, .int .i64 0, .int .i64 x_5.heldJob, .int .i64 x_5.heldTask, .int .i64 0]]) rfl (.cons (.cell _ _ _ _ (by kernel_rfl) (lvA hS_27 3 0 [.int .i64 9, .int .i64 x, .int .i64 0, .int .i64 0, .int .i64 x_5.heldJob, .int .i64 x_5.heldTask, .int .i64 0] (Try.isAgg50 _) (Try.sizeOf50 _) rfl rfl rfl)) .nil) <| ?_
  have hS_28 := (((hS_27.pick 4 rfl).dropAt 3 rfl).dropAt 3 rfl)
  have hS_29 : Sat W _ (((Tri p 81 (preP F.cfg wb wo wn wk q m) (([] : List Ref).flatMap encRef) [.int .i64 F.st.starts, .int .i64 F.st.commits, .int .i64 (F.st.drops + 1), .int .i64 F.st.crashes, .int .i64 F.st.steals, .int .i64 F.st.helps, .int .i64 F.st.spills, .int .i64 F.st.queued, .int .i64 F.st.held, .int .i64 F.st.cells]) ++ (Wc_22 ++ (acs_23.flatten ++ (dcs.flatten ++ (Qc ++ (Jc ++ jcs.flatten)))))) :: H :: F0) := Sat.perm (show Sat W _ ((Tri p 81 (preP F.cfg wb wo wn wk q m) (([] : List Ref).flatMap encRef) [.int .i64 F.st.starts, .int .i64 F.st.commits, .int .i64 (F.st.drops + 1), .int .i64 F.st.crashes, .int .i64 F.st.steals, .int .i64 F.st.helps, .int .i64 F.st.spills, .int .i64 F.st.queued, .int .i64 F.st.held, .int .i64 F.st.cells]) :: Wc_22 :: acs_23.flatten :: dcs.flatten :: Qc :: Jc :: jcs.flatten :: H :: F0) from hS_28) (by simp)
  have he : dropF F x = (⟨F.cfg, (F.ws.set x.toNat ⟨0, 0, 0, 0, 0, 0, (F.ar.getD x.toNat default).high⟩), (F.ar.set (x).toNat (resetA (F.ar.getD (x).toNat default))), F.dq, F.q, F.jobs, (⟨F.st.starts, F.st.commits, (F.st.drops + 1), F.st.crashes, F.st.steals, F.st.helps, F.st.spills, F.st.queued, F.st.held, F.st.cells⟩ : Stt)⟩ : FS) := by unfold dropF clearF arAt; rfl
  exact ⟨_, by rw [hv_111, hv_112]; rfl, by rw [he]; exact ⟨_, _, _, _, _, _, _, _, _, _, _, _, _, _, rfl, hO_24, (core_set hco rfl), (by rw [map_setA (x' := (⟨0, 0, 0, 0, 0, x_5.a, x_5.d⟩ : PW)) hx_8 rfl]; exact hA_25), (by rw [map_setD (x' := (⟨0, 0, 0, 0, 0, x_5.a, x_5.d⟩ : PW)) hx_8 rfl]; exact hDs), hQ, hM, hJs⟩, hS_29⟩
theorem pf_seq {p : Nat} {F : FS} {M : Chunk} {F0 : List Chunk} (hR : FarmP p F M) (c : Int) (hn : 1 ≤ F.ws.length ∧ F.ws.length ≤ 64) (hS : Sat W w (M :: H :: F0)) :
    Calls Try.prog 56 #[.pointer (some ⟨p, 0, none⟩), .int .i64 c] w fun e w' => ∃ (az : Option Addr) (nz kz : Nat) (Z : Chunk), e = .returned (.slice az nz kz) ∧ OwnT encI 3 1 az nz kz (seqL F.ws.length c) Z ∧ Sat W w' (Z :: M :: H :: F0) := by
  obtain ⟨wb, wo, wn, wk, q, m, xs, jm, Wc, Qc, Jc, acs, dcs, jcs, rfl, hOw, hco, hAs, hDs, hQ, hM, hJs⟩ := hR
  have hS_1 : Sat W _ ((Tri p 81 (preP F.cfg wb wo wn wk q m) (([] : List Ref).flatMap encRef) (encStt F.st)) :: Wc :: acs.flatten :: dcs.flatten :: Qc :: Jc :: jcs.flatten :: H :: F0) := Sat.perm hS (by simp)
  have hwl := hOw.len; have hwk := hOw.le; have hcl := core_len hco; have has1 := hAs.1; have hds1 := hDs.1; rw [List.length_map] at has1 hds1; have hjl1 := hJs.l
  have hq1 : -((wn : Nat) : Int) < c.tmod wn := Int.lt_tmod_of_pos _ (by omega); have hq2 : c.tmod wn < ((wn : Nat) : Int) := Int.tmod_lt_of_pos _ (by omega)
  refine callsA 39 Try.func56 rfl ?_
  refine seqE <| regionE <| pu1 <| nilO <| thenK_n <| seqE <| regionE <| pu3 ?_
  refine sLp hS_1 (ptr_up 0 rfl tri_pre) 8 (.slice (some ⟨wb, wo, none⟩) wn wk) (Try.isAgg79 _) ?_
  refine pu2 <| nilO <| thenK_n <| seqE <| regionE <| pu2 ?_
  refine sRem c ((wn : Nat) : Int) ?_
  refine pu1 <| nilO <| thenK_n <| seqE <| seqE <| regionE <| pu2 <| nilO <| thenK_n <| ?_
  refine cD ((c.tmod ((wn : Nat) : Int)) < 0) (fun hc_2 => ?_) (fun hc_2 => ?_)
  rotate_left
  · refine skipE <| thenK_n <| seqE <| regionE <| pu1 ?_
    refine sMake (kl := .i64) (kc := .i64) (enc := encI) (sz := 1) (nb := 8) hS_1 0 wn ((wn : Nat) : Int) (rfl : ((wn : Nat) : Int) = ((wn : Nat) : Int)) Try.underlying22 (i := Try.t3) (by kernel_rfl) (fun _ => rfl) ?_
    intro b_22 c_23 w_25 hO_24 hS_26
    refine pu1 <| nilO <| thenK_n <| seqE <| seqE <| regionE <| pu3 <| nilO <| thenK_n <| blockE ?_
    refine loopA (γ := Nat × (List Int) × (Option Addr) × Nat × Nat × Chunk) (fun ⟨i, zs, azs, nzs, kzs, czs⟩ => [(5, .int .i64 ((wn : Nat) : Int)), (6, .int .i64 (c.tmod ((wn : Nat) : Int))), (25, .int .i64 ((wn : Nat) : Int)), (26, .int .i64 ((i : Nat) : Int)), (7, .slice azs nzs kzs)]) (fun ⟨i, zs, azs, nzs, kzs, czs⟩ w => Sat W w (czs :: (Tri p 81 (preP F.cfg wb wo wn wk q m) (([] : List Ref).flatMap encRef) (encStt F.st)) :: Wc :: acs.flatten :: dcs.flatten :: Qc :: Jc :: jcs.flatten :: H :: F0) ∧ i ≤ wn ∧ (zs = (seqL wn c).take i ++ List.replicate (wn - i) 0) ∧ (zs.length = wn) ∧ OwnT encI 3 1 azs nzs kzs zs czs) (fun ⟨i, zs, azs, nzs, kzs, czs⟩ => wn - i) (0, (List.replicate wn 0), (some ⟨b_22, 0, none⟩), wn, wn, c_23) ⟨hS_26, by omega, (by simp), (by simp), hO_24⟩ ?_
    rintro ⟨i, zs, azs, nzs, kzs, czs⟩ ρ w_27 ⟨hS_28, hi, hz, hzl, hOzs⟩
    have hn_zs := hOzs.len; have hl_zs := hOzs.le
    refine seqE <| regionE <| pu1 <| nilO <| thenK_n <| seqE ?_
    refine cD (((i : Nat) : Int) < ((wn : Nat) : Int)) (fun hc_29 => ?_) (fun hc_29 => ?_)
    rotate_left
    · refine exitE <| thenK_x <| thenK_x <| blockK_x <| thenK_n <| seqE <| regionE <| pu2 <| nilO <| thenK_n <| retE <| retT [.slice azs nzs kzs] <| ?_
      have hzf : zs = seqL F.ws.length c := by rw [hz, List.take_of_length_le (by rw [seq_len]; omega), show wn - i = 0 by omega, show F.ws.length = wn by omega]; simp
      have hOz := hOzs; rw [hzf] at hOz
      have hS_40 : Sat W _ (czs :: ((Tri p 81 (preP F.cfg wb wo wn wk q m) (([] : List Ref).flatMap encRef) (encStt F.st)) ++ (Wc ++ (acs.flatten ++ (dcs.flatten ++ (Qc ++ (Jc ++ jcs.flatten)))))) :: H :: F0) := Sat.perm (show Sat W _ (czs :: (Tri p 81 (preP F.cfg wb wo wn wk q m) (([] : List Ref).flatMap encRef) (encStt F.st)) :: Wc :: acs.flatten :: dcs.flatten :: Qc :: Jc :: jcs.flatten :: H :: F0) from hS_28) (by simp)
      exact ⟨_, _, _, _, rfl, hOz, hS_40⟩
    refine skipE <| thenK_n <| seqE <| blockE <| seqE <| regionE <| pu2 <| nilO <| thenK_n <| regionE <| pu4 ?_
    refine sAdd (c.tmod ((wn : Nat) : Int)) ((i : Nat) : Int) ?_
    refine pu1 ?_
    refine sRem ((c.tmod ((wn : Nat) : Int)) + ((i : Nat) : Int)) ((wn : Nat) : Int) ?_
    refine sIdxO hOzs ((i : Nat) : Int) i Try.runUnderlying22 Try.sizeOf3 ?_
    intro x_30 b_31 o_32 hx_33 hp_34 hq_35
    refine sStF hS_28 hOzs hq_35 0 i 0 x_30 (((c.tmod ((wn : Nat) : Int)) + ((i : Nat) : Int)).tmod ((wn : Nat) : Int)) hx_33 (.int .i64 (((c.tmod ((wn : Nat) : Int)) + ((i : Nat) : Int)).tmod ((wn : Nat) : Int))) [.int .i64 (((c.tmod ((wn : Nat) : Int)) + ((i : Nat) : Int)).tmod ((wn : Nat) : Int))] Try.sizeOf3 ?_
    intro w_36 c_38 hO_39 hS_37
    refine nilO <| blockK_n <| thenK_n <| regionE ?_
    refine sAdd ((i : Nat) : Int) 1 ?_
    refine pu1 <| nilO <| thenK_n <| ?_
    exact ⟨(i + 1, (zs.set i (((c.tmod ((wn : Nat) : Int)) + ((i : Nat) : Int)).tmod ((wn : Nat) : Int))), azs, nzs, kzs, c_38), by first | omega | (dsimp only; omega), alA, hS_37, by omega, (seq_step hz (by omega) (by unfold choiceI; first | rw [if_pos (by omega)] | rw [if_neg (by omega)])), (by rw [List.length_set]; exact hzl), hO_39⟩
  refine regionE <| pu2 ?_
  refine sAdd (c.tmod ((wn : Nat) : Int)) ((wn : Nat) : Int) ?_
  refine pu1 <| nilO <| thenK_n <| seqE <| regionE <| pu1 ?_
  refine sMake (kl := .i64) (kc := .i64) (enc := encI) (sz := 1) (nb := 8) hS_1 0 wn ((wn : Nat) : Int) (rfl : ((wn : Nat) : Int) = ((wn : Nat) : Int)) Try.underlying22 (i := Try.t3) (by kernel_rfl) (fun _ => rfl) ?_
  intro b_3 c_4 w_6 hO_5 hS_7
  refine pu1 <| nilO <| thenK_n <| seqE <| seqE <| regionE <| pu3 <| nilO <| thenK_n <| blockE ?_
  refine loopA (γ := Nat × (List Int) × (Option Addr) × Nat × Nat × Chunk) (fun ⟨i, zs, azs, nzs, kzs, czs⟩ => [(5, .int .i64 ((wn : Nat) : Int)), (6, .int .i64 ((c.tmod ((wn : Nat) : Int)) + ((wn : Nat) : Int))), (25, .int .i64 ((wn : Nat) : Int)), (26, .int .i64 ((i : Nat) : Int)), (7, .slice azs nzs kzs)]) (fun ⟨i, zs, azs, nzs, kzs, czs⟩ w => Sat W w (czs :: (Tri p 81 (preP F.cfg wb wo wn wk q m) (([] : List Ref).flatMap encRef) (encStt F.st)) :: Wc :: acs.flatten :: dcs.flatten :: Qc :: Jc :: jcs.flatten :: H :: F0) ∧ i ≤ wn ∧ (zs = (seqL wn c).take i ++ List.replicate (wn - i) 0) ∧ (zs.length = wn) ∧ OwnT encI 3 1 azs nzs kzs zs czs) (fun ⟨i, zs, azs, nzs, kzs, czs⟩ => wn - i) (0, (List.replicate wn 0), (some ⟨b_3, 0, none⟩), wn, wn, c_4) ⟨hS_7, by omega, (by simp), (by simp), hO_5⟩ ?_
  rintro ⟨i, zs, azs, nzs, kzs, czs⟩ ρ w_8 ⟨hS_9, hi, hz, hzl, hOzs⟩
  have hn_zs := hOzs.len; have hl_zs := hOzs.le
  refine seqE <| regionE <| pu1 <| nilO <| thenK_n <| seqE ?_
  refine cD (((i : Nat) : Int) < ((wn : Nat) : Int)) (fun hc_10 => ?_) (fun hc_10 => ?_)
  rotate_left
  · refine exitE <| thenK_x <| thenK_x <| blockK_x <| thenK_n <| seqE <| regionE <| pu2 <| nilO <| thenK_n <| retE <| retT [.slice azs nzs kzs] <| ?_
    have hzf : zs = seqL F.ws.length c := by rw [hz, List.take_of_length_le (by rw [seq_len]; omega), show wn - i = 0 by omega, show F.ws.length = wn by omega]; simp
    have hOz := hOzs; rw [hzf] at hOz
    have hS_21 : Sat W _ (czs :: ((Tri p 81 (preP F.cfg wb wo wn wk q m) (([] : List Ref).flatMap encRef) (encStt F.st)) ++ (Wc ++ (acs.flatten ++ (dcs.flatten ++ (Qc ++ (Jc ++ jcs.flatten)))))) :: H :: F0) := Sat.perm (show Sat W _ (czs :: (Tri p 81 (preP F.cfg wb wo wn wk q m) (([] : List Ref).flatMap encRef) (encStt F.st)) :: Wc :: acs.flatten :: dcs.flatten :: Qc :: Jc :: jcs.flatten :: H :: F0) from hS_9) (by simp)
    exact ⟨_, _, _, _, rfl, hOz, hS_21⟩
  refine skipE <| thenK_n <| seqE <| blockE <| seqE <| regionE <| pu2 <| nilO <| thenK_n <| regionE <| pu4 ?_
  refine sAdd ((c.tmod ((wn : Nat) : Int)) + ((wn : Nat) : Int)) ((i : Nat) : Int) ?_
  refine pu1 ?_
  refine sRem (((c.tmod ((wn : Nat) : Int)) + ((wn : Nat) : Int)) + ((i : Nat) : Int)) ((wn : Nat) : Int) ?_
  refine sIdxO hOzs ((i : Nat) : Int) i Try.runUnderlying22 Try.sizeOf3 ?_
  intro x_11 b_12 o_13 hx_14 hp_15 hq_16
  refine sStF hS_9 hOzs hq_16 0 i 0 x_11 ((((c.tmod ((wn : Nat) : Int)) + ((wn : Nat) : Int)) + ((i : Nat) : Int)).tmod ((wn : Nat) : Int)) hx_14 (.int .i64 ((((c.tmod ((wn : Nat) : Int)) + ((wn : Nat) : Int)) + ((i : Nat) : Int)).tmod ((wn : Nat) : Int))) [.int .i64 ((((c.tmod ((wn : Nat) : Int)) + ((wn : Nat) : Int)) + ((i : Nat) : Int)).tmod ((wn : Nat) : Int))] Try.sizeOf3 ?_
  intro w_17 c_19 hO_20 hS_18
  refine nilO <| blockK_n <| thenK_n <| regionE ?_
  refine sAdd ((i : Nat) : Int) 1 ?_
  refine pu1 <| nilO <| thenK_n <| ?_
  exact ⟨(i + 1, (zs.set i ((((c.tmod ((wn : Nat) : Int)) + ((wn : Nat) : Int)) + ((i : Nat) : Int)).tmod ((wn : Nat) : Int))), azs, nzs, kzs, c_19), by first | omega | (dsimp only; omega), alA, hS_18, by omega, (seq_step hz (by omega) (by unfold choiceI; first | rw [if_pos (by omega)] | rw [if_neg (by omega)])), (by rw [List.length_set]; exact hzl), hO_20⟩
theorem pf_busy_h {p : Nat} {F : FS} {M : Chunk} {F0 : List Chunk} (hR : FarmP p F M) {K : Int} (hF : FI F K) {v0 : Wkr} (x : Int) (hx : 0 ≤ x ∧ x < F.ws.length) (hv0 : F.ws[x.toNat]? = some v0) (hh : Holds v0) (hS : Sat W w (M :: H :: F0)) :
    Calls Try.prog 57 #[.pointer (some ⟨p, 0, none⟩), .int .i64 x] w fun e w' => e = .returned (.bool (busyW F (wAt F x))) ∧ Sat W w' (M :: H :: F0) := by
  obtain ⟨wb, wo, wn, wk, q, m, xs, jm, Wc, Qc, Jc, acs, dcs, jcs, rfl, hOw, hco, hAs, hDs, hQ, hM, hJs⟩ := hR
  have hS_1 : Sat W _ ((Tri p 81 (preP F.cfg wb wo wn wk q m) (([] : List Ref).flatMap encRef) (encStt F.st)) :: Wc :: acs.flatten :: dcs.flatten :: Qc :: Jc :: jcs.flatten :: H :: F0) := Sat.perm hS (by simp)
  have hwl := hOw.len; have hwk := hOw.le; have hcl := core_len hco; have has1 := hAs.1; have hds1 := hDs.1; rw [List.length_map] at has1 hds1; have hjl1 := hJs.l
  obtain ⟨j, hj, ha, hz⟩ := hF.h.h _ _ hv0 hh; have hjo := hF.fw.j j (List.mem_of_getElem? hj); obtain ⟨hBW, hdl, hb1, hb2⟩ := hjo.b ha; have hjn := hjo.n; have hwo := hF.fw.w v0 (List.mem_of_getElem? hv0); have hk0 := hwo.h; have hr0 := hwo.r; have hlt := held_lt hBW hz; have hph : v0.phase = 1 ∨ v0.phase = 2 ∨ v0.phase = 3 := hh
  obtain ⟨nj_2, bj_2, cj_2, hjmj_2, hjcj_2, hJj_2, hgj_2⟩ := JobsP.get hJs (k := v0.heldJob) ⟨by omega, by omega⟩ hj ha
  obtain ⟨taj_2, tnj_2, tkj_2, tlj_2, bbj_2, Tj_2, Mbj_2, rfl, hTj_2, hDj_2, hVj_2, hBj_2, _, hrj_2⟩ := hJj_2.open
  have hS_3 := (hS_1.pick 6 rfl)
  have hS_4 := Sat.openN (A := []) nj_2 hjcj_2 hS_3
  have hS_5 : Sat W _ ([(bj_2, .cells #[.slice taj_2 tnj_2 tkj_2, .int .i64 j.band, .pointer (some ⟨bbj_2, 0, none⟩), .bool (canc j)] 97 (0, 0))] :: Tj_2 :: Mbj_2 :: (jcs.eraseIdx nj_2).flatten :: (Tri p 81 (preP F.cfg wb wo wn wk q m) (([] : List Ref).flatMap encRef) (encStt F.st)) :: Wc :: acs.flatten :: dcs.flatten :: Qc :: Jc :: H :: F0) := Sat.perm hS_4 (by simp)
  have hn_taj_2 := hTj_2.len; have hl_taj_2 := hTj_2.le; have hm_taj_2 := congrArg List.length hVj_2; rw [List.length_map] at hm_taj_2
  refine callsA 27 Try.func57 rfl ?_
  refine seqE <| regionE <| pu1 <| nilO <| thenK_n <| seqE <| regionE <| pu3 ?_
  refine sLp hS_5 (ptr_up 4 rfl tri_pre) 8 (.slice (some ⟨wb, wo, none⟩) wn wk) (Try.isAgg79 _) ?_
  refine pu1 ?_
  refine sIdxO hOw x (x).toNat Try.runUnderlying79 Try.sizeOf89 ?_
  intro x_6 b_7 o_8 hx_9 hp_10 hq_11
  obtain ⟨rfl, rfl⟩ := some_addr hq_11
  obtain ⟨v_12, hv_12, hv_120, hv_121, hv_122, hv_123, hv_124⟩ := core_at hco hx_9
  have hvv_v_12 : v_12 = v0 := Option.some.inj (hv_12.symm.trans hv0); rw [hvv_v_12] at hv_120 hv_121 hv_122 hv_123 hv_124
  refine pu1 <| nilO <| thenK_n <| seqE ?_
  rcases Classical.em (x_6.phase ≠ 0 ∧ x_6.phase ≠ 4) with hc_13 | hc_13
  rotate_left
  · refine drawE [1, 12, 13] [] [(true, [0]), (false, [1]), (true, [2]), (true, [3, 4, 5, 7, 8, 9, 10, 6, 11]), (false, [12]), (false, [13]), (true, [14, 15])] rfl (by kernel_rfl) trivial ?_
    have hS_30 := hS_5.drew
    refine wU [0] ?_
    refine wO rfl ?_
    have hS_31 := (hS_30.pick 5 rfl)
    refine cX Try.call52 (p_holds (x := x_6) hp_10 hS_31) ?_
    rintro _ w_32 ⟨rfl, hS_33⟩
    refine nilO ⟨trivial, ?_⟩
    refine wU [2] ?_
    refine wFix 14 _ false (decide_eq_false hc_13) ?_
    refine wU [3, 4, 5, 7, 8, 9, 10, 6, 11] ?_
    refine wO rfl ?_
    refine pu1 ?_
    refine nilO ⟨trivial, ?_⟩
    refine wO rfl ?_
    refine pu1 ?_
    refine nilO ⟨trivial, ?_⟩
    refine wU [14, 15] ?_
    refine wN ?_
    refine thenK_n <| retE <| retT [.bool false] <| ?_
    omega
  refine drawE [1, 12, 13] [(6, ⟨p, 10, none⟩, .map (some m)), (11, ⟨wb, wo + (x).toNat * 7 + 1 + 0, none⟩, .int .i64 x_6.heldJob)] [(true, [0]), (false, [1]), (true, [2]), (true, [3, 4, 5, 7, 8, 9, 10]), (true, [6]), (true, [11]), (false, [12]), (false, [13]), (true, [14, 15])] rfl (by kernel_rfl) ⟨.inr (cell_up hS_5 4 rfl (k := 10) tri_pre rfl), .inr ((hp_10.up 5 rfl).cell hS_5 (k := 1) rfl), trivial⟩ ?_
  have hS_14 := hS_5.drew
  refine wU [0] ?_
  refine wO rfl ?_
  have hS_15 := (hS_14.pick 5 rfl)
  refine cX Try.call52 (p_holds (x := x_6) hp_10 hS_15) ?_
  rintro _ w_16 ⟨rfl, hS_17⟩
  refine nilO ⟨⟨.inr (cell_up hS_17 5 rfl (k := 10) tri_pre rfl), .inr ((hp_10.up 0 rfl).cell hS_17 (k := 1) rfl), trivial⟩, ?_⟩
  refine wU [2] ?_
  refine wFix 14 _ true (decide_eq_true hc_13) ?_
  refine wU [3, 4, 5, 7, 8, 9, 10] ?_
  refine wLd (.map (some m)) 0 Try.isAgg78 ?_
  refine wLd (.int .i64 x_6.heldJob) 1 Try.isAgg3 ?_
  refine wO rfl ?_
  refine gY ?_
  refine stepY (.pointer (some ⟨bj_2, 0, none⟩)) rfl rfl (Y_iget (k := x_6.heldJob) hS_17 9 hM (by rw [hv_121, hgj_2]; rfl) Try.runUnderlying78 Try.runUnderlying3 Try.zeroValue90) ?_
  refine nilO ⟨⟨.inl (by kernel_rfl), .inl (by kernel_rfl), trivial⟩, ?_⟩
  refine wO rfl ?_
  refine gY ?_
  have hS_18 := (((hS_17.pick 3 rfl).pick 3 rfl).pick 3 rfl)
  have hS_19 : Sat W _ (([(bj_2, .cells #[.slice taj_2 tnj_2 tkj_2, .int .i64 j.band, .pointer (some ⟨bbj_2, 0, none⟩), .bool (canc j)] 97 (0, 0))] ++ (Tj_2 ++ Mbj_2)) :: Wc :: (jcs.eraseIdx nj_2).flatten :: (Tri p 81 (preP F.cfg wb wo wn wk q m) (([] : List Ref).flatMap encRef) (encStt F.st)) :: acs.flatten :: dcs.flatten :: Qc :: Jc :: H :: F0) := Sat.perm (show Sat W _ ([(bj_2, .cells #[.slice taj_2 tnj_2 tkj_2, .int .i64 j.band, .pointer (some ⟨bbj_2, 0, none⟩), .bool (canc j)] 97 (0, 0))] :: Tj_2 :: Mbj_2 :: Wc :: (jcs.eraseIdx nj_2).flatten :: (Tri p 81 (preP F.cfg wb wo wn wk q m) (([] : List Ref).flatMap encRef) (encStt F.st)) :: acs.flatten :: dcs.flatten :: Qc :: Jc :: H :: F0) from hS_18) (by simp)
  refine cX Try.call64 (p_running (s := j) (JobP.mk (s := j) hTj_2 hDj_2 hVj_2 hBj_2 ha hrj_2 rfl) hBW hdl hS_19) ?_
  rintro _ w_22 ⟨rfl, hS_20⟩
  have hS_21 : Sat W _ ([(bj_2, .cells #[.slice taj_2 tnj_2 tkj_2, .int .i64 j.band, .pointer (some ⟨bbj_2, 0, none⟩), .bool (canc j)] 97 (0, 0))] :: Tj_2 :: Mbj_2 :: Wc :: (jcs.eraseIdx nj_2).flatten :: (Tri p 81 (preP F.cfg wb wo wn wk q m) (([] : List Ref).flatMap encRef) (encStt F.st)) :: acs.flatten :: dcs.flatten :: Qc :: Jc :: H :: F0) := Sat.perm hS_20 (by simp)
  refine nilO ⟨⟨.inl (by kernel_rfl), .inl (by kernel_rfl), trivial⟩, ?_⟩
  refine wU [14, 15] ?_
  refine wN ?_
  refine thenK_n <| retE <| retT [.bool j.running] <| ?_
  have hS_26 := ((((hS_21.pick 4 rfl).pick 3 rfl).pick 3 rfl).pick 3 rfl)
  have hS_23 : Sat W _ (([(bj_2, .cells #[.slice taj_2 tnj_2 tkj_2, .int .i64 j.band, .pointer (some ⟨bbj_2, 0, none⟩), .bool (canc j)] 97 (0, 0))] ++ (Tj_2 ++ Mbj_2)) :: (jcs.eraseIdx nj_2).flatten :: Wc :: (Tri p 81 (preP F.cfg wb wo wn wk q m) (([] : List Ref).flatMap encRef) (encStt F.st)) :: acs.flatten :: dcs.flatten :: Qc :: Jc :: H :: F0) := Sat.perm (show Sat W _ ([(bj_2, .cells #[.slice taj_2 tnj_2 tkj_2, .int .i64 j.band, .pointer (some ⟨bbj_2, 0, none⟩), .bool (canc j)] 97 (0, 0))] :: Tj_2 :: Mbj_2 :: (jcs.eraseIdx nj_2).flatten :: Wc :: (Tri p 81 (preP F.cfg wb wo wn wk q m) (([] : List Ref).flatMap encRef) (encStt F.st)) :: acs.flatten :: dcs.flatten :: Qc :: Jc :: H :: F0) from hS_26) (by simp)
  have hS_24 := Sat.shutN (d := ([(bj_2, .cells #[.slice taj_2 tnj_2 tkj_2, .int .i64 j.band, .pointer (some ⟨bbj_2, 0, none⟩), .bool (canc j)] 97 (0, 0))] ++ (Tj_2 ++ Mbj_2))) (A := []) nj_2 hjcj_2 hS_23
  rw [set_same hjcj_2] at hS_24
  have hS_27 : Sat W _ ((Tri p 81 (preP F.cfg wb wo wn wk q m) (([] : List Ref).flatMap encRef) (encStt F.st)) :: Wc :: acs.flatten :: dcs.flatten :: Qc :: Jc :: jcs.flatten :: H :: F0) := ((((((hS_24.pick 6 rfl).pick 6 rfl).pick 6 rfl).pick 6 rfl).pick 5 rfl).pick 6 rfl)
  have hS_29 : Sat W _ (((Tri p 81 (preP F.cfg wb wo wn wk q m) (([] : List Ref).flatMap encRef) (encStt F.st)) ++ (Wc ++ (acs.flatten ++ (dcs.flatten ++ (Qc ++ (Jc ++ jcs.flatten)))))) :: H :: F0) := Sat.perm (show Sat W _ ((Tri p 81 (preP F.cfg wb wo wn wk q m) (([] : List Ref).flatMap encRef) (encStt F.st)) :: Wc :: acs.flatten :: dcs.flatten :: Qc :: Jc :: jcs.flatten :: H :: F0) from hS_27) (by simp)
  exact ⟨congrArg (fun b => Ending.returned (.bool b)) ((busy_at hv0 hh hj).symm), hS_29⟩
theorem pf_busy_n {p : Nat} {F : FS} {M : Chunk} {F0 : List Chunk} (hR : FarmP p F M) {K : Int} (hF : FI F K) {v0 : Wkr} (x : Int) (hx : 0 ≤ x ∧ x < F.ws.length) (hv0 : F.ws[x.toNat]? = some v0) (hh : ¬ Holds v0) (hS : Sat W w (M :: H :: F0)) :
    Calls Try.prog 57 #[.pointer (some ⟨p, 0, none⟩), .int .i64 x] w fun e w' => e = .returned (.bool (busyW F (wAt F x))) ∧ Sat W w' (M :: H :: F0) := by
  obtain ⟨wb, wo, wn, wk, q, m, xs, jm, Wc, Qc, Jc, acs, dcs, jcs, rfl, hOw, hco, hAs, hDs, hQ, hM, hJs⟩ := hR
  have hS_1 : Sat W _ ((Tri p 81 (preP F.cfg wb wo wn wk q m) (([] : List Ref).flatMap encRef) (encStt F.st)) :: Wc :: acs.flatten :: dcs.flatten :: Qc :: Jc :: jcs.flatten :: H :: F0) := Sat.perm hS (by simp)
  have hwl := hOw.len; have hwk := hOw.le; have hcl := core_len hco; have has1 := hAs.1; have hds1 := hDs.1; rw [List.length_map] at has1 hds1; have hjl1 := hJs.l
  have hid := hF.idle hv0 hh
  refine callsA 27 Try.func57 rfl ?_
  refine seqE <| regionE <| pu1 <| nilO <| thenK_n <| seqE <| regionE <| pu3 ?_
  refine sLp hS_1 (ptr_up 0 rfl tri_pre) 8 (.slice (some ⟨wb, wo, none⟩) wn wk) (Try.isAgg79 _) ?_
  refine pu1 ?_
  refine sIdxO hOw x (x).toNat Try.runUnderlying79 Try.sizeOf89 ?_
  intro x_2 b_3 o_4 hx_5 hp_6 hq_7
  obtain ⟨rfl, rfl⟩ := some_addr hq_7
  obtain ⟨v_8, hv_8, hv_80, hv_81, hv_82, hv_83, hv_84⟩ := core_at hco hx_5
  have hvv_v_8 : v_8 = v0 := Option.some.inj (hv_8.symm.trans hv0); rw [hvv_v_8] at hv_80 hv_81 hv_82 hv_83 hv_84
  refine pu1 <| nilO <| thenK_n <| seqE ?_
  have hc_9 : ¬ (x_2.phase ≠ 0 ∧ x_2.phase ≠ 4) := (by omega)
  refine drawE [1, 12, 13] [] [(true, [0]), (false, [1]), (true, [2]), (true, [3, 4, 5, 7, 8, 9, 10, 6, 11]), (false, [12]), (false, [13]), (true, [14, 15])] rfl (by kernel_rfl) trivial ?_
  have hS_10 := hS_1.drew
  refine wU [0] ?_
  refine wO rfl ?_
  have hS_11 := (hS_10.pick 1 rfl)
  refine cX Try.call52 (p_holds (x := x_2) hp_6 hS_11) ?_
  rintro _ w_12 ⟨rfl, hS_13⟩
  refine nilO ⟨trivial, ?_⟩
  refine wU [2] ?_
  refine wFix 14 _ false (decide_eq_false hc_9) ?_
  refine wU [3, 4, 5, 7, 8, 9, 10, 6, 11] ?_
  refine wO rfl ?_
  refine pu1 ?_
  refine nilO ⟨trivial, ?_⟩
  refine wO rfl ?_
  refine pu1 ?_
  refine nilO ⟨trivial, ?_⟩
  refine wU [14, 15] ?_
  refine wN ?_
  refine thenK_n <| retE <| retT [.bool false] <| ?_
  have hS_14 := (hS_13.pick 1 rfl)
  have hS_15 : Sat W _ (((Tri p 81 (preP F.cfg wb wo wn wk q m) (([] : List Ref).flatMap encRef) (encStt F.st)) ++ (Wc ++ (acs.flatten ++ (dcs.flatten ++ (Qc ++ (Jc ++ jcs.flatten)))))) :: H :: F0) := Sat.perm (show Sat W _ ((Tri p 81 (preP F.cfg wb wo wn wk q m) (([] : List Ref).flatMap encRef) (encStt F.st)) :: Wc :: acs.flatten :: dcs.flatten :: Qc :: Jc :: jcs.flatten :: H :: F0) from hS_14) (by simp)
  exact ⟨congrArg (fun b => Ending.returned (.bool b)) ((busy_not hv0 hh).symm), hS_15⟩
theorem pf_busy {W w : World} {p : Nat} {F : FS} {M H : Chunk} {F0 : List Chunk} (hR : FarmP p F M) {K : Int} (hF : FI F K) (x : Int) (hx : 0 ≤ x ∧ x < F.ws.length) (hS : Sat W w (M :: H :: F0)) :
    Calls Try.prog 57 #[.pointer (some ⟨p, 0, none⟩), .int .i64 x] w fun e w' => e = .returned (.bool (busyW F (wAt F x))) ∧ Sat W w' (M :: H :: F0) := by
  by_cases hh : Holds (wAt F x)
  · exact pf_busy_h hR hF x hx (hF.fw.wmem hx) hh hS
  · exact pf_busy_n hR hF x hx (hF.fw.wmem hx) hh hS
end Go.Proofs.Ytegmennaekipaaa
