import Derived.Test.YtimkhljglpookaaGreatAu1
namespace Go.Proofs.YtimkhljglpookaaGreat
open Go Go.E
set_option linter.unusedVariables false
set_option linter.unusedSimpArgs false
set_option linter.unnecessarySimpa false
set_option maxRecDepth 100000
set_option maxHeartbeats 2000000
variable {W w : World} {H : Chunk} {F : List Chunk}

/-! ### what the events do -/
def MachR (p wb wo : Nat) (H : Chunk) (off : List TL) (m : MS) (M : Chunk) : Prop := ∃ (oa ja : Option Addr) (on ok wn wk jn jk : Nat) (ps : List Nat) (Wc Jc : Chunk) (jcs : List Chunk),
  M = [(p, .cells #[.slice oa on ok, .slice (some ⟨wb, wo, none⟩) wn wk, .slice ja jn jk, .int .i64 m.rd] 74 (0, 0))] ++ (Wc ++ (Jc ++ jcs.flatten)) ∧
  OwnT encWk 120 5 (some ⟨wb, wo, none⟩) wn wk m.ws Wc ∧ OwnT encP 153 1 ja jn jk ps Jc ∧ Obs (JobA H) ps m.jobs jcs ∧ RdT encTL 1 [H] oa on ok off ∧ (∀ z ∈ off, TL.Ok [H] z)
instance : Inhabited Task := ⟨⟨0, 0, 0, 0, 0, 0, ⟨none, 0, 0, []⟩, 0, 0⟩⟩
def jobA (m : MS) (n : Int) : JA := m.jobs.getD n.toNat default
def refW (v : Wk) : Ref := ⟨v.heldJob, v.heldTask⟩
def takeM (m : MS) (k : Nat) (v : Wk) (r : Ref) : Option MS :=
  if ¬ (v.phase = 0 ∧ runsM m.jobs r.job = true) then none
  else match (jobA m r.job).B with
  | none => none
  | some B => if (startB B r.task).2.2 ≠ 0 then none else some ⟨m.ws.set k ⟨1, r.job, r.task, (startB B r.task).2.1, 0⟩, m.jobs.set r.job.toNat { jobA m r.job with B := some (startB B r.task).1 }, m.rd - 1⟩
def microM (m : MS) (k : Nat) (v : Wk) (e : Evt) : Option MS :=
  match (jobA m v.heldJob).B with
  | none => none
  | some B =>
    if e.kind = 6 ∧ v.phase = 1 then some { m with ws := m.ws.set k { v with phase := 2 } }
    else if e.kind = 7 ∧ v.phase = 2 then some { m with ws := m.ws.set k { v with row := v.row + 1, phase := if v.row + 1 = ((jobA m v.heldJob).T.getD v.heldTask.toNat default).rows then 3 else 2 } }
    else if e.kind = 8 ∧ v.phase = 3 ∧ e.refJob = v.heldJob ∧ e.refTask = v.heldTask then
      if heldC B v.heldTask v.attempt ≠ 0 then none
      else some ⟨m.ws.set k ⟨0, 0, 0, 0, 0⟩, m.jobs.set v.heldJob.toNat { jobA m v.heldJob with B := some (comB B v.heldTask v.attempt).1 }, m.rd + (((comB B v.heldTask v.attempt).2.length : Nat) : Int)⟩
    else none
def dropM (m : MS) (k : Nat) (v : Wk) (r : Ref) : Option MS :=
  if (v.phase ≠ 0 ∧ v.phase ≠ 4) ∧ v.heldJob = r.job ∧ v.heldTask = r.task ∧ (jobA m r.job).x = true then some { m with ws := m.ws.set k ⟨0, 0, 0, 0, 0⟩ } else none
def crashM (m : MS) (k : Nat) (v : Wk) (r : Ref) : Option MS :=
  if v.phase = 4 ∨ ¬ (v.heldJob = r.job ∧ v.heldTask = r.task) then none
  else if busyM m.jobs v = true then
    match (jobA m r.job).B with
    | none => none
    | some B => if heldC B r.task v.attempt ≠ 0 then none else some ⟨m.ws.set k ⟨4, 0, 0, 0, 0⟩, m.jobs.set r.job.toNat { jobA m r.job with B := some (retB B r.task v.attempt) }, m.rd + 1⟩
  else some { m with ws := m.ws.set k ⟨4, 0, 0, 0, 0⟩ }
def cancelM (m : MS) (n : Int) : Option MS :=
  if runsM m.jobs n = true then
    match (jobA m n).B with
    | none => none
    | some B => some { m with jobs := m.jobs.set n.toNat { jobA m n with x := true }, rd := m.rd - (((idxOf 2 0 B.st).length : Nat) : Int) }
  else none
def submitM (off : List TL) (m : MS) (e : Evt) : Option MS :=
  if e.job ≠ ((m.jobs.length : Nat) : Int) then none
  else if e.err ≠ 0 then some { m with jobs := m.jobs ++ [⟨[], none, false⟩] }
  else match off[e.job.toNat]? with
  | none => none
  | some T => if validC T.l.l ≠ 0 then none else some { m with jobs := m.jobs ++ [⟨T.l.l, some (newB T.l.l), false⟩], rd := m.rd + (((idxOf 2 0 (newB T.l.l).st).length : Nat) : Int) }
theorem runsM_some {K : Int} {jobs : List JA} {n : Int} (h : runsM jobs n = true) (hW : ∀ j ∈ jobs, JW K j) : ∃ s B, jobs[n.toNat]? = some s ∧ 0 ≤ n ∧ n < ((jobs.length : Nat) : Int) ∧ s.B = some B ∧ s.x = false ∧ doneOf B < ((B.deps.length : Nat) : Int) ∧ BWf B K ∧ B.deps.length = s.T.length := by
  unfold runsM at h
  obtain ⟨h1, h2⟩ := (Bool.and_eq_true _ _).mp h
  have h1 := of_decide_eq_true h1
  have h3 : n.toNat < jobs.length := by omega
  have h4 : jobs[n.toNat]? = some jobs[n.toNat] := List.getElem?_eq_getElem h3
  rw [getD_some h4] at h2
  unfold runJ at h2
  obtain ⟨h5, h6⟩ := (Bool.and_eq_true _ _).mp h2
  cases hB : (jobs[n.toNat]).B with
  | none => rw [hB] at h6; cases h6
  | some B =>
    rw [hB] at h6
    have h7 := hW _ (List.mem_of_getElem? h4) B hB
    exact ⟨_, B, h4, h1.1, h1.2, hB, by simpa using h5, of_decide_eq_true h6, h7.1, h7.2⟩
theorem JobA.open {H : Chunk} {p : Nat} {s : JA} {c : Chunk} {B : BS} (h : JobA H p s c) (hB : s.B = some B) : ∃ (ta : Option Addr) (tn tk q : Nat) (M : Chunk),
    c = [(p, .cells #[.slice ta tn tk, .pointer (some ⟨q, 0, none⟩), .bool s.x] 156 (0, 0))] ++ M ∧ RdT encTask 9 [H] ta tn tk s.T ∧ (∀ z ∈ s.T, Task.Ok [H] z) ∧ BoardR q B M := by
  obtain ⟨ta, tn, tk, b, M, rfl, hT, hD, hcase⟩ := h
  rcases hcase with ⟨h1, _⟩ | ⟨B2, q, h1, rfl, h3⟩
  · rw [hB] at h1; cases h1
  · rw [hB] at h1; obtain rfl := Option.some.inj h1; exact ⟨ta, tn, tk, q, M, rfl, hT, hD, h3⟩
theorem JobA.mk {H : Chunk} {p : Nat} {s : JA} {B : BS} {ta : Option Addr} {tn tk q : Nat} {M : Chunk} (hB : s.B = some B) (hT : RdT encTask 9 [H] ta tn tk s.T) (hD : ∀ z ∈ s.T, Task.Ok [H] z) (hR : BoardR q B M) :
    JobA H p s ([(p, .cells #[.slice ta tn tk, .pointer (some ⟨q, 0, none⟩), .bool s.x] 156 (0, 0))] ++ M) := ⟨ta, tn, tk, _, M, rfl, hT, hD, .inr ⟨B, q, hB, rfl, hR⟩⟩
theorem idx_le {y : Int} : ∀ {s : List Int} {k : Nat}, (idxOf y k s).length ≤ s.length
  | [], _ => Nat.le_refl _
  | x :: s, k => by
    have := idx_le (y := y) (s := s) (k := k + 1)
    simp only [idxOf, List.length_append, List.length_cons]
    split <;> simp <;> omega
theorem eqvn40 (w : World) (a0 a1 b0 b1 : Int) : ∀ x y, ((do eqGuard .neq 40 x y (.agg #[.int .i64 a0, .int .i64 a1]) (.agg #[.int .i64 b0, .int .i64 b1]); binOp .neq 40 (.agg #[.int .i64 a0, .int .i64 a1]) (.agg #[.int .i64 b0, .int .i64 b1])) : Sem Value).run Tryz.prog w = .ok (.bool (!((a0 == b0) && (a1 == b1)))) w := by
  intro x y
  simp [go_sem, run_eqGuard_agg, run_neq_struct, run_equalIn_agg]
  by_cases h0 : a0 = b0 <;> by_cases h1 : a1 = b1 <;> simp [*]
theorem eqve40 (w : World) (a0 a1 b0 b1 : Int) : ∀ x y, ((do eqGuard .eql 40 x y (.agg #[.int .i64 a0, .int .i64 a1]) (.agg #[.int .i64 b0, .int .i64 b1]); binOp .eql 40 (.agg #[.int .i64 a0, .int .i64 a1]) (.agg #[.int .i64 b0, .int .i64 b1])) : Sem Value).run Tryz.prog w = .ok (.bool ((a0 == b0) && (a1 == b1))) w := by
  intro x y
  simp [go_sem, run_eqGuard_agg, run_eql_struct, run_equalIn_agg]
  by_cases h0 : a0 = b0 <;> by_cases h1 : a1 = b1 <;> simp [*]
theorem am_take {p wb wo : Nat} {H : Chunk} {oa ja : Option Addr} {on ok wn wk jn jk : Nat} {rd : Int} {ws : List Wk} {jobs : List JA} {ps : List Nat} {Wc Jc : Chunk} {jcs F : List Chunk} {K : Int} (hOw : OwnT encWk 120 5 (some ⟨wb, wo, none⟩) wn wk ws Wc) (hOj : OwnT encP 153 1 ja jn jk ps Jc) (hJs : Obs (JobA H) ps jobs jcs) (hJW : ∀ j ∈ jobs, JW K j) {off : List TL} (hof : RdT encTL 1 [H] oa on ok off) (dof : ∀ z ∈ off, TL.Ok [H] z) (hrd : -1000000000 ≤ rd ∧ rd ≤ 1000000000) (hK : K ≤ 1000000000) (k : Nat) (v : Wk) (hv : ws[k]? = some v) (r : Ref) (hS : Sat W w ([(p, .cells #[.slice oa on ok, .slice (some ⟨wb, wo, none⟩) wn wk, .slice ja jn jk, .int .i64 rd] 74 (0, 0))] :: Wc :: Jc :: jcs.flatten :: H :: F)) :
    Calls Tryz.prog 55 #[.pointer (some ⟨p, 0, none⟩), .pointer (some ⟨wb, wo + k * 5, none⟩), .agg #[.int .i64 r.job, .int .i64 r.task]] w fun e w' => (takeM (⟨ws, jobs, rd⟩ : MS) k v r = none ∧ e = .returned (.bool false) ∧ Sat W w' (H :: F)) ∨ (∃ (m' : MS) (M' : Chunk), takeM (⟨ws, jobs, rd⟩ : MS) k v r = some m' ∧ e = .returned (.bool true) ∧ MachR p wb wo H off m' M' ∧ Sat W w' (M' :: H :: F)) := by
  have hwl := hOw.len; have hwk := hOw.le; have hjl := hOj.len; have hjk := hOj.le; have hjs := hJs.1
  have hp_1 := OwnT.ptr hOw rfl hv
  refine callsA 52 Tryz.func55 rfl ?_
  refine seqE <| regionE ?_
  refine sBox hS (.agg #[.int .i64 r.job, .int .i64 r.task]) #[.int .i64 r.job, .int .i64 r.task] ?_
  intro b_2 w_3 hS_4
  refine pu1 <| nilO <| thenK_n <| seqE <| seqE <| regionE <| pu3 ?_
  refine sLp hS_4 (hp_1.up 2 rfl) 0 (.int .i64 v.phase) (Tryz.isAgg3 _) ?_
  refine pu2 ?_
  refine sN 14 v.phase 0 (fun hc_5 => ?_) (fun hc_5 => ?_)
  rotate_left
  · refine pu6 <| nilO <| thenK_n <| cTt <| seqE <| regionE <| pu1 <| nilO <| thenK_n <| retE <| thenK_r <| retT [.bool false] <| ?_
    have hS_43 := (((((hS_4.dropAt 0 rfl).dropAt 0 rfl).dropAt 0 rfl).dropAt 0 rfl).dropAt 0 rfl)
    exact .inl ⟨by unfold takeM; rw [if_pos (by intro h; omega)], rfl, hS_43⟩
  refine pu2 <| gY ?_
  refine sL hS_4 0 0 (.int .i64 r.job) (Tryz.isAgg3 _) ?_
  refine gY ?_
  have hS_6 := (((((hS_4.pick 5 rfl).pick 5 rfl).pick 5 rfl).pick 5 rfl).pick 5 rfl)
  refine cX Tryz.call93 (am_runs hOw hOj hJs hJW r.job hS_6) ?_
  rintro _ w_7 ⟨rfl, hS_8⟩
  refine pu2 <| nilO <| thenK_n <| ?_
  refine cBn (runsM jobs r.job) (fun hc_9 => ?_) (fun hc_9 => ?_)
  rotate_left
  · refine seqE <| regionE <| pu1 <| nilO <| thenK_n <| retE <| thenK_r <| retT [.bool false] <| ?_
    have hS_42 := (((((hS_8.dropAt 0 rfl).dropAt 0 rfl).dropAt 0 rfl).dropAt 0 rfl).dropAt 1 rfl)
    exact .inl ⟨by unfold takeM; rw [if_pos (by intro h; exact absurd h.2 hc_9)], rfl, hS_42⟩
  refine skipE <| thenK_n <| seqE ?_
  obtain ⟨sJ_9, BJ_9, hsJ_9, hnJ_9, hmJ_9, hBJ_9, hxJ_9, hdJ_9, hWJ_9, hlJ_9⟩ := runsM_some hc_9 hJW
  obtain ⟨qJ_9, hqJ_9⟩ := at_some hjl (k := r.job.toNat) (by omega)
  obtain ⟨s2J_9, cJ_9, hs2J_9, hcJ_9, hJJ_9⟩ := Obs.get hJs hqJ_9; obtain rfl : s2J_9 = sJ_9 := Option.some.inj (hs2J_9.symm.trans hsJ_9)
  obtain ⟨taJ_9, tnJ_9, tkJ_9, qbJ_9, MJ_9, rfl, hTJ_9, hDJ_9, hRJ_9⟩ := hJJ_9.open hBJ_9
  have hS_11 := (hS_8.pick 3 rfl)
  have hS_12 := Sat.openN (A := []) (r.job.toNat) hcJ_9 hS_11
  have hSJ_9 : Sat W _ ([(qJ_9, .cells #[.slice taJ_9 tnJ_9 tkJ_9, .pointer (some ⟨qbJ_9, 0, none⟩), .bool s2J_9.x] 156 (0, 0))] :: MJ_9 :: (jcs.eraseIdx (r.job.toNat)).flatten :: [(p, .cells #[.slice oa on ok, .slice (some ⟨wb, wo, none⟩) wn wk, .slice ja jn jk, .int .i64 rd] 74 (0, 0))] :: Wc :: Jc :: H :: [(b_2, .cells #[.int .i64 r.job, .int .i64 r.task] 40 (0, 0))] :: F) := Sat.perm hS_12 (by simp)
  have hnt_9 := hTJ_9.len; have hlt_9 := hTJ_9.le; have hn0_9 := hWJ_9.n0; have hls_9 := hWJ_9.ls
  obtain ⟨x_13, b_14, o_15, hx_16, hp_17, hq_18, ha_19⟩ := OwnT.elem hOj r.job
  obtain rfl : qJ_9 = x_13 := Option.some.inj (hqJ_9.symm.trans hx_16)
  refine drawE [13] [(3, ⟨p, 2, none⟩, .slice ja jn jk), (5, ⟨b_2, 0, none⟩, .int .i64 r.job), (7, ⟨b_14, o_15 + (r.job).toNat * 1, none⟩, .pointer (some ⟨qJ_9, 0, none⟩)), (10, ⟨qJ_9, 1, none⟩, .pointer (some ⟨qbJ_9, 0, none⟩)), (12, ⟨b_2, 1, none⟩, .int .i64 r.task)] [(true, [0, 1, 2, 4, 11]), (true, [3]), (true, [5]), (true, [6]), (true, [7]), (true, [8, 9]), (true, [10]), (true, [12]), (false, [13]), (true, [14]), (true, [15]), (true, [16]), (true, [17, 18])] rfl (by kernel_rfl) ⟨.inr (hSJ_9.cell 3 rfl rfl), .inr (hSJ_9.cell 7 rfl rfl), .inr ((hp_17.up 5 rfl).cell hSJ_9 (k := 0) rfl), .inr (hSJ_9.cell 0 rfl rfl), .inr (hSJ_9.cell 7 rfl rfl), trivial⟩ ?_
  have hS_20 := hSJ_9.drew
  refine wU [0, 1, 2, 4, 11] ?_
  refine wLd (.slice ja jn jk) 0 Tryz.isAgg72 ?_
  refine wLd (.int .i64 r.job) 1 Tryz.isAgg3 ?_
  refine wY (.pointer (some ⟨b_14, o_15 + (r.job).toNat * 1, none⟩)) rfl (fun w _ => Y_idx (a := ja) (i := r.job) (len := jn) (cap := jk) rfl Tryz.runUnderlying72 Tryz.sizeOf153 (by kernel_rfl) (by kernel_rfl) hq_18) ?_
  refine wLd (.pointer (some ⟨qJ_9, 0, none⟩)) 2 Tryz.isAgg153 ?_
  refine wU [8, 9] ?_
  refine wLd (.pointer (some ⟨qbJ_9, 0, none⟩)) 3 Tryz.isAgg154 ?_
  refine wLd (.int .i64 r.task) 4 Tryz.isAgg3 ?_
  refine wO rfl ?_
  have hS_21 := (hS_20.pick 1 rfl)
  refine cX Tryz.call94 (b_start hRJ_9 hWJ_9 r.task (Sat.flat1 hS_21)) ?_
  rintro _ w_22 ⟨M_25, rfl, hR_26, hS_23⟩
  have hS_24 := Sat.unflat1 hS_23
  refine nilO ⟨⟨.inr (hS_24.cell 3 rfl rfl), .inr (hS_24.cell 7 rfl rfl), .inr ((hp_17.up 5 rfl).cell hS_24 (k := 0) rfl), .inl (by kernel_rfl), .inl (by kernel_rfl), trivial⟩, ?_⟩
  refine wU [14] <| wU [15] <| wU [16] <| wU [17, 18] ?_
  refine wN ?_
  refine thenK_n <| seqE <| seqE <| regionE <| pu2 <| nilO <| thenK_n <| ?_
  refine cN ((startB BJ_9 r.task).2.2) 0 (fun hc_27 => ?_) (fun hc_27 => ?_)
  rotate_left
  · refine seqE <| regionE <| pu1 <| nilO <| thenK_n <| retE <| thenK_r <| retT [.bool false] <| ?_
    have hS_40 : Sat W _ (H :: [(b_2, .cells #[.int .i64 r.job, .int .i64 r.task] 40 (0, 0))] :: F) := ((((((hS_24.dropAt 0 rfl).dropAt 0 rfl).dropAt 0 rfl).dropAt 0 rfl).dropAt 0 rfl).dropAt 0 rfl)
    have hS_41 := (hS_40.dropAt 1 rfl)
    exact .inl ⟨by unfold takeM jobA; dsimp only; rw [if_neg (not_not_intro ⟨by omega, hc_9⟩), getD_some hs2J_9]; simp only [hBJ_9]; rw [if_pos hc_27], rfl, hS_41⟩
  refine skipE <| thenK_n <| seqE <| regionE <| pu3 ?_
  refine sL hS_24 3 3 (.int .i64 rd) (Tryz.isAgg3 _) ?_
  refine sSub rd 1 ?_
  refine pu2 ?_
  refine tW hS_24 3 3 (.int .i64 (rd - 1)) Tryz.sizeOf3 ?_
  intro w_28 hS_29
  refine nilO <| thenK_n <| seqE <| regionE <| pu1 ?_
  refine lA hS_29 7 0 2 (Tryz.isAgg40 _) (Tryz.sizeOf40 _) ?_
  refine pu3 ?_
  refine sStF hS_29 hOw rfl 4 k 0 v (⟨1, r.job, r.task, (startB BJ_9 r.task).2.1, 0⟩ : Wk) hv (.agg #[.int .i64 1, .int .i64 r.job, .int .i64 r.task, .int .i64 ((startB BJ_9 r.task).2.1), .int .i64 0]) [.int .i64 1, .int .i64 r.job, .int .i64 r.task, .int .i64 ((startB BJ_9 r.task).2.1), .int .i64 0] Tryz.sizeOf120 ?_
  intro w_30 c_32 hO_33 hS_31
  refine nilO <| thenK_n <| seqE <| regionE <| pu1 <| nilO <| thenK_n <| retE <| retT [.bool true] <| ?_
  have hS_34 := (((hS_31.pick 2 rfl).pick 1 rfl).pick 2 rfl)
  have hS_35 : Sat W _ (([(qJ_9, .cells #[.slice taJ_9 tnJ_9 tkJ_9, .pointer (some ⟨qbJ_9, 0, none⟩), .bool ({ s2J_9 with B := some ((startB BJ_9 r.task).1) }).x] 156 (0, 0))] ++ M_25) :: (jcs.eraseIdx (r.job.toNat)).flatten :: [(p, .cells #[.slice oa on ok, .slice (some ⟨wb, wo, none⟩) wn wk, .slice ja jn jk, .int .i64 (rd - 1)] 74 (0, 0))] :: c_32 :: Jc :: H :: [(b_2, .cells #[.int .i64 r.job, .int .i64 r.task] 40 (0, 0))] :: F) := Sat.perm (show Sat W _ ([(qJ_9, .cells #[.slice taJ_9 tnJ_9 tkJ_9, .pointer (some ⟨qbJ_9, 0, none⟩), .bool ({ s2J_9 with B := some ((startB BJ_9 r.task).1) }).x] 156 (0, 0))] :: M_25 :: (jcs.eraseIdx (r.job.toNat)).flatten :: [(p, .cells #[.slice oa on ok, .slice (some ⟨wb, wo, none⟩) wn wk, .slice ja jn jk, .int .i64 (rd - 1)] 74 (0, 0))] :: c_32 :: Jc :: H :: [(b_2, .cells #[.int .i64 r.job, .int .i64 r.task] 40 (0, 0))] :: F) from hS_34) (by simp)
  have hS_36 := Sat.shutN (d := ([(qJ_9, .cells #[.slice taJ_9 tnJ_9 tkJ_9, .pointer (some ⟨qbJ_9, 0, none⟩), .bool ({ s2J_9 with B := some ((startB BJ_9 r.task).1) }).x] 156 (0, 0))] ++ M_25)) (A := []) (r.job.toNat) hcJ_9 hS_35
  have hO_37 := Obs.set hJs hqJ_9 (JobA.mk (s := { s2J_9 with B := some ((startB BJ_9 r.task).1) }) rfl hTJ_9 hDJ_9 hR_26)
  have hS_38 := ((((hS_36.pick 3 rfl).pick 3 rfl).pick 3 rfl).dropAt 5 rfl)
  have hS_39 : Sat W _ (([(p, .cells #[.slice oa on ok, .slice (some ⟨wb, wo, none⟩) wn wk, .slice ja jn jk, .int .i64 (rd - 1)] 74 (0, 0))] ++ (c_32 ++ (Jc ++ (jcs.set (r.job.toNat) ([(qJ_9, .cells #[.slice taJ_9 tnJ_9 tkJ_9, .pointer (some ⟨qbJ_9, 0, none⟩), .bool ({ s2J_9 with B := some ((startB BJ_9 r.task).1) }).x] 156 (0, 0))] ++ M_25)).flatten))) :: H :: F) := Sat.perm (show Sat W _ ([(p, .cells #[.slice oa on ok, .slice (some ⟨wb, wo, none⟩) wn wk, .slice ja jn jk, .int .i64 (rd - 1)] 74 (0, 0))] :: c_32 :: Jc :: (jcs.set (r.job.toNat) ([(qJ_9, .cells #[.slice taJ_9 tnJ_9 tkJ_9, .pointer (some ⟨qbJ_9, 0, none⟩), .bool ({ s2J_9 with B := some ((startB BJ_9 r.task).1) }).x] 156 (0, 0))] ++ M_25)).flatten :: H :: F) from hS_38) (by simp)
  exact .inr ⟨⟨(ws.set k (⟨1, r.job, r.task, (startB BJ_9 r.task).2.1, 0⟩ : Wk)), (jobs.set (r.job.toNat) ({ s2J_9 with B := some ((startB BJ_9 r.task).1) })), (rd - 1)⟩, _, by unfold takeM jobA; dsimp only; rw [if_neg (not_not_intro ⟨by omega, hc_9⟩), getD_some hs2J_9]; simp only [hBJ_9]; rw [if_neg (not_not_intro hc_27)], rfl, ⟨_, _, _, _, _, _, _, _, _, _, _, _, rfl, hO_33, hOj, hO_37, hof, dof⟩, hS_39⟩
theorem am_micro {p wb wo : Nat} {H : Chunk} {oa ja : Option Addr} {on ok wn wk jn jk : Nat} {rd : Int} {ws : List Wk} {jobs : List JA} {ps : List Nat} {Wc Jc : Chunk} {jcs F : List Chunk} {K : Int} (hOw : OwnT encWk 120 5 (some ⟨wb, wo, none⟩) wn wk ws Wc) (hOj : OwnT encP 153 1 ja jn jk ps Jc) (hJs : Obs (JobA H) ps jobs jcs) (hJW : ∀ j ∈ jobs, JW K j) {off : List TL} (hof : RdT encTL 1 [H] oa on ok off) (dof : ∀ z ∈ off, TL.Ok [H] z) (hrd : -1000000000 ≤ rd ∧ rd ≤ 1000000000) (hK : K ≤ 1000000000) (k : Nat) (v : Wk) (hv : ws[k]? = some v) (ev : Evt) (hbusy : busyM jobs v = true) (hrow : 0 ≤ v.row ∧ v.row ≤ 1000000000) (hht0 : ∀ s, jobs[v.heldJob.toNat]? = some s → 0 ≤ v.heldTask ∧ v.heldTask < ((s.T.length : Nat) : Int)) (hsm : ∀ j ∈ jobs, j.T.length ≤ 12) (hS : Sat W w ([(p, .cells #[.slice oa on ok, .slice (some ⟨wb, wo, none⟩) wn wk, .slice ja jn jk, .int .i64 rd] 74 (0, 0))] :: Wc :: Jc :: jcs.flatten :: H :: F)) :
    Calls Tryz.prog 58 #[.pointer (some ⟨p, 0, none⟩), .pointer (some ⟨wb, wo + k * 5, none⟩), .agg (encEvt ev).toArray] w fun e w' => (microM (⟨ws, jobs, rd⟩ : MS) k v ev = none ∧ e = .returned (.bool false) ∧ Sat W w' (H :: F)) ∨ (∃ (m' : MS) (M' : Chunk), microM (⟨ws, jobs, rd⟩ : MS) k v ev = some m' ∧ e = .returned (.bool true) ∧ MachR p wb wo H off m' M' ∧ Sat W w' (M' :: H :: F)) := by
  have hwl := hOw.len; have hwk := hOw.le; have hjl := hOj.len; have hjk := hOj.le; have hjs := hJs.1
  have hp_1 := OwnT.ptr hOw rfl hv
  have hrn := ((Bool.and_eq_true _ _).mp hbusy).2
  obtain ⟨sJ_1, BJ_1, hsJ_1, hnJ_1, hmJ_1, hBJ_1, hxJ_1, hdJ_1, hWJ_1, hlJ_1⟩ := runsM_some hrn hJW
  obtain ⟨qJ_1, hqJ_1⟩ := at_some hjl (k := v.heldJob.toNat) (by omega)
  obtain ⟨s2J_1, cJ_1, hs2J_1, hcJ_1, hJJ_1⟩ := Obs.get hJs hqJ_1; obtain rfl : s2J_1 = sJ_1 := Option.some.inj (hs2J_1.symm.trans hsJ_1)
  obtain ⟨taJ_1, tnJ_1, tkJ_1, qbJ_1, MJ_1, rfl, hTJ_1, hDJ_1, hRJ_1⟩ := hJJ_1.open hBJ_1
  have hS_3 := (hS.pick 3 rfl)
  have hS_4 := Sat.openN (A := []) (v.heldJob.toNat) hcJ_1 hS_3
  have hSJ_1 : Sat W _ ([(qJ_1, .cells #[.slice taJ_1 tnJ_1 tkJ_1, .pointer (some ⟨qbJ_1, 0, none⟩), .bool s2J_1.x] 156 (0, 0))] :: MJ_1 :: (jcs.eraseIdx (v.heldJob.toNat)).flatten :: [(p, .cells #[.slice oa on ok, .slice (some ⟨wb, wo, none⟩) wn wk, .slice ja jn jk, .int .i64 rd] 74 (0, 0))] :: Wc :: Jc :: H :: F) := Sat.perm hS_4 (by simp)
  have hnt_1 := hTJ_1.len; have hlt_1 := hTJ_1.le; have hn0_1 := hWJ_1.n0; have hls_1 := hWJ_1.ls
  have hht := hht0 _ hs2J_1; have hs12 := hsm _ (List.mem_of_getElem? hs2J_1)
  refine callsA 124 Tryz.func58 rfl ?_
  refine seqE <| regionE ?_
  refine sBox hSJ_1 (.agg (encEvt ev).toArray) (encEvt ev).toArray ?_
  intro b_5 w_6 hS_7
  refine pu1 <| nilO <| thenK_n <| seqE ?_
  obtain ⟨x_8, b_9, o_10, hx_11, hp_12, hq_13, ha_14⟩ := OwnT.elem hOj v.heldJob
  obtain rfl : qJ_1 = x_8 := Option.some.inj (hqJ_1.symm.trans hx_11)
  refine drawE [] [(3, ⟨p, 2, none⟩, .slice ja jn jk), (8, ⟨wb, wo + k * 5 + 1 + 0, none⟩, .int .i64 v.heldJob), (10, ⟨b_9, o_10 + (v.heldJob).toNat * 1, none⟩, .pointer (some ⟨qJ_1, 0, none⟩))] [(true, [0, 1, 2, 4, 5, 6, 7]), (true, [3]), (true, [8]), (true, [9]), (true, [10]), (true, [11])] rfl (by kernel_rfl) ⟨.inr (hS_7.cell 4 rfl rfl), .inr ((hp_1.up 5 rfl).cell hS_7 (k := 1) rfl), .inr ((hp_12.up 6 rfl).cell hS_7 (k := 0) rfl), trivial⟩ ?_
  have hS_15 := hS_7.drew
  refine wU [0, 1, 2, 4, 5, 6, 7] ?_
  refine wLd (.slice ja jn jk) 0 Tryz.isAgg72 ?_
  refine wLd (.int .i64 v.heldJob) 1 Tryz.isAgg3 ?_
  refine wY (.pointer (some ⟨b_9, o_10 + (v.heldJob).toNat * 1, none⟩)) rfl (fun w _ => Y_idx (a := ja) (i := v.heldJob) (len := jn) (cap := jk) rfl Tryz.runUnderlying72 Tryz.sizeOf153 (by kernel_rfl) (by kernel_rfl) hq_13) ?_
  refine wLd (.pointer (some ⟨qJ_1, 0, none⟩)) 2 Tryz.isAgg153 ?_
  refine wU [11] ?_
  refine wN ?_
  refine thenK_n <| seqE <| blockE <| seqE <| regionE <| pu1 ?_
  refine sL hS_15 0 0 (.int .i64 ev.kind) (Tryz.isAgg3 _) ?_
  refine pu2 ?_
  refine sE 25 ev.kind 6 (fun hc_16 => ?_) (fun hc_16 => ?_)
  · refine pu3 <| gY ?_
    refine sLp hS_15 (hp_1.up 5 rfl) 0 (.int .i64 v.phase) (Tryz.isAgg3 _) ?_
    refine pu3 <| nilO <| thenK_n <| ?_
    refine cE v.phase 1 (fun hc_17 => ?_) (fun hc_17 => ?_)
    rotate_left
    · refine seqE <| regionE <| pu1 ?_
      refine sL hS_15 0 0 (.int .i64 ev.kind) (Tryz.isAgg3 _) ?_
      refine pu2 ?_
      have hc_28 : ¬ ((ev.kind : Int) = 7) := by omega
      refine sFix 39 _ false (beq_eq_false_iff_ne.2 hc_28) ?_
      refine pu7 <| nilO <| thenK_n <| cFf <| seqE ?_
      have hc_29 : ¬ ((ev.kind : Int) = 8) := by omega
      refine drawE [] [(1, ⟨b_5, 0, none⟩, .int .i64 ev.kind)] [(true, [0]), (true, [1]), (true, [2, 3]), (true, [4, 5, 6, 7, 8, 9, 10, 11, 13, 14, 15, 12, 16, 17, 18, 19])] rfl (by kernel_rfl) ⟨.inr (hS_15.cell 0 rfl rfl), trivial⟩ ?_
      have hS_30 := hS_15.drew
      refine wU [0] ?_
      refine wLd (.int .i64 ev.kind) 0 Tryz.isAgg3 ?_
      refine wU [2, 3] ?_
      refine wFix 77 _ false (beq_eq_false_iff_ne.2 hc_29) ?_
      refine wU [4, 5, 6, 7, 8, 9, 10, 11, 13, 14, 15, 12, 16, 17, 18, 19] ?_
      refine wN ?_
      refine thenK_n <| cFf <| skipE <| blockK_n <| thenK_n <| seqE <| regionE <| pu1 <| nilO <| thenK_n <| retE <| retT [.bool false] <| ?_
      have hS_31 : Sat W _ (Jc :: H :: F) := ((((((hS_30.dropAt 0 rfl).dropAt 0 rfl).dropAt 0 rfl).dropAt 0 rfl).dropAt 0 rfl).dropAt 0 rfl)
      have hS_32 := (hS_31.dropAt 0 rfl)
      exact .inl ⟨by unfold microM jobA; dsimp only; rw [getD_some hs2J_1]; simp only [hBJ_1]; rw [if_neg (by omega), if_neg (by omega), if_neg (by omega)], rfl, hS_32⟩
    refine seqE <| regionE <| pu3 ?_
    refine sStF hS_15 hOw rfl 5 k 0 v (⟨2, v.heldJob, v.heldTask, v.attempt, v.row⟩ : Wk) hv (.int .i64 2) [.int .i64 2] Tryz.sizeOf3 ?_
    intro w_18 c_20 hO_21 hS_19
    refine nilO <| thenK_n <| seqE <| regionE <| pu1 <| nilO <| thenK_n <| retE <| blockK_r <| thenK_r <| retT [.bool true] <| ?_
    have hS_22 := (((hS_19.pick 3 rfl).pick 3 rfl).pick 3 rfl)
    have hS_23 : Sat W _ (([(qJ_1, .cells #[.slice taJ_1 tnJ_1 tkJ_1, .pointer (some ⟨qbJ_1, 0, none⟩), .bool s2J_1.x] 156 (0, 0))] ++ MJ_1) :: (jcs.eraseIdx (v.heldJob.toNat)).flatten :: [(b_5, .cells (encEvt ev).toArray 43 (0, 0))] :: [(p, .cells #[.slice oa on ok, .slice (some ⟨wb, wo, none⟩) wn wk, .slice ja jn jk, .int .i64 rd] 74 (0, 0))] :: c_20 :: Jc :: H :: F) := Sat.perm (show Sat W _ ([(qJ_1, .cells #[.slice taJ_1 tnJ_1 tkJ_1, .pointer (some ⟨qbJ_1, 0, none⟩), .bool s2J_1.x] 156 (0, 0))] :: MJ_1 :: (jcs.eraseIdx (v.heldJob.toNat)).flatten :: [(b_5, .cells (encEvt ev).toArray 43 (0, 0))] :: [(p, .cells #[.slice oa on ok, .slice (some ⟨wb, wo, none⟩) wn wk, .slice ja jn jk, .int .i64 rd] 74 (0, 0))] :: c_20 :: Jc :: H :: F) from hS_22) (by simp)
    have hS_24 := Sat.shutN (d := ([(qJ_1, .cells #[.slice taJ_1 tnJ_1 tkJ_1, .pointer (some ⟨qbJ_1, 0, none⟩), .bool s2J_1.x] 156 (0, 0))] ++ MJ_1)) (A := []) (v.heldJob.toNat) hcJ_1 hS_23
    rw [set_same hcJ_1] at hS_24
    have hS_26 := ((((hS_24.pick 4 rfl).pick 4 rfl).pick 4 rfl).dropAt 4 rfl)
    have hS_27 : Sat W _ (([(p, .cells #[.slice oa on ok, .slice (some ⟨wb, wo, none⟩) wn wk, .slice ja jn jk, .int .i64 rd] 74 (0, 0))] ++ (c_20 ++ (Jc ++ jcs.flatten))) :: H :: F) := Sat.perm (show Sat W _ ([(p, .cells #[.slice oa on ok, .slice (some ⟨wb, wo, none⟩) wn wk, .slice ja jn jk, .int .i64 rd] 74 (0, 0))] :: c_20 :: Jc :: jcs.flatten :: H :: F) from hS_26) (by simp)
    exact .inr ⟨⟨(ws.set k (⟨2, v.heldJob, v.heldTask, v.attempt, v.row⟩ : Wk)), jobs, rd⟩, _, by unfold microM jobA; dsimp only; rw [getD_some hs2J_1]; simp only [hBJ_1]; rw [if_pos (by omega)], rfl, ⟨_, _, _, _, _, _, _, _, _, _, _, _, rfl, hO_21, hOj, hJs, hof, dof⟩, hS_27⟩
  refine pu7 <| nilO <| thenK_n <| cFf <| seqE <| regionE <| pu1 ?_
  refine sL hS_15 0 0 (.int .i64 ev.kind) (Tryz.isAgg3 _) ?_
  refine pu2 ?_
  refine sE 39 ev.kind 7 (fun hc_33 => ?_) (fun hc_33 => ?_)
  · refine pu3 <| gY ?_
    refine sLp hS_15 (hp_1.up 5 rfl) 0 (.int .i64 v.phase) (Tryz.isAgg3 _) ?_
    refine pu3 <| nilO <| thenK_n <| ?_
    refine cE v.phase 2 (fun hc_34 => ?_) (fun hc_34 => ?_)
    rotate_left
    · refine seqE ?_
      have hc_65 : ¬ ((ev.kind : Int) = 8) := by omega
      refine drawE [] [(1, ⟨b_5, 0, none⟩, .int .i64 ev.kind)] [(true, [0]), (true, [1]), (true, [2, 3]), (true, [4, 5, 6, 7, 8, 9, 10, 11, 13, 14, 15, 12, 16, 17, 18, 19])] rfl (by kernel_rfl) ⟨.inr (hS_15.cell 0 rfl rfl), trivial⟩ ?_
      have hS_66 := hS_15.drew
      refine wU [0] ?_
      refine wLd (.int .i64 ev.kind) 0 Tryz.isAgg3 ?_
      refine wU [2, 3] ?_
      refine wFix 77 _ false (beq_eq_false_iff_ne.2 hc_65) ?_
      refine wU [4, 5, 6, 7, 8, 9, 10, 11, 13, 14, 15, 12, 16, 17, 18, 19] ?_
      refine wN ?_
      refine thenK_n <| cFf <| skipE <| blockK_n <| thenK_n <| seqE <| regionE <| pu1 <| nilO <| thenK_n <| retE <| retT [.bool false] <| ?_
      have hS_67 : Sat W _ (Jc :: H :: F) := ((((((hS_66.dropAt 0 rfl).dropAt 0 rfl).dropAt 0 rfl).dropAt 0 rfl).dropAt 0 rfl).dropAt 0 rfl)
      have hS_68 := (hS_67.dropAt 0 rfl)
      exact .inl ⟨by unfold microM jobA; dsimp only; rw [getD_some hs2J_1]; simp only [hBJ_1]; rw [if_neg (by omega), if_neg (by omega), if_neg (by omega)], rfl, hS_68⟩
    refine seqE <| regionE <| pu3 ?_
    refine sLp hS_15 (hp_1.up 5 rfl) 4 (.int .i64 v.row) (Tryz.isAgg3 _) ?_
    refine sAdd v.row 1 ?_
    refine pu2 ?_
    refine sStF hS_15 hOw rfl 5 k 4 v (⟨v.phase, v.heldJob, v.heldTask, v.attempt, (v.row + 1)⟩ : Wk) hv (.int .i64 (v.row + 1)) [.int .i64 (v.row + 1)] Tryz.sizeOf3 ?_
    intro w_35 c_37 hO_38 hS_36
    refine nilO <| thenK_n <| seqE <| seqE ?_
    have hx_39 := set_at (y := (⟨v.phase, v.heldJob, v.heldTask, v.attempt, (v.row + 1)⟩ : Wk)) hv
    have hp_40 := OwnT.ptr hO_38 rfl hx_39
    obtain ⟨x_41, b_42, o_43, hx_44, hp_45, hq_46⟩ := RdT.elem hTJ_1 v.heldTask
    refine drawE [] [(3, ⟨wb, wo + k * 5 + 4, none⟩, .int .i64 (v.row + 1)), (7, ⟨qJ_1, 0, none⟩, .slice taJ_1 tnJ_1 tkJ_1), (12, ⟨wb, wo + k * 5 + 1 + 1, none⟩, .int .i64 v.heldTask), (15, ⟨b_42, o_43 + 7, none⟩, .int .i64 x_41.rows)] [(true, [0, 1, 2, 4, 5, 6, 8, 9, 10, 11]), (true, [3]), (true, [7]), (true, [12]), (true, [13]), (true, [14]), (true, [15]), (true, [16])] rfl (by kernel_rfl) ⟨.inr ((hp_40.up 5 rfl).cell hS_36 (k := 4) rfl), .inr (hS_36.cell 1 rfl rfl), .inr ((hp_40.up 5 rfl).cell hS_36 (k := 2) rfl), .inr ((hp_45.up 7 rfl).cell hS_36 (k := 7) rfl), trivial⟩ ?_
    have hS_47 := hS_36.drew
    refine wU [0, 1, 2, 4, 5, 6, 8, 9, 10, 11] ?_
    refine wLd (.int .i64 (v.row + 1)) 0 Tryz.isAgg3 ?_
    refine wLd (.slice taJ_1 tnJ_1 tkJ_1) 1 Tryz.isAgg45 ?_
    refine wLd (.int .i64 v.heldTask) 2 Tryz.isAgg3 ?_
    refine wY (.pointer (some ⟨b_42, o_43, none⟩)) rfl (fun w _ => Y_idx (a := taJ_1) (i := v.heldTask) (len := tnJ_1) (cap := tkJ_1) rfl Tryz.runUnderlying45 Tryz.sizeOf49 (by kernel_rfl) (by kernel_rfl) hq_46) ?_
    refine wU [14] ?_
    refine wLd (.int .i64 x_41.rows) 3 Tryz.isAgg3 ?_
    refine wU [16] ?_
    refine wN ?_
    refine thenK_n <| ?_
    refine cE (v.row + 1) x_41.rows (fun hc_48 => ?_) (fun hc_48 => ?_)
    rotate_left
    · refine skipE <| thenK_n <| seqE <| regionE <| pu1 <| nilO <| thenK_n <| retE <| blockK_r <| thenK_r <| retT [.bool true] <| ?_
      have hS_59 := (((hS_47.pick 3 rfl).pick 3 rfl).pick 3 rfl)
      have hS_60 : Sat W _ (([(qJ_1, .cells #[.slice taJ_1 tnJ_1 tkJ_1, .pointer (some ⟨qbJ_1, 0, none⟩), .bool s2J_1.x] 156 (0, 0))] ++ MJ_1) :: (jcs.eraseIdx (v.heldJob.toNat)).flatten :: [(b_5, .cells (encEvt ev).toArray 43 (0, 0))] :: [(p, .cells #[.slice oa on ok, .slice (some ⟨wb, wo, none⟩) wn wk, .slice ja jn jk, .int .i64 rd] 74 (0, 0))] :: c_37 :: Jc :: H :: F) := Sat.perm (show Sat W _ ([(qJ_1, .cells #[.slice taJ_1 tnJ_1 tkJ_1, .pointer (some ⟨qbJ_1, 0, none⟩), .bool s2J_1.x] 156 (0, 0))] :: MJ_1 :: (jcs.eraseIdx (v.heldJob.toNat)).flatten :: [(b_5, .cells (encEvt ev).toArray 43 (0, 0))] :: [(p, .cells #[.slice oa on ok, .slice (some ⟨wb, wo, none⟩) wn wk, .slice ja jn jk, .int .i64 rd] 74 (0, 0))] :: c_37 :: Jc :: H :: F) from hS_59) (by simp)
      have hS_61 := Sat.shutN (d := ([(qJ_1, .cells #[.slice taJ_1 tnJ_1 tkJ_1, .pointer (some ⟨qbJ_1, 0, none⟩), .bool s2J_1.x] 156 (0, 0))] ++ MJ_1)) (A := []) (v.heldJob.toNat) hcJ_1 hS_60
      rw [set_same hcJ_1] at hS_61
      have hS_63 := ((((hS_61.pick 4 rfl).pick 4 rfl).pick 4 rfl).dropAt 4 rfl)
      have hS_64 : Sat W _ (([(p, .cells #[.slice oa on ok, .slice (some ⟨wb, wo, none⟩) wn wk, .slice ja jn jk, .int .i64 rd] 74 (0, 0))] ++ (c_37 ++ (Jc ++ jcs.flatten))) :: H :: F) := Sat.perm (show Sat W _ ([(p, .cells #[.slice oa on ok, .slice (some ⟨wb, wo, none⟩) wn wk, .slice ja jn jk, .int .i64 rd] 74 (0, 0))] :: c_37 :: Jc :: jcs.flatten :: H :: F) from hS_63) (by simp)
      exact .inr ⟨⟨(ws.set k (⟨v.phase, v.heldJob, v.heldTask, v.attempt, (v.row + 1)⟩ : Wk)), jobs, rd⟩, _, by unfold microM jobA; dsimp only; rw [getD_some hs2J_1]; simp only [hBJ_1]; rw [if_neg (by omega), if_pos (by omega), getD_some hx_44]; rw [if_neg (by omega), show v.phase = 2 by omega], rfl, ⟨_, _, _, _, _, _, _, _, _, _, _, _, rfl, hO_38, hOj, hJs, hof, dof⟩, hS_64⟩
    refine regionE <| pu3 ?_
    refine sStF hS_47 hO_38 rfl 5 k 0 (⟨v.phase, v.heldJob, v.heldTask, v.attempt, (v.row + 1)⟩ : Wk) (⟨3, v.heldJob, v.heldTask, v.attempt, (v.row + 1)⟩ : Wk) hx_39 (.int .i64 3) [.int .i64 3] Tryz.sizeOf3 ?_
    intro w_49 c_51 hO_52 hS_50
    rw [List.set_set] at hO_52
    refine nilO <| thenK_n <| seqE <| regionE <| pu1 <| nilO <| thenK_n <| retE <| blockK_r <| thenK_r <| retT [.bool true] <| ?_
    have hS_53 := (((hS_50.pick 3 rfl).pick 3 rfl).pick 3 rfl)
    have hS_54 : Sat W _ (([(qJ_1, .cells #[.slice taJ_1 tnJ_1 tkJ_1, .pointer (some ⟨qbJ_1, 0, none⟩), .bool s2J_1.x] 156 (0, 0))] ++ MJ_1) :: (jcs.eraseIdx (v.heldJob.toNat)).flatten :: [(b_5, .cells (encEvt ev).toArray 43 (0, 0))] :: [(p, .cells #[.slice oa on ok, .slice (some ⟨wb, wo, none⟩) wn wk, .slice ja jn jk, .int .i64 rd] 74 (0, 0))] :: c_51 :: Jc :: H :: F) := Sat.perm (show Sat W _ ([(qJ_1, .cells #[.slice taJ_1 tnJ_1 tkJ_1, .pointer (some ⟨qbJ_1, 0, none⟩), .bool s2J_1.x] 156 (0, 0))] :: MJ_1 :: (jcs.eraseIdx (v.heldJob.toNat)).flatten :: [(b_5, .cells (encEvt ev).toArray 43 (0, 0))] :: [(p, .cells #[.slice oa on ok, .slice (some ⟨wb, wo, none⟩) wn wk, .slice ja jn jk, .int .i64 rd] 74 (0, 0))] :: c_51 :: Jc :: H :: F) from hS_53) (by simp)
    have hS_55 := Sat.shutN (d := ([(qJ_1, .cells #[.slice taJ_1 tnJ_1 tkJ_1, .pointer (some ⟨qbJ_1, 0, none⟩), .bool s2J_1.x] 156 (0, 0))] ++ MJ_1)) (A := []) (v.heldJob.toNat) hcJ_1 hS_54
    rw [set_same hcJ_1] at hS_55
    have hS_57 := ((((hS_55.pick 4 rfl).pick 4 rfl).pick 4 rfl).dropAt 4 rfl)
    have hS_58 : Sat W _ (([(p, .cells #[.slice oa on ok, .slice (some ⟨wb, wo, none⟩) wn wk, .slice ja jn jk, .int .i64 rd] 74 (0, 0))] ++ (c_51 ++ (Jc ++ jcs.flatten))) :: H :: F) := Sat.perm (show Sat W _ ([(p, .cells #[.slice oa on ok, .slice (some ⟨wb, wo, none⟩) wn wk, .slice ja jn jk, .int .i64 rd] 74 (0, 0))] :: c_51 :: Jc :: jcs.flatten :: H :: F) from hS_57) (by simp)
    exact .inr ⟨⟨(ws.set k (⟨3, v.heldJob, v.heldTask, v.attempt, (v.row + 1)⟩ : Wk)), jobs, rd⟩, _, by unfold microM jobA; dsimp only; rw [getD_some hs2J_1]; simp only [hBJ_1]; rw [if_neg (by omega), if_pos (by omega), getD_some hx_44]; rw [if_pos (by omega)], rfl, ⟨_, _, _, _, _, _, _, _, _, _, _, _, rfl, hO_52, hOj, hJs, hof, dof⟩, hS_58⟩
  refine pu7 <| nilO <| thenK_n <| cFf <| seqE ?_
  by_cases hc_69 : (ev.kind : Int) = 8
  rotate_left
  · refine drawE [] [(1, ⟨b_5, 0, none⟩, .int .i64 ev.kind)] [(true, [0]), (true, [1]), (true, [2, 3]), (true, [4, 5, 6, 7, 8, 9, 10, 11, 13, 14, 15, 12, 16, 17, 18, 19])] rfl (by kernel_rfl) ⟨.inr (hS_15.cell 0 rfl rfl), trivial⟩ ?_
    have hS_105 := hS_15.drew
    refine wU [0] ?_
    refine wLd (.int .i64 ev.kind) 0 Tryz.isAgg3 ?_
    refine wU [2, 3] ?_
    refine wFix 77 _ false (beq_eq_false_iff_ne.2 hc_69) ?_
    refine wU [4, 5, 6, 7, 8, 9, 10, 11, 13, 14, 15, 12, 16, 17, 18, 19] ?_
    refine wN ?_
    refine thenK_n <| cFf <| skipE <| blockK_n <| thenK_n <| seqE <| regionE <| pu1 <| nilO <| thenK_n <| retE <| retT [.bool false] <| ?_
    have hS_106 : Sat W _ (Jc :: H :: F) := ((((((hS_105.dropAt 0 rfl).dropAt 0 rfl).dropAt 0 rfl).dropAt 0 rfl).dropAt 0 rfl).dropAt 0 rfl)
    have hS_107 := (hS_106.dropAt 0 rfl)
    exact .inl ⟨by unfold microM jobA; dsimp only; rw [getD_some hs2J_1]; simp only [hBJ_1]; rw [if_neg (by omega), if_neg (by omega), if_neg (by omega)], rfl, hS_107⟩
  by_cases hc_70 : (v.phase : Int) = 3
  rotate_left
  · refine drawE [] [(1, ⟨b_5, 0, none⟩, .int .i64 ev.kind), (7, ⟨wb, wo + k * 5 + 0, none⟩, .int .i64 v.phase)] [(true, [0]), (true, [1]), (true, [2, 3]), (true, [4, 5, 6]), (true, [7]), (true, [8, 9, 10]), (true, [11, 13, 14, 15, 12, 16, 17, 18, 19])] rfl (by kernel_rfl) ⟨.inr (hS_15.cell 0 rfl rfl), .inr ((hp_1.up 5 rfl).cell hS_15 (k := 0) rfl), trivial⟩ ?_
    have hS_102 := hS_15.drew
    refine wU [0] ?_
    refine wLd (.int .i64 ev.kind) 0 Tryz.isAgg3 ?_
    refine wU [2, 3] ?_
    refine wFix 77 _ true (beq_iff_eq.2 hc_69) ?_
    refine wU [4, 5, 6] ?_
    refine wLd (.int .i64 v.phase) 1 Tryz.isAgg3 ?_
    refine wU [8, 9, 10] ?_
    refine wFix 84 _ false (beq_eq_false_iff_ne.2 hc_70) ?_
    refine wU [11, 13, 14, 15, 12, 16, 17, 18, 19] ?_
    refine wN ?_
    refine thenK_n <| cFf <| skipE <| blockK_n <| thenK_n <| seqE <| regionE <| pu1 <| nilO <| thenK_n <| retE <| retT [.bool false] <| ?_
    have hS_103 : Sat W _ (Jc :: H :: F) := ((((((hS_102.dropAt 0 rfl).dropAt 0 rfl).dropAt 0 rfl).dropAt 0 rfl).dropAt 0 rfl).dropAt 0 rfl)
    have hS_104 := (hS_103.dropAt 0 rfl)
    exact .inl ⟨by unfold microM jobA; dsimp only; rw [getD_some hs2J_1]; simp only [hBJ_1]; rw [if_neg (by omega), if_neg (by omega), if_neg (by omega)], rfl, hS_104⟩
  refine drawE [] [(1, ⟨b_5, 0, none⟩, .int .i64 ev.kind), (7, ⟨wb, wo + k * 5 + 0, none⟩, .int .i64 v.phase), (12, ⟨b_5, 4, none⟩, .int .i64 ev.refJob), (12, ⟨b_5, 5, none⟩, .int .i64 ev.refTask), (16, ⟨wb, wo + k * 5 + 1 + 0, none⟩, .int .i64 v.heldJob), (16, ⟨wb, wo + k * 5 + 1 + 1, none⟩, .int .i64 v.heldTask)] [(true, [0]), (true, [1]), (true, [2, 3]), (true, [4, 5, 6]), (true, [7]), (true, [8, 9, 10]), (true, [11, 13, 14, 15]), (true, [12]), (true, [16]), (true, [17]), (true, [18, 19])] rfl (by kernel_rfl) ⟨.inr (hS_15.cell 0 rfl rfl), .inr ((hp_1.up 5 rfl).cell hS_15 (k := 0) rfl), .inr (hS_15.cell 0 rfl rfl), .inr (hS_15.cell 0 rfl rfl), .inr ((hp_1.up 5 rfl).cell hS_15 (k := 1) rfl), .inr ((hp_1.up 5 rfl).cell hS_15 (k := 2) rfl), trivial⟩ ?_
  have hS_71 := hS_15.drew
  refine wU [0] ?_
  refine wLd (.int .i64 ev.kind) 0 Tryz.isAgg3 ?_
  refine wU [2, 3] ?_
  refine wFix 77 _ true (beq_iff_eq.2 hc_69) ?_
  refine wU [4, 5, 6] ?_
  refine wLd (.int .i64 v.phase) 1 Tryz.isAgg3 ?_
  refine wU [8, 9, 10] ?_
  refine wFix 84 _ true (beq_iff_eq.2 hc_70) ?_
  refine wU [11, 13, 14, 15] ?_
  refine wY (.agg #[.int .i64 ev.refJob, .int .i64 ev.refTask]) rfl (fun w hF => Y_loadF rfl (Tryz.isAgg40 w) (Tryz.sizeOf40 w) (by kernel_rfl) rfl ⟨hF 2 _ _ rfl, hF 3 _ _ rfl, trivial⟩) ?_
  refine wY (.agg #[.int .i64 v.heldJob, .int .i64 v.heldTask]) rfl (fun w hF => Y_loadF rfl (Tryz.isAgg40 w) (Tryz.sizeOf40 w) (by kernel_rfl) rfl ⟨hF 4 _ _ rfl, hF 5 _ _ rfl, trivial⟩) ?_
  refine wY (.bool (((ev.refJob : Int) == v.heldJob) && ((ev.refTask : Int) == v.heldTask))) rfl (fun w _ => Y_eqS rfl (by kernel_rfl) (by kernel_rfl) (eqve40 _ ev.refJob ev.refTask v.heldJob v.heldTask)) ?_
  refine wU [18, 19] ?_
  refine wN ?_
  refine thenK_n <| ?_
  rcases Classical.em ((ev.refJob : Int) = v.heldJob ∧ (ev.refTask : Int) = v.heldTask) with hc_72 | hc_72
  rotate_left
  · refine cF _ (show (((ev.refJob : Int) == v.heldJob) && ((ev.refTask : Int) == v.heldTask)) = false from by simpa using hc_72) ?_
    refine skipE <| blockK_n <| thenK_n <| seqE <| regionE <| pu1 <| nilO <| thenK_n <| retE <| retT [.bool false] <| ?_
    have hS_100 : Sat W _ (Jc :: H :: F) := ((((((hS_71.dropAt 0 rfl).dropAt 0 rfl).dropAt 0 rfl).dropAt 0 rfl).dropAt 0 rfl).dropAt 0 rfl)
    have hS_101 := (hS_100.dropAt 0 rfl)
    exact .inl ⟨by unfold microM jobA; dsimp only; rw [getD_some hs2J_1]; simp only [hBJ_1]; rw [if_neg (by omega), if_neg (by omega), if_neg (by omega)], rfl, hS_101⟩
  refine cT _ (show (((ev.refJob : Int) == v.heldJob) && ((ev.refTask : Int) == v.heldTask)) = true from by simpa using hc_72) ?_
  refine seqE ?_
  refine drawE [13] [(3, ⟨qJ_1, 1, none⟩, .pointer (some ⟨qbJ_1, 0, none⟩)), (8, ⟨wb, wo + k * 5 + 1 + 1, none⟩, .int .i64 v.heldTask), (12, ⟨wb, wo + k * 5 + 3, none⟩, .int .i64 v.attempt)] [(true, [0, 1, 2, 4, 5, 6, 7, 9, 10, 11]), (true, [3]), (true, [8]), (true, [12]), (false, [13]), (true, [14]), (true, [15]), (true, [16]), (true, [17, 18])] rfl (by kernel_rfl) ⟨.inr (hS_71.cell 1 rfl rfl), .inr ((hp_1.up 5 rfl).cell hS_71 (k := 2) rfl), .inr ((hp_1.up 5 rfl).cell hS_71 (k := 3) rfl), trivial⟩ ?_
  have hS_73 := hS_71.drew
  refine wU [0, 1, 2, 4, 5, 6, 7, 9, 10, 11] ?_
  refine wLd (.pointer (some ⟨qbJ_1, 0, none⟩)) 0 Tryz.isAgg154 ?_
  refine wLd (.int .i64 v.heldTask) 1 Tryz.isAgg3 ?_
  refine wLd (.int .i64 v.attempt) 2 Tryz.isAgg3 ?_
  refine wO rfl ?_
  have hS_74 := (hS_73.pick 2 rfl)
  refine cX Tryz.call96 (b_commit hRJ_1 hWJ_1 v.heldTask v.attempt (by omega) (Sat.flat1 hS_74)) ?_
  rintro _ w_75 ⟨az_80, nz_81, kz_82, Z_83, M_78, rfl, hr_84, hR_79, hS_76⟩
  have hS_77 := Sat.unflat2 hS_76; have hn_az_80 := hr_84.len; have hl_az_80 := hr_84.le
  have hcl := com_len (B := BJ_1) (i := v.heldTask) (a := v.attempt)
  refine nilO ⟨⟨.inl (by kernel_rfl), .inl (by kernel_rfl), .inl (by kernel_rfl), trivial⟩, ?_⟩
  refine wU [14] <| wU [15] <| wU [16] <| wU [17, 18] ?_
  refine wN ?_
  refine thenK_n <| seqE <| seqE <| regionE <| pu2 <| nilO <| thenK_n <| ?_
  refine cN (heldC BJ_1 v.heldTask v.attempt) 0 (fun hc_85 => ?_) (fun hc_85 => ?_)
  rotate_left
  · refine seqE <| regionE <| pu1 <| nilO <| thenK_n <| retE <| thenK_r <| blockK_r <| thenK_r <| retT [.bool false] <| ?_
    have hS_98 : Sat W _ (Wc :: Jc :: H :: F) := ((((((hS_77.dropAt 0 rfl).dropAt 0 rfl).dropAt 0 rfl).dropAt 0 rfl).dropAt 0 rfl).dropAt 0 rfl)
    have hS_99 := ((hS_98.dropAt 0 rfl).dropAt 0 rfl)
    exact .inl ⟨by unfold microM jobA; dsimp only; rw [getD_some hs2J_1]; simp only [hBJ_1]; rw [if_neg (by omega), if_neg (by omega), if_pos (by omega)]; rw [if_pos hc_85], rfl, hS_99⟩
  refine skipE <| thenK_n <| seqE <| regionE <| pu3 ?_
  refine sL hS_77 5 3 (.int .i64 rd) (Tryz.isAgg3 _) ?_
  refine pu2 ?_
  refine sAdd rd ((nz_81 : Nat) : Int) ?_
  refine pu2 ?_
  refine tW hS_77 5 3 (.int .i64 (rd + ((nz_81 : Nat) : Int))) Tryz.sizeOf3 ?_
  intro w_86 hS_87
  refine nilO <| thenK_n <| seqE <| regionE <| pu3 ?_
  refine sStF hS_87 hOw rfl 6 k 0 v (⟨0, 0, 0, 0, 0⟩ : Wk) hv (.agg #[.int .i64 0, .int .i64 0, .int .i64 0, .int .i64 0, .int .i64 0]) [.int .i64 0, .int .i64 0, .int .i64 0, .int .i64 0, .int .i64 0] Tryz.sizeOf120 ?_
  intro w_88 c_90 hO_91 hS_89
  refine nilO <| thenK_n <| seqE <| regionE <| pu1 <| nilO <| thenK_n <| retE <| blockK_r <| thenK_r <| retT [.bool true] <| ?_
  have hS_92 := (((hS_89.pick 4 rfl).pick 2 rfl).pick 4 rfl)
  have hS_93 : Sat W _ (([(qJ_1, .cells #[.slice taJ_1 tnJ_1 tkJ_1, .pointer (some ⟨qbJ_1, 0, none⟩), .bool ({ s2J_1 with B := some ((comB BJ_1 v.heldTask v.attempt).1) }).x] 156 (0, 0))] ++ M_78) :: (jcs.eraseIdx (v.heldJob.toNat)).flatten :: Z_83 :: [(b_5, .cells (encEvt ev).toArray 43 (0, 0))] :: [(p, .cells #[.slice oa on ok, .slice (some ⟨wb, wo, none⟩) wn wk, .slice ja jn jk, .int .i64 (rd + ((nz_81 : Nat) : Int))] 74 (0, 0))] :: c_90 :: Jc :: H :: F) := Sat.perm (show Sat W _ ([(qJ_1, .cells #[.slice taJ_1 tnJ_1 tkJ_1, .pointer (some ⟨qbJ_1, 0, none⟩), .bool ({ s2J_1 with B := some ((comB BJ_1 v.heldTask v.attempt).1) }).x] 156 (0, 0))] :: M_78 :: (jcs.eraseIdx (v.heldJob.toNat)).flatten :: Z_83 :: [(b_5, .cells (encEvt ev).toArray 43 (0, 0))] :: [(p, .cells #[.slice oa on ok, .slice (some ⟨wb, wo, none⟩) wn wk, .slice ja jn jk, .int .i64 (rd + ((nz_81 : Nat) : Int))] 74 (0, 0))] :: c_90 :: Jc :: H :: F) from hS_92) (by simp)
  have hS_94 := Sat.shutN (d := ([(qJ_1, .cells #[.slice taJ_1 tnJ_1 tkJ_1, .pointer (some ⟨qbJ_1, 0, none⟩), .bool ({ s2J_1 with B := some ((comB BJ_1 v.heldTask v.attempt).1) }).x] 156 (0, 0))] ++ M_78)) (A := []) (v.heldJob.toNat) hcJ_1 hS_93
  have hO_95 := Obs.set hJs hqJ_1 (JobA.mk (s := { s2J_1 with B := some ((comB BJ_1 v.heldTask v.attempt).1) }) rfl hTJ_1 hDJ_1 hR_79)
  have hS_96 := (((((hS_94.pick 5 rfl).pick 5 rfl).pick 5 rfl).dropAt 4 rfl).dropAt 4 rfl)
  have hS_97 : Sat W _ (([(p, .cells #[.slice oa on ok, .slice (some ⟨wb, wo, none⟩) wn wk, .slice ja jn jk, .int .i64 (rd + ((nz_81 : Nat) : Int))] 74 (0, 0))] ++ (c_90 ++ (Jc ++ (jcs.set (v.heldJob.toNat) ([(qJ_1, .cells #[.slice taJ_1 tnJ_1 tkJ_1, .pointer (some ⟨qbJ_1, 0, none⟩), .bool ({ s2J_1 with B := some ((comB BJ_1 v.heldTask v.attempt).1) }).x] 156 (0, 0))] ++ M_78)).flatten))) :: H :: F) := Sat.perm (show Sat W _ ([(p, .cells #[.slice oa on ok, .slice (some ⟨wb, wo, none⟩) wn wk, .slice ja jn jk, .int .i64 (rd + ((nz_81 : Nat) : Int))] 74 (0, 0))] :: c_90 :: Jc :: (jcs.set (v.heldJob.toNat) ([(qJ_1, .cells #[.slice taJ_1 tnJ_1 tkJ_1, .pointer (some ⟨qbJ_1, 0, none⟩), .bool ({ s2J_1 with B := some ((comB BJ_1 v.heldTask v.attempt).1) }).x] 156 (0, 0))] ++ M_78)).flatten :: H :: F) from hS_96) (by simp)
  exact .inr ⟨⟨(ws.set k (⟨0, 0, 0, 0, 0⟩ : Wk)), (jobs.set (v.heldJob.toNat) ({ s2J_1 with B := some ((comB BJ_1 v.heldTask v.attempt).1) })), (rd + ((nz_81 : Nat) : Int))⟩, _, by unfold microM jobA; dsimp only; rw [getD_some hs2J_1]; simp only [hBJ_1]; rw [if_neg (by omega), if_neg (by omega), if_pos (by omega)]; rw [if_neg (not_not_intro hc_85), hn_az_80], rfl, ⟨_, _, _, _, _, _, _, _, _, _, _, _, rfl, hO_91, hOj, hO_95, hof, dof⟩, hS_97⟩
theorem am_drop_y {p wb wo : Nat} {H : Chunk} {oa ja : Option Addr} {on ok wn wk jn jk : Nat} {rd : Int} {ws : List Wk} {jobs : List JA} {ps : List Nat} {Wc Jc : Chunk} {jcs F : List Chunk} {K : Int} (hOw : OwnT encWk 120 5 (some ⟨wb, wo, none⟩) wn wk ws Wc) (hOj : OwnT encP 153 1 ja jn jk ps Jc) (hJs : Obs (JobA H) ps jobs jcs) (hJW : ∀ j ∈ jobs, JW K j) {off : List TL} (hof : RdT encTL 1 [H] oa on ok off) (dof : ∀ z ∈ off, TL.Ok [H] z) (hrd : -1000000000 ≤ rd ∧ rd ≤ 1000000000) (hK : K ≤ 1000000000) (k : Nat) (v : Wk) (hv : ws[k]? = some v) (r : Ref) (hh : (v.phase ≠ 0 ∧ v.phase ≠ 4)) (heq : v.heldJob = r.job ∧ v.heldTask = r.task) (hheld : ∃ s B, jobs[r.job.toNat]? = some s ∧ 0 ≤ r.job ∧ r.job < ((jobs.length : Nat) : Int) ∧ s.B = some B ∧ True ∧ True ∧ BWf B K ∧ B.deps.length = s.T.length) (hS : Sat W w ([(p, .cells #[.slice oa on ok, .slice (some ⟨wb, wo, none⟩) wn wk, .slice ja jn jk, .int .i64 rd] 74 (0, 0))] :: Wc :: Jc :: jcs.flatten :: H :: F)) :
    Calls Tryz.prog 59 #[.pointer (some ⟨p, 0, none⟩), .pointer (some ⟨wb, wo + k * 5, none⟩), .agg #[.int .i64 r.job, .int .i64 r.task]] w fun e w' => (dropM (⟨ws, jobs, rd⟩ : MS) k v r = none ∧ e = .returned (.bool false) ∧ Sat W w' (H :: F)) ∨ (∃ (m' : MS) (M' : Chunk), dropM (⟨ws, jobs, rd⟩ : MS) k v r = some m' ∧ e = .returned (.bool true) ∧ MachR p wb wo H off m' M' ∧ Sat W w' (M' :: H :: F)) := by
  have hwl := hOw.len; have hwk := hOw.le; have hjl := hOj.len; have hjk := hOj.le; have hjs := hJs.1
  have hp_1 := OwnT.ptr hOw rfl hv
  obtain ⟨sJ_1, BJ_1, hsJ_1, hnJ_1, hmJ_1, hBJ_1, hxJ_1, hdJ_1, hWJ_1, hlJ_1⟩ := hheld
  obtain ⟨qJ_1, hqJ_1⟩ := at_some hjl (k := r.job.toNat) (by omega)
  obtain ⟨s2J_1, cJ_1, hs2J_1, hcJ_1, hJJ_1⟩ := Obs.get hJs hqJ_1; obtain rfl : s2J_1 = sJ_1 := Option.some.inj (hs2J_1.symm.trans hsJ_1)
  obtain ⟨taJ_1, tnJ_1, tkJ_1, qbJ_1, MJ_1, rfl, hTJ_1, hDJ_1, hRJ_1⟩ := hJJ_1.open hBJ_1
  have hS_3 := (hS.pick 3 rfl)
  have hS_4 := Sat.openN (A := []) (r.job.toNat) hcJ_1 hS_3
  have hSJ_1 : Sat W _ ([(qJ_1, .cells #[.slice taJ_1 tnJ_1 tkJ_1, .pointer (some ⟨qbJ_1, 0, none⟩), .bool s2J_1.x] 156 (0, 0))] :: MJ_1 :: (jcs.eraseIdx (r.job.toNat)).flatten :: [(p, .cells #[.slice oa on ok, .slice (some ⟨wb, wo, none⟩) wn wk, .slice ja jn jk, .int .i64 rd] 74 (0, 0))] :: Wc :: Jc :: H :: F) := Sat.perm hS_4 (by simp)
  have hnt_1 := hTJ_1.len; have hlt_1 := hTJ_1.le; have hn0_1 := hWJ_1.n0; have hls_1 := hWJ_1.ls
  refine callsA 35 Tryz.func59 rfl ?_
  refine seqE <| regionE ?_
  refine sBox hSJ_1 (.agg #[.int .i64 r.job, .int .i64 r.task]) #[.int .i64 r.job, .int .i64 r.task] ?_
  intro b_5 w_6 hS_7
  refine pu1 <| nilO <| thenK_n <| seqE <| seqE ?_
  refine drawP [1, 7, 8, 15, 17, 19, 22] [] (Plan.sts [0] <| .ef 1 <| Plan.sts [2] <| Plan.sts [3] <| Plan.sts [4] <| Plan.sts [5] <| Plan.sts [6] <| .fk 7 8 (.ef 8 <| Plan.sts [9] <| Plan.sts [10] <| Plan.sts [11] <| Plan.sts [12] <| Plan.sts [13] <| Plan.sts [14] <| Plan.sts [16] <| .fk 15 17 (.ef 17 <| Plan.sts [18] <| .ef 19 <| Plan.sts [20] <| Plan.sts [21] <| .ef 22 <| Plan.sts [23] <| Plan.sts [24] <| .fin) (.ef 15 <| Plan.sts [18] <| .ef 19 <| Plan.sts [20] <| Plan.sts [21] <| .ef 22 <| Plan.sts [23] <| Plan.sts [24] <| .fin)) (.ef 7 <| Plan.sts [9] <| Plan.sts [10] <| Plan.sts [11] <| Plan.sts [12] <| Plan.sts [13] <| Plan.sts [14] <| Plan.sts [16] <| .fk 15 17 (.ef 17 <| Plan.sts [18] <| .ef 19 <| Plan.sts [20] <| Plan.sts [21] <| .ef 22 <| Plan.sts [23] <| Plan.sts [24] <| .fin) (.ef 15 <| Plan.sts [18] <| .ef 19 <| Plan.sts [20] <| Plan.sts [21] <| .ef 22 <| Plan.sts [23] <| Plan.sts [24] <| .fin))) rfl (by kernel_rfl) trivial ?_
  have hS_8 := hS_7.drew
  refine qU [0] ?_
  refine qO rfl ?_
  have hS_9 := (hS_8.pick 5 rfl)
  refine cX Tryz.call95 (aw_holds hOw k v hv hS_9) ?_
  rintro _ w_10 ⟨rfl, hS_11⟩
  refine nilO ⟨trivial, ?_⟩
  refine qU [2] <| qU [3] ?_
  refine qFix 10 _ false (congrArg Bool.not (decide_eq_true hh)) ?_
  refine qU [4] <| qU [5] <| qU [6] ?_
  refine qF ?_ ?_
  rotate_left
  · refine qO rfl ?_
    refine gY ?_
    refine lA hS_11 1 0 2 (Tryz.isAgg40 _) (Tryz.sizeOf40 _) ?_
    refine nilO ⟨trivial, ?_⟩
    refine qO rfl ?_
    refine gY ?_
    refine sLpA hS_11 (hp_1.up 0 rfl) 1 [.int .i64 v.heldJob, .int .i64 v.heldTask] (Tryz.isAgg40 _) (Tryz.sizeOf40 _) ?_
    refine nilO ⟨trivial, ?_⟩
    refine qY (.bool (!(((v.heldJob : Int) == r.job) && ((v.heldTask : Int) == r.task)))) rfl (fun w _ => Y_eqS rfl (by kernel_rfl) (by kernel_rfl) (eqvn40 _ v.heldJob v.heldTask r.job r.task)) ?_
    refine qU [10] <| qU [11] ?_
    refine qFix 18 _ false (congrArg Bool.not (show (((v.heldJob : Int) == r.job) && ((v.heldTask : Int) == r.task)) = true from by simpa using heq)) ?_
    refine qU [12] <| qU [13] <| qU [14] <| qU [16] ?_
    refine qF ?_ ?_
    rotate_left
    · refine qO rfl ?_
      refine gY ?_
      refine sL hS_11 1 0 (.int .i64 r.job) (Tryz.isAgg3 _) ?_
      refine nilO ⟨trivial, ?_⟩
      refine qO rfl ?_
      refine gY ?_
      refine sL hS_11 5 2 (.slice ja jn jk) (Tryz.isAgg72 _) ?_
      refine nilO ⟨trivial, ?_⟩
      obtain ⟨x_72, b_73, o_74, hx_75, hp_76, hq_77, ha_78⟩ := OwnT.elem hOj r.job
      obtain rfl : qJ_1 = x_72 := Option.some.inj (hqJ_1.symm.trans hx_75)
      refine qY (.pointer (some ⟨b_73, o_74 + (r.job).toNat * 1, none⟩)) rfl (fun w _ => Y_idx (a := ja) (i := r.job) (len := jn) (cap := jk) rfl Tryz.runUnderlying72 Tryz.sizeOf153 (by kernel_rfl) (by kernel_rfl) hq_77) ?_
      refine qO rfl ?_
      refine gY ?_
      refine sLp hS_11 (hp_76.up 6 rfl) 0 (.pointer (some ⟨qJ_1, 0, none⟩)) (Tryz.isAgg153 _) ?_
      refine nilO ⟨trivial, ?_⟩
      refine qU [20] <| qU [21] ?_
      refine qO rfl ?_
      refine gY ?_
      refine sL hS_11 2 2 (.bool s2J_1.x) (Tryz.isAgg4 _) ?_
      refine nilO ⟨trivial, ?_⟩
      refine qU [23] <| qU [24] ?_
      refine qN ?_
      refine thenK_n <| ?_
      refine cBn s2J_1.x (fun hc_79 => ?_) (fun hc_79 => ?_)
      rotate_left
      · refine seqE <| regionE <| pu1 <| nilO <| thenK_n <| retE <| thenK_r <| retT [.bool false] <| ?_
        have hS_90 : Sat W _ (Jc :: H :: F) := ((((((hS_11.dropAt 0 rfl).dropAt 0 rfl).dropAt 0 rfl).dropAt 0 rfl).dropAt 0 rfl).dropAt 0 rfl)
        have hS_91 := (hS_90.dropAt 0 rfl)
        exact .inl ⟨by unfold dropM jobA; dsimp only; rw [getD_some hs2J_1, if_neg (fun h => hc_79 h.2.2.2)], rfl, hS_91⟩
      refine skipE <| thenK_n <| seqE <| regionE <| pu3 ?_
      refine sStF hS_11 hOw rfl 0 k 0 v (⟨0, 0, 0, 0, 0⟩ : Wk) hv (.agg #[.int .i64 0, .int .i64 0, .int .i64 0, .int .i64 0, .int .i64 0]) [.int .i64 0, .int .i64 0, .int .i64 0, .int .i64 0, .int .i64 0] Tryz.sizeOf120 ?_
      intro w_80 c_82 hO_83 hS_81
      refine nilO <| thenK_n <| seqE <| regionE <| pu1 <| nilO <| thenK_n <| retE <| retT [.bool true] <| ?_
      have hS_84 := (((hS_81.pick 4 rfl).pick 4 rfl).pick 4 rfl)
      have hS_85 : Sat W _ (([(qJ_1, .cells #[.slice taJ_1 tnJ_1 tkJ_1, .pointer (some ⟨qbJ_1, 0, none⟩), .bool s2J_1.x] 156 (0, 0))] ++ MJ_1) :: (jcs.eraseIdx (r.job.toNat)).flatten :: c_82 :: [(b_5, .cells #[.int .i64 r.job, .int .i64 r.task] 40 (0, 0))] :: [(p, .cells #[.slice oa on ok, .slice (some ⟨wb, wo, none⟩) wn wk, .slice ja jn jk, .int .i64 rd] 74 (0, 0))] :: Jc :: H :: F) := Sat.perm (show Sat W _ ([(qJ_1, .cells #[.slice taJ_1 tnJ_1 tkJ_1, .pointer (some ⟨qbJ_1, 0, none⟩), .bool s2J_1.x] 156 (0, 0))] :: MJ_1 :: (jcs.eraseIdx (r.job.toNat)).flatten :: c_82 :: [(b_5, .cells #[.int .i64 r.job, .int .i64 r.task] 40 (0, 0))] :: [(p, .cells #[.slice oa on ok, .slice (some ⟨wb, wo, none⟩) wn wk, .slice ja jn jk, .int .i64 rd] 74 (0, 0))] :: Jc :: H :: F) from hS_84) (by simp)
      have hS_86 := Sat.shutN (d := ([(qJ_1, .cells #[.slice taJ_1 tnJ_1 tkJ_1, .pointer (some ⟨qbJ_1, 0, none⟩), .bool s2J_1.x] 156 (0, 0))] ++ MJ_1)) (A := []) (r.job.toNat) hcJ_1 hS_85
      rw [set_same hcJ_1] at hS_86
      have hS_88 := ((((hS_86.pick 4 rfl).pick 2 rfl).pick 4 rfl).dropAt 4 rfl)
      have hS_89 : Sat W _ (([(p, .cells #[.slice oa on ok, .slice (some ⟨wb, wo, none⟩) wn wk, .slice ja jn jk, .int .i64 rd] 74 (0, 0))] ++ (c_82 ++ (Jc ++ jcs.flatten))) :: H :: F) := Sat.perm (show Sat W _ ([(p, .cells #[.slice oa on ok, .slice (some ⟨wb, wo, none⟩) wn wk, .slice ja jn jk, .int .i64 rd] 74 (0, 0))] :: c_82 :: Jc :: jcs.flatten :: H :: F) from hS_88) (by simp)
      exact .inr ⟨⟨(ws.set k (⟨0, 0, 0, 0, 0⟩ : Wk)), jobs, rd⟩, _, by unfold dropM jobA; dsimp only; rw [getD_some hs2J_1, if_pos ⟨hh, heq.1, heq.2, hc_79⟩], rfl, ⟨_, _, _, _, _, _, _, _, _, _, _, _, rfl, hO_83, hOj, hJs, hof, dof⟩, hS_89⟩
    refine qO rfl ?_
    refine gY ?_
    refine sL hS_11 5 2 (.slice ja jn jk) (Tryz.isAgg72 _) ?_
    refine nilO ⟨trivial, ?_⟩
    refine qO rfl ?_
    refine gY ?_
    refine sL hS_11 1 0 (.int .i64 r.job) (Tryz.isAgg3 _) ?_
    refine nilO ⟨trivial, ?_⟩
    obtain ⟨x_52, b_53, o_54, hx_55, hp_56, hq_57, ha_58⟩ := OwnT.elem hOj r.job
    obtain rfl : qJ_1 = x_52 := Option.some.inj (hqJ_1.symm.trans hx_55)
    refine qY (.pointer (some ⟨b_53, o_54 + (r.job).toNat * 1, none⟩)) rfl (fun w _ => Y_idx (a := ja) (i := r.job) (len := jn) (cap := jk) rfl Tryz.runUnderlying72 Tryz.sizeOf153 (by kernel_rfl) (by kernel_rfl) hq_57) ?_
    refine qO rfl ?_
    refine gY ?_
    refine sLp hS_11 (hp_56.up 6 rfl) 0 (.pointer (some ⟨qJ_1, 0, none⟩)) (Tryz.isAgg153 _) ?_
    refine nilO ⟨trivial, ?_⟩
    refine qU [20] <| qU [21] ?_
    refine qO rfl ?_
    refine gY ?_
    refine sL hS_11 2 2 (.bool s2J_1.x) (Tryz.isAgg4 _) ?_
    refine nilO ⟨trivial, ?_⟩
    refine qU [23] <| qU [24] ?_
    refine qN ?_
    refine thenK_n <| ?_
    refine cBn s2J_1.x (fun hc_59 => ?_) (fun hc_59 => ?_)
    rotate_left
    · refine seqE <| regionE <| pu1 <| nilO <| thenK_n <| retE <| thenK_r <| retT [.bool false] <| ?_
      have hS_70 : Sat W _ (Jc :: H :: F) := ((((((hS_11.dropAt 0 rfl).dropAt 0 rfl).dropAt 0 rfl).dropAt 0 rfl).dropAt 0 rfl).dropAt 0 rfl)
      have hS_71 := (hS_70.dropAt 0 rfl)
      exact .inl ⟨by unfold dropM jobA; dsimp only; rw [getD_some hs2J_1, if_neg (fun h => hc_59 h.2.2.2)], rfl, hS_71⟩
    refine skipE <| thenK_n <| seqE <| regionE <| pu3 ?_
    refine sStF hS_11 hOw rfl 0 k 0 v (⟨0, 0, 0, 0, 0⟩ : Wk) hv (.agg #[.int .i64 0, .int .i64 0, .int .i64 0, .int .i64 0, .int .i64 0]) [.int .i64 0, .int .i64 0, .int .i64 0, .int .i64 0, .int .i64 0] Tryz.sizeOf120 ?_
    intro w_60 c_62 hO_63 hS_61
    refine nilO <| thenK_n <| seqE <| regionE <| pu1 <| nilO <| thenK_n <| retE <| retT [.bool true] <| ?_
    have hS_64 := (((hS_61.pick 4 rfl).pick 4 rfl).pick 4 rfl)
    have hS_65 : Sat W _ (([(qJ_1, .cells #[.slice taJ_1 tnJ_1 tkJ_1, .pointer (some ⟨qbJ_1, 0, none⟩), .bool s2J_1.x] 156 (0, 0))] ++ MJ_1) :: (jcs.eraseIdx (r.job.toNat)).flatten :: c_62 :: [(b_5, .cells #[.int .i64 r.job, .int .i64 r.task] 40 (0, 0))] :: [(p, .cells #[.slice oa on ok, .slice (some ⟨wb, wo, none⟩) wn wk, .slice ja jn jk, .int .i64 rd] 74 (0, 0))] :: Jc :: H :: F) := Sat.perm (show Sat W _ ([(qJ_1, .cells #[.slice taJ_1 tnJ_1 tkJ_1, .pointer (some ⟨qbJ_1, 0, none⟩), .bool s2J_1.x] 156 (0, 0))] :: MJ_1 :: (jcs.eraseIdx (r.job.toNat)).flatten :: c_62 :: [(b_5, .cells #[.int .i64 r.job, .int .i64 r.task] 40 (0, 0))] :: [(p, .cells #[.slice oa on ok, .slice (some ⟨wb, wo, none⟩) wn wk, .slice ja jn jk, .int .i64 rd] 74 (0, 0))] :: Jc :: H :: F) from hS_64) (by simp)
    have hS_66 := Sat.shutN (d := ([(qJ_1, .cells #[.slice taJ_1 tnJ_1 tkJ_1, .pointer (some ⟨qbJ_1, 0, none⟩), .bool s2J_1.x] 156 (0, 0))] ++ MJ_1)) (A := []) (r.job.toNat) hcJ_1 hS_65
    rw [set_same hcJ_1] at hS_66
    have hS_68 := ((((hS_66.pick 4 rfl).pick 2 rfl).pick 4 rfl).dropAt 4 rfl)
    have hS_69 : Sat W _ (([(p, .cells #[.slice oa on ok, .slice (some ⟨wb, wo, none⟩) wn wk, .slice ja jn jk, .int .i64 rd] 74 (0, 0))] ++ (c_62 ++ (Jc ++ jcs.flatten))) :: H :: F) := Sat.perm (show Sat W _ ([(p, .cells #[.slice oa on ok, .slice (some ⟨wb, wo, none⟩) wn wk, .slice ja jn jk, .int .i64 rd] 74 (0, 0))] :: c_62 :: Jc :: jcs.flatten :: H :: F) from hS_68) (by simp)
    exact .inr ⟨⟨(ws.set k (⟨0, 0, 0, 0, 0⟩ : Wk)), jobs, rd⟩, _, by unfold dropM jobA; dsimp only; rw [getD_some hs2J_1, if_pos ⟨hh, heq.1, heq.2, hc_59⟩], rfl, ⟨_, _, _, _, _, _, _, _, _, _, _, _, rfl, hO_63, hOj, hJs, hof, dof⟩, hS_69⟩
  refine qO rfl ?_
  refine gY ?_
  refine sLpA hS_11 (hp_1.up 0 rfl) 1 [.int .i64 v.heldJob, .int .i64 v.heldTask] (Tryz.isAgg40 _) (Tryz.sizeOf40 _) ?_
  refine nilO ⟨trivial, ?_⟩
  refine qO rfl ?_
  refine gY ?_
  refine lA hS_11 1 0 2 (Tryz.isAgg40 _) (Tryz.sizeOf40 _) ?_
  refine nilO ⟨trivial, ?_⟩
  refine qY (.bool (!(((v.heldJob : Int) == r.job) && ((v.heldTask : Int) == r.task)))) rfl (fun w _ => Y_eqS rfl (by kernel_rfl) (by kernel_rfl) (eqvn40 _ v.heldJob v.heldTask r.job r.task)) ?_
  refine qU [10] <| qU [11] ?_
  refine qFix 18 _ false (congrArg Bool.not (show (((v.heldJob : Int) == r.job) && ((v.heldTask : Int) == r.task)) = true from by simpa using heq)) ?_
  refine qU [12] <| qU [13] <| qU [14] <| qU [16] ?_
  refine qF ?_ ?_
  rotate_left
  · refine qO rfl ?_
    refine gY ?_
    refine sL hS_11 1 0 (.int .i64 r.job) (Tryz.isAgg3 _) ?_
    refine nilO ⟨trivial, ?_⟩
    refine qO rfl ?_
    refine gY ?_
    refine sL hS_11 5 2 (.slice ja jn jk) (Tryz.isAgg72 _) ?_
    refine nilO ⟨trivial, ?_⟩
    obtain ⟨x_32, b_33, o_34, hx_35, hp_36, hq_37, ha_38⟩ := OwnT.elem hOj r.job
    obtain rfl : qJ_1 = x_32 := Option.some.inj (hqJ_1.symm.trans hx_35)
    refine qY (.pointer (some ⟨b_33, o_34 + (r.job).toNat * 1, none⟩)) rfl (fun w _ => Y_idx (a := ja) (i := r.job) (len := jn) (cap := jk) rfl Tryz.runUnderlying72 Tryz.sizeOf153 (by kernel_rfl) (by kernel_rfl) hq_37) ?_
    refine qO rfl ?_
    refine gY ?_
    refine sLp hS_11 (hp_36.up 6 rfl) 0 (.pointer (some ⟨qJ_1, 0, none⟩)) (Tryz.isAgg153 _) ?_
    refine nilO ⟨trivial, ?_⟩
    refine qU [20] <| qU [21] ?_
    refine qO rfl ?_
    refine gY ?_
    refine sL hS_11 2 2 (.bool s2J_1.x) (Tryz.isAgg4 _) ?_
    refine nilO ⟨trivial, ?_⟩
    refine qU [23] <| qU [24] ?_
    refine qN ?_
    refine thenK_n <| ?_
    refine cBn s2J_1.x (fun hc_39 => ?_) (fun hc_39 => ?_)
    rotate_left
    · refine seqE <| regionE <| pu1 <| nilO <| thenK_n <| retE <| thenK_r <| retT [.bool false] <| ?_
      have hS_50 : Sat W _ (Jc :: H :: F) := ((((((hS_11.dropAt 0 rfl).dropAt 0 rfl).dropAt 0 rfl).dropAt 0 rfl).dropAt 0 rfl).dropAt 0 rfl)
      have hS_51 := (hS_50.dropAt 0 rfl)
      exact .inl ⟨by unfold dropM jobA; dsimp only; rw [getD_some hs2J_1, if_neg (fun h => hc_39 h.2.2.2)], rfl, hS_51⟩
    refine skipE <| thenK_n <| seqE <| regionE <| pu3 ?_
    refine sStF hS_11 hOw rfl 0 k 0 v (⟨0, 0, 0, 0, 0⟩ : Wk) hv (.agg #[.int .i64 0, .int .i64 0, .int .i64 0, .int .i64 0, .int .i64 0]) [.int .i64 0, .int .i64 0, .int .i64 0, .int .i64 0, .int .i64 0] Tryz.sizeOf120 ?_
    intro w_40 c_42 hO_43 hS_41
    refine nilO <| thenK_n <| seqE <| regionE <| pu1 <| nilO <| thenK_n <| retE <| retT [.bool true] <| ?_
    have hS_44 := (((hS_41.pick 4 rfl).pick 4 rfl).pick 4 rfl)
    have hS_45 : Sat W _ (([(qJ_1, .cells #[.slice taJ_1 tnJ_1 tkJ_1, .pointer (some ⟨qbJ_1, 0, none⟩), .bool s2J_1.x] 156 (0, 0))] ++ MJ_1) :: (jcs.eraseIdx (r.job.toNat)).flatten :: c_42 :: [(b_5, .cells #[.int .i64 r.job, .int .i64 r.task] 40 (0, 0))] :: [(p, .cells #[.slice oa on ok, .slice (some ⟨wb, wo, none⟩) wn wk, .slice ja jn jk, .int .i64 rd] 74 (0, 0))] :: Jc :: H :: F) := Sat.perm (show Sat W _ ([(qJ_1, .cells #[.slice taJ_1 tnJ_1 tkJ_1, .pointer (some ⟨qbJ_1, 0, none⟩), .bool s2J_1.x] 156 (0, 0))] :: MJ_1 :: (jcs.eraseIdx (r.job.toNat)).flatten :: c_42 :: [(b_5, .cells #[.int .i64 r.job, .int .i64 r.task] 40 (0, 0))] :: [(p, .cells #[.slice oa on ok, .slice (some ⟨wb, wo, none⟩) wn wk, .slice ja jn jk, .int .i64 rd] 74 (0, 0))] :: Jc :: H :: F) from hS_44) (by simp)
    have hS_46 := Sat.shutN (d := ([(qJ_1, .cells #[.slice taJ_1 tnJ_1 tkJ_1, .pointer (some ⟨qbJ_1, 0, none⟩), .bool s2J_1.x] 156 (0, 0))] ++ MJ_1)) (A := []) (r.job.toNat) hcJ_1 hS_45
    rw [set_same hcJ_1] at hS_46
    have hS_48 := ((((hS_46.pick 4 rfl).pick 2 rfl).pick 4 rfl).dropAt 4 rfl)
    have hS_49 : Sat W _ (([(p, .cells #[.slice oa on ok, .slice (some ⟨wb, wo, none⟩) wn wk, .slice ja jn jk, .int .i64 rd] 74 (0, 0))] ++ (c_42 ++ (Jc ++ jcs.flatten))) :: H :: F) := Sat.perm (show Sat W _ ([(p, .cells #[.slice oa on ok, .slice (some ⟨wb, wo, none⟩) wn wk, .slice ja jn jk, .int .i64 rd] 74 (0, 0))] :: c_42 :: Jc :: jcs.flatten :: H :: F) from hS_48) (by simp)
    exact .inr ⟨⟨(ws.set k (⟨0, 0, 0, 0, 0⟩ : Wk)), jobs, rd⟩, _, by unfold dropM jobA; dsimp only; rw [getD_some hs2J_1, if_pos ⟨hh, heq.1, heq.2, hc_39⟩], rfl, ⟨_, _, _, _, _, _, _, _, _, _, _, _, rfl, hO_43, hOj, hJs, hof, dof⟩, hS_49⟩
  refine qO rfl ?_
  refine gY ?_
  refine sL hS_11 5 2 (.slice ja jn jk) (Tryz.isAgg72 _) ?_
  refine nilO ⟨trivial, ?_⟩
  refine qO rfl ?_
  refine gY ?_
  refine sL hS_11 1 0 (.int .i64 r.job) (Tryz.isAgg3 _) ?_
  refine nilO ⟨trivial, ?_⟩
  obtain ⟨x_12, b_13, o_14, hx_15, hp_16, hq_17, ha_18⟩ := OwnT.elem hOj r.job
  obtain rfl : qJ_1 = x_12 := Option.some.inj (hqJ_1.symm.trans hx_15)
  refine qY (.pointer (some ⟨b_13, o_14 + (r.job).toNat * 1, none⟩)) rfl (fun w _ => Y_idx (a := ja) (i := r.job) (len := jn) (cap := jk) rfl Tryz.runUnderlying72 Tryz.sizeOf153 (by kernel_rfl) (by kernel_rfl) hq_17) ?_
  refine qO rfl ?_
  refine gY ?_
  refine sLp hS_11 (hp_16.up 6 rfl) 0 (.pointer (some ⟨qJ_1, 0, none⟩)) (Tryz.isAgg153 _) ?_
  refine nilO ⟨trivial, ?_⟩
  refine qU [20] <| qU [21] ?_
  refine qO rfl ?_
  refine gY ?_
  refine sL hS_11 2 2 (.bool s2J_1.x) (Tryz.isAgg4 _) ?_
  refine nilO ⟨trivial, ?_⟩
  refine qU [23] <| qU [24] ?_
  refine qN ?_
  refine thenK_n <| ?_
  refine cBn s2J_1.x (fun hc_19 => ?_) (fun hc_19 => ?_)
  rotate_left
  · refine seqE <| regionE <| pu1 <| nilO <| thenK_n <| retE <| thenK_r <| retT [.bool false] <| ?_
    have hS_30 : Sat W _ (Jc :: H :: F) := ((((((hS_11.dropAt 0 rfl).dropAt 0 rfl).dropAt 0 rfl).dropAt 0 rfl).dropAt 0 rfl).dropAt 0 rfl)
    have hS_31 := (hS_30.dropAt 0 rfl)
    exact .inl ⟨by unfold dropM jobA; dsimp only; rw [getD_some hs2J_1, if_neg (fun h => hc_19 h.2.2.2)], rfl, hS_31⟩
  refine skipE <| thenK_n <| seqE <| regionE <| pu3 ?_
  refine sStF hS_11 hOw rfl 0 k 0 v (⟨0, 0, 0, 0, 0⟩ : Wk) hv (.agg #[.int .i64 0, .int .i64 0, .int .i64 0, .int .i64 0, .int .i64 0]) [.int .i64 0, .int .i64 0, .int .i64 0, .int .i64 0, .int .i64 0] Tryz.sizeOf120 ?_
  intro w_20 c_22 hO_23 hS_21
  refine nilO <| thenK_n <| seqE <| regionE <| pu1 <| nilO <| thenK_n <| retE <| retT [.bool true] <| ?_
  have hS_24 := (((hS_21.pick 4 rfl).pick 4 rfl).pick 4 rfl)
  have hS_25 : Sat W _ (([(qJ_1, .cells #[.slice taJ_1 tnJ_1 tkJ_1, .pointer (some ⟨qbJ_1, 0, none⟩), .bool s2J_1.x] 156 (0, 0))] ++ MJ_1) :: (jcs.eraseIdx (r.job.toNat)).flatten :: c_22 :: [(b_5, .cells #[.int .i64 r.job, .int .i64 r.task] 40 (0, 0))] :: [(p, .cells #[.slice oa on ok, .slice (some ⟨wb, wo, none⟩) wn wk, .slice ja jn jk, .int .i64 rd] 74 (0, 0))] :: Jc :: H :: F) := Sat.perm (show Sat W _ ([(qJ_1, .cells #[.slice taJ_1 tnJ_1 tkJ_1, .pointer (some ⟨qbJ_1, 0, none⟩), .bool s2J_1.x] 156 (0, 0))] :: MJ_1 :: (jcs.eraseIdx (r.job.toNat)).flatten :: c_22 :: [(b_5, .cells #[.int .i64 r.job, .int .i64 r.task] 40 (0, 0))] :: [(p, .cells #[.slice oa on ok, .slice (some ⟨wb, wo, none⟩) wn wk, .slice ja jn jk, .int .i64 rd] 74 (0, 0))] :: Jc :: H :: F) from hS_24) (by simp)
  have hS_26 := Sat.shutN (d := ([(qJ_1, .cells #[.slice taJ_1 tnJ_1 tkJ_1, .pointer (some ⟨qbJ_1, 0, none⟩), .bool s2J_1.x] 156 (0, 0))] ++ MJ_1)) (A := []) (r.job.toNat) hcJ_1 hS_25
  rw [set_same hcJ_1] at hS_26
  have hS_28 := ((((hS_26.pick 4 rfl).pick 2 rfl).pick 4 rfl).dropAt 4 rfl)
  have hS_29 : Sat W _ (([(p, .cells #[.slice oa on ok, .slice (some ⟨wb, wo, none⟩) wn wk, .slice ja jn jk, .int .i64 rd] 74 (0, 0))] ++ (c_22 ++ (Jc ++ jcs.flatten))) :: H :: F) := Sat.perm (show Sat W _ ([(p, .cells #[.slice oa on ok, .slice (some ⟨wb, wo, none⟩) wn wk, .slice ja jn jk, .int .i64 rd] 74 (0, 0))] :: c_22 :: Jc :: jcs.flatten :: H :: F) from hS_28) (by simp)
  exact .inr ⟨⟨(ws.set k (⟨0, 0, 0, 0, 0⟩ : Wk)), jobs, rd⟩, _, by unfold dropM jobA; dsimp only; rw [getD_some hs2J_1, if_pos ⟨hh, heq.1, heq.2, hc_19⟩], rfl, ⟨_, _, _, _, _, _, _, _, _, _, _, _, rfl, hO_23, hOj, hJs, hof, dof⟩, hS_29⟩
theorem am_drop_n {p wb wo : Nat} {H : Chunk} {oa ja : Option Addr} {on ok wn wk jn jk : Nat} {rd : Int} {ws : List Wk} {jobs : List JA} {ps : List Nat} {Wc Jc : Chunk} {jcs F : List Chunk} {K : Int} (hOw : OwnT encWk 120 5 (some ⟨wb, wo, none⟩) wn wk ws Wc) (hOj : OwnT encP 153 1 ja jn jk ps Jc) (hJs : Obs (JobA H) ps jobs jcs) (hJW : ∀ j ∈ jobs, JW K j) {off : List TL} (hof : RdT encTL 1 [H] oa on ok off) (dof : ∀ z ∈ off, TL.Ok [H] z) (hrd : -1000000000 ≤ rd ∧ rd ≤ 1000000000) (hK : K ≤ 1000000000) (k : Nat) (v : Wk) (hv : ws[k]? = some v) (r : Ref) (hno : ¬ ((v.phase ≠ 0 ∧ v.phase ≠ 4) ∧ v.heldJob = r.job ∧ v.heldTask = r.task)) (hS : Sat W w ([(p, .cells #[.slice oa on ok, .slice (some ⟨wb, wo, none⟩) wn wk, .slice ja jn jk, .int .i64 rd] 74 (0, 0))] :: Wc :: Jc :: jcs.flatten :: H :: F)) :
    Calls Tryz.prog 59 #[.pointer (some ⟨p, 0, none⟩), .pointer (some ⟨wb, wo + k * 5, none⟩), .agg #[.int .i64 r.job, .int .i64 r.task]] w fun e w' => (dropM (⟨ws, jobs, rd⟩ : MS) k v r = none ∧ e = .returned (.bool false) ∧ Sat W w' (H :: F)) ∨ (∃ (m' : MS) (M' : Chunk), dropM (⟨ws, jobs, rd⟩ : MS) k v r = some m' ∧ e = .returned (.bool true) ∧ MachR p wb wo H off m' M' ∧ Sat W w' (M' :: H :: F)) := by
  have hwl := hOw.len; have hwk := hOw.le; have hjl := hOj.len; have hjk := hOj.le; have hjs := hJs.1
  have hp_1 := OwnT.ptr hOw rfl hv
  refine callsA 35 Tryz.func59 rfl ?_
  refine seqE <| regionE ?_
  refine sBox hS (.agg #[.int .i64 r.job, .int .i64 r.task]) #[.int .i64 r.job, .int .i64 r.task] ?_
  intro b_2 w_3 hS_4
  refine pu1 <| nilO <| thenK_n <| seqE <| seqE ?_
  refine drawP [1, 7, 8, 15, 17, 19, 22] [] (Plan.sts [0] <| .ef 1 <| Plan.sts [2] <| Plan.sts [3] <| Plan.sts [4] <| Plan.sts [5] <| Plan.sts [6] <| .fk 7 8 (.ef 8 <| Plan.sts [9] <| Plan.sts [10] <| Plan.sts [11] <| Plan.sts [12] <| Plan.sts [13] <| Plan.sts [14] <| Plan.sts [16] <| .fk 15 17 (.ef 17 <| Plan.sts [18] <| .ef 19 <| Plan.sts [20] <| Plan.sts [21] <| .ef 22 <| Plan.sts [23] <| Plan.sts [24] <| .fin) (.ef 15 <| Plan.sts [18] <| .ef 19 <| Plan.sts [20] <| Plan.sts [21] <| .ef 22 <| Plan.sts [23] <| Plan.sts [24] <| .fin)) (.ef 7 <| Plan.sts [9] <| Plan.sts [10] <| Plan.sts [11] <| Plan.sts [12] <| Plan.sts [13] <| Plan.sts [14] <| Plan.sts [16] <| .fk 15 17 (.ef 17 <| Plan.sts [18] <| .ef 19 <| Plan.sts [20] <| Plan.sts [21] <| .ef 22 <| Plan.sts [23] <| Plan.sts [24] <| .fin) (.ef 15 <| Plan.sts [18] <| .ef 19 <| Plan.sts [20] <| Plan.sts [21] <| .ef 22 <| Plan.sts [23] <| Plan.sts [24] <| .fin))) rfl (by kernel_rfl) trivial ?_
  have hS_5 := hS_4.drew
  refine qU [0] ?_
  refine qO rfl ?_
  have hS_6 := (hS_5.pick 2 rfl)
  refine cX Tryz.call95 (aw_holds hOw k v hv hS_6) ?_
  rintro _ w_7 ⟨rfl, hS_8⟩
  refine nilO ⟨trivial, ?_⟩
  refine qU [2] <| qU [3] ?_
  rcases Classical.em ((v.phase ≠ 0 ∧ v.phase ≠ 4)) with hc_9 | hc_9
  rotate_left
  · refine qFix 10 _ true (congrArg Bool.not (decide_eq_false hc_9)) ?_
    refine qU [4] <| qU [5] <| qU [6] ?_
    refine qF ?_ ?_
    rotate_left
    · refine qO rfl ?_
      refine pu1 ?_
      refine nilO ⟨trivial, ?_⟩
      refine qO rfl ?_
      refine pu1 ?_
      refine nilO ⟨trivial, ?_⟩
      refine qU [9] <| qU [10] <| qU [11] <| qU [12] <| qU [13] <| qU [14] <| qU [16] ?_
      refine qF ?_ ?_
      rotate_left
      · refine qO rfl ?_
        refine pu1 ?_
        refine nilO ⟨trivial, ?_⟩
        refine qO rfl ?_
        refine pu1 ?_
        refine nilO ⟨trivial, ?_⟩
        refine qU [18] ?_
        refine qO rfl ?_
        refine pu1 ?_
        refine nilO ⟨trivial, ?_⟩
        refine qU [20] <| qU [21] ?_
        refine qO rfl ?_
        refine pu1 ?_
        refine nilO ⟨trivial, ?_⟩
        refine qU [23] <| qU [24] ?_
        refine qN ?_
        refine thenK_n <| cTt <| seqE <| regionE <| pu1 <| nilO <| thenK_n <| retE <| thenK_r <| retT [.bool false] <| ?_
        have hS_19 := (((((hS_8.dropAt 0 rfl).dropAt 0 rfl).dropAt 0 rfl).dropAt 0 rfl).dropAt 0 rfl)
        exact .inl ⟨by unfold dropM; rw [if_neg (fun h => hno ⟨h.1, h.2.1, h.2.2.1⟩)], rfl, hS_19⟩
      refine qO rfl ?_
      refine pu1 ?_
      refine nilO ⟨trivial, ?_⟩
      refine qO rfl ?_
      refine pu1 ?_
      refine nilO ⟨trivial, ?_⟩
      refine qU [18] ?_
      refine qO rfl ?_
      refine pu1 ?_
      refine nilO ⟨trivial, ?_⟩
      refine qU [20] <| qU [21] ?_
      refine qO rfl ?_
      refine pu1 ?_
      refine nilO ⟨trivial, ?_⟩
      refine qU [23] <| qU [24] ?_
      refine qN ?_
      refine thenK_n <| cTt <| seqE <| regionE <| pu1 <| nilO <| thenK_n <| retE <| thenK_r <| retT [.bool false] <| ?_
      have hS_18 := (((((hS_8.dropAt 0 rfl).dropAt 0 rfl).dropAt 0 rfl).dropAt 0 rfl).dropAt 0 rfl)
      exact .inl ⟨by unfold dropM; rw [if_neg (fun h => hno ⟨h.1, h.2.1, h.2.2.1⟩)], rfl, hS_18⟩
    refine qO rfl ?_
    refine pu1 ?_
    refine nilO ⟨trivial, ?_⟩
    refine qO rfl ?_
    refine pu1 ?_
    refine nilO ⟨trivial, ?_⟩
    refine qU [9] <| qU [10] <| qU [11] <| qU [12] <| qU [13] <| qU [14] <| qU [16] ?_
    refine qF ?_ ?_
    rotate_left
    · refine qO rfl ?_
      refine pu1 ?_
      refine nilO ⟨trivial, ?_⟩
      refine qO rfl ?_
      refine pu1 ?_
      refine nilO ⟨trivial, ?_⟩
      refine qU [18] ?_
      refine qO rfl ?_
      refine pu1 ?_
      refine nilO ⟨trivial, ?_⟩
      refine qU [20] <| qU [21] ?_
      refine qO rfl ?_
      refine pu1 ?_
      refine nilO ⟨trivial, ?_⟩
      refine qU [23] <| qU [24] ?_
      refine qN ?_
      refine thenK_n <| cTt <| seqE <| regionE <| pu1 <| nilO <| thenK_n <| retE <| thenK_r <| retT [.bool false] <| ?_
      have hS_17 := (((((hS_8.dropAt 0 rfl).dropAt 0 rfl).dropAt 0 rfl).dropAt 0 rfl).dropAt 0 rfl)
      exact .inl ⟨by unfold dropM; rw [if_neg (fun h => hno ⟨h.1, h.2.1, h.2.2.1⟩)], rfl, hS_17⟩
    refine qO rfl ?_
    refine pu1 ?_
    refine nilO ⟨trivial, ?_⟩
    refine qO rfl ?_
    refine pu1 ?_
    refine nilO ⟨trivial, ?_⟩
    refine qU [18] ?_
    refine qO rfl ?_
    refine pu1 ?_
    refine nilO ⟨trivial, ?_⟩
    refine qU [20] <| qU [21] ?_
    refine qO rfl ?_
    refine pu1 ?_
    refine nilO ⟨trivial, ?_⟩
    refine qU [23] <| qU [24] ?_
    refine qN ?_
    refine thenK_n <| cTt <| seqE <| regionE <| pu1 <| nilO <| thenK_n <| retE <| thenK_r <| retT [.bool false] <| ?_
    have hS_16 := (((((hS_8.dropAt 0 rfl).dropAt 0 rfl).dropAt 0 rfl).dropAt 0 rfl).dropAt 0 rfl)
    exact .inl ⟨by unfold dropM; rw [if_neg (fun h => hno ⟨h.1, h.2.1, h.2.2.1⟩)], rfl, hS_16⟩
  refine qFix 10 _ false (congrArg Bool.not (decide_eq_true hc_9)) ?_
  refine qU [4] <| qU [5] <| qU [6] ?_
  refine qF ?_ ?_
  rotate_left
  · refine qO rfl ?_
    refine gY ?_
    refine lA hS_8 1 0 2 (Tryz.isAgg40 _) (Tryz.sizeOf40 _) ?_
    refine nilO ⟨trivial, ?_⟩
    refine qO rfl ?_
    refine gY ?_
    refine sLpA hS_8 (hp_1.up 0 rfl) 1 [.int .i64 v.heldJob, .int .i64 v.heldTask] (Tryz.isAgg40 _) (Tryz.sizeOf40 _) ?_
    refine nilO ⟨trivial, ?_⟩
    refine qY (.bool (!(((v.heldJob : Int) == r.job) && ((v.heldTask : Int) == r.task)))) rfl (fun w _ => Y_eqS rfl (by kernel_rfl) (by kernel_rfl) (eqvn40 _ v.heldJob v.heldTask r.job r.task)) ?_
    refine qU [10] <| qU [11] ?_
    have hc_13 : ¬ ((v.heldJob : Int) = r.job ∧ (v.heldTask : Int) = r.task) := (fun h => hno ⟨hc_9, h⟩)
    refine qFix 18 _ true (congrArg Bool.not (show (((v.heldJob : Int) == r.job) && ((v.heldTask : Int) == r.task)) = false from by simpa using hc_13)) ?_
    refine qU [12] <| qU [13] <| qU [14] <| qU [16] ?_
    refine qF ?_ ?_
    rotate_left
    · refine qO rfl ?_
      refine pu1 ?_
      refine nilO ⟨trivial, ?_⟩
      refine qO rfl ?_
      refine pu1 ?_
      refine nilO ⟨trivial, ?_⟩
      refine qU [18] ?_
      refine qO rfl ?_
      refine pu1 ?_
      refine nilO ⟨trivial, ?_⟩
      refine qU [20] <| qU [21] ?_
      refine qO rfl ?_
      refine pu1 ?_
      refine nilO ⟨trivial, ?_⟩
      refine qU [23] <| qU [24] ?_
      refine qN ?_
      refine thenK_n <| cTt <| seqE <| regionE <| pu1 <| nilO <| thenK_n <| retE <| thenK_r <| retT [.bool false] <| ?_
      have hS_15 := (((((hS_8.dropAt 0 rfl).dropAt 0 rfl).dropAt 0 rfl).dropAt 0 rfl).dropAt 0 rfl)
      exact .inl ⟨by unfold dropM; rw [if_neg (fun h => hno ⟨h.1, h.2.1, h.2.2.1⟩)], rfl, hS_15⟩
    refine qO rfl ?_
    refine pu1 ?_
    refine nilO ⟨trivial, ?_⟩
    refine qO rfl ?_
    refine pu1 ?_
    refine nilO ⟨trivial, ?_⟩
    refine qU [18] ?_
    refine qO rfl ?_
    refine pu1 ?_
    refine nilO ⟨trivial, ?_⟩
    refine qU [20] <| qU [21] ?_
    refine qO rfl ?_
    refine pu1 ?_
    refine nilO ⟨trivial, ?_⟩
    refine qU [23] <| qU [24] ?_
    refine qN ?_
    refine thenK_n <| cTt <| seqE <| regionE <| pu1 <| nilO <| thenK_n <| retE <| thenK_r <| retT [.bool false] <| ?_
    have hS_14 := (((((hS_8.dropAt 0 rfl).dropAt 0 rfl).dropAt 0 rfl).dropAt 0 rfl).dropAt 0 rfl)
    exact .inl ⟨by unfold dropM; rw [if_neg (fun h => hno ⟨h.1, h.2.1, h.2.2.1⟩)], rfl, hS_14⟩
  refine qO rfl ?_
  refine gY ?_
  refine sLpA hS_8 (hp_1.up 0 rfl) 1 [.int .i64 v.heldJob, .int .i64 v.heldTask] (Tryz.isAgg40 _) (Tryz.sizeOf40 _) ?_
  refine nilO ⟨trivial, ?_⟩
  refine qO rfl ?_
  refine gY ?_
  refine lA hS_8 1 0 2 (Tryz.isAgg40 _) (Tryz.sizeOf40 _) ?_
  refine nilO ⟨trivial, ?_⟩
  refine qY (.bool (!(((v.heldJob : Int) == r.job) && ((v.heldTask : Int) == r.task)))) rfl (fun w _ => Y_eqS rfl (by kernel_rfl) (by kernel_rfl) (eqvn40 _ v.heldJob v.heldTask r.job r.task)) ?_
  refine qU [10] <| qU [11] ?_
  have hc_10 : ¬ ((v.heldJob : Int) = r.job ∧ (v.heldTask : Int) = r.task) := (fun h => hno ⟨hc_9, h⟩)
  refine qFix 18 _ true (congrArg Bool.not (show (((v.heldJob : Int) == r.job) && ((v.heldTask : Int) == r.task)) = false from by simpa using hc_10)) ?_
  refine qU [12] <| qU [13] <| qU [14] <| qU [16] ?_
  refine qF ?_ ?_
  rotate_left
  · refine qO rfl ?_
    refine pu1 ?_
    refine nilO ⟨trivial, ?_⟩
    refine qO rfl ?_
    refine pu1 ?_
    refine nilO ⟨trivial, ?_⟩
    refine qU [18] ?_
    refine qO rfl ?_
    refine pu1 ?_
    refine nilO ⟨trivial, ?_⟩
    refine qU [20] <| qU [21] ?_
    refine qO rfl ?_
    refine pu1 ?_
    refine nilO ⟨trivial, ?_⟩
    refine qU [23] <| qU [24] ?_
    refine qN ?_
    refine thenK_n <| cTt <| seqE <| regionE <| pu1 <| nilO <| thenK_n <| retE <| thenK_r <| retT [.bool false] <| ?_
    have hS_12 := (((((hS_8.dropAt 0 rfl).dropAt 0 rfl).dropAt 0 rfl).dropAt 0 rfl).dropAt 0 rfl)
    exact .inl ⟨by unfold dropM; rw [if_neg (fun h => hno ⟨h.1, h.2.1, h.2.2.1⟩)], rfl, hS_12⟩
  refine qO rfl ?_
  refine pu1 ?_
  refine nilO ⟨trivial, ?_⟩
  refine qO rfl ?_
  refine pu1 ?_
  refine nilO ⟨trivial, ?_⟩
  refine qU [18] ?_
  refine qO rfl ?_
  refine pu1 ?_
  refine nilO ⟨trivial, ?_⟩
  refine qU [20] <| qU [21] ?_
  refine qO rfl ?_
  refine pu1 ?_
  refine nilO ⟨trivial, ?_⟩
  refine qU [23] <| qU [24] ?_
  refine qN ?_
  refine thenK_n <| cTt <| seqE <| regionE <| pu1 <| nilO <| thenK_n <| retE <| thenK_r <| retT [.bool false] <| ?_
  have hS_11 := (((((hS_8.dropAt 0 rfl).dropAt 0 rfl).dropAt 0 rfl).dropAt 0 rfl).dropAt 0 rfl)
  exact .inl ⟨by unfold dropM; rw [if_neg (fun h => hno ⟨h.1, h.2.1, h.2.2.1⟩)], rfl, hS_11⟩
theorem am_crash {p wb wo : Nat} {H : Chunk} {oa ja : Option Addr} {on ok wn wk jn jk : Nat} {rd : Int} {ws : List Wk} {jobs : List JA} {ps : List Nat} {Wc Jc : Chunk} {jcs F : List Chunk} {K : Int} (hOw : OwnT encWk 120 5 (some ⟨wb, wo, none⟩) wn wk ws Wc) (hOj : OwnT encP 153 1 ja jn jk ps Jc) (hJs : Obs (JobA H) ps jobs jcs) (hJW : ∀ j ∈ jobs, JW K j) {off : List TL} (hof : RdT encTL 1 [H] oa on ok off) (dof : ∀ z ∈ off, TL.Ok [H] z) (hrd : -1000000000 ≤ rd ∧ rd ≤ 1000000000) (hK : K ≤ 1000000000) (k : Nat) (v : Wk) (hv : ws[k]? = some v) (r : Ref) (hS : Sat W w ([(p, .cells #[.slice oa on ok, .slice (some ⟨wb, wo, none⟩) wn wk, .slice ja jn jk, .int .i64 rd] 74 (0, 0))] :: Wc :: Jc :: jcs.flatten :: H :: F)) :
    Calls Tryz.prog 60 #[.pointer (some ⟨p, 0, none⟩), .pointer (some ⟨wb, wo + k * 5, none⟩), .agg #[.int .i64 r.job, .int .i64 r.task]] w fun e w' => (crashM (⟨ws, jobs, rd⟩ : MS) k v r = none ∧ e = .returned (.bool false) ∧ Sat W w' (H :: F)) ∨ (∃ (m' : MS) (M' : Chunk), crashM (⟨ws, jobs, rd⟩ : MS) k v r = some m' ∧ e = .returned (.bool true) ∧ MachR p wb wo H off m' M' ∧ Sat W w' (M' :: H :: F)) := by
  have hwl := hOw.len; have hwk := hOw.le; have hjl := hOj.len; have hjk := hOj.le; have hjs := hJs.1
  have hp_1 := OwnT.ptr hOw rfl hv
  refine callsA 52 Tryz.func60 rfl ?_
  refine seqE <| regionE ?_
  refine sBox hS (.agg #[.int .i64 r.job, .int .i64 r.task]) #[.int .i64 r.job, .int .i64 r.task] ?_
  intro b_2 w_3 hS_4
  refine pu1 <| nilO <| thenK_n <| seqE <| seqE ?_
  by_cases hc_5 : (v.phase : Int) = 4
  · refine drawE [] [(3, ⟨wb, wo + k * 5 + 0, none⟩, .int .i64 v.phase)] [(true, [0, 1, 2]), (true, [3]), (true, [4, 5]), (true, [6, 7, 8, 9, 10, 11, 12])] rfl (by kernel_rfl) ⟨.inr ((hp_1.up 2 rfl).cell hS_4 (k := 0) rfl), trivial⟩ ?_
    have hS_6 := hS_4.drew
    refine wU [0, 1, 2] ?_
    refine wLd (.int .i64 v.phase) 0 Tryz.isAgg3 ?_
    refine wU [4, 5] ?_
    refine wFix 12 _ true (beq_iff_eq.2 hc_5) ?_
    refine wU [6, 7, 8, 9, 10, 11, 12] ?_
    refine wN ?_
    refine thenK_n <| cTt <| seqE <| regionE <| pu1 <| nilO <| thenK_n <| retE <| thenK_r <| retT [.bool false] <| ?_
    have hS_7 := (((((hS_6.dropAt 0 rfl).dropAt 0 rfl).dropAt 0 rfl).dropAt 0 rfl).dropAt 0 rfl)
    exact .inl ⟨by unfold crashM; rw [if_pos (by omega)], rfl, hS_7⟩
  refine drawE [] [(3, ⟨wb, wo + k * 5 + 0, none⟩, .int .i64 v.phase), (9, ⟨wb, wo + k * 5 + 1 + 0, none⟩, .int .i64 v.heldJob), (9, ⟨wb, wo + k * 5 + 1 + 1, none⟩, .int .i64 v.heldTask), (10, ⟨b_2, 0, none⟩, .int .i64 r.job), (10, ⟨b_2, 1, none⟩, .int .i64 r.task)] [(true, [0, 1, 2]), (true, [3]), (true, [4, 5]), (true, [6, 7, 8]), (true, [9]), (true, [10]), (true, [11]), (true, [12])] rfl (by kernel_rfl) ⟨.inr ((hp_1.up 2 rfl).cell hS_4 (k := 0) rfl), .inr ((hp_1.up 2 rfl).cell hS_4 (k := 1) rfl), .inr ((hp_1.up 2 rfl).cell hS_4 (k := 2) rfl), .inr (hS_4.cell 0 rfl rfl), .inr (hS_4.cell 0 rfl rfl), trivial⟩ ?_
  have hS_8 := hS_4.drew
  refine wU [0, 1, 2] ?_
  refine wLd (.int .i64 v.phase) 0 Tryz.isAgg3 ?_
  refine wU [4, 5] ?_
  refine wFix 12 _ false (beq_eq_false_iff_ne.2 hc_5) ?_
  refine wU [6, 7, 8] ?_
  refine wY (.agg #[.int .i64 v.heldJob, .int .i64 v.heldTask]) rfl (fun w hF => Y_loadF rfl (Tryz.isAgg40 w) (Tryz.sizeOf40 w) (by kernel_rfl) rfl ⟨hF 1 _ _ rfl, hF 2 _ _ rfl, trivial⟩) ?_
  refine wY (.agg #[.int .i64 r.job, .int .i64 r.task]) rfl (fun w hF => Y_loadF rfl (Tryz.isAgg40 w) (Tryz.sizeOf40 w) (by kernel_rfl) rfl ⟨hF 3 _ _ rfl, hF 4 _ _ rfl, trivial⟩) ?_
  refine wY (.bool (!(((v.heldJob : Int) == r.job) && ((v.heldTask : Int) == r.task)))) rfl (fun w _ => Y_eqS rfl (by kernel_rfl) (by kernel_rfl) (eqvn40 _ v.heldJob v.heldTask r.job r.task)) ?_
  refine wU [12] ?_
  refine wN ?_
  refine thenK_n <| ?_
  rcases Classical.em ((v.heldJob : Int) = r.job ∧ (v.heldTask : Int) = r.task) with hc_9 | hc_9
  rotate_left
  · refine cT _ (congrArg Bool.not (show (((v.heldJob : Int) == r.job) && ((v.heldTask : Int) == r.task)) = false from by simpa using hc_9)) ?_
    refine seqE <| regionE <| pu1 <| nilO <| thenK_n <| retE <| thenK_r <| retT [.bool false] <| ?_
    have hS_52 := (((((hS_8.dropAt 0 rfl).dropAt 0 rfl).dropAt 0 rfl).dropAt 0 rfl).dropAt 0 rfl)
    exact .inl ⟨by unfold crashM; rw [if_pos (by omega)], rfl, hS_52⟩
  refine cF _ (congrArg Bool.not (show (((v.heldJob : Int) == r.job) && ((v.heldTask : Int) == r.task)) = true from by simpa using hc_9)) ?_
  refine skipE <| thenK_n <| seqE <| seqE <| regionE <| pu2 ?_
  have hS_10 := (((((hS_8.pick 5 rfl).pick 5 rfl).pick 5 rfl).pick 5 rfl).pick 5 rfl)
  refine cX Tryz.call57 (am_busy hOw hOj hJs hJW k v hv hS_10) ?_
  rintro _ w_11 ⟨rfl, hS_12⟩
  refine nilO <| thenK_n <| ?_
  refine cB (busyM jobs v) (fun hc_13 => ?_) (fun hc_13 => ?_)
  rotate_left
  · refine skipE <| thenK_n <| seqE <| regionE <| pu3 ?_
    refine sStF hS_12 hOw rfl 1 k 0 v (⟨4, 0, 0, 0, 0⟩ : Wk) hv (.agg #[.int .i64 4, .int .i64 0, .int .i64 0, .int .i64 0, .int .i64 0]) [.int .i64 4, .int .i64 0, .int .i64 0, .int .i64 0, .int .i64 0] Tryz.sizeOf120 ?_
    intro w_46 c_48 hO_49 hS_47
    refine nilO <| thenK_n <| seqE <| regionE <| pu1 <| nilO <| thenK_n <| retE <| retT [.bool true] <| ?_
    have hS_50 := (hS_47.dropAt 5 rfl)
    have hS_51 : Sat W _ (([(p, .cells #[.slice oa on ok, .slice (some ⟨wb, wo, none⟩) wn wk, .slice ja jn jk, .int .i64 rd] 74 (0, 0))] ++ (c_48 ++ (Jc ++ jcs.flatten))) :: H :: F) := Sat.perm (show Sat W _ ([(p, .cells #[.slice oa on ok, .slice (some ⟨wb, wo, none⟩) wn wk, .slice ja jn jk, .int .i64 rd] 74 (0, 0))] :: c_48 :: Jc :: jcs.flatten :: H :: F) from hS_50) (by simp)
    exact .inr ⟨⟨(ws.set k (⟨4, 0, 0, 0, 0⟩ : Wk)), jobs, rd⟩, _, by unfold crashM jobA; dsimp only; rw [if_neg (by omega), if_neg hc_13], rfl, ⟨_, _, _, _, _, _, _, _, _, _, _, _, rfl, hO_49, hOj, hJs, hof, dof⟩, hS_51⟩
  refine seqE <| seqE ?_
  obtain ⟨sJ_13, BJ_13, hsJ_13, hnJ_13, hmJ_13, hBJ_13, hxJ_13, hdJ_13, hWJ_13, hlJ_13⟩ := runsM_some (by have h := ((Bool.and_eq_true _ _).mp hc_13).2; rwa [hc_9.1] at h) hJW
  obtain ⟨qJ_13, hqJ_13⟩ := at_some hjl (k := r.job.toNat) (by omega)
  obtain ⟨s2J_13, cJ_13, hs2J_13, hcJ_13, hJJ_13⟩ := Obs.get hJs hqJ_13; obtain rfl : s2J_13 = sJ_13 := Option.some.inj (hs2J_13.symm.trans hsJ_13)
  obtain ⟨taJ_13, tnJ_13, tkJ_13, qbJ_13, MJ_13, rfl, hTJ_13, hDJ_13, hRJ_13⟩ := hJJ_13.open hBJ_13
  have hS_15 := (hS_12.pick 3 rfl)
  have hS_16 := Sat.openN (A := []) (r.job.toNat) hcJ_13 hS_15
  have hSJ_13 : Sat W _ ([(qJ_13, .cells #[.slice taJ_13 tnJ_13 tkJ_13, .pointer (some ⟨qbJ_13, 0, none⟩), .bool s2J_13.x] 156 (0, 0))] :: MJ_13 :: (jcs.eraseIdx (r.job.toNat)).flatten :: [(p, .cells #[.slice oa on ok, .slice (some ⟨wb, wo, none⟩) wn wk, .slice ja jn jk, .int .i64 rd] 74 (0, 0))] :: Wc :: Jc :: H :: [(b_2, .cells #[.int .i64 r.job, .int .i64 r.task] 40 (0, 0))] :: F) := Sat.perm hS_16 (by simp)
  have hnt_13 := hTJ_13.len; have hlt_13 := hTJ_13.le; have hn0_13 := hWJ_13.n0; have hls_13 := hWJ_13.ls
  obtain ⟨x_17, b_18, o_19, hx_20, hp_21, hq_22, ha_23⟩ := OwnT.elem hOj r.job
  obtain rfl : qJ_13 = x_17 := Option.some.inj (hqJ_13.symm.trans hx_20)
  refine drawE [17] [(3, ⟨p, 2, none⟩, .slice ja jn jk), (5, ⟨b_2, 0, none⟩, .int .i64 r.job), (7, ⟨b_18, o_19 + (r.job).toNat * 1, none⟩, .pointer (some ⟨qJ_13, 0, none⟩)), (10, ⟨qJ_13, 1, none⟩, .pointer (some ⟨qbJ_13, 0, none⟩)), (12, ⟨b_2, 1, none⟩, .int .i64 r.task), (16, ⟨wb, wo + k * 5 + 3, none⟩, .int .i64 v.attempt)] [(true, [0, 1, 2, 4, 11, 13, 14, 15]), (true, [3]), (true, [5]), (true, [6]), (true, [7]), (true, [8, 9]), (true, [10]), (true, [12]), (true, [16]), (false, [17]), (true, [18])] rfl (by kernel_rfl) ⟨.inr (hSJ_13.cell 3 rfl rfl), .inr (hSJ_13.cell 7 rfl rfl), .inr ((hp_21.up 5 rfl).cell hSJ_13 (k := 0) rfl), .inr (hSJ_13.cell 0 rfl rfl), .inr (hSJ_13.cell 7 rfl rfl), .inr ((hp_1.up 4 rfl).cell hSJ_13 (k := 3) rfl), trivial⟩ ?_
  have hS_24 := hSJ_13.drew
  refine wU [0, 1, 2, 4, 11, 13, 14, 15] ?_
  refine wLd (.slice ja jn jk) 0 Tryz.isAgg72 ?_
  refine wLd (.int .i64 r.job) 1 Tryz.isAgg3 ?_
  refine wY (.pointer (some ⟨b_18, o_19 + (r.job).toNat * 1, none⟩)) rfl (fun w _ => Y_idx (a := ja) (i := r.job) (len := jn) (cap := jk) rfl Tryz.runUnderlying72 Tryz.sizeOf153 (by kernel_rfl) (by kernel_rfl) hq_22) ?_
  refine wLd (.pointer (some ⟨qJ_13, 0, none⟩)) 2 Tryz.isAgg153 ?_
  refine wU [8, 9] ?_
  refine wLd (.pointer (some ⟨qbJ_13, 0, none⟩)) 3 Tryz.isAgg154 ?_
  refine wLd (.int .i64 r.task) 4 Tryz.isAgg3 ?_
  refine wLd (.int .i64 v.attempt) 5 Tryz.isAgg3 ?_
  refine wO rfl ?_
  have hS_25 := (hS_24.pick 1 rfl)
  refine cX Tryz.call97 (b_return hRJ_13 hWJ_13 r.task v.attempt (by omega) (Sat.flat1 hS_25)) ?_
  rintro _ w_26 ⟨M_29, rfl, hR_30, hS_27⟩
  have hS_28 := Sat.unflat1 hS_27
  refine nilO ⟨⟨.inr (hS_28.cell 3 rfl rfl), .inr (hS_28.cell 7 rfl rfl), .inr ((hp_21.up 5 rfl).cell hS_28 (k := 0) rfl), .inl (by kernel_rfl), .inl (by kernel_rfl), .inl (by kernel_rfl), trivial⟩, ?_⟩
  refine wU [18] ?_
  refine wN ?_
  refine thenK_n <| ?_
  refine cN (heldC BJ_13 r.task v.attempt) 0 (fun hc_31 => ?_) (fun hc_31 => ?_)
  rotate_left
  · refine seqE <| regionE <| pu1 <| nilO <| thenK_n <| retE <| thenK_r <| thenK_r <| retT [.bool false] <| ?_
    have hS_44 : Sat W _ (H :: [(b_2, .cells #[.int .i64 r.job, .int .i64 r.task] 40 (0, 0))] :: F) := ((((((hS_28.dropAt 0 rfl).dropAt 0 rfl).dropAt 0 rfl).dropAt 0 rfl).dropAt 0 rfl).dropAt 0 rfl)
    have hS_45 := (hS_44.dropAt 1 rfl)
    exact .inl ⟨by unfold crashM jobA; dsimp only; rw [if_neg (by omega), if_pos hc_13, getD_some hs2J_13]; simp only [hBJ_13]; rw [if_pos hc_31], rfl, hS_45⟩
  refine skipE <| thenK_n <| regionE <| pu3 ?_
  refine sL hS_28 3 3 (.int .i64 rd) (Tryz.isAgg3 _) ?_
  refine sAdd rd 1 ?_
  refine pu2 ?_
  refine tW hS_28 3 3 (.int .i64 (rd + 1)) Tryz.sizeOf3 ?_
  intro w_32 hS_33
  refine nilO <| thenK_n <| seqE <| regionE <| pu3 ?_
  refine sStF hS_33 hOw rfl 4 k 0 v (⟨4, 0, 0, 0, 0⟩ : Wk) hv (.agg #[.int .i64 4, .int .i64 0, .int .i64 0, .int .i64 0, .int .i64 0]) [.int .i64 4, .int .i64 0, .int .i64 0, .int .i64 0, .int .i64 0] Tryz.sizeOf120 ?_
  intro w_34 c_36 hO_37 hS_35
  refine nilO <| thenK_n <| seqE <| regionE <| pu1 <| nilO <| thenK_n <| retE <| retT [.bool true] <| ?_
  have hS_38 := (((hS_35.pick 2 rfl).pick 1 rfl).pick 2 rfl)
  have hS_39 : Sat W _ (([(qJ_13, .cells #[.slice taJ_13 tnJ_13 tkJ_13, .pointer (some ⟨qbJ_13, 0, none⟩), .bool ({ s2J_13 with B := some (retB BJ_13 r.task v.attempt) }).x] 156 (0, 0))] ++ M_29) :: (jcs.eraseIdx (r.job.toNat)).flatten :: [(p, .cells #[.slice oa on ok, .slice (some ⟨wb, wo, none⟩) wn wk, .slice ja jn jk, .int .i64 (rd + 1)] 74 (0, 0))] :: c_36 :: Jc :: H :: [(b_2, .cells #[.int .i64 r.job, .int .i64 r.task] 40 (0, 0))] :: F) := Sat.perm (show Sat W _ ([(qJ_13, .cells #[.slice taJ_13 tnJ_13 tkJ_13, .pointer (some ⟨qbJ_13, 0, none⟩), .bool ({ s2J_13 with B := some (retB BJ_13 r.task v.attempt) }).x] 156 (0, 0))] :: M_29 :: (jcs.eraseIdx (r.job.toNat)).flatten :: [(p, .cells #[.slice oa on ok, .slice (some ⟨wb, wo, none⟩) wn wk, .slice ja jn jk, .int .i64 (rd + 1)] 74 (0, 0))] :: c_36 :: Jc :: H :: [(b_2, .cells #[.int .i64 r.job, .int .i64 r.task] 40 (0, 0))] :: F) from hS_38) (by simp)
  have hS_40 := Sat.shutN (d := ([(qJ_13, .cells #[.slice taJ_13 tnJ_13 tkJ_13, .pointer (some ⟨qbJ_13, 0, none⟩), .bool ({ s2J_13 with B := some (retB BJ_13 r.task v.attempt) }).x] 156 (0, 0))] ++ M_29)) (A := []) (r.job.toNat) hcJ_13 hS_39
  have hO_41 := Obs.set hJs hqJ_13 (JobA.mk (s := { s2J_13 with B := some (retB BJ_13 r.task v.attempt) }) rfl hTJ_13 hDJ_13 hR_30)
  have hS_42 := ((((hS_40.pick 3 rfl).pick 3 rfl).pick 3 rfl).dropAt 5 rfl)
  have hS_43 : Sat W _ (([(p, .cells #[.slice oa on ok, .slice (some ⟨wb, wo, none⟩) wn wk, .slice ja jn jk, .int .i64 (rd + 1)] 74 (0, 0))] ++ (c_36 ++ (Jc ++ (jcs.set (r.job.toNat) ([(qJ_13, .cells #[.slice taJ_13 tnJ_13 tkJ_13, .pointer (some ⟨qbJ_13, 0, none⟩), .bool ({ s2J_13 with B := some (retB BJ_13 r.task v.attempt) }).x] 156 (0, 0))] ++ M_29)).flatten))) :: H :: F) := Sat.perm (show Sat W _ ([(p, .cells #[.slice oa on ok, .slice (some ⟨wb, wo, none⟩) wn wk, .slice ja jn jk, .int .i64 (rd + 1)] 74 (0, 0))] :: c_36 :: Jc :: (jcs.set (r.job.toNat) ([(qJ_13, .cells #[.slice taJ_13 tnJ_13 tkJ_13, .pointer (some ⟨qbJ_13, 0, none⟩), .bool ({ s2J_13 with B := some (retB BJ_13 r.task v.attempt) }).x] 156 (0, 0))] ++ M_29)).flatten :: H :: F) from hS_42) (by simp)
  exact .inr ⟨⟨(ws.set k (⟨4, 0, 0, 0, 0⟩ : Wk)), (jobs.set (r.job.toNat) ({ s2J_13 with B := some (retB BJ_13 r.task v.attempt) })), (rd + 1)⟩, _, by unfold crashM jobA; dsimp only; rw [if_neg (by omega), if_pos hc_13, getD_some hs2J_13]; simp only [hBJ_13]; rw [if_neg (not_not_intro hc_31)], rfl, ⟨_, _, _, _, _, _, _, _, _, _, _, _, rfl, hO_37, hOj, hO_41, hof, dof⟩, hS_43⟩
theorem am_cancel {p wb wo : Nat} {H : Chunk} {oa ja : Option Addr} {on ok wn wk jn jk : Nat} {rd : Int} {ws : List Wk} {jobs : List JA} {ps : List Nat} {Wc Jc : Chunk} {jcs F : List Chunk} {K : Int} (hOw : OwnT encWk 120 5 (some ⟨wb, wo, none⟩) wn wk ws Wc) (hOj : OwnT encP 153 1 ja jn jk ps Jc) (hJs : Obs (JobA H) ps jobs jcs) (hJW : ∀ j ∈ jobs, JW K j) {off : List TL} (hof : RdT encTL 1 [H] oa on ok off) (dof : ∀ z ∈ off, TL.Ok [H] z) (hrd : -1000000000 ≤ rd ∧ rd ≤ 1000000000) (hK : K ≤ 1000000000) (x : Int) (hS : Sat W w ([(p, .cells #[.slice oa on ok, .slice (some ⟨wb, wo, none⟩) wn wk, .slice ja jn jk, .int .i64 rd] 74 (0, 0))] :: Wc :: Jc :: jcs.flatten :: H :: F)) :
    Calls Tryz.prog 54 #[.pointer (some ⟨p, 0, none⟩), .int .i64 x] w fun e w' => (cancelM (⟨ws, jobs, rd⟩ : MS) x = none ∧ e = .returned (.bool false) ∧ Sat W w' (H :: F)) ∨ (∃ (m' : MS) (M' : Chunk), cancelM (⟨ws, jobs, rd⟩ : MS) x = some m' ∧ e = .returned (.bool true) ∧ MachR p wb wo H off m' M' ∧ Sat W w' (M' :: H :: F)) := by
  have hwl := hOw.len; have hwk := hOw.le; have hjl := hOj.len; have hjk := hOj.le; have hjs := hJs.1
  refine callsA 33 Tryz.func54 rfl ?_
  refine seqE <| regionE <| pu1 <| nilO <| thenK_n <| seqE <| seqE <| regionE <| pu2 ?_
  have hS_1 := (((((hS.pick 4 rfl).pick 4 rfl).pick 4 rfl).pick 4 rfl).pick 4 rfl)
  refine cX Tryz.call93 (am_runs hOw hOj hJs hJW x hS_1) ?_
  rintro _ w_2 ⟨rfl, hS_3⟩
  refine pu1 <| nilO <| thenK_n <| ?_
  refine cBn (runsM jobs x) (fun hc_4 => ?_) (fun hc_4 => ?_)
  rotate_left
  · refine seqE <| regionE <| pu1 <| nilO <| thenK_n <| retE <| thenK_r <| retT [.bool false] <| ?_
    have hS_36 := ((((hS_3.dropAt 0 rfl).dropAt 0 rfl).dropAt 0 rfl).dropAt 0 rfl)
    exact .inl ⟨by unfold cancelM; rw [if_neg hc_4], rfl, hS_36⟩
  refine skipE <| thenK_n <| seqE ?_
  obtain ⟨sJ_4, BJ_4, hsJ_4, hnJ_4, hmJ_4, hBJ_4, hxJ_4, hdJ_4, hWJ_4, hlJ_4⟩ := runsM_some hc_4 hJW
  obtain ⟨qJ_4, hqJ_4⟩ := at_some hjl (k := x.toNat) (by omega)
  obtain ⟨s2J_4, cJ_4, hs2J_4, hcJ_4, hJJ_4⟩ := Obs.get hJs hqJ_4; obtain rfl : s2J_4 = sJ_4 := Option.some.inj (hs2J_4.symm.trans hsJ_4)
  obtain ⟨taJ_4, tnJ_4, tkJ_4, qbJ_4, MJ_4, rfl, hTJ_4, hDJ_4, hRJ_4⟩ := hJJ_4.open hBJ_4
  have hS_6 := (hS_3.pick 3 rfl)
  have hS_7 := Sat.openN (A := []) (x.toNat) hcJ_4 hS_6
  have hSJ_4 : Sat W _ ([(qJ_4, .cells #[.slice taJ_4 tnJ_4 tkJ_4, .pointer (some ⟨qbJ_4, 0, none⟩), .bool s2J_4.x] 156 (0, 0))] :: MJ_4 :: (jcs.eraseIdx (x.toNat)).flatten :: [(p, .cells #[.slice oa on ok, .slice (some ⟨wb, wo, none⟩) wn wk, .slice ja jn jk, .int .i64 rd] 74 (0, 0))] :: Wc :: Jc :: H :: F) := Sat.perm hS_7 (by simp)
  have hnt_4 := hTJ_4.len; have hlt_4 := hTJ_4.le; have hn0_4 := hWJ_4.n0; have hls_4 := hWJ_4.ls
  refine regionE <| pu3 ?_
  refine sL hSJ_4 3 2 (.slice ja jn jk) (Tryz.isAgg72 _) ?_
  refine pu1 ?_
  refine sIdxO hOj x (x).toNat Tryz.runUnderlying72 Tryz.sizeOf153 ?_
  intro x_8 b_9 o_10 hx_11 hp_12 hq_13
  obtain rfl : qJ_4 = x_8 := Option.some.inj (hqJ_4.symm.trans hx_11)
  refine sLp hSJ_4 (hp_12.up 5 rfl) 0 (.pointer (some ⟨qJ_4, 0, none⟩)) (Tryz.isAgg153 _) ?_
  refine pu1 <| nilO <| thenK_n <| seqE ?_
  refine drawE [8, 13] [(3, ⟨p, 3, none⟩, .int .i64 rd), (7, ⟨qJ_4, 1, none⟩, .pointer (some ⟨qbJ_4, 0, none⟩))] [(true, [0, 1, 2, 4, 5, 6]), (true, [3]), (true, [7]), (false, [8]), (true, [9]), (true, [10]), (true, [11, 12]), (false, [13])] rfl (by kernel_rfl) ⟨.inr (hSJ_4.cell 3 rfl rfl), .inr (hSJ_4.cell 0 rfl rfl), trivial⟩ ?_
  have hS_14 := hSJ_4.drew
  refine wU [0, 1, 2, 4, 5, 6] ?_
  refine wLd (.int .i64 rd) 0 Tryz.isAgg3 ?_
  refine wLd (.pointer (some ⟨qbJ_4, 0, none⟩)) 1 Tryz.isAgg154 ?_
  refine wO rfl ?_
  have hS_15 := (hS_14.pick 1 rfl)
  refine cX Tryz.call92 (b_ready hRJ_4 hWJ_4  (Sat.flat1 hS_15)) ?_
  rintro _ w_16 ⟨az_21, nz_22, kz_23, Z_24, M_19, rfl, hr_25, hR_20, hS_17⟩
  have hS_18 := Sat.unflat2 hS_17; have hn_az_21 := hr_25.len; have hl_az_21 := hr_25.le
  have hcl := idx_le (y := 2) (s := BJ_4.st) (k := 0)
  refine nilO ⟨⟨.inr (hS_18.cell 4 rfl rfl), .inl (by kernel_rfl), trivial⟩, ?_⟩
  refine wU [9] ?_
  refine wSub rd ((nz_22 : Nat) : Int) ?_
  refine wU [11, 12] ?_
  refine wO rfl ?_
  refine tW hS_18 4 3 (.int .i64 (rd - ((nz_22 : Nat) : Int))) Tryz.sizeOf3 ?_
  intro w_26 hS_27
  refine nilO ⟨⟨.inl (by kernel_rfl), .inl (by kernel_rfl), trivial⟩, ?_⟩
  refine wN ?_
  refine thenK_n <| seqE <| regionE <| pu3 ?_
  refine sT hS_27 2 2 (.bool true) [.bool true] #[.slice taJ_4 tnJ_4 tkJ_4, .pointer (some ⟨qbJ_4, 0, none⟩), .bool true] Tryz.sizeOf4 ?_
  intro w_28 hS_29
  refine nilO <| thenK_n <| seqE <| regionE <| pu1 <| nilO <| thenK_n <| retE <| retT [.bool true] <| ?_
  have hS_30 := (((hS_29.pick 3 rfl).pick 2 rfl).pick 3 rfl)
  have hS_31 : Sat W _ (([(qJ_4, .cells #[.slice taJ_4 tnJ_4 tkJ_4, .pointer (some ⟨qbJ_4, 0, none⟩), .bool ({ s2J_4 with x := true }).x] 156 (0, 0))] ++ M_19) :: (jcs.eraseIdx (x.toNat)).flatten :: Z_24 :: [(p, .cells #[.slice oa on ok, .slice (some ⟨wb, wo, none⟩) wn wk, .slice ja jn jk, .int .i64 (rd - ((nz_22 : Nat) : Int))] 74 (0, 0))] :: Wc :: Jc :: H :: F) := Sat.perm (show Sat W _ ([(qJ_4, .cells #[.slice taJ_4 tnJ_4 tkJ_4, .pointer (some ⟨qbJ_4, 0, none⟩), .bool ({ s2J_4 with x := true }).x] 156 (0, 0))] :: M_19 :: (jcs.eraseIdx (x.toNat)).flatten :: Z_24 :: [(p, .cells #[.slice oa on ok, .slice (some ⟨wb, wo, none⟩) wn wk, .slice ja jn jk, .int .i64 (rd - ((nz_22 : Nat) : Int))] 74 (0, 0))] :: Wc :: Jc :: H :: F) from hS_30) (by simp)
  have hS_32 := Sat.shutN (d := ([(qJ_4, .cells #[.slice taJ_4 tnJ_4 tkJ_4, .pointer (some ⟨qbJ_4, 0, none⟩), .bool ({ s2J_4 with x := true }).x] 156 (0, 0))] ++ M_19)) (A := []) (x.toNat) hcJ_4 hS_31
  have hO_33 := Obs.set hJs hqJ_4 (JobA.mk (s := { s2J_4 with x := true }) hBJ_4 hTJ_4 hDJ_4 hR_20)
  have hS_34 := ((((hS_32.pick 4 rfl).pick 4 rfl).pick 4 rfl).dropAt 4 rfl)
  have hS_35 : Sat W _ (([(p, .cells #[.slice oa on ok, .slice (some ⟨wb, wo, none⟩) wn wk, .slice ja jn jk, .int .i64 (rd - ((nz_22 : Nat) : Int))] 74 (0, 0))] ++ (Wc ++ (Jc ++ (jcs.set (x.toNat) ([(qJ_4, .cells #[.slice taJ_4 tnJ_4 tkJ_4, .pointer (some ⟨qbJ_4, 0, none⟩), .bool ({ s2J_4 with x := true }).x] 156 (0, 0))] ++ M_19)).flatten))) :: H :: F) := Sat.perm (show Sat W _ ([(p, .cells #[.slice oa on ok, .slice (some ⟨wb, wo, none⟩) wn wk, .slice ja jn jk, .int .i64 (rd - ((nz_22 : Nat) : Int))] 74 (0, 0))] :: Wc :: Jc :: (jcs.set (x.toNat) ([(qJ_4, .cells #[.slice taJ_4 tnJ_4 tkJ_4, .pointer (some ⟨qbJ_4, 0, none⟩), .bool ({ s2J_4 with x := true }).x] 156 (0, 0))] ++ M_19)).flatten :: H :: F) from hS_34) (by simp)
  exact .inr ⟨⟨ws, (jobs.set (x.toNat) ({ s2J_4 with x := true })), (rd - ((nz_22 : Nat) : Int))⟩, _, by unfold cancelM jobA; dsimp only; rw [if_pos hc_4, getD_some hs2J_4]; simp only [hBJ_4]; rw [hn_az_21], rfl, ⟨_, _, _, _, _, _, _, _, _, _, _, _, rfl, hOw, hOj, hO_33, hof, dof⟩, hS_35⟩
theorem am_submit {p wb wo : Nat} {H : Chunk} {oa ja : Option Addr} {on ok wn wk jn jk : Nat} {rd : Int} {ws : List Wk} {jobs : List JA} {ps : List Nat} {Wc Jc : Chunk} {jcs F : List Chunk} {K : Int} (hOw : OwnT encWk 120 5 (some ⟨wb, wo, none⟩) wn wk ws Wc) (hOj : OwnT encP 153 1 ja jn jk ps Jc) (hJs : Obs (JobA H) ps jobs jcs) (hJW : ∀ j ∈ jobs, JW K j) {off : List TL} (hof : RdT encTL 1 [H] oa on ok off) (dof : ∀ z ∈ off, TL.Ok [H] z) (hrd : -1000000000 ≤ rd ∧ rd ≤ 1000000000) (hK : K ≤ 1000000000) (ev : Evt) (hje : (jobs.length : Int) ≤ 1000000000) (hS : Sat W w ([(p, .cells #[.slice oa on ok, .slice (some ⟨wb, wo, none⟩) wn wk, .slice ja jn jk, .int .i64 rd] 74 (0, 0))] :: Wc :: Jc :: jcs.flatten :: H :: F)) :
    Calls Tryz.prog 53 #[.pointer (some ⟨p, 0, none⟩), .agg (encEvt ev).toArray] w fun e w' => (submitM off (⟨ws, jobs, rd⟩ : MS) ev = none ∧ e = .returned (.bool false) ∧ Sat W w' (H :: F)) ∨ (∃ (m' : MS) (M' : Chunk), submitM off (⟨ws, jobs, rd⟩ : MS) ev = some m' ∧ e = .returned (.bool true) ∧ MachR p wb wo H off m' M' ∧ Sat W w' (M' :: H :: F)) := by
  have hwl := hOw.len; have hwk := hOw.le; have hjl := hOj.len; have hjk := hOj.le; have hjs := hJs.1
  have hfl := hof.len; have hfk := hof.le
  refine callsA 76 Tryz.func53 rfl ?_
  refine seqE <| regionE ?_
  refine sBox hS (.agg (encEvt ev).toArray) (encEvt ev).toArray ?_
  intro b_1 w_2 hS_3
  refine pu1 <| nilO <| thenK_n <| seqE <| seqE ?_
  refine drawE [] [(1, ⟨b_1, 3, none⟩, .int .i64 ev.job), (5, ⟨p, 2, none⟩, .slice ja jn jk)] [(true, [0, 2, 3, 4]), (true, [1]), (true, [5]), (true, [6, 7])] rfl (by kernel_rfl) ⟨.inr (hS_3.cell 0 rfl rfl), .inr (hS_3.cell 1 rfl rfl), trivial⟩ ?_
  have hS_4 := hS_3.drew
  refine wU [0, 2, 3, 4] ?_
  refine wLd (.int .i64 ev.job) 0 Tryz.isAgg3 ?_
  refine wLd (.slice ja jn jk) 1 Tryz.isAgg72 ?_
  refine wU [6, 7] ?_
  refine wN ?_
  refine thenK_n <| ?_
  refine cN ev.job ((jn : Nat) : Int) (fun hc_5 => ?_) (fun hc_5 => ?_)
  rotate_left
  · refine seqE <| regionE <| pu1 <| nilO <| thenK_n <| retE <| thenK_r <| retT [.bool false] <| ?_
    have hS_79 := (((((hS_4.dropAt 0 rfl).dropAt 0 rfl).dropAt 0 rfl).dropAt 0 rfl).dropAt 0 rfl)
    exact .inl ⟨by unfold submitM; rw [if_pos (by dsimp only; omega)], rfl, hS_79⟩
  refine skipE <| thenK_n <| seqE <| seqE <| regionE <| pu1 ?_
  refine sL hS_4 0 6 (.int .i64 ev.err) (Tryz.isAgg41 _) ?_
  refine pu1 <| nilO <| thenK_n <| ?_
  refine cN ev.err 0 (fun hc_6 => ?_) (fun hc_6 => ?_)
  rotate_left
  · refine seqE <| regionE <| pu4 ?_
    refine sL hS_4 1 2 (.slice ja jn jk) (Tryz.isAgg72 _) ?_
    refine pu1 ?_
    refine sBox hS_4 (.agg #[.slice none 0 0, .pointer none, .bool false]) #[.slice none 0 0, .pointer none, .bool false] ?_
    intro b_60 w_61 hS_62
    refine sBS hS_62 #[.pointer (some ⟨b_60, 0, none⟩)] Tryz.runUnderlying72 Tryz.sizeOf153 Tryz.zeroValue153 ?_
    intro b_63 w_64 hS_65
    refine sApp (nb := 8) hS_65 hOj 5 (RdT.blk (enc := encP) (sz := 1) (xs := [b_60]) (fun _ => rfl) 1 0 rfl rfl rfl (by omega)) Tryz.underlying72 (i := Tryz.t153) (by kernel_rfl) (fun _ => rfl) ?_
    intro a_66 cap_67 c_68 w_69 hO_70 hS_71
    refine pu2 ?_
    refine tW hS_71 3 2 (.slice a_66 (jn + 1) cap_67) Tryz.sizeOf72 ?_
    intro w_72 hS_73
    refine nilO <| thenK_n <| seqE <| regionE <| pu1 <| nilO <| thenK_n <| retE <| thenK_r <| retT [.bool true] <| ?_
    have hO_ := Obs.snoc hJs (s := ⟨[], none, false⟩) (c := (([(b_60, .cells #[.slice none 0 0, .pointer none, .bool false] 156 (0, 0))] : Chunk) ++ [])) (p := b_60) ⟨none, 0, 0, none, [], rfl, RdT.nil (enc := encTask) (sz := 9) (fun _ => rfl) _, (fun z hz => by cases hz), .inl ⟨rfl, rfl, rfl⟩⟩
    have hS_74 : Sat W _ ([(b_63, .cells #[.pointer (some ⟨b_60, 0, none⟩)] 153 (0, 0))] :: [(b_1, .cells (encEvt ev).toArray 43 (0, 0))] :: [(p, .cells #[.slice oa on ok, .slice (some ⟨wb, wo, none⟩) wn wk, .slice a_66 (jn + 1) cap_67, .int .i64 rd] 74 (0, 0))] :: Wc :: c_68 :: jcs.flatten :: [(b_60, .cells #[.slice none 0 0, .pointer none, .bool false] 156 (0, 0))] :: H :: F) := ((((((hS_73.pick 6 rfl).pick 6 rfl).pick 6 rfl).pick 6 rfl).pick 6 rfl).pick 5 rfl)
    have hS_76 : Sat W _ ([(b_63, .cells #[.pointer (some ⟨b_60, 0, none⟩)] 153 (0, 0))] :: [(b_1, .cells (encEvt ev).toArray 43 (0, 0))] :: [(p, .cells #[.slice oa on ok, .slice (some ⟨wb, wo, none⟩) wn wk, .slice a_66 (jn + 1) cap_67, .int .i64 rd] 74 (0, 0))] :: Wc :: c_68 :: (jcs ++ [(([(b_60, .cells #[.slice none 0 0, .pointer none, .bool false] 156 (0, 0))] : Chunk) ++ [])]).flatten :: H :: F) := Sat.perm (show Sat W _ ([(b_63, .cells #[.pointer (some ⟨b_60, 0, none⟩)] 153 (0, 0))] :: [(b_1, .cells (encEvt ev).toArray 43 (0, 0))] :: [(p, .cells #[.slice oa on ok, .slice (some ⟨wb, wo, none⟩) wn wk, .slice a_66 (jn + 1) cap_67, .int .i64 rd] 74 (0, 0))] :: Wc :: c_68 :: jcs.flatten :: [(b_60, .cells #[.slice none 0 0, .pointer none, .bool false] 156 (0, 0))] :: H :: F) from hS_74) (by simp)
    have hS_77 := ((hS_76.dropAt 0 rfl).dropAt 0 rfl)
    have hS_78 : Sat W _ (([(p, .cells #[.slice oa on ok, .slice (some ⟨wb, wo, none⟩) wn wk, .slice a_66 (jn + 1) cap_67, .int .i64 rd] 74 (0, 0))] ++ (Wc ++ (c_68 ++ (jcs ++ [(([(b_60, .cells #[.slice none 0 0, .pointer none, .bool false] 156 (0, 0))] : Chunk) ++ [])]).flatten))) :: H :: F) := Sat.perm (show Sat W _ ([(p, .cells #[.slice oa on ok, .slice (some ⟨wb, wo, none⟩) wn wk, .slice a_66 (jn + 1) cap_67, .int .i64 rd] 74 (0, 0))] :: Wc :: c_68 :: (jcs ++ [(([(b_60, .cells #[.slice none 0 0, .pointer none, .bool false] 156 (0, 0))] : Chunk) ++ [])]).flatten :: H :: F) from hS_77) (by simp)
    exact .inr ⟨⟨ws, (jobs ++ [(⟨[], none, false⟩ : JA)]), rd⟩, _, by unfold submitM; rw [if_neg (by dsimp only; omega), if_pos (by omega)], rfl, ⟨_, _, _, _, _, _, _, _, _, _, _, _, rfl, hOw, hO_70, hO_, hof, dof⟩, hS_78⟩
  refine skipE <| thenK_n <| seqE <| seqE ?_
  refine drawE [] [(1, ⟨b_1, 3, none⟩, .int .i64 ev.job), (5, ⟨p, 0, none⟩, .slice oa on ok)] [(true, [0, 2, 3, 4]), (true, [1]), (true, [5]), (true, [6, 7])] rfl (by kernel_rfl) ⟨.inr (hS_4.cell 0 rfl rfl), .inr (hS_4.cell 1 rfl rfl), trivial⟩ ?_
  have hS_7 := hS_4.drew
  refine wU [0, 2, 3, 4] ?_
  refine wLd (.int .i64 ev.job) 0 Tryz.isAgg3 ?_
  refine wLd (.slice oa on ok) 1 Tryz.isAgg25 ?_
  refine wU [6, 7] ?_
  refine wN ?_
  refine thenK_n <| ?_
  refine cD (ev.job ≥ ((on : Nat) : Int)) (fun hc_8 => ?_) (fun hc_8 => ?_)
  · refine seqE <| regionE <| pu1 <| nilO <| thenK_n <| retE <| thenK_r <| retT [.bool false] <| ?_
    have hS_9 := (((((hS_7.dropAt 0 rfl).dropAt 0 rfl).dropAt 0 rfl).dropAt 0 rfl).dropAt 0 rfl)
    exact .inl ⟨by unfold submitM; rw [if_neg (by dsimp only; omega), if_neg (by omega), List.getElem?_eq_none (by omega)], rfl, hS_9⟩
  refine skipE <| thenK_n <| seqE ?_
  obtain ⟨x_10, b_11, o_12, hx_13, hp_14, hq_15⟩ := RdT.elem hof ev.job
  refine drawE [] [(3, ⟨p, 0, none⟩, .slice oa on ok), (5, ⟨b_1, 3, none⟩, .int .i64 ev.job), (7, ⟨b_11, o_12, none⟩, .slice x_10.l.a x_10.l.n x_10.l.k)] [(true, [0, 1, 2, 4]), (true, [3]), (true, [5]), (true, [6]), (true, [7]), (true, [8])] rfl (by kernel_rfl) ⟨.inr (hS_7.cell 1 rfl rfl), .inr (hS_7.cell 0 rfl rfl), .inr ((hp_14.up 5 rfl).cell hS_7 (k := 0) rfl), trivial⟩ ?_
  have hS_16 := hS_7.drew
  refine wU [0, 1, 2, 4] ?_
  refine wLd (.slice oa on ok) 0 Tryz.isAgg25 ?_
  refine wLd (.int .i64 ev.job) 1 Tryz.isAgg3 ?_
  refine wY (.pointer (some ⟨b_11, o_12, none⟩)) rfl (fun w _ => Y_idx (a := oa) (i := ev.job) (len := on) (cap := ok) rfl Tryz.runUnderlying25 Tryz.sizeOf45 (by kernel_rfl) (by kernel_rfl) hq_15) ?_
  refine wLd (.slice x_10.l.a x_10.l.n x_10.l.k) 2 Tryz.isAgg45 ?_
  refine wU [8] ?_
  refine wN ?_
  refine thenK_n <| seqE <| regionE <| pu1 ?_
  refine cX Tryz.call91 (b_new x_10.l.a x_10.l.n x_10.l.k x_10.l.l (RdT.flat ((dof x_10 (List.mem_of_getElem? hx_13)).l.up 5 (by rfl))) (fun z hz => ((dof x_10 (List.mem_of_getElem? hx_13)).lD z hz).of_mem (mem_flat1 5 (by rfl))) (Sat.flat hS_16)) ?_
  rintro _ w_17 (⟨hv_21, rfl, hS_18⟩ | ⟨hv_21, p_19, M_20, rfl, hB_22, hS_18⟩)
  · have hS_23 := Sat.unflat hS_18
    refine pu5 <| nilO <| thenK_n <| seqE <| seqE <| regionE <| pu2 <| nilO <| thenK_n <| ?_
    have hc_24 : ¬ (((validC x_10.l.l) : Int) = 0) := hv_21
    refine cT _ (bne_iff_ne.2 hc_24) ?_
    refine seqE <| regionE <| pu1 <| nilO <| thenK_n <| retE <| thenK_r <| retT [.bool false] <| ?_
    have hS_25 := (((((hS_23.dropAt 0 rfl).dropAt 0 rfl).dropAt 0 rfl).dropAt 0 rfl).dropAt 0 rfl)
    exact .inl ⟨by unfold submitM; rw [if_neg (by dsimp only; omega), if_neg (by omega), hx_13]; dsimp only; rw [if_pos hv_21], rfl, hS_25⟩
  have hS_26 := Sat.unflat1 hS_18
  refine pu5 <| nilO <| thenK_n <| seqE <| seqE <| regionE <| pu2 <| nilO <| thenK_n <| cFf <| skipE <| thenK_n <| seqE <| regionE <| pu4 ?_
  refine sL hS_26 2 2 (.slice ja jn jk) (Tryz.isAgg72 _) ?_
  refine pu3 ?_
  refine sBox hS_26 (.agg #[.slice x_10.l.a x_10.l.n x_10.l.k, .pointer (some ⟨p_19, 0, none⟩), .bool false]) #[.slice x_10.l.a x_10.l.n x_10.l.k, .pointer (some ⟨p_19, 0, none⟩), .bool false] ?_
  intro b_27 w_28 hS_29
  refine sBS hS_29 #[.pointer (some ⟨b_27, 0, none⟩)] Tryz.runUnderlying72 Tryz.sizeOf153 Tryz.zeroValue153 ?_
  intro b_30 w_31 hS_32
  refine sApp (nb := 8) hS_32 hOj 6 (RdT.blk (enc := encP) (sz := 1) (xs := [b_27]) (fun _ => rfl) 1 0 rfl rfl rfl (by omega)) Tryz.underlying72 (i := Tryz.t153) (by kernel_rfl) (fun _ => rfl) ?_
  intro a_33 cap_34 c_35 w_36 hO_37 hS_38
  refine pu2 ?_
  refine tW hS_38 4 2 (.slice a_33 (jn + 1) cap_34) Tryz.sizeOf72 ?_
  intro w_39 hS_40
  refine nilO <| thenK_n <| seqE ?_
  refine drawE [5, 10] [(3, ⟨p, 3, none⟩, .int .i64 rd)] [(true, [0, 1, 2, 4]), (true, [3]), (false, [5]), (true, [6]), (true, [7]), (true, [8, 9]), (false, [10])] rfl (by kernel_rfl) ⟨.inr (hS_40.cell 4 rfl rfl), trivial⟩ ?_
  have hS_41 := hS_40.drew
  refine wU [0, 1, 2, 4] ?_
  refine wLd (.int .i64 rd) 0 Tryz.isAgg3 ?_
  refine wO rfl ?_
  have hvz := validC_zero hv_21; have hnl_ : (newB x_10.l.l).st.length = x_10.l.l.length := by simp [newB]
  have hS_42 := (hS_41.pick 2 rfl)
  refine cX Tryz.call92 (b_ready hB_22 (new_wf hv_21)  (Sat.flat1 hS_42)) ?_
  rintro _ w_43 ⟨az_48, nz_49, kz_50, Z_51, M_46, rfl, hr_52, hR_47, hS_44⟩
  have hS_45 := Sat.unflat2 hS_44; have hn_az_48 := hr_52.len; have hl_az_48 := hr_52.le
  have hcl := idx_le (y := 2) (s := (newB x_10.l.l).st) (k := 0)
  refine nilO ⟨⟨.inr (hS_45.cell 5 rfl rfl), trivial⟩, ?_⟩
  refine wU [6] ?_
  refine wAdd rd ((nz_49 : Nat) : Int) ?_
  refine wU [8, 9] ?_
  refine wO rfl ?_
  refine tW hS_45 5 3 (.int .i64 (rd + ((nz_49 : Nat) : Int))) Tryz.sizeOf3 ?_
  intro w_53 hS_54
  refine nilO ⟨⟨.inl (by kernel_rfl), trivial⟩, ?_⟩
  refine wN ?_
  refine thenK_n <| seqE <| regionE <| pu1 <| nilO <| thenK_n <| retE <| retT [.bool true] <| ?_
  have hO_ := Obs.snoc hJs (c := (([(b_27, .cells #[.slice x_10.l.a x_10.l.n x_10.l.k, .pointer (some ⟨p_19, 0, none⟩), .bool false] 156 (0, 0))] : Chunk) ++ M_46)) (p := b_27) (JobA.mk (s := (⟨x_10.l.l, some (newB x_10.l.l), false⟩ : JA)) rfl (dof _ (List.mem_of_getElem? hx_13)).l (dof _ (List.mem_of_getElem? hx_13)).lD hR_47)
  have hS_55 : Sat W _ ([(b_1, .cells (encEvt ev).toArray 43 (0, 0))] :: [(p, .cells #[.slice oa on ok, .slice (some ⟨wb, wo, none⟩) wn wk, .slice a_33 (jn + 1) cap_34, .int .i64 (rd + ((nz_49 : Nat) : Int))] 74 (0, 0))] :: Wc :: c_35 :: jcs.flatten :: [(b_27, .cells #[.slice x_10.l.a x_10.l.n x_10.l.k, .pointer (some ⟨p_19, 0, none⟩), .bool false] 156 (0, 0))] :: Z_51 :: M_46 :: [(b_30, .cells #[.pointer (some ⟨b_27, 0, none⟩)] 153 (0, 0))] :: H :: F) := ((((((hS_54.pick 3 rfl).pick 8 rfl).pick 8 rfl).pick 8 rfl).pick 8 rfl).pick 8 rfl)
  have hS_56 := ((hS_55.pick 8 rfl).pick 7 rfl)
  have hS_57 : Sat W _ (Z_51 :: [(b_30, .cells #[.pointer (some ⟨b_27, 0, none⟩)] 153 (0, 0))] :: [(b_1, .cells (encEvt ev).toArray 43 (0, 0))] :: [(p, .cells #[.slice oa on ok, .slice (some ⟨wb, wo, none⟩) wn wk, .slice a_33 (jn + 1) cap_34, .int .i64 (rd + ((nz_49 : Nat) : Int))] 74 (0, 0))] :: Wc :: c_35 :: (jcs ++ [(([(b_27, .cells #[.slice x_10.l.a x_10.l.n x_10.l.k, .pointer (some ⟨p_19, 0, none⟩), .bool false] 156 (0, 0))] : Chunk) ++ M_46)]).flatten :: H :: F) := Sat.perm (show Sat W _ (Z_51 :: [(b_30, .cells #[.pointer (some ⟨b_27, 0, none⟩)] 153 (0, 0))] :: [(b_1, .cells (encEvt ev).toArray 43 (0, 0))] :: [(p, .cells #[.slice oa on ok, .slice (some ⟨wb, wo, none⟩) wn wk, .slice a_33 (jn + 1) cap_34, .int .i64 (rd + ((nz_49 : Nat) : Int))] 74 (0, 0))] :: Wc :: c_35 :: jcs.flatten :: [(b_27, .cells #[.slice x_10.l.a x_10.l.n x_10.l.k, .pointer (some ⟨p_19, 0, none⟩), .bool false] 156 (0, 0))] :: M_46 :: H :: F) from hS_56) (by simp)
  have hS_58 := (((hS_57.dropAt 0 rfl).dropAt 0 rfl).dropAt 0 rfl)
  have hS_59 : Sat W _ (([(p, .cells #[.slice oa on ok, .slice (some ⟨wb, wo, none⟩) wn wk, .slice a_33 (jn + 1) cap_34, .int .i64 (rd + ((nz_49 : Nat) : Int))] 74 (0, 0))] ++ (Wc ++ (c_35 ++ (jcs ++ [(([(b_27, .cells #[.slice x_10.l.a x_10.l.n x_10.l.k, .pointer (some ⟨p_19, 0, none⟩), .bool false] 156 (0, 0))] : Chunk) ++ M_46)]).flatten))) :: H :: F) := Sat.perm (show Sat W _ ([(p, .cells #[.slice oa on ok, .slice (some ⟨wb, wo, none⟩) wn wk, .slice a_33 (jn + 1) cap_34, .int .i64 (rd + ((nz_49 : Nat) : Int))] 74 (0, 0))] :: Wc :: c_35 :: (jcs ++ [(([(b_27, .cells #[.slice x_10.l.a x_10.l.n x_10.l.k, .pointer (some ⟨p_19, 0, none⟩), .bool false] 156 (0, 0))] : Chunk) ++ M_46)]).flatten :: H :: F) from hS_58) (by simp)
  exact .inr ⟨⟨ws, (jobs ++ [(⟨x_10.l.l, some (newB x_10.l.l), false⟩ : JA)]), (rd + ((nz_49 : Nat) : Int))⟩, _, by unfold submitM; rw [if_neg (by dsimp only; omega), if_neg (by omega), hx_13]; dsimp only; rw [if_neg (not_not_intro hv_21), hn_az_48], rfl, ⟨_, _, _, _, _, _, _, _, _, _, _, _, rfl, hOw, hO_37, hO_, hof, dof⟩, hS_59⟩
end Go.Proofs.YtimkhljglpookaaGreat
