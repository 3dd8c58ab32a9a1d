import Derived.Test.YtimkhljglpookaaGreatSim5
namespace Go.Proofs.YtimkhljglpookaaGreat
open Go Go.E
set_option linter.unusedVariables false
set_option linter.unusedSimpArgs false
set_option linter.unnecessarySimpa false
set_option maxRecDepth 100000
set_option maxHeartbeats 2000000
variable {W w : World} {H : Chunk} {F : List Chunk}

/-! ### the auditor follows the farm -/
def wkOf (v : Wkr) : Wk := ⟨v.phase, v.heldJob, v.heldTask, v.attempt, v.row⟩
def rdyN (a : JA) : Nat := match a.B with
  | none => 0
  | some B => (idxOf 2 0 B.st).length
def valA (a : JA) : Int := if runJ a = true then ((rdyN a : Nat) : Int) else 0
def rsum (l : List JA) : Int := (l.map valA).sum
structure Rel (F : FS) (nj : Nat) (m : MS) : Prop where
  wl : m.ws = F.ws.map wkOf
  jl : m.jobs.length = nj
  jb : ∀ k j, k < nj → F.jobs[k]? = some j → ∃ a, m.jobs[k]? = some a ∧ a.B = some j.B ∧ runJ a = j.running ∧ a.T.map Task.v = j.tasks
  rd : m.rd = rsum m.jobs
theorem rsum_set : ∀ {l : List JA} {k : Nat} {a a' : JA}, l[k]? = some a → rsum (l.set k a') + valA a = rsum l + valA a'
  | [], _, _, _, h => by cases h
  | x :: l, 0, a, a', h => by
    obtain rfl : x = a := by simpa using h
    simp only [rsum, List.set_cons_zero, List.map_cons, List.sum_cons]; omega
  | x :: l, k + 1, a, a', h => by
    have ih := rsum_set (l := l) (k := k) (a := a) (a' := a') (by simpa using h)
    simp only [rsum, List.set_cons_succ, List.map_cons, List.sum_cons] at ih ⊢; omega
theorem rsum_snoc {l : List JA} {a : JA} : rsum (l ++ [a]) = rsum l + valA a := by
  simp only [rsum, List.map_append, List.sum_append, List.map_cons, List.map_nil, List.sum_cons, List.sum_nil]; omega
theorem len_count {A B C : List Int} (h : ∀ z, A.count z = B.count z + C.count z) : A.length = B.length + C.length := by
  rw [← List.length_append]
  exact (List.perm_iff_count.2 (fun z => by rw [List.count_append]; exact h z)).length_eq
theorem count_one {t z : Int} : List.count z [t] = if t = z then 1 else 0 := by
  rw [List.count_cons, List.count_nil]
  by_cases h : t = z <;> simp [h]
theorem idx_start {B : BS} {t y : Int} (h : stAt B.st t = 2) (hy : y ≠ 2) : (idxOf 2 0 B.st).length = (idxOf 2 0 (B.st.set t.toNat y)).length + 1 := by
  have hin := stAt_in h (by decide)
  rw [show (1 : Nat) = [t].length from rfl]
  apply len_count
  intro z
  rw [count_two, count_two, count_one]
  by_cases e : z = t
  · subst e; rw [stAt_self hin, if_pos h, if_neg hy, if_pos rfl]
  · rw [stAt_other hin.1 e, if_neg (show ¬ t = z from fun k => e k.symm)]; omega
theorem idx_ret {B : BS} {t : Int} (h : stAt B.st t = 3) : (idxOf 2 0 (B.st.set t.toNat 2)).length = (idxOf 2 0 B.st).length + 1 := by
  have hin := stAt_in h (by decide)
  rw [show (1 : Nat) = [t].length from rfl]
  apply len_count
  intro z
  rw [count_two, count_two, count_one]
  by_cases e : z = t
  · subst e; rw [stAt_self hin, h, if_pos rfl, if_neg (by decide), if_pos rfl]
  · rw [stAt_other hin.1 e, if_neg (show ¬ t = z from fun k => e k.symm)]; omega
theorem idx_com {B : BS} {i : Int} (hl : B.st.length = B.deps.length) (hi : stAt B.st i = 3) : (idxOf 2 0 (markB (B.st.set i.toNat 4) B.deps)).length = (idxOf 2 0 B.st).length + (rdyB (B.st.set i.toNat 4) B.deps).length := by
  apply len_count
  intro z
  rw [count_two, count_two]
  exact com_two hl hi
theorem idx_nil {s : List Int} (h : ∀ z, stAt s z ≠ 2) : idxOf 2 0 s = [] := by
  cases hs : idxOf 2 0 s with
  | nil => rfl
  | cons z l =>
    have h1 := count_two (s := s) (z := z)
    rw [if_neg (h z), hs, List.count_cons_self] at h1
    omega
theorem done_le {B : BS} (hl : B.st.length = B.deps.length) : doneOf B ≤ ((B.deps.length : Nat) : Int) := by
  unfold doneOf
  have := List.length_filter_le (fun x => decide (x = 4)) B.st
  omega
theorem held_lt {B : BS} {K i a : Int} (hW : BWf B K) (h : heldC B i a = 0) : doneOf B < ((B.deps.length : Nat) : Int) := by
  have h1 := done_le hW.ls
  apply Classical.byContradiction
  intro hn
  have hls := hW.ls
  have hd : doneOf B = ((B.deps.length : Nat) : Int) := by omega
  unfold doneOf at hd
  have h4 := filter_allX (s := B.st) (by omega)
  have h3 := (heldC_zero h).2.1
  have hin := stAt_in h3 (by decide)
  rw [stAt_nat _ hin.1] at h3
  have := h4 _ (getD_mem (s := B.st) (q := i.toNat) (by omega)); omega
theorem Rel.wk {F : FS} {nj : Nat} {m : MS} (h : Rel F nj m) {k : Nat} {v : Wkr} (hv : F.ws[k]? = some v) : m.ws[k]? = some (wkOf v) := by rw [h.wl, List.getElem?_map, hv]; rfl
theorem Rel.len {F : FS} {nj : Nat} {m : MS} (h : Rel F nj m) : m.ws.length = F.ws.length := by rw [h.wl, List.length_map]
theorem runs_of {m : MS} {n : Int} {a : JA} (h0 : 0 ≤ n) (ha : m.jobs[n.toNat]? = some a) : runsM m.jobs n = runJ a := by
  have hl := (List.getElem?_eq_some_iff.1 ha).1
  unfold runsM; rw [decide_eq_true ⟨h0, by omega⟩, getD_some ha]; rfl
theorem added_lt {c : Cfg} {F : FS} {nj : Nat} {K : Int} (h : RecI c F nj K) {k : Nat} {j : JS} (hj : F.jobs[k]? = some j) (ha : j.added = true) : k < nj := by
  apply Classical.byContradiction
  intro hn
  have hl := (List.getElem?_eq_some_iff.1 hj).1
  rw [h.fw.jl] at hl
  obtain ⟨m, hm⟩ := h.s1 k (by omega) hl
  unfold shapeF at hm; rw [List.getElem?_map, hj] at hm
  have := (Prod.mk.inj (Option.some.inj hm)).1
  rw [ha] at this; cases this
/-- A worker of the farm and the auditor's: busy or not. -/
theorem busy_same {c : Cfg} {F : FS} {nj : Nat} {K : Int} {m : MS} (hI : RecI c F nj K) (hR : Rel F nj m) (hH : HI F) {k : Nat} {v : Wkr} (hv : F.ws[k]? = some v) : busyM m.jobs (wkOf v) = busyW F v := by
  unfold busyM busyW
  have hw := hI.fw.w v (List.mem_of_getElem? hv)
  by_cases hh : Holds v
  · obtain ⟨j, hj, ha, hz⟩ := hH.h _ v hv hh
    obtain ⟨a, ha1, _, ha3, _⟩ := hR.jb _ j (added_lt hI hj ha) hj
    rw [decide_eq_true (show (wkOf v).phase ≠ 0 ∧ (wkOf v).phase ≠ 4 by unfold Holds at hh; simp only [wkOf]; omega), decide_eq_true (show v.phase = 1 ∨ v.phase = 2 ∨ v.phase = 3 from hh), runs_of (n := (wkOf v).heldJob) hw.h.1 ha1, ha3]
    unfold jobAt; rw [getD_some hj]
  · have hz := hH.z _ v hv hh
    rw [decide_eq_false (show ¬ ((wkOf v).phase ≠ 0 ∧ (wkOf v).phase ≠ 4) by simp only [wkOf]; omega), decide_eq_false (show ¬ (v.phase = 1 ∨ v.phase = 2 ∨ v.phase = 3) from hh)]; rfl
/-- Both sides change a worker. -/
theorem Rel.upd {F F' : FS} {nj : Nat} {m : MS} (h : Rel F nj m) {k : Nat} {v : Wkr} (hw : F'.ws = F.ws.set k v) (hj : F'.jobs = F.jobs) : Rel F' nj { m with ws := m.ws.set k (wkOf v) } :=
  ⟨by rw [hw, List.map_set, h.wl], h.jl, by rw [hj]; exact h.jb, h.rd⟩
/-- .. and a job. -/
theorem Rel.updj {F F' : FS} {nj : Nat} {m : MS} (h : Rel F nj m) {k n : Nat} {v : Wkr} {j j' : JS} {a a' : JA} {r : Int} (hw : F'.ws = F.ws.set k v) (hj : F'.jobs = F.jobs.set n j') (ha : m.jobs[n]? = some a) (h1 : a'.B = some j'.B) (h2 : runJ a' = j'.running) (h3 : a'.T.map Task.v = j'.tasks) (hr : r = m.rd + valA a' - valA a) :
    Rel F' nj ⟨m.ws.set k (wkOf v), m.jobs.set n a', r⟩ := by
  refine ⟨by rw [hw, List.map_set, h.wl], by simp only [List.length_set]; exact h.jl, ?_, ?_⟩
  · intro i y hi hy
    rw [hj] at hy
    have hl := (List.getElem?_eq_some_iff.1 ha).1
    rcases set_at' hy with ⟨e, rfl⟩ | ⟨e, hy⟩
    · subst e; exact ⟨a', set_at ha, h1, h2, h3⟩
    · obtain ⟨b, b1, b2⟩ := h.jb i y hi hy
      exact ⟨b, by dsimp only; rw [List.getElem?_set, if_neg e]; exact b1, b2⟩
  · have := rsum_set (a' := a') ha
    have h4 := h.rd
    dsimp only; omega
section
variable {c : Cfg} {F : FS} {nj : Nat} {K : Int} {m : MS} {off : List TL}
/-- A task is taken. -/
theorem sim_take (hI : RecI c F nj K) (hR : Rel F nj m) {k : Nat} {v : Wkr} {r0 : Ref} {j : JS} (hv : F.ws[k]? = some v) (hp : v.phase = 0) (hj : F.jobs[r0.job.toNat]? = some j) (h0 : 0 ≤ r0.job) (hrun : j.running = true) (ha : j.added = true) (hst : stAt j.B.st r0.task = 2) (hW : BWf j.B K)
    {F' : FS} {hh : Int} (hw : F'.ws = F.ws.set k ⟨1, r0.job, r0.task, j.B.att.getD r0.task.toNat 0, 0, 0, hh⟩) (hjs : F'.jobs = F.jobs.set r0.job.toNat { j with B := ⟨j.B.deps, j.B.st.set r0.task.toNat 3, j.B.att⟩ }) :
    ∃ m', takeM m k (wkOf v) r0 = some m' ∧ Rel F' nj m' := by
  obtain ⟨a, a1, a2, a3, a4⟩ := hR.jb _ j (added_lt hI hj ha) hj
  have hs := start_eq hW.ls hst
  have hd4 : doneOf (⟨j.B.deps, j.B.st.set r0.task.toNat 3, j.B.att⟩ : BS) = doneOf j.B := by
    have hin := stAt_in hst (by decide)
    have h1 := count_set (s := j.B.st) (k := r0.task.toNat) (y := 3) (by omega)
    rw [stAt_nat _ hin.1] at hst
    unfold doneOf
    rw [if_neg (by omega), if_neg (by decide)] at h1
    dsimp only; omega
  have ha5 := a3
  rw [hrun] at ha5
  unfold runJ at ha5
  rw [a2] at ha5
  obtain ⟨hx1, hx2⟩ := (Bool.and_eq_true _ _).mp ha5
  have hr' : runJ { a with B := some ⟨j.B.deps, j.B.st.set r0.task.toNat 3, j.B.att⟩ } = true := by
    unfold runJ; dsimp only; rw [hx1, hd4]; exact hx2
  refine ⟨_, ?_, hR.updj (j := j) (j' := { j with B := ⟨j.B.deps, j.B.st.set r0.task.toNat 3, j.B.att⟩ }) (a := a) (a' := { a with B := some ⟨j.B.deps, j.B.st.set r0.task.toNat 3, j.B.att⟩ }) (r := m.rd - 1) hw hjs a1 rfl (hr'.trans hrun.symm) a4 ?_⟩
  · unfold takeM
    rw [if_neg (not_not_intro ⟨hp, by rw [runs_of h0 a1, a3]; exact hrun⟩), jobA_at a1, a2]
    dsimp only
    rw [hs]; dsimp only
    rw [if_neg (not_not_intro rfl)]; rfl
  · have h1 := idx_start hst (y := 3) (by decide)
    unfold valA
    rw [if_pos hr', if_pos (a3.trans hrun)]
    unfold rdyN; rw [a2]; dsimp only; omega
theorem v_at {T : List Task} {ts : List TaskV} {i : Nat} (h : T.map Task.v = ts) (hi : i < ts.length) : (T.getD i default).rows = (ts.getD i default).rows := by
  subst h
  rw [List.length_map] at hi
  rw [List.getD_eq_getElem?_getD, List.getD_eq_getElem?_getD, List.getElem?_map, List.getElem?_eq_getElem hi]; rfl
theorem row_phase {r R1 R2 : Int} (h : R1 = R2) : (if r = R1 then (3 : Int) else 2) = if r = R2 then 3 else 2 := by rw [h]
/-- A micro-step. -/
theorem sim_micro (hI : RecI c F nj K) (hR : Rel F nj m) (hH : HI F) {x : Int} {v : Wkr} {j : JS} (hx : 0 ≤ x ∧ x < ((F.ws.length : Nat) : Int)) (hv : F.ws[x.toNat]? = some v) (hh : Holds v) (hj : F.jobs[v.heldJob.toNat]? = some j) (hrun : j.running = true) :
    ∃ m', (∀ l, eventM off m (microF F x).2 l = some m') ∧ Rel (microF F x).1 nj m' ∧ ((microF F x).2.kind = 6 ∨ (microF F x).2.kind = 7 ∨ (microF F x).2.kind = 8) ∧ (microF F x).2.worker = x := by
  obtain ⟨j2, c1, c2, c3⟩ := hH.h _ v hv hh
  rw [hj] at c1; obtain rfl := Option.some.inj c1
  obtain ⟨a, a1, a2, a3, a4⟩ := hR.jb _ j (added_lt hI hj c2) hj
  have hw := hI.fw.w v (List.mem_of_getElem? hv)
  have hJ := hI.fw.j j (List.mem_of_getElem? hj)
  obtain ⟨hW, hd, hb⟩ := hJ.b c2
  have e : jobAt F v.heldJob = j := getD_some hj
  have hz := heldC_zero c3
  have hbusy : busyM m.jobs (wkOf v) = true := by
    rw [busy_same hI hR hH hv]; unfold busyW; rw [decide_eq_true (show v.phase = 1 ∨ v.phase = 2 ∨ v.phase = 3 from hh), e, hrun]; rfl
  have hwm := hR.wk hv
  have hlen := hR.len
  unfold microF
  simp only [getD_some hv, e]
  by_cases p1 : v.phase = 1
  · rw [if_pos p1]
    refine ⟨_, ?_, hR.upd (k := x.toNat) (v := { v with phase := 2, used := _, high := _ }) rfl rfl, .inl rfl, rfl⟩
    intro l
    rw [ev_in (v := wkOf v) (by simp [namedE, evt]) (by simp only [evt]; omega) hwm, evK_6 (.inl rfl), if_pos hbusy]
    unfold microM
    rw [show jobA m (wkOf v).heldJob = a from jobA_at a1, a2]
    dsimp only
    rw [if_pos ⟨rfl, p1⟩]; rfl
  · rw [if_neg p1]
    by_cases p2 : v.phase = 2
    · rw [if_pos p2]
      refine ⟨_, ?_, hR.upd (k := x.toNat) (v := { v with phase := if v.row + 1 = (j.tasks.getD v.heldTask.toNat default).rows then 3 else 2, row := v.row + 1 }) rfl rfl, .inr (.inl rfl), rfl⟩
      intro l
      rw [ev_in (v := wkOf v) (by simp [namedE, evt]) (by simp only [evt]; omega) hwm, evK_6 (.inr (.inl rfl)), if_pos hbusy]
      unfold microM
      rw [show jobA m (wkOf v).heldJob = a from jobA_at a1, a2]
      dsimp only
      rw [if_neg (by simp [evt]), if_pos ⟨rfl, p2⟩]
      have hi : v.heldTask.toNat < j.tasks.length := by have := hz.1; unfold inB at this; omega
      have hv2 := v_at a4 hi
      exact congrArg (fun p => some (⟨m.ws.set x.toNat ⟨p, v.heldJob, v.heldTask, v.attempt, v.row + 1⟩, m.jobs, m.rd⟩ : MS)) (row_phase hv2)
    · rw [if_neg p2]
      have p3 : v.phase = 3 := by unfold Holds at hh; omega
      have hx2 : ∀ F' : FS, F'.ws = F.ws.set x.toNat ⟨0, 0, 0, 0, 0, 0, (relA (F.ar.getD x.toNat default)).high⟩ → (∃ j', F'.jobs = F.jobs.set v.heldJob.toNat j' ∧ j'.B = (comB j.B v.heldTask v.attempt).1 ∧ j'.tasks = j.tasks ∧ j'.running = decide (doneOf (comB j.B v.heldTask v.attempt).1 < ((j.tasks.length : Nat) : Int))) →
          ∃ m', (∀ l, eventM off m ⟨8, x, 0, 0, v.heldJob, v.heldTask, 0⟩ l = some m') ∧ Rel F' nj m' := by
        rintro F' hw' ⟨j', hj', hB', ht', hr'⟩
        have ha5 := a3
        rw [hrun] at ha5
        unfold runJ at ha5
        rw [a2] at ha5
        obtain ⟨hx1, _⟩ := (Bool.and_eq_true _ _).mp ha5
        have hcd := com_deps (B := j.B) (i := v.heldTask) (a := v.attempt)
        have hr2 : runJ { a with B := some (comB j.B v.heldTask v.attempt).1 } = j'.running := by
          unfold runJ; dsimp only; rw [hx1, hr', hcd, hd]; rfl
        refine ⟨_, ?_, hR.updj (j := j) (j' := j') (a := a) (a' := { a with B := some (comB j.B v.heldTask v.attempt).1 }) (r := m.rd + (((comB j.B v.heldTask v.attempt).2.length : Nat) : Int)) hw' hj' a1 (by rw [hB']) hr2 (by rw [ht']; exact a4) ?_⟩
        · intro l
          rw [ev_in (v := wkOf v) (by simp [namedE]) (by dsimp only; omega) hwm, evK_6 (.inr (.inr rfl)), if_pos hbusy]
          unfold microM
          rw [show jobA m (wkOf v).heldJob = a from jobA_at a1, a2]
          dsimp only
          rw [if_neg (fun h => absurd h.1 (by decide)), if_neg (fun h => absurd h.1 (by decide)), if_pos ⟨rfl, p3, rfl, rfl⟩, if_neg (not_not_intro (show heldC j.B (wkOf v).heldTask (wkOf v).attempt = 0 from c3))]; rfl
        · have h1 := idx_com hW.ls hz.2.1
          unfold valA
          rw [if_pos (a3.trans hrun)]
          have hceq := com_eq c3
          by_cases hrj : j'.running = true
          · rw [if_pos (hr2.trans hrj)]
            unfold rdyN; rw [a2]; dsimp only; rw [hceq]; dsimp only; omega
          · rw [if_neg (by rw [hr2]; exact hrj)]
            have hdn : doneOf (comB j.B v.heldTask v.attempt).1 = (((comB j.B v.heldTask v.attempt).1.deps.length : Nat) : Int) := by
              have h2 := done_le (B := (comB j.B v.heldTask v.attempt).1) (com_wf hW).ls
              rw [hr'] at hrj
              have h3 := of_decide_eq_false (Bool.eq_false_iff.2 hrj)
              rw [hcd] at h2 ⊢; omega
            have h4 := idx_nil (done_none (com_wf hW) hdn)
            unfold rdyN; rw [a2]; dsimp only
            rw [hceq] at h4 ⊢
            dsimp only at h4 ⊢
            rw [h4] at h1
            simp only [List.length_nil] at h1; omega
      have hls := com_len (B := j.B) (i := v.heldTask) (a := v.attempt)
      have hrows : ∀ F1 : FS, (spillF F1 x v.heldJob j.band (comB j.B v.heldTask v.attempt).2).ws = F1.ws ∧ (spillF F1 x v.heldJob j.band (comB j.B v.heldTask v.attempt).2).jobs = F1.jobs := by
        intro F1
        generalize (comB j.B v.heldTask v.attempt).2 = l
        induction l generalizing F1 with
        | nil => exact ⟨rfl, rfl⟩
        | cons t l ih =>
          have hsp : spillF F1 x v.heldJob j.band (t :: l) = spillF (spill1 F1 x ⟨v.heldJob, t⟩ j.band) x v.heldJob j.band l := by unfold spillF; rw [List.foldl_cons]
          rw [hsp]
          have h1 := ih (spill1 F1 x ⟨v.heldJob, t⟩ j.band)
          have h2 : (spill1 F1 x ⟨v.heldJob, t⟩ j.band).ws = F1.ws ∧ (spill1 F1 x ⟨v.heldJob, t⟩ j.band).jobs = F1.jobs := by unfold spill1; split <;> exact ⟨rfl, rfl⟩
          exact ⟨h1.1.trans h2.1, h1.2.trans h2.2⟩
      split
      · rename_i hdone
        obtain ⟨m', g1, g2⟩ := hx2 { spillF ⟨F.cfg, F.ws.set x.toNat ⟨0, 0, 0, 0, 0, 0, (relA (F.ar.getD x.toNat default)).high⟩, F.ar.set x.toNat (relA (F.ar.getD x.toNat default)), F.dq, F.q, F.jobs.set v.heldJob.toNat { j with B := (comB j.B v.heldTask v.attempt).1 }, { F.st with commits := F.st.commits + 1 }⟩ x v.heldJob j.band (comB j.B v.heldTask v.attempt).2 with jobs := F.jobs.set v.heldJob.toNat { j with B := (comB j.B v.heldTask v.attempt).1, running := false } } (hrows _).1 ⟨_, rfl, rfl, rfl, (decide_eq_false (by omega)).symm⟩
        exact ⟨m', g1, g2, .inr (.inr rfl), rfl⟩
      · rename_i hdone
        have hlt : doneOf (comB j.B v.heldTask v.attempt).1 < ((j.tasks.length : Nat) : Int) := by
          have h2 := done_le (B := (comB j.B v.heldTask v.attempt).1) (com_wf hW).ls
          rw [com_deps, hd] at h2
          omega
        obtain ⟨m', g1, g2⟩ := hx2 (spillF ⟨F.cfg, F.ws.set x.toNat ⟨0, 0, 0, 0, 0, 0, (relA (F.ar.getD x.toNat default)).high⟩, F.ar.set x.toNat (relA (F.ar.getD x.toNat default)), F.dq, F.q, F.jobs.set v.heldJob.toNat { j with B := (comB j.B v.heldTask v.attempt).1 }, { F.st with commits := F.st.commits + 1 }⟩ x v.heldJob j.band (comB j.B v.heldTask v.attempt).2) (hrows _).1 ⟨_, (hrows _).2, rfl, rfl, by dsimp only; rw [hrun]; exact (decide_eq_true hlt).symm⟩
        exact ⟨m', g1, g2, .inr (.inr rfl), rfl⟩
end
end Go.Proofs.YtimkhljglpookaaGreat
