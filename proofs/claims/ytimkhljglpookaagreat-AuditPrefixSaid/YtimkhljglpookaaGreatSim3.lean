import Derived.Test.YtimkhljglpookaaGreatSim2
namespace Go.Proofs.YtimkhljglpookaaGreat
open Go Go.E
set_option linter.unusedVariables false
set_option linter.unusedSimpArgs false
set_option linter.unnecessarySimpa false
set_option maxRecDepth 100000
set_option maxHeartbeats 2000000
variable {W w : World} {H : Chunk} {F : List Chunk}

/-! ### the farm's calls keep the queues and the holdings in order -/
theorem ref_ext {a b : Ref} (h1 : a.job = b.job) (h2 : a.task = b.task) : a = b := by cases a; cases b; simp only at h1 h2; subst h1; subst h2; rfl
theorem heldC_of {B : BS} {i a : Int} (h1 : inB B i) (h2 : stAt B.st i = 3) (h3 : B.att.getD i.toNat 0 = a) : heldC B i a = 0 := by unfold heldC; rw [if_pos h1, if_pos ⟨h2, h3⟩]
theorem heldC_keep {B B' : BS} {i a : Int} (h : heldC B i a = 0) (hd : B'.deps = B.deps) (hs : stAt B'.st i = stAt B.st i) (ha : B'.att.getD i.toNat 0 = B.att.getD i.toNat 0) : heldC B' i a = 0 := by
  obtain ⟨h1, h2, h3⟩ := heldC_zero h
  exact heldC_of (by unfold inB at *; rw [hd]; exact h1) (hs.trans h2) (ha.trans h3)
theorem HI.others {F F' : FS} (h : HI F) {x k : Nat} {j j' : JS} (hj : F.jobs[k]? = some j) (hjobs : F'.jobs = F.jobs.set k j') (hadd : j.added = true → j'.added = true)
    (hkeep : ∀ (y : Nat) v, x ≠ y → F.ws[y]? = some v → Holds v → v.heldJob.toNat = k → heldC j.B v.heldTask v.attempt = 0 → heldC j'.B v.heldTask v.attempt = 0) :
    ∀ (y : Nat) v, x ≠ y → F.ws[y]? = some v → Holds v → ∃ j, F'.jobs[v.heldJob.toNat]? = some j ∧ j.added = true ∧ heldC j.B v.heldTask v.attempt = 0 := by
  intro y v hx hy hv
  obtain ⟨j2, h1, h2, h3⟩ := h.h y v hy hv
  rw [hjobs, List.getElem?_set]
  by_cases e : k = v.heldJob.toNat
  · have hl := (List.getElem?_eq_some_iff.1 hj).1
    rw [if_pos e, if_pos hl]
    rw [← e, hj] at h1; obtain rfl := Option.some.inj h1
    exact ⟨j', rfl, hadd h2, hkeep y v hx hy hv e.symm h3⟩
  · rw [if_neg e]; exact ⟨j2, h1, h2, h3⟩
theorem HI.same {F : FS} (h : HI F) {x : Nat} : ∀ (y : Nat) v, x ≠ y → F.ws[y]? = some v → Holds v → ∃ j, F.jobs[v.heldJob.toNat]? = some j ∧ j.added = true ∧ heldC j.B v.heldTask v.attempt = 0 := fun y v _ hy hv => h.h y v hy hv
theorem start_eq {B : BS} {t : Int} (hl : B.st.length = B.deps.length) (h : stAt B.st t = 2) : startB B t = (⟨B.deps, B.st.set t.toNat 3, B.att⟩, B.att.getD t.toNat 0, 0) := by
  have h1 := stAt_in h (by decide)
  unfold startB; rw [if_pos (show inB B t from ⟨h1.1, by rw [← hl]; exact h1.2⟩), if_pos h]
theorem stAt_other {s : List Int} {t x y : Int} (ht : 0 ≤ t) (h : x ≠ t) : stAt (s.set t.toNat y) x = stAt s x := by
  rw [stAt_set, if_neg (fun k => h (by omega))]
theorem stAt_self {s : List Int} {t y : Int} (ht : 0 ≤ t ∧ t < ((s.length : Nat) : Int)) : stAt (s.set t.toNat y) t = y := by
  rw [stAt_set, if_pos ⟨by omega, by omega⟩]
theorem bool_nat {a b : Bool} (h : a = b) : a.toNat = b.toNat := by rw [h]
/-- A queued task is taken. -/
theorem inv_take {F F1 : FS} {K x : Int} {r0 : Ref} (hF : FW F K) (q : QI F) (h : HI F) (hv : ∀ v, F.ws[x.toNat]? = some v → ¬ Holds v)
    (hc : ∀ r, cnt F r = cnt F1 r + eq1 r0 r) (hj : F1.jobs = F.jobs) (hw : F1.ws = F.ws) (hq : F1.q.bs.length = 4 ∧ F1.q.cap = 512) :
    QI (takeF F1 x r0) ∧ HI (takeF F1 x r0) ∧ ∃ j, F.jobs[r0.job.toNat]? = some j ∧ 0 ≤ r0.job ∧ j.running = true ∧ j.added = true ∧ stAt j.B.st r0.task = 2 ∧ BWf j.B K ∧ takeF F1 x r0 = { F1 with ws := F.ws.set x.toNat ⟨1, r0.job, r0.task, j.B.att.getD r0.task.toNat 0, 0, 0, (F1.ar.getD x.toNat default).high⟩, jobs := F.jobs.set r0.job.toNat { j with B := ⟨j.B.deps, j.B.st.set r0.task.toNat 3, j.B.att⟩ }, st := { F1.st with starts := F1.st.starts + 1 } } := by
  have hr : rdyJ F.jobs r0 = true := by
    have h1 := hc r0
    have h2 := q.c r0
    cases hr : rdyJ F.jobs r0 with
    | true => rfl
    | false => rw [hr] at h2; simp [eq1] at h1 h2; omega
  obtain ⟨h0, j, hj0, hrun, hst⟩ := rdy_some hr
  have hJ := hF.j j (List.mem_of_getElem? hj0)
  have ha := hJ.r hrun
  obtain ⟨hW, hd, hb⟩ := hJ.b ha
  have hin := stAt_in hst (by decide)
  have hs := start_eq hW.ls hst
  have e : jobAt F1 r0.job = j := by unfold jobAt; rw [hj]; exact getD_some hj0
  have hl := (List.getElem?_eq_some_iff.1 hj0).1
  have eT : takeF F1 x r0 = { F1 with ws := F.ws.set x.toNat ⟨1, r0.job, r0.task, j.B.att.getD r0.task.toNat 0, 0, 0, (F1.ar.getD x.toNat default).high⟩, jobs := F.jobs.set r0.job.toNat { j with B := ⟨j.B.deps, j.B.st.set r0.task.toNat 3, j.B.att⟩ }, st := { F1.st with starts := F1.st.starts + 1 } } := by
    unfold takeF; rw [e, hs, hj, hw]
  refine ⟨?_, ?_, j, hj0, h0, hrun, ha, hst, hW, eT⟩
  · rw [eT]
    refine ⟨?_, hq.1, hq.2⟩
    intro r
    show cnt F1 r = (rdyJ (F.jobs.set r0.job.toNat _) r).toNat
    rw [rdy_set h0 hl]
    have h1 := hc r
    have h2 := q.c r
    by_cases e1 : r.job = r0.job
    · rw [if_pos e1]
      rw [rdy_at (by omega) (by rw [e1]; exact hj0), hrun] at h2
      dsimp only
      rw [hrun]
      by_cases e2 : r.task = r0.task
      · have e3 : r0 = r := ref_ext e1.symm e2.symm
        subst e3
        rw [stAt_self hin]
        rw [hst] at h2
        simp [eq1] at h1 h2 ⊢; omega
      · rw [stAt_other hin.1 e2]
        have e3 : eq1 r0 r = 0 := by unfold eq1; rw [if_neg (fun k => e2 (by rw [k]))]
        omega
    · rw [if_neg e1]
      have e3 : eq1 r0 r = 0 := by unfold eq1; rw [if_neg (fun k => e1 (by rw [k]))]
      omega
  · refine h.upd (x := x.toNat) (v' := ⟨1, r0.job, r0.task, j.B.att.getD r0.task.toNat 0, 0, 0, (F1.ar.getD x.toNat default).high⟩) (by rw [eT]) ?_ ?_ (fun k => absurd (.inl rfl) k)
    · refine h.others (k := r0.job.toNat) (j' := { j with B := ⟨j.B.deps, j.B.st.set r0.task.toNat 3, j.B.att⟩ }) hj0 (by rw [eT]) (fun h => h) ?_
      intro y v hy hv' hh hk hh0
      have h3 := (heldC_zero hh0).2.1
      have h4 : v.heldTask ≠ r0.task := by intro k; rw [k] at h3; omega
      exact heldC_keep hh0 rfl (stAt_other hin.1 h4) rfl
    · intro _
      refine ⟨⟨{ j with B := ⟨j.B.deps, j.B.st.set r0.task.toNat 3, j.B.att⟩ }, ?_, ha, ?_⟩, ?_⟩
      · rw [eT]; exact set_at hj0
      · exact heldC_of (B := ⟨j.B.deps, j.B.st.set r0.task.toNat 3, j.B.att⟩) ⟨hin.1, by rw [← hW.ls]; exact hin.2⟩ (stAt_self hin) rfl
      · intro y v hy hv' hh hk
        obtain ⟨j2, h1, h2, h3⟩ := h.h y v hv' hh
        have k1 : v.heldJob = r0.job := hk.1
        have k2 : v.heldTask = r0.task := hk.2
        rw [k1, hj0] at h1; obtain rfl := Option.some.inj h1
        have h4 := (heldC_zero h3).2.1
        rw [k2] at h4; omega
theorem cnt_dq {F : FS} {k : Nat} {d d' : DS} {r : Ref} (h : F.dq[k]? = some d) : cnt { F with dq := F.dq.set k d' } r + d.l.count r = cnt F r + d'.l.count r := by
  have := cD_set (d' := d') (r := r) h
  unfold cnt; dsimp only; omega
theorem last_count {l : List Ref} {a r : Ref} (h : l.getLast? = some a) : l.count r = l.dropLast.count r + eq1 a r := by
  have h1 : l = l.dropLast ++ [a] := by
    cases l with
    | nil => cases h
    | cons x l =>
      have h2 : (x :: l).getLast (by simp) = a := by rw [List.getLast?_eq_some_getLast (by simp)] at h; exact Option.some.inj h
      rw [← h2]; exact (List.dropLast_concat_getLast (by simp)).symm
  have h2 : l.count r = (l.dropLast ++ [a]).count r := by rw [← h1]
  rw [h2, List.count_append, count1_]
theorem head_count {l : List Ref} {a r : Ref} (h : l.head? = some a) : l.count r = l.tail.count r + eq1 a r := by
  cases l with
  | nil => cases h
  | cons x l =>
    obtain rfl := Option.some.inj h
    have : List.count r (x :: l) = List.count r [x] + List.count r l := by rw [← List.count_append]; rfl
    rw [this, count1_, List.tail_cons]; omega
theorem dq_some {F : FS} {K x : Int} (hF : FW F K) (hx : 0 ≤ x ∧ x < ((F.ws.length : Nat) : Int)) : F.dq[x.toNat]? = some (dqAt F x) := by
  unfold dqAt
  have h1 : x.toNat < F.dq.length := by rw [hF.dl]; omega
  rw [List.getD_eq_getElem?_getD, List.getElem?_eq_getElem h1]; rfl
theorem cnt_pop {F : FS} {x : Int} {d : DS} {l : List Ref} {a r : Ref} (hd : F.dq[x.toNat]? = some d) (h : ∀ r, d.l.count r = l.count r + eq1 a r) : cnt F r = cnt { F with dq := F.dq.set x.toNat { d with l := l } } r + eq1 a r := by
  have h1 := cnt_dq (d' := { d with l := l }) (r := r) hd
  have h2 := h r
  dsimp only at h1; omega
/-- What a worker that finds a task does. -/
theorem inv_acq {F F' : FS} {K x c : Int} {ev : Evt} (hF : FW F K) (q : QI F) (h : HI F) (hx : 0 ≤ x ∧ x < ((F.ws.length : Nat) : Int)) (hv : ∀ v, F.ws[x.toNat]? = some v → ¬ Holds v) (he : acqF F x c = some (F', ev)) :
    QI F' ∧ HI F' ∧ ∃ (r0 : Ref) (j : JS), F.jobs[r0.job.toNat]? = some j ∧ 0 ≤ r0.job ∧ j.running = true ∧ j.added = true ∧ stAt j.B.st r0.task = 2 ∧ BWf j.B K ∧ (∃ hh : Int, F'.ws = F.ws.set x.toNat ⟨1, r0.job, r0.task, j.B.att.getD r0.task.toNat 0, 0, 0, hh⟩) ∧ F'.jobs = F.jobs.set r0.job.toNat { j with B := ⟨j.B.deps, j.B.st.set r0.task.toNat 3, j.B.att⟩ } ∧
      (ev = ⟨3, x, 0, 0, r0.job, r0.task, 0⟩ ∨ ev = ⟨4, x, 0, 0, r0.job, r0.task, 0⟩ ∨ ∃ f : Int, 0 ≤ f ∧ f < ((F.ws.length : Nat) : Int) ∧ f ≠ x ∧ ev = ⟨5, x, f, 0, r0.job, r0.task, 0⟩) := by
  unfold acqF at he
  split at he
  · rename_i r hr
    obtain ⟨rfl, rfl⟩ := Prod.mk.inj (Option.some.inj he)
    obtain ⟨a1, a2, j, b1, b2, b3, b4, b5, b6, b7⟩ := inv_take (F1 := popF F x (dqAt F x).l.dropLast) (x := x) (r0 := r) hF q h hv (fun y => cnt_pop (dq_some hF hx) (fun r => last_count hr)) rfl rfl ⟨q.q4, q.cap⟩
    exact ⟨a1, a2, r, j, b1, b2, b3, b4, b5, b6, ⟨_, by rw [b7]⟩, by rw [b7], .inl rfl⟩
  · rename_i hlast
    split at he
    · rename_i r bs hq
      obtain ⟨rfl, rfl⟩ := Prod.mk.inj (Option.some.inj he)
      obtain ⟨a1, a2, j, b1, b2, b3, b4, b5, b6, b7⟩ := inv_take (F1 := { F with q := { F.q with bs := bs } }) (x := x) (r0 := r) hF q h hv (fun y => by have := cQ_pop (r := y) hq; unfold cnt; dsimp only; omega) rfl rfl ⟨by rw [show ({ F with q := { F.q with bs := bs } } : FS).q.bs = bs from rfl, pop_len hq]; exact q.q4, q.cap⟩
      exact ⟨a1, a2, r, j, b1, b2, b3, b4, b5, b6, ⟨_, by rw [b7]⟩, by rw [b7], .inr (.inl rfl)⟩
    · unfold stealF at he
      split at he
      · cases he
      · rename_i i hi
        split at he
        · cases he
        · rename_i r hr
          obtain ⟨rfl, rfl⟩ := Prod.mk.inj (Option.some.inj he)
          have hb := chF_bd (F := F) (c := c) (i := i) hF.n.1
          obtain ⟨a1, a2, j, b1, b2, b3, b4, b5, b6, b7⟩ := inv_take (F1 := popF F (chF F c i) (dqAt F (chF F c i)).l.tail) (x := x) (r0 := r) hF q h hv (fun y => cnt_pop (dq_some hF hb) (fun r => head_count hr)) rfl rfl ⟨q.q4, q.cap⟩
          refine ⟨⟨a1.c, a1.q4, a1.cap⟩, ⟨a2.h, a2.d, a2.z⟩, r, j, b1, b2, b3, b4, b5, b6, ⟨((popF F (chF F c i) (dqAt F (chF F c i)).l.tail).ar.getD x.toNat default).high, ?_⟩, ?_, .inr (.inr ⟨chF F c i, hb.1, hb.2, ?_, rfl⟩)⟩
          · show (takeF _ x r).ws = _; rw [b7]
          · show (takeF _ x r).jobs = _; rw [b7]
          · intro hxe
            rw [hxe] at hr
            have : (dqAt F x).l = [] := List.getLast?_eq_none_iff.1 hlast
            rw [this] at hr; cases hr
end Go.Proofs.YtimkhljglpookaaGreat
