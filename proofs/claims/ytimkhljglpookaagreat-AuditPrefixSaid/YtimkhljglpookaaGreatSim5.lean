import Derived.Test.YtimkhljglpookaaGreatSim4
namespace Go.Proofs.YtimkhljglpookaaGreat
open Go Go.E
set_option linter.unusedVariables false
set_option linter.unusedSimpArgs false
set_option linter.unnecessarySimpa false
set_option maxRecDepth 100000
set_option maxHeartbeats 2000000
variable {W w : World} {H : Chunk} {F : List Chunk}

/-! ### crashes, cancellations, further jobs, the first state -/
theorem cD_ge : ∀ {l : List DS} {k : Nat} {d : DS} {r : Ref}, l[k]? = some d → d.l.count r ≤ cD l r
  | [], _, _, _, h => by cases h
  | x :: l, 0, d, r, h => by
    obtain rfl : x = d := by simpa using h
    simp only [cD, List.map_cons, List.sum_cons]; omega
  | x :: l, k + 1, d, r, h => by
    have ih := cD_ge (l := l) (k := k) (d := d) (r := r) (by simpa using h)
    simp only [cD, List.map_cons, List.sum_cons] at ih ⊢; omega
theorem QI.few {F : FS} {K : Int} (h : QI F) (hF : FW F K) {L : List Ref} (hL : ∀ r, L.count r ≤ cnt F r) : L.length ≤ totS (shapeF F.jobs) := by
  rw [← allR_len (k := 0)]
  apply len_le
  intro r
  have h3 := h.c r
  have h4 := hL r
  cases hr : rdyJ F.jobs r with
  | false => rw [hr] at h3; simp at h3; omega
  | true =>
    rw [hr] at h3
    obtain ⟨h0, j, hj, hrun, hst⟩ := rdy_some hr
    have hJ := hF.j j (List.mem_of_getElem? hj)
    have ha := hJ.r hrun
    obtain ⟨hW, hd, _, _⟩ := hJ.b ha
    have hi := stAt_in hst (by decide)
    have hm := allR_mem (k := 0) (t := r.task) hj ha hi.1 (by rw [hW.ls, hd] at hi; exact hi.2)
    rw [show (⟨((0 + r.job.toNat : Nat) : Int), r.task⟩ : Ref) = r by cases r; simp only at h0 ⊢; congr 1; omega] at hm
    have := List.count_pos_iff.2 hm
    simp at h3; omega
theorem drain_cnt {jobs : List JS} (l : List Ref) : ∀ {q : QS}, q.bs.length = 4 → q.cap = 512 → totB q.bs + l.length < 512 → (∀ r ∈ l, 0 ≤ (jobs.getD r.job.toNat default).band ∧ (jobs.getD r.job.toNat default).band < 4) →
    (∀ r, cQ (drainQ jobs q l).bs r = cQ q.bs r + l.count r) ∧ (drainQ jobs q l).bs.length = 4 ∧ (drainQ jobs q l).cap = 512 := by
  induction l with
  | nil => intro q h4 hc _ _; exact ⟨fun r => by simp only [drainQ, List.foldl_nil, List.count_nil, Nat.add_zero], h4, hc⟩
  | cons t l ih =>
    intro q h4 hc ht hb
    simp only [List.length_cons] at ht
    have hb0 := hb t List.mem_cons_self
    have h1 := fun r => cQ_pushQ (a := t) (r := r) hb0 h4 (by omega)
    have e : drainQ jobs q (t :: l) = drainQ jobs (pushQ q t (jobs.getD t.job.toNat default).band) l := by unfold drainQ; rw [List.foldl_cons]; rfl
    rw [e]
    obtain ⟨b1, b2, b3⟩ := ih (q := pushQ q t (jobs.getD t.job.toNat default).band) (h1 t).2.1 ((h1 t).2.2.1.trans hc) (by have := (h1 t).2.2.2; omega) (fun r hr => hb r (List.mem_cons_of_mem _ hr))
    refine ⟨?_, b2, b3⟩
    intro r
    rw [b1, (h1 r).1]
    have : List.count r (t :: l) = List.count r [t] + List.count r l := by rw [← List.count_append]; rfl
    rw [this, count1_]; omega
theorem ready_cnt {x bd : Int} (hb : 0 ≤ bd ∧ bd < 4) (l : List Int) : ∀ {q : QS}, q.bs.length = 4 → q.cap = 512 → totB q.bs + l.length < 512 →
    (∀ r, cQ (readyQ x bd q l).bs r = cQ q.bs r + (l.map fun t => (⟨x, t⟩ : Ref)).count r) ∧ (readyQ x bd q l).bs.length = 4 ∧ (readyQ x bd q l).cap = 512 := by
  induction l with
  | nil => intro q h4 hc _; exact ⟨fun r => by simp only [readyQ, List.foldl_nil, List.map_nil, List.count_nil, Nat.add_zero], h4, hc⟩
  | cons t l ih =>
    intro q h4 hc ht
    simp only [List.length_cons] at ht
    have h1 := fun r => cQ_pushQ (a := (⟨x, t⟩ : Ref)) (r := r) hb h4 (by omega)
    have e : readyQ x bd q (t :: l) = readyQ x bd (pushQ q ⟨x, t⟩ bd) l := by unfold readyQ; rw [List.foldl_cons]
    rw [e]
    obtain ⟨b1, b2, b3⟩ := ih (q := pushQ q ⟨x, t⟩ bd) (h1 ⟨x, t⟩).2.1 ((h1 ⟨x, t⟩).2.2.1.trans hc) (by have := (h1 ⟨x, t⟩).2.2.2; omega)
    refine ⟨?_, b2, b3⟩
    intro r
    rw [b1, (h1 r).1, List.map_cons]
    have : List.count r ((⟨x, t⟩ : Ref) :: l.map fun t => (⟨x, t⟩ : Ref)) = List.count r [(⟨x, t⟩ : Ref)] + List.count r (l.map fun t => (⟨x, t⟩ : Ref)) := by rw [← List.count_append]; rfl
    rw [this, count1_]; omega
theorem ret_eq {B : BS} {i a : Int} (h : heldC B i a = 0) : retB B i a = ⟨B.deps, B.st.set i.toNat 2, B.att.set i.toNat (a + 1)⟩ := by unfold retB; rw [if_pos h]
theorem ret_held {B : BS} {i a t b : Int} (h : heldC B i a = 0) (ht : heldC B t b = 0) (hne : t ≠ i) : heldC (retB B i a) t b = 0 := by
  rw [ret_eq h]
  have hi := heldC_zero h
  have h3 := heldC_zero ht
  have hin : 0 ≤ i := hi.1.1
  have ht0 : 0 ≤ t := h3.1.1
  refine heldC_keep ht rfl (stAt_other hin hne) ?_
  dsimp only
  rw [getD_set, if_neg (by omega)]
theorem retJ_no {F : FS} {v : Wkr} (h : busyW F v = false) : retJ F v = F := by unfold retJ; rw [if_neg (by rw [h]; decide)]
/-- A crash. -/
theorem inv_crash {F : FS} {K x : Int} {v : Wkr} (hF : FW F K) (q : QI F) (h : HI F) (h20 : totS (shapeF F.jobs) ≤ 20) (hx : 0 ≤ x ∧ x < ((F.ws.length : Nat) : Int)) (hv : F.ws[x.toNat]? = some v) :
    QI (crashW (retJ F v) x) ∧ HI (crashW (retJ F v) x) := by
  have hd := dq_some hF hx
  have hcap := q.cap
  have hlen : totB F.q.bs + (dqAt F x).l.length ≤ 20 := by
    have h1 := q.few hF (L := F.q.bs.flatten ++ (dqAt F x).l) (fun r => by
      rw [List.count_append, show F.q.bs.flatten.count r = cQ F.q.bs r from by rw [List.count_flatten]; rfl]
      have := cD_ge (r := r) hd
      unfold cnt; omega)
    rw [List.length_append] at h1
    have h2 : totB F.q.bs = ((F.q.bs.flatten.length : Nat) : Int) := by unfold totB; rw [List.length_flatten]
    omega
  have hband : ∀ r ∈ (dqAt F x).l, 0 ≤ (F.jobs.getD r.job.toNat default).band ∧ (F.jobs.getD r.job.toNat default).band < 4 := by
    intro r hr
    obtain ⟨j, hj, _, _, _, b1, b2, _, _⟩ := hF.job (hF.dr x r hr)
    rw [getD_some hj]; exact ⟨b1, b2⟩
  cases hb : busyW F v with
  | false =>
    rw [retJ_no hb]
    obtain ⟨d1, d2, d3⟩ := drain_cnt (jobs := F.jobs) (dqAt F x).l q.q4 q.cap (by omega) hband
    refine ⟨⟨?_, d2, d3⟩, h.upd (x := x.toNat) (v' := ⟨4, 0, 0, 0, 0, 0, (arAt F x).high⟩) rfl h.same (fun k => by unfold Holds at k; dsimp only at k; omega) (fun _ => ⟨rfl, rfl, rfl, rfl, .inr rfl⟩)⟩
    intro r
    rw [← show rdyJ F.jobs r = rdyJ (crashW F x).jobs r from rfl, ← q.c r]
    have h1 := cnt_dq (d' := ⟨(dqAt F x).cap, []⟩) (r := r) hd
    have h2 := d1 r
    show cD (F.dq.set x.toNat ⟨(dqAt F x).cap, []⟩) r + cQ (drainQ F.jobs F.q (dqAt F x).l).bs r = cnt F r
    unfold cnt at h1 ⊢; simp only [List.count_nil] at h1; omega
  | true =>
    unfold busyW at hb
    obtain ⟨hb1, hb2⟩ := (Bool.and_eq_true _ _).mp hb
    have hh : Holds v := (of_decide_eq_true hb1 : v.phase = 1 ∨ v.phase = 2 ∨ v.phase = 3)
    have hw := hF.w v (List.mem_of_getElem? hv)
    obtain ⟨j, hj, ha, hz⟩ := h.h _ v hv hh
    have hrun : j.running = true := by unfold jobAt at hb2; rw [getD_some hj] at hb2; exact hb2
    have e : jobAt F v.heldJob = j := getD_some hj
    have hJ := hF.j j (List.mem_of_getElem? hj)
    obtain ⟨hW, hdl, hbd⟩ := hJ.b ha
    have eR : retJ F v = { F with jobs := F.jobs.set v.heldJob.toNat { j with B := retB j.B v.heldTask v.attempt }, q := pushQ F.q ⟨v.heldJob, v.heldTask⟩ j.band } := by
      unfold retJ; rw [if_pos (by unfold busyW; rw [hb1, hb2]; rfl), e]
    have hz3 := heldC_zero hz
    have hin := stAt_in hz3.2.1 (by decide)
    have hlj := (List.getElem?_eq_some_iff.1 hj).1
    have k2 := hw.h
    have p := fun r => cQ_pushQ (a := (⟨v.heldJob, v.heldTask⟩ : Ref)) (r := r) hbd q.q4 (by omega)
    have hband2 : ∀ r ∈ (dqAt F x).l, 0 ≤ ((F.jobs.set v.heldJob.toNat { j with B := retB j.B v.heldTask v.attempt }).getD r.job.toNat default).band ∧ ((F.jobs.set v.heldJob.toNat { j with B := retB j.B v.heldTask v.attempt }).getD r.job.toNat default).band < 4 := by
      intro r hr
      by_cases e1 : v.heldJob.toNat = r.job.toNat
      · rw [← e1, getD_some (set_at hj)]; exact hbd
      · have h1 := hband r hr
        rw [List.getD_eq_getElem?_getD] at h1 ⊢
        rw [List.getElem?_set, if_neg e1]; exact h1
    obtain ⟨d1, d2, d3⟩ := drain_cnt (jobs := F.jobs.set v.heldJob.toNat { j with B := retB j.B v.heldTask v.attempt }) (dqAt F x).l (p ⟨0, 0⟩).2.1 ((p ⟨0, 0⟩).2.2.1.trans q.cap) (by have := (p ⟨0, 0⟩).2.2.2; omega) hband2
    rw [eR]
    refine ⟨⟨?_, d2, d3⟩, h.upd (x := x.toNat) (v' := ⟨4, 0, 0, 0, 0, 0, (arAt F x).high⟩) rfl ?_ (fun k => by unfold Holds at k; dsimp only at k; omega) (fun _ => ⟨rfl, rfl, rfl, rfl, .inr rfl⟩)⟩
    · intro r
      show cD (F.dq.set x.toNat ⟨(dqAt F x).cap, []⟩) r + cQ (drainQ (F.jobs.set v.heldJob.toNat { j with B := retB j.B v.heldTask v.attempt }) (pushQ F.q ⟨v.heldJob, v.heldTask⟩ j.band) (dqAt F x).l).bs r = (rdyJ (F.jobs.set v.heldJob.toNat { j with B := retB j.B v.heldTask v.attempt }) r).toNat
      rw [rdy_set k2.1 hlj]
      have h1 := cnt_dq (d' := ⟨(dqAt F x).cap, []⟩) (r := r) hd
      have h2 := d1 r
      have h3 := (p r).1
      have h4 := q.c r
      unfold cnt at h1 h4; simp only [List.count_nil] at h1
      by_cases e1 : r.job = v.heldJob
      · rw [if_pos e1]
        dsimp only
        rw [toNat_dec, if_pos hrun, show (retB j.B v.heldTask v.attempt).st = j.B.st.set v.heldTask.toNat 2 by rw [ret_eq hz]]
        rw [rdy_at (by omega) (by rw [e1]; exact hj), toNat_dec, if_pos hrun] at h4
        by_cases e2 : r.task = v.heldTask
        · rw [e2, stAt_self hin, if_pos rfl]
          rw [e2, hz3.2.1] at h4
          have e3 : eq1 ⟨v.heldJob, v.heldTask⟩ r = 1 := by unfold eq1; rw [if_pos (ref_ext e1.symm e2.symm)]
          simp at h4; omega
        · rw [stAt_other hin.1 e2]
          have e3 : eq1 ⟨v.heldJob, v.heldTask⟩ r = 0 := by unfold eq1; rw [if_neg (fun k => e2 (by rw [← k]))]
          omega
      · rw [if_neg e1]
        have e3 : eq1 ⟨v.heldJob, v.heldTask⟩ r = 0 := by unfold eq1; rw [if_neg (fun k => e1 (by rw [← k]))]
        omega
    · refine h.others hj (j' := { j with B := retB j.B v.heldTask v.attempt }) rfl (fun h => h) ?_
      intro y u hy hu hhu hk hu0
      have hne : u.heldTask ≠ v.heldTask := by
        intro k
        have := hF.w u (List.mem_of_getElem? hu)
        exact h.d _ _ v u hv hu hy hh hhu ⟨by have := this.h; omega, k.symm⟩
      exact ret_held hz hu0 hne
theorem cD_rm {k : Int} {r : Ref} : ∀ {l : List DS}, cD (l.map (rmD k)) r = if r.job = k then 0 else cD l r
  | [] => by split <;> rfl
  | d :: l => by
    have ih := cD_rm (k := k) (r := r) (l := l)
    simp only [cD, List.map_cons, List.sum_cons] at ih ⊢
    rw [ih]
    have h1 : (rmD k d).l.count r = if r.job = k then 0 else d.l.count r := by
      unfold rmD without
      by_cases e : r.job = k
      · rw [if_pos e, List.count_eq_zero]
        intro h; have := (List.mem_filter.1 h).2; simp [e] at this
      · rw [if_neg e, List.count_filter (by simpa using e)]
    rw [h1]; split <;> omega
theorem cQ_rm {k : Int} {r : Ref} : ∀ {l : List (List Ref)}, cQ (l.map (without k)) r = if r.job = k then 0 else cQ l r
  | [] => by split <;> rfl
  | d :: l => by
    have ih := cQ_rm (k := k) (r := r) (l := l)
    simp only [cQ, List.map_cons, List.sum_cons] at ih ⊢
    rw [ih]
    have h1 : (without k d).count r = if r.job = k then 0 else d.count r := by
      unfold without
      by_cases e : r.job = k
      · rw [if_pos e, List.count_eq_zero]
        intro h; have := (List.mem_filter.1 h).2; simp [e] at this
      · rw [if_neg e, List.count_filter (by simpa using e)]
    rw [h1]; split <;> omega
theorem HI.jb {F F' : FS} (h : HI F) (hw : F'.ws = F.ws) (ha : ∀ (y : Nat) v, F.ws.length ≠ y → F.ws[y]? = some v → Holds v → ∃ j, F'.jobs[v.heldJob.toNat]? = some j ∧ j.added = true ∧ heldC j.B v.heldTask v.attempt = 0) : HI F' :=
  ⟨fun y v hy hv => by rw [hw] at hy; exact ha y v (by have := (List.getElem?_eq_some_iff.1 hy).1; omega) hy hv, by rw [hw]; exact h.d, by rw [hw]; exact h.z⟩
theorem inv_cancel {F : FS} {k : Int} {j : JS} (q : QI F) (h : HI F) (hk : 0 ≤ k) (hj : F.jobs[k.toNat]? = some j) : QI (cancelW F k) ∧ HI (cancelW F k) := by
  have e : jobAt F k = j := getD_some hj
  have hl := (List.getElem?_eq_some_iff.1 hj).1
  refine ⟨⟨?_, by simp only [cancelW, List.length_map]; exact q.q4, q.cap⟩, h.jb rfl ?_⟩
  · intro r
    show cD (F.dq.map (rmD k)) r + cQ (F.q.bs.map (without k)) r = (rdyJ (F.jobs.set k.toNat _) r).toNat
    rw [cD_rm, cQ_rm, rdy_set hk hl]
    by_cases e1 : r.job = k
    · rw [if_pos e1, if_pos e1, if_pos e1]; rfl
    · rw [if_neg e1, if_neg e1, if_neg e1]; exact q.c r
  · refine h.others hj (j' := { j with running := false }) (by unfold cancelW; rw [e]) (fun h => h) (fun y v _ _ _ _ hz => hz)
theorem inv_add {F : FS} {K x bd : Int} {l : List Task} {j : JS} (hF : FW F K) (q : QI F) (h : HI F) (h20 : totS (shapeF F.jobs) ≤ 20) (h5 : l.length ≤ 5) (hx : 0 ≤ x) (hb : 0 ≤ bd ∧ bd < 4) (hj : F.jobs[x.toNat]? = some j) (ha : j.added = false) : QI (addF F x l bd) ∧ HI (addF F x l bd) := by
  have hl := (List.getElem?_eq_some_iff.1 hj).1
  have hsm := q.small hF
  have h3 := idx_le (y := 2) (s := (newB l).st) (k := 0)
  have h4 : (newB l).st.length = l.length := by simp [newB]
  obtain ⟨r1, r2, r3⟩ := ready_cnt (x := x) hb (idxOf 2 0 (newB l).st) q.q4 q.cap (by omega)
  refine ⟨⟨?_, r2, r3⟩, h.jb rfl ?_⟩
  · intro r
    show cD F.dq r + cQ (readyQ x bd F.q (idxOf 2 0 (newB l).st)).bs r = (rdyJ (F.jobs.set x.toNat (jobN l bd)) r).toNat
    rw [r1, rdy_set hx hl, cmap]
    have h6 := q.c r
    unfold cnt at h6
    by_cases e1 : r.job = x
    · rw [if_pos e1, if_pos e1, toNat_dec, if_pos (show (jobN l bd).running = true from rfl), count_two]
      have hr : j.running = false := by
        cases hr : j.running with
        | false => rfl
        | true => have := (hF.j j (List.mem_of_getElem? hj)).r hr; rw [ha] at this; cases this
      rw [rdy_at (by omega) (by rw [e1]; exact hj), hr] at h6
      simp at h6
      show _ = if stAt (newB l).st r.task = 2 then 1 else 0
      omega
    · rw [if_neg e1, if_neg e1]; omega
  · intro y v _ hy hv
    obtain ⟨j2, a1, a2, a3⟩ := h.h y v hy hv
    refine ⟨j2, ?_, a2, a3⟩
    show (F.jobs.set x.toNat _)[_]? = _
    rw [List.getElem?_set, if_neg]
    · exact a1
    · intro k; rw [← k, hj] at a1; obtain rfl := Option.some.inj a1; rw [ha] at a2; cases a2
theorem inv_idle {F : FS} {x : Int} (q : QI F) (h : HI F) : QI (idleF F x 0) ∧ HI (idleF F x 0) :=
  ⟨⟨q.c, q.q4, q.cap⟩, h.upd (x := x.toNat) (v' := ⟨0, 0, 0, 0, 0, 0, (F.ar.getD x.toNat default).high⟩) rfl h.same (fun k => by unfold Holds at k; dsimp only at k; omega) (fun _ => ⟨rfl, rfl, rfl, rfl, .inl rfl⟩)⟩
theorem inv_new {c : Cfg} (hc : c.tasks = 512) : QI (newF c) ∧ HI (newF c) := by
  refine ⟨⟨?_, rfl, hc⟩, ⟨?_, ?_, ?_⟩⟩
  · intro r
    have h1 : rdyJ (newF c).jobs r = false := by
      unfold rdyJ newF
      dsimp only
      have : (List.replicate 64 JS.zero).getD r.job.toNat default = JS.zero := by
        rw [List.getD_eq_getElem?_getD, List.getElem?_replicate]; split <;> rfl
      rw [this]; simp [JS.zero]
    rw [h1]
    have h2 : cD (newF c).dq r = 0 := by
      unfold cD newF; simp
    unfold cnt; rw [h2]; simp [newF, cQ]
  · intro x v hv hh
    obtain rfl := rep_at hv
    unfold Holds at hh; dsimp only at hh; omega
  · intro x y v u hv _ _ hh
    obtain rfl := rep_at hv
    unfold Holds at hh; dsimp only at hh; omega
  · intro x v hv _
    obtain rfl := rep_at hv
    exact ⟨rfl, rfl, rfl, rfl, .inl rfl⟩
end Go.Proofs.YtimkhljglpookaaGreat
