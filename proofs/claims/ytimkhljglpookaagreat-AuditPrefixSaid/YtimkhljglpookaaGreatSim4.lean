import Derived.Test.YtimkhljglpookaaGreatSim3
namespace Go.Proofs.YtimkhljglpookaaGreat
open Go Go.E
set_option linter.unusedVariables false
set_option linter.unusedSimpArgs false
set_option linter.unnecessarySimpa false
set_option maxRecDepth 100000
set_option maxHeartbeats 2000000
variable {W w : World} {H : Chunk} {F : List Chunk}

/-! ### micro-steps, drops, crashes, cancellations, further jobs -/
theorem cnt_st {F : FS} {s : Stt} {r : Ref} : cnt { F with st := s } r = cnt F r := rfl
theorem spill_cnt {x job band K : Int} (hb : 0 ≤ band ∧ band < 4) (l : List Int) : ∀ {F : FS}, FW F K → (0 ≤ x ∧ x < ((F.ws.length : Nat) : Int)) → F.q.bs.length = 4 → F.q.cap = 512 → totB F.q.bs + l.length < 512 → (∀ t ∈ l, RefOk (shapeF F.jobs) ⟨job, t⟩) →
    (∀ r, cnt (spillF F x job band l) r = cnt F r + (l.map fun t => (⟨job, t⟩ : Ref)).count r) ∧ (spillF F x job band l).q.bs.length = 4 ∧ (spillF F x job band l).q.cap = 512 := by
  induction l with
  | nil => intro F _ _ h4 hc _ _; exact ⟨fun r => by simp only [spillF, List.foldl_nil, List.map_nil, List.count_nil, Nat.add_zero], h4, hc⟩
  | cons t l ih =>
    intro F hF hx h4 hc ht hr
    have h0 := hr t List.mem_cons_self
    simp only [List.length_cons] at ht
    have hd := dq_some hF hx
    have h1 : FW (spill1 F x ⟨job, t⟩ band) K ∧ (spill1 F x ⟨job, t⟩ band).jobs = F.jobs ∧ (spill1 F x ⟨job, t⟩ band).ws = F.ws ∧ (∀ r, cnt (spill1 F x ⟨job, t⟩ band) r = cnt F r + eq1 ⟨job, t⟩ r) ∧ (spill1 F x ⟨job, t⟩ band).q.bs.length = 4 ∧ (spill1 F x ⟨job, t⟩ band).q.cap = 512 ∧ totB (spill1 F x ⟨job, t⟩ band).q.bs ≤ totB F.q.bs + 1 := by
      unfold spill1
      split
      · rename_i hp
        refine ⟨hF.sd (pushD_mem h0 (hF.dr x)), rfl, rfl, ?_, h4, hc, by dsimp only; omega⟩
        intro r
        have h2 := cnt_dq (d' := pushD (dqAt F x) ⟨job, t⟩) (r := r) hd
        have h3 : (pushD (dqAt F x) ⟨job, t⟩).l = (dqAt F x).l ++ [⟨job, t⟩] := by unfold pushD; rw [if_pos (show pushC (dqAt F x) = 0 from hp)]
        rw [h3, List.count_append, count1_] at h2
        show cnt { F with dq := F.dq.set x.toNat (pushD (dqAt F x) ⟨job, t⟩) } r = _
        omega
      · obtain ⟨_, g2, g3, g4⟩ := cQ_pushQ (a := (⟨job, t⟩ : Ref)) (r := ⟨0, 0⟩) hb h4 (by omega)
        refine ⟨(hF.sq (pushQ_mem h0 hF.q)).ss, rfl, rfl, ?_, g2, g3.trans hc, by dsimp only; omega⟩
        intro r
        have := (cQ_pushQ (a := (⟨job, t⟩ : Ref)) (r := r) hb h4 (by omega)).1
        unfold cnt; dsimp only; omega
    obtain ⟨a1, a2, a3, a4, a5, a6, a7⟩ := h1
    obtain ⟨b1, b2, b3⟩ := ih a1 (by rw [a3]; exact hx) a5 a6 (by omega) (by rw [a2]; exact fun t ht => hr t (List.mem_cons_of_mem _ ht))
    have hsp : spillF F x job band (t :: l) = spillF (spill1 F x ⟨job, t⟩ band) x job band l := by unfold spillF; rw [List.foldl_cons]
    rw [hsp]
    refine ⟨?_, b2, b3⟩
    intro r
    rw [b1, a4, List.map_cons]
    have : List.count r ((⟨job, t⟩ : Ref) :: l.map fun t => (⟨job, t⟩ : Ref)) = List.count r [(⟨job, t⟩ : Ref)] + List.count r (l.map fun t => (⟨job, t⟩ : Ref)) := by rw [← List.count_append]; rfl
    rw [this, count1_]; omega
theorem com_eq {B : BS} {i a : Int} (h : heldC B i a = 0) : comB B i a = (⟨B.deps, markB (B.st.set i.toNat 4) B.deps, B.att⟩, rdyB (B.st.set i.toNat 4) B.deps) := by unfold comB; rw [if_pos h]
/-- What is ready behind a commit: what was, and what the commit says. -/
theorem com_two {B : BS} {i z : Int} (hl : B.st.length = B.deps.length) (hi : stAt B.st i = 3) :
    (if stAt (markB (B.st.set i.toNat 4) B.deps) z = 2 then 1 else 0) = (if stAt B.st z = 2 then 1 else 0) + (rdyB (B.st.set i.toNat 4) B.deps).count z := by
  have hin := stAt_in hi (by decide)
  rw [mark_at (by rw [List.length_set]; exact hl), count_rdy]
  by_cases h : 0 ≤ z ∧ z < ((B.deps.length : Nat) : Int) ∧ condB (B.st.set i.toNat 4) B.deps z.toNat = true
  · rw [if_pos h, if_pos h]
    have h1 := cond_one h.1 h.2.2
    have h2 : z ≠ i := by intro k; subst k; rw [stAt_self hin] at h1; omega
    rw [stAt_other hin.1 h2] at h1
    rw [if_pos rfl, if_neg (by omega)]
  · rw [if_neg h, if_neg h]
    by_cases h2 : z = i
    · subst h2; rw [stAt_self hin, hi]; rfl
    · rw [stAt_other hin.1 h2]; rfl
theorem com_held {B : BS} {i a t b : Int} (hl : B.st.length = B.deps.length) (h : heldC B i a = 0) (ht : heldC B t b = 0) (hne : t ≠ i) : heldC (comB B i a).1 t b = 0 := by
  rw [com_eq h]
  have hi := (heldC_zero h).2.1
  have h3 := (heldC_zero ht).2.1
  have hin := stAt_in hi (by decide)
  refine heldC_keep ht rfl ?_ rfl
  dsimp only
  rw [mark_at (by rw [List.length_set]; exact hl), if_neg, stAt_other hin.1 hne]
  intro k
  have h1 := cond_one k.1 k.2.2
  rw [stAt_other hin.1 hne, h3] at h1; omega
theorem filter_allX {s : List Int} (h : (s.filter fun x => decide (x = 4)).length = s.length) : ∀ x ∈ s, x = 4 := by
  induction s with
  | nil => intro x hx; cases hx
  | cons y s ih =>
    have h1 := List.length_filter_le (fun x : Int => decide (x = 4)) s
    rw [List.filter_cons] at h
    split at h
    · rename_i h2
      intro x hx
      rcases List.mem_cons.1 hx with rfl | hx
      · simpa using h2
      · exact ih (by simpa using h) x hx
    · rw [List.length_cons] at h; omega
/-- While not all tasks are committed and none is held, one is ready. -/
theorem done_none {B : BS} {K : Int} (hW : BWf B K) (hd : doneOf B = ((B.deps.length : Nat) : Int)) (z : Int) : stAt B.st z ≠ 2 := by
  intro h
  have hls := hW.ls
  unfold doneOf at hd
  have h4 := filter_allX (s := B.st) (by omega)
  have h1 := stAt_in h (by decide)
  rw [stAt_nat _ h1.1] at h
  have := h4 _ (getD_mem (s := B.st) (q := z.toNat) (by omega)); omega
theorem toNat_dec {b : Bool} {p : Prop} [Decidable p] : (b && decide p).toNat = if b = true then (if p then 1 else 0) else 0 := by
  cases b <;> by_cases h : p <;> simp [h]
/-- A micro-step of a worker that holds a task of a running job. -/
theorem inv_micro {F : FS} {K x : Int} {v : Wkr} {j : JS} (hF : FW F K) (hK : K + 1 ≤ 4096) (q : QI F) (h : HI F) (h20 : totS (shapeF F.jobs) ≤ 20) (h5 : j.tasks.length ≤ 5) (hx : 0 ≤ x ∧ x < ((F.ws.length : Nat) : Int)) (hv : F.ws[x.toNat]? = some v) (hh : Holds v) (hj : F.jobs[v.heldJob.toNat]? = some j) (hrun : j.running = true) :
    QI (microF F x).1 ∧ HI (microF F x).1 := by
  have hw := hF.w v (List.mem_of_getElem? hv)
  obtain ⟨j2, c1, c2, c3⟩ := h.h _ v hv hh
  rw [hj] at c1; obtain rfl := Option.some.inj c1
  have hJ := hF.j j (List.mem_of_getElem? hj)
  obtain ⟨hW, hd, hb⟩ := hJ.b c2
  have e : jobAt F v.heldJob = j := getD_some hj
  have hold := fun k (hk : Holds v) => h.h k v
  unfold microF
  simp only [getD_some hv, e]
  by_cases p1 : v.phase = 1
  · rw [if_pos p1]
    refine ⟨⟨q.c, q.q4, q.cap⟩, h.upd (x := x.toNat) rfl h.same (fun _ => ⟨⟨j, hj, c2, c3⟩, ?_⟩) (fun k => absurd (.inr (.inl rfl)) k)⟩
    intro y u hy hu hhu k
    exact h.d _ _ v u hv hu hy hh hhu ⟨k.1.symm, k.2.symm⟩
  · rw [if_neg p1]
    by_cases p2 : v.phase = 2
    · rw [if_pos p2]
      refine ⟨⟨q.c, q.q4, q.cap⟩, h.upd (x := x.toNat) rfl h.same (fun _ => ⟨⟨j, hj, c2, c3⟩, ?_⟩) (fun k => absurd (by unfold Holds; dsimp only; split <;> omega) k)⟩
      intro y u hy hu hhu k
      exact h.d _ _ v u hv hu hy hh hhu ⟨k.1.symm, k.2.symm⟩
    · rw [if_neg p2]
      have hz := heldC_zero c3
      have hm := hF.mono (L := K + 1) (by omega) hK
      have k2 := hw.h
      have hO : JobOk (K + 1) { j with B := (comB j.B v.heldTask v.attempt).1 } := ⟨hJ.n, fun _ => ⟨(com_wf hW).mono (by omega), by rw [com_deps]; exact hd, hb⟩, fun _ => c2⟩
      have hF1 := (((hm.sj (k := v.heldJob.toNat) (j' := { j with B := (comB j.B v.heldTask v.attempt).1 }) hj rfl rfl hO).sa (k := x.toNat) (a := relA (F.ar.getD x.toNat default))).sw (k := x.toNat) (v := ⟨0, 0, 0, 0, 0, 0, (relA (F.ar.getD x.toNat default)).high⟩) ⟨⟨Int.le_refl 0, show (0 : Int) < 64 by decide⟩, ⟨Int.le_refl 0, hm.k.1⟩, fun h => by dsimp only at h; omega⟩).ss (s := { F.st with commits := F.st.commits + 1 })
      have hsh := shape_set (j' := { j with B := (comB j.B v.heldTask v.attempt).1 }) hj rfl rfl
      have hsm := q.small hF
      have hcl := com_len (B := j.B) (i := v.heldTask) (a := v.attempt)
      have hr := hw.t hh
      have href : ∀ t ∈ (comB j.B v.heldTask v.attempt).2, RefOk (shapeF (F.jobs.set v.heldJob.toNat { j with B := (comB j.B v.heldTask v.attempt).1 })) ⟨v.heldJob, t⟩ := by
        intro t ht2
        have h3 := com_in ht2
        rw [hsh]
        obtain ⟨_, _, _, m, hm3, _⟩ := hr
        refine ⟨k2.1, k2.2, h3.1, m, hm3, ?_⟩
        unfold shapeF at hm3; rw [List.getElem?_map, hj] at hm3
        have := (Prod.mk.inj (Option.some.inj hm3)).2
        dsimp only at this ⊢; omega
      obtain ⟨g1, g2, g3⟩ := spill_cnt (x := x) (job := v.heldJob) hb (comB j.B v.heldTask v.attempt).2 hF1 (by simp only [List.length_set]; exact hx) q.q4 q.cap (by dsimp only; omega) href
      obtain ⟨_, s2, s3, _, _⟩ := spill_ok (x := x) (job := v.heldJob) (band := j.band) (comB j.B v.heldTask v.attempt).2 hF1 href
      have hlj := (List.getElem?_eq_some_iff.1 hj).1
      have hcnt : ∀ r, cnt F r + ((comB j.B v.heldTask v.attempt).2.map fun t => (⟨v.heldJob, t⟩ : Ref)).count r = if r.job = v.heldJob then (if stAt (comB j.B v.heldTask v.attempt).1.st r.task = 2 then 1 else 0) else (rdyJ F.jobs r).toNat := by
        intro r
        rw [q.c r, cmap]
        by_cases e1 : r.job = v.heldJob
        · rw [if_pos e1, if_pos e1, rdy_at (by omega) (by rw [e1]; exact hj), toNat_dec, if_pos hrun, com_eq c3]
          exact (com_two hW.ls hz.2.1).symm
        · rw [if_neg e1, if_neg e1, Nat.add_zero]
      have hH : ∀ F' : FS, F'.ws = F.ws.set x.toNat ⟨0, 0, 0, 0, 0, 0, (relA (F.ar.getD x.toNat default)).high⟩ → (∃ j', F'.jobs = F.jobs.set v.heldJob.toNat j' ∧ j'.added = true ∧ j'.B = (comB j.B v.heldTask v.attempt).1) → HI F' := by
        rintro F' hw' ⟨j', hj', ha', hB'⟩
        refine h.upd (x := x.toNat) hw' ?_ (fun k => by unfold Holds at k; dsimp only at k; omega) (fun _ => ⟨rfl, rfl, rfl, rfl, .inl rfl⟩)
        refine h.others hj hj' (fun _ => ha') ?_
        intro y u hy hu hhu hk hu0
        rw [hB']
        have hne : u.heldTask ≠ v.heldTask := by
          intro k
          have := hF.w u (List.mem_of_getElem? hu)
          exact h.d _ _ v u hv hu hy hh hhu ⟨by have := this.h; omega, k.symm⟩
        exact com_held hW.ls c3 hu0 hne
      split
      · rename_i hdone
        refine ⟨⟨?_, g2, g3⟩, hH _ s3 ⟨_, rfl, c2, rfl⟩⟩
        intro r
        show cnt (spillF _ x v.heldJob j.band (comB j.B v.heldTask v.attempt).2) r = (rdyJ (F.jobs.set v.heldJob.toNat _) r).toNat
        rw [g1 r, rdy_set k2.1 hlj]
        show cnt F r + _ = _
        rw [hcnt r]
        by_cases e1 : r.job = v.heldJob
        · rw [if_pos e1, if_pos e1, if_neg (done_none (com_wf hW) (by rw [com_deps, hd]; exact hdone) _)]; rfl
        · rw [if_neg e1, if_neg e1]
      · refine ⟨⟨?_, g2, g3⟩, hH _ s3 ⟨_, s2, c2, rfl⟩⟩
        intro r
        rw [g1 r, s2, rdy_set k2.1 hlj]
        show cnt F r + _ = _
        rw [hcnt r]
        by_cases e1 : r.job = v.heldJob
        · rw [if_pos e1, if_pos e1]
          dsimp only
          rw [toNat_dec, if_pos hrun]
        · rw [if_neg e1, if_neg e1]
theorem inv_drop {F : FS} {x ph : Int} {s : Stt} (q : QI F) (h : HI F) (hp : ph = 0 ∨ ph = 4) : QI (clearF F x ph s) ∧ HI (clearF F x ph s) := by
  refine ⟨⟨q.c, q.q4, q.cap⟩, h.upd (x := x.toNat) (v' := ⟨ph, 0, 0, 0, 0, 0, (arAt F x).high⟩) rfl h.same (fun k => by unfold Holds at k; dsimp only at k; omega) (fun _ => ⟨rfl, rfl, rfl, rfl, hp⟩)⟩
end Go.Proofs.YtimkhljglpookaaGreat
