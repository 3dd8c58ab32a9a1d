import Derived.Test.YtegmennaekipaaaFi
namespace Go.Proofs.Ytegmennaekipaaa
open Go Go.E
set_option linter.unusedVariables false
set_option linter.unusedSimpArgs false
set_option linter.unnecessarySimpa false
set_option maxRecDepth 100000
set_option maxHeartbeats 2000000
variable {W w : World} {H : Chunk} {F : List Chunk}

/-! ### arenas and rows -/
def taskAt (F : FS) (v : Wkr) : TaskV := (jobAt F v.heldJob).tasks.getD v.heldTask.toNat default
structure AOk (F : FS) (v : Wkr) (a : AS) : Prop where
  u : v.used = a.used
  h : v.high = a.high
  c : a.cap = F.cfg.arena
  b : 0 ≤ a.used ∧ a.used ≤ a.high ∧ a.high ≤ a.cap
  z : v.phase = 0 ∨ v.phase = 1 ∨ v.phase = 4 → a.used = 0 ∧ a.marks = []
  m : v.phase = 2 ∨ v.phase = 3 → a.marks = [0] ∧ a.used = (taskAt F v).scratch
  r1 : v.phase = 1 → v.row = 0
  r2 : v.phase = 2 → v.row < (taskAt F v).rows
  r3 : v.phase = 3 → v.row = (taskAt F v).rows
structure AI (F : FS) : Prop where
  a : ∀ (k : Nat) v a, F.ws[k]? = some v → F.ar[k]? = some a → AOk F v a
  t : ∀ j ∈ F.jobs, ∀ t ∈ j.tasks, 0 ≤ t.scratch ∧ t.scratch ≤ F.cfg.arena ∧ 1 ≤ t.rows ∧ t.rows ≤ 128 ∧ t.deps.length ≤ 4096
  n : 0 ≤ F.cfg.arena ∧ F.cfg.arena ≤ 1048576
def SameT (F G : FS) : Prop := G.cfg = F.cfg ∧ G.jobs.map (·.tasks) = F.jobs.map (·.tasks)
theorem SameT.trans {F G H : FS} (h : SameT F G) (k : SameT G H) : SameT F H := ⟨k.1.trans h.1, k.2.trans h.2⟩
theorem jobAt_tasks {F : FS} {k : Int} : (jobAt F k).tasks = (F.jobs.map (·.tasks)).getD k.toNat [] := by
  unfold jobAt
  rw [List.getD_eq_getElem?_getD, List.getD_eq_getElem?_getD, List.getElem?_map]
  cases F.jobs[k.toNat]? <;> rfl
theorem SameT.task {F G : FS} (h : SameT F G) (v : Wkr) : taskAt G v = taskAt F v := by unfold taskAt; rw [jobAt_tasks, jobAt_tasks, h.2]
theorem AOk.same {F G : FS} {v : Wkr} {a : AS} (h : AOk F v a) (hs : SameT F G) : AOk G v a :=
  ⟨h.u, h.h, h.c.trans (by rw [hs.1]), h.b, h.z, by rw [hs.task]; exact h.m, h.r1, by rw [hs.task]; exact h.r2, by rw [hs.task]; exact h.r3⟩
theorem map_mem {F G : FS} (h : SameT F G) {P : TaskV → Prop} (hp : ∀ j ∈ F.jobs, ∀ t ∈ j.tasks, P t) : ∀ j ∈ G.jobs, ∀ t ∈ j.tasks, P t := by
  intro j hj t ht
  have h1 : j.tasks ∈ G.jobs.map (·.tasks) := List.mem_map.2 ⟨j, hj, rfl⟩
  rw [h.2] at h1
  obtain ⟨j2, h2, h3⟩ := List.mem_map.1 h1
  exact hp j2 h2 t (by rw [h3]; exact ht)
theorem AI.same {F G : FS} (h : AI F) (hs : SameT F G) (hw : G.ws = F.ws) (ha : G.ar = F.ar) : AI G :=
  ⟨fun k v a hv h2 => (h.a k v a (by rw [← hw]; exact hv) (by rw [← ha]; exact h2)).same hs, by rw [hs.1]; exact map_mem hs h.t, by rw [hs.1]; exact h.n⟩
theorem AI.upd {F G : FS} {x : Nat} {v' : Wkr} {a' : AS} (h : AI F) (hl : F.ar.length = F.ws.length) (hs : SameT F G) (hw : G.ws = F.ws.set x v') (ha : G.ar = F.ar.set x a') (hv : ∀ v a, F.ws[x]? = some v → F.ar[x]? = some a → AOk F v a → AOk F v' a') : AI G := by
  refine ⟨?_, by rw [hs.1]; exact map_mem hs h.t, by rw [hs.1]; exact h.n⟩
  intro k v a hk ha2
  rw [hw] at hk; rw [ha] at ha2
  rcases set_at' hk with ⟨rfl, rfl⟩ | ⟨e, hk⟩
  · have hlt : x < F.ws.length := by have := (List.getElem?_eq_some_iff.1 hk).1; simpa using this
    rcases set_at' ha2 with ⟨_, rfl⟩ | ⟨e2, _⟩
    · exact (hv _ _ (List.getElem?_eq_getElem hlt) (List.getElem?_eq_getElem (by omega)) (h.a x _ _ (List.getElem?_eq_getElem hlt) (List.getElem?_eq_getElem (by omega)))).same hs
    · exact absurd rfl e2
  · rcases set_at' ha2 with ⟨e2, _⟩ | ⟨_, ha2⟩
    · exact absurd e2 e
    · exact (h.a k v a hk ha2).same hs
theorem tsk_set {jobs : List JS} {k : Nat} {j' : JS} (h : ∀ j, jobs[k]? = some j → j'.tasks = j.tasks) : (jobs.set k j').map (·.tasks) = jobs.map (·.tasks) := by
  rw [List.map_set]
  cases hj : jobs[k]? with
  | none => rw [List.set_eq_of_length_le]; rw [List.length_map]; exact List.getElem?_eq_none_iff.1 hj
  | some j => exact set_same (by rw [List.getElem?_map, hj, h j hj]; rfl)
theorem tsk_jobAt {F : FS} {k : Int} {j : JS} (h : F.jobs[k.toNat]? = some j) : (jobAt F k).tasks = j.tasks := by unfold jobAt; rw [getD_some h]
theorem take_T {F : FS} {x : Int} {r : Ref} : SameT F (takeF F x r) := ⟨rfl, tsk_set fun j hj => by dsimp only; exact tsk_jobAt hj⟩
theorem spill_T {x job band : Int} : ∀ (l : List Int) {F : FS}, SameT F (spillF F x job band l) ∧ (spillF F x job band l).ws = F.ws ∧ (spillF F x job band l).ar = F.ar ∧ (spillF F x job band l).jobs = F.jobs
  | [], _ => ⟨⟨rfl, rfl⟩, rfl, rfl, rfl⟩
  | t :: l, F => by
    have h : SameT F (spill1 F x ⟨job, t⟩ band) ∧ (spill1 F x ⟨job, t⟩ band).ws = F.ws ∧ (spill1 F x ⟨job, t⟩ band).ar = F.ar ∧ (spill1 F x ⟨job, t⟩ band).jobs = F.jobs := by unfold spill1; split <;> exact ⟨⟨rfl, rfl⟩, rfl, rfl, rfl⟩
    have ih := spill_T (x := x) (job := job) (band := band) l (F := spill1 F x ⟨job, t⟩ band)
    exact ⟨h.1.trans ih.1, ih.2.1.trans h.2.1, ih.2.2.1.trans h.2.2.1, ih.2.2.2.trans h.2.2.2⟩
theorem ai_take {F F1 : FS} {x : Int} {r : Ref} (h : AI F) (hl : F.ar.length = F.ws.length) (hT : SameT F F1) (hw : F1.ws = F.ws) (ha : F1.ar = F.ar) (hv : ∀ v, F.ws[x.toNat]? = some v → v.phase = 0 ∨ v.phase = 4) : AI (takeF F1 x r) := by
  by_cases hx : x.toNat < F.ws.length
  · have hxa : F.ar[x.toNat]? = some (F.ar.getD x.toNat default) := by rw [List.getD_eq_getElem?_getD, List.getElem?_eq_getElem (by omega)]; rfl
    refine h.upd (G := takeF F1 x r) (x := x.toNat) (v' := ⟨1, r.job, r.task, (startB (jobAt F1 r.job).B r.task).2.1, 0, 0, (F1.ar.getD x.toNat default).high⟩) (a' := F.ar.getD x.toNat default) hl (hT.trans take_T) (by unfold takeF; rw [hw]) (by rw [set_same hxa]; exact ha) ?_
    intro v a h1 h2 h3
    rw [hxa] at h2; obtain rfl := Option.some.inj h2
    have hz := h3.z (by have := hv v h1; omega)
    refine ⟨hz.1.symm, by rw [ha], h3.c, h3.b, fun _ => hz, fun k => by dsimp only at k; omega, fun _ => rfl, fun k => by dsimp only at k; omega, fun k => by dsimp only at k; omega⟩
  · have h1 : takeF F1 x r = { takeF F1 x r with ws := F.ws } := by unfold takeF; rw [hw, List.set_eq_of_length_le (by omega)]
    have h2 : SameT F1 (takeF F1 x r) := take_T
    rw [h1]; exact h.same (hT.trans ⟨h2.1, h2.2⟩) rfl ha
theorem align0 : alignI 0 16 = 0 := by decide
theorem ai_micro {F : FS} {K x : Int} {v : Wkr} {j : JS} (hF : FW F K) (h : AI F) (hx : 0 ≤ x ∧ x < ((F.ws.length : Nat) : Int)) (hv : F.ws[x.toNat]? = some v) (hh : Holds v) (hj : F.jobs[v.heldJob.toNat]? = some j) :
    AI (microF F x).1 := by
  have hal := hF.al
  have hxa : F.ar[x.toNat]? = some (F.ar.getD x.toNat default) := by rw [List.getD_eq_getElem?_getD, List.getElem?_eq_getElem (by omega)]; rfl
  have hA := h.a _ _ _ hv hxa
  have hr := hF.w v (List.mem_of_getElem? hv)
  have hro := hr.t hh
  obtain ⟨j2, hj2, ha, hB, hd, hb1, hb2, hn, ht⟩ := hF.job hro
  rw [show (⟨v.heldJob, v.heldTask⟩ : Ref).job = v.heldJob from rfl, hj] at hj2; obtain rfl := Option.some.inj hj2
  have e : jobAt F v.heldJob = j := getD_some hj
  have hto : taskAt F v = j.tasks.getD v.heldTask.toNat default := by unfold taskAt; rw [e]
  have htm : taskAt F v ∈ j.tasks := by
    rw [hto]
    have : v.heldTask.toNat < j.tasks.length := by have := hro.2.2.1; dsimp only at this ht; omega
    rw [List.getD_eq_getElem?_getD, List.getElem?_eq_getElem this]; exact List.getElem_mem this
  have htk := h.t j (List.mem_of_getElem? hj) _ htm
  have hn2 := h.n
  unfold microF
  simp only [getD_some hv, e, ← hto]
  split
  · rename_i p1
    obtain ⟨z1, z2⟩ := hA.z (.inr (.inl p1))
    have hmk : markA (F.ar.getD x.toNat default) = { F.ar.getD x.toNat default with marks := [0] } := by
      have hms : (F.ar.getD x.toNat default).marks ++ [(F.ar.getD x.toNat default).used] = [0] := by rw [z2, z1]; rfl
      unfold markA; rw [if_neg (by rw [z2]; decide), hms]
    refine h.upd (x := x.toNat) hal ⟨rfl, rfl⟩ rfl rfl ?_
    intro v0 a0 h1 h2 h3
    rw [hxa] at h2; obtain rfl := Option.some.inj h2
    rw [hv] at h1; obtain rfl := Option.some.inj h1
    have hb := hA.b
    have hc := hA.c
    rw [hmk]
    split
    · rename_i hs
      have hac : allocC { F.ar.getD x.toNat default with marks := [0] } (taskAt F v).scratch 16 = 0 := by
        unfold allocC; dsimp only; rw [z1, align0, if_neg (by omega), if_pos (by omega)]
      have hal2 : allocA { F.ar.getD x.toNat default with marks := [0] } (taskAt F v).scratch 16 = { F.ar.getD x.toNat default with marks := [0], used := 0 + (taskAt F v).scratch, high := max (F.ar.getD x.toNat default).high (0 + (taskAt F v).scratch) } := by
        unfold allocA; rw [if_pos hac]; dsimp only; rw [z1, align0]
      rw [hal2]
      refine ⟨rfl, rfl, hc, by dsimp only; omega, fun k => by dsimp only at k; omega, fun _ => ⟨rfl, ?_⟩, fun k => by dsimp only at k; omega, fun _ => ?_, fun k => by dsimp only at k; omega⟩
      · show 0 + (taskAt F v).scratch = (taskAt F v).scratch; omega
      · show v.row < (taskAt F v).rows; rw [hA.r1 p1]; omega
    · rename_i hs
      refine ⟨rfl, rfl, hc, hb, fun k => by dsimp only at k; omega, fun _ => ⟨rfl, ?_⟩, fun k => by dsimp only at k; omega, fun _ => ?_, fun k => by dsimp only at k; omega⟩
      · show (F.ar.getD x.toNat default).used = (taskAt F v).scratch; omega
      · show v.row < (taskAt F v).rows; rw [hA.r1 p1]; omega
  · split
    · rename_i p2
      have hm := hA.m (.inl p2)
      have hrow := hA.r2 p2
      refine h.upd (x := x.toNat) (a' := F.ar.getD x.toNat default) hal ⟨rfl, rfl⟩ rfl (by rw [set_same hxa]) ?_
      intro v0 a0 h1 h2 h3
      rw [hxa] at h2; obtain rfl := Option.some.inj h2
      refine ⟨hA.u, hA.h, hA.c, hA.b, fun k => ?_, fun _ => hm, fun k => ?_, fun k => ?_, fun k => ?_⟩
      · dsimp only at k; split at k <;> omega
      · dsimp only at k; split at k <;> omega
      · show v.row + 1 < (taskAt F v).rows
        dsimp only at k; split at k <;> omega
      · show v.row + 1 = (taskAt F v).rows
        dsimp only at k; split at k <;> omega
    · have p3 : v.phase = 3 := by unfold Holds at hh; omega
      have hm := hA.m (.inr p3)
      have hrel : relA (F.ar.getD x.toNat default) = { F.ar.getD x.toNat default with used := 0, marks := [] } := by
        unfold relA; rw [hm.1]; rfl
      have hup : ∀ G : FS, SameT F G → G.ws = F.ws.set x.toNat ⟨0, 0, 0, 0, 0, 0, (relA (F.ar.getD x.toNat default)).high⟩ → G.ar = F.ar.set x.toNat (relA (F.ar.getD x.toNat default)) → AI G := by
        intro G hT hw ha2
        refine h.upd (x := x.toNat) hal hT hw ha2 ?_
        intro v0 a0 h1 h2 h3
        have hb := hA.b
        rw [hrel]
        exact ⟨rfl, rfl, hA.c, by dsimp only; omega, fun _ => ⟨rfl, rfl⟩, fun k => by dsimp only at k; omega, fun k => by dsimp only at k; omega, fun k => by dsimp only at k; omega, fun k => by dsimp only at k; omega⟩
      have hs := spill_T (x := x) (job := v.heldJob) (band := j.band) (comB j.B v.heldTask v.attempt).2 (F := { F with jobs := F.jobs.set v.heldJob.toNat { j with B := (comB j.B v.heldTask v.attempt).1 }, ar := F.ar.set x.toNat (relA (F.ar.getD x.toNat default)), ws := F.ws.set x.toNat ⟨0, 0, 0, 0, 0, 0, (relA (F.ar.getD x.toNat default)).high⟩, st := { F.st with commits := F.st.commits + 1 } })
      split
      · refine hup _ ⟨hs.1.1, tsk_set fun j3 h3 => ?_⟩ hs.2.1 hs.2.2.1
        rw [hj] at h3; rw [← Option.some.inj h3]
      · refine hup _ ⟨hs.1.1, ?_⟩ hs.2.1 hs.2.2.1
        rw [hs.1.2]
        exact tsk_set fun j3 h3 => by rw [hj] at h3; rw [← Option.some.inj h3]
theorem ai_clear {F : FS} {K x ph : Int} {s : Stt} (hF : FW F K) (h : AI F) (hx : 0 ≤ x ∧ x < ((F.ws.length : Nat) : Int)) (hp : ph = 0 ∨ ph = 4) : AI (clearF F x ph s) := by
  refine h.upd (x := x.toNat) hF.al ⟨rfl, rfl⟩ rfl rfl ?_
  intro v a h1 h2 h3
  have e : arAt F x = a := getD_some h2
  rw [e]
  have hb := h3.b
  exact ⟨rfl, rfl, h3.c, by dsimp only [resetA]; omega, fun _ => ⟨rfl, rfl⟩, fun k => by dsimp only at k; omega, fun k => by dsimp only at k; omega, fun k => by dsimp only at k; omega, fun k => by dsimp only at k; omega⟩
theorem ai_idle {F : FS} {K x : Int} (hF : FW F K) (h : AI F) (hx : 0 ≤ x ∧ x < ((F.ws.length : Nat) : Int)) (hp : (wAt F x).phase = 4) : AI (idleF F x 0) := by
  have hal := hF.al
  have hxa : F.ar[x.toNat]? = some (F.ar.getD x.toNat default) := by rw [List.getD_eq_getElem?_getD, List.getElem?_eq_getElem (by omega)]; rfl
  refine h.upd (x := x.toNat) (a' := F.ar.getD x.toNat default) hal ⟨rfl, rfl⟩ rfl (by rw [set_same hxa]; rfl) ?_
  intro v a h1 h2 h3
  rw [hxa] at h2; obtain rfl := Option.some.inj h2
  have e : wAt F x = v := getD_some h1
  rw [e] at hp
  have hz := h3.z (.inr (.inr hp))
  exact ⟨hz.1.symm, rfl, h3.c, h3.b, fun _ => hz, fun k => by dsimp only at k; omega, fun k => by dsimp only at k; omega, fun k => by dsimp only at k; omega, fun k => by dsimp only at k; omega⟩
theorem ret_T {F : FS} {v : Wkr} : SameT F (retJ F v) ∧ (retJ F v).ws = F.ws ∧ (retJ F v).ar = F.ar := by
  unfold retJ
  split
  · exact ⟨⟨rfl, tsk_set fun j hj => by dsimp only; exact tsk_jobAt hj⟩, rfl, rfl⟩
  · exact ⟨⟨rfl, rfl⟩, rfl, rfl⟩
theorem ai_crash {F : FS} {K x : Int} {v : Wkr} (hF : FW F K) (h : AI F) (hx : 0 ≤ x ∧ x < ((F.ws.length : Nat) : Int)) : AI (crashW (retJ F v) x) := by
  obtain ⟨hT, hw, ha⟩ := ret_T (F := F) (v := v)
  have e : arAt (retJ F v) x = arAt F x := by unfold arAt; rw [ha]
  refine h.upd (x := x.toNat) (v' := ⟨4, 0, 0, 0, 0, 0, (arAt F x).high⟩) (a' := resetA (arAt F x)) hF.al (hT.trans ⟨rfl, rfl⟩) ?_ ?_ ?_
  · show (retJ F v).ws.set x.toNat ⟨4, 0, 0, 0, 0, 0, (arAt (retJ F v) x).high⟩ = _; rw [hw, e]
  · show (retJ F v).ar.set x.toNat (resetA (arAt (retJ F v) x)) = _; rw [ha, e]
  intro v a h1 h2 h3
  have e : arAt F x = a := getD_some h2
  rw [e]
  have hb := h3.b
  exact ⟨rfl, rfl, h3.c, by dsimp only [resetA]; omega, fun _ => ⟨rfl, rfl⟩, fun k => by dsimp only at k; omega, fun k => by dsimp only at k; omega, fun k => by dsimp only at k; omega, fun k => by dsimp only at k; omega⟩
theorem ai_cancel {F : FS} {k : Int} (h : AI F) : AI (cancelW F k) :=
  h.same ⟨rfl, tsk_set fun j hj => by dsimp only; exact tsk_jobAt hj⟩ rfl rfl
theorem ai_add {F : FS} {K x bd : Int} {l : List Task} {j : JS} (hF : FW F K) (hH : HI F) (h : AI F) (hx : 0 ≤ x) (hj : F.jobs[x.toNat]? = some j) (ha : j.added = false) (hv : validC l = 0) (hs : ∀ z ∈ l, z.scratch ≤ F.cfg.arena) : AI (addF F x l bd) := by
  refine ⟨?_, ?_, h.n⟩
  · intro k v a h1 h2
    have h3 : AOk F v a := h.a k v a h1 h2
    have hk : Holds v → taskAt (addF F x l bd) v = taskAt F v := by
      intro hh
      obtain ⟨j2, g1, g2, _⟩ := hH.h k v h1 hh
      unfold taskAt jobAt addF
      dsimp only
      rw [List.getD_eq_getElem?_getD, List.getD_eq_getElem?_getD, List.getElem?_set, if_neg]
      · rw [← List.getD_eq_getElem?_getD, ← List.getD_eq_getElem?_getD]
      · intro e; rw [e, g1] at hj; rw [Option.some.inj hj, ha] at g2; cases g2
    exact ⟨h3.u, h3.h, h3.c, h3.b, h3.z, fun k => by rw [hk (by unfold Holds; omega)]; exact h3.m k, h3.r1, fun k => by rw [hk (by unfold Holds; omega)]; exact h3.r2 k, fun k => by rw [hk (by unfold Holds; omega)]; exact h3.r3 k⟩
  · refine mem_set' h.t ?_
    intro t ht
    obtain ⟨z, hz, rfl⟩ := List.mem_map.1 ht
    obtain ⟨i, hi⟩ := List.getElem?_of_mem hz
    have h1 := tasksOK_at (validC_zero hv).2.2 hi
    have h1' := h1
    unfold taskOK at h1
    have h2 := of_decide_eq_true ((Bool.and_eq_true _ _).mp h1).1
    have h3 := asc_len (by omega) (taskOK_asc h1')
    have h4 := (validC_zero hv).2.1
    have h5 := (List.getElem?_eq_some_iff.1 hi).1
    exact ⟨h2.2, hs z hz, h2.1.1, h2.1.2, by show z.deps.l.length ≤ 4096; omega⟩
theorem ai_new {c : Cfg} (hv : validCfg c = 0) : AI (newF c) := by
  have h := validCfg_zero hv
  refine ⟨?_, ?_, h.2.2.2.1⟩
  · intro k v a h1 h2
    obtain rfl := rep_at h1
    obtain rfl := rep_at h2
    exact ⟨rfl, rfl, rfl, ⟨Int.le_refl 0, Int.le_refl 0, h.2.2.2.1.1⟩, fun _ => ⟨rfl, rfl⟩, fun k => by dsimp only at k; omega, fun k => by dsimp only at k; omega, fun k => by dsimp only at k; omega, fun k => by dsimp only at k; omega⟩
  · intro j hj t ht
    obtain rfl := List.eq_of_mem_replicate hj
    cases ht
/-! ### all of it -/
structure FI (F : FS) (K : Int) : Prop where
  fw : FW F K
  st : StOk F.st K
  q : QI F
  h : HI F
  a : AI F
theorem FI.mono {F : FS} {K L : Int} (h : FI F K) (hk : K ≤ L) (hL : L ≤ 4096) : FI F L := ⟨h.fw.mono hk hL, h.st.mono hk, h.q, h.h, h.a⟩
theorem FI.new {c : Cfg} (hv : validCfg c = 0) : FI (newF c) 0 := by
  have h1 := newF_ok hv
  have h2 := inv_new (c := c) (by have := validCfg_zero hv; omega)
  exact ⟨h1.1, h1.2, h2.1, h2.2, ai_new hv⟩
theorem FI.idle {F : FS} {K x : Int} {v : Wkr} (h : FI F K) (hv : F.ws[x.toNat]? = some v) (hn : ¬ Holds v) : v.phase = 0 ∨ v.phase = 4 := (h.h.z _ v hv hn).2.2.2.2
theorem FI.add {F : FS} {K x bd : Int} {l : List Task} {j : JS} (h : FI F K) (hx : 0 ≤ x ∧ x < 64) (hj : F.jobs[x.toNat]? = some j) (ha : j.added = false) (hb : 0 ≤ bd ∧ bd < 4) (hv : validC l = 0) (hs : ∀ z ∈ l, z.scratch ≤ F.cfg.arena) (htk : ((l.length : Nat) : Int) ≤ F.cfg.tasks - loadL F.jobs) : FI (addF F x l bd) K := by
  have h1 := add_ok (l := l) h.fw hx (fun j2 h2 => by rw [hj] at h2; rw [← Option.some.inj h2]; exact ha) hb hv
  have h2 := inv_add h.fw h.q h.h htk hx.1 hb hj ha
  exact ⟨h1, h.st, h2.1, h2.2, ai_add h.fw h.h h.a hx.1 hj ha hv hs⟩
theorem FI.acq {F F' : FS} {K x c : Int} {ev : Evt} (h : FI F K) (hx : 0 ≤ x ∧ x < ((F.ws.length : Nat) : Int)) (hn : ¬ Holds (wAt F x)) (he : acqF F x c = some (F', ev)) : QI F' ∧ HI F' ∧ AI F' := by
  have hv := h.fw.wmem hx
  have h1 := inv_acq h.fw h.q h.h hx (fun v k => by rw [hv] at k; rw [← Option.some.inj k]; exact hn) he
  refine ⟨h1.1, h1.2.1, ?_⟩
  have hid : ∀ v, F.ws[x.toNat]? = some v → v.phase = 0 ∨ v.phase = 4 := fun v k => h.idle k (by rw [hv] at k; rw [← Option.some.inj k]; exact hn)
  unfold acqF at he
  split at he
  · obtain ⟨rfl, _⟩ := Prod.mk.inj (Option.some.inj he)
    exact ai_take (F1 := popF F x _) h.a h.fw.al ⟨rfl, rfl⟩ rfl rfl hid
  · split at he
    · rename_i r bs hq
      obtain ⟨rfl, _⟩ := Prod.mk.inj (Option.some.inj he)
      exact ai_take (F1 := { F with q := { F.q with bs := bs } }) h.a h.fw.al ⟨rfl, rfl⟩ rfl rfl hid
    · unfold stealF at he
      split at he
      · cases he
      · split at he
        · cases he
        · rename_i i hi _ r hr
          obtain ⟨rfl, _⟩ := Prod.mk.inj (Option.some.inj he)
          exact (ai_take (F1 := popF F (chF F c i) (dqAt F (chF F c i)).l.tail) (r := r) h.a h.fw.al ⟨rfl, rfl⟩ rfl rfl hid).same ⟨rfl, rfl⟩ rfl rfl
theorem FI.micro {F : FS} {K x : Int} (h : FI F K) (hK : K + 1 ≤ 4096) (hx : 0 ≤ x ∧ x < ((F.ws.length : Nat) : Int)) (hb : busyW F (wAt F x) = true) : QI (microF F x).1 ∧ HI (microF F x).1 ∧ AI (microF F x).1 := by
  unfold busyW at hb
  obtain ⟨h1, h2⟩ := (Bool.and_eq_true _ _).mp hb
  have hh : Holds (wAt F x) := (of_decide_eq_true h1 : _ ∨ _ ∨ _)
  have hv := h.fw.wmem hx
  obtain ⟨j, hj, _, _⟩ := h.h.h _ _ hv hh
  have hrun : j.running = true := by unfold jobAt at h2; rw [getD_some hj] at h2; exact h2
  obtain ⟨g1, g2⟩ := inv_micro h.fw hK h.q h.h hx hv hh hj hrun
  exact ⟨g1, g2, ai_micro h.fw h.a hx hv hh hj⟩
theorem FI.help {F : FS} {K : Int} (h : FI F K) : QI (helpF F) ∧ HI (helpF F) ∧ AI (helpF F) :=
  ⟨⟨h.q.c, h.q.q4, h.q.cap, h.q.ld⟩, ⟨h.h.h, h.h.d, h.h.z⟩, h.a.same ⟨rfl, rfl⟩ rfl rfl⟩
theorem FI.step {F : FS} {K x c : Int} (h : FI F K) (hK : K + 1 ≤ 4096) : FI (stepF F x c).1 (K + 1) := by
  obtain ⟨k1, k2, _⟩ := step_ok (x := x) (c := c) h.fw h.st hK
  have h3 : QI (stepF F x c).1 ∧ HI (stepF F x c).1 ∧ AI (stepF F x c).1 := by
    unfold stepF
    split
    · exact ⟨h.q, h.h, h.a⟩
    · rename_i hx
      have hx := Classical.not_not.1 hx
      split
      · exact ⟨h.q, h.h, h.a⟩
      · split
        · rename_i hh
          split
          · rename_i hr
            exact h.micro hK hx (by unfold busyW; rw [hr, decide_eq_true hh]; rfl)
          · have g := inv_drop (F := F) (x := x) (s := { F.st with drops := F.st.drops + 1 }) h.q h.h (.inl (rfl : (0 : Int) = 0))
            exact ⟨g.1, g.2, ai_clear h.fw h.a hx (.inl rfl)⟩
        · rename_i hh
          unfold restF
          split
          · rename_i q hq
            exact h.acq hx hh (ev := q.2) hq
          · split
            · rename_i i hi
              have h2 := (first_some hi).2.2
              unfold canHelp at h2
              have h4 := ((Bool.and_eq_true _ _).mp h2).2
              have hb := chF_bd (F := F) (c := c) (i := i) h.fw.n.1
              have hF : FI (helpF F) (K + 1) := by
                have := h.help
                refine ⟨(h.fw.mono (by omega) hK).ss, ?_, this.1, this.2.1, this.2.2⟩
                obtain ⟨_, _, _, _, _, _, _⟩ := h.st
                constructor <;> (simp only [helpF]; omega)
              have hF2 : FI (helpF F) K ∨ True := .inr trivial
              have hw : FW (helpF F) K := h.fw.ss
              unfold busyW at h4
              obtain ⟨a1, a2⟩ := (Bool.and_eq_true _ _).mp h4
              have hh2 : Holds (wAt F (chF F c i)) := (of_decide_eq_true a1 : _ ∨ _ ∨ _)
              have hv := h.fw.wmem hb
              obtain ⟨j, hj, _, _⟩ := h.h.h _ _ hv hh2
              have hrun : j.running = true := by unfold jobAt at a2; rw [getD_some hj] at a2; exact a2
              obtain ⟨g1, g2⟩ := inv_micro (F := helpF F) hw hK hF.q hF.h hb hv hh2 hj hrun
              exact ⟨g1, g2, ai_micro (F := helpF F) hw hF.a hb hv hh2 hj⟩
            · exact ⟨h.q, h.h, h.a⟩
  exact ⟨k1, k2, h3.1, h3.2.1, h3.2.2⟩
theorem FI.crash {F : FS} {K x : Int} (h : FI F K) (hK : K + 1 ≤ 4096) : FI (crashF F x).1 (K + 1) := by
  obtain ⟨k1, k2, _⟩ := crash_ok (x := x) h.fw h.st hK
  have h3 : QI (crashF F x).1 ∧ HI (crashF F x).1 ∧ AI (crashF F x).1 := by
    unfold crashF
    split
    · exact ⟨h.q, h.h, h.a⟩
    · rename_i hx
      have hx := Classical.not_not.1 hx
      split
      · exact ⟨h.q, h.h, h.a⟩
      · have g := inv_crash h.fw h.q h.h hx (h.fw.wmem hx)
        exact ⟨g.1, g.2, ai_crash h.fw h.a hx⟩
  exact ⟨k1, k2, h3.1, h3.2.1, h3.2.2⟩
theorem FI.restart {F : FS} {K x : Int} (h : FI F K) (hK : K + 1 ≤ 4096) : FI (restartF F x).1 (K + 1) := by
  obtain ⟨k1, k2, _⟩ := restart_ok (x := x) h.fw h.st hK
  have h3 : QI (restartF F x).1 ∧ HI (restartF F x).1 ∧ AI (restartF F x).1 := by
    unfold restartF
    split
    · exact ⟨h.q, h.h, h.a⟩
    · rename_i hx
      have hx := Classical.not_not.1 hx
      split
      · rename_i h4
        have g := inv_idle (F := F) (x := x) h.q h.h
        exact ⟨g.1, g.2, ai_idle h.fw h.a hx h4⟩
      · exact ⟨h.q, h.h, h.a⟩
  exact ⟨k1, k2, h3.1, h3.2.1, h3.2.2⟩
theorem FI.cancel {F : FS} {K k : Int} (h : FI F K) (hK : K + 1 ≤ 4096) : FI (cancelF F k).1 (K + 1) := by
  obtain ⟨k1, k2, _⟩ := cancel_ok (k := k) h.fw h.st hK
  have h3 : QI (cancelF F k).1 ∧ HI (cancelF F k).1 ∧ AI (cancelF F k).1 := by
    unfold cancelF
    split
    · exact ⟨h.q, h.h, h.a⟩
    · rename_i hk
      split
      · exact ⟨h.q, h.h, h.a⟩
      · have hj : F.jobs[k.toNat]? = some (jobAt F k) := by
          unfold jobAt
          have h1 : k.toNat < F.jobs.length := by rw [h.fw.jl]; omega
          rw [List.getD_eq_getElem?_getD, List.getElem?_eq_getElem h1]; rfl
        have g := inv_cancel (F := F) (k := k) h.q h.h (by omega) hj
        exact ⟨g.1, g.2, ai_cancel h.a⟩
  exact ⟨k1, k2, h3.1, h3.2.1, h3.2.2⟩
/-- A commit resets the arena; what a worker holds was not finished. -/
theorem FI.rel {F : FS} {K x : Int} (h : FI F K) (hx : 0 ≤ x ∧ x < ((F.ws.length : Nat) : Int)) {v : Wkr} {a : AS} (hv : F.ws[x.toNat]? = some v) (ha : F.ar[x.toNat]? = some a) (hp : v.phase = 3) : relA a = resetA a := by
  have := (h.a.a _ _ _ hv ha).m (.inr hp)
  unfold relA resetA; rw [this.1]; rfl
theorem held_lt {B : BS} {K i a : Int} (hW : BWf B K) (h : heldC B i a = 0) : doneOf B < ((B.deps.length : Nat) : Int) := by
  have hz := heldC_zero h
  have h1 : doneOf B ≤ ((B.deps.length : Nat) : Int) := by
    unfold doneOf
    have := List.length_filter_le (fun x => decide (x = 4)) B.st
    rw [hW.ls] at this; omega
  by_cases e : doneOf B = ((B.deps.length : Nat) : Int)
  · exfalso
    unfold doneOf at e
    have h2 : (B.st.filter fun x => decide (x = 4)).length = B.st.length := by rw [hW.ls]; omega
    have h3 := filter_allX h2
    have hi := stAt_in hz.2.1 (by decide)
    rw [stAt_nat _ hi.1] at hz
    have := h3 _ (getD_mem (s := B.st) (q := i.toNat) (by omega)); omega
  · omega
end Go.Proofs.Ytegmennaekipaaa
