import Derived.Test.YtimkhljglpookaaGreatFm2
namespace Go.Proofs.YtimkhljglpookaaGreat
open Go Go.E
set_option linter.unusedVariables false
set_option linter.unusedSimpArgs false
set_option linter.unnecessarySimpa false
set_option maxRecDepth 100000
set_option maxHeartbeats 2000000
variable {W w : World} {H : Chunk} {F : List Chunk}

/-! ### what a farm's calls do, and what stays so -/
def firstI (p : Nat → Bool) : Nat → Nat → Option Nat
  | 0, _ => none
  | n + 1, i => if p i then some i else firstI p n (i + 1)
theorem first_hit {p : Nat → Bool} {n i : Nat} (h : i < n) (hp : p i = true) : firstI p (n - i) i = some i := by
  obtain ⟨m, hm⟩ : ∃ m, n - i = m + 1 := ⟨n - i - 1, by omega⟩
  rw [hm]; unfold firstI; rw [if_pos hp]
theorem first_skip {p : Nat → Bool} {n i : Nat} (h : i < n) (hp : p i = false) : firstI p (n - i) i = firstI p (n - (i + 1)) (i + 1) := by
  obtain ⟨m, hm⟩ : ∃ m, n - i = m + 1 := ⟨n - i - 1, by omega⟩
  have h2 : n - (i + 1) = m := by omega
  rw [hm, h2, firstI, if_neg (by simp [hp])]
theorem first_end {p : Nat → Bool} {n i : Nat} (h : n ≤ i) : firstI p (n - i) i = none := by
  have h2 : n - i = 0 := by omega
  rw [h2]; rfl
def dqAt (F : FS) (x : Int) : DS := F.dq.getD x.toNat default
def chF (F : FS) (c : Int) (i : Nat) : Int := choiceI ((F.ws.length : Nat) : Int) c ((i : Nat) : Int)
def canSteal (F : FS) (c : Int) (i : Nat) : Bool := !(dqAt F (chF F c i)).l.isEmpty
def popF (F : FS) (x : Int) (l : List Ref) : FS := { F with dq := F.dq.set x.toNat { dqAt F x with l := l } }
def stealE (F : FS) (x v : Int) (r : Ref) : FS × Evt :=
  let F1 := takeF (popF F v (dqAt F v).l.tail) x r
  ({ F1 with st := { F1.st with steals := F1.st.steals + 1 } }, ⟨5, x, v, 0, r.job, r.task, 0⟩)
def stealF (F : FS) (x c : Int) : Option (FS × Evt) :=
  match firstI (canSteal F c) F.ws.length 0 with
  | none => none
  | some i => match (dqAt F (chF F c i)).l.head? with
    | none => none
    | some r => some (stealE F x (chF F c i) r)
def acqF (F : FS) (x c : Int) : Option (FS × Evt) :=
  match (dqAt F x).l.getLast? with
  | some r => some (takeF (popF F x (dqAt F x).l.dropLast) x r, ⟨3, x, 0, 0, r.job, r.task, 0⟩)
  | none => match popB F.q.bs with
    | some (r, bs) => some (takeF { F with q := { F.q with bs := bs } } x r, ⟨4, x, 0, 0, r.job, r.task, 0⟩)
    | none => stealF F x c
theorem acq_own {F : FS} {x c : Int} {d : DS} {r : Ref} (hd : F.dq[x.toNat]? = some d) (hr : d.l.getLast? = some r) :
    acqF F x c = some (takeF { F with dq := F.dq.set x.toNat { d with l := d.l.dropLast } } x r, ⟨3, x, 0, 0, r.job, r.task, 0⟩) := by
  unfold acqF popF dqAt; simp only [getD_some hd, hr]
theorem acq_inj {F : FS} {x c : Int} {d : DS} {r : Ref} {bs : List (List Ref)} (hd : F.dq[x.toNat]? = some d) (h0 : d.l = []) (hq : popB F.q.bs = some (r, bs)) :
    acqF F x c = some (takeF { F with q := { F.q with bs := bs } } x r, ⟨4, x, 0, 0, r.job, r.task, 0⟩) := by
  unfold acqF dqAt; simp only [getD_some hd, h0, List.getLast?_nil, hq]
theorem acq_rest {F : FS} {x c : Int} {d : DS} (hd : F.dq[x.toNat]? = some d) (h0 : d.l = []) (hq : popB F.q.bs = none) : acqF F x c = stealF F x c := by
  unfold acqF dqAt; simp only [getD_some hd, h0, List.getLast?_nil, hq]
theorem steal_at {F : FS} {x c : Int} {i : Nat} {d : DS} {r : Ref} (hi : i < F.ws.length) (hf : firstI (canSteal F c) F.ws.length 0 = firstI (canSteal F c) (F.ws.length - i) i) (hd : F.dq[(chF F c i).toNat]? = some d) (hr : d.l.head? = some r) :
    stealF F x c = some ({ takeF { F with dq := F.dq.set (chF F c i).toNat { d with l := d.l.tail } } x r with st := { (takeF { F with dq := F.dq.set (chF F c i).toNat { d with l := d.l.tail } } x r).st with steals := (takeF { F with dq := F.dq.set (chF F c i).toNat { d with l := d.l.tail } } x r).st.steals + 1 } }, ⟨5, x, chF F c i, 0, r.job, r.task, 0⟩) := by
  have h1 : canSteal F c i = true := by unfold canSteal dqAt; rw [getD_some hd]; cases h : d.l with | nil => rw [h] at hr; cases hr | cons y l => rfl
  have e : dqAt F (chF F c i) = d := getD_some hd
  unfold stealF; rw [hf, first_hit hi h1]; simp only [e, hr, stealE, popF]
theorem steal_skip {F : FS} {c : Int} {i : Nat} {d : DS} (hi : i < F.ws.length) (hf : firstI (canSteal F c) F.ws.length 0 = firstI (canSteal F c) (F.ws.length - i) i) (hd : F.dq[(chF F c i).toNat]? = some d) (h0 : d.l = []) :
    firstI (canSteal F c) F.ws.length 0 = firstI (canSteal F c) (F.ws.length - (i + 1)) (i + 1) := by
  rw [hf]; apply first_skip hi; unfold canSteal dqAt; rw [getD_some hd, h0]; rfl
theorem steal_end {F : FS} {x c : Int} {i : Nat} (hi : F.ws.length ≤ i) (hf : firstI (canSteal F c) F.ws.length 0 = firstI (canSteal F c) (F.ws.length - i) i) : stealF F x c = none := by
  unfold stealF; rw [hf, first_end hi]
/-- The tasks that there are: for each job whether it was added, and how many tasks it has. -/
def shapeF (l : List JS) : List (Bool × Nat) := l.map fun j => (j.added, j.tasks.length)
def RefOk (S : List (Bool × Nat)) (r : Ref) : Prop := 0 ≤ r.job ∧ r.job < 64 ∧ 0 ≤ r.task ∧ ∃ n, S[r.job.toNat]? = some (true, n) ∧ r.task < ((n : Nat) : Int)
structure JobOk (K : Int) (j : JS) : Prop where
  n : j.tasks.length ≤ 4096
  b : j.added = true → BWf j.B K ∧ j.B.deps.length = j.tasks.length ∧ 0 ≤ j.band ∧ j.band < 4
  r : j.running = true → j.added = true
structure WOk (S : List (Bool × Nat)) (K : Int) (v : Wkr) : Prop where
  h : 0 ≤ v.heldJob ∧ v.heldJob < 64
  r : 0 ≤ v.row ∧ v.row ≤ K
  t : v.phase = 1 ∨ v.phase = 2 ∨ v.phase = 3 → RefOk S ⟨v.heldJob, v.heldTask⟩
structure FW (F : FS) (K : Int) : Prop where
  n : 1 ≤ F.ws.length ∧ F.ws.length ≤ 64
  al : F.ar.length = F.ws.length
  dl : F.dq.length = F.ws.length
  jl : F.jobs.length = 64
  k : 0 ≤ K ∧ K ≤ 4096
  j : ∀ j ∈ F.jobs, JobOk K j
  w : ∀ v ∈ F.ws, WOk (shapeF F.jobs) K v
  d : ∀ d ∈ F.dq, ∀ r ∈ d.l, RefOk (shapeF F.jobs) r
  q : ∀ l ∈ F.q.bs, ∀ r ∈ l, RefOk (shapeF F.jobs) r
structure StOk (s : Stt) (K : Int) : Prop where
  a : 0 ≤ s.starts ∧ s.starts ≤ K
  b : 0 ≤ s.commits ∧ s.commits ≤ K
  c : 0 ≤ s.drops ∧ s.drops ≤ K
  d : 0 ≤ s.crashes ∧ s.crashes ≤ K
  e : 0 ≤ s.steals ∧ s.steals ≤ K
  f : 0 ≤ s.helps ∧ s.helps ≤ K
  g : 0 ≤ s.spills ∧ s.spills ≤ 4096 * K
theorem StOk.mono {s : Stt} {K L : Int} (h : StOk s K) (hk : K ≤ L) : StOk s L := by
  obtain ⟨a, b, c, d, e, f, g⟩ := h; constructor <;> omega
theorem FW.job {F : FS} {K : Int} {r : Ref} (h : FW F K) (hr : RefOk (shapeF F.jobs) r) : ∃ j, F.jobs[r.job.toNat]? = some j ∧ j.added = true ∧ BWf j.B K ∧ j.B.deps.length = j.tasks.length ∧ 0 ≤ j.band ∧ j.band < 4 ∧ j.tasks.length ≤ 4096 ∧ r.task < ((j.tasks.length : Nat) : Int) := by
  obtain ⟨_, _, _, n, hn, ht⟩ := hr
  unfold shapeF at hn; rw [List.getElem?_map] at hn
  cases hj : F.jobs[r.job.toNat]? with
  | none => rw [hj] at hn; cases hn
  | some j =>
    rw [hj] at hn; obtain ⟨ha, hl⟩ := Prod.mk.inj (Option.some.inj hn)
    obtain ⟨h1, h2, h3, h4⟩ := (h.j j (List.mem_of_getElem? hj)).b ha
    exact ⟨j, rfl, ha, h1, h2, h3, h4, (h.j j (List.mem_of_getElem? hj)).n, by rw [hl]; exact ht⟩
theorem FW.mono {F : FS} {K L : Int} (h : FW F K) (hk : K ≤ L) (hL : L ≤ 4096) : FW F L :=
  ⟨h.n, h.al, h.dl, h.jl, ⟨by have := h.k; omega, hL⟩, fun j hj => ⟨(h.j j hj).n, fun ha => ⟨((h.j j hj).b ha).1.mono hk, ((h.j j hj).b ha).2⟩, (h.j j hj).r⟩, fun v hv => ⟨(h.w v hv).h, by have := (h.w v hv).r; omega, (h.w v hv).t⟩, h.d, h.q⟩
theorem mem_set' {α : Type} {P : α → Prop} {l : List α} {k : Nat} {x : α} (h : ∀ y ∈ l, P y) (hx : P x) : ∀ y ∈ l.set k x, P y := by
  intro y hy
  rcases List.mem_or_eq_of_mem_set hy with h1 | rfl
  · exact h y h1
  · exact hx
theorem FW.sd {F : FS} {K : Int} (h : FW F K) {k : Nat} {d : DS} (hd : ∀ r ∈ d.l, RefOk (shapeF F.jobs) r) : FW { F with dq := F.dq.set k d } K :=
  ⟨h.n, h.al, by simp only [List.length_set]; exact h.dl, h.jl, h.k, h.j, h.w, mem_set' h.d hd, h.q⟩
theorem FW.sq {F : FS} {K : Int} (h : FW F K) {q : QS} (hq : ∀ l ∈ q.bs, ∀ r ∈ l, RefOk (shapeF F.jobs) r) : FW { F with q := q } K :=
  ⟨h.n, h.al, h.dl, h.jl, h.k, h.j, h.w, h.d, hq⟩
theorem FW.sa {F : FS} {K : Int} (h : FW F K) {k : Nat} {a : AS} : FW { F with ar := F.ar.set k a } K :=
  ⟨h.n, by simp only [List.length_set]; exact h.al, h.dl, h.jl, h.k, h.j, h.w, h.d, h.q⟩
theorem FW.sw {F : FS} {K : Int} (h : FW F K) {k : Nat} {v : Wkr} (hv : WOk (shapeF F.jobs) K v) : FW { F with ws := F.ws.set k v } K :=
  ⟨by simp only [List.length_set]; exact h.n, by simp only [List.length_set]; exact h.al, by simp only [List.length_set]; exact h.dl, h.jl, h.k, h.j, mem_set' h.w hv, h.d, h.q⟩
theorem FW.ss {F : FS} {K : Int} (h : FW F K) {s : Stt} : FW { F with st := s } K := ⟨h.n, h.al, h.dl, h.jl, h.k, h.j, h.w, h.d, h.q⟩
theorem shape_set {l : List JS} {k : Nat} {j j' : JS} (hj : l[k]? = some j) (ha : j'.added = j.added) (hn : j'.tasks.length = j.tasks.length) : shapeF (l.set k j') = shapeF l := by
  unfold shapeF
  rw [List.map_set, ha, hn]
  apply set_same
  rw [List.getElem?_map, hj]; rfl
theorem FW.sj {F : FS} {K : Int} (h : FW F K) {k : Nat} {j j' : JS} (hj : F.jobs[k]? = some j) (ha : j'.added = j.added) (hn : j'.tasks.length = j.tasks.length) (hk : JobOk K j') : FW { F with jobs := F.jobs.set k j' } K := by
  have e := shape_set hj ha hn
  refine ⟨h.n, h.al, h.dl, ?_, h.k, mem_set' h.j hk, ?_, ?_, ?_⟩
  · simp only [List.length_set]; exact h.jl
  · show ∀ v ∈ F.ws, WOk (shapeF (F.jobs.set k j')) K v; rw [e]; exact h.w
  · show ∀ d ∈ F.dq, ∀ r ∈ d.l, RefOk (shapeF (F.jobs.set k j')) r; rw [e]; exact h.d
  · show ∀ l ∈ F.q.bs, ∀ r ∈ l, RefOk (shapeF (F.jobs.set k j')) r; rw [e]; exact h.q
theorem popB_mem : ∀ {bs bs' : List (List Ref)} {r : Ref}, popB bs = some (r, bs') → (∃ l ∈ bs, r ∈ l) ∧ ∀ l ∈ bs', ∃ m ∈ bs, ∀ y ∈ l, y ∈ m
  | [], _, _, h => by cases h
  | [] :: t, bs', r, h => by
    unfold popB at h
    cases hp : popB t with
    | none => rw [hp] at h; cases h
    | some q =>
      rw [hp] at h; obtain ⟨rfl, rfl⟩ := Prod.mk.inj (Option.some.inj h)
      obtain ⟨⟨l, hl, hr⟩, h2⟩ := popB_mem (r := q.1) (bs' := q.2) hp
      refine ⟨⟨l, List.mem_cons_of_mem _ hl, hr⟩, ?_⟩
      intro l hl
      rcases List.mem_cons.1 hl with rfl | hl
      · exact ⟨[], List.mem_cons_self, fun y hy => hy⟩
      · obtain ⟨m, hm, h3⟩ := h2 l hl; exact ⟨m, List.mem_cons_of_mem _ hm, h3⟩
  | (x :: l) :: t, bs', r, h => by
    unfold popB at h; obtain ⟨rfl, rfl⟩ := Prod.mk.inj (Option.some.inj h)
    refine ⟨⟨_, List.mem_cons_self, List.mem_cons_self⟩, ?_⟩
    intro m hm
    rcases List.mem_cons.1 hm with rfl | hm
    · exact ⟨_, List.mem_cons_self, fun y hy => List.mem_cons_of_mem _ hy⟩
    · exact ⟨m, List.mem_cons_of_mem _ hm, fun y hy => hy⟩
theorem pushB_mem {P : Ref → Prop} {r : Ref} (hr : P r) : ∀ {bs : List (List Ref)} {b : Nat}, (∀ l ∈ bs, ∀ y ∈ l, P y) → ∀ l ∈ pushB bs b r, ∀ y ∈ l, P y
  | [], _, h => fun l hl => by cases hl
  | l :: t, 0, h => by
    intro m hm y hy
    rcases List.mem_cons.1 hm with rfl | hm
    · rcases List.mem_append.1 hy with hy | hy
      · exact h l List.mem_cons_self y hy
      · rw [List.mem_singleton.1 hy]; exact hr
    · exact h m (List.mem_cons_of_mem _ hm) y hy
  | l :: t, b + 1, h => by
    intro m hm y hy
    rcases List.mem_cons.1 hm with rfl | hm
    · exact h m List.mem_cons_self y hy
    · exact pushB_mem hr (bs := t) (b := b) (fun l hl => h l (List.mem_cons_of_mem _ hl)) m hm y hy
theorem pushQ_mem {P : Ref → Prop} {r : Ref} {S : QS} {b : Int} (hr : P r) (h : ∀ l ∈ S.bs, ∀ y ∈ l, P y) : ∀ l ∈ (pushQ S r b).bs, ∀ y ∈ l, P y := by
  unfold pushQ
  split
  · exact pushB_mem hr h
  · exact h
theorem pushD_mem {P : Ref → Prop} {r : Ref} {S : DS} (hr : P r) (h : ∀ y ∈ S.l, P y) : ∀ y ∈ (pushD S r).l, P y := by
  unfold pushD
  split
  · intro y hy
    rcases List.mem_append.1 hy with hy | hy
    · exact h y hy
    · rw [List.mem_singleton.1 hy]; exact hr
  · exact h
theorem getD_or {α : Type} [Inhabited α] (l : List α) (k : Nat) : l.getD k default ∈ l ∨ l.getD k default = default := by
  rw [List.getD_eq_getElem?_getD]
  cases h : l[k]? with
  | none => exact .inr rfl
  | some x => exact .inl (List.mem_of_getElem? h)
theorem FW.dr {F : FS} {K : Int} (h : FW F K) (x : Int) : ∀ r ∈ (dqAt F x).l, RefOk (shapeF F.jobs) r := by
  unfold dqAt
  rcases getD_or F.dq x.toNat with h1 | h1
  · exact h.d _ h1
  · rw [h1]; intro r hr; cases hr
theorem FW.pop {F : FS} {K : Int} (h : FW F K) (x : Int) {l : List Ref} (hl : ∀ r ∈ l, r ∈ (dqAt F x).l) : FW (popF F x l) K := h.sd (d := { dqAt F x with l := l }) fun r hr => h.dr x r (hl r hr)
theorem start_deps {B : BS} {i : Int} : (startB B i).1.deps = B.deps := by
  unfold startB
  split
  · split <;> rfl
  · rfl
theorem ret_deps {B : BS} {i a : Int} : (retB B i a).deps = B.deps := by unfold retB; split <;> rfl
theorem com_deps {B : BS} {i a : Int} : (comB B i a).1.deps = B.deps := by unfold comB; split <;> rfl
theorem com_in {B : BS} {i a t : Int} (h : t ∈ (comB B i a).2) : 0 ≤ t ∧ t < ((B.deps.length : Nat) : Int) := by
  unfold comB at h
  split at h
  · unfold rdyB at h
    obtain ⟨q, hq, rfl⟩ := List.mem_map.1 h
    have := List.mem_range.1 (List.mem_filter.1 hq).1
    omega
  · cases h
theorem FW.take {F : FS} {K : Int} {x : Int} {r : Ref} (h : FW F K) (hr : RefOk (shapeF F.jobs) r) : FW (takeF F x r) K := by
  obtain ⟨j, hj, ha, hB, hd, hb1, hb2, hn, ht⟩ := h.job hr
  have e : jobAt F r.job = j := getD_some hj
  have h1 := h.sw (k := x.toNat) (v := ⟨1, r.job, r.task, (startB j.B r.task).2.1, 0, 0, (F.ar.getD x.toNat default).high⟩) ⟨⟨hr.1, hr.2.1⟩, ⟨Int.le_refl 0, h.k.1⟩, fun _ => hr⟩
  have h2 := h1.sj (k := r.job.toNat) (j := j) (j' := { j with B := (startB j.B r.task).1 }) hj rfl rfl ⟨hn, fun _ => ⟨start_wf hB, by rw [start_deps]; exact hd, hb1, hb2⟩, fun _ => ha⟩
  have h3 := h2.ss (s := { F.st with starts := F.st.starts + 1 })
  unfold takeF; rw [e]; exact h3
theorem take_shape {F : FS} {x : Int} {r : Ref} (hr : RefOk (shapeF F.jobs) r) : shapeF (takeF F x r).jobs = shapeF F.jobs := by
  obtain ⟨h1, h2, _, n, hn, _⟩ := hr
  unfold shapeF at hn; rw [List.getElem?_map] at hn
  cases hj : F.jobs[r.job.toNat]? with
  | none => rw [hj] at hn; cases hn
  | some j =>
    have e : jobAt F r.job = j := getD_some hj
    show shapeF (F.jobs.set r.job.toNat { jobAt F r.job with B := _ }) = _
    exact shape_set (j := j) hj (by rw [e]) (by rw [e])
theorem StOk.take {F : FS} {K : Int} {x : Int} {r : Ref} (h : StOk F.st K) : StOk (takeF F x r).st (K + 1) := by
  obtain ⟨a, b, c, d, e, f, g⟩ := h
  constructor <;> (simp only [takeF]; omega)
theorem acq_ok {F F' : FS} {K x c : Int} {ev : Evt} (h : FW F K) (hs : StOk F.st K) (he : acqF F x c = some (F', ev)) : FW F' K ∧ StOk F'.st (K + 1) ∧ shapeF F'.jobs = shapeF F.jobs := by
  unfold acqF at he
  split at he
  · rename_i r hr
    obtain ⟨rfl, _⟩ := Prod.mk.inj (Option.some.inj he)
    have hm := h.dr x r (List.mem_of_getLast? hr)
    exact ⟨(h.pop x fun y hy => (List.dropLast_sublist _).subset hy).take hm, StOk.take (F := popF F x (dqAt F x).l.dropLast) hs, take_shape (F := popF F x (dqAt F x).l.dropLast) hm⟩
  · split at he
    · rename_i r bs hq
      obtain ⟨rfl, _⟩ := Prod.mk.inj (Option.some.inj he)
      obtain ⟨⟨l, hl, hr⟩, h2⟩ := popB_mem hq
      have hm := h.q l hl r hr
      refine ⟨(h.sq (q := { F.q with bs := bs }) fun l hl y hy => ?_).take hm, StOk.take (F := { F with q := { F.q with bs := bs } }) hs, take_shape (F := { F with q := { F.q with bs := bs } }) hm⟩
      obtain ⟨m, hm2, h3⟩ := h2 l hl
      exact h.q m hm2 y (h3 y hy)
    · unfold stealF at he
      split at he
      · cases he
      · rename_i i hi
        split at he
        · cases he
        · rename_i r hr
          obtain ⟨rfl, _⟩ := Prod.mk.inj (Option.some.inj he)
          have hm := h.dr (chF F c i) r (List.mem_of_head? hr)
          have h1 := (h.pop (chF F c i) fun y hy => List.mem_of_mem_tail hy).take (x := x) hm
          refine ⟨h1.ss, ?_, take_shape (F := popF F (chF F c i) (dqAt F (chF F c i)).l.tail) (x := x) hm⟩
          obtain ⟨a, b, c, d, e, f, g⟩ := hs
          constructor <;> (simp only [stealE, takeF, popF]; omega)
theorem spill_ok {K x job band : Int} : ∀ (l : List Int) {F : FS}, FW F K → (∀ t ∈ l, RefOk (shapeF F.jobs) ⟨job, t⟩) →
    FW (spillF F x job band l) K ∧ (spillF F x job band l).jobs = F.jobs ∧ (spillF F x job band l).ws = F.ws ∧ (spillF F x job band l).ar = F.ar ∧ ∃ n : Nat, n ≤ l.length ∧ (spillF F x job band l).st = { F.st with spills := F.st.spills + n }
  | [], F, h, _ => ⟨h, rfl, rfl, rfl, 0, Nat.le_refl _, by simp [spillF]⟩
  | t :: l, F, h, hr => by
    have h0 := hr t List.mem_cons_self
    have h1 : FW (spill1 F x ⟨job, t⟩ band) K ∧ (spill1 F x ⟨job, t⟩ band).jobs = F.jobs ∧ (spill1 F x ⟨job, t⟩ band).ws = F.ws ∧ (spill1 F x ⟨job, t⟩ band).ar = F.ar ∧ ∃ n : Nat, n ≤ 1 ∧ (spill1 F x ⟨job, t⟩ band).st = { F.st with spills := F.st.spills + n } := by
      unfold spill1
      split
      · exact ⟨h.sd (pushD_mem h0 (h.dr x)), rfl, rfl, rfl, 0, by omega, by simp⟩
      · exact ⟨(h.sq (pushQ_mem h0 h.q)).ss, rfl, rfl, rfl, 1, by omega, rfl⟩
    obtain ⟨hF, hj, hw, ha, n, hn, hst⟩ := h1
    obtain ⟨gF, gj, gw, ga, m, hm, gst⟩ := spill_ok l hF (by rw [hj]; exact fun t ht => hr t (List.mem_cons_of_mem _ ht))
    refine ⟨gF, gj.trans hj, gw.trans hw, ga.trans ha, n + m, by simp only [List.length_cons]; omega, ?_⟩
    show (spillF (spill1 F x ⟨job, t⟩ band) x job band l).st = _
    rw [gst, hst]; simp only [Int.natCast_add, Int.add_assoc]
theorem micro_ok {F : FS} {K x : Int} {v : Wkr} (h : FW F K) (hK : K + 1 ≤ 4096) (hv : F.ws[x.toNat]? = some v) (hh : v.phase = 1 ∨ v.phase = 2 ∨ v.phase = 3) :
    FW (microF F x).1 (K + 1) ∧ (∃ a b : Nat, a ≤ 1 ∧ b ≤ 4096 ∧ (microF F x).1.st = { F.st with commits := F.st.commits + a, spills := F.st.spills + b }) ∧ shapeF (microF F x).1.jobs = shapeF F.jobs := by
  have hw := h.w v (List.mem_of_getElem? hv)
  have hm := h.mono (L := K + 1) (by omega) hK
  have hr := hw.t hh
  obtain ⟨j, hj, ha, hB, hd, hb1, hb2, hn, ht⟩ := h.job hr
  have hj : F.jobs[v.heldJob.toNat]? = some j := hj
  have e : jobAt F v.heldJob = j := getD_some hj
  have k1 := hw.r; have k2 := hw.h
  unfold microF
  simp only [getD_some hv, e]
  split
  · exact ⟨(hm.sa.sw ⟨k2, by dsimp only; omega, fun _ => hr⟩), ⟨0, 0, by omega, by omega, by simp⟩, rfl⟩
  · split
    · exact ⟨hm.sw ⟨k2, by dsimp only; omega, fun _ => hr⟩, ⟨0, 0, by omega, by omega, by simp⟩, rfl⟩
    · have hO : JobOk (K + 1) { j with B := (comB j.B v.heldTask v.attempt).1 } := ⟨hn, fun _ => ⟨(com_wf hB).mono (by omega), by rw [com_deps]; exact hd, hb1, hb2⟩, fun _ => ha⟩
      have hO2 : JobOk (K + 1) { j with B := (comB j.B v.heldTask v.attempt).1, running := false } := ⟨hn, fun _ => ⟨(com_wf hB).mono (by omega), by rw [com_deps]; exact hd, hb1, hb2⟩, fun h => by cases h⟩
      have hF1 := (((hm.sj (k := v.heldJob.toNat) (j' := { j with B := (comB j.B v.heldTask v.attempt).1 }) hj rfl rfl hO).sa (k := x.toNat) (a := relA (F.ar.getD x.toNat default))).sw (k := x.toNat) (v := ⟨0, 0, 0, 0, 0, 0, (relA (F.ar.getD x.toNat default)).high⟩) ⟨⟨Int.le_refl 0, show (0 : Int) < 64 by decide⟩, ⟨Int.le_refl 0, by dsimp only; omega⟩, fun h => by dsimp only at h; omega⟩).ss (s := { F.st with commits := F.st.commits + 1 })
      have hsh := shape_set (j' := { j with B := (comB j.B v.heldTask v.attempt).1 }) hj rfl rfl
      obtain ⟨gF, gj, gw, ga, n, hn2, gst⟩ := spill_ok (x := x) (job := v.heldJob) (band := j.band) (comB j.B v.heldTask v.attempt).2 hF1 (by
        intro t ht2
        have h3 := com_in ht2
        dsimp only; rw [hsh]
        obtain ⟨_, _, _, m, hm3, _⟩ := hr
        refine ⟨k2.1, k2.2, h3.1, m, hm3, ?_⟩
        unfold shapeF at hm3; rw [List.getElem?_map, hj] at hm3
        have := (Prod.mk.inj (Option.some.inj hm3)).2
        dsimp only at this ⊢; omega)
      have hc := com_len (B := j.B) (i := v.heldTask) (a := v.attempt)
      split
      · refine ⟨?_, ⟨1, n, by omega, by omega, gst⟩, shape_set hj rfl rfl⟩
        have h4 := gF.sj (k := v.heldJob.toNat) (j := { j with B := (comB j.B v.heldTask v.attempt).1 }) (j' := { j with B := (comB j.B v.heldTask v.attempt).1, running := false }) (by rw [gj]; dsimp only; exact set_at hj) rfl rfl hO2
        rw [gj] at h4; dsimp only at h4; rw [List.set_set] at h4
        exact h4
      · exact ⟨gF, ⟨1, n, by omega, by omega, gst⟩, by rw [gj]; exact hsh⟩
theorem micro_st {F : FS} {K : Int} {a b : Nat} {s : Stt} (hs : StOk F.st K) (h1 : a ≤ 1) (h2 : b ≤ 4096) (h : s = { F.st with commits := F.st.commits + a, spills := F.st.spills + b }) : StOk s (K + 1) := by
  rw [h]
  obtain ⟨a, b, c, d, e, f, g⟩ := hs
  constructor <;> (dsimp only; omega)
theorem f_acquire {p : Nat} {F : FS} {M : Chunk} {F0 : List Chunk} (hR : FarmR p F M) {K : Int} (hF : FW F K) (hst : StOk F.st K) (x : Int) (c : Int) (hx : 0 ≤ x ∧ x < F.ws.length) (hS : Sat W w (M :: H :: F0)) :
    Calls Tryz.prog 48 #[.pointer (some ⟨p, 0, none⟩), .int .i64 x, .int .i64 c] w fun e w' => (acqF F x c = none ∧ e = .returned (.tuple #[.agg #[.int .i64 0, .int .i64 0, .int .i64 0, .int .i64 0, .int .i64 0, .int .i64 0, .int .i64 0], .bool false]) ∧ Sat W w' (M :: H :: F0)) ∨ (∃ (F' : FS) (ev : Evt) (M' : Chunk), acqF F x c = some (F', ev) ∧ e = .returned (.tuple #[.agg (encEvt ev).toArray, .bool true]) ∧ FarmR p F' M' ∧ Sat W w' (M' :: H :: F0)) := by
  obtain ⟨wa, aa, da, wn, wk, an, ak, dn, dk, q, xs, ap, dp, Wc, Ac, Dc, Qc, acs, dcs, jcs, rfl, hOw, hOa, hOd, hAs, hDs, hQ, hJs, hxl⟩ := hR
  have hS : Sat W _ ((Tri p 86 (preF F.cfg wa wn wk aa an ak da dn dk q) (xs.flatMap encFJob) (encStt F.st)) :: Wc :: Ac :: Dc :: acs.flatten :: dcs.flatten :: Qc :: jcs.flatten :: H :: F0) := Sat.perm hS (by simp)
  have hwl := hOw.len; have hwk := hOw.le; have hal := hOa.len; have hak := hOa.le; have hdl := hOd.len; have hdk := hOd.le; have has1 := hAs.1; have hds1 := hDs.1; have hjs1 := hJs.1
  have hal_ := hF.al; have hdl_ := hF.dl; have hjl_ := hF.jl; have hn_ := hF.n; have hk_ := hF.k; have hs1 := hst.a; have hs2 := hst.b; have hs3 := hst.c; have hs4 := hst.d; have hs5 := hst.e; have hs6 := hst.f; have hs7 := hst.g
  refine callsA 94 Tryz.func48 rfl ?_
  refine seqE <| regionE ?_
  refine sAlloc hS Tryz.zeroValue43 ?_
  intro b_1 w_2 hS_3
  refine pu1 <| nilO <| thenK_n <| seqE <| seqE <| regionE <| pu3 ?_
  refine sLp hS_3 (ptr_up 1 rfl tri_pre) 10 (.slice da dn dk) (Tryz.isAgg79 _) ?_
  refine pu1 ?_
  refine sIdxO hOd x (x).toNat Tryz.runUnderlying79 Tryz.sizeOf90 ?_
  intro x_4 b_5 o_6 hx_7 hp_8 hq_9
  refine sLp hS_3 (hp_8.up 4 rfl) 0 (.pointer (some ⟨x_4, 0, none⟩)) (Tryz.isAgg90 _) ?_
  obtain ⟨s_10, c_11, hs_12, hc_13, hR_14⟩ := Obs.get hDs hx_7
  have hS_16 := (hS_3.pick 6 rfl)
  have hS_15 := Sat.openN (A := []) x.toNat hc_13 hS_16
  refine cX Tryz.call77 (dq_pop hR_14 (Sat.flat1 hS_15)) ?_
  rintro _ w_17 (⟨he_19, rfl, hS_18⟩ | ⟨x_20, M_21, hx_22, rfl, hR_23, hS_18⟩)
  rotate_left
  · have hS_148 := Sat.unflat1 hS_18
    have hS_149 := ((hS_148.pick 1 rfl).pick 1 rfl)
    have hS_150 := Sat.shutN (d := M_21) (A := []) x.toNat hc_13 hS_149
    have hL_151 := Obs.set hDs hx_7 hR_23
    refine pu3 ?_
    refine sAlloc hS_150 Tryz.zeroValue40 ?_
    intro b_152 w_153 hS_154
    refine sT hS_154 0 0 (.agg #[.int .i64 x_20.job, .int .i64 x_20.task]) [.int .i64 x_20.job, .int .i64 x_20.task] #[.int .i64 x_20.job, .int .i64 x_20.task] Tryz.sizeOf40 ?_
    intro w_155 hS_156
    refine pu1 <| nilO <| thenK_n <| seqE <| regionE <| pu1 <| nilO <| thenK_n <| cTt <| seqE <| regionE <| pu2 ?_
    refine lA hS_156 0 0 2 (Tryz.isAgg40 _) (Tryz.sizeOf40 _) ?_
    have hro_157 : RefOk (shapeF F.jobs) x_20 := (hF.d _ (List.mem_of_getElem? hs_12) _ (List.mem_of_getLast? hx_22))
    obtain ⟨j_158, hj_159, ha_160, hB_161, _⟩ := hF.job hro_157
    have hS_162 : Sat W _ (Ac :: Dc :: acs.flatten :: (dcs.set x.toNat M_21).flatten :: Qc :: jcs.flatten :: [(b_152, .cells #[.int .i64 x_20.job, .int .i64 x_20.task] 40 (0, 0))] :: [(b_1, .cells #[.int .i64 0, .int .i64 0, .int .i64 0, .int .i64 0, .int .i64 0, .int .i64 0, .int .i64 0] 43 (0, 0))] :: (Tri p 86 (preF F.cfg wa wn wk aa an ak da dn dk q) (xs.flatMap encFJob) (encStt F.st)) :: Wc :: H :: F0) := ((((((hS_156.pick 9 rfl).pick 9 rfl).pick 3 rfl).pick 9 rfl).pick 9 rfl).pick 9 rfl)
    have hS_163 := ((hS_162.pick 9 rfl).pick 9 rfl)
    have hS_164 : Sat W _ (((Tri p 86 (preF F.cfg wa wn wk aa an ak da dn dk q) (xs.flatMap encFJob) (encStt F.st)) ++ (Wc ++ (Ac ++ (Dc ++ (acs.flatten ++ ((dcs.set x.toNat M_21).flatten ++ (Qc ++ jcs.flatten))))))) :: [(b_152, .cells #[.int .i64 x_20.job, .int .i64 x_20.task] 40 (0, 0))] :: [(b_1, .cells #[.int .i64 0, .int .i64 0, .int .i64 0, .int .i64 0, .int .i64 0, .int .i64 0, .int .i64 0] 43 (0, 0))] :: H :: F0) := Sat.perm (show Sat W _ ((Tri p 86 (preF F.cfg wa wn wk aa an ak da dn dk q) (xs.flatMap encFJob) (encStt F.st)) :: Wc :: Ac :: Dc :: acs.flatten :: (dcs.set x.toNat M_21).flatten :: Qc :: jcs.flatten :: [(b_152, .cells #[.int .i64 x_20.job, .int .i64 x_20.task] 40 (0, 0))] :: [(b_1, .cells #[.int .i64 0, .int .i64 0, .int .i64 0, .int .i64 0, .int .i64 0, .int .i64 0, .int .i64 0] 43 (0, 0))] :: H :: F0) from hS_163) (by simp)
    have hRx_165 : FarmR p (⟨F.cfg, F.ws, F.ar, (F.dq.set x.toNat ({ s_10 with l := s_10.l.dropLast } : DS)), F.q, F.jobs, F.st⟩ : FS) ((Tri p 86 (preF F.cfg wa wn wk aa an ak da dn dk q) (xs.flatMap encFJob) (encStt F.st)) ++ (Wc ++ (Ac ++ (Dc ++ (acs.flatten ++ ((dcs.set x.toNat M_21).flatten ++ (Qc ++ jcs.flatten))))))) := ⟨_, _, _, _, _, _, _, _, _, _, _, _, _, _, _, _, _, _, _, _, rfl, hOw, hOa, hOd, hAs, hL_151, hQ, hJs, hxl⟩
    refine cX Tryz.call78 (f_take hRx_165 x x_20 (by first | omega | (dsimp only; omega) | (simp only [List.length_set]; omega)) (by first | omega | (dsimp only; omega) | (simp only [List.length_set]; omega)) ⟨hro_157.1, hro_157.2.1⟩ hj_159 ha_160 hB_161 (by first | omega | (dsimp only; omega) | (simp only [List.length_set]; omega)) (Sat.flat1 hS_164)) ?_
    rintro _ w_166 ⟨M_169, rfl, hR_170, hS_167⟩
    have hS_168 := Sat.unflat1 hS_167
    obtain ⟨F_171, hF_172⟩ : ∃ z, z = takeF (⟨F.cfg, F.ws, F.ar, (F.dq.set x.toNat ({ s_10 with l := s_10.l.dropLast } : DS)), F.q, F.jobs, F.st⟩ : FS) x x_20 := ⟨_, rfl⟩
    rw [← hF_172] at hR_170
    obtain ⟨wa_F_171, aa_F_171, da_F_171, wn_F_171, wk_F_171, an_F_171, ak_F_171, dn_F_171, dk_F_171, q_F_171, xs_F_171, ap_F_171, dp_F_171, Wc_F_171, Ac_F_171, Dc_F_171, Qc_F_171, acs_F_171, dcs_F_171, jcs_F_171, rfl, hOw_F_171, hOa_F_171, hOd_F_171, hAs_F_171, hDs_F_171, hQ_F_171, hJs_F_171, hxl_F_171⟩ := hR_170
    have hS_173 : Sat W _ ((Tri p 86 (preF F_171.cfg wa_F_171 wn_F_171 wk_F_171 aa_F_171 an_F_171 ak_F_171 da_F_171 dn_F_171 dk_F_171 q_F_171) (xs_F_171.flatMap encFJob) (encStt F_171.st)) :: Wc_F_171 :: Ac_F_171 :: Dc_F_171 :: acs_F_171.flatten :: dcs_F_171.flatten :: Qc_F_171 :: jcs_F_171.flatten :: [(b_152, .cells #[.int .i64 x_20.job, .int .i64 x_20.task] 40 (0, 0))] :: [(b_1, .cells #[.int .i64 0, .int .i64 0, .int .i64 0, .int .i64 0, .int .i64 0, .int .i64 0, .int .i64 0] 43 (0, 0))] :: H :: F0) := Sat.perm hS_168 (by simp)
    have hwl_F_171 := hOw_F_171.len; have hwk_F_171 := hOw_F_171.le; have hal_F_171 := hOa_F_171.len; have hak_F_171 := hOa_F_171.le; have hdl_F_171 := hOd_F_171.len; have hdk_F_171 := hOd_F_171.le; have has1_F_171 := hAs_F_171.1; have hds1_F_171 := hDs_F_171.1; have hjs1_F_171 := hJs_F_171.1
    have hst1 : F_171.st.steals = F.st.steals := by subst hF_172; rfl
    refine nilO <| thenK_n <| seqE <| regionE <| pu1 ?_
    refine lA hS_173 8 0 2 (Tryz.isAgg40 _) (Tryz.sizeOf40 _) ?_
    refine pu1 ?_
    refine sT hS_173 9 0 (.agg #[.int .i64 3, .int .i64 x, .int .i64 0, .int .i64 0, .int .i64 x_20.job, .int .i64 x_20.task, .int .i64 0]) [.int .i64 3, .int .i64 x, .int .i64 0, .int .i64 0, .int .i64 x_20.job, .int .i64 x_20.task, .int .i64 0] #[.int .i64 3, .int .i64 x, .int .i64 0, .int .i64 0, .int .i64 x_20.job, .int .i64 x_20.task, .int .i64 0] Tryz.sizeOf43 ?_
    intro w_174 hS_175
    refine pu1 <| nilO <| thenK_n <| retE <| thenK_r <| retN (vs := [.agg #[.int .i64 3, .int .i64 x, .int .i64 0, .int .i64 0, .int .i64 x_20.job, .int .i64 x_20.task, .int .i64 0], .bool true]) rfl (.cons (.cell _ _ _ _ (by kernel_rfl) (lvA hS_175 9 0 [.int .i64 3, .int .i64 x, .int .i64 0, .int .i64 0, .int .i64 x_20.job, .int .i64 x_20.task, .int .i64 0] (Tryz.isAgg43 _) (Tryz.sizeOf43 _) rfl rfl rfl)) (.cons (.tmp _ _ (by kernel_rfl)) .nil)) <| ?_
    have hS_176 := ((hS_175.dropAt 8 rfl).dropAt 8 rfl)
    have hS_177 : Sat W _ (((Tri p 86 (preF F_171.cfg wa_F_171 wn_F_171 wk_F_171 aa_F_171 an_F_171 ak_F_171 da_F_171 dn_F_171 dk_F_171 q_F_171) (xs_F_171.flatMap encFJob) (encStt F_171.st)) ++ (Wc_F_171 ++ (Ac_F_171 ++ (Dc_F_171 ++ (acs_F_171.flatten ++ (dcs_F_171.flatten ++ (Qc_F_171 ++ jcs_F_171.flatten))))))) :: H :: F0) := Sat.perm (show Sat W _ ((Tri p 86 (preF F_171.cfg wa_F_171 wn_F_171 wk_F_171 aa_F_171 an_F_171 ak_F_171 da_F_171 dn_F_171 dk_F_171 q_F_171) (xs_F_171.flatMap encFJob) (encStt F_171.st)) :: Wc_F_171 :: Ac_F_171 :: Dc_F_171 :: acs_F_171.flatten :: dcs_F_171.flatten :: Qc_F_171 :: jcs_F_171.flatten :: H :: F0) from hS_176) (by simp)
    have he : acqF F x c = some ((⟨F_171.cfg, F_171.ws, F_171.ar, F_171.dq, F_171.q, F_171.jobs, F_171.st⟩ : FS), (⟨3, x, 0, 0, x_20.job, x_20.task, 0⟩ : Evt)) := by subst hF_172; exact acq_own hs_12 hx_22
    exact .inr ⟨_, _, _, he, rfl, ⟨_, _, _, _, _, _, _, _, _, _, _, _, _, _, _, _, _, _, _, _, rfl, hOw_F_171, hOa_F_171, hOd_F_171, hAs_F_171, hDs_F_171, hQ_F_171, hJs_F_171, hxl_F_171⟩, hS_177⟩
  have hS_24 := Sat.unflat1 hS_18
  have hS_25 := ((hS_24.pick 1 rfl).pick 1 rfl)
  have hS_26 := Sat.shutN (d := c_11) (A := []) x.toNat hc_13 hS_25
  rw [set_same hc_13] at hS_26
  refine pu3 ?_
  refine sAlloc hS_26 Tryz.zeroValue40 ?_
  intro b_27 w_28 hS_29
  refine sT hS_29 0 0 (.agg #[.int .i64 0, .int .i64 0]) [.int .i64 0, .int .i64 0] #[.int .i64 0, .int .i64 0] Tryz.sizeOf40 ?_
  intro w_30 hS_31
  refine pu1 <| nilO <| thenK_n <| seqE <| regionE <| pu1 <| nilO <| thenK_n <| cFf <| skipE <| thenK_n <| seqE <| seqE <| regionE <| pu3 ?_
  refine sLp hS_31 (ptr_up 3 rfl tri_pre) 11 (.pointer (some ⟨q, 0, none⟩)) (Tryz.isAgg80 _) ?_
  have hS_32 := (hS_31.pick 8 rfl)
  refine cX Tryz.call79 (iq_pop hQ (Sat.flat1 hS_32)) ?_
  rintro _ w_33 (⟨he_35, rfl, hS_34⟩ | ⟨x_36, bs_37, M_38, hx_39, rfl, hR_40, hS_34⟩)
  rotate_left
  · have hS_121 := Sat.unflat1 hS_34
    refine pu3 ?_
    refine sAlloc hS_121 Tryz.zeroValue40 ?_
    intro b_122 w_123 hS_124
    refine sT hS_124 0 0 (.agg #[.int .i64 x_36.job, .int .i64 x_36.task]) [.int .i64 x_36.job, .int .i64 x_36.task] #[.int .i64 x_36.job, .int .i64 x_36.task] Tryz.sizeOf40 ?_
    intro w_125 hS_126
    refine pu1 <| nilO <| thenK_n <| seqE <| regionE <| pu1 <| nilO <| thenK_n <| cTt <| seqE <| regionE <| pu2 ?_
    refine lA hS_126 0 0 2 (Tryz.isAgg40 _) (Tryz.sizeOf40 _) ?_
    have hro_127 : RefOk (shapeF F.jobs) x_36 := (let h := popB_mem hx_39; h.1.elim fun l hl => hF.q l hl.1 _ hl.2)
    obtain ⟨j_128, hj_129, ha_130, hB_131, _⟩ := hF.job hro_127
    have hS_132 : Sat W _ (Ac :: Dc :: acs.flatten :: dcs.flatten :: M_38 :: jcs.flatten :: [(b_122, .cells #[.int .i64 x_36.job, .int .i64 x_36.task] 40 (0, 0))] :: [(b_27, .cells #[.int .i64 0, .int .i64 0] 40 (0, 0))] :: [(b_1, .cells #[.int .i64 0, .int .i64 0, .int .i64 0, .int .i64 0, .int .i64 0, .int .i64 0, .int .i64 0] 43 (0, 0))] :: (Tri p 86 (preF F.cfg wa wn wk aa an ak da dn dk q) (xs.flatMap encFJob) (encStt F.st)) :: Wc :: H :: F0) := ((((((hS_126.pick 10 rfl).pick 2 rfl).pick 4 rfl).pick 10 rfl).pick 10 rfl).pick 10 rfl)
    have hS_133 := ((hS_132.pick 10 rfl).pick 10 rfl)
    have hS_134 : Sat W _ (((Tri p 86 (preF F.cfg wa wn wk aa an ak da dn dk q) (xs.flatMap encFJob) (encStt F.st)) ++ (Wc ++ (Ac ++ (Dc ++ (acs.flatten ++ (dcs.flatten ++ (M_38 ++ jcs.flatten))))))) :: [(b_122, .cells #[.int .i64 x_36.job, .int .i64 x_36.task] 40 (0, 0))] :: [(b_27, .cells #[.int .i64 0, .int .i64 0] 40 (0, 0))] :: [(b_1, .cells #[.int .i64 0, .int .i64 0, .int .i64 0, .int .i64 0, .int .i64 0, .int .i64 0, .int .i64 0] 43 (0, 0))] :: H :: F0) := Sat.perm (show Sat W _ ((Tri p 86 (preF F.cfg wa wn wk aa an ak da dn dk q) (xs.flatMap encFJob) (encStt F.st)) :: Wc :: Ac :: Dc :: acs.flatten :: dcs.flatten :: M_38 :: jcs.flatten :: [(b_122, .cells #[.int .i64 x_36.job, .int .i64 x_36.task] 40 (0, 0))] :: [(b_27, .cells #[.int .i64 0, .int .i64 0] 40 (0, 0))] :: [(b_1, .cells #[.int .i64 0, .int .i64 0, .int .i64 0, .int .i64 0, .int .i64 0, .int .i64 0, .int .i64 0] 43 (0, 0))] :: H :: F0) from hS_133) (by simp)
    have hRx_135 : FarmR p (⟨F.cfg, F.ws, F.ar, F.dq, ({ F.q with bs := bs_37 } : QS), F.jobs, F.st⟩ : FS) ((Tri p 86 (preF F.cfg wa wn wk aa an ak da dn dk q) (xs.flatMap encFJob) (encStt F.st)) ++ (Wc ++ (Ac ++ (Dc ++ (acs.flatten ++ (dcs.flatten ++ (M_38 ++ jcs.flatten))))))) := ⟨_, _, _, _, _, _, _, _, _, _, _, _, _, _, _, _, _, _, _, _, rfl, hOw, hOa, hOd, hAs, hDs, hR_40, hJs, hxl⟩
    refine cX Tryz.call78 (f_take hRx_135 x x_36 (by first | omega | (dsimp only; omega) | (simp only [List.length_set]; omega)) (by first | omega | (dsimp only; omega) | (simp only [List.length_set]; omega)) ⟨hro_127.1, hro_127.2.1⟩ hj_129 ha_130 hB_131 (by first | omega | (dsimp only; omega) | (simp only [List.length_set]; omega)) (Sat.flat1 hS_134)) ?_
    rintro _ w_136 ⟨M_139, rfl, hR_140, hS_137⟩
    have hS_138 := Sat.unflat1 hS_137
    obtain ⟨F_141, hF_142⟩ : ∃ z, z = takeF (⟨F.cfg, F.ws, F.ar, F.dq, ({ F.q with bs := bs_37 } : QS), F.jobs, F.st⟩ : FS) x x_36 := ⟨_, rfl⟩
    rw [← hF_142] at hR_140
    obtain ⟨wa_F_141, aa_F_141, da_F_141, wn_F_141, wk_F_141, an_F_141, ak_F_141, dn_F_141, dk_F_141, q_F_141, xs_F_141, ap_F_141, dp_F_141, Wc_F_141, Ac_F_141, Dc_F_141, Qc_F_141, acs_F_141, dcs_F_141, jcs_F_141, rfl, hOw_F_141, hOa_F_141, hOd_F_141, hAs_F_141, hDs_F_141, hQ_F_141, hJs_F_141, hxl_F_141⟩ := hR_140
    have hS_143 : Sat W _ ((Tri p 86 (preF F_141.cfg wa_F_141 wn_F_141 wk_F_141 aa_F_141 an_F_141 ak_F_141 da_F_141 dn_F_141 dk_F_141 q_F_141) (xs_F_141.flatMap encFJob) (encStt F_141.st)) :: Wc_F_141 :: Ac_F_141 :: Dc_F_141 :: acs_F_141.flatten :: dcs_F_141.flatten :: Qc_F_141 :: jcs_F_141.flatten :: [(b_122, .cells #[.int .i64 x_36.job, .int .i64 x_36.task] 40 (0, 0))] :: [(b_27, .cells #[.int .i64 0, .int .i64 0] 40 (0, 0))] :: [(b_1, .cells #[.int .i64 0, .int .i64 0, .int .i64 0, .int .i64 0, .int .i64 0, .int .i64 0, .int .i64 0] 43 (0, 0))] :: H :: F0) := Sat.perm hS_138 (by simp)
    have hwl_F_141 := hOw_F_141.len; have hwk_F_141 := hOw_F_141.le; have hal_F_141 := hOa_F_141.len; have hak_F_141 := hOa_F_141.le; have hdl_F_141 := hOd_F_141.len; have hdk_F_141 := hOd_F_141.le; have has1_F_141 := hAs_F_141.1; have hds1_F_141 := hDs_F_141.1; have hjs1_F_141 := hJs_F_141.1
    have hst1 : F_141.st.steals = F.st.steals := by subst hF_142; rfl
    refine nilO <| thenK_n <| seqE <| regionE <| pu1 ?_
    refine lA hS_143 8 0 2 (Tryz.isAgg40 _) (Tryz.sizeOf40 _) ?_
    refine pu1 ?_
    refine sT hS_143 10 0 (.agg #[.int .i64 4, .int .i64 x, .int .i64 0, .int .i64 0, .int .i64 x_36.job, .int .i64 x_36.task, .int .i64 0]) [.int .i64 4, .int .i64 x, .int .i64 0, .int .i64 0, .int .i64 x_36.job, .int .i64 x_36.task, .int .i64 0] #[.int .i64 4, .int .i64 x, .int .i64 0, .int .i64 0, .int .i64 x_36.job, .int .i64 x_36.task, .int .i64 0] Tryz.sizeOf43 ?_
    intro w_144 hS_145
    refine pu1 <| nilO <| thenK_n <| retE <| thenK_r <| retN (vs := [.agg #[.int .i64 4, .int .i64 x, .int .i64 0, .int .i64 0, .int .i64 x_36.job, .int .i64 x_36.task, .int .i64 0], .bool true]) rfl (.cons (.cell _ _ _ _ (by kernel_rfl) (lvA hS_145 10 0 [.int .i64 4, .int .i64 x, .int .i64 0, .int .i64 0, .int .i64 x_36.job, .int .i64 x_36.task, .int .i64 0] (Tryz.isAgg43 _) (Tryz.sizeOf43 _) rfl rfl rfl)) (.cons (.tmp _ _ (by kernel_rfl)) .nil)) <| ?_
    have hS_146 := (((hS_145.dropAt 8 rfl).dropAt 8 rfl).dropAt 8 rfl)
    have hS_147 : Sat W _ (((Tri p 86 (preF F_141.cfg wa_F_141 wn_F_141 wk_F_141 aa_F_141 an_F_141 ak_F_141 da_F_141 dn_F_141 dk_F_141 q_F_141) (xs_F_141.flatMap encFJob) (encStt F_141.st)) ++ (Wc_F_141 ++ (Ac_F_141 ++ (Dc_F_141 ++ (acs_F_141.flatten ++ (dcs_F_141.flatten ++ (Qc_F_141 ++ jcs_F_141.flatten))))))) :: H :: F0) := Sat.perm (show Sat W _ ((Tri p 86 (preF F_141.cfg wa_F_141 wn_F_141 wk_F_141 aa_F_141 an_F_141 ak_F_141 da_F_141 dn_F_141 dk_F_141 q_F_141) (xs_F_141.flatMap encFJob) (encStt F_141.st)) :: Wc_F_141 :: Ac_F_141 :: Dc_F_141 :: acs_F_141.flatten :: dcs_F_141.flatten :: Qc_F_141 :: jcs_F_141.flatten :: H :: F0) from hS_146) (by simp)
    have he : acqF F x c = some ((⟨F_141.cfg, F_141.ws, F_141.ar, F_141.dq, F_141.q, F_141.jobs, F_141.st⟩ : FS), (⟨4, x, 0, 0, x_36.job, x_36.task, 0⟩ : Evt)) := by subst hF_142; exact acq_inj hs_12 he_19 hx_39
    exact .inr ⟨_, _, _, he, rfl, ⟨_, _, _, _, _, _, _, _, _, _, _, _, _, _, _, _, _, _, _, _, rfl, hOw_F_141, hOa_F_141, hOd_F_141, hAs_F_141, hDs_F_141, hQ_F_141, hJs_F_141, hxl_F_141⟩, hS_147⟩
  have hS_41 := Sat.unflat1 hS_34
  refine pu3 ?_
  refine sAlloc hS_41 Tryz.zeroValue40 ?_
  intro b_42 w_43 hS_44
  refine sT hS_44 0 0 (.agg #[.int .i64 0, .int .i64 0]) [.int .i64 0, .int .i64 0] #[.int .i64 0, .int .i64 0] Tryz.sizeOf40 ?_
  intro w_45 hS_46
  refine pu1 <| nilO <| thenK_n <| seqE <| regionE <| pu1 <| nilO <| thenK_n <| cFf <| skipE <| thenK_n <| seqE <| seqE <| regionE <| pu1 <| nilO <| thenK_n <| blockE ?_
  refine loopA (γ := Nat) (fun i => [(0, .pointer (some ⟨p, 0, none⟩)), (1, .int .i64 x), (2, .int .i64 c), (6, .pointer (some ⟨b_1, 0, none⟩)), (12, .int .i64 ((i : Nat) : Int))]) (fun i w => Sat W w ([(b_42, .cells #[.int .i64 0, .int .i64 0] 40 (0, 0))] :: Qc :: [(b_27, .cells #[.int .i64 0, .int .i64 0] 40 (0, 0))] :: dcs.flatten :: [(b_1, .cells #[.int .i64 0, .int .i64 0, .int .i64 0, .int .i64 0, .int .i64 0, .int .i64 0, .int .i64 0] 43 (0, 0))] :: (Tri p 86 (preF F.cfg wa wn wk aa an ak da dn dk q) (xs.flatMap encFJob) (encStt F.st)) :: Wc :: Ac :: Dc :: acs.flatten :: jcs.flatten :: H :: F0) ∧ i ≤ wn ∧ (firstI (canSteal F c) F.ws.length 0 = firstI (canSteal F c) (F.ws.length - i) i)) (fun i => wn - i) 0 ⟨hS_46, by omega, rfl⟩ ?_
  rintro i ρ w_47 ⟨hS_48, hi, hfi⟩
  refine seqE <| seqE <| regionE <| pu4 ?_
  refine sLp hS_48 (ptr_up 5 rfl tri_pre) 8 (.slice wa wn wk) (Tryz.isAgg77 _) ?_
  refine pu2 <| nilO <| thenK_n <| ?_
  refine cD (((i : Nat) : Int) < ((wn : Nat) : Int)) (fun hc_49 => ?_) (fun hc_49 => ?_)
  rotate_left
  · refine exitE <| thenK_x <| thenK_x <| blockK_x <| thenK_n <| seqE <| regionE <| pu1 ?_
    refine sT hS_48 4 0 (.agg #[.int .i64 0, .int .i64 0, .int .i64 0, .int .i64 0, .int .i64 0, .int .i64 0, .int .i64 0]) [.int .i64 0, .int .i64 0, .int .i64 0, .int .i64 0, .int .i64 0, .int .i64 0, .int .i64 0] #[.int .i64 0, .int .i64 0, .int .i64 0, .int .i64 0, .int .i64 0, .int .i64 0, .int .i64 0] Tryz.sizeOf43 ?_
    intro w_116 hS_117
    refine pu1 <| nilO <| thenK_n <| retE <| retN (vs := [.agg #[.int .i64 0, .int .i64 0, .int .i64 0, .int .i64 0, .int .i64 0, .int .i64 0, .int .i64 0], .bool false]) rfl (.cons (.cell _ _ _ _ (by kernel_rfl) (lvA hS_117 4 0 [.int .i64 0, .int .i64 0, .int .i64 0, .int .i64 0, .int .i64 0, .int .i64 0, .int .i64 0] (Tryz.isAgg43 _) (Tryz.sizeOf43 _) rfl rfl rfl)) (.cons (.tmp _ _ (by kernel_rfl)) .nil)) <| ?_
    have hS_118 : Sat W _ ((Tri p 86 (preF F.cfg wa wn wk aa an ak da dn dk q) (xs.flatMap encFJob) (encStt F.st)) :: Wc :: Ac :: Dc :: acs.flatten :: dcs.flatten :: [(b_42, .cells #[.int .i64 0, .int .i64 0] 40 (0, 0))] :: Qc :: [(b_27, .cells #[.int .i64 0, .int .i64 0] 40 (0, 0))] :: [(b_1, .cells #[.int .i64 0, .int .i64 0, .int .i64 0, .int .i64 0, .int .i64 0, .int .i64 0, .int .i64 0] 43 (0, 0))] :: jcs.flatten :: H :: F0) := ((((((hS_117.pick 3 rfl).pick 9 rfl).pick 9 rfl).pick 9 rfl).pick 9 rfl).pick 9 rfl)
    have hS_119 := (((hS_118.dropAt 6 rfl).dropAt 7 rfl).dropAt 7 rfl)
    have hS_120 : Sat W _ (((Tri p 86 (preF F.cfg wa wn wk aa an ak da dn dk q) (xs.flatMap encFJob) (encStt F.st)) ++ (Wc ++ (Ac ++ (Dc ++ (acs.flatten ++ (dcs.flatten ++ (Qc ++ jcs.flatten))))))) :: H :: F0) := Sat.perm (show Sat W _ ((Tri p 86 (preF F.cfg wa wn wk aa an ak da dn dk q) (xs.flatMap encFJob) (encStt F.st)) :: Wc :: Ac :: Dc :: acs.flatten :: dcs.flatten :: Qc :: jcs.flatten :: H :: F0) from hS_119) (by simp)
    exact .inl ⟨(acq_rest hs_12 he_19 he_35).trans (steal_end (by omega) hfi), rfl, hS_120⟩
  refine skipE <| thenK_n <| seqE <| blockE <| seqE <| regionE <| pu3 ?_
  have hS_50 := (hS_48.pick 5 rfl)
  refine cX Tryz.call49 (f_choice c ((i : Nat) : Int) F.ws.length hwl (by omega) (by omega) hS_50) ?_
  rintro _ w_51 ⟨rfl, hS_52⟩
  have hcb_53 := choice_bd (n := ((F.ws.length : Nat) : Int)) (c := c) (i := ((i : Nat) : Int)) (by omega) (by omega)
  refine pu1 <| nilO <| thenK_n <| seqE <| regionE <| pu3 ?_
  refine sLp hS_52 (ptr_up 0 rfl tri_pre) 10 (.slice da dn dk) (Tryz.isAgg79 _) ?_
  refine pu1 ?_
  refine sIdxO hOd (choiceI ((F.ws.length : Nat) : Int) c ((i : Nat) : Int)) ((choiceI ((F.ws.length : Nat) : Int) c ((i : Nat) : Int))).toNat Tryz.runUnderlying79 Tryz.sizeOf90 ?_
  intro x_54 b_55 o_56 hx_57 hp_58 hq_59
  refine sLp hS_52 (hp_58.up 8 rfl) 0 (.pointer (some ⟨x_54, 0, none⟩)) (Tryz.isAgg90 _) ?_
  obtain ⟨s_60, c_61, hs_62, hc_63, hR_64⟩ := Obs.get hDs hx_57
  have hS_66 := (hS_52.pick 4 rfl)
  have hS_65 := Sat.openN (A := []) ((choiceI ((F.ws.length : Nat) : Int) c ((i : Nat) : Int)).toNat) hc_63 hS_66
  refine cX Tryz.call80 (dq_steal hR_64 (Sat.flat1 hS_65)) ?_
  rintro _ w_67 (⟨he_69, rfl, hS_68⟩ | ⟨x_70, M_71, hx_72, rfl, hR_73, hS_68⟩)
  · have hS_74 := Sat.unflat1 hS_68
    have hS_75 := ((hS_74.pick 1 rfl).pick 1 rfl)
    have hS_76 := Sat.shutN (d := c_61) (A := []) ((choiceI ((F.ws.length : Nat) : Int) c ((i : Nat) : Int)).toNat) hc_63 hS_75
    rw [set_same hc_63] at hS_76
    refine pu3 ?_
    refine sAlloc hS_76 Tryz.zeroValue40 ?_
    intro b_77 w_78 hS_79
    refine sT hS_79 0 0 (.agg #[.int .i64 0, .int .i64 0]) [.int .i64 0, .int .i64 0] #[.int .i64 0, .int .i64 0] Tryz.sizeOf40 ?_
    intro w_80 hS_81
    refine pu1 <| nilO <| thenK_n <| seqE <| regionE <| pu1 <| nilO <| thenK_n <| cFf <| skipE <| blockK_n <| thenK_n <| regionE <| pu1 ?_
    refine sAdd ((i : Nat) : Int) 1 ?_
    refine pu1 <| nilO <| thenK_n <| ?_
    have hS_82 : Sat W _ ([(b_42, .cells #[.int .i64 0, .int .i64 0] 40 (0, 0))] :: Qc :: [(b_27, .cells #[.int .i64 0, .int .i64 0] 40 (0, 0))] :: dcs.flatten :: [(b_1, .cells #[.int .i64 0, .int .i64 0, .int .i64 0, .int .i64 0, .int .i64 0, .int .i64 0, .int .i64 0] 43 (0, 0))] :: (Tri p 86 (preF F.cfg wa wn wk aa an ak da dn dk q) (xs.flatMap encFJob) (encStt F.st)) :: Wc :: Ac :: Dc :: acs.flatten :: jcs.flatten :: H :: F0) := ((((((hS_81.pick 6 rfl).pick 2 rfl).pick 6 rfl).pick 6 rfl).pick 6 rfl).dropAt 5 rfl)
    exact ⟨i + 1, by first | omega | (dsimp only; omega), alA, hS_82, by omega, (steal_skip (by omega) hfi hs_62 he_69)⟩
  have hS_84 := Sat.unflat1 hS_68
  have hS_85 := ((hS_84.pick 1 rfl).pick 1 rfl)
  have hS_86 := Sat.shutN (d := M_71) (A := []) ((choiceI ((F.ws.length : Nat) : Int) c ((i : Nat) : Int)).toNat) hc_63 hS_85
  have hL_87 := Obs.set hDs hx_57 hR_73
  refine pu3 ?_
  refine sAlloc hS_86 Tryz.zeroValue40 ?_
  intro b_88 w_89 hS_90
  refine sT hS_90 0 0 (.agg #[.int .i64 x_70.job, .int .i64 x_70.task]) [.int .i64 x_70.job, .int .i64 x_70.task] #[.int .i64 x_70.job, .int .i64 x_70.task] Tryz.sizeOf40 ?_
  intro w_91 hS_92
  refine pu1 <| nilO <| thenK_n <| seqE <| regionE <| pu1 <| nilO <| thenK_n <| cTt <| seqE <| regionE <| pu2 ?_
  refine lA hS_92 0 0 2 (Tryz.isAgg40 _) (Tryz.sizeOf40 _) ?_
  have hro_93 : RefOk (shapeF F.jobs) x_70 := (hF.d _ (List.mem_of_getElem? hs_62) _ (List.mem_of_head? hx_72))
  obtain ⟨j_94, hj_95, ha_96, hB_97, _⟩ := hF.job hro_93
  have hS_98 : Sat W _ (Ac :: Dc :: acs.flatten :: (dcs.set ((choiceI ((F.ws.length : Nat) : Int) c ((i : Nat) : Int)).toNat) M_71).flatten :: Qc :: jcs.flatten :: [(b_88, .cells #[.int .i64 x_70.job, .int .i64 x_70.task] 40 (0, 0))] :: (Tri p 86 (preF F.cfg wa wn wk aa an ak da dn dk q) (xs.flatMap encFJob) (encStt F.st)) :: [(b_42, .cells #[.int .i64 0, .int .i64 0] 40 (0, 0))] :: [(b_27, .cells #[.int .i64 0, .int .i64 0] 40 (0, 0))] :: [(b_1, .cells #[.int .i64 0, .int .i64 0, .int .i64 0, .int .i64 0, .int .i64 0, .int .i64 0, .int .i64 0] 43 (0, 0))] :: Wc :: H :: F0) := ((((((hS_92.pick 11 rfl).pick 5 rfl).pick 3 rfl).pick 11 rfl).pick 11 rfl).pick 11 rfl)
  have hS_99 := ((hS_98.pick 11 rfl).pick 8 rfl)
  have hS_100 : Sat W _ (((Tri p 86 (preF F.cfg wa wn wk aa an ak da dn dk q) (xs.flatMap encFJob) (encStt F.st)) ++ (Wc ++ (Ac ++ (Dc ++ (acs.flatten ++ ((dcs.set ((choiceI ((F.ws.length : Nat) : Int) c ((i : Nat) : Int)).toNat) M_71).flatten ++ (Qc ++ jcs.flatten))))))) :: [(b_88, .cells #[.int .i64 x_70.job, .int .i64 x_70.task] 40 (0, 0))] :: [(b_42, .cells #[.int .i64 0, .int .i64 0] 40 (0, 0))] :: [(b_27, .cells #[.int .i64 0, .int .i64 0] 40 (0, 0))] :: [(b_1, .cells #[.int .i64 0, .int .i64 0, .int .i64 0, .int .i64 0, .int .i64 0, .int .i64 0, .int .i64 0] 43 (0, 0))] :: H :: F0) := Sat.perm (show Sat W _ ((Tri p 86 (preF F.cfg wa wn wk aa an ak da dn dk q) (xs.flatMap encFJob) (encStt F.st)) :: Wc :: Ac :: Dc :: acs.flatten :: (dcs.set ((choiceI ((F.ws.length : Nat) : Int) c ((i : Nat) : Int)).toNat) M_71).flatten :: Qc :: jcs.flatten :: [(b_88, .cells #[.int .i64 x_70.job, .int .i64 x_70.task] 40 (0, 0))] :: [(b_42, .cells #[.int .i64 0, .int .i64 0] 40 (0, 0))] :: [(b_27, .cells #[.int .i64 0, .int .i64 0] 40 (0, 0))] :: [(b_1, .cells #[.int .i64 0, .int .i64 0, .int .i64 0, .int .i64 0, .int .i64 0, .int .i64 0, .int .i64 0] 43 (0, 0))] :: H :: F0) from hS_99) (by simp)
  have hRx_101 : FarmR p (⟨F.cfg, F.ws, F.ar, (F.dq.set ((choiceI ((F.ws.length : Nat) : Int) c ((i : Nat) : Int)).toNat) ({ s_60 with l := s_60.l.tail } : DS)), F.q, F.jobs, F.st⟩ : FS) ((Tri p 86 (preF F.cfg wa wn wk aa an ak da dn dk q) (xs.flatMap encFJob) (encStt F.st)) ++ (Wc ++ (Ac ++ (Dc ++ (acs.flatten ++ ((dcs.set ((choiceI ((F.ws.length : Nat) : Int) c ((i : Nat) : Int)).toNat) M_71).flatten ++ (Qc ++ jcs.flatten))))))) := ⟨_, _, _, _, _, _, _, _, _, _, _, _, _, _, _, _, _, _, _, _, rfl, hOw, hOa, hOd, hAs, hL_87, hQ, hJs, hxl⟩
  refine cX Tryz.call78 (f_take hRx_101 x x_70 (by first | omega | (dsimp only; omega) | (simp only [List.length_set]; omega)) (by first | omega | (dsimp only; omega) | (simp only [List.length_set]; omega)) ⟨hro_93.1, hro_93.2.1⟩ hj_95 ha_96 hB_97 (by first | omega | (dsimp only; omega) | (simp only [List.length_set]; omega)) (Sat.flat1 hS_100)) ?_
  rintro _ w_102 ⟨M_105, rfl, hR_106, hS_103⟩
  have hS_104 := Sat.unflat1 hS_103
  obtain ⟨F_107, hF_108⟩ : ∃ z, z = takeF (⟨F.cfg, F.ws, F.ar, (F.dq.set ((choiceI ((F.ws.length : Nat) : Int) c ((i : Nat) : Int)).toNat) ({ s_60 with l := s_60.l.tail } : DS)), F.q, F.jobs, F.st⟩ : FS) x x_70 := ⟨_, rfl⟩
  rw [← hF_108] at hR_106
  obtain ⟨wa_F_107, aa_F_107, da_F_107, wn_F_107, wk_F_107, an_F_107, ak_F_107, dn_F_107, dk_F_107, q_F_107, xs_F_107, ap_F_107, dp_F_107, Wc_F_107, Ac_F_107, Dc_F_107, Qc_F_107, acs_F_107, dcs_F_107, jcs_F_107, rfl, hOw_F_107, hOa_F_107, hOd_F_107, hAs_F_107, hDs_F_107, hQ_F_107, hJs_F_107, hxl_F_107⟩ := hR_106
  have hS_109 : Sat W _ ((Tri p 86 (preF F_107.cfg wa_F_107 wn_F_107 wk_F_107 aa_F_107 an_F_107 ak_F_107 da_F_107 dn_F_107 dk_F_107 q_F_107) (xs_F_107.flatMap encFJob) (encStt F_107.st)) :: Wc_F_107 :: Ac_F_107 :: Dc_F_107 :: acs_F_107.flatten :: dcs_F_107.flatten :: Qc_F_107 :: jcs_F_107.flatten :: [(b_88, .cells #[.int .i64 x_70.job, .int .i64 x_70.task] 40 (0, 0))] :: [(b_42, .cells #[.int .i64 0, .int .i64 0] 40 (0, 0))] :: [(b_27, .cells #[.int .i64 0, .int .i64 0] 40 (0, 0))] :: [(b_1, .cells #[.int .i64 0, .int .i64 0, .int .i64 0, .int .i64 0, .int .i64 0, .int .i64 0, .int .i64 0] 43 (0, 0))] :: H :: F0) := Sat.perm hS_104 (by simp)
  have hwl_F_107 := hOw_F_107.len; have hwk_F_107 := hOw_F_107.le; have hal_F_107 := hOa_F_107.len; have hak_F_107 := hOa_F_107.le; have hdl_F_107 := hOd_F_107.len; have hdk_F_107 := hOd_F_107.le; have has1_F_107 := hAs_F_107.1; have hds1_F_107 := hDs_F_107.1; have hjs1_F_107 := hJs_F_107.1
  have hst1 : F_107.st.steals = F.st.steals := by subst hF_108; rfl
  refine nilO <| thenK_n <| seqE <| regionE <| pu4 ?_
  refine sLp hS_109 (ptr_up 0 rfl (tri_post (k := 332) (tri_len (sz := 5) (m := 12) (fun _ => rfl) hxl_F_107))) 4 (.int .i64 F_107.st.steals) (Tryz.isAgg3 _) ?_
  refine sAdd F_107.st.steals 1 ?_
  refine pu3 ?_
  refine sTpost hS_109 0 332 4 rfl (.int .i64 (F_107.st.steals + 1)) [.int .i64 (F_107.st.steals + 1)] [.int .i64 F_107.st.starts, .int .i64 F_107.st.commits, .int .i64 F_107.st.drops, .int .i64 F_107.st.crashes, .int .i64 (F_107.st.steals + 1), .int .i64 F_107.st.helps, .int .i64 F_107.st.spills, .int .i64 F_107.st.queued, .int .i64 F_107.st.held, .int .i64 F_107.st.cells] (tri_len (sz := 5) (m := 12) (fun _ => rfl) hxl_F_107) Tryz.sizeOf3 ?_
  intro w_110 hS_111
  refine nilO <| thenK_n <| seqE <| regionE <| pu2 ?_
  refine lA hS_111 8 0 2 (Tryz.isAgg40 _) (Tryz.sizeOf40 _) ?_
  refine pu1 ?_
  refine sT hS_111 11 0 (.agg #[.int .i64 5, .int .i64 x, .int .i64 (choiceI ((F.ws.length : Nat) : Int) c ((i : Nat) : Int)), .int .i64 0, .int .i64 x_70.job, .int .i64 x_70.task, .int .i64 0]) [.int .i64 5, .int .i64 x, .int .i64 (choiceI ((F.ws.length : Nat) : Int) c ((i : Nat) : Int)), .int .i64 0, .int .i64 x_70.job, .int .i64 x_70.task, .int .i64 0] #[.int .i64 5, .int .i64 x, .int .i64 (choiceI ((F.ws.length : Nat) : Int) c ((i : Nat) : Int)), .int .i64 0, .int .i64 x_70.job, .int .i64 x_70.task, .int .i64 0] Tryz.sizeOf43 ?_
  intro w_112 hS_113
  refine pu1 <| nilO <| thenK_n <| retE <| blockK_r <| thenK_r <| thenK_r <| blockK_r <| thenK_r <| retN (vs := [.agg #[.int .i64 5, .int .i64 x, .int .i64 (choiceI ((F.ws.length : Nat) : Int) c ((i : Nat) : Int)), .int .i64 0, .int .i64 x_70.job, .int .i64 x_70.task, .int .i64 0], .bool true]) rfl (.cons (.cell _ _ _ _ (by kernel_rfl) (lvA hS_113 11 0 [.int .i64 5, .int .i64 x, .int .i64 (choiceI ((F.ws.length : Nat) : Int) c ((i : Nat) : Int)), .int .i64 0, .int .i64 x_70.job, .int .i64 x_70.task, .int .i64 0] (Tryz.isAgg43 _) (Tryz.sizeOf43 _) rfl rfl rfl)) (.cons (.tmp _ _ (by kernel_rfl)) .nil)) <| ?_
  have hS_114 := ((((hS_113.dropAt 8 rfl).dropAt 8 rfl).dropAt 8 rfl).dropAt 8 rfl)
  have hS_115 : Sat W _ (((Tri p 86 (preF F_107.cfg wa_F_107 wn_F_107 wk_F_107 aa_F_107 an_F_107 ak_F_107 da_F_107 dn_F_107 dk_F_107 q_F_107) (xs_F_107.flatMap encFJob) [.int .i64 F_107.st.starts, .int .i64 F_107.st.commits, .int .i64 F_107.st.drops, .int .i64 F_107.st.crashes, .int .i64 (F_107.st.steals + 1), .int .i64 F_107.st.helps, .int .i64 F_107.st.spills, .int .i64 F_107.st.queued, .int .i64 F_107.st.held, .int .i64 F_107.st.cells]) ++ (Wc_F_107 ++ (Ac_F_107 ++ (Dc_F_107 ++ (acs_F_107.flatten ++ (dcs_F_107.flatten ++ (Qc_F_107 ++ jcs_F_107.flatten))))))) :: H :: F0) := Sat.perm (show Sat W _ ((Tri p 86 (preF F_107.cfg wa_F_107 wn_F_107 wk_F_107 aa_F_107 an_F_107 ak_F_107 da_F_107 dn_F_107 dk_F_107 q_F_107) (xs_F_107.flatMap encFJob) [.int .i64 F_107.st.starts, .int .i64 F_107.st.commits, .int .i64 F_107.st.drops, .int .i64 F_107.st.crashes, .int .i64 (F_107.st.steals + 1), .int .i64 F_107.st.helps, .int .i64 F_107.st.spills, .int .i64 F_107.st.queued, .int .i64 F_107.st.held, .int .i64 F_107.st.cells]) :: Wc_F_107 :: Ac_F_107 :: Dc_F_107 :: acs_F_107.flatten :: dcs_F_107.flatten :: Qc_F_107 :: jcs_F_107.flatten :: H :: F0) from hS_114) (by simp)
  have he : acqF F x c = some ((⟨F_107.cfg, F_107.ws, F_107.ar, F_107.dq, F_107.q, F_107.jobs, (⟨F_107.st.starts, F_107.st.commits, F_107.st.drops, F_107.st.crashes, (F_107.st.steals + 1), F_107.st.helps, F_107.st.spills, F_107.st.queued, F_107.st.held, F_107.st.cells⟩ : Stt)⟩ : FS), (⟨5, x, (choiceI ((F.ws.length : Nat) : Int) c ((i : Nat) : Int)), 0, x_70.job, x_70.task, 0⟩ : Evt)) := by subst hF_108; exact (acq_rest hs_12 he_19 he_35).trans (steal_at (by omega) hfi hs_62 hx_72)
  exact .inr ⟨_, _, _, he, rfl, ⟨_, _, _, _, _, _, _, _, _, _, _, _, _, _, _, _, _, _, _, _, rfl, hOw_F_107, hOa_F_107, hOd_F_107, hAs_F_107, hDs_F_107, hQ_F_107, hJs_F_107, hxl_F_107⟩, hS_115⟩
end Go.Proofs.YtimkhljglpookaaGreat
