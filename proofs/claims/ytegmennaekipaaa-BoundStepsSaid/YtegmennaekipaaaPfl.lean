import Derived.Test.YtegmennaekipaaaPf9
namespace Go.Proofs.Ytegmennaekipaaa
open Go Go.E
set_option linter.unusedVariables false
set_option linter.unusedSimpArgs false
set_option linter.unnecessarySimpa false
set_option maxRecDepth 100000
set_option maxHeartbeats 2000000
variable {W w : World} {H : Chunk} {F : List Chunk}
/-! ### the farm's calls, for tasks as values; what stays so -/
def newBV (l : List TaskV) : BS := ⟨l.map (·.deps), l.map (fun t => st0 t.deps), l.map (fun _ => 0)⟩
def addV (F : FS) (x : Int) (l : List TaskV) (bd : Int) : FS := { F with jobs := F.jobs.set x.toNat ⟨true, true, bd, l, newBV l⟩, q := readyQ x bd F.q (idxOf 2 0 (newBV l).st) }
theorem newB_v (l : List Task) : newB l = newBV (l.map Task.v) := by
  unfold newB newBV
  rw [List.map_map, List.map_map, List.map_map]; rfl
theorem addF_v {F : FS} {x bd : Int} {l : List Task} : addF F x l bd = addV F x (l.map Task.v) bd := by
  unfold addF addV jobN; rw [newB_v]
def normC (n : Nat) (c : Int) : Int := if c.tmod n < 0 then c.tmod n + n else c.tmod n
theorem norm_bd {n : Nat} {c : Int} (hn : 0 < n) : 0 ≤ normC n c ∧ normC n c < ((n : Nat) : Int) := by
  have h1 : -((n : Nat) : Int) < c.tmod n := Int.lt_tmod_of_pos _ (by omega)
  have h2 : c.tmod n < ((n : Nat) : Int) := Int.tmod_lt_of_pos _ (by omega)
  unfold normC; split <;> omega
theorem choice_norm {n : Nat} {c i : Int} (hn : 0 < n) : choiceI n c i = choiceI n (normC n c) i := by
  have h := norm_bd (c := c) hn
  have e : (normC n c).tmod n = normC n c := Int.tmod_eq_of_lt h.1 h.2
  have h2 : choiceI n c i = (normC n c + i).tmod n := rfl
  rw [h2]
  unfold choiceI
  rw [e, if_neg (by omega)]
theorem chF_norm {F : FS} {c : Int} (hn : 0 < F.ws.length) (i : Nat) : chF F c i = chF F (normC F.ws.length c) i := choice_norm hn
theorem step_norm {F : FS} {x c : Int} (hn : 0 < F.ws.length) : stepF F x c = stepF F x (normC F.ws.length c) := by
  have e : chF F c = chF F (normC F.ws.length c) := funext fun i => chF_norm hn i
  have e1 : canSteal F c = canSteal F (normC F.ws.length c) := by funext i; unfold canSteal; rw [e]
  have e2 : canHelp F x c = canHelp F x (normC F.ws.length c) := by funext i; unfold canHelp; rw [e]
  have e3 : stealF F x c = stealF F x (normC F.ws.length c) := by unfold stealF; rw [e1, e]
  have e4 : acqF F x c = acqF F x (normC F.ws.length c) := by unfold acqF; rw [e3]
  have e5 : restF F x c = restF F x (normC F.ws.length c) := by unfold restF; rw [e4, e2, e]
  unfold stepF; rw [e5]
def addedN (F : FS) : Nat := ((shapeF F.jobs).filter (·.1)).length
structure FJ (F : FS) (K : Int) (n : Nat) : Prop where
  i : FI F K
  t : F12 F
  n : addedN F ≤ n
  h : F.st.held = 0
theorem runK_len_take (jobs : List JS) : ∀ n, n ≤ jobs.length → ((allK n).filter (runJ9 jobs)).length = ((jobs.take n).filter (·.running)).length
  | 0, _ => rfl
  | n + 1, h => by
    have ih := runK_len_take jobs n (by omega)
    have hj : jobs[n]? = some jobs[n] := List.getElem?_eq_getElem (by omega)
    rw [take_succ_at hj, List.filter_append, List.length_append, ← ih]
    unfold allK
    rw [List.range_succ, List.map_append, List.filter_append, List.length_append]
    congr 1
    simp only [List.map_cons, List.map_nil, List.filter_cons, List.filter_nil]
    have : runJ9 jobs ((n : Nat) : Int) = jobs[n].running := by unfold runJ9; rw [Int.toNat_natCast, getD_some hj]
    rw [this]; split <;> rfl
theorem run_le {F : FS} {K : Int} (h : FW F K) : (runK F.jobs).length ≤ addedN F := by
  unfold runK
  rw [runK_len_take F.jobs 64 (by rw [h.jl]; exact Nat.le_refl _), List.take_of_length_le (by rw [h.jl]; exact Nat.le_refl _)]
  unfold addedN shapeF
  rw [List.filter_map, List.length_map]
  have : ∀ l : List JS, (∀ j ∈ l, j.running = true → j.added = true) → (l.filter (·.running)).length ≤ (l.filter ((·.1) ∘ fun j => (j.added, j.tasks.length))).length := by
    intro l
    induction l with
    | nil => intro _; exact Nat.le_refl _
    | cons j l ih =>
      intro hl
      have h1 := ih fun y hy => hl y (List.mem_cons_of_mem _ hy)
      have h2 := hl j List.mem_cons_self
      simp only [List.filter_cons, Function.comp]
      cases hr : j.running
      · simp only [Bool.false_eq_true, if_false]
        split
        · rw [List.length_cons]; exact Nat.le_succ_of_le h1
        · exact h1
      · have h3 := h2 hr
        simp only [h3, if_true, List.length_cons]; exact Nat.succ_le_succ h1
  exact this F.jobs fun j hj => (h.j j hj).r
theorem FJ.r12 {F : FS} {K : Int} {n : Nat} (h : FJ F K n) (hn : n ≤ 12) : (runK F.jobs).length ≤ 12 := Nat.le_trans (run_le h.i.fw) (Nat.le_trans h.n hn)
theorem spill_held {x job band : Int} : ∀ (l : List Int) {F : FS}, (spillF F x job band l).st.held = F.st.held
  | [], _ => rfl
  | t :: l, F => by
    have h : (spill1 F x ⟨job, t⟩ band).st.held = F.st.held := by unfold spill1; split <;> rfl
    exact (spill_held l).trans h
theorem micro_held {F : FS} {x : Int} : (microF F x).1.st.held = F.st.held := by
  unfold microF
  simp only
  split
  · rfl
  · split
    · rfl
    · split <;> exact spill_held _
theorem acq_held {F F' : FS} {x c : Int} {ev : Evt} (he : acqF F x c = some (F', ev)) : F'.st.held = F.st.held := by
  unfold acqF at he
  split at he
  · obtain ⟨rfl, _⟩ := Prod.mk.inj (Option.some.inj he); rfl
  · split at he
    · obtain ⟨rfl, _⟩ := Prod.mk.inj (Option.some.inj he); rfl
    · unfold stealF at he
      split at he
      · cases he
      · split at he
        · cases he
        · obtain ⟨rfl, _⟩ := Prod.mk.inj (Option.some.inj he); rfl
theorem step_held {F : FS} {x c : Int} : (stepF F x c).1.st.held = F.st.held := by
  unfold stepF
  split
  · rfl
  · split
    · rfl
    · split
      · split
        · exact micro_held
        · rfl
      · unfold restF
        split
        · rename_i q hq; exact acq_held (ev := q.2) hq
        · split
          · exact micro_held
          · rfl
theorem ret_held9 {F : FS} {v : Wkr} : (retJ F v).st = F.st := by unfold retJ; split <;> rfl
theorem crash_held {F : FS} {x : Int} : (crashF F x).1.st.held = F.st.held := by
  unfold crashF
  split
  · rfl
  · split
    · rfl
    · show (retJ F (wAt F x)).st.held = _; rw [ret_held9]
theorem restart_held {F : FS} {x : Int} : (restartF F x).1.st.held = F.st.held := by
  unfold restartF
  split
  · rfl
  · split <;> rfl
theorem cancel_held {F : FS} {x : Int} : (cancelF F x).1.st.held = F.st.held := by
  unfold cancelF
  split
  · rfl
  · split <;> rfl
theorem FJ.op {F G : FS} {K L : Int} {n : Nat} (h : FJ F K n) (hi : FI G L) (hs : shapeF G.jobs = shapeF F.jobs) (hh : G.st.held = F.st.held) : FJ G L n := ⟨hi, h.t.of hs, by unfold addedN; rw [hs]; exact h.n, hh.trans h.h⟩
theorem FJ.step {F : FS} {K x c : Int} {n : Nat} (h : FJ F K n) (hK : K + 1 ≤ 4096) : FJ (stepF F x c).1 (K + 1) n := h.op (h.i.step hK) (step_ok h.i.fw h.i.st hK).2.2 step_held
theorem FJ.crash {F : FS} {K x : Int} {n : Nat} (h : FJ F K n) (hK : K + 1 ≤ 4096) : FJ (crashF F x).1 (K + 1) n := h.op (h.i.crash hK) (crash_ok h.i.fw h.i.st hK).2.2 crash_held
theorem FJ.restart {F : FS} {K x : Int} {n : Nat} (h : FJ F K n) (hK : K + 1 ≤ 4096) : FJ (restartF F x).1 (K + 1) n := h.op (h.i.restart hK) (restart_ok h.i.fw h.i.st hK).2.2 restart_held
theorem FJ.cancel {F : FS} {K x : Int} {n : Nat} (h : FJ F K n) (hK : K + 1 ≤ 4096) : FJ (cancelF F x).1 (K + 1) n := h.op (h.i.cancel hK) (cancel_ok h.i.fw h.i.st hK).2.2 cancel_held
theorem filter_set {S : List (Bool × Nat)} : ∀ {k : Nat} {q : Bool × Nat}, ((S.set k q).filter (·.1)).length ≤ (S.filter (·.1)).length + 1 := by
  induction S with
  | nil => intro k q; simp
  | cons x S ih =>
    intro k q
    cases k with
    | zero => simp only [List.set_cons_zero, List.filter_cons]; split <;> split <;> (first | omega | (simp only [List.length_cons]; omega))
    | succ k =>
      have := ih (k := k) (q := q)
      simp only [List.set_cons_succ, List.filter_cons]; split <;> (first | omega | (simp only [List.length_cons]; omega))
theorem FJ.add {F : FS} {K x bd : Int} {n : Nat} {l : List Task} {j : JS} (h : FJ F K n) (hx : 0 ≤ x ∧ x < 64) (hj : F.jobs[x.toNat]? = some j) (ha : j.added = false) (hb : 0 ≤ bd ∧ bd < 4) (hv : validC l = 0) (hs : ∀ z ∈ l, z.scratch ≤ F.cfg.arena) (htk : ((l.length : Nat) : Int) ≤ F.cfg.tasks - loadL F.jobs) (hl : l.length ≤ 12) : FJ (addF F x l bd) K (n + 1) := by
  have e : shapeF (addF F x l bd).jobs = (shapeF F.jobs).set x.toNat (true, l.length) := by simp only [addF, shapeF, List.map_set, jobN, List.length_map]
  refine ⟨h.i.add hx hj ha hb hv hs htk, ?_, ?_, h.h⟩
  · unfold F12; rw [e]
    intro q hq
    rcases List.mem_or_eq_of_mem_set hq with h1 | rfl
    · exact h.t q h1
    · exact hl
  · have h1 := filter_set (S := shapeF F.jobs) (k := x.toNat) (q := (true, l.length))
    have h2 := h.n
    unfold addedN at *; rw [e]; omega
theorem FJ.new {c : Cfg} (hv : validCfg c = 0) : FJ (newF c) 0 0 := by
  refine ⟨FI.new hv, ?_, ?_, rfl⟩
  · intro q hq
    simp only [newF, shapeF, List.map_replicate] at hq
    obtain rfl := List.eq_of_mem_replicate hq
    exact Nat.zero_le _
  · have : addedN (newF c) = 0 := rfl
    rw [this]; exact Nat.le_refl _
theorem FJ.mono {F : FS} {K L : Int} {n m : Nat} (h : FJ F K n) (hk : K ≤ L) (hL : L ≤ 4096) (hn : n ≤ m) : FJ F L m := ⟨h.i.mono hk hL, h.t, Nat.le_trans h.n hn, h.h⟩
end Go.Proofs.Ytegmennaekipaaa
