import Derived.Test.YtimkhljglpookaaGreatFm3
namespace Go.Proofs.YtimkhljglpookaaGreat
open Go Go.E
set_option linter.unusedVariables false
set_option linter.unusedSimpArgs false
set_option linter.unnecessarySimpa false
set_option maxRecDepth 100000
set_option maxHeartbeats 2000000
variable {W w : World} {H : Chunk} {F : List Chunk}

/-! ### steps, crashes, cancellations -/
def wAt (F : FS) (x : Int) : Wkr := F.ws.getD x.toNat default
def arAt (F : FS) (x : Int) : AS := F.ar.getD x.toNat default
/-- The worker's arena is reset; it is in this phase and holds nothing. -/
def clearF (F : FS) (x ph : Int) (s : Stt) : FS := { F with ar := F.ar.set x.toNat (resetA (arAt F x)), ws := F.ws.set x.toNat ⟨ph, 0, 0, 0, 0, 0, (arAt F x).high⟩, st := s }
def dropF (F : FS) (x : Int) : FS := clearF F x 0 { F.st with drops := F.st.drops + 1 }
def busyW (F : FS) (v : Wkr) : Bool := decide (v.phase = 1 ∨ v.phase = 2 ∨ v.phase = 3) && (jobAt F v.heldJob).running
def canHelp (F : FS) (x c : Int) (i : Nat) : Bool := decide (chF F c i ≠ x) && busyW F (wAt F (chF F c i))
def helpF (F : FS) : FS := { F with st := { F.st with helps := F.st.helps + 1 } }
def restF (F : FS) (x c : Int) : FS × List Evt × Int :=
  match acqF F x c with
  | some q => (q.1, [q.2], 0)
  | none => match firstI (canHelp F x c) F.ws.length 0 with
    | some i => ((microF (helpF F) (chF F c i)).1, [⟨12, x, chF F c i, 0, 0, 0, 0⟩, (microF (helpF F) (chF F c i)).2], 0)
    | none => (F, [evt 13 x], 0)
def stepF (F : FS) (x c : Int) : FS × List Evt × Int :=
  if ¬ (0 ≤ x ∧ x < ((F.ws.length : Nat) : Int)) then (F, [], 16)
  else if (wAt F x).phase = 4 then (F, [], 20)
  else if (wAt F x).phase = 1 ∨ (wAt F x).phase = 2 ∨ (wAt F x).phase = 3 then
    if (jobAt F (wAt F x).heldJob).running = true then ((microF F x).1, [(microF F x).2], 0)
    else (dropF F x, [⟨9, x, 0, 0, (wAt F x).heldJob, (wAt F x).heldTask, 0⟩], 0)
  else restF F x c
theorem help_at {F : FS} {x c : Int} {i : Nat} (ha : acqF F x c = none) (hi : i < F.ws.length) (hf : firstI (canHelp F x c) F.ws.length 0 = firstI (canHelp F x c) (F.ws.length - i) i) (hp : canHelp F x c i = true) :
    restF F x c = ((microF (helpF F) (chF F c i)).1, [⟨12, x, chF F c i, 0, 0, 0, 0⟩, (microF (helpF F) (chF F c i)).2], 0) := by
  unfold restF; simp only [ha, hf, first_hit hi hp]
theorem help_skip {F : FS} {x c : Int} {i : Nat} (hi : i < F.ws.length) (hf : firstI (canHelp F x c) F.ws.length 0 = firstI (canHelp F x c) (F.ws.length - i) i) (hp : canHelp F x c i = false) :
    firstI (canHelp F x c) F.ws.length 0 = firstI (canHelp F x c) (F.ws.length - (i + 1)) (i + 1) := by rw [hf]; exact first_skip hi hp
theorem help_end {F : FS} {x c : Int} {i : Nat} (ha : acqF F x c = none) (hi : F.ws.length ≤ i) (hf : firstI (canHelp F x c) F.ws.length 0 = firstI (canHelp F x c) (F.ws.length - i) i) : restF F x c = (F, [evt 13 x], 0) := by
  unfold restF; simp only [ha, hf, first_end hi]
theorem canHelp_eq {F : FS} {x c : Int} {i : Nat} {v : Wkr} {j : JS} (hv : F.ws[(chF F c i).toNat]? = some v) (hj : F.jobs[v.heldJob.toNat]? = some j) :
    canHelp F x c i = (decide (chF F c i ≠ x) && (decide (v.phase = 1 ∨ v.phase = 2 ∨ v.phase = 3) && j.running)) := by
  unfold canHelp busyW wAt jobAt; rw [getD_some hv, getD_some hj]
theorem FW.clear {F : FS} {K x ph : Int} {s : Stt} (h : FW F K) (hp : ph = 0 ∨ ph = 4) : FW (clearF F x ph s) K :=
  ((h.sa (k := x.toNat) (a := resetA (arAt F x))).sw (k := x.toNat) (v := ⟨ph, 0, 0, 0, 0, 0, (arAt F x).high⟩) ⟨⟨Int.le_refl 0, show (0 : Int) < 64 by decide⟩, ⟨Int.le_refl 0, h.k.1⟩, fun h => by dsimp only at h; omega⟩).ss
theorem FW.wmem {F : FS} {K x : Int} (h : FW F K) (hx : 0 ≤ x ∧ x < ((F.ws.length : Nat) : Int)) : F.ws[x.toNat]? = some (wAt F x) := by
  unfold wAt
  rw [List.getD_eq_getElem?_getD]
  have : x.toNat < F.ws.length := by omega
  rw [List.getElem?_eq_getElem this]; rfl
theorem chF_bd {F : FS} {c : Int} {i : Nat} (hn : 1 ≤ F.ws.length) : 0 ≤ chF F c i ∧ chF F c i < ((F.ws.length : Nat) : Int) := choice_bd (by omega) (by omega)
theorem first_some {p : Nat → Bool} : ∀ {n i k : Nat}, firstI p n i = some k → i ≤ k ∧ k < i + n ∧ p k = true
  | 0, _, _, h => by cases h
  | n + 1, i, k, h => by
    unfold firstI at h
    split at h
    · rename_i hp; obtain rfl := Option.some.inj h; exact ⟨Nat.le_refl _, by omega, hp⟩
    · have := first_some h; exact ⟨by omega, by omega, this.2.2⟩
theorem step_ok {F : FS} {K x c : Int} (h : FW F K) (hs : StOk F.st K) (hK : K + 1 ≤ 4096) : FW (stepF F x c).1 (K + 1) ∧ StOk (stepF F x c).1.st (K + 1) ∧ shapeF (stepF F x c).1.jobs = shapeF F.jobs := by
  have hm := h.mono (L := K + 1) (by omega) hK
  have hs' := hs.mono (L := K + 1) (by omega)
  unfold stepF
  split
  · exact ⟨hm, hs', rfl⟩
  · rename_i hx
    have hx := Classical.not_not.1 hx
    have hv := h.wmem hx
    split
    · exact ⟨hm, hs', rfl⟩
    · split
      · rename_i hh
        split
        · obtain ⟨h1, ⟨a, b, ha, hb, h2⟩, h3⟩ := micro_ok h hK hv hh
          exact ⟨h1, micro_st hs ha hb h2, h3⟩
        · refine ⟨(hm.clear (.inl rfl)), ?_, rfl⟩
          obtain ⟨a, b, c, d, e, f, g⟩ := hs
          constructor <;> (simp only [dropF, clearF]; omega)
      · unfold restF
        split
        · rename_i q hq
          obtain ⟨h1, h2, h3⟩ := acq_ok h hs hq
          exact ⟨h1.mono (by omega) hK, h2, h3⟩
        · split
          · rename_i i hi
            have h2 := (first_some hi).2.2
            unfold canHelp at h2
            obtain ⟨h3, h4⟩ := (Bool.and_eq_true _ _).mp h2
            unfold busyW at h4
            obtain ⟨h5, h6⟩ := (Bool.and_eq_true _ _).mp h4
            have hb := chF_bd (F := F) (c := c) (i := i) h.n.1
            have hF : FW (helpF F) K := h.ss
            obtain ⟨g1, ⟨a, b, ha, hb, g2⟩, g3⟩ := micro_ok (x := chF F c i) hF hK (h.wmem hb) (of_decide_eq_true h5)
            refine ⟨g1, ?_, g3⟩
            dsimp only; rw [g2]
            obtain ⟨_, _, _, _, _, _, _⟩ := hs
            constructor <;> (simp only [helpF]; omega)
          · exact ⟨hm, hs', rfl⟩
def retJ (F : FS) (v : Wkr) : FS := if busyW F v = true then { F with jobs := F.jobs.set v.heldJob.toNat { jobAt F v.heldJob with B := retB (jobAt F v.heldJob).B v.heldTask v.attempt }, q := pushQ F.q ⟨v.heldJob, v.heldTask⟩ (jobAt F v.heldJob).band } else F
def pushR (jobs : List JS) (q : QS) (r : Ref) : QS := pushQ q r (jobs.getD r.job.toNat default).band
def drainQ (jobs : List JS) (q : QS) (l : List Ref) : QS := l.foldl (pushR jobs) q
theorem drain_take {jobs : List JS} {q : QS} {l : List Ref} {i : Nat} {r : Ref} (h : l[i]? = some r) : drainQ jobs q (l.take (i + 1)) = pushR jobs (drainQ jobs q (l.take i)) r := by
  unfold drainQ; rw [take_succ_at h, List.foldl_append]; rfl
def crashW (F : FS) (x : Int) : FS :=
  let F1 := popF F x []
  clearF { F1 with q := drainQ F1.jobs F1.q (dqAt F x).l } x 4 { F.st with crashes := F.st.crashes + 1 }
def crashF (F : FS) (x : Int) : FS × List Evt × Int :=
  if ¬ (0 ≤ x ∧ x < ((F.ws.length : Nat) : Int)) then (F, [], 16)
  else if (wAt F x).phase = 4 then (F, [], 20)
  else (crashW (retJ F (wAt F x)) x, [⟨10, x, 0, 0, (wAt F x).heldJob, (wAt F x).heldTask, 0⟩], 0)
def restartF (F : FS) (x : Int) : FS × List Evt × Int :=
  if ¬ (0 ≤ x ∧ x < ((F.ws.length : Nat) : Int)) then (F, [], 16)
  else if (wAt F x).phase = 4 then (idleF F x 0, [evt 11 x], 0)
  else (F, [], 20)
def rmD (k : Int) (d : DS) : DS := { d with l := without k d.l }
def cancelW (F : FS) (k : Int) : FS := { F with jobs := F.jobs.set k.toNat { jobAt F k with running := false }, q := { F.q with bs := F.q.bs.map (without k) }, dq := F.dq.map (rmD k) }
def cancelF (F : FS) (k : Int) : FS × List Evt × Int :=
  if ¬ (0 ≤ k ∧ k < 64) ∨ (jobAt F k).added = false then (F, [], 16)
  else if (jobAt F k).running = false then (F, [], 18)
  else (cancelW F k, [⟨2, 0, 0, k, 0, 0, 0⟩], 0)
theorem drain_mem {P : Ref → Prop} {jobs : List JS} : ∀ (l : List Ref) {q : QS}, (∀ r ∈ l, P r) → (∀ m ∈ q.bs, ∀ y ∈ m, P y) → ∀ m ∈ (drainQ jobs q l).bs, ∀ y ∈ m, P y
  | [], _, _, h => h
  | r :: l, q, hl, h => drain_mem l (q := pushR jobs q r) (fun y hy => hl y (List.mem_cons_of_mem _ hy)) (pushQ_mem (hl r List.mem_cons_self) h)
theorem FW.ret {F : FS} {K : Int} {v : Wkr} (h : FW F K) (hK : K + 1 ≤ 4096) (hv : v ∈ F.ws) : FW (retJ F v) (K + 1) ∧ shapeF (retJ F v).jobs = shapeF F.jobs ∧ (retJ F v).ws = F.ws ∧ (retJ F v).ar = F.ar ∧ (retJ F v).dq = F.dq ∧ (retJ F v).st = F.st := by
  have hm := h.mono (L := K + 1) (by omega) hK
  unfold retJ
  split
  · rename_i hb
    unfold busyW at hb
    obtain ⟨h5, h6⟩ := (Bool.and_eq_true _ _).mp hb
    have hr := (h.w v hv).t (of_decide_eq_true h5)
    obtain ⟨j, hj, ha, hB, hd, hb1, hb2, hn, ht⟩ := h.job hr
    have e : jobAt F v.heldJob = j := getD_some hj
    rw [e]
    have hO : JobOk (K + 1) { j with B := retB j.B v.heldTask v.attempt } := ⟨hn, fun _ => ⟨ret_wf hB, by rw [ret_deps]; exact hd, hb1, hb2⟩, fun _ => ha⟩
    have hsh := shape_set (j' := { j with B := retB j.B v.heldTask v.attempt }) hj rfl rfl
    have h1 := hm.sj (j' := { j with B := retB j.B v.heldTask v.attempt }) hj rfl rfl hO
    have h2 := h1.sq (q := pushQ F.q ⟨v.heldJob, v.heldTask⟩ j.band) (by
      show ∀ l ∈ _, ∀ r ∈ l, RefOk (shapeF (F.jobs.set v.heldJob.toNat _)) r
      rw [hsh]; exact pushQ_mem hr h.q)
    exact ⟨h2, hsh, rfl, rfl, rfl, rfl⟩
  · exact ⟨hm, rfl, rfl, rfl, rfl, rfl⟩
theorem FW.crash {F : FS} {K x : Int} (h : FW F K) : FW (crashW F x) K :=
  ((h.pop x (l := []) (fun r hr => by cases hr)).sq (drain_mem _ (h.dr x) h.q)).clear (.inr rfl)
theorem crash_ok {F : FS} {K x : Int} (h : FW F K) (hs : StOk F.st K) (hK : K + 1 ≤ 4096) : FW (crashF F x).1 (K + 1) ∧ StOk (crashF F x).1.st (K + 1) ∧ shapeF (crashF F x).1.jobs = shapeF F.jobs := by
  have hm := h.mono (L := K + 1) (by omega) hK
  have hs' := hs.mono (L := K + 1) (by omega)
  unfold crashF
  split
  · exact ⟨hm, hs', rfl⟩
  · rename_i hx
    have hv := h.wmem (Classical.not_not.1 hx)
    split
    · exact ⟨hm, hs', rfl⟩
    · obtain ⟨h1, h2, h3, h4, h5, h6⟩ := h.ret hK (List.mem_of_getElem? hv)
      refine ⟨h1.crash, ?_, h2⟩
      show StOk { (retJ F (wAt F x)).st with crashes := (retJ F (wAt F x)).st.crashes + 1 } (K + 1)
      rw [h6]
      obtain ⟨_, _, _, _, _, _, _⟩ := hs
      constructor <;> (dsimp only; omega)
theorem restart_ok {F : FS} {K x : Int} (h : FW F K) (hs : StOk F.st K) (hK : K + 1 ≤ 4096) : FW (restartF F x).1 (K + 1) ∧ StOk (restartF F x).1.st (K + 1) ∧ shapeF (restartF F x).1.jobs = shapeF F.jobs := by
  have hm := h.mono (L := K + 1) (by omega) hK
  have hs' := hs.mono (L := K + 1) (by omega)
  unfold restartF
  split
  · exact ⟨hm, hs', rfl⟩
  · split
    · exact ⟨hm.sw ⟨⟨Int.le_refl 0, show (0 : Int) < 64 by decide⟩, ⟨Int.le_refl 0, hm.k.1⟩, fun h => by dsimp only at h; omega⟩, hs', rfl⟩
    · exact ⟨hm, hs', rfl⟩
theorem cancel_ok {F : FS} {K k : Int} (h : FW F K) (hs : StOk F.st K) (hK : K + 1 ≤ 4096) : FW (cancelF F k).1 (K + 1) ∧ StOk (cancelF F k).1.st (K + 1) ∧ shapeF (cancelF F k).1.jobs = shapeF F.jobs := by
  have hm := h.mono (L := K + 1) (by omega) hK
  have hs' := hs.mono (L := K + 1) (by omega)
  unfold cancelF
  split
  · exact ⟨hm, hs', rfl⟩
  · rename_i hk
    split
    · exact ⟨hm, hs', rfl⟩
    · have hj : F.jobs[k.toNat]? = some (jobAt F k) := by
        unfold jobAt
        have h1 : k.toNat < F.jobs.length := by rw [h.jl]; omega
        rw [List.getD_eq_getElem?_getD, List.getElem?_eq_getElem h1]; rfl
      have hO := hm.j _ (List.mem_of_getElem? hj)
      have h1 := hm.sj (j' := { jobAt F k with running := false }) hj rfl rfl ⟨hO.n, hO.b, fun h => by cases h⟩
      have hsh := shape_set (j' := { jobAt F k with running := false }) hj rfl rfl
      have hsub : ∀ (l : List Ref) (y : Ref), y ∈ without k l → y ∈ l := fun l y hy => (List.mem_filter.1 hy).1
      have h2 := h1.sq (q := { F.q with bs := F.q.bs.map (without k) }) (by
        intro l hl r hr
        obtain ⟨m, hm2, rfl⟩ := List.mem_map.1 hl
        show RefOk (shapeF (F.jobs.set k.toNat _)) r
        rw [hsh]; exact h.q m hm2 r (hsub m r hr))
      refine ⟨⟨h2.n, h2.al, by simp only [List.length_map, cancelW]; exact h2.dl, h2.jl, h2.k, h2.j, h2.w, ?_, h2.q⟩, hs', hsh⟩
      intro d hd r hr
      obtain ⟨m, hm2, rfl⟩ := List.mem_map.1 hd
      show RefOk (shapeF (F.jobs.set k.toNat _)) r
      rw [hsh]; exact h.d m hm2 r (hsub m.l r hr)
theorem step_unk {F : FS} {x c : Int} (h : ¬ (0 ≤ x ∧ x < ((F.ws.length : Nat) : Int))) : stepF F x c = (F, [], 16) := by unfold stepF; rw [if_pos h]
theorem step_down {F : FS} {x c : Int} {v : Wkr} (h : 0 ≤ x ∧ x < ((F.ws.length : Nat) : Int)) (hv : F.ws[x.toNat]? = some v) (h4 : v.phase = 4) : stepF F x c = (F, [], 20) := by
  unfold stepF wAt; rw [if_neg (fun k => k h), getD_some hv, if_pos h4]
theorem step_micro {F : FS} {x c : Int} {v : Wkr} {j : JS} (h : 0 ≤ x ∧ x < ((F.ws.length : Nat) : Int)) (hv : F.ws[x.toNat]? = some v) (hh : v.phase = 1 ∨ v.phase = 2 ∨ v.phase = 3) (hj : F.jobs[v.heldJob.toNat]? = some j) (hr : j.running = true) : stepF F x c = ((microF F x).1, [(microF F x).2], 0) := by
  unfold stepF wAt jobAt; rw [if_neg (fun k => k h), getD_some hv, if_neg (by omega), if_pos hh, getD_some hj, if_pos hr]
theorem step_drop {F : FS} {x c : Int} {v : Wkr} {j : JS} (h : 0 ≤ x ∧ x < ((F.ws.length : Nat) : Int)) (hv : F.ws[x.toNat]? = some v) (hh : v.phase = 1 ∨ v.phase = 2 ∨ v.phase = 3) (hj : F.jobs[v.heldJob.toNat]? = some j) (hr : ¬ j.running = true) : stepF F x c = (dropF F x, [⟨9, x, 0, 0, v.heldJob, v.heldTask, 0⟩], 0) := by
  unfold stepF wAt jobAt; rw [if_neg (fun k => k h), getD_some hv, if_neg (by omega), if_pos hh, getD_some hj, if_neg hr]
theorem step_rest {F : FS} {x c : Int} {v : Wkr} (h : 0 ≤ x ∧ x < ((F.ws.length : Nat) : Int)) (hv : F.ws[x.toNat]? = some v) (h4 : ¬ v.phase = 4) (hh : ¬ (v.phase = 1 ∨ v.phase = 2 ∨ v.phase = 3)) : stepF F x c = restF F x c := by
  unfold stepF wAt; rw [if_neg (fun k => k h), getD_some hv, if_neg h4, if_neg hh]
theorem rest_acq {F F' : FS} {x c : Int} {ev : Evt} (h : acqF F x c = some (F', ev)) : restF F x c = (F', [ev], 0) := by unfold restF; simp only [h]
theorem drain_set {jobs : List JS} {k : Nat} {j : JS} {B : BS} {q : QS} {l : List Ref} (hj : jobs[k]? = some j) : drainQ (jobs.set k { j with B := B }) q l = drainQ jobs q l := by
  have h : pushR (jobs.set k { j with B := B }) = pushR jobs := by
    funext q r
    unfold pushR
    congr 1
    rw [List.getD_eq_getElem?_getD, List.getD_eq_getElem?_getD, List.getElem?_set]
    by_cases e : k = r.job.toNat
    · have h1 : k < jobs.length := (List.getElem?_eq_some_iff.1 hj).1
      rw [if_pos e, if_pos h1, ← e, hj]; rfl
    · rw [if_neg e]
  unfold drainQ; rw [h]
theorem f_holds (v : Wkr) (hS : Sat W w (H :: F)) :
    Ro Tryz.prog 42 #[.agg (encWkr v).toArray] (.bool (decide ((v.phase = 1 ∨ v.phase = 2 ∨ v.phase = 3)))) W w (H :: F) := by
  refine callsA 16 Tryz.func42 rfl ?_
  refine seqE <| regionE ?_
  refine sBox hS (.agg (encWkr v).toArray) (encWkr v).toArray ?_
  intro b_1 w_2 hS_3
  refine pu1 <| nilO <| thenK_n <| seqE <| regionE <| pu1 ?_
  refine sL hS_3 0 0 (.int .i64 v.phase) (Tryz.isAgg3 _) ?_
  refine pu2 ?_
  refine sE 6 v.phase 1 (fun hc_4 => ?_) (fun hc_4 => ?_)
  · refine pu10 <| nilO <| thenK_n <| retE <| retT [.bool true] <| ?_
    have hS_5 := (hS_3.dropAt 0 rfl)
    exact ⟨congrArg (fun b => Ending.returned (.bool b)) ((decide_eq_true (by omega)).symm), hS_5⟩
  refine pu1 <| gY ?_
  refine sL hS_3 0 0 (.int .i64 v.phase) (Tryz.isAgg3 _) ?_
  refine pu3 ?_
  refine sE 11 v.phase 2 (fun hc_6 => ?_) (fun hc_6 => ?_)
  · refine pu5 <| nilO <| thenK_n <| retE <| retT [.bool true] <| ?_
    have hS_7 := (hS_3.dropAt 0 rfl)
    exact ⟨congrArg (fun b => Ending.returned (.bool b)) ((decide_eq_true (by omega)).symm), hS_7⟩
  refine pu1 <| gY ?_
  refine sL hS_3 0 0 (.int .i64 v.phase) (Tryz.isAgg3 _) ?_
  refine pu3 <| nilO <| thenK_n <| retE <| retT [.bool ((v.phase : Int) == 3)] <| ?_
  have hS_8 := (hS_3.dropAt 0 rfl)
  exact ⟨congrArg (fun b => Ending.returned (.bool b)) (by rw [Bool.eq_iff_iff]; simp only [decide_eq_true_eq, beq_iff_eq]; omega), hS_8⟩
theorem f_step {p : Nat} {F : FS} {M : Chunk} {F0 : List Chunk} (hR : FarmR p F M) {K : Int} (hF : FW F K) (hst : StOk F.st K) (x : Int) (c : Int) (hS : Sat W w (M :: H :: F0)) :
    Calls Tryz.prog 24 #[.pointer (some ⟨p, 0, none⟩), .int .i64 x, .int .i64 c] w fun e w' => ∃ (az : Option Addr) (nz kz : Nat) (G M' : Chunk), e = .returned (.tuple #[.slice az nz kz, .int .i64 (stepF F x c).2.2]) ∧ OwnT encEvt 43 7 az nz kz (stepF F x c).2.1 G ∧ FarmR p (stepF F x c).1 M' ∧ Sat W w' (G :: M' :: H :: F0) := by
  obtain ⟨wa, aa, da, wn, wk, an, ak, dn, dk, q, xs, ap, dp, Wc, Ac, Dc, Qc, acs, dcs, jcs, rfl, hOw, hOa, hOd, hAs, hDs, hQ, hJs, hxl⟩ := hR
  have hS : Sat W _ ((Tri p 86 (preF F.cfg wa wn wk aa an ak da dn dk q) (xs.flatMap encFJob) (encStt F.st)) :: Wc :: Ac :: Dc :: acs.flatten :: dcs.flatten :: Qc :: jcs.flatten :: H :: F0) := Sat.perm hS (by simp)
  have hwl := hOw.len; have hwk := hOw.le; have hal := hOa.len; have hak := hOa.le; have hdl := hOd.len; have hdk := hOd.le; have has1 := hAs.1; have hds1 := hDs.1; have hjs1 := hJs.1
  have hal_ := hF.al; have hdl_ := hF.dl; have hjl_ := hF.jl; have hn_ := hF.n; have hk_ := hF.k; have hs1 := hst.a; have hs2 := hst.b; have hs3 := hst.c; have hs4 := hst.d; have hs5 := hst.e; have hs6 := hst.f; have hs7 := hst.g
  refine callsA 155 Tryz.func24 rfl ?_
  refine seqE <| regionE <| pu2 <| nilO <| thenK_n <| seqE <| seqE <| regionE <| pu1 ?_
  refine cX Tryz.call35 (f_zero (by omega) hS) ?_
  rintro _ w_1 ⟨rfl, hS_2⟩
  refine pu5 ?_
  refine sD 19 (x < 0) (fun hc_3 => ?_) (fun hc_3 => ?_)
  · refine pu8 <| nilO <| thenK_n <| cTt <| seqE <| regionE <| pu2 <| nilO <| thenK_n <| retE <| thenK_r <| retT [.slice none 0 0, .int .i64 16] <| ?_
    have hS_4 := Sat.nilc hS_2
    have hS_5 : Sat W _ ([] :: ((Tri p 86 (preF F.cfg wa wn wk aa an ak da dn dk q) (xs.flatMap encFJob) (encStt F.st)) ++ (Wc ++ (Ac ++ (Dc ++ (acs.flatten ++ (dcs.flatten ++ (Qc ++ jcs.flatten))))))) :: H :: F0) := Sat.perm (show Sat W _ ([] :: (Tri p 86 (preF F.cfg wa wn wk aa an ak da dn dk q) (xs.flatMap encFJob) (encStt F.st)) :: Wc :: Ac :: Dc :: acs.flatten :: dcs.flatten :: Qc :: jcs.flatten :: H :: F0) from hS_4) (by simp)
    have he : stepF F x c = (F, [], 16) := step_unk (by omega)
    rw [he]; exact ⟨_, _, _, _, _, rfl, (OwnT.nil (enc := encEvt) (E := 43) (sz := 7) (fun _ => rfl)), ⟨_, _, _, _, _, _, _, _, _, _, _, _, _, _, _, _, _, _, _, _, rfl, hOw, hOa, hOd, hAs, hDs, hQ, hJs, hxl⟩, hS_5⟩
  refine pu4 <| gY ?_
  refine sLp hS_2 (ptr_up 0 rfl tri_pre) 8 (.slice wa wn wk) (Tryz.isAgg77 _) ?_
  refine pu3 <| nilO <| thenK_n <| ?_
  refine cD (x ≥ ((wn : Nat) : Int)) (fun hc_6 => ?_) (fun hc_6 => ?_)
  · refine seqE <| regionE <| pu2 <| nilO <| thenK_n <| retE <| thenK_r <| retT [.slice none 0 0, .int .i64 16] <| ?_
    have hS_7 := Sat.nilc hS_2
    have hS_8 : Sat W _ ([] :: ((Tri p 86 (preF F.cfg wa wn wk aa an ak da dn dk q) (xs.flatMap encFJob) (encStt F.st)) ++ (Wc ++ (Ac ++ (Dc ++ (acs.flatten ++ (dcs.flatten ++ (Qc ++ jcs.flatten))))))) :: H :: F0) := Sat.perm (show Sat W _ ([] :: (Tri p 86 (preF F.cfg wa wn wk aa an ak da dn dk q) (xs.flatMap encFJob) (encStt F.st)) :: Wc :: Ac :: Dc :: acs.flatten :: dcs.flatten :: Qc :: jcs.flatten :: H :: F0) from hS_7) (by simp)
    have he : stepF F x c = (F, [], 16) := step_unk (by omega)
    rw [he]; exact ⟨_, _, _, _, _, rfl, (OwnT.nil (enc := encEvt) (E := 43) (sz := 7) (fun _ => rfl)), ⟨_, _, _, _, _, _, _, _, _, _, _, _, _, _, _, _, _, _, _, _, rfl, hOw, hOa, hOd, hAs, hDs, hQ, hJs, hxl⟩, hS_8⟩
  refine skipE <| thenK_n <| seqE <| regionE <| pu3 ?_
  refine sLp hS_2 (ptr_up 0 rfl tri_pre) 8 (.slice wa wn wk) (Tryz.isAgg77 _) ?_
  refine pu1 ?_
  refine sIdxO hOw x (x).toNat Tryz.runUnderlying77 Tryz.sizeOf101 ?_
  intro x_9 b_10 o_11 hx_12 hp_13 hq_14
  have hwo_x_9 := hF.w x_9 (List.mem_of_getElem? hx_12); have hw1_x_9 := hwo_x_9.h; have hw2_x_9 := hwo_x_9.r
  refine sLpA hS_2 (hp_13.up 1 rfl) 0 (encWkr x_9) (Tryz.isAgg101 _) (Tryz.sizeOf101 _) ?_
  refine sAlloc hS_2 Tryz.zeroValue101 ?_
  intro b_15 w_16 hS_17
  refine sT hS_17 0 0 (.agg (encWkr x_9).toArray) (encWkr x_9) (encWkr x_9).toArray Tryz.sizeOf101 ?_
  intro w_18 hS_19
  refine nilO <| thenK_n <| seqE <| seqE <| regionE <| pu1 ?_
  refine sL hS_19 0 0 (.int .i64 x_9.phase) (Tryz.isAgg3 _) ?_
  refine pu1 <| nilO <| thenK_n <| ?_
  refine cE x_9.phase 4 (fun hc_20 => ?_) (fun hc_20 => ?_)
  · refine seqE <| regionE <| pu2 <| nilO <| thenK_n <| retE <| thenK_r <| retT [.slice none 0 0, .int .i64 20] <| ?_
    have hS_21 := Sat.nilc hS_19
    have hS_22 := (hS_21.dropAt 1 rfl)
    have hS_23 : Sat W _ ([] :: ((Tri p 86 (preF F.cfg wa wn wk aa an ak da dn dk q) (xs.flatMap encFJob) (encStt F.st)) ++ (Wc ++ (Ac ++ (Dc ++ (acs.flatten ++ (dcs.flatten ++ (Qc ++ jcs.flatten))))))) :: H :: F0) := Sat.perm (show Sat W _ ([] :: (Tri p 86 (preF F.cfg wa wn wk aa an ak da dn dk q) (xs.flatMap encFJob) (encStt F.st)) :: Wc :: Ac :: Dc :: acs.flatten :: dcs.flatten :: Qc :: jcs.flatten :: H :: F0) from hS_22) (by simp)
    have he : stepF F x c = (F, [], 20) := step_down (by omega) hx_12 (by omega)
    rw [he]; exact ⟨_, _, _, _, _, rfl, (OwnT.nil (enc := encEvt) (E := 43) (sz := 7) (fun _ => rfl)), ⟨_, _, _, _, _, _, _, _, _, _, _, _, _, _, _, _, _, _, _, _, rfl, hOw, hOa, hOd, hAs, hDs, hQ, hJs, hxl⟩, hS_23⟩
  refine skipE <| thenK_n <| seqE <| seqE ?_
  refine drawE [1, 6, 11] [(0, ⟨b_15, 0, none⟩, .int .i64 x_9.phase), (0, ⟨b_15, 1, none⟩, .int .i64 x_9.heldJob), (0, ⟨b_15, 2, none⟩, .int .i64 x_9.heldTask), (0, ⟨b_15, 3, none⟩, .int .i64 x_9.attempt), (0, ⟨b_15, 4, none⟩, .int .i64 x_9.row), (0, ⟨b_15, 5, none⟩, .int .i64 x_9.used), (0, ⟨b_15, 6, none⟩, .int .i64 x_9.high)] [(true, [0]), (false, [1]), (true, [2]), (true, [3]), (true, [4]), (true, [5]), (true, [7]), (true, [8]), (false, [6]), (true, [9]), (true, [10]), (false, [11]), (true, [12]), (true, [13])] rfl (by kernel_rfl) ⟨.inr (hS_19.cell 0 rfl rfl), .inr (hS_19.cell 0 rfl rfl), .inr (hS_19.cell 0 rfl rfl), .inr (hS_19.cell 0 rfl rfl), .inr (hS_19.cell 0 rfl rfl), .inr (hS_19.cell 0 rfl rfl), .inr (hS_19.cell 0 rfl rfl), trivial⟩ ?_
  have hS_24 := hS_19.drew
  refine wY (.agg (encWkr x_9).toArray) rfl (fun w hF => Y_loadF rfl (Tryz.isAgg101 w) (Tryz.sizeOf101 w) (by kernel_rfl) rfl ⟨hF 0 _ _ rfl, hF 1 _ _ rfl, hF 2 _ _ rfl, hF 3 _ _ rfl, hF 4 _ _ rfl, hF 5 _ _ rfl, hF 6 _ _ rfl, trivial⟩) ?_
  refine wO rfl ?_
  refine cR Tryz.call42 (f_holds x_9 (Sat.flat hS_24)) ?_
  intro w_25 hS_26
  refine nilO ⟨⟨.inl (by kernel_rfl), .inl (by kernel_rfl), .inl (by kernel_rfl), .inl (by kernel_rfl), .inl (by kernel_rfl), .inl (by kernel_rfl), .inl (by kernel_rfl), trivial⟩, ?_⟩
  refine wU [2] ?_
  rcases Classical.em ((x_9.phase = 1 ∨ x_9.phase = 2 ∨ x_9.phase = 3)) with hc_28 | hc_28
  · refine wFix 40 _ true (decide_eq_true hc_28) ?_
    refine wU [3] <| wU [4] <| wU [5] <| wU [7] <| wU [8] ?_
    refine wO rfl ?_
    refine gY ?_
    refine sL hS_26 0 1 (.int .i64 x_9.heldJob) (Tryz.isAgg3 _) ?_
    refine nilO ⟨⟨.inl (by kernel_rfl), .inl (by kernel_rfl), .inl (by kernel_rfl), .inl (by kernel_rfl), .inl (by kernel_rfl), .inl (by kernel_rfl), .inl (by kernel_rfl), trivial⟩, ?_⟩
    obtain ⟨x_29, hx_30⟩ := at_some hxl (k := (x_9.heldJob.toNat)) (by omega)
    obtain ⟨s_31, cs_31, hss_31, hcs_31, hJs_31⟩ := Obs.get hJs hx_30; obtain ⟨has_31, hrs_31, hbs_31, hns_31⟩ := hJs_31.fields; have hjos_31 := hF.j s_31 (List.mem_of_getElem? hss_31)
    refine wY (.pointer (some ⟨p, 12 + (x_9.heldJob.toNat) * 5, none⟩)) rfl (fun w _ => Y_idxA (b := p) (off := 12) x_9.heldJob (x_9.heldJob.toNat) Tryz.runUnderlying84 Tryz.sizeOf83) ?_
    refine wU [10] ?_
    refine wO rfl ?_
    refine gY ?_
    refine sLp hS_26 (ptr_up 1 rfl (tri_el (sz := 5) (n0 := 12) (fun _ => rfl) hx_30)) 1 (.bool x_29.running) (Tryz.isAgg4 _) ?_
    refine nilO ⟨⟨.inl (by kernel_rfl), .inl (by kernel_rfl), .inl (by kernel_rfl), .inl (by kernel_rfl), .inl (by kernel_rfl), .inl (by kernel_rfl), .inl (by kernel_rfl), trivial⟩, ?_⟩
    refine wU [12] <| wU [13] ?_
    refine wN ?_
    refine thenK_n <| ?_
    refine cBn x_29.running (fun hc_32 => ?_) (fun hc_32 => ?_)
    · refine skipE <| thenK_n <| seqE <| seqE <| regionE ?_
      refine lA hS_26 0 0 7 (Tryz.isAgg101 _) (Tryz.sizeOf101 _) ?_
      refine cR Tryz.call42 (f_holds x_9 (Sat.flat hS_26)) ?_
      intro w_33 hS_34
      refine nilO <| thenK_n <| ?_
      refine cT _ (decide_eq_true hc_28) ?_
      refine seqE <| regionE <| pu2 ?_
      have hro_43 := hwo_x_9.t hc_28; obtain ⟨j_36, hj_37, ha_38, hB_39, hd_40, hd_40_1, hd_40_2, hn_41, ht_42⟩ := hF.job hro_43
      have ht_42_0 := hro_43.2.2.1
      have hS_44 : Sat W _ (Ac :: Dc :: acs.flatten :: dcs.flatten :: Qc :: jcs.flatten :: [(b_15, .cells (encWkr x_9).toArray 101 (0, 0))] :: (Tri p 86 (preF F.cfg wa wn wk aa an ak da dn dk q) (xs.flatMap encFJob) (encStt F.st)) :: Wc :: H :: F0) := ((((((hS_34.pick 8 rfl).pick 8 rfl).pick 8 rfl).pick 8 rfl).pick 8 rfl).pick 8 rfl)
      have hS_45 := ((hS_44.pick 8 rfl).pick 8 rfl)
      have hS_46 : Sat W _ (((Tri p 86 (preF F.cfg wa wn wk aa an ak da dn dk q) (xs.flatMap encFJob) (encStt F.st)) ++ (Wc ++ (Ac ++ (Dc ++ (acs.flatten ++ (dcs.flatten ++ (Qc ++ jcs.flatten))))))) :: [(b_15, .cells (encWkr x_9).toArray 101 (0, 0))] :: H :: F0) := Sat.perm (show Sat W _ ((Tri p 86 (preF F.cfg wa wn wk aa an ak da dn dk q) (xs.flatMap encFJob) (encStt F.st)) :: Wc :: Ac :: Dc :: acs.flatten :: dcs.flatten :: Qc :: jcs.flatten :: [(b_15, .cells (encWkr x_9).toArray 101 (0, 0))] :: H :: F0) from hS_45) (by simp)
      have hRx_47 : FarmR p (⟨F.cfg, F.ws, F.ar, F.dq, F.q, F.jobs, F.st⟩ : FS) ((Tri p 86 (preF F.cfg wa wn wk aa an ak da dn dk q) (xs.flatMap encFJob) (encStt F.st)) ++ (Wc ++ (Ac ++ (Dc ++ (acs.flatten ++ (dcs.flatten ++ (Qc ++ jcs.flatten))))))) := ⟨_, _, _, _, _, _, _, _, _, _, _, _, _, _, _, _, _, _, _, _, rfl, hOw, hOa, hOd, hAs, hDs, hQ, hJs, hxl⟩
      refine cX Tryz.call47 (f_micro hRx_47 x (by first | omega | (dsimp only; omega) | (simp only [List.length_set]; omega)) (by first | omega | (dsimp only; omega) | (simp only [List.length_set]; omega)) (by first | omega | (dsimp only; omega) | (simp only [List.length_set]; omega)) hx_12 ⟨hro_43.1, hro_43.2.1⟩ hj_37 ha_38 hB_39 ⟨ht_42_0, ht_42⟩ ⟨hn_41, hd_40⟩ ⟨hd_40_1, hd_40_2⟩ (by omega) (by first | omega | (dsimp only; omega) | (simp only [List.length_set]; omega)) (Sat.flat1 hS_46)) ?_
      rintro _ w_48 ⟨M_51, rfl, hR_52, hS_49⟩
      have hS_50 := Sat.unflat1 hS_49
      obtain ⟨ev_53, hev_54⟩ : ∃ z, z = (microF (⟨F.cfg, F.ws, F.ar, F.dq, F.q, F.jobs, F.st⟩ : FS) x).2 := ⟨_, rfl⟩; rw [← hev_54]
      obtain ⟨F_55, hF_56⟩ : ∃ z, z = (microF (⟨F.cfg, F.ws, F.ar, F.dq, F.q, F.jobs, F.st⟩ : FS) x).1 := ⟨_, rfl⟩
      rw [← hF_56] at hR_52
      obtain ⟨wa_F_55, aa_F_55, da_F_55, wn_F_55, wk_F_55, an_F_55, ak_F_55, dn_F_55, dk_F_55, q_F_55, xs_F_55, ap_F_55, dp_F_55, Wc_F_55, Ac_F_55, Dc_F_55, Qc_F_55, acs_F_55, dcs_F_55, jcs_F_55, rfl, hOw_F_55, hOa_F_55, hOd_F_55, hAs_F_55, hDs_F_55, hQ_F_55, hJs_F_55, hxl_F_55⟩ := hR_52
      have hS_57 : Sat W _ ((Tri p 86 (preF F_55.cfg wa_F_55 wn_F_55 wk_F_55 aa_F_55 an_F_55 ak_F_55 da_F_55 dn_F_55 dk_F_55 q_F_55) (xs_F_55.flatMap encFJob) (encStt F_55.st)) :: Wc_F_55 :: Ac_F_55 :: Dc_F_55 :: acs_F_55.flatten :: dcs_F_55.flatten :: Qc_F_55 :: jcs_F_55.flatten :: [(b_15, .cells (encWkr x_9).toArray 101 (0, 0))] :: H :: F0) := Sat.perm hS_50 (by simp)
      have hwl_F_55 := hOw_F_55.len; have hwk_F_55 := hOw_F_55.le; have hal_F_55 := hOa_F_55.len; have hak_F_55 := hOa_F_55.le; have hdl_F_55 := hOd_F_55.len; have hdk_F_55 := hOd_F_55.le; have has1_F_55 := hAs_F_55.1; have hds1_F_55 := hDs_F_55.1; have hjs1_F_55 := hJs_F_55.1
      refine sBS hS_57 (encEvt ev_53).toArray Tryz.runUnderlying26 Tryz.sizeOf43 Tryz.zeroValue43 ?_
      intro b_58 w_59 hS_60
      refine pu2 <| nilO <| thenK_n <| retE <| thenK_r <| retT [.slice (some ⟨b_58, 0, none⟩) 1 1, .int .i64 0] <| ?_
      have hO_61 := OwnT.blk (enc := encEvt) (sz := 7) (b := b_58) (c := #[.int .i64 ev_53.kind, .int .i64 ev_53.worker, .int .i64 ev_53.from_, .int .i64 ev_53.job, .int .i64 ev_53.refJob, .int .i64 ev_53.refTask, .int .i64 ev_53.err]) (E := 43) (xs := [ev_53]) (fun _ => rfl) 1 rfl rfl rfl (by omega)
      have hS_62 := (hS_60.dropAt 9 rfl)
      have hS_63 : Sat W _ ([(b_58, .cells (encEvt ev_53).toArray 43 (0, 0))] :: ((Tri p 86 (preF F_55.cfg wa_F_55 wn_F_55 wk_F_55 aa_F_55 an_F_55 ak_F_55 da_F_55 dn_F_55 dk_F_55 q_F_55) (xs_F_55.flatMap encFJob) (encStt F_55.st)) ++ (Wc_F_55 ++ (Ac_F_55 ++ (Dc_F_55 ++ (acs_F_55.flatten ++ (dcs_F_55.flatten ++ (Qc_F_55 ++ jcs_F_55.flatten))))))) :: H :: F0) := Sat.perm (show Sat W _ ([(b_58, .cells (encEvt ev_53).toArray 43 (0, 0))] :: (Tri p 86 (preF F_55.cfg wa_F_55 wn_F_55 wk_F_55 aa_F_55 an_F_55 ak_F_55 da_F_55 dn_F_55 dk_F_55 q_F_55) (xs_F_55.flatMap encFJob) (encStt F_55.st)) :: Wc_F_55 :: Ac_F_55 :: Dc_F_55 :: acs_F_55.flatten :: dcs_F_55.flatten :: Qc_F_55 :: jcs_F_55.flatten :: H :: F0) from hS_62) (by simp)
      have he : stepF F x c = (F_55, [ev_53], 0) := by subst hF_56; subst hev_54; exact step_micro (by omega) hx_12 hc_28 hss_31 (hrs_31 ▸ hc_32)
      rw [he]; exact ⟨_, _, _, _, _, rfl, hO_61, ⟨_, _, _, _, _, _, _, _, _, _, _, _, _, _, _, _, _, _, _, _, rfl, hOw_F_55, hOa_F_55, hOd_F_55, hAs_F_55, hDs_F_55, hQ_F_55, hJs_F_55, hxl_F_55⟩, hS_63⟩
    refine seqE <| regionE <| pu3 ?_
    refine sLp hS_26 (ptr_up 1 rfl tri_pre) 9 (.slice aa an ak) (Tryz.isAgg78 _) ?_
    refine pu1 ?_
    refine sIdxO hOa x (x).toNat Tryz.runUnderlying78 Tryz.sizeOf87 ?_
    intro x_64 b_65 o_66 hx_67 hp_68 hq_69
    refine sLp hS_26 (hp_68.up 3 rfl) 0 (.pointer (some ⟨x_64, 0, none⟩)) (Tryz.isAgg87 _) ?_
    obtain ⟨s_70, c_71, hs_72, hc_73, hR_74⟩ := Obs.get hAs hx_67
    have hS_76 := (hS_26.pick 5 rfl)
    have hS_75 := Sat.openN (A := []) x.toNat hc_73 hS_76
    refine cX Tryz.call45 (ar_reset hR_74  (Sat.flat1 hS_75)) ?_
    rintro _ w_77 ⟨M_80, rfl, hR_81, hS_78⟩
    have hS_79 := Sat.unflat1 hS_78
    have hS_82 := ((hS_79.pick 1 rfl).pick 1 rfl)
    have hS_83 := Sat.shutN (d := M_80) (A := []) x.toNat hc_73 hS_82
    have hL_84 := Obs.set hAs hx_67 hR_81
    refine nilO <| thenK_n <| seqE <| regionE <| pu2 ?_
    have hS_85 := ((((hS_83.pick 0 rfl).pick 4 rfl).pick 4 rfl).pick 4 rfl)
    refine cX Tryz.call46 (f_idle hOw hOa hL_84 x 0 (by first | omega | (dsimp only; omega) | (simp only [List.length_set]; omega)) (by first | omega | (dsimp only; omega) | (simp only [List.length_set]; omega)) hS_85) ?_
    rintro _ w_86 ⟨Wc_88, rfl, hO_89, hS_87⟩
    refine nilO <| thenK_n <| seqE <| regionE <| pu4 ?_
    refine sLp hS_87 (ptr_up 0 rfl (tri_post (k := 332) (tri_len (sz := 5) (m := 12) (fun _ => rfl) hxl))) 2 (.int .i64 F.st.drops) (Tryz.isAgg3 _) ?_
    refine sAdd F.st.drops 1 ?_
    refine pu3 ?_
    refine sTpost hS_87 0 332 2 rfl (.int .i64 (F.st.drops + 1)) [.int .i64 (F.st.drops + 1)] [.int .i64 F.st.starts, .int .i64 F.st.commits, .int .i64 (F.st.drops + 1), .int .i64 F.st.crashes, .int .i64 F.st.steals, .int .i64 F.st.helps, .int .i64 F.st.spills, .int .i64 F.st.queued, .int .i64 F.st.held, .int .i64 F.st.cells] (tri_len (sz := 5) (m := 12) (fun _ => rfl) hxl) Tryz.sizeOf3 ?_
    intro w_90 hS_91
    refine nilO <| thenK_n <| seqE <| regionE <| pu2 ?_
    refine lA hS_91 4 1 2 (Tryz.isAgg40 _) (Tryz.sizeOf40 _) ?_
    refine pu1 ?_
    refine sBS hS_91 #[.int .i64 9, .int .i64 x, .int .i64 0, .int .i64 0, .int .i64 x_9.heldJob, .int .i64 x_9.heldTask, .int .i64 0] Tryz.runUnderlying26 Tryz.sizeOf43 Tryz.zeroValue43 ?_
    intro b_92 w_93 hS_94
    refine pu2 <| nilO <| thenK_n <| retE <| thenK_r <| retT [.slice (some ⟨b_92, 0, none⟩) 1 1, .int .i64 0] <| ?_
    have hO_95 := OwnT.blk (enc := encEvt) (sz := 7) (b := b_92) (c := #[.int .i64 9, .int .i64 x, .int .i64 0, .int .i64 0, .int .i64 x_9.heldJob, .int .i64 x_9.heldTask, .int .i64 0]) (E := 43) (xs := [(⟨9, x, 0, 0, x_9.heldJob, x_9.heldTask, 0⟩ : Evt)]) (fun _ => rfl) 1 rfl rfl rfl (by omega)
    have hS_96 : Sat W _ ([(b_92, .cells #[.int .i64 9, .int .i64 x, .int .i64 0, .int .i64 0, .int .i64 x_9.heldJob, .int .i64 x_9.heldTask, .int .i64 0] 43 (0, 0))] :: (Tri p 86 (preF F.cfg wa wn wk aa an ak da dn dk q) (xs.flatMap encFJob) [.int .i64 F.st.starts, .int .i64 F.st.commits, .int .i64 (F.st.drops + 1), .int .i64 F.st.crashes, .int .i64 F.st.steals, .int .i64 F.st.helps, .int .i64 F.st.spills, .int .i64 F.st.queued, .int .i64 F.st.held, .int .i64 F.st.cells]) :: Wc_88 :: Ac :: Dc :: (acs.set x.toNat M_80).flatten :: dcs.flatten :: Qc :: jcs.flatten :: H :: F0) := ((((((hS_94.pick 6 rfl).pick 4 rfl).pick 4 rfl).pick 4 rfl).pick 4 rfl).dropAt 6 rfl)
    have hS_98 : Sat W _ ([(b_92, .cells #[.int .i64 9, .int .i64 x, .int .i64 0, .int .i64 0, .int .i64 x_9.heldJob, .int .i64 x_9.heldTask, .int .i64 0] 43 (0, 0))] :: ((Tri p 86 (preF F.cfg wa wn wk aa an ak da dn dk q) (xs.flatMap encFJob) [.int .i64 F.st.starts, .int .i64 F.st.commits, .int .i64 (F.st.drops + 1), .int .i64 F.st.crashes, .int .i64 F.st.steals, .int .i64 F.st.helps, .int .i64 F.st.spills, .int .i64 F.st.queued, .int .i64 F.st.held, .int .i64 F.st.cells]) ++ (Wc_88 ++ (Ac ++ (Dc ++ ((acs.set x.toNat M_80).flatten ++ (dcs.flatten ++ (Qc ++ jcs.flatten))))))) :: H :: F0) := Sat.perm (show Sat W _ ([(b_92, .cells #[.int .i64 9, .int .i64 x, .int .i64 0, .int .i64 0, .int .i64 x_9.heldJob, .int .i64 x_9.heldTask, .int .i64 0] 43 (0, 0))] :: (Tri p 86 (preF F.cfg wa wn wk aa an ak da dn dk q) (xs.flatMap encFJob) [.int .i64 F.st.starts, .int .i64 F.st.commits, .int .i64 (F.st.drops + 1), .int .i64 F.st.crashes, .int .i64 F.st.steals, .int .i64 F.st.helps, .int .i64 F.st.spills, .int .i64 F.st.queued, .int .i64 F.st.held, .int .i64 F.st.cells]) :: Wc_88 :: Ac :: Dc :: (acs.set x.toNat M_80).flatten :: dcs.flatten :: Qc :: jcs.flatten :: H :: F0) from hS_96) (by simp)
    have he : stepF F x c = ((⟨F.cfg, (F.ws.set x.toNat ⟨0, 0, 0, 0, 0, 0, ((F.ar.set x.toNat (resetA s_70)).getD x.toNat default).high⟩), (F.ar.set x.toNat (resetA s_70)), F.dq, F.q, F.jobs, (⟨F.st.starts, F.st.commits, (F.st.drops + 1), F.st.crashes, F.st.steals, F.st.helps, F.st.spills, F.st.queued, F.st.held, F.st.cells⟩ : Stt)⟩ : FS), [(⟨9, x, 0, 0, x_9.heldJob, x_9.heldTask, 0⟩ : Evt)], 0) := (step_drop (by omega) hx_12 hc_28 hss_31 (hrs_31 ▸ hc_32)).trans (by unfold dropF clearF arAt; rw [getD_some hs_72, getD_some (set_at hs_72)]; rfl)
    rw [he]; exact ⟨_, _, _, _, _, rfl, hO_95, ⟨_, _, _, _, _, _, _, _, _, _, _, _, _, _, _, _, _, _, _, _, rfl, hO_89, hOa, hOd, hL_84, hDs, hQ, hJs, hxl⟩, hS_98⟩
  refine wFix 40 _ false (decide_eq_false hc_28) ?_
  refine wU [3] <| wU [4] <| wU [5] <| wU [7] <| wU [8] ?_
  refine wO rfl ?_
  refine pu1 ?_
  refine nilO ⟨⟨.inl (by kernel_rfl), .inl (by kernel_rfl), .inl (by kernel_rfl), .inl (by kernel_rfl), .inl (by kernel_rfl), .inl (by kernel_rfl), .inl (by kernel_rfl), trivial⟩, ?_⟩
  refine wU [9] <| wU [10] ?_
  refine wO rfl ?_
  refine pu1 ?_
  refine nilO ⟨⟨.inl (by kernel_rfl), .inl (by kernel_rfl), .inl (by kernel_rfl), .inl (by kernel_rfl), .inl (by kernel_rfl), .inl (by kernel_rfl), .inl (by kernel_rfl), trivial⟩, ?_⟩
  refine wU [12] <| wU [13] ?_
  refine wN ?_
  refine thenK_n <| cFf <| skipE <| thenK_n <| seqE <| seqE <| regionE ?_
  refine lA hS_26 0 0 7 (Tryz.isAgg101 _) (Tryz.sizeOf101 _) ?_
  refine cR Tryz.call42 (f_holds x_9 (Sat.flat hS_26)) ?_
  intro w_99 hS_100
  refine nilO <| thenK_n <| ?_
  refine cF _ (decide_eq_false hc_28) ?_
  refine skipE <| thenK_n <| seqE <| seqE <| regionE <| pu3 ?_
  have hS_102 : Sat W _ (Ac :: Dc :: acs.flatten :: dcs.flatten :: Qc :: jcs.flatten :: [(b_15, .cells (encWkr x_9).toArray 101 (0, 0))] :: (Tri p 86 (preF F.cfg wa wn wk aa an ak da dn dk q) (xs.flatMap encFJob) (encStt F.st)) :: Wc :: H :: F0) := ((((((hS_100.pick 8 rfl).pick 8 rfl).pick 8 rfl).pick 8 rfl).pick 8 rfl).pick 8 rfl)
  have hS_103 := ((hS_102.pick 8 rfl).pick 8 rfl)
  have hS_104 : Sat W _ (((Tri p 86 (preF F.cfg wa wn wk aa an ak da dn dk q) (xs.flatMap encFJob) (encStt F.st)) ++ (Wc ++ (Ac ++ (Dc ++ (acs.flatten ++ (dcs.flatten ++ (Qc ++ jcs.flatten))))))) :: [(b_15, .cells (encWkr x_9).toArray 101 (0, 0))] :: H :: F0) := Sat.perm (show Sat W _ ((Tri p 86 (preF F.cfg wa wn wk aa an ak da dn dk q) (xs.flatMap encFJob) (encStt F.st)) :: Wc :: Ac :: Dc :: acs.flatten :: dcs.flatten :: Qc :: jcs.flatten :: [(b_15, .cells (encWkr x_9).toArray 101 (0, 0))] :: H :: F0) from hS_103) (by simp)
  have hRx_105 : FarmR p (⟨F.cfg, F.ws, F.ar, F.dq, F.q, F.jobs, F.st⟩ : FS) ((Tri p 86 (preF F.cfg wa wn wk aa an ak da dn dk q) (xs.flatMap encFJob) (encStt F.st)) ++ (Wc ++ (Ac ++ (Dc ++ (acs.flatten ++ (dcs.flatten ++ (Qc ++ jcs.flatten))))))) := ⟨_, _, _, _, _, _, _, _, _, _, _, _, _, _, _, _, _, _, _, _, rfl, hOw, hOa, hOd, hAs, hDs, hQ, hJs, hxl⟩
  refine cX Tryz.call48 (f_acquire hRx_105 hF hst x c (by first | omega | (dsimp only; omega) | (simp only [List.length_set]; omega)) (Sat.flat1 hS_104)) ?_
  rintro _ w_106 (⟨he_113, rfl, hS_107⟩ | ⟨F_111, ev_112, M_109, he_113, rfl, hR_110, hS_107⟩)
  rotate_left
  · have hS_108 := Sat.unflat1 hS_107
    obtain ⟨wa_F_111, aa_F_111, da_F_111, wn_F_111, wk_F_111, an_F_111, ak_F_111, dn_F_111, dk_F_111, q_F_111, xs_F_111, ap_F_111, dp_F_111, Wc_F_111, Ac_F_111, Dc_F_111, Qc_F_111, acs_F_111, dcs_F_111, jcs_F_111, rfl, hOw_F_111, hOa_F_111, hOd_F_111, hAs_F_111, hDs_F_111, hQ_F_111, hJs_F_111, hxl_F_111⟩ := hR_110
    have hS_191 : Sat W _ ((Tri p 86 (preF F_111.cfg wa_F_111 wn_F_111 wk_F_111 aa_F_111 an_F_111 ak_F_111 da_F_111 dn_F_111 dk_F_111 q_F_111) (xs_F_111.flatMap encFJob) (encStt F_111.st)) :: Wc_F_111 :: Ac_F_111 :: Dc_F_111 :: acs_F_111.flatten :: dcs_F_111.flatten :: Qc_F_111 :: jcs_F_111.flatten :: [(b_15, .cells (encWkr x_9).toArray 101 (0, 0))] :: H :: F0) := Sat.perm hS_108 (by simp)
    have hwl_F_111 := hOw_F_111.len; have hwk_F_111 := hOw_F_111.le; have hal_F_111 := hOa_F_111.len; have hak_F_111 := hOa_F_111.le; have hdl_F_111 := hOd_F_111.len; have hdk_F_111 := hOd_F_111.le; have has1_F_111 := hAs_F_111.1; have hds1_F_111 := hDs_F_111.1; have hjs1_F_111 := hJs_F_111.1
    refine pu3 ?_
    refine sAlloc hS_191 Tryz.zeroValue43 ?_
    intro b_192 w_193 hS_194
    refine sT hS_194 0 0 (.agg (encEvt ev_112).toArray) (encEvt ev_112) (encEvt ev_112).toArray Tryz.sizeOf43 ?_
    intro w_195 hS_196
    refine pu1 <| nilO <| thenK_n <| seqE <| regionE <| pu1 <| nilO <| thenK_n <| cTt <| seqE <| regionE ?_
    refine lA hS_196 0 0 7 (Tryz.isAgg43 _) (Tryz.sizeOf43 _) ?_
    refine sBS hS_196 (encEvt ev_112).toArray Tryz.runUnderlying26 Tryz.sizeOf43 Tryz.zeroValue43 ?_
    intro b_197 w_198 hS_199
    refine pu2 <| nilO <| thenK_n <| retE <| thenK_r <| retT [.slice (some ⟨b_197, 0, none⟩) 1 1, .int .i64 0] <| ?_
    have hO_200 := OwnT.blk (enc := encEvt) (sz := 7) (b := b_197) (c := #[.int .i64 ev_112.kind, .int .i64 ev_112.worker, .int .i64 ev_112.from_, .int .i64 ev_112.job, .int .i64 ev_112.refJob, .int .i64 ev_112.refTask, .int .i64 ev_112.err]) (E := 43) (xs := [ev_112]) (fun _ => rfl) 1 rfl rfl rfl (by omega)
    have hS_201 := ((hS_199.dropAt 1 rfl).dropAt 9 rfl)
    have hS_202 : Sat W _ ([(b_197, .cells (encEvt ev_112).toArray 43 (0, 0))] :: ((Tri p 86 (preF F_111.cfg wa_F_111 wn_F_111 wk_F_111 aa_F_111 an_F_111 ak_F_111 da_F_111 dn_F_111 dk_F_111 q_F_111) (xs_F_111.flatMap encFJob) (encStt F_111.st)) ++ (Wc_F_111 ++ (Ac_F_111 ++ (Dc_F_111 ++ (acs_F_111.flatten ++ (dcs_F_111.flatten ++ (Qc_F_111 ++ jcs_F_111.flatten))))))) :: H :: F0) := Sat.perm (show Sat W _ ([(b_197, .cells (encEvt ev_112).toArray 43 (0, 0))] :: (Tri p 86 (preF F_111.cfg wa_F_111 wn_F_111 wk_F_111 aa_F_111 an_F_111 ak_F_111 da_F_111 dn_F_111 dk_F_111 q_F_111) (xs_F_111.flatMap encFJob) (encStt F_111.st)) :: Wc_F_111 :: Ac_F_111 :: Dc_F_111 :: acs_F_111.flatten :: dcs_F_111.flatten :: Qc_F_111 :: jcs_F_111.flatten :: H :: F0) from hS_201) (by simp)
    have he : stepF F x c = (F_111, [ev_112], 0) := (step_rest (by omega) hx_12 (by omega) hc_28).trans (rest_acq he_113)
    rw [he]; exact ⟨_, _, _, _, _, rfl, hO_200, ⟨_, _, _, _, _, _, _, _, _, _, _, _, _, _, _, _, _, _, _, _, rfl, hOw_F_111, hOa_F_111, hOd_F_111, hAs_F_111, hDs_F_111, hQ_F_111, hJs_F_111, hxl_F_111⟩, hS_202⟩
  have hS_108 := Sat.unflat1 hS_107
  have hS_114 : Sat W _ ((Tri p 86 (preF F.cfg wa wn wk aa an ak da dn dk q) (xs.flatMap encFJob) (encStt F.st)) :: Wc :: Ac :: Dc :: acs.flatten :: dcs.flatten :: Qc :: jcs.flatten :: [(b_15, .cells (encWkr x_9).toArray 101 (0, 0))] :: H :: F0) := Sat.perm hS_108 (by simp)
  refine pu3 ?_
  refine sAlloc hS_114 Tryz.zeroValue43 ?_
  intro b_115 w_116 hS_117
  refine sT hS_117 0 0 (.agg #[.int .i64 0, .int .i64 0, .int .i64 0, .int .i64 0, .int .i64 0, .int .i64 0, .int .i64 0]) [.int .i64 0, .int .i64 0, .int .i64 0, .int .i64 0, .int .i64 0, .int .i64 0, .int .i64 0] #[.int .i64 0, .int .i64 0, .int .i64 0, .int .i64 0, .int .i64 0, .int .i64 0, .int .i64 0] Tryz.sizeOf43 ?_
  intro w_118 hS_119
  refine pu1 <| nilO <| thenK_n <| seqE <| regionE <| pu1 <| nilO <| thenK_n <| cFf <| skipE <| thenK_n <| seqE <| seqE <| regionE <| pu1 <| nilO <| thenK_n <| blockE ?_
  refine loopA (γ := Nat) (fun i => [(0, .pointer (some ⟨p, 0, none⟩)), (1, .int .i64 x), (2, .int .i64 c), (11, .int .i64 ((i : Nat) : Int))]) (fun i w => Sat W w ([(b_115, .cells #[.int .i64 0, .int .i64 0, .int .i64 0, .int .i64 0, .int .i64 0, .int .i64 0, .int .i64 0] 43 (0, 0))] :: (Tri p 86 (preF F.cfg wa wn wk aa an ak da dn dk q) (xs.flatMap encFJob) (encStt F.st)) :: Wc :: Ac :: Dc :: acs.flatten :: dcs.flatten :: Qc :: jcs.flatten :: [(b_15, .cells (encWkr x_9).toArray 101 (0, 0))] :: H :: F0) ∧ i ≤ wn ∧ (firstI (canHelp F x c) F.ws.length 0 = firstI (canHelp F x c) (F.ws.length - i) i)) (fun i => wn - i) 0 ⟨hS_119, by omega, rfl⟩ ?_
  rintro i ρ w_120 ⟨hS_121, hi, hfi⟩
  refine seqE <| seqE <| regionE <| pu4 ?_
  refine sLp hS_121 (ptr_up 1 rfl tri_pre) 8 (.slice wa wn wk) (Tryz.isAgg77 _) ?_
  refine pu2 <| nilO <| thenK_n <| ?_
  refine cD (((i : Nat) : Int) < ((wn : Nat) : Int)) (fun hc_122 => ?_) (fun hc_122 => ?_)
  rotate_left
  · refine exitE <| thenK_x <| thenK_x <| blockK_x <| thenK_n <| seqE <| regionE <| pu2 ?_
    refine sBS hS_121 #[.int .i64 13, .int .i64 x, .int .i64 0, .int .i64 0, .int .i64 0, .int .i64 0, .int .i64 0] Tryz.runUnderlying26 Tryz.sizeOf43 Tryz.zeroValue43 ?_
    intro b_185 w_186 hS_187
    refine pu2 <| nilO <| thenK_n <| retE <| retT [.slice (some ⟨b_185, 0, none⟩) 1 1, .int .i64 0] <| ?_
    have hO_188 := OwnT.blk (enc := encEvt) (sz := 7) (b := b_185) (c := #[.int .i64 13, .int .i64 x, .int .i64 0, .int .i64 0, .int .i64 0, .int .i64 0, .int .i64 0]) (E := 43) (xs := [(⟨13, x, 0, 0, 0, 0, 0⟩ : Evt)]) (fun _ => rfl) 1 rfl rfl rfl (by omega)
    have hS_189 := ((hS_187.dropAt 1 rfl).dropAt 9 rfl)
    have hS_190 : Sat W _ ([(b_185, .cells #[.int .i64 13, .int .i64 x, .int .i64 0, .int .i64 0, .int .i64 0, .int .i64 0, .int .i64 0] 43 (0, 0))] :: ((Tri p 86 (preF F.cfg wa wn wk aa an ak da dn dk q) (xs.flatMap encFJob) (encStt F.st)) ++ (Wc ++ (Ac ++ (Dc ++ (acs.flatten ++ (dcs.flatten ++ (Qc ++ jcs.flatten))))))) :: H :: F0) := Sat.perm (show Sat W _ ([(b_185, .cells #[.int .i64 13, .int .i64 x, .int .i64 0, .int .i64 0, .int .i64 0, .int .i64 0, .int .i64 0] 43 (0, 0))] :: (Tri p 86 (preF F.cfg wa wn wk aa an ak da dn dk q) (xs.flatMap encFJob) (encStt F.st)) :: Wc :: Ac :: Dc :: acs.flatten :: dcs.flatten :: Qc :: jcs.flatten :: H :: F0) from hS_189) (by simp)
    have he : stepF F x c = (F, [(⟨13, x, 0, 0, 0, 0, 0⟩ : Evt)], 0) := (step_rest (by omega) hx_12 (by omega) (by omega)).trans (help_end he_113 (by omega) hfi)
    rw [he]; exact ⟨_, _, _, _, _, rfl, hO_188, ⟨_, _, _, _, _, _, _, _, _, _, _, _, _, _, _, _, _, _, _, _, rfl, hOw, hOa, hOd, hAs, hDs, hQ, hJs, hxl⟩, hS_190⟩
  refine skipE <| thenK_n <| seqE <| blockE <| seqE <| regionE <| pu3 ?_
  have hS_123 := (hS_121.pick 1 rfl)
  refine cX Tryz.call49 (f_choice c ((i : Nat) : Int) F.ws.length hwl (by omega) (by omega) hS_123) ?_
  rintro _ w_124 ⟨rfl, hS_125⟩
  have hcb_126 := choice_bd (n := ((F.ws.length : Nat) : Int)) (c := c) (i := ((i : Nat) : Int)) (by omega) (by omega)
  refine pu1 <| nilO <| thenK_n <| seqE ?_
  by_cases hc_127 : ((choiceI ((F.ws.length : Nat) : Int) c ((i : Nat) : Int)) : Int) = x
  · refine drawE [11] [] [(true, [0, 1, 2, 3]), (true, [4, 5, 6, 8, 7, 9, 10]), (false, [11]), (true, [12, 13, 14, 15, 16, 17, 19, 24, 25, 18, 20, 21, 22, 23, 26, 27, 28, 29])] rfl (by kernel_rfl) trivial ?_
    have hS_128 := hS_125.drew
    refine wU [0, 1, 2, 3] ?_
    refine wFix 109 _ false (bne_eq_false_iff_eq.2 hc_127) ?_
    refine wU [4, 5, 6, 8, 7, 9, 10] ?_
    refine wO rfl ?_
    refine pu1 ?_
    refine nilO ⟨trivial, ?_⟩
    refine wU [12, 13, 14, 15, 16, 17, 19, 24, 25, 18, 20, 21, 22, 23, 26, 27, 28, 29] ?_
    refine wN ?_
    refine thenK_n <| cFf <| skipE <| blockK_n <| thenK_n <| regionE <| pu1 ?_
    refine sAdd ((i : Nat) : Int) 1 ?_
    refine pu1 <| nilO <| thenK_n <| ?_
    have hS_129 := (hS_128.pick 1 rfl)
    exact ⟨i + 1, by first | omega | (dsimp only; omega), alA, hS_129, by omega, (help_skip (by omega) hfi (by unfold canHelp; rw [decide_eq_false (by intro hne; apply hne; unfold chF; omega)]; rfl))⟩
  obtain ⟨x_130, b_131, o_132, hx_133, hp_134, hq_135, ha_136⟩ := OwnT.elem hOw (choiceI ((F.ws.length : Nat) : Int) c ((i : Nat) : Int))
  have hwo_x_130 := hF.w x_130 (List.mem_of_getElem? hx_133); have hw1_x_130 := hwo_x_130.h; have hw2_x_130 := hwo_x_130.r
  refine drawE [11, 18, 23, 28] [(7, ⟨p, 8, none⟩, .slice wa wn wk), (10, ⟨b_131, o_132 + ((choiceI ((F.ws.length : Nat) : Int) c ((i : Nat) : Int))).toNat * 7 + 0, none⟩, .int .i64 x_130.phase), (10, ⟨b_131, o_132 + ((choiceI ((F.ws.length : Nat) : Int) c ((i : Nat) : Int))).toNat * 7 + 1, none⟩, .int .i64 x_130.heldJob), (10, ⟨b_131, o_132 + ((choiceI ((F.ws.length : Nat) : Int) c ((i : Nat) : Int))).toNat * 7 + 2, none⟩, .int .i64 x_130.heldTask), (10, ⟨b_131, o_132 + ((choiceI ((F.ws.length : Nat) : Int) c ((i : Nat) : Int))).toNat * 7 + 3, none⟩, .int .i64 x_130.attempt), (10, ⟨b_131, o_132 + ((choiceI ((F.ws.length : Nat) : Int) c ((i : Nat) : Int))).toNat * 7 + 4, none⟩, .int .i64 x_130.row), (10, ⟨b_131, o_132 + ((choiceI ((F.ws.length : Nat) : Int) c ((i : Nat) : Int))).toNat * 7 + 5, none⟩, .int .i64 x_130.used), (10, ⟨b_131, o_132 + ((choiceI ((F.ws.length : Nat) : Int) c ((i : Nat) : Int))).toNat * 7 + 6, none⟩, .int .i64 x_130.high)] [(true, [0, 1, 2, 3]), (true, [4, 5, 6, 8]), (true, [7]), (true, [9]), (true, [10]), (false, [11]), (true, [12, 13]), (true, [14]), (true, [15]), (true, [16]), (true, [17]), (true, [19]), (true, [24]), (true, [25]), (false, [18]), (true, [20]), (true, [21]), (true, [22]), (false, [23]), (true, [26]), (true, [27]), (false, [28]), (true, [29])] rfl (by kernel_rfl) ⟨.inr (cell_up hS_125 0 rfl (k := 8) tri_pre rfl), .inr ((hp_134.up 2 rfl).cell hS_125 (k := 0) rfl), .inr ((hp_134.up 2 rfl).cell hS_125 (k := 1) rfl), .inr ((hp_134.up 2 rfl).cell hS_125 (k := 2) rfl), .inr ((hp_134.up 2 rfl).cell hS_125 (k := 3) rfl), .inr ((hp_134.up 2 rfl).cell hS_125 (k := 4) rfl), .inr ((hp_134.up 2 rfl).cell hS_125 (k := 5) rfl), .inr ((hp_134.up 2 rfl).cell hS_125 (k := 6) rfl), trivial⟩ ?_
  have hS_137 := hS_125.drew
  refine wU [0, 1, 2, 3] ?_
  refine wFix 109 _ true (bne_iff_ne.2 hc_127) ?_
  refine wU [4, 5, 6, 8] ?_
  refine wLd (.slice wa wn wk) 0 Tryz.isAgg77 ?_
  refine wY (.pointer (some ⟨b_131, o_132 + ((choiceI ((F.ws.length : Nat) : Int) c ((i : Nat) : Int))).toNat * 7, none⟩)) rfl (fun w _ => Y_idx (a := wa) (i := (choiceI ((F.ws.length : Nat) : Int) c ((i : Nat) : Int))) (len := wn) (cap := wk) rfl Tryz.runUnderlying77 Tryz.sizeOf101 (by kernel_rfl) (by kernel_rfl) hq_135) ?_
  refine wY (.agg (encWkr x_130).toArray) rfl (fun w hF => Y_loadF rfl (Tryz.isAgg101 w) (Tryz.sizeOf101 w) (by kernel_rfl) rfl ⟨hF 1 _ _ rfl, hF 2 _ _ rfl, hF 3 _ _ rfl, hF 4 _ _ rfl, hF 5 _ _ rfl, hF 6 _ _ rfl, hF 7 _ _ rfl, trivial⟩) ?_
  refine wO rfl ?_
  refine gY ?_
  refine cR Tryz.call42 (f_holds x_130 (Sat.flat hS_137)) ?_
  intro w_138 hS_139
  refine nilO ⟨⟨.inr (cell_up hS_139 0 rfl (k := 8) tri_pre rfl), .inl (by kernel_rfl), .inl (by kernel_rfl), .inl (by kernel_rfl), .inl (by kernel_rfl), .inl (by kernel_rfl), .inl (by kernel_rfl), .inl (by kernel_rfl), trivial⟩, ?_⟩
  refine wU [12, 13] ?_
  rcases Classical.em ((x_130.phase = 1 ∨ x_130.phase = 2 ∨ x_130.phase = 3)) with hc_141 | hc_141
  rotate_left
  · refine wFix 119 _ false (decide_eq_false hc_141) ?_
    refine wU [14] <| wU [15] <| wU [16] <| wU [17] <| wU [19] <| wU [24] <| wU [25] ?_
    refine wO rfl ?_
    refine pu1 ?_
    refine nilO ⟨⟨.inr (cell_up hS_139 0 rfl (k := 8) tri_pre rfl), .inl (by kernel_rfl), .inl (by kernel_rfl), .inl (by kernel_rfl), .inl (by kernel_rfl), .inl (by kernel_rfl), .inl (by kernel_rfl), .inl (by kernel_rfl), trivial⟩, ?_⟩
    refine wU [20] <| wU [21] <| wU [22] ?_
    refine wO rfl ?_
    refine pu1 ?_
    refine nilO ⟨⟨.inr (cell_up hS_139 0 rfl (k := 8) tri_pre rfl), .inl (by kernel_rfl), .inl (by kernel_rfl), .inl (by kernel_rfl), .inl (by kernel_rfl), .inl (by kernel_rfl), .inl (by kernel_rfl), .inl (by kernel_rfl), trivial⟩, ?_⟩
    refine wU [26] <| wU [27] ?_
    refine wO rfl ?_
    refine pu1 ?_
    refine nilO ⟨⟨.inr (cell_up hS_139 0 rfl (k := 8) tri_pre rfl), .inl (by kernel_rfl), .inl (by kernel_rfl), .inl (by kernel_rfl), .inl (by kernel_rfl), .inl (by kernel_rfl), .inl (by kernel_rfl), .inl (by kernel_rfl), trivial⟩, ?_⟩
    refine wU [29] ?_
    refine wN ?_
    refine thenK_n <| cFf <| skipE <| blockK_n <| thenK_n <| regionE <| pu1 ?_
    refine sAdd ((i : Nat) : Int) 1 ?_
    refine pu1 <| nilO <| thenK_n <| ?_
    have hS_184 := (hS_139.pick 1 rfl)
    exact ⟨i + 1, by first | omega | (dsimp only; omega), alA, hS_184, by omega, (help_skip (by omega) hfi (by unfold canHelp busyW wAt; rw [show F.ws.getD (chF F c i).toNat default = x_130 from getD_some hx_133, decide_eq_false hc_141]; simp))⟩
  refine wFix 119 _ true (decide_eq_true hc_141) ?_
  refine wU [14] <| wU [15] <| wU [16] <| wU [17] <| wU [19] <| wU [24] <| wU [25] ?_
  refine wO rfl ?_
  refine gY ?_
  refine sLp hS_139 (ptr_up 0 rfl tri_pre) 8 (.slice wa wn wk) (Tryz.isAgg77 _) ?_
  refine nilO ⟨⟨.inr (cell_up hS_139 0 rfl (k := 8) tri_pre rfl), .inl (by kernel_rfl), .inl (by kernel_rfl), .inl (by kernel_rfl), .inl (by kernel_rfl), .inl (by kernel_rfl), .inl (by kernel_rfl), .inl (by kernel_rfl), trivial⟩, ?_⟩
  obtain ⟨x_142, b_143, o_144, hx_145, hp_146, hq_147, ha_148⟩ := OwnT.elem hOw (choiceI ((F.ws.length : Nat) : Int) c ((i : Nat) : Int))
  obtain rfl : x_130 = x_142 := Option.some.inj (hx_133.symm.trans hx_145)
  have hwo_x_130 := hF.w x_130 (List.mem_of_getElem? hx_145); have hw1_x_130 := hwo_x_130.h; have hw2_x_130 := hwo_x_130.r
  refine wY (.pointer (some ⟨b_143, o_144 + ((choiceI ((F.ws.length : Nat) : Int) c ((i : Nat) : Int))).toNat * 7, none⟩)) rfl (fun w _ => Y_idx (a := wa) (i := (choiceI ((F.ws.length : Nat) : Int) c ((i : Nat) : Int))) (len := wn) (cap := wk) rfl Tryz.runUnderlying77 Tryz.sizeOf101 (by kernel_rfl) (by kernel_rfl) hq_147) ?_
  refine wU [21] <| wU [22] ?_
  refine wO rfl ?_
  refine gY ?_
  refine sLp hS_139 (hp_146.up 2 rfl) 1 (.int .i64 x_130.heldJob) (Tryz.isAgg3 _) ?_
  refine nilO ⟨⟨.inr (cell_up hS_139 0 rfl (k := 8) tri_pre rfl), .inl (by kernel_rfl), .inl (by kernel_rfl), .inl (by kernel_rfl), .inl (by kernel_rfl), .inl (by kernel_rfl), .inl (by kernel_rfl), .inl (by kernel_rfl), trivial⟩, ?_⟩
  obtain ⟨x_149, hx_150⟩ := at_some hxl (k := (x_130.heldJob.toNat)) (by omega)
  obtain ⟨s_151, cs_151, hss_151, hcs_151, hJs_151⟩ := Obs.get hJs hx_150; obtain ⟨has_151, hrs_151, hbs_151, hns_151⟩ := hJs_151.fields; have hjos_151 := hF.j s_151 (List.mem_of_getElem? hss_151)
  refine wY (.pointer (some ⟨p, 12 + (x_130.heldJob.toNat) * 5, none⟩)) rfl (fun w _ => Y_idxA (b := p) (off := 12) x_130.heldJob (x_130.heldJob.toNat) Tryz.runUnderlying84 Tryz.sizeOf83) ?_
  refine wU [27] ?_
  refine wO rfl ?_
  refine gY ?_
  refine sLp hS_139 (ptr_up 0 rfl (tri_el (sz := 5) (n0 := 12) (fun _ => rfl) hx_150)) 1 (.bool x_149.running) (Tryz.isAgg4 _) ?_
  refine nilO ⟨⟨.inr (cell_up hS_139 0 rfl (k := 8) tri_pre rfl), .inl (by kernel_rfl), .inl (by kernel_rfl), .inl (by kernel_rfl), .inl (by kernel_rfl), .inl (by kernel_rfl), .inl (by kernel_rfl), .inl (by kernel_rfl), trivial⟩, ?_⟩
  refine wU [29] ?_
  refine wN ?_
  refine thenK_n <| ?_
  refine cB x_149.running (fun hc_152 => ?_) (fun hc_152 => ?_)
  rotate_left
  · refine skipE <| blockK_n <| thenK_n <| regionE <| pu1 ?_
    refine sAdd ((i : Nat) : Int) 1 ?_
    refine pu1 <| nilO <| thenK_n <| ?_
    have hS_183 := (hS_139.pick 1 rfl)
    exact ⟨i + 1, by first | omega | (dsimp only; omega), alA, hS_183, by omega, (help_skip (by omega) hfi (by rw [canHelp_eq hx_133 hss_151, show s_151.running = false from hrs_151 ▸ Bool.eq_false_iff.2 hc_152]; simp))⟩
  refine seqE <| regionE <| pu4 ?_
  refine sLp hS_139 (ptr_up 0 rfl (tri_post (k := 332) (tri_len (sz := 5) (m := 12) (fun _ => rfl) hxl))) 5 (.int .i64 F.st.helps) (Tryz.isAgg3 _) ?_
  refine sAdd F.st.helps 1 ?_
  refine pu3 ?_
  refine sTpost hS_139 0 332 5 rfl (.int .i64 (F.st.helps + 1)) [.int .i64 (F.st.helps + 1)] [.int .i64 F.st.starts, .int .i64 F.st.commits, .int .i64 F.st.drops, .int .i64 F.st.crashes, .int .i64 F.st.steals, .int .i64 (F.st.helps + 1), .int .i64 F.st.spills, .int .i64 F.st.queued, .int .i64 F.st.held, .int .i64 F.st.cells] (tri_len (sz := 5) (m := 12) (fun _ => rfl) hxl) Tryz.sizeOf3 ?_
  intro w_153 hS_154
  refine nilO <| thenK_n <| seqE <| regionE <| pu5 ?_
  have hro_162 := hwo_x_130.t hc_141; obtain ⟨j_155, hj_156, ha_157, hB_158, hd_159, hd_159_1, hd_159_2, hn_160, ht_161⟩ := hF.job hro_162
  have ht_161_0 := hro_162.2.2.1
  have hS_163 : Sat W _ (Ac :: Dc :: acs.flatten :: dcs.flatten :: Qc :: jcs.flatten :: (Tri p 86 (preF F.cfg wa wn wk aa an ak da dn dk q) (xs.flatMap encFJob) [.int .i64 F.st.starts, .int .i64 F.st.commits, .int .i64 F.st.drops, .int .i64 F.st.crashes, .int .i64 F.st.steals, .int .i64 (F.st.helps + 1), .int .i64 F.st.spills, .int .i64 F.st.queued, .int .i64 F.st.held, .int .i64 F.st.cells]) :: [(b_115, .cells #[.int .i64 0, .int .i64 0, .int .i64 0, .int .i64 0, .int .i64 0, .int .i64 0, .int .i64 0] 43 (0, 0))] :: Wc :: [(b_15, .cells (encWkr x_9).toArray 101 (0, 0))] :: H :: F0) := ((((((hS_154.pick 8 rfl).pick 8 rfl).pick 8 rfl).pick 8 rfl).pick 8 rfl).pick 8 rfl)
  have hS_164 := ((hS_163.pick 8 rfl).pick 7 rfl)
  have hS_165 : Sat W _ (((Tri p 86 (preF F.cfg wa wn wk aa an ak da dn dk q) (xs.flatMap encFJob) [.int .i64 F.st.starts, .int .i64 F.st.commits, .int .i64 F.st.drops, .int .i64 F.st.crashes, .int .i64 F.st.steals, .int .i64 (F.st.helps + 1), .int .i64 F.st.spills, .int .i64 F.st.queued, .int .i64 F.st.held, .int .i64 F.st.cells]) ++ (Wc ++ (Ac ++ (Dc ++ (acs.flatten ++ (dcs.flatten ++ (Qc ++ jcs.flatten))))))) :: [(b_115, .cells #[.int .i64 0, .int .i64 0, .int .i64 0, .int .i64 0, .int .i64 0, .int .i64 0, .int .i64 0] 43 (0, 0))] :: [(b_15, .cells (encWkr x_9).toArray 101 (0, 0))] :: H :: F0) := Sat.perm (show Sat W _ ((Tri p 86 (preF F.cfg wa wn wk aa an ak da dn dk q) (xs.flatMap encFJob) [.int .i64 F.st.starts, .int .i64 F.st.commits, .int .i64 F.st.drops, .int .i64 F.st.crashes, .int .i64 F.st.steals, .int .i64 (F.st.helps + 1), .int .i64 F.st.spills, .int .i64 F.st.queued, .int .i64 F.st.held, .int .i64 F.st.cells]) :: Wc :: Ac :: Dc :: acs.flatten :: dcs.flatten :: Qc :: jcs.flatten :: [(b_115, .cells #[.int .i64 0, .int .i64 0, .int .i64 0, .int .i64 0, .int .i64 0, .int .i64 0, .int .i64 0] 43 (0, 0))] :: [(b_15, .cells (encWkr x_9).toArray 101 (0, 0))] :: H :: F0) from hS_164) (by simp)
  have hRx_166 : FarmR p (⟨F.cfg, F.ws, F.ar, F.dq, F.q, F.jobs, (⟨F.st.starts, F.st.commits, F.st.drops, F.st.crashes, F.st.steals, (F.st.helps + 1), F.st.spills, F.st.queued, F.st.held, F.st.cells⟩ : Stt)⟩ : FS) ((Tri p 86 (preF F.cfg wa wn wk aa an ak da dn dk q) (xs.flatMap encFJob) [.int .i64 F.st.starts, .int .i64 F.st.commits, .int .i64 F.st.drops, .int .i64 F.st.crashes, .int .i64 F.st.steals, .int .i64 (F.st.helps + 1), .int .i64 F.st.spills, .int .i64 F.st.queued, .int .i64 F.st.held, .int .i64 F.st.cells]) ++ (Wc ++ (Ac ++ (Dc ++ (acs.flatten ++ (dcs.flatten ++ (Qc ++ jcs.flatten))))))) := ⟨_, _, _, _, _, _, _, _, _, _, _, _, _, _, _, _, _, _, _, _, rfl, hOw, hOa, hOd, hAs, hDs, hQ, hJs, hxl⟩
  refine cX Tryz.call47 (f_micro hRx_166 (choiceI ((F.ws.length : Nat) : Int) c ((i : Nat) : Int)) (by first | omega | (dsimp only; omega) | (simp only [List.length_set]; omega)) (by first | omega | (dsimp only; omega) | (simp only [List.length_set]; omega)) (by first | omega | (dsimp only; omega) | (simp only [List.length_set]; omega)) hx_133 ⟨hro_162.1, hro_162.2.1⟩ hj_156 ha_157 hB_158 ⟨ht_161_0, ht_161⟩ ⟨hn_160, hd_159⟩ ⟨hd_159_1, hd_159_2⟩ (by omega) (by first | omega | (dsimp only; omega) | (simp only [List.length_set]; omega)) (Sat.flat1 hS_165)) ?_
  rintro _ w_167 ⟨M_170, rfl, hR_171, hS_168⟩
  have hS_169 := Sat.unflat1 hS_168
  obtain ⟨ev_172, hev_173⟩ : ∃ z, z = (microF (⟨F.cfg, F.ws, F.ar, F.dq, F.q, F.jobs, (⟨F.st.starts, F.st.commits, F.st.drops, F.st.crashes, F.st.steals, (F.st.helps + 1), F.st.spills, F.st.queued, F.st.held, F.st.cells⟩ : Stt)⟩ : FS) (choiceI ((F.ws.length : Nat) : Int) c ((i : Nat) : Int))).2 := ⟨_, rfl⟩; rw [← hev_173]
  obtain ⟨F_174, hF_175⟩ : ∃ z, z = (microF (⟨F.cfg, F.ws, F.ar, F.dq, F.q, F.jobs, (⟨F.st.starts, F.st.commits, F.st.drops, F.st.crashes, F.st.steals, (F.st.helps + 1), F.st.spills, F.st.queued, F.st.held, F.st.cells⟩ : Stt)⟩ : FS) (choiceI ((F.ws.length : Nat) : Int) c ((i : Nat) : Int))).1 := ⟨_, rfl⟩
  rw [← hF_175] at hR_171
  obtain ⟨wa_F_174, aa_F_174, da_F_174, wn_F_174, wk_F_174, an_F_174, ak_F_174, dn_F_174, dk_F_174, q_F_174, xs_F_174, ap_F_174, dp_F_174, Wc_F_174, Ac_F_174, Dc_F_174, Qc_F_174, acs_F_174, dcs_F_174, jcs_F_174, rfl, hOw_F_174, hOa_F_174, hOd_F_174, hAs_F_174, hDs_F_174, hQ_F_174, hJs_F_174, hxl_F_174⟩ := hR_171
  have hS_176 : Sat W _ ((Tri p 86 (preF F_174.cfg wa_F_174 wn_F_174 wk_F_174 aa_F_174 an_F_174 ak_F_174 da_F_174 dn_F_174 dk_F_174 q_F_174) (xs_F_174.flatMap encFJob) (encStt F_174.st)) :: Wc_F_174 :: Ac_F_174 :: Dc_F_174 :: acs_F_174.flatten :: dcs_F_174.flatten :: Qc_F_174 :: jcs_F_174.flatten :: [(b_115, .cells #[.int .i64 0, .int .i64 0, .int .i64 0, .int .i64 0, .int .i64 0, .int .i64 0, .int .i64 0] 43 (0, 0))] :: [(b_15, .cells (encWkr x_9).toArray 101 (0, 0))] :: H :: F0) := Sat.perm hS_169 (by simp)
  have hwl_F_174 := hOw_F_174.len; have hwk_F_174 := hOw_F_174.le; have hal_F_174 := hOa_F_174.len; have hak_F_174 := hOa_F_174.le; have hdl_F_174 := hOd_F_174.len; have hdk_F_174 := hOd_F_174.le; have has1_F_174 := hAs_F_174.1; have hds1_F_174 := hDs_F_174.1; have hjs1_F_174 := hJs_F_174.1
  refine sBS hS_176 #[.int .i64 12, .int .i64 x, .int .i64 (choiceI ((F.ws.length : Nat) : Int) c ((i : Nat) : Int)), .int .i64 0, .int .i64 0, .int .i64 0, .int .i64 0, .int .i64 ev_172.kind, .int .i64 ev_172.worker, .int .i64 ev_172.from_, .int .i64 ev_172.job, .int .i64 ev_172.refJob, .int .i64 ev_172.refTask, .int .i64 ev_172.err] Tryz.runUnderlying26 Tryz.sizeOf43 Tryz.zeroValue43 ?_
  intro b_177 w_178 hS_179
  refine pu2 <| nilO <| thenK_n <| retE <| blockK_r <| thenK_r <| thenK_r <| blockK_r <| thenK_r <| retT [.slice (some ⟨b_177, 0, none⟩) 2 2, .int .i64 0] <| ?_
  have hO_180 := OwnT.blk (enc := encEvt) (sz := 7) (b := b_177) (c := #[.int .i64 12, .int .i64 x, .int .i64 (choiceI ((F.ws.length : Nat) : Int) c ((i : Nat) : Int)), .int .i64 0, .int .i64 0, .int .i64 0, .int .i64 0, .int .i64 ev_172.kind, .int .i64 ev_172.worker, .int .i64 ev_172.from_, .int .i64 ev_172.job, .int .i64 ev_172.refJob, .int .i64 ev_172.refTask, .int .i64 ev_172.err]) (E := 43) (xs := [(⟨12, x, (choiceI ((F.ws.length : Nat) : Int) c ((i : Nat) : Int)), 0, 0, 0, 0⟩ : Evt), ev_172]) (fun _ => rfl) 2 rfl rfl rfl (by omega)
  have hS_181 := ((hS_179.dropAt 9 rfl).dropAt 9 rfl)
  have hS_182 : Sat W _ ([(b_177, .cells #[.int .i64 12, .int .i64 x, .int .i64 (choiceI ((F.ws.length : Nat) : Int) c ((i : Nat) : Int)), .int .i64 0, .int .i64 0, .int .i64 0, .int .i64 0, .int .i64 ev_172.kind, .int .i64 ev_172.worker, .int .i64 ev_172.from_, .int .i64 ev_172.job, .int .i64 ev_172.refJob, .int .i64 ev_172.refTask, .int .i64 ev_172.err] 43 (0, 0))] :: ((Tri p 86 (preF F_174.cfg wa_F_174 wn_F_174 wk_F_174 aa_F_174 an_F_174 ak_F_174 da_F_174 dn_F_174 dk_F_174 q_F_174) (xs_F_174.flatMap encFJob) (encStt F_174.st)) ++ (Wc_F_174 ++ (Ac_F_174 ++ (Dc_F_174 ++ (acs_F_174.flatten ++ (dcs_F_174.flatten ++ (Qc_F_174 ++ jcs_F_174.flatten))))))) :: H :: F0) := Sat.perm (show Sat W _ ([(b_177, .cells #[.int .i64 12, .int .i64 x, .int .i64 (choiceI ((F.ws.length : Nat) : Int) c ((i : Nat) : Int)), .int .i64 0, .int .i64 0, .int .i64 0, .int .i64 0, .int .i64 ev_172.kind, .int .i64 ev_172.worker, .int .i64 ev_172.from_, .int .i64 ev_172.job, .int .i64 ev_172.refJob, .int .i64 ev_172.refTask, .int .i64 ev_172.err] 43 (0, 0))] :: (Tri p 86 (preF F_174.cfg wa_F_174 wn_F_174 wk_F_174 aa_F_174 an_F_174 ak_F_174 da_F_174 dn_F_174 dk_F_174 q_F_174) (xs_F_174.flatMap encFJob) (encStt F_174.st)) :: Wc_F_174 :: Ac_F_174 :: Dc_F_174 :: acs_F_174.flatten :: dcs_F_174.flatten :: Qc_F_174 :: jcs_F_174.flatten :: H :: F0) from hS_181) (by simp)
  have he : stepF F x c = (F_174, [(⟨12, x, (choiceI ((F.ws.length : Nat) : Int) c ((i : Nat) : Int)), 0, 0, 0, 0⟩ : Evt), ev_172], 0) := by subst hF_175; subst hev_173; exact (step_rest (by omega) hx_12 (by omega) (by omega)).trans (help_at he_113 (by omega) hfi (by rw [canHelp_eq hx_133 hss_151]; simp only [Bool.and_eq_true, decide_eq_true_eq]; exact ⟨by assumption, hc_141, hrs_151 ▸ hc_152⟩))
  rw [he]; exact ⟨_, _, _, _, _, rfl, hO_180, ⟨_, _, _, _, _, _, _, _, _, _, _, _, _, _, _, _, _, _, _, _, rfl, hOw_F_174, hOa_F_174, hOd_F_174, hAs_F_174, hDs_F_174, hQ_F_174, hJs_F_174, hxl_F_174⟩, hS_182⟩
theorem f_restart {p : Nat} {F : FS} {M : Chunk} {F0 : List Chunk} (hR : FarmR p F M) {K : Int} (hF : FW F K) (hst : StOk F.st K) (x : Int) (hS : Sat W w (M :: H :: F0)) :
    Calls Tryz.prog 23 #[.pointer (some ⟨p, 0, none⟩), .int .i64 x] w fun e w' => ∃ (az : Option Addr) (nz kz : Nat) (G M' : Chunk), e = .returned (.tuple #[.slice az nz kz, .int .i64 (restartF F x).2.2]) ∧ OwnT encEvt 43 7 az nz kz (restartF F x).2.1 G ∧ FarmR p (restartF F x).1 M' ∧ Sat W w' (G :: M' :: H :: F0) := by
  obtain ⟨wa, aa, da, wn, wk, an, ak, dn, dk, q, xs, ap, dp, Wc, Ac, Dc, Qc, acs, dcs, jcs, rfl, hOw, hOa, hOd, hAs, hDs, hQ, hJs, hxl⟩ := hR
  have hS : Sat W _ ((Tri p 86 (preF F.cfg wa wn wk aa an ak da dn dk q) (xs.flatMap encFJob) (encStt F.st)) :: Wc :: Ac :: Dc :: acs.flatten :: dcs.flatten :: Qc :: jcs.flatten :: H :: F0) := Sat.perm hS (by simp)
  have hwl := hOw.len; have hwk := hOw.le; have hal := hOa.len; have hak := hOa.le; have hdl := hOd.len; have hdk := hOd.le; have has1 := hAs.1; have hds1 := hDs.1; have hjs1 := hJs.1
  have hal_ := hF.al; have hdl_ := hF.dl; have hjl_ := hF.jl; have hn_ := hF.n; have hk_ := hF.k; have hs1 := hst.a; have hs2 := hst.b; have hs3 := hst.c; have hs4 := hst.d; have hs5 := hst.e; have hs6 := hst.f; have hs7 := hst.g
  refine callsA 36 Tryz.func23 rfl ?_
  refine seqE <| regionE <| pu2 <| nilO <| thenK_n <| seqE <| seqE <| regionE <| pu1 ?_
  refine cX Tryz.call35 (f_zero (by omega) hS) ?_
  rintro _ w_1 ⟨rfl, hS_2⟩
  refine pu5 ?_
  refine sD 12 (x < 0) (fun hc_3 => ?_) (fun hc_3 => ?_)
  · refine pu8 <| nilO <| thenK_n <| cTt <| seqE <| regionE <| pu2 <| nilO <| thenK_n <| retE <| thenK_r <| retT [.slice none 0 0, .int .i64 16] <| ?_
    have hS_4 := Sat.nilc hS_2
    have hS_5 : Sat W _ ([] :: ((Tri p 86 (preF F.cfg wa wn wk aa an ak da dn dk q) (xs.flatMap encFJob) (encStt F.st)) ++ (Wc ++ (Ac ++ (Dc ++ (acs.flatten ++ (dcs.flatten ++ (Qc ++ jcs.flatten))))))) :: H :: F0) := Sat.perm (show Sat W _ ([] :: (Tri p 86 (preF F.cfg wa wn wk aa an ak da dn dk q) (xs.flatMap encFJob) (encStt F.st)) :: Wc :: Ac :: Dc :: acs.flatten :: dcs.flatten :: Qc :: jcs.flatten :: H :: F0) from hS_4) (by simp)
    have he : restartF F x = (F, [], 16) := by unfold restartF; rw [if_pos (by omega)]
    rw [he]; exact ⟨_, _, _, _, _, rfl, (OwnT.nil (enc := encEvt) (E := 43) (sz := 7) (fun _ => rfl)), ⟨_, _, _, _, _, _, _, _, _, _, _, _, _, _, _, _, _, _, _, _, rfl, hOw, hOa, hOd, hAs, hDs, hQ, hJs, hxl⟩, hS_5⟩
  refine pu4 <| gY ?_
  refine sLp hS_2 (ptr_up 0 rfl tri_pre) 8 (.slice wa wn wk) (Tryz.isAgg77 _) ?_
  refine pu3 <| nilO <| thenK_n <| ?_
  refine cD (x ≥ ((wn : Nat) : Int)) (fun hc_6 => ?_) (fun hc_6 => ?_)
  · refine seqE <| regionE <| pu2 <| nilO <| thenK_n <| retE <| thenK_r <| retT [.slice none 0 0, .int .i64 16] <| ?_
    have hS_7 := Sat.nilc hS_2
    have hS_8 : Sat W _ ([] :: ((Tri p 86 (preF F.cfg wa wn wk aa an ak da dn dk q) (xs.flatMap encFJob) (encStt F.st)) ++ (Wc ++ (Ac ++ (Dc ++ (acs.flatten ++ (dcs.flatten ++ (Qc ++ jcs.flatten))))))) :: H :: F0) := Sat.perm (show Sat W _ ([] :: (Tri p 86 (preF F.cfg wa wn wk aa an ak da dn dk q) (xs.flatMap encFJob) (encStt F.st)) :: Wc :: Ac :: Dc :: acs.flatten :: dcs.flatten :: Qc :: jcs.flatten :: H :: F0) from hS_7) (by simp)
    have he : restartF F x = (F, [], 16) := by unfold restartF; rw [if_pos (by omega)]
    rw [he]; exact ⟨_, _, _, _, _, rfl, (OwnT.nil (enc := encEvt) (E := 43) (sz := 7) (fun _ => rfl)), ⟨_, _, _, _, _, _, _, _, _, _, _, _, _, _, _, _, _, _, _, _, rfl, hOw, hOa, hOd, hAs, hDs, hQ, hJs, hxl⟩, hS_8⟩
  refine skipE <| thenK_n <| seqE <| seqE <| regionE <| pu3 ?_
  refine sLp hS_2 (ptr_up 0 rfl tri_pre) 8 (.slice wa wn wk) (Tryz.isAgg77 _) ?_
  refine pu1 ?_
  refine sIdxO hOw x (x).toNat Tryz.runUnderlying77 Tryz.sizeOf101 ?_
  intro x_9 b_10 o_11 hx_12 hp_13 hq_14
  have hwo_x_9 := hF.w x_9 (List.mem_of_getElem? hx_12); have hw1_x_9 := hwo_x_9.h; have hw2_x_9 := hwo_x_9.r
  refine pu1 ?_
  refine sLp hS_2 (hp_13.up 1 rfl) 0 (.int .i64 x_9.phase) (Tryz.isAgg3 _) ?_
  refine pu1 <| nilO <| thenK_n <| ?_
  refine cN x_9.phase 4 (fun hc_15 => ?_) (fun hc_15 => ?_)
  rotate_left
  · refine seqE <| regionE <| pu2 <| nilO <| thenK_n <| retE <| thenK_r <| retT [.slice none 0 0, .int .i64 20] <| ?_
    have hS_27 := Sat.nilc hS_2
    have hS_28 : Sat W _ ([] :: ((Tri p 86 (preF F.cfg wa wn wk aa an ak da dn dk q) (xs.flatMap encFJob) (encStt F.st)) ++ (Wc ++ (Ac ++ (Dc ++ (acs.flatten ++ (dcs.flatten ++ (Qc ++ jcs.flatten))))))) :: H :: F0) := Sat.perm (show Sat W _ ([] :: (Tri p 86 (preF F.cfg wa wn wk aa an ak da dn dk q) (xs.flatMap encFJob) (encStt F.st)) :: Wc :: Ac :: Dc :: acs.flatten :: dcs.flatten :: Qc :: jcs.flatten :: H :: F0) from hS_27) (by simp)
    have he : restartF F x = (F, [], 20) := by unfold restartF wAt; rw [if_neg (by omega), getD_some hx_12, if_neg (by omega)]
    rw [he]; exact ⟨_, _, _, _, _, rfl, (OwnT.nil (enc := encEvt) (E := 43) (sz := 7) (fun _ => rfl)), ⟨_, _, _, _, _, _, _, _, _, _, _, _, _, _, _, _, _, _, _, _, rfl, hOw, hOa, hOd, hAs, hDs, hQ, hJs, hxl⟩, hS_28⟩
  refine skipE <| thenK_n <| seqE <| regionE <| pu2 ?_
  have hS_16 := ((((hS_2.pick 4 rfl).pick 3 rfl).pick 3 rfl).pick 3 rfl)
  refine cX Tryz.call46 (f_idle hOw hOa hAs x 0 (by first | omega | (dsimp only; omega) | (simp only [List.length_set]; omega)) (by first | omega | (dsimp only; omega) | (simp only [List.length_set]; omega)) hS_16) ?_
  rintro _ w_17 ⟨Wc_19, rfl, hO_20, hS_18⟩
  refine nilO <| thenK_n <| seqE <| regionE <| pu2 ?_
  refine sBS hS_18 #[.int .i64 11, .int .i64 x, .int .i64 0, .int .i64 0, .int .i64 0, .int .i64 0, .int .i64 0] Tryz.runUnderlying26 Tryz.sizeOf43 Tryz.zeroValue43 ?_
  intro b_21 w_22 hS_23
  refine pu2 <| nilO <| thenK_n <| retE <| retT [.slice (some ⟨b_21, 0, none⟩) 1 1, .int .i64 0] <| ?_
  have hO_24 := OwnT.blk (enc := encEvt) (sz := 7) (b := b_21) (c := #[.int .i64 11, .int .i64 x, .int .i64 0, .int .i64 0, .int .i64 0, .int .i64 0, .int .i64 0]) (E := 43) (xs := [(⟨11, x, 0, 0, 0, 0, 0⟩ : Evt)]) (fun _ => rfl) 1 rfl rfl rfl (by omega)
  have hS_25 := (((((hS_23.pick 5 rfl).pick 4 rfl).pick 4 rfl).pick 4 rfl).pick 4 rfl)
  have hS_26 : Sat W _ ([(b_21, .cells #[.int .i64 11, .int .i64 x, .int .i64 0, .int .i64 0, .int .i64 0, .int .i64 0, .int .i64 0] 43 (0, 0))] :: ((Tri p 86 (preF F.cfg wa wn wk aa an ak da dn dk q) (xs.flatMap encFJob) (encStt F.st)) ++ (Wc_19 ++ (Ac ++ (Dc ++ (acs.flatten ++ (dcs.flatten ++ (Qc ++ jcs.flatten))))))) :: H :: F0) := Sat.perm (show Sat W _ ([(b_21, .cells #[.int .i64 11, .int .i64 x, .int .i64 0, .int .i64 0, .int .i64 0, .int .i64 0, .int .i64 0] 43 (0, 0))] :: (Tri p 86 (preF F.cfg wa wn wk aa an ak da dn dk q) (xs.flatMap encFJob) (encStt F.st)) :: Wc_19 :: Ac :: Dc :: acs.flatten :: dcs.flatten :: Qc :: jcs.flatten :: H :: F0) from hS_25) (by simp)
  have he : restartF F x = ((⟨F.cfg, (F.ws.set x.toNat ⟨0, 0, 0, 0, 0, 0, (F.ar.getD x.toNat default).high⟩), F.ar, F.dq, F.q, F.jobs, F.st⟩ : FS), [(⟨11, x, 0, 0, 0, 0, 0⟩ : Evt)], 0) := by unfold restartF wAt; rw [if_neg (by omega), getD_some hx_12, if_pos (by omega)]; rfl
  rw [he]; exact ⟨_, _, _, _, _, rfl, hO_24, ⟨_, _, _, _, _, _, _, _, _, _, _, _, _, _, _, _, _, _, _, _, rfl, hO_20, hOa, hOd, hAs, hDs, hQ, hJs, hxl⟩, hS_26⟩
end Go.Proofs.YtimkhljglpookaaGreat
