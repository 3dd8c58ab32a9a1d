import Derived.Test.YtegmennaekipaaaGreatP2Bo
import Derived.Test.YtegmennaekipaaaGreatP2Fm6
namespace Go.Proofs.YtegmennaekipaaaGreat
open Go Go.E
set_option linter.unusedVariables false
set_option linter.unusedSimpArgs false
set_option linter.unnecessarySimpa false
set_option maxRecDepth 100000
set_option maxHeartbeats 2000000
variable {W w : World} {H : Chunk} {F : List Chunk}
-- squeezed
theorem micro_ev {F : FS} {x : Int} : (microF F x).2.kind = 6 ∨ (microF F x).2.kind = 7 ∨ ((microF F x).2.kind = 8 ∧ (microF F x).2.refJob = (wAt F x).heldJob) := by
  unfold microF
  simp only
  split
  · exact .inl rfl
  · split
    · exact .inr (.inl rfl)
    · exact .inr (.inr ⟨rfl, rfl⟩)
/-! ### steps, crashes, further jobs -/
theorem rst_le {F : FS} {K : Int} (hF : FI F K) {i : Nat} {v : Wkr} (hv : F.ws[i]? = some v) : 0 ≤ rstJ F.jobs v ∧ rstJ F.jobs v ≤ 130 := by
 obtain ⟨a, ha⟩ := at_some hF.fw.al (k := i) (List.getElem?_eq_some_iff.1 hv).1
 have A := hF.a.a i v a hv ha
 have hw := hF.fw.w v (List.mem_of_getElem? hv)
 unfold rstJ
 split
 ·omega
 ·rename_i hp
  split
  ·rename_i hr
   have hH : Holds v := by
    by_cases h : Holds v
    ·exact h
    ·have := hF.h.z i v hv h; omega
   obtain ⟨j, hj, hadd, hc⟩ := hF.h.h i v hv hH
   have hJ := hF.fw.j j (List.mem_of_getElem? hj)
   have hin := (held_in hc).1
   have hl := (hJ.b hadd).2.1
   have hlt : v.heldTask.toNat < j.tasks.length := by omega
   have hm : j.tasks.getD v.heldTask.toNat default ∈ j.tasks := by rw [List.getD_eq_getElem?_getD, List.getElem?_eq_getElem hlt]; exact List.getElem_mem hlt
   have ht := hF.a.t j (List.mem_of_getElem? hj) _ hm
   have et : taskAt F v = j.tasks.getD v.heldTask.toNat default := by unfold taskAt jobAt; rw [getD_some hj]
   rw [getD_some hj]
   have h2 := A.r2
   rw [et] at h2
   have := hw.r
   unfold restR
   split
   ·omega
   ·split
    ·have := h2 ‹_›; omega
    ·omega
  ·omega
theorem jobW_nn (j : JS) : 0 ≤ jobW j := by
  unfold jobW
  split
  · unfold waitB
    have : ∀ l : List Nat, 0 ≤ (l.map fun n => gW (j.B.st.getD n 0) (j.tasks.getD n default).rows).sum := by
      intro l
      induction l with
      | nil => exact Int.le_refl _
      | cons n l ih =>
        rw [List.map_cons, List.sum_cons]
        have h := stpR_bd (j.tasks.getD n default).rows
        have : 0 ≤ gW (j.B.st.getD n 0) (j.tasks.getD n default).rows := by unfold gW; split <;> omega
        omega
    exact this _
  · exact Int.le_refl _
theorem sum_nn {α : Type} {f : α → Int} : ∀ {l : List α}, (∀ x ∈ l, 0 ≤ f x) → 0 ≤ (l.map f).sum
  | [], _ => Int.le_refl _
  | x :: l, h => by
    have h1 := h x List.mem_cons_self
    have h2 := sum_nn (l := l) fun y hy => h y (List.mem_cons_of_mem _ hy)
    rw [List.map_cons, List.sum_cons]; omega
theorem left_nn {F : FS} {K : Int} (hF : FI F K) : 0 ≤ leftF F := by
  rw [left_eq hF.fw]
  have h1 := sum_nn (f := jobW) (l := F.jobs) fun j _ => jobW_nn j
  have h2 := sum_nn (f := rstJ F.jobs) (l := F.ws) fun v hv => by
    obtain ⟨i, hi⟩ := List.mem_iff_getElem?.1 hv
    exact (rst_le hF hi).1
  omega
/-- While no job runs, what is left are drops. -/
theorem left_idle {F : FS} {K x : Int} (hF : FI F K) (hx : 0 ≤ x ∧ x < ((F.ws.length : Nat) : Int)) (h0 : (wAt F x).phase = 0 ∨ (wAt F x).phase = 4) (hr : runK F.jobs = []) : leftF F ≤ ((F.ws.length : Nat) : Int) - 1 := by
 have hno : ∀ v ∈ F.ws, rstJ F.jobs v ≤ 1 := by
  intro v hv
  unfold rstJ
  split
  ·omega
  ·split
   ·rename_i hrun
    have := (runK_mem hF.fw).2 ⟨(hF.fw.w v hv).h, hrun⟩
    rw [hr] at this; cases this
   ·omega
 have hb : ∀ (l : List Wkr), (∀ v ∈ l, rstJ F.jobs v ≤ 1) → (l.map (rstJ F.jobs)).sum ≤ ((l.length : Nat) : Int) := by
  intro l
  induction l with
  | nil => intro _; exact Int.le_refl _
  | cons v l ih =>
   intro h
   have h1 := h v List.mem_cons_self
   have h2 := ih fun u hu => h u (List.mem_cons_of_mem _ hu)
   rw [List.map_cons, List.sum_cons, List.length_cons]; omega
 unfold leftF
 rw [hr]
 have hv := hF.fw.wmem hx
 have hs := sum_set (f := rstJ F.jobs) (b := ⟨1, 0, 0, 0, 0, 0, 0⟩) hv
 have hs0 := sum_set (f := rstJ F.jobs) (b := wAt F x) hv
 have hz : rstJ F.jobs (wAt F x) = 0 := by unfold rstJ; rw [if_pos h0]
 have hsplit : (F.ws.map (rstJ F.jobs)).sum = ((F.ws.eraseIdx x.toNat).map (rstJ F.jobs)).sum + rstJ F.jobs (wAt F x) := by
  clear hs hs0
  generalize wAt F x = v at hv
  generalize x.toNat = k at hv
  generalize F.ws = l at hv
  induction l generalizing k with
  | nil => cases hv
  | cons a l ih =>
   cases k with
   | zero => obtain rfl := Option.some.inj (show some a = some v from hv); simp only [List.eraseIdx_cons_zero, List.map_cons, List.sum_cons]; omega
   | succ k => simp only [List.eraseIdx_cons_succ, List.map_cons, List.sum_cons]; have := ih k hv; omega
 have he := hb (F.ws.eraseIdx x.toNat) fun v hv => hno v (List.mem_of_mem_eraseIdx hv)
 rw [List.length_eraseIdx, if_pos om] at he
 show (([] : List Int).map _).sum + (F.ws.map (rstW F)).sum ≤ _
 rw [show F.ws.map (rstW F) = F.ws.map (rstJ F.jobs) from rfl, hsplit, hz]
 simp only [List.map_nil, List.sum_nil]
 omega
/-- A step lowers what is left by one, unless nothing happens. -/
theorem left_step {F : FS} {K x c : Int} (hF : FI F K) (hL : LI F) (hK : K + 1 ≤ 4096) (hx : 0 ≤ x ∧ x < ((F.ws.length : Nat) : Int)) :
  ((wAt F x).phase = 4 → stepF F x c = (F, [], 20)) ∧ ((wAt F x).phase ≠ 4 → (stepF F x c).2.2 = 0 ∧ ∃ e l, (stepF F x c).2.1 = e :: l ∧
   ((e.kind = 13 ∧ (stepF F x c).1 = F ∧ runK F.jobs = [] ∧ leftF F ≤ ((F.ws.length : Nat) : Int) - 1) ∨ (e.kind ≠ 13 ∧ leftF (stepF F x c).1 = leftF F - 1))) := by
 have hv := hF.fw.wmem hx
 have hw := (hF.fw.w _ (List.mem_of_getElem? hv)).h
 have hok := (step_ok (x := x) (c := c) hF.fw hF.st hK).1
 constructor
 ·intro h; unfold stepF; rw [if_neg (fun k => k hx), if_pos h]
 ·intro h
  unfold stepF at hok ⊢
  rw [if_neg (fun k => k hx), if_neg h] at hok ⊢
  split at hok
  ·rename_i hH
   rw [if_pos hH]
   split at hok
   ·rename_i hr
    rw [if_pos hr]
    refine ⟨rfl, _, _, rfl, .inr ⟨?_, left_micro hF hx hv hH (job_some hF.fw hw) hr hok⟩⟩
    rcases micro_ev (F := F) (x := x) with k | k | k <;> omega
   ·rename_i hr
    rw [if_neg hr]
    refine ⟨rfl, _, _, rfl, .inr ⟨by show (9 : Int) ≠ 13; decide, ?_⟩⟩
    rw [left_eq hF.fw, left_eq hok]
    show (F.jobs.map jobW).sum + ((F.ws.set x.toNat ⟨0, 0, 0, 0, 0, 0, (arAt F x).high⟩).map (rstJ F.jobs)).sum = _
    rw [sum_set hv]
    have h1 : rstJ F.jobs (wAt F x) = 1 := by
     unfold rstJ; rw [if_neg om, if_neg (by exact hr)]
    have h2 : rstJ F.jobs ⟨0, 0, 0, 0, 0, 0, (arAt F x).high⟩ = 0 := by unfold rstJ; rw [if_pos (.inl rfl)]
    omega
  ·rename_i hH
   rw [if_neg hH]
   have h0 : (wAt F x).phase = 0 := by have := hF.h.z _ _ hv hH; omega
   unfold restF at hok ⊢
   split at hok
   ·rename_i q hq
    obtain ⟨r, a1, a2, a3, a4⟩ := acq_take (ev := q.2) hF.q hq
    exact ⟨rfl, _, _, rfl, .inr ⟨om, left_take hF hv h0 a3 q.1 _ hok a1 a2⟩⟩
   ·rename_i hq
    split at hok
    ·rename_i i hi
     have h2 := (first_some hi).2.2
     unfold canHelp busyW at h2
     obtain ⟨a1, a2⟩ := (Bool.and_eq_true _ _).mp ((Bool.and_eq_true _ _).mp h2).2
     have hb := chF_bd (F := F) (c := c) (i := i) hF.fw.n.1
     have hv2 := hF.fw.wmem hb
     have hw2 := (hF.fw.w _ (List.mem_of_getElem? hv2)).h
     have hFh : FI (helpF F) (K + 1) := by
      have := hF.help
      refine ⟨(hF.fw.mono om hK).ss, ?_, this.1, this.2.1, this.2.2⟩
      obtain ⟨_, _, _, _, _, _, _⟩ := hF.st
      constructor <;> (simp only [helpF]; omega)
     have h3 := left_micro (F := helpF F) hFh hb hv2 (of_decide_eq_true a1 : _ ∨ _ ∨ _) (job_some hF.fw hw2) a2 hok
     exact ⟨rfl, _, _, rfl, .inr ⟨by show (12 : Int) ≠ 13; decide, h3⟩⟩
    ·rename_i hn
     have hr := idle_none hF hL hx hH hq hn
     exact ⟨rfl, _, _, rfl, .inl ⟨rfl, rfl, hr, left_idle hF hx (.inl h0) hr⟩⟩
theorem left_crash {F : FS} {K x : Int} (hF : FI F K) (hK : K + 1 ≤ 4096) (hx : 0 ≤ x ∧ x < ((F.ws.length : Nat) : Int)) (h4 : (wAt F x).phase ≠ 4) :
  (crashF F x).2.2 = 0 ∧ leftF F - 1 ≤ leftF (crashF F x).1 ∧ leftF (crashF F x).1 ≤ leftF F + (if (wAt F x).phase ≠ 0 ∧ (wAt F x).heldTask < (((tasksF F (wAt F x).heldJob).length : Nat) : Int) then stpR ((tasksF F (wAt F x).heldJob).getD (wAt F x).heldTask.toNat default).rows else 0) := by
 have hv := hF.fw.wmem hx
 have hok := (crash_ok (x := x) hF.fw hF.st hK).1
 have hWF := wk_ok hF hv
 unfold crashF at hok ⊢
 rw [if_neg (fun k => k hx), if_neg h4] at hok ⊢
 refine ⟨rfl, ?_⟩
 dsimp only at hok ⊢
 generalize wAt F x = v at hv hok hWF h4 ⊢
 have hw := (hF.fw.w v (List.mem_of_getElem? hv)).h
 have hj := job_some hF.fw hw
 have hrl := rst_le hF hv
 rw [left_eq hF.fw, left_eq hok]
 have hz : ∀ hi : Int, rstJ F.jobs ⟨4, 0, 0, 0, 0, 0, hi⟩ = 0 := fun hi => by unfold rstJ; rw [if_pos (.inr rfl)]
 by_cases hb : busyW F v = true
 ·have hb2 := hb
  unfold busyW at hb2
  obtain ⟨a1, a2⟩ := (Bool.and_eq_true _ _).mp hb2
  have hh : v.phase = 1 ∨ v.phase = 2 ∨ v.phase = 3 := of_decide_eq_true a1
  obtain ⟨j2, c1, c2, c3⟩ := hF.h.h _ v hv hh
  rw [hj] at c1; obtain rfl := Option.some.inj c1
  have hJ := hF.fw.j _ (List.mem_of_getElem? hj)
  obtain ⟨hW, hd, _⟩ := hJ.b c2
  have hzz := (heldC_zero c3).2.1
  have hin := stAt_in hzz (by decide)
  have ht := tasks_at (F := F) hw hj c2
  have hWh := hWF.h om
  rw [ht] at hWh ⊢
  have hlt : v.heldTask.toNat < (jobAt F v.heldJob).tasks.length := by omega
  have er : retJ F v = { F with jobs := F.jobs.set v.heldJob.toNat { jobAt F v.heldJob with B := retB (jobAt F v.heldJob).B v.heldTask v.attempt }, q := pushQ F.q ⟨v.heldJob, v.heldTask⟩ (jobAt F v.heldJob).band } := by unfold retJ; rw [if_pos hb]
  have ej : (crashW (retJ F v) x).jobs = F.jobs.set v.heldJob.toNat { jobAt F v.heldJob with B := retB (jobAt F v.heldJob).B v.heldTask v.attempt } := by rw [er]; rfl
  have ew : (crashW (retJ F v) x).ws = F.ws.set x.toNat ⟨4, 0, 0, 0, 0, 0, (arAt F x).high⟩ := by rw [er]; rfl
  rw [ej, ew, sum_set hj, map_rst (fun u _ => rstJ_set (j' := { jobAt F v.heldJob with B := retB (jobAt F v.heldJob).B v.heldTask v.attempt }) hj rfl rfl u), sum_set hv, hz]
  have hm : (jobAt F v.heldJob).tasks.getD v.heldTask.toNat default ∈ (jobAt F v.heldJob).tasks := by rw [List.getD_eq_getElem?_getD, List.getElem?_eq_getElem hlt]; exact List.getElem_mem hlt
  have hrow := hF.a.t _ (List.mem_of_getElem? hj) _ hm
  have h3 : jobW { jobAt F v.heldJob with B := retB (jobAt F v.heldJob).B v.heldTask v.attempt } = jobW (jobAt F v.heldJob) + ((((jobAt F v.heldJob).tasks.getD v.heldTask.toNat default).rows) + 3) := by
   unfold jobW
   dsimp only
   rw [if_pos a2, if_pos a2, ret_eq c3]
   have es : ∀ n, ((jobAt F v.heldJob).B.st.set v.heldTask.toNat 2).getD n 0 = if v.heldTask.toNat = n then 2 else (jobAt F v.heldJob).B.st.getD n 0 := by
    intro n
    have := @getD_set (jobAt F v.heldJob).B.st v.heldTask.toNat n 2
    rw [this]
    by_cases k : v.heldTask.toNat = n
    ·rw [if_pos ⟨k, om⟩, if_pos k]
    ·rw [if_neg (fun z => k z.1), if_neg k]
   dsimp only
   rw [waitB_upd (st := (jobAt F v.heldJob).B.st) (st' := (jobAt F v.heldJob).B.st.set v.heldTask.toNat 2) hlt (fun n h1 _ => by rw [es, if_neg (fun k => h1 k.symm)]), es, if_pos rfl]
   rw [stAt_nat _ hin.1] at hzz
   rw [hzz]
   have g3 : ∀ a, gW 3 a = 0 := fun a => by unfold gW; rw [if_neg (by decide)]
   have g2 : ∀ a, gW 2 a = stpR a := fun a => by unfold gW; rw [if_pos (by decide)]
   rw [g3, g2]
   have : stpR ((jobAt F v.heldJob).tasks.getD v.heldTask.toNat default).rows = ((jobAt F v.heldJob).tasks.getD v.heldTask.toNat default).rows + 3 := by unfold stpR; rw [if_neg om]
   omega
  have hrs : rstJ F.jobs v ≤ ((jobAt F v.heldJob).tasks.getD v.heldTask.toNat default).rows + 2 := by
   rw [rst_hold hj a2 om]
   have hr0 := (hF.fw.w v (List.mem_of_getElem? hv)).r
   unfold restR
   split
   ·omega
   ·split <;> omega
  rw [h3, if_pos ⟨om, hWh.2.2.1⟩]
  have : stpR ((jobAt F v.heldJob).tasks.getD v.heldTask.toNat default).rows = ((jobAt F v.heldJob).tasks.getD v.heldTask.toNat default).rows + 3 := by unfold stpR; rw [if_neg om]
  omega
 ·have er := retJ_no (F := F) (v := v) (by simpa using hb)
  have ej : (crashW (retJ F v) x).jobs = F.jobs := by rw [er]; rfl
  have ew : (crashW (retJ F v) x).ws = F.ws.set x.toNat ⟨4, 0, 0, 0, 0, 0, (arAt F x).high⟩ := by rw [er]; rfl
  rw [ej, ew, sum_set hv, hz]
  have h1 : rstJ F.jobs v ≤ 1 := by
   unfold rstJ
   split
   ·omega
   ·rename_i hp
    split
    ·rename_i hr
     have hH := (hWF.h hp).1
     exact absurd (by unfold busyW jobAt; rw [hr, decide_eq_true hH]; rfl) hb
    ·omega
  have := stpR_bd ((tasksF F v.heldJob).getD v.heldTask.toNat default).rows
  split <;> omega
theorem wait_new {l : List Task} : waitB (newB l).st (l.map Task.v) = totR (l.map (·.rows)) := by
  have e : totR (l.map (·.rows)) = ((l.map Task.v).map fun t => stpR t.rows).sum := by unfold totR; rw [List.map_map, List.map_map]; rfl
  rw [e, list_range]
  unfold waitB
  congr 1
  refine List.map_congr_left fun n hn => ?_
  have hn := List.mem_range.1 hn
  rw [List.length_map] at hn
  have h1 : (newB l).st.getD n 0 = st0 l[n].deps.l := by
    unfold newB
    rw [List.getD_eq_getElem?_getD, List.getElem?_map, List.getElem?_eq_getElem hn]; rfl
  rw [h1]
  unfold gW
  rw [if_pos (st0_two _)]
theorem left_add {F : FS} {K K' x bd : Int} {l : List Task} {j : JS} (hF : FI F K) (hx : 0 ≤ x) (hj : F.jobs[x.toNat]? = some j) (ha : j.added = false) (hF' : FW (addF F x l bd) K') : leftF (addF F x l bd) = leftF F + totR (l.map (·.rows)) := by
 rw [left_eq hF.fw, left_eq hF']
 have ej : (addF F x l bd).jobs = F.jobs.set x.toNat (jobN l bd) := rfl
 have ew : (addF F x l bd).ws = F.ws := rfl
 rw [ej, ew, sum_set hj]
 have h0 : jobW j = 0 := by
  unfold jobW
  rw [if_neg]
  intro hr
  have := (hF.fw.j j (List.mem_of_getElem? hj)).r hr
  rw [ha] at this; cases this
 have h1 : jobW (jobN l bd) = totR (l.map (·.rows)) := by
  unfold jobW jobN
  rw [if_pos rfl]; exact wait_new
 have hr : ∀ u ∈ F.ws, rstJ (F.jobs.set x.toNat (jobN l bd)) u = rstJ F.jobs u := by
  intro u hu
  obtain ⟨y, hy⟩ := List.mem_iff_getElem?.1 hu
  by_cases hz : u.phase = 0 ∨ u.phase = 4
  ·unfold rstJ; rw [if_pos hz, if_pos hz]
  ·have hu2 : Holds u := by
    by_cases k : Holds u
    ·exact k
    ·have := hF.h.z y u hy k; omega
   obtain ⟨ju, d1, d2, d3⟩ := hF.h.h y u hy hu2
   have ek : ¬ x.toNat = u.heldJob.toNat := by
    intro k
    rw [← k, hj] at d1; obtain rfl := Option.some.inj d1
    rw [ha] at d2; cases d2
   unfold rstJ
   have e1 : (F.jobs.set x.toNat (jobN l bd)).getD u.heldJob.toNat default = F.jobs.getD u.heldJob.toNat default := by rw [List.getD_eq_getElem?_getD, List.getElem?_set, if_neg ek, ← List.getD_eq_getElem?_getD]
   rw [e1]
 rw [map_rst hr, h0, h1]; omega
end Go.Proofs.YtegmennaekipaaaGreat

namespace Go.Proofs.YtegmennaekipaaaGreat
open Go Go.E
set_option linter.unusedVariables false
set_option linter.unusedSimpArgs false
set_option linter.unnecessarySimpa false
set_option maxRecDepth 100000
set_option maxHeartbeats 2000000
variable {W w : World} {H : Chunk} {F : List Chunk}
theorem dead_set {jobs : List JS} {k x : Nat} {j' : JS} (h : (jobs.getD x default).running = false) (hj : j'.running = false ∨ j'.running = (jobs.getD k default).running) : ((jobs.set k j').getD x default).running = false := by
  rw [List.getD_eq_getElem?_getD, List.getElem?_set]
  split
  · rename_i e
    subst e
    split
    · show j'.running = false
      rcases hj with hj | hj
      · exact hj
      · rw [hj, h]
    · rfl
  · rw [← List.getD_eq_getElem?_getD]; exact h
/-! ### what no step changes; how much can be left -/
structure JInv (P : List JS → Prop) : Prop where
  s : ∀ (l : List JS) (k : Nat) (j' : JS), j'.tasks = (l.getD k default).tasks → (j'.running = false ∨ j'.running = (l.getD k default).running) → P l → P (l.set k j')
theorem JInv.take {P : List JS → Prop} (h : JInv P) {F : FS} {x : Int} {r : Ref} (p : P F.jobs) : P (takeF F x r).jobs := h.s _ _ _ rfl (.inr rfl) p
theorem JInv.micro {P : List JS → Prop} (h : JInv P) {F : FS} {x : Int} (p : P F.jobs) : P (microF F x).1.jobs := by
  unfold microF
  simp only
  split
  · exact p
  · split
    · exact p
    · split
      · exact h.s _ _ _ rfl (.inl rfl) p
      · rw [spill_jobs]; exact h.s _ _ _ rfl (.inr rfl) p
theorem JInv.acq {P : List JS → Prop} (h : JInv P) {F F' : FS} {x c : Int} {ev : Evt} (p : P F.jobs) (he : acqF F x c = some (F', ev)) : P F'.jobs := by
  unfold acqF at he
  split at he
  · obtain ⟨rfl, _⟩ := Prod.mk.inj (Option.some.inj he); exact h.take p
  · split at he
    · obtain ⟨rfl, _⟩ := Prod.mk.inj (Option.some.inj he); exact h.take p
    · unfold stealF at he
      split at he
      · cases he
      · split at he
        · cases he
        · rename_i i _ _ r _
          obtain ⟨rfl, _⟩ := Prod.mk.inj (Option.some.inj he)
          exact h.take (F := popF F (chF F c i) (dqAt F (chF F c i)).l.tail) (x := x) (r := r) p
theorem JInv.step {P : List JS → Prop} (h : JInv P) {F : FS} {x c : Int} (p : P F.jobs) : P (stepF F x c).1.jobs := by
  unfold stepF
  split
  · exact p
  · split
    · exact p
    · split
      · split
        · exact h.micro p
        · exact p
      · unfold restF
        split
        · rename_i q hq; exact h.acq (ev := q.2) p hq
        · split
          · exact h.micro (F := helpF F) p
          · exact p
theorem JInv.crash {P : List JS → Prop} (h : JInv P) {F : FS} {x : Int} (p : P F.jobs) : P (crashF F x).1.jobs := by
  unfold crashF
  split
  · exact p
  · split
    · exact p
    · show P (retJ F (wAt F x)).jobs
      unfold retJ
      split
      · exact h.s _ _ _ rfl (.inr rfl) p
      · exact p
theorem JInv.restart {P : List JS → Prop} (_ : JInv P) {F : FS} {x : Int} (p : P F.jobs) : P (restartF F x).1.jobs := by
  unfold restartF
  split
  · exact p
  · split <;> exact p
theorem JInv.cancel {P : List JS → Prop} (h : JInv P) {F : FS} {x : Int} (p : P F.jobs) : P (cancelF F x).1.jobs := by
  unfold cancelF
  split
  · exact p
  · split
    · exact p
    · exact h.s _ _ _ rfl (.inl rfl) p
/-- All tasks have at most three rows. -/
def R3L (l : List JS) : Prop := ∀ j ∈ l, ∀ z ∈ j.tasks, z.rows ≤ 3
def R3 (F : FS) : Prop := R3L F.jobs
theorem r3_inv : JInv R3L := ⟨fun l k j' ht _ p y hy => by
  rcases List.mem_or_eq_of_mem_set hy with h1 | rfl
  · exact p y h1
  · intro z hz
    rw [ht] at hz
    rcases getD_or l k with h | h
    · exact p _ h z hz
    · rw [h] at hz; exact absurd (show z ∈ ([] : List TaskV) from hz) List.not_mem_nil⟩
theorem R3.step {F : FS} {x c : Int} (h : R3 F) : R3 (stepF F x c).1 := r3_inv.step h
theorem R3.crash {F : FS} {x : Int} (h : R3 F) : R3 (crashF F x).1 := r3_inv.crash h
theorem R3.restart {F : FS} {x : Int} (h : R3 F) : R3 (restartF F x).1 := r3_inv.restart h
theorem R3.cancel {F : FS} {x : Int} (h : R3 F) : R3 (cancelF F x).1 := r3_inv.cancel h
theorem R3.new (c : Cfg) : R3 (newF c) := by
  intro j hj z hz
  rw [List.eq_of_mem_replicate (show j ∈ List.replicate 64 JS.zero from hj)] at hz
  exact absurd (show z ∈ ([] : List TaskV) from hz) List.not_mem_nil
theorem R3.add {F : FS} {x bd : Int} {l : List Task} (h : R3 F) (hl : ∀ z ∈ l, z.rows ≤ 3) : R3 (addF F x l bd) := by
  intro j hj
  rcases List.mem_or_eq_of_mem_set (show j ∈ F.jobs.set x.toNat (jobN l bd) from hj) with h1 | rfl
  · exact h j h1
  · intro z hz
    obtain ⟨y, hy, rfl⟩ := List.mem_map.1 (show z ∈ l.map Task.v from hz)
    exact hl y hy
/-- No job runs. -/
theorem nr_inv : JInv fun l => runK l = [] := ⟨fun l k j' _ hr p => by
  unfold runK at p ⊢
  rw [List.filter_eq_nil_iff] at p ⊢
  intro x hx
  have h1 := p x hx
  unfold runJ9 at h1 ⊢
  rw [Bool.not_eq_true] at h1 ⊢
  exact dead_set h1 hr⟩
structure WInv (P : List Wkr → Prop) : Prop where
  s : ∀ (l : List Wkr) (k : Nat) (v : Wkr), v.phase ≠ 4 → P l → P (l.set k v)
theorem WInv.take {P : List Wkr → Prop} (h : WInv P) {F : FS} {x : Int} {r : Ref} (p : P F.ws) : P (takeF F x r).ws := h.s _ _ _ (by show (1 : Int) ≠ 4; decide) p
theorem WInv.micro {P : List Wkr → Prop} (h : WInv P) {F : FS} {x : Int} (p : P F.ws) : P (microF F x).1.ws := by
  unfold microF
  simp only
  split
  · exact h.s _ _ _ (by show (2 : Int) ≠ 4; decide) p
  · split
    · exact h.s _ _ _ (by dsimp only; split <;> decide) p
    · split
      · show P (spillF _ _ _ _ _).ws
        rw [spill_ws]; exact h.s _ _ _ (by show (0 : Int) ≠ 4; decide) p
      · rw [spill_ws]; exact h.s _ _ _ (by show (0 : Int) ≠ 4; decide) p
theorem WInv.acq {P : List Wkr → Prop} (h : WInv P) {F F' : FS} {x c : Int} {ev : Evt} (p : P F.ws) (he : acqF F x c = some (F', ev)) : P F'.ws := by
  unfold acqF at he
  split at he
  · obtain ⟨rfl, _⟩ := Prod.mk.inj (Option.some.inj he); exact h.take p
  · split at he
    · obtain ⟨rfl, _⟩ := Prod.mk.inj (Option.some.inj he); exact h.take p
    · unfold stealF at he
      split at he
      · cases he
      · split at he
        · cases he
        · rename_i i _ _ r _
          obtain ⟨rfl, _⟩ := Prod.mk.inj (Option.some.inj he)
          exact h.take (F := popF F (chF F c i) (dqAt F (chF F c i)).l.tail) (x := x) (r := r) p
theorem WInv.step {P : List Wkr → Prop} (h : WInv P) {F : FS} {x c : Int} (p : P F.ws) : P (stepF F x c).1.ws := by
  unfold stepF
  split
  · exact p
  · split
    · exact p
    · split
      · split
        · exact h.micro p
        · exact h.s _ _ _ (by show (0 : Int) ≠ 4; decide) p
      · unfold restF
        split
        · rename_i q hq; exact h.acq (ev := q.2) p hq
        · split
          · exact h.micro (F := helpF F) p
          · exact p
def Live4 (y : Int) (l : List Wkr) : Prop := (l.getD y.toNat default).phase ≠ 4
theorem live_inv (y : Int) : WInv (Live4 y) := ⟨fun l k v hv p => by
  unfold Live4 at p ⊢
  rw [List.getD_eq_getElem?_getD, List.getElem?_set]
  split
  · split
    · exact hv
    · show (0 : Int) ≠ 4; decide
  · rw [← List.getD_eq_getElem?_getD]; exact p⟩
theorem sum_ub {α : Type} {f : α → Int} {c : Int} : ∀ {l : List α}, (∀ x ∈ l, f x ≤ c) → (l.map f).sum ≤ c * ((l.length : Nat) : Int)
  | [], _ => by simp
  | x :: l, h => by
    have h1 := h x List.mem_cons_self
    have h2 := sum_ub (l := l) fun y hy => h y (List.mem_cons_of_mem _ hy)
    rw [List.map_cons, List.sum_cons, List.length_cons, show c * (((l.length + 1 : Nat)) : Int) = c * ((l.length : Nat) : Int) + c by rw [Int.natCast_add, Int.mul_add]; simp]; omega
def addN (j : JS) : Nat := if j.added then j.tasks.length else 0
theorem jobW_3 {K : Int} {j : JS} (h : JobOk K j) (h3 : ∀ z ∈ j.tasks, z.rows ≤ 3) : jobW j ≤ 6 * ((addN j : Nat) : Int) := by
 unfold jobW
 split
 ·rename_i hr
  have ha : addN j = j.tasks.length := by unfold addN; rw [if_pos (h.r hr)]
  have h1 := sum_ub (f := fun n => gW (j.B.st.getD n 0) (j.tasks.getD n default).rows) (c := 6) (l := List.range j.tasks.length) (fun n _ => by
   show gW _ _ ≤ _
   have h9 : (j.tasks.getD n default).rows ≤ 3 := by
    rcases getD_or j.tasks n with h | h
    ·exact h3 _ h
    ·rw [h]; show (0 : Int) ≤ 3; decide
   unfold gW stpR
   split
   ·split <;> omega
   ·decide)
  rw [List.length_range] at h1
  rw [ha]; exact h1
 ·omega
theorem sum_3 : ∀ l : List JS, (∀ j ∈ l, jobW j ≤ 6 * ((addN j : Nat) : Int)) → (l.map jobW).sum ≤ 6 * ((totS (shapeF l) : Nat) : Int)
  | [], _ => by decide
  | j :: l, h => by
    have h1 := h j List.mem_cons_self
    have h2 := sum_3 l fun y hy => h y (List.mem_cons_of_mem _ hy)
    have e : totS (shapeF (j :: l)) = addN j + totS (shapeF l) := rfl
    rw [List.map_cons, List.sum_cons, e]; omega
theorem left_u3 {c : Cfg} {F : FS} {K : Int} (h : PJ c F K 3) (h3 : R3 F) (hw : c.workers ≤ 4) : leftF F ≤ 664 := by
  have hF := h.j.i
  rw [left_eq hF.fw]
  have h1 := sum_3 F.jobs fun j hj => jobW_3 (hF.fw.j j hj) (h3 j hj)
  have h2 := sum_ub (f := rstJ F.jobs) (c := 130) (l := F.ws) fun v hv => by
    obtain ⟨i, hi⟩ := List.mem_iff_getElem?.1 hv
    exact (rst_le hF hi).2
  have h4 := h.ws
  have h5 := h.s2
  omega
theorem left_zero {F : FS} {K x : Int} (hF : FI F K) (hL : LI F) (hK : K + 1 ≤ 4096) (hx : 0 ≤ x ∧ x < ((F.ws.length : Nat) : Int)) (h4 : Live4 x F.ws) (h0 : leftF F ≤ 0) : runK F.jobs = [] := by
  have h := ((left_step (x := x) (c := 0) hF hL hK hx).2 h4).2
  obtain ⟨e, l, _, h | h⟩ := h
  · exact h.2.2.1
  · have := left_nn (hF.step (x := x) (c := 0) hK)
    omega
theorem live_restart {F : FS} {x : Int} (hx : 0 ≤ x ∧ x < ((F.ws.length : Nat) : Int)) : Live4 x (restartF F x).1.ws := by
  unfold restartF
  rw [if_neg (fun k => k hx)]
  unfold Live4
  split
  · show ((F.ws.set x.toNat _).getD x.toNat default).phase ≠ 4
    rw [List.getD_eq_getElem?_getD, List.getElem?_set, if_pos rfl, if_pos (by omega)]; show (0 : Int) ≠ 4; decide
  · rename_i h; exact h
/-- What is known behind a step of a worker: x = y: it lives. -/
structure EI (F : FS) (y n : Int) : Prop where
  l : Live4 y F.ws
  d : runK F.jobs = [] ∨ leftF F ≤ n
theorem EI.other {F : FS} {K x y c n : Int} (h : EI F y n) (hF : FI F K) (hL : LI F) (hK : K + 1 ≤ 4096) (hx : 0 ≤ x ∧ x < ((F.ws.length : Nat) : Int)) : EI (stepF F x c).1 y n := by
  refine ⟨(live_inv y).step h.l, ?_⟩
  rcases h.d with h1 | h1
  · exact .inl (nr_inv.step h1)
  · right
    have h2 := left_step (x := x) (c := c) hF hL hK hx
    by_cases h4 : (wAt F x).phase = 4
    · rw [h2.1 h4]; exact h1
    · obtain ⟨_, e, l, _, h3 | h3⟩ := h2.2 h4
      · rw [h3.2.1]; exact h1
      · omega
theorem EI.own {F : FS} {K x c n : Int} (h : EI F x n) (hF : FI F K) (hL : LI F) (hK : K + 1 ≤ 4096) (hx : 0 ≤ x ∧ x < ((F.ws.length : Nat) : Int)) : EI (stepF F x c).1 x (n - 1) ∧ (stepF F x c).2.2 = 0 := by
 obtain ⟨h1, e, l, _, h2⟩ := (left_step (x := x) (c := c) hF hL hK hx).2 h.l
 refine ⟨⟨(live_inv x).step h.l, ?_⟩, h1⟩
 rcases h.d with h3 | h3
 ·exact .inl (nr_inv.step h3)
 ·rcases h2 with h4 | h4
  ·left; rw [h4.2.1]; exact h4.2.2.1
  ·right; omega
end Go.Proofs.YtegmennaekipaaaGreat

namespace Go.Proofs.YtegmennaekipaaaGreat
open Go Go.E
set_option linter.unusedVariables false
set_option linter.unusedSimpArgs false
set_option linter.unnecessarySimpa false
set_option maxRecDepth 100000
set_option maxHeartbeats 2000000
variable {W w : World} {H : Chunk} {F : List Chunk}
theorem l29_pair {p : Nat} {a : Option Addr} {n k : Nat} {i : Int} {xs : List Int} (hR : RdT encI 1 [H] a n k xs) (hi : 0 ≤ i ∧ i ≤ n) (hS : Sat W w ([(p, .cells #[.slice a n k, I i] 73 (0, 0))] :: H :: F)) (m0 : Int) (hm : 0 ≤ m0 ∧ m0 ≤ 60) :
  Calls Tryz.prog 33 #[Pt p 0, I m0] w fun e w' => ∃ (pa : Nat) (pb : Nat) (c : Cfg) (F1 : FS) (M1 : Chunk) (N1 : Chunk), e = .returned (.tuple #[Pt pa 0, Pt pb 0, .agg (encCfg c).toArray]) ∧ (validCfg c = 0) ∧ (c.workers ≤ 4 ∧ c.arena = 4096 ∧ c.tasks = 512) ∧ (FarmP pa F1 M1) ∧ (FarmR pb F1 N1) ∧ (PJ c F1 m0 3) ∧ (LI F1) ∧ (R3 F1) ∧ ∃ i' : Int, (0 ≤ i' ∧ i' ≤ n) ∧ Sat W w' ([(p, .cells #[.slice a n k, I i'] 73 (0, 0))] :: M1 :: N1 :: H :: F) := by
 have hle := hR.le
 refine callsA 112 Tryz.func33 rfl ?_
 refine sR <| pu2 ?_
 refine sAlloc hS Tryz.zeroValue26 ?_
 intro k0 _ t1
 refine nT <| sR <| pu1 ?_
 have u1 := (t1.pick 1 rfl)
 refine cX Tryz.call9 (tg_config (RdT.flat (hR.up 1 (by rfl))) om (Sat.flat1 u1) ) ?_
 rintro _ _ ⟨f0, rfl, v1, w1, t0, _, x1⟩
 have y1 := Sat.unflat1 x1
 refine sAlloc y1 Tryz.zeroValue26 ?_
 intro b0 _ z1
 refine sT z1 0 0 (.agg (encCfg f0).toArray) (encCfg f0) (encCfg f0).toArray Tryz.sizeOf26 ?_
 intro _ a2
 refine nT <| sR <| pu1 ?_
 refine tW a2 0 3 (I 4096) Tryz.sizeOf3 ?_
 intro _ b2
 refine pu1 ?_
 refine tW b2 0 5 (I 512) Tryz.sizeOf3 ?_
 intro c2 d2
 refine nilO ?_
 obtain ⟨c, hc⟩ : ∃ z : Cfg, z = (⟨f0.workers, f0.tileW, f0.tileH, 4096, f0.deque, 512, f0.cells, f0.jobs⟩ : Cfg) := ⟨_, rfl⟩
 have u0 : Sat W c2 ([(b0, .cells (encCfg c).toArray 26 (0, 0))] :: [(p, .cells #[.slice a n k, I t0] 73 (0, 0))] :: [(k0, .cells #[I 0, I 0, I 0, I 0, I 0, I 0, I 0, I 0] 26 (0, 0))] :: H :: F) := by subst hc; exact d2
 have hv : validCfg c = 0 := by have h := validCfg_zero v1; subst hc; unfold validCfg; rw [if_pos (by dsimp only; omega)]
 have hvc0 := validCfg_zero hv; have hw4 : c.workers ≤ 4 := (by subst hc; exact w1); have hc4 : c.arena = 4096 := (by subst hc; rfl); have hc5 : c.tasks = 512 := (by subst hc; rfl)
 refine thenK_n <| sR ?_
 refine lA u0 0 0 8 (Tryz.isAgg26 _) (Tryz.sizeOf26 _) ?_
 have v0 : validCfg c = 0 := hv
 refine cX Tryz.call12 (pf_new c v0 u0) ?_
 rintro _ _ ⟨i0, e2, rfl, f2, w0⟩
 have v6 := FJ.new v0
 refine pu5 <| nT <| sR ?_
 refine lA w0 1 0 8 (Tryz.isAgg26 _) (Tryz.sizeOf26 _) ?_
 refine cX Tryz.call13 (f_new c hv w0) ?_
 rintro _ _ ⟨j0, g2, rfl, h2, i2⟩
 refine pu5 <| nT <| seqE <| sR <| pu6 <| nT <| cFf <| kT <| seqE <| sR <| pu1 <| nT <| blockE ?_
 have j2 := (i2.picks [1, 2, 4, 4])
 refine loopA (γ := Nat × Int × FS × Chunk × Chunk) (fun ⟨i, it, F1, M1, N1⟩ => [(0, Pt p 0), (1, I m0), (6, Pt k0 0), (7, Pt b0 0), (8, Pt i0 0), (10, Pt j0 0), (12, I ((i : Nat) : Int))]) (fun ⟨i, it, F1, M1, N1⟩ w => Sat W w ([(p, .cells #[.slice a n k, I it] 73 (0, 0))] :: [(k0, .cells #[I 0, I 0, I 0, I 0, I 0, I 0, I 0, I 0] 26 (0, 0))] :: [(b0, .cells (encCfg c).toArray 26 (0, 0))] :: M1 :: N1 :: H :: F) ∧ i ≤ 3 ∧ (0 ≤ it ∧ it ≤ n) ∧ FarmP i0 F1 M1 ∧ FarmR j0 F1 N1 ∧ PJ c F1 0 i ∧ LI F1 ∧ R3 F1) (fun ⟨i, it, F1, M1, N1⟩ => 3 - i) (0, t0, (newF c), e2, g2) ⟨j2, om, om, f2, h2, PJ.new hv, (LI.new c), (R3.new c)⟩ ?_
 rintro ⟨i, it, F1, M1, N1⟩ ρ _ ⟨x0, hi, hit, hFR, hFN, hPJ, hLI, hR3⟩
 refine seqE <| sR <| pu2 <| nT ?_
 refine cD (((i : Nat) : Int) < 3) (fun k2 => ?_) (fun k2 => ?_)
 ·refine kT <| seqE <| blockE <| sR <| pu1 ?_
  refine cX Tryz.call15 (tg_tasks (RdT.flat (hR.up 4 (by rfl))) om (Sat.flat1 x0) 7 om) ?_
  rintro _ _ ⟨y0, z0, a1, g0, _, _, rfl, o0, b1, l2, q0, m2, _, _, n2⟩
  have o2 := Sat.unflat3 n2
  have hn_zs_44 := o0.len; have hl_zs_44 := o0.le
  refine pu1 ?_
  refine cX Tryz.call10 (tape_next (RdT.flat (hR.up 6 (by rfl))) om (Sat.flat1 o2) 4 om) ?_
  rintro _ _ ⟨h0, rfl, _, p2, _, q2⟩
  have r2 := Sat.unflat1 q2
  refine pu2 <| nT <| sR <| pu4 ?_
  have s2 := (r2.pick 5 rfl)
  obtain ⟨c1, r0, d1⟩ := hPJ.fresh om
  have s0 : validC g0 = 0 := validC_ok om om l2.2.2
  have hld := hPJ.load; have hcf := hPJ.cf
  have e1 : 0 ≤ ((i : Nat) : Int) ∧ ((i : Nat) : Int) < 64 := by omega
  have f1 : 0 ≤ h0 ∧ h0 < 4 := by omega
  have g1 : validC g0 = 0 := s0
  have h1 : ∀ z ∈ g0, z.scratch ≤ F1.cfg.arena := (fun z hz => by rw [hcf, hc4]; have := q0 z hz; omega)
  have t2 : 0 ≤ F1.cfg.tasks ∧ F1.cfg.tasks ≤ 4096 := by rw [hcf, hc5]; omega
  have i1 : ((g0.length : Nat) : Int) ≤ F1.cfg.tasks - loadL F1.jobs := by rw [hcf, hc5]; omega
  have u2 : g0.length ≤ 12 := by omega
  have j1 : F1.jobs[(((i : Nat) : Int)).toNat]? = some c1 := r0
  have k1 : JS.added c1 = false := d1
  refine cX Tryz.call17 (pf_add hFR hPJ.j.i ((i : Nat) : Int) y0 z0 a1 g0 h0 (RdT.flat (o0.rdAt 1 (by rfl))) (fun z hz => (b1 z hz).of_mem (mem_flat1 2 (by rfl))) e1 j1 k1 f1 g1 h1 t2 i1  (Sat.flat1 s2)) ?_
  rintro _ _ ⟨v2, rfl, w2, x2⟩
  have y2 := Sat.unflat1 x2
  have h7 := hPJ.j.add e1 j1 k1 f1 g1 h1 i1 u2
  have z2 := hPJ.add (bd := h0) om om s0 (fun z hz => by rw [hcf, hc4]; have := q0 z hz; omega) om om
  have a3 := hLI.add (bd := h0) r0 (l := g0) om
  have hR3_84 := R3.add (x := ((i : Nat) : Int)) (bd := h0) hR3 m2
  refine nT <| regionE <| pu4 ?_
  have b3 := (y2.pick 6 rfl)
  refine cX Tryz.call18 (f_add hFN hPJ.j.i.fw hPJ.j.i.st ((i : Nat) : Int) y0 z0 a1 g0 h0 (RdT.flat (o0.rdAt 2 (by rfl))) (fun z hz => (b1 z hz).of_mem (mem_flat1 3 (by rfl))) om r0 d1 om s0 (fun z hz => by rw [hcf, hc4]; have := q0 z hz; omega) (by rw [hcf, hc5]; omega) (by rw [hcf, hc5]; omega) (Sat.flat1 b3)) ?_
  rintro _ _ ⟨c3, rfl, d3, e3⟩
  have f3 := Sat.unflat1 e3
  refine nB <| regionE <| pu1 ?_
  refine sAdd ((i : Nat) : Int) 1 ?_
  refine pu1 <| nT ?_
  have g3 := ((f3.picks [1, 6, 6, 4]).drops [5, 5])
  exact ⟨(i + 1, p2, (addF F1 ((i : Nat) : Int) g0 h0), v2, c3), od, alA, g3, om, om, w2, d3, z2, a3, hR3_84⟩
 refine exitE <| xB <| thenK_n <| seqE <| sR <| pu1 <| nT <| blockE ?_
 refine loopA (γ := Nat × Int × FS × Chunk × Chunk) (fun ⟨u, iu, F2, M2, N2⟩ => [(0, Pt p 0), (1, I m0), (6, Pt k0 0), (7, Pt b0 0), (8, Pt i0 0), (10, Pt j0 0), (15, I ((u : Nat) : Int))]) (fun ⟨u, iu, F2, M2, N2⟩ w => Sat W w ([(p, .cells #[.slice a n k, I iu] 73 (0, 0))] :: [(k0, .cells #[I 0, I 0, I 0, I 0, I 0, I 0, I 0, I 0] 26 (0, 0))] :: [(b0, .cells (encCfg c).toArray 26 (0, 0))] :: M2 :: N2 :: H :: F) ∧ u ≤ m0.toNat ∧ (0 ≤ iu ∧ iu ≤ n) ∧ FarmP i0 F2 M2 ∧ FarmR j0 F2 N2 ∧ PJ c F2 ((u : Nat) : Int) i ∧ LI F2 ∧ R3 F2) (fun ⟨u, iu, F2, M2, N2⟩ => m0.toNat - u) (0, it, F1, M1, N1) ⟨x0, om, om, hFR, hFN, hPJ, hLI, hR3⟩ ?_
 rintro ⟨u, iu, F2, M2, N2⟩ ρ _ ⟨e0, hk, hiu, hFR2, hFN2, hPJ2, hLI2, hR32⟩
 have hws2 := hPJ2.ws
 refine seqE <| sR <| pu4 ?_
 refine sD 60 (((u : Nat) : Int) < m0) (fun h3 => ?_) (fun h3 => ?_)
 rotate_left
 ·refine pu3 <| nT <| cFf <| exitE <| xB <| thenK_n <| seqE ?_
  refine drawE [5] [(2, ⟨b0, 0, none⟩, I c.workers), (2, ⟨b0, 1, none⟩, I c.tileW), (2, ⟨b0, 2, none⟩, I c.tileH), (2, ⟨b0, 3, none⟩, I c.arena), (2, ⟨b0, 4, none⟩, I c.deque), (2, ⟨b0, 5, none⟩, I c.tasks), (2, ⟨b0, 6, none⟩, I c.cells), (2, ⟨b0, 7, none⟩, I c.jobs)] [(true, [0, 1, 3, 4]), (true, [2]), (false, [5])] rfl kr ⟨.inr (e0.cell 2 rfl rfl), .inr (e0.cell 2 rfl rfl), .inr (e0.cell 2 rfl rfl), .inr (e0.cell 2 rfl rfl), .inr (e0.cell 2 rfl rfl), .inr (e0.cell 2 rfl rfl), .inr (e0.cell 2 rfl rfl), .inr (e0.cell 2 rfl rfl), trivial⟩ ?_
  have i3 := e0.drew
  refine wU [0, 1, 3, 4] ?_
  refine wY (.agg (encCfg c).toArray) rfl (fun w hF => Y_loadF rfl (Tryz.isAgg26 w) (Tryz.sizeOf26 w) kr rfl ⟨hF 0 _ _ rfl, hF 1 _ _ rfl, hF 2 _ _ rfl, hF 3 _ _ rfl, hF 4 _ _ rfl, hF 5 _ _ rfl, hF 6 _ _ rfl, hF 7 _ _ rfl, trivial⟩) ?_
  refine wO rfl ?_
  refine sT i3 1 0 (.agg (encCfg c).toArray) (encCfg c) (encCfg c).toArray Tryz.sizeOf26 ?_
  intro _ l1
  refine nilO ⟨dA, ?_⟩
  refine wN ?_
  refine thenK_n <| retE <| retN (vs := [Pt i0 0, Pt j0 0, .agg (encCfg c).toArray]) rfl (.cons (.tmp _ _ kr) (.cons (.tmp _ _ kr) (.cons (.cell _ _ _ _ kr (lvA l1 1 0 (encCfg c) (Tryz.isAgg26 _) (Tryz.sizeOf26 _) rfl rfl rfl)) .nil))) ?_
  have j3 := (l1.drops [1, 1])
  exact ⟨_, _, c, F2, M2, N2, rfl, hv, ⟨hw4, hc4, hc5⟩, hFR2, hFN2, (by rw [show i = 3 by omega] at hPJ2; exact hPJ2.mono om om), hLI2, hR32, _, om, j3⟩
 refine pu1 <| gY ?_
 refine cX Tryz.call14 (tape_left (RdT.flat (hR.up 4 (by rfl))) om (Sat.flat1 e0)) ?_
 rintro _ _ ⟨k3, rfl, l3⟩
 have d0 := Sat.unflat1 l3
 refine pu1 <| nT ?_
 cases k3
 ·refine cFf <| exitE <| xB <| thenK_n <| seqE ?_
  refine drawE [5] [(2, ⟨b0, 0, none⟩, I c.workers), (2, ⟨b0, 1, none⟩, I c.tileW), (2, ⟨b0, 2, none⟩, I c.tileH), (2, ⟨b0, 3, none⟩, I c.arena), (2, ⟨b0, 4, none⟩, I c.deque), (2, ⟨b0, 5, none⟩, I c.tasks), (2, ⟨b0, 6, none⟩, I c.cells), (2, ⟨b0, 7, none⟩, I c.jobs)] [(true, [0, 1, 3, 4]), (true, [2]), (false, [5])] rfl kr ⟨.inr (d0.cell 2 rfl rfl), .inr (d0.cell 2 rfl rfl), .inr (d0.cell 2 rfl rfl), .inr (d0.cell 2 rfl rfl), .inr (d0.cell 2 rfl rfl), .inr (d0.cell 2 rfl rfl), .inr (d0.cell 2 rfl rfl), .inr (d0.cell 2 rfl rfl), trivial⟩ ?_
  have m3 := d0.drew
  refine wU [0, 1, 3, 4] ?_
  refine wY (.agg (encCfg c).toArray) rfl (fun w hF => Y_loadF rfl (Tryz.isAgg26 w) (Tryz.sizeOf26 w) kr rfl ⟨hF 0 _ _ rfl, hF 1 _ _ rfl, hF 2 _ _ rfl, hF 3 _ _ rfl, hF 4 _ _ rfl, hF 5 _ _ rfl, hF 6 _ _ rfl, hF 7 _ _ rfl, trivial⟩) ?_
  refine wO rfl ?_
  refine sT m3 1 0 (.agg (encCfg c).toArray) (encCfg c) (encCfg c).toArray Tryz.sizeOf26 ?_
  intro _ m1
  refine nilO ⟨dA, ?_⟩
  refine wN ?_
  refine thenK_n <| retE <| retN (vs := [Pt i0 0, Pt j0 0, .agg (encCfg c).toArray]) rfl (.cons (.tmp _ _ kr) (.cons (.tmp _ _ kr) (.cons (.cell _ _ _ _ kr (lvA m1 1 0 (encCfg c) (Tryz.isAgg26 _) (Tryz.sizeOf26 _) rfl rfl rfl)) .nil))) ?_
  have n3 := (m1.drops [1, 1])
  exact ⟨_, _, c, F2, M2, N2, rfl, hv, ⟨hw4, hc4, hc5⟩, hFR2, hFN2, (by rw [show i = 3 by omega] at hPJ2; exact hPJ2.mono om om), hLI2, hR32, _, om, n3⟩
 refine cTt <| kT <| seqE <| blockE <| sR <| pu2 ?_
 refine sL d0 2 0 (I c.workers) (Tryz.isAgg3 _) ?_
 refine cX Tryz.call10 (tape_next (RdT.flat (hR.up 4 (by rfl))) om (Sat.flat1 d0) c.workers om) ?_
 rintro _ _ ⟨a0, rfl, _, _, _, o3⟩
 have p3 := Sat.unflat1 o3
 refine pu1 ?_
 refine cX Tryz.call10 (tape_next (RdT.flat (hR.up 4 (by rfl))) om (Sat.flat1 p3) 9 om) ?_
 rintro _ _ ⟨c0, rfl, _, _, _, q3⟩
 have r3 := Sat.unflat1 q3
 refine pu2 <| nT <| sR <| pu1 ?_
 refine cX Tryz.call10 (tape_next (RdT.flat (hR.up 4 (by rfl))) om (Sat.flat1 r3) 14 om) ?_
 rintro _ _ ⟨p0, rfl, _, l0, _, s3⟩
 have n0 := Sat.unflat1 s3
 refine nT <| blockE <| sR <| pu2 <| nT ?_
 refine cE p0 0 (fun t3 => ?_) (fun t3 => ?_)
 ·refine sR <| pu2 ?_
  have u3 := (n0.pick 3 rfl)
  refine cX Tryz.call19 (pf_crash hFR2 hPJ2.j.i a0  (Sat.flat1 u3)) ?_
  rintro _ _ ⟨_, _, _, _, v3, rfl, n1, w3, x3⟩
  have y3 := Sat.unflat2 x3; have hn_az_129 := n1.len; have hl_az_129 := n1.le
  have d8 := FJ.crash (x := a0) hPJ2.j om
  have z3 := y3.dropAt 0 rfl
  have a4 := LI.crash (x := a0) hLI2 hPJ2.j.i
  have hR3_139 := R3.crash (x := a0) hR32
  have b4 := PJ.crash a0 hPJ2 om
  refine nT <| regionE <| pu2 ?_
  have c4 := (z3.pick 4 rfl)
  refine cX Tryz.call20 (f_crash hFN2 hPJ2.j.i.fw hPJ2.j.i.st a0 om (Sat.flat1 c4)) ?_
  rintro _ _ ⟨_, _, _, _, d4, rfl, _, e4, f4⟩
  have g4 := (Sat.unflat2 f4).dropAt 0 rfl
  refine nilO <| blockK_n <| blockK_n <| thenK_n <| regionE <| pu1 ?_
  refine sAdd ((u : Nat) : Int) 1 ?_
  refine pu1 <| nT ?_
  have h4 := (g4.picks [1, 4, 4, 4])
  exact ⟨(u + 1, l0, (crashF F2 a0).1, v3, d4), od, alA, h4, om, om, w3, e4, (b4.mono om om), a4, hR3_139⟩
 refine seqE <| sR <| pu2 <| nT ?_
 refine cE p0 1 (fun o1 => ?_) (fun o1 => ?_)
 ·refine kT ?_
  refine cT _ (beq_iff_eq.2 o1) ?_
  refine sR <| pu2 ?_
  have i4 := (n0.pick 3 rfl)
  refine cX Tryz.call21 (pf_restart hFR2 hPJ2.j.i a0  (Sat.flat1 i4)) ?_
  rintro _ _ ⟨_, _, _, _, j4, rfl, p1, k4, l4⟩
  have m4 := Sat.unflat2 l4; have hn_az_158 := p1.len; have hl_az_158 := p1.le
  have p8 := FJ.restart (x := a0) hPJ2.j om
  have n4 := m4.dropAt 0 rfl
  have o4 := LI.restart (x := a0) hLI2 hPJ2.j.i
  have hR3_168 := R3.restart (x := a0) hR32
  have p4 := PJ.restart a0 hPJ2 om
  refine nT <| regionE <| pu2 ?_
  have q4 := (n4.pick 4 rfl)
  refine cX Tryz.call22 (f_restart hFN2 hPJ2.j.i.fw hPJ2.j.i.st a0  (Sat.flat1 q4)) ?_
  rintro _ _ ⟨_, _, _, _, r4, rfl, _, s4, t4⟩
  have u4 := (Sat.unflat2 t4).dropAt 0 rfl
  refine nilO <| blockK_n <| blockK_n <| thenK_n <| regionE <| pu1 ?_
  refine sAdd ((u : Nat) : Int) 1 ?_
  refine pu1 <| nT ?_
  have v4 := (u4.picks [1, 4, 4, 4])
  exact ⟨(u + 1, l0, (restartF F2 a0).1, j4, r4), od, alA, v4, om, om, k4, s4, (p4.mono om om), o4, hR3_168⟩
 refine regionE <| pu2 <| nT ?_
 refine cE p0 2 (fun w4 => ?_) (fun w4 => ?_)
 ·refine sR <| pu2 ?_
  have x4 := (n0.pick 3 rfl)
  refine cX Tryz.call21 (pf_restart hFR2 hPJ2.j.i a0  (Sat.flat1 x4)) ?_
  rintro _ _ ⟨_, _, _, _, y4, rfl, q1, z4, a5⟩
  have b5 := Sat.unflat2 a5; have hn_az_187 := q1.len; have hl_az_187 := q1.le
  have b9 := FJ.restart (x := a0) hPJ2.j om
  have c5 := b5.dropAt 0 rfl
  have d5 := LI.restart (x := a0) hLI2 hPJ2.j.i
  have hR3_197 := R3.restart (x := a0) hR32
  have e5 := PJ.restart a0 hPJ2 om
  refine nT <| regionE <| pu2 ?_
  have f5 := (c5.pick 4 rfl)
  refine cX Tryz.call22 (f_restart hFN2 hPJ2.j.i.fw hPJ2.j.i.st a0  (Sat.flat1 f5)) ?_
  rintro _ _ ⟨_, _, _, _, g5, rfl, _, h5, i5⟩
  have j5 := (Sat.unflat2 i5).dropAt 0 rfl
  refine nilO <| blockK_n <| blockK_n <| thenK_n <| regionE <| pu1 ?_
  refine sAdd ((u : Nat) : Int) 1 ?_
  refine pu1 <| nT ?_
  have k5 := (j5.picks [1, 4, 4, 4])
  exact ⟨(u + 1, l0, (restartF F2 a0).1, y4, g5), od, alA, k5, om, om, z4, h5, (e5.mono om om), d5, hR3_197⟩
 refine sR <| pu2 <| nT ?_
 refine cE p0 3 (fun l5 => ?_) (fun l5 => ?_)
 rotate_left
 ·refine sR <| pu3 ?_
  have m5 := (n0.pick 3 rfl)
  refine cX Tryz.call25 (pf_step hFR2 hPJ2.j.i a0 c0 hPJ2.j.t om (Sat.flat1 m5)) ?_
  rintro _ _ ⟨_, _, _, _, n5, rfl, r1, o5, p5⟩
  have q5 := Sat.unflat2 p5; have hn_az_244 := r1.len; have hl_az_244 := r1.le
  have n9 := FJ.step (x := a0) (c := c0) hPJ2.j om
  have r5 := q5.dropAt 0 rfl
  have s5 := LI.step (x := a0) (c := c0) hLI2 hPJ2.j.i
  have hR3_254 := R3.step (x := a0) (c := c0) hR32
  have t5 := PJ.step a0 c0 hPJ2 om
  refine nT <| regionE <| pu3 ?_
  have u5 := (r5.pick 4 rfl)
  refine cX Tryz.call26 (f_step hFN2 hPJ2.j.i.fw hPJ2.j.i.st a0 c0  (Sat.flat1 u5)) ?_
  rintro _ _ ⟨_, _, _, _, v5, rfl, _, w5, x5⟩
  have y5 := (Sat.unflat2 x5).dropAt 0 rfl
  refine nilO <| blockK_n <| blockK_n <| thenK_n <| regionE <| pu1 ?_
  refine sAdd ((u : Nat) : Int) 1 ?_
  refine pu1 <| nT ?_
  have z5 := (y5.picks [1, 4, 4, 4])
  exact ⟨(u + 1, l0, (stepF F2 a0 c0).1, n5, v5), od, alA, z5, om, om, o5, w5, (t5.mono om om), s5, hR3_254⟩
 refine sR <| pu2 ?_
 refine sRem c0 3 ?_
 have a6 := (n0.pick 3 rfl)
 refine cX Tryz.call23 (pf_cancel hFR2 hPJ2.j.i (c0.tmod 3)  (Sat.flat1 a6)) ?_
 rintro _ _ ⟨_, _, _, _, b6, rfl, s1, c6, d6⟩
 have e6 := Sat.unflat2 d6; have hn_az_216 := s1.len; have hl_az_216 := s1.le
 have z9 := FJ.cancel (x := (c0.tmod 3)) hPJ2.j om
 have f6 := e6.dropAt 0 rfl
 have g6 := LI.cancel (x := (c0.tmod 3)) hLI2 hPJ2.j.i
 have hR3_226 := R3.cancel (x := (c0.tmod 3)) hR32
 have h6 := PJ.cancel (c0.tmod 3) hPJ2 om
 refine nT <| regionE <| pu2 ?_
 refine sRem c0 3 ?_
 have i6 := (f6.pick 4 rfl)
 refine cX Tryz.call24 (f_cancel hFN2 hPJ2.j.i.fw hPJ2.j.i.st (c0.tmod 3)  (Sat.flat1 i6)) ?_
 rintro _ _ ⟨_, _, _, _, j6, rfl, _, k6, l6⟩
 have m6 := (Sat.unflat2 l6).dropAt 0 rfl
 refine nilO <| blockK_n <| blockK_n <| thenK_n <| regionE <| pu1 ?_
 refine sAdd ((u : Nat) : Int) 1 ?_
 refine pu1 <| nT ?_
 have n6 := (m6.picks [1, 4, 4, 4])
 exact ⟨(u + 1, l0, (cancelF F2 (c0.tmod 3)).1, b6, j6), od, alA, n6, om, om, c6, k6, (h6.mono om om), g6, hR3_226⟩
end Go.Proofs.YtegmennaekipaaaGreat

namespace Go.Proofs.YtegmennaekipaaaGreat
open Go Go.E
set_option linter.unusedVariables false
set_option linter.unusedSimpArgs false
set_option linter.unnecessarySimpa false
set_option maxRecDepth 100000
set_option maxHeartbeats 2000000
variable {W w : World} {H : Chunk} {F : List Chunk}
theorem jobW_ub {K : Int} {j : JS} (h : JobOk K j) : jobW j ≤ 536576 := by
  unfold jobW
  split
  · have h1 := sum_ub (f := fun n => gW (j.B.st.getD n 0) (j.tasks.getD n default).rows) (c := 131) (l := List.range j.tasks.length) (fun n _ => by
      have := stpR_bd (j.tasks.getD n default).rows
      show gW _ _ ≤ _
      unfold gW; split <;> omega)
    rw [List.length_range] at h1
    have := h.n
    unfold waitB; omega
  · decide
theorem left_ub {F : FS} {K : Int} (hF : FI F K) : leftF F ≤ 100000000 := by
  rw [left_eq hF.fw]
  have h1 := sum_ub (f := jobW) (c := 536576) (l := F.jobs) fun j hj => jobW_ub (hF.fw.j j hj)
  have h2 := sum_ub (f := rstJ F.jobs) (c := 130) (l := F.ws) fun v hv => by
    obtain ⟨i, hi⟩ := List.mem_iff_getElem?.1 hv
    exact (rst_le hF hi).2
  have h3 := hF.fw.jl
  have h4 := hF.fw.n
  rw [h3] at h1
  omega
theorem step_sum {F : FS} {K x c : Int} (hF : FI F K) (hL : LI F) (hK : K + 1 ≤ 4096) (hx : 0 ≤ x ∧ x < ((F.ws.length : Nat) : Int)) :
  (((stepF F x c).2.2 = 20 ∧ leftF (stepF F x c).1 = leftF F) ∨ ((stepF F x c).2.2 = 0 ∧ 0 < (stepF F x c).2.1.length)) ∧ ((stepF F x c).2.2 = 0 → ∀ e, (stepF F x c).2.1[0]? = some e →
   ((e.kind = 13 ∧ leftF (stepF F x c).1 = leftF F ∧ (runK (stepF F x c).1.jobs).length = 0 ∧ leftF F ≤ ((F.ws.length : Nat) : Int) - 1) ∨ (e.kind ≠ 13 ∧ leftF (stepF F x c).1 = leftF F - 1))) := by
 have h := left_step (x := x) (c := c) hF hL hK hx
 by_cases h4 : (wAt F x).phase = 4
 ·rw [h.1 h4]
  exact ⟨.inl ⟨rfl, rfl⟩, fun k => by cases k⟩
 ·obtain ⟨h1, e2, l, h2, h3⟩ := h.2 h4
  refine ⟨.inr ⟨h1, by rw [h2]; exact Nat.succ_pos _⟩, fun _ e he => ?_⟩
  rw [h2] at he
  obtain rfl := Option.some.inj he
  rcases h3 with ⟨a, b, c, d⟩ | h3
  ·exact .inl ⟨a, by rw [b], by rw [b, c]; rfl, d⟩
  ·exact .inr h3
def saF : FS := addV (newF ⟨1, 1, 1, 0, 1, 9, 1, 1⟩) 0 [⟨0, 0, 0, 0, 0, 0, [], 2, 0⟩] 0
theorem sa_left : leftF saF = 5 := by decide +kernel
theorem l29_sane {cs : List Chunk} (hS : Sat W w cs) :
  Ro Tryz.prog 36 #[] (.bool true) W w cs := by
 refine callsA 32 Tryz.func36 rfl ?_
 refine sR <| pu1 <| nT <| sR <| pu1 ?_
 have a0 : validCfg (⟨1, 1, 1, 0, 1, 9, 1, 1⟩ : Cfg) = 0 := by decide
 refine cX Tryz.call12 (pf_new (⟨1, 1, 1, 0, 1, 9, 1, 1⟩ : Cfg) a0 hS) ?_
 rintro _ _ ⟨j0, _, rfl, k0, l0⟩
 have b0 := FJ.new a0
 refine pu5 <| nT <| seqE <| sR <| pu5 <| gY ?_
 refine sBS l0 #[I 0, I 0, I 0, I 0, I 0, I 0, .slice none 0 0, I 2, I 0] Tryz.runUnderlying39 Tryz.sizeOf45 Tryz.zeroValue45 ?_
 intro m0 _ n0
 refine gY ?_
 have o0 := (n0.pick 1 rfl)
 have c0 : 0 ≤ (0 : Int) ∧ (0 : Int) < 64 := by decide
 have d0 : 0 ≤ (0 : Int) ∧ (0 : Int) < 4 := by decide
 have e0 : validC ([(⟨0, 0, 0, 0, 0, 0, ⟨none, 0, 0, []⟩, 2, 0⟩ : Task)]) = 0 := by decide
 have f0 : ∀ z ∈ [(⟨0, 0, 0, 0, 0, 0, ⟨none, 0, 0, []⟩, 2, 0⟩ : Task)], z.scratch ≤ (newF (⟨1, 1, 1, 0, 1, 9, 1, 1⟩ : Cfg)).cfg.arena := by intro z hz; rcases List.mem_singleton.1 hz with rfl; decide
 have p0 : 0 ≤ (newF (⟨1, 1, 1, 0, 1, 9, 1, 1⟩ : Cfg)).cfg.tasks ∧ (newF (⟨1, 1, 1, 0, 1, 9, 1, 1⟩ : Cfg)).cfg.tasks ≤ 4096 := by decide
 have g0 : ((([(⟨0, 0, 0, 0, 0, 0, ⟨none, 0, 0, []⟩, 2, 0⟩ : Task)]).length : Nat) : Int) ≤ (newF (⟨1, 1, 1, 0, 1, 9, 1, 1⟩ : Cfg)).cfg.tasks - loadL (newF (⟨1, 1, 1, 0, 1, 9, 1, 1⟩ : Cfg)).jobs := by decide
 have q0 : ([(⟨0, 0, 0, 0, 0, 0, ⟨none, 0, 0, []⟩, 2, 0⟩ : Task)]).length ≤ 12 := by decide
 have h0 : (newF (⟨1, 1, 1, 0, 1, 9, 1, 1⟩ : Cfg)).jobs[((0 : Int)).toNat]? = some JS.zero := rfl
 have i0 : JS.added JS.zero = false := rfl
 refine cX Tryz.call17 (pf_add k0 b0.i 0 (At m0 0) 1 1 ([(⟨0, 0, 0, 0, 0, 0, ⟨none, 0, 0, []⟩, 2, 0⟩ : Task)]) 0 (RdT.flat (RdT.blk (enc := encTask) (sz := 9) (xs := [(⟨0, 0, 0, 0, 0, 0, ⟨none, 0, 0, []⟩, 2, 0⟩ : Task)]) (fun _ => (by rfl)) 1 0 rfl rfl rfl om)) (fun z hz => by rcases List.mem_singleton.1 hz with rfl; exact ⟨RdT.nil (enc := encI) (sz := 1) fR _⟩) c0 h0 i0 d0 e0 f0 p0 g0  (Sat.flat1 o0)) ?_
 rintro _ _ ⟨r0, rfl, s0, t0⟩
 have u0 := Sat.unflat1 t0
 have v0 := b0.add c0 h0 i0 d0 e0 f0 g0 q0
 have w0 : FarmP j0 (saF) r0 := by skip; exact s0
 have x0 : FJ (saF) 0 1 := by skip; exact v0
 refine pu2 <| nT <| cFf <| kT <| sR <| pu1 ?_
 refine cX Tryz.call34 (bo_left w0 x0 om u0) ?_
 rintro _ _ ⟨rfl, y0⟩
 rw [show (leftF (saF)) = 5 from sa_left]
 refine pu3 <| gY ?_
 refine cR Tryz.call98 (bo_steps (⟨0, 0, 0, 0, 0, 0, ⟨none, 0, 0, []⟩, 2, 0⟩ : Task) ⟨(RdT.nil (enc := encI) (sz := 1) fR _)⟩ (Sat.flat y0)) ?_
 intro _ z0
 have l1 : 0 ≤ (stpR (⟨0, 0, 0, 0, 0, 0, ⟨none, 0, 0, []⟩, 2, 0⟩ : Task).rows) ∧ (stpR (⟨0, 0, 0, 0, 0, 0, ⟨none, 0, 0, []⟩, 2, 0⟩ : Task).rows) ≤ 131 := stpR_bd _
 refine pu3 ?_
 have a1 : ((stpR (⟨0, 0, 0, 0, 0, 0, ⟨none, 0, 0, []⟩, 2, 0⟩ : Task).rows) : Int) = 5 := (by decide)
 refine sFix 25 _ true (beq_iff_eq.2 a1) ?_
 refine pu2 <| gY ?_
 refine sBS z0 #[I 0, I 0, I 0, I 0, I 0, I 0, .slice none 0 0, I 1, I 0, I 0, I 0, I 0, I 0, I 0, I 0, .slice none 0 0, I 200, I 0] Tryz.runUnderlying39 Tryz.sizeOf45 Tryz.zeroValue45 ?_
 intro b1 _ c1
 refine gY ?_
 refine cR Tryz.call41 (bo_total (At b1 0) 2 2 ([(⟨0, 0, 0, 0, 0, 0, ⟨none, 0, 0, []⟩, 1, 0⟩ : Task), (⟨0, 0, 0, 0, 0, 0, ⟨none, 0, 0, []⟩, 200, 0⟩ : Task)]) (RdT.flat (RdT.blk (enc := encTask) (sz := 9) (xs := [(⟨0, 0, 0, 0, 0, 0, ⟨none, 0, 0, []⟩, 1, 0⟩ : Task), (⟨0, 0, 0, 0, 0, 0, ⟨none, 0, 0, []⟩, 200, 0⟩ : Task)]) (fun _ => (by rfl)) 2 0 rfl rfl rfl om)) (fun z hz => by
   simp only [List.mem_cons, List.not_mem_nil, or_false] at hz
   rcases hz with rfl | rfl
   ·exact ⟨RdT.nil (enc := encI) (sz := 1) fR _⟩
   ·exact ⟨RdT.nil (enc := encI) (sz := 1) fR _⟩) (od) (Sat.flat c1)) ?_
 intro _ d1
 refine pu3 <| nT <| retE <| retT [.bool (((totR (([(⟨0, 0, 0, 0, 0, 0, ⟨none, 0, 0, []⟩, 1, 0⟩ : Task), (⟨0, 0, 0, 0, 0, 0, ⟨none, 0, 0, []⟩, 200, 0⟩ : Task)]).map (·.rows))) : Int) == 4)] ?_
 have e1 := (d1.drops [0, 0, 0])
 exact ⟨rfl, e1⟩
set_option maxHeartbeats 6000000
theorem l29_falls (W w : World) (H : Chunk) (F : List Chunk) (t : Option Addr) (nt kt : Nat) (xt : List Int) (ht : RdT encI 1 [H] t nt kt xt) (hS : Sat W w (H :: F)) :
  Calls Tryz.prog 5 #[.slice t nt kt] w fun e w' => e = .returned (.bool true) ∧ Sat W w' (H :: F) := by
 have hlt := ht.le
 refine callsA 85 Tryz.func5 rfl ?_
 refine sR <| pu1 <| nT <| sR <| pu1 ?_
 refine cX Tryz.call8 (tape_new t nt kt hS) ?_
 rintro _ _ ⟨o0, rfl, t0⟩
 have n2 := ht.le
 refine pu1 <| nT <| sR <| pu1 ?_
 refine cX Tryz.call33 (l29_pair (RdT.flat (ht.up 0 (by rfl))) om (Sat.flat1 t0) 30 om) ?_
 rintro _ _ ⟨p0, _, c0, F1_10, M1_11, N1_12, rfl, u0, v0, w0, _, f0, x0, hR3_19, y0, _, z0⟩
 have a1 := Sat.unflat3 z0
 refine pu4 ?_
 refine sAlloc a1 Tryz.zeroValue26 ?_
 intro q0 _ b1
 refine pu2 ?_
 refine sT b1 0 0 (.agg (encCfg c0).toArray) (encCfg c0) (encCfg c0).toArray Tryz.sizeOf26 ?_
 intro _ c1
 refine nilO ?_
 have hvc0 := validCfg_zero u0; have hpc := v0; have hFI := f0.j.i; have hpw := f0.ws; have hpn := trivial
 refine thenK_n <| seqE <| sR <| pu2 <| nT <| cFf <| kT <| seqE <| sR <| pu1 <| nT <| blockE ?_
 have d1 := ((c1.pick 1 rfl).dropAt 3 rfl)
 refine loopA (γ := Nat × Int × FS × Chunk) (fun ⟨i, it, F3, M3⟩ => [(3, Pt o0 0), (4, Pt p0 0), (6, Pt q0 0), (7, I ((i : Nat) : Int))]) (fun ⟨i, it, F3, M3⟩ w => Sat W w ([(o0, .cells #[.slice t nt kt, I it] 73 (0, 0))] :: [(q0, .cells (encCfg c0).toArray 26 (0, 0))] :: M3 :: H :: F) ∧ i ≤ 40 ∧ (0 ≤ it ∧ it ≤ nt) ∧ FarmP p0 F3 M3 ∧ PJ c0 F3 (30 + ((i : Nat) : Int)) 3 ∧ LI F3) (fun ⟨i, it, F3, M3⟩ => 40 - i) (0, y0, F1_10, M1_11) ⟨d1, om, om, w0, (f0.mono om om), x0⟩ ?_
 rintro ⟨i, it, F3, M3⟩ ρ _ ⟨g0, hi, hit, hFR3, hPJ3, hLI3⟩
 have hws3 := hPJ3.ws; have hFI3 := hPJ3.j.i
 refine seqE <| sR <| pu2 <| nT ?_
 refine cD (((i : Nat) : Int) < 40) (fun e1 => ?_) (fun e1 => ?_)
 rotate_left
 ·refine exitE <| xB <| thenK_n <| sR ?_
  refine cX Tryz.call36 (l29_sane g0) ?_
  rintro _ _ ⟨rfl, f1⟩
  refine pu1 <| nT <| retE <| retT [.bool true] ?_
  have g1 := (f1.pick 3 rfl)
  have h1 := g1.dropAt 1 rfl
  have i1 := h1.dropAt 1 rfl
  have j1 := i1.dropAt 1 rfl
  exact ⟨rfl, j1⟩
 refine kT <| seqE <| blockE <| sR <| pu2 ?_
 refine sL g0 1 0 (I c0.workers) (Tryz.isAgg3 _) ?_
 refine cX Tryz.call10 (tape_next (RdT.flat (ht.up 2 (by rfl))) om (Sat.flat1 g0) c0.workers om) ?_
 rintro _ _ ⟨a0, rfl, _, _, _, k1⟩
 have l1 := Sat.unflat1 k1
 refine pu1 <| nT <| sR <| pu1 ?_
 have m1 := (l1.pick 2 rfl)
 refine cX Tryz.call34 (bo_left hFR3 hPJ3.j om m1) ?_
 rintro _ _ ⟨rfl, n1⟩
 refine pu1 <| nT <| sR <| pu3 ?_
 have o1 := (n1.pick 1 rfl)
 refine cX Tryz.call10 (tape_next (RdT.flat (ht.up 2 (by rfl))) om (Sat.flat1 o1) 9 om) ?_
 rintro _ _ ⟨b0, rfl, _, h0, _, p1⟩
 have q1 := Sat.unflat1 p1
 have r1 := (q1.pick 1 rfl)
 refine cX Tryz.call25 (pf_step hFR3 hPJ3.j.i a0 b0 hPJ3.j.t om (Sat.flat1 r1)) ?_
 rintro _ _ ⟨_, s1, _, _, i0, rfl, j0, d0, t1⟩
 have u1 := Sat.unflat2 t1; have hn_az_54 := j0.len; have hl_az_54 := j0.le
 have k0 := FJ.step (x := a0) (c := b0) hPJ3.j om
 have hls := step_sum (c := b0) hFI3 hLI3 om (x := a0) om; have hls1 := hls.1; have hln0 := left_nn hFI3; have hln1 := left_ub hFI3
 have l0 := LI.step (x := a0) (c := b0) hLI3 hPJ3.j.i
 have m0 := PJ.step a0 b0 hPJ3 om
 refine pu5 <| nT <| sR <| pu1 ?_
 have v1 := (u1.pick 1 rfl)
 refine cX Tryz.call34 (bo_left d0 k0 om v1) ?_
 rintro _ _ ⟨rfl, e0⟩
 refine pu1 <| nT <| blockE <| sR <| pu3 <| nT ?_
 refine cN ((stepF F3 a0 b0).2.2) 0 (fun w1 => ?_) (fun w1 => ?_)
 rotate_left
 ·refine sR <| pu3 ?_
  refine sN 48 ((stepF F3 a0 b0).2.2) 20 (fun x1 => ?_) (fun x1 => ?_)
  rotate_left
  ·refine pu4 <| nT <| cTt <| sR <| pu1 <| nT <| retE <| blockK_r <| blockK_r <| thenK_r <| tR <| thenK_r <| retT [.bool false] ?_
   first | omega
  refine pu4 <| nT ?_
  refine cN (leftF (stepF F3 a0 b0).1) (leftF F3) (fun y1 => ?_) (fun y1 => ?_)
  rotate_left
  ·refine sR <| pu1 <| nT <| retE <| blockK_r <| blockK_r <| thenK_r <| tR <| thenK_r <| retT [.bool false] ?_
   first | omega
  refine skipE <| blockK_n <| blockK_n <| thenK_n <| regionE <| pu1 ?_
  refine sAdd ((i : Nat) : Int) 1 ?_
  refine pu1 <| nT ?_
  have z1 := ((e0.picks [3, 3]).dropAt 3 rfl)
  exact ⟨(i + 1, h0, (stepF F3 a0 b0).1, i0), od, alA, z1, om, om, d0, (m0.mono om om), l0⟩
 refine sR <| pu4 <| nT ?_
 refine cE ((s1 : Nat) : Int) 0 (fun a2 => ?_) (fun a2 => ?_)
 ·refine sR <| pu1 <| nT <| retE <| blockK_r <| blockK_r <| thenK_r <| tR <| thenK_r <| retT [.bool false] ?_
  first | omega
 refine sR <| pu1 ?_
 refine sIdxO j0 0 0 Tryz.runUnderlying38 Tryz.sizeOf62 ?_
 intro n0 _ _ b2 c2 _
 have hq_ := hls.2 om n0 b2
 refine pu1 ?_
 refine sLp e0 (c2.up 1 rfl) 0 (I n0.kind) (Tryz.isAgg3 _) ?_
 refine pu2 <| nT ?_
 refine cE n0.kind 13 (fun d2 => ?_) (fun d2 => ?_)
 rotate_left
 ·refine sR <| pu2 ?_
  refine sSub (leftF F3) 1 ?_
  refine pu2 <| nT ?_
  refine cN (leftF (stepF F3 a0 b0).1) ((leftF F3) - 1) (fun e2 => ?_) (fun e2 => ?_)
  rotate_left
  ·refine sR <| pu1 <| nT <| retE <| blockK_r <| blockK_r <| thenK_r <| tR <| thenK_r <| retT [.bool false] ?_
   first | omega
  refine skipE <| blockK_n <| blockK_n <| thenK_n <| regionE <| pu1 ?_
  refine sAdd ((i : Nat) : Int) 1 ?_
  refine pu1 <| nT ?_
  have f2 := ((e0.picks [3, 3]).dropAt 3 rfl)
  exact ⟨(i + 1, h0, (stepF F3 a0 b0).1, i0), od, alA, f2, om, om, d0, (m0.mono om om), l0⟩
 refine sR <| pu4 ?_
 refine sN 66 (leftF (stepF F3 a0 b0).1) (leftF F3) (fun g2 => ?_) (fun g2 => ?_)
 rotate_left
 ·refine pu12 <| nT <| cTt <| sR <| pu1 <| nT <| retE <| blockK_r <| blockK_r <| thenK_r <| tR <| thenK_r <| retT [.bool false] ?_
  first | omega
 refine pu1 <| gY ?_
 refine cX Tryz.call37 (pf_jobs d0 k0.i  (k0.r12 om) (Sat.flat1 e0)) ?_
 rintro _ _ ⟨_, h2, _, _, rfl, r0, i2⟩
 have s0 := Sat.unflat2 i2; have hn_az_80 := r0.len; have hl_az_80 := r0.le
 refine pu4 ?_
 refine sD 72 (((h2 : Nat) : Int) > 0) (fun j2 => ?_) (fun j2 => ?_)
 ·refine pu6 <| nT <| cTt <| sR <| pu1 <| nT <| retE <| blockK_r <| blockK_r <| thenK_r <| tR <| thenK_r <| retT [.bool false] ?_
  first | omega
 refine pu2 <| gY ?_
 refine sL s0 4 0 (I c0.workers) (Tryz.isAgg3 _) ?_
 refine gY ?_
 refine sSub c0.workers 1 ?_
 refine pu2 <| nT ?_
 refine cD ((leftF (stepF F3 a0 b0).1) > (c0.workers - 1)) (fun k2 => ?_) (fun k2 => ?_)
 ·refine sR <| pu1 <| nT <| retE <| blockK_r <| blockK_r <| thenK_r <| tR <| thenK_r <| retT [.bool false] ?_
  first | omega
 refine skipE <| blockK_n <| blockK_n <| thenK_n <| regionE <| pu1 ?_
 refine sAdd ((i : Nat) : Int) 1 ?_
 refine pu1 <| nT ?_
 have l2 := ((s0.picks [4, 4]).drops [2, 3])
 exact ⟨(i + 1, h0, (stepF F3 a0 b0).1, i0), od, alA, l2, om, om, d0, (m0.mono om om), l0⟩
end Go.Proofs.YtegmennaekipaaaGreat
