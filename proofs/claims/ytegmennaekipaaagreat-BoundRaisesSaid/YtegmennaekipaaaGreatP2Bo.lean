import Derived.Test.YtegmennaekipaaaGreatP2Pf8
namespace Go.Proofs.YtegmennaekipaaaGreat
open Go Go.E
set_option linter.unusedVariables false
set_option linter.unusedSimpArgs false
set_option linter.unnecessarySimpa false
set_option maxRecDepth 100000
set_option maxHeartbeats 2000000
variable {W w : World} {H : Chunk} {F : List Chunk}
-- squeezed
theorem tasks_le {F : FS} {K : Int} (hF : FW F K) (x : Int) : (tasksF F x).length ≤ 4096 := by
  unfold tasksF
  split
  · rename_i h
    obtain ⟨j, hj⟩ := at_some hF.jl (k := x.toNat) (by omega)
    unfold jobAt; rw [getD_some hj]; exact (hF.j j (List.mem_of_getElem? hj)).n
  · exact Nat.zero_le _
theorem runK_nd (jobs : List JS) : (runK jobs).Nodup := List.Pairwise.filter _ (allK_nd 64)
structure WF (F : FS) (v : Wkr) : Prop where
  u : 0 ≤ v.used ∧ v.used ≤ v.high ∧ v.high ≤ F.cfg.arena
  z : v.phase = 0 ∨ v.phase = 4 → v.used = 0 ∧ v.row = 0 ∧ v.heldJob = 0 ∧ v.heldTask = 0
  h : ¬ (v.phase = 0 ∨ v.phase = 4) → (v.phase = 1 ∨ v.phase = 2 ∨ v.phase = 3) ∧ 0 ≤ v.heldTask ∧ v.heldTask < (((tasksF F v.heldJob).length : Nat) : Int) ∧ stateF F v.heldJob v.heldTask = 3 ∧
    ∀ x, (tasksF F v.heldJob)[v.heldTask.toNat]? = some x → v.row ≤ x.rows ∧ (v.phase = 1 → v.used = 0) ∧ (v.phase ≠ 1 → v.used = x.scratch)
theorem held_in {B : BS} {i a : Int} (h : heldC B i a = 0) : (0 ≤ i ∧ i < ((B.deps.length : Nat) : Int)) ∧ stAt B.st i = 3 := by
  unfold heldC at h
  split at h
  · rename_i h1
    split at h
    · rename_i h2; exact ⟨h1, h2.1⟩
    · cases h
  · cases h
theorem wk_ok {F : FS} {K : Int} (hF : FI F K) {i : Nat} {v : Wkr} (hv : F.ws[i]? = some v) : WF F v := by
 have hw := hF.fw.w v (List.mem_of_getElem? hv)
 have hi := (List.getElem?_eq_some_iff.1 hv).1
 obtain ⟨a, ha⟩ := at_some hF.fw.al (k := i) hi
 have A := hF.a.a i v a hv ha
 have hb := A.b
 have hc := A.c
 have hu := A.u
 have hh := A.h
 refine ⟨om, ?_, ?_⟩
 ·intro hp
  have h1 := hF.h.z i v hv (by unfold Holds; omega)
  have h2 := A.z om
  exact ⟨om, h1.2.2.2.1, h1.1, h1.2.1⟩
 ·intro hp
  have hH : Holds v := by
   by_cases h : Holds v
   ·exact h
   ·have := hF.h.z i v hv h; omega
  obtain ⟨j, hj, hadd, hc2⟩ := hF.h.h i v hv hH
  have hx : 0 ≤ v.heldJob ∧ v.heldJob < 64 := hw.h
  obtain ⟨h1, h2⟩ := held_in hc2
  have hjo := hF.fw.j j (List.mem_of_getElem? hj)
  have hl := (hjo.b hadd).2.1
  rw [tasks_at hx hj hadd, state_at hx hj hadd]
  refine ⟨hH, h1.1, om, h2, ?_⟩
  intro x hx2
  have ht : taskAt F v = x := by
   unfold taskAt jobAt; rw [getD_some hj, getD_some hx2]
  have hm := hF.a.t j (List.mem_of_getElem? hj) x (List.mem_of_getElem? hx2)
  refine ⟨?_, ?_, ?_⟩
  ·rcases hH with h | h | h
   ·have := A.r1 h; omega
   ·have := A.r2 h; rw [ht] at this; omega
   ·have := A.r3 h; rw [ht] at this; omega
  ·intro h; have := A.z om; omega
  ·intro h
   have := A.m (by unfold Holds at hH; omega)
   rw [ht] at this; omega
theorem runK_mem {F : FS} {K : Int} (hF : FW F K) {x : Int} : x ∈ runK F.jobs ↔ (0 ≤ x ∧ x < 64) ∧ (jobAt F x).running = true := by
  unfold runK runJ9
  rw [List.mem_filter, mem_allK]; rfl
/-! ### bound: steps that are left -/
def stpR (r : Int) : Int := if r < 1 ∨ 128 < r then 0 else r + 3
theorem stpR_bd (r : Int) : 0 ≤ stpR r ∧ stpR r ≤ 131 := by unfold stpR; split <;> omega
def totR (l : List Int) : Int := (l.map stpR).sum
theorem totR_take {l : List Task} {i : Nat} {x : Task} (h : l[i]? = some x) : totR ((l.take (i + 1)).map (·.rows)) = totR ((l.take i).map (·.rows)) + stpR x.rows := by
  unfold totR; rw [take_succ_at h, List.map_append, List.map_append, List.sum_append]; simp
def waitT (F : FS) (x : Int) (k : Nat) : Int := ((List.range k).map fun n => if stateF F x ((n : Nat) : Int) = 1 ∨ stateF F x ((n : Nat) : Int) = 2 then stpR ((tasksF F x).getD n default).rows else 0).sum
def jobsL (F : FS) (l : List Int) : Int := (l.map fun x => waitT F x (tasksF F x).length).sum
def restR (v : Wkr) (r : Int) : Int := if v.phase = 1 then r + 2 else if v.phase = 2 then r - v.row + 1 else 1
def rstW (F : FS) (v : Wkr) : Int := if v.phase = 0 ∨ v.phase = 4 then 0 else if (jobAt F v.heldJob).running = true then restR v (taskAt F v).rows else 1
def wksL (F : FS) (l : List Wkr) : Int := (l.map (rstW F)).sum
def leftF (F : FS) : Int := jobsL F (runK F.jobs) + wksL F F.ws
theorem waitT_zero {F : FS} {x : Int} : waitT F x 0 = 0 := rfl
theorem waitT_succ {F : FS} {x : Int} {k : Nat} : waitT F x (k + 1) = waitT F x k + if stateF F x ((k : Nat) : Int) = 1 ∨ stateF F x ((k : Nat) : Int) = 2 then stpR ((tasksF F x).getD k default).rows else 0 := by
  unfold waitT; rw [List.range_succ, List.map_append, List.sum_append]; simp
theorem waitT_yes {F : FS} {x : Int} {k : Nat} {zs : List Task} {y : Task} (hV : zs.map Task.v = tasksF F x) (hy : zs[k]? = some y) (h : stateF F x ((k : Nat) : Int) = 1 ∨ stateF F x ((k : Nat) : Int) = 2) : waitT F x (k + 1) = waitT F x k + stpR y.rows := by
  have e : (tasksF F x).getD k default = y.v := by rw [← hV, List.getD_eq_getElem?_getD, List.getElem?_map, hy]; rfl
  rw [waitT_succ, if_pos h, e]; rfl
theorem waitT_no {F : FS} {x : Int} {k : Nat} (h : ¬ (stateF F x ((k : Nat) : Int) = 1 ∨ stateF F x ((k : Nat) : Int) = 2)) : waitT F x (k + 1) = waitT F x k := by
  rw [waitT_succ, if_neg h]; omega
theorem jobsL_take {F : FS} {l : List Int} {i : Nat} {x : Int} (h : l[i]? = some x) : jobsL F (l.take (i + 1)) = jobsL F (l.take i) + waitT F x (tasksF F x).length := by
  unfold jobsL; rw [take_succ_at h, List.map_append, List.sum_append]; simp
theorem wksL_take {F : FS} {l : List Wkr} {i : Nat} {v : Wkr} (h : l[i]? = some v) : wksL F (l.take (i + 1)) = wksL F (l.take i) + rstW F v := by
  unfold wksL; rw [take_succ_at h, List.map_append, List.sum_append]; simp
theorem rst_idle {F : FS} {v : Wkr} (h : v.phase = 0 ∨ v.phase = 4) : rstW F v = 0 := by unfold rstW; rw [if_pos h]
theorem rst_run {F : FS} {v : Wkr} {zs : List Task} {z : Task} (h : ¬ (v.phase = 0 ∨ v.phase = 4)) (hr : (jobAt F v.heldJob).running = true) (ht : (jobAt F v.heldJob).tasks = zs.map Task.v) (hz : zs[v.heldTask.toNat]? = some z) : rstW F v = restR v z.rows := by
  unfold rstW taskAt
  rw [if_neg h, if_pos hr, ht, List.getD_eq_getElem?_getD, List.getElem?_map, hz]; rfl
theorem rst_old {F : FS} {v : Wkr} (h : ¬ (v.phase = 0 ∨ v.phase = 4)) (hr : ¬ (jobAt F v.heldJob).running = true) : rstW F v = 1 := by
  unfold rstW; rw [if_neg h, if_neg hr]
theorem tasksF_run {F : FS} {K : Int} (hF : FW F K) {x : Int} (hx : 0 ≤ x ∧ x < 64) (hr : (jobAt F x).running = true) : tasksF F x = (jobAt F x).tasks := by
  obtain ⟨j, hj⟩ := at_some hF.jl (k := x.toNat) (by omega)
  have e : jobAt F x = j := by unfold jobAt; exact getD_some hj
  rw [e] at hr ⊢
  exact tasks_at hx hj ((hF.j j (List.mem_of_getElem? hj)).r hr)
theorem wk_job {F : FS} {K : Int} (hF : FI F K) {i : Nat} {v : Wkr} (hv : F.ws[i]? = some v) : 0 ≤ v.heldJob ∧ v.heldJob < 64 := (hF.fw.w v (List.mem_of_getElem? hv)).h
theorem wk_row {F : FS} {K : Int} (hF : FI F K) {i : Nat} {v : Wkr} (hv : F.ws[i]? = some v) : 0 ≤ v.row ∧ v.row ≤ 4096 := by
  have h1 := (hF.fw.w v (List.mem_of_getElem? hv)).r
  have h2 := hF.fw.k
  omega
theorem task_rows {F : FS} {K : Int} (hF : FI F K) {x : Int} {zs : List Task} {z : Task} {k : Nat} (hV : zs.map Task.v = tasksF F x) (hz : zs[k]? = some z) : 1 ≤ z.rows ∧ z.rows ≤ 128 := by
  have hm : z.v ∈ tasksF F x := by rw [← hV]; exact List.mem_map.2 ⟨z, List.mem_of_getElem? hz, rfl⟩
  unfold tasksF at hm
  split at hm
  · rename_i h
    obtain ⟨j, hj⟩ := at_some hF.fw.jl (k := x.toNat) (by omega)
    have e : jobAt F x = j := by unfold jobAt; exact getD_some hj
    rw [e] at hm
    have := hF.a.t j (List.mem_of_getElem? hj) z.v hm
    exact ⟨this.2.2.1, this.2.2.2.1⟩
  · cases hm
/-- The map of the running jobs' tasks. -/
def TM (F : FS) (js : List Int) (ks : List (Int × Value)) (G : Chunk) : Prop := ks.map (·.1) = js ∧ ∀ q ∈ ks, ∃ (a : Option Addr) (n k : Nat) (zs : List Task), q.2 = .slice a n k ∧ RdT encTask 9 [G] a n k zs ∧ (∀ z ∈ zs, Task.Ok [G] z) ∧ zs.map Task.v = tasksF F q.1
theorem TM.nil {F : FS} : TM F [] [] [] := ⟨rfl, fun q hq => by cases hq⟩
theorem TM.add {F : FS} {js : List Int} {ks : List (Int × Value)} {G C G1 : Chunk} {x : Int} {a : Option Addr} {n k : Nat} {zs : List Task} (h : TM F js ks G) (hO : RdT encTask 9 [C] a n k zs) (hD : ∀ z ∈ zs, Task.Ok [G1] z) (hV : zs.map Task.v = tasksF F x) :
  TM F (js ++ [x]) (ks ++ [(x, .slice a n k)]) (C ++ (G1 ++ G)) := by
 refine ⟨by rw [List.map_append, h.1]; rfl, ?_⟩
 intro q hq
 rcases List.mem_append.1 hq with hq | hq
 ·obtain ⟨a, n, k, zs, h1, h2, h3, h4⟩ := h.2 q hq
  exact ⟨a, n, k, zs, h1, h2.of_mem mS, fun z hz => (h3 z hz).of_mem mS, h4⟩
 ·obtain rfl := List.mem_singleton.1 hq
  exact ⟨a, n, k, zs, rfl, hO.of_mem mS, fun z hz => (hD z hz).of_mem mS, hV⟩
theorem iget_none {ks : List (Int × Value)} {x : Int} (h : x ∉ ks.map (·.1)) : iget ks x = none := by
  unfold iget
  rw [List.find?_eq_none.2]
  · rfl
  · intro q hq k
    exact h (List.mem_map.2 ⟨q, hq, by simpa using k⟩)
theorem iget_mem : ∀ {ks : List (Int × Value)} {x : Int}, x ∈ ks.map (·.1) → ∃ q ∈ ks, q.1 = x ∧ iget ks x = some q.2
  | [], _, h => by cases h
  | q :: ks, x, h => by
    unfold iget
    rw [List.find?_cons]
    by_cases e : q.1 = x
    · exact ⟨q, List.mem_cons_self, e, by simp [e]⟩
    · rw [List.map_cons] at h
      rcases List.mem_cons.1 h with h | h
      · exact absurd h.symm e
      · obtain ⟨p, hp, h1, h2⟩ := iget_mem (ks := ks) h
        refine ⟨p, List.mem_cons_of_mem _ hp, h1, ?_⟩
        unfold iget at h2
        have e2 : (q.1 == x) = false := by simpa using e
        simp only [e2]; exact h2
theorem TM.fresh {F : FS} {js : List Int} {ks : List (Int × Value)} {G : Chunk} {x : Int} (h : TM F js ks G) (hx : x ∉ js) : iget ks x = none := iget_none (by rw [h.1]; exact hx)
theorem nd_take {l : List Int} {i : Nat} {x : Int} (h : l.Nodup) (hx : l[i]? = some x) : x ∉ l.take i := by
  intro hm
  obtain ⟨k, hk, e⟩ := List.mem_iff_getElem.1 hm
  rw [List.getElem_take] at e
  rw [List.length_take] at hk
  obtain ⟨h1, h2⟩ := List.getElem?_eq_some_iff.1 hx
  exact List.pairwise_iff_getElem.1 h k i (by omega) h1 (by omega) (e.trans h2.symm)
theorem TM.look {F : FS} {K : Int} {ks : List (Int × Value)} {G : Chunk} {x : Int} (hF : FW F K) (h : TM F (runK F.jobs) ks G) (hx : 0 ≤ x ∧ x < 64) :
  ∃ (a : Option Addr) (n k : Nat) (zs : List Task), (iget ks x).getD (.slice none 0 0) = .slice a n k ∧ (iget ks x).isSome = (jobAt F x).running ∧
   ((jobAt F x).running = true → RdT encTask 9 [G] a n k zs ∧ (∀ z ∈ zs, Task.Ok [G] z) ∧ zs.map Task.v = tasksF F x) := by
 cases hr : (jobAt F x).running with
 | true =>
  have hm : x ∈ ks.map (·.1) := by rw [h.1]; exact (runK_mem hF).2 ⟨hx, hr⟩
  obtain ⟨q, hq, rfl, e⟩ := iget_mem hm
  obtain ⟨a, n, k, zs, h1, h2, h3, h4⟩ := h.2 q hq
  exact ⟨a, n, k, zs, by rw [e, h1]; rfl, by rw [e]; rfl, fun _ => ⟨h2, h3, h4⟩⟩
 | false =>
  have e : iget ks x = none := h.fresh (fun hm => by have := ((runK_mem hF).1 hm).2; rw [hr] at this; cases this)
  exact ⟨none, 0, 0, [], by rw [e]; rfl, by rw [e]; rfl, fun k => by cases k⟩
theorem Y_igetB {P : Program} {n : Nat} {ρ : Env} {W w : World} {cs : List Chunk} {o : Oper} {t K E : TypeId} {kd : IntKind} {x ix : Operand} {b : Nat} {ks : List (Int × Value)} {c : Chunk} {k : Int} {z v : Value} {r : Bool} (hr : (iget ks k).isSome = r) (hS : Sat W w cs) (j : Nat) (hM : MapI b ks c) (hv : (iget ks k).getD z = v)
  (hu : ∀ w, (underlying t).run P w = .ok (.map K E) w) (hK : ∀ w, (underlying K).run P w = .ok (.int kd) w) (hz : ∀ w, (zeroValue E).run P w = .ok z w) (hj : cs[j]? = some c := by rfl)
  (ho : o.op = .lookup t x ix true := by rfl) (hx : ev ρ x = .map (some b) := by kernel_rfl) (hi : ev ρ ix = I k := by kernel_rfl) : Go.E.Yields P ρ o (.tuple #[v, .bool r]) w := by
 rw [← hr]; exact Y_igetC hS j hM hv hu hK hz hj ho hx hi
theorem bo_steps (t : Task) (ht : Task.Ok [H] t) (hS : Sat W w (H :: F)) :
  Ro Tryz.prog 98 #[.agg (encTask t).toArray] (I (stpR t.rows)) W w (H :: F) := by
 have hl_t_deps := ht.deps.le; have hn_t_deps := ht.deps.len
 refine callsA 14 Tryz.func98 rfl ?_
 refine sR ?_
 refine sBox hS (.agg (encTask t).toArray) (encTask t).toArray ?_
 intro _ _ a0
 refine pu1 <| nT <| seqE <| sR <| pu1 ?_
 refine sL a0 0 7 (I t.rows) (Tryz.isAgg3 _) ?_
 refine pu2 ?_
 refine sD 6 (t.rows < 1) (fun b0 => ?_) (fun b0 => ?_)
 ·refine pu4 <| nT <| cTt <| sR <| pu1 <| nT <| retE <| thenK_r <| retT [I 0] ?_
  have c0 := (a0.dropAt 0 rfl)
  exact ⟨congrArg (fun z => Ending.returned (I z)) (by unfold stpR; rw [if_pos om]), c0⟩
 refine pu1 <| gY ?_
 refine sL a0 0 7 (I t.rows) (Tryz.isAgg3 _) ?_
 refine pu2 <| nT ?_
 refine cD (t.rows > 128) (fun d0 => ?_) (fun d0 => ?_)
 ·refine sR <| pu1 <| nT <| retE <| thenK_r <| retT [I 0] ?_
  have e0 := (a0.dropAt 0 rfl)
  exact ⟨congrArg (fun z => Ending.returned (I z)) (by unfold stpR; rw [if_pos om]), e0⟩
 refine kT <| sR <| pu1 ?_
 refine sL a0 0 7 (I t.rows) (Tryz.isAgg3 _) ?_
 refine sAdd t.rows 3 ?_
 refine pu1 <| nT <| retE <| retT [I (t.rows + 3)] ?_
 have f0 := (a0.dropAt 0 rfl)
 exact ⟨congrArg (fun z => Ending.returned (I z)) (by unfold stpR; rw [if_neg om]), f0⟩
theorem r29_steps (t : Task) (ht : Task.Ok [H] t) (hS : Sat W w (H :: F)) :
  Ro Tryz.prog 40 #[.agg (encTask t).toArray] (I (stpR t.rows)) W w (H :: F) := by
 have hl_t_deps := ht.deps.le; have hn_t_deps := ht.deps.len
 refine callsA 14 Tryz.func40 rfl ?_
 refine sR ?_
 refine sBox hS (.agg (encTask t).toArray) (encTask t).toArray ?_
 intro _ _ a0
 refine pu1 <| nT <| seqE <| sR <| pu1 ?_
 refine sL a0 0 7 (I t.rows) (Tryz.isAgg3 _) ?_
 refine pu2 ?_
 refine sD 6 (t.rows < 1) (fun b0 => ?_) (fun b0 => ?_)
 ·refine pu4 <| nT <| cTt <| sR <| pu1 <| nT <| retE <| thenK_r <| retT [I 0] ?_
  have c0 := (a0.dropAt 0 rfl)
  exact ⟨congrArg (fun z => Ending.returned (I z)) (by unfold stpR; rw [if_pos om]), c0⟩
 refine pu1 <| gY ?_
 refine sL a0 0 7 (I t.rows) (Tryz.isAgg3 _) ?_
 refine pu2 <| nT ?_
 refine cD (t.rows > 128) (fun d0 => ?_) (fun d0 => ?_)
 ·refine sR <| pu1 <| nT <| retE <| thenK_r <| retT [I 0] ?_
  have e0 := (a0.dropAt 0 rfl)
  exact ⟨congrArg (fun z => Ending.returned (I z)) (by unfold stpR; rw [if_pos om]), e0⟩
 refine kT <| sR <| pu1 ?_
 refine sL a0 0 7 (I t.rows) (Tryz.isAgg3 _) ?_
 refine sAdd t.rows 3 ?_
 refine pu1 <| nT <| retE <| retT [I (t.rows + 3)] ?_
 have f0 := (a0.dropAt 0 rfl)
 exact ⟨congrArg (fun z => Ending.returned (I z)) (by unfold stpR; rw [if_neg om]), f0⟩
theorem bo_total (al : Option Addr) (nl kl : Nat) (l : List Task) (hl : RdT encTask 9 [H] al nl kl l) (dl : ∀ z ∈ l, Task.Ok [H] z) (h4 : nl ≤ 4096) (hS : Sat W w (H :: F)) :
  Ro Tryz.prog 41 #[.slice al nl kl] (I (totR (l.map (·.rows)))) W w (H :: F) := by
 have hl_l := hl.le; have hn_l := hl.len
 refine callsA 22 Tryz.func41 rfl ?_
 refine sR <| pu1 <| nT <| sR <| pu1 <| nT <| seqE <| sR <| pu3 ?_
 refine stepY (I (min ((nl : Nat) : Int) 4096)) rfl rfl (Y_min2 ((nl : Nat) : Int) 4096 rfl rfl kr kr) ?_
 refine sSl none (some (min ((nl : Nat) : Int) 4096)) 0 (((min ((nl : Nat) : Int) 4096)).toNat) Tryz.runUnderlying39 Tryz.sizeOf45 rfl ⟨om, om⟩ om om ?_ (a := al) (len := nl) (cap := kl)
 have e0 := hl.part (lo := 0) (hi := ((min ((nl : Nat) : Int) 4096)).toNat) om om
 refine pu2 <| nT <| blockE ?_
 refine loopA (γ := Nat × Int) (fun ⟨i, s⟩ => [(10, .slice (partAddr al kl 0 9) (((min ((nl : Nat) : Int) 4096)).toNat - 0) (kl - 0)), (11, I (((((min ((nl : Nat) : Int) 4096)).toNat - 0) : Nat) : Int)), (12, I ((i : Nat) : Int)), (3, I s)]) (fun ⟨i, s⟩ w => Sat W w (H :: F) ∧ i ≤ nl ∧ (s = totR ((l.take i).map (·.rows))) ∧ (0 ≤ s ∧ s ≤ 131 * i)) (fun ⟨i, s⟩ => nl - i) (0, 0) ⟨hS, om, rfl, om⟩ ?_
 rintro ⟨i, s⟩ ρ _ ⟨b0, hi, hn, hsb⟩
 refine sR <| pu1 <| nT <| seqE ?_
 refine cD (((i : Nat) : Int) < (((((min ((nl : Nat) : Int) 4096)).toNat - 0) : Nat) : Int)) (fun f0 => ?_) (fun f0 => ?_)
 rotate_left
 ·refine exitE <| xB <| thenK_n <| sR <| pu2 <| nT <| retE <| retT [I s] ?_
  exact ⟨congrArg (fun z => Ending.returned (I z)) (by rw [hn, List.take_of_length_le om]), b0⟩
 refine kT <| seqE <| blockE <| sR ?_
 refine sIdx e0 ((i : Nat) : Int) Tryz.runUnderlying39 Tryz.sizeOf45 ?_
 intro a0 _ _ c0 g0
 rw [Int.toNat_natCast] at c0
 refine sLpA b0 (g0.up 0 rfl) 0 (encTask a0) (Tryz.isAgg45 _) (Tryz.sizeOf45 _) ?_
 refine sAlloc b0 Tryz.zeroValue45 ?_
 intro _ _ h0
 refine sT h0 0 0 (.agg (encTask a0).toArray) (encTask a0) (encTask a0).toArray Tryz.sizeOf45 ?_
 intro _ d0
 refine nT <| regionE <| pu1 ?_
 refine lA d0 0 0 9 (Tryz.isAgg45 _) (Tryz.sizeOf45 _) ?_
 refine cR Tryz.call98 (bo_steps a0 ⟨(RdT.flat (((fun z hz => dl z (List.mem_of_mem_drop (List.mem_of_mem_take hz))) a0 (List.mem_of_getElem? c0)).deps.up 1 (by rfl)))⟩ (Sat.flat d0)) ?_
 intro _ i0
 have r0 : 0 ≤ (stpR a0.rows) ∧ (stpR a0.rows) ≤ 131 := stpR_bd _
 refine sAdd s (stpR a0.rows) ?_
 refine pu1 <| nB <| regionE ?_
 refine sAdd ((i : Nat) : Int) 1 ?_
 refine pu1 <| nT ?_
 have j0 := (i0.dropAt 0 rfl)
 exact ⟨(i + 1, (s + (stpR a0.rows))), od, alA, j0, om, (by rw [totR_take (show l[i]? = some a0 from by have h9 := c0; rw [List.drop_zero, List.getElem?_take, if_pos om] at h9; exact h9), hn]), om⟩
theorem restR_bd {v : Wkr} {r : Int} (h1 : 0 ≤ r ∧ r ≤ 128) (h2 : 0 ≤ v.row ∧ v.row ≤ 4096) : -4096 ≤ restR v r ∧ restR v r ≤ 131 := by unfold restR; split; omega; split <;> omega
theorem bo_rest (w0 : Wkr) (t : Task) (ht : Task.Ok [H] t) (hr1 : 0 ≤ t.rows ∧ t.rows ≤ 128) (hr2 : 0 ≤ w0.row ∧ w0.row ≤ 4096) (hS : Sat W w (H :: F)) :
  Ro Tryz.prog 99 #[.agg (encWkr w0).toArray, .agg (encTask t).toArray] (I (restR w0 t.rows)) W w (H :: F) := by
 have hl_t_deps := ht.deps.le; have hn_t_deps := ht.deps.len
 refine callsA 20 Tryz.func99 rfl ?_
 refine sR ?_
 refine sBox hS (.agg (encWkr w0).toArray) (encWkr w0).toArray ?_
 intro _ _ b0
 refine sBox b0 (.agg (encTask t).toArray) (encTask t).toArray ?_
 intro _ _ a0
 refine pu1 <| nT <| seqE <| sR <| pu1 ?_
 refine sL a0 1 0 (I w0.phase) (Tryz.isAgg3 _) ?_
 refine nT <| blockE <| sR <| pu2 <| nT ?_
 refine cE w0.phase 1 (fun c0 => ?_) (fun c0 => ?_)
 ·refine sR <| pu1 ?_
  refine sL a0 0 7 (I t.rows) (Tryz.isAgg3 _) ?_
  refine sAdd t.rows 2 ?_
  refine pu1 <| nT <| retE <| blockK_r <| thenK_r <| retT [I (t.rows + 2)] ?_
  have d0 := (a0.drops [0, 0])
  exact ⟨congrArg (fun z => Ending.returned (I z)) (by unfold restR; first | rw [if_pos om] | rw [if_neg om, if_pos om] | rw [if_neg om, if_neg om]), d0⟩
 refine sR <| pu2 <| nT ?_
 refine cE w0.phase 2 (fun e0 => ?_) (fun e0 => ?_)
 rotate_left
 ·refine skipE <| blockK_n <| thenK_n <| sR <| pu1 <| nT <| retE <| retT [I 1] ?_
  have f0 := (a0.drops [0, 0])
  exact ⟨congrArg (fun z => Ending.returned (I z)) (by unfold restR; first | rw [if_pos om] | rw [if_neg om, if_pos om] | rw [if_neg om, if_neg om]), f0⟩
 refine sR <| pu1 ?_
 refine sL a0 0 7 (I t.rows) (Tryz.isAgg3 _) ?_
 refine pu1 ?_
 refine sL a0 1 4 (I w0.row) (Tryz.isAgg3 _) ?_
 refine sSub t.rows w0.row ?_
 refine sAdd (t.rows - w0.row) 1 ?_
 refine pu1 <| nT <| retE <| blockK_r <| thenK_r <| retT [I ((t.rows - w0.row) + 1)] ?_
 have g0 := (a0.drops [0, 0])
 exact ⟨congrArg (fun z => Ending.returned (I z)) (by unfold restR; first | rw [if_pos om] | rw [if_neg om, if_pos om] | rw [if_neg om, if_neg om]), g0⟩
theorem bo_left {p : Nat} {F : FS} {M : Chunk} {cs : List Chunk} {K : Int} {n : Nat} (hR : FarmP p F M) (hJ : FJ F K n) (hn12 : n ≤ 12) (hS : Sat W w (M :: cs)) :
  Calls Tryz.prog 34 #[Pt p 0] w fun e w' => e = .returned (I (leftF F)) ∧ Sat W w' (M :: cs) := by
 refine callsA 86 Tryz.func34 rfl ?_
 refine sR <| pu1 <| nT <| sR <| pu1 <| nT <| sR ?_
 refine sMakeMapI hS ?_
 intro s0 h1 _ r1 s1
 refine pu1 <| nT <| seqE <| sR <| pu1 ?_
 have t1 := (s1.pick 1 rfl)
 refine cX Tryz.call37 (pf_jobs hR hJ.i  (hJ.r12 om) (Sat.flat1 t1)) ?_
 rintro _ _ ⟨i1, k0, j1, m0, rfl, v0, u1⟩
 have v1 := Sat.unflat2 u1; have hn_az_10 := v0.len; have hl_az_10 := v0.le
 refine pu2 <| nT <| blockE ?_
 have w1 := (v1.pick 2 rfl)
 have x1 : Sat W _ (h1 :: ([] : Chunk) :: m0 :: M :: cs) := Sat.perm w1 (by simp)
 have hj12_ := hJ.r12 hn12; have hFI := hJ.i
 refine loopA (γ := Nat × Int × (List (Int × Value)) × Chunk × Chunk) (fun ⟨i, n1, ks, mc, Gm⟩ => [(0, Pt p 0), (3, I n1), (4, .map (some s0)), (16, .slice i1 k0 j1), (17, I ((k0 : Nat) : Int)), (18, I ((i : Nat) : Int))]) (fun ⟨i, n1, ks, mc, Gm⟩ w => Sat W w (mc :: Gm :: m0 :: M :: cs) ∧ i ≤ k0 ∧ n1 = jobsL F ((runK F.jobs).take i) ∧ (0 ≤ n1 ∧ n1 ≤ 536576 * i) ∧ MapI s0 ks mc ∧ TM F ((runK F.jobs).take i) ks Gm) (fun ⟨i, n1, ks, mc, Gm⟩ => k0 - i) (0, 0, [], h1, ([] : Chunk)) ⟨x1, om, rfl, om, r1, TM.nil⟩ ?_
 rintro ⟨i, n1, ks, mc, Gm⟩ ρ _ ⟨w0, hi, hn1, hn1b, hMap, hTM⟩
 refine sR <| pu1 <| nT <| seqE ?_
 refine cD (((i : Nat) : Int) < ((k0 : Nat) : Int)) (fun y1 => ?_) (fun y1 => ?_)
 ·refine kT <| seqE <| blockE <| sR ?_
  refine sIdxO v0 ((i : Nat) : Int) i Tryz.runUnderlying22 Tryz.sizeOf3 ?_
  intro e0 _ _ x0 z1 _
  refine sLp w0 (z1.up 2 rfl) 0 (I e0) (Tryz.isAgg3 _) ?_
  refine pu1 <| nT <| sR <| pu2 ?_
  have a2 := (w0.pick 3 rfl)
  refine cX Tryz.call30 (pf_tasks hR hJ.i e0 (Sat.flat1 a2)) ?_
  rintro _ _ ⟨y0, l0, z0, k1, t0, a1, rfl, u0, b1, n0, b2⟩
  have c2 := Sat.unflat3 b2; have hn_az_30 := u0.len; have hl_az_30 := u0.le
  refine pu1 <| nT <| sR <| pu3 ?_
  refine sIAdd (k := e0) (v := .slice y0 l0 z0) c2 3 hMap (hTM.fresh (nd_take (runK_nd F.jobs) x0)) Tryz.runUnderlying141 Tryz.runUnderlying3 ?_
  intro c1 _ d2 e2
  refine nT <| sR <| pu3 <| nT <| blockE ?_
  have htl4_ := tasks_le hFI.fw e0; have htl_ : k1.length = (tasksF F e0).length := by rw [← n0, List.length_map]
  refine loopA (γ := Nat × Int) (fun ⟨j, n2⟩ => [(0, Pt p 0), (4, .map (some s0)), (16, .slice i1 k0 j1), (17, I ((k0 : Nat) : Int)), (18, I ((i : Nat) : Int)), (6, I e0), (28, .slice y0 l0 z0), (29, I ((l0 : Nat) : Int)), (30, I ((j : Nat) : Int)), (3, I n2)]) (fun ⟨j, n2⟩ w => Sat W w (t0 :: a1 :: M :: c1 :: Gm :: m0 :: cs) ∧ j ≤ l0 ∧ (n2 = n1 + waitT F e0 j) ∧ (0 ≤ n2 ∧ n2 ≤ n1 + 131 * j)) (fun ⟨j, n2⟩ => l0 - j) (0, n1) ⟨e2, om, by rw [waitT_zero]; omega, om⟩ ?_
  rintro ⟨j, n2⟩ ρ _ ⟨d1, hj, hn2, hn2b⟩
  refine sR <| pu1 <| nT <| seqE ?_
  refine cD (((j : Nat) : Int) < ((l0 : Nat) : Int)) (fun f2 => ?_) (fun f2 => ?_)
  rotate_left
  ·refine exitE <| xB <| blockK_n <| thenK_n <| regionE ?_
   refine sAdd ((i : Nat) : Int) 1 ?_
   refine pu1 <| nT ?_
   have g2 := (d1.picks [5, 5, 3, 3, 5])
   have h2 : Sat W _ (c1 :: (t0 ++ (a1 ++ Gm)) :: m0 :: M :: cs) := Sat.perm g2 (by simp)
   exact ⟨(i + 1, n2, (ks ++ [(e0, .slice y0 l0 z0)]), c1, (t0 ++ (a1 ++ Gm))), od, alA, h2, om, (by rw [jobsL_take x0, ← hn1, ← htl_, show k1.length = j by omega]; exact hn2), om, d2, (by rw [take_succ_at x0]; exact hTM.add (u0.rdAt (cs := [t0]) 0 rfl) b1 n0)⟩
  refine kT <| seqE <| blockE <| sR <| pu1 ?_
  refine sIdxO u0 ((j : Nat) : Int) j Tryz.runUnderlying39 Tryz.sizeOf45 ?_
  intro d0 _ _ o0 i2 _
  have htr_x_46 := task_rows hFI n0 o0
  refine sLpA d1 (i2.up 0 rfl) 0 (encTask d0) (Tryz.isAgg45 _) (Tryz.sizeOf45 _) ?_
  refine sAlloc d1 Tryz.zeroValue45 ?_
  intro _ _ j2
  refine pu1 ?_
  refine sT j2 0 0 (.agg (encTask d0).toArray) (encTask d0) (encTask d0).toArray Tryz.sizeOf45 ?_
  intro _ k2
  refine nT <| sR <| pu3 ?_
  have l2 := (k2.pick 3 rfl)
  refine cX Tryz.call95 (pf_state hR hJ.i e0 ((j : Nat) : Int) (Sat.flat1 l2)) ?_
  rintro _ _ ⟨rfl, m2⟩
  have p0 := Sat.unflat1 m2
  refine nT <| blockE <| seqE <| sR <| pu2 <| nT ?_
  refine cE (stateF F e0 ((j : Nat) : Int)) 1 (fun l1 => ?_) (fun l1 => ?_)
  ·refine kT ?_
   refine cT _ (beq_iff_eq.2 l1) ?_
   refine regionE <| pu1 ?_
   refine lA p0 1 0 9 (Tryz.isAgg45 _) (Tryz.sizeOf45 _) ?_
   refine cR Tryz.call98 (bo_steps d0 ⟨(RdT.flat ((b1 d0 (List.mem_of_getElem? o0)).deps.up 3 (by rfl)))⟩ (Sat.flat p0)) ?_
   intro _ o2
   have i4 : 0 ≤ (stpR d0.rows) ∧ (stpR d0.rows) ≤ 131 := stpR_bd _
   refine sAdd n2 (stpR d0.rows) ?_
   refine pu1 <| nilO <| blockK_n <| blockK_n <| thenK_n <| regionE ?_
   refine sAdd ((j : Nat) : Int) 1 ?_
   refine pu1 <| nT ?_
   have p2 := ((o2.picks [3, 3]).dropAt 3 rfl)
   exact ⟨(j + 1, (n2 + (stpR d0.rows))), od, alA, p2, om, (by rw [waitT_yes n0 o0 om]; omega), om⟩
  refine regionE <| pu2 <| nT ?_
  refine cE (stateF F e0 ((j : Nat) : Int)) 2 (fun q2 => ?_) (fun q2 => ?_)
  rotate_left
  ·refine skipE <| blockK_n <| blockK_n <| thenK_n <| regionE ?_
   refine sAdd ((j : Nat) : Int) 1 ?_
   refine pu1 <| nT ?_
   have r2 := ((p0.picks [3, 3]).dropAt 3 rfl)
   exact ⟨(j + 1, n2), od, alA, r2, om, (by rw [waitT_no om]; omega), om⟩
  refine regionE <| pu1 ?_
  refine lA p0 1 0 9 (Tryz.isAgg45 _) (Tryz.sizeOf45 _) ?_
  refine cR Tryz.call98 (bo_steps d0 ⟨(RdT.flat ((b1 d0 (List.mem_of_getElem? o0)).deps.up 3 (by rfl)))⟩ (Sat.flat p0)) ?_
  intro _ s2
  have k4 : 0 ≤ (stpR d0.rows) ∧ (stpR d0.rows) ≤ 131 := stpR_bd _
  refine sAdd n2 (stpR d0.rows) ?_
  refine pu1 <| nilO <| blockK_n <| blockK_n <| thenK_n <| regionE ?_
  refine sAdd ((j : Nat) : Int) 1 ?_
  refine pu1 <| nT ?_
  have t2 := ((s2.picks [3, 3]).dropAt 3 rfl)
  exact ⟨(j + 1, (n2 + (stpR d0.rows))), od, alA, t2, om, (by rw [waitT_yes n0 o0 om]; omega), om⟩
 refine exitE <| xB <| thenK_n <| seqE <| sR <| pu1 ?_
 have u2 := (w0.pick 3 rfl)
 refine cX Tryz.call39 (pf_workers hR hJ.i   (Sat.flat1 u2)) ?_
 rintro _ _ ⟨v2, q0, w2, x2, rfl, e1, y2⟩
 have z2 := Sat.unflat2 y2; have hn_az_80 := e1.len; have hl_az_80 := e1.le
 refine pu2 <| nilO ?_
 have hTM2 : TM F (runK F.jobs) ks Gm := by rw [← List.take_of_length_le (i := i) (l := runK F.jobs) om]; exact hTM
 have hwn9 := hFI.fw.n
 refine thenK_n <| blockE ?_
 refine loopA (γ := Nat × Int) (fun ⟨q, n3⟩ => [(4, .map (some s0)), (49, .slice v2 q0 w2), (50, I ((q0 : Nat) : Int)), (51, I ((q : Nat) : Int)), (3, I n3)]) (fun ⟨q, n3⟩ w => Sat W w (x2 :: M :: mc :: Gm :: m0 :: cs) ∧ q ≤ q0 ∧ (n3 = n1 + wksL F (F.ws.take q)) ∧ (-4096 * q ≤ n3 ∧ n3 ≤ n1 + 131 * q)) (fun ⟨q, n3⟩ => q0 - q) (0, n1) ⟨z2, om, by show n1 = n1 + 0; omega, om⟩ ?_
 rintro ⟨q, n3⟩ ρ _ ⟨f1, hq, hn3, hn3b⟩
 refine sR <| pu1 <| nT <| seqE ?_
 refine cD (((q : Nat) : Int) < ((q0 : Nat) : Int)) (fun a3 => ?_) (fun a3 => ?_)
 rotate_left
 ·refine exitE <| xB <| thenK_n <| sR <| pu2 <| nT <| retE <| retT [I n3] ?_
  have b3 := (f1.drops [0, 1, 1, 1])
  exact ⟨congrArg (fun z => Ending.returned (I z)) (by rw [hn3, hn1, List.take_of_length_le om, List.take_of_length_le om]; rfl), b3⟩
 refine kT <| seqE <| blockE <| sR ?_
 refine sIdxO e1 ((q : Nat) : Int) q Tryz.runUnderlying66 Tryz.sizeOf69 ?_
 intro a0 _ _ i0 c3 _
 have hWF := wk_ok hFI i0; have hWr := wk_row hFI i0
 refine sLpA f1 (c3.up 0 rfl) 0 (encWkr a0) (Tryz.isAgg69 _) (Tryz.sizeOf69 _) ?_
 refine sAlloc f1 Tryz.zeroValue69 ?_
 intro j0 _ d3
 refine sT d3 0 0 (.agg (encWkr a0).toArray) (encWkr a0) (encWkr a0).toArray Tryz.sizeOf69 ?_
 intro _ b0
 refine nT <| seqE <| sR <| pu1 ?_
 refine sL b0 0 0 (I a0.phase) (Tryz.isAgg3 _) ?_
 refine pu2 ?_
 refine sE 58 a0.phase 0 (fun e3 => ?_) (fun e3 => ?_)
 ·refine pu4 <| nT <| cTt <| exitE <| thenK_x <| blockK_x <| thenK_n <| regionE ?_
  refine sAdd ((q : Nat) : Int) 1 ?_
  refine pu1 <| nT ?_
  have f3 := (b0.dropAt 0 rfl)
  exact ⟨(q + 1, n3), od, alA, f3, om, (by rw [wksL_take i0, rst_idle om]; omega), om⟩
 refine pu1 <| gY ?_
 refine sL b0 0 0 (I a0.phase) (Tryz.isAgg3 _) ?_
 refine pu2 <| nT ?_
 refine cE a0.phase 4 (fun g3 => ?_) (fun g3 => ?_)
 ·refine exitE <| thenK_x <| blockK_x <| thenK_n <| regionE ?_
  refine sAdd ((q : Nat) : Int) 1 ?_
  refine pu1 <| nT ?_
  have h3 := (b0.dropAt 0 rfl)
  exact ⟨(q + 1, n3), od, alA, h3, om, (by rw [wksL_take i0, rst_idle om]; omega), om⟩
 refine kT <| seqE ?_
 have hWh := hWF.h om
 refine regionE <| pu3 ?_
 refine sL b0 0 1 (I a0.heldJob) (Tryz.isAgg3 _) ?_
 obtain ⟨m1, o1, p1, i3, j3, k3, l3⟩ := hTM2.look hFI.fw (x := a0.heldJob) (wk_job hFI i0)
 refine stepY (.tuple #[.slice m1 o1 p1, .bool ((jobAt F a0.heldJob).running)]) rfl rfl (Y_igetB (n := 0) (k := a0.heldJob) k3 b0 3 hMap j3 Tryz.runUnderlying141 Tryz.runUnderlying3 Tryz.zeroValue39) ?_
 refine pu5 <| nT <| sR <| pu1 <| nT ?_
 refine cB ((jobAt F a0.heldJob).running) (fun r0 => ?_) (fun r0 => ?_)
 rotate_left
 ·refine regionE <| pu1 ?_
  refine sAdd n3 1 ?_
  refine pu1 <| nB <| regionE ?_
  refine sAdd ((q : Nat) : Int) 1 ?_
  refine pu1 <| nT ?_
  have m3 := (b0.dropAt 0 rfl)
  exact ⟨(q + 1, (n3 + 1)), od, alA, m3, om, (by rw [wksL_take i0, rst_old om r0]; omega), om⟩
 obtain ⟨hlR, hlD, hlV⟩ := l3 r0; have hln_ := hlR.len; have hlk_ := hlR.le; have hll_ : i3.length = (tasksF F a0.heldJob).length := by rw [← hlV, List.length_map]
 obtain ⟨c0, f0, g0, g1, h0, o3⟩ := RdT.elem hlR a0.heldTask
 have htr_x_111 := task_rows hFI hlV g1
 refine drawE [8] [(1, ⟨j0, 0, none⟩, I a0.phase), (1, ⟨j0, 1, none⟩, I a0.heldJob), (1, ⟨j0, 2, none⟩, I a0.heldTask), (1, ⟨j0, 3, none⟩, I a0.attempt), (1, ⟨j0, 4, none⟩, I a0.row), (1, ⟨j0, 5, none⟩, I a0.used), (1, ⟨j0, 6, none⟩, I a0.high), (5, ⟨j0, 2, none⟩, I a0.heldTask), (7, ⟨f0, g0 + 0, none⟩, I c0.stage), (7, ⟨f0, g0 + 1, none⟩, I c0.part), (7, ⟨f0, g0 + 2, none⟩, I c0.rectX0), (7, ⟨f0, g0 + 3, none⟩, I c0.rectY0), (7, ⟨f0, g0 + 4, none⟩, I c0.rectX1), (7, ⟨f0, g0 + 5, none⟩, I c0.rectY1), (7, ⟨f0, g0 + 6, none⟩, .slice c0.deps.a c0.deps.n c0.deps.k), (7, ⟨f0, g0 + 7, none⟩, I c0.rows), (7, ⟨f0, g0 + 8, none⟩, I c0.scratch)] [(true, [0, 2, 3, 4]), (true, [1]), (true, [5]), (true, [6]), (true, [7]), (false, [8]), (true, [9]), (true, [10])] rfl kr ⟨.inr (b0.cell 0 rfl rfl), .inr (b0.cell 0 rfl rfl), .inr (b0.cell 0 rfl rfl), .inr (b0.cell 0 rfl rfl), .inr (b0.cell 0 rfl rfl), .inr (b0.cell 0 rfl rfl), .inr (b0.cell 0 rfl rfl), .inr (b0.cell 0 rfl rfl), .inr ((h0.up 4 rfl).cell b0 (k := 0) rfl), .inr ((h0.up 4 rfl).cell b0 (k := 1) rfl), .inr ((h0.up 4 rfl).cell b0 (k := 2) rfl), .inr ((h0.up 4 rfl).cell b0 (k := 3) rfl), .inr ((h0.up 4 rfl).cell b0 (k := 4) rfl), .inr ((h0.up 4 rfl).cell b0 (k := 5) rfl), .inr ((h0.up 4 rfl).cell b0 (k := 6) rfl), .inr ((h0.up 4 rfl).cell b0 (k := 7) rfl), .inr ((h0.up 4 rfl).cell b0 (k := 8) rfl), trivial⟩ ?_
 have p3 := b0.drew
 refine wU [0, 2, 3, 4] ?_
 refine wY (.agg (encWkr a0).toArray) rfl (fun w hF => Y_loadF rfl (Tryz.isAgg69 w) (Tryz.sizeOf69 w) kr rfl ⟨hF 0 _ _ rfl, hF 1 _ _ rfl, hF 2 _ _ rfl, hF 3 _ _ rfl, hF 4 _ _ rfl, hF 5 _ _ rfl, hF 6 _ _ rfl, trivial⟩) ?_
 refine wLd (I a0.heldTask) 7 Tryz.isAgg3 ?_
 refine wY (.pointer (some ⟨f0, g0, none⟩)) rfl (fun w _ => Y_idx (a := m1) (i := a0.heldTask) (len := o1) (cap := p1) rfl Tryz.runUnderlying39 Tryz.sizeOf45 kr kr o3) ?_
 refine wY (.agg (encTask c0).toArray) rfl (fun w hF => Y_loadF rfl (Tryz.isAgg45 w) (Tryz.sizeOf45 w) kr rfl ⟨hF 8 _ _ rfl, hF 9 _ _ rfl, hF 10 _ _ rfl, hF 11 _ _ rfl, hF 12 _ _ rfl, hF 13 _ _ rfl, hF 14 _ _ rfl, hF 15 _ _ rfl, hF 16 _ _ rfl, trivial⟩) ?_
 refine wO rfl ?_
 refine cR Tryz.call99 (bo_rest a0 c0 ⟨(RdT.flat ((hlD c0 (List.mem_of_getElem? g1)).deps.up 4 (by rfl)))⟩ (od) (od) (Sat.flat p3)) ?_
 intro _ q1
 have t4 : -4096 ≤ (restR a0 c0.rows) ∧ (restR a0 c0.rows) ≤ 131 := restR_bd om om
 refine nilO ⟨⟨dI, dI, dI, dI, dI, dI, dI, .inr (q1.cell 0 rfl rfl), dI, dI, dI, dI, dI, dI, dI, dI, dI, trivial⟩, ?_⟩
 refine wAdd n3 (restR a0 c0.rows) ?_
 refine wU [10] ?_
 refine wN ?_
 refine blockK_n <| thenK_n <| regionE ?_
 refine sAdd ((q : Nat) : Int) 1 ?_
 refine pu1 <| nT ?_
 have q3 := (q1.dropAt 0 rfl)
 exact ⟨(q + 1, (n3 + (restR a0 c0.rows))), od, alA, q3, om, (by rw [wksL_take i0, rst_run om r0 ((tasksF_run hFI.fw (wk_job hFI i0) r0).symm.trans hlV.symm) g1]; omega), om⟩
end Go.Proofs.YtegmennaekipaaaGreat

namespace Go.Proofs.YtegmennaekipaaaGreat
open Go Go.E
set_option linter.unusedVariables false
set_option linter.unusedSimpArgs false
set_option linter.unnecessarySimpa false
set_option maxRecDepth 100000
set_option maxHeartbeats 2000000
variable {W w : World} {H : Chunk} {F : List Chunk}
theorem spill_jobs {x job band : Int} : ∀ (l : List Int) {F : FS}, (spillF F x job band l).jobs = F.jobs
  | [], _ => rfl
  | t :: l, F => by
    have h : (spill1 F x ⟨job, t⟩ band).jobs = F.jobs := by unfold spill1; split <;> rfl
    exact (spill_jobs l (F := spill1 F x ⟨job, t⟩ band)).trans h
theorem in_dq {F : FS} {x : Int} {r : Ref} (h : r ∈ (dqAt F x).l) : 0 < cnt F r := by
  unfold dqAt at h
  rw [List.getD_eq_getElem?_getD] at h
  cases hd : F.dq[x.toNat]? with
  | none => rw [hd] at h; cases h
  | some d =>
    rw [hd] at h
    have := cD_ge (r := r) hd
    have h2 : 0 < d.l.count r := List.count_pos_iff.2 h
    unfold cnt; omega
/-! ### what keeps a running job going -/
structure LI (F : FS) : Prop where
  nc : ∀ j ∈ F.jobs, j.running = true → ∃ t : Int, inB j.B t ∧ stAt j.B.st t ≠ 4
  hw : ∀ (k : Nat) j, F.jobs[k]? = some j → j.running = true → ∀ t : Int, stAt j.B.st t = 3 → ∃ (y : Nat) (v : Wkr), F.ws[y]? = some v ∧ Holds v ∧ v.heldJob = ((k : Nat) : Int) ∧ v.heldTask = t
theorem LI.keep {F F' : FS} (h : LI F) (hw : F'.ws = F.ws) (hj : F'.jobs = F.jobs) : LI F' := ⟨by rw [hj]; exact h.nc, by rw [hj, hw]; exact h.hw⟩
theorem LI.upd {F F' : FS} (h : LI F) {x : Nat} {v' : Wkr} (hw : F'.ws = F.ws.set x v') (hj : F'.jobs = F.jobs)
  (hk : ∀ v, F.ws[x]? = some v → Holds v → (Holds v' ∧ v'.heldJob = v.heldJob ∧ v'.heldTask = v.heldTask) ∨ (∀ j, F.jobs[v.heldJob.toNat]? = some j → j.running = false)) : LI F' := by
 refine ⟨by rw [hj]; exact h.nc, ?_⟩
 intro k j hj2 hr t ht
 rw [hj] at hj2
 obtain ⟨y, v, h1, h2, h3, h4⟩ := h.hw k j hj2 hr t ht
 by_cases e : x = y
 ·subst e
  have hl := (List.getElem?_eq_some_iff.1 h1).1
  rcases hk v h1 h2 with ⟨a, b, c⟩ | a
  ·exact ⟨x, v', by rw [hw, List.getElem?_set, if_pos rfl, if_pos hl], a, b.trans h3, c.trans h4⟩
  ·rw [h3, Int.toNat_natCast] at a
   rw [a j hj2] at hr; cases hr
 ·exact ⟨y, v, by rw [hw, List.getElem?_set, if_neg e]; exact h1, h2, h3, h4⟩
theorem LI.job {F F' : FS} (h : LI F) {x k : Nat} {v' : Wkr} {j j' : JS} (hw : F'.ws = F.ws.set x v') (hjs : F'.jobs = F.jobs.set k j') (hjk : F.jobs[k]? = some j)
  (hn : j'.running = true → ∃ t : Int, inB j'.B t ∧ stAt j'.B.st t ≠ 4)
  (h3 : j'.running = true → ∀ t : Int, stAt j'.B.st t = 3 → (x < F.ws.length ∧ Holds v' ∧ v'.heldJob = ((k : Nat) : Int) ∧ v'.heldTask = t) ∨ (j.running = true ∧ stAt j.B.st t = 3 ∧ ∀ v, F.ws[x]? = some v → Holds v → ¬ (v.heldJob = ((k : Nat) : Int) ∧ v.heldTask = t)))
  (ho : ∀ v, F.ws[x]? = some v → Holds v → v.heldJob = ((k : Nat) : Int)) : LI F' := by
 refine ⟨?_, ?_⟩
 ·intro i hi hr
  rw [hjs] at hi
  rcases List.mem_or_eq_of_mem_set hi with hi | rfl
  ·exact h.nc i hi hr
  ·exact hn hr
 ·intro m i hi hr t ht
  rw [hjs] at hi
  have old : (∃ (y : Nat) (v : Wkr), x ≠ y ∧ F.ws[y]? = some v ∧ Holds v ∧ v.heldJob = ((m : Nat) : Int) ∧ v.heldTask = t) → ∃ (y : Nat) (v : Wkr), F'.ws[y]? = some v ∧ Holds v ∧ v.heldJob = ((m : Nat) : Int) ∧ v.heldTask = t := by
   rintro ⟨y, v, e, h1, h2⟩
   exact ⟨y, v, by rw [hw, List.getElem?_set, if_neg e]; exact h1, h2⟩
  rcases set_at' hi with ⟨rfl, rfl⟩ | ⟨e, hi⟩
  ·rcases h3 hr t ht with ⟨a, b⟩ | ⟨a, b, c⟩
   ·exact ⟨x, v', by rw [hw, List.getElem?_set, if_pos rfl, if_pos a], b⟩
   ·obtain ⟨y, v, h1, h2, h4, h5⟩ := h.hw k j hjk a t b
    exact old ⟨y, v, fun e => by subst e; exact c v h1 h2 ⟨h4, h5⟩, h1, h2, h4, h5⟩
  ·obtain ⟨y, v, h1, h2, h4, h5⟩ := h.hw m i hi hr t ht
   exact old ⟨y, v, fun e2 => by subst e2; have := ho v h1 h2; omega, h1, h2, h4, h5⟩
theorem job_some {F : FS} {K : Int} (hF : FW F K) {x : Int} (hx : 0 ≤ x ∧ x < 64) : F.jobs[x.toNat]? = some (jobAt F x) := by
  obtain ⟨j, hj⟩ := at_some hF.jl (k := x.toNat) (by omega)
  rw [hj]; unfold jobAt; rw [getD_some hj]
theorem LI.take {F : FS} {K x : Int} {r : Ref} (h : LI F) (hF : FW F K) (hx : x.toNat < F.ws.length) (hv : ∀ v, F.ws[x.toNat]? = some v → ¬ Holds v) (hr : rdyJ F.jobs r = true) : LI (takeF F x r) := by
 obtain ⟨h0, j, hj, hrun, hs⟩ := rdy_some hr
 have e : jobAt F r.job = j := getD_some hj
 have hJ := hF.j j (List.mem_of_getElem? hj)
 obtain ⟨hW, hd, _⟩ := hJ.b (hJ.r hrun)
 have hin := stAt_in hs (by decide)
 have hst := start_eq hW.ls hs
 refine h.job (x := x.toNat) (k := r.job.toNat) (j := j) (j' := { j with B := (startB j.B r.task).1 }) (v' := ⟨1, r.job, r.task, (startB (jobAt F r.job).B r.task).2.1, 0, 0, (F.ar.getD x.toNat default).high⟩) rfl (by unfold takeF; rw [e]) hj ?_ ?_ (fun v h1 h2 => absurd h2 (hv v h1))
 ·intro _
  refine ⟨r.task, ?_, ?_⟩
  ·rw [hst]; exact ⟨hin.1, by rw [← hW.ls]; exact hin.2⟩
  ·rw [hst]; show stAt (j.B.st.set r.task.toNat 3) r.task ≠ 4; rw [stAt_self hin]; decide
 ·intro _ t ht
  rw [hst] at ht
  replace ht : stAt (j.B.st.set r.task.toNat 3) t = 3 := ht
  by_cases e2 : t = r.task
  ·exact .inl ⟨hx, .inl rfl, by show r.job = _; omega, e2.symm⟩
  ·rw [stAt_other hin.1 e2] at ht
   exact .inr ⟨hrun, ht, fun v h1 h2 => absurd h2 (hv v h1)⟩
theorem not_done {B : BS} (hl : B.st.length = B.deps.length) (h : doneOf B ≠ ((B.deps.length : Nat) : Int)) : ∃ t : Int, inB B t ∧ stAt B.st t ≠ 4 := by
  by_cases hk : ∃ x ∈ B.st, x ≠ 4
  · obtain ⟨x, hx, hne⟩ := hk
    obtain ⟨i, hi, rfl⟩ := List.mem_iff_getElem.1 hx
    refine ⟨((i : Nat) : Int), ⟨by omega, by omega⟩, ?_⟩
    rw [stAt_nat _ (by omega), Int.toNat_natCast, List.getD_eq_getElem?_getD, List.getElem?_eq_getElem hi]; exact hne
  · exfalso; apply h
    unfold doneOf
    rw [List.filter_eq_self.2 (fun x hx => by simp only [decide_eq_true_eq]; exact Classical.byContradiction fun k => hk ⟨x, hx, k⟩), hl]
theorem com_three {B : BS} {i a t : Int} (hl : B.st.length = B.deps.length) (h : heldC B i a = 0) (ht : stAt (comB B i a).1.st t = 3) : t ≠ i ∧ stAt B.st t = 3 := by
  have hi := (heldC_zero h).2.1
  have hin := stAt_in hi (by decide)
  rw [com_eq h] at ht
  dsimp only at ht
  rw [mark_at (by rw [List.length_set]; exact hl)] at ht
  split at ht
  · cases ht
  · by_cases e : t = i
    · subst e; rw [stAt_self hin] at ht; cases ht
    · rw [stAt_other hin.1 e] at ht; exact ⟨e, ht⟩
theorem spill_ws {x job band : Int} : ∀ (l : List Int) {F : FS}, (spillF F x job band l).ws = F.ws
  | [], _ => rfl
  | t :: l, F => by
    have h : (spill1 F x ⟨job, t⟩ band).ws = F.ws := by unfold spill1; split <;> rfl
    exact (spill_ws l (F := spill1 F x ⟨job, t⟩ band)).trans h
theorem LI.micro {F : FS} {K x : Int} {v : Wkr} {j : JS} (h : LI F) (hF : FW F K) (hH : HI F) (hx : 0 ≤ x ∧ x < ((F.ws.length : Nat) : Int)) (hv : F.ws[x.toNat]? = some v) (hh : Holds v) (hj : F.jobs[v.heldJob.toNat]? = some j) (hrun : j.running = true) : LI (microF F x).1 := by
 have hw := hF.w v (List.mem_of_getElem? hv)
 obtain ⟨j2, c1, c2, c3⟩ := hH.h _ v hv hh
 rw [hj] at c1; obtain rfl := Option.some.inj c1
 have hJ := hF.j j (List.mem_of_getElem? hj)
 obtain ⟨hW, hd, hb⟩ := hJ.b c2
 have e : jobAt F v.heldJob = j := getD_some hj
 have k2 := hw.h
 have only : ∀ u, F.ws[x.toNat]? = some u → u = v := fun u hu => Option.some.inj (hu.symm.trans hv)
 unfold microF
 simp only [getD_some hv, e]
 by_cases p1 : v.phase = 1
 ·rw [if_pos p1]
  exact h.upd (x := x.toNat) rfl rfl fun u hu _ => by rw [only u hu]; exact .inl ⟨.inr (.inl rfl), rfl, rfl⟩
 ·rw [if_neg p1]
  by_cases p2 : v.phase = 2
  ·rw [if_pos p2]
   exact h.upd (x := x.toNat) rfl rfl fun u hu _ => by rw [only u hu]; exact .inl ⟨by unfold Holds; dsimp only; split <;> omega, rfl, rfl⟩
  ·rw [if_neg p2]
   have fin : ∀ F' : FS, ∀ j' : JS, F'.ws = F.ws.set x.toNat ⟨0, 0, 0, 0, 0, 0, (relA (F.ar.getD x.toNat default)).high⟩ → F'.jobs = F.jobs.set v.heldJob.toNat j' → j'.B = (comB j.B v.heldTask v.attempt).1 →
     (j'.running = true → doneOf (comB j.B v.heldTask v.attempt).1 ≠ ((j.tasks.length : Nat) : Int)) → LI F' := by
    intro F' j' hw' hj' hB hnd
    refine h.job (x := x.toNat) hw' hj' hj ?_ ?_ ?_
    ·intro hr
     rw [hB]
     exact not_done (com_wf hW).ls (by rw [com_deps, hd]; exact hnd hr)
    ·intro _ t ht
     rw [hB] at ht
     obtain ⟨hne, h3⟩ := com_three hW.ls c3 ht
     refine .inr ⟨hrun, h3, fun u hu _ => ?_⟩
     rw [only u hu]; rintro ⟨_, k⟩; exact hne k.symm
    ·intro u hu _; rw [only u hu]; omega
   split
   ·rename_i hdone
    exact fin _ _ (spill_ws _) rfl rfl (fun k => by cases k)
   ·rename_i hdone
    exact fin _ { j with B := (comB j.B v.heldTask v.attempt).1 } (spill_ws _) (spill_jobs _) rfl (fun _ => hdone)
theorem acq_take {F F' : FS} {x c : Int} {ev : Evt} (q : QI F) (he : acqF F x c = some (F', ev)) : ∃ r : Ref, F'.ws = (takeF F x r).ws ∧ F'.jobs = (takeF F x r).jobs ∧ rdyJ F.jobs r = true ∧ (ev.kind = 3 ∨ ev.kind = 4 ∨ ev.kind = 5) := by
 unfold acqF at he
 split at he
 ·rename_i r hr
  obtain ⟨rfl, rfl⟩ := Prod.mk.inj (Option.some.inj he)
  exact ⟨r, rfl, rfl, q.rdy (in_dq (List.mem_of_getLast? hr)), .inl rfl⟩
 ·split at he
  ·rename_i r bs hp
   obtain ⟨rfl, rfl⟩ := Prod.mk.inj (Option.some.inj he)
   refine ⟨r, rfl, rfl, q.rdy ?_, .inr (.inl rfl)⟩
   have := cQ_pop (r := r) hp
   unfold cnt; rw [this]; unfold eq1; rw [if_pos rfl]; omega
  ·unfold stealF at he
   split at he
   ·cases he
   ·split at he
    ·cases he
    ·rename_i r hr
     obtain ⟨rfl, rfl⟩ := Prod.mk.inj (Option.some.inj he)
     exact ⟨r, rfl, rfl, q.rdy (in_dq (List.mem_of_head? hr)), .inr (.inr rfl)⟩
theorem LI.step {F : FS} {K x c : Int} (h : LI F) (hF : FI F K) : LI (stepF F x c).1 := by
 unfold stepF
 split
 ·exact h
 ·rename_i hx
  replace hx := Classical.not_not.1 hx
  obtain ⟨v, hv⟩ := at_some (xs := F.ws) rfl (k := x.toNat) om
  have e : wAt F x = v := getD_some hv
  have hw := (hF.fw.w v (List.mem_of_getElem? hv)).h
  rw [e]
  split
  ·exact h
  ·split
   ·rename_i hH
    split
    ·rename_i hr; exact h.micro hF.fw hF.h hx hv hH (job_some hF.fw hw) hr
    ·rename_i hr
     refine h.upd (x := x.toNat) (v' := ⟨0, 0, 0, 0, 0, 0, (arAt F x).high⟩) rfl rfl fun u hu _ => .inr ?_
     rw [Option.some.inj (hu.symm.trans hv)]
     intro j hj
     rw [job_some hF.fw hw] at hj
     rw [← Option.some.inj hj]; simpa using hr
   ·rename_i hH
    have hnh : ∀ u, F.ws[x.toNat]? = some u → ¬ Holds u := by intro u hu; rw [Option.some.inj (hu.symm.trans hv)]; exact hH
    unfold restF
    split
    ·rename_i q hq
     obtain ⟨r, a1, a2, a3, _⟩ := acq_take (ev := q.2) hF.q hq
     exact (h.take (r := r) hF.fw om hnh a3).keep a1 a2
    ·split
     ·rename_i i hi
      have h2 := (first_some hi).2.2
      unfold canHelp busyW at h2
      obtain ⟨a1, a2⟩ := (Bool.and_eq_true _ _).mp ((Bool.and_eq_true _ _).mp h2).2
      have hb := chF_bd (F := F) (c := c) (i := i) hF.fw.n.1
      have hv2 := hF.fw.wmem hb
      have hw2 := (hF.fw.w _ (List.mem_of_getElem? hv2)).h
      exact (h.keep (F' := helpF F) rfl rfl).micro (hF.fw.ss) ⟨hF.h.h, hF.h.d, hF.h.z⟩ hb hv2 (of_decide_eq_true a1 : _ ∨ _ ∨ _) (job_some hF.fw hw2) a2
     ·exact h
theorem LI.crash {F : FS} {K x : Int} (h : LI F) (hF : FI F K) : LI (crashF F x).1 := by
 unfold crashF
 split
 ·exact h
 ·rename_i hx
  replace hx := Classical.not_not.1 hx
  split
  ·exact h
  ·have hv := hF.fw.wmem hx
   generalize wAt F x = v at hv ⊢
   have hw := (hF.fw.w v (List.mem_of_getElem? hv)).h
   have hj := job_some hF.fw hw
   have only : ∀ u, F.ws[x.toNat]? = some u → u = v := fun u hu => Option.some.inj (hu.symm.trans hv)
   by_cases hb : busyW F v = true
   ·have hb2 := hb
    unfold busyW at hb2
    obtain ⟨a1, a2⟩ := (Bool.and_eq_true _ _).mp hb2
    have hh : Holds v := (of_decide_eq_true a1 : _ ∨ _ ∨ _)
    obtain ⟨j2, c1, c2, c3⟩ := hF.h.h _ v hv hh
    rw [hj] at c1; obtain rfl := Option.some.inj c1
    have hJ := hF.fw.j _ (List.mem_of_getElem? hj)
    obtain ⟨hW, hd, _⟩ := hJ.b c2
    have hz := (heldC_zero c3).2.1
    have hin := stAt_in hz (by decide)
    have er : retJ F v = { F with jobs := F.jobs.set v.heldJob.toNat { jobAt F v.heldJob with B := retB (jobAt F v.heldJob).B v.heldTask v.attempt }, q := pushQ F.q ⟨v.heldJob, v.heldTask⟩ (jobAt F v.heldJob).band } := by unfold retJ; rw [if_pos hb]
    refine h.job (x := x.toNat) (k := v.heldJob.toNat) (j := jobAt F v.heldJob) (j' := { jobAt F v.heldJob with B := retB (jobAt F v.heldJob).B v.heldTask v.attempt }) (by rw [er]; rfl) (by rw [er]; rfl) hj ?_ ?_ (fun u hu _ => by rw [only u hu]; omega)
    ·intro _
     refine ⟨v.heldTask, ?_, ?_⟩
     ·rw [ret_eq c3]; exact ⟨hin.1, by rw [← hW.ls]; exact hin.2⟩
     ·rw [ret_eq c3]; show stAt ((jobAt F v.heldJob).B.st.set v.heldTask.toNat 2) v.heldTask ≠ 4; rw [stAt_self hin]; decide
    ·intro _ t ht
     rw [ret_eq c3] at ht
     replace ht : stAt ((jobAt F v.heldJob).B.st.set v.heldTask.toNat 2) t = 3 := ht
     by_cases e2 : t = v.heldTask
     ·subst e2; rw [stAt_self hin] at ht; cases ht
     ·rw [stAt_other hin.1 e2] at ht
      exact .inr ⟨a2, ht, fun u hu _ => by rw [only u hu]; rintro ⟨_, k⟩; exact e2 k.symm⟩
   ·rw [retJ_no (by simpa using hb)]
    refine h.upd (x := x.toNat) (v' := ⟨4, 0, 0, 0, 0, 0, (arAt F x).high⟩) rfl rfl fun u hu hh => .inr ?_
    rw [only u hu] at hh ⊢
    intro j hj2
    rw [hj] at hj2
    rw [← Option.some.inj hj2]
    cases hr : (jobAt F v.heldJob).running with
    | false => rfl
    | true => exact absurd (by unfold busyW; rw [hr, decide_eq_true (show v.phase = 1 ∨ v.phase = 2 ∨ v.phase = 3 from hh)]; rfl) hb
theorem LI.restart {F : FS} {K x : Int} (h : LI F) (hF : FI F K) : LI (restartF F x).1 := by
  unfold restartF
  split
  · exact h
  · rename_i hx
    replace hx := Classical.not_not.1 hx
    split
    · rename_i h4
      refine h.upd (x := x.toNat) (v' := ⟨0, 0, 0, 0, 0, 0, (F.ar.getD x.toNat default).high⟩) rfl rfl fun u hu hh => ?_
      rw [hF.fw.wmem hx] at hu
      rw [← Option.some.inj hu] at hh
      unfold Holds at hh; omega
    · exact h
theorem LI.jobs {F F' : FS} (h : LI F) {k : Nat} {j j' : JS} (hw : F'.ws = F.ws) (hjs : F'.jobs = F.jobs.set k j') (hjk : F.jobs[k]? = some j)
    (hn : j'.running = true → ∃ t : Int, inB j'.B t ∧ stAt j'.B.st t ≠ 4) (h3 : j'.running = true → ∀ t : Int, stAt j'.B.st t = 3 → j.running = true ∧ stAt j.B.st t = 3) : LI F' := by
  have hnone : ∀ v, ¬ F.ws[F.ws.length]? = some v := by intro v hv; simp at hv
  refine h.job (x := F.ws.length) (v' := default) (by rw [hw, List.set_eq_of_length_le (Nat.le_refl _)]) hjs hjk hn ?_ (fun v h1 => absurd h1 (hnone v))
  intro hr t ht
  obtain ⟨a, b⟩ := h3 hr t ht
  exact .inr ⟨a, b, fun v h1 => absurd h1 (hnone v)⟩
theorem LI.cancel {F : FS} {K x : Int} (h : LI F) (hF : FI F K) : LI (cancelF F x).1 := by
  unfold cancelF
  split
  · exact h
  · rename_i hx
    split
    · exact h
    · have hx2 : 0 ≤ x ∧ x < 64 := Classical.byContradiction fun k => hx (.inl k)
      exact h.jobs (j' := { jobAt F x with running := false }) rfl rfl (job_some hF.fw hx2) (fun k => by cases k) (fun k => by cases k)
theorem st0_two (d : List Int) : st0 d = 1 ∨ st0 d = 2 := by unfold st0; split <;> simp
theorem new_st {l : List Task} {t : Int} : stAt (newB l).st t = 0 ∨ stAt (newB l).st t = 1 ∨ stAt (newB l).st t = 2 := by
  have h : ∀ i : Nat, (newB l).st.getD i 0 = 0 ∨ (newB l).st.getD i 0 = 1 ∨ (newB l).st.getD i 0 = 2 := by
    intro i
    unfold newB
    rw [List.getD_eq_getElem?_getD, List.getElem?_map]
    cases l[i]? with
    | none => exact .inl rfl
    | some y => exact .inr (st0_two y.deps.l)
  unfold stAt
  split
  · exact h _
  · exact .inl rfl
theorem LI.add {F : FS} {x bd : Int} {l : List Task} {j : JS} (h : LI F) (hj : F.jobs[x.toNat]? = some j) (hl : 0 < l.length) : LI (addF F x l bd) := by
  refine h.jobs (j' := jobN l bd) rfl rfl hj ?_ ?_
  · intro _
    refine ⟨0, ⟨by decide, ?_⟩, ?_⟩
    · show (0 : Int) < (((newB l).deps.length : Nat) : Int)
      unfold newB; rw [List.length_map]; omega
    · show stAt (newB l).st 0 ≠ 4
      have := new_st (l := l) (t := 0); omega
  · intro _ t ht
    replace ht : stAt (newB l).st t = 3 := ht
    have := new_st (l := l) (t := t); omega
theorem LI.new (c : Cfg) : LI (newF c) := by
  refine ⟨?_, ?_⟩
  · intro j hj hr
    rw [List.eq_of_mem_replicate (show j ∈ List.replicate 64 JS.zero from hj)] at hr; cases hr
  · intro k j hj hr
    rw [List.eq_of_mem_replicate (List.mem_of_getElem? (show (List.replicate 64 JS.zero)[k]? = some j from hj))] at hr; cases hr
end Go.Proofs.YtegmennaekipaaaGreat

namespace Go.Proofs.YtegmennaekipaaaGreat
open Go Go.E
set_option linter.unusedVariables false
set_option linter.unusedSimpArgs false
set_option linter.unnecessarySimpa false
set_option maxRecDepth 100000
set_option maxHeartbeats 2000000
variable {W w : World} {H : Chunk} {F : List Chunk}
/-! ### sums over jobs and workers -/
def gW (s r : Int) : Int := if s = 1 ∨ s = 2 then stpR r else 0
def waitB (st : List Int) (ts : List TaskV) : Int := ((List.range ts.length).map fun n => gW (st.getD n 0) (ts.getD n default).rows).sum
def jobW (j : JS) : Int := if j.running = true then waitB j.B.st j.tasks else 0
def rstJ (jobs : List JS) (v : Wkr) : Int := if v.phase = 0 ∨ v.phase = 4 then 0 else if (jobs.getD v.heldJob.toNat default).running = true then restR v ((jobs.getD v.heldJob.toNat default).tasks.getD v.heldTask.toNat default).rows else 1
theorem filt_sum {α : Type} (p : α → Bool) (f : α → Int) : ∀ l : List α, ((l.filter p).map f).sum = (l.map fun x => if p x = true then f x else 0).sum
  | [] => rfl
  | x :: l => by
    have ih := filt_sum p f l
    rw [List.filter_cons, List.map_cons, List.sum_cons]
    split
    · rw [List.map_cons, List.sum_cons, ih]
    · rw [ih]; omega
theorem list_range {α : Type} [Inhabited α] (l : List α) (f : α → Int) : (l.map f).sum = ((List.range l.length).map fun i => f (l.getD i default)).sum := by
  congr 1
  refine List.ext_getElem (by simp) fun i h1 h2 => ?_
  rw [List.length_map] at h1
  simp [List.getD_eq_getElem?_getD, h1]
theorem sum_set {α : Type} {f : α → Int} : ∀ {l : List α} {k : Nat} {a b : α}, l[k]? = some a → ((l.set k b).map f).sum = (l.map f).sum + f b - f a
  | [], _, _, _, h => by cases h
  | x :: l, 0, a, b, h => by
    obtain rfl := Option.some.inj (show some x = some a from h)
    simp only [List.set_cons_zero, List.map_cons, List.sum_cons]; omega
  | x :: l, k + 1, a, b, h => by
    have ih := sum_set (f := f) (l := l) (k := k) (a := a) (b := b) h
    simp only [List.set_cons_succ, List.map_cons, List.sum_cons, ih]; omega
theorem range_upd {f g : Nat → Int} : ∀ {m t : Nat}, t < m → (∀ n, n ≠ t → n < m → f n = g n) → ((List.range m).map f).sum = ((List.range m).map g).sum + f t - g t
 | 0, t, h, _ => by omega
 | m + 1, t, h, he => by
  rw [List.range_succ, List.map_append, List.map_append, List.sum_append, List.sum_append]
  simp only [List.map_cons, List.map_nil, List.sum_cons, List.sum_nil]
  by_cases e : t = m
  ·subst e
   have : (List.range t).map f = (List.range t).map g := List.map_congr_left fun n hn => he n (by have := List.mem_range.1 hn; omega) (by have := List.mem_range.1 hn; omega)
   rw [this]; omega
  ·rw [range_upd (f := f) (g := g) (m := m) (t := t) om (fun n h1 h2 => he n h1 om), he m om om]; omega
theorem waitB_upd {st st' : List Int} {ts : List TaskV} {t : Nat} (ht : t < ts.length) (h : ∀ n, n ≠ t → n < ts.length → gW (st'.getD n 0) (ts.getD n default).rows = gW (st.getD n 0) (ts.getD n default).rows) :
    waitB st' ts = waitB st ts + gW (st'.getD t 0) (ts.getD t default).rows - gW (st.getD t 0) (ts.getD t default).rows := range_upd ht h
theorem jobs_sum {F : FS} {K : Int} (hF : FW F K) : jobsL F (runK F.jobs) = (F.jobs.map jobW).sum := by
 unfold jobsL runK
 rw [filt_sum, list_range F.jobs jobW, hF.jl]
 unfold allK
 rw [List.map_map]
 congr 1
 refine List.map_congr_left fun i hi => ?_
 have hi := List.mem_range.1 hi
 obtain ⟨j, hj⟩ := at_some hF.jl (k := i) hi
 simp only [Function.comp]
 have e : jobAt F ((i : Nat) : Int) = j := by unfold jobAt; rw [Int.toNat_natCast]; exact getD_some hj
 unfold runJ9 jobW
 rw [Int.toNat_natCast, getD_some hj]
 cases hr : j.running with
 | false => simp
 | true =>
  simp only [if_true]
  have ha := (hF.j j (List.mem_of_getElem? hj)).r hr
  have hx : (0 : Int) ≤ ((i : Nat) : Int) ∧ ((i : Nat) : Int) < 64 := by omega
  have hj2 : F.jobs[(((i : Nat) : Int)).toNat]? = some j := by rw [Int.toNat_natCast]; exact hj
  unfold waitT waitB
  rw [tasks_at hx hj2 ha]
  congr 1
  refine List.map_congr_left fun n _ => ?_
  rw [state_at hx hj2 ha, stAt_nat _ om, Int.toNat_natCast]; rfl
theorem left_eq {F : FS} {K : Int} (hF : FW F K) : leftF F = (F.jobs.map jobW).sum + (F.ws.map (rstJ F.jobs)).sum := by
  unfold leftF wksL; rw [jobs_sum hF]; rfl
theorem rstJ_set {jobs : List JS} {k : Nat} {j j' : JS} (hj : jobs[k]? = some j) (hr : j'.running = j.running) (ht : j'.tasks = j.tasks) (v : Wkr) : rstJ (jobs.set k j') v = rstJ jobs v := by
 unfold rstJ
 by_cases e : k = v.heldJob.toNat
 ·have hl := (List.getElem?_eq_some_iff.1 hj).1
  have e1 : (jobs.set k j').getD v.heldJob.toNat default = j' := by rw [List.getD_eq_getElem?_getD, List.getElem?_set, if_pos e, if_pos hl]; rfl
  have e2 : jobs.getD v.heldJob.toNat default = j := by rw [← e]; exact getD_some hj
  rw [e1, e2, hr, ht]
 ·have e1 : (jobs.set k j').getD v.heldJob.toNat default = jobs.getD v.heldJob.toNat default := by rw [List.getD_eq_getElem?_getD, List.getElem?_set, if_neg e, ← List.getD_eq_getElem?_getD]
  rw [e1]
theorem map_rst {jobs jobs' : List JS} {ws : List Wkr} (h : ∀ v ∈ ws, rstJ jobs' v = rstJ jobs v) : (ws.map (rstJ jobs')).sum = (ws.map (rstJ jobs)).sum := by rw [List.map_congr_left h]
/-- A task of a job is taken by an idle worker. -/
theorem left_take {F : FS} {K x : Int} {r : Ref} {v : Wkr} (hF : FI F K) (hv : F.ws[x.toNat]? = some v) (h0 : v.phase = 0) (hr : rdyJ F.jobs r = true) (F' : FS) (K' : Int) (hF' : FW F' K') (hw : F'.ws = (takeF F x r).ws) (hjs : F'.jobs = (takeF F x r).jobs) : leftF F' = leftF F - 1 := by
 obtain ⟨hr0, j, hj, hrun, hs⟩ := rdy_some hr
 have e : jobAt F r.job = j := getD_some hj
 have hJ := hF.fw.j j (List.mem_of_getElem? hj)
 obtain ⟨hW, hd, _⟩ := hJ.b (hJ.r hrun)
 have hin := stAt_in hs (by decide)
 have hst := start_eq hW.ls hs
 have hlt : r.task.toNat < j.tasks.length := by rw [← hd, ← hW.ls]; omega
 rw [left_eq hF', left_eq hF.fw, hw, hjs]
 have ej : (takeF F x r).jobs = F.jobs.set r.job.toNat { j with B := (startB j.B r.task).1 } := by unfold takeF; rw [e]
 have ew : (takeF F x r).ws = F.ws.set x.toNat ⟨1, r.job, r.task, (startB (jobAt F r.job).B r.task).2.1, 0, 0, (F.ar.getD x.toNat default).high⟩ := rfl
 rw [ej, ew, sum_set hj, map_rst (fun u _ => rstJ_set (j' := { j with B := (startB j.B r.task).1 }) hj rfl rfl u), sum_set hv]
 have h1 : rstJ F.jobs v = 0 := by unfold rstJ; rw [if_pos (.inl h0)]
 have hrow : 1 ≤ (j.tasks.getD r.task.toNat default).rows ∧ (j.tasks.getD r.task.toNat default).rows ≤ 128 := by
  have hm : j.tasks.getD r.task.toNat default ∈ j.tasks := by rw [List.getD_eq_getElem?_getD, List.getElem?_eq_getElem hlt]; exact List.getElem_mem hlt
  have := hF.a.t j (List.mem_of_getElem? hj) _ hm
  exact ⟨this.2.2.1, this.2.2.2.1⟩
 have h2 : rstJ F.jobs ⟨1, r.job, r.task, (startB (jobAt F r.job).B r.task).2.1, 0, 0, (F.ar.getD x.toNat default).high⟩ = (j.tasks.getD r.task.toNat default).rows + 2 := by
  unfold rstJ
  rw [if_neg (by simp)]
  dsimp only
  rw [getD_some hj, if_pos hrun]; rfl
 have h3 : jobW { j with B := (startB j.B r.task).1 } = jobW j - ((j.tasks.getD r.task.toNat default).rows + 3) := by
  unfold jobW
  dsimp only
  rw [if_pos hrun, if_pos hrun, hst]
  have es : ∀ n, (j.B.st.set r.task.toNat 3).getD n 0 = if r.task.toNat = n then 3 else j.B.st.getD n 0 := by
   intro n
   have := @getD_set j.B.st r.task.toNat n 3
   rw [this]
   by_cases k : r.task.toNat = n
   ·rw [if_pos ⟨k, om⟩, if_pos k]
   ·rw [if_neg (fun z => k z.1), if_neg k]
  rw [waitB_upd (st := j.B.st) (st' := j.B.st.set r.task.toNat 3) hlt (fun n h1 _ => by rw [es, if_neg (fun k => h1 k.symm)]), es, if_pos rfl]
  rw [stAt_nat _ hin.1] at hs
  rw [hs]
  have g3 : ∀ a, gW 3 a = 0 := fun a => by unfold gW; rw [if_neg (by decide)]
  have g2 : ∀ a, gW 2 a = stpR a := fun a => by unfold gW; rw [if_pos (by decide)]
  rw [g3, g2]
  have : stpR (j.tasks.getD r.task.toNat default).rows = (j.tasks.getD r.task.toNat default).rows + 3 := by unfold stpR; rw [if_neg om]
  omega
 rw [h1, h2, h3]; omega
theorem rst_hold {jobs : List JS} {v : Wkr} {j : JS} (hj : jobs[v.heldJob.toNat]? = some j) (hr : j.running = true) (hp : ¬ (v.phase = 0 ∨ v.phase = 4)) : rstJ jobs v = restR v (j.tasks.getD v.heldTask.toNat default).rows := by
  unfold rstJ; rw [if_neg hp, getD_some hj, if_pos hr]
theorem gW_none {s r : Int} (h : ¬ (s = 1 ∨ s = 2)) : gW s r = 0 := by unfold gW; rw [if_neg h]
theorem waitB_same {st st' : List Int} {ts : List TaskV} (h : ∀ n, n < ts.length → gW (st'.getD n 0) (ts.getD n default).rows = gW (st.getD n 0) (ts.getD n default).rows) : waitB st' ts = waitB st ts := by
  unfold waitB; congr 1; exact List.map_congr_left fun n hn => h n (List.mem_range.1 hn)
theorem waitB_done {st : List Int} {ts : List TaskV} (h : ∀ x ∈ st, x = 4) : waitB st ts = 0 := by
  unfold waitB
  have : ∀ l : List Nat, (l.map fun n => gW (st.getD n 0) (ts.getD n default).rows).sum = 0 := by
    intro l
    induction l with
    | nil => rfl
    | cons n l ih =>
      rw [List.map_cons, List.sum_cons, ih]
      have : gW (st.getD n 0) (ts.getD n default).rows = 0 := by
        refine gW_none ?_
        rw [List.getD_eq_getElem?_getD]
        cases hs : st[n]? with
        | none => simp
        | some y => have := h y (List.mem_of_getElem? hs); simp [this]
      omega
  exact this _
theorem com_wait {B : BS} {i a : Int} {ts : List TaskV} (hl : B.st.length = B.deps.length) (hd : B.deps.length = ts.length) (h : heldC B i a = 0) : waitB (comB B i a).1.st ts = waitB B.st ts := by
 have hi := (heldC_zero h).2.1
 have hin := stAt_in hi (by decide)
 refine waitB_same fun n hn => ?_
 rw [com_eq h]
 have e1 : ∀ s : List Int, s.getD n 0 = stAt s ((n : Nat) : Int) := fun s => by rw [stAt_nat _ om, Int.toNat_natCast]
 rw [e1, e1, mark_at (by rw [List.length_set]; exact hl)]
 split
 ·rename_i hc
  have h1 := cond_one hc.1 hc.2.2
  have hne : ((n : Nat) : Int) ≠ i := by intro k; rw [k, stAt_self hin] at h1; cases h1
  rw [stAt_other hin.1 hne] at h1
  rw [h1]; unfold gW; rw [if_pos (.inr rfl), if_pos (.inl rfl)]
 ·by_cases k : ((n : Nat) : Int) = i
  ·rw [k, stAt_self hin, hi, gW_none (by decide), gW_none (by decide)]
  ·rw [stAt_other hin.1 k]
theorem left_micro {F : FS} {K K' x : Int} {v : Wkr} {j : JS} (hF : FI F K) (hx : 0 ≤ x ∧ x < ((F.ws.length : Nat) : Int)) (hv : F.ws[x.toNat]? = some v) (hh : Holds v) (hj : F.jobs[v.heldJob.toNat]? = some j) (hrun : j.running = true) (hF' : FW (microF F x).1 K') : leftF (microF F x).1 = leftF F - 1 := by
 have hw := hF.fw.w v (List.mem_of_getElem? hv)
 obtain ⟨j2, c1, c2, c3⟩ := hF.h.h _ v hv hh
 rw [hj] at c1; obtain rfl := Option.some.inj c1
 have hJ := hF.fw.j j (List.mem_of_getElem? hj)
 obtain ⟨hW, hd, hb⟩ := hJ.b c2
 have e : jobAt F v.heldJob = j := getD_some hj
 have k2 := hw.h
 obtain ⟨a, ha⟩ := at_some hF.fw.al (k := x.toNat) om
 have A := hF.a.a _ v a hv ha
 have et : taskAt F v = j.tasks.getD v.heldTask.toNat default := by unfold taskAt; rw [e]
 have hp : ¬ (v.phase = 0 ∨ v.phase = 4) := by unfold Holds at hh; omega
 have hold := rst_hold hj hrun hp
 have h9 : ∀ v' : Wkr, v'.heldJob = v.heldJob → v'.heldTask = v.heldTask → ¬ (v'.phase = 0 ∨ v'.phase = 4) → rstJ F.jobs v' = restR v' (j.tasks.getD v.heldTask.toNat default).rows := by
  intro v' q1 q2 q3
  rw [rst_hold (j := j) (by rw [q1]; exact hj) hrun q3, q2]
 rw [left_eq hF.fw]
 unfold microF at hF' ⊢
 simp only [getD_some hv, e] at hF' ⊢
 by_cases p1 : v.phase = 1
 ·rw [if_pos p1] at hF' ⊢
  rw [left_eq hF']
  dsimp only
  rw [sum_set hv, hold]
  have h1 := A.r1 p1
  rw [h9]
  rotate_left
  ·rfl
  ·rfl
  ·dsimp only; omega
  unfold restR
  dsimp only
  rw [if_neg (by decide), if_pos rfl, if_pos p1]; omega
 ·rw [if_neg p1] at hF' ⊢
  by_cases p2 : v.phase = 2
  ·rw [if_pos p2] at hF' ⊢
   rw [left_eq hF']
   dsimp only
   rw [sum_set hv, hold]
   have h2 := A.r2 p2
   rw [et] at h2
   rw [h9]
   rotate_left
   ·rfl
   ·rfl
   ·dsimp only; split <;> omega
   unfold restR
   dsimp only
   rw [if_neg p1, if_pos p2]
   by_cases h3 : v.row + 1 = (j.tasks.getD v.heldTask.toNat default).rows
   ·rw [if_pos h3, if_neg (by decide), if_neg (by decide)]; omega
   ·rw [if_neg h3]; rw [if_neg (by decide), if_pos rfl]; omega
  ·rw [if_neg p2] at hF' ⊢
   have p3 : v.phase = 3 := by unfold Holds at hh; omega
   have h1 : rstJ F.jobs v = 1 := by rw [hold]; unfold restR; rw [if_neg p1, if_neg p2]
   have fin : ∀ (G : FS) (L : Int) (j' : JS) (hi : Int), FW G L → G.ws = F.ws.set x.toNat ⟨0, 0, 0, 0, 0, 0, hi⟩ → G.jobs = F.jobs.set v.heldJob.toNat j' → j'.B = (comB j.B v.heldTask v.attempt).1 → j'.tasks = j.tasks →
     (j'.running = true ∨ (j'.running = false ∧ doneOf (comB j.B v.heldTask v.attempt).1 = ((j.tasks.length : Nat) : Int))) → leftF G = (F.jobs.map jobW).sum + (F.ws.map (rstJ F.jobs)).sum - 1 := by
    intro G L j' hi hG gw gj gB gt gr
    rw [left_eq hG, gj, gw, sum_set hj]
    have hc := com_wait hW.ls hd c3
    have hjw : jobW j' = jobW j := by
     unfold jobW
     rw [if_pos hrun, gB, gt]
     rcases gr with gr | ⟨gr, gd⟩
     ·rw [if_pos gr, hc]
     ·rw [gr, if_neg (by decide), ← hc]
      have hl : (comB j.B v.heldTask v.attempt).1.st.length = j.tasks.length := by rw [(com_wf hW).ls, com_deps, hd]
      unfold doneOf at gd
      rw [waitB_done (filter_allX om)]
    have hr : ∀ u ∈ F.ws.set x.toNat ⟨0, 0, 0, 0, 0, 0, hi⟩, rstJ (F.jobs.set v.heldJob.toNat j') u = rstJ F.jobs u := by
     intro u hu
     rcases gr with gr | ⟨gr, gd⟩
     ·exact rstJ_set hj (gr.trans hrun.symm) gt u
     ·obtain ⟨y, hy⟩ := List.mem_iff_getElem?.1 hu
      by_cases hz : u.phase = 0 ∨ u.phase = 4
      ·unfold rstJ; rw [if_pos hz, if_pos hz]
      ·rcases set_at' hy with ⟨_, rfl⟩ | ⟨hne, hy⟩
       ·exact absurd (.inl rfl) hz
       ·have hu2 : Holds u := by
         by_cases k : Holds u
         ·exact k
         ·have := hF.h.z y u hy k; omega
        obtain ⟨ju, d1, d2, d3⟩ := hF.h.h y u hy hu2
        by_cases ek : v.heldJob.toNat = u.heldJob.toNat
        ·exfalso
         rw [← ek, hj] at d1; obtain rfl := Option.some.inj d1
         have hku := (hF.fw.w u (List.mem_of_getElem? hy)).h
         have hne2 : u.heldTask ≠ v.heldTask := by
          intro k
          exact hF.h.d _ _ v u hv hy hne hh hu2 ⟨om, k.symm⟩
         have h9 := com_held hW.ls c3 d3 hne2
         have hs := (heldC_zero h9).2.1
         have hl : (comB j.B v.heldTask v.attempt).1.st.length = j.tasks.length := by rw [(com_wf hW).ls, com_deps, hd]
         unfold doneOf at gd
         have hall := filter_allX (s := (comB j.B v.heldTask v.attempt).1.st) om
         have hin := stAt_in hs (by decide)
         rw [stAt_nat _ hin.1] at hs
         have := hall _ (getD_mem (s := (comB j.B v.heldTask v.attempt).1.st) (q := u.heldTask.toNat) om); omega
        ·unfold rstJ
         have e1 : (F.jobs.set v.heldJob.toNat j').getD u.heldJob.toNat default = F.jobs.getD u.heldJob.toNat default := by rw [List.getD_eq_getElem?_getD, List.getElem?_set, if_neg ek, ← List.getD_eq_getElem?_getD]
         rw [e1]
    rw [map_rst hr, sum_set hv, hjw, h1]
    have : rstJ F.jobs ⟨0, 0, 0, 0, 0, 0, hi⟩ = 0 := by unfold rstJ; rw [if_pos (.inl rfl)]
    rw [this]; omega
   split at hF'
   ·rename_i hdone
    rw [if_pos hdone]
    exact fin _ _ { j with B := (comB j.B v.heldTask v.attempt).1, running := false } _ hF' (spill_ws _) rfl rfl rfl (.inr ⟨rfl, hdone⟩)
   ·rename_i hdone
    rw [if_neg hdone]
    exact fin _ _ { j with B := (comB j.B v.heldTask v.attempt).1 } _ hF' (spill_ws _) (spill_jobs _) rfl rfl (.inl hrun)
theorem ch_surj {n : Nat} {c y : Int} (hy : 0 ≤ y ∧ y < ((n : Nat) : Int)) : ∃ i : Nat, i < n ∧ choiceI ((n : Nat) : Int) c ((i : Nat) : Int) = y := by
 have hb := norm_bd (n := n) (c := c) om
 have e : ∀ i : Int, choiceI ((n : Nat) : Int) c i = (normC n c + i).tmod n := fun i => rfl
 by_cases h : normC n c ≤ y
 ·refine ⟨(y - normC n c).toNat, om, ?_⟩
  rw [e, show normC n c + (((y - normC n c).toNat : Nat) : Int) = y by omega]
  exact Int.tmod_eq_of_lt hy.1 hy.2
 ·refine ⟨(y - normC n c + n).toNat, om, ?_⟩
  rw [e, show normC n c + (((y - normC n c + n).toNat : Nat) : Int) = y + n by omega, Int.tmod_eq_emod_of_nonneg om, Int.add_emod_right]
  exact Int.emod_eq_of_lt hy.1 hy.2
theorem first_no {p : Nat → Bool} : ∀ {n i : Nat}, firstI p n i = none → ∀ k, i ≤ k → k < i + n → p k = false
  | 0, i, _, k, h1, h2 => by omega
  | n + 1, i, h, k, h1, h2 => by
    unfold firstI at h
    split at h
    · cases h
    · rename_i hp
      by_cases e : i = k
      · subst e; simpa using hp
      · exact first_no h k (by omega) (by omega)
theorem cDq_none : ∀ {l : List DS} {r : Ref}, (∀ d ∈ l, d.l = []) → cDq l r = 0
  | [], _, _ => rfl
  | d :: l, r, h => by
    have ih := cDq_none (l := l) (r := r) fun e he => h e (List.mem_cons_of_mem _ he)
    unfold cDq at *
    rw [List.map_cons, List.sum_cons, h d List.mem_cons_self, ih]; rfl
theorem acq_none {F : FS} {K x c : Int} (hF : FW F K) (ha : acqF F x c = none) (r : Ref) : cnt F r = 0 := by
 unfold acqF at ha
 split at ha
 ·cases ha
 ·split at ha
  ·cases ha
  ·rename_i hq
   unfold stealF at ha
   split at ha
   ·rename_i hn
    unfold cnt
    rw [cQ_none hq, cDq_none, Nat.add_zero]
    intro d hd
    obtain ⟨y, hy⟩ := List.mem_iff_getElem?.1 hd
    have hl := (List.getElem?_eq_some_iff.1 hy).1
    rw [hF.dl] at hl
    obtain ⟨i, hi, e⟩ := ch_surj (n := F.ws.length) (c := c) (y := ((y : Nat) : Int)) ⟨om, om⟩
    have h1 := first_no hn i om om
    have e2 : chF F c i = ((y : Nat) : Int) := e
    unfold canSteal dqAt at h1
    rw [e2, Int.toNat_natCast, getD_some hy] at h1
    simpa using h1
   ·rename_i i hn
    split at ha
    ·rename_i hh
     have h1 := (first_some hn).2.2
     unfold canSteal at h1
     rw [List.head?_eq_none_iff] at hh
     rw [hh] at h1; cases h1
    ·cases ha
/-- No ready task, none held: all are committed. -/
theorem all_four {B : BS} {K : Int} (hW : BWf B K) (h2 : ∀ t, stAt B.st t ≠ 2) (h3 : ∀ t, stAt B.st t ≠ 3) : ∀ n : Nat, n < B.deps.length → stAt B.st ((n : Nat) : Int) = 4 := by
 intro n
 induction n using Nat.strongRecOn with
 | ind n ih =>
  intro hn
  have hls := hW.ls
  have e1 : stAt B.st ((n : Nat) : Int) = B.st.getD n 0 := by rw [stAt_nat _ om, Int.toNat_natCast]
  have hb := hW.st _ (getD_mem (s := B.st) (q := n) om)
  have a2 := h2 ((n : Nat) : Int)
  have a3 := h3 ((n : Nat) : Int)
  by_cases h1 : B.st.getD n 0 = 1
  ·exfalso
   have hd : B.deps[n]? = some B.deps[n] := List.getElem?_eq_getElem hn
   have ho := (hW.wait n _ hd).1 h1
   unfold openB at ho
   obtain ⟨d, hd1, hd2⟩ := List.any_eq_true.1 ho
   have hd2 := of_decide_eq_true hd2
   have ha := asc_mem (hW.asc n _ hd) d hd1
   have := ih d.toNat om om
   rw [show ((d.toNat : Nat) : Int) = d by omega] at this
   exact hd2 this
  ·omega
theorem idle_none {F : FS} {K x c : Int} (hF : FI F K) (hL : LI F) (hx : 0 ≤ x ∧ x < ((F.ws.length : Nat) : Int)) (hi : ¬ Holds (wAt F x)) (ha : acqF F x c = none) (hh : firstI (canHelp F x c) F.ws.length 0 = none) : runK F.jobs = [] := by
 refine List.eq_nil_iff_forall_not_mem.2 fun k hk => ?_
 obtain ⟨hk0, hrun⟩ := (runK_mem hF.fw).1 hk
 have hj := job_some hF.fw hk0
 have hJ := hF.fw.j _ (List.mem_of_getElem? hj)
 obtain ⟨hW, _, _⟩ := hJ.b (hJ.r hrun)
 have h2 : ∀ t, stAt (jobAt F k).B.st t ≠ 2 := by
  intro t ht
  have h1 : rdyJ F.jobs ⟨k, t⟩ = true := by rw [rdy_at (r := ⟨k, t⟩) hk0.1 hj, hrun, decide_eq_true ht]; rfl
  have h3 := hF.q.c ⟨k, t⟩
  rw [h1, acq_none hF.fw ha] at h3; cases h3
 have h3 : ∀ t, stAt (jobAt F k).B.st t ≠ 3 := by
  intro t ht
  obtain ⟨y, v, a1, a2, a3, a4⟩ := hL.hw k.toNat _ hj hrun t ht
  have hl := (List.getElem?_eq_some_iff.1 a1).1
  obtain ⟨i, hi2, e⟩ := ch_surj (n := F.ws.length) (c := c) (y := ((y : Nat) : Int)) ⟨om, om⟩
  have h1 := first_no hh i om om
  have e2 : chF F c i = ((y : Nat) : Int) := e
  have ew : wAt F ((y : Nat) : Int) = v := by unfold wAt; rw [Int.toNat_natCast]; exact getD_some a1
  have hne : ((y : Nat) : Int) ≠ x := by rintro rfl; rw [ew] at hi; exact hi a2
  unfold canHelp busyW at h1
  rw [e2, ew, decide_eq_true hne, decide_eq_true (show v.phase = 1 ∨ v.phase = 2 ∨ v.phase = 3 from a2), show v.heldJob = k by omega, hrun] at h1
  cases h1
 obtain ⟨t, ht1, ht2⟩ := hL.nc _ (List.mem_of_getElem? hj) hrun
 have := all_four hW h2 h3 t.toNat (by have := ht1.2; have := ht1.1; omega)
 rw [show ((t.toNat : Nat) : Int) = t by have := ht1.1; omega] at this
 exact ht2 this
end Go.Proofs.YtegmennaekipaaaGreat
