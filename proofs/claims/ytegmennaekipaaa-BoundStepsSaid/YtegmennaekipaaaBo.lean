import Derived.Test.YtegmennaekipaaaLwf
namespace Go.Proofs.Ytegmennaekipaaa
open Go Go.E
set_option linter.unusedVariables false
set_option linter.unusedSimpArgs false
set_option linter.unnecessarySimpa false
set_option maxRecDepth 100000
set_option maxHeartbeats 2000000
variable {W w : World} {H : Chunk} {F : List Chunk}
theorem job_at {F : FS} {K : Int} (hF : FW F K) {k : Nat} {j : JS} (hj : F.jobs[k]? = some j) : k < 64 := by
  have := (List.getElem?_eq_some_iff.1 hj).1; rw [hF.jl] at this; exact this
theorem tasks_le {F : FS} {K : Int} (hF : FW F K) (x : Int) : (tasksF F x).length ≤ 4096 := by
  unfold tasksF
  split
  · rename_i h
    obtain ⟨j, hj⟩ := at_some hF.jl (k := x.toNat) (by omega)
    unfold jobAt; rw [getD_some hj]; exact (hF.j j (List.mem_of_getElem? hj)).n
  · exact Nat.zero_le _
theorem runK_nd (jobs : List JS) : (runK jobs).Nodup := List.Pairwise.filter _ (allK_nd 64)
structure WF (F : FS) (v : Wkr) : Prop where
  u : 0 ≤ v.used ∧ v.used ≤ v.high ∧ v.high ≤ F.cfg.arena
  z : v.phase = 0 ∨ v.phase = 4 → v.used = 0 ∧ v.row = 0 ∧ v.heldJob = 0 ∧ v.heldTask = 0
  h : ¬ (v.phase = 0 ∨ v.phase = 4) → (v.phase = 1 ∨ v.phase = 2 ∨ v.phase = 3) ∧ 0 ≤ v.heldTask ∧ v.heldTask < (((tasksF F v.heldJob).length : Nat) : Int) ∧ stateF F v.heldJob v.heldTask = 3 ∧
    ∀ x, (tasksF F v.heldJob)[v.heldTask.toNat]? = some x → v.row ≤ x.rows ∧ (v.phase = 1 → v.used = 0) ∧ (v.phase ≠ 1 → v.used = x.scratch)
theorem held_in {B : BS} {i a : Int} (h : heldC B i a = 0) : (0 ≤ i ∧ i < ((B.deps.length : Nat) : Int)) ∧ stAt B.st i = 3 := by
  unfold heldC at h
  split at h
  · rename_i h1
    split at h
    · rename_i h2; exact ⟨h1, h2.1⟩
    · cases h
  · cases h
theorem wk_ok {F : FS} {K : Int} (hF : FI F K) {i : Nat} {v : Wkr} (hv : F.ws[i]? = some v) : WF F v := by
  have hw := hF.fw.w v (List.mem_of_getElem? hv)
  have hi := (List.getElem?_eq_some_iff.1 hv).1
  obtain ⟨a, ha⟩ := at_some hF.fw.al (k := i) hi
  have A := hF.a.a i v a hv ha
  have hb := A.b
  have hc := A.c
  have hu := A.u
  have hh := A.h
  refine ⟨by omega, ?_, ?_⟩
  · intro hp
    have h1 := hF.h.z i v hv (by unfold Holds; omega)
    have h2 := A.z (by omega)
    exact ⟨by omega, h1.2.2.2.1, h1.1, h1.2.1⟩
  · intro hp
    have hH : Holds v := by
      by_cases h : Holds v
      · exact h
      · have := hF.h.z i v hv h; omega
    obtain ⟨j, hj, hadd, hc2⟩ := hF.h.h i v hv hH
    have hx : 0 ≤ v.heldJob ∧ v.heldJob < 64 := hw.h
    obtain ⟨h1, h2⟩ := held_in hc2
    have hjo := hF.fw.j j (List.mem_of_getElem? hj)
    have hl := (hjo.b hadd).2.1
    rw [tasks_at hx hj hadd, state_at hx hj hadd]
    refine ⟨hH, h1.1, by omega, h2, ?_⟩
    intro x hx2
    have ht : taskAt F v = x := by
      unfold taskAt jobAt; rw [getD_some hj, getD_some hx2]
    have hm := hF.a.t j (List.mem_of_getElem? hj) x (List.mem_of_getElem? hx2)
    refine ⟨?_, ?_, ?_⟩
    · rcases hH with h | h | h
      · have := A.r1 h; omega
      · have := A.r2 h; rw [ht] at this; omega
      · have := A.r3 h; rw [ht] at this; omega
    · intro h; have := A.z (by omega); omega
    · intro h
      have := A.m (by unfold Holds at hH; omega)
      rw [ht] at this; omega
theorem runK_mem {F : FS} {K : Int} (hF : FW F K) {x : Int} : x ∈ runK F.jobs ↔ (0 ≤ x ∧ x < 64) ∧ (jobAt F x).running = true := by
  unfold runK runJ9
  rw [List.mem_filter, mem_allK]; rfl
/-! ### bound: steps that are left -/
def stpR (r : Int) : Int := if r < 1 ∨ 128 < r then 0 else r + 3
theorem stpR_bd (r : Int) : 0 ≤ stpR r ∧ stpR r ≤ 131 := by unfold stpR; split <;> omega
def totR (l : List Int) : Int := (l.map stpR).sum
theorem totR_take {l : List Task} {i : Nat} {x : Task} (h : l[i]? = some x) : totR ((l.take (i + 1)).map (·.rows)) = totR ((l.take i).map (·.rows)) + stpR x.rows := by
  unfold totR; rw [take_succ_at h, List.map_append, List.map_append, List.sum_append]; simp
def waitT (F : FS) (x : Int) (k : Nat) : Int := ((List.range k).map fun n => if stateF F x ((n : Nat) : Int) = 1 ∨ stateF F x ((n : Nat) : Int) = 2 then stpR ((tasksF F x).getD n default).rows else 0).sum
def jobsL (F : FS) (l : List Int) : Int := (l.map fun x => waitT F x (tasksF F x).length).sum
def restR (v : Wkr) (r : Int) : Int := if v.phase = 1 then r + 2 else if v.phase = 2 then r - v.row + 1 else 1
def rstW (F : FS) (v : Wkr) : Int := if v.phase = 0 ∨ v.phase = 4 then 0 else if (jobAt F v.heldJob).running = true then restR v (taskAt F v).rows else 1
def wksL (F : FS) (l : List Wkr) : Int := (l.map (rstW F)).sum
def leftF (F : FS) : Int := jobsL F (runK F.jobs) + wksL F F.ws
theorem waitT_zero {F : FS} {x : Int} : waitT F x 0 = 0 := rfl
theorem waitT_succ {F : FS} {x : Int} {k : Nat} : waitT F x (k + 1) = waitT F x k + if stateF F x ((k : Nat) : Int) = 1 ∨ stateF F x ((k : Nat) : Int) = 2 then stpR ((tasksF F x).getD k default).rows else 0 := by
  unfold waitT; rw [List.range_succ, List.map_append, List.sum_append]; simp
theorem waitT_yes {F : FS} {x : Int} {k : Nat} {zs : List Task} {y : Task} (hV : zs.map Task.v = tasksF F x) (hy : zs[k]? = some y) (h : stateF F x ((k : Nat) : Int) = 1 ∨ stateF F x ((k : Nat) : Int) = 2) : waitT F x (k + 1) = waitT F x k + stpR y.rows := by
  have e : (tasksF F x).getD k default = y.v := by rw [← hV, List.getD_eq_getElem?_getD, List.getElem?_map, hy]; rfl
  rw [waitT_succ, if_pos h, e]; rfl
theorem waitT_no {F : FS} {x : Int} {k : Nat} (h : ¬ (stateF F x ((k : Nat) : Int) = 1 ∨ stateF F x ((k : Nat) : Int) = 2)) : waitT F x (k + 1) = waitT F x k := by
  rw [waitT_succ, if_neg h]; omega
theorem jobsL_take {F : FS} {l : List Int} {i : Nat} {x : Int} (h : l[i]? = some x) : jobsL F (l.take (i + 1)) = jobsL F (l.take i) + waitT F x (tasksF F x).length := by
  unfold jobsL; rw [take_succ_at h, List.map_append, List.sum_append]; simp
theorem wksL_take {F : FS} {l : List Wkr} {i : Nat} {v : Wkr} (h : l[i]? = some v) : wksL F (l.take (i + 1)) = wksL F (l.take i) + rstW F v := by
  unfold wksL; rw [take_succ_at h, List.map_append, List.sum_append]; simp
theorem rst_idle {F : FS} {v : Wkr} (h : v.phase = 0 ∨ v.phase = 4) : rstW F v = 0 := by unfold rstW; rw [if_pos h]
theorem rst_run {F : FS} {v : Wkr} {zs : List Task} {z : Task} (h : ¬ (v.phase = 0 ∨ v.phase = 4)) (hr : (jobAt F v.heldJob).running = true) (ht : (jobAt F v.heldJob).tasks = zs.map Task.v) (hz : zs[v.heldTask.toNat]? = some z) : rstW F v = restR v z.rows := by
  unfold rstW taskAt
  rw [if_neg h, if_pos hr, ht, List.getD_eq_getElem?_getD, List.getElem?_map, hz]; rfl
theorem rst_old {F : FS} {v : Wkr} (h : ¬ (v.phase = 0 ∨ v.phase = 4)) (hr : ¬ (jobAt F v.heldJob).running = true) : rstW F v = 1 := by
  unfold rstW; rw [if_neg h, if_neg hr]
theorem tasksF_run {F : FS} {K : Int} (hF : FW F K) {x : Int} (hx : 0 ≤ x ∧ x < 64) (hr : (jobAt F x).running = true) : tasksF F x = (jobAt F x).tasks := by
  obtain ⟨j, hj⟩ := at_some hF.jl (k := x.toNat) (by omega)
  have e : jobAt F x = j := by unfold jobAt; exact getD_some hj
  rw [e] at hr ⊢
  exact tasks_at hx hj ((hF.j j (List.mem_of_getElem? hj)).r hr)
theorem wk_job {F : FS} {K : Int} (hF : FI F K) {i : Nat} {v : Wkr} (hv : F.ws[i]? = some v) : 0 ≤ v.heldJob ∧ v.heldJob < 64 := (hF.fw.w v (List.mem_of_getElem? hv)).h
theorem wk_row {F : FS} {K : Int} (hF : FI F K) {i : Nat} {v : Wkr} (hv : F.ws[i]? = some v) : 0 ≤ v.row ∧ v.row ≤ 4096 := by
  have h1 := (hF.fw.w v (List.mem_of_getElem? hv)).r
  have h2 := hF.fw.k
  omega
theorem task_rows {F : FS} {K : Int} (hF : FI F K) {x : Int} {zs : List Task} {z : Task} {k : Nat} (hV : zs.map Task.v = tasksF F x) (hz : zs[k]? = some z) : 1 ≤ z.rows ∧ z.rows ≤ 128 := by
  have hm : z.v ∈ tasksF F x := by rw [← hV]; exact List.mem_map.2 ⟨z, List.mem_of_getElem? hz, rfl⟩
  unfold tasksF at hm
  split at hm
  · rename_i h
    obtain ⟨j, hj⟩ := at_some hF.fw.jl (k := x.toNat) (by omega)
    have e : jobAt F x = j := by unfold jobAt; exact getD_some hj
    rw [e] at hm
    have := hF.a.t j (List.mem_of_getElem? hj) z.v hm
    exact ⟨this.2.2.1, this.2.2.2.1⟩
  · cases hm
/-- The map of the running jobs' tasks. -/
def TM (F : FS) (js : List Int) (ks : List (Int × Value)) (G : Chunk) : Prop := ks.map (·.1) = js ∧ ∀ q ∈ ks, ∃ (a : Option Addr) (n k : Nat) (zs : List Task), q.2 = .slice a n k ∧ RdT encTask 9 [G] a n k zs ∧ (∀ z ∈ zs, Task.Ok [G] z) ∧ zs.map Task.v = tasksF F q.1
theorem TM.nil {F : FS} : TM F [] [] [] := ⟨rfl, fun q hq => by cases hq⟩
theorem TM.add {F : FS} {js : List Int} {ks : List (Int × Value)} {G C G1 : Chunk} {x : Int} {a : Option Addr} {n k : Nat} {zs : List Task} (h : TM F js ks G) (hO : RdT encTask 9 [C] a n k zs) (hD : ∀ z ∈ zs, Task.Ok [G1] z) (hV : zs.map Task.v = tasksF F x) :
    TM F (js ++ [x]) (ks ++ [(x, .slice a n k)]) (C ++ (G1 ++ G)) := by
  refine ⟨by rw [List.map_append, h.1]; rfl, ?_⟩
  intro q hq
  rcases List.mem_append.1 hq with hq | hq
  · obtain ⟨a, n, k, zs, h1, h2, h3, h4⟩ := h.2 q hq
    exact ⟨a, n, k, zs, h1, h2.of_mem (fun p hp => by simp at hp ⊢; simp [hp]), fun z hz => (h3 z hz).of_mem (fun p hp => by simp at hp ⊢; simp [hp]), h4⟩
  · obtain rfl := List.mem_singleton.1 hq
    exact ⟨a, n, k, zs, rfl, hO.of_mem (fun p hp => by simp at hp ⊢; simp [hp]), fun z hz => (hD z hz).of_mem (fun p hp => by simp at hp ⊢; simp [hp]), hV⟩
theorem iget_none {ks : List (Int × Value)} {x : Int} (h : x ∉ ks.map (·.1)) : iget ks x = none := by
  unfold iget
  rw [List.find?_eq_none.2]
  · rfl
  · intro q hq k
    exact h (List.mem_map.2 ⟨q, hq, by simpa using k⟩)
theorem iget_mem : ∀ {ks : List (Int × Value)} {x : Int}, x ∈ ks.map (·.1) → ∃ q ∈ ks, q.1 = x ∧ iget ks x = some q.2
  | [], _, h => by cases h
  | q :: ks, x, h => by
    unfold iget
    rw [List.find?_cons]
    by_cases e : q.1 = x
    · exact ⟨q, List.mem_cons_self, e, by simp [e]⟩
    · rw [List.map_cons] at h
      rcases List.mem_cons.1 h with h | h
      · exact absurd h.symm e
      · obtain ⟨p, hp, h1, h2⟩ := iget_mem (ks := ks) h
        refine ⟨p, List.mem_cons_of_mem _ hp, h1, ?_⟩
        unfold iget at h2
        have e2 : (q.1 == x) = false := by simpa using e
        simp only [e2]; exact h2
theorem TM.fresh {F : FS} {js : List Int} {ks : List (Int × Value)} {G : Chunk} {x : Int} (h : TM F js ks G) (hx : x ∉ js) : iget ks x = none := iget_none (by rw [h.1]; exact hx)
theorem nd_take {l : List Int} {i : Nat} {x : Int} (h : l.Nodup) (hx : l[i]? = some x) : x ∉ l.take i := by
  intro hm
  obtain ⟨k, hk, e⟩ := List.mem_iff_getElem.1 hm
  rw [List.getElem_take] at e
  rw [List.length_take] at hk
  obtain ⟨h1, h2⟩ := List.getElem?_eq_some_iff.1 hx
  exact List.pairwise_iff_getElem.1 h k i (by omega) h1 (by omega) (e.trans h2.symm)
theorem TM.look {F : FS} {K : Int} {ks : List (Int × Value)} {G : Chunk} {x : Int} (hF : FW F K) (h : TM F (runK F.jobs) ks G) (hx : 0 ≤ x ∧ x < 64) :
    ∃ (a : Option Addr) (n k : Nat) (zs : List Task), (iget ks x).getD (.slice none 0 0) = .slice a n k ∧ (iget ks x).isSome = (jobAt F x).running ∧
      ((jobAt F x).running = true → RdT encTask 9 [G] a n k zs ∧ (∀ z ∈ zs, Task.Ok [G] z) ∧ zs.map Task.v = tasksF F x) := by
  cases hr : (jobAt F x).running with
  | true =>
    have hm : x ∈ ks.map (·.1) := by rw [h.1]; exact (runK_mem hF).2 ⟨hx, hr⟩
    obtain ⟨q, hq, rfl, e⟩ := iget_mem hm
    obtain ⟨a, n, k, zs, h1, h2, h3, h4⟩ := h.2 q hq
    exact ⟨a, n, k, zs, by rw [e, h1]; rfl, by rw [e]; rfl, fun _ => ⟨h2, h3, h4⟩⟩
  | false =>
    have e : iget ks x = none := h.fresh (fun hm => by have := ((runK_mem hF).1 hm).2; rw [hr] at this; cases this)
    exact ⟨none, 0, 0, [], by rw [e]; rfl, by rw [e]; rfl, fun k => by cases k⟩
theorem Y_igetB {P : Program} {n : Nat} {ρ : Env} {W w : World} {cs : List Chunk} {o : Oper} {t K E : TypeId} {kd : IntKind} {x ix : Operand} {b : Nat} {ks : List (Int × Value)} {c : Chunk} {k : Int} {z v : Value} {r : Bool} (hr : (iget ks k).isSome = r) (hS : Sat W w cs) (j : Nat) (hM : MapI b ks c) (hv : (iget ks k).getD z = v)
    (hu : ∀ w, (underlying t).run P w = .ok (.map K E) w) (hK : ∀ w, (underlying K).run P w = .ok (.int kd) w) (hz : ∀ w, (zeroValue E).run P w = .ok z w) (hj : cs[j]? = some c := by rfl)
    (ho : o.op = .lookup t x ix true := by rfl) (hx : ev ρ x = .map (some b) := by kernel_rfl) (hi : ev ρ ix = .int .i64 k := by kernel_rfl) : Go.E.Yields P ρ o (.tuple #[v, .bool r]) w := by
  rw [← hr]; exact Y_igetC hS j hM hv hu hK hz hj ho hx hi
theorem bo_steps (t : Task) (ht : Task.Ok [H] t) (hS : Sat W w (H :: F)) :
    Ro Try.prog 13 #[.agg (encTask t).toArray] (.int .i64 (stpR t.rows)) W w (H :: F) := by
  have hl_t_deps := ht.deps.le; have hn_t_deps := ht.deps.len
  refine callsA 14 Try.func13 rfl ?_
  refine seqE <| regionE ?_
  refine sBox hS (.agg (encTask t).toArray) (encTask t).toArray ?_
  intro b_1 w_2 hS_3
  refine pu1 <| nilO <| thenK_n <| seqE <| seqE <| regionE <| pu1 ?_
  refine sL hS_3 0 7 (.int .i64 t.rows) (Try.isAgg3 _) ?_
  refine pu2 ?_
  refine sD 6 (t.rows < 1) (fun hc_4 => ?_) (fun hc_4 => ?_)
  · refine pu4 <| nilO <| thenK_n <| cTt <| seqE <| regionE <| pu1 <| nilO <| thenK_n <| retE <| thenK_r <| retT [.int .i64 0] <| ?_
    have hS_5 := (hS_3.dropAt 0 rfl)
    exact ⟨congrArg (fun z => Ending.returned (.int .i64 z)) (by unfold stpR; rw [if_pos (by omega)]), hS_5⟩
  refine pu1 <| gY ?_
  refine sL hS_3 0 7 (.int .i64 t.rows) (Try.isAgg3 _) ?_
  refine pu2 <| nilO <| thenK_n <| ?_
  refine cD (t.rows > 128) (fun hc_6 => ?_) (fun hc_6 => ?_)
  · refine seqE <| regionE <| pu1 <| nilO <| thenK_n <| retE <| thenK_r <| retT [.int .i64 0] <| ?_
    have hS_7 := (hS_3.dropAt 0 rfl)
    exact ⟨congrArg (fun z => Ending.returned (.int .i64 z)) (by unfold stpR; rw [if_pos (by omega)]), hS_7⟩
  refine skipE <| thenK_n <| seqE <| regionE <| pu1 ?_
  refine sL hS_3 0 7 (.int .i64 t.rows) (Try.isAgg3 _) ?_
  refine sAdd t.rows 3 ?_
  refine pu1 <| nilO <| thenK_n <| retE <| retT [.int .i64 (t.rows + 3)] <| ?_
  have hS_8 := (hS_3.dropAt 0 rfl)
  exact ⟨congrArg (fun z => Ending.returned (.int .i64 z)) (by unfold stpR; rw [if_neg (by omega)]), hS_8⟩
theorem r29_steps (t : Task) (ht : Task.Ok [H] t) (hS : Sat W w (H :: F)) :
    Ro Try.prog 14 #[.agg (encTask t).toArray] (.int .i64 (stpR t.rows)) W w (H :: F) := by
  have hl_t_deps := ht.deps.le; have hn_t_deps := ht.deps.len
  refine callsA 14 Try.func14 rfl ?_
  refine seqE <| regionE ?_
  refine sBox hS (.agg (encTask t).toArray) (encTask t).toArray ?_
  intro b_1 w_2 hS_3
  refine pu1 <| nilO <| thenK_n <| seqE <| seqE <| regionE <| pu1 ?_
  refine sL hS_3 0 7 (.int .i64 t.rows) (Try.isAgg3 _) ?_
  refine pu2 ?_
  refine sD 6 (t.rows < 1) (fun hc_4 => ?_) (fun hc_4 => ?_)
  · refine pu4 <| nilO <| thenK_n <| cTt <| seqE <| regionE <| pu1 <| nilO <| thenK_n <| retE <| thenK_r <| retT [.int .i64 0] <| ?_
    have hS_5 := (hS_3.dropAt 0 rfl)
    exact ⟨congrArg (fun z => Ending.returned (.int .i64 z)) (by unfold stpR; rw [if_pos (by omega)]), hS_5⟩
  refine pu1 <| gY ?_
  refine sL hS_3 0 7 (.int .i64 t.rows) (Try.isAgg3 _) ?_
  refine pu2 <| nilO <| thenK_n <| ?_
  refine cD (t.rows > 128) (fun hc_6 => ?_) (fun hc_6 => ?_)
  · refine seqE <| regionE <| pu1 <| nilO <| thenK_n <| retE <| thenK_r <| retT [.int .i64 0] <| ?_
    have hS_7 := (hS_3.dropAt 0 rfl)
    exact ⟨congrArg (fun z => Ending.returned (.int .i64 z)) (by unfold stpR; rw [if_pos (by omega)]), hS_7⟩
  refine skipE <| thenK_n <| seqE <| regionE <| pu1 ?_
  refine sL hS_3 0 7 (.int .i64 t.rows) (Try.isAgg3 _) ?_
  refine sAdd t.rows 3 ?_
  refine pu1 <| nilO <| thenK_n <| retE <| retT [.int .i64 (t.rows + 3)] <| ?_
  have hS_8 := (hS_3.dropAt 0 rfl)
  exact ⟨congrArg (fun z => Ending.returned (.int .i64 z)) (by unfold stpR; rw [if_neg (by omega)]), hS_8⟩
theorem bo_total (al : Option Addr) (nl kl : Nat) (l : List Task) (hl : RdT encTask 9 [H] al nl kl l) (dl : ∀ z ∈ l, Task.Ok [H] z) (h4 : nl ≤ 4096) (hS : Sat W w (H :: F)) :
    Ro Try.prog 15 #[.slice al nl kl] (.int .i64 (totR (l.map (·.rows)))) W w (H :: F) := by
  have hl_l := hl.le; have hn_l := hl.len
  refine callsA 22 Try.func15 rfl ?_
  refine seqE <| regionE <| pu1 <| nilO <| thenK_n <| seqE <| regionE <| pu1 <| nilO <| thenK_n <| seqE <| seqE <| regionE <| pu3 ?_
  refine stepY (.int .i64 (min ((nl : Nat) : Int) 4096)) rfl rfl (Y_min2 ((nl : Nat) : Int) 4096 rfl rfl (by kernel_rfl) (by kernel_rfl)) ?_
  refine sSl none (some (min ((nl : Nat) : Int) 4096)) 0 (((min ((nl : Nat) : Int) 4096)).toNat) Try.runUnderlying23 Try.sizeOf31 rfl ⟨by omega, by omega⟩ (by omega) (by omega) ?_ (a := al) (len := nl) (cap := kl)
  have hP_1 := hl.part (lo := 0) (hi := ((min ((nl : Nat) : Int) 4096)).toNat) (by omega) (by omega)
  refine pu2 <| nilO <| thenK_n <| blockE ?_
  refine loopA (γ := Nat × Int) (fun ⟨i, s⟩ => [(10, .slice (partAddr al kl 0 9) (((min ((nl : Nat) : Int) 4096)).toNat - 0) (kl - 0)), (11, .int .i64 (((((min ((nl : Nat) : Int) 4096)).toNat - 0) : Nat) : Int)), (12, .int .i64 ((i : Nat) : Int)), (3, .int .i64 s)]) (fun ⟨i, s⟩ w => Sat W w (H :: F) ∧ i ≤ nl ∧ (s = totR ((l.take i).map (·.rows))) ∧ (0 ≤ s ∧ s ≤ 131 * i)) (fun ⟨i, s⟩ => nl - i) (0, 0) ⟨hS, by omega, rfl, by omega⟩ ?_
  rintro ⟨i, s⟩ ρ w_2 ⟨hS_3, hi, hn, hsb⟩
  refine seqE <| regionE <| pu1 <| nilO <| thenK_n <| seqE ?_
  refine cD (((i : Nat) : Int) < (((((min ((nl : Nat) : Int) 4096)).toNat - 0) : Nat) : Int)) (fun hc_4 => ?_) (fun hc_4 => ?_)
  rotate_left
  · refine exitE <| thenK_x <| thenK_x <| blockK_x <| thenK_n <| seqE <| regionE <| pu2 <| nilO <| thenK_n <| retE <| retT [.int .i64 s] <| ?_
    exact ⟨congrArg (fun z => Ending.returned (.int .i64 z)) (by rw [hn, List.take_of_length_le (by omega)]), hS_3⟩
  refine skipE <| thenK_n <| seqE <| blockE <| seqE <| regionE ?_
  refine sIdx hP_1 ((i : Nat) : Int) Try.runUnderlying23 Try.sizeOf31 ?_
  intro x_5 b_6 o_7 hx_8 hp_9
  rw [Int.toNat_natCast] at hx_8
  refine sLpA hS_3 (hp_9.up 0 rfl) 0 (encTask x_5) (Try.isAgg31 _) (Try.sizeOf31 _) ?_
  refine sAlloc hS_3 Try.zeroValue31 ?_
  intro b_10 w_11 hS_12
  refine sT hS_12 0 0 (.agg (encTask x_5).toArray) (encTask x_5) (encTask x_5).toArray Try.sizeOf31 ?_
  intro w_13 hS_14
  refine nilO <| thenK_n <| regionE <| pu1 ?_
  refine lA hS_14 0 0 9 (Try.isAgg31 _) (Try.sizeOf31 _) ?_
  refine cR Try.call13 (bo_steps x_5 ⟨(RdT.flat (((fun z hz => dl z (List.mem_of_mem_drop (List.mem_of_mem_take hz))) x_5 (List.mem_of_getElem? hx_8)).deps.up 1 (by rfl)))⟩ (Sat.flat hS_14)) ?_
  intro w_15 hS_16
  have hsb_18 : 0 ≤ (stpR x_5.rows) ∧ (stpR x_5.rows) ≤ 131 := stpR_bd _
  refine sAdd s (stpR x_5.rows) ?_
  refine pu1 <| nilO <| blockK_n <| thenK_n <| regionE ?_
  refine sAdd ((i : Nat) : Int) 1 ?_
  refine pu1 <| nilO <| thenK_n <| ?_
  have hS_19 := (hS_16.dropAt 0 rfl)
  exact ⟨(i + 1, (s + (stpR x_5.rows))), by first | omega | (dsimp only; omega), alA, hS_19, by omega, (by rw [totR_take (show l[i]? = some x_5 from by have h9 := hx_8; rw [List.drop_zero, List.getElem?_take, if_pos (by omega)] at h9; exact h9), hn]), by omega⟩
theorem r29_total (al : Option Addr) (nl kl : Nat) (l : List Task) (hl : RdT encTask 9 [H] al nl kl l) (dl : ∀ z ∈ l, Task.Ok [H] z) (h4 : nl ≤ 4096) (hS : Sat W w (H :: F)) :
    Ro Try.prog 16 #[.slice al nl kl] (.int .i64 (totR (l.map (·.rows)))) W w (H :: F) := by
  have hl_l := hl.le; have hn_l := hl.len
  refine callsA 23 Try.func16 rfl ?_
  refine seqE <| regionE <| pu1 <| nilO <| thenK_n <| seqE <| regionE <| pu1 <| nilO <| thenK_n <| seqE <| seqE <| regionE <| pu1 <| nilO <| thenK_n <| blockE ?_
  refine loopA (γ := Nat × Int) (fun ⟨i, s⟩ => [(0, .slice al nl kl), (4, .int .i64 ((i : Nat) : Int)), (3, .int .i64 s)]) (fun ⟨i, s⟩ w => Sat W w (H :: F) ∧ i ≤ nl ∧ (s = totR ((l.take i).map (·.rows))) ∧ (0 ≤ s ∧ s ≤ 131 * i)) (fun ⟨i, s⟩ => nl - i) (0, 0) ⟨hS, by omega, rfl, by omega⟩ ?_
  rintro ⟨i, s⟩ ρ w_1 ⟨hS_2, hi, hn, hsb⟩
  refine seqE <| seqE <| regionE <| pu5 ?_
  refine sD 9 (((i : Nat) : Int) < ((nl : Nat) : Int)) (fun hc_3 => ?_) (fun hc_3 => ?_)
  rotate_left
  · refine pu3 <| nilO <| thenK_n <| cFf <| exitE <| thenK_x <| thenK_x <| blockK_x <| thenK_n <| seqE <| regionE <| pu2 <| nilO <| thenK_n <| retE <| retT [.int .i64 s] <| ?_
    exact ⟨congrArg (fun z => Ending.returned (.int .i64 z)) (by rw [hn, List.take_of_length_le (by omega)]), hS_2⟩
  refine pu3 <| nilO <| thenK_n <| ?_
  refine cD (((i : Nat) : Int) < 4096) (fun hc_4 => ?_) (fun hc_4 => ?_)
  rotate_left
  · refine exitE <| thenK_x <| thenK_x <| blockK_x <| thenK_n <| seqE <| regionE <| pu2 <| nilO <| thenK_n <| retE <| retT [.int .i64 s] <| ?_
    exact ⟨congrArg (fun z => Ending.returned (.int .i64 z)) (by rw [hn, List.take_of_length_le (by omega)]), hS_2⟩
  refine skipE <| thenK_n <| seqE <| blockE <| regionE <| pu3 ?_
  refine sIdx hl ((i : Nat) : Int) Try.runUnderlying23 Try.sizeOf31 ?_
  intro x_5 b_6 o_7 hx_8 hp_9
  rw [Int.toNat_natCast] at hx_8
  refine sLpA hS_2 (hp_9.up 0 rfl) 0 (encTask x_5) (Try.isAgg31 _) (Try.sizeOf31 _) ?_
  refine cR Try.call14 (r29_steps x_5 ⟨(RdT.flat ((dl x_5 (List.mem_of_getElem? hx_8)).deps.up 0 (by rfl)))⟩ (Sat.flat hS_2)) ?_
  intro w_10 hS_11
  have hsb_13 : 0 ≤ (stpR x_5.rows) ∧ (stpR x_5.rows) ≤ 131 := stpR_bd _
  refine sAdd s (stpR x_5.rows) ?_
  refine pu1 <| nilO <| blockK_n <| thenK_n <| regionE <| pu1 ?_
  refine sAdd ((i : Nat) : Int) 1 ?_
  refine pu1 <| nilO <| thenK_n <| ?_
  exact ⟨(i + 1, (s + (stpR x_5.rows))), by first | omega | (dsimp only; omega), alA, hS_11, by omega, (by rw [totR_take hx_8, hn]), by omega⟩
theorem restR_bd {v : Wkr} {r : Int} (h1 : 0 ≤ r ∧ r ≤ 128) (h2 : 0 ≤ v.row ∧ v.row ≤ 4096) : -4096 ≤ restR v r ∧ restR v r ≤ 131 := by unfold restR; split; omega; split <;> omega
theorem bo_rest (w0 : Wkr) (t : Task) (ht : Task.Ok [H] t) (hr1 : 0 ≤ t.rows ∧ t.rows ≤ 128) (hr2 : 0 ≤ w0.row ∧ w0.row ≤ 4096) (hS : Sat W w (H :: F)) :
    Ro Try.prog 74 #[.agg (encWkr w0).toArray, .agg (encTask t).toArray] (.int .i64 (restR w0 t.rows)) W w (H :: F) := by
  have hl_t_deps := ht.deps.le; have hn_t_deps := ht.deps.len
  refine callsA 20 Try.func74 rfl ?_
  refine seqE <| regionE ?_
  refine sBox hS (.agg (encWkr w0).toArray) (encWkr w0).toArray ?_
  intro b_1 w_2 hS_3
  refine sBox hS_3 (.agg (encTask t).toArray) (encTask t).toArray ?_
  intro b_4 w_5 hS_6
  refine pu1 <| nilO <| thenK_n <| seqE <| seqE <| regionE <| pu1 ?_
  refine sL hS_6 1 0 (.int .i64 w0.phase) (Try.isAgg3 _) ?_
  refine nilO <| thenK_n <| blockE <| seqE <| regionE <| pu2 <| nilO <| thenK_n <| ?_
  refine cE w0.phase 1 (fun hc_7 => ?_) (fun hc_7 => ?_)
  · refine seqE <| regionE <| pu1 ?_
    refine sL hS_6 0 7 (.int .i64 t.rows) (Try.isAgg3 _) ?_
    refine sAdd t.rows 2 ?_
    refine pu1 <| nilO <| thenK_n <| retE <| blockK_r <| thenK_r <| retT [.int .i64 (t.rows + 2)] <| ?_
    have hS_8 := ((hS_6.dropAt 0 rfl).dropAt 0 rfl)
    exact ⟨congrArg (fun z => Ending.returned (.int .i64 z)) (by unfold restR; first | rw [if_pos (by omega)] | rw [if_neg (by omega), if_pos (by omega)] | rw [if_neg (by omega), if_neg (by omega)]), hS_8⟩
  refine seqE <| regionE <| pu2 <| nilO <| thenK_n <| ?_
  refine cE w0.phase 2 (fun hc_9 => ?_) (fun hc_9 => ?_)
  rotate_left
  · refine skipE <| blockK_n <| thenK_n <| seqE <| regionE <| pu1 <| nilO <| thenK_n <| retE <| retT [.int .i64 1] <| ?_
    have hS_11 := ((hS_6.dropAt 0 rfl).dropAt 0 rfl)
    exact ⟨congrArg (fun z => Ending.returned (.int .i64 z)) (by unfold restR; first | rw [if_pos (by omega)] | rw [if_neg (by omega), if_pos (by omega)] | rw [if_neg (by omega), if_neg (by omega)]), hS_11⟩
  refine seqE <| regionE <| pu1 ?_
  refine sL hS_6 0 7 (.int .i64 t.rows) (Try.isAgg3 _) ?_
  refine pu1 ?_
  refine sL hS_6 1 4 (.int .i64 w0.row) (Try.isAgg3 _) ?_
  refine sSub t.rows w0.row ?_
  refine sAdd (t.rows - w0.row) 1 ?_
  refine pu1 <| nilO <| thenK_n <| retE <| blockK_r <| thenK_r <| retT [.int .i64 ((t.rows - w0.row) + 1)] <| ?_
  have hS_10 := ((hS_6.dropAt 0 rfl).dropAt 0 rfl)
  exact ⟨congrArg (fun z => Ending.returned (.int .i64 z)) (by unfold restR; first | rw [if_pos (by omega)] | rw [if_neg (by omega), if_pos (by omega)] | rw [if_neg (by omega), if_neg (by omega)]), hS_10⟩
theorem bo_left {p : Nat} {F : FS} {M : Chunk} {cs : List Chunk} {K : Int} {n : Nat} (hR : FarmP p F M) (hJ : FJ F K n) (hn12 : n ≤ 12) (hS : Sat W w (M :: cs)) :
    Calls Try.prog 40 #[.pointer (some ⟨p, 0, none⟩)] w fun e w' => e = .returned (.int .i64 (leftF F)) ∧ Sat W w' (M :: cs) := by
  refine callsA 86 Try.func40 rfl ?_
  refine seqE <| regionE <| pu1 <| nilO <| thenK_n <| seqE <| regionE <| pu1 <| nilO <| thenK_n <| seqE <| regionE ?_
  refine sMakeMapI hS ?_
  intro b_1 c_2 w_4 hM_3 hS_5
  refine pu1 <| nilO <| thenK_n <| seqE <| seqE <| regionE <| pu1 ?_
  have hS_6 := (hS_5.pick 1 rfl)
  refine cX Try.call30 (pf_jobs hR hJ.i  (hJ.r12 (by omega)) (Sat.flat1 hS_6)) ?_
  rintro _ w_7 ⟨az_10, nz_11, kz_12, Z_13, rfl, hO_14, hS_8⟩
  have hS_9 := Sat.unflat2 hS_8; have hn_az_10 := hO_14.len; have hl_az_10 := hO_14.le
  refine pu2 <| nilO <| thenK_n <| blockE ?_
  have hS_16 := (hS_9.pick 2 rfl)
  have hS_15 : Sat W _ (c_2 :: ([] : Chunk) :: Z_13 :: M :: cs) := Sat.perm hS_16 (by simp)
  have hj12_ := hJ.r12 hn12; have hFI := hJ.i
  refine loopA (γ := Nat × Int × (List (Int × Value)) × Chunk × Chunk) (fun ⟨i, n1, ks, mc, Gm⟩ => [(0, .pointer (some ⟨p, 0, none⟩)), (3, .int .i64 n1), (4, .map (some b_1)), (16, .slice az_10 nz_11 kz_12), (17, .int .i64 ((nz_11 : Nat) : Int)), (18, .int .i64 ((i : Nat) : Int))]) (fun ⟨i, n1, ks, mc, Gm⟩ w => Sat W w (mc :: Gm :: Z_13 :: M :: cs) ∧ i ≤ nz_11 ∧ n1 = jobsL F ((runK F.jobs).take i) ∧ (0 ≤ n1 ∧ n1 ≤ 536576 * i) ∧ MapI b_1 ks mc ∧ TM F ((runK F.jobs).take i) ks Gm) (fun ⟨i, n1, ks, mc, Gm⟩ => nz_11 - i) (0, 0, [], c_2, ([] : Chunk)) ⟨hS_15, by omega, rfl, by omega, hM_3, TM.nil⟩ ?_
  rintro ⟨i, n1, ks, mc, Gm⟩ ρ w_17 ⟨hS_18, hi, hn1, hn1b, hMap, hTM⟩
  refine seqE <| regionE <| pu1 <| nilO <| thenK_n <| seqE ?_
  refine cD (((i : Nat) : Int) < ((nz_11 : Nat) : Int)) (fun hc_19 => ?_) (fun hc_19 => ?_)
  · refine skipE <| thenK_n <| seqE <| blockE <| seqE <| regionE ?_
    refine sIdxO hO_14 ((i : Nat) : Int) i Try.runUnderlying22 Try.sizeOf3 ?_
    intro x_20 b_21 o_22 hx_23 hp_24 hq_25
    refine sLp hS_18 (hp_24.up 2 rfl) 0 (.int .i64 x_20) (Try.isAgg3 _) ?_
    refine pu1 <| nilO <| thenK_n <| seqE <| regionE <| pu2 ?_
    have hS_26 := (hS_18.pick 3 rfl)
    refine cX Try.call38 (pf_tasks hR hJ.i x_20 (Sat.flat1 hS_26)) ?_
    rintro _ w_27 ⟨az_30, nz_31, kz_32, zs_33, C_34, G_35, rfl, hO_36, hD_37, hV_38, hS_28⟩
    have hS_29 := Sat.unflat3 hS_28; have hn_az_30 := hO_36.len; have hl_az_30 := hO_36.le
    refine pu1 <| nilO <| thenK_n <| seqE <| regionE <| pu3 ?_
    refine sIAdd (k := x_20) (v := .slice az_30 nz_31 kz_32) hS_29 3 hMap (hTM.fresh (nd_take (runK_nd F.jobs) hx_23)) Try.runUnderlying109 Try.runUnderlying3 ?_
    intro c_39 w_41 hM_40 hS_42
    refine nilO <| thenK_n <| seqE <| regionE <| pu3 <| nilO <| thenK_n <| blockE ?_
    have htl4_ := tasks_le hFI.fw x_20; have htl_ : zs_33.length = (tasksF F x_20).length := by rw [← hV_38, List.length_map]
    refine loopA (γ := Nat × Int) (fun ⟨j, n2⟩ => [(0, .pointer (some ⟨p, 0, none⟩)), (4, .map (some b_1)), (16, .slice az_10 nz_11 kz_12), (17, .int .i64 ((nz_11 : Nat) : Int)), (18, .int .i64 ((i : Nat) : Int)), (6, .int .i64 x_20), (28, .slice az_30 nz_31 kz_32), (29, .int .i64 ((nz_31 : Nat) : Int)), (30, .int .i64 ((j : Nat) : Int)), (3, .int .i64 n2)]) (fun ⟨j, n2⟩ w => Sat W w (C_34 :: G_35 :: M :: c_39 :: Gm :: Z_13 :: cs) ∧ j ≤ nz_31 ∧ (n2 = n1 + waitT F x_20 j) ∧ (0 ≤ n2 ∧ n2 ≤ n1 + 131 * j)) (fun ⟨j, n2⟩ => nz_31 - j) (0, n1) ⟨hS_42, by omega, by rw [waitT_zero]; omega, by omega⟩ ?_
    rintro ⟨j, n2⟩ ρ w_43 ⟨hS_44, hj, hn2, hn2b⟩
    refine seqE <| regionE <| pu1 <| nilO <| thenK_n <| seqE ?_
    refine cD (((j : Nat) : Int) < ((nz_31 : Nat) : Int)) (fun hc_45 => ?_) (fun hc_45 => ?_)
    rotate_left
    · refine exitE <| thenK_x <| thenK_x <| blockK_x <| blockK_n <| thenK_n <| regionE ?_
      refine sAdd ((i : Nat) : Int) 1 ?_
      refine pu1 <| nilO <| thenK_n <| ?_
      have hS_74 := (((((hS_44.pick 5 rfl).pick 5 rfl).pick 3 rfl).pick 3 rfl).pick 5 rfl)
      have hS_75 : Sat W _ (c_39 :: (C_34 ++ (G_35 ++ Gm)) :: Z_13 :: M :: cs) := Sat.perm hS_74 (by simp)
      exact ⟨(i + 1, n2, (ks ++ [(x_20, .slice az_30 nz_31 kz_32)]), c_39, (C_34 ++ (G_35 ++ Gm))), by first | omega | (dsimp only; omega), alA, hS_75, by omega, (by rw [jobsL_take hx_23, ← hn1, ← htl_, show zs_33.length = j by omega]; exact hn2), by omega, hM_40, (by rw [take_succ_at hx_23]; exact hTM.add (hO_36.rdAt (cs := [C_34]) 0 rfl) hD_37 hV_38)⟩
    refine skipE <| thenK_n <| seqE <| blockE <| seqE <| regionE <| pu1 ?_
    refine sIdxO hO_36 ((j : Nat) : Int) j Try.runUnderlying23 Try.sizeOf31 ?_
    intro x_46 b_47 o_48 hx_49 hp_50 hq_51
    have htr_x_46 := task_rows hFI hV_38 hx_49
    refine sLpA hS_44 (hp_50.up 0 rfl) 0 (encTask x_46) (Try.isAgg31 _) (Try.sizeOf31 _) ?_
    refine sAlloc hS_44 Try.zeroValue31 ?_
    intro b_52 w_53 hS_54
    refine pu1 ?_
    refine sT hS_54 0 0 (.agg (encTask x_46).toArray) (encTask x_46) (encTask x_46).toArray Try.sizeOf31 ?_
    intro w_55 hS_56
    refine nilO <| thenK_n <| seqE <| regionE <| pu3 ?_
    have hS_57 := (hS_56.pick 3 rfl)
    refine cX Try.call37 (pf_state hR hJ.i x_20 ((j : Nat) : Int) (Sat.flat1 hS_57)) ?_
    rintro _ w_58 ⟨rfl, hS_59⟩
    have hS_60 := Sat.unflat1 hS_59
    refine nilO <| thenK_n <| blockE <| seqE <| seqE <| regionE <| pu2 <| nilO <| thenK_n <| ?_
    refine cE (stateF F x_20 ((j : Nat) : Int)) 1 (fun hc_61 => ?_) (fun hc_61 => ?_)
    · refine skipE <| thenK_n <| ?_
      refine cT _ (beq_iff_eq.2 hc_61) ?_
      refine regionE <| pu1 ?_
      refine lA hS_60 1 0 9 (Try.isAgg31 _) (Try.sizeOf31 _) ?_
      refine cR Try.call13 (bo_steps x_46 ⟨(RdT.flat ((hD_37 x_46 (List.mem_of_getElem? hx_49)).deps.up 3 (by rfl)))⟩ (Sat.flat hS_60)) ?_
      intro w_62 hS_63
      have hsb_65 : 0 ≤ (stpR x_46.rows) ∧ (stpR x_46.rows) ≤ 131 := stpR_bd _
      refine sAdd n2 (stpR x_46.rows) ?_
      refine pu1 <| nilO <| blockK_n <| blockK_n <| thenK_n <| regionE ?_
      refine sAdd ((j : Nat) : Int) 1 ?_
      refine pu1 <| nilO <| thenK_n <| ?_
      have hS_66 := (((hS_63.pick 3 rfl).pick 3 rfl).dropAt 3 rfl)
      exact ⟨(j + 1, (n2 + (stpR x_46.rows))), by first | omega | (dsimp only; omega), alA, hS_66, by omega, (by rw [waitT_yes hV_38 hx_49 (by omega)]; omega), by omega⟩
    refine regionE <| pu2 <| nilO <| thenK_n <| ?_
    refine cE (stateF F x_20 ((j : Nat) : Int)) 2 (fun hc_67 => ?_) (fun hc_67 => ?_)
    rotate_left
    · refine skipE <| blockK_n <| blockK_n <| thenK_n <| regionE ?_
      refine sAdd ((j : Nat) : Int) 1 ?_
      refine pu1 <| nilO <| thenK_n <| ?_
      have hS_73 := (((hS_60.pick 3 rfl).pick 3 rfl).dropAt 3 rfl)
      exact ⟨(j + 1, n2), by first | omega | (dsimp only; omega), alA, hS_73, by omega, (by rw [waitT_no (by omega)]; omega), by omega⟩
    refine regionE <| pu1 ?_
    refine lA hS_60 1 0 9 (Try.isAgg31 _) (Try.sizeOf31 _) ?_
    refine cR Try.call13 (bo_steps x_46 ⟨(RdT.flat ((hD_37 x_46 (List.mem_of_getElem? hx_49)).deps.up 3 (by rfl)))⟩ (Sat.flat hS_60)) ?_
    intro w_68 hS_69
    have hsb_71 : 0 ≤ (stpR x_46.rows) ∧ (stpR x_46.rows) ≤ 131 := stpR_bd _
    refine sAdd n2 (stpR x_46.rows) ?_
    refine pu1 <| nilO <| blockK_n <| blockK_n <| thenK_n <| regionE ?_
    refine sAdd ((j : Nat) : Int) 1 ?_
    refine pu1 <| nilO <| thenK_n <| ?_
    have hS_72 := (((hS_69.pick 3 rfl).pick 3 rfl).dropAt 3 rfl)
    exact ⟨(j + 1, (n2 + (stpR x_46.rows))), by first | omega | (dsimp only; omega), alA, hS_72, by omega, (by rw [waitT_yes hV_38 hx_49 (by omega)]; omega), by omega⟩
  refine exitE <| thenK_x <| thenK_x <| blockK_x <| thenK_n <| seqE <| seqE <| regionE <| pu1 ?_
  have hS_76 := (hS_18.pick 3 rfl)
  refine cX Try.call29 (pf_workers hR hJ.i   (Sat.flat1 hS_76)) ?_
  rintro _ w_77 ⟨az_80, nz_81, kz_82, Z_83, rfl, hO_84, hS_78⟩
  have hS_79 := Sat.unflat2 hS_78; have hn_az_80 := hO_84.len; have hl_az_80 := hO_84.le
  refine pu2 <| nilO ?_
  have hTM2 : TM F (runK F.jobs) ks Gm := by rw [← List.take_of_length_le (i := i) (l := runK F.jobs) (by omega)]; exact hTM
  have hwn9 := hFI.fw.n
  refine thenK_n <| blockE ?_
  refine loopA (γ := Nat × Int) (fun ⟨q, n3⟩ => [(4, .map (some b_1)), (49, .slice az_80 nz_81 kz_82), (50, .int .i64 ((nz_81 : Nat) : Int)), (51, .int .i64 ((q : Nat) : Int)), (3, .int .i64 n3)]) (fun ⟨q, n3⟩ w => Sat W w (Z_83 :: M :: mc :: Gm :: Z_13 :: cs) ∧ q ≤ nz_81 ∧ (n3 = n1 + wksL F (F.ws.take q)) ∧ (-4096 * q ≤ n3 ∧ n3 ≤ n1 + 131 * q)) (fun ⟨q, n3⟩ => nz_81 - q) (0, n1) ⟨hS_79, by omega, by show n1 = n1 + 0; omega, by omega⟩ ?_
  rintro ⟨q, n3⟩ ρ w_85 ⟨hS_86, hq, hn3, hn3b⟩
  refine seqE <| regionE <| pu1 <| nilO <| thenK_n <| seqE ?_
  refine cD (((q : Nat) : Int) < ((nz_81 : Nat) : Int)) (fun hc_87 => ?_) (fun hc_87 => ?_)
  rotate_left
  · refine exitE <| thenK_x <| thenK_x <| blockK_x <| thenK_n <| seqE <| regionE <| pu2 <| nilO <| thenK_n <| retE <| retT [.int .i64 n3] <| ?_
    have hS_124 := ((((hS_86.dropAt 0 rfl).dropAt 1 rfl).dropAt 1 rfl).dropAt 1 rfl)
    exact ⟨congrArg (fun z => Ending.returned (.int .i64 z)) (by rw [hn3, hn1, List.take_of_length_le (by omega), List.take_of_length_le (by omega)]; rfl), hS_124⟩
  refine skipE <| thenK_n <| seqE <| blockE <| seqE <| regionE ?_
  refine sIdxO hO_84 ((q : Nat) : Int) q Try.runUnderlying57 Try.sizeOf61 ?_
  intro x_88 b_89 o_90 hx_91 hp_92 hq_93
  have hWF := wk_ok hFI hx_91; have hWr := wk_row hFI hx_91
  refine sLpA hS_86 (hp_92.up 0 rfl) 0 (encWkr x_88) (Try.isAgg61 _) (Try.sizeOf61 _) ?_
  refine sAlloc hS_86 Try.zeroValue61 ?_
  intro b_94 w_95 hS_96
  refine sT hS_96 0 0 (.agg (encWkr x_88).toArray) (encWkr x_88) (encWkr x_88).toArray Try.sizeOf61 ?_
  intro w_97 hS_98
  refine nilO <| thenK_n <| seqE <| seqE <| regionE <| pu1 ?_
  refine sL hS_98 0 0 (.int .i64 x_88.phase) (Try.isAgg3 _) ?_
  refine pu2 ?_
  refine sE 58 x_88.phase 0 (fun hc_99 => ?_) (fun hc_99 => ?_)
  · refine pu4 <| nilO <| thenK_n <| cTt <| exitE <| thenK_x <| blockK_x <| thenK_n <| regionE ?_
    refine sAdd ((q : Nat) : Int) 1 ?_
    refine pu1 <| nilO <| thenK_n <| ?_
    have hS_100 := (hS_98.dropAt 0 rfl)
    exact ⟨(q + 1, n3), by first | omega | (dsimp only; omega), alA, hS_100, by omega, (by rw [wksL_take hx_91, rst_idle (by omega)]; omega), by omega⟩
  refine pu1 <| gY ?_
  refine sL hS_98 0 0 (.int .i64 x_88.phase) (Try.isAgg3 _) ?_
  refine pu2 <| nilO <| thenK_n <| ?_
  refine cE x_88.phase 4 (fun hc_101 => ?_) (fun hc_101 => ?_)
  · refine exitE <| thenK_x <| blockK_x <| thenK_n <| regionE ?_
    refine sAdd ((q : Nat) : Int) 1 ?_
    refine pu1 <| nilO <| thenK_n <| ?_
    have hS_102 := (hS_98.dropAt 0 rfl)
    exact ⟨(q + 1, n3), by first | omega | (dsimp only; omega), alA, hS_102, by omega, (by rw [wksL_take hx_91, rst_idle (by omega)]; omega), by omega⟩
  refine skipE <| thenK_n <| seqE ?_
  have hWh := hWF.h (by omega)
  refine regionE <| pu3 ?_
  refine sL hS_98 0 1 (.int .i64 x_88.heldJob) (Try.isAgg3 _) ?_
  obtain ⟨al_103, nl_104, kl_105, zs_106, hg_107, hs_108, hr_109⟩ := hTM2.look hFI.fw (x := x_88.heldJob) (wk_job hFI hx_91)
  refine stepY (.tuple #[.slice al_103 nl_104 kl_105, .bool ((jobAt F x_88.heldJob).running)]) rfl rfl (Y_igetB (n := 0) (k := x_88.heldJob) hs_108 hS_98 3 hMap hg_107 Try.runUnderlying109 Try.runUnderlying3 Try.zeroValue23) ?_
  refine pu5 <| nilO <| thenK_n <| seqE <| regionE <| pu1 <| nilO <| thenK_n <| ?_
  refine cB ((jobAt F x_88.heldJob).running) (fun hc_110 => ?_) (fun hc_110 => ?_)
  rotate_left
  · refine regionE <| pu1 ?_
    refine sAdd n3 1 ?_
    refine pu1 <| nilO <| blockK_n <| thenK_n <| regionE ?_
    refine sAdd ((q : Nat) : Int) 1 ?_
    refine pu1 <| nilO <| thenK_n <| ?_
    have hS_123 := (hS_98.dropAt 0 rfl)
    exact ⟨(q + 1, (n3 + 1)), by first | omega | (dsimp only; omega), alA, hS_123, by omega, (by rw [wksL_take hx_91, rst_old (by omega) hc_110]; omega), by omega⟩
  obtain ⟨hlR, hlD, hlV⟩ := hr_109 hc_110; have hln_ := hlR.len; have hlk_ := hlR.le; have hll_ : zs_106.length = (tasksF F x_88.heldJob).length := by rw [← hlV, List.length_map]
  obtain ⟨x_111, b_112, o_113, hx_114, hp_115, hq_116⟩ := RdT.elem hlR x_88.heldTask
  have htr_x_111 := task_rows hFI hlV hx_114
  refine drawE [8] [(1, ⟨b_94, 0, none⟩, .int .i64 x_88.phase), (1, ⟨b_94, 1, none⟩, .int .i64 x_88.heldJob), (1, ⟨b_94, 2, none⟩, .int .i64 x_88.heldTask), (1, ⟨b_94, 3, none⟩, .int .i64 x_88.attempt), (1, ⟨b_94, 4, none⟩, .int .i64 x_88.row), (1, ⟨b_94, 5, none⟩, .int .i64 x_88.used), (1, ⟨b_94, 6, none⟩, .int .i64 x_88.high), (5, ⟨b_94, 2, none⟩, .int .i64 x_88.heldTask), (7, ⟨b_112, o_113 + 0, none⟩, .int .i64 x_111.stage), (7, ⟨b_112, o_113 + 1, none⟩, .int .i64 x_111.part), (7, ⟨b_112, o_113 + 2, none⟩, .int .i64 x_111.rectX0), (7, ⟨b_112, o_113 + 3, none⟩, .int .i64 x_111.rectY0), (7, ⟨b_112, o_113 + 4, none⟩, .int .i64 x_111.rectX1), (7, ⟨b_112, o_113 + 5, none⟩, .int .i64 x_111.rectY1), (7, ⟨b_112, o_113 + 6, none⟩, .slice x_111.deps.a x_111.deps.n x_111.deps.k), (7, ⟨b_112, o_113 + 7, none⟩, .int .i64 x_111.rows), (7, ⟨b_112, o_113 + 8, none⟩, .int .i64 x_111.scratch)] [(true, [0, 2, 3, 4]), (true, [1]), (true, [5]), (true, [6]), (true, [7]), (false, [8]), (true, [9]), (true, [10])] rfl (by kernel_rfl) ⟨.inr (hS_98.cell 0 rfl rfl), .inr (hS_98.cell 0 rfl rfl), .inr (hS_98.cell 0 rfl rfl), .inr (hS_98.cell 0 rfl rfl), .inr (hS_98.cell 0 rfl rfl), .inr (hS_98.cell 0 rfl rfl), .inr (hS_98.cell 0 rfl rfl), .inr (hS_98.cell 0 rfl rfl), .inr ((hp_115.up 4 rfl).cell hS_98 (k := 0) rfl), .inr ((hp_115.up 4 rfl).cell hS_98 (k := 1) rfl), .inr ((hp_115.up 4 rfl).cell hS_98 (k := 2) rfl), .inr ((hp_115.up 4 rfl).cell hS_98 (k := 3) rfl), .inr ((hp_115.up 4 rfl).cell hS_98 (k := 4) rfl), .inr ((hp_115.up 4 rfl).cell hS_98 (k := 5) rfl), .inr ((hp_115.up 4 rfl).cell hS_98 (k := 6) rfl), .inr ((hp_115.up 4 rfl).cell hS_98 (k := 7) rfl), .inr ((hp_115.up 4 rfl).cell hS_98 (k := 8) rfl), trivial⟩ ?_
  have hS_117 := hS_98.drew
  refine wU [0, 2, 3, 4] ?_
  refine wY (.agg (encWkr x_88).toArray) rfl (fun w hF => Y_loadF rfl (Try.isAgg61 w) (Try.sizeOf61 w) (by kernel_rfl) rfl ⟨hF 0 _ _ rfl, hF 1 _ _ rfl, hF 2 _ _ rfl, hF 3 _ _ rfl, hF 4 _ _ rfl, hF 5 _ _ rfl, hF 6 _ _ rfl, trivial⟩) ?_
  refine wLd (.int .i64 x_88.heldTask) 7 Try.isAgg3 ?_
  refine wY (.pointer (some ⟨b_112, o_113, none⟩)) rfl (fun w _ => Y_idx (a := al_103) (i := x_88.heldTask) (len := nl_104) (cap := kl_105) rfl Try.runUnderlying23 Try.sizeOf31 (by kernel_rfl) (by kernel_rfl) hq_116) ?_
  refine wY (.agg (encTask x_111).toArray) rfl (fun w hF => Y_loadF rfl (Try.isAgg31 w) (Try.sizeOf31 w) (by kernel_rfl) rfl ⟨hF 8 _ _ rfl, hF 9 _ _ rfl, hF 10 _ _ rfl, hF 11 _ _ rfl, hF 12 _ _ rfl, hF 13 _ _ rfl, hF 14 _ _ rfl, hF 15 _ _ rfl, hF 16 _ _ rfl, trivial⟩) ?_
  refine wO rfl ?_
  refine cR Try.call74 (bo_rest x_88 x_111 ⟨(RdT.flat ((hlD x_111 (List.mem_of_getElem? hx_114)).deps.up 4 (by rfl)))⟩ (by first | omega | (dsimp only; omega)) (by first | omega | (dsimp only; omega)) (Sat.flat hS_117)) ?_
  intro w_118 hS_119
  have hrb_121 : -4096 ≤ (restR x_88 x_111.rows) ∧ (restR x_88 x_111.rows) ≤ 131 := restR_bd (by omega) (by omega)
  refine nilO ⟨⟨.inl (by kernel_rfl), .inl (by kernel_rfl), .inl (by kernel_rfl), .inl (by kernel_rfl), .inl (by kernel_rfl), .inl (by kernel_rfl), .inl (by kernel_rfl), .inr (hS_119.cell 0 rfl rfl), .inl (by kernel_rfl), .inl (by kernel_rfl), .inl (by kernel_rfl), .inl (by kernel_rfl), .inl (by kernel_rfl), .inl (by kernel_rfl), .inl (by kernel_rfl), .inl (by kernel_rfl), .inl (by kernel_rfl), trivial⟩, ?_⟩
  refine wAdd n3 (restR x_88 x_111.rows) ?_
  refine wU [10] ?_
  refine wN ?_
  refine blockK_n <| thenK_n <| regionE ?_
  refine sAdd ((q : Nat) : Int) 1 ?_
  refine pu1 <| nilO <| thenK_n <| ?_
  have hS_122 := (hS_119.dropAt 0 rfl)
  exact ⟨(q + 1, (n3 + (restR x_88 x_111.rows))), by first | omega | (dsimp only; omega), alA, hS_122, by omega, (by rw [wksL_take hx_91, rst_run (by omega) hc_110 ((tasksF_run hFI.fw (wk_job hFI hx_91) hc_110).symm.trans hlV.symm) hx_114]; omega), by omega⟩
end Go.Proofs.Ytegmennaekipaaa
