import Derived.Test.YtegmennaekipaaaPq
import Derived.Test.YtegmennaekipaaaFj
import Derived.Test.YtegmennaekipaaaMapI
import Derived.Test.YtegmennaekipaaaBCom
import Derived.Test.YtegmennaekipaaaBMeth
import Derived.Test.YtegmennaekipaaaBNew
namespace Go.Proofs.Ytegmennaekipaaa
open Go Go.E
set_option linter.unusedVariables false
set_option linter.unusedSimpArgs false
set_option linter.unnecessarySimpa false
set_option maxRecDepth 100000
set_option maxHeartbeats 2000000
variable {W w : World} {H : Chunk} {F : List Chunk}

/-! ### the program's farm: its memory -/
structure PW where
  phase : Int
  heldJob : Int
  heldTask : Int
  attempt : Int
  row : Int
  a : Nat
  d : Nat
instance : Inhabited PW := ⟨⟨0, 0, 0, 0, 0, 0, 0⟩⟩
def encPW (x : PW) : List Value := [.int .i64 x.phase, .int .i64 x.heldJob, .int .i64 x.heldTask, .int .i64 x.attempt, .int .i64 x.row, .pointer (some ⟨x.a, 0, none⟩), .pointer (some ⟨x.d, 0, none⟩)]
structure Core where
  p : Int
  h : Int
  t : Int
  a : Int
  r : Int
def PW.core (x : PW) : Core := ⟨x.phase, x.heldJob, x.heldTask, x.attempt, x.row⟩
def Wkr.core (v : Wkr) : Core := ⟨v.phase, v.heldJob, v.heldTask, v.attempt, v.row⟩
def ptrV (b : Nat) : Value := .pointer (some ⟨b, 0, none⟩)
def canc (s : JS) : Bool := !s.running && decide (doneOf s.B < ((s.tasks.length : Nat) : Int))
/-- A job of the program at b. -/
def JobP (b : Nat) (s : JS) (c : Chunk) : Prop := ∃ (ta : Option Addr) (tn tk : Nat) (tl : List Task) (bb : Nat) (T M : Chunk),
  c = [(b, .cells #[.slice ta tn tk, .int .i64 s.band, .pointer (some ⟨bb, 0, none⟩), .bool (canc s)] 97 (0, 0))] ++ (T ++ M) ∧ RdT encTask 9 [T] ta tn tk tl ∧ (∀ z ∈ tl, Task.Ok [T] z) ∧ tl.map Task.v = s.tasks ∧ BoardR bb s.B M ∧ s.added = true ∧ (s.running = true → doneOf s.B < ((s.tasks.length : Nat) : Int))
def kvJ (jm : List (Int × Nat)) : List (Int × Value) := jm.map fun x => (x.1, ptrV x.2)
structure JobsP (jobs : List JS) (jm : List (Int × Nat)) (jcs : List Chunk) : Prop where
  o : Obs JobP (jm.map (·.2)) (jm.map fun x => jobs.getD x.1.toNat default) jcs
  nd : (jm.map (·.1)).Nodup
  k : ∀ i, i ∈ jm.map (·.1) ↔ 0 ≤ i ∧ i < 64 ∧ (jobs.getD i.toNat default).added = true
  l : jobs.length = 64
theorem kv_get {jm : List (Int × Nat)} {n : Nat} {k : Int} {b : Nat} (hn : (jm.map (·.1)).Nodup) (h : jm[n]? = some (k, b)) : iget (kvJ jm) k = some (ptrV b) := by
  induction jm generalizing n with
  | nil => cases h
  | cons q jm ih =>
    rw [List.map_cons, List.nodup_cons] at hn
    cases n with
    | zero =>
      obtain rfl : q = (k, b) := by simpa using h
      simp [iget, kvJ]
    | succ n =>
      have h1 : jm[n]? = some (k, b) := by simpa using h
      have h2 := ih hn.2 h1
      have h3 : q.1 ≠ k := fun e => hn.1 (by rw [e]; exact List.mem_map.2 ⟨_, List.mem_of_getElem? h1, rfl⟩)
      unfold iget kvJ at *
      rw [List.map_cons, List.find?_cons]
      have h4 : (q.1 == k) = false := by simpa using h3
      simp only [h4]; exact h2
theorem kv_none {jm : List (Int × Nat)} {k : Int} (h : k ∉ jm.map (·.1)) : iget (kvJ jm) k = none := by
  unfold iget kvJ
  rw [List.find?_eq_none.2]
  · rfl
  · intro q hq
    obtain ⟨x, hx, rfl⟩ := List.mem_map.1 hq
    have : x.1 ≠ k := fun e => h (List.mem_map.2 ⟨x, hx, e⟩)
    simpa using this
theorem JobsP.get {jobs : List JS} {jm : List (Int × Nat)} {jcs : List Chunk} {k : Int} {j : JS} (h : JobsP jobs jm jcs) (hk : 0 ≤ k ∧ k < 64) (hj : jobs[k.toNat]? = some j) (ha : j.added = true) :
    ∃ (n b : Nat) (c : Chunk), jm[n]? = some (k, b) ∧ jcs[n]? = some c ∧ JobP b j c ∧ iget (kvJ jm) k = some (ptrV b) := by
  have e : jobs.getD k.toNat default = j := getD_some hj
  obtain ⟨x, hx, hxk⟩ := List.mem_map.1 ((h.k k).2 ⟨hk.1, hk.2, by rw [e]; exact ha⟩)
  obtain ⟨n, hn⟩ := List.getElem?_of_mem hx
  have hb : (jm.map (·.2))[n]? = some x.2 := by rw [List.getElem?_map, hn]; rfl
  obtain ⟨s, c, hs, hc, hR⟩ := h.o.get hb
  rw [List.getElem?_map, hn] at hs
  obtain rfl := Option.some.inj hs
  have hx2 : x = (k, x.2) := by rw [← hxk]
  refine ⟨n, x.2, c, by rw [hn, ← hx2], hc, ?_, kv_get h.nd (n := n) (by rw [hn, ← hx2])⟩
  have hR2 : JobP x.2 (jobs.getD x.1.toNat default) c := hR
  rw [show x.1.toNat = k.toNat by rw [← hxk], e] at hR2; exact hR2
theorem JobsP.no {jobs : List JS} {jm : List (Int × Nat)} {jcs : List Chunk} {k : Int} (h : JobsP jobs jm jcs) (hk : ¬ (0 ≤ k ∧ k < 64 ∧ (jobs.getD k.toNat default).added = true)) : iget (kvJ jm) k = none := kv_none fun hm => hk ((h.k k).1 hm)
theorem getD_set' {α : Type} {l : List α} {i k : Nat} {x d : α} (h : i < l.length) : (l.set i x).getD k d = if i = k then x else l.getD k d := by
  rw [List.getD_eq_getElem?_getD, List.getElem?_set, List.getD_eq_getElem?_getD]
  split
  · rfl
  · rfl
theorem JobsP.set {jobs : List JS} {jm : List (Int × Nat)} {jcs : List Chunk} {k : Int} {n b : Nat} {j2 : JS} {c2 : Chunk} (h : JobsP jobs jm jcs) (hk : 0 ≤ k ∧ k < 64) (hn : jm[n]? = some (k, b)) (hR : JobP b j2 c2) (ha : j2.added = true) :
    JobsP (jobs.set k.toNat j2) jm (jcs.set n c2) := by
  have hl := h.l
  have hb : (jm.map (·.2))[n]? = some b := by rw [List.getElem?_map, hn]; rfl
  have hkm : ∀ i, i ∈ jm.map (·.1) → 0 ≤ i ∧ i < 64 := fun i hi => ⟨((h.k i).1 hi).1, ((h.k i).1 hi).2.1⟩
  have e : (jm.map fun x => (jobs.set k.toNat j2).getD x.1.toNat default) = (jm.map fun x => jobs.getD x.1.toNat default).set n j2 := by
    apply List.ext_getElem?
    intro i
    rw [List.getElem?_map, List.getElem?_set, List.length_map]
    by_cases hi : n = i
    · subst hi
      have hlt := (List.getElem?_eq_some_iff.1 hn).1
      rw [if_pos rfl, if_pos hlt, hn]
      simp only [Option.map_some]
      rw [getD_set' (by omega), if_pos rfl]
    · rw [if_neg hi, List.getElem?_map]
      cases hx : jm[i]? with
      | none => rfl
      | some x =>
        simp only [Option.map_some]
        rw [getD_set' (by omega), if_neg]
        intro q
        have hx1 := hkm x.1 (List.mem_map.2 ⟨x, List.mem_of_getElem? hx, rfl⟩)
        have q2 : k = x.1 := by omega
        have h1 : (jm.map (·.1))[n]? = some k := by rw [List.getElem?_map, hn]; rfl
        have h2 : (jm.map (·.1))[i]? = some k := by rw [List.getElem?_map, hx, q2]; rfl
        have hlt := (List.getElem?_eq_some_iff.1 h1).1
        exact hi ((List.getElem?_inj hlt h.nd).1 (h1.trans h2.symm))
  refine ⟨by rw [e]; exact h.o.set hb hR, h.nd, ?_, by rw [List.length_set]; exact h.l⟩
  intro i
  rw [h.k i]
  constructor
  · rintro ⟨h1, h2, h3⟩
    refine ⟨h1, h2, ?_⟩
    rw [getD_set' (by omega)]
    split
    · exact ha
    · exact h3
  · rintro ⟨h1, h2, h3⟩
    refine ⟨h1, h2, ?_⟩
    rw [getD_set' (by omega)] at h3
    split at h3
    · rename_i q
      have q2 : k = i := by omega
      have h4 : k ∈ jm.map (·.1) := List.mem_map.2 ⟨_, List.mem_of_getElem? hn, rfl⟩
      rw [← q2]; exact ((h.k k).1 h4).2.2
    · exact h3
theorem JobP.open {b : Nat} {s : JS} {c : Chunk} (h : JobP b s c) : ∃ (ta : Option Addr) (tn tk : Nat) (tl : List Task) (bb : Nat) (T M : Chunk),
  c = [(b, .cells #[.slice ta tn tk, .int .i64 s.band, .pointer (some ⟨bb, 0, none⟩), .bool (canc s)] 97 (0, 0))] ++ (T ++ M) ∧ RdT encTask 9 [T] ta tn tk tl ∧ (∀ z ∈ tl, Task.Ok [T] z) ∧ tl.map Task.v = s.tasks ∧ BoardR bb s.B M ∧ s.added = true ∧ (s.running = true → doneOf s.B < ((s.tasks.length : Nat) : Int)) := h
theorem JobP.mk {b : Nat} {s : JS} {ta : Option Addr} {tn tk : Nat} {tl : List Task} {bb : Nat} {T M : Chunk} {cn : Bool} (hT : RdT encTask 9 [T] ta tn tk tl) (hD : ∀ z ∈ tl, Task.Ok [T] z) (hV : tl.map Task.v = s.tasks) (hB : BoardR bb s.B M) (ha : s.added = true) (hr : s.running = true → doneOf s.B < ((s.tasks.length : Nat) : Int)) (hc : cn = canc s) :
    JobP b s ([(b, .cells #[.slice ta tn tk, .int .i64 s.band, .pointer (some ⟨bb, 0, none⟩), .bool cn] 97 (0, 0))] ++ (T ++ M)) := by subst hc; exact ⟨_, _, _, _, _, _, _, rfl, hT, hD, hV, hB, ha, hr⟩
def preP (c : Cfg) (wb wo wn wk q m : Nat) : List Value := [.int .i64 c.workers, .int .i64 c.tileW, .int .i64 c.tileH, .int .i64 c.arena, .int .i64 c.deque, .int .i64 c.tasks, .int .i64 c.cells, .int .i64 c.jobs, .slice (some ⟨wb, wo, none⟩) wn wk, .pointer (some ⟨q, 0, none⟩), .map (some m)]
/-- The farm's memory as one piece. -/
def FarmP (p : Nat) (F : FS) (M : Chunk) : Prop := ∃ (wb wo wn wk q m : Nat) (xs : List PW) (jm : List (Int × Nat)) (Wc Qc Jc : Chunk) (acs dcs jcs : List Chunk),
  M = Tri p 81 (preP F.cfg wb wo wn wk q m) (([] : List Ref).flatMap encRef) (encStt F.st) ++ (Wc ++ (acs.flatten ++ (dcs.flatten ++ (Qc ++ (Jc ++ jcs.flatten))))) ∧
  OwnT encPW 89 7 (some ⟨wb, wo, none⟩) wn wk xs Wc ∧ xs.map PW.core = F.ws.map Wkr.core ∧ Obs PaR (xs.map (·.a)) F.ar acs ∧ Obs DqP (xs.map (·.d)) F.dq dcs ∧ InjP q F.q Qc ∧ MapI m (kvJ jm) Jc ∧ JobsP F.jobs jm jcs
theorem core_at {xs : List PW} {ws : List Wkr} {k : Nat} {x : PW} (h : xs.map PW.core = ws.map Wkr.core) (hx : xs[k]? = some x) : ∃ v, ws[k]? = some v ∧ x.phase = v.phase ∧ x.heldJob = v.heldJob ∧ x.heldTask = v.heldTask ∧ x.attempt = v.attempt ∧ x.row = v.row := by
  have h1 : (ws.map Wkr.core)[k]? = some x.core := by rw [← h, List.getElem?_map, hx]; rfl
  rw [List.getElem?_map] at h1
  cases hv : ws[k]? with
  | none => rw [hv] at h1; cases h1
  | some v =>
    rw [hv] at h1
    obtain ⟨e1, e2, e3, e4, e5⟩ := Core.mk.inj (Option.some.inj h1)
    exact ⟨v, rfl, e1.symm, e2.symm, e3.symm, e4.symm, e5.symm⟩
theorem core_set {xs : List PW} {ws : List Wkr} {k : Nat} {x' : PW} {v' : Wkr} (h : xs.map PW.core = ws.map Wkr.core) (e : x'.core = v'.core) : (xs.set k x').map PW.core = (ws.set k v').map Wkr.core := by
  rw [List.map_set, List.map_set, h, e]
theorem map_setA {xs : List PW} {k : Nat} {x x' : PW} (hx : xs[k]? = some x) (e : x'.a = x.a) : (xs.set k x').map (·.a) = xs.map (·.a) := by
  rw [List.map_set, e]; exact set_same (by rw [List.getElem?_map, hx]; rfl)
theorem map_setD {xs : List PW} {k : Nat} {x x' : PW} (hx : xs[k]? = some x) (e : x'.d = x.d) : (xs.set k x').map (·.d) = xs.map (·.d) := by
  rw [List.map_set, e]; exact set_same (by rw [List.getElem?_map, hx]; rfl)
theorem core_len {xs : List PW} {ws : List Wkr} (h : xs.map PW.core = ws.map Wkr.core) : xs.length = ws.length := by simpa using congrArg List.length h
theorem map_at' {α β : Type} {f : α → β} {l : List α} {i : Nat} {x : α} (h : l[i]? = some x) : (l.map f)[i]? = some (f x) := by rw [List.getElem?_map, h]; rfl
theorem canc_t {s : JS} (h : canc s = true) : s.running = false := by
  unfold canc at h; cases hr : s.running
  · rfl
  · rw [hr] at h; simp at h
theorem canc_f {s : JS} (h : ¬ canc s = true) (hlt : doneOf s.B < ((s.tasks.length : Nat) : Int)) : s.running = true := by
  unfold canc at h; cases hr : s.running
  · rw [hr, decide_eq_true hlt] at h; exact absurd rfl h
  · rfl
theorem canc_run {s : JS} (h : s.running = true) : canc s = false := by unfold canc; rw [h]; rfl
theorem canc_done {s : JS} (h : doneOf s.B = ((s.tasks.length : Nat) : Int)) : canc s = false := by unfold canc; rw [decide_eq_false (by omega), Bool.and_false]
theorem run_eq {s : JS} (h : ¬ canc s = true) (hr : s.running = true → doneOf s.B < ((s.tasks.length : Nat) : Int)) (hd : s.B.deps.length = s.tasks.length) : decide (doneOf s.B < ((s.B.deps.length : Nat) : Int)) = s.running := by
  rw [hd]
  cases e : s.running
  · by_cases h2 : doneOf s.B < ((s.tasks.length : Nat) : Int)
    · rw [canc_f h h2] at e; cases e
    · exact decide_eq_false h2
  · exact decide_eq_true (hr e)
theorem some_addr {b o b' o' : Nat} (h : (some ⟨b, o, none⟩ : Option Addr) = some ⟨b', o', none⟩) : b = b' ∧ o = o' := by cases h; exact ⟨rfl, rfl⟩
theorem p_holds {b off : Nat} {x : PW} {c : Chunk} {F0 : List Chunk} (hp : PtR [c] b off (encPW x)) (hS : Sat W w (c :: F0)) :
    Calls Try.prog 52 #[.pointer (some ⟨b, off, none⟩)] w fun e w' => e = .returned (.bool (decide (x.phase ≠ 0 ∧ x.phase ≠ 4))) ∧ Sat W w' (c :: F0) := by
  refine callsA 15 Try.func52 rfl ?_
  refine seqE <| regionE <| pu1 <| nilO <| thenK_n <| seqE <| regionE <| pu3 ?_
  refine sLp hS (hp.up 0 rfl) 0 (.int .i64 x.phase) (Try.isAgg3 _) ?_
  refine pu2 ?_
  refine sN 8 x.phase 0 (fun hc_1 => ?_) (fun hc_1 => ?_)
  · refine pu7 <| nilO <| thenK_n <| retE <| retT [.bool false] <| ?_
    exact ⟨congrArg (fun b => Ending.returned (.bool b)) ((decide_eq_false (p := x.phase ≠ 0 ∧ x.phase ≠ 4) (by omega)).symm), hS⟩
  refine pu3 <| gY ?_
  refine sLp hS (hp.up 0 rfl) 0 (.int .i64 x.phase) (Try.isAgg3 _) ?_
  refine pu3 <| nilO <| thenK_n <| retE <| retT [.bool ((x.phase : Int) != 4)] <| ?_
  exact ⟨congrArg (fun b => Ending.returned (.bool b)) (by rw [Bool.eq_iff_iff]; simp only [decide_eq_true_eq, bne_iff_ne, ne_eq]; omega), hS⟩
theorem p_rest {wb wo wn wk k : Nat} {xs : List PW} {x : PW} {ar : List AS} {Wc : Chunk} {acs F0 : List Chunk} (hOw : OwnT encPW 89 7 (some ⟨wb, wo, none⟩) wn wk xs Wc) (hAs : Obs PaR (xs.map (·.a)) ar acs) (hx : xs[k]? = some x) (ph : Int) (hS : Sat W w (Wc :: acs.flatten :: F0)) :
    Calls Try.prog 68 #[.pointer (some ⟨wb, wo + k * 7, none⟩), .int .i64 ph] w fun e w' => ∃ (Wc' : Chunk) (acs' : List Chunk), e = .returned (.tuple #[]) ∧ OwnT encPW 89 7 (some ⟨wb, wo, none⟩) wn wk (xs.set k (⟨ph, 0, 0, 0, 0, x.a, x.d⟩ : PW)) Wc' ∧ Obs PaR (xs.map (·.a)) (ar.set k (resetA (ar.getD k default))) acs' ∧ Sat W w' (Wc' :: acs'.flatten :: F0) := by
  have hp := OwnT.ptr hOw rfl hx
  refine callsA 23 Try.func68 rfl ?_
  refine seqE <| regionE <| pu4 ?_
  refine sStF hS hOw rfl 0 k 0 x (⟨ph, x.heldJob, x.heldTask, x.attempt, x.row, x.a, x.d⟩ : PW) hx (.int .i64 ph) [.int .i64 ph] Try.sizeOf3 ?_
  intro w_1 c_3 hO_4 hS_2
  refine nilO <| thenK_n <| seqE <| regionE <| pu4 ?_
  have hx_5 := set_at (y := (⟨ph, x.heldJob, x.heldTask, x.attempt, x.row, x.a, x.d⟩ : PW)) hx
  have hp_6 := OwnT.ptr hO_4 rfl hx_5
  refine sStF hS_2 hO_4 rfl 0 k 1 (⟨ph, x.heldJob, x.heldTask, x.attempt, x.row, x.a, x.d⟩ : PW) (⟨ph, 0, 0, x.attempt, x.row, x.a, x.d⟩ : PW) hx_5 (.agg #[.int .i64 0, .int .i64 0]) [.int .i64 0, .int .i64 0] Try.sizeOf48 ?_
  intro w_7 c_9 hO_10 hS_8
  rw [List.set_set] at hO_10
  refine nilO <| thenK_n <| seqE <| regionE <| pu3 ?_
  have hx_11 := set_at (y := (⟨ph, 0, 0, x.attempt, x.row, x.a, x.d⟩ : PW)) hx
  have hp_12 := OwnT.ptr hO_10 rfl hx_11
  refine sStF hS_8 hO_10 rfl 0 k 3 (⟨ph, 0, 0, x.attempt, x.row, x.a, x.d⟩ : PW) (⟨ph, 0, 0, 0, x.row, x.a, x.d⟩ : PW) hx_11 (.int .i64 0) [.int .i64 0] Try.sizeOf3 ?_
  intro w_13 c_15 hO_16 hS_14
  rw [List.set_set] at hO_16
  refine nilO <| thenK_n <| seqE <| regionE <| pu3 ?_
  have hx_17 := set_at (y := (⟨ph, 0, 0, 0, x.row, x.a, x.d⟩ : PW)) hx
  have hp_18 := OwnT.ptr hO_16 rfl hx_17
  refine sStF hS_14 hO_16 rfl 0 k 4 (⟨ph, 0, 0, 0, x.row, x.a, x.d⟩ : PW) (⟨ph, 0, 0, 0, 0, x.a, x.d⟩ : PW) hx_17 (.int .i64 0) [.int .i64 0] Try.sizeOf3 ?_
  intro w_19 c_21 hO_22 hS_20
  rw [List.set_set] at hO_22
  refine nilO <| thenK_n <| regionE <| pu3 ?_
  have hx_23 := set_at (y := (⟨ph, 0, 0, 0, 0, x.a, x.d⟩ : PW)) hx
  have hp_24 := OwnT.ptr hO_22 rfl hx_23
  refine sLp hS_20 (hp_24.up 0 rfl) 5 (.pointer (some ⟨x.a, 0, none⟩)) (Try.isAgg82 _) ?_
  obtain ⟨s_25, c_26, hs_27, hc_28, hR_29⟩ := Obs.get hAs (map_at' hx)
  have hS_31 := (hS_20.pick 1 rfl)
  have hS_30 := Sat.openN (A := []) k hc_28 hS_31
  refine cX Try.call93 (pa_reset hR_29  (Sat.flat1 hS_30)) ?_
  rintro _ w_32 ⟨M_35, rfl, hR_36, hS_33⟩
  have hS_34 := Sat.unflat1 hS_33
  have hS_37 := ((hS_34.pick 1 rfl).pick 1 rfl)
  have hS_38 := Sat.shutN (d := M_35) (A := []) k hc_28 hS_37
  have hL_39 := Obs.set hAs (map_at' hx) hR_36
  refine nilO ?_
  refine ret0n rfl <| ?_
  have hS_40 := (hS_38.pick 1 rfl)
  exact ⟨_, _, rfl, hO_22, by rw [getD_some hs_27]; exact hL_39, hS_40⟩
theorem p_running {b : Nat} {s : JS} {c : Chunk} {K : Int} {F0 : List Chunk} (hJ : JobP b s c) (hBW : BWf s.B K) (hdl : s.B.deps.length = s.tasks.length) (hS : Sat W w (c :: F0)) :
    Calls Try.prog 64 #[.pointer (some ⟨b, 0, none⟩)] w fun e w' => e = .returned (.bool s.running) ∧ Sat W w' (c :: F0) := by
  obtain ⟨ta, tn, tk, tl, bb, T, M, rfl, hT, hD, hV, hB, ha, hr⟩ := hJ.open
  have hS_1 : Sat W _ ([(b, .cells #[.slice ta tn tk, .int .i64 s.band, .pointer (some ⟨bb, 0, none⟩), .bool (canc s)] 97 (0, 0))] :: T :: M :: F0) := Sat.perm hS (by simp)
  refine callsA 21 Try.func64 rfl ?_
  refine seqE <| regionE <| pu1 <| nilO <| thenK_n <| seqE ?_
  rcases Classical.em ((canc s) = true) with hc_2 | hc_2
  · refine drawE [10, 15] [(3, ⟨b, 3, none⟩, .bool (canc s))] [(true, [0, 1, 2]), (true, [3]), (true, [4, 5]), (true, [6, 7, 8, 11, 12, 13, 9, 14]), (false, [10]), (false, [15]), (true, [16, 17, 18])] rfl (by kernel_rfl) ⟨.inr (hS_1.cell 0 rfl rfl), trivial⟩ ?_
    have hS_3 := hS_1.drew
    refine wU [0, 1, 2] ?_
    refine wLd (.bool (canc s)) 0 Try.isAgg4 ?_
    refine wU [4, 5] ?_
    refine wFix 8 _ false (congrArg Bool.not hc_2) ?_
    refine wU [6, 7, 8, 11, 12, 13, 9, 14] ?_
    refine wO rfl ?_
    refine pu1 ?_
    refine nilO ⟨⟨.inr (hS_3.cell 0 rfl rfl), trivial⟩, ?_⟩
    refine wO rfl ?_
    refine pu1 ?_
    refine nilO ⟨⟨.inr (hS_3.cell 0 rfl rfl), trivial⟩, ?_⟩
    refine wU [16, 17, 18] ?_
    refine wN ?_
    refine thenK_n <| retE <| retT [.bool false] <| ?_
    have hS_4 : Sat W _ (([(b, .cells #[.slice ta tn tk, .int .i64 s.band, .pointer (some ⟨bb, 0, none⟩), .bool (canc s)] 97 (0, 0))] ++ (T ++ M)) :: F0) := Sat.perm (show Sat W _ ([(b, .cells #[.slice ta tn tk, .int .i64 s.band, .pointer (some ⟨bb, 0, none⟩), .bool (canc s)] 97 (0, 0))] :: T :: M :: F0) from hS_3) (by simp)
    exact ⟨congrArg (fun b => Ending.returned (.bool b)) ((canc_t hc_2).symm), hS_4⟩
  refine drawE [10, 15] [(3, ⟨b, 3, none⟩, .bool (canc s)), (9, ⟨b, 2, none⟩, .pointer (some ⟨bb, 0, none⟩)), (14, ⟨b, 2, none⟩, .pointer (some ⟨bb, 0, none⟩))] [(true, [0, 1, 2]), (true, [3]), (true, [4, 5]), (true, [6, 7, 8, 11, 12, 13]), (true, [9]), (true, [14]), (false, [10]), (false, [15]), (true, [16]), (true, [17, 18])] rfl (by kernel_rfl) ⟨.inr (hS_1.cell 0 rfl rfl), .inr (hS_1.cell 0 rfl rfl), .inr (hS_1.cell 0 rfl rfl), trivial⟩ ?_
  have hS_5 := hS_1.drew
  refine wU [0, 1, 2] ?_
  refine wLd (.bool (canc s)) 0 Try.isAgg4 ?_
  refine wU [4, 5] ?_
  refine wFix 8 _ true (congrArg Bool.not (Bool.eq_false_iff.2 hc_2)) ?_
  refine wU [6, 7, 8, 11, 12, 13] ?_
  refine wLd (.pointer (some ⟨bb, 0, none⟩)) 1 Try.isAgg91 ?_
  refine wLd (.pointer (some ⟨bb, 0, none⟩)) 2 Try.isAgg91 ?_
  refine wO rfl ?_
  refine gY ?_
  have hS_6 := (hS_5.pick 2 rfl)
  refine cX Try.call88 (b_done hB hBW (Sat.flat1 hS_6)) ?_
  rintro _ w_7 ⟨rfl, hS_8⟩
  have hS_9 := Sat.unflat1 hS_8
  refine nilO ⟨⟨.inr (hS_9.cell 1 rfl rfl), .inl (by kernel_rfl), .inr (hS_9.cell 1 rfl rfl), trivial⟩, ?_⟩
  refine wO rfl ?_
  refine gY ?_
  refine cX Try.call89 (b_total hB hBW (Sat.flat1 hS_9)) ?_
  rintro _ w_10 ⟨rfl, hS_11⟩
  have hS_12 := Sat.unflat1 hS_11
  refine nilO ⟨⟨.inr (hS_12.cell 1 rfl rfl), .inl (by kernel_rfl), .inl (by kernel_rfl), trivial⟩, ?_⟩
  refine wU [16] <| wU [17, 18] ?_
  refine wN ?_
  refine thenK_n <| retE <| retT [.bool (decide (((doneOf s.B) : Int) < ((s.B.deps.length : Nat) : Int)))] <| ?_
  have hS_13 := ((hS_12.pick 2 rfl).pick 2 rfl)
  have hS_14 : Sat W _ (([(b, .cells #[.slice ta tn tk, .int .i64 s.band, .pointer (some ⟨bb, 0, none⟩), .bool (canc s)] 97 (0, 0))] ++ (T ++ M)) :: F0) := Sat.perm (show Sat W _ ([(b, .cells #[.slice ta tn tk, .int .i64 s.band, .pointer (some ⟨bb, 0, none⟩), .bool (canc s)] 97 (0, 0))] :: T :: M :: F0) from hS_13) (by simp)
  exact ⟨congrArg (fun b => Ending.returned (.bool b)) (run_eq hc_2 hr hdl), hS_14⟩
theorem pf_worker {p : Nat} {F : FS} {M : Chunk} {F0 : List Chunk} (hR : FarmP p F M) (x : Int) (hS : Sat W w (M :: H :: F0)) :
    Calls Try.prog 51 #[.pointer (some ⟨p, 0, none⟩), .int .i64 x] w fun e w' => e = .returned (.bool (decide (0 ≤ x ∧ x < ((F.ws.length : Nat) : Int)))) ∧ Sat W w' (M :: H :: F0) := by
  obtain ⟨wb, wo, wn, wk, q, m, xs, jm, Wc, Qc, Jc, acs, dcs, jcs, rfl, hOw, hco, hAs, hDs, hQ, hM, hJs⟩ := hR
  have hS_1 : Sat W _ ((Tri p 81 (preP F.cfg wb wo wn wk q m) (([] : List Ref).flatMap encRef) (encStt F.st)) :: Wc :: acs.flatten :: dcs.flatten :: Qc :: Jc :: jcs.flatten :: H :: F0) := Sat.perm hS (by simp)
  have hwl := hOw.len; have hwk := hOw.le; have hcl := core_len hco; have has1 := hAs.1; have hds1 := hDs.1; rw [List.length_map] at has1 hds1; have hjl1 := hJs.l
  refine callsA 20 Try.func51 rfl ?_
  refine seqE <| regionE <| pu1 <| nilO <| thenK_n <| seqE <| regionE <| pu7 ?_
  refine sD 11 (x ≥ 0) (fun hc_2 => ?_) (fun hc_2 => ?_)
  rotate_left
  · refine pu9 <| nilO <| thenK_n <| retE <| retT [.bool false] <| ?_
    have hS_4 : Sat W _ (((Tri p 81 (preP F.cfg wb wo wn wk q m) (([] : List Ref).flatMap encRef) (encStt F.st)) ++ (Wc ++ (acs.flatten ++ (dcs.flatten ++ (Qc ++ (Jc ++ jcs.flatten)))))) :: H :: F0) := Sat.perm (show Sat W _ ((Tri p 81 (preP F.cfg wb wo wn wk q m) (([] : List Ref).flatMap encRef) (encStt F.st)) :: Wc :: acs.flatten :: dcs.flatten :: Qc :: Jc :: jcs.flatten :: H :: F0) from hS_1) (by simp)
    exact ⟨congrArg (fun b => Ending.returned (.bool b)) ((decide_eq_false (p := 0 ≤ x ∧ x < ((F.ws.length : Nat) : Int)) (by omega)).symm), hS_4⟩
  refine pu4 <| gY ?_
  refine sLp hS_1 (ptr_up 0 rfl tri_pre) 8 (.slice (some ⟨wb, wo, none⟩) wn wk) (Try.isAgg79 _) ?_
  refine pu4 <| nilO <| thenK_n <| retE <| retT [.bool (decide ((x : Int) < ((wn : Nat) : Int)))] <| ?_
  have hS_3 : Sat W _ (((Tri p 81 (preP F.cfg wb wo wn wk q m) (([] : List Ref).flatMap encRef) (encStt F.st)) ++ (Wc ++ (acs.flatten ++ (dcs.flatten ++ (Qc ++ (Jc ++ jcs.flatten)))))) :: H :: F0) := Sat.perm (show Sat W _ ((Tri p 81 (preP F.cfg wb wo wn wk q m) (([] : List Ref).flatMap encRef) (encStt F.st)) :: Wc :: acs.flatten :: dcs.flatten :: Qc :: Jc :: jcs.flatten :: H :: F0) from hS_1) (by simp)
  exact ⟨congrArg (fun b => Ending.returned (.bool b)) (by rw [Bool.eq_iff_iff]; simp only [decide_eq_true_eq]; omega), hS_3⟩
theorem pf_empty {p : Nat} {F : FS} {M : Chunk} {F0 : List Chunk} (hR : FarmP p F M) (hn : 1 ≤ F.ws.length) (hS : Sat W w (M :: H :: F0)) :
    Calls Try.prog 45 #[.pointer (some ⟨p, 0, none⟩)] w fun e w' => e = .returned (.bool false) ∧ Sat W w' (M :: H :: F0) := by
  obtain ⟨wb, wo, wn, wk, q, m, xs, jm, Wc, Qc, Jc, acs, dcs, jcs, rfl, hOw, hco, hAs, hDs, hQ, hM, hJs⟩ := hR
  have hS_1 : Sat W _ ((Tri p 81 (preP F.cfg wb wo wn wk q m) (([] : List Ref).flatMap encRef) (encStt F.st)) :: Wc :: acs.flatten :: dcs.flatten :: Qc :: Jc :: jcs.flatten :: H :: F0) := Sat.perm hS (by simp)
  have hwl := hOw.len; have hwk := hOw.le; have hcl := core_len hco; have has1 := hAs.1; have hds1 := hDs.1; rw [List.length_map] at has1 hds1; have hjl1 := hJs.l
  refine callsA 13 Try.func45 rfl ?_
  refine seqE <| regionE <| pu1 <| nilO <| thenK_n <| seqE <| regionE <| pu6 <| gY ?_
  refine sLp hS_1 (ptr_up 0 rfl tri_pre) 8 (.slice (some ⟨wb, wo, none⟩) wn wk) (Try.isAgg79 _) ?_
  refine pu4 <| nilO <| thenK_n <| retE <| retT [.bool ((((wn : Nat) : Int) : Int) == 0)] <| ?_
  have hS_2 : Sat W _ (((Tri p 81 (preP F.cfg wb wo wn wk q m) (([] : List Ref).flatMap encRef) (encStt F.st)) ++ (Wc ++ (acs.flatten ++ (dcs.flatten ++ (Qc ++ (Jc ++ jcs.flatten)))))) :: H :: F0) := Sat.perm (show Sat W _ ((Tri p 81 (preP F.cfg wb wo wn wk q m) (([] : List Ref).flatMap encRef) (encStt F.st)) :: Wc :: acs.flatten :: dcs.flatten :: Qc :: Jc :: jcs.flatten :: H :: F0) from hS_1) (by simp)
  exact ⟨congrArg (fun b => Ending.returned (.bool b)) (by simp; omega), hS_2⟩
theorem p_empty {p q wb wo wn wk m : Nat} {c : Cfg} {mid post : List Value} {F0 : List Chunk} (h0 : 0 < wn ∧ wn ≤ 9223372036854775807) (hS : Sat W w ((Tri p 81 (preP c wb wo wn wk q m) mid post) :: F0)) :
    Calls Try.prog 45 #[.pointer (some ⟨p, 0, none⟩)] w fun e w' => e = .returned (.bool false) ∧ Sat W w' ((Tri p 81 (preP c wb wo wn wk q m) mid post) :: F0) := by
  refine callsA 13 Try.func45 rfl ?_
  refine seqE <| regionE <| pu1 <| nilO <| thenK_n <| seqE <| regionE <| pu6 <| gY ?_
  refine sLp hS (ptr_up 0 rfl tri_pre) 8 (.slice (some ⟨wb, wo, none⟩) wn wk) (Try.isAgg79 _) ?_
  refine pu4 <| nilO <| thenK_n <| retE <| retT [.bool ((((wn : Nat) : Int) : Int) == 0)] <| ?_
  exact ⟨congrArg (fun b => Ending.returned (.bool b)) (by simp; omega), hS⟩
end Go.Proofs.Ytegmennaekipaaa
