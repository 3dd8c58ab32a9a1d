import Derived.Test.YtimkhljglpookaaGreatRec
import Derived.Test.YtimkhljglpookaaGreatBMeth
import Derived.Test.YtimkhljglpookaaGreatBCom
namespace Go.Proofs.YtimkhljglpookaaGreat
open Go Go.E
set_option linter.unusedVariables false
set_option linter.unusedSimpArgs false
set_option linter.unnecessarySimpa false
set_option maxRecDepth 100000
set_option maxHeartbeats 2000000
variable {W w : World} {H : Chunk} {F : List Chunk}
structure Wk where
  phase : Int
  heldJob : Int
  heldTask : Int
  attempt : Int
  row : Int
  deriving DecidableEq
def encWk (x : Wk) : List Value := [.int .i64 x.phase, .int .i64 x.heldJob, .int .i64 x.heldTask, .int .i64 x.attempt, .int .i64 x.row]

/-! ### the auditor's machine -/
structure JA where
  T : List Task
  B : Option BS
  x : Bool
instance : Inhabited JA := ⟨⟨[], none, false⟩⟩
instance : Inhabited Wk := ⟨⟨0, 0, 0, 0, 0⟩⟩
structure MS where
  ws : List Wk
  jobs : List JA
  rd : Int
def JobA (H : Chunk) (p : Nat) (s : JA) (c : Chunk) : Prop := ∃ (ta : Option Addr) (tn tk : Nat) (b : Option Addr) (M : Chunk),
  c = [(p, .cells #[.slice ta tn tk, .pointer b, .bool s.x] 156 (0, 0))] ++ M ∧ RdT encTask 9 [H] ta tn tk s.T ∧ (∀ z ∈ s.T, Task.Ok [H] z) ∧
  ((s.B = none ∧ b = none ∧ M = []) ∨ (∃ (B : BS) (q : Nat), s.B = some B ∧ b = some ⟨q, 0, none⟩ ∧ BoardR q B M))
def runJ (s : JA) : Bool := !s.x && (match s.B with | none => false | some B => decide (doneOf B < ((B.deps.length : Nat) : Int)))
def runsM (jobs : List JA) (n : Int) : Bool := decide (0 ≤ n ∧ n < ((jobs.length : Nat) : Int)) && runJ (jobs.getD n.toNat default)
def busyM (jobs : List JA) (v : Wk) : Bool := decide (v.phase ≠ 0 ∧ v.phase ≠ 4) && runsM jobs v.heldJob
def JW (K : Int) (j : JA) : Prop := ∀ B, j.B = some B → BWf B K ∧ B.deps.length = j.T.length
def namedE (e : Evt) : Evt :=
  if e.kind = 1 then ⟨e.kind, 0, 0, e.job, 0, 0, e.err⟩ else if e.kind = 2 then ⟨e.kind, 0, 0, e.job, 0, 0, 0⟩
  else if e.kind = 3 ∨ e.kind = 4 ∨ e.kind = 8 ∨ e.kind = 9 ∨ e.kind = 10 then ⟨e.kind, e.worker, 0, 0, e.refJob, e.refTask, 0⟩
  else if e.kind = 5 then ⟨e.kind, e.worker, e.from_, 0, e.refJob, e.refTask, 0⟩
  else if e.kind = 12 then ⟨e.kind, e.worker, e.from_, 0, 0, 0, 0⟩
  else if e.kind = 6 ∨ e.kind = 7 ∨ e.kind = 11 ∨ e.kind = 13 then ⟨e.kind, e.worker, 0, 0, 0, 0, 0⟩
  else ⟨e.kind, 0, 0, 0, 0, 0, 0⟩
def anotherE (n : Nat) (e : Evt) : Bool := decide (0 ≤ e.from_ ∧ e.from_ < ((n : Nat) : Int) ∧ e.from_ ≠ e.worker)
theorem any_take {ws : List Wk} {f : Wk → Bool} {i : Nat} {x : Wk} (hx : ws[i]? = some x) (h : (ws.take i).any f = false) (hf : f x = false) : (ws.take (i + 1)).any f = false := by
  rw [take_succ_at hx, List.any_append, h]; simp [hf]
theorem any_hit {ws : List Wk} {f : Wk → Bool} {i : Nat} {x : Wk} (hx : ws[i]? = some x) (hf : f x = true) : ws.any f = true := List.any_eq_true.2 ⟨x, List.mem_of_getElem? hx, hf⟩
theorem some_addr {b o b' o' : Nat} (h : (some ⟨b, o, none⟩ : Option Addr) = some ⟨b', o', none⟩) : b = b' ∧ o = o' := by cases h; exact ⟨rfl, rfl⟩
theorem ad_within (n : Int) (a : Int) (b : Int) (hS : Sat W w (H :: F)) :
    Ro Tryz.prog 51 #[.int .i64 n, .int .i64 a, .int .i64 b] (.bool (decide ((a ≤ n ∧ n ≤ b)))) W w (H :: F) := by
  refine callsA 15 Tryz.func51 rfl ?_
  refine seqE <| regionE <| pu1 <| nilO <| thenK_n <| seqE <| regionE <| pu4 ?_
  refine sD 10 (n ≥ a) (fun hc_1 => ?_) (fun hc_1 => ?_)
  rotate_left
  · refine pu5 <| nilO <| thenK_n <| retE <| retT [.bool false] <| ?_
    exact ⟨congrArg (fun b => Ending.returned (.bool b)) ((decide_eq_false (by omega)).symm), hS⟩
  refine pu5 <| nilO <| thenK_n <| retE <| retT [.bool (decide ((n : Int) ≤ b))] <| ?_
  exact ⟨congrArg (fun b => Ending.returned (.bool b)) (by rw [Bool.eq_iff_iff]; simp only [decide_eq_true_eq, ge_iff_le]; omega), hS⟩
theorem ad_valid (c : Cfg) (hS : Sat W w (H :: F)) :
    Ro Tryz.prog 28 #[.agg (encCfg c).toArray] (.int .i64 (validCfg c)) W w (H :: F) := by
  refine callsA 44 Tryz.func28 rfl ?_
  refine seqE <| regionE ?_
  refine sBox hS (.agg (encCfg c).toArray) (encCfg c).toArray ?_
  intro b_1 w_2 hS_3
  refine pu1 <| nilO <| thenK_n <| seqE <| regionE <| pu1 ?_
  refine sL hS_3 0 0 (.int .i64 c.workers) (Tryz.isAgg3 _) ?_
  refine cR Tryz.call51 (ad_within c.workers 1 64 (Sat.flat hS_3)) ?_
  intro w_4 hS_5
  refine pu1 ?_
  refine sD 7 ((1 ≤ c.workers ∧ c.workers ≤ 64)) (fun hc_7 => ?_) (fun hc_7 => ?_)
  rotate_left
  · refine pu16 <| pu16 <| pu3 <| nilO <| thenK_n <| seqE <| seqE <| regionE <| pu2 <| nilO <| thenK_n <| cTt <| seqE <| regionE <| pu1 <| nilO <| thenK_n <| retE <| thenK_r <| retT [.int .i64 2] <| ?_
    have hS_44 := (hS_5.dropAt 0 rfl)
    exact ⟨congrArg (fun z => Ending.returned (.int .i64 z)) (by unfold validCfg; rw [if_neg (by omega)]), hS_44⟩
  refine pu1 <| gY ?_
  refine sL hS_5 0 1 (.int .i64 c.tileW) (Tryz.isAgg3 _) ?_
  refine gY ?_
  refine cR Tryz.call51 (ad_within c.tileW 1 64 (Sat.flat hS_5)) ?_
  intro w_8 hS_9
  refine pu2 ?_
  refine sD 12 ((1 ≤ c.tileW ∧ c.tileW ≤ 64)) (fun hc_11 => ?_) (fun hc_11 => ?_)
  rotate_left
  · refine pu16 <| pu14 <| nilO <| thenK_n <| seqE <| seqE <| regionE <| pu2 <| nilO <| thenK_n <| cTt <| seqE <| regionE <| pu1 <| nilO <| thenK_n <| retE <| thenK_r <| retT [.int .i64 2] <| ?_
    have hS_43 := (hS_9.dropAt 0 rfl)
    exact ⟨congrArg (fun z => Ending.returned (.int .i64 z)) (by unfold validCfg; rw [if_neg (by omega)]), hS_43⟩
  refine pu1 <| gY ?_
  refine sL hS_9 0 2 (.int .i64 c.tileH) (Tryz.isAgg3 _) ?_
  refine gY ?_
  refine cR Tryz.call51 (ad_within c.tileH 1 64 (Sat.flat hS_9)) ?_
  intro w_12 hS_13
  refine pu2 ?_
  refine sD 17 ((1 ≤ c.tileH ∧ c.tileH ≤ 64)) (fun hc_15 => ?_) (fun hc_15 => ?_)
  rotate_left
  · refine pu16 <| pu9 <| nilO <| thenK_n <| seqE <| seqE <| regionE <| pu2 <| nilO <| thenK_n <| cTt <| seqE <| regionE <| pu1 <| nilO <| thenK_n <| retE <| thenK_r <| retT [.int .i64 2] <| ?_
    have hS_42 := (hS_13.dropAt 0 rfl)
    exact ⟨congrArg (fun z => Ending.returned (.int .i64 z)) (by unfold validCfg; rw [if_neg (by omega)]), hS_42⟩
  refine pu1 <| gY ?_
  refine sL hS_13 0 3 (.int .i64 c.arena) (Tryz.isAgg3 _) ?_
  refine gY ?_
  refine cR Tryz.call51 (ad_within c.arena 0 1048576 (Sat.flat hS_13)) ?_
  intro w_16 hS_17
  refine pu2 ?_
  refine sD 22 ((0 ≤ c.arena ∧ c.arena ≤ 1048576)) (fun hc_19 => ?_) (fun hc_19 => ?_)
  rotate_left
  · refine pu16 <| pu4 <| nilO <| thenK_n <| seqE <| seqE <| regionE <| pu2 <| nilO <| thenK_n <| cTt <| seqE <| regionE <| pu1 <| nilO <| thenK_n <| retE <| thenK_r <| retT [.int .i64 2] <| ?_
    have hS_41 := (hS_17.dropAt 0 rfl)
    exact ⟨congrArg (fun z => Ending.returned (.int .i64 z)) (by unfold validCfg; rw [if_neg (by omega)]), hS_41⟩
  refine pu1 <| gY ?_
  refine sL hS_17 0 4 (.int .i64 c.deque) (Tryz.isAgg3 _) ?_
  refine gY ?_
  refine cR Tryz.call51 (ad_within c.deque 1 256 (Sat.flat hS_17)) ?_
  intro w_20 hS_21
  refine pu2 ?_
  refine sD 27 ((1 ≤ c.deque ∧ c.deque ≤ 256)) (fun hc_23 => ?_) (fun hc_23 => ?_)
  rotate_left
  · refine pu15 <| nilO <| thenK_n <| seqE <| seqE <| regionE <| pu2 <| nilO <| thenK_n <| cTt <| seqE <| regionE <| pu1 <| nilO <| thenK_n <| retE <| thenK_r <| retT [.int .i64 2] <| ?_
    have hS_40 := (hS_21.dropAt 0 rfl)
    exact ⟨congrArg (fun z => Ending.returned (.int .i64 z)) (by unfold validCfg; rw [if_neg (by omega)]), hS_40⟩
  refine pu1 <| gY ?_
  refine sL hS_21 0 5 (.int .i64 c.tasks) (Tryz.isAgg3 _) ?_
  refine gY ?_
  refine cR Tryz.call51 (ad_within c.tasks 1 4096 (Sat.flat hS_21)) ?_
  intro w_24 hS_25
  refine pu2 ?_
  refine sD 32 ((1 ≤ c.tasks ∧ c.tasks ≤ 4096)) (fun hc_27 => ?_) (fun hc_27 => ?_)
  rotate_left
  · refine pu10 <| nilO <| thenK_n <| seqE <| seqE <| regionE <| pu2 <| nilO <| thenK_n <| cTt <| seqE <| regionE <| pu1 <| nilO <| thenK_n <| retE <| thenK_r <| retT [.int .i64 2] <| ?_
    have hS_39 := (hS_25.dropAt 0 rfl)
    exact ⟨congrArg (fun z => Ending.returned (.int .i64 z)) (by unfold validCfg; rw [if_neg (by omega)]), hS_39⟩
  refine pu1 <| gY ?_
  refine sL hS_25 0 6 (.int .i64 c.cells) (Tryz.isAgg3 _) ?_
  refine gY ?_
  refine cR Tryz.call51 (ad_within c.cells 1 1048576 (Sat.flat hS_25)) ?_
  intro w_28 hS_29
  refine pu2 ?_
  refine sD 37 ((1 ≤ c.cells ∧ c.cells ≤ 1048576)) (fun hc_31 => ?_) (fun hc_31 => ?_)
  rotate_left
  · refine pu5 <| nilO <| thenK_n <| seqE <| seqE <| regionE <| pu2 <| nilO <| thenK_n <| cTt <| seqE <| regionE <| pu1 <| nilO <| thenK_n <| retE <| thenK_r <| retT [.int .i64 2] <| ?_
    have hS_38 := (hS_29.dropAt 0 rfl)
    exact ⟨congrArg (fun z => Ending.returned (.int .i64 z)) (by unfold validCfg; rw [if_neg (by omega)]), hS_38⟩
  refine pu1 <| gY ?_
  refine sL hS_29 0 7 (.int .i64 c.jobs) (Tryz.isAgg3 _) ?_
  refine gY ?_
  refine cR Tryz.call51 (ad_within c.jobs 1 64 (Sat.flat hS_29)) ?_
  intro w_32 hS_33
  refine pu2 <| nilO <| thenK_n <| seqE <| seqE <| regionE <| pu2 <| nilO <| thenK_n <| ?_
  refine cDn ((1 ≤ c.jobs ∧ c.jobs ≤ 64)) (fun hc_35 => ?_) (fun hc_35 => ?_)
  rotate_left
  · refine seqE <| regionE <| pu1 <| nilO <| thenK_n <| retE <| thenK_r <| retT [.int .i64 2] <| ?_
    have hS_37 := (hS_33.dropAt 0 rfl)
    exact ⟨congrArg (fun z => Ending.returned (.int .i64 z)) (by unfold validCfg; rw [if_neg (by omega)]), hS_37⟩
  refine skipE <| thenK_n <| seqE <| regionE <| pu1 <| nilO <| thenK_n <| retE <| retT [.int .i64 0] <| ?_
  have hS_36 := (hS_33.dropAt 0 rfl)
  exact ⟨congrArg (fun z => Ending.returned (.int .i64 z)) (by unfold validCfg; rw [if_pos (by omega)]), hS_36⟩
theorem eqvn43 (w : World) (a0 a1 a2 a3 a4 a5 a6 b0 b1 b2 b3 b4 b5 b6 : Int) : ∀ x y, ((do eqGuard .neq 43 x y (.agg #[.int .i64 a0, .int .i64 a1, .int .i64 a2, .int .i64 a3, .int .i64 a4, .int .i64 a5, .int .i64 a6]) (.agg #[.int .i64 b0, .int .i64 b1, .int .i64 b2, .int .i64 b3, .int .i64 b4, .int .i64 b5, .int .i64 b6]); binOp .neq 43 (.agg #[.int .i64 a0, .int .i64 a1, .int .i64 a2, .int .i64 a3, .int .i64 a4, .int .i64 a5, .int .i64 a6]) (.agg #[.int .i64 b0, .int .i64 b1, .int .i64 b2, .int .i64 b3, .int .i64 b4, .int .i64 b5, .int .i64 b6])) : Sem Value).run Tryz.prog w = .ok (.bool (!((a0 == b0) && (a1 == b1) && (a2 == b2) && (a3 == b3) && (a4 == b4) && (a5 == b5) && (a6 == b6)))) w := by
  intro x y
  simp [go_sem, run_eqGuard_agg, run_neq_struct, run_equalIn_agg]
  by_cases h0 : a0 = b0 <;> by_cases h1 : a1 = b1 <;> by_cases h2 : a2 = b2 <;> by_cases h3 : a3 = b3 <;> by_cases h4 : a4 = b4 <;> by_cases h5 : a5 = b5 <;> by_cases h6 : a6 = b6 <;> simp [*]
theorem eqve43 (w : World) (a0 a1 a2 a3 a4 a5 a6 b0 b1 b2 b3 b4 b5 b6 : Int) : ∀ x y, ((do eqGuard .eql 43 x y (.agg #[.int .i64 a0, .int .i64 a1, .int .i64 a2, .int .i64 a3, .int .i64 a4, .int .i64 a5, .int .i64 a6]) (.agg #[.int .i64 b0, .int .i64 b1, .int .i64 b2, .int .i64 b3, .int .i64 b4, .int .i64 b5, .int .i64 b6]); binOp .eql 43 (.agg #[.int .i64 a0, .int .i64 a1, .int .i64 a2, .int .i64 a3, .int .i64 a4, .int .i64 a5, .int .i64 a6]) (.agg #[.int .i64 b0, .int .i64 b1, .int .i64 b2, .int .i64 b3, .int .i64 b4, .int .i64 b5, .int .i64 b6])) : Sem Value).run Tryz.prog w = .ok (.bool ((a0 == b0) && (a1 == b1) && (a2 == b2) && (a3 == b3) && (a4 == b4) && (a5 == b5) && (a6 == b6))) w := by
  intro x y
  simp [go_sem, run_eqGuard_agg, run_eql_struct, run_equalIn_agg]
  by_cases h0 : a0 = b0 <;> by_cases h1 : a1 = b1 <;> by_cases h2 : a2 = b2 <;> by_cases h3 : a3 = b3 <;> by_cases h4 : a4 = b4 <;> by_cases h5 : a5 = b5 <;> by_cases h6 : a6 = b6 <;> simp [*]
theorem au_named (e : Evt) (hS : Sat W w (H :: F)) :
    Ro Tryz.prog 52 #[.agg (encEvt e).toArray] (.agg #[.int .i64 ((namedE e).kind), .int .i64 ((namedE e).worker), .int .i64 ((namedE e).from_), .int .i64 ((namedE e).job), .int .i64 ((namedE e).refJob), .int .i64 ((namedE e).refTask), .int .i64 ((namedE e).err)]) W w (H :: F) := by
  refine callsA 62 Tryz.func52 rfl ?_
  refine seqE <| regionE ?_
  refine sBox hS (.agg (encEvt e).toArray) (encEvt e).toArray ?_
  intro b_1 w_2 hS_3
  refine sAlloc hS_3 Tryz.zeroValue43 ?_
  intro b_4 w_5 hS_6
  refine nilO <| thenK_n <| seqE <| regionE <| pu1 ?_
  refine sL hS_6 1 0 (.int .i64 e.kind) (Tryz.isAgg3 _) ?_
  refine pu1 ?_
  refine sAlloc hS_6 Tryz.zeroValue43 ?_
  intro b_7 w_8 hS_9
  refine sT hS_9 0 0 (.agg #[.int .i64 e.kind, .int .i64 0, .int .i64 0, .int .i64 0, .int .i64 0, .int .i64 0, .int .i64 0]) [.int .i64 e.kind, .int .i64 0, .int .i64 0, .int .i64 0, .int .i64 0, .int .i64 0, .int .i64 0] #[.int .i64 e.kind, .int .i64 0, .int .i64 0, .int .i64 0, .int .i64 0, .int .i64 0, .int .i64 0] Tryz.sizeOf43 ?_
  intro w_10 hS_11
  refine nilO <| thenK_n <| seqE <| seqE <| regionE <| pu1 ?_
  refine sL hS_11 2 0 (.int .i64 e.kind) (Tryz.isAgg3 _) ?_
  refine nilO <| thenK_n <| blockE <| seqE <| regionE <| pu2 <| nilO <| thenK_n <| ?_
  refine cE e.kind 1 (fun hc_12 => ?_) (fun hc_12 => ?_)
  · refine drawE [5, 7] [(1, ⟨b_1, 3, none⟩, .int .i64 e.job), (3, ⟨b_1, 6, none⟩, .int .i64 e.err)] [(true, [0, 2]), (true, [1]), (true, [4]), (true, [3]), (false, [5]), (true, [6]), (false, [7])] rfl (by kernel_rfl) ⟨.inr (hS_11.cell 2 rfl rfl), .inr (hS_11.cell 2 rfl rfl), trivial⟩ ?_
    have hS_13 := hS_11.drew
    refine wU [0, 2] ?_
    refine wLd (.int .i64 e.job) 0 Tryz.isAgg3 ?_
    refine wU [4] ?_
    refine wLd (.int .i64 e.err) 1 Tryz.isAgg41 ?_
    refine wO rfl ?_
    refine tW hS_13 0 3 (.int .i64 e.job) Tryz.sizeOf3 ?_
    intro w_14 hS_15
    refine nilO ⟨⟨.inl (by kernel_rfl), .inr (hS_15.cell 2 rfl rfl), trivial⟩, ?_⟩
    refine wU [6] ?_
    refine wO rfl ?_
    refine tW hS_15 0 6 (.int .i64 e.err) Tryz.sizeOf41 ?_
    intro w_16 hS_17
    refine nilO ⟨⟨.inl (by kernel_rfl), .inl (by kernel_rfl), trivial⟩, ?_⟩
    refine wN ?_
    refine blockK_n <| thenK_n <| seqE <| regionE ?_
    refine lA hS_17 0 0 7 (Tryz.isAgg43 _) (Tryz.sizeOf43 _) ?_
    refine sT hS_17 1 0 (.agg #[.int .i64 e.kind, .int .i64 0, .int .i64 0, .int .i64 e.job, .int .i64 0, .int .i64 0, .int .i64 e.err]) [.int .i64 e.kind, .int .i64 0, .int .i64 0, .int .i64 e.job, .int .i64 0, .int .i64 0, .int .i64 e.err] #[.int .i64 e.kind, .int .i64 0, .int .i64 0, .int .i64 e.job, .int .i64 0, .int .i64 0, .int .i64 e.err] Tryz.sizeOf43 ?_
    intro w_18 hS_19
    refine nilO <| thenK_n <| retE <| retN (vs := [.agg #[.int .i64 e.kind, .int .i64 0, .int .i64 0, .int .i64 e.job, .int .i64 0, .int .i64 0, .int .i64 e.err]]) rfl (.cons (.cell _ _ _ _ (by kernel_rfl) (lvA hS_19 1 0 [.int .i64 e.kind, .int .i64 0, .int .i64 0, .int .i64 e.job, .int .i64 0, .int .i64 0, .int .i64 e.err] (Tryz.isAgg43 _) (Tryz.sizeOf43 _) rfl rfl rfl)) .nil) <| ?_
    have hS_20 := (((hS_19.dropAt 0 rfl).dropAt 0 rfl).dropAt 0 rfl)
    have he : namedE e = (⟨e.kind, 0, 0, e.job, 0, 0, e.err⟩ : Evt) := by unfold namedE; first | (rw [if_pos (by omega)]) | (rw [if_neg (by omega), if_pos (by omega)]) | (rw [if_neg (by omega), if_neg (by omega), if_pos (by omega)]) | (rw [if_neg (by omega), if_neg (by omega), if_neg (by omega), if_pos (by omega)]) | (rw [if_neg (by omega), if_neg (by omega), if_neg (by omega), if_neg (by omega), if_pos (by omega)]) | (rw [if_neg (by omega), if_neg (by omega), if_neg (by omega), if_neg (by omega), if_neg (by omega), if_pos (by omega)]) | (rw [if_neg (by omega), if_neg (by omega), if_neg (by omega), if_neg (by omega), if_neg (by omega), if_neg (by omega)])
    exact ⟨by rw [he]; rfl, hS_20⟩
  refine seqE <| regionE <| pu2 <| nilO <| thenK_n <| ?_
  refine cE e.kind 2 (fun hc_21 => ?_) (fun hc_21 => ?_)
  · refine regionE <| pu1 ?_
    refine sL hS_11 2 3 (.int .i64 e.job) (Tryz.isAgg3 _) ?_
    refine pu1 ?_
    refine tW hS_11 0 3 (.int .i64 e.job) Tryz.sizeOf3 ?_
    intro w_22 hS_23
    refine nilO <| blockK_n <| thenK_n <| seqE <| regionE ?_
    refine lA hS_23 0 0 7 (Tryz.isAgg43 _) (Tryz.sizeOf43 _) ?_
    refine sT hS_23 1 0 (.agg #[.int .i64 e.kind, .int .i64 0, .int .i64 0, .int .i64 e.job, .int .i64 0, .int .i64 0, .int .i64 0]) [.int .i64 e.kind, .int .i64 0, .int .i64 0, .int .i64 e.job, .int .i64 0, .int .i64 0, .int .i64 0] #[.int .i64 e.kind, .int .i64 0, .int .i64 0, .int .i64 e.job, .int .i64 0, .int .i64 0, .int .i64 0] Tryz.sizeOf43 ?_
    intro w_24 hS_25
    refine nilO <| thenK_n <| retE <| retN (vs := [.agg #[.int .i64 e.kind, .int .i64 0, .int .i64 0, .int .i64 e.job, .int .i64 0, .int .i64 0, .int .i64 0]]) rfl (.cons (.cell _ _ _ _ (by kernel_rfl) (lvA hS_25 1 0 [.int .i64 e.kind, .int .i64 0, .int .i64 0, .int .i64 e.job, .int .i64 0, .int .i64 0, .int .i64 0] (Tryz.isAgg43 _) (Tryz.sizeOf43 _) rfl rfl rfl)) .nil) <| ?_
    have hS_26 := (((hS_25.dropAt 0 rfl).dropAt 0 rfl).dropAt 0 rfl)
    have he : namedE e = (⟨e.kind, 0, 0, e.job, 0, 0, 0⟩ : Evt) := by unfold namedE; first | (rw [if_pos (by omega)]) | (rw [if_neg (by omega), if_pos (by omega)]) | (rw [if_neg (by omega), if_neg (by omega), if_pos (by omega)]) | (rw [if_neg (by omega), if_neg (by omega), if_neg (by omega), if_pos (by omega)]) | (rw [if_neg (by omega), if_neg (by omega), if_neg (by omega), if_neg (by omega), if_pos (by omega)]) | (rw [if_neg (by omega), if_neg (by omega), if_neg (by omega), if_neg (by omega), if_neg (by omega), if_pos (by omega)]) | (rw [if_neg (by omega), if_neg (by omega), if_neg (by omega), if_neg (by omega), if_neg (by omega), if_neg (by omega)])
    exact ⟨by rw [he]; rfl, hS_26⟩
  refine seqE <| seqE <| regionE <| pu2 <| nilO <| thenK_n <| ?_
  refine cE e.kind 3 (fun hc_27 => ?_) (fun hc_27 => ?_)
  · refine skipE <| thenK_n <| ?_
    refine cT _ (beq_iff_eq.2 hc_27) ?_
    refine drawE [5, 7] [(1, ⟨b_1, 1, none⟩, .int .i64 e.worker), (3, ⟨b_1, 4, none⟩, .int .i64 e.refJob), (3, ⟨b_1, 5, none⟩, .int .i64 e.refTask)] [(true, [0, 2]), (true, [1]), (true, [4]), (true, [3]), (false, [5]), (true, [6]), (false, [7])] rfl (by kernel_rfl) ⟨.inr (hS_11.cell 2 rfl rfl), .inr (hS_11.cell 2 rfl rfl), .inr (hS_11.cell 2 rfl rfl), trivial⟩ ?_
    have hS_28 := hS_11.drew
    refine wU [0, 2] ?_
    refine wLd (.int .i64 e.worker) 0 Tryz.isAgg3 ?_
    refine wU [4] ?_
    refine wY (.agg #[.int .i64 e.refJob, .int .i64 e.refTask]) rfl (fun w hF => Y_loadF rfl (Tryz.isAgg40 w) (Tryz.sizeOf40 w) (by kernel_rfl) rfl ⟨hF 1 _ _ rfl, hF 2 _ _ rfl, trivial⟩) ?_
    refine wO rfl ?_
    refine tW hS_28 0 1 (.int .i64 e.worker) Tryz.sizeOf3 ?_
    intro w_29 hS_30
    refine nilO ⟨⟨.inl (by kernel_rfl), .inr (hS_30.cell 2 rfl rfl), .inr (hS_30.cell 2 rfl rfl), trivial⟩, ?_⟩
    refine wU [6] ?_
    refine wO rfl ?_
    refine tW hS_30 0 4 (.agg #[.int .i64 e.refJob, .int .i64 e.refTask]) Tryz.sizeOf40 ?_
    intro w_31 hS_32
    refine nilO ⟨⟨.inl (by kernel_rfl), .inl (by kernel_rfl), .inl (by kernel_rfl), trivial⟩, ?_⟩
    refine wN ?_
    refine blockK_n <| thenK_n <| seqE <| regionE ?_
    refine lA hS_32 0 0 7 (Tryz.isAgg43 _) (Tryz.sizeOf43 _) ?_
    refine sT hS_32 1 0 (.agg #[.int .i64 e.kind, .int .i64 e.worker, .int .i64 0, .int .i64 0, .int .i64 e.refJob, .int .i64 e.refTask, .int .i64 0]) [.int .i64 e.kind, .int .i64 e.worker, .int .i64 0, .int .i64 0, .int .i64 e.refJob, .int .i64 e.refTask, .int .i64 0] #[.int .i64 e.kind, .int .i64 e.worker, .int .i64 0, .int .i64 0, .int .i64 e.refJob, .int .i64 e.refTask, .int .i64 0] Tryz.sizeOf43 ?_
    intro w_33 hS_34
    refine nilO <| thenK_n <| retE <| retN (vs := [.agg #[.int .i64 e.kind, .int .i64 e.worker, .int .i64 0, .int .i64 0, .int .i64 e.refJob, .int .i64 e.refTask, .int .i64 0]]) rfl (.cons (.cell _ _ _ _ (by kernel_rfl) (lvA hS_34 1 0 [.int .i64 e.kind, .int .i64 e.worker, .int .i64 0, .int .i64 0, .int .i64 e.refJob, .int .i64 e.refTask, .int .i64 0] (Tryz.isAgg43 _) (Tryz.sizeOf43 _) rfl rfl rfl)) .nil) <| ?_
    have hS_35 := (((hS_34.dropAt 0 rfl).dropAt 0 rfl).dropAt 0 rfl)
    have he : namedE e = (⟨e.kind, e.worker, 0, 0, e.refJob, e.refTask, 0⟩ : Evt) := by unfold namedE; first | (rw [if_pos (by omega)]) | (rw [if_neg (by omega), if_pos (by omega)]) | (rw [if_neg (by omega), if_neg (by omega), if_pos (by omega)]) | (rw [if_neg (by omega), if_neg (by omega), if_neg (by omega), if_pos (by omega)]) | (rw [if_neg (by omega), if_neg (by omega), if_neg (by omega), if_neg (by omega), if_pos (by omega)]) | (rw [if_neg (by omega), if_neg (by omega), if_neg (by omega), if_neg (by omega), if_neg (by omega), if_pos (by omega)]) | (rw [if_neg (by omega), if_neg (by omega), if_neg (by omega), if_neg (by omega), if_neg (by omega), if_neg (by omega)])
    exact ⟨by rw [he]; rfl, hS_35⟩
  refine seqE <| regionE <| pu2 <| nilO <| thenK_n <| ?_
  refine cE e.kind 4 (fun hc_36 => ?_) (fun hc_36 => ?_)
  · refine skipE <| thenK_n <| ?_
    refine cT _ (beq_iff_eq.2 hc_36) ?_
    refine drawE [5, 7] [(1, ⟨b_1, 1, none⟩, .int .i64 e.worker), (3, ⟨b_1, 4, none⟩, .int .i64 e.refJob), (3, ⟨b_1, 5, none⟩, .int .i64 e.refTask)] [(true, [0, 2]), (true, [1]), (true, [4]), (true, [3]), (false, [5]), (true, [6]), (false, [7])] rfl (by kernel_rfl) ⟨.inr (hS_11.cell 2 rfl rfl), .inr (hS_11.cell 2 rfl rfl), .inr (hS_11.cell 2 rfl rfl), trivial⟩ ?_
    have hS_37 := hS_11.drew
    refine wU [0, 2] ?_
    refine wLd (.int .i64 e.worker) 0 Tryz.isAgg3 ?_
    refine wU [4] ?_
    refine wY (.agg #[.int .i64 e.refJob, .int .i64 e.refTask]) rfl (fun w hF => Y_loadF rfl (Tryz.isAgg40 w) (Tryz.sizeOf40 w) (by kernel_rfl) rfl ⟨hF 1 _ _ rfl, hF 2 _ _ rfl, trivial⟩) ?_
    refine wO rfl ?_
    refine tW hS_37 0 1 (.int .i64 e.worker) Tryz.sizeOf3 ?_
    intro w_38 hS_39
    refine nilO ⟨⟨.inl (by kernel_rfl), .inr (hS_39.cell 2 rfl rfl), .inr (hS_39.cell 2 rfl rfl), trivial⟩, ?_⟩
    refine wU [6] ?_
    refine wO rfl ?_
    refine tW hS_39 0 4 (.agg #[.int .i64 e.refJob, .int .i64 e.refTask]) Tryz.sizeOf40 ?_
    intro w_40 hS_41
    refine nilO ⟨⟨.inl (by kernel_rfl), .inl (by kernel_rfl), .inl (by kernel_rfl), trivial⟩, ?_⟩
    refine wN ?_
    refine blockK_n <| thenK_n <| seqE <| regionE ?_
    refine lA hS_41 0 0 7 (Tryz.isAgg43 _) (Tryz.sizeOf43 _) ?_
    refine sT hS_41 1 0 (.agg #[.int .i64 e.kind, .int .i64 e.worker, .int .i64 0, .int .i64 0, .int .i64 e.refJob, .int .i64 e.refTask, .int .i64 0]) [.int .i64 e.kind, .int .i64 e.worker, .int .i64 0, .int .i64 0, .int .i64 e.refJob, .int .i64 e.refTask, .int .i64 0] #[.int .i64 e.kind, .int .i64 e.worker, .int .i64 0, .int .i64 0, .int .i64 e.refJob, .int .i64 e.refTask, .int .i64 0] Tryz.sizeOf43 ?_
    intro w_42 hS_43
    refine nilO <| thenK_n <| retE <| retN (vs := [.agg #[.int .i64 e.kind, .int .i64 e.worker, .int .i64 0, .int .i64 0, .int .i64 e.refJob, .int .i64 e.refTask, .int .i64 0]]) rfl (.cons (.cell _ _ _ _ (by kernel_rfl) (lvA hS_43 1 0 [.int .i64 e.kind, .int .i64 e.worker, .int .i64 0, .int .i64 0, .int .i64 e.refJob, .int .i64 e.refTask, .int .i64 0] (Tryz.isAgg43 _) (Tryz.sizeOf43 _) rfl rfl rfl)) .nil) <| ?_
    have hS_44 := (((hS_43.dropAt 0 rfl).dropAt 0 rfl).dropAt 0 rfl)
    have he : namedE e = (⟨e.kind, e.worker, 0, 0, e.refJob, e.refTask, 0⟩ : Evt) := by unfold namedE; first | (rw [if_pos (by omega)]) | (rw [if_neg (by omega), if_pos (by omega)]) | (rw [if_neg (by omega), if_neg (by omega), if_pos (by omega)]) | (rw [if_neg (by omega), if_neg (by omega), if_neg (by omega), if_pos (by omega)]) | (rw [if_neg (by omega), if_neg (by omega), if_neg (by omega), if_neg (by omega), if_pos (by omega)]) | (rw [if_neg (by omega), if_neg (by omega), if_neg (by omega), if_neg (by omega), if_neg (by omega), if_pos (by omega)]) | (rw [if_neg (by omega), if_neg (by omega), if_neg (by omega), if_neg (by omega), if_neg (by omega), if_neg (by omega)])
    exact ⟨by rw [he]; rfl, hS_44⟩
  refine seqE <| regionE <| pu2 <| nilO <| thenK_n <| ?_
  refine cE e.kind 8 (fun hc_45 => ?_) (fun hc_45 => ?_)
  · refine skipE <| thenK_n <| ?_
    refine cT _ (beq_iff_eq.2 hc_45) ?_
    refine drawE [5, 7] [(1, ⟨b_1, 1, none⟩, .int .i64 e.worker), (3, ⟨b_1, 4, none⟩, .int .i64 e.refJob), (3, ⟨b_1, 5, none⟩, .int .i64 e.refTask)] [(true, [0, 2]), (true, [1]), (true, [4]), (true, [3]), (false, [5]), (true, [6]), (false, [7])] rfl (by kernel_rfl) ⟨.inr (hS_11.cell 2 rfl rfl), .inr (hS_11.cell 2 rfl rfl), .inr (hS_11.cell 2 rfl rfl), trivial⟩ ?_
    have hS_46 := hS_11.drew
    refine wU [0, 2] ?_
    refine wLd (.int .i64 e.worker) 0 Tryz.isAgg3 ?_
    refine wU [4] ?_
    refine wY (.agg #[.int .i64 e.refJob, .int .i64 e.refTask]) rfl (fun w hF => Y_loadF rfl (Tryz.isAgg40 w) (Tryz.sizeOf40 w) (by kernel_rfl) rfl ⟨hF 1 _ _ rfl, hF 2 _ _ rfl, trivial⟩) ?_
    refine wO rfl ?_
    refine tW hS_46 0 1 (.int .i64 e.worker) Tryz.sizeOf3 ?_
    intro w_47 hS_48
    refine nilO ⟨⟨.inl (by kernel_rfl), .inr (hS_48.cell 2 rfl rfl), .inr (hS_48.cell 2 rfl rfl), trivial⟩, ?_⟩
    refine wU [6] ?_
    refine wO rfl ?_
    refine tW hS_48 0 4 (.agg #[.int .i64 e.refJob, .int .i64 e.refTask]) Tryz.sizeOf40 ?_
    intro w_49 hS_50
    refine nilO ⟨⟨.inl (by kernel_rfl), .inl (by kernel_rfl), .inl (by kernel_rfl), trivial⟩, ?_⟩
    refine wN ?_
    refine blockK_n <| thenK_n <| seqE <| regionE ?_
    refine lA hS_50 0 0 7 (Tryz.isAgg43 _) (Tryz.sizeOf43 _) ?_
    refine sT hS_50 1 0 (.agg #[.int .i64 e.kind, .int .i64 e.worker, .int .i64 0, .int .i64 0, .int .i64 e.refJob, .int .i64 e.refTask, .int .i64 0]) [.int .i64 e.kind, .int .i64 e.worker, .int .i64 0, .int .i64 0, .int .i64 e.refJob, .int .i64 e.refTask, .int .i64 0] #[.int .i64 e.kind, .int .i64 e.worker, .int .i64 0, .int .i64 0, .int .i64 e.refJob, .int .i64 e.refTask, .int .i64 0] Tryz.sizeOf43 ?_
    intro w_51 hS_52
    refine nilO <| thenK_n <| retE <| retN (vs := [.agg #[.int .i64 e.kind, .int .i64 e.worker, .int .i64 0, .int .i64 0, .int .i64 e.refJob, .int .i64 e.refTask, .int .i64 0]]) rfl (.cons (.cell _ _ _ _ (by kernel_rfl) (lvA hS_52 1 0 [.int .i64 e.kind, .int .i64 e.worker, .int .i64 0, .int .i64 0, .int .i64 e.refJob, .int .i64 e.refTask, .int .i64 0] (Tryz.isAgg43 _) (Tryz.sizeOf43 _) rfl rfl rfl)) .nil) <| ?_
    have hS_53 := (((hS_52.dropAt 0 rfl).dropAt 0 rfl).dropAt 0 rfl)
    have he : namedE e = (⟨e.kind, e.worker, 0, 0, e.refJob, e.refTask, 0⟩ : Evt) := by unfold namedE; first | (rw [if_pos (by omega)]) | (rw [if_neg (by omega), if_pos (by omega)]) | (rw [if_neg (by omega), if_neg (by omega), if_pos (by omega)]) | (rw [if_neg (by omega), if_neg (by omega), if_neg (by omega), if_pos (by omega)]) | (rw [if_neg (by omega), if_neg (by omega), if_neg (by omega), if_neg (by omega), if_pos (by omega)]) | (rw [if_neg (by omega), if_neg (by omega), if_neg (by omega), if_neg (by omega), if_neg (by omega), if_pos (by omega)]) | (rw [if_neg (by omega), if_neg (by omega), if_neg (by omega), if_neg (by omega), if_neg (by omega), if_neg (by omega)])
    exact ⟨by rw [he]; rfl, hS_53⟩
  refine seqE <| regionE <| pu2 <| nilO <| thenK_n <| ?_
  refine cE e.kind 9 (fun hc_54 => ?_) (fun hc_54 => ?_)
  · refine skipE <| thenK_n <| ?_
    refine cT _ (beq_iff_eq.2 hc_54) ?_
    refine drawE [5, 7] [(1, ⟨b_1, 1, none⟩, .int .i64 e.worker), (3, ⟨b_1, 4, none⟩, .int .i64 e.refJob), (3, ⟨b_1, 5, none⟩, .int .i64 e.refTask)] [(true, [0, 2]), (true, [1]), (true, [4]), (true, [3]), (false, [5]), (true, [6]), (false, [7])] rfl (by kernel_rfl) ⟨.inr (hS_11.cell 2 rfl rfl), .inr (hS_11.cell 2 rfl rfl), .inr (hS_11.cell 2 rfl rfl), trivial⟩ ?_
    have hS_55 := hS_11.drew
    refine wU [0, 2] ?_
    refine wLd (.int .i64 e.worker) 0 Tryz.isAgg3 ?_
    refine wU [4] ?_
    refine wY (.agg #[.int .i64 e.refJob, .int .i64 e.refTask]) rfl (fun w hF => Y_loadF rfl (Tryz.isAgg40 w) (Tryz.sizeOf40 w) (by kernel_rfl) rfl ⟨hF 1 _ _ rfl, hF 2 _ _ rfl, trivial⟩) ?_
    refine wO rfl ?_
    refine tW hS_55 0 1 (.int .i64 e.worker) Tryz.sizeOf3 ?_
    intro w_56 hS_57
    refine nilO ⟨⟨.inl (by kernel_rfl), .inr (hS_57.cell 2 rfl rfl), .inr (hS_57.cell 2 rfl rfl), trivial⟩, ?_⟩
    refine wU [6] ?_
    refine wO rfl ?_
    refine tW hS_57 0 4 (.agg #[.int .i64 e.refJob, .int .i64 e.refTask]) Tryz.sizeOf40 ?_
    intro w_58 hS_59
    refine nilO ⟨⟨.inl (by kernel_rfl), .inl (by kernel_rfl), .inl (by kernel_rfl), trivial⟩, ?_⟩
    refine wN ?_
    refine blockK_n <| thenK_n <| seqE <| regionE ?_
    refine lA hS_59 0 0 7 (Tryz.isAgg43 _) (Tryz.sizeOf43 _) ?_
    refine sT hS_59 1 0 (.agg #[.int .i64 e.kind, .int .i64 e.worker, .int .i64 0, .int .i64 0, .int .i64 e.refJob, .int .i64 e.refTask, .int .i64 0]) [.int .i64 e.kind, .int .i64 e.worker, .int .i64 0, .int .i64 0, .int .i64 e.refJob, .int .i64 e.refTask, .int .i64 0] #[.int .i64 e.kind, .int .i64 e.worker, .int .i64 0, .int .i64 0, .int .i64 e.refJob, .int .i64 e.refTask, .int .i64 0] Tryz.sizeOf43 ?_
    intro w_60 hS_61
    refine nilO <| thenK_n <| retE <| retN (vs := [.agg #[.int .i64 e.kind, .int .i64 e.worker, .int .i64 0, .int .i64 0, .int .i64 e.refJob, .int .i64 e.refTask, .int .i64 0]]) rfl (.cons (.cell _ _ _ _ (by kernel_rfl) (lvA hS_61 1 0 [.int .i64 e.kind, .int .i64 e.worker, .int .i64 0, .int .i64 0, .int .i64 e.refJob, .int .i64 e.refTask, .int .i64 0] (Tryz.isAgg43 _) (Tryz.sizeOf43 _) rfl rfl rfl)) .nil) <| ?_
    have hS_62 := (((hS_61.dropAt 0 rfl).dropAt 0 rfl).dropAt 0 rfl)
    have he : namedE e = (⟨e.kind, e.worker, 0, 0, e.refJob, e.refTask, 0⟩ : Evt) := by unfold namedE; first | (rw [if_pos (by omega)]) | (rw [if_neg (by omega), if_pos (by omega)]) | (rw [if_neg (by omega), if_neg (by omega), if_pos (by omega)]) | (rw [if_neg (by omega), if_neg (by omega), if_neg (by omega), if_pos (by omega)]) | (rw [if_neg (by omega), if_neg (by omega), if_neg (by omega), if_neg (by omega), if_pos (by omega)]) | (rw [if_neg (by omega), if_neg (by omega), if_neg (by omega), if_neg (by omega), if_neg (by omega), if_pos (by omega)]) | (rw [if_neg (by omega), if_neg (by omega), if_neg (by omega), if_neg (by omega), if_neg (by omega), if_neg (by omega)])
    exact ⟨by rw [he]; rfl, hS_62⟩
  refine regionE <| pu2 <| nilO <| thenK_n <| ?_
  refine cE e.kind 10 (fun hc_63 => ?_) (fun hc_63 => ?_)
  · refine drawE [5, 7] [(1, ⟨b_1, 1, none⟩, .int .i64 e.worker), (3, ⟨b_1, 4, none⟩, .int .i64 e.refJob), (3, ⟨b_1, 5, none⟩, .int .i64 e.refTask)] [(true, [0, 2]), (true, [1]), (true, [4]), (true, [3]), (false, [5]), (true, [6]), (false, [7])] rfl (by kernel_rfl) ⟨.inr (hS_11.cell 2 rfl rfl), .inr (hS_11.cell 2 rfl rfl), .inr (hS_11.cell 2 rfl rfl), trivial⟩ ?_
    have hS_64 := hS_11.drew
    refine wU [0, 2] ?_
    refine wLd (.int .i64 e.worker) 0 Tryz.isAgg3 ?_
    refine wU [4] ?_
    refine wY (.agg #[.int .i64 e.refJob, .int .i64 e.refTask]) rfl (fun w hF => Y_loadF rfl (Tryz.isAgg40 w) (Tryz.sizeOf40 w) (by kernel_rfl) rfl ⟨hF 1 _ _ rfl, hF 2 _ _ rfl, trivial⟩) ?_
    refine wO rfl ?_
    refine tW hS_64 0 1 (.int .i64 e.worker) Tryz.sizeOf3 ?_
    intro w_65 hS_66
    refine nilO ⟨⟨.inl (by kernel_rfl), .inr (hS_66.cell 2 rfl rfl), .inr (hS_66.cell 2 rfl rfl), trivial⟩, ?_⟩
    refine wU [6] ?_
    refine wO rfl ?_
    refine tW hS_66 0 4 (.agg #[.int .i64 e.refJob, .int .i64 e.refTask]) Tryz.sizeOf40 ?_
    intro w_67 hS_68
    refine nilO ⟨⟨.inl (by kernel_rfl), .inl (by kernel_rfl), .inl (by kernel_rfl), trivial⟩, ?_⟩
    refine wN ?_
    refine blockK_n <| thenK_n <| seqE <| regionE ?_
    refine lA hS_68 0 0 7 (Tryz.isAgg43 _) (Tryz.sizeOf43 _) ?_
    refine sT hS_68 1 0 (.agg #[.int .i64 e.kind, .int .i64 e.worker, .int .i64 0, .int .i64 0, .int .i64 e.refJob, .int .i64 e.refTask, .int .i64 0]) [.int .i64 e.kind, .int .i64 e.worker, .int .i64 0, .int .i64 0, .int .i64 e.refJob, .int .i64 e.refTask, .int .i64 0] #[.int .i64 e.kind, .int .i64 e.worker, .int .i64 0, .int .i64 0, .int .i64 e.refJob, .int .i64 e.refTask, .int .i64 0] Tryz.sizeOf43 ?_
    intro w_69 hS_70
    refine nilO <| thenK_n <| retE <| retN (vs := [.agg #[.int .i64 e.kind, .int .i64 e.worker, .int .i64 0, .int .i64 0, .int .i64 e.refJob, .int .i64 e.refTask, .int .i64 0]]) rfl (.cons (.cell _ _ _ _ (by kernel_rfl) (lvA hS_70 1 0 [.int .i64 e.kind, .int .i64 e.worker, .int .i64 0, .int .i64 0, .int .i64 e.refJob, .int .i64 e.refTask, .int .i64 0] (Tryz.isAgg43 _) (Tryz.sizeOf43 _) rfl rfl rfl)) .nil) <| ?_
    have hS_71 := (((hS_70.dropAt 0 rfl).dropAt 0 rfl).dropAt 0 rfl)
    have he : namedE e = (⟨e.kind, e.worker, 0, 0, e.refJob, e.refTask, 0⟩ : Evt) := by unfold namedE; first | (rw [if_pos (by omega)]) | (rw [if_neg (by omega), if_pos (by omega)]) | (rw [if_neg (by omega), if_neg (by omega), if_pos (by omega)]) | (rw [if_neg (by omega), if_neg (by omega), if_neg (by omega), if_pos (by omega)]) | (rw [if_neg (by omega), if_neg (by omega), if_neg (by omega), if_neg (by omega), if_pos (by omega)]) | (rw [if_neg (by omega), if_neg (by omega), if_neg (by omega), if_neg (by omega), if_neg (by omega), if_pos (by omega)]) | (rw [if_neg (by omega), if_neg (by omega), if_neg (by omega), if_neg (by omega), if_neg (by omega), if_neg (by omega)])
    exact ⟨by rw [he]; rfl, hS_71⟩
  refine seqE <| regionE <| pu2 <| nilO <| thenK_n <| ?_
  refine cE e.kind 5 (fun hc_72 => ?_) (fun hc_72 => ?_)
  · refine drawE [7, 9, 11] [(1, ⟨b_1, 1, none⟩, .int .i64 e.worker), (3, ⟨b_1, 2, none⟩, .int .i64 e.from_), (5, ⟨b_1, 4, none⟩, .int .i64 e.refJob), (5, ⟨b_1, 5, none⟩, .int .i64 e.refTask)] [(true, [0, 2, 4]), (true, [1]), (true, [6]), (true, [3]), (true, [5]), (false, [7]), (true, [8]), (false, [9]), (true, [10]), (false, [11])] rfl (by kernel_rfl) ⟨.inr (hS_11.cell 2 rfl rfl), .inr (hS_11.cell 2 rfl rfl), .inr (hS_11.cell 2 rfl rfl), .inr (hS_11.cell 2 rfl rfl), trivial⟩ ?_
    have hS_73 := hS_11.drew
    refine wU [0, 2, 4] ?_
    refine wLd (.int .i64 e.worker) 0 Tryz.isAgg3 ?_
    refine wU [6] ?_
    refine wLd (.int .i64 e.from_) 1 Tryz.isAgg3 ?_
    refine wY (.agg #[.int .i64 e.refJob, .int .i64 e.refTask]) rfl (fun w hF => Y_loadF rfl (Tryz.isAgg40 w) (Tryz.sizeOf40 w) (by kernel_rfl) rfl ⟨hF 2 _ _ rfl, hF 3 _ _ rfl, trivial⟩) ?_
    refine wO rfl ?_
    refine tW hS_73 0 1 (.int .i64 e.worker) Tryz.sizeOf3 ?_
    intro w_74 hS_75
    refine nilO ⟨⟨.inl (by kernel_rfl), .inr (hS_75.cell 2 rfl rfl), .inr (hS_75.cell 2 rfl rfl), .inr (hS_75.cell 2 rfl rfl), trivial⟩, ?_⟩
    refine wU [8] ?_
    refine wO rfl ?_
    refine tW hS_75 0 2 (.int .i64 e.from_) Tryz.sizeOf3 ?_
    intro w_76 hS_77
    refine nilO ⟨⟨.inl (by kernel_rfl), .inl (by kernel_rfl), .inr (hS_77.cell 2 rfl rfl), .inr (hS_77.cell 2 rfl rfl), trivial⟩, ?_⟩
    refine wU [10] ?_
    refine wO rfl ?_
    refine tW hS_77 0 4 (.agg #[.int .i64 e.refJob, .int .i64 e.refTask]) Tryz.sizeOf40 ?_
    intro w_78 hS_79
    refine nilO ⟨⟨.inl (by kernel_rfl), .inl (by kernel_rfl), .inl (by kernel_rfl), .inl (by kernel_rfl), trivial⟩, ?_⟩
    refine wN ?_
    refine blockK_n <| thenK_n <| seqE <| regionE ?_
    refine lA hS_79 0 0 7 (Tryz.isAgg43 _) (Tryz.sizeOf43 _) ?_
    refine sT hS_79 1 0 (.agg #[.int .i64 e.kind, .int .i64 e.worker, .int .i64 e.from_, .int .i64 0, .int .i64 e.refJob, .int .i64 e.refTask, .int .i64 0]) [.int .i64 e.kind, .int .i64 e.worker, .int .i64 e.from_, .int .i64 0, .int .i64 e.refJob, .int .i64 e.refTask, .int .i64 0] #[.int .i64 e.kind, .int .i64 e.worker, .int .i64 e.from_, .int .i64 0, .int .i64 e.refJob, .int .i64 e.refTask, .int .i64 0] Tryz.sizeOf43 ?_
    intro w_80 hS_81
    refine nilO <| thenK_n <| retE <| retN (vs := [.agg #[.int .i64 e.kind, .int .i64 e.worker, .int .i64 e.from_, .int .i64 0, .int .i64 e.refJob, .int .i64 e.refTask, .int .i64 0]]) rfl (.cons (.cell _ _ _ _ (by kernel_rfl) (lvA hS_81 1 0 [.int .i64 e.kind, .int .i64 e.worker, .int .i64 e.from_, .int .i64 0, .int .i64 e.refJob, .int .i64 e.refTask, .int .i64 0] (Tryz.isAgg43 _) (Tryz.sizeOf43 _) rfl rfl rfl)) .nil) <| ?_
    have hS_82 := (((hS_81.dropAt 0 rfl).dropAt 0 rfl).dropAt 0 rfl)
    have he : namedE e = (⟨e.kind, e.worker, e.from_, 0, e.refJob, e.refTask, 0⟩ : Evt) := by unfold namedE; first | (rw [if_pos (by omega)]) | (rw [if_neg (by omega), if_pos (by omega)]) | (rw [if_neg (by omega), if_neg (by omega), if_pos (by omega)]) | (rw [if_neg (by omega), if_neg (by omega), if_neg (by omega), if_pos (by omega)]) | (rw [if_neg (by omega), if_neg (by omega), if_neg (by omega), if_neg (by omega), if_pos (by omega)]) | (rw [if_neg (by omega), if_neg (by omega), if_neg (by omega), if_neg (by omega), if_neg (by omega), if_pos (by omega)]) | (rw [if_neg (by omega), if_neg (by omega), if_neg (by omega), if_neg (by omega), if_neg (by omega), if_neg (by omega)])
    exact ⟨by rw [he]; rfl, hS_82⟩
  refine seqE <| regionE <| pu2 <| nilO <| thenK_n <| ?_
  refine cE e.kind 12 (fun hc_83 => ?_) (fun hc_83 => ?_)
  · refine drawE [5, 7] [(1, ⟨b_1, 1, none⟩, .int .i64 e.worker), (3, ⟨b_1, 2, none⟩, .int .i64 e.from_)] [(true, [0, 2]), (true, [1]), (true, [4]), (true, [3]), (false, [5]), (true, [6]), (false, [7])] rfl (by kernel_rfl) ⟨.inr (hS_11.cell 2 rfl rfl), .inr (hS_11.cell 2 rfl rfl), trivial⟩ ?_
    have hS_84 := hS_11.drew
    refine wU [0, 2] ?_
    refine wLd (.int .i64 e.worker) 0 Tryz.isAgg3 ?_
    refine wU [4] ?_
    refine wLd (.int .i64 e.from_) 1 Tryz.isAgg3 ?_
    refine wO rfl ?_
    refine tW hS_84 0 1 (.int .i64 e.worker) Tryz.sizeOf3 ?_
    intro w_85 hS_86
    refine nilO ⟨⟨.inl (by kernel_rfl), .inr (hS_86.cell 2 rfl rfl), trivial⟩, ?_⟩
    refine wU [6] ?_
    refine wO rfl ?_
    refine tW hS_86 0 2 (.int .i64 e.from_) Tryz.sizeOf3 ?_
    intro w_87 hS_88
    refine nilO ⟨⟨.inl (by kernel_rfl), .inl (by kernel_rfl), trivial⟩, ?_⟩
    refine wN ?_
    refine blockK_n <| thenK_n <| seqE <| regionE ?_
    refine lA hS_88 0 0 7 (Tryz.isAgg43 _) (Tryz.sizeOf43 _) ?_
    refine sT hS_88 1 0 (.agg #[.int .i64 e.kind, .int .i64 e.worker, .int .i64 e.from_, .int .i64 0, .int .i64 0, .int .i64 0, .int .i64 0]) [.int .i64 e.kind, .int .i64 e.worker, .int .i64 e.from_, .int .i64 0, .int .i64 0, .int .i64 0, .int .i64 0] #[.int .i64 e.kind, .int .i64 e.worker, .int .i64 e.from_, .int .i64 0, .int .i64 0, .int .i64 0, .int .i64 0] Tryz.sizeOf43 ?_
    intro w_89 hS_90
    refine nilO <| thenK_n <| retE <| retN (vs := [.agg #[.int .i64 e.kind, .int .i64 e.worker, .int .i64 e.from_, .int .i64 0, .int .i64 0, .int .i64 0, .int .i64 0]]) rfl (.cons (.cell _ _ _ _ (by kernel_rfl) (lvA hS_90 1 0 [.int .i64 e.kind, .int .i64 e.worker, .int .i64 e.from_, .int .i64 0, .int .i64 0, .int .i64 0, .int .i64 0] (Tryz.isAgg43 _) (Tryz.sizeOf43 _) rfl rfl rfl)) .nil) <| ?_
    have hS_91 := (((hS_90.dropAt 0 rfl).dropAt 0 rfl).dropAt 0 rfl)
    have he : namedE e = (⟨e.kind, e.worker, e.from_, 0, 0, 0, 0⟩ : Evt) := by unfold namedE; first | (rw [if_pos (by omega)]) | (rw [if_neg (by omega), if_pos (by omega)]) | (rw [if_neg (by omega), if_neg (by omega), if_pos (by omega)]) | (rw [if_neg (by omega), if_neg (by omega), if_neg (by omega), if_pos (by omega)]) | (rw [if_neg (by omega), if_neg (by omega), if_neg (by omega), if_neg (by omega), if_pos (by omega)]) | (rw [if_neg (by omega), if_neg (by omega), if_neg (by omega), if_neg (by omega), if_neg (by omega), if_pos (by omega)]) | (rw [if_neg (by omega), if_neg (by omega), if_neg (by omega), if_neg (by omega), if_neg (by omega), if_neg (by omega)])
    exact ⟨by rw [he]; rfl, hS_91⟩
  refine seqE <| seqE <| regionE <| pu2 <| nilO <| thenK_n <| ?_
  refine cE e.kind 6 (fun hc_92 => ?_) (fun hc_92 => ?_)
  · refine skipE <| thenK_n <| ?_
    refine cT _ (beq_iff_eq.2 hc_92) ?_
    refine regionE <| pu1 ?_
    refine sL hS_11 2 1 (.int .i64 e.worker) (Tryz.isAgg3 _) ?_
    refine pu1 ?_
    refine tW hS_11 0 1 (.int .i64 e.worker) Tryz.sizeOf3 ?_
    intro w_93 hS_94
    refine nilO <| blockK_n <| thenK_n <| seqE <| regionE ?_
    refine lA hS_94 0 0 7 (Tryz.isAgg43 _) (Tryz.sizeOf43 _) ?_
    refine sT hS_94 1 0 (.agg #[.int .i64 e.kind, .int .i64 e.worker, .int .i64 0, .int .i64 0, .int .i64 0, .int .i64 0, .int .i64 0]) [.int .i64 e.kind, .int .i64 e.worker, .int .i64 0, .int .i64 0, .int .i64 0, .int .i64 0, .int .i64 0] #[.int .i64 e.kind, .int .i64 e.worker, .int .i64 0, .int .i64 0, .int .i64 0, .int .i64 0, .int .i64 0] Tryz.sizeOf43 ?_
    intro w_95 hS_96
    refine nilO <| thenK_n <| retE <| retN (vs := [.agg #[.int .i64 e.kind, .int .i64 e.worker, .int .i64 0, .int .i64 0, .int .i64 0, .int .i64 0, .int .i64 0]]) rfl (.cons (.cell _ _ _ _ (by kernel_rfl) (lvA hS_96 1 0 [.int .i64 e.kind, .int .i64 e.worker, .int .i64 0, .int .i64 0, .int .i64 0, .int .i64 0, .int .i64 0] (Tryz.isAgg43 _) (Tryz.sizeOf43 _) rfl rfl rfl)) .nil) <| ?_
    have hS_97 := (((hS_96.dropAt 0 rfl).dropAt 0 rfl).dropAt 0 rfl)
    have he : namedE e = (⟨e.kind, e.worker, 0, 0, 0, 0, 0⟩ : Evt) := by unfold namedE; first | (rw [if_pos (by omega)]) | (rw [if_neg (by omega), if_pos (by omega)]) | (rw [if_neg (by omega), if_neg (by omega), if_pos (by omega)]) | (rw [if_neg (by omega), if_neg (by omega), if_neg (by omega), if_pos (by omega)]) | (rw [if_neg (by omega), if_neg (by omega), if_neg (by omega), if_neg (by omega), if_pos (by omega)]) | (rw [if_neg (by omega), if_neg (by omega), if_neg (by omega), if_neg (by omega), if_neg (by omega), if_pos (by omega)]) | (rw [if_neg (by omega), if_neg (by omega), if_neg (by omega), if_neg (by omega), if_neg (by omega), if_neg (by omega)])
    exact ⟨by rw [he]; rfl, hS_97⟩
  refine seqE <| regionE <| pu2 <| nilO <| thenK_n <| ?_
  refine cE e.kind 7 (fun hc_98 => ?_) (fun hc_98 => ?_)
  · refine skipE <| thenK_n <| ?_
    refine cT _ (beq_iff_eq.2 hc_98) ?_
    refine regionE <| pu1 ?_
    refine sL hS_11 2 1 (.int .i64 e.worker) (Tryz.isAgg3 _) ?_
    refine pu1 ?_
    refine tW hS_11 0 1 (.int .i64 e.worker) Tryz.sizeOf3 ?_
    intro w_99 hS_100
    refine nilO <| blockK_n <| thenK_n <| seqE <| regionE ?_
    refine lA hS_100 0 0 7 (Tryz.isAgg43 _) (Tryz.sizeOf43 _) ?_
    refine sT hS_100 1 0 (.agg #[.int .i64 e.kind, .int .i64 e.worker, .int .i64 0, .int .i64 0, .int .i64 0, .int .i64 0, .int .i64 0]) [.int .i64 e.kind, .int .i64 e.worker, .int .i64 0, .int .i64 0, .int .i64 0, .int .i64 0, .int .i64 0] #[.int .i64 e.kind, .int .i64 e.worker, .int .i64 0, .int .i64 0, .int .i64 0, .int .i64 0, .int .i64 0] Tryz.sizeOf43 ?_
    intro w_101 hS_102
    refine nilO <| thenK_n <| retE <| retN (vs := [.agg #[.int .i64 e.kind, .int .i64 e.worker, .int .i64 0, .int .i64 0, .int .i64 0, .int .i64 0, .int .i64 0]]) rfl (.cons (.cell _ _ _ _ (by kernel_rfl) (lvA hS_102 1 0 [.int .i64 e.kind, .int .i64 e.worker, .int .i64 0, .int .i64 0, .int .i64 0, .int .i64 0, .int .i64 0] (Tryz.isAgg43 _) (Tryz.sizeOf43 _) rfl rfl rfl)) .nil) <| ?_
    have hS_103 := (((hS_102.dropAt 0 rfl).dropAt 0 rfl).dropAt 0 rfl)
    have he : namedE e = (⟨e.kind, e.worker, 0, 0, 0, 0, 0⟩ : Evt) := by unfold namedE; first | (rw [if_pos (by omega)]) | (rw [if_neg (by omega), if_pos (by omega)]) | (rw [if_neg (by omega), if_neg (by omega), if_pos (by omega)]) | (rw [if_neg (by omega), if_neg (by omega), if_neg (by omega), if_pos (by omega)]) | (rw [if_neg (by omega), if_neg (by omega), if_neg (by omega), if_neg (by omega), if_pos (by omega)]) | (rw [if_neg (by omega), if_neg (by omega), if_neg (by omega), if_neg (by omega), if_neg (by omega), if_pos (by omega)]) | (rw [if_neg (by omega), if_neg (by omega), if_neg (by omega), if_neg (by omega), if_neg (by omega), if_neg (by omega)])
    exact ⟨by rw [he]; rfl, hS_103⟩
  refine seqE <| regionE <| pu2 <| nilO <| thenK_n <| ?_
  refine cE e.kind 11 (fun hc_104 => ?_) (fun hc_104 => ?_)
  · refine skipE <| thenK_n <| ?_
    refine cT _ (beq_iff_eq.2 hc_104) ?_
    refine regionE <| pu1 ?_
    refine sL hS_11 2 1 (.int .i64 e.worker) (Tryz.isAgg3 _) ?_
    refine pu1 ?_
    refine tW hS_11 0 1 (.int .i64 e.worker) Tryz.sizeOf3 ?_
    intro w_105 hS_106
    refine nilO <| blockK_n <| thenK_n <| seqE <| regionE ?_
    refine lA hS_106 0 0 7 (Tryz.isAgg43 _) (Tryz.sizeOf43 _) ?_
    refine sT hS_106 1 0 (.agg #[.int .i64 e.kind, .int .i64 e.worker, .int .i64 0, .int .i64 0, .int .i64 0, .int .i64 0, .int .i64 0]) [.int .i64 e.kind, .int .i64 e.worker, .int .i64 0, .int .i64 0, .int .i64 0, .int .i64 0, .int .i64 0] #[.int .i64 e.kind, .int .i64 e.worker, .int .i64 0, .int .i64 0, .int .i64 0, .int .i64 0, .int .i64 0] Tryz.sizeOf43 ?_
    intro w_107 hS_108
    refine nilO <| thenK_n <| retE <| retN (vs := [.agg #[.int .i64 e.kind, .int .i64 e.worker, .int .i64 0, .int .i64 0, .int .i64 0, .int .i64 0, .int .i64 0]]) rfl (.cons (.cell _ _ _ _ (by kernel_rfl) (lvA hS_108 1 0 [.int .i64 e.kind, .int .i64 e.worker, .int .i64 0, .int .i64 0, .int .i64 0, .int .i64 0, .int .i64 0] (Tryz.isAgg43 _) (Tryz.sizeOf43 _) rfl rfl rfl)) .nil) <| ?_
    have hS_109 := (((hS_108.dropAt 0 rfl).dropAt 0 rfl).dropAt 0 rfl)
    have he : namedE e = (⟨e.kind, e.worker, 0, 0, 0, 0, 0⟩ : Evt) := by unfold namedE; first | (rw [if_pos (by omega)]) | (rw [if_neg (by omega), if_pos (by omega)]) | (rw [if_neg (by omega), if_neg (by omega), if_pos (by omega)]) | (rw [if_neg (by omega), if_neg (by omega), if_neg (by omega), if_pos (by omega)]) | (rw [if_neg (by omega), if_neg (by omega), if_neg (by omega), if_neg (by omega), if_pos (by omega)]) | (rw [if_neg (by omega), if_neg (by omega), if_neg (by omega), if_neg (by omega), if_neg (by omega), if_pos (by omega)]) | (rw [if_neg (by omega), if_neg (by omega), if_neg (by omega), if_neg (by omega), if_neg (by omega), if_neg (by omega)])
    exact ⟨by rw [he]; rfl, hS_109⟩
  refine regionE <| pu2 <| nilO <| thenK_n <| ?_
  refine cE e.kind 13 (fun hc_110 => ?_) (fun hc_110 => ?_)
  rotate_left
  · refine skipE <| blockK_n <| thenK_n <| seqE <| regionE ?_
    refine lA hS_11 0 0 7 (Tryz.isAgg43 _) (Tryz.sizeOf43 _) ?_
    refine sT hS_11 1 0 (.agg #[.int .i64 e.kind, .int .i64 0, .int .i64 0, .int .i64 0, .int .i64 0, .int .i64 0, .int .i64 0]) [.int .i64 e.kind, .int .i64 0, .int .i64 0, .int .i64 0, .int .i64 0, .int .i64 0, .int .i64 0] #[.int .i64 e.kind, .int .i64 0, .int .i64 0, .int .i64 0, .int .i64 0, .int .i64 0, .int .i64 0] Tryz.sizeOf43 ?_
    intro w_116 hS_117
    refine nilO <| thenK_n <| retE <| retN (vs := [.agg #[.int .i64 e.kind, .int .i64 0, .int .i64 0, .int .i64 0, .int .i64 0, .int .i64 0, .int .i64 0]]) rfl (.cons (.cell _ _ _ _ (by kernel_rfl) (lvA hS_117 1 0 [.int .i64 e.kind, .int .i64 0, .int .i64 0, .int .i64 0, .int .i64 0, .int .i64 0, .int .i64 0] (Tryz.isAgg43 _) (Tryz.sizeOf43 _) rfl rfl rfl)) .nil) <| ?_
    have hS_118 := (((hS_117.dropAt 0 rfl).dropAt 0 rfl).dropAt 0 rfl)
    have he : namedE e = (⟨e.kind, 0, 0, 0, 0, 0, 0⟩ : Evt) := by unfold namedE; first | (rw [if_pos (by omega)]) | (rw [if_neg (by omega), if_pos (by omega)]) | (rw [if_neg (by omega), if_neg (by omega), if_pos (by omega)]) | (rw [if_neg (by omega), if_neg (by omega), if_neg (by omega), if_pos (by omega)]) | (rw [if_neg (by omega), if_neg (by omega), if_neg (by omega), if_neg (by omega), if_pos (by omega)]) | (rw [if_neg (by omega), if_neg (by omega), if_neg (by omega), if_neg (by omega), if_neg (by omega), if_pos (by omega)]) | (rw [if_neg (by omega), if_neg (by omega), if_neg (by omega), if_neg (by omega), if_neg (by omega), if_neg (by omega)])
    exact ⟨by rw [he]; rfl, hS_118⟩
  refine regionE <| pu1 ?_
  refine sL hS_11 2 1 (.int .i64 e.worker) (Tryz.isAgg3 _) ?_
  refine pu1 ?_
  refine tW hS_11 0 1 (.int .i64 e.worker) Tryz.sizeOf3 ?_
  intro w_111 hS_112
  refine nilO <| blockK_n <| thenK_n <| seqE <| regionE ?_
  refine lA hS_112 0 0 7 (Tryz.isAgg43 _) (Tryz.sizeOf43 _) ?_
  refine sT hS_112 1 0 (.agg #[.int .i64 e.kind, .int .i64 e.worker, .int .i64 0, .int .i64 0, .int .i64 0, .int .i64 0, .int .i64 0]) [.int .i64 e.kind, .int .i64 e.worker, .int .i64 0, .int .i64 0, .int .i64 0, .int .i64 0, .int .i64 0] #[.int .i64 e.kind, .int .i64 e.worker, .int .i64 0, .int .i64 0, .int .i64 0, .int .i64 0, .int .i64 0] Tryz.sizeOf43 ?_
  intro w_113 hS_114
  refine nilO <| thenK_n <| retE <| retN (vs := [.agg #[.int .i64 e.kind, .int .i64 e.worker, .int .i64 0, .int .i64 0, .int .i64 0, .int .i64 0, .int .i64 0]]) rfl (.cons (.cell _ _ _ _ (by kernel_rfl) (lvA hS_114 1 0 [.int .i64 e.kind, .int .i64 e.worker, .int .i64 0, .int .i64 0, .int .i64 0, .int .i64 0, .int .i64 0] (Tryz.isAgg43 _) (Tryz.sizeOf43 _) rfl rfl rfl)) .nil) <| ?_
  have hS_115 := (((hS_114.dropAt 0 rfl).dropAt 0 rfl).dropAt 0 rfl)
  have he : namedE e = (⟨e.kind, e.worker, 0, 0, 0, 0, 0⟩ : Evt) := by unfold namedE; first | (rw [if_pos (by omega)]) | (rw [if_neg (by omega), if_pos (by omega)]) | (rw [if_neg (by omega), if_neg (by omega), if_pos (by omega)]) | (rw [if_neg (by omega), if_neg (by omega), if_neg (by omega), if_pos (by omega)]) | (rw [if_neg (by omega), if_neg (by omega), if_neg (by omega), if_neg (by omega), if_pos (by omega)]) | (rw [if_neg (by omega), if_neg (by omega), if_neg (by omega), if_neg (by omega), if_neg (by omega), if_pos (by omega)]) | (rw [if_neg (by omega), if_neg (by omega), if_neg (by omega), if_neg (by omega), if_neg (by omega), if_neg (by omega)])
  exact ⟨by rw [he]; rfl, hS_115⟩
theorem aj_run_n {p : Nat} {H : Chunk} {s : JA} {c : Chunk} {F : List Chunk} {K : Int} (hJ : JobA H p s c) (hW : JW K s) (h0 : s.B = none) (hS : Sat W w (c :: F)) :
    Calls Tryz.prog 106 #[.pointer (some ⟨p, 0, none⟩)] w fun e w' => e = .returned (.bool (runJ s)) ∧ Sat W w' (c :: F) := by
  obtain ⟨ta, tn, tk, b, M, rfl, hT, hD, hcase⟩ := hJ
  obtain ⟨rfl, rfl⟩ : b = none ∧ M = [] := by
    rcases hcase with ⟨_, h1, h2⟩ | ⟨B, q, h1, _⟩
    · exact ⟨h1, h2⟩
    · rw [h0] at h1; cases h1
  have hS : Sat W w ([(p, .cells #[.slice ta tn tk, .pointer none, .bool s.x] 156 (0, 0))] :: F) := Sat.perm hS (by simp)
  refine callsA 21 Tryz.func106 rfl ?_
  refine seqE <| regionE <| pu1 <| nilO <| thenK_n <| seqE ?_
  rcases Classical.em (s.x = true) with hc_1 | hc_1
  · refine drawE [10, 15] [(3, ⟨p, 2, none⟩, .bool s.x)] [(true, [0, 1, 2]), (true, [3]), (true, [4, 5]), (true, [6, 7, 8, 11, 12, 13, 9, 14]), (false, [10]), (false, [15]), (true, [16, 17, 18])] rfl (by kernel_rfl) ⟨.inr (hS.cell 0 rfl rfl), trivial⟩ ?_
    have hS_2 := hS.drew
    refine wU [0, 1, 2] ?_
    refine wLd (.bool s.x) 0 Tryz.isAgg4 ?_
    refine wU [4, 5] ?_
    refine wFix 8 _ false (congrArg Bool.not hc_1) ?_
    refine wU [6, 7, 8, 11, 12, 13, 9, 14] ?_
    refine wO rfl ?_
    refine pu1 ?_
    refine nilO ⟨⟨.inr (hS_2.cell 0 rfl rfl), trivial⟩, ?_⟩
    refine wO rfl ?_
    refine pu1 ?_
    refine nilO ⟨⟨.inr (hS_2.cell 0 rfl rfl), trivial⟩, ?_⟩
    refine wU [16, 17, 18] ?_
    refine wN ?_
    refine thenK_n <| retE <| retT [.bool false] <| ?_
    exact ⟨congrArg (fun b => Ending.returned (.bool b)) (by unfold runJ; rw [hc_1, h0]; rfl), Sat.perm hS_2 (by simp)⟩
  refine drawE [10, 15] [(3, ⟨p, 2, none⟩, .bool s.x), (9, ⟨p, 1, none⟩, .pointer none), (14, ⟨p, 1, none⟩, .pointer none)] [(true, [0, 1, 2]), (true, [3]), (true, [4, 5]), (true, [6, 7, 8, 11, 12, 13]), (true, [9]), (true, [14]), (false, [10]), (false, [15]), (true, [16]), (true, [17, 18])] rfl (by kernel_rfl) ⟨.inr (hS.cell 0 rfl rfl), .inr (hS.cell 0 rfl rfl), .inr (hS.cell 0 rfl rfl), trivial⟩ ?_
  have hS_3 := hS.drew
  refine wU [0, 1, 2] ?_
  refine wLd (.bool s.x) 0 Tryz.isAgg4 ?_
  refine wU [4, 5] ?_
  refine wFix 8 _ true (congrArg Bool.not (Bool.eq_false_iff.2 hc_1)) ?_
  refine wU [6, 7, 8, 11, 12, 13] ?_
  refine wLd (.pointer none) 1 Tryz.isAgg154 ?_
  refine wLd (.pointer none) 2 Tryz.isAgg154 ?_
  refine wO rfl ?_
  refine gY ?_
  refine cX Tryz.call112 (b_done_nil hS_3) ?_
  rintro _ w_4 ⟨rfl, hS_5⟩
  refine nilO ⟨⟨.inr (hS_5.cell 0 rfl rfl), .inl (by kernel_rfl), .inr (hS_5.cell 0 rfl rfl), trivial⟩, ?_⟩
  refine wO rfl ?_
  refine gY ?_
  refine cX Tryz.call113 (b_total_nil hS_5) ?_
  rintro _ w_6 ⟨rfl, hS_7⟩
  refine nilO ⟨⟨.inr (hS_7.cell 0 rfl rfl), .inl (by kernel_rfl), .inl (by kernel_rfl), trivial⟩, ?_⟩
  refine wU [16] <| wU [17, 18] ?_
  refine wN ?_
  refine thenK_n <| retE <| retT [.bool false] <| ?_
  exact ⟨congrArg (fun b => Ending.returned (.bool b)) (by unfold runJ; rw [Bool.eq_false_iff.2 hc_1, h0]; rfl), Sat.perm hS_7 (by simp)⟩
theorem aj_run_s {p : Nat} {H : Chunk} {s : JA} {c : Chunk} {F : List Chunk} {K : Int} {B : BS} (hJ : JobA H p s c) (hW : JW K s) (h0 : s.B = some B) (hS : Sat W w (c :: F)) :
    Calls Tryz.prog 106 #[.pointer (some ⟨p, 0, none⟩)] w fun e w' => e = .returned (.bool (runJ s)) ∧ Sat W w' (c :: F) := by
  obtain ⟨ta, tn, tk, b, M, rfl, hT, hD, hcase⟩ := hJ
  obtain ⟨q, rfl, hBr⟩ : ∃ q, b = some ⟨q, 0, none⟩ ∧ BoardR q B M := by
    rcases hcase with ⟨h1, _⟩ | ⟨B2, q, h1, h2, h3⟩
    · rw [h0] at h1; cases h1
    · rw [h0] at h1; obtain rfl := Option.some.inj h1; exact ⟨q, h2, h3⟩
  have hS : Sat W w ([(p, .cells #[.slice ta tn tk, .pointer (some ⟨q, 0, none⟩), .bool s.x] 156 (0, 0))] :: M :: F) := Sat.perm hS (by simp); have hBW := (hW B h0).1
  refine callsA 21 Tryz.func106 rfl ?_
  refine seqE <| regionE <| pu1 <| nilO <| thenK_n <| seqE ?_
  rcases Classical.em (s.x = true) with hc_1 | hc_1
  · refine drawE [10, 15] [(3, ⟨p, 2, none⟩, .bool s.x)] [(true, [0, 1, 2]), (true, [3]), (true, [4, 5]), (true, [6, 7, 8, 11, 12, 13, 9, 14]), (false, [10]), (false, [15]), (true, [16, 17, 18])] rfl (by kernel_rfl) ⟨.inr (hS.cell 0 rfl rfl), trivial⟩ ?_
    have hS_2 := hS.drew
    refine wU [0, 1, 2] ?_
    refine wLd (.bool s.x) 0 Tryz.isAgg4 ?_
    refine wU [4, 5] ?_
    refine wFix 8 _ false (congrArg Bool.not hc_1) ?_
    refine wU [6, 7, 8, 11, 12, 13, 9, 14] ?_
    refine wO rfl ?_
    refine pu1 ?_
    refine nilO ⟨⟨.inr (hS_2.cell 0 rfl rfl), trivial⟩, ?_⟩
    refine wO rfl ?_
    refine pu1 ?_
    refine nilO ⟨⟨.inr (hS_2.cell 0 rfl rfl), trivial⟩, ?_⟩
    refine wU [16, 17, 18] ?_
    refine wN ?_
    refine thenK_n <| retE <| retT [.bool false] <| ?_
    exact ⟨congrArg (fun b => Ending.returned (.bool b)) (by unfold runJ; rw [hc_1, h0]; rfl), Sat.perm (show Sat W _ ([(p, .cells #[.slice ta tn tk, .pointer (some ⟨q, 0, none⟩), .bool s.x] 156 (0, 0))] :: M :: F) from hS_2) (by simp)⟩
  refine drawE [10, 15] [(3, ⟨p, 2, none⟩, .bool s.x), (9, ⟨p, 1, none⟩, .pointer (some ⟨q, 0, none⟩)), (14, ⟨p, 1, none⟩, .pointer (some ⟨q, 0, none⟩))] [(true, [0, 1, 2]), (true, [3]), (true, [4, 5]), (true, [6, 7, 8, 11, 12, 13]), (true, [9]), (true, [14]), (false, [10]), (false, [15]), (true, [16]), (true, [17, 18])] rfl (by kernel_rfl) ⟨.inr (hS.cell 0 rfl rfl), .inr (hS.cell 0 rfl rfl), .inr (hS.cell 0 rfl rfl), trivial⟩ ?_
  have hS_3 := hS.drew
  refine wU [0, 1, 2] ?_
  refine wLd (.bool s.x) 0 Tryz.isAgg4 ?_
  refine wU [4, 5] ?_
  refine wFix 8 _ true (congrArg Bool.not (Bool.eq_false_iff.2 hc_1)) ?_
  refine wU [6, 7, 8, 11, 12, 13] ?_
  refine wLd (.pointer (some ⟨q, 0, none⟩)) 1 Tryz.isAgg154 ?_
  refine wLd (.pointer (some ⟨q, 0, none⟩)) 2 Tryz.isAgg154 ?_
  refine wO rfl ?_
  refine gY ?_
  have hS_6 := (hS_3.pick 1 rfl)
  refine cX Tryz.call112 (b_done hBr hBW (Sat.flat1 hS_6)) ?_
  rintro _ w_4 ⟨rfl, h_7⟩
  have hS_5 := Sat.unflat1 h_7
  refine nilO ⟨⟨.inr (hS_5.cell 1 rfl rfl), .inl (by kernel_rfl), .inr (hS_5.cell 1 rfl rfl), trivial⟩, ?_⟩
  refine wO rfl ?_
  refine gY ?_
  refine cX Tryz.call113 (b_total hBr hBW (Sat.flat1 hS_5)) ?_
  rintro _ w_8 ⟨rfl, h_10⟩
  have hS_9 := Sat.unflat1 h_10
  refine nilO ⟨⟨.inr (hS_9.cell 1 rfl rfl), .inl (by kernel_rfl), .inl (by kernel_rfl), trivial⟩, ?_⟩
  refine wU [16] <| wU [17, 18] ?_
  refine wN ?_
  refine thenK_n <| retE <| retT [.bool (decide (((doneOf B) : Int) < ((B.deps.length : Nat) : Int)))] <| ?_
  have hS_11 := (hS_9.pick 1 rfl)
  exact ⟨congrArg (fun b => Ending.returned (.bool b)) (by unfold runJ; rw [Bool.eq_false_iff.2 hc_1, h0]; simp), Sat.perm (show Sat W _ ([(p, .cells #[.slice ta tn tk, .pointer (some ⟨q, 0, none⟩), .bool s.x] 156 (0, 0))] :: M :: F) from hS_11) (by simp)⟩
theorem aj_run {W w : World} {p : Nat} {H : Chunk} {s : JA} {c : Chunk} {F : List Chunk} {K : Int} (hJ : JobA H p s c) (hW : JW K s) (hS : Sat W w (c :: F)) :
    Calls Tryz.prog 106 #[.pointer (some ⟨p, 0, none⟩)] w fun e w' => e = .returned (.bool (runJ s)) ∧ Sat W w' (c :: F) := by
  cases h : s.B with
  | none => exact aj_run_n hJ hW h hS
  | some B => exact aj_run_s hJ hW h hS
theorem am_job {p wb wo : Nat} {H : Chunk} {oa ja : Option Addr} {on ok wn wk jn jk : Nat} {rd : Int} {ws : List Wk} {jobs : List JA} {ps : List Nat} {Wc Jc : Chunk} {jcs F : List Chunk} {K : Int} (hOw : OwnT encWk 120 5 (some ⟨wb, wo, none⟩) wn wk ws Wc) (hOj : OwnT encP 153 1 ja jn jk ps Jc) (hJs : Obs (JobA H) ps jobs jcs) (hJW : ∀ j ∈ jobs, JW K j) (x : Int) (hS : Sat W w ([(p, .cells #[.slice oa on ok, .slice (some ⟨wb, wo, none⟩) wn wk, .slice ja jn jk, .int .i64 rd] 74 (0, 0))] :: Wc :: Jc :: jcs.flatten :: H :: F)) :
    Calls Tryz.prog 105 #[.pointer (some ⟨p, 0, none⟩), .int .i64 x] w fun e w' => (¬ (0 ≤ x ∧ x < ((jobs.length : Nat) : Int)) ∧ e = .returned (.pointer none) ∧ Sat W w' ([(p, .cells #[.slice oa on ok, .slice (some ⟨wb, wo, none⟩) wn wk, .slice ja jn jk, .int .i64 rd] 74 (0, 0))] :: Wc :: Jc :: jcs.flatten :: H :: F)) ∨ (∃ q : Nat, (0 ≤ x ∧ x < ((jobs.length : Nat) : Int)) ∧ ps[x.toNat]? = some q ∧ e = .returned (.pointer (some ⟨q, 0, none⟩)) ∧ Sat W w' ([(p, .cells #[.slice oa on ok, .slice (some ⟨wb, wo, none⟩) wn wk, .slice ja jn jk, .int .i64 rd] 74 (0, 0))] :: Wc :: Jc :: jcs.flatten :: H :: F)) := by
  have hwl := hOw.len; have hwk := hOw.le; have hjl := hOj.len; have hjk := hOj.le; have hjs := hJs.1
  refine callsA 23 Tryz.func105 rfl ?_
  refine seqE <| regionE <| pu1 <| nilO <| thenK_n <| seqE <| seqE <| regionE <| pu3 ?_
  refine sD 7 (x < 0) (fun hc_1 => ?_) (fun hc_1 => ?_)
  · refine pu8 <| nilO <| thenK_n <| cTt <| seqE <| regionE <| pu1 <| nilO <| thenK_n <| retE <| thenK_r <| retT [.pointer none] <| ?_
    exact .inl ⟨by omega, rfl, hS⟩
  refine pu4 <| gY ?_
  refine sL hS 0 2 (.slice ja jn jk) (Tryz.isAgg72 _) ?_
  refine pu3 <| nilO <| thenK_n <| ?_
  refine cD (x ≥ ((jn : Nat) : Int)) (fun hc_2 => ?_) (fun hc_2 => ?_)
  · refine seqE <| regionE <| pu1 <| nilO <| thenK_n <| retE <| thenK_r <| retT [.pointer none] <| ?_
    exact .inl ⟨by omega, rfl, hS⟩
  refine skipE <| thenK_n <| seqE <| regionE <| pu3 ?_
  refine sL hS 0 2 (.slice ja jn jk) (Tryz.isAgg72 _) ?_
  refine pu1 ?_
  refine sIdxO hOj x (x).toNat Tryz.runUnderlying72 Tryz.sizeOf153 ?_
  intro x_3 b_4 o_5 hx_6 hp_7 hq_8
  refine sLp hS (hp_7.up 2 rfl) 0 (.pointer (some ⟨x_3, 0, none⟩)) (Tryz.isAgg153 _) ?_
  refine pu1 <| nilO <| thenK_n <| retE <| retT [.pointer (some ⟨x_3, 0, none⟩)] <| ?_
  exact .inr ⟨_, by omega, hx_6, rfl, hS⟩
theorem am_runs {p wb wo : Nat} {H : Chunk} {oa ja : Option Addr} {on ok wn wk jn jk : Nat} {rd : Int} {ws : List Wk} {jobs : List JA} {ps : List Nat} {Wc Jc : Chunk} {jcs F : List Chunk} {K : Int} (hOw : OwnT encWk 120 5 (some ⟨wb, wo, none⟩) wn wk ws Wc) (hOj : OwnT encP 153 1 ja jn jk ps Jc) (hJs : Obs (JobA H) ps jobs jcs) (hJW : ∀ j ∈ jobs, JW K j) (x : Int) (hS : Sat W w ([(p, .cells #[.slice oa on ok, .slice (some ⟨wb, wo, none⟩) wn wk, .slice ja jn jk, .int .i64 rd] 74 (0, 0))] :: Wc :: Jc :: jcs.flatten :: H :: F)) :
    Calls Tryz.prog 93 #[.pointer (some ⟨p, 0, none⟩), .int .i64 x] w fun e w' => e = .returned (.bool (runsM jobs x)) ∧ Sat W w' ([(p, .cells #[.slice oa on ok, .slice (some ⟨wb, wo, none⟩) wn wk, .slice ja jn jk, .int .i64 rd] 74 (0, 0))] :: Wc :: Jc :: jcs.flatten :: H :: F) := by
  have hwl := hOw.len; have hwk := hOw.le; have hjl := hOj.len; have hjk := hOj.le; have hjs := hJs.1
  refine callsA 15 Tryz.func93 rfl ?_
  refine seqE <| regionE <| pu1 <| nilO <| thenK_n <| seqE <| regionE <| pu2 ?_
  have hS_1 := (((((hS.pick 4 rfl).pick 4 rfl).pick 4 rfl).pick 4 rfl).pick 4 rfl)
  refine cX Tryz.call105 (am_job hOw hOj hJs hJW x hS_1) ?_
  rintro _ w_2 (⟨hn_4, rfl, hS_3⟩ | ⟨q_5, hn_4, hq_6, rfl, hS_3⟩)
  · refine pu1 <| nilO <| thenK_n <| seqE <| regionE <| pu7 <| nilO <| thenK_n <| retE <| retT [.bool false] <| ?_
    exact ⟨congrArg (fun b => Ending.returned (.bool b)) (by unfold runsM; rw [decide_eq_false hn_4]; rfl), hS_3⟩
  refine pu1 <| nilO <| thenK_n <| seqE <| regionE <| pu4 <| gY ?_
  obtain ⟨s_7, c_8, hs_9, hc_10, hJ_11⟩ := Obs.get hJs hq_6
  have hS_14 := (hS_3.pick 3 rfl)
  have hS_12 := Sat.openN (A := []) (x.toNat) hc_10 hS_14
  refine cX Tryz.call106 (aj_run hJ_11 (hJW _ (List.mem_of_getElem? hs_9)) hS_12) ?_
  rintro _ w_15 ⟨rfl, hS_16⟩
  have hS_13 := Sat.shutN (d := c_8) (A := []) (x.toNat) hc_10 hS_16; rw [set_same hc_10] at hS_13
  refine pu2 <| nilO <| thenK_n <| retE <| retT [.bool (runJ s_7)] <| ?_
  have hS_17 := (((hS_13.pick 3 rfl).pick 3 rfl).pick 3 rfl)
  exact ⟨congrArg (fun b => Ending.returned (.bool b)) (by unfold runsM; rw [decide_eq_true hn_4, getD_some hs_9]; simp), hS_17⟩
theorem aw_holds {wb wo : Nat} {wn wk : Nat} {ws : List Wk} {Wc : Chunk} {F : List Chunk} (hOw : OwnT encWk 120 5 (some ⟨wb, wo, none⟩) wn wk ws Wc) (k : Nat) (v : Wk) (hv : ws[k]? = some v) (hS : Sat W w (Wc :: F)) :
    Calls Tryz.prog 95 #[.pointer (some ⟨wb, wo + k * 5, none⟩)] w fun e w' => e = .returned (.bool (decide (v.phase ≠ 0 ∧ v.phase ≠ 4))) ∧ Sat W w' (Wc :: F) := by
  have hp_1 := OwnT.ptr hOw rfl hv
  refine callsA 15 Tryz.func95 rfl ?_
  refine seqE <| regionE <| pu1 <| nilO <| thenK_n <| seqE <| regionE <| pu3 ?_
  refine sLp hS (hp_1.up 0 rfl) 0 (.int .i64 v.phase) (Tryz.isAgg3 _) ?_
  refine pu2 ?_
  refine sN 8 v.phase 0 (fun hc_2 => ?_) (fun hc_2 => ?_)
  · refine pu7 <| nilO <| thenK_n <| retE <| retT [.bool false] <| ?_
    exact ⟨congrArg (fun b => Ending.returned (.bool b)) ((decide_eq_false (by omega)).symm), hS⟩
  refine pu3 <| gY ?_
  refine sLp hS (hp_1.up 0 rfl) 0 (.int .i64 v.phase) (Tryz.isAgg3 _) ?_
  refine pu3 <| nilO <| thenK_n <| retE <| retT [.bool ((v.phase : Int) != 4)] <| ?_
  exact ⟨congrArg (fun b => Ending.returned (.bool b)) (by rw [Bool.eq_iff_iff]; simp only [decide_eq_true_eq, bne_iff_ne, ne_eq]; omega), hS⟩
theorem am_busy {p wb wo : Nat} {H : Chunk} {oa ja : Option Addr} {on ok wn wk jn jk : Nat} {rd : Int} {ws : List Wk} {jobs : List JA} {ps : List Nat} {Wc Jc : Chunk} {jcs F : List Chunk} {K : Int} (hOw : OwnT encWk 120 5 (some ⟨wb, wo, none⟩) wn wk ws Wc) (hOj : OwnT encP 153 1 ja jn jk ps Jc) (hJs : Obs (JobA H) ps jobs jcs) (hJW : ∀ j ∈ jobs, JW K j) (k : Nat) (v : Wk) (hv : ws[k]? = some v)  (hS : Sat W w ([(p, .cells #[.slice oa on ok, .slice (some ⟨wb, wo, none⟩) wn wk, .slice ja jn jk, .int .i64 rd] 74 (0, 0))] :: Wc :: Jc :: jcs.flatten :: H :: F)) :
    Calls Tryz.prog 57 #[.pointer (some ⟨p, 0, none⟩), .pointer (some ⟨wb, wo + k * 5, none⟩)] w fun e w' => e = .returned (.bool (busyM jobs v)) ∧ Sat W w' ([(p, .cells #[.slice oa on ok, .slice (some ⟨wb, wo, none⟩) wn wk, .slice ja jn jk, .int .i64 rd] 74 (0, 0))] :: Wc :: Jc :: jcs.flatten :: H :: F) := by
  have hwl := hOw.len; have hwk := hOw.le; have hjl := hOj.len; have hjk := hOj.le; have hjs := hJs.1
  have hp_1 := OwnT.ptr hOw rfl hv
  refine callsA 16 Tryz.func57 rfl ?_
  refine seqE <| regionE <| pu1 <| nilO <| thenK_n <| seqE <| regionE <| pu1 ?_
  have hS_2 := (hS.pick 1 rfl)
  refine cX Tryz.call95 (aw_holds hOw k v hv hS_2) ?_
  rintro _ w_3 ⟨rfl, hS_4⟩
  refine pu1 ?_
  refine sD 7 ((v.phase ≠ 0 ∧ v.phase ≠ 4)) (fun hc_5 => ?_) (fun hc_5 => ?_)
  rotate_left
  · refine pu9 <| nilO <| thenK_n <| retE <| retT [.bool false] <| ?_
    have hS_9 := (hS_4.pick 1 rfl)
    exact ⟨congrArg (fun b => Ending.returned (.bool b)) (by unfold busyM; rw [decide_eq_false hc_5]; rfl), hS_9⟩
  refine pu5 <| gY ?_
  refine sLp hS_4 (hp_1.up 0 rfl) 1 (.int .i64 v.heldJob) (Tryz.isAgg3 _) ?_
  refine gY ?_
  have hS_6 := (((((hS_4.pick 4 rfl).pick 4 rfl).pick 4 rfl).pick 3 rfl).pick 4 rfl)
  refine cX Tryz.call93 (am_runs hOw hOj hJs hJW v.heldJob hS_6) ?_
  rintro _ w_7 ⟨rfl, hS_8⟩
  refine pu2 <| nilO <| thenK_n <| retE <| retT [.bool (runsM jobs v.heldJob)] <| ?_
  exact ⟨congrArg (fun b => Ending.returned (.bool b)) (by unfold busyM; rw [decide_eq_true hc_5]; simp), hS_8⟩
theorem am_another {p wb wo : Nat} {H : Chunk} {oa ja : Option Addr} {on ok wn wk jn jk : Nat} {rd : Int} {ws : List Wk} {jobs : List JA} {ps : List Nat} {Wc Jc : Chunk} {jcs F : List Chunk} {K : Int} (hOw : OwnT encWk 120 5 (some ⟨wb, wo, none⟩) wn wk ws Wc) (hOj : OwnT encP 153 1 ja jn jk ps Jc) (hJs : Obs (JobA H) ps jobs jcs) (hJW : ∀ j ∈ jobs, JW K j) (ev : Evt) (hS : Sat W w ([(p, .cells #[.slice oa on ok, .slice (some ⟨wb, wo, none⟩) wn wk, .slice ja jn jk, .int .i64 rd] 74 (0, 0))] :: Wc :: Jc :: jcs.flatten :: H :: F)) :
    Calls Tryz.prog 56 #[.pointer (some ⟨p, 0, none⟩), .agg (encEvt ev).toArray] w fun e w' => e = .returned (.bool (anotherE ws.length ev)) ∧ Sat W w' ([(p, .cells #[.slice oa on ok, .slice (some ⟨wb, wo, none⟩) wn wk, .slice ja jn jk, .int .i64 rd] 74 (0, 0))] :: Wc :: Jc :: jcs.flatten :: H :: F) := by
  have hwl := hOw.len; have hwk := hOw.le; have hjl := hOj.len; have hjk := hOj.le; have hjs := hJs.1
  refine callsA 25 Tryz.func56 rfl ?_
  refine seqE <| regionE ?_
  refine sBox hS (.agg (encEvt ev).toArray) (encEvt ev).toArray ?_
  intro b_1 w_2 hS_3
  refine pu1 <| nilO <| thenK_n <| seqE ?_
  by_cases hc_4 : (ev.from_ : Int) ≥ 0
  rotate_left
  · refine drawE [] [(1, ⟨b_1, 2, none⟩, .int .i64 ev.from_)] [(true, [0]), (true, [1]), (true, [2, 3]), (true, [4, 6, 7, 8, 5, 9, 10, 11, 12, 13, 14, 16, 15, 17, 18, 19, 20])] rfl (by kernel_rfl) ⟨.inr (hS_3.cell 0 rfl rfl), trivial⟩ ?_
    have hS_10 := hS_3.drew
    refine wU [0] ?_
    refine wLd (.int .i64 ev.from_) 0 Tryz.isAgg3 ?_
    refine wU [2, 3] ?_
    refine wFix 8 _ false (decide_eq_false hc_4) ?_
    refine wU [4, 6, 7, 8, 5, 9, 10, 11, 12, 13, 14, 16, 15, 17, 18, 19, 20] ?_
    refine wN ?_
    refine thenK_n <| retE <| retT [.bool false] <| ?_
    have hS_11 := (hS_10.dropAt 0 rfl)
    exact ⟨congrArg (fun b => Ending.returned (.bool b)) (by unfold anotherE; exact (decide_eq_false (by omega)).symm), hS_11⟩
  by_cases hc_5 : (ev.from_ : Int) < ((wn : Nat) : Int)
  rotate_left
  · refine drawE [] [(1, ⟨b_1, 2, none⟩, .int .i64 ev.from_), (5, ⟨b_1, 2, none⟩, .int .i64 ev.from_), (9, ⟨p, 1, none⟩, .slice (some ⟨wb, wo, none⟩) wn wk)] [(true, [0]), (true, [1]), (true, [2, 3]), (true, [4, 6, 7, 8]), (true, [5]), (true, [9]), (true, [10, 11, 12, 13]), (true, [14, 16, 15, 17, 18, 19, 20])] rfl (by kernel_rfl) ⟨.inr (hS_3.cell 0 rfl rfl), .inr (hS_3.cell 0 rfl rfl), .inr (hS_3.cell 1 rfl rfl), trivial⟩ ?_
    have hS_8 := hS_3.drew
    refine wU [0] ?_
    refine wLd (.int .i64 ev.from_) 0 Tryz.isAgg3 ?_
    refine wU [2, 3] ?_
    refine wFix 8 _ true (decide_eq_true hc_4) ?_
    refine wU [4, 6, 7, 8] ?_
    refine wLd (.int .i64 ev.from_) 1 Tryz.isAgg3 ?_
    refine wLd (.slice (some ⟨wb, wo, none⟩) wn wk) 2 Tryz.isAgg71 ?_
    refine wU [10, 11, 12, 13] ?_
    refine wFix 18 _ false (decide_eq_false hc_5) ?_
    refine wU [14, 16, 15, 17, 18, 19, 20] ?_
    refine wN ?_
    refine thenK_n <| retE <| retT [.bool false] <| ?_
    have hS_9 := (hS_8.dropAt 0 rfl)
    exact ⟨congrArg (fun b => Ending.returned (.bool b)) (by unfold anotherE; exact (decide_eq_false (by omega)).symm), hS_9⟩
  refine drawE [] [(1, ⟨b_1, 2, none⟩, .int .i64 ev.from_), (5, ⟨b_1, 2, none⟩, .int .i64 ev.from_), (9, ⟨p, 1, none⟩, .slice (some ⟨wb, wo, none⟩) wn wk), (15, ⟨b_1, 2, none⟩, .int .i64 ev.from_), (17, ⟨b_1, 1, none⟩, .int .i64 ev.worker)] [(true, [0]), (true, [1]), (true, [2, 3]), (true, [4, 6, 7, 8]), (true, [5]), (true, [9]), (true, [10, 11, 12, 13]), (true, [14, 16]), (true, [15]), (true, [17]), (true, [18, 19, 20])] rfl (by kernel_rfl) ⟨.inr (hS_3.cell 0 rfl rfl), .inr (hS_3.cell 0 rfl rfl), .inr (hS_3.cell 1 rfl rfl), .inr (hS_3.cell 0 rfl rfl), .inr (hS_3.cell 0 rfl rfl), trivial⟩ ?_
  have hS_6 := hS_3.drew
  refine wU [0] ?_
  refine wLd (.int .i64 ev.from_) 0 Tryz.isAgg3 ?_
  refine wU [2, 3] ?_
  refine wFix 8 _ true (decide_eq_true hc_4) ?_
  refine wU [4, 6, 7, 8] ?_
  refine wLd (.int .i64 ev.from_) 1 Tryz.isAgg3 ?_
  refine wLd (.slice (some ⟨wb, wo, none⟩) wn wk) 2 Tryz.isAgg71 ?_
  refine wU [10, 11, 12, 13] ?_
  refine wFix 18 _ true (decide_eq_true hc_5) ?_
  refine wU [14, 16] ?_
  refine wLd (.int .i64 ev.from_) 3 Tryz.isAgg3 ?_
  refine wLd (.int .i64 ev.worker) 4 Tryz.isAgg3 ?_
  refine wU [18, 19, 20] ?_
  refine wN ?_
  refine thenK_n <| retE <| retT [.bool ((ev.from_ : Int) != ev.worker)] <| ?_
  have hS_7 := (hS_6.dropAt 0 rfl)
  exact ⟨congrArg (fun b => Ending.returned (.bool b)) (by unfold anotherE; exact (by rw [Bool.eq_iff_iff]; simp only [decide_eq_true_eq, bne_iff_ne, ne_eq]; omega)), hS_7⟩
theorem am_any {p wb wo : Nat} {H : Chunk} {oa ja : Option Addr} {on ok wn wk jn jk : Nat} {rd : Int} {ws : List Wk} {jobs : List JA} {ps : List Nat} {Wc Jc : Chunk} {jcs F : List Chunk} {K : Int} (hOw : OwnT encWk 120 5 (some ⟨wb, wo, none⟩) wn wk ws Wc) (hOj : OwnT encP 153 1 ja jn jk ps Jc) (hJs : Obs (JobA H) ps jobs jcs) (hJW : ∀ j ∈ jobs, JW K j)  (hS : Sat W w ([(p, .cells #[.slice oa on ok, .slice (some ⟨wb, wo, none⟩) wn wk, .slice ja jn jk, .int .i64 rd] 74 (0, 0))] :: Wc :: Jc :: jcs.flatten :: H :: F)) :
    Calls Tryz.prog 62 #[.pointer (some ⟨p, 0, none⟩)] w fun e w' => e = .returned (.bool (ws.any (busyM jobs))) ∧ Sat W w' ([(p, .cells #[.slice oa on ok, .slice (some ⟨wb, wo, none⟩) wn wk, .slice ja jn jk, .int .i64 rd] 74 (0, 0))] :: Wc :: Jc :: jcs.flatten :: H :: F) := by
  have hwl := hOw.len; have hwk := hOw.le; have hjl := hOj.len; have hjk := hOj.le; have hjs := hJs.1
  refine callsA 21 Tryz.func62 rfl ?_
  refine seqE <| regionE <| pu1 <| nilO <| thenK_n <| seqE <| seqE <| regionE <| pu3 ?_
  refine sL hS 0 1 (.slice (some ⟨wb, wo, none⟩) wn wk) (Tryz.isAgg71 _) ?_
  refine pu2 <| nilO <| thenK_n <| blockE ?_
  refine loopA (γ := Nat) (fun i => [(0, .pointer (some ⟨p, 0, none⟩)), (8, .int .i64 ((wn : Nat) : Int)), (9, .int .i64 ((i : Nat) : Int))]) (fun i w => Sat W w ([(p, .cells #[.slice oa on ok, .slice (some ⟨wb, wo, none⟩) wn wk, .slice ja jn jk, .int .i64 rd] 74 (0, 0))] :: Wc :: Jc :: jcs.flatten :: H :: F) ∧ i ≤ wn ∧ ((ws.take i).any (busyM jobs) = false)) (fun i => wn - i) 0 ⟨hS, by omega, rfl⟩ ?_
  rintro i ρ w_1 ⟨hS_2, hi, hany⟩
  refine seqE <| regionE <| pu1 <| nilO <| thenK_n <| seqE ?_
  refine cD (((i : Nat) : Int) < ((wn : Nat) : Int)) (fun hc_3 => ?_) (fun hc_3 => ?_)
  rotate_left
  · refine exitE <| thenK_x <| thenK_x <| blockK_x <| thenK_n <| seqE <| regionE <| pu1 <| nilO <| thenK_n <| retE <| retT [.bool false] <| ?_
    exact ⟨congrArg (fun b => Ending.returned (.bool b)) (by rw [← hany, List.take_of_length_le (by omega)]), hS_2⟩
  refine skipE <| thenK_n <| seqE <| blockE <| seqE <| regionE <| pu2 <| nilO <| thenK_n <| seqE <| regionE <| pu4 ?_
  refine sL hS_2 0 1 (.slice (some ⟨wb, wo, none⟩) wn wk) (Tryz.isAgg71 _) ?_
  refine pu1 ?_
  refine sIdxO hOw ((i : Nat) : Int) i Tryz.runUnderlying71 Tryz.sizeOf120 ?_
  intro x_4 b_5 o_6 hx_7 hp_8 hq_9
  obtain ⟨rfl, rfl⟩ := some_addr hq_9
  have hS_10 := (((((hS_2.pick 4 rfl).pick 4 rfl).pick 4 rfl).pick 4 rfl).pick 4 rfl)
  refine cX Tryz.call57 (am_busy hOw hOj hJs hJW i x_4 hx_7 hS_10) ?_
  rintro _ w_11 ⟨rfl, hS_12⟩
  refine nilO <| thenK_n <| ?_
  refine cB (busyM jobs x_4) (fun hc_13 => ?_) (fun hc_13 => ?_)
  · refine seqE <| regionE <| pu1 <| nilO <| thenK_n <| retE <| blockK_r <| thenK_r <| thenK_r <| blockK_r <| thenK_r <| retT [.bool true] <| ?_
    exact ⟨congrArg (fun b => Ending.returned (.bool b)) ((any_hit hx_7 hc_13).symm), hS_12⟩
  refine skipE <| blockK_n <| thenK_n <| regionE ?_
  refine sAdd ((i : Nat) : Int) 1 ?_
  refine pu1 <| nilO <| thenK_n <| ?_
  exact ⟨i + 1, by first | omega | (dsimp only; omega), alA, hS_12, by omega, (any_take hx_7 hany (Bool.eq_false_iff.2 hc_13))⟩
end Go.Proofs.YtimkhljglpookaaGreat
