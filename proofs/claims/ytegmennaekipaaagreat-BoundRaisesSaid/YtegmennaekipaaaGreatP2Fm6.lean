import Derived.Test.YtegmennaekipaaaGreatP2Fm5
import Derived.Test.YtegmennaekipaaaGreatP2BNew
import Derived.Test.YtegmennaekipaaaGreatP2Pf8
import Derived.Test.YtegmennaekipaaaGreatP2Short
namespace Go.Proofs.YtegmennaekipaaaGreat
open Go Go.E
set_option linter.unusedVariables false
set_option linter.unusedSimpArgs false
set_option linter.unnecessarySimpa false
set_option maxRecDepth 100000
set_option maxHeartbeats 2000000
variable {W w : World} {H : Chunk} {F : List Chunk}

-- squeezed
def xZ : FJob := ⟨false, false, 0, ⟨none, 0, 0, []⟩, none⟩
theorem obs_zero : Obs JobM (List.replicate 64 xZ) (List.replicate 64 JS.zero) (List.replicate 64 ([] : Chunk)) := by
  refine ⟨by simp, by simp, ?_⟩
  intro i p s c h1 h2 h3
  obtain rfl := rep_at h1
  obtain rfl := rep_at h2
  obtain rfl := rep_at h3
  exact .inl ⟨rfl, rfl, rfl⟩
theorem r26_in (n : Int) (a : Int) (b : Int) (hS : Sat W w (H :: F)) :
  Ro Tryz.prog 105 #[I n, I a, I b] (.bool (decide ((a ≤ n ∧ n ≤ b)))) W w (H :: F) := by
 refine callsA 15 Tryz.func105 rfl ?_
 refine sR <| pu1 <| nT <| sR <| pu4 ?_
 refine sD 10 (n ≥ a) (fun a0 => ?_) (fun a0 => ?_)
 rotate_left
 ·refine pu5 <| nT <| retE <| retT [.bool false] ?_
  exact ⟨congrArg (fun b => Ending.returned (.bool b)) ((decide_eq_false om).symm), hS⟩
 refine pu5 <| nT <| retE <| retT [.bool (decide ((n : Int) ≤ b))] ?_
 exact ⟨congrArg (fun b => Ending.returned (.bool b)) (by rw [Bool.eq_iff_iff]; simp only [decide_eq_true_eq, ge_iff_le]; omega), hS⟩
theorem r26_valid (c : Cfg) (hS : Sat W w (H :: F)) :
  Ro Tryz.prog 46 #[.agg (encCfg c).toArray] (I (validCfg c)) W w (H :: F) := by
 refine callsA 41 Tryz.func46 rfl ?_
 refine sR ?_
 refine sBox hS (.agg (encCfg c).toArray) (encCfg c).toArray ?_
 intro _ _ h0
 refine pu1 <| nT <| seqE <| sR <| pu1 ?_
 refine sL h0 0 0 (I c.workers) (Tryz.isAgg3 _) ?_
 refine cR Tryz.call105 (r26_in c.workers 1 64 (Sat.flat h0)) ?_
 intro _ a0
 refine pu1 ?_
 refine sD 6 ((1 ≤ c.workers ∧ c.workers ≤ 64)) (fun j0 => ?_) (fun j0 => ?_)
 rotate_left
 ·refine pu16 <| pu16 <| pu2 <| nT <| cFf <| kT <| sR <| pu1 <| nT <| retE <| retT [I 2] ?_
  have k0 := (a0.dropAt 0 rfl)
  exact ⟨congrArg (fun z => Ending.returned (I z)) (by unfold validCfg; rw [if_neg om]), k0⟩
 refine pu1 <| gY ?_
 refine sL a0 0 1 (I c.tileW) (Tryz.isAgg3 _) ?_
 refine gY ?_
 refine cR Tryz.call105 (r26_in c.tileW 1 64 (Sat.flat a0)) ?_
 intro _ b0
 refine pu2 ?_
 refine sD 11 ((1 ≤ c.tileW ∧ c.tileW ≤ 64)) (fun l0 => ?_) (fun l0 => ?_)
 rotate_left
 ·refine pu16 <| pu13 <| nT <| cFf <| kT <| sR <| pu1 <| nT <| retE <| retT [I 2] ?_
  have m0 := (b0.dropAt 0 rfl)
  exact ⟨congrArg (fun z => Ending.returned (I z)) (by unfold validCfg; rw [if_neg om]), m0⟩
 refine pu1 <| gY ?_
 refine sL b0 0 2 (I c.tileH) (Tryz.isAgg3 _) ?_
 refine gY ?_
 refine cR Tryz.call105 (r26_in c.tileH 1 64 (Sat.flat b0)) ?_
 intro _ c0
 refine pu2 ?_
 refine sD 16 ((1 ≤ c.tileH ∧ c.tileH ≤ 64)) (fun n0 => ?_) (fun n0 => ?_)
 rotate_left
 ·refine pu16 <| pu8 <| nT <| cFf <| kT <| sR <| pu1 <| nT <| retE <| retT [I 2] ?_
  have o0 := (c0.dropAt 0 rfl)
  exact ⟨congrArg (fun z => Ending.returned (I z)) (by unfold validCfg; rw [if_neg om]), o0⟩
 refine pu1 <| gY ?_
 refine sL c0 0 3 (I c.arena) (Tryz.isAgg3 _) ?_
 refine gY ?_
 refine cR Tryz.call105 (r26_in c.arena 0 1048576 (Sat.flat c0)) ?_
 intro _ d0
 refine pu2 ?_
 refine sD 21 ((0 ≤ c.arena ∧ c.arena ≤ 1048576)) (fun p0 => ?_) (fun p0 => ?_)
 rotate_left
 ·refine pu16 <| pu3 <| nT <| cFf <| kT <| sR <| pu1 <| nT <| retE <| retT [I 2] ?_
  have q0 := (d0.dropAt 0 rfl)
  exact ⟨congrArg (fun z => Ending.returned (I z)) (by unfold validCfg; rw [if_neg om]), q0⟩
 refine pu1 <| gY ?_
 refine sL d0 0 4 (I c.deque) (Tryz.isAgg3 _) ?_
 refine gY ?_
 refine cR Tryz.call105 (r26_in c.deque 1 256 (Sat.flat d0)) ?_
 intro _ e0
 refine pu2 ?_
 refine sD 26 ((1 ≤ c.deque ∧ c.deque ≤ 256)) (fun r0 => ?_) (fun r0 => ?_)
 rotate_left
 ·refine pu14 <| nT <| cFf <| kT <| sR <| pu1 <| nT <| retE <| retT [I 2] ?_
  have s0 := (e0.dropAt 0 rfl)
  exact ⟨congrArg (fun z => Ending.returned (I z)) (by unfold validCfg; rw [if_neg om]), s0⟩
 refine pu1 <| gY ?_
 refine sL e0 0 5 (I c.tasks) (Tryz.isAgg3 _) ?_
 refine gY ?_
 refine cR Tryz.call105 (r26_in c.tasks 1 4096 (Sat.flat e0)) ?_
 intro _ f0
 refine pu2 ?_
 refine sD 31 ((1 ≤ c.tasks ∧ c.tasks ≤ 4096)) (fun t0 => ?_) (fun t0 => ?_)
 rotate_left
 ·refine pu9 <| nT <| cFf <| kT <| sR <| pu1 <| nT <| retE <| retT [I 2] ?_
  have u0 := (f0.dropAt 0 rfl)
  exact ⟨congrArg (fun z => Ending.returned (I z)) (by unfold validCfg; rw [if_neg om]), u0⟩
 refine pu1 <| gY ?_
 refine sL f0 0 6 (I c.cells) (Tryz.isAgg3 _) ?_
 refine gY ?_
 refine cR Tryz.call105 (r26_in c.cells 1 1048576 (Sat.flat f0)) ?_
 intro _ g0
 refine pu2 ?_
 refine sD 36 ((1 ≤ c.cells ∧ c.cells ≤ 1048576)) (fun v0 => ?_) (fun v0 => ?_)
 rotate_left
 ·refine pu4 <| nT <| cFf <| kT <| sR <| pu1 <| nT <| retE <| retT [I 2] ?_
  have w0 := (g0.dropAt 0 rfl)
  exact ⟨congrArg (fun z => Ending.returned (I z)) (by unfold validCfg; rw [if_neg om]), w0⟩
 refine pu1 <| gY ?_
 refine sL g0 0 7 (I c.jobs) (Tryz.isAgg3 _) ?_
 refine gY ?_
 refine cR Tryz.call105 (r26_in c.jobs 1 64 (Sat.flat g0)) ?_
 intro _ i0
 refine pu1 <| nT ?_
 refine cD ((1 ≤ c.jobs ∧ c.jobs ≤ 64)) (fun x0 => ?_) (fun x0 => ?_)
 ·refine sR <| pu1 <| nT <| retE <| thenK_r <| retT [I 0] ?_
  have y0 := (i0.dropAt 0 rfl)
  exact ⟨congrArg (fun z => Ending.returned (I z)) (by unfold validCfg; rw [if_pos om]), y0⟩
 refine kT <| sR <| pu1 <| nT <| retE <| retT [I 2] ?_
 have z0 := (i0.dropAt 0 rfl)
 exact ⟨congrArg (fun z => Ending.returned (I z)) (by unfold validCfg; rw [if_neg om]), z0⟩
theorem f_new {cs : List Chunk} (c : Cfg) (hv : validCfg c = 0) (hS : Sat W w cs) :
  Calls Tryz.prog 13 #[.agg (encCfg c).toArray] w fun e w' => ∃ (p : Nat) (M : Chunk), e = .returned (.tuple #[Pt p 0, I 0]) ∧ FarmR p (newF c) M ∧ Sat W w' (M :: cs) := by
 have hvc := validCfg_zero hv
 refine callsA 70 Tryz.func13 rfl ?_
 refine sR ?_
 refine sBox hS (.agg (encCfg c).toArray) (encCfg c).toArray ?_
 intro b0 _ m1
 refine pu2 <| nT <| seqE <| sR ?_
 refine lA m1 0 0 8 (Tryz.isAgg26 _) (Tryz.sizeOf26 _) ?_
 refine cR Tryz.call46 (r26_valid c (Sat.flat m1)) ?_
 intro _ e0
 refine pu1 <| nT <| sR <| pu2 <| nT ?_
 have u1 : ((validCfg c) : Int) = 0 := hv
 refine cF _ (bne_eq_false_iff_eq.2 u1) ?_
 refine kT <| seqE ?_
 refine drawE [3, 5] [(0, ⟨b0, 0, none⟩, I c.workers), (0, ⟨b0, 1, none⟩, I c.tileW), (0, ⟨b0, 2, none⟩, I c.tileH), (0, ⟨b0, 3, none⟩, I c.arena), (0, ⟨b0, 4, none⟩, I c.deque), (0, ⟨b0, 5, none⟩, I c.tasks), (0, ⟨b0, 6, none⟩, I c.cells), (0, ⟨b0, 7, none⟩, I c.jobs), (2, ⟨b0, 0, none⟩, I c.workers)] [(true, [1]), (true, [0]), (true, [2]), (false, [3]), (true, [4]), (false, [5]), (true, [6])] rfl kr ⟨.inr (e0.cell 0 rfl rfl), .inr (e0.cell 0 rfl rfl), .inr (e0.cell 0 rfl rfl), .inr (e0.cell 0 rfl rfl), .inr (e0.cell 0 rfl rfl), .inr (e0.cell 0 rfl rfl), .inr (e0.cell 0 rfl rfl), .inr (e0.cell 0 rfl rfl), .inr (e0.cell 0 rfl rfl), trivial⟩ ?_
 have v1 := e0.drew
 refine wU [1] ?_
 refine wY (.agg (encCfg c).toArray) rfl (fun w hF => Y_loadF rfl (Tryz.isAgg26 w) (Tryz.sizeOf26 w) kr rfl ⟨hF 0 _ _ rfl, hF 1 _ _ rfl, hF 2 _ _ rfl, hF 3 _ _ rfl, hF 4 _ _ rfl, hF 5 _ _ rfl, hF 6 _ _ rfl, hF 7 _ _ rfl, trivial⟩) ?_
 refine wLd (I c.workers) 8 Tryz.isAgg3 ?_
 refine wO rfl ?_
 refine sMake (kl := .i64) (kc := .i64) (enc := encWkr) (sz := 7) (nb := 56) v1 ⟨0, 0, 0, 0, 0, 0, 0⟩ (c.workers).toNat c.workers (om : c.workers = (((c.workers).toNat : Nat) : Int)) Tryz.underlying66 (i := Tryz.t69) kr fR ?_
 intro a0 d0 _ w1 f0
 refine nilO ⟨⟨.inr (f0.cell 1 rfl rfl), .inr (f0.cell 1 rfl rfl), .inr (f0.cell 1 rfl rfl), .inr (f0.cell 1 rfl rfl), .inr (f0.cell 1 rfl rfl), .inr (f0.cell 1 rfl rfl), .inr (f0.cell 1 rfl rfl), .inr (f0.cell 1 rfl rfl), dI, trivial⟩, ?_⟩
 refine wU [4] ?_
 refine wO rfl ?_
 refine sBox f0 (.agg #[I c.workers, I c.tileW, I c.tileH, I c.arena, I c.deque, I c.tasks, I c.cells, I c.jobs, .slice (At a0 0) ((c.workers).toNat) ((c.workers).toNat), .slice none 0 0, .slice none 0 0, .pointer none, .bool false, .bool false, I 0, .slice none 0 0, .pointer none, .bool false, .bool false, I 0, .slice none 0 0, .pointer none, .bool false, .bool false, I 0, .slice none 0 0, .pointer none, .bool false, .bool false, I 0, .slice none 0 0, .pointer none, .bool false, .bool false, I 0, .slice none 0 0, .pointer none, .bool false, .bool false, I 0, .slice none 0 0, .pointer none, .bool false, .bool false, I 0, .slice none 0 0, .pointer none, .bool false, .bool false, I 0, .slice none 0 0, .pointer none, .bool false, .bool false, I 0, .slice none 0 0, .pointer none, .bool false, .bool false, I 0, .slice none 0 0, .pointer none, .bool false, .bool false, I 0, .slice none 0 0, .pointer none, .bool false, .bool false, I 0, .slice none 0 0, .pointer none, .bool false, .bool false, I 0, .slice none 0 0, .pointer none, .bool false, .bool false, I 0, .slice none 0 0, .pointer none, .bool false, .bool false, I 0, .slice none 0 0, .pointer none, .bool false, .bool false, I 0, .slice none 0 0, .pointer none, .bool false, .bool false, I 0, .slice none 0 0, .pointer none, .bool false, .bool false, I 0, .slice none 0 0, .pointer none, .bool false, .bool false, I 0, .slice none 0 0, .pointer none, .bool false, .bool false, I 0, .slice none 0 0, .pointer none, .bool false, .bool false, I 0, .slice none 0 0, .pointer none, .bool false, .bool false, I 0, .slice none 0 0, .pointer none, .bool false, .bool false, I 0, .slice none 0 0, .pointer none, .bool false, .bool false, I 0, .slice none 0 0, .pointer none, .bool false, .bool false, I 0, .slice none 0 0, .pointer none, .bool false, .bool false, I 0, .slice none 0 0, .pointer none, .bool false, .bool false, I 0, .slice none 0 0, .pointer none, .bool false, .bool false, I 0, .slice none 0 0, .pointer none, .bool false, .bool false, I 0, .slice none 0 0, .pointer none, .bool false, .bool false, I 0, .slice none 0 0, .pointer none, .bool false, .bool false, I 0, .slice none 0 0, .pointer none, .bool false, .bool false, I 0, .slice none 0 0, .pointer none, .bool false, .bool false, I 0, .slice none 0 0, .pointer none, .bool false, .bool false, I 0, .slice none 0 0, .pointer none, .bool false, .bool false, I 0, .slice none 0 0, .pointer none, .bool false, .bool false, I 0, .slice none 0 0, .pointer none, .bool false, .bool false, I 0, .slice none 0 0, .pointer none, .bool false, .bool false, I 0, .slice none 0 0, .pointer none, .bool false, .bool false, I 0, .slice none 0 0, .pointer none, .bool false, .bool false, I 0, .slice none 0 0, .pointer none, .bool false, .bool false, I 0, .slice none 0 0, .pointer none, .bool false, .bool false, I 0, .slice none 0 0, .pointer none, .bool false, .bool false, I 0, .slice none 0 0, .pointer none, .bool false, .bool false, I 0, .slice none 0 0, .pointer none, .bool false, .bool false, I 0, .slice none 0 0, .pointer none, .bool false, .bool false, I 0, .slice none 0 0, .pointer none, .bool false, .bool false, I 0, .slice none 0 0, .pointer none, .bool false, .bool false, I 0, .slice none 0 0, .pointer none, .bool false, .bool false, I 0, .slice none 0 0, .pointer none, .bool false, .bool false, I 0, .slice none 0 0, .pointer none, .bool false, .bool false, I 0, .slice none 0 0, .pointer none, .bool false, .bool false, I 0, .slice none 0 0, .pointer none, .bool false, .bool false, I 0, .slice none 0 0, .pointer none, .bool false, .bool false, I 0, .slice none 0 0, .pointer none, .bool false, .bool false, I 0, .slice none 0 0, .pointer none, .bool false, .bool false, I 0, .slice none 0 0, .pointer none, .bool false, .bool false, I 0, .slice none 0 0, .pointer none, .bool false, .bool false, I 0, .slice none 0 0, .pointer none, .bool false, .bool false, I 0, .slice none 0 0, .pointer none, .bool false, .bool false, I 0, .slice none 0 0, .pointer none, .bool false, .bool false, I 0, .slice none 0 0, .pointer none, .bool false, .bool false, I 0, .slice none 0 0, .pointer none, .bool false, .bool false, I 0, .slice none 0 0, .pointer none, .bool false, .bool false, I 0, .slice none 0 0, .pointer none, I 0, I 0, I 0, I 0, I 0, I 0, I 0, I 0, I 0, I 0]) #[I c.workers, I c.tileW, I c.tileH, I c.arena, I c.deque, I c.tasks, I c.cells, I c.jobs, .slice (At a0 0) ((c.workers).toNat) ((c.workers).toNat), .slice none 0 0, .slice none 0 0, .pointer none, .bool false, .bool false, I 0, .slice none 0 0, .pointer none, .bool false, .bool false, I 0, .slice none 0 0, .pointer none, .bool false, .bool false, I 0, .slice none 0 0, .pointer none, .bool false, .bool false, I 0, .slice none 0 0, .pointer none, .bool false, .bool false, I 0, .slice none 0 0, .pointer none, .bool false, .bool false, I 0, .slice none 0 0, .pointer none, .bool false, .bool false, I 0, .slice none 0 0, .pointer none, .bool false, .bool false, I 0, .slice none 0 0, .pointer none, .bool false, .bool false, I 0, .slice none 0 0, .pointer none, .bool false, .bool false, I 0, .slice none 0 0, .pointer none, .bool false, .bool false, I 0, .slice none 0 0, .pointer none, .bool false, .bool false, I 0, .slice none 0 0, .pointer none, .bool false, .bool false, I 0, .slice none 0 0, .pointer none, .bool false, .bool false, I 0, .slice none 0 0, .pointer none, .bool false, .bool false, I 0, .slice none 0 0, .pointer none, .bool false, .bool false, I 0, .slice none 0 0, .pointer none, .bool false, .bool false, I 0, .slice none 0 0, .pointer none, .bool false, .bool false, I 0, .slice none 0 0, .pointer none, .bool false, .bool false, I 0, .slice none 0 0, .pointer none, .bool false, .bool false, I 0, .slice none 0 0, .pointer none, .bool false, .bool false, I 0, .slice none 0 0, .pointer none, .bool false, .bool false, I 0, .slice none 0 0, .pointer none, .bool false, .bool false, I 0, .slice none 0 0, .pointer none, .bool false, .bool false, I 0, .slice none 0 0, .pointer none, .bool false, .bool false, I 0, .slice none 0 0, .pointer none, .bool false, .bool false, I 0, .slice none 0 0, .pointer none, .bool false, .bool false, I 0, .slice none 0 0, .pointer none, .bool false, .bool false, I 0, .slice none 0 0, .pointer none, .bool false, .bool false, I 0, .slice none 0 0, .pointer none, .bool false, .bool false, I 0, .slice none 0 0, .pointer none, .bool false, .bool false, I 0, .slice none 0 0, .pointer none, .bool false, .bool false, I 0, .slice none 0 0, .pointer none, .bool false, .bool false, I 0, .slice none 0 0, .pointer none, .bool false, .bool false, I 0, .slice none 0 0, .pointer none, .bool false, .bool false, I 0, .slice none 0 0, .pointer none, .bool false, .bool false, I 0, .slice none 0 0, .pointer none, .bool false, .bool false, I 0, .slice none 0 0, .pointer none, .bool false, .bool false, I 0, .slice none 0 0, .pointer none, .bool false, .bool false, I 0, .slice none 0 0, .pointer none, .bool false, .bool false, I 0, .slice none 0 0, .pointer none, .bool false, .bool false, I 0, .slice none 0 0, .pointer none, .bool false, .bool false, I 0, .slice none 0 0, .pointer none, .bool false, .bool false, I 0, .slice none 0 0, .pointer none, .bool false, .bool false, I 0, .slice none 0 0, .pointer none, .bool false, .bool false, I 0, .slice none 0 0, .pointer none, .bool false, .bool false, I 0, .slice none 0 0, .pointer none, .bool false, .bool false, I 0, .slice none 0 0, .pointer none, .bool false, .bool false, I 0, .slice none 0 0, .pointer none, .bool false, .bool false, I 0, .slice none 0 0, .pointer none, .bool false, .bool false, I 0, .slice none 0 0, .pointer none, .bool false, .bool false, I 0, .slice none 0 0, .pointer none, .bool false, .bool false, I 0, .slice none 0 0, .pointer none, .bool false, .bool false, I 0, .slice none 0 0, .pointer none, .bool false, .bool false, I 0, .slice none 0 0, .pointer none, .bool false, .bool false, I 0, .slice none 0 0, .pointer none, .bool false, .bool false, I 0, .slice none 0 0, .pointer none, .bool false, .bool false, I 0, .slice none 0 0, .pointer none, .bool false, .bool false, I 0, .slice none 0 0, .pointer none, .bool false, .bool false, I 0, .slice none 0 0, .pointer none, .bool false, .bool false, I 0, .slice none 0 0, .pointer none, .bool false, .bool false, I 0, .slice none 0 0, .pointer none, .bool false, .bool false, I 0, .slice none 0 0, .pointer none, .bool false, .bool false, I 0, .slice none 0 0, .pointer none, .bool false, .bool false, I 0, .slice none 0 0, .pointer none, I 0, I 0, I 0, I 0, I 0, I 0, I 0, I 0, I 0, I 0] ?_
 intro c0 _ g0
 refine nilO ⟨⟨.inr (g0.cell 2 rfl rfl), .inr (g0.cell 2 rfl rfl), .inr (g0.cell 2 rfl rfl), .inr (g0.cell 2 rfl rfl), .inr (g0.cell 2 rfl rfl), .inr (g0.cell 2 rfl rfl), .inr (g0.cell 2 rfl rfl), .inr (g0.cell 2 rfl rfl), dI, trivial⟩, ?_⟩
 refine wU [6] ?_
 refine wN ?_
 have x1 : Sat W _ ((Tri c0 102 [I c.workers, I c.tileW, I c.tileH, I c.arena, I c.deque, I c.tasks, I c.cells, I c.jobs, .slice (At a0 0) ((c.workers).toNat) ((c.workers).toNat), .slice none 0 0, .slice none 0 0, .pointer none] ((List.replicate 64 xZ).flatMap encFJob) [I 0, I 0, I 0, I 0, I 0, I 0, I 0, I 0, I 0, I 0]) :: d0 :: [(b0, .cells (encCfg c).toArray 26 (0, 0))] :: cs) := g0
 refine thenK_n <| seqE <| sR <| pu1 <| nT <| blockE ?_
 have y1 : Sat W _ ((Tri c0 102 [I c.workers, I c.tileW, I c.tileH, I c.arena, I c.deque, I c.tasks, I c.cells, I c.jobs, .slice (At a0 0) ((c.workers).toNat) ((c.workers).toNat), .slice none 0 0, .slice none 0 0, .pointer none] ((List.replicate 64 xZ).flatMap encFJob) [I 0, I 0, I 0, I 0, I 0, I 0, I 0, I 0, I 0, I 0]) :: d0 :: [(b0, .cells (encCfg c).toArray 26 (0, 0))] :: ([] : Chunk) :: ([] : Chunk) :: ([] : List Chunk).flatten :: ([] : List Chunk).flatten :: cs) := Sat.perm (show Sat W _ ((Tri c0 102 [I c.workers, I c.tileW, I c.tileH, I c.arena, I c.deque, I c.tasks, I c.cells, I c.jobs, .slice (At a0 0) ((c.workers).toNat) ((c.workers).toNat), .slice none 0 0, .slice none 0 0, .pointer none] ((List.replicate 64 xZ).flatMap encFJob) [I 0, I 0, I 0, I 0, I 0, I 0, I 0, I 0, I 0, I 0]) :: d0 :: [(b0, .cells (encCfg c).toArray 26 (0, 0))] :: cs) from x1) (by simp)
 refine loopA (γ := Nat × (Option Addr) × Nat × Nat × Chunk × (List Nat) × (List Chunk) × (Option Addr) × Nat × Nat × Chunk × (List Nat) × (List Chunk)) (fun ⟨i, aa, an, ak, ac, ap, acs, da, dn, dk, dc, dp, dcs⟩ => [(1, Pt b0 0), (5, Pt c0 0), (6, I ((i : Nat) : Int))]) (fun ⟨i, aa, an, ak, ac, ap, acs, da, dn, dk, dc, dp, dcs⟩ w => Sat W w ((Tri c0 102 [I c.workers, I c.tileW, I c.tileH, I c.arena, I c.deque, I c.tasks, I c.cells, I c.jobs, .slice (At a0 0) ((c.workers).toNat) ((c.workers).toNat), .slice aa an ak, .slice da dn dk, .pointer none] ((List.replicate 64 xZ).flatMap encFJob) [I 0, I 0, I 0, I 0, I 0, I 0, I 0, I 0, I 0, I 0]) :: d0 :: [(b0, .cells (encCfg c).toArray 26 (0, 0))] :: ac :: dc :: acs.flatten :: dcs.flatten :: cs) ∧ (i : Int) ≤ c.workers ∧ OwnT encP 103 1 aa an ak ap ac ∧ OwnT encP 106 1 da dn dk dp dc ∧ Obs ArR ap (List.replicate i (⟨c.arena, 0, 0, []⟩ : AS)) acs ∧ Obs DqR dp (List.replicate i (⟨c.deque, []⟩ : DS)) dcs) (fun ⟨i, aa, an, ak, ac, ap, acs, da, dn, dk, dc, dp, dcs⟩ => c.workers.toNat - i) (0, none, 0, 0, [], [], [], none, 0, 0, [], [], []) ⟨y1, om, OwnT.nil fR, OwnT.nil fR, Obs.nil _, Obs.nil _⟩ ?_
 rintro ⟨i, aa, an, ak, ac, ap, acs, da, dn, dk, dc, dp, dcs⟩ ρ _ ⟨x0, hi, hOa, hOd, hAs, hDs⟩
 have hal := hOa.len; have hak := hOa.le; have hdl := hOd.len; have hdk := hOd.le; have has1 := hAs.1; have hds1 := hDs.1; rw [List.length_replicate] at has1 hds1
 refine seqE <| sR <| pu2 ?_
 refine sL x0 2 0 (I c.workers) (Tryz.isAgg3 _) ?_
 refine pu1 <| nT ?_
 refine cD (((i : Nat) : Int) < c.workers) (fun z1 => ?_) (fun z1 => ?_)
 rotate_left
 ·refine exitE <| xB <| thenK_n <| sR <| pu2 ?_
  refine sL x0 2 5 (I c.tasks) (Tryz.isAgg3 _) ?_
  refine cX Tryz.call49 (r24_new c.tasks om x0) ?_
  rintro _ _ ⟨y0, n1, rfl, a2, b2⟩
  refine pu5 ?_
  refine sTpre b2 1 11 (Pt y0 0) [Pt y0 0] [I c.workers, I c.tileW, I c.tileH, I c.arena, I c.deque, I c.tasks, I c.cells, I c.jobs, .slice (At a0 0) ((c.workers).toNat) ((c.workers).toNat), .slice aa an ak, .slice da dn dk, Pt y0 0] Tryz.sizeOf96 ?_
  intro _ c2
  refine nT <| sR <| pu3 <| nT <| retE <| retT [Pt c0 0, I 0] ?_
  obtain rfl : i = c.workers.toNat := by omega
  have d2 := ((c2.picks [7, 7, 7, 7, 6, 6]).dropAt 7 rfl)
  have e2 : Sat W _ (((Tri c0 102 (preF c (At a0 0) ((c.workers).toNat) ((c.workers).toNat) aa an ak da dn dk y0) ((List.replicate 64 xZ).flatMap encFJob) [I 0, I 0, I 0, I 0, I 0, I 0, I 0, I 0, I 0, I 0]) ++ (d0 ++ (ac ++ (dc ++ (acs.flatten ++ (dcs.flatten ++ (n1 ++ (List.replicate 64 ([] : Chunk)).flatten))))))) :: cs) := Sat.perm (show Sat W _ ((Tri c0 102 (preF c (At a0 0) ((c.workers).toNat) ((c.workers).toNat) aa an ak da dn dk y0) ((List.replicate 64 xZ).flatMap encFJob) [I 0, I 0, I 0, I 0, I 0, I 0, I 0, I 0, I 0, I 0]) :: d0 :: ac :: dc :: acs.flatten :: dcs.flatten :: n1 :: cs) from d2) (by simp)
  exact ⟨_, _, rfl, ⟨_, _, _, _, _, _, _, _, _, _, _, _, _, _, _, _, _, _, _, _, rfl, w1, hOa, hOd, hAs, hDs, a2, obs_zero, rfl⟩, e2⟩
 refine kT <| seqE <| blockE <| sR <| pu1 ?_
 refine sL x0 2 3 (I c.arena) (Tryz.isAgg3 _) ?_
 refine cX Tryz.call47 (r22_new c.arena om x0) ?_
 rintro _ _ ⟨k0, h0, rfl, a1, o1⟩
 refine pu5 <| nT <| sR <| pu1 ?_
 refine sL o1 3 4 (I c.deque) (Tryz.isAgg3 _) ?_
 refine cX Tryz.call48 (r23_new c.deque om o1) ?_
 rintro _ _ ⟨i0, j0, rfl, b1, c1⟩
 refine pu5 <| nT ?_
 refine drawP [7, 8, 14, 15, 18, 21] [(5, ⟨c0, 9, none⟩, .slice aa an ak), (12, ⟨c0, 10, none⟩, .slice da dn dk)] (Plan.sts [0, 1, 2, 3, 4, 6, 9, 10, 11, 13] <| Plan.sts [5] <| Plan.sts [12] <| .fk 7 14 (.fk 8 14 (.ef 14 <| .ef 15 <| Plan.sts [16, 17] <| .ef 18 <| Plan.sts [19, 20] <| .ef 21 <| .fin) (.ef 8 <| .ef 15 <| Plan.sts [16, 17] <| .ef 18 <| Plan.sts [19, 20] <| .ef 21 <| .fin)) (.ef 7 <| .ef 8 <| .ef 15 <| Plan.sts [16, 17] <| .ef 18 <| Plan.sts [19, 20] <| .ef 21 <| .fin)) rfl kr ⟨.inr (cell_up c1 2 rfl (k := 9) tri_pre rfl), .inr (cell_up c1 2 rfl (k := 10) tri_pre rfl), trivial⟩ ?_
 have p1 := c1.drew
 refine qU [0, 1, 2, 3, 4, 6, 9, 10, 11, 13] ?_
 refine qLd (.slice aa an ak) 0 Tryz.isAgg94 ?_
 refine qLd (.slice da dn dk) 1 Tryz.isAgg95 ?_
 refine qF ?_ ?_
 rotate_left
 ·refine qO rfl ?_
  refine sBS p1 #[Pt i0 0] Tryz.runUnderlying95 Tryz.sizeOf106 Tryz.zeroValue106 ?_
  intro _ _ d1
  refine nilO ⟨⟨.inr (cell_up d1 3 rfl (k := 9) tri_pre rfl), .inr (cell_up d1 3 rfl (k := 10) tri_pre rfl), trivial⟩, ?_⟩
  refine qO rfl ?_
  refine sBS d1 #[Pt k0 0] Tryz.runUnderlying94 Tryz.sizeOf103 Tryz.zeroValue103 ?_
  intro _ _ e1
  refine nilO ⟨⟨.inr (cell_up e1 4 rfl (k := 9) tri_pre rfl), .inr (cell_up e1 4 rfl (k := 10) tri_pre rfl), trivial⟩, ?_⟩
  refine qO rfl ?_
  refine sApp (nb := 8) e1 hOa 7 (RdT.blk (enc := encP) (sz := 1) (xs := [k0]) fR 1 0 rfl rfl rfl om) Tryz.underlying94 (i := Tryz.t103) kr fR ?_
  intro l0 m0 f1 _ f2 q1
  refine nilO ⟨⟨dI, .inr (cell_up q1 4 rfl (k := 10) tri_pre rfl), trivial⟩, ?_⟩
  refine qO rfl ?_
  refine sApp (nb := 8) q1 hOd 8 (RdT.blk (enc := encP) (sz := 1) (xs := [i0]) fR 1 1 rfl rfl rfl om) Tryz.underlying95 (i := Tryz.t106) kr fR ?_
  intro r0 s0 g1 _ g2 h2
  refine nilO ⟨dA, ?_⟩
  refine qU [16, 17] ?_
  refine qO rfl ?_
  refine sTpre h2 4 9 (.slice l0 (an + 1) m0) [.slice l0 (an + 1) m0] [I c.workers, I c.tileW, I c.tileH, I c.arena, I c.deque, I c.tasks, I c.cells, I c.jobs, .slice (At a0 0) ((c.workers).toNat) ((c.workers).toNat), .slice l0 (an + 1) m0, .slice da dn dk, .pointer none] Tryz.sizeOf94 ?_
  intro _ i2
  refine nilO ⟨dA, ?_⟩
  refine qU [19, 20] ?_
  refine qO rfl ?_
  refine sTpre i2 4 10 (.slice r0 (dn + 1) s0) [.slice r0 (dn + 1) s0] [I c.workers, I c.tileW, I c.tileH, I c.arena, I c.deque, I c.tasks, I c.cells, I c.jobs, .slice (At a0 0) ((c.workers).toNat) ((c.workers).toNat), .slice l0 (an + 1) m0, .slice r0 (dn + 1) s0, .pointer none] Tryz.sizeOf95 ?_
  intro _ j2
  refine nilO ⟨dA, ?_⟩
  refine qN ?_
  refine blockK_n <| thenK_n <| regionE <| pu1 ?_
  refine sAdd ((i : Nat) : Int) 1 ?_
  refine pu1 <| nT ?_
  have k2 := ((j2.picks [10, 4, 10, 10, 10, 10, 10, 10]).drops [8, 8])
  have l2 : Sat W _ ((Tri c0 102 [I c.workers, I c.tileW, I c.tileH, I c.arena, I c.deque, I c.tasks, I c.cells, I c.jobs, .slice (At a0 0) ((c.workers).toNat) ((c.workers).toNat), .slice l0 (an + 1) m0, .slice r0 (dn + 1) s0, .pointer none] ((List.replicate 64 xZ).flatMap encFJob) [I 0, I 0, I 0, I 0, I 0, I 0, I 0, I 0, I 0, I 0]) :: d0 :: [(b0, .cells (encCfg c).toArray 26 (0, 0))] :: f1 :: g1 :: (acs ++ [h0]).flatten :: (dcs ++ [j0]).flatten :: cs) := Sat.perm (show Sat W _ ((Tri c0 102 [I c.workers, I c.tileW, I c.tileH, I c.arena, I c.deque, I c.tasks, I c.cells, I c.jobs, .slice (At a0 0) ((c.workers).toNat) ((c.workers).toNat), .slice l0 (an + 1) m0, .slice r0 (dn + 1) s0, .pointer none] ((List.replicate 64 xZ).flatMap encFJob) [I 0, I 0, I 0, I 0, I 0, I 0, I 0, I 0, I 0, I 0]) :: d0 :: [(b0, .cells (encCfg c).toArray 26 (0, 0))] :: f1 :: g1 :: acs.flatten :: h0 :: dcs.flatten :: j0 :: cs) from k2) (by simp)
  exact ⟨(i + 1, l0, (an + 1), m0, f1, (ap ++ [k0]), (acs ++ [h0]), r0, (dn + 1), s0, g1, (dp ++ [i0]), (dcs ++ [j0])), od, alA, l2, om, f2, g2, (by rw [List.replicate_succ']; exact Obs.snoc hAs a1), (by rw [List.replicate_succ']; exact Obs.snoc hDs b1)⟩
 refine qO rfl ?_
 refine sBS p1 #[Pt k0 0] Tryz.runUnderlying94 Tryz.sizeOf103 Tryz.zeroValue103 ?_
 intro _ _ z0
 refine nilO ⟨⟨.inr (cell_up z0 3 rfl (k := 9) tri_pre rfl), .inr (cell_up z0 3 rfl (k := 10) tri_pre rfl), trivial⟩, ?_⟩
 refine qF ?_ ?_
 ·refine qO rfl ?_
  refine sApp (nb := 8) z0 hOa 6 (RdT.blk (enc := encP) (sz := 1) (xs := [k0]) fR 1 0 rfl rfl rfl om) Tryz.underlying94 (i := Tryz.t103) kr fR ?_
  intro n0 o0 h1 _ m2 r1
  refine nilO ⟨⟨dI, .inr (cell_up r1 3 rfl (k := 10) tri_pre rfl), trivial⟩, ?_⟩
  refine qO rfl ?_
  refine sBS r1 #[Pt i0 0] Tryz.runUnderlying95 Tryz.sizeOf106 Tryz.zeroValue106 ?_
  intro _ _ s1
  refine nilO ⟨⟨dI, .inr (cell_up s1 4 rfl (k := 10) tri_pre rfl), trivial⟩, ?_⟩
  refine qO rfl ?_
  refine sApp (nb := 8) s1 hOd 8 (RdT.blk (enc := encP) (sz := 1) (xs := [i0]) fR 1 0 rfl rfl rfl om) Tryz.underlying95 (i := Tryz.t106) kr fR ?_
  intro t0 u0 i1 _ n2 o2
  refine nilO ⟨dA, ?_⟩
  refine qU [16, 17] ?_
  refine qO rfl ?_
  refine sTpre o2 4 9 (.slice n0 (an + 1) o0) [.slice n0 (an + 1) o0] [I c.workers, I c.tileW, I c.tileH, I c.arena, I c.deque, I c.tasks, I c.cells, I c.jobs, .slice (At a0 0) ((c.workers).toNat) ((c.workers).toNat), .slice n0 (an + 1) o0, .slice da dn dk, .pointer none] Tryz.sizeOf94 ?_
  intro _ p2
  refine nilO ⟨dA, ?_⟩
  refine qU [19, 20] ?_
  refine qO rfl ?_
  refine sTpre p2 4 10 (.slice t0 (dn + 1) u0) [.slice t0 (dn + 1) u0] [I c.workers, I c.tileW, I c.tileH, I c.arena, I c.deque, I c.tasks, I c.cells, I c.jobs, .slice (At a0 0) ((c.workers).toNat) ((c.workers).toNat), .slice n0 (an + 1) o0, .slice t0 (dn + 1) u0, .pointer none] Tryz.sizeOf95 ?_
  intro _ q2
  refine nilO ⟨dA, ?_⟩
  refine qN ?_
  refine blockK_n <| thenK_n <| regionE <| pu1 ?_
  refine sAdd ((i : Nat) : Int) 1 ?_
  refine pu1 <| nT ?_
  have r2 := ((q2.picks [10, 4, 10, 10, 10, 10, 10, 10]).drops [8, 8])
  have s2 : Sat W _ ((Tri c0 102 [I c.workers, I c.tileW, I c.tileH, I c.arena, I c.deque, I c.tasks, I c.cells, I c.jobs, .slice (At a0 0) ((c.workers).toNat) ((c.workers).toNat), .slice n0 (an + 1) o0, .slice t0 (dn + 1) u0, .pointer none] ((List.replicate 64 xZ).flatMap encFJob) [I 0, I 0, I 0, I 0, I 0, I 0, I 0, I 0, I 0, I 0]) :: d0 :: [(b0, .cells (encCfg c).toArray 26 (0, 0))] :: h1 :: i1 :: (acs ++ [h0]).flatten :: (dcs ++ [j0]).flatten :: cs) := Sat.perm (show Sat W _ ((Tri c0 102 [I c.workers, I c.tileW, I c.tileH, I c.arena, I c.deque, I c.tasks, I c.cells, I c.jobs, .slice (At a0 0) ((c.workers).toNat) ((c.workers).toNat), .slice n0 (an + 1) o0, .slice t0 (dn + 1) u0, .pointer none] ((List.replicate 64 xZ).flatMap encFJob) [I 0, I 0, I 0, I 0, I 0, I 0, I 0, I 0, I 0, I 0]) :: d0 :: [(b0, .cells (encCfg c).toArray 26 (0, 0))] :: h1 :: i1 :: acs.flatten :: h0 :: dcs.flatten :: j0 :: cs) from r2) (by simp)
  exact ⟨(i + 1, n0, (an + 1), o0, h1, (ap ++ [k0]), (acs ++ [h0]), t0, (dn + 1), u0, i1, (dp ++ [i0]), (dcs ++ [j0])), od, alA, s2, om, m2, n2, (by rw [List.replicate_succ']; exact Obs.snoc hAs a1), (by rw [List.replicate_succ']; exact Obs.snoc hDs b1)⟩
 refine qO rfl ?_
 refine sBS z0 #[Pt i0 0] Tryz.runUnderlying95 Tryz.sizeOf106 Tryz.zeroValue106 ?_
 intro _ _ j1
 refine nilO ⟨⟨.inr (cell_up j1 4 rfl (k := 9) tri_pre rfl), .inr (cell_up j1 4 rfl (k := 10) tri_pre rfl), trivial⟩, ?_⟩
 refine qO rfl ?_
 refine sApp (nb := 8) j1 hOa 7 (RdT.blk (enc := encP) (sz := 1) (xs := [k0]) fR 1 1 rfl rfl rfl om) Tryz.underlying94 (i := Tryz.t103) kr fR ?_
 intro p0 q0 k1 _ t2 t1
 refine nilO ⟨⟨dI, .inr (cell_up t1 4 rfl (k := 10) tri_pre rfl), trivial⟩, ?_⟩
 refine qO rfl ?_
 refine sApp (nb := 8) t1 hOd 8 (RdT.blk (enc := encP) (sz := 1) (xs := [i0]) fR 1 0 rfl rfl rfl om) Tryz.underlying95 (i := Tryz.t106) kr fR ?_
 intro v0 w0 l1 _ u2 v2
 refine nilO ⟨dA, ?_⟩
 refine qU [16, 17] ?_
 refine qO rfl ?_
 refine sTpre v2 4 9 (.slice p0 (an + 1) q0) [.slice p0 (an + 1) q0] [I c.workers, I c.tileW, I c.tileH, I c.arena, I c.deque, I c.tasks, I c.cells, I c.jobs, .slice (At a0 0) ((c.workers).toNat) ((c.workers).toNat), .slice p0 (an + 1) q0, .slice da dn dk, .pointer none] Tryz.sizeOf94 ?_
 intro _ w2
 refine nilO ⟨dA, ?_⟩
 refine qU [19, 20] ?_
 refine qO rfl ?_
 refine sTpre w2 4 10 (.slice v0 (dn + 1) w0) [.slice v0 (dn + 1) w0] [I c.workers, I c.tileW, I c.tileH, I c.arena, I c.deque, I c.tasks, I c.cells, I c.jobs, .slice (At a0 0) ((c.workers).toNat) ((c.workers).toNat), .slice p0 (an + 1) q0, .slice v0 (dn + 1) w0, .pointer none] Tryz.sizeOf95 ?_
 intro _ x2
 refine nilO ⟨dA, ?_⟩
 refine qN ?_
 refine blockK_n <| thenK_n <| regionE <| pu1 ?_
 refine sAdd ((i : Nat) : Int) 1 ?_
 refine pu1 <| nT ?_
 have y2 := ((x2.picks [10, 4, 10, 10, 10, 10, 10, 10]).drops [8, 8])
 have z2 : Sat W _ ((Tri c0 102 [I c.workers, I c.tileW, I c.tileH, I c.arena, I c.deque, I c.tasks, I c.cells, I c.jobs, .slice (At a0 0) ((c.workers).toNat) ((c.workers).toNat), .slice p0 (an + 1) q0, .slice v0 (dn + 1) w0, .pointer none] ((List.replicate 64 xZ).flatMap encFJob) [I 0, I 0, I 0, I 0, I 0, I 0, I 0, I 0, I 0, I 0]) :: d0 :: [(b0, .cells (encCfg c).toArray 26 (0, 0))] :: k1 :: l1 :: (acs ++ [h0]).flatten :: (dcs ++ [j0]).flatten :: cs) := Sat.perm (show Sat W _ ((Tri c0 102 [I c.workers, I c.tileW, I c.tileH, I c.arena, I c.deque, I c.tasks, I c.cells, I c.jobs, .slice (At a0 0) ((c.workers).toNat) ((c.workers).toNat), .slice p0 (an + 1) q0, .slice v0 (dn + 1) w0, .pointer none] ((List.replicate 64 xZ).flatMap encFJob) [I 0, I 0, I 0, I 0, I 0, I 0, I 0, I 0, I 0, I 0]) :: d0 :: [(b0, .cells (encCfg c).toArray 26 (0, 0))] :: k1 :: l1 :: acs.flatten :: h0 :: dcs.flatten :: j0 :: cs) from y2) (by simp)
 exact ⟨(i + 1, p0, (an + 1), q0, k1, (ap ++ [k0]), (acs ++ [h0]), v0, (dn + 1), w0, l1, (dp ++ [i0]), (dcs ++ [j0])), od, alA, z2, om, t2, u2, (by rw [List.replicate_succ']; exact Obs.snoc hAs a1), (by rw [List.replicate_succ']; exact Obs.snoc hDs b1)⟩
end Go.Proofs.YtegmennaekipaaaGreat

namespace Go.Proofs.YtegmennaekipaaaGreat
open Go Go.E
set_option linter.unusedVariables false
set_option linter.unusedSimpArgs false
set_option linter.unnecessarySimpa false
set_option maxRecDepth 100000
set_option maxHeartbeats 2000000
variable {W w : World} {H : Chunk} {F : List Chunk}

theorem JobM.none {x : FJob} {s : JS} {c : Chunk} (h : JobM x s c) (ha : s.added = false) : c = [] := by
  rcases h with ⟨_, _, h⟩ | ⟨h, _⟩
  · exact h
  · rw [ha] at h; cases h
theorem f_add {p : Nat} {F : FS} {M : Chunk} {F0 : List Chunk} (hR : FarmR p F M) {K : Int} {j : JS} (hF : FW F K) (hst : StOk F.st K) (x : Int) (al : Option Addr) (nl kl : Nat) (l : List Task) (bd : Int) (hl : RdT encTask 9 [H] al nl kl l) (dl : ∀ z ∈ l, Task.Ok [H] z) (hx : 0 ≤ x ∧ x < 64) (hj : F.jobs[x.toNat]? = some j) (ha : j.added = false) (hb : 0 ≤ bd ∧ bd < 4) (hv : validC l = 0) (hsc : ∀ z ∈ l, z.scratch ≤ F.cfg.arena) (hct : 0 ≤ F.cfg.tasks ∧ F.cfg.tasks ≤ 4096) (htk : ((l.length : Nat) : Int) ≤ F.cfg.tasks - loadL F.jobs) (hS : Sat W w (M :: H :: F0)) :
  Calls Tryz.prog 18 #[Pt p 0, I x, .slice al nl kl, I bd] w fun e w' => ∃ M' : Chunk, e = .returned (I 0) ∧ FarmR p (addF F x l bd) M' ∧ Sat W w' (M' :: H :: F0) := by
 have hl_l := hl.le; have hn_l := hl.len
 obtain ⟨wa, aa, da, wn, wk, an, ak, dn, dk, q, xs, ap, dp, Wc, Ac, Dc, Qc, acs, dcs, jcs, rfl, hOw, hOa, hOd, hAs, hDs, hQ, hJs, hxl⟩ := hR
 have hS : Sat W _ ((Tri p 102 (preF F.cfg wa wn wk aa an ak da dn dk q) (xs.flatMap encFJob) (encStt F.st)) :: Wc :: Ac :: Dc :: acs.flatten :: dcs.flatten :: Qc :: jcs.flatten :: H :: F0) := Sat.perm hS (by simp [Value.cells])
 have hwl := hOw.len; have hwk := hOw.le; have hal := hOa.len; have hak := hOa.le; have hdl := hOd.len; have hdk := hOd.le; have has1 := hAs.1; have hds1 := hDs.1; have hjs1 := hJs.1
 have hal_ := hF.al; have hdl_ := hF.dl; have hjl_ := hF.jl; have hn_ := hF.n; have hk_ := hF.k; have hs1 := hst.a; have hs2 := hst.b; have hs3 := hst.c; have hs4 := hst.d; have hs5 := hst.e; have hs6 := hst.f; have hs7 := hst.g
 have hjt : ∀ j ∈ F.jobs, j.tasks.length ≤ 4096 := fun j hj => (hF.j j hj).n; have hl0 : 0 ≤ loadL F.jobs := Int.natCast_nonneg _; have hvz := validC_zero hv; have hlb := hvz.2.1; have hb0 := hct.1
 refine callsA 120 Tryz.func18 rfl ?_
 refine sR <| pu1 <| nT <| seqE <| blockE <| sR <| pu1 ?_
 refine cX Tryz.call56 (f_zero om hS) ?_
 rintro _ _ ⟨rfl, z0⟩
 refine pu1 <| nT <| cFf <| sR <| pu3 ?_
 refine sD 22 (x < 0) (fun q1 => ?_) (fun q1 => ?_)
 ·refine pu4 <| nT <| cTt <| sR <| pu1 <| nT <| retE <| blockK_r <| thenK_r <| retT [I 16] ?_
  omega
 refine pu4 <| nT ?_
 refine cD (x ≥ 64) (fun r1 => ?_) (fun r1 => ?_)
 ·refine sR <| pu1 <| nT <| retE <| blockK_r <| thenK_r <| retT [I 16] ?_
  omega
 refine sR <| pu4 ?_
 obtain ⟨j0, k0⟩ := at_some hxl (k := (x.toNat)) om
 obtain ⟨a1, u3, b1, c1, d1⟩ := Obs.get hJs k0; obtain ⟨s1, v3, w3, x3⟩ := d1.fields; have y3 := hF.j a1 (List.mem_of_getElem? b1)
 obtain rfl : a1 = j := Option.some.inj (b1.symm.trans hj); have hna : ¬ j0.added = true := by rw [s1, ha]; decide
 have hcn := d1.none ha; subst hcn
 refine sIdxA (b := p) (off := 12) x (x.toNat) Tryz.runUnderlying100 Tryz.sizeOf99 ?_
 refine pu1 ?_
 refine sLp z0 (ptr_up 0 rfl (tri_el (sz := 5) (n0 := 12) fR k0)) 0 (.bool j0.added) (Tryz.isAgg4 _) ?_
 refine pu1 <| nT ?_
 have t1 : ¬ (j0.added = true) := hna
 refine cF _ (Bool.eq_false_iff.2 t1) ?_
 refine sR <| pu3 ?_
 refine sD 37 (bd < 0) (fun u1 => ?_) (fun u1 => ?_)
 ·refine pu4 <| nT <| cTt <| sR <| pu1 <| nT <| retE <| blockK_r <| thenK_r <| retT [I 2] ?_
  omega
 refine pu4 <| nT ?_
 refine cD (bd ≥ 4) (fun v1 => ?_) (fun v1 => ?_)
 ·refine sR <| pu1 <| nT <| retE <| blockK_r <| thenK_r <| retT [I 2] ?_
  omega
 refine skipE <| blockK_n <| thenK_n <| sR <| pu1 ?_
 refine cX Tryz.call57 (r25_new al nl kl l (RdT.flat (hl.up 8 (by rfl))) (fun z hz => (dl z hz).of_mem (mem_flat1 8 (by rfl))) (Sat.flat z0)) ?_
 rintro _ _ (⟨t0, rfl, u0⟩ | ⟨t0, b0, d0, rfl, e1, u0⟩)
 ·have a4 := Sat.unflat u0
  refine pu5 <| nT <| seqE <| sR <| pu2 <| nT ?_
  have w1 : ¬ (((validC l) : Int) = 0) := t0
  refine cT _ (bne_iff_ne.2 w1) ?_
  refine sR <| pu2 <| nT <| retE <| thenK_r <| retT [I (validC l)] ?_
  exact absurd hv t0
 have x1 := Sat.unflat1 u0
 refine pu5 <| nT <| seqE <| sR <| pu2 <| nT <| cFf <| kT <| sR <| pu3 ?_
 refine sAlloc x1 Tryz.zeroValue99 ?_
 intro c0 _ y1
 refine sT y1 0 0 (.agg #[.bool true, .bool true, I bd, .slice none 0 0, Pt b0 0]) [.bool true, .bool true, I bd, .slice none 0 0, Pt b0 0] #[.bool true, .bool true, I bd, .slice none 0 0, Pt b0 0] Tryz.sizeOf99 ?_
 intro _ z1
 refine nT <| seqE <| sR <| pu1 <| nT <| blockE ?_
 have a2 := Sat.nilc z1
 have b2 := OwnT.nil (enc := encTask) (E := 45) (sz := 9) fR
 have c2 := Sat.nilc a2
 refine loopA (γ := Nat × (List Task) × (Option Addr) × Nat × Nat × Chunk × Chunk) (fun ⟨i, zs, azs, nzs, kzs, czs, Gzs⟩ => [(0, Pt p 0), (1, I x), (2, .slice al nl kl), (3, I bd), (9, Pt b0 0), (11, Pt c0 0), (12, I ((i : Nat) : Int))]) (fun ⟨i, zs, azs, nzs, kzs, czs, Gzs⟩ w => Sat W w (Gzs :: czs :: [(c0, .cells #[.bool true, .bool true, I bd, .slice azs nzs kzs, Pt b0 0] 99 (0, 0))] :: d0 :: (Tri p 102 (preF F.cfg wa wn wk aa an ak da dn dk q) (xs.flatMap encFJob) (encStt F.st)) :: Wc :: Ac :: Dc :: acs.flatten :: dcs.flatten :: Qc :: jcs.flatten :: H :: F0) ∧ i ≤ nl ∧ (zs.map Task.v = (l.take i).map Task.v) ∧ (zs.length = i) ∧ OwnT encTask 45 9 azs nzs kzs zs czs ∧ (∀ z ∈ zs, Task.Ok [Gzs] z)) (fun ⟨i, zs, azs, nzs, kzs, czs, Gzs⟩ => nl - i) (0, [], none, 0, 0, [], []) ⟨c2, om, rfl, rfl, b2, (by intro z hz; cases hz)⟩ ?_
 rintro ⟨i, zs, azs, nzs, kzs, czs, Gzs⟩ ρ _ ⟨h0, hi, hzv, hzl, hOzs, hDzs⟩
 have hn_zs := hOzs.len; have hl_zs := hOzs.le
 refine seqE <| sR <| pu4 <| nT ?_
 refine cD (((i : Nat) : Int) < ((nl : Nat) : Int)) (fun d2 => ?_) (fun d2 => ?_)
 ·refine kT <| seqE <| blockE <| seqE <| seqE ?_
  obtain ⟨a0, f1, g1, e0, e2, f2⟩ := RdT.elem hl ((i : Nat) : Int)
  rw [Int.toNat_natCast] at e0
  have hsc_x_31 := hsc a0 (List.mem_of_getElem? e0); have htd_x_31 := (dl a0 (List.mem_of_getElem? e0)).deps.len; have htk_x_31 := (dl a0 (List.mem_of_getElem? e0)).deps.le; have hal_x_31 := asc_len om (taskOK_asc (tasksOK_at hvz.2.2 e0))
  refine drawE [] [(4, ⟨f1, g1 + 8, none⟩, I a0.scratch), (9, ⟨p, 3, none⟩, I F.cfg.arena)] [(true, [0, 1]), (true, [2]), (true, [3, 5, 6, 7, 8]), (true, [4]), (true, [9]), (true, [10])] rfl kr ⟨.inr ((e2.up 12 rfl).cell h0 (k := 8) rfl), .inr (cell_up h0 4 rfl (k := 3) tri_pre rfl), trivial⟩ ?_
  have h1 := h0.drew
  refine wU [0, 1] ?_
  refine wY (.pointer (some ⟨f1, g1, none⟩)) rfl (fun w _ => Y_idx (a := al) (i := ((i : Nat) : Int)) (len := nl) (cap := kl) rfl Tryz.runUnderlying39 Tryz.sizeOf45 kr kr f2) ?_
  refine wU [3, 5, 6, 7, 8] ?_
  refine wLd (I a0.scratch) 0 Tryz.isAgg3 ?_
  refine wLd (I F.cfg.arena) 1 Tryz.isAgg3 ?_
  refine wU [10] ?_
  refine wN ?_
  refine thenK_n ?_
  refine cD (a0.scratch > F.cfg.arena) (fun g2 => ?_) (fun g2 => ?_)
  ·refine sR <| pu1 <| nT <| retE <| tR <| thenK_r <| tR <| thenK_r <| retT [I 12] ?_
   omega
  refine kT <| sR <| pu2 ?_
  refine sIdx hl ((i : Nat) : Int) Tryz.runUnderlying39 Tryz.sizeOf45 ?_
  intro h2 _ _ f0 i2
  rw [Int.toNat_natCast] at f0
  obtain rfl : a0 = h2 := Option.some.inj (e0.symm.trans f0)
  have hsc_x_31 := hsc a0 (List.mem_of_getElem? f0); have htd_x_31 := (dl a0 (List.mem_of_getElem? f0)).deps.len; have htk_x_31 := (dl a0 (List.mem_of_getElem? f0)).deps.le; have hal_x_31 := asc_len om (taskOK_asc (tasksOK_at hvz.2.2 f0))
  refine sLpA h1 (i2.up 12 rfl) 0 (encTask a0) (Tryz.isAgg45 _) (Tryz.sizeOf45 _) ?_
  refine sAlloc h1 Tryz.zeroValue45 ?_
  intro _ _ j2
  refine sT j2 0 0 (.agg (encTask a0).toArray) (encTask a0) (encTask a0).toArray Tryz.sizeOf45 ?_
  intro _ i1
  refine nT <| sR <| pu1 ?_
  refine sL i1 0 6 (.slice a0.deps.a a0.deps.n a0.deps.k) (Tryz.isAgg22 _) ?_
  have k2 := Sat.nilc i1
  have l2 := OwnT.nil (enc := encI) (E := 3) (sz := 1) fR
  refine sApp (nb := 8) k2 l2 0 ((dl a0 (List.mem_of_getElem? f0)).deps.up 14 rfl) Tryz.underlying22 (i := Tryz.t3) kr fR ?_
  intro l0 m0 o0 _ m2 n2
  refine pu1 ?_
  refine tW n2 1 6 (.slice l0 (0 + a0.deps.n) m0) Tryz.sizeOf22 ?_
  intro _ v0
  refine nT <| regionE <| pu1 ?_
  refine sL v0 4 3 (.slice azs nzs kzs) (Tryz.isAgg39 _) ?_
  refine lA v0 1 0 9 (Tryz.isAgg45 _) (Tryz.sizeOf45 _) ?_
  refine sBS v0 #[I a0.stage, I a0.part, I a0.rectX0, I a0.rectY0, I a0.rectX1, I a0.rectY1, .slice l0 (0 + a0.deps.n) m0, I a0.rows, I a0.scratch] Tryz.runUnderlying39 Tryz.sizeOf45 Tryz.zeroValue45 ?_
  intro _ _ o2
  refine sApp (nb := 88) o2 hOzs 4 (RdT.blk (enc := encTask) (sz := 9) (xs := [(⟨a0.stage, a0.part, a0.rectX0, a0.rectY0, a0.rectX1, a0.rectY1, ⟨l0, (0 + a0.deps.n), m0, ([] ++ a0.deps.l)⟩, a0.rows, a0.scratch⟩ : Task)]) fR 1 0 rfl rfl rfl om) Tryz.underlying39 (i := Tryz.t45) kr fR ?_
  intro p0 q0 w0 _ p2 q2
  refine pu1 ?_
  refine tW q2 5 3 (.slice p0 (nzs + 1) q0) Tryz.sizeOf39 ?_
  intro _ r2
  refine nB <| regionE <| pu1 ?_
  refine sAdd ((i : Nat) : Int) 1 ?_
  refine pu1 <| nT ?_
  have s2 := (r2.drops [0, 1])
  have t2 := (Sat.perm (cs' := (o0 ++ Gzs) :: (w0 :: [(c0, .cells #[.bool true, .bool true, I bd, .slice p0 (nzs + 1) q0, Pt b0 0] 99 (0, 0))] :: d0 :: (Tri p 102 (preF F.cfg wa wn wk aa an ak da dn dk q) (xs.flatMap encFJob) (encStt F.st)) :: Wc :: Ac :: Dc :: acs.flatten :: dcs.flatten :: Qc :: jcs.flatten :: H :: F0)) (show Sat W _ (o0 :: Gzs :: w0 :: [(c0, .cells #[.bool true, .bool true, I bd, .slice p0 (nzs + 1) q0, Pt b0 0] 99 (0, 0))] :: d0 :: (Tri p 102 (preF F.cfg wa wn wk aa an ak da dn dk q) (xs.flatMap encFJob) (encStt F.st)) :: Wc :: Ac :: Dc :: acs.flatten :: dcs.flatten :: Qc :: jcs.flatten :: H :: F0) from s2) (by simp))
  exact ⟨(i + 1, (zs ++ [(⟨a0.stage, a0.part, a0.rectX0, a0.rectY0, a0.rectX1, a0.rectY1, ⟨l0, (0 + a0.deps.n), m0, ([] ++ a0.deps.l)⟩, a0.rows, a0.scratch⟩ : Task)]), p0, (nzs + 1), q0, w0, (o0 ++ Gzs)), od, alA, t2, om, (by rw [List.map_append, hzv, take_succ_at e0, List.map_append]; rfl), by first | omega | (simp; omega), p2, (by
    intro z hz
    rcases List.mem_append.1 hz with h | h
    ·exact (hDzs z h).of_mem mS
    ·simp only [List.mem_singleton] at h; subst h; exact ⟨(m2.rdAt (cs := [o0]) 0 rfl).of_mem mS⟩)⟩
 refine exitE <| xB <| thenK_n <| seqE <| seqE ?_
 refine drawE [8] [(6, ⟨p, 5, none⟩, I F.cfg.tasks)] [(true, [0, 1, 2, 3, 4, 5, 7]), (true, [6]), (false, [8]), (true, [9]), (true, [10])] rfl kr ⟨.inr (cell_up h0 4 rfl (k := 5) tri_pre rfl), trivial⟩ ?_
 have u2 := h0.drew
 refine wU [0, 1, 2, 3, 4, 5, 7] ?_
 refine wLd (I F.cfg.tasks) 0 Tryz.isAgg3 ?_
 refine wO rfl ?_
 have v2 := (u2.pick 4 rfl)
 refine cX Tryz.call58 (f_load hJs hxl hjt v2) ?_
 rintro _ _ ⟨rfl, g0⟩
 refine nilO ⟨⟨.inr (cell_up g0 0 rfl (k := 5) tri_pre rfl), trivial⟩, ?_⟩
 refine wSub F.cfg.tasks (loadL F.jobs) ?_
 refine wU [10] ?_
 refine wN ?_
 refine thenK_n ?_
 refine cD (((nl : Nat) : Int) > (F.cfg.tasks - (loadL F.jobs))) (fun w2 => ?_) (fun w2 => ?_)
 ·refine sR <| pu1 <| nT <| retE <| thenK_r <| retT [I 13] ?_
  omega
 refine kT <| seqE ?_
 refine drawE [6] [(2, ⟨c0, 0, none⟩, .bool true), (2, ⟨c0, 1, none⟩, .bool true), (2, ⟨c0, 2, none⟩, I bd), (2, ⟨c0, 3, none⟩, .slice azs nzs kzs), (2, ⟨c0, 4, none⟩, Pt b0 0)] [(true, [0, 1, 3, 4]), (true, [2]), (true, [5]), (false, [6])] rfl kr ⟨.inr (g0.cell 3 rfl rfl), .inr (g0.cell 3 rfl rfl), .inr (g0.cell 3 rfl rfl), .inr (g0.cell 3 rfl rfl), .inr (g0.cell 3 rfl rfl), trivial⟩ ?_
 have x2 := g0.drew
 refine wU [0, 1, 3, 4] ?_
 refine wY (.agg #[.bool true, .bool true, I bd, .slice azs nzs kzs, Pt b0 0]) rfl (fun w hF => Y_loadF rfl (Tryz.isAgg99 w) (Tryz.sizeOf99 w) kr rfl ⟨hF 0 _ _ rfl, hF 1 _ _ rfl, hF 2 _ _ rfl, hF 3 _ _ rfl, hF 4 _ _ rfl, trivial⟩) ?_
 refine wY (.pointer (some ⟨p, 12 + (x.toNat) * 5, none⟩)) rfl (fun w _ => Y_idxA (b := p) (off := 12) x (x.toNat) Tryz.runUnderlying100 Tryz.sizeOf99) ?_
 refine wO rfl ?_
 refine sTel (enc := encFJob) (sz := 5) x2 fR 0 (x.toNat) 12 0 j0 (⟨true, true, bd, ⟨azs, nzs, kzs, zs⟩, some ⟨b0, 0, none⟩⟩ : FJob) k0 (.agg #[.bool true, .bool true, I bd, .slice azs nzs kzs, Pt b0 0]) [.bool true, .bool true, I bd, .slice azs nzs kzs, Pt b0 0] Tryz.sizeOf99 ?_
 intro _ y2
 refine nilO ⟨dA, ?_⟩
 refine wN ?_
 refine thenK_n <| sR <| pu1 ?_
 have z2 := (y2.pick 4 rfl)
 refine cX Tryz.call59 (r_ready e1 (new_wf hv) (Sat.flat1 z2)) ?_
 rintro _ _ ⟨j1, i0, k1, x0, rfl, y0, a3⟩
 have b3 := Sat.unflat2 a3; have hn_az_84 := y0.len; have hl_az_84 := y0.le
 refine pu1 <| nT <| seqE <| sR <| pu1 <| nT <| blockE ?_
 refine loopA (γ := Nat × QS × Chunk) (fun ⟨i, qi, Qci⟩ => [(0, Pt p 0), (1, I x), (3, I bd), (14, .slice j1 i0 k1), (15, I ((i : Nat) : Int))]) (fun ⟨i, qi, Qci⟩ w => Sat W w (x0 :: d0 :: (Tri p 102 (preF F.cfg wa wn wk aa an ak da dn dk q) ((xs.set (x.toNat) (⟨true, true, bd, ⟨azs, nzs, kzs, zs⟩, some ⟨b0, 0, none⟩⟩ : FJob)).flatMap encFJob) (encStt F.st)) :: Gzs :: czs :: [(c0, .cells #[.bool true, .bool true, I bd, .slice azs nzs kzs, Pt b0 0] 99 (0, 0))] :: Wc :: Ac :: Dc :: acs.flatten :: dcs.flatten :: Qci :: jcs.flatten :: H :: F0) ∧ i ≤ i0 ∧ (InjR q qi Qci) ∧ (qi = readyQ x bd F.q ((idxOf 2 0 (newB l).st).take i))) (fun ⟨i, qi, Qci⟩ => i0 - i) (0, F.q, Qc) ⟨b3, om, hQ, rfl⟩ ?_
 rintro ⟨i, qi, Qci⟩ ρ _ ⟨r0, hi, hQi, hqe⟩
 refine seqE <| sR <| pu4 <| nT ?_
 refine cD (((i : Nat) : Int) < ((i0 : Nat) : Int)) (fun c3 => ?_) (fun c3 => ?_)
 ·refine kT <| seqE <| blockE ?_
  obtain ⟨s0, l1, m1, n1, o1, d3⟩ := RdT.elem y0 ((i : Nat) : Int)
  rw [Int.toNat_natCast] at n1
  refine drawE [11] [(3, ⟨p, 11, none⟩, Pt q 0), (8, ⟨l1, m1, none⟩, I s0)] [(true, [0, 1, 2, 4, 5, 6]), (true, [7]), (true, [10]), (true, [3]), (true, [8]), (true, [9]), (false, [11])] rfl kr ⟨.inr (cell_up r0 2 rfl (k := 11) tri_pre rfl), .inr ((o1.up 0 rfl).cell r0 (k := 0) rfl), trivial⟩ ?_
  have e3 := r0.drew
  refine wU [0, 1, 2, 4, 5, 6] ?_
  refine wY (.pointer (some ⟨l1, m1, none⟩)) rfl (fun w _ => Y_idx (a := j1) (i := ((i : Nat) : Int)) (len := i0) (cap := k1) rfl Tryz.runUnderlying22 Tryz.sizeOf3 kr kr d3) ?_
  refine wU [10] ?_
  refine wLd (Pt q 0) 0 Tryz.isAgg96 ?_
  refine wLd (I s0) 1 Tryz.isAgg3 ?_
  refine wU [9] ?_
  refine wO rfl ?_
  have f3 := (e3.pick 11 rfl)
  refine cX Tryz.call60 (iq_push hQi (⟨x, s0⟩ : Ref) bd om (Sat.flat1 f3)) ?_
  rintro _ _ ⟨g3, rfl, h3, i3⟩
  have p1 := Sat.unflat1 i3
  refine nilO ⟨⟨dI, .inr ((o1.up 1 rfl).cell p1 (k := 0) rfl), trivial⟩, ?_⟩
  refine wN ?_
  refine blockK_n <| thenK_n <| regionE <| pu1 ?_
  refine sAdd ((i : Nat) : Int) 1 ?_
  refine pu1 <| nT ?_
  have j3 := (p1.picks [11, 11, 11, 11, 11, 11, 11, 11, 11, 11, 11])
  exact ⟨(i + 1, (pushQ qi (⟨x, s0⟩ : Ref) bd), g3), od, alA, j3, om, h3, (by rw [ready_take n1, ← hqe])⟩
 refine exitE <| xB <| thenK_n <| sR <| pu1 <| nT <| retE <| retT [I 0] ?_
 have k3 := (r0.pick 12 rfl)
 have l3 := Sat.openN (A := []) (x.toNat) c1 k3
 have m3 := (l3.picks [1, 1, 3, 6, 6])
 have n3 : Sat W _ (((Gzs ++ czs) ++ d0) :: (jcs.eraseIdx (x.toNat)).flatten :: x0 :: (Tri p 102 (preF F.cfg wa wn wk aa an ak da dn dk q) ((xs.set (x.toNat) (⟨true, true, bd, ⟨azs, nzs, kzs, zs⟩, some ⟨b0, 0, none⟩⟩ : FJob)).flatMap encFJob) (encStt F.st)) :: [(c0, .cells #[.bool true, .bool true, I bd, .slice azs nzs kzs, Pt b0 0] 99 (0, 0))] :: Wc :: Ac :: Dc :: acs.flatten :: dcs.flatten :: Qci :: H :: F0) := Sat.perm (show Sat W _ (Gzs :: czs :: d0 :: [] :: (jcs.eraseIdx (x.toNat)).flatten :: x0 :: (Tri p 102 (preF F.cfg wa wn wk aa an ak da dn dk q) ((xs.set (x.toNat) (⟨true, true, bd, ⟨azs, nzs, kzs, zs⟩, some ⟨b0, 0, none⟩⟩ : FJob)).flatMap encFJob) (encStt F.st)) :: [(c0, .cells #[.bool true, .bool true, I bd, .slice azs nzs kzs, Pt b0 0] 99 (0, 0))] :: Wc :: Ac :: Dc :: acs.flatten :: dcs.flatten :: Qci :: H :: F0) from m3) (by simp [Value.cells])
 have o3 := Sat.shutN (d := (Gzs ++ czs) ++ d0) (A := []) (x.toNat) c1 n3
 rw [List.take_of_length_le om] at hzv
 have p3 := Obs.set3 (p' := (⟨true, true, bd, ⟨azs, nzs, kzs, zs⟩, some ⟨b0, 0, none⟩⟩ : FJob)) hJs k0 (JobM.mk (s := jobN l bd) (T := (Gzs ++ czs)) rfl ((hOzs.rdAt (cs := [Gzs, czs]) 1 rfl).of_mem (fun p hp => by simp at hp ⊢; exact hp)) (fun z hz => (hDzs z hz).of_mem mS) hzv e1)
 have q3 := ((o3.picks [9, 9, 9, 9, 9, 9, 8]).drops [8, 8])
 have r3 := (q3.merge8)
 have he : addF F x l bd = (⟨F.cfg, F.ws, F.ar, F.dq, qi, (F.jobs.set (x.toNat) (jobN l bd)), F.st⟩ : FS) := by unfold addF; rw [hqe, List.take_of_length_le om]
 exact ⟨_, rfl, by rw [he]; exact ⟨_, _, _, _, _, _, _, _, _, _, _, _, _, _, _, _, _, _, _, _, rfl, hOw, hOa, hOd, hAs, hDs, hQi, p3, (set_len hxl)⟩, r3⟩
end Go.Proofs.YtegmennaekipaaaGreat

namespace Go.Proofs.YtegmennaekipaaaGreat
open Go Go.E
set_option linter.unusedVariables false
set_option linter.unusedSimpArgs false
set_option linter.unnecessarySimpa false
set_option maxRecDepth 100000
set_option maxHeartbeats 2000000
variable {W w : World} {H : Chunk} {F : List Chunk}
/-- The configuration and the number of workers do not change. -/
def Same (F G : FS) : Prop := G.cfg = F.cfg ∧ G.ws.length = F.ws.length
theorem Same.take {F : FS} {x : Int} {r : Ref} : Same F (takeF F x r) := ⟨rfl, by simp [takeF]⟩
theorem Same.trans {F G H : FS} (h : Same F G) (k : Same G H) : Same F H := ⟨k.1.trans h.1, k.2.trans h.2⟩
theorem spill_same {x job band : Int} : ∀ (l : List Int) {F : FS}, Same F (spillF F x job band l)
  | [], _ => ⟨rfl, rfl⟩
  | t :: l, F => by
    have h : Same F (spill1 F x ⟨job, t⟩ band) := by unfold spill1; split <;> exact ⟨rfl, rfl⟩
    exact h.trans (spill_same l)
theorem micro_same {F : FS} {x : Int} : Same F (microF F x).1 := by
  unfold microF
  simp only
  split
  · exact ⟨rfl, by simp⟩
  · split
    · exact ⟨rfl, by simp⟩
    · split <;> exact ⟨(spill_same _).1, (spill_same _).2.trans (by simp)⟩
theorem acq_same {F F' : FS} {x c : Int} {ev : Evt} (he : acqF F x c = some (F', ev)) : Same F F' := by
  unfold acqF at he
  split at he
  · obtain ⟨rfl, _⟩ := Prod.mk.inj (Option.some.inj he); exact Same.take (F := popF F x _)
  · split at he
    · obtain ⟨rfl, _⟩ := Prod.mk.inj (Option.some.inj he); exact ⟨rfl, by simp [takeF]⟩
    · unfold stealF at he
      split at he
      · cases he
      · split at he
        · cases he
        · obtain ⟨rfl, _⟩ := Prod.mk.inj (Option.some.inj he); exact ⟨rfl, by simp [takeF, popF]⟩
theorem step_same {F : FS} {x c : Int} : Same F (stepF F x c).1 := by
  unfold stepF
  split
  · exact ⟨rfl, rfl⟩
  · split
    · exact ⟨rfl, rfl⟩
    · split
      · split
        · exact micro_same
        · exact ⟨rfl, by simp [dropF, clearF]⟩
      · unfold restF
        split
        · rename_i q hq; exact acq_same (ev := q.2) hq
        · split
          · exact Same.trans (G := helpF F) ⟨rfl, rfl⟩ micro_same
          · exact ⟨rfl, rfl⟩
theorem crash_same {F : FS} {x : Int} : Same F (crashF F x).1 := by
  unfold crashF
  split
  · exact ⟨rfl, rfl⟩
  · split
    · exact ⟨rfl, rfl⟩
    · have h : Same F (retJ F (wAt F x)) := by unfold retJ; split <;> exact ⟨rfl, rfl⟩
      exact h.trans ⟨rfl, by simp [crashW, clearF, popF]⟩
theorem restart_same {F : FS} {x : Int} : Same F (restartF F x).1 := by
  unfold restartF
  split
  · exact ⟨rfl, rfl⟩
  · split
    · exact ⟨rfl, by simp [idleF]⟩
    · exact ⟨rfl, rfl⟩
theorem cancel_same {F : FS} {k : Int} : Same F (cancelF F k).1 := by
  unfold cancelF
  split
  · exact ⟨rfl, rfl⟩
  · split <;> exact ⟨rfl, rfl⟩
def totS (S : List (Bool × Nat)) : Nat := (S.map fun q => if q.1 then q.2 else 0).sum
theorem load_le : ∀ {l : List JS}, (∀ j ∈ l, j.running = true → j.added = true) → loadL l ≤ ((totS (shapeF l) : Nat) : Int)
  | [], _ => by simp [loadL, totS, shapeF]
  | j :: l, h => by
    have ih := load_le (l := l) (fun y hy => h y (List.mem_cons_of_mem _ hy))
    have h1 := h j List.mem_cons_self
    simp only [loadL, totS, shapeF, List.map_cons, List.filter_cons, List.sum_cons] at ih ⊢
    cases hr : j.running
    · simp only [Bool.false_eq_true, if_false]; split <;> omega
    · simp only [if_true, h1 hr, List.map_cons, List.sum_cons]; omega
theorem tot_set : ∀ {S : List (Bool × Nat)} {k m n : Nat}, S[k]? = some (false, m) → totS (S.set k (true, n)) = totS S + n
  | [], _, _, _, h => by cases h
  | q :: S, 0, m, n, h => by
    simp only [List.getElem?_cons_zero, Option.some.injEq] at h
    subst h; simp [totS]; omega
  | q :: S, k + 1, m, n, h => by
    have ih := tot_set (S := S) (k := k) (m := m) (n := n) (by simpa using h)
    simp only [totS, List.set_cons_succ, List.map_cons, List.sum_cons] at ih ⊢; omega
/-! ### a farm that is played on: the configuration, the deques' limits, which jobs were added -/
def DI (F : FS) : Prop := ∀ d ∈ F.dq, ((d.l.length : Nat) : Int) ≤ d.cap ∧ d.cap = F.cfg.deque
theorem DI.at {F : FS} {x : Int} (h : DI F) (hx : x.toNat < F.dq.length) : (((dqAt F x).l.length : Nat) : Int) ≤ (dqAt F x).cap ∧ (dqAt F x).cap = F.cfg.deque := by
  have : dqAt F x ∈ F.dq := by unfold dqAt; rw [List.getD_eq_getElem?_getD, List.getElem?_eq_getElem hx]; exact List.getElem_mem hx
  exact h _ this
theorem DI.set {F G : FS} {k : Nat} {d : DS} (h : DI F) (hc : G.cfg = F.cfg) (hd : G.dq = F.dq.set k d) (hk : k < F.dq.length → ((d.l.length : Nat) : Int) ≤ d.cap ∧ d.cap = F.cfg.deque) : DI G := by
  intro e he
  rw [hd] at he; rw [hc]
  by_cases hl : k < F.dq.length
  · rcases List.mem_or_eq_of_mem_set he with h1 | rfl
    · exact h e h1
    · exact hk hl
  · rw [List.set_eq_of_length_le (by omega)] at he; exact h e he
theorem DI.keep {F G : FS} (h : DI F) (hc : G.cfg = F.cfg) (hd : G.dq = F.dq) : DI G := by unfold DI; rw [hd, hc]; exact h
theorem DI.pop {F : FS} {x : Int} {l : List Ref} (h : DI F) (hl : l.length ≤ (dqAt F x).l.length) : DI (popF F x l) := h.set rfl rfl fun k => by
  have := h.at k
  exact ⟨by show ((l.length : Nat) : Int) ≤ _; have := this.1; show ((l.length : Nat) : Int) ≤ (dqAt F x).cap; omega, this.2⟩
theorem DI.spill1 {F : FS} {x : Int} {r : Ref} {b : Int} (h : DI F) : DI (spill1 F x r b) := by
  unfold Go.Proofs.YtegmennaekipaaaGreat.spill1
  split
  · rename_i hp
    refine h.set rfl rfl fun k => ?_
    have h1 := h.at k
    have e : F.dq.getD x.toNat default = dqAt F x := rfl
    rw [e] at hp ⊢
    unfold pushD; rw [if_pos hp]
    unfold pushC at hp
    split at hp
    · cases hp
    · exact ⟨by simp only [List.length_append, List.length_singleton]; omega, h1.2⟩
  · exact h.keep rfl rfl
theorem DI.spill {x job band : Int} : ∀ (l : List Int) {F : FS}, DI F → DI (spillF F x job band l)
  | [], _, h => h
  | t :: l, F, h => DI.spill l (F := Go.Proofs.YtegmennaekipaaaGreat.spill1 F x ⟨job, t⟩ band) h.spill1
theorem DI.micro {F : FS} {x : Int} (h : DI F) : DI (microF F x).1 := by
  unfold microF
  simp only
  split
  · exact h.keep rfl rfl
  · split
    · exact h.keep rfl rfl
    · split
      · refine DI.spill _ ?_; exact h.keep rfl rfl
      · refine DI.spill _ ?_; exact h.keep rfl rfl
theorem DI.take {F : FS} {x : Int} {r : Ref} (h : DI F) : DI (takeF F x r) := h.keep rfl rfl
theorem DI.acq {F F' : FS} {x c : Int} {ev : Evt} (h : DI F) (he : acqF F x c = some (F', ev)) : DI F' := by
  unfold acqF at he
  split at he
  · obtain ⟨rfl, _⟩ := Prod.mk.inj (Option.some.inj he); exact (h.pop (by simp)).take
  · split at he
    · obtain ⟨rfl, _⟩ := Prod.mk.inj (Option.some.inj he); exact DI.take (h.keep rfl rfl)
    · unfold stealF at he
      split at he
      · cases he
      · split at he
        · cases he
        · obtain ⟨rfl, _⟩ := Prod.mk.inj (Option.some.inj he); exact DI.keep (F := popF F (chF F c _) (dqAt F (chF F c _)).l.tail) (h.pop (by simp)) rfl rfl
theorem DI.step {F : FS} {x c : Int} (h : DI F) : DI (stepF F x c).1 := by
  unfold stepF
  split
  · exact h
  · split
    · exact h
    · split
      · split
        · exact h.micro
        · exact h.keep rfl rfl
      · unfold restF
        split
        · rename_i q hq; exact h.acq (ev := q.2) hq
        · split
          · exact DI.micro (h.keep rfl rfl)
          · exact h
theorem DI.crash {F : FS} {x : Int} (h : DI F) : DI (crashF F x).1 := by
  unfold crashF
  split
  · exact h
  · split
    · exact h
    · have h1 : DI (retJ F (wAt F x)) := by unfold retJ; split <;> exact h.keep rfl rfl
      exact DI.keep (F := popF (retJ F (wAt F x)) x []) (h1.pop (Nat.zero_le _)) rfl rfl
theorem DI.restart {F : FS} {x : Int} (h : DI F) : DI (restartF F x).1 := by
  unfold restartF
  split
  · exact h
  · split
    · exact h.keep rfl rfl
    · exact h
theorem DI.cancel {F : FS} {k : Int} (h : DI F) : DI (cancelF F k).1 := by
  unfold cancelF
  split
  · exact h
  · split
    · exact h
    · intro d hd
      obtain ⟨e, he, rfl⟩ := List.mem_map.1 (show d ∈ F.dq.map (rmD k) from hd)
      have h1 := h e he
      exact ⟨by have := without_len k e.l; show ((_ : Nat) : Int) ≤ e.cap; have := h1.1; simp only [rmD]; omega, h1.2⟩
/-- After K calls on a farm of this configuration, with n jobs. -/
structure PJ (c : Cfg) (F : FS) (K : Int) (n : Nat) : Prop where
  j : FJ F K n
  cf : F.cfg = c
  ws : F.ws.length = c.workers.toNat
  dq : DI F
  s1 : ∀ k, n ≤ k → k < 64 → ∃ m, (shapeF F.jobs)[k]? = some (false, m)
  s0 : ∀ k, k < n → ∃ m, (shapeF F.jobs)[k]? = some (true, m)
  s2 : totS (shapeF F.jobs) ≤ 8 * n
theorem PJ.op {c : Cfg} {F G : FS} {K L : Int} {n : Nat} (h : PJ c F K n) (hj : FJ G L n) (hs : Same F G) (hd : DI G) (e : shapeF G.jobs = shapeF F.jobs) : PJ c G L n :=
  ⟨hj, hs.1.trans h.cf, hs.2.trans h.ws, hd, by rw [e]; exact h.s1, by rw [e]; exact h.s0, by rw [e]; exact h.s2⟩
theorem PJ.mono {c : Cfg} {F : FS} {K L : Int} {n : Nat} (h : PJ c F K n) (hk : K ≤ L) (hL : L ≤ 4096) : PJ c F L n := ⟨h.j.mono hk hL (Nat.le_refl _), h.cf, h.ws, h.dq, h.s1, h.s0, h.s2⟩
theorem PJ.step {c : Cfg} {F : FS} {K : Int} {n : Nat} (x y : Int) (h : PJ c F K n) (hK : K + 1 ≤ 4096) : PJ c (stepF F x y).1 (K + 1) n := h.op (h.j.step hK) step_same h.dq.step (step_ok h.j.i.fw h.j.i.st hK).2.2
theorem PJ.crash {c : Cfg} {F : FS} {K : Int} {n : Nat} (x : Int) (h : PJ c F K n) (hK : K + 1 ≤ 4096) : PJ c (crashF F x).1 (K + 1) n := h.op (h.j.crash hK) crash_same h.dq.crash (crash_ok h.j.i.fw h.j.i.st hK).2.2
theorem PJ.restart {c : Cfg} {F : FS} {K : Int} {n : Nat} (x : Int) (h : PJ c F K n) (hK : K + 1 ≤ 4096) : PJ c (restartF F x).1 (K + 1) n := h.op (h.j.restart hK) restart_same h.dq.restart (restart_ok h.j.i.fw h.j.i.st hK).2.2
theorem PJ.cancel {c : Cfg} {F : FS} {K : Int} {n : Nat} (x : Int) (h : PJ c F K n) (hK : K + 1 ≤ 4096) : PJ c (cancelF F x).1 (K + 1) n := h.op (h.j.cancel hK) cancel_same h.dq.cancel (cancel_ok h.j.i.fw h.j.i.st hK).2.2
theorem PJ.new {c : Cfg} (hv : validCfg c = 0) : PJ c (newF c) 0 0 := by
  refine ⟨FJ.new hv, rfl, by simp [newF], ?_, ?_, ?_, ?_⟩
  · intro d hd
    simp only [newF] at hd
    obtain rfl := List.eq_of_mem_replicate hd
    have := validCfg_zero hv
    exact ⟨by show (0 : Int) ≤ c.deque; omega, rfl⟩
  · intro k _ hk
    exact ⟨0, by simp only [newF, shapeF, List.map_replicate, List.getElem?_replicate, if_pos hk]; rfl⟩
  · intro k hk; omega
  · simp only [newF, shapeF, List.map_replicate, totS]; simp [JS.zero]
theorem PJ.fresh {c : Cfg} {F : FS} {K : Int} {n : Nat} (h : PJ c F K n) (hn : n < 64) : ∃ j, F.jobs[((n : Nat) : Int).toNat]? = some j ∧ j.added = false := by
  obtain ⟨m, hm⟩ := h.s1 n (Nat.le_refl _) hn
  rw [Int.toNat_natCast]
  unfold shapeF at hm; rw [List.getElem?_map] at hm
  cases hj : F.jobs[n]? with
  | none => rw [hj] at hm; cases hm
  | some j => rw [hj] at hm; exact ⟨j, rfl, (Prod.mk.inj (Option.some.inj hm)).1⟩
theorem PJ.load {c : Cfg} {F : FS} {K : Int} {n : Nat} (h : PJ c F K n) : loadL F.jobs ≤ 8 * ((n : Nat) : Int) := by
  have h1 := load_le (l := F.jobs) (fun j hj => (h.j.i.fw.j j hj).r)
  have h2 := h.s2
  omega
theorem PJ.add {c : Cfg} {F : FS} {K bd : Int} {n : Nat} {l : List Task} (h : PJ c F K n) (hn : n < 8) (hb : 0 ≤ bd ∧ bd < 4) (hv : validC l = 0) (hs : ∀ z ∈ l, z.scratch ≤ F.cfg.arena) (hc : 64 ≤ c.tasks) (hl : l.length ≤ 8) : PJ c (addF F ((n : Nat) : Int) l bd) K (n + 1) := by
 obtain ⟨j, hj, ha⟩ := h.fresh om
 have hld := h.load
 obtain ⟨m, hm⟩ := h.s1 n (Nat.le_refl _) om
 have e : shapeF (addF F ((n : Nat) : Int) l bd).jobs = (shapeF F.jobs).set n (true, l.length) := by
  simp only [addF, shapeF, List.map_set, Int.toNat_natCast, jobN, List.length_map]
 have hL : (shapeF F.jobs).length = 64 := by unfold shapeF; rw [List.length_map]; exact h.j.i.fw.jl
 refine ⟨h.j.add om hj ha hb hv hs (by rw [h.cf]; omega) om, h.cf, h.ws, h.dq.keep rfl rfl, ?_, ?_, ?_⟩
 ·intro k h1 h2
  obtain ⟨m2, hm2⟩ := h.s1 k om h2
  exact ⟨m2, by rw [e, List.getElem?_set, if_neg om]; exact hm2⟩
 ·intro k hk
  by_cases h1 : k = n
  ·subst h1; exact ⟨l.length, by rw [e, List.getElem?_set, if_pos rfl, if_pos om]⟩
  ·obtain ⟨m2, hm2⟩ := h.s0 k om
   exact ⟨m2, by rw [e, List.getElem?_set, if_neg om]; exact hm2⟩
 ·rw [e, tot_set hm]; have := h.s2; omega
theorem tg_config {p : Nat} {a : Option Addr} {n k : Nat} {i : Int} {xs : List Int} (hR : RdT encI 1 [H] a n k xs) (hi : 0 ≤ i ∧ i ≤ n) (hS : Sat W w ([(p, .cells #[.slice a n k, I i] 73 (0, 0))] :: H :: F))  :
  Calls Tryz.prog 9 #[Pt p 0] w fun e w' => ∃ (c : Cfg), e = .returned (.agg (encCfg c).toArray) ∧ (validCfg c = 0) ∧ (c.workers ≤ 4) ∧ ∃ i' : Int, (0 ≤ i' ∧ i' ≤ n) ∧ Sat W w' ([(p, .cells #[.slice a n k, I i'] 73 (0, 0))] :: H :: F) := by
 have hle := hR.le
 refine callsA 28 Tryz.func9 rfl ?_
 refine sR ?_
 refine sAlloc hS Tryz.zeroValue26 ?_
 intro _ _ j0
 refine nT <| sR <| pu1 ?_
 have k0 := (j0.pick 1 rfl)
 refine cX Tryz.call10 (tape_next (RdT.flat (hR.up 1 (by rfl))) om (Sat.flat1 k0) 4 om) ?_
 rintro _ _ ⟨f0, rfl, _, _, _, l0⟩
 have m0 := Sat.unflat1 l0
 refine sAdd 1 f0 ?_
 refine pu1 ?_
 refine cX Tryz.call10 (tape_next (RdT.flat (hR.up 1 (by rfl))) om (Sat.flat1 m0) 4 om) ?_
 rintro _ _ ⟨g0, rfl, _, _, _, n0⟩
 have o0 := Sat.unflat1 n0
 refine sAdd 1 g0 ?_
 refine pu1 ?_
 refine cX Tryz.call10 (tape_next (RdT.flat (hR.up 1 (by rfl))) om (Sat.flat1 o0) 4 om) ?_
 rintro _ _ ⟨h0, rfl, _, _, _, p0⟩
 have q0 := Sat.unflat1 p0
 refine sAdd 1 h0 ?_
 refine pu1 ?_
 refine sBS q0 #[I 4096, I 65536, I 512] Tryz.runUnderlying22 Tryz.sizeOf3 Tryz.zeroValue3 ?_
 intro _ _ r0
 have s0 := (r0.pick 1 rfl)
 refine cX Tryz.call16 (tape_pick (RdT.flat (hR.up 2 (by rfl))) om (Sat.flat1 s0) (RdT.flat (RdT.blk (enc := encI) (sz := 1) (xs := [4096, 65536, 512]) (fun _ => (by rfl)) 3 0 rfl rfl rfl om)) om om) ?_
 rintro _ _ ⟨a0, rfl, t0, _, _, u0⟩
 have v0 := Sat.unflat1 u0
 have k2 : (a0 : Int) = 4096 ∨ (a0 : Int) = 65536 ∨ (a0 : Int) = 512 := by simpa using t0
 refine pu1 ?_
 refine sBS v0 #[I 1, I 2, I 8] Tryz.runUnderlying22 Tryz.sizeOf3 Tryz.zeroValue3 ?_
 intro _ _ w0
 have x0 := (w0.pick 1 rfl)
 refine cX Tryz.call16 (tape_pick (RdT.flat (hR.up 3 (by rfl))) om (Sat.flat1 x0) (RdT.flat (RdT.blk (enc := encI) (sz := 1) (xs := [1, 2, 8]) (fun _ => (by rfl)) 3 0 rfl rfl rfl om)) om om) ?_
 rintro _ _ ⟨b0, rfl, y0, _, _, z0⟩
 have a1 := Sat.unflat1 z0
 have q2 : (b0 : Int) = 1 ∨ (b0 : Int) = 2 ∨ (b0 : Int) = 8 := by simpa using y0
 refine pu1 ?_
 refine sBS a1 #[I 512, I 4096, I 60] Tryz.runUnderlying22 Tryz.sizeOf3 Tryz.zeroValue3 ?_
 intro _ _ b1
 have c1 := (b1.pick 1 rfl)
 refine cX Tryz.call16 (tape_pick (RdT.flat (hR.up 4 (by rfl))) om (Sat.flat1 c1) (RdT.flat (RdT.blk (enc := encI) (sz := 1) (xs := [512, 4096, 60]) (fun _ => (by rfl)) 3 0 rfl rfl rfl om)) om om) ?_
 rintro _ _ ⟨c0, rfl, d1, _, _, e1⟩
 have f1 := Sat.unflat1 e1
 have w2 : (c0 : Int) = 512 ∨ (c0 : Int) = 4096 ∨ (c0 : Int) = 60 := by simpa using d1
 refine pu1 ?_
 refine sBS f1 #[I 20000, I 500] Tryz.runUnderlying22 Tryz.sizeOf3 Tryz.zeroValue3 ?_
 intro _ _ g1
 have h1 := (g1.pick 1 rfl)
 refine cX Tryz.call16 (tape_pick (RdT.flat (hR.up 5 (by rfl))) om (Sat.flat1 h1) (RdT.flat (RdT.blk (enc := encI) (sz := 1) (xs := [20000, 500]) (fun _ => (by rfl)) 2 0 rfl rfl rfl om)) om om) ?_
 rintro _ _ ⟨e0, rfl, i1, _, _, j1⟩
 have k1 := Sat.unflat1 j1
 have c3 : (e0 : Int) = 20000 ∨ (e0 : Int) = 500 := by simpa using i1
 refine pu1 ?_
 refine sBS k1 #[I 8, I 64, I 2] Tryz.runUnderlying22 Tryz.sizeOf3 Tryz.zeroValue3 ?_
 intro _ _ l1
 have m1 := (l1.pick 1 rfl)
 refine cX Tryz.call16 (tape_pick (RdT.flat (hR.up 6 (by rfl))) om (Sat.flat1 m1) (RdT.flat (RdT.blk (enc := encI) (sz := 1) (xs := [8, 64, 2]) (fun _ => (by rfl)) 3 0 rfl rfl rfl om)) om om) ?_
 rintro _ _ ⟨d0, rfl, n1, _, _, o1⟩
 have p1 := Sat.unflat1 o1
 have i3 : (d0 : Int) = 8 ∨ (d0 : Int) = 64 ∨ (d0 : Int) = 2 := by simpa using n1
 refine pu1 ?_
 refine sT p1 6 0 (.agg #[I (1 + f0), I (1 + g0), I (1 + h0), I a0, I b0, I c0, I e0, I d0]) [I (1 + f0), I (1 + g0), I (1 + h0), I a0, I b0, I c0, I e0, I d0] #[I (1 + f0), I (1 + g0), I (1 + h0), I a0, I b0, I c0, I e0, I d0] Tryz.sizeOf26 ?_
 intro _ i0
 refine nT <| retE <| retN (vs := [.agg #[I (1 + f0), I (1 + g0), I (1 + h0), I a0, I b0, I c0, I e0, I d0]]) rfl (.cons (.cell _ _ _ _ kr (lvA i0 6 0 [I (1 + f0), I (1 + g0), I (1 + h0), I a0, I b0, I c0, I e0, I d0] (Tryz.isAgg26 _) (Tryz.sizeOf26 _) rfl rfl rfl)) .nil) ?_
 have hv : validCfg (⟨(1 + f0), (1 + g0), (1 + h0), a0, b0, c0, e0, d0⟩ : Cfg) = 0 := by unfold validCfg; rw [if_pos (by dsimp only; omega)]
 have q1 := (i0.drops [1, 1, 1, 1, 1, 1])
 exact ⟨_, rfl, hv, by dsimp only; omega, _, om, q1⟩
end Go.Proofs.YtegmennaekipaaaGreat
