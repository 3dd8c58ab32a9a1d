import Derived.Test.YtcddcpaodcjecaaRefP
namespace Go.Proofs.Ytcddcpaodcjecaa
open Go Go.E
set_option linter.unusedVariables false
set_option linter.unusedSimpArgs false
set_option linter.unnecessarySimpa false
set_option maxRecDepth 100000
set_option maxHeartbeats 2000000

-- squeezed
def twoP (s : StageV) : Prop := s.kind = 6 ∧ ¬ s.b = -1
instance (s : StageV) : Decidable (twoP s) := by unfold twoP; infer_instance
def szP (s : Shape) : Prop := 1 ≤ s.w ∧ s.w ≤ 128 ∧ 1 ≤ s.h ∧ s.h ≤ 128 ∧ s.w * s.h ≤ 4096 ∧ 1 ≤ s.max_ ∧ s.max_ ≤ 4294967296
instance (s : Shape) : Decidable (szP s) := by unfold szP; infer_instance
def kernelV (q : StageV) (s t : Shape) : Shape × Int :=
  if q.kind = 1 then (⟨s.w, s.h, q.max_⟩, convCode s.max_ q.kW q.kH q.weights q.shift q.max_)
  else if q.kind = 2 then (⟨s.w, s.h, q.max_⟩, sepCode s.max_ q.row q.col q.shift q.shift2 q.max_)
  else if q.kind = 3 then (⟨q.x.length, q.y.length, q.max_⟩, resCode s.w s.h s.max_ q.x q.y q.shift q.shift2 q.max_)
  else if q.kind = 4 then (if 1 ≤ q.bins ∧ q.bins ≤ 128 then (⟨q.bins, 1, s.w * s.h⟩, 0) else (⟨s.w, s.h, q.max_⟩, 9))
  else if q.kind = 5 then (if mostOK s.w s.h s.max_ = true then (⟨s.w, s.h, mostV s.w s.h s.max_⟩, 0) else (⟨s.w, s.h, q.max_⟩, 11))
  else if pwCode q.ops (decide (q.kind = 6 ∧ ¬ q.b = -1)) s.max_ t.max_ q.max_ = 0 then (if (q.kind = 6 ∧ ¬ q.b = -1) ∧ ¬ (s.w = t.w ∧ s.h = t.h) then (⟨s.w, s.h, q.max_⟩, 8) else (⟨s.w, s.h, q.max_⟩, 0))
  else (⟨s.w, s.h, q.max_⟩, pwCode q.ops (decide (q.kind = 6 ∧ ¬ q.b = -1)) s.max_ t.max_ q.max_)
def edgeP (q : StageV) (m : Int) : Prop := (q.edgePolicy = 3 ∧ 0 ≤ q.edgeFill ∧ q.edgeFill ≤ m) ∨ (0 ≤ q.edgePolicy ∧ q.edgePolicy < 3 ∧ q.edgeFill = 0)
instance (q : StageV) (m : Int) : Decidable (edgeP q m) := by unfold edgeP; infer_instance
def ofV (q : StageV) (s t : Shape) : Shape × Int :=
  if fieldsP q then (if szP s ∧ (¬ twoP q ∨ szP t) then (if ¬ (q.kind = 1 ∨ q.kind = 2 ∨ q.kind = 3) ∨ edgeP q s.max_ then (if (kernelV q s t).2 = 0 then ((kernelV q s t).1, 0) else (⟨0, 0, 0⟩, (kernelV q s t).2)) else (⟨0, 0, 0⟩, 1)) else (⟨0, 0, 0⟩, 2)) else (⟨0, 0, 0⟩, 1)
theorem r15_kernel (W w : World) (H : Chunk) (F : List Chunk) (q : Stage) (s : Shape) (t : Shape) (hq : Stage.Ok [H] q) (hs : szP s) (hS : Sat W w (H :: F)) :
  Calls Try.prog 75 #[.agg (encStage q).toArray, .agg #[I s.w, I s.h, I s.max_], .agg #[I t.w, I t.h, I t.max_]] w fun e w' => e = .returned (.tuple #[.agg #[I ((kernelV q.v s t).1.w), I ((kernelV q.v s t).1.h), I ((kernelV q.v s t).1.max_)], I ((kernelV q.v s t).2)]) ∧ Sat W w' (H :: F) := by
 have hl_q_weights := hq.weights.le; have hn_q_weights := hq.weights.len
 have hl_q_row := hq.row.le; have hn_q_row := hq.row.len
 have hl_q_col := hq.col.le; have hn_q_col := hq.col.len
 have hl_q_x := hq.x.le; have hn_q_x := hq.x.len
 have hl_q_y := hq.y.le; have hn_q_y := hq.y.len
 have hl_q_ops := hq.ops.le; have hn_q_ops := hq.ops.len
 have hmx : (q.x.l.map Tap.v).length = q.x.n := by simp [hn_q_x]
 have hmy : (q.y.l.map Tap.v).length = q.y.n := by simp [hn_q_y]
 refine callsE (n := 140) Try.func75 rfl rfl (Nat.le_of_ble_eq_true rfl) ?_
 refine sR ?_
 refine sBox hS (.agg (encStage q).toArray) (encStage q).toArray ?_
 intro b0 _ e2
 refine sBox e2 (.agg #[I s.w, I s.h, I s.max_]) #[I s.w, I s.h, I s.max_] ?_
 intro e0 _ f2
 refine sBox f2 (.agg #[I t.w, I t.h, I t.max_]) #[I t.w, I t.h, I t.max_] ?_
 intro g2 _ h2
 refine sAlloc h2 Try.zeroValue55 ?_
 intro _ _ m0
 refine pu1 <| nT <| seqE ?_
 have hs2 := hs; unfold szP at hs2; have hwh := mul_bd (a := s.w) (b := s.h) (A := 128) (B := 128) om om
 refine regionE <| pu1 ?_
 refine sL m0 2 0 (I s.w) (Try.isAgg3 _) ?_
 refine pu1 ?_
 refine sL m0 2 1 (I s.h) (Try.isAgg3 _) ?_
 refine pu1 ?_
 refine sL m0 3 17 (I q.max_) (Try.isAgg3 _) ?_
 refine pu1 ?_
 refine sAlloc m0 Try.zeroValue55 ?_
 intro f0 _ i2
 refine sTw i2 0 [I s.w, I s.h, I q.max_] Try.sizeOf55 ?_
 intro _ a0
 try dsimp only [List.set, List.eraseIdx, Value.cells] at a0
 refine nT <| seqE <| sR <| pu1 ?_
 refine sL a0 4 0 (I q.kind) (Try.isAgg3 _) ?_
 refine nT <| blockE <| sR <| pu2 <| nT ?_
 by_cases c1 : (q.kind : Int) = 1
 ·refine cT _ (beq_iff_eq.2 c1) ?_
  refine seqE ?_
  refine drawE [13, 14] [(0, ⟨f0, 0, none⟩, I s.w), (0, ⟨f0, 1, none⟩, I s.h), (0, ⟨f0, 2, none⟩, I q.max_), (2, ⟨e0, 2, none⟩, I s.max_), (4, ⟨b0, 6, none⟩, I q.kW), (6, ⟨b0, 7, none⟩, I q.kH), (8, ⟨b0, 8, none⟩, .slice q.weights.a q.weights.n q.weights.k), (10, ⟨b0, 11, none⟩, I q.shift), (12, ⟨b0, 17, none⟩, I q.max_)] [(true, [1, 3, 5, 7, 9, 11]), (true, [0]), (true, [2]), (true, [4]), (true, [6]), (true, [8]), (true, [10]), (true, [12]), (false, [13]), (false, [14]), (true, [15])] rfl kr ⟨.inr (a0.cell 0 rfl rfl), .inr (a0.cell 0 rfl rfl), .inr (a0.cell 0 rfl rfl), .inr (a0.cell 3 rfl rfl), .inr (a0.cell 4 rfl rfl), .inr (a0.cell 4 rfl rfl), .inr (a0.cell 4 rfl rfl), .inr (a0.cell 4 rfl rfl), .inr (a0.cell 4 rfl rfl), trivial⟩ ?_
  have j2 := a0.drew
  refine wU [1, 3, 5, 7, 9, 11] ?_
  refine wS (.agg #[I s.w, I s.h, I q.max_]) rfl rfl rfl (fun w hF => Y_loadF rfl (Try.isAgg55 w) (Try.sizeOf55 w) kr rfl ⟨hF 0 _ _ rfl, hF 1 _ _ rfl, hF 2 _ _ rfl, trivial⟩) ?_
  refine wS (I s.max_) rfl rfl rfl (fun w hF => Y_load rfl (Try.isAgg3 w) kr (hF 3 _ _ rfl)) ?_
  refine wS (I q.kW) rfl rfl rfl (fun w hF => Y_load rfl (Try.isAgg3 w) kr (hF 4 _ _ rfl)) ?_
  refine wS (I q.kH) rfl rfl rfl (fun w hF => Y_load rfl (Try.isAgg3 w) kr (hF 5 _ _ rfl)) ?_
  refine wS (.slice q.weights.a q.weights.n q.weights.k) rfl rfl rfl (fun w hF => Y_load rfl (Try.isAgg22 w) kr (hF 6 _ _ rfl)) ?_
  refine wS (I q.shift) rfl rfl rfl (fun w hF => Y_load rfl (Try.isAgg3 w) kr (hF 7 _ _ rfl)) ?_
  refine wS (I q.max_) rfl rfl rfl (fun w hF => Y_load rfl (Try.isAgg3 w) kr (hF 8 _ _ rfl)) ?_
  refine wO rfl ?_
  refine sF #[I s.max_, I q.kW, I q.kH, .slice q.weights.a q.weights.n q.weights.k, I q.shift, I q.max_] Try.call78 (Calls.mono (r9_check W _ _ [] s.max_ q.kW q.kH q.weights.a q.weights.n q.weights.k q.weights.l q.shift q.max_ (RdT.flat (hq.weights.up 5 (by rfl))) (Sat.flat j2)) ?_)
  rintro _ _ ⟨rfl, d1⟩
  refine ⟨_, rfl, ?_⟩
  have i0 := Sat.unflat d1; clear d1
  try dsimp only [List.set, List.eraseIdx, Value.cells] at i0
  refine nilO ⟨⟨.inr (i0.cell 0 rfl rfl), .inr (i0.cell 0 rfl rfl), .inr (i0.cell 0 rfl rfl), dI, dI, dI, dI, dI, dI, trivial⟩, ?_⟩
  refine wO rfl ?_
  refine sTw i0 1 [I s.w, I s.h, I q.max_] Try.sizeOf55 ?_
  intro _ n0
  try dsimp only [List.set, List.eraseIdx, Value.cells] at n0
  refine nilO ⟨dA, ?_⟩
  refine wU [15] ?_
  refine wN ?_
  refine thenK_n ?_
  refine retE (blockK_r <| thenK_r <| ?_)
  refine retN (vs := [.agg #[I s.w, I s.h, I q.max_], I (convCode s.max_ q.kW q.kH q.weights.l q.shift q.max_)]) rfl (.cons (.cell _ _ _ _ kr (lvA n0 1 0 [I s.w, I s.h, I q.max_] (Try.isAgg55 _) (Try.sizeOf55 _) rfl rfl rfl)) (.cons (.tmp _ _ kr) .nil)) ?_
  have e1 := ((((((n0.pick 5 rfl).dropAt 1 rfl).dropAt 1 rfl).dropAt 1 rfl).dropAt 1 rfl).dropAt 1 rfl)
  change Sat _ _ (H :: F) at e1
  have hk : kernelV q.v s t = ((⟨s.w, s.h, q.max_⟩ : Shape), (convCode s.max_ q.kW q.kH q.weights.l q.shift q.max_)) := by
   unfold kernelV; rw [if_pos (by simp only [Stage.v]; omega)] <;> rfl
  exact ⟨by rw [hk]; rfl, e1⟩
 refine cF _ (beq_eq_false_iff_ne.2 c1) ?_
 refine sR <| pu2 <| nT ?_
 by_cases f1 : (q.kind : Int) = 2
 ·refine cT _ (beq_iff_eq.2 f1) ?_
  refine seqE ?_
  refine drawE [13, 14] [(0, ⟨f0, 0, none⟩, I s.w), (0, ⟨f0, 1, none⟩, I s.h), (0, ⟨f0, 2, none⟩, I q.max_), (2, ⟨e0, 2, none⟩, I s.max_), (4, ⟨b0, 9, none⟩, .slice q.row.a q.row.n q.row.k), (6, ⟨b0, 10, none⟩, .slice q.col.a q.col.n q.col.k), (8, ⟨b0, 11, none⟩, I q.shift), (10, ⟨b0, 12, none⟩, I q.shift2), (12, ⟨b0, 17, none⟩, I q.max_)] [(true, [1, 3, 5, 7, 9, 11]), (true, [0]), (true, [2]), (true, [4]), (true, [6]), (true, [8]), (true, [10]), (true, [12]), (false, [13]), (false, [14]), (true, [15])] rfl kr ⟨.inr (a0.cell 0 rfl rfl), .inr (a0.cell 0 rfl rfl), .inr (a0.cell 0 rfl rfl), .inr (a0.cell 3 rfl rfl), .inr (a0.cell 4 rfl rfl), .inr (a0.cell 4 rfl rfl), .inr (a0.cell 4 rfl rfl), .inr (a0.cell 4 rfl rfl), .inr (a0.cell 4 rfl rfl), trivial⟩ ?_
  have k2 := a0.drew
  refine wU [1, 3, 5, 7, 9, 11] ?_
  refine wS (.agg #[I s.w, I s.h, I q.max_]) rfl rfl rfl (fun w hF => Y_loadF rfl (Try.isAgg55 w) (Try.sizeOf55 w) kr rfl ⟨hF 0 _ _ rfl, hF 1 _ _ rfl, hF 2 _ _ rfl, trivial⟩) ?_
  refine wS (I s.max_) rfl rfl rfl (fun w hF => Y_load rfl (Try.isAgg3 w) kr (hF 3 _ _ rfl)) ?_
  refine wS (.slice q.row.a q.row.n q.row.k) rfl rfl rfl (fun w hF => Y_load rfl (Try.isAgg22 w) kr (hF 4 _ _ rfl)) ?_
  refine wS (.slice q.col.a q.col.n q.col.k) rfl rfl rfl (fun w hF => Y_load rfl (Try.isAgg22 w) kr (hF 5 _ _ rfl)) ?_
  refine wS (I q.shift) rfl rfl rfl (fun w hF => Y_load rfl (Try.isAgg3 w) kr (hF 6 _ _ rfl)) ?_
  refine wS (I q.shift2) rfl rfl rfl (fun w hF => Y_load rfl (Try.isAgg3 w) kr (hF 7 _ _ rfl)) ?_
  refine wS (I q.max_) rfl rfl rfl (fun w hF => Y_load rfl (Try.isAgg3 w) kr (hF 8 _ _ rfl)) ?_
  refine wO rfl ?_
  refine sF #[I s.max_, .slice q.row.a q.row.n q.row.k, .slice q.col.a q.col.n q.col.k, I q.shift, I q.shift2, I q.max_] Try.call79 (Calls.mono (r10_check W _ _ [] s.max_ q.row.a q.row.n q.row.k q.row.l q.col.a q.col.n q.col.k q.col.l q.shift q.shift2 q.max_ (RdT.flat (hq.row.up 5 (by rfl))) (RdT.flat (hq.col.up 5 (by rfl))) (Sat.flat k2)) ?_)
  rintro _ _ ⟨rfl, g1⟩
  refine ⟨_, rfl, ?_⟩
  have j0 := Sat.unflat g1; clear g1
  try dsimp only [List.set, List.eraseIdx, Value.cells] at j0
  refine nilO ⟨⟨.inr (j0.cell 0 rfl rfl), .inr (j0.cell 0 rfl rfl), .inr (j0.cell 0 rfl rfl), dI, dI, dI, dI, dI, dI, trivial⟩, ?_⟩
  refine wO rfl ?_
  refine sTw j0 1 [I s.w, I s.h, I q.max_] Try.sizeOf55 ?_
  intro _ o0
  try dsimp only [List.set, List.eraseIdx, Value.cells] at o0
  refine nilO ⟨dA, ?_⟩
  refine wU [15] ?_
  refine wN ?_
  refine thenK_n ?_
  refine retE (blockK_r <| thenK_r <| ?_)
  refine retN (vs := [.agg #[I s.w, I s.h, I q.max_], I (sepCode s.max_ q.row.l q.col.l q.shift q.shift2 q.max_)]) rfl (.cons (.cell _ _ _ _ kr (lvA o0 1 0 [I s.w, I s.h, I q.max_] (Try.isAgg55 _) (Try.sizeOf55 _) rfl rfl rfl)) (.cons (.tmp _ _ kr) .nil)) ?_
  have h1 := ((((((o0.pick 5 rfl).dropAt 1 rfl).dropAt 1 rfl).dropAt 1 rfl).dropAt 1 rfl).dropAt 1 rfl)
  change Sat _ _ (H :: F) at h1
  have hk : kernelV q.v s t = ((⟨s.w, s.h, q.max_⟩ : Shape), (sepCode s.max_ q.row.l q.col.l q.shift q.shift2 q.max_)) := by
   unfold kernelV; rw [if_neg (by simp only [Stage.v]; omega), if_pos (by simp only [Stage.v]; omega)] <;> rfl
  exact ⟨by rw [hk]; rfl, h1⟩
 refine cF _ (beq_eq_false_iff_ne.2 f1) ?_
 refine sR <| pu2 <| nT ?_
 by_cases i1 : (q.kind : Int) = 3
 ·refine cT _ (beq_iff_eq.2 i1) ?_
  refine seqE ?_
  refine drawE [20, 21] [(1, ⟨b0, 13, none⟩, .slice q.x.a q.x.n q.x.k), (4, ⟨b0, 14, none⟩, .slice q.y.a q.y.n q.y.k), (7, ⟨b0, 17, none⟩, I q.max_), (9, ⟨e0, 0, none⟩, I s.w), (9, ⟨e0, 1, none⟩, I s.h), (9, ⟨e0, 2, none⟩, I s.max_), (11, ⟨b0, 13, none⟩, .slice q.x.a q.x.n q.x.k), (13, ⟨b0, 14, none⟩, .slice q.y.a q.y.n q.y.k), (15, ⟨b0, 11, none⟩, I q.shift), (17, ⟨b0, 12, none⟩, I q.shift2), (19, ⟨b0, 17, none⟩, I q.max_)] [(true, [0, 3, 6, 10, 12, 14, 16, 18]), (true, [1]), (true, [2]), (true, [4]), (true, [5]), (true, [7]), (true, [8]), (true, [9]), (true, [11]), (true, [13]), (true, [15]), (true, [17]), (true, [19]), (false, [20]), (false, [21]), (true, [22])] rfl kr ⟨.inr (a0.cell 4 rfl rfl), .inr (a0.cell 4 rfl rfl), .inr (a0.cell 4 rfl rfl), .inr (a0.cell 3 rfl rfl), .inr (a0.cell 3 rfl rfl), .inr (a0.cell 3 rfl rfl), .inr (a0.cell 4 rfl rfl), .inr (a0.cell 4 rfl rfl), .inr (a0.cell 4 rfl rfl), .inr (a0.cell 4 rfl rfl), .inr (a0.cell 4 rfl rfl), trivial⟩ ?_
  have l2 := a0.drew
  refine wU [0, 3, 6, 10, 12, 14, 16, 18] ?_
  refine wS (.slice q.x.a q.x.n q.x.k) rfl rfl rfl (fun w hF => Y_load rfl (Try.isAgg58 w) kr (hF 0 _ _ rfl)) ?_
  refine wU [2] ?_
  refine wS (.slice q.y.a q.y.n q.y.k) rfl rfl rfl (fun w hF => Y_load rfl (Try.isAgg58 w) kr (hF 1 _ _ rfl)) ?_
  refine wU [5] ?_
  refine wS (I q.max_) rfl rfl rfl (fun w hF => Y_load rfl (Try.isAgg3 w) kr (hF 2 _ _ rfl)) ?_
  refine wU [8] ?_
  refine wS (.agg #[I s.w, I s.h, I s.max_]) rfl rfl rfl (fun w hF => Y_loadF rfl (Try.isAgg55 w) (Try.sizeOf55 w) kr rfl ⟨hF 3 _ _ rfl, hF 4 _ _ rfl, hF 5 _ _ rfl, trivial⟩) ?_
  refine wS (.slice q.x.a q.x.n q.x.k) rfl rfl rfl (fun w hF => Y_load rfl (Try.isAgg58 w) kr (hF 6 _ _ rfl)) ?_
  refine wS (.slice q.y.a q.y.n q.y.k) rfl rfl rfl (fun w hF => Y_load rfl (Try.isAgg58 w) kr (hF 7 _ _ rfl)) ?_
  refine wS (I q.shift) rfl rfl rfl (fun w hF => Y_load rfl (Try.isAgg3 w) kr (hF 8 _ _ rfl)) ?_
  refine wS (I q.shift2) rfl rfl rfl (fun w hF => Y_load rfl (Try.isAgg3 w) kr (hF 9 _ _ rfl)) ?_
  refine wS (I q.max_) rfl rfl rfl (fun w hF => Y_load rfl (Try.isAgg3 w) kr (hF 10 _ _ rfl)) ?_
  refine wO rfl ?_
  refine sF #[.agg #[I s.w, I s.h, I s.max_], .slice q.x.a q.x.n q.x.k, .slice q.y.a q.y.n q.y.k, I q.shift, I q.shift2, I q.max_] Try.call80 (Calls.mono (r11_check W _ _ [] s q.x.a q.x.n q.x.k q.x.l q.y.a q.y.n q.y.k q.y.l q.shift q.shift2 q.max_ (RdT.flat (hq.x.up 5 (by rfl))) (fun z hz => (hq.xD z hz).of_mem (mem_flat1 5 (by rfl))) (RdT.flat (hq.y.up 5 (by rfl))) (fun z hz => (hq.yD z hz).of_mem (mem_flat1 5 (by rfl))) (Sat.flat l2)) ?_)
  rintro _ _ ⟨rfl, j1⟩
  refine ⟨_, rfl, ?_⟩
  have k0 := Sat.unflat j1; clear j1
  try dsimp only [List.set, List.eraseIdx, Value.cells] at k0
  refine nilO ⟨⟨.inr (k0.cell 4 rfl rfl), .inr (k0.cell 4 rfl rfl), .inr (k0.cell 4 rfl rfl), dI, dI, dI, dI, dI, dI, dI, dI, trivial⟩, ?_⟩
  refine wO rfl ?_
  refine sTw k0 1 [I ((q.x.n : Nat) : Int), I ((q.y.n : Nat) : Int), I q.max_] Try.sizeOf55 ?_
  intro _ p0
  try dsimp only [List.set, List.eraseIdx, Value.cells] at p0
  refine nilO ⟨dA, ?_⟩
  refine wU [22] ?_
  refine wN ?_
  refine thenK_n ?_
  refine retE (blockK_r <| thenK_r <| ?_)
  refine retN (vs := [.agg #[I ((q.x.n : Nat) : Int), I ((q.y.n : Nat) : Int), I q.max_], I (resCode s.w s.h s.max_ (q.x.l.map Tap.v) (q.y.l.map Tap.v) q.shift q.shift2 q.max_)]) rfl (.cons (.cell _ _ _ _ kr (lvA p0 1 0 [I ((q.x.n : Nat) : Int), I ((q.y.n : Nat) : Int), I q.max_] (Try.isAgg55 _) (Try.sizeOf55 _) rfl rfl rfl)) (.cons (.tmp _ _ kr) .nil)) ?_
  have k1 := ((((((p0.pick 5 rfl).dropAt 1 rfl).dropAt 1 rfl).dropAt 1 rfl).dropAt 1 rfl).dropAt 1 rfl)
  change Sat _ _ (H :: F) at k1
  have hk : kernelV q.v s t = ((⟨((q.x.n : Nat) : Int), ((q.y.n : Nat) : Int), q.max_⟩ : Shape), (resCode s.w s.h s.max_ (q.x.l.map Tap.v) (q.y.l.map Tap.v) q.shift q.shift2 q.max_)) := by
   unfold kernelV; rw [if_neg (by simp only [Stage.v]; omega), if_neg (by simp only [Stage.v]; omega), if_pos (by simp only [Stage.v]; omega)] <;> simp only [Stage.v, hmx, hmy]
  exact ⟨by rw [hk]; rfl, k1⟩
 refine cF _ (beq_eq_false_iff_ne.2 i1) ?_
 refine sR <| pu2 <| nT ?_
 by_cases l1 : (q.kind : Int) = 4
 ·refine cT _ (beq_iff_eq.2 l1) ?_
  refine seqE <| sR <| pu1 ?_
  refine sL a0 4 15 (I q.bins) (Try.isAgg3 _) ?_
  refine sF #[I q.bins] Try.call81 (Calls.mono (r12_bins W _ _ [] q.bins (Sat.flat a0)) ?_)
  rintro _ _ ⟨rfl, m1⟩
  refine ⟨_, rfl, ?_⟩
  have d0 := Sat.unflat m1; clear m1
  try dsimp only [List.set, List.eraseIdx, Value.cells] at d0
  refine pu1 <| nT ?_
  rcases Classical.em ((1 : Int) ≤ q.bins ∧ q.bins ≤ (128 : Int)) with q0 | q0
  rotate_left
  ·refine cT _ (congrArg Bool.not (decide_eq_false q0)) ?_
   refine sR ?_
   refine sLA d0 0 0 [I s.w, I s.h, I q.max_] (Try.isAgg55 _) (Try.sizeOf55 _) ?_
   refine sTw d0 1 [I s.w, I s.h, I q.max_] Try.sizeOf55 ?_
   intro _ r0
   try dsimp only [List.set, List.eraseIdx, Value.cells] at r0
   refine pu1 <| nT ?_
   refine retE (tR <| thenK_r <| ?_)
   refine retN (vs := [.agg #[I s.w, I s.h, I q.max_], I 9]) rfl (.cons (.cell _ _ _ _ kr (lvA r0 1 0 [I s.w, I s.h, I q.max_] (Try.isAgg55 _) (Try.sizeOf55 _) rfl rfl rfl)) (.cons (.tmp _ _ kr) .nil)) ?_
   have n1 := ((((((r0.pick 5 rfl).dropAt 1 rfl).dropAt 1 rfl).dropAt 1 rfl).dropAt 1 rfl).dropAt 1 rfl)
   change Sat _ _ (H :: F) at n1
   have hk : kernelV q.v s t = ((⟨s.w, s.h, q.max_⟩ : Shape), 9) := by
    unfold kernelV; rw [if_neg (by simp only [Stage.v]; omega), if_neg (by simp only [Stage.v]; omega), if_neg (by simp only [Stage.v]; omega), if_pos (by simp only [Stage.v]; omega), if_neg (by simp only [Stage.v]; omega)] <;> rfl
   exact ⟨by rw [hk]; rfl, n1⟩
  refine cF _ (congrArg Bool.not (decide_eq_true q0)) ?_
  refine kT <| sR <| pu1 ?_
  refine sL d0 4 15 (I q.bins) (Try.isAgg3 _) ?_
  refine pu1 ?_
  refine sL d0 3 0 (I s.w) (Try.isAgg3 _) ?_
  refine pu1 ?_
  refine sL d0 3 1 (I s.h) (Try.isAgg3 _) ?_
  refine sMul s.w s.h ?_
  refine pu1 ?_
  refine sTw d0 1 [I q.bins, I 1, I (s.w * s.h)] Try.sizeOf55 ?_
  intro _ s0
  try dsimp only [List.set, List.eraseIdx, Value.cells] at s0
  refine pu1 <| nT ?_
  refine retE (blockK_r <| thenK_r <| ?_)
  refine retN (vs := [.agg #[I q.bins, I 1, I (s.w * s.h)], I 0]) rfl (.cons (.cell _ _ _ _ kr (lvA s0 1 0 [I q.bins, I 1, I (s.w * s.h)] (Try.isAgg55 _) (Try.sizeOf55 _) rfl rfl rfl)) (.cons (.tmp _ _ kr) .nil)) ?_
  have o1 := ((((((s0.pick 5 rfl).dropAt 1 rfl).dropAt 1 rfl).dropAt 1 rfl).dropAt 1 rfl).dropAt 1 rfl)
  change Sat _ _ (H :: F) at o1
  have hk : kernelV q.v s t = ((⟨q.bins, 1, (s.w * s.h)⟩ : Shape), 0) := by
   unfold kernelV; rw [if_neg (by simp only [Stage.v]; omega), if_neg (by simp only [Stage.v]; omega), if_neg (by simp only [Stage.v]; omega), if_pos (by simp only [Stage.v]; omega), if_pos (by simp only [Stage.v]; omega)] <;> rfl
  exact ⟨by rw [hk]; rfl, o1⟩
 refine cF _ (beq_eq_false_iff_ne.2 l1) ?_
 refine sR <| pu2 <| nT ?_
 by_cases p1 : (q.kind : Int) = 5
 ·refine cT _ (beq_iff_eq.2 p1) ?_
  refine sR ?_
  refine sLA a0 3 0 [I s.w, I s.h, I s.max_] (Try.isAgg55 _) (Try.sizeOf55 _) ?_
  refine sF #[.agg #[I s.w, I s.h, I s.max_]] Try.call82 (Calls.mono (r13_most W _ _ [] s (Sat.flat a0)) ?_)
  rintro _ _ ⟨rfl, q1⟩
  refine ⟨_, rfl, ?_⟩
  have g0 := Sat.unflat q1; clear q1
  try dsimp only [List.set, List.eraseIdx, Value.cells] at g0
  refine pu5 <| nT <| seqE <| sR <| pu2 <| nT ?_
  rcases Classical.em ((mostOK s.w s.h s.max_) = true) with t0 | t0
  rotate_left
  ·refine cT _ (congrArg Bool.not (Bool.eq_false_iff.2 t0)) ?_
   refine sR ?_
   refine sLA g0 0 0 [I s.w, I s.h, I q.max_] (Try.isAgg55 _) (Try.sizeOf55 _) ?_
   refine sTw g0 1 [I s.w, I s.h, I q.max_] Try.sizeOf55 ?_
   intro _ u0
   try dsimp only [List.set, List.eraseIdx, Value.cells] at u0
   refine pu1 <| nT ?_
   refine retE (tR <| thenK_r <| ?_)
   refine retN (vs := [.agg #[I s.w, I s.h, I q.max_], I 11]) rfl (.cons (.cell _ _ _ _ kr (lvA u0 1 0 [I s.w, I s.h, I q.max_] (Try.isAgg55 _) (Try.sizeOf55 _) rfl rfl rfl)) (.cons (.tmp _ _ kr) .nil)) ?_
   have r1 := ((((((u0.pick 5 rfl).dropAt 1 rfl).dropAt 1 rfl).dropAt 1 rfl).dropAt 1 rfl).dropAt 1 rfl)
   change Sat _ _ (H :: F) at r1
   have hk : kernelV q.v s t = ((⟨s.w, s.h, q.max_⟩ : Shape), 11) := by
    unfold kernelV; rw [if_neg (by simp only [Stage.v]; omega), if_neg (by simp only [Stage.v]; omega), if_neg (by simp only [Stage.v]; omega), if_neg (by simp only [Stage.v]; omega), if_pos (by simp only [Stage.v]; omega), if_neg ‹_›] <;> rfl
   exact ⟨by rw [hk]; rfl, r1⟩
  refine cF _ (congrArg Bool.not t0) ?_
  refine kT <| sR <| pu1 ?_
  refine sL g0 3 0 (I s.w) (Try.isAgg3 _) ?_
  refine pu1 ?_
  refine sL g0 3 1 (I s.h) (Try.isAgg3 _) ?_
  refine pu2 ?_
  refine sTw g0 1 [I s.w, I s.h, I (mostV s.w s.h s.max_)] Try.sizeOf55 ?_
  intro _ v0
  try dsimp only [List.set, List.eraseIdx, Value.cells] at v0
  refine pu1 <| nT ?_
  refine retE (blockK_r <| thenK_r <| ?_)
  refine retN (vs := [.agg #[I s.w, I s.h, I (mostV s.w s.h s.max_)], I 0]) rfl (.cons (.cell _ _ _ _ kr (lvA v0 1 0 [I s.w, I s.h, I (mostV s.w s.h s.max_)] (Try.isAgg55 _) (Try.sizeOf55 _) rfl rfl rfl)) (.cons (.tmp _ _ kr) .nil)) ?_
  have s1 := ((((((v0.pick 5 rfl).dropAt 1 rfl).dropAt 1 rfl).dropAt 1 rfl).dropAt 1 rfl).dropAt 1 rfl)
  change Sat _ _ (H :: F) at s1
  have hk : kernelV q.v s t = ((⟨s.w, s.h, (mostV s.w s.h s.max_)⟩ : Shape), 0) := by
   unfold kernelV; rw [if_neg (by simp only [Stage.v]; omega), if_neg (by simp only [Stage.v]; omega), if_neg (by simp only [Stage.v]; omega), if_neg (by simp only [Stage.v]; omega), if_pos (by simp only [Stage.v]; omega), if_pos ‹_›] <;> rfl
  exact ⟨by rw [hk]; rfl, s1⟩
 refine cF _ (beq_eq_false_iff_ne.2 p1) ?_
 refine skipE <| blockK_n <| thenK_n <| seqE <| seqE ?_
 refine drawE [3, 10] [(1, ⟨b0, 16, none⟩, .slice q.ops.a q.ops.n q.ops.k), (2, ⟨b0, 0, none⟩, I q.kind), (2, ⟨b0, 1, none⟩, I q.a), (2, ⟨b0, 2, none⟩, I q.b), (2, ⟨b0, 3, none⟩, .bool q.barrier), (2, ⟨b0, 4, none⟩, I q.edgePolicy), (2, ⟨b0, 5, none⟩, I q.edgeFill), (2, ⟨b0, 6, none⟩, I q.kW), (2, ⟨b0, 7, none⟩, I q.kH), (2, ⟨b0, 8, none⟩, .slice q.weights.a q.weights.n q.weights.k), (2, ⟨b0, 9, none⟩, .slice q.row.a q.row.n q.row.k), (2, ⟨b0, 10, none⟩, .slice q.col.a q.col.n q.col.k), (2, ⟨b0, 11, none⟩, I q.shift), (2, ⟨b0, 12, none⟩, I q.shift2), (2, ⟨b0, 13, none⟩, .slice q.x.a q.x.n q.x.k), (2, ⟨b0, 14, none⟩, .slice q.y.a q.y.n q.y.k), (2, ⟨b0, 15, none⟩, I q.bins), (2, ⟨b0, 16, none⟩, .slice q.ops.a q.ops.n q.ops.k), (2, ⟨b0, 17, none⟩, I q.max_), (5, ⟨e0, 2, none⟩, I s.max_), (7, ⟨g2, 2, none⟩, I t.max_), (9, ⟨b0, 17, none⟩, I q.max_)] [(true, [0, 4, 6, 8]), (true, [1]), (true, [2]), (true, [5]), (true, [7]), (true, [9]), (false, [3]), (false, [10]), (true, [11])] rfl kr ⟨.inr (a0.cell 4 rfl rfl), .inr (a0.cell 4 rfl rfl), .inr (a0.cell 4 rfl rfl), .inr (a0.cell 4 rfl rfl), .inr (a0.cell 4 rfl rfl), .inr (a0.cell 4 rfl rfl), .inr (a0.cell 4 rfl rfl), .inr (a0.cell 4 rfl rfl), .inr (a0.cell 4 rfl rfl), .inr (a0.cell 4 rfl rfl), .inr (a0.cell 4 rfl rfl), .inr (a0.cell 4 rfl rfl), .inr (a0.cell 4 rfl rfl), .inr (a0.cell 4 rfl rfl), .inr (a0.cell 4 rfl rfl), .inr (a0.cell 4 rfl rfl), .inr (a0.cell 4 rfl rfl), .inr (a0.cell 4 rfl rfl), .inr (a0.cell 4 rfl rfl), .inr (a0.cell 3 rfl rfl), .inr (a0.cell 2 rfl rfl), .inr (a0.cell 4 rfl rfl), trivial⟩ ?_
 have m2 := a0.drew
 refine wU [0, 4, 6, 8] ?_
 refine wS (.slice q.ops.a q.ops.n q.ops.k) rfl rfl rfl (fun w hF => Y_load rfl (Try.isAgg59 w) kr (hF 0 _ _ rfl)) ?_
 refine wS (.agg (encStage q).toArray) rfl rfl rfl (fun w hF => Y_loadF rfl (Try.isAgg61 w) (Try.sizeOf61 w) kr rfl ⟨hF 1 _ _ rfl, hF 2 _ _ rfl, hF 3 _ _ rfl, hF 4 _ _ rfl, hF 5 _ _ rfl, hF 6 _ _ rfl, hF 7 _ _ rfl, hF 8 _ _ rfl, hF 9 _ _ rfl, hF 10 _ _ rfl, hF 11 _ _ rfl, hF 12 _ _ rfl, hF 13 _ _ rfl, hF 14 _ _ rfl, hF 15 _ _ rfl, hF 16 _ _ rfl, hF 17 _ _ rfl, hF 18 _ _ rfl, trivial⟩) ?_
 refine wS (I s.max_) rfl rfl rfl (fun w hF => Y_load rfl (Try.isAgg3 w) kr (hF 19 _ _ rfl)) ?_
 refine wS (I t.max_) rfl rfl rfl (fun w hF => Y_load rfl (Try.isAgg3 w) kr (hF 20 _ _ rfl)) ?_
 refine wS (I q.max_) rfl rfl rfl (fun w hF => Y_load rfl (Try.isAgg3 w) kr (hF 21 _ _ rfl)) ?_
 refine wO rfl ?_
 refine sF #[.agg (encStage q).toArray] Try.call60 (Calls.mono (r15_two W _ _ [] q ⟨(RdT.flat (hq.weights.up 5 (by rfl))), (RdT.flat (hq.row.up 5 (by rfl))), (RdT.flat (hq.col.up 5 (by rfl))), (RdT.flat (hq.x.up 5 (by rfl))), (fun z hz => (hq.xD z hz).of_mem (mem_flat1 5 (by rfl))), (RdT.flat (hq.y.up 5 (by rfl))), (fun z hz => (hq.yD z hz).of_mem (mem_flat1 5 (by rfl))), (RdT.flat (hq.ops.up 5 (by rfl)))⟩ (Sat.flat m2)) ?_)
 rintro _ _ ⟨rfl, t1⟩
 refine ⟨_, rfl, ?_⟩
 have h0 := Sat.unflat t1; clear t1
 try dsimp only [List.set, List.eraseIdx, Value.cells] at h0
 refine nilO ⟨⟨.inr (h0.cell 4 rfl rfl), dI, dI, dI, dI, dI, dI, dI, dI, dI, dI, dI, dI, dI, dI, dI, dI, dI, dI, .inr (h0.cell 3 rfl rfl), .inr (h0.cell 2 rfl rfl), .inr (h0.cell 4 rfl rfl), trivial⟩, ?_⟩
 refine wO rfl ?_
 refine sF #[.slice q.ops.a q.ops.n q.ops.k, .bool (decide (q.kind = 6 ∧ ¬ q.b = -1)), I s.max_, I t.max_, I q.max_] Try.call83 (Calls.mono (r14_check W _ _ [] q.ops.a q.ops.n q.ops.k q.ops.l (decide (q.kind = 6 ∧ ¬ q.b = -1)) s.max_ t.max_ q.max_ (RdT.flat (hq.ops.up 5 (by rfl))) (Sat.flat h0)) ?_)
 rintro _ _ ⟨rfl, u1⟩
 refine ⟨_, rfl, ?_⟩
 have l0 := Sat.unflat u1; clear u1
 try dsimp only [List.set, List.eraseIdx, Value.cells] at l0
 refine nilO ⟨dA, ?_⟩
 refine wU [11] ?_
 refine wN ?_
 refine thenK_n <| sR <| pu2 <| nT ?_
 by_cases v1 : ((pwCode q.ops.l (decide (q.kind = 6 ∧ ¬ q.b = -1)) s.max_ t.max_ q.max_) : Int) = 0
 rotate_left
 ·refine cT _ (bne_iff_ne.2 v1) ?_
  refine sR ?_
  refine sLA l0 0 0 [I s.w, I s.h, I q.max_] (Try.isAgg55 _) (Try.sizeOf55 _) ?_
  refine pu1 ?_
  refine sTw l0 1 [I s.w, I s.h, I q.max_] Try.sizeOf55 ?_
  intro _ w0
  try dsimp only [List.set, List.eraseIdx, Value.cells] at w0
  refine pu1 <| nT ?_
  refine retE (thenK_r <| ?_)
  refine retN (vs := [.agg #[I s.w, I s.h, I q.max_], I (pwCode q.ops.l (decide (q.kind = 6 ∧ ¬ q.b = -1)) s.max_ t.max_ q.max_)]) rfl (.cons (.cell _ _ _ _ kr (lvA w0 1 0 [I s.w, I s.h, I q.max_] (Try.isAgg55 _) (Try.sizeOf55 _) rfl rfl rfl)) (.cons (.tmp _ _ kr) .nil)) ?_
  have w1 := ((((((w0.pick 5 rfl).dropAt 1 rfl).dropAt 1 rfl).dropAt 1 rfl).dropAt 1 rfl).dropAt 1 rfl)
  change Sat _ _ (H :: F) at w1
  have hk : kernelV q.v s t = ((⟨s.w, s.h, q.max_⟩ : Shape), (pwCode q.ops.l (decide (q.kind = 6 ∧ ¬ q.b = -1)) s.max_ t.max_ q.max_)) := by
   unfold kernelV; rw [if_neg (by simp only [Stage.v]; omega), if_neg (by simp only [Stage.v]; omega), if_neg (by simp only [Stage.v]; omega), if_neg (by simp only [Stage.v]; omega), if_neg (by simp only [Stage.v]; omega), if_neg ‹_›] <;> rfl
  exact ⟨by rw [hk]; rfl, w1⟩
 refine cF _ (bne_eq_false_iff_eq.2 v1) ?_
 refine kT <| seqE <| sR ?_
 refine sLA l0 4 0 [I q.kind, I q.a, I q.b, .bool q.barrier, I q.edgePolicy, I q.edgeFill, I q.kW, I q.kH, .slice q.weights.a q.weights.n q.weights.k, .slice q.row.a q.row.n q.row.k, .slice q.col.a q.col.n q.col.k, I q.shift, I q.shift2, .slice q.x.a q.x.n q.x.k, .slice q.y.a q.y.n q.y.k, I q.bins, .slice q.ops.a q.ops.n q.ops.k, I q.max_] (Try.isAgg61 _) (Try.sizeOf61 _) ?_
 refine sF #[.agg (encStage q).toArray] Try.call60 (Calls.mono (r15_two W _ _ [] q ⟨(RdT.flat (hq.weights.up 5 (by rfl))), (RdT.flat (hq.row.up 5 (by rfl))), (RdT.flat (hq.col.up 5 (by rfl))), (RdT.flat (hq.x.up 5 (by rfl))), (fun z hz => (hq.xD z hz).of_mem (mem_flat1 5 (by rfl))), (RdT.flat (hq.y.up 5 (by rfl))), (fun z hz => (hq.yD z hz).of_mem (mem_flat1 5 (by rfl))), (RdT.flat (hq.ops.up 5 (by rfl)))⟩ (Sat.flat l0)) ?_)
 rintro _ _ ⟨rfl, x1⟩
 refine ⟨_, rfl, ?_⟩
 have c0 := Sat.unflat x1; clear x1
 try dsimp only [List.set, List.eraseIdx, Value.cells] at c0
 refine pu1 ?_
 rcases Classical.em (q.kind = 6 ∧ ¬ q.b = -1) with x0 | x0
 rotate_left
 ·refine sFix 124 _ false (decide_eq_false x0) ?_
  refine pu13 <| nT <| cFf <| kT <| sR ?_
  refine sLA c0 0 0 [I s.w, I s.h, I q.max_] (Try.isAgg55 _) (Try.sizeOf55 _) ?_
  refine sTw c0 1 [I s.w, I s.h, I q.max_] Try.sizeOf55 ?_
  intro _ y0
  try dsimp only [List.set, List.eraseIdx, Value.cells] at y0
  refine pu1 <| nT <| retE <| retN (vs := [.agg #[I s.w, I s.h, I q.max_], I 0]) rfl (.cons (.cell _ _ _ _ kr (lvA y0 1 0 [I s.w, I s.h, I q.max_] (Try.isAgg55 _) (Try.sizeOf55 _) rfl rfl rfl)) (.cons (.tmp _ _ kr) .nil)) ?_
  have y1 := ((((((y0.pick 5 rfl).dropAt 1 rfl).dropAt 1 rfl).dropAt 1 rfl).dropAt 1 rfl).dropAt 1 rfl)
  change Sat _ _ (H :: F) at y1
  have hk : kernelV q.v s t = ((⟨s.w, s.h, q.max_⟩ : Shape), 0) := by
   unfold kernelV; rw [if_neg (by simp only [Stage.v]; omega), if_neg (by simp only [Stage.v]; omega), if_neg (by simp only [Stage.v]; omega), if_neg (by simp only [Stage.v]; omega), if_neg (by simp only [Stage.v]; omega), if_pos ‹_›, if_neg (by simp only [Stage.v]; omega)] <;> rfl
  exact ⟨by rw [hk]; rfl, y1⟩
 refine sFix 124 _ true (decide_eq_true x0) ?_
 refine pu1 <| gY ?_
 refine sL c0 3 0 (I s.w) (Try.isAgg3 _) ?_
 refine pu1 <| gY ?_
 refine sL c0 2 0 (I t.w) (Try.isAgg3 _) ?_
 refine pu2 ?_
 by_cases z1 : (s.w : Int) = t.w
 rotate_left
 ·refine sFix 130 _ true (bne_iff_ne.2 z1) ?_
  refine pu7 <| nT <| cTt <| sR ?_
  refine sLA c0 0 0 [I s.w, I s.h, I q.max_] (Try.isAgg55 _) (Try.sizeOf55 _) ?_
  refine sTw c0 1 [I s.w, I s.h, I q.max_] Try.sizeOf55 ?_
  intro _ z0
  try dsimp only [List.set, List.eraseIdx, Value.cells] at z0
  refine pu1 <| nT ?_
  refine retE (thenK_r <| ?_)
  refine retN (vs := [.agg #[I s.w, I s.h, I q.max_], I 8]) rfl (.cons (.cell _ _ _ _ kr (lvA z0 1 0 [I s.w, I s.h, I q.max_] (Try.isAgg55 _) (Try.sizeOf55 _) rfl rfl rfl)) (.cons (.tmp _ _ kr) .nil)) ?_
  have a2 := ((((((z0.pick 5 rfl).dropAt 1 rfl).dropAt 1 rfl).dropAt 1 rfl).dropAt 1 rfl).dropAt 1 rfl)
  change Sat _ _ (H :: F) at a2
  have hk : kernelV q.v s t = ((⟨s.w, s.h, q.max_⟩ : Shape), 8) := by
   unfold kernelV; rw [if_neg (by simp only [Stage.v]; omega), if_neg (by simp only [Stage.v]; omega), if_neg (by simp only [Stage.v]; omega), if_neg (by simp only [Stage.v]; omega), if_neg (by simp only [Stage.v]; omega), if_pos ‹_›, if_pos (by simp only [Stage.v]; omega)] <;> rfl
  exact ⟨by rw [hk]; rfl, a2⟩
 refine sFix 130 _ false (bne_eq_false_iff_eq.2 z1) ?_
 refine pu1 <| gY ?_
 refine sL c0 3 1 (I s.h) (Try.isAgg3 _) ?_
 refine pu1 <| gY ?_
 refine sL c0 2 1 (I t.h) (Try.isAgg3 _) ?_
 refine pu3 <| nT ?_
 by_cases b2 : (s.h : Int) = t.h
 ·refine cF _ (bne_eq_false_iff_eq.2 b2) ?_
  refine kT <| sR ?_
  refine sLA c0 0 0 [I s.w, I s.h, I q.max_] (Try.isAgg55 _) (Try.sizeOf55 _) ?_
  refine sTw c0 1 [I s.w, I s.h, I q.max_] Try.sizeOf55 ?_
  intro _ a1
  try dsimp only [List.set, List.eraseIdx, Value.cells] at a1
  refine pu1 <| nT <| retE <| retN (vs := [.agg #[I s.w, I s.h, I q.max_], I 0]) rfl (.cons (.cell _ _ _ _ kr (lvA a1 1 0 [I s.w, I s.h, I q.max_] (Try.isAgg55 _) (Try.sizeOf55 _) rfl rfl rfl)) (.cons (.tmp _ _ kr) .nil)) ?_
  have c2 := ((((((a1.pick 5 rfl).dropAt 1 rfl).dropAt 1 rfl).dropAt 1 rfl).dropAt 1 rfl).dropAt 1 rfl)
  change Sat _ _ (H :: F) at c2
  have hk : kernelV q.v s t = ((⟨s.w, s.h, q.max_⟩ : Shape), 0) := by
   unfold kernelV; rw [if_neg (by simp only [Stage.v]; omega), if_neg (by simp only [Stage.v]; omega), if_neg (by simp only [Stage.v]; omega), if_neg (by simp only [Stage.v]; omega), if_neg (by simp only [Stage.v]; omega), if_pos ‹_›, if_neg (by simp only [Stage.v]; omega)] <;> rfl
  exact ⟨by rw [hk]; rfl, c2⟩
 refine cT _ (bne_iff_ne.2 b2) ?_
 refine sR ?_
 refine sLA c0 0 0 [I s.w, I s.h, I q.max_] (Try.isAgg55 _) (Try.sizeOf55 _) ?_
 refine sTw c0 1 [I s.w, I s.h, I q.max_] Try.sizeOf55 ?_
 intro _ b1
 try dsimp only [List.set, List.eraseIdx, Value.cells] at b1
 refine pu1 <| nT ?_
 refine retE (thenK_r <| ?_)
 refine retN (vs := [.agg #[I s.w, I s.h, I q.max_], I 8]) rfl (.cons (.cell _ _ _ _ kr (lvA b1 1 0 [I s.w, I s.h, I q.max_] (Try.isAgg55 _) (Try.sizeOf55 _) rfl rfl rfl)) (.cons (.tmp _ _ kr) .nil)) ?_
 have d2 := ((((((b1.pick 5 rfl).dropAt 1 rfl).dropAt 1 rfl).dropAt 1 rfl).dropAt 1 rfl).dropAt 1 rfl)
 change Sat _ _ (H :: F) at d2
 have hk : kernelV q.v s t = ((⟨s.w, s.h, q.max_⟩ : Shape), 8) := by
  unfold kernelV; rw [if_neg (by simp only [Stage.v]; omega), if_neg (by simp only [Stage.v]; omega), if_neg (by simp only [Stage.v]; omega), if_neg (by simp only [Stage.v]; omega), if_neg (by simp only [Stage.v]; omega), if_pos ‹_›, if_pos (by simp only [Stage.v]; omega)] <;> rfl
 exact ⟨by rw [hk]; rfl, d2⟩
theorem r15_of (W w : World) (H : Chunk) (F : List Chunk) (q : Stage) (s : Shape) (t : Shape) (hq : Stage.Ok [H] q) (hS : Sat W w (H :: F)) :
  Calls Try.prog 61 #[.agg (encStage q).toArray, .agg #[I s.w, I s.h, I s.max_], .agg #[I t.w, I t.h, I t.max_]] w fun e w' => e = .returned (.tuple #[.agg #[I ((ofV q.v s t).1.w), I ((ofV q.v s t).1.h), I ((ofV q.v s t).1.max_)], I ((ofV q.v s t).2)]) ∧ Sat W w' (H :: F) := by
 have hl_q_weights := hq.weights.le; have hn_q_weights := hq.weights.len
 have hl_q_row := hq.row.le; have hn_q_row := hq.row.len
 have hl_q_col := hq.col.le; have hn_q_col := hq.col.len
 have hl_q_x := hq.x.le; have hn_q_x := hq.x.len
 have hl_q_y := hq.y.le; have hn_q_y := hq.y.len
 have hl_q_ops := hq.ops.le; have hn_q_ops := hq.ops.len
 refine callsE (n := 54) Try.func61 rfl rfl (Nat.le_of_ble_eq_true rfl) ?_
 refine sR ?_
 refine sBox hS (.agg (encStage q).toArray) (encStage q).toArray ?_
 intro _ _ p2
 refine sBox p2 (.agg #[I s.w, I s.h, I s.max_]) #[I s.w, I s.h, I s.max_] ?_
 intro _ _ q2
 refine sBox q2 (.agg #[I t.w, I t.h, I t.max_]) #[I t.w, I t.h, I t.max_] ?_
 intro _ _ r2
 refine sAlloc r2 Try.zeroValue55 ?_
 intro _ _ h1
 refine pu1 <| nT <| seqE <| blockE <| sR ?_
 refine sLA h1 3 0 [I q.kind, I q.a, I q.b, .bool q.barrier, I q.edgePolicy, I q.edgeFill, I q.kW, I q.kH, .slice q.weights.a q.weights.n q.weights.k, .slice q.row.a q.row.n q.row.k, .slice q.col.a q.col.n q.col.k, I q.shift, I q.shift2, .slice q.x.a q.x.n q.x.k, .slice q.y.a q.y.n q.y.k, I q.bins, .slice q.ops.a q.ops.n q.ops.k, I q.max_] (Try.isAgg61 _) (Try.sizeOf61 _) ?_
 refine sF #[.agg (encStage q).toArray] Try.call71 (Calls.mono (r15_fields W _ _ [] q ⟨(RdT.flat (hq.weights.up 4 (by rfl))), (RdT.flat (hq.row.up 4 (by rfl))), (RdT.flat (hq.col.up 4 (by rfl))), (RdT.flat (hq.x.up 4 (by rfl))), (fun z hz => (hq.xD z hz).of_mem (mem_flat1 4 (by rfl))), (RdT.flat (hq.y.up 4 (by rfl))), (fun z hz => (hq.yD z hz).of_mem (mem_flat1 4 (by rfl))), (RdT.flat (hq.ops.up 4 (by rfl)))⟩ (Sat.flat h1)) ?_)
 rintro _ _ ⟨rfl, i1⟩
 refine ⟨_, rfl, ?_⟩
 have f0 := Sat.unflat i1; clear i1
 try dsimp only [List.set, List.eraseIdx, Value.cells] at f0
 refine pu2 <| nT ?_
 rcases Classical.em (fieldsP q.v) with m0 | m0
 rotate_left
 ·refine cT _ (congrArg Bool.not (decide_eq_false m0)) ?_
  refine sR <| pu1 ?_
  refine sTw f0 0 [I 0, I 0, I 0] Try.sizeOf55 ?_
  intro _ n0
  try dsimp only [List.set, List.eraseIdx, Value.cells] at n0
  refine pu1 <| nT ?_
  refine retE (blockK_r <| thenK_r <| ?_)
  refine retN (vs := [.agg #[I 0, I 0, I 0], I 1]) rfl (.cons (.cell _ _ _ _ kr (lvA n0 0 0 [I 0, I 0, I 0] (Try.isAgg55 _) (Try.sizeOf55 _) rfl rfl rfl)) (.cons (.tmp _ _ kr) .nil)) ?_
  have j1 := (((((n0.pick 4 rfl).dropAt 1 rfl).dropAt 1 rfl).dropAt 1 rfl).dropAt 1 rfl)
  change Sat _ _ (H :: F) at j1
  have hk : ofV q.v s t = ((⟨0, 0, 0⟩ : Shape), 1) := by
   unfold ofV; rw [if_neg ‹_›]
  exact ⟨by rw [hk]; rfl, j1⟩
 refine cF _ (congrArg Bool.not (decide_eq_true m0)) ?_
 refine sR ?_
 refine sLA f0 2 0 [I s.w, I s.h, I s.max_] (Try.isAgg55 _) (Try.sizeOf55 _) ?_
 refine sF #[.agg #[I s.w, I s.h, I s.max_]] Try.call72 (Calls.mono (r15_valid W _ _ [] s (Sat.flat f0)) ?_)
 rintro _ _ ⟨rfl, k1⟩
 refine ⟨_, rfl, ?_⟩
 have g0 := Sat.unflat k1; clear k1
 try dsimp only [List.set, List.eraseIdx, Value.cells] at g0
 refine pu2 ?_
 rcases Classical.em ((1 : Int) ≤ s.w ∧ s.w ≤ (128 : Int) ∧ (1 : Int) ≤ s.h ∧ s.h ≤ (128 : Int) ∧ s.w * s.h ≤ (4096 : Int) ∧ (1 : Int) ≤ s.max_ ∧ s.max_ ≤ (4294967296 : Int)) with o0 | o0
 rotate_left
 ·refine sFix 19 _ true (congrArg Bool.not (decide_eq_false o0)) ?_
  refine pu9 <| nT <| cTt <| sR <| pu1 ?_
  refine sTw g0 0 [I 0, I 0, I 0] Try.sizeOf55 ?_
  intro _ p0
  try dsimp only [List.set, List.eraseIdx, Value.cells] at p0
  refine pu1 <| nT ?_
  refine retE (blockK_r <| thenK_r <| ?_)
  refine retN (vs := [.agg #[I 0, I 0, I 0], I 2]) rfl (.cons (.cell _ _ _ _ kr (lvA p0 0 0 [I 0, I 0, I 0] (Try.isAgg55 _) (Try.sizeOf55 _) rfl rfl rfl)) (.cons (.tmp _ _ kr) .nil)) ?_
  have l1 := (((((p0.pick 4 rfl).dropAt 1 rfl).dropAt 1 rfl).dropAt 1 rfl).dropAt 1 rfl)
  change Sat _ _ (H :: F) at l1
  have hk : ofV q.v s t = ((⟨0, 0, 0⟩ : Shape), 2) := by
   unfold ofV; rw [if_pos ‹_›, if_neg (by unfold szP twoP; simp only [Stage.v]; omega)]
  exact ⟨by rw [hk]; rfl, l1⟩
 refine sFix 19 _ false (congrArg Bool.not (decide_eq_true o0)) ?_
 refine gY ?_
 refine sLA g0 3 0 [I q.kind, I q.a, I q.b, .bool q.barrier, I q.edgePolicy, I q.edgeFill, I q.kW, I q.kH, .slice q.weights.a q.weights.n q.weights.k, .slice q.row.a q.row.n q.row.k, .slice q.col.a q.col.n q.col.k, I q.shift, I q.shift2, .slice q.x.a q.x.n q.x.k, .slice q.y.a q.y.n q.y.k, I q.bins, .slice q.ops.a q.ops.n q.ops.k, I q.max_] (Try.isAgg61 _) (Try.sizeOf61 _) ?_
 refine gY ?_
 refine sF #[.agg (encStage q).toArray] Try.call60 (Calls.mono (r15_two W _ _ [] q ⟨(RdT.flat (hq.weights.up 4 (by rfl))), (RdT.flat (hq.row.up 4 (by rfl))), (RdT.flat (hq.col.up 4 (by rfl))), (RdT.flat (hq.x.up 4 (by rfl))), (fun z hz => (hq.xD z hz).of_mem (mem_flat1 4 (by rfl))), (RdT.flat (hq.y.up 4 (by rfl))), (fun z hz => (hq.yD z hz).of_mem (mem_flat1 4 (by rfl))), (RdT.flat (hq.ops.up 4 (by rfl)))⟩ (Sat.flat g0)) ?_)
 rintro _ _ ⟨rfl, m1⟩
 refine ⟨_, rfl, ?_⟩
 have e0 := Sat.unflat m1; clear m1
 try dsimp only [List.set, List.eraseIdx, Value.cells] at e0
 refine pu1 ?_
 rcases Classical.em (q.kind = 6 ∧ ¬ q.b = -1) with q0 | q0
 rotate_left
 ·refine sFix 22 _ false (decide_eq_false q0) ?_
  refine pu6 <| nT <| cFf <| sR <| pu1 ?_
  refine sL e0 3 0 (I q.kind) (Try.isAgg3 _) ?_
  refine sF #[I q.kind] Try.call73 (Calls.mono (r15_edged W _ _ [] q.kind (Sat.flat e0)) ?_)
  rintro _ _ ⟨rfl, n1⟩
  refine ⟨_, rfl, ?_⟩
  have a0 := Sat.unflat n1; clear n1
  try dsimp only [List.set, List.eraseIdx, Value.cells] at a0
  refine pu1 ?_
  rcases Classical.em (q.kind = 1 ∨ q.kind = 2 ∨ q.kind = 3) with r0 | r0
  rotate_left
  ·refine sFix 33 _ false (decide_eq_false r0) ?_
   refine pu8 <| nT <| cFf <| skipE <| blockK_n <| thenK_n <| sR ?_
   refine sLA a0 3 0 [I q.kind, I q.a, I q.b, .bool q.barrier, I q.edgePolicy, I q.edgeFill, I q.kW, I q.kH, .slice q.weights.a q.weights.n q.weights.k, .slice q.row.a q.row.n q.row.k, .slice q.col.a q.col.n q.col.k, I q.shift, I q.shift2, .slice q.x.a q.x.n q.x.k, .slice q.y.a q.y.n q.y.k, I q.bins, .slice q.ops.a q.ops.n q.ops.k, I q.max_] (Try.isAgg61 _) (Try.sizeOf61 _) ?_
   refine sLA a0 2 0 [I s.w, I s.h, I s.max_] (Try.isAgg55 _) (Try.sizeOf55 _) ?_
   refine sLA a0 1 0 [I t.w, I t.h, I t.max_] (Try.isAgg55 _) (Try.sizeOf55 _) ?_
   refine sF #[.agg (encStage q).toArray, .agg #[I s.w, I s.h, I s.max_], .agg #[I t.w, I t.h, I t.max_]] Try.call75 (Calls.mono (r15_kernel W _ _ [] q s t ⟨(RdT.flat (hq.weights.up 4 (by rfl))), (RdT.flat (hq.row.up 4 (by rfl))), (RdT.flat (hq.col.up 4 (by rfl))), (RdT.flat (hq.x.up 4 (by rfl))), (fun z hz => (hq.xD z hz).of_mem (mem_flat1 4 (by rfl))), (RdT.flat (hq.y.up 4 (by rfl))), (fun z hz => (hq.yD z hz).of_mem (mem_flat1 4 (by rfl))), (RdT.flat (hq.ops.up 4 (by rfl)))⟩ (by first | assumption | (unfold szP; assumption)) (Sat.flat a0)) ?_)
   rintro _ _ ⟨rfl, o1⟩
   refine ⟨_, rfl, ?_⟩
   have p1 := Sat.unflat o1; clear o1
   try dsimp only [List.set, List.eraseIdx, Value.cells] at p1
   refine pu3 ?_
   refine sAlloc p1 Try.zeroValue55 ?_
   intro _ _ s2
   refine sTw s2 0 [I ((kernelV q.v s t).1.w), I ((kernelV q.v s t).1.h), I ((kernelV q.v s t).1.max_)] Try.sizeOf55 ?_
   intro _ h0
   try dsimp only [List.set, List.eraseIdx, Value.cells] at h0
   refine pu1 <| nT <| seqE <| sR <| pu2 <| nT ?_
   by_cases q1 : ((kernelV q.v s t).2 : Int) = 0
   rotate_left
   ·refine cT _ (bne_iff_ne.2 q1) ?_
    refine sR <| pu2 ?_
    refine sTw h0 1 [I 0, I 0, I 0] Try.sizeOf55 ?_
    intro _ s0
    try dsimp only [List.set, List.eraseIdx, Value.cells] at s0
    refine pu1 <| nT ?_
    refine retE (thenK_r <| ?_)
    refine retN (vs := [.agg #[I 0, I 0, I 0], I ((kernelV q.v s t).2)]) rfl (.cons (.cell _ _ _ _ kr (lvA s0 1 0 [I 0, I 0, I 0] (Try.isAgg55 _) (Try.sizeOf55 _) rfl rfl rfl)) (.cons (.tmp _ _ kr) .nil)) ?_
    have r1 := ((((((s0.pick 5 rfl).dropAt 1 rfl).dropAt 1 rfl).dropAt 1 rfl).dropAt 1 rfl).dropAt 1 rfl)
    change Sat _ _ (H :: F) at r1
    have hk : ofV q.v s t = ((⟨0, 0, 0⟩ : Shape), (kernelV q.v s t).2) := by
     unfold ofV; rw [if_pos ‹_›, if_pos (by unfold szP twoP; simp only [Stage.v]; omega), if_pos (by unfold edgeP; simp only [Stage.v]; (try dsimp only at *); omega), if_neg ‹_›]
    exact ⟨by rw [hk]; rfl, r1⟩
   refine cF _ (bne_eq_false_iff_eq.2 q1) ?_
   refine kT <| sR ?_
   refine sLA h0 0 0 [I ((kernelV q.v s t).1.w), I ((kernelV q.v s t).1.h), I ((kernelV q.v s t).1.max_)] (Try.isAgg55 _) (Try.sizeOf55 _) ?_
   refine sTw h0 1 [I ((kernelV q.v s t).1.w), I ((kernelV q.v s t).1.h), I ((kernelV q.v s t).1.max_)] Try.sizeOf55 ?_
   intro _ t0
   try dsimp only [List.set, List.eraseIdx, Value.cells] at t0
   refine pu1 <| nT <| retE <| retN (vs := [.agg #[I ((kernelV q.v s t).1.w), I ((kernelV q.v s t).1.h), I ((kernelV q.v s t).1.max_)], I 0]) rfl (.cons (.cell _ _ _ _ kr (lvA t0 1 0 [I ((kernelV q.v s t).1.w), I ((kernelV q.v s t).1.h), I ((kernelV q.v s t).1.max_)] (Try.isAgg55 _) (Try.sizeOf55 _) rfl rfl rfl)) (.cons (.tmp _ _ kr) .nil)) ?_
   have s1 := ((((((t0.pick 5 rfl).dropAt 1 rfl).dropAt 1 rfl).dropAt 1 rfl).dropAt 1 rfl).dropAt 1 rfl)
   change Sat _ _ (H :: F) at s1
   have hk : ofV q.v s t = ((kernelV q.v s t).1, 0) := by
    unfold ofV; rw [if_pos ‹_›, if_pos (by unfold szP twoP; simp only [Stage.v]; omega), if_pos (by unfold edgeP; simp only [Stage.v]; (try dsimp only at *); omega), if_pos ‹_›]
   exact ⟨by rw [hk]; rfl, s1⟩
  refine sFix 33 _ true (decide_eq_true r0) ?_
  refine pu1 <| gY ?_
  refine sLA a0 3 4 [I q.edgePolicy, I q.edgeFill] (Try.isAgg57 _) (Try.sizeOf57 _) ?_
  refine pu1 <| gY ?_
  refine sL a0 2 2 (I s.max_) (Try.isAgg3 _) ?_
  refine gY ?_
  refine sF #[.agg #[I q.edgePolicy, I q.edgeFill], I s.max_] Try.call74 (Calls.mono (r3_valid W _ _ [] (⟨q.edgePolicy, q.edgeFill⟩ : Edge) s.max_ (Sat.flat a0)) ?_)
  rintro _ _ ⟨rfl, t1⟩
  refine ⟨_, rfl, ?_⟩
  have c0 := Sat.unflat t1; clear t1
  try dsimp only [List.set, List.eraseIdx, Value.cells] at c0
  refine pu3 <| nT ?_
  rcases Classical.em (((⟨q.edgePolicy, q.edgeFill⟩ : Edge).policy = 3 ∧ 0 ≤ (⟨q.edgePolicy, q.edgeFill⟩ : Edge).fill ∧ (⟨q.edgePolicy, q.edgeFill⟩ : Edge).fill ≤ s.max_) ∨ (0 ≤ (⟨q.edgePolicy, q.edgeFill⟩ : Edge).policy ∧ (⟨q.edgePolicy, q.edgeFill⟩ : Edge).policy < 3 ∧ (⟨q.edgePolicy, q.edgeFill⟩ : Edge).fill = 0)) with u0 | u0
  rotate_left
  ·refine cT _ (congrArg Bool.not (decide_eq_false u0)) ?_
   refine sR <| pu1 ?_
   refine sTw c0 0 [I 0, I 0, I 0] Try.sizeOf55 ?_
   intro _ v0
   try dsimp only [List.set, List.eraseIdx, Value.cells] at v0
   refine pu1 <| nT ?_
   refine retE (blockK_r <| thenK_r <| ?_)
   refine retN (vs := [.agg #[I 0, I 0, I 0], I 1]) rfl (.cons (.cell _ _ _ _ kr (lvA v0 0 0 [I 0, I 0, I 0] (Try.isAgg55 _) (Try.sizeOf55 _) rfl rfl rfl)) (.cons (.tmp _ _ kr) .nil)) ?_
   have u1 := (((((v0.pick 4 rfl).dropAt 1 rfl).dropAt 1 rfl).dropAt 1 rfl).dropAt 1 rfl)
   change Sat _ _ (H :: F) at u1
   have hk : ofV q.v s t = ((⟨0, 0, 0⟩ : Shape), 1) := by
    unfold ofV; rw [if_pos ‹_›, if_pos (by unfold szP twoP; simp only [Stage.v]; omega), if_neg (by unfold edgeP; simp only [Stage.v]; (try dsimp only at *); omega)]
   exact ⟨by rw [hk]; rfl, u1⟩
  refine cF _ (congrArg Bool.not (decide_eq_true u0)) ?_
  refine skipE <| blockK_n <| thenK_n <| sR ?_
  refine sLA c0 3 0 [I q.kind, I q.a, I q.b, .bool q.barrier, I q.edgePolicy, I q.edgeFill, I q.kW, I q.kH, .slice q.weights.a q.weights.n q.weights.k, .slice q.row.a q.row.n q.row.k, .slice q.col.a q.col.n q.col.k, I q.shift, I q.shift2, .slice q.x.a q.x.n q.x.k, .slice q.y.a q.y.n q.y.k, I q.bins, .slice q.ops.a q.ops.n q.ops.k, I q.max_] (Try.isAgg61 _) (Try.sizeOf61 _) ?_
  refine sLA c0 2 0 [I s.w, I s.h, I s.max_] (Try.isAgg55 _) (Try.sizeOf55 _) ?_
  refine sLA c0 1 0 [I t.w, I t.h, I t.max_] (Try.isAgg55 _) (Try.sizeOf55 _) ?_
  refine sF #[.agg (encStage q).toArray, .agg #[I s.w, I s.h, I s.max_], .agg #[I t.w, I t.h, I t.max_]] Try.call75 (Calls.mono (r15_kernel W _ _ [] q s t ⟨(RdT.flat (hq.weights.up 4 (by rfl))), (RdT.flat (hq.row.up 4 (by rfl))), (RdT.flat (hq.col.up 4 (by rfl))), (RdT.flat (hq.x.up 4 (by rfl))), (fun z hz => (hq.xD z hz).of_mem (mem_flat1 4 (by rfl))), (RdT.flat (hq.y.up 4 (by rfl))), (fun z hz => (hq.yD z hz).of_mem (mem_flat1 4 (by rfl))), (RdT.flat (hq.ops.up 4 (by rfl)))⟩ (by first | assumption | (unfold szP; assumption)) (Sat.flat c0)) ?_)
  rintro _ _ ⟨rfl, v1⟩
  refine ⟨_, rfl, ?_⟩
  have w1 := Sat.unflat v1; clear v1
  try dsimp only [List.set, List.eraseIdx, Value.cells] at w1
  refine pu3 ?_
  refine sAlloc w1 Try.zeroValue55 ?_
  intro _ _ t2
  refine sTw t2 0 [I ((kernelV q.v s t).1.w), I ((kernelV q.v s t).1.h), I ((kernelV q.v s t).1.max_)] Try.sizeOf55 ?_
  intro _ i0
  try dsimp only [List.set, List.eraseIdx, Value.cells] at i0
  refine pu1 <| nT <| seqE <| sR <| pu2 <| nT ?_
  by_cases x1 : ((kernelV q.v s t).2 : Int) = 0
  rotate_left
  ·refine cT _ (bne_iff_ne.2 x1) ?_
   refine sR <| pu2 ?_
   refine sTw i0 1 [I 0, I 0, I 0] Try.sizeOf55 ?_
   intro _ w0
   try dsimp only [List.set, List.eraseIdx, Value.cells] at w0
   refine pu1 <| nT ?_
   refine retE (thenK_r <| ?_)
   refine retN (vs := [.agg #[I 0, I 0, I 0], I ((kernelV q.v s t).2)]) rfl (.cons (.cell _ _ _ _ kr (lvA w0 1 0 [I 0, I 0, I 0] (Try.isAgg55 _) (Try.sizeOf55 _) rfl rfl rfl)) (.cons (.tmp _ _ kr) .nil)) ?_
   have y1 := ((((((w0.pick 5 rfl).dropAt 1 rfl).dropAt 1 rfl).dropAt 1 rfl).dropAt 1 rfl).dropAt 1 rfl)
   change Sat _ _ (H :: F) at y1
   have hk : ofV q.v s t = ((⟨0, 0, 0⟩ : Shape), (kernelV q.v s t).2) := by
    unfold ofV; rw [if_pos ‹_›, if_pos (by unfold szP twoP; simp only [Stage.v]; omega), if_pos (by unfold edgeP; simp only [Stage.v]; (try dsimp only at *); omega), if_neg ‹_›]
   exact ⟨by rw [hk]; rfl, y1⟩
  refine cF _ (bne_eq_false_iff_eq.2 x1) ?_
  refine kT <| sR ?_
  refine sLA i0 0 0 [I ((kernelV q.v s t).1.w), I ((kernelV q.v s t).1.h), I ((kernelV q.v s t).1.max_)] (Try.isAgg55 _) (Try.sizeOf55 _) ?_
  refine sTw i0 1 [I ((kernelV q.v s t).1.w), I ((kernelV q.v s t).1.h), I ((kernelV q.v s t).1.max_)] Try.sizeOf55 ?_
  intro _ x0
  try dsimp only [List.set, List.eraseIdx, Value.cells] at x0
  refine pu1 <| nT <| retE <| retN (vs := [.agg #[I ((kernelV q.v s t).1.w), I ((kernelV q.v s t).1.h), I ((kernelV q.v s t).1.max_)], I 0]) rfl (.cons (.cell _ _ _ _ kr (lvA x0 1 0 [I ((kernelV q.v s t).1.w), I ((kernelV q.v s t).1.h), I ((kernelV q.v s t).1.max_)] (Try.isAgg55 _) (Try.sizeOf55 _) rfl rfl rfl)) (.cons (.tmp _ _ kr) .nil)) ?_
  have z1 := ((((((x0.pick 5 rfl).dropAt 1 rfl).dropAt 1 rfl).dropAt 1 rfl).dropAt 1 rfl).dropAt 1 rfl)
  change Sat _ _ (H :: F) at z1
  have hk : ofV q.v s t = ((kernelV q.v s t).1, 0) := by
   unfold ofV; rw [if_pos ‹_›, if_pos (by unfold szP twoP; simp only [Stage.v]; omega), if_pos (by unfold edgeP; simp only [Stage.v]; (try dsimp only at *); omega), if_pos ‹_›]
  exact ⟨by rw [hk]; rfl, z1⟩
 refine sFix 22 _ true (decide_eq_true q0) ?_
 refine gY ?_
 refine sLA e0 1 0 [I t.w, I t.h, I t.max_] (Try.isAgg55 _) (Try.sizeOf55 _) ?_
 refine gY ?_
 refine sF #[.agg #[I t.w, I t.h, I t.max_]] Try.call72 (Calls.mono (r15_valid W _ _ [] t (Sat.flat e0)) ?_)
 rintro _ _ ⟨rfl, a2⟩
 refine ⟨_, rfl, ?_⟩
 have j0 := Sat.unflat a2; clear a2
 try dsimp only [List.set, List.eraseIdx, Value.cells] at j0
 refine pu4 <| nT ?_
 rcases Classical.em ((1 : Int) ≤ t.w ∧ t.w ≤ (128 : Int) ∧ (1 : Int) ≤ t.h ∧ t.h ≤ (128 : Int) ∧ t.w * t.h ≤ (4096 : Int) ∧ (1 : Int) ≤ t.max_ ∧ t.max_ ≤ (4294967296 : Int)) with y0 | y0
 rotate_left
 ·refine cT _ (congrArg Bool.not (decide_eq_false y0)) ?_
  refine sR <| pu1 ?_
  refine sTw j0 0 [I 0, I 0, I 0] Try.sizeOf55 ?_
  intro _ z0
  try dsimp only [List.set, List.eraseIdx, Value.cells] at z0
  refine pu1 <| nT ?_
  refine retE (blockK_r <| thenK_r <| ?_)
  refine retN (vs := [.agg #[I 0, I 0, I 0], I 2]) rfl (.cons (.cell _ _ _ _ kr (lvA z0 0 0 [I 0, I 0, I 0] (Try.isAgg55 _) (Try.sizeOf55 _) rfl rfl rfl)) (.cons (.tmp _ _ kr) .nil)) ?_
  have b2 := (((((z0.pick 4 rfl).dropAt 1 rfl).dropAt 1 rfl).dropAt 1 rfl).dropAt 1 rfl)
  change Sat _ _ (H :: F) at b2
  have hk : ofV q.v s t = ((⟨0, 0, 0⟩ : Shape), 2) := by
   unfold ofV; rw [if_pos ‹_›, if_neg (by unfold szP twoP; simp only [Stage.v]; omega)]
  exact ⟨by rw [hk]; rfl, b2⟩
 refine cF _ (congrArg Bool.not (decide_eq_true y0)) ?_
 refine sR <| pu1 ?_
 refine sL j0 3 0 (I q.kind) (Try.isAgg3 _) ?_
 refine sF #[I q.kind] Try.call73 (Calls.mono (r15_edged W _ _ [] q.kind (Sat.flat j0)) ?_)
 rintro _ _ ⟨rfl, c2⟩
 refine ⟨_, rfl, ?_⟩
 have b0 := Sat.unflat c2; clear c2
 try dsimp only [List.set, List.eraseIdx, Value.cells] at b0
 refine pu1 ?_
 rcases Classical.em (q.kind = 1 ∨ q.kind = 2 ∨ q.kind = 3) with a1 | a1
 rotate_left
 ·refine sFix 33 _ false (decide_eq_false a1) ?_
  refine pu8 <| nT <| cFf <| skipE <| blockK_n <| thenK_n <| sR ?_
  refine sLA b0 3 0 [I q.kind, I q.a, I q.b, .bool q.barrier, I q.edgePolicy, I q.edgeFill, I q.kW, I q.kH, .slice q.weights.a q.weights.n q.weights.k, .slice q.row.a q.row.n q.row.k, .slice q.col.a q.col.n q.col.k, I q.shift, I q.shift2, .slice q.x.a q.x.n q.x.k, .slice q.y.a q.y.n q.y.k, I q.bins, .slice q.ops.a q.ops.n q.ops.k, I q.max_] (Try.isAgg61 _) (Try.sizeOf61 _) ?_
  refine sLA b0 2 0 [I s.w, I s.h, I s.max_] (Try.isAgg55 _) (Try.sizeOf55 _) ?_
  refine sLA b0 1 0 [I t.w, I t.h, I t.max_] (Try.isAgg55 _) (Try.sizeOf55 _) ?_
  refine sF #[.agg (encStage q).toArray, .agg #[I s.w, I s.h, I s.max_], .agg #[I t.w, I t.h, I t.max_]] Try.call75 (Calls.mono (r15_kernel W _ _ [] q s t ⟨(RdT.flat (hq.weights.up 4 (by rfl))), (RdT.flat (hq.row.up 4 (by rfl))), (RdT.flat (hq.col.up 4 (by rfl))), (RdT.flat (hq.x.up 4 (by rfl))), (fun z hz => (hq.xD z hz).of_mem (mem_flat1 4 (by rfl))), (RdT.flat (hq.y.up 4 (by rfl))), (fun z hz => (hq.yD z hz).of_mem (mem_flat1 4 (by rfl))), (RdT.flat (hq.ops.up 4 (by rfl)))⟩ (by first | assumption | (unfold szP; assumption)) (Sat.flat b0)) ?_)
  rintro _ _ ⟨rfl, d2⟩
  refine ⟨_, rfl, ?_⟩
  have e2 := Sat.unflat d2; clear d2
  try dsimp only [List.set, List.eraseIdx, Value.cells] at e2
  refine pu3 ?_
  refine sAlloc e2 Try.zeroValue55 ?_
  intro _ _ u2
  refine sTw u2 0 [I ((kernelV q.v s t).1.w), I ((kernelV q.v s t).1.h), I ((kernelV q.v s t).1.max_)] Try.sizeOf55 ?_
  intro _ k0
  try dsimp only [List.set, List.eraseIdx, Value.cells] at k0
  refine pu1 <| nT <| seqE <| sR <| pu2 <| nT ?_
  by_cases f2 : ((kernelV q.v s t).2 : Int) = 0
  rotate_left
  ·refine cT _ (bne_iff_ne.2 f2) ?_
   refine sR <| pu2 ?_
   refine sTw k0 1 [I 0, I 0, I 0] Try.sizeOf55 ?_
   intro _ b1
   try dsimp only [List.set, List.eraseIdx, Value.cells] at b1
   refine pu1 <| nT ?_
   refine retE (thenK_r <| ?_)
   refine retN (vs := [.agg #[I 0, I 0, I 0], I ((kernelV q.v s t).2)]) rfl (.cons (.cell _ _ _ _ kr (lvA b1 1 0 [I 0, I 0, I 0] (Try.isAgg55 _) (Try.sizeOf55 _) rfl rfl rfl)) (.cons (.tmp _ _ kr) .nil)) ?_
   have g2 := ((((((b1.pick 5 rfl).dropAt 1 rfl).dropAt 1 rfl).dropAt 1 rfl).dropAt 1 rfl).dropAt 1 rfl)
   change Sat _ _ (H :: F) at g2
   have hk : ofV q.v s t = ((⟨0, 0, 0⟩ : Shape), (kernelV q.v s t).2) := by
    unfold ofV; rw [if_pos ‹_›, if_pos (by unfold szP twoP; simp only [Stage.v]; omega), if_pos (by unfold edgeP; simp only [Stage.v]; (try dsimp only at *); omega), if_neg ‹_›]
   exact ⟨by rw [hk]; rfl, g2⟩
  refine cF _ (bne_eq_false_iff_eq.2 f2) ?_
  refine kT <| sR ?_
  refine sLA k0 0 0 [I ((kernelV q.v s t).1.w), I ((kernelV q.v s t).1.h), I ((kernelV q.v s t).1.max_)] (Try.isAgg55 _) (Try.sizeOf55 _) ?_
  refine sTw k0 1 [I ((kernelV q.v s t).1.w), I ((kernelV q.v s t).1.h), I ((kernelV q.v s t).1.max_)] Try.sizeOf55 ?_
  intro _ c1
  try dsimp only [List.set, List.eraseIdx, Value.cells] at c1
  refine pu1 <| nT <| retE <| retN (vs := [.agg #[I ((kernelV q.v s t).1.w), I ((kernelV q.v s t).1.h), I ((kernelV q.v s t).1.max_)], I 0]) rfl (.cons (.cell _ _ _ _ kr (lvA c1 1 0 [I ((kernelV q.v s t).1.w), I ((kernelV q.v s t).1.h), I ((kernelV q.v s t).1.max_)] (Try.isAgg55 _) (Try.sizeOf55 _) rfl rfl rfl)) (.cons (.tmp _ _ kr) .nil)) ?_
  have h2 := ((((((c1.pick 5 rfl).dropAt 1 rfl).dropAt 1 rfl).dropAt 1 rfl).dropAt 1 rfl).dropAt 1 rfl)
  change Sat _ _ (H :: F) at h2
  have hk : ofV q.v s t = ((kernelV q.v s t).1, 0) := by
   unfold ofV; rw [if_pos ‹_›, if_pos (by unfold szP twoP; simp only [Stage.v]; omega), if_pos (by unfold edgeP; simp only [Stage.v]; (try dsimp only at *); omega), if_pos ‹_›]
  exact ⟨by rw [hk]; rfl, h2⟩
 refine sFix 33 _ true (decide_eq_true a1) ?_
 refine pu1 <| gY ?_
 refine sLA b0 3 4 [I q.edgePolicy, I q.edgeFill] (Try.isAgg57 _) (Try.sizeOf57 _) ?_
 refine pu1 <| gY ?_
 refine sL b0 2 2 (I s.max_) (Try.isAgg3 _) ?_
 refine gY ?_
 refine sF #[.agg #[I q.edgePolicy, I q.edgeFill], I s.max_] Try.call74 (Calls.mono (r3_valid W _ _ [] (⟨q.edgePolicy, q.edgeFill⟩ : Edge) s.max_ (Sat.flat b0)) ?_)
 rintro _ _ ⟨rfl, i2⟩
 refine ⟨_, rfl, ?_⟩
 have d0 := Sat.unflat i2; clear i2
 try dsimp only [List.set, List.eraseIdx, Value.cells] at d0
 refine pu3 <| nT ?_
 rcases Classical.em (((⟨q.edgePolicy, q.edgeFill⟩ : Edge).policy = 3 ∧ 0 ≤ (⟨q.edgePolicy, q.edgeFill⟩ : Edge).fill ∧ (⟨q.edgePolicy, q.edgeFill⟩ : Edge).fill ≤ s.max_) ∨ (0 ≤ (⟨q.edgePolicy, q.edgeFill⟩ : Edge).policy ∧ (⟨q.edgePolicy, q.edgeFill⟩ : Edge).policy < 3 ∧ (⟨q.edgePolicy, q.edgeFill⟩ : Edge).fill = 0)) with d1 | d1
 rotate_left
 ·refine cT _ (congrArg Bool.not (decide_eq_false d1)) ?_
  refine sR <| pu1 ?_
  refine sTw d0 0 [I 0, I 0, I 0] Try.sizeOf55 ?_
  intro _ e1
  try dsimp only [List.set, List.eraseIdx, Value.cells] at e1
  refine pu1 <| nT ?_
  refine retE (blockK_r <| thenK_r <| ?_)
  refine retN (vs := [.agg #[I 0, I 0, I 0], I 1]) rfl (.cons (.cell _ _ _ _ kr (lvA e1 0 0 [I 0, I 0, I 0] (Try.isAgg55 _) (Try.sizeOf55 _) rfl rfl rfl)) (.cons (.tmp _ _ kr) .nil)) ?_
  have j2 := (((((e1.pick 4 rfl).dropAt 1 rfl).dropAt 1 rfl).dropAt 1 rfl).dropAt 1 rfl)
  change Sat _ _ (H :: F) at j2
  have hk : ofV q.v s t = ((⟨0, 0, 0⟩ : Shape), 1) := by
   unfold ofV; rw [if_pos ‹_›, if_pos (by unfold szP twoP; simp only [Stage.v]; omega), if_neg (by unfold edgeP; simp only [Stage.v]; (try dsimp only at *); omega)]
  exact ⟨by rw [hk]; rfl, j2⟩
 refine cF _ (congrArg Bool.not (decide_eq_true d1)) ?_
 refine skipE <| blockK_n <| thenK_n <| sR ?_
 refine sLA d0 3 0 [I q.kind, I q.a, I q.b, .bool q.barrier, I q.edgePolicy, I q.edgeFill, I q.kW, I q.kH, .slice q.weights.a q.weights.n q.weights.k, .slice q.row.a q.row.n q.row.k, .slice q.col.a q.col.n q.col.k, I q.shift, I q.shift2, .slice q.x.a q.x.n q.x.k, .slice q.y.a q.y.n q.y.k, I q.bins, .slice q.ops.a q.ops.n q.ops.k, I q.max_] (Try.isAgg61 _) (Try.sizeOf61 _) ?_
 refine sLA d0 2 0 [I s.w, I s.h, I s.max_] (Try.isAgg55 _) (Try.sizeOf55 _) ?_
 refine sLA d0 1 0 [I t.w, I t.h, I t.max_] (Try.isAgg55 _) (Try.sizeOf55 _) ?_
 refine sF #[.agg (encStage q).toArray, .agg #[I s.w, I s.h, I s.max_], .agg #[I t.w, I t.h, I t.max_]] Try.call75 (Calls.mono (r15_kernel W _ _ [] q s t ⟨(RdT.flat (hq.weights.up 4 (by rfl))), (RdT.flat (hq.row.up 4 (by rfl))), (RdT.flat (hq.col.up 4 (by rfl))), (RdT.flat (hq.x.up 4 (by rfl))), (fun z hz => (hq.xD z hz).of_mem (mem_flat1 4 (by rfl))), (RdT.flat (hq.y.up 4 (by rfl))), (fun z hz => (hq.yD z hz).of_mem (mem_flat1 4 (by rfl))), (RdT.flat (hq.ops.up 4 (by rfl)))⟩ (by first | assumption | (unfold szP; assumption)) (Sat.flat d0)) ?_)
 rintro _ _ ⟨rfl, k2⟩
 refine ⟨_, rfl, ?_⟩
 have l2 := Sat.unflat k2; clear k2
 try dsimp only [List.set, List.eraseIdx, Value.cells] at l2
 refine pu3 ?_
 refine sAlloc l2 Try.zeroValue55 ?_
 intro _ _ v2
 refine sTw v2 0 [I ((kernelV q.v s t).1.w), I ((kernelV q.v s t).1.h), I ((kernelV q.v s t).1.max_)] Try.sizeOf55 ?_
 intro _ l0
 try dsimp only [List.set, List.eraseIdx, Value.cells] at l0
 refine pu1 <| nT <| seqE <| sR <| pu2 <| nT ?_
 by_cases m2 : ((kernelV q.v s t).2 : Int) = 0
 rotate_left
 ·refine cT _ (bne_iff_ne.2 m2) ?_
  refine sR <| pu2 ?_
  refine sTw l0 1 [I 0, I 0, I 0] Try.sizeOf55 ?_
  intro _ f1
  try dsimp only [List.set, List.eraseIdx, Value.cells] at f1
  refine pu1 <| nT ?_
  refine retE (thenK_r <| ?_)
  refine retN (vs := [.agg #[I 0, I 0, I 0], I ((kernelV q.v s t).2)]) rfl (.cons (.cell _ _ _ _ kr (lvA f1 1 0 [I 0, I 0, I 0] (Try.isAgg55 _) (Try.sizeOf55 _) rfl rfl rfl)) (.cons (.tmp _ _ kr) .nil)) ?_
  have n2 := ((((((f1.pick 5 rfl).dropAt 1 rfl).dropAt 1 rfl).dropAt 1 rfl).dropAt 1 rfl).dropAt 1 rfl)
  change Sat _ _ (H :: F) at n2
  have hk : ofV q.v s t = ((⟨0, 0, 0⟩ : Shape), (kernelV q.v s t).2) := by
   unfold ofV; rw [if_pos ‹_›, if_pos (by unfold szP twoP; simp only [Stage.v]; omega), if_pos (by unfold edgeP; simp only [Stage.v]; (try dsimp only at *); omega), if_neg ‹_›]
  exact ⟨by rw [hk]; rfl, n2⟩
 refine cF _ (bne_eq_false_iff_eq.2 m2) ?_
 refine kT <| sR ?_
 refine sLA l0 0 0 [I ((kernelV q.v s t).1.w), I ((kernelV q.v s t).1.h), I ((kernelV q.v s t).1.max_)] (Try.isAgg55 _) (Try.sizeOf55 _) ?_
 refine sTw l0 1 [I ((kernelV q.v s t).1.w), I ((kernelV q.v s t).1.h), I ((kernelV q.v s t).1.max_)] Try.sizeOf55 ?_
 intro _ g1
 try dsimp only [List.set, List.eraseIdx, Value.cells] at g1
 refine pu1 <| nT <| retE <| retN (vs := [.agg #[I ((kernelV q.v s t).1.w), I ((kernelV q.v s t).1.h), I ((kernelV q.v s t).1.max_)], I 0]) rfl (.cons (.cell _ _ _ _ kr (lvA g1 1 0 [I ((kernelV q.v s t).1.w), I ((kernelV q.v s t).1.h), I ((kernelV q.v s t).1.max_)] (Try.isAgg55 _) (Try.sizeOf55 _) rfl rfl rfl)) (.cons (.tmp _ _ kr) .nil)) ?_
 have o2 := ((((((g1.pick 5 rfl).dropAt 1 rfl).dropAt 1 rfl).dropAt 1 rfl).dropAt 1 rfl).dropAt 1 rfl)
 change Sat _ _ (H :: F) at o2
 have hk : ofV q.v s t = ((kernelV q.v s t).1, 0) := by
  unfold ofV; rw [if_pos ‹_›, if_pos (by unfold szP twoP; simp only [Stage.v]; omega), if_pos (by unfold edgeP; simp only [Stage.v]; (try dsimp only at *); omega), if_pos ‹_›]
 exact ⟨by rw [hk]; rfl, o2⟩
end Go.Proofs.Ytcddcpaodcjecaa
