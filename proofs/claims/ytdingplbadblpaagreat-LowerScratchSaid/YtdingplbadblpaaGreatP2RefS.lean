import Derived.Test.YtdingplbadblpaaGreatP2RefP
import Derived.Test.YtdingplbadblpaaGreatP2Pure
namespace Go.Proofs.YtdingplbadblpaaGreat
open Go Go.E
set_option linter.unusedVariables false
set_option linter.unusedSimpArgs false
set_option linter.unnecessarySimpa false
set_option maxRecDepth 100000
set_option maxHeartbeats 2000000
variable {W w : World} {H : Chunk} {F : List Chunk}

-- squeezed
def twoP (s : StageV) : Prop := s.kind = 6 ∧ ¬ s.b = -1
instance (s : StageV) : Decidable (twoP s) := by unfold twoP; infer_instance
def szP (s : Shape) : Prop := 1 ≤ s.w ∧ s.w ≤ 128 ∧ 1 ≤ s.h ∧ s.h ≤ 128 ∧ s.w * s.h ≤ 4096 ∧ 1 ≤ s.max_ ∧ s.max_ ≤ 4294967296
instance (s : Shape) : Decidable (szP s) := by unfold szP; infer_instance
def kernelV (q : StageV) (s t : Shape) : Shape × Int :=
  if q.kind = 1 then (⟨s.w, s.h, q.max_⟩, convCode s.max_ q.kW q.kH q.weights q.shift q.max_)
  else if q.kind = 2 then (⟨s.w, s.h, q.max_⟩, sepCode s.max_ q.row q.col q.shift q.shift2 q.max_)
  else if q.kind = 3 then (⟨q.x.length, q.y.length, q.max_⟩, resCode s.w s.h s.max_ q.x q.y q.shift q.shift2 q.max_)
  else if q.kind = 4 then (if 1 ≤ q.bins ∧ q.bins ≤ 128 then (⟨q.bins, 1, s.w * s.h⟩, 0) else (⟨s.w, s.h, q.max_⟩, 9))
  else if q.kind = 5 then (if mostOK s.w s.h s.max_ = true then (⟨s.w, s.h, mostV s.w s.h s.max_⟩, 0) else (⟨s.w, s.h, q.max_⟩, 11))
  else if pwCode q.ops (decide (q.kind = 6 ∧ ¬ q.b = -1)) s.max_ t.max_ q.max_ = 0 then (if (q.kind = 6 ∧ ¬ q.b = -1) ∧ ¬ (s.w = t.w ∧ s.h = t.h) then (⟨s.w, s.h, q.max_⟩, 8) else (⟨s.w, s.h, q.max_⟩, 0))
  else (⟨s.w, s.h, q.max_⟩, pwCode q.ops (decide (q.kind = 6 ∧ ¬ q.b = -1)) s.max_ t.max_ q.max_)
def edgeP (q : StageV) (m : Int) : Prop := (q.edgePolicy = 3 ∧ 0 ≤ q.edgeFill ∧ q.edgeFill ≤ m) ∨ (0 ≤ q.edgePolicy ∧ q.edgePolicy < 3 ∧ q.edgeFill = 0)
instance (q : StageV) (m : Int) : Decidable (edgeP q m) := by unfold edgeP; infer_instance
def ofV (q : StageV) (s t : Shape) : Shape × Int :=
  if fieldsP q then (if szP s ∧ (¬ twoP q ∨ szP t) then (if ¬ (q.kind = 1 ∨ q.kind = 2 ∨ q.kind = 3) ∨ edgeP q s.max_ then (if (kernelV q s t).2 = 0 then ((kernelV q s t).1, 0) else (⟨0, 0, 0⟩, (kernelV q s t).2)) else (⟨0, 0, 0⟩, 1)) else (⟨0, 0, 0⟩, 2)) else (⟨0, 0, 0⟩, 1)
theorem r15_kernel (q : Stage) (s : Shape) (t : Shape) (hq : Stage.Ok [H] q) (hs : szP s) (hS : Sat W w (H :: F)) :
  Ro Tryz.prog 116 #[.agg (encStage q).toArray, .agg #[I s.w, I s.h, I s.max_], .agg #[I t.w, I t.h, I t.max_]] (.tuple #[.agg #[I ((kernelV q.v s t).1.w), I ((kernelV q.v s t).1.h), I ((kernelV q.v s t).1.max_)], I ((kernelV q.v s t).2)]) W w (H :: F) := by
 have hl_q_weights := hq.weights.le; have hn_q_weights := hq.weights.len
 have hl_q_row := hq.row.le; have hn_q_row := hq.row.len
 have hl_q_col := hq.col.le; have hn_q_col := hq.col.len
 have hl_q_x := hq.x.le; have hn_q_x := hq.x.len
 have hl_q_y := hq.y.le; have hn_q_y := hq.y.len
 have hl_q_ops := hq.ops.le; have hn_q_ops := hq.ops.len
 have hmx : (q.x.l.map Tap.v).length = q.x.n := by simp [hn_q_x]
 have hmy : (q.y.l.map Tap.v).length = q.y.n := by simp [hn_q_y]
 refine callsA 140 Tryz.func116 rfl ?_
 refine sR ?_
 refine sBox hS (.agg (encStage q).toArray) (encStage q).toArray ?_
 intro b0 _ z0
 refine sBox z0 (.agg #[I s.w, I s.h, I s.max_]) #[I s.w, I s.h, I s.max_] ?_
 intro d0 _ a1
 refine sBox a1 (.agg #[I t.w, I t.h, I t.max_]) #[I t.w, I t.h, I t.max_] ?_
 intro b1 _ c1
 refine sAlloc c1 Tryz.zeroValue54 ?_
 intro _ _ i0
 refine pu1 <| nT <| seqE ?_
 have hs2 := hs; unfold szP at hs2; have hwh := mul_bd (a := s.w) (b := s.h) (A := 128) (B := 128) om om
 refine regionE <| pu1 ?_
 refine sL i0 2 0 (I s.w) (Tryz.isAgg3 _) ?_
 refine pu1 ?_
 refine sL i0 2 1 (I s.h) (Tryz.isAgg3 _) ?_
 refine pu1 ?_
 refine sL i0 3 17 (I q.max_) (Tryz.isAgg3 _) ?_
 refine pu1 ?_
 refine sAlloc i0 Tryz.zeroValue54 ?_
 intro e0 _ d1
 refine sT d1 0 0 (.agg #[I s.w, I s.h, I q.max_]) [I s.w, I s.h, I q.max_] #[I s.w, I s.h, I q.max_] Tryz.sizeOf54 ?_
 intro _ a0
 refine nT <| seqE <| sR <| pu1 ?_
 refine sL a0 4 0 (I q.kind) (Tryz.isAgg3 _) ?_
 refine nT <| blockE <| sR <| pu2 <| nT ?_
 refine cE q.kind 1 (fun e1 => ?_) (fun e1 => ?_)
 ·refine seqE ?_
  refine drawE [13, 14] [(0, ⟨e0, 0, none⟩, I s.w), (0, ⟨e0, 1, none⟩, I s.h), (0, ⟨e0, 2, none⟩, I q.max_), (2, ⟨d0, 2, none⟩, I s.max_), (4, ⟨b0, 6, none⟩, I q.kW), (6, ⟨b0, 7, none⟩, I q.kH), (8, ⟨b0, 8, none⟩, .slice q.weights.a q.weights.n q.weights.k), (10, ⟨b0, 11, none⟩, I q.shift), (12, ⟨b0, 17, none⟩, I q.max_)] [(true, [1, 3, 5, 7, 9, 11]), (true, [0]), (true, [2]), (true, [4]), (true, [6]), (true, [8]), (true, [10]), (true, [12]), (false, [13]), (false, [14]), (true, [15])] rfl kr ⟨.inr (a0.cell 0 rfl rfl), .inr (a0.cell 0 rfl rfl), .inr (a0.cell 0 rfl rfl), .inr (a0.cell 3 rfl rfl), .inr (a0.cell 4 rfl rfl), .inr (a0.cell 4 rfl rfl), .inr (a0.cell 4 rfl rfl), .inr (a0.cell 4 rfl rfl), .inr (a0.cell 4 rfl rfl), trivial⟩ ?_
  have f1 := a0.drew
  refine wU [1, 3, 5, 7, 9, 11] ?_
  refine wY (.agg #[I s.w, I s.h, I q.max_]) rfl (fun w hF => Y_loadF rfl (Tryz.isAgg54 w) (Tryz.sizeOf54 w) kr rfl ⟨hF 0 _ _ rfl, hF 1 _ _ rfl, hF 2 _ _ rfl, trivial⟩) ?_
  refine wLd (I s.max_) 3 Tryz.isAgg3 ?_
  refine wLd (I q.kW) 4 Tryz.isAgg3 ?_
  refine wLd (I q.kH) 5 Tryz.isAgg3 ?_
  refine wLd (.slice q.weights.a q.weights.n q.weights.k) 6 Tryz.isAgg22 ?_
  refine wLd (I q.shift) 7 Tryz.isAgg3 ?_
  refine wLd (I q.max_) 8 Tryz.isAgg3 ?_
  refine wO rfl ?_
  refine cR Tryz.call148 (r9_check s.max_ q.kW q.kH q.weights.a q.weights.n q.weights.k q.weights.l q.shift q.max_ (RdT.flat (hq.weights.up 5 (by rfl))) (Sat.flat f1)) ?_
  intro _ j0
  refine nilO ⟨⟨.inr (j0.cell 0 rfl rfl), .inr (j0.cell 0 rfl rfl), .inr (j0.cell 0 rfl rfl), dI, dI, dI, dI, dI, dI, trivial⟩, ?_⟩
  refine wO rfl ?_
  refine sT j0 1 0 (.agg #[I s.w, I s.h, I q.max_]) [I s.w, I s.h, I q.max_] #[I s.w, I s.h, I q.max_] Tryz.sizeOf54 ?_
  intro _ n0
  refine nilO ⟨dA, ?_⟩
  refine wU [15] ?_
  refine wN ?_
  refine thenK_n <| retE <| blockK_r <| thenK_r <| retN (vs := [.agg #[I s.w, I s.h, I q.max_], I (convCode s.max_ q.kW q.kH q.weights.l q.shift q.max_)]) rfl (.cons (.cell _ _ _ _ kr (lvA n0 1 0 [I s.w, I s.h, I q.max_] (Tryz.isAgg54 _) (Tryz.sizeOf54 _) rfl rfl rfl)) (.cons (.tmp _ _ kr) .nil)) ?_
  have g1 := (n0.drops [0, 0, 0, 0, 0])
  have hk : kernelV q.v s t = ((⟨s.w, s.h, q.max_⟩ : Shape), (convCode s.max_ q.kW q.kH q.weights.l q.shift q.max_)) := by
   unfold kernelV; rw [if_pos (by simp only [Stage.v]; omega)] <;> rfl
  exact ⟨by rw [hk]; rfl, g1⟩
 refine sR <| pu2 <| nT ?_
 refine cE q.kind 2 (fun h1 => ?_) (fun h1 => ?_)
 ·refine seqE ?_
  refine drawE [13, 14] [(0, ⟨e0, 0, none⟩, I s.w), (0, ⟨e0, 1, none⟩, I s.h), (0, ⟨e0, 2, none⟩, I q.max_), (2, ⟨d0, 2, none⟩, I s.max_), (4, ⟨b0, 9, none⟩, .slice q.row.a q.row.n q.row.k), (6, ⟨b0, 10, none⟩, .slice q.col.a q.col.n q.col.k), (8, ⟨b0, 11, none⟩, I q.shift), (10, ⟨b0, 12, none⟩, I q.shift2), (12, ⟨b0, 17, none⟩, I q.max_)] [(true, [1, 3, 5, 7, 9, 11]), (true, [0]), (true, [2]), (true, [4]), (true, [6]), (true, [8]), (true, [10]), (true, [12]), (false, [13]), (false, [14]), (true, [15])] rfl kr ⟨.inr (a0.cell 0 rfl rfl), .inr (a0.cell 0 rfl rfl), .inr (a0.cell 0 rfl rfl), .inr (a0.cell 3 rfl rfl), .inr (a0.cell 4 rfl rfl), .inr (a0.cell 4 rfl rfl), .inr (a0.cell 4 rfl rfl), .inr (a0.cell 4 rfl rfl), .inr (a0.cell 4 rfl rfl), trivial⟩ ?_
  have i1 := a0.drew
  refine wU [1, 3, 5, 7, 9, 11] ?_
  refine wY (.agg #[I s.w, I s.h, I q.max_]) rfl (fun w hF => Y_loadF rfl (Tryz.isAgg54 w) (Tryz.sizeOf54 w) kr rfl ⟨hF 0 _ _ rfl, hF 1 _ _ rfl, hF 2 _ _ rfl, trivial⟩) ?_
  refine wLd (I s.max_) 3 Tryz.isAgg3 ?_
  refine wLd (.slice q.row.a q.row.n q.row.k) 4 Tryz.isAgg22 ?_
  refine wLd (.slice q.col.a q.col.n q.col.k) 5 Tryz.isAgg22 ?_
  refine wLd (I q.shift) 6 Tryz.isAgg3 ?_
  refine wLd (I q.shift2) 7 Tryz.isAgg3 ?_
  refine wLd (I q.max_) 8 Tryz.isAgg3 ?_
  refine wO rfl ?_
  refine cR Tryz.call149 (r10_check s.max_ q.row.a q.row.n q.row.k q.row.l q.col.a q.col.n q.col.k q.col.l q.shift q.shift2 q.max_ (RdT.flat (hq.row.up 5 (by rfl))) (RdT.flat (hq.col.up 5 (by rfl))) (Sat.flat i1)) ?_
  intro _ k0
  refine nilO ⟨⟨.inr (k0.cell 0 rfl rfl), .inr (k0.cell 0 rfl rfl), .inr (k0.cell 0 rfl rfl), dI, dI, dI, dI, dI, dI, trivial⟩, ?_⟩
  refine wO rfl ?_
  refine sT k0 1 0 (.agg #[I s.w, I s.h, I q.max_]) [I s.w, I s.h, I q.max_] #[I s.w, I s.h, I q.max_] Tryz.sizeOf54 ?_
  intro _ o0
  refine nilO ⟨dA, ?_⟩
  refine wU [15] ?_
  refine wN ?_
  refine thenK_n <| retE <| blockK_r <| thenK_r <| retN (vs := [.agg #[I s.w, I s.h, I q.max_], I (sepCode s.max_ q.row.l q.col.l q.shift q.shift2 q.max_)]) rfl (.cons (.cell _ _ _ _ kr (lvA o0 1 0 [I s.w, I s.h, I q.max_] (Tryz.isAgg54 _) (Tryz.sizeOf54 _) rfl rfl rfl)) (.cons (.tmp _ _ kr) .nil)) ?_
  have j1 := (o0.drops [0, 0, 0, 0, 0])
  have hk : kernelV q.v s t = ((⟨s.w, s.h, q.max_⟩ : Shape), (sepCode s.max_ q.row.l q.col.l q.shift q.shift2 q.max_)) := by
   unfold kernelV; rw [if_neg (by simp only [Stage.v]; omega), if_pos (by simp only [Stage.v]; omega)] <;> rfl
  exact ⟨by rw [hk]; rfl, j1⟩
 refine sR <| pu2 <| nT ?_
 refine cE q.kind 3 (fun k1 => ?_) (fun k1 => ?_)
 ·refine seqE ?_
  refine drawE [20, 21] [(1, ⟨b0, 13, none⟩, .slice q.x.a q.x.n q.x.k), (4, ⟨b0, 14, none⟩, .slice q.y.a q.y.n q.y.k), (7, ⟨b0, 17, none⟩, I q.max_), (9, ⟨d0, 0, none⟩, I s.w), (9, ⟨d0, 1, none⟩, I s.h), (9, ⟨d0, 2, none⟩, I s.max_), (11, ⟨b0, 13, none⟩, .slice q.x.a q.x.n q.x.k), (13, ⟨b0, 14, none⟩, .slice q.y.a q.y.n q.y.k), (15, ⟨b0, 11, none⟩, I q.shift), (17, ⟨b0, 12, none⟩, I q.shift2), (19, ⟨b0, 17, none⟩, I q.max_)] [(true, [0, 3, 6, 10, 12, 14, 16, 18]), (true, [1]), (true, [2]), (true, [4]), (true, [5]), (true, [7]), (true, [8]), (true, [9]), (true, [11]), (true, [13]), (true, [15]), (true, [17]), (true, [19]), (false, [20]), (false, [21]), (true, [22])] rfl kr ⟨.inr (a0.cell 4 rfl rfl), .inr (a0.cell 4 rfl rfl), .inr (a0.cell 4 rfl rfl), .inr (a0.cell 3 rfl rfl), .inr (a0.cell 3 rfl rfl), .inr (a0.cell 3 rfl rfl), .inr (a0.cell 4 rfl rfl), .inr (a0.cell 4 rfl rfl), .inr (a0.cell 4 rfl rfl), .inr (a0.cell 4 rfl rfl), .inr (a0.cell 4 rfl rfl), trivial⟩ ?_
  have l1 := a0.drew
  refine wU [0, 3, 6, 10, 12, 14, 16, 18] ?_
  refine wLd (.slice q.x.a q.x.n q.x.k) 0 Tryz.isAgg35 ?_
  refine wU [2] ?_
  refine wLd (.slice q.y.a q.y.n q.y.k) 1 Tryz.isAgg35 ?_
  refine wU [5] ?_
  refine wLd (I q.max_) 2 Tryz.isAgg3 ?_
  refine wU [8] ?_
  refine wY (.agg #[I s.w, I s.h, I s.max_]) rfl (fun w hF => Y_loadF rfl (Tryz.isAgg54 w) (Tryz.sizeOf54 w) kr rfl ⟨hF 3 _ _ rfl, hF 4 _ _ rfl, hF 5 _ _ rfl, trivial⟩) ?_
  refine wLd (.slice q.x.a q.x.n q.x.k) 6 Tryz.isAgg35 ?_
  refine wLd (.slice q.y.a q.y.n q.y.k) 7 Tryz.isAgg35 ?_
  refine wLd (I q.shift) 8 Tryz.isAgg3 ?_
  refine wLd (I q.shift2) 9 Tryz.isAgg3 ?_
  refine wLd (I q.max_) 10 Tryz.isAgg3 ?_
  refine wO rfl ?_
  refine cR Tryz.call150 (r11_check s q.x.a q.x.n q.x.k q.x.l q.y.a q.y.n q.y.k q.y.l q.shift q.shift2 q.max_ (RdT.flat (hq.x.up 5 (by rfl))) (fun z hz => (hq.xD z hz).of_mem (mem_flat1 5 (by rfl))) (RdT.flat (hq.y.up 5 (by rfl))) (fun z hz => (hq.yD z hz).of_mem (mem_flat1 5 (by rfl))) (Sat.flat l1)) ?_
  intro _ l0
  refine nilO ⟨⟨.inr (l0.cell 4 rfl rfl), .inr (l0.cell 4 rfl rfl), .inr (l0.cell 4 rfl rfl), dI, dI, dI, dI, dI, dI, dI, dI, trivial⟩, ?_⟩
  refine wO rfl ?_
  refine sT l0 1 0 (.agg #[I ((q.x.n : Nat) : Int), I ((q.y.n : Nat) : Int), I q.max_]) [I ((q.x.n : Nat) : Int), I ((q.y.n : Nat) : Int), I q.max_] #[I ((q.x.n : Nat) : Int), I ((q.y.n : Nat) : Int), I q.max_] Tryz.sizeOf54 ?_
  intro _ p0
  refine nilO ⟨dA, ?_⟩
  refine wU [22] ?_
  refine wN ?_
  refine thenK_n <| retE <| blockK_r <| thenK_r <| retN (vs := [.agg #[I ((q.x.n : Nat) : Int), I ((q.y.n : Nat) : Int), I q.max_], I (resCode s.w s.h s.max_ (q.x.l.map Tap.v) (q.y.l.map Tap.v) q.shift q.shift2 q.max_)]) rfl (.cons (.cell _ _ _ _ kr (lvA p0 1 0 [I ((q.x.n : Nat) : Int), I ((q.y.n : Nat) : Int), I q.max_] (Tryz.isAgg54 _) (Tryz.sizeOf54 _) rfl rfl rfl)) (.cons (.tmp _ _ kr) .nil)) ?_
  have m1 := (p0.drops [0, 0, 0, 0, 0])
  have hk : kernelV q.v s t = ((⟨((q.x.n : Nat) : Int), ((q.y.n : Nat) : Int), q.max_⟩ : Shape), (resCode s.w s.h s.max_ (q.x.l.map Tap.v) (q.y.l.map Tap.v) q.shift q.shift2 q.max_)) := by
   unfold kernelV; rw [if_neg (by simp only [Stage.v]; omega), if_neg (by simp only [Stage.v]; omega), if_pos (by simp only [Stage.v]; omega)] <;> simp only [Stage.v, hmx, hmy]
  exact ⟨by rw [hk]; rfl, m1⟩
 refine sR <| pu2 <| nT ?_
 refine cE q.kind 4 (fun n1 => ?_) (fun n1 => ?_)
 ·refine seqE <| sR <| pu1 ?_
  refine sL a0 4 15 (I q.bins) (Tryz.isAgg3 _) ?_
  refine cR Tryz.call151 (r12_bins q.bins (Sat.flat a0)) ?_
  intro _ f0
  refine pu1 <| nT ?_
  refine cDn ((1 : Int) ≤ q.bins ∧ q.bins ≤ (128 : Int)) (fun o1 => ?_) (fun o1 => ?_)
  rotate_left
  ·refine sR ?_
   refine lA f0 0 0 3 (Tryz.isAgg54 _) (Tryz.sizeOf54 _) ?_
   refine sT f0 1 0 (.agg #[I s.w, I s.h, I q.max_]) [I s.w, I s.h, I q.max_] #[I s.w, I s.h, I q.max_] Tryz.sizeOf54 ?_
   intro _ q0
   refine pu1 <| nT <| retE <| tR <| thenK_r <| retN (vs := [.agg #[I s.w, I s.h, I q.max_], I 9]) rfl (.cons (.cell _ _ _ _ kr (lvA q0 1 0 [I s.w, I s.h, I q.max_] (Tryz.isAgg54 _) (Tryz.sizeOf54 _) rfl rfl rfl)) (.cons (.tmp _ _ kr) .nil)) ?_
   have p1 := (q0.drops [0, 0, 0, 0, 0])
   have hk : kernelV q.v s t = ((⟨s.w, s.h, q.max_⟩ : Shape), 9) := by
    unfold kernelV; rw [if_neg (by simp only [Stage.v]; omega), if_neg (by simp only [Stage.v]; omega), if_neg (by simp only [Stage.v]; omega), if_pos (by simp only [Stage.v]; omega), if_neg (by simp only [Stage.v]; omega)] <;> rfl
   exact ⟨by rw [hk]; rfl, p1⟩
  refine kT <| sR <| pu1 ?_
  refine sL f0 4 15 (I q.bins) (Tryz.isAgg3 _) ?_
  refine pu1 ?_
  refine sL f0 3 0 (I s.w) (Tryz.isAgg3 _) ?_
  refine pu1 ?_
  refine sL f0 3 1 (I s.h) (Tryz.isAgg3 _) ?_
  refine sMul s.w s.h ?_
  refine pu1 ?_
  refine sT f0 1 0 (.agg #[I q.bins, I 1, I (s.w * s.h)]) [I q.bins, I 1, I (s.w * s.h)] #[I q.bins, I 1, I (s.w * s.h)] Tryz.sizeOf54 ?_
  intro _ r0
  refine pu1 <| nT <| retE <| blockK_r <| thenK_r <| retN (vs := [.agg #[I q.bins, I 1, I (s.w * s.h)], I 0]) rfl (.cons (.cell _ _ _ _ kr (lvA r0 1 0 [I q.bins, I 1, I (s.w * s.h)] (Tryz.isAgg54 _) (Tryz.sizeOf54 _) rfl rfl rfl)) (.cons (.tmp _ _ kr) .nil)) ?_
  have q1 := (r0.drops [0, 0, 0, 0, 0])
  have hk : kernelV q.v s t = ((⟨q.bins, 1, (s.w * s.h)⟩ : Shape), 0) := by
   unfold kernelV; rw [if_neg (by simp only [Stage.v]; omega), if_neg (by simp only [Stage.v]; omega), if_neg (by simp only [Stage.v]; omega), if_pos (by simp only [Stage.v]; omega), if_pos (by simp only [Stage.v]; omega)] <;> rfl
  exact ⟨by rw [hk]; rfl, q1⟩
 refine sR <| pu2 <| nT ?_
 refine cE q.kind 5 (fun r1 => ?_) (fun r1 => ?_)
 ·refine sR ?_
  refine lA a0 3 0 3 (Tryz.isAgg54 _) (Tryz.sizeOf54 _) ?_
  refine cR Tryz.call152 (r13_most s (Sat.flat a0)) ?_
  intro _ g0
  refine pu5 <| nT <| seqE <| sR <| pu2 <| nT ?_
  refine cBn (mostOK s.w s.h s.max_) (fun s1 => ?_) (fun s1 => ?_)
  rotate_left
  ·refine sR ?_
   refine lA g0 0 0 3 (Tryz.isAgg54 _) (Tryz.sizeOf54 _) ?_
   refine sT g0 1 0 (.agg #[I s.w, I s.h, I q.max_]) [I s.w, I s.h, I q.max_] #[I s.w, I s.h, I q.max_] Tryz.sizeOf54 ?_
   intro _ s0
   refine pu1 <| nT <| retE <| tR <| thenK_r <| retN (vs := [.agg #[I s.w, I s.h, I q.max_], I 11]) rfl (.cons (.cell _ _ _ _ kr (lvA s0 1 0 [I s.w, I s.h, I q.max_] (Tryz.isAgg54 _) (Tryz.sizeOf54 _) rfl rfl rfl)) (.cons (.tmp _ _ kr) .nil)) ?_
   have t1 := (s0.drops [0, 0, 0, 0, 0])
   have hk : kernelV q.v s t = ((⟨s.w, s.h, q.max_⟩ : Shape), 11) := by
    unfold kernelV; rw [if_neg (by simp only [Stage.v]; omega), if_neg (by simp only [Stage.v]; omega), if_neg (by simp only [Stage.v]; omega), if_neg (by simp only [Stage.v]; omega), if_pos (by simp only [Stage.v]; omega), if_neg ‹_›] <;> rfl
   exact ⟨by rw [hk]; rfl, t1⟩
  refine kT <| sR <| pu1 ?_
  refine sL g0 3 0 (I s.w) (Tryz.isAgg3 _) ?_
  refine pu1 ?_
  refine sL g0 3 1 (I s.h) (Tryz.isAgg3 _) ?_
  refine pu2 ?_
  refine sT g0 1 0 (.agg #[I s.w, I s.h, I (mostV s.w s.h s.max_)]) [I s.w, I s.h, I (mostV s.w s.h s.max_)] #[I s.w, I s.h, I (mostV s.w s.h s.max_)] Tryz.sizeOf54 ?_
  intro _ t0
  refine pu1 <| nT <| retE <| blockK_r <| thenK_r <| retN (vs := [.agg #[I s.w, I s.h, I (mostV s.w s.h s.max_)], I 0]) rfl (.cons (.cell _ _ _ _ kr (lvA t0 1 0 [I s.w, I s.h, I (mostV s.w s.h s.max_)] (Tryz.isAgg54 _) (Tryz.sizeOf54 _) rfl rfl rfl)) (.cons (.tmp _ _ kr) .nil)) ?_
  have u1 := (t0.drops [0, 0, 0, 0, 0])
  have hk : kernelV q.v s t = ((⟨s.w, s.h, (mostV s.w s.h s.max_)⟩ : Shape), 0) := by
   unfold kernelV; rw [if_neg (by simp only [Stage.v]; omega), if_neg (by simp only [Stage.v]; omega), if_neg (by simp only [Stage.v]; omega), if_neg (by simp only [Stage.v]; omega), if_pos (by simp only [Stage.v]; omega), if_pos ‹_›] <;> rfl
  exact ⟨by rw [hk]; rfl, u1⟩
 refine skipE <| blockK_n <| thenK_n <| seqE <| seqE ?_
 refine drawE [3, 10] [(1, ⟨b0, 16, none⟩, .slice q.ops.a q.ops.n q.ops.k), (2, ⟨b0, 0, none⟩, I q.kind), (2, ⟨b0, 1, none⟩, I q.a), (2, ⟨b0, 2, none⟩, I q.b), (2, ⟨b0, 3, none⟩, .bool q.barrier), (2, ⟨b0, 4, none⟩, I q.edgePolicy), (2, ⟨b0, 5, none⟩, I q.edgeFill), (2, ⟨b0, 6, none⟩, I q.kW), (2, ⟨b0, 7, none⟩, I q.kH), (2, ⟨b0, 8, none⟩, .slice q.weights.a q.weights.n q.weights.k), (2, ⟨b0, 9, none⟩, .slice q.row.a q.row.n q.row.k), (2, ⟨b0, 10, none⟩, .slice q.col.a q.col.n q.col.k), (2, ⟨b0, 11, none⟩, I q.shift), (2, ⟨b0, 12, none⟩, I q.shift2), (2, ⟨b0, 13, none⟩, .slice q.x.a q.x.n q.x.k), (2, ⟨b0, 14, none⟩, .slice q.y.a q.y.n q.y.k), (2, ⟨b0, 15, none⟩, I q.bins), (2, ⟨b0, 16, none⟩, .slice q.ops.a q.ops.n q.ops.k), (2, ⟨b0, 17, none⟩, I q.max_), (5, ⟨d0, 2, none⟩, I s.max_), (7, ⟨b1, 2, none⟩, I t.max_), (9, ⟨b0, 17, none⟩, I q.max_)] [(true, [0, 4, 6, 8]), (true, [1]), (true, [2]), (true, [5]), (true, [7]), (true, [9]), (false, [3]), (false, [10]), (true, [11])] rfl kr ⟨.inr (a0.cell 4 rfl rfl), .inr (a0.cell 4 rfl rfl), .inr (a0.cell 4 rfl rfl), .inr (a0.cell 4 rfl rfl), .inr (a0.cell 4 rfl rfl), .inr (a0.cell 4 rfl rfl), .inr (a0.cell 4 rfl rfl), .inr (a0.cell 4 rfl rfl), .inr (a0.cell 4 rfl rfl), .inr (a0.cell 4 rfl rfl), .inr (a0.cell 4 rfl rfl), .inr (a0.cell 4 rfl rfl), .inr (a0.cell 4 rfl rfl), .inr (a0.cell 4 rfl rfl), .inr (a0.cell 4 rfl rfl), .inr (a0.cell 4 rfl rfl), .inr (a0.cell 4 rfl rfl), .inr (a0.cell 4 rfl rfl), .inr (a0.cell 4 rfl rfl), .inr (a0.cell 3 rfl rfl), .inr (a0.cell 2 rfl rfl), .inr (a0.cell 4 rfl rfl), trivial⟩ ?_
 have v1 := a0.drew
 refine wU [0, 4, 6, 8] ?_
 refine wLd (.slice q.ops.a q.ops.n q.ops.k) 0 Tryz.isAgg36 ?_
 refine wY (.agg (encStage q).toArray) rfl (fun w hF => Y_loadF rfl (Tryz.isAgg38 w) (Tryz.sizeOf38 w) kr rfl ⟨hF 1 _ _ rfl, hF 2 _ _ rfl, hF 3 _ _ rfl, hF 4 _ _ rfl, hF 5 _ _ rfl, hF 6 _ _ rfl, hF 7 _ _ rfl, hF 8 _ _ rfl, hF 9 _ _ rfl, hF 10 _ _ rfl, hF 11 _ _ rfl, hF 12 _ _ rfl, hF 13 _ _ rfl, hF 14 _ _ rfl, hF 15 _ _ rfl, hF 16 _ _ rfl, hF 17 _ _ rfl, hF 18 _ _ rfl, trivial⟩) ?_
 refine wLd (I s.max_) 19 Tryz.isAgg3 ?_
 refine wLd (I t.max_) 20 Tryz.isAgg3 ?_
 refine wLd (I q.max_) 21 Tryz.isAgg3 ?_
 refine wO rfl ?_
 refine cR Tryz.call55 (r15_two q ⟨(RdT.flat (hq.weights.up 5 (by rfl))), (RdT.flat (hq.row.up 5 (by rfl))), (RdT.flat (hq.col.up 5 (by rfl))), (RdT.flat (hq.x.up 5 (by rfl))), (fun z hz => (hq.xD z hz).of_mem (mem_flat1 5 (by rfl))), (RdT.flat (hq.y.up 5 (by rfl))), (fun z hz => (hq.yD z hz).of_mem (mem_flat1 5 (by rfl))), (RdT.flat (hq.ops.up 5 (by rfl)))⟩ (Sat.flat v1)) ?_
 intro _ h0
 refine nilO ⟨⟨.inr (h0.cell 4 rfl rfl), dI, dI, dI, dI, dI, dI, dI, dI, dI, dI, dI, dI, dI, dI, dI, dI, dI, dI, .inr (h0.cell 3 rfl rfl), .inr (h0.cell 2 rfl rfl), .inr (h0.cell 4 rfl rfl), trivial⟩, ?_⟩
 refine wO rfl ?_
 refine cR Tryz.call153 (r14_check q.ops.a q.ops.n q.ops.k q.ops.l (decide (q.kind = 6 ∧ ¬ q.b = -1)) s.max_ t.max_ q.max_ (RdT.flat (hq.ops.up 5 (by rfl))) (Sat.flat h0)) ?_
 intro _ m0
 refine nilO ⟨dA, ?_⟩
 refine wU [11] ?_
 refine wN ?_
 refine thenK_n <| sR <| pu2 <| nT ?_
 refine cN (pwCode q.ops.l (decide (q.kind = 6 ∧ ¬ q.b = -1)) s.max_ t.max_ q.max_) 0 (fun w1 => ?_) (fun w1 => ?_)
 rotate_left
 ·refine sR ?_
  refine lA m0 0 0 3 (Tryz.isAgg54 _) (Tryz.sizeOf54 _) ?_
  refine pu1 ?_
  refine sT m0 1 0 (.agg #[I s.w, I s.h, I q.max_]) [I s.w, I s.h, I q.max_] #[I s.w, I s.h, I q.max_] Tryz.sizeOf54 ?_
  intro _ u0
  refine pu1 <| nT <| retE <| thenK_r <| retN (vs := [.agg #[I s.w, I s.h, I q.max_], I (pwCode q.ops.l (decide (q.kind = 6 ∧ ¬ q.b = -1)) s.max_ t.max_ q.max_)]) rfl (.cons (.cell _ _ _ _ kr (lvA u0 1 0 [I s.w, I s.h, I q.max_] (Tryz.isAgg54 _) (Tryz.sizeOf54 _) rfl rfl rfl)) (.cons (.tmp _ _ kr) .nil)) ?_
  have x1 := (u0.drops [0, 0, 0, 0, 0])
  have hk : kernelV q.v s t = ((⟨s.w, s.h, q.max_⟩ : Shape), (pwCode q.ops.l (decide (q.kind = 6 ∧ ¬ q.b = -1)) s.max_ t.max_ q.max_)) := by
   unfold kernelV; rw [if_neg (by simp only [Stage.v]; omega), if_neg (by simp only [Stage.v]; omega), if_neg (by simp only [Stage.v]; omega), if_neg (by simp only [Stage.v]; omega), if_neg (by simp only [Stage.v]; omega), if_neg ‹_›] <;> rfl
  exact ⟨by rw [hk]; rfl, x1⟩
 refine kT <| seqE <| sR ?_
 refine lA m0 4 0 18 (Tryz.isAgg38 _) (Tryz.sizeOf38 _) ?_
 refine cR Tryz.call55 (r15_two q ⟨(RdT.flat (hq.weights.up 5 (by rfl))), (RdT.flat (hq.row.up 5 (by rfl))), (RdT.flat (hq.col.up 5 (by rfl))), (RdT.flat (hq.x.up 5 (by rfl))), (fun z hz => (hq.xD z hz).of_mem (mem_flat1 5 (by rfl))), (RdT.flat (hq.y.up 5 (by rfl))), (fun z hz => (hq.yD z hz).of_mem (mem_flat1 5 (by rfl))), (RdT.flat (hq.ops.up 5 (by rfl)))⟩ (Sat.flat m0)) ?_
 intro _ c0
 refine pu1 ?_
 refine sD 124 (q.kind = 6 ∧ ¬ q.b = -1) (fun y1 => ?_) (fun y1 => ?_)
 rotate_left
 ·refine pu13 <| nT <| cFf <| kT <| sR ?_
  refine lA c0 0 0 3 (Tryz.isAgg54 _) (Tryz.sizeOf54 _) ?_
  refine sT c0 1 0 (.agg #[I s.w, I s.h, I q.max_]) [I s.w, I s.h, I q.max_] #[I s.w, I s.h, I q.max_] Tryz.sizeOf54 ?_
  intro _ v0
  refine pu1 <| nT <| retE <| retN (vs := [.agg #[I s.w, I s.h, I q.max_], I 0]) rfl (.cons (.cell _ _ _ _ kr (lvA v0 1 0 [I s.w, I s.h, I q.max_] (Tryz.isAgg54 _) (Tryz.sizeOf54 _) rfl rfl rfl)) (.cons (.tmp _ _ kr) .nil)) ?_
  have z1 := (v0.drops [0, 0, 0, 0, 0])
  have hk : kernelV q.v s t = ((⟨s.w, s.h, q.max_⟩ : Shape), 0) := by
   unfold kernelV; rw [if_neg (by simp only [Stage.v]; omega), if_neg (by simp only [Stage.v]; omega), if_neg (by simp only [Stage.v]; omega), if_neg (by simp only [Stage.v]; omega), if_neg (by simp only [Stage.v]; omega), if_pos ‹_›, if_neg (by simp only [Stage.v]; omega)] <;> rfl
  exact ⟨by rw [hk]; rfl, z1⟩
 refine pu1 <| gY ?_
 refine sL c0 3 0 (I s.w) (Tryz.isAgg3 _) ?_
 refine pu1 <| gY ?_
 refine sL c0 2 0 (I t.w) (Tryz.isAgg3 _) ?_
 refine pu2 ?_
 refine sN 130 s.w t.w (fun a2 => ?_) (fun a2 => ?_)
 rotate_left
 ·refine pu7 <| nT <| cTt <| sR ?_
  refine lA c0 0 0 3 (Tryz.isAgg54 _) (Tryz.sizeOf54 _) ?_
  refine sT c0 1 0 (.agg #[I s.w, I s.h, I q.max_]) [I s.w, I s.h, I q.max_] #[I s.w, I s.h, I q.max_] Tryz.sizeOf54 ?_
  intro _ w0
  refine pu1 <| nT <| retE <| thenK_r <| retN (vs := [.agg #[I s.w, I s.h, I q.max_], I 8]) rfl (.cons (.cell _ _ _ _ kr (lvA w0 1 0 [I s.w, I s.h, I q.max_] (Tryz.isAgg54 _) (Tryz.sizeOf54 _) rfl rfl rfl)) (.cons (.tmp _ _ kr) .nil)) ?_
  have b2 := (w0.drops [0, 0, 0, 0, 0])
  have hk : kernelV q.v s t = ((⟨s.w, s.h, q.max_⟩ : Shape), 8) := by
   unfold kernelV; rw [if_neg (by simp only [Stage.v]; omega), if_neg (by simp only [Stage.v]; omega), if_neg (by simp only [Stage.v]; omega), if_neg (by simp only [Stage.v]; omega), if_neg (by simp only [Stage.v]; omega), if_pos ‹_›, if_pos (by simp only [Stage.v]; omega)] <;> rfl
  exact ⟨by rw [hk]; rfl, b2⟩
 refine pu1 <| gY ?_
 refine sL c0 3 1 (I s.h) (Tryz.isAgg3 _) ?_
 refine pu1 <| gY ?_
 refine sL c0 2 1 (I t.h) (Tryz.isAgg3 _) ?_
 refine pu3 <| nT ?_
 refine cN s.h t.h (fun c2 => ?_) (fun c2 => ?_)
 rotate_left
 ·refine sR ?_
  refine lA c0 0 0 3 (Tryz.isAgg54 _) (Tryz.sizeOf54 _) ?_
  refine sT c0 1 0 (.agg #[I s.w, I s.h, I q.max_]) [I s.w, I s.h, I q.max_] #[I s.w, I s.h, I q.max_] Tryz.sizeOf54 ?_
  intro _ x0
  refine pu1 <| nT <| retE <| thenK_r <| retN (vs := [.agg #[I s.w, I s.h, I q.max_], I 8]) rfl (.cons (.cell _ _ _ _ kr (lvA x0 1 0 [I s.w, I s.h, I q.max_] (Tryz.isAgg54 _) (Tryz.sizeOf54 _) rfl rfl rfl)) (.cons (.tmp _ _ kr) .nil)) ?_
  have d2 := (x0.drops [0, 0, 0, 0, 0])
  have hk : kernelV q.v s t = ((⟨s.w, s.h, q.max_⟩ : Shape), 8) := by
   unfold kernelV; rw [if_neg (by simp only [Stage.v]; omega), if_neg (by simp only [Stage.v]; omega), if_neg (by simp only [Stage.v]; omega), if_neg (by simp only [Stage.v]; omega), if_neg (by simp only [Stage.v]; omega), if_pos ‹_›, if_pos (by simp only [Stage.v]; omega)] <;> rfl
  exact ⟨by rw [hk]; rfl, d2⟩
 refine kT <| sR ?_
 refine lA c0 0 0 3 (Tryz.isAgg54 _) (Tryz.sizeOf54 _) ?_
 refine sT c0 1 0 (.agg #[I s.w, I s.h, I q.max_]) [I s.w, I s.h, I q.max_] #[I s.w, I s.h, I q.max_] Tryz.sizeOf54 ?_
 intro _ y0
 refine pu1 <| nT <| retE <| retN (vs := [.agg #[I s.w, I s.h, I q.max_], I 0]) rfl (.cons (.cell _ _ _ _ kr (lvA y0 1 0 [I s.w, I s.h, I q.max_] (Tryz.isAgg54 _) (Tryz.sizeOf54 _) rfl rfl rfl)) (.cons (.tmp _ _ kr) .nil)) ?_
 have e2 := (y0.drops [0, 0, 0, 0, 0])
 have hk : kernelV q.v s t = ((⟨s.w, s.h, q.max_⟩ : Shape), 0) := by
  unfold kernelV; rw [if_neg (by simp only [Stage.v]; omega), if_neg (by simp only [Stage.v]; omega), if_neg (by simp only [Stage.v]; omega), if_neg (by simp only [Stage.v]; omega), if_neg (by simp only [Stage.v]; omega), if_pos ‹_›, if_neg (by simp only [Stage.v]; omega)] <;> rfl
 exact ⟨by rw [hk]; rfl, e2⟩
theorem r15_of (q : Stage) (s : Shape) (t : Shape) (hq : Stage.Ok [H] q) (hS : Sat W w (H :: F)) :
  Ro Tryz.prog 70 #[.agg (encStage q).toArray, .agg #[I s.w, I s.h, I s.max_], .agg #[I t.w, I t.h, I t.max_]] (.tuple #[.agg #[I ((ofV q.v s t).1.w), I ((ofV q.v s t).1.h), I ((ofV q.v s t).1.max_)], I ((ofV q.v s t).2)]) W w (H :: F) := by
 have hl_q_weights := hq.weights.le; have hn_q_weights := hq.weights.len
 have hl_q_row := hq.row.le; have hn_q_row := hq.row.len
 have hl_q_col := hq.col.le; have hn_q_col := hq.col.len
 have hl_q_x := hq.x.le; have hn_q_x := hq.x.len
 have hl_q_y := hq.y.le; have hn_q_y := hq.y.len
 have hl_q_ops := hq.ops.le; have hn_q_ops := hq.ops.len
 refine callsA 54 Tryz.func70 rfl ?_
 refine sR ?_
 refine sBox hS (.agg (encStage q).toArray) (encStage q).toArray ?_
 intro _ _ a1
 refine sBox a1 (.agg #[I s.w, I s.h, I s.max_]) #[I s.w, I s.h, I s.max_] ?_
 intro _ _ b1
 refine sBox b1 (.agg #[I t.w, I t.h, I t.max_]) #[I t.w, I t.h, I t.max_] ?_
 intro _ _ c1
 refine sAlloc c1 Tryz.zeroValue54 ?_
 intro _ _ m0
 refine pu1 <| nT <| seqE <| blockE <| sR ?_
 refine lA m0 3 0 18 (Tryz.isAgg38 _) (Tryz.sizeOf38 _) ?_
 refine cR Tryz.call112 (r15_fields q ⟨(RdT.flat (hq.weights.up 4 (by rfl))), (RdT.flat (hq.row.up 4 (by rfl))), (RdT.flat (hq.col.up 4 (by rfl))), (RdT.flat (hq.x.up 4 (by rfl))), (fun z hz => (hq.xD z hz).of_mem (mem_flat1 4 (by rfl))), (RdT.flat (hq.y.up 4 (by rfl))), (fun z hz => (hq.yD z hz).of_mem (mem_flat1 4 (by rfl))), (RdT.flat (hq.ops.up 4 (by rfl)))⟩ (Sat.flat m0)) ?_
 intro _ f0
 refine pu2 <| nT ?_
 refine cDn (fieldsP q.v) (fun d1 => ?_) (fun d1 => ?_)
 rotate_left
 ·refine sR <| pu1 ?_
  refine sT f0 0 0 (.agg #[I 0, I 0, I 0]) [I 0, I 0, I 0] #[I 0, I 0, I 0] Tryz.sizeOf54 ?_
  intro _ n0
  refine pu1 <| nT <| retE <| blockK_r <| thenK_r <| retN (vs := [.agg #[I 0, I 0, I 0], I 1]) rfl (.cons (.cell _ _ _ _ kr (lvA n0 0 0 [I 0, I 0, I 0] (Tryz.isAgg54 _) (Tryz.sizeOf54 _) rfl rfl rfl)) (.cons (.tmp _ _ kr) .nil)) ?_
  have e1 := (n0.drops [0, 0, 0, 0])
  have hk : ofV q.v s t = ((⟨0, 0, 0⟩ : Shape), 1) := by
   unfold ofV; rw [if_neg ‹_›]
  exact ⟨by rw [hk]; rfl, e1⟩
 refine sR ?_
 refine lA f0 2 0 3 (Tryz.isAgg54 _) (Tryz.sizeOf54 _) ?_
 refine cR Tryz.call113 (r15_valid s (Sat.flat f0)) ?_
 intro _ g0
 refine pu2 ?_
 refine sDn 19 ((1 : Int) ≤ s.w ∧ s.w ≤ (128 : Int) ∧ (1 : Int) ≤ s.h ∧ s.h ≤ (128 : Int) ∧ s.w * s.h ≤ (4096 : Int) ∧ (1 : Int) ≤ s.max_ ∧ s.max_ ≤ (4294967296 : Int)) (fun f1 => ?_) (fun f1 => ?_)
 rotate_left
 ·refine pu9 <| nT <| cTt <| sR <| pu1 ?_
  refine sT g0 0 0 (.agg #[I 0, I 0, I 0]) [I 0, I 0, I 0] #[I 0, I 0, I 0] Tryz.sizeOf54 ?_
  intro _ o0
  refine pu1 <| nT <| retE <| blockK_r <| thenK_r <| retN (vs := [.agg #[I 0, I 0, I 0], I 2]) rfl (.cons (.cell _ _ _ _ kr (lvA o0 0 0 [I 0, I 0, I 0] (Tryz.isAgg54 _) (Tryz.sizeOf54 _) rfl rfl rfl)) (.cons (.tmp _ _ kr) .nil)) ?_
  have g1 := (o0.drops [0, 0, 0, 0])
  have hk : ofV q.v s t = ((⟨0, 0, 0⟩ : Shape), 2) := by
   unfold ofV; rw [if_pos ‹_›, if_neg (by unfold szP twoP; simp only [Stage.v]; omega)]
  exact ⟨by rw [hk]; rfl, g1⟩
 refine gY ?_
 refine lA g0 3 0 18 (Tryz.isAgg38 _) (Tryz.sizeOf38 _) ?_
 refine gY ?_
 refine cR Tryz.call55 (r15_two q ⟨(RdT.flat (hq.weights.up 4 (by rfl))), (RdT.flat (hq.row.up 4 (by rfl))), (RdT.flat (hq.col.up 4 (by rfl))), (RdT.flat (hq.x.up 4 (by rfl))), (fun z hz => (hq.xD z hz).of_mem (mem_flat1 4 (by rfl))), (RdT.flat (hq.y.up 4 (by rfl))), (fun z hz => (hq.yD z hz).of_mem (mem_flat1 4 (by rfl))), (RdT.flat (hq.ops.up 4 (by rfl)))⟩ (Sat.flat g0)) ?_
 intro _ e0
 refine pu1 ?_
 refine sD 22 (q.kind = 6 ∧ ¬ q.b = -1) (fun h1 => ?_) (fun h1 => ?_)
 rotate_left
 ·refine pu6 <| nT <| cFf <| sR <| pu1 ?_
  refine sL e0 3 0 (I q.kind) (Tryz.isAgg3 _) ?_
  refine cR Tryz.call114 (r15_edged q.kind (Sat.flat e0)) ?_
  intro _ a0
  refine pu1 ?_
  refine sD 33 (q.kind = 1 ∨ q.kind = 2 ∨ q.kind = 3) (fun i1 => ?_) (fun i1 => ?_)
  rotate_left
  ·refine pu8 <| nT <| cFf <| skipE <| blockK_n <| thenK_n <| sR ?_
   refine lA a0 3 0 18 (Tryz.isAgg38 _) (Tryz.sizeOf38 _) ?_
   refine lA a0 2 0 3 (Tryz.isAgg54 _) (Tryz.sizeOf54 _) ?_
   refine lA a0 1 0 3 (Tryz.isAgg54 _) (Tryz.sizeOf54 _) ?_
   refine cR Tryz.call116 (r15_kernel q s t ⟨(RdT.flat (hq.weights.up 4 (by rfl))), (RdT.flat (hq.row.up 4 (by rfl))), (RdT.flat (hq.col.up 4 (by rfl))), (RdT.flat (hq.x.up 4 (by rfl))), (fun z hz => (hq.xD z hz).of_mem (mem_flat1 4 (by rfl))), (RdT.flat (hq.y.up 4 (by rfl))), (fun z hz => (hq.yD z hz).of_mem (mem_flat1 4 (by rfl))), (RdT.flat (hq.ops.up 4 (by rfl)))⟩ (by first | assumption | (unfold szP; assumption)) (Sat.flat a0)) ?_
   intro _ j1
   refine pu3 ?_
   refine sAlloc j1 Tryz.zeroValue54 ?_
   intro _ _ k1
   refine sT k1 0 0 (.agg #[I ((kernelV q.v s t).1.w), I ((kernelV q.v s t).1.h), I ((kernelV q.v s t).1.max_)]) [I ((kernelV q.v s t).1.w), I ((kernelV q.v s t).1.h), I ((kernelV q.v s t).1.max_)] #[I ((kernelV q.v s t).1.w), I ((kernelV q.v s t).1.h), I ((kernelV q.v s t).1.max_)] Tryz.sizeOf54 ?_
   intro _ h0
   refine pu1 <| nT <| seqE <| sR <| pu2 <| nT ?_
   refine cN ((kernelV q.v s t).2) 0 (fun l1 => ?_) (fun l1 => ?_)
   rotate_left
   ·refine sR <| pu2 ?_
    refine sT h0 1 0 (.agg #[I 0, I 0, I 0]) [I 0, I 0, I 0] #[I 0, I 0, I 0] Tryz.sizeOf54 ?_
    intro _ p0
    refine pu1 <| nT <| retE <| thenK_r <| retN (vs := [.agg #[I 0, I 0, I 0], I ((kernelV q.v s t).2)]) rfl (.cons (.cell _ _ _ _ kr (lvA p0 1 0 [I 0, I 0, I 0] (Tryz.isAgg54 _) (Tryz.sizeOf54 _) rfl rfl rfl)) (.cons (.tmp _ _ kr) .nil)) ?_
    have m1 := (p0.drops [0, 0, 0, 0, 0])
    have hk : ofV q.v s t = ((⟨0, 0, 0⟩ : Shape), (kernelV q.v s t).2) := by
     unfold ofV; rw [if_pos ‹_›, if_pos (by unfold szP twoP; simp only [Stage.v]; omega), if_pos (by unfold edgeP; simp only [Stage.v]; (try dsimp only at *); omega), if_neg ‹_›]
    exact ⟨by rw [hk]; rfl, m1⟩
   refine kT <| sR ?_
   refine lA h0 0 0 3 (Tryz.isAgg54 _) (Tryz.sizeOf54 _) ?_
   refine sT h0 1 0 (.agg #[I ((kernelV q.v s t).1.w), I ((kernelV q.v s t).1.h), I ((kernelV q.v s t).1.max_)]) [I ((kernelV q.v s t).1.w), I ((kernelV q.v s t).1.h), I ((kernelV q.v s t).1.max_)] #[I ((kernelV q.v s t).1.w), I ((kernelV q.v s t).1.h), I ((kernelV q.v s t).1.max_)] Tryz.sizeOf54 ?_
   intro _ q0
   refine pu1 <| nT <| retE <| retN (vs := [.agg #[I ((kernelV q.v s t).1.w), I ((kernelV q.v s t).1.h), I ((kernelV q.v s t).1.max_)], I 0]) rfl (.cons (.cell _ _ _ _ kr (lvA q0 1 0 [I ((kernelV q.v s t).1.w), I ((kernelV q.v s t).1.h), I ((kernelV q.v s t).1.max_)] (Tryz.isAgg54 _) (Tryz.sizeOf54 _) rfl rfl rfl)) (.cons (.tmp _ _ kr) .nil)) ?_
   have n1 := (q0.drops [0, 0, 0, 0, 0])
   have hk : ofV q.v s t = ((kernelV q.v s t).1, 0) := by
    unfold ofV; rw [if_pos ‹_›, if_pos (by unfold szP twoP; simp only [Stage.v]; omega), if_pos (by unfold edgeP; simp only [Stage.v]; (try dsimp only at *); omega), if_pos ‹_›]
   exact ⟨by rw [hk]; rfl, n1⟩
  refine pu1 <| gY ?_
  refine lA a0 3 4 2 (Tryz.isAgg34 _) (Tryz.sizeOf34 _) ?_
  refine pu1 <| gY ?_
  refine sL a0 2 2 (I s.max_) (Tryz.isAgg3 _) ?_
  refine gY ?_
  refine cR Tryz.call115 (r3_valid (⟨q.edgePolicy, q.edgeFill⟩ : Edge) s.max_ (Sat.flat a0)) ?_
  intro _ c0
  refine pu3 <| nT ?_
  refine cDn (((⟨q.edgePolicy, q.edgeFill⟩ : Edge).policy = 3 ∧ 0 ≤ (⟨q.edgePolicy, q.edgeFill⟩ : Edge).fill ∧ (⟨q.edgePolicy, q.edgeFill⟩ : Edge).fill ≤ s.max_) ∨ (0 ≤ (⟨q.edgePolicy, q.edgeFill⟩ : Edge).policy ∧ (⟨q.edgePolicy, q.edgeFill⟩ : Edge).policy < 3 ∧ (⟨q.edgePolicy, q.edgeFill⟩ : Edge).fill = 0)) (fun o1 => ?_) (fun o1 => ?_)
  rotate_left
  ·refine sR <| pu1 ?_
   refine sT c0 0 0 (.agg #[I 0, I 0, I 0]) [I 0, I 0, I 0] #[I 0, I 0, I 0] Tryz.sizeOf54 ?_
   intro _ r0
   refine pu1 <| nT <| retE <| blockK_r <| thenK_r <| retN (vs := [.agg #[I 0, I 0, I 0], I 1]) rfl (.cons (.cell _ _ _ _ kr (lvA r0 0 0 [I 0, I 0, I 0] (Tryz.isAgg54 _) (Tryz.sizeOf54 _) rfl rfl rfl)) (.cons (.tmp _ _ kr) .nil)) ?_
   have p1 := (r0.drops [0, 0, 0, 0])
   have hk : ofV q.v s t = ((⟨0, 0, 0⟩ : Shape), 1) := by
    unfold ofV; rw [if_pos ‹_›, if_pos (by unfold szP twoP; simp only [Stage.v]; omega), if_neg (by unfold edgeP; simp only [Stage.v]; (try dsimp only at *); omega)]
   exact ⟨by rw [hk]; rfl, p1⟩
  refine skipE <| blockK_n <| thenK_n <| sR ?_
  refine lA c0 3 0 18 (Tryz.isAgg38 _) (Tryz.sizeOf38 _) ?_
  refine lA c0 2 0 3 (Tryz.isAgg54 _) (Tryz.sizeOf54 _) ?_
  refine lA c0 1 0 3 (Tryz.isAgg54 _) (Tryz.sizeOf54 _) ?_
  refine cR Tryz.call116 (r15_kernel q s t ⟨(RdT.flat (hq.weights.up 4 (by rfl))), (RdT.flat (hq.row.up 4 (by rfl))), (RdT.flat (hq.col.up 4 (by rfl))), (RdT.flat (hq.x.up 4 (by rfl))), (fun z hz => (hq.xD z hz).of_mem (mem_flat1 4 (by rfl))), (RdT.flat (hq.y.up 4 (by rfl))), (fun z hz => (hq.yD z hz).of_mem (mem_flat1 4 (by rfl))), (RdT.flat (hq.ops.up 4 (by rfl)))⟩ (by first | assumption | (unfold szP; assumption)) (Sat.flat c0)) ?_
  intro _ q1
  refine pu3 ?_
  refine sAlloc q1 Tryz.zeroValue54 ?_
  intro _ _ r1
  refine sT r1 0 0 (.agg #[I ((kernelV q.v s t).1.w), I ((kernelV q.v s t).1.h), I ((kernelV q.v s t).1.max_)]) [I ((kernelV q.v s t).1.w), I ((kernelV q.v s t).1.h), I ((kernelV q.v s t).1.max_)] #[I ((kernelV q.v s t).1.w), I ((kernelV q.v s t).1.h), I ((kernelV q.v s t).1.max_)] Tryz.sizeOf54 ?_
  intro _ i0
  refine pu1 <| nT <| seqE <| sR <| pu2 <| nT ?_
  refine cN ((kernelV q.v s t).2) 0 (fun s1 => ?_) (fun s1 => ?_)
  rotate_left
  ·refine sR <| pu2 ?_
   refine sT i0 1 0 (.agg #[I 0, I 0, I 0]) [I 0, I 0, I 0] #[I 0, I 0, I 0] Tryz.sizeOf54 ?_
   intro _ s0
   refine pu1 <| nT <| retE <| thenK_r <| retN (vs := [.agg #[I 0, I 0, I 0], I ((kernelV q.v s t).2)]) rfl (.cons (.cell _ _ _ _ kr (lvA s0 1 0 [I 0, I 0, I 0] (Tryz.isAgg54 _) (Tryz.sizeOf54 _) rfl rfl rfl)) (.cons (.tmp _ _ kr) .nil)) ?_
   have t1 := (s0.drops [0, 0, 0, 0, 0])
   have hk : ofV q.v s t = ((⟨0, 0, 0⟩ : Shape), (kernelV q.v s t).2) := by
    unfold ofV; rw [if_pos ‹_›, if_pos (by unfold szP twoP; simp only [Stage.v]; omega), if_pos (by unfold edgeP; simp only [Stage.v]; (try dsimp only at *); omega), if_neg ‹_›]
   exact ⟨by rw [hk]; rfl, t1⟩
  refine kT <| sR ?_
  refine lA i0 0 0 3 (Tryz.isAgg54 _) (Tryz.sizeOf54 _) ?_
  refine sT i0 1 0 (.agg #[I ((kernelV q.v s t).1.w), I ((kernelV q.v s t).1.h), I ((kernelV q.v s t).1.max_)]) [I ((kernelV q.v s t).1.w), I ((kernelV q.v s t).1.h), I ((kernelV q.v s t).1.max_)] #[I ((kernelV q.v s t).1.w), I ((kernelV q.v s t).1.h), I ((kernelV q.v s t).1.max_)] Tryz.sizeOf54 ?_
  intro _ t0
  refine pu1 <| nT <| retE <| retN (vs := [.agg #[I ((kernelV q.v s t).1.w), I ((kernelV q.v s t).1.h), I ((kernelV q.v s t).1.max_)], I 0]) rfl (.cons (.cell _ _ _ _ kr (lvA t0 1 0 [I ((kernelV q.v s t).1.w), I ((kernelV q.v s t).1.h), I ((kernelV q.v s t).1.max_)] (Tryz.isAgg54 _) (Tryz.sizeOf54 _) rfl rfl rfl)) (.cons (.tmp _ _ kr) .nil)) ?_
  have u1 := (t0.drops [0, 0, 0, 0, 0])
  have hk : ofV q.v s t = ((kernelV q.v s t).1, 0) := by
   unfold ofV; rw [if_pos ‹_›, if_pos (by unfold szP twoP; simp only [Stage.v]; omega), if_pos (by unfold edgeP; simp only [Stage.v]; (try dsimp only at *); omega), if_pos ‹_›]
  exact ⟨by rw [hk]; rfl, u1⟩
 refine gY ?_
 refine lA e0 1 0 3 (Tryz.isAgg54 _) (Tryz.sizeOf54 _) ?_
 refine gY ?_
 refine cR Tryz.call113 (r15_valid t (Sat.flat e0)) ?_
 intro _ j0
 refine pu4 <| nT ?_
 refine cDn ((1 : Int) ≤ t.w ∧ t.w ≤ (128 : Int) ∧ (1 : Int) ≤ t.h ∧ t.h ≤ (128 : Int) ∧ t.w * t.h ≤ (4096 : Int) ∧ (1 : Int) ≤ t.max_ ∧ t.max_ ≤ (4294967296 : Int)) (fun v1 => ?_) (fun v1 => ?_)
 rotate_left
 ·refine sR <| pu1 ?_
  refine sT j0 0 0 (.agg #[I 0, I 0, I 0]) [I 0, I 0, I 0] #[I 0, I 0, I 0] Tryz.sizeOf54 ?_
  intro _ u0
  refine pu1 <| nT <| retE <| blockK_r <| thenK_r <| retN (vs := [.agg #[I 0, I 0, I 0], I 2]) rfl (.cons (.cell _ _ _ _ kr (lvA u0 0 0 [I 0, I 0, I 0] (Tryz.isAgg54 _) (Tryz.sizeOf54 _) rfl rfl rfl)) (.cons (.tmp _ _ kr) .nil)) ?_
  have w1 := (u0.drops [0, 0, 0, 0])
  have hk : ofV q.v s t = ((⟨0, 0, 0⟩ : Shape), 2) := by
   unfold ofV; rw [if_pos ‹_›, if_neg (by unfold szP twoP; simp only [Stage.v]; omega)]
  exact ⟨by rw [hk]; rfl, w1⟩
 refine sR <| pu1 ?_
 refine sL j0 3 0 (I q.kind) (Tryz.isAgg3 _) ?_
 refine cR Tryz.call114 (r15_edged q.kind (Sat.flat j0)) ?_
 intro _ b0
 refine pu1 ?_
 refine sD 33 (q.kind = 1 ∨ q.kind = 2 ∨ q.kind = 3) (fun x1 => ?_) (fun x1 => ?_)
 rotate_left
 ·refine pu8 <| nT <| cFf <| skipE <| blockK_n <| thenK_n <| sR ?_
  refine lA b0 3 0 18 (Tryz.isAgg38 _) (Tryz.sizeOf38 _) ?_
  refine lA b0 2 0 3 (Tryz.isAgg54 _) (Tryz.sizeOf54 _) ?_
  refine lA b0 1 0 3 (Tryz.isAgg54 _) (Tryz.sizeOf54 _) ?_
  refine cR Tryz.call116 (r15_kernel q s t ⟨(RdT.flat (hq.weights.up 4 (by rfl))), (RdT.flat (hq.row.up 4 (by rfl))), (RdT.flat (hq.col.up 4 (by rfl))), (RdT.flat (hq.x.up 4 (by rfl))), (fun z hz => (hq.xD z hz).of_mem (mem_flat1 4 (by rfl))), (RdT.flat (hq.y.up 4 (by rfl))), (fun z hz => (hq.yD z hz).of_mem (mem_flat1 4 (by rfl))), (RdT.flat (hq.ops.up 4 (by rfl)))⟩ (by first | assumption | (unfold szP; assumption)) (Sat.flat b0)) ?_
  intro _ y1
  refine pu3 ?_
  refine sAlloc y1 Tryz.zeroValue54 ?_
  intro _ _ z1
  refine sT z1 0 0 (.agg #[I ((kernelV q.v s t).1.w), I ((kernelV q.v s t).1.h), I ((kernelV q.v s t).1.max_)]) [I ((kernelV q.v s t).1.w), I ((kernelV q.v s t).1.h), I ((kernelV q.v s t).1.max_)] #[I ((kernelV q.v s t).1.w), I ((kernelV q.v s t).1.h), I ((kernelV q.v s t).1.max_)] Tryz.sizeOf54 ?_
  intro _ k0
  refine pu1 <| nT <| seqE <| sR <| pu2 <| nT ?_
  refine cN ((kernelV q.v s t).2) 0 (fun a2 => ?_) (fun a2 => ?_)
  rotate_left
  ·refine sR <| pu2 ?_
   refine sT k0 1 0 (.agg #[I 0, I 0, I 0]) [I 0, I 0, I 0] #[I 0, I 0, I 0] Tryz.sizeOf54 ?_
   intro _ v0
   refine pu1 <| nT <| retE <| thenK_r <| retN (vs := [.agg #[I 0, I 0, I 0], I ((kernelV q.v s t).2)]) rfl (.cons (.cell _ _ _ _ kr (lvA v0 1 0 [I 0, I 0, I 0] (Tryz.isAgg54 _) (Tryz.sizeOf54 _) rfl rfl rfl)) (.cons (.tmp _ _ kr) .nil)) ?_
   have b2 := (v0.drops [0, 0, 0, 0, 0])
   have hk : ofV q.v s t = ((⟨0, 0, 0⟩ : Shape), (kernelV q.v s t).2) := by
    unfold ofV; rw [if_pos ‹_›, if_pos (by unfold szP twoP; simp only [Stage.v]; omega), if_pos (by unfold edgeP; simp only [Stage.v]; (try dsimp only at *); omega), if_neg ‹_›]
   exact ⟨by rw [hk]; rfl, b2⟩
  refine kT <| sR ?_
  refine lA k0 0 0 3 (Tryz.isAgg54 _) (Tryz.sizeOf54 _) ?_
  refine sT k0 1 0 (.agg #[I ((kernelV q.v s t).1.w), I ((kernelV q.v s t).1.h), I ((kernelV q.v s t).1.max_)]) [I ((kernelV q.v s t).1.w), I ((kernelV q.v s t).1.h), I ((kernelV q.v s t).1.max_)] #[I ((kernelV q.v s t).1.w), I ((kernelV q.v s t).1.h), I ((kernelV q.v s t).1.max_)] Tryz.sizeOf54 ?_
  intro _ w0
  refine pu1 <| nT <| retE <| retN (vs := [.agg #[I ((kernelV q.v s t).1.w), I ((kernelV q.v s t).1.h), I ((kernelV q.v s t).1.max_)], I 0]) rfl (.cons (.cell _ _ _ _ kr (lvA w0 1 0 [I ((kernelV q.v s t).1.w), I ((kernelV q.v s t).1.h), I ((kernelV q.v s t).1.max_)] (Tryz.isAgg54 _) (Tryz.sizeOf54 _) rfl rfl rfl)) (.cons (.tmp _ _ kr) .nil)) ?_
  have c2 := (w0.drops [0, 0, 0, 0, 0])
  have hk : ofV q.v s t = ((kernelV q.v s t).1, 0) := by
   unfold ofV; rw [if_pos ‹_›, if_pos (by unfold szP twoP; simp only [Stage.v]; omega), if_pos (by unfold edgeP; simp only [Stage.v]; (try dsimp only at *); omega), if_pos ‹_›]
  exact ⟨by rw [hk]; rfl, c2⟩
 refine pu1 <| gY ?_
 refine lA b0 3 4 2 (Tryz.isAgg34 _) (Tryz.sizeOf34 _) ?_
 refine pu1 <| gY ?_
 refine sL b0 2 2 (I s.max_) (Tryz.isAgg3 _) ?_
 refine gY ?_
 refine cR Tryz.call115 (r3_valid (⟨q.edgePolicy, q.edgeFill⟩ : Edge) s.max_ (Sat.flat b0)) ?_
 intro _ d0
 refine pu3 <| nT ?_
 refine cDn (((⟨q.edgePolicy, q.edgeFill⟩ : Edge).policy = 3 ∧ 0 ≤ (⟨q.edgePolicy, q.edgeFill⟩ : Edge).fill ∧ (⟨q.edgePolicy, q.edgeFill⟩ : Edge).fill ≤ s.max_) ∨ (0 ≤ (⟨q.edgePolicy, q.edgeFill⟩ : Edge).policy ∧ (⟨q.edgePolicy, q.edgeFill⟩ : Edge).policy < 3 ∧ (⟨q.edgePolicy, q.edgeFill⟩ : Edge).fill = 0)) (fun d2 => ?_) (fun d2 => ?_)
 rotate_left
 ·refine sR <| pu1 ?_
  refine sT d0 0 0 (.agg #[I 0, I 0, I 0]) [I 0, I 0, I 0] #[I 0, I 0, I 0] Tryz.sizeOf54 ?_
  intro _ x0
  refine pu1 <| nT <| retE <| blockK_r <| thenK_r <| retN (vs := [.agg #[I 0, I 0, I 0], I 1]) rfl (.cons (.cell _ _ _ _ kr (lvA x0 0 0 [I 0, I 0, I 0] (Tryz.isAgg54 _) (Tryz.sizeOf54 _) rfl rfl rfl)) (.cons (.tmp _ _ kr) .nil)) ?_
  have e2 := (x0.drops [0, 0, 0, 0])
  have hk : ofV q.v s t = ((⟨0, 0, 0⟩ : Shape), 1) := by
   unfold ofV; rw [if_pos ‹_›, if_pos (by unfold szP twoP; simp only [Stage.v]; omega), if_neg (by unfold edgeP; simp only [Stage.v]; (try dsimp only at *); omega)]
  exact ⟨by rw [hk]; rfl, e2⟩
 refine skipE <| blockK_n <| thenK_n <| sR ?_
 refine lA d0 3 0 18 (Tryz.isAgg38 _) (Tryz.sizeOf38 _) ?_
 refine lA d0 2 0 3 (Tryz.isAgg54 _) (Tryz.sizeOf54 _) ?_
 refine lA d0 1 0 3 (Tryz.isAgg54 _) (Tryz.sizeOf54 _) ?_
 refine cR Tryz.call116 (r15_kernel q s t ⟨(RdT.flat (hq.weights.up 4 (by rfl))), (RdT.flat (hq.row.up 4 (by rfl))), (RdT.flat (hq.col.up 4 (by rfl))), (RdT.flat (hq.x.up 4 (by rfl))), (fun z hz => (hq.xD z hz).of_mem (mem_flat1 4 (by rfl))), (RdT.flat (hq.y.up 4 (by rfl))), (fun z hz => (hq.yD z hz).of_mem (mem_flat1 4 (by rfl))), (RdT.flat (hq.ops.up 4 (by rfl)))⟩ (by first | assumption | (unfold szP; assumption)) (Sat.flat d0)) ?_
 intro _ f2
 refine pu3 ?_
 refine sAlloc f2 Tryz.zeroValue54 ?_
 intro _ _ g2
 refine sT g2 0 0 (.agg #[I ((kernelV q.v s t).1.w), I ((kernelV q.v s t).1.h), I ((kernelV q.v s t).1.max_)]) [I ((kernelV q.v s t).1.w), I ((kernelV q.v s t).1.h), I ((kernelV q.v s t).1.max_)] #[I ((kernelV q.v s t).1.w), I ((kernelV q.v s t).1.h), I ((kernelV q.v s t).1.max_)] Tryz.sizeOf54 ?_
 intro _ l0
 refine pu1 <| nT <| seqE <| sR <| pu2 <| nT ?_
 refine cN ((kernelV q.v s t).2) 0 (fun h2 => ?_) (fun h2 => ?_)
 rotate_left
 ·refine sR <| pu2 ?_
  refine sT l0 1 0 (.agg #[I 0, I 0, I 0]) [I 0, I 0, I 0] #[I 0, I 0, I 0] Tryz.sizeOf54 ?_
  intro _ y0
  refine pu1 <| nT <| retE <| thenK_r <| retN (vs := [.agg #[I 0, I 0, I 0], I ((kernelV q.v s t).2)]) rfl (.cons (.cell _ _ _ _ kr (lvA y0 1 0 [I 0, I 0, I 0] (Tryz.isAgg54 _) (Tryz.sizeOf54 _) rfl rfl rfl)) (.cons (.tmp _ _ kr) .nil)) ?_
  have i2 := (y0.drops [0, 0, 0, 0, 0])
  have hk : ofV q.v s t = ((⟨0, 0, 0⟩ : Shape), (kernelV q.v s t).2) := by
   unfold ofV; rw [if_pos ‹_›, if_pos (by unfold szP twoP; simp only [Stage.v]; omega), if_pos (by unfold edgeP; simp only [Stage.v]; (try dsimp only at *); omega), if_neg ‹_›]
  exact ⟨by rw [hk]; rfl, i2⟩
 refine kT <| sR ?_
 refine lA l0 0 0 3 (Tryz.isAgg54 _) (Tryz.sizeOf54 _) ?_
 refine sT l0 1 0 (.agg #[I ((kernelV q.v s t).1.w), I ((kernelV q.v s t).1.h), I ((kernelV q.v s t).1.max_)]) [I ((kernelV q.v s t).1.w), I ((kernelV q.v s t).1.h), I ((kernelV q.v s t).1.max_)] #[I ((kernelV q.v s t).1.w), I ((kernelV q.v s t).1.h), I ((kernelV q.v s t).1.max_)] Tryz.sizeOf54 ?_
 intro _ z0
 refine pu1 <| nT <| retE <| retN (vs := [.agg #[I ((kernelV q.v s t).1.w), I ((kernelV q.v s t).1.h), I ((kernelV q.v s t).1.max_)], I 0]) rfl (.cons (.cell _ _ _ _ kr (lvA z0 1 0 [I ((kernelV q.v s t).1.w), I ((kernelV q.v s t).1.h), I ((kernelV q.v s t).1.max_)] (Tryz.isAgg54 _) (Tryz.sizeOf54 _) rfl rfl rfl)) (.cons (.tmp _ _ kr) .nil)) ?_
 have j2 := (z0.drops [0, 0, 0, 0, 0])
 have hk : ofV q.v s t = ((kernelV q.v s t).1, 0) := by
  unfold ofV; rw [if_pos ‹_›, if_pos (by unfold szP twoP; simp only [Stage.v]; omega), if_pos (by unfold edgeP; simp only [Stage.v]; (try dsimp only at *); omega), if_pos ‹_›]
 exact ⟨by rw [hk]; rfl, j2⟩
end Go.Proofs.YtdingplbadblpaaGreat

namespace Go.Proofs.YtdingplbadblpaaGreat
open Go Go.E
set_option linter.unusedVariables false
set_option linter.unusedSimpArgs false
set_option linter.unnecessarySimpa false
set_option maxRecDepth 100000
set_option maxHeartbeats 2000000
variable {W w : World} {H : Chunk} {F : List Chunk}

def srcs (s : StageV) : List Int := if twoP s then [s.a, s.b] else [s.a]
theorem srcs_len (s : StageV) : 1 ≤ (srcs s).length ∧ (srcs s).length ≤ 2 := by unfold srcs; split <;> simp
def inR (n : Int) (l : List Int) : Bool := l.all fun x => decide (0 ≤ x ∧ x < n)
def chkCode (j : JobV) : Int :=
  if 1 ≤ j.inputs.length ∧ 1 ≤ j.stages.length ∧ j.inputs.length + j.stages.length ≤ 16 ∧ 1 ≤ j.outputs.length ∧ j.outputs.length ≤ 16 then (if 0 ≤ j.priority ∧ j.priority < 4 then
    (if j.stages.all (fun s => inR (j.inputs.length + j.stages.length) (srcs s)) = true then (if inR (j.inputs.length + j.stages.length) j.outputs = true then 0 else 6) else 6) else 2) else 5
def ordOK (ni : Int) (out : List Int) (s : StageV) : Bool := (srcs s).all fun x => decide (x < ni ∨ x ∈ out)
def ordPick (ni : Int) (out : List Int) : List StageV → Int → Int
  | [], _ => -1
  | s :: l, i => if (decide (¬ (ni + i) ∈ out) && ordOK ni out s) = true then ni + i else ordPick ni out l (i + 1)
def ordGo (ni : Int) (ss : List StageV) : Nat → List Int → Option (List Int)
  | 0, out => some out
  | k + 1, out => if ordPick ni out ss 0 < 0 then none else ordGo ni ss k (out ++ [ordPick ni out ss 0])
def ordV (j : JobV) : List Int × Int := if chkCode j = 0 then (match ordGo j.inputs.length j.stages j.stages.length [] with | some l => (l, 0) | none => ([], 7)) else ([], chkCode j)
theorem ordPick_range {ni : Int} {out : List Int} {n : Nat} : ∀ (l : List StageV) (i : Nat), i + l.length = n → 0 ≤ ordPick ni out l i → ni ≤ ordPick ni out l i ∧ ordPick ni out l i < ni + n
  | [], i, _, h => by simp [ordPick] at h
  | s :: l, i, hl, h => by
    unfold ordPick at h ⊢
    simp only [List.length_cons] at hl
    split
    · omega
    · rename_i hc
      rw [if_neg hc] at h
      exact ordPick_range l (i + 1) (by omega) h
theorem ordGo_range {ni : Int} {ss : List StageV} : ∀ (k : Nat) (out l : List Int), (∀ x ∈ out, ni ≤ x ∧ x < ni + ss.length) → ordGo ni ss k out = some l → ∀ x ∈ l, ni ≤ x ∧ x < ni + ss.length
 | 0, out, l, ho, h => by simp only [ordGo, Option.some.injEq] at h; subst h; exact ho
 | k + 1, out, l, ho, h => by
  unfold ordGo at h
  split at h
  ·cases h
  ·refine ordGo_range k _ l (fun x hx => ?_) h
   rcases List.mem_append.1 hx with h1 | h1
   ·exact ho x h1
   ·simp only [List.mem_singleton] at h1
    subst h1
    have h2 : (0 : Int) ≤ ordPick ni out ss ((0 : Nat) : Int) := by have e : ((0 : Nat) : Int) = 0 := rfl; rw [e]; omega
    exact ordPick_range ss 0 om h2
theorem ordV_range {j : JobV} (h : (ordV j).2 = 0) : ∀ x ∈ (ordV j).1, (j.inputs.length : Int) ≤ x ∧ x < j.inputs.length + j.stages.length := by
  unfold ordV at *
  split at h
  · rename_i hc
    rw [if_pos hc]
    split at h
    · rename_i l hl
      exact ordGo_range _ _ _ (fun x hx => by cases hx) hl
    · simp at h
  · rename_i hc
    exact absurd h hc
theorem ordV_chk {j : JobV} (h : (ordV j).2 = 0) : chkCode j = 0 := by
  unfold ordV at h
  split at h
  · assumption
  · exact h
def shpOf (p : PlaneV) : Shape := ⟨p.w, p.h, p.max_⟩
def shpAt (l : List Shape) (i : Int) : Shape := l[i.toNat]?.getD ⟨0, 0, 0⟩
def stgAt (ss : List StageV) (ni n : Int) : StageV := ss[(n - ni).toNat]?.getD ⟨0, 0, 0, false, 0, 0, 0, 0, [], [], [], 0, 0, [], [], 0, [], 0⟩
def shpStep (ni : Int) (ss : List StageV) (n : Int) (out : List Shape) : Shape × Int :=
  ofV (stgAt ss ni n) (shpAt out (stgAt ss ni n).a) (if twoP (stgAt ss ni n) then shpAt out (stgAt ss ni n).b else ⟨0, 0, 0⟩)
def shpGo (ni : Int) (ss : List StageV) : List Int → List Shape → List Shape × Int × Int
  | [], out => (out, 0, 0)
  | n :: l, out => if (shpStep ni ss n out).2 = 0 then shpGo ni ss l (out.set n.toNat (shpStep ni ss n out).1) else ([], n, (shpStep ni ss n out).2)
def shpV (j : JobV) : List Shape × Int × Int :=
  if (ordV j).2 = 0 then (if j.inputs.all planeOK = true then shpGo j.inputs.length j.stages (ordV j).1 (j.inputs.map shpOf ++ List.replicate j.stages.length ⟨0, 0, 0⟩) else ([], (j.inputs.takeWhile planeOK).length, 1)) else ([], 0, (ordV j).2)
theorem takeWhile_at {α : Type} {p : α → Bool} : ∀ {l : List α} {i : Nat} {x : α}, (l.take i).all p = true → l[i]? = some x → p x = false → (l.takeWhile p).length = i
  | [], i, x, _, h, _ => by simp at h
  | y :: l, 0, x, _, h, e => by simp at h; subst h; simp [e]
  | y :: l, i + 1, x, h0, h, e => by
    simp only [List.take_succ_cons, List.all_cons, Bool.and_eq_true] at h0
    rw [List.takeWhile_cons, if_pos h0.1]
    simp only [List.length_cons]
    rw [takeWhile_at h0.2 (by simpa using h) e]
theorem chk_src {j : JobV} (h : chkCode j = 0) {s : StageV} (hs : s ∈ j.stages) : (0 ≤ s.a ∧ s.a < j.inputs.length + j.stages.length) ∧ (twoP s → 0 ≤ s.b ∧ s.b < j.inputs.length + j.stages.length) := by
 unfold chkCode at h
 split at h
 ·split at h
  ·split at h
   ·rename_i hall
    have h1 := List.all_eq_true.1 hall s hs
    have h2 := fun x hx => of_decide_eq_true (List.all_eq_true.1 h1 x hx)
    constructor
    ·exact h2 s.a (by unfold srcs; split <;> simp)
    ·intro ht; exact h2 s.b (by unfold srcs; rw [if_pos ht]; simp)
   ·omega
  ·omega
 ·omega
end Go.Proofs.YtdingplbadblpaaGreat

namespace Go.E
section
variable {P : Program} {ρ : Env} {w : World} {o : Oper}
theorem Y_shrS {t u : TypeId} {x y : Operand} {k' : IntKind} (a s : Int) (ho : o.op = .binOp .shr t x y u) (hx : ev ρ x = .int .i64 a) (hy : ev ρ y = .int k' s) (hs : 0 ≤ s ∧ s ≤ 60) :
    Yields P ρ o (.int .i64 (a / 2 ^ s.toNat)) w := by
  have h1 : min s.toNat IntKind.i64.bits = s.toNat := by simp [IntKind.bits]; omega
  exact Y_shr .i64 k' a s _ ho hx hy hs.1 (by rw [h1])
end
end Go.E
namespace Go.E
theorem Sat.flat3 {W w : World} {c d e : Chunk} {cs : List Chunk} (h : Sat W w (c :: d :: e :: cs)) : Sat W w [c, d, e, cs.flatten] := h.perm (by simp)
def encKB (x : Bool) : List Value := [.bool x]
end Go.E
