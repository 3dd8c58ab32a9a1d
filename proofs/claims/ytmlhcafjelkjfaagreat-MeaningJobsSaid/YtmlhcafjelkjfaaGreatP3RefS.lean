import Derived.Test.YtmlhcafjelkjfaaGreatP3Ab
import Derived.WalkKit
import Derived.Deep.Quiet
import Derived.KernelRfl
import Derived.Laws.BytesString
import Derived.Laws.Shifts
import Derived.Laws.IdiomStrings
import Derived.Test.YtmlhcafjelkjfaaGreatProg
import Derived.Test.YtmlhcafjelkjfaaGreatP3RefP
namespace Go.Proofs.YtmlhcafjelkjfaaGreat
open Go Go.E Go.Proofs.Tryz
set_option linter.all false
set_option maxRecDepth 100000
set_option maxHeartbeats 2000000
variable {W w:World} {H:Chunk} {F:List Chunk}
def twoP (s:StageV):Prop:=s.kind=6/\¬s.b=-1
instance (s:StageV):Decidable (twoP s):=by unfold twoP;infer_instance
def szP (s:Shape):Prop:=1<=s.w/\s.w<=128/\1<=s.h/\s.h<=128/\s.w*s.h<=4096/\1<=s.max_/\s.max_<=4294967296
instance (s:Shape):Decidable (szP s):=by unfold szP;infer_instance
def kernelV (q:StageV) (s t:Shape):Shape×Int:=
  if q.kind=1 then (⟨s.w,s.h,q.max_⟩,convCode s.max_ q.kW q.kH q.weights q.shift q.max_)
  else if q.kind=2 then (⟨s.w,s.h,q.max_⟩,sepCode s.max_ q.row q.col q.shift q.shift2 q.max_)
  else if q.kind=3 then (⟨q.x.length,q.y.length,q.max_⟩,resCode s.w s.h s.max_ q.x q.y q.shift q.shift2 q.max_)
  else if q.kind=4 then (if 1<=q.bins/\q.bins<=128 then (⟨q.bins,1,s.w*s.h⟩,0) else (⟨s.w,s.h,q.max_⟩,9))
  else if q.kind=5 then (if mostOK s.w s.h s.max_=true then (⟨s.w,s.h,mostV s.w s.h s.max_⟩,0) else (⟨s.w,s.h,q.max_⟩,11))
  else if pwCode q.ops (decide (q.kind=6/\¬q.b=-1)) s.max_ t.max_ q.max_=0 then (if (q.kind=6/\¬q.b=-1)/\¬(s.w=t.w/\s.h=t.h) then (⟨s.w,s.h,q.max_⟩,8) else (⟨s.w,s.h,q.max_⟩,0))
  else (⟨s.w,s.h,q.max_⟩,pwCode q.ops (decide (q.kind=6/\¬q.b=-1)) s.max_ t.max_ q.max_)
def edgeP (q:StageV) (m:Int):Prop:=(q.edgePolicy=3/\0<=q.edgeFill/\q.edgeFill<=m)\/(0<=q.edgePolicy/\q.edgePolicy<3/\q.edgeFill=0)
instance (q:StageV) (m:Int):Decidable (edgeP q m):=by unfold edgeP;infer_instance
def ofV (q:StageV) (s t:Shape):Shape×Int:=
  if fieldsP q then (if szP s/\(¬twoP q\/szP t) then (if ¬(q.kind=1\/q.kind=2\/q.kind=3)\/edgeP q s.max_ then (if (kernelV q s t).2=0 then ((kernelV q s t).1,0) else (⟨0,0,0⟩,(kernelV q s t).2)) else (⟨0,0,0⟩,1)) else (⟨0,0,0⟩,2)) else (⟨0,0,0⟩,1)
theorem r15_kernel (q : Stage) (s : Shape) (t : Shape) (hq : Stage.Ok [H] q) (hs : szP s) (hS : Sat W w (H :: F)) :
  Ro prog 123 #[.agg (encStage q).toArray, .agg #[I s.w, I s.h, I s.max_], .agg #[I t.w, I t.h, I t.max_]] (.tuple #[.agg #[I ((kernelV q.v s t).1.w), I ((kernelV q.v s t).1.h), I ((kernelV q.v s t).1.max_)], I ((kernelV q.v s t).2)]) W w (H :: F) := by
 have hl_q_weights := hq.weights.le; have hn_q_weights := hq.weights.len
 have hl_q_row := hq.row.le; have hn_q_row := hq.row.len
 have hl_q_col := hq.col.le; have hn_q_col := hq.col.len
 have hl_q_x := hq.x.le; have hn_q_x := hq.x.len
 have hl_q_y := hq.y.le; have hn_q_y := hq.y.len
 have hl_q_ops := hq.ops.le; have hn_q_ops := hq.ops.len
 have hmx : (q.x.l.map Tap.v).length = q.x.n := by simp [hn_q_x]
 have hmy : (q.y.l.map Tap.v).length = q.y.n := by simp [hn_q_y]
 refine callsA 140 func123 rfl <| sR <| sBox hS (.agg (encStage q).toArray) (encStage q).toArray fun b0 _ z0 => sBox z0 (.agg #[I s.w, I s.h, I s.max_]) #[I s.w, I s.h, I s.max_] fun d0 _ a1 => sBox a1 (.agg #[I t.w, I t.h, I t.max_]) #[I t.w, I t.h, I t.max_] fun b1 _ c1 => sAlloc c1 zeroValue65 fun _ _ i0 => pu1 <| nT <| seqE ?_
 have hs2 := hs; unfold szP at hs2; have hwh := mul_bd (a := s.w) (b := s.h) (A := 128) (B := 128) om om
 refine rE <| pu1 <| sL i0 2 0 (I s.w) (isAgg3 _) <| pu1 <| sL i0 2 1 (I s.h) (isAgg3 _) <| pu1 <| sL i0 3 17 (I q.max_) (isAgg3 _) <| pu1 <| sAlloc i0 zeroValue65 fun e0 _ d1 => sTl d1 0 [I s.w, I s.h, I q.max_] sizeOf65 fun _ a0 => zQ <| pu1 <| sL a0 4 0 (I q.kind) (isAgg3 _) <| nT <| blockE <| sR <| pu2 <| nT <| cE q.kind 1 (fun e1 => ?_) (fun e1 => ?_)
 ·refine seqE <| drawE [13, 14] [(0, ⟨e0, 0, none⟩, I s.w), (0, ⟨e0, 1, none⟩, I s.h), (0, ⟨e0, 2, none⟩, I q.max_), (2, ⟨d0, 2, none⟩, I s.max_), (4, ⟨b0, 6, none⟩, I q.kW), (6, ⟨b0, 7, none⟩, I q.kH), (8, ⟨b0, 8, none⟩, .slice q.weights.a q.weights.n q.weights.k), (10, ⟨b0, 11, none⟩, I q.shift), (12, ⟨b0, 17, none⟩, I q.max_)] [(true, [1, 3, 5, 7, 9, 11]), (true, [0]), (true, [2]), (true, [4]), (true, [6]), (true, [8]), (true, [10]), (true, [12]), (false, [13]), (false, [14]), (true, [15])] rfl kr ⟨cI a0 0, cI a0 0, cI a0 0, cI a0 3, cI a0 4, cI a0 4, cI a0 4, cI a0 4, cI a0 4, trivial⟩ ?_
  have f1 := a0.drew
  refine wU [1, 3, 5, 7, 9, 11] <| wY (.agg #[I s.w, I s.h, I q.max_]) rfl (fun w hF => Y_loadF rfl (isAgg65 w) (sizeOf65 w) kr rfl ⟨hF 0 _ _ rfl, hF 1 _ _ rfl, hF 2 _ _ rfl, trivial⟩) <| wLd (I s.max_) 3 isAgg3 <| wLd (I q.kW) 4 isAgg3 <| wLd (I q.kH) 5 isAgg3 <| wLd (.slice q.weights.a q.weights.n q.weights.k) 6 isAgg22 <| wLd (I q.shift) 7 isAgg3 <| wLd (I q.max_) 8 isAgg3 <| wO rfl <| cR call166 (r9_check s.max_ q.kW q.kH q.weights.a q.weights.n q.weights.k q.weights.l q.shift q.max_ (RdT.flat (hq.weights.up 5 (by rfl))) f1.flat) fun _ j0 => nilO ⟨⟨cI j0 0, cI j0 0, cI j0 0, dI, dI, dI, dI, dI, dI, trivial⟩, ?_⟩
  refine wO rfl <| sTl j0 1 [I s.w, I s.h, I q.max_] sizeOf65 fun _ n0 => nilO ⟨dA, ?_⟩
  refine wU [15] <| wN <| tN <| retE <| bR <| tK <| retC n0 1 [I s.w, I s.h, I q.max_] (I (convCode s.max_ q.kW q.kH q.weights.l q.shift q.max_)) (isAgg65 _) (sizeOf65 _) ?_
  have g1 := (n0.drops [0, 0, 0, 0, 0])
  have hk : kernelV q.v s t = ((⟨s.w, s.h, q.max_⟩ : Shape), (convCode s.max_ q.kW q.kH q.weights.l q.shift q.max_)) := by
   unfold kernelV; rw [if_pos (by simp only [Stage.v]; omega)] <;> rfl
  exact ⟨by rw [hk]; rfl, g1⟩
 refine sR <| pu2 <| nT <| cE q.kind 2 (fun h1 => ?_) (fun h1 => ?_)
 ·refine seqE <| drawE [13, 14] [(0, ⟨e0, 0, none⟩, I s.w), (0, ⟨e0, 1, none⟩, I s.h), (0, ⟨e0, 2, none⟩, I q.max_), (2, ⟨d0, 2, none⟩, I s.max_), (4, ⟨b0, 9, none⟩, .slice q.row.a q.row.n q.row.k), (6, ⟨b0, 10, none⟩, .slice q.col.a q.col.n q.col.k), (8, ⟨b0, 11, none⟩, I q.shift), (10, ⟨b0, 12, none⟩, I q.shift2), (12, ⟨b0, 17, none⟩, I q.max_)] [(true, [1, 3, 5, 7, 9, 11]), (true, [0]), (true, [2]), (true, [4]), (true, [6]), (true, [8]), (true, [10]), (true, [12]), (false, [13]), (false, [14]), (true, [15])] rfl kr ⟨cI a0 0, cI a0 0, cI a0 0, cI a0 3, cI a0 4, cI a0 4, cI a0 4, cI a0 4, cI a0 4, trivial⟩ ?_
  have i1 := a0.drew
  refine wU [1, 3, 5, 7, 9, 11] <| wY (.agg #[I s.w, I s.h, I q.max_]) rfl (fun w hF => Y_loadF rfl (isAgg65 w) (sizeOf65 w) kr rfl ⟨hF 0 _ _ rfl, hF 1 _ _ rfl, hF 2 _ _ rfl, trivial⟩) <| wLd (I s.max_) 3 isAgg3 <| wLd (.slice q.row.a q.row.n q.row.k) 4 isAgg22 <| wLd (.slice q.col.a q.col.n q.col.k) 5 isAgg22 <| wLd (I q.shift) 6 isAgg3 <| wLd (I q.shift2) 7 isAgg3 <| wLd (I q.max_) 8 isAgg3 <| wO rfl <| cR call167 (r10_check s.max_ q.row.a q.row.n q.row.k q.row.l q.col.a q.col.n q.col.k q.col.l q.shift q.shift2 q.max_ (RdT.flat (hq.row.up 5 (by rfl))) (RdT.flat (hq.col.up 5 (by rfl))) i1.flat) fun _ k0 => nilO ⟨⟨cI k0 0, cI k0 0, cI k0 0, dI, dI, dI, dI, dI, dI, trivial⟩, ?_⟩
  refine wO rfl <| sTl k0 1 [I s.w, I s.h, I q.max_] sizeOf65 fun _ o0 => nilO ⟨dA, ?_⟩
  refine wU [15] <| wN <| tN <| retE <| bR <| tK <| retC o0 1 [I s.w, I s.h, I q.max_] (I (sepCode s.max_ q.row.l q.col.l q.shift q.shift2 q.max_)) (isAgg65 _) (sizeOf65 _) ?_
  have j1 := (o0.drops [0, 0, 0, 0, 0])
  have hk : kernelV q.v s t = ((⟨s.w, s.h, q.max_⟩ : Shape), (sepCode s.max_ q.row.l q.col.l q.shift q.shift2 q.max_)) := by
   unfold kernelV; rw [if_neg (by simp only [Stage.v]; omega), if_pos (by simp only [Stage.v]; omega)] <;> rfl
  exact ⟨by rw [hk]; rfl, j1⟩
 refine sR <| pu2 <| nT <| cE q.kind 3 (fun k1 => ?_) (fun k1 => ?_)
 ·refine seqE ?_
  refine drawE [20, 21] [(1, ⟨b0, 13, none⟩, .slice q.x.a q.x.n q.x.k), (4, ⟨b0, 14, none⟩, .slice q.y.a q.y.n q.y.k), (7, ⟨b0, 17, none⟩, I q.max_), (9, ⟨d0, 0, none⟩, I s.w), (9, ⟨d0, 1, none⟩, I s.h), (9, ⟨d0, 2, none⟩, I s.max_), (11, ⟨b0, 13, none⟩, .slice q.x.a q.x.n q.x.k), (13, ⟨b0, 14, none⟩, .slice q.y.a q.y.n q.y.k), (15, ⟨b0, 11, none⟩, I q.shift), (17, ⟨b0, 12, none⟩, I q.shift2), (19, ⟨b0, 17, none⟩, I q.max_)] [(true, [0, 3, 6, 10, 12, 14, 16, 18]), (true, [1]), (true, [2]), (true, [4]), (true, [5]), (true, [7]), (true, [8]), (true, [9]), (true, [11]), (true, [13]), (true, [15]), (true, [17]), (true, [19]), (false, [20]), (false, [21]), (true, [22])] rfl kr ⟨cI a0 4, cI a0 4, cI a0 4, cI a0 3, cI a0 3, cI a0 3, cI a0 4, cI a0 4, cI a0 4, cI a0 4, cI a0 4, trivial⟩ ?_
  have l1 := a0.drew
  refine wU [0, 3, 6, 10, 12, 14, 16, 18] <| wLd (.slice q.x.a q.x.n q.x.k) 0 isAgg50 <| wU [2] <| wLd (.slice q.y.a q.y.n q.y.k) 1 isAgg50 <| wU [5] <| wLd (I q.max_) 2 isAgg3 <| wU [8] <| wY (.agg #[I s.w, I s.h, I s.max_]) rfl (fun w hF => Y_loadF rfl (isAgg65 w) (sizeOf65 w) kr rfl ⟨hF 3 _ _ rfl, hF 4 _ _ rfl, hF 5 _ _ rfl, trivial⟩) <| wLd (.slice q.x.a q.x.n q.x.k) 6 isAgg50 <| wLd (.slice q.y.a q.y.n q.y.k) 7 isAgg50 <| wLd (I q.shift) 8 isAgg3 <| wLd (I q.shift2) 9 isAgg3 <| wLd (I q.max_) 10 isAgg3 <| wO rfl ?_
  refine cR call168 (r11_check s q.x.a q.x.n q.x.k q.x.l q.y.a q.y.n q.y.k q.y.l q.shift q.shift2 q.max_ (RdT.flat (hq.x.up 5 (by rfl))) (fun z hz => (hq.xD z hz).of_mem (mem_flat1 5 (by rfl))) (RdT.flat (hq.y.up 5 (by rfl))) (fun z hz => (hq.yD z hz).of_mem (mem_flat1 5 (by rfl))) l1.flat) fun _ l0 => nilO ⟨⟨cI l0 4, cI l0 4, cI l0 4, dI, dI, dI, dI, dI, dI, dI, dI, trivial⟩, ?_⟩
  refine wO rfl <| sTl l0 1 [I (q.x.n : Int), I (q.y.n : Int), I q.max_] sizeOf65 fun _ p0 => nilO ⟨dA, ?_⟩
  refine wU [22] <| wN <| tN <| retE <| bR <| tK <| retC p0 1 [I (q.x.n : Int), I (q.y.n : Int), I q.max_] (I (resCode s.w s.h s.max_ (q.x.l.map Tap.v) (q.y.l.map Tap.v) q.shift q.shift2 q.max_)) (isAgg65 _) (sizeOf65 _) ?_
  have m1 := (p0.drops [0, 0, 0, 0, 0])
  have hk : kernelV q.v s t = ((⟨(q.x.n : Int), (q.y.n : Int), q.max_⟩ : Shape), (resCode s.w s.h s.max_ (q.x.l.map Tap.v) (q.y.l.map Tap.v) q.shift q.shift2 q.max_)) := by
   unfold kernelV; rw [if_neg (by simp only [Stage.v]; omega), if_neg (by simp only [Stage.v]; omega), if_pos (by simp only [Stage.v]; omega)] <;> simp only [Stage.v, hmx, hmy]
  exact ⟨by rw [hk]; rfl, m1⟩
 refine sR <| pu2 <| nT <| cE q.kind 4 (fun n1 => ?_) (fun n1 => ?_)
 ·refine seqE <| sR <| pu1 <| sL a0 4 15 (I q.bins) (isAgg3 _) <| cR call124 (r12_bins q.bins a0.flat) fun _ f0 => pu1 <| nT <| cDn ((1 : Int) <= q.bins /\ q.bins <= (128 : Int)) (fun o1 => ?_) (fun o1 => ?_)
  rotate_left
  ·refine sR <| lA f0 0 0 3 (isAgg65 _) (sizeOf65 _) <| sTl f0 1 [I s.w, I s.h, I q.max_] sizeOf65 fun _ q0 => pu1 <| zE <| tR <| tK <| retC q0 1 [I s.w, I s.h, I q.max_] (I 9) (isAgg65 _) (sizeOf65 _) ?_
   have p1 := (q0.drops [0, 0, 0, 0, 0])
   have hk : kernelV q.v s t = ((⟨s.w, s.h, q.max_⟩ : Shape), 9) := by
    unfold kernelV; rw [if_neg (by simp only [Stage.v]; omega), if_neg (by simp only [Stage.v]; omega), if_neg (by simp only [Stage.v]; omega), if_pos (by simp only [Stage.v]; omega), if_neg (by simp only [Stage.v]; omega)] <;> rfl
   exact ⟨by rw [hk]; rfl, p1⟩
  refine kS <| pu1 <| sL f0 4 15 (I q.bins) (isAgg3 _) <| pu1 <| sL f0 3 0 (I s.w) (isAgg3 _) <| pu1 <| sL f0 3 1 (I s.h) (isAgg3 _) <| sMul s.w s.h <| pu1 <| sTl f0 1 [I q.bins, I 1, I (s.w * s.h)] sizeOf65 fun _ r0 => pu1 <| zB <| retC r0 1 [I q.bins, I 1, I (s.w * s.h)] (I 0) (isAgg65 _) (sizeOf65 _) ?_
  have q1 := (r0.drops [0, 0, 0, 0, 0])
  have hk : kernelV q.v s t = ((⟨q.bins, 1, (s.w * s.h)⟩ : Shape), 0) := by
   unfold kernelV; rw [if_neg (by simp only [Stage.v]; omega), if_neg (by simp only [Stage.v]; omega), if_neg (by simp only [Stage.v]; omega), if_pos (by simp only [Stage.v]; omega), if_pos (by simp only [Stage.v]; omega)] <;> rfl
  exact ⟨by rw [hk]; rfl, q1⟩
 refine sR <| pu2 <| nT <| cE q.kind 5 (fun r1 => ?_) (fun r1 => ?_)
 ·refine sR <| lA a0 3 0 3 (isAgg65 _) (sizeOf65 _) <| cR call118 (r13_most s a0.flat) fun _ g0 => pu5 <| zQ <| pu2 <| nT <| cBn (mostOK s.w s.h s.max_) (fun s1 => ?_) (fun s1 => ?_)
  rotate_left
  ·refine sR <| lA g0 0 0 3 (isAgg65 _) (sizeOf65 _) <| sTl g0 1 [I s.w, I s.h, I q.max_] sizeOf65 fun _ s0 => pu1 <| zE <| tR <| tK <| retC s0 1 [I s.w, I s.h, I q.max_] (I 11) (isAgg65 _) (sizeOf65 _) ?_
   have t1 := (s0.drops [0, 0, 0, 0, 0])
   have hk : kernelV q.v s t = ((⟨s.w, s.h, q.max_⟩ : Shape), 11) := by
    unfold kernelV; rw [if_neg (by simp only [Stage.v]; omega), if_neg (by simp only [Stage.v]; omega), if_neg (by simp only [Stage.v]; omega), if_neg (by simp only [Stage.v]; omega), if_pos (by simp only [Stage.v]; omega), if_neg ‹_›] <;> rfl
   exact ⟨by rw [hk]; rfl, t1⟩
  refine kS <| pu1 <| sL g0 3 0 (I s.w) (isAgg3 _) <| pu1 <| sL g0 3 1 (I s.h) (isAgg3 _) <| pu2 <| sTl g0 1 [I s.w, I s.h, I (mostV s.w s.h s.max_)] sizeOf65 fun _ t0 => pu1 <| zB <| retC t0 1 [I s.w, I s.h, I (mostV s.w s.h s.max_)] (I 0) (isAgg65 _) (sizeOf65 _) ?_
  have u1 := (t0.drops [0, 0, 0, 0, 0])
  have hk : kernelV q.v s t = ((⟨s.w, s.h, (mostV s.w s.h s.max_)⟩ : Shape), 0) := by
   unfold kernelV; rw [if_neg (by simp only [Stage.v]; omega), if_neg (by simp only [Stage.v]; omega), if_neg (by simp only [Stage.v]; omega), if_neg (by simp only [Stage.v]; omega), if_pos (by simp only [Stage.v]; omega), if_pos ‹_›] <;> rfl
  exact ⟨by rw [hk]; rfl, u1⟩
 refine skipE <| bN <| tN <| seqE <| seqE ?_
 refine drawE [3, 10] [(1, ⟨b0, 16, none⟩, .slice q.ops.a q.ops.n q.ops.k), (2, ⟨b0, 0, none⟩, I q.kind), (2, ⟨b0, 1, none⟩, I q.a), (2, ⟨b0, 2, none⟩, I q.b), (2, ⟨b0, 3, none⟩, .bool q.barrier), (2, ⟨b0, 4, none⟩, I q.edgePolicy), (2, ⟨b0, 5, none⟩, I q.edgeFill), (2, ⟨b0, 6, none⟩, I q.kW), (2, ⟨b0, 7, none⟩, I q.kH), (2, ⟨b0, 8, none⟩, .slice q.weights.a q.weights.n q.weights.k), (2, ⟨b0, 9, none⟩, .slice q.row.a q.row.n q.row.k), (2, ⟨b0, 10, none⟩, .slice q.col.a q.col.n q.col.k), (2, ⟨b0, 11, none⟩, I q.shift), (2, ⟨b0, 12, none⟩, I q.shift2), (2, ⟨b0, 13, none⟩, .slice q.x.a q.x.n q.x.k), (2, ⟨b0, 14, none⟩, .slice q.y.a q.y.n q.y.k), (2, ⟨b0, 15, none⟩, I q.bins), (2, ⟨b0, 16, none⟩, .slice q.ops.a q.ops.n q.ops.k), (2, ⟨b0, 17, none⟩, I q.max_), (5, ⟨d0, 2, none⟩, I s.max_), (7, ⟨b1, 2, none⟩, I t.max_), (9, ⟨b0, 17, none⟩, I q.max_)] [(true, [0, 4, 6, 8]), (true, [1]), (true, [2]), (true, [5]), (true, [7]), (true, [9]), (false, [3]), (false, [10]), (true, [11])] rfl kr ⟨cI a0 4, cI a0 4, cI a0 4, cI a0 4, cI a0 4, cI a0 4, cI a0 4, cI a0 4, cI a0 4, cI a0 4, cI a0 4, cI a0 4, cI a0 4, cI a0 4, cI a0 4, cI a0 4, cI a0 4, cI a0 4, cI a0 4, cI a0 3, cI a0 2, cI a0 4, trivial⟩ ?_
 have v1 := a0.drew
 refine wU [0, 4, 6, 8] <| wLd (.slice q.ops.a q.ops.n q.ops.k) 0 isAgg51 <| wY (.agg (encStage q).toArray) rfl (fun w hF => Y_loadF rfl (isAgg53 w) (sizeOf53 w) kr rfl ⟨hF 1 _ _ rfl, hF 2 _ _ rfl, hF 3 _ _ rfl, hF 4 _ _ rfl, hF 5 _ _ rfl, hF 6 _ _ rfl, hF 7 _ _ rfl, hF 8 _ _ rfl, hF 9 _ _ rfl, hF 10 _ _ rfl, hF 11 _ _ rfl, hF 12 _ _ rfl, hF 13 _ _ rfl, hF 14 _ _ rfl, hF 15 _ _ rfl, hF 16 _ _ rfl, hF 17 _ _ rfl, hF 18 _ _ rfl, trivial⟩) <| wLd (I s.max_) 19 isAgg3 <| wLd (I t.max_) 20 isAgg3 <| wLd (I q.max_) 21 isAgg3 <| wO rfl <| cR call47 (r15_two q (hq.of_mem (mem_flat1 5 (by rfl))) v1.flat) fun _ h0 => ?_
 refine nilO ⟨⟨cI h0 4, dI, dI, dI, dI, dI, dI, dI, dI, dI, dI, dI, dI, dI, dI, dI, dI, dI, dI, cI h0 3, cI h0 2, cI h0 4, trivial⟩, ?_⟩
 refine wO rfl <| cR call169 (r14_check q.ops.a q.ops.n q.ops.k q.ops.l (decide (q.kind = 6 /\ ¬ q.b = -1)) s.max_ t.max_ q.max_ (RdT.flat (hq.ops.up 5 (by rfl))) h0.flat) fun _ m0 => nilO ⟨dA, ?_⟩
 refine wU [11] <| wN <| tN <| sR <| pu2 <| nT <| cN (pwCode q.ops.l (decide (q.kind = 6 /\ ¬ q.b = -1)) s.max_ t.max_ q.max_) 0 (fun w1 => ?_) (fun w1 => ?_)
 rotate_left
 ·refine sR <| lA m0 0 0 3 (isAgg65 _) (sizeOf65 _) <| pu1 <| sTl m0 1 [I s.w, I s.h, I q.max_] sizeOf65 fun _ u0 => pu1 <| zR <| retC u0 1 [I s.w, I s.h, I q.max_] (I (pwCode q.ops.l (decide (q.kind = 6 /\ ¬ q.b = -1)) s.max_ t.max_ q.max_)) (isAgg65 _) (sizeOf65 _) ?_
  have x1 := (u0.drops [0, 0, 0, 0, 0])
  have hk : kernelV q.v s t = ((⟨s.w, s.h, q.max_⟩ : Shape), (pwCode q.ops.l (decide (q.kind = 6 /\ ¬ q.b = -1)) s.max_ t.max_ q.max_)) := by
   unfold kernelV; rw [if_neg (by simp only [Stage.v]; omega), if_neg (by simp only [Stage.v]; omega), if_neg (by simp only [Stage.v]; omega), if_neg (by simp only [Stage.v]; omega), if_neg (by simp only [Stage.v]; omega), if_neg ‹_›] <;> rfl
  exact ⟨by rw [hk]; rfl, x1⟩
 refine kT <| seqE <| sR <| lA m0 4 0 18 (isAgg53 _) (sizeOf53 _) <| cR call47 (r15_two q (hq.of_mem (mem_flat1 5 (by rfl))) m0.flat) fun _ c0 => pu1 <| sD 124 (q.kind = 6 /\ ¬ q.b = -1) (fun y1 => ?_) (fun y1 => ?_)
 rotate_left
 ·refine pu13 <| nT <| cFf <| kS <| lA c0 0 0 3 (isAgg65 _) (sizeOf65 _) <| sTl c0 1 [I s.w, I s.h, I q.max_] sizeOf65 fun _ v0 => pu1 <| zE <| retC v0 1 [I s.w, I s.h, I q.max_] (I 0) (isAgg65 _) (sizeOf65 _) ?_
  have z1 := (v0.drops [0, 0, 0, 0, 0])
  have hk : kernelV q.v s t = ((⟨s.w, s.h, q.max_⟩ : Shape), 0) := by
   unfold kernelV; rw [if_neg (by simp only [Stage.v]; omega), if_neg (by simp only [Stage.v]; omega), if_neg (by simp only [Stage.v]; omega), if_neg (by simp only [Stage.v]; omega), if_neg (by simp only [Stage.v]; omega), if_pos ‹_›, if_neg (by simp only [Stage.v]; omega)] <;> rfl
  exact ⟨by rw [hk]; rfl, z1⟩
 refine pu1 <| gY <| sL c0 3 0 (I s.w) (isAgg3 _) <| pu1 <| gY <| sL c0 2 0 (I t.w) (isAgg3 _) <| pu2 <| sN 130 s.w t.w (fun a2 => ?_) (fun a2 => ?_)
 rotate_left
 ·refine pu7 <| zC <| lA c0 0 0 3 (isAgg65 _) (sizeOf65 _) <| sTl c0 1 [I s.w, I s.h, I q.max_] sizeOf65 fun _ w0 => pu1 <| zR <| retC w0 1 [I s.w, I s.h, I q.max_] (I 8) (isAgg65 _) (sizeOf65 _) ?_
  have b2 := (w0.drops [0, 0, 0, 0, 0])
  have hk : kernelV q.v s t = ((⟨s.w, s.h, q.max_⟩ : Shape), 8) := by
   unfold kernelV; rw [if_neg (by simp only [Stage.v]; omega), if_neg (by simp only [Stage.v]; omega), if_neg (by simp only [Stage.v]; omega), if_neg (by simp only [Stage.v]; omega), if_neg (by simp only [Stage.v]; omega), if_pos ‹_›, if_pos (by simp only [Stage.v]; omega)] <;> rfl
  exact ⟨by rw [hk]; rfl, b2⟩
 refine pu1 <| gY <| sL c0 3 1 (I s.h) (isAgg3 _) <| pu1 <| gY <| sL c0 2 1 (I t.h) (isAgg3 _) <| pu3 <| nT <| cN s.h t.h (fun c2 => ?_) (fun c2 => ?_)
 rotate_left
 ·refine sR <| lA c0 0 0 3 (isAgg65 _) (sizeOf65 _) <| sTl c0 1 [I s.w, I s.h, I q.max_] sizeOf65 fun _ x0 => pu1 <| zR <| retC x0 1 [I s.w, I s.h, I q.max_] (I 8) (isAgg65 _) (sizeOf65 _) ?_
  have d2 := (x0.drops [0, 0, 0, 0, 0])
  have hk : kernelV q.v s t = ((⟨s.w, s.h, q.max_⟩ : Shape), 8) := by
   unfold kernelV; rw [if_neg (by simp only [Stage.v]; omega), if_neg (by simp only [Stage.v]; omega), if_neg (by simp only [Stage.v]; omega), if_neg (by simp only [Stage.v]; omega), if_neg (by simp only [Stage.v]; omega), if_pos ‹_›, if_pos (by simp only [Stage.v]; omega)] <;> rfl
  exact ⟨by rw [hk]; rfl, d2⟩
 refine kS <| lA c0 0 0 3 (isAgg65 _) (sizeOf65 _) <| sTl c0 1 [I s.w, I s.h, I q.max_] sizeOf65 fun _ y0 => pu1 <| zE <| retC y0 1 [I s.w, I s.h, I q.max_] (I 0) (isAgg65 _) (sizeOf65 _) ?_
 have e2 := (y0.drops [0, 0, 0, 0, 0])
 have hk : kernelV q.v s t = ((⟨s.w, s.h, q.max_⟩ : Shape), 0) := by
  unfold kernelV; rw [if_neg (by simp only [Stage.v]; omega), if_neg (by simp only [Stage.v]; omega), if_neg (by simp only [Stage.v]; omega), if_neg (by simp only [Stage.v]; omega), if_neg (by simp only [Stage.v]; omega), if_pos ‹_›, if_neg (by simp only [Stage.v]; omega)] <;> rfl
 exact ⟨by rw [hk]; rfl, e2⟩
theorem r15_of (q : Stage) (s : Shape) (t : Shape) (hq : Stage.Ok [H] q) (hS : Sat W w (H :: F)) :
  Ro prog 77 #[.agg (encStage q).toArray, .agg #[I s.w, I s.h, I s.max_], .agg #[I t.w, I t.h, I t.max_]] (.tuple #[.agg #[I ((ofV q.v s t).1.w), I ((ofV q.v s t).1.h), I ((ofV q.v s t).1.max_)], I ((ofV q.v s t).2)]) W w (H :: F) := by
 have hl_q_weights := hq.weights.le; have hn_q_weights := hq.weights.len
 have hl_q_row := hq.row.le; have hn_q_row := hq.row.len
 have hl_q_col := hq.col.le; have hn_q_col := hq.col.len
 have hl_q_x := hq.x.le; have hn_q_x := hq.x.len
 have hl_q_y := hq.y.le; have hn_q_y := hq.y.len
 have hl_q_ops := hq.ops.le; have hn_q_ops := hq.ops.len
 refine callsA 54 func77 rfl <| sR <| sBox hS (.agg (encStage q).toArray) (encStage q).toArray fun _ _ a1 => sBox a1 (.agg #[I s.w, I s.h, I s.max_]) #[I s.w, I s.h, I s.max_] fun _ _ b1 => sBox b1 (.agg #[I t.w, I t.h, I t.max_]) #[I t.w, I t.h, I t.max_] fun _ _ c1 => sAlloc c1 zeroValue65 fun _ _ m0 => pu1 <| nT <| seqE <| blockE <| sR <| lA m0 3 0 18 (isAgg53 _) (sizeOf53 _) <| cR call119 (r15_fields q (hq.of_mem (mem_flat1 4 (by rfl))) m0.flat) fun _ f0 => pu2 <| nT <| cDn (fieldsP q.v) (fun d1 => ?_) (fun d1 => ?_)
 rotate_left
 ·refine sR <| pu1 <| sTl f0 0 [I 0, I 0, I 0] sizeOf65 fun _ n0 => pu1 <| zB <| retC n0 0 [I 0, I 0, I 0] (I 1) (isAgg65 _) (sizeOf65 _) ?_
  have e1 := (n0.drops [0, 0, 0, 0])
  have hk : ofV q.v s t = ((⟨0, 0, 0⟩ : Shape), 1) := by
   unfold ofV; rw [if_neg ‹_›]
  exact ⟨by rw [hk]; rfl, e1⟩
 refine sR <| lA f0 2 0 3 (isAgg65 _) (sizeOf65 _) <| cR call120 (r15_valid s f0.flat) fun _ g0 => pu2 <| sDn 19 ((1 : Int) <= s.w /\ s.w <= (128 : Int) /\ (1 : Int) <= s.h /\ s.h <= (128 : Int) /\ s.w * s.h <= (4096 : Int) /\ (1 : Int) <= s.max_ /\ s.max_ <= (4294967296 : Int)) (fun f1 => ?_) (fun f1 => ?_)
 rotate_left
 ·refine pu9 <| zC <| pu1 <| sTl g0 0 [I 0, I 0, I 0] sizeOf65 fun _ o0 => pu1 <| zB <| retC o0 0 [I 0, I 0, I 0] (I 2) (isAgg65 _) (sizeOf65 _) ?_
  have g1 := (o0.drops [0, 0, 0, 0])
  have hk : ofV q.v s t = ((⟨0, 0, 0⟩ : Shape), 2) := by
   unfold ofV; rw [if_pos ‹_›, if_neg (by unfold szP twoP; simp only [Stage.v]; omega)]
  exact ⟨by rw [hk]; rfl, g1⟩
 refine gY <| lA g0 3 0 18 (isAgg53 _) (sizeOf53 _) <| gY <| cR call47 (r15_two q (hq.of_mem (mem_flat1 4 (by rfl))) g0.flat) fun _ e0 => pu1 <| sD 22 (q.kind = 6 /\ ¬ q.b = -1) (fun h1 => ?_) (fun h1 => ?_)
 rotate_left
 ·refine pu6 <| nT <| cFf <| sR <| pu1 <| sL e0 3 0 (I q.kind) (isAgg3 _) <| cR call121 (r15_edged q.kind e0.flat) fun _ a0 => pu1 <| sD 33 (q.kind = 1 \/ q.kind = 2 \/ q.kind = 3) (fun i1 => ?_) (fun i1 => ?_)
  rotate_left
  ·refine pu8 <| nT <| cFf <| skipE <| bN <| tN <| sR <| lA a0 3 0 18 (isAgg53 _) (sizeOf53 _) <| lA a0 2 0 3 (isAgg65 _) (sizeOf65 _) <| lA a0 1 0 3 (isAgg65 _) (sizeOf65 _) <| cR call123 (r15_kernel q s t (hq.of_mem (mem_flat1 4 (by rfl))) (by first | assumption | (unfold szP; assumption)) a0.flat) ?_
   intro _ j1
   refine pu3 <| sAlloc j1 zeroValue65 fun _ _ k1 => sTl k1 0 [I ((kernelV q.v s t).1.w), I ((kernelV q.v s t).1.h), I ((kernelV q.v s t).1.max_)] sizeOf65 fun _ h0 => pu1 <| zQ <| pu2 <| nT <| cN ((kernelV q.v s t).2) 0 (fun l1 => ?_) (fun l1 => ?_)
   rotate_left
   ·refine sR <| pu2 <| sTl h0 1 [I 0, I 0, I 0] sizeOf65 fun _ p0 => pu1 <| zR <| retC p0 1 [I 0, I 0, I 0] (I ((kernelV q.v s t).2)) (isAgg65 _) (sizeOf65 _) ?_
    have m1 := (p0.drops [0, 0, 0, 0, 0])
    have hk : ofV q.v s t = ((⟨0, 0, 0⟩ : Shape), (kernelV q.v s t).2) := by
     unfold ofV; rw [if_pos ‹_›, if_pos (by unfold szP twoP; simp only [Stage.v]; omega), if_pos (by unfold edgeP; simp only [Stage.v]; (try dsimp only at *); omega), if_neg ‹_›]
    exact ⟨by rw [hk]; rfl, m1⟩
   refine kS <| lA h0 0 0 3 (isAgg65 _) (sizeOf65 _) <| sTl h0 1 [I ((kernelV q.v s t).1.w), I ((kernelV q.v s t).1.h), I ((kernelV q.v s t).1.max_)] sizeOf65 fun _ q0 => pu1 <| zE <| retC q0 1 [I ((kernelV q.v s t).1.w), I ((kernelV q.v s t).1.h), I ((kernelV q.v s t).1.max_)] (I 0) (isAgg65 _) (sizeOf65 _) ?_
   have n1 := (q0.drops [0, 0, 0, 0, 0])
   have hk : ofV q.v s t = ((kernelV q.v s t).1, 0) := by
    unfold ofV; rw [if_pos ‹_›, if_pos (by unfold szP twoP; simp only [Stage.v]; omega), if_pos (by unfold edgeP; simp only [Stage.v]; (try dsimp only at *); omega), if_pos ‹_›]
   exact ⟨by rw [hk]; rfl, n1⟩
  refine pu1 <| gY <| lA a0 3 4 2 (isAgg49 _) (sizeOf49 _) <| pu1 <| gY <| sL a0 2 2 (I s.max_) (isAgg3 _) <| gY <| cR call122 (r3_valid (⟨q.edgePolicy, q.edgeFill⟩ : Edge) s.max_ a0.flat) fun _ c0 => pu3 <| nT <| cDn (((⟨q.edgePolicy, q.edgeFill⟩ : Edge).policy = 3 /\ 0 <= (⟨q.edgePolicy, q.edgeFill⟩ : Edge).fill /\ (⟨q.edgePolicy, q.edgeFill⟩ : Edge).fill <= s.max_) \/ (0 <= (⟨q.edgePolicy, q.edgeFill⟩ : Edge).policy /\ (⟨q.edgePolicy, q.edgeFill⟩ : Edge).policy < 3 /\ (⟨q.edgePolicy, q.edgeFill⟩ : Edge).fill = 0)) (fun o1 => ?_) (fun o1 => ?_)
  rotate_left
  ·refine sR <| pu1 <| sTl c0 0 [I 0, I 0, I 0] sizeOf65 fun _ r0 => pu1 <| zB <| retC r0 0 [I 0, I 0, I 0] (I 1) (isAgg65 _) (sizeOf65 _) ?_
   have p1 := (r0.drops [0, 0, 0, 0])
   have hk : ofV q.v s t = ((⟨0, 0, 0⟩ : Shape), 1) := by
    unfold ofV; rw [if_pos ‹_›, if_pos (by unfold szP twoP; simp only [Stage.v]; omega), if_neg (by unfold edgeP; simp only [Stage.v]; (try dsimp only at *); omega)]
   exact ⟨by rw [hk]; rfl, p1⟩
  refine skipE <| bN <| tN <| sR <| lA c0 3 0 18 (isAgg53 _) (sizeOf53 _) <| lA c0 2 0 3 (isAgg65 _) (sizeOf65 _) <| lA c0 1 0 3 (isAgg65 _) (sizeOf65 _) <| cR call123 (r15_kernel q s t (hq.of_mem (mem_flat1 4 (by rfl))) (by first | assumption | (unfold szP; assumption)) c0.flat) ?_
  intro _ q1
  refine pu3 <| sAlloc q1 zeroValue65 fun _ _ r1 => sTl r1 0 [I ((kernelV q.v s t).1.w), I ((kernelV q.v s t).1.h), I ((kernelV q.v s t).1.max_)] sizeOf65 fun _ i0 => pu1 <| zQ <| pu2 <| nT <| cN ((kernelV q.v s t).2) 0 (fun s1 => ?_) (fun s1 => ?_)
  rotate_left
  ·refine sR <| pu2 <| sTl i0 1 [I 0, I 0, I 0] sizeOf65 fun _ s0 => pu1 <| zR <| retC s0 1 [I 0, I 0, I 0] (I ((kernelV q.v s t).2)) (isAgg65 _) (sizeOf65 _) ?_
   have t1 := (s0.drops [0, 0, 0, 0, 0])
   have hk : ofV q.v s t = ((⟨0, 0, 0⟩ : Shape), (kernelV q.v s t).2) := by
    unfold ofV; rw [if_pos ‹_›, if_pos (by unfold szP twoP; simp only [Stage.v]; omega), if_pos (by unfold edgeP; simp only [Stage.v]; (try dsimp only at *); omega), if_neg ‹_›]
   exact ⟨by rw [hk]; rfl, t1⟩
  refine kS <| lA i0 0 0 3 (isAgg65 _) (sizeOf65 _) <| sTl i0 1 [I ((kernelV q.v s t).1.w), I ((kernelV q.v s t).1.h), I ((kernelV q.v s t).1.max_)] sizeOf65 fun _ t0 => pu1 <| zE <| retC t0 1 [I ((kernelV q.v s t).1.w), I ((kernelV q.v s t).1.h), I ((kernelV q.v s t).1.max_)] (I 0) (isAgg65 _) (sizeOf65 _) ?_
  have u1 := (t0.drops [0, 0, 0, 0, 0])
  have hk : ofV q.v s t = ((kernelV q.v s t).1, 0) := by
   unfold ofV; rw [if_pos ‹_›, if_pos (by unfold szP twoP; simp only [Stage.v]; omega), if_pos (by unfold edgeP; simp only [Stage.v]; (try dsimp only at *); omega), if_pos ‹_›]
  exact ⟨by rw [hk]; rfl, u1⟩
 refine gY <| lA e0 1 0 3 (isAgg65 _) (sizeOf65 _) <| gY <| cR call120 (r15_valid t e0.flat) fun _ j0 => pu4 <| nT <| cDn ((1 : Int) <= t.w /\ t.w <= (128 : Int) /\ (1 : Int) <= t.h /\ t.h <= (128 : Int) /\ t.w * t.h <= (4096 : Int) /\ (1 : Int) <= t.max_ /\ t.max_ <= (4294967296 : Int)) (fun v1 => ?_) (fun v1 => ?_)
 rotate_left
 ·refine sR <| pu1 <| sTl j0 0 [I 0, I 0, I 0] sizeOf65 fun _ u0 => pu1 <| zB <| retC u0 0 [I 0, I 0, I 0] (I 2) (isAgg65 _) (sizeOf65 _) ?_
  have w1 := (u0.drops [0, 0, 0, 0])
  have hk : ofV q.v s t = ((⟨0, 0, 0⟩ : Shape), 2) := by
   unfold ofV; rw [if_pos ‹_›, if_neg (by unfold szP twoP; simp only [Stage.v]; omega)]
  exact ⟨by rw [hk]; rfl, w1⟩
 refine sR <| pu1 <| sL j0 3 0 (I q.kind) (isAgg3 _) <| cR call121 (r15_edged q.kind j0.flat) fun _ b0 => pu1 <| sD 33 (q.kind = 1 \/ q.kind = 2 \/ q.kind = 3) (fun x1 => ?_) (fun x1 => ?_)
 rotate_left
 ·refine pu8 <| nT <| cFf <| skipE <| bN <| tN <| sR <| lA b0 3 0 18 (isAgg53 _) (sizeOf53 _) <| lA b0 2 0 3 (isAgg65 _) (sizeOf65 _) <| lA b0 1 0 3 (isAgg65 _) (sizeOf65 _) <| cR call123 (r15_kernel q s t (hq.of_mem (mem_flat1 4 (by rfl))) (by first | assumption | (unfold szP; assumption)) b0.flat) ?_
  intro _ y1
  refine pu3 <| sAlloc y1 zeroValue65 fun _ _ z1 => sTl z1 0 [I ((kernelV q.v s t).1.w), I ((kernelV q.v s t).1.h), I ((kernelV q.v s t).1.max_)] sizeOf65 fun _ k0 => pu1 <| zQ <| pu2 <| nT <| cN ((kernelV q.v s t).2) 0 (fun a2 => ?_) (fun a2 => ?_)
  rotate_left
  ·refine sR <| pu2 <| sTl k0 1 [I 0, I 0, I 0] sizeOf65 fun _ v0 => pu1 <| zR <| retC v0 1 [I 0, I 0, I 0] (I ((kernelV q.v s t).2)) (isAgg65 _) (sizeOf65 _) ?_
   have b2 := (v0.drops [0, 0, 0, 0, 0])
   have hk : ofV q.v s t = ((⟨0, 0, 0⟩ : Shape), (kernelV q.v s t).2) := by
    unfold ofV; rw [if_pos ‹_›, if_pos (by unfold szP twoP; simp only [Stage.v]; omega), if_pos (by unfold edgeP; simp only [Stage.v]; (try dsimp only at *); omega), if_neg ‹_›]
   exact ⟨by rw [hk]; rfl, b2⟩
  refine kS <| lA k0 0 0 3 (isAgg65 _) (sizeOf65 _) <| sTl k0 1 [I ((kernelV q.v s t).1.w), I ((kernelV q.v s t).1.h), I ((kernelV q.v s t).1.max_)] sizeOf65 fun _ w0 => pu1 <| zE <| retC w0 1 [I ((kernelV q.v s t).1.w), I ((kernelV q.v s t).1.h), I ((kernelV q.v s t).1.max_)] (I 0) (isAgg65 _) (sizeOf65 _) ?_
  have c2 := (w0.drops [0, 0, 0, 0, 0])
  have hk : ofV q.v s t = ((kernelV q.v s t).1, 0) := by
   unfold ofV; rw [if_pos ‹_›, if_pos (by unfold szP twoP; simp only [Stage.v]; omega), if_pos (by unfold edgeP; simp only [Stage.v]; (try dsimp only at *); omega), if_pos ‹_›]
  exact ⟨by rw [hk]; rfl, c2⟩
 refine pu1 <| gY <| lA b0 3 4 2 (isAgg49 _) (sizeOf49 _) <| pu1 <| gY <| sL b0 2 2 (I s.max_) (isAgg3 _) <| gY <| cR call122 (r3_valid (⟨q.edgePolicy, q.edgeFill⟩ : Edge) s.max_ b0.flat) fun _ d0 => pu3 <| nT <| cDn (((⟨q.edgePolicy, q.edgeFill⟩ : Edge).policy = 3 /\ 0 <= (⟨q.edgePolicy, q.edgeFill⟩ : Edge).fill /\ (⟨q.edgePolicy, q.edgeFill⟩ : Edge).fill <= s.max_) \/ (0 <= (⟨q.edgePolicy, q.edgeFill⟩ : Edge).policy /\ (⟨q.edgePolicy, q.edgeFill⟩ : Edge).policy < 3 /\ (⟨q.edgePolicy, q.edgeFill⟩ : Edge).fill = 0)) (fun d2 => ?_) (fun d2 => ?_)
 rotate_left
 ·refine sR <| pu1 <| sTl d0 0 [I 0, I 0, I 0] sizeOf65 fun _ x0 => pu1 <| zB <| retC x0 0 [I 0, I 0, I 0] (I 1) (isAgg65 _) (sizeOf65 _) ?_
  have e2 := (x0.drops [0, 0, 0, 0])
  have hk : ofV q.v s t = ((⟨0, 0, 0⟩ : Shape), 1) := by
   unfold ofV; rw [if_pos ‹_›, if_pos (by unfold szP twoP; simp only [Stage.v]; omega), if_neg (by unfold edgeP; simp only [Stage.v]; (try dsimp only at *); omega)]
  exact ⟨by rw [hk]; rfl, e2⟩
 refine skipE <| bN <| tN <| sR <| lA d0 3 0 18 (isAgg53 _) (sizeOf53 _) <| lA d0 2 0 3 (isAgg65 _) (sizeOf65 _) <| lA d0 1 0 3 (isAgg65 _) (sizeOf65 _) <| cR call123 (r15_kernel q s t (hq.of_mem (mem_flat1 4 (by rfl))) (by first | assumption | (unfold szP; assumption)) d0.flat) ?_
 intro _ f2
 refine pu3 <| sAlloc f2 zeroValue65 fun _ _ g2 => sTl g2 0 [I ((kernelV q.v s t).1.w), I ((kernelV q.v s t).1.h), I ((kernelV q.v s t).1.max_)] sizeOf65 fun _ l0 => pu1 <| zQ <| pu2 <| nT <| cN ((kernelV q.v s t).2) 0 (fun h2 => ?_) (fun h2 => ?_)
 rotate_left
 ·refine sR <| pu2 <| sTl l0 1 [I 0, I 0, I 0] sizeOf65 fun _ y0 => pu1 <| zR <| retC y0 1 [I 0, I 0, I 0] (I ((kernelV q.v s t).2)) (isAgg65 _) (sizeOf65 _) ?_
  have i2 := (y0.drops [0, 0, 0, 0, 0])
  have hk : ofV q.v s t = ((⟨0, 0, 0⟩ : Shape), (kernelV q.v s t).2) := by
   unfold ofV; rw [if_pos ‹_›, if_pos (by unfold szP twoP; simp only [Stage.v]; omega), if_pos (by unfold edgeP; simp only [Stage.v]; (try dsimp only at *); omega), if_neg ‹_›]
  exact ⟨by rw [hk]; rfl, i2⟩
 refine kS <| lA l0 0 0 3 (isAgg65 _) (sizeOf65 _) <| sTl l0 1 [I ((kernelV q.v s t).1.w), I ((kernelV q.v s t).1.h), I ((kernelV q.v s t).1.max_)] sizeOf65 fun _ z0 => pu1 <| zE <| retC z0 1 [I ((kernelV q.v s t).1.w), I ((kernelV q.v s t).1.h), I ((kernelV q.v s t).1.max_)] (I 0) (isAgg65 _) (sizeOf65 _) ?_
 have j2 := (z0.drops [0, 0, 0, 0, 0])
 have hk : ofV q.v s t = ((kernelV q.v s t).1, 0) := by
  unfold ofV; rw [if_pos ‹_›, if_pos (by unfold szP twoP; simp only [Stage.v]; omega), if_pos (by unfold edgeP; simp only [Stage.v]; (try dsimp only at *); omega), if_pos ‹_›]
 exact ⟨by rw [hk]; rfl, j2⟩
end Go.Proofs.YtmlhcafjelkjfaaGreat
