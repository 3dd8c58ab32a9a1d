import Derived.WalkKit
import Derived.Deep.Quiet
import Derived.KernelRfl
import Derived.Laws.BytesString
import Derived.Laws.Shifts
import Derived.Laws.IdiomStrings
import Derived.OpenShut
import Derived.Test.YtdingplbadblpaaGreatProg
import Derived.Test.YtdingplbadblpaaGreatR1Q3Lb
namespace Go.Proofs.YtdingplbadblpaaGreat
open Go Go.E Go.Proofs.Tryz
set_option linter.all false
set_option maxRecDepth 100000
set_option maxHeartbeats 2000000
variable {W w:World} {H:Chunk} {F:List Chunk}
def bytOK (s:StageV):Prop:=(1<=s.kind/\s.kind<=6)/\(¬s.kind=1\/((1<=s.kW/\s.kW<=9)/\1<=s.kH/\s.kH<=9))/\(¬s.kind=2\/(1<=(s.col.length:Int)/\(s.col.length:Int)<=9))/\(¬s.kind=4\/(1<=s.bins/\s.bins<=128))
theorem of_bytOK {q:StageV} {s t:Shape} (h:(ofV q s t).2=0):bytOK q:=by
 unfold ofV at h
 split at h
 ·rename_i hf
  have hk:1<=q.kind/\q.kind<=6:=by unfold fieldsP at hf;omega
  refine ⟨hk,?_⟩
  split at h
  ·split at h
   ·split at h
    ·rename_i h4
     unfold kernelV at h4
     clear h
     split at h4
     ·rename_i k
      unfold convCode at h4
      dsimp only at h4
      split at h4
      ·omega
      ·omega
     ·split at h4
      ·rename_i k
       unfold sepCode at h4
       dsimp only at h4
       split at h4
       ·omega
       ·omega
      ·split at h4
       ·omega
       ·split at h4
        ·split at h4
         ·omega
         ·simp at h4
        ·omega
    ·rename_i h4;exact absurd h h4
   ·simp at h
  ·simp at h
 ·simp at h
theorem cells_bd {s:StageV} {h:Int} {r:Rct} (hk:bytOK s) (hr:inP r):0<=cellsV s h r/\cellsV s h r<=20000:=by
 obtain ⟨h0,h1,h2,h4⟩:=hk
 unfold inP at hr
 unfold cellsV
 split
 ·exact mul_bd (A:=136) (B:=136) om om|>.imp id (fun h=>by omega)
 ·split
  ·exact mul_bd (A:=136) (B:=136) om om|>.imp id (fun h=>by omega)
  ·split
   ·have hl:=need_len (s:=s) (n:=h) (a:=r.y0) (b:=r.y1) (size:=if s.kind=2 then s.col.length else s.kH) (t:=s.y)
    exact mul_bd (A:=136) (B:=136) om (by unfold rowsV;omega)|>.imp id (fun h=>by omega)
   ·split
    ·omega
    ·split<;>omega
theorem scr_no {s:StageV} {m:Shape} {p:Int} {r:Rct} (h:¬((ofV s m m).2=0/\belongP s.kind p/\inP r)):scrV s m p r=0:=by unfold scrV;rw [if_neg h]
theorem p20_belongs (x : Int) (p : Int) (hS : Sat W w (H :: F)) :
  Ro prog 66 #[I x, I p] (.bool (decide (belongP x p))) W w (H :: F) := by
 refine callsA 15 func66 rfl <| sR <| pu1 <| zQ <| pu2 <| nT <| cE x 4 (fun a0 => ?_) (fun a0 => ?_)
 rotate_left
 ·refine kS <| pu3 <| zE <| retT [.bool ((p : Int) == 0)] <| ⟨rB ?_, hS⟩
  first | rfl | (rw [Bool.eq_iff_iff]; simp only [decide_eq_true_eq, beq_iff_eq, bne_iff_ne, ne_eq, Bool.not_eq_true', decide_eq_false_iff_not, true_iff, false_iff, iff_true, iff_false, Bool.false_eq_true, Bool.and_eq_true, Bool.or_eq_true, gt_iff_lt, ge_iff_le, belongP] <;> omega) | (rw [Bool.eq_iff_iff]; simp [belongP, *] <;> omega) | (simp_all; done)
 refine sR <| pu3 <| sE 9 p 1 (fun b0 => ?_) (fun b0 => ?_)
 ·refine pu4 <| zR <| retT [.bool true] <| ⟨rB ?_, hS⟩
  first | rfl | (rw [Bool.eq_iff_iff]; simp only [decide_eq_true_eq, beq_iff_eq, bne_iff_ne, ne_eq, Bool.not_eq_true', decide_eq_false_iff_not, true_iff, false_iff, iff_true, iff_false, Bool.false_eq_true, Bool.and_eq_true, Bool.or_eq_true, gt_iff_lt, ge_iff_le, belongP] <;> omega) | (rw [Bool.eq_iff_iff]; simp [belongP, *] <;> omega) | (simp_all; done)
 refine pu4 <| zR <| retT [.bool ((p : Int) == 2)] <| ⟨rB ?_, hS⟩
 first | rfl | (rw [Bool.eq_iff_iff]; simp only [decide_eq_true_eq, beq_iff_eq, bne_iff_ne, ne_eq, Bool.not_eq_true', decide_eq_false_iff_not, true_iff, false_iff, iff_true, iff_false, Bool.false_eq_true, Bool.and_eq_true, Bool.or_eq_true, gt_iff_lt, ge_iff_le, belongP] <;> omega) | (rw [Bool.eq_iff_iff]; simp [belongP, *] <;> omega) | (simp_all; done)
theorem r20_belongs (x : Int) (p : Int) (hS : Sat W w (H :: F)) :
  Ro prog 71 #[I x, I p] (.bool (decide (belongP x p))) W w (H :: F) := by
 refine callsA 15 func71 rfl <| sR <| pu1 <| zQ <| pu2 <| nT <| cE x 4 (fun a0 => ?_) (fun a0 => ?_)
 rotate_left
 ·refine kS <| pu3 <| zE <| retT [.bool ((p : Int) == 0)] <| ⟨rB ?_, hS⟩
  first | rfl | (rw [Bool.eq_iff_iff]; simp only [decide_eq_true_eq, beq_iff_eq, bne_iff_ne, ne_eq, Bool.not_eq_true', decide_eq_false_iff_not, true_iff, false_iff, iff_true, iff_false, Bool.false_eq_true, Bool.and_eq_true, Bool.or_eq_true, gt_iff_lt, ge_iff_le, belongP] <;> omega) | (rw [Bool.eq_iff_iff]; simp [belongP, *] <;> omega) | (simp_all; done)
 refine sR <| pu3 <| sE 9 p 1 (fun b0 => ?_) (fun b0 => ?_)
 ·refine pu4 <| zR <| retT [.bool true] <| ⟨rB ?_, hS⟩
  first | rfl | (rw [Bool.eq_iff_iff]; simp only [decide_eq_true_eq, beq_iff_eq, bne_iff_ne, ne_eq, Bool.not_eq_true', decide_eq_false_iff_not, true_iff, false_iff, iff_true, iff_false, Bool.false_eq_true, Bool.and_eq_true, Bool.or_eq_true, gt_iff_lt, ge_iff_le, belongP] <;> omega) | (rw [Bool.eq_iff_iff]; simp [belongP, *] <;> omega) | (simp_all; done)
 refine pu4 <| zR <| retT [.bool ((p : Int) == 2)] <| ⟨rB ?_, hS⟩
 first | rfl | (rw [Bool.eq_iff_iff]; simp only [decide_eq_true_eq, beq_iff_eq, bne_iff_ne, ne_eq, Bool.not_eq_true', decide_eq_false_iff_not, true_iff, false_iff, iff_true, iff_false, Bool.false_eq_true, Bool.and_eq_true, Bool.or_eq_true, gt_iff_lt, ge_iff_le, belongP] <;> omega) | (rw [Bool.eq_iff_iff]; simp [belongP, *] <;> omega) | (simp_all; done)
theorem p20_bytes (q:Stage) (hh:Int) (r:Rct) (hq:Stage.Ok [H] q) (hk:bytOK q.v) (hr:inP r) (hS:Sat W w (H::F)):
  Ro prog 69 #[.agg (encStage q).toArray,I hh, .agg (encRct r).toArray] (I (bytV q.v hh r)) W w (H::F):=by
 have hl_q_weights:=hq.weights.le;have hn_q_weights:=hq.weights.len
 have hl_q_row:=hq.row.le;have hn_q_row:=hq.row.len
 have hl_q_col:=hq.col.le;have hn_q_col:=hq.col.len
 have hl_q_x:=hq.x.le;have hn_q_x:=hq.x.len
 have hl_q_y:=hq.y.le;have hn_q_y:=hq.y.len
 have hl_q_ops:=hq.ops.le;have hn_q_ops:=hq.ops.len
 have hnr:=hn_q_row;have hnc:=hn_q_col;have hcb:=cells_bd (h:=hh) hk hr;have hk0:=hk;unfold bytOK at hk0;simp only [Stage.v] at hk0;rw [hnc] at hk0;have hr0:=hr;unfold inP at hr0
 refine callsA 79 func69 rfl<|sR<|sBox hS (.agg (encStage q).toArray) (encStage q).toArray fun f0 _ g0=>sBox g0 (.agg (encRct r).toArray) (encRct r).toArray fun b0 _ c0=>pu1<|nT<|seqE<|drawE [] [(1,⟨b0,2,none⟩,I r.x1),(3,⟨b0,0,none⟩,I r.x0),(6,⟨b0,3,none⟩,I r.y1),(8,⟨b0,1,none⟩,I r.y0)] [(true,[0,2,5,7]),(true,[1]),(true,[3]),(true,[4]),(true,[10]),(true,[6]),(true,[8]),(true,[9]),(true,[11])] rfl kr ⟨cI c0 0,cI c0 0,cI c0 0,cI c0 0,trivial⟩ ?_
 have a0:=c0.drew
 refine wU [0,2,5,7]<|wLd (I r.x1) 0 isAgg3<|wLd (I r.x0) 1 isAgg3<|wSub r.x1 r.x0<|wU [10]<|wLd (I r.y1) 2 isAgg3<|wLd (I r.y0) 3 isAgg3<|wSub r.y1 r.y0<|wU [11]<|wN<|tN<|sR<|pu1<|nT<|cutA (γ:=Unit) (fun _=>[(9,I (cellsV q.v hh r))]) (fun _ w=>Sat W w ([(b0, .cells (encRct r).toArray 44 (0,0))]::[(f0, .cells (encStage q).toArray 38 (0,0))]::H::F)) ?_ ?_
 rotate_left
 ·rintro _ ρ _ h0
  exact sR<|pu1<|sMul 8 (cellsV q.v hh r)<|cR call111 (p1_align (8*(cellsV q.v hh r)) 16 1048576 (od) h0.flat) fun _ i0=>pu5<|zS<|pu2<|zE<|retT [I (alnX (8*(cellsV q.v hh r)) 16 1048576)]<|⟨by unfold bytV;rw [<-aln_ok (l:=1048576) om om];rfl,(i0.drops [0,0])⟩
 refine sR<|pu1<|sL a0 1 0 (I q.kind) (isAgg3 _)<|nT<|blockE<|sR<|pu2<|nT<|cE q.kind 1 (fun k0=>?_) (fun k0=>?_)
 ·refine rE<|pu2<|sL a0 1 6 (I q.kW) (isAgg3 _)<|sAdd (r.x1-r.x0) q.kW<|sSub ((r.x1-r.x0)+q.kW) 1<|pu2<|sL a0 1 7 (I q.kH) (isAgg3 _)<|sAdd (r.y1-r.y0) q.kH<|sSub ((r.y1-r.y0)+q.kH) 1 ?_
  have hml1:=mul_bd (a:=(((r.x1-r.x0)+q.kW)-1)) (b:=(((r.y1-r.y0)+q.kH)-1)) (A:=300) (B:=300) om om
  refine sMul (((r.x1-r.x0)+q.kW)-1) (((r.y1-r.y0)+q.kH)-1)<|pu1<|nB ?_
  exact ⟨(),⟨(Eq.trans (b:=I ((((r.x1-r.x0)+q.kW)-1)*(((r.y1-r.y0)+q.kH)-1))) kr (congrArg (fun z=>Value.int .i64 z) (show ((((r.x1-r.x0)+q.kW)-1)*(((r.y1-r.y0)+q.kH)-1))=cellsV q.v hh r from by unfold cellsV;rw [if_pos (show q.v.kind=1 from by simp only [Stage.v];omega)];rfl))),trivial⟩,a0⟩
 refine sR<|pu2<|nT<|cE q.kind 2 (fun l0=>?_) (fun l0=>?_)
 ·refine rE<|pu3<|sL a0 1 10 (.slice q.col.a q.col.n q.col.k) (isAgg22 _)<|pu1<|sAdd (r.y1-r.y0) (q.col.n:Int)<|sSub ((r.y1-r.y0)+(q.col.n:Int)) 1 ?_
  have hml2:=mul_bd (a:=(r.x1-r.x0)) (b:=(((r.y1-r.y0)+(q.col.n:Int))-1)) (A:=300) (B:=300) om om
  refine sMul (r.x1-r.x0) (((r.y1-r.y0)+(q.col.n:Int))-1)<|pu1<|nB ?_
  exact ⟨(),⟨(Eq.trans (b:=I ((r.x1-r.x0)*(((r.y1-r.y0)+(q.col.n:Int))-1))) kr (congrArg (fun z=>Value.int .i64 z) (show ((r.x1-r.x0)*(((r.y1-r.y0)+(q.col.n:Int))-1))=cellsV q.v hh r from by unfold cellsV;rw [if_neg (show ¬q.v.kind=1 from by simp only [Stage.v];omega),if_pos (show q.v.kind=2 from by simp only [Stage.v];omega),show q.v.col.length=q.col.n from hnc]))),trivial⟩,a0⟩
 refine sR<|pu2<|nT<|cE q.kind 3 (fun m0=>?_) (fun m0=>?_)
 ·refine rE<|pu1<|lA a0 1 0 18 (isAgg38 _) (sizeOf38 _)<|pu2<|sL a0 0 1 (I r.y0) (isAgg3 _)<|pu1<|sL a0 0 3 (I r.y1) (isAgg3 _)<|cX call110 (p16_rows q hh r.y0 r.y1 ⟨(RdT.flat (hq.weights.up 2 (by rfl))),(RdT.flat (hq.row.up 2 (by rfl))),(RdT.flat (hq.col.up 2 (by rfl))),(RdT.flat (hq.x.up 2 (by rfl))),(fun z hz=>(hq.xD z hz).of_mem (mem_flat1 2 (by rfl))),(RdT.flat (hq.y.up 2 (by rfl))),(fun z hz=>(hq.yD z hz).of_mem (mem_flat1 2 (by rfl))),(RdT.flat (hq.ops.up 2 (by rfl)))⟩ a0.flat) ?_
  rintro _ _ ⟨_,d0,_,_,rfl,e0,n0⟩
  have o0:=n0.unflat1
  have hn_az_14:=e0.len;have hl_az_14:=e0.le
  refine pu1 ?_
  have hrl:=need_len (s:=q.v) (n:=hh) (a:=r.y0) (b:=r.y1) (size:=if q.v.kind=2 then q.v.col.length else q.v.kH) (t:=q.v.y);have hrn:=(e0).len;unfold rowsV at hrn;have hml9:=mul_bd (a:=(r.x1-r.x0)) (b:=(d0:Int)) (A:=300) (B:=300) om om
  refine sMul (r.x1-r.x0) (d0:Int)<|pu1<|nB ?_
  have p0:=(o0.dropAt 0 rfl)
  exact ⟨(),⟨(Eq.trans (b:=I ((r.x1-r.x0)*(d0:Int))) kr (congrArg (fun z=>Value.int .i64 z) (show ((r.x1-r.x0)*(d0:Int))=cellsV q.v hh r from by unfold cellsV;rw [if_neg (show ¬q.v.kind=1 from by simp only [Stage.v];omega),if_neg (show ¬q.v.kind=2 from by simp only [Stage.v];omega),if_pos (show q.v.kind=3 from by simp only [Stage.v];omega),((e0).len)]))),trivial⟩,p0⟩
 refine sR<|pu2<|nT<|cE q.kind 4 (fun q0=>?_) (fun q0=>?_)
 ·refine rE<|pu1<|sL a0 1 15 (I q.bins) (isAgg3 _)<|pu1<|nB ?_
  exact ⟨(),⟨(Eq.trans (b:=I q.bins) kr (congrArg (fun z=>Value.int .i64 z) (show q.bins=cellsV q.v hh r from by unfold cellsV;rw [if_neg (show ¬q.v.kind=1 from by simp only [Stage.v];omega),if_neg (show ¬q.v.kind=2 from by simp only [Stage.v];omega),if_neg (show ¬q.v.kind=3 from by simp only [Stage.v];omega),if_pos (show q.v.kind=4 from by simp only [Stage.v];omega)];rfl))),trivial⟩,a0⟩
 refine sR<|pu2<|nT<|cE q.kind 5 (fun r0=>?_) (fun r0=>?_)
 ·refine rE<|pu2<|sAdd (r.x1-r.x0) (r.y1-r.y0)<|sAdd ((r.x1-r.x0)+(r.y1-r.y0)) 1<|pu1<|nB ?_
  exact ⟨(),⟨(Eq.trans (b:=I (((r.x1-r.x0)+(r.y1-r.y0))+1)) kr (congrArg (fun z=>Value.int .i64 z) (show (((r.x1-r.x0)+(r.y1-r.y0))+1)=cellsV q.v hh r from by unfold cellsV;rw [if_neg (show ¬q.v.kind=1 from by simp only [Stage.v];omega),if_neg (show ¬q.v.kind=2 from by simp only [Stage.v];omega),if_neg (show ¬q.v.kind=3 from by simp only [Stage.v];omega),if_neg (show ¬q.v.kind=4 from by simp only [Stage.v];omega),if_pos (show q.v.kind=5 from by simp only [Stage.v];omega)]))),trivial⟩,a0⟩
 refine sR<|pu2<|nT<|cE q.kind 6 (fun s0=>?_) (fun s0=>?_)
 rotate_left
 ·refine skipE<|bN<|tN ?_
  exact ⟨(),⟨(Eq.trans (b:=I 0) kr (congrArg (fun z=>Value.int .i64 z) (show (0:Int)=cellsV q.v hh r from by exfalso;omega))),trivial⟩,a0⟩
 refine rE<|pu2<|nB ?_
 exact ⟨(),⟨(Eq.trans (b:=I (r.x1-r.x0)) kr (congrArg (fun z=>Value.int .i64 z) (show (r.x1-r.x0)=cellsV q.v hh r from by unfold cellsV;rw [if_neg (show ¬q.v.kind=1 from by simp only [Stage.v];omega),if_neg (show ¬q.v.kind=2 from by simp only [Stage.v];omega),if_neg (show ¬q.v.kind=3 from by simp only [Stage.v];omega),if_neg (show ¬q.v.kind=4 from by simp only [Stage.v];omega),if_neg (show ¬q.v.kind=5 from by simp only [Stage.v];omega)]))),trivial⟩,a0⟩
theorem p20_scratch (q:Stage) (s:Shape) (part:Int) (r:Rct) (hq:Stage.Ok [H] q) (hS:Sat W w (H::F)):
  Ro prog 26 #[.agg (encStage q).toArray, .agg #[I s.w,I s.h,I s.max_],I part, .agg (encRct r).toArray] (I (scrV q.v s part r)) W w (H::F):=by
 have hl_q_weights:=hq.weights.le;have hn_q_weights:=hq.weights.len
 have hl_q_row:=hq.row.le;have hn_q_row:=hq.row.len
 have hl_q_col:=hq.col.le;have hn_q_col:=hq.col.len
 have hl_q_x:=hq.x.le;have hn_q_x:=hq.x.len
 have hl_q_y:=hq.y.le;have hn_q_y:=hq.y.len
 have hl_q_ops:=hq.ops.le;have hn_q_ops:=hq.ops.len
 refine callsA 55 func26 rfl<|sR<|sBox hS (.agg (encStage q).toArray) (encStage q).toArray fun _ _ i0=>sBox i0 (.agg #[I s.w,I s.h,I s.max_]) #[I s.w,I s.h,I s.max_] fun _ _ j0=>sBox j0 (.agg (encRct r).toArray) (encRct r).toArray fun _ _ b0=>pu1<|zQ<|lA b0 2 0 18 (isAgg38 _) (sizeOf38 _)<|lA b0 1 0 3 (isAgg54 _) (sizeOf54 _)<|lA b0 1 0 3 (isAgg54 _) (sizeOf54 _) ?_
 refine cR call65 (p15_of q s s ⟨(RdT.flat (hq.weights.up 3 (by rfl))),(RdT.flat (hq.row.up 3 (by rfl))),(RdT.flat (hq.col.up 3 (by rfl))),(RdT.flat (hq.x.up 3 (by rfl))),(fun z hz=>(hq.xD z hz).of_mem (mem_flat1 3 (by rfl))),(RdT.flat (hq.y.up 3 (by rfl))),(fun z hz=>(hq.yD z hz).of_mem (mem_flat1 3 (by rfl))),(RdT.flat (hq.ops.up 3 (by rfl)))⟩ b0.flat) fun _ k0=>pu3<|sAlloc k0 zeroValue54 fun _ _ l0=>?_
 refine sT l0 0 0 (.agg #[I ((ofV q.v s s).1.w),I ((ofV q.v s s).1.h),I ((ofV q.v s s).1.max_)]) [I ((ofV q.v s s).1.w),I ((ofV q.v s s).1.h),I ((ofV q.v s s).1.max_)] #[I ((ofV q.v s s).1.w),I ((ofV q.v s s).1.h),I ((ofV q.v s s).1.max_)] sizeOf54 fun _ c0=>pu1<|zS<|pu2<|nT<|cN ((ofV q.v s s).2) 0 (fun f0=>?_) (fun f0=>?_)
 rotate_left
 ·refine sR<|pu1<|zR<|retT [I 0] ?_
  have m0:=(c0.drops [0,0,0,0])
  have hz:scrV q.v s part r=0:=scr_no (fun h=>by
    obtain ⟨h1,h2,h3⟩:=h
    first|contradiction|omega|(exfalso;unfold inP at h3;omega)|(unfold inP at h3;unfold rvP cooP at*;omega))
  exact ⟨by rw [hz];rfl,m0⟩
 refine kT<|seqE<|sR<|pu1<|sL c0 3 0 (I q.kind) (isAgg3 _)<|pu1<|cR call66 (p20_belongs q.kind part c0.flat) fun _ d0=>pu1<|nT<|cDn (belongP q.kind part) (fun g0=>?_) (fun g0=>?_)
 rotate_left
 ·refine sR<|pu1<|zR<|retT [I 0] ?_
  have n0:=(d0.drops [0,0,0,0])
  have hz:scrV q.v s part r=0:=scr_no (fun h=>by
    obtain ⟨h1,h2,h3⟩:=h
    first|contradiction|omega|(exfalso;unfold inP at h3;omega)|(unfold inP at h3;unfold rvP cooP at*;omega))
  exact ⟨by rw [hz];rfl,n0⟩
 refine kT<|seqE<|sR<|lA d0 1 0 4 (isAgg44 _) (sizeOf44 _)<|cR call67 (p2_empty r d0.flat) fun _ e0=>pu1<|sD 27 (r.x0=0/\r.y0=0/\r.x1=0/\r.y1=0) (fun o0=>?_) (fun o0=>?_)
 ·refine pu4<|zC<|pu1<|zR<|retT [I 0] ?_
  have p0:=(e0.drops [0,0,0,0])
  have hz:scrV q.v s part r=0:=scr_no (fun h=>by
    obtain ⟨h1,h2,h3⟩:=h
    first|contradiction|omega|(exfalso;unfold inP at h3;omega)|(unfold inP at h3;unfold rvP cooP at*;omega))
  exact ⟨by rw [hz];rfl,p0⟩
 refine gY<|lA e0 1 0 4 (isAgg44 _) (sizeOf44 _)<|gY<|cR call68 (p2_valid r e0.flat) fun _ a0=>pu2<|nT<|cDn (rvP r) (fun h0=>?_) (fun h0=>?_)
 rotate_left
 ·refine sR<|pu1<|zR<|retT [I 0] ?_
  have q0:=(a0.drops [0,0,0,0])
  have hz:scrV q.v s part r=0:=scr_no (fun h=>by
    obtain ⟨h1,h2,h3⟩:=h
    first|contradiction|omega|(exfalso;unfold inP at h3;omega)|(unfold inP at h3;unfold rvP cooP at*;omega))
  exact ⟨by rw [hz];rfl,q0⟩
 refine kT<|seqE<|sR<|pu1<|sL a0 1 0 (I r.x0) (isAgg3 _)<|pu2<|sD 35 (r.x0<0) (fun r0=>?_) (fun r0=>?_)
 ·refine pu14<|zC<|pu1<|zR<|retT [I 0] ?_
  have s0:=(a0.drops [0,0,0,0])
  have hz:scrV q.v s part r=0:=scr_no (fun h=>by
    obtain ⟨h1,h2,h3⟩:=h
    first|contradiction|omega|(exfalso;unfold inP at h3;omega)|(unfold inP at h3;unfold rvP cooP at*;omega))
  exact ⟨by rw [hz];rfl,s0⟩
 refine pu1<|gY<|sL a0 1 1 (I r.y0) (isAgg3 _)<|pu3<|sD 40 (r.y0<0) (fun t0=>?_) (fun t0=>?_)
 ·refine pu9<|zC<|pu1<|zR<|retT [I 0] ?_
  have u0:=(a0.drops [0,0,0,0])
  have hz:scrV q.v s part r=0:=scr_no (fun h=>by
    obtain ⟨h1,h2,h3⟩:=h
    first|contradiction|omega|(exfalso;unfold inP at h3;omega)|(unfold inP at h3;unfold rvP cooP at*;omega))
  exact ⟨by rw [hz];rfl,u0⟩
 refine pu1<|gY<|sL a0 1 2 (I r.x1) (isAgg3 _)<|pu3<|sD 45 (r.x1>128) (fun v0=>?_) (fun v0=>?_)
 ·refine pu4<|zC<|pu1<|zR<|retT [I 0] ?_
  have w0:=(a0.drops [0,0,0,0])
  have hz:scrV q.v s part r=0:=scr_no (fun h=>by
    obtain ⟨h1,h2,h3⟩:=h
    first|contradiction|omega|(exfalso;unfold inP at h3;omega)|(unfold inP at h3;unfold rvP cooP at*;omega))
  exact ⟨by rw [hz];rfl,w0⟩
 refine pu1<|gY<|sL a0 1 3 (I r.y1) (isAgg3 _)<|pu2<|nT<|cD (r.y1>128) (fun z0=>?_) (fun z0=>?_)
 ·refine sR<|pu1<|zR<|retT [I 0] ?_
  have a1:=(a0.drops [0,0,0,0])
  have hz:scrV q.v s part r=0:=scr_no (fun h=>by
    obtain ⟨h1,h2,h3⟩:=h
    first|contradiction|omega|(exfalso;unfold inP at h3;omega)|(unfold inP at h3;unfold rvP cooP at*;omega))
  exact ⟨by rw [hz];rfl,a1⟩
 refine kT<|seqE ?_
 have hof:(ofV q.v s s).2=0:=f0
 have hbl:belongP q.kind part:=g0
 have hrv:rvP r:=h0;unfold rvP cooP at hrv
 have hin:inP r:=by unfold inP;omega
 have hok:=of_bytOK hof
 exact rE<|lA a0 3 0 18 (isAgg38 _) (sizeOf38 _)<|pu1<|sL a0 2 1 (I s.h) (isAgg3 _)<|lA a0 1 0 4 (isAgg44 _) (sizeOf44 _)<|cR call69 (p20_bytes q s.h r ⟨(RdT.flat (hq.weights.up 4 (by rfl))),(RdT.flat (hq.row.up 4 (by rfl))),(RdT.flat (hq.col.up 4 (by rfl))),(RdT.flat (hq.x.up 4 (by rfl))),(fun z hz=>(hq.xD z hz).of_mem (mem_flat1 4 (by rfl))),(RdT.flat (hq.y.up 4 (by rfl))),(fun z hz=>(hq.yD z hz).of_mem (mem_flat1 4 (by rfl))),(RdT.flat (hq.ops.up 4 (by rfl)))⟩ hok hin a0.flat) fun _ b1=>pu1<|zE<|retT [I (bytV q.v s.h r)]<|⟨by unfold scrV;rw [if_pos ⟨hof,hbl,hin⟩];rfl,(b1.drops [0,0,0,0])⟩
theorem r20_scratch (q : Stage) (s : Shape) (part : Int) (r : Rct) (hq : Stage.Ok [H] q) (hS : Sat W w (H :: F)) :
  Ro prog 27 #[.agg (encStage q).toArray, .agg #[I s.w, I s.h, I s.max_], I part, .agg (encRct r).toArray] (I (scrV q.v s part r)) W w (H :: F) := by
 have hl_q_weights := hq.weights.le; have hn_q_weights := hq.weights.len
 have hl_q_row := hq.row.le; have hn_q_row := hq.row.len
 have hl_q_col := hq.col.le; have hn_q_col := hq.col.len
 have hl_q_x := hq.x.le; have hn_q_x := hq.x.len
 have hl_q_y := hq.y.le; have hn_q_y := hq.y.len
 have hl_q_ops := hq.ops.le; have hn_q_ops := hq.ops.len
 refine callsA 123 func27 rfl <| sR <| sBox hS (.agg (encStage q).toArray) (encStage q).toArray fun h0 _ n0 => sBox n0 (.agg #[I s.w, I s.h, I s.max_]) #[I s.w, I s.h, I s.max_] fun i0 _ o0 => sBox o0 (.agg (encRct r).toArray) (encRct r).toArray fun c0 _ e0 => pu1 <| zQ <| lA e0 2 0 18 (isAgg38 _) (sizeOf38 _) <| lA e0 1 0 3 (isAgg54 _) (sizeOf54 _) <| lA e0 1 0 3 (isAgg54 _) (sizeOf54 _) ?_
 refine cR call70 (r15_of q s s ⟨(RdT.flat (hq.weights.up 3 (by rfl))), (RdT.flat (hq.row.up 3 (by rfl))), (RdT.flat (hq.col.up 3 (by rfl))), (RdT.flat (hq.x.up 3 (by rfl))), (fun z hz => (hq.xD z hz).of_mem (mem_flat1 3 (by rfl))), (RdT.flat (hq.y.up 3 (by rfl))), (fun z hz => (hq.yD z hz).of_mem (mem_flat1 3 (by rfl))), (RdT.flat (hq.ops.up 3 (by rfl)))⟩ e0.flat) fun _ p0 => pu3 <| sAlloc p0 zeroValue54 fun m0 _ q0 => ?_
 refine sT q0 0 0 (.agg #[I ((ofV q.v s s).1.w), I ((ofV q.v s s).1.h), I ((ofV q.v s s).1.max_)]) [I ((ofV q.v s s).1.w), I ((ofV q.v s s).1.h), I ((ofV q.v s s).1.max_)] #[I ((ofV q.v s s).1.w), I ((ofV q.v s s).1.h), I ((ofV q.v s s).1.max_)] sizeOf54 fun _ j0 => pu1 <| nT ?_
 refine cutA (γ := Unit) (fun _ => [(4, Pt h0 0), (5, Pt i0 0), (7, Pt c0 0), (56, .bool (decide (¬ ((ofV q.v s s).2 = 0 /\ belongP q.kind part /\ (rvP r /\ ¬ (r.x0 = 0 /\ r.y0 = 0 /\ r.x1 = 0 /\ r.y1 = 0)) /\ 0 <= r.x0 /\ 0 <= r.y0 /\ r.x1 <= 128 /\ r.y1 <= 128))))]) (fun _ w => Sat W w ([(m0, .cells #[I ((ofV q.v s s).1.w), I ((ofV q.v s s).1.h), I ((ofV q.v s s).1.max_)] 54 (0, 0))] :: [(c0, .cells (encRct r).toArray 44 (0, 0))] :: [(i0, .cells #[I s.w, I s.h, I s.max_] 54 (0, 0))] :: [(h0, .cells (encStage q).toArray 38 (0, 0))] :: H :: F)) ?_ ?_
 ·refine rE <| pu3 <| sN 25 ((ofV q.v s s).2) 0 (fun r0 => ?_) (fun r0 => ?_)
  rotate_left
  ·exact pu16 <| pu15 <| nT <| ⟨(), ⟨kr, kr, kr, (Eq.trans (b := .bool true) kr (congrArg Value.bool (decide_eq_true (p := ¬ ((ofV q.v s s).2 = 0 /\ belongP q.kind part /\ (rvP r /\ ¬ (r.x0 = 0 /\ r.y0 = 0 /\ r.x1 = 0 /\ r.y1 = 0)) /\ 0 <= r.x0 /\ 0 <= r.y0 /\ r.x1 <= 128 /\ r.y1 <= 128)) (by (first | omega | (simp_all; done) | (intro h_; obtain ⟨h1, h2, h3, h4, h5, h6, h7⟩ := h_; first | omega | contradiction | (exact absurd h3.1 ‹_›) | simp_all) | (simp_all <;> omega)))).symm)), trivial⟩, j0⟩
  refine pu1 <| gY <| sL j0 3 0 (I q.kind) (isAgg3 _) <| pu1 <| gY <| cR call71 (r20_belongs q.kind part j0.flat) fun _ k0 => pu3 <| sDn 32 (belongP q.kind part) (fun s0 => ?_) (fun s0 => ?_)
  rotate_left
  ·exact pu16 <| pu8 <| nT <| ⟨(), ⟨kr, kr, kr, (Eq.trans (b := .bool true) kr (congrArg Value.bool (decide_eq_true (p := ¬ ((ofV q.v s s).2 = 0 /\ belongP q.kind part /\ (rvP r /\ ¬ (r.x0 = 0 /\ r.y0 = 0 /\ r.x1 = 0 /\ r.y1 = 0)) /\ 0 <= r.x0 /\ 0 <= r.y0 /\ r.x1 <= 128 /\ r.y1 <= 128)) (by (first | omega | (simp_all; done) | (intro h_; obtain ⟨h1, h2, h3, h4, h5, h6, h7⟩ := h_; first | omega | contradiction | (exact absurd h3.1 ‹_›) | simp_all) | (simp_all <;> omega)))).symm)), trivial⟩, k0⟩
  refine gY <| lA k0 1 0 4 (isAgg44 _) (sizeOf44 _) <| gY <| cR call72 (r2_full r k0.flat) fun _ b0 => pu3 <| sDn 37 (rvP r /\ ¬ (r.x0 = 0 /\ r.y0 = 0 /\ r.x1 = 0 /\ r.y1 = 0)) (fun t0 => ?_) (fun t0 => ?_)
  rotate_left
  ·exact pu16 <| pu3 <| nT <| ⟨(), ⟨kr, kr, kr, (Eq.trans (b := .bool true) kr (congrArg Value.bool (decide_eq_true (p := ¬ ((ofV q.v s s).2 = 0 /\ belongP q.kind part /\ (rvP r /\ ¬ (r.x0 = 0 /\ r.y0 = 0 /\ r.x1 = 0 /\ r.y1 = 0)) /\ 0 <= r.x0 /\ 0 <= r.y0 /\ r.x1 <= 128 /\ r.y1 <= 128)) (by (first | omega | (simp_all; done) | (intro h_; obtain ⟨h1, h2, h3, h4, h5, h6, h7⟩ := h_; first | omega | contradiction | (exact absurd h3.1 ‹_›) | simp_all) | (simp_all <;> omega)))).symm)), trivial⟩, b0⟩
  refine pu1 <| gY <| sL b0 1 0 (I r.x0) (isAgg3 _) <| pu3 <| sD 42 (r.x0 < 0) (fun u0 => ?_) (fun u0 => ?_)
  ·exact pu14 <| nT <| ⟨(), ⟨kr, kr, kr, (Eq.trans (b := .bool true) kr (congrArg Value.bool (decide_eq_true (p := ¬ ((ofV q.v s s).2 = 0 /\ belongP q.kind part /\ (rvP r /\ ¬ (r.x0 = 0 /\ r.y0 = 0 /\ r.x1 = 0 /\ r.y1 = 0)) /\ 0 <= r.x0 /\ 0 <= r.y0 /\ r.x1 <= 128 /\ r.y1 <= 128)) (by (first | omega | (simp_all; done) | (intro h_; obtain ⟨h1, h2, h3, h4, h5, h6, h7⟩ := h_; first | omega | contradiction | (exact absurd h3.1 ‹_›) | simp_all) | (simp_all <;> omega)))).symm)), trivial⟩, b0⟩
  refine pu1 <| gY <| sL b0 1 1 (I r.y0) (isAgg3 _) <| pu3 <| sD 47 (r.y0 < 0) (fun v0 => ?_) (fun v0 => ?_)
  ·exact pu9 <| nT <| ⟨(), ⟨kr, kr, kr, (Eq.trans (b := .bool true) kr (congrArg Value.bool (decide_eq_true (p := ¬ ((ofV q.v s s).2 = 0 /\ belongP q.kind part /\ (rvP r /\ ¬ (r.x0 = 0 /\ r.y0 = 0 /\ r.x1 = 0 /\ r.y1 = 0)) /\ 0 <= r.x0 /\ 0 <= r.y0 /\ r.x1 <= 128 /\ r.y1 <= 128)) (by (first | omega | (simp_all; done) | (intro h_; obtain ⟨h1, h2, h3, h4, h5, h6, h7⟩ := h_; first | omega | contradiction | (exact absurd h3.1 ‹_›) | simp_all) | (simp_all <;> omega)))).symm)), trivial⟩, b0⟩
  refine pu1 <| gY <| sL b0 1 2 (I r.x1) (isAgg3 _) <| pu3 <| sD 52 (r.x1 > 128) (fun w0 => ?_) (fun w0 => ?_)
  ·exact pu4 <| nT <| ⟨(), ⟨kr, kr, kr, (Eq.trans (b := .bool true) kr (congrArg Value.bool (decide_eq_true (p := ¬ ((ofV q.v s s).2 = 0 /\ belongP q.kind part /\ (rvP r /\ ¬ (r.x0 = 0 /\ r.y0 = 0 /\ r.x1 = 0 /\ r.y1 = 0)) /\ 0 <= r.x0 /\ 0 <= r.y0 /\ r.x1 <= 128 /\ r.y1 <= 128)) (by (first | omega | (simp_all; done) | (intro h_; obtain ⟨h1, h2, h3, h4, h5, h6, h7⟩ := h_; first | omega | contradiction | (exact absurd h3.1 ‹_›) | simp_all) | (simp_all <;> omega)))).symm)), trivial⟩, b0⟩
  exact pu1 <| gY <| sL b0 1 3 (I r.y1) (isAgg3 _) <| pu2 <| nT <| ⟨(), ⟨kr, kr, kr, (Eq.trans (b := .bool (decide (r.y1 > 128))) kr (congrArg Value.bool (by rw [Bool.eq_iff_iff]; simp only [decide_eq_true_eq, beq_iff_eq, bne_iff_ne, ne_eq, Bool.not_eq_true', decide_eq_false_iff_not, gt_iff_lt, ge_iff_le, Bool.and_eq_true, Bool.or_eq_true, Bool.not_eq_eq_eq_not, Bool.not_true, Bool.and_eq_false_imp, beq_eq_false_iff_ne] <;> (first | omega | (simp_all; done) | (simp_all <;> omega) | (constructor <;> intro h_ <;> simp_all <;> omega))))), trivial⟩, b0⟩
 rintro _ ρ _ d0
 refine cD (¬ ((ofV q.v s s).2 = 0 /\ belongP q.kind part /\ (rvP r /\ ¬ (r.x0 = 0 /\ r.y0 = 0 /\ r.x1 = 0 /\ r.y1 = 0)) /\ 0 <= r.x0 /\ 0 <= r.y0 /\ r.x1 <= 128 /\ r.y1 <= 128)) (fun l0 => ?_) (fun l0 => ?_)
 ·refine sR <| pu1 <| zR <| retT [I 0] ?_
  have z0 := (d0.drops [0, 0, 0, 0])
  have hz : scrV q.v s part r = 0 := scr_no (fun h => l0 ⟨h.1, h.2.1, ⟨by have := h.2.2; unfold inP at this; unfold rvP cooP; omega, by have := h.2.2; unfold inP at this; omega⟩, by have := h.2.2; unfold inP at this; omega⟩)
  exact ⟨by rw [hz]; rfl, z0⟩
 refine kT <| seqE ?_
 obtain ⟨hof, hbl, hrv, hi0⟩ := Classical.not_not.1 l0
 have hrv1 := hrv.1; have hrv2 := hrv.2; unfold rvP cooP at hrv1; have hin : inP r := by unfold inP; omega
 have hk := of_bytOK hof; have hcb := cells_bd (h := s.h) hk hin; have hk0 := hk; unfold bytOK at hk0; simp only [Stage.v] at hk0; have hnc := hn_q_col; rw [hnc] at hk0; have hr0 := hin; unfold inP at hr0; have hr := hin
 refine drawE [] [(1, ⟨c0, 2, none⟩, I r.x1), (3, ⟨c0, 0, none⟩, I r.x0), (6, ⟨c0, 3, none⟩, I r.y1), (8, ⟨c0, 1, none⟩, I r.y0)] [(true, [0, 2, 5, 7]), (true, [1]), (true, [3]), (true, [4]), (true, [10]), (true, [6]), (true, [8]), (true, [9]), (true, [11])] rfl kr ⟨cI d0 1, cI d0 1, cI d0 1, cI d0 1, trivial⟩ ?_
 have a0 := d0.drew
 refine wU [0, 2, 5, 7] <| wLd (I r.x1) 0 isAgg3 <| wLd (I r.x0) 1 isAgg3 <| wSub r.x1 r.x0 <| wU [10] <| wLd (I r.y1) 2 isAgg3 <| wLd (I r.y0) 3 isAgg3 <| wSub r.y1 r.y0 <| wU [11] <| wN <| tN <| sR <| pu1 <| nT <| cutA (γ := Unit) (fun _ => [(13, I (cellsV q.v s.h r))]) (fun _ w => Sat W w ([(m0, .cells #[I ((ofV q.v s s).1.w), I ((ofV q.v s s).1.h), I ((ofV q.v s s).1.max_)] 54 (0, 0))] :: [(c0, .cells (encRct r).toArray 44 (0, 0))] :: [(i0, .cells #[I s.w, I s.h, I s.max_] 54 (0, 0))] :: [(h0, .cells (encStage q).toArray 38 (0, 0))] :: H :: F)) ?_ ?_
 rotate_left
 ·rintro _ ρ _ a1
  exact sR <| pu1 <| sMul 8 (cellsV q.v s.h r) <| cR call56 (r1_align (8 * (cellsV q.v s.h r)) 16 1099511627776 (od) a1.flat) fun _ b1 => pu5 <| zS <| pu2 <| zE <| retT [I (alnX (8 * (cellsV q.v s.h r)) 16 1099511627776)] <| ⟨by unfold scrV; rw [if_pos ⟨hof, hbl, hin⟩]; unfold bytV; rw [<- aln_ok (l := 1099511627776) om om]; rfl, (b1.drops [0, 0, 0, 0])⟩
 refine sR <| pu1 <| sL a0 3 0 (I q.kind) (isAgg3 _) <| nT <| blockE <| sR <| pu2 <| nT <| cE q.kind 1 (fun d1 => ?_) (fun d1 => ?_)
 ·refine rE <| pu2 <| sL a0 3 6 (I q.kW) (isAgg3 _) <| sAdd (r.x1 - r.x0) q.kW <| sSub ((r.x1 - r.x0) + q.kW) 1 <| pu2 <| sL a0 3 7 (I q.kH) (isAgg3 _) <| sAdd (r.y1 - r.y0) q.kH <| sSub ((r.y1 - r.y0) + q.kH) 1 ?_
  have hml1 := mul_bd (a := (((r.x1 - r.x0) + q.kW) - 1)) (b := (((r.y1 - r.y0) + q.kH) - 1)) (A := 300) (B := 300) om om
  refine sMul (((r.x1 - r.x0) + q.kW) - 1) (((r.y1 - r.y0) + q.kH) - 1) <| pu1 <| nB ?_
  exact ⟨(), ⟨(Eq.trans (b := I ((((r.x1 - r.x0) + q.kW) - 1) * (((r.y1 - r.y0) + q.kH) - 1))) kr (congrArg (fun z => Value.int .i64 z) (show ((((r.x1 - r.x0) + q.kW) - 1) * (((r.y1 - r.y0) + q.kH) - 1)) = cellsV q.v s.h r from by unfold cellsV; rw [if_pos (show q.v.kind = 1 from by simp only [Stage.v]; omega)]; rfl))), trivial⟩, a0⟩
 refine sR <| pu2 <| nT <| cE q.kind 2 (fun e1 => ?_) (fun e1 => ?_)
 ·refine rE <| pu3 <| sL a0 3 10 (.slice q.col.a q.col.n q.col.k) (isAgg22 _) <| pu1 <| sAdd (r.y1 - r.y0) (q.col.n : Int) <| sSub ((r.y1 - r.y0) + (q.col.n : Int)) 1 ?_
  have hml2 := mul_bd (a := (r.x1 - r.x0)) (b := (((r.y1 - r.y0) + (q.col.n : Int)) - 1)) (A := 300) (B := 300) om om
  refine sMul (r.x1 - r.x0) (((r.y1 - r.y0) + (q.col.n : Int)) - 1) <| pu1 <| nB ?_
  exact ⟨(), ⟨(Eq.trans (b := I ((r.x1 - r.x0) * (((r.y1 - r.y0) + (q.col.n : Int)) - 1))) kr (congrArg (fun z => Value.int .i64 z) (show ((r.x1 - r.x0) * (((r.y1 - r.y0) + (q.col.n : Int)) - 1)) = cellsV q.v s.h r from by unfold cellsV; rw [if_neg (show ¬ q.v.kind = 1 from by simp only [Stage.v]; omega), if_pos (show q.v.kind = 2 from by simp only [Stage.v]; omega), show q.v.col.length = q.col.n from hnc]))), trivial⟩, a0⟩
 refine sR <| pu2 <| nT <| cE q.kind 3 (fun f1 => ?_) (fun f1 => ?_)
 ·refine rE <| pu1 <| lA a0 3 0 18 (isAgg38 _) (sizeOf38 _) <| pu1 <| sL a0 2 1 (I s.h) (isAgg3 _) <| pu1 <| sL a0 1 1 (I r.y0) (isAgg3 _) <| pu1 <| sL a0 1 3 (I r.y1) (isAgg3 _) <| cX call73 (r16_rows q s.h r.y0 r.y1 ⟨(RdT.flat (hq.weights.up 4 (by rfl))), (RdT.flat (hq.row.up 4 (by rfl))), (RdT.flat (hq.col.up 4 (by rfl))), (RdT.flat (hq.x.up 4 (by rfl))), (fun z hz => (hq.xD z hz).of_mem (mem_flat1 4 (by rfl))), (RdT.flat (hq.y.up 4 (by rfl))), (fun z hz => (hq.yD z hz).of_mem (mem_flat1 4 (by rfl))), (RdT.flat (hq.ops.up 4 (by rfl)))⟩ a0.flat) ?_
  rintro _ _ ⟨_, f0, _, _, rfl, g0, g1⟩
  have i1 := g1.unflat1
  have hn_az_41 := g0.len; have hl_az_41 := g0.le
  refine pu1 ?_
  have hrl := need_len (s := q.v) (n := s.h) (a := r.y0) (b := r.y1) (size := if q.v.kind = 2 then q.v.col.length else q.v.kH) (t := q.v.y); have hrn := (g0).len; unfold rowsV at hrn; have hml9 := mul_bd (a := (r.x1 - r.x0)) (b := (f0 : Int)) (A := 300) (B := 300) om om
  refine sMul (r.x1 - r.x0) (f0 : Int) <| pu1 <| nB ?_
  have j1 := (i1.dropAt 0 rfl)
  exact ⟨(), ⟨(Eq.trans (b := I ((r.x1 - r.x0) * (f0 : Int))) kr (congrArg (fun z => Value.int .i64 z) (show ((r.x1 - r.x0) * (f0 : Int)) = cellsV q.v s.h r from by unfold cellsV; rw [if_neg (show ¬ q.v.kind = 1 from by simp only [Stage.v]; omega), if_neg (show ¬ q.v.kind = 2 from by simp only [Stage.v]; omega), if_pos (show q.v.kind = 3 from by simp only [Stage.v]; omega), ((g0).len)]))), trivial⟩, j1⟩
 refine sR <| pu2 <| nT <| cE q.kind 4 (fun k1 => ?_) (fun k1 => ?_)
 ·refine rE <| pu1 <| sL a0 3 15 (I q.bins) (isAgg3 _) <| pu1 <| nB ?_
  exact ⟨(), ⟨(Eq.trans (b := I q.bins) kr (congrArg (fun z => Value.int .i64 z) (show q.bins = cellsV q.v s.h r from by unfold cellsV; rw [if_neg (show ¬ q.v.kind = 1 from by simp only [Stage.v]; omega), if_neg (show ¬ q.v.kind = 2 from by simp only [Stage.v]; omega), if_neg (show ¬ q.v.kind = 3 from by simp only [Stage.v]; omega), if_pos (show q.v.kind = 4 from by simp only [Stage.v]; omega)]; rfl))), trivial⟩, a0⟩
 refine sR <| pu2 <| nT <| cE q.kind 5 (fun l1 => ?_) (fun l1 => ?_)
 rotate_left
 ·refine rE <| pu2 <| nB ?_
  exact ⟨(), ⟨(Eq.trans (b := I (r.x1 - r.x0)) kr (congrArg (fun z => Value.int .i64 z) (show (r.x1 - r.x0) = cellsV q.v s.h r from by unfold cellsV; rw [if_neg (show ¬ q.v.kind = 1 from by simp only [Stage.v]; omega), if_neg (show ¬ q.v.kind = 2 from by simp only [Stage.v]; omega), if_neg (show ¬ q.v.kind = 3 from by simp only [Stage.v]; omega), if_neg (show ¬ q.v.kind = 4 from by simp only [Stage.v]; omega), if_neg (show ¬ q.v.kind = 5 from by simp only [Stage.v]; omega)]))), trivial⟩, a0⟩
 refine rE <| pu2 <| sAdd (r.x1 - r.x0) (r.y1 - r.y0) <| sAdd ((r.x1 - r.x0) + (r.y1 - r.y0)) 1 <| pu1 <| nB ?_
 exact ⟨(), ⟨(Eq.trans (b := I (((r.x1 - r.x0) + (r.y1 - r.y0)) + 1)) kr (congrArg (fun z => Value.int .i64 z) (show (((r.x1 - r.x0) + (r.y1 - r.y0)) + 1) = cellsV q.v s.h r from by unfold cellsV; rw [if_neg (show ¬ q.v.kind = 1 from by simp only [Stage.v]; omega), if_neg (show ¬ q.v.kind = 2 from by simp only [Stage.v]; omega), if_neg (show ¬ q.v.kind = 3 from by simp only [Stage.v]; omega), if_neg (show ¬ q.v.kind = 4 from by simp only [Stage.v]; omega), if_pos (show q.v.kind = 5 from by simp only [Stage.v]; omega)]))), trivial⟩, a0⟩
theorem tapsCode_side {l:List TapV} {n:Int} (h:tapsCode l n=0):1<=(l.length:Int)/\(l.length:Int)<=128:=by
  unfold tapsCode at h
  split at h
  · omega
  · omega
theorem ofV_sz {q:StageV} {s t:Shape} (h:(ofV q s t).2=0):szP (ofV q s t).1:=by
 unfold ofV at h⊢
 split at h
 ·rename_i h1
  rw [if_pos h1]
  split at h
  ·rename_i h2
   rw [if_pos h2]
   split at h
   ·rename_i h3
    rw [if_pos h3]
    split at h
    ·rename_i h4
     rw [if_pos h4]
     have hs:=h2.1
     unfold szP at hs
     clear h h1 h2 h3
     unfold kernelV at h4⊢
     split at h4
     ·rename_i k;rw [if_pos k];unfold convCode at h4;unfold szP
      (repeat' split at h4)<;>first|(dsimp only;omega)|(exfalso;simp at h4;done)|(exfalso;omega)
     ·rename_i k1;rw [if_neg k1]
      split at h4
      ·rename_i k;rw [if_pos k];unfold sepCode at h4;unfold szP
       (repeat' split at h4)<;>first|(dsimp only;omega)|(exfalso;simp at h4;done)|(exfalso;omega)
      ·rename_i k2;rw [if_neg k2]
       split at h4
       ·rename_i k;rw [if_pos k];unfold resCode at h4;unfold szP
        split at h4
        ·rename_i e1;split at h4
         ·rename_i e2
          have l1:=tapsCode_side e1;have l2:=tapsCode_side e2
          (repeat' split at h4)<;>first|(dsimp only;omega)|(exfalso;simp at h4;done)|(exfalso;omega)
         ·rename_i e2;exact absurd h4 e2
        ·rename_i e1;exact absurd h4 e1
       ·rename_i k3;rw [if_neg k3]
        split at h4
        ·rename_i k;rw [if_pos k];unfold szP
         split at h4
         ·rename_i k5;rw [if_pos k5];have:=mul_bd (a:=s.w-1) (b:=s.h-1) (A:=s.w-1) (B:=s.h-1) om om
          have e:(s.w-1)*(s.h-1)=s.w*s.h-s.w-s.h+1:=by rw [Int.sub_mul,Int.mul_sub];omega
          dsimp only;omega
         ·exfalso;simp at h4
        ·rename_i k4;rw [if_neg k4]
         split at h4
         ·rename_i k;rw [if_pos k];unfold szP
          split at h4
          ·rename_i k5;rw [if_pos k5];have h6:=of_decide_eq_true k5;have h7:mostV s.w s.h s.max_=s.w*s.h*s.max_:=by unfold mostV;rw [if_pos k5]
           have h8:0<s.w*s.h:=Int.mul_pos om om
           have h9:0<s.w*s.h*s.max_:=Int.mul_pos h8 om
           dsimp only;rw [h7];omega
          ·exfalso;simp at h4
         ·rename_i k5;rw [if_neg k5];unfold szP
          split at h4
          ·rename_i k6;rw [if_pos k6];unfold pwCode at k6
           split at h4
           ·exfalso;simp at h4
           ·rename_i k7;rw [if_neg k7]
            split at k6
            ·split at k6
             ·dsimp only;omega
             ·exfalso;omega
            ·exfalso;rename_i k8;exact k8 k6
          ·rename_i k6;exact absurd h4 k6
    ·rename_i h4;exact absurd h h4
   ·exfalso;simp at h
  ·exfalso;simp at h
 ·exfalso;simp at h
def upFrom:Int->Nat->List Int
  |_,0=>[]
  |k,n+1=>k::upFrom (k+1) n
theorem mem_upFrom:∀{n:Nat} {k x:Int},x∈upFrom k n↔k<=x/\x<k+n
  |0,k,x=>by simp [upFrom];try omega
  |n+1,k,x=>by
    simp only [upFrom,List.mem_cons,mem_upFrom (n:=n)]
    omega
theorem upFrom_snoc:∀{n:Nat} {k:Int},upFrom k n++[k+n]=upFrom k (n+1)
  |0,k=>by simp [upFrom]
  |n+1,k=>by
    have h:=upFrom_snoc (n:=n) (k:=k+1)
    rw [upFrom,List.cons_append,upFrom]
    congr 1
    rw [<-h]
    congr 2
    omega
def ordered (ni:Int) (S:List StageV):Prop:=∀(m:Nat) (s:StageV),S[m]?=some s->∀x∈srcs s,0<=x/\x<ni+m
theorem pick_up {ni : Int} {S : List StageV} (ho : ordered ni S) {m : Nat} (hm : m < S.length) : ∀ (d i : Nat), i + d = m -> ordPick ni (upFrom ni m) (S.drop i) i = ni + m
 | 0, i, h => by
  have hi : i < S.length := by omega
  rw [List.drop_eq_getElem_cons hi, ordPick, if_pos]
  ·omega
  ·have h1 : ¬ (ni + (i : Int)) ∈ upFrom ni m := by rw [mem_upFrom]; omega
   have h2 : ordOK ni (upFrom ni m) S[i] = true := by
    unfold ordOK
    rw [List.all_eq_true]
    intro x hx
    have := ho i S[i] (List.getElem?_eq_getElem hi) x hx
    refine decide_eq_true ?_
    rw [mem_upFrom]
    omega
   simp [h1, h2]
 | d + 1, i, h => by
  have hi : i < S.length := by omega
  have ih := pick_up ho hm d (i + 1) om
  rw [List.drop_eq_getElem_cons hi, ordPick, if_neg]
  ·exact ih
  ·have h1 : (ni + (i : Int)) ∈ upFrom ni m := by rw [mem_upFrom]; omega
   simp [h1]
theorem ordGo_up {ni:Int} {S:List StageV} (hn:0<=ni) (ho:ordered ni S):∀(k m:Nat),m+k=S.length->ordGo ni S k (upFrom ni m)=some (upFrom ni S.length)
  |0,m,h=>by rw [ordGo,<-h];rfl
  |k+1,m,h=>by
    have hp:=pick_up ho (show m<S.length by omega) m 0 (by omega)
    rw [List.drop_zero] at hp
    have hp2:ordPick ni (upFrom ni m) S 0=ni+m:=hp
    rw [ordGo,hp2,if_neg (by omega),upFrom_snoc]
    exact ordGo_up hn ho k (m+1) (by omega)
def stOf (out:List Shape) (s:StageV):Shape×Int:=ofV s (shpAt out s.a) (if twoP s then shpAt out s.b else ⟨0,0,0⟩)
def runS:List Shape->List StageV->Option (List Shape)
  |out,[]=>some out
  |out,s::l=>if (stOf out s).2=0 then runS (out++[(stOf out s).1]) l else none
theorem runS_app:∀(S T:List StageV) (out l:List Shape),runS out S=some l->runS out (S++T)=runS l T
  |[],T,out,l,h=>by simp only [runS,Option.some.injEq] at h;subst h;rfl
  |s::S,T,out,l,h=>by
    rw [List.cons_append,runS]
    rw [runS] at h
    split at h
    · rename_i hc
      rw [if_pos hc]
      exact runS_app S T _ l h
    · cases h
theorem runS_sz:∀(S:List StageV) (out l:List Shape),(∀x∈out,szP x)->runS out S=some l->(∀x∈l,szP x)/\l.length=out.length+S.length
  |[],out,l,ho,h=>by simp only [runS,Option.some.injEq] at h;subst h;exact ⟨ho,by simp⟩
  |s::S,out,l,ho,h=>by
    rw [runS] at h
    split at h
    · rename_i hc
      have h2:=runS_sz S _ l (fun x hx=>by
        rcases List.mem_append.1 hx with h1|h1
        · exact ho x h1
        · simp only [List.mem_singleton] at h1;rw [h1];exact ofV_sz hc) h
      refine ⟨h2.1,?_⟩
      rw [h2.2];simp;omega
    · cases h
theorem shpAt_app {out z:List Shape} {i:Int} (h0:0<=i) (h:i<out.length):shpAt (out++z) i=shpAt out i:=by
  unfold shpAt
  rw [List.getElem?_append_left (by omega)]
theorem shpGo_run {ni : Nat} {S : List StageV} (ho : ordered ni S) : ∀ (T : List StageV) (m : Nat) (cur : List Shape), S.drop m = T -> cur.length = ni + m ->
  (∀ l, runS cur T = some l -> shpGo ni S (upFrom (ni + m) T.length) (cur ++ List.replicate T.length ⟨0, 0, 0⟩) = (l, 0, 0)) /\
  (runS cur T = none -> (shpGo ni S (upFrom (ni + m) T.length) (cur ++ List.replicate T.length ⟨0, 0, 0⟩)).2.2 ≠ 0)
 | [], m, cur, hd, hc => by
  refine ⟨fun l h => ?_, fun h => by cases h⟩
  simp only [runS, Option.some.injEq] at h
  subst h
  simp [upFrom, shpGo]
 | s :: T, m, cur, hd, hc => by
  have hm : m < S.length := by
   have := congrArg List.length hd
   simp at this; omega
  have hs : S[m]? = some s := by
   rw [List.drop_eq_getElem_cons hm] at hd
   rw [List.getElem?_eq_getElem hm]
   exact congrArg some (List.cons.inj hd).1
  have hT : S.drop (m + 1) = T := by
   rw [List.drop_eq_getElem_cons hm] at hd
   exact (List.cons.inj hd).2
  have hsrc := ho m s hs
  have ha : 0 <= s.a /\ s.a < (ni : Int) + m := hsrc s.a (by unfold srcs; split <;> simp)
  have hb : twoP s -> 0 <= s.b /\ s.b < (ni : Int) + m := fun h => hsrc s.b (by unfold srcs; rw [if_pos h]; simp)
  have hstg : stgAt S ni ((ni : Int) + m) = s := by
   unfold stgAt
   rw [show ((ni : Int) + m - ni).toNat = m by omega, hs]; rfl
  have hst : shpStep ni S ((ni : Int) + m) (cur ++ List.replicate (T.length + 1) ⟨0, 0, 0⟩) = stOf cur s := by
   unfold shpStep stOf
   rw [hstg, shpAt_app ha.1 om]
   by_cases h : twoP s
   ·rw [if_pos h, if_pos h, shpAt_app (hb h).1 (by have := (hb h).2; omega)]
   ·rw [if_neg h, if_neg h]
  simp only [List.length_cons, upFrom, shpGo, hst]
  by_cases hok : (stOf cur s).2 = 0
  ·rw [if_pos hok]
   have hset : (cur ++ List.replicate (T.length + 1) (⟨0, 0, 0⟩ : Shape)).set ((ni : Int) + m).toNat (stOf cur s).1 = (cur ++ [(stOf cur s).1]) ++ List.replicate T.length ⟨0, 0, 0⟩ := by
    rw [List.set_append_right _ _ om, show ((ni : Int) + m).toNat - cur.length = 0 by omega, List.replicate_succ, List.set_cons_zero]
    simp
   rw [hset]
   have ih := shpGo_run ho T (m + 1) (cur ++ [(stOf cur s).1]) hT (by simp; omega)
   rw [show ((ni : Int) + ((m + 1 : Nat) : Int)) = (ni : Int) + m + 1 by omega] at ih
   refine ⟨fun l h => ih.1 l ?_, fun h => ih.2 ?_⟩
   ·rw [runS, if_pos hok] at h; exact h
   ·rw [runS, if_pos hok] at h; exact h
  ·rw [if_neg hok]
   refine ⟨fun l h => ?_, fun _ => hok⟩
   rw [runS, if_neg hok] at h; cases h
def jobOf (I:List PlaneV) (S:List StageV) (p:Int):JobV:=⟨I,S,[0],p⟩
structure Good (I:List PlaneV) (S:List StageV) (p:Int):Prop where
  pl:I.all planeOK=true
  ni:1<=I.length/\I.length<=2
  ns:S.length<=8
  pr:0<=p/\p<4
  od:ordered I.length S
theorem shp_run {I:List PlaneV} {S:List StageV} {p:Int} (h:Good I S p) (h1:1<=S.length):
  (∀l,runS (I.map shpOf) S=some l->shpV (jobOf I S p)=(l,0,0))/\(runS (I.map shpOf) S=none->(shpV (jobOf I S p)).2.2≠0):=by
 have hchk:chkCode (jobOf I S p)=0:=by
  unfold chkCode jobOf
  dsimp only
  have hn:=h.ni;have hs:=h.ns;have hp:=h.pr
  rw [if_pos (by simp only [List.length_singleton];omega),if_pos hp,if_pos,if_pos]
  ·unfold inR;simp;omega
  ·rw [List.all_eq_true]
   intro s hs2
   obtain ⟨m,hm⟩:=List.getElem?_of_mem hs2
   unfold inR
   rw [List.all_eq_true]
   intro x hx
   have:=h.od m s hm x hx
   have hml:m<S.length:=(List.getElem?_eq_some_iff.1 hm).1
   exact decide_eq_true om
 have hord:ordV (jobOf I S p)=(upFrom I.length S.length,0):=by
  unfold ordV
  rw [if_pos hchk]
  have:=ordGo_up (ni:=I.length) om h.od S.length 0 om
  dsimp only [jobOf]
  rw [show ([]:List Int)=upFrom I.length 0 from rfl,this]
 have hr:=shpGo_run (ni:=I.length) h.od S 0 (I.map shpOf) (by simp) (by simp)
 have hv:shpV (jobOf I S p)=shpGo I.length S (upFrom I.length S.length) (I.map shpOf++List.replicate S.length ⟨0,0,0⟩):=by
  unfold shpV
  rw [hord,if_pos rfl]
  show (if I.all planeOK=true then _ else _)=_
  rw [if_pos h.pl];rfl
 rw [hv]
 simpa using hr
theorem shpOf_sz {I:List PlaneV} (h:I.all planeOK=true):∀x∈I.map shpOf,szP x:=by
  intro x hx
  obtain ⟨q,hq,rfl⟩:=List.mem_map.1 hx
  have h1:=List.all_eq_true.1 h q hq
  unfold planeOK at h1
  rw [Bool.and_eq_true] at h1
  have h2:=(of_decide_eq_true h1.1).1
  unfold sizeP at h2
  unfold szP shpOf
  exact h2
def safe (a:Int):StageV:=⟨6,a,-1,false,0,0,0,0,[],[],[],0,0,[],[],0,[⟨0,0⟩],255⟩
theorem ofV_safe {a:Int} {s:Shape} (hs:szP s):(ofV (safe a) s ⟨0,0,0⟩).2=0:=by
 have hf:fieldsP (safe a):=by unfold fieldsP safe;simp
 have ht:¬twoP (safe a):=by unfold twoP safe;simp
 have hso:=hs
 unfold szP at hs
 have hops:opsCode (safe a).ops false=0/\opsCode (safe a).ops true=0:=by constructor<;>rfl
 have hacc:nextOK ⟨0,0⟩ (ivX ⟨0,0⟩ []) (ivY ⟨0,0⟩ []) s.max_ 1:=by
  unfold nextOK nextB nextV
  rw [if_neg (by decide),if_pos rfl]
  refine ⟨rfl,by dsimp only;omega,by dsimp only;omega⟩
 have hiv:(ivRes (safe a).ops s.max_ 1).2.2=0:=by
  unfold ivRes
  rw [if_pos hops.2,if_pos om]
  have:ivGo s.max_ 1 (safe a).ops []=some ([]++[nextV ⟨0,0⟩ (ivX ⟨0,0⟩ []) (ivY ⟨0,0⟩ []) s.max_ 1]):=by
   show ivGo s.max_ 1 [⟨0,0⟩] []=_
   rw [ivGo,if_pos hacc];rfl
  rw [this]
 have hpw:pwCode (safe a).ops (decide ((safe a).kind=6/\¬(safe a).b=-1)) s.max_ 0 (safe a).max_=0:=by
  have hd:decide ((safe a).kind=6/\¬(safe a).b=-1)=false:=decide_eq_false (by unfold safe;simp)
  rw [hd];unfold pwCode
  rw [if_pos hops.1,if_pos (by unfold safe;simp)]
  simpa using hiv
 have hk:(kernelV (safe a) s ⟨0,0,0⟩).2=0:=by
  unfold kernelV
  rw [if_neg (by unfold safe;simp),if_neg (by unfold safe;simp),if_neg (by unfold safe;simp),if_neg (by unfold safe;simp),if_neg (by unfold safe;simp),if_pos hpw,if_neg (by unfold safe;simp)]
 unfold ofV
 rw [if_pos hf,if_pos ⟨hso, .inl ht⟩,if_pos (.inl (by unfold safe;simp)),if_pos hk]
theorem shpAt_sz {out:List Shape} {i:Int} (h:∀x∈out,szP x) (h0:0<=i) (h1:i<out.length):szP (shpAt out i):=by
  have hi:i.toNat<out.length:=by omega
  unfold shpAt
  rw [List.getElem?_eq_getElem hi]
  exact h _ (List.getElem_mem hi)
theorem ordered_snoc {ni:Int} {S:List StageV} {s:StageV} (h:ordered ni S) (hs:∀x∈srcs s,0<=x/\x<ni+S.length):ordered ni (S++[s]):=by
  intro m t ht
  by_cases hm:m<S.length
  · rw [List.getElem?_append_left hm] at ht
    exact h m t ht
  · rw [List.getElem?_append_right (by omega)] at ht
    have hm2:m-S.length=0:=by
      by_cases h0:m-S.length=0
      · exact h0
      · rw [List.getElem?_eq_none (by simp;omega)] at ht;cases ht
    rw [hm2] at ht
    simp at ht
    subst ht
    intro x hx
    have:=hs x hx
    omega
theorem Good.snoc {I:List PlaneV} {S:List StageV} {p:Int} {s:StageV} (h:Good I S p) (hl:S.length+1<=8) (hs:∀x∈srcs s,0<=x/\x<(I.length:Int)+S.length):Good I (S++[s]) p:=
  ⟨h.pl,h.ni,by simp;omega,h.pr,ordered_snoc h.od hs⟩
theorem good_safe {I:List PlaneV} {S:List StageV} {p:Int} {l:List Shape} {a:Int} (h:Good I S p) (hr:runS (I.map shpOf) S=some l) (ha:0<=a/\a<(I.length:Int)+S.length):∃l',runS (I.map shpOf) (S++[safe a])=some l':=by
  have h2:=runS_sz S _ l (shpOf_sz h.pl) hr
  rw [runS_app S [safe a] _ l hr,runS]
  have hst:(stOf l (safe a)).2=0:=by
    unfold stOf
    rw [if_neg (by unfold twoP safe;simp)]
    refine ofV_safe (shpAt_sz h2.1 ha.1 ?_)
    show a<_
    have:=h2.2
    simp at this
    omega
  rw [if_pos hst]
  exact ⟨_,rfl⟩
end Go.Proofs.YtdingplbadblpaaGreat
