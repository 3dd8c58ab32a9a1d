import Derived.Test.YtdingplbadblpaaQ1Ab
import Derived.WalkKit
import Derived.Deep.Quiet
import Derived.KernelRfl
import Derived.Laws.BytesString
import Derived.Laws.Shifts
import Derived.Laws.IdiomStrings
import Derived.Test.YtdingplbadblpaaProg
import Derived.Shelf.SortG.Plain
import Derived.Shelf.SortG.SortNone
import Derived.Shelf.SlicesG.CompactI
import Derived.Test.YtdingplbadblpaaQ1La
namespace Go.Proofs.Ytdingplbadblpaa
open Go Go.E Go.Proofs.Try
set_option linter.all false
set_option maxRecDepth 100000
set_option maxHeartbeats 2000000
variable {W w:World} {H:Chunk} {F:List Chunk}
def bytOK (s:StageV):Prop:=(1<=s.kind/\s.kind<=6)/\(¬s.kind=1\/((1<=s.kW/\s.kW<=9)/\1<=s.kH/\s.kH<=9))/\(¬s.kind=2\/(1<=(s.col.length:Int)/\(s.col.length:Int)<=9))/\(¬s.kind=4\/(1<=s.bins/\s.bins<=128))
theorem of_bytOK {q:StageV} {s t:Shape} (h:(ofV q s t).2=0):bytOK q:=by
 unfold ofV at h
 split at h
 ·rename_i hf
  have hk:1<=q.kind/\q.kind<=6:=by unfold fieldsP at hf;omega
  refine ⟨hk,?_⟩
  split at h
  ·split at h
   ·split at h
    ·rename_i h4
     unfold kernelV at h4
     clear h
     split at h4
     ·rename_i k
      unfold convCode at h4
      dsimp only at h4
      split at h4
      ·omega
      ·omega
     ·split at h4
      ·rename_i k
       unfold sepCode at h4
       dsimp only at h4
       split at h4
       ·omega
       ·omega
      ·split at h4
       ·omega
       ·split at h4
        ·split at h4
         ·omega
         ·simp at h4
        ·omega
    ·rename_i h4;exact absurd h h4
   ·simp at h
  ·simp at h
 ·simp at h
theorem cells_bd {s:StageV} {h:Int} {r:Rct} (hk:bytOK s) (hr:inP r):0<=cellsV s h r/\cellsV s h r<=20000:=by
 obtain ⟨h0,h1,h2,h4⟩:=hk
 unfold inP at hr
 unfold cellsV
 split
 ·exact mul_bd (A:=136) (B:=136) om om|>.imp id (fun h=>by omega)
 ·split
  ·exact mul_bd (A:=136) (B:=136) om om|>.imp id (fun h=>by omega)
  ·split
   ·have hl:=need_len (s:=s) (n:=h) (a:=r.y0) (b:=r.y1) (size:=if s.kind=2 then s.col.length else s.kH) (t:=s.y)
    exact mul_bd (A:=136) (B:=136) om (by unfold rowsV;omega)|>.imp id (fun h=>by omega)
   ·split
    ·omega
    ·split<;>omega
theorem scr_no {s:StageV} {m:Shape} {p:Int} {r:Rct} (h:¬((ofV s m m).2=0/\belongP s.kind p/\inP r)):scrV s m p r=0:=by unfold scrV;rw [if_neg h]
theorem p20_belongs (x : Int) (p : Int) (hS : Sat W w (H :: F)) :
  Ro prog 23 #[I x, I p] (.bool (decide (belongP x p))) W w (H :: F) := by
 refine callsA 15 func23 rfl <| sR <| pu1 <| zQ <| pu2 <| nT <| cE x 4 (fun a0 => ?_) (fun a0 => ?_)
 rotate_left
 ·refine kS <| pu3 <| zE <| retT [.bool ((p : Int) == 0)] <| ⟨rB ?_, hS⟩
  first | rfl | (rw [Bool.eq_iff_iff]; simp only [decide_eq_true_eq, beq_iff_eq, bne_iff_ne, ne_eq, Bool.not_eq_true', decide_eq_false_iff_not, true_iff, false_iff, iff_true, iff_false, Bool.false_eq_true, Bool.and_eq_true, Bool.or_eq_true, gt_iff_lt, ge_iff_le, belongP] <;> omega) | (rw [Bool.eq_iff_iff]; simp [belongP, *] <;> omega) | (simp_all; done)
 refine sR <| pu3 <| sE 9 p 1 (fun b0 => ?_) (fun b0 => ?_)
 ·refine pu4 <| zR <| retT [.bool true] <| ⟨rB ?_, hS⟩
  first | rfl | (rw [Bool.eq_iff_iff]; simp only [decide_eq_true_eq, beq_iff_eq, bne_iff_ne, ne_eq, Bool.not_eq_true', decide_eq_false_iff_not, true_iff, false_iff, iff_true, iff_false, Bool.false_eq_true, Bool.and_eq_true, Bool.or_eq_true, gt_iff_lt, ge_iff_le, belongP] <;> omega) | (rw [Bool.eq_iff_iff]; simp [belongP, *] <;> omega) | (simp_all; done)
 refine pu4 <| zR <| retT [.bool ((p : Int) == 2)] <| ⟨rB ?_, hS⟩
 first | rfl | (rw [Bool.eq_iff_iff]; simp only [decide_eq_true_eq, beq_iff_eq, bne_iff_ne, ne_eq, Bool.not_eq_true', decide_eq_false_iff_not, true_iff, false_iff, iff_true, iff_false, Bool.false_eq_true, Bool.and_eq_true, Bool.or_eq_true, gt_iff_lt, ge_iff_le, belongP] <;> omega) | (rw [Bool.eq_iff_iff]; simp [belongP, *] <;> omega) | (simp_all; done)
theorem p20_bytes (q:Stage) (hh:Int) (r:Rct) (hq:Stage.Ok [H] q) (hk:bytOK q.v) (hr:inP r) (hS:Sat W w (H::F)):
  Ro prog 26 #[.agg (encStage q).toArray,I hh, .agg (encRct r).toArray] (I (bytV q.v hh r)) W w (H::F):=by
 have hl_q_weights:=hq.weights.le;have hn_q_weights:=hq.weights.len
 have hl_q_row:=hq.row.le;have hn_q_row:=hq.row.len
 have hl_q_col:=hq.col.le;have hn_q_col:=hq.col.len
 have hl_q_x:=hq.x.le;have hn_q_x:=hq.x.len
 have hl_q_y:=hq.y.le;have hn_q_y:=hq.y.len
 have hl_q_ops:=hq.ops.le;have hn_q_ops:=hq.ops.len
 have hnr:=hn_q_row;have hnc:=hn_q_col;have hcb:=cells_bd (h:=hh) hk hr;have hk0:=hk;unfold bytOK at hk0;simp only [Stage.v] at hk0;rw [hnc] at hk0;have hr0:=hr;unfold inP at hr0
 refine callsA 79 func26 rfl<|sR<|sBox hS (.agg (encStage q).toArray) (encStage q).toArray fun f0 _ g0=>sBox g0 (.agg (encRct r).toArray) (encRct r).toArray fun b0 _ c0=>pu1<|nT<|seqE<|drawE [] [(1,⟨b0,2,none⟩,I r.x1),(3,⟨b0,0,none⟩,I r.x0),(6,⟨b0,3,none⟩,I r.y1),(8,⟨b0,1,none⟩,I r.y0)] [(true,[0,2,5,7]),(true,[1]),(true,[3]),(true,[4]),(true,[10]),(true,[6]),(true,[8]),(true,[9]),(true,[11])] rfl kr ⟨cI c0 0,cI c0 0,cI c0 0,cI c0 0,trivial⟩ ?_
 have a0:=c0.drew
 refine wU [0,2,5,7]<|wLd (I r.x1) 0 isAgg3<|wLd (I r.x0) 1 isAgg3<|wSub r.x1 r.x0<|wU [10]<|wLd (I r.y1) 2 isAgg3<|wLd (I r.y0) 3 isAgg3<|wSub r.y1 r.y0<|wU [11]<|wN<|tN<|sR<|pu1<|nT<|cutA (γ:=Unit) (fun _=>[(9,I (cellsV q.v hh r))]) (fun _ w=>Sat W w ([(b0, .cells (encRct r).toArray 58 (0,0))]::[(f0, .cells (encStage q).toArray 33 (0,0))]::H::F)) ?_ ?_
 rotate_left
 ·rintro _ ρ _ h0
  exact sR<|pu1<|sMul 8 (cellsV q.v hh r)<|cR call44 (p1_align (8*(cellsV q.v hh r)) 16 1048576 (od) h0.flat) fun _ i0=>pu5<|zS<|pu2<|zE<|retT [I (alnX (8*(cellsV q.v hh r)) 16 1048576)]<|⟨by unfold bytV;rw [<-aln_ok (l:=1048576) om om];rfl,(i0.drops [0,0])⟩
 refine sR<|pu1<|sL a0 1 0 (I q.kind) (isAgg3 _)<|nT<|blockE<|sR<|pu2<|nT<|cE q.kind 1 (fun k0=>?_) (fun k0=>?_)
 ·refine rE<|pu2<|sL a0 1 6 (I q.kW) (isAgg3 _)<|sAdd (r.x1-r.x0) q.kW<|sSub ((r.x1-r.x0)+q.kW) 1<|pu2<|sL a0 1 7 (I q.kH) (isAgg3 _)<|sAdd (r.y1-r.y0) q.kH<|sSub ((r.y1-r.y0)+q.kH) 1 ?_
  have hml1:=mul_bd (a:=(((r.x1-r.x0)+q.kW)-1)) (b:=(((r.y1-r.y0)+q.kH)-1)) (A:=300) (B:=300) om om
  refine sMul (((r.x1-r.x0)+q.kW)-1) (((r.y1-r.y0)+q.kH)-1)<|pu1<|nB ?_
  exact ⟨(),⟨(Eq.trans (b:=I ((((r.x1-r.x0)+q.kW)-1)*(((r.y1-r.y0)+q.kH)-1))) kr (congrArg (fun z=>Value.int .i64 z) (show ((((r.x1-r.x0)+q.kW)-1)*(((r.y1-r.y0)+q.kH)-1))=cellsV q.v hh r from by unfold cellsV;rw [if_pos (show q.v.kind=1 from by simp only [Stage.v];omega)];rfl))),trivial⟩,a0⟩
 refine sR<|pu2<|nT<|cE q.kind 2 (fun l0=>?_) (fun l0=>?_)
 ·refine rE<|pu3<|sL a0 1 10 (.slice q.col.a q.col.n q.col.k) (isAgg23 _)<|pu1<|sAdd (r.y1-r.y0) (q.col.n:Int)<|sSub ((r.y1-r.y0)+(q.col.n:Int)) 1 ?_
  have hml2:=mul_bd (a:=(r.x1-r.x0)) (b:=(((r.y1-r.y0)+(q.col.n:Int))-1)) (A:=300) (B:=300) om om
  refine sMul (r.x1-r.x0) (((r.y1-r.y0)+(q.col.n:Int))-1)<|pu1<|nB ?_
  exact ⟨(),⟨(Eq.trans (b:=I ((r.x1-r.x0)*(((r.y1-r.y0)+(q.col.n:Int))-1))) kr (congrArg (fun z=>Value.int .i64 z) (show ((r.x1-r.x0)*(((r.y1-r.y0)+(q.col.n:Int))-1))=cellsV q.v hh r from by unfold cellsV;rw [if_neg (show ¬q.v.kind=1 from by simp only [Stage.v];omega),if_pos (show q.v.kind=2 from by simp only [Stage.v];omega),show q.v.col.length=q.col.n from hnc]))),trivial⟩,a0⟩
 refine sR<|pu2<|nT<|cE q.kind 3 (fun m0=>?_) (fun m0=>?_)
 ·refine rE<|pu1<|lA a0 1 0 18 (isAgg33 _) (sizeOf33 _)<|pu2<|sL a0 0 1 (I r.y0) (isAgg3 _)<|pu1<|sL a0 0 3 (I r.y1) (isAgg3 _)<|cX call43 (p16_rows q hh r.y0 r.y1 (hq.of_mem (mem_flat1 2 (by rfl))) a0.flat) ?_
  rintro _ _ ⟨_,d0,_,_,rfl,e0,n0⟩
  have o0:=n0.unflat1
  have hn_az_14:=e0.len;have hl_az_14:=e0.le
  refine pu1 ?_
  have hrl:=need_len (s:=q.v) (n:=hh) (a:=r.y0) (b:=r.y1) (size:=if q.v.kind=2 then q.v.col.length else q.v.kH) (t:=q.v.y);have hrn:=(e0).len;unfold rowsV at hrn;have hml9:=mul_bd (a:=(r.x1-r.x0)) (b:=(d0:Int)) (A:=300) (B:=300) om om
  refine sMul (r.x1-r.x0) (d0:Int)<|pu1<|nB ?_
  have p0:=(o0.dropAt 0 rfl)
  exact ⟨(),⟨(Eq.trans (b:=I ((r.x1-r.x0)*(d0:Int))) kr (congrArg (fun z=>Value.int .i64 z) (show ((r.x1-r.x0)*(d0:Int))=cellsV q.v hh r from by unfold cellsV;rw [if_neg (show ¬q.v.kind=1 from by simp only [Stage.v];omega),if_neg (show ¬q.v.kind=2 from by simp only [Stage.v];omega),if_pos (show q.v.kind=3 from by simp only [Stage.v];omega),((e0).len)]))),trivial⟩,p0⟩
 refine sR<|pu2<|nT<|cE q.kind 4 (fun q0=>?_) (fun q0=>?_)
 ·refine rE<|pu1<|sL a0 1 15 (I q.bins) (isAgg3 _)<|pu1<|nB ?_
  exact ⟨(),⟨(Eq.trans (b:=I q.bins) kr (congrArg (fun z=>Value.int .i64 z) (show q.bins=cellsV q.v hh r from by unfold cellsV;rw [if_neg (show ¬q.v.kind=1 from by simp only [Stage.v];omega),if_neg (show ¬q.v.kind=2 from by simp only [Stage.v];omega),if_neg (show ¬q.v.kind=3 from by simp only [Stage.v];omega),if_pos (show q.v.kind=4 from by simp only [Stage.v];omega)];rfl))),trivial⟩,a0⟩
 refine sR<|pu2<|nT<|cE q.kind 5 (fun r0=>?_) (fun r0=>?_)
 ·refine rE<|pu2<|sAdd (r.x1-r.x0) (r.y1-r.y0)<|sAdd ((r.x1-r.x0)+(r.y1-r.y0)) 1<|pu1<|nB ?_
  exact ⟨(),⟨(Eq.trans (b:=I (((r.x1-r.x0)+(r.y1-r.y0))+1)) kr (congrArg (fun z=>Value.int .i64 z) (show (((r.x1-r.x0)+(r.y1-r.y0))+1)=cellsV q.v hh r from by unfold cellsV;rw [if_neg (show ¬q.v.kind=1 from by simp only [Stage.v];omega),if_neg (show ¬q.v.kind=2 from by simp only [Stage.v];omega),if_neg (show ¬q.v.kind=3 from by simp only [Stage.v];omega),if_neg (show ¬q.v.kind=4 from by simp only [Stage.v];omega),if_pos (show q.v.kind=5 from by simp only [Stage.v];omega)]))),trivial⟩,a0⟩
 refine sR<|pu2<|nT<|cE q.kind 6 (fun s0=>?_) (fun s0=>?_)
 rotate_left
 ·refine skipE<|bN<|tN ?_
  exact ⟨(),⟨(Eq.trans (b:=I 0) kr (congrArg (fun z=>Value.int .i64 z) (show (0:Int)=cellsV q.v hh r from by exfalso;omega))),trivial⟩,a0⟩
 refine rE<|pu2<|nB ?_
 exact ⟨(),⟨(Eq.trans (b:=I (r.x1-r.x0)) kr (congrArg (fun z=>Value.int .i64 z) (show (r.x1-r.x0)=cellsV q.v hh r from by unfold cellsV;rw [if_neg (show ¬q.v.kind=1 from by simp only [Stage.v];omega),if_neg (show ¬q.v.kind=2 from by simp only [Stage.v];omega),if_neg (show ¬q.v.kind=3 from by simp only [Stage.v];omega),if_neg (show ¬q.v.kind=4 from by simp only [Stage.v];omega),if_neg (show ¬q.v.kind=5 from by simp only [Stage.v];omega)]))),trivial⟩,a0⟩
theorem p20_scratch (q:Stage) (s:Shape) (part:Int) (r:Rct) (hq:Stage.Ok [H] q) (hS:Sat W w (H::F)):
  Ro prog 12 #[.agg (encStage q).toArray, .agg #[I s.w,I s.h,I s.max_],I part, .agg (encRct r).toArray] (I (scrV q.v s part r)) W w (H::F):=by
 have hl_q_weights:=hq.weights.le;have hn_q_weights:=hq.weights.len
 have hl_q_row:=hq.row.le;have hn_q_row:=hq.row.len
 have hl_q_col:=hq.col.le;have hn_q_col:=hq.col.len
 have hl_q_x:=hq.x.le;have hn_q_x:=hq.x.len
 have hl_q_y:=hq.y.le;have hn_q_y:=hq.y.len
 have hl_q_ops:=hq.ops.le;have hn_q_ops:=hq.ops.len
 refine callsA 55 func12 rfl<|sR<|sBox hS (.agg (encStage q).toArray) (encStage q).toArray fun _ _ i0=>sBox i0 (.agg #[I s.w,I s.h,I s.max_]) #[I s.w,I s.h,I s.max_] fun _ _ j0=>sBox j0 (.agg (encRct r).toArray) (encRct r).toArray fun _ _ b0=>pu1<|zQ<|lA b0 2 0 18 (isAgg33 _) (sizeOf33 _)<|lA b0 1 0 3 (isAgg54 _) (sizeOf54 _)<|lA b0 1 0 3 (isAgg54 _) (sizeOf54 _)<|cR call22 (p15_of q s s (hq.of_mem (mem_flat1 3 (by rfl))) b0.flat) fun _ k0=>pu3<|sAlloc k0 zeroValue54 fun _ _ l0=>?_
 refine sTw l0 0 [I ((ofV q.v s s).1.w),I ((ofV q.v s s).1.h),I ((ofV q.v s s).1.max_)] sizeOf54 fun _ c0=>pu1<|zS<|pu2<|nT<|cN ((ofV q.v s s).2) 0 (fun f0=>?_) (fun f0=>?_)
 rotate_left
 ·refine sR<|pu1<|zR<|retT [I 0] ?_
  have m0:=(c0.drops [0,0,0,0])
  have hz:scrV q.v s part r=0:=scr_no (fun h=>by
    obtain ⟨h1,h2,h3⟩:=h
    first|contradiction|omega|(exfalso;unfold inP at h3;omega)|(unfold inP at h3;unfold rvP cooP at*;omega))
  exact ⟨by rw [hz];rfl,m0⟩
 refine kT<|seqE<|sR<|pu1<|sL c0 3 0 (I q.kind) (isAgg3 _)<|pu1<|cR call23 (p20_belongs q.kind part c0.flat) fun _ d0=>pu1<|nT<|cDn (belongP q.kind part) (fun g0=>?_) (fun g0=>?_)
 rotate_left
 ·refine sR<|pu1<|zR<|retT [I 0] ?_
  have n0:=(d0.drops [0,0,0,0])
  have hz:scrV q.v s part r=0:=scr_no (fun h=>by
    obtain ⟨h1,h2,h3⟩:=h
    first|contradiction|omega|(exfalso;unfold inP at h3;omega)|(unfold inP at h3;unfold rvP cooP at*;omega))
  exact ⟨by rw [hz];rfl,n0⟩
 refine kT<|seqE<|sR<|lA d0 1 0 4 (isAgg58 _) (sizeOf58 _)<|cR call24 (p2_empty r d0.flat) fun _ e0=>pu1<|sD 27 (r.x0=0/\r.y0=0/\r.x1=0/\r.y1=0) (fun o0=>?_) (fun o0=>?_)
 ·refine pu4<|zC<|pu1<|zR<|retT [I 0] ?_
  have p0:=(e0.drops [0,0,0,0])
  have hz:scrV q.v s part r=0:=scr_no (fun h=>by
    obtain ⟨h1,h2,h3⟩:=h
    first|contradiction|omega|(exfalso;unfold inP at h3;omega)|(unfold inP at h3;unfold rvP cooP at*;omega))
  exact ⟨by rw [hz];rfl,p0⟩
 refine gY<|lA e0 1 0 4 (isAgg58 _) (sizeOf58 _)<|gY<|cR call25 (p2_valid r e0.flat) fun _ a0=>pu2<|nT<|cDn (rvP r) (fun h0=>?_) (fun h0=>?_)
 rotate_left
 ·refine sR<|pu1<|zR<|retT [I 0] ?_
  have q0:=(a0.drops [0,0,0,0])
  have hz:scrV q.v s part r=0:=scr_no (fun h=>by
    obtain ⟨h1,h2,h3⟩:=h
    first|contradiction|omega|(exfalso;unfold inP at h3;omega)|(unfold inP at h3;unfold rvP cooP at*;omega))
  exact ⟨by rw [hz];rfl,q0⟩
 refine kT<|seqE<|sR<|pu1<|sL a0 1 0 (I r.x0) (isAgg3 _)<|pu2<|sD 35 (r.x0<0) (fun r0=>?_) (fun r0=>?_)
 ·refine pu14<|zC<|pu1<|zR<|retT [I 0] ?_
  have s0:=(a0.drops [0,0,0,0])
  have hz:scrV q.v s part r=0:=scr_no (fun h=>by
    obtain ⟨h1,h2,h3⟩:=h
    first|contradiction|omega|(exfalso;unfold inP at h3;omega)|(unfold inP at h3;unfold rvP cooP at*;omega))
  exact ⟨by rw [hz];rfl,s0⟩
 refine pu1<|gY<|sL a0 1 1 (I r.y0) (isAgg3 _)<|pu3<|sD 40 (r.y0<0) (fun t0=>?_) (fun t0=>?_)
 ·refine pu9<|zC<|pu1<|zR<|retT [I 0] ?_
  have u0:=(a0.drops [0,0,0,0])
  have hz:scrV q.v s part r=0:=scr_no (fun h=>by
    obtain ⟨h1,h2,h3⟩:=h
    first|contradiction|omega|(exfalso;unfold inP at h3;omega)|(unfold inP at h3;unfold rvP cooP at*;omega))
  exact ⟨by rw [hz];rfl,u0⟩
 refine pu1<|gY<|sL a0 1 2 (I r.x1) (isAgg3 _)<|pu3<|sD 45 (r.x1>128) (fun v0=>?_) (fun v0=>?_)
 ·refine pu4<|zC<|pu1<|zR<|retT [I 0] ?_
  have w0:=(a0.drops [0,0,0,0])
  have hz:scrV q.v s part r=0:=scr_no (fun h=>by
    obtain ⟨h1,h2,h3⟩:=h
    first|contradiction|omega|(exfalso;unfold inP at h3;omega)|(unfold inP at h3;unfold rvP cooP at*;omega))
  exact ⟨by rw [hz];rfl,w0⟩
 refine pu1<|gY<|sL a0 1 3 (I r.y1) (isAgg3 _)<|pu2<|nT<|cD (r.y1>128) (fun z0=>?_) (fun z0=>?_)
 ·refine sR<|pu1<|zR<|retT [I 0] ?_
  have a1:=(a0.drops [0,0,0,0])
  have hz:scrV q.v s part r=0:=scr_no (fun h=>by
    obtain ⟨h1,h2,h3⟩:=h
    first|contradiction|omega|(exfalso;unfold inP at h3;omega)|(unfold inP at h3;unfold rvP cooP at*;omega))
  exact ⟨by rw [hz];rfl,a1⟩
 refine kT<|seqE ?_
 have hof:(ofV q.v s s).2=0:=f0
 have hbl:belongP q.kind part:=g0
 have hrv:rvP r:=h0;unfold rvP cooP at hrv
 have hin:inP r:=by unfold inP;omega
 have hok:=of_bytOK hof
 exact rE<|lA a0 3 0 18 (isAgg33 _) (sizeOf33 _)<|pu1<|sL a0 2 1 (I s.h) (isAgg3 _)<|lA a0 1 0 4 (isAgg58 _) (sizeOf58 _)<|cR call26 (p20_bytes q s.h r (hq.of_mem (mem_flat1 4 (by rfl))) hok hin a0.flat) fun _ b1=>pu1<|zE<|retT [I (bytV q.v s.h r)]<|⟨by unfold scrV;rw [if_pos ⟨hof,hbl,hin⟩];rfl,(b1.drops [0,0,0,0])⟩
theorem tapsCode_side {l:List TapV} {n:Int} (h:tapsCode l n=0):1<=(l.length:Int)/\(l.length:Int)<=128:=by
  unfold tapsCode at h
  split at h
  · omega
  · omega
theorem ofV_sz {q:StageV} {s t:Shape} (h:(ofV q s t).2=0):szP (ofV q s t).1:=by
 unfold ofV at h⊢
 split at h
 ·rename_i h1
  rw [if_pos h1]
  split at h
  ·rename_i h2
   rw [if_pos h2]
   split at h
   ·rename_i h3
    rw [if_pos h3]
    split at h
    ·rename_i h4
     rw [if_pos h4]
     have hs:=h2.1
     unfold szP at hs
     clear h h1 h2 h3
     unfold kernelV at h4⊢
     split at h4
     ·rename_i k;rw [if_pos k];unfold convCode at h4;unfold szP
      (repeat' split at h4)<;>first|(dsimp only;omega)|(exfalso;simp at h4;done)|(exfalso;omega)
     ·rename_i k1;rw [if_neg k1]
      split at h4
      ·rename_i k;rw [if_pos k];unfold sepCode at h4;unfold szP
       (repeat' split at h4)<;>first|(dsimp only;omega)|(exfalso;simp at h4;done)|(exfalso;omega)
      ·rename_i k2;rw [if_neg k2]
       split at h4
       ·rename_i k;rw [if_pos k];unfold resCode at h4;unfold szP
        split at h4
        ·rename_i e1;split at h4
         ·rename_i e2
          have l1:=tapsCode_side e1;have l2:=tapsCode_side e2
          (repeat' split at h4)<;>first|(dsimp only;omega)|(exfalso;simp at h4;done)|(exfalso;omega)
         ·rename_i e2;exact absurd h4 e2
        ·rename_i e1;exact absurd h4 e1
       ·rename_i k3;rw [if_neg k3]
        split at h4
        ·rename_i k;rw [if_pos k];unfold szP
         split at h4
         ·rename_i k5;rw [if_pos k5];have:=mul_bd (a:=s.w-1) (b:=s.h-1) (A:=s.w-1) (B:=s.h-1) om om
          have e:(s.w-1)*(s.h-1)=s.w*s.h-s.w-s.h+1:=by rw [Int.sub_mul,Int.mul_sub];omega
          dsimp only;omega
         ·exfalso;simp at h4
        ·rename_i k4;rw [if_neg k4]
         split at h4
         ·rename_i k;rw [if_pos k];unfold szP
          split at h4
          ·rename_i k5;rw [if_pos k5];have h6:=of_decide_eq_true k5;have h7:mostV s.w s.h s.max_=s.w*s.h*s.max_:=by unfold mostV;rw [if_pos k5]
           have h8:0<s.w*s.h:=Int.mul_pos om om
           have h9:0<s.w*s.h*s.max_:=Int.mul_pos h8 om
           dsimp only;rw [h7];omega
          ·exfalso;simp at h4
         ·rename_i k5;rw [if_neg k5];unfold szP
          split at h4
          ·rename_i k6;rw [if_pos k6];unfold pwCode at k6
           split at h4
           ·exfalso;simp at h4
           ·rename_i k7;rw [if_neg k7]
            split at k6
            ·split at k6
             ·dsimp only;omega
             ·exfalso;omega
            ·exfalso;rename_i k8;exact k8 k6
          ·rename_i k6;exact absurd h4 k6
    ·rename_i h4;exact absurd h h4
   ·exfalso;simp at h
  ·exfalso;simp at h
 ·exfalso;simp at h
def ordered (ni:Int) (S:List StageV):Prop:=∀(m:Nat) (s:StageV),S[m]?=some s->∀x∈srcs s,0<=x/\x<ni+m
structure Good (I:List PlaneV) (S:List StageV) (p:Int):Prop where
  pl:I.all planeOK=true
  ni:1<=I.length/\I.length<=2
  ns:S.length<=8
  pr:0<=p/\p<4
  od:ordered I.length S
theorem ordered_snoc {ni:Int} {S:List StageV} {s:StageV} (h:ordered ni S) (hs:∀x∈srcs s,0<=x/\x<ni+S.length):ordered ni (S++[s]):=by
  intro m t ht
  by_cases hm:m<S.length
  · rw [List.getElem?_append_left hm] at ht
    exact h m t ht
  · rw [List.getElem?_append_right (by omega)] at ht
    have hm2:m-S.length=0:=by
      by_cases h0:m-S.length=0
      · exact h0
      · rw [List.getElem?_eq_none (by simp;omega)] at ht;cases ht
    rw [hm2] at ht
    simp at ht
    subst ht
    intro x hx
    have:=hs x hx
    omega
theorem Good.snoc {I:List PlaneV} {S:List StageV} {p:Int} {s:StageV} (h:Good I S p) (hl:S.length+1<=8) (hs:∀x∈srcs s,0<=x/\x<(I.length:Int)+S.length):Good I (S++[s]) p:=
  ⟨h.pl,h.ni,by simp;omega,h.pr,ordered_snoc h.od hs⟩
end Go.Proofs.Ytdingplbadblpaa
namespace Go.E
open Go.Shelf Go.RowKit Go.Sort Go.Proofs
set_option linter.unusedVariables false
set_option linter.unusedSimpArgs false
section
variable {P:Program} {ρ:Ren} {W w:World} {cs:List Chunk} {E:TypeId} {a:Option Addr} {n k:Nat} {xs:List Int} {c:Chunk}
theorem putCells_list {off:Nat} {zs:List Int} {cur:Array Value} (hf:off+zs.length<=cur.size):((putCells (Value.int .i64) off zs.toArray cur).toList.drop off).take zs.length=zs.flatMap Go.E.encI:=by
 have hm:∀l:List Int,l.flatMap Go.E.encI=l.map (Value.int .i64):=by
  intro l
  induction l with
  |nil=>rfl
  |cons x l ih=>rw [List.flatMap_cons,ih];rfl
 rw [hm]
 apply List.ext_getElem?
 intro j
 by_cases hj:j<zs.length
 ·rw [List.getElem?_take,if_pos hj,List.getElem?_drop]
  have hlt:off+j<cur.size:=by omega
  simp only [putCells,Array.toList_mapIdx,List.getElem?_mapIdx,List.getElem?_map,Array.getElem?_toList]
  rw [Array.getElem?_eq_getElem hlt,List.getElem?_eq_getElem hj]
  simp only [Option.map_some,Option.some.injEq]
  rw [if_pos (by constructor<;>simp<;>omega),show off+j-off=j by omega]
  simp [hj]
 ·rw [List.getElem?_take,if_neg hj,List.getElem?_eq_none (by simp;omega)]
theorem putCells_size {off:Nat} {zs:List Int} {cur:Array Value}:(putCells (Value.int .i64) off zs.toArray cur).size=cur.size:=by simp [putCells]
theorem sat_putRow {b off:Nat} {cur:Array Value} {q:Nat} {zs:List Int} {os:Array Obj} (hS:Sat W w ([(b, .cells cur E (0,0))]::cs)):
  Sat W (grow (putRow (Value.int .i64) (Go.Sort.ahead w q) b off zs.toArray) os) ([(b, .cells (putCells (Value.int .i64) off zs.toArray cur) E (0,0))]::cs):=by
 have hb:w.heap[b]?=some (.cells cur E (0,0)):=hS.heap (by simp)
 have hbl:b<w.heap.size:=(Array.getElem?_eq_some_iff.1 hb).1
 refine ⟨hS.os,hS.tape,hS.output,hS.nd,?_⟩
 intro p hp
 have hsz:∀j,j<w.heap.size->(grow (putRow (Value.int .i64) (Go.Sort.ahead w q) b off zs.toArray) os).heap[j]?=(w.heap.modify b (onCells (putCells (Value.int .i64) off zs.toArray)))[j]?:=by
  intro j hj
  rw [heap_grow_old _ _ (by rw [size_putRow];exact hj)];rfl
 simp only [List.flatten_cons,List.cons_append,List.nil_append,List.mem_cons] at hp
 rcases hp with rfl|hp
 ·rw [hsz b hbl,Array.getElem?_modify,if_pos rfl,hb];rfl
 ·have h0:=hS.all p (by simp [hp])
  have hlt:p.1<w.heap.size:=(Array.getElem?_eq_some_iff.1 h0).1
  have hne:b≠p.1:=by
   intro e
   have:=hS.nd
   simp only [List.flatten_cons,List.cons_append,List.nil_append,List.map_cons,List.nodup_cons,List.mem_map,not_exists] at this
   exact this.1 p ⟨hp,e.symm⟩
  rw [hsz p.1 hlt,Array.getElem?_modify,if_neg hne];exact h0
theorem holds_of {b off:Nat} {cur:Array Value} {zs:List Int} (hS:Sat W w ([(b, .cells cur E (0,0))]::cs)) (h:(cur.toList.drop off).take zs.length=zs.flatMap Go.E.encI):Holds (Value.int .i64) w b off zs.toArray:=by
 have hb:w.heap[b]?=some (.cells cur E (0,0)):=hS.heap (by simp)
 have hm:∀l:List Int,l.flatMap Go.E.encI=l.map (Value.int .i64):=by
  intro l
  induction l with
  |nil=>rfl
  |cons x l ih=>rw [List.flatMap_cons,ih];rfl
 intro j hj
 have hj':j<zs.length:=by simpa using hj
 have hat:=congrArg (·[j]?) h
 simp only [hm,List.getElem?_take,if_pos hj',List.getElem?_drop,List.getElem?_map,List.getElem?_eq_getElem hj',Option.map_some] at hat
 constructor
 ·simp only [World.cell?,hb,Option.isSome_none,Bool.false_eq_true,if_false]
  have:cur[off+j]?=some (Value.int .i64 zs[j]):=by rw [<-Array.getElem?_toList];exact hat
  rw [this];simp [hj']
 ·simp [World.frozen?,hb]
theorem own_sort (L:Go.Proofs.SlLaysN.n53 P ρ) (hO:OwnT Go.E.encI E 1 a n k xs c) (hS:Sat W w (c::cs)) (hn:n<4611686018427387904):
    Calls P (ρ.f 53) #[.slice a n k] w fun e w'=>∃c':Chunk,e= .returned (.tuple #[])/\OwnT Go.E.encI E 1 a n k (xs.mergeSort fun x y=>decide (x<=y)) c'/\Sat W w' (c'::cs):=by
  obtain ⟨h1,h2,h3,h4⟩:=hO
  by_cases h0:n=0
  · subst h0
    have hx:xs=[]:=List.eq_nil_of_length_eq_zero h1
    subst hx
    refine (AnyG.slices_Sort_int_none L a k w).mono ?_
    rintro e w' ⟨rfl,rfl⟩
    have e:([]:List Int).mergeSort (fun x y=>decide (x<=y))=[]:=List.eq_nil_of_length_eq_zero (List.length_mergeSort _)
    exact ⟨c,rfl,by rw [e];exact ⟨h1,h2,h3,h4⟩,hS⟩
  · rcases h4 with ⟨_,h5,_⟩|⟨b,off,cur,rfl,rfl,h5,h6,h7,h8⟩
    · exact absurd h5 h0
    · have hb:w.heap[b]?=some (.cells cur E (0,0)):=hS.heap (by simp)
      have hbl:b<w.heap.size:=(Array.getElem?_eq_some_iff.1 hb).1
      subst h1
      rw [Nat.mul_one] at h8 h7
      refine (AnyG.slices_Sort_int L b off k xs w (holds_of hS h8) hbl hn).mono ?_
      rintro e w' ⟨rfl,q,os,rfl⟩
      have hl:(xs.mergeSort fun x y=>decide (x<=y)).length=xs.length:=List.length_mergeSort _
      refine ⟨_,rfl,⟨hl,h2,by rw [flatMap_len h2,hl], .inr ⟨b,off,_,rfl,rfl,h5,h6,by rw [putCells_size,Nat.mul_one];exact h7,?_⟩⟩,sat_putRow hS⟩
      rw [Nat.mul_one,<-hl]
      exact putCells_list (by rw [hl];omega)
theorem own_comp (L:Go.Proofs.SlLaysN.n43 P ρ) (hO:OwnT Go.E.encI E 1 a n k xs c) (hS:Sat W w (c::cs)):
    Calls P (ρ.f 43) #[.slice a n k] w fun e w'=>∃(m:Nat) (c':Chunk),e= .returned (.slice a m k)/\OwnT Go.E.encI E 1 a m k (Go.Lib.compact xs) c'/\Sat W w' (c'::cs):=by
  obtain ⟨h1,h2,h3,h4⟩:=hO
  by_cases h0:n=0
  · subst h0
    have hx:xs=[]:=List.eq_nil_of_length_eq_zero h1
    subst hx
    refine (AnyG.slices_Compact_int_empty L a k w).mono ?_
    rintro e w' ⟨rfl,rfl⟩
    exact ⟨0,c,rfl,⟨rfl,h2,h3,h4⟩,hS⟩
  · rcases h4 with ⟨_,h5,_⟩|⟨b,off,cur,rfl,rfl,h5,h6,h7,h8⟩
    · exact absurd h5 h0
    · subst h1
      rw [Nat.mul_one] at h8 h7
      refine (AnyG.slices_Compact_int L b off k xs w (holds_of hS h8) (by have:maxLen<=9223372036854775807:=(by decide);omega) h5).mono ?_
      rintro e w' ⟨rfl,q,rfl⟩
      have hle:(Go.Lib.compact xs).length<=xs.length:=by
        unfold Go.Lib.compact Go.Lib.compactUpTo
        rw [List.length_map]
        exact Nat.le_trans (List.length_filter_le _ _) (by simp)
      have hlen:(Go.Lib.compact xs++List.replicate (xs.length-(Go.Lib.compact xs).length) (0:Int)).length=xs.length:=by simp;omega
      have hSat:=sat_putRow (q:=q) (off:=off) (zs:=Go.Lib.compact xs++List.replicate (xs.length-(Go.Lib.compact xs).length) (0:Int)) (os:=#[]) hS
      rw [grow_empty] at hSat
      refine ⟨_,_,rfl,⟨rfl,h2,by rw [flatMap_len h2], .inr ⟨b,off,_,rfl,rfl,by omega,h6,by rw [putCells_size,Nat.mul_one];exact h7,?_⟩⟩,hSat⟩
      have hp:=putCells_list (off:=off) (cur:=cur) (zs:=Go.Lib.compact xs++List.replicate (xs.length-(Go.Lib.compact xs).length) (0:Int)) (by rw [hlen];omega)
      have ht:=congrArg (·.take (Go.Lib.compact xs).length) hp
      rw [List.take_take,Nat.min_eq_left (by rw [hlen];exact hle),List.flatMap_append] at ht
      rw [Nat.mul_one,ht]
      have hle2:((Go.Lib.compact xs).flatMap Go.E.encI).length=(Go.Lib.compact xs).length:=by rw [flatMap_len h2,Nat.mul_one]
      rw [<-hle2,List.take_left]
end
end Go.E
