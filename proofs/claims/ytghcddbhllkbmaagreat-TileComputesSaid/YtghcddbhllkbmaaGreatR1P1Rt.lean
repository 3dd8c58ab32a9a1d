import Derived.WalkKit
import Derived.Deep.Quiet
import Derived.KernelRfl
import Derived.Laws.BytesString
import Derived.Laws.Shifts
import Derived.Laws.IdiomStrings
import Derived.OpenShut
import Derived.Deep.Slices
import Derived.ChangeSame
import Derived.Deep.Fields
import Derived.Test.YtghcddbhllkbmaaGreatProg
import Derived.Laws.IdiomRangeMap
import Derived.Test.YtghcddbhllkbmaaGreatR1P1Ts
namespace Go.Proofs.YtghcddbhllkbmaaGreat
open Go Go.E Go.Proofs.Tryz
set_option linter.all false
set_option maxRecDepth 100000
set_option maxHeartbeats 2000000
variable {W w:World} {H:Chunk} {F:List Chunk}
theorem r7_clamp (v:Int) (m:Int) (hS:Sat W w (H::F)):
  Ro prog 148 #[I v,I m] (I (clampV v m)) W w (H::F):=by
 exact callsK 18 func148 rfl<|jCO 12 rfl<|sD 8 (v<0) (fun a0=>jOR 15 rfl<|retT [I 0]<|⟨by unfold clampV;rw [if_pos om];rfl,hS⟩) fun a0=>jOC 6 rfl<|cD (m<0) (fun b0=>jCR 8 rfl<|retT [I 0]<|⟨by unfold clampV;rw [if_pos om];rfl,hS⟩) fun b0=>jCC 8 rfl<|cD (v>m) (fun c0=>jCR 9 rfl<|retT [I m]<|⟨by unfold clampV;rw [if_neg om,if_pos om];rfl,hS⟩) fun c0=>jCR 10 rfl<|retT [I v]<|⟨by unfold clampV;rw [if_neg om,if_neg om];rfl,hS⟩
theorem r2_inside (a:Rct) (b:Rct) (hS:Sat W w (H::F)):
  Ro prog 107 #[.agg (encRct a).toArray, .agg (encRct b).toArray] (.bool (decide (insP a b))) W w (H::F):=by
 exact callsK 43 func107 rfl<|jCO 2 rfl<|sBx hS (encRct a) fun _ _ e0=>sBx e0 (encRct b) fun _ _ d0=>gOO d0 7 [401] rfl<|cS (r2_valid a d0.flat) fun _ b0=>pu2<|SDn 8 (rvP a) (fun f0=>jOR 14 rfl<|retT [.bool false]<|⟨rB (by rw [Bool.eq_iff_iff];unfold insP;simp only [decide_eq_true_eq,Bool.false_eq_true,false_iff,true_iff]<;>first|omega|(simp_all;try omega)),(b0.drops [0,0])⟩) fun f0=>gOO b0 1 [400] rfl<|gY<|cS (r2_valid b b0.flat) fun _ c0=>jOC 4 rfl<|CDn (rvP b) (fun h0=>jCR 7 rfl<|retT [.bool false]<|⟨rB (by rw [Bool.eq_iff_iff];unfold insP;simp only [decide_eq_true_eq,Bool.false_eq_true,false_iff,true_iff]<;>first|omega|(simp_all;try omega)),(c0.drops [0,0])⟩) fun h0=>gCO c0 5 [401] rfl<|cS (r2_empty a c0.flat) fun _ a0=>pu1<|sD 15 (a.x0=0/\a.y0=0/\a.x1=0/\a.y1=0) (fun j0=>jOR 31 rfl<|retT [.bool true]<|⟨rB (by rw [Bool.eq_iff_iff];unfold insP;simp only [decide_eq_true_eq,Bool.false_eq_true,false_iff,true_iff]<;>first|omega|(simp_all;try omega)),(a0.drops [0,0])⟩) fun j0=>gOO a0 6 [1,0] rfl<|SD 21 (a.x0>=b.x0) (fun l0=>jOR 25 rfl<|retT [.bool false]<|⟨rB (by rw [Bool.eq_iff_iff];unfold insP;simp only [decide_eq_true_eq,Bool.false_eq_true,false_iff,true_iff]<;>first|omega|(simp_all;try omega)),(a0.drops [0,0])⟩) fun l0=>gOO a0 7 [1,0] rfl<|SD 28 (a.y0>=b.y0) (fun n0=>jOR 18 rfl<|retT [.bool false]<|⟨rB (by rw [Bool.eq_iff_iff];unfold insP;simp only [decide_eq_true_eq,Bool.false_eq_true,false_iff,true_iff]<;>first|omega|(simp_all;try omega)),(a0.drops [0,0])⟩) fun n0=>gOO a0 7 [1,0] rfl<|SD 35 (a.x1<=b.x1) (fun p0=>jOR 11 rfl<|retT [.bool false]<|⟨rB (by rw [Bool.eq_iff_iff];unfold insP;simp only [decide_eq_true_eq,Bool.false_eq_true,false_iff,true_iff]<;>first|omega|(simp_all;try omega)),(a0.drops [0,0])⟩) fun p0=>gOR a0 11 [1,0] rfl<|retT [.bool (decide ((a.y1:Int)<=b.y1))]<|⟨rB (by rw [Bool.eq_iff_iff];unfold insP;simp only [decide_eq_true_eq,Bool.false_eq_true,false_iff,true_iff]<;>first|omega|(simp_all;try omega)),(a0.drops [0,0])⟩
theorem r4_new (w0 h0 m0:Int) (hz:sizeP w0 h0 m0) (hS:Sat W w (H::F)):
  Calls prog 12 #[I w0,I h0,I m0] w fun e w'=>∃(az:Option Addr) (nz kz:Nat) (C:Chunk),e= .returned (.tuple #[.agg #[I w0,I h0,I m0, .slice az nz kz], .bool true])/\OwnT Go.E.encI 3 1 az nz kz (List.replicate (w0*h0).toNat 0) C/\Sat W w' (C::H::F):=by
 have hz0:=hz;unfold sizeP at hz0;have hwh:=mul_bd (a:=w0) (b:=h0) (A:=128) (B:=128) om om;have hwp:0<=w0*h0:=Int.mul_nonneg om om
 refine callsK 22 func12 rfl<|jCO 2 rfl<|sAlloc hS zeroValue38 fun _ _ d0=>jOO 9 rfl<|cR call46 (r4_size w0 h0 m0 d0.flat) fun _ b0=>jOC 3 rfl<|cDn ((1:Int)<=w0/\w0<=(128:Int)/\(1:Int)<=h0/\h0<=(128:Int)/\w0*h0<=(4096:Int)/\(1:Int)<=m0/\m0<=(4294967296:Int)) (fun e0=>?_) (fun e0=>?_)
 rotate_left
 ·refine jCO 3 rfl<|sTl b0 0 [I 0,I 0,I 0,nS] sizeOf38 fun _ f0=>jOR 5 rfl<|retC f0 0 [I 0,I 0,I 0,nS] (.bool false) (isAgg38 _) (sizeOf38 _) ?_
  exfalso;omega
 exact jCO 9 rfl<|sMul w0 h0<|sMake (kl:= .i64) (kc:= .i64) (enc:=Go.E.encI) (sz:=1) (nb:=8) b0 0 ((w0*h0)).toNat (w0*h0) (om:(w0*h0)=((((w0*h0)).toNat:Nat):Int)) underlying22 (i:=Tryz.t3) kr fR fun a0 _ _ g0 i0=>pu1<|sTl i0 1 [I w0,I h0,I m0, .slice (At a0 0) (((w0*h0)).toNat) (((w0*h0)).toNat)] sizeOf38 fun _ c0=>jOR 4 rfl<|retC c0 1 [I w0,I h0,I m0, .slice (At a0 0) (((w0*h0)).toNat) (((w0*h0)).toNat)] (.bool true) (isAgg38 _) (sizeOf38 _)<|⟨(At a0 0),((w0*h0)).toNat,((w0*h0)).toNat,_,rfl,g0,(c0.dropAt 1 rfl)⟩
theorem r4_cover (p:Plane) (hp:Plane.Ok [H] p) (hS:Sat W w (H::F)):
  Ro prog 108 #[.agg (encPlane p).toArray] (.agg #[I 0,I 0,I p.w,I p.h]) W w (H::F):=by
 have d0:=hp.pix.ll
 exact callsK 8 func108 rfl<|jCO 2 rfl<|sBx hS (encPlane p) fun _ _ c0=>sAlloc c0 zeroValue45 fun _ _ a0=>gOO a0 9 [1,1] rfl<|sTk a0 0 [I 0,I 0,I p.w,I p.h] fun _ b0=>jOR 3 rfl<|retN (vs:=[.agg #[I 0,I 0,I p.w,I p.h]]) rfl (.cons (.cell _ _ _ _ kr (lvA b0 0 0 [I 0,I 0,I p.w,I p.h] (isAgg45 _) (sizeOf45 _) rfl rfl rfl)) .nil)<|⟨rfl,(b0.drops [0,0])⟩
theorem r4_pixel (p:Plane) (e0:Edge) (x:Int) (y:Int) (hp:Plane.Ok [H] p) (hpo:planeOK p.v=true) (hev:edgeV e0.policy e0.fill p.max_) (hS:Sat W w (H::F)):
  Ro prog 147 #[.agg (encPlane p).toArray, .agg #[I e0.policy,I e0.fill],I x,I y] (I (pixV p.v e0.policy e0.fill x y)) W w (H::F):=by
 have j0:=hp.pix.le;have h0:=hp.pix.len
 have m0:=(plane_sz hpo).1;unfold sizeP at m0;simp only [Plane.v] at m0;have n0:p.v.pix.length=p.pix.n:=h0
 exact callsK 49 func147 rfl<|jCO 2 rfl<|sBx hS (encPlane p) fun _ _ f0=>sBx f0 [I e0.policy,I e0.fill] fun _ _ b0=>gOO b0 10 [1,0] rfl<|cS (r3_index x p.w e0.policy b0.flat) fun _ c0=>gOO c0 14 [1,0] rfl<|cS (r3_index y p.h e0.policy c0.flat) fun _ a0=>jOO 13 rfl<|SBn 33 ((idxV x p.w e0.policy).isSome) (fun g0=>gOR a0 15 [0] rfl<|retT [I e0.fill]<|⟨congrArg (fun z=>Ending.returned (I z)) (pixV_fill (by first|exact .inl ‹_›|exact .inr ‹_›)).symm,(a0.drops [0,0])⟩) fun g0=>jOC 5 rfl<|CBn ((idxV y p.h e0.policy).isSome) (fun i0=>gCR a0 9 [0] rfl<|retT [I e0.fill]<|⟨congrArg (fun z=>Ending.returned (I z)) (pixV_fill (by first|exact .inl ‹_›|exact .inr ‹_›)).symm,(a0.drops [0,0])⟩) fun i0=>jCC 3 rfl<|(by have hix:=pl_ix hpo (x:=(idxV x p.w e0.policy).getD 0) (y:=(idxV y p.h e0.policy).getD 0) (idx_some ‹_›) (idx_some ‹_›);rw [n0] at hix;simp only [Plane.v] at hix;have o0:=idx_some (i:=x) (n:=p.w) (p:=e0.policy) ‹_›;exact gCO a0 6 [1,1] rfl<|sMul ((idxV y p.h e0.policy).getD 0) p.w<|pu1<|sAdd (((idxV y p.h e0.policy).getD 0)*p.w) ((idxV x p.w e0.policy).getD 0)<|sII hp.pix ((((idxV y p.h e0.policy).getD 0)*p.w)+((idxV x p.w e0.policy).getD 0)) fun d0 _ _ k0 l0=>sMp a0 (l0.up 2 rfl) 0 (I d0)<|jOR 4 rfl<|retT [I d0]<|⟨congrArg (fun z=>Ending.returned (I z)) (pixV_get (p:=p.v) ‹_› ‹_› k0).symm,(a0.drops [0,0])⟩)
theorem r9_tile (p:Plane) (e0:Edge) (kw:Int) (kh:Int) (aws:Option Addr) (nws kws:Nat) (ws:List Int) (sh:Int) (out:Int) (r:Rct) (hp:Plane.Ok [H] p) (hws:RdT Go.E.encI 1 [H] aws nws kws ws) (hS:Sat W w (H::F)):
  Calls prog 112 #[.agg (encPlane p).toArray, .agg #[I e0.policy,I e0.fill],I kw,I kh, .slice aws nws kws,I sh,I out, .agg (encRct r).toArray] w fun e w'=>∃(q:Plane) (c:Int) (G:Chunk),e= .returned (.tuple #[.agg (encPlane q).toArray,I c])/\q.Ok [G]/\(q.v,c)=convT p.v e0.policy e0.fill kw kh ws sh out r/\Sat W w' (G::H::F):=by
 have hl_p_pix:=hp.pix.le;have hn_p_pix:=hp.pix.len
 have hl_ws:=hws.le;have hn_ws:=hws.len
 refine callsK 143 func112 rfl<|jCO 2 rfl<|sBox hS (.agg (encPlane p).toArray) (encPlane p).toArray fun _ _ k1=>sBox k1 (.agg #[I e0.policy,I e0.fill]) #[I e0.policy,I e0.fill] fun _ _ l1=>sBox l1 (.agg (encRct r).toArray) (encRct r).toArray fun _ _ m1=>sAlloc m1 zeroValue38 fun _ _ q0=>gOO q0 7 [403] rfl<|cR call65 (r4_valid p ⟨(RdT.flat (hp.pix.up 4 (by rfl)))⟩ q0.flat) fun _ i0=>pu2<|sBn 28 (planeOK p.v) (fun b0=>?_) (fun b0=>?_)
 rotate_left
 ·refine jOO 12 rfl<|sTl i0 0 [I 0,I 0,I 0,nS] sizeOf38 fun _ r0=>jOR 5 rfl<|retC r0 0 [I 0,I 0,I 0,nS] (I 1) (isAgg38 _) (sizeOf38 _) ?_
  have hC:edgC p.v e0.policy e0.fill (convCode p.v.max_ kw kh ws sh out) p.v.w p.v.h r=1:=edgC_a (fun h=>b0 h.1)
  have n1:=(r0.drops [0,0,0,0])
  have o1:Sat W _ ([]::H::F):=Sat.nilc n1
  exact ⟨(⟨0,0,0,⟨none,0,0,[]⟩⟩:Plane),1,_,rfl,⟨RdT.nil (enc:=Go.E.encI) (sz:=1) fR [[]]⟩,(by unfold convT;rw [okT_c hC om];rfl),o1⟩
 refine gOO i0 3 [202,3] rfl<|gY<|cR call104 (r3_valid e0 p.max_ i0.flat) fun _ j0=>jOC 4 rfl<|cDn ((e0.policy=3/\0<=e0.fill/\e0.fill<=p.max_)\/(0<=e0.policy/\e0.policy<3/\e0.fill=0)) (fun d0=>?_) (fun d0=>?_)
 rotate_left
 ·refine jCO 3 rfl<|sTl j0 0 [I 0,I 0,I 0,nS] sizeOf38 fun _ s0=>jOR 5 rfl<|retC s0 0 [I 0,I 0,I 0,nS] (I 1) (isAgg38 _) (sizeOf38 _) ?_
  have hC:edgC p.v e0.policy e0.fill (convCode p.v.max_ kw kh ws sh out) p.v.w p.v.h r=1:=edgC_a (fun h=>d0 h.2)
  have q1:=(s0.drops [0,0,0,0])
  have r1:Sat W _ ([]::H::F):=Sat.nilc q1
  exact ⟨(⟨0,0,0,⟨none,0,0,[]⟩⟩:Plane),1,_,rfl,⟨RdT.nil (enc:=Go.E.encI) (sz:=1) fR [[]]⟩,(by unfold convT;rw [okT_c hC om];rfl),r1⟩
 refine gCO j0 12 [3] rfl<|cR call143 (r9_check p.max_ kw kh aws nws kws ws sh out (RdT.flat (hws.up 4 (by rfl))) j0.flat) fun _ k0=>jOC 9 rfl<|cN (convCode p.max_ kw kh ws sh out) 0 (fun t1=>?_) (fun t1=>?_)
 rotate_left
 ·refine jCO 4 rfl<|sTl k0 0 [I 0,I 0,I 0,nS] sizeOf38 fun _ t0=>jOR 5 rfl<|retC t0 0 [I 0,I 0,I 0,nS] (I (convCode p.max_ kw kh ws sh out)) (isAgg38 _) (sizeOf38 _) ?_
  have hC:edgC p.v e0.policy e0.fill (convCode p.v.max_ kw kh ws sh out) p.v.w p.v.h r=(convCode p.max_ kw kh ws sh out):=edgC_b ⟨b0,d0⟩ (by simp only [Plane.v] at*;omega)
  have u1:=(t0.drops [0,0,0,0])
  have v1:Sat W _ ([]::H::F):=Sat.nilc u1
  exact ⟨(⟨0,0,0,⟨none,0,0,[]⟩⟩:Plane),(convCode p.max_ kw kh ws sh out),_,rfl,⟨RdT.nil (enc:=Go.E.encI) (sz:=1) fR [[]]⟩,(by unfold convT;rw [okT_c hC om];rfl),v1⟩
 refine jCC 3 rfl<|cutF k0 0 [2,3,4,5,6,8,9,15,16] (γ:=Unit) (fun _ R=>⟨[(57, .bool (decide (¬(insP r ⟨0,0,p.w,p.h⟩/\¬(r.x0=0/\r.y0=0/\r.x1=0/\r.y1=0)))))],R,0,True⟩) ?_ ?_
 ·refine drawG k0 [1,4,5,6,7] (fb 0 1 0 4<|fn) (Plan.sts [0]<| .ef 1<|Plan.sts [2]<|Plan.sts [3]<| .fk 4 5 (.ef 5<| .ef 6<| .ef 7<|Plan.sts [8]<|Plan.sts [9]<| .fin) (.fk 4 6 (.ef 6<| .ef 7<|Plan.sts [8]<|Plan.sts [9]<| .fin) (.ef 4<| .ef 7<|Plan.sts [8]<|Plan.sts [9]<| .fin))) fun _ w1=>qG 0 4<|qO rfl<|cR call79 (r2_full r w1.flat) fun _ a0=>nA<|qU [2]<|qU [3]<|qF ?_ ?_
  ·exact bC (rvP r/\¬(r.x0=0/\r.y0=0/\r.x1=0/\r.y1=0)) (fun g0=>qFix 51 _ true (congrArg Bool.not (decide_eq_false g0))<|qO rfl<|pu1<|nA<|qO rfl<|pu1<|nA<|qO rfl<|pu1<|nA<|qO rfl<|pu1<|nA<|qU [8]<|qU [9]<|qN<|jXI 0 rfl<|⟨(),⟨⟨(Eq.trans (b:= .bool true) kr (congrArg Value.bool (decide_eq_true (p:=¬(insP r ⟨0,0,p.w,p.h⟩/\¬(r.x0=0/\r.y0=0/\r.x1=0/\r.y1=0))) (by exact fun h=>g0 ⟨h.1.1,h.2⟩)).symm)),trivial⟩,sA⟩,a0,trivial⟩) fun g0=>qFix 51 _ false (congrArg Bool.not (decide_eq_true g0))<|qO rfl<|gY<|lA a0 1 0 4 (isAgg45 _) (sizeOf45 _)<|nA<|qO rfl<|gY<|lA a0 3 0 4 (isAgg38 _) (sizeOf38 _)<|nA<|qO rfl<|gY<|cR call108 (r4_cover p ⟨(RdT.flat (hp.pix.up 4 (by rfl)))⟩ a0.flat) fun _ z1=>nA<|qO rfl<|gY<|cR call107 (r2_inside r (⟨0,0,p.w,p.h⟩:Rct) z1.flat) fun _ a2=>nA<|qU [8]<|qU [9]<|qN<|jXI 0 rfl<|⟨(),⟨⟨(Eq.trans (b:= .bool (!decide (insP r (⟨0,0,p.w,p.h⟩:Rct)))) kr (congrArg Value.bool (by rw [Bool.eq_iff_iff];simp only [decide_eq_true_eq,beq_iff_eq,bne_iff_ne,ne_eq,Bool.not_eq_true',decide_eq_false_iff_not,gt_iff_lt,ge_iff_le,Bool.and_eq_true,Bool.or_eq_true,Bool.not_eq_eq_eq_not,Bool.not_true,Bool.and_eq_false_imp,beq_eq_false_iff_ne]<;>exact ⟨fun h k=>h k.1,fun h k=>h ⟨k,g0.2⟩⟩))),trivial⟩,sA⟩,a2,trivial⟩
  by_cases c0:rvP r/\¬(r.x0=0/\r.y0=0/\r.x1=0/\r.y1=0)
  rotate_left
  ·refine qFix 51 _ true (congrArg Bool.not (decide_eq_false c0))<|qO rfl<|pu1<|nA<|qF ?_ ?_
   rotate_left
   ·exact qO rfl<|pu1<|nA<|qO rfl<|pu1<|nA<|qO rfl<|pu1<|nA<|qU [8]<|qU [9]<|qN<|jXI 0 rfl<|⟨(),⟨⟨(Eq.trans (b:= .bool true) kr (congrArg Value.bool (decide_eq_true (p:=¬(insP r ⟨0,0,p.w,p.h⟩/\¬(r.x0=0/\r.y0=0/\r.x1=0/\r.y1=0))) (by exact fun h=>c0 ⟨h.1.1,h.2⟩)).symm)),trivial⟩,sA⟩,a0,trivial⟩
   exact qO rfl<|pu1<|nA<|qO rfl<|pu1<|nA<|qO rfl<|pu1<|nA<|qU [8]<|qU [9]<|qN<|jXI 0 rfl<|⟨(),⟨⟨(Eq.trans (b:= .bool true) kr (congrArg Value.bool (decide_eq_true (p:=¬(insP r ⟨0,0,p.w,p.h⟩/\¬(r.x0=0/\r.y0=0/\r.x1=0/\r.y1=0))) (by exact fun h=>c0 ⟨h.1.1,h.2⟩)).symm)),trivial⟩,sA⟩,a0,trivial⟩
  refine qFix 51 _ false (congrArg Bool.not (decide_eq_true c0))<|qO rfl<|gY<|lA a0 3 0 4 (isAgg38 _) (sizeOf38 _)<|nA<|qF ?_ ?_
  rotate_left
  ·exact qO rfl<|gY<|cR call108 (r4_cover p ⟨(RdT.flat (hp.pix.up 4 (by rfl)))⟩ a0.flat) fun _ u0=>nA<|qO rfl<|gY<|lA u0 1 0 4 (isAgg45 _) (sizeOf45 _)<|nA<|qO rfl<|gY<|cR call107 (r2_inside r (⟨0,0,p.w,p.h⟩:Rct) u0.flat) fun _ b2=>nA<|qU [8]<|qU [9]<|qN<|jXI 0 rfl<|⟨(),⟨⟨(Eq.trans (b:= .bool (!decide (insP r (⟨0,0,p.w,p.h⟩:Rct)))) kr (congrArg Value.bool (by rw [Bool.eq_iff_iff];simp only [decide_eq_true_eq,beq_iff_eq,bne_iff_ne,ne_eq,Bool.not_eq_true',decide_eq_false_iff_not,gt_iff_lt,ge_iff_le,Bool.and_eq_true,Bool.or_eq_true,Bool.not_eq_eq_eq_not,Bool.not_true,Bool.and_eq_false_imp,beq_eq_false_iff_ne]<;>exact ⟨fun h k=>h k.1,fun h k=>h ⟨k,c0.2⟩⟩))),trivial⟩,sA⟩,b2,trivial⟩
  exact qO rfl<|gY<|lA a0 1 0 4 (isAgg45 _) (sizeOf45 _)<|nA<|qO rfl<|gY<|cR call108 (r4_cover p ⟨(RdT.flat (hp.pix.up 4 (by rfl)))⟩ a0.flat) fun _ c2=>nA<|qO rfl<|gY<|cR call107 (r2_inside r (⟨0,0,p.w,p.h⟩:Rct) c2.flat) fun _ d2=>nA<|qU [8]<|qU [9]<|qN<|jXI 0 rfl<|⟨(),⟨⟨(Eq.trans (b:= .bool (!decide (insP r (⟨0,0,p.w,p.h⟩:Rct)))) kr (congrArg Value.bool (by rw [Bool.eq_iff_iff];simp only [decide_eq_true_eq,beq_iff_eq,bne_iff_ne,ne_eq,Bool.not_eq_true',decide_eq_false_iff_not,gt_iff_lt,ge_iff_le,Bool.and_eq_true,Bool.or_eq_true,Bool.not_eq_eq_eq_not,Bool.not_true,Bool.and_eq_false_imp,beq_eq_false_iff_ne]<;>exact ⟨fun h k=>h k.1,fun h k=>h ⟨k,c0.2⟩⟩))),trivial⟩,sA⟩,d2,trivial⟩
 rintro _ ρ _ ⟨h0,_⟩
 refine cD (¬(insP r ⟨0,0,p.w,p.h⟩/\¬(r.x0=0/\r.y0=0/\r.x1=0/\r.y1=0))) (fun l0=>?_) (fun l0=>?_)
 ·refine jCO 3 rfl<|sTl h0 0 [I 0,I 0,I 0,nS] sizeOf38 fun _ v0=>jOR 5 rfl<|retC v0 0 [I 0,I 0,I 0,nS] (I 8) (isAgg38 _) (sizeOf38 _) ?_
  have hsz:=(plane_sz b0).1;unfold sizeP at hsz;simp only [Plane.v] at hsz
  have hC:edgC p.v e0.policy e0.fill (convCode p.v.max_ kw kh ws sh out) p.v.w p.v.h r=8:=edgC_c ⟨b0,d0⟩ (by simp only [Plane.v] at*;omega) (fun h=>by have h2:=(ins_in (by simp only [Plane.v];omega) (by simp only [Plane.v];omega)).2 h;exact l0 ⟨h2.2,h2.1⟩)
  have e2:=(v0.drops [0,0,0,0])
  have f2:Sat W _ ([]::H::F):=Sat.nilc e2
  exact ⟨(⟨0,0,0,⟨none,0,0,[]⟩⟩:Plane),8,_,rfl,⟨RdT.nil (enc:=Go.E.encI) (sz:=1) fR [[]]⟩,(by unfold convT;rw [okT_c hC om];rfl),f2⟩
 refine jCC 3 rfl ?_
 have hpo:planeOK p.v=true:=b0;have hev:edgeV e0.policy e0.fill p.max_:=d0;have hcc:(convCode p.v.max_ kw kh ws sh out)=0:=by simp only [Plane.v];omega
 have hsz:=(plane_sz hpo).1;unfold sizeP at hsz;simp only [Plane.v] at hsz
 have hri:rIn r p.w p.h:=(ins_in om om).1 (And.comm.1 (Classical.not_not.1 l0))
 have hri0:=hri;unfold rIn at hri0;obtain ⟨hck,hckh,hcl,hcs,hco,hbn⟩:=conv_ok hcc
 obtain ⟨Wn,hW⟩:∃k:Nat,r.x1-r.x0=(k:Int):=⟨_,(Int.toNat_of_nonneg om).symm⟩;obtain ⟨Hn,hH⟩:∃k:Nat,r.y1-r.y0=(k:Int):=⟨_,(Int.toNat_of_nonneg om).symm⟩
 have hWb:1<=Wn/\Wn<=128/\1<=Hn/\Hn<=128:=om;have hWH:Hn*Wn<=4096:=by have h1:=rIn_area hri (by first|omega|assumption);rw [hW,hH] at h1;have h2:((Hn*Wn:Nat):Int)=(Wn:Int)*(Hn:Int):=(by push_cast;rw [Int.mul_comm]);omega
 have hWi:(r.x1-r.x0)*(r.y1-r.y0)=((Hn*Wn:Nat):Int):=by rw [hW,hH];push_cast;rw [Int.mul_comm]
 have ht1:kw.tdiv 2=kw/2:=Int.tdiv_eq_ediv_of_nonneg om;have ht2:kh.tdiv 2=kh/2:=Int.tdiv_eq_ediv_of_nonneg om;have haw:=(wCode_len (bnd_t hbn).1).2.2;have hw81:=(wCode_len (bnd_t hbn).1).2.1
 obtain ⟨f,hf⟩:∃f:Int->Int->Int,f=fun i j=>convX p.v e0.policy e0.fill kw kh ws sh out (r.x0+i) (r.y0+j):=⟨_,rfl⟩
 refine gCO h0 5 [1,1] rfl<|sSub r.x1 r.x0<|gOO h0 4 [1,1] rfl<|sSub r.y1 r.y0<|pu1<|cX call12 (r4_new (r.x1-r.x0) (r.y1-r.y0) out (by unfold sizeP;omega) h0.flat) ?_
 rintro _ _ ⟨w0,z0,a1,g2,rfl,m0,i2⟩
 have j2:=i2.unflat1;have hn_az_59:=m0.len;have hl_az_59:=m0.le
 refine pu3<|sAlloc j2 zeroValue38 fun b1 _ k2=>sTl k2 0 [I (r.x1-r.x0),I (r.y1-r.y0),I out, .slice w0 z0 a1] sizeOf38 fun _ c1=>gOC c1 12 [3] rfl ?_
 have l2:=(c1.pick 1 rfl)
 refine loopF [2,3,4,5,6,8,9,15,16,19] (γ:=Nat×Int×(List Int)×(Option Addr)×Nat×Nat×Chunk) (fun ⟨i,yy,zs,azs,nzs,kzs,czs⟩ R=>⟨[(21,I yy)],czs::[(b1, .cells #[I (r.x1-r.x0),I (r.y1-r.y0),I out, .slice azs nzs kzs] 38 (0,0))]::R,Hn-i,i<=Hn/\(yy=r.y0+(i:Int))/\(zs=gridN Wn f (i*Wn)++List.replicate (Hn*Wn-i*Wn) 0)/\OwnT Go.E.encI 3 1 azs nzs kzs zs czs⟩) (0,r.y0,(List.replicate ((r.x1-r.x0)*(r.y1-r.y0)).toNat 0),w0,z0,a1,g2) ⟨l2,om,om,(by rw [hWi,Int.toNat_natCast,Nat.zero_mul];rfl),m0⟩ ?_
 rintro ⟨i,yy,zs,azs,nzs,kzs,czs⟩ ρ _ ⟨f0,hi,hyy,hE,hOzs⟩
 have hn_zs:=hOzs.len;have hl_zs:=hOzs.le
 refine gCC f0 9 [3] rfl<|cD (yy<r.y1) (fun m2=>?_) (fun m2=>?_)
 rotate_left
 ·refine gCO f0 8 [401] rfl<|sTl f0 2 [I (r.x1-r.x0),I (r.y1-r.y0),I out, .slice azs nzs kzs] sizeOf38 fun _ d1=>jOR 4 rfl<|retC d1 2 [I (r.x1-r.x0),I (r.y1-r.y0),I out, .slice azs nzs kzs] (I 0) (isAgg38 _) (sizeOf38 _) ?_
  have hz9:zs=gridN Wn f (Hn*Wn):=by rw [hE,show i=Hn by omega,Nat.sub_self,List.replicate_zero,List.append_nil]
  have hC:edgC p.v e0.policy e0.fill (convCode p.v.max_ kw kh ws sh out) p.v.w p.v.h r=0:=edgC_ok hpo hev hcc hri
  exact ⟨(⟨(r.x1-r.x0),(r.y1-r.y0),out,⟨azs,nzs,kzs,zs⟩⟩:Plane),0,_,rfl,⟨(hOzs.rdAt (cs:=[czs]) 0 rfl)⟩,(by unfold convT;rw [okT_0 hC,mk_pl hri hW hH (hf▸hz9)];rfl),(d1.drops [1,1,1,1,1])⟩
 refine gCC f0 12 [3] rfl<|loopF [2,3,4,5,6,8,9,15,16,19,21] (γ:=Nat×Int×(List Int)×(Option Addr)×Nat×Nat×Chunk) (fun ⟨j,xx,zt,azt,nzt,kzt,czt⟩ R=>⟨[(22,I xx)],czt::[(b1, .cells #[I (r.x1-r.x0),I (r.y1-r.y0),I out, .slice azt nzt kzt] 38 (0,0))]::R,Wn-j,j<=Wn/\(xx=r.x0+(j:Int))/\(zt=gridN Wn f (i*Wn+j)++List.replicate (Hn*Wn-(i*Wn+j)) 0)/\OwnT Go.E.encI 3 1 azt nzt kzt zt czt⟩) (0,r.x0,zs,azs,nzs,kzs,czs) ⟨f0,om,om,(by rw [Nat.add_zero];exact hE),hOzs⟩ ?_
 rintro ⟨j,xx,zt,azt,nzt,kzt,czt⟩ ρ _ ⟨n0,hj,hxx,hE2,hOzt⟩
 have hn_zt:=hOzt.len;have hl_zt:=hOzt.le
 have hzl2:zt.length=Hn*Wn:=by rw [hE2,List.length_append,grid_len,List.length_replicate];have h1:=Nat.mul_le_mul_right Wn (show i+1<=Hn by omega);rw [Nat.add_mul,Nat.one_mul] at h1;omega
 have hij:i*Wn+j<=Hn*Wn:=by have h1:=Nat.mul_le_mul_right Wn (show i+1<=Hn by omega);rw [Nat.add_mul,Nat.one_mul] at h1;omega
 have hij2:i*Wn+Wn<=Hn*Wn:=by have h1:=Nat.mul_le_mul_right Wn (show i+1<=Hn by omega);rw [Nat.add_mul,Nat.one_mul] at h1;omega
 have hpr:(yy-r.y0)*(r.x1-r.x0)=((i*Wn:Nat):Int):=by rw [show yy-r.y0=(i:Int) by omega,hW];push_cast;rfl
 refine gCC n0 9 [3] rfl<|cD (xx<r.x1) (fun o2=>?_) (fun o2=>?_)
 rotate_left
 ·refine jCO 8 rfl<|sAdd yy 1<|jOI 2 rfl ?_
  exact ⟨(i+1,(yy+1),zt,azt,nzt,kzt,czt),od,alB,n0,om,om,(by rw [Nat.add_mul,Nat.one_mul,hE2,show j=Wn by omega]),hOzt⟩
 refine jCC 16 rfl<|loopF [2,3,4,5,6,8,9,15,16,19,21,22] (γ:=Nat×Int) (fun ⟨k,s1⟩ R=>⟨[(24,I (k:Int)),(23,I s1)],R,ws.length-k,k<=ws.length/\(s1=convS p.v e0.policy e0.fill kw kh ws xx yy k)⟩) (0,0) ⟨n0,om,by rfl⟩ ?_
 rintro ⟨k,s1⟩ ρ _ ⟨e1,hk,hs1⟩
 have hsb:=conv_part (kw:=kw) (kh:=kh) (x:=xx) (y:=yy) hpo hev hcc (n:=k) om
 refine jCC 9 rfl<|cD ((k:Int)<(nws:Int)) (fun q2=>?_) (fun q2=>?_)
 rotate_left
 ·refine jCC 5 rfl ?_
  obtain ⟨r2,f4,g4,s2,h4,t2,u2⟩:=OwnT.elem hOzt ((((yy-r.y0)*(r.x1-r.x0))+xx)-r.x0)
  refine drawF e1 [16,18,20] (fb 1 1 3 1<|fb 4 3 1 1<|fb 7 1 0 1<|fb 12 3 0 1<|fn) [0,2,3,6,9,11,14,15,17,1,4,5,7,8,10,12,13,16,18,19,20] fun _ v2=>wV 9<|wL 0<|wL 1<|wSub yy r.y0<|wL 2<|wMul (yy-r.y0) (r.x1-r.x0)<|wAdd ((yy-r.y0)*(r.x1-r.x0)) xx<|wL 3<|wSub (((yy-r.y0)*(r.x1-r.x0))+xx) r.x0<|wO rfl<|cR call149 (r7_shift s1 sh v2.flat) fun _ f1=>nZ f1 [1,3,1,3]<|wO rfl<|cR call148 (r7_clamp (shiftV s1 sh) out f1.flat) fun _ g1=>nZ g1 [1,3,1,3]<|wI t2<|wO rfl<|sStF g1 hOzt u2 0 (((((yy-r.y0)*(r.x1-r.x0))+xx)-r.x0)).toNat 0 r2 (clampV (shiftV s1 sh) out) s2 (I (clampV (shiftV s1 sh) out)) [I (clampV (shiftV s1 sh) out)] sizeOf3 fun _ w2 x2 y2=>nA<|wN<|jXO 4 rfl<|sAdd xx 1<|jOI 2 rfl ?_
  exact ⟨(j+1,(xx+1),(zt.set ((((((yy-r.y0)*(r.x1-r.x0))+xx)-r.x0)).toNat) (clampV (shiftV s1 sh) out)),azt,nzt,kzt,w2),od,alB,y2,om,om,(by rw [show ((((((yy-r.y0)*(r.x1-r.x0))+xx)-r.x0)).toNat)=i*Wn+j by omega,hE2,fill_set (grid_len _ _ _) om,<-Nat.add_assoc,grid_succ om];congr 2;rw [hf];dsimp only;rw [<-hxx,<-hyy];unfold convX;rw [show ws.length=k by omega,<-hs1]),x2⟩
 refine jCC 4 rfl ?_
 have hmk:=Int.emod_nonneg (k:Int) (show kw≠0 by omega);have hmk2:=Int.emod_lt_of_pos (k:Int) (show 0<kw by omega);have htm:(k:Int).tmod kw=(k:Int)%kw:=Int.tmod_eq_emod_of_nonneg om;have htd:(k:Int).tdiv kw=(k:Int)/kw:=Int.tdiv_eq_ediv_of_nonneg om;have hdk:=Int.ediv_nonneg (show 0<=(k:Int) by omega) (show 0<=kw by omega);have hdk2:=Int.ediv_le_self kw (show 0<=(k:Int) by omega)
 obtain ⟨o0,l4,m4,p0,i1,z2⟩:=RdT.elem hws (k:Int)
 rw [Int.toNat_natCast] at p0
 have hwx:=areW_at haw p0
 refine drawF e1 [23] (fq 4 0 (i1.up 6 rfl)<|fb 5 5 0 4<|fb 6 4 0 2<|fn) [0,1,2,3,7,8,9,10,11,12,13,14,15,16,17,18,19,20,21,22,4,5,6,23,24,25,26] fun _ a3=>wV 3<|wI z2<|wV 3<|wRem (k:Int) kw<|wAdd xx ((k:Int).tmod kw)<|wV 1<|wQuo kw 2<|wSub (xx+((k:Int).tmod kw)) (kw.tdiv 2)<|wV 3<|wQuo (k:Int) kw<|wAdd yy ((k:Int).tdiv kw)<|wV 1<|wQuo kh 2<|wSub (yy+((k:Int).tdiv kw)) (kh.tdiv 2)<|wL 0<|wG 1 4<|wG 5 2<|wO rfl<|cR call147 (r4_pixel p e0 ((xx+((k:Int).tmod kw))-(kw.tdiv 2)) ((yy+((k:Int).tdiv kw))-(kh.tdiv 2)) ⟨(RdT.flat (hp.pix.up 6 (by rfl)))⟩ hpo hev a3.flat) fun _ j1=>?_
 have hpx:=pix_bd hpo hev (x:=((xx+((k:Int).tmod kw))-(kw.tdiv 2))) (y:=((yy+((k:Int).tdiv kw))-(kh.tdiv 2)));have hpm:=wmul_bd (v:=(pixV p.v e0.policy e0.fill ((xx+((k:Int).tmod kw))-(kw.tdiv 2)) ((yy+((k:Int).tdiv kw))-(kh.tdiv 2)))) (B:=4294967296) hwx (by simp only [Plane.v] at*;omega) (by decide)
 refine nilO ⟨⟨.inr ((i1.up 6 rfl).cell j1 (k:=0) rfl),dI,dI,dI,dI,dI,dI,trivial⟩,?_⟩
 exact wMul o0 (pixV p.v e0.policy e0.fill ((xx+((k:Int).tmod kw))-(kw.tdiv 2)) ((yy+((k:Int).tdiv kw))-(kh.tdiv 2)))<|wAdd s1 (o0*(pixV p.v e0.policy e0.fill ((xx+((k:Int).tmod kw))-(kw.tdiv 2)) ((yy+((k:Int).tdiv kw))-(kh.tdiv 2))))<|wV 1<|wN<|jXO 4 rfl<|sAdd (k:Int) 1<|jOI 2 rfl<|⟨(k+1,(s1+(o0*(pixV p.v e0.policy e0.fill ((xx+((k:Int).tmod kw))-(kw.tdiv 2)) ((yy+((k:Int).tdiv kw))-(kh.tdiv 2)))))),od,alB,j1,om,(by unfold convS;rw [sumN_succ,List.getD_eq_getElem?_getD,p0,show sumN _ k=s1 from hs1.symm];unfold convF;rw [htm,htd,ht1,ht2];rfl)⟩
theorem r10_mid (p:Plane) (e0:Edge) (arow:Option Addr) (nrow krow:Nat) (row:List Int) (sh:Int) (x:Int) (y:Int) (hp:Plane.Ok [H] p) (hrow:RdT Go.E.encI 1 [H] arow nrow krow row) (hpo:planeOK p.v=true) (hev:edgeV e0.policy e0.fill p.max_) (hbr:bndOK row 0 p.max_=true) (hxb:-1000000<=x/\x<=1000000) (hS:Sat W w (H::F)):
  Ro prog 150 #[.agg (encPlane p).toArray, .agg #[I e0.policy,I e0.fill], .slice arow nrow krow,I sh,I x,I y] (I (midV p.v e0.policy e0.fill row sh x y)) W w (H::F):=by
 have o0:=hp.pix.ll
 have p0:=hrow.le;have k0:=hrow.len
 have r0:=(plane_sz hpo).1;unfold sizeP at r0;simp only [Plane.v] at r0;have n0:=(wCode_len (bnd_t hbr).1).2.2;have s0:=(wCode_len (bnd_t hbr).1).2.1;have x0:(nrow:Int).tdiv 2=(nrow:Int)/2:=Int.tdiv_eq_ediv_of_nonneg om
 refine callsK 42 func150 rfl<|jCO 2 rfl<|sBx hS (encPlane p) fun _ _ g0=>sBx g0 [I e0.policy,I e0.fill] fun _ _ h0=>jOC 15 rfl<|loopF [2,3,4,5,6,7] (γ:=Nat×Int) (fun ⟨k,s1⟩ R=>⟨[(14,I (k:Int)),(13,I s1)],R,nrow-k,k<=nrow/\(s1=midS p.v e0.policy e0.fill row x y k)⟩) (0,0) ⟨h0,om,by rfl⟩ ?_
 rintro ⟨k,s1⟩ ρ _ ⟨c0,hk,q0⟩
 have v0:=part_bd (f:=fun k=>pixV p.v e0.policy e0.fill (x+(k:Int)-(row.length:Int)/2) y) hbr (fun _ _=>pix_bd hpo hev) (n:=k) om;have w0:-200000000000000000<=s1/\s1<=200000000000000000:=by rw [q0];exact v0
 refine jCC 9 rfl<|CD ((k:Int)<(nrow:Int)) (fun i0=>jCO 9 rfl<|cS (r7_shift s1 sh c0.flat) fun _ j0=>jOR 4 rfl<|retT [I (shiftV s1 sh)]<|⟨congrArg (fun z=>Ending.returned (I z)) (by unfold midV;rw [k0,show nrow=k by omega,<-q0]),(j0.drops [0,0])⟩) fun i0=>jCC 4 rfl ?_
 obtain ⟨a0,t0,u0,b0,d0,l0⟩:=RdT.eN hrow k
 exact drawF c0 [15] (fq 4 0 (d0.up 2 rfl)<|fb 5 1 0 4<|fb 6 0 0 2<|fn) [0,1,2,3,7,8,9,10,11,12,13,14,4,5,6,15,16,17,18] fun _ m0=>wV 3<|wI l0<|wV 2<|wAdd x (k:Int)<|wV 2<|wQuo (nrow:Int) 2<|wSub (x+(k:Int)) ((nrow:Int).tdiv 2)<|wV 1<|wL 0<|wG 1 4<|wG 5 2<|wO rfl<|cS (r4_pixel p e0 ((x+(k:Int))-((nrow:Int).tdiv 2)) y ⟨(hp.pix.fl 2)⟩ hpo hev m0.flat) fun _ f0=>(by have z0:=pix_bd hpo hev (x:=((x+(k:Int))-((nrow:Int).tdiv 2))) (y:=y);have y0:=wmul_bd (v:=(pixV p.v e0.policy e0.fill ((x+(k:Int))-((nrow:Int).tdiv 2)) y)) (B:=4294967296) (areW_at n0 b0) (by simp only [Plane.v] at*;omega) (by decide);exact nilO ⟨⟨.inr ((d0.up 2 rfl).cell f0 (k:=0) rfl),dI,dI,dI,dI,dI,dI,trivial⟩,(wMul a0 (pixV p.v e0.policy e0.fill ((x+(k:Int))-((nrow:Int).tdiv 2)) y)<|wAdd s1 (a0*(pixV p.v e0.policy e0.fill ((x+(k:Int))-((nrow:Int).tdiv 2)) y))<|wV 1<|wN<|jXO 4 rfl<|sAdd (k:Int) 1<|jOI 2 rfl<|⟨(k+1,(s1+(a0*(pixV p.v e0.policy e0.fill ((x+(k:Int))-((nrow:Int).tdiv 2)) y)))),od,alB,f0,om,(by rw [mid_succ b0,<-q0,k0,<-x0])⟩)⟩)
theorem r10_tile (p:Plane) (e0:Edge) (arow:Option Addr) (nrow krow:Nat) (row:List Int) (acol:Option Addr) (ncol kcol:Nat) (col:List Int) (sh:Int) (sh2:Int) (out:Int) (r:Rct) (hp:Plane.Ok [H] p) (hrow:RdT Go.E.encI 1 [H] arow nrow krow row) (hcol:RdT Go.E.encI 1 [H] acol ncol kcol col) (hS:Sat W w (H::F)):
  Calls prog 113 #[.agg (encPlane p).toArray, .agg #[I e0.policy,I e0.fill], .slice arow nrow krow, .slice acol ncol kcol,I sh,I sh2,I out, .agg (encRct r).toArray] w fun e w'=>∃(q:Plane) (c:Int) (G:Chunk),e= .returned (.tuple #[.agg (encPlane q).toArray,I c])/\q.Ok [G]/\(q.v,c)=sepT p.v e0.policy e0.fill row col sh sh2 out r/\Sat W w' (G::H::F):=by
 have hl_p_pix:=hp.pix.le;have hn_p_pix:=hp.pix.len
 have hl_row:=hrow.le;have hn_row:=hrow.len
 have hl_col:=hcol.le;have hn_col:=hcol.len
 refine callsK 137 func113 rfl<|jCO 2 rfl<|sBox hS (.agg (encPlane p).toArray) (encPlane p).toArray fun _ _ k1=>sBox k1 (.agg #[I e0.policy,I e0.fill]) #[I e0.policy,I e0.fill] fun _ _ l1=>sBox l1 (.agg (encRct r).toArray) (encRct r).toArray fun _ _ m1=>sAlloc m1 zeroValue38 fun _ _ q0=>gOO q0 7 [403] rfl<|cR call65 (r4_valid p ⟨(RdT.flat (hp.pix.up 4 (by rfl)))⟩ q0.flat) fun _ i0=>pu2<|sBn 28 (planeOK p.v) (fun b0=>?_) (fun b0=>?_)
 rotate_left
 ·refine jOO 12 rfl<|sTl i0 0 [I 0,I 0,I 0,nS] sizeOf38 fun _ r0=>jOR 5 rfl<|retC r0 0 [I 0,I 0,I 0,nS] (I 1) (isAgg38 _) (sizeOf38 _) ?_
  have hC:edgC p.v e0.policy e0.fill (sepCode p.v.max_ row col sh sh2 out) p.v.w p.v.h r=1:=edgC_a (fun h=>b0 h.1)
  have n1:=(r0.drops [0,0,0,0])
  have o1:Sat W _ ([]::H::F):=Sat.nilc n1
  exact ⟨(⟨0,0,0,⟨none,0,0,[]⟩⟩:Plane),1,_,rfl,⟨RdT.nil (enc:=Go.E.encI) (sz:=1) fR [[]]⟩,(by unfold sepT;rw [okT_c hC om];rfl),o1⟩
 refine gOO i0 3 [202,3] rfl<|gY<|cR call104 (r3_valid e0 p.max_ i0.flat) fun _ j0=>jOC 4 rfl<|cDn ((e0.policy=3/\0<=e0.fill/\e0.fill<=p.max_)\/(0<=e0.policy/\e0.policy<3/\e0.fill=0)) (fun d0=>?_) (fun d0=>?_)
 rotate_left
 ·refine jCO 3 rfl<|sTl j0 0 [I 0,I 0,I 0,nS] sizeOf38 fun _ s0=>jOR 5 rfl<|retC s0 0 [I 0,I 0,I 0,nS] (I 1) (isAgg38 _) (sizeOf38 _) ?_
  have hC:edgC p.v e0.policy e0.fill (sepCode p.v.max_ row col sh sh2 out) p.v.w p.v.h r=1:=edgC_a (fun h=>d0 h.2)
  have q1:=(s0.drops [0,0,0,0])
  have r1:Sat W _ ([]::H::F):=Sat.nilc q1
  exact ⟨(⟨0,0,0,⟨none,0,0,[]⟩⟩:Plane),1,_,rfl,⟨RdT.nil (enc:=Go.E.encI) (sz:=1) fR [[]]⟩,(by unfold sepT;rw [okT_c hC om];rfl),r1⟩
 refine gCO j0 12 [3] rfl<|cR call144 (r10_check p.max_ arow nrow krow row acol ncol kcol col sh sh2 out (RdT.flat (hrow.up 4 (by rfl))) (RdT.flat (hcol.up 4 (by rfl))) j0.flat) fun _ k0=>jOC 9 rfl<|cN (sepCode p.max_ row col sh sh2 out) 0 (fun t1=>?_) (fun t1=>?_)
 rotate_left
 ·refine jCO 4 rfl<|sTl k0 0 [I 0,I 0,I 0,nS] sizeOf38 fun _ t0=>jOR 5 rfl<|retC t0 0 [I 0,I 0,I 0,nS] (I (sepCode p.max_ row col sh sh2 out)) (isAgg38 _) (sizeOf38 _) ?_
  have hC:edgC p.v e0.policy e0.fill (sepCode p.v.max_ row col sh sh2 out) p.v.w p.v.h r=(sepCode p.max_ row col sh sh2 out):=edgC_b ⟨b0,d0⟩ (by simp only [Plane.v] at*;omega)
  have u1:=(t0.drops [0,0,0,0])
  have v1:Sat W _ ([]::H::F):=Sat.nilc u1
  exact ⟨(⟨0,0,0,⟨none,0,0,[]⟩⟩:Plane),(sepCode p.max_ row col sh sh2 out),_,rfl,⟨RdT.nil (enc:=Go.E.encI) (sz:=1) fR [[]]⟩,(by unfold sepT;rw [okT_c hC om];rfl),v1⟩
 refine jCC 3 rfl<|cutF k0 0 [2,3,4,5,6,8,9,15,16] (γ:=Unit) (fun _ R=>⟨[(57, .bool (decide (¬(insP r ⟨0,0,p.w,p.h⟩/\¬(r.x0=0/\r.y0=0/\r.x1=0/\r.y1=0)))))],R,0,True⟩) ?_ ?_
 ·refine drawG k0 [1,4,5,6,7] (fb 0 1 0 4<|fn) (Plan.sts [0]<| .ef 1<|Plan.sts [2]<|Plan.sts [3]<| .fk 4 5 (.ef 5<| .ef 6<| .ef 7<|Plan.sts [8]<|Plan.sts [9]<| .fin) (.fk 4 6 (.ef 6<| .ef 7<|Plan.sts [8]<|Plan.sts [9]<| .fin) (.ef 4<| .ef 7<|Plan.sts [8]<|Plan.sts [9]<| .fin))) fun _ w1=>qG 0 4<|qO rfl<|cR call79 (r2_full r w1.flat) fun _ a0=>nA<|qU [2]<|qU [3]<|qF ?_ ?_
  ·exact bC (rvP r/\¬(r.x0=0/\r.y0=0/\r.x1=0/\r.y1=0)) (fun g0=>qFix 51 _ true (congrArg Bool.not (decide_eq_false g0))<|qO rfl<|pu1<|nA<|qO rfl<|pu1<|nA<|qO rfl<|pu1<|nA<|qO rfl<|pu1<|nA<|qU [8]<|qU [9]<|qN<|jXI 0 rfl<|⟨(),⟨⟨(Eq.trans (b:= .bool true) kr (congrArg Value.bool (decide_eq_true (p:=¬(insP r ⟨0,0,p.w,p.h⟩/\¬(r.x0=0/\r.y0=0/\r.x1=0/\r.y1=0))) (by exact fun h=>g0 ⟨h.1.1,h.2⟩)).symm)),trivial⟩,sA⟩,a0,trivial⟩) fun g0=>qFix 51 _ false (congrArg Bool.not (decide_eq_true g0))<|qO rfl<|gY<|lA a0 1 0 4 (isAgg45 _) (sizeOf45 _)<|nA<|qO rfl<|gY<|lA a0 3 0 4 (isAgg38 _) (sizeOf38 _)<|nA<|qO rfl<|gY<|cR call108 (r4_cover p ⟨(RdT.flat (hp.pix.up 4 (by rfl)))⟩ a0.flat) fun _ z1=>nA<|qO rfl<|gY<|cR call107 (r2_inside r (⟨0,0,p.w,p.h⟩:Rct) z1.flat) fun _ a2=>nA<|qU [8]<|qU [9]<|qN<|jXI 0 rfl<|⟨(),⟨⟨(Eq.trans (b:= .bool (!decide (insP r (⟨0,0,p.w,p.h⟩:Rct)))) kr (congrArg Value.bool (by rw [Bool.eq_iff_iff];simp only [decide_eq_true_eq,beq_iff_eq,bne_iff_ne,ne_eq,Bool.not_eq_true',decide_eq_false_iff_not,gt_iff_lt,ge_iff_le,Bool.and_eq_true,Bool.or_eq_true,Bool.not_eq_eq_eq_not,Bool.not_true,Bool.and_eq_false_imp,beq_eq_false_iff_ne]<;>exact ⟨fun h k=>h k.1,fun h k=>h ⟨k,g0.2⟩⟩))),trivial⟩,sA⟩,a2,trivial⟩
  by_cases c0:rvP r/\¬(r.x0=0/\r.y0=0/\r.x1=0/\r.y1=0)
  rotate_left
  ·refine qFix 51 _ true (congrArg Bool.not (decide_eq_false c0))<|qO rfl<|pu1<|nA<|qF ?_ ?_
   rotate_left
   ·exact qO rfl<|pu1<|nA<|qO rfl<|pu1<|nA<|qO rfl<|pu1<|nA<|qU [8]<|qU [9]<|qN<|jXI 0 rfl<|⟨(),⟨⟨(Eq.trans (b:= .bool true) kr (congrArg Value.bool (decide_eq_true (p:=¬(insP r ⟨0,0,p.w,p.h⟩/\¬(r.x0=0/\r.y0=0/\r.x1=0/\r.y1=0))) (by exact fun h=>c0 ⟨h.1.1,h.2⟩)).symm)),trivial⟩,sA⟩,a0,trivial⟩
   exact qO rfl<|pu1<|nA<|qO rfl<|pu1<|nA<|qO rfl<|pu1<|nA<|qU [8]<|qU [9]<|qN<|jXI 0 rfl<|⟨(),⟨⟨(Eq.trans (b:= .bool true) kr (congrArg Value.bool (decide_eq_true (p:=¬(insP r ⟨0,0,p.w,p.h⟩/\¬(r.x0=0/\r.y0=0/\r.x1=0/\r.y1=0))) (by exact fun h=>c0 ⟨h.1.1,h.2⟩)).symm)),trivial⟩,sA⟩,a0,trivial⟩
  refine qFix 51 _ false (congrArg Bool.not (decide_eq_true c0))<|qO rfl<|gY<|lA a0 3 0 4 (isAgg38 _) (sizeOf38 _)<|nA<|qF ?_ ?_
  rotate_left
  ·exact qO rfl<|gY<|cR call108 (r4_cover p ⟨(RdT.flat (hp.pix.up 4 (by rfl)))⟩ a0.flat) fun _ u0=>nA<|qO rfl<|gY<|lA u0 1 0 4 (isAgg45 _) (sizeOf45 _)<|nA<|qO rfl<|gY<|cR call107 (r2_inside r (⟨0,0,p.w,p.h⟩:Rct) u0.flat) fun _ b2=>nA<|qU [8]<|qU [9]<|qN<|jXI 0 rfl<|⟨(),⟨⟨(Eq.trans (b:= .bool (!decide (insP r (⟨0,0,p.w,p.h⟩:Rct)))) kr (congrArg Value.bool (by rw [Bool.eq_iff_iff];simp only [decide_eq_true_eq,beq_iff_eq,bne_iff_ne,ne_eq,Bool.not_eq_true',decide_eq_false_iff_not,gt_iff_lt,ge_iff_le,Bool.and_eq_true,Bool.or_eq_true,Bool.not_eq_eq_eq_not,Bool.not_true,Bool.and_eq_false_imp,beq_eq_false_iff_ne]<;>exact ⟨fun h k=>h k.1,fun h k=>h ⟨k,c0.2⟩⟩))),trivial⟩,sA⟩,b2,trivial⟩
  exact qO rfl<|gY<|lA a0 1 0 4 (isAgg45 _) (sizeOf45 _)<|nA<|qO rfl<|gY<|cR call108 (r4_cover p ⟨(RdT.flat (hp.pix.up 4 (by rfl)))⟩ a0.flat) fun _ c2=>nA<|qO rfl<|gY<|cR call107 (r2_inside r (⟨0,0,p.w,p.h⟩:Rct) c2.flat) fun _ d2=>nA<|qU [8]<|qU [9]<|qN<|jXI 0 rfl<|⟨(),⟨⟨(Eq.trans (b:= .bool (!decide (insP r (⟨0,0,p.w,p.h⟩:Rct)))) kr (congrArg Value.bool (by rw [Bool.eq_iff_iff];simp only [decide_eq_true_eq,beq_iff_eq,bne_iff_ne,ne_eq,Bool.not_eq_true',decide_eq_false_iff_not,gt_iff_lt,ge_iff_le,Bool.and_eq_true,Bool.or_eq_true,Bool.not_eq_eq_eq_not,Bool.not_true,Bool.and_eq_false_imp,beq_eq_false_iff_ne]<;>exact ⟨fun h k=>h k.1,fun h k=>h ⟨k,c0.2⟩⟩))),trivial⟩,sA⟩,d2,trivial⟩
 rintro _ ρ _ ⟨h0,_⟩
 refine cD (¬(insP r ⟨0,0,p.w,p.h⟩/\¬(r.x0=0/\r.y0=0/\r.x1=0/\r.y1=0))) (fun l0=>?_) (fun l0=>?_)
 ·refine jCO 3 rfl<|sTl h0 0 [I 0,I 0,I 0,nS] sizeOf38 fun _ v0=>jOR 5 rfl<|retC v0 0 [I 0,I 0,I 0,nS] (I 8) (isAgg38 _) (sizeOf38 _) ?_
  have hsz:=(plane_sz b0).1;unfold sizeP at hsz;simp only [Plane.v] at hsz
  have hC:edgC p.v e0.policy e0.fill (sepCode p.v.max_ row col sh sh2 out) p.v.w p.v.h r=8:=edgC_c ⟨b0,d0⟩ (by simp only [Plane.v] at*;omega) (fun h=>by have h2:=(ins_in (by simp only [Plane.v];omega) (by simp only [Plane.v];omega)).2 h;exact l0 ⟨h2.2,h2.1⟩)
  have e2:=(v0.drops [0,0,0,0])
  have f2:Sat W _ ([]::H::F):=Sat.nilc e2
  exact ⟨(⟨0,0,0,⟨none,0,0,[]⟩⟩:Plane),8,_,rfl,⟨RdT.nil (enc:=Go.E.encI) (sz:=1) fR [[]]⟩,(by unfold sepT;rw [okT_c hC om];rfl),f2⟩
 refine jCC 3 rfl ?_
 have hpo:planeOK p.v=true:=b0;have hev:edgeV e0.policy e0.fill p.max_:=d0;have hcc:(sepCode p.v.max_ row col sh sh2 out)=0:=by simp only [Plane.v];omega
 have hsz:=(plane_sz hpo).1;unfold sizeP at hsz;simp only [Plane.v] at hsz
 have hri:rIn r p.w p.h:=(ins_in om om).1 (And.comm.1 (Classical.not_not.1 l0))
 have hri0:=hri;unfold rIn at hri0;obtain ⟨hcl,hcs,hco,hbr,hbc⟩:=sep_ok hcc
 obtain ⟨Wn,hW⟩:∃k:Nat,r.x1-r.x0=(k:Int):=⟨_,(Int.toNat_of_nonneg om).symm⟩;obtain ⟨Hn,hH⟩:∃k:Nat,r.y1-r.y0=(k:Int):=⟨_,(Int.toNat_of_nonneg om).symm⟩
 have hWb:1<=Wn/\Wn<=128/\1<=Hn/\Hn<=128:=om;have hWH:Hn*Wn<=4096:=by have h1:=rIn_area hri (by first|omega|assumption);rw [hW,hH] at h1;have h2:((Hn*Wn:Nat):Int)=(Wn:Int)*(Hn:Int):=(by push_cast;rw [Int.mul_comm]);omega
 have hWi:(r.x1-r.x0)*(r.y1-r.y0)=((Hn*Wn:Nat):Int):=by rw [hW,hH];push_cast;rw [Int.mul_comm]
 have ht2:(ncol:Int).tdiv 2=(ncol:Int)/2:=Int.tdiv_eq_ediv_of_nonneg om;have haw_col:=(wCode_len (bnd_t hbc).1).2.2
 obtain ⟨f,hf⟩:∃f:Int->Int->Int,f=fun i j=>sepX p.v e0.policy e0.fill row col sh sh2 out (r.x0+i) (r.y0+j):=⟨_,rfl⟩
 refine gCO h0 5 [1,1] rfl<|sSub r.x1 r.x0<|gOO h0 4 [1,1] rfl<|sSub r.y1 r.y0<|pu1<|cX call12 (r4_new (r.x1-r.x0) (r.y1-r.y0) out (by unfold sizeP;omega) h0.flat) ?_
 rintro _ _ ⟨w0,z0,a1,g2,rfl,m0,i2⟩
 have j2:=i2.unflat1;have hn_az_59:=m0.len;have hl_az_59:=m0.le
 refine pu3<|sAlloc j2 zeroValue38 fun b1 _ k2=>sTl k2 0 [I (r.x1-r.x0),I (r.y1-r.y0),I out, .slice w0 z0 a1] sizeOf38 fun _ c1=>gOC c1 12 [3] rfl ?_
 have l2:=(c1.pick 1 rfl)
 refine loopF [2,3,4,5,6,8,9,15,16,19] (γ:=Nat×Int×(List Int)×(Option Addr)×Nat×Nat×Chunk) (fun ⟨i,yy,zs,azs,nzs,kzs,czs⟩ R=>⟨[(21,I yy)],czs::[(b1, .cells #[I (r.x1-r.x0),I (r.y1-r.y0),I out, .slice azs nzs kzs] 38 (0,0))]::R,Hn-i,i<=Hn/\(yy=r.y0+(i:Int))/\(zs=gridN Wn f (i*Wn)++List.replicate (Hn*Wn-i*Wn) 0)/\OwnT Go.E.encI 3 1 azs nzs kzs zs czs⟩) (0,r.y0,(List.replicate ((r.x1-r.x0)*(r.y1-r.y0)).toNat 0),w0,z0,a1,g2) ⟨l2,om,om,(by rw [hWi,Int.toNat_natCast,Nat.zero_mul];rfl),m0⟩ ?_
 rintro ⟨i,yy,zs,azs,nzs,kzs,czs⟩ ρ _ ⟨f0,hi,hyy,hE,hOzs⟩
 have hn_zs:=hOzs.len;have hl_zs:=hOzs.le
 refine gCC f0 9 [3] rfl<|cD (yy<r.y1) (fun m2=>?_) (fun m2=>?_)
 rotate_left
 ·refine gCO f0 8 [401] rfl<|sTl f0 2 [I (r.x1-r.x0),I (r.y1-r.y0),I out, .slice azs nzs kzs] sizeOf38 fun _ d1=>jOR 4 rfl<|retC d1 2 [I (r.x1-r.x0),I (r.y1-r.y0),I out, .slice azs nzs kzs] (I 0) (isAgg38 _) (sizeOf38 _) ?_
  have hz9:zs=gridN Wn f (Hn*Wn):=by rw [hE,show i=Hn by omega,Nat.sub_self,List.replicate_zero,List.append_nil]
  have hC:edgC p.v e0.policy e0.fill (sepCode p.v.max_ row col sh sh2 out) p.v.w p.v.h r=0:=edgC_ok hpo hev hcc hri
  exact ⟨(⟨(r.x1-r.x0),(r.y1-r.y0),out,⟨azs,nzs,kzs,zs⟩⟩:Plane),0,_,rfl,⟨(hOzs.rdAt (cs:=[czs]) 0 rfl)⟩,(by unfold sepT;rw [okT_0 hC,mk_pl hri hW hH (hf▸hz9)];rfl),(d1.drops [1,1,1,1,1])⟩
 refine gCC f0 12 [3] rfl<|loopF [2,3,4,5,6,8,9,15,16,19,21] (γ:=Nat×Int×(List Int)×(Option Addr)×Nat×Nat×Chunk) (fun ⟨j,xx,zt,azt,nzt,kzt,czt⟩ R=>⟨[(22,I xx)],czt::[(b1, .cells #[I (r.x1-r.x0),I (r.y1-r.y0),I out, .slice azt nzt kzt] 38 (0,0))]::R,Wn-j,j<=Wn/\(xx=r.x0+(j:Int))/\(zt=gridN Wn f (i*Wn+j)++List.replicate (Hn*Wn-(i*Wn+j)) 0)/\OwnT Go.E.encI 3 1 azt nzt kzt zt czt⟩) (0,r.x0,zs,azs,nzs,kzs,czs) ⟨f0,om,om,(by rw [Nat.add_zero];exact hE),hOzs⟩ ?_
 rintro ⟨j,xx,zt,azt,nzt,kzt,czt⟩ ρ _ ⟨n0,hj,hxx,hE2,hOzt⟩
 have hn_zt:=hOzt.len;have hl_zt:=hOzt.le
 have hzl2:zt.length=Hn*Wn:=by rw [hE2,List.length_append,grid_len,List.length_replicate];have h1:=Nat.mul_le_mul_right Wn (show i+1<=Hn by omega);rw [Nat.add_mul,Nat.one_mul] at h1;omega
 have hij:i*Wn+j<=Hn*Wn:=by have h1:=Nat.mul_le_mul_right Wn (show i+1<=Hn by omega);rw [Nat.add_mul,Nat.one_mul] at h1;omega
 have hij2:i*Wn+Wn<=Hn*Wn:=by have h1:=Nat.mul_le_mul_right Wn (show i+1<=Hn by omega);rw [Nat.add_mul,Nat.one_mul] at h1;omega
 have hpr:(yy-r.y0)*(r.x1-r.x0)=((i*Wn:Nat):Int):=by rw [show yy-r.y0=(i:Int) by omega,hW];push_cast;rfl
 refine gCC n0 9 [3] rfl<|cD (xx<r.x1) (fun o2=>?_) (fun o2=>?_)
 rotate_left
 ·refine jCO 8 rfl<|sAdd yy 1<|jOI 2 rfl ?_
  exact ⟨(i+1,(yy+1),zt,azt,nzt,kzt,czt),od,alB,n0,om,om,(by rw [Nat.add_mul,Nat.one_mul,hE2,show j=Wn by omega]),hOzt⟩
 refine jCC 16 rfl<|loopF [2,3,4,5,6,8,9,15,16,19,21,22] (γ:=Nat×Int) (fun ⟨k,s1⟩ R=>⟨[(24,I (k:Int)),(23,I s1)],R,ncol-k,k<=ncol/\(s1=sepS p.v e0.policy e0.fill row col sh xx yy k)⟩) (0,0) ⟨n0,om,by rfl⟩ ?_
 rintro ⟨k,s1⟩ ρ _ ⟨e1,hk,hs1⟩
 have hsb:=sep_part (row:=row) (col:=col) (x:=xx) (y:=yy) hpo hev hcc (n:=k) om
 refine jCC 9 rfl<|cD ((k:Int)<(ncol:Int)) (fun q2=>?_) (fun q2=>?_)
 rotate_left
 ·refine jCC 5 rfl ?_
  obtain ⟨r2,f4,g4,s2,h4,t2,u2⟩:=OwnT.elem hOzt ((((yy-r.y0)*(r.x1-r.x0))+xx)-r.x0)
  refine drawF e1 [16,18,20] (fb 1 1 3 1<|fb 4 3 1 1<|fb 7 1 0 1<|fb 12 3 0 1<|fn) [0,2,3,6,9,11,14,15,17,1,4,5,7,8,10,12,13,16,18,19,20] fun _ v2=>wV 9<|wL 0<|wL 1<|wSub yy r.y0<|wL 2<|wMul (yy-r.y0) (r.x1-r.x0)<|wAdd ((yy-r.y0)*(r.x1-r.x0)) xx<|wL 3<|wSub (((yy-r.y0)*(r.x1-r.x0))+xx) r.x0<|wO rfl<|cR call149 (r7_shift s1 sh2 v2.flat) fun _ f1=>nZ f1 [1,3,1,3]<|wO rfl<|cR call148 (r7_clamp (shiftV s1 sh2) out f1.flat) fun _ g1=>nZ g1 [1,3,1,3]<|wI t2<|wO rfl<|sStF g1 hOzt u2 0 (((((yy-r.y0)*(r.x1-r.x0))+xx)-r.x0)).toNat 0 r2 (clampV (shiftV s1 sh2) out) s2 (I (clampV (shiftV s1 sh2) out)) [I (clampV (shiftV s1 sh2) out)] sizeOf3 fun _ w2 x2 y2=>nA<|wN<|jXO 4 rfl<|sAdd xx 1<|jOI 2 rfl ?_
  exact ⟨(j+1,(xx+1),(zt.set ((((((yy-r.y0)*(r.x1-r.x0))+xx)-r.x0)).toNat) (clampV (shiftV s1 sh2) out)),azt,nzt,kzt,w2),od,alB,y2,om,om,(by rw [show ((((((yy-r.y0)*(r.x1-r.x0))+xx)-r.x0)).toNat)=i*Wn+j by omega,hE2,fill_set (grid_len _ _ _) om,<-Nat.add_assoc,grid_succ om];congr 2;rw [hf];dsimp only;rw [<-hxx,<-hyy];unfold sepX;rw [hn_col,show ncol=k by omega,<-hs1]),x2⟩
 refine jCC 4 rfl ?_
 obtain ⟨o0,l4,m4,p0,i1,z2⟩:=RdT.elem hcol (k:Int)
 rw [Int.toNat_natCast] at p0
 have hwx:=areW_at haw_col p0
 refine drawF e1 [17] (fq 4 0 (i1.up 6 rfl)<|fb 5 5 0 4<|fb 6 4 0 2<|fn) [0,1,2,3,7,8,9,10,11,12,13,14,15,16,4,5,6,17,18,19,20] fun _ a3=>wV 3<|wI z2<|wV 5<|wAdd yy (k:Int)<|wV 2<|wQuo (ncol:Int) 2<|wSub (yy+(k:Int)) ((ncol:Int).tdiv 2)<|wL 0<|wG 1 4<|wG 5 2<|wO rfl<|cR call150 (r10_mid p e0 arow nrow krow row sh xx ((yy+(k:Int))-((ncol:Int).tdiv 2)) ⟨(RdT.flat (hp.pix.up 6 (by rfl)))⟩ (RdT.flat (hrow.up 6 (by rfl))) hpo hev hbr om a3.flat) fun _ j1=>?_
 have hmb:=mid_bd (row:=row) (col:=col) (x:=xx) (y:=((yy+(k:Int))-((ncol:Int).tdiv 2))) hpo hev hcc;have hpm:=wmul_bd (v:=(midV p.v e0.policy e0.fill row sh xx ((yy+(k:Int))-((ncol:Int).tdiv 2)))) (B:=68719476736) hwx hmb (by decide)
 refine nilO ⟨⟨.inr ((i1.up 6 rfl).cell j1 (k:=0) rfl),dI,dI,dI,dI,dI,dI,trivial⟩,?_⟩
 exact wMul o0 (midV p.v e0.policy e0.fill row sh xx ((yy+(k:Int))-((ncol:Int).tdiv 2)))<|wAdd s1 (o0*(midV p.v e0.policy e0.fill row sh xx ((yy+(k:Int))-((ncol:Int).tdiv 2))))<|wV 1<|wN<|jXO 4 rfl<|sAdd (k:Int) 1<|jOI 2 rfl<|⟨(k+1,(s1+(o0*(midV p.v e0.policy e0.fill row sh xx ((yy+(k:Int))-((ncol:Int).tdiv 2)))))),od,alB,j1,om,(by rw [sep_succ p0,<-hs1,hn_col,<-ht2])⟩
end Go.Proofs.YtghcddbhllkbmaaGreat

namespace Go.Proofs.YtghcddbhllkbmaaGreat
open Go Go.E Go.Proofs.Tryz
set_option linter.all false
set_option maxRecDepth 100000
set_option maxHeartbeats 2000000
variable {W w:World} {H:Chunk} {F:List Chunk}
theorem rec_0 (p:PlaneV) (x y:Int) (i:Nat):recS p x y i 0=0:=by
  unfold recS
  rw [show (fun a:Nat=>colS p (x+a) y 0)=fun _=>0 from rfl]
  exact sumN_nil i
theorem row_bd {p:PlaneV} (h:planeOK p=true) (x y:Int) (i:Nat) {n:Nat} (hn:n<=128):0<=sumN (fun a=>pixAt p (x+(a:Int)) (y+(i:Int))) n/\sumN (fun a=>pixAt p (x+(a:Int)) (y+(i:Int))) n<=549755813888:=by
  have h1:=sumN_le (f:=fun _=>0) (g:=fun a=>pixAt p (x+(a:Int)) (y+(i:Int))) n (fun k _=>(pixAt_bd h _ _).1)
  have h2:=sumN_bd (f:=fun a=>pixAt p (x+(a:Int)) (y+(i:Int))) (B:=4294967296) n (fun k _=>by have:=pixAt_bd h (x+(k:Int)) (y+(i:Int));have:=pix_mx h;omega)
  rw [sumN_nil] at h1
  omega
theorem r11_mid (p:Plane) (e0:Edge) (t0:Tap) (sh:Int) (k0:Int) (hp:Plane.Ok [H] p) (ht0:Tap.Ok [H] t0) (hpo:planeOK p.v=true) (hev:edgeV e0.policy e0.fill p.max_) (hbt:bndOK t0.v.weights 0 p.max_=true) (hft:(1<=t0.v.weights.length/\t0.v.weights.length<=8)/\(-128<=t0.v.first/\t0.v.first<=256)/\areW t0.v.weights=true) (hS:Sat W w (H::F)):
  Ro prog 151 #[.agg (encPlane p).toArray, .agg #[I e0.policy,I e0.fill], .agg #[I t0.first, .slice t0.weights.a t0.weights.n t0.weights.k],I sh,I k0] (I (tapV p.v e0.policy e0.fill t0.v sh k0)) W w (H::F):=by
 have p0:=hp.pix.ll
 have m0:=ht0.weights.ll
 have r0:=(plane_sz hpo).1;unfold sizeP at r0;simp only [Plane.v] at r0;simp only [Tap.v] at hft
 refine callsK 39 func151 rfl<|jCO 2 rfl<|sBx hS (encPlane p) fun _ _ g0=>sBx g0 [I e0.policy,I e0.fill] fun _ _ h0=>sBx h0 [I t0.first, .slice t0.weights.a t0.weights.n t0.weights.k] fun _ _ i0=>jOC 15 rfl<|loopF [3,4,5,6,7] (γ:=Nat×Int) (fun ⟨a,s1⟩ R=>⟨[(12,I (a:Int)),(11,I s1)],R,t0.weights.n-a,a<=t0.weights.n/\(s1=tapS p.v e0.policy e0.fill t0.v k0 a)⟩) (0,0) ⟨i0,om,by rfl⟩ ?_
 rintro ⟨a,s1⟩ ρ _ ⟨c0,ha,q0⟩
 have v0:=tap_part hpo hev (t:=t0.v) (k:=k0) hbt (n:=a) (by simp only [Tap.v];omega)
 refine gCC c0 10 [0] rfl<|CD ((a:Int)<(t0.weights.n:Int)) (fun j0=>jCO 9 rfl<|cS (r7_shift s1 sh c0.flat) fun _ l0=>jOR 4 rfl<|retT [I (shiftV s1 sh)]<|⟨congrArg (fun z=>Ending.returned (I z)) (by unfold tapV;rw [show t0.v.weights.length=a from by simp only [Tap.v];omega,<-q0]),(l0.drops [0,0,0])⟩) fun j0=>jCC 4 rfl ?_
 obtain ⟨a0,y0,z0,d0,f0,n0⟩:=RdT.eN ht0.weights a
 exact drawF c0 [13] (fb 2 0 1 1<|fq 5 0 (f0.up 3 rfl)<|fb 6 2 0 4<|fb 7 1 0 2<|fb 9 0 0 1<|fn) [0,1,3,8,10,12,2,4,5,6,7,9,11,13,14,15,16] fun _ o0=>wV 6<|wL 0<|wI n0<|wL 1<|wG 2 4<|wG 6 2<|wL 8<|wAdd t0.first (a:Int)<|wO rfl<|cS (r4_pixel p e0 (t0.first+(a:Int)) k0 ⟨(hp.pix.fl 3)⟩ hpo hev o0.flat) fun _ b0=>(by have u0:=pix_bd hpo hev (x:=(t0.first+(a:Int))) (y:=k0);have s0:=wmul_bd (v:=(pixV p.v e0.policy e0.fill (t0.first+(a:Int)) k0)) (B:=4294967296) (areW_at hft.2.2 d0) (by simp only [Plane.v] at*;omega) (by decide);exact nilO ⟨⟨cI b0 0, .inr ((f0.up 3 rfl).cell b0 (k:=0) rfl),dI,dI,dI,dI,dI,dI,cI b0 0,trivial⟩,(wMul a0 (pixV p.v e0.policy e0.fill (t0.first+(a:Int)) k0)<|wAdd s1 (a0*(pixV p.v e0.policy e0.fill (t0.first+(a:Int)) k0))<|wV 1<|wN<|jXO 4 rfl<|sAdd (a:Int) 1<|jOI 2 rfl<|⟨(a+1,(s1+(a0*(pixV p.v e0.policy e0.fill (t0.first+(a:Int)) k0)))),od,alB,b0,om,(by rw [tapS_succ (show t0.v.weights[a]?=some a0 from d0),<-q0];rfl)⟩)⟩)
theorem r11_tile (p:Plane) (e0:Edge) (ax:Option Addr) (nx kx:Nat) (x:List Tap) (ay:Option Addr) (ny ky:Nat) (y:List Tap) (sh:Int) (sh2:Int) (out:Int) (r:Rct) (hp:Plane.Ok [H] p) (hx:RdT encTap 2 [H] ax nx kx x) (dx:∀z∈x,Tap.Ok [H] z) (hy:RdT encTap 2 [H] ay ny ky y) (dy:∀z∈y,Tap.Ok [H] z) (hS:Sat W w (H::F)):
  Calls prog 114 #[.agg (encPlane p).toArray, .agg #[I e0.policy,I e0.fill], .slice ax nx kx, .slice ay ny ky,I sh,I sh2,I out, .agg (encRct r).toArray] w fun e w'=>∃(q:Plane) (c:Int) (G:Chunk),e= .returned (.tuple #[.agg (encPlane q).toArray,I c])/\q.Ok [G]/\(q.v,c)=resT p.v e0.policy e0.fill (x.map Tap.v) (y.map Tap.v) sh sh2 out r/\Sat W w' (G::H::F):=by
 have hl_p_pix:=hp.pix.le;have hn_p_pix:=hp.pix.len
 have hl_x:=hx.le;have hn_x:=hx.len
 have hl_y:=hy.le;have hn_y:=hy.len
 refine callsK 155 func114 rfl<|jCO 2 rfl<|sBox hS (.agg (encPlane p).toArray) (encPlane p).toArray fun _ _ m1=>sBox m1 (.agg #[I e0.policy,I e0.fill]) #[I e0.policy,I e0.fill] fun _ _ n1=>sBox n1 (.agg (encRct r).toArray) (encRct r).toArray fun _ _ o1=>sAlloc o1 zeroValue38 fun _ _ s0=>gOO s0 7 [403] rfl<|cR call65 (r4_valid p ⟨(RdT.flat (hp.pix.up 4 (by rfl)))⟩ s0.flat) fun _ j0=>pu2<|sBn 28 (planeOK p.v) (fun a0=>?_) (fun a0=>?_)
 rotate_left
 ·refine jOO 12 rfl<|sTl j0 0 [I 0,I 0,I 0,nS] sizeOf38 fun _ t0=>jOR 5 rfl<|retC t0 0 [I 0,I 0,I 0,nS] (I 1) (isAgg38 _) (sizeOf38 _) ?_
  have hC:edgC p.v e0.policy e0.fill (resCode p.v.w p.v.h p.v.max_ (x.map Tap.v) (y.map Tap.v) sh sh2 out) ((x.map Tap.v).length:Int) ((y.map Tap.v).length:Int) r=1:=edgC_a (fun h=>a0 h.1)
  have q1:=(t0.drops [0,0,0,0])
  have r1:Sat W _ ([]::H::F):=Sat.nilc q1
  exact ⟨(⟨0,0,0,⟨none,0,0,[]⟩⟩:Plane),1,_,rfl,⟨RdT.nil (enc:=Go.E.encI) (sz:=1) fR [[]]⟩,(by unfold resT;rw [okT_c hC om];rfl),r1⟩
 refine gOO j0 3 [202,3] rfl<|gY<|cR call104 (r3_valid e0 p.max_ j0.flat) fun _ k0=>jOC 4 rfl<|cDn ((e0.policy=3/\0<=e0.fill/\e0.fill<=p.max_)\/(0<=e0.policy/\e0.policy<3/\e0.fill=0)) (fun b0=>?_) (fun b0=>?_)
 rotate_left
 ·refine jCO 3 rfl<|sTl k0 0 [I 0,I 0,I 0,nS] sizeOf38 fun _ u0=>jOR 5 rfl<|retC u0 0 [I 0,I 0,I 0,nS] (I 1) (isAgg38 _) (sizeOf38 _) ?_
  have hC:edgC p.v e0.policy e0.fill (resCode p.v.w p.v.h p.v.max_ (x.map Tap.v) (y.map Tap.v) sh sh2 out) ((x.map Tap.v).length:Int) ((y.map Tap.v).length:Int) r=1:=edgC_a (fun h=>b0 h.2)
  have t1:=(u0.drops [0,0,0,0])
  have u1:Sat W _ ([]::H::F):=Sat.nilc t1
  exact ⟨(⟨0,0,0,⟨none,0,0,[]⟩⟩:Plane),1,_,rfl,⟨RdT.nil (enc:=Go.E.encI) (sz:=1) fR [[]]⟩,(by unfold resT;rw [okT_c hC om];rfl),u1⟩
 refine gCO k0 17 [3,3,3] rfl<|cR call145 (r11_check (⟨p.w,p.h,p.max_⟩:Shape) ax nx kx x ay ny ky y sh sh2 out (RdT.flat (hx.up 4 (by rfl))) (fun z hz=>(dx z hz).of_mem (mem_flat1 4 (by rfl))) (RdT.flat (hy.up 4 (by rfl))) (fun z hz=>(dy z hz).of_mem (mem_flat1 4 (by rfl))) k0.flat) fun _ d0=>jOC 9 rfl<|cN (resCode (⟨p.w,p.h,p.max_⟩:Shape).w (⟨p.w,p.h,p.max_⟩:Shape).h (⟨p.w,p.h,p.max_⟩:Shape).max_ (x.map Tap.v) (y.map Tap.v) sh sh2 out) 0 (fun v1=>?_) (fun v1=>?_)
 rotate_left
 ·refine jCO 4 rfl<|sTl d0 0 [I 0,I 0,I 0,nS] sizeOf38 fun _ v0=>jOR 5 rfl<|retC v0 0 [I 0,I 0,I 0,nS] (I (resCode (⟨p.w,p.h,p.max_⟩:Shape).w (⟨p.w,p.h,p.max_⟩:Shape).h (⟨p.w,p.h,p.max_⟩:Shape).max_ (x.map Tap.v) (y.map Tap.v) sh sh2 out)) (isAgg38 _) (sizeOf38 _) ?_
  have hC:edgC p.v e0.policy e0.fill (resCode p.v.w p.v.h p.v.max_ (x.map Tap.v) (y.map Tap.v) sh sh2 out) ((x.map Tap.v).length:Int) ((y.map Tap.v).length:Int) r=(resCode (⟨p.w,p.h,p.max_⟩:Shape).w (⟨p.w,p.h,p.max_⟩:Shape).h (⟨p.w,p.h,p.max_⟩:Shape).max_ (x.map Tap.v) (y.map Tap.v) sh sh2 out):=edgC_b ⟨a0,b0⟩ (by simp only [Plane.v] at*;omega)
  have w1:=(v0.drops [0,0,0,0])
  have z1:Sat W _ ([]::H::F):=Sat.nilc w1
  exact ⟨(⟨0,0,0,⟨none,0,0,[]⟩⟩:Plane),(resCode (⟨p.w,p.h,p.max_⟩:Shape).w (⟨p.w,p.h,p.max_⟩:Shape).h (⟨p.w,p.h,p.max_⟩:Shape).max_ (x.map Tap.v) (y.map Tap.v) sh sh2 out),_,rfl,⟨RdT.nil (enc:=Go.E.encI) (sz:=1) fR [[]]⟩,(by unfold resT;rw [okT_c hC om];rfl),z1⟩
 refine jCC 3 rfl<|cutF d0 0 [2,3,4,5,6,8,9,15,16] (γ:=Unit) (fun _ R=>⟨[(65, .bool (decide (¬(insP r ⟨0,0,(nx:Int),(ny:Int)⟩/\¬(r.x0=0/\r.y0=0/\r.x1=0/\r.y1=0)))))],R,0,True⟩) ?_ ?_
 ·exact gCO d0 2 [401] rfl<|cR call79 (r2_full r d0.flat) fun _ l0=>pu2<|SDn 56 (rvP r/\¬(r.x0=0/\r.y0=0/\r.x1=0/\r.y1=0)) (fun m0=>jOI 10 rfl<|⟨(),⟨⟨(Eq.trans (b:= .bool true) kr (congrArg Value.bool (decide_eq_true (p:=¬(insP r ⟨0,0,(nx:Int),(ny:Int)⟩/\¬(r.x0=0/\r.y0=0/\r.x1=0/\r.y1=0))) (by exact fun h=>m0 ⟨h.1.1,h.2⟩)).symm)),trivial⟩,sA⟩,l0,trivial⟩) fun m0=>gOO l0 6 [401] rfl<|gY<|cR call107 (r2_inside r (⟨0,0,(nx:Int),(ny:Int)⟩:Rct) l0.flat) fun _ a2=>jOI 3 rfl<|⟨(),⟨⟨(Eq.trans (b:= .bool (!decide (insP r (⟨0,0,(nx:Int),(ny:Int)⟩:Rct)))) kr (congrArg Value.bool (by rw [Bool.eq_iff_iff];simp only [decide_eq_true_eq,beq_iff_eq,bne_iff_ne,ne_eq,Bool.not_eq_true',decide_eq_false_iff_not,gt_iff_lt,ge_iff_le,Bool.and_eq_true,Bool.or_eq_true,Bool.not_eq_eq_eq_not,Bool.not_true,Bool.and_eq_false_imp,beq_eq_false_iff_ne]<;>exact ⟨fun h k=>h k.1,fun h k=>h ⟨k,m0.2⟩⟩))),trivial⟩,sA⟩,a2,trivial⟩
 rintro _ ρ _ ⟨f0,_⟩
 refine cD (¬(insP r ⟨0,0,(nx:Int),(ny:Int)⟩/\¬(r.x0=0/\r.y0=0/\r.x1=0/\r.y1=0))) (fun n0=>?_) (fun n0=>?_)
 ·refine jCO 3 rfl<|sTl f0 0 [I 0,I 0,I 0,nS] sizeOf38 fun _ w0=>jOR 5 rfl<|retC w0 0 [I 0,I 0,I 0,nS] (I 8) (isAgg38 _) (sizeOf38 _) ?_
  obtain ⟨htx,hty,_⟩:=res_ok (show (resCode p.v.w p.v.h p.v.max_ (x.map Tap.v) (y.map Tap.v) sh sh2 out)=0 by simp only [Plane.v];omega);have hlx:=tapsCode_len htx;have hly:=tapsCode_len hty;have hxl:(x.map Tap.v).length=nx:=by rw [List.length_map];exact hn_x
  have hyl:(y.map Tap.v).length=ny:=by rw [List.length_map];exact hn_y
  have hC:edgC p.v e0.policy e0.fill (resCode p.v.w p.v.h p.v.max_ (x.map Tap.v) (y.map Tap.v) sh sh2 out) ((x.map Tap.v).length:Int) ((y.map Tap.v).length:Int) r=8:=edgC_c ⟨a0,b0⟩ (by simp only [Plane.v] at*;omega) (fun h=>by have h2:=(ins_in om om).2 h;rw [hxl,hyl] at h2;exact n0 ⟨h2.2,h2.1⟩)
  have b2:=(w0.drops [0,0,0,0])
  have c2:Sat W _ ([]::H::F):=Sat.nilc b2
  exact ⟨(⟨0,0,0,⟨none,0,0,[]⟩⟩:Plane),8,_,rfl,⟨RdT.nil (enc:=Go.E.encI) (sz:=1) fR [[]]⟩,(by unfold resT;rw [okT_c hC om];rfl),c2⟩
 refine jCC 3 rfl ?_
 have hpo:planeOK p.v=true:=a0;have hev:edgeV e0.policy e0.fill p.max_:=b0;have hcc:(resCode p.v.w p.v.h p.v.max_ (x.map Tap.v) (y.map Tap.v) sh sh2 out)=0:=by simp only [Plane.v];omega
 have hsz:=(plane_sz hpo).1;unfold sizeP at hsz;simp only [Plane.v] at hsz
 obtain ⟨htx,hty,hxy,hss,hoo,hbX0,hbY0⟩:=res_ok hcc;obtain ⟨hlx,hfX⟩:=taps_ok htx;obtain ⟨hly,hfY⟩:=taps_ok hty;have hbX:=List.all_eq_true.1 hbX0;have hxl:(x.map Tap.v).length=nx:=by rw [List.length_map];exact hn_x
 have hyl:(y.map Tap.v).length=ny:=by rw [List.length_map];exact hn_y
 have hri:rIn r ((x.map Tap.v).length:Int) ((y.map Tap.v).length:Int):=(ins_in om om).1 (And.comm.1 (by rw [hxl,hyl];exact Classical.not_not.1 n0))
 have hri0:=hri;unfold rIn at hri0
 obtain ⟨Wn,hW⟩:∃k:Nat,r.x1-r.x0=(k:Int):=⟨_,(Int.toNat_of_nonneg om).symm⟩;obtain ⟨Hn,hH⟩:∃k:Nat,r.y1-r.y0=(k:Int):=⟨_,(Int.toNat_of_nonneg om).symm⟩
 have hWb:1<=Wn/\Wn<=128/\1<=Hn/\Hn<=128:=om;have hWH:Hn*Wn<=4096:=by have h1:=rIn_area hri (by first|omega|assumption);rw [hW,hH] at h1;have h2:((Hn*Wn:Nat):Int)=(Wn:Int)*(Hn:Int):=(by push_cast;rw [Int.mul_comm]);omega
 have hWi:(r.x1-r.x0)*(r.y1-r.y0)=((Hn*Wn:Nat):Int):=by rw [hW,hH];push_cast;rw [Int.mul_comm]
 obtain ⟨f,hf⟩:∃f:Int->Int->Int,f=fun i j=>resX p.v e0.policy e0.fill (x.map Tap.v) (y.map Tap.v) sh sh2 out (r.x0+i) (r.y0+j):=⟨_,rfl⟩
 refine gCO f0 5 [1,1] rfl<|sSub r.x1 r.x0<|gOO f0 4 [1,1] rfl<|sSub r.y1 r.y0<|pu1<|cX call12 (r4_new (r.x1-r.x0) (r.y1-r.y0) out (by unfold sizeP;omega) f0.flat) ?_
 rintro _ _ ⟨z0,a1,b1,d2,rfl,o0,e2⟩
 have f2:=e2.unflat1;have hn_az_42:=o0.len;have hl_az_42:=o0.le
 refine pu3<|sAlloc f2 zeroValue38 fun c1 _ g2=>sTl g2 0 [I (r.x1-r.x0),I (r.y1-r.y0),I out, .slice z0 a1 b1] sizeOf38 fun _ d1=>gOC d1 12 [3] rfl ?_
 have i2:=(d1.pick 1 rfl)
 refine loopF [2,3,4,5,6,8,9,15,16,19] (γ:=Nat×Int×(List Int)×(Option Addr)×Nat×Nat×Chunk) (fun ⟨i,yy,zs,azs,nzs,kzs,czs⟩ R=>⟨[(21,I yy)],czs::[(c1, .cells #[I (r.x1-r.x0),I (r.y1-r.y0),I out, .slice azs nzs kzs] 38 (0,0))]::R,Hn-i,i<=Hn/\(yy=r.y0+(i:Int))/\(zs=gridN Wn f (i*Wn)++List.replicate (Hn*Wn-i*Wn) 0)/\OwnT Go.E.encI 3 1 azs nzs kzs zs czs⟩) (0,r.y0,(List.replicate ((r.x1-r.x0)*(r.y1-r.y0)).toNat 0),z0,a1,b1,d2) ⟨i2,om,om,(by rw [hWi,Int.toNat_natCast,Nat.zero_mul];rfl),o0⟩ ?_
 rintro ⟨i,yy,zs,azs,nzs,kzs,czs⟩ ρ _ ⟨c0,hi,hyy,hE,hOzs⟩
 have hn_zs:=hOzs.len;have hl_zs:=hOzs.le
 refine gCC c0 9 [3] rfl<|cD (yy<r.y1) (fun j2=>?_) (fun j2=>?_)
 rotate_left
 ·refine gCO c0 8 [401] rfl<|sTl c0 2 [I (r.x1-r.x0),I (r.y1-r.y0),I out, .slice azs nzs kzs] sizeOf38 fun _ e1=>jOR 4 rfl<|retC e1 2 [I (r.x1-r.x0),I (r.y1-r.y0),I out, .slice azs nzs kzs] (I 0) (isAgg38 _) (sizeOf38 _) ?_
  have hz9:zs=gridN Wn f (Hn*Wn):=by rw [hE,show i=Hn by omega,Nat.sub_self,List.replicate_zero,List.append_nil]
  have hC:edgC p.v e0.policy e0.fill (resCode p.v.w p.v.h p.v.max_ (x.map Tap.v) (y.map Tap.v) sh sh2 out) ((x.map Tap.v).length:Int) ((y.map Tap.v).length:Int) r=0:=edgC_ok hpo hev hcc hri
  exact ⟨(⟨(r.x1-r.x0),(r.y1-r.y0),out,⟨azs,nzs,kzs,zs⟩⟩:Plane),0,_,rfl,⟨(hOzs.rdAt (cs:=[czs]) 0 rfl)⟩,(by unfold resT;rw [okT_0 hC,mk_pl hri hW hH (hf▸hz9)];rfl),(e1.drops [1,1,1,1,1])⟩
 refine gCC c0 12 [3] rfl<|loopF [2,3,4,5,6,8,9,15,16,19,21] (γ:=Nat×Int×(List Int)×(Option Addr)×Nat×Nat×Chunk) (fun ⟨j,xx,zt,azt,nzt,kzt,czt⟩ R=>⟨[(22,I xx)],czt::[(c1, .cells #[I (r.x1-r.x0),I (r.y1-r.y0),I out, .slice azt nzt kzt] 38 (0,0))]::R,Wn-j,j<=Wn/\(xx=r.x0+(j:Int))/\(zt=gridN Wn f (i*Wn+j)++List.replicate (Hn*Wn-(i*Wn+j)) 0)/\OwnT Go.E.encI 3 1 azt nzt kzt zt czt⟩) (0,r.x0,zs,azs,nzs,kzs,czs) ⟨c0,om,om,(by rw [Nat.add_zero];exact hE),hOzs⟩ ?_
 rintro ⟨j,xx,zt,azt,nzt,kzt,czt⟩ ρ _ ⟨p0,hj,hxx,hE2,hOzt⟩
 have hn_zt:=hOzt.len;have hl_zt:=hOzt.le
 have hzl2:zt.length=Hn*Wn:=by rw [hE2,List.length_append,grid_len,List.length_replicate];have h1:=Nat.mul_le_mul_right Wn (show i+1<=Hn by omega);rw [Nat.add_mul,Nat.one_mul] at h1;omega
 have hij:i*Wn+j<=Hn*Wn:=by have h1:=Nat.mul_le_mul_right Wn (show i+1<=Hn by omega);rw [Nat.add_mul,Nat.one_mul] at h1;omega
 have hij2:i*Wn+Wn<=Hn*Wn:=by have h1:=Nat.mul_le_mul_right Wn (show i+1<=Hn by omega);rw [Nat.add_mul,Nat.one_mul] at h1;omega
 have hpr:(yy-r.y0)*(r.x1-r.x0)=((i*Wn:Nat):Int):=by rw [show yy-r.y0=(i:Int) by omega,hW];push_cast;rfl
 refine gCC p0 9 [3] rfl<|cD (xx<r.x1) (fun l2=>?_) (fun l2=>?_)
 rotate_left
 ·refine jCO 8 rfl<|sAdd yy 1<|jOI 2 rfl ?_
  exact ⟨(i+1,(yy+1),zt,azt,nzt,kzt,czt),od,alB,p0,om,om,(by rw [Nat.add_mul,Nat.one_mul,hE2,show j=Wn by omega]),hOzt⟩
 refine jCC 5 rfl ?_
 obtain ⟨t9,ht9⟩:=at_some (xs:=y) hn_y (k:=yy.toNat) om;have hym:=map_at (f:=Tap.v) ht9;have htm:=List.mem_of_getElem? hym;have hbt:=List.all_eq_true.1 hbY0 _ htm;have hft:=hfY _ htm;have hta:tapAt (y.map Tap.v) yy=t9.v:=tapAt_eq hym;simp only [Tap.v] at hft
 have hnw:=(dy t9 (List.mem_of_getElem? ht9)).weights.len;have hlw:=(dy t9 (List.mem_of_getElem? ht9)).weights.le
 obtain ⟨t8,ht8⟩:=at_some (xs:=x) hn_x (k:=xx.toNat) om;have hxm:=map_at (f:=Tap.v) ht8;have hxmm:=List.mem_of_getElem? hxm;have hxa:tapAt (x.map Tap.v) xx=t8.v:=tapAt_eq hxm;have hbxu:=hbX _ hxmm;have hfxu:=hfX _ hxmm
 refine jCC 11 rfl<|loopF [2,3,4,5,6,8,9,15,16,19,21,22] (γ:=Nat×Int) (fun ⟨k,s1⟩ R=>⟨[(24,I (k:Int)),(23,I s1)],R,t9.weights.n-k,k<=t9.weights.n/\(s1=resS p.v e0.policy e0.fill t8.v t9.v sh k)⟩) (0,0) ⟨p0,om,by rfl⟩ ?_
 rintro ⟨k,s1⟩ ρ _ ⟨q0,hk,hs1⟩
 have hsb:=res_part hpo hev hcc hxmm htm (n:=k) (by simp only [Tap.v];omega)
 refine jCO 6 rfl<|sIdx hy yy runUnderlying50 sizeOf121 fun m2 _ _ n2 o2=>?_
 obtain rfl:t9=m2:=Option.some.inj (ht9.symm.trans n2)
 refine pu1<|sLp q0 (o2.up 6 rfl) 1 (.slice t9.weights.a t9.weights.n t9.weights.k) (isAgg22 _)<|jOC 4 rfl<|cD ((k:Int)<(t9.weights.n:Int)) (fun q2=>?_) (fun q2=>?_)
 rotate_left
 ·refine jCC 5 rfl ?_
  obtain ⟨r2,g4,h4,s2,i4,t2,u2⟩:=OwnT.elem hOzt ((((yy-r.y0)*(r.x1-r.x0))+xx)-r.x0)
  refine drawF q0 [16,18,20] (fb 1 1 3 1<|fb 4 3 1 1<|fb 7 1 0 1<|fb 12 3 0 1<|fn) [0,2,3,6,9,11,14,15,17,1,4,5,7,8,10,12,13,16,18,19,20] fun _ v2=>wV 9<|wL 0<|wL 1<|wSub yy r.y0<|wL 2<|wMul (yy-r.y0) (r.x1-r.x0)<|wAdd ((yy-r.y0)*(r.x1-r.x0)) xx<|wL 3<|wSub (((yy-r.y0)*(r.x1-r.x0))+xx) r.x0<|wO rfl<|cR call149 (r7_shift s1 sh2 v2.flat) fun _ f1=>nZ f1 [1,3,1,3]<|wO rfl<|cR call148 (r7_clamp (shiftV s1 sh2) out f1.flat) fun _ g1=>nZ g1 [1,3,1,3]<|wI t2<|wO rfl<|sStF g1 hOzt u2 0 (((((yy-r.y0)*(r.x1-r.x0))+xx)-r.x0)).toNat 0 r2 (clampV (shiftV s1 sh2) out) s2 (I (clampV (shiftV s1 sh2) out)) [I (clampV (shiftV s1 sh2) out)] sizeOf3 fun _ w2 x2 y2=>nA<|wN<|jXO 4 rfl<|sAdd xx 1<|jOI 2 rfl ?_
  exact ⟨(j+1,(xx+1),(zt.set ((((((yy-r.y0)*(r.x1-r.x0))+xx)-r.x0)).toNat) (clampV (shiftV s1 sh2) out)),azt,nzt,kzt,w2),od,alB,y2,om,om,(by rw [show ((((((yy-r.y0)*(r.x1-r.x0))+xx)-r.x0)).toNat)=i*Wn+j by omega,hE2,fill_set (grid_len _ _ _) om,<-Nat.add_assoc,grid_succ om];congr 2;rw [hf];dsimp only;rw [<-hxx,<-hyy];unfold resX;rw [hta,hxa,show t9.v.weights.length=k from by simp only [Tap.v];omega,<-hs1]),x2⟩
 refine jCC 4 rfl ?_
 obtain ⟨z2,m4,n4,i1,g0,j1⟩:=RdT.elem hy yy
 obtain rfl:t9=z2:=Option.some.inj (ht9.symm.trans i1)
 obtain ⟨a3,o4,p4,k1,b3,c3⟩:=RdT.elem hx xx
 obtain rfl:t8=a3:=Option.some.inj (ht8.symm.trans k1)
 obtain ⟨h0,q4,r4,r0,l1,d3⟩:=RdT.elem (dy t9 (List.mem_of_getElem? i1)).weights (k:Int)
 rw [Int.toNat_natCast] at r0
 have hwx:=areW_at hft.2.2 r0;have hwv:t9.v.weights[k]?=some h0:=r0
 refine drawF q0 [23] (fq 5 1 (g0.up 6 rfl)<|fq 8 0 (l1.up 6 rfl)<|fb 9 5 0 4<|fb 10 4 0 2<|fp 14 (b3.up 6 rfl)<|fq 20 0 (g0.up 6 rfl)<|fn) [0,1,2,3,4,6,11,12,13,15,16,17,18,19,21,5,7,8,9,10,14,20,22,23,24,25,26] fun _ e3=>wV 3<|wI j1<|wV 4<|wI c3<|wV 3<|wI j1<|wV 2<|wL 0<|wI d3<|wL 1<|wG 2 4<|wG 6 2<|wG 8 2<|wL 10<|wAdd t9.first (k:Int)<|wO rfl<|cR call151 (r11_mid p e0 t8 sh (t9.first+(k:Int)) ⟨(RdT.flat (hp.pix.up 6 (by rfl)))⟩ ⟨(RdT.flat ((dx t8 (List.mem_of_getElem? k1)).weights.up 6 (by rfl)))⟩ hpo hev hbxu hfxu e3.flat) fun _ i0=>?_
 have hgb:=tap_bd hpo hev (s:=sh) (k:=(t9.first+(k:Int))) hcc hxmm htm;have hpm:=wmul_bd (v:=(tapV p.v e0.policy e0.fill t8.v sh (t9.first+(k:Int)))) (B:=68719476736) hwx hgb (by decide)
 refine nilO ⟨⟨.inr ((g0.up 6 rfl).cell i0 (k:=1) rfl), .inr ((l1.up 6 rfl).cell i0 (k:=0) rfl),dI,dI,dI,dI,dI,dI,dI,dI, .inr ((g0.up 6 rfl).cell i0 (k:=0) rfl),trivial⟩,?_⟩
 exact wMul h0 (tapV p.v e0.policy e0.fill t8.v sh (t9.first+(k:Int)))<|wAdd s1 (h0*(tapV p.v e0.policy e0.fill t8.v sh (t9.first+(k:Int))))<|wV 1<|wN<|jXO 4 rfl<|sAdd (k:Int) 1<|jOI 2 rfl<|⟨(k+1,(s1+(h0*(tapV p.v e0.policy e0.fill t8.v sh (t9.first+(k:Int)))))),od,alB,i0,om,(by rw [resS_succ hwv,<-hs1];rfl)⟩
theorem r12_bin (v:Int) (m:Int) (n:Int) (hS:Sat W w (H::F)):
  Ro prog 109 #[I v,I m,I n] (I (binV v m n)) W w (H::F):=by
 exact callsK 33 func109 rfl<|jCO 11 rfl<|sD 9 (m<1) (fun b0=>jOR 27 rfl<|retT [I 0]<|⟨by unfold binV;rw [if_neg om];rfl,hS⟩) fun b0=>pu4<|sD 13 (m>4294967296) (fun c0=>jOR 23 rfl<|retT [I 0]<|⟨by unfold binV;rw [if_neg om];rfl,hS⟩) fun c0=>pu4<|sD 17 (v<0) (fun d0=>jOR 19 rfl<|retT [I 0]<|⟨by unfold binV;rw [if_neg om];rfl,hS⟩) fun d0=>pu5<|sD 22 (v>m) (fun e0=>jOR 14 rfl<|retT [I 0]<|⟨by unfold binV;rw [if_neg om];rfl,hS⟩) fun e0=>pu1<|gY<|cS (r12_bins n hS.flat) fun _ a0=>jOC 4 rfl<|CDn ((1:Int)<=n/\n<=(128:Int)) (fun f0=>jCR 7 rfl<|retT [I 0]<|⟨by unfold binV;rw [if_neg om];rfl,a0⟩) fun f0=>jCC 3 rfl<|(by have g0:=mul_bd (a:=v) (b:=n) (A:=4294967296) (B:=128) om om;have ht:(v*n).tdiv (m+1)=v*n/(m+1):=Int.tdiv_eq_ediv_of_nonneg (Int.mul_nonneg om om);have hd:=tdiv_bd (a:=v*n) (b:=m+1) (A:=549755813888) om om;exact jCO 3 rfl<|sMul v n<|pu1<|sAdd m 1<|sQuo (v*n) (m+1)<|jOR 4 rfl<|retT [I ((v*n).tdiv (m+1))]<|⟨congrArg (fun z=>Ending.returned (I z)) (by unfold binV;rw [if_pos om];exact ht),a0⟩)
theorem r12_partial (p:Plane) (bins:Int) (r:Rct) (hp:Plane.Ok [H] p) (hS:Sat W w (H::F)):
  Calls prog 67 #[.agg (encPlane p).toArray,I bins, .agg (encRct r).toArray] w fun e w'=>∃(az:Option Addr) (nz kz:Nat) (zs:List Int) (c:Int) (G:Chunk),e= .returned (.tuple #[.slice az nz kz,I c])/\RdT Go.E.encI 1 [G] az nz kz zs/\(zs,c)=(partV p.v bins r,partC p.v bins r)/\Sat W w' (G::H::F):=by
 have J0:=hp.pix.le;have B0:=hp.pix.len
 refine callsK 68 func67 rfl<|jCO 2 rfl<|sBx hS (encPlane p) fun _ _ s0=>sBx s0 (encRct r) fun _ _ m0=>gOO m0 9 [401] rfl<|cS (r4_valid p ⟨(hp.pix.fl 2)⟩ m0.flat) fun _ n0=>jOC 4 rfl<|CBn (planeOK p.v) (fun d0=>jCR 9 rfl<|retT [nS,I 1]<|(by have hC:partC p.v bins r=1:=(by unfold partC;rw [if_neg d0]);have t0:=(n0.drops [0,0]);have u0:Sat W _ ([]::H::F):=Sat.nilc t0;exact ⟨none,0,0,[],1,_,rfl,RdT.nil (enc:=Go.E.encI) (sz:=1) fR [[]],(by unfold partV;rw [hC];rfl),u0⟩)) fun d0=>jCO 3 rfl<|cS (r12_bins bins n0.flat) fun _ j0=>jOC 4 rfl<|CDn ((1:Int)<=bins/\bins<=(128:Int)) (fun v0=>jCR 9 rfl<|retT [nS,I 9]<|(by have hC:partC p.v bins r=9:=(by unfold partC;rw [if_pos d0,if_neg om]);have w0:=(j0.drops [0,0]);have z0:Sat W _ ([]::H::F):=Sat.nilc w0;exact ⟨none,0,0,[],9,_,rfl,RdT.nil (enc:=Go.E.encI) (sz:=1) fR [[]],(by unfold partV;rw [hC];rfl),z0⟩)) fun v0=>cutF j0 0 [1,3,5] (γ:=Unit) (fun _ R=>⟨[(19, .bool (decide (¬(insP r ⟨0,0,p.w,p.h⟩/\¬(r.x0=0/\r.y0=0/\r.x1=0/\r.y1=0)))))],R,0,True⟩) ?_ ?_
 ·refine drawG j0 [1,4,5,6,7] (fb 0 0 0 4<|fn) (pS [0]<| .ef 1<|pS [2,3]<| .fk 4 5 (.ef 5<| .ef 6<| .ef 7<|pS [8,9,10]<| .fin) (.fk 4 6 (.ef 6<| .ef 7<|pS [8,9,10]<| .fin) (.ef 4<| .ef 7<|pS [8,9,10]<| .fin))) fun _ a1=>qG 0 4<|qO rfl<|cS (r2_full r a1.flat) fun _ a0=>nA<|qV 1<|qV 1<|qF ?_ ?_
  ·exact bC (rvP r/\¬(r.x0=0/\r.y0=0/\r.x1=0/\r.y1=0)) (fun f0=>qFix 23 _ true (congrArg Bool.not (decide_eq_false f0))<|qO rfl<|pu1<|nA<|qO rfl<|pu1<|nA<|qO rfl<|pu1<|nA<|qO rfl<|pu1<|nA<|qV 1<|qV 1<|qV 1<|qN<|jXI 0 rfl<|⟨(),⟨⟨(Eq.trans (b:= .bool true) kr (congrArg Value.bool (decide_eq_true (p:=¬(insP r ⟨0,0,p.w,p.h⟩/\¬(r.x0=0/\r.y0=0/\r.x1=0/\r.y1=0))) (by exact fun h=>f0 ⟨h.1.1,h.2⟩)).symm)),trivial⟩,sA⟩,a0,trivial⟩) fun f0=>qFix 23 _ false (congrArg Bool.not (decide_eq_true f0))<|qO rfl<|gY<|lB a0 0 0 4<|nA<|qO rfl<|gY<|lB a0 1 0 4<|nA<|qO rfl<|gY<|cS (r4_cover p ⟨(hp.pix.fl 2)⟩ a0.flat) fun _ b1=>nA<|qO rfl<|gY<|cS (r2_inside r (⟨0,0,p.w,p.h⟩:Rct) b1.flat) fun _ c1=>nA<|qV 1<|qV 1<|qV 1<|qN<|jXI 0 rfl<|⟨(),⟨⟨(Eq.trans (b:= .bool (!decide (insP r (⟨0,0,p.w,p.h⟩:Rct)))) kr (congrArg Value.bool (by rw [Bool.eq_iff_iff];simp only [decide_eq_true_eq,beq_iff_eq,bne_iff_ne,ne_eq,Bool.not_eq_true',decide_eq_false_iff_not,gt_iff_lt,ge_iff_le,Bool.and_eq_true,Bool.or_eq_true,Bool.not_eq_eq_eq_not,Bool.not_true,Bool.and_eq_false_imp,beq_eq_false_iff_ne]<;>exact ⟨fun h k=>h k.1,fun h k=>h ⟨k,f0.2⟩⟩))),trivial⟩,sA⟩,c1,trivial⟩
  by_cases e0:rvP r/\¬(r.x0=0/\r.y0=0/\r.x1=0/\r.y1=0)
  rotate_left
  ·refine qFix 23 _ true (congrArg Bool.not (decide_eq_false e0))<|qO rfl<|pu1<|nA<|qF ?_ ?_
   rotate_left
   ·exact qO rfl<|pu1<|nA<|qO rfl<|pu1<|nA<|qO rfl<|pu1<|nA<|qV 1<|qV 1<|qV 1<|qN<|jXI 0 rfl<|⟨(),⟨⟨(Eq.trans (b:= .bool true) kr (congrArg Value.bool (decide_eq_true (p:=¬(insP r ⟨0,0,p.w,p.h⟩/\¬(r.x0=0/\r.y0=0/\r.x1=0/\r.y1=0))) (by exact fun h=>e0 ⟨h.1.1,h.2⟩)).symm)),trivial⟩,sA⟩,a0,trivial⟩
   exact qO rfl<|pu1<|nA<|qO rfl<|pu1<|nA<|qO rfl<|pu1<|nA<|qV 1<|qV 1<|qV 1<|qN<|jXI 0 rfl<|⟨(),⟨⟨(Eq.trans (b:= .bool true) kr (congrArg Value.bool (decide_eq_true (p:=¬(insP r ⟨0,0,p.w,p.h⟩/\¬(r.x0=0/\r.y0=0/\r.x1=0/\r.y1=0))) (by exact fun h=>e0 ⟨h.1.1,h.2⟩)).symm)),trivial⟩,sA⟩,a0,trivial⟩
  refine qFix 23 _ false (congrArg Bool.not (decide_eq_true e0))<|qO rfl<|gY<|lB a0 1 0 4<|nA<|qF ?_ ?_
  rotate_left
  ·exact qO rfl<|gY<|cS (r4_cover p ⟨(hp.pix.fl 2)⟩ a0.flat) fun _ o0=>nA<|qO rfl<|gY<|lB o0 0 0 4<|nA<|qO rfl<|gY<|cS (r2_inside r (⟨0,0,p.w,p.h⟩:Rct) o0.flat) fun _ d1=>nA<|qV 1<|qV 1<|qV 1<|qN<|jXI 0 rfl<|⟨(),⟨⟨(Eq.trans (b:= .bool (!decide (insP r (⟨0,0,p.w,p.h⟩:Rct)))) kr (congrArg Value.bool (by rw [Bool.eq_iff_iff];simp only [decide_eq_true_eq,beq_iff_eq,bne_iff_ne,ne_eq,Bool.not_eq_true',decide_eq_false_iff_not,gt_iff_lt,ge_iff_le,Bool.and_eq_true,Bool.or_eq_true,Bool.not_eq_eq_eq_not,Bool.not_true,Bool.and_eq_false_imp,beq_eq_false_iff_ne]<;>exact ⟨fun h k=>h k.1,fun h k=>h ⟨k,e0.2⟩⟩))),trivial⟩,sA⟩,d1,trivial⟩
  exact qO rfl<|gY<|lB a0 0 0 4<|nA<|qO rfl<|gY<|cS (r4_cover p ⟨(hp.pix.fl 2)⟩ a0.flat) fun _ e1=>nA<|qO rfl<|gY<|cS (r2_inside r (⟨0,0,p.w,p.h⟩:Rct) e1.flat) fun _ f1=>nA<|qV 1<|qV 1<|qV 1<|qN<|jXI 0 rfl<|⟨(),⟨⟨(Eq.trans (b:= .bool (!decide (insP r (⟨0,0,p.w,p.h⟩:Rct)))) kr (congrArg Value.bool (by rw [Bool.eq_iff_iff];simp only [decide_eq_true_eq,beq_iff_eq,bne_iff_ne,ne_eq,Bool.not_eq_true',decide_eq_false_iff_not,gt_iff_lt,ge_iff_le,Bool.and_eq_true,Bool.or_eq_true,Bool.not_eq_eq_eq_not,Bool.not_true,Bool.and_eq_false_imp,beq_eq_false_iff_ne]<;>exact ⟨fun h k=>h k.1,fun h k=>h ⟨k,e0.2⟩⟩))),trivial⟩,sA⟩,f1,trivial⟩
 rintro _ ρ _ ⟨p0,_⟩
 refine cD (¬(insP r ⟨0,0,p.w,p.h⟩/\¬(r.x0=0/\r.y0=0/\r.x1=0/\r.y1=0))) (fun k0=>jCR 9 rfl<|retT [nS,I 8]<|(by have K0:=(plane_sz d0).1;unfold sizeP at K0;simp only [Plane.v] at K0;have hC:partC p.v bins r=8:=(by unfold partC;rw [if_pos d0,if_pos om,if_neg (fun h=>by have h2:=(ins_in (by simp only [Plane.v];omega) (by simp only [Plane.v];omega)).2 h;exact k0 ⟨h2.2,h2.1⟩)]);have g1:=(p0.drops [0,0]);have i1:Sat W _ ([]::H::F):=Sat.nilc g1;exact ⟨none,0,0,[],8,_,rfl,RdT.nil (enc:=Go.E.encI) (sz:=1) fR [[]],(by unfold partV;rw [hC];rfl),i1⟩)) fun k0=>jCC 4 rfl ?_
 have O0:planeOK p.v=true:=d0;have K0:=(plane_sz O0).1;unfold sizeP at K0;simp only [Plane.v] at K0;have P0:rIn r p.w p.h:=(ins_in om om).1 (And.comm.1 (Classical.not_not.1 k0))
 have Q0:=P0;unfold rIn at Q0
 obtain ⟨Wn,hW⟩:∃k:Nat,r.x1-r.x0=(k:Int):=⟨_,(Int.toNat_of_nonneg om).symm⟩;obtain ⟨Hn,hH⟩:∃k:Nat,r.y1-r.y0=(k:Int):=⟨_,(Int.toNat_of_nonneg om).symm⟩
 have A1:1<=Wn/\Wn<=128/\1<=Hn/\Hn<=128:=om;have n1:Hn*Wn<=4096:=by have h1:=rIn_area P0 (by first|omega|assumption);rw [hW,hH] at h1;have h2:((Hn*Wn:Nat):Int)=(Wn:Int)*(Hn:Int):=(by push_cast;rw [Int.mul_comm]);omega
 have T0:(r.x1-r.x0)*(r.y1-r.y0)=((Hn*Wn:Nat):Int):=by rw [hW,hH];push_cast;rw [Int.mul_comm]
 have W0:p.v.pix.length=p.pix.n:=B0;have C1:(bins.toNat:Int)=bins:=Int.toNat_of_nonneg om
 refine jCO 2 rfl<|sMake (kl:= .i64) (kc:= .i64) (enc:=Go.E.encI) (sz:=1) (nb:=8) p0 0 (bins).toNat bins (om:bins=(((bins).toNat:Nat):Int)) underlying22 (i:=Tryz.t3) kr fR fun j1 k1 _ l1 q0=>gOC q0 12 [1] rfl<|loopF [1,3,5] (γ:=Nat×Int×(List Int)×SO) (fun ⟨i,yy,zs,D0,F0,E0,H0⟩ R=>⟨[(9,I yy),(8, .slice D0 F0 E0)],H0::R,Hn-i,i<=Hn/\(yy=r.y0+(i:Int))/\(zs=cntV p.v bins r (i*Wn))/\OwnT Go.E.encI 3 1 D0 F0 E0 zs H0⟩) (0,r.y0,(List.replicate (bins).toNat 0),(At j1 0),(bins).toNat,(bins).toNat,k1) ⟨q0,om,om,(by rw [Nat.zero_mul];rfl),l1⟩ ?_
 rintro ⟨i,yy,zs,D0,F0,E0,H0⟩ ρ _ ⟨g0,hi,Y0,hE,C0⟩
 have R0:=C0.ll
 refine gCC g0 9 [1] rfl<|CD (yy<r.y1) (fun m1=>jCR 13 rfl<|retT [.slice D0 F0 E0,I 0]<|(by have hC:partC p.v bins r=0:=(by unfold partC;rw [if_pos O0,if_pos om,if_pos (show rIn r p.v.w p.v.h from P0)]);exact ⟨D0,F0,E0,zs,0,_,rfl,(C0.rdAt (cs:=[H0]) 0 rfl),(by unfold partV;rw [hC,if_pos rfl,hE,show areaN r=i*Wn from by unfold areaN;rw [T0,Int.toNat_natCast,show i=Hn by omega]]),(g0.drops [1,1])⟩)) fun m1=>gCC g0 12 [1] rfl<|loopF [1,3,5,9] (γ:=Nat×Int×(List Int)×SO) (fun ⟨j,xx,zt,G0,M0,L0,N0⟩ R=>⟨[(10,I xx),(8, .slice G0 M0 L0)],N0::R,Wn-j,j<=Wn/\(xx=r.x0+(j:Int))/\(zt=cntV p.v bins r (i*Wn+j))/\OwnT Go.E.encI 3 1 G0 M0 L0 zt N0⟩) (0,r.x0,zs,D0,F0,E0,H0) ⟨g0,om,om,(by rw [Nat.add_zero];exact hE),C0⟩ ?_
 rintro ⟨j,xx,zt,G0,M0,L0,N0⟩ ρ _ ⟨l0,hj,X0,I0,A0⟩
 have S0:=A0.ll
 have Z0:zt.length=bins.toNat:=by rw [I0];exact cnt_len _ _ _ _
 have D1:i*Wn+j<=Hn*Wn:=by have h1:=Nat.mul_le_mul_right Wn (show i+1<=Hn by omega);rw [Nat.add_mul,Nat.one_mul] at h1;omega
 refine gCC l0 9 [1] rfl<|CD (xx<r.x1) (fun o1=>jCO 8 rfl<|sAdd yy 1<|jOI 2 rfl<|⟨(i+1,(yy+1),zt,G0,M0,L0,N0),od,alB,l0,om,om,(by rw [Nat.add_mul,Nat.one_mul,I0,show j=Wn by omega]),A0⟩) fun o1=>jCC 4 rfl ?_
 have hix:=pl_ix O0 (x:=xx) (y:=yy) (by simp only [Plane.v];omega) (by simp only [Plane.v];omega);rw [W0] at hix;simp only [Plane.v] at hix
 obtain ⟨c0,x2,y2,q1,r1,s1⟩:=RdT.elem hp.pix ((yy*p.w)+xx)
 have V0:pixAt p.v (r.x0+(j:Int)) (r.y0+(i:Int))=c0:=by rw [<-X0,<-Y0];exact pixAt_eq q1
 refine drawF l0 [14,16,19] (fb 2 2 3 1<|fb 5 2 0 1<|fq 10 0 (r1.up 3 rfl)<|fb 12 2 2 1<|fn) [0,1,3,4,7,11,13,2,5,6,8,9,10,12,14,15,16,17,18,19] fun _ t1=>wV 7<|wL 0<|wL 1<|wMul yy p.w<|wAdd (yy*p.w) xx<|wI s1<|wL 2<|wL 3<|wO rfl<|cS (r12_bin c0 p.max_ bins t1.flat) fun _ h0=>?_
 have B1:=bin_bd (v:=c0) (mx:=p.max_) (bins:=bins) om
 refine nZ h0 [2,2] ?_
 obtain ⟨b0,a3,b3,r0,u1,v1,c3⟩:=OwnT.elem A0 (binV c0 p.max_ bins)
 have U0:=cnt_bd (p:=p.v) (bins:=bins) (r:=r) (i*Wn+j) b0 (by rw [<-I0];exact List.mem_of_getElem? r0)
 refine wI v1<|wO rfl<|sMp h0 (u1.up 0 rfl) 0 (I b0)<|nZ h0 [2,2]<|wAdd b0 1 ?_
 obtain ⟨w1,d3,e3,i0,f3,z1,a2⟩:=OwnT.elem A0 (binV c0 p.max_ bins)
 obtain rfl:b0=w1:=Option.some.inj (r0.symm.trans i0)
 have U0:=cnt_bd (p:=p.v) (bins:=bins) (r:=r) (i*Wn+j) b0 (by rw [<-I0];exact List.mem_of_getElem? i0)
 exact wI z1<|wO rfl<|sStF h0 A0 a2 0 ((binV c0 p.max_ bins)).toNat 0 b0 (b0+1) i0 (I (b0+1)) [I (b0+1)] sizeOf3 fun _ b2 c2 d2=>nA<|wN<|jXO 4 rfl<|sAdd xx 1<|jOI 2 rfl<|⟨(j+1,(xx+1),(zt.set (((binV c0 p.max_ bins)).toNat) (b0+1)),G0,M0,L0,b2),od,alB,d2,om,om,(by rw [<-Nat.add_assoc,cnt_succ hW om,V0,<-I0];exact inc_set i0),c2⟩
theorem r13_check0 (p:Plane) (hp:Plane.Ok [H] p) (hS:Sat W w (H::F)):
  Ro prog 63 #[.agg (encPlane p).toArray] (.tuple #[I ((chkI p.v).1),I ((chkI p.v).2)]) W w (H::F):=by
 have f0:=hp.pix.ll
 exact callsK 23 func63 rfl<|jCO 2 rfl<|sBx hS (encPlane p) fun _ _ d0=>gOO d0 8 [400] rfl<|cS (r4_valid p ⟨(hp.pix.fl 1)⟩ d0.flat) fun _ b0=>jOC 3 rfl<|CBn (planeOK p.v) (fun a0=>jCR 8 rfl<|retT [I 0,I 1]<|⟨by rw [show chkI p.v=(0,1) from by unfold chkI;rw [if_neg a0]];rfl,(b0.dropAt 0 rfl)⟩) fun a0=>gCO b0 11 [0,0,0] rfl<|cS (r13_most (⟨p.w,p.h,p.max_⟩:Shape) b0.flat) fun _ e0=>jOC 14 rfl<|CBn (mostOK (⟨p.w,p.h,p.max_⟩:Shape).w (⟨p.w,p.h,p.max_⟩:Shape).h (⟨p.w,p.h,p.max_⟩:Shape).max_) (fun c0=>jCR 8 rfl<|retT [I 0,I 11]<|⟨by rw [show chkI p.v=(0,11) from by unfold chkI;rw [if_pos a0,if_neg (show ¬mostOK p.v.w p.v.h p.v.max_=true from c0)]];rfl,(e0.dropAt 0 rfl)⟩) fun c0=>jCR 10 rfl<|retT [I (mostV (⟨p.w,p.h,p.max_⟩:Shape).w (⟨p.w,p.h,p.max_⟩:Shape).h (⟨p.w,p.h,p.max_⟩:Shape).max_),I 0]<|⟨by rw [show chkI p.v=((mostV (⟨p.w,p.h,p.max_⟩:Shape).w (⟨p.w,p.h,p.max_⟩:Shape).h (⟨p.w,p.h,p.max_⟩:Shape).max_),0) from by unfold chkI;rw [if_pos a0,if_pos (show mostOK p.v.w p.v.h p.v.max_=true from c0)];rfl];rfl,(e0.dropAt 0 rfl)⟩
theorem r13_whole (p:Plane) (hp:Plane.Ok [H] p) (hS:Sat W w (H::F)):
  Calls prog 23 #[.agg (encPlane p).toArray] w fun e w'=>∃(q:Plane) (c:Int) (G:Chunk),e= .returned (.tuple #[.agg (encPlane q).toArray,I c])/\q.Ok [G]/\(q.v,c)=itgW p.v/\Sat W w' (G::H::F):=by
 have N0:=hp.pix.le;have A0:=hp.pix.len
 refine callsK 89 func23 rfl<|jCO 2 rfl<|sBx hS (encPlane p) fun _ _ u0=>sAlloc u0 zeroValue38 fun _ _ i0=>gOO i0 6 [401] rfl<|cS (r13_check0 p ⟨(hp.pix.fl 2)⟩ i0.flat) fun _ g0=>jOC 14 rfl<|cN ((chkI p.v).2) 0 (fun v0=>?_) (fun v0=>?_)
 rotate_left
 ·refine jCO 4 rfl<|sTk g0 0 [I 0,I 0,I 0,nS] fun _ j0=>jOR 5 rfl<|retD j0 0 [I 0,I 0,I 0,nS] (I ((chkI p.v).2)) ?_
  have hC:itgW p.v=(zPl,(chkI p.v).2):=by
   have h:¬(chkI p.v).2=0:=by omega
   unfold itgW;unfold chkI at h⊢;split
   ·rename_i h1;rw [if_pos h1] at h;split
    ·rename_i h2;rw [if_pos h2] at h;exact absurd rfl h
    ·rfl
   ·rfl
  have w0:=(j0.drops [0,0])
  have x0:Sat W _ ([]::H::F):=Sat.nilc w0
  exact ⟨(⟨0,0,0,⟨none,0,0,[]⟩⟩:Plane),((chkI p.v).2),_,rfl,⟨RdT.nil (enc:=Go.E.encI) (sz:=1) fR [[]]⟩,hC.symm,x0⟩
 refine jCC 3 rfl ?_
 have z1:planeOK p.v=true/\mostOK p.v.w p.v.h p.v.max_=true/\(chkI p.v).1=mostV p.v.w p.v.h p.v.max_:=by
  have h:(chkI p.v).2=0:=by omega
  unfold chkI at h⊢
  split at h
  ·rename_i h1
   rw [if_pos h1]
   split at h
   ·rename_i h2;rw [if_pos h2];exact ⟨h1,h2,rfl⟩
   ·simp at h
  ·simp at h
 obtain ⟨H0,V0,W0⟩:=z1;have C1:(chkI p.v).1=mostV p.w p.h p.max_:=W0;have S0:mostOK p.w p.h p.max_=true:=V0;have J1:=most_bd S0;have f1:=(plane_sz H0).1;unfold sizeP at f1;simp only [Plane.v] at f1;have D1:p.v.pix.length=p.pix.n:=A0
 obtain ⟨Wn,hW⟩:∃k:Nat,p.w=(k:Int):=⟨_,(Int.toNat_of_nonneg om).symm⟩;obtain ⟨Hn,hH⟩:∃k:Nat,p.h=(k:Int):=⟨_,(Int.toNat_of_nonneg om).symm⟩;have U0:p.w*p.h=((Hn*Wn:Nat):Int):=by rw [hW,hH];push_cast;rw [Int.mul_comm]
 obtain ⟨f,hf⟩:∃f:Int->Int->Int,f=fun i j=>recS p.v 0 0 (i.toNat+1) (j.toNat+1):=⟨_,rfl⟩
 refine gCO g0 6 [1,1] rfl<|cZ (r4_new p.w p.h ((chkI p.v).1) (by unfold sizeP;omega) g0.flat) ?_
 rintro _ _ ⟨k0,l0,m0,y0,rfl,h0,z0⟩
 have a1:=z0.unflat1;have O0:=h0.len;have M0:=h0.le
 refine pu3<|sAlloc a1 zeroValue38 fun n0 _ b1=>sTk b1 0 [I p.w,I p.h,I ((chkI p.v).1), .slice k0 l0 m0] fun _ c1=>jOC 10 rfl<|loopF [1,2,6] (γ:=Nat×(List Int)×SO) (fun ⟨i,zs,C0,F0,E0,K0⟩ R=>⟨[(8,I (i:Int))],K0::[(n0, .cells #[I p.w,I p.h,I ((chkI p.v).1), .slice C0 F0 E0] 38 (0,0))]::R,Hn-i,i<=Hn/\(zs=gridN Wn f (i*Wn)++List.replicate (Hn*Wn-i*Wn) 0)/\OwnT Go.E.encI 3 1 C0 F0 E0 zs K0⟩) (0,(List.replicate (p.w*p.h).toNat 0),k0,l0,m0,y0) ⟨(c1.pick 1 rfl),om,(by rw [U0,Int.toNat_natCast,Nat.zero_mul];rfl),h0⟩ ?_
 rintro ⟨i,zs,C0,F0,E0,K0⟩ ρ _ ⟨f0,hi,hE,D0⟩
 have X0:=D0.ll
 refine gCC f0 9 [3] rfl<|CD ((i:Int)<p.h) (fun e1=>gCO f0 8 [401] rfl<|sTk f0 2 [I p.w,I p.h,I ((chkI p.v).1), .slice C0 F0 E0] fun _ o0=>jOR 4 rfl<|retD o0 2 [I p.w,I p.h,I ((chkI p.v).1), .slice C0 F0 E0] (I 0)<|⟨(⟨p.w,p.h,(chkI p.v).1,⟨C0,F0,E0,zs⟩⟩:Plane),0,_,rfl,⟨(D0.rdAt (cs:=[K0]) 0 rfl)⟩,(by unfold itgW;rw [okT_0 (by rw [if_pos H0,if_pos V0]),hE,show i=Hn by omega,Nat.sub_self,List.replicate_zero,List.append_nil,W0,hf,show p.v.w*p.v.h=((Hn*Wn:Nat):Int) from U0,Int.toNat_natCast,show p.v.w=(Wn:Int) from hW,hW];rfl),(o0.drops [1,1,1])⟩) fun e1=>jCC 15 rfl<|loopF [1,2,6,8] (γ:=Nat×Int×(List Int)×SO) (fun ⟨j,s1,zt,G0,J0,I0,R0⟩ R=>⟨[(10,I (j:Int)),(9,I s1)],R0::[(n0, .cells #[I p.w,I p.h,I ((chkI p.v).1), .slice G0 J0 I0] 38 (0,0))]::R,Wn-j,j<=Wn/\(s1=sumN (fun a=>pixAt p.v (0+(a:Int)) (0+(i:Int))) j)/\(zt=gridN Wn f (i*Wn+j)++List.replicate (Hn*Wn-(i*Wn+j)) 0)/\OwnT Go.E.encI 3 1 G0 J0 I0 zt R0⟩) (0,0,zs,C0,F0,E0,K0) ⟨f0,om,by rfl,(by rw [Nat.add_zero];exact hE),D0⟩ ?_
 rintro ⟨j,s1,zt,G0,J0,I0,R0⟩ ρ _ ⟨c0,hj,Q0,L0,B0⟩
 have Y0:=B0.ll
 have H1:zt.length=Hn*Wn:=by rw [L0,List.length_append,grid_len,List.length_replicate];have h1:=Nat.mul_le_mul_right Wn (show i+1<=Hn by omega);rw [Nat.add_mul,Nat.one_mul] at h1;omega
 have I1:i*Wn+j<=Hn*Wn:=by have h1:=Nat.mul_le_mul_right Wn (show i+1<=Hn by omega);rw [Nat.add_mul,Nat.one_mul] at h1;omega
 have B1:i*Wn+Wn<=Hn*Wn:=by have h1:=Nat.mul_le_mul_right Wn (show i+1<=Hn by omega);rw [Nat.add_mul,Nat.one_mul] at h1;omega
 have K1:(i:Int)*p.w=((i*Wn:Nat):Int):=by rw [hW];push_cast;rfl
 have G1:=row_bd H0 0 0 i (n:=j) om;rw [<-Q0] at G1
 refine gCC c0 9 [3] rfl<|CD ((j:Int)<p.w) (fun g1=>jCO 8 rfl<|sAdd (i:Int) 1<|jOI 2 rfl<|⟨(i+1,zt,G0,J0,I0,R0),od,alB,c0,om,(by rw [Nat.add_mul,Nat.one_mul,L0,show j=Wn by omega]),B0⟩) fun g1=>jCC 5 rfl ?_
 have hix:=pl_ix H0 (x:=(j:Int)) (y:=(i:Int)) (by simp only [Plane.v];omega) (by simp only [Plane.v];omega);rw [D1] at hix;simp only [Plane.v] at hix
 refine gCO c0 7 [3,3] rfl<|sMul (i:Int) p.w<|pu1<|sAdd ((i:Int)*p.w) (j:Int)<|sII hp.pix (((i:Int)*p.w)+(j:Int)) fun a0 _ _ i1 j1=>?_
 have P0:pixAt p.v (0+(j:Int)) (0+(i:Int))=a0:=by rw [Int.zero_add,Int.zero_add];exact pixAt_eq i1
 have Z0:=pixAt_bd H0 (0+(j:Int)) (0+(i:Int));rw [P0] at Z0;simp only [Plane.v] at Z0
 refine sMp c0 (j1.up 4 rfl) 0 (I a0)<|sAdd s1 a0<|gOO c0 10 [1,3] rfl<|sMul (i:Int) p.w<|pu1<|sAdd ((i:Int)*p.w) (j:Int)<|pu1<|sIO B0 (((i:Int)*p.w)+(j:Int)) ((((i:Int)*p.w)+(j:Int))).toNat fun k1 _ _ p0 _ q0=>sStF c0 B0 q0 0 ((((i:Int)*p.w)+(j:Int))).toNat 0 k1 (s1+a0) p0 (I (s1+a0)) [I (s1+a0)] sizeOf3 fun _ l1 e0 r0=>jOC 8 rfl<|CD ((i:Int)>0) (fun m1=>jCO 5 rfl<|sAdd (j:Int) 1<|jOI 2 rfl<|⟨(j+1,(s1+a0),(zt.set (((((i:Int)*p.w)+(j:Int))).toNat) (s1+a0)),G0,J0,I0,l1),od,alB,r0,om,(by rw [sumN_succ,<-Q0,P0]),(by rw [show (((((i:Int)*p.w)+(j:Int))).toNat)=i*Wn+j by omega,L0,fill_set (grid_len _ _ _) om,<-Nat.add_assoc,grid_succ om];congr 2;rw [hf];simp only [Int.toNat_natCast];congr 1;rw [rec_down,show i=0 by omega,rec_0,sumN_succ,show sumN _ j=s1 from by rw [Q0,show i=0 by omega],show pixAt p.v (0+(j:Int)) (0+((0:Nat):Int))=a0 from by rw [<-P0,show i=0 by omega]];omega),e0⟩) fun m1=>?_
 have E1:((i:Int)-1)*p.w=(((i-1)*Wn:Nat):Int):=by rw [hW,show (i:Int)-1=((i-1:Nat):Int) by omega];push_cast;rfl
 have F1:(i-1)*Wn+Wn=i*Wn:=by have h:=Nat.add_mul (i-1) 1 Wn;rw [Nat.one_mul,show i-1+1=i by omega] at h;exact h.symm
 have n1:=set_at (y:=(s1+a0)) p0
 have t2:=OwnT.ptr e0 q0 n1
 obtain ⟨b0,u2,v2,s0,o1,t0,q1⟩:=OwnT.elem e0 (((i:Int)*p.w)+(j:Int))
 have A1:b0=s1+a0:=by have h:=s0;rw [List.getElem?_set_self om] at h;exact (Option.some.inj h).symm
 obtain ⟨d0,w2,x2,r1,t1,u1,y2⟩:=OwnT.elem e0 ((((i:Int)-1)*p.w)+(j:Int))
 have d1:d0=recS p.v 0 0 (j+1) i:=(by have h:=r1;rw [List.getElem?_set,if_neg om,show (((((i:Int)-1)*p.w)+(j:Int))).toNat=(i-1)*Wn+j by omega,L0,List.getElem?_append_left (by rw [grid_len];omega),grid_at om] at h;have h2:=grid_ix (nx:=(Wn:Int)) (i:=((i-1:Nat):Int)) (j:=(j:Int)) om;rw [show ((((i-1)*Wn+j:Nat)):Int)=((i-1:Nat):Int)*(Wn:Int)+(j:Int) by push_cast;rfl,h2.1,h2.2,hf] at h;rw [<-Option.some.inj h];simp only [Int.toNat_natCast];congr 1;omega)
 have T0:=rec_bd9 H0 0 0 (i:=j+1) (j:=i) om om;rw [<-d1] at T0
 exact drawF r0 [23] (fb 1 1 3 1<|fb 4 3 0 1<|fq 9 0 (o1.up 0 rfl)<|fb 11 1 3 1<|fb 15 3 0 1<|fq 20 0 (t1.up 0 rfl)<|fn) [0,2,3,6,10,12,13,14,17,1,4,5,7,8,9,11,15,16,18,19,20,21,22,23] fun _ v1=>wV 6<|wSub (i:Int) 1<|wV 2<|wL 0<|wL 1<|wMul (i:Int) p.w<|wAdd ((i:Int)*p.w) (j:Int)<|wI t0<|wL 2<|wL 3<|wL 4<|wMul ((i:Int)-1) p.w<|wAdd (((i:Int)-1)*p.w) (j:Int)<|wI u1<|wL 5<|wAdd b0 d0<|wI t0<|wO rfl<|sStF v1 e0 q1 0 ((((i:Int)*p.w)+(j:Int))).toNat 0 b0 (b0+d0) s0 (I (b0+d0)) [I (b0+d0)] sizeOf3 fun _ w1 x1 y1=>nA<|wN<|jXO 4 rfl<|sAdd (j:Int) 1<|jOI 2 rfl<|⟨(j+1,(s1+a0),((zt.set (((((i:Int)*p.w)+(j:Int))).toNat) (s1+a0)).set (((((i:Int)*p.w)+(j:Int))).toNat) (b0+d0)),G0,J0,I0,w1),od,alB,y1,om,(by rw [sumN_succ,<-Q0,P0]),(by rw [List.set_set];rw [show (((((i:Int)*p.w)+(j:Int))).toNat)=i*Wn+j by omega,L0,fill_set (grid_len _ _ _) om,<-Nat.add_assoc,grid_succ om];congr 2;rw [hf];simp only [Int.toNat_natCast];congr 1;rw [rec_down,<-d1,sumN_succ,<-Q0,P0,A1];omega),x1⟩
end Go.Proofs.YtghcddbhllkbmaaGreat
