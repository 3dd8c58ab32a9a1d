import Derived.Test.YtmlhcafjelkjfaaGreatP3Ab
import Derived.WalkKit
import Derived.Deep.Quiet
import Derived.KernelRfl
import Derived.Laws.BytesString
import Derived.Laws.Shifts
import Derived.Laws.IdiomStrings
import Derived.Test.YtmlhcafjelkjfaaGreatProg
import Derived.Laws.IdiomRangeMap
import Derived.Test.YtmlhcafjelkjfaaGreatP3Ld
namespace Go.Proofs.YtmlhcafjelkjfaaGreat
open Go Go.E Go.Proofs.Tryz
set_option linter.all false
set_option maxRecDepth 100000
set_option maxHeartbeats 2000000
variable {W w:World} {H:Chunk} {F:List Chunk}
theorem r7_clamp (v:Int) (m:Int) (hS:Sat W w (H::F)):
  Ro prog 171 #[I v,I m] (I (clampV v m)) W w (H::F):=by
 refine callsA 18 func171 rfl<|sR<|pu1<|nT<|seqE<|blockE<|sR<|pu3<|sD 8 (v<0) (fun a0=>?_) (fun a0=>?_)
 ·exact pu4<|zC<|pu1<|zB<|retT [I 0]<|⟨by unfold clampV;rw [if_pos om];rfl,hS⟩
 refine pu4<|nT<|cD (m<0) (fun b0=>?_) (fun b0=>?_)
 ·exact sR<|pu1<|zB<|retT [I 0]<|⟨by unfold clampV;rw [if_pos om];rfl,hS⟩
 refine sR<|pu4<|nT<|cD (v>m) (fun c0=>?_) (fun c0=>?_)
 ·exact sR<|pu2<|zB<|retT [I m]<|⟨by unfold clampV;rw [if_neg om,if_pos om];rfl,hS⟩
 exact skipE<|bN<|tN<|sR<|pu2<|zE<|retT [I v]<|⟨by unfold clampV;rw [if_neg om,if_neg om];rfl,hS⟩
theorem r2_inside (a:Rct) (b:Rct) (hS:Sat W w (H::F)):
  Ro prog 125 #[.agg (encRct a).toArray, .agg (encRct b).toArray] (.bool (decide (insP a b))) W w (H::F):=by
 refine callsA 43 func125 rfl<|sR<|sBox hS (.agg (encRct a).toArray) (encRct a).toArray fun _ _ e0=>sBox e0 (.agg (encRct b).toArray) (encRct b).toArray fun _ _ d0=>pu1<|zQ<|lA d0 1 0 4 (isAgg45 _) (sizeOf45 _)<|cR call82 (r2_valid a d0.flat) fun _ b0=>pu2<|sDn 8 (rvP a) (fun f0=>?_) (fun f0=>?_)
 rotate_left
 ·exact pu4<|zC<|pu1<|zR<|retT [.bool false]<|⟨rB (by rw [Bool.eq_iff_iff];unfold insP;simp only [decide_eq_true_eq,Bool.false_eq_true,false_iff,true_iff]<;>first|omega|(simp_all;try omega)),(b0.drops [0,0])⟩
 refine gY<|lA b0 0 0 4 (isAgg45 _) (sizeOf45 _)<|gY<|cR call82 (r2_valid b b0.flat) fun _ c0=>pu2<|nT<|cDn (rvP b) (fun h0=>?_) (fun h0=>?_)
 rotate_left
 ·exact sR<|pu1<|zR<|retT [.bool false]<|⟨rB (by rw [Bool.eq_iff_iff];unfold insP;simp only [decide_eq_true_eq,Bool.false_eq_true,false_iff,true_iff]<;>first|omega|(simp_all;try omega)),(c0.drops [0,0])⟩
 refine kS<|lA c0 1 0 4 (isAgg45 _) (sizeOf45 _)<|cR call158 (r2_empty a c0.flat) fun _ a0=>pu1<|sD 15 (a.x0=0/\a.y0=0/\a.x1=0/\a.y1=0) (fun j0=>?_) (fun j0=>?_)
 ·exact pu16<|pu12<|zE<|retT [.bool true]<|⟨rB (by rw [Bool.eq_iff_iff];unfold insP;simp only [decide_eq_true_eq,Bool.false_eq_true,false_iff,true_iff]<;>first|omega|(simp_all;try omega)),(a0.drops [0,0])⟩
 refine pu1<|gY<|sL a0 1 0 (I a.x0) (isAgg3 _)<|pu1<|gY<|sL a0 0 0 (I b.x0) (isAgg3 _)<|pu2<|sD 21 (a.x0>=b.x0) (fun l0=>?_) (fun l0=>?_)
 rotate_left
 ·exact pu16<|pu6<|zE<|retT [.bool false]<|⟨rB (by rw [Bool.eq_iff_iff];unfold insP;simp only [decide_eq_true_eq,Bool.false_eq_true,false_iff,true_iff]<;>first|omega|(simp_all;try omega)),(a0.drops [0,0])⟩
 refine pu1<|gY<|sL a0 1 1 (I a.y0) (isAgg3 _)<|pu1<|gY<|sL a0 0 1 (I b.y0) (isAgg3 _)<|pu3<|sD 28 (a.y0>=b.y0) (fun n0=>?_) (fun n0=>?_)
 rotate_left
 ·exact pu15<|zE<|retT [.bool false]<|⟨rB (by rw [Bool.eq_iff_iff];unfold insP;simp only [decide_eq_true_eq,Bool.false_eq_true,false_iff,true_iff]<;>first|omega|(simp_all;try omega)),(a0.drops [0,0])⟩
 refine pu1<|gY<|sL a0 1 2 (I a.x1) (isAgg3 _)<|pu1<|gY<|sL a0 0 2 (I b.x1) (isAgg3 _)<|pu3<|sD 35 (a.x1<=b.x1) (fun p0=>?_) (fun p0=>?_)
 rotate_left
 ·exact pu8<|zE<|retT [.bool false]<|⟨rB (by rw [Bool.eq_iff_iff];unfold insP;simp only [decide_eq_true_eq,Bool.false_eq_true,false_iff,true_iff]<;>first|omega|(simp_all;try omega)),(a0.drops [0,0])⟩
 exact pu1<|gY<|sL a0 1 3 (I a.y1) (isAgg3 _)<|pu1<|gY<|sL a0 0 3 (I b.y1) (isAgg3 _)<|pu4<|zE<|retT [.bool (decide ((a.y1:Int)<=b.y1))]<|⟨rB (by rw [Bool.eq_iff_iff];unfold insP;simp only [decide_eq_true_eq,Bool.false_eq_true,false_iff,true_iff]<;>first|omega|(simp_all;try omega)),(a0.drops [0,0])⟩
theorem r4_new (w0 h0 m0:Int) (hz:sizeP w0 h0 m0) (hS:Sat W w (H::F)):
  Calls prog 16 #[I w0,I h0,I m0] w fun e w'=>∃(az:Option Addr) (nz kz:Nat) (C:Chunk),e= .returned (.tuple #[.agg #[I w0,I h0,I m0, .slice az nz kz], .bool true])/\OwnT Go.E.encI 3 1 az nz kz (List.replicate (w0*h0).toNat 0) C/\Sat W w' (C::H::F):=by
 have hz0:=hz;unfold sizeP at hz0;have hwh:=mul_bd (a:=w0) (b:=h0) (A:=128) (B:=128) om om;have hwp:0<=w0*h0:=Int.mul_nonneg om om
 refine callsA 22 func16 rfl<|sR<|sAlloc hS zeroValue38 fun _ _ d0=>pu1<|zQ<|pu3<|cR call58 (r4_size w0 h0 m0 d0.flat) fun _ b0=>pu1<|nT<|cDn ((1:Int)<=w0/\w0<=(128:Int)/\(1:Int)<=h0/\h0<=(128:Int)/\w0*h0<=(4096:Int)/\(1:Int)<=m0/\m0<=(4294967296:Int)) (fun e0=>?_) (fun e0=>?_)
 rotate_left
 ·refine sR<|pu1<|sTl b0 0 [I 0,I 0,I 0,nS] sizeOf38 fun _ f0=>pu1<|zR<|retC f0 0 [I 0,I 0,I 0,nS] (.bool false) (isAgg38 _) (sizeOf38 _) ?_
  exfalso;omega
 exact kS<|pu5<|sMul w0 h0<|sMake (kl:= .i64) (kc:= .i64) (enc:=Go.E.encI) (sz:=1) (nb:=8) b0 0 ((w0*h0)).toNat (w0*h0) (om:(w0*h0)=((((w0*h0)).toNat:Nat):Int)) underlying22 (i:=Tryz.t3) kr fR fun a0 _ _ g0 i0=>pu1<|sTl i0 1 [I w0,I h0,I m0, .slice (At a0 0) (((w0*h0)).toNat) (((w0*h0)).toNat)] sizeOf38 fun _ c0=>pu1<|zE<|retC c0 1 [I w0,I h0,I m0, .slice (At a0 0) (((w0*h0)).toNat) (((w0*h0)).toNat)] (.bool true) (isAgg38 _) (sizeOf38 _)<|⟨(At a0 0),((w0*h0)).toNat,((w0*h0)).toNat,_,rfl,g0,(c0.dropAt 1 rfl)⟩
theorem r4_cover (p:Plane) (hp:Plane.Ok [H] p) (hS:Sat W w (H::F)):
  Ro prog 126 #[.agg (encPlane p).toArray] (.agg #[I 0,I 0,I p.w,I p.h]) W w (H::F):=by
 have hl_p_pix:=hp.pix.le;have hn_p_pix:=hp.pix.len
 exact callsA 8 func126 rfl<|sR<|sBox hS (.agg (encPlane p).toArray) (encPlane p).toArray fun _ _ c0=>sAlloc c0 zeroValue45 fun _ _ a0=>zS<|pu1<|sL a0 1 0 (I p.w) (isAgg3 _)<|pu1<|sL a0 1 1 (I p.h) (isAgg3 _)<|pu1<|sTl a0 0 [I 0,I 0,I p.w,I p.h] sizeOf45 fun _ b0=>zE<|retN (vs:=[.agg #[I 0,I 0,I p.w,I p.h]]) rfl (.cons (.cell _ _ _ _ kr (lvA b0 0 0 [I 0,I 0,I p.w,I p.h] (isAgg45 _) (sizeOf45 _) rfl rfl rfl)) .nil)<|⟨rfl,(b0.drops [0,0])⟩
theorem r4_copy (p:Plane) (hp:Plane.Ok [H] p) (hnx:p.pix.n<=100000) (hS:Sat W w (H::F)):
  Calls prog 33 #[.agg (encPlane p).toArray] w fun e w'=>∃(q:Plane) (G:Chunk),e= .returned (.agg (encPlane q).toArray)/\q.Ok [G]/\q.v=p.v/\Sat W w' (G::H::F):=by
 have hl_p_pix:=hp.pix.le;have hn_p_pix:=hp.pix.len
 refine callsA 8 func33 rfl<|sR<|sBox hS (.agg (encPlane p).toArray) (encPlane p).toArray fun _ _ f0=>sAlloc f0 zeroValue38 fun _ _ c0=>zS<|pu1<|sL c0 1 3 (.slice p.pix.a p.pix.n p.pix.k) (isAgg22 _) ?_
 have g0:=Sat.nilc c0
 refine sApp (nb:=8) g0 (OwnT.nil (enc:=Go.E.encI) (E:=3) (sz:=1) fR) 0 (hp.pix.up 3 rfl) underlying22 (i:=Tryz.t3) kr fR fun a0 b0 i0 _ j0 k0=>pu1<|tW k0 2 3 (.slice a0 (0+p.pix.n) b0) sizeOf22 fun _ d0=>zS<|lA d0 2 0 4 (isAgg38 _) (sizeOf38 _)<|sTl d0 1 [I p.w,I p.h,I p.max_, .slice a0 (0+p.pix.n) b0] sizeOf38 fun _ e0=>zE<|retN (vs:=[.agg #[I p.w,I p.h,I p.max_, .slice a0 (0+p.pix.n) b0]]) rfl (.cons (.cell _ _ _ _ kr (lvA e0 1 0 [I p.w,I p.h,I p.max_, .slice a0 (0+p.pix.n) b0] (isAgg38 _) (sizeOf38 _) rfl rfl rfl)) .nil) ?_
 exact ⟨(⟨p.w,p.h,p.max_,⟨a0,(0+p.pix.n),b0,([]++p.pix.l)⟩⟩:Plane),_,rfl,⟨(j0.rdAt (cs:=[i0]) 0 rfl)⟩,(by simp [Plane.v]),(e0.drops [1,1])⟩
theorem r4_pixel (p : Plane) (e0 : Edge) (x : Int) (y : Int) (hp : Plane.Ok [H] p) (hpo : planeOK p.v = true) (hev : edgeV e0.policy e0.fill p.max_) (hS : Sat W w (H :: F)) :
  Ro prog 170 #[.agg (encPlane p).toArray, .agg #[I e0.policy, I e0.fill], I x, I y] (I (pixV p.v e0.policy e0.fill x y)) W w (H :: F) := by
 have hl_p_pix := hp.pix.le; have hn_p_pix := hp.pix.len
 have hsz := (plane_sz hpo).1; unfold sizeP at hsz; simp only [Plane.v] at hsz; have hpl : p.v.pix.length = p.pix.n := hn_p_pix
 refine callsA 49 func170 rfl <| sR <| sBox hS (.agg (encPlane p).toArray) (encPlane p).toArray fun _ _ f0 => sBox f0 (.agg #[I e0.policy, I e0.fill]) #[I e0.policy, I e0.fill] fun _ _ b0 => pu1 <| zS <| pu2 <| sL b0 1 0 (I p.w) (isAgg3 _) <| pu1 <| sL b0 0 0 (I e0.policy) (isAgg3 _) <| cR call195 (r3_index x p.w e0.policy b0.flat) fun _ c0 => pu5 <| zS <| pu2 <| sL c0 1 1 (I p.h) (isAgg3 _) <| pu1 <| sL c0 0 0 (I e0.policy) (isAgg3 _) <| cR call195 (r3_index y p.h e0.policy c0.flat) fun _ a0 => pu5 <| zQ <| pu3 <| sBn 33 ((idxV x p.w e0.policy).isSome) (fun g0 => ?_) (fun g0 => ?_)
 rotate_left
 ·exact pu3 <| zC <| pu1 <| sL a0 0 1 (I e0.fill) (isAgg3 _) <| pu1 <| zR <| retT [I e0.fill] <| ⟨congrArg (fun z => Ending.returned (I z)) (pixV_fill (by first | exact .inl ‹_› | exact .inr ‹_›)).symm, (a0.drops [0, 0])⟩
 refine pu3 <| nT <| cBn ((idxV y p.h e0.policy).isSome) (fun i0 => ?_) (fun i0 => ?_)
 rotate_left
 ·exact sR <| pu1 <| sL a0 0 1 (I e0.fill) (isAgg3 _) <| pu1 <| zR <| retT [I e0.fill] <| ⟨congrArg (fun z => Ending.returned (I z)) (pixV_fill (by first | exact .inl ‹_› | exact .inr ‹_›)).symm, (a0.drops [0, 0])⟩
 refine kT <| seqE ?_
 have hix := pl_ix hpo (x := (idxV x p.w e0.policy).getD 0) (y := (idxV y p.h e0.policy).getD 0) (idx_some ‹_›) (idx_some ‹_›); rw [hpl] at hix; simp only [Plane.v] at hix; have hi2 := idx_some (i := x) (n := p.w) (p := e0.policy) ‹_›
 exact rE <| pu1 <| sL a0 1 3 (.slice p.pix.a p.pix.n p.pix.k) (isAgg22 _) <| pu2 <| sL a0 1 0 (I p.w) (isAgg3 _) <| sMul ((idxV y p.h e0.policy).getD 0) p.w <| pu1 <| sAdd (((idxV y p.h e0.policy).getD 0) * p.w) ((idxV x p.w e0.policy).getD 0) <| sIdx hp.pix ((((idxV y p.h e0.policy).getD 0) * p.w) + ((idxV x p.w e0.policy).getD 0)) runUnderlying22 sizeOf3 fun d0 _ _ k0 l0 => sLp a0 (l0.up 2 rfl) 0 (I d0) (isAgg3 _) <| pu1 <| zE <| retT [I d0] <| ⟨congrArg (fun z => Ending.returned (I z)) (pixV_get (p := p.v) ‹_› ‹_› k0).symm, (a0.drops [0, 0])⟩
theorem r9_tile (p:Plane) (e0:Edge) (kw:Int) (kh:Int) (aws:Option Addr) (nws kws:Nat) (ws:List Int) (sh:Int) (out:Int) (r:Rct) (hp:Plane.Ok [H] p) (hws:RdT Go.E.encI 1 [H] aws nws kws ws) (hS:Sat W w (H::F)):
  Calls prog 130 #[.agg (encPlane p).toArray, .agg #[I e0.policy,I e0.fill],I kw,I kh, .slice aws nws kws,I sh,I out, .agg (encRct r).toArray] w fun e w'=>∃(q:Plane) (c:Int) (G:Chunk),e= .returned (.tuple #[.agg (encPlane q).toArray,I c])/\q.Ok [G]/\(q.v,c)=convT p.v e0.policy e0.fill kw kh ws sh out r/\Sat W w' (G::H::F):=by
 have hl_p_pix:=hp.pix.le;have hn_p_pix:=hp.pix.len
 have hl_ws:=hws.le;have hn_ws:=hws.len
 refine callsA 143 func130 rfl<|sR<|sBox hS (.agg (encPlane p).toArray) (encPlane p).toArray fun c0 _ q1=>sBox q1 (.agg #[I e0.policy,I e0.fill]) #[I e0.policy,I e0.fill] fun d0 _ r1=>sBox r1 (.agg (encRct r).toArray) (encRct r).toArray fun a0 _ t1=>sAlloc t1 zeroValue38 fun g0 _ a1=>pu1<|zQ<|lA a1 3 0 4 (isAgg38 _) (sizeOf38 _)<|cR call76 (r4_valid p ⟨(RdT.flat (hp.pix.up 4 (by rfl)))⟩ a1.flat) fun _ s0=>pu2<|sBn 28 (planeOK p.v) (fun j0=>?_) (fun j0=>?_)
 rotate_left
 ·refine pu6<|zC<|pu1<|sTl s0 0 [I 0,I 0,I 0,nS] sizeOf38 fun _ b1=>pu1<|zR<|retC b1 0 [I 0,I 0,I 0,nS] (I 1) (isAgg38 _) (sizeOf38 _) ?_
  have hC:edgC p.v e0.policy e0.fill (convCode p.v.max_ kw kh ws sh out) p.v.w p.v.h r=1:=edgC_a (fun h=>j0 h.1)
  have u1:=(b1.drops [0,0,0,0])
  have v1:Sat W _ ([]::H::F):=Sat.nilc u1
  exact ⟨(⟨0,0,0,⟨none,0,0,[]⟩⟩:Plane),1,_,rfl,⟨RdT.nil (enc:=Go.E.encI) (sz:=1) fR [[]]⟩,(by unfold convT;rw [okT_c hC om];rfl),v1⟩
 refine gY<|lA s0 2 0 2 (isAgg49 _) (sizeOf49 _)<|pu1<|gY<|sL s0 3 2 (I p.max_) (isAgg3 _)<|gY<|cR call122 (r3_valid e0 p.max_ s0.flat) fun _ t0=>pu2<|nT<|cDn ((e0.policy=3/\0<=e0.fill/\e0.fill<=p.max_)\/(0<=e0.policy/\e0.policy<3/\e0.fill=0)) (fun m0=>?_) (fun m0=>?_)
 rotate_left
 ·refine sR<|pu1<|sTl t0 0 [I 0,I 0,I 0,nS] sizeOf38 fun _ c1=>pu1<|zR<|retC c1 0 [I 0,I 0,I 0,nS] (I 1) (isAgg38 _) (sizeOf38 _) ?_
  have hC:edgC p.v e0.policy e0.fill (convCode p.v.max_ kw kh ws sh out) p.v.w p.v.h r=1:=edgC_a (fun h=>m0 h.2)
  have w1:=(c1.drops [0,0,0,0])
  have z1:Sat W _ ([]::H::F):=Sat.nilc w1
  exact ⟨(⟨0,0,0,⟨none,0,0,[]⟩⟩:Plane),1,_,rfl,⟨RdT.nil (enc:=Go.E.encI) (sz:=1) fR [[]]⟩,(by unfold convT;rw [okT_c hC om];rfl),z1⟩
 refine kT<|seqE<|sR<|pu1<|sL t0 3 2 (I p.max_) (isAgg3 _)<|pu5<|cR call166 (r9_check p.max_ kw kh aws nws kws ws sh out (RdT.flat (hws.up 4 (by rfl))) t0.flat) fun _ k0=>pu1<|zS<|pu2<|nT<|cN (convCode p.max_ kw kh ws sh out) 0 (fun a2=>?_) (fun a2=>?_)
 rotate_left
 ·refine sR<|pu2<|sTl k0 0 [I 0,I 0,I 0,nS] sizeOf38 fun _ d1=>pu1<|zR<|retC d1 0 [I 0,I 0,I 0,nS] (I (convCode p.max_ kw kh ws sh out)) (isAgg38 _) (sizeOf38 _) ?_
  have hC:edgC p.v e0.policy e0.fill (convCode p.v.max_ kw kh ws sh out) p.v.w p.v.h r=(convCode p.max_ kw kh ws sh out):=edgC_b ⟨j0,m0⟩ (by simp only [Plane.v] at*;omega)
  have b2:=(d1.drops [0,0,0,0])
  have c2:Sat W _ ([]::H::F):=Sat.nilc b2
  exact ⟨(⟨0,0,0,⟨none,0,0,[]⟩⟩:Plane),(convCode p.max_ kw kh ws sh out),_,rfl,⟨RdT.nil (enc:=Go.E.encI) (sz:=1) fR [[]]⟩,(by unfold convT;rw [okT_c hC om];rfl),c2⟩
 refine kT<|seqE<|cutA (γ:=Unit) (fun _=>[(2,I kw),(3,I kh),(4, .slice aws nws kws),(5,I sh),(6,I out),(8,Pt c0 0),(9,Pt d0 0),(15,Pt a0 0),(16,Pt g0 0),(57, .bool (decide (¬(insP r ⟨0,0,p.w,p.h⟩/\¬(r.x0=0/\r.y0=0/\r.x1=0/\r.y1=0)))))]) (fun _ w=>Sat W w ([(g0, .cells #[I 0,I 0,I 0,nS] 38 (0,0))]::[(a0, .cells (encRct r).toArray 45 (0,0))]::[(d0, .cells #[I e0.policy,I e0.fill] 49 (0,0))]::[(c0, .cells (encPlane p).toArray 38 (0,0))]::H::F)) ?_ ?_
 ·refine drawP [1,4,5,6,7] [(0,⟨a0,0,none⟩,I r.x0),(0,⟨a0,1,none⟩,I r.y0),(0,⟨a0,2,none⟩,I r.x1),(0,⟨a0,3,none⟩,I r.y1)] (Plan.sts [0]<| .ef 1<|Plan.sts [2]<|Plan.sts [3]<| .fk 4 5 (.ef 5<| .ef 6<| .ef 7<|Plan.sts [8]<|Plan.sts [9]<| .fin) (.fk 4 6 (.ef 6<| .ef 7<|Plan.sts [8]<|Plan.sts [9]<| .fin) (.ef 4<| .ef 7<|Plan.sts [8]<|Plan.sts [9]<| .fin))) rfl kr ⟨cI k0 1,cI k0 1,cI k0 1,cI k0 1,trivial⟩ ?_
  have d2:=k0.drew
  refine qY (.agg (encRct r).toArray) rfl (fun w hF=>Y_loadF rfl (isAgg45 w) (sizeOf45 w) kr rfl ⟨hF 0 _ _ rfl,hF 1 _ _ rfl,hF 2 _ _ rfl,hF 3 _ _ rfl,trivial⟩)<|qO rfl<|cR call102 (r2_full r d2.flat) fun _ f0=>nilO ⟨dA,?_⟩
  refine qU [2]<|qU [3]<|qF ?_ ?_
  ·rcases Classical.em (rvP r/\¬(r.x0=0/\r.y0=0/\r.x1=0/\r.y1=0)) with n0|n0
   rotate_left
   ·refine qFix 51 _ true (congrArg Bool.not (decide_eq_false n0))<|qO rfl<|pu1<|nilO ⟨dA,?_⟩
    refine qO rfl<|pu1<|nilO ⟨dA,?_⟩
    refine qO rfl<|pu1<|nilO ⟨dA,?_⟩
    refine qO rfl<|pu1<|nilO ⟨dA,?_⟩
    exact qU [8]<|qU [9]<|qN<|tN<|⟨(),⟨kr,kr,kr,kr,kr,kr,kr,kr,kr,(Eq.trans (b:= .bool true) kr (congrArg Value.bool (decide_eq_true (p:=¬(insP r ⟨0,0,p.w,p.h⟩/\¬(r.x0=0/\r.y0=0/\r.x1=0/\r.y1=0))) (by exact fun h=>n0 ⟨h.1.1,h.2⟩)).symm)),trivial⟩,f0⟩
   refine qFix 51 _ false (congrArg Bool.not (decide_eq_true n0))<|qO rfl<|gY<|lA f0 1 0 4 (isAgg45 _) (sizeOf45 _)<|nilO ⟨dA,?_⟩
   refine qO rfl<|gY<|lA f0 3 0 4 (isAgg38 _) (sizeOf38 _)<|nilO ⟨dA,?_⟩
   refine qO rfl<|gY<|cR call126 (r4_cover p ⟨(RdT.flat (hp.pix.up 4 (by rfl)))⟩ f0.flat) fun _ e2=>nilO ⟨dA,?_⟩
   refine qO rfl<|gY<|cR call125 (r2_inside r (⟨0,0,p.w,p.h⟩:Rct) e2.flat) fun _ f2=>nilO ⟨dA,?_⟩
   exact qU [8]<|qU [9]<|qN<|tN<|⟨(),⟨kr,kr,kr,kr,kr,kr,kr,kr,kr,(Eq.trans (b:= .bool (!decide (insP r (⟨0,0,p.w,p.h⟩:Rct)))) kr (congrArg Value.bool (by rw [Bool.eq_iff_iff];simp only [decide_eq_true_eq,beq_iff_eq,bne_iff_ne,ne_eq,Bool.not_eq_true',decide_eq_false_iff_not,gt_iff_lt,ge_iff_le,Bool.and_eq_true,Bool.or_eq_true,Bool.not_eq_eq_eq_not,Bool.not_true,Bool.and_eq_false_imp,beq_eq_false_iff_ne]<;>exact ⟨fun h k=>h k.1,fun h k=>h ⟨k,n0.2⟩⟩))),trivial⟩,f2⟩
  rcases Classical.em (rvP r/\¬(r.x0=0/\r.y0=0/\r.x1=0/\r.y1=0)) with i0|i0
  rotate_left
  ·refine qFix 51 _ true (congrArg Bool.not (decide_eq_false i0))<|qO rfl<|pu1<|nilO ⟨dA,?_⟩
   refine qF ?_ ?_
   rotate_left
   ·refine qO rfl<|pu1<|nilO ⟨dA,?_⟩
    refine qO rfl<|pu1<|nilO ⟨dA,?_⟩
    refine qO rfl<|pu1<|nilO ⟨dA,?_⟩
    exact qU [8]<|qU [9]<|qN<|tN<|⟨(),⟨kr,kr,kr,kr,kr,kr,kr,kr,kr,(Eq.trans (b:= .bool true) kr (congrArg Value.bool (decide_eq_true (p:=¬(insP r ⟨0,0,p.w,p.h⟩/\¬(r.x0=0/\r.y0=0/\r.x1=0/\r.y1=0))) (by exact fun h=>i0 ⟨h.1.1,h.2⟩)).symm)),trivial⟩,f0⟩
   refine qO rfl<|pu1<|nilO ⟨dA,?_⟩
   refine qO rfl<|pu1<|nilO ⟨dA,?_⟩
   refine qO rfl<|pu1<|nilO ⟨dA,?_⟩
   exact qU [8]<|qU [9]<|qN<|tN<|⟨(),⟨kr,kr,kr,kr,kr,kr,kr,kr,kr,(Eq.trans (b:= .bool true) kr (congrArg Value.bool (decide_eq_true (p:=¬(insP r ⟨0,0,p.w,p.h⟩/\¬(r.x0=0/\r.y0=0/\r.x1=0/\r.y1=0))) (by exact fun h=>i0 ⟨h.1.1,h.2⟩)).symm)),trivial⟩,f0⟩
  refine qFix 51 _ false (congrArg Bool.not (decide_eq_true i0))<|qO rfl<|gY<|lA f0 3 0 4 (isAgg38 _) (sizeOf38 _)<|nilO ⟨dA,?_⟩
  refine qF ?_ ?_
  rotate_left
  ·refine qO rfl<|gY<|cR call126 (r4_cover p ⟨(RdT.flat (hp.pix.up 4 (by rfl)))⟩ f0.flat) fun _ e1=>nilO ⟨dA,?_⟩
   refine qO rfl<|gY<|lA e1 1 0 4 (isAgg45 _) (sizeOf45 _)<|nilO ⟨dA,?_⟩
   refine qO rfl<|gY<|cR call125 (r2_inside r (⟨0,0,p.w,p.h⟩:Rct) e1.flat) fun _ g2=>nilO ⟨dA,?_⟩
   exact qU [8]<|qU [9]<|qN<|tN<|⟨(),⟨kr,kr,kr,kr,kr,kr,kr,kr,kr,(Eq.trans (b:= .bool (!decide (insP r (⟨0,0,p.w,p.h⟩:Rct)))) kr (congrArg Value.bool (by rw [Bool.eq_iff_iff];simp only [decide_eq_true_eq,beq_iff_eq,bne_iff_ne,ne_eq,Bool.not_eq_true',decide_eq_false_iff_not,gt_iff_lt,ge_iff_le,Bool.and_eq_true,Bool.or_eq_true,Bool.not_eq_eq_eq_not,Bool.not_true,Bool.and_eq_false_imp,beq_eq_false_iff_ne]<;>exact ⟨fun h k=>h k.1,fun h k=>h ⟨k,i0.2⟩⟩))),trivial⟩,g2⟩
  refine qO rfl<|gY<|lA f0 1 0 4 (isAgg45 _) (sizeOf45 _)<|nilO ⟨dA,?_⟩
  refine qO rfl<|gY<|cR call126 (r4_cover p ⟨(RdT.flat (hp.pix.up 4 (by rfl)))⟩ f0.flat) fun _ i2=>nilO ⟨dA,?_⟩
  refine qO rfl<|gY<|cR call125 (r2_inside r (⟨0,0,p.w,p.h⟩:Rct) i2.flat) fun _ j2=>nilO ⟨dA,?_⟩
  exact qU [8]<|qU [9]<|qN<|tN<|⟨(),⟨kr,kr,kr,kr,kr,kr,kr,kr,kr,(Eq.trans (b:= .bool (!decide (insP r (⟨0,0,p.w,p.h⟩:Rct)))) kr (congrArg Value.bool (by rw [Bool.eq_iff_iff];simp only [decide_eq_true_eq,beq_iff_eq,bne_iff_ne,ne_eq,Bool.not_eq_true',decide_eq_false_iff_not,gt_iff_lt,ge_iff_le,Bool.and_eq_true,Bool.or_eq_true,Bool.not_eq_eq_eq_not,Bool.not_true,Bool.and_eq_false_imp,beq_eq_false_iff_ne]<;>exact ⟨fun h k=>h k.1,fun h k=>h ⟨k,i0.2⟩⟩))),trivial⟩,j2⟩
 rintro _ ρ _ l0
 refine cD (¬(insP r ⟨0,0,p.w,p.h⟩/\¬(r.x0=0/\r.y0=0/\r.x1=0/\r.y1=0))) (fun u0=>?_) (fun u0=>?_)
 ·refine sR<|pu1<|sTl l0 0 [I 0,I 0,I 0,nS] sizeOf38 fun _ f1=>pu1<|zR<|retC f1 0 [I 0,I 0,I 0,nS] (I 8) (isAgg38 _) (sizeOf38 _) ?_
  have hsz:=(plane_sz j0).1;unfold sizeP at hsz;simp only [Plane.v] at hsz
  have hC:edgC p.v e0.policy e0.fill (convCode p.v.max_ kw kh ws sh out) p.v.w p.v.h r=8:=edgC_c ⟨j0,m0⟩ (by simp only [Plane.v] at*;omega) (fun h=>by have h2:=(ins_in (by simp only [Plane.v];omega) (by simp only [Plane.v];omega)).2 h;exact u0 ⟨h2.2,h2.1⟩)
  have k2:=(f1.drops [0,0,0,0])
  have l2:Sat W _ ([]::H::F):=Sat.nilc k2
  exact ⟨(⟨0,0,0,⟨none,0,0,[]⟩⟩:Plane),8,_,rfl,⟨RdT.nil (enc:=Go.E.encI) (sz:=1) fR [[]]⟩,(by unfold convT;rw [okT_c hC om];rfl),l2⟩
 refine kT<|seqE ?_
 have hpo:planeOK p.v=true:=j0;have hev:edgeV e0.policy e0.fill p.max_:=m0;have hcc:(convCode p.v.max_ kw kh ws sh out)=0:=by simp only [Plane.v];omega
 have hsz:=(plane_sz hpo).1;unfold sizeP at hsz;simp only [Plane.v] at hsz
 have hri:rIn r p.w p.h:=(ins_in om om).1 (And.comm.1 (Classical.not_not.1 u0))
 have hri0:=hri;unfold rIn at hri0;obtain ⟨hck,hckh,hcl,hcs,hco,hbn⟩:=conv_ok hcc
 obtain ⟨Wn,hW⟩:∃k:Nat,r.x1-r.x0=(k:Int):=⟨_,(Int.toNat_of_nonneg om).symm⟩;obtain ⟨Hn,hH⟩:∃k:Nat,r.y1-r.y0=(k:Int):=⟨_,(Int.toNat_of_nonneg om).symm⟩
 have hWb:1<=Wn/\Wn<=128/\1<=Hn/\Hn<=128:=om;have hWH:Hn*Wn<=4096:=by have h1:=rIn_area hri (by first|omega|assumption);rw [hW,hH] at h1;have h2:((Hn*Wn:Nat):Int)=(Wn:Int)*(Hn:Int):=(by push_cast;rw [Int.mul_comm]);omega
 have hWi:(r.x1-r.x0)*(r.y1-r.y0)=((Hn*Wn:Nat):Int):=by rw [hW,hH];push_cast;rw [Int.mul_comm]
 have ht1:kw.tdiv 2=kw/2:=Int.tdiv_eq_ediv_of_nonneg om;have ht2:kh.tdiv 2=kh/2:=Int.tdiv_eq_ediv_of_nonneg om;have haw:=(wCode_len (bnd_t hbn).1).2.2;have hw81:=(wCode_len (bnd_t hbn).1).2.1
 obtain ⟨f,hf⟩:∃f:Int->Int->Int,f=fun i j=>convX p.v e0.policy e0.fill kw kh ws sh out (r.x0+i) (r.y0+j):=⟨_,rfl⟩
 refine rE<|pu1<|sL l0 1 2 (I r.x1) (isAgg3 _)<|pu1<|sL l0 1 0 (I r.x0) (isAgg3 _)<|sSub r.x1 r.x0<|pu1<|sL l0 1 3 (I r.y1) (isAgg3 _)<|pu1<|sL l0 1 1 (I r.y0) (isAgg3 _)<|sSub r.y1 r.y0<|pu1<|cX call16 (r4_new (r.x1-r.x0) (r.y1-r.y0) out (by unfold sizeP;omega) l0.flat) ?_
 rintro _ _ ⟨g1,i1,j1,m2,rfl,v0,n2⟩
 have o2:=n2.unflat1;have hn_az_59:=v0.len;have hl_az_59:=v0.le
 refine pu3<|sAlloc o2 zeroValue38 fun h0 _ p2=>sTl p2 0 [I (r.x1-r.x0),I (r.y1-r.y0),I out, .slice g1 i1 j1] sizeOf38 fun _ k1=>pu1<|zQ<|pu1<|sL k1 3 1 (I r.y0) (isAgg3 _)<|pu1<|nT<|blockE ?_
 have q2:=(k1.pick 1 rfl)
 refine loopA (γ:=Nat×Int×(List Int)×(Option Addr)×Nat×Nat×Chunk) (fun ⟨i,yy,zs,azs,nzs,kzs,czs⟩=>[(2,I kw),(3,I kh),(4, .slice aws nws kws),(5,I sh),(6,I out),(8,Pt c0 0),(9,Pt d0 0),(15,Pt a0 0),(16,Pt g0 0),(19,Pt h0 0),(21,I yy)]) (fun ⟨i,yy,zs,azs,nzs,kzs,czs⟩ w=>Sat W w (czs::[(h0, .cells #[I (r.x1-r.x0),I (r.y1-r.y0),I out, .slice azs nzs kzs] 38 (0,0))]::[(g0, .cells #[I 0,I 0,I 0,nS] 38 (0,0))]::[(a0, .cells (encRct r).toArray 45 (0,0))]::[(d0, .cells #[I e0.policy,I e0.fill] 49 (0,0))]::[(c0, .cells (encPlane p).toArray 38 (0,0))]::H::F)/\i<=Hn/\(yy=r.y0+(i:Int))/\(zs=gridN Wn f (i*Wn)++List.replicate (Hn*Wn-i*Wn) 0)/\OwnT Go.E.encI 3 1 azs nzs kzs zs czs) (fun ⟨i,yy,zs,azs,nzs,kzs,czs⟩=>Hn-i) (0,r.y0,(List.replicate ((r.x1-r.x0)*(r.y1-r.y0)).toNat 0),g1,i1,j1,m2) ⟨q2,om,om,(by rw [hWi,Int.toNat_natCast,Nat.zero_mul];rfl),v0⟩ ?_
 rintro ⟨i,yy,zs,azs,nzs,kzs,czs⟩ ρ _ ⟨o0,hi,hyy,hE,hOzs⟩
 have hn_zs:=hOzs.len;have hl_zs:=hOzs.le
 refine seqE<|sR<|pu2<|sL o0 3 3 (I r.y1) (isAgg3 _)<|pu1<|nT<|cD (yy<r.y1) (fun r2=>?_) (fun r2=>?_)
 rotate_left
 ·refine exitE<|xB<|tN<|sR<|lA o0 1 0 4 (isAgg38 _) (sizeOf38 _)<|sTl o0 2 [I (r.x1-r.x0),I (r.y1-r.y0),I out, .slice azs nzs kzs] sizeOf38 fun _ l1=>pu1<|zE<|retC l1 2 [I (r.x1-r.x0),I (r.y1-r.y0),I out, .slice azs nzs kzs] (I 0) (isAgg38 _) (sizeOf38 _) ?_
  have hz9:zs=gridN Wn f (Hn*Wn):=by rw [hE,show i=Hn by omega,Nat.sub_self,List.replicate_zero,List.append_nil]
  have hC:edgC p.v e0.policy e0.fill (convCode p.v.max_ kw kh ws sh out) p.v.w p.v.h r=0:=edgC_ok hpo hev hcc hri
  exact ⟨(⟨(r.x1-r.x0),(r.y1-r.y0),out,⟨azs,nzs,kzs,zs⟩⟩:Plane),0,_,rfl,⟨(hOzs.rdAt (cs:=[czs]) 0 rfl)⟩,(by unfold convT;rw [okT_0 hC,mk_pl hri hW hH (hf▸hz9)];rfl),(l1.drops [1,1,1,1,1])⟩
 refine kT<|seqE<|blockE<|sR<|pu1<|sL o0 3 0 (I r.x0) (isAgg3 _)<|pu1<|nT<|blockE ?_
 refine loopA (γ:=Nat×Int×(List Int)×(Option Addr)×Nat×Nat×Chunk) (fun ⟨j,xx,zt,azt,nzt,kzt,czt⟩=>[(2,I kw),(3,I kh),(4, .slice aws nws kws),(5,I sh),(6,I out),(8,Pt c0 0),(9,Pt d0 0),(15,Pt a0 0),(16,Pt g0 0),(19,Pt h0 0),(21,I yy),(22,I xx)]) (fun ⟨j,xx,zt,azt,nzt,kzt,czt⟩ w=>Sat W w (czt::[(h0, .cells #[I (r.x1-r.x0),I (r.y1-r.y0),I out, .slice azt nzt kzt] 38 (0,0))]::[(g0, .cells #[I 0,I 0,I 0,nS] 38 (0,0))]::[(a0, .cells (encRct r).toArray 45 (0,0))]::[(d0, .cells #[I e0.policy,I e0.fill] 49 (0,0))]::[(c0, .cells (encPlane p).toArray 38 (0,0))]::H::F)/\j<=Wn/\(xx=r.x0+(j:Int))/\(zt=gridN Wn f (i*Wn+j)++List.replicate (Hn*Wn-(i*Wn+j)) 0)/\OwnT Go.E.encI 3 1 azt nzt kzt zt czt) (fun ⟨j,xx,zt,azt,nzt,kzt,czt⟩=>Wn-j) (0,r.x0,zs,azs,nzs,kzs,czs) ⟨o0,om,om,(by rw [Nat.add_zero];exact hE),hOzs⟩ ?_
 rintro ⟨j,xx,zt,azt,nzt,kzt,czt⟩ ρ _ ⟨w0,hj,hxx,hE2,hOzt⟩
 have hn_zt:=hOzt.len;have hl_zt:=hOzt.le
 have hzl2:zt.length=Hn*Wn:=by rw [hE2,List.length_append,grid_len,List.length_replicate];have h1:=Nat.mul_le_mul_right Wn (show i+1<=Hn by omega);rw [Nat.add_mul,Nat.one_mul] at h1;omega
 have hij:i*Wn+j<=Hn*Wn:=by have h1:=Nat.mul_le_mul_right Wn (show i+1<=Hn by omega);rw [Nat.add_mul,Nat.one_mul] at h1;omega
 have hij2:i*Wn+Wn<=Hn*Wn:=by have h1:=Nat.mul_le_mul_right Wn (show i+1<=Hn by omega);rw [Nat.add_mul,Nat.one_mul] at h1;omega
 have hpr:(yy-r.y0)*(r.x1-r.x0)=((i*Wn:Nat):Int):=by rw [show yy-r.y0=(i:Int) by omega,hW];push_cast;rfl
 refine seqE<|sR<|pu2<|sL w0 3 2 (I r.x1) (isAgg3 _)<|pu1<|nT<|cD (xx<r.x1) (fun t2=>?_) (fun t2=>?_)
 rotate_left
 ·refine exitE<|xB<|bN<|tN<|rE<|pu1<|sAdd yy 1<|pu1<|nT ?_
  exact ⟨(i+1,(yy+1),zt,azt,nzt,kzt,czt),od,alA,w0,om,om,(by rw [Nat.add_mul,Nat.one_mul,hE2,show j=Wn by omega]),hOzt⟩
 refine kT<|seqE<|blockE<|sR<|pu1<|zQ<|pu1<|nT<|blockE ?_
 refine loopA (γ:=Nat×Int) (fun ⟨k,s1⟩=>[(2,I kw),(3,I kh),(4, .slice aws nws kws),(5,I sh),(6,I out),(8,Pt c0 0),(9,Pt d0 0),(15,Pt a0 0),(16,Pt g0 0),(19,Pt h0 0),(21,I yy),(22,I xx),(24,I (k:Int)),(23,I s1)]) (fun ⟨k,s1⟩ w=>Sat W w (czt::[(h0, .cells #[I (r.x1-r.x0),I (r.y1-r.y0),I out, .slice azt nzt kzt] 38 (0,0))]::[(g0, .cells #[I 0,I 0,I 0,nS] 38 (0,0))]::[(a0, .cells (encRct r).toArray 45 (0,0))]::[(d0, .cells #[I e0.policy,I e0.fill] 49 (0,0))]::[(c0, .cells (encPlane p).toArray 38 (0,0))]::H::F)/\k<=ws.length/\(s1=convS p.v e0.policy e0.fill kw kh ws xx yy k)) (fun ⟨k,s1⟩=>ws.length-k) (0,0) ⟨w0,om,by rfl⟩ ?_
 rintro ⟨k,s1⟩ ρ _ ⟨b0,hk,hs1⟩
 have hsb:=conv_part (kw:=kw) (kh:=kh) (x:=xx) (y:=yy) hpo hev hcc (n:=k) om
 refine seqE<|sR<|pu4<|nT<|cD ((k:Int)<(nws:Int)) (fun u2=>?_) (fun u2=>?_)
 rotate_left
 ·refine exitE<|xB<|tN ?_
  obtain ⟨v2,w2,x2,y2,h4,z2,a3⟩:=OwnT.elem hOzt ((((yy-r.y0)*(r.x1-r.x0))+xx)-r.x0)
  refine drawE [16,18,20] [(1,⟨h0,3,none⟩, .slice azt nzt kzt),(4,⟨a0,1,none⟩,I r.y0),(7,⟨h0,0,none⟩,I (r.x1-r.x0)),(12,⟨a0,0,none⟩,I r.x0)] [(true,[0,2,3,6,9,11,14,15,17]),(true,[1]),(true,[4]),(true,[5]),(true,[7]),(true,[8]),(true,[10]),(true,[12]),(true,[13]),(false,[16]),(false,[18]),(true,[19]),(false,[20])] rfl kr ⟨cI b0 1,cI b0 3,cI b0 1,cI b0 3,trivial⟩ ?_
  have b3:=b0.drew
  refine wU [0,2,3,6,9,11,14,15,17]<|wLd (.slice azt nzt kzt) 0 isAgg22<|wLd (I r.y0) 1 isAgg3<|wSub yy r.y0<|wLd (I (r.x1-r.x0)) 2 isAgg3<|wMul (yy-r.y0) (r.x1-r.x0)<|wAdd ((yy-r.y0)*(r.x1-r.x0)) xx<|wLd (I r.x0) 3 isAgg3<|wSub (((yy-r.y0)*(r.x1-r.x0))+xx) r.x0<|wO rfl<|cR call172 (r7_shift s1 sh b3.flat) fun _ p0=>nilO ⟨⟨cI p0 1,cI p0 3,cI p0 1,cI p0 3,trivial⟩,?_⟩
  refine wO rfl<|cR call171 (r7_clamp (shiftV s1 sh) out p0.flat) fun _ q0=>nilO ⟨⟨cI q0 1,cI q0 3,cI q0 1,cI q0 3,trivial⟩,?_⟩
  refine wY (.pointer (some ⟨w2,x2+(((((yy-r.y0)*(r.x1-r.x0))+xx)-r.x0)).toNat*1,none⟩)) rfl (fun w _=>Y_idx (a:=azt) (i:=((((yy-r.y0)*(r.x1-r.x0))+xx)-r.x0)) (len:=nzt) (cap:=kzt) rfl runUnderlying22 sizeOf3 kr kr z2)<|wO rfl<|sStF q0 hOzt a3 0 (((((yy-r.y0)*(r.x1-r.x0))+xx)-r.x0)).toNat 0 v2 (clampV (shiftV s1 sh) out) y2 (I (clampV (shiftV s1 sh) out)) [I (clampV (shiftV s1 sh) out)] sizeOf3 fun _ c3 d3 e3=>nilO ⟨dA,?_⟩
  refine wN<|bN<|tN<|rE<|pu1<|sAdd xx 1<|pu1<|nT ?_
  exact ⟨(j+1,(xx+1),(zt.set ((((((yy-r.y0)*(r.x1-r.x0))+xx)-r.x0)).toNat) (clampV (shiftV s1 sh) out)),azt,nzt,kzt,c3),od,alA,e3,om,om,(by rw [show ((((((yy-r.y0)*(r.x1-r.x0))+xx)-r.x0)).toNat)=i*Wn+j by omega,hE2,fill_set (grid_len _ _ _) om,<-Nat.add_assoc,grid_succ om];congr 2;rw [hf];dsimp only;rw [<-hxx,<-hyy];unfold convX;rw [show ws.length=k by omega,<-hs1]),d3⟩
 refine kT<|seqE<|blockE ?_
 have hmk:=Int.emod_nonneg (k:Int) (show kw≠0 by omega);have hmk2:=Int.emod_lt_of_pos (k:Int) (show 0<kw by omega);have htm:(k:Int).tmod kw=(k:Int)%kw:=Int.tmod_eq_emod_of_nonneg om;have htd:(k:Int).tdiv kw=(k:Int)/kw:=Int.tdiv_eq_ediv_of_nonneg om;have hdk:=Int.ediv_nonneg (show 0<=(k:Int) by omega) (show 0<=kw by omega);have hdk2:=Int.ediv_le_self kw (show 0<=(k:Int) by omega)
 obtain ⟨r0,m1,n1,z0,o1,f3⟩:=RdT.elem hws (k:Int)
 rw [Int.toNat_natCast] at z0
 have hwx:=areW_at haw z0
 refine drawE [23] [(4,⟨m1,n1,none⟩,I r0),(5,⟨c0,0,none⟩,I p.w),(5,⟨c0,1,none⟩,I p.h),(5,⟨c0,2,none⟩,I p.max_),(5,⟨c0,3,none⟩, .slice p.pix.a p.pix.n p.pix.k),(6,⟨d0,0,none⟩,I e0.policy),(6,⟨d0,1,none⟩,I e0.fill)] [(true,[0,1,2]),(true,[3]),(true,[7,8,9]),(true,[10]),(true,[11]),(true,[12]),(true,[13]),(true,[14]),(true,[15,16,17]),(true,[18]),(true,[19]),(true,[20]),(true,[21]),(true,[22]),(true,[4]),(true,[5]),(true,[6]),(false,[23]),(true,[24]),(true,[25]),(true,[26])] rfl kr ⟨.inr ((o1.up 6 rfl).cell b0 (k:=0) rfl),cI b0 5,cI b0 5,cI b0 5,cI b0 5,cI b0 4,cI b0 4,trivial⟩ ?_
 have g3:=b0.drew
 refine wU [0,1,2]<|wY (.pointer (some ⟨m1,n1,none⟩)) rfl (fun w _=>Y_idx (a:=aws) (i:=(k:Int)) (len:=nws) (cap:=kws) rfl runUnderlying22 sizeOf3 kr kr f3)<|wU [7,8,9]<|wRem (k:Int) kw<|wAdd xx ((k:Int).tmod kw)<|wU [12]<|wQuo kw 2<|wSub (xx+((k:Int).tmod kw)) (kw.tdiv 2)<|wU [15,16,17]<|wQuo (k:Int) kw<|wAdd yy ((k:Int).tdiv kw)<|wU [20]<|wQuo kh 2<|wSub (yy+((k:Int).tdiv kw)) (kh.tdiv 2)<|wLd (I r0) 0 isAgg3<|wY (.agg (encPlane p).toArray) rfl (fun w hF=>Y_loadF rfl (isAgg38 w) (sizeOf38 w) kr rfl ⟨hF 1 _ _ rfl,hF 2 _ _ rfl,hF 3 _ _ rfl,hF 4 _ _ rfl,trivial⟩) ?_
 refine wY (.agg #[I e0.policy,I e0.fill]) rfl (fun w hF=>Y_loadF rfl (isAgg49 w) (sizeOf49 w) kr rfl ⟨hF 5 _ _ rfl,hF 6 _ _ rfl,trivial⟩)<|wO rfl<|cR call170 (r4_pixel p e0 ((xx+((k:Int).tmod kw))-(kw.tdiv 2)) ((yy+((k:Int).tdiv kw))-(kh.tdiv 2)) ⟨(RdT.flat (hp.pix.up 6 (by rfl)))⟩ hpo hev g3.flat) fun _ p1=>?_
 have hpx:=pix_bd hpo hev (x:=((xx+((k:Int).tmod kw))-(kw.tdiv 2))) (y:=((yy+((k:Int).tdiv kw))-(kh.tdiv 2)));have hpm:=wmul_bd (v:=(pixV p.v e0.policy e0.fill ((xx+((k:Int).tmod kw))-(kw.tdiv 2)) ((yy+((k:Int).tdiv kw))-(kh.tdiv 2)))) (B:=4294967296) hwx (by simp only [Plane.v] at*;omega) (by decide)
 refine nilO ⟨⟨.inr ((o1.up 6 rfl).cell p1 (k:=0) rfl),dI,dI,dI,dI,dI,dI,trivial⟩,?_⟩
 exact wMul r0 (pixV p.v e0.policy e0.fill ((xx+((k:Int).tmod kw))-(kw.tdiv 2)) ((yy+((k:Int).tdiv kw))-(kh.tdiv 2)))<|wAdd s1 (r0*(pixV p.v e0.policy e0.fill ((xx+((k:Int).tmod kw))-(kw.tdiv 2)) ((yy+((k:Int).tdiv kw))-(kh.tdiv 2))))<|wU [26]<|wN<|bN<|tN<|rE<|pu1<|sAdd (k:Int) 1<|pu1<|nT<|⟨(k+1,(s1+(r0*(pixV p.v e0.policy e0.fill ((xx+((k:Int).tmod kw))-(kw.tdiv 2)) ((yy+((k:Int).tdiv kw))-(kh.tdiv 2)))))),od,alA,p1,om,(by unfold convS;rw [sumN_succ,List.getD_eq_getElem?_getD,z0,show sumN _ k=s1 from hs1.symm];unfold convF;rw [htm,htd,ht1,ht2];rfl)⟩
theorem r10_mid (p:Plane) (e0:Edge) (arow:Option Addr) (nrow krow:Nat) (row:List Int) (sh:Int) (x:Int) (y:Int) (hp:Plane.Ok [H] p) (hrow:RdT Go.E.encI 1 [H] arow nrow krow row) (hpo:planeOK p.v=true) (hev:edgeV e0.policy e0.fill p.max_) (hbr:bndOK row 0 p.max_=true) (hxb:-1000000<=x/\x<=1000000) (hS:Sat W w (H::F)):
  Ro prog 173 #[.agg (encPlane p).toArray, .agg #[I e0.policy,I e0.fill], .slice arow nrow krow,I sh,I x,I y] (I (midV p.v e0.policy e0.fill row sh x y)) W w (H::F):=by
 have hl_p_pix:=hp.pix.le;have hn_p_pix:=hp.pix.len
 have hl_row:=hrow.le;have hn_row:=hrow.len
 have hsz:=(plane_sz hpo).1;unfold sizeP at hsz;simp only [Plane.v] at hsz;have haw_row:=(wCode_len (bnd_t hbr).1).2.2;have hr81:=(wCode_len (bnd_t hbr).1).2.1;have ht1:(nrow:Int).tdiv 2=(nrow:Int)/2:=Int.tdiv_eq_ediv_of_nonneg om
 refine callsA 42 func173 rfl<|sR<|sBox hS (.agg (encPlane p).toArray) (encPlane p).toArray fun b0 _ k0=>sBox k0 (.agg #[I e0.policy,I e0.fill]) #[I e0.policy,I e0.fill] fun d0 _ l0=>pu1<|zS<|pu1<|zQ<|pu1<|nT<|blockE<|loopA (γ:=Nat×Int) (fun ⟨k,s1⟩=>[(2, .slice arow nrow krow),(3,I sh),(4,I x),(5,I y),(6,Pt b0 0),(7,Pt d0 0),(14,I (k:Int)),(13,I s1)]) (fun ⟨k,s1⟩ w=>Sat W w ([(d0, .cells #[I e0.policy,I e0.fill] 49 (0,0))]::[(b0, .cells (encPlane p).toArray 38 (0,0))]::H::F)/\k<=nrow/\(s1=midS p.v e0.policy e0.fill row x y k)) (fun ⟨k,s1⟩=>nrow-k) (0,0) ⟨l0,om,by rfl⟩ ?_
 rintro ⟨k,s1⟩ ρ _ ⟨a0,hk,hs1⟩
 have hsb:=part_bd (f:=fun k=>pixV p.v e0.policy e0.fill (x+(k:Int)-(row.length:Int)/2) y) hbr (fun _ _=>pix_bd hpo hev) (n:=k) om;have hsb2:-200000000000000000<=s1/\s1<=200000000000000000:=by rw [hs1];exact hsb
 refine seqE<|sR<|pu4<|nT<|cD ((k:Int)<(nrow:Int)) (fun m0=>?_) (fun m0=>?_)
 rotate_left
 ·refine exitE<|xB<|tN<|sR<|pu2<|cR call172 (r7_shift s1 sh a0.flat) fun _ n0=>pu1<|zE<|retT [I (shiftV s1 sh)] ?_
  exact ⟨congrArg (fun z=>Ending.returned (I z)) (by unfold midV;rw [hn_row,show nrow=k by omega,<-hs1]),(n0.drops [0,0])⟩
 refine kT<|seqE<|blockE ?_
 obtain ⟨c0,g0,h0,f0,i0,p0⟩:=RdT.elem hrow (k:Int)
 rw [Int.toNat_natCast] at f0
 have hwx:=areW_at haw_row f0
 refine drawE [15] [(4,⟨g0,h0,none⟩,I c0),(5,⟨b0,0,none⟩,I p.w),(5,⟨b0,1,none⟩,I p.h),(5,⟨b0,2,none⟩,I p.max_),(5,⟨b0,3,none⟩, .slice p.pix.a p.pix.n p.pix.k),(6,⟨d0,0,none⟩,I e0.policy),(6,⟨d0,1,none⟩,I e0.fill)] [(true,[0,1,2]),(true,[3]),(true,[7,8]),(true,[9]),(true,[10,11]),(true,[12]),(true,[13]),(true,[14]),(true,[4]),(true,[5]),(true,[6]),(false,[15]),(true,[16]),(true,[17]),(true,[18])] rfl kr ⟨.inr ((i0.up 2 rfl).cell a0 (k:=0) rfl),cI a0 1,cI a0 1,cI a0 1,cI a0 1,cI a0 0,cI a0 0,trivial⟩ ?_
 have q0:=a0.drew
 refine wU [0,1,2]<|wY (.pointer (some ⟨g0,h0,none⟩)) rfl (fun w _=>Y_idx (a:=arow) (i:=(k:Int)) (len:=nrow) (cap:=krow) rfl runUnderlying22 sizeOf3 kr kr p0)<|wU [7,8]<|wAdd x (k:Int)<|wU [10,11]<|wQuo (nrow:Int) 2<|wSub (x+(k:Int)) ((nrow:Int).tdiv 2)<|wU [14]<|wLd (I c0) 0 isAgg3<|wY (.agg (encPlane p).toArray) rfl (fun w hF=>Y_loadF rfl (isAgg38 w) (sizeOf38 w) kr rfl ⟨hF 1 _ _ rfl,hF 2 _ _ rfl,hF 3 _ _ rfl,hF 4 _ _ rfl,trivial⟩)<|wY (.agg #[I e0.policy,I e0.fill]) rfl (fun w hF=>Y_loadF rfl (isAgg49 w) (sizeOf49 w) kr rfl ⟨hF 5 _ _ rfl,hF 6 _ _ rfl,trivial⟩)<|wO rfl ?_
 refine cR call170 (r4_pixel p e0 ((x+(k:Int))-((nrow:Int).tdiv 2)) y ⟨(RdT.flat (hp.pix.up 2 (by rfl)))⟩ hpo hev q0.flat) fun _ j0=>?_
 have hpx:=pix_bd hpo hev (x:=((x+(k:Int))-((nrow:Int).tdiv 2))) (y:=y);have hpm:=wmul_bd (v:=(pixV p.v e0.policy e0.fill ((x+(k:Int))-((nrow:Int).tdiv 2)) y)) (B:=4294967296) hwx (by simp only [Plane.v] at*;omega) (by decide)
 refine nilO ⟨⟨.inr ((i0.up 2 rfl).cell j0 (k:=0) rfl),dI,dI,dI,dI,dI,dI,trivial⟩,?_⟩
 exact wMul c0 (pixV p.v e0.policy e0.fill ((x+(k:Int))-((nrow:Int).tdiv 2)) y)<|wAdd s1 (c0*(pixV p.v e0.policy e0.fill ((x+(k:Int))-((nrow:Int).tdiv 2)) y))<|wU [18]<|wN<|bN<|tN<|rE<|pu1<|sAdd (k:Int) 1<|pu1<|nT<|⟨(k+1,(s1+(c0*(pixV p.v e0.policy e0.fill ((x+(k:Int))-((nrow:Int).tdiv 2)) y)))),od,alA,j0,om,(by rw [mid_succ f0,<-hs1,hn_row,<-ht1])⟩
theorem r10_tile (p:Plane) (e0:Edge) (arow:Option Addr) (nrow krow:Nat) (row:List Int) (acol:Option Addr) (ncol kcol:Nat) (col:List Int) (sh:Int) (sh2:Int) (out:Int) (r:Rct) (hp:Plane.Ok [H] p) (hrow:RdT Go.E.encI 1 [H] arow nrow krow row) (hcol:RdT Go.E.encI 1 [H] acol ncol kcol col) (hS:Sat W w (H::F)):
  Calls prog 131 #[.agg (encPlane p).toArray, .agg #[I e0.policy,I e0.fill], .slice arow nrow krow, .slice acol ncol kcol,I sh,I sh2,I out, .agg (encRct r).toArray] w fun e w'=>∃(q:Plane) (c:Int) (G:Chunk),e= .returned (.tuple #[.agg (encPlane q).toArray,I c])/\q.Ok [G]/\(q.v,c)=sepT p.v e0.policy e0.fill row col sh sh2 out r/\Sat W w' (G::H::F):=by
 have hl_p_pix:=hp.pix.le;have hn_p_pix:=hp.pix.len
 have hl_row:=hrow.le;have hn_row:=hrow.len
 have hl_col:=hcol.le;have hn_col:=hcol.len
 refine callsA 137 func131 rfl<|sR<|sBox hS (.agg (encPlane p).toArray) (encPlane p).toArray fun c0 _ q1=>sBox q1 (.agg #[I e0.policy,I e0.fill]) #[I e0.policy,I e0.fill] fun d0 _ r1=>sBox r1 (.agg (encRct r).toArray) (encRct r).toArray fun a0 _ t1=>sAlloc t1 zeroValue38 fun g0 _ a1=>pu1<|zQ<|lA a1 3 0 4 (isAgg38 _) (sizeOf38 _)<|cR call76 (r4_valid p ⟨(RdT.flat (hp.pix.up 4 (by rfl)))⟩ a1.flat) fun _ s0=>pu2<|sBn 28 (planeOK p.v) (fun j0=>?_) (fun j0=>?_)
 rotate_left
 ·refine pu6<|zC<|pu1<|sTl s0 0 [I 0,I 0,I 0,nS] sizeOf38 fun _ b1=>pu1<|zR<|retC b1 0 [I 0,I 0,I 0,nS] (I 1) (isAgg38 _) (sizeOf38 _) ?_
  have hC:edgC p.v e0.policy e0.fill (sepCode p.v.max_ row col sh sh2 out) p.v.w p.v.h r=1:=edgC_a (fun h=>j0 h.1)
  have u1:=(b1.drops [0,0,0,0])
  have v1:Sat W _ ([]::H::F):=Sat.nilc u1
  exact ⟨(⟨0,0,0,⟨none,0,0,[]⟩⟩:Plane),1,_,rfl,⟨RdT.nil (enc:=Go.E.encI) (sz:=1) fR [[]]⟩,(by unfold sepT;rw [okT_c hC om];rfl),v1⟩
 refine gY<|lA s0 2 0 2 (isAgg49 _) (sizeOf49 _)<|pu1<|gY<|sL s0 3 2 (I p.max_) (isAgg3 _)<|gY<|cR call122 (r3_valid e0 p.max_ s0.flat) fun _ t0=>pu2<|nT<|cDn ((e0.policy=3/\0<=e0.fill/\e0.fill<=p.max_)\/(0<=e0.policy/\e0.policy<3/\e0.fill=0)) (fun m0=>?_) (fun m0=>?_)
 rotate_left
 ·refine sR<|pu1<|sTl t0 0 [I 0,I 0,I 0,nS] sizeOf38 fun _ c1=>pu1<|zR<|retC c1 0 [I 0,I 0,I 0,nS] (I 1) (isAgg38 _) (sizeOf38 _) ?_
  have hC:edgC p.v e0.policy e0.fill (sepCode p.v.max_ row col sh sh2 out) p.v.w p.v.h r=1:=edgC_a (fun h=>m0 h.2)
  have w1:=(c1.drops [0,0,0,0])
  have z1:Sat W _ ([]::H::F):=Sat.nilc w1
  exact ⟨(⟨0,0,0,⟨none,0,0,[]⟩⟩:Plane),1,_,rfl,⟨RdT.nil (enc:=Go.E.encI) (sz:=1) fR [[]]⟩,(by unfold sepT;rw [okT_c hC om];rfl),z1⟩
 refine kT<|seqE<|sR<|pu1<|sL t0 3 2 (I p.max_) (isAgg3 _)<|pu5<|cR call167 (r10_check p.max_ arow nrow krow row acol ncol kcol col sh sh2 out (RdT.flat (hrow.up 4 (by rfl))) (RdT.flat (hcol.up 4 (by rfl))) t0.flat) fun _ k0=>pu1<|zS<|pu2<|nT<|cN (sepCode p.max_ row col sh sh2 out) 0 (fun a2=>?_) (fun a2=>?_)
 rotate_left
 ·refine sR<|pu2<|sTl k0 0 [I 0,I 0,I 0,nS] sizeOf38 fun _ d1=>pu1<|zR<|retC d1 0 [I 0,I 0,I 0,nS] (I (sepCode p.max_ row col sh sh2 out)) (isAgg38 _) (sizeOf38 _) ?_
  have hC:edgC p.v e0.policy e0.fill (sepCode p.v.max_ row col sh sh2 out) p.v.w p.v.h r=(sepCode p.max_ row col sh sh2 out):=edgC_b ⟨j0,m0⟩ (by simp only [Plane.v] at*;omega)
  have b2:=(d1.drops [0,0,0,0])
  have c2:Sat W _ ([]::H::F):=Sat.nilc b2
  exact ⟨(⟨0,0,0,⟨none,0,0,[]⟩⟩:Plane),(sepCode p.max_ row col sh sh2 out),_,rfl,⟨RdT.nil (enc:=Go.E.encI) (sz:=1) fR [[]]⟩,(by unfold sepT;rw [okT_c hC om];rfl),c2⟩
 refine kT<|seqE<|cutA (γ:=Unit) (fun _=>[(2, .slice arow nrow krow),(3, .slice acol ncol kcol),(4,I sh),(5,I sh2),(6,I out),(8,Pt c0 0),(9,Pt d0 0),(15,Pt a0 0),(16,Pt g0 0),(57, .bool (decide (¬(insP r ⟨0,0,p.w,p.h⟩/\¬(r.x0=0/\r.y0=0/\r.x1=0/\r.y1=0)))))]) (fun _ w=>Sat W w ([(g0, .cells #[I 0,I 0,I 0,nS] 38 (0,0))]::[(a0, .cells (encRct r).toArray 45 (0,0))]::[(d0, .cells #[I e0.policy,I e0.fill] 49 (0,0))]::[(c0, .cells (encPlane p).toArray 38 (0,0))]::H::F)) ?_ ?_
 ·refine drawP [1,4,5,6,7] [(0,⟨a0,0,none⟩,I r.x0),(0,⟨a0,1,none⟩,I r.y0),(0,⟨a0,2,none⟩,I r.x1),(0,⟨a0,3,none⟩,I r.y1)] (Plan.sts [0]<| .ef 1<|Plan.sts [2]<|Plan.sts [3]<| .fk 4 5 (.ef 5<| .ef 6<| .ef 7<|Plan.sts [8]<|Plan.sts [9]<| .fin) (.fk 4 6 (.ef 6<| .ef 7<|Plan.sts [8]<|Plan.sts [9]<| .fin) (.ef 4<| .ef 7<|Plan.sts [8]<|Plan.sts [9]<| .fin))) rfl kr ⟨cI k0 1,cI k0 1,cI k0 1,cI k0 1,trivial⟩ ?_
  have d2:=k0.drew
  refine qY (.agg (encRct r).toArray) rfl (fun w hF=>Y_loadF rfl (isAgg45 w) (sizeOf45 w) kr rfl ⟨hF 0 _ _ rfl,hF 1 _ _ rfl,hF 2 _ _ rfl,hF 3 _ _ rfl,trivial⟩)<|qO rfl<|cR call102 (r2_full r d2.flat) fun _ f0=>nilO ⟨dA,?_⟩
  refine qU [2]<|qU [3]<|qF ?_ ?_
  ·rcases Classical.em (rvP r/\¬(r.x0=0/\r.y0=0/\r.x1=0/\r.y1=0)) with n0|n0
   rotate_left
   ·refine qFix 51 _ true (congrArg Bool.not (decide_eq_false n0))<|qO rfl<|pu1<|nilO ⟨dA,?_⟩
    refine qO rfl<|pu1<|nilO ⟨dA,?_⟩
    refine qO rfl<|pu1<|nilO ⟨dA,?_⟩
    refine qO rfl<|pu1<|nilO ⟨dA,?_⟩
    exact qU [8]<|qU [9]<|qN<|tN<|⟨(),⟨kr,kr,kr,kr,kr,kr,kr,kr,kr,(Eq.trans (b:= .bool true) kr (congrArg Value.bool (decide_eq_true (p:=¬(insP r ⟨0,0,p.w,p.h⟩/\¬(r.x0=0/\r.y0=0/\r.x1=0/\r.y1=0))) (by exact fun h=>n0 ⟨h.1.1,h.2⟩)).symm)),trivial⟩,f0⟩
   refine qFix 51 _ false (congrArg Bool.not (decide_eq_true n0))<|qO rfl<|gY<|lA f0 1 0 4 (isAgg45 _) (sizeOf45 _)<|nilO ⟨dA,?_⟩
   refine qO rfl<|gY<|lA f0 3 0 4 (isAgg38 _) (sizeOf38 _)<|nilO ⟨dA,?_⟩
   refine qO rfl<|gY<|cR call126 (r4_cover p ⟨(RdT.flat (hp.pix.up 4 (by rfl)))⟩ f0.flat) fun _ e2=>nilO ⟨dA,?_⟩
   refine qO rfl<|gY<|cR call125 (r2_inside r (⟨0,0,p.w,p.h⟩:Rct) e2.flat) fun _ f2=>nilO ⟨dA,?_⟩
   exact qU [8]<|qU [9]<|qN<|tN<|⟨(),⟨kr,kr,kr,kr,kr,kr,kr,kr,kr,(Eq.trans (b:= .bool (!decide (insP r (⟨0,0,p.w,p.h⟩:Rct)))) kr (congrArg Value.bool (by rw [Bool.eq_iff_iff];simp only [decide_eq_true_eq,beq_iff_eq,bne_iff_ne,ne_eq,Bool.not_eq_true',decide_eq_false_iff_not,gt_iff_lt,ge_iff_le,Bool.and_eq_true,Bool.or_eq_true,Bool.not_eq_eq_eq_not,Bool.not_true,Bool.and_eq_false_imp,beq_eq_false_iff_ne]<;>exact ⟨fun h k=>h k.1,fun h k=>h ⟨k,n0.2⟩⟩))),trivial⟩,f2⟩
  rcases Classical.em (rvP r/\¬(r.x0=0/\r.y0=0/\r.x1=0/\r.y1=0)) with i0|i0
  rotate_left
  ·refine qFix 51 _ true (congrArg Bool.not (decide_eq_false i0))<|qO rfl<|pu1<|nilO ⟨dA,?_⟩
   refine qF ?_ ?_
   rotate_left
   ·refine qO rfl<|pu1<|nilO ⟨dA,?_⟩
    refine qO rfl<|pu1<|nilO ⟨dA,?_⟩
    refine qO rfl<|pu1<|nilO ⟨dA,?_⟩
    exact qU [8]<|qU [9]<|qN<|tN<|⟨(),⟨kr,kr,kr,kr,kr,kr,kr,kr,kr,(Eq.trans (b:= .bool true) kr (congrArg Value.bool (decide_eq_true (p:=¬(insP r ⟨0,0,p.w,p.h⟩/\¬(r.x0=0/\r.y0=0/\r.x1=0/\r.y1=0))) (by exact fun h=>i0 ⟨h.1.1,h.2⟩)).symm)),trivial⟩,f0⟩
   refine qO rfl<|pu1<|nilO ⟨dA,?_⟩
   refine qO rfl<|pu1<|nilO ⟨dA,?_⟩
   refine qO rfl<|pu1<|nilO ⟨dA,?_⟩
   exact qU [8]<|qU [9]<|qN<|tN<|⟨(),⟨kr,kr,kr,kr,kr,kr,kr,kr,kr,(Eq.trans (b:= .bool true) kr (congrArg Value.bool (decide_eq_true (p:=¬(insP r ⟨0,0,p.w,p.h⟩/\¬(r.x0=0/\r.y0=0/\r.x1=0/\r.y1=0))) (by exact fun h=>i0 ⟨h.1.1,h.2⟩)).symm)),trivial⟩,f0⟩
  refine qFix 51 _ false (congrArg Bool.not (decide_eq_true i0))<|qO rfl<|gY<|lA f0 3 0 4 (isAgg38 _) (sizeOf38 _)<|nilO ⟨dA,?_⟩
  refine qF ?_ ?_
  rotate_left
  ·refine qO rfl<|gY<|cR call126 (r4_cover p ⟨(RdT.flat (hp.pix.up 4 (by rfl)))⟩ f0.flat) fun _ e1=>nilO ⟨dA,?_⟩
   refine qO rfl<|gY<|lA e1 1 0 4 (isAgg45 _) (sizeOf45 _)<|nilO ⟨dA,?_⟩
   refine qO rfl<|gY<|cR call125 (r2_inside r (⟨0,0,p.w,p.h⟩:Rct) e1.flat) fun _ g2=>nilO ⟨dA,?_⟩
   exact qU [8]<|qU [9]<|qN<|tN<|⟨(),⟨kr,kr,kr,kr,kr,kr,kr,kr,kr,(Eq.trans (b:= .bool (!decide (insP r (⟨0,0,p.w,p.h⟩:Rct)))) kr (congrArg Value.bool (by rw [Bool.eq_iff_iff];simp only [decide_eq_true_eq,beq_iff_eq,bne_iff_ne,ne_eq,Bool.not_eq_true',decide_eq_false_iff_not,gt_iff_lt,ge_iff_le,Bool.and_eq_true,Bool.or_eq_true,Bool.not_eq_eq_eq_not,Bool.not_true,Bool.and_eq_false_imp,beq_eq_false_iff_ne]<;>exact ⟨fun h k=>h k.1,fun h k=>h ⟨k,i0.2⟩⟩))),trivial⟩,g2⟩
  refine qO rfl<|gY<|lA f0 1 0 4 (isAgg45 _) (sizeOf45 _)<|nilO ⟨dA,?_⟩
  refine qO rfl<|gY<|cR call126 (r4_cover p ⟨(RdT.flat (hp.pix.up 4 (by rfl)))⟩ f0.flat) fun _ i2=>nilO ⟨dA,?_⟩
  refine qO rfl<|gY<|cR call125 (r2_inside r (⟨0,0,p.w,p.h⟩:Rct) i2.flat) fun _ j2=>nilO ⟨dA,?_⟩
  exact qU [8]<|qU [9]<|qN<|tN<|⟨(),⟨kr,kr,kr,kr,kr,kr,kr,kr,kr,(Eq.trans (b:= .bool (!decide (insP r (⟨0,0,p.w,p.h⟩:Rct)))) kr (congrArg Value.bool (by rw [Bool.eq_iff_iff];simp only [decide_eq_true_eq,beq_iff_eq,bne_iff_ne,ne_eq,Bool.not_eq_true',decide_eq_false_iff_not,gt_iff_lt,ge_iff_le,Bool.and_eq_true,Bool.or_eq_true,Bool.not_eq_eq_eq_not,Bool.not_true,Bool.and_eq_false_imp,beq_eq_false_iff_ne]<;>exact ⟨fun h k=>h k.1,fun h k=>h ⟨k,i0.2⟩⟩))),trivial⟩,j2⟩
 rintro _ ρ _ l0
 refine cD (¬(insP r ⟨0,0,p.w,p.h⟩/\¬(r.x0=0/\r.y0=0/\r.x1=0/\r.y1=0))) (fun u0=>?_) (fun u0=>?_)
 ·refine sR<|pu1<|sTl l0 0 [I 0,I 0,I 0,nS] sizeOf38 fun _ f1=>pu1<|zR<|retC f1 0 [I 0,I 0,I 0,nS] (I 8) (isAgg38 _) (sizeOf38 _) ?_
  have hsz:=(plane_sz j0).1;unfold sizeP at hsz;simp only [Plane.v] at hsz
  have hC:edgC p.v e0.policy e0.fill (sepCode p.v.max_ row col sh sh2 out) p.v.w p.v.h r=8:=edgC_c ⟨j0,m0⟩ (by simp only [Plane.v] at*;omega) (fun h=>by have h2:=(ins_in (by simp only [Plane.v];omega) (by simp only [Plane.v];omega)).2 h;exact u0 ⟨h2.2,h2.1⟩)
  have k2:=(f1.drops [0,0,0,0])
  have l2:Sat W _ ([]::H::F):=Sat.nilc k2
  exact ⟨(⟨0,0,0,⟨none,0,0,[]⟩⟩:Plane),8,_,rfl,⟨RdT.nil (enc:=Go.E.encI) (sz:=1) fR [[]]⟩,(by unfold sepT;rw [okT_c hC om];rfl),l2⟩
 refine kT<|seqE ?_
 have hpo:planeOK p.v=true:=j0;have hev:edgeV e0.policy e0.fill p.max_:=m0;have hcc:(sepCode p.v.max_ row col sh sh2 out)=0:=by simp only [Plane.v];omega
 have hsz:=(plane_sz hpo).1;unfold sizeP at hsz;simp only [Plane.v] at hsz
 have hri:rIn r p.w p.h:=(ins_in om om).1 (And.comm.1 (Classical.not_not.1 u0))
 have hri0:=hri;unfold rIn at hri0;obtain ⟨hcl,hcs,hco,hbr,hbc⟩:=sep_ok hcc
 obtain ⟨Wn,hW⟩:∃k:Nat,r.x1-r.x0=(k:Int):=⟨_,(Int.toNat_of_nonneg om).symm⟩;obtain ⟨Hn,hH⟩:∃k:Nat,r.y1-r.y0=(k:Int):=⟨_,(Int.toNat_of_nonneg om).symm⟩
 have hWb:1<=Wn/\Wn<=128/\1<=Hn/\Hn<=128:=om;have hWH:Hn*Wn<=4096:=by have h1:=rIn_area hri (by first|omega|assumption);rw [hW,hH] at h1;have h2:((Hn*Wn:Nat):Int)=(Wn:Int)*(Hn:Int):=(by push_cast;rw [Int.mul_comm]);omega
 have hWi:(r.x1-r.x0)*(r.y1-r.y0)=((Hn*Wn:Nat):Int):=by rw [hW,hH];push_cast;rw [Int.mul_comm]
 have ht2:(ncol:Int).tdiv 2=(ncol:Int)/2:=Int.tdiv_eq_ediv_of_nonneg om;have haw_col:=(wCode_len (bnd_t hbc).1).2.2
 obtain ⟨f,hf⟩:∃f:Int->Int->Int,f=fun i j=>sepX p.v e0.policy e0.fill row col sh sh2 out (r.x0+i) (r.y0+j):=⟨_,rfl⟩
 refine rE<|pu1<|sL l0 1 2 (I r.x1) (isAgg3 _)<|pu1<|sL l0 1 0 (I r.x0) (isAgg3 _)<|sSub r.x1 r.x0<|pu1<|sL l0 1 3 (I r.y1) (isAgg3 _)<|pu1<|sL l0 1 1 (I r.y0) (isAgg3 _)<|sSub r.y1 r.y0<|pu1<|cX call16 (r4_new (r.x1-r.x0) (r.y1-r.y0) out (by unfold sizeP;omega) l0.flat) ?_
 rintro _ _ ⟨g1,i1,j1,m2,rfl,v0,n2⟩
 have o2:=n2.unflat1;have hn_az_59:=v0.len;have hl_az_59:=v0.le
 refine pu3<|sAlloc o2 zeroValue38 fun h0 _ p2=>sTl p2 0 [I (r.x1-r.x0),I (r.y1-r.y0),I out, .slice g1 i1 j1] sizeOf38 fun _ k1=>pu1<|zQ<|pu1<|sL k1 3 1 (I r.y0) (isAgg3 _)<|pu1<|nT<|blockE ?_
 have q2:=(k1.pick 1 rfl)
 refine loopA (γ:=Nat×Int×(List Int)×(Option Addr)×Nat×Nat×Chunk) (fun ⟨i,yy,zs,azs,nzs,kzs,czs⟩=>[(2, .slice arow nrow krow),(3, .slice acol ncol kcol),(4,I sh),(5,I sh2),(6,I out),(8,Pt c0 0),(9,Pt d0 0),(15,Pt a0 0),(16,Pt g0 0),(19,Pt h0 0),(21,I yy)]) (fun ⟨i,yy,zs,azs,nzs,kzs,czs⟩ w=>Sat W w (czs::[(h0, .cells #[I (r.x1-r.x0),I (r.y1-r.y0),I out, .slice azs nzs kzs] 38 (0,0))]::[(g0, .cells #[I 0,I 0,I 0,nS] 38 (0,0))]::[(a0, .cells (encRct r).toArray 45 (0,0))]::[(d0, .cells #[I e0.policy,I e0.fill] 49 (0,0))]::[(c0, .cells (encPlane p).toArray 38 (0,0))]::H::F)/\i<=Hn/\(yy=r.y0+(i:Int))/\(zs=gridN Wn f (i*Wn)++List.replicate (Hn*Wn-i*Wn) 0)/\OwnT Go.E.encI 3 1 azs nzs kzs zs czs) (fun ⟨i,yy,zs,azs,nzs,kzs,czs⟩=>Hn-i) (0,r.y0,(List.replicate ((r.x1-r.x0)*(r.y1-r.y0)).toNat 0),g1,i1,j1,m2) ⟨q2,om,om,(by rw [hWi,Int.toNat_natCast,Nat.zero_mul];rfl),v0⟩ ?_
 rintro ⟨i,yy,zs,azs,nzs,kzs,czs⟩ ρ _ ⟨o0,hi,hyy,hE,hOzs⟩
 have hn_zs:=hOzs.len;have hl_zs:=hOzs.le
 refine seqE<|sR<|pu2<|sL o0 3 3 (I r.y1) (isAgg3 _)<|pu1<|nT<|cD (yy<r.y1) (fun r2=>?_) (fun r2=>?_)
 rotate_left
 ·refine exitE<|xB<|tN<|sR<|lA o0 1 0 4 (isAgg38 _) (sizeOf38 _)<|sTl o0 2 [I (r.x1-r.x0),I (r.y1-r.y0),I out, .slice azs nzs kzs] sizeOf38 fun _ l1=>pu1<|zE<|retC l1 2 [I (r.x1-r.x0),I (r.y1-r.y0),I out, .slice azs nzs kzs] (I 0) (isAgg38 _) (sizeOf38 _) ?_
  have hz9:zs=gridN Wn f (Hn*Wn):=by rw [hE,show i=Hn by omega,Nat.sub_self,List.replicate_zero,List.append_nil]
  have hC:edgC p.v e0.policy e0.fill (sepCode p.v.max_ row col sh sh2 out) p.v.w p.v.h r=0:=edgC_ok hpo hev hcc hri
  exact ⟨(⟨(r.x1-r.x0),(r.y1-r.y0),out,⟨azs,nzs,kzs,zs⟩⟩:Plane),0,_,rfl,⟨(hOzs.rdAt (cs:=[czs]) 0 rfl)⟩,(by unfold sepT;rw [okT_0 hC,mk_pl hri hW hH (hf▸hz9)];rfl),(l1.drops [1,1,1,1,1])⟩
 refine kT<|seqE<|blockE<|sR<|pu1<|sL o0 3 0 (I r.x0) (isAgg3 _)<|pu1<|nT<|blockE ?_
 refine loopA (γ:=Nat×Int×(List Int)×(Option Addr)×Nat×Nat×Chunk) (fun ⟨j,xx,zt,azt,nzt,kzt,czt⟩=>[(2, .slice arow nrow krow),(3, .slice acol ncol kcol),(4,I sh),(5,I sh2),(6,I out),(8,Pt c0 0),(9,Pt d0 0),(15,Pt a0 0),(16,Pt g0 0),(19,Pt h0 0),(21,I yy),(22,I xx)]) (fun ⟨j,xx,zt,azt,nzt,kzt,czt⟩ w=>Sat W w (czt::[(h0, .cells #[I (r.x1-r.x0),I (r.y1-r.y0),I out, .slice azt nzt kzt] 38 (0,0))]::[(g0, .cells #[I 0,I 0,I 0,nS] 38 (0,0))]::[(a0, .cells (encRct r).toArray 45 (0,0))]::[(d0, .cells #[I e0.policy,I e0.fill] 49 (0,0))]::[(c0, .cells (encPlane p).toArray 38 (0,0))]::H::F)/\j<=Wn/\(xx=r.x0+(j:Int))/\(zt=gridN Wn f (i*Wn+j)++List.replicate (Hn*Wn-(i*Wn+j)) 0)/\OwnT Go.E.encI 3 1 azt nzt kzt zt czt) (fun ⟨j,xx,zt,azt,nzt,kzt,czt⟩=>Wn-j) (0,r.x0,zs,azs,nzs,kzs,czs) ⟨o0,om,om,(by rw [Nat.add_zero];exact hE),hOzs⟩ ?_
 rintro ⟨j,xx,zt,azt,nzt,kzt,czt⟩ ρ _ ⟨w0,hj,hxx,hE2,hOzt⟩
 have hn_zt:=hOzt.len;have hl_zt:=hOzt.le
 have hzl2:zt.length=Hn*Wn:=by rw [hE2,List.length_append,grid_len,List.length_replicate];have h1:=Nat.mul_le_mul_right Wn (show i+1<=Hn by omega);rw [Nat.add_mul,Nat.one_mul] at h1;omega
 have hij:i*Wn+j<=Hn*Wn:=by have h1:=Nat.mul_le_mul_right Wn (show i+1<=Hn by omega);rw [Nat.add_mul,Nat.one_mul] at h1;omega
 have hij2:i*Wn+Wn<=Hn*Wn:=by have h1:=Nat.mul_le_mul_right Wn (show i+1<=Hn by omega);rw [Nat.add_mul,Nat.one_mul] at h1;omega
 have hpr:(yy-r.y0)*(r.x1-r.x0)=((i*Wn:Nat):Int):=by rw [show yy-r.y0=(i:Int) by omega,hW];push_cast;rfl
 refine seqE<|sR<|pu2<|sL w0 3 2 (I r.x1) (isAgg3 _)<|pu1<|nT<|cD (xx<r.x1) (fun t2=>?_) (fun t2=>?_)
 rotate_left
 ·refine exitE<|xB<|bN<|tN<|rE<|pu1<|sAdd yy 1<|pu1<|nT ?_
  exact ⟨(i+1,(yy+1),zt,azt,nzt,kzt,czt),od,alA,w0,om,om,(by rw [Nat.add_mul,Nat.one_mul,hE2,show j=Wn by omega]),hOzt⟩
 refine kT<|seqE<|blockE<|sR<|pu1<|zQ<|pu1<|nT<|blockE ?_
 refine loopA (γ:=Nat×Int) (fun ⟨k,s1⟩=>[(2, .slice arow nrow krow),(3, .slice acol ncol kcol),(4,I sh),(5,I sh2),(6,I out),(8,Pt c0 0),(9,Pt d0 0),(15,Pt a0 0),(16,Pt g0 0),(19,Pt h0 0),(21,I yy),(22,I xx),(24,I (k:Int)),(23,I s1)]) (fun ⟨k,s1⟩ w=>Sat W w (czt::[(h0, .cells #[I (r.x1-r.x0),I (r.y1-r.y0),I out, .slice azt nzt kzt] 38 (0,0))]::[(g0, .cells #[I 0,I 0,I 0,nS] 38 (0,0))]::[(a0, .cells (encRct r).toArray 45 (0,0))]::[(d0, .cells #[I e0.policy,I e0.fill] 49 (0,0))]::[(c0, .cells (encPlane p).toArray 38 (0,0))]::H::F)/\k<=ncol/\(s1=sepS p.v e0.policy e0.fill row col sh xx yy k)) (fun ⟨k,s1⟩=>ncol-k) (0,0) ⟨w0,om,by rfl⟩ ?_
 rintro ⟨k,s1⟩ ρ _ ⟨b0,hk,hs1⟩
 have hsb:=sep_part (row:=row) (col:=col) (x:=xx) (y:=yy) hpo hev hcc (n:=k) om
 refine seqE<|sR<|pu4<|nT<|cD ((k:Int)<(ncol:Int)) (fun u2=>?_) (fun u2=>?_)
 rotate_left
 ·refine exitE<|xB<|tN ?_
  obtain ⟨v2,w2,x2,y2,h4,z2,a3⟩:=OwnT.elem hOzt ((((yy-r.y0)*(r.x1-r.x0))+xx)-r.x0)
  refine drawE [16,18,20] [(1,⟨h0,3,none⟩, .slice azt nzt kzt),(4,⟨a0,1,none⟩,I r.y0),(7,⟨h0,0,none⟩,I (r.x1-r.x0)),(12,⟨a0,0,none⟩,I r.x0)] [(true,[0,2,3,6,9,11,14,15,17]),(true,[1]),(true,[4]),(true,[5]),(true,[7]),(true,[8]),(true,[10]),(true,[12]),(true,[13]),(false,[16]),(false,[18]),(true,[19]),(false,[20])] rfl kr ⟨cI b0 1,cI b0 3,cI b0 1,cI b0 3,trivial⟩ ?_
  have b3:=b0.drew
  refine wU [0,2,3,6,9,11,14,15,17]<|wLd (.slice azt nzt kzt) 0 isAgg22<|wLd (I r.y0) 1 isAgg3<|wSub yy r.y0<|wLd (I (r.x1-r.x0)) 2 isAgg3<|wMul (yy-r.y0) (r.x1-r.x0)<|wAdd ((yy-r.y0)*(r.x1-r.x0)) xx<|wLd (I r.x0) 3 isAgg3<|wSub (((yy-r.y0)*(r.x1-r.x0))+xx) r.x0<|wO rfl<|cR call172 (r7_shift s1 sh2 b3.flat) fun _ p0=>nilO ⟨⟨cI p0 1,cI p0 3,cI p0 1,cI p0 3,trivial⟩,?_⟩
  refine wO rfl<|cR call171 (r7_clamp (shiftV s1 sh2) out p0.flat) fun _ q0=>nilO ⟨⟨cI q0 1,cI q0 3,cI q0 1,cI q0 3,trivial⟩,?_⟩
  refine wY (.pointer (some ⟨w2,x2+(((((yy-r.y0)*(r.x1-r.x0))+xx)-r.x0)).toNat*1,none⟩)) rfl (fun w _=>Y_idx (a:=azt) (i:=((((yy-r.y0)*(r.x1-r.x0))+xx)-r.x0)) (len:=nzt) (cap:=kzt) rfl runUnderlying22 sizeOf3 kr kr z2)<|wO rfl<|sStF q0 hOzt a3 0 (((((yy-r.y0)*(r.x1-r.x0))+xx)-r.x0)).toNat 0 v2 (clampV (shiftV s1 sh2) out) y2 (I (clampV (shiftV s1 sh2) out)) [I (clampV (shiftV s1 sh2) out)] sizeOf3 fun _ c3 d3 e3=>nilO ⟨dA,?_⟩
  refine wN<|bN<|tN<|rE<|pu1<|sAdd xx 1<|pu1<|nT ?_
  exact ⟨(j+1,(xx+1),(zt.set ((((((yy-r.y0)*(r.x1-r.x0))+xx)-r.x0)).toNat) (clampV (shiftV s1 sh2) out)),azt,nzt,kzt,c3),od,alA,e3,om,om,(by rw [show ((((((yy-r.y0)*(r.x1-r.x0))+xx)-r.x0)).toNat)=i*Wn+j by omega,hE2,fill_set (grid_len _ _ _) om,<-Nat.add_assoc,grid_succ om];congr 2;rw [hf];dsimp only;rw [<-hxx,<-hyy];unfold sepX;rw [hn_col,show ncol=k by omega,<-hs1]),d3⟩
 refine kT<|seqE<|blockE ?_
 obtain ⟨r0,m1,n1,z0,o1,f3⟩:=RdT.elem hcol (k:Int)
 rw [Int.toNat_natCast] at z0
 have hwx:=areW_at haw_col z0
 refine drawE [17] [(4,⟨m1,n1,none⟩,I r0),(5,⟨c0,0,none⟩,I p.w),(5,⟨c0,1,none⟩,I p.h),(5,⟨c0,2,none⟩,I p.max_),(5,⟨c0,3,none⟩, .slice p.pix.a p.pix.n p.pix.k),(6,⟨d0,0,none⟩,I e0.policy),(6,⟨d0,1,none⟩,I e0.fill)] [(true,[0,1,2]),(true,[3]),(true,[7,8,9,10,11]),(true,[12]),(true,[13,14]),(true,[15]),(true,[16]),(true,[4]),(true,[5]),(true,[6]),(false,[17]),(true,[18]),(true,[19]),(true,[20])] rfl kr ⟨.inr ((o1.up 6 rfl).cell b0 (k:=0) rfl),cI b0 5,cI b0 5,cI b0 5,cI b0 5,cI b0 4,cI b0 4,trivial⟩ ?_
 have g3:=b0.drew
 refine wU [0,1,2]<|wY (.pointer (some ⟨m1,n1,none⟩)) rfl (fun w _=>Y_idx (a:=acol) (i:=(k:Int)) (len:=ncol) (cap:=kcol) rfl runUnderlying22 sizeOf3 kr kr f3)<|wU [7,8,9,10,11]<|wAdd yy (k:Int)<|wU [13,14]<|wQuo (ncol:Int) 2<|wSub (yy+(k:Int)) ((ncol:Int).tdiv 2)<|wLd (I r0) 0 isAgg3<|wY (.agg (encPlane p).toArray) rfl (fun w hF=>Y_loadF rfl (isAgg38 w) (sizeOf38 w) kr rfl ⟨hF 1 _ _ rfl,hF 2 _ _ rfl,hF 3 _ _ rfl,hF 4 _ _ rfl,trivial⟩)<|wY (.agg #[I e0.policy,I e0.fill]) rfl (fun w hF=>Y_loadF rfl (isAgg49 w) (sizeOf49 w) kr rfl ⟨hF 5 _ _ rfl,hF 6 _ _ rfl,trivial⟩)<|wO rfl ?_
 refine cR call173 (r10_mid p e0 arow nrow krow row sh xx ((yy+(k:Int))-((ncol:Int).tdiv 2)) ⟨(RdT.flat (hp.pix.up 6 (by rfl)))⟩ (RdT.flat (hrow.up 6 (by rfl))) hpo hev hbr om g3.flat) fun _ p1=>?_
 have hmb:=mid_bd (row:=row) (col:=col) (x:=xx) (y:=((yy+(k:Int))-((ncol:Int).tdiv 2))) hpo hev hcc;have hpm:=wmul_bd (v:=(midV p.v e0.policy e0.fill row sh xx ((yy+(k:Int))-((ncol:Int).tdiv 2)))) (B:=68719476736) hwx hmb (by decide)
 refine nilO ⟨⟨.inr ((o1.up 6 rfl).cell p1 (k:=0) rfl),dI,dI,dI,dI,dI,dI,trivial⟩,?_⟩
 exact wMul r0 (midV p.v e0.policy e0.fill row sh xx ((yy+(k:Int))-((ncol:Int).tdiv 2)))<|wAdd s1 (r0*(midV p.v e0.policy e0.fill row sh xx ((yy+(k:Int))-((ncol:Int).tdiv 2))))<|wU [20]<|wN<|bN<|tN<|rE<|pu1<|sAdd (k:Int) 1<|pu1<|nT<|⟨(k+1,(s1+(r0*(midV p.v e0.policy e0.fill row sh xx ((yy+(k:Int))-((ncol:Int).tdiv 2)))))),od,alA,p1,om,(by rw [sep_succ z0,<-hs1,hn_col,<-ht2])⟩
end Go.Proofs.YtmlhcafjelkjfaaGreat
