import Derived.Test.YtmlhcafjelkjfaaP1Ab
import Derived.WalkKit
import Derived.Deep.Quiet
import Derived.KernelRfl
import Derived.Laws.BytesString
import Derived.Laws.Shifts
import Derived.Laws.IdiomStrings
import Derived.Test.YtmlhcafjelkjfaaProg
import Derived.Laws.IdiomRangeMap
import Derived.Test.YtmlhcafjelkjfaaP1Ck
import Derived.Test.YtmlhcafjelkjfaaP1Tm
namespace Go.Proofs.Ytmlhcafjelkjfaa
open Go Go.E Go.Proofs.Try
set_option linter.all false
set_option maxRecDepth 100000
set_option maxHeartbeats 2000000
variable {W w:World} {H:Chunk} {F:List Chunk}
theorem pl_ix {p:PlaneV} (h:planeOK p=true) {x y:Int} (hx:0<=x/\x<p.w) (hy:0<=y/\y<p.h):0<=y*p.w/\y*p.w+x<(p.pix.length:Int)/\y*p.w<=4096:=by
  have hs:=plane_sz h
  have h0:=hs.1;unfold sizeP at h0
  have h1:=Int.mul_le_mul_of_nonneg_right (show y+1<=p.h by omega) (show 0<=p.w by omega)
  rw [Int.add_mul,Int.one_mul,Int.mul_comm p.h] at h1
  have h2:0<=y*p.w:=Int.mul_nonneg hy.1 (by omega)
  omega
theorem pixV_get {p:PlaneV} {pol fill x y v:Int} (h1:(idxV x p.w pol).isSome=true) (h2:(idxV y p.h pol).isSome=true) (hv:p.pix[((idxV y p.h pol).getD 0*p.w+(idxV x p.w pol).getD 0).toNat]?=some v):pixV p pol fill x y=v:=by
  obtain ⟨i,hi⟩:=Option.isSome_iff_exists.1 h1
  obtain ⟨j,hj⟩:=Option.isSome_iff_exists.1 h2
  unfold pixV
  rw [hi,hj] at hv⊢
  dsimp only
  rw [List.getD_eq_getElem?_getD]
  exact (congrArg (fun (z:Option Int)=>z.getD 0) hv)
theorem pixV_fill {p:PlaneV} {pol fill x y:Int} (h:¬(idxV x p.w pol).isSome=true\/¬(idxV y p.h pol).isSome=true):pixV p pol fill x y=fill:=by
  unfold pixV
  cases h1:idxV x p.w pol with
  |none=>rfl
  |some c=>
    cases h2:idxV y p.h pol with
    |none=>rfl
    |some d=>rw [h1,h2] at h;simp at h
theorem idx_some {i n p:Int} (h:(idxV i n p).isSome=true):0<=(idxV i n p).getD 0/\(idxV i n p).getD 0<n:=by
  obtain ⟨c,hc⟩:=Option.isSome_iff_exists.1 h
  rw [hc];exact idx_bd hc
theorem pixV_in {p:PlaneV} {pol fill x y v:Int} (h:planeOK p=true) (he:edgeV pol fill p.max_) (hx:0<=x/\x<p.w) (hy:0<=y/\y<p.h) (hv:p.pix[(y*p.w+x).toNat]?=some v):pixV p pol fill x y=v:=by
  rw [pix_in h he hx hy,List.getD_eq_getElem?_getD,hv];rfl
def insP (a b:Rct):Prop:=rvP a/\rvP b/\((a.x0=0/\a.y0=0/\a.x1=0/\a.y1=0)\/(b.x0<=a.x0/\a.x1<=b.x1/\b.y0<=a.y0/\a.y1<=b.y1))
instance (a b:Rct):Decidable (insP a b):=by unfold insP;infer_instance
theorem ins_in {r:Rct} {w h:Int} (hw:1<=w/\w<=4096) (hh:1<=h/\h<=4096):(¬(r.x0=0/\r.y0=0/\r.x1=0/\r.y1=0)/\insP r ⟨0,0,w,h⟩)↔rIn r w h:=by
  unfold insP rvP cooP rIn
  dsimp only
  omega
theorem edgC_a {p:PlaneV} {pol fill c w h:Int} {r:Rct} (e:¬(planeOK p=true/\edgeV pol fill p.max_)):edgC p pol fill c w h r=1:=by unfold edgC;rw [if_neg e]
theorem edgC_b {p:PlaneV} {pol fill c w h:Int} {r:Rct} (e:planeOK p=true/\edgeV pol fill p.max_) (hc:¬c=0):edgC p pol fill c w h r=c:=by unfold edgC;rw [if_pos e,if_neg hc]
theorem edgC_c {p:PlaneV} {pol fill c w h:Int} {r:Rct} (e:planeOK p=true/\edgeV pol fill p.max_) (hc:c=0) (hr:¬rIn r w h):edgC p pol fill c w h r=8:=by unfold edgC;rw [if_pos e,if_pos hc,if_neg hr]
theorem okT_c {c:Int} {d:Int} {p:PlaneV} (h:c=d) (hd:¬d=0):okT c p=(zPl,d):=by rw [okT_n (by omega),h]
theorem mk_pl {r:Rct} {w h mx:Int} {W H:Nat} {f:Int->Int->Int} (hr:rIn r w h) (hW:r.x1-r.x0=(W:Int)) (hH:r.y1-r.y0=(H:Int)) {zs:List Int} (hz:zs=gridN W (fun i j=>f (r.x0+i) (r.y0+j)) (H*W)):mkPl r mx f=⟨r.x1-r.x0,r.y1-r.y0,mx,zs⟩:=by
  have hA:=arN_eq hr
  unfold mkPl
  rw [hz,<-hW]
  have:areaN r=H*W:=by
    rw [hW,hH] at hA
    have:((H*W:Nat):Int)=(W:Int)*(H:Int):=by push_cast;rw [Int.mul_comm]
    omega
  rw [this]
theorem conv_succ {p:PlaneV} {pol fill kw kh x y v:Int} {ws:List Int} {K a b:Nat} (hk:kw=(K:Int)) (hb:b<K) (hw:ws[a*K+b]?=some v):
    convS p pol fill kw kh ws x y (a*K+b+1)=convS p pol fill kw kh ws x y (a*K+b)+v*pixV p pol fill (x+b-kw/2) (y+a-kh/2):=by
  subst hk
  have h:=grid_ix (nx:=(K:Int)) (i:=(a:Int)) (j:=(b:Int)) (by omega)
  unfold convS
  rw [sumN_succ,List.getD_eq_getElem?_getD,hw]
  unfold convF
  rw [show (((a*K+b:Nat):Int))=(a:Int)*(K:Int)+(b:Int) by push_cast;rfl,h.1,h.2]
  rfl
theorem p7_clamp (v:Int) (m:Int) (hS:Sat W w (H::F)):
  Ro prog 63 #[I v,I m] (I (clampV v m)) W w (H::F):=by
 refine callsA 18 func63 rfl<|sR<|pu1<|nT<|seqE<|blockE<|sR<|pu3<|sD 8 (m<0) (fun a0=>?_) (fun a0=>?_)
 ·exact pu4<|zC<|pu1<|zB<|retT [I 0]<|⟨by unfold clampV;rw [if_pos om];rfl,hS⟩
 refine pu4<|nT<|cD (v<0) (fun b0=>?_) (fun b0=>?_)
 ·exact sR<|pu1<|zB<|retT [I 0]<|⟨by unfold clampV;rw [if_pos om];rfl,hS⟩
 refine sR<|pu4<|nT<|cD (v>m) (fun c0=>?_) (fun c0=>?_)
 ·exact sR<|pu2<|zB<|retT [I m]<|⟨by unfold clampV;rw [if_neg om,if_pos om];rfl,hS⟩
 exact skipE<|bN<|tN<|sR<|pu2<|zE<|retT [I v]<|⟨by unfold clampV;rw [if_neg om,if_neg om];rfl,hS⟩
theorem p2_inside (a:Rct) (b:Rct) (hS:Sat W w (H::F)):
  Ro prog 20 #[.agg (encRct a).toArray, .agg (encRct b).toArray] (.bool (decide (insP a b))) W w (H::F):=by
 refine callsA 41 func20 rfl<|sR<|sBox hS (.agg (encRct a).toArray) (encRct a).toArray fun _ _ e0=>sBox e0 (.agg (encRct b).toArray) (encRct b).toArray fun _ _ d0=>pu1<|zQ<|lA d0 1 0 4 (isAgg24 _) (sizeOf24 _)<|cR call33 (p2_valid a d0.flat) fun _ b0=>pu2<|sDn 8 (rvP a) (fun f0=>?_) (fun f0=>?_)
 rotate_left
 ·exact pu4<|zC<|pu1<|zR<|retT [.bool false]<|⟨rB (by rw [Bool.eq_iff_iff];unfold insP;simp only [decide_eq_true_eq,Bool.false_eq_true,false_iff,true_iff]<;>first|omega|(simp_all;try omega)),(b0.drops [0,0])⟩
 refine gY<|lA b0 0 0 4 (isAgg24 _) (sizeOf24 _)<|gY<|cR call33 (p2_valid b b0.flat) fun _ c0=>pu2<|nT<|cDn (rvP b) (fun h0=>?_) (fun h0=>?_)
 rotate_left
 ·exact sR<|pu1<|zR<|retT [.bool false]<|⟨rB (by rw [Bool.eq_iff_iff];unfold insP;simp only [decide_eq_true_eq,Bool.false_eq_true,false_iff,true_iff]<;>first|omega|(simp_all;try omega)),(c0.drops [0,0])⟩
 refine kT<|seqE<|sR<|lA c0 1 0 4 (isAgg24 _) (sizeOf24 _)<|cR call19 (p2_empty a c0.flat) fun _ a0=>nT<|cD (a.x0=0/\a.y0=0/\a.x1=0/\a.y1=0) (fun j0=>?_) (fun j0=>?_)
 ·exact sR<|pu1<|zR<|retT [.bool true]<|⟨rB (by rw [Bool.eq_iff_iff];unfold insP;simp only [decide_eq_true_eq,Bool.false_eq_true,false_iff,true_iff]<;>first|omega|(simp_all;try omega)),(a0.drops [0,0])⟩
 refine kS<|pu1<|sL a0 0 0 (I b.x0) (isAgg3 _)<|pu1<|sL a0 1 0 (I a.x0) (isAgg3 _)<|pu2<|sD 20 (b.x0<=a.x0) (fun l0=>?_) (fun l0=>?_)
 rotate_left
 ·exact pu16<|pu5<|zE<|retT [.bool false]<|⟨rB (by rw [Bool.eq_iff_iff];unfold insP;simp only [decide_eq_true_eq,Bool.false_eq_true,false_iff,true_iff]<;>first|omega|(simp_all;try omega)),(a0.drops [0,0])⟩
 refine pu1<|gY<|sL a0 1 2 (I a.x1) (isAgg3 _)<|pu1<|gY<|sL a0 0 2 (I b.x1) (isAgg3 _)<|pu3<|sD 27 (a.x1<=b.x1) (fun n0=>?_) (fun n0=>?_)
 rotate_left
 ·exact pu14<|zE<|retT [.bool false]<|⟨rB (by rw [Bool.eq_iff_iff];unfold insP;simp only [decide_eq_true_eq,Bool.false_eq_true,false_iff,true_iff]<;>first|omega|(simp_all;try omega)),(a0.drops [0,0])⟩
 refine pu1<|gY<|sL a0 0 1 (I b.y0) (isAgg3 _)<|pu1<|gY<|sL a0 1 1 (I a.y0) (isAgg3 _)<|pu3<|sD 34 (b.y0<=a.y0) (fun p0=>?_) (fun p0=>?_)
 rotate_left
 ·exact pu7<|zE<|retT [.bool false]<|⟨rB (by rw [Bool.eq_iff_iff];unfold insP;simp only [decide_eq_true_eq,Bool.false_eq_true,false_iff,true_iff]<;>first|omega|(simp_all;try omega)),(a0.drops [0,0])⟩
 exact pu1<|gY<|sL a0 1 3 (I a.y1) (isAgg3 _)<|pu1<|gY<|sL a0 0 3 (I b.y1) (isAgg3 _)<|pu3<|zE<|retT [.bool (decide ((a.y1:Int)<=b.y1))]<|⟨rB (by rw [Bool.eq_iff_iff];unfold insP;simp only [decide_eq_true_eq,Bool.false_eq_true,false_iff,true_iff]<;>first|omega|(simp_all;try omega)),(a0.drops [0,0])⟩
theorem p9_pixel (p : Plane) (e0 : Edge) (x : Int) (y : Int) (hp : Plane.Ok [H] p) (hpo : planeOK p.v = true) (hev : edgeV e0.policy e0.fill p.max_) (hS : Sat W w (H :: F)) :
  Ro prog 62 #[.agg (encPlane p).toArray, .agg #[I e0.policy, I e0.fill], I x, I y] (I (pixV p.v e0.policy e0.fill x y)) W w (H :: F) := by
 have hl_p_pix := hp.pix.le; have hn_p_pix := hp.pix.len
 have hsz := (plane_sz hpo).1; unfold sizeP at hsz; simp only [Plane.v] at hsz; have hpl : p.v.pix.length = p.pix.n := hn_p_pix
 refine callsA 65 func62 rfl <| sR <| sBox hS (.agg (encPlane p).toArray) (encPlane p).toArray fun _ _ p0 => sBox p0 (.agg #[I e0.policy, I e0.fill]) #[I e0.policy, I e0.fill] fun _ _ a0 => pu1 <| zQ <| pu3 <| sD 13 (x < 0) (fun q0 => ?_) (fun q0 => ?_)
 ·refine pu15 <| zC <| pu2 <| zS <| pu2 <| sL a0 1 0 (I p.w) (isAgg3 _) <| pu1 <| sL a0 0 0 (I e0.policy) (isAgg3 _) <| cR call79 (p3_index x p.w e0.policy a0.flat) fun _ g0 => pu5 <| zS <| pu2 <| sL g0 1 1 (I p.h) (isAgg3 _) <| pu1 <| sL g0 0 0 (I e0.policy) (isAgg3 _) <| cR call79 (p3_index y p.h e0.policy g0.flat) fun _ b0 => pu5 <| zS <| pu3 <| sBn 49 ((idxV x p.w e0.policy).isSome) (fun r0 => ?_) (fun r0 => ?_)
  rotate_left
  ·exact pu3 <| zC <| pu1 <| sL b0 0 1 (I e0.fill) (isAgg3 _) <| pu1 <| zR <| retT [I e0.fill] <| ⟨congrArg (fun z => Ending.returned (I z)) (pixV_fill (by first | exact .inl ‹_› | exact .inr ‹_›)).symm, (b0.drops [0, 0])⟩
  refine pu3 <| nT <| cBn ((idxV y p.h e0.policy).isSome) (fun t0 => ?_) (fun t0 => ?_)
  rotate_left
  ·exact sR <| pu1 <| sL b0 0 1 (I e0.fill) (isAgg3 _) <| pu1 <| zR <| retT [I e0.fill] <| ⟨congrArg (fun z => Ending.returned (I z)) (pixV_fill (by first | exact .inl ‹_› | exact .inr ‹_›)).symm, (b0.drops [0, 0])⟩
  refine kT <| seqE ?_
  have hix := pl_ix hpo (x := (idxV x p.w e0.policy).getD 0) (y := (idxV y p.h e0.policy).getD 0) (idx_some ‹_›) (idx_some ‹_›); rw [hpl] at hix; simp only [Plane.v] at hix; have hi2 := idx_some (i := x) (n := p.w) (p := e0.policy) ‹_›
  exact rE <| pu1 <| sL b0 1 3 (.slice p.pix.a p.pix.n p.pix.k) (isAgg22 _) <| pu2 <| sL b0 1 0 (I p.w) (isAgg3 _) <| sMul ((idxV y p.h e0.policy).getD 0) p.w <| pu1 <| sAdd (((idxV y p.h e0.policy).getD 0) * p.w) ((idxV x p.w e0.policy).getD 0) <| sIdx hp.pix ((((idxV y p.h e0.policy).getD 0) * p.w) + ((idxV x p.w e0.policy).getD 0)) runUnderlying22 sizeOf3 fun k0 _ _ v0 w0 => sLp b0 (w0.up 2 rfl) 0 (I k0) (isAgg3 _) <| pu1 <| zE <| retT [I k0] <| ⟨congrArg (fun z => Ending.returned (I z)) (pixV_get (p := p.v) ‹_› ‹_› v0).symm, (b0.drops [0, 0])⟩
 refine pu2 <| gY <| sL a0 1 0 (I p.w) (isAgg3 _) <| pu3 <| sD 19 (x >= p.w) (fun y0 => ?_) (fun y0 => ?_)
 ·refine pu9 <| zC <| pu2 <| zS <| pu2 <| sL a0 1 0 (I p.w) (isAgg3 _) <| pu1 <| sL a0 0 0 (I e0.policy) (isAgg3 _) <| cR call79 (p3_index x p.w e0.policy a0.flat) fun _ h0 => pu5 <| zS <| pu2 <| sL h0 1 1 (I p.h) (isAgg3 _) <| pu1 <| sL h0 0 0 (I e0.policy) (isAgg3 _) <| cR call79 (p3_index y p.h e0.policy h0.flat) fun _ c0 => pu5 <| zS <| pu3 <| sBn 49 ((idxV x p.w e0.policy).isSome) (fun z0 => ?_) (fun z0 => ?_)
  rotate_left
  ·exact pu3 <| zC <| pu1 <| sL c0 0 1 (I e0.fill) (isAgg3 _) <| pu1 <| zR <| retT [I e0.fill] <| ⟨congrArg (fun z => Ending.returned (I z)) (pixV_fill (by first | exact .inl ‹_› | exact .inr ‹_›)).symm, (c0.drops [0, 0])⟩
  refine pu3 <| nT <| cBn ((idxV y p.h e0.policy).isSome) (fun b1 => ?_) (fun b1 => ?_)
  rotate_left
  ·exact sR <| pu1 <| sL c0 0 1 (I e0.fill) (isAgg3 _) <| pu1 <| zR <| retT [I e0.fill] <| ⟨congrArg (fun z => Ending.returned (I z)) (pixV_fill (by first | exact .inl ‹_› | exact .inr ‹_›)).symm, (c0.drops [0, 0])⟩
  refine kT <| seqE ?_
  have hix := pl_ix hpo (x := (idxV x p.w e0.policy).getD 0) (y := (idxV y p.h e0.policy).getD 0) (idx_some ‹_›) (idx_some ‹_›); rw [hpl] at hix; simp only [Plane.v] at hix; have hi2 := idx_some (i := x) (n := p.w) (p := e0.policy) ‹_›
  exact rE <| pu1 <| sL c0 1 3 (.slice p.pix.a p.pix.n p.pix.k) (isAgg22 _) <| pu2 <| sL c0 1 0 (I p.w) (isAgg3 _) <| sMul ((idxV y p.h e0.policy).getD 0) p.w <| pu1 <| sAdd (((idxV y p.h e0.policy).getD 0) * p.w) ((idxV x p.w e0.policy).getD 0) <| sIdx hp.pix ((((idxV y p.h e0.policy).getD 0) * p.w) + ((idxV x p.w e0.policy).getD 0)) runUnderlying22 sizeOf3 fun l0 _ _ d1 e1 => sLp c0 (e1.up 2 rfl) 0 (I l0) (isAgg3 _) <| pu1 <| zE <| retT [I l0] <| ⟨congrArg (fun z => Ending.returned (I z)) (pixV_get (p := p.v) ‹_› ‹_› d1).symm, (c0.drops [0, 0])⟩
 refine pu4 <| sD 23 (y < 0) (fun g1 => ?_) (fun g1 => ?_)
 ·refine pu5 <| zC <| pu2 <| zS <| pu2 <| sL a0 1 0 (I p.w) (isAgg3 _) <| pu1 <| sL a0 0 0 (I e0.policy) (isAgg3 _) <| cR call79 (p3_index x p.w e0.policy a0.flat) fun _ i0 => pu5 <| zS <| pu2 <| sL i0 1 1 (I p.h) (isAgg3 _) <| pu1 <| sL i0 0 0 (I e0.policy) (isAgg3 _) <| cR call79 (p3_index y p.h e0.policy i0.flat) fun _ d0 => pu5 <| zS <| pu3 <| sBn 49 ((idxV x p.w e0.policy).isSome) (fun h1 => ?_) (fun h1 => ?_)
  rotate_left
  ·exact pu3 <| zC <| pu1 <| sL d0 0 1 (I e0.fill) (isAgg3 _) <| pu1 <| zR <| retT [I e0.fill] <| ⟨congrArg (fun z => Ending.returned (I z)) (pixV_fill (by first | exact .inl ‹_› | exact .inr ‹_›)).symm, (d0.drops [0, 0])⟩
  refine pu3 <| nT <| cBn ((idxV y p.h e0.policy).isSome) (fun j1 => ?_) (fun j1 => ?_)
  rotate_left
  ·exact sR <| pu1 <| sL d0 0 1 (I e0.fill) (isAgg3 _) <| pu1 <| zR <| retT [I e0.fill] <| ⟨congrArg (fun z => Ending.returned (I z)) (pixV_fill (by first | exact .inl ‹_› | exact .inr ‹_›)).symm, (d0.drops [0, 0])⟩
  refine kT <| seqE ?_
  have hix := pl_ix hpo (x := (idxV x p.w e0.policy).getD 0) (y := (idxV y p.h e0.policy).getD 0) (idx_some ‹_›) (idx_some ‹_›); rw [hpl] at hix; simp only [Plane.v] at hix; have hi2 := idx_some (i := x) (n := p.w) (p := e0.policy) ‹_›
  exact rE <| pu1 <| sL d0 1 3 (.slice p.pix.a p.pix.n p.pix.k) (isAgg22 _) <| pu2 <| sL d0 1 0 (I p.w) (isAgg3 _) <| sMul ((idxV y p.h e0.policy).getD 0) p.w <| pu1 <| sAdd (((idxV y p.h e0.policy).getD 0) * p.w) ((idxV x p.w e0.policy).getD 0) <| sIdx hp.pix ((((idxV y p.h e0.policy).getD 0) * p.w) + ((idxV x p.w e0.policy).getD 0)) runUnderlying22 sizeOf3 fun m0 _ _ l1 m1 => sLp d0 (m1.up 2 rfl) 0 (I m0) (isAgg3 _) <| pu1 <| zE <| retT [I m0] <| ⟨congrArg (fun z => Ending.returned (I z)) (pixV_get (p := p.v) ‹_› ‹_› l1).symm, (d0.drops [0, 0])⟩
 refine pu2 <| gY <| sL a0 1 1 (I p.h) (isAgg3 _) <| pu2 <| nT <| cD (y >= p.h) (fun o1 => ?_) (fun o1 => ?_)
 rotate_left
 ·refine kT <| seqE ?_
  have hix := pl_ix hpo (x := x) (y := y) (by simp only [Plane.v]; omega) (by simp only [Plane.v]; omega); rw [hpl] at hix; simp only [Plane.v] at hix
  exact rE <| pu1 <| sL a0 1 3 (.slice p.pix.a p.pix.n p.pix.k) (isAgg22 _) <| pu2 <| sL a0 1 0 (I p.w) (isAgg3 _) <| sMul y p.w <| pu1 <| sAdd (y * p.w) x <| sIdx hp.pix ((y * p.w) + x) runUnderlying22 sizeOf3 fun n0 _ _ q1 r1 => sLp a0 (r1.up 2 rfl) 0 (I n0) (isAgg3 _) <| pu1 <| zE <| retT [I n0] <| ⟨congrArg (fun z => Ending.returned (I z)) (pixV_in hpo hev (by simp only [Plane.v]; omega) (by simp only [Plane.v]; omega) q1).symm, (a0.drops [0, 0])⟩
 refine sR <| pu2 <| zS <| pu2 <| sL a0 1 0 (I p.w) (isAgg3 _) <| pu1 <| sL a0 0 0 (I e0.policy) (isAgg3 _) <| cR call79 (p3_index x p.w e0.policy a0.flat) fun _ j0 => pu5 <| zS <| pu2 <| sL j0 1 1 (I p.h) (isAgg3 _) <| pu1 <| sL j0 0 0 (I e0.policy) (isAgg3 _) <| cR call79 (p3_index y p.h e0.policy j0.flat) fun _ f0 => pu5 <| zS <| pu3 <| sBn 49 ((idxV x p.w e0.policy).isSome) (fun t1 => ?_) (fun t1 => ?_)
 rotate_left
 ·exact pu3 <| zC <| pu1 <| sL f0 0 1 (I e0.fill) (isAgg3 _) <| pu1 <| zR <| retT [I e0.fill] <| ⟨congrArg (fun z => Ending.returned (I z)) (pixV_fill (by first | exact .inl ‹_› | exact .inr ‹_›)).symm, (f0.drops [0, 0])⟩
 refine pu3 <| nT <| cBn ((idxV y p.h e0.policy).isSome) (fun v1 => ?_) (fun v1 => ?_)
 rotate_left
 ·exact sR <| pu1 <| sL f0 0 1 (I e0.fill) (isAgg3 _) <| pu1 <| zR <| retT [I e0.fill] <| ⟨congrArg (fun z => Ending.returned (I z)) (pixV_fill (by first | exact .inl ‹_› | exact .inr ‹_›)).symm, (f0.drops [0, 0])⟩
 refine kT <| seqE ?_
 have hix := pl_ix hpo (x := (idxV x p.w e0.policy).getD 0) (y := (idxV y p.h e0.policy).getD 0) (idx_some ‹_›) (idx_some ‹_›); rw [hpl] at hix; simp only [Plane.v] at hix; have hi2 := idx_some (i := x) (n := p.w) (p := e0.policy) ‹_›
 exact rE <| pu1 <| sL f0 1 3 (.slice p.pix.a p.pix.n p.pix.k) (isAgg22 _) <| pu2 <| sL f0 1 0 (I p.w) (isAgg3 _) <| sMul ((idxV y p.h e0.policy).getD 0) p.w <| pu1 <| sAdd (((idxV y p.h e0.policy).getD 0) * p.w) ((idxV x p.w e0.policy).getD 0) <| sIdx hp.pix ((((idxV y p.h e0.policy).getD 0) * p.w) + ((idxV x p.w e0.policy).getD 0)) runUnderlying22 sizeOf3 fun o0 _ _ x1 y1 => sLp f0 (y1.up 2 rfl) 0 (I o0) (isAgg3 _) <| pu1 <| zE <| retT [I o0] <| ⟨congrArg (fun z => Ending.returned (I z)) (pixV_get (p := p.v) ‹_› ‹_› x1).symm, (f0.drops [0, 0])⟩
theorem p9_tile (p:Plane) (e0:Edge) (kw:Int) (kh:Int) (aws:Option Addr) (nws kws:Nat) (ws:List Int) (sh:Int) (out:Int) (r:Rct) (hp:Plane.Ok [H] p) (hws:RdT Go.E.encI 1 [H] aws nws kws ws) (hS:Sat W w (H::F)):
  Calls prog 51 #[.agg (encPlane p).toArray, .agg #[I e0.policy,I e0.fill],I kw,I kh, .slice aws nws kws,I sh,I out, .agg (encRct r).toArray] w fun e w'=>∃(q:Plane) (c:Int) (G:Chunk),e= .returned (.tuple #[.agg (encPlane q).toArray,I c])/\q.Ok [G]/\(q.v,c)=convT p.v e0.policy e0.fill kw kh ws sh out r/\Sat W w' (G::H::F):=by
 have hl_p_pix:=hp.pix.le;have hn_p_pix:=hp.pix.len
 have hl_ws:=hws.le;have hn_ws:=hws.len
 refine callsA 143 func51 rfl ?_
 refine sR ?_
 refine sBox hS (.agg (encPlane p).toArray) (encPlane p).toArray ?_
 intro a0 _ t1
 refine sBox t1 (.agg #[I e0.policy,I e0.fill]) #[I e0.policy,I e0.fill] ?_
 intro b0 _ u1
 refine sBox u1 (.agg (encRct r).toArray) (encRct r).toArray ?_
 intro f0 _ v1
 refine sAlloc v1 zeroValue28 ?_
 intro g0 _ v0
 refine pu1<|zQ ?_
 refine lA v0 3 0 4 (isAgg28 _) (sizeOf28 _) ?_
 refine cR call18 (p4_valid p ⟨(RdT.flat (hp.pix.up 4 (by rfl)))⟩ v0.flat) ?_
 intro _ n0
 refine pu2 ?_
 refine sBn 28 (planeOK p.v) (fun h0=>?_) (fun h0=>?_)
 rotate_left
 ·refine pu6<|zC<|pu1 ?_
  refine sTl n0 0 [I 0,I 0,I 0,nS] sizeOf28 ?_
  intro _ w0
  refine pu1<|zR<|retC w0 0 [I 0,I 0,I 0,nS] (I 1) (isAgg28 _) (sizeOf28 _) ?_
  have hC:edgC p.v e0.policy e0.fill (convCode p.v.max_ kw kh ws sh out) p.v.w p.v.h r=1:=edgC_a (fun h=>h0 h.1)
  have w1:=(w0.drops [0,0,0,0])
  have z1:Sat W _ ([]::H::F):=Sat.nilc w1
  exact ⟨(⟨0,0,0,⟨none,0,0,[]⟩⟩:Plane),1,_,rfl,⟨RdT.nil (enc:=Go.E.encI) (sz:=1) fR [[]]⟩,(by unfold convT;rw [okT_c hC om];rfl),z1⟩
 refine gY ?_
 refine lA n0 2 0 2 (isAgg55 _) (sizeOf55 _) ?_
 refine pu1<|gY ?_
 refine sL n0 3 2 (I p.max_) (isAgg3 _) ?_
 refine gY ?_
 refine cR call59 (p3_valid e0 p.max_ n0.flat) ?_
 intro _ o0
 refine pu2<|nT ?_
 refine cDn ((e0.policy=3/\0<=e0.fill/\e0.fill<=p.max_)\/(0<=e0.policy/\e0.policy<3/\e0.fill=0)) (fun i0=>?_) (fun i0=>?_)
 rotate_left
 ·refine sR<|pu1 ?_
  refine sTl o0 0 [I 0,I 0,I 0,nS] sizeOf28 ?_
  intro _ z0
  refine pu1<|zR<|retC z0 0 [I 0,I 0,I 0,nS] (I 1) (isAgg28 _) (sizeOf28 _) ?_
  have hC:edgC p.v e0.policy e0.fill (convCode p.v.max_ kw kh ws sh out) p.v.w p.v.h r=1:=edgC_a (fun h=>i0 h.2)
  have a2:=(z0.drops [0,0,0,0])
  have b2:Sat W _ ([]::H::F):=Sat.nilc a2
  exact ⟨(⟨0,0,0,⟨none,0,0,[]⟩⟩:Plane),1,_,rfl,⟨RdT.nil (enc:=Go.E.encI) (sz:=1) fR [[]]⟩,(by unfold convT;rw [okT_c hC om];rfl),b2⟩
 refine kT<|seqE<|sR<|pu1 ?_
 refine sL o0 3 2 (I p.max_) (isAgg3 _) ?_
 refine pu5 ?_
 refine cR call61 (p9_check p.max_ kw kh aws nws kws ws sh out (RdT.flat (hws.up 4 (by rfl))) o0.flat) ?_
 intro _ p0
 refine pu1<|zS<|pu2<|nT ?_
 refine cN (convCode p.max_ kw kh ws sh out) 0 (fun c2=>?_) (fun c2=>?_)
 rotate_left
 ·refine sR<|pu2 ?_
  refine sTl p0 0 [I 0,I 0,I 0,nS] sizeOf28 ?_
  intro _ a1
  refine pu1<|zR<|retC a1 0 [I 0,I 0,I 0,nS] (I (convCode p.max_ kw kh ws sh out)) (isAgg28 _) (sizeOf28 _) ?_
  have hC:edgC p.v e0.policy e0.fill (convCode p.v.max_ kw kh ws sh out) p.v.w p.v.h r=(convCode p.max_ kw kh ws sh out):=edgC_b ⟨h0,i0⟩ (by simp only [Plane.v] at*;omega)
  have d2:=(a1.drops [0,0,0,0])
  have e2:Sat W _ ([]::H::F):=Sat.nilc d2
  exact ⟨(⟨0,0,0,⟨none,0,0,[]⟩⟩:Plane),(convCode p.max_ kw kh ws sh out),_,rfl,⟨RdT.nil (enc:=Go.E.encI) (sz:=1) fR [[]]⟩,(by unfold convT;rw [okT_c hC om];rfl),e2⟩
 refine kT<|seqE<|sR ?_
 refine lA p0 1 0 4 (isAgg24 _) (sizeOf24 _) ?_
 refine cR call19 (p2_empty r p0.flat) ?_
 intro _ l0
 refine pu1 ?_
 refine sD 50 (r.x0=0/\r.y0=0/\r.x1=0/\r.y1=0) (fun q0=>?_) (fun q0=>?_)
 ·refine pu9<|zC<|pu1 ?_
  refine sTl l0 0 [I 0,I 0,I 0,nS] sizeOf28 ?_
  intro _ b1
  refine pu1<|zR<|retC b1 0 [I 0,I 0,I 0,nS] (I 8) (isAgg28 _) (sizeOf28 _) ?_
  have hsz:=(plane_sz h0).1;unfold sizeP at hsz;simp only [Plane.v] at hsz
  have hC:edgC p.v e0.policy e0.fill (convCode p.v.max_ kw kh ws sh out) p.v.w p.v.h r=8:=edgC_c ⟨h0,i0⟩ (by simp only [Plane.v] at*;omega) (fun h=>by have h2:=(ins_in (by simp only [Plane.v];omega) (by simp only [Plane.v];omega)).2 h;exact h2.1 q0)
  have f2:=(b1.drops [0,0,0,0])
  have g2:Sat W _ ([]::H::F):=Sat.nilc f2
  exact ⟨(⟨0,0,0,⟨none,0,0,[]⟩⟩:Plane),8,_,rfl,⟨RdT.nil (enc:=Go.E.encI) (sz:=1) fR [[]]⟩,(by unfold convT;rw [okT_c hC om];rfl),g2⟩
 refine gY ?_
 refine lA l0 1 0 4 (isAgg24 _) (sizeOf24 _) ?_
 refine pu1<|gY ?_
 refine sL l0 3 0 (I p.w) (isAgg3 _) ?_
 refine pu1<|gY ?_
 refine sL l0 3 1 (I p.h) (isAgg3 _) ?_
 refine pu1<|gY ?_
 refine cR call20 (p2_inside r (⟨0,0,p.w,p.h⟩:Rct) l0.flat) ?_
 intro _ j0
 refine pu2<|nT ?_
 refine cDn (insP r (⟨0,0,p.w,p.h⟩:Rct)) (fun r0=>?_) (fun r0=>?_)
 rotate_left
 ·refine sR<|pu1 ?_
  refine sTl j0 0 [I 0,I 0,I 0,nS] sizeOf28 ?_
  intro _ c1
  refine pu1<|zR<|retC c1 0 [I 0,I 0,I 0,nS] (I 8) (isAgg28 _) (sizeOf28 _) ?_
  have hsz:=(plane_sz h0).1;unfold sizeP at hsz;simp only [Plane.v] at hsz
  have hC:edgC p.v e0.policy e0.fill (convCode p.v.max_ kw kh ws sh out) p.v.w p.v.h r=8:=edgC_c ⟨h0,i0⟩ (by simp only [Plane.v] at*;omega) (fun h=>by have h2:=(ins_in (by simp only [Plane.v];omega) (by simp only [Plane.v];omega)).2 h;exact r0 h2.2)
  have i2:=(c1.drops [0,0,0,0])
  have j2:Sat W _ ([]::H::F):=Sat.nilc i2
  exact ⟨(⟨0,0,0,⟨none,0,0,[]⟩⟩:Plane),8,_,rfl,⟨RdT.nil (enc:=Go.E.encI) (sz:=1) fR [[]]⟩,(by unfold convT;rw [okT_c hC om];rfl),j2⟩
 refine kT<|seqE ?_
 have hpo:planeOK p.v=true:=h0;have hev:edgeV e0.policy e0.fill p.max_:=i0;have hcc:(convCode p.v.max_ kw kh ws sh out)=0:=by simp only [Plane.v];omega
 have hsz:=(plane_sz hpo).1;unfold sizeP at hsz;simp only [Plane.v] at hsz;have hri:rIn r p.w p.h:=(ins_in om om).1 ⟨q0,r0⟩
 have hri0:=hri;unfold rIn at hri0;obtain ⟨hck,hckh,hcl,hcs,hco,hbn⟩:=conv_ok hcc
 obtain ⟨Wn,hW⟩:∃k:Nat,r.x1-r.x0=(k:Int):=⟨_,(Int.toNat_of_nonneg om).symm⟩;obtain ⟨Hn,hH⟩:∃k:Nat,r.y1-r.y0=(k:Int):=⟨_,(Int.toNat_of_nonneg om).symm⟩
 have hWb:1<=Wn/\Wn<=128/\1<=Hn/\Hn<=128:=om;have hWH:Hn*Wn<=4096:=by have h1:=rIn_area hri (by first|omega|assumption);rw [hW,hH] at h1;have h2:((Hn*Wn:Nat):Int)=(Wn:Int)*(Hn:Int):=(by push_cast;rw [Int.mul_comm]);omega
 have hWi:(r.x1-r.x0)*(r.y1-r.y0)=((Hn*Wn:Nat):Int):=by rw [hW,hH];push_cast;rw [Int.mul_comm]
 obtain ⟨K,hK⟩:∃k:Nat,kw=(k:Int):=⟨_,(Int.toNat_of_nonneg om).symm⟩;obtain ⟨M,hM⟩:∃k:Nat,kh=(k:Int):=⟨_,(Int.toNat_of_nonneg om).symm⟩;have hwl:ws.length=M*K:=by rw [hK,hM] at hcl;have h2:((M*K:Nat):Int)=(K:Int)*(M:Int):=(by push_cast;rw [Int.mul_comm]);omega
 have ht1:kw.tdiv 2=kw/2:=Int.tdiv_eq_ediv_of_nonneg om;have ht2:kh.tdiv 2=kh/2:=Int.tdiv_eq_ediv_of_nonneg om;have haw:=(wCode_len (bnd_t hbn).1).2.2
 refine rE<|pu1 ?_
 refine sL j0 1 2 (I r.x1) (isAgg3 _) ?_
 refine pu1 ?_
 refine sL j0 1 0 (I r.x0) (isAgg3 _) ?_
 refine sSub r.x1 r.x0 ?_
 refine pu1 ?_
 refine sL j0 1 3 (I r.y1) (isAgg3 _) ?_
 refine pu1 ?_
 refine sL j0 1 1 (I r.y0) (isAgg3 _) ?_
 refine sSub r.y1 r.y0 ?_
 refine pu2 ?_
 refine sAlloc j0 zeroValue28 ?_
 intro c0 _ k2
 refine sTl k2 0 [I (r.x1-r.x0),I (r.y1-r.y0),I out,nS] sizeOf28 ?_
 intro _ s0
 refine zS<|pu1 ?_
 refine sL s0 0 0 (I (r.x1-r.x0)) (isAgg3 _) ?_
 refine pu1 ?_
 refine sL s0 0 1 (I (r.y1-r.y0)) (isAgg3 _) ?_
 refine sMul (r.x1-r.x0) (r.y1-r.y0) ?_
 refine sMake0 (kl:= .i64) (kc:= .i64) (enc:=Go.E.encI) (sz:=1) (nb:=8) s0 (((r.x1-r.x0)*(r.y1-r.y0))).toNat ((r.x1-r.x0)*(r.y1-r.y0)) (om:((r.x1-r.x0)*(r.y1-r.y0))=(((((r.x1-r.x0)*(r.y1-r.y0))).toNat:Nat):Int)) underlying22 (i:=Try.t3) kr fR ?_
 intro d1 l2 _ m2 n2
 refine pu1 ?_
 refine tW n2 1 3 (.slice (At d1 0) 0 ((((r.x1-r.x0)*(r.y1-r.y0))).toNat)) sizeOf22 ?_
 intro _ e1
 refine nT<|seqE<|seqE ?_
 obtain ⟨f,hf⟩:∃f:Int->Int->Int,f=fun i j=>convX p.v e0.policy e0.fill kw kh ws sh out (r.x0+i) (r.y0+j):=⟨_,rfl⟩
 refine rE<|pu1 ?_
 refine sL e1 3 1 (I r.y0) (isAgg3 _) ?_
 refine pu1<|nT<|blockE ?_
 refine loopA (γ:=Nat×Int×(List Int)×(Option Addr)×Nat×Nat×Chunk) (fun ⟨i,yy,zs,azs,nzs,kzs,czs⟩=>[(2,I kw),(3,I kh),(4, .slice aws nws kws),(5,I sh),(6,I out),(8,Pt a0 0),(9,Pt b0 0),(15,Pt f0 0),(16,Pt g0 0),(19,Pt c0 0),(20,I yy)]) (fun ⟨i,yy,zs,azs,nzs,kzs,czs⟩ w=>Sat W w (czs::[(c0, .cells #[I (r.x1-r.x0),I (r.y1-r.y0),I out, .slice azs nzs kzs] 28 (0,0))]::[(g0, .cells #[I 0,I 0,I 0,nS] 28 (0,0))]::[(f0, .cells (encRct r).toArray 24 (0,0))]::[(b0, .cells #[I e0.policy,I e0.fill] 55 (0,0))]::[(a0, .cells (encPlane p).toArray 28 (0,0))]::H::F)/\i<=Hn/\(yy=r.y0+(i:Int))/\(zs=gridN Wn f (i*Wn))/\OwnT Go.E.encI 3 1 azs nzs kzs zs czs) (fun ⟨i,yy,zs,azs,nzs,kzs,czs⟩=>Hn-i) (0,r.y0,[],(At d1 0),0,(((r.x1-r.x0)*(r.y1-r.y0))).toNat,l2) ⟨e1,om,om,(by rw [Nat.zero_mul];rfl),m2⟩ ?_
 rintro ⟨i,yy,zs,azs,nzs,kzs,czs⟩ ρ _ ⟨m0,hi,hyy,hE,hOzs⟩
 have hn_zs:=hOzs.len;have hl_zs:=hOzs.le
 refine seqE<|sR<|pu2 ?_
 refine sL m0 3 3 (I r.y1) (isAgg3 _) ?_
 refine pu1<|nT ?_
 refine cD (yy<r.y1) (fun o2=>?_) (fun o2=>?_)
 rotate_left
 ·refine exitE<|xB<|tN<|sR ?_
  refine lA m0 1 0 4 (isAgg28 _) (sizeOf28 _) ?_
  refine sTl m0 2 [I (r.x1-r.x0),I (r.y1-r.y0),I out, .slice azs nzs kzs] sizeOf28 ?_
  intro _ f1
  refine pu1<|zE<|retC f1 2 [I (r.x1-r.x0),I (r.y1-r.y0),I out, .slice azs nzs kzs] (I 0) (isAgg28 _) (sizeOf28 _) ?_
  have hz9:zs=gridN Wn f (Hn*Wn):=by rw [hE,show i=Hn by omega]
  have hC:edgC p.v e0.policy e0.fill (convCode p.v.max_ kw kh ws sh out) p.v.w p.v.h r=0:=edgC_ok hpo hev hcc hri
  exact ⟨(⟨(r.x1-r.x0),(r.y1-r.y0),out,⟨azs,nzs,kzs,zs⟩⟩:Plane),0,_,rfl,⟨(hOzs.rdAt (cs:=[czs]) 0 rfl)⟩,(by unfold convT;rw [okT_0 hC,mk_pl hri hW hH (hf▸hz9)];rfl),(f1.drops [1,1,1,1,1])⟩
 refine kT<|seqE<|blockE<|sR<|pu1 ?_
 refine sL m0 3 0 (I r.x0) (isAgg3 _) ?_
 refine pu1<|nT<|blockE ?_
 refine loopA (γ:=Nat×Int×(List Int)×(Option Addr)×Nat×Nat×Chunk) (fun ⟨j,xx,zt,azt,nzt,kzt,czt⟩=>[(2,I kw),(3,I kh),(4, .slice aws nws kws),(5,I sh),(6,I out),(8,Pt a0 0),(9,Pt b0 0),(15,Pt f0 0),(16,Pt g0 0),(19,Pt c0 0),(20,I yy),(21,I xx)]) (fun ⟨j,xx,zt,azt,nzt,kzt,czt⟩ w=>Sat W w (czt::[(c0, .cells #[I (r.x1-r.x0),I (r.y1-r.y0),I out, .slice azt nzt kzt] 28 (0,0))]::[(g0, .cells #[I 0,I 0,I 0,nS] 28 (0,0))]::[(f0, .cells (encRct r).toArray 24 (0,0))]::[(b0, .cells #[I e0.policy,I e0.fill] 55 (0,0))]::[(a0, .cells (encPlane p).toArray 28 (0,0))]::H::F)/\j<=Wn/\(xx=r.x0+(j:Int))/\(zt=gridN Wn f (i*Wn+j))/\OwnT Go.E.encI 3 1 azt nzt kzt zt czt) (fun ⟨j,xx,zt,azt,nzt,kzt,czt⟩=>Wn-j) (0,r.x0,zs,azs,nzs,kzs,czs) ⟨m0,om,om,(by rw [Nat.add_zero];exact hE),hOzs⟩ ?_
 rintro ⟨j,xx,zt,azt,nzt,kzt,czt⟩ ρ _ ⟨t0,hj,hxx,hE2,hOzt⟩
 have hn_zt:=hOzt.len;have hl_zt:=hOzt.le
 have hzl:zt.length=i*Wn+j:=by rw [hE2,grid_len]
 have hij:i*Wn+j<=Hn*Wn:=by have h1:=Nat.mul_le_mul_right Wn (show i+1<=Hn by omega);rw [Nat.add_mul,Nat.one_mul] at h1;omega
 refine seqE<|sR<|pu2 ?_
 refine sL t0 3 2 (I r.x1) (isAgg3 _) ?_
 refine pu1<|nT ?_
 refine cD (xx<r.x1) (fun r2=>?_) (fun r2=>?_)
 rotate_left
 ·refine exitE<|xB<|bN<|tN<|rE<|pu1 ?_
  refine sAdd yy 1 ?_
  refine pu1<|nT ?_
  exact ⟨(i+1,(yy+1),zt,azt,nzt,kzt,czt),od,alA,t0,om,om,(by rw [Nat.add_mul,Nat.one_mul,hE2,show j=Wn by omega]),hOzt⟩
 refine kT<|seqE<|blockE<|sR<|pu1<|zQ<|pu2<|nT<|blockE ?_
 refine loopA (γ:=Nat×Int) (fun ⟨a,s1⟩=>[(2,I kw),(3,I kh),(4, .slice aws nws kws),(5,I sh),(6,I out),(8,Pt a0 0),(9,Pt b0 0),(15,Pt f0 0),(16,Pt g0 0),(19,Pt c0 0),(20,I yy),(21,I xx),(96,I kh),(97,I (a:Int)),(22,I s1)]) (fun ⟨a,s1⟩ w=>Sat W w (czt::[(c0, .cells #[I (r.x1-r.x0),I (r.y1-r.y0),I out, .slice azt nzt kzt] 28 (0,0))]::[(g0, .cells #[I 0,I 0,I 0,nS] 28 (0,0))]::[(f0, .cells (encRct r).toArray 24 (0,0))]::[(b0, .cells #[I e0.policy,I e0.fill] 55 (0,0))]::[(a0, .cells (encPlane p).toArray 28 (0,0))]::H::F)/\a<=M/\(s1=convS p.v e0.policy e0.fill kw kh ws xx yy (a*K))) (fun ⟨a,s1⟩=>M-a) (0,0) ⟨t0,om,(by rw [Nat.zero_mul];rfl)⟩ ?_
 rintro ⟨a,s1⟩ ρ _ ⟨u0,ha,hs1⟩
 refine sR<|pu1<|nT<|seqE ?_
 refine cD ((a:Int)<kh) (fun t2=>?_) (fun t2=>?_)
 rotate_left
 ·refine exitE<|xB<|tN ?_
  refine drawE [4,6,7,8,10] [(1,⟨c0,3,none⟩, .slice azt nzt kzt)] [(true,[0,2,3,5]),(true,[1]),(false,[4]),(false,[6]),(false,[7]),(false,[8]),(true,[9]),(false,[10])] rfl kr ⟨cI u0 1,trivial⟩ ?_
  have u2:=u0.drew
  refine wU [0,2,3,5] ?_
  refine wLd (.slice azt nzt kzt) 0 isAgg22 ?_
  refine wO rfl ?_
  refine cR call64 (p7_shift s1 sh u2.flat) ?_
  intro _ g1
  refine nilO ⟨⟨cI g1 1,trivial⟩,?_⟩
  refine wO rfl ?_
  refine cR call63 (p7_clamp (shiftV s1 sh) out g1.flat) ?_
  intro _ i1
  refine nilO ⟨⟨cI i1 1,trivial⟩,?_⟩
  refine wO rfl ?_
  refine sBS i1 #[I (clampV (shiftV s1 sh) out)] runUnderlying22 sizeOf3 zeroValue3 ?_
  intro _ _ j1
  refine nilO ⟨⟨cI j1 2,trivial⟩,?_⟩
  refine wO rfl ?_
  refine sApp (nb:=8) j1 hOzt 1 (RdT.blk (enc:=Go.E.encI) (sz:=1) (xs:=[(clampV (shiftV s1 sh) out)]) fR 1 0 rfl rfl rfl om) underlying22 (i:=Try.t3) kr fR ?_
  intro k1 l1 v2 _ w2 x2
  refine nilO ⟨dA,?_⟩
  refine wU [9] ?_
  refine wO rfl ?_
  refine tW x2 2 3 (.slice k1 (nzt+1) l1) sizeOf22 ?_
  intro _ y2
  refine nilO ⟨dA,?_⟩
  refine wN ?_
  refine bN<|tN<|rE<|pu1 ?_
  refine sAdd xx 1 ?_
  refine pu1<|nT ?_
  exact ⟨(j+1,(xx+1),(zt++[(clampV (shiftV s1 sh) out)]),k1,(nzt+1),l1,v2),od,alA,(y2.dropAt 0 rfl),om,om,(by rw [<-Nat.add_assoc,grid_succ om,<-hE2,hf];dsimp only;rw [<-hxx,<-hyy];unfold convX;rw [hwl,hs1,show a=M by omega]),w2⟩
 refine kT<|seqE<|blockE<|sR<|pu2<|zS<|pu2<|nT<|blockE ?_
 refine loopA (γ:=Nat×Int) (fun ⟨b,s2⟩=>[(2,I kw),(3,I kh),(4, .slice aws nws kws),(5,I sh),(6,I out),(8,Pt a0 0),(9,Pt b0 0),(15,Pt f0 0),(16,Pt g0 0),(19,Pt c0 0),(20,I yy),(21,I xx),(96,I kh),(97,I (a:Int)),(23,I (a:Int)),(100,I kw),(101,I (b:Int)),(22,I s2)]) (fun ⟨b,s2⟩ w=>Sat W w (czt::[(c0, .cells #[I (r.x1-r.x0),I (r.y1-r.y0),I out, .slice azt nzt kzt] 28 (0,0))]::[(g0, .cells #[I 0,I 0,I 0,nS] 28 (0,0))]::[(f0, .cells (encRct r).toArray 24 (0,0))]::[(b0, .cells #[I e0.policy,I e0.fill] 55 (0,0))]::[(a0, .cells (encPlane p).toArray 28 (0,0))]::H::F)/\b<=K/\(s2=convS p.v e0.policy e0.fill kw kh ws xx yy (a*K+b))) (fun ⟨b,s2⟩=>K-b) (0,s1) ⟨u0,om,(by rw [Nat.add_zero];exact hs1)⟩ ?_
 rintro ⟨b,s2⟩ ρ _ ⟨d0,hb,hs2⟩
 have hsb:=conv_part (kw:=kw) (kh:=kh) (x:=xx) (y:=yy) hpo hev hcc (n:=a*K+b) (by rw [hwl];have h1:=Nat.mul_le_mul_right K (show a+1<=M by omega);rw [Nat.add_mul,Nat.one_mul] at h1;omega)
 refine sR<|pu1<|nT<|seqE ?_
 refine cD ((b:Int)<kw) (fun a3=>?_) (fun a3=>?_)
 rotate_left
 ·refine exitE<|xB<|bN<|tN<|rE ?_
  refine sAdd (a:Int) 1 ?_
  refine pu1<|nT ?_
  exact ⟨(a+1,s2),od,alA,d0,om,(by rw [Nat.add_mul,Nat.one_mul,hs2,show b=K by omega])⟩
 refine kT<|seqE<|blockE<|sR<|pu2<|nT ?_
 have hak:(a:Int)*kw=((a*K:Nat):Int):=(by rw [hK];push_cast;rfl);have haK:a*K+b<M*K:=(by have h1:=Nat.mul_le_mul_right K (show a+1<=M by omega);rw [Nat.add_mul,Nat.one_mul] at h1;omega);have hK9:a*K<=81:=(by have h1:=Nat.mul_le_mul (show a<=9 by omega) (show K<=9 by omega);omega)
 obtain ⟨k0,m1,n1,o1,q1,b3⟩:=RdT.elem hws (((a:Int)*kw)+(b:Int))
 have hwx:=areW_at haw o1;have hwa:ws[a*K+b]?=some k0:=by rw [<-o1];congr 1;rw [hak];omega
 refine drawE [23] [(8,⟨m1,n1,none⟩,I k0),(9,⟨a0,0,none⟩,I p.w),(9,⟨a0,1,none⟩,I p.h),(9,⟨a0,2,none⟩,I p.max_),(9,⟨a0,3,none⟩, .slice p.pix.a p.pix.n p.pix.k),(10,⟨b0,0,none⟩,I e0.policy),(10,⟨b0,1,none⟩,I e0.fill)] [(true,[0,1,2,3]),(true,[4]),(true,[5]),(true,[6]),(true,[7]),(true,[11,12]),(true,[13]),(true,[14]),(true,[15]),(true,[16]),(true,[17,18]),(true,[19]),(true,[20]),(true,[21]),(true,[22]),(true,[8]),(true,[9]),(true,[10]),(false,[23]),(true,[24]),(true,[25]),(true,[26])] rfl kr ⟨.inr ((q1.up 6 rfl).cell d0 (k:=0) rfl),cI d0 5,cI d0 5,cI d0 5,cI d0 5,cI d0 4,cI d0 4,trivial⟩ ?_
 have c3:=d0.drew
 refine wU [0,1,2,3] ?_
 refine wMul (a:Int) kw ?_
 refine wU [5] ?_
 refine wAdd ((a:Int)*kw) (b:Int) ?_
 refine wY (.pointer (some ⟨m1,n1,none⟩)) rfl (fun w _=>Y_idx (a:=aws) (i:=(((a:Int)*kw)+(b:Int))) (len:=nws) (cap:=kws) rfl runUnderlying22 sizeOf3 kr kr b3) ?_
 refine wU [11,12] ?_
 refine wAdd xx (b:Int) ?_
 refine wU [14] ?_
 refine wQuo kw 2 ?_
 refine wSub (xx+(b:Int)) (kw.tdiv 2) ?_
 refine wU [17,18] ?_
 refine wAdd yy (a:Int) ?_
 refine wU [20] ?_
 refine wQuo kh 2 ?_
 refine wSub (yy+(a:Int)) (kh.tdiv 2) ?_
 refine wLd (I k0) 0 isAgg3 ?_
 refine wY (.agg (encPlane p).toArray) rfl (fun w hF=>Y_loadF rfl (isAgg28 w) (sizeOf28 w) kr rfl ⟨hF 1 _ _ rfl,hF 2 _ _ rfl,hF 3 _ _ rfl,hF 4 _ _ rfl,trivial⟩) ?_
 refine wY (.agg #[I e0.policy,I e0.fill]) rfl (fun w hF=>Y_loadF rfl (isAgg55 w) (sizeOf55 w) kr rfl ⟨hF 5 _ _ rfl,hF 6 _ _ rfl,trivial⟩) ?_
 refine wO rfl ?_
 refine cR call62 (p9_pixel p e0 ((xx+(b:Int))-(kw.tdiv 2)) ((yy+(a:Int))-(kh.tdiv 2)) ⟨(RdT.flat (hp.pix.up 6 (by rfl)))⟩ hpo hev c3.flat) ?_
 intro _ r1
 have hpx:=pix_bd hpo hev (x:=((xx+(b:Int))-(kw.tdiv 2))) (y:=((yy+(a:Int))-(kh.tdiv 2)));have hpm:=wmul_bd (v:=(pixV p.v e0.policy e0.fill ((xx+(b:Int))-(kw.tdiv 2)) ((yy+(a:Int))-(kh.tdiv 2)))) (B:=4294967296) hwx (by simp only [Plane.v] at*;omega) (by decide)
 refine nilO ⟨⟨.inr ((q1.up 6 rfl).cell r1 (k:=0) rfl),dI,dI,dI,dI,dI,dI,trivial⟩,?_⟩
 refine wMul k0 (pixV p.v e0.policy e0.fill ((xx+(b:Int))-(kw.tdiv 2)) ((yy+(a:Int))-(kh.tdiv 2))) ?_
 refine wAdd s2 (k0*(pixV p.v e0.policy e0.fill ((xx+(b:Int))-(kw.tdiv 2)) ((yy+(a:Int))-(kh.tdiv 2)))) ?_
 refine wU [26] ?_
 refine wN ?_
 refine bN<|tN<|rE ?_
 refine sAdd (b:Int) 1 ?_
 refine pu1<|nT ?_
 exact ⟨(b+1,(s2+(k0*(pixV p.v e0.policy e0.fill ((xx+(b:Int))-(kw.tdiv 2)) ((yy+(a:Int))-(kh.tdiv 2)))))),od,alA,r1,om,(by rw [<-Nat.add_assoc,conv_succ hK om hwa,<-hs2];rw [ht1,ht2])⟩
end Go.Proofs.Ytmlhcafjelkjfaa
