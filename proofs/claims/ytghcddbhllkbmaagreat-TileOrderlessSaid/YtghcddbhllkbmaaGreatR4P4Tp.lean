import Derived.Test.YtghcddbhllkbmaaGreatR4P4Ck
namespace Go.Proofs.YtghcddbhllkbmaaGreat
open Go Go.E Go.Proofs.Tryz
set_option linter.all false
set_option maxRecDepth 100000
set_option maxHeartbeats 2000000
variable {W w:World} {H:Chunk} {F:List Chunk}
theorem pl_ix {p:PlaneV} (h:planeOK p=true) {x y:Int} (hx:0<=x/\x<p.w) (hy:0<=y/\y<p.h):0<=y*p.w/\y*p.w+x<(p.pix.length:Int)/\y*p.w<=4096:=by
  have hs:=plane_sz h
  have h0:=hs.1;unfold sizeP at h0
  have h1:=Int.mul_le_mul_of_nonneg_right (show y+1<=p.h by omega) (show 0<=p.w by omega)
  rw [Int.add_mul,Int.one_mul,Int.mul_comm p.h] at h1
  have h2:0<=y*p.w:=Int.mul_nonneg hy.1 (by omega)
  omega
theorem pixV_get {p:PlaneV} {pol fill x y v:Int} (h1:(idxV x p.w pol).isSome=true) (h2:(idxV y p.h pol).isSome=true) (hv:p.pix[((idxV y p.h pol).getD 0*p.w+(idxV x p.w pol).getD 0).toNat]?=some v):pixV p pol fill x y=v:=by
  obtain ⟨i,hi⟩:=Option.isSome_iff_exists.1 h1
  obtain ⟨j,hj⟩:=Option.isSome_iff_exists.1 h2
  unfold pixV
  rw [hi,hj] at hv⊢
  dsimp only
  rw [List.getD_eq_getElem?_getD]
  exact (congrArg (fun (z:Option Int)=>z.getD 0) hv)
theorem pixV_fill {p:PlaneV} {pol fill x y:Int} (h:¬(idxV x p.w pol).isSome=true\/¬(idxV y p.h pol).isSome=true):pixV p pol fill x y=fill:=by
  unfold pixV
  cases h1:idxV x p.w pol with
  |none=>rfl
  |some c=>
    cases h2:idxV y p.h pol with
    |none=>rfl
    |some d=>rw [h1,h2] at h;simp at h
theorem idx_some {i n p:Int} (h:(idxV i n p).isSome=true):0<=(idxV i n p).getD 0/\(idxV i n p).getD 0<n:=by
  obtain ⟨c,hc⟩:=Option.isSome_iff_exists.1 h
  rw [hc];exact idx_bd hc
theorem pixV_in {p:PlaneV} {pol fill x y v:Int} (h:planeOK p=true) (he:edgeV pol fill p.max_) (hx:0<=x/\x<p.w) (hy:0<=y/\y<p.h) (hv:p.pix[(y*p.w+x).toNat]?=some v):pixV p pol fill x y=v:=by
  rw [pix_in h he hx hy,List.getD_eq_getElem?_getD,hv];rfl
def insP (a b:Rct):Prop:=rvP a/\rvP b/\((a.x0=0/\a.y0=0/\a.x1=0/\a.y1=0)\/(b.x0<=a.x0/\a.x1<=b.x1/\b.y0<=a.y0/\a.y1<=b.y1))
instance (a b:Rct):Decidable (insP a b):=by unfold insP;infer_instance
theorem ins_in {r:Rct} {w h:Int} (hw:1<=w/\w<=4096) (hh:1<=h/\h<=4096):(¬(r.x0=0/\r.y0=0/\r.x1=0/\r.y1=0)/\insP r ⟨0,0,w,h⟩)↔rIn r w h:=by
  unfold insP rvP cooP rIn
  dsimp only
  omega
theorem edgC_a {p:PlaneV} {pol fill c w h:Int} {r:Rct} (e:¬(planeOK p=true/\edgeV pol fill p.max_)):edgC p pol fill c w h r=1:=by unfold edgC;rw [if_neg e]
theorem edgC_b {p:PlaneV} {pol fill c w h:Int} {r:Rct} (e:planeOK p=true/\edgeV pol fill p.max_) (hc:¬c=0):edgC p pol fill c w h r=c:=by unfold edgC;rw [if_pos e,if_neg hc]
theorem edgC_c {p:PlaneV} {pol fill c w h:Int} {r:Rct} (e:planeOK p=true/\edgeV pol fill p.max_) (hc:c=0) (hr:¬rIn r w h):edgC p pol fill c w h r=8:=by unfold edgC;rw [if_pos e,if_pos hc,if_neg hr]
theorem okT_c {c:Int} {d:Int} {p:PlaneV} (h:c=d) (hd:¬d=0):okT c p=(zPl,d):=by rw [okT_n (by omega),h]
theorem mk_pl {r:Rct} {w h mx:Int} {W H:Nat} {f:Int->Int->Int} (hr:rIn r w h) (hW:r.x1-r.x0=(W:Int)) (hH:r.y1-r.y0=(H:Int)) {zs:List Int} (hz:zs=gridN W (fun i j=>f (r.x0+i) (r.y0+j)) (H*W)):mkPl r mx f=⟨r.x1-r.x0,r.y1-r.y0,mx,zs⟩:=by
  have hA:=arN_eq hr
  unfold mkPl
  rw [hz,<-hW]
  have:areaN r=H*W:=(by rw [hW,hH] at hA;have:((H*W:Nat):Int)=(W:Int)*(H:Int):=(by push_cast;rw [Int.mul_comm]);omega)
  rw [this]
theorem conv_succ {p:PlaneV} {pol fill kw kh x y v:Int} {ws:List Int} {K a b:Nat} (hk:kw=(K:Int)) (hb:b<K) (hw:ws[a*K+b]?=some v):
    convS p pol fill kw kh ws x y (a*K+b+1)=convS p pol fill kw kh ws x y (a*K+b)+v*pixV p pol fill (x+b-kw/2) (y+a-kh/2):=by
  subst hk
  have h:=grid_ix (nx:=(K:Int)) (i:=(a:Int)) (j:=(b:Int)) (by omega)
  unfold convS
  rw [sumN_succ,List.getD_eq_getElem?_getD,hw]
  unfold convF
  rw [show (((a*K+b:Nat):Int))=(a:Int)*(K:Int)+(b:Int) by push_cast;rfl,h.1,h.2]
  rfl
theorem p7_clamp (v:Int) (m:Int) (hS:Sat W w (H::F)):
  Ro prog 128 #[I v,I m] (I (clampV v m)) W w (H::F):=by
 exact callsK 18 func128 rfl<|jCO 12 rfl<|sD 8 (m<0) (fun a0=>jOR 15 rfl<|retT [I 0]<|⟨by unfold clampV;rw [if_pos om];rfl,hS⟩) fun a0=>jOC 6 rfl<|cD (v<0) (fun b0=>jCR 8 rfl<|retT [I 0]<|⟨by unfold clampV;rw [if_pos om];rfl,hS⟩) fun b0=>jCC 8 rfl<|cD (v>m) (fun c0=>jCR 9 rfl<|retT [I m]<|⟨by unfold clampV;rw [if_neg om,if_pos om];rfl,hS⟩) fun c0=>jCR 10 rfl<|retT [I v]<|⟨by unfold clampV;rw [if_neg om,if_neg om];rfl,hS⟩
theorem p2_inside (a:Rct) (b:Rct) (hS:Sat W w (H::F)):
  Ro prog 54 #[.agg (encRct a).toArray, .agg (encRct b).toArray] (.bool (decide (insP a b))) W w (H::F):=by
 exact callsK 41 func54 rfl<|jCO 2 rfl<|sBx hS (encRct a) fun _ _ e0=>sBx e0 (encRct b) fun _ _ d0=>gOO d0 7 [401] rfl<|cS (p2_valid a d0.flat) fun _ b0=>pu2<|SDn 8 (rvP a) (fun f0=>jOR 14 rfl<|retT [.bool false]<|⟨rB (by rw [Bool.eq_iff_iff];unfold insP;simp only [decide_eq_true_eq,Bool.false_eq_true,false_iff,true_iff]<;>first|omega|(simp_all;try omega)),(b0.drops [0,0])⟩) fun f0=>gOO b0 1 [400] rfl<|gY<|cS (p2_valid b b0.flat) fun _ c0=>jOC 4 rfl<|CDn (rvP b) (fun h0=>jCR 7 rfl<|retT [.bool false]<|⟨rB (by rw [Bool.eq_iff_iff];unfold insP;simp only [decide_eq_true_eq,Bool.false_eq_true,false_iff,true_iff]<;>first|omega|(simp_all;try omega)),(c0.drops [0,0])⟩) fun h0=>gCO c0 6 [401] rfl<|cS (p2_empty a c0.flat) fun _ a0=>jOC 2 rfl<|cD (a.x0=0/\a.y0=0/\a.x1=0/\a.y1=0) (fun j0=>jCR 7 rfl<|retT [.bool true]<|⟨rB (by rw [Bool.eq_iff_iff];unfold insP;simp only [decide_eq_true_eq,Bool.false_eq_true,false_iff,true_iff]<;>first|omega|(simp_all;try omega)),(a0.drops [0,0])⟩) fun j0=>gCO a0 10 [0,1] rfl<|SD 20 (b.x0<=a.x0) (fun l0=>jOR 24 rfl<|retT [.bool false]<|⟨rB (by rw [Bool.eq_iff_iff];unfold insP;simp only [decide_eq_true_eq,Bool.false_eq_true,false_iff,true_iff]<;>first|omega|(simp_all;try omega)),(a0.drops [0,0])⟩) fun l0=>gOO a0 7 [1,0] rfl<|SD 27 (a.x1<=b.x1) (fun n0=>jOR 17 rfl<|retT [.bool false]<|⟨rB (by rw [Bool.eq_iff_iff];unfold insP;simp only [decide_eq_true_eq,Bool.false_eq_true,false_iff,true_iff]<;>first|omega|(simp_all;try omega)),(a0.drops [0,0])⟩) fun n0=>gOO a0 7 [0,1] rfl<|SD 34 (b.y0<=a.y0) (fun p0=>jOR 10 rfl<|retT [.bool false]<|⟨rB (by rw [Bool.eq_iff_iff];unfold insP;simp only [decide_eq_true_eq,Bool.false_eq_true,false_iff,true_iff]<;>first|omega|(simp_all;try omega)),(a0.drops [0,0])⟩) fun p0=>gOR a0 10 [1,0] rfl<|retT [.bool (decide ((a.y1:Int)<=b.y1))]<|⟨rB (by rw [Bool.eq_iff_iff];unfold insP;simp only [decide_eq_true_eq,Bool.false_eq_true,false_iff,true_iff]<;>first|omega|(simp_all;try omega)),(a0.drops [0,0])⟩
theorem p9_pixel (p:Plane) (e0:Edge) (x:Int) (y:Int) (hp:Plane.Ok [H] p) (hpo:planeOK p.v=true) (hev:edgeV e0.policy e0.fill p.max_) (hS:Sat W w (H::F)):
  Ro prog 127 #[.agg (encPlane p).toArray, .agg #[I e0.policy,I e0.fill],I x,I y] (I (pixV p.v e0.policy e0.fill x y)) W w (H::F):=by
 have u0:=hp.pix.le;have s0:=hp.pix.len
 have B0:=(plane_sz hpo).1;unfold sizeP at B0;simp only [Plane.v] at B0;have x0:p.v.pix.length=p.pix.n:=s0
 refine callsK 65 func127 rfl<|jCO 2 rfl<|sBx hS (encPlane p) fun _ _ p0=>sBx p0 [I e0.policy,I e0.fill] fun _ _ a0=>jOO 9 rfl<|sD 13 (x<0) (fun q0=>gOO a0 31 [1,0] rfl<|cS (p3_index x p.w e0.policy a0.flat) fun _ g0=>gOO g0 14 [1,0] rfl<|cS (p3_index y p.h e0.policy g0.flat) fun _ b0=>jOO 12 rfl<|SBn 49 ((idxV x p.w e0.policy).isSome) (fun r0=>gOR b0 15 [0] rfl<|retT [I e0.fill]<|⟨congrArg (fun z=>Ending.returned (I z)) (pixV_fill (by first|exact .inl ‹_›|exact .inr ‹_›)).symm,(b0.drops [0,0])⟩) fun r0=>jOC 5 rfl<|CBn ((idxV y p.h e0.policy).isSome) (fun t0=>gCR b0 9 [0] rfl<|retT [I e0.fill]<|⟨congrArg (fun z=>Ending.returned (I z)) (pixV_fill (by first|exact .inl ‹_›|exact .inr ‹_›)).symm,(b0.drops [0,0])⟩) fun t0=>jCC 3 rfl<|(by have hix:=pl_ix hpo (x:=(idxV x p.w e0.policy).getD 0) (y:=(idxV y p.h e0.policy).getD 0) (idx_some ‹_›) (idx_some ‹_›);rw [x0] at hix;simp only [Plane.v] at hix;have A0:=idx_some (i:=x) (n:=p.w) (p:=e0.policy) ‹_›;exact gCO b0 6 [1,1] rfl<|sMul ((idxV y p.h e0.policy).getD 0) p.w<|pu1<|sAdd (((idxV y p.h e0.policy).getD 0)*p.w) ((idxV x p.w e0.policy).getD 0)<|sII hp.pix ((((idxV y p.h e0.policy).getD 0)*p.w)+((idxV x p.w e0.policy).getD 0)) fun h0 _ _ v0 w0=>sMp b0 (w0.up 2 rfl) 0 (I h0)<|jOR 4 rfl<|retT [I h0]<|⟨congrArg (fun z=>Ending.returned (I z)) (pixV_get (p:=p.v) ‹_› ‹_› v0).symm,(b0.drops [0,0])⟩)) fun q0=>?_
 refine gOO a0 6 [1] rfl<|sD 19 (x>=p.w) (fun y0=>gOO a0 25 [1,0] rfl<|cS (p3_index x p.w e0.policy a0.flat) fun _ i0=>gOO i0 14 [1,0] rfl<|cS (p3_index y p.h e0.policy i0.flat) fun _ c0=>jOO 12 rfl<|SBn 49 ((idxV x p.w e0.policy).isSome) (fun z0=>gOR c0 15 [0] rfl<|retT [I e0.fill]<|⟨congrArg (fun z=>Ending.returned (I z)) (pixV_fill (by first|exact .inl ‹_›|exact .inr ‹_›)).symm,(c0.drops [0,0])⟩) fun z0=>jOC 5 rfl<|CBn ((idxV y p.h e0.policy).isSome) (fun b1=>gCR c0 9 [0] rfl<|retT [I e0.fill]<|⟨congrArg (fun z=>Ending.returned (I z)) (pixV_fill (by first|exact .inl ‹_›|exact .inr ‹_›)).symm,(c0.drops [0,0])⟩) fun b1=>jCC 3 rfl<|(by have hix:=pl_ix hpo (x:=(idxV x p.w e0.policy).getD 0) (y:=(idxV y p.h e0.policy).getD 0) (idx_some ‹_›) (idx_some ‹_›);rw [x0] at hix;simp only [Plane.v] at hix;have A0:=idx_some (i:=x) (n:=p.w) (p:=e0.policy) ‹_›;exact gCO c0 6 [1,1] rfl<|sMul ((idxV y p.h e0.policy).getD 0) p.w<|pu1<|sAdd (((idxV y p.h e0.policy).getD 0)*p.w) ((idxV x p.w e0.policy).getD 0)<|sII hp.pix ((((idxV y p.h e0.policy).getD 0)*p.w)+((idxV x p.w e0.policy).getD 0)) fun j0 _ _ d1 e1=>sMp c0 (e1.up 2 rfl) 0 (I j0)<|jOR 4 rfl<|retT [I j0]<|⟨congrArg (fun z=>Ending.returned (I z)) (pixV_get (p:=p.v) ‹_› ‹_› d1).symm,(c0.drops [0,0])⟩)) fun y0=>?_
 refine pu4<|sD 23 (y<0) (fun g1=>gOO a0 21 [1,0] rfl<|cS (p3_index x p.w e0.policy a0.flat) fun _ k0=>gOO k0 14 [1,0] rfl<|cS (p3_index y p.h e0.policy k0.flat) fun _ d0=>jOO 12 rfl<|SBn 49 ((idxV x p.w e0.policy).isSome) (fun h1=>gOR d0 15 [0] rfl<|retT [I e0.fill]<|⟨congrArg (fun z=>Ending.returned (I z)) (pixV_fill (by first|exact .inl ‹_›|exact .inr ‹_›)).symm,(d0.drops [0,0])⟩) fun h1=>jOC 5 rfl<|CBn ((idxV y p.h e0.policy).isSome) (fun j1=>gCR d0 9 [0] rfl<|retT [I e0.fill]<|⟨congrArg (fun z=>Ending.returned (I z)) (pixV_fill (by first|exact .inl ‹_›|exact .inr ‹_›)).symm,(d0.drops [0,0])⟩) fun j1=>jCC 3 rfl<|(by have hix:=pl_ix hpo (x:=(idxV x p.w e0.policy).getD 0) (y:=(idxV y p.h e0.policy).getD 0) (idx_some ‹_›) (idx_some ‹_›);rw [x0] at hix;simp only [Plane.v] at hix;have A0:=idx_some (i:=x) (n:=p.w) (p:=e0.policy) ‹_›;exact gCO d0 6 [1,1] rfl<|sMul ((idxV y p.h e0.policy).getD 0) p.w<|pu1<|sAdd (((idxV y p.h e0.policy).getD 0)*p.w) ((idxV x p.w e0.policy).getD 0)<|sII hp.pix ((((idxV y p.h e0.policy).getD 0)*p.w)+((idxV x p.w e0.policy).getD 0)) fun l0 _ _ l1 m1=>sMp d0 (m1.up 2 rfl) 0 (I l0)<|jOR 4 rfl<|retT [I l0]<|⟨congrArg (fun z=>Ending.returned (I z)) (pixV_get (p:=p.v) ‹_› ‹_› l1).symm,(d0.drops [0,0])⟩)) fun g1=>?_
 exact gOC a0 7 [1] rfl<|CD (y>=p.h) (fun o1=>jCC 3 rfl<|(by have hix:=pl_ix hpo (x:=x) (y:=y) (by simp only [Plane.v];omega) (by simp only [Plane.v];omega);rw [x0] at hix;simp only [Plane.v] at hix;exact gCO a0 6 [1,1] rfl<|sMul y p.w<|pu1<|sAdd (y*p.w) x<|sII hp.pix ((y*p.w)+x) fun m0 _ _ q1 r1=>sMp a0 (r1.up 2 rfl) 0 (I m0)<|jOR 4 rfl<|retT [I m0]<|⟨congrArg (fun z=>Ending.returned (I z)) (pixV_in hpo hev (by simp only [Plane.v];omega) (by simp only [Plane.v];omega) q1).symm,(a0.drops [0,0])⟩)) fun o1=>gCO a0 13 [1,0] rfl<|cS (p3_index x p.w e0.policy a0.flat) fun _ n0=>gOO n0 14 [1,0] rfl<|cS (p3_index y p.h e0.policy n0.flat) fun _ f0=>jOO 12 rfl<|SBn 49 ((idxV x p.w e0.policy).isSome) (fun t1=>gOR f0 15 [0] rfl<|retT [I e0.fill]<|⟨congrArg (fun z=>Ending.returned (I z)) (pixV_fill (by first|exact .inl ‹_›|exact .inr ‹_›)).symm,(f0.drops [0,0])⟩) fun t1=>jOC 5 rfl<|CBn ((idxV y p.h e0.policy).isSome) (fun v1=>gCR f0 9 [0] rfl<|retT [I e0.fill]<|⟨congrArg (fun z=>Ending.returned (I z)) (pixV_fill (by first|exact .inl ‹_›|exact .inr ‹_›)).symm,(f0.drops [0,0])⟩) fun v1=>jCC 3 rfl<|(by have hix:=pl_ix hpo (x:=(idxV x p.w e0.policy).getD 0) (y:=(idxV y p.h e0.policy).getD 0) (idx_some ‹_›) (idx_some ‹_›);rw [x0] at hix;simp only [Plane.v] at hix;have A0:=idx_some (i:=x) (n:=p.w) (p:=e0.policy) ‹_›;exact gCO f0 6 [1,1] rfl<|sMul ((idxV y p.h e0.policy).getD 0) p.w<|pu1<|sAdd (((idxV y p.h e0.policy).getD 0)*p.w) ((idxV x p.w e0.policy).getD 0)<|sII hp.pix ((((idxV y p.h e0.policy).getD 0)*p.w)+((idxV x p.w e0.policy).getD 0)) fun o0 _ _ x1 y1=>sMp f0 (y1.up 2 rfl) 0 (I o0)<|jOR 4 rfl<|retT [I o0]<|⟨congrArg (fun z=>Ending.returned (I z)) (pixV_get (p:=p.v) ‹_› ‹_› x1).symm,(f0.drops [0,0])⟩)
theorem p9_tile (p:Plane) (e0:Edge) (kw:Int) (kh:Int) (aws:Option Addr) (nws kws:Nat) (ws:List Int) (sh:Int) (out:Int) (r:Rct) (hp:Plane.Ok [H] p) (hws:RdT Go.E.encI 1 [H] aws nws kws ws) (hS:Sat W w (H::F)):
  Calls prog 89 #[.agg (encPlane p).toArray, .agg #[I e0.policy,I e0.fill],I kw,I kh, .slice aws nws kws,I sh,I out, .agg (encRct r).toArray] w fun e w'=>∃(q:Plane) (c:Int) (G:Chunk),e= .returned (.tuple #[.agg (encPlane q).toArray,I c])/\q.Ok [G]/\(q.v,c)=convT p.v e0.policy e0.fill kw kh ws sh out r/\Sat W w' (G::H::F):=by
 have I0:=hp.pix.ll
 have S0:=hws.ll
 refine callsK 143 func89 rfl<|jCO 2 rfl<|sBx hS (encPlane p) fun _ _ l1=>sBx l1 [I e0.policy,I e0.fill] fun _ _ m1=>sBx m1 (encRct r) fun _ _ n1=>sAlloc n1 zeroValue38 fun _ _ n0=>gOO n0 7 [403] rfl<|cS (p4_valid p ⟨(hp.pix.fl 4)⟩ n0.flat) fun _ g0=>pu2<|SBn 28 (planeOK p.v) (fun a0=>jOO 12 rfl<|sTk g0 0 rfl [I 0,I 0,I 0,nS] fun _ o0=>jOR 5 rfl<|retD o0 0 [I 0,I 0,I 0,nS] (I 1)<|(by have hC:edgC p.v e0.policy e0.fill (convCode p.v.max_ kw kh ws sh out) p.v.w p.v.h r=1:=edgC_a (fun h=>a0 h.1);have o1:=(o0.drops [0,0,0,0]);exact ⟨zP,1,_,rfl,⟨rN⟩,(by unfold convT;rw [okT_c hC om];rfl),(Sat.nilc o1)⟩)) fun a0=>gOO g0 3 [202,3] rfl<|gY<|cS (p3_valid e0 p.max_ g0.flat) fun _ h0=>jOC 4 rfl<|CDn ((e0.policy=3/\0<=e0.fill/\e0.fill<=p.max_)\/(0<=e0.policy/\e0.policy<3/\e0.fill=0)) (fun b0=>jCO 3 rfl<|sTk h0 0 rfl [I 0,I 0,I 0,nS] fun _ p0=>jOR 5 rfl<|retD p0 0 [I 0,I 0,I 0,nS] (I 1)<|(by have hC:edgC p.v e0.policy e0.fill (convCode p.v.max_ kw kh ws sh out) p.v.w p.v.h r=1:=edgC_a (fun h=>b0 h.2);have r1:=(p0.drops [0,0,0,0]);exact ⟨zP,1,_,rfl,⟨rN⟩,(by unfold convT;rw [okT_c hC om];rfl),(Sat.nilc r1)⟩)) fun b0=>?_
 refine gCO h0 12 [3] rfl<|cS (p9_check p.max_ kw kh aws nws kws ws sh out (hws.fl 4) h0.flat) fun _ i0=>jOC 9 rfl<|CN (convCode p.max_ kw kh ws sh out) 0 (fun u1=>jCO 4 rfl<|sTk i0 0 rfl [I 0,I 0,I 0,nS] fun _ q0=>jOR 5 rfl<|retD q0 0 [I 0,I 0,I 0,nS] (I (convCode p.max_ kw kh ws sh out))<|(by have hC:edgC p.v e0.policy e0.fill (convCode p.v.max_ kw kh ws sh out) p.v.w p.v.h r=(convCode p.max_ kw kh ws sh out):=edgC_b ⟨a0,b0⟩ (by simp only [Plane.v] at*;omega);have v1:=(q0.drops [0,0,0,0]);exact ⟨zP,(convCode p.max_ kw kh ws sh out),_,rfl,⟨rN⟩,(by unfold convT;rw [okT_c hC om];rfl),(Sat.nilc v1)⟩)) fun u1=>gCO i0 6 [401] rfl<|cS (p2_empty r i0.flat) fun _ j0=>pu1<|sD 50 (r.x0=0/\r.y0=0/\r.x1=0/\r.y1=0) (fun k0=>jOO 15 rfl<|sTk j0 0 rfl [I 0,I 0,I 0,nS] fun _ r0=>jOR 5 rfl<|retD r0 0 [I 0,I 0,I 0,nS] (I 8)<|(by have A0:=(plane_sz a0).1;unfold sizeP at A0;simp only [Plane.v] at A0;have hC:edgC p.v e0.policy e0.fill (convCode p.v.max_ kw kh ws sh out) p.v.w p.v.h r=8:=edgC_c ⟨a0,b0⟩ (by simp only [Plane.v] at*;omega) (fun h=>by have h2:=(ins_in (by simp only [Plane.v];omega) (by simp only [Plane.v];omega)).2 h;exact h2.1 k0);have z1:=(r0.drops [0,0,0,0]);exact ⟨zP,8,_,rfl,⟨rN⟩,(by unfold convT;rw [okT_c hC om];rfl),(Sat.nilc z1)⟩)) fun k0=>?_
 refine gOO j0 6 [401,3,3] rfl<|gY<|cS (p2_inside r (⟨0,0,p.w,p.h⟩:Rct) j0.flat) fun _ d0=>jOC 4 rfl<|CDn (insP r (⟨0,0,p.w,p.h⟩:Rct)) (fun l0=>jCO 3 rfl<|sTk d0 0 rfl [I 0,I 0,I 0,nS] fun _ s0=>jOR 5 rfl<|retD s0 0 [I 0,I 0,I 0,nS] (I 8)<|(by have A0:=(plane_sz a0).1;unfold sizeP at A0;simp only [Plane.v] at A0;have hC:edgC p.v e0.policy e0.fill (convCode p.v.max_ kw kh ws sh out) p.v.w p.v.h r=8:=edgC_c ⟨a0,b0⟩ (by simp only [Plane.v] at*;omega) (fun h=>by have h2:=(ins_in (by simp only [Plane.v];omega) (by simp only [Plane.v];omega)).2 h;exact l0 h2.2);have b2:=(s0.drops [0,0,0,0]);exact ⟨zP,8,_,rfl,⟨rN⟩,(by unfold convT;rw [okT_c hC om];rfl),(Sat.nilc b2)⟩)) fun l0=>jCC 3 rfl ?_
 have J0:planeOK p.v=true:=a0;have M0:edgeV e0.policy e0.fill p.max_:=b0;have Q0:(convCode p.v.max_ kw kh ws sh out)=0:=by simp only [Plane.v];omega
 have A0:=(plane_sz J0).1;unfold sizeP at A0;simp only [Plane.v] at A0;have N0:rIn r p.w p.h:=(ins_in om om).1 ⟨k0,l0⟩
 have R0:=N0;unfold rIn at R0;obtain ⟨M1,t1,w1,O1,N1,q1⟩:=conv_ok Q0
 obtain ⟨Wn,hW⟩:∃k:Nat,r.x1-r.x0=(k:Int):=⟨_,(Int.toNat_of_nonneg om).symm⟩;obtain ⟨Hn,hH⟩:∃k:Nat,r.y1-r.y0=(k:Int):=⟨_,(Int.toNat_of_nonneg om).symm⟩
 have J1:1<=Wn/\Wn<=128/\1<=Hn/\Hn<=128:=om;have I1:Hn*Wn<=4096:=by have h1:=rIn_area N0 (by first|omega|assumption);rw [hW,hH] at h1;have h2:((Hn*Wn:Nat):Int)=(Wn:Int)*(Hn:Int):=(by push_cast;rw [Int.mul_comm]);omega
 have K1:(r.x1-r.x0)*(r.y1-r.y0)=((Hn*Wn:Nat):Int):=by rw [hW,hH];push_cast;rw [Int.mul_comm]
 obtain ⟨K,hK⟩:∃k:Nat,kw=(k:Int):=⟨_,(Int.toNat_of_nonneg om).symm⟩;obtain ⟨M,hM⟩:∃k:Nat,kh=(k:Int):=⟨_,(Int.toNat_of_nonneg om).symm⟩;have X0:ws.length=M*K:=by rw [hK,hM] at w1;have h2:((M*K:Nat):Int)=(K:Int)*(M:Int):=(by push_cast;rw [Int.mul_comm]);omega
 have A1:kw.tdiv 2=kw/2:=Int.tdiv_eq_ediv_of_nonneg om;have B1:kh.tdiv 2=kh/2:=Int.tdiv_eq_ediv_of_nonneg om;have Z0:=(wCode_len (bnd_t q1).1).2.2
 refine gCO d0 5 [1,1] rfl<|sSub r.x1 r.x0<|gOO d0 4 [1,1] rfl<|sSub r.y1 r.y0<|pu2<|sAlloc d0 zeroValue38 fun t0 _ d2=>sTk d2 0 rfl [I (r.x1-r.x0),I (r.y1-r.y0),I out,nS] fun _ u0=>gOO u0 8 [0,0] rfl<|sMul (r.x1-r.x0) (r.y1-r.y0)<|sMake0 (kl:= .i64) (kc:= .i64) (enc:=Go.E.encI) (sz:=1) (nb:=8) u0 (((r.x1-r.x0)*(r.y1-r.y0))).toNat ((r.x1-r.x0)*(r.y1-r.y0)) (om:((r.x1-r.x0)*(r.y1-r.y0))=(((((r.x1-r.x0)*(r.y1-r.y0))).toNat:Nat):Int)) underlying22 (i:=Tryz.t3) kr fR fun v0 e2 _ f2 g2=>pu1<|tWk g2 1 rfl 3 (.slice (At v0 0) 0 ((((r.x1-r.x0)*(r.y1-r.y0))).toNat)) fun _ w0=>jOC 4 rfl ?_
 obtain ⟨f,hf⟩:∃f:Int->Int->Int,f=fun i j=>convX p.v e0.policy e0.fill kw kh ws sh out (r.x0+i) (r.y0+j):=⟨_,rfl⟩
 refine gCC w0 7 [3] rfl<|loopF [2,3,4,5,6,8,9,15,16,19] (γ:=Nat×Int×(List Int)×SO) (fun ⟨i,yy,zs,B0,F0,E0,H0⟩ R=>⟨[(20,I yy)],H0::[(t0, .cells #[I (r.x1-r.x0),I (r.y1-r.y0),I out, .slice B0 F0 E0] 38 (0,0))]::R,Hn-i,i<=Hn/\(yy=r.y0+(i:Int))/\(zs=gridN Wn f (i*Wn))/\OwnT Go.E.encI 3 1 B0 F0 E0 zs H0⟩) (0,r.y0,[],(At v0 0),0,(((r.x1-r.x0)*(r.y1-r.y0))).toNat,e2) ⟨w0,om,om,(by rw [Nat.zero_mul];rfl),f2⟩ ?_
 rintro ⟨i,yy,zs,B0,F0,E0,H0⟩ ρ _ ⟨c0,hi,F1,hE,C0⟩
 have T0:=C0.ll
 refine gCC c0 9 [3] rfl<|CD (yy<r.y1) (fun i2=>gCO c0 8 [401] rfl<|sTk c0 2 rfl [I (r.x1-r.x0),I (r.y1-r.y0),I out, .slice B0 F0 E0] fun _ z0=>jOR 4 rfl<|retD z0 2 [I (r.x1-r.x0),I (r.y1-r.y0),I out, .slice B0 F0 E0] (I 0)<|(by have G1:zs=gridN Wn f (Hn*Wn):=(by rw [hE,show i=Hn by omega]);have hC:edgC p.v e0.policy e0.fill (convCode p.v.max_ kw kh ws sh out) p.v.w p.v.h r=0:=edgC_ok J0 M0 Q0 N0;exact ⟨(⟨(r.x1-r.x0),(r.y1-r.y0),out,⟨B0,F0,E0,zs⟩⟩:Plane),0,_,rfl,⟨(C0.rdAt (cs:=[H0]) 0 rfl)⟩,(by unfold convT;rw [okT_0 hC,mk_pl N0 hW hH (hf▸G1)];rfl),(z0.drops [1,1,1,1,1])⟩)) fun i2=>gCC c0 12 [3] rfl<|loopF [2,3,4,5,6,8,9,15,16,19,20] (γ:=Nat×Int×(List Int)×SO) (fun ⟨j,xx,zt,K0,G0,O0,L0⟩ R=>⟨[(21,I xx)],L0::[(t0, .cells #[I (r.x1-r.x0),I (r.y1-r.y0),I out, .slice K0 G0 O0] 38 (0,0))]::R,Wn-j,j<=Wn/\(xx=r.x0+(j:Int))/\(zt=gridN Wn f (i*Wn+j))/\OwnT Go.E.encI 3 1 K0 G0 O0 zt L0⟩) (0,r.x0,zs,B0,F0,E0,H0) ⟨c0,om,om,(by rw [Nat.add_zero];exact hE),C0⟩ ?_
 rintro ⟨j,xx,zt,K0,G0,O0,L0⟩ ρ _ ⟨m0,hj,E1,P0,D0⟩
 have U0:=D0.ll
 have T1:zt.length=i*Wn+j:=by rw [P0,grid_len]
 have P1:i*Wn+j<=Hn*Wn:=by have h1:=Nat.mul_le_mul_right Wn (show i+1<=Hn by omega);rw [Nat.add_mul,Nat.one_mul] at h1;omega
 refine gCC m0 9 [3] rfl<|CD (xx<r.x1) (fun k2=>jCO 8 rfl<|sAdd yy 1<|jOI 2 rfl<|⟨(i+1,(yy+1),zt,K0,G0,O0,L0),od,alB,m0,om,om,(by rw [Nat.add_mul,Nat.one_mul,P0,show j=Wn by omega]),D0⟩) fun k2=>jCC 17 rfl<|loopF [2,3,4,5,6,8,9,15,16,19,20,21,96] (γ:=Nat×Int) (fun ⟨a,s1⟩ R=>⟨[(97,I (a:Int)),(22,I s1)],R,M-a,a<=M/\(s1=convS p.v e0.policy e0.fill kw kh ws xx yy (a*K))⟩) (0,0) ⟨m0,om,(by rw [Nat.zero_mul];rfl)⟩ ?_
 rintro ⟨a,s1⟩ ρ _ ⟨a1,ha,V0⟩
 refine jCC 6 rfl<|CD ((a:Int)<kh) (fun l2=>jCC 5 rfl<|drawF a1 [4,6,7,8,10] (fb 1 1 3 1<|fn) [0,2,3,5,1,4,6,7,8,9,10] fun _ m2=>wV 4<|wL 0<|wO rfl<|cS (p7_shift s1 sh m2.flat) fun _ b1=>nZ b1 [1]<|wO rfl<|cS (p7_clamp (shiftV s1 sh) out b1.flat) fun _ c1=>nZ c1 [1]<|wO rfl<|sBK c1 #[I (clampV (shiftV s1 sh) out)] 3 fun _ _ d1=>nZ d1 [2]<|wO rfl<|sApp (nb:=8) d1 D0 1 (RdT.blk (enc:=Go.E.encI) (sz:=1) (xs:=[(clampV (shiftV s1 sh) out)]) fR 1 0 rfl rfl rfl om) underlying22 (i:=Tryz.t3) kr fR fun e1 f1 n2 _ o2 q2=>nA<|wV 1<|wO rfl<|tWk q2 2 rfl 3 (.slice e1 (G0+1) f1) fun _ r2=>nA<|wN<|jXO 4 rfl<|sAdd xx 1<|jOI 2 rfl<|⟨(j+1,(xx+1),(zt++[(clampV (shiftV s1 sh) out)]),e1,(G0+1),f1,n2),od,alB,(r2.dropAt 0 rfl),om,om,(by rw [<-Nat.add_assoc,grid_succ om,<-P0,hf];dsimp only;rw [<-E1,<-F1];unfold convX;rw [X0,V0,show a=M by omega]),o2⟩) fun l2=>jCC 17 rfl<|loopF [2,3,4,5,6,8,9,15,16,19,20,21,96,97,23,100] (γ:=Nat×Int) (fun ⟨b,s2⟩ R=>⟨[(101,I (b:Int)),(22,I s2)],R,K-b,b<=K/\(s2=convS p.v e0.policy e0.fill kw kh ws xx yy (a*K+b))⟩) (0,s1) ⟨a1,om,(by rw [Nat.add_zero];exact V0)⟩ ?_
 rintro ⟨b,s2⟩ ρ _ ⟨g1,hb,W0⟩
 have S1:=conv_part (kw:=kw) (kh:=kh) (x:=xx) (y:=yy) J0 M0 Q0 (n:=a*K+b) (by rw [X0];have h1:=Nat.mul_le_mul_right K (show a+1<=M by omega);rw [Nat.add_mul,Nat.one_mul] at h1;omega)
 refine jCC 6 rfl<|CD ((b:Int)<kw) (fun u2=>jCO 7 rfl<|sAdd (a:Int) 1<|jOI 2 rfl<|⟨(a+1,s2),od,alB,g1,om,(by rw [Nat.add_mul,Nat.one_mul,W0,show b=K by omega])⟩) fun u2=>jCC 10 rfl ?_
 have Y0:(a:Int)*kw=((a*K:Nat):Int):=(by rw [hK];push_cast;rfl);have L1:a*K+b<M*K:=(by have h1:=Nat.mul_le_mul_right K (show a+1<=M by omega);rw [Nat.add_mul,Nat.one_mul] at h1;omega);have H1:a*K<=81:=(by have h1:=Nat.mul_le_mul (show a<=9 by omega) (show K<=9 by omega);omega)
 obtain ⟨f0,f4,g4,i1,j1,v2⟩:=RdT.elem hws (((a:Int)*kw)+(b:Int))
 have D1:=areW_at Z0 i1;have C1:ws[a*K+b]?=some f0:=by rw [<-i1];congr 1;rw [Y0];omega
 exact drawF g1 [23] (fq 8 0 (j1.up 6 rfl)<|fb 9 5 0 4<|fb 10 4 0 2<|fn) [0,1,2,3,4,5,6,7,11,12,13,14,15,16,17,18,19,20,21,22,8,9,10,23,24,25,26] fun _ w2=>wV 4<|wMul (a:Int) kw<|wV 1<|wAdd ((a:Int)*kw) (b:Int)<|wI v2<|wV 2<|wAdd xx (b:Int)<|wV 1<|wQuo kw 2<|wSub (xx+(b:Int)) (kw.tdiv 2)<|wV 2<|wAdd yy (a:Int)<|wV 1<|wQuo kh 2<|wSub (yy+(a:Int)) (kh.tdiv 2)<|wL 0<|wG 1 4<|wG 5 2<|wO rfl<|cS (p9_pixel p e0 ((xx+(b:Int))-(kw.tdiv 2)) ((yy+(a:Int))-(kh.tdiv 2)) ⟨(hp.pix.fl 6)⟩ J0 M0 w2.flat) fun _ k1=>(by have R1:=pix_bd J0 M0 (x:=((xx+(b:Int))-(kw.tdiv 2))) (y:=((yy+(a:Int))-(kh.tdiv 2)));have Q1:=wmul_bd (v:=(pixV p.v e0.policy e0.fill ((xx+(b:Int))-(kw.tdiv 2)) ((yy+(a:Int))-(kh.tdiv 2)))) (B:=4294967296) D1 (by simp only [Plane.v] at*;omega) (by decide);exact nilO ⟨⟨.inr ((j1.up 6 rfl).cell k1 (k:=0) rfl),dI,dI,dI,dI,dI,dI,trivial⟩,(wMul f0 (pixV p.v e0.policy e0.fill ((xx+(b:Int))-(kw.tdiv 2)) ((yy+(a:Int))-(kh.tdiv 2)))<|wAdd s2 (f0*(pixV p.v e0.policy e0.fill ((xx+(b:Int))-(kw.tdiv 2)) ((yy+(a:Int))-(kh.tdiv 2))))<|wV 1<|wN<|jXO 3 rfl<|sAdd (b:Int) 1<|jOI 2 rfl<|⟨(b+1,(s2+(f0*(pixV p.v e0.policy e0.fill ((xx+(b:Int))-(kw.tdiv 2)) ((yy+(a:Int))-(kh.tdiv 2)))))),od,alB,k1,om,(by rw [<-Nat.add_assoc,conv_succ hK om C1,<-W0];rw [A1,B1])⟩)⟩)
end Go.Proofs.YtghcddbhllkbmaaGreat

namespace Go.Proofs.YtghcddbhllkbmaaGreat
open Go Go.E Go.Proofs.Tryz
set_option linter.all false
set_option maxRecDepth 100000
set_option maxHeartbeats 2000000
variable {W w:World} {H:Chunk} {F:List Chunk}
def tabN {α:Type} (f:Nat->α) (n:Nat):List α:=(List.range n).map f
theorem tab_len {α:Type} (f:Nat->α) (n:Nat):(tabN f n).length=n:=by simp [tabN]
theorem tab_succ {α:Type} (f:Nat->α) (n:Nat):tabN f (n+1)=tabN f n++[f n]:=by unfold tabN;rw [List.range_succ,List.map_append];rfl
theorem tab_at {α:Type} {f:Nat->α} {n k:Nat} (h:k<n):(tabN f n)[k]?=some (f k):=by unfold tabN;rw [List.getElem?_map,List.getElem?_range h];rfl
theorem tab_congr {α:Type} {f g:Nat->α} {n:Nat} (h:∀k,k<n->f k=g k):tabN f n=tabN g n:=by unfold tabN;exact List.map_congr_left (fun k hk=>h k (List.mem_range.1 hk))
theorem tab_zero {n:Nat} {α:Type} {z:α} {f:Nat->α} (h:∀k,k<n->f k=z):List.replicate n z=tabN f n:=by
  apply List.ext_getElem?
  intro k
  by_cases hk:k<n
  · rw [tab_at hk,h k hk,List.getElem?_replicate,if_pos hk]
  · rw [List.getElem?_eq_none (by simp;omega),List.getElem?_eq_none (by rw [tab_len];omega)]
def mixN {α:Type} (f g:Nat->α) (i n:Nat):List α:=tabN (fun k=>if k<i then f k else g k) n
theorem mix_len {α:Type} (f g:Nat->α) (i n:Nat):(mixN f g i n).length=n:=tab_len _ _
theorem mix_0 {α:Type} (f g:Nat->α) (n:Nat):mixN f g 0 n=tabN g n:=tab_congr (fun k _=>by rw [if_neg (by omega)])
theorem mix_n {α:Type} (f g:Nat->α) (n:Nat):mixN f g n n=tabN f n:=tab_congr (fun k hk=>by rw [if_pos hk])
theorem mix_at {α:Type} {f g:Nat->α} {i n:Nat} (h:i<n):(mixN f g i n)[i]?=some (g i):=by unfold mixN;rw [tab_at h,if_neg (Nat.lt_irrefl _)]
theorem mix_set {α:Type} {f g:Nat->α} {i n:Nat} {v:α} (hv:v=f i):(mixN f g i n).set i v=mixN f g (i+1) n:=by
 apply List.ext_getElem?
 intro k
 rw [List.getElem?_set]
 by_cases hk:k<n
 ·unfold mixN
  rw [tab_at hk,tab_at hk,tab_len]
  by_cases he:i=k
  ·subst he;rw [if_pos rfl,if_pos hk,if_pos om,hv]
  ·rw [if_neg he]
   by_cases h2:k<i
   ·rw [if_pos h2,if_pos om]
   ·rw [if_neg h2,if_neg om]
 ·rw [List.getElem?_eq_none (l:=mixN f g (i+1) n) (by rw [mix_len];omega),List.getElem?_eq_none (l:=mixN f g i n) (by rw [mix_len];omega)]
  split
  ·rename_i h;subst h;rw [if_neg (by rw [mix_len];omega)]
  ·rfl
theorem fill_setG {α:Type} {z:α} {l:List α} {n m:Nat} {v:α} (h:l.length=n) (hm:n<m):(l++List.replicate (m-n) z).set n v=(l++[v])++List.replicate (m-(n+1)) z:=by
  subst h
  obtain ⟨k,rfl⟩:∃k,m=l.length+1+k:=⟨m-l.length-1,by omega⟩
  rw [show l.length+1+k-l.length=k+1 by omega,show l.length+1+k-(l.length+1)=k by omega,List.set_append_right _ _ (Nat.le_refl _),Nat.sub_self,List.replicate_succ,List.set_cons_zero,List.append_assoc];rfl
def pxR (p:PlaneV) (pol fill x y:Int) (n:Nat):List Int:=tabN (fun k=>pixV p pol fill (x+(k:Int)) y) n
def midR (p:PlaneV) (pol fill:Int) (row:List Int) (sh x y:Int) (n:Nat):List Int:=tabN (fun k=>midV p pol fill row sh (x+(k:Int)) y) n
theorem pxR_len (p:PlaneV) (pol fill x y:Int) (n:Nat):(pxR p pol fill x y n).length=n:=tab_len _ _
theorem midR_len (p:PlaneV) (pol fill:Int) (row:List Int) (sh x y:Int) (n:Nat):(midR p pol fill row sh x y n).length=n:=tab_len _ _
theorem mid_succ {p:PlaneV} {pol fill x y w:Int} {row:List Int} {i:Nat} (hw:row[i]?=some w):midS p pol fill row x y (i+1)=midS p pol fill row x y i+w*pixV p pol fill (x+(i:Int)-(row.length:Int)/2) y:=by
  unfold midS;rw [sumN_succ,List.getD_eq_getElem?_getD,hw];rfl
theorem sep_succ {p:PlaneV} {pol fill sh x y w:Int} {row col:List Int} {j:Nat} (hw:col[j]?=some w):sepS p pol fill row col sh x y (j+1)=sepS p pol fill row col sh x y j+w*midV p pol fill row sh x (y+(j:Int)-(col.length:Int)/2):=by
  unfold sepS;rw [sumN_succ,List.getD_eq_getElem?_getD,hw];rfl
theorem pix_eq {p:PlaneV} {pol fill x y x2 y2:Int} (hx:x=x2) (hy:y=y2):pixV p pol fill x y=pixV p pol fill x2 y2:=by rw [hx,hy]
theorem mid_eq {p:PlaneV} {pol fill sh x y y2:Int} {row:List Int} (hy:y=y2):midV p pol fill row sh x y=midV p pol fill row sh x y2:=by rw [hy]
theorem tapS_succ {p:PlaneV} {pol fill k w:Int} {t:TapV} {i:Nat} (hw:t.weights[i]?=some w):tapS p pol fill t k (i+1)=tapS p pol fill t k i+w*pixV p pol fill (t.first+(i:Int)) k:=by
  unfold tapS;rw [sumN_succ,List.getD_eq_getElem?_getD,hw];rfl
theorem resS_succ {p:PlaneV} {pol fill sh w:Int} {s t:TapV} {j:Nat} (hw:t.weights[j]?=some w):resS p pol fill s t sh (j+1)=resS p pol fill s t sh j+w*tapV p pol fill s sh (t.first+(j:Int)):=by
  unfold resS;rw [sumN_succ,List.getD_eq_getElem?_getD,hw];rfl
def tapR (p:PlaneV) (pol fill:Int) (x:List TapV) (sh x0 k:Int) (n:Nat):List Int:=tabN (fun u=>tapV p pol fill (tapAt x (x0+(u:Int))) sh k) n
theorem tapAt_eq {l:List TapV} {i:Int} {t:TapV} (h:l[i.toNat]?=some t):tapAt l i=t:=by unfold tapAt;rw [h];rfl
theorem inc_set {c:List Int} {k:Int} {v:Int} (h:c[k.toNat]?=some v):c.set k.toNat (v+1)=incV c k:=by unfold incV;rw [List.getD_eq_getElem?_getD,h];rfl
theorem pixAt_eq {p:PlaneV} {x y v:Int} (h:p.pix[(y*p.w+x).toNat]?=some v):pixAt p x y=v:=by unfold pixAt;rw [List.getD_eq_getElem?_getD,h];rfl
theorem colS_succ {p:PlaneV} {x y:Int} {n:Nat}:colS p x y (n+1)=colS p x y n+pixAt p x (y+(n:Int)):=by unfold colS;rw [sumN_succ]
theorem recS_succ {p:PlaneV} {x y:Int} {i j:Nat}:recS p x y (i+1) j=recS p x y i j+colS p (x+(i:Int)) y j:=by unfold recS;rw [sumN_succ]
theorem inM_f {m:Int} {l:List Int} {i:Nat} {v:Int} (h:l[i]?=some v) (hv:¬(0<=v/\v<=m)):¬inM m l=true:=by
  unfold inM;intro e
  exact hv (of_decide_eq_true (List.all_eq_true.1 e v (List.mem_of_getElem? h)))
structure IL where
  l:Sl Int
def encIL (x:IL):List Value:=[.slice x.l.a x.l.n x.l.k]
structure ILV where
  l:List Int
  deriving DecidableEq
def IL.v (x:IL):ILV:=⟨x.l.l⟩
structure IL.Ok (cs:List Chunk) (q:IL):Prop where
  l:RdT Go.E.encI 1 cs q.l.a q.l.n q.l.k q.l.l
theorem IL.Ok.of_mem {cs cs':List Chunk} {x:IL} (h:IL.Ok cs x) (hm:∀p∈cs.flatten,p∈cs'.flatten):IL.Ok cs' x:=⟨h.l.of_mem hm⟩
theorem own_setSame {α:Type} {enc:α->List Value} {E sz:Nat} {a:Option Addr} {n k i:Nat} {xs:List α} {x y:α} {c:Chunk} (h:OwnT enc E sz a n k (xs.set i x) c) (e:enc x=enc y):OwnT enc E sz a n k (xs.set i y) c:=by
  have e2:(xs.set i x).flatMap enc=(xs.set i y).flatMap enc:=by rw [List.flatMap_def,List.flatMap_def,List.map_set,List.map_set,e]
  obtain ⟨h1,h2,h3⟩:=h
  rw [e2] at h3
  exact ⟨by rw [<-h1,List.length_set,List.length_set],h2,h3⟩
theorem rows_at {ms:List IL} {f:Nat->List Int} {n k:Nat} {x:IL} (h:ms.map (fun z=>z.l.l)=tabN f n) (hx:ms[k]?=some x) (hk:k<n):x.l.l=f k:=by
  have e:=congrArg (fun l=>l[k]?) h
  simp only [List.getElem?_map,hx,Option.map_some,tab_at hk] at e
  exact Option.some.inj e
theorem p10_pixels (p:Plane) (e0:Edge) (x:Int) (y:Int) (cnt:Int) (hp:Plane.Ok [H] p) (hpo:planeOK p.v=true) (hev:edgeV e0.policy e0.fill p.max_) (hcn:0<=cnt/\cnt<=1000) (hxy:-1000000<=x/\x<=1000000) (hS:Sat W w (H::F)):
  Calls prog 131 #[.agg (encPlane p).toArray, .agg #[I e0.policy,I e0.fill],I x,I y,I cnt] w fun e w'=>∃(az:Option Addr) (nz kz:Nat) (zs:List Int) (G:Chunk),e= .returned (.slice az nz kz)/\RdT Go.E.encI 1 [G] az nz kz zs/\zs=pxR p.v e0.policy e0.fill x y cnt.toNat/\Sat W w' (G::H::F):=by
 have E0:=hp.pix.le;have A0:=hp.pix.len
 have I0:=(plane_sz hpo).1;unfold sizeP at I0;simp only [Plane.v] at I0;have J0:p.v.pix.length=p.pix.n:=A0;obtain ⟨N,hN⟩:∃k:Nat,cnt=(k:Int):=⟨_,(Int.toNat_of_nonneg om).symm⟩
 refine callsK 68 func131 rfl<|jCO 2 rfl<|sBx hS (encPlane p) fun _ _ f0=>sBx f0 [I e0.policy,I e0.fill] fun _ _ g0=>jOO 6 rfl<|sMake (kl:= .i64) (kc:= .i64) (enc:=Go.E.encI) (sz:=1) (nb:=8) g0 0 (cnt).toNat cnt (om:cnt=(((cnt).toNat:Nat):Int)) underlying22 (i:=Tryz.t3) kr fR fun h0 i0 _ j0 d0=>gOO d0 10 [2,1] rfl<|cS (p3_index y p.h e0.policy d0.flat) fun _ k0=>jOC 16 rfl<|loopF [2,5,6,12,13,29] (γ:=Nat×(List Int)×SO) (fun ⟨i,zs,B0,D0,C0,F0⟩ R=>⟨[(30,I (i:Int)),(11, .slice B0 D0 C0)],F0::R,N-i,i<=N/\(zs.length=N)/\(zs=pxR p.v e0.policy e0.fill x y i++List.replicate (N-i) 0)/\OwnT Go.E.encI 3 1 B0 D0 C0 zs F0⟩) (0,(List.replicate (cnt).toNat 0),(At h0 0),(cnt).toNat,(cnt).toNat,i0) ⟨k0,om,(by rw [List.length_replicate];omega),(by rw [show (cnt).toNat=N by omega];rfl),j0⟩ ?_
 rintro ⟨i,zs,B0,D0,C0,F0⟩ ρ _ ⟨c0,hi,G0,hE,m0⟩
 have H0:=m0.ll
 exact jCC 6 rfl<|CD ((i:Int)<(((cnt).toNat:Nat):Int)) (fun l0=>jCR 12 rfl<|retT [.slice B0 D0 C0]<|(by have M0:zs=pxR p.v e0.policy e0.fill x y N:=(by rw [hE,show i=N by omega,Nat.sub_self,List.replicate_zero,List.append_nil]);exact ⟨B0,D0,C0,zs,_,rfl,(m0.rdAt (cs:=[F0]) 0 rfl),(by rw [show cnt.toNat=N by omega];exact M0),(c0.drops [1,1])⟩)) fun l0=>jCO 14 rfl<|sAdd x (i:Int)<|gOO c0 4 [2,1] rfl<|cS (p3_index (x+(i:Int)) p.w e0.policy c0.flat) fun _ a0=>jOO 11 rfl<|SB 45 ((idxV (x+(i:Int)) p.w e0.policy).isSome) (fun n0=>gOO a0 10 [1] rfl<|sIO m0 (i:Int) i fun o0 _ _ p0 _ q0=>sStF a0 m0 q0 0 i 0 o0 e0.fill p0 (I e0.fill) [I e0.fill] sizeOf3 fun _ r0 s0 t0=>jOO 4 rfl<|sAdd (i:Int) 1<|jOI 2 rfl<|⟨(i+1,(zs.set i e0.fill),B0,D0,C0,r0),od,alB,t0,om,(by rw [List.length_set];exact G0),(by rw [hE,fill_set (pxR_len _ _ _ _ _ _) om,pxR,pxR,tab_succ,pixV_fill (p:=p.v) (by first|exact .inl ‹_›|exact .inr ‹_›)]),s0⟩) fun n0=>jOC 4 rfl<|CB ((idxV y p.h e0.policy).isSome) (fun u0=>gCO a0 5 [1] rfl<|sIO m0 (i:Int) i fun v0 _ _ w0 _ x0=>sStF a0 m0 x0 0 i 0 v0 e0.fill w0 (I e0.fill) [I e0.fill] sizeOf3 fun _ y0 z0 a1=>jOO 4 rfl<|sAdd (i:Int) 1<|jOI 2 rfl<|⟨(i+1,(zs.set i e0.fill),B0,D0,C0,y0),od,alB,a1,om,(by rw [List.length_set];exact G0),(by rw [hE,fill_set (pxR_len _ _ _ _ _ _) om,pxR,pxR,tab_succ,pixV_fill (p:=p.v) (by first|exact .inl ‹_›|exact .inr ‹_›)]),z0⟩) fun u0=>(by have L0:=idx_some (i:=y) (n:=p.h) (p:=e0.policy) ‹_›;have K0:=idx_some (i:=x+(i:Int)) (n:=p.w) (p:=e0.policy) ‹_›;have hix:=pl_ix hpo K0 L0;rw [J0] at hix;simp only [Plane.v] at hix;exact gCO a0 8 [2,2] rfl<|sMul ((idxV y p.h e0.policy).getD 0) p.w<|pu1<|sAdd (((idxV y p.h e0.policy).getD 0)*p.w) ((idxV (x+(i:Int)) p.w e0.policy).getD 0)<|sII hp.pix ((((idxV y p.h e0.policy).getD 0)*p.w)+((idxV (x+(i:Int)) p.w e0.policy).getD 0)) fun b0 _ _ b1 c1=>sMp a0 (c1.up 3 rfl) 0 (I b0)<|sIO m0 (i:Int) i fun d1 _ _ e1 _ f1=>sStF a0 m0 f1 0 i 0 d1 b0 e1 (I b0) [I b0] sizeOf3 fun _ g1 h1 i1=>jOO 4 rfl<|sAdd (i:Int) 1<|jOI 2 rfl<|⟨(i+1,(zs.set i b0),B0,D0,C0,g1),od,alB,i1,om,(by rw [List.length_set];exact G0),(by rw [hE,fill_set (pxR_len _ _ _ _ _ _) om,pxR,pxR,tab_succ,pixV_get (p:=p.v) ‹_› ‹_› b1]),h1⟩)
theorem p10_tile (p:Plane) (e0:Edge) (arow:Option Addr) (nrow krow:Nat) (row:List Int) (acol:Option Addr) (ncol kcol:Nat) (col:List Int) (sh:Int) (sh2:Int) (out:Int) (r:Rct) (hp:Plane.Ok [H] p) (hrow:RdT Go.E.encI 1 [H] arow nrow krow row) (hcol:RdT Go.E.encI 1 [H] acol ncol kcol col) (hS:Sat W w (H::F)):
  Calls prog 90 #[.agg (encPlane p).toArray, .agg #[I e0.policy,I e0.fill], .slice arow nrow krow, .slice acol ncol kcol,I sh,I sh2,I out, .agg (encRct r).toArray] w fun e w'=>∃(q:Plane) (c:Int) (G:Chunk),e= .returned (.tuple #[.agg (encPlane q).toArray,I c])/\q.Ok [G]/\(q.v,c)=sepT p.v e0.policy e0.fill row col sh sh2 out r/\Sat W w' (G::H::F):=by
 have S0:=hp.pix.ll
 have F1:=hrow.le;have J0:=hrow.len
 have E1:=hcol.le;have C0:=hcol.len
 refine callsK 209 func90 rfl<|jCO 2 rfl<|sBx hS (encPlane p) fun e1 _ t2=>sBx t2 [I e0.policy,I e0.fill] fun f1 _ u2=>sBx u2 (encRct r) fun g1 _ v2=>sAlloc v2 zeroValue38 fun i1 _ j1=>gOO j1 7 [403] rfl<|cS (p4_valid p ⟨(hp.pix.fl 4)⟩ j1.flat) fun _ q0=>pu2<|SBn 35 (planeOK p.v) (fun a0=>jOO 12 rfl<|sTk q0 0 rfl [I 0,I 0,I 0,nS] fun _ k1=>jOR 5 rfl<|retD k1 0 [I 0,I 0,I 0,nS] (I 1)<|(by have hC:edgC p.v e0.policy e0.fill (sepCode p.v.max_ row col sh sh2 out) p.v.w p.v.h r=1:=edgC_a (fun h=>a0 h.1);have w2:=(k1.drops [0,0,0,0]);exact ⟨zP,1,_,rfl,⟨rN⟩,(by unfold sepT;rw [okT_c hC om];rfl),(Sat.nilc w2)⟩)) fun a0=>gOO q0 3 [202,3] rfl<|gY<|cS (p3_valid e0 p.max_ q0.flat) fun _ r0=>jOC 4 rfl<|CDn ((e0.policy=3/\0<=e0.fill/\e0.fill<=p.max_)\/(0<=e0.policy/\e0.policy<3/\e0.fill=0)) (fun b0=>jCO 3 rfl<|sTk r0 0 rfl [I 0,I 0,I 0,nS] fun _ l1=>jOR 5 rfl<|retD l1 0 [I 0,I 0,I 0,nS] (I 1)<|(by have hC:edgC p.v e0.policy e0.fill (sepCode p.v.max_ row col sh sh2 out) p.v.w p.v.h r=1:=edgC_a (fun h=>b0 h.2);have y2:=(l1.drops [0,0,0,0]);exact ⟨zP,1,_,rfl,⟨rN⟩,(by unfold sepT;rw [okT_c hC om];rfl),(Sat.nilc y2)⟩)) fun b0=>?_
 refine gCO r0 12 [3] rfl<|cS (p10_check p.max_ arow nrow krow row acol ncol kcol col sh sh2 out (hrow.fl 4) (hcol.fl 4) r0.flat) fun _ s0=>jOC 9 rfl<|CN (sepCode p.max_ row col sh sh2 out) 0 (fun a3=>jCO 4 rfl<|sTk s0 0 rfl [I 0,I 0,I 0,nS] fun _ m1=>jOR 5 rfl<|retD m1 0 [I 0,I 0,I 0,nS] (I (sepCode p.max_ row col sh sh2 out))<|(by have hC:edgC p.v e0.policy e0.fill (sepCode p.v.max_ row col sh sh2 out) p.v.w p.v.h r=(sepCode p.max_ row col sh sh2 out):=edgC_b ⟨a0,b0⟩ (by simp only [Plane.v] at*;omega);have b3:=(m1.drops [0,0,0,0]);exact ⟨zP,(sepCode p.max_ row col sh sh2 out),_,rfl,⟨rN⟩,(by unfold sepT;rw [okT_c hC om];rfl),(Sat.nilc b3)⟩)) fun a3=>gCO s0 6 [401] rfl<|cS (p2_empty r s0.flat) fun _ t0=>pu1<|sD 57 (r.x0=0/\r.y0=0/\r.x1=0/\r.y1=0) (fun u0=>jOO 15 rfl<|sTk t0 0 rfl [I 0,I 0,I 0,nS] fun _ n1=>jOR 5 rfl<|retD n1 0 [I 0,I 0,I 0,nS] (I 8)<|(by have F0:=(plane_sz a0).1;unfold sizeP at F0;simp only [Plane.v] at F0;have hC:edgC p.v e0.policy e0.fill (sepCode p.v.max_ row col sh sh2 out) p.v.w p.v.h r=8:=edgC_c ⟨a0,b0⟩ (by simp only [Plane.v] at*;omega) (fun h=>by have h2:=(ins_in (by simp only [Plane.v];omega) (by simp only [Plane.v];omega)).2 h;exact h2.1 u0);have d3:=(n1.drops [0,0,0,0]);exact ⟨zP,8,_,rfl,⟨rN⟩,(by unfold sepT;rw [okT_c hC om];rfl),(Sat.nilc d3)⟩)) fun u0=>?_
 refine gOO t0 6 [401,3,3] rfl<|gY<|cS (p2_inside r (⟨0,0,p.w,p.h⟩:Rct) t0.flat) fun _ i0=>jOC 4 rfl<|CDn (insP r (⟨0,0,p.w,p.h⟩:Rct)) (fun v0=>jCO 3 rfl<|sTk i0 0 rfl [I 0,I 0,I 0,nS] fun _ o1=>jOR 5 rfl<|retD o1 0 [I 0,I 0,I 0,nS] (I 8)<|(by have F0:=(plane_sz a0).1;unfold sizeP at F0;simp only [Plane.v] at F0;have hC:edgC p.v e0.policy e0.fill (sepCode p.v.max_ row col sh sh2 out) p.v.w p.v.h r=8:=edgC_c ⟨a0,b0⟩ (by simp only [Plane.v] at*;omega) (fun h=>by have h2:=(ins_in (by simp only [Plane.v];omega) (by simp only [Plane.v];omega)).2 h;exact v0 h2.2);have f3:=(o1.drops [0,0,0,0]);exact ⟨zP,8,_,rfl,⟨rN⟩,(by unfold sepT;rw [okT_c hC om];rfl),(Sat.nilc f3)⟩)) fun v0=>jCC 3 rfl ?_
 have K0:planeOK p.v=true:=a0;have N0:edgeV e0.policy e0.fill p.max_:=b0;have R0:(sepCode p.v.max_ row col sh sh2 out)=0:=by simp only [Plane.v];omega
 have F0:=(plane_sz K0).1;unfold sizeP at F0;simp only [Plane.v] at F0;have Z0:rIn r p.w p.h:=(ins_in om om).1 ⟨u0,v0⟩
 have G1:=Z0;unfold rIn at G1;obtain ⟨H2,J2,I2,W1,V1⟩:=sep_ok R0
 obtain ⟨Wn,hW⟩:∃k:Nat,r.x1-r.x0=(k:Int):=⟨_,(Int.toNat_of_nonneg om).symm⟩;obtain ⟨Hn,hH⟩:∃k:Nat,r.y1-r.y0=(k:Int):=⟨_,(Int.toNat_of_nonneg om).symm⟩
 have F2:1<=Wn/\Wn<=128/\1<=Hn/\Hn<=128:=om;have E2:Hn*Wn<=4096:=by have h1:=rIn_area Z0 (by first|omega|assumption);rw [hW,hH] at h1;have h2:((Hn*Wn:Nat):Int)=(Wn:Int)*(Hn:Int):=(by push_cast;rw [Int.mul_comm]);omega
 have G2:(r.x1-r.x0)*(r.y1-r.y0)=((Hn*Wn:Nat):Int):=by rw [hW,hH];push_cast;rw [Int.mul_comm]
 have A2:(nrow:Int).tdiv 2=(nrow:Int)/2:=Int.tdiv_eq_ediv_of_nonneg om;have B2:(ncol:Int).tdiv 2=(ncol:Int)/2:=Int.tdiv_eq_ediv_of_nonneg om;have U1:=(wCode_len (bnd_t W1).1).2.2;have T1:=(wCode_len (bnd_t V1).1).2.2
 have D2:r.y1-r.y0+(ncol:Int)-1=((Hn+ncol-1:Nat):Int):=by omega
 refine gCO i0 5 [1,1] rfl<|sSub r.x1 r.x0<|gOO i0 4 [1,1] rfl<|sSub r.y1 r.y0<|pu2<|sAlloc i0 zeroValue38 fun j0 _ h3=>sTk h3 0 rfl [I (r.x1-r.x0),I (r.y1-r.y0),I out,nS] fun _ q1=>gOO q1 8 [0] rfl<|sAdd (r.y1-r.y0) (ncol:Int)<|sSub ((r.y1-r.y0)+(ncol:Int)) 1<|sMake (kl:= .i64) (kc:= .i64) (enc:=encIL) (sz:=1) (nb:=24) q1 ⟨⟨none,0,0,[]⟩⟩ ((((r.y1-r.y0)+(ncol:Int))-1)).toNat (((r.y1-r.y0)+(ncol:Int))-1) (om:(((r.y1-r.y0)+(ncol:Int))-1)=((((((r.y1-r.y0)+(ncol:Int))-1)).toNat:Nat):Int)) underlying42 (i:=Tryz.t22) kr fR fun i3 j3 _ k3 l3=>jOC 5 rfl ?_
 have m3:=Sat.nilc l3
 refine jCC 7 rfl ?_
 have n3:=(m3.pick 1 rfl)
 refine loopF [2,3,4,5,6,8,9,15,16,19,88] (γ:=Nat×(List IL)×(Option Addr)×Nat×Nat×Chunk×Chunk) (fun ⟨i,ms,X0,C1,A1,P0,E0⟩ R=>⟨[(89,I (i:Int)),(20, .slice X0 C1 A1)],E0::P0::R,(Hn+ncol-1)-i,i<=Hn+ncol-1/\(ms.length=Hn+ncol-1)/\(ms.map (fun z=>z.l.l)=tabN (fun t=>midR p.v e0.policy e0.fill row sh r.x0 (r.y0-(col.length:Int)/2+(t:Int)) Wn) i++List.replicate (Hn+ncol-1-i) [])/\OwnT encIL 22 1 X0 C1 A1 ms P0/\(∀z∈ms,IL.Ok [E0] z)⟩) (0,(List.replicate ((((r.y1-r.y0)+(ncol:Int))-1)).toNat ⟨⟨none,0,0,[]⟩⟩),(At i3 0),((((r.y1-r.y0)+(ncol:Int))-1)).toNat,((((r.y1-r.y0)+(ncol:Int))-1)).toNat,j3,[]) ⟨(n3.pick 1 rfl),om,(by rw [List.length_replicate];omega),(by rw [List.map_replicate,show (r.y1-r.y0+(ncol:Int)-1).toNat=Hn+ncol-1 by omega];rfl),k3,(fun z hz=>by rw [List.eq_of_mem_replicate hz];exact ⟨rN⟩)⟩ ?_
 rintro ⟨i,ms,X0,C1,A1,P0,E0⟩ ρ _ ⟨c0,hi,X1,J1,D0,H0⟩
 have L1:=D0.ll
 refine jCC 6 rfl<|cD ((i:Int)<((((((r.y1-r.y0)+(ncol:Int))-1)).toNat:Nat):Int)) (fun p3=>?_) (fun p3=>?_)
 ·refine gCO c0 18 [406,205,4] rfl<|sQuo (nrow:Int) 2<|sSub r.x0 ((nrow:Int).tdiv 2)<|gOO c0 4 [4] rfl<|sQuo (ncol:Int) 2<|sSub r.y0 ((ncol:Int).tdiv 2)<|pu1<|sAdd (r.y0-((ncol:Int).tdiv 2)) (i:Int)<|gOO c0 4 [2] rfl<|sAdd (r.x1-r.x0) (nrow:Int)<|sSub ((r.x1-r.x0)+(nrow:Int)) 1<|cZ (p10_pixels p e0 (r.x0-((nrow:Int).tdiv 2)) ((r.y0-((ncol:Int).tdiv 2))+(i:Int)) (((r.x1-r.x0)+(nrow:Int))-1) ⟨(hp.pix.fl 7)⟩ K0 N0 om om c0.flat) ?_
  rintro _ _ ⟨_,_,_,r1,_,rfl,w0,q3,r3⟩
  have t1:=r3.unflat1
  have U0:=w0.ll
  refine gOO t1 9 [3] rfl<|sMake (kl:= .i64) (kc:= .i64) (enc:=Go.E.encI) (sz:=1) (nb:=8) t1 0 ((r.x1-r.x0)).toNat (r.x1-r.x0) (om:(r.x1-r.x0)=((((r.x1-r.x0)).toNat:Nat):Int)) underlying22 (i:=Tryz.t3) kr fR fun k0 u1 _ s3 u3=>sIO D0 (i:Int) i fun v3 _ _ v1 _ w3=>sStF u3 D0 w3 3 i 0 v3 (⟨⟨(At k0 0),((r.x1-r.x0)).toNat,((r.x1-r.x0)).toNat,(List.replicate ((r.x1-r.x0)).toNat 0)⟩⟩:IL) v1 (.slice (At k0 0) (((r.x1-r.x0)).toNat) (((r.x1-r.x0)).toNat)) [.slice (At k0 0) (((r.x1-r.x0)).toNat) (((r.x1-r.x0)).toNat)] sizeOf22 fun _ z0 x3 w1=>jOC 3 rfl ?_
  obtain ⟨m,hm⟩:∃m:IL,m=(⟨⟨(At k0 0),((r.x1-r.x0)).toNat,((r.x1-r.x0)).toNat,(List.replicate ((r.x1-r.x0)).toNat 0)⟩⟩:IL):=⟨_,rfl⟩
  have l0:=x3;rw [<-hm] at l0
  have y3:OwnT Go.E.encI 3 1 m.l.a m.l.n m.l.k (List.replicate ((r.x1-r.x0)).toNat 0) u1:=by rw [hm];exact s3
  have L2:m.l.n=Wn:=by rw [hm];first|rfl|(dsimp only;omega)
  have z1:=set_at (y:=m) v1
  obtain ⟨yk,R1⟩:∃k:Int,k=r.y0-(ncol:Int)/2+(i:Int):=⟨_,rfl⟩
  have W0:r1=pxR p.v e0.policy e0.fill (r.x0-(nrow:Int)/2) yk (Wn+nrow-1):=by rw [q3,A2,B2,<-R1];congr 1;omega
  have M2:r1.length=Wn+nrow-1:=by rw [W0];exact tab_len _ _
  refine jCO 3 rfl<|sIO l0 (i:Int) i fun z3 _ _ a4 b4 _=>?_
  obtain rfl:m=z3:=Option.some.inj (z1.symm.trans a4)
  refine sMp w1 (b4.up 3 rfl) 0 (.slice m.l.a m.l.n m.l.k)<|jOC 5 rfl<|loopF [2,3,4,5,6,8,9,15,16,19,88,89,20,21,22,125] (γ:=Nat×(List Int)×Chunk) (fun ⟨u,zt,B0⟩ R=>⟨[(126,I (u:Int))],B0::R,Wn-u,u<=Wn/\(zt=midR p.v e0.policy e0.fill row sh r.x0 yk u++List.replicate (Wn-u) 0)/\OwnT Go.E.encI 3 1 m.l.a m.l.n m.l.k zt B0⟩) (0,(List.replicate ((r.x1-r.x0)).toNat 0),u1) ⟨w1,om,(by rw [show (r.x1-r.x0).toNat=Wn by omega];rfl),y3⟩ ?_
  rintro ⟨u,zt,B0⟩ ρ _ ⟨a2,hu,S1,A0⟩
  have V0:=A0.len;have T0:=A0.le
  refine jCC 6 rfl<|CD ((u:Int)<(m.l.n:Int)) (fun c4=>jCO 7 rfl<|sAdd (i:Int) 1<|jOI 2 rfl<|(by have d4:=own_setSame (y:=(⟨⟨m.l.a,m.l.n,m.l.k,zt⟩⟩:IL)) l0 rfl;have e4:=(a2.dropAt 1 rfl);exact ⟨(i+1,(ms.set i (⟨⟨m.l.a,m.l.n,m.l.k,zt⟩⟩:IL)),X0,C1,A1,z0,(B0++E0)),od,alB,(Sat.perm (cs':=(B0++E0)::(z0::[(j0, .cells #[I (r.x1-r.x0),I (r.y1-r.y0),I out,nS] 38 (0,0))]::[(i1, .cells #[I 0,I 0,I 0,nS] 38 (0,0))]::[(g1, .cells (encRct r).toArray 45 (0,0))]::[(f1, .cells #[I e0.policy,I e0.fill] 49 (0,0))]::[(e1, .cells (encPlane p).toArray 38 (0,0))]::H::F)) (show Sat W _ (B0::E0::z0::[(j0, .cells #[I (r.x1-r.x0),I (r.y1-r.y0),I out,nS] 38 (0,0))]::[(i1, .cells #[I 0,I 0,I 0,nS] 38 (0,0))]::[(g1, .cells (encRct r).toArray 45 (0,0))]::[(f1, .cells #[I e0.policy,I e0.fill] 49 (0,0))]::[(e1, .cells (encPlane p).toArray 38 (0,0))]::H::F) from e4) (by simp)),om,(by rw [List.length_set];exact X1),(by rw [List.map_set,J1,fill_setG (tab_len _ _) om,tab_succ,S1,show u=Wn by omega,Nat.sub_self,List.replicate_zero,List.append_nil,C0,R1]),d4,(mem_set (fun z hz=>(H0 z hz).of_mem mS) ⟨A0.rd mS⟩)⟩)) fun c4=>jCC 24 rfl<|loopF [2,3,4,5,6,8,9,15,16,19,88,89,20,21,22,125,126,23,129,130] (γ:=Nat×Int) (fun ⟨a,s1⟩ R=>⟨[(131,I (a:Int)),(24,I s1)],R,nrow-a,a<=nrow/\(s1=midS p.v e0.policy e0.fill row (r.x0+(u:Int)) yk a)⟩) (0,0) ⟨a2,om,by rfl⟩ ?_
  rintro ⟨a,s1⟩ ρ _ ⟨m0,ha,O1⟩
  have z2:=mid_part (row:=row) (x:=r.x0+(u:Int)) (y:=yk) K0 N0 R0 (n:=a) om
  refine jCC 6 rfl<|cD ((a:Int)<(nrow:Int)) (fun g4=>jCO 7 rfl<|sIN hrow a fun n0 _ _ a1 h4=>(by have H1:=areW_at U1 a1;refine sMp m0 (h4.up 9 rfl) 0 (I n0)<|jOO 10 rfl<|sAdd (u:Int) (a:Int)<|sII w0 ((u:Int)+(a:Int)) fun d0 _ _ i4 j4=>?_;have N1:d0=pixV p.v e0.policy e0.fill (r.x0+(u:Int)+(a:Int)-(row.length:Int)/2) yk:=(by have h:=i4;rw [W0,pxR,tab_at om] at h;rw [<-Option.some.inj h];exact pix_eq om rfl);have x2:=pix_bd K0 N0 (x:=r.x0+(u:Int)+(a:Int)-(row.length:Int)/2) (y:=yk);rw [<-N1] at x2;have Z1:=wmul_bd (v:=d0) (B:=4294967296) H1 (by simp only [Plane.v] at*;omega) (by decide);exact sMp m0 (j4.up 1 rfl) 0 (I d0)<|sMul n0 d0<|sAdd s1 (n0*d0)<|jOO 5 rfl<|sAdd (a:Int) 1<|jOI 2 rfl<|⟨(a+1,(s1+(n0*d0))),od,alB,m0,om,(by rw [mid_succ a1,<-O1,<-N1])⟩)) fun g4=>?_
  refine jCC 5 rfl ?_
  obtain ⟨k4,t6,u6,b2,b1,c2,v6⟩:=OwnT.eN l0 i
  obtain rfl:m=k4:=Option.some.inj (z1.symm.trans b2)
  obtain ⟨l4,w6,x6,d2,m4,e2,n4⟩:=OwnT.eN A0 u
  exact drawF m0 [7,9] (fq 3 0 (b1.up 3 rfl)<|fn) [0,1,2,4,5,6,3,7,8,9] fun _ o4=>wV 2<|wI c2<|wV 3<|wL 0<|wO rfl<|cS (p7_shift s1 sh o4.flat) fun _ f2=>nilO ⟨⟨.inr ((b1.up 3 rfl).cell f2 (k:=0) rfl),trivial⟩,(wI e2<|wO rfl<|sStF f2 A0 n4 0 u 0 l4 (shiftV s1 sh) d2 (I (shiftV s1 sh)) [I (shiftV s1 sh)] sizeOf3 fun _ p4 q4 r4=>nA<|wN<|jXO 3 rfl<|sAdd (u:Int) 1<|jOI 2 rfl<|⟨(u+1,(zt.set u (shiftV s1 sh)),p4),od,alB,r4,om,(by rw [S1,fill_set (midR_len _ _ _ _ _ _ _ _) om,midR,midR,tab_succ,midV,J0,<-show a=nrow by omega,<-O1]),q4⟩)⟩
 refine jCC 6 rfl ?_
 have Y1:ms.map (fun z=>z.l.l)=tabN (fun t=>midR p.v e0.policy e0.fill row sh r.x0 (r.y0-(col.length:Int)/2+(t:Int)) Wn) (Hn+ncol-1):=by rw [J1,show i=Hn+ncol-1 by omega,Nat.sub_self,List.replicate_zero,List.append_nil]
 refine gCO c0 5 [2,2] rfl<|sMul (r.x1-r.x0) (r.y1-r.y0)<|sMake0 (kl:= .i64) (kc:= .i64) (enc:=Go.E.encI) (sz:=1) (nb:=8) c0 (((r.x1-r.x0)*(r.y1-r.y0))).toNat ((r.x1-r.x0)*(r.y1-r.y0)) (om:((r.x1-r.x0)*(r.y1-r.y0))=(((((r.x1-r.x0)*(r.y1-r.y0))).toNat:Nat):Int)) underlying22 (i:=Tryz.t3) kr fR fun g2 s4 _ t4 u4=>pu1<|tWk u4 3 rfl 3 (.slice (At g2 0) 0 ((((r.x1-r.x0)*(r.y1-r.y0))).toNat)) fun _ i2=>jOC 4 rfl ?_
 obtain ⟨f,hf⟩:∃f:Int->Int->Int,f=fun i j=>sepX p.v e0.policy e0.fill row col sh sh2 out (r.x0+i) (r.y0+j):=⟨_,rfl⟩
 refine gCC i2 7 [3] rfl<|loopF [3,5,6,16,19,20,166] (γ:=Nat×(List Int)×SO) (fun ⟨i,zs,G0,M0,L0,Q0⟩ R=>⟨[(167,I (i:Int))],Q0::E0::P0::[(j0, .cells #[I (r.x1-r.x0),I (r.y1-r.y0),I out, .slice G0 M0 L0] 38 (0,0))]::R,Hn-i,i<=Hn/\(zs=gridN Wn f (i*Wn))/\OwnT Go.E.encI 3 1 G0 M0 L0 zs Q0⟩) (0,[],(At g2 0),0,(((r.x1-r.x0)*(r.y1-r.y0))).toNat,s4) ⟨i2,om,(by rw [Nat.zero_mul];rfl),t4⟩ ?_
 rintro ⟨i,zs,G0,M0,L0,Q0⟩ ρ _ ⟨o0,hi,hE,I0⟩
 have M1:=I0.ll
 refine jCC 6 rfl<|CD ((i:Int)<(r.y1-r.y0)) (fun v4=>gCO o0 8 [403] rfl<|sTk o0 4 rfl [I (r.x1-r.x0),I (r.y1-r.y0),I out, .slice G0 M0 L0] fun _ j2=>jOR 4 rfl<|retD j2 4 [I (r.x1-r.x0),I (r.y1-r.y0),I out, .slice G0 M0 L0] (I 0)<|(by have C2:zs=gridN Wn f (Hn*Wn):=(by rw [hE,show i=Hn by omega]);have hC:edgC p.v e0.policy e0.fill (sepCode p.v.max_ row col sh sh2 out) p.v.w p.v.h r=0:=edgC_ok K0 N0 R0 Z0;exact ⟨(⟨(r.x1-r.x0),(r.y1-r.y0),out,⟨G0,M0,L0,zs⟩⟩:Plane),0,_,rfl,⟨(I0.rdAt (cs:=[Q0]) 0 rfl)⟩,(by unfold sepT;rw [okT_0 hC,mk_pl Z0 hW hH (hf▸C2)];rfl),(j2.drops [1,1,1,1,1,1,1])⟩)) fun v4=>gCC o0 18 [3] rfl<|loopF [3,5,6,16,19,20,166,167,27,171] (γ:=Nat×(List Int)×SO) (fun ⟨j,zt,Y0,O0,B1,B0⟩ R=>⟨[(172,I (j:Int))],B0::E0::P0::[(j0, .cells #[I (r.x1-r.x0),I (r.y1-r.y0),I out, .slice Y0 O0 B1] 38 (0,0))]::R,Wn-j,j<=Wn/\(zt=gridN Wn f (i*Wn+j))/\OwnT Go.E.encI 3 1 Y0 O0 B1 zt B0⟩) (0,zs,G0,M0,L0,Q0) ⟨o0,om,(by rw [Nat.add_zero];exact hE),I0⟩ ?_
 rintro ⟨j,zt,Y0,O0,B1,B0⟩ ρ _ ⟨k2,hj,D1,A0⟩
 have V0:=A0.len;have T0:=A0.le
 have O2:zt.length=i*Wn+j:=by rw [D1,grid_len]
 have K2:i*Wn+j<=Hn*Wn:=by have h1:=Nat.mul_le_mul_right Wn (show i+1<=Hn by omega);rw [Nat.add_mul,Nat.one_mul] at h1;omega
 refine jCC 6 rfl<|CD ((j:Int)<(r.x1-r.x0)) (fun x4=>jCO 7 rfl<|sAdd (i:Int) 1<|jOI 2 rfl<|⟨(i+1,zt,Y0,O0,B1,B0),od,alB,k2,om,(by rw [Nat.add_mul,Nat.one_mul,D1,show j=Wn by omega]),A0⟩) fun x4=>jCC 24 rfl<|loopF [3,5,6,16,19,20,166,167,27,171,172,28,175,176] (γ:=Nat×Int) (fun ⟨a,s2⟩ R=>⟨[(177,I (a:Int)),(29,I s2)],R,ncol-a,a<=ncol/\(s2=sepS p.v e0.policy e0.fill row col sh (r.x0+(j:Int)) (r.y0+(i:Int)) a)⟩) (0,0) ⟨k2,om,by rfl⟩ ?_
 rintro ⟨a,s2⟩ ρ _ ⟨h0,ha,P1⟩
 have z2:=sep_part (row:=row) (col:=col) (x:=r.x0+(j:Int)) (y:=r.y0+(i:Int)) K0 N0 R0 (n:=a) om
 refine jCC 6 rfl<|CD ((a:Int)<(ncol:Int)) (fun y4=>jCC 5 rfl<|drawF h0 [4,6,7,8,10] (fb 1 3 3 1<|fn) [0,2,3,5,1,4,6,7,8,9,10] fun _ z4=>wV 4<|wL 0<|wO rfl<|cS (p7_shift s2 sh2 z4.flat) fun _ l2=>nZ l2 [3]<|wO rfl<|cS (p7_clamp (shiftV s2 sh2) out l2.flat) fun _ m2=>nZ m2 [3]<|wO rfl<|sBK m2 #[I (clampV (shiftV s2 sh2) out)] 3 fun _ _ n2=>nZ n2 [4]<|wO rfl<|sApp (nb:=8) n2 A0 1 (RdT.blk (enc:=Go.E.encI) (sz:=1) (xs:=[(clampV (shiftV s2 sh2) out)]) fR 1 0 rfl rfl rfl om) underlying22 (i:=Tryz.t3) kr fR fun o2 q2 a5 _ b5 c5=>nA<|wV 1<|wO rfl<|tWk c5 4 rfl 3 (.slice o2 (O0+1) q2) fun _ d5=>nA<|wN<|jXO 3 rfl<|sAdd (j:Int) 1<|jOI 2 rfl<|⟨(j+1,(zt++[(clampV (shiftV s2 sh2) out)]),o2,(O0+1),q2,a5),od,alB,(d5.dropAt 0 rfl),om,(by rw [<-Nat.add_assoc,grid_succ om,<-D1,hf];dsimp only;unfold sepX;rw [C0,<-show a=ncol by omega,<-P1]),b5⟩) fun y4=>jCO 7 rfl<|sIN hcol a fun p0 _ _ c1 f5=>?_
 have H1:=areW_at T1 c1
 refine sMp h0 (f5.up 8 rfl) 0 (I p0)<|jOO 10 rfl<|sAdd (i:Int) (a:Int)<|sIO D0 ((i:Int)+(a:Int)) (((i:Int)+(a:Int))).toNat fun f0 _ _ d1 g5 _=>?_
 have Q1:=rows_at Y1 d1 om;have N2:f0.l.n=Wn:=by have h:=congrArg List.length Q1;rw [midR,tab_len,(H0 f0 (List.mem_of_getElem? d1)).l.len] at h;exact h
 refine sMp h0 (g5.up 2 rfl) 0 (.slice f0.l.a f0.l.n f0.l.k)<|pu1<|sII (H0 f0 (List.mem_of_getElem? d1)).l (j:Int) fun g0 _ _ r2 h5=>?_
 rw [Int.toNat_natCast] at r2
 have K1:g0=midV p.v e0.policy e0.fill row sh (r.x0+(j:Int)) (r.y0+(i:Int)+(a:Int)-(col.length:Int)/2):=by have h:=r2;rw [Q1,midR,tab_at om] at h;rw [<-Option.some.inj h];exact mid_eq om
 have I1:=mid_bd (row:=row) (col:=col) (x:=r.x0+(j:Int)) (y:=r.y0+(i:Int)+(a:Int)-(col.length:Int)/2) K0 N0 R0;rw [<-K1] at I1;have Z1:=wmul_bd (v:=g0) (B:=68719476736) H1 I1 (by decide)
 exact sMp h0 (h5.up 1 rfl) 0 (I g0)<|sMul p0 g0<|sAdd s2 (p0*g0)<|jOO 5 rfl<|sAdd (a:Int) 1<|jOI 2 rfl<|⟨(a+1,(s2+(p0*g0))),od,alB,h0,om,(by rw [sep_succ c1,<-P1,<-K1])⟩
end Go.Proofs.YtghcddbhllkbmaaGreat

namespace Go.Proofs.YtghcddbhllkbmaaGreat
open Go Go.E Go.Proofs.Tryz
set_option linter.all false
set_option maxRecDepth 100000
set_option maxHeartbeats 2000000
variable {W w:World} {H:Chunk} {F:List Chunk}
def bytOK (s:StageV):Prop:=(1<=s.kind/\s.kind<=6)/\(¬s.kind=1\/((1<=s.kW/\s.kW<=9)/\1<=s.kH/\s.kH<=9))/\(¬s.kind=2\/(1<=(s.col.length:Int)/\(s.col.length:Int)<=9))/\(¬s.kind=4\/(1<=s.bins/\s.bins<=128))
theorem of_bytOK {q:StageV} {s t:Shape} (h:(ofV q s t).2=0):bytOK q:=by
 unfold ofV at h
 split at h
 ·rename_i hf
  have hk:1<=q.kind/\q.kind<=6:=by unfold fieldsP at hf;omega
  refine ⟨hk,?_⟩
  split at h
  ·split at h
   ·split at h
    ·rename_i h4
     unfold kernelV at h4
     clear h
     split at h4
     ·rename_i k
      unfold convCode at h4
      dsimp only at h4
      split at h4
      ·omega
      ·omega
     ·split at h4
      ·rename_i k
       unfold sepCode at h4
       dsimp only at h4
       split at h4
       ·omega
       ·omega
      ·split at h4
       ·omega
       ·split at h4
        ·split at h4
         ·omega
         ·simp at h4
        ·omega
    ·rename_i h4;exact absurd h h4
   ·simp at h
  ·simp at h
 ·simp at h
theorem cells_bd {s:StageV} {h:Int} {r:Rct} (hk:bytOK s) (hr:inP r):0<=cellsV s h r/\cellsV s h r<=20000:=by
 obtain ⟨h0,h1,h2,h4⟩:=hk
 unfold inP at hr
 unfold cellsV
 split
 ·exact mul_bd (A:=136) (B:=136) om om|>.imp id (fun h=>by omega)
 ·split
  ·exact mul_bd (A:=136) (B:=136) om om|>.imp id (fun h=>by omega)
  ·split
   · exact (by have hl:=need_len (s:=s) (n:=h) (a:=r.y0) (b:=r.y1) (size:=if s.kind=2 then s.col.length else s.kH) (t:=s.y);exact mul_bd (A:=136) (B:=136) om (by unfold rowsV;omega)|>.imp id (fun h=>by omega))
   ·split
    ·omega
    ·split<;>omega
theorem scr_no {s:StageV} {m:Shape} {p:Int} {r:Rct} (h:¬((ofV s m m).2=0/\belongP s.kind p/\inP r)):scrV s m p r=0:=by unfold scrV;rw [if_neg h]
theorem r20_belongs (x:Int) (p:Int) (hS:Sat W w (H::F)):
  Ro prog 64 #[I x,I p] (.bool (decide (belongP x p))) W w (H::F):=by
 exact callsK 15 func64 rfl<|jCC 12 rfl<|CE x 4 (fun a0=>jCR 10 rfl<|retT [.bool ((p:Int)==0)]<|⟨rB (by unfold belongP;exact bq),hS⟩) fun a0=>jCO 5 rfl<|sE 9 p 1 (fun b0=>jOR 8 rfl<|retT [.bool true]<|⟨rB (by unfold belongP;exact bq),hS⟩) fun b0=>jOR 8 rfl<|retT [.bool ((p:Int)==2)]<|⟨rB (by unfold belongP;exact bq),hS⟩
theorem r20_scratch (q:Stage) (s:Shape) (part:Int) (r:Rct) (hq:Stage.Ok [H] q) (hS:Sat W w (H::F)):
  Ro prog 40 #[.agg (encStage q).toArray, .agg #[I s.w,I s.h,I s.max_],I part, .agg (encRct r).toArray] (I (scrV q.v s part r)) W w (H::F):=by
 have A0:=hq.weights.ll
 have E0:=hq.row.ll
 have C0:=hq.col.le;have w0:=hq.col.len
 have I0:=hq.x.ll
 have J0:=hq.y.ll
 have D0:=hq.ops.ll
 refine callsK 123 func40 rfl<|jCO 2 rfl<|sBx hS (encStage q) fun _ _ j0=>sBx j0 [I s.w,I s.h,I s.max_] fun _ _ k0=>sBx k0 (encRct r) fun _ _ h0=>gOO h0 9 [1802,301,301] rfl<|cS (r15_of q s s (hq.of_mem (mF 3)) h0.flat) fun _ l0=>pu3<|sAlloc l0 zeroValue65 fun _ _ m0=>sTk m0 0 rfl [I ((ofV q.v s s).1.w),I ((ofV q.v s s).1.h),I ((ofV q.v s s).1.max_)] fun _ c0=>jOC 3 rfl<|cutF c0 0 [4,5,7] (γ:=Unit) (fun _ R=>⟨[(56, .bool (decide (¬((ofV q.v s s).2=0/\belongP q.kind part/\(rvP r/\¬(r.x0=0/\r.y0=0/\r.x1=0/\r.y1=0))/\0<=r.x0/\0<=r.y0/\r.x1<=128/\r.y1<=128))))],R,0,True⟩) ?_ ?_
 ·refine jCO 4 rfl<|SN 25 ((ofV q.v s s).2) 0 (fun n0=>jOI 32 rfl<|⟨(),⟨⟨(Eq.trans (b:= .bool true) kr (congrArg Value.bool (decide_eq_true (p:=¬((ofV q.v s s).2=0/\belongP q.kind part/\(rvP r/\¬(r.x0=0/\r.y0=0/\r.x1=0/\r.y1=0))/\0<=r.x0/\0<=r.y0/\r.x1<=128/\r.y1<=128)) (by (first|omega|(simp_all;done)|(intro h_;obtain ⟨h1,h2,h3,h4,h5,h6,h7⟩:=h_;first|omega|contradiction|(exact absurd h3.1 ‹_›)|simp_all)|(simp_all<;>omega)))).symm)),trivial⟩,sA⟩,c0,trivial⟩) fun n0=>gOO c0 3 [3] rfl<|gY<|cS (r20_belongs q.kind part c0.flat) fun _ f0=>pu3<|SDn 32 (belongP q.kind part) (fun o0=>jOI 25 rfl<|⟨(),⟨⟨(Eq.trans (b:= .bool true) kr (congrArg Value.bool (decide_eq_true (p:=¬((ofV q.v s s).2=0/\belongP q.kind part/\(rvP r/\¬(r.x0=0/\r.y0=0/\r.x1=0/\r.y1=0))/\0<=r.x0/\0<=r.y0/\r.x1<=128/\r.y1<=128)) (by (first|omega|(simp_all;done)|(intro h_;obtain ⟨h1,h2,h3,h4,h5,h6,h7⟩:=h_;first|omega|contradiction|(exact absurd h3.1 ‹_›)|simp_all)|(simp_all<;>omega)))).symm)),trivial⟩,sA⟩,f0,trivial⟩) fun o0=>?_
  refine gOO f0 1 [401] rfl<|gY<|cS (r2_full r f0.flat) fun _ b0=>pu3<|SDn 37 (rvP r/\¬(r.x0=0/\r.y0=0/\r.x1=0/\r.y1=0)) (fun p0=>jOI 20 rfl<|⟨(),⟨⟨(Eq.trans (b:= .bool true) kr (congrArg Value.bool (decide_eq_true (p:=¬((ofV q.v s s).2=0/\belongP q.kind part/\(rvP r/\¬(r.x0=0/\r.y0=0/\r.x1=0/\r.y1=0))/\0<=r.x0/\0<=r.y0/\r.x1<=128/\r.y1<=128)) (by (first|omega|(simp_all;done)|(intro h_;obtain ⟨h1,h2,h3,h4,h5,h6,h7⟩:=h_;first|omega|contradiction|(exact absurd h3.1 ‹_›)|simp_all)|(simp_all<;>omega)))).symm)),trivial⟩,sA⟩,b0,trivial⟩) fun p0=>gOO b0 5 [1] rfl<|sD 42 (r.x0<0) (fun q0=>jOI 15 rfl<|⟨(),⟨⟨(Eq.trans (b:= .bool true) kr (congrArg Value.bool (decide_eq_true (p:=¬((ofV q.v s s).2=0/\belongP q.kind part/\(rvP r/\¬(r.x0=0/\r.y0=0/\r.x1=0/\r.y1=0))/\0<=r.x0/\0<=r.y0/\r.x1<=128/\r.y1<=128)) (by (first|omega|(simp_all;done)|(intro h_;obtain ⟨h1,h2,h3,h4,h5,h6,h7⟩:=h_;first|omega|contradiction|(exact absurd h3.1 ‹_›)|simp_all)|(simp_all<;>omega)))).symm)),trivial⟩,sA⟩,b0,trivial⟩) fun q0=>gOO b0 5 [1] rfl<|sD 47 (r.y0<0) (fun r0=>jOI 10 rfl<|⟨(),⟨⟨(Eq.trans (b:= .bool true) kr (congrArg Value.bool (decide_eq_true (p:=¬((ofV q.v s s).2=0/\belongP q.kind part/\(rvP r/\¬(r.x0=0/\r.y0=0/\r.x1=0/\r.y1=0))/\0<=r.x0/\0<=r.y0/\r.x1<=128/\r.y1<=128)) (by (first|omega|(simp_all;done)|(intro h_;obtain ⟨h1,h2,h3,h4,h5,h6,h7⟩:=h_;first|omega|contradiction|(exact absurd h3.1 ‹_›)|simp_all)|(simp_all<;>omega)))).symm)),trivial⟩,sA⟩,b0,trivial⟩) fun r0=>?_
  exact gOO b0 5 [1] rfl<|sD 52 (r.x1>128) (fun s0=>jOI 5 rfl<|⟨(),⟨⟨(Eq.trans (b:= .bool true) kr (congrArg Value.bool (decide_eq_true (p:=¬((ofV q.v s s).2=0/\belongP q.kind part/\(rvP r/\¬(r.x0=0/\r.y0=0/\r.x1=0/\r.y1=0))/\0<=r.x0/\0<=r.y0/\r.x1<=128/\r.y1<=128)) (by (first|omega|(simp_all;done)|(intro h_;obtain ⟨h1,h2,h3,h4,h5,h6,h7⟩:=h_;first|omega|contradiction|(exact absurd h3.1 ‹_›)|simp_all)|(simp_all<;>omega)))).symm)),trivial⟩,sA⟩,b0,trivial⟩) fun s0=>gOI b0 5 [1] rfl<|⟨(),⟨⟨(Eq.trans (b:= .bool (decide (r.y1>128))) kr (congrArg Value.bool (by rw [Bool.eq_iff_iff];simp only [decide_eq_true_eq,beq_iff_eq,bne_iff_ne,ne_eq,Bool.not_eq_true',decide_eq_false_iff_not,gt_iff_lt,ge_iff_le,Bool.and_eq_true,Bool.or_eq_true,Bool.not_eq_eq_eq_not,Bool.not_true,Bool.and_eq_false_imp,beq_eq_false_iff_ne]<;>(first|omega|(simp_all;done)|(simp_all<;>omega)|(constructor<;>intro h_<;>simp_all<;>omega))))),trivial⟩,sA⟩,b0,trivial⟩
 rintro _ ρ _ ⟨i0,_⟩
 refine cD (¬((ofV q.v s s).2=0/\belongP q.kind part/\(rvP r/\¬(r.x0=0/\r.y0=0/\r.x1=0/\r.y1=0))/\0<=r.x0/\0<=r.y0/\r.x1<=128/\r.y1<=128)) (fun g0=>jCR 7 rfl<|retT [I 0]<|(by have t0:=(i0.drops [0,0,0,0]);have hz:scrV q.v s part r=0:=scr_no (fun h=>g0 ⟨h.1,h.2.1,⟨by have:=h.2.2;unfold inP at this;unfold rvP cooP;omega,by have:=h.2.2;unfold inP at this;omega⟩,by have:=h.2.2;unfold inP at this;omega⟩);exact ⟨by rw [hz];rfl,t0⟩)) fun g0=>jCC 3 rfl ?_
 obtain ⟨M0,O0,N0,W0⟩:=Classical.not_not.1 g0
 have K0:=N0.1;have U0:=N0.2;unfold rvP cooP at K0;have G0:inP r:=by unfold inP;omega
 have hk:=of_bytOK M0;have V0:=cells_bd (h:=s.h) hk G0;have H0:=hk;unfold bytOK at H0;simp only [Stage.v] at H0;have L0:=w0;rw [L0] at H0;have S0:=G0;unfold inP at S0;have hr:=G0
 refine drawF i0 [] (fb 1 1 2 1<|fb 3 1 0 1<|fb 6 1 3 1<|fb 8 1 1 1<|fn) [0,2,5,7,1,3,4,10,6,8,9,11] fun _ a0=>wV 4<|wL 0<|wL 1<|wSub r.x1 r.x0<|wV 1<|wL 2<|wL 3<|wSub r.y1 r.y0<|wV 1<|wN<|jXC 6 rfl<|cutF a0 0 [] (γ:=Unit) (fun _ R=>⟨[(13,I (cellsV q.v s.h r))],R,0,True⟩) ?_ ?_
 rotate_left
 · exact (by rintro _ ρ _ ⟨u0,_⟩;exact jCO 3 rfl<|sMul 8 (cellsV q.v s.h r)<|cS (r1_align (8*(cellsV q.v s.h r)) 16 1099511627776 (od) u0.flat) fun _ v0=>jOR 14 rfl<|retT [I (alnX (8*(cellsV q.v s.h r)) 16 1099511627776)]<|⟨by unfold scrV;rw [if_pos ⟨M0,O0,G0⟩];unfold bytV;rw [<-aln_ok (l:=1099511627776) om om];rfl,(v0.drops [0,0,0,0])⟩)
 refine gCC a0 13 [3] rfl<|cE q.kind 1 (fun z0=>gCO a0 4 [3] rfl<|sAdd (r.x1-r.x0) q.kW<|sSub ((r.x1-r.x0)+q.kW) 1<|gOO a0 3 [3] rfl<|sAdd (r.y1-r.y0) q.kH<|sSub ((r.y1-r.y0)+q.kH) 1<|(by have P0:=mul_bd (a:=(((r.x1-r.x0)+q.kW)-1)) (b:=(((r.y1-r.y0)+q.kH)-1)) (A:=300) (B:=300) om om;exact sMul (((r.x1-r.x0)+q.kW)-1) (((r.y1-r.y0)+q.kH)-1)<|jOI 3 rfl<|⟨(),⟨⟨(Eq.trans (b:=I ((((r.x1-r.x0)+q.kW)-1)*(((r.y1-r.y0)+q.kH)-1))) kr (congrArg (fun z=>Value.int .i64 z) (show ((((r.x1-r.x0)+q.kW)-1)*(((r.y1-r.y0)+q.kH)-1))=cellsV q.v s.h r from by unfold cellsV;rw [if_pos (show q.v.kind=1 from by simp only [Stage.v];omega)];rfl))),trivial⟩,sA⟩,a0,trivial⟩)) fun z0=>jCC 6 rfl<|cE q.kind 2 (fun a1=>gCO a0 6 [3] rfl<|sAdd (r.y1-r.y0) (q.col.n:Int)<|sSub ((r.y1-r.y0)+(q.col.n:Int)) 1<|(by have Q0:=mul_bd (a:=(r.x1-r.x0)) (b:=(((r.y1-r.y0)+(q.col.n:Int))-1)) (A:=300) (B:=300) om om;exact sMul (r.x1-r.x0) (((r.y1-r.y0)+(q.col.n:Int))-1)<|jOI 3 rfl<|⟨(),⟨⟨(Eq.trans (b:=I ((r.x1-r.x0)*(((r.y1-r.y0)+(q.col.n:Int))-1))) kr (congrArg (fun z=>Value.int .i64 z) (show ((r.x1-r.x0)*(((r.y1-r.y0)+(q.col.n:Int))-1))=cellsV q.v s.h r from by unfold cellsV;rw [if_neg (show ¬q.v.kind=1 from by simp only [Stage.v];omega),if_pos (show q.v.kind=2 from by simp only [Stage.v];omega),show q.v.col.length=q.col.n from L0]))),trivial⟩,sA⟩,a0,trivial⟩)) fun a1=>jCC 6 rfl<|cE q.kind 3 (fun b1=>gCO a0 9 [1803,2,1,1] rfl<|cZ (r16_rows q s.h r.y0 r.y1 (hq.of_mem (mF 4)) a0.flat)<|(by rintro _ _ ⟨_,d0,_,_,rfl,e0,c1⟩;have d1:=c1.unflat1;have F0:=e0.len;have B0:=e0.le;exact pu1<|(by have X0:=need_len (s:=q.v) (n:=s.h) (a:=r.y0) (b:=r.y1) (size:=if q.v.kind=2 then q.v.col.length else q.v.kH) (t:=q.v.y);have T0:=(e0).len;unfold rowsV at T0;have R0:=mul_bd (a:=(r.x1-r.x0)) (b:=(d0:Int)) (A:=300) (B:=300) om om;exact sMul (r.x1-r.x0) (d0:Int)<|jOI 3 rfl<|⟨(),⟨⟨(Eq.trans (b:=I ((r.x1-r.x0)*(d0:Int))) kr (congrArg (fun z=>Value.int .i64 z) (show ((r.x1-r.x0)*(d0:Int))=cellsV q.v s.h r from by unfold cellsV;rw [if_neg (show ¬q.v.kind=1 from by simp only [Stage.v];omega),if_neg (show ¬q.v.kind=2 from by simp only [Stage.v];omega),if_pos (show q.v.kind=3 from by simp only [Stage.v];omega),((e0).len)]))),trivial⟩,sA⟩,(d1.dropAt 0 rfl),trivial⟩))) fun b1=>?_
 exact jCC 6 rfl<|cE q.kind 4 (fun f1=>gCI a0 6 [3] rfl<|⟨(),⟨⟨(Eq.trans (b:=I q.bins) kr (congrArg (fun z=>Value.int .i64 z) (show q.bins=cellsV q.v s.h r from by unfold cellsV;rw [if_neg (show ¬q.v.kind=1 from by simp only [Stage.v];omega),if_neg (show ¬q.v.kind=2 from by simp only [Stage.v];omega),if_neg (show ¬q.v.kind=3 from by simp only [Stage.v];omega),if_pos (show q.v.kind=4 from by simp only [Stage.v];omega)];rfl))),trivial⟩,sA⟩,a0,trivial⟩) fun f1=>jCC 6 rfl<|CE q.kind 5 (fun g1=>jCI 5 rfl<|⟨(),⟨⟨(Eq.trans (b:=I (r.x1-r.x0)) kr (congrArg (fun z=>Value.int .i64 z) (show (r.x1-r.x0)=cellsV q.v s.h r from by unfold cellsV;rw [if_neg (show ¬q.v.kind=1 from by simp only [Stage.v];omega),if_neg (show ¬q.v.kind=2 from by simp only [Stage.v];omega),if_neg (show ¬q.v.kind=3 from by simp only [Stage.v];omega),if_neg (show ¬q.v.kind=4 from by simp only [Stage.v];omega),if_neg (show ¬q.v.kind=5 from by simp only [Stage.v];omega)]))),trivial⟩,sA⟩,a0,trivial⟩) fun g1=>jCO 3 rfl<|sAdd (r.x1-r.x0) (r.y1-r.y0)<|sAdd ((r.x1-r.x0)+(r.y1-r.y0)) 1<|jOI 3 rfl<|⟨(),⟨⟨(Eq.trans (b:=I (((r.x1-r.x0)+(r.y1-r.y0))+1)) kr (congrArg (fun z=>Value.int .i64 z) (show (((r.x1-r.x0)+(r.y1-r.y0))+1)=cellsV q.v s.h r from by unfold cellsV;rw [if_neg (show ¬q.v.kind=1 from by simp only [Stage.v];omega),if_neg (show ¬q.v.kind=2 from by simp only [Stage.v];omega),if_neg (show ¬q.v.kind=3 from by simp only [Stage.v];omega),if_neg (show ¬q.v.kind=4 from by simp only [Stage.v];omega),if_pos (show q.v.kind=5 from by simp only [Stage.v];omega)]))),trivial⟩,sA⟩,a0,trivial⟩
theorem tapsCode_side {l:List TapV} {n:Int} (h:tapsCode l n=0):1<=(l.length:Int)/\(l.length:Int)<=128:=by
  unfold tapsCode at h
  split at h
  · omega
  · omega
theorem ofV_sz {q:StageV} {s t:Shape} (h:(ofV q s t).2=0):szP (ofV q s t).1:=by
 unfold ofV at h⊢
 split at h
 ·rename_i h1
  rw [if_pos h1]
  split at h
  ·rename_i h2
   rw [if_pos h2]
   split at h
   ·rename_i h3
    rw [if_pos h3]
    split at h
    ·rename_i h4
     rw [if_pos h4]
     have hs:=h2.1
     unfold szP at hs
     clear h h1 h2 h3
     unfold kernelV at h4⊢
     split at h4
     · exact (by rename_i k;rw [if_pos k];unfold convCode at h4;unfold szP;(repeat' split at h4)<;>first|(dsimp only;omega)|(exfalso;simp at h4;done)|(exfalso;omega))
     ·rename_i k1;rw [if_neg k1]
      split at h4
      · exact (by rename_i k;rw [if_pos k];unfold sepCode at h4;unfold szP;(repeat' split at h4)<;>first|(dsimp only;omega)|(exfalso;simp at h4;done)|(exfalso;omega))
      ·rename_i k2;rw [if_neg k2]
       split at h4
       ·rename_i k;rw [if_pos k];unfold resCode at h4;unfold szP
        split at h4
        ·rename_i e1;split at h4
         · exact (by rename_i e2;have l1:=tapsCode_side e1;have l2:=tapsCode_side e2;(repeat' split at h4)<;>first|(dsimp only;omega)|(exfalso;simp at h4;done)|(exfalso;omega))
         ·rename_i e2;exact absurd h4 e2
        ·rename_i e1;exact absurd h4 e1
       ·rename_i k3;rw [if_neg k3]
        split at h4
        ·rename_i k;rw [if_pos k];unfold szP
         split at h4
         · exact (by rename_i k5;rw [if_pos k5];have:=mul_bd (a:=s.w-1) (b:=s.h-1) (A:=s.w-1) (B:=s.h-1) om om;have e:(s.w-1)*(s.h-1)=s.w*s.h-s.w-s.h+1:=(by rw [Int.sub_mul,Int.mul_sub];omega);dsimp only;omega)
         ·exfalso;simp at h4
        ·rename_i k4;rw [if_neg k4]
         split at h4
         ·rename_i k;rw [if_pos k];unfold szP
          split at h4
          · exact (by rename_i k5;rw [if_pos k5];have h6:=of_decide_eq_true k5;have h7:mostV s.w s.h s.max_=s.w*s.h*s.max_:=(by unfold mostV;rw [if_pos k5]);have h8:0<s.w*s.h:=Int.mul_pos om om;have h9:0<s.w*s.h*s.max_:=Int.mul_pos h8 om;dsimp only;rw [h7];omega)
          ·exfalso;simp at h4
         ·rename_i k5;rw [if_neg k5];unfold szP
          split at h4
          ·rename_i k6;rw [if_pos k6];unfold pwCode at k6
           split at h4
           ·exfalso;simp at h4
           ·rename_i k7;rw [if_neg k7]
            split at k6
            ·split at k6
             ·dsimp only;omega
             ·exfalso;omega
            ·exfalso;rename_i k8;exact k8 k6
          ·rename_i k6;exact absurd h4 k6
    ·rename_i h4;exact absurd h h4
   ·exfalso;simp at h
  ·exfalso;simp at h
 ·exfalso;simp at h
def upFrom:Int->Nat->List Int
  |_,0=>[]
  |k,n+1=>k::upFrom (k+1) n
theorem mem_upFrom:∀{n:Nat} {k x:Int},x∈upFrom k n↔k<=x/\x<k+n
  |0,k,x=>by simp [upFrom];try omega
  |n+1,k,x=>by
    simp only [upFrom,List.mem_cons,mem_upFrom (n:=n)]
    omega
theorem upFrom_snoc:∀{n:Nat} {k:Int},upFrom k n++[k+n]=upFrom k (n+1)
  |0,k=>by simp [upFrom]
  |n+1,k=>by
    have h:=upFrom_snoc (n:=n) (k:=k+1)
    rw [upFrom,List.cons_append,upFrom]
    congr 1
    rw [<-h]
    congr 2
    omega
def ordered (ni:Int) (S:List StageV):Prop:=∀(m:Nat) (s:StageV),S[m]?=some s->∀x∈srcs s,0<=x/\x<ni+m
theorem pick_up {ni:Int} {S:List StageV} (ho:ordered ni S) {m:Nat} (hm:m<S.length):∀(d i:Nat),i+d=m->ordPick ni (upFrom ni m) (S.drop i) i=ni+m
 |0,i,h=>by
  have hi:i<S.length:=by omega
  rw [List.drop_eq_getElem_cons hi,ordPick,if_pos]
  ·omega
  ·have h1:¬(ni+(i:Int))∈upFrom ni m:=by rw [mem_upFrom];omega
   have h2:ordOK ni (upFrom ni m) S[i]=true:=(by unfold ordOK;rw [List.all_eq_true];intro x hx;have:=ho i S[i] (List.getElem?_eq_getElem hi) x hx;refine decide_eq_true ?_;rw [mem_upFrom];omega)
   simp [h1,h2]
 |d+1,i,h=>by
  have hi:i<S.length:=by omega
  have ih:=pick_up ho hm d (i+1) om
  rw [List.drop_eq_getElem_cons hi,ordPick,if_neg]
  ·exact ih
  · exact (by have h1:(ni+(i:Int))∈upFrom ni m:=(by rw [mem_upFrom];omega);simp [h1])
theorem ordGo_up {ni:Int} {S:List StageV} (hn:0<=ni) (ho:ordered ni S):∀(k m:Nat),m+k=S.length->ordGo ni S k (upFrom ni m)=some (upFrom ni S.length)
  |0,m,h=>by rw [ordGo,<-h];rfl
  |k+1,m,h=>by
    have hp:=pick_up ho (show m<S.length by omega) m 0 (by omega)
    rw [List.drop_zero] at hp
    have hp2:ordPick ni (upFrom ni m) S 0=ni+m:=hp
    rw [ordGo,hp2,if_neg (by omega),upFrom_snoc]
    exact ordGo_up hn ho k (m+1) (by omega)
def stOf (out:List Shape) (s:StageV):Shape×Int:=ofV s (shpAt out s.a) (if twoP s then shpAt out s.b else ⟨0,0,0⟩)
def runS:List Shape->List StageV->Option (List Shape)
  |out,[]=>some out
  |out,s::l=>if (stOf out s).2=0 then runS (out++[(stOf out s).1]) l else none
theorem runS_app:∀(S T:List StageV) (out l:List Shape),runS out S=some l->runS out (S++T)=runS l T
  |[],T,out,l,h=>by simp only [runS,Option.some.injEq] at h;subst h;rfl
  |s::S,T,out,l,h=>by
    rw [List.cons_append,runS]
    rw [runS] at h
    split at h
    · exact (by rename_i hc;rw [if_pos hc];exact runS_app S T _ l h)
    · cases h
theorem runS_sz:∀(S:List StageV) (out l:List Shape),(∀x∈out,szP x)->runS out S=some l->(∀x∈l,szP x)/\l.length=out.length+S.length
  |[],out,l,ho,h=>by simp only [runS,Option.some.injEq] at h;subst h;exact ⟨ho,by simp⟩
  |s::S,out,l,ho,h=>by
    rw [runS] at h
    split at h
    · rename_i hc
      have h2:=runS_sz S _ l (fun x hx=>by
        rcases List.mem_append.1 hx with h1|h1
        · exact ho x h1
        · simp only [List.mem_singleton] at h1;rw [h1];exact ofV_sz hc) h
      exact ⟨h2.1,(by rw [h2.2];simp;omega)⟩
    · cases h
theorem shpAt_app {out z:List Shape} {i:Int} (h0:0<=i) (h:i<out.length):shpAt (out++z) i=shpAt out i:=by
  unfold shpAt
  rw [List.getElem?_append_left (by omega)]
theorem shpGo_run {ni : Nat} {S : List StageV} (ho : ordered ni S) : ∀ (T : List StageV) (m : Nat) (cur : List Shape), S.drop m = T -> cur.length = ni + m ->
  (∀ l, runS cur T = some l -> shpGo ni S (upFrom (ni + m) T.length) (cur ++ List.replicate T.length ⟨0, 0, 0⟩) = (l, 0, 0)) /\
  (runS cur T = none -> (shpGo ni S (upFrom (ni + m) T.length) (cur ++ List.replicate T.length ⟨0, 0, 0⟩)).2.2 ≠ 0)
 | [], m, cur, hd, hc => by
  exact ⟨fun l h => (by simp only [runS, Option.some.injEq] at h; subst h; simp [upFrom, shpGo]), fun h => by cases h⟩
 | s :: T, m, cur, hd, hc => by
  have hm : m < S.length := (by have := congrArg List.length hd; simp at this; omega)
  have hs : S[m]? = some s := (by rw [List.drop_eq_getElem_cons hm] at hd; rw [List.getElem?_eq_getElem hm]; exact congrArg some (List.cons.inj hd).1)
  have hT : S.drop (m + 1) = T := (by rw [List.drop_eq_getElem_cons hm] at hd; exact (List.cons.inj hd).2)
  have hsrc := ho m s hs
  have ha : 0 <= s.a /\ s.a < (ni : Int) + m := hsrc s.a (by unfold srcs; split <;> simp)
  have hb : twoP s -> 0 <= s.b /\ s.b < (ni : Int) + m := fun h => hsrc s.b (by unfold srcs; rw [if_pos h]; simp)
  have hstg : stgAt S ni ((ni : Int) + m) = s := (by unfold stgAt; rw [show ((ni : Int) + m - ni).toNat = m by omega, hs]; rfl)
  have hst : shpStep ni S ((ni : Int) + m) (cur ++ List.replicate (T.length + 1) ⟨0, 0, 0⟩) = stOf cur s := by
   unfold shpStep stOf
   rw [hstg, shpAt_app ha.1 om]
   by_cases h : twoP s
   ·rw [if_pos h, if_pos h, shpAt_app (hb h).1 (by have := (hb h).2; omega)]
   ·rw [if_neg h, if_neg h]
  simp only [List.length_cons, upFrom, shpGo, hst]
  by_cases a0 : (stOf cur s).2 = 0
  ·rw [if_pos a0]
   have b0 : (cur ++ List.replicate (T.length + 1) (⟨0, 0, 0⟩ : Shape)).set ((ni : Int) + m).toNat (stOf cur s).1 = (cur ++ [(stOf cur s).1]) ++ List.replicate T.length ⟨0, 0, 0⟩ := (by rw [List.set_append_right _ _ om, show ((ni : Int) + m).toNat - cur.length = 0 by omega, List.replicate_succ, List.set_cons_zero]; simp)
   rw [b0]
   have ih := shpGo_run ho T (m + 1) (cur ++ [(stOf cur s).1]) hT (by simp; omega)
   rw [show ((ni : Int) + ((m + 1 : Nat) : Int)) = (ni : Int) + m + 1 by omega] at ih
   refine ⟨fun l h => ih.1 l ?_, fun h => ih.2 ?_⟩
   ·rw [runS, if_pos a0] at h; exact h
   ·rw [runS, if_pos a0] at h; exact h
  · exact (by rw [if_neg a0]; exact ⟨fun l h => (by rw [runS, if_neg a0] at h; cases h), fun _ => a0⟩)
def jobOf (I:List PlaneV) (S:List StageV) (p:Int):JobV:=⟨I,S,[0],p⟩
structure Good (I:List PlaneV) (S:List StageV) (p:Int):Prop where
  pl:I.all planeOK=true
  ni:1<=I.length/\I.length<=2
  ns:S.length<=8
  pr:0<=p/\p<4
  od:ordered I.length S
theorem shp_run {I:List PlaneV} {S:List StageV} {p:Int} (h:Good I S p) (h1:1<=S.length):
  (∀l,runS (I.map shpOf) S=some l->shpV (jobOf I S p)=(l,0,0))/\(runS (I.map shpOf) S=none->(shpV (jobOf I S p)).2.2≠0):=by
 have a0:chkCode (jobOf I S p)=0:=by
  unfold chkCode jobOf
  dsimp only
  have hn:=h.ni;have hs:=h.ns;have hp:=h.pr
  rw [if_pos (by simp only [List.length_singleton];omega),if_pos hp,if_pos,if_pos]
  ·unfold inR;simp;omega
  · exact (by rw [List.all_eq_true];intro s hs2;obtain ⟨m,hm⟩:=List.getElem?_of_mem hs2;unfold inR;rw [List.all_eq_true];intro x hx;have:=h.od m s hm x hx;have c0:m<S.length:=(List.getElem?_eq_some_iff.1 hm).1;exact decide_eq_true om)
 have b0:ordV (jobOf I S p)=(upFrom I.length S.length,0):=(by unfold ordV;rw [if_pos a0];have:=ordGo_up (ni:=I.length) om h.od S.length 0 om;dsimp only [jobOf];rw [show ([]:List Int)=upFrom I.length 0 from rfl,this])
 have hr:=shpGo_run (ni:=I.length) h.od S 0 (I.map shpOf) (by simp) (by simp)
 have hv:shpV (jobOf I S p)=shpGo I.length S (upFrom I.length S.length) (I.map shpOf++List.replicate S.length ⟨0,0,0⟩):=(by unfold shpV;rw [b0,if_pos rfl];show (if I.all planeOK=true then _ else _)=_;rw [if_pos h.pl];rfl)
 rw [hv]
 simpa using hr
theorem shpOf_sz {I:List PlaneV} (h:I.all planeOK=true):∀x∈I.map shpOf,szP x:=by
  intro x hx
  obtain ⟨q,hq,rfl⟩:=List.mem_map.1 hx
  have h1:=List.all_eq_true.1 h q hq
  unfold planeOK at h1
  rw [Bool.and_eq_true] at h1
  have h2:=(of_decide_eq_true h1.1).1
  unfold sizeP at h2
  unfold szP shpOf
  exact h2
def safe (a:Int):StageV:=⟨6,a,-1,false,0,0,0,0,[],[],[],0,0,[],[],0,[⟨0,0⟩],255⟩
theorem ofV_safe {a:Int} {s:Shape} (hs:szP s):(ofV (safe a) s ⟨0,0,0⟩).2=0:=by
 have hf:fieldsP (safe a):=by unfold fieldsP safe;simp
 have ht:¬twoP (safe a):=by unfold twoP safe;simp
 have e0:=hs
 unfold szP at hs
 have a0:opsCode (safe a).ops false=0/\opsCode (safe a).ops true=0:=by constructor<;>rfl
 have b0:nextOK ⟨0,0⟩ (ivX ⟨0,0⟩ []) (ivY ⟨0,0⟩ []) s.max_ 1:=(by unfold nextOK nextB nextV;rw [if_neg (by decide),if_pos rfl];refine ⟨rfl,by dsimp only;omega,by dsimp only;omega⟩)
 have c0:(ivRes (safe a).ops s.max_ 1).2.2=0:=(by unfold ivRes;rw [if_pos a0.2,if_pos om];have:ivGo s.max_ 1 (safe a).ops []=some ([]++[nextV ⟨0,0⟩ (ivX ⟨0,0⟩ []) (ivY ⟨0,0⟩ []) s.max_ 1]):=(by show ivGo s.max_ 1 [⟨0,0⟩] []=_;rw [ivGo,if_pos b0];rfl);rw [this])
 have d0:pwCode (safe a).ops (decide ((safe a).kind=6/\¬(safe a).b=-1)) s.max_ 0 (safe a).max_=0:=(by have hd:decide ((safe a).kind=6/\¬(safe a).b=-1)=false:=decide_eq_false (by unfold safe;simp);rw [hd];unfold pwCode;rw [if_pos a0.1,if_pos (by unfold safe;simp)];simpa using c0)
 have hk:(kernelV (safe a) s ⟨0,0,0⟩).2=0:=(by unfold kernelV;rw [if_neg (by unfold safe;simp),if_neg (by unfold safe;simp),if_neg (by unfold safe;simp),if_neg (by unfold safe;simp),if_neg (by unfold safe;simp),if_pos d0,if_neg (by unfold safe;simp)])
 unfold ofV
 rw [if_pos hf,if_pos ⟨e0, .inl ht⟩,if_pos (.inl (by unfold safe;simp)),if_pos hk]
theorem shpAt_sz {out:List Shape} {i:Int} (h:∀x∈out,szP x) (h0:0<=i) (h1:i<out.length):szP (shpAt out i):=by
  have hi:i.toNat<out.length:=by omega
  unfold shpAt
  rw [List.getElem?_eq_getElem hi]
  exact h _ (List.getElem_mem hi)
theorem ordered_snoc {ni:Int} {S:List StageV} {s:StageV} (h:ordered ni S) (hs:∀x∈srcs s,0<=x/\x<ni+S.length):ordered ni (S++[s]):=by
  intro m t ht
  by_cases hm:m<S.length
  · exact (by rw [List.getElem?_append_left hm] at ht;exact h m t ht)
  · rw [List.getElem?_append_right (by omega)] at ht
    have a0:m-S.length=0:=by
      by_cases h0:m-S.length=0
      · exact h0
      · rw [List.getElem?_eq_none (by simp;omega)] at ht;cases ht
    rw [a0] at ht
    simp at ht
    subst ht
    intro x hx
    have:=hs x hx
    omega
theorem Good.snoc {I:List PlaneV} {S:List StageV} {p:Int} {s:StageV} (h:Good I S p) (hl:S.length+1<=8) (hs:∀x∈srcs s,0<=x/\x<(I.length:Int)+S.length):Good I (S++[s]) p:=
  ⟨h.pl,h.ni,by simp;omega,h.pr,ordered_snoc h.od hs⟩
theorem good_safe {I:List PlaneV} {S:List StageV} {p:Int} {l:List Shape} {a:Int} (h:Good I S p) (hr:runS (I.map shpOf) S=some l) (ha:0<=a/\a<(I.length:Int)+S.length):∃l',runS (I.map shpOf) (S++[safe a])=some l':=by
  have h2:=runS_sz S _ l (shpOf_sz h.pl) hr
  rw [runS_app S [safe a] _ l hr,runS]
  have a0:(stOf l (safe a)).2=0:=(by unfold stOf;rw [if_neg (by unfold twoP safe;simp)];refine ofV_safe (shpAt_sz h2.1 ha.1 ?_);show a<_;have:=h2.2;simp at this;omega)
  rw [if_pos a0]
  exact ⟨_,rfl⟩
end Go.Proofs.YtghcddbhllkbmaaGreat
