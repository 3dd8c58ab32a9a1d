import Derived.Test.YtmlhcafjelkjfaaGreatP3Ab
import Derived.WalkKit
import Derived.Deep.Quiet
import Derived.KernelRfl
import Derived.Laws.BytesString
import Derived.Laws.Shifts
import Derived.Laws.IdiomStrings
import Derived.Test.YtmlhcafjelkjfaaGreatProg
import Derived.Test.YtmlhcafjelkjfaaGreatP3Gr2
import Derived.Test.YtmlhcafjelkjfaaGreatP3Tq
import Derived.Test.YtmlhcafjelkjfaaGreatP3Good
namespace Go.Proofs.YtmlhcafjelkjfaaGreat
open Go Go.E Go.Proofs.Tryz
set_option linter.all false
set_option maxRecDepth 100000
set_option maxHeartbeats 2000000
variable {W w:World} {H:Chunk} {F:List Chunk}
def planeB (q:Plane):Prop:=q.pix.l.length<=64/\∀z∈q.pix.l,numB z
theorem tg_weights {p:Nat} {a:Option Addr} {n k:Nat} {i:Int} {xs:List Int} (hR:RdT Go.E.encI 1 [H] a n k xs) (hi:0<=i/\i<=n) (hS:Sat W w ([(p, .cells #[.slice a n k,I i] 81 (0,0))]::H::F)) (m0:Int) (hm:m0<=64):
  Calls prog 71 #[Pt p 0,I m0] w fun e w'=>∃(az:Option Addr) (nz:Nat) (kz:Nat) (zs:List Int) (G:Chunk),e= .returned (.slice az nz kz)/\(RdT Go.E.encI 1 [G] az nz kz zs)/\((zs.length:Int)=max m0 0/\∀z∈zs,numB z)/\∃i':Int,(0<=i'/\i'<=n)/\Sat W w' ([(p, .cells #[.slice a n k,I i'] 81 (0,0))]::G::H::F):=by
 have hle:=hR.le
 refine callsA 22 func71 rfl<|sR<|pu1<|zS<|pu1<|zQ<|pu1<|nT<|blockE ?_
 have d0:=Sat.nilc hS
 refine loopA (γ:=Nat×Int×(List Int)×(Option Addr)×Nat×Nat×Chunk) (fun ⟨i,iti,zs,azs,nzs,kzs,czs⟩=>[(0,Pt p 0),(1,I m0),(6,I (i:Int)),(5, .slice azs nzs kzs)]) (fun ⟨i,iti,zs,azs,nzs,kzs,czs⟩ w=>Sat W w (czs::[(p, .cells #[.slice a n k,I iti] 81 (0,0))]::H::F)/\i<=m0.toNat/\(∀z∈zs,numB z)/\(zs.length=i)/\(0<=iti/\iti<=n)/\OwnT Go.E.encI 3 1 azs nzs kzs zs czs) (fun ⟨i,iti,zs,azs,nzs,kzs,czs⟩=>m0.toNat-i) (0,i,[],none,0,0,[]) ⟨d0,om,(by intro z hz;cases hz),by rfl,om,(OwnT.nil (enc:=Go.E.encI) (E:=3) (sz:=1) fR)⟩ ?_
 rintro ⟨i,iti,zs,azs,nzs,kzs,czs⟩ ρ _ ⟨c0,hi,hB,hzl,hiti,hOzs⟩
 have hn_zs:=hOzs.len;have hl_zs:=hOzs.le
 refine seqE<|sR<|pu3<|nT<|cD ((i:Int)<m0) (fun f0=>?_) (fun f0=>?_)
 rotate_left
 ·exact exitE<|xB<|tN<|sR<|pu2<|zE<|retT [.slice azs nzs kzs]<|⟨_,_,_,zs,czs,rfl,(hOzs.rdAt (cs:=[czs]) 0 rfl),⟨om,hB⟩,_,om,(c0.pick 1 rfl)⟩
 refine kT<|seqE<|blockE<|rE<|pu3 ?_
 have h0:=(c0.pick 1 rfl)
 refine cX call15 (tape_next (RdT.flat (hR.up 1 (by rfl))) om h0.flat1 41 om) ?_
 rintro _ _ ⟨b0,rfl,_,_,_,i0⟩
 have j0:=i0.unflat1
 refine sSub b0 20<|sBS j0 #[I 1,I 2,I (-1),I 0,I (b0-20),I 5] runUnderlying22 sizeOf3 zeroValue3 fun _ _ k0=>?_
 have l0:=(k0.pick 1 rfl)
 refine cX call42 (tape_pick (RdT.flat (hR.up 2 (by rfl))) om l0.flat1 (RdT.flat (RdT.blk (enc:=Go.E.encI) (sz:=1) (xs:=[1,2,-1,0,(b0-20),5]) (fun _=>(by rfl)) 6 0 rfl rfl rfl om)) om om) ?_
 rintro _ _ ⟨a0,rfl,n0,o0,_,p0⟩
 have q0:=p0.unflat1
 have h1:(a0:Int)=1\/(a0:Int)=2\/(a0:Int)=(-1)\/(a0:Int)=0\/(a0:Int)=(b0-20)\/(a0:Int)=5:=by simpa using n0
 refine sBS q0 #[I a0] runUnderlying22 sizeOf3 zeroValue3 fun _ _ r0=>sApp (nb:=8) r0 hOzs 3 (RdT.blk (enc:=Go.E.encI) (sz:=1) (xs:=[a0]) fR 1 0 rfl rfl rfl om) underlying22 (i:=Tryz.t3) kr fR fun s0 t0 u0 _ v0 w0=>pu1<|nB<|rE<|pu1<|sAdd (i:Int) 1<|pu1<|nT ?_
 exact ⟨(i+1,o0,(zs++[a0]),s0,(nzs+1),t0,u0),od,alA,((w0.pick 3 rfl).drops [1,2]),om,mem_snoc hB (by unfold numB;omega),by simp;omega,om,v0⟩
theorem tg_edge {p:Nat} {a:Option Addr} {n k:Nat} {i:Int} {xs:List Int} (hR:RdT Go.E.encI 1 [H] a n k xs) (hi:0<=i/\i<=n) (hS:Sat W w ([(p, .cells #[.slice a n k,I i] 81 (0,0))]::H::F)) (mx:Int) (hmx:0<=mx/\mx<=4294967296):
  Calls prog 70 #[Pt p 0,I mx] w fun e w'=>∃(ep:Int) (ef:Int),e= .returned (.agg #[I ep,I ef])/\(numB ep/\numB ef)/\∃i':Int,(0<=i'/\i'<=n)/\Sat W w' ([(p, .cells #[.slice a n k,I i'] 81 (0,0))]::H::F):=by
 have hle:=hR.le
 refine callsA 20 func70 rfl ?_
 refine sR ?_
 refine sAlloc hS zeroValue49 ?_
 intro _ _ g0
 refine zS<|pu1 ?_
 have h0:=(g0.pick 1 rfl)
 refine cX call15 (tape_next (RdT.flat (hR.up 1 (by rfl))) om h0.flat1 4 om) ?_
 rintro _ _ ⟨a0,rfl,_,_,_,i0⟩
 have j0:=i0.unflat1
 refine pu1 ?_
 refine sAlloc j0 zeroValue49 ?_
 intro _ _ k0
 refine sTl k0 0 [I a0,I 0] sizeOf49 ?_
 intro _ c0
 refine zQ<|pu1 ?_
 refine sL c0 0 0 (I a0) (isAgg3 _) ?_
 refine pu1<|nT ?_
 refine cE a0 3 (fun l0=>?_) (fun l0=>?_)
 rotate_left
 ·refine kS ?_
  refine lA c0 0 0 2 (isAgg49 _) (sizeOf49 _) ?_
  refine sTl c0 2 [I a0,I 0] sizeOf49 ?_
  intro _ d0
  refine zE<|retN (vs:=[.agg #[I a0,I 0]]) rfl (.cons (.cell _ _ _ _ kr (lvA d0 2 0 [I a0,I 0] (isAgg49 _) (sizeOf49 _) rfl rfl rfl)) .nil) ?_
  exact ⟨a0,0,rfl,by unfold numB;omega,_,om,(d0.drops [0,1])⟩
 have hd:=tdiv_bd (a:=mx) (b:=2) (A:=4294967296) om om
 refine rE<|pu3 ?_
 refine sQuo mx 2 ?_
 refine sBS c0 #[I 0,I mx,I (mx.tdiv 2)] runUnderlying22 sizeOf3 zeroValue3 ?_
 intro _ _ n0
 have o0:=(n0.pick 2 rfl)
 refine cX call42 (tape_pick (RdT.flat (hR.up 3 (by rfl))) om o0.flat1 (RdT.flat (RdT.blk (enc:=Go.E.encI) (sz:=1) (xs:=[0,mx,(mx.tdiv 2)]) (fun _=>(by rfl)) 3 0 rfl rfl rfl om)) om om) ?_
 rintro _ _ ⟨b0,rfl,p0,_,_,q0⟩
 have r0:=q0.unflat1
 have i1:(b0:Int)=0\/(b0:Int)=mx\/(b0:Int)=(mx.tdiv 2):=by simpa using p0
 refine pu1 ?_
 refine sT r0 2 1 (I b0) [I b0] #[I a0,I b0] sizeOf3 ?_
 intro _ e0
 refine zS ?_
 refine lA e0 2 0 2 (isAgg49 _) (sizeOf49 _) ?_
 refine sTl e0 3 [I a0,I b0] sizeOf49 ?_
 intro _ f0
 refine zE<|retN (vs:=[.agg #[I a0,I b0]]) rfl (.cons (.cell _ _ _ _ kr (lvA f0 3 0 [I a0,I b0] (isAgg49 _) (sizeOf49 _) rfl rfl rfl)) .nil) ?_
 exact ⟨a0,b0,rfl,by unfold numB;omega,_,om,(f0.drops [1,1,1])⟩
theorem tg_sized {p:Nat} {a:Option Addr} {n k:Nat} {i:Int} {xs:List Int} (hR:RdT Go.E.encI 1 [H] a n k xs) (hi:0<=i/\i<=n) (hS:Sat W w ([(p, .cells #[.slice a n k,I i] 81 (0,0))]::H::F)) (w0:Int) (h0:Int) (hwh:(1<=w0/\w0<=8)/\1<=h0/\h0<=8):
  Calls prog 23 #[Pt p 0,I w0,I h0] w fun e w'=>∃(q:Plane) (G:Chunk),e= .returned (.agg (encPlane q).toArray)/\(Plane.Ok [G] q)/\(q.w=w0/\q.h=h0/\planeOK q.v=true/\planeB q)/\∃i':Int,(0<=i'/\i'<=n)/\Sat W w' ([(p, .cells #[.slice a n k,I i'] 81 (0,0))]::G::H::F):=by
 have hle:=hR.le
 have hwh2:=mul_bd (a:=w0) (b:=h0) (A:=8) (B:=8) om om
 refine callsA 46 func23 rfl<|sR<|sAlloc hS zeroValue38 fun r0 _ a2=>nT<|cutA (γ:=Nat×Int×(Option Addr)×Chunk×Int) (fun ⟨b7,mx,a1,c1,itc⟩=>[(0,Pt p 0),(6,Pt r0 0),(7,Pt b7 0)]) (fun ⟨b7,mx,a1,c1,itc⟩ w=>Sat W w ([(p, .cells #[.slice a n k,I itc] 81 (0,0))]::[(b7, .cells #[I w0,I h0,I mx, .slice a1 (((w0*h0)).toNat) (((w0*h0)).toNat)] 38 (0,0))]::c1::[(r0, .cells #[I 0,I 0,I 0,nS] 38 (0,0))]::H::F)/\(0<=itc/\itc<=n)/\(1<=mx/\mx<=65535)/\OwnT Go.E.encI 3 1 a1 (((w0*h0)).toNat) (((w0*h0)).toNat) (List.replicate (((w0*h0)).toNat) 0) c1) ?_ ?_
 rotate_left
 ·rintro ⟨b7,mx,a1,c1,itc⟩ ρ _ ⟨b2,hitc,hmx,hO1⟩
  refine seqE<|sR<|pu1<|nT<|blockE ?_
  have c2:=(b2.pick 2 rfl)
  refine loopA (γ:=Nat×Int×(List Int)×(Option Addr)×Nat×Nat×Chunk) (fun ⟨i,iti,zs,azs,nzs,kzs,czs⟩=>[(0,Pt p 0),(6,Pt r0 0),(7,Pt b7 0),(8,I (i:Int))]) (fun ⟨i,iti,zs,azs,nzs,kzs,czs⟩ w=>Sat W w (czs::[(p, .cells #[.slice a n k,I iti] 81 (0,0))]::[(b7, .cells #[I w0,I h0,I mx, .slice azs nzs kzs] 38 (0,0))]::[(r0, .cells #[I 0,I 0,I 0,nS] 38 (0,0))]::H::F)/\i<=((w0*h0)).toNat/\(∀z∈zs,0<=z/\z<=mx)/\(zs.length=((w0*h0)).toNat)/\(0<=iti/\iti<=n)/\OwnT Go.E.encI 3 1 azs nzs kzs zs czs) (fun ⟨i,iti,zs,azs,nzs,kzs,czs⟩=>(((w0*h0)).toNat)-i) (0,itc,(List.replicate (((w0*h0)).toNat) 0),a1,((w0*h0)).toNat,((w0*h0)).toNat,c1) ⟨c2,om,(by intro z hz;have:=List.eq_of_mem_replicate hz;omega),by simp,om,hO1⟩ ?_
  rintro ⟨i,iti,zs,azs,nzs,kzs,czs⟩ ρ _ ⟨b0,hi,hB,hzl,hiti,hOzs⟩
  have hn_zs:=hOzs.len;have hl_zs:=hOzs.le
  refine seqE<|sR<|pu2<|sL b0 2 3 (.slice azs nzs kzs) (isAgg22 _)<|pu2<|nT<|cD ((i:Int)<(nzs:Int)) (fun d2=>?_) (fun d2=>?_)
  rotate_left
  ·refine exitE<|xB<|tN<|sR<|lA b0 2 0 4 (isAgg38 _) (sizeOf38 _)<|sTl b0 3 [I w0,I h0,I mx, .slice azs nzs kzs] sizeOf38 fun _ f1=>zE<|retN (vs:=[.agg #[I w0,I h0,I mx, .slice azs nzs kzs]]) rfl (.cons (.cell _ _ _ _ kr (lvA f1 3 0 [I w0,I h0,I mx, .slice azs nzs kzs] (isAgg38 _) (sizeOf38 _) rfl rfl rfl)) .nil) ?_
   have hpok:planeOK ⟨w0,h0,mx,zs⟩=true:=planeOK_t (p:=⟨w0,h0,mx,zs⟩) ⟨by unfold sizeP;dsimp only;omega,by dsimp only;omega⟩ (List.all_eq_true.2 (fun z hz=>decide_eq_true (hB z hz)))
   exact ⟨(⟨w0,h0,mx,⟨azs,nzs,kzs,zs⟩⟩:Plane),czs,rfl,⟨(hOzs.rdAt (cs:=[czs]) 0 rfl)⟩,⟨rfl,rfl,hpok,by dsimp only;omega,fun z hz=>by have:=hB z hz;unfold numB;omega⟩,_,om,((f1.pick 1 rfl).drops [2,2])⟩
  refine kT<|seqE<|blockE ?_
  obtain ⟨f2,g2,h2,g1,i2,h1,j2⟩:=OwnT.elem hOzs (i:Int)
  rw [Int.toNat_natCast] at g1 i2 h1
  refine drawE [8,13,16,17,19] [(1,⟨b7,3,none⟩, .slice azs nzs kzs),(6,⟨b7,2,none⟩,I mx),(11,⟨b7,2,none⟩,I mx),(15,⟨b7,2,none⟩,I mx)] [(true,[0,2,3,4,5,9,10,14]),(true,[1]),(true,[6]),(true,[7]),(true,[11]),(true,[12]),(true,[15]),(false,[8]),(false,[13]),(false,[16]),(false,[17]),(true,[18]),(false,[19])] rfl kr ⟨cI b0 2,cI b0 2,cI b0 2,cI b0 2,trivial⟩ ?_
  have k2:=b0.drew
  refine wU [0,2,3,4,5,9,10,14]<|wLd (.slice azs nzs kzs) 0 isAgg22<|wLd (I mx) 1 isAgg3<|wAdd mx 1<|wLd (I mx) 2 isAgg3<|wAdd mx 1<|wLd (I mx) 3 isAgg3<|wO rfl ?_
  have l2:=(k2.pick 1 rfl)
  refine cX call15 (tape_next (RdT.flat (hR.up 3 (by rfl))) om l2.flat1 (mx+1) om) ?_
  rintro _ _ ⟨v0,rfl,_,_,_,m2⟩
  have p0:=m2.unflat1
  refine nilO ⟨⟨cI p0 2,cI p0 2,cI p0 2,cI p0 2,trivial⟩,?_⟩
  refine wO rfl<|cX call15 (tape_next (RdT.flat (hR.up 3 (by rfl))) om p0.flat1 (mx+1) om) ?_
  rintro _ _ ⟨x0,rfl,_,_,_,n2⟩
  have q0:=n2.unflat1
  refine nilO ⟨⟨cI q0 2,cI q0 2,cI q0 2,cI q0 2,trivial⟩,?_⟩
  refine wO rfl<|sBS q0 #[I v0,I x0,I mx,I 0] runUnderlying22 sizeOf3 zeroValue3 fun _ _ s0=>nilO ⟨⟨cI s0 3,cI s0 3,cI s0 3,dI,trivial⟩,?_⟩
  refine wO rfl ?_
  have o2:=(s0.pick 1 rfl)
  refine cX call42 (tape_pick (RdT.flat (hR.up 4 (by rfl))) om o2.flat1 (RdT.flat (RdT.blk (enc:=Go.E.encI) (sz:=1) (xs:=[v0,x0,mx,0]) (fun _=>(by rfl)) 4 0 rfl rfl rfl om)) om om) ?_
  rintro _ _ ⟨c0,rfl,p2,q2,_,r2⟩
  have t0:=r2.unflat1
  have z7:(c0:Int)=v0\/(c0:Int)=x0\/(c0:Int)=mx\/(c0:Int)=0:=by simpa using p2
  refine nilO ⟨⟨cI t0 3,cI t0 3,cI t0 3,dI,trivial⟩,?_⟩
  refine wY (.pointer (some ⟨g2,h2+i*1,none⟩)) rfl (fun w _=>Y_idx (a:=azs) (i:=(i:Int)) (len:=nzs) (cap:=kzs) rfl runUnderlying22 sizeOf3 kr kr h1)<|wO rfl<|sStF t0 hOzs j2 2 i 0 f2 c0 g1 (I c0) [I c0] sizeOf3 fun _ s2 t2 u2=>nilO ⟨dA,?_⟩
  refine wN<|bN<|tN<|rE<|pu1<|sAdd (i:Int) 1<|pu1<|nT ?_
  exact ⟨(i+1,q2,(zs.set i c0),azs,nzs,kzs,s2),od,alA,((u2.pick 2 rfl).dropAt 2 rfl),om,mem_set hB om,by simp;omega,om,t2⟩
 refine drawP [3,4,8,10,11] [] (Plan.sts [0,1,2,5,6]<|Plan.sts [7]<| .f3 3 8 10 (.f3 4 8 10 (.fk 8 10 (Plan.sts [9]<| .ef 10<| .ef 11<| .fin) (.ef 8<|Plan.sts [9]<| .ef 11<| .fin)) (.fk 4 10 (Plan.sts [9]<| .ef 10<| .ef 11<| .fin) (.ef 4<|Plan.sts [9]<| .ef 11<| .fin)) (.fk 4 8 (.ef 8<|Plan.sts [9]<| .ef 11<| .fin) (.ef 4<|Plan.sts [9]<| .ef 11<| .fin))) (.fk 3 10 (.fk 4 10 (Plan.sts [9]<| .ef 10<| .ef 11<| .fin) (.ef 4<|Plan.sts [9]<| .ef 11<| .fin)) (.ef 3<| .ef 4<|Plan.sts [9]<| .ef 11<| .fin)) (.fk 3 8 (.fk 4 8 (.ef 8<|Plan.sts [9]<| .ef 11<| .fin) (.ef 4<|Plan.sts [9]<| .ef 11<| .fin)) (.ef 3<| .ef 4<|Plan.sts [9]<| .ef 11<| .fin))) rfl kr trivial ?_
 have y0:=a2.drew
 refine qU [0,1,2,5,6]<|qMul w0 h0<|qF3 ?_ ?_ ?_
 ·refine qO rfl<|sBS y0 #[I 255,I 255,I 65535,I 1,I 7] runUnderlying22 sizeOf3 zeroValue3 fun _ _ z0=>nilO ⟨trivial,?_⟩
  refine qF3 ?_ ?_ ?_
  ·refine qO rfl ?_
   have w2:=(z0.pick 2 rfl)
   refine cX call42 (tape_pick (RdT.flat (hR.up 2 (by rfl))) om w2.flat1 (RdT.flat (RdT.blk (enc:=Go.E.encI) (sz:=1) (xs:=[255,255,65535,1,7]) (fun _=>(by rfl)) 5 0 rfl rfl rfl om)) om om) ?_
   rintro _ _ ⟨a0,rfl,x2,i1,_,y2⟩
   have j1:=y2.unflat1
   have f8:(a0:Int)=255\/(a0:Int)=255\/(a0:Int)=65535\/(a0:Int)=1\/(a0:Int)=7:=by simpa using x2
   refine nilO ⟨trivial,?_⟩
   refine qF ?_ ?_
   ·refine qO rfl<|sMake (kl:= .i64) (kc:= .i64) (enc:=Go.E.encI) (sz:=1) (nb:=8) j1 0 ((w0*h0)).toNat (w0*h0) (om:(w0*h0)=((((w0*h0)).toNat:Nat):Int)) underlying22 (i:=Tryz.t3) kr fR fun k1 z2 _ a3 b3=>nilO ⟨trivial,?_⟩
    refine qU [9]<|qO rfl<|sAlloc b3 zeroValue38 fun c3 _ d3=>nilO ⟨trivial,?_⟩
    refine qO rfl<|sTl d3 0 [I w0,I h0,I a0, .slice (At k1 0) (((w0*h0)).toNat) (((w0*h0)).toNat)] sizeOf38 fun _ e3=>nilO ⟨trivial,?_⟩
    exact qN<|tN<|⟨(c3,a0,(At k1 0),z2,i1),alA,((e3.pick 2 rfl).dropAt 3 rfl),om,om,a3⟩
   refine qO rfl<|sAlloc j1 zeroValue38 fun h3 _ i3=>nilO ⟨trivial,?_⟩
   refine qO rfl<|sMake (kl:= .i64) (kc:= .i64) (enc:=Go.E.encI) (sz:=1) (nb:=8) i3 0 ((w0*h0)).toNat (w0*h0) (om:(w0*h0)=((((w0*h0)).toNat:Nat):Int)) underlying22 (i:=Tryz.t3) kr fR fun l1 j3 _ k3 l3=>nilO ⟨trivial,?_⟩
   refine qU [9]<|qO rfl<|sTl l3 1 [I w0,I h0,I a0, .slice (At l1 0) (((w0*h0)).toNat) (((w0*h0)).toNat)] sizeOf38 fun _ m3=>nilO ⟨trivial,?_⟩
   exact qN<|tN<|⟨(h3,a0,(At l1 0),j3,i1),alA,((m3.picks [1,2]).dropAt 3 rfl),om,om,k3⟩
  ·refine qO rfl<|sMake (kl:= .i64) (kc:= .i64) (enc:=Go.E.encI) (sz:=1) (nb:=8) z0 0 ((w0*h0)).toNat (w0*h0) (om:(w0*h0)=((((w0*h0)).toNat:Nat):Int)) underlying22 (i:=Tryz.t3) kr fR fun u0 m1 _ n1 o1=>nilO ⟨trivial,?_⟩
   refine qF ?_ ?_
   rotate_left
   ·refine qO rfl<|sAlloc o1 zeroValue38 fun o3 _ p3=>nilO ⟨trivial,?_⟩
    refine qO rfl ?_
    have q3:=(p3.pick 4 rfl)
    refine cX call42 (tape_pick (RdT.flat (hR.up 4 (by rfl))) om q3.flat1 (RdT.flat (RdT.blk (enc:=Go.E.encI) (sz:=1) (xs:=[255,255,65535,1,7]) (fun _=>(by rfl)) 5 2 rfl rfl rfl om)) om om) ?_
    rintro _ _ ⟨d0,rfl,r3,s3,_,u3⟩
    have v3:=u3.unflat1
    have q8:(d0:Int)=255\/(d0:Int)=255\/(d0:Int)=65535\/(d0:Int)=1\/(d0:Int)=7:=by simpa using r3
    refine nilO ⟨trivial,?_⟩
    refine qU [9]<|qO rfl<|sTl v3 1 [I w0,I h0,I d0, .slice (At u0 0) (((w0*h0)).toNat) (((w0*h0)).toNat)] sizeOf38 fun _ w3=>nilO ⟨trivial,?_⟩
    exact qN<|tN<|⟨(o3,d0,(At u0 0),m1,s3),alA,(w3.dropAt 3 rfl),om,om,n1⟩
   refine qO rfl ?_
   have y3:=(o1.pick 3 rfl)
   refine cX call42 (tape_pick (RdT.flat (hR.up 3 (by rfl))) om y3.flat1 (RdT.flat (RdT.blk (enc:=Go.E.encI) (sz:=1) (xs:=[255,255,65535,1,7]) (fun _=>(by rfl)) 5 1 rfl rfl rfl om)) om om) ?_
   rintro _ _ ⟨e0,rfl,z3,a4,_,b4⟩
   have c4:=b4.unflat1
   have u8:(e0:Int)=255\/(e0:Int)=255\/(e0:Int)=65535\/(e0:Int)=1\/(e0:Int)=7:=by simpa using z3
   refine nilO ⟨trivial,?_⟩
   refine qU [9]<|qO rfl<|sAlloc c4 zeroValue38 fun d4 _ e4=>nilO ⟨trivial,?_⟩
   refine qO rfl<|sTl e4 0 [I w0,I h0,I e0, .slice (At u0 0) (((w0*h0)).toNat) (((w0*h0)).toNat)] sizeOf38 fun _ f4=>nilO ⟨trivial,?_⟩
   exact qN<|tN<|⟨(d4,e0,(At u0 0),m1,a4),alA,((f4.pick 1 rfl).dropAt 3 rfl),om,om,n1⟩
  refine qO rfl<|sAlloc z0 zeroValue38 fun p1 _ q1=>nilO ⟨trivial,?_⟩
  refine qF ?_ ?_
  ·refine qO rfl ?_
   have h4:=(q1.pick 3 rfl)
   refine cX call42 (tape_pick (RdT.flat (hR.up 3 (by rfl))) om h4.flat1 (RdT.flat (RdT.blk (enc:=Go.E.encI) (sz:=1) (xs:=[255,255,65535,1,7]) (fun _=>(by rfl)) 5 1 rfl rfl rfl om)) om om) ?_
   rintro _ _ ⟨f0,rfl,i4,j4,_,k4⟩
   have l4:=k4.unflat1
   have a9:(f0:Int)=255\/(f0:Int)=255\/(f0:Int)=65535\/(f0:Int)=1\/(f0:Int)=7:=by simpa using i4
   refine nilO ⟨trivial,?_⟩
   refine qO rfl<|sMake (kl:= .i64) (kc:= .i64) (enc:=Go.E.encI) (sz:=1) (nb:=8) l4 0 ((w0*h0)).toNat (w0*h0) (om:(w0*h0)=((((w0*h0)).toNat:Nat):Int)) underlying22 (i:=Tryz.t3) kr fR fun r1 m4 _ n4 o4=>nilO ⟨trivial,?_⟩
   refine qU [9]<|qO rfl<|sTl o4 2 [I w0,I h0,I f0, .slice (At r1 0) (((w0*h0)).toNat) (((w0*h0)).toNat)] sizeOf38 fun _ p4=>nilO ⟨trivial,?_⟩
   exact qN<|tN<|⟨(p1,f0,(At r1 0),m4,j4),alA,((p4.picks [2,2]).dropAt 3 rfl),om,om,n4⟩
  refine qO rfl<|sMake (kl:= .i64) (kc:= .i64) (enc:=Go.E.encI) (sz:=1) (nb:=8) q1 0 ((w0*h0)).toNat (w0*h0) (om:(w0*h0)=((((w0*h0)).toNat:Nat):Int)) underlying22 (i:=Tryz.t3) kr fR fun s1 r4 _ s4 t4=>nilO ⟨trivial,?_⟩
  refine qO rfl ?_
  have u4:=(t4.pick 4 rfl)
  refine cX call42 (tape_pick (RdT.flat (hR.up 4 (by rfl))) om u4.flat1 (RdT.flat (RdT.blk (enc:=Go.E.encI) (sz:=1) (xs:=[255,255,65535,1,7]) (fun _=>(by rfl)) 5 2 rfl rfl rfl om)) om om) ?_
  rintro _ _ ⟨g0,rfl,v4,w4,_,x4⟩
  have y4:=x4.unflat1
  have g9:(g0:Int)=255\/(g0:Int)=255\/(g0:Int)=65535\/(g0:Int)=1\/(g0:Int)=7:=by simpa using v4
  refine nilO ⟨trivial,?_⟩
  refine qU [9]<|qO rfl<|sTl y4 2 [I w0,I h0,I g0, .slice (At s1 0) (((w0*h0)).toNat) (((w0*h0)).toNat)] sizeOf38 fun _ z4=>nilO ⟨trivial,?_⟩
  exact qN<|tN<|⟨(p1,g0,(At s1 0),r4,w4),alA,((z4.picks [2,1]).dropAt 3 rfl),om,om,s4⟩
 ·refine qO rfl<|sMake (kl:= .i64) (kc:= .i64) (enc:=Go.E.encI) (sz:=1) (nb:=8) y0 0 ((w0*h0)).toNat (w0*h0) (om:(w0*h0)=((((w0*h0)).toNat:Nat):Int)) underlying22 (i:=Tryz.t3) kr fR fun o0 b1 _ d1 t1=>nilO ⟨trivial,?_⟩
  refine qF ?_ ?_
  rotate_left
  ·refine qO rfl<|sAlloc t1 zeroValue38 fun b5 _ c5=>nilO ⟨trivial,?_⟩
   refine qO rfl<|sBS c5 #[I 255,I 255,I 65535,I 1,I 7] runUnderlying22 sizeOf3 zeroValue3 fun _ _ d5=>nilO ⟨trivial,?_⟩
   refine qO rfl ?_
   have e5:=(d5.pick 4 rfl)
   refine cX call42 (tape_pick (RdT.flat (hR.up 4 (by rfl))) om e5.flat1 (RdT.flat (RdT.blk (enc:=Go.E.encI) (sz:=1) (xs:=[255,255,65535,1,7]) (fun _=>(by rfl)) 5 0 rfl rfl rfl om)) om om) ?_
   rintro _ _ ⟨i0,rfl,f5,g5,_,h5⟩
   have i5:=h5.unflat1
   have o9:(i0:Int)=255\/(i0:Int)=255\/(i0:Int)=65535\/(i0:Int)=1\/(i0:Int)=7:=by simpa using f5
   refine nilO ⟨trivial,?_⟩
   refine qU [9]<|qO rfl<|sTl i5 2 [I w0,I h0,I i0, .slice (At o0 0) (((w0*h0)).toNat) (((w0*h0)).toNat)] sizeOf38 fun _ j5=>nilO ⟨trivial,?_⟩
   exact qN<|tN<|⟨(b5,i0,(At o0 0),b1,g5),alA,(j5.dropAt 1 rfl),om,om,d1⟩
  refine qO rfl<|sBS t1 #[I 255,I 255,I 65535,I 1,I 7] runUnderlying22 sizeOf3 zeroValue3 fun _ _ u1=>nilO ⟨trivial,?_⟩
  refine qF ?_ ?_
  rotate_left
  ·refine qO rfl<|sAlloc u1 zeroValue38 fun l5 _ m5=>nilO ⟨trivial,?_⟩
   refine qO rfl ?_
   have n5:=(m5.pick 4 rfl)
   refine cX call42 (tape_pick (RdT.flat (hR.up 4 (by rfl))) om n5.flat1 (RdT.flat (RdT.blk (enc:=Go.E.encI) (sz:=1) (xs:=[255,255,65535,1,7]) (fun _=>(by rfl)) 5 1 rfl rfl rfl om)) om om) ?_
   rintro _ _ ⟨j0,rfl,o5,p5,_,q5⟩
   have r5:=q5.unflat1
   have v9:(j0:Int)=255\/(j0:Int)=255\/(j0:Int)=65535\/(j0:Int)=1\/(j0:Int)=7:=by simpa using o5
   refine nilO ⟨trivial,?_⟩
   refine qU [9]<|qO rfl<|sTl r5 1 [I w0,I h0,I j0, .slice (At o0 0) (((w0*h0)).toNat) (((w0*h0)).toNat)] sizeOf38 fun _ s5=>nilO ⟨trivial,?_⟩
   exact qN<|tN<|⟨(l5,j0,(At o0 0),b1,p5),alA,(s5.dropAt 2 rfl),om,om,d1⟩
  refine qO rfl ?_
  have u5:=(u1.pick 3 rfl)
  refine cX call42 (tape_pick (RdT.flat (hR.up 3 (by rfl))) om u5.flat1 (RdT.flat (RdT.blk (enc:=Go.E.encI) (sz:=1) (xs:=[255,255,65535,1,7]) (fun _=>(by rfl)) 5 0 rfl rfl rfl om)) om om) ?_
  rintro _ _ ⟨k0,rfl,v5,w5,_,x5⟩
  have y5:=x5.unflat1
  have z9:(k0:Int)=255\/(k0:Int)=255\/(k0:Int)=65535\/(k0:Int)=1\/(k0:Int)=7:=by simpa using v5
  refine nilO ⟨trivial,?_⟩
  refine qU [9]<|qO rfl<|sAlloc y5 zeroValue38 fun z5 _ a6=>nilO ⟨trivial,?_⟩
  refine qO rfl<|sTl a6 0 [I w0,I h0,I k0, .slice (At o0 0) (((w0*h0)).toNat) (((w0*h0)).toNat)] sizeOf38 fun _ b6=>nilO ⟨trivial,?_⟩
  exact qN<|tN<|⟨(z5,k0,(At o0 0),b1,w5),alA,((b6.pick 1 rfl).dropAt 2 rfl),om,om,d1⟩
 refine qO rfl<|sAlloc y0 zeroValue38 fun e1 _ v1=>nilO ⟨trivial,?_⟩
 refine qF ?_ ?_
 rotate_left
 ·refine qO rfl<|sMake (kl:= .i64) (kc:= .i64) (enc:=Go.E.encI) (sz:=1) (nb:=8) v1 0 ((w0*h0)).toNat (w0*h0) (om:(w0*h0)=((((w0*h0)).toNat:Nat):Int)) underlying22 (i:=Tryz.t3) kr fR fun w1 d6 _ e6 f6=>nilO ⟨trivial,?_⟩
  refine qO rfl<|sBS f6 #[I 255,I 255,I 65535,I 1,I 7] runUnderlying22 sizeOf3 zeroValue3 fun _ _ g6=>nilO ⟨trivial,?_⟩
  refine qO rfl ?_
  have h6:=(g6.pick 4 rfl)
  refine cX call42 (tape_pick (RdT.flat (hR.up 4 (by rfl))) om h6.flat1 (RdT.flat (RdT.blk (enc:=Go.E.encI) (sz:=1) (xs:=[255,255,65535,1,7]) (fun _=>(by rfl)) 5 0 rfl rfl rfl om)) om om) ?_
  rintro _ _ ⟨l0,rfl,i6,j6,_,k6⟩
  have l6:=k6.unflat1
  have ia:(l0:Int)=255\/(l0:Int)=255\/(l0:Int)=65535\/(l0:Int)=1\/(l0:Int)=7:=by simpa using i6
  refine nilO ⟨trivial,?_⟩
  refine qU [9]<|qO rfl<|sTl l6 3 [I w0,I h0,I l0, .slice (At w1 0) (((w0*h0)).toNat) (((w0*h0)).toNat)] sizeOf38 fun _ m6=>nilO ⟨trivial,?_⟩
  exact qN<|tN<|⟨(e1,l0,(At w1 0),d6,j6),alA,((m6.picks [3,1]).dropAt 2 rfl),om,om,e6⟩
 refine qO rfl<|sBS v1 #[I 255,I 255,I 65535,I 1,I 7] runUnderlying22 sizeOf3 zeroValue3 fun _ _ x1=>nilO ⟨trivial,?_⟩
 refine qF ?_ ?_
 rotate_left
 ·refine qO rfl<|sMake (kl:= .i64) (kc:= .i64) (enc:=Go.E.encI) (sz:=1) (nb:=8) x1 0 ((w0*h0)).toNat (w0*h0) (om:(w0*h0)=((((w0*h0)).toNat:Nat):Int)) underlying22 (i:=Tryz.t3) kr fR fun y1 o6 _ p6 q6=>nilO ⟨trivial,?_⟩
  refine qO rfl ?_
  have r6:=(q6.pick 4 rfl)
  refine cX call42 (tape_pick (RdT.flat (hR.up 4 (by rfl))) om r6.flat1 (RdT.flat (RdT.blk (enc:=Go.E.encI) (sz:=1) (xs:=[255,255,65535,1,7]) (fun _=>(by rfl)) 5 1 rfl rfl rfl om)) om om) ?_
  rintro _ _ ⟨m0,rfl,s6,t6,_,u6⟩
  have v6:=u6.unflat1
  have pa:(m0:Int)=255\/(m0:Int)=255\/(m0:Int)=65535\/(m0:Int)=1\/(m0:Int)=7:=by simpa using s6
  refine nilO ⟨trivial,?_⟩
  refine qU [9]<|qO rfl<|sTl v6 3 [I w0,I h0,I m0, .slice (At y1 0) (((w0*h0)).toNat) (((w0*h0)).toNat)] sizeOf38 fun _ w6=>nilO ⟨trivial,?_⟩
  exact qN<|tN<|⟨(e1,m0,(At y1 0),o6,t6),alA,((w6.picks [3,1]).dropAt 3 rfl),om,om,p6⟩
 refine qO rfl ?_
 have y6:=(x1.pick 3 rfl)
 refine cX call42 (tape_pick (RdT.flat (hR.up 3 (by rfl))) om y6.flat1 (RdT.flat (RdT.blk (enc:=Go.E.encI) (sz:=1) (xs:=[255,255,65535,1,7]) (fun _=>(by rfl)) 5 0 rfl rfl rfl om)) om om) ?_
 rintro _ _ ⟨n0,rfl,z6,a7,_,c7⟩
 have d7:=c7.unflat1
 have ta:(n0:Int)=255\/(n0:Int)=255\/(n0:Int)=65535\/(n0:Int)=1\/(n0:Int)=7:=by simpa using z6
 refine nilO ⟨trivial,?_⟩
 refine qO rfl<|sMake (kl:= .i64) (kc:= .i64) (enc:=Go.E.encI) (sz:=1) (nb:=8) d7 0 ((w0*h0)).toNat (w0*h0) (om:(w0*h0)=((((w0*h0)).toNat:Nat):Int)) underlying22 (i:=Tryz.t3) kr fR fun z1 e7 _ f7 g7=>nilO ⟨trivial,?_⟩
 refine qU [9]<|qO rfl<|sTl g7 3 [I w0,I h0,I n0, .slice (At z1 0) (((w0*h0)).toNat) (((w0*h0)).toNat)] sizeOf38 fun _ h7=>nilO ⟨trivial,?_⟩
 exact qN<|tN<|⟨(e1,n0,(At z1 0),e7,a7),alA,((h7.picks [3,2]).dropAt 3 rfl),om,om,f7⟩
theorem tg_plane {p:Nat} {a:Option Addr} {n k:Nat} {i:Int} {xs:List Int} (hR:RdT Go.E.encI 1 [H] a n k xs) (hi:0<=i/\i<=n) (hS:Sat W w ([(p, .cells #[.slice a n k,I i] 81 (0,0))]::H::F)):
  Calls prog 22 #[Pt p 0] w fun e w'=>∃(q:Plane) (G:Chunk),e= .returned (.agg (encPlane q).toArray)/\(Plane.Ok [G] q)/\((1<=q.w/\q.w<=6)/\(1<=q.h/\q.h<=5)/\planeOK q.v=true/\planeB q)/\∃i':Int,(0<=i'/\i'<=n)/\Sat W w' ([(p, .cells #[.slice a n k,I i'] 81 (0,0))]::G::H::F):=by
 have hle:=hR.le
 refine callsA 11 func22 rfl<|sR<|sAlloc hS zeroValue38 fun _ _ f0=>zS<|pu2 ?_
 have g0:=(f0.pick 1 rfl)
 refine cX call15 (tape_next (RdT.flat (hR.up 1 (by rfl))) om g0.flat1 6 om) ?_
 rintro _ _ ⟨c0,rfl,_,_,_,h0⟩
 have i0:=h0.unflat1
 refine sAdd 1 c0<|pu1<|cX call15 (tape_next (RdT.flat (hR.up 1 (by rfl))) om i0.flat1 5 om) ?_
 rintro _ _ ⟨d0,rfl,_,_,_,j0⟩
 have k0:=j0.unflat1
 refine sAdd 1 d0<|cX call23 (tg_sized (RdT.flat (hR.up 1 (by rfl))) om k0.flat1 (1+c0) (1+d0) om) ?_
 rintro _ _ ⟨a0,l0,rfl,m0,b0,_,_,n0⟩
 refine sTl (Sat.unflat2 n0) 2 (encPlane a0) sizeOf38 fun _ e0=>zE<|retN (vs:=[.agg (encPlane a0).toArray]) rfl (.cons (.cell _ _ _ _ kr (lvA e0 2 0 (encPlane a0) (isAgg38 _) (sizeOf38 _) rfl rfl rfl)) .nil) ?_
 exact ⟨a0,l0,rfl,m0,⟨by have h:=b0.1;omega,by have h:=b0.2.1;omega,b0.2.2⟩,_,om,(e0.dropAt 2 rfl)⟩
theorem tg_table {p:Nat} {a:Option Addr} {n k:Nat} {i:Int} {xs:List Int} (hR:RdT Go.E.encI 1 [H] a n k xs) (hi:0<=i/\i<=n) (hS:Sat W w ([(p, .cells #[.slice a n k,I i] 81 (0,0))]::H::F)) (n0:Int) (hn0:1<=n0/\n0<=128):
  Calls prog 72 #[Pt p 0,I n0] w fun e w'=>∃(az:Option Addr) (nz:Nat) (kz:Nat) (zs:List Tap) (G:Chunk),e= .returned (.slice az nz kz)/\(RdT encTap 2 [G] az nz kz zs)/\(∀z∈zs,Tap.Ok [G] z)/\(zs.length<=6/\∀z∈zs,tapB z)/\∃i':Int,(0<=i'/\i'<=n)/\Sat W w' ([(p, .cells #[.slice a n k,I i'] 81 (0,0))]::G::H::F):=by
 have hle:=hR.le
 refine callsA 57 func72 rfl<|sR<|pu1<|zS<|pu1<|cX call15 (tape_next (RdT.flat (hR.up 0 (by rfl))) om hS.flat1 6 om) ?_
 rintro _ _ ⟨a0,rfl,_,_,_,h1⟩
 have i1:=h1.unflat1
 refine sAdd 1 a0<|pu1<|zS<|pu2<|sF #[I n0,I (1+a0),I 8] call116 (Calls.mono (r8_linear W _ _ [] n0 (1+a0) 8 i1.flat) ?_)
 rintro _ _ ⟨q0,b0,r0,s0,_,e0,f0,rfl,g0,t0,h0,u0⟩
 refine ⟨_,rfl,?_⟩
 have j1:=u0.unflat2;clear u0
 have hn_zs_14:=g0.len;have hl_zs_14:=g0.le
 refine pu5<|zQ<|pu1 ?_
 have k1:=(j1.pick 2 rfl)
 refine cX call15 (tape_next (RdT.flat (hR.up 2 (by rfl))) om k1.flat1 2 om) ?_
 rintro _ _ ⟨l1,rfl,_,c0,_,m1⟩
 have v0:=m1.unflat1
 refine pu1<|nT<|cE l1 0 (fun n1=>?_) (fun n1=>?_)
 ·refine seqE<|sR<|pu2<|sF #[I n0,I (1+a0),I 8] call117 (Calls.mono (r8_box W _ _ [] n0 (1+a0) 8 v0.flat) ?_)
  rintro _ _ ⟨o1,p1,q1,r1,s1,l0,m0,rfl,o0,t1,w0,x0⟩
  refine ⟨_,rfl,?_⟩
  have y0:=x0.unflat2;clear x0
  have hn_zs_36:=o0.len;have hl_zs_36:=o0.le
  refine pu5<|zS<|pu2<|nT<|cE s1 0 (fun u1=>?_) (fun u1=>?_)
  rotate_left
  ·refine kS<|pu2<|zR<|retT [.slice q0 b0 r0] ?_
   have v1:=(y0.drops [0,0])
   have w1:Sat W _ ([(p, .cells #[.slice a n k,I c0] 81 (0,0))]::(f0++e0)::H::F):=Sat.perm (show Sat W _ ([(p, .cells #[.slice a n k,I c0] 81 (0,0))]::f0::e0::H::F) from v1) (by simp [Value.cells])
   exact ⟨_,_,_,s0,(f0++e0),rfl,(g0.rd (fun p hp=>by simp [hp])),(fun z hz=>(t0 z hz).of_mem mS),⟨by have h:=h0.1;omega,h0.2⟩,_,om,w1⟩
  refine sR<|pu2<|zR<|tK<|retT [.slice o1 p1 q1] ?_
  have x1:=((y0.pick 2 rfl).drops [3,3])
  have y1:Sat W _ ([(p, .cells #[.slice a n k,I c0] 81 (0,0))]::(m0++l0)::H::F):=Sat.perm (show Sat W _ ([(p, .cells #[.slice a n k,I c0] 81 (0,0))]::m0::l0::H::F) from x1) (by simp [Value.cells])
  exact ⟨_,_,_,r1,(m0++l0),rfl,(o0.rd (fun p hp=>by simp [hp])),(fun z hz=>(t1 z hz).of_mem mS),⟨by have h:=w0.1;omega,w0.2⟩,_,om,y1⟩
 refine kT<|seqE<|sR<|pu1<|nT<|blockE ?_
 have z1:=(v0.pick 2 rfl)
 have a2:=(z1.pick 2 rfl)
 refine loopA (γ:=Nat×Int×(List Tap)×(Option Addr)×Nat×Nat×Chunk×Chunk) (fun ⟨i,iti,zs,azs,nzs,kzs,czs,Gzs⟩=>[(0,Pt p 0),(1,I n0),(10,I (i:Int)),(6, .slice azs nzs kzs)]) (fun ⟨i,iti,zs,azs,nzs,kzs,czs,Gzs⟩ w=>Sat W w (Gzs::czs::[(p, .cells #[.slice a n k,I iti] 81 (0,0))]::H::F)/\i<=b0/\(∀z∈zs,tapB z)/\(zs.length=b0)/\(zs.length<=6)/\(0<=iti/\iti<=n)/\OwnT encTap 122 2 azs nzs kzs zs czs/\(∀z∈zs,Tap.Ok [Gzs] z)) (fun ⟨i,iti,zs,azs,nzs,kzs,czs,Gzs⟩=>b0-i) (0,c0,s0,q0,b0,r0,e0,f0) ⟨a2,om,h0.2,om,by have h:=h0.1;omega,om,g0,t0⟩ ?_
 rintro ⟨i,iti,zs,azs,nzs,kzs,czs,Gzs⟩ ρ _ ⟨z0,hi,hB,hzl,hz6,hiti,hOzs,hDzs⟩
 have hn_zs:=hOzs.len;have hl_zs:=hOzs.le
 refine seqE<|sR<|pu4<|nT<|cD ((i:Int)<(nzs:Int)) (fun b2=>?_) (fun b2=>?_)
 rotate_left
 ·refine exitE<|xB<|tN<|sR<|pu2<|zE<|retT [.slice azs nzs kzs] ?_
  have c2:=(z0.pick 2 rfl)
  have d2:Sat W _ ([(p, .cells #[.slice a n k,I iti] 81 (0,0))]::(Gzs++czs)::H::F):=Sat.perm (show Sat W _ ([(p, .cells #[.slice a n k,I iti] 81 (0,0))]::Gzs::czs::H::F) from c2) (by simp [Value.cells])
  exact ⟨_,_,_,zs,(Gzs++czs),rfl,(hOzs.rd (fun p hp=>by simp [hp])),(fun z hz=>(hDzs z hz).of_mem mS),⟨om,hB⟩,_,om,d2⟩
 refine kT<|seqE<|blockE<|sR<|pu1 ?_
 have e2:=(z0.pick 2 rfl)
 refine cX call15 (tape_next (RdT.flat (hR.up 2 (by rfl))) om e2.flat1 4 om) ?_
 rintro _ _ ⟨f2,rfl,_,g2,_,h2⟩
 have a1:=h2.unflat1
 refine pu1<|nT<|cE f2 0 (fun i2=>?_) (fun i2=>?_)
 rotate_left
 ·refine skipE<|bN<|tN<|rE<|pu1<|sAdd (i:Int) 1<|pu1<|nT ?_
  exact ⟨(i+1,g2,zs,azs,nzs,kzs,czs,Gzs),od,alA,(a1.picks [2,2]),om,hB,by first|omega|(simp;omega),by first|omega|(simp;omega),om,hOzs,hDzs⟩
 refine rE<|pu4<|sAdd n0 6<|cX call15 (tape_next (RdT.flat (hR.up 2 (by rfl))) om a1.flat1 (n0+6) om) ?_
 rintro _ _ ⟨d0,rfl,_,_,_,k2⟩
 have l2:=k2.unflat1
 refine sSub d0 4<|pu2<|cX call15 (tape_next (RdT.flat (hR.up 2 (by rfl))) om l2.flat1 4 om) ?_
 rintro _ _ ⟨b1,rfl,_,_,_,m2⟩
 have n2:=m2.unflat1
 refine sAdd 1 b1<|cX call71 (tg_weights (RdT.flat (hR.up 2 (by rfl))) om n2.flat1 (1+b1) om) ?_
 rintro _ _ ⟨i0,j0,k0,c1,d1,rfl,p0,e1,f1,_,o2⟩
 have p2:=o2.unflat2
 have hn_zs_81:=p0.len;have hl_zs_81:=p0.le
 refine pu1<|sIdxO hOzs (i:Int) i runUnderlying50 sizeOf122 fun q2 _ _ r2 _ s2=>sStF p2 hOzs s2 3 i 0 q2 (⟨(d0-4),⟨i0,j0,k0,c1⟩⟩:Tap) r2 (.agg #[I (d0-4), .slice i0 j0 k0]) [I (d0-4), .slice i0 j0 k0] sizeOf122 fun _ g1 t2 u2=>nB<|rE<|pu1<|sAdd (i:Int) 1<|pu1<|nT ?_
 have v2:=(u2.picks [3,3,3])
 exact ⟨(i+1,f1,(zs.set i (⟨(d0-4),⟨i0,j0,k0,c1⟩⟩:Tap)),azs,nzs,kzs,g1,(d1++Gzs)),od,alA,(Sat.perm (cs':=(d1++Gzs)::(g1::[(p, .cells #[.slice a n k,I f1] 81 (0,0))]::H::F)) v2 (by simp)),om,mem_set hB ⟨by unfold numB;dsimp only;omega,by have h:=e1.1;dsimp only;omega,e1.2⟩,by first|omega|(simp;omega),by first|omega|(simp;omega),om,t2,(mem_set (fun z hz=>(hDzs z hz).of_mem mS) ⟨p0.of_mem mS⟩)⟩
def opB (o:POp):Prop:=numB o.code/\numB o.arg
theorem tg_ops {p:Nat} {a:Option Addr} {n k:Nat} {i:Int} {xs:List Int} (hR:RdT Go.E.encI 1 [H] a n k xs) (hi:0<=i/\i<=n) (hS:Sat W w ([(p, .cells #[.slice a n k,I i] 81 (0,0))]::H::F)) (two:Bool):
  Calls prog 73 #[Pt p 0, .bool two] w fun e w'=>∃(az:Option Addr) (nz:Nat) (kz:Nat) (zs:List POp) (G:Chunk),e= .returned (.slice az nz kz)/\(RdT encPOp 2 [G] az nz kz zs)/\(zs.length<=9/\∀z∈zs,opB z)/\∃i':Int,(0<=i'/\i'<=n)/\Sat W w' ([(p, .cells #[.slice a n k,I i'] 81 (0,0))]::G::H::F):=by
 have hle:=hR.le
 refine callsA 55 func73 rfl<|sR<|pu1<|zS<|pu1<|sBS hS #[I 0,I 0] runUnderlying51 sizeOf75 zeroValue75 fun d0 _ h0=>pu1<|nT<|cutA (γ:=(Option Addr)×Nat×Nat×(List POp)×Chunk×Int) (fun ⟨a1,n1,k1,z1,c1,itc⟩=>[(0,Pt p 0),(5, .slice a1 n1 k1)]) (fun ⟨a1,n1,k1,z1,c1,itc⟩ w=>Sat W w ([(p, .cells #[.slice a n k,I itc] 81 (0,0))]::c1::H::F)/\(0<=itc/\itc<=n)/\OwnT encPOp 75 2 a1 n1 k1 z1 c1/\(z1.length<=3/\∀z∈z1,opB z)) ?_ ?_
 ·refine sR<|pu1<|nT<|cB two (fun k0=>?_) (fun k0=>?_)
  rotate_left
  ·refine kT ?_
   have l0:=OwnT.blk (enc:=encPOp) (sz:=2) (b:=d0) (c:=#[I 0,I 0]) (E:=75) (xs:=[(⟨0,0⟩:POp)]) fR 1 rfl rfl rfl om
   exact ⟨((At d0 0),1,1,[(⟨0,0⟩:POp)],[(d0, .cells #[I 0,I 0] 75 (0,0))],i),alA,(h0.pick 1 rfl),om,l0,⟨by simp,(by intro z hz;simp at hz;subst hz;(unfold opB numB;dsimp only;omega))⟩⟩
  refine rE<|pu3<|sBS h0 #[I 3,I 4,I 5,I 6,I 7,I 8,I 9] runUnderlying22 sizeOf3 zeroValue3 fun _ _ n0=>?_
  have o0:=(n0.pick 2 rfl)
  refine cX call42 (tape_pick (RdT.flat (hR.up 2 (by rfl))) om o0.flat1 (RdT.flat (RdT.blk (enc:=Go.E.encI) (sz:=1) (xs:=[3,4,5,6,7,8,9]) (fun _=>(by rfl)) 7 0 rfl rfl rfl om)) om om) ?_
  rintro _ _ ⟨a0,rfl,p0,q0,_,r0⟩
  have s0:=r0.unflat1
  have j3:(a0:Int)=3\/(a0:Int)=4\/(a0:Int)=5\/(a0:Int)=6\/(a0:Int)=7\/(a0:Int)=8\/(a0:Int)=9:=by simpa using p0
  exact pu1<|sBS s0 #[I 1,I 0,I a0,I 0] runUnderlying51 sizeOf75 zeroValue75 fun _ _ t0=>sApp (nb:=16) t0 (OwnT.blk (enc:=encPOp) (sz:=2) (b:=d0) (c:=#[I 0,I 0]) (E:=75) (xs:=[(⟨0,0⟩:POp)]) fR 1 rfl rfl rfl om) 3 (RdT.blk (enc:=encPOp) (sz:=2) (xs:=[(⟨1,0⟩:POp),(⟨a0,0⟩:POp)]) fR 2 0 rfl rfl rfl om) underlying51 (i:=Tryz.t75) kr fR fun v0 w0 x0 _ y0 z0=>pu1<|nT<|⟨(v0,(1+2),w0,([(⟨0,0⟩:POp)]++[(⟨1,0⟩:POp),(⟨a0,0⟩:POp)]),x0,q0),alA,(z0.drops [0,1]),om,y0,⟨by simp,(by intro z hz;simp at hz;rcases hz with rfl|rfl|rfl<;>(unfold opB numB;dsimp only;omega))⟩⟩
 rintro ⟨a1,n1,k1,z1,c1,itc⟩ ρ _ ⟨d1,hitc,hO1,hz1⟩
 refine seqE<|sR<|pu1<|cX call15 (tape_next (RdT.flat (hR.up 1 (by rfl))) om d1.flat1 4 om) ?_
 rintro _ _ ⟨e1,rfl,_,f1,_,g1⟩
 have h1:=g1.unflat1
 refine pu1<|nT<|blockE ?_
 have i1:=(h1.pick 1 rfl)
 refine loopA (γ:=Nat×Int×Int×(List POp)×(Option Addr)×Nat×Nat×Chunk) (fun ⟨u,j,itu,zs,azs,nzs,kzs,czs⟩=>[(0,Pt p 0),(6,I j),(5, .slice azs nzs kzs)]) (fun ⟨u,j,itu,zs,azs,nzs,kzs,czs⟩ w=>Sat W w (czs::[(p, .cells #[.slice a n k,I itu] 81 (0,0))]::H::F)/\u<=3/\(∀z∈zs,opB z)/\(zs.length<=3+2*u)/\((u:Int)+j<=3)/\(0<=itu/\itu<=n)/\OwnT encPOp 75 2 azs nzs kzs zs czs) (fun ⟨u,j,itu,zs,azs,nzs,kzs,czs⟩=>3-u) (0,e1,f1,z1,a1,n1,k1,c1) ⟨i1,om,hz1.2,om,om,om,hO1⟩ ?_
 rintro ⟨u,j,itu,zs,azs,nzs,kzs,czs⟩ ρ _ ⟨i0,hu,hB,hzl,hj,hitu,hOzs⟩
 have hn_zs:=hOzs.len;have hl_zs:=hOzs.le
 refine seqE<|sR<|pu2<|nT<|cD (j>0) (fun j1=>?_) (fun j1=>?_)
 rotate_left
 ·exact exitE<|xB<|tN<|sR<|pu2<|zE<|retT [.slice azs nzs kzs]<|⟨_,_,_,zs,czs,rfl,(hOzs.rdAt (cs:=[czs]) 0 rfl),⟨om,hB⟩,_,om,(i0.pick 1 rfl)⟩
 refine kT<|seqE<|blockE<|sR<|pu1 ?_
 have m1:=(i0.pick 1 rfl)
 refine cX call15 (tape_next (RdT.flat (hR.up 1 (by rfl))) om m1.flat1 3 om) ?_
 rintro _ _ ⟨j0,rfl,_,o1,_,p1⟩
 have f0:=p1.unflat1
 refine nT<|blockE<|sR<|pu2<|nT<|cE j0 0 (fun q1=>?_) (fun q1=>?_)
 rotate_left
 ·refine sR<|pu2<|nT<|cE j0 1 (fun r1=>?_) (fun r1=>?_)
  rotate_left
  ·exact rE<|pu2<|sBS f0 #[I 11,I 0] runUnderlying51 sizeOf75 zeroValue75 fun _ _ s1=>sApp (nb:=16) s1 hOzs 2 (RdT.blk (enc:=encPOp) (sz:=2) (xs:=[(⟨11,0⟩:POp)]) fR 1 0 rfl rfl rfl om) underlying51 (i:=Tryz.t75) kr fR fun t1 u1 v1 _ w1 x1=>pu1<|nilO<|bN<|bN<|tN<|rE<|pu1<|sSub j 1<|pu1<|nT<|⟨(u+1,(j-1),o1,(zs++[(⟨11,0⟩:POp)]),t1,(nzs+1),u1,v1),od,alA,((x1.pick 2 rfl).dropAt 1 rfl),om,(by
     intro z hz
     rcases List.mem_append.1 hz with h|h
     ·exact hB z h
     ·simp only [List.mem_cons,List.not_mem_nil,or_false] at h
      subst h;(unfold opB numB;dsimp only;omega)),by simp;omega,om,om,w1⟩
  refine rE<|pu2<|cX call15 (tape_next (RdT.flat (hR.up 1 (by rfl))) om f0.flat1 4 om) ?_
  rintro _ _ ⟨g0,rfl,_,a2,_,b2⟩
  have c2:=b2.unflat1
  exact pu1<|sBS c2 #[I 10,I g0] runUnderlying51 sizeOf75 zeroValue75 fun _ _ d2=>sApp (nb:=16) d2 hOzs 2 (RdT.blk (enc:=encPOp) (sz:=2) (xs:=[(⟨10,g0⟩:POp)]) fR 1 0 rfl rfl rfl om) underlying51 (i:=Tryz.t75) kr fR fun e2 f2 g2 _ h2 i2=>pu1<|nilO<|bN<|bN<|tN<|rE<|pu1<|sSub j 1<|pu1<|nT<|⟨(u+1,(j-1),a2,(zs++[(⟨10,g0⟩:POp)]),e2,(nzs+1),f2,g2),od,alA,((i2.pick 2 rfl).dropAt 1 rfl),om,(by
    intro z hz
    rcases List.mem_append.1 hz with h|h
    ·exact hB z h
    ·simp only [List.mem_cons,List.not_mem_nil,or_false] at h
     subst h;(unfold opB numB;dsimp only;omega)),by simp;omega,om,om,h2⟩
 refine rE<|pu3<|cX call15 (tape_next (RdT.flat (hR.up 1 (by rfl))) om f0.flat1 300 om) ?_
 rintro _ _ ⟨e0,rfl,_,_,_,k2⟩
 have l2:=k2.unflat1
 refine sSub e0 100<|sBS l2 #[I (e0-100),I 0,I 3,I (-2)] runUnderlying22 sizeOf3 zeroValue3 fun _ _ m2=>?_
 have n2:=(m2.pick 1 rfl)
 refine cX call42 (tape_pick (RdT.flat (hR.up 2 (by rfl))) om n2.flat1 (RdT.flat (RdT.blk (enc:=Go.E.encI) (sz:=1) (xs:=[(e0-100),0,3,-2]) (fun _=>(by rfl)) 4 0 rfl rfl rfl om)) om om) ?_
 rintro _ _ ⟨c0,rfl,o2,_,_,p2⟩
 have q2:=p2.unflat1
 have n4:(c0:Int)=(e0-100)\/(c0:Int)=0\/(c0:Int)=3\/(c0:Int)=(-2):=by simpa using o2
 refine pu2<|sBS q2 #[I 3,I 4,I 5,I 6,I 7,I 8,I 9] runUnderlying22 sizeOf3 zeroValue3 fun _ _ r2=>?_
 have s2:=(r2.pick 1 rfl)
 refine cX call42 (tape_pick (RdT.flat (hR.up 3 (by rfl))) om s2.flat1 (RdT.flat (RdT.blk (enc:=Go.E.encI) (sz:=1) (xs:=[3,4,5,6,7,8,9]) (fun _=>(by rfl)) 7 0 rfl rfl rfl om)) om om) ?_
 rintro _ _ ⟨b0,rfl,t2,u2,_,v2⟩
 have w2:=v2.unflat1
 have s4:(b0:Int)=3\/(b0:Int)=4\/(b0:Int)=5\/(b0:Int)=6\/(b0:Int)=7\/(b0:Int)=8\/(b0:Int)=9:=by simpa using t2
 exact pu1<|sBS w2 #[I 2,I c0,I b0,I 0] runUnderlying51 sizeOf75 zeroValue75 fun _ _ x2=>sApp (nb:=16) x2 hOzs 4 (RdT.blk (enc:=encPOp) (sz:=2) (xs:=[(⟨2,c0⟩:POp),(⟨b0,0⟩:POp)]) fR 2 0 rfl rfl rfl om) underlying51 (i:=Tryz.t75) kr fR fun y2 z2 a3 _ b3 c3=>pu1<|nilO<|bN<|bN<|tN<|rE<|pu1<|sSub j 1<|pu1<|nT<|⟨(u+1,(j-1),u2,(zs++[(⟨2,c0⟩:POp),(⟨b0,0⟩:POp)]),y2,(nzs+2),z2,a3),od,alA,((c3.pick 4 rfl).drops [1,2,2]),om,(by
   intro z hz
   rcases List.mem_append.1 hz with h|h
   ·exact hB z h
   ·simp only [List.mem_cons,List.not_mem_nil,or_false] at h
    rcases h with rfl|rfl<;>(unfold opB numB;dsimp only;omega)),by simp;omega,om,om,b3⟩
def stageB (k:Nat) (q:Stage):Prop:=(numB q.kind/\numB q.a/\numB q.b/\numB q.edgePolicy/\numB q.edgeFill/\numB q.kW/\numB q.kH/\numB q.shift/\numB q.shift2/\numB q.bins/\numB q.max_)/\(q.weights.l.length<=64/\∀z∈q.weights.l,numB z)/\(q.row.l.length<=64/\∀z∈q.row.l,numB z)/\(q.col.l.length<=64/\∀z∈q.col.l,numB z)/\(q.x.l.length<=6+k/\∀z∈q.x.l,tapB z)/\(q.y.l.length<=6+k/\∀z∈q.y.l,tapB z)/\(q.ops.l.length<=9+k/\∀z∈q.ops.l,opB z)
theorem zStage_ok {cs:List Chunk}:Stage.Ok cs zStage:=⟨RdT.nil (enc:=Go.E.encI) (sz:=1) (fun _=>rfl) _,RdT.nil (enc:=Go.E.encI) (sz:=1) (fun _=>rfl) _,RdT.nil (enc:=Go.E.encI) (sz:=1) (fun _=>rfl) _,RdT.nil (enc:=encTap) (sz:=2) (fun _=>rfl) _,(fun z hz=>by cases hz),RdT.nil (enc:=encTap) (sz:=2) (fun _=>rfl) _,(fun z hz=>by cases hz),RdT.nil (enc:=encPOp) (sz:=2) (fun _=>rfl) _⟩
theorem nl0 {α:Type} {P:α->Prop} {m:Nat}:([]:List α).length<=m/\∀z∈([]:List α),P z:=⟨by simp,fun z hz=>by cases hz⟩
theorem tg_stage {p:Nat} {a:Option Addr} {n k:Nat} {i:Int} {xs:List Int} (hR:RdT Go.E.encI 1 [H] a n k xs) (hi:0<=i/\i<=n) (hS:Sat W w ([(p, .cells #[.slice a n k,I i] 81 (0,0))]::H::F)) (a0:Int) (s0:Shape) (b0:Int) (hs0:szP s0) (hab:numB a0/\numB b0):
  Calls prog 24 #[Pt p 0,I a0, .agg #[I s0.w,I s0.h,I s0.max_],I b0] w fun e w'=>∃(q:Stage) (G:Chunk),e= .returned (.agg (encStage q).toArray)/\(Stage.Ok [G] q)/\(stageB 0 q)/\(q.a=a0/\(q.b=-1\/(q.b=b0/\0<=b0)))/\∃i':Int,(0<=i'/\i'<=n)/\Sat W w' ([(p, .cells #[.slice a n k,I i'] 81 (0,0))]::G::H::F):=by
 have hle:=hR.le
 have hs1:=hs0;unfold szP at hs1;have hab1:=hab;unfold numB at hab1
 refine callsA 126 func24 rfl<|sR<|sBox hS (.agg #[I s0.w,I s0.h,I s0.max_]) #[I s0.w,I s0.h,I s0.max_] fun m0 _ k4=>sAlloc k4 zeroValue53 fun f1 _ l4=>zS<|pu1 ?_
 have m4:=(l4.pick 2 rfl)
 refine cX call15 (tape_next (RdT.flat (hR.up 2 (by rfl))) om m4.flat1 6 om) ?_
 rintro _ _ ⟨d0,rfl,_,_,_,n4⟩
 have o4:=n4.unflat1
 refine sAdd 1 d0<|pu2<|cX call15 (tape_next (RdT.flat (hR.up 2 (by rfl))) om o4.flat1 4 om) ?_
 rintro _ _ ⟨f0,rfl,_,_,_,p4⟩
 have q4:=p4.unflat1
 refine pu2<|sAlloc q4 zeroValue53 fun g1 _ r4=>sTl r4 0 (encStage {zStage with kind:=(1+d0),a:=a0,b:=-1,barrier:=((f0:Int)==3)}) sizeOf53 fun _ s4=>zS<|pu1<|sBS s4 #[I 255,I 65535,I 15] runUnderlying22 sizeOf3 zeroValue3 fun _ _ t4=>?_
 have u4:=(t4.pick 2 rfl)
 refine cX call42 (tape_pick (RdT.flat (hR.up 4 (by rfl))) om u4.flat1 (RdT.flat (RdT.blk (enc:=Go.E.encI) (sz:=1) (xs:=[255,65535,15]) (fun _=>(by rfl)) 3 0 rfl rfl rfl om)) om om) ?_
 rintro _ _ ⟨c0,rfl,v4,w4,_,x4⟩
 have e0:=x4.unflat1
 have ib:(c0:Int)=255\/(c0:Int)=65535\/(c0:Int)=15:=by simpa using v4
 refine pu1<|nT<|cutA (γ:=Stage×Chunk×Int) (fun ⟨q,G1,itc⟩=>[(8,Pt f1 0),(9,Pt g1 0)]) (fun ⟨q,G1,itc⟩ w=>Sat W w (G1::[(p, .cells #[.slice a n k,I itc] 81 (0,0))]::[(g1, .cells (encStage q).toArray 53 (0,0))]::[(f1, .cells (encStage zStage).toArray 53 (0,0))]::H::F)/\(0<=itc/\itc<=n)/\Stage.Ok [G1] q/\stageB 0 q/\(q.a=a0/\(q.b=-1\/(q.b=b0/\0<=b0)))) ?_ ?_
 rotate_left
 ·rintro ⟨q,G1,itc⟩ ρ _ ⟨h1,hitc,hqok,hqB,hqab⟩
  exact sR<|lA h1 2 0 18 (isAgg53 _) (sizeOf53 _)<|sTl h1 3 (encStage q) sizeOf53 fun _ i1=>zE<|retN (vs:=[.agg (encStage q).toArray]) rfl (.cons (.cell _ _ _ _ kr (lvA i1 3 0 (encStage q) (isAgg53 _) (sizeOf53 _) rfl rfl rfl)) .nil)<|⟨q,G1,rfl,hqok,hqB,hqab,_,om,((i1.pick 1 rfl).drops [2,2])⟩
 refine sR<|pu1<|sL e0 2 0 (I (1+d0)) (isAgg3 _)<|nT<|blockE<|sR<|pu2<|nT<|cE (1+d0) 1 (fun z4=>?_) (fun z4=>?_)
 ·refine seqE ?_
  refine drawP [1,2,4,5,8,12,14,16,18,20,22] [(11,⟨m0,2,none⟩,I s0.max_)] (Plan.sts [0,3,6,7,9,10]<|Plan.sts [11]<| .fk 1 4 (.fk 2 4 (Plan.sts [13]<| .ef 4<| .ef 5<| .ef 8<| .ef 12<| .ef 14<|Plan.sts [15]<| .ef 16<|Plan.sts [17]<| .ef 18<|Plan.sts [19]<| .ef 20<|Plan.sts [21]<| .ef 22<| .fin) (.ef 2<|Plan.sts [13]<| .ef 5<| .ef 8<| .ef 12<| .ef 14<|Plan.sts [15]<| .ef 16<|Plan.sts [17]<| .ef 18<|Plan.sts [19]<| .ef 20<|Plan.sts [21]<| .ef 22<| .fin)) (.ef 1<| .ef 2<|Plan.sts [13]<| .ef 5<| .ef 8<| .ef 12<| .ef 14<|Plan.sts [15]<| .ef 16<|Plan.sts [17]<| .ef 18<|Plan.sts [19]<| .ef 20<|Plan.sts [21]<| .ef 22<| .fin)) rfl kr ⟨cI e0 4,trivial⟩ ?_
  have j1:=e0.drew
  refine qU [0,3,6,7,9,10]<|qLd (I s0.max_) 0 isAgg3<|qF ?_ ?_
  rotate_left
  ·refine qO rfl<|sBS j1 #[I 1,I 3,I 2] runUnderlying22 sizeOf3 zeroValue3 fun _ _ k1=>nilO ⟨⟨cI k1 5,trivial⟩,?_⟩
   refine qO rfl<|sBS k1 #[I 1,I 3,I 2,I 5] runUnderlying22 sizeOf3 zeroValue3 fun _ _ l1=>nilO ⟨⟨cI l1 6,trivial⟩,?_⟩
   refine qO rfl ?_
   have a5:=(l1.pick 2 rfl)
   refine cX call42 (tape_pick (RdT.flat (hR.up 6 (by rfl))) om a5.flat1 (RdT.flat (RdT.blk (enc:=Go.E.encI) (sz:=1) (xs:=[1,3,2,5]) (fun _=>(by rfl)) 4 0 rfl rfl rfl om)) om om) ?_
   rintro _ _ ⟨g0,rfl,b5,_,_,c5⟩
   have m1:=c5.unflat1
   have tb:(g0:Int)=1\/(g0:Int)=3\/(g0:Int)=2\/(g0:Int)=5:=by simpa using b5
   refine nilO ⟨⟨cI m1 6,trivial⟩,?_⟩
   refine qU [13]<|qO rfl<|cX call42 (tape_pick (RdT.flat (hR.up 6 (by rfl))) om m1.flat1 (RdT.flat (RdT.blk (enc:=Go.E.encI) (sz:=1) (xs:=[1,3,2]) (fun _=>(by rfl)) 3 1 rfl rfl rfl om)) om om) ?_
   rintro _ _ ⟨j0,rfl,d5,_,_,e5⟩
   have n1:=e5.unflat1
   have xb:(j0:Int)=1\/(j0:Int)=3\/(j0:Int)=2:=by simpa using d5
   refine nilO ⟨⟨cI n1 6,trivial⟩,?_⟩
   refine qO rfl<|cX call15 (tape_next (RdT.flat (hR.up 6 (by rfl))) om n1.flat1 4 om) ?_
   rintro _ _ ⟨o1,rfl,_,_,_,f5⟩
   have p1:=f5.unflat1
   refine nilO ⟨⟨cI p1 6,trivial⟩,?_⟩
   refine qO rfl<|cX call70 (tg_edge (RdT.flat (hR.up 6 (by rfl))) om p1.flat1 s0.max_ om) ?_
   rintro _ _ ⟨q1,r1,rfl,g5,_,_,h5⟩
   have i5:=h5.unflat1
   unfold numB at g5
   refine nilO ⟨dA,?_⟩
   refine qO rfl<|tW i5 4 6 (I g0) sizeOf3 fun _ j5=>nilO ⟨dA,?_⟩
   refine qU [15]<|qO rfl<|tW j5 4 7 (I j0) sizeOf3 fun _ k5=>nilO ⟨dA,?_⟩
   refine qU [17]<|qO rfl<|tW k5 4 17 (I c0) sizeOf3 fun _ l5=>nilO ⟨dA,?_⟩
   refine qU [19]<|qO rfl<|tW l5 4 11 (I o1) sizeOf3 fun _ m5=>nilO ⟨dA,?_⟩
   refine qU [21]<|qO rfl<|tW m5 4 4 (.agg #[I q1,I r1]) sizeOf49 fun _ o0=>nilO ⟨dA,?_⟩
   refine qN<|tN ?_
   have hkk:=mul_bd (a:=g0) (b:=j0) (A:=5) (B:=3) om om
   refine rE<|pu2<|sL o0 4 6 (I g0) (isAgg3 _)<|pu1<|sL o0 4 7 (I j0) (isAgg3 _)<|sMul g0 j0<|cX call71 (tg_weights (RdT.flat (hR.up 6 (by rfl))) om o0.flat1 (g0*j0) om) ?_
   rintro _ _ ⟨s1,t1,u1,n5,o5,rfl,p0,v1,p5,_,q5⟩
   have r5:=q5.unflat2
   have hn_zs_218:=p0.len;have hl_zs_218:=p0.le
   refine pu1<|tW r5 5 8 (.slice s1 t1 u1) sizeOf22 fun _ s5=>nB ?_
   exact ⟨(({zStage with kind:=(1+d0),a:=a0,b:=-1,barrier:=((f0:Int)==3),edgePolicy:=q1,edgeFill:=r1,kW:=g0,kH:=j0,weights:=⟨s1,t1,u1,n5⟩,shift:=o1,max_:=c0}:Stage),o5,p5),alA,((s5.pick 1 rfl).drops [2,2,2,4]),om,{zStage_ok with weights:=p0.of_mem mS},⟨(by simp only [numB,zStage];omega),⟨by have h:=v1.1;dsimp only;omega,v1.2⟩,nl0,nl0,nl0,nl0,nl0⟩,⟨rfl,by first|(left;rfl)|(right;exact ⟨rfl,om⟩)⟩⟩
  refine qO rfl<|sBS j1 #[I 1,I 3,I 2,I 5] runUnderlying22 sizeOf3 zeroValue3 fun _ _ q0=>nilO ⟨⟨cI q0 5,trivial⟩,?_⟩
  refine qF ?_ ?_
  ·refine qO rfl ?_
   have u5:=(q0.pick 1 rfl)
   refine cX call42 (tape_pick (RdT.flat (hR.up 5 (by rfl))) om u5.flat1 (RdT.flat (RdT.blk (enc:=Go.E.encI) (sz:=1) (xs:=[1,3,2,5]) (fun _=>(by rfl)) 4 0 rfl rfl rfl om)) om om) ?_
   rintro _ _ ⟨h0,rfl,v5,_,_,w5⟩
   have w1:=w5.unflat1
   have sc:(h0:Int)=1\/(h0:Int)=3\/(h0:Int)=2\/(h0:Int)=5:=by simpa using v5
   refine nilO ⟨⟨cI w1 5,trivial⟩,?_⟩
   refine qU [13]<|qO rfl<|sBS w1 #[I 1,I 3,I 2] runUnderlying22 sizeOf3 zeroValue3 fun _ _ x1=>nilO ⟨⟨cI x1 6,trivial⟩,?_⟩
   refine qO rfl ?_
   have x5:=(x1.pick 1 rfl)
   refine cX call42 (tape_pick (RdT.flat (hR.up 6 (by rfl))) om x5.flat1 (RdT.flat (RdT.blk (enc:=Go.E.encI) (sz:=1) (xs:=[1,3,2]) (fun _=>(by rfl)) 3 0 rfl rfl rfl om)) om om) ?_
   rintro _ _ ⟨k0,rfl,y5,_,_,z5⟩
   have y1:=z5.unflat1
   have yc:(k0:Int)=1\/(k0:Int)=3\/(k0:Int)=2:=by simpa using y5
   refine nilO ⟨⟨cI y1 6,trivial⟩,?_⟩
   refine qO rfl<|cX call15 (tape_next (RdT.flat (hR.up 6 (by rfl))) om y1.flat1 4 om) ?_
   rintro _ _ ⟨z1,rfl,_,_,_,a6⟩
   have a2:=a6.unflat1
   refine nilO ⟨⟨cI a2 6,trivial⟩,?_⟩
   refine qO rfl<|cX call70 (tg_edge (RdT.flat (hR.up 6 (by rfl))) om a2.flat1 s0.max_ om) ?_
   rintro _ _ ⟨b2,c2,rfl,b6,_,_,c6⟩
   have d6:=c6.unflat1
   unfold numB at b6
   refine nilO ⟨dA,?_⟩
   refine qO rfl<|tW d6 4 6 (I h0) sizeOf3 fun _ e6=>nilO ⟨dA,?_⟩
   refine qU [15]<|qO rfl<|tW e6 4 7 (I k0) sizeOf3 fun _ f6=>nilO ⟨dA,?_⟩
   refine qU [17]<|qO rfl<|tW f6 4 17 (I c0) sizeOf3 fun _ g6=>nilO ⟨dA,?_⟩
   refine qU [19]<|qO rfl<|tW g6 4 11 (I z1) sizeOf3 fun _ h6=>nilO ⟨dA,?_⟩
   refine qU [21]<|qO rfl<|tW h6 4 4 (.agg #[I b2,I c2]) sizeOf49 fun _ r0=>nilO ⟨dA,?_⟩
   refine qN<|tN ?_
   have hkk:=mul_bd (a:=h0) (b:=k0) (A:=5) (B:=3) om om
   refine rE<|pu2<|sL r0 4 6 (I h0) (isAgg3 _)<|pu1<|sL r0 4 7 (I k0) (isAgg3 _)<|sMul h0 k0<|cX call71 (tg_weights (RdT.flat (hR.up 6 (by rfl))) om r0.flat1 (h0*k0) om) ?_
   rintro _ _ ⟨d2,e2,f2,i6,j6,rfl,t0,g2,k6,_,l6⟩
   have m6:=l6.unflat2
   have hn_zs_95:=t0.len;have hl_zs_95:=t0.le
   refine pu1<|tW m6 5 8 (.slice d2 e2 f2) sizeOf22 fun _ n6=>nB ?_
   exact ⟨(({zStage with kind:=(1+d0),a:=a0,b:=-1,barrier:=((f0:Int)==3),edgePolicy:=b2,edgeFill:=c2,kW:=h0,kH:=k0,weights:=⟨d2,e2,f2,i6⟩,shift:=z1,max_:=c0}:Stage),j6,k6),alA,((n6.pick 1 rfl).drops [2,2,2,4]),om,{zStage_ok with weights:=t0.of_mem mS},⟨(by simp only [numB,zStage];omega),⟨by have h:=g2.1;dsimp only;omega,g2.2⟩,nl0,nl0,nl0,nl0,nl0⟩,⟨rfl,by first|(left;rfl)|(right;exact ⟨rfl,om⟩)⟩⟩
  refine qO rfl<|sBS q0 #[I 1,I 3,I 2] runUnderlying22 sizeOf3 zeroValue3 fun _ _ h2=>nilO ⟨⟨cI h2 6,trivial⟩,?_⟩
  refine qO rfl ?_
  have p6:=(h2.pick 2 rfl)
  refine cX call42 (tape_pick (RdT.flat (hR.up 6 (by rfl))) om p6.flat1 (RdT.flat (RdT.blk (enc:=Go.E.encI) (sz:=1) (xs:=[1,3,2,5]) (fun _=>(by rfl)) 4 1 rfl rfl rfl om)) om om) ?_
  rintro _ _ ⟨i0,rfl,q6,_,_,r6⟩
  have i2:=r6.unflat1
  have vd:(i0:Int)=1\/(i0:Int)=3\/(i0:Int)=2\/(i0:Int)=5:=by simpa using q6
  refine nilO ⟨⟨cI i2 6,trivial⟩,?_⟩
  refine qU [13]<|qO rfl<|cX call42 (tape_pick (RdT.flat (hR.up 6 (by rfl))) om i2.flat1 (RdT.flat (RdT.blk (enc:=Go.E.encI) (sz:=1) (xs:=[1,3,2]) (fun _=>(by rfl)) 3 0 rfl rfl rfl om)) om om) ?_
  rintro _ _ ⟨l0,rfl,s6,_,_,t6⟩
  have j2:=t6.unflat1
  have zd:(l0:Int)=1\/(l0:Int)=3\/(l0:Int)=2:=by simpa using s6
  refine nilO ⟨⟨cI j2 6,trivial⟩,?_⟩
  refine qO rfl<|cX call15 (tape_next (RdT.flat (hR.up 6 (by rfl))) om j2.flat1 4 om) ?_
  rintro _ _ ⟨k2,rfl,_,_,_,u6⟩
  have l2:=u6.unflat1
  refine nilO ⟨⟨cI l2 6,trivial⟩,?_⟩
  refine qO rfl<|cX call70 (tg_edge (RdT.flat (hR.up 6 (by rfl))) om l2.flat1 s0.max_ om) ?_
  rintro _ _ ⟨m2,n2,rfl,v6,_,_,w6⟩
  have x6:=w6.unflat1
  unfold numB at v6
  refine nilO ⟨dA,?_⟩
  refine qO rfl<|tW x6 4 6 (I i0) sizeOf3 fun _ y6=>nilO ⟨dA,?_⟩
  refine qU [15]<|qO rfl<|tW y6 4 7 (I l0) sizeOf3 fun _ z6=>nilO ⟨dA,?_⟩
  refine qU [17]<|qO rfl<|tW z6 4 17 (I c0) sizeOf3 fun _ a7=>nilO ⟨dA,?_⟩
  refine qU [19]<|qO rfl<|tW a7 4 11 (I k2) sizeOf3 fun _ b7=>nilO ⟨dA,?_⟩
  refine qU [21]<|qO rfl<|tW b7 4 4 (.agg #[I m2,I n2]) sizeOf49 fun _ u0=>nilO ⟨dA,?_⟩
  refine qN<|tN ?_
  have hkk:=mul_bd (a:=i0) (b:=l0) (A:=5) (B:=3) om om
  refine rE<|pu2<|sL u0 4 6 (I i0) (isAgg3 _)<|pu1<|sL u0 4 7 (I l0) (isAgg3 _)<|sMul i0 l0<|cX call71 (tg_weights (RdT.flat (hR.up 6 (by rfl))) om u0.flat1 (i0*l0) om) ?_
  rintro _ _ ⟨o2,p2,q2,c7,d7,rfl,v0,r2,e7,_,f7⟩
  have g7:=f7.unflat2
  have hn_zs_155:=v0.len;have hl_zs_155:=v0.le
  refine pu1<|tW g7 5 8 (.slice o2 p2 q2) sizeOf22 fun _ h7=>nB ?_
  exact ⟨(({zStage with kind:=(1+d0),a:=a0,b:=-1,barrier:=((f0:Int)==3),edgePolicy:=m2,edgeFill:=n2,kW:=i0,kH:=l0,weights:=⟨o2,p2,q2,c7⟩,shift:=k2,max_:=c0}:Stage),d7,e7),alA,((h7.pick 1 rfl).drops [2,2,2,4]),om,{zStage_ok with weights:=v0.of_mem mS},⟨(by simp only [numB,zStage];omega),⟨by have h:=r2.1;dsimp only;omega,r2.2⟩,nl0,nl0,nl0,nl0,nl0⟩,⟨rfl,by first|(left;rfl)|(right;exact ⟨rfl,om⟩)⟩⟩
 refine sR<|pu2<|nT<|cE (1+d0) 2 (fun j7=>?_) (fun j7=>?_)
 ·refine drawE [2,4,7,9,12,14,18,20,22,24,26,28,30] [(17,⟨m0,2,none⟩,I s0.max_)] [(true,[0,1,5,6,10,11,13,15,16]),(true,[17]),(false,[2]),(true,[3]),(false,[4]),(true,[19]),(false,[7]),(true,[8]),(false,[9]),(false,[12]),(false,[14]),(false,[18]),(false,[20]),(true,[21]),(false,[22]),(true,[23]),(false,[24]),(true,[25]),(false,[26]),(true,[27]),(false,[28]),(true,[29]),(false,[30])] rfl kr ⟨cI e0 4,trivial⟩ ?_
  have k7:=e0.drew
  refine wU [0,1,5,6,10,11,13,15,16]<|wLd (I s0.max_) 0 isAgg3<|wO rfl<|cX call15 (tape_next (RdT.flat (hR.up 4 (by rfl))) om k7.flat1 4 om) ?_
  rintro _ _ ⟨s2,rfl,_,_,_,l7⟩
  have t2:=l7.unflat1
  refine nilO ⟨⟨cI t2 4,trivial⟩,?_⟩
  refine wAdd 1 s2<|wO rfl<|cX call71 (tg_weights (RdT.flat (hR.up 4 (by rfl))) om t2.flat1 (1+s2) om) ?_
  rintro _ _ ⟨u2,v2,w2,m7,n7,rfl,w0,x2,_,_,o7⟩
  have y2:=o7.unflat2
  have hn_zs_242:=w0.len;have hl_zs_242:=w0.le
  refine nilO ⟨⟨cI y2 5,trivial⟩,?_⟩
  refine wU [19]<|wO rfl<|cX call15 (tape_next (RdT.flat (hR.up 5 (by rfl))) om y2.flat1 4 om) ?_
  rintro _ _ ⟨z2,rfl,_,_,_,p7⟩
  have a3:=p7.unflat1
  refine nilO ⟨⟨cI a3 5,trivial⟩,?_⟩
  refine wAdd 1 z2<|wO rfl<|cX call71 (tg_weights (RdT.flat (hR.up 5 (by rfl))) om a3.flat1 (1+z2) om) ?_
  rintro _ _ ⟨b3,c3,d3,q7,r7,rfl,x0,e3,_,_,s7⟩
  have f3:=s7.unflat2
  have hn_zs_261:=x0.len;have hl_zs_261:=x0.le
  refine nilO ⟨⟨cI f3 6,trivial⟩,?_⟩
  refine wO rfl<|cX call15 (tape_next (RdT.flat (hR.up 6 (by rfl))) om f3.flat1 3 om) ?_
  rintro _ _ ⟨g3,rfl,_,_,_,t7⟩
  have h3:=t7.unflat1
  refine nilO ⟨⟨cI h3 6,trivial⟩,?_⟩
  refine wO rfl<|cX call15 (tape_next (RdT.flat (hR.up 6 (by rfl))) om h3.flat1 4 om) ?_
  rintro _ _ ⟨i3,rfl,_,_,_,u7⟩
  have j3:=u7.unflat1
  refine nilO ⟨⟨cI j3 6,trivial⟩,?_⟩
  refine wO rfl<|cX call70 (tg_edge (RdT.flat (hR.up 6 (by rfl))) om j3.flat1 s0.max_ om) ?_
  rintro _ _ ⟨k3,l3,rfl,v7,w7,_,x7⟩
  have y7:=x7.unflat1
  unfold numB at v7
  refine nilO ⟨dA,?_⟩
  refine wO rfl<|tW y7 4 9 (.slice u2 v2 w2) sizeOf22 fun _ z7=>nilO ⟨dA,?_⟩
  refine wU [21]<|wO rfl<|tW z7 4 10 (.slice b3 c3 d3) sizeOf22 fun _ a8=>nilO ⟨dA,?_⟩
  refine wU [23]<|wO rfl<|tW a8 4 17 (I c0) sizeOf3 fun _ b8=>nilO ⟨dA,?_⟩
  refine wU [25]<|wO rfl<|tW b8 4 11 (I g3) sizeOf3 fun _ c8=>nilO ⟨dA,?_⟩
  refine wU [27]<|wO rfl<|tW c8 4 12 (I i3) sizeOf3 fun _ d8=>nilO ⟨dA,?_⟩
  refine wU [29]<|wO rfl<|tW d8 4 4 (.agg #[I k3,I l3]) sizeOf49 fun _ e8=>nilO ⟨dA,?_⟩
  refine wN<|bN<|tN ?_
  have f8:=((e8.picks [1,2]).drops [3,5])
  exact ⟨(({zStage with kind:=(1+d0),a:=a0,b:=-1,barrier:=((f0:Int)==3),edgePolicy:=k3,edgeFill:=l3,row:=⟨u2,v2,w2,m7⟩,col:=⟨b3,c3,d3,q7⟩,shift:=g3,shift2:=i3,max_:=c0}:Stage),(n7++r7),w7),alA,f8.merge2,om,{zStage_ok with row:=w0.of_mem mS,col:=x0.of_mem mS},⟨(by simp only [numB,zStage];omega),nl0,⟨by have h:=x2.1;dsimp only;omega,x2.2⟩,⟨by have h:=e3.1;dsimp only;omega,e3.2⟩,nl0,nl0,nl0⟩,⟨rfl,by first|(left;rfl)|(right;exact ⟨rfl,om⟩)⟩⟩
 refine sR<|pu2<|nT<|cE (1+d0) 3 (fun h8=>?_) (fun h8=>?_)
 ·refine drawE [3,7,12,14,16,18,20,22,24] [(2,⟨m0,0,none⟩,I s0.w),(6,⟨m0,1,none⟩,I s0.h),(11,⟨m0,2,none⟩,I s0.max_)] [(true,[0,1,4,5,8,9,10]),(true,[2]),(true,[6]),(true,[11]),(false,[3]),(true,[13]),(false,[7]),(false,[12]),(false,[14]),(true,[15]),(false,[16]),(true,[17]),(false,[18]),(true,[19]),(false,[20]),(true,[21]),(false,[22]),(true,[23]),(false,[24])] rfl kr ⟨cI e0 4,cI e0 4,cI e0 4,trivial⟩ ?_
  have i8:=e0.drew
  refine wU [0,1,4,5,8,9,10]<|wLd (I s0.w) 0 isAgg3<|wLd (I s0.h) 1 isAgg3<|wLd (I s0.max_) 2 isAgg3<|wO rfl<|cX call72 (tg_table (RdT.flat (hR.up 4 (by rfl))) om i8.flat1 s0.w om) ?_
  rintro _ _ ⟨m3,n3,o3,j8,k8,rfl,y0,l8,p3,_,_,m8⟩
  have z0:=m8.unflat2
  have hn_zs_311:=y0.len;have hl_zs_311:=y0.le
  refine nilO ⟨⟨dI,cI z0 5,cI z0 5,trivial⟩,?_⟩
  refine wU [13]<|wO rfl<|cX call72 (tg_table (RdT.flat (hR.up 5 (by rfl))) om z0.flat1 s0.h om) ?_
  rintro _ _ ⟨q3,r3,s3,n8,o8,rfl,a1,p8,t3,_,_,q8⟩
  have u3:=q8.unflat2
  have hn_zs_324:=a1.len;have hl_zs_324:=a1.le
  refine nilO ⟨⟨dI,dI,cI u3 6,trivial⟩,?_⟩
  refine wO rfl<|cX call70 (tg_edge (RdT.flat (hR.up 6 (by rfl))) om u3.flat1 s0.max_ om) ?_
  rintro _ _ ⟨v3,w3,rfl,r8,s8,_,t8⟩
  have u8:=t8.unflat1
  unfold numB at r8
  refine nilO ⟨dA,?_⟩
  refine wO rfl<|tW u8 4 13 (.slice m3 n3 o3) sizeOf50 fun _ v8=>nilO ⟨dA,?_⟩
  refine wU [15]<|wO rfl<|tW v8 4 14 (.slice q3 r3 s3) sizeOf50 fun _ w8=>nilO ⟨dA,?_⟩
  refine wU [17]<|wO rfl<|tW w8 4 17 (I c0) sizeOf3 fun _ x8=>nilO ⟨dA,?_⟩
  refine wU [19]<|wO rfl<|tW x8 4 11 (I 8) sizeOf3 fun _ y8=>nilO ⟨dA,?_⟩
  refine wU [21]<|wO rfl<|tW y8 4 12 (I 8) sizeOf3 fun _ z8=>nilO ⟨dA,?_⟩
  refine wU [23]<|wO rfl<|tW z8 4 4 (.agg #[I v3,I w3]) sizeOf49 fun _ a9=>nilO ⟨dA,?_⟩
  refine wN<|bN<|tN ?_
  have b9:=((a9.picks [1,2]).drops [3,5])
  exact ⟨(({zStage with kind:=(1+d0),a:=a0,b:=-1,barrier:=((f0:Int)==3),edgePolicy:=v3,edgeFill:=w3,shift:=8,shift2:=8,x:=⟨m3,n3,o3,j8⟩,y:=⟨q3,r3,s3,n8⟩,max_:=c0}:Stage),(k8++o8),s8),alA,b9.merge2,om,{zStage_ok with x:=y0.of_mem mS,xD:=fun z hz=>(l8 z hz).of_mem mS,y:=a1.of_mem mS,yD:=fun z hz=>(p8 z hz).of_mem mS},⟨(by simp only [numB,zStage];omega),nl0,nl0,nl0,⟨by have h:=p3.1;dsimp only;omega,p3.2⟩,⟨by have h:=t3.1;dsimp only;omega,t3.2⟩,nl0⟩,⟨rfl,by first|(left;rfl)|(right;exact ⟨rfl,om⟩)⟩⟩
 refine sR<|pu2<|nT<|cE (1+d0) 4 (fun d9=>?_) (fun d9=>?_)
 ·refine rE<|pu1<|sBS e0 #[I 4,I 1,I 7] runUnderlying22 sizeOf3 zeroValue3 fun _ _ e9=>?_
  have f9:=(e9.pick 1 rfl)
  refine cX call42 (tape_pick (RdT.flat (hR.up 5 (by rfl))) om f9.flat1 (RdT.flat (RdT.blk (enc:=Go.E.encI) (sz:=1) (xs:=[4,1,7]) (fun _=>(by rfl)) 3 0 rfl rfl rfl om)) om om) ?_
  rintro _ _ ⟨n0,rfl,g9,h9,_,i9⟩
  have j9:=i9.unflat1
  have pg:(n0:Int)=4\/(n0:Int)=1\/(n0:Int)=7:=by simpa using g9
  refine pu1<|tW j9 3 15 (I n0) sizeOf3 fun _ k9=>nB ?_
  have l9:=(k9.drops [1,1,3])
  exact ⟨(({zStage with kind:=(1+d0),a:=a0,b:=-1,barrier:=((f0:Int)==3),bins:=n0}:Stage),[],h9),alA,(Sat.nilc l9),om,{zStage_ok with},⟨(by simp only [numB,zStage];omega),nl0,nl0,nl0,nl0,nl0,nl0⟩,⟨rfl,by first|(left;rfl)|(right;exact ⟨rfl,om⟩)⟩⟩
 refine sR<|pu2<|nT<|cE (1+d0) 6 (fun n9=>?_) (fun n9=>?_)
 rotate_left
 ·refine skipE<|bN<|tN ?_
  have o9:=(e0.drops [1,3])
  exact ⟨(({zStage with kind:=(1+d0),a:=a0,b:=-1,barrier:=((f0:Int)==3)}:Stage),[],w4),alA,(Sat.nilc o9),om,{zStage_ok with},⟨(by simp only [numB,zStage];omega),nl0,nl0,nl0,nl0,nl0,nl0⟩,⟨rfl,by first|(left;rfl)|(right;exact ⟨rfl,om⟩)⟩⟩
 refine seqE<|sR<|pu3<|sD 110 (b0>=0) (fun q9=>?_) (fun q9=>?_)
 rotate_left
 ·refine pu4<|nT<|cFf<|kT<|rE<|pu2<|sL e0 2 2 (I (-1)) (isAgg3 _)<|pu1<|cX call73 (tg_ops (RdT.flat (hR.up 4 (by rfl))) om e0.flat1 false) ?_
  rintro _ _ ⟨x3,y3,z3,r9,s9,rfl,b1,a4,t9,_,u9⟩
  have v9:=u9.unflat2
  have hn_zs_422:=b1.len;have hl_zs_422:=b1.le
  refine pu2<|tW v9 3 16 (.slice x3 y3 z3) sizeOf51 fun _ w9=>pu1<|tW w9 3 17 (I c0) sizeOf3 fun _ x9=>nB ?_
  exact ⟨(({zStage with kind:=(1+d0),a:=a0,b:=-1,barrier:=((f0:Int)==3),ops:=⟨x3,y3,z3,r9⟩,max_:=c0}:Stage),s9,t9),alA,((x9.pick 1 rfl).drops [2,4]),om,{zStage_ok with ops:=b1.of_mem mS},⟨(by simp only [numB,zStage];omega),nl0,nl0,nl0,nl0,nl0,⟨by have h:=a4.1;dsimp only;omega,a4.2⟩⟩,⟨rfl,by first|(left;rfl)|(right;exact ⟨rfl,om⟩)⟩⟩
 refine pu1<|gY<|cX call15 (tape_next (RdT.flat (hR.up 4 (by rfl))) om e0.flat1 2 om) ?_
 rintro _ _ ⟨z9,rfl,_,_,_,aa⟩
 have c1:=aa.unflat1
 refine pu2<|nT<|cE z9 0 (fun ba=>?_) (fun ba=>?_)
 rotate_left
 ·refine kT<|rE<|pu2<|sL c1 2 2 (I (-1)) (isAgg3 _)<|pu1<|cX call73 (tg_ops (RdT.flat (hR.up 4 (by rfl))) om c1.flat1 false) ?_
  rintro _ _ ⟨b4,c4,d4,ca,da,rfl,d1,e4,ea,_,fa⟩
  have ga:=fa.unflat2
  have hn_zs_405:=d1.len;have hl_zs_405:=d1.le
  refine pu2<|tW ga 3 16 (.slice b4 c4 d4) sizeOf51 fun _ ha=>pu1<|tW ha 3 17 (I c0) sizeOf3 fun _ ia=>nB ?_
  exact ⟨(({zStage with kind:=(1+d0),a:=a0,b:=-1,barrier:=((f0:Int)==3),ops:=⟨b4,c4,d4,ca⟩,max_:=c0}:Stage),da,ea),alA,((ia.pick 1 rfl).drops [2,4]),om,{zStage_ok with ops:=d1.of_mem mS},⟨(by simp only [numB,zStage];omega),nl0,nl0,nl0,nl0,nl0,⟨by have h:=e4.1;dsimp only;omega,e4.2⟩⟩,⟨rfl,by first|(left;rfl)|(right;exact ⟨rfl,om⟩)⟩⟩
 refine rE<|pu2<|tW c1 2 2 (I b0) sizeOf3 fun _ f4=>nT<|rE<|pu2<|sL f4 2 2 (I b0) (isAgg3 _)<|pu1<|cX call73 (tg_ops (RdT.flat (hR.up 4 (by rfl))) om f4.flat1 (decide ((b0:Int)>=0))) ?_
 rintro _ _ ⟨g4,h4,i4,ka,la,rfl,e1,j4,ma,_,na⟩
 have oa:=na.unflat2
 have hn_zs_388:=e1.len;have hl_zs_388:=e1.le
 refine pu2<|tW oa 3 16 (.slice g4 h4 i4) sizeOf51 fun _ pa=>pu1<|tW pa 3 17 (I c0) sizeOf3 fun _ qa=>nB ?_
 exact ⟨(({zStage with kind:=(1+d0),a:=a0,b:=b0,barrier:=((f0:Int)==3),ops:=⟨g4,h4,i4,ka⟩,max_:=c0}:Stage),la,ma),alA,((qa.pick 1 rfl).drops [2,4]),om,{zStage_ok with ops:=e1.of_mem mS},⟨(by simp only [numB,zStage];omega),nl0,nl0,nl0,nl0,nl0,⟨by have h:=j4.1;dsimp only;omega,j4.2⟩⟩,⟨rfl,by first|(left;rfl)|(right;exact ⟨rfl,om⟩)⟩⟩
theorem tg_shapes {p:Nat} {a:Option Addr} {n k:Nat} {i:Int} {xs:List Int} (hR:RdT Go.E.encI 1 [H] a n k xs) (hi:0<=i/\i<=n) (hS:Sat W w ([(p, .cells #[.slice a n k,I i] 81 (0,0))]::H::F)) (j0:Job) (hj0:Job.Ok [H] j0) (l0:List Shape) (hgood:Good (j0.inputs.l.map Plane.v) (j0.stages.l.map Stage.v) j0.priority) (hrun:runS ((j0.inputs.l.map Plane.v).map shpOf) (j0.stages.l.map Stage.v)=some l0):
  Calls prog 44 #[Pt p 0, .agg (encJob j0).toArray] w fun e w'=>∃(az:Option Addr) (nz:Nat) (kz:Nat) (G:Chunk),e= .returned (.slice az nz kz)/\(RdT encShape 3 [G] az nz kz l0)/\∃i':Int,(0<=i'/\i'<=n)/\Sat W w' ([(p, .cells #[.slice a n k,I i'] 81 (0,0))]::G::H::F):=by
 have hl_j0_inputs:=hj0.inputs.le;have hn_j0_inputs:=hj0.inputs.len
 have hl_j0_stages:=hj0.stages.le;have hn_j0_stages:=hj0.stages.len
 have hl_j0_outputs:=hj0.outputs.le;have hn_j0_outputs:=hj0.outputs.len
 have hle:=hR.le
 have hmi:(j0.inputs.l.map Plane.v).length=j0.inputs.n:=by simp [hn_j0_inputs]
 have hms:(j0.stages.l.map Stage.v).length=j0.stages.n:=by simp [hn_j0_stages]
 have hgni:=hgood.ni;have hgns:=hgood.ns
 refine callsA 40 func44 rfl<|sR<|sBox hS (.agg (encJob j0).toArray) (encJob j0).toArray fun h0 _ c0=>pu1<|zQ<|pu1<|sL c0 0 1 (.slice j0.stages.a j0.stages.n j0.stages.k) (isAgg26 _)<|pu2<|nT<|cE (j0.stages.n:Int) 0 (fun k0=>?_) (fun k0=>?_)
 rotate_left
 ·refine kS<|sBS c0 #[I 0] runUnderlying22 sizeOf3 zeroValue3 fun d0 _ m0=>pu1<|tW m0 1 2 (.slice (At d0 0) 1 1) sizeOf22 fun _ i0=>zS<|lA i0 1 0 4 (isAgg28 _) (sizeOf28 _)<|cX call96 (r17_shapes (⟨j0.inputs,j0.stages,⟨(At d0 0),1,1,[0]⟩,j0.priority⟩:Job) ⟨(RdT.flat (hj0.inputs.up 3 (by rfl))),(fun z hz=>(hj0.inputsD z hz).of_mem (mem_flat1 3 (by rfl))),(RdT.flat (hj0.stages.up 3 (by rfl))),(fun z hz=>(hj0.stagesD z hz).of_mem (mem_flat1 3 (by rfl))),(RdT.flat (RdT.blk (enc:=Go.E.encI) (sz:=1) (xs:=[0]) (fun _=>(by rfl)) 1 0 rfl rfl rfl om))⟩ (od) i0.flat) ?_
  rintro _ _ ⟨n0,o0,p0,q0,rfl,f0,r0⟩
  have s0:=r0.unflat1
  have hn_az_37:=f0.len;have hl_az_37:=f0.le
  refine pu7<|zS<|pu2<|zE<|retT [.slice n0 o0 p0] ?_
  have hl0:l0=(shpV (jobOf (j0.inputs.l.map Plane.v) (j0.stages.l.map Stage.v) j0.priority)).1:=by rw [(shp_run hgood (by rw [hms];omega)).1 l0 hrun]
  have hrd:=f0
  have e0:((shpV (⟨j0.inputs,j0.stages,⟨(At d0 0),1,1,[0]⟩,j0.priority⟩:Job).v).1)=l0:=hl0.symm;rw [e0] at hrd
  exact ⟨_,_,_,q0,rfl,hrd,_,om,((s0.pick 3 rfl).drops [2,2])⟩
 refine sR<|pu1<|zQ<|pu1<|nT<|blockE ?_
 have u0:=Sat.nilc c0
 refine loopA (γ:=Nat×Int×(List Shape)×(Option Addr)×Nat×Nat×Chunk) (fun ⟨i,iti,zs,azs,nzs,kzs,czs⟩=>[(3,Pt h0 0),(6,I (i:Int)),(5, .slice azs nzs kzs)]) (fun ⟨i,iti,zs,azs,nzs,kzs,czs⟩ w=>Sat W w (czs::[(h0, .cells (encJob j0).toArray 28 (0,0))]::[(p, .cells #[.slice a n k,I iti] 81 (0,0))]::H::F)/\i<=j0.inputs.n/\(zs=((j0.inputs.l.map Plane.v).take i).map shpOf)/\(zs.length=i)/\(0<=iti/\iti<=n)/\OwnT encShape 65 3 azs nzs kzs zs czs) (fun ⟨i,iti,zs,azs,nzs,kzs,czs⟩=>j0.inputs.n-i) (0,i,[],none,0,0,[]) ⟨u0,om,by rfl,by rfl,om,(OwnT.nil (enc:=encShape) (E:=65) (sz:=3) fR)⟩ ?_
 rintro ⟨i,iti,zs,azs,nzs,kzs,czs⟩ ρ _ ⟨b0,hi,hzs,hzl,hiti,hOzs⟩
 have hn_zs:=hOzs.len;have hl_zs:=hOzs.le
 refine seqE<|sR<|pu2<|sL b0 1 0 (.slice j0.inputs.a j0.inputs.n j0.inputs.k) (isAgg25 _)<|pu2<|nT<|cD ((i:Int)<(j0.inputs.n:Int)) (fun w0=>?_) (fun w0=>?_)
 rotate_left
 ·refine exitE<|xB<|tN<|sR<|pu2<|zR<|retT [.slice azs nzs kzs] ?_
  have hl0:l0=zs:=by
   have h:=hrun;rw [show (j0.stages.l.map Stage.v)=[] from List.eq_nil_of_length_eq_zero (by rw [hms];omega)] at h;simp only [runS,Option.some.injEq] at h;rw [<-h,hzs,List.take_of_length_le (by rw [hmi];omega)]
  have hrd:=(hOzs.rdAt (cs:=[czs]) 0 rfl)
  have e0:zs=l0:=hl0.symm;rw [e0] at hrd
  exact ⟨_,_,_,czs,rfl,hrd,_,om,((b0.pick 2 rfl).dropAt 2 rfl)⟩
 refine kT<|seqE<|blockE<|rE<|pu2<|sL b0 1 0 (.slice j0.inputs.a j0.inputs.n j0.inputs.k) (isAgg25 _)<|pu1<|sIdx hj0.inputs (i:Int) runUnderlying25 sizeOf38 fun a0 _ _ g0 y0=>?_
 rw [Int.toNat_natCast] at g0
 refine sLpA b0 (y0.up 3 rfl) 0 (encPlane a0) (isAgg38 _) (sizeOf38 _)<|cR call25 (r17_of a0 ⟨(RdT.flat ((hj0.inputsD a0 (List.mem_of_getElem? g0)).pix.up 3 (by rfl)))⟩ b0.flat) fun _ z0=>sBS z0 #[I a0.w,I a0.h,I a0.max_] runUnderlying82 sizeOf65 zeroValue65 fun _ _ a1=>sApp (nb:=24) a1 hOzs 1 (RdT.blk (enc:=encShape) (sz:=3) (xs:=[(⟨a0.w,a0.h,a0.max_⟩:Shape)]) fR 1 0 rfl rfl rfl om) underlying82 (i:=Tryz.t65) kr fR fun b1 c1 d1 _ e1 f1=>pu1<|nB<|rE<|pu1<|sAdd (i:Int) 1<|pu1<|nT ?_
 exact ⟨(i+1,iti,(zs++[(⟨a0.w,a0.h,a0.max_⟩:Shape)]),b1,(nzs+1),c1,d1),od,alA,(f1.dropAt 0 rfl),om,by rw [take_succ_at (map_at (f:=Plane.v) g0),List.map_append,<-hzs];rfl,by simp;omega,om,e1⟩
end Go.Proofs.YtmlhcafjelkjfaaGreat
