import Derived.WalkKit
import Derived.Deep.Quiet
import Derived.KernelRfl
import Derived.Laws.BytesString
import Derived.Laws.Shifts
import Derived.Laws.IdiomStrings
import Derived.OpenShut
import Derived.Test.YtdingplbadblpaaGreatProg
import Derived.Test.YtdingplbadblpaaGreatR3Q3Lc
namespace Go.Proofs.YtdingplbadblpaaGreat
open Go Go.E Go.Proofs.Tryz
set_option linter.all false
set_option maxRecDepth 100000
set_option maxHeartbeats 2000000
variable {W w:World} {H:Chunk} {F:List Chunk}
def planeB (q:Plane):Prop:=q.pix.l.length<=64/\∀z∈q.pix.l,numB z
theorem tg_weights {p:Nat} {a:Option Addr} {n k:Nat} {i:Int} {xs:List Int} (hR:RdT Go.E.encI 1 [H] a n k xs) (hi:0<=i/\i<=n) (hS:Sat W w ([(p, .cells #[.slice a n k,I i] 85 (0,0))]::H::F)) (m0:Int) (hm:m0<=64):
  Calls prog 62 #[Pt p 0,I m0] w fun e w'=>∃(az:Option Addr) (nz:Nat) (kz:Nat) (zs:List Int) (G:Chunk),e= .returned (.slice az nz kz)/\(RdT Go.E.encI 1 [G] az nz kz zs)/\((zs.length:Int)=max m0 0/\∀z∈zs,numB z)/\∃i':Int,(0<=i'/\i'<=n)/\Sat W w' ([(p, .cells #[.slice a n k,I i'] 85 (0,0))]::G::H::F):=by
 have hle:=hR.le
 refine callsA 22 func62 rfl<|sR<|pu1<|zS<|pu1<|zQ<|pu1<|nT<|blockE ?_
 have d0:=Sat.nilc hS
 refine loopA (γ:=Nat×Int×(List Int)×(Option Addr)×Nat×Nat×Chunk) (fun ⟨i,iti,zs,azs,nzs,kzs,czs⟩=>[(0,Pt p 0),(1,I m0),(6,I (i:Int)),(5, .slice azs nzs kzs)]) (fun ⟨i,iti,zs,azs,nzs,kzs,czs⟩ w=>Sat W w (czs::[(p, .cells #[.slice a n k,I iti] 85 (0,0))]::H::F)/\i<=m0.toNat/\(∀z∈zs,numB z)/\(zs.length=i)/\(0<=iti/\iti<=n)/\OwnT Go.E.encI 3 1 azs nzs kzs zs czs) (fun ⟨i,iti,zs,azs,nzs,kzs,czs⟩=>m0.toNat-i) (0,i,[],none,0,0,[]) ⟨d0,om,(by intro z hz;cases hz),by rfl,om,(OwnT.nil (enc:=Go.E.encI) (E:=3) (sz:=1) fR)⟩ ?_
 rintro ⟨i,iti,zs,azs,nzs,kzs,czs⟩ ρ _ ⟨c0,hi,hB,hzl,hiti,hOzs⟩
 have hn_zs:=hOzs.len;have hl_zs:=hOzs.le
 refine seqE<|sR<|pu3<|nT<|cD ((i:Int)<m0) (fun f0=>?_) (fun f0=>?_)
 rotate_left
 ·exact exitE<|xB<|tN<|sR<|pu2<|zE<|retT [.slice azs nzs kzs]<|⟨_,_,_,zs,czs,rfl,(hOzs.rdAt (cs:=[czs]) 0 rfl),⟨om,hB⟩,_,om,(c0.pick 1 rfl)⟩
 refine kT<|seqE<|blockE<|rE<|pu3 ?_
 have h0:=(c0.pick 1 rfl)
 refine cX call13 (tape_next (RdT.flat (hR.up 1 (by rfl))) om h0.flat1 41 om) ?_
 rintro _ _ ⟨b0,rfl,_,_,_,i0⟩
 have j0:=i0.unflat1
 refine sSub b0 20<|sBS j0 #[I 1,I 2,I (-1),I 0,I (b0-20),I 5] runUnderlying22 sizeOf3 zeroValue3 fun _ _ k0=>?_
 have l0:=(k0.pick 1 rfl)
 refine cX call38 (tape_pick (RdT.flat (hR.up 2 (by rfl))) om l0.flat1 (RdT.flat (RdT.blk (enc:=Go.E.encI) (sz:=1) (xs:=[1,2,-1,0,(b0-20),5]) (fun _=>(by rfl)) 6 0 rfl rfl rfl om)) om om) ?_
 rintro _ _ ⟨a0,rfl,n0,o0,_,p0⟩
 have q0:=p0.unflat1
 have h1:(a0:Int)=1\/(a0:Int)=2\/(a0:Int)=(-1)\/(a0:Int)=0\/(a0:Int)=(b0-20)\/(a0:Int)=5:=by simpa using n0
 refine sBS q0 #[I a0] runUnderlying22 sizeOf3 zeroValue3 fun _ _ r0=>sApp (nb:=8) r0 hOzs 3 (RdT.blk (enc:=Go.E.encI) (sz:=1) (xs:=[a0]) fR 1 0 rfl rfl rfl om) underlying22 (i:=Tryz.t3) kr fR fun s0 t0 u0 _ v0 w0=>pu1<|nB<|rE<|pu1<|sAdd (i:Int) 1<|pu1<|nT ?_
 exact ⟨(i+1,o0,(zs++[a0]),s0,(nzs+1),t0,u0),od,alA,((w0.pick 3 rfl).drops [1,2]),om,mem_snoc hB (by unfold numB;omega),by simp;omega,om,v0⟩
theorem tg_edge {p:Nat} {a:Option Addr} {n k:Nat} {i:Int} {xs:List Int} (hR:RdT Go.E.encI 1 [H] a n k xs) (hi:0<=i/\i<=n) (hS:Sat W w ([(p, .cells #[.slice a n k,I i] 85 (0,0))]::H::F)) (mx:Int) (hmx:0<=mx/\mx<=4294967296):
  Calls prog 61 #[Pt p 0,I mx] w fun e w'=>∃(ep:Int) (ef:Int),e= .returned (.agg #[I ep,I ef])/\(numB ep/\numB ef)/\∃i':Int,(0<=i'/\i'<=n)/\Sat W w' ([(p, .cells #[.slice a n k,I i'] 85 (0,0))]::H::F):=by
 have hle:=hR.le
 refine callsA 20 func61 rfl<|sR<|sAlloc hS zeroValue34 fun _ _ g0=>zS<|pu1 ?_
 have h0:=(g0.pick 1 rfl)
 refine cX call13 (tape_next (RdT.flat (hR.up 1 (by rfl))) om h0.flat1 4 om) ?_
 rintro _ _ ⟨a0,rfl,_,_,_,i0⟩
 have j0:=i0.unflat1
 refine pu1<|sAlloc j0 zeroValue34 fun _ _ k0=>?_
 refine sT k0 0 0 (.agg #[I a0,I 0]) [I a0,I 0] #[I a0,I 0] sizeOf34 fun _ c0=>zQ<|pu1<|sL c0 0 0 (I a0) (isAgg3 _)<|pu1<|nT<|cE a0 3 (fun l0=>?_) (fun l0=>?_)
 rotate_left
 ·refine kS<|lA c0 0 0 2 (isAgg34 _) (sizeOf34 _)<|sT c0 2 0 (.agg #[I a0,I 0]) [I a0,I 0] #[I a0,I 0] sizeOf34 fun _ d0=>zE<|retN (vs:=[.agg #[I a0,I 0]]) rfl (.cons (.cell _ _ _ _ kr (lvA d0 2 0 [I a0,I 0] (isAgg34 _) (sizeOf34 _) rfl rfl rfl)) .nil) ?_
  exact ⟨a0,0,rfl,by unfold numB;omega,_,om,(d0.drops [0,1])⟩
 have hd:=tdiv_bd (a:=mx) (b:=2) (A:=4294967296) om om
 refine rE<|pu3<|sQuo mx 2<|sBS c0 #[I 0,I mx,I (mx.tdiv 2)] runUnderlying22 sizeOf3 zeroValue3 fun _ _ n0=>?_
 have o0:=(n0.pick 2 rfl)
 refine cX call38 (tape_pick (RdT.flat (hR.up 3 (by rfl))) om o0.flat1 (RdT.flat (RdT.blk (enc:=Go.E.encI) (sz:=1) (xs:=[0,mx,(mx.tdiv 2)]) (fun _=>(by rfl)) 3 0 rfl rfl rfl om)) om om) ?_
 rintro _ _ ⟨b0,rfl,p0,_,_,q0⟩
 have r0:=q0.unflat1
 have i1:(b0:Int)=0\/(b0:Int)=mx\/(b0:Int)=(mx.tdiv 2):=by simpa using p0
 refine pu1<|sT r0 2 1 (I b0) [I b0] #[I a0,I b0] sizeOf3 fun _ e0=>zS<|lA e0 2 0 2 (isAgg34 _) (sizeOf34 _)<|sT e0 3 0 (.agg #[I a0,I b0]) [I a0,I b0] #[I a0,I b0] sizeOf34 fun _ f0=>zE<|retN (vs:=[.agg #[I a0,I b0]]) rfl (.cons (.cell _ _ _ _ kr (lvA f0 3 0 [I a0,I b0] (isAgg34 _) (sizeOf34 _) rfl rfl rfl)) .nil) ?_
 exact ⟨a0,b0,rfl,by unfold numB;omega,_,om,(f0.drops [1,1,1])⟩
theorem tg_sized {p:Nat} {a:Option Addr} {n k:Nat} {i:Int} {xs:List Int} (hR:RdT Go.E.encI 1 [H] a n k xs) (hi:0<=i/\i<=n) (hS:Sat W w ([(p, .cells #[.slice a n k,I i] 85 (0,0))]::H::F)) (w0:Int) (h0:Int) (hwh:(1<=w0/\w0<=8)/\1<=h0/\h0<=8):
  Calls prog 43 #[Pt p 0,I w0,I h0] w fun e w'=>∃(q:Plane) (G:Chunk),e= .returned (.agg (encPlane q).toArray)/\(Plane.Ok [G] q)/\(q.w=w0/\q.h=h0/\planeOK q.v=true/\planeB q)/\∃i':Int,(0<=i'/\i'<=n)/\Sat W w' ([(p, .cells #[.slice a n k,I i'] 85 (0,0))]::G::H::F):=by
 have hle:=hR.le
 have hwh2:=mul_bd (a:=w0) (b:=h0) (A:=8) (B:=8) om om
 refine callsA 46 func43 rfl<|sR<|sAlloc hS zeroValue87 fun s0 _ b2=>nT<|cutA (γ:=Nat×Int×(Option Addr)×Chunk×Int) (fun ⟨b7,mx,a1,c1,itc⟩=>[(0,Pt p 0),(6,Pt s0 0),(7,Pt b7 0)]) (fun ⟨b7,mx,a1,c1,itc⟩ w=>Sat W w ([(p, .cells #[.slice a n k,I itc] 85 (0,0))]::[(b7, .cells #[I w0,I h0,I mx, .slice a1 (((w0*h0)).toNat) (((w0*h0)).toNat)] 87 (0,0))]::c1::[(s0, .cells #[I 0,I 0,I 0,nS] 87 (0,0))]::H::F)/\(0<=itc/\itc<=n)/\(1<=mx/\mx<=65535)/\OwnT Go.E.encI 3 1 a1 (((w0*h0)).toNat) (((w0*h0)).toNat) (List.replicate (((w0*h0)).toNat) 0) c1) ?_ ?_
 rotate_left
 ·rintro ⟨b7,mx,a1,c1,itc⟩ ρ _ ⟨c2,hitc,hmx,hO1⟩
  refine seqE<|sR<|pu1<|nT<|blockE ?_
  have d2:=(c2.pick 2 rfl)
  refine loopA (γ:=Nat×Int×(List Int)×(Option Addr)×Nat×Nat×Chunk) (fun ⟨i,iti,zs,azs,nzs,kzs,czs⟩=>[(0,Pt p 0),(6,Pt s0 0),(7,Pt b7 0),(8,I (i:Int))]) (fun ⟨i,iti,zs,azs,nzs,kzs,czs⟩ w=>Sat W w (czs::[(p, .cells #[.slice a n k,I iti] 85 (0,0))]::[(b7, .cells #[I w0,I h0,I mx, .slice azs nzs kzs] 87 (0,0))]::[(s0, .cells #[I 0,I 0,I 0,nS] 87 (0,0))]::H::F)/\i<=((w0*h0)).toNat/\(∀z∈zs,0<=z/\z<=mx)/\(zs.length=((w0*h0)).toNat)/\(0<=iti/\iti<=n)/\OwnT Go.E.encI 3 1 azs nzs kzs zs czs) (fun ⟨i,iti,zs,azs,nzs,kzs,czs⟩=>(((w0*h0)).toNat)-i) (0,itc,(List.replicate (((w0*h0)).toNat) 0),a1,((w0*h0)).toNat,((w0*h0)).toNat,c1) ⟨d2,om,(by intro z hz;have:=List.eq_of_mem_replicate hz;omega),by simp,om,hO1⟩ ?_
  rintro ⟨i,iti,zs,azs,nzs,kzs,czs⟩ ρ _ ⟨n0,hi,hB,hzl,hiti,hOzs⟩
  have hn_zs:=hOzs.len;have hl_zs:=hOzs.le
  refine seqE<|sR<|pu2<|sL n0 2 3 (.slice azs nzs kzs) (isAgg22 _)<|pu2<|nT<|cD ((i:Int)<(nzs:Int)) (fun e2=>?_) (fun e2=>?_)
  rotate_left
  ·refine exitE<|xB<|tN<|sR<|lA n0 2 0 4 (isAgg87 _) (sizeOf87 _)<|sT n0 3 0 (.agg #[I w0,I h0,I mx, .slice azs nzs kzs]) [I w0,I h0,I mx, .slice azs nzs kzs] #[I w0,I h0,I mx, .slice azs nzs kzs] sizeOf87 fun _ m1=>zE<|retN (vs:=[.agg #[I w0,I h0,I mx, .slice azs nzs kzs]]) rfl (.cons (.cell _ _ _ _ kr (lvA m1 3 0 [I w0,I h0,I mx, .slice azs nzs kzs] (isAgg87 _) (sizeOf87 _) rfl rfl rfl)) .nil) ?_
   have hpok:planeOK ⟨w0,h0,mx,zs⟩=true:=planeOK_t (p:=⟨w0,h0,mx,zs⟩) ⟨by unfold sizeP;dsimp only;omega,by dsimp only;omega⟩ (List.all_eq_true.2 (fun z hz=>decide_eq_true (hB z hz)))
   exact ⟨(⟨w0,h0,mx,⟨azs,nzs,kzs,zs⟩⟩:Plane),czs,rfl,⟨(hOzs.rdAt (cs:=[czs]) 0 rfl)⟩,⟨rfl,rfl,hpok,by dsimp only;omega,fun z hz=>by have:=hB z hz;unfold numB;omega⟩,_,om,((m1.pick 1 rfl).drops [2,2])⟩
  refine kT<|seqE<|blockE ?_
  obtain ⟨g2,h2,i2,n1,j2,o1,k2⟩:=OwnT.elem hOzs (i:Int)
  rw [Int.toNat_natCast] at n1 j2 o1
  refine drawE [8,13,16,17,19] [(1,⟨b7,3,none⟩, .slice azs nzs kzs),(6,⟨b7,2,none⟩,I mx),(11,⟨b7,2,none⟩,I mx),(15,⟨b7,2,none⟩,I mx)] [(true,[0,2,3,4,5,9,10,14]),(true,[1]),(true,[6]),(true,[7]),(true,[11]),(true,[12]),(true,[15]),(false,[8]),(false,[13]),(false,[16]),(false,[17]),(true,[18]),(false,[19])] rfl kr ⟨cI n0 2,cI n0 2,cI n0 2,cI n0 2,trivial⟩ ?_
  have l2:=n0.drew
  refine wU [0,2,3,4,5,9,10,14]<|wLd (.slice azs nzs kzs) 0 isAgg22<|wLd (I mx) 1 isAgg3<|wAdd mx 1<|wLd (I mx) 2 isAgg3<|wAdd mx 1<|wLd (I mx) 3 isAgg3<|wO rfl ?_
  have m2:=(l2.pick 1 rfl)
  refine cX call13 (tape_next (RdT.flat (hR.up 3 (by rfl))) om m2.flat1 (mx+1) om) ?_
  rintro _ _ ⟨f1,rfl,_,_,_,n2⟩
  have q0:=n2.unflat1
  refine nilO ⟨⟨cI q0 2,cI q0 2,cI q0 2,cI q0 2,trivial⟩,?_⟩
  refine wO rfl<|cX call13 (tape_next (RdT.flat (hR.up 3 (by rfl))) om q0.flat1 (mx+1) om) ?_
  rintro _ _ ⟨g1,rfl,_,_,_,o2⟩
  have r0:=o2.unflat1
  refine nilO ⟨⟨cI r0 2,cI r0 2,cI r0 2,cI r0 2,trivial⟩,?_⟩
  refine wO rfl<|sBS r0 #[I f1,I g1,I mx,I 0] runUnderlying22 sizeOf3 zeroValue3 fun _ _ t0=>nilO ⟨⟨cI t0 3,cI t0 3,cI t0 3,dI,trivial⟩,?_⟩
  refine wO rfl ?_
  have q2:=(t0.pick 1 rfl)
  refine cX call38 (tape_pick (RdT.flat (hR.up 4 (by rfl))) om q2.flat1 (RdT.flat (RdT.blk (enc:=Go.E.encI) (sz:=1) (xs:=[f1,g1,mx,0]) (fun _=>(by rfl)) 4 0 rfl rfl rfl om)) om om) ?_
  rintro _ _ ⟨o0,rfl,r2,s2,_,t2⟩
  have u0:=t2.unflat1
  have b8:(o0:Int)=f1\/(o0:Int)=g1\/(o0:Int)=mx\/(o0:Int)=0:=by simpa using r2
  refine nilO ⟨⟨cI u0 3,cI u0 3,cI u0 3,dI,trivial⟩,?_⟩
  refine wY (.pointer (some ⟨h2,i2+i*1,none⟩)) rfl (fun w _=>Y_idx (a:=azs) (i:=(i:Int)) (len:=nzs) (cap:=kzs) rfl runUnderlying22 sizeOf3 kr kr o1)<|wO rfl<|sStF u0 hOzs k2 2 i 0 g2 o0 n1 (I o0) [I o0] sizeOf3 fun _ u2 v2 w2=>nilO ⟨dA,?_⟩
  refine wN<|bN<|tN<|rE<|pu1<|sAdd (i:Int) 1<|pu1<|nT ?_
  exact ⟨(i+1,s2,(zs.set i o0),azs,nzs,kzs,u2),od,alA,((w2.pick 2 rfl).dropAt 2 rfl),om,mem_set hB om,by simp;omega,om,v2⟩
 refine drawP [3,4,8,10,11] [] (Plan.sts [0,1,2,5,6]<|Plan.sts [7]<| .f3 3 8 10 (.f3 4 8 10 (.fk 8 10 (Plan.sts [9]<| .ef 10<| .ef 11<| .fin) (.ef 8<|Plan.sts [9]<| .ef 11<| .fin)) (.fk 4 10 (Plan.sts [9]<| .ef 10<| .ef 11<| .fin) (.ef 4<|Plan.sts [9]<| .ef 11<| .fin)) (.fk 4 8 (.ef 8<|Plan.sts [9]<| .ef 11<| .fin) (.ef 4<|Plan.sts [9]<| .ef 11<| .fin))) (.fk 3 10 (.fk 4 10 (Plan.sts [9]<| .ef 10<| .ef 11<| .fin) (.ef 4<|Plan.sts [9]<| .ef 11<| .fin)) (.ef 3<| .ef 4<|Plan.sts [9]<| .ef 11<| .fin)) (.fk 3 8 (.fk 4 8 (.ef 8<|Plan.sts [9]<| .ef 11<| .fin) (.ef 4<|Plan.sts [9]<| .ef 11<| .fin)) (.ef 3<| .ef 4<|Plan.sts [9]<| .ef 11<| .fin))) rfl kr trivial ?_
 have h1:=b2.drew
 refine qU [0,1,2,5,6]<|qMul w0 h0<|qF3 ?_ ?_ ?_
 ·refine qO rfl<|sBS h1 #[I 255,I 255,I 65535,I 1,I 7] runUnderlying22 sizeOf3 zeroValue3 fun _ _ i1=>nilO ⟨trivial,?_⟩
  refine qF3 ?_ ?_ ?_
  ·refine qO rfl ?_
   have y2:=(i1.pick 2 rfl)
   refine cX call38 (tape_pick (RdT.flat (hR.up 2 (by rfl))) om y2.flat1 (RdT.flat (RdT.blk (enc:=Go.E.encI) (sz:=1) (xs:=[255,255,65535,1,7]) (fun _=>(by rfl)) 5 0 rfl rfl rfl om)) om om) ?_
   rintro _ _ ⟨a0,rfl,z2,q1,_,a3⟩
   have r1:=a3.unflat1
   have h8:(a0:Int)=255\/(a0:Int)=255\/(a0:Int)=65535\/(a0:Int)=1\/(a0:Int)=7:=by simpa using z2
   refine nilO ⟨trivial,?_⟩
   refine qF ?_ ?_
   ·refine qO rfl<|sMake (kl:= .i64) (kc:= .i64) (enc:=Go.E.encI) (sz:=1) (nb:=8) r1 0 ((w0*h0)).toNat (w0*h0) (om:(w0*h0)=((((w0*h0)).toNat:Nat):Int)) underlying22 (i:=Tryz.t3) kr fR fun v0 b3 _ c3 d3=>nilO ⟨trivial,?_⟩
    refine qU [9]<|qO rfl<|sAlloc d3 zeroValue87 fun e3 _ g3=>nilO ⟨trivial,?_⟩
    refine qO rfl<|sT g3 0 0 (.agg #[I w0,I h0,I a0, .slice (At v0 0) (((w0*h0)).toNat) (((w0*h0)).toNat)]) [I w0,I h0,I a0, .slice (At v0 0) (((w0*h0)).toNat) (((w0*h0)).toNat)] #[I w0,I h0,I a0, .slice (At v0 0) (((w0*h0)).toNat) (((w0*h0)).toNat)] sizeOf87 fun _ h3=>nilO ⟨trivial,?_⟩
    exact qN<|tN<|⟨(e3,a0,(At v0 0),b3,q1),alA,((h3.pick 2 rfl).dropAt 3 rfl),om,om,c3⟩
   refine qO rfl<|sAlloc r1 zeroValue87 fun j3 _ k3=>nilO ⟨trivial,?_⟩
   refine qO rfl<|sMake (kl:= .i64) (kc:= .i64) (enc:=Go.E.encI) (sz:=1) (nb:=8) k3 0 ((w0*h0)).toNat (w0*h0) (om:(w0*h0)=((((w0*h0)).toNat:Nat):Int)) underlying22 (i:=Tryz.t3) kr fR fun x0 l3 _ m3 n3=>nilO ⟨trivial,?_⟩
   refine qU [9]<|qO rfl<|sT n3 1 0 (.agg #[I w0,I h0,I a0, .slice (At x0 0) (((w0*h0)).toNat) (((w0*h0)).toNat)]) [I w0,I h0,I a0, .slice (At x0 0) (((w0*h0)).toNat) (((w0*h0)).toNat)] #[I w0,I h0,I a0, .slice (At x0 0) (((w0*h0)).toNat) (((w0*h0)).toNat)] sizeOf87 fun _ o3=>nilO ⟨trivial,?_⟩
   exact qN<|tN<|⟨(j3,a0,(At x0 0),l3,q1),alA,((o3.picks [1,2]).dropAt 3 rfl),om,om,m3⟩
  ·refine qO rfl<|sMake (kl:= .i64) (kc:= .i64) (enc:=Go.E.encI) (sz:=1) (nb:=8) i1 0 ((w0*h0)).toNat (w0*h0) (om:(w0*h0)=((((w0*h0)).toNat:Nat):Int)) underlying22 (i:=Tryz.t3) kr fR fun p0 s1 _ t1 u1=>nilO ⟨trivial,?_⟩
   refine qF ?_ ?_
   rotate_left
   ·refine qO rfl<|sAlloc u1 zeroValue87 fun q3 _ r3=>nilO ⟨trivial,?_⟩
    refine qO rfl ?_
    have s3:=(r3.pick 4 rfl)
    refine cX call38 (tape_pick (RdT.flat (hR.up 4 (by rfl))) om s3.flat1 (RdT.flat (RdT.blk (enc:=Go.E.encI) (sz:=1) (xs:=[255,255,65535,1,7]) (fun _=>(by rfl)) 5 2 rfl rfl rfl om)) om om) ?_
    rintro _ _ ⟨c0,rfl,u3,v3,_,w3⟩
    have x3:=w3.unflat1
    have s8:(c0:Int)=255\/(c0:Int)=255\/(c0:Int)=65535\/(c0:Int)=1\/(c0:Int)=7:=by simpa using u3
    refine nilO ⟨trivial,?_⟩
    refine qU [9]<|qO rfl<|sT x3 1 0 (.agg #[I w0,I h0,I c0, .slice (At p0 0) (((w0*h0)).toNat) (((w0*h0)).toNat)]) [I w0,I h0,I c0, .slice (At p0 0) (((w0*h0)).toNat) (((w0*h0)).toNat)] #[I w0,I h0,I c0, .slice (At p0 0) (((w0*h0)).toNat) (((w0*h0)).toNat)] sizeOf87 fun _ y3=>nilO ⟨trivial,?_⟩
    exact qN<|tN<|⟨(q3,c0,(At p0 0),s1,v3),alA,(y3.dropAt 3 rfl),om,om,t1⟩
   refine qO rfl ?_
   have a4:=(u1.pick 3 rfl)
   refine cX call38 (tape_pick (RdT.flat (hR.up 3 (by rfl))) om a4.flat1 (RdT.flat (RdT.blk (enc:=Go.E.encI) (sz:=1) (xs:=[255,255,65535,1,7]) (fun _=>(by rfl)) 5 1 rfl rfl rfl om)) om om) ?_
   rintro _ _ ⟨d0,rfl,b4,c4,_,d4⟩
   have e4:=d4.unflat1
   have w8:(d0:Int)=255\/(d0:Int)=255\/(d0:Int)=65535\/(d0:Int)=1\/(d0:Int)=7:=by simpa using b4
   refine nilO ⟨trivial,?_⟩
   refine qU [9]<|qO rfl<|sAlloc e4 zeroValue87 fun f4 _ g4=>nilO ⟨trivial,?_⟩
   refine qO rfl<|sT g4 0 0 (.agg #[I w0,I h0,I d0, .slice (At p0 0) (((w0*h0)).toNat) (((w0*h0)).toNat)]) [I w0,I h0,I d0, .slice (At p0 0) (((w0*h0)).toNat) (((w0*h0)).toNat)] #[I w0,I h0,I d0, .slice (At p0 0) (((w0*h0)).toNat) (((w0*h0)).toNat)] sizeOf87 fun _ h4=>nilO ⟨trivial,?_⟩
   exact qN<|tN<|⟨(f4,d0,(At p0 0),s1,c4),alA,((h4.pick 1 rfl).dropAt 3 rfl),om,om,t1⟩
  refine qO rfl<|sAlloc i1 zeroValue87 fun v1 _ w1=>nilO ⟨trivial,?_⟩
  refine qF ?_ ?_
  ·refine qO rfl ?_
   have j4:=(w1.pick 3 rfl)
   refine cX call38 (tape_pick (RdT.flat (hR.up 3 (by rfl))) om j4.flat1 (RdT.flat (RdT.blk (enc:=Go.E.encI) (sz:=1) (xs:=[255,255,65535,1,7]) (fun _=>(by rfl)) 5 1 rfl rfl rfl om)) om om) ?_
   rintro _ _ ⟨e0,rfl,k4,l4,_,m4⟩
   have n4:=m4.unflat1
   have c9:(e0:Int)=255\/(e0:Int)=255\/(e0:Int)=65535\/(e0:Int)=1\/(e0:Int)=7:=by simpa using k4
   refine nilO ⟨trivial,?_⟩
   refine qO rfl<|sMake (kl:= .i64) (kc:= .i64) (enc:=Go.E.encI) (sz:=1) (nb:=8) n4 0 ((w0*h0)).toNat (w0*h0) (om:(w0*h0)=((((w0*h0)).toNat:Nat):Int)) underlying22 (i:=Tryz.t3) kr fR fun y0 o4 _ p4 q4=>nilO ⟨trivial,?_⟩
   refine qU [9]<|qO rfl<|sT q4 2 0 (.agg #[I w0,I h0,I e0, .slice (At y0 0) (((w0*h0)).toNat) (((w0*h0)).toNat)]) [I w0,I h0,I e0, .slice (At y0 0) (((w0*h0)).toNat) (((w0*h0)).toNat)] #[I w0,I h0,I e0, .slice (At y0 0) (((w0*h0)).toNat) (((w0*h0)).toNat)] sizeOf87 fun _ r4=>nilO ⟨trivial,?_⟩
   exact qN<|tN<|⟨(v1,e0,(At y0 0),o4,l4),alA,((r4.picks [2,2]).dropAt 3 rfl),om,om,p4⟩
  refine qO rfl<|sMake (kl:= .i64) (kc:= .i64) (enc:=Go.E.encI) (sz:=1) (nb:=8) w1 0 ((w0*h0)).toNat (w0*h0) (om:(w0*h0)=((((w0*h0)).toNat:Nat):Int)) underlying22 (i:=Tryz.t3) kr fR fun z0 t4 _ u4 v4=>nilO ⟨trivial,?_⟩
  refine qO rfl ?_
  have w4:=(v4.pick 4 rfl)
  refine cX call38 (tape_pick (RdT.flat (hR.up 4 (by rfl))) om w4.flat1 (RdT.flat (RdT.blk (enc:=Go.E.encI) (sz:=1) (xs:=[255,255,65535,1,7]) (fun _=>(by rfl)) 5 2 rfl rfl rfl om)) om om) ?_
  rintro _ _ ⟨f0,rfl,x4,y4,_,z4⟩
  have a5:=z4.unflat1
  have i9:(f0:Int)=255\/(f0:Int)=255\/(f0:Int)=65535\/(f0:Int)=1\/(f0:Int)=7:=by simpa using x4
  refine nilO ⟨trivial,?_⟩
  refine qU [9]<|qO rfl<|sT a5 2 0 (.agg #[I w0,I h0,I f0, .slice (At z0 0) (((w0*h0)).toNat) (((w0*h0)).toNat)]) [I w0,I h0,I f0, .slice (At z0 0) (((w0*h0)).toNat) (((w0*h0)).toNat)] #[I w0,I h0,I f0, .slice (At z0 0) (((w0*h0)).toNat) (((w0*h0)).toNat)] sizeOf87 fun _ b5=>nilO ⟨trivial,?_⟩
  exact qN<|tN<|⟨(v1,f0,(At z0 0),t4,y4),alA,((b5.picks [2,1]).dropAt 3 rfl),om,om,u4⟩
 ·refine qO rfl<|sMake (kl:= .i64) (kc:= .i64) (enc:=Go.E.encI) (sz:=1) (nb:=8) h1 0 ((w0*h0)).toNat (w0*h0) (om:(w0*h0)=((((w0*h0)).toNat:Nat):Int)) underlying22 (i:=Tryz.t3) kr fR fun b0 j1 _ k1 x1=>nilO ⟨trivial,?_⟩
  refine qF ?_ ?_
  rotate_left
  ·refine qO rfl<|sAlloc x1 zeroValue87 fun d5 _ e5=>nilO ⟨trivial,?_⟩
   refine qO rfl<|sBS e5 #[I 255,I 255,I 65535,I 1,I 7] runUnderlying22 sizeOf3 zeroValue3 fun _ _ f5=>nilO ⟨trivial,?_⟩
   refine qO rfl ?_
   have g5:=(f5.pick 4 rfl)
   refine cX call38 (tape_pick (RdT.flat (hR.up 4 (by rfl))) om g5.flat1 (RdT.flat (RdT.blk (enc:=Go.E.encI) (sz:=1) (xs:=[255,255,65535,1,7]) (fun _=>(by rfl)) 5 0 rfl rfl rfl om)) om om) ?_
   rintro _ _ ⟨g0,rfl,h5,i5,_,j5⟩
   have k5:=j5.unflat1
   have q9:(g0:Int)=255\/(g0:Int)=255\/(g0:Int)=65535\/(g0:Int)=1\/(g0:Int)=7:=by simpa using h5
   refine nilO ⟨trivial,?_⟩
   refine qU [9]<|qO rfl<|sT k5 2 0 (.agg #[I w0,I h0,I g0, .slice (At b0 0) (((w0*h0)).toNat) (((w0*h0)).toNat)]) [I w0,I h0,I g0, .slice (At b0 0) (((w0*h0)).toNat) (((w0*h0)).toNat)] #[I w0,I h0,I g0, .slice (At b0 0) (((w0*h0)).toNat) (((w0*h0)).toNat)] sizeOf87 fun _ l5=>nilO ⟨trivial,?_⟩
   exact qN<|tN<|⟨(d5,g0,(At b0 0),j1,i5),alA,(l5.dropAt 1 rfl),om,om,k1⟩
  refine qO rfl<|sBS x1 #[I 255,I 255,I 65535,I 1,I 7] runUnderlying22 sizeOf3 zeroValue3 fun _ _ y1=>nilO ⟨trivial,?_⟩
  refine qF ?_ ?_
  rotate_left
  ·refine qO rfl<|sAlloc y1 zeroValue87 fun n5 _ o5=>nilO ⟨trivial,?_⟩
   refine qO rfl ?_
   have p5:=(o5.pick 4 rfl)
   refine cX call38 (tape_pick (RdT.flat (hR.up 4 (by rfl))) om p5.flat1 (RdT.flat (RdT.blk (enc:=Go.E.encI) (sz:=1) (xs:=[255,255,65535,1,7]) (fun _=>(by rfl)) 5 1 rfl rfl rfl om)) om om) ?_
   rintro _ _ ⟨i0,rfl,q5,r5,_,s5⟩
   have t5:=s5.unflat1
   have x9:(i0:Int)=255\/(i0:Int)=255\/(i0:Int)=65535\/(i0:Int)=1\/(i0:Int)=7:=by simpa using q5
   refine nilO ⟨trivial,?_⟩
   refine qU [9]<|qO rfl<|sT t5 1 0 (.agg #[I w0,I h0,I i0, .slice (At b0 0) (((w0*h0)).toNat) (((w0*h0)).toNat)]) [I w0,I h0,I i0, .slice (At b0 0) (((w0*h0)).toNat) (((w0*h0)).toNat)] #[I w0,I h0,I i0, .slice (At b0 0) (((w0*h0)).toNat) (((w0*h0)).toNat)] sizeOf87 fun _ u5=>nilO ⟨trivial,?_⟩
   exact qN<|tN<|⟨(n5,i0,(At b0 0),j1,r5),alA,(u5.dropAt 2 rfl),om,om,k1⟩
  refine qO rfl ?_
  have w5:=(y1.pick 3 rfl)
  refine cX call38 (tape_pick (RdT.flat (hR.up 3 (by rfl))) om w5.flat1 (RdT.flat (RdT.blk (enc:=Go.E.encI) (sz:=1) (xs:=[255,255,65535,1,7]) (fun _=>(by rfl)) 5 0 rfl rfl rfl om)) om om) ?_
  rintro _ _ ⟨j0,rfl,x5,y5,_,z5⟩
  have a6:=z5.unflat1
  have ba:(j0:Int)=255\/(j0:Int)=255\/(j0:Int)=65535\/(j0:Int)=1\/(j0:Int)=7:=by simpa using x5
  refine nilO ⟨trivial,?_⟩
  refine qU [9]<|qO rfl<|sAlloc a6 zeroValue87 fun b6 _ c6=>nilO ⟨trivial,?_⟩
  refine qO rfl<|sT c6 0 0 (.agg #[I w0,I h0,I j0, .slice (At b0 0) (((w0*h0)).toNat) (((w0*h0)).toNat)]) [I w0,I h0,I j0, .slice (At b0 0) (((w0*h0)).toNat) (((w0*h0)).toNat)] #[I w0,I h0,I j0, .slice (At b0 0) (((w0*h0)).toNat) (((w0*h0)).toNat)] sizeOf87 fun _ d6=>nilO ⟨trivial,?_⟩
  exact qN<|tN<|⟨(b6,j0,(At b0 0),j1,y5),alA,((d6.pick 1 rfl).dropAt 2 rfl),om,om,k1⟩
 refine qO rfl<|sAlloc h1 zeroValue87 fun l1 _ z1=>nilO ⟨trivial,?_⟩
 refine qF ?_ ?_
 rotate_left
 ·refine qO rfl<|sMake (kl:= .i64) (kc:= .i64) (enc:=Go.E.encI) (sz:=1) (nb:=8) z1 0 ((w0*h0)).toNat (w0*h0) (om:(w0*h0)=((((w0*h0)).toNat:Nat):Int)) underlying22 (i:=Tryz.t3) kr fR fun b1 f6 _ g6 h6=>nilO ⟨trivial,?_⟩
  refine qO rfl<|sBS h6 #[I 255,I 255,I 65535,I 1,I 7] runUnderlying22 sizeOf3 zeroValue3 fun _ _ i6=>nilO ⟨trivial,?_⟩
  refine qO rfl ?_
  have j6:=(i6.pick 4 rfl)
  refine cX call38 (tape_pick (RdT.flat (hR.up 4 (by rfl))) om j6.flat1 (RdT.flat (RdT.blk (enc:=Go.E.encI) (sz:=1) (xs:=[255,255,65535,1,7]) (fun _=>(by rfl)) 5 0 rfl rfl rfl om)) om om) ?_
  rintro _ _ ⟨k0,rfl,k6,l6,_,m6⟩
  have n6:=m6.unflat1
  have ka:(k0:Int)=255\/(k0:Int)=255\/(k0:Int)=65535\/(k0:Int)=1\/(k0:Int)=7:=by simpa using k6
  refine nilO ⟨trivial,?_⟩
  refine qU [9]<|qO rfl<|sT n6 3 0 (.agg #[I w0,I h0,I k0, .slice (At b1 0) (((w0*h0)).toNat) (((w0*h0)).toNat)]) [I w0,I h0,I k0, .slice (At b1 0) (((w0*h0)).toNat) (((w0*h0)).toNat)] #[I w0,I h0,I k0, .slice (At b1 0) (((w0*h0)).toNat) (((w0*h0)).toNat)] sizeOf87 fun _ o6=>nilO ⟨trivial,?_⟩
  exact qN<|tN<|⟨(l1,k0,(At b1 0),f6,l6),alA,((o6.picks [3,1]).dropAt 2 rfl),om,om,g6⟩
 refine qO rfl<|sBS z1 #[I 255,I 255,I 65535,I 1,I 7] runUnderlying22 sizeOf3 zeroValue3 fun _ _ a2=>nilO ⟨trivial,?_⟩
 refine qF ?_ ?_
 rotate_left
 ·refine qO rfl<|sMake (kl:= .i64) (kc:= .i64) (enc:=Go.E.encI) (sz:=1) (nb:=8) a2 0 ((w0*h0)).toNat (w0*h0) (om:(w0*h0)=((((w0*h0)).toNat:Nat):Int)) underlying22 (i:=Tryz.t3) kr fR fun d1 q6 _ r6 s6=>nilO ⟨trivial,?_⟩
  refine qO rfl ?_
  have t6:=(s6.pick 4 rfl)
  refine cX call38 (tape_pick (RdT.flat (hR.up 4 (by rfl))) om t6.flat1 (RdT.flat (RdT.blk (enc:=Go.E.encI) (sz:=1) (xs:=[255,255,65535,1,7]) (fun _=>(by rfl)) 5 1 rfl rfl rfl om)) om om) ?_
  rintro _ _ ⟨l0,rfl,u6,v6,_,w6⟩
  have x6:=w6.unflat1
  have ra:(l0:Int)=255\/(l0:Int)=255\/(l0:Int)=65535\/(l0:Int)=1\/(l0:Int)=7:=by simpa using u6
  refine nilO ⟨trivial,?_⟩
  refine qU [9]<|qO rfl<|sT x6 3 0 (.agg #[I w0,I h0,I l0, .slice (At d1 0) (((w0*h0)).toNat) (((w0*h0)).toNat)]) [I w0,I h0,I l0, .slice (At d1 0) (((w0*h0)).toNat) (((w0*h0)).toNat)] #[I w0,I h0,I l0, .slice (At d1 0) (((w0*h0)).toNat) (((w0*h0)).toNat)] sizeOf87 fun _ y6=>nilO ⟨trivial,?_⟩
  exact qN<|tN<|⟨(l1,l0,(At d1 0),q6,v6),alA,((y6.picks [3,1]).dropAt 3 rfl),om,om,r6⟩
 refine qO rfl ?_
 have a7:=(a2.pick 3 rfl)
 refine cX call38 (tape_pick (RdT.flat (hR.up 3 (by rfl))) om a7.flat1 (RdT.flat (RdT.blk (enc:=Go.E.encI) (sz:=1) (xs:=[255,255,65535,1,7]) (fun _=>(by rfl)) 5 0 rfl rfl rfl om)) om om) ?_
 rintro _ _ ⟨m0,rfl,c7,d7,_,e7⟩
 have f7:=e7.unflat1
 have va:(m0:Int)=255\/(m0:Int)=255\/(m0:Int)=65535\/(m0:Int)=1\/(m0:Int)=7:=by simpa using c7
 refine nilO ⟨trivial,?_⟩
 refine qO rfl<|sMake (kl:= .i64) (kc:= .i64) (enc:=Go.E.encI) (sz:=1) (nb:=8) f7 0 ((w0*h0)).toNat (w0*h0) (om:(w0*h0)=((((w0*h0)).toNat:Nat):Int)) underlying22 (i:=Tryz.t3) kr fR fun e1 g7 _ h7 i7=>nilO ⟨trivial,?_⟩
 refine qU [9]<|qO rfl<|sT i7 3 0 (.agg #[I w0,I h0,I m0, .slice (At e1 0) (((w0*h0)).toNat) (((w0*h0)).toNat)]) [I w0,I h0,I m0, .slice (At e1 0) (((w0*h0)).toNat) (((w0*h0)).toNat)] #[I w0,I h0,I m0, .slice (At e1 0) (((w0*h0)).toNat) (((w0*h0)).toNat)] sizeOf87 fun _ j7=>nilO ⟨trivial,?_⟩
 exact qN<|tN<|⟨(l1,m0,(At e1 0),g7,d7),alA,((j7.picks [3,2]).dropAt 3 rfl),om,om,h7⟩
theorem tg_plane {p:Nat} {a:Option Addr} {n k:Nat} {i:Int} {xs:List Int} (hR:RdT Go.E.encI 1 [H] a n k xs) (hi:0<=i/\i<=n) (hS:Sat W w ([(p, .cells #[.slice a n k,I i] 85 (0,0))]::H::F)):
  Calls prog 42 #[Pt p 0] w fun e w'=>∃(q:Plane) (G:Chunk),e= .returned (.agg (encPlane q).toArray)/\(Plane.Ok [G] q)/\((1<=q.w/\q.w<=6)/\(1<=q.h/\q.h<=5)/\planeOK q.v=true/\planeB q)/\∃i':Int,(0<=i'/\i'<=n)/\Sat W w' ([(p, .cells #[.slice a n k,I i'] 85 (0,0))]::G::H::F):=by
 have hle:=hR.le
 refine callsA 11 func42 rfl<|sR<|sAlloc hS zeroValue87 fun _ _ f0=>zS<|pu2 ?_
 have g0:=(f0.pick 1 rfl)
 refine cX call13 (tape_next (RdT.flat (hR.up 1 (by rfl))) om g0.flat1 6 om) ?_
 rintro _ _ ⟨c0,rfl,_,_,_,h0⟩
 have i0:=h0.unflat1
 refine sAdd 1 c0<|pu1<|cX call13 (tape_next (RdT.flat (hR.up 1 (by rfl))) om i0.flat1 5 om) ?_
 rintro _ _ ⟨d0,rfl,_,_,_,j0⟩
 have k0:=j0.unflat1
 refine sAdd 1 d0<|cX call43 (tg_sized (RdT.flat (hR.up 1 (by rfl))) om k0.flat1 (1+c0) (1+d0) om) ?_
 rintro _ _ ⟨a0,l0,rfl,m0,b0,_,_,n0⟩
 refine sT (Sat.unflat2 n0) 2 0 (.agg (encPlane a0).toArray) (encPlane a0) (encPlane a0).toArray sizeOf87 fun _ e0=>zE<|retN (vs:=[.agg (encPlane a0).toArray]) rfl (.cons (.cell _ _ _ _ kr (lvA e0 2 0 (encPlane a0) (isAgg87 _) (sizeOf87 _) rfl rfl rfl)) .nil) ?_
 exact ⟨a0,l0,rfl,m0,⟨by have h:=b0.1;omega,by have h:=b0.2.1;omega,b0.2.2⟩,_,om,(e0.dropAt 2 rfl)⟩
theorem tg_table {p:Nat} {a:Option Addr} {n k:Nat} {i:Int} {xs:List Int} (hR:RdT Go.E.encI 1 [H] a n k xs) (hi:0<=i/\i<=n) (hS:Sat W w ([(p, .cells #[.slice a n k,I i] 85 (0,0))]::H::F)) (n0:Int) (hn0:1<=n0/\n0<=128):
  Calls prog 63 #[Pt p 0,I n0] w fun e w'=>∃(az:Option Addr) (nz:Nat) (kz:Nat) (zs:List Tap) (G:Chunk),e= .returned (.slice az nz kz)/\(RdT encTap 2 [G] az nz kz zs)/\(∀z∈zs,Tap.Ok [G] z)/\(zs.length<=6/\∀z∈zs,tapB z)/\∃i':Int,(0<=i'/\i'<=n)/\Sat W w' ([(p, .cells #[.slice a n k,I i'] 85 (0,0))]::G::H::F):=by
 have hle:=hR.le
 refine callsA 57 func63 rfl<|sR<|pu1<|zS<|pu1<|cX call13 (tape_next (RdT.flat (hR.up 0 (by rfl))) om hS.flat1 6 om) ?_
 rintro _ _ ⟨a0,rfl,_,_,_,h1⟩
 have i1:=h1.unflat1
 refine sAdd 1 a0<|pu1<|zS<|pu2<|sF #[I n0,I (1+a0),I 8] call101 (Calls.mono (r8_linear W _ _ [] n0 (1+a0) 8 i1.flat) ?_)
 rintro _ _ ⟨q0,b0,r0,s0,_,e0,f0,rfl,g0,t0,h0,u0⟩
 refine ⟨_,rfl,?_⟩
 have j1:=u0.unflat2;clear u0
 have hn_zs_14:=g0.len;have hl_zs_14:=g0.le
 refine pu5<|zQ<|pu1 ?_
 have k1:=(j1.pick 2 rfl)
 refine cX call13 (tape_next (RdT.flat (hR.up 2 (by rfl))) om k1.flat1 2 om) ?_
 rintro _ _ ⟨l1,rfl,_,c0,_,m1⟩
 have v0:=m1.unflat1
 refine pu1<|nT<|cE l1 0 (fun n1=>?_) (fun n1=>?_)
 ·refine seqE<|sR<|pu2<|sF #[I n0,I (1+a0),I 8] call102 (Calls.mono (r8_box W _ _ [] n0 (1+a0) 8 v0.flat) ?_)
  rintro _ _ ⟨o1,q1,r1,s1,t1,l0,m0,rfl,o0,u1,w0,x0⟩
  refine ⟨_,rfl,?_⟩
  have y0:=x0.unflat2;clear x0
  have hn_zs_36:=o0.len;have hl_zs_36:=o0.le
  refine pu5<|zS<|pu2<|nT<|cE t1 0 (fun v1=>?_) (fun v1=>?_)
  rotate_left
  ·refine kS<|pu2<|zR<|retT [.slice q0 b0 r0] ?_
   have w1:=(y0.drops [0,0])
   have x1:Sat W _ ([(p, .cells #[.slice a n k,I c0] 85 (0,0))]::(f0++e0)::H::F):=Sat.perm (show Sat W _ ([(p, .cells #[.slice a n k,I c0] 85 (0,0))]::f0::e0::H::F) from w1) (by simp [Value.cells])
   exact ⟨_,_,_,s0,(f0++e0),rfl,(g0.rd (fun p hp=>by simp [hp])),(fun z hz=>(t0 z hz).of_mem mS),⟨by have h:=h0.1;omega,h0.2⟩,_,om,x1⟩
  refine sR<|pu2<|zR<|tK<|retT [.slice o1 q1 r1] ?_
  have y1:=((y0.pick 2 rfl).drops [3,3])
  have z1:Sat W _ ([(p, .cells #[.slice a n k,I c0] 85 (0,0))]::(m0++l0)::H::F):=Sat.perm (show Sat W _ ([(p, .cells #[.slice a n k,I c0] 85 (0,0))]::m0::l0::H::F) from y1) (by simp [Value.cells])
  exact ⟨_,_,_,s1,(m0++l0),rfl,(o0.rd (fun p hp=>by simp [hp])),(fun z hz=>(u1 z hz).of_mem mS),⟨by have h:=w0.1;omega,w0.2⟩,_,om,z1⟩
 refine kT<|seqE<|sR<|pu1<|nT<|blockE ?_
 have a2:=(v0.pick 2 rfl)
 have b2:=(a2.pick 2 rfl)
 refine loopA (γ:=Nat×Int×(List Tap)×(Option Addr)×Nat×Nat×Chunk×Chunk) (fun ⟨i,iti,zs,azs,nzs,kzs,czs,Gzs⟩=>[(0,Pt p 0),(1,I n0),(10,I (i:Int)),(6, .slice azs nzs kzs)]) (fun ⟨i,iti,zs,azs,nzs,kzs,czs,Gzs⟩ w=>Sat W w (Gzs::czs::[(p, .cells #[.slice a n k,I iti] 85 (0,0))]::H::F)/\i<=b0/\(∀z∈zs,tapB z)/\(zs.length=b0)/\(zs.length<=6)/\(0<=iti/\iti<=n)/\OwnT encTap 123 2 azs nzs kzs zs czs/\(∀z∈zs,Tap.Ok [Gzs] z)) (fun ⟨i,iti,zs,azs,nzs,kzs,czs,Gzs⟩=>b0-i) (0,c0,s0,q0,b0,r0,e0,f0) ⟨b2,om,h0.2,om,by have h:=h0.1;omega,om,g0,t0⟩ ?_
 rintro ⟨i,iti,zs,azs,nzs,kzs,czs,Gzs⟩ ρ _ ⟨z0,hi,hB,hzl,hz6,hiti,hOzs,hDzs⟩
 have hn_zs:=hOzs.len;have hl_zs:=hOzs.le
 refine seqE<|sR<|pu4<|nT<|cD ((i:Int)<(nzs:Int)) (fun c2=>?_) (fun c2=>?_)
 rotate_left
 ·refine exitE<|xB<|tN<|sR<|pu2<|zE<|retT [.slice azs nzs kzs] ?_
  have d2:=(z0.pick 2 rfl)
  have e2:Sat W _ ([(p, .cells #[.slice a n k,I iti] 85 (0,0))]::(Gzs++czs)::H::F):=Sat.perm (show Sat W _ ([(p, .cells #[.slice a n k,I iti] 85 (0,0))]::Gzs::czs::H::F) from d2) (by simp [Value.cells])
  exact ⟨_,_,_,zs,(Gzs++czs),rfl,(hOzs.rd (fun p hp=>by simp [hp])),(fun z hz=>(hDzs z hz).of_mem mS),⟨om,hB⟩,_,om,e2⟩
 refine kT<|seqE<|blockE<|sR<|pu1 ?_
 have f2:=(z0.pick 2 rfl)
 refine cX call13 (tape_next (RdT.flat (hR.up 2 (by rfl))) om f2.flat1 4 om) ?_
 rintro _ _ ⟨g2,rfl,_,h2,_,i2⟩
 have a1:=i2.unflat1
 refine pu1<|nT<|cE g2 0 (fun j2=>?_) (fun j2=>?_)
 rotate_left
 ·refine skipE<|bN<|tN<|rE<|pu1<|sAdd (i:Int) 1<|pu1<|nT ?_
  exact ⟨(i+1,h2,zs,azs,nzs,kzs,czs,Gzs),od,alA,(a1.picks [2,2]),om,hB,by first|omega|(simp;omega),by first|omega|(simp;omega),om,hOzs,hDzs⟩
 refine rE<|pu4<|sAdd n0 6<|cX call13 (tape_next (RdT.flat (hR.up 2 (by rfl))) om a1.flat1 (n0+6) om) ?_
 rintro _ _ ⟨d0,rfl,_,_,_,l2⟩
 have m2:=l2.unflat1
 refine sSub d0 4<|pu2<|cX call13 (tape_next (RdT.flat (hR.up 2 (by rfl))) om m2.flat1 4 om) ?_
 rintro _ _ ⟨b1,rfl,_,_,_,n2⟩
 have o2:=n2.unflat1
 refine sAdd 1 b1<|cX call62 (tg_weights (RdT.flat (hR.up 2 (by rfl))) om o2.flat1 (1+b1) om) ?_
 rintro _ _ ⟨i0,j0,k0,c1,d1,rfl,p0,e1,f1,_,q2⟩
 have r2:=q2.unflat2
 have hn_zs_81:=p0.len;have hl_zs_81:=p0.le
 refine pu1<|sIdxO hOzs (i:Int) i runUnderlying35 sizeOf123 fun s2 _ _ t2 _ u2=>sStF r2 hOzs u2 3 i 0 s2 (⟨(d0-4),⟨i0,j0,k0,c1⟩⟩:Tap) t2 (.agg #[I (d0-4), .slice i0 j0 k0]) [I (d0-4), .slice i0 j0 k0] sizeOf123 fun _ g1 v2 w2=>nB<|rE<|pu1<|sAdd (i:Int) 1<|pu1<|nT ?_
 have x2:=(w2.picks [3,3,3])
 exact ⟨(i+1,f1,(zs.set i (⟨(d0-4),⟨i0,j0,k0,c1⟩⟩:Tap)),azs,nzs,kzs,g1,(d1++Gzs)),od,alA,(Sat.perm (cs':=(d1++Gzs)::(g1::[(p, .cells #[.slice a n k,I f1] 85 (0,0))]::H::F)) x2 (by simp)),om,mem_set hB ⟨by unfold numB;dsimp only;omega,by have h:=e1.1;dsimp only;omega,e1.2⟩,by first|omega|(simp;omega),by first|omega|(simp;omega),om,v2,(mem_set (fun z hz=>(hDzs z hz).of_mem mS) ⟨p0.of_mem mS⟩)⟩
def opB (o:POp):Prop:=numB o.code/\numB o.arg
theorem tg_ops {p:Nat} {a:Option Addr} {n k:Nat} {i:Int} {xs:List Int} (hR:RdT Go.E.encI 1 [H] a n k xs) (hi:0<=i/\i<=n) (hS:Sat W w ([(p, .cells #[.slice a n k,I i] 85 (0,0))]::H::F)) (two:Bool):
  Calls prog 64 #[Pt p 0, .bool two] w fun e w'=>∃(az:Option Addr) (nz:Nat) (kz:Nat) (zs:List POp) (G:Chunk),e= .returned (.slice az nz kz)/\(RdT encPOp 2 [G] az nz kz zs)/\(zs.length<=9/\∀z∈zs,opB z)/\∃i':Int,(0<=i'/\i'<=n)/\Sat W w' ([(p, .cells #[.slice a n k,I i'] 85 (0,0))]::G::H::F):=by
 have hle:=hR.le
 refine callsA 55 func64 rfl<|sR<|pu1<|zS<|pu1<|sBS hS #[I 0,I 0] runUnderlying36 sizeOf92 zeroValue92 fun d0 _ h0=>pu1<|nT<|cutA (γ:=(Option Addr)×Nat×Nat×(List POp)×Chunk×Int) (fun ⟨a1,n1,k1,z1,c1,itc⟩=>[(0,Pt p 0),(5, .slice a1 n1 k1)]) (fun ⟨a1,n1,k1,z1,c1,itc⟩ w=>Sat W w ([(p, .cells #[.slice a n k,I itc] 85 (0,0))]::c1::H::F)/\(0<=itc/\itc<=n)/\OwnT encPOp 92 2 a1 n1 k1 z1 c1/\(z1.length<=3/\∀z∈z1,opB z)) ?_ ?_
 ·refine sR<|pu1<|nT<|cB two (fun k0=>?_) (fun k0=>?_)
  rotate_left
  ·refine kT ?_
   have l0:=OwnT.blk (enc:=encPOp) (sz:=2) (b:=d0) (c:=#[I 0,I 0]) (E:=92) (xs:=[(⟨0,0⟩:POp)]) fR 1 rfl rfl rfl om
   exact ⟨((At d0 0),1,1,[(⟨0,0⟩:POp)],[(d0, .cells #[I 0,I 0] 92 (0,0))],i),alA,(h0.pick 1 rfl),om,l0,⟨by simp,(by intro z hz;simp at hz;subst hz;(unfold opB numB;dsimp only;omega))⟩⟩
  refine rE<|pu3<|sBS h0 #[I 3,I 4,I 5,I 6,I 7,I 8,I 9] runUnderlying22 sizeOf3 zeroValue3 fun _ _ n0=>?_
  have o0:=(n0.pick 2 rfl)
  refine cX call38 (tape_pick (RdT.flat (hR.up 2 (by rfl))) om o0.flat1 (RdT.flat (RdT.blk (enc:=Go.E.encI) (sz:=1) (xs:=[3,4,5,6,7,8,9]) (fun _=>(by rfl)) 7 0 rfl rfl rfl om)) om om) ?_
  rintro _ _ ⟨a0,rfl,p0,q0,_,r0⟩
  have s0:=r0.unflat1
  have l3:(a0:Int)=3\/(a0:Int)=4\/(a0:Int)=5\/(a0:Int)=6\/(a0:Int)=7\/(a0:Int)=8\/(a0:Int)=9:=by simpa using p0
  exact pu1<|sBS s0 #[I 1,I 0,I a0,I 0] runUnderlying36 sizeOf92 zeroValue92 fun _ _ t0=>sApp (nb:=16) t0 (OwnT.blk (enc:=encPOp) (sz:=2) (b:=d0) (c:=#[I 0,I 0]) (E:=92) (xs:=[(⟨0,0⟩:POp)]) fR 1 rfl rfl rfl om) 3 (RdT.blk (enc:=encPOp) (sz:=2) (xs:=[(⟨1,0⟩:POp),(⟨a0,0⟩:POp)]) fR 2 0 rfl rfl rfl om) underlying36 (i:=Tryz.t92) kr fR fun v0 w0 x0 _ y0 z0=>pu1<|nT<|⟨(v0,(1+2),w0,([(⟨0,0⟩:POp)]++[(⟨1,0⟩:POp),(⟨a0,0⟩:POp)]),x0,q0),alA,(z0.drops [0,1]),om,y0,⟨by simp,(by intro z hz;simp at hz;rcases hz with rfl|rfl|rfl<;>(unfold opB numB;dsimp only;omega))⟩⟩
 rintro ⟨a1,n1,k1,z1,c1,itc⟩ ρ _ ⟨d1,hitc,hO1,hz1⟩
 refine seqE<|sR<|pu1<|cX call13 (tape_next (RdT.flat (hR.up 1 (by rfl))) om d1.flat1 4 om) ?_
 rintro _ _ ⟨e1,rfl,_,f1,_,g1⟩
 have h1:=g1.unflat1
 refine pu1<|nT<|blockE ?_
 have i1:=(h1.pick 1 rfl)
 refine loopA (γ:=Nat×Int×Int×(List POp)×(Option Addr)×Nat×Nat×Chunk) (fun ⟨u,j,itu,zs,azs,nzs,kzs,czs⟩=>[(0,Pt p 0),(6,I j),(5, .slice azs nzs kzs)]) (fun ⟨u,j,itu,zs,azs,nzs,kzs,czs⟩ w=>Sat W w (czs::[(p, .cells #[.slice a n k,I itu] 85 (0,0))]::H::F)/\u<=3/\(∀z∈zs,opB z)/\(zs.length<=3+2*u)/\((u:Int)+j<=3)/\(0<=itu/\itu<=n)/\OwnT encPOp 92 2 azs nzs kzs zs czs) (fun ⟨u,j,itu,zs,azs,nzs,kzs,czs⟩=>3-u) (0,e1,f1,z1,a1,n1,k1,c1) ⟨i1,om,hz1.2,om,om,om,hO1⟩ ?_
 rintro ⟨u,j,itu,zs,azs,nzs,kzs,czs⟩ ρ _ ⟨i0,hu,hB,hzl,hj,hitu,hOzs⟩
 have hn_zs:=hOzs.len;have hl_zs:=hOzs.le
 refine seqE<|sR<|pu2<|nT<|cD (j>0) (fun j1=>?_) (fun j1=>?_)
 rotate_left
 ·exact exitE<|xB<|tN<|sR<|pu2<|zE<|retT [.slice azs nzs kzs]<|⟨_,_,_,zs,czs,rfl,(hOzs.rdAt (cs:=[czs]) 0 rfl),⟨om,hB⟩,_,om,(i0.pick 1 rfl)⟩
 refine kT<|seqE<|blockE<|sR<|pu1 ?_
 have m1:=(i0.pick 1 rfl)
 refine cX call13 (tape_next (RdT.flat (hR.up 1 (by rfl))) om m1.flat1 3 om) ?_
 rintro _ _ ⟨j0,rfl,_,o1,_,q1⟩
 have f0:=q1.unflat1
 refine nT<|blockE<|sR<|pu2<|nT<|cE j0 0 (fun r1=>?_) (fun r1=>?_)
 rotate_left
 ·refine sR<|pu2<|nT<|cE j0 1 (fun s1=>?_) (fun s1=>?_)
  rotate_left
  ·exact rE<|pu2<|sBS f0 #[I 11,I 0] runUnderlying36 sizeOf92 zeroValue92 fun _ _ t1=>sApp (nb:=16) t1 hOzs 2 (RdT.blk (enc:=encPOp) (sz:=2) (xs:=[(⟨11,0⟩:POp)]) fR 1 0 rfl rfl rfl om) underlying36 (i:=Tryz.t92) kr fR fun u1 v1 w1 _ x1 y1=>pu1<|nilO<|bN<|bN<|tN<|rE<|pu1<|sSub j 1<|pu1<|nT<|⟨(u+1,(j-1),o1,(zs++[(⟨11,0⟩:POp)]),u1,(nzs+1),v1,w1),od,alA,((y1.pick 2 rfl).dropAt 1 rfl),om,(by
     intro z hz
     rcases List.mem_append.1 hz with h|h
     ·exact hB z h
     ·simp only [List.mem_cons,List.not_mem_nil,or_false] at h
      subst h;(unfold opB numB;dsimp only;omega)),by simp;omega,om,om,x1⟩
  refine rE<|pu2<|cX call13 (tape_next (RdT.flat (hR.up 1 (by rfl))) om f0.flat1 4 om) ?_
  rintro _ _ ⟨g0,rfl,_,b2,_,c2⟩
  have d2:=c2.unflat1
  exact pu1<|sBS d2 #[I 10,I g0] runUnderlying36 sizeOf92 zeroValue92 fun _ _ e2=>sApp (nb:=16) e2 hOzs 2 (RdT.blk (enc:=encPOp) (sz:=2) (xs:=[(⟨10,g0⟩:POp)]) fR 1 0 rfl rfl rfl om) underlying36 (i:=Tryz.t92) kr fR fun f2 g2 h2 _ i2 j2=>pu1<|nilO<|bN<|bN<|tN<|rE<|pu1<|sSub j 1<|pu1<|nT<|⟨(u+1,(j-1),b2,(zs++[(⟨10,g0⟩:POp)]),f2,(nzs+1),g2,h2),od,alA,((j2.pick 2 rfl).dropAt 1 rfl),om,(by
    intro z hz
    rcases List.mem_append.1 hz with h|h
    ·exact hB z h
    ·simp only [List.mem_cons,List.not_mem_nil,or_false] at h
     subst h;(unfold opB numB;dsimp only;omega)),by simp;omega,om,om,i2⟩
 refine rE<|pu3<|cX call13 (tape_next (RdT.flat (hR.up 1 (by rfl))) om f0.flat1 300 om) ?_
 rintro _ _ ⟨e0,rfl,_,_,_,l2⟩
 have m2:=l2.unflat1
 refine sSub e0 100<|sBS m2 #[I (e0-100),I 0,I 3,I (-2)] runUnderlying22 sizeOf3 zeroValue3 fun _ _ n2=>?_
 have o2:=(n2.pick 1 rfl)
 refine cX call38 (tape_pick (RdT.flat (hR.up 2 (by rfl))) om o2.flat1 (RdT.flat (RdT.blk (enc:=Go.E.encI) (sz:=1) (xs:=[(e0-100),0,3,-2]) (fun _=>(by rfl)) 4 0 rfl rfl rfl om)) om om) ?_
 rintro _ _ ⟨c0,rfl,q2,_,_,r2⟩
 have s2:=r2.unflat1
 have p4:(c0:Int)=(e0-100)\/(c0:Int)=0\/(c0:Int)=3\/(c0:Int)=(-2):=by simpa using q2
 refine pu2<|sBS s2 #[I 3,I 4,I 5,I 6,I 7,I 8,I 9] runUnderlying22 sizeOf3 zeroValue3 fun _ _ t2=>?_
 have u2:=(t2.pick 1 rfl)
 refine cX call38 (tape_pick (RdT.flat (hR.up 3 (by rfl))) om u2.flat1 (RdT.flat (RdT.blk (enc:=Go.E.encI) (sz:=1) (xs:=[3,4,5,6,7,8,9]) (fun _=>(by rfl)) 7 0 rfl rfl rfl om)) om om) ?_
 rintro _ _ ⟨b0,rfl,v2,w2,_,x2⟩
 have y2:=x2.unflat1
 have u4:(b0:Int)=3\/(b0:Int)=4\/(b0:Int)=5\/(b0:Int)=6\/(b0:Int)=7\/(b0:Int)=8\/(b0:Int)=9:=by simpa using v2
 exact pu1<|sBS y2 #[I 2,I c0,I b0,I 0] runUnderlying36 sizeOf92 zeroValue92 fun _ _ z2=>sApp (nb:=16) z2 hOzs 4 (RdT.blk (enc:=encPOp) (sz:=2) (xs:=[(⟨2,c0⟩:POp),(⟨b0,0⟩:POp)]) fR 2 0 rfl rfl rfl om) underlying36 (i:=Tryz.t92) kr fR fun a3 b3 c3 _ d3 e3=>pu1<|nilO<|bN<|bN<|tN<|rE<|pu1<|sSub j 1<|pu1<|nT<|⟨(u+1,(j-1),w2,(zs++[(⟨2,c0⟩:POp),(⟨b0,0⟩:POp)]),a3,(nzs+2),b3,c3),od,alA,((e3.pick 4 rfl).drops [1,2,2]),om,(by
   intro z hz
   rcases List.mem_append.1 hz with h|h
   ·exact hB z h
   ·simp only [List.mem_cons,List.not_mem_nil,or_false] at h
    rcases h with rfl|rfl<;>(unfold opB numB;dsimp only;omega)),by simp;omega,om,om,d3⟩
def stageB (k:Nat) (q:Stage):Prop:=(numB q.kind/\numB q.a/\numB q.b/\numB q.edgePolicy/\numB q.edgeFill/\numB q.kW/\numB q.kH/\numB q.shift/\numB q.shift2/\numB q.bins/\numB q.max_)/\(q.weights.l.length<=64/\∀z∈q.weights.l,numB z)/\(q.row.l.length<=64/\∀z∈q.row.l,numB z)/\(q.col.l.length<=64/\∀z∈q.col.l,numB z)/\(q.x.l.length<=6+k/\∀z∈q.x.l,tapB z)/\(q.y.l.length<=6+k/\∀z∈q.y.l,tapB z)/\(q.ops.l.length<=9+k/\∀z∈q.ops.l,opB z)
theorem tg_stage {p:Nat} {a:Option Addr} {n k:Nat} {i:Int} {xs:List Int} (hR:RdT Go.E.encI 1 [H] a n k xs) (hi:0<=i/\i<=n) (hS:Sat W w ([(p, .cells #[.slice a n k,I i] 85 (0,0))]::H::F)) (a0:Int) (s0:Shape) (b0:Int) (hs0:szP s0) (hab:numB a0/\numB b0):
  Calls prog 23 #[Pt p 0,I a0, .agg #[I s0.w,I s0.h,I s0.max_],I b0] w fun e w'=>∃(q:Stage) (G:Chunk),e= .returned (.agg (encStage q).toArray)/\(Stage.Ok [G] q)/\(stageB 0 q)/\(q.a=a0/\(q.b=-1\/(q.b=b0/\0<=b0)))/\∃i':Int,(0<=i'/\i'<=n)/\Sat W w' ([(p, .cells #[.slice a n k,I i'] 85 (0,0))]::G::H::F):=by
 have hle:=hR.le
 have hs1:=hs0;unfold szP at hs1;have hab1:=hab;unfold numB at hab1
 refine callsA 126 func23 rfl<|sR<|sBox hS (.agg #[I s0.w,I s0.h,I s0.max_]) #[I s0.w,I s0.h,I s0.max_] fun p0 _ g5=>sAlloc g5 zeroValue38 fun f0 _ h5=>zS<|pu1 ?_
 have i5:=(h5.pick 2 rfl)
 refine cX call13 (tape_next (RdT.flat (hR.up 2 (by rfl))) om i5.flat1 6 om) ?_
 rintro _ _ ⟨c0,rfl,_,_,_,j5⟩
 have k5:=j5.unflat1
 refine sAdd 1 c0<|pu2<|cX call13 (tape_next (RdT.flat (hR.up 2 (by rfl))) om k5.flat1 4 om) ?_
 rintro _ _ ⟨e0,rfl,_,_,_,l5⟩
 have m5:=l5.unflat1
 refine pu2<|sAlloc m5 zeroValue38 fun g0 _ n5=>?_
 refine sT n5 0 0 (.agg #[I (1+c0),I a0,I (-1), .bool ((e0:Int)==3),I 0,I 0,I 0,I 0,nS,nS,nS,I 0,I 0,nS,nS,I 0,nS,I 0]) [I (1+c0),I a0,I (-1), .bool ((e0:Int)==3),I 0,I 0,I 0,I 0,nS,nS,nS,I 0,I 0,nS,nS,I 0,nS,I 0] #[I (1+c0),I a0,I (-1), .bool ((e0:Int)==3),I 0,I 0,I 0,I 0,nS,nS,nS,I 0,I 0,nS,nS,I 0,nS,I 0] sizeOf38 fun _ o5=>zS<|pu1<|sBS o5 #[I 255,I 65535,I 15] runUnderlying22 sizeOf3 zeroValue3 fun _ _ p5=>?_
 have q5:=(p5.pick 2 rfl)
 refine cX call38 (tape_pick (RdT.flat (hR.up 4 (by rfl))) om q5.flat1 (RdT.flat (RdT.blk (enc:=Go.E.encI) (sz:=1) (xs:=[255,65535,15]) (fun _=>(by rfl)) 3 0 rfl rfl rfl om)) om om) ?_
 rintro _ _ ⟨d0,rfl,r5,l2,_,s5⟩
 have h0:=s5.unflat1
 have rb:(d0:Int)=255\/(d0:Int)=65535\/(d0:Int)=15:=by simpa using r5
 refine pu1<|nT<|cutA (γ:=Stage×Chunk×Int) (fun ⟨q,G1,itc⟩=>[(8,Pt f0 0),(9,Pt g0 0)]) (fun ⟨q,G1,itc⟩ w=>Sat W w ([(p, .cells #[.slice a n k,I itc] 85 (0,0))]::[(g0, .cells (encStage q).toArray 38 (0,0))]::[(f0, .cells #[I 0,I 0,I 0, .bool false,I 0,I 0,I 0,I 0,nS,nS,nS,I 0,I 0,nS,nS,I 0,nS,I 0] 38 (0,0))]::G1::H::F)/\(0<=itc/\itc<=n)/\Stage.Ok [G1] q/\stageB 0 q/\(q.a=a0/\(q.b=-1\/(q.b=b0/\0<=b0)))) ?_ ?_
 rotate_left
 ·rintro ⟨q,G1,itc⟩ ρ _ ⟨w3,hitc,hqok,hqB,hqab⟩
  exact sR<|lA w3 1 0 18 (isAgg38 _) (sizeOf38 _)<|sT w3 2 0 (.agg (encStage q).toArray) (encStage q) (encStage q).toArray sizeOf38 fun _ x3=>zE<|retN (vs:=[.agg (encStage q).toArray]) rfl (.cons (.cell _ _ _ _ kr (lvA x3 2 0 (encStage q) (isAgg38 _) (sizeOf38 _) rfl rfl rfl)) .nil)<|⟨q,G1,rfl,hqok,hqB,hqab,_,om,(x3.drops [1,1])⟩
 refine sR<|pu1<|sL h0 2 0 (I (1+c0)) (isAgg3 _)<|nT<|blockE<|sR<|pu2<|nT<|cE (1+c0) 1 (fun u5=>?_) (fun u5=>?_)
 ·refine seqE ?_
  refine drawP [1,2,4,5,8,12,14,16,18,20,22] [(11,⟨p0,2,none⟩,I s0.max_)] (Plan.sts [0,3,6,7,9,10]<|Plan.sts [11]<| .fk 1 4 (.fk 2 4 (Plan.sts [13]<| .ef 4<| .ef 5<| .ef 8<| .ef 12<| .ef 14<|Plan.sts [15]<| .ef 16<|Plan.sts [17]<| .ef 18<|Plan.sts [19]<| .ef 20<|Plan.sts [21]<| .ef 22<| .fin) (.ef 2<|Plan.sts [13]<| .ef 5<| .ef 8<| .ef 12<| .ef 14<|Plan.sts [15]<| .ef 16<|Plan.sts [17]<| .ef 18<|Plan.sts [19]<| .ef 20<|Plan.sts [21]<| .ef 22<| .fin)) (.ef 1<| .ef 2<|Plan.sts [13]<| .ef 5<| .ef 8<| .ef 12<| .ef 14<|Plan.sts [15]<| .ef 16<|Plan.sts [17]<| .ef 18<|Plan.sts [19]<| .ef 20<|Plan.sts [21]<| .ef 22<| .fin)) rfl kr ⟨cI h0 4,trivial⟩ ?_
  have y3:=h0.drew
  refine qU [0,3,6,7,9,10]<|qLd (I s0.max_) 0 isAgg3<|qF ?_ ?_
  rotate_left
  ·refine qO rfl<|sBS y3 #[I 1,I 3,I 2] runUnderlying22 sizeOf3 zeroValue3 fun _ _ z3=>nilO ⟨⟨cI z3 5,trivial⟩,?_⟩
   refine qO rfl<|sBS z3 #[I 1,I 3,I 2,I 5] runUnderlying22 sizeOf3 zeroValue3 fun _ _ a4=>nilO ⟨⟨cI a4 6,trivial⟩,?_⟩
   refine qO rfl ?_
   have v5:=(a4.pick 2 rfl)
   refine cX call38 (tape_pick (RdT.flat (hR.up 6 (by rfl))) om v5.flat1 (RdT.flat (RdT.blk (enc:=Go.E.encI) (sz:=1) (xs:=[1,3,2,5]) (fun _=>(by rfl)) 4 0 rfl rfl rfl om)) om om) ?_
   rintro _ _ ⟨i0,rfl,w5,_,_,x5⟩
   have b4:=x5.unflat1
   have bc:(i0:Int)=1\/(i0:Int)=3\/(i0:Int)=2\/(i0:Int)=5:=by simpa using w5
   refine nilO ⟨⟨cI b4 6,trivial⟩,?_⟩
   refine qU [13]<|qO rfl<|cX call38 (tape_pick (RdT.flat (hR.up 6 (by rfl))) om b4.flat1 (RdT.flat (RdT.blk (enc:=Go.E.encI) (sz:=1) (xs:=[1,3,2]) (fun _=>(by rfl)) 3 1 rfl rfl rfl om)) om om) ?_
   rintro _ _ ⟨l0,rfl,y5,_,_,z5⟩
   have c4:=z5.unflat1
   have fc:(l0:Int)=1\/(l0:Int)=3\/(l0:Int)=2:=by simpa using y5
   refine nilO ⟨⟨cI c4 6,trivial⟩,?_⟩
   refine qO rfl<|cX call13 (tape_next (RdT.flat (hR.up 6 (by rfl))) om c4.flat1 4 om) ?_
   rintro _ _ ⟨q0,rfl,_,_,_,a6⟩
   have d4:=a6.unflat1
   refine nilO ⟨⟨cI d4 6,trivial⟩,?_⟩
   refine qO rfl<|cX call61 (tg_edge (RdT.flat (hR.up 6 (by rfl))) om d4.flat1 s0.max_ om) ?_
   rintro _ _ ⟨r0,t0,rfl,b6,_,_,c6⟩
   have d6:=c6.unflat1
   unfold numB at b6
   refine nilO ⟨dA,?_⟩
   refine qO rfl<|tW d6 4 6 (I i0) sizeOf3 fun _ e6=>nilO ⟨dA,?_⟩
   refine qU [15]<|qO rfl<|tW e6 4 7 (I l0) sizeOf3 fun _ f6=>nilO ⟨dA,?_⟩
   refine qU [17]<|qO rfl<|tW f6 4 17 (I d0) sizeOf3 fun _ g6=>nilO ⟨dA,?_⟩
   refine qU [19]<|qO rfl<|tW g6 4 11 (I q0) sizeOf3 fun _ h6=>nilO ⟨dA,?_⟩
   refine qU [21]<|qO rfl<|tW h6 4 4 (.agg #[I r0,I t0]) sizeOf34 fun _ m2=>nilO ⟨dA,?_⟩
   refine qN<|tN ?_
   have hkk:=mul_bd (a:=i0) (b:=l0) (A:=5) (B:=3) om om
   refine rE<|pu2<|sL m2 4 6 (I i0) (isAgg3 _)<|pu1<|sL m2 4 7 (I l0) (isAgg3 _)<|sMul i0 l0<|cX call62 (tg_weights (RdT.flat (hR.up 6 (by rfl))) om m2.flat1 (i0*l0) om) ?_
   rintro _ _ ⟨u0,v0,w0,i6,n2,rfl,o2,e4,q2,_,j6⟩
   have k6:=j6.unflat2
   have hn_zs_220:=o2.len;have hl_zs_220:=o2.le
   refine pu1<|tW k6 5 8 (.slice u0 v0 w0) sizeOf22 fun _ l6=>nB ?_
   have m6:=((l6.picks [6,6,2]).drops [4,4,4,4])
   have n6:Sat W _ ([(p, .cells #[.slice a n k,I q2] 85 (0,0))]::[(g0, .cells #[I (1+c0),I a0,I (-1), .bool ((e0:Int)==3),I r0,I t0,I i0,I l0, .slice u0 v0 w0,nS,nS,I q0,I 0,nS,nS,I 0,nS,I d0] 38 (0,0))]::[(f0, .cells #[I 0,I 0,I 0, .bool false,I 0,I 0,I 0,I 0,nS,nS,nS,I 0,I 0,nS,nS,I 0,nS,I 0] 38 (0,0))]::(n2)::(H::F)):=Sat.perm (show Sat W _ ([(p, .cells #[.slice a n k,I q2] 85 (0,0))]::[(g0, .cells #[I (1+c0),I a0,I (-1), .bool ((e0:Int)==3),I r0,I t0,I i0,I l0, .slice u0 v0 w0,nS,nS,I q0,I 0,nS,nS,I 0,nS,I d0] 38 (0,0))]::[(f0, .cells #[I 0,I 0,I 0, .bool false,I 0,I 0,I 0,I 0,nS,nS,nS,I 0,I 0,nS,nS,I 0,nS,I 0] 38 (0,0))]::n2::H::F) from m6) (by simp [Value.cells])
   exact ⟨((⟨(1+c0),a0,-1,((e0:Int)==3),r0,t0,i0,l0,⟨u0,v0,w0,i6⟩,⟨none,0,0,[]⟩,⟨none,0,0,[]⟩,q0,0,⟨none,0,0,[]⟩,⟨none,0,0,[]⟩,0,⟨none,0,0,[]⟩,d0⟩:Stage),(n2),q2),alA,n6,om,⟨o2.of_mem mS,RdT.nil (enc:=Go.E.encI) (sz:=1) fR _,RdT.nil (enc:=Go.E.encI) (sz:=1) fR _,RdT.nil (enc:=encTap) (sz:=2) fR _,(fun z hz=>by cases hz),RdT.nil (enc:=encTap) (sz:=2) fR _,(fun z hz=>by cases hz),RdT.nil (enc:=encPOp) (sz:=2) fR _⟩,⟨⟨nb,nb,nb,nb,nb,nb,nb,nb,nb,nb,nb⟩,⟨by have h:=e4.1;dsimp only;omega,e4.2⟩,⟨by simp,fun z hz=>by cases hz⟩,⟨by simp,fun z hz=>by cases hz⟩,⟨by simp,fun z hz=>by cases hz⟩,⟨by simp,fun z hz=>by cases hz⟩,⟨by simp,fun z hz=>by cases hz⟩⟩,⟨rfl,by first|(left;rfl)|(right;exact ⟨rfl,om⟩)⟩⟩
  refine qO rfl<|sBS y3 #[I 1,I 3,I 2,I 5] runUnderlying22 sizeOf3 zeroValue3 fun _ _ r2=>nilO ⟨⟨cI r2 5,trivial⟩,?_⟩
  refine qF ?_ ?_
  ·refine qO rfl ?_
   have o6:=(r2.pick 1 rfl)
   refine cX call38 (tape_pick (RdT.flat (hR.up 5 (by rfl))) om o6.flat1 (RdT.flat (RdT.blk (enc:=Go.E.encI) (sz:=1) (xs:=[1,3,2,5]) (fun _=>(by rfl)) 4 0 rfl rfl rfl om)) om om) ?_
   rintro _ _ ⟨j0,rfl,p6,_,_,q6⟩
   have f4:=q6.unflat1
   have ad:(j0:Int)=1\/(j0:Int)=3\/(j0:Int)=2\/(j0:Int)=5:=by simpa using p6
   refine nilO ⟨⟨cI f4 5,trivial⟩,?_⟩
   refine qU [13]<|qO rfl<|sBS f4 #[I 1,I 3,I 2] runUnderlying22 sizeOf3 zeroValue3 fun _ _ g4=>nilO ⟨⟨cI g4 6,trivial⟩,?_⟩
   refine qO rfl ?_
   have r6:=(g4.pick 1 rfl)
   refine cX call38 (tape_pick (RdT.flat (hR.up 6 (by rfl))) om r6.flat1 (RdT.flat (RdT.blk (enc:=Go.E.encI) (sz:=1) (xs:=[1,3,2]) (fun _=>(by rfl)) 3 0 rfl rfl rfl om)) om om) ?_
   rintro _ _ ⟨m0,rfl,s6,_,_,t6⟩
   have h4:=t6.unflat1
   have gd:(m0:Int)=1\/(m0:Int)=3\/(m0:Int)=2:=by simpa using s6
   refine nilO ⟨⟨cI h4 6,trivial⟩,?_⟩
   refine qO rfl<|cX call13 (tape_next (RdT.flat (hR.up 6 (by rfl))) om h4.flat1 4 om) ?_
   rintro _ _ ⟨x0,rfl,_,_,_,u6⟩
   have i4:=u6.unflat1
   refine nilO ⟨⟨cI i4 6,trivial⟩,?_⟩
   refine qO rfl<|cX call61 (tg_edge (RdT.flat (hR.up 6 (by rfl))) om i4.flat1 s0.max_ om) ?_
   rintro _ _ ⟨y0,z0,rfl,v6,_,_,w6⟩
   have x6:=w6.unflat1
   unfold numB at v6
   refine nilO ⟨dA,?_⟩
   refine qO rfl<|tW x6 4 6 (I j0) sizeOf3 fun _ y6=>nilO ⟨dA,?_⟩
   refine qU [15]<|qO rfl<|tW y6 4 7 (I m0) sizeOf3 fun _ z6=>nilO ⟨dA,?_⟩
   refine qU [17]<|qO rfl<|tW z6 4 17 (I d0) sizeOf3 fun _ a7=>nilO ⟨dA,?_⟩
   refine qU [19]<|qO rfl<|tW a7 4 11 (I x0) sizeOf3 fun _ b7=>nilO ⟨dA,?_⟩
   refine qU [21]<|qO rfl<|tW b7 4 4 (.agg #[I y0,I z0]) sizeOf34 fun _ s2=>nilO ⟨dA,?_⟩
   refine qN<|tN ?_
   have hkk:=mul_bd (a:=j0) (b:=m0) (A:=5) (B:=3) om om
   refine rE<|pu2<|sL s2 4 6 (I j0) (isAgg3 _)<|pu1<|sL s2 4 7 (I m0) (isAgg3 _)<|sMul j0 m0<|cX call62 (tg_weights (RdT.flat (hR.up 6 (by rfl))) om s2.flat1 (j0*m0) om) ?_
   rintro _ _ ⟨a1,b1,c1,c7,t2,rfl,u2,j4,v2,_,d7⟩
   have e7:=d7.unflat2
   have hn_zs_95:=u2.len;have hl_zs_95:=u2.le
   refine pu1<|tW e7 5 8 (.slice a1 b1 c1) sizeOf22 fun _ f7=>nB ?_
   have g7:=((f7.picks [6,6,2]).drops [4,4,4,4])
   have h7:Sat W _ ([(p, .cells #[.slice a n k,I v2] 85 (0,0))]::[(g0, .cells #[I (1+c0),I a0,I (-1), .bool ((e0:Int)==3),I y0,I z0,I j0,I m0, .slice a1 b1 c1,nS,nS,I x0,I 0,nS,nS,I 0,nS,I d0] 38 (0,0))]::[(f0, .cells #[I 0,I 0,I 0, .bool false,I 0,I 0,I 0,I 0,nS,nS,nS,I 0,I 0,nS,nS,I 0,nS,I 0] 38 (0,0))]::(t2)::(H::F)):=Sat.perm (show Sat W _ ([(p, .cells #[.slice a n k,I v2] 85 (0,0))]::[(g0, .cells #[I (1+c0),I a0,I (-1), .bool ((e0:Int)==3),I y0,I z0,I j0,I m0, .slice a1 b1 c1,nS,nS,I x0,I 0,nS,nS,I 0,nS,I d0] 38 (0,0))]::[(f0, .cells #[I 0,I 0,I 0, .bool false,I 0,I 0,I 0,I 0,nS,nS,nS,I 0,I 0,nS,nS,I 0,nS,I 0] 38 (0,0))]::t2::H::F) from g7) (by simp [Value.cells])
   exact ⟨((⟨(1+c0),a0,-1,((e0:Int)==3),y0,z0,j0,m0,⟨a1,b1,c1,c7⟩,⟨none,0,0,[]⟩,⟨none,0,0,[]⟩,x0,0,⟨none,0,0,[]⟩,⟨none,0,0,[]⟩,0,⟨none,0,0,[]⟩,d0⟩:Stage),(t2),v2),alA,h7,om,⟨u2.of_mem mS,RdT.nil (enc:=Go.E.encI) (sz:=1) fR _,RdT.nil (enc:=Go.E.encI) (sz:=1) fR _,RdT.nil (enc:=encTap) (sz:=2) fR _,(fun z hz=>by cases hz),RdT.nil (enc:=encTap) (sz:=2) fR _,(fun z hz=>by cases hz),RdT.nil (enc:=encPOp) (sz:=2) fR _⟩,⟨⟨nb,nb,nb,nb,nb,nb,nb,nb,nb,nb,nb⟩,⟨by have h:=j4.1;dsimp only;omega,j4.2⟩,⟨by simp,fun z hz=>by cases hz⟩,⟨by simp,fun z hz=>by cases hz⟩,⟨by simp,fun z hz=>by cases hz⟩,⟨by simp,fun z hz=>by cases hz⟩,⟨by simp,fun z hz=>by cases hz⟩⟩,⟨rfl,by first|(left;rfl)|(right;exact ⟨rfl,om⟩)⟩⟩
  refine qO rfl<|sBS r2 #[I 1,I 3,I 2] runUnderlying22 sizeOf3 zeroValue3 fun _ _ k4=>nilO ⟨⟨cI k4 6,trivial⟩,?_⟩
  refine qO rfl ?_
  have i7:=(k4.pick 2 rfl)
  refine cX call38 (tape_pick (RdT.flat (hR.up 6 (by rfl))) om i7.flat1 (RdT.flat (RdT.blk (enc:=Go.E.encI) (sz:=1) (xs:=[1,3,2,5]) (fun _=>(by rfl)) 4 1 rfl rfl rfl om)) om om) ?_
  rintro _ _ ⟨k0,rfl,j7,_,_,k7⟩
  have l4:=k7.unflat1
  have de:(k0:Int)=1\/(k0:Int)=3\/(k0:Int)=2\/(k0:Int)=5:=by simpa using j7
  refine nilO ⟨⟨cI l4 6,trivial⟩,?_⟩
  refine qU [13]<|qO rfl<|cX call38 (tape_pick (RdT.flat (hR.up 6 (by rfl))) om l4.flat1 (RdT.flat (RdT.blk (enc:=Go.E.encI) (sz:=1) (xs:=[1,3,2]) (fun _=>(by rfl)) 3 0 rfl rfl rfl om)) om om) ?_
  rintro _ _ ⟨n0,rfl,l7,_,_,m7⟩
  have m4:=m7.unflat1
  have he:(n0:Int)=1\/(n0:Int)=3\/(n0:Int)=2:=by simpa using l7
  refine nilO ⟨⟨cI m4 6,trivial⟩,?_⟩
  refine qO rfl<|cX call13 (tape_next (RdT.flat (hR.up 6 (by rfl))) om m4.flat1 4 om) ?_
  rintro _ _ ⟨d1,rfl,_,_,_,n7⟩
  have n4:=n7.unflat1
  refine nilO ⟨⟨cI n4 6,trivial⟩,?_⟩
  refine qO rfl<|cX call61 (tg_edge (RdT.flat (hR.up 6 (by rfl))) om n4.flat1 s0.max_ om) ?_
  rintro _ _ ⟨e1,f1,rfl,o7,_,_,p7⟩
  have q7:=p7.unflat1
  unfold numB at o7
  refine nilO ⟨dA,?_⟩
  refine qO rfl<|tW q7 4 6 (I k0) sizeOf3 fun _ r7=>nilO ⟨dA,?_⟩
  refine qU [15]<|qO rfl<|tW r7 4 7 (I n0) sizeOf3 fun _ s7=>nilO ⟨dA,?_⟩
  refine qU [17]<|qO rfl<|tW s7 4 17 (I d0) sizeOf3 fun _ t7=>nilO ⟨dA,?_⟩
  refine qU [19]<|qO rfl<|tW t7 4 11 (I d1) sizeOf3 fun _ u7=>nilO ⟨dA,?_⟩
  refine qU [21]<|qO rfl<|tW u7 4 4 (.agg #[I e1,I f1]) sizeOf34 fun _ w2=>nilO ⟨dA,?_⟩
  refine qN<|tN ?_
  have hkk:=mul_bd (a:=k0) (b:=n0) (A:=5) (B:=3) om om
  refine rE<|pu2<|sL w2 4 6 (I k0) (isAgg3 _)<|pu1<|sL w2 4 7 (I n0) (isAgg3 _)<|sMul k0 n0<|cX call62 (tg_weights (RdT.flat (hR.up 6 (by rfl))) om w2.flat1 (k0*n0) om) ?_
  rintro _ _ ⟨g1,h1,i1,v7,x2,rfl,y2,o4,z2,_,w7⟩
  have x7:=w7.unflat2
  have hn_zs_156:=y2.len;have hl_zs_156:=y2.le
  refine pu1<|tW x7 5 8 (.slice g1 h1 i1) sizeOf22 fun _ y7=>nB ?_
  have z7:=((y7.picks [6,6,2]).drops [4,4,4,4])
  have a8:Sat W _ ([(p, .cells #[.slice a n k,I z2] 85 (0,0))]::[(g0, .cells #[I (1+c0),I a0,I (-1), .bool ((e0:Int)==3),I e1,I f1,I k0,I n0, .slice g1 h1 i1,nS,nS,I d1,I 0,nS,nS,I 0,nS,I d0] 38 (0,0))]::[(f0, .cells #[I 0,I 0,I 0, .bool false,I 0,I 0,I 0,I 0,nS,nS,nS,I 0,I 0,nS,nS,I 0,nS,I 0] 38 (0,0))]::(x2)::(H::F)):=Sat.perm (show Sat W _ ([(p, .cells #[.slice a n k,I z2] 85 (0,0))]::[(g0, .cells #[I (1+c0),I a0,I (-1), .bool ((e0:Int)==3),I e1,I f1,I k0,I n0, .slice g1 h1 i1,nS,nS,I d1,I 0,nS,nS,I 0,nS,I d0] 38 (0,0))]::[(f0, .cells #[I 0,I 0,I 0, .bool false,I 0,I 0,I 0,I 0,nS,nS,nS,I 0,I 0,nS,nS,I 0,nS,I 0] 38 (0,0))]::x2::H::F) from z7) (by simp [Value.cells])
  exact ⟨((⟨(1+c0),a0,-1,((e0:Int)==3),e1,f1,k0,n0,⟨g1,h1,i1,v7⟩,⟨none,0,0,[]⟩,⟨none,0,0,[]⟩,d1,0,⟨none,0,0,[]⟩,⟨none,0,0,[]⟩,0,⟨none,0,0,[]⟩,d0⟩:Stage),(x2),z2),alA,a8,om,⟨y2.of_mem mS,RdT.nil (enc:=Go.E.encI) (sz:=1) fR _,RdT.nil (enc:=Go.E.encI) (sz:=1) fR _,RdT.nil (enc:=encTap) (sz:=2) fR _,(fun z hz=>by cases hz),RdT.nil (enc:=encTap) (sz:=2) fR _,(fun z hz=>by cases hz),RdT.nil (enc:=encPOp) (sz:=2) fR _⟩,⟨⟨nb,nb,nb,nb,nb,nb,nb,nb,nb,nb,nb⟩,⟨by have h:=o4.1;dsimp only;omega,o4.2⟩,⟨by simp,fun z hz=>by cases hz⟩,⟨by simp,fun z hz=>by cases hz⟩,⟨by simp,fun z hz=>by cases hz⟩,⟨by simp,fun z hz=>by cases hz⟩,⟨by simp,fun z hz=>by cases hz⟩⟩,⟨rfl,by first|(left;rfl)|(right;exact ⟨rfl,om⟩)⟩⟩
 refine sR<|pu2<|nT<|cE (1+c0) 2 (fun b8=>?_) (fun b8=>?_)
 ·refine drawE [2,4,7,9,12,14,18,20,22,24,26,28,30] [(17,⟨p0,2,none⟩,I s0.max_)] [(true,[0,1,5,6,10,11,13,15,16]),(true,[17]),(false,[2]),(true,[3]),(false,[4]),(true,[19]),(false,[7]),(true,[8]),(false,[9]),(false,[12]),(false,[14]),(false,[18]),(false,[20]),(true,[21]),(false,[22]),(true,[23]),(false,[24]),(true,[25]),(false,[26]),(true,[27]),(false,[28]),(true,[29]),(false,[30])] rfl kr ⟨cI h0 4,trivial⟩ ?_
  have c8:=h0.drew
  refine wU [0,1,5,6,10,11,13,15,16]<|wLd (I s0.max_) 0 isAgg3<|wO rfl<|cX call13 (tape_next (RdT.flat (hR.up 4 (by rfl))) om c8.flat1 4 om) ?_
  rintro _ _ ⟨p4,rfl,_,_,_,d8⟩
  have q4:=d8.unflat1
  refine nilO ⟨⟨cI q4 4,trivial⟩,?_⟩
  refine wAdd 1 p4<|wO rfl<|cX call62 (tg_weights (RdT.flat (hR.up 4 (by rfl))) om q4.flat1 (1+p4) om) ?_
  rintro _ _ ⟨j1,k1,l1,e8,a3,rfl,b3,r4,_,_,f8⟩
  have s4:=f8.unflat2
  have hn_zs_245:=b3.len;have hl_zs_245:=b3.le
  refine nilO ⟨⟨cI s4 5,trivial⟩,?_⟩
  refine wU [19]<|wO rfl<|cX call13 (tape_next (RdT.flat (hR.up 5 (by rfl))) om s4.flat1 4 om) ?_
  rintro _ _ ⟨t4,rfl,_,_,_,g8⟩
  have u4:=g8.unflat1
  refine nilO ⟨⟨cI u4 5,trivial⟩,?_⟩
  refine wAdd 1 t4<|wO rfl<|cX call62 (tg_weights (RdT.flat (hR.up 5 (by rfl))) om u4.flat1 (1+t4) om) ?_
  rintro _ _ ⟨m1,n1,o1,h8,c3,rfl,d3,v4,_,_,i8⟩
  have w4:=i8.unflat2
  have hn_zs_264:=d3.len;have hl_zs_264:=d3.le
  refine nilO ⟨⟨cI w4 6,trivial⟩,?_⟩
  refine wO rfl<|cX call13 (tape_next (RdT.flat (hR.up 6 (by rfl))) om w4.flat1 3 om) ?_
  rintro _ _ ⟨q1,rfl,_,_,_,j8⟩
  have x4:=j8.unflat1
  refine nilO ⟨⟨cI x4 6,trivial⟩,?_⟩
  refine wO rfl<|cX call13 (tape_next (RdT.flat (hR.up 6 (by rfl))) om x4.flat1 4 om) ?_
  rintro _ _ ⟨r1,rfl,_,_,_,k8⟩
  have y4:=k8.unflat1
  refine nilO ⟨⟨cI y4 6,trivial⟩,?_⟩
  refine wO rfl<|cX call61 (tg_edge (RdT.flat (hR.up 6 (by rfl))) om y4.flat1 s0.max_ om) ?_
  rintro _ _ ⟨s1,t1,rfl,l8,e3,_,m8⟩
  have n8:=m8.unflat1
  unfold numB at l8
  refine nilO ⟨dA,?_⟩
  refine wO rfl<|tW n8 4 9 (.slice j1 k1 l1) sizeOf22 fun _ o8=>nilO ⟨dA,?_⟩
  refine wU [21]<|wO rfl<|tW o8 4 10 (.slice m1 n1 o1) sizeOf22 fun _ p8=>nilO ⟨dA,?_⟩
  refine wU [23]<|wO rfl<|tW p8 4 17 (I d0) sizeOf3 fun _ q8=>nilO ⟨dA,?_⟩
  refine wU [25]<|wO rfl<|tW q8 4 11 (I q1) sizeOf3 fun _ r8=>nilO ⟨dA,?_⟩
  refine wU [27]<|wO rfl<|tW r8 4 12 (I r1) sizeOf3 fun _ s8=>nilO ⟨dA,?_⟩
  refine wU [29]<|wO rfl<|tW s8 4 4 (.agg #[I s1,I t1]) sizeOf34 fun _ t8=>nilO ⟨dA,?_⟩
  refine wN<|bN<|tN ?_
  have u8:=((t8.picks [2,5,5,3]).drops [5,5])
  have v8:Sat W _ ([(p, .cells #[.slice a n k,I e3] 85 (0,0))]::[(g0, .cells #[I (1+c0),I a0,I (-1), .bool ((e0:Int)==3),I s1,I t1,I 0,I 0,nS, .slice j1 k1 l1, .slice m1 n1 o1,I q1,I r1,nS,nS,I 0,nS,I d0] 38 (0,0))]::[(f0, .cells #[I 0,I 0,I 0, .bool false,I 0,I 0,I 0,I 0,nS,nS,nS,I 0,I 0,nS,nS,I 0,nS,I 0] 38 (0,0))]::(a3++c3)::(H::F)):=Sat.perm (show Sat W _ ([(p, .cells #[.slice a n k,I e3] 85 (0,0))]::[(g0, .cells #[I (1+c0),I a0,I (-1), .bool ((e0:Int)==3),I s1,I t1,I 0,I 0,nS, .slice j1 k1 l1, .slice m1 n1 o1,I q1,I r1,nS,nS,I 0,nS,I d0] 38 (0,0))]::[(f0, .cells #[I 0,I 0,I 0, .bool false,I 0,I 0,I 0,I 0,nS,nS,nS,I 0,I 0,nS,nS,I 0,nS,I 0] 38 (0,0))]::a3::c3::H::F) from u8) (by simp [Value.cells])
  exact ⟨((⟨(1+c0),a0,-1,((e0:Int)==3),s1,t1,0,0,⟨none,0,0,[]⟩,⟨j1,k1,l1,e8⟩,⟨m1,n1,o1,h8⟩,q1,r1,⟨none,0,0,[]⟩,⟨none,0,0,[]⟩,0,⟨none,0,0,[]⟩,d0⟩:Stage),(a3++c3),e3),alA,v8,om,⟨RdT.nil (enc:=Go.E.encI) (sz:=1) fR _,b3.of_mem mS,d3.of_mem mS,RdT.nil (enc:=encTap) (sz:=2) fR _,(fun z hz=>by cases hz),RdT.nil (enc:=encTap) (sz:=2) fR _,(fun z hz=>by cases hz),RdT.nil (enc:=encPOp) (sz:=2) fR _⟩,⟨⟨nb,nb,nb,nb,nb,nb,nb,nb,nb,nb,nb⟩,⟨by simp,fun z hz=>by cases hz⟩,⟨by have h:=r4.1;dsimp only;omega,r4.2⟩,⟨by have h:=v4.1;dsimp only;omega,v4.2⟩,⟨by simp,fun z hz=>by cases hz⟩,⟨by simp,fun z hz=>by cases hz⟩,⟨by simp,fun z hz=>by cases hz⟩⟩,⟨rfl,by first|(left;rfl)|(right;exact ⟨rfl,om⟩)⟩⟩
 refine sR<|pu2<|nT<|cE (1+c0) 3 (fun w8=>?_) (fun w8=>?_)
 ·refine drawE [3,7,12,14,16,18,20,22,24] [(2,⟨p0,0,none⟩,I s0.w),(6,⟨p0,1,none⟩,I s0.h),(11,⟨p0,2,none⟩,I s0.max_)] [(true,[0,1,4,5,8,9,10]),(true,[2]),(true,[6]),(true,[11]),(false,[3]),(true,[13]),(false,[7]),(false,[12]),(false,[14]),(true,[15]),(false,[16]),(true,[17]),(false,[18]),(true,[19]),(false,[20]),(true,[21]),(false,[22]),(true,[23]),(false,[24])] rfl kr ⟨cI h0 4,cI h0 4,cI h0 4,trivial⟩ ?_
  have x8:=h0.drew
  refine wU [0,1,4,5,8,9,10]<|wLd (I s0.w) 0 isAgg3<|wLd (I s0.h) 1 isAgg3<|wLd (I s0.max_) 2 isAgg3<|wO rfl<|cX call63 (tg_table (RdT.flat (hR.up 4 (by rfl))) om x8.flat1 s0.w om) ?_
  rintro _ _ ⟨u1,v1,w1,y8,f3,rfl,g3,z8,z4,_,_,a9⟩
  have h3:=a9.unflat2
  have hn_zs_314:=g3.len;have hl_zs_314:=g3.le
  refine nilO ⟨⟨dI,cI h3 5,cI h3 5,trivial⟩,?_⟩
  refine wU [13]<|wO rfl<|cX call63 (tg_table (RdT.flat (hR.up 5 (by rfl))) om h3.flat1 s0.h om) ?_
  rintro _ _ ⟨x1,y1,z1,b9,i3,rfl,j3,c9,a5,_,_,d9⟩
  have b5:=d9.unflat2
  have hn_zs_327:=j3.len;have hl_zs_327:=j3.le
  refine nilO ⟨⟨dI,dI,cI b5 6,trivial⟩,?_⟩
  refine wO rfl<|cX call61 (tg_edge (RdT.flat (hR.up 6 (by rfl))) om b5.flat1 s0.max_ om) ?_
  rintro _ _ ⟨a2,b2,rfl,e9,k3,_,f9⟩
  have g9:=f9.unflat1
  unfold numB at e9
  refine nilO ⟨dA,?_⟩
  refine wO rfl<|tW g9 4 13 (.slice u1 v1 w1) sizeOf35 fun _ h9=>nilO ⟨dA,?_⟩
  refine wU [15]<|wO rfl<|tW h9 4 14 (.slice x1 y1 z1) sizeOf35 fun _ i9=>nilO ⟨dA,?_⟩
  refine wU [17]<|wO rfl<|tW i9 4 17 (I d0) sizeOf3 fun _ j9=>nilO ⟨dA,?_⟩
  refine wU [19]<|wO rfl<|tW j9 4 11 (I 8) sizeOf3 fun _ k9=>nilO ⟨dA,?_⟩
  refine wU [21]<|wO rfl<|tW k9 4 12 (I 8) sizeOf3 fun _ l9=>nilO ⟨dA,?_⟩
  refine wU [23]<|wO rfl<|tW l9 4 4 (.agg #[I a2,I b2]) sizeOf34 fun _ m9=>nilO ⟨dA,?_⟩
  refine wN<|bN<|tN ?_
  have n9:=((m9.picks [2,5,5,3]).drops [5,5])
  have o9:Sat W _ ([(p, .cells #[.slice a n k,I k3] 85 (0,0))]::[(g0, .cells #[I (1+c0),I a0,I (-1), .bool ((e0:Int)==3),I a2,I b2,I 0,I 0,nS,nS,nS,I 8,I 8, .slice u1 v1 w1, .slice x1 y1 z1,I 0,nS,I d0] 38 (0,0))]::[(f0, .cells #[I 0,I 0,I 0, .bool false,I 0,I 0,I 0,I 0,nS,nS,nS,I 0,I 0,nS,nS,I 0,nS,I 0] 38 (0,0))]::(f3++i3)::(H::F)):=Sat.perm (show Sat W _ ([(p, .cells #[.slice a n k,I k3] 85 (0,0))]::[(g0, .cells #[I (1+c0),I a0,I (-1), .bool ((e0:Int)==3),I a2,I b2,I 0,I 0,nS,nS,nS,I 8,I 8, .slice u1 v1 w1, .slice x1 y1 z1,I 0,nS,I d0] 38 (0,0))]::[(f0, .cells #[I 0,I 0,I 0, .bool false,I 0,I 0,I 0,I 0,nS,nS,nS,I 0,I 0,nS,nS,I 0,nS,I 0] 38 (0,0))]::f3::i3::H::F) from n9) (by simp [Value.cells])
  exact ⟨((⟨(1+c0),a0,-1,((e0:Int)==3),a2,b2,0,0,⟨none,0,0,[]⟩,⟨none,0,0,[]⟩,⟨none,0,0,[]⟩,8,8,⟨u1,v1,w1,y8⟩,⟨x1,y1,z1,b9⟩,0,⟨none,0,0,[]⟩,d0⟩:Stage),(f3++i3),k3),alA,o9,om,⟨RdT.nil (enc:=Go.E.encI) (sz:=1) fR _,RdT.nil (enc:=Go.E.encI) (sz:=1) fR _,RdT.nil (enc:=Go.E.encI) (sz:=1) fR _,g3.of_mem mS,(fun z hz=>(z8 z hz).of_mem mS),j3.of_mem mS,(fun z hz=>(c9 z hz).of_mem mS),RdT.nil (enc:=encPOp) (sz:=2) fR _⟩,⟨⟨nb,nb,nb,nb,nb,nb,nb,nb,nb,nb,nb⟩,⟨by simp,fun z hz=>by cases hz⟩,⟨by simp,fun z hz=>by cases hz⟩,⟨by simp,fun z hz=>by cases hz⟩,⟨by have h:=z4.1;dsimp only;omega,z4.2⟩,⟨by have h:=a5.1;dsimp only;omega,a5.2⟩,⟨by simp,fun z hz=>by cases hz⟩⟩,⟨rfl,by first|(left;rfl)|(right;exact ⟨rfl,om⟩)⟩⟩
 refine sR<|pu2<|nT<|cE (1+c0) 4 (fun p9=>?_) (fun p9=>?_)
 ·refine rE<|pu1<|sBS h0 #[I 4,I 1,I 7] runUnderlying22 sizeOf3 zeroValue3 fun _ _ q9=>?_
  have r9:=(q9.pick 1 rfl)
  refine cX call38 (tape_pick (RdT.flat (hR.up 5 (by rfl))) om r9.flat1 (RdT.flat (RdT.blk (enc:=Go.E.encI) (sz:=1) (xs:=[4,1,7]) (fun _=>(by rfl)) 3 0 rfl rfl rfl om)) om om) ?_
  rintro _ _ ⟨o0,rfl,s9,l3,_,t9⟩
  have u9:=t9.unflat1
  have xg:(o0:Int)=4\/(o0:Int)=1\/(o0:Int)=7:=by simpa using s9
  refine pu1<|tW u9 3 15 (I o0) sizeOf3 fun _ v9=>nB ?_
  have w9:=(v9.drops [1,1,3])
  have x9:Sat W _ ([(p, .cells #[.slice a n k,I l3] 85 (0,0))]::[(g0, .cells #[I (1+c0),I a0,I (-1), .bool ((e0:Int)==3),I 0,I 0,I 0,I 0,nS,nS,nS,I 0,I 0,nS,nS,I o0,nS,I 0] 38 (0,0))]::[(f0, .cells #[I 0,I 0,I 0, .bool false,I 0,I 0,I 0,I 0,nS,nS,nS,I 0,I 0,nS,nS,I 0,nS,I 0] 38 (0,0))]::[]::(H::F)):=Sat.perm (show Sat W _ ([(p, .cells #[.slice a n k,I l3] 85 (0,0))]::[(g0, .cells #[I (1+c0),I a0,I (-1), .bool ((e0:Int)==3),I 0,I 0,I 0,I 0,nS,nS,nS,I 0,I 0,nS,nS,I o0,nS,I 0] 38 (0,0))]::[(f0, .cells #[I 0,I 0,I 0, .bool false,I 0,I 0,I 0,I 0,nS,nS,nS,I 0,I 0,nS,nS,I 0,nS,I 0] 38 (0,0))]::H::F) from w9) (by simp [Value.cells])
  exact ⟨((⟨(1+c0),a0,-1,((e0:Int)==3),0,0,0,0,⟨none,0,0,[]⟩,⟨none,0,0,[]⟩,⟨none,0,0,[]⟩,0,0,⟨none,0,0,[]⟩,⟨none,0,0,[]⟩,o0,⟨none,0,0,[]⟩,0⟩:Stage),[],l3),alA,x9,om,⟨RdT.nil (enc:=Go.E.encI) (sz:=1) fR _,RdT.nil (enc:=Go.E.encI) (sz:=1) fR _,RdT.nil (enc:=Go.E.encI) (sz:=1) fR _,RdT.nil (enc:=encTap) (sz:=2) fR _,(fun z hz=>by cases hz),RdT.nil (enc:=encTap) (sz:=2) fR _,(fun z hz=>by cases hz),RdT.nil (enc:=encPOp) (sz:=2) fR _⟩,⟨⟨nb,nb,nb,nb,nb,nb,nb,nb,nb,nb,nb⟩,⟨by simp,fun z hz=>by cases hz⟩,⟨by simp,fun z hz=>by cases hz⟩,⟨by simp,fun z hz=>by cases hz⟩,⟨by simp,fun z hz=>by cases hz⟩,⟨by simp,fun z hz=>by cases hz⟩,⟨by simp,fun z hz=>by cases hz⟩⟩,⟨rfl,by first|(left;rfl)|(right;exact ⟨rfl,om⟩)⟩⟩
 refine sR<|pu2<|nT<|cE (1+c0) 6 (fun y9=>?_) (fun y9=>?_)
 rotate_left
 ·refine skipE<|bN<|tN ?_
  have z9:=(h0.drops [1,3])
  have aa:Sat W _ ([(p, .cells #[.slice a n k,I l2] 85 (0,0))]::[(g0, .cells #[I (1+c0),I a0,I (-1), .bool ((e0:Int)==3),I 0,I 0,I 0,I 0,nS,nS,nS,I 0,I 0,nS,nS,I 0,nS,I 0] 38 (0,0))]::[(f0, .cells #[I 0,I 0,I 0, .bool false,I 0,I 0,I 0,I 0,nS,nS,nS,I 0,I 0,nS,nS,I 0,nS,I 0] 38 (0,0))]::[]::(H::F)):=Sat.perm (show Sat W _ ([(p, .cells #[.slice a n k,I l2] 85 (0,0))]::[(g0, .cells #[I (1+c0),I a0,I (-1), .bool ((e0:Int)==3),I 0,I 0,I 0,I 0,nS,nS,nS,I 0,I 0,nS,nS,I 0,nS,I 0] 38 (0,0))]::[(f0, .cells #[I 0,I 0,I 0, .bool false,I 0,I 0,I 0,I 0,nS,nS,nS,I 0,I 0,nS,nS,I 0,nS,I 0] 38 (0,0))]::H::F) from z9) (by simp [Value.cells])
  exact ⟨((⟨(1+c0),a0,-1,((e0:Int)==3),0,0,0,0,⟨none,0,0,[]⟩,⟨none,0,0,[]⟩,⟨none,0,0,[]⟩,0,0,⟨none,0,0,[]⟩,⟨none,0,0,[]⟩,0,⟨none,0,0,[]⟩,0⟩:Stage),[],l2),alA,aa,om,⟨RdT.nil (enc:=Go.E.encI) (sz:=1) fR _,RdT.nil (enc:=Go.E.encI) (sz:=1) fR _,RdT.nil (enc:=Go.E.encI) (sz:=1) fR _,RdT.nil (enc:=encTap) (sz:=2) fR _,(fun z hz=>by cases hz),RdT.nil (enc:=encTap) (sz:=2) fR _,(fun z hz=>by cases hz),RdT.nil (enc:=encPOp) (sz:=2) fR _⟩,⟨⟨nb,nb,nb,nb,nb,nb,nb,nb,nb,nb,nb⟩,⟨by simp,fun z hz=>by cases hz⟩,⟨by simp,fun z hz=>by cases hz⟩,⟨by simp,fun z hz=>by cases hz⟩,⟨by simp,fun z hz=>by cases hz⟩,⟨by simp,fun z hz=>by cases hz⟩,⟨by simp,fun z hz=>by cases hz⟩⟩,⟨rfl,by first|(left;rfl)|(right;exact ⟨rfl,om⟩)⟩⟩
 refine seqE<|sR<|pu3<|sD 110 (b0>=0) (fun ba=>?_) (fun ba=>?_)
 rotate_left
 ·refine pu4<|nT<|cFf<|kT<|rE<|pu2<|sL h0 2 2 (I (-1)) (isAgg3 _)<|pu1<|cX call64 (tg_ops (RdT.flat (hR.up 4 (by rfl))) om h0.flat1 false) ?_
  rintro _ _ ⟨c2,d2,e2,ca,m3,rfl,n3,c5,o3,_,da⟩
  have ea:=da.unflat2
  have hn_zs_427:=n3.len;have hl_zs_427:=n3.le
  refine pu2<|tW ea 3 16 (.slice c2 d2 e2) sizeOf36 fun _ fa=>pu1<|tW fa 3 17 (I d0) sizeOf3 fun _ ga=>nB ?_
  have ha:=((ga.picks [4,4,2]).drops [4,4])
  have ia:Sat W _ ([(p, .cells #[.slice a n k,I o3] 85 (0,0))]::[(g0, .cells #[I (1+c0),I a0,I (-1), .bool ((e0:Int)==3),I 0,I 0,I 0,I 0,nS,nS,nS,I 0,I 0,nS,nS,I 0, .slice c2 d2 e2,I d0] 38 (0,0))]::[(f0, .cells #[I 0,I 0,I 0, .bool false,I 0,I 0,I 0,I 0,nS,nS,nS,I 0,I 0,nS,nS,I 0,nS,I 0] 38 (0,0))]::(m3)::(H::F)):=Sat.perm (show Sat W _ ([(p, .cells #[.slice a n k,I o3] 85 (0,0))]::[(g0, .cells #[I (1+c0),I a0,I (-1), .bool ((e0:Int)==3),I 0,I 0,I 0,I 0,nS,nS,nS,I 0,I 0,nS,nS,I 0, .slice c2 d2 e2,I d0] 38 (0,0))]::[(f0, .cells #[I 0,I 0,I 0, .bool false,I 0,I 0,I 0,I 0,nS,nS,nS,I 0,I 0,nS,nS,I 0,nS,I 0] 38 (0,0))]::m3::H::F) from ha) (by simp [Value.cells])
  exact ⟨((⟨(1+c0),a0,-1,((e0:Int)==3),0,0,0,0,⟨none,0,0,[]⟩,⟨none,0,0,[]⟩,⟨none,0,0,[]⟩,0,0,⟨none,0,0,[]⟩,⟨none,0,0,[]⟩,0,⟨c2,d2,e2,ca⟩,d0⟩:Stage),(m3),o3),alA,ia,om,⟨RdT.nil (enc:=Go.E.encI) (sz:=1) fR _,RdT.nil (enc:=Go.E.encI) (sz:=1) fR _,RdT.nil (enc:=Go.E.encI) (sz:=1) fR _,RdT.nil (enc:=encTap) (sz:=2) fR _,(fun z hz=>by cases hz),RdT.nil (enc:=encTap) (sz:=2) fR _,(fun z hz=>by cases hz),n3.of_mem mS⟩,⟨⟨nb,nb,nb,nb,nb,nb,nb,nb,nb,nb,nb⟩,⟨by simp,fun z hz=>by cases hz⟩,⟨by simp,fun z hz=>by cases hz⟩,⟨by simp,fun z hz=>by cases hz⟩,⟨by simp,fun z hz=>by cases hz⟩,⟨by simp,fun z hz=>by cases hz⟩,⟨by have h:=c5.1;dsimp only;omega,c5.2⟩⟩,⟨rfl,by first|(left;rfl)|(right;exact ⟨rfl,om⟩)⟩⟩
 refine pu1<|gY<|cX call13 (tape_next (RdT.flat (hR.up 4 (by rfl))) om h0.flat1 2 om) ?_
 rintro _ _ ⟨ja,rfl,_,_,_,ka⟩
 have p3:=ka.unflat1
 refine pu2<|nT<|cE ja 0 (fun la=>?_) (fun la=>?_)
 rotate_left
 ·refine kT<|rE<|pu2<|sL p3 2 2 (I (-1)) (isAgg3 _)<|pu1<|cX call64 (tg_ops (RdT.flat (hR.up 4 (by rfl))) om p3.flat1 false) ?_
  rintro _ _ ⟨f2,g2,h2,ma,q3,rfl,r3,d5,s3,_,na⟩
  have oa:=na.unflat2
  have hn_zs_409:=r3.len;have hl_zs_409:=r3.le
  refine pu2<|tW oa 3 16 (.slice f2 g2 h2) sizeOf36 fun _ pa=>pu1<|tW pa 3 17 (I d0) sizeOf3 fun _ qa=>nB ?_
  have ra:=((qa.picks [4,4,2]).drops [4,4])
  have sa:Sat W _ ([(p, .cells #[.slice a n k,I s3] 85 (0,0))]::[(g0, .cells #[I (1+c0),I a0,I (-1), .bool ((e0:Int)==3),I 0,I 0,I 0,I 0,nS,nS,nS,I 0,I 0,nS,nS,I 0, .slice f2 g2 h2,I d0] 38 (0,0))]::[(f0, .cells #[I 0,I 0,I 0, .bool false,I 0,I 0,I 0,I 0,nS,nS,nS,I 0,I 0,nS,nS,I 0,nS,I 0] 38 (0,0))]::(q3)::(H::F)):=Sat.perm (show Sat W _ ([(p, .cells #[.slice a n k,I s3] 85 (0,0))]::[(g0, .cells #[I (1+c0),I a0,I (-1), .bool ((e0:Int)==3),I 0,I 0,I 0,I 0,nS,nS,nS,I 0,I 0,nS,nS,I 0, .slice f2 g2 h2,I d0] 38 (0,0))]::[(f0, .cells #[I 0,I 0,I 0, .bool false,I 0,I 0,I 0,I 0,nS,nS,nS,I 0,I 0,nS,nS,I 0,nS,I 0] 38 (0,0))]::q3::H::F) from ra) (by simp [Value.cells])
  exact ⟨((⟨(1+c0),a0,-1,((e0:Int)==3),0,0,0,0,⟨none,0,0,[]⟩,⟨none,0,0,[]⟩,⟨none,0,0,[]⟩,0,0,⟨none,0,0,[]⟩,⟨none,0,0,[]⟩,0,⟨f2,g2,h2,ma⟩,d0⟩:Stage),(q3),s3),alA,sa,om,⟨RdT.nil (enc:=Go.E.encI) (sz:=1) fR _,RdT.nil (enc:=Go.E.encI) (sz:=1) fR _,RdT.nil (enc:=Go.E.encI) (sz:=1) fR _,RdT.nil (enc:=encTap) (sz:=2) fR _,(fun z hz=>by cases hz),RdT.nil (enc:=encTap) (sz:=2) fR _,(fun z hz=>by cases hz),r3.of_mem mS⟩,⟨⟨nb,nb,nb,nb,nb,nb,nb,nb,nb,nb,nb⟩,⟨by simp,fun z hz=>by cases hz⟩,⟨by simp,fun z hz=>by cases hz⟩,⟨by simp,fun z hz=>by cases hz⟩,⟨by simp,fun z hz=>by cases hz⟩,⟨by simp,fun z hz=>by cases hz⟩,⟨by have h:=d5.1;dsimp only;omega,d5.2⟩⟩,⟨rfl,by first|(left;rfl)|(right;exact ⟨rfl,om⟩)⟩⟩
 refine rE<|pu2<|tW p3 2 2 (I b0) sizeOf3 fun _ e5=>nT<|rE<|pu2<|sL e5 2 2 (I b0) (isAgg3 _)<|pu1<|cX call64 (tg_ops (RdT.flat (hR.up 4 (by rfl))) om e5.flat1 (decide ((b0:Int)>=0))) ?_
 rintro _ _ ⟨i2,j2,k2,ta,t3,rfl,u3,f5,v3,_,ua⟩
 have va:=ua.unflat2
 have hn_zs_391:=u3.len;have hl_zs_391:=u3.le
 refine pu2<|tW va 3 16 (.slice i2 j2 k2) sizeOf36 fun _ wa=>pu1<|tW wa 3 17 (I d0) sizeOf3 fun _ xa=>nB ?_
 have ya:=((xa.picks [4,4,2]).drops [4,4])
 have za:Sat W _ ([(p, .cells #[.slice a n k,I v3] 85 (0,0))]::[(g0, .cells #[I (1+c0),I a0,I b0, .bool ((e0:Int)==3),I 0,I 0,I 0,I 0,nS,nS,nS,I 0,I 0,nS,nS,I 0, .slice i2 j2 k2,I d0] 38 (0,0))]::[(f0, .cells #[I 0,I 0,I 0, .bool false,I 0,I 0,I 0,I 0,nS,nS,nS,I 0,I 0,nS,nS,I 0,nS,I 0] 38 (0,0))]::(t3)::(H::F)):=Sat.perm (show Sat W _ ([(p, .cells #[.slice a n k,I v3] 85 (0,0))]::[(g0, .cells #[I (1+c0),I a0,I b0, .bool ((e0:Int)==3),I 0,I 0,I 0,I 0,nS,nS,nS,I 0,I 0,nS,nS,I 0, .slice i2 j2 k2,I d0] 38 (0,0))]::[(f0, .cells #[I 0,I 0,I 0, .bool false,I 0,I 0,I 0,I 0,nS,nS,nS,I 0,I 0,nS,nS,I 0,nS,I 0] 38 (0,0))]::t3::H::F) from ya) (by simp [Value.cells])
 exact ⟨((⟨(1+c0),a0,b0,((e0:Int)==3),0,0,0,0,⟨none,0,0,[]⟩,⟨none,0,0,[]⟩,⟨none,0,0,[]⟩,0,0,⟨none,0,0,[]⟩,⟨none,0,0,[]⟩,0,⟨i2,j2,k2,ta⟩,d0⟩:Stage),(t3),v3),alA,za,om,⟨RdT.nil (enc:=Go.E.encI) (sz:=1) fR _,RdT.nil (enc:=Go.E.encI) (sz:=1) fR _,RdT.nil (enc:=Go.E.encI) (sz:=1) fR _,RdT.nil (enc:=encTap) (sz:=2) fR _,(fun z hz=>by cases hz),RdT.nil (enc:=encTap) (sz:=2) fR _,(fun z hz=>by cases hz),u3.of_mem mS⟩,⟨⟨nb,nb,nb,nb,nb,nb,nb,nb,nb,nb,nb⟩,⟨by simp,fun z hz=>by cases hz⟩,⟨by simp,fun z hz=>by cases hz⟩,⟨by simp,fun z hz=>by cases hz⟩,⟨by simp,fun z hz=>by cases hz⟩,⟨by simp,fun z hz=>by cases hz⟩,⟨by have h:=f5.1;dsimp only;omega,f5.2⟩⟩,⟨rfl,by first|(left;rfl)|(right;exact ⟨rfl,om⟩)⟩⟩
theorem tg_shapes {p:Nat} {a:Option Addr} {n k:Nat} {i:Int} {xs:List Int} (hR:RdT Go.E.encI 1 [H] a n k xs) (hi:0<=i/\i<=n) (hS:Sat W w ([(p, .cells #[.slice a n k,I i] 85 (0,0))]::H::F)) (j0:Job) (hj0:Job.Ok [H] j0) (l0:List Shape) (hgood:Good (j0.inputs.l.map Plane.v) (j0.stages.l.map Stage.v) j0.priority) (hrun:runS ((j0.inputs.l.map Plane.v).map shpOf) (j0.stages.l.map Stage.v)=some l0):
  Calls prog 44 #[Pt p 0, .agg (encJob j0).toArray] w fun e w'=>∃(az:Option Addr) (nz:Nat) (kz:Nat) (G:Chunk),e= .returned (.slice az nz kz)/\(RdT encShape 3 [G] az nz kz l0)/\∃i':Int,(0<=i'/\i'<=n)/\Sat W w' ([(p, .cells #[.slice a n k,I i'] 85 (0,0))]::G::H::F):=by
 have hl_j0_inputs:=hj0.inputs.le;have hn_j0_inputs:=hj0.inputs.len
 have hl_j0_stages:=hj0.stages.le;have hn_j0_stages:=hj0.stages.len
 have hl_j0_outputs:=hj0.outputs.le;have hn_j0_outputs:=hj0.outputs.len
 have hle:=hR.le
 have hmi:(j0.inputs.l.map Plane.v).length=j0.inputs.n:=by simp [hn_j0_inputs]
 have hms:(j0.stages.l.map Stage.v).length=j0.stages.n:=by simp [hn_j0_stages]
 have hgni:=hgood.ni;have hgns:=hgood.ns
 refine callsA 40 func44 rfl<|sR<|sBox hS (.agg (encJob j0).toArray) (encJob j0).toArray fun h0 _ c0=>pu1<|zQ<|pu1<|sL c0 0 1 (.slice j0.stages.a j0.stages.n j0.stages.k) (isAgg26 _)<|pu2<|nT<|cE (j0.stages.n:Int) 0 (fun k0=>?_) (fun k0=>?_)
 rotate_left
 ·refine kS<|sBS c0 #[I 0] runUnderlying22 sizeOf3 zeroValue3 fun d0 _ m0=>pu1<|tW m0 1 2 (.slice (At d0 0) 1 1) sizeOf22 fun _ i0=>zS<|lA i0 1 0 4 (isAgg28 _) (sizeOf28 _)<|cX call29 (r17_shapes (⟨j0.inputs,j0.stages,⟨(At d0 0),1,1,[0]⟩,j0.priority⟩:Job) ⟨(RdT.flat (hj0.inputs.up 3 (by rfl))),(fun z hz=>(hj0.inputsD z hz).of_mem (mem_flat1 3 (by rfl))),(RdT.flat (hj0.stages.up 3 (by rfl))),(fun z hz=>(hj0.stagesD z hz).of_mem (mem_flat1 3 (by rfl))),(RdT.flat (RdT.blk (enc:=Go.E.encI) (sz:=1) (xs:=[0]) (fun _=>(by rfl)) 1 0 rfl rfl rfl om))⟩ (od) i0.flat) ?_
  rintro _ _ ⟨n0,o0,p0,q0,rfl,f0,r0⟩
  have s0:=r0.unflat1
  have hn_az_37:=f0.len;have hl_az_37:=f0.le
  refine pu7<|zS<|pu2<|zE<|retT [.slice n0 o0 p0] ?_
  have hl0:l0=(shpV (jobOf (j0.inputs.l.map Plane.v) (j0.stages.l.map Stage.v) j0.priority)).1:=by rw [(shp_run hgood (by rw [hms];omega)).1 l0 hrun]
  have hrd:=f0
  have e0:((shpV (⟨j0.inputs,j0.stages,⟨(At d0 0),1,1,[0]⟩,j0.priority⟩:Job).v).1)=l0:=hl0.symm;rw [e0] at hrd
  exact ⟨_,_,_,q0,rfl,hrd,_,om,((s0.pick 3 rfl).drops [2,2])⟩
 refine sR<|pu1<|zQ<|pu1<|nT<|blockE ?_
 have u0:=Sat.nilc c0
 refine loopA (γ:=Nat×Int×(List Shape)×(Option Addr)×Nat×Nat×Chunk) (fun ⟨i,iti,zs,azs,nzs,kzs,czs⟩=>[(3,Pt h0 0),(6,I (i:Int)),(5, .slice azs nzs kzs)]) (fun ⟨i,iti,zs,azs,nzs,kzs,czs⟩ w=>Sat W w (czs::[(h0, .cells (encJob j0).toArray 28 (0,0))]::[(p, .cells #[.slice a n k,I iti] 85 (0,0))]::H::F)/\i<=j0.inputs.n/\(zs=((j0.inputs.l.map Plane.v).take i).map shpOf)/\(zs.length=i)/\(0<=iti/\iti<=n)/\OwnT encShape 54 3 azs nzs kzs zs czs) (fun ⟨i,iti,zs,azs,nzs,kzs,czs⟩=>j0.inputs.n-i) (0,i,[],none,0,0,[]) ⟨u0,om,by rfl,by rfl,om,(OwnT.nil (enc:=encShape) (E:=54) (sz:=3) fR)⟩ ?_
 rintro ⟨i,iti,zs,azs,nzs,kzs,czs⟩ ρ _ ⟨b0,hi,hzs,hzl,hiti,hOzs⟩
 have hn_zs:=hOzs.len;have hl_zs:=hOzs.le
 refine seqE<|sR<|pu2<|sL b0 1 0 (.slice j0.inputs.a j0.inputs.n j0.inputs.k) (isAgg25 _)<|pu2<|nT<|cD ((i:Int)<(j0.inputs.n:Int)) (fun w0=>?_) (fun w0=>?_)
 rotate_left
 ·refine exitE<|xB<|tN<|sR<|pu2<|zR<|retT [.slice azs nzs kzs] ?_
  have hl0:l0=zs:=by
   have h:=hrun;rw [show (j0.stages.l.map Stage.v)=[] from List.eq_nil_of_length_eq_zero (by rw [hms];omega)] at h;simp only [runS,Option.some.injEq] at h;rw [<-h,hzs,List.take_of_length_le (by rw [hmi];omega)]
  have hrd:=(hOzs.rdAt (cs:=[czs]) 0 rfl)
  have e0:zs=l0:=hl0.symm;rw [e0] at hrd
  exact ⟨_,_,_,czs,rfl,hrd,_,om,((b0.pick 2 rfl).dropAt 2 rfl)⟩
 refine kT<|seqE<|blockE<|rE<|pu2<|sL b0 1 0 (.slice j0.inputs.a j0.inputs.n j0.inputs.k) (isAgg25 _)<|pu1<|sIdx hj0.inputs (i:Int) runUnderlying25 sizeOf87 fun a0 _ _ g0 y0=>?_
 rw [Int.toNat_natCast] at g0
 refine sLpA b0 (y0.up 3 rfl) 0 (encPlane a0) (isAgg87 _) (sizeOf87 _)<|cR call75 (r17_of a0 ⟨(RdT.flat ((hj0.inputsD a0 (List.mem_of_getElem? g0)).pix.up 3 (by rfl)))⟩ b0.flat) fun _ z0=>sBS z0 #[I a0.w,I a0.h,I a0.max_] runUnderlying61 sizeOf54 zeroValue54 fun _ _ a1=>sApp (nb:=24) a1 hOzs 1 (RdT.blk (enc:=encShape) (sz:=3) (xs:=[(⟨a0.w,a0.h,a0.max_⟩:Shape)]) fR 1 0 rfl rfl rfl om) underlying61 (i:=Tryz.t54) kr fR fun b1 c1 d1 _ e1 f1=>pu1<|nB<|rE<|pu1<|sAdd (i:Int) 1<|pu1<|nT ?_
 exact ⟨(i+1,iti,(zs++[(⟨a0.w,a0.h,a0.max_⟩:Shape)]),b1,(nzs+1),c1,d1),od,alA,(f1.dropAt 0 rfl),om,by rw [take_succ_at (map_at (f:=Plane.v) g0),List.map_append,<-hzs];rfl,by simp;omega,om,e1⟩
end Go.Proofs.YtdingplbadblpaaGreat
