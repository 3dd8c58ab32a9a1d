import Derived.Test.YtmlhcafjelkjfaaGreatP4Ab
import Derived.WalkKit
import Derived.Deep.Quiet
import Derived.KernelRfl
import Derived.Laws.BytesString
import Derived.Laws.Shifts
import Derived.Laws.IdiomStrings
import Derived.Test.YtmlhcafjelkjfaaGreatProg
import Derived.Test.YtmlhcafjelkjfaaGreatP4Gr2
import Derived.Test.YtmlhcafjelkjfaaGreatP4Tq
namespace Go.Proofs.YtmlhcafjelkjfaaGreat
open Go Go.E Go.Proofs.Tryz
set_option linter.all false
set_option maxRecDepth 100000
set_option maxHeartbeats 2000000
variable {W w:World} {H:Chunk} {F:List Chunk}
def planeB (q:Plane):Prop:=q.pix.l.length<=64/\∀z∈q.pix.l,numB z
theorem tg_weights {p:Nat} {a:Option Addr} {n k:Nat} {i:Int} {xs:List Int} (hR:RdT Go.E.encI 1 [H] a n k xs) (hi:0<=i/\i<=n) (hS:Sat W w ([(p, .cells #[.slice a n k,I i] 81 (0,0))]::H::F)) (m0:Int) (hm:m0<=64):
  Calls prog 71 #[Pt p 0,I m0] w fun e w'=>∃(az:Option Addr) (nz:Nat) (kz:Nat) (zs:List Int) (G:Chunk),e= .returned (.slice az nz kz)/\(RdT Go.E.encI 1 [G] az nz kz zs)/\((zs.length:Int)=max m0 0/\∀z∈zs,numB z)/\∃i':Int,(0<=i'/\i'<=n)/\Sat W w' ([(p, .cells #[.slice a n k,I i'] 81 (0,0))]::G::H::F):=by
 have hle:=hR.le
 refine callsA 22 func71 rfl<|sR<|pu1<|zS<|pu1<|zQ<|pu1<|nT<|blockE ?_
 have d0:=Sat.nilc hS
 refine loopA (γ:=Nat×Int×(List Int)×(Option Addr)×Nat×Nat×Chunk) (fun ⟨i,iti,zs,azs,nzs,kzs,czs⟩=>[(0,Pt p 0),(1,I m0),(6,I (i:Int)),(5, .slice azs nzs kzs)]) (fun ⟨i,iti,zs,azs,nzs,kzs,czs⟩ w=>Sat W w (czs::[(p, .cells #[.slice a n k,I iti] 81 (0,0))]::H::F)/\i<=m0.toNat/\(∀z∈zs,numB z)/\(zs.length=i)/\(0<=iti/\iti<=n)/\OwnT Go.E.encI 3 1 azs nzs kzs zs czs) (fun ⟨i,iti,zs,azs,nzs,kzs,czs⟩=>m0.toNat-i) (0,i,[],none,0,0,[]) ⟨d0,om,(by intro z hz;cases hz),by rfl,om,(OwnT.nil (enc:=Go.E.encI) (E:=3) (sz:=1) fR)⟩ ?_
 rintro ⟨i,iti,zs,azs,nzs,kzs,czs⟩ ρ _ ⟨c0,hi,hB,hzl,hiti,hOzs⟩
 have hn_zs:=hOzs.len;have hl_zs:=hOzs.le
 refine seqE<|sR<|pu3<|nT<|cD ((i:Int)<m0) (fun f0=>?_) (fun f0=>?_)
 rotate_left
 ·exact exitE<|xB<|tN<|sR<|pu2<|zE<|retT [.slice azs nzs kzs]<|⟨_,_,_,zs,czs,rfl,(hOzs.rdAt (cs:=[czs]) 0 rfl),⟨om,hB⟩,_,om,(c0.pick 1 rfl)⟩
 refine kT<|seqE<|blockE<|rE<|pu3 ?_
 have h0:=(c0.pick 1 rfl)
 refine cX call15 (tape_next (RdT.flat (hR.up 1 (by rfl))) om h0.flat1 41 om) ?_
 rintro _ _ ⟨b0,rfl,_,_,_,i0⟩
 have j0:=i0.unflat1
 refine sSub b0 20<|sBS j0 #[I 1,I 2,I (-1),I 0,I (b0-20),I 5] runUnderlying22 sizeOf3 zeroValue3 fun _ _ k0=>?_
 have l0:=(k0.pick 1 rfl)
 refine cX call42 (tape_pick (RdT.flat (hR.up 2 (by rfl))) om l0.flat1 (RdT.flat (RdT.blk (enc:=Go.E.encI) (sz:=1) (xs:=[1,2,-1,0,(b0-20),5]) (fun _=>(by rfl)) 6 0 rfl rfl rfl om)) om om) ?_
 rintro _ _ ⟨a0,rfl,n0,o0,_,p0⟩
 have q0:=p0.unflat1
 have h1:(a0:Int)=1\/(a0:Int)=2\/(a0:Int)=(-1)\/(a0:Int)=0\/(a0:Int)=(b0-20)\/(a0:Int)=5:=by simpa using n0
 refine sBS q0 #[I a0] runUnderlying22 sizeOf3 zeroValue3 fun _ _ r0=>sApp (nb:=8) r0 hOzs 3 (RdT.blk (enc:=Go.E.encI) (sz:=1) (xs:=[a0]) fR 1 0 rfl rfl rfl om) underlying22 (i:=Tryz.t3) kr fR fun s0 t0 u0 _ v0 w0=>pu1<|nB<|rE<|pu1<|sAdd (i:Int) 1<|pu1<|nT ?_
 exact ⟨(i+1,o0,(zs++[a0]),s0,(nzs+1),t0,u0),od,alA,((w0.pick 3 rfl).drops [1,2]),om,mem_snoc hB (by unfold numB;omega),by simp;omega,om,v0⟩
theorem tg_edge {p:Nat} {a:Option Addr} {n k:Nat} {i:Int} {xs:List Int} (hR:RdT Go.E.encI 1 [H] a n k xs) (hi:0<=i/\i<=n) (hS:Sat W w ([(p, .cells #[.slice a n k,I i] 81 (0,0))]::H::F)) (mx:Int) (hmx:0<=mx/\mx<=4294967296):
  Calls prog 70 #[Pt p 0,I mx] w fun e w'=>∃(ep:Int) (ef:Int),e= .returned (.agg #[I ep,I ef])/\(numB ep/\numB ef)/\∃i':Int,(0<=i'/\i'<=n)/\Sat W w' ([(p, .cells #[.slice a n k,I i'] 81 (0,0))]::H::F):=by
 have hle:=hR.le
 refine callsA 20 func70 rfl<|sR<|sAlloc hS zeroValue49 fun _ _ g0=>zS<|pu1 ?_
 have h0:=(g0.pick 1 rfl)
 refine cX call15 (tape_next (RdT.flat (hR.up 1 (by rfl))) om h0.flat1 4 om) ?_
 rintro _ _ ⟨a0,rfl,_,_,_,i0⟩
 have j0:=i0.unflat1
 refine pu1<|sAlloc j0 zeroValue49 fun _ _ k0=>?_
 refine sT k0 0 0 (.agg #[I a0,I 0]) [I a0,I 0] #[I a0,I 0] sizeOf49 fun _ c0=>zQ<|pu1<|sL c0 0 0 (I a0) (isAgg3 _)<|pu1<|nT<|cE a0 3 (fun l0=>?_) (fun l0=>?_)
 rotate_left
 ·refine kS<|lA c0 0 0 2 (isAgg49 _) (sizeOf49 _)<|sT c0 2 0 (.agg #[I a0,I 0]) [I a0,I 0] #[I a0,I 0] sizeOf49 fun _ d0=>zE<|retN (vs:=[.agg #[I a0,I 0]]) rfl (.cons (.cell _ _ _ _ kr (lvA d0 2 0 [I a0,I 0] (isAgg49 _) (sizeOf49 _) rfl rfl rfl)) .nil) ?_
  exact ⟨a0,0,rfl,by unfold numB;omega,_,om,(d0.drops [0,1])⟩
 have hd:=tdiv_bd (a:=mx) (b:=2) (A:=4294967296) om om
 refine rE<|pu3<|sQuo mx 2<|sBS c0 #[I 0,I mx,I (mx.tdiv 2)] runUnderlying22 sizeOf3 zeroValue3 fun _ _ n0=>?_
 have o0:=(n0.pick 2 rfl)
 refine cX call42 (tape_pick (RdT.flat (hR.up 3 (by rfl))) om o0.flat1 (RdT.flat (RdT.blk (enc:=Go.E.encI) (sz:=1) (xs:=[0,mx,(mx.tdiv 2)]) (fun _=>(by rfl)) 3 0 rfl rfl rfl om)) om om) ?_
 rintro _ _ ⟨b0,rfl,p0,_,_,q0⟩
 have r0:=q0.unflat1
 have i1:(b0:Int)=0\/(b0:Int)=mx\/(b0:Int)=(mx.tdiv 2):=by simpa using p0
 refine pu1<|sT r0 2 1 (I b0) [I b0] #[I a0,I b0] sizeOf3 fun _ e0=>zS<|lA e0 2 0 2 (isAgg49 _) (sizeOf49 _)<|sT e0 3 0 (.agg #[I a0,I b0]) [I a0,I b0] #[I a0,I b0] sizeOf49 fun _ f0=>zE<|retN (vs:=[.agg #[I a0,I b0]]) rfl (.cons (.cell _ _ _ _ kr (lvA f0 3 0 [I a0,I b0] (isAgg49 _) (sizeOf49 _) rfl rfl rfl)) .nil) ?_
 exact ⟨a0,b0,rfl,by unfold numB;omega,_,om,(f0.drops [1,1,1])⟩
theorem tg_sized {p:Nat} {a:Option Addr} {n k:Nat} {i:Int} {xs:List Int} (hR:RdT Go.E.encI 1 [H] a n k xs) (hi:0<=i/\i<=n) (hS:Sat W w ([(p, .cells #[.slice a n k,I i] 81 (0,0))]::H::F)) (w0:Int) (h0:Int) (hwh:(1<=w0/\w0<=8)/\1<=h0/\h0<=8):
  Calls prog 23 #[Pt p 0,I w0,I h0] w fun e w'=>∃(q:Plane) (G:Chunk),e= .returned (.agg (encPlane q).toArray)/\(Plane.Ok [G] q)/\(q.w=w0/\q.h=h0/\planeOK q.v=true/\planeB q)/\∃i':Int,(0<=i'/\i'<=n)/\Sat W w' ([(p, .cells #[.slice a n k,I i'] 81 (0,0))]::G::H::F):=by
 have hle:=hR.le
 have hwh2:=mul_bd (a:=w0) (b:=h0) (A:=8) (B:=8) om om
 refine callsA 46 func23 rfl<|sR<|sAlloc hS zeroValue38 fun s0 _ b2=>nT<|cutA (γ:=Nat×Int×(Option Addr)×Chunk×Int) (fun ⟨b7,mx,a1,c1,itc⟩=>[(0,Pt p 0),(6,Pt s0 0),(7,Pt b7 0)]) (fun ⟨b7,mx,a1,c1,itc⟩ w=>Sat W w ([(p, .cells #[.slice a n k,I itc] 81 (0,0))]::[(b7, .cells #[I w0,I h0,I mx, .slice a1 (((w0*h0)).toNat) (((w0*h0)).toNat)] 38 (0,0))]::c1::[(s0, .cells #[I 0,I 0,I 0,nS] 38 (0,0))]::H::F)/\(0<=itc/\itc<=n)/\(1<=mx/\mx<=65535)/\OwnT Go.E.encI 3 1 a1 (((w0*h0)).toNat) (((w0*h0)).toNat) (List.replicate (((w0*h0)).toNat) 0) c1) ?_ ?_
 rotate_left
 ·rintro ⟨b7,mx,a1,c1,itc⟩ ρ _ ⟨c2,hitc,hmx,hO1⟩
  refine seqE<|sR<|pu1<|nT<|blockE ?_
  have d2:=(c2.pick 2 rfl)
  refine loopA (γ:=Nat×Int×(List Int)×(Option Addr)×Nat×Nat×Chunk) (fun ⟨i,iti,zs,azs,nzs,kzs,czs⟩=>[(0,Pt p 0),(6,Pt s0 0),(7,Pt b7 0),(8,I (i:Int))]) (fun ⟨i,iti,zs,azs,nzs,kzs,czs⟩ w=>Sat W w (czs::[(p, .cells #[.slice a n k,I iti] 81 (0,0))]::[(b7, .cells #[I w0,I h0,I mx, .slice azs nzs kzs] 38 (0,0))]::[(s0, .cells #[I 0,I 0,I 0,nS] 38 (0,0))]::H::F)/\i<=((w0*h0)).toNat/\(∀z∈zs,0<=z/\z<=mx)/\(zs.length=((w0*h0)).toNat)/\(0<=iti/\iti<=n)/\OwnT Go.E.encI 3 1 azs nzs kzs zs czs) (fun ⟨i,iti,zs,azs,nzs,kzs,czs⟩=>(((w0*h0)).toNat)-i) (0,itc,(List.replicate (((w0*h0)).toNat) 0),a1,((w0*h0)).toNat,((w0*h0)).toNat,c1) ⟨d2,om,(by intro z hz;have:=List.eq_of_mem_replicate hz;omega),by simp,om,hO1⟩ ?_
  rintro ⟨i,iti,zs,azs,nzs,kzs,czs⟩ ρ _ ⟨n0,hi,hB,hzl,hiti,hOzs⟩
  have hn_zs:=hOzs.len;have hl_zs:=hOzs.le
  refine seqE<|sR<|pu2<|sL n0 2 3 (.slice azs nzs kzs) (isAgg22 _)<|pu2<|nT<|cD ((i:Int)<(nzs:Int)) (fun e2=>?_) (fun e2=>?_)
  rotate_left
  ·refine exitE<|xB<|tN<|sR<|lA n0 2 0 4 (isAgg38 _) (sizeOf38 _)<|sT n0 3 0 (.agg #[I w0,I h0,I mx, .slice azs nzs kzs]) [I w0,I h0,I mx, .slice azs nzs kzs] #[I w0,I h0,I mx, .slice azs nzs kzs] sizeOf38 fun _ m1=>zE<|retN (vs:=[.agg #[I w0,I h0,I mx, .slice azs nzs kzs]]) rfl (.cons (.cell _ _ _ _ kr (lvA m1 3 0 [I w0,I h0,I mx, .slice azs nzs kzs] (isAgg38 _) (sizeOf38 _) rfl rfl rfl)) .nil) ?_
   have hpok:planeOK ⟨w0,h0,mx,zs⟩=true:=planeOK_t (p:=⟨w0,h0,mx,zs⟩) ⟨by unfold sizeP;dsimp only;omega,by dsimp only;omega⟩ (List.all_eq_true.2 (fun z hz=>decide_eq_true (hB z hz)))
   exact ⟨(⟨w0,h0,mx,⟨azs,nzs,kzs,zs⟩⟩:Plane),czs,rfl,⟨(hOzs.rdAt (cs:=[czs]) 0 rfl)⟩,⟨rfl,rfl,hpok,by dsimp only;omega,fun z hz=>by have:=hB z hz;unfold numB;omega⟩,_,om,((m1.pick 1 rfl).drops [2,2])⟩
  refine kT<|seqE<|blockE ?_
  obtain ⟨g2,h2,i2,n1,j2,o1,k2⟩:=OwnT.elem hOzs (i:Int)
  rw [Int.toNat_natCast] at n1 j2 o1
  refine drawE [8,13,16,17,19] [(1,⟨b7,3,none⟩, .slice azs nzs kzs),(6,⟨b7,2,none⟩,I mx),(11,⟨b7,2,none⟩,I mx),(15,⟨b7,2,none⟩,I mx)] [(true,[0,2,3,4,5,9,10,14]),(true,[1]),(true,[6]),(true,[7]),(true,[11]),(true,[12]),(true,[15]),(false,[8]),(false,[13]),(false,[16]),(false,[17]),(true,[18]),(false,[19])] rfl kr ⟨cI n0 2,cI n0 2,cI n0 2,cI n0 2,trivial⟩ ?_
  have l2:=n0.drew
  refine wU [0,2,3,4,5,9,10,14]<|wLd (.slice azs nzs kzs) 0 isAgg22<|wLd (I mx) 1 isAgg3<|wAdd mx 1<|wLd (I mx) 2 isAgg3<|wAdd mx 1<|wLd (I mx) 3 isAgg3<|wO rfl ?_
  have m2:=(l2.pick 1 rfl)
  refine cX call15 (tape_next (RdT.flat (hR.up 3 (by rfl))) om m2.flat1 (mx+1) om) ?_
  rintro _ _ ⟨f1,rfl,_,_,_,n2⟩
  have q0:=n2.unflat1
  refine nilO ⟨⟨cI q0 2,cI q0 2,cI q0 2,cI q0 2,trivial⟩,?_⟩
  refine wO rfl<|cX call15 (tape_next (RdT.flat (hR.up 3 (by rfl))) om q0.flat1 (mx+1) om) ?_
  rintro _ _ ⟨g1,rfl,_,_,_,o2⟩
  have r0:=o2.unflat1
  refine nilO ⟨⟨cI r0 2,cI r0 2,cI r0 2,cI r0 2,trivial⟩,?_⟩
  refine wO rfl<|sBS r0 #[I f1,I g1,I mx,I 0] runUnderlying22 sizeOf3 zeroValue3 fun _ _ t0=>nilO ⟨⟨cI t0 3,cI t0 3,cI t0 3,dI,trivial⟩,?_⟩
  refine wO rfl ?_
  have p2:=(t0.pick 1 rfl)
  refine cX call42 (tape_pick (RdT.flat (hR.up 4 (by rfl))) om p2.flat1 (RdT.flat (RdT.blk (enc:=Go.E.encI) (sz:=1) (xs:=[f1,g1,mx,0]) (fun _=>(by rfl)) 4 0 rfl rfl rfl om)) om om) ?_
  rintro _ _ ⟨o0,rfl,q2,r2,_,s2⟩
  have u0:=s2.unflat1
  have a8:(o0:Int)=f1\/(o0:Int)=g1\/(o0:Int)=mx\/(o0:Int)=0:=by simpa using q2
  refine nilO ⟨⟨cI u0 3,cI u0 3,cI u0 3,dI,trivial⟩,?_⟩
  refine wY (.pointer (some ⟨h2,i2+i*1,none⟩)) rfl (fun w _=>Y_idx (a:=azs) (i:=(i:Int)) (len:=nzs) (cap:=kzs) rfl runUnderlying22 sizeOf3 kr kr o1)<|wO rfl<|sStF u0 hOzs k2 2 i 0 g2 o0 n1 (I o0) [I o0] sizeOf3 fun _ t2 u2 v2=>nilO ⟨dA,?_⟩
  refine wN<|bN<|tN<|rE<|pu1<|sAdd (i:Int) 1<|pu1<|nT ?_
  exact ⟨(i+1,r2,(zs.set i o0),azs,nzs,kzs,t2),od,alA,((v2.pick 2 rfl).dropAt 2 rfl),om,mem_set hB om,by simp;omega,om,u2⟩
 refine drawP [3,4,8,10,11] [] (Plan.sts [0,1,2,5,6]<|Plan.sts [7]<| .f3 3 8 10 (.f3 4 8 10 (.fk 8 10 (Plan.sts [9]<| .ef 10<| .ef 11<| .fin) (.ef 8<|Plan.sts [9]<| .ef 11<| .fin)) (.fk 4 10 (Plan.sts [9]<| .ef 10<| .ef 11<| .fin) (.ef 4<|Plan.sts [9]<| .ef 11<| .fin)) (.fk 4 8 (.ef 8<|Plan.sts [9]<| .ef 11<| .fin) (.ef 4<|Plan.sts [9]<| .ef 11<| .fin))) (.fk 3 10 (.fk 4 10 (Plan.sts [9]<| .ef 10<| .ef 11<| .fin) (.ef 4<|Plan.sts [9]<| .ef 11<| .fin)) (.ef 3<| .ef 4<|Plan.sts [9]<| .ef 11<| .fin)) (.fk 3 8 (.fk 4 8 (.ef 8<|Plan.sts [9]<| .ef 11<| .fin) (.ef 4<|Plan.sts [9]<| .ef 11<| .fin)) (.ef 3<| .ef 4<|Plan.sts [9]<| .ef 11<| .fin))) rfl kr trivial ?_
 have h1:=b2.drew
 refine qU [0,1,2,5,6]<|qMul w0 h0<|qF3 ?_ ?_ ?_
 ·refine qO rfl<|sBS h1 #[I 255,I 255,I 65535,I 1,I 7] runUnderlying22 sizeOf3 zeroValue3 fun _ _ i1=>nilO ⟨trivial,?_⟩
  refine qF3 ?_ ?_ ?_
  ·refine qO rfl ?_
   have x2:=(i1.pick 2 rfl)
   refine cX call42 (tape_pick (RdT.flat (hR.up 2 (by rfl))) om x2.flat1 (RdT.flat (RdT.blk (enc:=Go.E.encI) (sz:=1) (xs:=[255,255,65535,1,7]) (fun _=>(by rfl)) 5 0 rfl rfl rfl om)) om om) ?_
   rintro _ _ ⟨a0,rfl,y2,q1,_,z2⟩
   have r1:=z2.unflat1
   have g8:(a0:Int)=255\/(a0:Int)=255\/(a0:Int)=65535\/(a0:Int)=1\/(a0:Int)=7:=by simpa using y2
   refine nilO ⟨trivial,?_⟩
   refine qF ?_ ?_
   ·refine qO rfl<|sMake (kl:= .i64) (kc:= .i64) (enc:=Go.E.encI) (sz:=1) (nb:=8) r1 0 ((w0*h0)).toNat (w0*h0) (om:(w0*h0)=((((w0*h0)).toNat:Nat):Int)) underlying22 (i:=Tryz.t3) kr fR fun v0 a3 _ b3 c3=>nilO ⟨trivial,?_⟩
    refine qU [9]<|qO rfl<|sAlloc c3 zeroValue38 fun d3 _ e3=>nilO ⟨trivial,?_⟩
    refine qO rfl<|sT e3 0 0 (.agg #[I w0,I h0,I a0, .slice (At v0 0) (((w0*h0)).toNat) (((w0*h0)).toNat)]) [I w0,I h0,I a0, .slice (At v0 0) (((w0*h0)).toNat) (((w0*h0)).toNat)] #[I w0,I h0,I a0, .slice (At v0 0) (((w0*h0)).toNat) (((w0*h0)).toNat)] sizeOf38 fun _ g3=>nilO ⟨trivial,?_⟩
    exact qN<|tN<|⟨(d3,a0,(At v0 0),a3,q1),alA,((g3.pick 2 rfl).dropAt 3 rfl),om,om,b3⟩
   refine qO rfl<|sAlloc r1 zeroValue38 fun i3 _ j3=>nilO ⟨trivial,?_⟩
   refine qO rfl<|sMake (kl:= .i64) (kc:= .i64) (enc:=Go.E.encI) (sz:=1) (nb:=8) j3 0 ((w0*h0)).toNat (w0*h0) (om:(w0*h0)=((((w0*h0)).toNat:Nat):Int)) underlying22 (i:=Tryz.t3) kr fR fun x0 k3 _ l3 m3=>nilO ⟨trivial,?_⟩
   refine qU [9]<|qO rfl<|sT m3 1 0 (.agg #[I w0,I h0,I a0, .slice (At x0 0) (((w0*h0)).toNat) (((w0*h0)).toNat)]) [I w0,I h0,I a0, .slice (At x0 0) (((w0*h0)).toNat) (((w0*h0)).toNat)] #[I w0,I h0,I a0, .slice (At x0 0) (((w0*h0)).toNat) (((w0*h0)).toNat)] sizeOf38 fun _ n3=>nilO ⟨trivial,?_⟩
   exact qN<|tN<|⟨(i3,a0,(At x0 0),k3,q1),alA,((n3.picks [1,2]).dropAt 3 rfl),om,om,l3⟩
  ·refine qO rfl<|sMake (kl:= .i64) (kc:= .i64) (enc:=Go.E.encI) (sz:=1) (nb:=8) i1 0 ((w0*h0)).toNat (w0*h0) (om:(w0*h0)=((((w0*h0)).toNat:Nat):Int)) underlying22 (i:=Tryz.t3) kr fR fun p0 s1 _ t1 u1=>nilO ⟨trivial,?_⟩
   refine qF ?_ ?_
   rotate_left
   ·refine qO rfl<|sAlloc u1 zeroValue38 fun p3 _ q3=>nilO ⟨trivial,?_⟩
    refine qO rfl ?_
    have r3:=(q3.pick 4 rfl)
    refine cX call42 (tape_pick (RdT.flat (hR.up 4 (by rfl))) om r3.flat1 (RdT.flat (RdT.blk (enc:=Go.E.encI) (sz:=1) (xs:=[255,255,65535,1,7]) (fun _=>(by rfl)) 5 2 rfl rfl rfl om)) om om) ?_
    rintro _ _ ⟨c0,rfl,s3,u3,_,v3⟩
    have w3:=v3.unflat1
    have r8:(c0:Int)=255\/(c0:Int)=255\/(c0:Int)=65535\/(c0:Int)=1\/(c0:Int)=7:=by simpa using s3
    refine nilO ⟨trivial,?_⟩
    refine qU [9]<|qO rfl<|sT w3 1 0 (.agg #[I w0,I h0,I c0, .slice (At p0 0) (((w0*h0)).toNat) (((w0*h0)).toNat)]) [I w0,I h0,I c0, .slice (At p0 0) (((w0*h0)).toNat) (((w0*h0)).toNat)] #[I w0,I h0,I c0, .slice (At p0 0) (((w0*h0)).toNat) (((w0*h0)).toNat)] sizeOf38 fun _ x3=>nilO ⟨trivial,?_⟩
    exact qN<|tN<|⟨(p3,c0,(At p0 0),s1,u3),alA,(x3.dropAt 3 rfl),om,om,t1⟩
   refine qO rfl ?_
   have z3:=(u1.pick 3 rfl)
   refine cX call42 (tape_pick (RdT.flat (hR.up 3 (by rfl))) om z3.flat1 (RdT.flat (RdT.blk (enc:=Go.E.encI) (sz:=1) (xs:=[255,255,65535,1,7]) (fun _=>(by rfl)) 5 1 rfl rfl rfl om)) om om) ?_
   rintro _ _ ⟨d0,rfl,a4,b4,_,c4⟩
   have d4:=c4.unflat1
   have v8:(d0:Int)=255\/(d0:Int)=255\/(d0:Int)=65535\/(d0:Int)=1\/(d0:Int)=7:=by simpa using a4
   refine nilO ⟨trivial,?_⟩
   refine qU [9]<|qO rfl<|sAlloc d4 zeroValue38 fun e4 _ f4=>nilO ⟨trivial,?_⟩
   refine qO rfl<|sT f4 0 0 (.agg #[I w0,I h0,I d0, .slice (At p0 0) (((w0*h0)).toNat) (((w0*h0)).toNat)]) [I w0,I h0,I d0, .slice (At p0 0) (((w0*h0)).toNat) (((w0*h0)).toNat)] #[I w0,I h0,I d0, .slice (At p0 0) (((w0*h0)).toNat) (((w0*h0)).toNat)] sizeOf38 fun _ g4=>nilO ⟨trivial,?_⟩
   exact qN<|tN<|⟨(e4,d0,(At p0 0),s1,b4),alA,((g4.pick 1 rfl).dropAt 3 rfl),om,om,t1⟩
  refine qO rfl<|sAlloc i1 zeroValue38 fun v1 _ w1=>nilO ⟨trivial,?_⟩
  refine qF ?_ ?_
  ·refine qO rfl ?_
   have i4:=(w1.pick 3 rfl)
   refine cX call42 (tape_pick (RdT.flat (hR.up 3 (by rfl))) om i4.flat1 (RdT.flat (RdT.blk (enc:=Go.E.encI) (sz:=1) (xs:=[255,255,65535,1,7]) (fun _=>(by rfl)) 5 1 rfl rfl rfl om)) om om) ?_
   rintro _ _ ⟨e0,rfl,j4,k4,_,l4⟩
   have m4:=l4.unflat1
   have b9:(e0:Int)=255\/(e0:Int)=255\/(e0:Int)=65535\/(e0:Int)=1\/(e0:Int)=7:=by simpa using j4
   refine nilO ⟨trivial,?_⟩
   refine qO rfl<|sMake (kl:= .i64) (kc:= .i64) (enc:=Go.E.encI) (sz:=1) (nb:=8) m4 0 ((w0*h0)).toNat (w0*h0) (om:(w0*h0)=((((w0*h0)).toNat:Nat):Int)) underlying22 (i:=Tryz.t3) kr fR fun y0 n4 _ o4 p4=>nilO ⟨trivial,?_⟩
   refine qU [9]<|qO rfl<|sT p4 2 0 (.agg #[I w0,I h0,I e0, .slice (At y0 0) (((w0*h0)).toNat) (((w0*h0)).toNat)]) [I w0,I h0,I e0, .slice (At y0 0) (((w0*h0)).toNat) (((w0*h0)).toNat)] #[I w0,I h0,I e0, .slice (At y0 0) (((w0*h0)).toNat) (((w0*h0)).toNat)] sizeOf38 fun _ q4=>nilO ⟨trivial,?_⟩
   exact qN<|tN<|⟨(v1,e0,(At y0 0),n4,k4),alA,((q4.picks [2,2]).dropAt 3 rfl),om,om,o4⟩
  refine qO rfl<|sMake (kl:= .i64) (kc:= .i64) (enc:=Go.E.encI) (sz:=1) (nb:=8) w1 0 ((w0*h0)).toNat (w0*h0) (om:(w0*h0)=((((w0*h0)).toNat:Nat):Int)) underlying22 (i:=Tryz.t3) kr fR fun z0 s4 _ t4 u4=>nilO ⟨trivial,?_⟩
  refine qO rfl ?_
  have v4:=(u4.pick 4 rfl)
  refine cX call42 (tape_pick (RdT.flat (hR.up 4 (by rfl))) om v4.flat1 (RdT.flat (RdT.blk (enc:=Go.E.encI) (sz:=1) (xs:=[255,255,65535,1,7]) (fun _=>(by rfl)) 5 2 rfl rfl rfl om)) om om) ?_
  rintro _ _ ⟨f0,rfl,w4,x4,_,y4⟩
  have z4:=y4.unflat1
  have h9:(f0:Int)=255\/(f0:Int)=255\/(f0:Int)=65535\/(f0:Int)=1\/(f0:Int)=7:=by simpa using w4
  refine nilO ⟨trivial,?_⟩
  refine qU [9]<|qO rfl<|sT z4 2 0 (.agg #[I w0,I h0,I f0, .slice (At z0 0) (((w0*h0)).toNat) (((w0*h0)).toNat)]) [I w0,I h0,I f0, .slice (At z0 0) (((w0*h0)).toNat) (((w0*h0)).toNat)] #[I w0,I h0,I f0, .slice (At z0 0) (((w0*h0)).toNat) (((w0*h0)).toNat)] sizeOf38 fun _ a5=>nilO ⟨trivial,?_⟩
  exact qN<|tN<|⟨(v1,f0,(At z0 0),s4,x4),alA,((a5.picks [2,1]).dropAt 3 rfl),om,om,t4⟩
 ·refine qO rfl<|sMake (kl:= .i64) (kc:= .i64) (enc:=Go.E.encI) (sz:=1) (nb:=8) h1 0 ((w0*h0)).toNat (w0*h0) (om:(w0*h0)=((((w0*h0)).toNat:Nat):Int)) underlying22 (i:=Tryz.t3) kr fR fun b0 j1 _ k1 x1=>nilO ⟨trivial,?_⟩
  refine qF ?_ ?_
  rotate_left
  ·refine qO rfl<|sAlloc x1 zeroValue38 fun c5 _ d5=>nilO ⟨trivial,?_⟩
   refine qO rfl<|sBS d5 #[I 255,I 255,I 65535,I 1,I 7] runUnderlying22 sizeOf3 zeroValue3 fun _ _ e5=>nilO ⟨trivial,?_⟩
   refine qO rfl ?_
   have f5:=(e5.pick 4 rfl)
   refine cX call42 (tape_pick (RdT.flat (hR.up 4 (by rfl))) om f5.flat1 (RdT.flat (RdT.blk (enc:=Go.E.encI) (sz:=1) (xs:=[255,255,65535,1,7]) (fun _=>(by rfl)) 5 0 rfl rfl rfl om)) om om) ?_
   rintro _ _ ⟨g0,rfl,g5,h5,_,i5⟩
   have j5:=i5.unflat1
   have p9:(g0:Int)=255\/(g0:Int)=255\/(g0:Int)=65535\/(g0:Int)=1\/(g0:Int)=7:=by simpa using g5
   refine nilO ⟨trivial,?_⟩
   refine qU [9]<|qO rfl<|sT j5 2 0 (.agg #[I w0,I h0,I g0, .slice (At b0 0) (((w0*h0)).toNat) (((w0*h0)).toNat)]) [I w0,I h0,I g0, .slice (At b0 0) (((w0*h0)).toNat) (((w0*h0)).toNat)] #[I w0,I h0,I g0, .slice (At b0 0) (((w0*h0)).toNat) (((w0*h0)).toNat)] sizeOf38 fun _ k5=>nilO ⟨trivial,?_⟩
   exact qN<|tN<|⟨(c5,g0,(At b0 0),j1,h5),alA,(k5.dropAt 1 rfl),om,om,k1⟩
  refine qO rfl<|sBS x1 #[I 255,I 255,I 65535,I 1,I 7] runUnderlying22 sizeOf3 zeroValue3 fun _ _ y1=>nilO ⟨trivial,?_⟩
  refine qF ?_ ?_
  rotate_left
  ·refine qO rfl<|sAlloc y1 zeroValue38 fun m5 _ n5=>nilO ⟨trivial,?_⟩
   refine qO rfl ?_
   have o5:=(n5.pick 4 rfl)
   refine cX call42 (tape_pick (RdT.flat (hR.up 4 (by rfl))) om o5.flat1 (RdT.flat (RdT.blk (enc:=Go.E.encI) (sz:=1) (xs:=[255,255,65535,1,7]) (fun _=>(by rfl)) 5 1 rfl rfl rfl om)) om om) ?_
   rintro _ _ ⟨i0,rfl,p5,q5,_,r5⟩
   have s5:=r5.unflat1
   have w9:(i0:Int)=255\/(i0:Int)=255\/(i0:Int)=65535\/(i0:Int)=1\/(i0:Int)=7:=by simpa using p5
   refine nilO ⟨trivial,?_⟩
   refine qU [9]<|qO rfl<|sT s5 1 0 (.agg #[I w0,I h0,I i0, .slice (At b0 0) (((w0*h0)).toNat) (((w0*h0)).toNat)]) [I w0,I h0,I i0, .slice (At b0 0) (((w0*h0)).toNat) (((w0*h0)).toNat)] #[I w0,I h0,I i0, .slice (At b0 0) (((w0*h0)).toNat) (((w0*h0)).toNat)] sizeOf38 fun _ t5=>nilO ⟨trivial,?_⟩
   exact qN<|tN<|⟨(m5,i0,(At b0 0),j1,q5),alA,(t5.dropAt 2 rfl),om,om,k1⟩
  refine qO rfl ?_
  have v5:=(y1.pick 3 rfl)
  refine cX call42 (tape_pick (RdT.flat (hR.up 3 (by rfl))) om v5.flat1 (RdT.flat (RdT.blk (enc:=Go.E.encI) (sz:=1) (xs:=[255,255,65535,1,7]) (fun _=>(by rfl)) 5 0 rfl rfl rfl om)) om om) ?_
  rintro _ _ ⟨j0,rfl,w5,x5,_,y5⟩
  have z5:=y5.unflat1
  have aa:(j0:Int)=255\/(j0:Int)=255\/(j0:Int)=65535\/(j0:Int)=1\/(j0:Int)=7:=by simpa using w5
  refine nilO ⟨trivial,?_⟩
  refine qU [9]<|qO rfl<|sAlloc z5 zeroValue38 fun a6 _ b6=>nilO ⟨trivial,?_⟩
  refine qO rfl<|sT b6 0 0 (.agg #[I w0,I h0,I j0, .slice (At b0 0) (((w0*h0)).toNat) (((w0*h0)).toNat)]) [I w0,I h0,I j0, .slice (At b0 0) (((w0*h0)).toNat) (((w0*h0)).toNat)] #[I w0,I h0,I j0, .slice (At b0 0) (((w0*h0)).toNat) (((w0*h0)).toNat)] sizeOf38 fun _ c6=>nilO ⟨trivial,?_⟩
  exact qN<|tN<|⟨(a6,j0,(At b0 0),j1,x5),alA,((c6.pick 1 rfl).dropAt 2 rfl),om,om,k1⟩
 refine qO rfl<|sAlloc h1 zeroValue38 fun l1 _ z1=>nilO ⟨trivial,?_⟩
 refine qF ?_ ?_
 rotate_left
 ·refine qO rfl<|sMake (kl:= .i64) (kc:= .i64) (enc:=Go.E.encI) (sz:=1) (nb:=8) z1 0 ((w0*h0)).toNat (w0*h0) (om:(w0*h0)=((((w0*h0)).toNat:Nat):Int)) underlying22 (i:=Tryz.t3) kr fR fun b1 e6 _ f6 g6=>nilO ⟨trivial,?_⟩
  refine qO rfl<|sBS g6 #[I 255,I 255,I 65535,I 1,I 7] runUnderlying22 sizeOf3 zeroValue3 fun _ _ h6=>nilO ⟨trivial,?_⟩
  refine qO rfl ?_
  have i6:=(h6.pick 4 rfl)
  refine cX call42 (tape_pick (RdT.flat (hR.up 4 (by rfl))) om i6.flat1 (RdT.flat (RdT.blk (enc:=Go.E.encI) (sz:=1) (xs:=[255,255,65535,1,7]) (fun _=>(by rfl)) 5 0 rfl rfl rfl om)) om om) ?_
  rintro _ _ ⟨k0,rfl,j6,k6,_,l6⟩
  have m6:=l6.unflat1
  have ja:(k0:Int)=255\/(k0:Int)=255\/(k0:Int)=65535\/(k0:Int)=1\/(k0:Int)=7:=by simpa using j6
  refine nilO ⟨trivial,?_⟩
  refine qU [9]<|qO rfl<|sT m6 3 0 (.agg #[I w0,I h0,I k0, .slice (At b1 0) (((w0*h0)).toNat) (((w0*h0)).toNat)]) [I w0,I h0,I k0, .slice (At b1 0) (((w0*h0)).toNat) (((w0*h0)).toNat)] #[I w0,I h0,I k0, .slice (At b1 0) (((w0*h0)).toNat) (((w0*h0)).toNat)] sizeOf38 fun _ n6=>nilO ⟨trivial,?_⟩
  exact qN<|tN<|⟨(l1,k0,(At b1 0),e6,k6),alA,((n6.picks [3,1]).dropAt 2 rfl),om,om,f6⟩
 refine qO rfl<|sBS z1 #[I 255,I 255,I 65535,I 1,I 7] runUnderlying22 sizeOf3 zeroValue3 fun _ _ a2=>nilO ⟨trivial,?_⟩
 refine qF ?_ ?_
 rotate_left
 ·refine qO rfl<|sMake (kl:= .i64) (kc:= .i64) (enc:=Go.E.encI) (sz:=1) (nb:=8) a2 0 ((w0*h0)).toNat (w0*h0) (om:(w0*h0)=((((w0*h0)).toNat:Nat):Int)) underlying22 (i:=Tryz.t3) kr fR fun d1 p6 _ q6 r6=>nilO ⟨trivial,?_⟩
  refine qO rfl ?_
  have s6:=(r6.pick 4 rfl)
  refine cX call42 (tape_pick (RdT.flat (hR.up 4 (by rfl))) om s6.flat1 (RdT.flat (RdT.blk (enc:=Go.E.encI) (sz:=1) (xs:=[255,255,65535,1,7]) (fun _=>(by rfl)) 5 1 rfl rfl rfl om)) om om) ?_
  rintro _ _ ⟨l0,rfl,t6,u6,_,v6⟩
  have w6:=v6.unflat1
  have qa:(l0:Int)=255\/(l0:Int)=255\/(l0:Int)=65535\/(l0:Int)=1\/(l0:Int)=7:=by simpa using t6
  refine nilO ⟨trivial,?_⟩
  refine qU [9]<|qO rfl<|sT w6 3 0 (.agg #[I w0,I h0,I l0, .slice (At d1 0) (((w0*h0)).toNat) (((w0*h0)).toNat)]) [I w0,I h0,I l0, .slice (At d1 0) (((w0*h0)).toNat) (((w0*h0)).toNat)] #[I w0,I h0,I l0, .slice (At d1 0) (((w0*h0)).toNat) (((w0*h0)).toNat)] sizeOf38 fun _ x6=>nilO ⟨trivial,?_⟩
  exact qN<|tN<|⟨(l1,l0,(At d1 0),p6,u6),alA,((x6.picks [3,1]).dropAt 3 rfl),om,om,q6⟩
 refine qO rfl ?_
 have z6:=(a2.pick 3 rfl)
 refine cX call42 (tape_pick (RdT.flat (hR.up 3 (by rfl))) om z6.flat1 (RdT.flat (RdT.blk (enc:=Go.E.encI) (sz:=1) (xs:=[255,255,65535,1,7]) (fun _=>(by rfl)) 5 0 rfl rfl rfl om)) om om) ?_
 rintro _ _ ⟨m0,rfl,a7,c7,_,d7⟩
 have e7:=d7.unflat1
 have ua:(m0:Int)=255\/(m0:Int)=255\/(m0:Int)=65535\/(m0:Int)=1\/(m0:Int)=7:=by simpa using a7
 refine nilO ⟨trivial,?_⟩
 refine qO rfl<|sMake (kl:= .i64) (kc:= .i64) (enc:=Go.E.encI) (sz:=1) (nb:=8) e7 0 ((w0*h0)).toNat (w0*h0) (om:(w0*h0)=((((w0*h0)).toNat:Nat):Int)) underlying22 (i:=Tryz.t3) kr fR fun e1 f7 _ g7 h7=>nilO ⟨trivial,?_⟩
 refine qU [9]<|qO rfl<|sT h7 3 0 (.agg #[I w0,I h0,I m0, .slice (At e1 0) (((w0*h0)).toNat) (((w0*h0)).toNat)]) [I w0,I h0,I m0, .slice (At e1 0) (((w0*h0)).toNat) (((w0*h0)).toNat)] #[I w0,I h0,I m0, .slice (At e1 0) (((w0*h0)).toNat) (((w0*h0)).toNat)] sizeOf38 fun _ i7=>nilO ⟨trivial,?_⟩
 exact qN<|tN<|⟨(l1,m0,(At e1 0),f7,c7),alA,((i7.picks [3,2]).dropAt 3 rfl),om,om,g7⟩
theorem tg_plane {p:Nat} {a:Option Addr} {n k:Nat} {i:Int} {xs:List Int} (hR:RdT Go.E.encI 1 [H] a n k xs) (hi:0<=i/\i<=n) (hS:Sat W w ([(p, .cells #[.slice a n k,I i] 81 (0,0))]::H::F)):
  Calls prog 22 #[Pt p 0] w fun e w'=>∃(q:Plane) (G:Chunk),e= .returned (.agg (encPlane q).toArray)/\(Plane.Ok [G] q)/\((1<=q.w/\q.w<=6)/\(1<=q.h/\q.h<=5)/\planeOK q.v=true/\planeB q)/\∃i':Int,(0<=i'/\i'<=n)/\Sat W w' ([(p, .cells #[.slice a n k,I i'] 81 (0,0))]::G::H::F):=by
 have hle:=hR.le
 refine callsA 11 func22 rfl<|sR<|sAlloc hS zeroValue38 fun _ _ f0=>zS<|pu2 ?_
 have g0:=(f0.pick 1 rfl)
 refine cX call15 (tape_next (RdT.flat (hR.up 1 (by rfl))) om g0.flat1 6 om) ?_
 rintro _ _ ⟨c0,rfl,_,_,_,h0⟩
 have i0:=h0.unflat1
 refine sAdd 1 c0<|pu1<|cX call15 (tape_next (RdT.flat (hR.up 1 (by rfl))) om i0.flat1 5 om) ?_
 rintro _ _ ⟨d0,rfl,_,_,_,j0⟩
 have k0:=j0.unflat1
 refine sAdd 1 d0<|cX call23 (tg_sized (RdT.flat (hR.up 1 (by rfl))) om k0.flat1 (1+c0) (1+d0) om) ?_
 rintro _ _ ⟨a0,l0,rfl,m0,b0,_,_,n0⟩
 refine sT (Sat.unflat2 n0) 2 0 (.agg (encPlane a0).toArray) (encPlane a0) (encPlane a0).toArray sizeOf38 fun _ e0=>zE<|retN (vs:=[.agg (encPlane a0).toArray]) rfl (.cons (.cell _ _ _ _ kr (lvA e0 2 0 (encPlane a0) (isAgg38 _) (sizeOf38 _) rfl rfl rfl)) .nil) ?_
 exact ⟨a0,l0,rfl,m0,⟨by have h:=b0.1;omega,by have h:=b0.2.1;omega,b0.2.2⟩,_,om,(e0.dropAt 2 rfl)⟩
theorem tg_table {p:Nat} {a:Option Addr} {n k:Nat} {i:Int} {xs:List Int} (hR:RdT Go.E.encI 1 [H] a n k xs) (hi:0<=i/\i<=n) (hS:Sat W w ([(p, .cells #[.slice a n k,I i] 81 (0,0))]::H::F)) (n0:Int) (hn0:1<=n0/\n0<=128):
  Calls prog 72 #[Pt p 0,I n0] w fun e w'=>∃(az:Option Addr) (nz:Nat) (kz:Nat) (zs:List Tap) (G:Chunk),e= .returned (.slice az nz kz)/\(RdT encTap 2 [G] az nz kz zs)/\(∀z∈zs,Tap.Ok [G] z)/\(zs.length<=6/\∀z∈zs,tapB z)/\∃i':Int,(0<=i'/\i'<=n)/\Sat W w' ([(p, .cells #[.slice a n k,I i'] 81 (0,0))]::G::H::F):=by
 have hle:=hR.le
 refine callsA 57 func72 rfl<|sR<|pu1<|zS<|pu1<|cX call15 (tape_next (RdT.flat (hR.up 0 (by rfl))) om hS.flat1 6 om) ?_
 rintro _ _ ⟨a0,rfl,_,_,_,h1⟩
 have i1:=h1.unflat1
 refine sAdd 1 a0<|pu1<|zS<|pu2<|sF #[I n0,I (1+a0),I 8] call116 (Calls.mono (r8_linear W _ _ [] n0 (1+a0) 8 i1.flat) ?_)
 rintro _ _ ⟨q0,b0,r0,s0,_,e0,f0,rfl,g0,t0,h0,u0⟩
 refine ⟨_,rfl,?_⟩
 have j1:=u0.unflat2;clear u0
 have hn_zs_14:=g0.len;have hl_zs_14:=g0.le
 refine pu5<|zQ<|pu1 ?_
 have k1:=(j1.pick 2 rfl)
 refine cX call15 (tape_next (RdT.flat (hR.up 2 (by rfl))) om k1.flat1 2 om) ?_
 rintro _ _ ⟨l1,rfl,_,c0,_,m1⟩
 have v0:=m1.unflat1
 refine pu1<|nT<|cE l1 0 (fun n1=>?_) (fun n1=>?_)
 ·refine seqE<|sR<|pu2<|sF #[I n0,I (1+a0),I 8] call117 (Calls.mono (r8_box W _ _ [] n0 (1+a0) 8 v0.flat) ?_)
  rintro _ _ ⟨o1,q1,r1,s1,t1,l0,m0,rfl,o0,u1,w0,x0⟩
  refine ⟨_,rfl,?_⟩
  have y0:=x0.unflat2;clear x0
  have hn_zs_36:=o0.len;have hl_zs_36:=o0.le
  refine pu5<|zS<|pu2<|nT<|cE t1 0 (fun v1=>?_) (fun v1=>?_)
  rotate_left
  ·refine kS<|pu2<|zR<|retT [.slice q0 b0 r0] ?_
   have w1:=(y0.drops [0,0])
   have x1:Sat W _ ([(p, .cells #[.slice a n k,I c0] 81 (0,0))]::(f0++e0)::H::F):=Sat.perm (show Sat W _ ([(p, .cells #[.slice a n k,I c0] 81 (0,0))]::f0::e0::H::F) from w1) (by simp [Value.cells])
   exact ⟨_,_,_,s0,(f0++e0),rfl,(g0.rd (fun p hp=>by simp [hp])),(fun z hz=>(t0 z hz).of_mem mS),⟨by have h:=h0.1;omega,h0.2⟩,_,om,x1⟩
  refine sR<|pu2<|zR<|tK<|retT [.slice o1 q1 r1] ?_
  have y1:=((y0.pick 2 rfl).drops [3,3])
  have z1:Sat W _ ([(p, .cells #[.slice a n k,I c0] 81 (0,0))]::(m0++l0)::H::F):=Sat.perm (show Sat W _ ([(p, .cells #[.slice a n k,I c0] 81 (0,0))]::m0::l0::H::F) from y1) (by simp [Value.cells])
  exact ⟨_,_,_,s1,(m0++l0),rfl,(o0.rd (fun p hp=>by simp [hp])),(fun z hz=>(u1 z hz).of_mem mS),⟨by have h:=w0.1;omega,w0.2⟩,_,om,z1⟩
 refine kT<|seqE<|sR<|pu1<|nT<|blockE ?_
 have a2:=(v0.pick 2 rfl)
 have b2:=(a2.pick 2 rfl)
 refine loopA (γ:=Nat×Int×(List Tap)×(Option Addr)×Nat×Nat×Chunk×Chunk) (fun ⟨i,iti,zs,azs,nzs,kzs,czs,Gzs⟩=>[(0,Pt p 0),(1,I n0),(10,I (i:Int)),(6, .slice azs nzs kzs)]) (fun ⟨i,iti,zs,azs,nzs,kzs,czs,Gzs⟩ w=>Sat W w (Gzs::czs::[(p, .cells #[.slice a n k,I iti] 81 (0,0))]::H::F)/\i<=b0/\(∀z∈zs,tapB z)/\(zs.length=b0)/\(zs.length<=6)/\(0<=iti/\iti<=n)/\OwnT encTap 122 2 azs nzs kzs zs czs/\(∀z∈zs,Tap.Ok [Gzs] z)) (fun ⟨i,iti,zs,azs,nzs,kzs,czs,Gzs⟩=>b0-i) (0,c0,s0,q0,b0,r0,e0,f0) ⟨b2,om,h0.2,om,by have h:=h0.1;omega,om,g0,t0⟩ ?_
 rintro ⟨i,iti,zs,azs,nzs,kzs,czs,Gzs⟩ ρ _ ⟨z0,hi,hB,hzl,hz6,hiti,hOzs,hDzs⟩
 have hn_zs:=hOzs.len;have hl_zs:=hOzs.le
 refine seqE<|sR<|pu4<|nT<|cD ((i:Int)<(nzs:Int)) (fun c2=>?_) (fun c2=>?_)
 rotate_left
 ·refine exitE<|xB<|tN<|sR<|pu2<|zE<|retT [.slice azs nzs kzs] ?_
  have d2:=(z0.pick 2 rfl)
  have e2:Sat W _ ([(p, .cells #[.slice a n k,I iti] 81 (0,0))]::(Gzs++czs)::H::F):=Sat.perm (show Sat W _ ([(p, .cells #[.slice a n k,I iti] 81 (0,0))]::Gzs::czs::H::F) from d2) (by simp [Value.cells])
  exact ⟨_,_,_,zs,(Gzs++czs),rfl,(hOzs.rd (fun p hp=>by simp [hp])),(fun z hz=>(hDzs z hz).of_mem mS),⟨om,hB⟩,_,om,e2⟩
 refine kT<|seqE<|blockE<|sR<|pu1 ?_
 have f2:=(z0.pick 2 rfl)
 refine cX call15 (tape_next (RdT.flat (hR.up 2 (by rfl))) om f2.flat1 4 om) ?_
 rintro _ _ ⟨g2,rfl,_,h2,_,i2⟩
 have a1:=i2.unflat1
 refine pu1<|nT<|cE g2 0 (fun j2=>?_) (fun j2=>?_)
 rotate_left
 ·refine skipE<|bN<|tN<|rE<|pu1<|sAdd (i:Int) 1<|pu1<|nT ?_
  exact ⟨(i+1,h2,zs,azs,nzs,kzs,czs,Gzs),od,alA,(a1.picks [2,2]),om,hB,by first|omega|(simp;omega),by first|omega|(simp;omega),om,hOzs,hDzs⟩
 refine rE<|pu4<|sAdd n0 6<|cX call15 (tape_next (RdT.flat (hR.up 2 (by rfl))) om a1.flat1 (n0+6) om) ?_
 rintro _ _ ⟨d0,rfl,_,_,_,l2⟩
 have m2:=l2.unflat1
 refine sSub d0 4<|pu2<|cX call15 (tape_next (RdT.flat (hR.up 2 (by rfl))) om m2.flat1 4 om) ?_
 rintro _ _ ⟨b1,rfl,_,_,_,n2⟩
 have o2:=n2.unflat1
 refine sAdd 1 b1<|cX call71 (tg_weights (RdT.flat (hR.up 2 (by rfl))) om o2.flat1 (1+b1) om) ?_
 rintro _ _ ⟨i0,j0,k0,c1,d1,rfl,p0,e1,f1,_,p2⟩
 have q2:=p2.unflat2
 have hn_zs_81:=p0.len;have hl_zs_81:=p0.le
 refine pu1<|sIdxO hOzs (i:Int) i runUnderlying50 sizeOf122 fun r2 _ _ s2 _ t2=>sStF q2 hOzs t2 3 i 0 r2 (⟨(d0-4),⟨i0,j0,k0,c1⟩⟩:Tap) s2 (.agg #[I (d0-4), .slice i0 j0 k0]) [I (d0-4), .slice i0 j0 k0] sizeOf122 fun _ g1 u2 v2=>nB<|rE<|pu1<|sAdd (i:Int) 1<|pu1<|nT ?_
 have w2:=(v2.picks [3,3,3])
 exact ⟨(i+1,f1,(zs.set i (⟨(d0-4),⟨i0,j0,k0,c1⟩⟩:Tap)),azs,nzs,kzs,g1,(d1++Gzs)),od,alA,(Sat.perm (cs':=(d1++Gzs)::(g1::[(p, .cells #[.slice a n k,I f1] 81 (0,0))]::H::F)) w2 (by simp)),om,mem_set hB ⟨by unfold numB;dsimp only;omega,by have h:=e1.1;dsimp only;omega,e1.2⟩,by first|omega|(simp;omega),by first|omega|(simp;omega),om,u2,(mem_set (fun z hz=>(hDzs z hz).of_mem mS) ⟨p0.of_mem mS⟩)⟩
def opB (o:POp):Prop:=numB o.code/\numB o.arg
theorem tg_ops {p:Nat} {a:Option Addr} {n k:Nat} {i:Int} {xs:List Int} (hR:RdT Go.E.encI 1 [H] a n k xs) (hi:0<=i/\i<=n) (hS:Sat W w ([(p, .cells #[.slice a n k,I i] 81 (0,0))]::H::F)) (two:Bool):
  Calls prog 73 #[Pt p 0, .bool two] w fun e w'=>∃(az:Option Addr) (nz:Nat) (kz:Nat) (zs:List POp) (G:Chunk),e= .returned (.slice az nz kz)/\(RdT encPOp 2 [G] az nz kz zs)/\(zs.length<=9/\∀z∈zs,opB z)/\∃i':Int,(0<=i'/\i'<=n)/\Sat W w' ([(p, .cells #[.slice a n k,I i'] 81 (0,0))]::G::H::F):=by
 have hle:=hR.le
 refine callsA 55 func73 rfl<|sR<|pu1<|zS<|pu1<|sBS hS #[I 0,I 0] runUnderlying51 sizeOf75 zeroValue75 fun d0 _ h0=>pu1<|nT<|cutA (γ:=(Option Addr)×Nat×Nat×(List POp)×Chunk×Int) (fun ⟨a1,n1,k1,z1,c1,itc⟩=>[(0,Pt p 0),(5, .slice a1 n1 k1)]) (fun ⟨a1,n1,k1,z1,c1,itc⟩ w=>Sat W w ([(p, .cells #[.slice a n k,I itc] 81 (0,0))]::c1::H::F)/\(0<=itc/\itc<=n)/\OwnT encPOp 75 2 a1 n1 k1 z1 c1/\(z1.length<=3/\∀z∈z1,opB z)) ?_ ?_
 ·refine sR<|pu1<|nT<|cB two (fun k0=>?_) (fun k0=>?_)
  rotate_left
  ·refine kT ?_
   have l0:=OwnT.blk (enc:=encPOp) (sz:=2) (b:=d0) (c:=#[I 0,I 0]) (E:=75) (xs:=[(⟨0,0⟩:POp)]) fR 1 rfl rfl rfl om
   exact ⟨((At d0 0),1,1,[(⟨0,0⟩:POp)],[(d0, .cells #[I 0,I 0] 75 (0,0))],i),alA,(h0.pick 1 rfl),om,l0,⟨by simp,(by intro z hz;simp at hz;subst hz;(unfold opB numB;dsimp only;omega))⟩⟩
  refine rE<|pu3<|sBS h0 #[I 3,I 4,I 5,I 6,I 7,I 8,I 9] runUnderlying22 sizeOf3 zeroValue3 fun _ _ n0=>?_
  have o0:=(n0.pick 2 rfl)
  refine cX call42 (tape_pick (RdT.flat (hR.up 2 (by rfl))) om o0.flat1 (RdT.flat (RdT.blk (enc:=Go.E.encI) (sz:=1) (xs:=[3,4,5,6,7,8,9]) (fun _=>(by rfl)) 7 0 rfl rfl rfl om)) om om) ?_
  rintro _ _ ⟨a0,rfl,p0,q0,_,r0⟩
  have s0:=r0.unflat1
  have k3:(a0:Int)=3\/(a0:Int)=4\/(a0:Int)=5\/(a0:Int)=6\/(a0:Int)=7\/(a0:Int)=8\/(a0:Int)=9:=by simpa using p0
  exact pu1<|sBS s0 #[I 1,I 0,I a0,I 0] runUnderlying51 sizeOf75 zeroValue75 fun _ _ t0=>sApp (nb:=16) t0 (OwnT.blk (enc:=encPOp) (sz:=2) (b:=d0) (c:=#[I 0,I 0]) (E:=75) (xs:=[(⟨0,0⟩:POp)]) fR 1 rfl rfl rfl om) 3 (RdT.blk (enc:=encPOp) (sz:=2) (xs:=[(⟨1,0⟩:POp),(⟨a0,0⟩:POp)]) fR 2 0 rfl rfl rfl om) underlying51 (i:=Tryz.t75) kr fR fun v0 w0 x0 _ y0 z0=>pu1<|nT<|⟨(v0,(1+2),w0,([(⟨0,0⟩:POp)]++[(⟨1,0⟩:POp),(⟨a0,0⟩:POp)]),x0,q0),alA,(z0.drops [0,1]),om,y0,⟨by simp,(by intro z hz;simp at hz;rcases hz with rfl|rfl|rfl<;>(unfold opB numB;dsimp only;omega))⟩⟩
 rintro ⟨a1,n1,k1,z1,c1,itc⟩ ρ _ ⟨d1,hitc,hO1,hz1⟩
 refine seqE<|sR<|pu1<|cX call15 (tape_next (RdT.flat (hR.up 1 (by rfl))) om d1.flat1 4 om) ?_
 rintro _ _ ⟨e1,rfl,_,f1,_,g1⟩
 have h1:=g1.unflat1
 refine pu1<|nT<|blockE ?_
 have i1:=(h1.pick 1 rfl)
 refine loopA (γ:=Nat×Int×Int×(List POp)×(Option Addr)×Nat×Nat×Chunk) (fun ⟨u,j,itu,zs,azs,nzs,kzs,czs⟩=>[(0,Pt p 0),(6,I j),(5, .slice azs nzs kzs)]) (fun ⟨u,j,itu,zs,azs,nzs,kzs,czs⟩ w=>Sat W w (czs::[(p, .cells #[.slice a n k,I itu] 81 (0,0))]::H::F)/\u<=3/\(∀z∈zs,opB z)/\(zs.length<=3+2*u)/\((u:Int)+j<=3)/\(0<=itu/\itu<=n)/\OwnT encPOp 75 2 azs nzs kzs zs czs) (fun ⟨u,j,itu,zs,azs,nzs,kzs,czs⟩=>3-u) (0,e1,f1,z1,a1,n1,k1,c1) ⟨i1,om,hz1.2,om,om,om,hO1⟩ ?_
 rintro ⟨u,j,itu,zs,azs,nzs,kzs,czs⟩ ρ _ ⟨i0,hu,hB,hzl,hj,hitu,hOzs⟩
 have hn_zs:=hOzs.len;have hl_zs:=hOzs.le
 refine seqE<|sR<|pu2<|nT<|cD (j>0) (fun j1=>?_) (fun j1=>?_)
 rotate_left
 ·exact exitE<|xB<|tN<|sR<|pu2<|zE<|retT [.slice azs nzs kzs]<|⟨_,_,_,zs,czs,rfl,(hOzs.rdAt (cs:=[czs]) 0 rfl),⟨om,hB⟩,_,om,(i0.pick 1 rfl)⟩
 refine kT<|seqE<|blockE<|sR<|pu1 ?_
 have m1:=(i0.pick 1 rfl)
 refine cX call15 (tape_next (RdT.flat (hR.up 1 (by rfl))) om m1.flat1 3 om) ?_
 rintro _ _ ⟨j0,rfl,_,o1,_,q1⟩
 have f0:=q1.unflat1
 refine nT<|blockE<|sR<|pu2<|nT<|cE j0 0 (fun r1=>?_) (fun r1=>?_)
 rotate_left
 ·refine sR<|pu2<|nT<|cE j0 1 (fun s1=>?_) (fun s1=>?_)
  rotate_left
  ·exact rE<|pu2<|sBS f0 #[I 11,I 0] runUnderlying51 sizeOf75 zeroValue75 fun _ _ t1=>sApp (nb:=16) t1 hOzs 2 (RdT.blk (enc:=encPOp) (sz:=2) (xs:=[(⟨11,0⟩:POp)]) fR 1 0 rfl rfl rfl om) underlying51 (i:=Tryz.t75) kr fR fun u1 v1 w1 _ x1 y1=>pu1<|nilO<|bN<|bN<|tN<|rE<|pu1<|sSub j 1<|pu1<|nT<|⟨(u+1,(j-1),o1,(zs++[(⟨11,0⟩:POp)]),u1,(nzs+1),v1,w1),od,alA,((y1.pick 2 rfl).dropAt 1 rfl),om,(by
     intro z hz
     rcases List.mem_append.1 hz with h|h
     ·exact hB z h
     ·simp only [List.mem_cons,List.not_mem_nil,or_false] at h
      subst h;(unfold opB numB;dsimp only;omega)),by simp;omega,om,om,x1⟩
  refine rE<|pu2<|cX call15 (tape_next (RdT.flat (hR.up 1 (by rfl))) om f0.flat1 4 om) ?_
  rintro _ _ ⟨g0,rfl,_,b2,_,c2⟩
  have d2:=c2.unflat1
  exact pu1<|sBS d2 #[I 10,I g0] runUnderlying51 sizeOf75 zeroValue75 fun _ _ e2=>sApp (nb:=16) e2 hOzs 2 (RdT.blk (enc:=encPOp) (sz:=2) (xs:=[(⟨10,g0⟩:POp)]) fR 1 0 rfl rfl rfl om) underlying51 (i:=Tryz.t75) kr fR fun f2 g2 h2 _ i2 j2=>pu1<|nilO<|bN<|bN<|tN<|rE<|pu1<|sSub j 1<|pu1<|nT<|⟨(u+1,(j-1),b2,(zs++[(⟨10,g0⟩:POp)]),f2,(nzs+1),g2,h2),od,alA,((j2.pick 2 rfl).dropAt 1 rfl),om,(by
    intro z hz
    rcases List.mem_append.1 hz with h|h
    ·exact hB z h
    ·simp only [List.mem_cons,List.not_mem_nil,or_false] at h
     subst h;(unfold opB numB;dsimp only;omega)),by simp;omega,om,om,i2⟩
 refine rE<|pu3<|cX call15 (tape_next (RdT.flat (hR.up 1 (by rfl))) om f0.flat1 300 om) ?_
 rintro _ _ ⟨e0,rfl,_,_,_,l2⟩
 have m2:=l2.unflat1
 refine sSub e0 100<|sBS m2 #[I (e0-100),I 0,I 3,I (-2)] runUnderlying22 sizeOf3 zeroValue3 fun _ _ n2=>?_
 have o2:=(n2.pick 1 rfl)
 refine cX call42 (tape_pick (RdT.flat (hR.up 2 (by rfl))) om o2.flat1 (RdT.flat (RdT.blk (enc:=Go.E.encI) (sz:=1) (xs:=[(e0-100),0,3,-2]) (fun _=>(by rfl)) 4 0 rfl rfl rfl om)) om om) ?_
 rintro _ _ ⟨c0,rfl,p2,_,_,q2⟩
 have r2:=q2.unflat1
 have o4:(c0:Int)=(e0-100)\/(c0:Int)=0\/(c0:Int)=3\/(c0:Int)=(-2):=by simpa using p2
 refine pu2<|sBS r2 #[I 3,I 4,I 5,I 6,I 7,I 8,I 9] runUnderlying22 sizeOf3 zeroValue3 fun _ _ s2=>?_
 have t2:=(s2.pick 1 rfl)
 refine cX call42 (tape_pick (RdT.flat (hR.up 3 (by rfl))) om t2.flat1 (RdT.flat (RdT.blk (enc:=Go.E.encI) (sz:=1) (xs:=[3,4,5,6,7,8,9]) (fun _=>(by rfl)) 7 0 rfl rfl rfl om)) om om) ?_
 rintro _ _ ⟨b0,rfl,u2,v2,_,w2⟩
 have x2:=w2.unflat1
 have t4:(b0:Int)=3\/(b0:Int)=4\/(b0:Int)=5\/(b0:Int)=6\/(b0:Int)=7\/(b0:Int)=8\/(b0:Int)=9:=by simpa using u2
 exact pu1<|sBS x2 #[I 2,I c0,I b0,I 0] runUnderlying51 sizeOf75 zeroValue75 fun _ _ y2=>sApp (nb:=16) y2 hOzs 4 (RdT.blk (enc:=encPOp) (sz:=2) (xs:=[(⟨2,c0⟩:POp),(⟨b0,0⟩:POp)]) fR 2 0 rfl rfl rfl om) underlying51 (i:=Tryz.t75) kr fR fun z2 a3 b3 _ c3 d3=>pu1<|nilO<|bN<|bN<|tN<|rE<|pu1<|sSub j 1<|pu1<|nT<|⟨(u+1,(j-1),v2,(zs++[(⟨2,c0⟩:POp),(⟨b0,0⟩:POp)]),z2,(nzs+2),a3,b3),od,alA,((d3.pick 4 rfl).drops [1,2,2]),om,(by
   intro z hz
   rcases List.mem_append.1 hz with h|h
   ·exact hB z h
   ·simp only [List.mem_cons,List.not_mem_nil,or_false] at h
    rcases h with rfl|rfl<;>(unfold opB numB;dsimp only;omega)),by simp;omega,om,om,c3⟩
def stageB (k:Nat) (q:Stage):Prop:=(numB q.kind/\numB q.a/\numB q.b/\numB q.edgePolicy/\numB q.edgeFill/\numB q.kW/\numB q.kH/\numB q.shift/\numB q.shift2/\numB q.bins/\numB q.max_)/\(q.weights.l.length<=64/\∀z∈q.weights.l,numB z)/\(q.row.l.length<=64/\∀z∈q.row.l,numB z)/\(q.col.l.length<=64/\∀z∈q.col.l,numB z)/\(q.x.l.length<=6+k/\∀z∈q.x.l,tapB z)/\(q.y.l.length<=6+k/\∀z∈q.y.l,tapB z)/\(q.ops.l.length<=9+k/\∀z∈q.ops.l,opB z)
theorem zStage_ok {cs:List Chunk}:Stage.Ok cs zStage:=⟨RdT.nil (enc:=Go.E.encI) (sz:=1) (fun _=>rfl) _,RdT.nil (enc:=Go.E.encI) (sz:=1) (fun _=>rfl) _,RdT.nil (enc:=Go.E.encI) (sz:=1) (fun _=>rfl) _,RdT.nil (enc:=encTap) (sz:=2) (fun _=>rfl) _,(fun z hz=>by cases hz),RdT.nil (enc:=encTap) (sz:=2) (fun _=>rfl) _,(fun z hz=>by cases hz),RdT.nil (enc:=encPOp) (sz:=2) (fun _=>rfl) _⟩
theorem nl0 {α:Type} {P:α->Prop} {m:Nat}:([]:List α).length<=m/\∀z∈([]:List α),P z:=⟨by simp,fun z hz=>by cases hz⟩
theorem tg_stage {p:Nat} {a:Option Addr} {n k:Nat} {i:Int} {xs:List Int} (hR:RdT Go.E.encI 1 [H] a n k xs) (hi:0<=i/\i<=n) (hS:Sat W w ([(p, .cells #[.slice a n k,I i] 81 (0,0))]::H::F)) (a0:Int) (s0:Shape) (b0:Int) (hs0:szP s0) (hab:numB a0/\numB b0):
  Calls prog 24 #[Pt p 0,I a0, .agg #[I s0.w,I s0.h,I s0.max_],I b0] w fun e w'=>∃(q:Stage) (G:Chunk),e= .returned (.agg (encStage q).toArray)/\(Stage.Ok [G] q)/\(stageB 0 q)/\(q.a=a0/\(q.b=-1\/(q.b=b0/\0<=b0)))/\∃i':Int,(0<=i'/\i'<=n)/\Sat W w' ([(p, .cells #[.slice a n k,I i'] 81 (0,0))]::G::H::F):=by
 have hle:=hR.le
 have hs1:=hs0;unfold szP at hs1;have hab1:=hab;unfold numB at hab1
 refine callsA 126 func24 rfl<|sR<|sBox hS (.agg #[I s0.w,I s0.h,I s0.max_]) #[I s0.w,I s0.h,I s0.max_] fun m0 _ l4=>sAlloc l4 zeroValue53 fun f1 _ m4=>zS<|pu1 ?_
 have n4:=(m4.pick 2 rfl)
 refine cX call15 (tape_next (RdT.flat (hR.up 2 (by rfl))) om n4.flat1 6 om) ?_
 rintro _ _ ⟨c0,rfl,_,_,_,o4⟩
 have p4:=o4.unflat1
 refine sAdd 1 c0<|pu2<|cX call15 (tape_next (RdT.flat (hR.up 2 (by rfl))) om p4.flat1 4 om) ?_
 rintro _ _ ⟨f0,rfl,_,_,_,q4⟩
 have r4:=q4.unflat1
 refine pu2<|sAlloc r4 zeroValue53 fun g1 _ s4=>?_
 refine sT s4 0 0 (.agg (encStage {zStage with kind:=(1+c0),a:=a0,b:=-1,barrier:=((f0:Int)==3)}).toArray) (encStage {zStage with kind:=(1+c0),a:=a0,b:=-1,barrier:=((f0:Int)==3)}) (encStage {zStage with kind:=(1+c0),a:=a0,b:=-1,barrier:=((f0:Int)==3)}).toArray sizeOf53 fun _ t4=>zS<|pu1<|sBS t4 #[I 255,I 65535,I 15] runUnderlying22 sizeOf3 zeroValue3 fun _ _ u4=>?_
 have v4:=(u4.pick 2 rfl)
 refine cX call42 (tape_pick (RdT.flat (hR.up 4 (by rfl))) om v4.flat1 (RdT.flat (RdT.blk (enc:=Go.E.encI) (sz:=1) (xs:=[255,65535,15]) (fun _=>(by rfl)) 3 0 rfl rfl rfl om)) om om) ?_
 rintro _ _ ⟨d0,rfl,w4,x4,_,y4⟩
 have e0:=y4.unflat1
 have jb:(d0:Int)=255\/(d0:Int)=65535\/(d0:Int)=15:=by simpa using w4
 refine pu1<|nT<|cutA (γ:=Stage×Chunk×Int) (fun ⟨q,G1,itc⟩=>[(8,Pt f1 0),(9,Pt g1 0)]) (fun ⟨q,G1,itc⟩ w=>Sat W w (G1::[(p, .cells #[.slice a n k,I itc] 81 (0,0))]::[(g1, .cells (encStage q).toArray 53 (0,0))]::[(f1, .cells (encStage zStage).toArray 53 (0,0))]::H::F)/\(0<=itc/\itc<=n)/\Stage.Ok [G1] q/\stageB 0 q/\(q.a=a0/\(q.b=-1\/(q.b=b0/\0<=b0)))) ?_ ?_
 rotate_left
 ·rintro ⟨q,G1,itc⟩ ρ _ ⟨h1,hitc,hqok,hqB,hqab⟩
  exact sR<|lA h1 2 0 18 (isAgg53 _) (sizeOf53 _)<|sT h1 3 0 (.agg (encStage q).toArray) (encStage q) (encStage q).toArray sizeOf53 fun _ i1=>zE<|retN (vs:=[.agg (encStage q).toArray]) rfl (.cons (.cell _ _ _ _ kr (lvA i1 3 0 (encStage q) (isAgg53 _) (sizeOf53 _) rfl rfl rfl)) .nil)<|⟨q,G1,rfl,hqok,hqB,hqab,_,om,((i1.pick 1 rfl).drops [2,2])⟩
 refine sR<|pu1<|sL e0 2 0 (I (1+c0)) (isAgg3 _)<|nT<|blockE<|sR<|pu2<|nT<|cE (1+c0) 1 (fun a5=>?_) (fun a5=>?_)
 ·refine seqE ?_
  refine drawP [1,2,4,5,8,12,14,16,18,20,22] [(11,⟨m0,2,none⟩,I s0.max_)] (Plan.sts [0,3,6,7,9,10]<|Plan.sts [11]<| .fk 1 4 (.fk 2 4 (Plan.sts [13]<| .ef 4<| .ef 5<| .ef 8<| .ef 12<| .ef 14<|Plan.sts [15]<| .ef 16<|Plan.sts [17]<| .ef 18<|Plan.sts [19]<| .ef 20<|Plan.sts [21]<| .ef 22<| .fin) (.ef 2<|Plan.sts [13]<| .ef 5<| .ef 8<| .ef 12<| .ef 14<|Plan.sts [15]<| .ef 16<|Plan.sts [17]<| .ef 18<|Plan.sts [19]<| .ef 20<|Plan.sts [21]<| .ef 22<| .fin)) (.ef 1<| .ef 2<|Plan.sts [13]<| .ef 5<| .ef 8<| .ef 12<| .ef 14<|Plan.sts [15]<| .ef 16<|Plan.sts [17]<| .ef 18<|Plan.sts [19]<| .ef 20<|Plan.sts [21]<| .ef 22<| .fin)) rfl kr ⟨cI e0 4,trivial⟩ ?_
  have j1:=e0.drew
  refine qU [0,3,6,7,9,10]<|qLd (I s0.max_) 0 isAgg3<|qF ?_ ?_
  rotate_left
  ·refine qO rfl<|sBS j1 #[I 1,I 3,I 2] runUnderlying22 sizeOf3 zeroValue3 fun _ _ k1=>nilO ⟨⟨cI k1 5,trivial⟩,?_⟩
   refine qO rfl<|sBS k1 #[I 1,I 3,I 2,I 5] runUnderlying22 sizeOf3 zeroValue3 fun _ _ l1=>nilO ⟨⟨cI l1 6,trivial⟩,?_⟩
   refine qO rfl ?_
   have b5:=(l1.pick 2 rfl)
   refine cX call42 (tape_pick (RdT.flat (hR.up 6 (by rfl))) om b5.flat1 (RdT.flat (RdT.blk (enc:=Go.E.encI) (sz:=1) (xs:=[1,3,2,5]) (fun _=>(by rfl)) 4 0 rfl rfl rfl om)) om om) ?_
   rintro _ _ ⟨g0,rfl,c5,_,_,d5⟩
   have m1:=d5.unflat1
   have ub:(g0:Int)=1\/(g0:Int)=3\/(g0:Int)=2\/(g0:Int)=5:=by simpa using c5
   refine nilO ⟨⟨cI m1 6,trivial⟩,?_⟩
   refine qU [13]<|qO rfl<|cX call42 (tape_pick (RdT.flat (hR.up 6 (by rfl))) om m1.flat1 (RdT.flat (RdT.blk (enc:=Go.E.encI) (sz:=1) (xs:=[1,3,2]) (fun _=>(by rfl)) 3 1 rfl rfl rfl om)) om om) ?_
   rintro _ _ ⟨j0,rfl,e5,_,_,f5⟩
   have n1:=f5.unflat1
   have yb:(j0:Int)=1\/(j0:Int)=3\/(j0:Int)=2:=by simpa using e5
   refine nilO ⟨⟨cI n1 6,trivial⟩,?_⟩
   refine qO rfl<|cX call15 (tape_next (RdT.flat (hR.up 6 (by rfl))) om n1.flat1 4 om) ?_
   rintro _ _ ⟨o1,rfl,_,_,_,g5⟩
   have q1:=g5.unflat1
   refine nilO ⟨⟨cI q1 6,trivial⟩,?_⟩
   refine qO rfl<|cX call70 (tg_edge (RdT.flat (hR.up 6 (by rfl))) om q1.flat1 s0.max_ om) ?_
   rintro _ _ ⟨r1,s1,rfl,h5,_,_,i5⟩
   have j5:=i5.unflat1
   unfold numB at h5
   refine nilO ⟨dA,?_⟩
   refine qO rfl<|tW j5 4 6 (I g0) sizeOf3 fun _ k5=>nilO ⟨dA,?_⟩
   refine qU [15]<|qO rfl<|tW k5 4 7 (I j0) sizeOf3 fun _ l5=>nilO ⟨dA,?_⟩
   refine qU [17]<|qO rfl<|tW l5 4 17 (I d0) sizeOf3 fun _ m5=>nilO ⟨dA,?_⟩
   refine qU [19]<|qO rfl<|tW m5 4 11 (I o1) sizeOf3 fun _ n5=>nilO ⟨dA,?_⟩
   refine qU [21]<|qO rfl<|tW n5 4 4 (.agg #[I r1,I s1]) sizeOf49 fun _ o0=>nilO ⟨dA,?_⟩
   refine qN<|tN ?_
   have hkk:=mul_bd (a:=g0) (b:=j0) (A:=5) (B:=3) om om
   refine rE<|pu2<|sL o0 4 6 (I g0) (isAgg3 _)<|pu1<|sL o0 4 7 (I j0) (isAgg3 _)<|sMul g0 j0<|cX call71 (tg_weights (RdT.flat (hR.up 6 (by rfl))) om o0.flat1 (g0*j0) om) ?_
   rintro _ _ ⟨t1,u1,v1,o5,p5,rfl,p0,w1,q5,_,r5⟩
   have s5:=r5.unflat2
   have hn_zs_218:=p0.len;have hl_zs_218:=p0.le
   refine pu1<|tW s5 5 8 (.slice t1 u1 v1) sizeOf22 fun _ t5=>nB ?_
   exact ⟨(({zStage with kind:=(1+c0),a:=a0,b:=-1,barrier:=((f0:Int)==3),edgePolicy:=r1,edgeFill:=s1,kW:=g0,kH:=j0,weights:=⟨t1,u1,v1,o5⟩,shift:=o1,max_:=d0}:Stage),p5,q5),alA,((t5.pick 1 rfl).drops [2,2,2,4]),om,{zStage_ok with weights:=p0.of_mem mS},⟨(by simp only [numB,zStage];omega),⟨by have h:=w1.1;dsimp only;omega,w1.2⟩,nl0,nl0,nl0,nl0,nl0⟩,⟨rfl,by first|(left;rfl)|(right;exact ⟨rfl,om⟩)⟩⟩
  refine qO rfl<|sBS j1 #[I 1,I 3,I 2,I 5] runUnderlying22 sizeOf3 zeroValue3 fun _ _ q0=>nilO ⟨⟨cI q0 5,trivial⟩,?_⟩
  refine qF ?_ ?_
  ·refine qO rfl ?_
   have v5:=(q0.pick 1 rfl)
   refine cX call42 (tape_pick (RdT.flat (hR.up 5 (by rfl))) om v5.flat1 (RdT.flat (RdT.blk (enc:=Go.E.encI) (sz:=1) (xs:=[1,3,2,5]) (fun _=>(by rfl)) 4 0 rfl rfl rfl om)) om om) ?_
   rintro _ _ ⟨h0,rfl,w5,_,_,x5⟩
   have x1:=x5.unflat1
   have tc:(h0:Int)=1\/(h0:Int)=3\/(h0:Int)=2\/(h0:Int)=5:=by simpa using w5
   refine nilO ⟨⟨cI x1 5,trivial⟩,?_⟩
   refine qU [13]<|qO rfl<|sBS x1 #[I 1,I 3,I 2] runUnderlying22 sizeOf3 zeroValue3 fun _ _ y1=>nilO ⟨⟨cI y1 6,trivial⟩,?_⟩
   refine qO rfl ?_
   have y5:=(y1.pick 1 rfl)
   refine cX call42 (tape_pick (RdT.flat (hR.up 6 (by rfl))) om y5.flat1 (RdT.flat (RdT.blk (enc:=Go.E.encI) (sz:=1) (xs:=[1,3,2]) (fun _=>(by rfl)) 3 0 rfl rfl rfl om)) om om) ?_
   rintro _ _ ⟨k0,rfl,z5,_,_,a6⟩
   have z1:=a6.unflat1
   have zc:(k0:Int)=1\/(k0:Int)=3\/(k0:Int)=2:=by simpa using z5
   refine nilO ⟨⟨cI z1 6,trivial⟩,?_⟩
   refine qO rfl<|cX call15 (tape_next (RdT.flat (hR.up 6 (by rfl))) om z1.flat1 4 om) ?_
   rintro _ _ ⟨a2,rfl,_,_,_,b6⟩
   have b2:=b6.unflat1
   refine nilO ⟨⟨cI b2 6,trivial⟩,?_⟩
   refine qO rfl<|cX call70 (tg_edge (RdT.flat (hR.up 6 (by rfl))) om b2.flat1 s0.max_ om) ?_
   rintro _ _ ⟨c2,d2,rfl,c6,_,_,d6⟩
   have e6:=d6.unflat1
   unfold numB at c6
   refine nilO ⟨dA,?_⟩
   refine qO rfl<|tW e6 4 6 (I h0) sizeOf3 fun _ f6=>nilO ⟨dA,?_⟩
   refine qU [15]<|qO rfl<|tW f6 4 7 (I k0) sizeOf3 fun _ g6=>nilO ⟨dA,?_⟩
   refine qU [17]<|qO rfl<|tW g6 4 17 (I d0) sizeOf3 fun _ h6=>nilO ⟨dA,?_⟩
   refine qU [19]<|qO rfl<|tW h6 4 11 (I a2) sizeOf3 fun _ i6=>nilO ⟨dA,?_⟩
   refine qU [21]<|qO rfl<|tW i6 4 4 (.agg #[I c2,I d2]) sizeOf49 fun _ r0=>nilO ⟨dA,?_⟩
   refine qN<|tN ?_
   have hkk:=mul_bd (a:=h0) (b:=k0) (A:=5) (B:=3) om om
   refine rE<|pu2<|sL r0 4 6 (I h0) (isAgg3 _)<|pu1<|sL r0 4 7 (I k0) (isAgg3 _)<|sMul h0 k0<|cX call71 (tg_weights (RdT.flat (hR.up 6 (by rfl))) om r0.flat1 (h0*k0) om) ?_
   rintro _ _ ⟨e2,f2,g2,j6,k6,rfl,t0,h2,l6,_,m6⟩
   have n6:=m6.unflat2
   have hn_zs_95:=t0.len;have hl_zs_95:=t0.le
   refine pu1<|tW n6 5 8 (.slice e2 f2 g2) sizeOf22 fun _ o6=>nB ?_
   exact ⟨(({zStage with kind:=(1+c0),a:=a0,b:=-1,barrier:=((f0:Int)==3),edgePolicy:=c2,edgeFill:=d2,kW:=h0,kH:=k0,weights:=⟨e2,f2,g2,j6⟩,shift:=a2,max_:=d0}:Stage),k6,l6),alA,((o6.pick 1 rfl).drops [2,2,2,4]),om,{zStage_ok with weights:=t0.of_mem mS},⟨(by simp only [numB,zStage];omega),⟨by have h:=h2.1;dsimp only;omega,h2.2⟩,nl0,nl0,nl0,nl0,nl0⟩,⟨rfl,by first|(left;rfl)|(right;exact ⟨rfl,om⟩)⟩⟩
  refine qO rfl<|sBS q0 #[I 1,I 3,I 2] runUnderlying22 sizeOf3 zeroValue3 fun _ _ i2=>nilO ⟨⟨cI i2 6,trivial⟩,?_⟩
  refine qO rfl ?_
  have q6:=(i2.pick 2 rfl)
  refine cX call42 (tape_pick (RdT.flat (hR.up 6 (by rfl))) om q6.flat1 (RdT.flat (RdT.blk (enc:=Go.E.encI) (sz:=1) (xs:=[1,3,2,5]) (fun _=>(by rfl)) 4 1 rfl rfl rfl om)) om om) ?_
  rintro _ _ ⟨i0,rfl,r6,_,_,s6⟩
  have j2:=s6.unflat1
  have wd:(i0:Int)=1\/(i0:Int)=3\/(i0:Int)=2\/(i0:Int)=5:=by simpa using r6
  refine nilO ⟨⟨cI j2 6,trivial⟩,?_⟩
  refine qU [13]<|qO rfl<|cX call42 (tape_pick (RdT.flat (hR.up 6 (by rfl))) om j2.flat1 (RdT.flat (RdT.blk (enc:=Go.E.encI) (sz:=1) (xs:=[1,3,2]) (fun _=>(by rfl)) 3 0 rfl rfl rfl om)) om om) ?_
  rintro _ _ ⟨l0,rfl,t6,_,_,u6⟩
  have k2:=u6.unflat1
  have ae:(l0:Int)=1\/(l0:Int)=3\/(l0:Int)=2:=by simpa using t6
  refine nilO ⟨⟨cI k2 6,trivial⟩,?_⟩
  refine qO rfl<|cX call15 (tape_next (RdT.flat (hR.up 6 (by rfl))) om k2.flat1 4 om) ?_
  rintro _ _ ⟨l2,rfl,_,_,_,v6⟩
  have m2:=v6.unflat1
  refine nilO ⟨⟨cI m2 6,trivial⟩,?_⟩
  refine qO rfl<|cX call70 (tg_edge (RdT.flat (hR.up 6 (by rfl))) om m2.flat1 s0.max_ om) ?_
  rintro _ _ ⟨n2,o2,rfl,w6,_,_,x6⟩
  have y6:=x6.unflat1
  unfold numB at w6
  refine nilO ⟨dA,?_⟩
  refine qO rfl<|tW y6 4 6 (I i0) sizeOf3 fun _ z6=>nilO ⟨dA,?_⟩
  refine qU [15]<|qO rfl<|tW z6 4 7 (I l0) sizeOf3 fun _ a7=>nilO ⟨dA,?_⟩
  refine qU [17]<|qO rfl<|tW a7 4 17 (I d0) sizeOf3 fun _ b7=>nilO ⟨dA,?_⟩
  refine qU [19]<|qO rfl<|tW b7 4 11 (I l2) sizeOf3 fun _ c7=>nilO ⟨dA,?_⟩
  refine qU [21]<|qO rfl<|tW c7 4 4 (.agg #[I n2,I o2]) sizeOf49 fun _ u0=>nilO ⟨dA,?_⟩
  refine qN<|tN ?_
  have hkk:=mul_bd (a:=i0) (b:=l0) (A:=5) (B:=3) om om
  refine rE<|pu2<|sL u0 4 6 (I i0) (isAgg3 _)<|pu1<|sL u0 4 7 (I l0) (isAgg3 _)<|sMul i0 l0<|cX call71 (tg_weights (RdT.flat (hR.up 6 (by rfl))) om u0.flat1 (i0*l0) om) ?_
  rintro _ _ ⟨p2,q2,r2,d7,e7,rfl,v0,s2,f7,_,g7⟩
  have h7:=g7.unflat2
  have hn_zs_155:=v0.len;have hl_zs_155:=v0.le
  refine pu1<|tW h7 5 8 (.slice p2 q2 r2) sizeOf22 fun _ i7=>nB ?_
  exact ⟨(({zStage with kind:=(1+c0),a:=a0,b:=-1,barrier:=((f0:Int)==3),edgePolicy:=n2,edgeFill:=o2,kW:=i0,kH:=l0,weights:=⟨p2,q2,r2,d7⟩,shift:=l2,max_:=d0}:Stage),e7,f7),alA,((i7.pick 1 rfl).drops [2,2,2,4]),om,{zStage_ok with weights:=v0.of_mem mS},⟨(by simp only [numB,zStage];omega),⟨by have h:=s2.1;dsimp only;omega,s2.2⟩,nl0,nl0,nl0,nl0,nl0⟩,⟨rfl,by first|(left;rfl)|(right;exact ⟨rfl,om⟩)⟩⟩
 refine sR<|pu2<|nT<|cE (1+c0) 2 (fun k7=>?_) (fun k7=>?_)
 ·refine drawE [2,4,7,9,12,14,18,20,22,24,26,28,30] [(17,⟨m0,2,none⟩,I s0.max_)] [(true,[0,1,5,6,10,11,13,15,16]),(true,[17]),(false,[2]),(true,[3]),(false,[4]),(true,[19]),(false,[7]),(true,[8]),(false,[9]),(false,[12]),(false,[14]),(false,[18]),(false,[20]),(true,[21]),(false,[22]),(true,[23]),(false,[24]),(true,[25]),(false,[26]),(true,[27]),(false,[28]),(true,[29]),(false,[30])] rfl kr ⟨cI e0 4,trivial⟩ ?_
  have l7:=e0.drew
  refine wU [0,1,5,6,10,11,13,15,16]<|wLd (I s0.max_) 0 isAgg3<|wO rfl<|cX call15 (tape_next (RdT.flat (hR.up 4 (by rfl))) om l7.flat1 4 om) ?_
  rintro _ _ ⟨t2,rfl,_,_,_,m7⟩
  have u2:=m7.unflat1
  refine nilO ⟨⟨cI u2 4,trivial⟩,?_⟩
  refine wAdd 1 t2<|wO rfl<|cX call71 (tg_weights (RdT.flat (hR.up 4 (by rfl))) om u2.flat1 (1+t2) om) ?_
  rintro _ _ ⟨v2,w2,x2,n7,o7,rfl,w0,y2,_,_,p7⟩
  have z2:=p7.unflat2
  have hn_zs_242:=w0.len;have hl_zs_242:=w0.le
  refine nilO ⟨⟨cI z2 5,trivial⟩,?_⟩
  refine wU [19]<|wO rfl<|cX call15 (tape_next (RdT.flat (hR.up 5 (by rfl))) om z2.flat1 4 om) ?_
  rintro _ _ ⟨a3,rfl,_,_,_,q7⟩
  have b3:=q7.unflat1
  refine nilO ⟨⟨cI b3 5,trivial⟩,?_⟩
  refine wAdd 1 a3<|wO rfl<|cX call71 (tg_weights (RdT.flat (hR.up 5 (by rfl))) om b3.flat1 (1+a3) om) ?_
  rintro _ _ ⟨c3,d3,e3,r7,s7,rfl,x0,f3,_,_,t7⟩
  have g3:=t7.unflat2
  have hn_zs_261:=x0.len;have hl_zs_261:=x0.le
  refine nilO ⟨⟨cI g3 6,trivial⟩,?_⟩
  refine wO rfl<|cX call15 (tape_next (RdT.flat (hR.up 6 (by rfl))) om g3.flat1 3 om) ?_
  rintro _ _ ⟨h3,rfl,_,_,_,u7⟩
  have i3:=u7.unflat1
  refine nilO ⟨⟨cI i3 6,trivial⟩,?_⟩
  refine wO rfl<|cX call15 (tape_next (RdT.flat (hR.up 6 (by rfl))) om i3.flat1 4 om) ?_
  rintro _ _ ⟨j3,rfl,_,_,_,v7⟩
  have k3:=v7.unflat1
  refine nilO ⟨⟨cI k3 6,trivial⟩,?_⟩
  refine wO rfl<|cX call70 (tg_edge (RdT.flat (hR.up 6 (by rfl))) om k3.flat1 s0.max_ om) ?_
  rintro _ _ ⟨l3,m3,rfl,w7,x7,_,y7⟩
  have z7:=y7.unflat1
  unfold numB at w7
  refine nilO ⟨dA,?_⟩
  refine wO rfl<|tW z7 4 9 (.slice v2 w2 x2) sizeOf22 fun _ a8=>nilO ⟨dA,?_⟩
  refine wU [21]<|wO rfl<|tW a8 4 10 (.slice c3 d3 e3) sizeOf22 fun _ b8=>nilO ⟨dA,?_⟩
  refine wU [23]<|wO rfl<|tW b8 4 17 (I d0) sizeOf3 fun _ c8=>nilO ⟨dA,?_⟩
  refine wU [25]<|wO rfl<|tW c8 4 11 (I h3) sizeOf3 fun _ d8=>nilO ⟨dA,?_⟩
  refine wU [27]<|wO rfl<|tW d8 4 12 (I j3) sizeOf3 fun _ e8=>nilO ⟨dA,?_⟩
  refine wU [29]<|wO rfl<|tW e8 4 4 (.agg #[I l3,I m3]) sizeOf49 fun _ f8=>nilO ⟨dA,?_⟩
  refine wN<|bN<|tN ?_
  have g8:=((f8.picks [1,2]).drops [3,5])
  exact ⟨(({zStage with kind:=(1+c0),a:=a0,b:=-1,barrier:=((f0:Int)==3),edgePolicy:=l3,edgeFill:=m3,row:=⟨v2,w2,x2,n7⟩,col:=⟨c3,d3,e3,r7⟩,shift:=h3,shift2:=j3,max_:=d0}:Stage),(o7++s7),x7),alA,g8.merge2,om,{zStage_ok with row:=w0.of_mem mS,col:=x0.of_mem mS},⟨(by simp only [numB,zStage];omega),nl0,⟨by have h:=y2.1;dsimp only;omega,y2.2⟩,⟨by have h:=f3.1;dsimp only;omega,f3.2⟩,nl0,nl0,nl0⟩,⟨rfl,by first|(left;rfl)|(right;exact ⟨rfl,om⟩)⟩⟩
 refine sR<|pu2<|nT<|cE (1+c0) 3 (fun i8=>?_) (fun i8=>?_)
 ·refine drawE [3,7,12,14,16,18,20,22,24] [(2,⟨m0,0,none⟩,I s0.w),(6,⟨m0,1,none⟩,I s0.h),(11,⟨m0,2,none⟩,I s0.max_)] [(true,[0,1,4,5,8,9,10]),(true,[2]),(true,[6]),(true,[11]),(false,[3]),(true,[13]),(false,[7]),(false,[12]),(false,[14]),(true,[15]),(false,[16]),(true,[17]),(false,[18]),(true,[19]),(false,[20]),(true,[21]),(false,[22]),(true,[23]),(false,[24])] rfl kr ⟨cI e0 4,cI e0 4,cI e0 4,trivial⟩ ?_
  have j8:=e0.drew
  refine wU [0,1,4,5,8,9,10]<|wLd (I s0.w) 0 isAgg3<|wLd (I s0.h) 1 isAgg3<|wLd (I s0.max_) 2 isAgg3<|wO rfl<|cX call72 (tg_table (RdT.flat (hR.up 4 (by rfl))) om j8.flat1 s0.w om) ?_
  rintro _ _ ⟨n3,o3,p3,k8,l8,rfl,y0,m8,q3,_,_,n8⟩
  have z0:=n8.unflat2
  have hn_zs_311:=y0.len;have hl_zs_311:=y0.le
  refine nilO ⟨⟨dI,cI z0 5,cI z0 5,trivial⟩,?_⟩
  refine wU [13]<|wO rfl<|cX call72 (tg_table (RdT.flat (hR.up 5 (by rfl))) om z0.flat1 s0.h om) ?_
  rintro _ _ ⟨r3,s3,t3,o8,p8,rfl,a1,q8,u3,_,_,r8⟩
  have v3:=r8.unflat2
  have hn_zs_324:=a1.len;have hl_zs_324:=a1.le
  refine nilO ⟨⟨dI,dI,cI v3 6,trivial⟩,?_⟩
  refine wO rfl<|cX call70 (tg_edge (RdT.flat (hR.up 6 (by rfl))) om v3.flat1 s0.max_ om) ?_
  rintro _ _ ⟨w3,x3,rfl,s8,t8,_,u8⟩
  have v8:=u8.unflat1
  unfold numB at s8
  refine nilO ⟨dA,?_⟩
  refine wO rfl<|tW v8 4 13 (.slice n3 o3 p3) sizeOf50 fun _ w8=>nilO ⟨dA,?_⟩
  refine wU [15]<|wO rfl<|tW w8 4 14 (.slice r3 s3 t3) sizeOf50 fun _ x8=>nilO ⟨dA,?_⟩
  refine wU [17]<|wO rfl<|tW x8 4 17 (I d0) sizeOf3 fun _ y8=>nilO ⟨dA,?_⟩
  refine wU [19]<|wO rfl<|tW y8 4 11 (I 8) sizeOf3 fun _ z8=>nilO ⟨dA,?_⟩
  refine wU [21]<|wO rfl<|tW z8 4 12 (I 8) sizeOf3 fun _ a9=>nilO ⟨dA,?_⟩
  refine wU [23]<|wO rfl<|tW a9 4 4 (.agg #[I w3,I x3]) sizeOf49 fun _ b9=>nilO ⟨dA,?_⟩
  refine wN<|bN<|tN ?_
  have c9:=((b9.picks [1,2]).drops [3,5])
  exact ⟨(({zStage with kind:=(1+c0),a:=a0,b:=-1,barrier:=((f0:Int)==3),edgePolicy:=w3,edgeFill:=x3,shift:=8,shift2:=8,x:=⟨n3,o3,p3,k8⟩,y:=⟨r3,s3,t3,o8⟩,max_:=d0}:Stage),(l8++p8),t8),alA,c9.merge2,om,{zStage_ok with x:=y0.of_mem mS,xD:=fun z hz=>(m8 z hz).of_mem mS,y:=a1.of_mem mS,yD:=fun z hz=>(q8 z hz).of_mem mS},⟨(by simp only [numB,zStage];omega),nl0,nl0,nl0,⟨by have h:=q3.1;dsimp only;omega,q3.2⟩,⟨by have h:=u3.1;dsimp only;omega,u3.2⟩,nl0⟩,⟨rfl,by first|(left;rfl)|(right;exact ⟨rfl,om⟩)⟩⟩
 refine sR<|pu2<|nT<|cE (1+c0) 4 (fun e9=>?_) (fun e9=>?_)
 ·refine rE<|pu1<|sBS e0 #[I 4,I 1,I 7] runUnderlying22 sizeOf3 zeroValue3 fun _ _ f9=>?_
  have g9:=(f9.pick 1 rfl)
  refine cX call42 (tape_pick (RdT.flat (hR.up 5 (by rfl))) om g9.flat1 (RdT.flat (RdT.blk (enc:=Go.E.encI) (sz:=1) (xs:=[4,1,7]) (fun _=>(by rfl)) 3 0 rfl rfl rfl om)) om om) ?_
  rintro _ _ ⟨n0,rfl,h9,i9,_,j9⟩
  have k9:=j9.unflat1
  have qg:(n0:Int)=4\/(n0:Int)=1\/(n0:Int)=7:=by simpa using h9
  refine pu1<|tW k9 3 15 (I n0) sizeOf3 fun _ l9=>nB ?_
  have m9:=(l9.drops [1,1,3])
  exact ⟨(({zStage with kind:=(1+c0),a:=a0,b:=-1,barrier:=((f0:Int)==3),bins:=n0}:Stage),[],i9),alA,(Sat.nilc m9),om,{zStage_ok with},⟨(by simp only [numB,zStage];omega),nl0,nl0,nl0,nl0,nl0,nl0⟩,⟨rfl,by first|(left;rfl)|(right;exact ⟨rfl,om⟩)⟩⟩
 refine sR<|pu2<|nT<|cE (1+c0) 6 (fun o9=>?_) (fun o9=>?_)
 rotate_left
 ·refine skipE<|bN<|tN ?_
  have p9:=(e0.drops [1,3])
  exact ⟨(({zStage with kind:=(1+c0),a:=a0,b:=-1,barrier:=((f0:Int)==3)}:Stage),[],x4),alA,(Sat.nilc p9),om,{zStage_ok with},⟨(by simp only [numB,zStage];omega),nl0,nl0,nl0,nl0,nl0,nl0⟩,⟨rfl,by first|(left;rfl)|(right;exact ⟨rfl,om⟩)⟩⟩
 refine seqE<|sR<|pu3<|sD 110 (b0>=0) (fun r9=>?_) (fun r9=>?_)
 rotate_left
 ·refine pu4<|nT<|cFf<|kT<|rE<|pu2<|sL e0 2 2 (I (-1)) (isAgg3 _)<|pu1<|cX call73 (tg_ops (RdT.flat (hR.up 4 (by rfl))) om e0.flat1 false) ?_
  rintro _ _ ⟨y3,z3,a4,s9,t9,rfl,b1,b4,u9,_,v9⟩
  have w9:=v9.unflat2
  have hn_zs_422:=b1.len;have hl_zs_422:=b1.le
  refine pu2<|tW w9 3 16 (.slice y3 z3 a4) sizeOf51 fun _ x9=>pu1<|tW x9 3 17 (I d0) sizeOf3 fun _ y9=>nB ?_
  exact ⟨(({zStage with kind:=(1+c0),a:=a0,b:=-1,barrier:=((f0:Int)==3),ops:=⟨y3,z3,a4,s9⟩,max_:=d0}:Stage),t9,u9),alA,((y9.pick 1 rfl).drops [2,4]),om,{zStage_ok with ops:=b1.of_mem mS},⟨(by simp only [numB,zStage];omega),nl0,nl0,nl0,nl0,nl0,⟨by have h:=b4.1;dsimp only;omega,b4.2⟩⟩,⟨rfl,by first|(left;rfl)|(right;exact ⟨rfl,om⟩)⟩⟩
 refine pu1<|gY<|cX call15 (tape_next (RdT.flat (hR.up 4 (by rfl))) om e0.flat1 2 om) ?_
 rintro _ _ ⟨aa,rfl,_,_,_,ba⟩
 have c1:=ba.unflat1
 refine pu2<|nT<|cE aa 0 (fun ca=>?_) (fun ca=>?_)
 rotate_left
 ·refine kT<|rE<|pu2<|sL c1 2 2 (I (-1)) (isAgg3 _)<|pu1<|cX call73 (tg_ops (RdT.flat (hR.up 4 (by rfl))) om c1.flat1 false) ?_
  rintro _ _ ⟨c4,d4,e4,da,ea,rfl,d1,f4,fa,_,ga⟩
  have ha:=ga.unflat2
  have hn_zs_405:=d1.len;have hl_zs_405:=d1.le
  refine pu2<|tW ha 3 16 (.slice c4 d4 e4) sizeOf51 fun _ ia=>pu1<|tW ia 3 17 (I d0) sizeOf3 fun _ ja=>nB ?_
  exact ⟨(({zStage with kind:=(1+c0),a:=a0,b:=-1,barrier:=((f0:Int)==3),ops:=⟨c4,d4,e4,da⟩,max_:=d0}:Stage),ea,fa),alA,((ja.pick 1 rfl).drops [2,4]),om,{zStage_ok with ops:=d1.of_mem mS},⟨(by simp only [numB,zStage];omega),nl0,nl0,nl0,nl0,nl0,⟨by have h:=f4.1;dsimp only;omega,f4.2⟩⟩,⟨rfl,by first|(left;rfl)|(right;exact ⟨rfl,om⟩)⟩⟩
 refine rE<|pu2<|tW c1 2 2 (I b0) sizeOf3 fun _ g4=>nT<|rE<|pu2<|sL g4 2 2 (I b0) (isAgg3 _)<|pu1<|cX call73 (tg_ops (RdT.flat (hR.up 4 (by rfl))) om g4.flat1 (decide ((b0:Int)>=0))) ?_
 rintro _ _ ⟨h4,i4,j4,la,ma,rfl,e1,k4,na,_,oa⟩
 have pa:=oa.unflat2
 have hn_zs_388:=e1.len;have hl_zs_388:=e1.le
 refine pu2<|tW pa 3 16 (.slice h4 i4 j4) sizeOf51 fun _ qa=>pu1<|tW qa 3 17 (I d0) sizeOf3 fun _ ra=>nB ?_
 exact ⟨(({zStage with kind:=(1+c0),a:=a0,b:=b0,barrier:=((f0:Int)==3),ops:=⟨h4,i4,j4,la⟩,max_:=d0}:Stage),ma,na),alA,((ra.pick 1 rfl).drops [2,4]),om,{zStage_ok with ops:=e1.of_mem mS},⟨(by simp only [numB,zStage];omega),nl0,nl0,nl0,nl0,nl0,⟨by have h:=k4.1;dsimp only;omega,k4.2⟩⟩,⟨rfl,by first|(left;rfl)|(right;exact ⟨rfl,om⟩)⟩⟩
end Go.Proofs.YtmlhcafjelkjfaaGreat
