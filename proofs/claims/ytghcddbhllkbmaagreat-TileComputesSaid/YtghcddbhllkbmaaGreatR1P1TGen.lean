import Derived.WalkKit
import Derived.Deep.Quiet
import Derived.KernelRfl
import Derived.Laws.BytesString
import Derived.Laws.Shifts
import Derived.Laws.IdiomStrings
import Derived.OpenShut
import Derived.Deep.Slices
import Derived.ChangeSame
import Derived.Deep.Fields
import Derived.Test.YtghcddbhllkbmaaGreatProg
import Derived.Laws.IdiomRangeMap
import Derived.Test.YtghcddbhllkbmaaGreatR1P1CkS
namespace Go.Proofs.YtghcddbhllkbmaaGreat
open Go Go.E Go.Proofs.Tryz
set_option linter.all false
set_option maxRecDepth 100000
set_option maxHeartbeats 2000000
variable {W w:World} {H:Chunk} {F:List Chunk}
def planeB (q:Plane):Prop:=q.pix.l.length<=64/\∀z∈q.pix.l,numB z
theorem tg_weights {p:Nat} {a:Option Addr} {n k:Nat} {i:Int} {xs:List Int} (hR:RdT Go.E.encI 1 [H] a n k xs) (hi:0<=i/\i<=n) (hS:Sat W w ([(p, .cells #[.slice a n k,I i] 78 (0,0))]::H::F)) (m0:Int) (hm:m0<=64):
  Calls prog 60 #[Pt p 0,I m0] w fun e w'=>∃(az:Option Addr) (nz:Nat) (kz:Nat) (zs:List Int) (G:Chunk),e= .returned (.slice az nz kz)/\(RdT Go.E.encI 1 [G] az nz kz zs)/\((zs.length:Int)=max m0 0/\∀z∈zs,numB z)/\∃i':Int,(0<=i'/\i'<=n)/\Sat W w' ([(p, .cells #[.slice a n k,I i'] 78 (0,0))]::G::H::F):=by
 have B0:=hR.le
 refine callsK 22 func60 rfl<|jCC 17 rfl<|loopF [0,1] (γ:=Nat×Int×(List Int)×SO) (fun ⟨i,x0,zs,j0,g0,y0,e0⟩ R=>⟨[(6,I (i:Int)),(5, .slice j0 g0 y0)],e0::[(p, .cells #[.slice a n k,I x0] 78 (0,0))]::R,m0.toNat-i,i<=m0.toNat/\(∀z∈zs,numB z)/\(zs.length=i)/\(0<=x0/\x0<=n)/\OwnT Go.E.encI 3 1 j0 g0 y0 zs e0⟩) (0,i,[],none,0,0,[]) ⟨(Sat.nilc hS),om,(by intro z hz;cases hz),by rfl,om,(OwnT.nil (enc:=Go.E.encI) (E:=3) (sz:=1) fR)⟩ ?_
 rintro ⟨i,x0,zs,j0,g0,y0,e0⟩ ρ _ ⟨c0,hi,hB,C0,A0,d0⟩
 have z0:=d0.ll
 refine jCC 8 rfl<|CD ((i:Int)<m0) (fun f0=>jCR 12 rfl<|retT [.slice j0 g0 y0]<|⟨_,_,_,zs,e0,rfl,(d0.rdAt (cs:=[e0]) 0 rfl),⟨om,hB⟩,_,om,(c0.pick 1 rfl)⟩) fun f0=>jCO 8 rfl ?_
 have h0:=(c0.pick 1 rfl)
 refine cZ (tape_next (hR.fl 1) om h0.flat1 41 om) ?_
 rintro _ _ ⟨b0,rfl,_,_,_,i0⟩
 refine sSub b0 20<|sBK i0.unflat1 #[I 1,I 2,I (-1),I 0,I (b0-20),I 5] 3 fun _ _ k0=>?_
 have l0:=(k0.pick 1 rfl)
 refine cZ (tape_pick (hR.fl 2) om l0.flat1 (RdT.flat (RdT.blk (enc:=Go.E.encI) (sz:=1) (xs:=[1,2,-1,0,(b0-20),5]) (fun _=>(by rfl)) 6 0 rfl rfl rfl om)) om om) ?_
 rintro _ _ ⟨a0,rfl,n0,o0,_,p0⟩
 have q0:=p0.unflat1
 have h1:(a0:Int)=1\/(a0:Int)=2\/(a0:Int)=(-1)\/(a0:Int)=0\/(a0:Int)=(b0-20)\/(a0:Int)=5:=by simpa using n0
 exact sBK q0 #[I a0] 3 fun _ _ r0=>sApp (nb:=8) r0 d0 3 (RdT.blk (enc:=Go.E.encI) (sz:=1) (xs:=[a0]) fR 1 0 rfl rfl rfl om) underlying22 (i:=Tryz.t3) kr fR fun s0 t0 u0 _ v0 w0=>jOO 6 rfl<|sAdd (i:Int) 1<|jOI 2 rfl<|⟨(i+1,o0,(zs++[a0]),s0,(g0+1),t0,u0),od,alB,((w0.pick 3 rfl).drops [1,2]),om,mem_snoc hB (by unfold numB;omega),by simp;omega,om,v0⟩
theorem tg_edge {p:Nat} {a:Option Addr} {n k:Nat} {i:Int} {xs:List Int} (hR:RdT Go.E.encI 1 [H] a n k xs) (hi:0<=i/\i<=n) (hS:Sat W w ([(p, .cells #[.slice a n k,I i] 78 (0,0))]::H::F)) (mx:Int) (hmx:0<=mx/\mx<=4294967296):
  Calls prog 59 #[Pt p 0,I mx] w fun e w'=>∃(ep:Int) (ef:Int),e= .returned (.agg #[I ep,I ef])/\(numB ep/\numB ef)/\∃i':Int,(0<=i'/\i'<=n)/\Sat W w' ([(p, .cells #[.slice a n k,I i'] 78 (0,0))]::H::F):=by
 have j0:=hR.le
 refine callsK 20 func59 rfl<|jCO 2 rfl<|sAlloc hS zeroValue49 fun _ _ g0=>jOO 5 rfl ?_
 have h0:=(g0.pick 1 rfl)
 refine cZ (tape_next (hR.fl 1) om h0.flat1 4 om) ?_
 rintro _ _ ⟨a0,rfl,_,_,_,i0⟩
 refine pu1<|sAlloc i0.unflat1 zeroValue49 fun _ _ k0=>sTk k0 0 [I a0,I 0] fun _ c0=>gOC c0 10 [0] rfl<|CE a0 3 (fun l0=>gCO c0 5 [200] rfl<|sTk c0 2 [I a0,I 0] fun _ d0=>jOR 3 rfl<|retN (vs:=[.agg #[I a0,I 0]]) rfl (.cons (.cell _ _ _ _ kr (lvA d0 2 0 [I a0,I 0] (isAgg49 _) (sizeOf49 _) rfl rfl rfl)) .nil)<|⟨a0,0,rfl,by unfold numB;omega,_,om,(d0.drops [0,1])⟩) fun l0=>?_
 have hd:=tdiv_bd (a:=mx) (b:=2) (A:=4294967296) om om
 refine jCO 4 rfl<|sQuo mx 2<|sBK c0 #[I 0,I mx,I (mx.tdiv 2)] 3 fun _ _ n0=>?_
 have o0:=(n0.pick 2 rfl)
 refine cZ (tape_pick (hR.fl 3) om o0.flat1 (RdT.flat (RdT.blk (enc:=Go.E.encI) (sz:=1) (xs:=[0,mx,(mx.tdiv 2)]) (fun _=>(by rfl)) 3 0 rfl rfl rfl om)) om om) ?_
 rintro _ _ ⟨b0,rfl,p0,_,_,q0⟩
 have r0:=q0.unflat1
 have i1:(b0:Int)=0\/(b0:Int)=mx\/(b0:Int)=(mx.tdiv 2):=by simpa using p0
 exact pu1<|sT r0 2 1 (I b0) [I b0] #[I a0,I b0] sizeOf3 fun _ e0=>gOO e0 5 [202] rfl<|sTk e0 3 [I a0,I b0] fun _ f0=>jOR 3 rfl<|retN (vs:=[.agg #[I a0,I b0]]) rfl (.cons (.cell _ _ _ _ kr (lvA f0 3 0 [I a0,I b0] (isAgg49 _) (sizeOf49 _) rfl rfl rfl)) .nil)<|⟨a0,b0,rfl,by unfold numB;omega,_,om,(f0.drops [1,1,1])⟩
theorem tg_sized {p:Nat} {a:Option Addr} {n k:Nat} {i:Int} {xs:List Int} (hR:RdT Go.E.encI 1 [H] a n k xs) (hi:0<=i/\i<=n) (hS:Sat W w ([(p, .cells #[.slice a n k,I i] 78 (0,0))]::H::F)) (w0:Int) (h0:Int) (hwh:(1<=w0/\w0<=8)/\1<=h0/\h0<=8):
  Calls prog 19 #[Pt p 0,I w0,I h0] w fun e w'=>∃(q:Plane) (G:Chunk),e= .returned (.agg (encPlane q).toArray)/\(Plane.Ok [G] q)/\(q.w=w0/\q.h=h0/\planeOK q.v=true/\planeB q)/\∃i':Int,(0<=i'/\i'<=n)/\Sat W w' ([(p, .cells #[.slice a n k,I i'] 78 (0,0))]::G::H::F):=by
 have N0:=hR.le
 have M0:=mul_bd (a:=w0) (b:=h0) (A:=8) (B:=8) om om
 refine callsK 46 func19 rfl<|jCO 2 rfl<|sAlloc hS zeroValue38 fun b2 _ y0=>jOC 2 rfl<|cutF y0 2 [0,6] (γ:=Nat×Int×(Option Addr)×Chunk×Int) (fun ⟨b7,mx,a1,c1,F0⟩ R=>⟨[(7,Pt b7 0)],[(p, .cells #[.slice a n k,I F0] 78 (0,0))]::[(b7, .cells #[I w0,I h0,I mx, .slice a1 (((w0*h0)).toNat) (((w0*h0)).toNat)] 38 (0,0))]::c1::[(b2, .cells #[I 0,I 0,I 0,nS] 38 (0,0))]::R,0,(0<=F0/\F0<=n)/\(1<=mx/\mx<=65535)/\OwnT Go.E.encI 3 1 a1 (((w0*h0)).toNat) (((w0*h0)).toNat) (List.replicate (((w0*h0)).toNat) 0) c1⟩) ?_ ?_
 rotate_left
 ·rintro ⟨b7,mx,a1,c1,F0⟩ ρ _ ⟨c2,K0,O0,J0⟩
  refine jCC 7 rfl<|loopF [0,6,7] (γ:=Nat×Int×(List Int)×SO) (fun ⟨i,G0,zs,C0,B0,D0,E0⟩ R=>⟨[(8,I (i:Int))],E0::[(p, .cells #[.slice a n k,I G0] 78 (0,0))]::[(b7, .cells #[I w0,I h0,I mx, .slice C0 B0 D0] 38 (0,0))]::R,(((w0*h0)).toNat)-i,i<=((w0*h0)).toNat/\(∀z∈zs,0<=z/\z<=mx)/\(zs.length=((w0*h0)).toNat)/\(0<=G0/\G0<=n)/\OwnT Go.E.encI 3 1 C0 B0 D0 zs E0⟩) (0,F0,(List.replicate (((w0*h0)).toNat) 0),a1,((w0*h0)).toNat,((w0*h0)).toNat,c1) ⟨(c2.pick 2 rfl),om,(by intro z hz;have:=List.eq_of_mem_replicate hz;omega),by simp,om,J0⟩ ?_
  rintro ⟨i,G0,zs,C0,B0,D0,E0⟩ ρ _ ⟨o0,hi,hB,P0,L0,A0⟩
  have I0:=A0.ll
  refine gCC o0 10 [2] rfl<|CD ((i:Int)<(B0:Int)) (fun e2=>gCO o0 8 [402] rfl<|sTk o0 3 [I w0,I h0,I mx, .slice C0 B0 D0] fun _ z0=>jOR 3 rfl<|retN (vs:=[.agg #[I w0,I h0,I mx, .slice C0 B0 D0]]) rfl (.cons (.cell _ _ _ _ kr (lvA z0 3 0 [I w0,I h0,I mx, .slice C0 B0 D0] (isAgg38 _) (sizeOf38 _) rfl rfl rfl)) .nil)<|(by have H0:planeOK ⟨w0,h0,mx,zs⟩=true:=planeOK_t (p:=⟨w0,h0,mx,zs⟩) ⟨by unfold sizeP;dsimp only;omega,by dsimp only;omega⟩ (List.all_eq_true.2 (fun z hz=>decide_eq_true (hB z hz)));exact ⟨(⟨w0,h0,mx,⟨C0,B0,D0,zs⟩⟩:Plane),E0,rfl,⟨(A0.rdAt (cs:=[E0]) 0 rfl)⟩,⟨rfl,rfl,H0,by dsimp only;omega,fun z hz=>by have:=hB z hz;unfold numB;omega⟩,_,om,((z0.pick 1 rfl).drops [2,2])⟩)) fun e2=>jCC 4 rfl ?_
  obtain ⟨g2,n7,o7,b1,h2,d1,i2⟩:=OwnT.eN A0 i
  refine drawF o0 [8,13,16,17,19] (fb 1 2 3 1<|fb 6 2 2 1<|fb 11 2 2 1<|fb 15 2 2 1<|fn) [0,2,3,4,5,9,10,14,1,6,7,11,12,15,8,13,16,17,18,19] fun _ j2=>wV 8<|wL 0<|wL 1<|wAdd mx 1<|wL 2<|wAdd mx 1<|wL 3<|wO rfl ?_
  have k2:=(j2.pick 1 rfl)
  refine cZ (tape_next (hR.fl 3) om k2.flat1 (mx+1) om) ?_
  rintro _ _ ⟨q0,rfl,_,_,_,l2⟩
  have e1:=l2.unflat1
  refine nZ e1 [2,2,2,2]<|wO rfl<|cZ (tape_next (hR.fl 3) om e1.flat1 (mx+1) om) ?_
  rintro _ _ ⟨r0,rfl,_,_,_,m2⟩
  have f1:=m2.unflat1
  refine nZ f1 [2,2,2,2]<|wO rfl<|sBK f1 #[I q0,I r0,I mx,I 0] 3 fun _ _ g1=>nZ g1 [3,3,3]<|wO rfl ?_
  have n2:=(g1.pick 1 rfl)
  refine cZ (tape_pick (hR.fl 4) om n2.flat1 (RdT.flat (RdT.blk (enc:=Go.E.encI) (sz:=1) (xs:=[q0,r0,mx,0]) (fun _=>(by rfl)) 4 0 rfl rfl rfl om)) om om) ?_
  rintro _ _ ⟨b0,rfl,o2,q2,_,r2⟩
  have h1:=r2.unflat1
  have b8:(b0:Int)=q0\/(b0:Int)=r0\/(b0:Int)=mx\/(b0:Int)=0:=by simpa using o2
  exact nZ h1 [3,3,3]<|wI d1<|wO rfl<|sStF h1 A0 i2 2 i 0 g2 b0 b1 (I b0) [I b0] sizeOf3 fun _ s2 t2 u2=>nA<|wN<|jXO 4 rfl<|sAdd (i:Int) 1<|jOI 2 rfl<|⟨(i+1,q2,(zs.set i b0),C0,B0,D0,s2),od,alB,((u2.pick 2 rfl).dropAt 2 rfl),om,mem_set hB om,by simp;omega,om,t2⟩
 refine drawG y0 [3,4,8,10,11] (fn) (pS [0,1,2,5,6,7]<| .f3 3 8 10 (.f3 4 8 10 (.fk 8 10 (pS [9]<| .ef 10<| .ef 11<| .fin) (.ef 8<|pS [9]<| .ef 11<| .fin)) (.fk 4 10 (pS [9]<| .ef 10<| .ef 11<| .fin) (.ef 4<|pS [9]<| .ef 11<| .fin)) (.fk 4 8 (.ef 8<|pS [9]<| .ef 11<| .fin) (.ef 4<|pS [9]<| .ef 11<| .fin))) (.fk 3 10 (.fk 4 10 (pS [9]<| .ef 10<| .ef 11<| .fin) (.ef 4<|pS [9]<| .ef 11<| .fin)) (.ef 3<| .ef 4<|pS [9]<| .ef 11<| .fin)) (.fk 3 8 (.fk 4 8 (.ef 8<|pS [9]<| .ef 11<| .fin) (.ef 4<|pS [9]<| .ef 11<| .fin)) (.ef 3<| .ef 4<|pS [9]<| .ef 11<| .fin))) fun _ s0=>qV 5<|qMul w0 h0<|qF3 ?_ ?_ ?_
 ·refine qO rfl<|sBK s0 #[I 255,I 255,I 65535,I 1,I 7] 3 fun _ _ t0=>nA<|qF3 ?_ ?_ ?_
  ·refine qO rfl ?_
   have w2:=(t0.pick 2 rfl)
   refine cZ (tape_pick (hR.fl 2) om w2.flat1 (RdT.flat (RdT.blk (enc:=Go.E.encI) (sz:=1) (xs:=[255,255,65535,1,7]) (fun _=>(by rfl)) 5 0 rfl rfl rfl om)) om om) ?_
   rintro _ _ ⟨a0,rfl,x2,i1,_,y2⟩
   have j1:=y2.unflat1
   have h8:(a0:Int)=255\/(a0:Int)=255\/(a0:Int)=65535\/(a0:Int)=1\/(a0:Int)=7:=by simpa using x2
   refine nA<|qF ?_ ?_
   ·exact qO rfl<|sMake (kl:= .i64) (kc:= .i64) (enc:=Go.E.encI) (sz:=1) (nb:=8) j1 0 ((w0*h0)).toNat (w0*h0) (om:(w0*h0)=((((w0*h0)).toNat:Nat):Int)) underlying22 (i:=Tryz.t3) kr fR fun k1 z2 _ a3 b3=>nA<|qV 1<|qO rfl<|sAlloc b3 zeroValue38 fun c3 _ d3=>nA<|qO rfl<|sTk d3 0 [I w0,I h0,I a0, .slice (At k1 0) (((w0*h0)).toNat) (((w0*h0)).toNat)] fun _ e3=>nA<|qN<|jXI 0 rfl<|⟨(c3,a0,(At k1 0),z2,i1),alB,((e3.pick 2 rfl).dropAt 3 rfl),om,om,a3⟩
   exact qO rfl<|sAlloc j1 zeroValue38 fun h3 _ i3=>nA<|qO rfl<|sMake (kl:= .i64) (kc:= .i64) (enc:=Go.E.encI) (sz:=1) (nb:=8) i3 0 ((w0*h0)).toNat (w0*h0) (om:(w0*h0)=((((w0*h0)).toNat:Nat):Int)) underlying22 (i:=Tryz.t3) kr fR fun l1 j3 _ k3 l3=>nA<|qV 1<|qO rfl<|sTk l3 1 [I w0,I h0,I a0, .slice (At l1 0) (((w0*h0)).toNat) (((w0*h0)).toNat)] fun _ m3=>nA<|qN<|jXI 0 rfl<|⟨(h3,a0,(At l1 0),j3,i1),alB,((m3.picks [1,2]).dropAt 3 rfl),om,om,k3⟩
  ·refine qO rfl<|sMake (kl:= .i64) (kc:= .i64) (enc:=Go.E.encI) (sz:=1) (nb:=8) t0 0 ((w0*h0)).toNat (w0*h0) (om:(w0*h0)=((((w0*h0)).toNat:Nat):Int)) underlying22 (i:=Tryz.t3) kr fR fun p0 m1 _ n1 o1=>nA<|qF ?_ ?_
   rotate_left
   · exact qO rfl<|sAlloc o1 zeroValue38 fun o3 _ p3=>nA<|qO rfl<|(by have q3:=(p3.pick 4 rfl);refine cZ (tape_pick (hR.fl 4) om q3.flat1 (RdT.flat (RdT.blk (enc:=Go.E.encI) (sz:=1) (xs:=[255,255,65535,1,7]) (fun _=>(by rfl)) 5 2 rfl rfl rfl om)) om om) ?_;rintro _ _ ⟨c0,rfl,r3,s3,_,u3⟩;have v3:=u3.unflat1;have s8:(c0:Int)=255\/(c0:Int)=255\/(c0:Int)=65535\/(c0:Int)=1\/(c0:Int)=7:=(by simpa using r3);exact nA<|qV 1<|qO rfl<|sTk v3 1 [I w0,I h0,I c0, .slice (At p0 0) (((w0*h0)).toNat) (((w0*h0)).toNat)] fun _ w3=>nA<|qN<|jXI 0 rfl<|⟨(o3,c0,(At p0 0),m1,s3),alB,(w3.dropAt 3 rfl),om,om,n1⟩)
   refine qO rfl ?_
   have y3:=(o1.pick 3 rfl)
   refine cZ (tape_pick (hR.fl 3) om y3.flat1 (RdT.flat (RdT.blk (enc:=Go.E.encI) (sz:=1) (xs:=[255,255,65535,1,7]) (fun _=>(by rfl)) 5 1 rfl rfl rfl om)) om om) ?_
   rintro _ _ ⟨d0,rfl,z3,a4,_,b4⟩
   have c4:=b4.unflat1
   have w8:(d0:Int)=255\/(d0:Int)=255\/(d0:Int)=65535\/(d0:Int)=1\/(d0:Int)=7:=by simpa using z3
   exact nA<|qV 1<|qO rfl<|sAlloc c4 zeroValue38 fun d4 _ e4=>nA<|qO rfl<|sTk e4 0 [I w0,I h0,I d0, .slice (At p0 0) (((w0*h0)).toNat) (((w0*h0)).toNat)] fun _ f4=>nA<|qN<|jXI 0 rfl<|⟨(d4,d0,(At p0 0),m1,a4),alB,((f4.pick 1 rfl).dropAt 3 rfl),om,om,n1⟩
  refine qO rfl<|sAlloc t0 zeroValue38 fun q1 _ r1=>nA<|qF ?_ ?_
  · exact qO rfl<|(by have h4:=(r1.pick 3 rfl);refine cZ (tape_pick (hR.fl 3) om h4.flat1 (RdT.flat (RdT.blk (enc:=Go.E.encI) (sz:=1) (xs:=[255,255,65535,1,7]) (fun _=>(by rfl)) 5 1 rfl rfl rfl om)) om om) ?_;rintro _ _ ⟨e0,rfl,i4,j4,_,k4⟩;have l4:=k4.unflat1;have c9:(e0:Int)=255\/(e0:Int)=255\/(e0:Int)=65535\/(e0:Int)=1\/(e0:Int)=7:=(by simpa using i4);exact nA<|qO rfl<|sMake (kl:= .i64) (kc:= .i64) (enc:=Go.E.encI) (sz:=1) (nb:=8) l4 0 ((w0*h0)).toNat (w0*h0) (om:(w0*h0)=((((w0*h0)).toNat:Nat):Int)) underlying22 (i:=Tryz.t3) kr fR fun s1 m4 _ n4 o4=>nA<|qV 1<|qO rfl<|sTk o4 2 [I w0,I h0,I e0, .slice (At s1 0) (((w0*h0)).toNat) (((w0*h0)).toNat)] fun _ p4=>nA<|qN<|jXI 0 rfl<|⟨(q1,e0,(At s1 0),m4,j4),alB,((p4.picks [2,2]).dropAt 3 rfl),om,om,n4⟩)
  refine qO rfl<|sMake (kl:= .i64) (kc:= .i64) (enc:=Go.E.encI) (sz:=1) (nb:=8) r1 0 ((w0*h0)).toNat (w0*h0) (om:(w0*h0)=((((w0*h0)).toNat:Nat):Int)) underlying22 (i:=Tryz.t3) kr fR fun t1 r4 _ s4 t4=>nA<|qO rfl ?_
  have u4:=(t4.pick 4 rfl)
  refine cZ (tape_pick (hR.fl 4) om u4.flat1 (RdT.flat (RdT.blk (enc:=Go.E.encI) (sz:=1) (xs:=[255,255,65535,1,7]) (fun _=>(by rfl)) 5 2 rfl rfl rfl om)) om om) ?_
  rintro _ _ ⟨f0,rfl,v4,w4,_,x4⟩
  have y4:=x4.unflat1
  have i9:(f0:Int)=255\/(f0:Int)=255\/(f0:Int)=65535\/(f0:Int)=1\/(f0:Int)=7:=by simpa using v4
  exact nA<|qV 1<|qO rfl<|sTk y4 2 [I w0,I h0,I f0, .slice (At t1 0) (((w0*h0)).toNat) (((w0*h0)).toNat)] fun _ z4=>nA<|qN<|jXI 0 rfl<|⟨(q1,f0,(At t1 0),r4,w4),alB,((z4.picks [2,1]).dropAt 3 rfl),om,om,s4⟩
 ·refine qO rfl<|sMake (kl:= .i64) (kc:= .i64) (enc:=Go.E.encI) (sz:=1) (nb:=8) s0 0 ((w0*h0)).toNat (w0*h0) (om:(w0*h0)=((((w0*h0)).toNat:Nat):Int)) underlying22 (i:=Tryz.t3) kr fR fun n0 u0 _ v0 u1=>nA<|qF ?_ ?_
  rotate_left
  · exact qO rfl<|sAlloc u1 zeroValue38 fun b5 _ c5=>nA<|qO rfl<|sBK c5 #[I 255,I 255,I 65535,I 1,I 7] 3 fun _ _ d5=>nA<|qO rfl<|(by have e5:=(d5.pick 4 rfl);refine cZ (tape_pick (hR.fl 4) om e5.flat1 (RdT.flat (RdT.blk (enc:=Go.E.encI) (sz:=1) (xs:=[255,255,65535,1,7]) (fun _=>(by rfl)) 5 0 rfl rfl rfl om)) om om) ?_;rintro _ _ ⟨g0,rfl,f5,g5,_,h5⟩;have i5:=h5.unflat1;have q9:(g0:Int)=255\/(g0:Int)=255\/(g0:Int)=65535\/(g0:Int)=1\/(g0:Int)=7:=(by simpa using f5);exact nA<|qV 1<|qO rfl<|sTk i5 2 [I w0,I h0,I g0, .slice (At n0 0) (((w0*h0)).toNat) (((w0*h0)).toNat)] fun _ j5=>nA<|qN<|jXI 0 rfl<|⟨(b5,g0,(At n0 0),u0,g5),alB,(j5.dropAt 1 rfl),om,om,v0⟩)
  refine qO rfl<|sBK u1 #[I 255,I 255,I 65535,I 1,I 7] 3 fun _ _ v1=>nA<|qF ?_ ?_
  rotate_left
  · exact qO rfl<|sAlloc v1 zeroValue38 fun l5 _ m5=>nA<|qO rfl<|(by have n5:=(m5.pick 4 rfl);refine cZ (tape_pick (hR.fl 4) om n5.flat1 (RdT.flat (RdT.blk (enc:=Go.E.encI) (sz:=1) (xs:=[255,255,65535,1,7]) (fun _=>(by rfl)) 5 1 rfl rfl rfl om)) om om) ?_;rintro _ _ ⟨i0,rfl,o5,p5,_,q5⟩;have r5:=q5.unflat1;have x9:(i0:Int)=255\/(i0:Int)=255\/(i0:Int)=65535\/(i0:Int)=1\/(i0:Int)=7:=(by simpa using o5);exact nA<|qV 1<|qO rfl<|sTk r5 1 [I w0,I h0,I i0, .slice (At n0 0) (((w0*h0)).toNat) (((w0*h0)).toNat)] fun _ s5=>nA<|qN<|jXI 0 rfl<|⟨(l5,i0,(At n0 0),u0,p5),alB,(s5.dropAt 2 rfl),om,om,v0⟩)
  refine qO rfl ?_
  have u5:=(v1.pick 3 rfl)
  refine cZ (tape_pick (hR.fl 3) om u5.flat1 (RdT.flat (RdT.blk (enc:=Go.E.encI) (sz:=1) (xs:=[255,255,65535,1,7]) (fun _=>(by rfl)) 5 0 rfl rfl rfl om)) om om) ?_
  rintro _ _ ⟨j0,rfl,v5,w5,_,x5⟩
  have y5:=x5.unflat1
  have ba:(j0:Int)=255\/(j0:Int)=255\/(j0:Int)=65535\/(j0:Int)=1\/(j0:Int)=7:=by simpa using v5
  exact nA<|qV 1<|qO rfl<|sAlloc y5 zeroValue38 fun z5 _ a6=>nA<|qO rfl<|sTk a6 0 [I w0,I h0,I j0, .slice (At n0 0) (((w0*h0)).toNat) (((w0*h0)).toNat)] fun _ b6=>nA<|qN<|jXI 0 rfl<|⟨(z5,j0,(At n0 0),u0,w5),alB,((b6.pick 1 rfl).dropAt 2 rfl),om,om,v0⟩
 refine qO rfl<|sAlloc s0 zeroValue38 fun x0 _ w1=>nA<|qF ?_ ?_
 rotate_left
 · exact qO rfl<|sMake (kl:= .i64) (kc:= .i64) (enc:=Go.E.encI) (sz:=1) (nb:=8) w1 0 ((w0*h0)).toNat (w0*h0) (om:(w0*h0)=((((w0*h0)).toNat:Nat):Int)) underlying22 (i:=Tryz.t3) kr fR fun x1 d6 _ e6 f6=>nA<|qO rfl<|sBK f6 #[I 255,I 255,I 65535,I 1,I 7] 3 fun _ _ g6=>nA<|qO rfl<|(by have h6:=(g6.pick 4 rfl);refine cZ (tape_pick (hR.fl 4) om h6.flat1 (RdT.flat (RdT.blk (enc:=Go.E.encI) (sz:=1) (xs:=[255,255,65535,1,7]) (fun _=>(by rfl)) 5 0 rfl rfl rfl om)) om om) ?_;rintro _ _ ⟨k0,rfl,i6,j6,_,k6⟩;have l6:=k6.unflat1;have ka:(k0:Int)=255\/(k0:Int)=255\/(k0:Int)=65535\/(k0:Int)=1\/(k0:Int)=7:=(by simpa using i6);exact nA<|qV 1<|qO rfl<|sTk l6 3 [I w0,I h0,I k0, .slice (At x1 0) (((w0*h0)).toNat) (((w0*h0)).toNat)] fun _ m6=>nA<|qN<|jXI 0 rfl<|⟨(x0,k0,(At x1 0),d6,j6),alB,((m6.picks [3,1]).dropAt 2 rfl),om,om,e6⟩)
 refine qO rfl<|sBK w1 #[I 255,I 255,I 65535,I 1,I 7] 3 fun _ _ y1=>nA<|qF ?_ ?_
 rotate_left
 · exact qO rfl<|sMake (kl:= .i64) (kc:= .i64) (enc:=Go.E.encI) (sz:=1) (nb:=8) y1 0 ((w0*h0)).toNat (w0*h0) (om:(w0*h0)=((((w0*h0)).toNat:Nat):Int)) underlying22 (i:=Tryz.t3) kr fR fun z1 o6 _ p6 q6=>nA<|qO rfl<|(by have r6:=(q6.pick 4 rfl);refine cZ (tape_pick (hR.fl 4) om r6.flat1 (RdT.flat (RdT.blk (enc:=Go.E.encI) (sz:=1) (xs:=[255,255,65535,1,7]) (fun _=>(by rfl)) 5 1 rfl rfl rfl om)) om om) ?_;rintro _ _ ⟨l0,rfl,s6,t6,_,u6⟩;have v6:=u6.unflat1;have ra:(l0:Int)=255\/(l0:Int)=255\/(l0:Int)=65535\/(l0:Int)=1\/(l0:Int)=7:=(by simpa using s6);exact nA<|qV 1<|qO rfl<|sTk v6 3 [I w0,I h0,I l0, .slice (At z1 0) (((w0*h0)).toNat) (((w0*h0)).toNat)] fun _ w6=>nA<|qN<|jXI 0 rfl<|⟨(x0,l0,(At z1 0),o6,t6),alB,((w6.picks [3,1]).dropAt 3 rfl),om,om,p6⟩)
 refine qO rfl ?_
 have y6:=(y1.pick 3 rfl)
 refine cZ (tape_pick (hR.fl 3) om y6.flat1 (RdT.flat (RdT.blk (enc:=Go.E.encI) (sz:=1) (xs:=[255,255,65535,1,7]) (fun _=>(by rfl)) 5 0 rfl rfl rfl om)) om om) ?_
 rintro _ _ ⟨m0,rfl,z6,a7,_,c7⟩
 have d7:=c7.unflat1
 have va:(m0:Int)=255\/(m0:Int)=255\/(m0:Int)=65535\/(m0:Int)=1\/(m0:Int)=7:=by simpa using z6
 exact nA<|qO rfl<|sMake (kl:= .i64) (kc:= .i64) (enc:=Go.E.encI) (sz:=1) (nb:=8) d7 0 ((w0*h0)).toNat (w0*h0) (om:(w0*h0)=((((w0*h0)).toNat:Nat):Int)) underlying22 (i:=Tryz.t3) kr fR fun a2 e7 _ f7 g7=>nA<|qV 1<|qO rfl<|sTk g7 3 [I w0,I h0,I m0, .slice (At a2 0) (((w0*h0)).toNat) (((w0*h0)).toNat)] fun _ h7=>nA<|qN<|jXI 0 rfl<|⟨(x0,m0,(At a2 0),e7,a7),alB,((h7.picks [3,2]).dropAt 3 rfl),om,om,f7⟩
theorem tg_plane {p:Nat} {a:Option Addr} {n k:Nat} {i:Int} {xs:List Int} (hR:RdT Go.E.encI 1 [H] a n k xs) (hi:0<=i/\i<=n) (hS:Sat W w ([(p, .cells #[.slice a n k,I i] 78 (0,0))]::H::F)):
  Calls prog 18 #[Pt p 0] w fun e w'=>∃(q:Plane) (G:Chunk),e= .returned (.agg (encPlane q).toArray)/\(Plane.Ok [G] q)/\((1<=q.w/\q.w<=6)/\(1<=q.h/\q.h<=5)/\planeOK q.v=true/\planeB q)/\∃i':Int,(0<=i'/\i'<=n)/\Sat W w' ([(p, .cells #[.slice a n k,I i'] 78 (0,0))]::G::H::F):=by
 have o0:=hR.le
 refine callsK 11 func18 rfl<|jCO 2 rfl<|sAlloc hS zeroValue38 fun _ _ f0=>jOO 6 rfl ?_
 have g0:=(f0.pick 1 rfl)
 refine cZ (tape_next (hR.fl 1) om g0.flat1 6 om) ?_
 rintro _ _ ⟨c0,rfl,_,_,_,h0⟩
 have i0:=h0.unflat1
 refine sAdd 1 c0<|pu1<|cZ (tape_next (hR.fl 1) om i0.flat1 5 om) ?_
 rintro _ _ ⟨d0,rfl,_,_,_,j0⟩
 have k0:=j0.unflat1
 refine sAdd 1 d0<|cZ (tg_sized (hR.fl 1) om k0.flat1 (1+c0) (1+d0) om) ?_
 rintro _ _ ⟨a0,l0,rfl,m0,b0,_,_,n0⟩
 exact sTk (Sat.unflat2 n0) 2 (encPlane a0) fun _ e0=>jOR 3 rfl<|retN (vs:=[.agg (encPlane a0).toArray]) rfl (.cons (.cell _ _ _ _ kr (lvA e0 2 0 (encPlane a0) (isAgg38 _) (sizeOf38 _) rfl rfl rfl)) .nil)<|⟨a0,l0,rfl,m0,⟨by have h:=b0.1;omega,by have h:=b0.2.1;omega,b0.2.2⟩,_,om,(e0.dropAt 2 rfl)⟩
theorem tg_table {p:Nat} {a:Option Addr} {n k:Nat} {i:Int} {xs:List Int} (hR:RdT Go.E.encI 1 [H] a n k xs) (hi:0<=i/\i<=n) (hS:Sat W w ([(p, .cells #[.slice a n k,I i] 78 (0,0))]::H::F)) (n0:Int) (hn0:1<=n0/\n0<=128):
  Calls prog 61 #[Pt p 0,I n0] w fun e w'=>∃(az:Option Addr) (nz:Nat) (kz:Nat) (zs:List Tap) (G:Chunk),e= .returned (.slice az nz kz)/\(RdT encTap 2 [G] az nz kz zs)/\(∀z∈zs,Tap.Ok [G] z)/\(zs.length<=6/\∀z∈zs,tapB z)/\∃i':Int,(0<=i'/\i'<=n)/\Sat W w' ([(p, .cells #[.slice a n k,I i'] 78 (0,0))]::G::H::F):=by
 have O0:=hR.le
 refine callsK 57 func61 rfl<|jCO 8 rfl<|cZ (tape_next (hR.fl 0) om hS.flat1 6 om) ?_
 rintro _ _ ⟨a0,rfl,_,_,_,h1⟩
 have i1:=h1.unflat1
 refine sAdd 1 a0<|jOO 7 rfl<|sF #[I n0,I (1+a0),I 8] call98 (Calls.mono (r8_linear W _ _ [] n0 (1+a0) 8 i1.flat) ?_)
 rintro _ _ ⟨q0,b0,r0,s0,_,e0,f0,rfl,g0,t0,h0,u0⟩
 refine ⟨_,rfl,?_⟩
 have j1:=u0.unflat2;clear u0
 have J0:=g0.ll
 refine jOO 11 rfl ?_
 have k1:=(j1.pick 2 rfl)
 refine cZ (tape_next (hR.fl 2) om k1.flat1 2 om) ?_
 rintro _ _ ⟨l1,rfl,_,c0,_,m1⟩
 have v0:=m1.unflat1
 refine jOC 3 rfl<|cE l1 0 (fun n1=>(by refine jCO 5 rfl<|sF #[I n0,I (1+a0),I 8] call99 (Calls.mono (r8_box W _ _ [] n0 (1+a0) 8 v0.flat) ?_);rintro _ _ ⟨o1,q1,r1,s1,t1,l0,m0,rfl,o0,u1,w0,x0⟩;exact ⟨_,rfl,(by have y0:=x0.unflat2;clear x0;have K0:=o0.len;have I0:=o0.le;exact jOC 13 rfl<|CE t1 0 (fun v1=>jCR 10 rfl<|retT [.slice q0 b0 r0]<|(by have w1:=(y0.drops [0,0]);have x1:Sat W _ ([(p, .cells #[.slice a n k,I c0] 78 (0,0))]::(f0++e0)::H::F):=Sat.perm (show Sat W _ ([(p, .cells #[.slice a n k,I c0] 78 (0,0))]::f0::e0::H::F) from w1) (by simp [Value.cells]);exact ⟨_,_,_,s0,(f0++e0),rfl,(g0.rd (fun p hp=>by simp [hp])),(fun z hz=>(t0 z hz).of_mem mS),⟨by have h:=h0.1;omega,h0.2⟩,_,om,x1⟩)) fun v1=>jCR 9 rfl<|retT [.slice o1 q1 r1]<|(by have y1:=((y0.pick 2 rfl).drops [3,3]);have z1:Sat W _ ([(p, .cells #[.slice a n k,I c0] 78 (0,0))]::(m0++l0)::H::F):=Sat.perm (show Sat W _ ([(p, .cells #[.slice a n k,I c0] 78 (0,0))]::m0::l0::H::F) from y1) (by simp [Value.cells]);exact ⟨_,_,_,s1,(m0++l0),rfl,(o0.rd (fun p hp=>by simp [hp])),(fun z hz=>(u1 z hz).of_mem mS),⟨by have h:=w0.1;omega,w0.2⟩,_,om,z1⟩))⟩)) fun n1=>?_
 refine jCC 9 rfl ?_
 have a2:=(v0.pick 2 rfl)
 refine loopF [0,1] (γ:=Nat×Int×(List Tap)×(Option Addr)×Nat×Nat×Chunk×Chunk) (fun ⟨i,G0,zs,F0,E0,H0,C0,B0⟩ R=>⟨[(10,I (i:Int)),(6, .slice F0 E0 H0)],B0::C0::[(p, .cells #[.slice a n k,I G0] 78 (0,0))]::R,b0-i,i<=b0/\(∀z∈zs,tapB z)/\(zs.length=b0)/\(zs.length<=6)/\(0<=G0/\G0<=n)/\OwnT encTap 121 2 F0 E0 H0 zs C0/\(∀z∈zs,Tap.Ok [B0] z)⟩) (0,c0,s0,q0,b0,r0,e0,f0) ⟨(a2.pick 2 rfl),om,h0.2,om,by have h:=h0.1;omega,om,g0,t0⟩ ?_
 rintro ⟨i,G0,zs,F0,E0,H0,C0,B0⟩ ρ _ ⟨z0,hi,hB,Q0,P0,N0,A0,D0⟩
 have M0:=A0.ll
 refine jCC 9 rfl<|CD ((i:Int)<(E0:Int)) (fun c2=>jCR 12 rfl<|retT [.slice F0 E0 H0]<|(by have d2:=(z0.pick 2 rfl);have e2:Sat W _ ([(p, .cells #[.slice a n k,I G0] 78 (0,0))]::(B0++C0)::H::F):=Sat.perm (show Sat W _ ([(p, .cells #[.slice a n k,I G0] 78 (0,0))]::B0::C0::H::F) from d2) (by simp [Value.cells]);exact ⟨_,_,_,zs,(B0++C0),rfl,(A0.rd (fun p hp=>by simp [hp])),(fun z hz=>(D0 z hz).of_mem mS),⟨om,hB⟩,_,om,e2⟩)) fun c2=>jCO 7 rfl ?_
 have f2:=(z0.pick 2 rfl)
 refine cZ (tape_next (hR.fl 2) om f2.flat1 4 om) ?_
 rintro _ _ ⟨g2,rfl,_,h2,_,i2⟩
 have a1:=i2.unflat1
 refine jOC 3 rfl<|CE g2 0 (fun j2=>jCO 5 rfl<|sAdd (i:Int) 1<|jOI 2 rfl<|⟨(i+1,h2,zs,F0,E0,H0,C0,B0),od,alB,(a1.picks [2,2]),om,hB,by first|omega|(simp;omega),by first|omega|(simp;omega),om,A0,D0⟩) fun j2=>jCO 5 rfl<|sAdd n0 6<|cZ (tape_next (hR.fl 2) om a1.flat1 (n0+6) om) ?_
 rintro _ _ ⟨d0,rfl,_,_,_,l2⟩
 have m2:=l2.unflat1
 refine sSub d0 4<|pu2<|cZ (tape_next (hR.fl 2) om m2.flat1 4 om) ?_
 rintro _ _ ⟨b1,rfl,_,_,_,n2⟩
 have o2:=n2.unflat1
 refine sAdd 1 b1<|cZ (tg_weights (hR.fl 2) om o2.flat1 (1+b1) om) ?_
 rintro _ _ ⟨i0,j0,k0,c1,d1,rfl,p0,e1,f1,_,q2⟩
 have r2:=q2.unflat2
 have L0:=p0.ll
 exact pu1<|sIO A0 (i:Int) i fun s2 _ _ t2 _ u2=>sStF r2 A0 u2 3 i 0 s2 (⟨(d0-4),⟨i0,j0,k0,c1⟩⟩:Tap) t2 (.agg #[I (d0-4), .slice i0 j0 k0]) [I (d0-4), .slice i0 j0 k0] sizeOf121 fun _ g1 v2 w2=>jOO 5 rfl<|sAdd (i:Int) 1<|jOI 2 rfl<|(by have x2:=(w2.picks [3,3,3]);exact ⟨(i+1,f1,(zs.set i (⟨(d0-4),⟨i0,j0,k0,c1⟩⟩:Tap)),F0,E0,H0,g1,(d1++B0)),od,alB,(Sat.perm (cs':=(d1++B0)::(g1::[(p, .cells #[.slice a n k,I f1] 78 (0,0))]::H::F)) x2 (by simp)),om,mem_set hB ⟨by unfold numB;dsimp only;omega,by have h:=e1.1;dsimp only;omega,e1.2⟩,by first|omega|(simp;omega),by first|omega|(simp;omega),om,v2,(mem_set (fun z hz=>(D0 z hz).of_mem mS) ⟨p0.of_mem mS⟩)⟩)
def opB (o:POp):Prop:=numB o.code/\numB o.arg
theorem tg_ops {p:Nat} {a:Option Addr} {n k:Nat} {i:Int} {xs:List Int} (hR:RdT Go.E.encI 1 [H] a n k xs) (hi:0<=i/\i<=n) (hS:Sat W w ([(p, .cells #[.slice a n k,I i] 78 (0,0))]::H::F)) (two:Bool):
  Calls prog 62 #[Pt p 0, .bool two] w fun e w'=>∃(az:Option Addr) (nz:Nat) (kz:Nat) (zs:List POp) (G:Chunk),e= .returned (.slice az nz kz)/\(RdT encPOp 2 [G] az nz kz zs)/\(zs.length<=9/\∀z∈zs,opB z)/\∃i':Int,(0<=i'/\i'<=n)/\Sat W w' ([(p, .cells #[.slice a n k,I i'] 78 (0,0))]::G::H::F):=by
 have J0:=hR.le
 refine callsK 55 func62 rfl<|jCO 8 rfl<|sBK hS #[I 0,I 0] 75 fun d0 _ f0=>jOC 3 rfl<|cutF f0 2 [0] (γ:=(Option Addr)×Nat×Nat×(List POp)×Chunk×Int) (fun ⟨a1,n1,k1,z1,c1,B0⟩ R=>⟨[(5, .slice a1 n1 k1)],[(p, .cells #[.slice a n k,I B0] 78 (0,0))]::c1::R,0,(0<=B0/\B0<=n)/\OwnT encPOp 75 2 a1 n1 k1 z1 c1/\(z1.length<=3/\∀z∈z1,opB z)⟩) ?_ ?_
 ·refine jCC 5 rfl<|CB two (fun k0=>jCI 1 rfl<|⟨((At d0 0),1,1,[(⟨0,0⟩:POp)],[(d0, .cells #[I 0,I 0] 75 (0,0))],i),alB,(f0.pick 1 rfl),om,(OwnT.blk (enc:=encPOp) (sz:=2) (b:=d0) (c:=#[I 0,I 0]) (E:=75) (xs:=[(⟨0,0⟩:POp)]) fR 1 rfl rfl rfl om),⟨by simp,(by intro z hz;simp at hz;subst hz;(unfold opB numB;dsimp only;omega))⟩⟩) fun k0=>jCO 4 rfl<|sBK f0 #[I 3,I 4,I 5,I 6,I 7,I 8,I 9] 3 fun _ _ n0=>?_
  have o0:=(n0.pick 2 rfl)
  refine cZ (tape_pick (hR.fl 2) om o0.flat1 (RdT.flat (RdT.blk (enc:=Go.E.encI) (sz:=1) (xs:=[3,4,5,6,7,8,9]) (fun _=>(by rfl)) 7 0 rfl rfl rfl om)) om om) ?_
  rintro _ _ ⟨a0,rfl,p0,q0,_,r0⟩
  have s0:=r0.unflat1
  have l3:(a0:Int)=3\/(a0:Int)=4\/(a0:Int)=5\/(a0:Int)=6\/(a0:Int)=7\/(a0:Int)=8\/(a0:Int)=9:=by simpa using p0
  exact pu1<|sBK s0 #[I 1,I 0,I a0,I 0] 75 fun _ _ t0=>sApp (nb:=16) t0 (OwnT.blk (enc:=encPOp) (sz:=2) (b:=d0) (c:=#[I 0,I 0]) (E:=75) (xs:=[(⟨0,0⟩:POp)]) fR 1 rfl rfl rfl om) 3 (RdT.blk (enc:=encPOp) (sz:=2) (xs:=[(⟨1,0⟩:POp),(⟨a0,0⟩:POp)]) fR 2 0 rfl rfl rfl om) underlying51 (i:=Tryz.t75) kr fR fun v0 w0 x0 _ y0 z0=>jOI 2 rfl<|⟨(v0,(1+2),w0,([(⟨0,0⟩:POp)]++[(⟨1,0⟩:POp),(⟨a0,0⟩:POp)]),x0,q0),alB,(z0.drops [0,1]),om,y0,⟨by simp,(by intro z hz;simp at hz;rcases hz with rfl|rfl|rfl<;>(unfold opB numB;dsimp only;omega))⟩⟩
 rintro ⟨a1,n1,k1,z1,c1,B0⟩ ρ _ ⟨d1,G0,F0,I0⟩
 refine jCO 4 rfl<|cZ (tape_next (hR.fl 1) om d1.flat1 4 om) ?_
 rintro _ _ ⟨e1,rfl,_,f1,_,g1⟩
 have h1:=g1.unflat1
 refine jOC 4 rfl<|loopF [0] (γ:=Nat×Int×Int×(List POp)×SO) (fun ⟨u,j,C0,zs,A0,m0,D0,u0⟩ R=>⟨[(6,I j),(5, .slice A0 m0 D0)],u0::[(p, .cells #[.slice a n k,I C0] 78 (0,0))]::R,3-u,u<=3/\(∀z∈zs,opB z)/\(zs.length<=3+2*u)/\((u:Int)+j<=3)/\(0<=C0/\C0<=n)/\OwnT encPOp 75 2 A0 m0 D0 zs u0⟩) (0,e1,f1,z1,a1,n1,k1,c1) ⟨(h1.pick 1 rfl),om,I0.2,om,om,om,F0⟩ ?_
 rintro ⟨u,j,C0,zs,A0,m0,D0,u0⟩ ρ _ ⟨i0,hu,hB,K0,hj,H0,l0⟩
 have E0:=l0.ll
 refine jCC 7 rfl<|CD (j>0) (fun j1=>jCR 12 rfl<|retT [.slice A0 m0 D0]<|⟨_,_,_,zs,u0,rfl,(l0.rdAt (cs:=[u0]) 0 rfl),⟨om,hB⟩,_,om,(i0.pick 1 rfl)⟩) fun j1=>jCO 7 rfl ?_
 have m1:=(i0.pick 1 rfl)
 refine cZ (tape_next (hR.fl 1) om m1.flat1 3 om) ?_
 rintro _ _ ⟨j0,rfl,_,o1,_,q1⟩
 have g0:=q1.unflat1
 refine jOC 9 rfl<|cE j0 0 (fun r1=>?_) (fun r1=>?_)
 rotate_left
 ·refine jCC 6 rfl<|cE j0 1 (fun s1=>?_) (fun s1=>?_)
  rotate_left
  ·exact jCO 3 rfl<|sBK g0 #[I 11,I 0] 75 fun _ _ t1=>sApp (nb:=16) t1 l0 2 (RdT.blk (enc:=encPOp) (sz:=2) (xs:=[(⟨11,0⟩:POp)]) fR 1 0 rfl rfl rfl om) underlying51 (i:=Tryz.t75) kr fR fun u1 v1 w1 _ x1 y1=>jOO 7 rfl<|sSub j 1<|jOI 2 rfl<|⟨(u+1,(j-1),o1,(zs++[(⟨11,0⟩:POp)]),u1,(m0+1),v1,w1),od,alB,((y1.pick 2 rfl).dropAt 1 rfl),om,(by
     intro z hz
     rcases List.mem_append.1 hz with h|h
     ·exact hB z h
     ·simp only [List.mem_cons,List.not_mem_nil,or_false] at h
      subst h;(unfold opB numB;dsimp only;omega)),by simp;omega,om,om,x1⟩
  refine jCO 3 rfl<|cZ (tape_next (hR.fl 1) om g0.flat1 4 om) ?_
  rintro _ _ ⟨h0,rfl,_,b2,_,c2⟩
  exact pu1<|sBK c2.unflat1 #[I 10,I h0] 75 fun _ _ e2=>sApp (nb:=16) e2 l0 2 (RdT.blk (enc:=encPOp) (sz:=2) (xs:=[(⟨10,h0⟩:POp)]) fR 1 0 rfl rfl rfl om) underlying51 (i:=Tryz.t75) kr fR fun f2 g2 h2 _ i2 j2=>jOO 7 rfl<|sSub j 1<|jOI 2 rfl<|⟨(u+1,(j-1),b2,(zs++[(⟨10,h0⟩:POp)]),f2,(m0+1),g2,h2),od,alB,((j2.pick 2 rfl).dropAt 1 rfl),om,(by
    intro z hz
    rcases List.mem_append.1 hz with h|h
    ·exact hB z h
    ·simp only [List.mem_cons,List.not_mem_nil,or_false] at h
     subst h;(unfold opB numB;dsimp only;omega)),by simp;omega,om,om,i2⟩
 refine jCO 4 rfl<|cZ (tape_next (hR.fl 1) om g0.flat1 300 om) ?_
 rintro _ _ ⟨e0,rfl,_,_,_,l2⟩
 refine sSub e0 100<|sBK l2.unflat1 #[I (e0-100),I 0,I 3,I (-2)] 3 fun _ _ n2=>?_
 have o2:=(n2.pick 1 rfl)
 refine cZ (tape_pick (hR.fl 2) om o2.flat1 (RdT.flat (RdT.blk (enc:=Go.E.encI) (sz:=1) (xs:=[(e0-100),0,3,-2]) (fun _=>(by rfl)) 4 0 rfl rfl rfl om)) om om) ?_
 rintro _ _ ⟨c0,rfl,q2,_,_,r2⟩
 have s2:=r2.unflat1
 have p4:(c0:Int)=(e0-100)\/(c0:Int)=0\/(c0:Int)=3\/(c0:Int)=(-2):=by simpa using q2
 refine pu2<|sBK s2 #[I 3,I 4,I 5,I 6,I 7,I 8,I 9] 3 fun _ _ t2=>?_
 have u2:=(t2.pick 1 rfl)
 refine cZ (tape_pick (hR.fl 3) om u2.flat1 (RdT.flat (RdT.blk (enc:=Go.E.encI) (sz:=1) (xs:=[3,4,5,6,7,8,9]) (fun _=>(by rfl)) 7 0 rfl rfl rfl om)) om om) ?_
 rintro _ _ ⟨b0,rfl,v2,w2,_,x2⟩
 have y2:=x2.unflat1
 have u4:(b0:Int)=3\/(b0:Int)=4\/(b0:Int)=5\/(b0:Int)=6\/(b0:Int)=7\/(b0:Int)=8\/(b0:Int)=9:=by simpa using v2
 exact pu1<|sBK y2 #[I 2,I c0,I b0,I 0] 75 fun _ _ z2=>sApp (nb:=16) z2 l0 4 (RdT.blk (enc:=encPOp) (sz:=2) (xs:=[(⟨2,c0⟩:POp),(⟨b0,0⟩:POp)]) fR 2 0 rfl rfl rfl om) underlying51 (i:=Tryz.t75) kr fR fun a3 b3 c3 _ d3 e3=>jOO 7 rfl<|sSub j 1<|jOI 2 rfl<|⟨(u+1,(j-1),w2,(zs++[(⟨2,c0⟩:POp),(⟨b0,0⟩:POp)]),a3,(m0+2),b3,c3),od,alB,((e3.pick 4 rfl).drops [1,2,2]),om,(by
   intro z hz
   rcases List.mem_append.1 hz with h|h
   ·exact hB z h
   ·simp only [List.mem_cons,List.not_mem_nil,or_false] at h
    rcases h with rfl|rfl<;>(unfold opB numB;dsimp only;omega)),by simp;omega,om,om,d3⟩
def stageB (k:Nat) (q:Stage):Prop:=(numB q.kind/\numB q.a/\numB q.b/\numB q.edgePolicy/\numB q.edgeFill/\numB q.kW/\numB q.kH/\numB q.shift/\numB q.shift2/\numB q.bins/\numB q.max_)/\(q.weights.l.length<=64/\∀z∈q.weights.l,numB z)/\(q.row.l.length<=64/\∀z∈q.row.l,numB z)/\(q.col.l.length<=64/\∀z∈q.col.l,numB z)/\(q.x.l.length<=6+k/\∀z∈q.x.l,tapB z)/\(q.y.l.length<=6+k/\∀z∈q.y.l,tapB z)/\(q.ops.l.length<=9+k/\∀z∈q.ops.l,opB z)
theorem zStage_ok {cs:List Chunk}:Stage.Ok cs zStage:=⟨RdT.nil (enc:=Go.E.encI) (sz:=1) (fun _=>rfl) _,RdT.nil (enc:=Go.E.encI) (sz:=1) (fun _=>rfl) _,RdT.nil (enc:=Go.E.encI) (sz:=1) (fun _=>rfl) _,RdT.nil (enc:=encTap) (sz:=2) (fun _=>rfl) _,(fun z hz=>by cases hz),RdT.nil (enc:=encTap) (sz:=2) (fun _=>rfl) _,(fun z hz=>by cases hz),RdT.nil (enc:=encPOp) (sz:=2) (fun _=>rfl) _⟩
theorem nl0 {α:Type} {P:α->Prop} {m:Nat}:([]:List α).length<=m/\∀z∈([]:List α),P z:=⟨by simp,fun z hz=>by cases hz⟩
theorem tg_stage {p:Nat} {a:Option Addr} {n k:Nat} {i:Int} {xs:List Int} (hR:RdT Go.E.encI 1 [H] a n k xs) (hi:0<=i/\i<=n) (hS:Sat W w ([(p, .cells #[.slice a n k,I i] 78 (0,0))]::H::F)) (a0:Int) (s0:Shape) (b0:Int) (hs0:szP s0) (hab:numB a0/\numB b0):
  Calls prog 20 #[Pt p 0,I a0, .agg #[I s0.w,I s0.h,I s0.max_],I b0] w fun e w'=>∃(q:Stage) (G:Chunk),e= .returned (.agg (encStage q).toArray)/\(Stage.Ok [G] q)/\(stageB 0 q)/\(q.a=a0/\(q.b=-1\/(q.b=b0/\0<=b0)))/\∃i':Int,(0<=i'/\i'<=n)/\Sat W w' ([(p, .cells #[.slice a n k,I i'] 78 (0,0))]::G::H::F):=by
 have hle:=hR.le
 have hs1:=hs0;unfold szP at hs1;have hab1:=hab;unfold numB at hab1
 refine callsK 126 func20 rfl<|jCO 2 rfl<|sBox hS (.agg #[I s0.w,I s0.h,I s0.max_]) #[I s0.w,I s0.h,I s0.max_] fun _ _ j4=>sAlloc j4 zeroValue53 fun k4 _ l4=>jOO 5 rfl ?_
 have m4:=(l4.pick 2 rfl)
 refine cX call11 (tape_next (RdT.flat (hR.up 2 (by rfl))) om m4.flat1 6 om) ?_
 rintro _ _ ⟨d0,rfl,_,_,_,n4⟩
 have o4:=n4.unflat1
 refine sAdd 1 d0<|pu2<|cX call11 (tape_next (RdT.flat (hR.up 2 (by rfl))) om o4.flat1 4 om) ?_
 rintro _ _ ⟨e0,rfl,_,_,_,p4⟩
 have q4:=p4.unflat1
 refine pu2<|sAlloc q4 zeroValue53 fun r4 _ s4=>sTl s4 0 (encStage {zStage with kind:=(1+d0),a:=a0,b:=-1,barrier:=((e0:Int)==3)}) sizeOf53 fun _ t4=>jOO 5 rfl<|sBS t4 #[I 255,I 65535,I 15] runUnderlying22 sizeOf3 zeroValue3 fun _ _ u4=>?_
 have v4:=(u4.pick 2 rfl)
 refine cX call58 (tape_pick (RdT.flat (hR.up 4 (by rfl))) om v4.flat1 (RdT.flat (RdT.blk (enc:=Go.E.encI) (sz:=1) (xs:=[255,65535,15]) (fun _=>(by rfl)) 3 0 rfl rfl rfl om)) om om) ?_
 rintro _ _ ⟨c0,rfl,w4,x4,_,y4⟩
 have f0:=y4.unflat1
 have lb:(c0:Int)=255\/(c0:Int)=65535\/(c0:Int)=15:=by simpa using w4
 refine jOC 3 rfl<|cutF f0 5 [8,9] (γ:=Stage×Chunk×Int) (fun ⟨q,G1,itc⟩ R=>⟨[],G1::[(p, .cells #[.slice a n k,I itc] 78 (0,0))]::[(r4, .cells (encStage q).toArray 53 (0,0))]::[(k4, .cells (encStage zStage).toArray 53 (0,0))]::R,0,(0<=itc/\itc<=n)/\Stage.Ok [G1] q/\stageB 0 q/\(q.a=a0/\(q.b=-1\/(q.b=b0/\0<=b0)))⟩) ?_ ?_
 rotate_left
 ·rintro ⟨q,G1,itc⟩ ρ _ ⟨a1,hitc,hqok,hqB,hqab⟩
  exact gCO a1 3 [1802] rfl<|sTl a1 3 (encStage q) sizeOf53 fun _ b1=>jOR 3 rfl<|retN (vs:=[.agg (encStage q).toArray]) rfl (.cons (.cell _ _ _ _ kr (lvA b1 3 0 (encStage q) (isAgg53 _) (sizeOf53 _) rfl rfl rfl)) .nil)<|⟨q,G1,rfl,hqok,hqB,hqab,_,om,((b1.pick 1 rfl).drops [2,2])⟩
 refine gCC f0 13 [2] rfl<|cE (1+d0) 1 (fun a5=>?_) (fun a5=>?_)
 ·refine jCC 1 rfl<|drawG f0 [1,2,4,5,8,12,14,16,18,20,22] (fb 11 4 2 1<|fn) (Plan.sts [0,3,6,7,9,10]<|Plan.sts [11]<| .fk 1 4 (.fk 2 4 (Plan.sts [13]<| .ef 4<| .ef 5<| .ef 8<| .ef 12<| .ef 14<|Plan.sts [15]<| .ef 16<|Plan.sts [17]<| .ef 18<|Plan.sts [19]<| .ef 20<|Plan.sts [21]<| .ef 22<| .fin) (.ef 2<|Plan.sts [13]<| .ef 5<| .ef 8<| .ef 12<| .ef 14<|Plan.sts [15]<| .ef 16<|Plan.sts [17]<| .ef 18<|Plan.sts [19]<| .ef 20<|Plan.sts [21]<| .ef 22<| .fin)) (.ef 1<| .ef 2<|Plan.sts [13]<| .ef 5<| .ef 8<| .ef 12<| .ef 14<|Plan.sts [15]<| .ef 16<|Plan.sts [17]<| .ef 18<|Plan.sts [19]<| .ef 20<|Plan.sts [21]<| .ef 22<| .fin)) fun _ c1=>qU [0,3,6,7,9,10]<|qL 0<|qF ?_ ?_
  rotate_left
  ·refine qO rfl<|sBS c1 #[I 1,I 3,I 2] runUnderlying22 sizeOf3 zeroValue3 fun _ _ d1=>nZ d1 [5]<|qO rfl<|sBS d1 #[I 1,I 3,I 2,I 5] runUnderlying22 sizeOf3 zeroValue3 fun _ _ e1=>nZ e1 [6]<|qO rfl ?_
   have b5:=(e1.pick 2 rfl)
   refine cX call58 (tape_pick (RdT.flat (hR.up 6 (by rfl))) om b5.flat1 (RdT.flat (RdT.blk (enc:=Go.E.encI) (sz:=1) (xs:=[1,3,2,5]) (fun _=>(by rfl)) 4 0 rfl rfl rfl om)) om om) ?_
   rintro _ _ ⟨g0,rfl,c5,_,_,d5⟩
   have f1:=d5.unflat1
   have wb:(g0:Int)=1\/(g0:Int)=3\/(g0:Int)=2\/(g0:Int)=5:=by simpa using c5
   refine nZ f1 [6]<|qU [13]<|qO rfl<|cX call58 (tape_pick (RdT.flat (hR.up 6 (by rfl))) om f1.flat1 (RdT.flat (RdT.blk (enc:=Go.E.encI) (sz:=1) (xs:=[1,3,2]) (fun _=>(by rfl)) 3 1 rfl rfl rfl om)) om om) ?_
   rintro _ _ ⟨j0,rfl,e5,_,_,f5⟩
   have g1:=f5.unflat1
   have ac:(j0:Int)=1\/(j0:Int)=3\/(j0:Int)=2:=by simpa using e5
   refine nZ g1 [6]<|qO rfl<|cX call11 (tape_next (RdT.flat (hR.up 6 (by rfl))) om g1.flat1 4 om) ?_
   rintro _ _ ⟨h1,rfl,_,_,_,g5⟩
   have i1:=g5.unflat1
   refine nZ i1 [6]<|qO rfl<|cX call59 (tg_edge (RdT.flat (hR.up 6 (by rfl))) om i1.flat1 s0.max_ om) ?_
   rintro _ _ ⟨j1,k1,rfl,h5,_,_,i5⟩
   have j5:=i5.unflat1
   unfold numB at h5
   refine nA<|qO rfl<|tW j5 4 6 (I g0) sizeOf3 fun _ k5=>nA<|qU [15]<|qO rfl<|tW k5 4 7 (I j0) sizeOf3 fun _ l5=>nA<|qU [17]<|qO rfl<|tW l5 4 17 (I c0) sizeOf3 fun _ m5=>nA<|qU [19]<|qO rfl<|tW m5 4 11 (I h1) sizeOf3 fun _ n5=>nA<|qU [21]<|qO rfl<|tW n5 4 4 (.agg #[I j1,I k1]) sizeOf49 fun _ l1=>nA<|qN<|jXC 1 rfl ?_
   have hkk:=mul_bd (a:=g0) (b:=j0) (A:=5) (B:=3) om om
   refine gCO l1 6 [4,4] rfl<|sMul g0 j0<|cX call60 (tg_weights (RdT.flat (hR.up 6 (by rfl))) om l1.flat1 (g0*j0) om) ?_
   rintro _ _ ⟨m1,n1,o1,o5,p5,rfl,n0,q1,q5,_,r5⟩
   have s5:=r5.unflat2
   have hn_zs_218:=n0.len;have hl_zs_218:=n0.le
   refine pu1<|tW s5 5 8 (.slice m1 n1 o1) sizeOf22 fun _ t5=>jOI 2 rfl ?_
   exact ⟨(({zStage with kind:=(1+d0),a:=a0,b:=-1,barrier:=((e0:Int)==3),edgePolicy:=j1,edgeFill:=k1,kW:=g0,kH:=j0,weights:=⟨m1,n1,o1,o5⟩,shift:=h1,max_:=c0}:Stage),p5,q5),alB,((t5.pick 1 rfl).drops [2,2,2,4]),om,{zStage_ok with weights:=n0.of_mem mS},⟨(by simp only [numB,zStage];omega),⟨by have h:=q1.1;dsimp only;omega,q1.2⟩,nl0,nl0,nl0,nl0,nl0⟩,⟨rfl,by first|(left;rfl)|(right;exact ⟨rfl,om⟩)⟩⟩
  refine qO rfl<|sBS c1 #[I 1,I 3,I 2,I 5] runUnderlying22 sizeOf3 zeroValue3 fun _ _ o0=>nZ o0 [5]<|qF ?_ ?_
  ·refine qO rfl ?_
   have v5:=(o0.pick 1 rfl)
   refine cX call58 (tape_pick (RdT.flat (hR.up 5 (by rfl))) om v5.flat1 (RdT.flat (RdT.blk (enc:=Go.E.encI) (sz:=1) (xs:=[1,3,2,5]) (fun _=>(by rfl)) 4 0 rfl rfl rfl om)) om om) ?_
   rintro _ _ ⟨h0,rfl,w5,_,_,x5⟩
   have r1:=x5.unflat1
   have vc:(h0:Int)=1\/(h0:Int)=3\/(h0:Int)=2\/(h0:Int)=5:=by simpa using w5
   refine nZ r1 [5]<|qU [13]<|qO rfl<|sBS r1 #[I 1,I 3,I 2] runUnderlying22 sizeOf3 zeroValue3 fun _ _ s1=>nZ s1 [6]<|qO rfl ?_
   have y5:=(s1.pick 1 rfl)
   refine cX call58 (tape_pick (RdT.flat (hR.up 6 (by rfl))) om y5.flat1 (RdT.flat (RdT.blk (enc:=Go.E.encI) (sz:=1) (xs:=[1,3,2]) (fun _=>(by rfl)) 3 0 rfl rfl rfl om)) om om) ?_
   rintro _ _ ⟨k0,rfl,z5,_,_,a6⟩
   have t1:=a6.unflat1
   have bd:(k0:Int)=1\/(k0:Int)=3\/(k0:Int)=2:=by simpa using z5
   refine nZ t1 [6]<|qO rfl<|cX call11 (tape_next (RdT.flat (hR.up 6 (by rfl))) om t1.flat1 4 om) ?_
   rintro _ _ ⟨u1,rfl,_,_,_,b6⟩
   have v1:=b6.unflat1
   refine nZ v1 [6]<|qO rfl<|cX call59 (tg_edge (RdT.flat (hR.up 6 (by rfl))) om v1.flat1 s0.max_ om) ?_
   rintro _ _ ⟨w1,x1,rfl,c6,_,_,d6⟩
   have e6:=d6.unflat1
   unfold numB at c6
   refine nA<|qO rfl<|tW e6 4 6 (I h0) sizeOf3 fun _ f6=>nA<|qU [15]<|qO rfl<|tW f6 4 7 (I k0) sizeOf3 fun _ g6=>nA<|qU [17]<|qO rfl<|tW g6 4 17 (I c0) sizeOf3 fun _ h6=>nA<|qU [19]<|qO rfl<|tW h6 4 11 (I u1) sizeOf3 fun _ i6=>nA<|qU [21]<|qO rfl<|tW i6 4 4 (.agg #[I w1,I x1]) sizeOf49 fun _ y1=>nA<|qN<|jXC 1 rfl ?_
   have hkk:=mul_bd (a:=h0) (b:=k0) (A:=5) (B:=3) om om
   refine gCO y1 6 [4,4] rfl<|sMul h0 k0<|cX call60 (tg_weights (RdT.flat (hR.up 6 (by rfl))) om y1.flat1 (h0*k0) om) ?_
   rintro _ _ ⟨z1,a2,b2,j6,k6,rfl,p0,c2,l6,_,m6⟩
   have n6:=m6.unflat2
   have hn_zs_95:=p0.len;have hl_zs_95:=p0.le
   refine pu1<|tW n6 5 8 (.slice z1 a2 b2) sizeOf22 fun _ o6=>jOI 2 rfl ?_
   exact ⟨(({zStage with kind:=(1+d0),a:=a0,b:=-1,barrier:=((e0:Int)==3),edgePolicy:=w1,edgeFill:=x1,kW:=h0,kH:=k0,weights:=⟨z1,a2,b2,j6⟩,shift:=u1,max_:=c0}:Stage),k6,l6),alB,((o6.pick 1 rfl).drops [2,2,2,4]),om,{zStage_ok with weights:=p0.of_mem mS},⟨(by simp only [numB,zStage];omega),⟨by have h:=c2.1;dsimp only;omega,c2.2⟩,nl0,nl0,nl0,nl0,nl0⟩,⟨rfl,by first|(left;rfl)|(right;exact ⟨rfl,om⟩)⟩⟩
  refine qO rfl<|sBS o0 #[I 1,I 3,I 2] runUnderlying22 sizeOf3 zeroValue3 fun _ _ d2=>nZ d2 [6]<|qO rfl ?_
  have q6:=(d2.pick 2 rfl)
  refine cX call58 (tape_pick (RdT.flat (hR.up 6 (by rfl))) om q6.flat1 (RdT.flat (RdT.blk (enc:=Go.E.encI) (sz:=1) (xs:=[1,3,2,5]) (fun _=>(by rfl)) 4 1 rfl rfl rfl om)) om om) ?_
  rintro _ _ ⟨i0,rfl,r6,_,_,s6⟩
  have e2:=s6.unflat1
  have yd:(i0:Int)=1\/(i0:Int)=3\/(i0:Int)=2\/(i0:Int)=5:=by simpa using r6
  refine nZ e2 [6]<|qU [13]<|qO rfl<|cX call58 (tape_pick (RdT.flat (hR.up 6 (by rfl))) om e2.flat1 (RdT.flat (RdT.blk (enc:=Go.E.encI) (sz:=1) (xs:=[1,3,2]) (fun _=>(by rfl)) 3 0 rfl rfl rfl om)) om om) ?_
  rintro _ _ ⟨l0,rfl,t6,_,_,u6⟩
  have f2:=u6.unflat1
  have ce:(l0:Int)=1\/(l0:Int)=3\/(l0:Int)=2:=by simpa using t6
  refine nZ f2 [6]<|qO rfl<|cX call11 (tape_next (RdT.flat (hR.up 6 (by rfl))) om f2.flat1 4 om) ?_
  rintro _ _ ⟨g2,rfl,_,_,_,v6⟩
  have h2:=v6.unflat1
  refine nZ h2 [6]<|qO rfl<|cX call59 (tg_edge (RdT.flat (hR.up 6 (by rfl))) om h2.flat1 s0.max_ om) ?_
  rintro _ _ ⟨i2,j2,rfl,w6,_,_,x6⟩
  have y6:=x6.unflat1
  unfold numB at w6
  refine nA<|qO rfl<|tW y6 4 6 (I i0) sizeOf3 fun _ z6=>nA<|qU [15]<|qO rfl<|tW z6 4 7 (I l0) sizeOf3 fun _ a7=>nA<|qU [17]<|qO rfl<|tW a7 4 17 (I c0) sizeOf3 fun _ b7=>nA<|qU [19]<|qO rfl<|tW b7 4 11 (I g2) sizeOf3 fun _ c7=>nA<|qU [21]<|qO rfl<|tW c7 4 4 (.agg #[I i2,I j2]) sizeOf49 fun _ k2=>nA<|qN<|jXC 1 rfl ?_
  have hkk:=mul_bd (a:=i0) (b:=l0) (A:=5) (B:=3) om om
  refine gCO k2 6 [4,4] rfl<|sMul i0 l0<|cX call60 (tg_weights (RdT.flat (hR.up 6 (by rfl))) om k2.flat1 (i0*l0) om) ?_
  rintro _ _ ⟨l2,m2,n2,d7,e7,rfl,q0,o2,f7,_,g7⟩
  have h7:=g7.unflat2
  have hn_zs_155:=q0.len;have hl_zs_155:=q0.le
  refine pu1<|tW h7 5 8 (.slice l2 m2 n2) sizeOf22 fun _ i7=>jOI 2 rfl ?_
  exact ⟨(({zStage with kind:=(1+d0),a:=a0,b:=-1,barrier:=((e0:Int)==3),edgePolicy:=i2,edgeFill:=j2,kW:=i0,kH:=l0,weights:=⟨l2,m2,n2,d7⟩,shift:=g2,max_:=c0}:Stage),e7,f7),alB,((i7.pick 1 rfl).drops [2,2,2,4]),om,{zStage_ok with weights:=q0.of_mem mS},⟨(by simp only [numB,zStage];omega),⟨by have h:=o2.1;dsimp only;omega,o2.2⟩,nl0,nl0,nl0,nl0,nl0⟩,⟨rfl,by first|(left;rfl)|(right;exact ⟨rfl,om⟩)⟩⟩
 refine jCC 6 rfl<|cE (1+d0) 2 (fun k7=>?_) (fun k7=>?_)
 ·refine drawF f0 [2,4,7,9,12,14,18,20,22,24,26,28,30] (fb 17 4 2 1<|fn) [0,1,5,6,10,11,13,15,16,17,2,3,4,19,7,8,9,12,14,18,20,21,22,23,24,25,26,27,28,29,30] fun _ l7=>wV 9<|wL 0<|wO rfl<|cX call11 (tape_next (RdT.flat (hR.up 4 (by rfl))) om l7.flat1 4 om) ?_
  rintro _ _ ⟨q2,rfl,_,_,_,m7⟩
  have r2:=m7.unflat1
  refine nZ r2 [4]<|wAdd 1 q2<|wO rfl<|cX call60 (tg_weights (RdT.flat (hR.up 4 (by rfl))) om r2.flat1 (1+q2) om) ?_
  rintro _ _ ⟨s2,t2,u2,n7,o7,rfl,r0,v2,_,_,p7⟩
  have w2:=p7.unflat2
  have hn_zs_242:=r0.len;have hl_zs_242:=r0.le
  refine nZ w2 [5]<|wV 1<|wO rfl<|cX call11 (tape_next (RdT.flat (hR.up 5 (by rfl))) om w2.flat1 4 om) ?_
  rintro _ _ ⟨x2,rfl,_,_,_,q7⟩
  have y2:=q7.unflat1
  refine nZ y2 [5]<|wAdd 1 x2<|wO rfl<|cX call60 (tg_weights (RdT.flat (hR.up 5 (by rfl))) om y2.flat1 (1+x2) om) ?_
  rintro _ _ ⟨z2,a3,b3,r7,s7,rfl,t0,c3,_,_,t7⟩
  have d3:=t7.unflat2
  have hn_zs_261:=t0.len;have hl_zs_261:=t0.le
  refine nZ d3 [6]<|wO rfl<|cX call11 (tape_next (RdT.flat (hR.up 6 (by rfl))) om d3.flat1 3 om) ?_
  rintro _ _ ⟨e3,rfl,_,_,_,u7⟩
  have f3:=u7.unflat1
  refine nZ f3 [6]<|wO rfl<|cX call11 (tape_next (RdT.flat (hR.up 6 (by rfl))) om f3.flat1 4 om) ?_
  rintro _ _ ⟨g3,rfl,_,_,_,v7⟩
  have h3:=v7.unflat1
  refine nZ h3 [6]<|wO rfl<|cX call59 (tg_edge (RdT.flat (hR.up 6 (by rfl))) om h3.flat1 s0.max_ om) ?_
  rintro _ _ ⟨i3,j3,rfl,w7,x7,_,y7⟩
  have z7:=y7.unflat1
  unfold numB at w7
  refine nA<|wO rfl<|tW z7 4 9 (.slice s2 t2 u2) sizeOf22 fun _ a8=>nA<|wV 1<|wO rfl<|tW a8 4 10 (.slice z2 a3 b3) sizeOf22 fun _ b8=>nA<|wV 1<|wO rfl<|tW b8 4 17 (I c0) sizeOf3 fun _ c8=>nA<|wV 1<|wO rfl<|tW c8 4 11 (I e3) sizeOf3 fun _ d8=>nA<|wV 1<|wO rfl<|tW d8 4 12 (I g3) sizeOf3 fun _ e8=>nA<|wV 1<|wO rfl<|tW e8 4 4 (.agg #[I i3,I j3]) sizeOf49 fun _ f8=>nA<|wN<|jXI 1 rfl ?_
  have g8:=((f8.picks [1,2]).drops [3,5])
  exact ⟨(({zStage with kind:=(1+d0),a:=a0,b:=-1,barrier:=((e0:Int)==3),edgePolicy:=i3,edgeFill:=j3,row:=⟨s2,t2,u2,n7⟩,col:=⟨z2,a3,b3,r7⟩,shift:=e3,shift2:=g3,max_:=c0}:Stage),(o7++s7),x7),alB,g8.merge2,om,{zStage_ok with row:=r0.of_mem mS,col:=t0.of_mem mS},⟨(by simp only [numB,zStage];omega),nl0,⟨by have h:=v2.1;dsimp only;omega,v2.2⟩,⟨by have h:=c3.1;dsimp only;omega,c3.2⟩,nl0,nl0,nl0⟩,⟨rfl,by first|(left;rfl)|(right;exact ⟨rfl,om⟩)⟩⟩
 refine jCC 6 rfl<|cE (1+d0) 3 (fun i8=>?_) (fun i8=>?_)
 ·refine drawF f0 [3,7,12,14,16,18,20,22,24] (fb 2 4 0 1<|fb 6 4 1 1<|fb 11 4 2 1<|fn) [0,1,4,5,8,9,10,2,6,11,3,13,7,12,14,15,16,17,18,19,20,21,22,23,24] fun _ j8=>wV 7<|wL 0<|wL 1<|wL 2<|wO rfl<|cX call61 (tg_table (RdT.flat (hR.up 4 (by rfl))) om j8.flat1 s0.w om) ?_
  rintro _ _ ⟨k3,l3,m3,k8,l8,rfl,u0,m8,n3,_,_,n8⟩
  have o3:=n8.unflat2
  have hn_zs_311:=u0.len;have hl_zs_311:=u0.le
  refine nZ o3 [5,5]<|wV 1<|wO rfl<|cX call61 (tg_table (RdT.flat (hR.up 5 (by rfl))) om o3.flat1 s0.h om) ?_
  rintro _ _ ⟨p3,q3,r3,o8,p8,rfl,v0,q8,s3,_,_,r8⟩
  have t3:=r8.unflat2
  have hn_zs_324:=v0.len;have hl_zs_324:=v0.le
  refine nZ t3 [6]<|wO rfl<|cX call59 (tg_edge (RdT.flat (hR.up 6 (by rfl))) om t3.flat1 s0.max_ om) ?_
  rintro _ _ ⟨u3,v3,rfl,s8,t8,_,u8⟩
  have v8:=u8.unflat1
  unfold numB at s8
  refine nA<|wO rfl<|tW v8 4 13 (.slice k3 l3 m3) sizeOf50 fun _ w8=>nA<|wV 1<|wO rfl<|tW w8 4 14 (.slice p3 q3 r3) sizeOf50 fun _ x8=>nA<|wV 1<|wO rfl<|tW x8 4 17 (I c0) sizeOf3 fun _ y8=>nA<|wV 1<|wO rfl<|tW y8 4 11 (I 8) sizeOf3 fun _ z8=>nA<|wV 1<|wO rfl<|tW z8 4 12 (I 8) sizeOf3 fun _ a9=>nA<|wV 1<|wO rfl<|tW a9 4 4 (.agg #[I u3,I v3]) sizeOf49 fun _ b9=>nA<|wN<|jXI 1 rfl ?_
  have c9:=((b9.picks [1,2]).drops [3,5])
  exact ⟨(({zStage with kind:=(1+d0),a:=a0,b:=-1,barrier:=((e0:Int)==3),edgePolicy:=u3,edgeFill:=v3,shift:=8,shift2:=8,x:=⟨k3,l3,m3,k8⟩,y:=⟨p3,q3,r3,o8⟩,max_:=c0}:Stage),(l8++p8),t8),alB,c9.merge2,om,{zStage_ok with x:=u0.of_mem mS,xD:=fun z hz=>(m8 z hz).of_mem mS,y:=v0.of_mem mS,yD:=fun z hz=>(q8 z hz).of_mem mS},⟨(by simp only [numB,zStage];omega),nl0,nl0,nl0,⟨by have h:=n3.1;dsimp only;omega,n3.2⟩,⟨by have h:=s3.1;dsimp only;omega,s3.2⟩,nl0⟩,⟨rfl,by first|(left;rfl)|(right;exact ⟨rfl,om⟩)⟩⟩
 refine jCC 6 rfl<|cE (1+d0) 4 (fun e9=>?_) (fun e9=>?_)
 ·refine jCO 2 rfl<|sBS f0 #[I 4,I 1,I 7] runUnderlying22 sizeOf3 zeroValue3 fun _ _ f9=>?_
  have g9:=(f9.pick 1 rfl)
  refine cX call58 (tape_pick (RdT.flat (hR.up 5 (by rfl))) om g9.flat1 (RdT.flat (RdT.blk (enc:=Go.E.encI) (sz:=1) (xs:=[4,1,7]) (fun _=>(by rfl)) 3 0 rfl rfl rfl om)) om om) ?_
  rintro _ _ ⟨m0,rfl,h9,i9,_,j9⟩
  have k9:=j9.unflat1
  have sg:(m0:Int)=4\/(m0:Int)=1\/(m0:Int)=7:=by simpa using h9
  refine pu1<|tW k9 3 15 (I m0) sizeOf3 fun _ l9=>jOI 2 rfl ?_
  have m9:=(l9.drops [1,1,3])
  exact ⟨(({zStage with kind:=(1+d0),a:=a0,b:=-1,barrier:=((e0:Int)==3),bins:=m0}:Stage),[],i9),alB,(Sat.nilc m9),om,{zStage_ok with},⟨(by simp only [numB,zStage];omega),nl0,nl0,nl0,nl0,nl0,nl0⟩,⟨rfl,by first|(left;rfl)|(right;exact ⟨rfl,om⟩)⟩⟩
 refine jCC 6 rfl<|cE (1+d0) 6 (fun o9=>?_) (fun o9=>?_)
 rotate_left
 ·refine jCI 2 rfl ?_
  have p9:=(f0.drops [1,3])
  exact ⟨(({zStage with kind:=(1+d0),a:=a0,b:=-1,barrier:=((e0:Int)==3)}:Stage),[],x4),alB,(Sat.nilc p9),om,{zStage_ok with},⟨(by simp only [numB,zStage];omega),nl0,nl0,nl0,nl0,nl0,nl0⟩,⟨rfl,by first|(left;rfl)|(right;exact ⟨rfl,om⟩)⟩⟩
 refine jCO 6 rfl<|sD 110 (b0>=0) (fun r9=>?_) (fun r9=>?_)
 rotate_left
 ·refine gOO f0 14 [2] rfl<|cX call62 (tg_ops (RdT.flat (hR.up 4 (by rfl))) om f0.flat1 false) ?_
  rintro _ _ ⟨w3,x3,y3,s9,t9,rfl,w0,z3,u9,_,v9⟩
  have w9:=v9.unflat2
  have hn_zs_422:=w0.len;have hl_zs_422:=w0.le
  refine pu2<|tW w9 3 16 (.slice w3 x3 y3) sizeOf51 fun _ x9=>pu1<|tW x9 3 17 (I c0) sizeOf3 fun _ y9=>jOI 2 rfl ?_
  exact ⟨(({zStage with kind:=(1+d0),a:=a0,b:=-1,barrier:=((e0:Int)==3),ops:=⟨w3,x3,y3,s9⟩,max_:=c0}:Stage),t9,u9),alB,((y9.pick 1 rfl).drops [2,4]),om,{zStage_ok with ops:=w0.of_mem mS},⟨(by simp only [numB,zStage];omega),nl0,nl0,nl0,nl0,nl0,⟨by have h:=z3.1;dsimp only;omega,z3.2⟩⟩,⟨rfl,by first|(left;rfl)|(right;exact ⟨rfl,om⟩)⟩⟩
 refine pu1<|gY<|cX call11 (tape_next (RdT.flat (hR.up 4 (by rfl))) om f0.flat1 2 om) ?_
 rintro _ _ ⟨aa,rfl,_,_,_,ba⟩
 have x0:=ba.unflat1
 refine jOC 4 rfl<|cE aa 0 (fun ca=>?_) (fun ca=>?_)
 rotate_left
 ·refine gCO x0 7 [2] rfl<|cX call62 (tg_ops (RdT.flat (hR.up 4 (by rfl))) om x0.flat1 false) ?_
  rintro _ _ ⟨a4,b4,c4,da,ea,rfl,y0,d4,fa,_,ga⟩
  have ha:=ga.unflat2
  have hn_zs_405:=y0.len;have hl_zs_405:=y0.le
  refine pu2<|tW ha 3 16 (.slice a4 b4 c4) sizeOf51 fun _ ia=>pu1<|tW ia 3 17 (I c0) sizeOf3 fun _ ja=>jOI 2 rfl ?_
  exact ⟨(({zStage with kind:=(1+d0),a:=a0,b:=-1,barrier:=((e0:Int)==3),ops:=⟨a4,b4,c4,da⟩,max_:=c0}:Stage),ea,fa),alB,((ja.pick 1 rfl).drops [2,4]),om,{zStage_ok with ops:=y0.of_mem mS},⟨(by simp only [numB,zStage];omega),nl0,nl0,nl0,nl0,nl0,⟨by have h:=d4.1;dsimp only;omega,d4.2⟩⟩,⟨rfl,by first|(left;rfl)|(right;exact ⟨rfl,om⟩)⟩⟩
 refine jCO 3 rfl<|tW x0 2 2 (I b0) sizeOf3 fun _ e4=>gOO e4 7 [2] rfl<|cX call62 (tg_ops (RdT.flat (hR.up 4 (by rfl))) om e4.flat1 (decide ((b0:Int)>=0))) ?_
 rintro _ _ ⟨f4,g4,h4,la,ma,rfl,z0,i4,na,_,oa⟩
 have pa:=oa.unflat2
 have hn_zs_388:=z0.len;have hl_zs_388:=z0.le
 refine pu2<|tW pa 3 16 (.slice f4 g4 h4) sizeOf51 fun _ qa=>pu1<|tW qa 3 17 (I c0) sizeOf3 fun _ ra=>jOI 2 rfl ?_
 exact ⟨(({zStage with kind:=(1+d0),a:=a0,b:=b0,barrier:=((e0:Int)==3),ops:=⟨f4,g4,h4,la⟩,max_:=c0}:Stage),ma,na),alB,((ra.pick 1 rfl).drops [2,4]),om,{zStage_ok with ops:=z0.of_mem mS},⟨(by simp only [numB,zStage];omega),nl0,nl0,nl0,nl0,nl0,⟨by have h:=i4.1;dsimp only;omega,i4.2⟩⟩,⟨rfl,by first|(left;rfl)|(right;exact ⟨rfl,om⟩)⟩⟩
end Go.Proofs.YtghcddbhllkbmaaGreat

namespace Go.Proofs.YtghcddbhllkbmaaGreat
open Go Go.E Go.Proofs.Tryz
set_option linter.all false
set_option maxRecDepth 100000
set_option maxHeartbeats 2000000
variable {W w:World} {H:Chunk} {F:List Chunk}
def maxV (l:List Int):Int:=l.foldl max (l.getD 0 0)
theorem fold_max_le {B:Int}:∀(l:List Int) (a:Int),a<=B->(∀z∈l,z<=B)->l.foldl max a<=B
  |[],_,ha,_=>ha
  |z::l,a,ha,h=>fold_max_le l (max a z) (by have:=h z (List.mem_cons_self ..);omega) fun y hy=>h y (List.mem_cons_of_mem _ hy)
theorem maxV_le {l:List Int} {B:Int} (h0:0<=B) (h:∀z∈l,z<=B):maxV l<=B:=by
  refine fold_max_le l _ ?_ h
  cases l with
  |nil=>exact h0
  |cons x l=>exact h x (List.mem_cons_self ..)
theorem max_succ {l:List Int} {i:Nat} {x:Int} (h:l[i]?=some x):(l.take (i+1)).foldl max (l.getD 0 0)=max ((l.take i).foldl max (l.getD 0 0)) x:=by
  rw [List.take_add_one,h,List.foldl_append];rfl
theorem put_0 {p:PlaneV} {x y w:Int} {q:List Int} (hl:(p.pix.length:Int)=p.w*p.h) (hw:1<=p.w):putL p ⟨x,y,x+w,y⟩ q=p.pix:=by
  apply List.ext_getElem?
  intro k
  unfold putL
  by_cases hk:k<p.pix.length
  · rw [grid_at hk,if_neg (by unfold inR2;dsimp only;omega)]
    unfold pixAt
    have hd:=Int.emod_def (k:Int) p.w
    have e:((k:Int)/p.w*p.w+(k:Int)%p.w).toNat=k:=by rw [Int.mul_comm];omega
    rw [List.getD_eq_getElem?_getD,e,List.getElem?_eq_getElem hk];rfl
  · rw [List.getElem?_eq_none (by rw [grid_len];omega),List.getElem?_eq_none (by omega)]
theorem put_row {p:PlaneV} {x y w:Int} {q:List Int} {j s n m:Nat} (hx:0<=x/\x+w<=p.w) (hw:1<=w) (hn:(n:Int)=w) (hs:(s:Int)=(y+(j:Int))*p.w+x) (hm:(m:Int)=(j:Int)*w) (hq:m+n<=q.length) (hp:s+n<=p.pix.length):
  (putL p ⟨x,y,x+w,y+(j:Int)⟩ q).take s++((q.drop m).take n).take n++(putL p ⟨x,y,x+w,y+(j:Int)⟩ q).drop (s+n)=putL p ⟨x,y,x+w,y+((j+1:Nat):Int)⟩ q:=by
 obtain ⟨A,hA⟩:∃A,A=putL p ⟨x,y,x+w,y+(j:Int)⟩ q:=⟨_,rfl⟩
 have e0:A.length=p.pix.length:=by rw [hA];exact put_len _ _ _
 have c0:∀k,k<p.pix.length->A[k]?=some (if inR2 ⟨x,y,x+w,y+(j:Int)⟩ ((k:Int)%p.w) ((k:Int)/p.w) then q.getD (((k:Int)/p.w-y)*(x+w-x)+((k:Int)%p.w-x)).toNat 0 else pixAt p ((k:Int)%p.w) ((k:Int)/p.w)):=(by intro k hk;rw [hA];unfold putL;exact grid_at hk)
 rw [<-hA,List.take_take,Nat.min_self]
 apply List.ext_getElem?
 intro k
 by_cases hk:k<p.pix.length
 ·have hd:=Int.emod_def (k:Int) p.w
  have f0:=Int.emod_nonneg (k:Int) (show p.w≠0 by omega)
  have g0:=Int.emod_lt_of_pos (k:Int) (show 0<p.w by omega)
  rw [Int.mul_comm] at hd
  have hR:(putL p ⟨x,y,x+w,y+((j+1:Nat):Int)⟩ q)[k]?=some (if inR2 ⟨x,y,x+w,y+((j+1:Nat):Int)⟩ ((k:Int)%p.w) ((k:Int)/p.w) then q.getD (((k:Int)/p.w-y)*(x+w-x)+((k:Int)%p.w-x)).toNat 0 else pixAt p ((k:Int)%p.w) ((k:Int)/p.w)):=by unfold putL;exact grid_at hk
  rw [hR]
  by_cases h1:k<s
  ·rw [List.append_assoc,List.getElem?_append_left (by rw [List.length_take];omega),List.getElem?_take_of_lt h1,c0 k hk]
   have d0:¬((k:Int)/p.w=y+(j:Int)/\x<=(k:Int)%p.w):=(by rintro ⟨e1,e2⟩;rw [e1] at hd;omega)
   congr 1
   by_cases hi:inR2 ⟨x,y,x+w,y+(j:Int)⟩ ((k:Int)%p.w) ((k:Int)/p.w)
   ·rw [if_pos hi,if_pos (by unfold inR2 at hi⊢;dsimp only at hi⊢;omega)]
   ·rw [if_neg hi,if_neg (by unfold inR2 at hi⊢;dsimp only at hi⊢;omega)]
  ·by_cases h2:k<s+n
   ·have a0:(k:Int)/p.w=y+(j:Int):=(by refine ediv_eq om ?_ ?_<;>omega)
    have b0:(k:Int)%p.w=x+((k-s:Nat):Int):=by rw [a0] at hd;omega
    rw [List.append_assoc,List.getElem?_append_right (by rw [List.length_take];omega),List.length_take,Nat.min_eq_left om,List.getElem?_append_left (by rw [List.length_take,List.length_drop];omega),List.getElem?_take_of_lt om,List.getElem?_drop]
    rw [if_pos (by unfold inR2;dsimp only;omega),a0,b0,List.getD_eq_getElem?_getD]
    have e:((y+(j:Int)-y)*(x+w-x)+(x+((k-s:Nat):Int)-x)).toNat=m+(k-s):=(by rw [show y+(j:Int)-y=(j:Int) by omega,show x+w-x=w by omega,<-hm];omega)
    rw [e,List.getElem?_eq_getElem om];rfl
   ·rw [List.append_assoc,List.getElem?_append_right (by rw [List.length_take];omega),List.length_take,Nat.min_eq_left om,List.getElem?_append_right (by rw [List.length_take,List.length_drop];omega),List.length_take,List.length_drop,Nat.min_eq_left om,List.getElem?_drop,show s+n+(k-s-n)=k by omega,c0 k hk]
    have d0:¬((k:Int)/p.w=y+(j:Int)/\(k:Int)%p.w<x+w):=(by rintro ⟨e1,e2⟩;rw [e1] at hd;omega)
    congr 1
    by_cases hi:inR2 ⟨x,y,x+w,y+(j:Int)⟩ ((k:Int)%p.w) ((k:Int)/p.w)
    ·rw [if_pos hi,if_pos (by unfold inR2 at hi⊢;dsimp only at hi⊢;omega)]
    ·rw [if_neg hi,if_neg (by unfold inR2 at hi⊢;dsimp only at hi⊢;omega)]
 ·rw [List.getElem?_eq_none (by rw [List.length_append,List.length_append,List.length_take,List.length_take,List.length_drop,List.length_drop];omega),List.getElem?_eq_none (by rw [put_len];omega)]
theorem put_row2 {p:PlaneV} {x y w:Int} {q:List Int} {j s n m n1 n2:Nat} (hx:0<=x/\x+w<=p.w) (hw:1<=w) (hn:(n:Int)=w) (hs:(s:Int)=(y+(j:Int))*p.w+x) (hm:(m:Int)=(j:Int)*w) (hq:m+n<=q.length) (hp:s+n<=p.pix.length) (h1:n1=n) (h2:n2=n):
    (putL p ⟨x,y,x+w,y+(j:Int)⟩ q).take s++((q.drop m).take n2).take n1++(putL p ⟨x,y,x+w,y+(j:Int)⟩ q).drop (s+n1)=putL p ⟨x,y,x+w,y+((j+1:Nat):Int)⟩ q:=by
  subst h1;subst h2;exact put_row hx hw hn hs hm hq hp
theorem q_max (al:Option Addr) (nl kl:Nat) (l:List Int) (hl:RdT Go.E.encI 1 [H] al nl kl l) (h1:1<=nl/\nl<=100000) (hS:Sat W w (H::F)):
  Ro prog 96 #[.slice al nl kl] (I (maxV l)) W w (H::F):=by
 have j0:=hl.ll
 refine callsK 25 func96 rfl<|jCC 13 rfl ?_
 have d0:¬(((nl:Int):Int)<1):=om
 refine cF _ (decide_eq_false d0)<|jCO 5 rfl<|sII hl 0 fun b0 _ _ e0 f0=>sMp hS (f0.up 0 rfl) 0 (I b0)<|jOC 10 rfl<|loopF [0] (γ:=Nat×Int×Int) (fun ⟨i,m,ix⟩ R=>⟨[(3,I m),(4,I ix)],R,(nl-1)-i,i<=nl-1/\(ix=(i:Int)+1)/\(m=(l.take (i+1)).foldl max (l.getD 0 0))⟩) (0,b0,1) ⟨hS,om,om,(by have h:l[0]?=some b0:=e0;rw [max_succ h,List.take_zero,List.getD_eq_getElem?_getD,h];exact (Int.max_self _).symm)⟩ ?_
 rintro ⟨i,m,ix⟩ ρ _ ⟨c0,hi,hix,hm⟩
 exact jCC 9 rfl<|CD (ix<(nl:Int)) (fun g0=>jCR 12 rfl<|retT [I m]<|⟨by rw [show maxV l=m from by unfold maxV;rw [hm,show i+1=nl by omega,List.take_of_length_le om]];rfl,c0⟩) fun g0=>jCO 8 rfl<|sII hl ix fun a0 _ _ h0 i0=>sMp c0 (i0.up 0 rfl) 0 (I a0)<|stepY (I (max m a0)) rfl rfl (Y_max2 m a0 rfl rfl kr kr)<|jOO 6 rfl<|sAdd ix 1<|jOI 2 rfl<|⟨(i+1,(max m a0),(ix+1)),od,alB,c0,om,om,(by have h:l[i+1]?=some a0:=(by rw [show i+1=ix.toNat by omega];exact h0);rw [max_succ h,<-hm])⟩
theorem q_cloneO (ax:Option Addr) (nx kx:Nat) (x:List Int) (hx:RdT Go.E.encI 1 [H] ax nx kx x) (hnx:nx<=100000) (hS:Sat W w (H::F)):
  Calls prog 97 #[.slice ax nx kx] w fun e w'=>∃(az:Option Addr) (nz kz:Nat) (G:Chunk),e= .returned (.slice az nz kz)/\OwnT Go.E.encI 3 1 az nz kz (x) G/\Sat W w' (G::H::F):=by
 have j0:=hx.ll
 exact callsK 8 func97 rfl<|jCO 9 rfl<|stepY (.bool (decide (ax=none))) rfl rfl (Y_eqS rfl kr kr (eqvs22 _ ax nx kx))<|jOC 2 rfl<|cD (ax=none) (fun a0=>jCR 7 rfl<|retT [nS]<|(by have b0:Sat W _ ([]::H::F):=Sat.nilc hS;have hl:([]:List Int)=x:=(rd_nil hx ‹_›).symm;have e0:=OwnT.nil (enc:=Go.E.encI) (E:=3) (sz:=1) fR;rw [hl] at e0;exact ⟨_,_,_,_,rfl,e0,b0⟩)) fun a0=>jCO 4 rfl<|sBK hS #[] 3 fun c0 _ d0=>pu1<|sApp (nb:=8) d0 (OwnT.blk (enc:=Go.E.encI) (sz:=1) (b:=c0) (c:=#[]) (E:=3) (xs:=[]) fR 0 rfl rfl rfl om) 0 (hx.up 1 rfl) underlying22 (i:=Tryz.t3) kr fR fun f0 g0 _ _ h0 i0=>jOR 4 rfl<|retT [.slice f0 (0+nx) g0]<|(by have hl:([]++x)=x:=(by simp);have e0:=h0;rw [hl] at e0;exact ⟨_,_,_,_,rfl,e0,i0⟩)
theorem p4_blit (p:Plane) (u0:Plane) (x:Int) (y:Int) (hp:Plane.Ok [H] p) (hu0:Plane.Ok [H] u0) (hpo:planeOK p.v=true) (hqo:planeOK u0.v=true) (hxy:(0<=x/\x+u0.w<=p.w)/\0<=y/\y+u0.h<=p.h) (hmm:u0.max_<=p.max_) (hS:Sat W w (H::F)):
  Calls prog 57 #[.agg (encPlane p).toArray, .agg (encPlane u0).toArray,I x,I y] w fun e w'=>∃(q:Plane) (G:Chunk),e= .returned (.tuple #[.agg (encPlane q).toArray, .bool true])/\q.Ok [G]/\q.v=(⟨p.v.w,p.v.h,p.v.max_,putL p.v ⟨x,y,x+u0.w,y+u0.h⟩ u0.v.pix⟩:PlaneV)/\Sat W w' (G::H::F):=by
 have hl_p_pix:=hp.pix.le;have hn_p_pix:=hp.pix.len
 have hl_u0_pix:=hu0.pix.le;have hn_u0_pix:=hu0.pix.len
 have hps:=(plane_sz hpo).1;unfold sizeP at hps;simp only [Plane.v] at hps;have hpl:p.v.pix.length=p.pix.n:=hn_p_pix;have hpn:=(plane_sz hpo).2.1;rw [hpl] at hpn;simp only [Plane.v] at hpn;have hp1:0<p.w*p.h:=Int.mul_pos om om
 have hqs:=(plane_sz hqo).1;unfold sizeP at hqs;simp only [Plane.v] at hqs;have hql:u0.v.pix.length=u0.pix.n:=hn_u0_pix;have hqn:=(plane_sz hqo).2.1;rw [hql] at hqn;simp only [Plane.v] at hqn;have hq1:0<u0.w*u0.h:=Int.mul_pos om om
 have hmx:maxV u0.pix.l<=p.max_:=maxV_le om (fun z hz=>by have h:=(plane_sz hqo).2.2 z hz;simp only [Plane.v] at h;omega)
 obtain ⟨Wq,hWq⟩:∃k:Nat,u0.w=(k:Int):=⟨_,(Int.toNat_of_nonneg om).symm⟩;obtain ⟨Hq,hHq⟩:∃k:Nat,u0.h=(k:Int):=⟨_,(Int.toNat_of_nonneg om).symm⟩
 refine callsK 100 func57 rfl<|jCO 2 rfl<|sBox hS (.agg (encPlane p).toArray) (encPlane p).toArray fun _ _ a1=>sBox a1 (.agg (encPlane u0).toArray) (encPlane u0).toArray fun _ _ b1=>sAlloc b1 zeroValue38 fun _ _ g0=>gOO g0 7 [402] rfl<|cR call52 (p4_valid p ⟨(RdT.flat (hp.pix.up 3 (by rfl)))⟩ g0.flat) fun _ d0=>pu2<|sBn 16 (planeOK p.v) (fun c1=>?_) (fun c1=>?_)
 rotate_left
 ·refine jOO 10 rfl<|sTl d0 0 [I 0,I 0,I 0,nS] sizeOf38 fun _ d1=>jOR 5 rfl<|retC d1 0 [I 0,I 0,I 0,nS] (.bool false) (isAgg38 _) (sizeOf38 _) ?_
  first|exact absurd hpo ‹_›|exact absurd hqo ‹_›
 refine gOO d0 1 [401] rfl<|gY<|cR call52 (p4_valid u0 ⟨(RdT.flat (hu0.pix.up 3 (by rfl)))⟩ d0.flat) fun _ a0=>jOC 4 rfl<|cBn (planeOK u0.v) (fun e1=>?_) (fun e1=>?_)
 rotate_left
 ·refine jCO 3 rfl<|sTl a0 0 [I 0,I 0,I 0,nS] sizeOf38 fun _ f1=>jOR 5 rfl<|retC f1 0 [I 0,I 0,I 0,nS] (.bool false) (isAgg38 _) (sizeOf38 _) ?_
  first|exact absurd hpo ‹_›|exact absurd hqo ‹_›
 refine jCO 8 rfl ?_
 have g1:¬((x:Int)<0):=om
 refine sFix 24 _ false (decide_eq_false g1)<|gOO a0 5 [2,1] rfl<|gY<|sSub p.w u0.w<|pu3 ?_
 have h1:¬((x:Int)>(p.w-u0.w)):=om
 refine sFix 33 _ false (decide_eq_false h1)<|pu4 ?_
 have i1:¬((y:Int)<0):=om
 refine sFix 37 _ false (decide_eq_false i1)<|gOO a0 5 [2,1] rfl<|gY<|sSub p.h u0.h<|jOC 4 rfl ?_
 have j1:¬((y:Int)>(p.h-u0.h)):=om
 refine cF _ (decide_eq_false j1)<|jCC 4 rfl<|drawF a0 [2] (fb 1 1 3 1<|fb 4 2 2 1<|fn) [0,3,1,4,2,5] fun _ k1=>wV 2<|wL 0<|wL 1<|wO rfl<|cR call96 (q_max u0.pix.a u0.pix.n u0.pix.k u0.pix.l (RdT.flat (hu0.pix.up 3 (by rfl))) (od) k1.flat) fun _ h0=>nZ h0 [2]<|wV 1<|wN<|jXC 1 rfl ?_
 have l1:¬(((maxV u0.pix.l):Int)>p.max_):=om
 refine cF _ (decide_eq_false l1)<|jCC 3 rfl<|drawG h0 [8,10,11] (fb 1 2 0 1<|fb 3 2 1 1<|fb 5 2 2 1<|fb 7 2 3 1<|fn) (Plan.sts [0,2,4,6]<|Plan.sts [1]<|Plan.sts [3]<|Plan.sts [5]<|Plan.sts [7]<| .fk 8 10 (Plan.sts [9]<| .ef 10<| .ef 11<| .fin) (.ef 8<|Plan.sts [9]<| .ef 11<| .fin)) fun _ i0=>qU [0,2,4,6]<|qL 0<|qL 1<|qL 2<|qL 3<|qF ?_ ?_
 rotate_left
 ·refine qO rfl<|sAlloc i0 zeroValue38 fun m1 _ j0=>nZ j0 [3,3,3,3]<|qO rfl<|cX call97 (q_cloneO p.pix.a p.pix.n p.pix.k p.pix.l (RdT.flat (hp.pix.up 4 (by rfl))) (od) j0.flat) ?_
  rintro _ _ ⟨k0,l0,m0,n1,rfl,e0,o1⟩
  have n0:=o1.unflat1
  have hn_az_61:=e0.len;have hl_az_61:=e0.le
  refine nZ n0 [4,4,4]<|qU [9]<|qO rfl<|sTl n0 1 [I p.w,I p.h,I p.max_, .slice k0 l0 m0] sizeOf38 fun _ o0=>nA<|qN<|gXC o0 10 [3] rfl<|loopF [2,3,4,5,8,10,65] (γ:=Nat×(List Int)×(Option Addr)×Nat×Nat×Chunk) (fun ⟨i,zs,azs,nzs,kzs,czs⟩ R=>⟨[(66,I (i:Int))],czs::[(m1, .cells #[I p.w,I p.h,I p.max_, .slice azs nzs kzs] 38 (0,0))]::R,Hq-i,i<=Hq/\(zs=putL p.v ⟨x,y,x+u0.w,y+(i:Int)⟩ u0.pix.l)/\OwnT Go.E.encI 3 1 azs nzs kzs zs czs⟩) (0,(p.pix.l),k0,l0,m0,n1) ⟨o0,om,(by have h:=put_0 (p:=p.v) (x:=x) (y:=y) (w:=u0.w) (q:=u0.pix.l) (by rw [hpl];simp only [Plane.v];omega) (by simp only [Plane.v];omega);rw [show y+((0:Nat):Int)=y by omega];exact h.symm),e0⟩ ?_
  rintro ⟨i,zs,azs,nzs,kzs,czs⟩ ρ _ ⟨b0,hi,hE,hOzs⟩
  have hn_zs:=hOzs.len;have hl_zs:=hOzs.le
  have hzl:zs.length=p.pix.n:=by rw [hE,put_len,hpl]
  refine jCC 6 rfl<|cD ((i:Int)<u0.h) (fun q1=>?_) (fun q1=>?_)
  rotate_left
  ·refine gCO b0 8 [401] rfl<|sTl b0 2 [I p.w,I p.h,I p.max_, .slice azs nzs kzs] sizeOf38 fun _ p0=>jOR 4 rfl<|retC p0 2 [I p.w,I p.h,I p.max_, .slice azs nzs kzs] (.bool true) (isAgg38 _) (sizeOf38 _) ?_
   exact ⟨(⟨p.w,p.h,p.max_,⟨azs,nzs,kzs,zs⟩⟩:Plane),_,rfl,⟨(hOzs.rdAt (cs:=[czs]) 0 rfl)⟩,(by rw [hE,show i=Hq by omega,<-hHq];rfl),(p0.drops [1,1,1,1])⟩
  refine jCC 11 rfl ?_
  have hix:=pl_ix hpo (x:=x+u0.w-1) (y:=y+(i:Int)) (by simp only [Plane.v];omega) (by simp only [Plane.v];omega);rw [hpl] at hix;simp only [Plane.v] at hix;have hiq:=pl_ix hqo (x:=u0.w-1) (y:=(i:Int)) (by simp only [Plane.v];omega) (by simp only [Plane.v];omega);rw [hql] at hiq;simp only [Plane.v] at hiq;have hje:((i:Int)+1)*u0.w=(i:Int)*u0.w+u0.w:=by rw [Int.add_mul,Int.one_mul]
  have hi0:0<=(i:Int)*u0.w:=Int.mul_nonneg om om;have hy0:0<=(y+(i:Int))*p.w:=Int.mul_nonneg om om
  refine jCO 3 rfl<|sAdd y (i:Int)<|gOO b0 2 [4] rfl<|sMul (y+(i:Int)) p.w<|pu1<|sAdd ((y+(i:Int))*p.w) x<|jOC 3 rfl<|drawF b0 [20] (fb 1 1 3 1<|fb 5 3 0 1<|fb 9 3 3 1<|fb 12 3 0 1<|fb 17 3 0 1<|fn) [0,2,3,4,8,10,11,14,15,16,1,5,6,7,9,12,13,17,18,19,20] fun _ s1=>wV 8<|wAdd (i:Int) 1<|wV 1<|wL 0<|wL 1<|wAdd (((y+(i:Int))*p.w)+x) u0.w ?_
  have x2:=hOzs.part (lo:=((((y+(i:Int))*p.w)+x)).toNat) (hi:=(((((y+(i:Int))*p.w)+x)+u0.w)).toNat) om om
  refine wY (.slice (partAddr azs kzs (((((y+(i:Int))*p.w)+x)).toNat) 1) ((((((y+(i:Int))*p.w)+x)+u0.w)).toNat-(((((y+(i:Int))*p.w)+x)).toNat)) (kzs-(((((y+(i:Int))*p.w)+x)).toNat))) rfl (fun w _=>Y_sl (a:=azs) (len:=nzs) (cap:=kzs) (some (((y+(i:Int))*p.w)+x)) (some ((((y+(i:Int))*p.w)+x)+u0.w)) (((((y+(i:Int))*p.w)+x)).toNat) ((((((y+(i:Int))*p.w)+x)+u0.w)).toNat) runUnderlying22 sizeOf3 ⟨om,om⟩ ⟨om,om⟩ om om)<|wL 2<|wL 3<|wMul (i:Int) u0.w<|wL 4<|wMul ((i:Int)+1) u0.w ?_
  have t1:=hu0.pix.part (lo:=(((i:Int)*u0.w)).toNat) (hi:=((((i:Int)+1)*u0.w)).toNat) om om
  exact wY (.slice (partAddr u0.pix.a u0.pix.k ((((i:Int)*u0.w)).toNat) 1) (((((i:Int)+1)*u0.w)).toNat-((((i:Int)*u0.w)).toNat)) (u0.pix.k-((((i:Int)*u0.w)).toNat))) rfl (fun w _=>Y_sl (a:=u0.pix.a) (len:=u0.pix.n) (cap:=u0.pix.k) (some ((i:Int)*u0.w)) (some (((i:Int)+1)*u0.w)) ((((i:Int)*u0.w)).toNat) (((((i:Int)+1)*u0.w)).toNat) runUnderlying22 sizeOf3 ⟨om,om⟩ ⟨om,om⟩ om om)<|wO rfl<|sCopyR (N:=_) (d:=((((((y+(i:Int))*p.w)+x)+u0.w)).toNat-(((((y+(i:Int))*p.w)+x)).toNat))) (cap':=(kzs-(((((y+(i:Int))*p.w)+x)).toNat))) s1 hOzs (t1.up 5 rfl) 0 (((((y+(i:Int))*p.w)+x)).toNat) ((((((y+(i:Int))*p.w)+x)+u0.w)).toNat-(((((y+(i:Int))*p.w)+x)).toNat)) om (by first|exact Nat.min_eq_right om|exact Nat.min_eq_left om) rfl runUnderlying22 sizeOf3 (fun z v hv=>by simp only [Go.E.encI,List.mem_singleton] at hv;subst hv;rfl) fun _ u1 v1 q0=>nZ q0 [1,3,3,3,3]<|wN<|jXO 3 rfl<|sAdd (i:Int) 1<|jOI 2 rfl<|⟨(i+1,(zs.take (((((y+(i:Int))*p.w)+x)).toNat)++((u0.pix.l.drop ((((i:Int)*u0.w)).toNat)).take (((((i:Int)+1)*u0.w)).toNat-((((i:Int)*u0.w)).toNat))).take ((((((y+(i:Int))*p.w)+x)+u0.w)).toNat-(((((y+(i:Int))*p.w)+x)).toNat))++zs.drop (((((y+(i:Int))*p.w)+x)).toNat+((((((y+(i:Int))*p.w)+x)+u0.w)).toNat-(((((y+(i:Int))*p.w)+x)).toNat)))),azs,nzs,kzs,u1),od,alB,q0,om,(by rw [hE];exact put_row2 (p:=p.v) (n:=Wq) (by simp only [Plane.v];omega) om om (by simp only [Plane.v];omega) om om (by rw [hpl];omega) om om),v1⟩
 refine qO rfl<|cX call97 (q_cloneO p.pix.a p.pix.n p.pix.k p.pix.l (RdT.flat (hp.pix.up 3 (by rfl))) (od) i0.flat) ?_
 rintro _ _ ⟨r0,s0,t0,w1,rfl,f0,x1⟩
 have v0:=x1.unflat1
 have hn_az_31:=f0.len;have hl_az_31:=f0.le
 refine nZ v0 [3,3,3]<|qU [9]<|qO rfl<|sAlloc v0 zeroValue38 fun y1 _ w0=>nZ w0 [4,4,4]<|qO rfl<|sTl w0 0 [I p.w,I p.h,I p.max_, .slice r0 s0 t0] sizeOf38 fun _ x0=>nA<|qN<|gXC x0 10 [3] rfl ?_
 have z1:=(x0.pick 1 rfl)
 refine loopF [2,3,4,5,8,10,65] (γ:=Nat×(List Int)×(Option Addr)×Nat×Nat×Chunk) (fun ⟨i,zs,azs,nzs,kzs,czs⟩ R=>⟨[(66,I (i:Int))],czs::[(y1, .cells #[I p.w,I p.h,I p.max_, .slice azs nzs kzs] 38 (0,0))]::R,Hq-i,i<=Hq/\(zs=putL p.v ⟨x,y,x+u0.w,y+(i:Int)⟩ u0.pix.l)/\OwnT Go.E.encI 3 1 azs nzs kzs zs czs⟩) (0,(p.pix.l),r0,s0,t0,w1) ⟨z1,om,(by have h:=put_0 (p:=p.v) (x:=x) (y:=y) (w:=u0.w) (q:=u0.pix.l) (by rw [hpl];simp only [Plane.v];omega) (by simp only [Plane.v];omega);rw [show y+((0:Nat):Int)=y by omega];exact h.symm),f0⟩ ?_
 rintro ⟨i,zs,azs,nzs,kzs,czs⟩ ρ _ ⟨c0,hi,hE,hOzs⟩
 have hn_zs:=hOzs.len;have hl_zs:=hOzs.le
 have hzl:zs.length=p.pix.n:=by rw [hE,put_len,hpl]
 refine jCC 6 rfl<|cD ((i:Int)<u0.h) (fun a2=>?_) (fun a2=>?_)
 rotate_left
 ·refine gCO c0 8 [401] rfl<|sTl c0 2 [I p.w,I p.h,I p.max_, .slice azs nzs kzs] sizeOf38 fun _ y0=>jOR 4 rfl<|retC y0 2 [I p.w,I p.h,I p.max_, .slice azs nzs kzs] (.bool true) (isAgg38 _) (sizeOf38 _) ?_
  exact ⟨(⟨p.w,p.h,p.max_,⟨azs,nzs,kzs,zs⟩⟩:Plane),_,rfl,⟨(hOzs.rdAt (cs:=[czs]) 0 rfl)⟩,(by rw [hE,show i=Hq by omega,<-hHq];rfl),(y0.drops [1,1,1,1])⟩
 refine jCC 11 rfl ?_
 have hix:=pl_ix hpo (x:=x+u0.w-1) (y:=y+(i:Int)) (by simp only [Plane.v];omega) (by simp only [Plane.v];omega);rw [hpl] at hix;simp only [Plane.v] at hix;have hiq:=pl_ix hqo (x:=u0.w-1) (y:=(i:Int)) (by simp only [Plane.v];omega) (by simp only [Plane.v];omega);rw [hql] at hiq;simp only [Plane.v] at hiq;have hje:((i:Int)+1)*u0.w=(i:Int)*u0.w+u0.w:=by rw [Int.add_mul,Int.one_mul]
 have hi0:0<=(i:Int)*u0.w:=Int.mul_nonneg om om;have hy0:0<=(y+(i:Int))*p.w:=Int.mul_nonneg om om
 refine jCO 3 rfl<|sAdd y (i:Int)<|gOO c0 2 [4] rfl<|sMul (y+(i:Int)) p.w<|pu1<|sAdd ((y+(i:Int))*p.w) x<|jOC 3 rfl<|drawF c0 [20] (fb 1 1 3 1<|fb 5 3 0 1<|fb 9 3 3 1<|fb 12 3 0 1<|fb 17 3 0 1<|fn) [0,2,3,4,8,10,11,14,15,16,1,5,6,7,9,12,13,17,18,19,20] fun _ c2=>wV 8<|wAdd (i:Int) 1<|wV 1<|wL 0<|wL 1<|wAdd (((y+(i:Int))*p.w)+x) u0.w ?_
 have e3:=hOzs.part (lo:=((((y+(i:Int))*p.w)+x)).toNat) (hi:=(((((y+(i:Int))*p.w)+x)+u0.w)).toNat) om om
 refine wY (.slice (partAddr azs kzs (((((y+(i:Int))*p.w)+x)).toNat) 1) ((((((y+(i:Int))*p.w)+x)+u0.w)).toNat-(((((y+(i:Int))*p.w)+x)).toNat)) (kzs-(((((y+(i:Int))*p.w)+x)).toNat))) rfl (fun w _=>Y_sl (a:=azs) (len:=nzs) (cap:=kzs) (some (((y+(i:Int))*p.w)+x)) (some ((((y+(i:Int))*p.w)+x)+u0.w)) (((((y+(i:Int))*p.w)+x)).toNat) ((((((y+(i:Int))*p.w)+x)+u0.w)).toNat) runUnderlying22 sizeOf3 ⟨om,om⟩ ⟨om,om⟩ om om)<|wL 2<|wL 3<|wMul (i:Int) u0.w<|wL 4<|wMul ((i:Int)+1) u0.w ?_
 have d2:=hu0.pix.part (lo:=(((i:Int)*u0.w)).toNat) (hi:=((((i:Int)+1)*u0.w)).toNat) om om
 exact wY (.slice (partAddr u0.pix.a u0.pix.k ((((i:Int)*u0.w)).toNat) 1) (((((i:Int)+1)*u0.w)).toNat-((((i:Int)*u0.w)).toNat)) (u0.pix.k-((((i:Int)*u0.w)).toNat))) rfl (fun w _=>Y_sl (a:=u0.pix.a) (len:=u0.pix.n) (cap:=u0.pix.k) (some ((i:Int)*u0.w)) (some (((i:Int)+1)*u0.w)) ((((i:Int)*u0.w)).toNat) (((((i:Int)+1)*u0.w)).toNat) runUnderlying22 sizeOf3 ⟨om,om⟩ ⟨om,om⟩ om om)<|wO rfl<|sCopyR (N:=_) (d:=((((((y+(i:Int))*p.w)+x)+u0.w)).toNat-(((((y+(i:Int))*p.w)+x)).toNat))) (cap':=(kzs-(((((y+(i:Int))*p.w)+x)).toNat))) c2 hOzs (d2.up 5 rfl) 0 (((((y+(i:Int))*p.w)+x)).toNat) ((((((y+(i:Int))*p.w)+x)+u0.w)).toNat-(((((y+(i:Int))*p.w)+x)).toNat)) om (by first|exact Nat.min_eq_right om|exact Nat.min_eq_left om) rfl runUnderlying22 sizeOf3 (fun z v hv=>by simp only [Go.E.encI,List.mem_singleton] at hv;subst hv;rfl) fun _ e2 f2 z0=>nZ z0 [1,3,3,3,3]<|wN<|jXO 3 rfl<|sAdd (i:Int) 1<|jOI 2 rfl<|⟨(i+1,(zs.take (((((y+(i:Int))*p.w)+x)).toNat)++((u0.pix.l.drop ((((i:Int)*u0.w)).toNat)).take (((((i:Int)+1)*u0.w)).toNat-((((i:Int)*u0.w)).toNat))).take ((((((y+(i:Int))*p.w)+x)+u0.w)).toNat-(((((y+(i:Int))*p.w)+x)).toNat))++zs.drop (((((y+(i:Int))*p.w)+x)).toNat+((((((y+(i:Int))*p.w)+x)+u0.w)).toNat-(((((y+(i:Int))*p.w)+x)).toNat)))),azs,nzs,kzs,e2),od,alB,z0,om,(by rw [hE];exact put_row2 (p:=p.v) (n:=Wq) (by simp only [Plane.v];omega) om om (by simp only [Plane.v];omega) om om (by rw [hpl];omega) om om),f2⟩
theorem p2_area (a:Rct) (ha:rIn a 128 128) (hS:Sat W w (H::F)):
  Ro prog 56 #[.agg (encRct a).toArray] (I ((a.x1-a.x0)*(a.y1-a.y0))) W w (H::F):=by
 unfold rIn at ha;have d0:=mul_bd (a:=a.x1-a.x0) (b:=a.y1-a.y0) (A:=128) (B:=128) om om
 exact callsK 17 func56 rfl<|jCO 2 rfl<|sBx hS (encRct a) fun _ _ b0=>gOO b0 7 [400] rfl<|cS (p2_valid a b0.flat) fun _ a0=>jOC 3 rfl<|(by have c0:rvP a:=(by unfold rvP cooP;omega);exact cF _ (congrArg Bool.not (decide_eq_true c0))<|gCO a0 8 [0,0] rfl<|sSub a.x1 a.x0<|gOO a0 4 [0,0] rfl<|sSub a.y1 a.y0<|sMul (a.x1-a.x0) (a.y1-a.y0)<|jOR 4 rfl<|retT [I ((a.x1-a.x0)*(a.y1-a.y0))]<|⟨rfl,(a0.dropAt 0 rfl)⟩)
theorem p21_put (own:Plane) (t:Task) (al:Option Addr) (nl kl:Nat) (l:List Int) (hown:Plane.Ok [H] own) (ht:Task.Ok [H] t) (hl:RdT Go.E.encI 1 [H] al nl kl l) (hS:Sat W w (H::F)):
  Calls prog 15 #[.agg (encPlane own).toArray, .agg (encTask t).toArray, .slice al nl kl] w fun e w'=>∃(q:Plane) (c:Int) (G:Chunk),e= .returned (.tuple #[.agg (encPlane q).toArray,I c])/\q.Ok [G]/\(q.v,c)=putT own.v t.part (⟨t.rectX0,t.rectY0,t.rectX1,t.rectY1⟩:Rct) l/\Sat W w' (G::H::F):=by
 have C0:=hown.pix.ll
 have D0:=ht.deps.ll
 have I0:=hl.ll
 refine callsK 91 func15 rfl<|jCO 2 rfl<|sBx hS (encPlane own) fun _ _ q1=>sBx q1 (encTask t) fun _ _ r1=>sAlloc r1 zeroValue38 fun _ _ l0=>jOC 3 rfl<|cutF l0 0 [2,3,4,6] (γ:=Unit) (fun _ R=>⟨[],R,0,(planeOK own.v=true/\(t.part=0\/t.part=2))⟩) ?_ ?_
 · exact gCO l0 3 [402] rfl<|cS (p4_valid own ⟨(hown.pix.fl 3)⟩ l0.flat) fun _ e0=>pu2<|SBn 17 (planeOK own.v) (fun j0=>jOO 15 rfl<|sTk e0 0 [I 0,I 0,I 0,nS] fun _ r0=>jOR 5 rfl<|retD r0 0 [I 0,I 0,I 0,nS] (I 1)<|(by have hC:putC own.v t.part (⟨t.rectX0,t.rectY0,t.rectX1,t.rectY1⟩:Rct) l=1:=(by unfold putC;rw [if_neg (fun h=>j0 h.1)]);have s1:=(r0.drops [0,0,0]);have t1:Sat W _ ([]::H::F):=Sat.nilc s1;exact ⟨(⟨0,0,0,⟨none,0,0,[]⟩⟩:Plane),1,_,rfl,⟨RdT.nil (enc:=Go.E.encI) (sz:=1) fR [[]]⟩,(by unfold putT;rw [okT_n om,hC];rfl),t1⟩)) fun j0=>gOO e0 4 [1] rfl<|sN 21 t.part 0 (fun u1=>jOI 9 rfl<|⟨(),alB,e0,⟨j0,om⟩⟩) fun u1=>gOC e0 7 [1] rfl<|cN t.part 2 (fun v1=>jCI 1 rfl<|⟨(),alB,e0,⟨j0,om⟩⟩) fun v1=>jCO 3 rfl<|sTk e0 0 [I 0,I 0,I 0,nS] fun _ s0=>jOR 5 rfl<|retD s0 0 [I 0,I 0,I 0,nS] (I 1)<|(by have hC:putC own.v t.part (⟨t.rectX0,t.rectY0,t.rectX1,t.rectY1⟩:Rct) l=1:=(by unfold putC;rw [if_neg (fun h=>by have h2:=h.2;omega)]);have w1:=(s0.drops [0,0,0]);have z1:Sat W _ ([]::H::F):=Sat.nilc w1;exact ⟨(⟨0,0,0,⟨none,0,0,[]⟩⟩:Plane),1,_,rfl,⟨RdT.nil (enc:=Go.E.encI) (sz:=1) fR [[]]⟩,(by unfold putT;rw [okT_n om,hC];rfl),z1⟩)
 rintro _ ρ _ ⟨t0,hA⟩
 refine gCO t0 4 [401] rfl<|sAlloc t0 zeroValue45 fun _ _ a2=>sTk a2 0 [I t.rectX0,I t.rectY0,I t.rectX1,I t.rectY1] fun _ u0=>jOC 2 rfl<|cutF u0 0 [2,3,6,8] (γ:=Unit) (fun _ R=>⟨[],R,0,(rIn (⟨t.rectX0,t.rectY0,t.rectX1,t.rectY1⟩:Rct) own.w own.h/\(nl:Int)=(t.rectX1-t.rectX0)*(t.rectY1-t.rectY0))⟩) ?_ ?_
 rotate_left
 ·rintro _ ρ _ ⟨b2,hB⟩
  refine jCC 2 rfl ?_
  have A0:=(plane_sz hA.1).1;unfold sizeP at A0;simp only [Plane.v] at A0;obtain ⟨E0,M0⟩:=hB;have F0:=E0;unfold rIn at F0;dsimp only at F0;have L0:=rIn_area E0 (by first|omega|assumption);dsimp only at L0
  refine jCC 7 rfl<|loopF [2,3,6,8,47,48] (γ:=Nat) (fun i R=>⟨[(49,I (i:Int))],R,nl-i,i<=nl/\((l.take i).all (fun v=>decide (0<=v/\v<=own.max_))=true)⟩) 0 ⟨b2,om,by rfl⟩ ?_
  rintro i ρ _ ⟨c0,hi,hE⟩
  refine jCC 6 rfl<|cD ((i:Int)<(nl:Int)) (fun c2=>jCO 6 rfl<|sIN hl i fun m0 _ _ k0 d2=>sMp c0 (d2.up 4 rfl) 0 (I m0)<|jOO 8 rfl<|sD 55 (m0<0) (fun e2=>jOO 11 rfl<|sTk c0 1 [I 0,I 0,I 0,nS] fun _ v0=>jOR 9 rfl<|retD v0 1 [I 0,I 0,I 0,nS] (I 2)<|(by have hC:putC own.v t.part (⟨t.rectX0,t.rectY0,t.rectX1,t.rectY1⟩:Rct) l=2:=(by unfold putC;rw [if_pos hA,if_pos ⟨E0,by dsimp only;omega⟩,if_neg (show ¬inM own.v.max_ l=true from inM_f (m:=own.max_) k0 om)]);have f2:=(v0.drops [0,0,0,0]);have g2:Sat W _ ([]::H::F):=Sat.nilc f2;exact ⟨(⟨0,0,0,⟨none,0,0,[]⟩⟩:Plane),2,_,rfl,⟨RdT.nil (enc:=Go.E.encI) (sz:=1) fR [[]]⟩,(by unfold putT;rw [okT_n om,hC];rfl),g2⟩)) fun e2=>gOC c0 7 [3] rfl<|CD (m0>own.max_) (fun i2=>jCO 4 rfl<|sAdd (i:Int) 1<|jOI 2 rfl<|⟨i+1,od,alB,c0,om,all_succ hE k0 (decide_eq_true om)⟩) fun i2=>jCO 3 rfl<|sTk c0 1 [I 0,I 0,I 0,nS] fun _ w0=>jOR 9 rfl<|retD w0 1 [I 0,I 0,I 0,nS] (I 2)<|(by have hC:putC own.v t.part (⟨t.rectX0,t.rectY0,t.rectX1,t.rectY1⟩:Rct) l=2:=(by unfold putC;rw [if_pos hA,if_pos ⟨E0,by dsimp only;omega⟩,if_neg (show ¬inM own.v.max_ l=true from inM_f (m:=own.max_) k0 om)]);have j2:=(w0.drops [0,0,0,0]);have k2:Sat W _ ([]::H::F):=Sat.nilc j2;exact ⟨(⟨0,0,0,⟨none,0,0,[]⟩⟩:Plane),2,_,rfl,⟨RdT.nil (enc:=Go.E.encI) (sz:=1) fR [[]]⟩,(by unfold putT;rw [okT_n om,hC];rfl),k2⟩)) fun c2=>gCO c0 11 [0,0] rfl<|sSub t.rectX1 t.rectX0<|gOO c0 4 [0,0] rfl<|sSub t.rectY1 t.rectY0<|gOO c0 4 [3] rfl<|sAlloc c0 zeroValue38 fun _ _ l2=>sTk l2 0 [I (t.rectX1-t.rectX0),I (t.rectY1-t.rectY0),I own.max_, .slice al nl kl] fun _ z0=>jOC 3 rfl ?_
  have H0:inM own.max_ l=true:=all_of_take hE om
  have K0:planeOK (⟨t.rectX1-t.rectX0,t.rectY1-t.rectY0,own.max_,⟨al,nl,kl,l⟩⟩:Plane).v=true:=plane_mk (by unfold sizeP;simp only [Plane.v];omega) (by simp only [Plane.v];omega) (fun z hz=>of_decide_eq_true (List.all_eq_true.1 H0 z hz));have J0:=hA.1
  refine gCO z0 7 [404,400,1,1] rfl<|cZ (p4_blit own (⟨(t.rectX1-t.rectX0),(t.rectY1-t.rectY0),own.max_,⟨al,nl,kl,l⟩⟩:Plane) t.rectX0 t.rectY0 ⟨(hown.pix.fl 5)⟩ ⟨(hl.fl 5)⟩ J0 K0 (by dsimp only;omega) (by dsimp only;omega) z0.flat) ?_
  rintro _ _ ⟨a0,_,rfl,n0,m2,n2⟩
  have o2:=n2.unflat1
  have B0:=n0.pix.ll
  refine pu3<|sAlloc o2 zeroValue38 fun _ _ q2=>sTk q2 0 (encPlane a0) fun _ a1=>gOO a1 16 [400] rfl<|sTk a1 4 (encPlane a0) fun _ b1=>jOR 4 rfl<|retD b1 4 (encPlane a0) (I 0) ?_
  have hC:putC own.v t.part (⟨t.rectX0,t.rectY0,t.rectX1,t.rectY1⟩:Rct) l=0:=by unfold putC;rw [if_pos hA,if_pos ⟨E0,by dsimp only;omega⟩,if_pos (show inM own.v.max_ l=true from H0)]
  have G0:=m2;dsimp only at G0;rw [show t.rectX0+(t.rectX1-t.rectX0)=t.rectX1 by omega,show t.rectY0+(t.rectY1-t.rectY0)=t.rectY1 by omega] at G0
  exact ⟨(⟨a0.w,a0.h,a0.max_,⟨a0.pix.a,a0.pix.n,a0.pix.k,a0.pix.l⟩⟩:Plane),0,_,rfl,⟨n0.pix⟩,(by unfold putT;rw [okT_0 hC,G0];rfl),(b1.drops [0,1,1,1,1,1])⟩
 refine jCC 1 rfl<|drawG u0 [1,3,4,5,6,12,13] (fb 0 0 0 4<|fn) (pS [0]<| .ef 1<|pS [2]<| .fk 3 4 (.ef 4<| .ef 5<| .ef 6<|pS [7,8,9,10,11]<| .ef 12<| .ef 13<|pS [14,15]<| .fin) (.fk 3 5 (.ef 5<| .ef 6<|pS [7,8,9,10,11]<| .ef 12<| .ef 13<|pS [14,15]<| .fin) (.ef 3<| .ef 6<|pS [7,8,9,10,11]<| .ef 12<| .ef 13<|pS [14,15]<| .fin))) fun _ s2=>qG 0 4<|qO rfl<|cS (p2_empty (⟨t.rectX0,t.rectY0,t.rectX1,t.rectY1⟩:Rct) s2.flat) fun _ b0=>nA<|qV 1<|qF ?_ ?_
 ·refine bD ((⟨t.rectX0,t.rectY0,t.rectX1,t.rectY1⟩:Rct).x0=0/\(⟨t.rectX0,t.rectY0,t.rectX1,t.rectY1⟩:Rct).y0=0/\(⟨t.rectX0,t.rectY0,t.rectX1,t.rectY1⟩:Rct).x1=0/\(⟨t.rectX0,t.rectY0,t.rectX1,t.rectY1⟩:Rct).y1=0) (fun f0=>qFix 32 _ true (decide_eq_true f0)<|qO rfl<|pu1<|nA<|qO rfl<|pu1<|nA<|qO rfl<|pu1<|nA<|qO rfl<|pu1<|nA<|qV 1<|qV 1<|qV 1<|qV 1<|qV 1<|qO rfl<|pu1<|nA<|qO rfl<|pu1<|nA<|qV 1<|qV 1<|qN<|jXO 5 rfl<|sTk b0 1 [I 0,I 0,I 0,nS] fun _ c1=>jOR 5 rfl<|retD c1 1 [I 0,I 0,I 0,nS] (I 8)<|(by have hC:putC own.v t.part (⟨t.rectX0,t.rectY0,t.rectX1,t.rectY1⟩:Rct) l=8:=(by unfold putC;rw [if_pos hA,if_neg (fun h=>by have A0:=(plane_sz hA.1).1;unfold sizeP at A0;simp only [Plane.v] at A0;have h2:=(ins_in om om).2 (show rIn (⟨t.rectX0,t.rectY0,t.rectX1,t.rectY1⟩:Rct) own.w own.h from h.1);exact h2.1 f0)]);have t2:=(c1.drops [0,0,0,0]);have u2:Sat W _ ([]::H::F):=Sat.nilc t2;exact ⟨(⟨0,0,0,⟨none,0,0,[]⟩⟩:Plane),8,_,rfl,⟨RdT.nil (enc:=Go.E.encI) (sz:=1) fR [[]]⟩,(by unfold putT;rw [okT_n om,hC];rfl),u2⟩)) fun f0=>qFix 32 _ false (decide_eq_false f0)<|qO rfl<|gY<|lB b0 0 0 4<|nA<|qO rfl<|gY<|lB b0 3 0 4<|nA<|qO rfl<|gY<|cS (p21_whole own ⟨(hown.pix.fl 4)⟩ b0.flat) fun _ v2=>nA<|qO rfl<|gY<|cS (p2_inside (⟨t.rectX0,t.rectY0,t.rectX1,t.rectY1⟩:Rct) (⟨0,0,own.w,own.h⟩:Rct) v2.flat) fun _ o0=>nA<|qV 1<|qV 1<|qV 1 ?_
  refine bC (insP (⟨t.rectX0,t.rectY0,t.rectX1,t.rectY1⟩:Rct) (⟨0,0,own.w,own.h⟩:Rct)) (fun g0=>qFix 39 _ true (congrArg Bool.not (decide_eq_false g0))<|qV 1<|qV 1<|qO rfl<|pu1<|nA<|qO rfl<|pu1<|nA<|qV 1<|qV 1<|qN<|jXO 5 rfl<|sTk o0 1 [I 0,I 0,I 0,nS] fun _ d1=>jOR 5 rfl<|retD d1 1 [I 0,I 0,I 0,nS] (I 8)<|(by have hC:putC own.v t.part (⟨t.rectX0,t.rectY0,t.rectX1,t.rectY1⟩:Rct) l=8:=(by unfold putC;rw [if_pos hA,if_neg (fun h=>by have A0:=(plane_sz hA.1).1;unfold sizeP at A0;simp only [Plane.v] at A0;have h2:=(ins_in om om).2 (show rIn (⟨t.rectX0,t.rectY0,t.rectX1,t.rectY1⟩:Rct) own.w own.h from h.1);exact g0 h2.2)]);have w2:=(d1.drops [0,0,0,0]);have x2:Sat W _ ([]::H::F):=Sat.nilc w2;exact ⟨(⟨0,0,0,⟨none,0,0,[]⟩⟩:Plane),8,_,rfl,⟨RdT.nil (enc:=Go.E.encI) (sz:=1) fR [[]]⟩,(by unfold putT;rw [okT_n om,hC];rfl),x2⟩)) fun g0=>?_
  refine qFix 39 _ false (congrArg Bool.not (decide_eq_true g0))<|qV 1<|qV 1<|qO rfl<|gY<|lB o0 0 0 4<|nA<|qO rfl<|gY<|cS (p2_area (⟨t.rectX0,t.rectY0,t.rectX1,t.rectY1⟩:Rct) (by have A0:=(plane_sz hA.1).1;unfold sizeP at A0;simp only [Plane.v] at A0;have h:=(ins_in om om).1 ⟨f0,g0⟩;unfold rIn at h⊢;dsimp only at h⊢;omega) o0.flat) fun _ e1=>nA<|qV 1<|qV 1<|qN<|jXC 1 rfl<|cN (nl:Int) (((⟨t.rectX0,t.rectY0,t.rectX1,t.rectY1⟩:Rct).x1-(⟨t.rectX0,t.rectY0,t.rectX1,t.rectY1⟩:Rct).x0)*((⟨t.rectX0,t.rectY0,t.rectX1,t.rectY1⟩:Rct).y1-(⟨t.rectX0,t.rectY0,t.rectX1,t.rectY1⟩:Rct).y0)) (fun y2=>jCI 1 rfl<|⟨(),alB,e1,⟨by have A0:=(plane_sz hA.1).1;unfold sizeP at A0;simp only [Plane.v] at A0;exact (ins_in om om).1 ⟨f0,g0⟩,om⟩⟩) fun y2=>jCO 3 rfl<|sTk e1 1 [I 0,I 0,I 0,nS] fun _ f1=>jOR 5 rfl<|retD f1 1 [I 0,I 0,I 0,nS] (I 8) ?_
  have hC:putC own.v t.part (⟨t.rectX0,t.rectY0,t.rectX1,t.rectY1⟩:Rct) l=8:=by unfold putC;rw [if_pos hA,if_neg (fun h=>by have h2:=h.2;dsimp only at h2;omega)]
  have z2:=(f1.drops [0,0,0,0])
  have a3:Sat W _ ([]::H::F):=Sat.nilc z2
  exact ⟨(⟨0,0,0,⟨none,0,0,[]⟩⟩:Plane),8,_,rfl,⟨RdT.nil (enc:=Go.E.encI) (sz:=1) fR [[]]⟩,(by unfold putT;rw [okT_n om,hC];rfl),a3⟩
 by_cases d0:(⟨t.rectX0,t.rectY0,t.rectX1,t.rectY1⟩:Rct).x0=0/\(⟨t.rectX0,t.rectY0,t.rectX1,t.rectY1⟩:Rct).y0=0/\(⟨t.rectX0,t.rectY0,t.rectX1,t.rectY1⟩:Rct).x1=0/\(⟨t.rectX0,t.rectY0,t.rectX1,t.rectY1⟩:Rct).y1=0
 ·refine qFix 32 _ true (decide_eq_true d0)<|qO rfl<|pu1<|nA<|qF ?_ ?_
  rotate_left
  · exact qO rfl<|pu1<|nA<|qO rfl<|pu1<|nA<|qO rfl<|pu1<|nA<|qV 1<|qV 1<|qV 1<|qV 1<|qV 1<|qO rfl<|pu1<|nA<|qO rfl<|pu1<|nA<|qV 1<|qV 1<|qN<|jXO 5 rfl<|sTk b0 1 [I 0,I 0,I 0,nS] fun _ g1=>jOR 5 rfl<|retD g1 1 [I 0,I 0,I 0,nS] (I 8)<|(by have hC:putC own.v t.part (⟨t.rectX0,t.rectY0,t.rectX1,t.rectY1⟩:Rct) l=8:=(by unfold putC;rw [if_pos hA,if_neg (fun h=>by have A0:=(plane_sz hA.1).1;unfold sizeP at A0;simp only [Plane.v] at A0;have h2:=(ins_in om om).2 (show rIn (⟨t.rectX0,t.rectY0,t.rectX1,t.rectY1⟩:Rct) own.w own.h from h.1);exact h2.1 d0)]);have b3:=(g1.drops [0,0,0,0]);have c3:Sat W _ ([]::H::F):=Sat.nilc b3;exact ⟨(⟨0,0,0,⟨none,0,0,[]⟩⟩:Plane),8,_,rfl,⟨RdT.nil (enc:=Go.E.encI) (sz:=1) fR [[]]⟩,(by unfold putT;rw [okT_n om,hC];rfl),c3⟩)
  refine qO rfl<|pu1<|nA<|qO rfl<|pu1<|nA<|qO rfl<|pu1<|nA<|qV 1<|qV 1<|qV 1<|qV 1<|qV 1<|qO rfl<|pu1<|nA<|qO rfl<|pu1<|nA<|qV 1<|qV 1<|qN<|jXO 5 rfl<|sTk b0 1 [I 0,I 0,I 0,nS] fun _ h1=>jOR 5 rfl<|retD h1 1 [I 0,I 0,I 0,nS] (I 8) ?_
  have hC:putC own.v t.part (⟨t.rectX0,t.rectY0,t.rectX1,t.rectY1⟩:Rct) l=8:=by unfold putC;rw [if_pos hA,if_neg (fun h=>by have A0:=(plane_sz hA.1).1;unfold sizeP at A0;simp only [Plane.v] at A0;have h2:=(ins_in om om).2 (show rIn (⟨t.rectX0,t.rectY0,t.rectX1,t.rectY1⟩:Rct) own.w own.h from h.1);exact h2.1 d0)]
  have d3:=(h1.drops [0,0,0,0])
  have e3:Sat W _ ([]::H::F):=Sat.nilc d3
  exact ⟨(⟨0,0,0,⟨none,0,0,[]⟩⟩:Plane),8,_,rfl,⟨RdT.nil (enc:=Go.E.encI) (sz:=1) fR [[]]⟩,(by unfold putT;rw [okT_n om,hC];rfl),e3⟩
 refine qFix 32 _ false (decide_eq_false d0)<|qO rfl<|gY<|lB b0 3 0 4<|nA<|qF ?_ ?_
 ·refine qO rfl<|gY<|lB b0 0 0 4<|nA<|qO rfl<|gY<|cS (p21_whole own ⟨(hown.pix.fl 4)⟩ b0.flat) fun _ f3=>nA<|qO rfl<|gY<|cS (p2_inside (⟨t.rectX0,t.rectY0,t.rectX1,t.rectY1⟩:Rct) (⟨0,0,own.w,own.h⟩:Rct) f3.flat) fun _ p0=>nA<|qV 1<|qV 1<|qV 1<|bC (insP (⟨t.rectX0,t.rectY0,t.rectX1,t.rectY1⟩:Rct) (⟨0,0,own.w,own.h⟩:Rct)) (fun h0=>qFix 39 _ true (congrArg Bool.not (decide_eq_false h0))<|qV 1<|qV 1<|qO rfl<|pu1<|nA<|qO rfl<|pu1<|nA<|qV 1<|qV 1<|qN<|jXO 5 rfl<|sTk p0 1 [I 0,I 0,I 0,nS] fun _ i1=>jOR 5 rfl<|retD i1 1 [I 0,I 0,I 0,nS] (I 8)<|(by have hC:putC own.v t.part (⟨t.rectX0,t.rectY0,t.rectX1,t.rectY1⟩:Rct) l=8:=(by unfold putC;rw [if_pos hA,if_neg (fun h=>by have A0:=(plane_sz hA.1).1;unfold sizeP at A0;simp only [Plane.v] at A0;have h2:=(ins_in om om).2 (show rIn (⟨t.rectX0,t.rectY0,t.rectX1,t.rectY1⟩:Rct) own.w own.h from h.1);exact h0 h2.2)]);have g3:=(i1.drops [0,0,0,0]);have h3:Sat W _ ([]::H::F):=Sat.nilc g3;exact ⟨(⟨0,0,0,⟨none,0,0,[]⟩⟩:Plane),8,_,rfl,⟨RdT.nil (enc:=Go.E.encI) (sz:=1) fR [[]]⟩,(by unfold putT;rw [okT_n om,hC];rfl),h3⟩)) fun h0=>?_
  refine qFix 39 _ false (congrArg Bool.not (decide_eq_true h0))<|qV 1<|qV 1<|qO rfl<|gY<|lB p0 0 0 4<|nA<|qO rfl<|gY<|cS (p2_area (⟨t.rectX0,t.rectY0,t.rectX1,t.rectY1⟩:Rct) (by have A0:=(plane_sz hA.1).1;unfold sizeP at A0;simp only [Plane.v] at A0;have h:=(ins_in om om).1 ⟨d0,h0⟩;unfold rIn at h⊢;dsimp only at h⊢;omega) p0.flat) fun _ j1=>nA<|qV 1<|qV 1<|qN<|jXC 1 rfl<|cN (nl:Int) (((⟨t.rectX0,t.rectY0,t.rectX1,t.rectY1⟩:Rct).x1-(⟨t.rectX0,t.rectY0,t.rectX1,t.rectY1⟩:Rct).x0)*((⟨t.rectX0,t.rectY0,t.rectX1,t.rectY1⟩:Rct).y1-(⟨t.rectX0,t.rectY0,t.rectX1,t.rectY1⟩:Rct).y0)) (fun i3=>jCI 1 rfl<|⟨(),alB,j1,⟨by have A0:=(plane_sz hA.1).1;unfold sizeP at A0;simp only [Plane.v] at A0;exact (ins_in om om).1 ⟨d0,h0⟩,om⟩⟩) fun i3=>jCO 3 rfl<|sTk j1 1 [I 0,I 0,I 0,nS] fun _ k1=>jOR 5 rfl<|retD k1 1 [I 0,I 0,I 0,nS] (I 8) ?_
  have hC:putC own.v t.part (⟨t.rectX0,t.rectY0,t.rectX1,t.rectY1⟩:Rct) l=8:=by unfold putC;rw [if_pos hA,if_neg (fun h=>by have h2:=h.2;dsimp only at h2;omega)]
  have j3:=(k1.drops [0,0,0,0])
  have k3:Sat W _ ([]::H::F):=Sat.nilc j3
  exact ⟨(⟨0,0,0,⟨none,0,0,[]⟩⟩:Plane),8,_,rfl,⟨RdT.nil (enc:=Go.E.encI) (sz:=1) fR [[]]⟩,(by unfold putT;rw [okT_n om,hC];rfl),k3⟩
 refine qO rfl<|gY<|cS (p21_whole own ⟨(hown.pix.fl 4)⟩ b0.flat) fun _ l1=>nA<|qO rfl<|gY<|lB l1 0 0 4<|nA<|qO rfl<|gY<|cS (p2_inside (⟨t.rectX0,t.rectY0,t.rectX1,t.rectY1⟩:Rct) (⟨0,0,own.w,own.h⟩:Rct) l1.flat) fun _ q0=>nA<|qV 1<|qV 1<|qV 1<|bC (insP (⟨t.rectX0,t.rectY0,t.rectX1,t.rectY1⟩:Rct) (⟨0,0,own.w,own.h⟩:Rct)) (fun i0=>qFix 39 _ true (congrArg Bool.not (decide_eq_false i0))<|qV 1<|qV 1<|qO rfl<|pu1<|nA<|qO rfl<|pu1<|nA<|qV 1<|qV 1<|qN<|jXO 5 rfl<|sTk q0 1 [I 0,I 0,I 0,nS] fun _ m1=>jOR 5 rfl<|retD m1 1 [I 0,I 0,I 0,nS] (I 8)<|(by have hC:putC own.v t.part (⟨t.rectX0,t.rectY0,t.rectX1,t.rectY1⟩:Rct) l=8:=(by unfold putC;rw [if_pos hA,if_neg (fun h=>by have A0:=(plane_sz hA.1).1;unfold sizeP at A0;simp only [Plane.v] at A0;have h2:=(ins_in om om).2 (show rIn (⟨t.rectX0,t.rectY0,t.rectX1,t.rectY1⟩:Rct) own.w own.h from h.1);exact i0 h2.2)]);have l3:=(m1.drops [0,0,0,0]);have m3:Sat W _ ([]::H::F):=Sat.nilc l3;exact ⟨(⟨0,0,0,⟨none,0,0,[]⟩⟩:Plane),8,_,rfl,⟨RdT.nil (enc:=Go.E.encI) (sz:=1) fR [[]]⟩,(by unfold putT;rw [okT_n om,hC];rfl),m3⟩)) fun i0=>?_
 refine qFix 39 _ false (congrArg Bool.not (decide_eq_true i0))<|qV 1<|qV 1<|qO rfl<|gY<|lB q0 0 0 4<|nA<|qO rfl<|gY<|cS (p2_area (⟨t.rectX0,t.rectY0,t.rectX1,t.rectY1⟩:Rct) (by have A0:=(plane_sz hA.1).1;unfold sizeP at A0;simp only [Plane.v] at A0;have h:=(ins_in om om).1 ⟨d0,i0⟩;unfold rIn at h⊢;dsimp only at h⊢;omega) q0.flat) fun _ n1=>nA<|qV 1<|qV 1<|qN<|jXC 1 rfl<|cN (nl:Int) (((⟨t.rectX0,t.rectY0,t.rectX1,t.rectY1⟩:Rct).x1-(⟨t.rectX0,t.rectY0,t.rectX1,t.rectY1⟩:Rct).x0)*((⟨t.rectX0,t.rectY0,t.rectX1,t.rectY1⟩:Rct).y1-(⟨t.rectX0,t.rectY0,t.rectX1,t.rectY1⟩:Rct).y0)) (fun n3=>jCI 1 rfl<|⟨(),alB,n1,⟨by have A0:=(plane_sz hA.1).1;unfold sizeP at A0;simp only [Plane.v] at A0;exact (ins_in om om).1 ⟨d0,i0⟩,om⟩⟩) fun n3=>jCO 3 rfl<|sTk n1 1 [I 0,I 0,I 0,nS] fun _ o1=>jOR 5 rfl<|retD o1 1 [I 0,I 0,I 0,nS] (I 8) ?_
 have hC:putC own.v t.part (⟨t.rectX0,t.rectY0,t.rectX1,t.rectY1⟩:Rct) l=8:=by unfold putC;rw [if_pos hA,if_neg (fun h=>by have h2:=h.2;dsimp only at h2;omega)]
 have o3:=(o1.drops [0,0,0,0])
 have p3:Sat W _ ([]::H::F):=Sat.nilc o3
 exact ⟨(⟨0,0,0,⟨none,0,0,[]⟩⟩:Plane),8,_,rfl,⟨RdT.nil (enc:=Go.E.encI) (sz:=1) fR [[]]⟩,(by unfold putT;rw [okT_n om,hC];rfl),p3⟩
end Go.Proofs.YtghcddbhllkbmaaGreat
