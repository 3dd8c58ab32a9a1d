import Derived.Test.YtghcddbhllkbmaaGreatR4P4Tp
namespace Go.Proofs.YtghcddbhllkbmaaGreat
open Go Go.E Go.Proofs.Tryz
set_option linter.all false
set_option maxRecDepth 100000
set_option maxHeartbeats 2000000
variable {W w:World} {H:Chunk} {F:List Chunk}
def planeB (q:Plane):Prop:=q.pix.l.length<=64/\∀z∈q.pix.l,numB z
theorem tg_weights {p:Nat} {a:Option Addr} {n k:Nat} {i:Int} {xs:List Int} (hR:RdT Go.E.encI 1 [H] a n k xs) (hi:0<=i/\i<=n) (hS:Sat W w ([(p, .cells #[.slice a n k,I i] 78 (0,0))]::H::F)) (m0:Int) (hm:m0<=64):
  Calls prog 60 #[Pt p 0,I m0] w fun e w'=>∃(az:Option Addr) (nz:Nat) (kz:Nat) (zs:List Int) (G:Chunk),e= .returned (.slice az nz kz)/\(RdT Go.E.encI 1 [G] az nz kz zs)/\((zs.length:Int)=max m0 0/\∀z∈zs,numB z)/\∃i':Int,(0<=i'/\i'<=n)/\Sat W w' ([(p, .cells #[.slice a n k,I i'] 78 (0,0))]::G::H::F):=by
 have B0:=hR.le
 refine callsK 22 func60 rfl<|jCC 17 rfl<|loopF [0,1] (γ:=Nat×Int×(List Int)×SO) (fun ⟨i,x0,zs,j0,g0,y0,e0⟩ R=>⟨[(6,I (i:Int)),(5, .slice j0 g0 y0)],e0::[(p, .cells #[.slice a n k,I x0] 78 (0,0))]::R,m0.toNat-i,i<=m0.toNat/\(∀z∈zs,numB z)/\(zs.length=i)/\(0<=x0/\x0<=n)/\OwnT Go.E.encI 3 1 j0 g0 y0 zs e0⟩) (0,i,[],none,0,0,[]) ⟨(Sat.nilc hS),om,(by intro z hz;cases hz),by rfl,om,(OwnT.nil (enc:=Go.E.encI) (E:=3) (sz:=1) fR)⟩ ?_
 rintro ⟨i,x0,zs,j0,g0,y0,e0⟩ ρ _ ⟨c0,hi,hB,C0,A0,d0⟩
 have z0:=d0.ll
 refine jCC 8 rfl<|CD ((i:Int)<m0) (fun f0=>jCR 12 rfl<|retT [.slice j0 g0 y0]<|⟨_,_,_,zs,e0,rfl,(d0.rdAt (cs:=[e0]) 0 rfl),⟨om,hB⟩,_,om,(c0.pick 1 rfl)⟩) fun f0=>jCO 8 rfl ?_
 have h0:=(c0.pick 1 rfl)
 refine cZ (tape_next (hR.fl 1) om h0.flat1 41 om) ?_
 rintro _ _ ⟨b0,rfl,_,_,_,i0⟩
 refine sSub b0 20<|sBK i0.unflat1 #[I 1,I 2,I (-1),I 0,I (b0-20),I 5] 3 fun _ _ k0=>?_
 have l0:=(k0.pick 1 rfl)
 refine cZ (tape_pick (hR.fl 2) om l0.flat1 (RdT.flat (RdT.blk (enc:=Go.E.encI) (sz:=1) (xs:=[1,2,-1,0,(b0-20),5]) (fun _=>(by rfl)) 6 0 rfl rfl rfl om)) om om) ?_
 rintro _ _ ⟨a0,rfl,n0,o0,_,p0⟩
 have q0:=p0.unflat1
 have h1:(a0:Int)=1\/(a0:Int)=2\/(a0:Int)=(-1)\/(a0:Int)=0\/(a0:Int)=(b0-20)\/(a0:Int)=5:=by simpa using n0
 exact sBK q0 #[I a0] 3 fun _ _ r0=>sApp (nb:=8) r0 d0 3 (RdT.blk (enc:=Go.E.encI) (sz:=1) (xs:=[a0]) fR 1 0 rfl rfl rfl om) underlying22 (i:=Tryz.t3) kr fR fun s0 t0 u0 _ v0 w0=>jOO 6 rfl<|sAdd (i:Int) 1<|jOI 2 rfl<|⟨(i+1,o0,(zs++[a0]),s0,(g0+1),t0,u0),od,alB,((w0.pick 3 rfl).drops [1,2]),om,mem_snoc hB (by unfold numB;omega),by simp;omega,om,v0⟩
theorem tg_edge {p:Nat} {a:Option Addr} {n k:Nat} {i:Int} {xs:List Int} (hR:RdT Go.E.encI 1 [H] a n k xs) (hi:0<=i/\i<=n) (hS:Sat W w ([(p, .cells #[.slice a n k,I i] 78 (0,0))]::H::F)) (mx:Int) (hmx:0<=mx/\mx<=4294967296):
  Calls prog 59 #[Pt p 0,I mx] w fun e w'=>∃(ep:Int) (ef:Int),e= .returned (.agg #[I ep,I ef])/\(numB ep/\numB ef)/\∃i':Int,(0<=i'/\i'<=n)/\Sat W w' ([(p, .cells #[.slice a n k,I i'] 78 (0,0))]::H::F):=by
 have j0:=hR.le
 refine callsK 20 func59 rfl<|jCO 2 rfl<|sAlloc hS zeroValue49 fun _ _ g0=>jOO 5 rfl ?_
 have h0:=(g0.pick 1 rfl)
 refine cZ (tape_next (hR.fl 1) om h0.flat1 4 om) ?_
 rintro _ _ ⟨a0,rfl,_,_,_,i0⟩
 refine pu1<|sAlloc i0.unflat1 zeroValue49 fun _ _ k0=>sTk k0 0 rfl [I a0,I 0] fun _ c0=>gOC c0 10 [0] rfl<|CE a0 3 (fun l0=>gCO c0 5 [200] rfl<|sTk c0 2 rfl [I a0,I 0] fun _ d0=>jOR 3 rfl<|retN (vs:=[.agg #[I a0,I 0]]) rfl (.cons (.cell _ _ _ _ kr (lvA d0 2 0 [I a0,I 0] (isAgg49 _) (sizeOf49 _) rfl rfl rfl)) .nil)<|⟨a0,0,rfl,by unfold numB;omega,_,om,(d0.drops [0,1])⟩) fun l0=>?_
 have hd:=tdiv_bd (a:=mx) (b:=2) (A:=4294967296) om om
 refine jCO 4 rfl<|sQuo mx 2<|sBK c0 #[I 0,I mx,I (mx.tdiv 2)] 3 fun _ _ n0=>?_
 have o0:=(n0.pick 2 rfl)
 refine cZ (tape_pick (hR.fl 3) om o0.flat1 (RdT.flat (RdT.blk (enc:=Go.E.encI) (sz:=1) (xs:=[0,mx,(mx.tdiv 2)]) (fun _=>(by rfl)) 3 0 rfl rfl rfl om)) om om) ?_
 rintro _ _ ⟨b0,rfl,p0,_,_,q0⟩
 have r0:=q0.unflat1
 have i1:(b0:Int)=0\/(b0:Int)=mx\/(b0:Int)=(mx.tdiv 2):=by simpa using p0
 exact pu1<|sT r0 2 1 (I b0) [I b0] #[I a0,I b0] sizeOf3 fun _ e0=>gOO e0 5 [202] rfl<|sTk e0 3 rfl [I a0,I b0] fun _ f0=>jOR 3 rfl<|retN (vs:=[.agg #[I a0,I b0]]) rfl (.cons (.cell _ _ _ _ kr (lvA f0 3 0 [I a0,I b0] (isAgg49 _) (sizeOf49 _) rfl rfl rfl)) .nil)<|⟨a0,b0,rfl,by unfold numB;omega,_,om,(f0.drops [1,1,1])⟩
theorem tg_sized {p:Nat} {a:Option Addr} {n k:Nat} {i:Int} {xs:List Int} (hR:RdT Go.E.encI 1 [H] a n k xs) (hi:0<=i/\i<=n) (hS:Sat W w ([(p, .cells #[.slice a n k,I i] 78 (0,0))]::H::F)) (w0:Int) (h0:Int) (hwh:(1<=w0/\w0<=8)/\1<=h0/\h0<=8):
  Calls prog 19 #[Pt p 0,I w0,I h0] w fun e w'=>∃(q:Plane) (G:Chunk),e= .returned (.agg (encPlane q).toArray)/\(Plane.Ok [G] q)/\(q.w=w0/\q.h=h0/\planeOK q.v=true/\planeB q)/\∃i':Int,(0<=i'/\i'<=n)/\Sat W w' ([(p, .cells #[.slice a n k,I i'] 78 (0,0))]::G::H::F):=by
 have N0:=hR.le
 have M0:=mul_bd (a:=w0) (b:=h0) (A:=8) (B:=8) om om
 refine callsK 46 func19 rfl<|jCO 2 rfl<|sAlloc hS zeroValue38 fun b2 _ y0=>jOC 2 rfl<|cutF y0 2 [0,6] (γ:=Nat×Int×(Option Addr)×Chunk×Int) (fun ⟨b7,mx,a1,c1,F0⟩ R=>⟨[(7,Pt b7 0)],[(p, .cells #[.slice a n k,I F0] 78 (0,0))]::[(b7, .cells #[I w0,I h0,I mx, .slice a1 (((w0*h0)).toNat) (((w0*h0)).toNat)] 38 (0,0))]::c1::[(b2, .cells #[I 0,I 0,I 0,nS] 38 (0,0))]::R,0,(0<=F0/\F0<=n)/\(1<=mx/\mx<=65535)/\OwnT Go.E.encI 3 1 a1 (((w0*h0)).toNat) (((w0*h0)).toNat) (List.replicate (((w0*h0)).toNat) 0) c1⟩) ?_ ?_
 rotate_left
 ·rintro ⟨b7,mx,a1,c1,F0⟩ ρ _ ⟨c2,K0,O0,J0⟩
  refine jCC 7 rfl<|loopF [0,6,7] (γ:=Nat×Int×(List Int)×SO) (fun ⟨i,G0,zs,C0,B0,D0,E0⟩ R=>⟨[(8,I (i:Int))],E0::[(p, .cells #[.slice a n k,I G0] 78 (0,0))]::[(b7, .cells #[I w0,I h0,I mx, .slice C0 B0 D0] 38 (0,0))]::R,(((w0*h0)).toNat)-i,i<=((w0*h0)).toNat/\(∀z∈zs,0<=z/\z<=mx)/\(zs.length=((w0*h0)).toNat)/\(0<=G0/\G0<=n)/\OwnT Go.E.encI 3 1 C0 B0 D0 zs E0⟩) (0,F0,(List.replicate (((w0*h0)).toNat) 0),a1,((w0*h0)).toNat,((w0*h0)).toNat,c1) ⟨(c2.pick 2 rfl),om,(by intro z hz;have:=List.eq_of_mem_replicate hz;omega),by simp,om,J0⟩ ?_
  rintro ⟨i,G0,zs,C0,B0,D0,E0⟩ ρ _ ⟨o0,hi,hB,P0,L0,A0⟩
  have I0:=A0.ll
  refine gCC o0 10 [2] rfl<|CD ((i:Int)<(B0:Int)) (fun e2=>gCO o0 8 [402] rfl<|sTk o0 3 rfl [I w0,I h0,I mx, .slice C0 B0 D0] fun _ z0=>jOR 3 rfl<|retN (vs:=[.agg #[I w0,I h0,I mx, .slice C0 B0 D0]]) rfl (.cons (.cell _ _ _ _ kr (lvA z0 3 0 [I w0,I h0,I mx, .slice C0 B0 D0] (isAgg38 _) (sizeOf38 _) rfl rfl rfl)) .nil)<|(by have H0:planeOK ⟨w0,h0,mx,zs⟩=true:=planeOK_t (p:=⟨w0,h0,mx,zs⟩) ⟨by unfold sizeP;dsimp only;omega,by dsimp only;omega⟩ (List.all_eq_true.2 (fun z hz=>decide_eq_true (hB z hz)));exact ⟨(⟨w0,h0,mx,⟨C0,B0,D0,zs⟩⟩:Plane),E0,rfl,⟨(A0.rdAt (cs:=[E0]) 0 rfl)⟩,⟨rfl,rfl,H0,by dsimp only;omega,fun z hz=>by have:=hB z hz;unfold numB;omega⟩,_,om,((z0.pick 1 rfl).drops [2,2])⟩)) fun e2=>jCC 4 rfl ?_
  obtain ⟨g2,n7,o7,b1,h2,d1,i2⟩:=OwnT.eN A0 i
  refine drawF o0 [8,13,16,17,19] (fb 1 2 3 1<|fb 6 2 2 1<|fb 11 2 2 1<|fb 15 2 2 1<|fn) [0,2,3,4,5,9,10,14,1,6,7,11,12,15,8,13,16,17,18,19] fun _ j2=>wV 8<|wL 0<|wL 1<|wAdd mx 1<|wL 2<|wAdd mx 1<|wL 3<|wO rfl ?_
  have k2:=(j2.pick 1 rfl)
  refine cZ (tape_next (hR.fl 3) om k2.flat1 (mx+1) om) ?_
  rintro _ _ ⟨q0,rfl,_,_,_,l2⟩
  have e1:=l2.unflat1
  refine nZ e1 [2,2,2,2]<|wO rfl<|cZ (tape_next (hR.fl 3) om e1.flat1 (mx+1) om) ?_
  rintro _ _ ⟨r0,rfl,_,_,_,m2⟩
  have f1:=m2.unflat1
  refine nZ f1 [2,2,2,2]<|wO rfl<|sBK f1 #[I q0,I r0,I mx,I 0] 3 fun _ _ g1=>nZ g1 [3,3,3]<|wO rfl ?_
  have n2:=(g1.pick 1 rfl)
  refine cZ (tape_pick (hR.fl 4) om n2.flat1 (RdT.flat (RdT.blk (enc:=Go.E.encI) (sz:=1) (xs:=[q0,r0,mx,0]) (fun _=>(by rfl)) 4 0 rfl rfl rfl om)) om om) ?_
  rintro _ _ ⟨b0,rfl,o2,q2,_,r2⟩
  have h1:=r2.unflat1
  have b8:(b0:Int)=q0\/(b0:Int)=r0\/(b0:Int)=mx\/(b0:Int)=0:=by simpa using o2
  exact nZ h1 [3,3,3]<|wI d1<|wO rfl<|sStF h1 A0 i2 2 i 0 g2 b0 b1 (I b0) [I b0] sizeOf3 fun _ s2 t2 u2=>nA<|wN<|jXO 4 rfl<|sAdd (i:Int) 1<|jOI 2 rfl<|⟨(i+1,q2,(zs.set i b0),C0,B0,D0,s2),od,alB,((u2.pick 2 rfl).dropAt 2 rfl),om,mem_set hB om,by simp;omega,om,t2⟩
 refine drawG y0 [3,4,8,10,11] (fn) (pS [0,1,2,5,6,7]<| .f3 3 8 10 (.f3 4 8 10 (.fk 8 10 (pS [9]<| .ef 10<| .ef 11<| .fin) (.ef 8<|pS [9]<| .ef 11<| .fin)) (.fk 4 10 (pS [9]<| .ef 10<| .ef 11<| .fin) (.ef 4<|pS [9]<| .ef 11<| .fin)) (.fk 4 8 (.ef 8<|pS [9]<| .ef 11<| .fin) (.ef 4<|pS [9]<| .ef 11<| .fin))) (.fk 3 10 (.fk 4 10 (pS [9]<| .ef 10<| .ef 11<| .fin) (.ef 4<|pS [9]<| .ef 11<| .fin)) (.ef 3<| .ef 4<|pS [9]<| .ef 11<| .fin)) (.fk 3 8 (.fk 4 8 (.ef 8<|pS [9]<| .ef 11<| .fin) (.ef 4<|pS [9]<| .ef 11<| .fin)) (.ef 3<| .ef 4<|pS [9]<| .ef 11<| .fin))) fun _ s0=>qV 5<|qMul w0 h0<|qF3 ?_ ?_ ?_
 ·refine qO rfl<|sBK s0 #[I 255,I 255,I 65535,I 1,I 7] 3 fun _ _ t0=>nA<|qF3 ?_ ?_ ?_
  ·refine qO rfl ?_
   have w2:=(t0.pick 2 rfl)
   refine cZ (tape_pick (hR.fl 2) om w2.flat1 (RdT.flat (RdT.blk (enc:=Go.E.encI) (sz:=1) (xs:=[255,255,65535,1,7]) (fun _=>(by rfl)) 5 0 rfl rfl rfl om)) om om) ?_
   rintro _ _ ⟨a0,rfl,x2,i1,_,y2⟩
   have j1:=y2.unflat1
   have h8:(a0:Int)=255\/(a0:Int)=255\/(a0:Int)=65535\/(a0:Int)=1\/(a0:Int)=7:=by simpa using x2
   refine nA<|qF ?_ ?_
   ·exact qO rfl<|sMake (kl:= .i64) (kc:= .i64) (enc:=Go.E.encI) (sz:=1) (nb:=8) j1 0 ((w0*h0)).toNat (w0*h0) (om:(w0*h0)=((((w0*h0)).toNat:Nat):Int)) underlying22 (i:=Tryz.t3) kr fR fun k1 z2 _ a3 b3=>nA<|qV 1<|qO rfl<|sAlloc b3 zeroValue38 fun c3 _ d3=>nA<|qO rfl<|sTk d3 0 rfl [I w0,I h0,I a0, .slice (At k1 0) (((w0*h0)).toNat) (((w0*h0)).toNat)] fun _ e3=>nA<|qN<|jXI 0 rfl<|⟨(c3,a0,(At k1 0),z2,i1),alB,((e3.pick 2 rfl).dropAt 3 rfl),om,om,a3⟩
   exact qO rfl<|sAlloc j1 zeroValue38 fun h3 _ i3=>nA<|qO rfl<|sMake (kl:= .i64) (kc:= .i64) (enc:=Go.E.encI) (sz:=1) (nb:=8) i3 0 ((w0*h0)).toNat (w0*h0) (om:(w0*h0)=((((w0*h0)).toNat:Nat):Int)) underlying22 (i:=Tryz.t3) kr fR fun l1 j3 _ k3 l3=>nA<|qV 1<|qO rfl<|sTk l3 1 rfl [I w0,I h0,I a0, .slice (At l1 0) (((w0*h0)).toNat) (((w0*h0)).toNat)] fun _ m3=>nA<|qN<|jXI 0 rfl<|⟨(h3,a0,(At l1 0),j3,i1),alB,((m3.picks [1,2]).dropAt 3 rfl),om,om,k3⟩
  ·refine qO rfl<|sMake (kl:= .i64) (kc:= .i64) (enc:=Go.E.encI) (sz:=1) (nb:=8) t0 0 ((w0*h0)).toNat (w0*h0) (om:(w0*h0)=((((w0*h0)).toNat:Nat):Int)) underlying22 (i:=Tryz.t3) kr fR fun p0 m1 _ n1 o1=>nA<|qF ?_ ?_
   rotate_left
   · exact qO rfl<|sAlloc o1 zeroValue38 fun o3 _ p3=>nA<|qO rfl<|(by have q3:=(p3.pick 4 rfl);refine cZ (tape_pick (hR.fl 4) om q3.flat1 (RdT.flat (RdT.blk (enc:=Go.E.encI) (sz:=1) (xs:=[255,255,65535,1,7]) (fun _=>(by rfl)) 5 2 rfl rfl rfl om)) om om) ?_;rintro _ _ ⟨c0,rfl,r3,s3,_,u3⟩;have v3:=u3.unflat1;have s8:(c0:Int)=255\/(c0:Int)=255\/(c0:Int)=65535\/(c0:Int)=1\/(c0:Int)=7:=(by simpa using r3);exact nA<|qV 1<|qO rfl<|sTk v3 1 rfl [I w0,I h0,I c0, .slice (At p0 0) (((w0*h0)).toNat) (((w0*h0)).toNat)] fun _ w3=>nA<|qN<|jXI 0 rfl<|⟨(o3,c0,(At p0 0),m1,s3),alB,(w3.dropAt 3 rfl),om,om,n1⟩)
   refine qO rfl ?_
   have y3:=(o1.pick 3 rfl)
   refine cZ (tape_pick (hR.fl 3) om y3.flat1 (RdT.flat (RdT.blk (enc:=Go.E.encI) (sz:=1) (xs:=[255,255,65535,1,7]) (fun _=>(by rfl)) 5 1 rfl rfl rfl om)) om om) ?_
   rintro _ _ ⟨d0,rfl,z3,a4,_,b4⟩
   have c4:=b4.unflat1
   have w8:(d0:Int)=255\/(d0:Int)=255\/(d0:Int)=65535\/(d0:Int)=1\/(d0:Int)=7:=by simpa using z3
   exact nA<|qV 1<|qO rfl<|sAlloc c4 zeroValue38 fun d4 _ e4=>nA<|qO rfl<|sTk e4 0 rfl [I w0,I h0,I d0, .slice (At p0 0) (((w0*h0)).toNat) (((w0*h0)).toNat)] fun _ f4=>nA<|qN<|jXI 0 rfl<|⟨(d4,d0,(At p0 0),m1,a4),alB,((f4.pick 1 rfl).dropAt 3 rfl),om,om,n1⟩
  refine qO rfl<|sAlloc t0 zeroValue38 fun q1 _ r1=>nA<|qF ?_ ?_
  · exact qO rfl<|(by have h4:=(r1.pick 3 rfl);refine cZ (tape_pick (hR.fl 3) om h4.flat1 (RdT.flat (RdT.blk (enc:=Go.E.encI) (sz:=1) (xs:=[255,255,65535,1,7]) (fun _=>(by rfl)) 5 1 rfl rfl rfl om)) om om) ?_;rintro _ _ ⟨e0,rfl,i4,j4,_,k4⟩;have l4:=k4.unflat1;have c9:(e0:Int)=255\/(e0:Int)=255\/(e0:Int)=65535\/(e0:Int)=1\/(e0:Int)=7:=(by simpa using i4);exact nA<|qO rfl<|sMake (kl:= .i64) (kc:= .i64) (enc:=Go.E.encI) (sz:=1) (nb:=8) l4 0 ((w0*h0)).toNat (w0*h0) (om:(w0*h0)=((((w0*h0)).toNat:Nat):Int)) underlying22 (i:=Tryz.t3) kr fR fun s1 m4 _ n4 o4=>nA<|qV 1<|qO rfl<|sTk o4 2 rfl [I w0,I h0,I e0, .slice (At s1 0) (((w0*h0)).toNat) (((w0*h0)).toNat)] fun _ p4=>nA<|qN<|jXI 0 rfl<|⟨(q1,e0,(At s1 0),m4,j4),alB,((p4.picks [2,2]).dropAt 3 rfl),om,om,n4⟩)
  refine qO rfl<|sMake (kl:= .i64) (kc:= .i64) (enc:=Go.E.encI) (sz:=1) (nb:=8) r1 0 ((w0*h0)).toNat (w0*h0) (om:(w0*h0)=((((w0*h0)).toNat:Nat):Int)) underlying22 (i:=Tryz.t3) kr fR fun t1 r4 _ s4 t4=>nA<|qO rfl ?_
  have u4:=(t4.pick 4 rfl)
  refine cZ (tape_pick (hR.fl 4) om u4.flat1 (RdT.flat (RdT.blk (enc:=Go.E.encI) (sz:=1) (xs:=[255,255,65535,1,7]) (fun _=>(by rfl)) 5 2 rfl rfl rfl om)) om om) ?_
  rintro _ _ ⟨f0,rfl,v4,w4,_,x4⟩
  have y4:=x4.unflat1
  have i9:(f0:Int)=255\/(f0:Int)=255\/(f0:Int)=65535\/(f0:Int)=1\/(f0:Int)=7:=by simpa using v4
  exact nA<|qV 1<|qO rfl<|sTk y4 2 rfl [I w0,I h0,I f0, .slice (At t1 0) (((w0*h0)).toNat) (((w0*h0)).toNat)] fun _ z4=>nA<|qN<|jXI 0 rfl<|⟨(q1,f0,(At t1 0),r4,w4),alB,((z4.picks [2,1]).dropAt 3 rfl),om,om,s4⟩
 ·refine qO rfl<|sMake (kl:= .i64) (kc:= .i64) (enc:=Go.E.encI) (sz:=1) (nb:=8) s0 0 ((w0*h0)).toNat (w0*h0) (om:(w0*h0)=((((w0*h0)).toNat:Nat):Int)) underlying22 (i:=Tryz.t3) kr fR fun n0 u0 _ v0 u1=>nA<|qF ?_ ?_
  rotate_left
  · exact qO rfl<|sAlloc u1 zeroValue38 fun b5 _ c5=>nA<|qO rfl<|sBK c5 #[I 255,I 255,I 65535,I 1,I 7] 3 fun _ _ d5=>nA<|qO rfl<|(by have e5:=(d5.pick 4 rfl);refine cZ (tape_pick (hR.fl 4) om e5.flat1 (RdT.flat (RdT.blk (enc:=Go.E.encI) (sz:=1) (xs:=[255,255,65535,1,7]) (fun _=>(by rfl)) 5 0 rfl rfl rfl om)) om om) ?_;rintro _ _ ⟨g0,rfl,f5,g5,_,h5⟩;have i5:=h5.unflat1;have q9:(g0:Int)=255\/(g0:Int)=255\/(g0:Int)=65535\/(g0:Int)=1\/(g0:Int)=7:=(by simpa using f5);exact nA<|qV 1<|qO rfl<|sTk i5 2 rfl [I w0,I h0,I g0, .slice (At n0 0) (((w0*h0)).toNat) (((w0*h0)).toNat)] fun _ j5=>nA<|qN<|jXI 0 rfl<|⟨(b5,g0,(At n0 0),u0,g5),alB,(j5.dropAt 1 rfl),om,om,v0⟩)
  refine qO rfl<|sBK u1 #[I 255,I 255,I 65535,I 1,I 7] 3 fun _ _ v1=>nA<|qF ?_ ?_
  rotate_left
  · exact qO rfl<|sAlloc v1 zeroValue38 fun l5 _ m5=>nA<|qO rfl<|(by have n5:=(m5.pick 4 rfl);refine cZ (tape_pick (hR.fl 4) om n5.flat1 (RdT.flat (RdT.blk (enc:=Go.E.encI) (sz:=1) (xs:=[255,255,65535,1,7]) (fun _=>(by rfl)) 5 1 rfl rfl rfl om)) om om) ?_;rintro _ _ ⟨i0,rfl,o5,p5,_,q5⟩;have r5:=q5.unflat1;have x9:(i0:Int)=255\/(i0:Int)=255\/(i0:Int)=65535\/(i0:Int)=1\/(i0:Int)=7:=(by simpa using o5);exact nA<|qV 1<|qO rfl<|sTk r5 1 rfl [I w0,I h0,I i0, .slice (At n0 0) (((w0*h0)).toNat) (((w0*h0)).toNat)] fun _ s5=>nA<|qN<|jXI 0 rfl<|⟨(l5,i0,(At n0 0),u0,p5),alB,(s5.dropAt 2 rfl),om,om,v0⟩)
  refine qO rfl ?_
  have u5:=(v1.pick 3 rfl)
  refine cZ (tape_pick (hR.fl 3) om u5.flat1 (RdT.flat (RdT.blk (enc:=Go.E.encI) (sz:=1) (xs:=[255,255,65535,1,7]) (fun _=>(by rfl)) 5 0 rfl rfl rfl om)) om om) ?_
  rintro _ _ ⟨j0,rfl,v5,w5,_,x5⟩
  have y5:=x5.unflat1
  have ba:(j0:Int)=255\/(j0:Int)=255\/(j0:Int)=65535\/(j0:Int)=1\/(j0:Int)=7:=by simpa using v5
  exact nA<|qV 1<|qO rfl<|sAlloc y5 zeroValue38 fun z5 _ a6=>nA<|qO rfl<|sTk a6 0 rfl [I w0,I h0,I j0, .slice (At n0 0) (((w0*h0)).toNat) (((w0*h0)).toNat)] fun _ b6=>nA<|qN<|jXI 0 rfl<|⟨(z5,j0,(At n0 0),u0,w5),alB,((b6.pick 1 rfl).dropAt 2 rfl),om,om,v0⟩
 refine qO rfl<|sAlloc s0 zeroValue38 fun x0 _ w1=>nA<|qF ?_ ?_
 rotate_left
 · exact qO rfl<|sMake (kl:= .i64) (kc:= .i64) (enc:=Go.E.encI) (sz:=1) (nb:=8) w1 0 ((w0*h0)).toNat (w0*h0) (om:(w0*h0)=((((w0*h0)).toNat:Nat):Int)) underlying22 (i:=Tryz.t3) kr fR fun x1 d6 _ e6 f6=>nA<|qO rfl<|sBK f6 #[I 255,I 255,I 65535,I 1,I 7] 3 fun _ _ g6=>nA<|qO rfl<|(by have h6:=(g6.pick 4 rfl);refine cZ (tape_pick (hR.fl 4) om h6.flat1 (RdT.flat (RdT.blk (enc:=Go.E.encI) (sz:=1) (xs:=[255,255,65535,1,7]) (fun _=>(by rfl)) 5 0 rfl rfl rfl om)) om om) ?_;rintro _ _ ⟨k0,rfl,i6,j6,_,k6⟩;have l6:=k6.unflat1;have ka:(k0:Int)=255\/(k0:Int)=255\/(k0:Int)=65535\/(k0:Int)=1\/(k0:Int)=7:=(by simpa using i6);exact nA<|qV 1<|qO rfl<|sTk l6 3 rfl [I w0,I h0,I k0, .slice (At x1 0) (((w0*h0)).toNat) (((w0*h0)).toNat)] fun _ m6=>nA<|qN<|jXI 0 rfl<|⟨(x0,k0,(At x1 0),d6,j6),alB,((m6.picks [3,1]).dropAt 2 rfl),om,om,e6⟩)
 refine qO rfl<|sBK w1 #[I 255,I 255,I 65535,I 1,I 7] 3 fun _ _ y1=>nA<|qF ?_ ?_
 rotate_left
 · exact qO rfl<|sMake (kl:= .i64) (kc:= .i64) (enc:=Go.E.encI) (sz:=1) (nb:=8) y1 0 ((w0*h0)).toNat (w0*h0) (om:(w0*h0)=((((w0*h0)).toNat:Nat):Int)) underlying22 (i:=Tryz.t3) kr fR fun z1 o6 _ p6 q6=>nA<|qO rfl<|(by have r6:=(q6.pick 4 rfl);refine cZ (tape_pick (hR.fl 4) om r6.flat1 (RdT.flat (RdT.blk (enc:=Go.E.encI) (sz:=1) (xs:=[255,255,65535,1,7]) (fun _=>(by rfl)) 5 1 rfl rfl rfl om)) om om) ?_;rintro _ _ ⟨l0,rfl,s6,t6,_,u6⟩;have v6:=u6.unflat1;have ra:(l0:Int)=255\/(l0:Int)=255\/(l0:Int)=65535\/(l0:Int)=1\/(l0:Int)=7:=(by simpa using s6);exact nA<|qV 1<|qO rfl<|sTk v6 3 rfl [I w0,I h0,I l0, .slice (At z1 0) (((w0*h0)).toNat) (((w0*h0)).toNat)] fun _ w6=>nA<|qN<|jXI 0 rfl<|⟨(x0,l0,(At z1 0),o6,t6),alB,((w6.picks [3,1]).dropAt 3 rfl),om,om,p6⟩)
 refine qO rfl ?_
 have y6:=(y1.pick 3 rfl)
 refine cZ (tape_pick (hR.fl 3) om y6.flat1 (RdT.flat (RdT.blk (enc:=Go.E.encI) (sz:=1) (xs:=[255,255,65535,1,7]) (fun _=>(by rfl)) 5 0 rfl rfl rfl om)) om om) ?_
 rintro _ _ ⟨m0,rfl,z6,a7,_,c7⟩
 have d7:=c7.unflat1
 have va:(m0:Int)=255\/(m0:Int)=255\/(m0:Int)=65535\/(m0:Int)=1\/(m0:Int)=7:=by simpa using z6
 exact nA<|qO rfl<|sMake (kl:= .i64) (kc:= .i64) (enc:=Go.E.encI) (sz:=1) (nb:=8) d7 0 ((w0*h0)).toNat (w0*h0) (om:(w0*h0)=((((w0*h0)).toNat:Nat):Int)) underlying22 (i:=Tryz.t3) kr fR fun a2 e7 _ f7 g7=>nA<|qV 1<|qO rfl<|sTk g7 3 rfl [I w0,I h0,I m0, .slice (At a2 0) (((w0*h0)).toNat) (((w0*h0)).toNat)] fun _ h7=>nA<|qN<|jXI 0 rfl<|⟨(x0,m0,(At a2 0),e7,a7),alB,((h7.picks [3,2]).dropAt 3 rfl),om,om,f7⟩
theorem tg_plane {p:Nat} {a:Option Addr} {n k:Nat} {i:Int} {xs:List Int} (hR:RdT Go.E.encI 1 [H] a n k xs) (hi:0<=i/\i<=n) (hS:Sat W w ([(p, .cells #[.slice a n k,I i] 78 (0,0))]::H::F)):
  Calls prog 18 #[Pt p 0] w fun e w'=>∃(q:Plane) (G:Chunk),e= .returned (.agg (encPlane q).toArray)/\(Plane.Ok [G] q)/\((1<=q.w/\q.w<=6)/\(1<=q.h/\q.h<=5)/\planeOK q.v=true/\planeB q)/\∃i':Int,(0<=i'/\i'<=n)/\Sat W w' ([(p, .cells #[.slice a n k,I i'] 78 (0,0))]::G::H::F):=by
 have o0:=hR.le
 refine callsK 11 func18 rfl<|jCO 2 rfl<|sAlloc hS zeroValue38 fun _ _ f0=>jOO 6 rfl ?_
 have g0:=(f0.pick 1 rfl)
 refine cZ (tape_next (hR.fl 1) om g0.flat1 6 om) ?_
 rintro _ _ ⟨c0,rfl,_,_,_,h0⟩
 have i0:=h0.unflat1
 refine sAdd 1 c0<|pu1<|cZ (tape_next (hR.fl 1) om i0.flat1 5 om) ?_
 rintro _ _ ⟨d0,rfl,_,_,_,j0⟩
 have k0:=j0.unflat1
 refine sAdd 1 d0<|cZ (tg_sized (hR.fl 1) om k0.flat1 (1+c0) (1+d0) om) ?_
 rintro _ _ ⟨a0,l0,rfl,m0,b0,_,_,n0⟩
 exact sTk (Sat.unflat2 n0) 2 rfl (encPlane a0) fun _ e0=>jOR 3 rfl<|retN (vs:=[.agg (encPlane a0).toArray]) rfl (.cons (.cell _ _ _ _ kr (lvA e0 2 0 (encPlane a0) (isAgg38 _) (sizeOf38 _) rfl rfl rfl)) .nil)<|⟨a0,l0,rfl,m0,⟨by have h:=b0.1;omega,by have h:=b0.2.1;omega,b0.2.2⟩,_,om,(e0.dropAt 2 rfl)⟩
theorem tg_table {p:Nat} {a:Option Addr} {n k:Nat} {i:Int} {xs:List Int} (hR:RdT Go.E.encI 1 [H] a n k xs) (hi:0<=i/\i<=n) (hS:Sat W w ([(p, .cells #[.slice a n k,I i] 78 (0,0))]::H::F)) (n0:Int) (hn0:1<=n0/\n0<=128):
  Calls prog 61 #[Pt p 0,I n0] w fun e w'=>∃(az:Option Addr) (nz:Nat) (kz:Nat) (zs:List Tap) (G:Chunk),e= .returned (.slice az nz kz)/\(RdT encTap 2 [G] az nz kz zs)/\(∀z∈zs,Tap.Ok [G] z)/\(zs.length<=6/\∀z∈zs,tapB z)/\∃i':Int,(0<=i'/\i'<=n)/\Sat W w' ([(p, .cells #[.slice a n k,I i'] 78 (0,0))]::G::H::F):=by
 have O0:=hR.le
 refine callsK 57 func61 rfl<|jCO 8 rfl<|cZ (tape_next (hR.fl 0) om hS.flat1 6 om) ?_
 rintro _ _ ⟨a0,rfl,_,_,_,h1⟩
 have i1:=h1.unflat1
 refine sAdd 1 a0<|jOO 7 rfl<|sF #[I n0,I (1+a0),I 8] call98 (Calls.mono (r8_linear W _ _ [] n0 (1+a0) 8 i1.flat) ?_)
 rintro _ _ ⟨q0,b0,r0,s0,_,e0,f0,rfl,g0,t0,h0,u0⟩
 refine ⟨_,rfl,?_⟩
 have j1:=u0.unflat2;clear u0
 have J0:=g0.ll
 refine jOO 11 rfl ?_
 have k1:=(j1.pick 2 rfl)
 refine cZ (tape_next (hR.fl 2) om k1.flat1 2 om) ?_
 rintro _ _ ⟨l1,rfl,_,c0,_,m1⟩
 have v0:=m1.unflat1
 refine jOC 3 rfl<|cE l1 0 (fun n1=>(by refine jCO 5 rfl<|sF #[I n0,I (1+a0),I 8] call99 (Calls.mono (r8_box W _ _ [] n0 (1+a0) 8 v0.flat) ?_);rintro _ _ ⟨o1,q1,r1,s1,t1,l0,m0,rfl,o0,u1,w0,x0⟩;exact ⟨_,rfl,(by have y0:=x0.unflat2;clear x0;have K0:=o0.ll;exact jOC 13 rfl<|CE t1 0 (fun v1=>jCR 10 rfl<|retT [.slice q0 b0 r0]<|(by have w1:=(y0.drops [0,0]);have x1:Sat W _ ([(p, .cells #[.slice a n k,I c0] 78 (0,0))]::(f0++e0)::H::F):=Sat.perm (show Sat W _ ([(p, .cells #[.slice a n k,I c0] 78 (0,0))]::f0::e0::H::F) from w1) (by simp [Value.cells]);exact ⟨_,_,_,s0,(f0++e0),rfl,(g0.rd (fun p hp=>by simp [hp])),(fun z hz=>(t0 z hz).of_mem mS),⟨by have h:=h0.1;omega,h0.2⟩,_,om,x1⟩)) fun v1=>jCR 9 rfl<|retT [.slice o1 q1 r1]<|(by have y1:=((y0.pick 2 rfl).drops [3,3]);have z1:Sat W _ ([(p, .cells #[.slice a n k,I c0] 78 (0,0))]::(m0++l0)::H::F):=Sat.perm (show Sat W _ ([(p, .cells #[.slice a n k,I c0] 78 (0,0))]::m0::l0::H::F) from y1) (by simp [Value.cells]);exact ⟨_,_,_,s1,(m0++l0),rfl,(o0.rd (fun p hp=>by simp [hp])),(fun z hz=>(u1 z hz).of_mem mS),⟨by have h:=w0.1;omega,w0.2⟩,_,om,z1⟩))⟩)) fun n1=>?_
 refine jCC 9 rfl ?_
 have a2:=(v0.pick 2 rfl)
 refine loopF [0,1] (γ:=Nat×Int×(List Tap)×(Option Addr)×Nat×Nat×Chunk×Chunk) (fun ⟨i,G0,zs,F0,E0,H0,C0,B0⟩ R=>⟨[(10,I (i:Int)),(6, .slice F0 E0 H0)],B0::C0::[(p, .cells #[.slice a n k,I G0] 78 (0,0))]::R,b0-i,i<=b0/\(∀z∈zs,tapB z)/\(zs.length=b0)/\(zs.length<=6)/\(0<=G0/\G0<=n)/\OwnT encTap 121 2 F0 E0 H0 zs C0/\(∀z∈zs,Tap.Ok [B0] z)⟩) (0,c0,s0,q0,b0,r0,e0,f0) ⟨(a2.pick 2 rfl),om,h0.2,om,by have h:=h0.1;omega,om,g0,t0⟩ ?_
 rintro ⟨i,G0,zs,F0,E0,H0,C0,B0⟩ ρ _ ⟨z0,hi,hB,Q0,P0,N0,A0,D0⟩
 have M0:=A0.ll
 refine jCC 9 rfl<|CD ((i:Int)<(E0:Int)) (fun c2=>jCR 12 rfl<|retT [.slice F0 E0 H0]<|(by have d2:=(z0.pick 2 rfl);have e2:Sat W _ ([(p, .cells #[.slice a n k,I G0] 78 (0,0))]::(B0++C0)::H::F):=Sat.perm (show Sat W _ ([(p, .cells #[.slice a n k,I G0] 78 (0,0))]::B0::C0::H::F) from d2) (by simp [Value.cells]);exact ⟨_,_,_,zs,(B0++C0),rfl,(A0.rd (fun p hp=>by simp [hp])),(fun z hz=>(D0 z hz).of_mem mS),⟨om,hB⟩,_,om,e2⟩)) fun c2=>jCO 7 rfl ?_
 have f2:=(z0.pick 2 rfl)
 refine cZ (tape_next (hR.fl 2) om f2.flat1 4 om) ?_
 rintro _ _ ⟨g2,rfl,_,h2,_,i2⟩
 have a1:=i2.unflat1
 refine jOC 3 rfl<|CE g2 0 (fun j2=>jCO 5 rfl<|sAdd (i:Int) 1<|jOI 2 rfl<|⟨(i+1,h2,zs,F0,E0,H0,C0,B0),od,alB,(a1.picks [2,2]),om,hB,by first|omega|(simp;omega),by first|omega|(simp;omega),om,A0,D0⟩) fun j2=>jCO 5 rfl<|sAdd n0 6<|cZ (tape_next (hR.fl 2) om a1.flat1 (n0+6) om) ?_
 rintro _ _ ⟨d0,rfl,_,_,_,l2⟩
 have m2:=l2.unflat1
 refine sSub d0 4<|pu2<|cZ (tape_next (hR.fl 2) om m2.flat1 4 om) ?_
 rintro _ _ ⟨b1,rfl,_,_,_,n2⟩
 have o2:=n2.unflat1
 refine sAdd 1 b1<|cZ (tg_weights (hR.fl 2) om o2.flat1 (1+b1) om) ?_
 rintro _ _ ⟨i0,j0,k0,c1,d1,rfl,p0,e1,f1,_,q2⟩
 have r2:=q2.unflat2
 have L0:=p0.ll
 exact pu1<|sIO A0 (i:Int) i fun s2 _ _ t2 _ u2=>sStF r2 A0 u2 3 i 0 s2 (⟨(d0-4),⟨i0,j0,k0,c1⟩⟩:Tap) t2 (.agg #[I (d0-4), .slice i0 j0 k0]) [I (d0-4), .slice i0 j0 k0] sizeOf121 fun _ g1 v2 w2=>jOO 5 rfl<|sAdd (i:Int) 1<|jOI 2 rfl<|(by have x2:=(w2.picks [3,3,3]);exact ⟨(i+1,f1,(zs.set i (⟨(d0-4),⟨i0,j0,k0,c1⟩⟩:Tap)),F0,E0,H0,g1,(d1++B0)),od,alB,(Sat.perm (cs':=(d1++B0)::(g1::[(p, .cells #[.slice a n k,I f1] 78 (0,0))]::H::F)) x2 (by simp)),om,mem_set hB ⟨by unfold numB;dsimp only;omega,by have h:=e1.1;dsimp only;omega,e1.2⟩,by first|omega|(simp;omega),by first|omega|(simp;omega),om,v2,(mem_set (fun z hz=>(D0 z hz).of_mem mS) ⟨p0.of_mem mS⟩)⟩)
def opB (o:POp):Prop:=numB o.code/\numB o.arg
theorem tg_ops {p:Nat} {a:Option Addr} {n k:Nat} {i:Int} {xs:List Int} (hR:RdT Go.E.encI 1 [H] a n k xs) (hi:0<=i/\i<=n) (hS:Sat W w ([(p, .cells #[.slice a n k,I i] 78 (0,0))]::H::F)) (two:Bool):
  Calls prog 62 #[Pt p 0, .bool two] w fun e w'=>∃(az:Option Addr) (nz:Nat) (kz:Nat) (zs:List POp) (G:Chunk),e= .returned (.slice az nz kz)/\(RdT encPOp 2 [G] az nz kz zs)/\(zs.length<=9/\∀z∈zs,opB z)/\∃i':Int,(0<=i'/\i'<=n)/\Sat W w' ([(p, .cells #[.slice a n k,I i'] 78 (0,0))]::G::H::F):=by
 have J0:=hR.le
 refine callsK 55 func62 rfl<|jCO 8 rfl<|sBK hS #[I 0,I 0] 75 fun d0 _ f0=>jOC 3 rfl<|cutF f0 2 [0] (γ:=(Option Addr)×Nat×Nat×(List POp)×Chunk×Int) (fun ⟨a1,n1,k1,z1,c1,B0⟩ R=>⟨[(5, .slice a1 n1 k1)],[(p, .cells #[.slice a n k,I B0] 78 (0,0))]::c1::R,0,(0<=B0/\B0<=n)/\OwnT encPOp 75 2 a1 n1 k1 z1 c1/\(z1.length<=3/\∀z∈z1,opB z)⟩) ?_ ?_
 ·refine jCC 5 rfl<|CB two (fun k0=>jCI 1 rfl<|⟨((At d0 0),1,1,[(⟨0,0⟩:POp)],[(d0, .cells #[I 0,I 0] 75 (0,0))],i),alB,(f0.pick 1 rfl),om,(OwnT.blk (enc:=encPOp) (sz:=2) (b:=d0) (c:=#[I 0,I 0]) (E:=75) (xs:=[(⟨0,0⟩:POp)]) fR 1 rfl rfl rfl om),⟨by simp,(by intro z hz;simp at hz;subst hz;(unfold opB numB;dsimp only;omega))⟩⟩) fun k0=>jCO 4 rfl<|sBK f0 #[I 3,I 4,I 5,I 6,I 7,I 8,I 9] 3 fun _ _ n0=>?_
  have o0:=(n0.pick 2 rfl)
  refine cZ (tape_pick (hR.fl 2) om o0.flat1 (RdT.flat (RdT.blk (enc:=Go.E.encI) (sz:=1) (xs:=[3,4,5,6,7,8,9]) (fun _=>(by rfl)) 7 0 rfl rfl rfl om)) om om) ?_
  rintro _ _ ⟨a0,rfl,p0,q0,_,r0⟩
  have s0:=r0.unflat1
  have l3:(a0:Int)=3\/(a0:Int)=4\/(a0:Int)=5\/(a0:Int)=6\/(a0:Int)=7\/(a0:Int)=8\/(a0:Int)=9:=by simpa using p0
  exact pu1<|sBK s0 #[I 1,I 0,I a0,I 0] 75 fun _ _ t0=>sApp (nb:=16) t0 (OwnT.blk (enc:=encPOp) (sz:=2) (b:=d0) (c:=#[I 0,I 0]) (E:=75) (xs:=[(⟨0,0⟩:POp)]) fR 1 rfl rfl rfl om) 3 (RdT.blk (enc:=encPOp) (sz:=2) (xs:=[(⟨1,0⟩:POp),(⟨a0,0⟩:POp)]) fR 2 0 rfl rfl rfl om) underlying51 (i:=Tryz.t75) kr fR fun v0 w0 x0 _ y0 z0=>jOI 2 rfl<|⟨(v0,(1+2),w0,([(⟨0,0⟩:POp)]++[(⟨1,0⟩:POp),(⟨a0,0⟩:POp)]),x0,q0),alB,(z0.drops [0,1]),om,y0,⟨by simp,(by intro z hz;simp at hz;rcases hz with rfl|rfl|rfl<;>(unfold opB numB;dsimp only;omega))⟩⟩
 rintro ⟨a1,n1,k1,z1,c1,B0⟩ ρ _ ⟨d1,G0,F0,I0⟩
 refine jCO 4 rfl<|cZ (tape_next (hR.fl 1) om d1.flat1 4 om) ?_
 rintro _ _ ⟨e1,rfl,_,f1,_,g1⟩
 have h1:=g1.unflat1
 refine jOC 4 rfl<|loopF [0] (γ:=Nat×Int×Int×(List POp)×SO) (fun ⟨u,j,C0,zs,A0,m0,D0,u0⟩ R=>⟨[(6,I j),(5, .slice A0 m0 D0)],u0::[(p, .cells #[.slice a n k,I C0] 78 (0,0))]::R,3-u,u<=3/\(∀z∈zs,opB z)/\(zs.length<=3+2*u)/\((u:Int)+j<=3)/\(0<=C0/\C0<=n)/\OwnT encPOp 75 2 A0 m0 D0 zs u0⟩) (0,e1,f1,z1,a1,n1,k1,c1) ⟨(h1.pick 1 rfl),om,I0.2,om,om,om,F0⟩ ?_
 rintro ⟨u,j,C0,zs,A0,m0,D0,u0⟩ ρ _ ⟨i0,hu,hB,K0,hj,H0,l0⟩
 have E0:=l0.ll
 refine jCC 7 rfl<|CD (j>0) (fun j1=>jCR 12 rfl<|retT [.slice A0 m0 D0]<|⟨_,_,_,zs,u0,rfl,(l0.rdAt (cs:=[u0]) 0 rfl),⟨om,hB⟩,_,om,(i0.pick 1 rfl)⟩) fun j1=>jCO 7 rfl ?_
 have m1:=(i0.pick 1 rfl)
 refine cZ (tape_next (hR.fl 1) om m1.flat1 3 om) ?_
 rintro _ _ ⟨j0,rfl,_,o1,_,q1⟩
 have g0:=q1.unflat1
 refine jOC 9 rfl<|cE j0 0 (fun r1=>?_) (fun r1=>?_)
 rotate_left
 ·refine jCC 6 rfl<|cE j0 1 (fun s1=>?_) (fun s1=>?_)
  rotate_left
  ·exact jCO 3 rfl<|sBK g0 #[I 11,I 0] 75 fun _ _ t1=>sApp (nb:=16) t1 l0 2 (RdT.blk (enc:=encPOp) (sz:=2) (xs:=[(⟨11,0⟩:POp)]) fR 1 0 rfl rfl rfl om) underlying51 (i:=Tryz.t75) kr fR fun u1 v1 w1 _ x1 y1=>jOO 7 rfl<|sSub j 1<|jOI 2 rfl<|⟨(u+1,(j-1),o1,(zs++[(⟨11,0⟩:POp)]),u1,(m0+1),v1,w1),od,alB,((y1.pick 2 rfl).dropAt 1 rfl),om,(by
     intro z hz
     rcases List.mem_append.1 hz with h|h
     ·exact hB z h
     ·simp only [List.mem_cons,List.not_mem_nil,or_false] at h
      subst h;(unfold opB numB;dsimp only;omega)),by simp;omega,om,om,x1⟩
  refine jCO 3 rfl<|cZ (tape_next (hR.fl 1) om g0.flat1 4 om) ?_
  rintro _ _ ⟨h0,rfl,_,b2,_,c2⟩
  exact pu1<|sBK c2.unflat1 #[I 10,I h0] 75 fun _ _ e2=>sApp (nb:=16) e2 l0 2 (RdT.blk (enc:=encPOp) (sz:=2) (xs:=[(⟨10,h0⟩:POp)]) fR 1 0 rfl rfl rfl om) underlying51 (i:=Tryz.t75) kr fR fun f2 g2 h2 _ i2 j2=>jOO 7 rfl<|sSub j 1<|jOI 2 rfl<|⟨(u+1,(j-1),b2,(zs++[(⟨10,h0⟩:POp)]),f2,(m0+1),g2,h2),od,alB,((j2.pick 2 rfl).dropAt 1 rfl),om,(by
    intro z hz
    rcases List.mem_append.1 hz with h|h
    ·exact hB z h
    ·simp only [List.mem_cons,List.not_mem_nil,or_false] at h
     subst h;(unfold opB numB;dsimp only;omega)),by simp;omega,om,om,i2⟩
 refine jCO 4 rfl<|cZ (tape_next (hR.fl 1) om g0.flat1 300 om) ?_
 rintro _ _ ⟨e0,rfl,_,_,_,l2⟩
 refine sSub e0 100<|sBK l2.unflat1 #[I (e0-100),I 0,I 3,I (-2)] 3 fun _ _ n2=>?_
 have o2:=(n2.pick 1 rfl)
 refine cZ (tape_pick (hR.fl 2) om o2.flat1 (RdT.flat (RdT.blk (enc:=Go.E.encI) (sz:=1) (xs:=[(e0-100),0,3,-2]) (fun _=>(by rfl)) 4 0 rfl rfl rfl om)) om om) ?_
 rintro _ _ ⟨c0,rfl,q2,_,_,r2⟩
 have s2:=r2.unflat1
 have p4:(c0:Int)=(e0-100)\/(c0:Int)=0\/(c0:Int)=3\/(c0:Int)=(-2):=by simpa using q2
 refine pu2<|sBK s2 #[I 3,I 4,I 5,I 6,I 7,I 8,I 9] 3 fun _ _ t2=>?_
 have u2:=(t2.pick 1 rfl)
 refine cZ (tape_pick (hR.fl 3) om u2.flat1 (RdT.flat (RdT.blk (enc:=Go.E.encI) (sz:=1) (xs:=[3,4,5,6,7,8,9]) (fun _=>(by rfl)) 7 0 rfl rfl rfl om)) om om) ?_
 rintro _ _ ⟨b0,rfl,v2,w2,_,x2⟩
 have y2:=x2.unflat1
 have u4:(b0:Int)=3\/(b0:Int)=4\/(b0:Int)=5\/(b0:Int)=6\/(b0:Int)=7\/(b0:Int)=8\/(b0:Int)=9:=by simpa using v2
 exact pu1<|sBK y2 #[I 2,I c0,I b0,I 0] 75 fun _ _ z2=>sApp (nb:=16) z2 l0 4 (RdT.blk (enc:=encPOp) (sz:=2) (xs:=[(⟨2,c0⟩:POp),(⟨b0,0⟩:POp)]) fR 2 0 rfl rfl rfl om) underlying51 (i:=Tryz.t75) kr fR fun a3 b3 c3 _ d3 e3=>jOO 7 rfl<|sSub j 1<|jOI 2 rfl<|⟨(u+1,(j-1),w2,(zs++[(⟨2,c0⟩:POp),(⟨b0,0⟩:POp)]),a3,(m0+2),b3,c3),od,alB,((e3.pick 4 rfl).drops [1,2,2]),om,(by
   intro z hz
   rcases List.mem_append.1 hz with h|h
   ·exact hB z h
   ·simp only [List.mem_cons,List.not_mem_nil,or_false] at h
    rcases h with rfl|rfl<;>(unfold opB numB;dsimp only;omega)),by simp;omega,om,om,d3⟩
def stageB (k:Nat) (q:Stage):Prop:=(numB q.kind/\numB q.a/\numB q.b/\numB q.edgePolicy/\numB q.edgeFill/\numB q.kW/\numB q.kH/\numB q.shift/\numB q.shift2/\numB q.bins/\numB q.max_)/\(q.weights.l.length<=64/\∀z∈q.weights.l,numB z)/\(q.row.l.length<=64/\∀z∈q.row.l,numB z)/\(q.col.l.length<=64/\∀z∈q.col.l,numB z)/\(q.x.l.length<=6+k/\∀z∈q.x.l,tapB z)/\(q.y.l.length<=6+k/\∀z∈q.y.l,tapB z)/\(q.ops.l.length<=9+k/\∀z∈q.ops.l,opB z)
theorem zStage_ok {cs:List Chunk}:Stage.Ok cs zStage:=⟨rN,rN,rN,rN,(fun z hz=>by cases hz),rN,(fun z hz=>by cases hz),rN⟩
theorem nl0 {α:Type} {P:α->Prop} {m:Nat}:([]:List α).length<=m/\∀z∈([]:List α),P z:=⟨by simp,fun z hz=>by cases hz⟩
theorem tg_stage {p:Nat} {a:Option Addr} {n k:Nat} {i:Int} {xs:List Int} (hR:RdT Go.E.encI 1 [H] a n k xs) (hi:0<=i/\i<=n) (hS:Sat W w ([(p, .cells #[.slice a n k,I i] 78 (0,0))]::H::F)) (a0:Int) (s0:Shape) (b0:Int) (hs0:szP s0) (hab:numB a0/\numB b0):
  Calls prog 20 #[Pt p 0,I a0, .agg #[I s0.w,I s0.h,I s0.max_],I b0] w fun e w'=>∃(q:Stage) (G:Chunk),e= .returned (.agg (encStage q).toArray)/\(Stage.Ok [G] q)/\(stageB 0 q)/\(q.a=a0/\(q.b=-1\/(q.b=b0/\0<=b0)))/\∃i':Int,(0<=i'/\i'<=n)/\Sat W w' ([(p, .cells #[.slice a n k,I i'] 78 (0,0))]::G::H::F):=by
 have hle:=hR.le
 have hs1:=hs0;unfold szP at hs1;have hab1:=hab;unfold numB at hab1
 refine callsK 126 func20 rfl<|jCO 2 rfl<|sBox hS (.agg #[I s0.w,I s0.h,I s0.max_]) #[I s0.w,I s0.h,I s0.max_] fun _ _ j4=>sAlloc j4 zeroValue53 fun k4 _ l4=>jOO 5 rfl ?_
 have m4:=(l4.pick 2 rfl)
 refine cX call11 (tape_next (RdT.flat (hR.up 2 (by rfl))) om m4.flat1 6 om) ?_
 rintro _ _ ⟨d0,rfl,_,_,_,n4⟩
 have o4:=n4.unflat1
 refine sAdd 1 d0<|pu2<|cX call11 (tape_next (RdT.flat (hR.up 2 (by rfl))) om o4.flat1 4 om) ?_
 rintro _ _ ⟨e0,rfl,_,_,_,p4⟩
 have q4:=p4.unflat1
 refine pu2<|sAlloc q4 zeroValue53 fun r4 _ s4=>sTl s4 0 (encStage {zStage with kind:=(1+d0),a:=a0,b:=-1,barrier:=((e0:Int)==3)}) sizeOf53 fun _ t4=>jOO 5 rfl<|sBS t4 #[I 255,I 65535,I 15] runUnderlying22 sizeOf3 zeroValue3 fun _ _ u4=>?_
 have v4:=(u4.pick 2 rfl)
 refine cX call58 (tape_pick (RdT.flat (hR.up 4 (by rfl))) om v4.flat1 (RdT.flat (RdT.blk (enc:=Go.E.encI) (sz:=1) (xs:=[255,65535,15]) (fun _=>(by rfl)) 3 0 rfl rfl rfl om)) om om) ?_
 rintro _ _ ⟨c0,rfl,w4,x4,_,y4⟩
 have f0:=y4.unflat1
 have lb:(c0:Int)=255\/(c0:Int)=65535\/(c0:Int)=15:=by simpa using w4
 refine jOC 3 rfl<|cutF f0 5 [8,9] (γ:=Stage×Chunk×Int) (fun ⟨q,G1,itc⟩ R=>⟨[],G1::[(p, .cells #[.slice a n k,I itc] 78 (0,0))]::[(r4, .cells (encStage q).toArray 53 (0,0))]::[(k4, .cells (encStage zStage).toArray 53 (0,0))]::R,0,(0<=itc/\itc<=n)/\Stage.Ok [G1] q/\stageB 0 q/\(q.a=a0/\(q.b=-1\/(q.b=b0/\0<=b0)))⟩) ?_ ?_
 rotate_left
 ·rintro ⟨q,G1,itc⟩ ρ _ ⟨a1,hitc,hqok,hqB,hqab⟩
  exact gCO a1 3 [1802] rfl<|sTl a1 3 (encStage q) sizeOf53 fun _ b1=>jOR 3 rfl<|retN (vs:=[.agg (encStage q).toArray]) rfl (.cons (.cell _ _ _ _ kr (lvA b1 3 0 (encStage q) (isAgg53 _) (sizeOf53 _) rfl rfl rfl)) .nil)<|⟨q,G1,rfl,hqok,hqB,hqab,_,om,((b1.pick 1 rfl).drops [2,2])⟩
 refine gCC f0 13 [2] rfl<|cE (1+d0) 1 (fun a5=>?_) (fun a5=>?_)
 ·refine jCC 1 rfl<|drawG f0 [1,2,4,5,8,12,14,16,18,20,22] (fb 11 4 2 1<|fn) (Plan.sts [0,3,6,7,9,10]<|Plan.sts [11]<| .fk 1 4 (.fk 2 4 (Plan.sts [13]<| .ef 4<| .ef 5<| .ef 8<| .ef 12<| .ef 14<|Plan.sts [15]<| .ef 16<|Plan.sts [17]<| .ef 18<|Plan.sts [19]<| .ef 20<|Plan.sts [21]<| .ef 22<| .fin) (.ef 2<|Plan.sts [13]<| .ef 5<| .ef 8<| .ef 12<| .ef 14<|Plan.sts [15]<| .ef 16<|Plan.sts [17]<| .ef 18<|Plan.sts [19]<| .ef 20<|Plan.sts [21]<| .ef 22<| .fin)) (.ef 1<| .ef 2<|Plan.sts [13]<| .ef 5<| .ef 8<| .ef 12<| .ef 14<|Plan.sts [15]<| .ef 16<|Plan.sts [17]<| .ef 18<|Plan.sts [19]<| .ef 20<|Plan.sts [21]<| .ef 22<| .fin)) fun _ c1=>qU [0,3,6,7,9,10]<|qL 0<|qF ?_ ?_
  rotate_left
  ·refine qO rfl<|sBS c1 #[I 1,I 3,I 2] runUnderlying22 sizeOf3 zeroValue3 fun _ _ d1=>nZ d1 [5]<|qO rfl<|sBS d1 #[I 1,I 3,I 2,I 5] runUnderlying22 sizeOf3 zeroValue3 fun _ _ e1=>nZ e1 [6]<|qO rfl ?_
   have b5:=(e1.pick 2 rfl)
   refine cX call58 (tape_pick (RdT.flat (hR.up 6 (by rfl))) om b5.flat1 (RdT.flat (RdT.blk (enc:=Go.E.encI) (sz:=1) (xs:=[1,3,2,5]) (fun _=>(by rfl)) 4 0 rfl rfl rfl om)) om om) ?_
   rintro _ _ ⟨g0,rfl,c5,_,_,d5⟩
   have f1:=d5.unflat1
   have wb:(g0:Int)=1\/(g0:Int)=3\/(g0:Int)=2\/(g0:Int)=5:=by simpa using c5
   refine nZ f1 [6]<|qU [13]<|qO rfl<|cX call58 (tape_pick (RdT.flat (hR.up 6 (by rfl))) om f1.flat1 (RdT.flat (RdT.blk (enc:=Go.E.encI) (sz:=1) (xs:=[1,3,2]) (fun _=>(by rfl)) 3 1 rfl rfl rfl om)) om om) ?_
   rintro _ _ ⟨j0,rfl,e5,_,_,f5⟩
   have g1:=f5.unflat1
   have ac:(j0:Int)=1\/(j0:Int)=3\/(j0:Int)=2:=by simpa using e5
   refine nZ g1 [6]<|qO rfl<|cX call11 (tape_next (RdT.flat (hR.up 6 (by rfl))) om g1.flat1 4 om) ?_
   rintro _ _ ⟨h1,rfl,_,_,_,g5⟩
   have i1:=g5.unflat1
   refine nZ i1 [6]<|qO rfl<|cX call59 (tg_edge (RdT.flat (hR.up 6 (by rfl))) om i1.flat1 s0.max_ om) ?_
   rintro _ _ ⟨j1,k1,rfl,h5,_,_,i5⟩
   have j5:=i5.unflat1
   unfold numB at h5
   refine nA<|qO rfl<|tW j5 4 6 (I g0) sizeOf3 fun _ k5=>nA<|qU [15]<|qO rfl<|tW k5 4 7 (I j0) sizeOf3 fun _ l5=>nA<|qU [17]<|qO rfl<|tW l5 4 17 (I c0) sizeOf3 fun _ m5=>nA<|qU [19]<|qO rfl<|tW m5 4 11 (I h1) sizeOf3 fun _ n5=>nA<|qU [21]<|qO rfl<|tW n5 4 4 (.agg #[I j1,I k1]) sizeOf49 fun _ l1=>nA<|qN<|jXC 1 rfl ?_
   have hkk:=mul_bd (a:=g0) (b:=j0) (A:=5) (B:=3) om om
   refine gCO l1 6 [4,4] rfl<|sMul g0 j0<|cX call60 (tg_weights (RdT.flat (hR.up 6 (by rfl))) om l1.flat1 (g0*j0) om) ?_
   rintro _ _ ⟨m1,n1,o1,o5,p5,rfl,n0,q1,q5,_,r5⟩
   have s5:=r5.unflat2
   have hn_zs_218:=n0.len;have hl_zs_218:=n0.le
   refine pu1<|tW s5 5 8 (.slice m1 n1 o1) sizeOf22 fun _ t5=>jOI 2 rfl ?_
   exact ⟨(({zStage with kind:=(1+d0),a:=a0,b:=-1,barrier:=((e0:Int)==3),edgePolicy:=j1,edgeFill:=k1,kW:=g0,kH:=j0,weights:=⟨m1,n1,o1,o5⟩,shift:=h1,max_:=c0}:Stage),p5,q5),alB,((t5.pick 1 rfl).drops [2,2,2,4]),om,{zStage_ok with weights:=n0.of_mem mS},⟨(by simp only [numB,zStage];omega),⟨by have h:=q1.1;dsimp only;omega,q1.2⟩,nl0,nl0,nl0,nl0,nl0⟩,⟨rfl,by first|(left;rfl)|(right;exact ⟨rfl,om⟩)⟩⟩
  refine qO rfl<|sBS c1 #[I 1,I 3,I 2,I 5] runUnderlying22 sizeOf3 zeroValue3 fun _ _ o0=>nZ o0 [5]<|qF ?_ ?_
  ·refine qO rfl ?_
   have v5:=(o0.pick 1 rfl)
   refine cX call58 (tape_pick (RdT.flat (hR.up 5 (by rfl))) om v5.flat1 (RdT.flat (RdT.blk (enc:=Go.E.encI) (sz:=1) (xs:=[1,3,2,5]) (fun _=>(by rfl)) 4 0 rfl rfl rfl om)) om om) ?_
   rintro _ _ ⟨h0,rfl,w5,_,_,x5⟩
   have r1:=x5.unflat1
   have vc:(h0:Int)=1\/(h0:Int)=3\/(h0:Int)=2\/(h0:Int)=5:=by simpa using w5
   refine nZ r1 [5]<|qU [13]<|qO rfl<|sBS r1 #[I 1,I 3,I 2] runUnderlying22 sizeOf3 zeroValue3 fun _ _ s1=>nZ s1 [6]<|qO rfl ?_
   have y5:=(s1.pick 1 rfl)
   refine cX call58 (tape_pick (RdT.flat (hR.up 6 (by rfl))) om y5.flat1 (RdT.flat (RdT.blk (enc:=Go.E.encI) (sz:=1) (xs:=[1,3,2]) (fun _=>(by rfl)) 3 0 rfl rfl rfl om)) om om) ?_
   rintro _ _ ⟨k0,rfl,z5,_,_,a6⟩
   have t1:=a6.unflat1
   have bd:(k0:Int)=1\/(k0:Int)=3\/(k0:Int)=2:=by simpa using z5
   refine nZ t1 [6]<|qO rfl<|cX call11 (tape_next (RdT.flat (hR.up 6 (by rfl))) om t1.flat1 4 om) ?_
   rintro _ _ ⟨u1,rfl,_,_,_,b6⟩
   have v1:=b6.unflat1
   refine nZ v1 [6]<|qO rfl<|cX call59 (tg_edge (RdT.flat (hR.up 6 (by rfl))) om v1.flat1 s0.max_ om) ?_
   rintro _ _ ⟨w1,x1,rfl,c6,_,_,d6⟩
   have e6:=d6.unflat1
   unfold numB at c6
   refine nA<|qO rfl<|tW e6 4 6 (I h0) sizeOf3 fun _ f6=>nA<|qU [15]<|qO rfl<|tW f6 4 7 (I k0) sizeOf3 fun _ g6=>nA<|qU [17]<|qO rfl<|tW g6 4 17 (I c0) sizeOf3 fun _ h6=>nA<|qU [19]<|qO rfl<|tW h6 4 11 (I u1) sizeOf3 fun _ i6=>nA<|qU [21]<|qO rfl<|tW i6 4 4 (.agg #[I w1,I x1]) sizeOf49 fun _ y1=>nA<|qN<|jXC 1 rfl ?_
   have hkk:=mul_bd (a:=h0) (b:=k0) (A:=5) (B:=3) om om
   refine gCO y1 6 [4,4] rfl<|sMul h0 k0<|cX call60 (tg_weights (RdT.flat (hR.up 6 (by rfl))) om y1.flat1 (h0*k0) om) ?_
   rintro _ _ ⟨z1,a2,b2,j6,k6,rfl,p0,c2,l6,_,m6⟩
   have n6:=m6.unflat2
   have hn_zs_95:=p0.len;have hl_zs_95:=p0.le
   refine pu1<|tW n6 5 8 (.slice z1 a2 b2) sizeOf22 fun _ o6=>jOI 2 rfl ?_
   exact ⟨(({zStage with kind:=(1+d0),a:=a0,b:=-1,barrier:=((e0:Int)==3),edgePolicy:=w1,edgeFill:=x1,kW:=h0,kH:=k0,weights:=⟨z1,a2,b2,j6⟩,shift:=u1,max_:=c0}:Stage),k6,l6),alB,((o6.pick 1 rfl).drops [2,2,2,4]),om,{zStage_ok with weights:=p0.of_mem mS},⟨(by simp only [numB,zStage];omega),⟨by have h:=c2.1;dsimp only;omega,c2.2⟩,nl0,nl0,nl0,nl0,nl0⟩,⟨rfl,by first|(left;rfl)|(right;exact ⟨rfl,om⟩)⟩⟩
  refine qO rfl<|sBS o0 #[I 1,I 3,I 2] runUnderlying22 sizeOf3 zeroValue3 fun _ _ d2=>nZ d2 [6]<|qO rfl ?_
  have q6:=(d2.pick 2 rfl)
  refine cX call58 (tape_pick (RdT.flat (hR.up 6 (by rfl))) om q6.flat1 (RdT.flat (RdT.blk (enc:=Go.E.encI) (sz:=1) (xs:=[1,3,2,5]) (fun _=>(by rfl)) 4 1 rfl rfl rfl om)) om om) ?_
  rintro _ _ ⟨i0,rfl,r6,_,_,s6⟩
  have e2:=s6.unflat1
  have yd:(i0:Int)=1\/(i0:Int)=3\/(i0:Int)=2\/(i0:Int)=5:=by simpa using r6
  refine nZ e2 [6]<|qU [13]<|qO rfl<|cX call58 (tape_pick (RdT.flat (hR.up 6 (by rfl))) om e2.flat1 (RdT.flat (RdT.blk (enc:=Go.E.encI) (sz:=1) (xs:=[1,3,2]) (fun _=>(by rfl)) 3 0 rfl rfl rfl om)) om om) ?_
  rintro _ _ ⟨l0,rfl,t6,_,_,u6⟩
  have f2:=u6.unflat1
  have ce:(l0:Int)=1\/(l0:Int)=3\/(l0:Int)=2:=by simpa using t6
  refine nZ f2 [6]<|qO rfl<|cX call11 (tape_next (RdT.flat (hR.up 6 (by rfl))) om f2.flat1 4 om) ?_
  rintro _ _ ⟨g2,rfl,_,_,_,v6⟩
  have h2:=v6.unflat1
  refine nZ h2 [6]<|qO rfl<|cX call59 (tg_edge (RdT.flat (hR.up 6 (by rfl))) om h2.flat1 s0.max_ om) ?_
  rintro _ _ ⟨i2,j2,rfl,w6,_,_,x6⟩
  have y6:=x6.unflat1
  unfold numB at w6
  refine nA<|qO rfl<|tW y6 4 6 (I i0) sizeOf3 fun _ z6=>nA<|qU [15]<|qO rfl<|tW z6 4 7 (I l0) sizeOf3 fun _ a7=>nA<|qU [17]<|qO rfl<|tW a7 4 17 (I c0) sizeOf3 fun _ b7=>nA<|qU [19]<|qO rfl<|tW b7 4 11 (I g2) sizeOf3 fun _ c7=>nA<|qU [21]<|qO rfl<|tW c7 4 4 (.agg #[I i2,I j2]) sizeOf49 fun _ k2=>nA<|qN<|jXC 1 rfl ?_
  have hkk:=mul_bd (a:=i0) (b:=l0) (A:=5) (B:=3) om om
  refine gCO k2 6 [4,4] rfl<|sMul i0 l0<|cX call60 (tg_weights (RdT.flat (hR.up 6 (by rfl))) om k2.flat1 (i0*l0) om) ?_
  rintro _ _ ⟨l2,m2,n2,d7,e7,rfl,q0,o2,f7,_,g7⟩
  have h7:=g7.unflat2
  have hn_zs_155:=q0.len;have hl_zs_155:=q0.le
  refine pu1<|tW h7 5 8 (.slice l2 m2 n2) sizeOf22 fun _ i7=>jOI 2 rfl ?_
  exact ⟨(({zStage with kind:=(1+d0),a:=a0,b:=-1,barrier:=((e0:Int)==3),edgePolicy:=i2,edgeFill:=j2,kW:=i0,kH:=l0,weights:=⟨l2,m2,n2,d7⟩,shift:=g2,max_:=c0}:Stage),e7,f7),alB,((i7.pick 1 rfl).drops [2,2,2,4]),om,{zStage_ok with weights:=q0.of_mem mS},⟨(by simp only [numB,zStage];omega),⟨by have h:=o2.1;dsimp only;omega,o2.2⟩,nl0,nl0,nl0,nl0,nl0⟩,⟨rfl,by first|(left;rfl)|(right;exact ⟨rfl,om⟩)⟩⟩
 refine jCC 6 rfl<|cE (1+d0) 2 (fun k7=>?_) (fun k7=>?_)
 ·refine drawF f0 [2,4,7,9,12,14,18,20,22,24,26,28,30] (fb 17 4 2 1<|fn) [0,1,5,6,10,11,13,15,16,17,2,3,4,19,7,8,9,12,14,18,20,21,22,23,24,25,26,27,28,29,30] fun _ l7=>wV 9<|wL 0<|wO rfl<|cX call11 (tape_next (RdT.flat (hR.up 4 (by rfl))) om l7.flat1 4 om) ?_
  rintro _ _ ⟨q2,rfl,_,_,_,m7⟩
  have r2:=m7.unflat1
  refine nZ r2 [4]<|wAdd 1 q2<|wO rfl<|cX call60 (tg_weights (RdT.flat (hR.up 4 (by rfl))) om r2.flat1 (1+q2) om) ?_
  rintro _ _ ⟨s2,t2,u2,n7,o7,rfl,r0,v2,_,_,p7⟩
  have w2:=p7.unflat2
  have hn_zs_242:=r0.len;have hl_zs_242:=r0.le
  refine nZ w2 [5]<|wV 1<|wO rfl<|cX call11 (tape_next (RdT.flat (hR.up 5 (by rfl))) om w2.flat1 4 om) ?_
  rintro _ _ ⟨x2,rfl,_,_,_,q7⟩
  have y2:=q7.unflat1
  refine nZ y2 [5]<|wAdd 1 x2<|wO rfl<|cX call60 (tg_weights (RdT.flat (hR.up 5 (by rfl))) om y2.flat1 (1+x2) om) ?_
  rintro _ _ ⟨z2,a3,b3,r7,s7,rfl,t0,c3,_,_,t7⟩
  have d3:=t7.unflat2
  have hn_zs_261:=t0.len;have hl_zs_261:=t0.le
  refine nZ d3 [6]<|wO rfl<|cX call11 (tape_next (RdT.flat (hR.up 6 (by rfl))) om d3.flat1 3 om) ?_
  rintro _ _ ⟨e3,rfl,_,_,_,u7⟩
  have f3:=u7.unflat1
  refine nZ f3 [6]<|wO rfl<|cX call11 (tape_next (RdT.flat (hR.up 6 (by rfl))) om f3.flat1 4 om) ?_
  rintro _ _ ⟨g3,rfl,_,_,_,v7⟩
  have h3:=v7.unflat1
  refine nZ h3 [6]<|wO rfl<|cX call59 (tg_edge (RdT.flat (hR.up 6 (by rfl))) om h3.flat1 s0.max_ om) ?_
  rintro _ _ ⟨i3,j3,rfl,w7,x7,_,y7⟩
  have z7:=y7.unflat1
  unfold numB at w7
  refine nA<|wO rfl<|tW z7 4 9 (.slice s2 t2 u2) sizeOf22 fun _ a8=>nA<|wV 1<|wO rfl<|tW a8 4 10 (.slice z2 a3 b3) sizeOf22 fun _ b8=>nA<|wV 1<|wO rfl<|tW b8 4 17 (I c0) sizeOf3 fun _ c8=>nA<|wV 1<|wO rfl<|tW c8 4 11 (I e3) sizeOf3 fun _ d8=>nA<|wV 1<|wO rfl<|tW d8 4 12 (I g3) sizeOf3 fun _ e8=>nA<|wV 1<|wO rfl<|tW e8 4 4 (.agg #[I i3,I j3]) sizeOf49 fun _ f8=>nA<|wN<|jXI 1 rfl ?_
  have g8:=((f8.picks [1,2]).drops [3,5])
  exact ⟨(({zStage with kind:=(1+d0),a:=a0,b:=-1,barrier:=((e0:Int)==3),edgePolicy:=i3,edgeFill:=j3,row:=⟨s2,t2,u2,n7⟩,col:=⟨z2,a3,b3,r7⟩,shift:=e3,shift2:=g3,max_:=c0}:Stage),(o7++s7),x7),alB,g8.merge2,om,{zStage_ok with row:=r0.of_mem mS,col:=t0.of_mem mS},⟨(by simp only [numB,zStage];omega),nl0,⟨by have h:=v2.1;dsimp only;omega,v2.2⟩,⟨by have h:=c3.1;dsimp only;omega,c3.2⟩,nl0,nl0,nl0⟩,⟨rfl,by first|(left;rfl)|(right;exact ⟨rfl,om⟩)⟩⟩
 refine jCC 6 rfl<|cE (1+d0) 3 (fun i8=>?_) (fun i8=>?_)
 ·refine drawF f0 [3,7,12,14,16,18,20,22,24] (fb 2 4 0 1<|fb 6 4 1 1<|fb 11 4 2 1<|fn) [0,1,4,5,8,9,10,2,6,11,3,13,7,12,14,15,16,17,18,19,20,21,22,23,24] fun _ j8=>wV 7<|wL 0<|wL 1<|wL 2<|wO rfl<|cX call61 (tg_table (RdT.flat (hR.up 4 (by rfl))) om j8.flat1 s0.w om) ?_
  rintro _ _ ⟨k3,l3,m3,k8,l8,rfl,u0,m8,n3,_,_,n8⟩
  have o3:=n8.unflat2
  have hn_zs_311:=u0.len;have hl_zs_311:=u0.le
  refine nZ o3 [5,5]<|wV 1<|wO rfl<|cX call61 (tg_table (RdT.flat (hR.up 5 (by rfl))) om o3.flat1 s0.h om) ?_
  rintro _ _ ⟨p3,q3,r3,o8,p8,rfl,v0,q8,s3,_,_,r8⟩
  have t3:=r8.unflat2
  have hn_zs_324:=v0.len;have hl_zs_324:=v0.le
  refine nZ t3 [6]<|wO rfl<|cX call59 (tg_edge (RdT.flat (hR.up 6 (by rfl))) om t3.flat1 s0.max_ om) ?_
  rintro _ _ ⟨u3,v3,rfl,s8,t8,_,u8⟩
  have v8:=u8.unflat1
  unfold numB at s8
  refine nA<|wO rfl<|tW v8 4 13 (.slice k3 l3 m3) sizeOf50 fun _ w8=>nA<|wV 1<|wO rfl<|tW w8 4 14 (.slice p3 q3 r3) sizeOf50 fun _ x8=>nA<|wV 1<|wO rfl<|tW x8 4 17 (I c0) sizeOf3 fun _ y8=>nA<|wV 1<|wO rfl<|tW y8 4 11 (I 8) sizeOf3 fun _ z8=>nA<|wV 1<|wO rfl<|tW z8 4 12 (I 8) sizeOf3 fun _ a9=>nA<|wV 1<|wO rfl<|tW a9 4 4 (.agg #[I u3,I v3]) sizeOf49 fun _ b9=>nA<|wN<|jXI 1 rfl ?_
  have c9:=((b9.picks [1,2]).drops [3,5])
  exact ⟨(({zStage with kind:=(1+d0),a:=a0,b:=-1,barrier:=((e0:Int)==3),edgePolicy:=u3,edgeFill:=v3,shift:=8,shift2:=8,x:=⟨k3,l3,m3,k8⟩,y:=⟨p3,q3,r3,o8⟩,max_:=c0}:Stage),(l8++p8),t8),alB,c9.merge2,om,{zStage_ok with x:=u0.of_mem mS,xD:=fun z hz=>(m8 z hz).of_mem mS,y:=v0.of_mem mS,yD:=fun z hz=>(q8 z hz).of_mem mS},⟨(by simp only [numB,zStage];omega),nl0,nl0,nl0,⟨by have h:=n3.1;dsimp only;omega,n3.2⟩,⟨by have h:=s3.1;dsimp only;omega,s3.2⟩,nl0⟩,⟨rfl,by first|(left;rfl)|(right;exact ⟨rfl,om⟩)⟩⟩
 refine jCC 6 rfl<|cE (1+d0) 4 (fun e9=>?_) (fun e9=>?_)
 ·refine jCO 2 rfl<|sBS f0 #[I 4,I 1,I 7] runUnderlying22 sizeOf3 zeroValue3 fun _ _ f9=>?_
  have g9:=(f9.pick 1 rfl)
  refine cX call58 (tape_pick (RdT.flat (hR.up 5 (by rfl))) om g9.flat1 (RdT.flat (RdT.blk (enc:=Go.E.encI) (sz:=1) (xs:=[4,1,7]) (fun _=>(by rfl)) 3 0 rfl rfl rfl om)) om om) ?_
  rintro _ _ ⟨m0,rfl,h9,i9,_,j9⟩
  have k9:=j9.unflat1
  have sg:(m0:Int)=4\/(m0:Int)=1\/(m0:Int)=7:=by simpa using h9
  refine pu1<|tW k9 3 15 (I m0) sizeOf3 fun _ l9=>jOI 2 rfl ?_
  have m9:=(l9.drops [1,1,3])
  exact ⟨(({zStage with kind:=(1+d0),a:=a0,b:=-1,barrier:=((e0:Int)==3),bins:=m0}:Stage),[],i9),alB,(Sat.nilc m9),om,{zStage_ok with},⟨(by simp only [numB,zStage];omega),nl0,nl0,nl0,nl0,nl0,nl0⟩,⟨rfl,by first|(left;rfl)|(right;exact ⟨rfl,om⟩)⟩⟩
 refine jCC 6 rfl<|cE (1+d0) 6 (fun o9=>?_) (fun o9=>?_)
 rotate_left
 ·refine jCI 2 rfl ?_
  have p9:=(f0.drops [1,3])
  exact ⟨(({zStage with kind:=(1+d0),a:=a0,b:=-1,barrier:=((e0:Int)==3)}:Stage),[],x4),alB,(Sat.nilc p9),om,{zStage_ok with},⟨(by simp only [numB,zStage];omega),nl0,nl0,nl0,nl0,nl0,nl0⟩,⟨rfl,by first|(left;rfl)|(right;exact ⟨rfl,om⟩)⟩⟩
 refine jCO 6 rfl<|sD 110 (b0>=0) (fun r9=>?_) (fun r9=>?_)
 rotate_left
 ·refine gOO f0 14 [2] rfl<|cX call62 (tg_ops (RdT.flat (hR.up 4 (by rfl))) om f0.flat1 false) ?_
  rintro _ _ ⟨w3,x3,y3,s9,t9,rfl,w0,z3,u9,_,v9⟩
  have w9:=v9.unflat2
  have hn_zs_422:=w0.len;have hl_zs_422:=w0.le
  refine pu2<|tW w9 3 16 (.slice w3 x3 y3) sizeOf51 fun _ x9=>pu1<|tW x9 3 17 (I c0) sizeOf3 fun _ y9=>jOI 2 rfl ?_
  exact ⟨(({zStage with kind:=(1+d0),a:=a0,b:=-1,barrier:=((e0:Int)==3),ops:=⟨w3,x3,y3,s9⟩,max_:=c0}:Stage),t9,u9),alB,((y9.pick 1 rfl).drops [2,4]),om,{zStage_ok with ops:=w0.of_mem mS},⟨(by simp only [numB,zStage];omega),nl0,nl0,nl0,nl0,nl0,⟨by have h:=z3.1;dsimp only;omega,z3.2⟩⟩,⟨rfl,by first|(left;rfl)|(right;exact ⟨rfl,om⟩)⟩⟩
 refine pu1<|gY<|cX call11 (tape_next (RdT.flat (hR.up 4 (by rfl))) om f0.flat1 2 om) ?_
 rintro _ _ ⟨aa,rfl,_,_,_,ba⟩
 have x0:=ba.unflat1
 refine jOC 4 rfl<|cE aa 0 (fun ca=>?_) (fun ca=>?_)
 rotate_left
 ·refine gCO x0 7 [2] rfl<|cX call62 (tg_ops (RdT.flat (hR.up 4 (by rfl))) om x0.flat1 false) ?_
  rintro _ _ ⟨a4,b4,c4,da,ea,rfl,y0,d4,fa,_,ga⟩
  have ha:=ga.unflat2
  have hn_zs_405:=y0.len;have hl_zs_405:=y0.le
  refine pu2<|tW ha 3 16 (.slice a4 b4 c4) sizeOf51 fun _ ia=>pu1<|tW ia 3 17 (I c0) sizeOf3 fun _ ja=>jOI 2 rfl ?_
  exact ⟨(({zStage with kind:=(1+d0),a:=a0,b:=-1,barrier:=((e0:Int)==3),ops:=⟨a4,b4,c4,da⟩,max_:=c0}:Stage),ea,fa),alB,((ja.pick 1 rfl).drops [2,4]),om,{zStage_ok with ops:=y0.of_mem mS},⟨(by simp only [numB,zStage];omega),nl0,nl0,nl0,nl0,nl0,⟨by have h:=d4.1;dsimp only;omega,d4.2⟩⟩,⟨rfl,by first|(left;rfl)|(right;exact ⟨rfl,om⟩)⟩⟩
 refine jCO 3 rfl<|tW x0 2 2 (I b0) sizeOf3 fun _ e4=>gOO e4 7 [2] rfl<|cX call62 (tg_ops (RdT.flat (hR.up 4 (by rfl))) om e4.flat1 (decide ((b0:Int)>=0))) ?_
 rintro _ _ ⟨f4,g4,h4,la,ma,rfl,z0,i4,na,_,oa⟩
 have pa:=oa.unflat2
 have hn_zs_388:=z0.len;have hl_zs_388:=z0.le
 refine pu2<|tW pa 3 16 (.slice f4 g4 h4) sizeOf51 fun _ qa=>pu1<|tW qa 3 17 (I c0) sizeOf3 fun _ ra=>jOI 2 rfl ?_
 exact ⟨(({zStage with kind:=(1+d0),a:=a0,b:=b0,barrier:=((e0:Int)==3),ops:=⟨f4,g4,h4,la⟩,max_:=c0}:Stage),ma,na),alB,((ra.pick 1 rfl).drops [2,4]),om,{zStage_ok with ops:=z0.of_mem mS},⟨(by simp only [numB,zStage];omega),nl0,nl0,nl0,nl0,nl0,⟨by have h:=i4.1;dsimp only;omega,i4.2⟩⟩,⟨rfl,by first|(left;rfl)|(right;exact ⟨rfl,om⟩)⟩⟩
theorem tg_shapes {p:Nat} {a:Option Addr} {n k:Nat} {i:Int} {xs:List Int} (hR:RdT Go.E.encI 1 [H] a n k xs) (hi:0<=i/\i<=n) (hS:Sat W w ([(p, .cells #[.slice a n k,I i] 78 (0,0))]::H::F)) (j0:Job) (hj0:Job.Ok [H] j0) (l0:List Shape) (hgood:Good (j0.inputs.l.map Plane.v) (j0.stages.l.map Stage.v) j0.priority) (hrun:runS ((j0.inputs.l.map Plane.v).map shpOf) (j0.stages.l.map Stage.v)=some l0):
  Calls prog 31 #[Pt p 0, .agg (encJob j0).toArray] w fun e w'=>∃(az:Option Addr) (nz:Nat) (kz:Nat) (G:Chunk),e= .returned (.slice az nz kz)/\(RdT encShape 3 [G] az nz kz l0)/\∃i':Int,(0<=i'/\i'<=n)/\Sat W w' ([(p, .cells #[.slice a n k,I i'] 78 (0,0))]::G::H::F):=by
 have x0:=hj0.inputs.le;have t0:=hj0.inputs.len
 have A0:=hj0.stages.le;have u0:=hj0.stages.len
 have v0:=hj0.outputs.ll
 have S0:=hR.le
 have R0:(j0.inputs.l.map Plane.v).length=j0.inputs.n:=by simp [t0]
 have L0:(j0.stages.l.map Stage.v).length=j0.stages.n:=by simp [u0]
 have O0:=hgood.ni;have P0:=hgood.ns
 refine callsK 40 func31 rfl<|jCO 2 rfl<|sBx hS (encJob j0) fun i0 _ c0=>gOC c0 12 [0] rfl<|CE (j0.stages.n:Int) 0 (fun k0=>jCO 4 rfl<|sBK c0 #[I 0] 3 fun d0 _ m0=>pu1<|tWk m0 1 rfl 2 (.slice (At d0 0) 1 1) fun _ h0=>gOO h0 5 [401] rfl<|cZ (r17_shapes (⟨j0.inputs,j0.stages,⟨(At d0 0),1,1,[0]⟩,j0.priority⟩:Job) ⟨(hj0.inputs.fl 3),(fun z hz=>(hj0.inputsD z hz).of_mem (mF 3)),(hj0.stages.fl 3),(fun z hz=>(hj0.stagesD z hz).of_mem (mF 3)),(RdT.flat (RdT.blk (enc:=Go.E.encI) (sz:=1) (xs:=[0]) (fun _=>(by rfl)) 1 0 rfl rfl rfl om))⟩ (od) h0.flat)<|(by rintro _ _ ⟨n0,o0,p0,q0,rfl,f0,r0⟩;have s0:=r0.unflat1;have E0:=f0.ll;refine jOR 16 rfl<|retT [.slice n0 o0 p0] ?_;have K0:l0=(shpV (jobOf (j0.inputs.l.map Plane.v) (j0.stages.l.map Stage.v) j0.priority)).1:=(by rw [(shp_run hgood (by rw [L0];omega)).1 l0 hrun]);have F0:=f0;have e0:((shpV (⟨j0.inputs,j0.stages,⟨(At d0 0),1,1,[0]⟩,j0.priority⟩:Job).v).1)=l0:=K0.symm;rw [e0] at F0;exact ⟨_,_,_,q0,rfl,F0,_,om,((s0.pick 3 rfl).drops [2,2])⟩)) fun k0=>?_
 refine jCC 12 rfl<|loopF [3] (γ:=Nat×Int×(List Shape)×SO) (fun ⟨i,G0,zs,I0,H0,J0,C0⟩ R=>⟨[(6,I (i:Int)),(5, .slice I0 H0 J0)],C0::[(i0, .cells (encJob j0).toArray 28 (0,0))]::[(p, .cells #[.slice a n k,I G0] 78 (0,0))]::R,j0.inputs.n-i,i<=j0.inputs.n/\(zs=((j0.inputs.l.map Plane.v).take i).map shpOf)/\(zs.length=i)/\(0<=G0/\G0<=n)/\OwnT encShape 65 3 I0 H0 J0 zs C0⟩) (0,i,[],none,0,0,[]) ⟨(Sat.nilc c0),om,by rfl,by rfl,om,(OwnT.nil (enc:=encShape) (E:=65) (sz:=3) fR)⟩ ?_
 rintro ⟨i,G0,zs,I0,H0,J0,C0⟩ ρ _ ⟨b0,hi,N0,T0,Q0,B0⟩
 have M0:=B0.ll
 exact gCC b0 10 [1] rfl<|CD ((i:Int)<(j0.inputs.n:Int)) (fun w0=>jCR 13 rfl<|retT [.slice I0 H0 J0]<|(by have K0:l0=zs:=(by have h:=hrun;rw [show (j0.stages.l.map Stage.v)=[] from List.eq_nil_of_length_eq_zero (by rw [L0];omega)] at h;simp only [runS,Option.some.injEq] at h;rw [<-h,N0,List.take_of_length_le (by rw [R0];omega)]);have F0:=(B0.rdAt (cs:=[C0]) 0 rfl);have e0:zs=l0:=K0.symm;rw [e0] at F0;exact ⟨_,_,_,C0,rfl,F0,_,om,((b0.pick 2 rfl).dropAt 2 rfl)⟩)) fun w0=>gCO b0 9 [1] rfl<|sIN hj0.inputs i fun a0 _ _ g0 y0=>sMA b0 (y0.up 3 rfl) 0 (encPlane a0)<|cS (r17_of a0 ⟨(RdT.flat ((hj0.inputsD a0 (List.mem_of_getElem? g0)).pix.up 3 (by rfl)))⟩ b0.flat) fun _ z0=>sBK z0 #[I a0.w,I a0.h,I a0.max_] 65 fun _ _ a1=>sApp (nb:=24) a1 B0 1 (RdT.blk (enc:=encShape) (sz:=3) (xs:=[(⟨a0.w,a0.h,a0.max_⟩:Shape)]) fR 1 0 rfl rfl rfl om) underlying79 (i:=Tryz.t65) kr fR fun b1 c1 d1 _ e1 f1=>jOO 6 rfl<|sAdd (i:Int) 1<|jOI 2 rfl<|⟨(i+1,G0,(zs++[(⟨a0.w,a0.h,a0.max_⟩:Shape)]),b1,(H0+1),c1,d1),od,alB,(f1.dropAt 0 rfl),om,by rw [take_succ_at (map_at (f:=Plane.v) g0),List.map_append,<-N0];rfl,by simp;omega,om,e1⟩
end Go.Proofs.YtghcddbhllkbmaaGreat

namespace Go.Proofs.YtghcddbhllkbmaaGreat
open Go Go.E Go.Proofs.Tryz
set_option linter.all false
set_option maxRecDepth 100000
set_option maxHeartbeats 2000000
variable {W w:World} {H:Chunk} {F:List Chunk}
def planeG (z:Plane):Prop:=planeOK z.v=true/\planeB z
def jobB (k:Nat) (q:Job):Prop:=(q.inputs.l.length<=2/\∀z∈q.inputs.l,planeB z/\numB z.w/\numB z.h/\numB z.max_)/\(q.stages.l.length<=4/\∀z∈q.stages.l,stageB k z)/\(q.outputs.l.length<=2+k/\∀z∈q.outputs.l,numB z)/\numB q.priority
theorem planeG_num {z:Plane} (h:planeG z):planeB z/\numB z.w/\numB z.h/\numB z.max_:=by
  have h1:=h.1
  unfold planeOK at h1
  rw [Bool.and_eq_true] at h1
  have h2:=(of_decide_eq_true h1.1).1
  unfold sizeP at h2
  simp only [Plane.v] at h2
  refine ⟨h.2,?_,?_,?_⟩<;>unfold numB<;>omega
theorem all_planeG {l:List Plane} (h:∀z∈l,planeG z):(l.map Plane.v).all planeOK=true:=by
  rw [List.all_eq_true]
  intro x hx
  obtain ⟨z,hz,rfl⟩:=List.mem_map.1 hx
  exact (h z hz).1
theorem tg_jobO {p:Nat} {a:Option Addr} {n k:Nat} {i:Int} {xs:List Int} (hR:RdT Go.E.encI 1 [H] a n k xs) (hi:0<=i/\i<=n) (hS:Sat W w ([(p, .cells #[.slice a n k,I i] 78 (0,0))]::H::F)) (m0:Int) (hm0:1<=m0/\m0<=4):
  Calls prog 8 #[Pt p 0,I m0] w fun e w'=>∃(q:Job) (C:Chunk) (G:Chunk),e= .returned (.agg (encJob q).toArray)/\(OwnT encStage 53 18 q.stages.a q.stages.n q.stages.k q.stages.l C)/\(∀z∈q.stages.l,Stage.Ok [G] z)/\(∀(a:Option Addr) (n k:Nat) (l:List Stage) (C':Chunk),OwnT encStage 53 18 a n k l C'->(∀z∈l,Stage.Ok [G] z)->Job.Ok [C'++G] ⟨q.inputs,⟨a,n,k,l⟩,q.outputs,q.priority⟩)/\(jobB 0 q)/\(Good (q.inputs.l.map Plane.v) (q.stages.l.map Stage.v) q.priority/\∃l0,runS ((q.inputs.l.map Plane.v).map shpOf) (q.stages.l.map Stage.v)=some l0)/\(1<=q.stages.l.length/\(1<=q.outputs.l.length/\q.outputs.l.length<=2)/\inR ((q.inputs.l.map Plane.v).length+(q.stages.l.map Stage.v).length) q.outputs.l=true)/\∃i':Int,(0<=i'/\i'<=n)/\Sat W w' ([(p, .cells #[.slice a n k,I i'] 78 (0,0))]::C::G::H::F):=by
 have hle:=hR.le
 refine callsA 151 func8 rfl ?_
 refine sR ?_
 refine sAlloc hS zeroValue28 ?_
 intro i0 _ q3
 refine zS<|pu1 ?_
 have r3:=(q3.pick 1 rfl)
 refine cX call11 (tape_next (RdT.flat (hR.up 1 (by rfl))) om r3.flat1 4 om) ?_
 rintro _ _ ⟨j0,rfl,_,_,_,s3⟩
 have u3:=s3.unflat1
 refine pu1 ?_
 refine sAlloc u3 zeroValue28 ?_
 intro f0 _ v3
 refine sTl v3 0 [nS,nS,nS,I j0] sizeOf28 ?_
 intro _ w3
 refine zS<|pu1 ?_
 have x3:=(w3.pick 1 rfl)
 refine cX call18 (tg_plane (RdT.flat (hR.up 2 (by rfl))) om x3.flat1) ?_
 rintro _ _ ⟨a0,k0,rfl,t1,s0,_,_,y3⟩
 refine sAlloc (Sat.unflat2 y3) zeroValue38 ?_
 intro _ _ a4
 refine sTl a4 0 (encPlane a0) sizeOf38 ?_
 intro _ u1
 refine zS ?_
 refine lA u1 0 0 4 (isAgg38 _) (sizeOf38 _) ?_
 refine sBS u1 (encPlane a0).toArray runUnderlying25 sizeOf38 zeroValue38 ?_
 intro g0 _ b4
 refine pu1 ?_
 refine tW b4 4 0 (.slice (At g0 0) 1 1) sizeOf25 ?_
 intro _ v1
 refine nT ?_
 refine cutB v1 6 [0,1,4,5] (γ:=(Option Addr)×Nat×Nat×(List Plane)×Chunk×Int×Int) (fun ⟨ai,ni,ki,Iq,GI,pr,itc⟩ R=>⟨[],[(p, .cells #[.slice a n k,I itc] 78 (0,0))]::[(f0, .cells #[.slice ai ni ki,nS,nS,I pr] 28 (0,0))]::[(i0, .cells #[nS,nS,nS,I 0] 28 (0,0))]::GI::R,0,(0<=itc/\itc<=n)/\RdT encPlane 4 [GI] ai ni ki Iq/\(∀z∈Iq,Plane.Ok [GI] z)/\((1<=Iq.length/\Iq.length<=2)/\∀z∈Iq,planeG z)/\(0<=pr/\pr<4)⟩) ?_ ?_
 ·refine sR<|pu1 ?_
  have d4:=(v1.pick 2 rfl)
  refine cX call11 (tape_next (RdT.flat (hR.up 5 (by rfl))) om d4.flat1 2 om) ?_
  rintro _ _ ⟨e4,rfl,_,a1,_,f4⟩
  have w1:=f4.unflat1
  refine pu1<|nT ?_
  refine cE e4 0 (fun g4=>?_) (fun g4=>?_)
  rotate_left
  ·refine kT ?_
   have h4:=((w1.picks [5,5,2]).dropAt 4 rfl)
   have i4:Sat W _ ([(p, .cells #[.slice a n k,I a1] 78 (0,0))]::[(f0, .cells #[.slice (At g0 0) 1 1,nS,nS,I j0] 28 (0,0))]::[(i0, .cells #[nS,nS,nS,I 0] 28 (0,0))]::([(g0, .cells (encPlane a0).toArray 38 (0,0))]++k0)::(H::F)):=Sat.perm (show Sat W _ ([(p, .cells #[.slice a n k,I a1] 78 (0,0))]::[(f0, .cells #[.slice (At g0 0) 1 1,nS,nS,I j0] 28 (0,0))]::[(i0, .cells #[nS,nS,nS,I 0] 28 (0,0))]::[(g0, .cells (encPlane a0).toArray 38 (0,0))]::k0::H::F) from h4) (by simp [Value.cells])
   exact ⟨((At g0 0),1,1,[a0],([(g0, .cells (encPlane a0).toArray 38 (0,0))]++k0),j0,a1),alB,i4,om,((RdT.blk (cs:=[[(g0, .cells (encPlane a0).toArray 38 (0,0))]]) (enc:=encPlane) (sz:=4) (xs:=[a0]) fR 1 0 rfl rfl rfl om).of_mem mS),(by
     intro z hz
     simp only [List.mem_cons,List.mem_append,List.not_mem_nil,or_false] at hz
     subst hz;exact t1.of_mem mS),⟨by simp,(by
     intro z hz
     simp only [List.mem_cons,List.mem_append,List.not_mem_nil,or_false] at hz
     subst hz;exact ⟨s0.2.2.1,s0.2.2.2⟩)⟩,om⟩
  refine drawF w1 [7,8,9,11] (fb 1 4 0 1<|fb 4 2 0 1<|fb 6 2 1 1<|fn) [0,2,3,5,1,4,6,7,8,9,10,11] fun _ j4=>?_
  refine wV 4 ?_
  refine wL 0 ?_
  refine wL 1 ?_
  refine wL 2 ?_
  refine wO rfl ?_
  refine cX call19 (tg_sized (RdT.flat (hR.up 5 (by rfl))) om j4.flat1 a0.w a0.h om) ?_
  rintro _ _ ⟨b1,c1,rfl,k4,x1,d1,_,l4⟩
  have y1:=l4.unflat2
  refine nZ y1 [5] ?_
  refine wO rfl ?_
  refine sBS y1 (encPlane b1).toArray runUnderlying25 sizeOf38 zeroValue38 ?_
  intro _ _ z1
  refine nZ z1 [6] ?_
  refine wO rfl ?_
  refine sApp (nb:=48) z1 (OwnT.blk (enc:=encPlane) (sz:=4) (b:=g0) (c:=#[I a0.w,I a0.h,I a0.max_, .slice a0.pix.a a0.pix.n a0.pix.k]) (E:=38) (xs:=[a0]) fR 1 rfl rfl rfl om) 3 (RdT.blk (enc:=encPlane) (sz:=4) (xs:=[b1]) fR 1 0 rfl rfl rfl om) underlying25 (i:=Tryz.t38) kr fR ?_
  intro t0 u0 v0 _ n4 o4
  refine nA ?_
  refine wV 1 ?_
  refine wO rfl ?_
  refine tW o4 6 0 (.slice t0 (1+1) u0) sizeOf25 ?_
  intro _ p4
  refine nA ?_
  refine wN ?_
  refine tN ?_
  have q4:=((p4.picks [5,4,7,7,5]).drops [5,6])
  have r4:Sat W _ ([(p, .cells #[.slice a n k,I d1] 78 (0,0))]::[(f0, .cells #[.slice t0 (1+1) u0,nS,nS,I j0] 28 (0,0))]::[(i0, .cells #[nS,nS,nS,I 0] 28 (0,0))]::(v0++k0++c1)::(H::F)):=Sat.perm (show Sat W _ ([(p, .cells #[.slice a n k,I d1] 78 (0,0))]::[(f0, .cells #[.slice t0 (1+1) u0,nS,nS,I j0] 28 (0,0))]::[(i0, .cells #[nS,nS,nS,I 0] 28 (0,0))]::v0::k0::c1::H::F) from q4) (by simp [Value.cells])
  exact ⟨(t0,(1+1),u0,([a0]++[b1]),(v0++k0++c1),j0,d1),alB,r4,om,((n4.rdAt (cs:=[v0]) 0 rfl).of_mem mS),(by
    intro z hz
    simp only [List.mem_cons,List.mem_append,List.not_mem_nil,or_false] at hz
    rcases hz with rfl|rfl
    ·exact t1.of_mem mS
    ·exact k4.of_mem mS),⟨by simp,(by
    intro z hz
    simp only [List.mem_cons,List.mem_append,List.not_mem_nil,or_false] at hz
    rcases hz with rfl|rfl
    ·exact ⟨s0.2.2.1,s0.2.2.2⟩
    ·exact ⟨x1.2.2.1,x1.2.2.2⟩)⟩,om⟩
 rintro ⟨ai,ni,ki,Iq,GI,pr,itc⟩ ρ _ ⟨s4,hitc,hRi,hDi,hGi,hpr⟩
 refine seqE<|sR<|pu2 ?_
 refine cX call11 (tape_next (RdT.flat (hR.up 3 (by rfl))) om s4.flat1 m0 om) ?_
 rintro _ _ ⟨a2,rfl,_,t4,_,u4⟩
 have v4:=u4.unflat1
 refine sAdd 1 a2 ?_
 refine pu1<|nT<|blockE ?_
 have w4:=Sat.nilc v4
 have x4:=Sat.nilc w4
 refine loopB [0,4,5] (γ:=Nat×Int×(List Stage)×(Option Addr)×Nat×Nat×Chunk×Chunk×(List Shape)×Int) (fun ⟨u,j,ss,sa,sn,sk,Gs,cs,l0,itu⟩ R=>⟨[(7,I j)],cs::Gs::[(p, .cells #[.slice a n k,I itu] 78 (0,0))]::[(f0, .cells #[.slice ai ni ki, .slice sa sn sk,nS,I pr] 28 (0,0))]::R,4-u,u<=4/\(OwnT encStage 53 18 sa sn sk ss cs)/\(∀z∈ss,Stage.Ok [Gs] z)/\(∀z∈ss,stageB 0 z)/\(Good (Iq.map Plane.v) (ss.map Stage.v) pr)/\(runS ((Iq.map Plane.v).map shpOf) (ss.map Stage.v)=some l0)/\(ss.length=u)/\(1<=(u:Int)+j/\(u:Int)+j<=4)/\(0<=itu/\itu<=n)⟩) (0,(1+a2),[],none,0,0,[],[],((Iq.map Plane.v).map shpOf),t4) ⟨x4,om,OwnT.nil (enc:=encStage) (E:=53) (sz:=18) fR,(by intro z hz;cases hz),(by intro z hz;cases hz),⟨all_planeG hGi.2,by rw [List.length_map];exact hGi.1,by simp,hpr,by intro m s h;simp at h⟩,by rfl,by rfl,om,om⟩ ?_
 rintro ⟨u,j,ss,sa,sn,sk,Gs,cs,l0,itu⟩ ρ _ ⟨n0,hu,hRs,hDs,hBs,hgood,hrun,hsl,hj,hitu⟩
 refine seqE<|sR<|pu2<|nT ?_
 refine cD (j>0) (fun y4=>?_) (fun y4=>?_)
 rotate_left
 ·refine exitE<|xB<|tN<|seqE ?_
  have hn_i:=hRi.len;have hn_s:=hRs.len
  refine rE<|pu1 ?_
  refine sL n0 3 0 (.slice ai ni ki) (isAgg25 _) ?_
  refine pu2 ?_
  refine sL n0 3 1 (.slice sa sn sk) (isAgg26 _) ?_
  refine pu1 ?_
  refine sAdd (ni:Int) (sn:Int) ?_
  refine pu1<|zS<|pu1 ?_
  refine sSub ((ni:Int)+(sn:Int)) 1 ?_
  refine sBS n0 #[I (((ni:Int)+(sn:Int))-1)] runUnderlying22 sizeOf3 zeroValue3 ?_
  intro d0 _ z4
  refine pu1 ?_
  refine tW z4 4 2 (.slice (At d0 0) 1 1) sizeOf22 ?_
  intro _ a5
  refine zQ<|pu1 ?_
  have b5:=(a5.pick 3 rfl)
  refine cX call11 (tape_next (RdT.flat (hR.up 6 (by rfl))) om b5.flat1 3 om) ?_
  rintro _ _ ⟨c5,rfl,_,b2,_,d5⟩
  have f1:=d5.unflat1
  refine pu1<|nT ?_
  refine cE c5 0 (fun e5=>?_) (fun e5=>?_)
  rotate_left
  ·refine kS ?_
   refine lA f1 4 0 4 (isAgg28 _) (sizeOf28 _) ?_
   refine sTl f1 5 [.slice ai ni ki, .slice sa sn sk, .slice (At d0 0) 1 1,I pr] sizeOf28 ?_
   intro _ c2
   refine zE<|retN (vs:=[.agg #[.slice ai ni ki, .slice sa sn sk, .slice (At d0 0) 1 1,I pr]]) rfl (.cons (.cell _ _ _ _ kr (lvA c2 5 0 [.slice ai ni ki, .slice sa sn sk, .slice (At d0 0) 1 1,I pr] (isAgg28 _) (sizeOf28 _) rfl rfl rfl)) .nil) ?_
   have f5:=((c2.picks [6,4,4,3]).drops [5,5])
   have g5:Sat W _ ([(p, .cells #[.slice a n k,I b2] 78 (0,0))]::cs::(Gs++GI++[(d0, .cells #[I (((ni:Int)+(sn:Int))-1)] 3 (0,0))])::(H::F)):=Sat.perm (show Sat W _ ([(p, .cells #[.slice a n k,I b2] 78 (0,0))]::cs::Gs::GI::[(d0, .cells #[I (((ni:Int)+(sn:Int))-1)] 3 (0,0))]::H::F) from f5) (by simp [Value.cells])
   exact ⟨(⟨⟨ai,ni,ki,Iq⟩,⟨sa,sn,sk,ss⟩,⟨(At d0 0),1,1,[(((ni:Int)+(sn:Int))-1)]⟩,pr⟩:Job),cs,(Gs++GI++[(d0, .cells #[I (((ni:Int)+(sn:Int))-1)] 3 (0,0))]),rfl,hRs,(fun z hz=>(hDs z hz).of_mem mS),(fun _ _ _ _ C9 h1 h2=>⟨hRi.of_mem mS,(fun z hz=>(hDi z hz).of_mem mS),(h1.rdAt (cs:=[C9]) 0 rfl).of_mem mS,(fun z hz=>(h2 z hz).of_mem mS),(RdT.blk (cs:=[[(d0, .cells #[I (((ni:Int)+(sn:Int))-1)] 3 (0,0))]]) (enc:=Go.E.encI) (sz:=1) (xs:=[(((ni:Int)+(sn:Int))-1)]) fR 1 0 rfl rfl rfl om).of_mem mS⟩),⟨⟨hGi.1.2,fun z hz=>planeG_num (hGi.2 z hz)⟩,⟨by dsimp only;omega,hBs⟩,⟨by simp,(by intro z hz;simp only [List.mem_cons,List.mem_append,List.not_mem_nil,or_false] at hz;subst hz;unfold numB;omega)⟩,by unfold numB;dsimp only;omega⟩,⟨hgood,l0,hrun⟩,⟨by dsimp only;omega,⟨by simp,by simp⟩,by
     unfold inR;rw [List.all_eq_true];intro z hz
     simp only [List.mem_cons,List.mem_append,List.not_mem_nil,or_false] at hz
     refine decide_eq_true ?_
     simp only [List.length_map]
     subst hz;omega⟩,_,om,g5⟩
  refine drawF f1 [4,5,6,8] (fb 1 4 2 1<|fn) [0,2,3,1,4,5,6,7,8] fun _ h5=>?_
  refine wV 3 ?_
  refine wL 0 ?_
  refine wO rfl ?_
  refine cX call11 (tape_next (RdT.flat (hR.up 6 (by rfl))) om h5.flat1 ((ni:Int)+(sn:Int)) om) ?_
  rintro _ _ ⟨g1,rfl,_,d2,_,i5⟩
  have e2:=i5.unflat1
  refine nZ e2 [4] ?_
  refine wO rfl ?_
  refine sBS e2 #[I g1] runUnderlying22 sizeOf3 zeroValue3 ?_
  intro _ _ f2
  refine nZ f2 [5] ?_
  refine wO rfl ?_
  refine sApp (nb:=8) f2 (OwnT.blk (enc:=Go.E.encI) (sz:=1) (b:=d0) (c:=#[I (((ni:Int)+(sn:Int))-1)]) (E:=3) (xs:=[(((ni:Int)+(sn:Int))-1)]) fR 1 rfl rfl rfl om) 2 (RdT.blk (enc:=Go.E.encI) (sz:=1) (xs:=[g1]) fR 1 0 rfl rfl rfl om) underlying22 (i:=Tryz.t3) kr fR ?_
  intro o0 p0 w0 _ k5 l5
  refine nA ?_
  refine wV 1 ?_
  refine wO rfl ?_
  refine tW l5 5 2 (.slice o0 (1+1) p0) sizeOf22 ?_
  intro _ g2
  refine nA ?_
  refine wN ?_
  refine tN<|sR ?_
  refine lA g2 5 0 4 (isAgg28 _) (sizeOf28 _) ?_
  refine sTl g2 6 [.slice ai ni ki, .slice sa sn sk, .slice o0 (1+1) p0,I pr] sizeOf28 ?_
  intro _ i2
  refine zE<|retN (vs:=[.agg #[.slice ai ni ki, .slice sa sn sk, .slice o0 (1+1) p0,I pr]]) rfl (.cons (.cell _ _ _ _ kr (lvA i2 6 0 [.slice ai ni ki, .slice sa sn sk, .slice o0 (1+1) p0,I pr] (isAgg28 _) (sizeOf28 _) rfl rfl rfl)) .nil) ?_
  have m5:=((i2.picks [7,5,5,4]).drops [4,5,5])
  have n5:Sat W _ ([(p, .cells #[.slice a n k,I d2] 78 (0,0))]::cs::(Gs++GI++w0)::(H::F)):=Sat.perm (show Sat W _ ([(p, .cells #[.slice a n k,I d2] 78 (0,0))]::cs::Gs::GI::w0::H::F) from m5) (by simp [Value.cells])
  exact ⟨(⟨⟨ai,ni,ki,Iq⟩,⟨sa,sn,sk,ss⟩,⟨o0,(1+1),p0,([(((ni:Int)+(sn:Int))-1)]++[g1])⟩,pr⟩:Job),cs,(Gs++GI++w0),rfl,hRs,(fun z hz=>(hDs z hz).of_mem mS),(fun _ _ _ _ C9 h1 h2=>⟨hRi.of_mem mS,(fun z hz=>(hDi z hz).of_mem mS),(h1.rdAt (cs:=[C9]) 0 rfl).of_mem mS,(fun z hz=>(h2 z hz).of_mem mS),(k5.rdAt (cs:=[w0]) 0 rfl).of_mem mS⟩),⟨⟨hGi.1.2,fun z hz=>planeG_num (hGi.2 z hz)⟩,⟨by dsimp only;omega,hBs⟩,⟨by simp,(by intro z hz;simp only [List.mem_cons,List.mem_append,List.not_mem_nil,or_false] at hz;rcases hz with rfl|rfl<;>(unfold numB;omega))⟩,by unfold numB;dsimp only;omega⟩,⟨hgood,l0,hrun⟩,⟨by dsimp only;omega,⟨by simp,by simp⟩,by
    unfold inR;rw [List.all_eq_true];intro z hz
    simp only [List.mem_cons,List.mem_append,List.not_mem_nil,or_false] at hz
    refine decide_eq_true ?_
    simp only [List.length_map]
    rcases hz with rfl|rfl<;>omega⟩,_,om,n5⟩
 refine kT<|seqE<|blockE<|seqE ?_
 have hn_i:=hRi.len;have hn_s:=hRs.len;have hl_s:=hRs.le
 refine rE<|pu1 ?_
 refine lA n0 3 0 4 (isAgg28 _) (sizeOf28 _) ?_
 have o5:=(n0.pick 2 rfl)
 refine cX call31 (tg_shapes (RdT.flat (hR.up 5 (by rfl))) om o5.flat1 (⟨⟨ai,ni,ki,Iq⟩,⟨sa,sn,sk,ss⟩,⟨none,0,0,[]⟩,pr⟩:Job) ⟨(RdT.flat (hRi.up 4 (by rfl))),(fun z hz=>(hDi z hz).of_mem (mem_flat1 4 (by rfl))),(RdT.flat (hRs.rdAt 0 (by rfl))),(fun z hz=>(hDs z hz).of_mem (mem_flat1 1 (by rfl))),(RdT.nil (enc:=Go.E.encI) (sz:=1) fR _)⟩ l0 hgood hrun) ?_
 rintro _ _ ⟨_,e0,_,_,rfl,q0,_,_,p5⟩
 have q5:=p5.unflat2
 have hn_az_89:=q0.len;have hl_az_89:=q0.le
 refine pu1<|nilO ?_
 have hsz:=runS_sz (ss.map Stage.v) _ l0 (shpOf_sz (all_planeG hGi.2)) hrun
 have hlen0:(((Iq.map Plane.v)).length:Int)+((ss.map Stage.v)).length=(e0:Int):=by have h:=hsz.2;have h2:=hn_az_89;simp only [List.length_map] at h⊢;omega
 have hlen1:(Iq.length:Int)+ss.length=(e0:Int):=by have h:=hlen0;simp only [List.length_map] at h;exact h
 refine tN<|sR<|pu3 ?_
 refine cX call11 (tape_next (RdT.flat (hR.up 6 (by rfl))) om q5.flat1 (e0:Int) om) ?_
 rintro _ _ ⟨r5,rfl,_,_,_,s5⟩
 have j2:=s5.unflat1
 refine pu1<|nT ?_
 refine cutB j2 1 [0,4,5,7,8] (γ:=Int×Int) (fun ⟨av,itA⟩ R=>⟨[(9,I av)],[(p, .cells #[.slice a n k,I itA] 78 (0,0))]::R,0,(0<=itA/\itA<=n)/\(0<=av/\av<e0)⟩) ?_ ?_
 ·refine sR<|pu1 ?_
  refine cX call11 (tape_next (RdT.flat (hR.up 6 (by rfl))) om j2.flat1 2 om) ?_
  rintro _ _ ⟨t5,rfl,_,k2,_,u5⟩
  have m2:=u5.unflat1
  refine pu1<|nT ?_
  refine cE t5 0 (fun v5=>?_) (fun v5=>?_)
  rotate_left
  ·refine kT ?_
   exact ⟨(r5,k2),alB,m2,om,om⟩
  refine rE<|pu2 ?_
  refine sSub (e0:Int) 1 ?_
  refine pu1<|nT ?_
  exact ⟨(((e0:Int)-1),k2),alB,m2,om,om⟩
 rintro ⟨av,itA⟩ ρ _ ⟨w5,hitA,hvA⟩
 refine sR<|pu3 ?_
 refine cX call11 (tape_next (RdT.flat (hR.up 6 (by rfl))) om w5.flat1 (e0:Int) om) ?_
 rintro _ _ ⟨n2,rfl,_,i1,_,x5⟩
 have j1:=x5.unflat1
 refine pu1<|nT ?_
 refine cutB j1 1 [0,4,5,7,8,9] (γ:=Int×Int) (fun ⟨bv,itB⟩ R=>⟨[(10,I bv)],[(p, .cells #[.slice a n k,I itB] 78 (0,0))]::R,0,(0<=itB/\itB<=n)/\(bv=-1\/(0<=bv/\bv<e0))⟩) ?_ ?_
 ·refine seqE ?_
  obtain ⟨k1,ga,ha,y5,l1,m1⟩:=RdT.elem q0 av
  have hsz_x_121:=hsz.1 k1 (List.mem_of_getElem? y5)
  obtain ⟨n1,ia,ja,z5,o1,q1⟩:=RdT.elem q0 n2
  have hsz_x_127:=hsz.1 n1 (List.mem_of_getElem? z5)
  by_cases o2:(k1.w:Int)=n1.w
  rotate_left
  ·refine drawF j1 [] (fq 4 0 (l1.up 1 rfl)<|fq 9 0 (o1.up 1 rfl)<|fn) [0,1,2,3,5,6,7,8,4,9,10,11,12,13,14,15,17,18,19,20,16,21,22,23] fun _ a6=>?_
   refine wV 2 ?_
   refine wI m1 ?_
   refine wV 3 ?_
   refine wI q1 ?_
   refine wV 1 ?_
   refine wL 0 ?_
   refine wL 1 ?_
   refine wV 2 ?_
   refine wFix 74 _ true (bne_iff_ne.2 o2) ?_
   refine wV 12 ?_
   refine wN ?_
   refine tN<|cTt<|rE<|pu1<|nT ?_
   exact ⟨(-1,i1),alB,a6,om,om⟩
  refine drawF j1 [] (fq 4 0 (l1.up 1 rfl)<|fq 9 0 (o1.up 1 rfl)<|fq 16 1 (l1.up 1 rfl)<|fq 21 1 (o1.up 1 rfl)<|fn) [0,1,2,3,5,6,7,8,4,9,10,11,12,13,14,15,17,18,19,20,16,21,22,23] fun _ r2=>?_
  refine wV 2 ?_
  refine wI m1 ?_
  refine wV 3 ?_
  refine wI q1 ?_
  refine wV 1 ?_
  refine wL 0 ?_
  refine wL 1 ?_
  refine wV 2 ?_
  refine wFix 74 _ false (bne_eq_false_iff_eq.2 o2) ?_
  refine wV 2 ?_
  refine wI m1 ?_
  refine wV 3 ?_
  refine wI q1 ?_
  refine wV 1 ?_
  refine wL 2 ?_
  refine wL 3 ?_
  refine wV 2 ?_
  refine wN ?_
  refine tN ?_
  refine cN k1.h n1.h (fun b6=>?_) (fun b6=>?_)
  ·refine kT ?_
   exact ⟨(n2,i1),alB,r2,om,om⟩
  refine rE<|pu1<|nT ?_
  exact ⟨(-1,i1),alB,r2,om,om⟩
 rintro ⟨bv,itB⟩ ρ _ ⟨s2,hitB,hvB⟩
 refine sR<|pu4 ?_
 refine sIdx q0 av runUnderlying79 sizeOf65 ?_
 intro r0 _ _ c6 d6
 have hsz_x_139:=hsz.1 r0 (List.mem_of_getElem? c6)
 refine sLpA s2 (d6.up 1 rfl) 0 [I r0.w,I r0.h,I r0.max_] (isAgg65 _) (sizeOf65 _) ?_
 refine pu1 ?_
 refine cX call20 (tg_stage (RdT.flat (hR.up 6 (by rfl))) om s2.flat1 av r0 bv ‹_› (by unfold numB;omega)) ?_
 rintro _ _ ⟨b0,e6,rfl,t2,f6,u2,x0,_,g6⟩
 refine sAlloc (Sat.unflat2 g6) zeroValue53 ?_
 intro _ _ i6
 refine sTl i6 0 (encStage b0) sizeOf53 ?_
 intro _ v2
 refine zS ?_
 refine lA v2 6 0 4 (isAgg28 _) (sizeOf28 _) ?_
 refine sAlloc v2 zeroValue28 ?_
 intro w2 _ j6
 refine sTl j6 0 [.slice ai ni ki, .slice sa sn sk,nS,I pr] sizeOf28 ?_
 intro _ x2
 refine nT ?_
 refine cutB x2 1 [0,4,5,7,9,11,12] (γ:=(Option Addr)×Nat×Nat×Chunk) (fun ⟨a3,n3,k3,c3⟩ R=>⟨[],c3::[(w2, .cells #[.slice ai ni ki, .slice a3 n3 k3,nS,I pr] 28 (0,0))]::R,0,OwnT encStage 53 18 a3 n3 k3 (ss++[b0]) c3⟩) ?_ ?_
 ·refine drawG x2 [0,3,5,6,8] (fb 2 7 1 1<|fb 4 1 0 18<|fn) (Plan.sts [1]<|Plan.sts [2]<|Plan.sts [4]<| .fk 0 5 (.fk 3 5 (.ef 5<| .ef 6<|Plan.sts [7]<| .ef 8<| .fin) (.ef 3<| .ef 6<|Plan.sts [7]<| .ef 8<| .fin)) (.ef 0<| .ef 3<| .ef 6<|Plan.sts [7]<| .ef 8<| .fin)) fun _ y2=>?_
  refine qU [1] ?_
  refine qL 0 ?_
  refine qG 1 18 ?_
  refine qF ?_ ?_
  rotate_left
  ·refine qO rfl ?_
   refine sBS y2 (encStage b0).toArray runUnderlying26 sizeOf53 zeroValue53 ?_
   intro _ _ z2
   refine nZ z2 [8] ?_
   refine qO rfl ?_
   refine sBS z2 #[] runUnderlying26 sizeOf53 zeroValue53 ?_
   intro k6 _ b3
   refine nZ b3 [9] ?_
   refine qO rfl ?_
   refine sApp (nb:=240) b3 (OwnT.blk (enc:=encStage) (sz:=18) (b:=k6) (c:=#[]) (E:=53) (xs:=[]) fR 0 rfl rfl rfl om) 0 (hRs.rdAt 7 rfl) underlying26 (i:=Tryz.t53) kr fR ?_
   intro _ _ _ _ m6 n6
   refine nA ?_
   refine qO rfl ?_
   refine sApp (nb:=240) n6 m6 0 (RdT.blk (enc:=encStage) (sz:=18) (xs:=[b0]) fR 1 1 rfl rfl rfl om) underlying26 (i:=Tryz.t53) kr fR ?_
   intro d3 e3 o6 _ p6 q6
   refine nA ?_
   refine qU [7] ?_
   refine qO rfl ?_
   refine tW q6 2 1 (.slice d3 ((0+sn)+1) e3) sizeOf26 ?_
   intro _ r6
   refine nA ?_
   refine qN ?_
   refine tN ?_
   exact ⟨(d3,((0+sn)+1),e3,o6),alB,(r6.dropAt 1 rfl),(by have h:=p6;first|exact h|simpa using h)⟩
  refine qO rfl ?_
  refine sBS y2 #[] runUnderlying26 sizeOf53 zeroValue53 ?_
  intro f3 _ r1
  refine nZ r1 [8,2] ?_
  refine qF ?_ ?_
  rotate_left
  ·refine qO rfl ?_
   refine sBS r1 (encStage b0).toArray runUnderlying26 sizeOf53 zeroValue53 ?_
   intro _ _ g3
   refine nZ g3 [9] ?_
   refine qO rfl ?_
   refine sApp (nb:=240) g3 (OwnT.blk (enc:=encStage) (sz:=18) (b:=f3) (c:=#[]) (E:=53) (xs:=[]) fR 0 rfl rfl rfl om) 1 (hRs.rdAt 7 rfl) underlying26 (i:=Tryz.t53) kr fR ?_
   intro _ _ _ _ u6 v6
   refine nA ?_
   refine qO rfl ?_
   refine sApp (nb:=240) v6 u6 1 (RdT.blk (enc:=encStage) (sz:=18) (xs:=[b0]) fR 1 0 rfl rfl rfl om) underlying26 (i:=Tryz.t53) kr fR ?_
   intro h3 i3 w6 _ x6 y6
   refine nA ?_
   refine qU [7] ?_
   refine qO rfl ?_
   refine tW y6 2 1 (.slice h3 ((0+sn)+1) i3) sizeOf26 ?_
   intro _ z6
   refine nA ?_
   refine qN ?_
   refine tN ?_
   exact ⟨(h3,((0+sn)+1),i3,w6),alB,(z6.dropAt 0 rfl),(by have h:=x6;first|exact h|simpa using h)⟩
  refine qO rfl ?_
  refine sApp (nb:=240) r1 (OwnT.blk (enc:=encStage) (sz:=18) (b:=f3) (c:=#[]) (E:=53) (xs:=[]) fR 0 rfl rfl rfl om) 0 (hRs.rdAt 6 rfl) underlying26 (i:=Tryz.t53) kr fR ?_
  intro _ _ _ _ c7 j3
  refine nZ j3 [2] ?_
  refine qO rfl ?_
  refine sBS j3 (encStage b0).toArray runUnderlying26 sizeOf53 zeroValue53 ?_
  intro _ _ d7
  refine nA ?_
  refine qO rfl ?_
  refine sApp (nb:=240) d7 c7 1 (RdT.blk (enc:=encStage) (sz:=18) (xs:=[b0]) fR 1 0 rfl rfl rfl om) underlying26 (i:=Tryz.t53) kr fR ?_
  intro l3 m3 e7 _ f7 g7
  refine nA ?_
  refine qU [7] ?_
  refine qO rfl ?_
  refine tW g7 2 1 (.slice l3 ((0+sn)+1) m3) sizeOf26 ?_
  intro _ h7
  refine nA ?_
  refine qN ?_
  refine tN ?_
  exact ⟨(l3,((0+sn)+1),m3,e7),alB,(h7.dropAt 0 rfl),(by have h:=f7;first|exact h|simpa using h)⟩
 rintro ⟨a3,n3,k3,c3⟩ ρ _ ⟨j7,hO3⟩
 refine seqE ?_
 have hn3:=hO3.len;simp only [List.length_append,List.length_singleton] at hn3;have hl3:=hO3.le
 refine rE ?_
 refine sBS j7 #[I 0] runUnderlying22 sizeOf3 zeroValue3 ?_
 intro y0 _ k7
 refine pu1 ?_
 refine tW k7 2 2 (.slice (At y0 0) 1 1) sizeOf22 ?_
 intro _ s1
 refine nT ?_
 refine cutB s1 11 [0,4,5,7,12] (γ:=Stage×(List Shape)×Chunk×Chunk) (fun ⟨q2,l2,c4,Gq2⟩ R=>⟨[],c4::Gq2::[(p, .cells #[.slice a n k,I x0] 78 (0,0))]::[(f0, .cells #[.slice ai ni ki, .slice sa sn sk,nS,I pr] 28 (0,0))]::[(i0, .cells #[nS,nS,nS,I 0] 28 (0,0))]::[(w2, .cells #[.slice ai ni ki, .slice a3 n3 k3, .slice (At y0 0) 1 1,I pr] 28 (0,0))]::Gs::R,0,OwnT encStage 53 18 a3 n3 k3 (ss++[q2]) c4/\Stage.Ok [Gq2] q2/\stageB 0 q2/\Good (Iq.map Plane.v) ((ss++[q2]).map Stage.v) pr/\runS ((Iq.map Plane.v).map shpOf) ((ss++[q2]).map Stage.v)=some l2⟩) ?_ ?_
 rotate_left
 ·rintro ⟨q2,l2,c4,Gq2⟩ ρ _ ⟨o3,hO4,hq2ok,hq2B,hg2,hr2⟩
  have hn4:=hO4.len;simp only [List.length_append,List.length_singleton] at hn4
  refine rE<|pu1 ?_
  refine sL o3 5 1 (.slice a3 n3 k3) (isAgg26 _) ?_
  refine pu1 ?_
  refine tW o3 3 1 (.slice a3 n3 k3) sizeOf26 ?_
  intro _ l7
  refine nB<|rE<|pu1 ?_
  refine sSub j 1 ?_
  refine pu1<|nT ?_
  have m7:=((l7.picks [6,2,2]).dropAt 6 rfl)
  have n7:Sat W _ (c4::(Gq2++Gs)::([(p, .cells #[.slice a n k,I x0] 78 (0,0))]::[(f0, .cells #[.slice ai ni ki, .slice a3 n3 k3,nS,I pr] 28 (0,0))]::[(i0, .cells #[nS,nS,nS,I 0] 28 (0,0))]::GI::H::F)):=Sat.perm (show Sat W _ (c4::Gq2::Gs::[(p, .cells #[.slice a n k,I x0] 78 (0,0))]::[(f0, .cells #[.slice ai ni ki, .slice a3 n3 k3,nS,I pr] 28 (0,0))]::[(i0, .cells #[nS,nS,nS,I 0] 28 (0,0))]::GI::H::F) from m7) (by simp [Value.cells])
  exact ⟨(u+1,(j-1),(ss++[q2]),a3,n3,k3,(Gq2++Gs),c4,l2,x0),od,alB,n7,om,hO4,(by
    intro z hz
    rcases List.mem_append.1 hz with h|h
    ·exact (hDs z h).of_mem mS
    ·simp only [List.mem_singleton] at h;subst h;exact hq2ok.of_mem mS),mem_snoc hBs hq2B,hg2,hr2,by simp;omega,om,om⟩
 refine sR ?_
 refine lA s1 2 0 4 (isAgg28 _) (sizeOf28 _) ?_
 refine cR call32 (r17_checkj (⟨⟨ai,ni,ki,Iq⟩,⟨a3,n3,k3,(ss++[b0])⟩,⟨(At y0 0),1,1,[0]⟩,pr⟩:Job) ⟨(RdT.flat (hRi.up 11 (by rfl))),(fun z hz=>(hDi z hz).of_mem (mem_flat1 11 (by rfl))),(RdT.flat (hO3.rdAt 1 (by rfl))),(fun z hz=>by
   rcases List.mem_append.1 hz with h|h
   ·exact (hDs z h).of_mem (mem_flat1 8 (by rfl))
   ·simp only [List.mem_singleton] at h;rw [h];exact t2.of_mem (mem_flat1 5 (by rfl))),(RdT.flat (RdT.blk (enc:=Go.E.encI) (sz:=1) (xs:=[0]) (fun _=>(by rfl)) 1 0 rfl rfl rfl om))⟩ (od) s1.flat) ?_
 intro _ p3
 refine pu5<|zS<|pu2<|nT ?_
 refine cN ((shpV (⟨⟨ai,ni,ki,Iq⟩,⟨a3,n3,k3,(ss++[b0])⟩,⟨(At y0 0),1,1,[0]⟩,pr⟩:Job).v).2.2) 0 (fun o7=>?_) (fun o7=>?_)
 ·refine kT ?_
  have hsrc:∀x∈srcs b0.v,0<=x/\x<(((Iq.map Plane.v)).length:Int)+((ss.map Stage.v)).length:=by
   intro x hx
   have hab:=u2
   have e1:(((Iq.map Plane.v)).length:Int)+((ss.map Stage.v)).length=(e0:Nat):=hlen0
   rw [e1]
   unfold srcs at hx
   split at hx
   ·rename_i ht
    have ht2:=ht.2
    simp only [Stage.v] at ht2
    simp only [List.mem_cons,List.not_mem_nil,or_false,Stage.v] at hx
    rcases hx with rfl|rfl<;>omega
   ·simp only [List.mem_singleton,Stage.v] at hx
    subst hx;omega
  have hg2:Good (Iq.map Plane.v) ((ss++[b0]).map Stage.v) pr:=by rw [List.map_append];exact hgood.snoc (by simp;omega) hsrc
  have hr2:∃l2,runS ((Iq.map Plane.v).map shpOf) ((ss++[b0]).map Stage.v)=some l2:=by
   cases hrr:runS ((Iq.map Plane.v).map shpOf) ((ss++[b0]).map Stage.v) with
   |some l=>exact ⟨l,rfl⟩
   |none=>exact absurd ‹_› ((shp_run hg2 (by simp)).2 hrr)
  obtain ⟨l2,hr2⟩:=hr2
  exact ⟨(b0,l2,c3,e6),alB,((p3.picks [10,10,6,7,5]).drops [5,6,6,6]),hO3,t2,f6,hg2,hr2⟩
 refine sR<|pu2 ?_
 refine sBS p3 #[I 0,I 0] runUnderlying51 sizeOf75 zeroValue75 ?_
 intro c0 _ q7
 refine pu1 ?_
 refine sTl q7 4 (encStage {zStage with kind:=6,a:=av,b:=-1,ops:=⟨(At c0 0),1,1,[]⟩,max_:=255}) sizeOf53 ?_
 intro _ z0
 refine nT<|rE<|pu1 ?_
 refine sL z0 3 1 (.slice a3 n3 k3) (isAgg26 _) ?_
 refine pu1 ?_
 refine sL z0 3 1 (.slice a3 n3 k3) (isAgg26 _) ?_
 refine pu1 ?_
 refine sSub (n3:Int) 1 ?_
 refine lA z0 4 0 18 (isAgg53 _) (sizeOf53 _) ?_
 refine sIdxO hO3 ((n3:Int)-1) (((n3:Int)-1)).toNat runUnderlying26 sizeOf53 ?_
 intro r7 _ _ s7 _ t7
 refine sStF z0 hO3 t7 2 (((n3:Int)-1)).toNat 0 r7 (⟨6,av,-1,false,0,0,0,0,⟨none,0,0,[]⟩,⟨none,0,0,[]⟩,⟨none,0,0,[]⟩,0,0,⟨none,0,0,[]⟩,⟨none,0,0,[]⟩,0,⟨(At c0 0),1,1,[(⟨0,0⟩:POp)]⟩,255⟩:Stage) s7 (.agg (encStage {zStage with kind:=6,a:=av,b:=-1,ops:=⟨(At c0 0),1,1,[]⟩,max_:=255}).toArray) (encStage {zStage with kind:=6,a:=av,b:=-1,ops:=⟨(At c0 0),1,1,[]⟩,max_:=255}) sizeOf53 ?_
 intro _ u7 v7 w7
 refine nT ?_
 have hsrc:∀x∈srcs b0.v,0<=x/\x<(((Iq.map Plane.v)).length:Int)+((ss.map Stage.v)).length:=by
  intro x hx
  have hab:=u2
  have e1:(((Iq.map Plane.v)).length:Int)+((ss.map Stage.v)).length=(e0:Nat):=hlen0
  rw [e1]
  unfold srcs at hx
  split at hx
  ·rename_i ht
   have ht2:=ht.2
   simp only [Stage.v] at ht2
   simp only [List.mem_cons,List.not_mem_nil,or_false,Stage.v] at hx
   rcases hx with rfl|rfl<;>omega
  ·simp only [List.mem_singleton,Stage.v] at hx
   subst hx;omega
 have hg2:Good (Iq.map Plane.v) (((ss++[(⟨6,av,-1,false,0,0,0,0,⟨none,0,0,[]⟩,⟨none,0,0,[]⟩,⟨none,0,0,[]⟩,0,0,⟨none,0,0,[]⟩,⟨none,0,0,[]⟩,0,⟨(At c0 0),1,1,[(⟨0,0⟩:POp)]⟩,255⟩:Stage)])).map Stage.v) pr:=by rw [List.map_append];exact hgood.snoc (by simp;omega) (by
   intro x hx
   have h0:srcs (Stage.v (⟨6,av,-1,false,0,0,0,0,⟨none,0,0,[]⟩,⟨none,0,0,[]⟩,⟨none,0,0,[]⟩,0,0,⟨none,0,0,[]⟩,⟨none,0,0,[]⟩,0,⟨(At c0 0),1,1,[(⟨0,0⟩:POp)]⟩,255⟩:Stage))=[av]:=by unfold srcs;rw [if_neg (by unfold twoP;simp [Stage.v])];rfl
   rw [h0] at hx;simp only [List.mem_singleton] at hx;subst hx;rw [hlen0];omega)
 have hr2:∃l2,runS ((Iq.map Plane.v).map shpOf) (((ss++[(⟨6,av,-1,false,0,0,0,0,⟨none,0,0,[]⟩,⟨none,0,0,[]⟩,⟨none,0,0,[]⟩,0,0,⟨none,0,0,[]⟩,⟨none,0,0,[]⟩,0,⟨(At c0 0),1,1,[(⟨0,0⟩:POp)]⟩,255⟩:Stage)])).map Stage.v)=some l2:=by rw [List.map_append];exact good_safe (a:=av) hgood hrun (by rw [hlen0];omega)
 have hset:(ss++[b0]).set ((((n3:Int)-1)).toNat) (⟨6,av,-1,false,0,0,0,0,⟨none,0,0,[]⟩,⟨none,0,0,[]⟩,⟨none,0,0,[]⟩,0,0,⟨none,0,0,[]⟩,⟨none,0,0,[]⟩,0,⟨(At c0 0),1,1,[(⟨0,0⟩:POp)]⟩,255⟩:Stage)=ss++[(⟨6,av,-1,false,0,0,0,0,⟨none,0,0,[]⟩,⟨none,0,0,[]⟩,⟨none,0,0,[]⟩,0,0,⟨none,0,0,[]⟩,⟨none,0,0,[]⟩,0,⟨(At c0 0),1,1,[(⟨0,0⟩:POp)]⟩,255⟩:Stage)]:=by rw [List.set_append_right _ _ om,show ((((n3:Int)-1)).toNat)-ss.length=0 from by omega];rfl
 obtain ⟨l2,hr2⟩:=hr2
 have x7:=((w7.picks [11,11,7,3,5]).drops [5,6,6,6,6])
 exact ⟨((⟨6,av,-1,false,0,0,0,0,⟨none,0,0,[]⟩,⟨none,0,0,[]⟩,⟨none,0,0,[]⟩,0,0,⟨none,0,0,[]⟩,⟨none,0,0,[]⟩,0,⟨(At c0 0),1,1,[(⟨0,0⟩:POp)]⟩,255⟩:Stage),l2,u7,[(c0, .cells #[I 0,I 0] 75 (0,0))]),alB,x7,(by have h:=v7;rw [hset] at h;exact h),⟨RdT.nil (enc:=Go.E.encI) (sz:=1) fR _,RdT.nil (enc:=Go.E.encI) (sz:=1) fR _,RdT.nil (enc:=Go.E.encI) (sz:=1) fR _,RdT.nil (enc:=encTap) (sz:=2) fR _,(fun z hz=>by cases hz),RdT.nil (enc:=encTap) (sz:=2) fR _,(fun z hz=>by cases hz),(RdT.blk (cs:=[[(c0, .cells #[I 0,I 0] 75 (0,0))]]) (enc:=encPOp) (sz:=2) (xs:=[(⟨0,0⟩:POp)]) fR 1 0 rfl rfl rfl om)⟩,⟨⟨nb,nb,nb,nb,nb,nb,nb,nb,nb,nb,nb⟩,⟨by simp,fun z hz=>by cases hz⟩,⟨by simp,fun z hz=>by cases hz⟩,⟨by simp,fun z hz=>by cases hz⟩,⟨by simp,fun z hz=>by cases hz⟩,⟨by simp,fun z hz=>by cases hz⟩,⟨by simp,(by intro z hz;simp only [List.mem_singleton] at hz;subst hz;unfold opB numB;dsimp only;omega)⟩⟩,hg2,hr2⟩
theorem tg_job {p:Nat} {a:Option Addr} {n k:Nat} {i:Int} {xs:List Int} (hR:RdT Go.E.encI 1 [H] a n k xs) (hi:0<=i/\i<=n) (hS:Sat W w ([(p, .cells #[.slice a n k,I i] 78 (0,0))]::H::F)) (m0:Int) (hm0:1<=m0/\m0<=4):
  Calls prog 8 #[Pt p 0,I m0] w fun e w'=>∃(q:Job) (G:Chunk),e= .returned (.agg (encJob q).toArray)/\(Job.Ok [G] q)/\(jobB 0 q)/\(Good (q.inputs.l.map Plane.v) (q.stages.l.map Stage.v) q.priority/\∃l0,runS ((q.inputs.l.map Plane.v).map shpOf) (q.stages.l.map Stage.v)=some l0)/\(1<=q.stages.l.length/\(1<=q.outputs.l.length/\q.outputs.l.length<=2)/\inR ((q.inputs.l.map Plane.v).length+(q.stages.l.map Stage.v).length) q.outputs.l=true)/\∃i':Int,(0<=i'/\i'<=n)/\Sat W w' ([(p, .cells #[.slice a n k,I i'] 78 (0,0))]::G::H::F):=(tg_jobO hR hi hS m0 hm0).mono (by rintro e w' ⟨q,C,G,he,h1,h2,h3,h4,h5,h6,i',hi',h7⟩;exact ⟨q,C++G,he,h3 _ _ _ _ _ h1 h2,h4,h5,h6,i',hi',Sat.perm h7 (by simp)⟩)
end Go.Proofs.YtghcddbhllkbmaaGreat
