import Derived.Test.YtmlhcafjelkjfaaP1Ab
import Derived.WalkKit
import Derived.Deep.Quiet
import Derived.KernelRfl
import Derived.Laws.BytesString
import Derived.Laws.Shifts
import Derived.Laws.IdiomStrings
import Derived.Test.YtmlhcafjelkjfaaProg
import Derived.Test.YtmlhcafjelkjfaaP1Tq
namespace Go.Proofs.Ytmlhcafjelkjfaa
open Go Go.E Go.Proofs.Try
set_option linter.all false
set_option maxRecDepth 100000
set_option maxHeartbeats 2000000
variable {W w:World} {H:Chunk} {F:List Chunk}
def planeB (q:Plane):Prop:=q.pix.l.length<=64/\∀z∈q.pix.l,numB z
theorem tg_sized {p:Nat} {a:Option Addr} {n k:Nat} {i:Int} {xs:List Int} (hR:RdT Go.E.encI 1 [H] a n k xs) (hi:0<=i/\i<=n) (hS:Sat W w ([(p, .cells #[.slice a n k,I i] 44 (0,0))]::H::F)) (w0:Int) (h0:Int) (hwh:(1<=w0/\w0<=8)/\1<=h0/\h0<=8):
  Calls prog 15 #[Pt p 0,I w0,I h0] w fun e w'=>∃(q:Plane) (G:Chunk),e= .returned (.agg (encPlane q).toArray)/\(Plane.Ok [G] q)/\(q.w=w0/\q.h=h0/\planeOK q.v=true/\planeB q)/\∃i':Int,(0<=i'/\i'<=n)/\Sat W w' ([(p, .cells #[.slice a n k,I i'] 44 (0,0))]::G::H::F):=by
 have hle:=hR.le
 have hwh2:=mul_bd (a:=w0) (b:=h0) (A:=8) (B:=8) om om
 refine callsA 46 func15 rfl<|sR<|sAlloc hS zeroValue28 fun r0 _ b2=>nT<|cutA (γ:=Nat×Int×(Option Addr)×Chunk×Int) (fun ⟨b7,mx,a1,c1,itc⟩=>[(0,Pt p 0),(6,Pt r0 0),(7,Pt b7 0)]) (fun ⟨b7,mx,a1,c1,itc⟩ w=>Sat W w ([(p, .cells #[.slice a n k,I itc] 44 (0,0))]::[(b7, .cells #[I w0,I h0,I mx, .slice a1 (((w0*h0)).toNat) (((w0*h0)).toNat)] 28 (0,0))]::c1::[(r0, .cells #[I 0,I 0,I 0,nS] 28 (0,0))]::H::F)/\(0<=itc/\itc<=n)/\(1<=mx/\mx<=65535)/\OwnT Go.E.encI 3 1 a1 (((w0*h0)).toNat) (((w0*h0)).toNat) (List.replicate (((w0*h0)).toNat) 0) c1) ?_ ?_
 rotate_left
 ·rintro ⟨b7,mx,a1,c1,itc⟩ ρ _ ⟨c2,hitc,hmx,hO1⟩
  refine seqE<|sR<|pu1<|nT<|blockE ?_
  have d2:=(c2.pick 2 rfl)
  refine loopA (γ:=Nat×Int×(List Int)×(Option Addr)×Nat×Nat×Chunk) (fun ⟨i,iti,zs,azs,nzs,kzs,czs⟩=>[(0,Pt p 0),(6,Pt r0 0),(7,Pt b7 0),(8,I (i:Int))]) (fun ⟨i,iti,zs,azs,nzs,kzs,czs⟩ w=>Sat W w (czs::[(p, .cells #[.slice a n k,I iti] 44 (0,0))]::[(b7, .cells #[I w0,I h0,I mx, .slice azs nzs kzs] 28 (0,0))]::[(r0, .cells #[I 0,I 0,I 0,nS] 28 (0,0))]::H::F)/\i<=((w0*h0)).toNat/\(∀z∈zs,0<=z/\z<=mx)/\(zs.length=((w0*h0)).toNat)/\(0<=iti/\iti<=n)/\OwnT Go.E.encI 3 1 azs nzs kzs zs czs) (fun ⟨i,iti,zs,azs,nzs,kzs,czs⟩=>(((w0*h0)).toNat)-i) (0,itc,(List.replicate (((w0*h0)).toNat) 0),a1,((w0*h0)).toNat,((w0*h0)).toNat,c1) ⟨d2,om,(by intro z hz;have:=List.eq_of_mem_replicate hz;omega),by simp,om,hO1⟩ ?_
  rintro ⟨i,iti,zs,azs,nzs,kzs,czs⟩ ρ _ ⟨b0,hi,hB,hzl,hiti,hOzs⟩
  have hn_zs:=hOzs.len;have hl_zs:=hOzs.le
  refine seqE<|sR<|pu2<|sL b0 2 3 (.slice azs nzs kzs) (isAgg22 _)<|pu2<|nT<|cD ((i:Int)<(nzs:Int)) (fun e2=>?_) (fun e2=>?_)
  rotate_left
  ·refine exitE<|xB<|tN<|sR<|lA b0 2 0 4 (isAgg28 _) (sizeOf28 _)<|sTl b0 3 [I w0,I h0,I mx, .slice azs nzs kzs] sizeOf28 fun _ f1=>zE<|retN (vs:=[.agg #[I w0,I h0,I mx, .slice azs nzs kzs]]) rfl (.cons (.cell _ _ _ _ kr (lvA f1 3 0 [I w0,I h0,I mx, .slice azs nzs kzs] (isAgg28 _) (sizeOf28 _) rfl rfl rfl)) .nil) ?_
   have hpok:planeOK ⟨w0,h0,mx,zs⟩=true:=planeOK_t (p:=⟨w0,h0,mx,zs⟩) ⟨by unfold sizeP;dsimp only;omega,by dsimp only;omega⟩ (List.all_eq_true.2 (fun z hz=>decide_eq_true (hB z hz)))
   exact ⟨(⟨w0,h0,mx,⟨azs,nzs,kzs,zs⟩⟩:Plane),czs,rfl,⟨(hOzs.rdAt (cs:=[czs]) 0 rfl)⟩,⟨rfl,rfl,hpok,by dsimp only;omega,fun z hz=>by have:=hB z hz;unfold numB;omega⟩,_,om,((f1.pick 1 rfl).drops [2,2])⟩
  refine kT<|seqE<|blockE ?_
  obtain ⟨g2,h2,i2,g1,j2,h1,k2⟩:=OwnT.elem hOzs (i:Int)
  rw [Int.toNat_natCast] at g1 j2 h1
  refine drawE [8,13,16,17,19] [(1,⟨b7,3,none⟩, .slice azs nzs kzs),(6,⟨b7,2,none⟩,I mx),(11,⟨b7,2,none⟩,I mx),(15,⟨b7,2,none⟩,I mx)] [(true,[0,2,3,4,5,9,10,14]),(true,[1]),(true,[6]),(true,[7]),(true,[11]),(true,[12]),(true,[15]),(false,[8]),(false,[13]),(false,[16]),(false,[17]),(true,[18]),(false,[19])] rfl kr ⟨cI b0 2,cI b0 2,cI b0 2,cI b0 2,trivial⟩ ?_
  have l2:=b0.drew
  refine wU [0,2,3,4,5,9,10,14]<|wLd (.slice azs nzs kzs) 0 isAgg22<|wLd (I mx) 1 isAgg3<|wAdd mx 1<|wLd (I mx) 2 isAgg3<|wAdd mx 1<|wLd (I mx) 3 isAgg3<|wO rfl ?_
  have m2:=(l2.pick 1 rfl)
  refine cX call9 (tape_next (RdT.flat (hR.up 3 (by rfl))) om m2.flat1 (mx+1) om) ?_
  rintro _ _ ⟨v0,rfl,_,_,_,n2⟩
  have p0:=n2.unflat1
  refine nilO ⟨⟨cI p0 2,cI p0 2,cI p0 2,cI p0 2,trivial⟩,?_⟩
  refine wO rfl<|cX call9 (tape_next (RdT.flat (hR.up 3 (by rfl))) om p0.flat1 (mx+1) om) ?_
  rintro _ _ ⟨x0,rfl,_,_,_,o2⟩
  have q0:=o2.unflat1
  refine nilO ⟨⟨cI q0 2,cI q0 2,cI q0 2,cI q0 2,trivial⟩,?_⟩
  refine wO rfl<|sBS q0 #[I v0,I x0,I mx,I 0] runUnderlying22 sizeOf3 zeroValue3 fun _ _ s0=>nilO ⟨⟨cI s0 3,cI s0 3,cI s0 3,dI,trivial⟩,?_⟩
  refine wO rfl ?_
  have q2:=(s0.pick 1 rfl)
  refine cX call6 (tape_pick (RdT.flat (hR.up 4 (by rfl))) om q2.flat1 (RdT.flat (RdT.blk (enc:=Go.E.encI) (sz:=1) (xs:=[v0,x0,mx,0]) (fun _=>(by rfl)) 4 0 rfl rfl rfl om)) om om) ?_
  rintro _ _ ⟨c0,rfl,r2,s2,_,t2⟩
  have t0:=t2.unflat1
  have b8:(c0:Int)=v0\/(c0:Int)=x0\/(c0:Int)=mx\/(c0:Int)=0:=by simpa using r2
  refine nilO ⟨⟨cI t0 3,cI t0 3,cI t0 3,dI,trivial⟩,?_⟩
  refine wY (.pointer (some ⟨h2,i2+i*1,none⟩)) rfl (fun w _=>Y_idx (a:=azs) (i:=(i:Int)) (len:=nzs) (cap:=kzs) rfl runUnderlying22 sizeOf3 kr kr h1)<|wO rfl<|sStF t0 hOzs k2 2 i 0 g2 c0 g1 (I c0) [I c0] sizeOf3 fun _ u2 v2 w2=>nilO ⟨dA,?_⟩
  refine wN<|bN<|tN<|rE<|pu1<|sAdd (i:Int) 1<|pu1<|nT ?_
  exact ⟨(i+1,s2,(zs.set i c0),azs,nzs,kzs,u2),od,alA,((w2.pick 2 rfl).dropAt 2 rfl),om,mem_set hB om,by simp;omega,om,v2⟩
 refine drawP [3,4,8,10,11] [] (Plan.sts [0,1,2,5,6]<|Plan.sts [7]<| .f3 3 8 10 (.f3 4 8 10 (.fk 8 10 (Plan.sts [9]<| .ef 10<| .ef 11<| .fin) (.ef 8<|Plan.sts [9]<| .ef 11<| .fin)) (.fk 4 10 (Plan.sts [9]<| .ef 10<| .ef 11<| .fin) (.ef 4<|Plan.sts [9]<| .ef 11<| .fin)) (.fk 4 8 (.ef 8<|Plan.sts [9]<| .ef 11<| .fin) (.ef 4<|Plan.sts [9]<| .ef 11<| .fin))) (.fk 3 10 (.fk 4 10 (Plan.sts [9]<| .ef 10<| .ef 11<| .fin) (.ef 4<|Plan.sts [9]<| .ef 11<| .fin)) (.ef 3<| .ef 4<|Plan.sts [9]<| .ef 11<| .fin)) (.fk 3 8 (.fk 4 8 (.ef 8<|Plan.sts [9]<| .ef 11<| .fin) (.ef 4<|Plan.sts [9]<| .ef 11<| .fin)) (.ef 3<| .ef 4<|Plan.sts [9]<| .ef 11<| .fin))) rfl kr trivial ?_
 have y0:=b2.drew
 refine qU [0,1,2,5,6]<|qMul w0 h0<|qF3 ?_ ?_ ?_
 ·refine qO rfl<|sBS y0 #[I 255,I 255,I 65535,I 1,I 7] runUnderlying22 sizeOf3 zeroValue3 fun _ _ z0=>nilO ⟨trivial,?_⟩
  refine qF3 ?_ ?_ ?_
  ·refine qO rfl ?_
   have y2:=(z0.pick 2 rfl)
   refine cX call6 (tape_pick (RdT.flat (hR.up 2 (by rfl))) om y2.flat1 (RdT.flat (RdT.blk (enc:=Go.E.encI) (sz:=1) (xs:=[255,255,65535,1,7]) (fun _=>(by rfl)) 5 0 rfl rfl rfl om)) om om) ?_
   rintro _ _ ⟨a0,rfl,z2,i1,_,a3⟩
   have j1:=a3.unflat1
   have h8:(a0:Int)=255\/(a0:Int)=255\/(a0:Int)=65535\/(a0:Int)=1\/(a0:Int)=7:=by simpa using z2
   refine nilO ⟨trivial,?_⟩
   refine qF ?_ ?_
   ·refine qO rfl<|sMake (kl:= .i64) (kc:= .i64) (enc:=Go.E.encI) (sz:=1) (nb:=8) j1 0 ((w0*h0)).toNat (w0*h0) (om:(w0*h0)=((((w0*h0)).toNat:Nat):Int)) underlying22 (i:=Try.t3) kr fR fun k1 b3 _ c3 d3=>nilO ⟨trivial,?_⟩
    refine qU [9]<|qO rfl<|sAlloc d3 zeroValue28 fun e3 _ g3=>nilO ⟨trivial,?_⟩
    refine qO rfl<|sTl g3 0 [I w0,I h0,I a0, .slice (At k1 0) (((w0*h0)).toNat) (((w0*h0)).toNat)] sizeOf28 fun _ h3=>nilO ⟨trivial,?_⟩
    exact qN<|tN<|⟨(e3,a0,(At k1 0),b3,i1),alA,((h3.pick 2 rfl).dropAt 3 rfl),om,om,c3⟩
   refine qO rfl<|sAlloc j1 zeroValue28 fun j3 _ k3=>nilO ⟨trivial,?_⟩
   refine qO rfl<|sMake (kl:= .i64) (kc:= .i64) (enc:=Go.E.encI) (sz:=1) (nb:=8) k3 0 ((w0*h0)).toNat (w0*h0) (om:(w0*h0)=((((w0*h0)).toNat:Nat):Int)) underlying22 (i:=Try.t3) kr fR fun l1 l3 _ m3 n3=>nilO ⟨trivial,?_⟩
   refine qU [9]<|qO rfl<|sTl n3 1 [I w0,I h0,I a0, .slice (At l1 0) (((w0*h0)).toNat) (((w0*h0)).toNat)] sizeOf28 fun _ o3=>nilO ⟨trivial,?_⟩
   exact qN<|tN<|⟨(j3,a0,(At l1 0),l3,i1),alA,((o3.picks [1,2]).dropAt 3 rfl),om,om,m3⟩
  ·refine qO rfl<|sMake (kl:= .i64) (kc:= .i64) (enc:=Go.E.encI) (sz:=1) (nb:=8) z0 0 ((w0*h0)).toNat (w0*h0) (om:(w0*h0)=((((w0*h0)).toNat:Nat):Int)) underlying22 (i:=Try.t3) kr fR fun u0 m1 _ n1 o1=>nilO ⟨trivial,?_⟩
   refine qF ?_ ?_
   rotate_left
   ·refine qO rfl<|sAlloc o1 zeroValue28 fun q3 _ r3=>nilO ⟨trivial,?_⟩
    refine qO rfl ?_
    have s3:=(r3.pick 4 rfl)
    refine cX call6 (tape_pick (RdT.flat (hR.up 4 (by rfl))) om s3.flat1 (RdT.flat (RdT.blk (enc:=Go.E.encI) (sz:=1) (xs:=[255,255,65535,1,7]) (fun _=>(by rfl)) 5 2 rfl rfl rfl om)) om om) ?_
    rintro _ _ ⟨d0,rfl,u3,v3,_,w3⟩
    have x3:=w3.unflat1
    have s8:(d0:Int)=255\/(d0:Int)=255\/(d0:Int)=65535\/(d0:Int)=1\/(d0:Int)=7:=by simpa using u3
    refine nilO ⟨trivial,?_⟩
    refine qU [9]<|qO rfl<|sTl x3 1 [I w0,I h0,I d0, .slice (At u0 0) (((w0*h0)).toNat) (((w0*h0)).toNat)] sizeOf28 fun _ y3=>nilO ⟨trivial,?_⟩
    exact qN<|tN<|⟨(q3,d0,(At u0 0),m1,v3),alA,(y3.dropAt 3 rfl),om,om,n1⟩
   refine qO rfl ?_
   have a4:=(o1.pick 3 rfl)
   refine cX call6 (tape_pick (RdT.flat (hR.up 3 (by rfl))) om a4.flat1 (RdT.flat (RdT.blk (enc:=Go.E.encI) (sz:=1) (xs:=[255,255,65535,1,7]) (fun _=>(by rfl)) 5 1 rfl rfl rfl om)) om om) ?_
   rintro _ _ ⟨e0,rfl,b4,c4,_,d4⟩
   have e4:=d4.unflat1
   have w8:(e0:Int)=255\/(e0:Int)=255\/(e0:Int)=65535\/(e0:Int)=1\/(e0:Int)=7:=by simpa using b4
   refine nilO ⟨trivial,?_⟩
   refine qU [9]<|qO rfl<|sAlloc e4 zeroValue28 fun f4 _ g4=>nilO ⟨trivial,?_⟩
   refine qO rfl<|sTl g4 0 [I w0,I h0,I e0, .slice (At u0 0) (((w0*h0)).toNat) (((w0*h0)).toNat)] sizeOf28 fun _ h4=>nilO ⟨trivial,?_⟩
   exact qN<|tN<|⟨(f4,e0,(At u0 0),m1,c4),alA,((h4.pick 1 rfl).dropAt 3 rfl),om,om,n1⟩
  refine qO rfl<|sAlloc z0 zeroValue28 fun q1 _ r1=>nilO ⟨trivial,?_⟩
  refine qF ?_ ?_
  ·refine qO rfl ?_
   have j4:=(r1.pick 3 rfl)
   refine cX call6 (tape_pick (RdT.flat (hR.up 3 (by rfl))) om j4.flat1 (RdT.flat (RdT.blk (enc:=Go.E.encI) (sz:=1) (xs:=[255,255,65535,1,7]) (fun _=>(by rfl)) 5 1 rfl rfl rfl om)) om om) ?_
   rintro _ _ ⟨f0,rfl,k4,l4,_,m4⟩
   have n4:=m4.unflat1
   have c9:(f0:Int)=255\/(f0:Int)=255\/(f0:Int)=65535\/(f0:Int)=1\/(f0:Int)=7:=by simpa using k4
   refine nilO ⟨trivial,?_⟩
   refine qO rfl<|sMake (kl:= .i64) (kc:= .i64) (enc:=Go.E.encI) (sz:=1) (nb:=8) n4 0 ((w0*h0)).toNat (w0*h0) (om:(w0*h0)=((((w0*h0)).toNat:Nat):Int)) underlying22 (i:=Try.t3) kr fR fun s1 o4 _ p4 q4=>nilO ⟨trivial,?_⟩
   refine qU [9]<|qO rfl<|sTl q4 2 [I w0,I h0,I f0, .slice (At s1 0) (((w0*h0)).toNat) (((w0*h0)).toNat)] sizeOf28 fun _ r4=>nilO ⟨trivial,?_⟩
   exact qN<|tN<|⟨(q1,f0,(At s1 0),o4,l4),alA,((r4.picks [2,2]).dropAt 3 rfl),om,om,p4⟩
  refine qO rfl<|sMake (kl:= .i64) (kc:= .i64) (enc:=Go.E.encI) (sz:=1) (nb:=8) r1 0 ((w0*h0)).toNat (w0*h0) (om:(w0*h0)=((((w0*h0)).toNat:Nat):Int)) underlying22 (i:=Try.t3) kr fR fun t1 t4 _ u4 v4=>nilO ⟨trivial,?_⟩
  refine qO rfl ?_
  have w4:=(v4.pick 4 rfl)
  refine cX call6 (tape_pick (RdT.flat (hR.up 4 (by rfl))) om w4.flat1 (RdT.flat (RdT.blk (enc:=Go.E.encI) (sz:=1) (xs:=[255,255,65535,1,7]) (fun _=>(by rfl)) 5 2 rfl rfl rfl om)) om om) ?_
  rintro _ _ ⟨g0,rfl,x4,y4,_,z4⟩
  have a5:=z4.unflat1
  have i9:(g0:Int)=255\/(g0:Int)=255\/(g0:Int)=65535\/(g0:Int)=1\/(g0:Int)=7:=by simpa using x4
  refine nilO ⟨trivial,?_⟩
  refine qU [9]<|qO rfl<|sTl a5 2 [I w0,I h0,I g0, .slice (At t1 0) (((w0*h0)).toNat) (((w0*h0)).toNat)] sizeOf28 fun _ b5=>nilO ⟨trivial,?_⟩
  exact qN<|tN<|⟨(q1,g0,(At t1 0),t4,y4),alA,((b5.picks [2,1]).dropAt 3 rfl),om,om,u4⟩
 ·refine qO rfl<|sMake (kl:= .i64) (kc:= .i64) (enc:=Go.E.encI) (sz:=1) (nb:=8) y0 0 ((w0*h0)).toNat (w0*h0) (om:(w0*h0)=((((w0*h0)).toNat:Nat):Int)) underlying22 (i:=Try.t3) kr fR fun o0 b1 _ d1 u1=>nilO ⟨trivial,?_⟩
  refine qF ?_ ?_
  rotate_left
  ·refine qO rfl<|sAlloc u1 zeroValue28 fun d5 _ e5=>nilO ⟨trivial,?_⟩
   refine qO rfl<|sBS e5 #[I 255,I 255,I 65535,I 1,I 7] runUnderlying22 sizeOf3 zeroValue3 fun _ _ f5=>nilO ⟨trivial,?_⟩
   refine qO rfl ?_
   have g5:=(f5.pick 4 rfl)
   refine cX call6 (tape_pick (RdT.flat (hR.up 4 (by rfl))) om g5.flat1 (RdT.flat (RdT.blk (enc:=Go.E.encI) (sz:=1) (xs:=[255,255,65535,1,7]) (fun _=>(by rfl)) 5 0 rfl rfl rfl om)) om om) ?_
   rintro _ _ ⟨i0,rfl,h5,i5,_,j5⟩
   have k5:=j5.unflat1
   have q9:(i0:Int)=255\/(i0:Int)=255\/(i0:Int)=65535\/(i0:Int)=1\/(i0:Int)=7:=by simpa using h5
   refine nilO ⟨trivial,?_⟩
   refine qU [9]<|qO rfl<|sTl k5 2 [I w0,I h0,I i0, .slice (At o0 0) (((w0*h0)).toNat) (((w0*h0)).toNat)] sizeOf28 fun _ l5=>nilO ⟨trivial,?_⟩
   exact qN<|tN<|⟨(d5,i0,(At o0 0),b1,i5),alA,(l5.dropAt 1 rfl),om,om,d1⟩
  refine qO rfl<|sBS u1 #[I 255,I 255,I 65535,I 1,I 7] runUnderlying22 sizeOf3 zeroValue3 fun _ _ v1=>nilO ⟨trivial,?_⟩
  refine qF ?_ ?_
  rotate_left
  ·refine qO rfl<|sAlloc v1 zeroValue28 fun n5 _ o5=>nilO ⟨trivial,?_⟩
   refine qO rfl ?_
   have p5:=(o5.pick 4 rfl)
   refine cX call6 (tape_pick (RdT.flat (hR.up 4 (by rfl))) om p5.flat1 (RdT.flat (RdT.blk (enc:=Go.E.encI) (sz:=1) (xs:=[255,255,65535,1,7]) (fun _=>(by rfl)) 5 1 rfl rfl rfl om)) om om) ?_
   rintro _ _ ⟨j0,rfl,q5,r5,_,s5⟩
   have t5:=s5.unflat1
   have x9:(j0:Int)=255\/(j0:Int)=255\/(j0:Int)=65535\/(j0:Int)=1\/(j0:Int)=7:=by simpa using q5
   refine nilO ⟨trivial,?_⟩
   refine qU [9]<|qO rfl<|sTl t5 1 [I w0,I h0,I j0, .slice (At o0 0) (((w0*h0)).toNat) (((w0*h0)).toNat)] sizeOf28 fun _ u5=>nilO ⟨trivial,?_⟩
   exact qN<|tN<|⟨(n5,j0,(At o0 0),b1,r5),alA,(u5.dropAt 2 rfl),om,om,d1⟩
  refine qO rfl ?_
  have w5:=(v1.pick 3 rfl)
  refine cX call6 (tape_pick (RdT.flat (hR.up 3 (by rfl))) om w5.flat1 (RdT.flat (RdT.blk (enc:=Go.E.encI) (sz:=1) (xs:=[255,255,65535,1,7]) (fun _=>(by rfl)) 5 0 rfl rfl rfl om)) om om) ?_
  rintro _ _ ⟨k0,rfl,x5,y5,_,z5⟩
  have a6:=z5.unflat1
  have ba:(k0:Int)=255\/(k0:Int)=255\/(k0:Int)=65535\/(k0:Int)=1\/(k0:Int)=7:=by simpa using x5
  refine nilO ⟨trivial,?_⟩
  refine qU [9]<|qO rfl<|sAlloc a6 zeroValue28 fun b6 _ c6=>nilO ⟨trivial,?_⟩
  refine qO rfl<|sTl c6 0 [I w0,I h0,I k0, .slice (At o0 0) (((w0*h0)).toNat) (((w0*h0)).toNat)] sizeOf28 fun _ d6=>nilO ⟨trivial,?_⟩
  exact qN<|tN<|⟨(b6,k0,(At o0 0),b1,y5),alA,((d6.pick 1 rfl).dropAt 2 rfl),om,om,d1⟩
 refine qO rfl<|sAlloc y0 zeroValue28 fun e1 _ w1=>nilO ⟨trivial,?_⟩
 refine qF ?_ ?_
 rotate_left
 ·refine qO rfl<|sMake (kl:= .i64) (kc:= .i64) (enc:=Go.E.encI) (sz:=1) (nb:=8) w1 0 ((w0*h0)).toNat (w0*h0) (om:(w0*h0)=((((w0*h0)).toNat:Nat):Int)) underlying22 (i:=Try.t3) kr fR fun x1 f6 _ g6 h6=>nilO ⟨trivial,?_⟩
  refine qO rfl<|sBS h6 #[I 255,I 255,I 65535,I 1,I 7] runUnderlying22 sizeOf3 zeroValue3 fun _ _ i6=>nilO ⟨trivial,?_⟩
  refine qO rfl ?_
  have j6:=(i6.pick 4 rfl)
  refine cX call6 (tape_pick (RdT.flat (hR.up 4 (by rfl))) om j6.flat1 (RdT.flat (RdT.blk (enc:=Go.E.encI) (sz:=1) (xs:=[255,255,65535,1,7]) (fun _=>(by rfl)) 5 0 rfl rfl rfl om)) om om) ?_
  rintro _ _ ⟨l0,rfl,k6,l6,_,m6⟩
  have n6:=m6.unflat1
  have ka:(l0:Int)=255\/(l0:Int)=255\/(l0:Int)=65535\/(l0:Int)=1\/(l0:Int)=7:=by simpa using k6
  refine nilO ⟨trivial,?_⟩
  refine qU [9]<|qO rfl<|sTl n6 3 [I w0,I h0,I l0, .slice (At x1 0) (((w0*h0)).toNat) (((w0*h0)).toNat)] sizeOf28 fun _ o6=>nilO ⟨trivial,?_⟩
  exact qN<|tN<|⟨(e1,l0,(At x1 0),f6,l6),alA,((o6.picks [3,1]).dropAt 2 rfl),om,om,g6⟩
 refine qO rfl<|sBS w1 #[I 255,I 255,I 65535,I 1,I 7] runUnderlying22 sizeOf3 zeroValue3 fun _ _ y1=>nilO ⟨trivial,?_⟩
 refine qF ?_ ?_
 rotate_left
 ·refine qO rfl<|sMake (kl:= .i64) (kc:= .i64) (enc:=Go.E.encI) (sz:=1) (nb:=8) y1 0 ((w0*h0)).toNat (w0*h0) (om:(w0*h0)=((((w0*h0)).toNat:Nat):Int)) underlying22 (i:=Try.t3) kr fR fun z1 q6 _ r6 s6=>nilO ⟨trivial,?_⟩
  refine qO rfl ?_
  have t6:=(s6.pick 4 rfl)
  refine cX call6 (tape_pick (RdT.flat (hR.up 4 (by rfl))) om t6.flat1 (RdT.flat (RdT.blk (enc:=Go.E.encI) (sz:=1) (xs:=[255,255,65535,1,7]) (fun _=>(by rfl)) 5 1 rfl rfl rfl om)) om om) ?_
  rintro _ _ ⟨m0,rfl,u6,v6,_,w6⟩
  have x6:=w6.unflat1
  have ra:(m0:Int)=255\/(m0:Int)=255\/(m0:Int)=65535\/(m0:Int)=1\/(m0:Int)=7:=by simpa using u6
  refine nilO ⟨trivial,?_⟩
  refine qU [9]<|qO rfl<|sTl x6 3 [I w0,I h0,I m0, .slice (At z1 0) (((w0*h0)).toNat) (((w0*h0)).toNat)] sizeOf28 fun _ y6=>nilO ⟨trivial,?_⟩
  exact qN<|tN<|⟨(e1,m0,(At z1 0),q6,v6),alA,((y6.picks [3,1]).dropAt 3 rfl),om,om,r6⟩
 refine qO rfl ?_
 have a7:=(y1.pick 3 rfl)
 refine cX call6 (tape_pick (RdT.flat (hR.up 3 (by rfl))) om a7.flat1 (RdT.flat (RdT.blk (enc:=Go.E.encI) (sz:=1) (xs:=[255,255,65535,1,7]) (fun _=>(by rfl)) 5 0 rfl rfl rfl om)) om om) ?_
 rintro _ _ ⟨n0,rfl,c7,d7,_,e7⟩
 have f7:=e7.unflat1
 have va:(n0:Int)=255\/(n0:Int)=255\/(n0:Int)=65535\/(n0:Int)=1\/(n0:Int)=7:=by simpa using c7
 refine nilO ⟨trivial,?_⟩
 refine qO rfl<|sMake (kl:= .i64) (kc:= .i64) (enc:=Go.E.encI) (sz:=1) (nb:=8) f7 0 ((w0*h0)).toNat (w0*h0) (om:(w0*h0)=((((w0*h0)).toNat:Nat):Int)) underlying22 (i:=Try.t3) kr fR fun a2 g7 _ h7 i7=>nilO ⟨trivial,?_⟩
 refine qU [9]<|qO rfl<|sTl i7 3 [I w0,I h0,I n0, .slice (At a2 0) (((w0*h0)).toNat) (((w0*h0)).toNat)] sizeOf28 fun _ j7=>nilO ⟨trivial,?_⟩
 exact qN<|tN<|⟨(e1,n0,(At a2 0),g7,d7),alA,((j7.picks [3,2]).dropAt 3 rfl),om,om,h7⟩
theorem tg_plane {p:Nat} {a:Option Addr} {n k:Nat} {i:Int} {xs:List Int} (hR:RdT Go.E.encI 1 [H] a n k xs) (hi:0<=i/\i<=n) (hS:Sat W w ([(p, .cells #[.slice a n k,I i] 44 (0,0))]::H::F)):
  Calls prog 5 #[Pt p 0] w fun e w'=>∃(q:Plane) (G:Chunk),e= .returned (.agg (encPlane q).toArray)/\(Plane.Ok [G] q)/\((1<=q.w/\q.w<=6)/\(1<=q.h/\q.h<=5)/\planeOK q.v=true/\planeB q)/\∃i':Int,(0<=i'/\i'<=n)/\Sat W w' ([(p, .cells #[.slice a n k,I i'] 44 (0,0))]::G::H::F):=by
 have hle:=hR.le
 refine callsA 11 func5 rfl<|sR<|sAlloc hS zeroValue28 fun _ _ f0=>zS<|pu2 ?_
 have g0:=(f0.pick 1 rfl)
 refine cX call9 (tape_next (RdT.flat (hR.up 1 (by rfl))) om g0.flat1 6 om) ?_
 rintro _ _ ⟨c0,rfl,_,_,_,h0⟩
 have i0:=h0.unflat1
 refine sAdd 1 c0<|pu1<|cX call9 (tape_next (RdT.flat (hR.up 1 (by rfl))) om i0.flat1 5 om) ?_
 rintro _ _ ⟨d0,rfl,_,_,_,j0⟩
 have k0:=j0.unflat1
 refine sAdd 1 d0<|cX call15 (tg_sized (RdT.flat (hR.up 1 (by rfl))) om k0.flat1 (1+c0) (1+d0) om) ?_
 rintro _ _ ⟨a0,l0,rfl,m0,b0,_,_,n0⟩
 refine sTl (Sat.unflat2 n0) 2 (encPlane a0) sizeOf28 fun _ e0=>zE<|retN (vs:=[.agg (encPlane a0).toArray]) rfl (.cons (.cell _ _ _ _ kr (lvA e0 2 0 (encPlane a0) (isAgg28 _) (sizeOf28 _) rfl rfl rfl)) .nil) ?_
 exact ⟨a0,l0,rfl,m0,⟨by have h:=b0.1;omega,by have h:=b0.2.1;omega,b0.2.2⟩,_,om,(e0.dropAt 2 rfl)⟩
def BefG (ni:Int) (D:List (List Int)) (out:List Int):Prop:=∀pre x post,out=pre++x::post->∀s,D[(x-ni).toNat]?=some s->∀y∈s,y<ni\/y∈pre
theorem BefG.nil {ni:Int} {D:List (List Int)}:BefG ni D []:=by
  intro pre x post h;cases pre<;>simp at h
theorem BefG.add {ni:Int} {D:List (List Int)} {out:List Int} {k:Nat} (h:BefG ni D out) (hc:canG ni D out k):BefG ni D (out++[ni+(k:Int)]):=by
 intro pre x post e s hs y hy
 rcases List.append_eq_append_iff.1 e with ⟨z,h1,h2⟩|⟨z,h1,h2⟩
 ·cases z with
  |nil=>
   simp at h1 h2
   obtain ⟨s2,hs2,_,h4⟩:=hc
   rw [<-h2.1,show (ni+(k:Int)-ni).toNat=k by omega,hs2] at hs
   obtain rfl:=Option.some.inj hs
   rw [h1];exact h4 y hy
  |cons a z=>simp at h2
 ·cases z with
  |nil=>
   simp at h1 h2
   obtain ⟨s2,hs2,_,h4⟩:=hc
   rw [h2.1,show (ni+(k:Int)-ni).toNat=k by omega,hs2] at hs
   obtain rfl:=Option.some.inj hs
   rw [<-h1];exact h4 y hy
  |cons a z=>
   simp at h2
   obtain ⟨rfl,h3⟩:=h2
   exact h pre x z h1 s hs y hy
def FitP (ni:Int) (ss:List StageV) (sh:List Shape) (x:Int):Prop:=shpStep ni ss x sh=(shpAt sh x,0)
structure LayG (L:Lay):Prop where
  ni:1<=L.ni/\L.ni+(L.ss.length:Int)<=16
  rng:∀x∈L.od,L.ni<=x/\x<L.ni+(L.ss.length:Int)
  every:∀x:Int,L.ni<=x->x<L.ni+(L.ss.length:Int)->x∈L.od
  nd:L.od.Nodup
  ln:L.od.length=L.ss.length
  bef:∀p x q,L.od=p++x::q->∀y∈srcs (L.st x),0<=y/\(y<L.ni\/y∈p)
  len:(L.sh.length:Int)=L.ni+(L.ss.length:Int)
  sz:∀x:Int,0<=x->x<L.ni+(L.ss.length:Int)->szP (shpAt L.sh x)
  fit:∀x∈L.od,FitP L.ni L.ss L.sh x
  tl:tileP L.tw L.th
section
variable {L:Lay} (g:LayG L)
include g
theorem LayG.byt {x:Int} (hx:x∈L.od):bytOK (L.st x):=by
  have h:=g.fit x hx
  unfold FitP shpStep at h
  exact of_bytOK (congrArg Prod.snd h)
end
def atV (p:PlaneV) (x y:Int):Int:=if x<0\/y<0\/p.w<=x\/p.h<=y then 0 else pixAt p x y
def leftV (own:PlaneV) (r:Rct):List Int:=(List.range (r.y1-r.y0).toNat).map fun (j:Nat)=>atV own (r.x0-1) (r.y0+(j:Int))
def topV (own:PlaneV) (r:Rct):List Int:=(List.range (r.x1-r.x0).toNat).map fun (i:Nat)=>atV own (r.x0+(i:Int)) (r.y0-1)
def sumT (p own:PlaneV) (r:Rct):PlaneV×Int:=if rIn r p.w p.h then itgT p r (leftV own r) (topV own r) (atV own (r.x0-1) (r.y0-1)) else (zPl,8)
def kerT (s:StageV) (p q:PlaneV) (r:Rct):PlaneV×Int:=
  if s.kind=1 then convT p s.edgePolicy s.edgeFill s.kW s.kH s.weights s.shift s.max_ r
  else if s.kind=2 then sepT p s.edgePolicy s.edgeFill s.row s.col s.shift s.shift2 s.max_ r
  else if s.kind=3 then resT p s.edgePolicy s.edgeFill s.x s.y s.shift s.shift2 s.max_ r
  else pwT p q (decide (twoP s)) s.ops s.max_ r
def tilT (s:StageV) (p q own:PlaneV) (r:Rct):PlaneV×Int:=if s.kind=5 then sumT p own r else kerT s p q r
def mrgN (l:List (List Int)):Int:=((l[0]?.getD []).length:Int)
def addL (a b:List Int):List Int:=List.zipWith (·+·) a b
def mrgV (l:List (List Int)):List Int:=l.foldl addL (List.replicate (mrgN l).toNat 0)
def mrgC (l:List (List Int)):Int:=
  if l.length=0\/4096<l.length then 5 else if (1<=mrgN l/\mrgN l<=128)/\l.all (fun z=>decide ((z.length:Int)=mrgN l))=true then
    (if l.all (fun z=>inM 4096 z)=true then (if (mrgV l).all (fun v=>decide (v<=4096))=true then 0 else 3) else 2) else 8
def cmpC (s:StageV) (part:Int) (p q own:PlaneV):Int:=
  if belongP s.kind part/\planeOK p=true/\(twoP s->planeOK q=true)/\(s.kind=5->planeOK own=true/\own.w=p.w/\own.h=p.h) then (ofV s (shpOf p) (shpOf q)).2 else 1
def cmpT (s:StageV) (part:Int) (r:Rct) (p q own:PlaneV) (parts:List (List Int)):List Int×Int:=
  if cmpC s part p q own=0 then
    (if part=1 then (partV p s.bins r,partC p s.bins r)
     else if part=2 then (if mrgC parts=0 then (if mrgN parts=s.bins then (mrgV parts,0) else ([],8)) else ([],mrgC parts))
     else if (tilT s p q own r).2=0 then ((tilT s p q own r).1.pix,0) else ([],(tilT s p q own r).2))
  else ([],cmpC s part p q own)
def inR2 (r:Rct) (x y:Int):Prop:=(r.x0<=x/\x<r.x1)/\r.y0<=y/\y<r.y1
instance (r:Rct) (x y:Int):Decidable (inR2 r x y):=by unfold inR2;infer_instance
def putL (own:PlaneV) (r:Rct) (pix:List Int):List Int:=gridN own.w (fun x y=>if inR2 r x y then pix.getD ((y-r.y0)*(r.x1-r.x0)+(x-r.x0)).toNat 0 else pixAt own x y) own.pix.length
def putC (own:PlaneV) (part:Int) (r:Rct) (pix:List Int):Int:=if planeOK own=true/\(part=0\/part=2) then (if rIn r own.w own.h/\(pix.length:Int)=(r.x1-r.x0)*(r.y1-r.y0) then (if inM own.max_ pix=true then 0 else 2) else 8) else 1
def putT (own:PlaneV) (part:Int) (r:Rct) (pix:List Int):PlaneV×Int:=okT (putC own part r pix) ⟨own.w,own.h,own.max_,putL own r pix⟩
theorem put_len (own:PlaneV) (r:Rct) (pix:List Int):(putL own r pix).length=own.pix.length:=grid_len _ _ _
theorem pixAt_grid {w h mx:Int} {f:Int->Int->Int} {n:Nat} (hn:(n:Int)=w*h) {x y:Int} (hx:0<=x/\x<w) (hy:0<=y/\y<h):pixAt ⟨w,h,mx,gridN w f n⟩ x y=f x y:=by
  have h1:=grid_ix (nx:=w) (i:=y) (j:=x) hx
  have h2:y*w+x<w*h:=by
    have:=Int.mul_le_mul_of_nonneg_right (show y+1<=h by omega) (show 0<=w by omega)
    rw [Int.add_mul,Int.one_mul,Int.mul_comm h] at this
    omega
  have h0:0<=y*w:=Int.mul_nonneg hy.1 (by omega)
  unfold pixAt
  dsimp only
  rw [List.getD_eq_getElem?_getD,grid_at (by omega),show (((y*w+x).toNat:Nat):Int)=y*w+x by omega,h1.1,h1.2];rfl
theorem put_at {own:PlaneV} {r:Rct} {pix:List Int} (hl:(own.pix.length:Int)=own.w*own.h) {x y:Int} (hx:0<=x/\x<own.w) (hy:0<=y/\y<own.h):
    pixAt ⟨own.w,own.h,own.max_,putL own r pix⟩ x y=if inR2 r x y then pix.getD ((y-r.y0)*(r.x1-r.x0)+(x-r.x0)).toNat 0 else pixAt own x y:=pixAt_grid hl hx hy
def tixV (nx tw th x y:Int):Int:=y/th*nx+x/tw
theorem tix_in {w h tw th i x y:Int} (hf:fineP w h tw th) (hi:0<=i/\i<colsN w h tw th*rowsN w h tw th) (hx:0<=x/\x<w) (hy:0<=y/\y<h):inR2 (tileV w h tw th i) x y↔tixV (colsN w h tw th) tw th x y=i:=by
 have hb:=cols_bd hf
 have hix:=tile_ix hb.1.1 hi.1 hi.2
 have hf0:=hf
 unfold fineP at hf0
 have dx:=Int.emod_def x tw;have dx1:=Int.emod_nonneg x (show tw≠0 by omega);have dx2:=Int.emod_lt_of_pos x (show 0<tw by omega)
 have dy:=Int.emod_def y th;have dy1:=Int.emod_nonneg y (show th≠0 by omega);have dy2:=Int.emod_lt_of_pos y (show 0<th by omega)
 have hxc:0<=x/tw/\x/tw<colsN w h tw th:=by
  refine ⟨Int.ediv_nonneg hx.1 om,?_⟩
  have hge:=ceil_ge (a:=w) (b:=tw) om om
  have hc:colsN w h tw th=ceilV w tw:=by unfold colsN;rw [if_pos hf]
  rw [hc]
  exact Int.ediv_lt_of_lt_mul om om
 have hq:=grid_ix (nx:=colsN w h tw th) (i:=y/th) (j:=x/tw) hxc
 unfold tixV
 constructor
 ·intro hin
  unfold inR2 tileV at hin
  dsimp only at hin
  have e1:x/tw=i%colsN w h tw th:=by
   have l1:i%colsN w h tw th<=x/tw:=(Int.le_ediv_iff_mul_le om).2 hin.1.1
   have l2:x/tw<i%colsN w h tw th+1:=Int.ediv_lt_of_lt_mul om (by rw [Int.add_mul,Int.one_mul];omega)
   omega
  have e2:y/th=i/colsN w h tw th:=by
   have l1:i/colsN w h tw th<=y/th:=(Int.le_ediv_iff_mul_le om).2 hin.2.1
   have l2:y/th<i/colsN w h tw th+1:=Int.ediv_lt_of_lt_mul om (by rw [Int.add_mul,Int.one_mul];omega)
   omega
  rw [e1,e2];exact hix.2.2.2.symm
 ·intro e
  have e1:i%colsN w h tw th=x/tw:=by rw [<-e];exact hq.1
  have e2:i/colsN w h tw th=y/th:=by rw [<-e];exact hq.2
  unfold inR2 tileV
  dsimp only
  rw [e1,e2,Int.mul_comm (x/tw),Int.mul_comm (y/th)]
  omega
structure AsmP (W own:PlaneV) (nx tw th:Int) (i:Int):Prop where
  shp:shpOf own=shpOf W
  len:(own.pix.length:Int)=own.w*own.h
  pix:∀x y,0<=x/\x<W.w->0<=y/\y<W.h->pixAt own x y=if tixV nx tw th x y<i then pixAt W x y else 0
section
variable {W own:PlaneV} {tw th i:Int} (hf:fineP W.w W.h tw th) (h:AsmP W own (colsN W.w W.h tw th) tw th i)
include hf h
theorem AsmP.put (hi:0<=i/\i<colsN W.w W.h tw th*rowsN W.w W.h tw th) {pix:List Int}
  (hp:∀x y,inR2 (tileV W.w W.h tw th i) x y->pix.getD ((y-(tileV W.w W.h tw th i).y0)*((tileV W.w W.h tw th i).x1-(tileV W.w W.h tw th i).x0)+(x-(tileV W.w W.h tw th i).x0)).toNat 0=pixAt W x y):
  AsmP W ⟨own.w,own.h,own.max_,putL own (tileV W.w W.h tw th i) pix⟩ (colsN W.w W.h tw th) tw th (i+1):=by
 have e1:own.w=W.w:=congrArg Shape.w h.shp
 have e2:own.h=W.h:=congrArg Shape.h h.shp
 refine ⟨h.shp,by dsimp only;rw [put_len];exact h.len,fun x y hx hy=>?_⟩
 rw [put_at h.len (by rw [e1];exact hx) (by rw [e2];exact hy)]
 have ht:=tix_in hf hi hx hy
 by_cases hin:inR2 (tileV W.w W.h tw th i) x y
 ·rw [if_pos hin,hp x y hin,if_pos (by have:=ht.1 hin;omega)]
 ·rw [if_neg hin,h.pix x y hx hy]
  have hne:¬tixV (colsN W.w W.h tw th) tw th x y=i:=fun e=>hin (ht.2 e)
  by_cases hl:tixV (colsN W.w W.h tw th) tw th x y<i
  ·rw [if_pos hl,if_pos om]
  ·rw [if_neg hl,if_neg om]
end
theorem AsmP.ok {W own:PlaneV} {nx tw th i:Int} (h:AsmP W own nx tw th i) (hW:planeOK W=true):planeOK own=true:=by
 have e1:own.w=W.w:=congrArg Shape.w h.shp
 have e2:own.h=W.h:=congrArg Shape.h h.shp
 have e3:own.max_=W.max_:=congrArg Shape.max_ h.shp
 have hs:=(plane_sz hW).1
 have hs0:=hs;unfold sizeP at hs0
 refine plane_mk (by rw [e1,e2,e3];exact hs) h.len (fun z hz=>?_)
 obtain ⟨n,hn⟩:=List.getElem?_of_mem hz
 have hl:n<own.pix.length:=(List.getElem?_eq_some_iff.1 hn).1
 have hlen:=h.len
 rw [e1,e2] at hlen
 have hix:=tile_ix (nx:=W.w) (ny:=W.h) (i:=(n:Int)) om om om
 have hp:=h.pix ((n:Int)%W.w) ((n:Int)/W.w) hix.1 ⟨hix.2.1,hix.2.2.1⟩
 have hz2:pixAt own ((n:Int)%W.w) ((n:Int)/W.w)=z:=by
  unfold pixAt
  rw [e1,show ((n:Int)/W.w*W.w+(n:Int)%W.w).toNat=n by omega,List.getD_eq_getElem?_getD,hn];rfl
 rw [hz2] at hp
 rw [e3,hp]
 split
 ·exact pixAt_bd hW _ _
 ·omega
theorem ediv_eq {a b c:Int} (hb:0<b) (h1:c*b<=a) (h2:a<c*b+b):a/b=c:=by
  have l1:c<=a/b:=(Int.le_ediv_iff_mul_le hb).2 h1
  have l2:a/b<c+1:=Int.ediv_lt_of_lt_mul hb (by rw [Int.add_mul,Int.one_mul];omega)
  omega
def AgrP (s:StageV) (p p':PlaneV) (r:Rct):Prop:=∀c∈colsV s p.w r.x0 r.x1,∀d∈rowsV s p.h r.y0 r.y1,pixAt p c d=pixAt p' c d
section
variable {s:StageV} {p p':PlaneV} {r:Rct} (hw:p'.w=p.w) (hh:p'.h=p.h) (ha:accV s) (hx:lenP p.w r.x0 r.x1) (hy:lenP p.h r.y0 r.y1) (hg:AgrP s p p' r)
include hw hh ha hx hy hg
end
end Go.Proofs.Ytmlhcafjelkjfaa
