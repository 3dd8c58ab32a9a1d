import Derived.WalkKit
import Derived.Deep.Quiet
import Derived.KernelRfl
import Derived.Laws.BytesString
import Derived.Laws.Shifts
import Derived.Laws.IdiomStrings
import Derived.OpenShut
import Derived.Deep.Slices
import Derived.ChangeSame
import Derived.Deep.Fields
import Derived.Test.YtghcddbhllkbmaaGreatProg
import Derived.Laws.IdiomRangeMap
import Derived.Test.YtghcddbhllkbmaaGreatR1P1Rv
import Derived.Test.YtghcddbhllkbmaaGreatR1P1CkS
namespace Go.Proofs.YtghcddbhllkbmaaGreat
open Go Go.E Go.Proofs.Tryz
set_option linter.all false
set_option maxRecDepth 100000
set_option maxHeartbeats 2000000
variable {W w:World} {H:Chunk} {F:List Chunk}
theorem r12_merge (al:Option Addr) (nl kl:Nat) (l:List IL) (hl:RdT encIL 1 [H] al nl kl l) (dl:∀z∈l,IL.Ok [H] z) (hS:Sat W w (H::F)):
  Calls prog 68 #[.slice al nl kl] w fun e w'=>∃(az:Option Addr) (nz kz:Nat) (zs:List Int) (c:Int) (G:Chunk),e= .returned (.tuple #[.slice az nz kz,I c])/\RdT Go.E.encI 1 [G] az nz kz zs/\(zs,c)=mrgT (l.map (fun z=>z.l.l))/\Sat W w' (G::H::F):=by
 have C1:=hl.ll
 refine callsK 101 func68 rfl<|jCO 13 rfl<|sE 12 (nl:Int) 0 (fun e1=>jOR 15 rfl<|retT [nS,I 5]<|(by have f1:Sat W _ ([]::H::F):=Sat.nilc hS;exact ⟨none,0,0,[],5,_,rfl,RdT.nil (enc:=Go.E.encI) (sz:=1) fR [[]],(mrg_5 (by rw [List.length_map];omega)).symm,f1⟩)) fun e1=>jOC 6 rfl<|cD ((nl:Int)>4096) (fun g1=>jCR 8 rfl<|retT [nS,I 5]<|(by have i1:Sat W _ ([]::H::F):=Sat.nilc hS;exact ⟨none,0,0,[],5,_,rfl,RdT.nil (enc:=Go.E.encI) (sz:=1) fR [[]],(mrg_5 (by rw [List.length_map];omega)).symm,i1⟩)) fun g1=>jCC 4 rfl ?_
 have G0:¬((l.map (fun z=>z.l.l)).length=0\/4096<(l.map (fun z=>z.l.l)).length):=by rw [List.length_map];omega
 refine jCC 5 rfl<|loopF [0] (γ:=Nat) (fun i R=>⟨[(4,I (i:Int))],R,nl-i,i<=nl/\(((l.take i).map (fun z=>z.l.l)).all (fun z=>decide (z.length=mrgN (l.map (fun z=>z.l.l))))=true)/\(0<i->1<=mrgN (l.map (fun z=>z.l.l))/\mrgN (l.map (fun z=>z.l.l))<=128)⟩) 0 ⟨hS,om,by rfl,(fun h=>absurd h (Nat.lt_irrefl _))⟩ ?_
 rintro i ρ _ ⟨l0,hi,W0,hN⟩
 refine jCC 9 rfl<|cD ((i:Int)<(nl:Int)) (fun j1=>?_) (fun j1=>?_)
 ·refine jCC 5 rfl ?_
  obtain ⟨i0,c3,d3,e0,m0,w0⟩:=RdT.eN hl i
  obtain ⟨c0,e3,f3,f0,j0,q0⟩:=RdT.elem hl 0
  exact bC (((i0.l.n:Int):Int)=(c0.l.n:Int)) (fun x0=>drawF l0 [15] (fq 3 0 (m0.up 0 rfl)<|fq 7 0 (j0.up 0 rfl)<|fn) [0,1,2,5,6,3,4,7,8,9,10,11,12,13,14,15,16,17] fun _ r0=>wV 2<|wI w0<|wV 1<|wI q0<|wL 0<|wV 1<|wL 1<|wV 3<|wFix 33 _ true (bne_iff_ne.2 x0)<|wV 4<|wO rfl<|pu1<|nilO ⟨⟨.inr ((m0.up 0 rfl).cell r0 (k:=0) rfl), .inr ((j0.up 0 rfl).cell r0 (k:=0) rfl),trivial⟩,(wV 2<|wN<|jXR 14 rfl<|retT [nS,I 8]<|(by have k1:Sat W _ ([]::H::F):=Sat.nilc r0;exact ⟨none,0,0,[],8,_,rfl,RdT.nil (enc:=Go.E.encI) (sz:=1) fR [[]],(by have h1:=(dl i0 (List.mem_of_getElem? e0)).l.len;have h2:=(dl c0 (List.mem_of_getElem? f0)).l.len;have h3:=mrgN_at (show l[0]?=some c0 from f0);first|exact (mrg_8b G0 (map_at (f:=fun z:IL=>z.l.l) (show l[i]?=some i0 from e0)) om).symm|exact (mrg_8a G0 om).symm),k1⟩))⟩) fun x0=>drawF l0 [15] (fq 3 0 (m0.up 0 rfl)<|fq 7 0 (j0.up 0 rfl)<|fq 13 0 (j0.up 0 rfl)<|fn) [0,1,2,5,6,3,4,7,8,9,10,11,12,13,14,15,16,17] fun _ l1=>wV 2<|wI w0<|wV 1<|wI q0<|wL 0<|wV 1<|wL 1<|wV 3<|wFix 33 _ false (bne_eq_false_iff_eq.2 x0)<|wV 1<|wI q0<|wL 2<|wV 1<|wO rfl<|gY<|cS (r12_bins (c0.l.n:Int) l1.flat) fun _ k0=>nilO ⟨⟨.inr ((m0.up 0 rfl).cell k0 (k:=0) rfl), .inr ((j0.up 0 rfl).cell k0 (k:=0) rfl), .inr ((j0.up 0 rfl).cell k0 (k:=0) rfl),trivial⟩,(wV 1<|wV 1<|wN<|jXC 1 rfl<|cDn ((1:Int)<=(c0.l.n:Int)/\(c0.l.n:Int)<=(128:Int)) (fun m1=>jCO 5 rfl<|sAdd (i:Int) 1<|jOI 2 rfl<|⟨i+1,od,alB,k0,om,all_succM W0 e0 (decide_eq_true (by have h1:=(dl i0 (List.mem_of_getElem? e0)).l.len;have h2:=(dl c0 (List.mem_of_getElem? f0)).l.len;have h3:=mrgN_at (show l[0]?=some c0 from f0);omega)),(fun _=>by have h1:=(dl i0 (List.mem_of_getElem? e0)).l.len;have h2:=(dl c0 (List.mem_of_getElem? f0)).l.len;have h3:=mrgN_at (show l[0]?=some c0 from f0);omega)⟩) fun m1=>jCR 12 rfl<|retT [nS,I 8]<|(by have n1:Sat W _ ([]::H::F):=Sat.nilc k0;exact ⟨none,0,0,[],8,_,rfl,RdT.nil (enc:=Go.E.encI) (sz:=1) fR [[]],(by have h1:=(dl i0 (List.mem_of_getElem? e0)).l.len;have h2:=(dl c0 (List.mem_of_getElem? f0)).l.len;have h3:=mrgN_at (show l[0]?=some c0 from f0);first|exact (mrg_8b G0 (map_at (f:=fun z:IL=>z.l.l) (show l[i]?=some i0 from e0)) om).symm|exact (mrg_8a G0 om).symm),n1⟩))⟩
 refine jCC 6 rfl ?_
 have T0:1<=mrgN (l.map (fun z=>z.l.l))/\mrgN (l.map (fun z=>z.l.l))<=128:=hN om;have hA:(l.map (fun z=>z.l.l)).all (fun z=>decide (z.length=mrgN (l.map (fun z=>z.l.l))))=true:=all_map_take W0 om
 refine jCO 2 rfl<|sII hl 0 fun b0 _ _ n0 o1=>?_
 have B0:=(dl b0 (List.mem_of_getElem? n0)).l.len;have M0:=(dl b0 (List.mem_of_getElem? n0)).l.le;have O0:(l.map (fun z=>z.l.l))[0]?=some b0.l.l:=map_at (f:=fun z:IL=>z.l.l) n0
 have D1:mrgN (l.map (fun z=>z.l.l))=(b0.l.n:Int):=by rw [mrgN_at n0,B0]
 refine sMp l0 (o1.up 0 rfl) 0 (.slice b0.l.a b0.l.n b0.l.k)<|pu1<|sMake (kl:= .i64) (kc:= .i64) (enc:=Go.E.encI) (sz:=1) (nb:=8) l0 0 b0.l.n (b0.l.n:Int) (rfl:(b0.l.n:Int)=(b0.l.n:Int)) underlying22 (i:=Tryz.t3) kr fR fun q1 r1 _ s1 t1=>jOC 10 rfl<|loopF [0] (γ:=Nat×(List Int)×SO) (fun ⟨i,zs,H0,D0,I0,L0⟩ R=>⟨[(6,I (i:Int)),(5, .slice H0 D0 I0)],L0::R,nl-i,i<=nl/\(zs=addsV ((l.take i).map (fun z=>z.l.l)) (mrgN (l.map (fun z=>z.l.l))))/\(∀z∈zs,0<=z/\z<=4096*(i:Int))/\(((l.take i).map (fun z=>z.l.l)).all (fun z=>inM 4096 z)=true)/\((zs.length:Int)=mrgN (l.map (fun z=>z.l.l)))/\OwnT Go.E.encI 3 1 H0 D0 I0 zs L0⟩) (0,(List.replicate b0.l.n 0),(At q1 0),b0.l.n,b0.l.n,r1) ⟨t1,om,(by unfold addsV;rw [List.take_zero,List.map_nil,List.foldl_nil,D1];rfl),(by intro z hz;have:=List.eq_of_mem_replicate hz;omega),by rfl,(by rw [List.length_replicate];omega),s1⟩ ?_
 rintro ⟨i,zs,H0,D0,I0,L0⟩ ρ _ ⟨y0,hi,hE,hB,Y0,G1,E0⟩
 have A1:=E0.ll
 refine jCC 9 rfl<|CD ((i:Int)<(nl:Int)) (fun u1=>jCC 7 rfl<|(by have X0:(l.map (fun z=>z.l.l)).all (fun z=>inM 4096 z)=true:=all_map_take Y0 om;have hV:zs=mrgV (l.map (fun z=>z.l.l)):=(by rw [hE,List.take_of_length_le om];rfl);refine jCC 5 rfl<|loopF [5] (γ:=Nat) (fun k R=>⟨[(8,I (k:Int))],R,D0-k,k<=D0/\((zs.take k).all (fun v=>decide (v<=4096))=true)⟩) 0 ⟨y0,om,by rfl⟩ ?_;rintro k ρ _ ⟨o0,hk,hk9⟩;exact jCC 9 rfl<|CD ((k:Int)<(D0:Int)) (fun v1=>jCR 13 rfl<|retT [.slice H0 D0 I0,I 0]<|⟨H0,D0,I0,zs,0,_,rfl,(E0.rdAt (cs:=[L0]) 0 rfl),(by rw [mrg_0 G0 T0 hA X0 (by rw [<-hV];exact all_of_take hk9 om),<-hV]),o0⟩) fun v1=>jCO 8 rfl<|sIO E0 (k:Int) k fun z0 _ _ a1 w1 _=>sMp o0 (w1.up 0 rfl) 0 (I z0)<|jOC 3 rfl<|CD (z0>4096) (fun x1=>jCO 5 rfl<|sAdd (k:Int) 1<|jOI 2 rfl<|⟨k+1,od,alB,o0,om,all_succ hk9 a1 (decide_eq_true om)⟩) fun x1=>jCR 12 rfl<|retT [nS,I 3]<|(by have y1:=(o0.dropAt 0 rfl);have z1:Sat W _ ([]::H::F):=Sat.nilc y1;exact ⟨none,0,0,[],3,_,rfl,RdT.nil (enc:=Go.E.encI) (sz:=1) fR [[]],(mrg_3 G0 T0 hA X0 (by rw [<-hV];exact a1) om).symm,z1⟩))) fun u1=>?_
 refine jCC 5 rfl ?_
 obtain ⟨y9,hy9⟩:∃z,l[i]?=some z:=⟨_,List.getElem?_eq_getElem om⟩;have U0:(l.map (fun z=>z.l.l))[i]?=some y9.l.l:=map_at (f:=fun z:IL=>z.l.l) hy9;have E1:(y9.l.l.length:Int)=mrgN (l.map (fun z=>z.l.l)):=of_decide_eq_true (List.all_eq_true.1 hA _ (List.mem_of_getElem? U0))
 refine jCC 5 rfl<|loopF [0,6] (γ:=Nat×(List Int)×SO) (fun ⟨u,zt,K0,J0,Q0,R0⟩ R=>⟨[(7,I (u:Int)),(5, .slice K0 J0 Q0)],R0::R,D0-u,u<=D0/\(zt=addI zs y9.l.l u)/\((y9.l.l.take u).all (fun v=>decide (0<=v/\v<=4096))=true)/\(zt.length=zs.length)/\OwnT Go.E.encI 3 1 K0 J0 Q0 zt R0⟩) (0,zs,H0,D0,I0,L0) ⟨y0,om,(addI_0 om).symm,by rfl,by rfl,E0⟩ ?_
 rintro ⟨u,zt,K0,J0,Q0,R0⟩ ρ _ ⟨g0,hu,S0,hu,V0,F0⟩
 have B1:=F0.ll
 refine jCC 9 rfl<|CD ((u:Int)<(J0:Int)) (fun a2=>jCO 8 rfl<|sAdd (i:Int) 1<|jOI 2 rfl<|⟨(i+1,zt,K0,J0,Q0,R0),od,alB,g0,om,(by rw [adds_succ hy9,<-hE,S0];exact addI_n om),(add_bdI S0 om hB hu),all_succM Y0 hy9 (by unfold inM;rw [List.take_of_length_le om] at hu;exact hu),om,F0⟩) fun a2=>jCO 9 rfl<|sIN hl i fun a0 _ _ h0 b2=>?_
 have C0:=(dl a0 (List.mem_of_getElem? h0)).l.len;have N0:=(dl a0 (List.mem_of_getElem? h0)).l.le;have P0:(l.map (fun z=>z.l.l))[i]?=some a0.l.l:=map_at (f:=fun z:IL=>z.l.l) h0
 have Z0:a0.l.l=y9.l.l:=congrArg (fun z:IL=>z.l.l) (Option.some.inj ((show l[i]?=some a0 from h0).symm.trans hy9));rw [Z0] at C0
 refine sMp g0 (b2.up 1 rfl) 0 (.slice a0.l.a a0.l.n a0.l.k)<|pu1<|sII (dl a0 (List.mem_of_getElem? h0)).l (u:Int) fun d0 _ _ p0 c2=>?_
 rw [Int.toNat_natCast] at p0
 have A0:y9.l.l[u]?=some d0:=by rw [<-Z0];exact p0
 refine sMp g0 (c2.up 1 rfl) 0 (I d0)<|pu2<|sD 66 (d0<0) (fun d2=>jOR 29 rfl<|retT [nS,I 2]<|(by have e2:=(g0.dropAt 0 rfl);have f2:Sat W _ ([]::H::F):=Sat.nilc e2;exact ⟨none,0,0,[],2,_,rfl,RdT.nil (enc:=Go.E.encI) (sz:=1) fR [[]],(mrg_2 G0 T0 hA U0 A0 om).symm,f2⟩)) fun d2=>pu2<|gY<|sIN hl i fun g2 _ _ s0 i2=>?_
 obtain rfl:a0=g2:=Option.some.inj (h0.symm.trans s0)
 refine gY<|sMp g0 (i2.up 1 rfl) 0 (.slice a0.l.a a0.l.n a0.l.k)<|pu1<|gY<|sII (dl a0 (List.mem_of_getElem? s0)).l (u:Int) fun j2 _ _ b1 k2=>?_
 rw [Int.toNat_natCast] at b1
 obtain rfl:d0=j2:=Option.some.inj (p0.symm.trans b1)
 refine gY<|sMp g0 (k2.up 1 rfl) 0 (I d0)<|jOC 4 rfl<|cD (d0>4096) (fun l2=>jCR 17 rfl<|retT [nS,I 2]<|(by have m2:=(g0.dropAt 0 rfl);have n2:Sat W _ ([]::H::F):=Sat.nilc m2;exact ⟨none,0,0,[],2,_,rfl,RdT.nil (enc:=Go.E.encI) (sz:=1) fR [[]],(mrg_2 G0 T0 hA U0 A0 om).symm,n2⟩)) fun l2=>jCC 2 rfl ?_
 obtain ⟨x9,hx9⟩:∃z,zt[u]?=some z:=⟨_,List.getElem?_eq_getElem om⟩;have F1:=hB x9 (List.mem_of_getElem? (addI_at (b:=y9.l.l) om (by rw [<-S0];exact hx9)))
 obtain ⟨o2,a4,b4,t0,c1,u0,q2⟩:=OwnT.eN F0 u
 obtain rfl:x9=o2:=Option.some.inj (hx9.symm.trans t0)
 obtain ⟨r2,c4,d4,v0,s2,t2⟩:=RdT.eN hl i
 obtain rfl:a0=r2:=Option.some.inj (h0.symm.trans v0)
 obtain ⟨u2,e4,f4,d1,v2,w2⟩:=RdT.elem (dl a0 (List.mem_of_getElem? v0)).l (u:Int)
 rw [Int.toNat_natCast] at d1
 obtain rfl:d0=u2:=Option.some.inj (p0.symm.trans d1)
 exact drawF g0 [13] (fq 3 0 (c1.up 0 rfl)<|fq 7 0 (s2.up 1 rfl)<|fq 10 0 (v2.up 1 rfl)<|fn) [0,1,2,4,5,6,8,3,7,9,10,11,12,13] fun _ x2=>wV 2<|wI u0<|wV 2<|wI t2<|wV 1<|wL 0<|wL 1<|wI w2<|wL 2<|wAdd x9 d0<|wI u0<|wO rfl<|sStF x2 F0 q2 0 u 0 x9 (x9+d0) t0 (I (x9+d0)) [I (x9+d0)] sizeOf3 fun _ y2 z2 a3=>nA<|wN<|jXO 4 rfl<|sAdd (u:Int) 1<|jOI 2 rfl<|⟨(u+1,(zt.set u (x9+d0)),K0,J0,Q0,y2),od,alB,a3,om,(by have h:=hx9;rw [S0] at h⊢;exact addI_set om h A0),all_succ hu A0 (decide_eq_true om),(by rw [List.length_set];exact V0),z2⟩
theorem ins_sub {r b:Rct} (h:insP r b):(-9223372036854775808<=r.y1-r.y0/\r.y1-r.y0<=9223372036854775807)/\-9223372036854775808<=r.x1-r.x0/\r.x1-r.x0<=9223372036854775807:=by
  have h1:=h.1;unfold rvP cooP at h1;omega
theorem r13_tile (p:Plane) (r:Rct) (aleft:Option Addr) (nleft kleft:Nat) (left:List Int) (atop:Option Addr) (ntop ktop:Nat) (top:List Int) (corner:Int) (hp:Plane.Ok [H] p) (hleft:RdT Go.E.encI 1 [H] aleft nleft kleft left) (htop:RdT Go.E.encI 1 [H] atop ntop ktop top) (hS:Sat W w (H::F)):
  Calls prog 111 #[.agg (encPlane p).toArray, .agg (encRct r).toArray, .slice aleft nleft kleft, .slice atop ntop ktop,I corner] w fun e w'=>∃(q:Plane) (c:Int) (G:Chunk),e= .returned (.tuple #[.agg (encPlane q).toArray,I c])/\q.Ok [G]/\(q.v,c)=itgT p.v r left top corner/\Sat W w' (G::H::F):=by
 have T0:=hp.pix.le;have A0:=hp.pix.len
 have Y0:=hleft.ll
 have E1:=htop.ll
 refine callsA 168 func111 rfl<|sR<|sBx hS (encPlane p) fun _ _ a2=>sBx a2 (encRct r) fun _ _ b2=>sAlloc b2 zeroValue38 fun _ _ u0=>pu1<|zS<|lB u0 2 0 4<|cS (r13_check0 p ⟨(hp.pix.fl 3)⟩ u0.flat) fun _ p0=>pu5<|nT<|cutB p0 0 [2,3,4,5,6,10,12] (γ:=Unit) (fun _ R=>⟨[],R,0,(planeOK p.v=true/\mostOK p.v.w p.v.h p.v.max_=true/\(chkI p.v).1=mostV p.v.w p.v.h p.v.max_)⟩) ?_ ?_
 ·refine sR<|pu2<|nT<|cN ((chkI p.v).2) 0 (fun c2=>?_) (fun c2=>?_)
  ·refine kT ?_
   have U1:planeOK p.v=true/\mostOK p.v.w p.v.h p.v.max_=true/\(chkI p.v).1=mostV p.v.w p.v.h p.v.max_:=by
    have h:(chkI p.v).2=0:=by omega
    unfold chkI at h⊢
    split at h
    ·rename_i h1
     rw [if_pos h1]
     split at h
     ·rename_i h2;rw [if_pos h2];exact ⟨h1,h2,rfl⟩
     ·simp at h
    ·simp at h
   exact ⟨(),alB,p0,U1⟩
  refine sR<|pu2<|sTk p0 0 [I 0,I 0,I 0,nS] fun _ v0=>pu1<|zR<|retD v0 0 [I 0,I 0,I 0,nS] (I ((chkI p.v).2)) ?_
  have hC:itgC p.v r left top corner=((chkI p.v).2):=by
   have h:¬(chkI p.v).2=0:=by omega
   unfold chkI at h⊢;unfold itgC;split
   ·rename_i h1;rw [if_pos h1] at h;split
    ·rename_i h2;rw [if_pos h2] at h;exact absurd rfl h
    ·rfl
   ·rfl
  have d2:=(v0.drops [0,0,0])
  have e2:Sat W _ ([]::H::F):=Sat.nilc d2
  exact ⟨(⟨0,0,0,⟨none,0,0,[]⟩⟩:Plane),((chkI p.v).2),_,rfl,⟨RdT.nil (enc:=Go.E.encI) (sz:=1) fR [[]]⟩,(by unfold itgT;rw [okT_c hC om];rfl),e2⟩
 rintro _ ρ _ ⟨w0,⟨B0,E0,D0⟩⟩
 refine seqE<|cutB w0 0 [2,3,4,5,6,10,12] (γ:=Unit) (fun _ R=>⟨[(61, .bool (decide (¬((insP r ⟨0,0,p.w,p.h⟩/\¬(r.x0=0/\r.y0=0/\r.x1=0/\r.y1=0))/\(nleft:Int)=r.y1-r.y0/\(ntop:Int)=r.x1-r.x0))))],R,0,True⟩) ?_ ?_
 rotate_left
 ·rintro _ ρ _ ⟨z0,_⟩
  refine cD (¬((insP r ⟨0,0,p.w,p.h⟩/\¬(r.x0=0/\r.y0=0/\r.x1=0/\r.y1=0))/\(nleft:Int)=r.y1-r.y0/\(ntop:Int)=r.x1-r.x0)) (fun q0=>?_) (fun q0=>?_)
  ·refine sR<|pu1<|sTk z0 0 [I 0,I 0,I 0,nS] fun _ a1=>pu1<|zR<|retD a1 0 [I 0,I 0,I 0,nS] (I 8) ?_
   have F1:(chkI p.v).1=mostV p.w p.h p.max_:=D0;have I0:mostOK p.w p.h p.max_=true:=E0;have W1:=most_bd I0;have V0:=(plane_sz B0).1;unfold sizeP at V0;simp only [Plane.v] at V0;have S1:p.v.pix.length=p.pix.n:=A0
   have hC:itgC p.v r left top corner=8:=by unfold itgC;rw [if_pos B0,if_pos E0,if_neg (fun h=>by have h2:=(ins_in (by simp only [Plane.v];omega) (by simp only [Plane.v];omega)).2 h.1;exact q0 ⟨⟨h2.2,h2.1⟩,by have h3:=h.2;omega⟩)]
   have f2:=(a1.drops [0,0,0])
   have g2:Sat W _ ([]::H::F):=Sat.nilc f2
   exact ⟨(⟨0,0,0,⟨none,0,0,[]⟩⟩:Plane),8,_,rfl,⟨RdT.nil (enc:=Go.E.encI) (sz:=1) fR [[]]⟩,(by unfold itgT;rw [okT_c hC om];rfl),g2⟩
  refine kT<|seqE ?_
  have F1:(chkI p.v).1=mostV p.w p.h p.max_:=D0;have I0:mostOK p.w p.h p.max_=true:=E0;have W1:=most_bd I0;have V0:=(plane_sz B0).1;unfold sizeP at V0;simp only [Plane.v] at V0;have S1:p.v.pix.length=p.pix.n:=A0
  have H1:=Classical.not_not.1 q0;have J0:rIn r p.w p.h:=(ins_in om om).1 ⟨H1.1.2,H1.1.1⟩;have I1:=J0;unfold rIn at I1;have U0:=H1.2
  obtain ⟨Wn,hW⟩:∃k:Nat,r.x1-r.x0=(k:Int):=⟨_,(Int.toNat_of_nonneg om).symm⟩;obtain ⟨Hn,hH⟩:∃k:Nat,r.y1-r.y0=(k:Int):=⟨_,(Int.toNat_of_nonneg om).symm⟩
  have B2:1<=Wn/\Wn<=128/\1<=Hn/\Hn<=128:=om;have A2:Hn*Wn<=4096:=by have h1:=rIn_area J0 (by first|omega|assumption);rw [hW,hH] at h1;have h2:((Hn*Wn:Nat):Int)=(Wn:Int)*(Hn:Int):=(by push_cast;rw [Int.mul_comm]);omega
  have B1:(r.x1-r.x0)*(r.y1-r.y0)=((Hn*Wn:Nat):Int):=by rw [hW,hH];push_cast;rw [Int.mul_comm]
  refine rE<|pu1<|sBK z0 #[I corner] 3 fun i2 _ j2=>pu1<|sApp (nb:=8) j2 (OwnT.blk (enc:=Go.E.encI) (sz:=1) (b:=i2) (c:=#[I corner]) (E:=3) (xs:=[corner]) fR 1 rfl rfl rfl om) 0 (hleft.up 4 rfl) underlying22 (i:=Tryz.t3) kr fR fun _ _ _ _ l2 m2=>pu1<|sApp (nb:=8) m2 l2 0 (htop.up 4 rfl) underlying22 (i:=Tryz.t3) kr fR fun _ _ _ _ b1 n2=>pu1<|zQ<|pu1<|nT<|blockE<|loopB [2,3,4,5,6,10,12,14] (γ:=Nat) (fun i R=>⟨[(15,I (i:Int))],R,((1+nleft)+ntop)-i,i<=((1+nleft)+ntop)/\(((corner::left++top).take i).all (fun v=>decide (0<=v/\v<=(chkI p.v).1))=true)⟩) 0 ⟨n2,om,by rfl⟩ ?_
  rintro i ρ _ ⟨k0,hi,hA⟩
  refine seqE<|sR<|pu4<|nT<|cD ((i:Int)<((((1+nleft)+ntop):Nat):Int)) (fun o2=>?_) (fun o2=>?_)
  ·refine kT<|seqE<|blockE<|sR<|pu2<|sIO b1 (i:Int) i fun m0 _ _ c1 q2 _=>sMp k0 (q2.up 0 rfl) 0 (I m0)<|pu2<|sD 80 (m0<0) (fun r2=>?_) (fun r2=>?_)
   ·refine pu7<|zC<|pu1<|sTk k0 1 [I 0,I 0,I 0,nS] fun _ d1=>pu1<|zB<|tR<|tK<|retD d1 1 [I 0,I 0,I 0,nS] (I 2) ?_
    have hC:itgC p.v r left top corner=2:=by unfold itgC;rw [if_pos B0,if_pos E0,if_pos ⟨show rIn r p.v.w p.v.h from J0,om⟩,if_neg (fun h=>by have h1:=h.1;rw [show mostV p.v.w p.v.h p.v.max_=(chkI p.v).1 from D0.symm] at h1;exact inM_f (m:=(chkI p.v).1) (l:=(corner::left++top)) c1 om h1)]
    have t2:=(d1.drops [0,0,0,0])
    have u2:Sat W _ ([]::H::F):=Sat.nilc t2
    exact ⟨(⟨0,0,0,⟨none,0,0,[]⟩⟩:Plane),2,_,rfl,⟨RdT.nil (enc:=Go.E.encI) (sz:=1) fR [[]]⟩,(by unfold itgT;rw [okT_c hC om];rfl),u2⟩
   refine pu2<|gY<|sIO b1 (i:Int) i fun v2 _ _ r0 w2 _=>?_
   obtain rfl:m0=v2:=Option.some.inj (c1.symm.trans r0)
   refine gY<|sMp k0 (w2.up 0 rfl) 0 (I m0)<|pu3<|nT<|CD (m0>((chkI p.v).1)) (fun x2=>skipE<|bN<|tN<|rE<|pu1<|sAdd (i:Int) 1<|pu1<|nT<|⟨i+1,od,alB,k0,om,all_succ hA r0 (decide_eq_true om)⟩) fun x2=>sR<|pu1<|sTk k0 1 [I 0,I 0,I 0,nS] fun _ e1=>pu1<|zB<|tR<|tK<|retD e1 1 [I 0,I 0,I 0,nS] (I 2) ?_
   have hC:itgC p.v r left top corner=2:=by unfold itgC;rw [if_pos B0,if_pos E0,if_pos ⟨show rIn r p.v.w p.v.h from J0,om⟩,if_neg (fun h=>by have h1:=h.1;rw [show mostV p.v.w p.v.h p.v.max_=(chkI p.v).1 from D0.symm] at h1;exact inM_f (m:=(chkI p.v).1) (l:=(corner::left++top)) r0 om h1)]
   have y2:=(e1.drops [0,0,0,0])
   have z2:Sat W _ ([]::H::F):=Sat.nilc y2
   exact ⟨(⟨0,0,0,⟨none,0,0,[]⟩⟩:Plane),2,_,rfl,⟨RdT.nil (enc:=Go.E.encI) (sz:=1) fR [[]]⟩,(by unfold itgT;rw [okT_c hC om];rfl),z2⟩
  refine exitE<|xB<|tN<|seqE ?_
  have M1:inM (chkI p.v).1 (corner::left++top)=true:=all_of_take hA (by simp;omega);have H0:=List.all_eq_true.1 M1;have C2:0<=corner/\corner<=(chkI p.v).1:=of_decide_eq_true (H0 corner (by simp));have E2:1<=(chkI p.v).1/\(chkI p.v).1<=4294967296:=by omega
  have G1:ntop=Wn:=om;have N1:nleft=Hn:=om
  have K1:sizeP (ntop:Int) (nleft:Int) (chkI p.v).1:=(by have h:(Wn:Int)*(Hn:Int)=((Hn*Wn:Nat):Int):=(by push_cast;rw [Int.mul_comm]);rw [G1,N1];unfold sizeP;omega)
  have C1:(ntop:Int)*(nleft:Int)=((Hn*Wn:Nat):Int):=by rw [G1,N1];push_cast;rw [Int.mul_comm]
  obtain ⟨f,hf⟩:∃f:Int->Int->Int,f=itgX p.v left top corner r:=⟨_,rfl⟩
  refine rE<|pu5<|cZ (r4_new (ntop:Int) (nleft:Int) ((chkI p.v).1) K1 k0.flat) ?_
  rintro _ _ ⟨f1,g1,i1,a3,rfl,s0,b3⟩
  have c3:=b3.unflat1;have O0:=s0.len;have N0:=s0.le
  refine pu3<|sAlloc c3 zeroValue38 fun j1 _ d3=>sTk d3 0 [I (ntop:Int),I (nleft:Int),I ((chkI p.v).1), .slice f1 g1 i1] fun _ e3=>pu1<|zQ<|pu1<|nT<|blockE<|loopB [2,3,4,5,6,10,12,16] (γ:=Nat×(List Int)×SO) (fun ⟨i,zs,F0,L0,K0,R0⟩ R=>⟨[(18,I (i:Int))],R0::[(j1, .cells #[I (ntop:Int),I (nleft:Int),I ((chkI p.v).1), .slice F0 L0 K0] 38 (0,0))]::R,Hn-i,i<=Hn/\(zs=gridN Wn f (i*Wn)++List.replicate (Hn*Wn-i*Wn) 0)/\((gridN Wn f (i*Wn)).all (fun v=>decide (0<=v/\v<=(chkI p.v).1))=true)/\OwnT Go.E.encI 3 1 F0 L0 K0 zs R0⟩) (0,(List.replicate ((ntop:Int)*(nleft:Int)).toNat 0),f1,g1,i1,a3) ⟨(e3.pick 1 rfl),om,(by rw [C1,Int.toNat_natCast,Nat.zero_mul];rfl),(by rw [Nat.zero_mul];rfl),s0⟩ ?_
  rintro ⟨i,zs,F0,L0,K0,R0⟩ ρ _ ⟨o0,hi,hE,hR,G0⟩
  have O1:=G0.ll
  refine seqE<|sR<|pu2<|sM o0 1 1 (I (nleft:Int))<|pu1<|nT<|cD ((i:Int)<(nleft:Int)) (fun g3=>?_) (fun g3=>?_)
  rotate_left
  ·refine exitE<|xB<|tN<|sR<|lB o0 1 0 4<|sTk o0 3 [I (ntop:Int),I (nleft:Int),I ((chkI p.v).1), .slice F0 L0 K0] fun _ k1=>pu1<|zE<|retD k1 3 [I (ntop:Int),I (nleft:Int),I ((chkI p.v).1), .slice F0 L0 K0] (I 0) ?_
   have L1:itgL p.v left top corner r=zs:=by unfold itgL;rw [hE,show i=Hn by omega,Nat.sub_self,List.replicate_zero,List.append_nil,<-hf,show areaN r=Hn*Wn from by unfold areaN;rw [B1,Int.toNat_natCast],hW]
   have hC:itgC p.v r left top corner=0:=by unfold itgC;rw [if_pos B0,if_pos E0,if_pos ⟨show rIn r p.v.w p.v.h from J0,om⟩,if_pos ⟨by rw [show mostV p.v.w p.v.h p.v.max_=(chkI p.v).1 from D0.symm];exact M1,by rw [L1,show mostV p.v.w p.v.h p.v.max_=(chkI p.v).1 from D0.symm,hE,show i=Hn by omega,Nat.sub_self,List.replicate_zero,List.append_nil];rw [show i=Hn by omega] at hR;exact hR⟩]
   exact ⟨(⟨(ntop:Int),(nleft:Int),(chkI p.v).1,⟨F0,L0,K0,zs⟩⟩:Plane),0,_,rfl,⟨(G0.rdAt (cs:=[R0]) 0 rfl)⟩,(by unfold itgT;rw [okT_0 hC,L1,<-D0,<-U0.1,<-U0.2];rfl),(k1.drops [1,1,1,1,1])⟩
  refine kT<|seqE<|blockE<|sR<|pu1<|nT<|blockE<|loopB [2,3,4,5,6,10,12,16,18] (γ:=Nat×(List Int)×SO) (fun ⟨j,zt,M0,Q0,P0,W0⟩ R=>⟨[(19,I (j:Int))],W0::[(j1, .cells #[I (ntop:Int),I (nleft:Int),I ((chkI p.v).1), .slice M0 Q0 P0] 38 (0,0))]::R,Wn-j,j<=Wn/\(zt=gridN Wn f (i*Wn+j)++List.replicate (Hn*Wn-(i*Wn+j)) 0)/\((gridN Wn f (i*Wn+j)).all (fun v=>decide (0<=v/\v<=(chkI p.v).1))=true)/\OwnT Go.E.encI 3 1 M0 Q0 P0 zt W0⟩) (0,zs,F0,L0,K0,R0) ⟨o0,om,(by rw [Nat.add_zero];exact hE),(by rw [Nat.add_zero];exact hR),G0⟩ ?_
  rintro ⟨j,zt,M0,Q0,P0,W0⟩ ρ _ ⟨t0,hj,Z0,A1,C0⟩
  have P1:=C0.ll
  refine seqE<|sR<|pu2<|sM t0 1 0 (I (ntop:Int))<|pu1<|nT<|CD ((j:Int)<(ntop:Int)) (fun j3=>exitE<|xB<|bN<|tN<|rE<|pu1<|sAdd (i:Int) 1<|pu1<|nT<|⟨(i+1,zt,M0,Q0,P0,W0),od,alB,t0,om,(by rw [Nat.add_mul,Nat.one_mul,Z0,show j=Wn by omega]),(by rw [Nat.add_mul,Nat.one_mul];rw [show j=Wn by omega] at A1;exact A1),C0⟩) fun j3=>kT<|seqE<|blockE<|seqE ?_
  obtain ⟨l9,hl9⟩:∃z,left[i]?=some z:=⟨_,List.getElem?_eq_getElem om⟩;obtain ⟨t9,ht9⟩:∃z,top[j]?=some z:=⟨_,List.getElem?_eq_getElem om⟩
  have V1:left.getD i 0=l9:=by rw [List.getD_eq_getElem?_getD,hl9];rfl
  have Z1:top.getD j 0=t9:=by rw [List.getD_eq_getElem?_getD,ht9];rfl
  have D2:0<=l9/\l9<=(chkI p.v).1:=of_decide_eq_true (H0 l9 (by have:=List.mem_of_getElem? hl9;simp [this]))
  have H2:0<=t9/\t9<=(chkI p.v).1:=of_decide_eq_true (H0 t9 (by have:=List.mem_of_getElem? ht9;simp [this]))
  obtain ⟨k3,u5,v5,l1,l3,m3⟩:=RdT.eN hleft i
  obtain rfl:l9=k3:=Option.some.inj (hl9.symm.trans l1)
  obtain ⟨n3,w5,x5,m1,o3,p3⟩:=RdT.eN htop j
  obtain rfl:t9=n3:=Option.some.inj (ht9.symm.trans m1)
  refine drawF t0 [] (fq 3 0 (l3.up 6 rfl)<|fq 7 0 (o3.up 6 rfl)<|fn) [0,1,2,4,5,6,9,3,7,8,10,11] fun _ q3=>wV 2<|wI m3<|wV 2<|wI p3<|wV 1<|wL 0<|wL 1<|wAdd l9 t9<|wSub (l9+t9) corner<|wV 1<|wN<|tN<|seqE<|sR<|pu1<|nT<|blockE<|loopB [2,3,4,5,6,10,12,16,18,19] (γ:=Nat×Int) (fun ⟨u,s1⟩ R=>⟨[(21,I (u:Int)),(20,I s1)],R,(i+1)-u,u<=i+1/\(s1=(l9+t9-corner)+recS p.v r.x0 r.y0 (j+1) u)⟩) (0,((l9+t9)-corner)) ⟨q3,om,(by rw [rec_0];omega)⟩ ?_
  rintro ⟨u,s1⟩ ρ _ ⟨l0,hu,T1⟩
  refine seqE<|sR<|pu3<|nT<|cD ((u:Int)<=(i:Int)) (fun r3=>?_) (fun r3=>?_)
  ·refine kT<|seqE<|blockE<|sR<|pu1<|nT<|blockE<|loopB [2,3,4,5,6,10,12,16,18,19,21] (γ:=Nat×Int×Int) (fun ⟨v,s2,s9⟩ R=>⟨[(22,I (v:Int)),(20,I s2)],R,(j+1)-v,v<=j+1/\(s9=sumN (fun a=>pixAt p.v (r.x0+(a:Int)) (r.y0+(u:Int))) v)/\(s2=s1+s9)⟩) (0,s1,0) ⟨l0,om,by rfl,om⟩ ?_
   rintro ⟨v,s2,s9⟩ ρ _ ⟨j0,hv,J1,Y1⟩
   refine seqE<|sR<|pu3<|nT<|CD ((v:Int)<=(j:Int)) (fun s3=>exitE<|xB<|bN<|tN<|rE<|pu1<|sAdd (u:Int) 1<|pu1<|nT<|⟨(u+1,s2),od,alB,j0,om,(by rw [rec_down,<-Int.add_assoc,<-T1,Y1,J1,show v=j+1 by omega])⟩) fun s3=>kT<|seqE<|blockE ?_
   have hix:=pl_ix B0 (x:=r.x0+(v:Int)) (y:=r.y0+(u:Int)) (by simp only [Plane.v];omega) (by simp only [Plane.v];omega);rw [S1] at hix;simp only [Plane.v] at hix;have X1:=row_bd B0 r.x0 r.y0 u (n:=v) om;rw [<-J1] at X1;have G2:=rec_bd9 B0 r.x0 r.y0 (i:=j+1) (j:=u) om om
   refine rE<|pu2<|sM j0 5 3 (.slice p.pix.a p.pix.n p.pix.k)<|pu1<|sM j0 4 1 (I r.y0)<|pu1<|sAdd r.y0 (u:Int)<|pu1<|sM j0 5 0 (I p.w)<|sMul (r.y0+(u:Int)) p.w<|pu1<|sM j0 4 0 (I r.x0)<|sAdd ((r.y0+(u:Int))*p.w) r.x0<|pu1<|sAdd (((r.y0+(u:Int))*p.w)+r.x0) (v:Int)<|sII hp.pix ((((r.y0+(u:Int))*p.w)+r.x0)+(v:Int)) fun n0 _ _ u3 v3=>?_
   have Q1:pixAt p.v (r.x0+(v:Int)) (r.y0+(u:Int))=n0:=(by refine pixAt_eq ?_;rw [<-u3];simp only [Plane.v];congr 1;omega)
   have R1:=pixAt_bd B0 (r.x0+(v:Int)) (r.y0+(u:Int));rw [Q1] at R1;simp only [Plane.v] at R1
   exact sMp j0 (v3.up 6 rfl) 0 (I n0)<|sAdd s2 n0<|pu1<|nB<|rE<|pu1<|sAdd (v:Int) 1<|pu1<|nT<|⟨(v+1,(s2+n0),(s9+n0)),od,alB,j0,om,(by rw [sumN_succ,<-J1,Q1]),om⟩
  refine exitE<|xB<|tN<|seqE<|seqE ?_
  have X0:s1=f (j:Int) (i:Int):=by rw [hf];unfold itgX;simp only [Int.toNat_natCast];rw [V1,Z1,T1,show u=i+1 by omega]
  refine rE<|pu3<|sD 151 (s1<0) (fun w3=>?_) (fun w3=>?_)
  ·refine pu4<|zC<|pu1<|sTk l0 3 [I 0,I 0,I 0,nS] fun _ n1=>pu1<|zE<|tR<|tK<|tR<|bR<|tK<|tR<|tK<|retD n1 3 [I 0,I 0,I 0,nS] (I 2) ?_
   have D1:(itgL p.v left top corner r)[i*Wn+j]?=some s1:=(by have S0:i*Wn+Wn<=Hn*Wn:=(by have h1:=Nat.mul_le_mul_right Wn (show i+1<=Hn by omega);rw [Nat.add_mul,Nat.one_mul] at h1;omega);unfold itgL;rw [<-hf,hW,show areaN r=Hn*Wn from by unfold areaN;rw [B1,Int.toNat_natCast],grid_at om];have h2:=grid_ix (nx:=(Wn:Int)) (i:=(i:Int)) (j:=(j:Int)) om;rw [show (((i*Wn+j:Nat)):Int)=(i:Int)*(Wn:Int)+(j:Int) by push_cast;rfl,h2.1,h2.2,X0])
   have hC:itgC p.v r left top corner=2:=by unfold itgC;rw [if_pos B0,if_pos E0,if_pos ⟨show rIn r p.v.w p.v.h from J0,om⟩,if_neg (fun h=>by have h1:=h.2;rw [show mostV p.v.w p.v.h p.v.max_=(chkI p.v).1 from D0.symm] at h1;exact inM_f (m:=(chkI p.v).1) D1 om h1)]
   have x3:=(n1.drops [0,0,0,0,0,0])
   have y3:Sat W _ ([]::H::F):=Sat.nilc x3
   exact ⟨(⟨0,0,0,⟨none,0,0,[]⟩⟩:Plane),2,_,rfl,⟨RdT.nil (enc:=Go.E.encI) (sz:=1) fR [[]]⟩,(by unfold itgT;rw [okT_c hC om];rfl),y3⟩
  refine pu4<|nT<|cD (s1>((chkI p.v).1)) (fun z3=>?_) (fun z3=>?_)
  ·refine sR<|pu1<|sTk l0 3 [I 0,I 0,I 0,nS] fun _ o1=>pu1<|zE<|tR<|tK<|tR<|bR<|tK<|tR<|tK<|retD o1 3 [I 0,I 0,I 0,nS] (I 2) ?_
   have D1:(itgL p.v left top corner r)[i*Wn+j]?=some s1:=(by have S0:i*Wn+Wn<=Hn*Wn:=(by have h1:=Nat.mul_le_mul_right Wn (show i+1<=Hn by omega);rw [Nat.add_mul,Nat.one_mul] at h1;omega);unfold itgL;rw [<-hf,hW,show areaN r=Hn*Wn from by unfold areaN;rw [B1,Int.toNat_natCast],grid_at om];have h2:=grid_ix (nx:=(Wn:Int)) (i:=(i:Int)) (j:=(j:Int)) om;rw [show (((i*Wn+j:Nat)):Int)=(i:Int)*(Wn:Int)+(j:Int) by push_cast;rfl,h2.1,h2.2,X0])
   have hC:itgC p.v r left top corner=2:=by unfold itgC;rw [if_pos B0,if_pos E0,if_pos ⟨show rIn r p.v.w p.v.h from J0,om⟩,if_neg (fun h=>by have h1:=h.2;rw [show mostV p.v.w p.v.h p.v.max_=(chkI p.v).1 from D0.symm] at h1;exact inM_f (m:=(chkI p.v).1) D1 om h1)]
   have a4:=(o1.drops [0,0,0,0,0,0])
   have b4:Sat W _ ([]::H::F):=Sat.nilc a4
   exact ⟨(⟨0,0,0,⟨none,0,0,[]⟩⟩:Plane),2,_,rfl,⟨RdT.nil (enc:=Go.E.encI) (sz:=1) fR [[]]⟩,(by unfold itgT;rw [okT_c hC om];rfl),b4⟩
  refine kT ?_
  have k2:zt.length=Hn*Wn:=by rw [Z0,List.length_append,grid_len,List.length_replicate];have h1:=Nat.mul_le_mul_right Wn (show i+1<=Hn by omega);rw [Nat.add_mul,Nat.one_mul] at h1;omega
  have S0:i*Wn+Wn<=Hn*Wn:=by have h1:=Nat.mul_le_mul_right Wn (show i+1<=Hn by omega);rw [Nat.add_mul,Nat.one_mul] at h1;omega
  have F2:(i:Int)*(ntop:Int)=((i*Wn:Nat):Int):=by rw [G1];push_cast;rfl
  exact rE<|pu1<|sM l0 1 3 (.slice M0 Q0 P0)<|pu2<|sM l0 1 0 (I (ntop:Int))<|sMul (i:Int) (ntop:Int)<|pu1<|sAdd ((i:Int)*(ntop:Int)) (j:Int)<|pu1<|sIO C0 (((i:Int)*(ntop:Int))+(j:Int)) ((((i:Int)*(ntop:Int))+(j:Int))).toNat fun c4 _ _ d4 _ e4=>sStF l0 C0 e4 0 ((((i:Int)*(ntop:Int))+(j:Int))).toNat 0 c4 s1 d4 (I s1) [I s1] sizeOf3 fun _ f4 g4 h4=>nB<|rE<|pu1<|sAdd (j:Int) 1<|pu1<|nT<|⟨(j+1,(zt.set (((((i:Int)*(ntop:Int))+(j:Int))).toNat) s1),M0,Q0,P0,f4),od,alB,h4,om,(by rw [show (((((i:Int)*(ntop:Int))+(j:Int))).toNat)=i*Wn+j by omega,Z0,fill_set (grid_len _ _ _) om,<-Nat.add_assoc,grid_succ om,<-X0]),(by rw [<-Nat.add_assoc,grid_succ om,List.all_append,A1,<-X0];simp;omega),g4⟩
 refine drawG w0 [1,4,5,6,7,14,16,24,26] (fb 0 1 0 4<|fn) (pS [0]<| .ef 1<|pS [2,3]<| .fk 4 5 (.ef 5<| .ef 6<| .ef 7<|pS [8,9,10,11,12,13,15]<| .fk 14 16 (.ef 16<|pS [17,18,19,20,21,22,23,25]<| .fk 24 26 (.ef 26<|pS [27,28,29]<| .fin) (.ef 24<|pS [27,28,29]<| .fin)) (.ef 14<|pS [17,18,19,20,21,22,23,25]<| .fk 24 26 (.ef 26<|pS [27,28,29]<| .fin) (.ef 24<|pS [27,28,29]<| .fin))) (.fk 4 6 (.ef 6<| .ef 7<|pS [8,9,10,11,12,13,15]<| .fk 14 16 (.ef 16<|pS [17,18,19,20,21,22,23,25]<| .fk 24 26 (.ef 26<|pS [27,28,29]<| .fin) (.ef 24<|pS [27,28,29]<| .fin)) (.ef 14<|pS [17,18,19,20,21,22,23,25]<| .fk 24 26 (.ef 26<|pS [27,28,29]<| .fin) (.ef 24<|pS [27,28,29]<| .fin))) (.ef 4<| .ef 7<|pS [8,9,10,11,12,13,15]<| .fk 14 16 (.ef 16<|pS [17,18,19,20,21,22,23,25]<| .fk 24 26 (.ef 26<|pS [27,28,29]<| .fin) (.ef 24<|pS [27,28,29]<| .fin)) (.ef 14<|pS [17,18,19,20,21,22,23,25]<| .fk 24 26 (.ef 26<|pS [27,28,29]<| .fin) (.ef 24<|pS [27,28,29]<| .fin))))) fun _ i4=>qG 0 4<|qO rfl<|cS (r2_full r i4.flat) fun _ e0=>nA<|qV 1<|qV 1<|qF ?_ ?_
 ·rcases Classical.em (rvP r/\¬(r.x0=0/\r.y0=0/\r.x1=0/\r.y1=0)) with f0|f0
  rotate_left
  ·refine qFix 35 _ true (congrArg Bool.not (decide_eq_false f0))<|qO rfl<|pu1<|nA<|qO rfl<|pu1<|nA<|qO rfl<|pu1<|nA<|qO rfl<|pu1<|nA<|qV 1<|qV 1<|qV 1<|qV 1<|qV 1<|qV 1<|qV 1<|qF ?_ ?_
   rotate_left
   ·refine qO rfl<|pu1<|nA<|qO rfl<|pu1<|nA<|qV 1<|qV 1<|qV 1<|qV 1<|qV 1<|qV 1<|qV 1<|qV 1<|qF ?_ ?_
    rotate_left
    ·exact qO rfl<|pu1<|nA<|qO rfl<|pu1<|nA<|qV 1<|qV 1<|qV 1<|qN<|tN<|⟨(),⟨⟨(Eq.trans (b:= .bool true) kr (congrArg Value.bool (decide_eq_true (p:=¬((insP r ⟨0,0,p.w,p.h⟩/\¬(r.x0=0/\r.y0=0/\r.x1=0/\r.y1=0))/\(nleft:Int)=r.y1-r.y0/\(ntop:Int)=r.x1-r.x0)) (by exact fun h=>f0 ⟨h.1.1.1,h.1.2⟩)).symm)),trivial⟩,sA⟩,e0,trivial⟩
    exact qO rfl<|pu1<|nA<|qO rfl<|pu1<|nA<|qV 1<|qV 1<|qV 1<|qN<|tN<|⟨(),⟨⟨(Eq.trans (b:= .bool true) kr (congrArg Value.bool (decide_eq_true (p:=¬((insP r ⟨0,0,p.w,p.h⟩/\¬(r.x0=0/\r.y0=0/\r.x1=0/\r.y1=0))/\(nleft:Int)=r.y1-r.y0/\(ntop:Int)=r.x1-r.x0)) (by exact fun h=>f0 ⟨h.1.1.1,h.1.2⟩)).symm)),trivial⟩,sA⟩,e0,trivial⟩
   refine qO rfl<|pu1<|nA<|qO rfl<|pu1<|nA<|qV 1<|qV 1<|qV 1<|qV 1<|qV 1<|qV 1<|qV 1<|qV 1<|qF ?_ ?_
   rotate_left
   ·exact qO rfl<|pu1<|nA<|qO rfl<|pu1<|nA<|qV 1<|qV 1<|qV 1<|qN<|tN<|⟨(),⟨⟨(Eq.trans (b:= .bool true) kr (congrArg Value.bool (decide_eq_true (p:=¬((insP r ⟨0,0,p.w,p.h⟩/\¬(r.x0=0/\r.y0=0/\r.x1=0/\r.y1=0))/\(nleft:Int)=r.y1-r.y0/\(ntop:Int)=r.x1-r.x0)) (by exact fun h=>f0 ⟨h.1.1.1,h.1.2⟩)).symm)),trivial⟩,sA⟩,e0,trivial⟩
   exact qO rfl<|pu1<|nA<|qO rfl<|pu1<|nA<|qV 1<|qV 1<|qV 1<|qN<|tN<|⟨(),⟨⟨(Eq.trans (b:= .bool true) kr (congrArg Value.bool (decide_eq_true (p:=¬((insP r ⟨0,0,p.w,p.h⟩/\¬(r.x0=0/\r.y0=0/\r.x1=0/\r.y1=0))/\(nleft:Int)=r.y1-r.y0/\(ntop:Int)=r.x1-r.x0)) (by exact fun h=>f0 ⟨h.1.1.1,h.1.2⟩)).symm)),trivial⟩,sA⟩,e0,trivial⟩
  refine qFix 35 _ false (congrArg Bool.not (decide_eq_true f0))<|qO rfl<|gY<|lB e0 1 0 4<|nA<|qO rfl<|gY<|lB e0 2 0 4<|nA<|qO rfl<|gY<|cS (r4_cover p ⟨(hp.pix.fl 3)⟩ e0.flat) fun _ j4=>nA<|qO rfl<|gY<|cS (r2_inside r (⟨0,0,p.w,p.h⟩:Rct) j4.flat) fun _ b0=>nA<|qV 1<|qV 1<|qV 1 ?_
  rcases Classical.em (insP r (⟨0,0,p.w,p.h⟩:Rct)) with g0|g0
  rotate_left
  ·refine qFix 42 _ true (congrArg Bool.not (decide_eq_false g0))<|qV 1<|qV 1<|qV 1<|qV 1<|qF ?_ ?_
   rotate_left
   ·refine qO rfl<|pu1<|nA<|qO rfl<|pu1<|nA<|qV 1<|qV 1<|qV 1<|qV 1<|qV 1<|qV 1<|qV 1<|qV 1<|qF ?_ ?_
    rotate_left
    ·exact qO rfl<|pu1<|nA<|qO rfl<|pu1<|nA<|qV 1<|qV 1<|qV 1<|qN<|tN<|⟨(),⟨⟨(Eq.trans (b:= .bool true) kr (congrArg Value.bool (decide_eq_true (p:=¬((insP r ⟨0,0,p.w,p.h⟩/\¬(r.x0=0/\r.y0=0/\r.x1=0/\r.y1=0))/\(nleft:Int)=r.y1-r.y0/\(ntop:Int)=r.x1-r.x0)) (by exact fun h=>g0 h.1.1)).symm)),trivial⟩,sA⟩,b0,trivial⟩
    exact qO rfl<|pu1<|nA<|qO rfl<|pu1<|nA<|qV 1<|qV 1<|qV 1<|qN<|tN<|⟨(),⟨⟨(Eq.trans (b:= .bool true) kr (congrArg Value.bool (decide_eq_true (p:=¬((insP r ⟨0,0,p.w,p.h⟩/\¬(r.x0=0/\r.y0=0/\r.x1=0/\r.y1=0))/\(nleft:Int)=r.y1-r.y0/\(ntop:Int)=r.x1-r.x0)) (by exact fun h=>g0 h.1.1)).symm)),trivial⟩,sA⟩,b0,trivial⟩
   refine qO rfl<|pu1<|nA<|qO rfl<|pu1<|nA<|qV 1<|qV 1<|qV 1<|qV 1<|qV 1<|qV 1<|qV 1<|qV 1<|qF ?_ ?_
   rotate_left
   ·exact qO rfl<|pu1<|nA<|qO rfl<|pu1<|nA<|qV 1<|qV 1<|qV 1<|qN<|tN<|⟨(),⟨⟨(Eq.trans (b:= .bool true) kr (congrArg Value.bool (decide_eq_true (p:=¬((insP r ⟨0,0,p.w,p.h⟩/\¬(r.x0=0/\r.y0=0/\r.x1=0/\r.y1=0))/\(nleft:Int)=r.y1-r.y0/\(ntop:Int)=r.x1-r.x0)) (by exact fun h=>g0 h.1.1)).symm)),trivial⟩,sA⟩,b0,trivial⟩
   exact qO rfl<|pu1<|nA<|qO rfl<|pu1<|nA<|qV 1<|qV 1<|qV 1<|qN<|tN<|⟨(),⟨⟨(Eq.trans (b:= .bool true) kr (congrArg Value.bool (decide_eq_true (p:=¬((insP r ⟨0,0,p.w,p.h⟩/\¬(r.x0=0/\r.y0=0/\r.x1=0/\r.y1=0))/\(nleft:Int)=r.y1-r.y0/\(ntop:Int)=r.x1-r.x0)) (by exact fun h=>g0 h.1.1)).symm)),trivial⟩,sA⟩,b0,trivial⟩
  refine qFix 42 _ false (congrArg Bool.not (decide_eq_true g0))<|qV 1<|qV 1<|qV 1<|qV 1<|qF ?_ ?_
  rotate_left
  ·refine qO rfl<|gY<|sM b0 1 1 (I r.y0)<|nA<|qO rfl<|gY<|sM b0 1 3 (I r.y1)<|nA<|qSub (hr:=(ins_sub (b:=⟨0,0,p.w,p.h⟩) ‹_›).1) r.y1 r.y0<|qV 1<|qV 1<|qV 1 ?_
   by_cases q1:((nleft:Int):Int)=(r.y1-r.y0)
   rotate_left
   ·refine qFix 52 _ true (bne_iff_ne.2 q1)<|qV 1<|qV 1<|qV 1<|qV 1<|qF ?_ ?_
    rotate_left
    ·exact qO rfl<|pu1<|nA<|qO rfl<|pu1<|nA<|qV 1<|qV 1<|qV 1<|qN<|tN<|⟨(),⟨⟨(Eq.trans (b:= .bool true) kr (congrArg Value.bool (decide_eq_true (p:=¬((insP r ⟨0,0,p.w,p.h⟩/\¬(r.x0=0/\r.y0=0/\r.x1=0/\r.y1=0))/\(nleft:Int)=r.y1-r.y0/\(ntop:Int)=r.x1-r.x0)) (by first|exact ⟨fun h k=>h k.2.2,fun h k=>h ⟨⟨g0,f0.2⟩,om,k⟩⟩|exact fun h=>by omega)).symm)),trivial⟩,sA⟩,b0,trivial⟩
    exact qO rfl<|pu1<|nA<|qO rfl<|pu1<|nA<|qV 1<|qV 1<|qV 1<|qN<|tN<|⟨(),⟨⟨(Eq.trans (b:= .bool true) kr (congrArg Value.bool (decide_eq_true (p:=¬((insP r ⟨0,0,p.w,p.h⟩/\¬(r.x0=0/\r.y0=0/\r.x1=0/\r.y1=0))/\(nleft:Int)=r.y1-r.y0/\(ntop:Int)=r.x1-r.x0)) (by first|exact ⟨fun h k=>h k.2.2,fun h k=>h ⟨⟨g0,f0.2⟩,om,k⟩⟩|exact fun h=>by omega)).symm)),trivial⟩,sA⟩,b0,trivial⟩
   refine qFix 52 _ false (bne_eq_false_iff_eq.2 q1)<|qV 1<|qV 1<|qV 1<|qV 1<|qF ?_ ?_
   rotate_left
   ·exact qO rfl<|gY<|sM b0 1 0 (I r.x0)<|nA<|qO rfl<|gY<|sM b0 1 2 (I r.x1)<|nA<|qSub (hr:=(ins_sub (b:=⟨0,0,p.w,p.h⟩) ‹_›).2) r.x1 r.x0<|qV 1<|qV 1<|qN<|tN<|⟨(),⟨⟨(Eq.trans (b:= .bool (((ntop:Int):Int)!=(r.x1-r.x0))) kr (congrArg Value.bool (by rw [Bool.eq_iff_iff];simp only [decide_eq_true_eq,beq_iff_eq,bne_iff_ne,ne_eq,Bool.not_eq_true',decide_eq_false_iff_not,gt_iff_lt,ge_iff_le,Bool.and_eq_true,Bool.or_eq_true,Bool.not_eq_eq_eq_not,Bool.not_true,Bool.and_eq_false_imp,beq_eq_false_iff_ne]<;>first|exact ⟨fun h k=>h k.2.2,fun h k=>h ⟨⟨g0,f0.2⟩,om,k⟩⟩|exact fun h=>by omega))),trivial⟩,sA⟩,b0,trivial⟩
   exact qO rfl<|gY<|sM b0 1 2 (I r.x1)<|nA<|qO rfl<|gY<|sM b0 1 0 (I r.x0)<|nA<|qSub (hr:=(ins_sub (b:=⟨0,0,p.w,p.h⟩) ‹_›).2) r.x1 r.x0<|qV 1<|qV 1<|qN<|tN<|⟨(),⟨⟨(Eq.trans (b:= .bool (((ntop:Int):Int)!=(r.x1-r.x0))) kr (congrArg Value.bool (by rw [Bool.eq_iff_iff];simp only [decide_eq_true_eq,beq_iff_eq,bne_iff_ne,ne_eq,Bool.not_eq_true',decide_eq_false_iff_not,gt_iff_lt,ge_iff_le,Bool.and_eq_true,Bool.or_eq_true,Bool.not_eq_eq_eq_not,Bool.not_true,Bool.and_eq_false_imp,beq_eq_false_iff_ne]<;>first|exact ⟨fun h k=>h k.2.2,fun h k=>h ⟨⟨g0,f0.2⟩,om,k⟩⟩|exact fun h=>by omega))),trivial⟩,sA⟩,b0,trivial⟩
  refine qO rfl<|gY<|sM b0 1 3 (I r.y1)<|nA<|qO rfl<|gY<|sM b0 1 1 (I r.y0)<|nA<|qSub (hr:=(ins_sub (b:=⟨0,0,p.w,p.h⟩) ‹_›).1) r.y1 r.y0<|qV 1<|qV 1<|qV 1 ?_
  by_cases r1:((nleft:Int):Int)=(r.y1-r.y0)
  rotate_left
  ·refine qFix 52 _ true (bne_iff_ne.2 r1)<|qV 1<|qV 1<|qV 1<|qV 1<|qF ?_ ?_
   rotate_left
   ·exact qO rfl<|pu1<|nA<|qO rfl<|pu1<|nA<|qV 1<|qV 1<|qV 1<|qN<|tN<|⟨(),⟨⟨(Eq.trans (b:= .bool true) kr (congrArg Value.bool (decide_eq_true (p:=¬((insP r ⟨0,0,p.w,p.h⟩/\¬(r.x0=0/\r.y0=0/\r.x1=0/\r.y1=0))/\(nleft:Int)=r.y1-r.y0/\(ntop:Int)=r.x1-r.x0)) (by first|exact ⟨fun h k=>h k.2.2,fun h k=>h ⟨⟨g0,f0.2⟩,om,k⟩⟩|exact fun h=>by omega)).symm)),trivial⟩,sA⟩,b0,trivial⟩
   exact qO rfl<|pu1<|nA<|qO rfl<|pu1<|nA<|qV 1<|qV 1<|qV 1<|qN<|tN<|⟨(),⟨⟨(Eq.trans (b:= .bool true) kr (congrArg Value.bool (decide_eq_true (p:=¬((insP r ⟨0,0,p.w,p.h⟩/\¬(r.x0=0/\r.y0=0/\r.x1=0/\r.y1=0))/\(nleft:Int)=r.y1-r.y0/\(ntop:Int)=r.x1-r.x0)) (by first|exact ⟨fun h k=>h k.2.2,fun h k=>h ⟨⟨g0,f0.2⟩,om,k⟩⟩|exact fun h=>by omega)).symm)),trivial⟩,sA⟩,b0,trivial⟩
  refine qFix 52 _ false (bne_eq_false_iff_eq.2 r1)<|qV 1<|qV 1<|qV 1<|qV 1<|qF ?_ ?_
  rotate_left
  ·exact qO rfl<|gY<|sM b0 1 0 (I r.x0)<|nA<|qO rfl<|gY<|sM b0 1 2 (I r.x1)<|nA<|qSub (hr:=(ins_sub (b:=⟨0,0,p.w,p.h⟩) ‹_›).2) r.x1 r.x0<|qV 1<|qV 1<|qN<|tN<|⟨(),⟨⟨(Eq.trans (b:= .bool (((ntop:Int):Int)!=(r.x1-r.x0))) kr (congrArg Value.bool (by rw [Bool.eq_iff_iff];simp only [decide_eq_true_eq,beq_iff_eq,bne_iff_ne,ne_eq,Bool.not_eq_true',decide_eq_false_iff_not,gt_iff_lt,ge_iff_le,Bool.and_eq_true,Bool.or_eq_true,Bool.not_eq_eq_eq_not,Bool.not_true,Bool.and_eq_false_imp,beq_eq_false_iff_ne]<;>first|exact ⟨fun h k=>h k.2.2,fun h k=>h ⟨⟨g0,f0.2⟩,om,k⟩⟩|exact fun h=>by omega))),trivial⟩,sA⟩,b0,trivial⟩
  exact qO rfl<|gY<|sM b0 1 2 (I r.x1)<|nA<|qO rfl<|gY<|sM b0 1 0 (I r.x0)<|nA<|qSub (hr:=(ins_sub (b:=⟨0,0,p.w,p.h⟩) ‹_›).2) r.x1 r.x0<|qV 1<|qV 1<|qN<|tN<|⟨(),⟨⟨(Eq.trans (b:= .bool (((ntop:Int):Int)!=(r.x1-r.x0))) kr (congrArg Value.bool (by rw [Bool.eq_iff_iff];simp only [decide_eq_true_eq,beq_iff_eq,bne_iff_ne,ne_eq,Bool.not_eq_true',decide_eq_false_iff_not,gt_iff_lt,ge_iff_le,Bool.and_eq_true,Bool.or_eq_true,Bool.not_eq_eq_eq_not,Bool.not_true,Bool.and_eq_false_imp,beq_eq_false_iff_ne]<;>first|exact ⟨fun h k=>h k.2.2,fun h k=>h ⟨⟨g0,f0.2⟩,om,k⟩⟩|exact fun h=>by omega))),trivial⟩,sA⟩,b0,trivial⟩
 rcases Classical.em (rvP r/\¬(r.x0=0/\r.y0=0/\r.x1=0/\r.y1=0)) with a0|a0
 rotate_left
 ·refine qFix 35 _ true (congrArg Bool.not (decide_eq_false a0))<|qO rfl<|pu1<|nA<|qF ?_ ?_
  rotate_left
  ·refine qO rfl<|pu1<|nA<|qO rfl<|pu1<|nA<|qO rfl<|pu1<|nA<|qV 1<|qV 1<|qV 1<|qV 1<|qV 1<|qV 1<|qV 1<|qF ?_ ?_
   rotate_left
   ·refine qO rfl<|pu1<|nA<|qO rfl<|pu1<|nA<|qV 1<|qV 1<|qV 1<|qV 1<|qV 1<|qV 1<|qV 1<|qV 1<|qF ?_ ?_
    rotate_left
    ·exact qO rfl<|pu1<|nA<|qO rfl<|pu1<|nA<|qV 1<|qV 1<|qV 1<|qN<|tN<|⟨(),⟨⟨(Eq.trans (b:= .bool true) kr (congrArg Value.bool (decide_eq_true (p:=¬((insP r ⟨0,0,p.w,p.h⟩/\¬(r.x0=0/\r.y0=0/\r.x1=0/\r.y1=0))/\(nleft:Int)=r.y1-r.y0/\(ntop:Int)=r.x1-r.x0)) (by exact fun h=>a0 ⟨h.1.1.1,h.1.2⟩)).symm)),trivial⟩,sA⟩,e0,trivial⟩
    exact qO rfl<|pu1<|nA<|qO rfl<|pu1<|nA<|qV 1<|qV 1<|qV 1<|qN<|tN<|⟨(),⟨⟨(Eq.trans (b:= .bool true) kr (congrArg Value.bool (decide_eq_true (p:=¬((insP r ⟨0,0,p.w,p.h⟩/\¬(r.x0=0/\r.y0=0/\r.x1=0/\r.y1=0))/\(nleft:Int)=r.y1-r.y0/\(ntop:Int)=r.x1-r.x0)) (by exact fun h=>a0 ⟨h.1.1.1,h.1.2⟩)).symm)),trivial⟩,sA⟩,e0,trivial⟩
   refine qO rfl<|pu1<|nA<|qO rfl<|pu1<|nA<|qV 1<|qV 1<|qV 1<|qV 1<|qV 1<|qV 1<|qV 1<|qV 1<|qF ?_ ?_
   rotate_left
   ·exact qO rfl<|pu1<|nA<|qO rfl<|pu1<|nA<|qV 1<|qV 1<|qV 1<|qN<|tN<|⟨(),⟨⟨(Eq.trans (b:= .bool true) kr (congrArg Value.bool (decide_eq_true (p:=¬((insP r ⟨0,0,p.w,p.h⟩/\¬(r.x0=0/\r.y0=0/\r.x1=0/\r.y1=0))/\(nleft:Int)=r.y1-r.y0/\(ntop:Int)=r.x1-r.x0)) (by exact fun h=>a0 ⟨h.1.1.1,h.1.2⟩)).symm)),trivial⟩,sA⟩,e0,trivial⟩
   exact qO rfl<|pu1<|nA<|qO rfl<|pu1<|nA<|qV 1<|qV 1<|qV 1<|qN<|tN<|⟨(),⟨⟨(Eq.trans (b:= .bool true) kr (congrArg Value.bool (decide_eq_true (p:=¬((insP r ⟨0,0,p.w,p.h⟩/\¬(r.x0=0/\r.y0=0/\r.x1=0/\r.y1=0))/\(nleft:Int)=r.y1-r.y0/\(ntop:Int)=r.x1-r.x0)) (by exact fun h=>a0 ⟨h.1.1.1,h.1.2⟩)).symm)),trivial⟩,sA⟩,e0,trivial⟩
  refine qO rfl<|pu1<|nA<|qO rfl<|pu1<|nA<|qO rfl<|pu1<|nA<|qV 1<|qV 1<|qV 1<|qV 1<|qV 1<|qV 1<|qV 1<|qF ?_ ?_
  rotate_left
  ·refine qO rfl<|pu1<|nA<|qO rfl<|pu1<|nA<|qV 1<|qV 1<|qV 1<|qV 1<|qV 1<|qV 1<|qV 1<|qV 1<|qF ?_ ?_
   rotate_left
   ·exact qO rfl<|pu1<|nA<|qO rfl<|pu1<|nA<|qV 1<|qV 1<|qV 1<|qN<|tN<|⟨(),⟨⟨(Eq.trans (b:= .bool true) kr (congrArg Value.bool (decide_eq_true (p:=¬((insP r ⟨0,0,p.w,p.h⟩/\¬(r.x0=0/\r.y0=0/\r.x1=0/\r.y1=0))/\(nleft:Int)=r.y1-r.y0/\(ntop:Int)=r.x1-r.x0)) (by exact fun h=>a0 ⟨h.1.1.1,h.1.2⟩)).symm)),trivial⟩,sA⟩,e0,trivial⟩
   exact qO rfl<|pu1<|nA<|qO rfl<|pu1<|nA<|qV 1<|qV 1<|qV 1<|qN<|tN<|⟨(),⟨⟨(Eq.trans (b:= .bool true) kr (congrArg Value.bool (decide_eq_true (p:=¬((insP r ⟨0,0,p.w,p.h⟩/\¬(r.x0=0/\r.y0=0/\r.x1=0/\r.y1=0))/\(nleft:Int)=r.y1-r.y0/\(ntop:Int)=r.x1-r.x0)) (by exact fun h=>a0 ⟨h.1.1.1,h.1.2⟩)).symm)),trivial⟩,sA⟩,e0,trivial⟩
  refine qO rfl<|pu1<|nA<|qO rfl<|pu1<|nA<|qV 1<|qV 1<|qV 1<|qV 1<|qV 1<|qV 1<|qV 1<|qV 1<|qF ?_ ?_
  rotate_left
  ·exact qO rfl<|pu1<|nA<|qO rfl<|pu1<|nA<|qV 1<|qV 1<|qV 1<|qN<|tN<|⟨(),⟨⟨(Eq.trans (b:= .bool true) kr (congrArg Value.bool (decide_eq_true (p:=¬((insP r ⟨0,0,p.w,p.h⟩/\¬(r.x0=0/\r.y0=0/\r.x1=0/\r.y1=0))/\(nleft:Int)=r.y1-r.y0/\(ntop:Int)=r.x1-r.x0)) (by exact fun h=>a0 ⟨h.1.1.1,h.1.2⟩)).symm)),trivial⟩,sA⟩,e0,trivial⟩
  exact qO rfl<|pu1<|nA<|qO rfl<|pu1<|nA<|qV 1<|qV 1<|qV 1<|qN<|tN<|⟨(),⟨⟨(Eq.trans (b:= .bool true) kr (congrArg Value.bool (decide_eq_true (p:=¬((insP r ⟨0,0,p.w,p.h⟩/\¬(r.x0=0/\r.y0=0/\r.x1=0/\r.y1=0))/\(nleft:Int)=r.y1-r.y0/\(ntop:Int)=r.x1-r.x0)) (by exact fun h=>a0 ⟨h.1.1.1,h.1.2⟩)).symm)),trivial⟩,sA⟩,e0,trivial⟩
 refine qFix 35 _ false (congrArg Bool.not (decide_eq_true a0))<|qO rfl<|gY<|lB e0 2 0 4<|nA<|qF ?_ ?_
 rotate_left
 ·refine qO rfl<|gY<|cS (r4_cover p ⟨(hp.pix.fl 3)⟩ e0.flat) fun _ t1=>nA<|qO rfl<|gY<|lB t1 1 0 4<|nA<|qO rfl<|gY<|cS (r2_inside r (⟨0,0,p.w,p.h⟩:Rct) t1.flat) fun _ c0=>nA<|qV 1<|qV 1<|qV 1 ?_
  rcases Classical.em (insP r (⟨0,0,p.w,p.h⟩:Rct)) with h0|h0
  rotate_left
  ·refine qFix 42 _ true (congrArg Bool.not (decide_eq_false h0))<|qV 1<|qV 1<|qV 1<|qV 1<|qF ?_ ?_
   rotate_left
   ·refine qO rfl<|pu1<|nA<|qO rfl<|pu1<|nA<|qV 1<|qV 1<|qV 1<|qV 1<|qV 1<|qV 1<|qV 1<|qV 1<|qF ?_ ?_
    rotate_left
    ·exact qO rfl<|pu1<|nA<|qO rfl<|pu1<|nA<|qV 1<|qV 1<|qV 1<|qN<|tN<|⟨(),⟨⟨(Eq.trans (b:= .bool true) kr (congrArg Value.bool (decide_eq_true (p:=¬((insP r ⟨0,0,p.w,p.h⟩/\¬(r.x0=0/\r.y0=0/\r.x1=0/\r.y1=0))/\(nleft:Int)=r.y1-r.y0/\(ntop:Int)=r.x1-r.x0)) (by exact fun h=>h0 h.1.1)).symm)),trivial⟩,sA⟩,c0,trivial⟩
    exact qO rfl<|pu1<|nA<|qO rfl<|pu1<|nA<|qV 1<|qV 1<|qV 1<|qN<|tN<|⟨(),⟨⟨(Eq.trans (b:= .bool true) kr (congrArg Value.bool (decide_eq_true (p:=¬((insP r ⟨0,0,p.w,p.h⟩/\¬(r.x0=0/\r.y0=0/\r.x1=0/\r.y1=0))/\(nleft:Int)=r.y1-r.y0/\(ntop:Int)=r.x1-r.x0)) (by exact fun h=>h0 h.1.1)).symm)),trivial⟩,sA⟩,c0,trivial⟩
   refine qO rfl<|pu1<|nA<|qO rfl<|pu1<|nA<|qV 1<|qV 1<|qV 1<|qV 1<|qV 1<|qV 1<|qV 1<|qV 1<|qF ?_ ?_
   rotate_left
   ·exact qO rfl<|pu1<|nA<|qO rfl<|pu1<|nA<|qV 1<|qV 1<|qV 1<|qN<|tN<|⟨(),⟨⟨(Eq.trans (b:= .bool true) kr (congrArg Value.bool (decide_eq_true (p:=¬((insP r ⟨0,0,p.w,p.h⟩/\¬(r.x0=0/\r.y0=0/\r.x1=0/\r.y1=0))/\(nleft:Int)=r.y1-r.y0/\(ntop:Int)=r.x1-r.x0)) (by exact fun h=>h0 h.1.1)).symm)),trivial⟩,sA⟩,c0,trivial⟩
   exact qO rfl<|pu1<|nA<|qO rfl<|pu1<|nA<|qV 1<|qV 1<|qV 1<|qN<|tN<|⟨(),⟨⟨(Eq.trans (b:= .bool true) kr (congrArg Value.bool (decide_eq_true (p:=¬((insP r ⟨0,0,p.w,p.h⟩/\¬(r.x0=0/\r.y0=0/\r.x1=0/\r.y1=0))/\(nleft:Int)=r.y1-r.y0/\(ntop:Int)=r.x1-r.x0)) (by exact fun h=>h0 h.1.1)).symm)),trivial⟩,sA⟩,c0,trivial⟩
  refine qFix 42 _ false (congrArg Bool.not (decide_eq_true h0))<|qV 1<|qV 1<|qV 1<|qV 1<|qF ?_ ?_
  rotate_left
  ·refine qO rfl<|gY<|sM c0 1 1 (I r.y0)<|nA<|qO rfl<|gY<|sM c0 1 3 (I r.y1)<|nA<|qSub (hr:=(ins_sub (b:=⟨0,0,p.w,p.h⟩) ‹_›).1) r.y1 r.y0<|qV 1<|qV 1<|qV 1 ?_
   by_cases u1:((nleft:Int):Int)=(r.y1-r.y0)
   rotate_left
   ·refine qFix 52 _ true (bne_iff_ne.2 u1)<|qV 1<|qV 1<|qV 1<|qV 1<|qF ?_ ?_
    rotate_left
    ·exact qO rfl<|pu1<|nA<|qO rfl<|pu1<|nA<|qV 1<|qV 1<|qV 1<|qN<|tN<|⟨(),⟨⟨(Eq.trans (b:= .bool true) kr (congrArg Value.bool (decide_eq_true (p:=¬((insP r ⟨0,0,p.w,p.h⟩/\¬(r.x0=0/\r.y0=0/\r.x1=0/\r.y1=0))/\(nleft:Int)=r.y1-r.y0/\(ntop:Int)=r.x1-r.x0)) (by first|exact ⟨fun h k=>h k.2.2,fun h k=>h ⟨⟨h0,a0.2⟩,om,k⟩⟩|exact fun h=>by omega)).symm)),trivial⟩,sA⟩,c0,trivial⟩
    exact qO rfl<|pu1<|nA<|qO rfl<|pu1<|nA<|qV 1<|qV 1<|qV 1<|qN<|tN<|⟨(),⟨⟨(Eq.trans (b:= .bool true) kr (congrArg Value.bool (decide_eq_true (p:=¬((insP r ⟨0,0,p.w,p.h⟩/\¬(r.x0=0/\r.y0=0/\r.x1=0/\r.y1=0))/\(nleft:Int)=r.y1-r.y0/\(ntop:Int)=r.x1-r.x0)) (by first|exact ⟨fun h k=>h k.2.2,fun h k=>h ⟨⟨h0,a0.2⟩,om,k⟩⟩|exact fun h=>by omega)).symm)),trivial⟩,sA⟩,c0,trivial⟩
   refine qFix 52 _ false (bne_eq_false_iff_eq.2 u1)<|qV 1<|qV 1<|qV 1<|qV 1<|qF ?_ ?_
   rotate_left
   ·exact qO rfl<|gY<|sM c0 1 0 (I r.x0)<|nA<|qO rfl<|gY<|sM c0 1 2 (I r.x1)<|nA<|qSub (hr:=(ins_sub (b:=⟨0,0,p.w,p.h⟩) ‹_›).2) r.x1 r.x0<|qV 1<|qV 1<|qN<|tN<|⟨(),⟨⟨(Eq.trans (b:= .bool (((ntop:Int):Int)!=(r.x1-r.x0))) kr (congrArg Value.bool (by rw [Bool.eq_iff_iff];simp only [decide_eq_true_eq,beq_iff_eq,bne_iff_ne,ne_eq,Bool.not_eq_true',decide_eq_false_iff_not,gt_iff_lt,ge_iff_le,Bool.and_eq_true,Bool.or_eq_true,Bool.not_eq_eq_eq_not,Bool.not_true,Bool.and_eq_false_imp,beq_eq_false_iff_ne]<;>first|exact ⟨fun h k=>h k.2.2,fun h k=>h ⟨⟨h0,a0.2⟩,om,k⟩⟩|exact fun h=>by omega))),trivial⟩,sA⟩,c0,trivial⟩
   exact qO rfl<|gY<|sM c0 1 2 (I r.x1)<|nA<|qO rfl<|gY<|sM c0 1 0 (I r.x0)<|nA<|qSub (hr:=(ins_sub (b:=⟨0,0,p.w,p.h⟩) ‹_›).2) r.x1 r.x0<|qV 1<|qV 1<|qN<|tN<|⟨(),⟨⟨(Eq.trans (b:= .bool (((ntop:Int):Int)!=(r.x1-r.x0))) kr (congrArg Value.bool (by rw [Bool.eq_iff_iff];simp only [decide_eq_true_eq,beq_iff_eq,bne_iff_ne,ne_eq,Bool.not_eq_true',decide_eq_false_iff_not,gt_iff_lt,ge_iff_le,Bool.and_eq_true,Bool.or_eq_true,Bool.not_eq_eq_eq_not,Bool.not_true,Bool.and_eq_false_imp,beq_eq_false_iff_ne]<;>first|exact ⟨fun h k=>h k.2.2,fun h k=>h ⟨⟨h0,a0.2⟩,om,k⟩⟩|exact fun h=>by omega))),trivial⟩,sA⟩,c0,trivial⟩
  refine qO rfl<|gY<|sM c0 1 3 (I r.y1)<|nA<|qO rfl<|gY<|sM c0 1 1 (I r.y0)<|nA<|qSub (hr:=(ins_sub (b:=⟨0,0,p.w,p.h⟩) ‹_›).1) r.y1 r.y0<|qV 1<|qV 1<|qV 1 ?_
  by_cases v1:((nleft:Int):Int)=(r.y1-r.y0)
  rotate_left
  ·refine qFix 52 _ true (bne_iff_ne.2 v1)<|qV 1<|qV 1<|qV 1<|qV 1<|qF ?_ ?_
   rotate_left
   ·exact qO rfl<|pu1<|nA<|qO rfl<|pu1<|nA<|qV 1<|qV 1<|qV 1<|qN<|tN<|⟨(),⟨⟨(Eq.trans (b:= .bool true) kr (congrArg Value.bool (decide_eq_true (p:=¬((insP r ⟨0,0,p.w,p.h⟩/\¬(r.x0=0/\r.y0=0/\r.x1=0/\r.y1=0))/\(nleft:Int)=r.y1-r.y0/\(ntop:Int)=r.x1-r.x0)) (by first|exact ⟨fun h k=>h k.2.2,fun h k=>h ⟨⟨h0,a0.2⟩,om,k⟩⟩|exact fun h=>by omega)).symm)),trivial⟩,sA⟩,c0,trivial⟩
   exact qO rfl<|pu1<|nA<|qO rfl<|pu1<|nA<|qV 1<|qV 1<|qV 1<|qN<|tN<|⟨(),⟨⟨(Eq.trans (b:= .bool true) kr (congrArg Value.bool (decide_eq_true (p:=¬((insP r ⟨0,0,p.w,p.h⟩/\¬(r.x0=0/\r.y0=0/\r.x1=0/\r.y1=0))/\(nleft:Int)=r.y1-r.y0/\(ntop:Int)=r.x1-r.x0)) (by first|exact ⟨fun h k=>h k.2.2,fun h k=>h ⟨⟨h0,a0.2⟩,om,k⟩⟩|exact fun h=>by omega)).symm)),trivial⟩,sA⟩,c0,trivial⟩
  refine qFix 52 _ false (bne_eq_false_iff_eq.2 v1)<|qV 1<|qV 1<|qV 1<|qV 1<|qF ?_ ?_
  rotate_left
  ·exact qO rfl<|gY<|sM c0 1 0 (I r.x0)<|nA<|qO rfl<|gY<|sM c0 1 2 (I r.x1)<|nA<|qSub (hr:=(ins_sub (b:=⟨0,0,p.w,p.h⟩) ‹_›).2) r.x1 r.x0<|qV 1<|qV 1<|qN<|tN<|⟨(),⟨⟨(Eq.trans (b:= .bool (((ntop:Int):Int)!=(r.x1-r.x0))) kr (congrArg Value.bool (by rw [Bool.eq_iff_iff];simp only [decide_eq_true_eq,beq_iff_eq,bne_iff_ne,ne_eq,Bool.not_eq_true',decide_eq_false_iff_not,gt_iff_lt,ge_iff_le,Bool.and_eq_true,Bool.or_eq_true,Bool.not_eq_eq_eq_not,Bool.not_true,Bool.and_eq_false_imp,beq_eq_false_iff_ne]<;>first|exact ⟨fun h k=>h k.2.2,fun h k=>h ⟨⟨h0,a0.2⟩,om,k⟩⟩|exact fun h=>by omega))),trivial⟩,sA⟩,c0,trivial⟩
  exact qO rfl<|gY<|sM c0 1 2 (I r.x1)<|nA<|qO rfl<|gY<|sM c0 1 0 (I r.x0)<|nA<|qSub (hr:=(ins_sub (b:=⟨0,0,p.w,p.h⟩) ‹_›).2) r.x1 r.x0<|qV 1<|qV 1<|qN<|tN<|⟨(),⟨⟨(Eq.trans (b:= .bool (((ntop:Int):Int)!=(r.x1-r.x0))) kr (congrArg Value.bool (by rw [Bool.eq_iff_iff];simp only [decide_eq_true_eq,beq_iff_eq,bne_iff_ne,ne_eq,Bool.not_eq_true',decide_eq_false_iff_not,gt_iff_lt,ge_iff_le,Bool.and_eq_true,Bool.or_eq_true,Bool.not_eq_eq_eq_not,Bool.not_true,Bool.and_eq_false_imp,beq_eq_false_iff_ne]<;>first|exact ⟨fun h k=>h k.2.2,fun h k=>h ⟨⟨h0,a0.2⟩,om,k⟩⟩|exact fun h=>by omega))),trivial⟩,sA⟩,c0,trivial⟩
 refine qO rfl<|gY<|lB e0 1 0 4<|nA<|qO rfl<|gY<|cS (r4_cover p ⟨(hp.pix.fl 3)⟩ e0.flat) fun _ k4=>nA<|qO rfl<|gY<|cS (r2_inside r (⟨0,0,p.w,p.h⟩:Rct) k4.flat) fun _ d0=>nA<|qV 1<|qV 1<|qV 1 ?_
 rcases Classical.em (insP r (⟨0,0,p.w,p.h⟩:Rct)) with i0|i0
 rotate_left
 ·refine qFix 42 _ true (congrArg Bool.not (decide_eq_false i0))<|qV 1<|qV 1<|qV 1<|qV 1<|qF ?_ ?_
  rotate_left
  ·refine qO rfl<|pu1<|nA<|qO rfl<|pu1<|nA<|qV 1<|qV 1<|qV 1<|qV 1<|qV 1<|qV 1<|qV 1<|qV 1<|qF ?_ ?_
   rotate_left
   ·exact qO rfl<|pu1<|nA<|qO rfl<|pu1<|nA<|qV 1<|qV 1<|qV 1<|qN<|tN<|⟨(),⟨⟨(Eq.trans (b:= .bool true) kr (congrArg Value.bool (decide_eq_true (p:=¬((insP r ⟨0,0,p.w,p.h⟩/\¬(r.x0=0/\r.y0=0/\r.x1=0/\r.y1=0))/\(nleft:Int)=r.y1-r.y0/\(ntop:Int)=r.x1-r.x0)) (by exact fun h=>i0 h.1.1)).symm)),trivial⟩,sA⟩,d0,trivial⟩
   exact qO rfl<|pu1<|nA<|qO rfl<|pu1<|nA<|qV 1<|qV 1<|qV 1<|qN<|tN<|⟨(),⟨⟨(Eq.trans (b:= .bool true) kr (congrArg Value.bool (decide_eq_true (p:=¬((insP r ⟨0,0,p.w,p.h⟩/\¬(r.x0=0/\r.y0=0/\r.x1=0/\r.y1=0))/\(nleft:Int)=r.y1-r.y0/\(ntop:Int)=r.x1-r.x0)) (by exact fun h=>i0 h.1.1)).symm)),trivial⟩,sA⟩,d0,trivial⟩
  refine qO rfl<|pu1<|nA<|qO rfl<|pu1<|nA<|qV 1<|qV 1<|qV 1<|qV 1<|qV 1<|qV 1<|qV 1<|qV 1<|qF ?_ ?_
  rotate_left
  ·exact qO rfl<|pu1<|nA<|qO rfl<|pu1<|nA<|qV 1<|qV 1<|qV 1<|qN<|tN<|⟨(),⟨⟨(Eq.trans (b:= .bool true) kr (congrArg Value.bool (decide_eq_true (p:=¬((insP r ⟨0,0,p.w,p.h⟩/\¬(r.x0=0/\r.y0=0/\r.x1=0/\r.y1=0))/\(nleft:Int)=r.y1-r.y0/\(ntop:Int)=r.x1-r.x0)) (by exact fun h=>i0 h.1.1)).symm)),trivial⟩,sA⟩,d0,trivial⟩
  exact qO rfl<|pu1<|nA<|qO rfl<|pu1<|nA<|qV 1<|qV 1<|qV 1<|qN<|tN<|⟨(),⟨⟨(Eq.trans (b:= .bool true) kr (congrArg Value.bool (decide_eq_true (p:=¬((insP r ⟨0,0,p.w,p.h⟩/\¬(r.x0=0/\r.y0=0/\r.x1=0/\r.y1=0))/\(nleft:Int)=r.y1-r.y0/\(ntop:Int)=r.x1-r.x0)) (by exact fun h=>i0 h.1.1)).symm)),trivial⟩,sA⟩,d0,trivial⟩
 refine qFix 42 _ false (congrArg Bool.not (decide_eq_true i0))<|qV 1<|qV 1<|qV 1<|qV 1<|qF ?_ ?_
 rotate_left
 ·refine qO rfl<|gY<|sM d0 1 1 (I r.y0)<|nA<|qO rfl<|gY<|sM d0 1 3 (I r.y1)<|nA<|qSub (hr:=(ins_sub (b:=⟨0,0,p.w,p.h⟩) ‹_›).1) r.y1 r.y0<|qV 1<|qV 1<|qV 1 ?_
  by_cases w1:((nleft:Int):Int)=(r.y1-r.y0)
  rotate_left
  ·refine qFix 52 _ true (bne_iff_ne.2 w1)<|qV 1<|qV 1<|qV 1<|qV 1<|qF ?_ ?_
   rotate_left
   ·exact qO rfl<|pu1<|nA<|qO rfl<|pu1<|nA<|qV 1<|qV 1<|qV 1<|qN<|tN<|⟨(),⟨⟨(Eq.trans (b:= .bool true) kr (congrArg Value.bool (decide_eq_true (p:=¬((insP r ⟨0,0,p.w,p.h⟩/\¬(r.x0=0/\r.y0=0/\r.x1=0/\r.y1=0))/\(nleft:Int)=r.y1-r.y0/\(ntop:Int)=r.x1-r.x0)) (by first|exact ⟨fun h k=>h k.2.2,fun h k=>h ⟨⟨i0,a0.2⟩,om,k⟩⟩|exact fun h=>by omega)).symm)),trivial⟩,sA⟩,d0,trivial⟩
   exact qO rfl<|pu1<|nA<|qO rfl<|pu1<|nA<|qV 1<|qV 1<|qV 1<|qN<|tN<|⟨(),⟨⟨(Eq.trans (b:= .bool true) kr (congrArg Value.bool (decide_eq_true (p:=¬((insP r ⟨0,0,p.w,p.h⟩/\¬(r.x0=0/\r.y0=0/\r.x1=0/\r.y1=0))/\(nleft:Int)=r.y1-r.y0/\(ntop:Int)=r.x1-r.x0)) (by first|exact ⟨fun h k=>h k.2.2,fun h k=>h ⟨⟨i0,a0.2⟩,om,k⟩⟩|exact fun h=>by omega)).symm)),trivial⟩,sA⟩,d0,trivial⟩
  refine qFix 52 _ false (bne_eq_false_iff_eq.2 w1)<|qV 1<|qV 1<|qV 1<|qV 1<|qF ?_ ?_
  rotate_left
  ·exact qO rfl<|gY<|sM d0 1 0 (I r.x0)<|nA<|qO rfl<|gY<|sM d0 1 2 (I r.x1)<|nA<|qSub (hr:=(ins_sub (b:=⟨0,0,p.w,p.h⟩) ‹_›).2) r.x1 r.x0<|qV 1<|qV 1<|qN<|tN<|⟨(),⟨⟨(Eq.trans (b:= .bool (((ntop:Int):Int)!=(r.x1-r.x0))) kr (congrArg Value.bool (by rw [Bool.eq_iff_iff];simp only [decide_eq_true_eq,beq_iff_eq,bne_iff_ne,ne_eq,Bool.not_eq_true',decide_eq_false_iff_not,gt_iff_lt,ge_iff_le,Bool.and_eq_true,Bool.or_eq_true,Bool.not_eq_eq_eq_not,Bool.not_true,Bool.and_eq_false_imp,beq_eq_false_iff_ne]<;>first|exact ⟨fun h k=>h k.2.2,fun h k=>h ⟨⟨i0,a0.2⟩,om,k⟩⟩|exact fun h=>by omega))),trivial⟩,sA⟩,d0,trivial⟩
  exact qO rfl<|gY<|sM d0 1 2 (I r.x1)<|nA<|qO rfl<|gY<|sM d0 1 0 (I r.x0)<|nA<|qSub (hr:=(ins_sub (b:=⟨0,0,p.w,p.h⟩) ‹_›).2) r.x1 r.x0<|qV 1<|qV 1<|qN<|tN<|⟨(),⟨⟨(Eq.trans (b:= .bool (((ntop:Int):Int)!=(r.x1-r.x0))) kr (congrArg Value.bool (by rw [Bool.eq_iff_iff];simp only [decide_eq_true_eq,beq_iff_eq,bne_iff_ne,ne_eq,Bool.not_eq_true',decide_eq_false_iff_not,gt_iff_lt,ge_iff_le,Bool.and_eq_true,Bool.or_eq_true,Bool.not_eq_eq_eq_not,Bool.not_true,Bool.and_eq_false_imp,beq_eq_false_iff_ne]<;>first|exact ⟨fun h k=>h k.2.2,fun h k=>h ⟨⟨i0,a0.2⟩,om,k⟩⟩|exact fun h=>by omega))),trivial⟩,sA⟩,d0,trivial⟩
 refine qO rfl<|gY<|sM d0 1 3 (I r.y1)<|nA<|qO rfl<|gY<|sM d0 1 1 (I r.y0)<|nA<|qSub (hr:=(ins_sub (b:=⟨0,0,p.w,p.h⟩) ‹_›).1) r.y1 r.y0<|qV 1<|qV 1<|qV 1 ?_
 by_cases z1:((nleft:Int):Int)=(r.y1-r.y0)
 rotate_left
 ·refine qFix 52 _ true (bne_iff_ne.2 z1)<|qV 1<|qV 1<|qV 1<|qV 1<|qF ?_ ?_
  rotate_left
  ·exact qO rfl<|pu1<|nA<|qO rfl<|pu1<|nA<|qV 1<|qV 1<|qV 1<|qN<|tN<|⟨(),⟨⟨(Eq.trans (b:= .bool true) kr (congrArg Value.bool (decide_eq_true (p:=¬((insP r ⟨0,0,p.w,p.h⟩/\¬(r.x0=0/\r.y0=0/\r.x1=0/\r.y1=0))/\(nleft:Int)=r.y1-r.y0/\(ntop:Int)=r.x1-r.x0)) (by first|exact ⟨fun h k=>h k.2.2,fun h k=>h ⟨⟨i0,a0.2⟩,om,k⟩⟩|exact fun h=>by omega)).symm)),trivial⟩,sA⟩,d0,trivial⟩
  exact qO rfl<|pu1<|nA<|qO rfl<|pu1<|nA<|qV 1<|qV 1<|qV 1<|qN<|tN<|⟨(),⟨⟨(Eq.trans (b:= .bool true) kr (congrArg Value.bool (decide_eq_true (p:=¬((insP r ⟨0,0,p.w,p.h⟩/\¬(r.x0=0/\r.y0=0/\r.x1=0/\r.y1=0))/\(nleft:Int)=r.y1-r.y0/\(ntop:Int)=r.x1-r.x0)) (by first|exact ⟨fun h k=>h k.2.2,fun h k=>h ⟨⟨i0,a0.2⟩,om,k⟩⟩|exact fun h=>by omega)).symm)),trivial⟩,sA⟩,d0,trivial⟩
 refine qFix 52 _ false (bne_eq_false_iff_eq.2 z1)<|qV 1<|qV 1<|qV 1<|qV 1<|qF ?_ ?_
 rotate_left
 ·exact qO rfl<|gY<|sM d0 1 0 (I r.x0)<|nA<|qO rfl<|gY<|sM d0 1 2 (I r.x1)<|nA<|qSub (hr:=(ins_sub (b:=⟨0,0,p.w,p.h⟩) ‹_›).2) r.x1 r.x0<|qV 1<|qV 1<|qN<|tN<|⟨(),⟨⟨(Eq.trans (b:= .bool (((ntop:Int):Int)!=(r.x1-r.x0))) kr (congrArg Value.bool (by rw [Bool.eq_iff_iff];simp only [decide_eq_true_eq,beq_iff_eq,bne_iff_ne,ne_eq,Bool.not_eq_true',decide_eq_false_iff_not,gt_iff_lt,ge_iff_le,Bool.and_eq_true,Bool.or_eq_true,Bool.not_eq_eq_eq_not,Bool.not_true,Bool.and_eq_false_imp,beq_eq_false_iff_ne]<;>first|exact ⟨fun h k=>h k.2.2,fun h k=>h ⟨⟨i0,a0.2⟩,om,k⟩⟩|exact fun h=>by omega))),trivial⟩,sA⟩,d0,trivial⟩
 exact qO rfl<|gY<|sM d0 1 2 (I r.x1)<|nA<|qO rfl<|gY<|sM d0 1 0 (I r.x0)<|nA<|qSub (hr:=(ins_sub (b:=⟨0,0,p.w,p.h⟩) ‹_›).2) r.x1 r.x0<|qV 1<|qV 1<|qN<|tN<|⟨(),⟨⟨(Eq.trans (b:= .bool (((ntop:Int):Int)!=(r.x1-r.x0))) kr (congrArg Value.bool (by rw [Bool.eq_iff_iff];simp only [decide_eq_true_eq,beq_iff_eq,bne_iff_ne,ne_eq,Bool.not_eq_true',decide_eq_false_iff_not,gt_iff_lt,ge_iff_le,Bool.and_eq_true,Bool.or_eq_true,Bool.not_eq_eq_eq_not,Bool.not_true,Bool.and_eq_false_imp,beq_eq_false_iff_ne]<;>first|exact ⟨fun h k=>h k.2.2,fun h k=>h ⟨⟨i0,a0.2⟩,om,k⟩⟩|exact fun h=>by omega))),trivial⟩,sA⟩,d0,trivial⟩
theorem r21_belongs (k:Int) (m:Int) (hS:Sat W w (H::F)):
  Ro prog 64 #[I k,I m] (.bool (decide (belongP k m))) W w (H::F):=by
 exact callsK 15 func64 rfl<|jCC 12 rfl<|CE k 4 (fun a0=>jCR 10 rfl<|retT [.bool ((m:Int)==0)]<|⟨rB (by rw [Bool.eq_iff_iff,decide_eq_true_eq,beq_iff_eq];unfold belongP;omega),hS⟩) fun a0=>jCO 5 rfl<|sE 9 m 1 (fun b0=>jOR 8 rfl<|retT [.bool true]<|⟨rB (decide_eq_true (by unfold belongP;omega)).symm,hS⟩) fun b0=>jOR 8 rfl<|retT [.bool ((m:Int)==2)]<|⟨rB (by rw [Bool.eq_iff_iff,decide_eq_true_eq,beq_iff_eq];unfold belongP;omega),hS⟩
theorem r21_at (p:Plane) (x:Int) (y:Int) (hp:Plane.Ok [H] p) (hpo:planeOK p.v=true) (hS:Sat W w (H::F)):
  Ro prog 110 #[.agg (encPlane p).toArray,I x,I y] (I (atV p.v x y)) W w (H::F):=by
 have f0:=hp.pix.le;have d0:=hp.pix.len
 exact callsK 35 func110 rfl<|jCO 2 rfl<|sBx hS (encPlane p) fun _ _ a0=>jOO 9 rfl<|sD 9 (x<0) (fun c0=>jOR 25 rfl<|retT [I 0]<|⟨by rw [show atV p.v x y=0 from if_pos (by simp only [Plane.v];omega)];rfl,(a0.dropAt 0 rfl)⟩) fun c0=>pu4<|sD 13 (y<0) (fun e0=>jOR 21 rfl<|retT [I 0]<|⟨by rw [show atV p.v x y=0 from if_pos (by simp only [Plane.v];omega)];rfl,(a0.dropAt 0 rfl)⟩) fun e0=>gOO a0 6 [0] rfl<|sD 19 (x>=p.w) (fun g0=>jOR 15 rfl<|retT [I 0]<|⟨by rw [show atV p.v x y=0 from if_pos (by simp only [Plane.v];omega)];rfl,(a0.dropAt 0 rfl)⟩) fun g0=>gOC a0 7 [0] rfl<|cD (y>=p.h) (fun i0=>jCR 7 rfl<|retT [I 0]<|⟨by rw [show atV p.v x y=0 from if_pos (by simp only [Plane.v];omega)];rfl,(a0.dropAt 0 rfl)⟩) fun i0=>jCC 3 rfl<|(by have h0:p.v.pix.length=p.pix.n:=d0;have hix:=pl_ix hpo (x:=x) (y:=y) (by simp only [Plane.v];omega) (by simp only [Plane.v];omega);rw [h0] at hix;simp only [Plane.v] at hix;exact gCO a0 6 [0,0] rfl<|sMul y p.w<|pu1<|sAdd (y*p.w) x<|sII hp.pix ((y*p.w)+x) fun b0 _ _ k0 l0=>sMp a0 (l0.up 1 rfl) 0 (I b0)<|jOR 4 rfl<|retT [I b0]<|⟨by rw [show atV p.v x y=b0 from (at_in (by simp only [Plane.v];omega) (by simp only [Plane.v];omega)).trans (pixAt_eq k0)];rfl,(a0.dropAt 0 rfl)⟩)
theorem r21_sums (p:Plane) (own:Plane) (r:Rct) (hp:Plane.Ok [H] p) (hown:Plane.Ok [H] own) (hpo:planeOK p.v=true) (how:planeOK own.v=true) (hS:Sat W w (H::F)):
  Calls prog 69 #[.agg (encPlane p).toArray, .agg (encPlane own).toArray, .agg (encRct r).toArray] w fun e w'=>∃(q:Plane) (c:Int) (G:Chunk),e= .returned (.tuple #[.agg (encPlane q).toArray,I c])/\q.Ok [G]/\(q.v,c)=sumT p.v own.v r/\Sat W w' (G::H::F):=by
 have hl_p_pix:=hp.pix.le;have hn_p_pix:=hp.pix.len
 have hl_own_pix:=hown.pix.le;have hn_own_pix:=hown.pix.len
 refine callsK 72 func69 rfl<|jCO 2 rfl<|sBox hS (.agg (encPlane p).toArray) (encPlane p).toArray fun _ _ q0=>sBox q0 (.agg (encPlane own).toArray) (encPlane own).toArray fun _ _ r0=>sBox r0 (.agg (encRct r).toArray) (encRct r).toArray fun _ _ s0=>sAlloc s0 zeroValue38 fun _ _ j0=>jOC 4 rfl<|cutF j0 0 [3,4,5,6] (γ:=Unit) (fun _ R=>⟨[(21, .bool (decide (¬(insP r ⟨0,0,p.w,p.h⟩/\¬(r.x0=0/\r.y0=0/\r.x1=0/\r.y1=0)))))],R,0,True⟩) ?_ ?_
 ·refine drawG j0 [1,4,5,6,7] (fb 0 1 0 4<|fn) (Plan.sts [0]<| .ef 1<|Plan.sts [2]<|Plan.sts [3]<| .fk 4 5 (.ef 5<| .ef 6<| .ef 7<|Plan.sts [8]<|Plan.sts [9]<| .fin) (.fk 4 6 (.ef 6<| .ef 7<|Plan.sts [8]<|Plan.sts [9]<| .fin) (.ef 4<| .ef 7<|Plan.sts [8]<|Plan.sts [9]<| .fin))) fun _ t0=>qG 0 4<|qO rfl<|cR call79 (r2_full r t0.flat) fun _ a0=>nA<|qU [2]<|qU [3]<|qF ?_ ?_
  ·exact bC (rvP r/\¬(r.x0=0/\r.y0=0/\r.x1=0/\r.y1=0)) (fun e0=>qFix 15 _ true (congrArg Bool.not (decide_eq_false e0))<|qO rfl<|pu1<|nA<|qO rfl<|pu1<|nA<|qO rfl<|pu1<|nA<|qO rfl<|pu1<|nA<|qU [8]<|qU [9]<|qN<|jXI 0 rfl<|⟨(),⟨⟨(Eq.trans (b:= .bool true) kr (congrArg Value.bool (decide_eq_true (p:=¬(insP r ⟨0,0,p.w,p.h⟩/\¬(r.x0=0/\r.y0=0/\r.x1=0/\r.y1=0))) (by exact fun h=>e0 ⟨h.1.1,h.2⟩)).symm)),trivial⟩,sA⟩,a0,trivial⟩) fun e0=>qFix 15 _ false (congrArg Bool.not (decide_eq_true e0))<|qO rfl<|gY<|lA a0 1 0 4 (isAgg45 _) (sizeOf45 _)<|nA<|qO rfl<|gY<|lA a0 3 0 4 (isAgg38 _) (sizeOf38 _)<|nA<|qO rfl<|gY<|cR call108 (r4_cover p ⟨(RdT.flat (hp.pix.up 4 (by rfl)))⟩ a0.flat) fun _ u0=>nA<|qO rfl<|gY<|cR call107 (r2_inside r (⟨0,0,p.w,p.h⟩:Rct) u0.flat) fun _ v0=>nA<|qU [8]<|qU [9]<|qN<|jXI 0 rfl<|⟨(),⟨⟨(Eq.trans (b:= .bool (!decide (insP r (⟨0,0,p.w,p.h⟩:Rct)))) kr (congrArg Value.bool (by rw [Bool.eq_iff_iff];simp only [decide_eq_true_eq,beq_iff_eq,bne_iff_ne,ne_eq,Bool.not_eq_true',decide_eq_false_iff_not,gt_iff_lt,ge_iff_le,Bool.and_eq_true,Bool.or_eq_true,Bool.not_eq_eq_eq_not,Bool.not_true,Bool.and_eq_false_imp,beq_eq_false_iff_ne]<;>exact ⟨fun h k=>h k.1,fun h k=>h ⟨k,e0.2⟩⟩))),trivial⟩,sA⟩,v0,trivial⟩
  by_cases c0:rvP r/\¬(r.x0=0/\r.y0=0/\r.x1=0/\r.y1=0)
  rotate_left
  ·refine qFix 15 _ true (congrArg Bool.not (decide_eq_false c0))<|qO rfl<|pu1<|nA<|qF ?_ ?_
   rotate_left
   ·exact qO rfl<|pu1<|nA<|qO rfl<|pu1<|nA<|qO rfl<|pu1<|nA<|qU [8]<|qU [9]<|qN<|jXI 0 rfl<|⟨(),⟨⟨(Eq.trans (b:= .bool true) kr (congrArg Value.bool (decide_eq_true (p:=¬(insP r ⟨0,0,p.w,p.h⟩/\¬(r.x0=0/\r.y0=0/\r.x1=0/\r.y1=0))) (by exact fun h=>c0 ⟨h.1.1,h.2⟩)).symm)),trivial⟩,sA⟩,a0,trivial⟩
   exact qO rfl<|pu1<|nA<|qO rfl<|pu1<|nA<|qO rfl<|pu1<|nA<|qU [8]<|qU [9]<|qN<|jXI 0 rfl<|⟨(),⟨⟨(Eq.trans (b:= .bool true) kr (congrArg Value.bool (decide_eq_true (p:=¬(insP r ⟨0,0,p.w,p.h⟩/\¬(r.x0=0/\r.y0=0/\r.x1=0/\r.y1=0))) (by exact fun h=>c0 ⟨h.1.1,h.2⟩)).symm)),trivial⟩,sA⟩,a0,trivial⟩
  refine qFix 15 _ false (congrArg Bool.not (decide_eq_true c0))<|qO rfl<|gY<|lA a0 3 0 4 (isAgg38 _) (sizeOf38 _)<|nA<|qF ?_ ?_
  rotate_left
  ·exact qO rfl<|gY<|cR call108 (r4_cover p ⟨(RdT.flat (hp.pix.up 4 (by rfl)))⟩ a0.flat) fun _ k0=>nA<|qO rfl<|gY<|lA k0 1 0 4 (isAgg45 _) (sizeOf45 _)<|nA<|qO rfl<|gY<|cR call107 (r2_inside r (⟨0,0,p.w,p.h⟩:Rct) k0.flat) fun _ w0=>nA<|qU [8]<|qU [9]<|qN<|jXI 0 rfl<|⟨(),⟨⟨(Eq.trans (b:= .bool (!decide (insP r (⟨0,0,p.w,p.h⟩:Rct)))) kr (congrArg Value.bool (by rw [Bool.eq_iff_iff];simp only [decide_eq_true_eq,beq_iff_eq,bne_iff_ne,ne_eq,Bool.not_eq_true',decide_eq_false_iff_not,gt_iff_lt,ge_iff_le,Bool.and_eq_true,Bool.or_eq_true,Bool.not_eq_eq_eq_not,Bool.not_true,Bool.and_eq_false_imp,beq_eq_false_iff_ne]<;>exact ⟨fun h k=>h k.1,fun h k=>h ⟨k,c0.2⟩⟩))),trivial⟩,sA⟩,w0,trivial⟩
  exact qO rfl<|gY<|lA a0 1 0 4 (isAgg45 _) (sizeOf45 _)<|nA<|qO rfl<|gY<|cR call108 (r4_cover p ⟨(RdT.flat (hp.pix.up 4 (by rfl)))⟩ a0.flat) fun _ z0=>nA<|qO rfl<|gY<|cR call107 (r2_inside r (⟨0,0,p.w,p.h⟩:Rct) z0.flat) fun _ a1=>nA<|qU [8]<|qU [9]<|qN<|jXI 0 rfl<|⟨(),⟨⟨(Eq.trans (b:= .bool (!decide (insP r (⟨0,0,p.w,p.h⟩:Rct)))) kr (congrArg Value.bool (by rw [Bool.eq_iff_iff];simp only [decide_eq_true_eq,beq_iff_eq,bne_iff_ne,ne_eq,Bool.not_eq_true',decide_eq_false_iff_not,gt_iff_lt,ge_iff_le,Bool.and_eq_true,Bool.or_eq_true,Bool.not_eq_eq_eq_not,Bool.not_true,Bool.and_eq_false_imp,beq_eq_false_iff_ne]<;>exact ⟨fun h k=>h k.1,fun h k=>h ⟨k,c0.2⟩⟩))),trivial⟩,sA⟩,a1,trivial⟩
 rintro _ ρ _ ⟨g0,_⟩
 refine cD (¬(insP r ⟨0,0,p.w,p.h⟩/\¬(r.x0=0/\r.y0=0/\r.x1=0/\r.y1=0))) (fun h0=>?_) (fun h0=>?_)
 ·refine jCO 3 rfl<|sTl g0 0 [I 0,I 0,I 0,nS] sizeOf38 fun _ l0=>jOR 5 rfl<|retC l0 0 [I 0,I 0,I 0,nS] (I 8) (isAgg38 _) (sizeOf38 _) ?_
  have hsz:=(plane_sz hpo).1;unfold sizeP at hsz;simp only [Plane.v] at hsz;
  have b1:=(l0.drops [0,0,0,0])
  have c1:Sat W _ ([]::H::F):=Sat.nilc b1
  exact ⟨(⟨0,0,0,⟨none,0,0,[]⟩⟩:Plane),8,_,rfl,⟨RdT.nil (enc:=Go.E.encI) (sz:=1) fR [[]]⟩,(by unfold sumT;rw [if_neg (fun h=>by have h2:=(ins_in om om).2 (show rIn r p.w p.h from h);exact h0 ⟨h2.2,h2.1⟩)];rfl),c1⟩
 refine jCC 3 rfl ?_
 have hsz:=(plane_sz hpo).1;unfold sizeP at hsz;simp only [Plane.v] at hsz;have hnn:=Classical.not_not.1 h0;have hri:rIn r p.w p.h:=(ins_in om om).1 ⟨hnn.2,hnn.1⟩;have hri0:=hri;unfold rIn at hri0
 obtain ⟨Wn,hW⟩:∃k:Nat,r.x1-r.x0=(k:Int):=⟨_,(Int.toNat_of_nonneg om).symm⟩;obtain ⟨Hn,hH⟩:∃k:Nat,r.y1-r.y0=(k:Int):=⟨_,(Int.toNat_of_nonneg om).symm⟩
 have hWb:1<=Wn/\Wn<=128/\1<=Hn/\Hn<=128:=om;have hWH:Hn*Wn<=4096:=by have h1:=rIn_area hri (by first|omega|assumption);rw [hW,hH] at h1;have h2:((Hn*Wn:Nat):Int)=(Wn:Int)*(Hn:Int):=(by push_cast;rw [Int.mul_comm]);omega
 have hWi:(r.x1-r.x0)*(r.y1-r.y0)=((Hn*Wn:Nat):Int):=by rw [hW,hH];push_cast;rw [Int.mul_comm]
 refine gCC g0 14 [1] rfl ?_
 have d1:=Sat.nilc g0
 refine loopF [3,4,5,6,9] (γ:=Nat×Int×(List Int)×(Option Addr)×Nat×Nat×Chunk) (fun ⟨i,yy,zs,azs,nzs,kzs,czs⟩ R=>⟨[(10,I yy),(8, .slice azs nzs kzs)],czs::R,Hn-i,i<=Hn/\(yy=r.y0+(i:Int))/\(zs=tabN (fun j=>atV own.v (r.x0-1) (r.y0+(j:Int))) i)/\OwnT Go.E.encI 3 1 azs nzs kzs zs czs⟩) (0,r.y0,[],none,0,0,[]) ⟨d1,om,om,(by rfl),(OwnT.nil (enc:=Go.E.encI) (E:=3) (sz:=1) fR)⟩ ?_
 rintro ⟨i,yy,zs,azs,nzs,kzs,czs⟩ ρ _ ⟨d0,hi,hyy,hE,hOzs⟩
 have hn_zs:=hOzs.len;have hl_zs:=hOzs.le
 have hzl:zs.length=i:=by rw [hE,tab_len]
 refine gCC d0 9 [2] rfl<|cD (yy<r.y1) (fun f1=>gCO d0 9 [403,2] rfl<|sSub r.x0 1<|pu1<|cR call110 (r21_at own (r.x0-1) yy ⟨(RdT.flat (hown.pix.up 5 (by rfl)))⟩ how d0.flat) fun _ g1=>sBS g1 #[I (atV own.v (r.x0-1) yy)] runUnderlying22 sizeOf3 zeroValue3 fun _ _ i1=>sApp (nb:=8) i1 hOzs 1 (RdT.blk (enc:=Go.E.encI) (sz:=1) (xs:=[(atV own.v (r.x0-1) yy)]) fR 1 0 rfl rfl rfl om) underlying22 (i:=Tryz.t3) kr fR fun j1 k1 l1 _ m1 n1=>jOO 6 rfl<|sAdd yy 1<|jOI 2 rfl<|⟨(i+1,(yy+1),(zs++[(atV own.v (r.x0-1) yy)]),j1,(nzs+1),k1,l1),od,alB,(n1.dropAt 0 rfl),om,om,(by rw [tab_succ,<-hE,<-hyy]),m1⟩) fun f1=>gCC d0 14 [2] rfl ?_
 have q1:=Sat.nilc d0
 refine loopF [3,4,5,6,8] (γ:=Nat×Int×(List Int)×(Option Addr)×Nat×Nat×Chunk) (fun ⟨j,xx,zt,azt,nzt,kzt,czt⟩ R=>⟨[(11,I xx),(9, .slice azt nzt kzt)],czt::R,Wn-j,j<=Wn/\(xx=r.x0+(j:Int))/\(zt=tabN (fun j=>atV own.v (r.x0+(j:Int)) (r.y0-1)) j)/\OwnT Go.E.encI 3 1 azt nzt kzt zt czt⟩) (0,r.x0,[],none,0,0,[]) ⟨q1,om,om,(by rfl),(OwnT.nil (enc:=Go.E.encI) (E:=3) (sz:=1) fR)⟩ ?_
 rintro ⟨j,xx,zt,azt,nzt,kzt,czt⟩ ρ _ ⟨f0,hj,hxx,hE2,hOzt⟩
 have hn_zt:=hOzt.len;have hl_zt:=hOzt.le
 have hzl2:zt.length=j:=by rw [hE2,tab_len]
 refine gCC f0 9 [3] rfl<|cD (xx<r.x1) (fun s1=>gCO f0 10 [404,3] rfl<|sSub r.y0 1<|cR call110 (r21_at own xx (r.y0-1) ⟨(RdT.flat (hown.pix.up 6 (by rfl)))⟩ how f0.flat) fun _ t1=>sBS t1 #[I (atV own.v xx (r.y0-1))] runUnderlying22 sizeOf3 zeroValue3 fun _ _ u1=>sApp (nb:=8) u1 hOzt 1 (RdT.blk (enc:=Go.E.encI) (sz:=1) (xs:=[(atV own.v xx (r.y0-1))]) fR 1 0 rfl rfl rfl om) underlying22 (i:=Tryz.t3) kr fR fun v1 w1 z1 _ a2 b2=>jOO 6 rfl<|sAdd xx 1<|jOI 2 rfl<|⟨(j+1,(xx+1),(zt++[(atV own.v xx (r.y0-1))]),v1,(nzt+1),w1,z1),od,alB,(b2.dropAt 0 rfl),om,om,(by rw [tab_succ,<-hE2,<-hxx]),a2⟩) fun s1=>jCC 6 rfl<|drawF f0 [11,12,15] (fb 0 5 0 4<|fb 1 3 0 4<|fb 4 4 0 4<|fb 6 3 0 1<|fb 9 3 1 1<|fn) [2,3,5,8,0,1,4,6,7,9,10,11,12,13,14,15,16] fun _ d2=>wV 4<|wG 0 4<|wG 4 4<|wG 8 4<|wL 12<|wSub r.x0 1<|wL 13<|wSub r.y0 1<|wO rfl<|cR call110 (r21_at own (r.x0-1) (r.y0-1) ⟨(RdT.flat (hown.pix.up 6 (by rfl)))⟩ how d2.flat) fun _ m0=>nZ m0 [5,3,3,3]<|wO rfl<|cX call111 (r13_tile p r azs nzs kzs zs azt nzt kzt zt (atV own.v (r.x0-1) (r.y0-1)) ⟨(RdT.flat (hp.pix.up 6 (by rfl)))⟩ (RdT.flat (hOzs.rdAt 1 (by rfl))) (RdT.flat (hOzt.rdAt 0 (by rfl))) m0.flat) ?_
 rintro _ _ ⟨b0,n0,_,rfl,i0,e2,f2⟩
 have o0:=f2.unflat1
 have hn_q_87_pix:=i0.pix.len;have hl_q_87_pix:=i0.pix.le
 refine nZ o0 [4,4]<|wV 1<|wV 1<|wO rfl<|sTl o0 3 (encPlane b0) sizeOf38 fun _ p0=>nA<|wV 1<|wN<|jXR 2 rfl<|retC p0 3 (encPlane b0) (I n0) (isAgg38 _) (sizeOf38 _) ?_
 have hL:zs=leftV own.v r:=by rw [hE,show i=(r.y1-r.y0).toNat by omega];rfl
 have hT:zt=topV own.v r:=by rw [hE2,show j=(r.x1-r.x0).toNat by omega];rfl
 exact ⟨(⟨b0.w,b0.h,b0.max_,⟨b0.pix.a,b0.pix.n,b0.pix.k,b0.pix.l⟩⟩:Plane),n0,_,rfl,⟨i0.pix⟩,(by unfold sumT;rw [if_pos (show rIn r p.v.w p.v.h from hri),<-hL,<-hT];exact e2),(p0.drops [1,1,1,1,1,1])⟩
theorem mrgT_z {l:List (List Int)} (h:¬(mrgT l).2=0):(mrgT l).1=[]:=by
  unfold mrgT at h⊢
  split at h
  · exact absurd rfl h
  · rename_i k;rw [if_neg k]
theorem mrgB_r {l:List (List Int)} {bins:Int} (h:(mrgT l).2=0->((mrgT l).1.length:Int)=bins):mrgB l bins=mrgT l:=by
  unfold mrgB
  by_cases h0:(mrgT l).2=0
  · rw [if_pos h0,if_pos (h h0)];exact Prod.ext rfl h0.symm
  · rw [if_neg h0];exact Prod.ext (mrgT_z h0).symm rfl
theorem r21_compute (s0:Stage) (t:Task) (p:Plane) (u0:Plane) (own:Plane) (al:Option Addr) (nl kl:Nat) (l:List IL) (hs0:Stage.Ok [H] s0) (ht:Task.Ok [H] t) (hp:Plane.Ok [H] p) (hu0:Plane.Ok [H] u0) (hown:Plane.Ok [H] own) (hl:RdT encIL 1 [H] al nl kl l) (dl:∀z∈l,IL.Ok [H] z) (hS:Sat W w (H::F)):
  Calls prog 26 #[.agg (encStage s0).toArray, .agg (encTask t).toArray, .agg (encPlane p).toArray, .agg (encPlane u0).toArray, .agg (encPlane own).toArray, .slice al nl kl] w fun e w'=>∃(az:Option Addr) (nz kz:Nat) (zs:List Int) (c:Int) (G:Chunk),e= .returned (.tuple #[.slice az nz kz,I c])/\RdT Go.E.encI 1 [G] az nz kz zs/\(zs,c)=cmpT s0.v t.part (⟨t.rectX0,t.rectY0,t.rectX1,t.rectY1⟩:Rct) p.v u0.v own.v (l.map (fun z=>z.l.l))/\Sat W w' (G::H::F):=by
 have E0:=hs0.weights.ll
 have B1:=hs0.row.ll
 have Z0:=hs0.col.ll
 have O1:=hs0.x.ll
 have P1:=hs0.y.ll
 have A1:=hs0.ops.ll
 have C1:=ht.deps.ll
 have M1:=hp.pix.ll
 have D1:=hu0.pix.ll
 have R0:=hown.pix.ll
 have Q1:=hl.ll
 refine callsK 128 func26 rfl<|jCO 2 rfl<|sBx hS (encStage s0) fun _ _ z4=>sBx z4 (encTask t) fun _ _ a5=>sBx a5 (encPlane p) fun _ _ b5=>sBx b5 (encPlane u0) fun _ _ c5=>sBx c5 (encPlane own) fun _ _ t2=>jOC 4 rfl<|cutF t2 0 [5,6,7,8,9,10] (γ:=Unit) (fun _ R=>⟨[],R,0,cmpC s0.v t.part p.v u0.v own.v=(ofV s0.v (⟨p.w,p.h,p.max_⟩:Shape) (⟨u0.w,u0.h,u0.max_⟩:Shape)).2⟩) ?_ ?_
 ·refine gCO t2 8 [4,3] rfl<|cS (r21_belongs s0.kind t.part t2.flat) fun _ u2=>jOC 4 rfl<|CDn (belongP s0.kind t.part) (fun q0=>jCC 2 rfl<|cT _ (congrArg Bool.not (decide_eq_false q0))<|jCR 9 rfl<|retT [nS,I 1]<|(by have d5:=(u2.drops [0,0,0,0,0]);have e5:Sat W _ ([]::H::F):=Sat.nilc d5;exact ⟨none,0,0,[],1,_,rfl,RdT.nil (enc:=Go.E.encI) (sz:=1) fR [[]],(by exact (cmp_n (show cmpC s0.v t.part p.v u0.v own.v=1 from by unfold cmpC;exact if_neg (fun h=>q0 h.1)) (by decide)).symm),e5⟩)) fun q0=>gCO u2 3 [402] rfl<|cS (r4_valid p ⟨(hp.pix.fl 5)⟩ u2.flat) fun _ v2=>jOC 4 rfl<|CBn (planeOK p.v) (fun r0=>jCC 2 rfl<|cT _ (congrArg Bool.not (Bool.eq_false_iff.2 r0))<|jCR 9 rfl<|retT [nS,I 1]<|(by have f5:=(v2.drops [0,0,0,0,0]);have g5:Sat W _ ([]::H::F):=Sat.nilc f5;exact ⟨none,0,0,[],1,_,rfl,RdT.nil (enc:=Go.E.encI) (sz:=1) fR [[]],(by exact (cmp_n (show cmpC s0.v t.part p.v u0.v own.v=1 from by unfold cmpC;exact if_neg (fun h=>r0 h.2.1)) (by decide)).symm),g5⟩)) fun r0=>gCO v2 2 [1804] rfl<|cS (r15_two s0 (hs0.of_mem (mF 5)) v2.flat) fun _ c1=>pu1<|SD 32 (s0.kind=6/\¬s0.b=-1) (fun z1=>gOO c1 14 [4] rfl<|SE 41 s0.kind 5 (fun j1=>jOI 24 rfl<|⟨(),alB,c1,(by unfold cmpC;exact if_pos ⟨q0,r0,fun e=>absurd e z1,fun e=>absurd e j1⟩)⟩) fun j1=>gOO c1 1 [400] rfl<|gY<|cS (r4_valid own ⟨(hown.pix.fl 5)⟩ c1.flat) fun _ d1=>pu2<|SBn 45 (planeOK own.v) (fun w2=>jOR 27 rfl<|retT [nS,I 1]<|(by have h5:=(d1.drops [0,0,0,0,0]);have i5:Sat W _ ([]::H::F):=Sat.nilc h5;exact ⟨none,0,0,[],1,_,rfl,RdT.nil (enc:=Go.E.encI) (sz:=1) fR [[]],(by exact (cmp_n (show cmpC s0.v t.part p.v u0.v own.v=1 from by unfold cmpC;exact if_neg (fun h=>w2 (h.2.2.2 j1).1)) (by decide)).symm),i5⟩)) fun w2=>gOO d1 7 [0,2] rfl<|SN 52 own.w p.w (fun j5=>jOR 20 rfl<|retT [nS,I 1]<|(by have k5:=(d1.drops [0,0,0,0,0]);have l5:Sat W _ ([]::H::F):=Sat.nilc k5;exact ⟨none,0,0,[],1,_,rfl,RdT.nil (enc:=Go.E.encI) (sz:=1) fR [[]],(by exact (cmp_n (show cmpC s0.v t.part p.v u0.v own.v=1 from by unfold cmpC;exact if_neg (fun h=>by have h2:=h.2.2.2 j1;simp only [Plane.v] at h2;omega)) (by decide)).symm),l5⟩)) fun j5=>gOC d1 10 [0,2] rfl<|cN own.h p.h (fun m5=>jCI 2 rfl<|⟨(),alB,d1,(by unfold cmpC;exact if_pos ⟨q0,r0,fun e=>absurd e z1,fun _=>⟨w2,by simp only [Plane.v];omega,by simp only [Plane.v];omega⟩⟩)⟩) fun m5=>jCR 9 rfl<|retT [nS,I 1]<|(by have n5:=(d1.drops [0,0,0,0,0]);have o5:Sat W _ ([]::H::F):=Sat.nilc n5;exact ⟨none,0,0,[],1,_,rfl,RdT.nil (enc:=Go.E.encI) (sz:=1) fR [[]],(by exact (cmp_n (show cmpC s0.v t.part p.v u0.v own.v=1 from by unfold cmpC;exact if_neg (fun h=>by have h2:=h.2.2.2 j1;simp only [Plane.v] at h2;omega)) (by decide)).symm),o5⟩)) fun z1=>?_
  exact gOO c1 1 [401] rfl<|gY<|cS (r4_valid u0 ⟨(hu0.pix.fl 5)⟩ c1.flat) fun _ k1=>jOC 5 rfl<|CBn (planeOK u0.v) (fun a2=>jCR 9 rfl<|retT [nS,I 1]<|(by have p5:=(k1.drops [0,0,0,0,0]);have q5:Sat W _ ([]::H::F):=Sat.nilc p5;exact ⟨none,0,0,[],1,_,rfl,RdT.nil (enc:=Go.E.encI) (sz:=1) fR [[]],(by exact (cmp_n (show cmpC s0.v t.part p.v u0.v own.v=1 from by unfold cmpC;exact if_neg (fun h=>a2 (h.2.2.1 z1))) (by decide)).symm),q5⟩)) fun a2=>gCO k1 6 [4] rfl<|SE 41 s0.kind 5 (fun l1=>jOI 24 rfl<|⟨(),alB,k1,(by unfold cmpC;exact if_pos ⟨q0,r0,fun _=>a2,fun e=>absurd e l1⟩)⟩) fun l1=>gOO k1 1 [400] rfl<|gY<|cS (r4_valid own ⟨(hown.pix.fl 5)⟩ k1.flat) fun _ e1=>pu2<|SBn 45 (planeOK own.v) (fun x2=>jOR 27 rfl<|retT [nS,I 1]<|(by have r5:=(e1.drops [0,0,0,0,0]);have s5:Sat W _ ([]::H::F):=Sat.nilc r5;exact ⟨none,0,0,[],1,_,rfl,RdT.nil (enc:=Go.E.encI) (sz:=1) fR [[]],(by exact (cmp_n (show cmpC s0.v t.part p.v u0.v own.v=1 from by unfold cmpC;exact if_neg (fun h=>x2 (h.2.2.2 l1).1)) (by decide)).symm),s5⟩)) fun x2=>gOO e1 7 [0,2] rfl<|SN 52 own.w p.w (fun t5=>jOR 20 rfl<|retT [nS,I 1]<|(by have u5:=(e1.drops [0,0,0,0,0]);have v5:Sat W _ ([]::H::F):=Sat.nilc u5;exact ⟨none,0,0,[],1,_,rfl,RdT.nil (enc:=Go.E.encI) (sz:=1) fR [[]],(by exact (cmp_n (show cmpC s0.v t.part p.v u0.v own.v=1 from by unfold cmpC;exact if_neg (fun h=>by have h2:=h.2.2.2 l1;simp only [Plane.v] at h2;omega)) (by decide)).symm),v5⟩)) fun t5=>gOC e1 10 [0,2] rfl<|cN own.h p.h (fun w5=>jCI 2 rfl<|⟨(),alB,e1,(by unfold cmpC;exact if_pos ⟨q0,r0,fun _=>a2,fun _=>⟨x2,by simp only [Plane.v];omega,by simp only [Plane.v];omega⟩⟩)⟩) fun w5=>jCR 9 rfl<|retT [nS,I 1]<|(by have x5:=(e1.drops [0,0,0,0,0]);have y5:Sat W _ ([]::H::F):=Sat.nilc x5;exact ⟨none,0,0,[],1,_,rfl,RdT.nil (enc:=Go.E.encI) (sz:=1) fR [[]],(by exact (cmp_n (show cmpC s0.v t.part p.v u0.v own.v=1 from by unfold cmpC;exact if_neg (fun h=>by have h2:=h.2.2.2 l1;simp only [Plane.v] at h2;omega)) (by decide)).symm),y5⟩)
 rintro _ ρ _ ⟨z5,hC⟩
 refine jCC 2 rfl<|drawG z5 [2,4,5,9,10] (fb 0 4 0 18<|fb 1 2 0 4<|fb 3 1 0 4<|fn) (pS [0,1,3]<| .fk 2 9 (.fk 4 9 (.fk 5 9 (pS [6,7,8]<| .ef 9<| .ef 10<|pS [11]<| .fin) (.ef 5<|pS [6,7,8]<| .ef 10<|pS [11]<| .fin)) (.ef 4<| .ef 5<|pS [6,7,8]<| .ef 10<|pS [11]<| .fin)) (.ef 2<| .ef 4<| .ef 5<|pS [6,7,8]<| .ef 10<|pS [11]<| .fin)) fun _ u3=>qG 0 18<|qG 18 4<|qG 22 4<|qF ?_ ?_
 rotate_left
 ·refine qO rfl<|sAlloc u3 zeroValue65 fun _ _ v3=>nZ v3 [5,3,2]<|qO rfl<|cS (r17_of p ⟨(hp.pix.fl 6)⟩ v3.flat) fun _ w3=>nZ w3 [5,2]<|qO rfl<|cS (r17_of u0 ⟨(hu0.pix.fl 6)⟩ w3.flat) fun _ x3=>nZ x3 [5]<|qO rfl<|cS (r15_of s0 (⟨p.w,p.h,p.max_⟩:Shape) (⟨u0.w,u0.h,u0.max_⟩:Shape) (hs0.of_mem (mF 6)) x3.flat) fun _ a6=>nA<|qV 1<|qV 1<|qV 1<|qO rfl<|sTk a6 0 [I ((ofV s0.v (⟨p.w,p.h,p.max_⟩:Shape) (⟨u0.w,u0.h,u0.max_⟩:Shape)).1.w),I ((ofV s0.v (⟨p.w,p.h,p.max_⟩:Shape) (⟨u0.w,u0.h,u0.max_⟩:Shape)).1.h),I ((ofV s0.v (⟨p.w,p.h,p.max_⟩:Shape) (⟨u0.w,u0.h,u0.max_⟩:Shape)).1.max_)] fun _ f1=>nA<|qV 1<|qN<|jXC 7 rfl<|CN ((ofV s0.v (⟨p.w,p.h,p.max_⟩:Shape) (⟨u0.w,u0.h,u0.max_⟩:Shape)).2) 0 (fun b6=>jCR 9 rfl<|retT [nS,I ((ofV s0.v (⟨p.w,p.h,p.max_⟩:Shape) (⟨u0.w,u0.h,u0.max_⟩:Shape)).2)]<|(by have c6:=(f1.drops [0,0,0,0,0,0]);have d6:Sat W _ ([]::H::F):=Sat.nilc c6;exact ⟨none,0,0,[],((ofV s0.v (⟨p.w,p.h,p.max_⟩:Shape) (⟨u0.w,u0.h,u0.max_⟩:Shape)).2),_,rfl,RdT.nil (enc:=Go.E.encI) (sz:=1) fR [[]],(by exact (cmp_n hC om).symm),d6⟩)) fun b6=>jCC 4 rfl ?_
  have A0:cmpC s0.v t.part p.v u0.v own.v=0:=hC.trans om;have D0:=cmpC_k A0
  refine gCC f1 12 [4] rfl<|cE t.part 1 (fun e6=>gCO f1 7 [403,5,404] rfl<|cZ (r12_partial p s0.bins (⟨t.rectX0,t.rectY0,t.rectX1,t.rectY1⟩:Rct) ⟨(hp.pix.fl 6)⟩ f1.flat)<|(by rintro _ _ ⟨y3,z3,a4,f6,b4,_,rfl,y2,g6,h6⟩;have i6:=h6.unflat1;have J1:=y2.len;have X0:=y2.le;exact jOR 9 rfl<|retT [.slice y3 z3 a4,I b4]<|⟨y3,z3,a4,f6,b4,_,rfl,y2,(by rw [cmp_1 A0 om];exact g6),(i6.drops [1,1,1,1,1,1])⟩)) fun e6=>?_
  refine jCC 6 rfl<|cE t.part 2 (fun k6=>jCO 3 rfl<|cZ (r12_merge al nl kl l (hl.fl 6) (fun z hz=>(dl z hz).of_mem (mF 6)) f1.flat)<|(by rintro _ _ ⟨b2,m1,c2,n1,i0,_,rfl,d2,j0,l6⟩;have e2:=l6.unflat1;have K1:=d2.len;have Y0:=d2.le;exact jOO 13 rfl<|SE 93 i0 0 (fun m6=>jOR 22 rfl<|retT [.slice b2 m1 c2,I i0]<|(by have B0:(mrgT (l.map (fun z=>z.l.l))).1=n1:=(congrArg Prod.fst j0).symm;have C0:(mrgT (l.map (fun z=>z.l.l))).2=i0:=(congrArg Prod.snd j0).symm;exact ⟨b2,m1,c2,n1,i0,_,rfl,d2,(by rw [cmp_2 A0 om,mrgB_r (fun h=>by rw [C0] at h;rw [B0];simp only [Stage.v];omega)];exact j0),(e2.drops [1,1,1,1,1,1])⟩)) fun m6=>gOC e2 8 [6] rfl<|cN (m1:Int) s0.bins (fun o6=>jCR 13 rfl<|retT [.slice b2 m1 c2,I i0]<|(by have B0:(mrgT (l.map (fun z=>z.l.l))).1=n1:=(congrArg Prod.fst j0).symm;have C0:(mrgT (l.map (fun z=>z.l.l))).2=i0:=(congrArg Prod.snd j0).symm;exact ⟨b2,m1,c2,n1,i0,_,rfl,d2,(by rw [cmp_2 A0 om,mrgB_r (fun h=>by rw [C0] at h;rw [B0];simp only [Stage.v];omega)];exact j0),(e2.drops [1,1,1,1,1,1])⟩)) fun o6=>jCR 10 rfl<|retT [nS,I 8]<|(by have B0:(mrgT (l.map (fun z=>z.l.l))).1=n1:=(congrArg Prod.fst j0).symm;have C0:(mrgT (l.map (fun z=>z.l.l))).2=i0:=(congrArg Prod.snd j0).symm;have q6:=(e2.drops [0,0,0,0,0,0,0]);have r6:Sat W _ ([]::H::F):=Sat.nilc q6;exact ⟨none,0,0,[],8,_,rfl,RdT.nil (enc:=Go.E.encI) (sz:=1) fR [[]],(by rw [cmp_2 A0 om];unfold mrgB;rw [if_pos (by rw [C0];omega),if_neg (by rw [B0];simp only [Stage.v];omega)]),r6⟩))) fun k6=>?_
  refine jCO 6 rfl<|sAlloc f1 zeroValue38 fun _ _ s6=>sTk s6 0 [I 0,I 0,I 0,nS] fun _ o1=>gOC o1 11 [6] rfl<|cE s0.kind 5 (fun t6=>gCO o1 5 [404,402,405] rfl<|cZ (r21_sums p own (⟨t.rectX0,t.rectY0,t.rectX1,t.rectY1⟩:Rct) ⟨(hp.pix.fl 7)⟩ ⟨(hown.pix.fl 7)⟩ D0.2.1 (D0.2.2.2.1 (by simp only [Stage.v];omega)).1 o1.flat)<|(by rintro _ _ ⟨a0,t0,_,rfl,z2,c4,u6⟩;have v6:=u6.unflat1;have P0:=z2.pix.len;have I0:=z2.pix.le;exact pu3<|sTk v6 1 (encPlane a0) fun _ a3=>jOC 10 rfl<|CN t0 0 (fun w6=>jCR 9 rfl<|retT [nS,I t0]<|(by have x6:=(a3.drops [0,0,0,0,0,0,0,0]);have y6:Sat W _ ([]::H::F):=Sat.nilc x6;exact ⟨none,0,0,[],t0,_,rfl,RdT.nil (enc:=Go.E.encI) (sz:=1) fR [[]],(by rw [cmp_0 A0 om om,show tilT s0.v p.v u0.v own.v (⟨t.rectX0,t.rectY0,t.rectX1,t.rectY1⟩:Rct)=(a0.v,t0) from by unfold tilT;rw [if_pos (show s0.v.kind=5 by simp only [Stage.v];omega)];exact c4.symm];exact (if_neg (show ¬t0=0 by omega)).symm),y6⟩)) fun w6=>gCR a3 11 [1] rfl<|retT [.slice a0.pix.a a0.pix.n a0.pix.k,I 0]<|⟨a0.pix.a,a0.pix.n,a0.pix.k,a0.pix.l,0,_,rfl,z2.pix,(by rw [cmp_0 A0 om om,show tilT s0.v p.v u0.v own.v (⟨t.rectX0,t.rectY0,t.rectX1,t.rectY1⟩:Rct)=(a0.v,t0) from by unfold tilT;rw [if_pos (show s0.v.kind=5 by simp only [Stage.v];omega)];exact c4.symm];exact (if_pos (show t0=0 by omega)).symm),(a3.drops [1,1,1,1,1,1,1])⟩)) fun t6=>gCO o1 6 [1806,404,403,405] rfl<|cZ (r18_part s0 p u0 (⟨t.rectX0,t.rectY0,t.rectX1,t.rectY1⟩:Rct) (hs0.of_mem (mF 7)) ⟨(hp.pix.fl 7)⟩ ⟨(hu0.pix.fl 7)⟩ o1.flat) ?_
  rintro _ _ ⟨b0,v0,_,rfl,b3,d4,a7⟩
  have b7:=a7.unflat1
  have Q0:=b3.pix.ll
  exact pu3<|sTk b7 1 (encPlane b0) fun _ c3=>jOC 10 rfl<|CN v0 0 (fun c7=>jCR 9 rfl<|retT [nS,I v0]<|(by have d7:=(c3.drops [0,0,0,0,0,0,0,0]);have e7:Sat W _ ([]::H::F):=Sat.nilc d7;exact ⟨none,0,0,[],v0,_,rfl,RdT.nil (enc:=Go.E.encI) (sz:=1) fR [[]],(by rw [cmp_0 A0 om om,show tilT s0.v p.v u0.v own.v (⟨t.rectX0,t.rectY0,t.rectX1,t.rectY1⟩:Rct)=(b0.v,v0) from by unfold tilT;rw [if_neg (show ¬s0.v.kind=5 by simp only [Stage.v];omega)];exact d4.symm];exact (if_neg (show ¬v0=0 by omega)).symm),e7⟩)) fun c7=>gCR c3 11 [1] rfl<|retT [.slice b0.pix.a b0.pix.n b0.pix.k,I 0]<|⟨b0.pix.a,b0.pix.n,b0.pix.k,b0.pix.l,0,_,rfl,b3.pix,(by rw [cmp_0 A0 om om,show tilT s0.v p.v u0.v own.v (⟨t.rectX0,t.rectY0,t.rectX1,t.rectY1⟩:Rct)=(b0.v,v0) from by unfold tilT;rw [if_neg (show ¬s0.v.kind=5 by simp only [Stage.v];omega)];exact d4.symm];exact (if_pos (show v0=0 by omega)).symm),(c3.drops [1,1,1,1,1,1,1])⟩
 refine qO rfl<|cS (r17_of p ⟨(hp.pix.fl 5)⟩ u3.flat) fun _ d3=>nZ d3 [4,1]<|qF ?_ ?_
 rotate_left
 ·refine qO rfl<|sAlloc d3 zeroValue65 fun _ _ e4=>nZ e4 [5,2]<|qO rfl<|cS (r17_of u0 ⟨(hu0.pix.fl 6)⟩ e4.flat) fun _ f4=>nZ f4 [5]<|qO rfl<|cS (r15_of s0 (⟨p.w,p.h,p.max_⟩:Shape) (⟨u0.w,u0.h,u0.max_⟩:Shape) (hs0.of_mem (mF 6)) f4.flat) fun _ g7=>nA<|qV 1<|qV 1<|qV 1<|qO rfl<|sTk g7 0 [I ((ofV s0.v (⟨p.w,p.h,p.max_⟩:Shape) (⟨u0.w,u0.h,u0.max_⟩:Shape)).1.w),I ((ofV s0.v (⟨p.w,p.h,p.max_⟩:Shape) (⟨u0.w,u0.h,u0.max_⟩:Shape)).1.h),I ((ofV s0.v (⟨p.w,p.h,p.max_⟩:Shape) (⟨u0.w,u0.h,u0.max_⟩:Shape)).1.max_)] fun _ g1=>nA<|qV 1<|qN<|jXC 7 rfl<|CN ((ofV s0.v (⟨p.w,p.h,p.max_⟩:Shape) (⟨u0.w,u0.h,u0.max_⟩:Shape)).2) 0 (fun h7=>jCR 9 rfl<|retT [nS,I ((ofV s0.v (⟨p.w,p.h,p.max_⟩:Shape) (⟨u0.w,u0.h,u0.max_⟩:Shape)).2)]<|(by have i7:=(g1.drops [0,0,0,0,0,0]);have j7:Sat W _ ([]::H::F):=Sat.nilc i7;exact ⟨none,0,0,[],((ofV s0.v (⟨p.w,p.h,p.max_⟩:Shape) (⟨u0.w,u0.h,u0.max_⟩:Shape)).2),_,rfl,RdT.nil (enc:=Go.E.encI) (sz:=1) fR [[]],(by exact (cmp_n hC om).symm),j7⟩)) fun h7=>jCC 4 rfl ?_
  have A0:cmpC s0.v t.part p.v u0.v own.v=0:=hC.trans om;have D0:=cmpC_k A0
  refine gCC g1 12 [4] rfl<|cE t.part 1 (fun k7=>gCO g1 7 [403,5,404] rfl<|cZ (r12_partial p s0.bins (⟨t.rectX0,t.rectY0,t.rectX1,t.rectY1⟩:Rct) ⟨(hp.pix.fl 6)⟩ g1.flat)<|(by rintro _ _ ⟨g4,h4,i4,l7,j4,_,rfl,e3,m7,n7⟩;have o7:=n7.unflat1;have H1:=e3.len;have V0:=e3.le;exact jOR 9 rfl<|retT [.slice g4 h4 i4,I j4]<|⟨g4,h4,i4,l7,j4,_,rfl,e3,(by rw [cmp_1 A0 om];exact m7),(o7.drops [1,1,1,1,1,1])⟩)) fun k7=>?_
  refine jCC 6 rfl<|cE t.part 2 (fun q7=>jCO 3 rfl<|cZ (r12_merge al nl kl l (hl.fl 6) (fun z hz=>(dl z hz).of_mem (mF 6)) g1.flat)<|(by rintro _ _ ⟨f2,q1,g2,r1,k0,_,rfl,i2,l0,r7⟩;have j2:=r7.unflat1;have I1:=i2.len;have W0:=i2.le;exact jOO 13 rfl<|SE 93 k0 0 (fun s7=>jOR 22 rfl<|retT [.slice f2 q1 g2,I k0]<|(by have B0:(mrgT (l.map (fun z=>z.l.l))).1=r1:=(congrArg Prod.fst l0).symm;have C0:(mrgT (l.map (fun z=>z.l.l))).2=k0:=(congrArg Prod.snd l0).symm;exact ⟨f2,q1,g2,r1,k0,_,rfl,i2,(by rw [cmp_2 A0 om,mrgB_r (fun h=>by rw [C0] at h;rw [B0];simp only [Stage.v];omega)];exact l0),(j2.drops [1,1,1,1,1,1])⟩)) fun s7=>gOC j2 8 [6] rfl<|cN (q1:Int) s0.bins (fun u7=>jCR 13 rfl<|retT [.slice f2 q1 g2,I k0]<|(by have B0:(mrgT (l.map (fun z=>z.l.l))).1=r1:=(congrArg Prod.fst l0).symm;have C0:(mrgT (l.map (fun z=>z.l.l))).2=k0:=(congrArg Prod.snd l0).symm;exact ⟨f2,q1,g2,r1,k0,_,rfl,i2,(by rw [cmp_2 A0 om,mrgB_r (fun h=>by rw [C0] at h;rw [B0];simp only [Stage.v];omega)];exact l0),(j2.drops [1,1,1,1,1,1])⟩)) fun u7=>jCR 10 rfl<|retT [nS,I 8]<|(by have B0:(mrgT (l.map (fun z=>z.l.l))).1=r1:=(congrArg Prod.fst l0).symm;have C0:(mrgT (l.map (fun z=>z.l.l))).2=k0:=(congrArg Prod.snd l0).symm;have w7:=(j2.drops [0,0,0,0,0,0,0]);have x7:Sat W _ ([]::H::F):=Sat.nilc w7;exact ⟨none,0,0,[],8,_,rfl,RdT.nil (enc:=Go.E.encI) (sz:=1) fR [[]],(by rw [cmp_2 A0 om];unfold mrgB;rw [if_pos (by rw [C0];omega),if_neg (by rw [B0];simp only [Stage.v];omega)]),x7⟩))) fun q7=>?_
  refine jCO 6 rfl<|sAlloc g1 zeroValue38 fun _ _ y7=>sTk y7 0 [I 0,I 0,I 0,nS] fun _ s1=>gOC s1 11 [6] rfl<|cE s0.kind 5 (fun z7=>gCO s1 5 [404,402,405] rfl<|cZ (r21_sums p own (⟨t.rectX0,t.rectY0,t.rectX1,t.rectY1⟩:Rct) ⟨(hp.pix.fl 7)⟩ ⟨(hown.pix.fl 7)⟩ D0.2.1 (D0.2.2.2.1 (by simp only [Stage.v];omega)).1 s1.flat)<|(by rintro _ _ ⟨c0,w0,_,rfl,f3,k4,a8⟩;have b8:=a8.unflat1;have N0:=f3.pix.len;have H0:=f3.pix.le;exact pu3<|sTk b8 1 (encPlane c0) fun _ g3=>jOC 10 rfl<|CN w0 0 (fun c8=>jCR 9 rfl<|retT [nS,I w0]<|(by have d8:=(g3.drops [0,0,0,0,0,0,0,0]);have e8:Sat W _ ([]::H::F):=Sat.nilc d8;exact ⟨none,0,0,[],w0,_,rfl,RdT.nil (enc:=Go.E.encI) (sz:=1) fR [[]],(by rw [cmp_0 A0 om om,show tilT s0.v p.v u0.v own.v (⟨t.rectX0,t.rectY0,t.rectX1,t.rectY1⟩:Rct)=(c0.v,w0) from by unfold tilT;rw [if_pos (show s0.v.kind=5 by simp only [Stage.v];omega)];exact k4.symm];exact (if_neg (show ¬w0=0 by omega)).symm),e8⟩)) fun c8=>gCR g3 11 [1] rfl<|retT [.slice c0.pix.a c0.pix.n c0.pix.k,I 0]<|⟨c0.pix.a,c0.pix.n,c0.pix.k,c0.pix.l,0,_,rfl,f3.pix,(by rw [cmp_0 A0 om om,show tilT s0.v p.v u0.v own.v (⟨t.rectX0,t.rectY0,t.rectX1,t.rectY1⟩:Rct)=(c0.v,w0) from by unfold tilT;rw [if_pos (show s0.v.kind=5 by simp only [Stage.v];omega)];exact k4.symm];exact (if_pos (show w0=0 by omega)).symm),(g3.drops [1,1,1,1,1,1,1])⟩)) fun z7=>gCO s1 6 [1806,404,403,405] rfl<|cZ (r18_part s0 p u0 (⟨t.rectX0,t.rectY0,t.rectX1,t.rectY1⟩:Rct) (hs0.of_mem (mF 7)) ⟨(hp.pix.fl 7)⟩ ⟨(hu0.pix.fl 7)⟩ s1.flat) ?_
  rintro _ _ ⟨d0,x0,_,rfl,h3,l4,g8⟩
  have h8:=g8.unflat1
  have O0:=h3.pix.ll
  exact pu3<|sTk h8 1 (encPlane d0) fun _ i3=>jOC 10 rfl<|CN x0 0 (fun i8=>jCR 9 rfl<|retT [nS,I x0]<|(by have j8:=(i3.drops [0,0,0,0,0,0,0,0]);have k8:Sat W _ ([]::H::F):=Sat.nilc j8;exact ⟨none,0,0,[],x0,_,rfl,RdT.nil (enc:=Go.E.encI) (sz:=1) fR [[]],(by rw [cmp_0 A0 om om,show tilT s0.v p.v u0.v own.v (⟨t.rectX0,t.rectY0,t.rectX1,t.rectY1⟩:Rct)=(d0.v,x0) from by unfold tilT;rw [if_neg (show ¬s0.v.kind=5 by simp only [Stage.v];omega)];exact l4.symm];exact (if_neg (show ¬x0=0 by omega)).symm),k8⟩)) fun i8=>gCR i3 11 [1] rfl<|retT [.slice d0.pix.a d0.pix.n d0.pix.k,I 0]<|⟨d0.pix.a,d0.pix.n,d0.pix.k,d0.pix.l,0,_,rfl,h3.pix,(by rw [cmp_0 A0 om om,show tilT s0.v p.v u0.v own.v (⟨t.rectX0,t.rectY0,t.rectX1,t.rectY1⟩:Rct)=(d0.v,x0) from by unfold tilT;rw [if_neg (show ¬s0.v.kind=5 by simp only [Stage.v];omega)];exact l4.symm];exact (if_pos (show x0=0 by omega)).symm),(i3.drops [1,1,1,1,1,1,1])⟩
 refine qO rfl<|cS (r17_of u0 ⟨(hu0.pix.fl 5)⟩ d3.flat) fun _ j3=>nZ j3 [4]<|qF ?_ ?_
 ·refine qO rfl<|cS (r15_of s0 (⟨p.w,p.h,p.max_⟩:Shape) (⟨u0.w,u0.h,u0.max_⟩:Shape) (hs0.of_mem (mF 5)) j3.flat) fun _ m8=>nA<|qV 1<|qV 1<|qV 1<|qO rfl<|sAlloc m8 zeroValue65 fun _ _ n8=>nA<|qO rfl<|sTk n8 0 [I ((ofV s0.v (⟨p.w,p.h,p.max_⟩:Shape) (⟨u0.w,u0.h,u0.max_⟩:Shape)).1.w),I ((ofV s0.v (⟨p.w,p.h,p.max_⟩:Shape) (⟨u0.w,u0.h,u0.max_⟩:Shape)).1.h),I ((ofV s0.v (⟨p.w,p.h,p.max_⟩:Shape) (⟨u0.w,u0.h,u0.max_⟩:Shape)).1.max_)] fun _ h1=>nA<|qV 1<|qN<|jXC 7 rfl<|CN ((ofV s0.v (⟨p.w,p.h,p.max_⟩:Shape) (⟨u0.w,u0.h,u0.max_⟩:Shape)).2) 0 (fun o8=>jCR 9 rfl<|retT [nS,I ((ofV s0.v (⟨p.w,p.h,p.max_⟩:Shape) (⟨u0.w,u0.h,u0.max_⟩:Shape)).2)]<|(by have p8:=(h1.drops [0,0,0,0,0,0]);have q8:Sat W _ ([]::H::F):=Sat.nilc p8;exact ⟨none,0,0,[],((ofV s0.v (⟨p.w,p.h,p.max_⟩:Shape) (⟨u0.w,u0.h,u0.max_⟩:Shape)).2),_,rfl,RdT.nil (enc:=Go.E.encI) (sz:=1) fR [[]],(by exact (cmp_n hC om).symm),q8⟩)) fun o8=>jCC 4 rfl ?_
  have A0:cmpC s0.v t.part p.v u0.v own.v=0:=hC.trans om;have D0:=cmpC_k A0
  refine gCC h1 12 [4] rfl<|cE t.part 1 (fun r8=>gCO h1 7 [403,5,404] rfl<|cZ (r12_partial p s0.bins (⟨t.rectX0,t.rectY0,t.rectX1,t.rectY1⟩:Rct) ⟨(hp.pix.fl 6)⟩ h1.flat)<|(by rintro _ _ ⟨m4,n4,o4,s8,p4,_,rfl,k3,t8,u8⟩;have v8:=u8.unflat1;have N1:=k3.len;have L1:=k3.le;exact jOR 9 rfl<|retT [.slice m4 n4 o4,I p4]<|⟨m4,n4,o4,s8,p4,_,rfl,k3,(by rw [cmp_1 A0 om];exact t8),(v8.drops [1,1,1,1,1,1])⟩)) fun r8=>?_
  refine jCC 6 rfl<|cE t.part 2 (fun x8=>jCO 3 rfl<|cZ (r12_merge al nl kl l (hl.fl 6) (fun z hz=>(dl z hz).of_mem (mF 6)) h1.flat)<|(by rintro _ _ ⟨k2,t1,l2,u1,m0,_,rfl,m2,n0,y8⟩;have n2:=y8.unflat1;have E1:=m2.len;have S0:=m2.le;exact jOO 13 rfl<|SE 93 m0 0 (fun z8=>jOR 22 rfl<|retT [.slice k2 t1 l2,I m0]<|(by have B0:(mrgT (l.map (fun z=>z.l.l))).1=u1:=(congrArg Prod.fst n0).symm;have C0:(mrgT (l.map (fun z=>z.l.l))).2=m0:=(congrArg Prod.snd n0).symm;exact ⟨k2,t1,l2,u1,m0,_,rfl,m2,(by rw [cmp_2 A0 om,mrgB_r (fun h=>by rw [C0] at h;rw [B0];simp only [Stage.v];omega)];exact n0),(n2.drops [1,1,1,1,1,1])⟩)) fun z8=>gOC n2 8 [6] rfl<|cN (t1:Int) s0.bins (fun b9=>jCR 13 rfl<|retT [.slice k2 t1 l2,I m0]<|(by have B0:(mrgT (l.map (fun z=>z.l.l))).1=u1:=(congrArg Prod.fst n0).symm;have C0:(mrgT (l.map (fun z=>z.l.l))).2=m0:=(congrArg Prod.snd n0).symm;exact ⟨k2,t1,l2,u1,m0,_,rfl,m2,(by rw [cmp_2 A0 om,mrgB_r (fun h=>by rw [C0] at h;rw [B0];simp only [Stage.v];omega)];exact n0),(n2.drops [1,1,1,1,1,1])⟩)) fun b9=>jCR 10 rfl<|retT [nS,I 8]<|(by have B0:(mrgT (l.map (fun z=>z.l.l))).1=u1:=(congrArg Prod.fst n0).symm;have C0:(mrgT (l.map (fun z=>z.l.l))).2=m0:=(congrArg Prod.snd n0).symm;have d9:=(n2.drops [0,0,0,0,0,0,0]);have e9:Sat W _ ([]::H::F):=Sat.nilc d9;exact ⟨none,0,0,[],8,_,rfl,RdT.nil (enc:=Go.E.encI) (sz:=1) fR [[]],(by rw [cmp_2 A0 om];unfold mrgB;rw [if_pos (by rw [C0];omega),if_neg (by rw [B0];simp only [Stage.v];omega)]),e9⟩))) fun x8=>?_
  refine jCO 6 rfl<|sAlloc h1 zeroValue38 fun _ _ f9=>sTk f9 0 [I 0,I 0,I 0,nS] fun _ v1=>gOC v1 11 [6] rfl<|cE s0.kind 5 (fun g9=>gCO v1 5 [404,402,405] rfl<|cZ (r21_sums p own (⟨t.rectX0,t.rectY0,t.rectX1,t.rectY1⟩:Rct) ⟨(hp.pix.fl 7)⟩ ⟨(hown.pix.fl 7)⟩ D0.2.1 (D0.2.2.2.1 (by simp only [Stage.v];omega)).1 v1.flat)<|(by rintro _ _ ⟨e0,y0,_,rfl,l3,q4,h9⟩;have i9:=h9.unflat1;have J0:=l3.pix.len;have F0:=l3.pix.le;exact pu3<|sTk i9 1 (encPlane e0) fun _ m3=>jOC 10 rfl<|CN y0 0 (fun j9=>jCR 9 rfl<|retT [nS,I y0]<|(by have k9:=(m3.drops [0,0,0,0,0,0,0,0]);have l9:Sat W _ ([]::H::F):=Sat.nilc k9;exact ⟨none,0,0,[],y0,_,rfl,RdT.nil (enc:=Go.E.encI) (sz:=1) fR [[]],(by rw [cmp_0 A0 om om,show tilT s0.v p.v u0.v own.v (⟨t.rectX0,t.rectY0,t.rectX1,t.rectY1⟩:Rct)=(e0.v,y0) from by unfold tilT;rw [if_pos (show s0.v.kind=5 by simp only [Stage.v];omega)];exact q4.symm];exact (if_neg (show ¬y0=0 by omega)).symm),l9⟩)) fun j9=>gCR m3 11 [1] rfl<|retT [.slice e0.pix.a e0.pix.n e0.pix.k,I 0]<|⟨e0.pix.a,e0.pix.n,e0.pix.k,e0.pix.l,0,_,rfl,l3.pix,(by rw [cmp_0 A0 om om,show tilT s0.v p.v u0.v own.v (⟨t.rectX0,t.rectY0,t.rectX1,t.rectY1⟩:Rct)=(e0.v,y0) from by unfold tilT;rw [if_pos (show s0.v.kind=5 by simp only [Stage.v];omega)];exact q4.symm];exact (if_pos (show y0=0 by omega)).symm),(m3.drops [1,1,1,1,1,1,1])⟩)) fun g9=>gCO v1 6 [1806,404,403,405] rfl<|cZ (r18_part s0 p u0 (⟨t.rectX0,t.rectY0,t.rectX1,t.rectY1⟩:Rct) (hs0.of_mem (mF 7)) ⟨(hp.pix.fl 7)⟩ ⟨(hu0.pix.fl 7)⟩ v1.flat) ?_
  rintro _ _ ⟨f0,z0,_,rfl,n3,r4,n9⟩
  have o9:=n9.unflat1
  have K0:=n3.pix.ll
  exact pu3<|sTk o9 1 (encPlane f0) fun _ o3=>jOC 10 rfl<|CN z0 0 (fun p9=>jCR 9 rfl<|retT [nS,I z0]<|(by have q9:=(o3.drops [0,0,0,0,0,0,0,0]);have r9:Sat W _ ([]::H::F):=Sat.nilc q9;exact ⟨none,0,0,[],z0,_,rfl,RdT.nil (enc:=Go.E.encI) (sz:=1) fR [[]],(by rw [cmp_0 A0 om om,show tilT s0.v p.v u0.v own.v (⟨t.rectX0,t.rectY0,t.rectX1,t.rectY1⟩:Rct)=(f0.v,z0) from by unfold tilT;rw [if_neg (show ¬s0.v.kind=5 by simp only [Stage.v];omega)];exact r4.symm];exact (if_neg (show ¬z0=0 by omega)).symm),r9⟩)) fun p9=>gCR o3 11 [1] rfl<|retT [.slice f0.pix.a f0.pix.n f0.pix.k,I 0]<|⟨f0.pix.a,f0.pix.n,f0.pix.k,f0.pix.l,0,_,rfl,n3.pix,(by rw [cmp_0 A0 om om,show tilT s0.v p.v u0.v own.v (⟨t.rectX0,t.rectY0,t.rectX1,t.rectY1⟩:Rct)=(f0.v,z0) from by unfold tilT;rw [if_neg (show ¬s0.v.kind=5 by simp only [Stage.v];omega)];exact r4.symm];exact (if_pos (show z0=0 by omega)).symm),(o3.drops [1,1,1,1,1,1,1])⟩
 refine qO rfl<|sAlloc j3 zeroValue65 fun _ _ s4=>nZ s4 [5]<|qO rfl<|cS (r15_of s0 (⟨p.w,p.h,p.max_⟩:Shape) (⟨u0.w,u0.h,u0.max_⟩:Shape) (hs0.of_mem (mF 6)) s4.flat) fun _ t9=>nA<|qV 1<|qV 1<|qV 1<|qO rfl<|sTk t9 0 [I ((ofV s0.v (⟨p.w,p.h,p.max_⟩:Shape) (⟨u0.w,u0.h,u0.max_⟩:Shape)).1.w),I ((ofV s0.v (⟨p.w,p.h,p.max_⟩:Shape) (⟨u0.w,u0.h,u0.max_⟩:Shape)).1.h),I ((ofV s0.v (⟨p.w,p.h,p.max_⟩:Shape) (⟨u0.w,u0.h,u0.max_⟩:Shape)).1.max_)] fun _ i1=>nA<|qV 1<|qN<|jXC 7 rfl<|CN ((ofV s0.v (⟨p.w,p.h,p.max_⟩:Shape) (⟨u0.w,u0.h,u0.max_⟩:Shape)).2) 0 (fun u9=>jCR 9 rfl<|retT [nS,I ((ofV s0.v (⟨p.w,p.h,p.max_⟩:Shape) (⟨u0.w,u0.h,u0.max_⟩:Shape)).2)]<|(by have v9:=(i1.drops [0,0,0,0,0,0]);have w9:Sat W _ ([]::H::F):=Sat.nilc v9;exact ⟨none,0,0,[],((ofV s0.v (⟨p.w,p.h,p.max_⟩:Shape) (⟨u0.w,u0.h,u0.max_⟩:Shape)).2),_,rfl,RdT.nil (enc:=Go.E.encI) (sz:=1) fR [[]],(by exact (cmp_n hC om).symm),w9⟩)) fun u9=>jCC 4 rfl ?_
 have A0:cmpC s0.v t.part p.v u0.v own.v=0:=hC.trans om;have D0:=cmpC_k A0
 refine gCC i1 12 [4] rfl<|cE t.part 1 (fun x9=>gCO i1 7 [403,5,404] rfl<|cZ (r12_partial p s0.bins (⟨t.rectX0,t.rectY0,t.rectX1,t.rectY1⟩:Rct) ⟨(hp.pix.fl 6)⟩ i1.flat)<|(by rintro _ _ ⟨t4,u4,v4,y9,w4,_,rfl,p3,z9,aa⟩;have ba:=aa.unflat1;have F1:=p3.len;have T0:=p3.le;exact jOR 9 rfl<|retT [.slice t4 u4 v4,I w4]<|⟨t4,u4,v4,y9,w4,_,rfl,p3,(by rw [cmp_1 A0 om];exact z9),(ba.drops [1,1,1,1,1,1])⟩)) fun x9=>?_
 refine jCC 6 rfl<|cE t.part 2 (fun da=>jCO 3 rfl<|cZ (r12_merge al nl kl l (hl.fl 6) (fun z hz=>(dl z hz).of_mem (mF 6)) i1.flat)<|(by rintro _ _ ⟨o2,w1,q2,x1,o0,_,rfl,r2,p0,ea⟩;have s2:=ea.unflat1;have G1:=r2.len;have U0:=r2.le;exact jOO 13 rfl<|SE 93 o0 0 (fun fa=>jOR 22 rfl<|retT [.slice o2 w1 q2,I o0]<|(by have B0:(mrgT (l.map (fun z=>z.l.l))).1=x1:=(congrArg Prod.fst p0).symm;have C0:(mrgT (l.map (fun z=>z.l.l))).2=o0:=(congrArg Prod.snd p0).symm;exact ⟨o2,w1,q2,x1,o0,_,rfl,r2,(by rw [cmp_2 A0 om,mrgB_r (fun h=>by rw [C0] at h;rw [B0];simp only [Stage.v];omega)];exact p0),(s2.drops [1,1,1,1,1,1])⟩)) fun fa=>gOC s2 8 [6] rfl<|cN (w1:Int) s0.bins (fun ha=>jCR 13 rfl<|retT [.slice o2 w1 q2,I o0]<|(by have B0:(mrgT (l.map (fun z=>z.l.l))).1=x1:=(congrArg Prod.fst p0).symm;have C0:(mrgT (l.map (fun z=>z.l.l))).2=o0:=(congrArg Prod.snd p0).symm;exact ⟨o2,w1,q2,x1,o0,_,rfl,r2,(by rw [cmp_2 A0 om,mrgB_r (fun h=>by rw [C0] at h;rw [B0];simp only [Stage.v];omega)];exact p0),(s2.drops [1,1,1,1,1,1])⟩)) fun ha=>jCR 10 rfl<|retT [nS,I 8]<|(by have B0:(mrgT (l.map (fun z=>z.l.l))).1=x1:=(congrArg Prod.fst p0).symm;have C0:(mrgT (l.map (fun z=>z.l.l))).2=o0:=(congrArg Prod.snd p0).symm;have ja:=(s2.drops [0,0,0,0,0,0,0]);have ka:Sat W _ ([]::H::F):=Sat.nilc ja;exact ⟨none,0,0,[],8,_,rfl,RdT.nil (enc:=Go.E.encI) (sz:=1) fR [[]],(by rw [cmp_2 A0 om];unfold mrgB;rw [if_pos (by rw [C0];omega),if_neg (by rw [B0];simp only [Stage.v];omega)]),ka⟩))) fun da=>?_
 refine jCO 6 rfl<|sAlloc i1 zeroValue38 fun _ _ la=>sTk la 0 [I 0,I 0,I 0,nS] fun _ y1=>gOC y1 11 [6] rfl<|cE s0.kind 5 (fun ma=>gCO y1 5 [404,402,405] rfl<|cZ (r21_sums p own (⟨t.rectX0,t.rectY0,t.rectX1,t.rectY1⟩:Rct) ⟨(hp.pix.fl 7)⟩ ⟨(hown.pix.fl 7)⟩ D0.2.1 (D0.2.2.2.1 (by simp only [Stage.v];omega)).1 y1.flat)<|(by rintro _ _ ⟨g0,a1,_,rfl,q3,x4,na⟩;have oa:=na.unflat1;have L0:=q3.pix.len;have G0:=q3.pix.le;exact pu3<|sTk oa 1 (encPlane g0) fun _ r3=>jOC 10 rfl<|CN a1 0 (fun pa=>jCR 9 rfl<|retT [nS,I a1]<|(by have qa:=(r3.drops [0,0,0,0,0,0,0,0]);have ra:Sat W _ ([]::H::F):=Sat.nilc qa;exact ⟨none,0,0,[],a1,_,rfl,RdT.nil (enc:=Go.E.encI) (sz:=1) fR [[]],(by rw [cmp_0 A0 om om,show tilT s0.v p.v u0.v own.v (⟨t.rectX0,t.rectY0,t.rectX1,t.rectY1⟩:Rct)=(g0.v,a1) from by unfold tilT;rw [if_pos (show s0.v.kind=5 by simp only [Stage.v];omega)];exact x4.symm];exact (if_neg (show ¬a1=0 by omega)).symm),ra⟩)) fun pa=>gCR r3 11 [1] rfl<|retT [.slice g0.pix.a g0.pix.n g0.pix.k,I 0]<|⟨g0.pix.a,g0.pix.n,g0.pix.k,g0.pix.l,0,_,rfl,q3.pix,(by rw [cmp_0 A0 om om,show tilT s0.v p.v u0.v own.v (⟨t.rectX0,t.rectY0,t.rectX1,t.rectY1⟩:Rct)=(g0.v,a1) from by unfold tilT;rw [if_pos (show s0.v.kind=5 by simp only [Stage.v];omega)];exact x4.symm];exact (if_pos (show a1=0 by omega)).symm),(r3.drops [1,1,1,1,1,1,1])⟩)) fun ma=>gCO y1 6 [1806,404,403,405] rfl<|cZ (r18_part s0 p u0 (⟨t.rectX0,t.rectY0,t.rectX1,t.rectY1⟩:Rct) (hs0.of_mem (mF 7)) ⟨(hp.pix.fl 7)⟩ ⟨(hu0.pix.fl 7)⟩ y1.flat) ?_
 rintro _ _ ⟨h0,b1,_,rfl,s3,y4,ta⟩
 have ua:=ta.unflat1
 have M0:=s3.pix.ll
 exact pu3<|sTk ua 1 (encPlane h0) fun _ t3=>jOC 10 rfl<|CN b1 0 (fun va=>jCR 9 rfl<|retT [nS,I b1]<|(by have wa:=(t3.drops [0,0,0,0,0,0,0,0]);have xa:Sat W _ ([]::H::F):=Sat.nilc wa;exact ⟨none,0,0,[],b1,_,rfl,RdT.nil (enc:=Go.E.encI) (sz:=1) fR [[]],(by rw [cmp_0 A0 om om,show tilT s0.v p.v u0.v own.v (⟨t.rectX0,t.rectY0,t.rectX1,t.rectY1⟩:Rct)=(h0.v,b1) from by unfold tilT;rw [if_neg (show ¬s0.v.kind=5 by simp only [Stage.v];omega)];exact y4.symm];exact (if_neg (show ¬b1=0 by omega)).symm),xa⟩)) fun va=>gCR t3 11 [1] rfl<|retT [.slice h0.pix.a h0.pix.n h0.pix.k,I 0]<|⟨h0.pix.a,h0.pix.n,h0.pix.k,h0.pix.l,0,_,rfl,s3.pix,(by rw [cmp_0 A0 om om,show tilT s0.v p.v u0.v own.v (⟨t.rectX0,t.rectY0,t.rectX1,t.rectY1⟩:Rct)=(h0.v,b1) from by unfold tilT;rw [if_neg (show ¬s0.v.kind=5 by simp only [Stage.v];omega)];exact y4.symm];exact (if_pos (show b1=0 by omega)).symm),(t3.drops [1,1,1,1,1,1,1])⟩
end Go.Proofs.YtghcddbhllkbmaaGreat
