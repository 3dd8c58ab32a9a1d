import Derived.Test.YtghcddbhllkbmaaGreatR4P4CkS
namespace Go.Proofs.YtghcddbhllkbmaaGreat
open Go Go.E Go.Proofs.Tryz
set_option linter.all false
set_option maxRecDepth 100000
set_option maxHeartbeats 2000000
variable {W w:World} {H:Chunk} {F:List Chunk}
def maxV (l:List Int):Int:=l.foldl max (l.getD 0 0)
theorem fold_max_le {B:Int}:∀(l:List Int) (a:Int),a<=B->(∀z∈l,z<=B)->l.foldl max a<=B
  |[],_,ha,_=>ha
  |z::l,a,ha,h=>fold_max_le l (max a z) (by have:=h z (List.mem_cons_self ..);omega) fun y hy=>h y (List.mem_cons_of_mem _ hy)
theorem maxV_le {l:List Int} {B:Int} (h0:0<=B) (h:∀z∈l,z<=B):maxV l<=B:=by
  refine fold_max_le l _ ?_ h
  cases l with
  |nil=>exact h0
  |cons x l=>exact h x (List.mem_cons_self ..)
theorem max_succ {l:List Int} {i:Nat} {x:Int} (h:l[i]?=some x):(l.take (i+1)).foldl max (l.getD 0 0)=max ((l.take i).foldl max (l.getD 0 0)) x:=by
  rw [List.take_add_one,h,List.foldl_append];rfl
theorem put_0 {p:PlaneV} {x y w:Int} {q:List Int} (hl:(p.pix.length:Int)=p.w*p.h) (hw:1<=p.w):putL p ⟨x,y,x+w,y⟩ q=p.pix:=by
  apply List.ext_getElem?
  intro k
  unfold putL
  by_cases hk:k<p.pix.length
  · rw [grid_at hk,if_neg (by unfold inR2;dsimp only;omega)]
    unfold pixAt
    have hd:=Int.emod_def (k:Int) p.w
    have e:((k:Int)/p.w*p.w+(k:Int)%p.w).toNat=k:=by rw [Int.mul_comm];omega
    rw [List.getD_eq_getElem?_getD,e,List.getElem?_eq_getElem hk];rfl
  · rw [List.getElem?_eq_none (by rw [grid_len];omega),List.getElem?_eq_none (by omega)]
theorem put_row {p:PlaneV} {x y w:Int} {q:List Int} {j s n m:Nat} (hx:0<=x/\x+w<=p.w) (hw:1<=w) (hn:(n:Int)=w) (hs:(s:Int)=(y+(j:Int))*p.w+x) (hm:(m:Int)=(j:Int)*w) (hq:m+n<=q.length) (hp:s+n<=p.pix.length):
  (putL p ⟨x,y,x+w,y+(j:Int)⟩ q).take s++((q.drop m).take n).take n++(putL p ⟨x,y,x+w,y+(j:Int)⟩ q).drop (s+n)=putL p ⟨x,y,x+w,y+((j+1:Nat):Int)⟩ q:=by
 obtain ⟨A,hA⟩:∃A,A=putL p ⟨x,y,x+w,y+(j:Int)⟩ q:=⟨_,rfl⟩
 have e0:A.length=p.pix.length:=by rw [hA];exact put_len _ _ _
 have c0:∀k,k<p.pix.length->A[k]?=some (if inR2 ⟨x,y,x+w,y+(j:Int)⟩ ((k:Int)%p.w) ((k:Int)/p.w) then q.getD (((k:Int)/p.w-y)*(x+w-x)+((k:Int)%p.w-x)).toNat 0 else pixAt p ((k:Int)%p.w) ((k:Int)/p.w)):=(by intro k hk;rw [hA];unfold putL;exact grid_at hk)
 rw [<-hA,List.take_take,Nat.min_self]
 apply List.ext_getElem?
 intro k
 by_cases hk:k<p.pix.length
 ·have hd:=Int.emod_def (k:Int) p.w
  have f0:=Int.emod_nonneg (k:Int) (show p.w≠0 by omega)
  have g0:=Int.emod_lt_of_pos (k:Int) (show 0<p.w by omega)
  rw [Int.mul_comm] at hd
  have hR:(putL p ⟨x,y,x+w,y+((j+1:Nat):Int)⟩ q)[k]?=some (if inR2 ⟨x,y,x+w,y+((j+1:Nat):Int)⟩ ((k:Int)%p.w) ((k:Int)/p.w) then q.getD (((k:Int)/p.w-y)*(x+w-x)+((k:Int)%p.w-x)).toNat 0 else pixAt p ((k:Int)%p.w) ((k:Int)/p.w)):=by unfold putL;exact grid_at hk
  rw [hR]
  by_cases h1:k<s
  ·rw [List.append_assoc,List.getElem?_append_left (by rw [List.length_take];omega),List.getElem?_take_of_lt h1,c0 k hk]
   have d0:¬((k:Int)/p.w=y+(j:Int)/\x<=(k:Int)%p.w):=(by rintro ⟨e1,e2⟩;rw [e1] at hd;omega)
   congr 1
   by_cases hi:inR2 ⟨x,y,x+w,y+(j:Int)⟩ ((k:Int)%p.w) ((k:Int)/p.w)
   ·rw [if_pos hi,if_pos (by unfold inR2 at hi⊢;dsimp only at hi⊢;omega)]
   ·rw [if_neg hi,if_neg (by unfold inR2 at hi⊢;dsimp only at hi⊢;omega)]
  ·by_cases h2:k<s+n
   ·have a0:(k:Int)/p.w=y+(j:Int):=(by refine ediv_eq om ?_ ?_<;>omega)
    have b0:(k:Int)%p.w=x+((k-s:Nat):Int):=by rw [a0] at hd;omega
    rw [List.append_assoc,List.getElem?_append_right (by rw [List.length_take];omega),List.length_take,Nat.min_eq_left om,List.getElem?_append_left (by rw [List.length_take,List.length_drop];omega),List.getElem?_take_of_lt om,List.getElem?_drop]
    rw [if_pos (by unfold inR2;dsimp only;omega),a0,b0,List.getD_eq_getElem?_getD]
    have e:((y+(j:Int)-y)*(x+w-x)+(x+((k-s:Nat):Int)-x)).toNat=m+(k-s):=(by rw [show y+(j:Int)-y=(j:Int) by omega,show x+w-x=w by omega,<-hm];omega)
    rw [e,List.getElem?_eq_getElem om];rfl
   ·rw [List.append_assoc,List.getElem?_append_right (by rw [List.length_take];omega),List.length_take,Nat.min_eq_left om,List.getElem?_append_right (by rw [List.length_take,List.length_drop];omega),List.length_take,List.length_drop,Nat.min_eq_left om,List.getElem?_drop,show s+n+(k-s-n)=k by omega,c0 k hk]
    have d0:¬((k:Int)/p.w=y+(j:Int)/\(k:Int)%p.w<x+w):=(by rintro ⟨e1,e2⟩;rw [e1] at hd;omega)
    congr 1
    by_cases hi:inR2 ⟨x,y,x+w,y+(j:Int)⟩ ((k:Int)%p.w) ((k:Int)/p.w)
    ·rw [if_pos hi,if_pos (by unfold inR2 at hi⊢;dsimp only at hi⊢;omega)]
    ·rw [if_neg hi,if_neg (by unfold inR2 at hi⊢;dsimp only at hi⊢;omega)]
 ·rw [List.getElem?_eq_none (by rw [List.length_append,List.length_append,List.length_take,List.length_take,List.length_drop,List.length_drop];omega),List.getElem?_eq_none (by rw [put_len];omega)]
theorem put_row2 {p:PlaneV} {x y w:Int} {q:List Int} {j s n m n1 n2:Nat} (hx:0<=x/\x+w<=p.w) (hw:1<=w) (hn:(n:Int)=w) (hs:(s:Int)=(y+(j:Int))*p.w+x) (hm:(m:Int)=(j:Int)*w) (hq:m+n<=q.length) (hp:s+n<=p.pix.length) (h1:n1=n) (h2:n2=n):
    (putL p ⟨x,y,x+w,y+(j:Int)⟩ q).take s++((q.drop m).take n2).take n1++(putL p ⟨x,y,x+w,y+(j:Int)⟩ q).drop (s+n1)=putL p ⟨x,y,x+w,y+((j+1:Nat):Int)⟩ q:=by
  subst h1;subst h2;exact put_row hx hw hn hs hm hq hp
theorem q_max (al:Option Addr) (nl kl:Nat) (l:List Int) (hl:RdT Go.E.encI 1 [H] al nl kl l) (h1:1<=nl/\nl<=100000) (hS:Sat W w (H::F)):
  Ro prog 96 #[.slice al nl kl] (I (maxV l)) W w (H::F):=by
 have j0:=hl.ll
 refine callsK 25 func96 rfl<|jCC 13 rfl ?_
 have d0:¬(((nl:Int):Int)<1):=om
 refine cF _ (decide_eq_false d0)<|jCO 5 rfl<|sII hl 0 fun b0 _ _ e0 f0=>sMp hS (f0.up 0 rfl) 0 (I b0)<|jOC 10 rfl<|loopF [0] (γ:=Nat×Int×Int) (fun ⟨i,m,ix⟩ R=>⟨[(3,I m),(4,I ix)],R,(nl-1)-i,i<=nl-1/\(ix=(i:Int)+1)/\(m=(l.take (i+1)).foldl max (l.getD 0 0))⟩) (0,b0,1) ⟨hS,om,om,(by have h:l[0]?=some b0:=e0;rw [max_succ h,List.take_zero,List.getD_eq_getElem?_getD,h];exact (Int.max_self _).symm)⟩ ?_
 rintro ⟨i,m,ix⟩ ρ _ ⟨c0,hi,hix,hm⟩
 exact jCC 9 rfl<|CD (ix<(nl:Int)) (fun g0=>jCR 12 rfl<|retT [I m]<|⟨by rw [show maxV l=m from by unfold maxV;rw [hm,show i+1=nl by omega,List.take_of_length_le om]];rfl,c0⟩) fun g0=>jCO 8 rfl<|sII hl ix fun a0 _ _ h0 i0=>sMp c0 (i0.up 0 rfl) 0 (I a0)<|stepY (I (max m a0)) rfl rfl (Y_max2 m a0 rfl rfl kr kr)<|jOO 6 rfl<|sAdd ix 1<|jOI 2 rfl<|⟨(i+1,(max m a0),(ix+1)),od,alB,c0,om,om,(by have h:l[i+1]?=some a0:=(by rw [show i+1=ix.toNat by omega];exact h0);rw [max_succ h,<-hm])⟩
theorem q_cloneO (ax:Option Addr) (nx kx:Nat) (x:List Int) (hx:RdT Go.E.encI 1 [H] ax nx kx x) (hnx:nx<=100000) (hS:Sat W w (H::F)):
  Calls prog 97 #[.slice ax nx kx] w fun e w'=>∃(az:Option Addr) (nz kz:Nat) (G:Chunk),e= .returned (.slice az nz kz)/\OwnT Go.E.encI 3 1 az nz kz (x) G/\Sat W w' (G::H::F):=by
 have j0:=hx.ll
 exact callsK 8 func97 rfl<|jCO 9 rfl<|stepY (.bool (decide (ax=none))) rfl rfl (Y_eqS rfl kr kr (eqvs22 _ ax nx kx))<|jOC 2 rfl<|cD (ax=none) (fun a0=>jCR 7 rfl<|retT [nS]<|(by have b0:=Sat.nilc hS;have hl:([]:List Int)=x:=(rd_nil hx ‹_›).symm;have e0:=OwnT.nil (enc:=Go.E.encI) (E:=3) (sz:=1) fR;rw [hl] at e0;exact ⟨_,_,_,_,rfl,e0,b0⟩)) fun a0=>jCO 4 rfl<|sBK hS #[] 3 fun c0 _ d0=>pu1<|sApp (nb:=8) d0 (OwnT.blk (enc:=Go.E.encI) (sz:=1) (b:=c0) (c:=#[]) (E:=3) (xs:=[]) fR 0 rfl rfl rfl om) 0 (hx.up 1 rfl) underlying22 (i:=Tryz.t3) kr fR fun f0 g0 _ _ h0 i0=>jOR 4 rfl<|retT [.slice f0 (0+nx) g0]<|(by have hl:([]++x)=x:=(by simp);have e0:=h0;rw [hl] at e0;exact ⟨_,_,_,_,rfl,e0,i0⟩)
theorem p4_blit (p:Plane) (u0:Plane) (x:Int) (y:Int) (hp:Plane.Ok [H] p) (hu0:Plane.Ok [H] u0) (hpo:planeOK p.v=true) (hqo:planeOK u0.v=true) (hxy:(0<=x/\x+u0.w<=p.w)/\0<=y/\y+u0.h<=p.h) (hmm:u0.max_<=p.max_) (hS:Sat W w (H::F)):
  Calls prog 57 #[.agg (encPlane p).toArray, .agg (encPlane u0).toArray,I x,I y] w fun e w'=>∃(q:Plane) (G:Chunk),e= .returned (.tuple #[.agg (encPlane q).toArray, .bool true])/\q.Ok [G]/\q.v=(⟨p.v.w,p.v.h,p.v.max_,putL p.v ⟨x,y,x+u0.w,y+u0.h⟩ u0.v.pix⟩:PlaneV)/\Sat W w' (G::H::F):=by
 have K0:=hp.pix.le;have F0:=hp.pix.len
 have I0:=hu0.pix.le;have E0:=hu0.pix.len
 have S0:=(plane_sz hpo).1;unfold sizeP at S0;simp only [Plane.v] at S0;have H0:p.v.pix.length=p.pix.n:=F0;have R0:=(plane_sz hpo).2.1;rw [H0] at R0;simp only [Plane.v] at R0;have z1:0<p.w*p.h:=Int.mul_pos om om
 have U0:=(plane_sz hqo).1;unfold sizeP at U0;simp only [Plane.v] at U0;have P0:u0.v.pix.length=u0.pix.n:=E0;have T0:=(plane_sz hqo).2.1;rw [P0] at T0;simp only [Plane.v] at T0;have A1:0<u0.w*u0.h:=Int.mul_pos om om
 have r1:maxV u0.pix.l<=p.max_:=maxV_le om (fun z hz=>by have h:=(plane_sz hqo).2.2 z hz;simp only [Plane.v] at h;omega)
 obtain ⟨Wq,Z0⟩:∃k:Nat,u0.w=(k:Int):=⟨_,(Int.toNat_of_nonneg om).symm⟩;obtain ⟨Hq,Q0⟩:∃k:Nat,u0.h=(k:Int):=⟨_,(Int.toNat_of_nonneg om).symm⟩
 refine callsK 100 func57 rfl<|jCO 2 rfl<|sBx hS (encPlane p) fun _ _ a1=>sBx a1 (encPlane u0) fun _ _ b1=>sAlloc b1 zeroValue38 fun _ _ g0=>gOO g0 7 [402] rfl<|cS (p4_valid p ⟨(hp.pix.fl 3)⟩ g0.flat) fun _ d0=>pu2<|SBn 16 (planeOK p.v) (fun c1=>jOO 10 rfl<|sTk d0 0 rfl [I 0,I 0,I 0,nS] fun _ d1=>jOR 5 rfl<|retD d1 0 [I 0,I 0,I 0,nS] (.bool false)<|(by first|exact absurd hpo ‹_›|exact absurd hqo ‹_›)) fun c1=>gOO d0 1 [401] rfl<|gY<|cS (p4_valid u0 ⟨(hu0.pix.fl 3)⟩ d0.flat) fun _ a0=>jOC 4 rfl<|CBn (planeOK u0.v) (fun e1=>jCO 3 rfl<|sTk a0 0 rfl [I 0,I 0,I 0,nS] fun _ f1=>jOR 5 rfl<|retD f1 0 [I 0,I 0,I 0,nS] (.bool false)<|(by first|exact absurd hpo ‹_›|exact absurd hqo ‹_›)) fun e1=>jCO 8 rfl ?_
 have g1:¬((x:Int)<0):=om
 refine sFix 24 _ false (decide_eq_false g1)<|gOO a0 5 [2,1] rfl<|gY<|sSub p.w u0.w<|pu3 ?_
 have h1:¬((x:Int)>(p.w-u0.w)):=om
 refine sFix 33 _ false (decide_eq_false h1)<|pu4 ?_
 have i1:¬((y:Int)<0):=om
 refine sFix 37 _ false (decide_eq_false i1)<|gOO a0 5 [2,1] rfl<|gY<|sSub p.h u0.h<|jOC 4 rfl ?_
 have j1:¬((y:Int)>(p.h-u0.h)):=om
 refine cF _ (decide_eq_false j1)<|jCC 4 rfl<|drawF a0 [2] (fb 1 1 3 1<|fb 4 2 2 1<|fn) [0,3,1,4,2,5] fun _ k1=>wV 2<|wL 0<|wL 1<|wO rfl<|cS (q_max u0.pix.a u0.pix.n u0.pix.k u0.pix.l (hu0.pix.fl 3) (od) k1.flat) fun _ h0=>nZ h0 [2]<|wV 1<|wN<|jXC 1 rfl ?_
 have l1:¬(((maxV u0.pix.l):Int)>p.max_):=om
 refine cF _ (decide_eq_false l1)<|jCC 3 rfl<|drawG h0 [8,10,11] (fb 1 2 0 1<|fb 3 2 1 1<|fb 5 2 2 1<|fb 7 2 3 1<|fn) (pS [0,2,4,6,1,3,5,7]<| .fk 8 10 (pS [9]<| .ef 10<| .ef 11<| .fin) (.ef 8<|pS [9]<| .ef 11<| .fin)) fun _ i0=>qV 4<|qL 0<|qL 1<|qL 2<|qL 3<|qF ?_ ?_
 rotate_left
 ·refine qO rfl<|sAlloc i0 zeroValue38 fun m1 _ j0=>nZ j0 [3,3,3,3]<|qO rfl<|cZ (q_cloneO p.pix.a p.pix.n p.pix.k p.pix.l (hp.pix.fl 4) (od) j0.flat) ?_
  rintro _ _ ⟨k0,l0,m0,n1,rfl,e0,o1⟩
  have n0:=o1.unflat1
  have N0:=e0.ll
  refine nZ n0 [4,4,4]<|qV 1<|qO rfl<|sTk n0 1 rfl [I p.w,I p.h,I p.max_, .slice k0 l0 m0] fun _ o0=>nA<|qN<|gXC o0 10 [3] rfl<|loopF [2,3,4,5,8,10,65] (γ:=Nat×(List Int)×SO) (fun ⟨i,zs,C0,D0,B0,G0⟩ R=>⟨[(66,I (i:Int))],G0::[(m1, .cells #[I p.w,I p.h,I p.max_, .slice C0 D0 B0] 38 (0,0))]::R,Hq-i,i<=Hq/\(zs=putL p.v ⟨x,y,x+u0.w,y+(i:Int)⟩ u0.pix.l)/\OwnT Go.E.encI 3 1 C0 D0 B0 zs G0⟩) (0,(p.pix.l),k0,l0,m0,n1) ⟨o0,om,(by have h:=put_0 (p:=p.v) (x:=x) (y:=y) (w:=u0.w) (q:=u0.pix.l) (by rw [H0];simp only [Plane.v];omega) (by simp only [Plane.v];omega);rw [show y+((0:Nat):Int)=y by omega];exact h.symm),e0⟩ ?_
  rintro ⟨i,zs,C0,D0,B0,G0⟩ ρ _ ⟨b0,hi,hE,A0⟩
  have O0:=A0.len;have L0:=A0.le
  have Y0:zs.length=p.pix.n:=by rw [hE,put_len,H0]
  refine jCC 6 rfl<|CD ((i:Int)<u0.h) (fun q1=>gCO b0 8 [401] rfl<|sTk b0 2 rfl [I p.w,I p.h,I p.max_, .slice C0 D0 B0] fun _ p0=>jOR 4 rfl<|retD p0 2 [I p.w,I p.h,I p.max_, .slice C0 D0 B0] (.bool true)<|⟨(⟨p.w,p.h,p.max_,⟨C0,D0,B0,zs⟩⟩:Plane),_,rfl,⟨(A0.rdAt (cs:=[G0]) 0 rfl)⟩,(by rw [hE,show i=Hq by omega,<-Q0];rfl),(p0.drops [1,1,1,1])⟩) fun q1=>jCC 11 rfl ?_
  have hix:=pl_ix hpo (x:=x+u0.w-1) (y:=y+(i:Int)) (by simp only [Plane.v];omega) (by simp only [Plane.v];omega);rw [H0] at hix;simp only [Plane.v] at hix;have J0:=pl_ix hqo (x:=u0.w-1) (y:=(i:Int)) (by simp only [Plane.v];omega) (by simp only [Plane.v];omega);rw [P0] at J0;simp only [Plane.v] at J0;have W0:((i:Int)+1)*u0.w=(i:Int)*u0.w+u0.w:=by rw [Int.add_mul,Int.one_mul]
  have V0:0<=(i:Int)*u0.w:=Int.mul_nonneg om om;have X0:0<=(y+(i:Int))*p.w:=Int.mul_nonneg om om
  refine jCO 3 rfl<|sAdd y (i:Int)<|gOO b0 2 [4] rfl<|sMul (y+(i:Int)) p.w<|pu1<|sAdd ((y+(i:Int))*p.w) x<|jOC 3 rfl<|drawF b0 [20] (fb 1 1 3 1<|fb 5 3 0 1<|fb 9 3 3 1<|fb 12 3 0 1<|fb 17 3 0 1<|fn) [0,2,3,4,8,10,11,14,15,16,1,5,6,7,9,12,13,17,18,19,20] fun _ s1=>wV 8<|wAdd (i:Int) 1<|wV 1<|wL 0<|wL 1<|wAdd (((y+(i:Int))*p.w)+x) u0.w ?_
  have x2:=A0.part (lo:=((((y+(i:Int))*p.w)+x)).toNat) (hi:=(((((y+(i:Int))*p.w)+x)+u0.w)).toNat) om om
  exact wY (.slice (partAddr C0 B0 (((((y+(i:Int))*p.w)+x)).toNat) 1) ((((((y+(i:Int))*p.w)+x)+u0.w)).toNat-(((((y+(i:Int))*p.w)+x)).toNat)) (B0-(((((y+(i:Int))*p.w)+x)).toNat))) rfl (fun w _=>Y_sl (a:=C0) (len:=D0) (cap:=B0) (some (((y+(i:Int))*p.w)+x)) (some ((((y+(i:Int))*p.w)+x)+u0.w)) (((((y+(i:Int))*p.w)+x)).toNat) ((((((y+(i:Int))*p.w)+x)+u0.w)).toNat) runUnderlying22 sizeOf3 ⟨om,om⟩ ⟨om,om⟩ om om)<|wL 2<|wL 3<|wMul (i:Int) u0.w<|wL 4<|wMul ((i:Int)+1) u0.w<|(by have t1:=hu0.pix.part (lo:=(((i:Int)*u0.w)).toNat) (hi:=((((i:Int)+1)*u0.w)).toNat) om om;exact wY (.slice (partAddr u0.pix.a u0.pix.k ((((i:Int)*u0.w)).toNat) 1) (((((i:Int)+1)*u0.w)).toNat-((((i:Int)*u0.w)).toNat)) (u0.pix.k-((((i:Int)*u0.w)).toNat))) rfl (fun w _=>Y_sl (a:=u0.pix.a) (len:=u0.pix.n) (cap:=u0.pix.k) (some ((i:Int)*u0.w)) (some (((i:Int)+1)*u0.w)) ((((i:Int)*u0.w)).toNat) (((((i:Int)+1)*u0.w)).toNat) runUnderlying22 sizeOf3 ⟨om,om⟩ ⟨om,om⟩ om om)<|wO rfl<|sCopyR (N:=_) (d:=((((((y+(i:Int))*p.w)+x)+u0.w)).toNat-(((((y+(i:Int))*p.w)+x)).toNat))) (cap':=(B0-(((((y+(i:Int))*p.w)+x)).toNat))) s1 A0 (t1.up 5 rfl) 0 (((((y+(i:Int))*p.w)+x)).toNat) ((((((y+(i:Int))*p.w)+x)+u0.w)).toNat-(((((y+(i:Int))*p.w)+x)).toNat)) om (by first|exact Nat.min_eq_right om|exact Nat.min_eq_left om) rfl runUnderlying22 sizeOf3 (fun z v hv=>by simp only [Go.E.encI,List.mem_singleton] at hv;subst hv;rfl) fun _ u1 v1 q0=>nZ q0 [1,3,3,3,3]<|wN<|jXO 3 rfl<|sAdd (i:Int) 1<|jOI 2 rfl<|⟨(i+1,(zs.take (((((y+(i:Int))*p.w)+x)).toNat)++((u0.pix.l.drop ((((i:Int)*u0.w)).toNat)).take (((((i:Int)+1)*u0.w)).toNat-((((i:Int)*u0.w)).toNat))).take ((((((y+(i:Int))*p.w)+x)+u0.w)).toNat-(((((y+(i:Int))*p.w)+x)).toNat))++zs.drop (((((y+(i:Int))*p.w)+x)).toNat+((((((y+(i:Int))*p.w)+x)+u0.w)).toNat-(((((y+(i:Int))*p.w)+x)).toNat)))),C0,D0,B0,u1),od,alB,q0,om,(by rw [hE];exact put_row2 (p:=p.v) (n:=Wq) (by simp only [Plane.v];omega) om om (by simp only [Plane.v];omega) om om (by rw [H0];omega) om om),v1⟩)
 refine qO rfl<|cZ (q_cloneO p.pix.a p.pix.n p.pix.k p.pix.l (hp.pix.fl 3) (od) i0.flat) ?_
 rintro _ _ ⟨r0,s0,t0,w1,rfl,f0,x1⟩
 have v0:=x1.unflat1
 have M0:=f0.ll
 refine nZ v0 [3,3,3]<|qV 1<|qO rfl<|sAlloc v0 zeroValue38 fun y1 _ w0=>nZ w0 [4,4,4]<|qO rfl<|sTk w0 0 rfl [I p.w,I p.h,I p.max_, .slice r0 s0 t0] fun _ x0=>nA<|qN<|gXC x0 10 [3] rfl<|loopF [2,3,4,5,8,10,65] (γ:=Nat×(List Int)×SO) (fun ⟨i,zs,C0,D0,B0,G0⟩ R=>⟨[(66,I (i:Int))],G0::[(y1, .cells #[I p.w,I p.h,I p.max_, .slice C0 D0 B0] 38 (0,0))]::R,Hq-i,i<=Hq/\(zs=putL p.v ⟨x,y,x+u0.w,y+(i:Int)⟩ u0.pix.l)/\OwnT Go.E.encI 3 1 C0 D0 B0 zs G0⟩) (0,(p.pix.l),r0,s0,t0,w1) ⟨(x0.pick 1 rfl),om,(by have h:=put_0 (p:=p.v) (x:=x) (y:=y) (w:=u0.w) (q:=u0.pix.l) (by rw [H0];simp only [Plane.v];omega) (by simp only [Plane.v];omega);rw [show y+((0:Nat):Int)=y by omega];exact h.symm),f0⟩ ?_
 rintro ⟨i,zs,C0,D0,B0,G0⟩ ρ _ ⟨c0,hi,hE,A0⟩
 have O0:=A0.len;have L0:=A0.le
 have Y0:zs.length=p.pix.n:=by rw [hE,put_len,H0]
 refine jCC 6 rfl<|CD ((i:Int)<u0.h) (fun a2=>gCO c0 8 [401] rfl<|sTk c0 2 rfl [I p.w,I p.h,I p.max_, .slice C0 D0 B0] fun _ y0=>jOR 4 rfl<|retD y0 2 [I p.w,I p.h,I p.max_, .slice C0 D0 B0] (.bool true)<|⟨(⟨p.w,p.h,p.max_,⟨C0,D0,B0,zs⟩⟩:Plane),_,rfl,⟨(A0.rdAt (cs:=[G0]) 0 rfl)⟩,(by rw [hE,show i=Hq by omega,<-Q0];rfl),(y0.drops [1,1,1,1])⟩) fun a2=>jCC 11 rfl ?_
 have hix:=pl_ix hpo (x:=x+u0.w-1) (y:=y+(i:Int)) (by simp only [Plane.v];omega) (by simp only [Plane.v];omega);rw [H0] at hix;simp only [Plane.v] at hix;have J0:=pl_ix hqo (x:=u0.w-1) (y:=(i:Int)) (by simp only [Plane.v];omega) (by simp only [Plane.v];omega);rw [P0] at J0;simp only [Plane.v] at J0;have W0:((i:Int)+1)*u0.w=(i:Int)*u0.w+u0.w:=by rw [Int.add_mul,Int.one_mul]
 have V0:0<=(i:Int)*u0.w:=Int.mul_nonneg om om;have X0:0<=(y+(i:Int))*p.w:=Int.mul_nonneg om om
 refine jCO 3 rfl<|sAdd y (i:Int)<|gOO c0 2 [4] rfl<|sMul (y+(i:Int)) p.w<|pu1<|sAdd ((y+(i:Int))*p.w) x<|jOC 3 rfl<|drawF c0 [20] (fb 1 1 3 1<|fb 5 3 0 1<|fb 9 3 3 1<|fb 12 3 0 1<|fb 17 3 0 1<|fn) [0,2,3,4,8,10,11,14,15,16,1,5,6,7,9,12,13,17,18,19,20] fun _ c2=>wV 8<|wAdd (i:Int) 1<|wV 1<|wL 0<|wL 1<|wAdd (((y+(i:Int))*p.w)+x) u0.w ?_
 have e3:=A0.part (lo:=((((y+(i:Int))*p.w)+x)).toNat) (hi:=(((((y+(i:Int))*p.w)+x)+u0.w)).toNat) om om
 exact wY (.slice (partAddr C0 B0 (((((y+(i:Int))*p.w)+x)).toNat) 1) ((((((y+(i:Int))*p.w)+x)+u0.w)).toNat-(((((y+(i:Int))*p.w)+x)).toNat)) (B0-(((((y+(i:Int))*p.w)+x)).toNat))) rfl (fun w _=>Y_sl (a:=C0) (len:=D0) (cap:=B0) (some (((y+(i:Int))*p.w)+x)) (some ((((y+(i:Int))*p.w)+x)+u0.w)) (((((y+(i:Int))*p.w)+x)).toNat) ((((((y+(i:Int))*p.w)+x)+u0.w)).toNat) runUnderlying22 sizeOf3 ⟨om,om⟩ ⟨om,om⟩ om om)<|wL 2<|wL 3<|wMul (i:Int) u0.w<|wL 4<|wMul ((i:Int)+1) u0.w<|(by have d2:=hu0.pix.part (lo:=(((i:Int)*u0.w)).toNat) (hi:=((((i:Int)+1)*u0.w)).toNat) om om;exact wY (.slice (partAddr u0.pix.a u0.pix.k ((((i:Int)*u0.w)).toNat) 1) (((((i:Int)+1)*u0.w)).toNat-((((i:Int)*u0.w)).toNat)) (u0.pix.k-((((i:Int)*u0.w)).toNat))) rfl (fun w _=>Y_sl (a:=u0.pix.a) (len:=u0.pix.n) (cap:=u0.pix.k) (some ((i:Int)*u0.w)) (some (((i:Int)+1)*u0.w)) ((((i:Int)*u0.w)).toNat) (((((i:Int)+1)*u0.w)).toNat) runUnderlying22 sizeOf3 ⟨om,om⟩ ⟨om,om⟩ om om)<|wO rfl<|sCopyR (N:=_) (d:=((((((y+(i:Int))*p.w)+x)+u0.w)).toNat-(((((y+(i:Int))*p.w)+x)).toNat))) (cap':=(B0-(((((y+(i:Int))*p.w)+x)).toNat))) c2 A0 (d2.up 5 rfl) 0 (((((y+(i:Int))*p.w)+x)).toNat) ((((((y+(i:Int))*p.w)+x)+u0.w)).toNat-(((((y+(i:Int))*p.w)+x)).toNat)) om (by first|exact Nat.min_eq_right om|exact Nat.min_eq_left om) rfl runUnderlying22 sizeOf3 (fun z v hv=>by simp only [Go.E.encI,List.mem_singleton] at hv;subst hv;rfl) fun _ e2 f2 z0=>nZ z0 [1,3,3,3,3]<|wN<|jXO 3 rfl<|sAdd (i:Int) 1<|jOI 2 rfl<|⟨(i+1,(zs.take (((((y+(i:Int))*p.w)+x)).toNat)++((u0.pix.l.drop ((((i:Int)*u0.w)).toNat)).take (((((i:Int)+1)*u0.w)).toNat-((((i:Int)*u0.w)).toNat))).take ((((((y+(i:Int))*p.w)+x)+u0.w)).toNat-(((((y+(i:Int))*p.w)+x)).toNat))++zs.drop (((((y+(i:Int))*p.w)+x)).toNat+((((((y+(i:Int))*p.w)+x)+u0.w)).toNat-(((((y+(i:Int))*p.w)+x)).toNat)))),C0,D0,B0,e2),od,alB,z0,om,(by rw [hE];exact put_row2 (p:=p.v) (n:=Wq) (by simp only [Plane.v];omega) om om (by simp only [Plane.v];omega) om om (by rw [H0];omega) om om),f2⟩)
theorem p2_area (a:Rct) (ha:rIn a 128 128) (hS:Sat W w (H::F)):
  Ro prog 56 #[.agg (encRct a).toArray] (I ((a.x1-a.x0)*(a.y1-a.y0))) W w (H::F):=by
 unfold rIn at ha;have d0:=mul_bd (a:=a.x1-a.x0) (b:=a.y1-a.y0) (A:=128) (B:=128) om om
 exact callsK 17 func56 rfl<|jCO 2 rfl<|sBx hS (encRct a) fun _ _ b0=>gOO b0 7 [400] rfl<|cS (p2_valid a b0.flat) fun _ a0=>jOC 3 rfl<|(by have c0:rvP a:=(by unfold rvP cooP;omega);exact cF _ (congrArg Bool.not (decide_eq_true c0))<|gCO a0 8 [0,0] rfl<|sSub a.x1 a.x0<|gOO a0 4 [0,0] rfl<|sSub a.y1 a.y0<|sMul (a.x1-a.x0) (a.y1-a.y0)<|jOR 4 rfl<|retT [I ((a.x1-a.x0)*(a.y1-a.y0))]<|⟨rfl,(a0.dropAt 0 rfl)⟩)
theorem p21_put (own:Plane) (t:Task) (al:Option Addr) (nl kl:Nat) (l:List Int) (hown:Plane.Ok [H] own) (ht:Task.Ok [H] t) (hl:RdT Go.E.encI 1 [H] al nl kl l) (hS:Sat W w (H::F)):
  Calls prog 15 #[.agg (encPlane own).toArray, .agg (encTask t).toArray, .slice al nl kl] w fun e w'=>∃(q:Plane) (c:Int) (G:Chunk),e= .returned (.tuple #[.agg (encPlane q).toArray,I c])/\q.Ok [G]/\(q.v,c)=putT own.v t.part (⟨t.rectX0,t.rectY0,t.rectX1,t.rectY1⟩:Rct) l/\Sat W w' (G::H::F):=by
 have C0:=hown.pix.ll
 have D0:=ht.deps.ll
 have I0:=hl.ll
 refine callsK 91 func15 rfl<|jCO 2 rfl<|sBx hS (encPlane own) fun _ _ q1=>sBx q1 (encTask t) fun _ _ r1=>sAlloc r1 zeroValue38 fun _ _ l0=>jOC 3 rfl<|cutF l0 0 [2,3,4,6] (γ:=Unit) (fun _ R=>⟨[],R,0,(planeOK own.v=true/\(t.part=0\/t.part=2))⟩) ?_ ?_
 · exact gCO l0 3 [402] rfl<|cS (p4_valid own ⟨(hown.pix.fl 3)⟩ l0.flat) fun _ e0=>pu2<|SBn 17 (planeOK own.v) (fun j0=>jOO 15 rfl<|sTk e0 0 rfl [I 0,I 0,I 0,nS] fun _ r0=>jOR 5 rfl<|retD r0 0 [I 0,I 0,I 0,nS] (I 1)<|(by have hC:putC own.v t.part (⟨t.rectX0,t.rectY0,t.rectX1,t.rectY1⟩:Rct) l=1:=(by unfold putC;rw [if_neg (fun h=>j0 h.1)]);have s1:=(r0.drops [0,0,0]);exact ⟨zP,1,_,rfl,⟨rN⟩,(by unfold putT;rw [okT_n om,hC];rfl),(Sat.nilc s1)⟩)) fun j0=>gOO e0 4 [1] rfl<|sN 21 t.part 0 (fun u1=>jOI 9 rfl<|⟨(),alB,e0,⟨j0,om⟩⟩) fun u1=>gOC e0 7 [1] rfl<|cN t.part 2 (fun v1=>jCI 1 rfl<|⟨(),alB,e0,⟨j0,om⟩⟩) fun v1=>jCO 3 rfl<|sTk e0 0 rfl [I 0,I 0,I 0,nS] fun _ s0=>jOR 5 rfl<|retD s0 0 [I 0,I 0,I 0,nS] (I 1)<|(by have hC:putC own.v t.part (⟨t.rectX0,t.rectY0,t.rectX1,t.rectY1⟩:Rct) l=1:=(by unfold putC;rw [if_neg (fun h=>by have h2:=h.2;omega)]);have w1:=(s0.drops [0,0,0]);exact ⟨zP,1,_,rfl,⟨rN⟩,(by unfold putT;rw [okT_n om,hC];rfl),(Sat.nilc w1)⟩)
 rintro _ ρ _ ⟨t0,hA⟩
 refine gCO t0 4 [401] rfl<|sAlloc t0 zeroValue45 fun _ _ a2=>sTk a2 0 rfl [I t.rectX0,I t.rectY0,I t.rectX1,I t.rectY1] fun _ u0=>jOC 2 rfl<|cutF u0 0 [2,3,6,8] (γ:=Unit) (fun _ R=>⟨[],R,0,(rIn (⟨t.rectX0,t.rectY0,t.rectX1,t.rectY1⟩:Rct) own.w own.h/\(nl:Int)=(t.rectX1-t.rectX0)*(t.rectY1-t.rectY0))⟩) ?_ ?_
 rotate_left
 ·rintro _ ρ _ ⟨b2,hB⟩
  refine jCC 2 rfl ?_
  have A0:=(plane_sz hA.1).1;unfold sizeP at A0;simp only [Plane.v] at A0;obtain ⟨E0,M0⟩:=hB;have F0:=E0;unfold rIn at F0;dsimp only at F0;have L0:=rIn_area E0 (by first|omega|assumption);dsimp only at L0
  refine jCC 7 rfl<|loopF [2,3,6,8,47,48] (γ:=Nat) (fun i R=>⟨[(49,I (i:Int))],R,nl-i,i<=nl/\((l.take i).all (fun v=>decide (0<=v/\v<=own.max_))=true)⟩) 0 ⟨b2,om,by rfl⟩ ?_
  rintro i ρ _ ⟨c0,hi,hE⟩
  refine jCC 6 rfl<|cD ((i:Int)<(nl:Int)) (fun c2=>jCO 6 rfl<|sIN hl i fun m0 _ _ k0 d2=>sMp c0 (d2.up 4 rfl) 0 (I m0)<|jOO 8 rfl<|sD 55 (m0<0) (fun e2=>jOO 11 rfl<|sTk c0 1 rfl [I 0,I 0,I 0,nS] fun _ v0=>jOR 9 rfl<|retD v0 1 [I 0,I 0,I 0,nS] (I 2)<|(by have hC:putC own.v t.part (⟨t.rectX0,t.rectY0,t.rectX1,t.rectY1⟩:Rct) l=2:=(by unfold putC;rw [if_pos hA,if_pos ⟨E0,by dsimp only;omega⟩,if_neg (show ¬inM own.v.max_ l=true from inM_f (m:=own.max_) k0 om)]);have f2:=(v0.drops [0,0,0,0]);exact ⟨zP,2,_,rfl,⟨rN⟩,(by unfold putT;rw [okT_n om,hC];rfl),(Sat.nilc f2)⟩)) fun e2=>gOC c0 7 [3] rfl<|CD (m0>own.max_) (fun i2=>jCO 4 rfl<|sAdd (i:Int) 1<|jOI 2 rfl<|⟨i+1,od,alB,c0,om,all_succ hE k0 (decide_eq_true om)⟩) fun i2=>jCO 3 rfl<|sTk c0 1 rfl [I 0,I 0,I 0,nS] fun _ w0=>jOR 9 rfl<|retD w0 1 [I 0,I 0,I 0,nS] (I 2)<|(by have hC:putC own.v t.part (⟨t.rectX0,t.rectY0,t.rectX1,t.rectY1⟩:Rct) l=2:=(by unfold putC;rw [if_pos hA,if_pos ⟨E0,by dsimp only;omega⟩,if_neg (show ¬inM own.v.max_ l=true from inM_f (m:=own.max_) k0 om)]);have j2:=(w0.drops [0,0,0,0]);exact ⟨zP,2,_,rfl,⟨rN⟩,(by unfold putT;rw [okT_n om,hC];rfl),(Sat.nilc j2)⟩)) fun c2=>gCO c0 11 [0,0] rfl<|sSub t.rectX1 t.rectX0<|gOO c0 4 [0,0] rfl<|sSub t.rectY1 t.rectY0<|gOO c0 4 [3] rfl<|sAlloc c0 zeroValue38 fun _ _ l2=>sTk l2 0 rfl [I (t.rectX1-t.rectX0),I (t.rectY1-t.rectY0),I own.max_, .slice al nl kl] fun _ z0=>jOC 3 rfl ?_
  have H0:inM own.max_ l=true:=all_of_take hE om
  have K0:planeOK (⟨t.rectX1-t.rectX0,t.rectY1-t.rectY0,own.max_,⟨al,nl,kl,l⟩⟩:Plane).v=true:=plane_mk (by unfold sizeP;simp only [Plane.v];omega) (by simp only [Plane.v];omega) (fun z hz=>of_decide_eq_true (List.all_eq_true.1 H0 z hz));have J0:=hA.1
  refine gCO z0 7 [404,400,1,1] rfl<|cZ (p4_blit own (⟨(t.rectX1-t.rectX0),(t.rectY1-t.rectY0),own.max_,⟨al,nl,kl,l⟩⟩:Plane) t.rectX0 t.rectY0 ⟨(hown.pix.fl 5)⟩ ⟨(hl.fl 5)⟩ J0 K0 (by dsimp only;omega) (by dsimp only;omega) z0.flat) ?_
  rintro _ _ ⟨a0,_,rfl,n0,m2,n2⟩
  have o2:=n2.unflat1
  have B0:=n0.pix.ll
  refine pu3<|sAlloc o2 zeroValue38 fun _ _ q2=>sTk q2 0 rfl (encPlane a0) fun _ a1=>gOO a1 16 [400] rfl<|sTk a1 4 rfl (encPlane a0) fun _ b1=>jOR 4 rfl<|retD b1 4 (encPlane a0) (I 0) ?_
  have hC:putC own.v t.part (⟨t.rectX0,t.rectY0,t.rectX1,t.rectY1⟩:Rct) l=0:=by unfold putC;rw [if_pos hA,if_pos ⟨E0,by dsimp only;omega⟩,if_pos (show inM own.v.max_ l=true from H0)]
  have G0:=m2;dsimp only at G0;rw [show t.rectX0+(t.rectX1-t.rectX0)=t.rectX1 by omega,show t.rectY0+(t.rectY1-t.rectY0)=t.rectY1 by omega] at G0
  exact ⟨a0,0,_,rfl,n0,(by unfold putT;rw [okT_0 hC,G0];rfl),(b1.drops [0,1,1,1,1,1])⟩
 refine jCC 1 rfl<|drawG u0 [1,3,4,5,6,12,13] (fb 0 0 0 4<|fn) (pS [0]<| .ef 1<|pS [2]<| .fk 3 4 (.ef 4<| .ef 5<| .ef 6<|pS [7,8,9,10,11]<| .ef 12<| .ef 13<|pS [14,15]<| .fin) (.fk 3 5 (.ef 5<| .ef 6<|pS [7,8,9,10,11]<| .ef 12<| .ef 13<|pS [14,15]<| .fin) (.ef 3<| .ef 6<|pS [7,8,9,10,11]<| .ef 12<| .ef 13<|pS [14,15]<| .fin))) fun _ s2=>qG 0 4<|qO rfl<|cS (p2_empty (⟨t.rectX0,t.rectY0,t.rectX1,t.rectY1⟩:Rct) s2.flat) fun _ b0=>nA<|qV 1<|qF ?_ ?_
 ·refine bD ((⟨t.rectX0,t.rectY0,t.rectX1,t.rectY1⟩:Rct).x0=0/\(⟨t.rectX0,t.rectY0,t.rectX1,t.rectY1⟩:Rct).y0=0/\(⟨t.rectX0,t.rectY0,t.rectX1,t.rectY1⟩:Rct).x1=0/\(⟨t.rectX0,t.rectY0,t.rectX1,t.rectY1⟩:Rct).y1=0) (fun f0=>qFix 32 _ true (decide_eq_true f0)<|qO rfl<|pu1<|nA<|qO rfl<|pu1<|nA<|qO rfl<|pu1<|nA<|qO rfl<|pu1<|nA<|qV 1<|qV 1<|qV 1<|qV 1<|qV 1<|qO rfl<|pu1<|nA<|qO rfl<|pu1<|nA<|qV 1<|qV 1<|qN<|jXO 5 rfl<|sTk b0 1 rfl [I 0,I 0,I 0,nS] fun _ c1=>jOR 5 rfl<|retD c1 1 [I 0,I 0,I 0,nS] (I 8)<|(by have hC:putC own.v t.part (⟨t.rectX0,t.rectY0,t.rectX1,t.rectY1⟩:Rct) l=8:=(by unfold putC;rw [if_pos hA,if_neg (fun h=>by have A0:=(plane_sz hA.1).1;unfold sizeP at A0;simp only [Plane.v] at A0;have h2:=(ins_in om om).2 (show rIn (⟨t.rectX0,t.rectY0,t.rectX1,t.rectY1⟩:Rct) own.w own.h from h.1);exact h2.1 f0)]);have t2:=(c1.drops [0,0,0,0]);exact ⟨zP,8,_,rfl,⟨rN⟩,(by unfold putT;rw [okT_n om,hC];rfl),(Sat.nilc t2)⟩)) fun f0=>qFix 32 _ false (decide_eq_false f0)<|qO rfl<|gY<|lB b0 0 0 4<|nA<|qO rfl<|gY<|lB b0 3 0 4<|nA<|qO rfl<|gY<|cS (p21_whole own ⟨(hown.pix.fl 4)⟩ b0.flat) fun _ v2=>nA<|qO rfl<|gY<|cS (p2_inside (⟨t.rectX0,t.rectY0,t.rectX1,t.rectY1⟩:Rct) (⟨0,0,own.w,own.h⟩:Rct) v2.flat) fun _ o0=>nA<|qV 1<|qV 1<|qV 1 ?_
  refine bC (insP (⟨t.rectX0,t.rectY0,t.rectX1,t.rectY1⟩:Rct) (⟨0,0,own.w,own.h⟩:Rct)) (fun g0=>qFix 39 _ true (congrArg Bool.not (decide_eq_false g0))<|qV 1<|qV 1<|qO rfl<|pu1<|nA<|qO rfl<|pu1<|nA<|qV 1<|qV 1<|qN<|jXO 5 rfl<|sTk o0 1 rfl [I 0,I 0,I 0,nS] fun _ d1=>jOR 5 rfl<|retD d1 1 [I 0,I 0,I 0,nS] (I 8)<|(by have hC:putC own.v t.part (⟨t.rectX0,t.rectY0,t.rectX1,t.rectY1⟩:Rct) l=8:=(by unfold putC;rw [if_pos hA,if_neg (fun h=>by have A0:=(plane_sz hA.1).1;unfold sizeP at A0;simp only [Plane.v] at A0;have h2:=(ins_in om om).2 (show rIn (⟨t.rectX0,t.rectY0,t.rectX1,t.rectY1⟩:Rct) own.w own.h from h.1);exact g0 h2.2)]);have w2:=(d1.drops [0,0,0,0]);exact ⟨zP,8,_,rfl,⟨rN⟩,(by unfold putT;rw [okT_n om,hC];rfl),(Sat.nilc w2)⟩)) fun g0=>?_
  refine qFix 39 _ false (congrArg Bool.not (decide_eq_true g0))<|qV 1<|qV 1<|qO rfl<|gY<|lB o0 0 0 4<|nA<|qO rfl<|gY<|cS (p2_area (⟨t.rectX0,t.rectY0,t.rectX1,t.rectY1⟩:Rct) (by have A0:=(plane_sz hA.1).1;unfold sizeP at A0;simp only [Plane.v] at A0;have h:=(ins_in om om).1 ⟨f0,g0⟩;unfold rIn at h⊢;dsimp only at h⊢;omega) o0.flat) fun _ e1=>nA<|qV 1<|qV 1<|qN<|jXC 1 rfl<|cN (nl:Int) (((⟨t.rectX0,t.rectY0,t.rectX1,t.rectY1⟩:Rct).x1-(⟨t.rectX0,t.rectY0,t.rectX1,t.rectY1⟩:Rct).x0)*((⟨t.rectX0,t.rectY0,t.rectX1,t.rectY1⟩:Rct).y1-(⟨t.rectX0,t.rectY0,t.rectX1,t.rectY1⟩:Rct).y0)) (fun y2=>jCI 1 rfl<|⟨(),alB,e1,⟨by have A0:=(plane_sz hA.1).1;unfold sizeP at A0;simp only [Plane.v] at A0;exact (ins_in om om).1 ⟨f0,g0⟩,om⟩⟩) fun y2=>jCO 3 rfl<|sTk e1 1 rfl [I 0,I 0,I 0,nS] fun _ f1=>jOR 5 rfl<|retD f1 1 [I 0,I 0,I 0,nS] (I 8) ?_
  have hC:putC own.v t.part (⟨t.rectX0,t.rectY0,t.rectX1,t.rectY1⟩:Rct) l=8:=by unfold putC;rw [if_pos hA,if_neg (fun h=>by have h2:=h.2;dsimp only at h2;omega)]
  have z2:=(f1.drops [0,0,0,0])
  exact ⟨zP,8,_,rfl,⟨rN⟩,(by unfold putT;rw [okT_n om,hC];rfl),(Sat.nilc z2)⟩
 by_cases d0:(⟨t.rectX0,t.rectY0,t.rectX1,t.rectY1⟩:Rct).x0=0/\(⟨t.rectX0,t.rectY0,t.rectX1,t.rectY1⟩:Rct).y0=0/\(⟨t.rectX0,t.rectY0,t.rectX1,t.rectY1⟩:Rct).x1=0/\(⟨t.rectX0,t.rectY0,t.rectX1,t.rectY1⟩:Rct).y1=0
 ·refine qFix 32 _ true (decide_eq_true d0)<|qO rfl<|pu1<|nA<|qF ?_ ?_
  rotate_left
  · exact qO rfl<|pu1<|nA<|qO rfl<|pu1<|nA<|qO rfl<|pu1<|nA<|qV 1<|qV 1<|qV 1<|qV 1<|qV 1<|qO rfl<|pu1<|nA<|qO rfl<|pu1<|nA<|qV 1<|qV 1<|qN<|jXO 5 rfl<|sTk b0 1 rfl [I 0,I 0,I 0,nS] fun _ g1=>jOR 5 rfl<|retD g1 1 [I 0,I 0,I 0,nS] (I 8)<|(by have hC:putC own.v t.part (⟨t.rectX0,t.rectY0,t.rectX1,t.rectY1⟩:Rct) l=8:=(by unfold putC;rw [if_pos hA,if_neg (fun h=>by have A0:=(plane_sz hA.1).1;unfold sizeP at A0;simp only [Plane.v] at A0;have h2:=(ins_in om om).2 (show rIn (⟨t.rectX0,t.rectY0,t.rectX1,t.rectY1⟩:Rct) own.w own.h from h.1);exact h2.1 d0)]);have b3:=(g1.drops [0,0,0,0]);exact ⟨zP,8,_,rfl,⟨rN⟩,(by unfold putT;rw [okT_n om,hC];rfl),(Sat.nilc b3)⟩)
  refine qO rfl<|pu1<|nA<|qO rfl<|pu1<|nA<|qO rfl<|pu1<|nA<|qV 1<|qV 1<|qV 1<|qV 1<|qV 1<|qO rfl<|pu1<|nA<|qO rfl<|pu1<|nA<|qV 1<|qV 1<|qN<|jXO 5 rfl<|sTk b0 1 rfl [I 0,I 0,I 0,nS] fun _ h1=>jOR 5 rfl<|retD h1 1 [I 0,I 0,I 0,nS] (I 8) ?_
  have hC:putC own.v t.part (⟨t.rectX0,t.rectY0,t.rectX1,t.rectY1⟩:Rct) l=8:=by unfold putC;rw [if_pos hA,if_neg (fun h=>by have A0:=(plane_sz hA.1).1;unfold sizeP at A0;simp only [Plane.v] at A0;have h2:=(ins_in om om).2 (show rIn (⟨t.rectX0,t.rectY0,t.rectX1,t.rectY1⟩:Rct) own.w own.h from h.1);exact h2.1 d0)]
  have d3:=(h1.drops [0,0,0,0])
  exact ⟨zP,8,_,rfl,⟨rN⟩,(by unfold putT;rw [okT_n om,hC];rfl),(Sat.nilc d3)⟩
 refine qFix 32 _ false (decide_eq_false d0)<|qO rfl<|gY<|lB b0 3 0 4<|nA<|qF ?_ ?_
 ·refine qO rfl<|gY<|lB b0 0 0 4<|nA<|qO rfl<|gY<|cS (p21_whole own ⟨(hown.pix.fl 4)⟩ b0.flat) fun _ f3=>nA<|qO rfl<|gY<|cS (p2_inside (⟨t.rectX0,t.rectY0,t.rectX1,t.rectY1⟩:Rct) (⟨0,0,own.w,own.h⟩:Rct) f3.flat) fun _ p0=>nA<|qV 1<|qV 1<|qV 1<|bC (insP (⟨t.rectX0,t.rectY0,t.rectX1,t.rectY1⟩:Rct) (⟨0,0,own.w,own.h⟩:Rct)) (fun h0=>qFix 39 _ true (congrArg Bool.not (decide_eq_false h0))<|qV 1<|qV 1<|qO rfl<|pu1<|nA<|qO rfl<|pu1<|nA<|qV 1<|qV 1<|qN<|jXO 5 rfl<|sTk p0 1 rfl [I 0,I 0,I 0,nS] fun _ i1=>jOR 5 rfl<|retD i1 1 [I 0,I 0,I 0,nS] (I 8)<|(by have hC:putC own.v t.part (⟨t.rectX0,t.rectY0,t.rectX1,t.rectY1⟩:Rct) l=8:=(by unfold putC;rw [if_pos hA,if_neg (fun h=>by have A0:=(plane_sz hA.1).1;unfold sizeP at A0;simp only [Plane.v] at A0;have h2:=(ins_in om om).2 (show rIn (⟨t.rectX0,t.rectY0,t.rectX1,t.rectY1⟩:Rct) own.w own.h from h.1);exact h0 h2.2)]);have g3:=(i1.drops [0,0,0,0]);exact ⟨zP,8,_,rfl,⟨rN⟩,(by unfold putT;rw [okT_n om,hC];rfl),(Sat.nilc g3)⟩)) fun h0=>?_
  refine qFix 39 _ false (congrArg Bool.not (decide_eq_true h0))<|qV 1<|qV 1<|qO rfl<|gY<|lB p0 0 0 4<|nA<|qO rfl<|gY<|cS (p2_area (⟨t.rectX0,t.rectY0,t.rectX1,t.rectY1⟩:Rct) (by have A0:=(plane_sz hA.1).1;unfold sizeP at A0;simp only [Plane.v] at A0;have h:=(ins_in om om).1 ⟨d0,h0⟩;unfold rIn at h⊢;dsimp only at h⊢;omega) p0.flat) fun _ j1=>nA<|qV 1<|qV 1<|qN<|jXC 1 rfl<|cN (nl:Int) (((⟨t.rectX0,t.rectY0,t.rectX1,t.rectY1⟩:Rct).x1-(⟨t.rectX0,t.rectY0,t.rectX1,t.rectY1⟩:Rct).x0)*((⟨t.rectX0,t.rectY0,t.rectX1,t.rectY1⟩:Rct).y1-(⟨t.rectX0,t.rectY0,t.rectX1,t.rectY1⟩:Rct).y0)) (fun i3=>jCI 1 rfl<|⟨(),alB,j1,⟨by have A0:=(plane_sz hA.1).1;unfold sizeP at A0;simp only [Plane.v] at A0;exact (ins_in om om).1 ⟨d0,h0⟩,om⟩⟩) fun i3=>jCO 3 rfl<|sTk j1 1 rfl [I 0,I 0,I 0,nS] fun _ k1=>jOR 5 rfl<|retD k1 1 [I 0,I 0,I 0,nS] (I 8) ?_
  have hC:putC own.v t.part (⟨t.rectX0,t.rectY0,t.rectX1,t.rectY1⟩:Rct) l=8:=by unfold putC;rw [if_pos hA,if_neg (fun h=>by have h2:=h.2;dsimp only at h2;omega)]
  have j3:=(k1.drops [0,0,0,0])
  exact ⟨zP,8,_,rfl,⟨rN⟩,(by unfold putT;rw [okT_n om,hC];rfl),(Sat.nilc j3)⟩
 refine qO rfl<|gY<|cS (p21_whole own ⟨(hown.pix.fl 4)⟩ b0.flat) fun _ l1=>nA<|qO rfl<|gY<|lB l1 0 0 4<|nA<|qO rfl<|gY<|cS (p2_inside (⟨t.rectX0,t.rectY0,t.rectX1,t.rectY1⟩:Rct) (⟨0,0,own.w,own.h⟩:Rct) l1.flat) fun _ q0=>nA<|qV 1<|qV 1<|qV 1<|bC (insP (⟨t.rectX0,t.rectY0,t.rectX1,t.rectY1⟩:Rct) (⟨0,0,own.w,own.h⟩:Rct)) (fun i0=>qFix 39 _ true (congrArg Bool.not (decide_eq_false i0))<|qV 1<|qV 1<|qO rfl<|pu1<|nA<|qO rfl<|pu1<|nA<|qV 1<|qV 1<|qN<|jXO 5 rfl<|sTk q0 1 rfl [I 0,I 0,I 0,nS] fun _ m1=>jOR 5 rfl<|retD m1 1 [I 0,I 0,I 0,nS] (I 8)<|(by have hC:putC own.v t.part (⟨t.rectX0,t.rectY0,t.rectX1,t.rectY1⟩:Rct) l=8:=(by unfold putC;rw [if_pos hA,if_neg (fun h=>by have A0:=(plane_sz hA.1).1;unfold sizeP at A0;simp only [Plane.v] at A0;have h2:=(ins_in om om).2 (show rIn (⟨t.rectX0,t.rectY0,t.rectX1,t.rectY1⟩:Rct) own.w own.h from h.1);exact i0 h2.2)]);have l3:=(m1.drops [0,0,0,0]);exact ⟨zP,8,_,rfl,⟨rN⟩,(by unfold putT;rw [okT_n om,hC];rfl),(Sat.nilc l3)⟩)) fun i0=>?_
 refine qFix 39 _ false (congrArg Bool.not (decide_eq_true i0))<|qV 1<|qV 1<|qO rfl<|gY<|lB q0 0 0 4<|nA<|qO rfl<|gY<|cS (p2_area (⟨t.rectX0,t.rectY0,t.rectX1,t.rectY1⟩:Rct) (by have A0:=(plane_sz hA.1).1;unfold sizeP at A0;simp only [Plane.v] at A0;have h:=(ins_in om om).1 ⟨d0,i0⟩;unfold rIn at h⊢;dsimp only at h⊢;omega) q0.flat) fun _ n1=>nA<|qV 1<|qV 1<|qN<|jXC 1 rfl<|cN (nl:Int) (((⟨t.rectX0,t.rectY0,t.rectX1,t.rectY1⟩:Rct).x1-(⟨t.rectX0,t.rectY0,t.rectX1,t.rectY1⟩:Rct).x0)*((⟨t.rectX0,t.rectY0,t.rectX1,t.rectY1⟩:Rct).y1-(⟨t.rectX0,t.rectY0,t.rectX1,t.rectY1⟩:Rct).y0)) (fun n3=>jCI 1 rfl<|⟨(),alB,n1,⟨by have A0:=(plane_sz hA.1).1;unfold sizeP at A0;simp only [Plane.v] at A0;exact (ins_in om om).1 ⟨d0,i0⟩,om⟩⟩) fun n3=>jCO 3 rfl<|sTk n1 1 rfl [I 0,I 0,I 0,nS] fun _ o1=>jOR 5 rfl<|retD o1 1 [I 0,I 0,I 0,nS] (I 8) ?_
 have hC:putC own.v t.part (⟨t.rectX0,t.rectY0,t.rectX1,t.rectY1⟩:Rct) l=8:=by unfold putC;rw [if_pos hA,if_neg (fun h=>by have h2:=h.2;dsimp only at h2;omega)]
 have o3:=(o1.drops [0,0,0,0])
 exact ⟨zP,8,_,rfl,⟨rN⟩,(by unfold putT;rw [okT_n om,hC];rfl),(Sat.nilc o3)⟩
end Go.Proofs.YtghcddbhllkbmaaGreat

namespace Go.Proofs.YtghcddbhllkbmaaGreat
open Go Go.E Go.Proofs.Tryz
set_option linter.all false
set_option maxRecDepth 100000
set_option maxHeartbeats 2000000
variable {W w:World} {H:Chunk} {F:List Chunk}
theorem sy1:cmpT ⟨5,0,-1,false,0,0,0,0,[],[],[],0,0,[],[],0,[],0⟩ 0 ⟨1,0,2,2⟩ ⟨2,2,9,[1,2,3,4]⟩ (if twoP ⟨5,0,-1,false,0,0,0,0,[],[],[],0,0,[],[],0,[],0⟩ then ⟨0,0,0,[]⟩ else zPl) ⟨2,2,36,[1,0,4,0]⟩ []=([3,10],0):=by decide+kernel
theorem sy2:putT ⟨2,2,36,[1,0,4,0]⟩ 0 ⟨1,0,2,2⟩ [3,10]=((⟨2,2,36,[1,3,4,10]⟩:PlaneV),0):=by decide+kernel
theorem l21_sane (hS:Sat W w (H::F)):
  Ro prog 17 #[] (.bool true) W w (H::F):=by
 refine callsK 68 func17 rfl<|jCO 7 rfl<|sBS hS #[I 1,I 2,I 3,I 4] runUnderlying22 sizeOf3 zeroValue3 fun k0 _ p0=>pu1<|sAlloc p0 zeroValue38 fun _ _ q0=>sTl q0 0 [I 2,I 2,I 9, .slice (At k0 0) 4 4] sizeOf38 fun _ r0=>jOO 4 rfl<|sBS r0 #[I 1,I 0,I 4,I 0] runUnderlying22 sizeOf3 zeroValue3 fun d0 _ s0=>pu1<|sAlloc s0 zeroValue38 fun _ _ t0=>sTl t0 0 [I 2,I 2,I 36, .slice (At d0 0) 4 4] sizeOf38 fun _ u0=>jOO 5 rfl<|sAlloc u0 zeroValue53 fun _ _ v0=>sTl v0 0 (encStage {zStage with kind:=5,b:=-1}) sizeOf53 fun _ w0=>jOO 6 rfl<|sAlloc w0 zeroValue47 fun _ _ x0=>sTl x0 0 [I 0,I 0,I 1,I 0,I 2,I 2,nS,I 2,I 0] sizeOf47 fun _ l0=>gOO l0 9 [1801,900,404,402] rfl ?_
 refine cX call14 (p21_compute (⟨5,0,-1,false,0,0,0,0,⟨none,0,0,[]⟩,⟨none,0,0,[]⟩,⟨none,0,0,[]⟩,0,0,⟨none,0,0,[]⟩,⟨none,0,0,[]⟩,0,⟨none,0,0,[]⟩,0⟩:Stage) (⟨0,0,1,0,2,2,⟨none,0,0,[]⟩,2,0⟩:Task) (⟨2,2,9,⟨(At k0 0),4,4,[1,2,3,4]⟩⟩:Plane) (⟨0,0,0,⟨none,0,0,[]⟩⟩:Plane) (⟨2,2,36,⟨(At d0 0),4,4,[1,0,4,0]⟩⟩:Plane) none 0 0 ([]) ⟨(RdT.nil (enc:=Go.E.encI) (sz:=1) fR _),(RdT.nil (enc:=Go.E.encI) (sz:=1) fR _),(RdT.nil (enc:=Go.E.encI) (sz:=1) fR _),(RdT.nil (enc:=encTap) (sz:=2) fR _),(fun z hz=>by cases hz),(RdT.nil (enc:=encTap) (sz:=2) fR _),(fun z hz=>by cases hz),(RdT.nil (enc:=encPOp) (sz:=2) fR _)⟩ ⟨(RdT.nil (enc:=Go.E.encI) (sz:=1) fR _)⟩ ⟨(RdT.flat (RdT.blk (enc:=Go.E.encI) (sz:=1) (xs:=[1,2,3,4]) (fun _=>(by rfl)) 4 5 rfl rfl rfl om))⟩ ⟨(RdT.nil (enc:=Go.E.encI) (sz:=1) fR _)⟩ ⟨(RdT.flat (RdT.blk (enc:=Go.E.encI) (sz:=1) (xs:=[1,0,4,0]) (fun _=>(by rfl)) 4 3 rfl rfl rfl om))⟩ (RdT.nil (enc:=encIL) (sz:=1) fR _) (fun z hz=>by cases hz) l0.flat) ?_
 rintro _ _ ⟨_,m0,_,n0,e0,_,rfl,c0,y0,z0⟩
 have o0:=z0.unflat1
 have hn_az_35:=c0.len;have hl_az_35:=c0.le
 have hx9:(n0,e0)=([3,10],0):=y0.trans sy1
 have hz9:n0=[3,10]:=congrArg Prod.fst hx9;have hc9:e0=0:=congrArg Prod.snd hx9;have hn9:m0=2:=by have h:=hn_az_35;rw [hz9] at h;exact h.symm
 refine gOO o0 11 [403,901] rfl<|sBS o0 #[I 3,I 10] runUnderlying22 sizeOf3 zeroValue3 fun a1 _ b1=>cX call15 (p21_put (⟨2,2,36,⟨(At d0 0),4,4,[1,0,4,0]⟩⟩:Plane) (⟨0,0,1,0,2,2,⟨none,0,0,[]⟩,2,0⟩:Task) (At a1 0) 2 2 ([3,10]) ⟨(RdT.flat (RdT.blk (enc:=Go.E.encI) (sz:=1) (xs:=[1,0,4,0]) (fun _=>(by rfl)) 4 5 rfl rfl rfl om))⟩ ⟨(RdT.nil (enc:=Go.E.encI) (sz:=1) fR _)⟩ (RdT.flat (RdT.blk (enc:=Go.E.encI) (sz:=1) (xs:=[3,10]) (fun _=>(by rfl)) 2 0 rfl rfl rfl om)) b1.flat) ?_
 rintro _ _ ⟨b0,f0,_,rfl,g0,c1,d1⟩
 have e1:=d1.unflat1
 have hn_q_45_pix:=g0.pix.len;have hl_q_45_pix:=g0.pix.le
 have hx8:(b0.v,f0)=((⟨2,2,36,[1,3,4,10]⟩:PlaneV),0):=c1.trans sy2
 have hz8:b0.pix.l=[1,3,4,10]:=congrArg (fun z=>z.1.pix) hx8;have hc8:f0=0:=congrArg Prod.snd hx8;have hn8:b0.pix.n=4:=by have h:=hn_q_45_pix;rw [hz8] at h;exact h.symm
 refine pu3<|sAlloc e1 zeroValue38 fun _ _ f1=>sTl f1 0 (encPlane b0) sizeOf38 fun _ a0=>jOO 8 rfl ?_
 have g1:(e0:Int)=0:=by omega
 refine sFix 34 _ true (beq_iff_eq.2 g1)<|pu5 ?_
 have h1:((m0:Int):Int)=2:=by omega
 refine sFix 39 _ true (beq_iff_eq.2 h1)<|pu1<|gY<|sIdx c0 0 runUnderlying22 sizeOf3 fun h0 _ _ i1 j1=>?_
 have hv_x_57:h0=3:=by have h:=i1;rw [hz9] at h;exact (Option.some.inj h).symm
 refine gY<|sLp a0 (j1.up 3 rfl) 0 (I h0) (isAgg3 _)<|pu3 ?_
 have k1:(h0:Int)=3:=by omega
 refine sFix 45 _ true (beq_iff_eq.2 k1)<|pu1<|gY<|sIdx c0 1 runUnderlying22 sizeOf3 fun i0 _ _ l1 m1=>?_
 have hv_x_63:i0=10:=by have h:=l1;rw [hz9] at h;exact (Option.some.inj h).symm
 refine gY<|sLp a0 (m1.up 3 rfl) 0 (I i0) (isAgg3 _)<|pu3 ?_
 have n1:(i0:Int)=10:=by omega
 refine sFix 51 _ true (beq_iff_eq.2 n1)<|pu4 ?_
 have o1:(f0:Int)=0:=by omega
 refine sFix 55 _ true (beq_iff_eq.2 o1)<|gOO a0 6 [0] rfl ?_
 have q1:((b0.pix.n:Int):Int)=4:=by omega
 refine sFix 61 _ true (beq_iff_eq.2 q1)<|gOO a0 2 [0] rfl<|gY<|sIdx g0.pix 3 runUnderlying22 sizeOf3 fun j0 _ _ r1 s1=>?_
 have hv_x_71:j0=10:=by have h:=r1;rw [hz8] at h;exact (Option.some.inj h).symm
 exact gY<|sLp a0 (s1.up 1 rfl) 0 (I j0) (isAgg3 _)<|jOR 6 rfl<|retT [.bool ((j0:Int)==10)]<|⟨rB (by rw [Bool.eq_iff_iff];simp;omega),(a0.drops [0,0,0,0,0,0,0,0,0,0])⟩
theorem Stage.Ok.m {cs cs':List Chunk} {x:Stage} (h:Stage.Ok cs x) (hm:∀p∈cs.flatten,p∈cs'.flatten:=by intro p hp;simp at hp⊢;simp [hp]):Stage.Ok cs' x:=h.of_mem hm
section
variable {ni:Int} {S:List StageV} {s:StageV} (hn:0<=ni) (hs:∀t∈S,∀x∈srcs t,0<=x/\x<ni+S.length)
include hn hs
end
theorem r18_same (aa:Option Addr) (na ka:Nat) (a:List Plane) (ab:Option Addr) (nb kb:Nat) (b:List Plane) (ha:RdT encPlane 4 [H] aa na ka a) (da:∀z∈a,Plane.Ok [H] z) (hb:RdT encPlane 4 [H] ab nb kb b) (db:∀z∈b,Plane.Ok [H] z) (hS:Sat W w (H::F)):
  Ro prog 16 #[.slice aa na ka, .slice ab nb kb] (.bool (decide (a.map Plane.v=b.map Plane.v))) W w (H::F):=by
 have o0:=ha.ll
 have t0:=hb.ll
 refine callsK 27 func16 rfl<|jCC 15 rfl<|CN (na:Int) (nb:Int) (fun g0=>jCR 7 rfl<|retT [.bool false]<|⟨by rw [decide_eq_false (fun h=>by have h2:=congrArg List.length h;rw [List.length_map,List.length_map] at h2;omega)];rfl,hS⟩) fun g0=>jCC 9 rfl<|loopF [0,1] (γ:=Nat) (fun i R=>⟨[(5,I (i:Int))],R,na-i,i<=na/\((a.map Plane.v).take i=(b.map Plane.v).take i)⟩) 0 ⟨hS,om,by simp⟩ ?_
 rintro i ρ _ ⟨e0,hi,hE⟩
 refine jCC 9 rfl<|CD ((i:Int)<(na:Int)) (fun h0=>jCR 11 rfl<|retT [.bool true]<|⟨by rw [decide_eq_true (eq_of_take hE (by rw [List.length_map];omega) (by rw [List.length_map];omega))];rfl,e0⟩) fun h0=>jCC 5 rfl ?_
 obtain ⟨c0,p0,q0,a0,i0,j0⟩:=RdT.eN ha i
 obtain ⟨d0,r0,s0,b0,k0,l0⟩:=RdT.eN hb i
 exact drawF e0 [8] (fp 3 (i0.up 0 rfl)<|fp 7 (k0.up 0 rfl)<|fn) [0,1,2,4,5,6,3,7,8,9] fun _ m0=>wV 2<|wI j0<|wV 2<|wI l0<|wG 0 4<|wG 4 4<|wO rfl<|cS (r4_equal c0 d0 ⟨(RdT.flat ((da c0 (List.mem_of_getElem? a0)).pix.up 0 (by rfl)))⟩ ⟨(RdT.flat ((db d0 (List.mem_of_getElem? b0)).pix.up 0 (by rfl)))⟩ m0.flat) fun _ f0=>nA<|wV 1<|wN<|jXC 1 rfl<|CDn (c0.v=d0.v) (fun n0=>jCR 11 rfl<|retT [.bool false]<|⟨by rw [decide_eq_false (ne_of_at (map_at (f:=Plane.v) a0) (map_at (f:=Plane.v) b0) ‹_›)];rfl,f0⟩) fun n0=>jCO 5 rfl<|sAdd (i:Int) 1<|jOI 2 rfl<|⟨i+1,od,alB,f0,om,take_eq_succ hE (map_at (f:=Plane.v) a0) (map_at (f:=Plane.v) b0) ‹_›⟩
theorem kern_any {q:StageV} {s t u:Shape} (h:¬twoP q):kernelV q s t=kernelV q s u:=by
  unfold twoP at h
  have hd:decide (q.kind=6/\¬q.b=-1)=false:=decide_eq_false h
  have hp:∀a b c,pwCode q.ops false a b c=pwCode q.ops false a 1 c:=fun a b c=>rfl
  unfold kernelV
  rw [hd,hp s.max_ t.max_,hp s.max_ u.max_]
  simp only [h,false_and,if_false]
theorem of_any {q:StageV} {s t u:Shape} (h:¬twoP q):ofV q s t=ofV q s u:=by
  unfold ofV
  rw [kern_any (t:=t) (u:=u) h]
  simp only [h,not_false_eq_true,true_or]
theorem pwT_any {p q u:PlaneV} {l:List POp} {out:Int} {r:Rct}:pwT p q false l out r=pwT p u false l out r:=by
  unfold pwT
  rw [show pwCode l false p.max_ q.max_ out=pwCode l false p.max_ u.max_ out from rfl]
  have hx:pwX p q false l out=pwX p u false l out:=rfl
  rw [hx]
  simp only [Bool.false_eq_true,false_implies,and_true,true_and]
theorem stgT_any {s:StageV} {p q u:PlaneV} (h:¬twoP s):stgT s p q=stgT s p u:=by
  unfold stgT
  rw [of_any (t:=shpOf q) (u:=shpOf u) h,decide_eq_false h,pwT_any (q:=q) (u:=u)]
  simp only [h,false_implies,and_true]
theorem stgT_if {s:StageV} {p q:PlaneV}:stgT s p (if twoP s then q else zPl)=stgT s p q:=by
  by_cases h:twoP s
  · rw [if_pos h]
  · rw [if_neg h];exact stgT_any h
theorem asc_take_le {l:List Int} {n y:Int} {m:Nat} (h:Asc l) (hy:l[m-1]?=some y) (hn:y<=n) (h0:0<m):∀x∈l.take m,x<=n:=by
  intro x hx
  obtain ⟨j,hj⟩:=List.getElem?_of_mem hx
  rw [List.getElem?_take] at hj
  split at hj
  · rename_i hjm
    by_cases e:j=m-1
    · subst e;rw [hy] at hj;have:=Option.some.inj hj;omega
    · exact (by obtain ⟨h1,e1⟩:=List.getElem?_eq_some_iff.1 hj;obtain ⟨h2,e2⟩:=List.getElem?_eq_some_iff.1 hy;have:=List.pairwise_iff_getElem.1 h j (m-1) h1 h2 (by omega);rw [e1,e2] at this;omega)
  · cases hj
theorem ins_hit {l:List Int} {n:Int} {m:Nat} (h:Asc l) (hm:m<=l.length) (h2:∀x∈l.drop m,n<x) (h0:0<m) (he:l[m-1]?=some n):insU n l=l:=by
  rw [insU_split h hm (asc_take_le h he (Int.le_refl _) h0) h2,if_pos ⟨h0,he⟩]
theorem ins_put {l:List Int} {n:Int} {m:Nat} (h:Asc l) (hm:m<=l.length) (h2:∀x∈l.drop m,n<x) (h1:m=0\/∃y,l[m-1]?=some y/\y<n):
  ((l++[0]).take (m+1)++((l++[0]).drop m).take (l.length+1-(m+1))).set m n=insU n l:=by
 have ht:∀x∈l.take m,x<=n:=by
  rcases h1 with rfl|⟨y,hy,hl⟩
  ·simp
  ·by_cases e:m=0
   ·subst e;simp
   ·exact asc_take_le h hy om om
 have a0:¬(0<m/\l[m-1]?=some n):=by
  rintro ⟨h3,h4⟩
  rcases h1 with rfl|⟨y,hy,hl⟩
  ·omega
  ·rw [h4] at hy;have:=Option.some.inj hy;omega
 rw [insU_split h hm ht h2,if_neg a0]
 have hz:(l++[0])[m]?=some ((l++[0])[m]'(by simp;omega)):=List.getElem?_eq_getElem _
 rw [List.take_add_one,hz,Option.toList_some,List.take_append_of_le_length hm,List.drop_append_of_le_length hm,List.take_append_of_le_length (by rw [List.length_drop];omega),List.take_of_length_le (l:=List.drop m l) (by rw [List.length_drop];omega),List.append_assoc,List.set_append_right _ _ (by rw [List.length_take];omega),List.length_take,Nat.min_eq_left hm,Nat.sub_self]
 rfl
theorem drop_lt {l:List Int} {n y:Int} {m:Nat} (h2:∀x∈l.drop (m+1),n<x) (hy:l[m]?=some y) (hn:n<y):∀x∈l.drop m,n<x:=by
  obtain ⟨hl,e⟩:=List.getElem?_eq_some_iff.1 hy
  intro x hx
  rw [List.drop_eq_getElem_cons hl,e] at hx
  rcases List.mem_cons.1 hx with rfl|hx
  · exact hn
  · exact h2 x hx
def insV (fr:Int) (more l:List Int):List Int:=(more.map (fr+·)).foldl (fun a n=>insU n a) l
theorem insV_succ {fr x:Int} {more l:List Int} {i:Nat} (h:more[i]?=some x):insV fr (more.take (i+1)) l=insU (fr+x) (insV fr (more.take i) l):=by
  unfold insV
  rw [List.take_add_one,h,Option.toList_some,List.map_append,List.foldl_append];rfl
theorem insV_asc {fr:Int} {more l:List Int} (h:Asc l):Asc (insV fr more l):=insF_asc _ h
theorem insV_canon (fr:Int) (more l:List Int):insV fr more (canonV l)=canonV (l++more.map (fr+·)):=(canon_app l _).symm
theorem insU_len (n:Int):∀l:List Int,(insU n l).length<=l.length+1
  |[]=>by simp [insU]
  |x::l=>by
    have:=insU_len n l
    simp only [insU]
    repeat' split
    all_goals simp only [List.length_cons] at*;omega
theorem insV_len (fr:Int) (more:List Int):∀l:List Int,(insV fr more l).length<=l.length+more.length:=by
  unfold insV
  induction more with
  |nil=>intro l;simp
  |cons x more ih=>
    intro l
    have h1:=ih (insU (fr+x) l);have h2:=insU_len (fr+x) l
    rw [List.map_cons,List.foldl_cons,List.length_cons];omega
theorem kern_one {q:StageV} {s t:Shape} (h:¬twoP q):kernelV q s t=kernelV q s s:=by
  unfold twoP at h
  have hd:decide (q.kind=6/\¬q.b=-1)=false:=decide_eq_false h
  have hp:∀a b c,pwCode q.ops false a b c=pwCode q.ops false a 1 c:=fun a b c=>rfl
  unfold kernelV
  rw [hd,hp s.max_ t.max_,hp s.max_ s.max_]
  simp only [h,false_and,if_false]
theorem of_one {q:StageV} {s t:Shape} (h:¬twoP q) (h0:(ofV q s t).2=0):(ofV q s s).2=0:=by
  have e:ofV q s s=ofV q s t:=(by unfold ofV;rw [kern_one (t:=t) h];simp only [h,not_false_eq_true,true_or])
  rw [e];exact h0
theorem LayG.scr {L:Lay} (g:LayG L) {x p:Int} {r:Rct} (hx:x∈L.od) (h2:¬twoP (L.st x)) (hp:belongP (L.st x).kind p) (hr:inP r):
    scrV (L.st x) (shpAt L.sh (L.st x).a) p r=bytV (L.st x) (shpAt L.sh (L.st x).a).h r:=by
  have h:=g.fit x hx
  unfold FitP shpStep at h
  unfold scrV
  rw [if_pos ⟨of_one h2 (congrArg Prod.snd h),hp,hr⟩]
theorem byt_two {s:StageV} {h:Int} {r:Rct} (h2:twoP s):bytV s h r=alnV (8*(r.x1-r.x0)):=by
  have:=h2.1
  unfold bytV cellsV
  rw [if_neg (by omega),if_neg (by omega),if_neg (by omega),if_neg (by omega),if_neg (by omega)]
theorem perm_sum {f:Int->Int} {l l':List Int} (h:l.Perm l'):(l.map f).sum=(l'.map f).sum:=by
  induction h with
  |nil=>rfl
  |cons x _ ih=>simp [ih]
  |swap x y l=>simp;omega
  |trans _ _ h1 h2=>exact h1.trans h2
def ixs (L:Lay) (k:Nat):List Int:=(List.range k).map fun (i:Nat)=>L.ni+(i:Int)
theorem ixs_succ (L:Lay) (k:Nat):ixs L (k+1)=ixs L k++[L.ni+(k:Int)]:=by unfold ixs;rw [List.range_succ,List.map_append];rfl
theorem LayG.perm {L:Lay} (g:LayG L):(ixs L L.ss.length).Perm L.od:=by
  refine (List.perm_ext_iff_of_nodup ?_ g.nd).2 (fun x=>?_)
  · exact (by unfold ixs;rw [List.nodup_iff_pairwise_ne,List.pairwise_map];exact List.Pairwise.imp (fun h=>by omega) List.pairwise_lt_range)
  · unfold ixs
    simp only [List.mem_map,List.mem_range]
    constructor
    · rintro ⟨i,hi,rfl⟩;exact g.every _ (by omega) (by omega)
    · intro hx;have:=g.rng x hx;exact ⟨(x-L.ni).toNat,by omega,by omega⟩
theorem LayG.total_ix {L:Lay} (g:LayG L):((ixs L L.ss.length).map L.cnt).sum=L.total:=perm_sum g.perm
theorem ixs_sum {L:Lay} {f:Int->Int} (k:Nat):((ixs L (k+1)).map f).sum=((ixs L k).map f).sum+f (L.ni+(k:Int)):=by
  rw [ixs_succ,List.map_append,List.sum_append];simp
theorem ixs_bd {L:Lay} {f:Int->Int} {B:Int}:∀k:Nat,(∀i:Nat,i<k->0<=f (L.ni+(i:Int))/\f (L.ni+(i:Int))<=B)->0<=((ixs L k).map f).sum/\((ixs L k).map f).sum<=B*k
  |0,_=>by simp [ixs]
  |k+1,h=>by
    have ih:=ixs_bd k (fun i hi=>h i (by omega));have hk:=h k (by omega)
    rw [ixs_sum]
    rw [show B*((k+1:Nat):Int)=B*k+B by push_cast;rw [Int.mul_add,Int.mul_one]]
    omega
theorem LayG.ix {L:Lay} (g:LayG L) {i:Nat} (h:i<L.ss.length):L.ni+(i:Int)∈L.od:=g.every _ (by omega) (by omega)
theorem r20_upto (n:Int) (hb:n<=1000000) (hS:Sat W w (H::F)):
  Calls prog 44 #[I n] w fun e w'=>∃(az:Option Addr) (nz kz:Nat) (G:Chunk),e= .returned (.slice az nz kz)/\OwnT Go.E.encI 3 1 az nz kz (uptoV n.toNat) G/\Sat W w' (G::H::F):=by
 refine callsK 15 func44 rfl<|jCC 17 rfl<|loopF [0] (γ:=Nat×(List Int)×SO) (fun ⟨i,zs,k0,c0,l0,m0⟩ R=>⟨[(4,I (i:Int)),(3, .slice k0 c0 l0)],m0::R,n.toNat-i,i<=n.toNat/\(zs=uptoV i)/\OwnT Go.E.encI 3 1 k0 c0 l0 zs m0⟩) (0,[],none,0,0,[]) ⟨(Sat.nilc hS),om,by rfl,(OwnT.nil (enc:=Go.E.encI) (E:=3) (sz:=1) fR)⟩ ?_
 rintro ⟨i,zs,k0,c0,l0,m0⟩ ρ _ ⟨a0,hi,hE,b0⟩
 have n0:=b0.ll
 refine jCC 8 rfl<|CD ((i:Int)<n) (fun d0=>jCR 12 rfl<|retT [.slice k0 c0 l0]<|(by have hl:zs=uptoV n.toNat:=(by rw [hE,show i=n.toNat by omega]);have o0:=b0;rw [hl] at o0;exact ⟨_,_,_,_,rfl,o0,a0⟩)) fun d0=>jCC 4 rfl ?_
 have p0:zs.length=i:=by rw [hE,upto_len]
 exact jCO 3 rfl<|sBK a0 #[I (i:Int)] 3 fun _ _ e0=>sApp (nb:=8) e0 b0 1 (RdT.blk (enc:=Go.E.encI) (sz:=1) (xs:=[(i:Int)]) fR 1 0 rfl rfl rfl om) underlying22 (i:=Tryz.t3) kr fR fun f0 g0 h0 _ i0 j0=>jOO 6 rfl<|sAdd (i:Int) 1<|jOI 2 rfl<|⟨(i+1,(zs++[(i:Int)]),f0,(c0+1),g0,h0),od,alB,(j0.dropAt 0 rfl),om,(by rw [hE,upto_succ]),i0⟩
theorem r20_insert {a:Option Addr} {n k:Nat} {ds:List Int} {D:Chunk} (hO:OwnT Go.E.encI 3 1 a n k ds D) {am:Option Addr} {nm km:Nat} {ms:List Int} (hM:RdT Go.E.encI 1 [H] am nm km ms) (fr:Int) (hA:Asc ds) (hmb:∀x∈ms,-1000000<=x/\x<=1000000) (hfr:-1000000<=fr/\fr<=1000000) (hnn:n<=1000000/\nm<=1000000) (hS:Sat W w (D::H::F)):
  Calls prog 43 #[.slice a n k, .slice am nm km,I fr] w fun e w'=>∃(az:Option Addr) (nz kz:Nat) (Z:Chunk),e= .returned (.slice az nz kz)/\OwnT Go.E.encI 3 1 az nz kz (insV fr ms ds) Z/\Sat W w' (Z::H::F):=by
 have hl0:=hO.le;have hn0:=hO.len;have hl1:=hM.le;have hn1:=hM.len
 refine callsK 64 func43 rfl<|jCC 12 rfl<|loopF [1,2] (γ:=Nat×(List Int)×(Option Addr)×Nat×Nat×Chunk) (fun ⟨i,zs,azs,nzs,kzs,czs⟩ R=>⟨[(7,I (i:Int)),(0, .slice azs nzs kzs)],czs::R,nm-i,i<=nm/\(zs=insV fr (ms.take i) ds)/\OwnT Go.E.encI 3 1 azs nzs kzs zs czs⟩) (0,ds,a,n,k,D) ⟨hS,om,by rfl,hO⟩ ?_
 rintro ⟨i,zs,azs,nzs,kzs,czs⟩ ρ _ ⟨k0,hi,hE,hOzs⟩
 have hn_zs:=hOzs.len;have hl_zs:=hOzs.le
 refine jCC 9 rfl<|cD ((i:Int)<(nm:Int)) (fun q0=>?_) (fun q0=>?_)
 rotate_left
 ·refine jCR 12 rfl<|retT [.slice azs nzs kzs] ?_
  have hz:zs=insV fr ms ds:=by rw [hE,List.take_of_length_le om]
  exact ⟨_,_,_,_,rfl,by rw [<-hz];exact hOzs,k0⟩
 refine jCO 9 rfl<|sIdx hM (i:Int) runUnderlying22 sizeOf3 fun a0 _ _ f0 r0=>?_
 rw [Int.toNat_natCast] at f0
 have hmb:=hmb a0 (List.mem_of_getElem? f0)
 refine sLp k0 (r0.up 1 rfl) 0 (I a0) (isAgg3 _)<|sAdd fr a0<|jOC 4 rfl ?_
 have hzl:zs.length<=n+i:=by rw [hE,<-hn0];have h:=insV_len fr (ms.take i) ds;have h2:(ms.take i).length<=i:=(by rw [List.length_take];omega);omega
 have hasc:Asc zs:=hE▸insV_asc hA
 refine jCC 8 rfl<|loopF [1,2,7,0,8] (γ:=Nat×Int) (fun ⟨k,am_⟩ R=>⟨[(9,I am_)],R,zs.length-k,k<=zs.length/\(am_=(nzs:Int)-(k:Int))/\(∀x∈zs.drop am_.toNat,(fr+a0)<x)⟩) (0,(nzs:Int)) ⟨k0,om,om,(by rw [List.drop_of_length_le om];intro x hx;cases hx)⟩ ?_
 rintro ⟨k,am_⟩ ρ _ ⟨d0,hk,hat,hd⟩
 refine jCO 6 rfl<|sD 26 (am_>0) (fun l0=>?_) (fun l0=>?_)
 rotate_left
 ·refine jOC 18 rfl ?_
  have hm9:am_.toNat<=zs.length:=by omega
  refine jCO 4 rfl<|sFix 39 _ false (decide_eq_false l0)<|jOO 16 rfl<|sBS d0 #[I 0] runUnderlying22 sizeOf3 zeroValue3 fun _ _ s0=>sApp (nb:=8) s0 hOzs 1 (RdT.blk (enc:=Go.E.encI) (sz:=1) (xs:=[0]) fR 1 0 rfl rfl rfl om) underlying22 (i:=Tryz.t3) kr fR fun g0 b0 _ _ i0 t0=>jOX 2 rfl ?_
  have hlq:=(i0).le
  refine jXC 2 rfl<|drawF t0 [7] (fn) [0,1,2,3,4,5,6,7] fun _ u0=>wV 2<|wAdd am_ 1 ?_
  have c2:=i0.part (lo:=((am_+1)).toNat) (hi:=(nzs+1)) om om
  refine wY (.slice (partAddr g0 b0 (((am_+1)).toNat) 1) ((nzs+1)-(((am_+1)).toNat)) (b0-(((am_+1)).toNat))) rfl (fun w _=>Y_sl (a:=g0) (len:=(nzs+1)) (cap:=b0) (some (am_+1)) none (((am_+1)).toNat) (nzs+1) runUnderlying22 sizeOf3 ⟨om,om⟩ rfl om om)<|wV 2 ?_
  have d2:=i0.part (lo:=(am_).toNat) (hi:=(nzs+1)) om om
  refine wY (.slice (partAddr g0 b0 ((am_).toNat) 1) ((nzs+1)-((am_).toNat)) (b0-((am_).toNat))) rfl (fun w _=>Y_sl (a:=g0) (len:=(nzs+1)) (cap:=b0) (some am_) none ((am_).toNat) (nzs+1) runUnderlying22 sizeOf3 ⟨om,om⟩ rfl om om)<|wO rfl<|sCopy (N:=_) u0 i0 1 (((am_+1)).toNat) ((am_).toNat) om om runUnderlying22 sizeOf3 (fun z v hv=>by simp only [Go.E.encI,List.mem_singleton] at hv;subst hv;rfl) fun _ _ n0 v0=>nA<|wN<|jXO 5 rfl<|sIdxO n0 am_ (am_).toNat runUnderlying22 sizeOf3 fun w0 _ _ x0 _ y0=>sStF v0 n0 y0 1 (am_).toNat 0 w0 (fr+a0) x0 (I (fr+a0)) [I (fr+a0)] sizeOf3 fun _ z0 a1 b1=>jOO 5 rfl<|sAdd (i:Int) 1<|jOI 2 rfl ?_
  have hput:=ins_put hasc hm9 hd (.inl om)
  exact ⟨(i+1,(((zs++[0]).take (((am_+1)).toNat)++((zs++[0]).drop ((am_).toNat)).take ((nzs+1)-(((am_+1)).toNat))).set ((am_).toNat) (fr+a0)),g0,(nzs+1),b0,z0),od,alB,(b1.dropAt 0 rfl),om,(by rw [insV_succ f0,<-hE,show (am_+1).toNat=am_.toNat+1 by omega,<-hn_zs];exact hput),a1⟩
 refine pu2<|gY<|sSub am_ 1<|gY<|sIdxO hOzs (am_-1) ((am_-1)).toNat runUnderlying22 sizeOf3 fun e0 _ _ o0 d1 _=>gY<|sLp d0 (d1.up 0 rfl) 0 (I e0) (isAgg3 _)<|jOC 5 rfl<|cD (e0>(fr+a0)) (fun e1=>?_) (fun e1=>?_)
 ·refine jCO 5 rfl<|sSub am_ 1<|jOI 3 rfl ?_
  exact ⟨(k+1,(am_-1)),od,alB,d0,om,om,(by have h:=drop_lt (m:=(am_-1).toNat) (by rw [show (am_-1).toNat+1=am_.toNat by omega];exact hd) o0 om;exact h)⟩
 refine jCC 7 rfl ?_
 have hm9:am_.toNat<=zs.length:=by omega
 refine jCO 4 rfl<|sFix 39 _ true (decide_eq_true l0)<|pu2<|gY<|sSub am_ 1<|gY<|sIdxO hOzs (am_-1) ((am_-1)).toNat runUnderlying22 sizeOf3 fun f1 _ _ m0 g1 _=>?_
 obtain rfl:e0=f1:=Option.some.inj (o0.symm.trans m0)
 refine gY<|sLp d0 (g1.up 0 rfl) 0 (I e0) (isAgg3 _)<|jOC 5 rfl<|cE e0 (fr+a0) (fun h1=>?_) (fun h1=>?_)
 ·refine jCO 6 rfl<|sAdd (i:Int) 1<|jOI 2 rfl ?_
  exact ⟨(i+1,zs,azs,nzs,kzs,czs),od,alB,d0,om,(by rw [insV_succ f0,<-hE];exact (ins_hit hasc hm9 hd om (by rw [show am_.toNat-1=(am_-1).toNat by omega,m0];congr 1<;>omega)).symm),hOzs⟩
 refine jCO 5 rfl<|sBS d0 #[I 0] runUnderlying22 sizeOf3 zeroValue3 fun _ _ i1=>sApp (nb:=8) i1 hOzs 1 (RdT.blk (enc:=Go.E.encI) (sz:=1) (xs:=[0]) fR 1 0 rfl rfl rfl om) underlying22 (i:=Tryz.t3) kr fR fun h0 c0 _ _ j0 j1=>jOX 2 rfl ?_
 have hlq:=(j0).le
 refine jXC 2 rfl<|drawF j1 [7] (fn) [0,1,2,3,4,5,6,7] fun _ k1=>wV 2<|wAdd am_ 1 ?_
 have w2:=j0.part (lo:=((am_+1)).toNat) (hi:=(nzs+1)) om om
 refine wY (.slice (partAddr h0 c0 (((am_+1)).toNat) 1) ((nzs+1)-(((am_+1)).toNat)) (c0-(((am_+1)).toNat))) rfl (fun w _=>Y_sl (a:=h0) (len:=(nzs+1)) (cap:=c0) (some (am_+1)) none (((am_+1)).toNat) (nzs+1) runUnderlying22 sizeOf3 ⟨om,om⟩ rfl om om)<|wV 2 ?_
 have x2:=j0.part (lo:=(am_).toNat) (hi:=(nzs+1)) om om
 refine wY (.slice (partAddr h0 c0 ((am_).toNat) 1) ((nzs+1)-((am_).toNat)) (c0-((am_).toNat))) rfl (fun w _=>Y_sl (a:=h0) (len:=(nzs+1)) (cap:=c0) (some am_) none ((am_).toNat) (nzs+1) runUnderlying22 sizeOf3 ⟨om,om⟩ rfl om om)<|wO rfl<|sCopy (N:=_) k1 j0 1 (((am_+1)).toNat) ((am_).toNat) om om runUnderlying22 sizeOf3 (fun z v hv=>by simp only [Go.E.encI,List.mem_singleton] at hv;subst hv;rfl) fun _ _ p0 l1=>nA<|wN<|jXO 5 rfl<|sIdxO p0 am_ (am_).toNat runUnderlying22 sizeOf3 fun m1 _ _ n1 _ o1=>sStF l1 p0 o1 1 (am_).toNat 0 m1 (fr+a0) n1 (I (fr+a0)) [I (fr+a0)] sizeOf3 fun _ q1 r1 s1=>jOO 5 rfl<|sAdd (i:Int) 1<|jOI 2 rfl ?_
 have hput:=ins_put hasc hm9 hd (.inr ⟨e0,by rw [show am_.toNat-1=(am_-1).toNat by omega];exact m0,om⟩)
 exact ⟨(i+1,(((zs++[0]).take (((am_+1)).toNat)++((zs++[0]).drop ((am_).toNat)).take ((nzs+1)-(((am_+1)).toNat))).set ((am_).toNat) (fr+a0)),h0,(nzs+1),c0,q1),od,alB,(s1.dropAt 0 rfl),om,(by rw [insV_succ f0,<-hE,show (am_+1).toNat=am_.toNat+1 by omega,<-hn_zs];exact hput),r1⟩
end Go.Proofs.YtghcddbhllkbmaaGreat

namespace Go.Proofs.YtghcddbhllkbmaaGreat
open Go Go.E Go.Proofs.Tryz
set_option linter.all false
set_option maxRecDepth 100000
set_option maxHeartbeats 2000000
variable {W w:World} {H:Chunk} {F:List Chunk}
theorem til_b (w h tw th:Int):(tilN w h tw th:Int)<=16384:=by
  unfold tilN
  by_cases hf:fineP w h tw th
  · exact (by have hb:=cols_bd hf;have:=mul_bd (a:=colsN w h tw th) (b:=rowsN w h tw th) (A:=128) (B:=128) (by omega) (by omega);omega)
  · rw [(cols_no hf).1];simp
structure Grp where
  first:Int
  count:Int
  w:Int
  h:Int
  deriving DecidableEq
def encGrp (x:Grp):List Value:=[.int .i64 x.first, .int .i64 x.count, .int .i64 x.w, .int .i64 x.h]
def cutV (s:StageV) (sh:List Shape) (n:Int):Shape:=if s.kind=4 then shpAt sh s.a else shpAt sh n
theorem cut_v {L:Lay} {n:Int} {s:StageV} (h:L.st n=s):L.cut n=cutV s L.sh n:=by unfold Lay.cut cutV;rw [h]
def ckC (j:JobV) (tw th:Int):Int:=if (shpV j).2.2=0 then (if tileP tw th then 0 else 2) else (shpV j).2.2
def ckN (j:JobV) (tw th:Int):Int:=if ckC j tw th=0 then (layV j tw th).total else 0
def ckS (j:JobV) (tw th:Int):List Shape:=if ckC j tw th=0 then (shpV j).1 else []
theorem low_ck (j:JobV) (tw th:Int):lowC j tw th=if ckC j tw th=0 then (if (layV j tw th).total<=4096 then 0 else 13) else ckC j tw th:=by
  unfold lowC ckC
  by_cases h1:(shpV j).2.2=0
  · rw [if_pos h1,if_pos h1]
    by_cases h2:tileP tw th
    · rw [if_pos h2,if_pos h2,if_pos rfl]
    · rw [if_neg h2,if_neg h2,if_neg (by decide)]
  · rw [if_neg h1,if_neg h1,if_neg h1]
theorem ck_zero {j:JobV} {tw th:Int} (h:ckC j tw th=0):(shpV j).2.2=0/\tileP tw th:=by
  unfold ckC at h
  split at h
  · rename_i h1
    split at h
    · rename_i h2;exact ⟨h1,h2⟩
    · omega
  · rename_i h1;exact absurd h h1
theorem own_if {kd fr i nx:Int} (hi:0<=i):(if kd=5 then (if 0<i%nx then [fr+i-1] else [])++(if nx<=i then [fr+i-nx] else []) else ([]:List Int))=(if kd=5/\i.tmod nx>0 then [fr+i-1] else [])++(if kd=5/\i>=nx then [fr+i-nx] else []):=by
  rw [Int.tmod_eq_emod_of_nonneg hi]
  by_cases h:kd=5<;>simp [h]
def grpV (L:Lay) (y:Int):Grp:=⟨L.first y,L.cnt y,(L.cut y).w,(L.cut y).h⟩
def GrpP (L:Lay) (gs:List Grp) (y:Int):Prop:=0<=y/\y<L.ni+(L.ss.length:Int)/\(y<L.ni\/(y∈L.od/\gs[y.toNat]?=some (grpV L y)))
theorem canon_len (l:List Int):(canonV l).length<=l.length:=by
  have h:=insV_len 0 l []
  have e:=insV_canon 0 l []
  rw [show canonV []=[] from rfl] at e
  rw [e,List.nil_append,show l.map (0+·)=l by simp] at h
  simpa using h
theorem grp_set {L:Lay} (g:LayG L) {gs:List Grp} {i:Nat} {nd:Int} {G:Grp} (h:L.od[i]?=some nd) (hG:∀y∈L.od.take i,gs[y.toNat]?=some (grpV L y)) (hv:G=grpV L nd) (hl:nd.toNat<gs.length):
  ∀y∈L.od.take (i+1),(gs.set nd.toNat G)[y.toNat]?=some (grpV L y):=by
 intro n hn
 have a0:=g.first_at (take_split h)
 rw [List.take_add_one,h,Option.toList_some] at hn
 rcases List.mem_append.1 hn with hn|hn
 · exact (by have b0:n≠nd:=fun e=>a0.2 (e▸hn);have r1:=g.rng n (List.mem_of_mem_take hn);have r2:=g.rng nd (List.mem_of_getElem? h);have r3:=g.ni;rw [List.getElem?_set,if_neg om];exact hG n hn)
 · exact (by simp only [List.mem_singleton] at hn;subst hn;rw [List.getElem?_set,if_pos rfl,if_pos hl,hv])
theorem grp_src {L:Lay} (g:LayG L) {gs:List Grp} {i:Nat} {nd:Int} {s:StageV} (h:L.od[i]?=some nd) (hs:L.st nd=s) (hG:∀y∈L.od.take i,gs[y.toNat]?=some (grpV L y)):∀y∈srcs s,GrpP L gs y:=by
  intro y hy
  have h1:=g.src (List.mem_of_getElem? h) y (hs▸hy)
  refine ⟨h1.1,h1.2.1,?_⟩
  rcases (g.bef _ _ _ (take_split h) y (hs▸hy)).2 with h2|h2
  · exact .inl h2
  · exact .inr ⟨List.mem_of_mem_take h2,hG y h2⟩
theorem r20_grid (q:Stage) (ash:Option Addr) (nsh ksh:Nat) (sh:List Shape) (nd:Int) (hq:Stage.Ok [H] q) (hsh:RdT encShape 3 [H] ash nsh ksh sh) (hx:0<=q.a/\q.a<(nsh:Int)/\0<=nd/\nd<(nsh:Int)) (hS:Sat W w (H::F)):
  Ro prog 37 #[.agg (encStage q).toArray, .slice ash nsh ksh,I nd] (.tuple #[I ((cutV q.v sh nd).w),I ((cutV q.v sh nd).h)]) W w (H::F):=by
 have o0:=hq.weights.ll
 have v0:=hq.row.ll
 have p0:=hq.col.ll
 have w0:=hq.x.ll
 have x0:=hq.y.ll
 have u0:=hq.ops.ll
 have y0:=hsh.ll
 refine callsK 33 func37 rfl<|jCO 2 rfl<|sBx hS (encStage q) fun _ _ a0=>gOC a0 12 [0] rfl<|CE q.kind 4 (fun b0=>jCC 3 rfl<|(by obtain ⟨c0,q0,r0,i0,e0,f0⟩:=RdT.elem hsh nd;refine drawF a0 [] (fq 4 0 (e0.up 1 rfl)<|fq 9 1 (e0.up 1 rfl)<|fn) [0,1,2,3,5,6,7,8,4,10,9,11] fun _ j0=>wV 2<|wI f0<|wV 3<|wI f0<|wV 1<|wL 0<|wV 1<|wL 1<|wV 1<|wN<|jXR 2 rfl<|retT [I c0.w,I c0.h] ?_;have k0:=(j0.dropAt 0 rfl);have hk:cutV q.v sh nd=c0:=(by unfold cutV;rw [if_neg (show ¬q.v.kind=4 from b0)];exact shp_at' i0);exact ⟨by rw [hk];rfl,k0⟩)) fun b0=>?_
 refine jCC 1 rfl ?_
 obtain ⟨d0,s0,t0,l0,g0,h0⟩:=RdT.elem hsh q.a
 refine drawF a0 [] (fb 2 0 1 1<|fq 5 0 (g0.up 1 rfl)<|fb 8 0 1 1<|fq 11 1 (g0.up 1 rfl)<|fn) [0,1,6,7,2,3,4,5,12,8,9,10,11,13] fun _ m0=>wV 4<|wL 0<|wI h0<|wV 1<|wL 1<|wV 1<|wL 2<|wI h0<|wV 1<|wL 3<|wV 1<|wN<|jXR 3 rfl<|retT [I d0.w,I d0.h] ?_
 have n0:=(m0.dropAt 0 rfl)
 have hk:cutV q.v sh nd=d0:=by unfold cutV;rw [if_pos (show q.v.kind=4 from b0)];exact shp_at' l0
 exact ⟨by rw [hk];rfl,n0⟩
theorem r20_check (p:Job) (tw:Int) (th:Int) (hp:Job.Ok [H] p) (hb:p.inputs.n<=1000000/\p.stages.n<=1000000/\p.outputs.n<=1000000) (hS:Sat W w (H::F)):
  Calls prog 36 #[.agg (encJob p).toArray,I tw,I th] w fun e w'=>∃(az:Option Addr) (nz kz:Nat) (G:Chunk),e= .returned (.tuple #[.slice az nz kz,I (ckN p.v tw th),I (ckC p.v tw th)])/\RdT encShape 3 [G] az nz kz ((ckS p.v tw th))/\Sat W w' (G::H::F):=by
 have F0:=hp.inputs.le;have B0:=hp.inputs.len
 have G0:=hp.stages.le;have A0:=hp.stages.len
 have D0:=hp.outputs.ll
 have l1:p.v.inputs.length=p.inputs.n:=by simp [Job.v,B0]
 have r1:p.v.stages.length=p.stages.n:=by simp [Job.v,A0]
 refine callsK 87 func36 rfl<|jCO 2 rfl<|sBx hS (encJob p) fun _ _ i0=>gOO i0 8 [400] rfl<|cZ (r17_shapes p (hp.of_mem (mF 1)) (od) i0.flat) ?_
 rintro _ _ ⟨j0,k0,l0,_,rfl,c0,o0⟩
 have b0:=o0.unflat1
 have O0:=c0.ll
 refine jOC 16 rfl<|CN ((shpV p.v).2.2) 0 (fun p0=>jCR 10 rfl<|retT [nS,I 0,I ((shpV p.v).2.2)]<|(by have hk:ckC p.v tw th=(shpV p.v).2.2:=(by unfold ckC;rw [if_neg om]);have N0:¬ckC p.v tw th=0:=(by omega);have q0:=(b0.drops [0,0]);have r0:Sat W _ ([]::H::F):=Sat.nilc q0;have hl:([]:List Shape)=(ckS p.v tw th):=(by unfold ckS;rw [if_neg N0]);have H0:=RdT.nil (enc:=encShape) (sz:=3) fR [[]];rw [hl] at H0;exact ⟨_,_,_,_,(by unfold ckN;rw [if_neg N0,hk];rfl),H0,r0⟩)) fun p0=>jCC 3 rfl<|cutF b0 0 [1,2,3,9] (γ:=Unit) (fun _ R=>⟨[(40, .bool (decide (¬((1<=tw/\tw<=64)/\1<=th/\th<=64))))],R,0,True⟩) ?_ ?_
 ·exact jCO 4 rfl<|sD 29 (tw<1) (fun s0=>jOI 12 rfl<|⟨(),⟨⟨(Eq.trans (b:= .bool true) kr (congrArg Value.bool (decide_eq_true (p:=¬((1<=tw/\tw<=64)/\1<=th/\th<=64)) om).symm)),trivial⟩,sA⟩,b0,trivial⟩) fun s0=>pu4<|sD 33 (tw>64) (fun t0=>jOI 8 rfl<|⟨(),⟨⟨(Eq.trans (b:= .bool true) kr (congrArg Value.bool (decide_eq_true (p:=¬((1<=tw/\tw<=64)/\1<=th/\th<=64)) om).symm)),trivial⟩,sA⟩,b0,trivial⟩) fun t0=>pu4<|sD 37 (th<1) (fun u0=>jOI 4 rfl<|⟨(),⟨⟨(Eq.trans (b:= .bool true) kr (congrArg Value.bool (decide_eq_true (p:=¬((1<=tw/\tw<=64)/\1<=th/\th<=64)) om).symm)),trivial⟩,sA⟩,b0,trivial⟩) fun u0=>jOI 4 rfl<|⟨(),⟨⟨(Eq.trans (b:= .bool (decide (th>64))) kr (congrArg Value.bool bm)),trivial⟩,sA⟩,b0,trivial⟩
 rintro _ ρ _ ⟨m0,_⟩
 refine cD (¬((1<=tw/\tw<=64)/\1<=th/\th<=64)) (fun v0=>jCR 9 rfl<|retT [nS,I 0,I 2]<|(by have hk:ckC p.v tw th=2:=(by unfold ckC;rw [if_pos om,if_neg (by unfold tileP;omega)]);have N0:¬ckC p.v tw th=0:=(by omega);have w0:=(m0.drops [0,0]);have x0:Sat W _ ([]::H::F):=Sat.nilc w0;have hl:([]:List Shape)=(ckS p.v tw th):=(by unfold ckS;rw [if_neg N0]);have H0:=RdT.nil (enc:=encShape) (sz:=3) fR [[]];rw [hl] at H0;exact ⟨_,_,_,_,(by unfold ckN;rw [if_neg N0,hk];rfl),H0,x0⟩)) fun v0=>jCC 3 rfl ?_
 have Z0:(shpV p.v).2.2=0:=by omega
 have Y0:tileP tw th:=by unfold tileP;omega
 have hk:ckC p.v tw th=0:=by unfold ckC;rw [if_pos Z0,if_pos Y0]
 obtain ⟨L,hL⟩:∃z:Lay,z=layV p.v tw th:=⟨_,rfl⟩
 have hg:LayG L:=hL▸lay_ok (shp_ok Z0) Y0
 have C0:L.ni=(p.inputs.n:Int):=by rw [hL,<-l1];rfl
 have P0:L.ss=p.stages.l.map Stage.v:=by rw [hL];rfl
 have M0:L.ss.length=p.stages.n:=by rw [P0,List.length_map];exact A0
 have S0:L.sh=(shpV p.v).1:=by rw [hL];rfl
 have E0:L.tw=tw/\L.th=th:=by rw [hL];exact ⟨rfl,rfl⟩
 have i1:=hg.ni;rw [C0,M0] at i1;have U0:=hg.len;rw [C0,M0] at U0;have X0:=hg.tl;rw [E0.1,E0.2] at X0;unfold tileP at X0;have s1:=hg.totb
 rw [S0] at U0
 refine jCC 11 rfl<|loopF [1,2,3,9] (γ:=Nat×Int) (fun ⟨i,c1⟩ R=>⟨[(13,I (i:Int)),(12,I c1)],R,p.stages.n-i,i<=p.stages.n/\(c1=((ixs L i).map L.cnt).sum)⟩) (0,0) ⟨m0,om,by rfl⟩ ?_
 rintro ⟨i,c1⟩ ρ _ ⟨f0,hi,hE⟩
 have g1:=ixs_bd (L:=L) (f:=L.cnt) (B:=16385) i (fun k hk=>by have h:=hg.cntb (hg.ix (i:=k) om);omega)
 refine gCC f0 10 [1] rfl<|CD ((i:Int)<(p.stages.n:Int)) (fun y0=>jCR 15 rfl<|retT [.slice j0 k0 l0,I c1,I 0]<|(by have o1:c1=(layV p.v tw th).total:=(by rw [hE,<-hL,<-hg.total_ix,M0,show i=p.stages.n by omega]);have z0:=(f0.dropAt 1 rfl);have hl:((shpV p.v).1)=(ckS p.v tw th):=(by unfold ckS;rw [if_pos hk]);have H0:=c0;rw [hl] at H0;exact ⟨_,_,_,_,(by unfold ckN;rw [if_pos hk,hk,<-o1];rfl),H0,z0⟩)) fun y0=>jCC 5 rfl ?_
 obtain ⟨a0,m1,n1,d0,a1,b1⟩:=RdT.eN hp.stages i
 have I0:((p.inputs.n:Int)+(i:Int))∈L.od:=C0▸hg.ix (i:=i) om
 have L0:L.st ((p.inputs.n:Int)+(i:Int))=a0.v:=by unfold Lay.st;rw [P0,C0];exact stg_at (by rw [show (((p.inputs.n:Int)+(i:Int))-(p.inputs.n:Int)).toNat=i by omega];exact map_at (f:=Stage.v) d0)
 have R0:=hg.src I0 a0.a (by rw [L0];exact a_src _);rw [C0,M0] at R0
 refine drawF f0 [11] (fb 1 1 1 1<|fp 4 (a1.up 2 rfl)<|fb 7 1 0 1<|fn) [0,2,5,6,9,1,3,4,7,8,10,11,12,13,14,15,16] fun _ d1=>wV 5<|wL 0<|wI b1<|wG 1 18<|wL 19<|wV 1<|wAdd (p.inputs.n:Int) (i:Int)<|wO rfl<|cS (r20_grid a0 j0 k0 l0 ((shpV p.v).1) ((p.inputs.n:Int)+(i:Int)) ((hp.stagesD a0 (List.mem_of_getElem? d0)).of_mem (mF 2)) (c0.fl 0) (od) d1.flat) fun _ n0=>nZ n0 [1,1]<|wV 1<|wV 1<|wV 1<|wV 2<|wN ?_
 obtain ⟨m,hm⟩:∃z:Shape,z=L.cut ((p.inputs.n:Int)+(i:Int)):=⟨_,rfl⟩;have k1:cutV a0.v (shpV p.v).1 ((p.inputs.n:Int)+(i:Int))=m:=(by rw [hm,cut_v L0,S0]);rw [k1]
 have h1:=hg.fine I0;rw [<-hm,E0.1,E0.2] at h1;have T0:=hg.cutsz I0;rw [<-hm] at T0;unfold szP at T0;have j1:=hg.grid I0;have q1:=hg.cntb I0
 refine jXO 7 rfl<|cS (r5_count m.w m.h tw th n0.flat) fun _ e0=>jOX 6 rfl ?_
 obtain ⟨nx,V0⟩:∃z,z=colsN m.w m.h tw th:=⟨_,rfl⟩;obtain ⟨ny,W0⟩:∃z,z=rowsN m.w m.h tw th:=⟨_,rfl⟩;rw [<-V0,<-W0]
 have J0:L.nx ((p.inputs.n:Int)+(i:Int))=nx:=by unfold Lay.nx;rw [<-hm,E0.1,E0.2,V0]
 have K0:L.ny ((p.inputs.n:Int)+(i:Int))=ny:=by unfold Lay.ny;rw [<-hm,E0.1,E0.2,W0]
 rw [J0,K0] at j1
 refine jXO 6 rfl<|sMul nx ny<|sAdd c1 (nx*ny)<|gOO e0 8 [1] rfl<|sIN hp.stages i fun e1 _ _ g0 f1=>?_
 obtain rfl:a0=e1:=Option.some.inj (d0.symm.trans g0)
 have I0:((p.inputs.n:Int)+(i:Int))∈L.od:=C0▸hg.ix (i:=i) om
 have L0:L.st ((p.inputs.n:Int)+(i:Int))=a0.v:=by unfold Lay.st;rw [P0,C0];exact stg_at (by rw [show (((p.inputs.n:Int)+(i:Int))-(p.inputs.n:Int)).toNat=i by omega];exact map_at (f:=Stage.v) g0)
 have R0:=hg.src I0 a0.a (by rw [L0];exact a_src _);rw [C0,M0] at R0
 refine pu1<|sMp e0 (f1.up 2 rfl) 0 (I a0.kind)<|jOC 3 rfl<|CE a0.kind 4 (fun h0=>jCO 5 rfl<|sAdd (i:Int) 1<|jOI 2 rfl<|(by have Q0:L.cnt ((p.inputs.n:Int)+(i:Int))=nx*ny:=(by unfold Lay.cnt;rw [L0,if_neg (show ¬a0.v.kind=4 from h0),J0,K0]);exact ⟨(i+1,(c1+(nx*ny))),od,alB,e0,om,(by rw [ixs_sum,C0,<-hE,Q0])⟩)) fun h0=>jCO 2 rfl<|sAdd (c1+(nx*ny)) 1<|jOO 6 rfl<|sAdd (i:Int) 1<|jOI 2 rfl ?_
 have Q0:L.cnt ((p.inputs.n:Int)+(i:Int))=nx*ny+1:=by unfold Lay.cnt;rw [L0,if_pos (show a0.v.kind=4 from h0),J0,K0]
 exact ⟨(i+1,((c1+(nx*ny))+1)),od,alB,e0,om,(by rw [ixs_sum,C0,<-hE,Q0];omega)⟩
theorem r20_depends (p:Job) (q:Stage) (ags:Option Addr) (ngs kgs:Nat) (gs:List Grp) (tw:Int) (th:Int) (r:Rct) (hp:Job.Ok [H] p) (hq:Stage.Ok [H] q) (hgs:RdT encGrp 4 [H] ags ngs kgs gs) (hb:p.inputs.n<=1000000/\p.stages.n<=1000000/\p.outputs.n<=1000000) (hg:LayG (layV p.v tw th)) (hG:∀y∈srcs q.v,GrpP (layV p.v tw th) gs y) (hr:inP r) (hS:Sat W w (H::F)):
  Calls prog 42 #[.agg (encJob p).toArray, .agg (encStage q).toArray, .slice ags ngs kgs,I tw,I th, .agg (encRct r).toArray] w fun e w'=>∃(az:Option Addr) (nz kz:Nat) (G:Chunk),e= .returned (.slice az nz kz)/\OwnT Go.E.encI 3 1 az nz kz (canonV ((layV p.v tw th).needs q.v r)) G/\Sat W w' (G::H::F):=by
 have H0:=hp.inputs.le;have B0:=hp.inputs.len
 have I0:=hp.stages.le;have A0:=hp.stages.len
 have F0:=hp.outputs.ll
 have G0:=hq.weights.ll
 have U0:=hq.row.ll
 have S0:=hq.col.ll
 have B1:=hq.x.ll
 have C1:=hq.y.ll
 have T0:=hq.ops.ll
 have G1:=hgs.ll
 have N1:p.v.inputs.length=p.inputs.n:=by simp [Job.v,B0]
 have X1:p.v.stages.length=p.stages.n:=by simp [Job.v,A0]
 obtain ⟨L,hL⟩:∃z:Lay,z=layV p.v tw th:=⟨_,rfl⟩
 rw [<-hL] at hg hG
 have E0:L.ni=(p.inputs.n:Int):=by rw [hL,<-N1];rfl
 have E1:L.ss=p.stages.l.map Stage.v:=by rw [hL];rfl
 have N0:L.ss.length=p.stages.n:=by rw [E1,List.length_map];exact A0
 have T1:L.sh=(shpV p.v).1:=by rw [hL];rfl
 have y1:L.tw=tw/\L.th=th:=by rw [hL];exact ⟨rfl,rfl⟩
 have M1:=hg.ni;rw [E0,N0] at M1;have L1:=hg.len;rw [E0,N0] at L1;have J1:=hg.tl;rw [y1.1,y1.2] at J1;unfold tileP at J1;have Y1:=hg.totb
 have O1:=hr;unfold inP at O1
 refine callsK 87 func42 rfl<|jCO 2 rfl<|sBx hS (encJob p) fun _ _ z0=>sBx z0 (encStage q) fun _ _ a1=>sBx a1 (encRct r) fun _ _ t0=>gOO t0 11 [1801] rfl<|cZ (r15_sources q (hq.of_mem (mF 3)) t0.flat) ?_
 rintro _ _ ⟨_,j0,_,_,rfl,d0,b1⟩
 have c1:=b1.unflat1
 have V0:=d0.ll
 have j3:1<=(srcs q.v).length/\(srcs q.v).length<=2:=srcs_len _
 refine jOC 10 rfl<|loopF [2,3,4,6,7,11,14] (γ:=Nat×(List Int)×SO) (fun ⟨i,zs,M0,d1,Z0,e1⟩ R=>⟨[(15,I (i:Int)),(13, .slice M0 d1 Z0)],e1::R,j0-i,i<=j0/\(zs=canonV (((srcs q.v).take i).flatMap (L.srcDeps q.v r)))/\OwnT Go.E.encI 3 1 M0 d1 Z0 zs e1⟩) (0,[],none,0,0,[]) ⟨(Sat.nilc c1),om,by rfl,(OwnT.nil (enc:=Go.E.encI) (E:=3) (sz:=1) fR)⟩ ?_
 rintro ⟨i,zs,M0,d1,Z0,e1⟩ ρ _ ⟨u0,hi,hE,C0⟩
 have H1:=C0.ll
 have Z1:zs.length<=40000:=by rw [hE];have h0:=canon_len (((srcs q.v).take i).flatMap (L.srcDeps q.v r));have h:=flat_len2 (s:=q.v) (r:=r) hg ((srcs q.v).take i) (fun y hy=>(hG y (List.mem_of_mem_take hy)).2.2.imp id And.left);have h2:((srcs q.v).take i).length<=2:=(by rw [List.length_take];have:=srcs_len q.v;omega);omega
 refine jCC 9 rfl<|CD ((i:Int)<(j0:Int)) (fun f1=>jCR 12 rfl<|retT [.slice M0 d1 Z0]<|(by have g1:=(u0.drops [1,1,1,1]);have hl:zs=canonV ((layV p.v tw th).needs q.v r):=(by rw [hE,List.take_of_length_le om,hL];rfl);have I1:=C0;rw [hl] at I1;exact ⟨_,_,_,_,rfl,I1,g1⟩)) fun f1=>jCC 6 rfl ?_
 obtain ⟨b0,l3,m3,c0,h1,i1⟩:=RdT.eN d0 i
 have hs:=hG b0 (List.mem_of_getElem? c0);unfold GrpP at hs;rw [E0,N0] at hs
 refine drawF u0 [] (fq 3 0 (h1.up 1 rfl)<|fb 5 4 0 1<|fn) [0,1,2,4,3,5,6,7] fun _ f0=>wV 2<|wI i1<|wV 1<|wL 0<|wL 1<|wV 2<|wN<|jXC 1 rfl<|cD (b0<(p.inputs.n:Int)) (fun e0=>jCO 6 rfl<|sAdd (i:Int) 1<|jOI 2 rfl<|⟨(i+1,zs,M0,d1,Z0,e1),od,alB,f0,om,(by rw [take_flat (f:=(L.srcDeps q.v r)) c0,show (L.srcDeps q.v r) b0=[] from by unfold Lay.srcDeps;rw [if_pos (by rw [E0];exact e0)],List.append_nil];exact hE),C0⟩) fun e0=>jCC 3 rfl ?_
 obtain ⟨J0,F1⟩:=hs.2.2.resolve_left om;have U1:=(List.getElem?_eq_some_iff.1 F1).1;have W1:=hg.firstb J0;have V1:=hg.cntb J0;have P1:=hg.rng b0 J0;rw [E0,N0] at P1
 refine jCO 4 rfl<|sIN d0 i fun j1 _ _ k0 k1=>?_
 obtain rfl:b0=j1:=Option.some.inj (c0.symm.trans k0)
 have hs:=hG b0 (List.mem_of_getElem? k0);unfold GrpP at hs;rw [E0,N0] at hs
 refine sMp f0 (k1.up 1 rfl) 0 (I b0)<|sII hgs b0 fun a0 _ _ l1 m1=>?_
 have A1:grpV L b0=a0:=Option.some.inj (F1.symm.trans l1);have hf:L.first b0=a0.first:=congrArg Grp.first A1;have hc:L.cnt b0=a0.count:=congrArg Grp.count A1;have hw:(L.cut b0).w=a0.w:=congrArg Grp.w A1;have hh:(L.cut b0).h=a0.h:=congrArg Grp.h A1
 refine sMA f0 (m1.up 5 rfl) 0 (encGrp a0)<|sAlloc f0 zeroValue93 fun _ _ n1=>sTk n1 0 rfl (encGrp a0) fun _ l0=>gOC l0 10 [4] rfl<|cB q.barrier (fun g0=>drawF l0 [3,6] (fb 2 0 1 1<|fb 5 0 0 1<|fn) [0,1,4,2,5,3,6,7] fun _ o1=>wV 3<|wL 0<|wL 1<|wO rfl<|cZ (r20_upto a0.count (od) o1.flat)<|(by rintro _ _ ⟨_,_,_,_,rfl,m0,q1⟩;have v0:=q1.unflat1;have D0:=m0.len;have P0:=m0.le;have S1:=D0;rw [upto_len] at S1;refine nZ v0 [1]<|wO rfl ?_;have r1:=(v0.pick 2 rfl);refine cZ (r20_insert C0 (ms:=(uptoV a0.count.toNat)) (RdT.flat (m0.rdAt 0 (by rfl))) a0.first (by rw [hE];exact asc_canon _) (fun x hx=>by have h:=mem_upto.1 hx;omega) om om r1.flat1) ?_;rintro _ _ ⟨s1,t1,u1,v1,rfl,n0,w1⟩;have x1:=w1.unflat1;have W0:=n0.ll;refine nA<|wV 1<|wN<|jXO 5 rfl<|sAdd (i:Int) 1<|jOI 2 rfl ?_;have O0:(L.srcDeps q.v r) b0=(uptoV a0.count.toNat).map (a0.first+·):=(by unfold Lay.srcDeps;rw [if_neg (show ¬b0<L.ni by rw [E0];exact e0),if_pos (show q.v.barrier=true from g0),hf,hc]);exact ⟨(i+1,(insV a0.first (uptoV a0.count.toNat) zs),s1,t1,u1,v1),od,alB,(x1.drops [1,1]),om,(by rw [take_flat (f:=(L.srcDeps q.v r)) c0,O0,<-insV_canon,<-hE]),n0⟩)) fun g0=>?_
 refine jCC 1 rfl ?_
 obtain ⟨z1,a4,b4,w0,a2,b2⟩:=RdT.eN d0 i
 obtain rfl:b0=z1:=Option.some.inj (c0.symm.trans w0)
 obtain ⟨o0,c4,d4,c2,d2,e2⟩:=RdT.elem hp.stages (b0-(p.inputs.n:Int))
 have D1:L.st b0=o0.v:=by unfold Lay.st;rw [E1,E0];exact stg_at (by rw [show (b0-(p.inputs.n:Int)).toNat=(b0-(p.inputs.n:Int)).toNat from rfl];exact map_at (f:=Stage.v) c2)
 refine drawF l0 [] (fb 1 5 1 1<|fq 5 0 (a2.up 2 rfl)<|fb 7 5 0 1<|fq 12 0 (d2.up 6 rfl)<|fn) [0,2,3,4,6,1,5,7,8,9,10,11,12,13,14] fun _ p0=>wV 3<|wI b2<|wV 1<|wL 0<|wL 1<|wL 2<|wV 1<|wSub b0 (p.inputs.n:Int)<|wI e2<|wV 1<|wL 3<|wV 2<|wN<|jXC 1 rfl<|cE o0.kind 4 (fun i0=>gCO p0 4 [0] rfl<|sSub a0.count 1<|sBK p0 #[I (a0.count-1)] 3 fun _ _ x0=>gOO x0 2 [1] rfl<|(by have f2:=(x0.pick 2 rfl);refine cZ (r20_insert C0 (ms:=([(a0.count-1)])) (RdT.flat (RdT.blk (enc:=Go.E.encI) (sz:=1) (xs:=[(a0.count-1)]) (fun _=>(by rfl)) 1 0 rfl rfl rfl om)) a0.first (by rw [hE];exact asc_canon _) (fun x hx=>by rw [List.mem_singleton.1 hx];omega) om om f2.flat1) ?_;rintro _ _ ⟨g2,i2,j2,k2,rfl,q0,l2⟩;have m2:=l2.unflat1;have X0:=q0.ll;refine jOO 7 rfl<|sAdd (i:Int) 1<|jOI 2 rfl ?_;have O0:(L.srcDeps q.v r) b0=[a0.count-1].map (a0.first+·):=(by unfold Lay.srcDeps;rw [if_neg (show ¬b0<L.ni by rw [E0];exact e0),if_neg (show ¬q.v.barrier=true from g0),if_pos (show (L.st b0).kind=4 by rw [D1];exact i0),hf,hc,List.map_cons,List.map_nil,Int.add_sub_assoc]);exact ⟨(i+1,(insV a0.first ([(a0.count-1)]) zs),g2,i2,j2,k2),od,alB,(m2.drops [1,1]),om,(by rw [take_flat (f:=(L.srcDeps q.v r)) c0,O0,<-insV_canon,<-hE]),q0⟩)) fun i0=>?_
 refine drawF p0 [9,12] (fb 1 4 0 18<|fb 3 0 2 1<|fb 5 0 3 1<|fb 8 3 0 4<|fb 11 0 0 1<|fn) [0,2,4,6,7,10,1,3,5,8,11,9,12,13] fun _ o2=>wV 6<|wG 0 18<|wL 18<|wL 19<|wG 20 4<|wL 24<|wO rfl<|cZ (r16_tiles q a0.w a0.h tw th r (hq.of_mem (mF 6)) hr o2.flat) ?_
 rintro _ _ ⟨_,_,_,_,rfl,r0,q2⟩
 have y0:=q2.unflat1
 have Y0:=r0.ll
 have R1:=til_len (s:=q.v) (w:=a0.w) (h:=a0.h) (tw:=tw) (th:=th) (r:=r)
 refine nZ y0 [1]<|wO rfl ?_
 have r2:=(y0.pick 2 rfl)
 have Q1:=til_len (s:=q.v) (w:=a0.w) (h:=a0.h) (tw:=tw) (th:=th) (r:=r)
 refine cZ (r20_insert C0 (ms:=(tilesV q.v a0.w a0.h tw th r)) (RdT.flat (r0.rdAt 0 (by rfl))) a0.first (by rw [hE];exact asc_canon _) (fun x hx=>by have h:=mem_upto.1 (List.mem_filter.1 hx).1;have h2:=til_b a0.w a0.h tw th;omega) om om r2.flat1) ?_
 rintro _ _ ⟨s2,t2,u2,v2,rfl,s0,w2⟩
 have x2:=w2.unflat1;have L0:=s0.ll
 refine nA<|wV 1<|wN<|jXO 5 rfl<|sAdd (i:Int) 1<|jOI 2 rfl ?_
 have K1:L.cut b0=shpAt L.sh b0:=by unfold Lay.cut;rw [D1,if_neg (show ¬o0.v.kind=4 from i0)]
 have O0:(L.srcDeps q.v r) b0=(tilesV q.v a0.w a0.h tw th r).map (a0.first+·):=by unfold Lay.srcDeps;rw [if_neg (show ¬b0<L.ni by rw [E0];exact e0),if_neg (show ¬q.v.barrier=true from g0),if_neg (show ¬(L.st b0).kind=4 by rw [D1];exact i0),hf,<-K1,hw,hh,y1.1,y1.2]
 exact ⟨(i+1,(insV a0.first (tilesV q.v a0.w a0.h tw th r) zs),s2,t2,u2,v2),od,alB,(x2.drops [1,1]),om,(by rw [take_flat (f:=(L.srcDeps q.v r)) c0,O0,<-insV_canon,<-hE]),s0⟩
end Go.Proofs.YtghcddbhllkbmaaGreat
