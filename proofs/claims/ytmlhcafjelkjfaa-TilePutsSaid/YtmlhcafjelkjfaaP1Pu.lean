import Derived.Test.YtmlhcafjelkjfaaP1Ab
import Derived.WalkKit
import Derived.Deep.Quiet
import Derived.KernelRfl
import Derived.Laws.BytesString
import Derived.Laws.Shifts
import Derived.Laws.IdiomStrings
import Derived.Test.YtmlhcafjelkjfaaProg
import Derived.Laws.IdiomRangeMap
import Derived.Test.YtmlhcafjelkjfaaP1Sy
namespace Go.Proofs.Ytmlhcafjelkjfaa
open Go Go.E Go.Proofs.Try
set_option linter.all false
set_option maxRecDepth 100000
set_option maxHeartbeats 2000000
variable {W w:World} {H:Chunk} {F:List Chunk}
def putN (own:PlaneV) (r:Rct) (l:List Int) (i:Nat):List Int:=gridN own.w (fun x y=>if inR2 r x y/\(y-r.y0)*(r.x1-r.x0)+(x-r.x0)<(i:Int) then l.getD ((y-r.y0)*(r.x1-r.x0)+(x-r.x0)).toNat 0 else pixAt own x y) own.pix.length
theorem putN_len (own:PlaneV) (r:Rct) (l:List Int) (i:Nat):(putN own r l i).length=own.pix.length:=grid_len _ _ _
theorem putN_0 {own:PlaneV} {r:Rct} {l:List Int} (hr:rIn r own.w own.h):putN own r l 0=own.pix:=by
 unfold rIn at hr
 apply List.ext_getElem?
 intro k
 unfold putN
 by_cases hk:k<own.pix.length
 ·rw [grid_at hk,if_neg]
  ·unfold pixAt
   have hd:=Int.emod_def (k:Int) own.w
   have e:((k:Int)/own.w*own.w+(k:Int)%own.w).toNat=k:=by rw [Int.mul_comm];omega
   rw [List.getD_eq_getElem?_getD,e,List.getElem?_eq_getElem hk];rfl
  ·rintro ⟨h1,h2⟩
   unfold inR2 at h1
   have:=Int.mul_nonneg (show 0<=(k:Int)/own.w-r.y0 by omega) (show 0<=r.x1-r.x0 by omega)
   omega
 ·rw [List.getElem?_eq_none (by rw [grid_len];omega),List.getElem?_eq_none om]
theorem putN_n {own:PlaneV} {r:Rct} {l:List Int} {n:Nat} (hr:rIn r own.w own.h) (hn:(r.x1-r.x0)*(r.y1-r.y0)<=(n:Int)):putN own r l n=putL own r l:=by
  unfold rIn at hr
  unfold putN putL
  refine grid_congr fun k _=>?_
  by_cases h:inR2 r ((k:Int)%own.w) ((k:Int)/own.w)
  · rw [if_pos h,if_pos]
    refine ⟨h,?_⟩
    unfold inR2 at h
    have h1:=Int.mul_le_mul_of_nonneg_right (show (k:Int)/own.w-r.y0<=r.y1-r.y0-1 by omega) (show 0<=r.x1-r.x0 by omega)
    rw [Int.sub_mul (r.y1-r.y0),Int.one_mul,Int.mul_comm (r.y1-r.y0)] at h1
    omega
  · rw [if_neg h,if_neg (fun h2=>h h2.1)]
theorem putN_succ {own:PlaneV} {r:Rct} {l:List Int} {i:Nat} {v:Int} (hl:(own.pix.length:Int)=own.w*own.h) (hr:rIn r own.w own.h) (hi:(i:Int)<(r.x1-r.x0)*(r.y1-r.y0)) (hx:l[i]?=some v):
  (putN own r l i).set ((r.y0+(i:Int)/(r.x1-r.x0))*own.w+r.x0+(i:Int)%(r.x1-r.x0)).toNat v=putN own r l (i+1):=by
 unfold rIn at hr
 have hix:=tile_ix (nx:=r.x1-r.x0) (ny:=r.y1-r.y0) (i:=(i:Int)) om om hi
 obtain ⟨a,ha⟩:∃z,z=(i:Int)%(r.x1-r.x0):=⟨_,rfl⟩
 obtain ⟨b,hb⟩:∃z,z=(i:Int)/(r.x1-r.x0):=⟨_,rfl⟩
 rw [<-ha,<-hb] at hix⊢
 have hg:=grid_ix (nx:=own.w) (i:=r.y0+b) (j:=r.x0+a) om
 have hp0:0<=(r.y0+b)*own.w:=Int.mul_nonneg om om
 obtain ⟨p,hp⟩:∃p:Nat,(p:Int)=(r.y0+b)*own.w+(r.x0+a):=⟨((r.y0+b)*own.w+(r.x0+a)).toNat,om⟩
 rw [show ((r.y0+b)*own.w+r.x0+a).toNat=p by omega]
 rw [<-hp] at hg
 have hpl:p<own.pix.length:=by
  have h1:=Int.mul_le_mul_of_nonneg_right (show r.y0+b+1<=own.h by omega) (show 0<=own.w by omega)
  rw [Int.add_mul,Int.one_mul,Int.mul_comm own.h] at h1
  omega
 apply List.ext_getElem?
 intro k
 by_cases hk:k<own.pix.length
 ·have hR:(putN own r l (i+1))[k]?=some (if inR2 r ((k:Int)%own.w) ((k:Int)/own.w)/\((k:Int)/own.w-r.y0)*(r.x1-r.x0)+((k:Int)%own.w-r.x0)<((i+1:Nat):Int) then l.getD (((k:Int)/own.w-r.y0)*(r.x1-r.x0)+((k:Int)%own.w-r.x0)).toNat 0 else pixAt own ((k:Int)%own.w) ((k:Int)/own.w)):=by unfold putN;exact grid_at hk
  have hL:(putN own r l i)[k]?=some (if inR2 r ((k:Int)%own.w) ((k:Int)/own.w)/\((k:Int)/own.w-r.y0)*(r.x1-r.x0)+((k:Int)%own.w-r.x0)<(i:Int) then l.getD (((k:Int)/own.w-r.y0)*(r.x1-r.x0)+((k:Int)%own.w-r.x0)).toNat 0 else pixAt own ((k:Int)%own.w) ((k:Int)/own.w)):=by unfold putN;exact grid_at hk
  rw [List.getElem?_set,hR,hL]
  by_cases e:p=k
  ·subst e
   rw [if_pos rfl,if_pos (by rw [putN_len];exact hk),hg.1,hg.2]
   rw [show r.y0+b-r.y0=b by omega,show r.x0+a-r.x0=a by omega,<-hix.2.2.2,if_pos ⟨by unfold inR2;omega,om⟩,show (i:Int).toNat=i by omega,List.getD_eq_getElem?_getD,hx];rfl
  ·rw [if_neg e]
   congr 1
   have hne:¬(inR2 r ((k:Int)%own.w) ((k:Int)/own.w)/\((k:Int)/own.w-r.y0)*(r.x1-r.x0)+((k:Int)%own.w-r.x0)=(i:Int)):=by
    rintro ⟨h1,h2⟩
    unfold inR2 at h1
    have hq:=grid_ix (nx:=r.x1-r.x0) (i:=(k:Int)/own.w-r.y0) (j:=(k:Int)%own.w-r.x0) om
    rw [h2] at hq
    have hd:=Int.emod_def (k:Int) own.w
    rw [Int.mul_comm] at hd
    rw [show (k:Int)/own.w=r.y0+b by omega] at hd
    omega
   by_cases h1:inR2 r ((k:Int)%own.w) ((k:Int)/own.w)/\((k:Int)/own.w-r.y0)*(r.x1-r.x0)+((k:Int)%own.w-r.x0)<(i:Int)
   ·rw [if_pos h1,if_pos ⟨h1.1,om⟩]
   ·rw [if_neg h1,if_neg (fun h3=>by
     rcases Int.lt_trichotomy (((k:Int)/own.w-r.y0)*(r.x1-r.x0)+((k:Int)%own.w-r.x0)) (i:Int) with h4|h4|h4
     ·exact h1 ⟨h3.1,h4⟩
     ·exact hne ⟨h3.1,h4⟩
     ·omega)]
 ·rw [List.getElem?_eq_none (by rw [List.length_set,putN_len];omega),List.getElem?_eq_none (by rw [putN_len];omega)]
theorem r4_copyO (p:Plane) (hp:Plane.Ok [H] p) (hb:p.pix.n<=100000) (hS:Sat W w (H::F)):
  Calls prog 28 #[.agg (encPlane p).toArray] w fun e w'=>∃(az:Option Addr) (nz kz:Nat) (C:Chunk),e= .returned (.agg #[I p.w,I p.h,I p.max_, .slice az nz kz])/\OwnT Go.E.encI 3 1 az nz kz p.pix.l C/\Sat W w' (C::H::F):=by
 have hl_p_pix:=hp.pix.le;have hn_p_pix:=hp.pix.len
 refine callsA 8 func28 rfl<|sR<|sBox hS (.agg (encPlane p).toArray) (encPlane p).toArray fun _ _ f0=>sAlloc f0 zeroValue28 fun _ _ c0=>zS<|pu1<|sL c0 1 3 (.slice p.pix.a p.pix.n p.pix.k) (isAgg22 _) ?_
 have g0:=Sat.nilc c0
 refine sApp (nb:=8) g0 (OwnT.nil (enc:=Go.E.encI) (E:=3) (sz:=1) fR) 0 (hp.pix.up 3 rfl) underlying22 (i:=Try.t3) kr fR fun a0 b0 _ _ i0 j0=>pu1<|tW j0 2 3 (.slice a0 (0+p.pix.n) b0) sizeOf22 fun _ d0=>zS<|lA d0 2 0 4 (isAgg28 _) (sizeOf28 _)<|sTl d0 1 [I p.w,I p.h,I p.max_, .slice a0 (0+p.pix.n) b0] sizeOf28 fun _ e0=>zE<|retN (vs:=[.agg #[I p.w,I p.h,I p.max_, .slice a0 (0+p.pix.n) b0]]) rfl (.cons (.cell _ _ _ _ kr (lvA e0 1 0 [I p.w,I p.h,I p.max_, .slice a0 (0+p.pix.n) b0] (isAgg28 _) (sizeOf28 _) rfl rfl rfl)) .nil) ?_
 exact ⟨a0,(0+p.pix.n),b0,_,rfl,by have h:=i0;rw [List.nil_append] at h;exact h,(e0.drops [1,1])⟩
theorem r2_area (a:Rct) (ha:rIn a 128 128) (hS:Sat W w (H::F)):
  Ro prog 8 #[.agg (encRct a).toArray] (I ((a.x1-a.x0)*(a.y1-a.y0))) W w (H::F):=by
 unfold rIn at ha;have hmm:=mul_bd (a:=a.x1-a.x0) (b:=a.y1-a.y0) (A:=128) (B:=128) om om
 refine callsA 17 func8 rfl<|sR<|sBox hS (.agg (encRct a).toArray) (encRct a).toArray fun _ _ b0=>pu1<|zQ<|lA b0 0 0 4 (isAgg24 _) (sizeOf24 _)<|cR call16 (r2_valid a b0.flat) fun _ a0=>pu1<|nT ?_
 have c0:rvP a:=(by unfold rvP cooP;omega)
 exact cF _ (congrArg Bool.not (decide_eq_true c0))<|kS<|pu1<|sL a0 0 2 (I a.x1) (isAgg3 _)<|pu1<|sL a0 0 0 (I a.x0) (isAgg3 _)<|sSub a.x1 a.x0<|pu1<|sL a0 0 3 (I a.y1) (isAgg3 _)<|pu1<|sL a0 0 1 (I a.y0) (isAgg3 _)<|sSub a.y1 a.y0<|sMul (a.x1-a.x0) (a.y1-a.y0)<|pu1<|zE<|retT [I ((a.x1-a.x0)*(a.y1-a.y0))]<|⟨rfl,(a0.dropAt 0 rfl)⟩
theorem r21_put (own:Plane) (t:Task) (al:Option Addr) (nl kl:Nat) (l:List Int) (hown:Plane.Ok [H] own) (ht:Task.Ok [H] t) (hl:RdT Go.E.encI 1 [H] al nl kl l) (hS:Sat W w (H::F)):
  Calls prog 12 #[.agg (encPlane own).toArray, .agg (encTask t).toArray, .slice al nl kl] w fun e w'=>∃(q:Plane) (c:Int) (G:Chunk),e= .returned (.tuple #[.agg (encPlane q).toArray,I c])/\q.Ok [G]/\(q.v,c)=putT own.v t.part (⟨t.rectX0,t.rectY0,t.rectX1,t.rectY1⟩:Rct) l/\Sat W w' (G::H::F):=by
 have hl_own_pix:=hown.pix.le;have hn_own_pix:=hown.pix.len
 have hl_t_deps:=ht.deps.le;have hn_t_deps:=ht.deps.len
 have hl_l:=hl.le;have hn_l:=hl.len
 refine callsA 100 func12 rfl<|sR<|sBox hS (.agg (encPlane own).toArray) (encPlane own).toArray fun f0 _ i2=>sBox i2 (.agg (encTask t).toArray) (encTask t).toArray fun s0 _ j2=>sAlloc j2 zeroValue28 fun h0 _ c1=>pu1<|zS<|pu1<|lA c1 1 2 4 (isAgg24 _) (sizeOf24 _)<|sAlloc c1 zeroValue24 fun a0 _ k2=>sTl k2 0 [I t.rectX0,I t.rectY0,I t.rectX1,I t.rectY1] sizeOf24 fun _ d1=>nT ?_
 refine cutA (γ:=Unit) (fun _=>[(2, .slice al nl kl),(3,Pt f0 0),(6,Pt h0 0),(8,Pt a0 0)]) (fun _ w=>Sat W w ([(a0, .cells #[I t.rectX0,I t.rectY0,I t.rectX1,I t.rectY1] 24 (0,0))]::[(h0, .cells #[I 0,I 0,I 0,nS] 28 (0,0))]::[(s0, .cells (encTask t).toArray 33 (0,0))]::[(f0, .cells (encPlane own).toArray 28 (0,0))]::H::F)/\(planeOK own.v=true/\(t.part=0\/t.part=2))) ?_ ?_
 ·refine sR<|lA d1 3 0 4 (isAgg28 _) (sizeOf28 _)<|cR call24 (r4_valid own ⟨(RdT.flat (hown.pix.up 4 (by rfl)))⟩ d1.flat) fun _ i0=>pu2<|sBn 16 (planeOK own.v) (fun r0=>?_) (fun r0=>?_)
  rotate_left
  ·refine pu9<|zC<|pu1<|sTl i0 1 [I 0,I 0,I 0,nS] sizeOf28 fun _ e1=>pu1<|zR<|retC e1 1 [I 0,I 0,I 0,nS] (I 1) (isAgg28 _) (sizeOf28 _) ?_
   have hC:putC own.v t.part (⟨t.rectX0,t.rectY0,t.rectX1,t.rectY1⟩:Rct) l=1:=by unfold putC;rw [if_neg (fun h=>r0 h.1)]
   have l2:=(e1.drops [0,0,0,0])
   have m2:Sat W _ ([]::H::F):=Sat.nilc l2
   exact ⟨(⟨0,0,0,⟨none,0,0,[]⟩⟩:Plane),1,_,rfl,⟨RdT.nil (enc:=Go.E.encI) (sz:=1) fR [[]]⟩,(by unfold putT;rw [okT_n om,hC];rfl),m2⟩
  refine pu1<|gY<|sL i0 2 1 (I t.part) (isAgg3 _)<|pu2<|sN 20 t.part 0 (fun n2=>?_) (fun n2=>?_)
  ·exact pu5<|nT<|cFf<|kT<|⟨(),alA,i0,⟨r0,om⟩⟩
  refine pu1<|gY<|sL i0 2 1 (I t.part) (isAgg3 _)<|pu3<|nT<|cN t.part 2 (fun o2=>?_) (fun o2=>?_)
  ·exact kT<|⟨(),alA,i0,⟨r0,om⟩⟩
  refine sR<|pu1<|sTl i0 1 [I 0,I 0,I 0,nS] sizeOf28 fun _ f1=>pu1<|zR<|retC f1 1 [I 0,I 0,I 0,nS] (I 1) (isAgg28 _) (sizeOf28 _) ?_
  have hC:putC own.v t.part (⟨t.rectX0,t.rectY0,t.rectX1,t.rectY1⟩:Rct) l=1:=by unfold putC;rw [if_neg (fun h=>by have h2:=h.2;omega)]
  have q2:=(f1.drops [0,0,0,0])
  have r2:Sat W _ ([]::H::F):=Sat.nilc q2
  exact ⟨(⟨0,0,0,⟨none,0,0,[]⟩⟩:Plane),1,_,rfl,⟨RdT.nil (enc:=Go.E.encI) (sz:=1) fR [[]]⟩,(by unfold putT;rw [okT_n om,hC];rfl),r2⟩
 rintro _ ρ _ ⟨q0,hA⟩
 refine cutA (γ:=Unit) (fun _=>[(2, .slice al nl kl),(3,Pt f0 0),(6,Pt h0 0),(8,Pt a0 0)]) (fun _ w=>Sat W w ([(a0, .cells #[I t.rectX0,I t.rectY0,I t.rectX1,I t.rectY1] 24 (0,0))]::[(h0, .cells #[I 0,I 0,I 0,nS] 28 (0,0))]::[(s0, .cells (encTask t).toArray 33 (0,0))]::[(f0, .cells (encPlane own).toArray 28 (0,0))]::H::F)/\(rIn (⟨t.rectX0,t.rectY0,t.rectX1,t.rectY1⟩:Rct) own.w own.h/\(nl:Int)=(t.rectX1-t.rectX0)*(t.rectY1-t.rectY0))) ?_ ?_
 rotate_left
 ·rintro _ ρ _ ⟨g1,hB⟩
  refine seqE ?_
  have hsz:=(plane_sz hA.1).1;unfold sizeP at hsz;simp only [Plane.v] at hsz;obtain ⟨hri,hnl⟩:=hB;have hri0:=hri;unfold rIn at hri0;dsimp only at hri0;have hpl:own.v.pix.length=own.pix.n:=hn_own_pix;have hpn:=(plane_sz hA.1).2.1;rw [hpl] at hpn;simp only [Plane.v] at hpn
  refine rE<|lA g1 3 0 4 (isAgg28 _) (sizeOf28 _)<|cX call28 (r4_copyO own ⟨(RdT.flat (hown.pix.up 4 (by rfl)))⟩ om g1.flat) ?_
  rintro _ _ ⟨h1,i1,j1,s2,rfl,t0,t2⟩
  have u2:=t2.unflat1;have hn_az_111:=t0.len;have hl_az_111:=t0.le
  refine sAlloc u2 zeroValue28 fun u0 _ v2=>sTl v2 0 [I own.w,I own.h,I own.max_, .slice h1 i1 j1] sizeOf28 fun _ w2=>zQ<|pu1<|nT<|blockE ?_
  have x2:=(w2.pick 1 rfl)
  refine loopA (γ:=Nat×(List Int)×(Option Addr)×Nat×Nat×Chunk) (fun ⟨i,zs,azs,nzs,kzs,czs⟩=>[(2, .slice al nl kl),(3,Pt f0 0),(6,Pt h0 0),(8,Pt a0 0),(9,Pt u0 0),(10,I (i:Int))]) (fun ⟨i,zs,azs,nzs,kzs,czs⟩ w=>Sat W w (czs::[(u0, .cells #[I own.w,I own.h,I own.max_, .slice azs nzs kzs] 28 (0,0))]::[(a0, .cells #[I t.rectX0,I t.rectY0,I t.rectX1,I t.rectY1] 24 (0,0))]::[(h0, .cells #[I 0,I 0,I 0,nS] 28 (0,0))]::[(s0, .cells (encTask t).toArray 33 (0,0))]::[(f0, .cells (encPlane own).toArray 28 (0,0))]::H::F)/\i<=nl/\(zs=putN own.v (⟨t.rectX0,t.rectY0,t.rectX1,t.rectY1⟩:Rct) l i)/\((l.take i).all (fun v=>decide (0<=v/\v<=own.max_))=true)/\OwnT Go.E.encI 3 1 azs nzs kzs zs czs) (fun ⟨i,zs,azs,nzs,kzs,czs⟩=>nl-i) (0,own.pix.l,h1,i1,j1,s2) ⟨x2,om,(putN_0 (own:=own.v) (r:=(⟨t.rectX0,t.rectY0,t.rectX1,t.rectY1⟩:Rct)) (l:=l) hri).symm,by rfl,t0⟩ ?_
  rintro ⟨i,zs,azs,nzs,kzs,czs⟩ ρ _ ⟨g0,hi,hE,hI,hOzs⟩
  have hn_zs:=hOzs.len;have hl_zs:=hOzs.le
  refine seqE<|sR<|pu4<|nT<|cD ((i:Int)<(nl:Int)) (fun y2=>?_) (fun y2=>?_)
  rotate_left
  ·refine exitE<|xB<|tN<|sR<|lA g0 1 0 4 (isAgg28 _) (sizeOf28 _)<|sTl g0 3 [I own.w,I own.h,I own.max_, .slice azs nzs kzs] sizeOf28 fun _ k1=>pu1<|zE<|retC k1 3 [I own.w,I own.h,I own.max_, .slice azs nzs kzs] (I 0) (isAgg28 _) (sizeOf28 _) ?_
   have hin:inM own.max_ l=true:=all_of_take hI om;have hC:putC own.v t.part (⟨t.rectX0,t.rectY0,t.rectX1,t.rectY1⟩:Rct) l=0:=by unfold putC;rw [if_pos hA,if_pos ⟨hri,by dsimp only;omega⟩,if_pos (show inM own.v.max_ l=true from hin)]
   exact ⟨(⟨own.w,own.h,own.max_,⟨azs,nzs,kzs,zs⟩⟩:Plane),0,_,rfl,⟨(hOzs.rdAt (cs:=[czs]) 0 rfl)⟩,(by unfold putT;rw [okT_0 hC,hE,putN_n hri (by dsimp only;omega)];rfl),(k1.drops [1,1,1,1,1])⟩
  refine kT<|seqE<|blockE<|seqE<|seqE ?_
  obtain ⟨b0,j0,k0,l0,v0,w0⟩:=RdT.elem hl (i:Int)
  rw [Int.toNat_natCast] at l0
  by_cases l1:(b0:Int)<0
  ·refine drawE [] [(3,⟨j0,k0,none⟩,I b0)] [(true,[0,1]),(true,[2]),(true,[3]),(true,[4,5]),(true,[6,7,8,10,9,11,12,13])] rfl kr ⟨.inr ((v0.up 6 rfl).cell g0 (k:=0) rfl),trivial⟩ ?_
   have a3:=g0.drew
   refine wU [0,1]<|wY (.pointer (some ⟨j0,k0,none⟩)) rfl (fun w _=>Y_idx (a:=al) (i:=(i:Int)) (len:=nl) (cap:=kl) rfl runUnderlying22 sizeOf3 kr kr w0)<|wLd (I b0) 0 isAgg3<|wU [4,5]<|wFix 58 _ true (decide_eq_true l1)<|wU [6,7,8,10,9,11,12,13]<|wN<|tN<|cTt<|sR<|pu1<|sTl a3 3 [I 0,I 0,I 0,nS] sizeOf28 fun _ m1=>pu1<|zE<|tR<|tK<|tR<|tK<|retC m1 3 [I 0,I 0,I 0,nS] (I 2) (isAgg28 _) (sizeOf28 _) ?_
   have hC:putC own.v t.part (⟨t.rectX0,t.rectY0,t.rectX1,t.rectY1⟩:Rct) l=2:=by unfold putC;rw [if_pos hA,if_pos ⟨hri,by dsimp only;omega⟩,if_neg (show ¬inM own.v.max_ l=true from inM_f (m:=own.max_) l0 om)]
   have b3:=(m1.drops [0,0,0,0,0,0])
   have c3:Sat W _ ([]::H::F):=Sat.nilc b3
   exact ⟨(⟨0,0,0,⟨none,0,0,[]⟩⟩:Plane),2,_,rfl,⟨RdT.nil (enc:=Go.E.encI) (sz:=1) fR [[]]⟩,(by unfold putT;rw [okT_n om,hC];rfl),c3⟩
  refine drawE [] [(3,⟨j0,k0,none⟩,I b0),(9,⟨j0,k0,none⟩,I b0),(11,⟨f0,2,none⟩,I own.max_)] [(true,[0,1]),(true,[2]),(true,[3]),(true,[4,5]),(true,[6,7]),(true,[8]),(true,[10]),(true,[9]),(true,[11]),(true,[12,13])] rfl kr ⟨.inr ((v0.up 6 rfl).cell g0 (k:=0) rfl), .inr ((v0.up 6 rfl).cell g0 (k:=0) rfl),cI g0 5,trivial⟩ ?_
  have c0:=g0.drew
  refine wU [0,1]<|wY (.pointer (some ⟨j0,k0,none⟩)) rfl (fun w _=>Y_idx (a:=al) (i:=(i:Int)) (len:=nl) (cap:=kl) rfl runUnderlying22 sizeOf3 kr kr w0)<|wLd (I b0) 0 isAgg3<|wU [4,5]<|wFix 58 _ false (decide_eq_false l1)<|wU [6,7]<|wY (.pointer (some ⟨j0,k0,none⟩)) rfl (fun w _=>Y_idx (a:=al) (i:=(i:Int)) (len:=nl) (cap:=kl) rfl runUnderlying22 sizeOf3 kr kr w0)<|wU [10]<|wLd (I b0) 1 isAgg3<|wLd (I own.max_) 2 isAgg3<|wU [12,13]<|wN<|tN<|cD (b0>own.max_) (fun d3=>?_) (fun d3=>?_)
  ·refine sR<|pu1<|sTl c0 3 [I 0,I 0,I 0,nS] sizeOf28 fun _ n1=>pu1<|zE<|tR<|tK<|tR<|tK<|retC n1 3 [I 0,I 0,I 0,nS] (I 2) (isAgg28 _) (sizeOf28 _) ?_
   have hC:putC own.v t.part (⟨t.rectX0,t.rectY0,t.rectX1,t.rectY1⟩:Rct) l=2:=by unfold putC;rw [if_pos hA,if_pos ⟨hri,by dsimp only;omega⟩,if_neg (show ¬inM own.v.max_ l=true from inM_f (m:=own.max_) l0 om)]
   have e3:=(n1.drops [0,0,0,0,0,0])
   have f3:Sat W _ ([]::H::F):=Sat.nilc e3
   exact ⟨(⟨0,0,0,⟨none,0,0,[]⟩⟩:Plane),2,_,rfl,⟨RdT.nil (enc:=Go.E.encI) (sz:=1) fR [[]]⟩,(by unfold putT;rw [okT_n om,hC];rfl),f3⟩
  refine kT ?_
  have htd:(i:Int).tdiv (t.rectX1-t.rectX0)=(i:Int)/(t.rectX1-t.rectX0):=Int.tdiv_eq_ediv_of_nonneg om;have htm:(i:Int).tmod (t.rectX1-t.rectX0)=(i:Int)%(t.rectX1-t.rectX0):=Int.tmod_eq_emod_of_nonneg om
  have hix:=tile_ix (nx:=(t.rectX1-t.rectX0)) (ny:=t.rectY1-t.rectY0) (i:=(i:Int)) om om om
  have hpx:=pl_ix hA.1 (x:=t.rectX0+(i:Int)%(t.rectX1-t.rectX0)) (y:=t.rectY0+(i:Int)/(t.rectX1-t.rectX0)) (by simp only [Plane.v];omega) (by simp only [Plane.v];omega);rw [hpl,<-htd,<-htm] at hpx;simp only [Plane.v] at hpx;rw [<-htd,<-htm] at hix
  have hmb:=wmul_bd (w:=t.rectY0+(i:Int).tdiv (t.rectX1-t.rectX0)) (v:=own.w) (B:=128) om om (by decide)
  have hzl:zs.length=own.pix.n:=by rw [hE,putN_len,hpl]
  obtain ⟨g3,o1,q1,r1,i3,j3⟩:=RdT.elem hl (i:Int)
  rw [Int.toNat_natCast] at r1
  obtain rfl:b0=g3:=Option.some.inj (l0.symm.trans r1)
  obtain ⟨k3,l3,m3,n3,j5,o3,p3⟩:=OwnT.elem hOzs ((((t.rectY0+((i:Int).tdiv (t.rectX1-t.rectX0)))*own.w)+t.rectX0)+((i:Int).tmod (t.rectX1-t.rectX0)))
  refine drawE [31] [(1,⟨u0,3,none⟩, .slice azs nzs kzs),(3,⟨a0,1,none⟩,I t.rectY0),(6,⟨a0,2,none⟩,I t.rectX1),(8,⟨a0,0,none⟩,I t.rectX0),(13,⟨f0,0,none⟩,I own.w),(16,⟨a0,0,none⟩,I t.rectX0),(20,⟨a0,2,none⟩,I t.rectX1),(22,⟨a0,0,none⟩,I t.rectX0),(29,⟨o1,q1,none⟩,I b0)] [(true,[0,2,4,5,7,12,15,18,19,21,26,27]),(true,[28]),(true,[1]),(true,[3]),(true,[6]),(true,[8]),(true,[9]),(true,[10]),(true,[11]),(true,[13]),(true,[14]),(true,[16]),(true,[17]),(true,[20]),(true,[22]),(true,[23]),(true,[24]),(true,[25]),(true,[29]),(true,[30]),(false,[31])] rfl kr ⟨cI c0 1,cI c0 2,cI c0 2,cI c0 2,cI c0 5,cI c0 2,cI c0 2,cI c0 2, .inr ((i3.up 6 rfl).cell c0 (k:=0) rfl),trivial⟩ ?_
  have q3:=c0.drew
  refine wU [0,2,4,5,7,12,15,18,19,21,26,27]<|wY (.pointer (some ⟨o1,q1,none⟩)) rfl (fun w _=>Y_idx (a:=al) (i:=(i:Int)) (len:=nl) (cap:=kl) rfl runUnderlying22 sizeOf3 kr kr j3)<|wLd (.slice azs nzs kzs) 0 isAgg22<|wLd (I t.rectY0) 1 isAgg3<|wLd (I t.rectX1) 2 isAgg3<|wLd (I t.rectX0) 3 isAgg3<|wSub t.rectX1 t.rectX0<|wQuo (i:Int) (t.rectX1-t.rectX0)<|wAdd t.rectY0 ((i:Int).tdiv (t.rectX1-t.rectX0))<|wLd (I own.w) 4 isAgg3<|wMul (t.rectY0+((i:Int).tdiv (t.rectX1-t.rectX0))) own.w<|wLd (I t.rectX0) 5 isAgg3<|wAdd ((t.rectY0+((i:Int).tdiv (t.rectX1-t.rectX0)))*own.w) t.rectX0<|wLd (I t.rectX1) 6 isAgg3 ?_
  refine wLd (I t.rectX0) 7 isAgg3<|wSub t.rectX1 t.rectX0<|wRem (i:Int) (t.rectX1-t.rectX0)<|wAdd (((t.rectY0+((i:Int).tdiv (t.rectX1-t.rectX0)))*own.w)+t.rectX0) ((i:Int).tmod (t.rectX1-t.rectX0))<|wLd (I b0) 8 isAgg3<|wY (.pointer (some ⟨l3,m3+(((((t.rectY0+((i:Int).tdiv (t.rectX1-t.rectX0)))*own.w)+t.rectX0)+((i:Int).tmod (t.rectX1-t.rectX0)))).toNat*1,none⟩)) rfl (fun w _=>Y_idx (a:=azs) (i:=((((t.rectY0+((i:Int).tdiv (t.rectX1-t.rectX0)))*own.w)+t.rectX0)+((i:Int).tmod (t.rectX1-t.rectX0)))) (len:=nzs) (cap:=kzs) rfl runUnderlying22 sizeOf3 kr kr o3)<|wO rfl ?_
  refine sStF q3 hOzs p3 0 (((((t.rectY0+((i:Int).tdiv (t.rectX1-t.rectX0)))*own.w)+t.rectX0)+((i:Int).tmod (t.rectX1-t.rectX0)))).toNat 0 k3 b0 n3 (I b0) [I b0] sizeOf3 fun _ r3 s3 t3=>nilO ⟨dA,?_⟩
  exact wN<|bN<|tN<|rE<|pu1<|sAdd (i:Int) 1<|pu1<|nT<|⟨(i+1,(zs.set ((((((t.rectY0+((i:Int).tdiv (t.rectX1-t.rectX0)))*own.w)+t.rectX0)+((i:Int).tmod (t.rectX1-t.rectX0)))).toNat) b0),azs,nzs,kzs,r3),od,alA,t3,om,(by rw [hE,htd,htm];exact putN_succ (by rw [hpl];simp only [Plane.v];omega) hri (by dsimp only;omega) l0),all_succ hI l0 (decide_eq_true om),s3⟩
 refine seqE ?_
 refine drawP [1,4,5,6,7,13,14] [(0,⟨a0,0,none⟩,I t.rectX0),(0,⟨a0,1,none⟩,I t.rectY0),(0,⟨a0,2,none⟩,I t.rectX1),(0,⟨a0,3,none⟩,I t.rectY1)] (Plan.sts [0]<| .ef 1<|Plan.sts [2]<|Plan.sts [3]<| .fk 4 5 (.ef 5<| .ef 6<| .ef 7<|Plan.sts [8]<|Plan.sts [9]<|Plan.sts [10]<|Plan.sts [11]<|Plan.sts [12]<| .ef 13<| .ef 14<|Plan.sts [15]<|Plan.sts [16]<| .fin) (.fk 4 6 (.ef 6<| .ef 7<|Plan.sts [8]<|Plan.sts [9]<|Plan.sts [10]<|Plan.sts [11]<|Plan.sts [12]<| .ef 13<| .ef 14<|Plan.sts [15]<|Plan.sts [16]<| .fin) (.ef 4<| .ef 7<|Plan.sts [8]<|Plan.sts [9]<|Plan.sts [10]<|Plan.sts [11]<|Plan.sts [12]<| .ef 13<| .ef 14<|Plan.sts [15]<|Plan.sts [16]<| .fin))) rfl kr ⟨cI q0 0,cI q0 0,cI q0 0,cI q0 0,trivial⟩ ?_
 have u3:=q0.drew
 refine qY (.agg #[I t.rectX0,I t.rectY0,I t.rectX1,I t.rectY1]) rfl (fun w hF=>Y_loadF rfl (isAgg24 w) (sizeOf24 w) kr rfl ⟨hF 0 _ _ rfl,hF 1 _ _ rfl,hF 2 _ _ rfl,hF 3 _ _ rfl,trivial⟩)<|qO rfl<|cR call25 (r2_full (⟨t.rectX0,t.rectY0,t.rectX1,t.rectY1⟩:Rct) u3.flat) fun _ d0=>nilO ⟨dA,?_⟩
 refine qU [2]<|qU [3]<|qF ?_ ?_
 ·rcases Classical.em (rvP (⟨t.rectX0,t.rectY0,t.rectX1,t.rectY1⟩:Rct)/\¬((⟨t.rectX0,t.rectY0,t.rectX1,t.rectY1⟩:Rct).x0=0/\(⟨t.rectX0,t.rectY0,t.rectX1,t.rectY1⟩:Rct).y0=0/\(⟨t.rectX0,t.rectY0,t.rectX1,t.rectY1⟩:Rct).x1=0/\(⟨t.rectX0,t.rectY0,t.rectX1,t.rectY1⟩:Rct).y1=0)) with m0|m0
  rotate_left
  ·refine qFix 30 _ true (congrArg Bool.not (decide_eq_false m0))<|qO rfl<|pu1<|nilO ⟨dA,?_⟩
   refine qO rfl<|pu1<|nilO ⟨dA,?_⟩
   refine qO rfl<|pu1<|nilO ⟨dA,?_⟩
   refine qO rfl<|pu1<|nilO ⟨dA,?_⟩
   refine qU [8]<|qU [9]<|qU [10]<|qU [11]<|qU [12]<|qO rfl<|pu1<|nilO ⟨dA,?_⟩
   refine qO rfl<|pu1<|nilO ⟨dA,?_⟩
   refine qU [15]<|qU [16]<|qN<|tN<|cTt<|sR<|pu1<|sTl d0 1 [I 0,I 0,I 0,nS] sizeOf28 fun _ s1=>pu1<|zR<|retC s1 1 [I 0,I 0,I 0,nS] (I 8) (isAgg28 _) (sizeOf28 _) ?_
   have hC:putC own.v t.part (⟨t.rectX0,t.rectY0,t.rectX1,t.rectY1⟩:Rct) l=8:=by unfold putC;rw [if_pos hA,if_neg (fun h=>by have hsz:=(plane_sz hA.1).1;unfold sizeP at hsz;simp only [Plane.v] at hsz;have h2:=(ins_in om om).2 (show rIn (⟨t.rectX0,t.rectY0,t.rectX1,t.rectY1⟩:Rct) own.w own.h from h.1);exact m0 ⟨by have h3:=(show rIn (⟨t.rectX0,t.rectY0,t.rectX1,t.rectY1⟩:Rct) own.w own.h from h.1);unfold rIn at h3;dsimp only at h3;unfold rvP cooP;dsimp only;omega,h2.1⟩)]
   have v3:=(s1.drops [0,0,0,0])
   have w3:Sat W _ ([]::H::F):=Sat.nilc v3
   exact ⟨(⟨0,0,0,⟨none,0,0,[]⟩⟩:Plane),8,_,rfl,⟨RdT.nil (enc:=Go.E.encI) (sz:=1) fR [[]]⟩,(by unfold putT;rw [okT_n om,hC];rfl),w3⟩
  refine qFix 30 _ false (congrArg Bool.not (decide_eq_true m0))<|qO rfl<|gY<|lA d0 0 0 4 (isAgg24 _) (sizeOf24 _)<|nilO ⟨dA,?_⟩
  refine qO rfl<|gY<|lA d0 3 0 4 (isAgg28 _) (sizeOf28 _)<|nilO ⟨dA,?_⟩
  refine qO rfl<|gY<|cR call27 (r4_cover own ⟨(RdT.flat (hown.pix.up 4 (by rfl)))⟩ d0.flat) fun _ x3=>nilO ⟨dA,?_⟩
  refine qO rfl<|gY<|cR call26 (r2_inside (⟨t.rectX0,t.rectY0,t.rectX1,t.rectY1⟩:Rct) (⟨0,0,own.w,own.h⟩:Rct) x3.flat) fun _ z0=>nilO ⟨dA,?_⟩
  refine qU [8]<|qU [9]<|qU [10] ?_
  rcases Classical.em (insP (⟨t.rectX0,t.rectY0,t.rectX1,t.rectY1⟩:Rct) (⟨0,0,own.w,own.h⟩:Rct)) with n0|n0
  rotate_left
  ·refine qFix 37 _ true (congrArg Bool.not (decide_eq_false n0))<|qU [11]<|qU [12]<|qO rfl<|pu1<|nilO ⟨dA,?_⟩
   refine qO rfl<|pu1<|nilO ⟨dA,?_⟩
   refine qU [15]<|qU [16]<|qN<|tN<|cTt<|sR<|pu1<|sTl z0 1 [I 0,I 0,I 0,nS] sizeOf28 fun _ t1=>pu1<|zR<|retC t1 1 [I 0,I 0,I 0,nS] (I 8) (isAgg28 _) (sizeOf28 _) ?_
   have hC:putC own.v t.part (⟨t.rectX0,t.rectY0,t.rectX1,t.rectY1⟩:Rct) l=8:=by unfold putC;rw [if_pos hA,if_neg (fun h=>by have hsz:=(plane_sz hA.1).1;unfold sizeP at hsz;simp only [Plane.v] at hsz;have h2:=(ins_in om om).2 (show rIn (⟨t.rectX0,t.rectY0,t.rectX1,t.rectY1⟩:Rct) own.w own.h from h.1);exact n0 h2.2)]
   have y3:=(t1.drops [0,0,0,0])
   have z3:Sat W _ ([]::H::F):=Sat.nilc y3
   exact ⟨(⟨0,0,0,⟨none,0,0,[]⟩⟩:Plane),8,_,rfl,⟨RdT.nil (enc:=Go.E.encI) (sz:=1) fR [[]]⟩,(by unfold putT;rw [okT_n om,hC];rfl),z3⟩
  refine qFix 37 _ false (congrArg Bool.not (decide_eq_true n0))<|qU [11]<|qU [12]<|qO rfl<|gY<|lA z0 0 0 4 (isAgg24 _) (sizeOf24 _)<|nilO ⟨dA,?_⟩
  refine qO rfl<|gY<|cR call8 (r2_area (⟨t.rectX0,t.rectY0,t.rectX1,t.rectY1⟩:Rct) (by have h:=(by have hsz:=(plane_sz hA.1).1;unfold sizeP at hsz;simp only [Plane.v] at hsz;exact (ins_in om om).1 ⟨m0.2,n0⟩);have hsz:=(plane_sz hA.1).1;unfold sizeP at hsz;simp only [Plane.v] at hsz;unfold rIn at h⊢;dsimp only at h⊢;omega) z0.flat) ?_
  intro _ u1
  refine nilO ⟨dA,?_⟩
  refine qU [15]<|qU [16]<|qN<|tN<|cN (nl:Int) ((t.rectX1-t.rectX0)*(t.rectY1-t.rectY0)) (fun a4=>?_) (fun a4=>?_)
  ·exact kT<|⟨(),alA,u1,⟨(by have hsz:=(plane_sz hA.1).1;unfold sizeP at hsz;simp only [Plane.v] at hsz;exact (ins_in om om).1 ⟨m0.2,n0⟩),om⟩⟩
  refine sR<|pu1<|sTl u1 1 [I 0,I 0,I 0,nS] sizeOf28 fun _ v1=>pu1<|zR<|retC v1 1 [I 0,I 0,I 0,nS] (I 8) (isAgg28 _) (sizeOf28 _) ?_
  have hC:putC own.v t.part (⟨t.rectX0,t.rectY0,t.rectX1,t.rectY1⟩:Rct) l=8:=by unfold putC;rw [if_pos hA,if_neg (fun h=>by have h2:=h.2;dsimp only at h2;omega)]
  have b4:=(v1.drops [0,0,0,0])
  have c4:Sat W _ ([]::H::F):=Sat.nilc b4
  exact ⟨(⟨0,0,0,⟨none,0,0,[]⟩⟩:Plane),8,_,rfl,⟨RdT.nil (enc:=Go.E.encI) (sz:=1) fR [[]]⟩,(by unfold putT;rw [okT_n om,hC];rfl),c4⟩
 rcases Classical.em (rvP (⟨t.rectX0,t.rectY0,t.rectX1,t.rectY1⟩:Rct)/\¬((⟨t.rectX0,t.rectY0,t.rectX1,t.rectY1⟩:Rct).x0=0/\(⟨t.rectX0,t.rectY0,t.rectX1,t.rectY1⟩:Rct).y0=0/\(⟨t.rectX0,t.rectY0,t.rectX1,t.rectY1⟩:Rct).x1=0/\(⟨t.rectX0,t.rectY0,t.rectX1,t.rectY1⟩:Rct).y1=0)) with e0|e0
 rotate_left
 ·refine qFix 30 _ true (congrArg Bool.not (decide_eq_false e0))<|qO rfl<|pu1<|nilO ⟨dA,?_⟩
  refine qF ?_ ?_
  ·refine qO rfl<|pu1<|nilO ⟨dA,?_⟩
   refine qO rfl<|pu1<|nilO ⟨dA,?_⟩
   refine qO rfl<|pu1<|nilO ⟨dA,?_⟩
   refine qU [8]<|qU [9]<|qU [10]<|qU [11]<|qU [12]<|qO rfl<|pu1<|nilO ⟨dA,?_⟩
   refine qO rfl<|pu1<|nilO ⟨dA,?_⟩
   refine qU [15]<|qU [16]<|qN<|tN<|cTt<|sR<|pu1<|sTl d0 1 [I 0,I 0,I 0,nS] sizeOf28 fun _ w1=>pu1<|zR<|retC w1 1 [I 0,I 0,I 0,nS] (I 8) (isAgg28 _) (sizeOf28 _) ?_
   have hC:putC own.v t.part (⟨t.rectX0,t.rectY0,t.rectX1,t.rectY1⟩:Rct) l=8:=by unfold putC;rw [if_pos hA,if_neg (fun h=>by have hsz:=(plane_sz hA.1).1;unfold sizeP at hsz;simp only [Plane.v] at hsz;have h2:=(ins_in om om).2 (show rIn (⟨t.rectX0,t.rectY0,t.rectX1,t.rectY1⟩:Rct) own.w own.h from h.1);exact e0 ⟨by have h3:=(show rIn (⟨t.rectX0,t.rectY0,t.rectX1,t.rectY1⟩:Rct) own.w own.h from h.1);unfold rIn at h3;dsimp only at h3;unfold rvP cooP;dsimp only;omega,h2.1⟩)]
   have d4:=(w1.drops [0,0,0,0])
   have e4:Sat W _ ([]::H::F):=Sat.nilc d4
   exact ⟨(⟨0,0,0,⟨none,0,0,[]⟩⟩:Plane),8,_,rfl,⟨RdT.nil (enc:=Go.E.encI) (sz:=1) fR [[]]⟩,(by unfold putT;rw [okT_n om,hC];rfl),e4⟩
  refine qO rfl<|pu1<|nilO ⟨dA,?_⟩
  refine qO rfl<|pu1<|nilO ⟨dA,?_⟩
  refine qO rfl<|pu1<|nilO ⟨dA,?_⟩
  refine qU [8]<|qU [9]<|qU [10]<|qU [11]<|qU [12]<|qO rfl<|pu1<|nilO ⟨dA,?_⟩
  refine qO rfl<|pu1<|nilO ⟨dA,?_⟩
  refine qU [15]<|qU [16]<|qN<|tN<|cTt<|sR<|pu1<|sTl d0 1 [I 0,I 0,I 0,nS] sizeOf28 fun _ z1=>pu1<|zR<|retC z1 1 [I 0,I 0,I 0,nS] (I 8) (isAgg28 _) (sizeOf28 _) ?_
  have hC:putC own.v t.part (⟨t.rectX0,t.rectY0,t.rectX1,t.rectY1⟩:Rct) l=8:=by unfold putC;rw [if_pos hA,if_neg (fun h=>by have hsz:=(plane_sz hA.1).1;unfold sizeP at hsz;simp only [Plane.v] at hsz;have h2:=(ins_in om om).2 (show rIn (⟨t.rectX0,t.rectY0,t.rectX1,t.rectY1⟩:Rct) own.w own.h from h.1);exact e0 ⟨by have h3:=(show rIn (⟨t.rectX0,t.rectY0,t.rectX1,t.rectY1⟩:Rct) own.w own.h from h.1);unfold rIn at h3;dsimp only at h3;unfold rvP cooP;dsimp only;omega,h2.1⟩)]
  have f4:=(z1.drops [0,0,0,0])
  have g4:Sat W _ ([]::H::F):=Sat.nilc f4
  exact ⟨(⟨0,0,0,⟨none,0,0,[]⟩⟩:Plane),8,_,rfl,⟨RdT.nil (enc:=Go.E.encI) (sz:=1) fR [[]]⟩,(by unfold putT;rw [okT_n om,hC];rfl),g4⟩
 refine qFix 30 _ false (congrArg Bool.not (decide_eq_true e0))<|qO rfl<|gY<|lA d0 3 0 4 (isAgg28 _) (sizeOf28 _)<|nilO ⟨dA,?_⟩
 refine qF ?_ ?_
 rotate_left
 ·refine qO rfl<|gY<|cR call27 (r4_cover own ⟨(RdT.flat (hown.pix.up 4 (by rfl)))⟩ d0.flat) fun _ a2=>nilO ⟨dA,?_⟩
  refine qO rfl<|gY<|lA a2 0 0 4 (isAgg24 _) (sizeOf24 _)<|nilO ⟨dA,?_⟩
  refine qO rfl<|gY<|cR call26 (r2_inside (⟨t.rectX0,t.rectY0,t.rectX1,t.rectY1⟩:Rct) (⟨0,0,own.w,own.h⟩:Rct) a2.flat) fun _ a1=>nilO ⟨dA,?_⟩
  refine qU [8]<|qU [9]<|qU [10] ?_
  rcases Classical.em (insP (⟨t.rectX0,t.rectY0,t.rectX1,t.rectY1⟩:Rct) (⟨0,0,own.w,own.h⟩:Rct)) with o0|o0
  rotate_left
  ·refine qFix 37 _ true (congrArg Bool.not (decide_eq_false o0))<|qU [11]<|qU [12]<|qO rfl<|pu1<|nilO ⟨dA,?_⟩
   refine qO rfl<|pu1<|nilO ⟨dA,?_⟩
   refine qU [15]<|qU [16]<|qN<|tN<|cTt<|sR<|pu1<|sTl a1 1 [I 0,I 0,I 0,nS] sizeOf28 fun _ b2=>pu1<|zR<|retC b2 1 [I 0,I 0,I 0,nS] (I 8) (isAgg28 _) (sizeOf28 _) ?_
   have hC:putC own.v t.part (⟨t.rectX0,t.rectY0,t.rectX1,t.rectY1⟩:Rct) l=8:=by unfold putC;rw [if_pos hA,if_neg (fun h=>by have hsz:=(plane_sz hA.1).1;unfold sizeP at hsz;simp only [Plane.v] at hsz;have h2:=(ins_in om om).2 (show rIn (⟨t.rectX0,t.rectY0,t.rectX1,t.rectY1⟩:Rct) own.w own.h from h.1);exact o0 h2.2)]
   have h4:=(b2.drops [0,0,0,0])
   have i4:Sat W _ ([]::H::F):=Sat.nilc h4
   exact ⟨(⟨0,0,0,⟨none,0,0,[]⟩⟩:Plane),8,_,rfl,⟨RdT.nil (enc:=Go.E.encI) (sz:=1) fR [[]]⟩,(by unfold putT;rw [okT_n om,hC];rfl),i4⟩
  refine qFix 37 _ false (congrArg Bool.not (decide_eq_true o0))<|qU [11]<|qU [12]<|qO rfl<|gY<|lA a1 0 0 4 (isAgg24 _) (sizeOf24 _)<|nilO ⟨dA,?_⟩
  refine qO rfl<|gY<|cR call8 (r2_area (⟨t.rectX0,t.rectY0,t.rectX1,t.rectY1⟩:Rct) (by have h:=(by have hsz:=(plane_sz hA.1).1;unfold sizeP at hsz;simp only [Plane.v] at hsz;exact (ins_in om om).1 ⟨e0.2,o0⟩);have hsz:=(plane_sz hA.1).1;unfold sizeP at hsz;simp only [Plane.v] at hsz;unfold rIn at h⊢;dsimp only at h⊢;omega) a1.flat) ?_
  intro _ c2
  refine nilO ⟨dA,?_⟩
  refine qU [15]<|qU [16]<|qN<|tN<|cN (nl:Int) ((t.rectX1-t.rectX0)*(t.rectY1-t.rectY0)) (fun j4=>?_) (fun j4=>?_)
  ·exact kT<|⟨(),alA,c2,⟨(by have hsz:=(plane_sz hA.1).1;unfold sizeP at hsz;simp only [Plane.v] at hsz;exact (ins_in om om).1 ⟨e0.2,o0⟩),om⟩⟩
  refine sR<|pu1<|sTl c2 1 [I 0,I 0,I 0,nS] sizeOf28 fun _ d2=>pu1<|zR<|retC d2 1 [I 0,I 0,I 0,nS] (I 8) (isAgg28 _) (sizeOf28 _) ?_
  have hC:putC own.v t.part (⟨t.rectX0,t.rectY0,t.rectX1,t.rectY1⟩:Rct) l=8:=by unfold putC;rw [if_pos hA,if_neg (fun h=>by have h2:=h.2;dsimp only at h2;omega)]
  have k4:=(d2.drops [0,0,0,0])
  have l4:Sat W _ ([]::H::F):=Sat.nilc k4
  exact ⟨(⟨0,0,0,⟨none,0,0,[]⟩⟩:Plane),8,_,rfl,⟨RdT.nil (enc:=Go.E.encI) (sz:=1) fR [[]]⟩,(by unfold putT;rw [okT_n om,hC];rfl),l4⟩
 refine qO rfl<|gY<|lA d0 0 0 4 (isAgg24 _) (sizeOf24 _)<|nilO ⟨dA,?_⟩
 refine qO rfl<|gY<|cR call27 (r4_cover own ⟨(RdT.flat (hown.pix.up 4 (by rfl)))⟩ d0.flat) fun _ m4=>nilO ⟨dA,?_⟩
 refine qO rfl<|gY<|cR call26 (r2_inside (⟨t.rectX0,t.rectY0,t.rectX1,t.rectY1⟩:Rct) (⟨0,0,own.w,own.h⟩:Rct) m4.flat) fun _ b1=>nilO ⟨dA,?_⟩
 refine qU [8]<|qU [9]<|qU [10] ?_
 rcases Classical.em (insP (⟨t.rectX0,t.rectY0,t.rectX1,t.rectY1⟩:Rct) (⟨0,0,own.w,own.h⟩:Rct)) with p0|p0
 rotate_left
 ·refine qFix 37 _ true (congrArg Bool.not (decide_eq_false p0))<|qU [11]<|qU [12]<|qO rfl<|pu1<|nilO ⟨dA,?_⟩
  refine qO rfl<|pu1<|nilO ⟨dA,?_⟩
  refine qU [15]<|qU [16]<|qN<|tN<|cTt<|sR<|pu1<|sTl b1 1 [I 0,I 0,I 0,nS] sizeOf28 fun _ e2=>pu1<|zR<|retC e2 1 [I 0,I 0,I 0,nS] (I 8) (isAgg28 _) (sizeOf28 _) ?_
  have hC:putC own.v t.part (⟨t.rectX0,t.rectY0,t.rectX1,t.rectY1⟩:Rct) l=8:=by unfold putC;rw [if_pos hA,if_neg (fun h=>by have hsz:=(plane_sz hA.1).1;unfold sizeP at hsz;simp only [Plane.v] at hsz;have h2:=(ins_in om om).2 (show rIn (⟨t.rectX0,t.rectY0,t.rectX1,t.rectY1⟩:Rct) own.w own.h from h.1);exact p0 h2.2)]
  have n4:=(e2.drops [0,0,0,0])
  have o4:Sat W _ ([]::H::F):=Sat.nilc n4
  exact ⟨(⟨0,0,0,⟨none,0,0,[]⟩⟩:Plane),8,_,rfl,⟨RdT.nil (enc:=Go.E.encI) (sz:=1) fR [[]]⟩,(by unfold putT;rw [okT_n om,hC];rfl),o4⟩
 refine qFix 37 _ false (congrArg Bool.not (decide_eq_true p0))<|qU [11]<|qU [12]<|qO rfl<|gY<|lA b1 0 0 4 (isAgg24 _) (sizeOf24 _)<|nilO ⟨dA,?_⟩
 refine qO rfl<|gY<|cR call8 (r2_area (⟨t.rectX0,t.rectY0,t.rectX1,t.rectY1⟩:Rct) (by have h:=(by have hsz:=(plane_sz hA.1).1;unfold sizeP at hsz;simp only [Plane.v] at hsz;exact (ins_in om om).1 ⟨e0.2,p0⟩);have hsz:=(plane_sz hA.1).1;unfold sizeP at hsz;simp only [Plane.v] at hsz;unfold rIn at h⊢;dsimp only at h⊢;omega) b1.flat) ?_
 intro _ f2
 refine nilO ⟨dA,?_⟩
 refine qU [15]<|qU [16]<|qN<|tN<|cN (nl:Int) ((t.rectX1-t.rectX0)*(t.rectY1-t.rectY0)) (fun p4=>?_) (fun p4=>?_)
 ·exact kT<|⟨(),alA,f2,⟨(by have hsz:=(plane_sz hA.1).1;unfold sizeP at hsz;simp only [Plane.v] at hsz;exact (ins_in om om).1 ⟨e0.2,p0⟩),om⟩⟩
 refine sR<|pu1<|sTl f2 1 [I 0,I 0,I 0,nS] sizeOf28 fun _ g2=>pu1<|zR<|retC g2 1 [I 0,I 0,I 0,nS] (I 8) (isAgg28 _) (sizeOf28 _) ?_
 have hC:putC own.v t.part (⟨t.rectX0,t.rectY0,t.rectX1,t.rectY1⟩:Rct) l=8:=by unfold putC;rw [if_pos hA,if_neg (fun h=>by have h2:=h.2;dsimp only at h2;omega)]
 have q4:=(g2.drops [0,0,0,0])
 have r4:Sat W _ ([]::H::F):=Sat.nilc q4
 exact ⟨(⟨0,0,0,⟨none,0,0,[]⟩⟩:Plane),8,_,rfl,⟨RdT.nil (enc:=Go.E.encI) (sz:=1) fR [[]]⟩,(by unfold putT;rw [okT_n om,hC];rfl),r4⟩
theorem tg_within {p:Nat} {a:Option Addr} {n k:Nat} {i:Int} {xs:List Int} (hR:RdT Go.E.encI 1 [H] a n k xs) (hi:0<=i/\i<=n) (hS:Sat W w ([(p, .cells #[.slice a n k,I i] 44 (0,0))]::H::F)) (w0:Int) (h0:Int) (hw:1<=w0/\w0<=1000) (hh:1<=h0/\h0<=1000):
  Calls prog 7 #[Pt p 0,I w0,I h0] w fun e w'=>∃(r:Rct),e= .returned (.agg (encRct r).toArray)/\(rIn r w0 h0)/\∃i':Int,(0<=i'/\i'<=n)/\Sat W w' ([(p, .cells #[.slice a n k,I i'] 44 (0,0))]::H::F):=by
 have hle:=hR.le
 refine callsA 38 func7 rfl<|sR<|sAlloc hS zeroValue24 fun _ _ l0=>zS<|pu2 ?_
 have m0:=(l0.pick 1 rfl)
 refine cX call9 (tape_next (RdT.flat (hR.up 1 (by rfl))) om m0.flat1 w0 om) ?_
 rintro _ _ ⟨a0,rfl,_,_,_,n0⟩
 have o0:=n0.unflat1
 refine pu2<|cX call9 (tape_next (RdT.flat (hR.up 1 (by rfl))) om o0.flat1 h0 om) ?_
 rintro _ _ ⟨b0,rfl,_,_,_,p0⟩
 have q0:=p0.unflat1
 refine pu1<|sAlloc q0 zeroValue24 fun i0 _ r0=>sTl r0 0 [I a0,I b0,I 0,I 0] sizeOf24 fun _ e0=>nT<|seqE<|drawE [8,18,21,23] [(1,⟨i0,0,none⟩,I a0),(6,⟨i0,0,none⟩,I a0),(11,⟨i0,1,none⟩,I b0),(16,⟨i0,1,none⟩,I b0)] [(true,[0,3,4,5,10,13,14,15]),(true,[1]),(true,[2]),(true,[6]),(true,[7]),(true,[11]),(true,[12]),(true,[16]),(true,[17]),(false,[8]),(true,[9]),(true,[20]),(false,[18]),(true,[19]),(false,[21]),(true,[22]),(false,[23])] rfl kr ⟨cI e0 0,cI e0 0,cI e0 0,cI e0 0,trivial⟩ ?_
 have s0:=e0.drew
 refine wU [0,3,4,5,10,13,14,15]<|wLd (I a0) 0 isAgg3<|wAdd a0 1<|wLd (I a0) 1 isAgg3<|wSub w0 a0<|wLd (I b0) 2 isAgg3<|wAdd b0 1<|wLd (I b0) 3 isAgg3<|wSub h0 b0<|wO rfl ?_
 have t0:=(s0.pick 1 rfl)
 refine cX call9 (tape_next (RdT.flat (hR.up 2 (by rfl))) om t0.flat1 (w0-a0) om) ?_
 rintro _ _ ⟨c0,rfl,_,_,_,u0⟩
 have f0:=u0.unflat1
 refine nilO ⟨⟨cI f0 1,cI f0 1,cI f0 1,cI f0 1,trivial⟩,?_⟩
 refine wAdd (a0+1) c0<|wU [20]<|wO rfl<|cX call9 (tape_next (RdT.flat (hR.up 2 (by rfl))) om f0.flat1 (h0-b0) om) ?_
 rintro _ _ ⟨d0,rfl,_,_,_,v0⟩
 have g0:=v0.unflat1
 refine nilO ⟨⟨cI g0 1,cI g0 1,cI g0 1,cI g0 1,trivial⟩,?_⟩
 refine wAdd (b0+1) d0<|wO rfl<|tW g0 1 2 (I ((a0+1)+c0)) sizeOf3 fun _ x0=>nilO ⟨dA,?_⟩
 refine wU [22]<|wO rfl<|tW x0 1 3 (I ((b0+1)+d0)) sizeOf3 fun _ j0=>nilO ⟨dA,?_⟩
 exact wN<|tN<|sR<|lA j0 1 0 4 (isAgg24 _) (sizeOf24 _)<|sTl j0 2 [I a0,I b0,I ((a0+1)+c0),I ((b0+1)+d0)] sizeOf24 fun _ k0=>zE<|retN (vs:=[.agg #[I a0,I b0,I ((a0+1)+c0),I ((b0+1)+d0)]]) rfl (.cons (.cell _ _ _ _ kr (lvA k0 2 0 [I a0,I b0,I ((a0+1)+c0),I ((b0+1)+d0)] (isAgg24 _) (sizeOf24 _) rfl rfl rfl)) .nil)<|⟨(⟨a0,b0,((a0+1)+c0),((b0+1)+d0)⟩:Rct),rfl,(by unfold rIn;dsimp only;omega),_,om,(k0.drops [1,1])⟩
theorem planeB_S {q:Plane} (h0:planeOK q.v=true) (h1:planeB q):planeS 0 q:=by
  have e:∀x,numB x->numS 0 x:=fun x hx=>by unfold numB at hx;unfold numS;omega
  have h:=(plane_sz h0).1;unfold sizeP at h;simp only [Plane.v] at h
  exact ⟨⟨by unfold numS;omega,by unfold numS;omega,by unfold numS;omega⟩,by have:=h1.1;omega,fun y hy=>e _ (h1.2 y hy)⟩
end Go.Proofs.Ytmlhcafjelkjfaa
