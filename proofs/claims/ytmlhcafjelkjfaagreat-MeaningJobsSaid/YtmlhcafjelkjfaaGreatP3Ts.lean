import Derived.Test.YtmlhcafjelkjfaaGreatP3Ab
import Derived.WalkKit
import Derived.Deep.Quiet
import Derived.KernelRfl
import Derived.Laws.BytesString
import Derived.Laws.Shifts
import Derived.Laws.IdiomStrings
import Derived.Test.YtmlhcafjelkjfaaGreatProg
import Derived.Laws.IdiomRangeMap
import Derived.Test.YtmlhcafjelkjfaaGreatP3Ld
namespace Go.Proofs.YtmlhcafjelkjfaaGreat
open Go Go.E Go.Proofs.Tryz
set_option linter.all false
set_option maxRecDepth 100000
set_option maxHeartbeats 2000000
variable {W w:World} {H:Chunk} {F:List Chunk}
theorem part_at {α:Type} {l:List α} {a b j:Nat} {x:α} (h:((l.drop a).take b)[j]?=some x):l[a+j]?=some x:=by
  rw [List.getElem?_take] at h
  split at h
  · rw [List.getElem?_drop] at h;exact h
  · cases h
section
variable {l:List (List Int)} (h0:¬(l.length=0\/4096<l.length))
include h0
variable (h1:1<=mrgN l/\mrgN l<=128) (hA:l.all (fun z=>decide ((z.length:Int)=mrgN l))=true)
include h1 hA
variable (hM:l.all (fun z=>inM 4096 z)=true)
include hM
end
def chkI (p:PlaneV):Int×Int:=if planeOK p=true then (if mostOK p.w p.h p.max_=true then (mostV p.w p.h p.max_,0) else (0,11)) else (0,1)
theorem most_bd {w h m:Int} (e:mostOK w h m=true):1<=mostV w h m/\mostV w h m<=4294967296/\mostV w h m=w*h*m:=by
  have h0:=of_decide_eq_true e
  have hv:mostV w h m=w*h*m:=by unfold mostV;rw [if_pos e]
  have h1:=Int.mul_le_mul (show (1:Int)<=w by omega) (show (1:Int)<=h by omega) (by omega) (by omega)
  have h2:=Int.mul_le_mul (show (1:Int)<=w*h by omega) (show (1:Int)<=m by omega) (by omega) (by omega)
  omega
theorem itg_full {p:PlaneV}:itgT p ⟨0,0,p.w,p.h⟩ (List.replicate p.h.toNat 0) (List.replicate p.w.toNat 0) 0=itgW p:=by
 have hX:∀i j:Int,itgX p (List.replicate p.h.toNat 0) (List.replicate p.w.toNat 0) 0 ⟨0,0,p.w,p.h⟩ i j=recS p 0 0 (i.toNat+1) (j.toNat+1):=by
  intro i j
  have hz:∀n k:Nat,(List.replicate n (0:Int)).getD k 0=0:=by
   intro n k;rw [List.getD_eq_getElem?_getD,List.getElem?_replicate];split<;>rfl
  unfold itgX;rw [hz,hz];simp
 have hL:itgL p (List.replicate p.h.toNat 0) (List.replicate p.w.toNat 0) 0 ⟨0,0,p.w,p.h⟩=gridN p.w (fun i j=>recS p 0 0 (i.toNat+1) (j.toNat+1)) (p.w*p.h).toNat:=by
  unfold itgL areaN;simp only [Int.sub_zero]
  exact grid_congr (fun k _=>hX _ _)
 unfold itgT itgW itgC
 rw [hL]
 by_cases hp:planeOK p=true
 ·rw [if_pos hp,if_pos hp]
  by_cases hm:mostOK p.w p.h p.max_=true
  ·rw [if_pos hm,if_pos hm]
   have hs:=(plane_sz hp).1;unfold sizeP at hs
   have hb:=most_bd hm
   obtain ⟨h1,h2,_⟩:=itg_whole hp hm
   have h3:=(plane_sz h2).2.2
   have e1:(itgW p).1.pix=gridN p.w (fun i j=>recS p 0 0 (i.toNat+1) (j.toNat+1)) (p.w*p.h).toNat:=by
    unfold itgW;rw [okT_0 (by rw [if_pos hp,if_pos hm])]
   have e2:(itgW p).1.max_=mostV p.w p.h p.max_:=by unfold itgW;rw [okT_0 (by rw [if_pos hp,if_pos hm])]
   rw [e1,e2] at h3
   rw [if_pos,if_pos]
   ·simp only [Int.sub_zero]
   ·refine ⟨?_,by unfold inM;rw [List.all_eq_true];exact fun v hv=>decide_eq_true (h3 v hv)⟩
    unfold inM
    rw [List.all_eq_true]
    intro v hv
    have:v=0:=by
     rcases List.mem_append.1 hv with hv|hv
     ·rcases List.mem_cons.1 hv with rfl|hv
      ·rfl
      ·exact List.eq_of_mem_replicate hv
     ·exact List.eq_of_mem_replicate hv
    subst this
    exact decide_eq_true om
   ·refine ⟨by unfold rIn;dsimp only;omega,?_,?_⟩<;>rw [List.length_replicate]<;>dsimp only<;>omega
  ·rw [if_neg hm,if_neg hm];rfl
 ·rw [if_neg hp,if_neg hp];rfl
theorem inM3 {m c:Int} {l t:List Int}:inM m (c::l++t)=true↔inM m [c]=true/\inM m l=true/\inM m t=true:=by unfold inM;simp [and_assoc]
theorem col_bd {p:PlaneV} (h:planeOK p=true) (x y:Int) {n:Nat} (hn:n<=128):0<=colS p x y n/\colS p x y n<=549755813888:=by
  have h1:=rec_bd h x y 1 n
  have e:recS p x y 1 n=colS p x y n:=by rw [recS_succ];unfold recS;rw [sumN_zero];simp
  rw [e] at h1
  have h2:=pix_mx h
  have h3:=Int.mul_le_mul (show p.max_<=4294967296 by omega) (show (n:Int)<=128 by omega) (by omega) (by omega)
  have h5:p.max_*(n:Int)*((1:Nat):Int)=p.max_*(n:Int):=by simp
  omega
theorem rec_bd9 {p:PlaneV} (h:planeOK p=true) (x y:Int) {i j:Nat} (hi:i<=128) (hj:j<=128):0<=recS p x y i j/\recS p x y i j<=70368744177664:=by
  have h1:=rec_bd h x y i j
  have h2:=pix_mx h
  have h3:=Int.mul_le_mul (show p.max_<=4294967296 by omega) (show (j:Int)<=128 by omega) (by omega) (by omega)
  have h4:=Int.mul_le_mul (show p.max_*(j:Int)<=4294967296*128 from h3) (show (i:Int)<=128 by omega) (by omega) (by omega)
  omega
theorem p12_bin (v:Int) (m:Int) (n:Int) (hS:Sat W w (H::F)):
  Ro prog 109 #[I v,I m,I n] (I (binV v m n)) W w (H::F):=by
 refine callsA 36 func109 rfl<|sR<|pu1<|zQ<|pu3<|sD 9 (m<1) (fun a0=>?_) (fun a0=>?_)
 ·exact pu16<|pu4<|zC<|pu1<|zR<|retT [I 0]<|⟨by unfold binV;rw [if_neg om];rfl,hS⟩
 refine pu4<|sD 13 (m>4294967296) (fun b0=>?_) (fun b0=>?_)
 ·exact pu16<|zC<|pu1<|zR<|retT [I 0]<|⟨by unfold binV;rw [if_neg om];rfl,hS⟩
 refine pu4<|sD 17 (v<0) (fun c0=>?_) (fun c0=>?_)
 ·exact pu12<|zC<|pu1<|zR<|retT [I 0]<|⟨by unfold binV;rw [if_neg om];rfl,hS⟩
 refine pu5<|sD 22 (v>m) (fun d0=>?_) (fun d0=>?_)
 ·exact pu7<|zC<|pu1<|zR<|retT [I 0]<|⟨by unfold binV;rw [if_neg om];rfl,hS⟩
 refine pu4<|sD 26 (n<1) (fun e0=>?_) (fun e0=>?_)
 ·exact pu3<|zC<|pu1<|zR<|retT [I 0]<|⟨by unfold binV;rw [if_neg om];rfl,hS⟩
 refine pu3<|nT<|cD (n>128) (fun f0=>?_) (fun f0=>?_)
 ·exact sR<|pu1<|zR<|retT [I 0]<|⟨by unfold binV;rw [if_neg om];rfl,hS⟩
 refine kT<|seqE ?_
 have hm0:=mul_bd (a:=v) (b:=n) (A:=4294967296) (B:=128) om om;have ht:(v*n).tdiv (m+1)=v*n/(m+1):=Int.tdiv_eq_ediv_of_nonneg (Int.mul_nonneg om om);have hd:=tdiv_bd (a:=v*n) (b:=m+1) (A:=549755813888) om om
 exact rE<|pu2<|sMul v n<|pu1<|sAdd m 1<|sQuo (v*n) (m+1)<|pu1<|zE<|retT [I ((v*n).tdiv (m+1))]<|⟨congrArg (fun z=>Ending.returned (I z)) (by unfold binV;rw [if_pos om];exact ht),hS⟩
theorem p12_partial (p:Plane) (bins:Int) (r:Rct) (hp:Plane.Ok [H] p) (hS:Sat W w (H::F)):
  Calls prog 61 #[.agg (encPlane p).toArray,I bins, .agg (encRct r).toArray] w fun e w'=>∃(az:Option Addr) (nz kz:Nat) (zs:List Int) (c:Int) (G:Chunk),e= .returned (.tuple #[.slice az nz kz,I c])/\RdT Go.E.encI 1 [G] az nz kz zs/\(zs,c)=(partV p.v bins r,partC p.v bins r)/\Sat W w' (G::H::F):=by
 have hl_p_pix:=hp.pix.le;have hn_p_pix:=hp.pix.len
 refine callsA 77 func61 rfl<|sR<|sBox hS (.agg (encPlane p).toArray) (encPlane p).toArray fun g0 _ s0=>sBox s0 (.agg (encRct r).toArray) (encRct r).toArray fun h0 _ m0=>pu2<|zQ<|lA m0 1 0 4 (isAgg38 _) (sizeOf38 _)<|cR call64 (p4_valid p ⟨(RdT.flat (hp.pix.up 2 (by rfl)))⟩ m0.flat) fun _ e0=>pu1<|nT<|cBn (planeOK p.v) (fun c0=>?_) (fun c0=>?_)
 rotate_left
 ·refine sR<|pu2<|zR<|retT [nS,I 1] ?_
  have hC:partC p.v bins r=1:=by unfold partC;rw [if_neg c0]
  have t0:=(e0.drops [0,0])
  have u0:Sat W _ ([]::H::F):=Sat.nilc t0
  exact ⟨none,0,0,[],1,_,rfl,RdT.nil (enc:=Go.E.encI) (sz:=1) fR [[]],(by unfold partV;rw [hC];rfl),u0⟩
 refine kT<|seqE<|sR<|pu3<|sD 17 (bins<1) (fun v0=>?_) (fun v0=>?_)
 ·refine pu3<|zC<|pu2<|zR<|retT [nS,I 9] ?_
  have hC:partC p.v bins r=9:=by unfold partC;rw [if_pos c0,if_neg om]
  have w0:=(e0.drops [0,0])
  have z0:Sat W _ ([]::H::F):=Sat.nilc w0
  exact ⟨none,0,0,[],9,_,rfl,RdT.nil (enc:=Go.E.encI) (sz:=1) fR [[]],(by unfold partV;rw [hC];rfl),z0⟩
 refine pu3<|nT<|cD (bins>128) (fun a1=>?_) (fun a1=>?_)
 ·refine sR<|pu2<|zR<|retT [nS,I 9] ?_
  have hC:partC p.v bins r=9:=by unfold partC;rw [if_pos c0,if_neg om]
  have b1:=(e0.drops [0,0])
  have c1:Sat W _ ([]::H::F):=Sat.nilc b1
  exact ⟨none,0,0,[],9,_,rfl,RdT.nil (enc:=Go.E.encI) (sz:=1) fR [[]],(by unfold partV;rw [hC];rfl),c1⟩
 refine kT<|seqE<|sR<|lA e0 0 0 4 (isAgg45 _) (sizeOf45 _)<|cR call65 (p2_empty r e0.flat) fun _ f0=>pu1<|sD 23 (r.x0=0/\r.y0=0/\r.x1=0/\r.y1=0) (fun k0=>?_) (fun k0=>?_)
 ·refine pu9<|zC<|pu2<|zR<|retT [nS,I 8] ?_
  have hsz:=(plane_sz c0).1;unfold sizeP at hsz;simp only [Plane.v] at hsz
  have hC:partC p.v bins r=8:=by unfold partC;rw [if_pos c0,if_pos om,if_neg (fun h=>by have h2:=(ins_in (by simp only [Plane.v];omega) (by simp only [Plane.v];omega)).2 h;exact h2.1 k0)]
  have d1:=(f0.drops [0,0])
  have e1:Sat W _ ([]::H::F):=Sat.nilc d1
  exact ⟨none,0,0,[],8,_,rfl,RdT.nil (enc:=Go.E.encI) (sz:=1) fR [[]],(by unfold partV;rw [hC];rfl),e1⟩
 refine gY<|lA f0 0 0 4 (isAgg45 _) (sizeOf45 _)<|pu1<|gY<|sL f0 1 0 (I p.w) (isAgg3 _)<|pu1<|gY<|sL f0 1 1 (I p.h) (isAgg3 _)<|pu1<|gY<|cR call66 (p2_inside r (⟨0,0,p.w,p.h⟩:Rct) f0.flat) fun _ n0=>pu2<|nT<|cDn (insP r (⟨0,0,p.w,p.h⟩:Rct)) (fun l0=>?_) (fun l0=>?_)
 rotate_left
 ·refine sR<|pu2<|zR<|retT [nS,I 8] ?_
  have hsz:=(plane_sz c0).1;unfold sizeP at hsz;simp only [Plane.v] at hsz
  have hC:partC p.v bins r=8:=by unfold partC;rw [if_pos c0,if_pos om,if_neg (fun h=>by have h2:=(ins_in (by simp only [Plane.v];omega) (by simp only [Plane.v];omega)).2 h;exact l0 h2.2)]
  have f1:=(n0.drops [0,0])
  have g1:Sat W _ ([]::H::F):=Sat.nilc f1
  exact ⟨none,0,0,[],8,_,rfl,RdT.nil (enc:=Go.E.encI) (sz:=1) fR [[]],(by unfold partV;rw [hC];rfl),g1⟩
 refine kT<|seqE ?_
 have hpo:planeOK p.v=true:=c0;have hsz:=(plane_sz hpo).1;unfold sizeP at hsz;simp only [Plane.v] at hsz;have hri:rIn r p.w p.h:=(ins_in om om).1 ⟨k0,l0⟩
 have hri0:=hri;unfold rIn at hri0
 obtain ⟨Wn,hW⟩:∃k:Nat,r.x1-r.x0=(k:Int):=⟨_,(Int.toNat_of_nonneg om).symm⟩;obtain ⟨Hn,hH⟩:∃k:Nat,r.y1-r.y0=(k:Int):=⟨_,(Int.toNat_of_nonneg om).symm⟩
 have hWb:1<=Wn/\Wn<=128/\1<=Hn/\Hn<=128:=om;have hWH:Hn*Wn<=4096:=by have h1:=rIn_area hri (by first|omega|assumption);rw [hW,hH] at h1;have h2:((Hn*Wn:Nat):Int)=(Wn:Int)*(Hn:Int):=(by push_cast;rw [Int.mul_comm]);omega
 have hWi:(r.x1-r.x0)*(r.y1-r.y0)=((Hn*Wn:Nat):Int):=by rw [hW,hH];push_cast;rw [Int.mul_comm]
 have hpl:p.v.pix.length=p.pix.n:=hn_p_pix
 have hbn:(bins.toNat:Int)=bins:=Int.toNat_of_nonneg om
 refine rE<|pu1<|sMake (kl:= .i64) (kc:= .i64) (enc:=Go.E.encI) (sz:=1) (nb:=8) n0 0 (bins).toNat bins (om:bins=(((bins).toNat:Nat):Int)) underlying22 (i:=Tryz.t3) kr fR fun i1 j1 _ k1 o0=>pu1<|zQ<|pu1<|sL o0 1 1 (I r.y0) (isAgg3 _)<|pu1<|nT<|blockE ?_
 refine loopA (γ:=Nat×Int×(List Int)×(Option Addr)×Nat×Nat×Chunk) (fun ⟨i,yy,zs,azs,nzs,kzs,czs⟩=>[(1,I bins),(3,Pt g0 0),(5,Pt h0 0),(9,I yy),(8, .slice azs nzs kzs)]) (fun ⟨i,yy,zs,azs,nzs,kzs,czs⟩ w=>Sat W w (czs::[(h0, .cells (encRct r).toArray 45 (0,0))]::[(g0, .cells (encPlane p).toArray 38 (0,0))]::H::F)/\i<=Hn/\(yy=r.y0+(i:Int))/\(zs=cntV p.v bins r (i*Wn))/\OwnT Go.E.encI 3 1 azs nzs kzs zs czs) (fun ⟨i,yy,zs,azs,nzs,kzs,czs⟩=>Hn-i) (0,r.y0,(List.replicate (bins).toNat 0),(At i1 0),(bins).toNat,(bins).toNat,j1) ⟨o0,om,om,(by rw [Nat.zero_mul];rfl),k1⟩ ?_
 rintro ⟨i,yy,zs,azs,nzs,kzs,czs⟩ ρ _ ⟨d0,hi,hyy,hE,hOzs⟩
 have hn_zs:=hOzs.len;have hl_zs:=hOzs.le
 have hzl:zs.length=bins.toNat:=by rw [hE];exact cnt_len _ _ _ _
 refine seqE<|sR<|pu2<|sL d0 1 3 (I r.y1) (isAgg3 _)<|pu1<|nT<|cD (yy<r.y1) (fun l1=>?_) (fun l1=>?_)
 rotate_left
 ·refine exitE<|xB<|tN<|sR<|pu3<|zE<|retT [.slice azs nzs kzs,I 0] ?_
  have hC:partC p.v bins r=0:=by unfold partC;rw [if_pos hpo,if_pos om,if_pos (show rIn r p.v.w p.v.h from hri)]
  exact ⟨azs,nzs,kzs,zs,0,_,rfl,(hOzs.rdAt (cs:=[czs]) 0 rfl),(by unfold partV;rw [hC,if_pos rfl,hE,show areaN r=i*Wn from by unfold areaN;rw [hWi,Int.toNat_natCast,show i=Hn by omega]]),(d0.drops [1,1])⟩
 refine kT<|seqE<|blockE<|seqE ?_
 have hix:=pl_ix hpo (x:=r.x1-1) (y:=yy) (by simp only [Plane.v];omega) (by simp only [Plane.v];omega);rw [hpl] at hix;simp only [Plane.v] at hix;have hW2:(yy*p.w+r.x1).toNat-(yy*p.w+r.x0).toNat=Wn:=by omega
 refine rE<|pu1<|sL d0 2 3 (.slice p.pix.a p.pix.n p.pix.k) (isAgg22 _)<|pu2<|sL d0 2 0 (I p.w) (isAgg3 _)<|sMul yy p.w<|pu1<|sL d0 1 0 (I r.x0) (isAgg3 _)<|sAdd (yy*p.w) r.x0<|pu2<|sL d0 2 0 (I p.w) (isAgg3 _)<|sMul yy p.w<|pu1<|sL d0 1 2 (I r.x1) (isAgg3 _)<|sAdd (yy*p.w) r.x1<|sSl (some ((yy*p.w)+r.x0)) (some ((yy*p.w)+r.x1)) ((((yy*p.w)+r.x0)).toNat) ((((yy*p.w)+r.x1)).toNat) runUnderlying22 sizeOf3 ⟨om,om⟩ ⟨om,om⟩ om om ?_ (a:=p.pix.a) (len:=p.pix.n) (cap:=p.pix.k)
 have n1:=hp.pix.part (lo:=(((yy*p.w)+r.x0)).toNat) (hi:=(((yy*p.w)+r.x1)).toNat) om om
 refine pu2<|nT<|blockE ?_
 refine loopA (γ:=Nat×(List Int)×(Option Addr)×Nat×Nat×Chunk) (fun ⟨j,zt,azt,nzt,kzt,czt⟩=>[(1,I bins),(3,Pt g0 0),(5,Pt h0 0),(9,I yy),(59, .slice (partAddr p.pix.a p.pix.k ((((yy*p.w)+r.x0)).toNat) 1) ((((yy*p.w)+r.x1)).toNat-((((yy*p.w)+r.x0)).toNat)) (p.pix.k-((((yy*p.w)+r.x0)).toNat))),(60,I ((((((yy*p.w)+r.x1)).toNat-((((yy*p.w)+r.x0)).toNat)):Nat):Int)),(61,I (j:Int)),(8, .slice azt nzt kzt)]) (fun ⟨j,zt,azt,nzt,kzt,czt⟩ w=>Sat W w (czt::[(h0, .cells (encRct r).toArray 45 (0,0))]::[(g0, .cells (encPlane p).toArray 38 (0,0))]::H::F)/\j<=Wn/\(zt=cntV p.v bins r (i*Wn+j))/\OwnT Go.E.encI 3 1 azt nzt kzt zt czt) (fun ⟨j,zt,azt,nzt,kzt,czt⟩=>Wn-j) (0,zs,azs,nzs,kzs,czs) ⟨d0,om,(by rw [Nat.add_zero];exact hE),hOzs⟩ ?_
 rintro ⟨j,zt,azt,nzt,kzt,czt⟩ ρ _ ⟨i0,hj,hE2,hOzt⟩
 have hn_zt:=hOzt.len;have hl_zt:=hOzt.le
 have hzl2:zt.length=bins.toNat:=by rw [hE2];exact cnt_len _ _ _ _
 have hij:i*Wn+j<=Hn*Wn:=by have h1:=Nat.mul_le_mul_right Wn (show i+1<=Hn by omega);rw [Nat.add_mul,Nat.one_mul] at h1;omega
 refine sR<|pu1<|nT<|seqE<|cD ((j:Int)<((((((yy*p.w)+r.x1)).toNat-((((yy*p.w)+r.x0)).toNat)):Nat):Int)) (fun o1=>?_) (fun o1=>?_)
 rotate_left
 ·refine exitE<|xB<|bN<|tN<|rE<|pu1<|sAdd yy 1<|pu1<|nT ?_
  exact ⟨(i+1,(yy+1),zt,azt,nzt,kzt,czt),od,alA,i0,om,om,(by rw [Nat.add_mul,Nat.one_mul,hE2,show j=Wn by omega]),hOzt⟩
 refine kT<|seqE<|blockE<|sR<|sIdx n1 (j:Int) runUnderlying22 sizeOf3 fun a0 _ _ p0 p1=>?_
 rw [Int.toNat_natCast] at p0
 have hpa:pixAt p.v (r.x0+(j:Int)) (r.y0+(i:Int))=a0:=by
  have h:=part_at p0
  refine pixAt_eq ?_
  rw [<-hyy,<-h];simp only [Plane.v];congr 1;rw [Int.add_comm r.x0,<-Int.add_assoc];omega
 refine sLp i0 (p1.up 3 rfl) 0 (I a0) (isAgg3 _)<|pu1<|nT<|rE<|pu3<|sL i0 2 2 (I p.max_) (isAgg3 _)<|pu1<|cR call109 (p12_bin a0 p.max_ bins i0.flat) fun _ q0=>?_
 have hbb:=bin_bd (v:=a0) (mx:=p.max_) (bins:=bins) om
 refine sIdxO hOzt (binV a0 p.max_ bins) ((binV a0 p.max_ bins)).toNat runUnderlying22 sizeOf3 fun b0 _ _ r0 q1 _=>?_
 have hcb:=cnt_bd (p:=p.v) (bins:=bins) (r:=r) (i*Wn+j) b0 (by rw [<-hE2];exact List.mem_of_getElem? r0)
 refine sLp q0 (q1.up 0 rfl) 0 (I b0) (isAgg3 _)<|sAdd b0 1<|sIdxO hOzt (binV a0 p.max_ bins) ((binV a0 p.max_ bins)).toNat runUnderlying22 sizeOf3 fun r1 _ _ j0 _ s1=>?_
 obtain rfl:b0=r1:=Option.some.inj (r0.symm.trans j0)
 have hcb:=cnt_bd (p:=p.v) (bins:=bins) (r:=r) (i*Wn+j) b0 (by rw [<-hE2];exact List.mem_of_getElem? j0)
 exact sStF q0 hOzt s1 0 ((binV a0 p.max_ bins)).toNat 0 b0 (b0+1) j0 (I (b0+1)) [I (b0+1)] sizeOf3 fun _ t1 u1 v1=>nB<|rE<|sAdd (j:Int) 1<|pu1<|nT<|⟨(j+1,(zt.set (((binV a0 p.max_ bins)).toNat) (b0+1)),azt,nzt,kzt,t1),od,alA,v1,om,(by rw [<-Nat.add_assoc,cnt_succ hW om,hpa,<-hE2];exact inc_set j0),u1⟩
theorem p12_whole (p:Plane) (bins:Int) (hp:Plane.Ok [H] p) (hS:Sat W w (H::F)):
  Calls prog 92 #[.agg (encPlane p).toArray,I bins] w fun e w'=>∃(q:Plane) (c:Int) (G:Chunk),e= .returned (.tuple #[.agg (encPlane q).toArray,I c])/\q.Ok [G]/\(q.v,c)=histT p.v bins/\Sat W w' (G::H::F):=by
 have hl_p_pix:=hp.pix.le;have hn_p_pix:=hp.pix.len
 refine callsA 31 func92 rfl<|sR<|sBox hS (.agg (encPlane p).toArray) (encPlane p).toArray fun _ _ l0=>sAlloc l0 zeroValue38 fun _ _ c0=>pu1<|zS<|lA c0 1 0 4 (isAgg38 _) (sizeOf38 _)<|pu2<|sL c0 1 0 (I p.w) (isAgg3 _)<|pu1<|sL c0 1 1 (I p.h) (isAgg3 _)<|pu1<|cX call61 (p12_partial p bins (⟨0,0,p.w,p.h⟩:Rct) ⟨(RdT.flat (hp.pix.up 2 (by rfl)))⟩ c0.flat) ?_
 rintro _ _ ⟨e0,f0,g0,h0,a0,_,rfl,i0,b0,m0⟩
 have d0:=m0.unflat1
 have hn_az_15:=i0.len;have hl_az_15:=i0.le
 refine pu5<|zQ<|pu2<|nT<|cN a0 0 (fun n0=>?_) (fun n0=>?_)
 rotate_left
 ·refine sR<|pu2<|sTl d0 1 [I 0,I 0,I 0,nS] sizeOf38 fun _ j0=>pu1<|zR<|retC j0 1 [I 0,I 0,I 0,nS] (I a0) (isAgg38 _) (sizeOf38 _) ?_
  have hp1:h0=partV p.v bins ⟨0,0,p.v.w,p.v.h⟩:=congrArg Prod.fst b0;have hp2:a0=partC p.v bins ⟨0,0,p.v.w,p.v.h⟩:=congrArg Prod.snd b0
  have o0:=(j0.drops [0,0,0])
  have p0:Sat W _ ([]::H::F):=Sat.nilc o0
  exact ⟨(⟨0,0,0,⟨none,0,0,[]⟩⟩:Plane),a0,_,rfl,⟨RdT.nil (enc:=Go.E.encI) (sz:=1) fR [[]]⟩,(by unfold histT;rw [okT_n (by rw [<-hp2];omega),<-hp2];rfl),p0⟩
 refine kT<|seqE ?_
 have hpo:planeOK p.v=true:=by
  have h:=congrArg Prod.snd b0;dsimp only at h;unfold partC at h;split at h
  ·assumption
  ·omega
 have hsz:=(plane_sz hpo).1;unfold sizeP at hsz;simp only [Plane.v] at hsz;have hwh:=mul_bd (a:=p.w) (b:=p.h) (A:=128) (B:=128) om om
 refine rE<|pu2<|sL d0 2 0 (I p.w) (isAgg3 _)<|pu1<|sL d0 2 1 (I p.h) (isAgg3 _)<|sMul p.w p.h<|pu2<|sTl d0 1 [I bins,I 1,I (p.w*p.h), .slice e0 f0 g0] sizeOf38 fun _ k0=>pu1<|zE<|retC k0 1 [I bins,I 1,I (p.w*p.h), .slice e0 f0 g0] (I 0) (isAgg38 _) (sizeOf38 _) ?_
 have hp1:h0=partV p.v bins ⟨0,0,p.v.w,p.v.h⟩:=congrArg Prod.fst b0;have hp2:a0=partC p.v bins ⟨0,0,p.v.w,p.v.h⟩:=congrArg Prod.snd b0
 exact ⟨(⟨bins,1,(p.w*p.h),⟨e0,f0,g0,h0⟩⟩:Plane),0,_,rfl,⟨i0⟩,(by unfold histT;rw [okT_0 (by rw [<-hp2];omega),hp1];unfold partV;rw [if_pos (by rw [<-hp2];omega)];rfl),(k0.drops [1,1])⟩
theorem p13_checked (p:Plane) (hp:Plane.Ok [H] p) (hS:Sat W w (H::F)):
  Ro prog 153 #[.agg (encPlane p).toArray] (.tuple #[I ((chkI p.v).1),I ((chkI p.v).2)]) W w (H::F):=by
 have hl_p_pix:=hp.pix.le;have hn_p_pix:=hp.pix.len
 refine callsA 23 func153 rfl<|sR<|sBox hS (.agg (encPlane p).toArray) (encPlane p).toArray fun _ _ d0=>pu2<|zQ<|lA d0 0 0 4 (isAgg38 _) (sizeOf38 _)<|cR call64 (p4_valid p ⟨(RdT.flat (hp.pix.up 1 (by rfl)))⟩ d0.flat) fun _ a0=>pu1<|nT<|cBn (planeOK p.v) (fun b0=>?_) (fun b0=>?_)
 rotate_left
 ·refine sR<|pu2<|zR<|retT [I 0,I 1] ?_
  exact ⟨by rw [show chkI p.v=(0,1) from by unfold chkI;rw [if_neg b0]];rfl,(a0.dropAt 0 rfl)⟩
 refine kS<|pu1<|sL a0 0 0 (I p.w) (isAgg3 _)<|pu1<|sL a0 0 1 (I p.h) (isAgg3 _)<|pu1<|sL a0 0 2 (I p.max_) (isAgg3 _)<|pu1<|cR call187 (p13_most (⟨p.w,p.h,p.max_⟩:Shape) a0.flat) fun _ e0=>pu5<|zQ<|pu2<|nT<|cBn (mostOK (⟨p.w,p.h,p.max_⟩:Shape).w (⟨p.w,p.h,p.max_⟩:Shape).h (⟨p.w,p.h,p.max_⟩:Shape).max_) (fun c0=>?_) (fun c0=>?_)
 rotate_left
 ·refine sR<|pu2<|zR<|retT [I 0,I 11] ?_
  exact ⟨by rw [show chkI p.v=(0,11) from by unfold chkI;rw [if_pos b0,if_neg (show ¬mostOK p.v.w p.v.h p.v.max_=true from c0)]];rfl,(e0.dropAt 0 rfl)⟩
 refine kS<|pu3<|zE<|retT [I (mostV (⟨p.w,p.h,p.max_⟩:Shape).w (⟨p.w,p.h,p.max_⟩:Shape).h (⟨p.w,p.h,p.max_⟩:Shape).max_),I 0] ?_
 exact ⟨by rw [show chkI p.v=((mostV (⟨p.w,p.h,p.max_⟩:Shape).w (⟨p.w,p.h,p.max_⟩:Shape).h (⟨p.w,p.h,p.max_⟩:Shape).max_),0) from by unfold chkI;rw [if_pos b0,if_pos (show mostOK p.v.w p.v.h p.v.max_=true from c0)];rfl];rfl,(e0.dropAt 0 rfl)⟩
theorem p13_outside (m:Int) (al:Option Addr) (nl kl:Nat) (l:List Int) (hl:RdT Go.E.encI 1 [H] al nl kl l) (hS:Sat W w (H::F)):
  Ro prog 188 #[I m, .slice al nl kl] (.bool (!(inM m l))) W w (H::F):=by
 have hl_l:=hl.le;have hn_l:=hl.len
 refine callsA 21 func188 rfl<|sR<|pu1<|zQ<|pu3<|nT<|blockE<|loopA (γ:=Nat) (fun i=>[(0,I m),(7, .slice al nl kl),(8,I (nl:Int)),(9,I (i:Int))]) (fun i w=>Sat W w (H::F)/\i<=nl/\((l.take i).all (fun v=>decide (0<=v/\v<=m))=true)) (fun i=>nl-i) 0 ⟨hS,om,by rfl⟩ ?_
 rintro i ρ _ ⟨a0,hi,hE⟩
 refine sR<|pu1<|nT<|seqE<|cD ((i:Int)<(nl:Int)) (fun d0=>?_) (fun d0=>?_)
 rotate_left
 ·exact exitE<|xB<|tN<|sR<|pu1<|zE<|retT [.bool false]<|⟨rB (by rw [show inM m l=true from all_of_take hE om];rfl),a0⟩
 refine kT<|seqE<|blockE<|sR<|sIdx hl (i:Int) runUnderlying22 sizeOf3 fun c0 _ _ b0 e0=>?_
 rw [Int.toNat_natCast] at b0
 refine sLp a0 (e0.up 0 rfl) 0 (I c0) (isAgg3 _)<|pu1<|zS<|pu3<|sD 15 (c0<0) (fun f0=>?_) (fun f0=>?_)
 ·exact pu4<|zC<|pu1<|zB<|tR<|tK<|retT [.bool true]<|⟨rB (by rw [Bool.eq_iff_iff];have h:=inM_f (m:=m) b0 om;simp [h]),a0⟩
 refine pu4<|nT<|cD (c0>m) (fun g0=>?_) (fun g0=>?_)
 rotate_left
 ·exact skipE<|bN<|tN<|rE<|sAdd (i:Int) 1<|pu1<|nT<|⟨i+1,od,alA,a0,om,all_succ hE b0 (decide_eq_true om)⟩
 exact sR<|pu1<|zB<|tR<|tK<|retT [.bool true]<|⟨rB (by rw [Bool.eq_iff_iff];have h:=inM_f (m:=m) b0 om;simp [h]),a0⟩
theorem p13_tile (p:Plane) (r:Rct) (aleft:Option Addr) (nleft kleft:Nat) (left:List Int) (atop:Option Addr) (ntop ktop:Nat) (top:List Int) (corner:Int) (hp:Plane.Ok [H] p) (hleft:RdT Go.E.encI 1 [H] aleft nleft kleft left) (htop:RdT Go.E.encI 1 [H] atop ntop ktop top) (hS:Sat W w (H::F)):
  Calls prog 154 #[.agg (encPlane p).toArray, .agg (encRct r).toArray, .slice aleft nleft kleft, .slice atop ntop ktop,I corner] w fun e w'=>∃(q:Plane) (c:Int) (G:Chunk),e= .returned (.tuple #[.agg (encPlane q).toArray,I c])/\q.Ok [G]/\(q.v,c)=itgT p.v r left top corner/\Sat W w' (G::H::F):=by
 have hl_p_pix:=hp.pix.le;have hn_p_pix:=hp.pix.len
 have hl_left:=hleft.le;have hn_left:=hleft.len
 have hl_top:=htop.le;have hn_top:=htop.len
 refine callsA 155 func154 rfl ?_
 refine sR ?_
 refine sBox hS (.agg (encPlane p).toArray) (encPlane p).toArray ?_
 intro g0 _ p2
 refine sBox p2 (.agg (encRct r).toArray) (encRct r).toArray ?_
 intro h0 _ q2
 refine sAlloc q2 zeroValue38 ?_
 intro n0 _ m1
 refine pu1<|zS ?_
 refine lA m1 2 0 4 (isAgg38 _) (sizeOf38 _) ?_
 refine cR call153 (p13_checked p ⟨(RdT.flat (hp.pix.up 3 (by rfl)))⟩ m1.flat) ?_
 intro _ s0
 refine pu5<|zQ<|pu2<|nT ?_
 refine cN ((chkI p.v).2) 0 (fun r2=>?_) (fun r2=>?_)
 rotate_left
 ·refine sR<|pu2 ?_
  refine sTl s0 0 [I 0,I 0,I 0,nS] sizeOf38 ?_
  intro _ n1
  refine pu1<|zR<|retC n1 0 [I 0,I 0,I 0,nS] (I ((chkI p.v).2)) (isAgg38 _) (sizeOf38 _) ?_
  have hC:itgC p.v r left top corner=((chkI p.v).2):=by
   have h:¬(chkI p.v).2=0:=by omega
   unfold chkI at h⊢;unfold itgC;split
   ·rename_i h1;rw [if_pos h1] at h;split
    ·rename_i h2;rw [if_pos h2] at h;exact absurd rfl h
    ·rfl
   ·rfl
  have s2:=(n1.drops [0,0,0])
  have t2:Sat W _ ([]::H::F):=Sat.nilc s2
  exact ⟨(⟨0,0,0,⟨none,0,0,[]⟩⟩:Plane),((chkI p.v).2),_,rfl,⟨RdT.nil (enc:=Go.E.encI) (sz:=1) fR [[]]⟩,(by unfold itgT;rw [okT_c hC om];rfl),t2⟩
 refine kT<|seqE<|seqE ?_
 have hck:planeOK p.v=true/\mostOK p.v.w p.v.h p.v.max_=true/\(chkI p.v).1=mostV p.v.w p.v.h p.v.max_:=by
  have h:(chkI p.v).2=0:=by omega
  unfold chkI at h⊢
  split at h
  ·rename_i h1
   rw [if_pos h1]
   split at h
   ·rename_i h2;rw [if_pos h2];exact ⟨h1,h2,rfl⟩
   ·simp at h
  ·simp at h
 obtain ⟨hpo,hmo,hmv⟩:=hck;have hmv2:(chkI p.v).1=mostV p.w p.h p.max_:=hmv;have hmo2:mostOK p.w p.h p.max_=true:=hmo;have hmb:=most_bd hmo2;have hsz:=(plane_sz hpo).1;unfold sizeP at hsz;simp only [Plane.v] at hsz
 refine rE ?_
 refine lA s0 1 0 4 (isAgg45 _) (sizeOf45 _) ?_
 refine cR call65 (p2_empty r s0.flat) ?_
 intro _ j0
 refine pu1 ?_
 refine sD 30 (r.x0=0/\r.y0=0/\r.x1=0/\r.y1=0) (fun t0=>?_) (fun t0=>?_)
 ·refine pu9<|zC<|pu1 ?_
  refine sTl j0 0 [I 0,I 0,I 0,nS] sizeOf38 ?_
  intro _ o1
  refine pu1<|zR<|retC o1 0 [I 0,I 0,I 0,nS] (I 8) (isAgg38 _) (sizeOf38 _) ?_
  have hC:itgC p.v r left top corner=8:=by unfold itgC;rw [if_pos hpo,if_pos hmo,if_neg (fun h=>by have h2:=(ins_in (by simp only [Plane.v];omega) (by simp only [Plane.v];omega)).2 h.1;exact h2.1 t0)]
  have u2:=(o1.drops [0,0,0])
  have v2:Sat W _ ([]::H::F):=Sat.nilc u2
  exact ⟨(⟨0,0,0,⟨none,0,0,[]⟩⟩:Plane),8,_,rfl,⟨RdT.nil (enc:=Go.E.encI) (sz:=1) fR [[]]⟩,(by unfold itgT;rw [okT_c hC om];rfl),v2⟩
 refine gY ?_
 refine lA j0 1 0 4 (isAgg45 _) (sizeOf45 _) ?_
 refine pu1<|gY ?_
 refine sL j0 2 0 (I p.w) (isAgg3 _) ?_
 refine pu1<|gY ?_
 refine sL j0 2 1 (I p.h) (isAgg3 _) ?_
 refine pu1<|gY ?_
 refine cR call66 (p2_inside r (⟨0,0,p.w,p.h⟩:Rct) j0.flat) ?_
 intro _ i0
 refine pu2<|nT ?_
 refine cDn (insP r (⟨0,0,p.w,p.h⟩:Rct)) (fun u0=>?_) (fun u0=>?_)
 rotate_left
 ·refine sR<|pu1 ?_
  refine sTl i0 0 [I 0,I 0,I 0,nS] sizeOf38 ?_
  intro _ p1
  refine pu1<|zR<|retC p1 0 [I 0,I 0,I 0,nS] (I 8) (isAgg38 _) (sizeOf38 _) ?_
  have hC:itgC p.v r left top corner=8:=by unfold itgC;rw [if_pos hpo,if_pos hmo,if_neg (fun h=>by have h2:=(ins_in (by simp only [Plane.v];omega) (by simp only [Plane.v];omega)).2 h.1;exact u0 h2.2)]
  have w2:=(p1.drops [0,0,0])
  have x2:Sat W _ ([]::H::F):=Sat.nilc w2
  exact ⟨(⟨0,0,0,⟨none,0,0,[]⟩⟩:Plane),8,_,rfl,⟨RdT.nil (enc:=Go.E.encI) (sz:=1) fR [[]]⟩,(by unfold itgT;rw [okT_c hC om];rfl),x2⟩
 refine kT<|seqE ?_
 have hri:rIn r p.w p.h:=(ins_in om om).1 ⟨t0,u0⟩
 have hri0:=hri;unfold rIn at hri0
 obtain ⟨Wn,hW⟩:∃k:Nat,r.x1-r.x0=(k:Int):=⟨_,(Int.toNat_of_nonneg om).symm⟩;obtain ⟨Hn,hH⟩:∃k:Nat,r.y1-r.y0=(k:Int):=⟨_,(Int.toNat_of_nonneg om).symm⟩
 have hWb:1<=Wn/\Wn<=128/\1<=Hn/\Hn<=128:=om;have hWH:Hn*Wn<=4096:=by have h1:=rIn_area hri (by first|omega|assumption);rw [hW,hH] at h1;have h2:((Hn*Wn:Nat):Int)=(Wn:Int)*(Hn:Int):=(by push_cast;rw [Int.mul_comm]);omega
 have hWi:(r.x1-r.x0)*(r.y1-r.y0)=((Hn*Wn:Nat):Int):=by rw [hW,hH];push_cast;rw [Int.mul_comm]
 have hpl:p.v.pix.length=p.pix.n:=hn_p_pix
 refine rE<|pu1 ?_
 refine sL i0 1 2 (I r.x1) (isAgg3 _) ?_
 refine pu1 ?_
 refine sL i0 1 0 (I r.x0) (isAgg3 _) ?_
 refine sSub r.x1 r.x0 ?_
 refine pu1 ?_
 refine sL i0 1 3 (I r.y1) (isAgg3 _) ?_
 refine pu1 ?_
 refine sL i0 1 1 (I r.y0) (isAgg3 _) ?_
 refine sSub r.y1 r.y0 ?_
 refine pu2 ?_
 refine sAlloc i0 zeroValue38 ?_
 intro k0 _ y2
 refine sTl y2 0 [I (r.x1-r.x0),I (r.y1-r.y0),I ((chkI p.v).1),nS] sizeOf38 ?_
 intro _ l0
 refine zQ<|pu3 ?_
 refine sL l0 0 1 (I (r.y1-r.y0)) (isAgg3 _) ?_
 refine pu2 ?_
 refine sN 58 (nleft:Int) (r.y1-r.y0) (fun z2=>?_) (fun z2=>?_)
 rotate_left
 ·refine pu6<|zC<|pu1 ?_
  refine sTl l0 1 [I 0,I 0,I 0,nS] sizeOf38 ?_
  intro _ q1
  refine pu1<|zR<|retC q1 1 [I 0,I 0,I 0,nS] (I 8) (isAgg38 _) (sizeOf38 _) ?_
  have hC:itgC p.v r left top corner=8:=by unfold itgC;rw [if_pos hpo,if_pos hmo,if_neg (fun h=>by omega)]
  have a3:=(q1.drops [0,0,0,0])
  have b3:Sat W _ ([]::H::F):=Sat.nilc a3
  exact ⟨(⟨0,0,0,⟨none,0,0,[]⟩⟩:Plane),8,_,rfl,⟨RdT.nil (enc:=Go.E.encI) (sz:=1) fR [[]]⟩,(by unfold itgT;rw [okT_c hC om];rfl),b3⟩
 refine pu3<|gY ?_
 refine sL l0 0 0 (I (r.x1-r.x0)) (isAgg3 _) ?_
 refine pu2<|nT ?_
 refine cN (ntop:Int) (r.x1-r.x0) (fun c3=>?_) (fun c3=>?_)
 rotate_left
 ·refine sR<|pu1 ?_
  refine sTl l0 1 [I 0,I 0,I 0,nS] sizeOf38 ?_
  intro _ r1
  refine pu1<|zR<|retC r1 1 [I 0,I 0,I 0,nS] (I 8) (isAgg38 _) (sizeOf38 _) ?_
  have hC:itgC p.v r left top corner=8:=by unfold itgC;rw [if_pos hpo,if_pos hmo,if_neg (fun h=>by omega)]
  have d3:=(r1.drops [0,0,0,0])
  have e3:Sat W _ ([]::H::F):=Sat.nilc d3
  exact ⟨(⟨0,0,0,⟨none,0,0,[]⟩⟩:Plane),8,_,rfl,⟨RdT.nil (enc:=Go.E.encI) (sz:=1) fR [[]]⟩,(by unfold itgT;rw [okT_c hC om];rfl),e3⟩
 refine kT<|seqE<|sR<|pu2 ?_
 refine sBS l0 #[I corner] runUnderlying22 sizeOf3 zeroValue3 ?_
 intro v0 _ f3
 refine cR call188 (p13_outside ((chkI p.v).1) (At v0 0) 1 1 ([corner]) (RdT.flat (RdT.blk (enc:=Go.E.encI) (sz:=1) (xs:=[corner]) (fun _=>(by rfl)) 1 0 rfl rfl rfl om)) f3.flat) ?_
 intro _ s1
 refine pu1 ?_
 refine sB 70 (!(inM ((chkI p.v).1) ([corner]))) (fun w0=>?_) (fun w0=>?_)
 ·refine pu9<|zC<|pu1 ?_
  refine sTl s1 2 [I 0,I 0,I 0,nS] sizeOf38 ?_
  intro _ t1
  refine pu1<|zR<|retC t1 2 [I 0,I 0,I 0,nS] (I 2) (isAgg38 _) (sizeOf38 _) ?_
  have hC:itgC p.v r left top corner=2:=by unfold itgC;rw [if_pos hpo,if_pos hmo,if_pos ⟨show rIn r p.v.w p.v.h from hri,om⟩,if_neg (fun h=>by have h1:=inM3.1 h.1;rw [show mostV p.v.w p.v.h p.v.max_=(chkI p.v).1 from hmv.symm] at h1;have h2:=w0;simp [h1.1,h1.2.1,h1.2.2] at h2)]
  have g3:=(t1.drops [0,0,0,0,0])
  have i3:Sat W _ ([]::H::F):=Sat.nilc g3
  exact ⟨(⟨0,0,0,⟨none,0,0,[]⟩⟩:Plane),2,_,rfl,⟨RdT.nil (enc:=Go.E.encI) (sz:=1) fR [[]]⟩,(by unfold itgT;rw [okT_c hC om];rfl),i3⟩
 refine pu2<|gY ?_
 refine cR call188 (p13_outside ((chkI p.v).1) aleft nleft kleft left (RdT.flat (hleft.up 5 (by rfl))) s1.flat) ?_
 intro _ u1
 refine pu2 ?_
 refine sB 75 (!(inM ((chkI p.v).1) left)) (fun z0=>?_) (fun z0=>?_)
 ·refine pu4<|zC<|pu1 ?_
  refine sTl u1 2 [I 0,I 0,I 0,nS] sizeOf38 ?_
  intro _ v1
  refine pu1<|zR<|retC v1 2 [I 0,I 0,I 0,nS] (I 2) (isAgg38 _) (sizeOf38 _) ?_
  have hC:itgC p.v r left top corner=2:=by unfold itgC;rw [if_pos hpo,if_pos hmo,if_pos ⟨show rIn r p.v.w p.v.h from hri,om⟩,if_neg (fun h=>by have h1:=inM3.1 h.1;rw [show mostV p.v.w p.v.h p.v.max_=(chkI p.v).1 from hmv.symm] at h1;have h2:=z0;simp [h1.1,h1.2.1,h1.2.2] at h2)]
  have j3:=(v1.drops [0,0,0,0,0])
  have k3:Sat W _ ([]::H::F):=Sat.nilc j3
  exact ⟨(⟨0,0,0,⟨none,0,0,[]⟩⟩:Plane),2,_,rfl,⟨RdT.nil (enc:=Go.E.encI) (sz:=1) fR [[]]⟩,(by unfold itgT;rw [okT_c hC om];rfl),k3⟩
 refine pu2<|gY ?_
 refine cR call188 (p13_outside ((chkI p.v).1) atop ntop ktop top (RdT.flat (htop.up 5 (by rfl))) u1.flat) ?_
 intro _ o0
 refine pu1<|nT ?_
 refine cB (!(inM ((chkI p.v).1) top)) (fun a1=>?_) (fun a1=>?_)
 ·refine sR<|pu1 ?_
  refine sTl o0 2 [I 0,I 0,I 0,nS] sizeOf38 ?_
  intro _ w1
  refine pu1<|zR<|retC w1 2 [I 0,I 0,I 0,nS] (I 2) (isAgg38 _) (sizeOf38 _) ?_
  have hC:itgC p.v r left top corner=2:=by unfold itgC;rw [if_pos hpo,if_pos hmo,if_pos ⟨show rIn r p.v.w p.v.h from hri,om⟩,if_neg (fun h=>by have h1:=inM3.1 h.1;rw [show mostV p.v.w p.v.h p.v.max_=(chkI p.v).1 from hmv.symm] at h1;have h2:=a1;simp [h1.1,h1.2.1,h1.2.2] at h2)]
  have l3:=(w1.drops [0,0,0,0,0])
  have m3:Sat W _ ([]::H::F):=Sat.nilc l3
  exact ⟨(⟨0,0,0,⟨none,0,0,[]⟩⟩:Plane),2,_,rfl,⟨RdT.nil (enc:=Go.E.encI) (sz:=1) fR [[]]⟩,(by unfold itgT;rw [okT_c hC om];rfl),m3⟩
 refine kT<|seqE ?_
 have hlft:(left.length:Int)=r.y1-r.y0/\(top.length:Int)=r.x1-r.x0:=by omega
 have hin:inM (mostV p.w p.h p.max_) (corner::left++top)=true:=by
  rw [<-hmv2]
  have h1:=w0;have h2:=z0;have h3:=a1
  exact inM3.2 ⟨by simpa using h1,by simpa using h2,by simpa using h3⟩
 have hinA:=List.all_eq_true.1 hin;have hc0:0<=corner/\corner<=mostV p.w p.h p.max_:=of_decide_eq_true (hinA corner (by simp))
 obtain ⟨f,hf⟩:∃f:Int->Int->Int,f=itgX p.v left top corner r:=⟨_,rfl⟩
 refine rE<|pu1 ?_
 refine sL o0 1 0 (I (r.x1-r.x0)) (isAgg3 _) ?_
 refine pu1 ?_
 refine sL o0 1 1 (I (r.y1-r.y0)) (isAgg3 _) ?_
 refine sMul (r.x1-r.x0) (r.y1-r.y0) ?_
 refine sMake0 (kl:= .i64) (kc:= .i64) (enc:=Go.E.encI) (sz:=1) (nb:=8) o0 (((r.x1-r.x0)*(r.y1-r.y0))).toNat ((r.x1-r.x0)*(r.y1-r.y0)) (om:((r.x1-r.x0)*(r.y1-r.y0))=(((((r.x1-r.x0)*(r.y1-r.y0))).toNat:Nat):Int)) underlying22 (i:=Tryz.t3) kr fR ?_
 intro z1 n3 _ o3 p3
 refine pu1 ?_
 refine tW p3 2 3 (.slice (At z1 0) 0 ((((r.x1-r.x0)*(r.y1-r.y0))).toNat)) sizeOf22 ?_
 intro _ a2
 refine zS<|pu1 ?_
 refine sL a2 2 0 (I (r.x1-r.x0)) (isAgg3 _) ?_
 refine sMake (kl:= .i64) (kc:= .i64) (enc:=Go.E.encI) (sz:=1) (nb:=8) a2 0 ((r.x1-r.x0)).toNat (r.x1-r.x0) (om:(r.x1-r.x0)=((((r.x1-r.x0)).toNat:Nat):Int)) underlying22 (i:=Tryz.t3) kr fR ?_
 intro q3 r3 _ s3 b2
 refine pu1<|zQ<|pu1 ?_
 refine sL b2 3 1 (I (r.y1-r.y0)) (isAgg3 _) ?_
 refine pu1<|nT<|blockE ?_
 have u3:=(b2.pick 1 rfl)
 refine loopA (γ:=Nat×(List Int)×(Option Addr)×Nat×Nat×Chunk×(List Int)×(Option Addr)×Nat×Nat×Chunk) (fun ⟨i,zs,azs,nzs,kzs,czs,cs,acs,ncs,kcs,ccs⟩=>[(2, .slice aleft nleft kleft),(3, .slice atop ntop ktop),(4,I corner),(5,Pt g0 0),(6,Pt h0 0),(10,Pt n0 0),(12,I ((chkI p.v).1)),(14,Pt k0 0),(92,I (r.y1-r.y0)),(93,I (i:Int)),(15, .slice acs ncs kcs)]) (fun ⟨i,zs,azs,nzs,kzs,czs,cs,acs,ncs,kcs,ccs⟩ w=>Sat W w (czs::ccs::[(v0, .cells #[I corner] 3 (0,0))]::[(k0, .cells #[I (r.x1-r.x0),I (r.y1-r.y0),I ((chkI p.v).1), .slice azs nzs kzs] 38 (0,0))]::[(n0, .cells #[I 0,I 0,I 0,nS] 38 (0,0))]::[(h0, .cells (encRct r).toArray 45 (0,0))]::[(g0, .cells (encPlane p).toArray 38 (0,0))]::H::F)/\i<=Hn/\(zs=gridN Wn f (i*Wn))/\(cs=tabN (fun k=>colS p.v (r.x0+(k:Int)) r.y0 i) Wn)/\OwnT Go.E.encI 3 1 azs nzs kzs zs czs/\OwnT Go.E.encI 3 1 acs ncs kcs cs ccs) (fun ⟨i,zs,azs,nzs,kzs,czs,cs,acs,ncs,kcs,ccs⟩=>Hn-i) (0,[],(At z1 0),0,(((r.x1-r.x0)*(r.y1-r.y0))).toNat,n3,(List.replicate ((r.x1-r.x0)).toNat 0),(At q3 0),((r.x1-r.x0)).toNat,((r.x1-r.x0)).toNat,r3) ⟨u3,om,(by rw [Nat.zero_mul];rfl),(by rw [show (r.x1-r.x0).toNat=Wn by omega];exact tab_zero (fun _ _=>rfl)),o3,s3⟩ ?_
 rintro ⟨i,zs,azs,nzs,kzs,czs,cs,acs,ncs,kcs,ccs⟩ ρ _ ⟨p0,hi,hE,hcs,hOzs,hOcs⟩
 have hn_zs:=hOzs.len;have hl_zs:=hOzs.le
 have hn_cs:=hOcs.len;have hl_cs:=hOcs.le
 refine sR<|pu1<|nT<|seqE ?_
 refine cD ((i:Int)<(r.y1-r.y0)) (fun v3=>?_) (fun v3=>?_)
 rotate_left
 ·refine exitE<|xB<|tN<|seqE<|sR<|pu2 ?_
  refine sL p0 3 3 (.slice azs nzs kzs) (isAgg22 _) ?_
  refine cR call188 (p13_outside ((chkI p.v).1) azs nzs kzs zs (RdT.flat (hOzs.rdAt 0 (by rfl))) p0.flat) ?_
  intro _ b1
  refine nT ?_
  refine cB (!(inM ((chkI p.v).1) zs)) (fun w3=>?_) (fun w3=>?_)
  ·refine sR<|pu1 ?_
   refine sTl b1 4 [I 0,I 0,I 0,nS] sizeOf38 ?_
   intro _ c2
   refine pu1<|zR<|retC c2 4 [I 0,I 0,I 0,nS] (I 2) (isAgg38 _) (sizeOf38 _) ?_
   have hLL:itgL p.v left top corner r=zs:=by unfold itgL;rw [hE,show i=Hn by omega,<-hf,show areaN r=Hn*Wn from by unfold areaN;rw [hWi,Int.toNat_natCast],hW]
   have hC:itgC p.v r left top corner=2:=by unfold itgC;rw [if_pos hpo,if_pos hmo,if_pos ⟨show rIn r p.v.w p.v.h from hri,hlft⟩,if_neg (fun h=>by have h1:=h.2;rw [hLL,show mostV p.v.w p.v.h p.v.max_=(chkI p.v).1 from hmv.symm] at h1;simp_all)]
   have x3:=(c2.drops [0,0,0,0,0,0,0])
   have y3:Sat W _ ([]::H::F):=Sat.nilc x3
   exact ⟨(⟨0,0,0,⟨none,0,0,[]⟩⟩:Plane),2,_,rfl,⟨RdT.nil (enc:=Go.E.encI) (sz:=1) fR [[]]⟩,(by unfold itgT;rw [okT_c hC om];rfl),y3⟩
  refine kS ?_
  refine lA b1 3 0 4 (isAgg38 _) (sizeOf38 _) ?_
  refine sTl b1 4 [I (r.x1-r.x0),I (r.y1-r.y0),I ((chkI p.v).1), .slice azs nzs kzs] sizeOf38 ?_
  intro _ d2
  refine pu1<|zE<|retC d2 4 [I (r.x1-r.x0),I (r.y1-r.y0),I ((chkI p.v).1), .slice azs nzs kzs] (I 0) (isAgg38 _) (sizeOf38 _) ?_
  have hLL:itgL p.v left top corner r=zs:=by unfold itgL;rw [hE,show i=Hn by omega,<-hf,show areaN r=Hn*Wn from by unfold areaN;rw [hWi,Int.toNat_natCast],hW]
  have hC:itgC p.v r left top corner=0:=by unfold itgC;rw [if_pos hpo,if_pos hmo,if_pos ⟨show rIn r p.v.w p.v.h from hri,hlft⟩,if_pos ⟨hin,by rw [hLL,show mostV p.v.w p.v.h p.v.max_=(chkI p.v).1 from hmv.symm];simp_all⟩]
  exact ⟨(⟨(r.x1-r.x0),(r.y1-r.y0),(chkI p.v).1,⟨azs,nzs,kzs,zs⟩⟩:Plane),0,_,rfl,⟨(hOzs.rdAt (cs:=[czs]) 0 rfl)⟩,(by unfold itgT;rw [okT_0 hC,hLL,hmv];rfl),(d2.drops [1,1,1,1,1,1])⟩
 refine kT<|seqE<|blockE<|sR<|pu2<|zS<|pu1<|zS<|pu1 ?_
 refine sL p0 3 0 (I (r.x1-r.x0)) (isAgg3 _) ?_
 refine pu1<|nT<|blockE ?_
 refine loopA (γ:=Nat×Int×(List Int)×(Option Addr)×Nat×Nat×Chunk×(List Int)×(Option Addr)×Nat×Nat×Chunk) (fun ⟨j,sm,zt,azt,nzt,kzt,czt,ct,act,nct,kct,cct⟩=>[(2, .slice aleft nleft kleft),(3, .slice atop ntop ktop),(4,I corner),(5,Pt g0 0),(6,Pt h0 0),(10,Pt n0 0),(12,I ((chkI p.v).1)),(14,Pt k0 0),(92,I (r.y1-r.y0)),(93,I (i:Int)),(16,I (i:Int)),(97,I (r.x1-r.x0)),(98,I (j:Int)),(17,I sm),(15, .slice act nct kct)]) (fun ⟨j,sm,zt,azt,nzt,kzt,czt,ct,act,nct,kct,cct⟩ w=>Sat W w (czt::cct::[(v0, .cells #[I corner] 3 (0,0))]::[(k0, .cells #[I (r.x1-r.x0),I (r.y1-r.y0),I ((chkI p.v).1), .slice azt nzt kzt] 38 (0,0))]::[(n0, .cells #[I 0,I 0,I 0,nS] 38 (0,0))]::[(h0, .cells (encRct r).toArray 45 (0,0))]::[(g0, .cells (encPlane p).toArray 38 (0,0))]::H::F)/\j<=Wn/\(zt=gridN Wn f (i*Wn+j))/\(ct=mixN (fun k=>colS p.v (r.x0+(k:Int)) r.y0 (i+1)) (fun k=>colS p.v (r.x0+(k:Int)) r.y0 i) j Wn)/\(sm=recS p.v r.x0 r.y0 j (i+1))/\OwnT Go.E.encI 3 1 azt nzt kzt zt czt/\OwnT Go.E.encI 3 1 act nct kct ct cct) (fun ⟨j,sm,zt,azt,nzt,kzt,czt,ct,act,nct,kct,cct⟩=>Wn-j) (0,0,zs,azs,nzs,kzs,czs,cs,acs,ncs,kcs,ccs) ⟨p0,om,(by rw [Nat.add_zero];exact hE),(by rw [mix_0];exact hcs),by rfl,hOzs,hOcs⟩ ?_
 rintro ⟨j,sm,zt,azt,nzt,kzt,czt,ct,act,nct,kct,cct⟩ ρ _ ⟨e0,hj,hE2,hct,hsm,hOzt,hOct⟩
 have hn_zt:=hOzt.len;have hl_zt:=hOzt.le
 have hn_ct:=hOct.len;have hl_ct:=hOct.le
 have hzl:zt.length=i*Wn+j:=by rw [hE2,grid_len]
 have hij:i*Wn+j<=Hn*Wn:=by have h1:=Nat.mul_le_mul_right Wn (show i+1<=Hn by omega);rw [Nat.add_mul,Nat.one_mul] at h1;omega
 have hrb:=rec_bd9 hpo r.x0 r.y0 (i:=j) (j:=i+1) om om;rw [<-hsm] at hrb;have hctl:ct.length=Wn:=by rw [hct];exact mix_len _ _ _ _
 refine sR<|pu1<|nT<|seqE ?_
 refine cD ((j:Int)<(r.x1-r.x0)) (fun a4=>?_) (fun a4=>?_)
 rotate_left
 ·refine exitE<|xB<|bN<|tN<|rE ?_
  refine sAdd (i:Int) 1 ?_
  refine pu1<|nT ?_
  exact ⟨(i+1,zt,azt,nzt,kzt,czt,ct,act,nct,kct,cct),od,alA,e0,om,(by rw [Nat.add_mul,Nat.one_mul,hE2,show j=Wn by omega]),(by rw [hct,show j=Wn by omega];exact mix_n _ _ _),hOzt,hOct⟩
 refine kT<|seqE<|blockE<|sR<|pu2<|nT<|seqE ?_
 have hix:=pl_ix hpo (x:=r.x0+(j:Int)) (y:=r.y0+(i:Int)) (by simp only [Plane.v];omega) (by simp only [Plane.v];omega);rw [hpl] at hix;simp only [Plane.v] at hix
 obtain ⟨a0,c1,d1,q0,e2,e1,f2⟩:=OwnT.elem hOct (j:Int)
 rw [Int.toNat_natCast] at q0 e2 e1
 have hcv:a0=colS p.v (r.x0+(j:Int)) r.y0 i:=by have h:=q0;rw [hct,mix_at om] at h;exact (Option.some.inj h).symm
 have hcb:=col_bd hpo (r.x0+(j:Int)) r.y0 (n:=i) om;rw [<-hcv] at hcb
 obtain ⟨d0,g2,i2,b4,c4,d4⟩:=RdT.elem hp.pix ((((r.y0+(i:Int))*p.w)+r.x0)+(j:Int))
 have hpa:pixAt p.v (r.x0+(j:Int)) (r.y0+(i:Int))=d0:=by
  refine pixAt_eq ?_
  rw [<-b4];simp only [Plane.v];congr 1;rw [Int.add_comm r.x0,<-Int.add_assoc];omega
 have hpb:=pixAt_bd hpo (r.x0+(j:Int)) (r.y0+(i:Int));rw [hpa] at hpb;simp only [Plane.v] at hpb
 refine drawE [22] [(3,⟨c1,d1+j*1,none⟩,I a0),(5,⟨g0,3,none⟩, .slice p.pix.a p.pix.n p.pix.k),(7,⟨h0,1,none⟩,I r.y0),(11,⟨g0,0,none⟩,I p.w),(14,⟨h0,0,none⟩,I r.x0),(19,⟨g2,i2,none⟩,I d0)] [(true,[0,1]),(true,[2]),(true,[4,6,8,10,13,16]),(true,[3]),(true,[5]),(true,[7]),(true,[9]),(true,[11]),(true,[12]),(true,[14]),(true,[15]),(true,[17]),(true,[18]),(true,[19]),(true,[20]),(true,[21]),(false,[22])] rfl kr ⟨.inr ((e2.up 1 rfl).cell e0 (k:=0) rfl),cI e0 6,cI e0 5,cI e0 6,cI e0 5, .inr ((c4.up 7 rfl).cell e0 (k:=0) rfl),trivial⟩ ?_
 have e4:=e0.drew
 refine wU [0,1] ?_
 refine wY (.pointer (some ⟨c1,d1+j*1,none⟩)) rfl (fun w _=>Y_idx (a:=act) (i:=(j:Int)) (len:=nct) (cap:=kct) rfl runUnderlying22 sizeOf3 kr kr e1) ?_
 refine wU [4,6,8,10,13,16] ?_
 refine wLd (I a0) 0 isAgg3 ?_
 refine wLd (.slice p.pix.a p.pix.n p.pix.k) 1 isAgg22 ?_
 refine wLd (I r.y0) 2 isAgg3 ?_
 refine wAdd r.y0 (i:Int) ?_
 refine wLd (I p.w) 3 isAgg3 ?_
 refine wMul (r.y0+(i:Int)) p.w ?_
 refine wLd (I r.x0) 4 isAgg3 ?_
 refine wAdd ((r.y0+(i:Int))*p.w) r.x0 ?_
 refine wAdd (((r.y0+(i:Int))*p.w)+r.x0) (j:Int) ?_
 refine wY (.pointer (some ⟨g2,i2,none⟩)) rfl (fun w _=>Y_idx (a:=p.pix.a) (i:=((((r.y0+(i:Int))*p.w)+r.x0)+(j:Int))) (len:=p.pix.n) (cap:=p.pix.k) rfl runUnderlying22 sizeOf3 kr kr d4) ?_
 refine wLd (I d0) 5 isAgg3 ?_
 refine wAdd a0 d0 ?_
 refine wY (.pointer (some ⟨c1,d1+j*1,none⟩)) rfl (fun w _=>Y_idx (a:=act) (i:=(j:Int)) (len:=nct) (cap:=kct) rfl runUnderlying22 sizeOf3 kr kr e1) ?_
 refine wO rfl ?_
 refine sStF e4 hOct f2 1 j 0 a0 (a0+d0) q0 (I (a0+d0)) [I (a0+d0)] sizeOf3 ?_
 intro _ f4 f1 m0
 refine nilO ⟨dA,?_⟩
 refine wN ?_
 refine tN<|seqE ?_
 have hcb2:a0+d0=colS p.v (r.x0+(j:Int)) r.y0 (i+1):=by rw [colS_succ,<-hcv,hpa]
 have hcb3:=col_bd hpo (r.x0+(j:Int)) r.y0 (n:=i+1) om;rw [<-hcb2] at hcb3
 refine rE<|pu3 ?_
 refine sIdxO f1 (j:Int) j runUnderlying22 sizeOf3 ?_
 intro f0 _ _ g4 h4 _
 have hce:f0=a0+d0:=by have h:=g4;rw [List.getElem?_set_self om] at h;exact (Option.some.inj h).symm
 refine sLp m0 (h4.up 1 rfl) 0 (I f0) (isAgg3 _) ?_
 refine sAdd sm f0 ?_
 refine pu1<|nT ?_
 have i4:=set_at (y:=(a0+d0)) q0
 have w5:=OwnT.ptr f1 f2 i4
 obtain ⟨b0,j2,k2,g1,i1,j4⟩:=RdT.elem hleft (i:Int)
 rw [Int.toNat_natCast] at g1
 have hlv:left.getD i 0=b0:=by rw [List.getD_eq_getElem?_getD,g1];rfl
 have hlb:0<=b0/\b0<=mostV p.w p.h p.max_:=of_decide_eq_true (hinA b0 (by have:=List.mem_of_getElem? g1;simp [this]))
 obtain ⟨c0,l2,m2,j1,k1,k4⟩:=RdT.elem htop (j:Int)
 rw [Int.toNat_natCast] at j1
 have htv:top.getD j 0=c0:=by rw [List.getD_eq_getElem?_getD,j1];rfl
 have htb:0<=c0/\c0<=mostV p.w p.h p.max_:=of_decide_eq_true (hinA c0 (by have:=List.mem_of_getElem? j1;simp [this]))
 refine drawE [15,16,18] [(1,⟨k0,3,none⟩, .slice azt nzt kzt),(5,⟨j2,k2,none⟩,I b0),(9,⟨l2,m2,none⟩,I c0)] [(true,[0,2,3]),(true,[4]),(true,[6,7]),(true,[8]),(true,[11,13]),(true,[1]),(true,[5]),(true,[9]),(true,[10]),(true,[12]),(true,[14]),(false,[15]),(false,[16]),(true,[17]),(false,[18])] rfl kr ⟨cI m0 3, .inr ((i1.up 7 rfl).cell m0 (k:=0) rfl), .inr ((k1.up 7 rfl).cell m0 (k:=0) rfl),trivial⟩ ?_
 have l4:=m0.drew
 refine wU [0,2,3] ?_
 refine wY (.pointer (some ⟨j2,k2,none⟩)) rfl (fun w _=>Y_idx (a:=aleft) (i:=(i:Int)) (len:=nleft) (cap:=kleft) rfl runUnderlying22 sizeOf3 kr kr j4) ?_
 refine wU [6,7] ?_
 refine wY (.pointer (some ⟨l2,m2,none⟩)) rfl (fun w _=>Y_idx (a:=atop) (i:=(j:Int)) (len:=ntop) (cap:=ktop) rfl runUnderlying22 sizeOf3 kr kr k4) ?_
 refine wU [11,13] ?_
 refine wLd (.slice azt nzt kzt) 0 isAgg22 ?_
 refine wLd (I b0) 1 isAgg3 ?_
 refine wLd (I c0) 2 isAgg3 ?_
 refine wAdd b0 c0 ?_
 refine wSub (b0+c0) corner ?_
 refine wAdd ((b0+c0)-corner) (sm+f0) ?_
 refine wO rfl ?_
 refine sBS l4 #[I (((b0+c0)-corner)+(sm+f0))] runUnderlying22 sizeOf3 zeroValue3 ?_
 intro _ _ r0
 refine nilO ⟨⟨cI r0 4, .inr ((i1.up 8 rfl).cell r0 (k:=0) rfl), .inr ((k1.up 8 rfl).cell r0 (k:=0) rfl),trivial⟩,?_⟩
 refine wO rfl ?_
 refine sApp (nb:=8) r0 hOzt 1 (RdT.blk (enc:=Go.E.encI) (sz:=1) (xs:=[(((b0+c0)-corner)+(sm+f0))]) fR 1 0 rfl rfl rfl om) underlying22 (i:=Tryz.t3) kr fR ?_
 intro n2 o2 m4 _ n4 l1
 refine nilO ⟨⟨dI, .inr ((i1.up 8 rfl).cell l1 (k:=0) rfl), .inr ((k1.up 8 rfl).cell l1 (k:=0) rfl),trivial⟩,?_⟩
 refine wU [17] ?_
 refine wO rfl ?_
 refine tW l1 4 3 (.slice n2 (nzt+1) o2) sizeOf22 ?_
 intro _ o4
 refine nilO ⟨dA,?_⟩
 refine wN ?_
 refine bN<|tN<|rE ?_
 refine sAdd (j:Int) 1 ?_
 refine pu1<|nT ?_
 exact ⟨(j+1,(sm+f0),(zt++[(((b0+c0)-corner)+(sm+f0))]),n2,(nzt+1),o2,m4,(ct.set j (a0+d0)),act,nct,kct,f4),od,alA,(o4.dropAt 0 rfl),om,(by rw [<-Nat.add_assoc,grid_succ om,<-hE2,hf];unfold itgX;simp only [Int.toNat_natCast];rw [hlv,htv,recS_succ,<-hsm,<-hcb2,hce]),(by rw [hct];exact mix_set hcb2),(by rw [recS_succ,<-hsm,<-hcb2,hce]),n4,f1⟩
theorem p13_whole (p:Plane) (hp:Plane.Ok [H] p) (hS:Sat W w (H::F)):
  Calls prog 93 #[.agg (encPlane p).toArray] w fun e w'=>∃(q:Plane) (c:Int) (G:Chunk),e= .returned (.tuple #[.agg (encPlane q).toArray,I c])/\q.Ok [G]/\(q.v,c)=itgW p.v/\Sat W w' (G::H::F):=by
 have hl_p_pix:=hp.pix.le;have hn_p_pix:=hp.pix.len
 refine callsA 30 func93 rfl<|sR<|sBox hS (.agg (encPlane p).toArray) (encPlane p).toArray fun d0 _ t0=>sAlloc t0 zeroValue38 fun _ _ m0=>pu1<|zQ<|lA m0 1 0 4 (isAgg38 _) (sizeOf38 _)<|cR call153 (p13_checked p ⟨(RdT.flat (hp.pix.up 2 (by rfl)))⟩ m0.flat) fun _ a0=>pu5<|zS<|pu2<|nT<|cN ((chkI p.v).2) 0 (fun u0=>?_) (fun u0=>?_)
 rotate_left
 ·refine sR<|pu2<|sTl a0 0 [I 0,I 0,I 0,nS] sizeOf38 fun _ n0=>pu1<|zR<|retC n0 0 [I 0,I 0,I 0,nS] (I ((chkI p.v).2)) (isAgg38 _) (sizeOf38 _) ?_
  have hC:itgW p.v=(zPl,(chkI p.v).2):=by
   have h:¬(chkI p.v).2=0:=by omega
   unfold itgW;unfold chkI at h⊢;split
   ·rename_i h1;rw [if_pos h1] at h;split
    ·rename_i h2;rw [if_pos h2] at h;exact absurd rfl h
    ·rfl
   ·rfl
  have v0:=(n0.drops [0,0])
  have w0:Sat W _ ([]::H::F):=Sat.nilc v0
  exact ⟨(⟨0,0,0,⟨none,0,0,[]⟩⟩:Plane),((chkI p.v).2),_,rfl,⟨RdT.nil (enc:=Go.E.encI) (sz:=1) fR [[]]⟩,hC.symm,w0⟩
 refine kT<|seqE ?_
 have hck:planeOK p.v=true/\mostOK p.v.w p.v.h p.v.max_=true/\(chkI p.v).1=mostV p.v.w p.v.h p.v.max_:=by
  have h:(chkI p.v).2=0:=by omega
  unfold chkI at h⊢
  split at h
  ·rename_i h1
   rw [if_pos h1]
   split at h
   ·rename_i h2;rw [if_pos h2];exact ⟨h1,h2,rfl⟩
   ·simp at h
  ·simp at h
 obtain ⟨hpo,hmo,hmv⟩:=hck;have hmv2:(chkI p.v).1=mostV p.w p.h p.max_:=hmv;have hmo2:mostOK p.w p.h p.max_=true:=hmo;have hmb:=most_bd hmo2;have hsz:=(plane_sz hpo).1;unfold sizeP at hsz;simp only [Plane.v] at hsz
 refine drawP [8,11,12,15] [(0,⟨d0,0,none⟩,I p.w),(0,⟨d0,1,none⟩,I p.h),(0,⟨d0,2,none⟩,I p.max_),(0,⟨d0,3,none⟩, .slice p.pix.a p.pix.n p.pix.k),(2,⟨d0,0,none⟩,I p.w),(4,⟨d0,1,none⟩,I p.h),(7,⟨d0,1,none⟩,I p.h),(10,⟨d0,0,none⟩,I p.w)] (Plan.sts [1,3,6,9]<|Plan.sts [0]<|Plan.sts [2]<|Plan.sts [4]<|Plan.sts [5]<|Plan.sts [7]<|Plan.sts [10]<| .fk 8 11 (.ef 11<| .ef 12<|Plan.sts [13]<|Plan.sts [14]<| .ef 15<|Plan.sts [16]<| .fin) (.ef 8<| .ef 12<|Plan.sts [13]<|Plan.sts [14]<| .ef 15<|Plan.sts [16]<| .fin)) rfl kr ⟨cI a0 1,cI a0 1,cI a0 1,cI a0 1,cI a0 1,cI a0 1,cI a0 1,cI a0 1,trivial⟩ ?_
 have o0:=a0.drew
 refine qU [1,3,6,9]<|qY (.agg (encPlane p).toArray) rfl (fun w hF=>Y_loadF rfl (isAgg38 w) (sizeOf38 w) kr rfl ⟨hF 0 _ _ rfl,hF 1 _ _ rfl,hF 2 _ _ rfl,hF 3 _ _ rfl,trivial⟩)<|qLd (I p.w) 4 isAgg3<|qLd (I p.h) 5 isAgg3<|qU [5]<|qLd (I p.h) 6 isAgg3<|qLd (I p.w) 7 isAgg3<|qF ?_ ?_
 rotate_left
 ·refine qO rfl<|sMake (kl:= .i64) (kc:= .i64) (enc:=Go.E.encI) (sz:=1) (nb:=8) o0 0 (p.w).toNat p.w (om:p.w=(((p.w).toNat:Nat):Int)) underlying22 (i:=Tryz.t3) kr fR fun x0 _ _ y0 e0=>nilO ⟨⟨cI e0 2,cI e0 2,cI e0 2,cI e0 2,cI e0 2,cI e0 2,cI e0 2,dI,trivial⟩,?_⟩
  refine qO rfl<|sMake (kl:= .i64) (kc:= .i64) (enc:=Go.E.encI) (sz:=1) (nb:=8) e0 0 (p.h).toNat p.h (om:p.h=(((p.h).toNat:Nat):Int)) underlying22 (i:=Tryz.t3) kr fR fun z0 _ _ a1 g0=>nilO ⟨⟨cI g0 3,cI g0 3,cI g0 3,cI g0 3,cI g0 3,cI g0 3,dI,dI,trivial⟩,?_⟩
  refine qO rfl<|cX call154 (p13_tile p (⟨0,0,p.w,p.h⟩:Rct) (At z0 0) ((p.h).toNat) ((p.h).toNat) (List.replicate (p.h).toNat 0) (At x0 0) ((p.w).toNat) ((p.w).toNat) (List.replicate (p.w).toNat 0) 0 ⟨(RdT.flat (hp.pix.up 4 (by rfl)))⟩ (RdT.flat (a1.rdAt 0 (by rfl))) (RdT.flat (y0.rdAt 1 (by rfl))) g0.flat) ?_
  rintro _ _ ⟨b0,p0,_,rfl,i0,b1,c1⟩
  have j0:=c1.unflat1
  have hn_q_46_pix:=i0.pix.len;have hl_q_46_pix:=i0.pix.le
  refine nilO ⟨⟨dI,dI,dI,dI,cI j0 4,cI j0 4,dI,dI,trivial⟩,?_⟩
  refine qU [13]<|qU [14]<|qO rfl<|sTl j0 3 (encPlane b0) sizeOf38 fun _ q0=>nilO ⟨dA,?_⟩
  exact qU [16]<|qN<|tN<|retE<|retC q0 3 (encPlane b0) (I p0) (isAgg38 _) (sizeOf38 _)<|⟨(⟨b0.w,b0.h,b0.max_,⟨b0.pix.a,b0.pix.n,b0.pix.k,b0.pix.l⟩⟩:Plane),p0,_,rfl,⟨i0.pix⟩,(b1.trans itg_full),(q0.drops [1,1,1,1])⟩
 refine qO rfl<|sMake (kl:= .i64) (kc:= .i64) (enc:=Go.E.encI) (sz:=1) (nb:=8) o0 0 (p.h).toNat p.h (om:p.h=(((p.h).toNat:Nat):Int)) underlying22 (i:=Tryz.t3) kr fR fun e1 _ _ f1 f0=>nilO ⟨⟨cI f0 2,cI f0 2,cI f0 2,cI f0 2,cI f0 2,cI f0 2,dI,cI f0 2,trivial⟩,?_⟩
 refine qO rfl<|sMake (kl:= .i64) (kc:= .i64) (enc:=Go.E.encI) (sz:=1) (nb:=8) f0 0 (p.w).toNat p.w (om:p.w=(((p.w).toNat:Nat):Int)) underlying22 (i:=Tryz.t3) kr fR fun g1 _ _ i1 h0=>nilO ⟨⟨cI h0 3,cI h0 3,cI h0 3,cI h0 3,cI h0 3,cI h0 3,dI,dI,trivial⟩,?_⟩
 refine qO rfl<|cX call154 (p13_tile p (⟨0,0,p.w,p.h⟩:Rct) (At e1 0) ((p.h).toNat) ((p.h).toNat) (List.replicate (p.h).toNat 0) (At g1 0) ((p.w).toNat) ((p.w).toNat) (List.replicate (p.w).toNat 0) 0 ⟨(RdT.flat (hp.pix.up 4 (by rfl)))⟩ (RdT.flat (f1.rdAt 1 (by rfl))) (RdT.flat (i1.rdAt 0 (by rfl))) h0.flat) ?_
 rintro _ _ ⟨c0,r0,_,rfl,k0,j1,k1⟩
 have l0:=k1.unflat1
 have hn_q_25_pix:=k0.pix.len;have hl_q_25_pix:=k0.pix.le
 refine nilO ⟨⟨dI,dI,dI,dI,cI l0 4,cI l0 4,dI,dI,trivial⟩,?_⟩
 refine qU [13]<|qU [14]<|qO rfl<|sTl l0 3 (encPlane c0) sizeOf38 fun _ s0=>nilO ⟨dA,?_⟩
 exact qU [16]<|qN<|tN<|retE<|retC s0 3 (encPlane c0) (I r0) (isAgg38 _) (sizeOf38 _)<|⟨(⟨c0.w,c0.h,c0.max_,⟨c0.pix.a,c0.pix.n,c0.pix.k,c0.pix.l⟩⟩:Plane),r0,_,rfl,⟨k0.pix⟩,(j1.trans itg_full),(s0.drops [1,1,1,1])⟩
end Go.Proofs.YtmlhcafjelkjfaaGreat
