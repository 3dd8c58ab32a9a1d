import Derived.Test.YtmlhcafjelkjfaaP1Ab
import Derived.WalkKit
import Derived.Deep.Quiet
import Derived.KernelRfl
import Derived.Laws.BytesString
import Derived.Laws.Shifts
import Derived.Laws.IdiomStrings
import Derived.Test.YtmlhcafjelkjfaaProg
import Derived.Laws.IdiomRangeMap
import Derived.Test.YtmlhcafjelkjfaaP1TGen
namespace Go.Proofs.Ytmlhcafjelkjfaa
open Go Go.E Go.Proofs.Try
set_option linter.all false
set_option maxRecDepth 100000
set_option maxHeartbeats 2000000
variable {W w:World} {H:Chunk} {F:List Chunk}
theorem addL_ln {a b:List Int} {n:Nat} (ha:a.length=n) (hb:b.length=n):(addL a b).length=n:=by unfold addL;rw [List.length_zipWith];omega
theorem addL_at {a b:List Int} {k:Nat} {x y:Int} (ha:a[k]?=some x) (hb:b[k]?=some y):(addL a b)[k]?=some (x+y):=by unfold addL;rw [List.getElem?_zipWith,ha,hb]
def addI (a b:List Int) (i:Nat):List Int:=addL a (b.take i++List.replicate (b.length-i) 0)
theorem addI_len {a b:List Int} {i n:Nat} (ha:a.length=n) (hb:b.length=n) (hi:i<=n):(addI a b i).length=n:=addL_ln ha (by rw [List.length_append,List.length_take,List.length_replicate];omega)
theorem addI_0 {a b:List Int} (h:a.length=b.length):addI a b 0=a:=by
  unfold addI addL
  rw [List.take_zero,List.nil_append,Nat.sub_zero,<-h]
  apply List.ext_getElem?
  intro k
  rw [List.getElem?_zipWith,List.getElem?_replicate]
  by_cases hk:k<a.length
  · rw [if_pos hk,List.getElem?_eq_getElem hk];simp
  · rw [List.getElem?_eq_none (by omega)]
theorem addI_n {a b:List Int} {i:Nat} (h:i=b.length):addI a b i=addL a b:=by subst h;unfold addI;rw [List.take_of_length_le (Nat.le_refl _),Nat.sub_self,List.replicate_zero,List.append_nil]
theorem addI_at {a b:List Int} {i:Nat} {x:Int} (h:a.length=b.length) (hx:(addI a b i)[i]?=some x):a[i]?=some x:=by
  unfold addI addL at hx
  rw [List.getElem?_zipWith] at hx
  by_cases hi:i<b.length
  · have e:(List.take i b++List.replicate (b.length-i) 0)[i]?=some 0:=by
      rw [List.getElem?_append_right (by rw [List.length_take];omega),List.length_take,List.getElem?_replicate,if_pos (by omega)]
    rw [e] at hx
    cases h1:a[i]? with
    |none=>rw [h1] at hx;cases hx
    |some z=>rw [h1] at hx;simpa using hx
  · rw [List.getElem?_eq_none (l:=a) (by omega)] at hx;cases hx
theorem addI_set {a b:List Int} {i:Nat} {x v:Int} (h:a.length=b.length) (hx:(addI a b i)[i]?=some x) (hv:b[i]?=some v):(addI a b i).set i (x+v)=addI a b (i+1):=by
 have ha:=addI_at h hx
 have hi:i<b.length:=(List.getElem?_eq_some_iff.1 hv).1
 have hl:=addI_len (i:=i) h rfl om
 have hl2:=addI_len (i:=i+1) h rfl om
 apply List.ext_getElem?
 intro k
 rw [List.getElem?_set]
 by_cases hk:k<b.length
 ·have hak:a[k]?=some (a[k]'om):=List.getElem?_eq_getElem om
  have hbk:b[k]?=some b[k]:=List.getElem?_eq_getElem hk
  have key:∀j,j<=b.length->(addI a b j)[k]?=some (a[k]'om+if k<j then b[k] else 0):=by
   intro j hj
   refine addL_at hak ?_
   by_cases h1:k<j
   ·rw [List.getElem?_append_left (by rw [List.length_take];omega),List.getElem?_take,if_pos h1,hbk,if_pos h1]
   ·rw [List.getElem?_append_right (by rw [List.length_take];omega),List.length_take,List.getElem?_replicate,if_pos om,if_neg h1]
  by_cases he:i=k
  ·subst he
   rw [if_pos rfl,if_pos om,key (i+1) om,if_pos om]
   rw [hak] at ha;rw [hbk] at hv
   cases ha;cases hv;rfl
  ·rw [if_neg he,key i om,key (i+1) om]
   by_cases h2:k<i
   ·rw [if_pos h2,if_pos om]
   ·rw [if_neg h2,if_neg om]
 ·rw [List.getElem?_eq_none (l:=addI a b (i+1)) om,List.getElem?_eq_none (l:=addI a b i) om]
  split
  ·rw [if_neg om]
  ·rfl
theorem part_at {α:Type} {l:List α} {a b j:Nat} {x:α} (h:((l.drop a).take b)[j]?=some x):l[a+j]?=some x:=by
  rw [List.getElem?_take] at h
  split at h
  · rw [List.getElem?_drop] at h;exact h
  · cases h
def mrgT (l:List (List Int)):List Int×Int:=if mrgC l=0 then (mrgV l,0) else ([],mrgC l)
theorem mrgT_n {l:List (List Int)} {c:Int} (h:mrgC l=c) (hc:¬c=0):mrgT l=([],c):=by unfold mrgT;rw [if_neg (by omega),h]
theorem mrg_5 {l:List (List Int)} (h:l.length=0\/4096<l.length):mrgT l=([],5):=mrgT_n (by unfold mrgC;rw [if_pos h]) (by decide)
section
variable {l:List (List Int)} (h0:¬(l.length=0\/4096<l.length))
include h0
theorem mrg_8a (h:¬(1<=mrgN l/\mrgN l<=128)):mrgT l=([],8):=mrgT_n (by unfold mrgC;rw [if_neg h0,if_neg (fun k=>h k.1)]) (by decide)
theorem mrg_8b {i:Nat} {z:List Int} (hz:l[i]?=some z) (h:¬(z.length:Int)=mrgN l):mrgT l=([],8):=
  mrgT_n (by unfold mrgC;rw [if_neg h0,if_neg (fun k=>h (of_decide_eq_true (List.all_eq_true.1 k.2 z (List.mem_of_getElem? hz))))]) (by decide)
variable (h1:1<=mrgN l/\mrgN l<=128) (hA:l.all (fun z=>decide ((z.length:Int)=mrgN l))=true)
include h1 hA
theorem mrg_2 {i k:Nat} {z:List Int} {v:Int} (hz:l[i]?=some z) (hv:z[k]?=some v) (hb:¬(0<=v/\v<=4096)):mrgT l=([],2):=
  mrgT_n (by unfold mrgC;rw [if_neg h0,if_pos ⟨h1,hA⟩,if_neg (fun e=>inM_f hv hb (List.all_eq_true.1 e z (List.mem_of_getElem? hz)))]) (by decide)
variable (hM:l.all (fun z=>inM 4096 z)=true)
include hM
theorem mrg_3 {k:Nat} {v:Int} (hv:(mrgV l)[k]?=some v) (hb:4096<v):mrgT l=([],3):=
  mrgT_n (by unfold mrgC;rw [if_neg h0,if_pos ⟨h1,hA⟩,if_pos hM,if_neg (fun e=>by have h2:=of_decide_eq_true (List.all_eq_true.1 e v (List.mem_of_getElem? hv));omega)]) (by decide)
theorem mrg_0 (hS:(mrgV l).all (fun v=>decide (v<=4096))=true):mrgT l=(mrgV l,0):=by
  unfold mrgT;rw [if_pos]
  unfold mrgC;rw [if_neg h0,if_pos ⟨h1,hA⟩,if_pos hM,if_pos hS]
end
theorem addL_bd {a b:List Int} {A B:Int} (ha:∀z∈a,0<=z/\z<=A) (hb:∀z∈b,0<=z/\z<=B):∀z∈addL a b,0<=z/\z<=A+B:=by
  intro z hz
  obtain ⟨k,hk,rfl⟩:=List.mem_iff_getElem.1 hz
  unfold addL at hk⊢
  rw [List.getElem_zipWith]
  rw [List.length_zipWith] at hk
  have h1:=ha a[k] (List.getElem_mem (by omega));have h2:=hb b[k] (List.getElem_mem (by omega))
  omega
theorem all_map_take {α β:Type} {f:α->β} {p:β->Bool} {l:List α} {i:Nat} (h:((l.take i).map f).all p=true) (hi:l.length<=i):(l.map f).all p=true:=by rw [List.take_of_length_le hi] at h;exact h
theorem mrgN_at {ms:List IL} {x:IL} (hx:ms[0]?=some x):mrgN (ms.map (fun z=>z.l.l))=(x.l.l.length:Int):=by unfold mrgN;rw [List.getElem?_map,hx];rfl
def addsV (l:List (List Int)) (n:Int):List Int:=l.foldl addL (List.replicate n.toNat 0)
theorem adds_succ {ms:List IL} {n:Int} {i:Nat} {x:IL} (hx:ms[i]?=some x):addsV ((ms.take (i+1)).map (fun z=>z.l.l)) n=addL (addsV ((ms.take i).map (fun z=>z.l.l)) n) x.l.l:=by
  unfold addsV;rw [List.take_add_one,hx,Option.toList_some,List.map_append,List.foldl_append];rfl
theorem all_succM {ms:List IL} {p:List Int->Bool} {i:Nat} {x:IL} (h:((ms.take i).map (fun z=>z.l.l)).all p=true) (hx:ms[i]?=some x) (hp:p x.l.l=true):((ms.take (i+1)).map (fun z=>z.l.l)).all p=true:=by
  rw [List.take_add_one,hx,Option.toList_some,List.map_append,List.all_append,h];simp [hp]
def chkI (p:PlaneV):Int×Int:=if planeOK p=true then (if mostOK p.w p.h p.max_=true then (mostV p.w p.h p.max_,0) else (0,11)) else (0,1)
theorem most_bd {w h m:Int} (e:mostOK w h m=true):1<=mostV w h m/\mostV w h m<=4294967296/\mostV w h m=w*h*m:=by
  have h0:=of_decide_eq_true e
  have hv:mostV w h m=w*h*m:=by unfold mostV;rw [if_pos e]
  have h1:=Int.mul_le_mul (show (1:Int)<=w by omega) (show (1:Int)<=h by omega) (by omega) (by omega)
  have h2:=Int.mul_le_mul (show (1:Int)<=w*h by omega) (show (1:Int)<=m by omega) (by omega) (by omega)
  omega
theorem add_bdI {zs b zt:List Int} {i u:Nat} (e:zt=addI zs b u) (hu:u=b.length) (hB:∀z∈zs,0<=z/\z<=4096*(i:Int)) (h:(b.take u).all (fun v=>decide (0<=v/\v<=4096))=true):∀z∈zt,0<=z/\z<=4096*((i+1:Nat):Int):=by
  rw [e,addI_n hu]
  rw [List.take_of_length_le (by omega)] at h
  have h2:=addL_bd hB (B:=4096) (fun z hz=>of_decide_eq_true (List.all_eq_true.1 h z hz))
  intro z hz;have:=h2 z hz;push_cast;omega
theorem inM3 {m c:Int} {l t:List Int}:inM m (c::l++t)=true↔inM m [c]=true/\inM m l=true/\inM m t=true:=by unfold inM;simp [and_assoc]
theorem col_bd {p:PlaneV} (h:planeOK p=true) (x y:Int) {n:Nat} (hn:n<=128):0<=colS p x y n/\colS p x y n<=549755813888:=by
  have h1:=rec_bd h x y 1 n
  have e:recS p x y 1 n=colS p x y n:=by rw [recS_succ];unfold recS;rw [sumN_zero];simp
  rw [e] at h1
  have h2:=pix_mx h
  have h3:=Int.mul_le_mul (show p.max_<=4294967296 by omega) (show (n:Int)<=128 by omega) (by omega) (by omega)
  have h5:p.max_*(n:Int)*((1:Nat):Int)=p.max_*(n:Int):=by simp
  omega
theorem rec_bd9 {p:PlaneV} (h:planeOK p=true) (x y:Int) {i j:Nat} (hi:i<=128) (hj:j<=128):0<=recS p x y i j/\recS p x y i j<=70368744177664:=by
  have h1:=rec_bd h x y i j
  have h2:=pix_mx h
  have h3:=Int.mul_le_mul (show p.max_<=4294967296 by omega) (show (j:Int)<=128 by omega) (by omega) (by omega)
  have h4:=Int.mul_le_mul (show p.max_*(j:Int)<=4294967296*128 from h3) (show (i:Int)<=128 by omega) (by omega) (by omega)
  omega
theorem p12_bin (v:Int) (m:Int) (n:Int) (hS:Sat W w (H::F)):
  Ro prog 49 #[I v,I m,I n] (I (binV v m n)) W w (H::F):=by
 refine callsA 36 func49 rfl<|sR<|pu1<|zQ<|pu3<|sD 9 (m<1) (fun a0=>?_) (fun a0=>?_)
 ·exact pu16<|pu4<|zC<|pu1<|zR<|retT [I 0]<|⟨by unfold binV;rw [if_neg om];rfl,hS⟩
 refine pu4<|sD 13 (m>4294967296) (fun b0=>?_) (fun b0=>?_)
 ·exact pu16<|zC<|pu1<|zR<|retT [I 0]<|⟨by unfold binV;rw [if_neg om];rfl,hS⟩
 refine pu4<|sD 17 (v<0) (fun c0=>?_) (fun c0=>?_)
 ·exact pu12<|zC<|pu1<|zR<|retT [I 0]<|⟨by unfold binV;rw [if_neg om];rfl,hS⟩
 refine pu5<|sD 22 (v>m) (fun d0=>?_) (fun d0=>?_)
 ·exact pu7<|zC<|pu1<|zR<|retT [I 0]<|⟨by unfold binV;rw [if_neg om];rfl,hS⟩
 refine pu4<|sD 26 (n<1) (fun e0=>?_) (fun e0=>?_)
 ·exact pu3<|zC<|pu1<|zR<|retT [I 0]<|⟨by unfold binV;rw [if_neg om];rfl,hS⟩
 refine pu3<|nT<|cD (n>128) (fun f0=>?_) (fun f0=>?_)
 ·exact sR<|pu1<|zR<|retT [I 0]<|⟨by unfold binV;rw [if_neg om];rfl,hS⟩
 refine kT<|seqE ?_
 have hm0:=mul_bd (a:=v) (b:=n) (A:=4294967296) (B:=128) om om;have ht:(v*n).tdiv (m+1)=v*n/(m+1):=Int.tdiv_eq_ediv_of_nonneg (Int.mul_nonneg om om);have hd:=tdiv_bd (a:=v*n) (b:=m+1) (A:=549755813888) om om
 exact rE<|pu2<|sMul v n<|pu1<|sAdd m 1<|sQuo (v*n) (m+1)<|pu1<|zE<|retT [I ((v*n).tdiv (m+1))]<|⟨congrArg (fun z=>Ending.returned (I z)) (by unfold binV;rw [if_pos om];exact ht),hS⟩
theorem p12_partial (p:Plane) (bins:Int) (r:Rct) (hp:Plane.Ok [H] p) (hS:Sat W w (H::F)):
  Calls prog 40 #[.agg (encPlane p).toArray,I bins, .agg (encRct r).toArray] w fun e w'=>∃(az:Option Addr) (nz kz:Nat) (zs:List Int) (c:Int) (G:Chunk),e= .returned (.tuple #[.slice az nz kz,I c])/\RdT Go.E.encI 1 [G] az nz kz zs/\(zs,c)=(partV p.v bins r,partC p.v bins r)/\Sat W w' (G::H::F):=by
 have hl_p_pix:=hp.pix.le;have hn_p_pix:=hp.pix.len
 refine callsA 77 func40 rfl<|sR<|sBox hS (.agg (encPlane p).toArray) (encPlane p).toArray fun g0 _ s0=>sBox s0 (.agg (encRct r).toArray) (encRct r).toArray fun h0 _ m0=>pu2<|zQ<|lA m0 1 0 4 (isAgg28 _) (sizeOf28 _)<|cR call18 (p4_valid p ⟨(RdT.flat (hp.pix.up 2 (by rfl)))⟩ m0.flat) fun _ e0=>pu1<|nT<|cBn (planeOK p.v) (fun c0=>?_) (fun c0=>?_)
 rotate_left
 ·refine sR<|pu2<|zR<|retT [nS,I 1] ?_
  have hC:partC p.v bins r=1:=by unfold partC;rw [if_neg c0]
  have t0:=(e0.drops [0,0])
  have u0:Sat W _ ([]::H::F):=Sat.nilc t0
  exact ⟨none,0,0,[],1,_,rfl,RdT.nil (enc:=Go.E.encI) (sz:=1) fR [[]],(by unfold partV;rw [hC];rfl),u0⟩
 refine kT<|seqE<|sR<|pu3<|sD 17 (bins<1) (fun v0=>?_) (fun v0=>?_)
 ·refine pu3<|zC<|pu2<|zR<|retT [nS,I 9] ?_
  have hC:partC p.v bins r=9:=by unfold partC;rw [if_pos c0,if_neg om]
  have w0:=(e0.drops [0,0])
  have z0:Sat W _ ([]::H::F):=Sat.nilc w0
  exact ⟨none,0,0,[],9,_,rfl,RdT.nil (enc:=Go.E.encI) (sz:=1) fR [[]],(by unfold partV;rw [hC];rfl),z0⟩
 refine pu3<|nT<|cD (bins>128) (fun a1=>?_) (fun a1=>?_)
 ·refine sR<|pu2<|zR<|retT [nS,I 9] ?_
  have hC:partC p.v bins r=9:=by unfold partC;rw [if_pos c0,if_neg om]
  have b1:=(e0.drops [0,0])
  have c1:Sat W _ ([]::H::F):=Sat.nilc b1
  exact ⟨none,0,0,[],9,_,rfl,RdT.nil (enc:=Go.E.encI) (sz:=1) fR [[]],(by unfold partV;rw [hC];rfl),c1⟩
 refine kT<|seqE<|sR<|lA e0 0 0 4 (isAgg24 _) (sizeOf24 _)<|cR call19 (p2_empty r e0.flat) fun _ f0=>pu1<|sD 23 (r.x0=0/\r.y0=0/\r.x1=0/\r.y1=0) (fun k0=>?_) (fun k0=>?_)
 ·refine pu9<|zC<|pu2<|zR<|retT [nS,I 8] ?_
  have hsz:=(plane_sz c0).1;unfold sizeP at hsz;simp only [Plane.v] at hsz
  have hC:partC p.v bins r=8:=by unfold partC;rw [if_pos c0,if_pos om,if_neg (fun h=>by have h2:=(ins_in (by simp only [Plane.v];omega) (by simp only [Plane.v];omega)).2 h;exact h2.1 k0)]
  have d1:=(f0.drops [0,0])
  have e1:Sat W _ ([]::H::F):=Sat.nilc d1
  exact ⟨none,0,0,[],8,_,rfl,RdT.nil (enc:=Go.E.encI) (sz:=1) fR [[]],(by unfold partV;rw [hC];rfl),e1⟩
 refine gY<|lA f0 0 0 4 (isAgg24 _) (sizeOf24 _)<|pu1<|gY<|sL f0 1 0 (I p.w) (isAgg3 _)<|pu1<|gY<|sL f0 1 1 (I p.h) (isAgg3 _)<|pu1<|gY<|cR call20 (p2_inside r (⟨0,0,p.w,p.h⟩:Rct) f0.flat) fun _ n0=>pu2<|nT<|cDn (insP r (⟨0,0,p.w,p.h⟩:Rct)) (fun l0=>?_) (fun l0=>?_)
 rotate_left
 ·refine sR<|pu2<|zR<|retT [nS,I 8] ?_
  have hsz:=(plane_sz c0).1;unfold sizeP at hsz;simp only [Plane.v] at hsz
  have hC:partC p.v bins r=8:=by unfold partC;rw [if_pos c0,if_pos om,if_neg (fun h=>by have h2:=(ins_in (by simp only [Plane.v];omega) (by simp only [Plane.v];omega)).2 h;exact l0 h2.2)]
  have f1:=(n0.drops [0,0])
  have g1:Sat W _ ([]::H::F):=Sat.nilc f1
  exact ⟨none,0,0,[],8,_,rfl,RdT.nil (enc:=Go.E.encI) (sz:=1) fR [[]],(by unfold partV;rw [hC];rfl),g1⟩
 refine kT<|seqE ?_
 have hpo:planeOK p.v=true:=c0;have hsz:=(plane_sz hpo).1;unfold sizeP at hsz;simp only [Plane.v] at hsz;have hri:rIn r p.w p.h:=(ins_in om om).1 ⟨k0,l0⟩
 have hri0:=hri;unfold rIn at hri0
 obtain ⟨Wn,hW⟩:∃k:Nat,r.x1-r.x0=(k:Int):=⟨_,(Int.toNat_of_nonneg om).symm⟩;obtain ⟨Hn,hH⟩:∃k:Nat,r.y1-r.y0=(k:Int):=⟨_,(Int.toNat_of_nonneg om).symm⟩
 have hWb:1<=Wn/\Wn<=128/\1<=Hn/\Hn<=128:=om;have hWH:Hn*Wn<=4096:=by have h1:=rIn_area hri (by first|omega|assumption);rw [hW,hH] at h1;have h2:((Hn*Wn:Nat):Int)=(Wn:Int)*(Hn:Int):=(by push_cast;rw [Int.mul_comm]);omega
 have hWi:(r.x1-r.x0)*(r.y1-r.y0)=((Hn*Wn:Nat):Int):=by rw [hW,hH];push_cast;rw [Int.mul_comm]
 have hpl:p.v.pix.length=p.pix.n:=hn_p_pix
 have hbn:(bins.toNat:Int)=bins:=Int.toNat_of_nonneg om
 refine rE<|pu1<|sMake (kl:= .i64) (kc:= .i64) (enc:=Go.E.encI) (sz:=1) (nb:=8) n0 0 (bins).toNat bins (om:bins=(((bins).toNat:Nat):Int)) underlying22 (i:=Try.t3) kr fR fun i1 j1 _ k1 o0=>pu1<|zQ<|pu1<|sL o0 1 1 (I r.y0) (isAgg3 _)<|pu1<|nT<|blockE ?_
 refine loopA (γ:=Nat×Int×(List Int)×(Option Addr)×Nat×Nat×Chunk) (fun ⟨i,yy,zs,azs,nzs,kzs,czs⟩=>[(1,I bins),(3,Pt g0 0),(5,Pt h0 0),(9,I yy),(8, .slice azs nzs kzs)]) (fun ⟨i,yy,zs,azs,nzs,kzs,czs⟩ w=>Sat W w (czs::[(h0, .cells (encRct r).toArray 24 (0,0))]::[(g0, .cells (encPlane p).toArray 28 (0,0))]::H::F)/\i<=Hn/\(yy=r.y0+(i:Int))/\(zs=cntV p.v bins r (i*Wn))/\OwnT Go.E.encI 3 1 azs nzs kzs zs czs) (fun ⟨i,yy,zs,azs,nzs,kzs,czs⟩=>Hn-i) (0,r.y0,(List.replicate (bins).toNat 0),(At i1 0),(bins).toNat,(bins).toNat,j1) ⟨o0,om,om,(by rw [Nat.zero_mul];rfl),k1⟩ ?_
 rintro ⟨i,yy,zs,azs,nzs,kzs,czs⟩ ρ _ ⟨d0,hi,hyy,hE,hOzs⟩
 have hn_zs:=hOzs.len;have hl_zs:=hOzs.le
 have hzl:zs.length=bins.toNat:=by rw [hE];exact cnt_len _ _ _ _
 refine seqE<|sR<|pu2<|sL d0 1 3 (I r.y1) (isAgg3 _)<|pu1<|nT<|cD (yy<r.y1) (fun l1=>?_) (fun l1=>?_)
 rotate_left
 ·refine exitE<|xB<|tN<|sR<|pu3<|zE<|retT [.slice azs nzs kzs,I 0] ?_
  have hC:partC p.v bins r=0:=by unfold partC;rw [if_pos hpo,if_pos om,if_pos (show rIn r p.v.w p.v.h from hri)]
  exact ⟨azs,nzs,kzs,zs,0,_,rfl,(hOzs.rdAt (cs:=[czs]) 0 rfl),(by unfold partV;rw [hC,if_pos rfl,hE,show areaN r=i*Wn from by unfold areaN;rw [hWi,Int.toNat_natCast,show i=Hn by omega]]),(d0.drops [1,1])⟩
 refine kT<|seqE<|blockE<|seqE ?_
 have hix:=pl_ix hpo (x:=r.x1-1) (y:=yy) (by simp only [Plane.v];omega) (by simp only [Plane.v];omega);rw [hpl] at hix;simp only [Plane.v] at hix;have hW2:(yy*p.w+r.x1).toNat-(yy*p.w+r.x0).toNat=Wn:=by omega
 refine rE<|pu1<|sL d0 2 3 (.slice p.pix.a p.pix.n p.pix.k) (isAgg22 _)<|pu2<|sL d0 2 0 (I p.w) (isAgg3 _)<|sMul yy p.w<|pu1<|sL d0 1 0 (I r.x0) (isAgg3 _)<|sAdd (yy*p.w) r.x0<|pu2<|sL d0 2 0 (I p.w) (isAgg3 _)<|sMul yy p.w<|pu1<|sL d0 1 2 (I r.x1) (isAgg3 _)<|sAdd (yy*p.w) r.x1<|sSl (some ((yy*p.w)+r.x0)) (some ((yy*p.w)+r.x1)) ((((yy*p.w)+r.x0)).toNat) ((((yy*p.w)+r.x1)).toNat) runUnderlying22 sizeOf3 ⟨om,om⟩ ⟨om,om⟩ om om ?_ (a:=p.pix.a) (len:=p.pix.n) (cap:=p.pix.k)
 have n1:=hp.pix.part (lo:=(((yy*p.w)+r.x0)).toNat) (hi:=(((yy*p.w)+r.x1)).toNat) om om
 refine pu2<|nT<|blockE ?_
 refine loopA (γ:=Nat×(List Int)×(Option Addr)×Nat×Nat×Chunk) (fun ⟨j,zt,azt,nzt,kzt,czt⟩=>[(1,I bins),(3,Pt g0 0),(5,Pt h0 0),(9,I yy),(59, .slice (partAddr p.pix.a p.pix.k ((((yy*p.w)+r.x0)).toNat) 1) ((((yy*p.w)+r.x1)).toNat-((((yy*p.w)+r.x0)).toNat)) (p.pix.k-((((yy*p.w)+r.x0)).toNat))),(60,I ((((((yy*p.w)+r.x1)).toNat-((((yy*p.w)+r.x0)).toNat)):Nat):Int)),(61,I (j:Int)),(8, .slice azt nzt kzt)]) (fun ⟨j,zt,azt,nzt,kzt,czt⟩ w=>Sat W w (czt::[(h0, .cells (encRct r).toArray 24 (0,0))]::[(g0, .cells (encPlane p).toArray 28 (0,0))]::H::F)/\j<=Wn/\(zt=cntV p.v bins r (i*Wn+j))/\OwnT Go.E.encI 3 1 azt nzt kzt zt czt) (fun ⟨j,zt,azt,nzt,kzt,czt⟩=>Wn-j) (0,zs,azs,nzs,kzs,czs) ⟨d0,om,(by rw [Nat.add_zero];exact hE),hOzs⟩ ?_
 rintro ⟨j,zt,azt,nzt,kzt,czt⟩ ρ _ ⟨i0,hj,hE2,hOzt⟩
 have hn_zt:=hOzt.len;have hl_zt:=hOzt.le
 have hzl2:zt.length=bins.toNat:=by rw [hE2];exact cnt_len _ _ _ _
 have hij:i*Wn+j<=Hn*Wn:=by have h1:=Nat.mul_le_mul_right Wn (show i+1<=Hn by omega);rw [Nat.add_mul,Nat.one_mul] at h1;omega
 refine sR<|pu1<|nT<|seqE<|cD ((j:Int)<((((((yy*p.w)+r.x1)).toNat-((((yy*p.w)+r.x0)).toNat)):Nat):Int)) (fun o1=>?_) (fun o1=>?_)
 rotate_left
 ·refine exitE<|xB<|bN<|tN<|rE<|pu1<|sAdd yy 1<|pu1<|nT ?_
  exact ⟨(i+1,(yy+1),zt,azt,nzt,kzt,czt),od,alA,i0,om,om,(by rw [Nat.add_mul,Nat.one_mul,hE2,show j=Wn by omega]),hOzt⟩
 refine kT<|seqE<|blockE<|sR<|sIdx n1 (j:Int) runUnderlying22 sizeOf3 fun a0 _ _ p0 q1=>?_
 rw [Int.toNat_natCast] at p0
 have hpa:pixAt p.v (r.x0+(j:Int)) (r.y0+(i:Int))=a0:=by
  have h:=part_at p0
  refine pixAt_eq ?_
  rw [<-hyy,<-h];simp only [Plane.v];congr 1;rw [Int.add_comm r.x0,<-Int.add_assoc];omega
 refine sLp i0 (q1.up 3 rfl) 0 (I a0) (isAgg3 _)<|pu1<|nT<|rE<|pu3<|sL i0 2 2 (I p.max_) (isAgg3 _)<|pu1<|cR call49 (p12_bin a0 p.max_ bins i0.flat) fun _ q0=>?_
 have hbb:=bin_bd (v:=a0) (mx:=p.max_) (bins:=bins) om
 refine sIdxO hOzt (binV a0 p.max_ bins) ((binV a0 p.max_ bins)).toNat runUnderlying22 sizeOf3 fun b0 _ _ r0 r1 _=>?_
 have hcb:=cnt_bd (p:=p.v) (bins:=bins) (r:=r) (i*Wn+j) b0 (by rw [<-hE2];exact List.mem_of_getElem? r0)
 refine sLp q0 (r1.up 0 rfl) 0 (I b0) (isAgg3 _)<|sAdd b0 1<|sIdxO hOzt (binV a0 p.max_ bins) ((binV a0 p.max_ bins)).toNat runUnderlying22 sizeOf3 fun s1 _ _ j0 _ t1=>?_
 obtain rfl:b0=s1:=Option.some.inj (r0.symm.trans j0)
 have hcb:=cnt_bd (p:=p.v) (bins:=bins) (r:=r) (i*Wn+j) b0 (by rw [<-hE2];exact List.mem_of_getElem? j0)
 exact sStF q0 hOzt t1 0 ((binV a0 p.max_ bins)).toNat 0 b0 (b0+1) j0 (I (b0+1)) [I (b0+1)] sizeOf3 fun _ u1 v1 w1=>nB<|rE<|sAdd (j:Int) 1<|pu1<|nT<|⟨(j+1,(zt.set (((binV a0 p.max_ bins)).toNat) (b0+1)),azt,nzt,kzt,u1),od,alA,w1,om,(by rw [<-Nat.add_assoc,cnt_succ hW om,hpa,<-hE2];exact inc_set j0),v1⟩
theorem p12_merge (al:Option Addr) (nl kl:Nat) (l:List IL) (hl:RdT encIL 1 [H] al nl kl l) (dl:∀z∈l,IL.Ok [H] z) (hS:Sat W w (H::F)):
  Calls prog 50 #[.slice al nl kl] w fun e w'=>∃(az:Option Addr) (nz kz:Nat) (zs:List Int) (c:Int) (G:Chunk),e= .returned (.tuple #[.slice az nz kz,I c])/\RdT Go.E.encI 1 [G] az nz kz zs/\(zs,c)=mrgT (l.map (fun z=>z.l.l))/\Sat W w' (G::H::F):=by
 have hl_l:=hl.le;have hn_l:=hl.len
 refine callsA 83 func50 rfl<|sR<|pu2<|zQ<|pu4<|sE 17 (nl:Int) 0 (fun r0=>?_) (fun r0=>?_)
 ·refine pu4<|zC<|pu2<|zR<|retT [nS,I 5] ?_
  have s0:Sat W _ ([]::H::F):=Sat.nilc hS
  exact ⟨none,0,0,[],5,_,rfl,RdT.nil (enc:=Go.E.encI) (sz:=1) fR [[]],(mrg_5 (by rw [List.length_map];omega)).symm,s0⟩
 refine pu4<|nT<|cD ((nl:Int)>4096) (fun t0=>?_) (fun t0=>?_)
 ·refine sR<|pu2<|zR<|retT [nS,I 5] ?_
  have u0:Sat W _ ([]::H::F):=Sat.nilc hS
  exact ⟨none,0,0,[],5,_,rfl,RdT.nil (enc:=Go.E.encI) (sz:=1) fR [[]],(mrg_5 (by rw [List.length_map];omega)).symm,u0⟩
 refine kS<|pu1<|sIdx hl 0 runUnderlying68 sizeOf22 fun a0 _ _ j0 v0=>?_
 have hnl_x_5:=(dl a0 (List.mem_of_getElem? j0)).l.len;have hll_x_5:=(dl a0 (List.mem_of_getElem? j0)).l.le;have hlm_x_5:(l.map (fun z=>z.l.l))[0]?=some a0.l.l:=map_at (f:=fun z:IL=>z.l.l) j0
 have hmn:mrgN (l.map (fun z=>z.l.l))=(a0.l.n:Int):=by rw [mrgN_at j0,hnl_x_5]
 have h00:¬((l.map (fun z=>z.l.l)).length=0\/4096<(l.map (fun z=>z.l.l)).length):=by rw [List.length_map];omega
 refine sLp hS (v0.up 0 rfl) 0 (.slice a0.l.a a0.l.n a0.l.k) (isAgg22 _)<|pu2<|zQ<|pu3<|sD 28 ((a0.l.n:Int)<1) (fun w0=>?_) (fun w0=>?_)
 ·refine pu3<|zC<|pu2<|zR<|retT [nS,I 8] ?_
  have x0:Sat W _ ([]::H::F):=Sat.nilc hS
  exact ⟨none,0,0,[],8,_,rfl,RdT.nil (enc:=Go.E.encI) (sz:=1) fR [[]],(mrg_8a h00 om).symm,x0⟩
 refine pu3<|nT<|cD ((a0.l.n:Int)>128) (fun y0=>?_) (fun y0=>?_)
 ·refine sR<|pu2<|zR<|retT [nS,I 8] ?_
  have z0:Sat W _ ([]::H::F):=Sat.nilc hS
  exact ⟨none,0,0,[],8,_,rfl,RdT.nil (enc:=Go.E.encI) (sz:=1) fR [[]],(mrg_8a h00 om).symm,z0⟩
 refine kT<|seqE<|seqE ?_
 have hN1:1<=mrgN (l.map (fun z=>z.l.l))/\mrgN (l.map (fun z=>z.l.l))<=128:=by omega
 refine rE<|pu3<|nT<|blockE<|loopA (γ:=Nat) (fun i=>[(0, .slice al nl kl),(4,I (a0.l.n:Int)),(32, .slice al nl kl),(33,I (nl:Int)),(34,I (i:Int))]) (fun i w=>Sat W w (H::F)/\i<=nl/\(((l.take i).map (fun z=>z.l.l)).all (fun z=>decide (z.length=mrgN (l.map (fun z=>z.l.l))))=true)) (fun i=>nl-i) 0 ⟨hS,om,by rfl⟩ ?_
 rintro i ρ _ ⟨k0,hi,hAi⟩
 refine sR<|pu1<|nT<|seqE<|cD ((i:Int)<(nl:Int)) (fun a1=>?_) (fun a1=>?_)
 ·refine kT<|seqE<|blockE<|sR<|sIdx hl (i:Int) runUnderlying68 sizeOf22 fun e0 _ _ h0 b1=>?_
  rw [Int.toNat_natCast] at h0
  have hnl_x_17:=(dl e0 (List.mem_of_getElem? h0)).l.len;have hll_x_17:=(dl e0 (List.mem_of_getElem? h0)).l.le;have hlm_x_17:(l.map (fun z=>z.l.l))[i]?=some e0.l.l:=map_at (f:=fun z:IL=>z.l.l) h0
  refine sLp k0 (b1.up 0 rfl) 0 (.slice e0.l.a e0.l.n e0.l.k) (isAgg22 _)<|pu1<|zS<|pu4<|nT<|cN (e0.l.n:Int) (a0.l.n:Int) (fun c1=>?_) (fun c1=>?_)
  ·exact skipE<|bN<|tN<|rE<|sAdd (i:Int) 1<|pu1<|nT<|⟨i+1,od,alA,k0,om,all_succM hAi h0 (decide_eq_true om)⟩
  refine sR<|pu2<|zB<|tR<|tK<|retT [nS,I 8] ?_
  have d1:Sat W _ ([]::H::F):=Sat.nilc k0
  exact ⟨none,0,0,[],8,_,rfl,RdT.nil (enc:=Go.E.encI) (sz:=1) fR [[]],(mrg_8b h00 hlm_x_17 om).symm,d1⟩
 refine exitE<|xB<|tN<|seqE ?_
 have hA:(l.map (fun z=>z.l.l)).all (fun z=>decide (z.length=mrgN (l.map (fun z=>z.l.l))))=true:=all_map_take hAi om
 refine rE<|pu1<|sMake (kl:= .i64) (kc:= .i64) (enc:=Go.E.encI) (sz:=1) (nb:=8) k0 0 a0.l.n (a0.l.n:Int) (rfl:(a0.l.n:Int)=(a0.l.n:Int)) underlying22 (i:=Try.t3) kr fR fun e1 f1 _ g1 h1=>pu1<|zQ<|pu3<|nT<|blockE ?_
 refine loopA (γ:=Nat×(List Int)×(Option Addr)×Nat×Nat×Chunk) (fun ⟨i,zs,azs,nzs,kzs,czs⟩=>[(45, .slice al nl kl),(46,I (nl:Int)),(47,I (i:Int)),(7, .slice azs nzs kzs)]) (fun ⟨i,zs,azs,nzs,kzs,czs⟩ w=>Sat W w (czs::H::F)/\i<=nl/\(zs=addsV ((l.take i).map (fun z=>z.l.l)) (mrgN (l.map (fun z=>z.l.l))))/\(∀z∈zs,0<=z/\z<=4096*(i:Int))/\(((l.take i).map (fun z=>z.l.l)).all (fun z=>inM 4096 z)=true)/\((zs.length:Int)=mrgN (l.map (fun z=>z.l.l)))/\OwnT Go.E.encI 3 1 azs nzs kzs zs czs) (fun ⟨i,zs,azs,nzs,kzs,czs⟩=>nl-i) (0,(List.replicate a0.l.n 0),(At e1 0),a0.l.n,a0.l.n,f1) ⟨h1,om,(by unfold addsV;rw [List.take_zero,List.map_nil,List.foldl_nil,hmn];rfl),(by intro z hz;have:=List.eq_of_mem_replicate hz;omega),by rfl,(by rw [List.length_replicate];omega),g1⟩ ?_
 rintro ⟨i,zs,azs,nzs,kzs,czs⟩ ρ _ ⟨n0,hi,hE,hB,hMi,hzl,hOzs⟩
 have hn_zs:=hOzs.len;have hl_zs:=hOzs.le
 refine sR<|pu1<|nT<|seqE<|cD ((i:Int)<(nl:Int)) (fun i1=>?_) (fun i1=>?_)
 rotate_left
 ·refine exitE<|xB<|tN<|seqE<|seqE ?_
  have hMM:(l.map (fun z=>z.l.l)).all (fun z=>inM 4096 z)=true:=all_map_take hMi om;have hV:zs=mrgV (l.map (fun z=>z.l.l)):=by rw [hE,List.take_of_length_le om];rfl
  refine rE<|pu3<|nT<|blockE<|loopA (γ:=Nat) (fun k=>[(7, .slice azs nzs kzs),(73, .slice azs nzs kzs),(74,I (nzs:Int)),(75,I (k:Int))]) (fun k w=>Sat W w (czs::H::F)/\k<=nzs/\((zs.take k).all (fun v=>decide (v<=4096))=true)) (fun k=>nzs-k) 0 ⟨n0,om,by rfl⟩ ?_
  rintro k ρ _ ⟨l0,hk,hk9⟩
  refine sR<|pu1<|nT<|seqE<|cD ((k:Int)<(nzs:Int)) (fun j1=>?_) (fun j1=>?_)
  rotate_left
  ·exact exitE<|xB<|tN<|sR<|pu3<|zE<|retT [.slice azs nzs kzs,I 0]<|⟨azs,nzs,kzs,zs,0,_,rfl,(hOzs.rdAt (cs:=[czs]) 0 rfl),(by rw [mrg_0 h00 hN1 hA hMM (by rw [<-hV];exact all_of_take hk9 om),<-hV]),l0⟩
  refine kT<|seqE<|blockE<|sR<|sIdxO hOzs (k:Int) k runUnderlying22 sizeOf3 fun o0 _ _ p0 k1 _=>sLp l0 (k1.up 0 rfl) 0 (I o0) (isAgg3 _)<|pu1<|zS<|pu2<|nT<|cD (o0>4096) (fun l1=>?_) (fun l1=>?_)
  rotate_left
  ·exact skipE<|bN<|tN<|rE<|sAdd (k:Int) 1<|pu1<|nT<|⟨k+1,od,alA,l0,om,all_succ hk9 p0 (decide_eq_true om)⟩
  refine sR<|pu2<|zB<|tR<|tK<|retT [nS,I 3] ?_
  have m1:=(l0.dropAt 0 rfl)
  have n1:Sat W _ ([]::H::F):=Sat.nilc m1
  exact ⟨none,0,0,[],3,_,rfl,RdT.nil (enc:=Go.E.encI) (sz:=1) fR [[]],(mrg_3 h00 hN1 hA hMM (by rw [<-hV];exact p0) om).symm,n1⟩
 refine kT<|seqE<|blockE<|sR<|sIdx hl (i:Int) runUnderlying68 sizeOf22 fun b0 _ _ f0 o1=>?_
 rw [Int.toNat_natCast] at f0
 have hnl_x_32:=(dl b0 (List.mem_of_getElem? f0)).l.len;have hll_x_32:=(dl b0 (List.mem_of_getElem? f0)).l.le;have hlm_x_32:(l.map (fun z=>z.l.l))[i]?=some b0.l.l:=map_at (f:=fun z:IL=>z.l.l) f0
 have hlx:(b0.l.n:Int)=(a0.l.n:Int):=by have h:=of_decide_eq_true (List.all_eq_true.1 hA _ (List.mem_of_getElem? hlm_x_32));omega
 refine sLp n0 (o1.up 1 rfl) 0 (.slice b0.l.a b0.l.n b0.l.k) (isAgg22 _)<|pu1<|zS<|pu3<|nT<|blockE ?_
 refine loopA (γ:=Nat×(List Int)×(Option Addr)×Nat×Nat×Chunk) (fun ⟨u,zt,azt,nzt,kzt,czt⟩=>[(45, .slice al nl kl),(46,I (nl:Int)),(47,I (i:Int)),(51, .slice b0.l.a b0.l.n b0.l.k),(52,I (b0.l.n:Int)),(53,I (u:Int)),(7, .slice azt nzt kzt)]) (fun ⟨u,zt,azt,nzt,kzt,czt⟩ w=>Sat W w (czt::H::F)/\u<=b0.l.n/\(zt=addI zs b0.l.l u)/\((b0.l.l.take u).all (fun v=>decide (0<=v/\v<=4096))=true)/\(zt.length=zs.length)/\OwnT Go.E.encI 3 1 azt nzt kzt zt czt) (fun ⟨u,zt,azt,nzt,kzt,czt⟩=>b0.l.n-u) (0,zs,azs,nzs,kzs,czs) ⟨n0,om,(addI_0 om).symm,by rfl,by rfl,hOzs⟩ ?_
 rintro ⟨u,zt,azt,nzt,kzt,czt⟩ ρ _ ⟨g0,hu,hE2,hu,hzl2,hOzt⟩
 have hn_zt:=hOzt.len;have hl_zt:=hOzt.le
 refine sR<|pu1<|nT<|seqE<|cD ((u:Int)<(b0.l.n:Int)) (fun q1=>?_) (fun q1=>?_)
 rotate_left
 ·exact exitE<|xB<|bN<|tN<|rE<|sAdd (i:Int) 1<|pu1<|nT<|⟨(i+1,zt,azt,nzt,kzt,czt),od,alA,g0,om,(by rw [adds_succ f0,<-hE,hE2];exact addI_n om),(add_bdI hE2 om hB hu),all_succM hMi f0 (by unfold inM;rw [List.take_of_length_le om] at hu;exact hu),om,hOzt⟩
 refine kT<|seqE<|blockE<|sR<|pu1<|sIdx (dl b0 (List.mem_of_getElem? f0)).l (u:Int) runUnderlying22 sizeOf3 fun d0 _ _ i0 r1=>?_
 rw [Int.toNat_natCast] at i0
 refine sLp g0 (r1.up 1 rfl) 0 (I d0) (isAgg3 _)<|pu2<|zQ<|pu3<|sD 60 (d0<0) (fun s1=>?_) (fun s1=>?_)
 ·refine pu3<|zC<|pu2<|zE<|tR<|tK<|tR<|bR<|tK<|tR<|tK<|retT [nS,I 2] ?_
  have t1:=(g0.dropAt 0 rfl)
  have u1:Sat W _ ([]::H::F):=Sat.nilc t1
  exact ⟨none,0,0,[],2,_,rfl,RdT.nil (enc:=Go.E.encI) (sz:=1) fR [[]],(mrg_2 h00 hN1 hA hlm_x_32 i0 om).symm,u1⟩
 refine pu3<|nT<|cD (d0>4096) (fun v1=>?_) (fun v1=>?_)
 ·refine sR<|pu2<|zE<|tR<|tK<|tR<|bR<|tK<|tR<|tK<|retT [nS,I 2] ?_
  have w1:=(g0.dropAt 0 rfl)
  have x1:Sat W _ ([]::H::F):=Sat.nilc w1
  exact ⟨none,0,0,[],2,_,rfl,RdT.nil (enc:=Go.E.encI) (sz:=1) fR [[]],(mrg_2 h00 hN1 hA hlm_x_32 i0 om).symm,x1⟩
 refine kT<|rE<|pu2<|sIdxO hOzt (u:Int) u runUnderlying22 sizeOf3 fun c0 _ _ q0 y1 _=>?_
 have hzb:=hB c0 (List.mem_of_getElem? (addI_at (b:=b0.l.l) om (by rw [<-hE2];exact q0)))
 refine sLp g0 (y1.up 0 rfl) 0 (I c0) (isAgg3 _)<|pu1<|sAdd c0 d0<|sIdxO hOzt (u:Int) u runUnderlying22 sizeOf3 fun z1 _ _ m0 _ a2=>?_
 obtain rfl:c0=z1:=Option.some.inj (q0.symm.trans m0)
 have hzb:=hB c0 (List.mem_of_getElem? (addI_at (b:=b0.l.l) om (by rw [<-hE2];exact m0)))
 exact sStF g0 hOzt a2 0 u 0 c0 (c0+d0) m0 (I (c0+d0)) [I (c0+d0)] sizeOf3 fun _ b2 c2 d2=>nB<|rE<|sAdd (u:Int) 1<|pu1<|nT<|⟨(u+1,(zt.set u (c0+d0)),azt,nzt,kzt,b2),od,alA,d2,om,(by have h:=m0;rw [hE2] at h⊢;exact addI_set om h i0),all_succ hu i0 (decide_eq_true om),(by rw [List.length_set];exact hzl2),c2⟩
theorem p13_checked (p:Plane) (hp:Plane.Ok [H] p) (hS:Sat W w (H::F)):
  Ro prog 84 #[.agg (encPlane p).toArray] (.tuple #[I ((chkI p.v).1),I ((chkI p.v).2)]) W w (H::F):=by
 have hl_p_pix:=hp.pix.le;have hn_p_pix:=hp.pix.len
 refine callsA 23 func84 rfl<|sR<|sBox hS (.agg (encPlane p).toArray) (encPlane p).toArray fun _ _ d0=>pu2<|zQ<|lA d0 0 0 4 (isAgg28 _) (sizeOf28 _)<|cR call18 (p4_valid p ⟨(RdT.flat (hp.pix.up 1 (by rfl)))⟩ d0.flat) fun _ a0=>pu1<|nT<|cBn (planeOK p.v) (fun b0=>?_) (fun b0=>?_)
 rotate_left
 ·refine sR<|pu2<|zR<|retT [I 0,I 1] ?_
  exact ⟨by rw [show chkI p.v=(0,1) from by unfold chkI;rw [if_neg b0]];rfl,(a0.dropAt 0 rfl)⟩
 refine kS<|pu1<|sL a0 0 0 (I p.w) (isAgg3 _)<|pu1<|sL a0 0 1 (I p.h) (isAgg3 _)<|pu1<|sL a0 0 2 (I p.max_) (isAgg3 _)<|pu1<|cR call90 (p13_most (⟨p.w,p.h,p.max_⟩:Shape) a0.flat) fun _ e0=>pu5<|zQ<|pu2<|nT<|cBn (mostOK (⟨p.w,p.h,p.max_⟩:Shape).w (⟨p.w,p.h,p.max_⟩:Shape).h (⟨p.w,p.h,p.max_⟩:Shape).max_) (fun c0=>?_) (fun c0=>?_)
 rotate_left
 ·refine sR<|pu2<|zR<|retT [I 0,I 11] ?_
  exact ⟨by rw [show chkI p.v=(0,11) from by unfold chkI;rw [if_pos b0,if_neg (show ¬mostOK p.v.w p.v.h p.v.max_=true from c0)]];rfl,(e0.dropAt 0 rfl)⟩
 refine kS<|pu3<|zE<|retT [I (mostV (⟨p.w,p.h,p.max_⟩:Shape).w (⟨p.w,p.h,p.max_⟩:Shape).h (⟨p.w,p.h,p.max_⟩:Shape).max_),I 0] ?_
 exact ⟨by rw [show chkI p.v=((mostV (⟨p.w,p.h,p.max_⟩:Shape).w (⟨p.w,p.h,p.max_⟩:Shape).h (⟨p.w,p.h,p.max_⟩:Shape).max_),0) from by unfold chkI;rw [if_pos b0,if_pos (show mostOK p.v.w p.v.h p.v.max_=true from c0)];rfl];rfl,(e0.dropAt 0 rfl)⟩
theorem p13_outside (m:Int) (al:Option Addr) (nl kl:Nat) (l:List Int) (hl:RdT Go.E.encI 1 [H] al nl kl l) (hS:Sat W w (H::F)):
  Ro prog 85 #[I m, .slice al nl kl] (.bool (!(inM m l))) W w (H::F):=by
 have hl_l:=hl.le;have hn_l:=hl.len
 refine callsA 21 func85 rfl<|sR<|pu1<|zQ<|pu3<|nT<|blockE<|loopA (γ:=Nat) (fun i=>[(0,I m),(7, .slice al nl kl),(8,I (nl:Int)),(9,I (i:Int))]) (fun i w=>Sat W w (H::F)/\i<=nl/\((l.take i).all (fun v=>decide (0<=v/\v<=m))=true)) (fun i=>nl-i) 0 ⟨hS,om,by rfl⟩ ?_
 rintro i ρ _ ⟨a0,hi,hE⟩
 refine sR<|pu1<|nT<|seqE<|cD ((i:Int)<(nl:Int)) (fun d0=>?_) (fun d0=>?_)
 rotate_left
 ·exact exitE<|xB<|tN<|sR<|pu1<|zE<|retT [.bool false]<|⟨rB (by rw [show inM m l=true from all_of_take hE om];rfl),a0⟩
 refine kT<|seqE<|blockE<|sR<|sIdx hl (i:Int) runUnderlying22 sizeOf3 fun c0 _ _ b0 e0=>?_
 rw [Int.toNat_natCast] at b0
 refine sLp a0 (e0.up 0 rfl) 0 (I c0) (isAgg3 _)<|pu1<|zS<|pu3<|sD 15 (c0<0) (fun f0=>?_) (fun f0=>?_)
 ·exact pu4<|zC<|pu1<|zB<|tR<|tK<|retT [.bool true]<|⟨rB (by rw [Bool.eq_iff_iff];have h:=inM_f (m:=m) b0 om;simp [h]),a0⟩
 refine pu4<|nT<|cD (c0>m) (fun g0=>?_) (fun g0=>?_)
 rotate_left
 ·exact skipE<|bN<|tN<|rE<|sAdd (i:Int) 1<|pu1<|nT<|⟨i+1,od,alA,a0,om,all_succ hE b0 (decide_eq_true om)⟩
 exact sR<|pu1<|zB<|tR<|tK<|retT [.bool true]<|⟨rB (by rw [Bool.eq_iff_iff];have h:=inM_f (m:=m) b0 om;simp [h]),a0⟩
theorem p13_tile (p:Plane) (r:Rct) (aleft:Option Addr) (nleft kleft:Nat) (left:List Int) (atop:Option Addr) (ntop ktop:Nat) (top:List Int) (corner:Int) (hp:Plane.Ok [H] p) (hleft:RdT Go.E.encI 1 [H] aleft nleft kleft left) (htop:RdT Go.E.encI 1 [H] atop ntop ktop top) (hS:Sat W w (H::F)):
  Calls prog 70 #[.agg (encPlane p).toArray, .agg (encRct r).toArray, .slice aleft nleft kleft, .slice atop ntop ktop,I corner] w fun e w'=>∃(q:Plane) (c:Int) (G:Chunk),e= .returned (.tuple #[.agg (encPlane q).toArray,I c])/\q.Ok [G]/\(q.v,c)=itgT p.v r left top corner/\Sat W w' (G::H::F):=by
 have hl_p_pix:=hp.pix.le;have hn_p_pix:=hp.pix.len
 have hl_left:=hleft.le;have hn_left:=hleft.len
 have hl_top:=htop.le;have hn_top:=htop.len
 refine callsA 155 func70 rfl ?_
 refine sR ?_
 refine sBox hS (.agg (encPlane p).toArray) (encPlane p).toArray ?_
 intro g0 _ r2
 refine sBox r2 (.agg (encRct r).toArray) (encRct r).toArray ?_
 intro h0 _ s2
 refine sAlloc s2 zeroValue28 ?_
 intro n0 _ m1
 refine pu1<|zS ?_
 refine lA m1 2 0 4 (isAgg28 _) (sizeOf28 _) ?_
 refine cR call84 (p13_checked p ⟨(RdT.flat (hp.pix.up 3 (by rfl)))⟩ m1.flat) ?_
 intro _ s0
 refine pu5<|zQ<|pu2<|nT ?_
 refine cN ((chkI p.v).2) 0 (fun t2=>?_) (fun t2=>?_)
 rotate_left
 ·refine sR<|pu2 ?_
  refine sTl s0 0 [I 0,I 0,I 0,nS] sizeOf28 ?_
  intro _ n1
  refine pu1<|zR<|retC n1 0 [I 0,I 0,I 0,nS] (I ((chkI p.v).2)) (isAgg28 _) (sizeOf28 _) ?_
  have hC:itgC p.v r left top corner=((chkI p.v).2):=by
   have h:¬(chkI p.v).2=0:=by omega
   unfold chkI at h⊢;unfold itgC;split
   ·rename_i h1;rw [if_pos h1] at h;split
    ·rename_i h2;rw [if_pos h2] at h;exact absurd rfl h
    ·rfl
   ·rfl
  have u2:=(n1.drops [0,0,0])
  have v2:Sat W _ ([]::H::F):=Sat.nilc u2
  exact ⟨(⟨0,0,0,⟨none,0,0,[]⟩⟩:Plane),((chkI p.v).2),_,rfl,⟨RdT.nil (enc:=Go.E.encI) (sz:=1) fR [[]]⟩,(by unfold itgT;rw [okT_c hC om];rfl),v2⟩
 refine kT<|seqE<|seqE ?_
 have hck:planeOK p.v=true/\mostOK p.v.w p.v.h p.v.max_=true/\(chkI p.v).1=mostV p.v.w p.v.h p.v.max_:=by
  have h:(chkI p.v).2=0:=by omega
  unfold chkI at h⊢
  split at h
  ·rename_i h1
   rw [if_pos h1]
   split at h
   ·rename_i h2;rw [if_pos h2];exact ⟨h1,h2,rfl⟩
   ·simp at h
  ·simp at h
 obtain ⟨hpo,hmo,hmv⟩:=hck;have hmv2:(chkI p.v).1=mostV p.w p.h p.max_:=hmv;have hmo2:mostOK p.w p.h p.max_=true:=hmo;have hmb:=most_bd hmo2;have hsz:=(plane_sz hpo).1;unfold sizeP at hsz;simp only [Plane.v] at hsz
 refine rE ?_
 refine lA s0 1 0 4 (isAgg24 _) (sizeOf24 _) ?_
 refine cR call19 (p2_empty r s0.flat) ?_
 intro _ j0
 refine pu1 ?_
 refine sD 30 (r.x0=0/\r.y0=0/\r.x1=0/\r.y1=0) (fun t0=>?_) (fun t0=>?_)
 ·refine pu9<|zC<|pu1 ?_
  refine sTl j0 0 [I 0,I 0,I 0,nS] sizeOf28 ?_
  intro _ o1
  refine pu1<|zR<|retC o1 0 [I 0,I 0,I 0,nS] (I 8) (isAgg28 _) (sizeOf28 _) ?_
  have hC:itgC p.v r left top corner=8:=by unfold itgC;rw [if_pos hpo,if_pos hmo,if_neg (fun h=>by have h2:=(ins_in (by simp only [Plane.v];omega) (by simp only [Plane.v];omega)).2 h.1;exact h2.1 t0)]
  have w2:=(o1.drops [0,0,0])
  have x2:Sat W _ ([]::H::F):=Sat.nilc w2
  exact ⟨(⟨0,0,0,⟨none,0,0,[]⟩⟩:Plane),8,_,rfl,⟨RdT.nil (enc:=Go.E.encI) (sz:=1) fR [[]]⟩,(by unfold itgT;rw [okT_c hC om];rfl),x2⟩
 refine gY ?_
 refine lA j0 1 0 4 (isAgg24 _) (sizeOf24 _) ?_
 refine pu1<|gY ?_
 refine sL j0 2 0 (I p.w) (isAgg3 _) ?_
 refine pu1<|gY ?_
 refine sL j0 2 1 (I p.h) (isAgg3 _) ?_
 refine pu1<|gY ?_
 refine cR call20 (p2_inside r (⟨0,0,p.w,p.h⟩:Rct) j0.flat) ?_
 intro _ i0
 refine pu2<|nT ?_
 refine cDn (insP r (⟨0,0,p.w,p.h⟩:Rct)) (fun u0=>?_) (fun u0=>?_)
 rotate_left
 ·refine sR<|pu1 ?_
  refine sTl i0 0 [I 0,I 0,I 0,nS] sizeOf28 ?_
  intro _ q1
  refine pu1<|zR<|retC q1 0 [I 0,I 0,I 0,nS] (I 8) (isAgg28 _) (sizeOf28 _) ?_
  have hC:itgC p.v r left top corner=8:=by unfold itgC;rw [if_pos hpo,if_pos hmo,if_neg (fun h=>by have h2:=(ins_in (by simp only [Plane.v];omega) (by simp only [Plane.v];omega)).2 h.1;exact u0 h2.2)]
  have y2:=(q1.drops [0,0,0])
  have z2:Sat W _ ([]::H::F):=Sat.nilc y2
  exact ⟨(⟨0,0,0,⟨none,0,0,[]⟩⟩:Plane),8,_,rfl,⟨RdT.nil (enc:=Go.E.encI) (sz:=1) fR [[]]⟩,(by unfold itgT;rw [okT_c hC om];rfl),z2⟩
 refine kT<|seqE ?_
 have hri:rIn r p.w p.h:=(ins_in om om).1 ⟨t0,u0⟩
 have hri0:=hri;unfold rIn at hri0
 obtain ⟨Wn,hW⟩:∃k:Nat,r.x1-r.x0=(k:Int):=⟨_,(Int.toNat_of_nonneg om).symm⟩;obtain ⟨Hn,hH⟩:∃k:Nat,r.y1-r.y0=(k:Int):=⟨_,(Int.toNat_of_nonneg om).symm⟩
 have hWb:1<=Wn/\Wn<=128/\1<=Hn/\Hn<=128:=om;have hWH:Hn*Wn<=4096:=by have h1:=rIn_area hri (by first|omega|assumption);rw [hW,hH] at h1;have h2:((Hn*Wn:Nat):Int)=(Wn:Int)*(Hn:Int):=(by push_cast;rw [Int.mul_comm]);omega
 have hWi:(r.x1-r.x0)*(r.y1-r.y0)=((Hn*Wn:Nat):Int):=by rw [hW,hH];push_cast;rw [Int.mul_comm]
 have hpl:p.v.pix.length=p.pix.n:=hn_p_pix
 refine rE<|pu1 ?_
 refine sL i0 1 2 (I r.x1) (isAgg3 _) ?_
 refine pu1 ?_
 refine sL i0 1 0 (I r.x0) (isAgg3 _) ?_
 refine sSub r.x1 r.x0 ?_
 refine pu1 ?_
 refine sL i0 1 3 (I r.y1) (isAgg3 _) ?_
 refine pu1 ?_
 refine sL i0 1 1 (I r.y0) (isAgg3 _) ?_
 refine sSub r.y1 r.y0 ?_
 refine pu2 ?_
 refine sAlloc i0 zeroValue28 ?_
 intro k0 _ a3
 refine sTl a3 0 [I (r.x1-r.x0),I (r.y1-r.y0),I ((chkI p.v).1),nS] sizeOf28 ?_
 intro _ l0
 refine zQ<|pu3 ?_
 refine sL l0 0 1 (I (r.y1-r.y0)) (isAgg3 _) ?_
 refine pu2 ?_
 refine sN 58 (nleft:Int) (r.y1-r.y0) (fun b3=>?_) (fun b3=>?_)
 rotate_left
 ·refine pu6<|zC<|pu1 ?_
  refine sTl l0 1 [I 0,I 0,I 0,nS] sizeOf28 ?_
  intro _ r1
  refine pu1<|zR<|retC r1 1 [I 0,I 0,I 0,nS] (I 8) (isAgg28 _) (sizeOf28 _) ?_
  have hC:itgC p.v r left top corner=8:=by unfold itgC;rw [if_pos hpo,if_pos hmo,if_neg (fun h=>by omega)]
  have c3:=(r1.drops [0,0,0,0])
  have d3:Sat W _ ([]::H::F):=Sat.nilc c3
  exact ⟨(⟨0,0,0,⟨none,0,0,[]⟩⟩:Plane),8,_,rfl,⟨RdT.nil (enc:=Go.E.encI) (sz:=1) fR [[]]⟩,(by unfold itgT;rw [okT_c hC om];rfl),d3⟩
 refine pu3<|gY ?_
 refine sL l0 0 0 (I (r.x1-r.x0)) (isAgg3 _) ?_
 refine pu2<|nT ?_
 refine cN (ntop:Int) (r.x1-r.x0) (fun e3=>?_) (fun e3=>?_)
 rotate_left
 ·refine sR<|pu1 ?_
  refine sTl l0 1 [I 0,I 0,I 0,nS] sizeOf28 ?_
  intro _ s1
  refine pu1<|zR<|retC s1 1 [I 0,I 0,I 0,nS] (I 8) (isAgg28 _) (sizeOf28 _) ?_
  have hC:itgC p.v r left top corner=8:=by unfold itgC;rw [if_pos hpo,if_pos hmo,if_neg (fun h=>by omega)]
  have f3:=(s1.drops [0,0,0,0])
  have g3:Sat W _ ([]::H::F):=Sat.nilc f3
  exact ⟨(⟨0,0,0,⟨none,0,0,[]⟩⟩:Plane),8,_,rfl,⟨RdT.nil (enc:=Go.E.encI) (sz:=1) fR [[]]⟩,(by unfold itgT;rw [okT_c hC om];rfl),g3⟩
 refine kT<|seqE<|sR<|pu2 ?_
 refine sBS l0 #[I corner] runUnderlying22 sizeOf3 zeroValue3 ?_
 intro v0 _ i3
 refine cR call85 (p13_outside ((chkI p.v).1) (At v0 0) 1 1 ([corner]) (RdT.flat (RdT.blk (enc:=Go.E.encI) (sz:=1) (xs:=[corner]) (fun _=>(by rfl)) 1 0 rfl rfl rfl om)) i3.flat) ?_
 intro _ t1
 refine pu1 ?_
 refine sB 70 (!(inM ((chkI p.v).1) ([corner]))) (fun w0=>?_) (fun w0=>?_)
 ·refine pu9<|zC<|pu1 ?_
  refine sTl t1 2 [I 0,I 0,I 0,nS] sizeOf28 ?_
  intro _ u1
  refine pu1<|zR<|retC u1 2 [I 0,I 0,I 0,nS] (I 2) (isAgg28 _) (sizeOf28 _) ?_
  have hC:itgC p.v r left top corner=2:=by unfold itgC;rw [if_pos hpo,if_pos hmo,if_pos ⟨show rIn r p.v.w p.v.h from hri,om⟩,if_neg (fun h=>by have h1:=inM3.1 h.1;rw [show mostV p.v.w p.v.h p.v.max_=(chkI p.v).1 from hmv.symm] at h1;have h2:=w0;simp [h1.1,h1.2.1,h1.2.2] at h2)]
  have j3:=(u1.drops [0,0,0,0,0])
  have k3:Sat W _ ([]::H::F):=Sat.nilc j3
  exact ⟨(⟨0,0,0,⟨none,0,0,[]⟩⟩:Plane),2,_,rfl,⟨RdT.nil (enc:=Go.E.encI) (sz:=1) fR [[]]⟩,(by unfold itgT;rw [okT_c hC om];rfl),k3⟩
 refine pu2<|gY ?_
 refine cR call85 (p13_outside ((chkI p.v).1) aleft nleft kleft left (RdT.flat (hleft.up 5 (by rfl))) t1.flat) ?_
 intro _ v1
 refine pu2 ?_
 refine sB 75 (!(inM ((chkI p.v).1) left)) (fun z0=>?_) (fun z0=>?_)
 ·refine pu4<|zC<|pu1 ?_
  refine sTl v1 2 [I 0,I 0,I 0,nS] sizeOf28 ?_
  intro _ w1
  refine pu1<|zR<|retC w1 2 [I 0,I 0,I 0,nS] (I 2) (isAgg28 _) (sizeOf28 _) ?_
  have hC:itgC p.v r left top corner=2:=by unfold itgC;rw [if_pos hpo,if_pos hmo,if_pos ⟨show rIn r p.v.w p.v.h from hri,om⟩,if_neg (fun h=>by have h1:=inM3.1 h.1;rw [show mostV p.v.w p.v.h p.v.max_=(chkI p.v).1 from hmv.symm] at h1;have h2:=z0;simp [h1.1,h1.2.1,h1.2.2] at h2)]
  have l3:=(w1.drops [0,0,0,0,0])
  have m3:Sat W _ ([]::H::F):=Sat.nilc l3
  exact ⟨(⟨0,0,0,⟨none,0,0,[]⟩⟩:Plane),2,_,rfl,⟨RdT.nil (enc:=Go.E.encI) (sz:=1) fR [[]]⟩,(by unfold itgT;rw [okT_c hC om];rfl),m3⟩
 refine pu2<|gY ?_
 refine cR call85 (p13_outside ((chkI p.v).1) atop ntop ktop top (RdT.flat (htop.up 5 (by rfl))) v1.flat) ?_
 intro _ o0
 refine pu1<|nT ?_
 refine cB (!(inM ((chkI p.v).1) top)) (fun a1=>?_) (fun a1=>?_)
 ·refine sR<|pu1 ?_
  refine sTl o0 2 [I 0,I 0,I 0,nS] sizeOf28 ?_
  intro _ z1
  refine pu1<|zR<|retC z1 2 [I 0,I 0,I 0,nS] (I 2) (isAgg28 _) (sizeOf28 _) ?_
  have hC:itgC p.v r left top corner=2:=by unfold itgC;rw [if_pos hpo,if_pos hmo,if_pos ⟨show rIn r p.v.w p.v.h from hri,om⟩,if_neg (fun h=>by have h1:=inM3.1 h.1;rw [show mostV p.v.w p.v.h p.v.max_=(chkI p.v).1 from hmv.symm] at h1;have h2:=a1;simp [h1.1,h1.2.1,h1.2.2] at h2)]
  have n3:=(z1.drops [0,0,0,0,0])
  have o3:Sat W _ ([]::H::F):=Sat.nilc n3
  exact ⟨(⟨0,0,0,⟨none,0,0,[]⟩⟩:Plane),2,_,rfl,⟨RdT.nil (enc:=Go.E.encI) (sz:=1) fR [[]]⟩,(by unfold itgT;rw [okT_c hC om];rfl),o3⟩
 refine kT<|seqE ?_
 have hlft:(left.length:Int)=r.y1-r.y0/\(top.length:Int)=r.x1-r.x0:=by omega
 have hin:inM (mostV p.w p.h p.max_) (corner::left++top)=true:=by
  rw [<-hmv2]
  have h1:=w0;have h2:=z0;have h3:=a1
  exact inM3.2 ⟨by simpa using h1,by simpa using h2,by simpa using h3⟩
 have hinA:=List.all_eq_true.1 hin;have hc0:0<=corner/\corner<=mostV p.w p.h p.max_:=of_decide_eq_true (hinA corner (by simp))
 obtain ⟨f,hf⟩:∃f:Int->Int->Int,f=itgX p.v left top corner r:=⟨_,rfl⟩
 refine rE<|pu1 ?_
 refine sL o0 1 0 (I (r.x1-r.x0)) (isAgg3 _) ?_
 refine pu1 ?_
 refine sL o0 1 1 (I (r.y1-r.y0)) (isAgg3 _) ?_
 refine sMul (r.x1-r.x0) (r.y1-r.y0) ?_
 refine sMake0 (kl:= .i64) (kc:= .i64) (enc:=Go.E.encI) (sz:=1) (nb:=8) o0 (((r.x1-r.x0)*(r.y1-r.y0))).toNat ((r.x1-r.x0)*(r.y1-r.y0)) (om:((r.x1-r.x0)*(r.y1-r.y0))=(((((r.x1-r.x0)*(r.y1-r.y0))).toNat:Nat):Int)) underlying22 (i:=Try.t3) kr fR ?_
 intro a2 p3 _ q3 r3
 refine pu1 ?_
 refine tW r3 2 3 (.slice (At a2 0) 0 ((((r.x1-r.x0)*(r.y1-r.y0))).toNat)) sizeOf22 ?_
 intro _ b2
 refine zS<|pu1 ?_
 refine sL b2 2 0 (I (r.x1-r.x0)) (isAgg3 _) ?_
 refine sMake (kl:= .i64) (kc:= .i64) (enc:=Go.E.encI) (sz:=1) (nb:=8) b2 0 ((r.x1-r.x0)).toNat (r.x1-r.x0) (om:(r.x1-r.x0)=((((r.x1-r.x0)).toNat:Nat):Int)) underlying22 (i:=Try.t3) kr fR ?_
 intro s3 u3 _ v3 c2
 refine pu1<|zQ<|pu1 ?_
 refine sL c2 3 1 (I (r.y1-r.y0)) (isAgg3 _) ?_
 refine pu1<|nT<|blockE ?_
 have w3:=(c2.pick 1 rfl)
 refine loopA (γ:=Nat×(List Int)×(Option Addr)×Nat×Nat×Chunk×(List Int)×(Option Addr)×Nat×Nat×Chunk) (fun ⟨i,zs,azs,nzs,kzs,czs,cs,acs,ncs,kcs,ccs⟩=>[(2, .slice aleft nleft kleft),(3, .slice atop ntop ktop),(4,I corner),(5,Pt g0 0),(6,Pt h0 0),(10,Pt n0 0),(12,I ((chkI p.v).1)),(14,Pt k0 0),(92,I (r.y1-r.y0)),(93,I (i:Int)),(15, .slice acs ncs kcs)]) (fun ⟨i,zs,azs,nzs,kzs,czs,cs,acs,ncs,kcs,ccs⟩ w=>Sat W w (czs::ccs::[(v0, .cells #[I corner] 3 (0,0))]::[(k0, .cells #[I (r.x1-r.x0),I (r.y1-r.y0),I ((chkI p.v).1), .slice azs nzs kzs] 28 (0,0))]::[(n0, .cells #[I 0,I 0,I 0,nS] 28 (0,0))]::[(h0, .cells (encRct r).toArray 24 (0,0))]::[(g0, .cells (encPlane p).toArray 28 (0,0))]::H::F)/\i<=Hn/\(zs=gridN Wn f (i*Wn))/\(cs=tabN (fun k=>colS p.v (r.x0+(k:Int)) r.y0 i) Wn)/\OwnT Go.E.encI 3 1 azs nzs kzs zs czs/\OwnT Go.E.encI 3 1 acs ncs kcs cs ccs) (fun ⟨i,zs,azs,nzs,kzs,czs,cs,acs,ncs,kcs,ccs⟩=>Hn-i) (0,[],(At a2 0),0,(((r.x1-r.x0)*(r.y1-r.y0))).toNat,p3,(List.replicate ((r.x1-r.x0)).toNat 0),(At s3 0),((r.x1-r.x0)).toNat,((r.x1-r.x0)).toNat,u3) ⟨w3,om,(by rw [Nat.zero_mul];rfl),(by rw [show (r.x1-r.x0).toNat=Wn by omega];exact tab_zero (fun _ _=>rfl)),q3,v3⟩ ?_
 rintro ⟨i,zs,azs,nzs,kzs,czs,cs,acs,ncs,kcs,ccs⟩ ρ _ ⟨p0,hi,hE,hcs,hOzs,hOcs⟩
 have hn_zs:=hOzs.len;have hl_zs:=hOzs.le
 have hn_cs:=hOcs.len;have hl_cs:=hOcs.le
 refine sR<|pu1<|nT<|seqE ?_
 refine cD ((i:Int)<(r.y1-r.y0)) (fun x3=>?_) (fun x3=>?_)
 rotate_left
 ·refine exitE<|xB<|tN<|seqE<|sR<|pu2 ?_
  refine sL p0 3 3 (.slice azs nzs kzs) (isAgg22 _) ?_
  refine cR call85 (p13_outside ((chkI p.v).1) azs nzs kzs zs (RdT.flat (hOzs.rdAt 0 (by rfl))) p0.flat) ?_
  intro _ b1
  refine nT ?_
  refine cB (!(inM ((chkI p.v).1) zs)) (fun y3=>?_) (fun y3=>?_)
  ·refine sR<|pu1 ?_
   refine sTl b1 4 [I 0,I 0,I 0,nS] sizeOf28 ?_
   intro _ d2
   refine pu1<|zR<|retC d2 4 [I 0,I 0,I 0,nS] (I 2) (isAgg28 _) (sizeOf28 _) ?_
   have hLL:itgL p.v left top corner r=zs:=by unfold itgL;rw [hE,show i=Hn by omega,<-hf,show areaN r=Hn*Wn from by unfold areaN;rw [hWi,Int.toNat_natCast],hW]
   have hC:itgC p.v r left top corner=2:=by unfold itgC;rw [if_pos hpo,if_pos hmo,if_pos ⟨show rIn r p.v.w p.v.h from hri,hlft⟩,if_neg (fun h=>by have h1:=h.2;rw [hLL,show mostV p.v.w p.v.h p.v.max_=(chkI p.v).1 from hmv.symm] at h1;simp_all)]
   have z3:=(d2.drops [0,0,0,0,0,0,0])
   have a4:Sat W _ ([]::H::F):=Sat.nilc z3
   exact ⟨(⟨0,0,0,⟨none,0,0,[]⟩⟩:Plane),2,_,rfl,⟨RdT.nil (enc:=Go.E.encI) (sz:=1) fR [[]]⟩,(by unfold itgT;rw [okT_c hC om];rfl),a4⟩
  refine kS ?_
  refine lA b1 3 0 4 (isAgg28 _) (sizeOf28 _) ?_
  refine sTl b1 4 [I (r.x1-r.x0),I (r.y1-r.y0),I ((chkI p.v).1), .slice azs nzs kzs] sizeOf28 ?_
  intro _ e2
  refine pu1<|zE<|retC e2 4 [I (r.x1-r.x0),I (r.y1-r.y0),I ((chkI p.v).1), .slice azs nzs kzs] (I 0) (isAgg28 _) (sizeOf28 _) ?_
  have hLL:itgL p.v left top corner r=zs:=by unfold itgL;rw [hE,show i=Hn by omega,<-hf,show areaN r=Hn*Wn from by unfold areaN;rw [hWi,Int.toNat_natCast],hW]
  have hC:itgC p.v r left top corner=0:=by unfold itgC;rw [if_pos hpo,if_pos hmo,if_pos ⟨show rIn r p.v.w p.v.h from hri,hlft⟩,if_pos ⟨hin,by rw [hLL,show mostV p.v.w p.v.h p.v.max_=(chkI p.v).1 from hmv.symm];simp_all⟩]
  exact ⟨(⟨(r.x1-r.x0),(r.y1-r.y0),(chkI p.v).1,⟨azs,nzs,kzs,zs⟩⟩:Plane),0,_,rfl,⟨(hOzs.rdAt (cs:=[czs]) 0 rfl)⟩,(by unfold itgT;rw [okT_0 hC,hLL,hmv];rfl),(e2.drops [1,1,1,1,1,1])⟩
 refine kT<|seqE<|blockE<|sR<|pu2<|zS<|pu1<|zS<|pu1 ?_
 refine sL p0 3 0 (I (r.x1-r.x0)) (isAgg3 _) ?_
 refine pu1<|nT<|blockE ?_
 refine loopA (γ:=Nat×Int×(List Int)×(Option Addr)×Nat×Nat×Chunk×(List Int)×(Option Addr)×Nat×Nat×Chunk) (fun ⟨j,sm,zt,azt,nzt,kzt,czt,ct,act,nct,kct,cct⟩=>[(2, .slice aleft nleft kleft),(3, .slice atop ntop ktop),(4,I corner),(5,Pt g0 0),(6,Pt h0 0),(10,Pt n0 0),(12,I ((chkI p.v).1)),(14,Pt k0 0),(92,I (r.y1-r.y0)),(93,I (i:Int)),(16,I (i:Int)),(97,I (r.x1-r.x0)),(98,I (j:Int)),(17,I sm),(15, .slice act nct kct)]) (fun ⟨j,sm,zt,azt,nzt,kzt,czt,ct,act,nct,kct,cct⟩ w=>Sat W w (czt::cct::[(v0, .cells #[I corner] 3 (0,0))]::[(k0, .cells #[I (r.x1-r.x0),I (r.y1-r.y0),I ((chkI p.v).1), .slice azt nzt kzt] 28 (0,0))]::[(n0, .cells #[I 0,I 0,I 0,nS] 28 (0,0))]::[(h0, .cells (encRct r).toArray 24 (0,0))]::[(g0, .cells (encPlane p).toArray 28 (0,0))]::H::F)/\j<=Wn/\(zt=gridN Wn f (i*Wn+j))/\(ct=mixN (fun k=>colS p.v (r.x0+(k:Int)) r.y0 (i+1)) (fun k=>colS p.v (r.x0+(k:Int)) r.y0 i) j Wn)/\(sm=recS p.v r.x0 r.y0 j (i+1))/\OwnT Go.E.encI 3 1 azt nzt kzt zt czt/\OwnT Go.E.encI 3 1 act nct kct ct cct) (fun ⟨j,sm,zt,azt,nzt,kzt,czt,ct,act,nct,kct,cct⟩=>Wn-j) (0,0,zs,azs,nzs,kzs,czs,cs,acs,ncs,kcs,ccs) ⟨p0,om,(by rw [Nat.add_zero];exact hE),(by rw [mix_0];exact hcs),by rfl,hOzs,hOcs⟩ ?_
 rintro ⟨j,sm,zt,azt,nzt,kzt,czt,ct,act,nct,kct,cct⟩ ρ _ ⟨e0,hj,hE2,hct,hsm,hOzt,hOct⟩
 have hn_zt:=hOzt.len;have hl_zt:=hOzt.le
 have hn_ct:=hOct.len;have hl_ct:=hOct.le
 have hzl:zt.length=i*Wn+j:=by rw [hE2,grid_len]
 have hij:i*Wn+j<=Hn*Wn:=by have h1:=Nat.mul_le_mul_right Wn (show i+1<=Hn by omega);rw [Nat.add_mul,Nat.one_mul] at h1;omega
 have hrb:=rec_bd9 hpo r.x0 r.y0 (i:=j) (j:=i+1) om om;rw [<-hsm] at hrb;have hctl:ct.length=Wn:=by rw [hct];exact mix_len _ _ _ _
 refine sR<|pu1<|nT<|seqE ?_
 refine cD ((j:Int)<(r.x1-r.x0)) (fun c4=>?_) (fun c4=>?_)
 rotate_left
 ·refine exitE<|xB<|bN<|tN<|rE ?_
  refine sAdd (i:Int) 1 ?_
  refine pu1<|nT ?_
  exact ⟨(i+1,zt,azt,nzt,kzt,czt,ct,act,nct,kct,cct),od,alA,e0,om,(by rw [Nat.add_mul,Nat.one_mul,hE2,show j=Wn by omega]),(by rw [hct,show j=Wn by omega];exact mix_n _ _ _),hOzt,hOct⟩
 refine kT<|seqE<|blockE<|sR<|pu2<|nT<|seqE ?_
 have hix:=pl_ix hpo (x:=r.x0+(j:Int)) (y:=r.y0+(i:Int)) (by simp only [Plane.v];omega) (by simp only [Plane.v];omega);rw [hpl] at hix;simp only [Plane.v] at hix
 obtain ⟨a0,c1,d1,q0,f2,e1,g2⟩:=OwnT.elem hOct (j:Int)
 rw [Int.toNat_natCast] at q0 f2 e1
 have hcv:a0=colS p.v (r.x0+(j:Int)) r.y0 i:=by have h:=q0;rw [hct,mix_at om] at h;exact (Option.some.inj h).symm
 have hcb:=col_bd hpo (r.x0+(j:Int)) r.y0 (n:=i) om;rw [<-hcv] at hcb
 obtain ⟨d0,i2,j2,d4,e4,f4⟩:=RdT.elem hp.pix ((((r.y0+(i:Int))*p.w)+r.x0)+(j:Int))
 have hpa:pixAt p.v (r.x0+(j:Int)) (r.y0+(i:Int))=d0:=by
  refine pixAt_eq ?_
  rw [<-d4];simp only [Plane.v];congr 1;rw [Int.add_comm r.x0,<-Int.add_assoc];omega
 have hpb:=pixAt_bd hpo (r.x0+(j:Int)) (r.y0+(i:Int));rw [hpa] at hpb;simp only [Plane.v] at hpb
 refine drawE [22] [(3,⟨c1,d1+j*1,none⟩,I a0),(5,⟨g0,3,none⟩, .slice p.pix.a p.pix.n p.pix.k),(7,⟨h0,1,none⟩,I r.y0),(11,⟨g0,0,none⟩,I p.w),(14,⟨h0,0,none⟩,I r.x0),(19,⟨i2,j2,none⟩,I d0)] [(true,[0,1]),(true,[2]),(true,[4,6,8,10,13,16]),(true,[3]),(true,[5]),(true,[7]),(true,[9]),(true,[11]),(true,[12]),(true,[14]),(true,[15]),(true,[17]),(true,[18]),(true,[19]),(true,[20]),(true,[21]),(false,[22])] rfl kr ⟨.inr ((f2.up 1 rfl).cell e0 (k:=0) rfl),cI e0 6,cI e0 5,cI e0 6,cI e0 5, .inr ((e4.up 7 rfl).cell e0 (k:=0) rfl),trivial⟩ ?_
 have g4:=e0.drew
 refine wU [0,1] ?_
 refine wY (.pointer (some ⟨c1,d1+j*1,none⟩)) rfl (fun w _=>Y_idx (a:=act) (i:=(j:Int)) (len:=nct) (cap:=kct) rfl runUnderlying22 sizeOf3 kr kr e1) ?_
 refine wU [4,6,8,10,13,16] ?_
 refine wLd (I a0) 0 isAgg3 ?_
 refine wLd (.slice p.pix.a p.pix.n p.pix.k) 1 isAgg22 ?_
 refine wLd (I r.y0) 2 isAgg3 ?_
 refine wAdd r.y0 (i:Int) ?_
 refine wLd (I p.w) 3 isAgg3 ?_
 refine wMul (r.y0+(i:Int)) p.w ?_
 refine wLd (I r.x0) 4 isAgg3 ?_
 refine wAdd ((r.y0+(i:Int))*p.w) r.x0 ?_
 refine wAdd (((r.y0+(i:Int))*p.w)+r.x0) (j:Int) ?_
 refine wY (.pointer (some ⟨i2,j2,none⟩)) rfl (fun w _=>Y_idx (a:=p.pix.a) (i:=((((r.y0+(i:Int))*p.w)+r.x0)+(j:Int))) (len:=p.pix.n) (cap:=p.pix.k) rfl runUnderlying22 sizeOf3 kr kr f4) ?_
 refine wLd (I d0) 5 isAgg3 ?_
 refine wAdd a0 d0 ?_
 refine wY (.pointer (some ⟨c1,d1+j*1,none⟩)) rfl (fun w _=>Y_idx (a:=act) (i:=(j:Int)) (len:=nct) (cap:=kct) rfl runUnderlying22 sizeOf3 kr kr e1) ?_
 refine wO rfl ?_
 refine sStF g4 hOct g2 1 j 0 a0 (a0+d0) q0 (I (a0+d0)) [I (a0+d0)] sizeOf3 ?_
 intro _ h4 f1 m0
 refine nilO ⟨dA,?_⟩
 refine wN ?_
 refine tN<|seqE ?_
 have hcb2:a0+d0=colS p.v (r.x0+(j:Int)) r.y0 (i+1):=by rw [colS_succ,<-hcv,hpa]
 have hcb3:=col_bd hpo (r.x0+(j:Int)) r.y0 (n:=i+1) om;rw [<-hcb2] at hcb3
 refine rE<|pu3 ?_
 refine sIdxO f1 (j:Int) j runUnderlying22 sizeOf3 ?_
 intro f0 _ _ i4 j4 _
 have hce:f0=a0+d0:=by have h:=i4;rw [List.getElem?_set_self om] at h;exact (Option.some.inj h).symm
 refine sLp m0 (j4.up 1 rfl) 0 (I f0) (isAgg3 _) ?_
 refine sAdd sm f0 ?_
 refine pu1<|nT ?_
 have k4:=set_at (y:=(a0+d0)) q0
 have y5:=OwnT.ptr f1 g2 k4
 obtain ⟨b0,k2,l2,g1,i1,l4⟩:=RdT.elem hleft (i:Int)
 rw [Int.toNat_natCast] at g1
 have hlv:left.getD i 0=b0:=by rw [List.getD_eq_getElem?_getD,g1];rfl
 have hlb:0<=b0/\b0<=mostV p.w p.h p.max_:=of_decide_eq_true (hinA b0 (by have:=List.mem_of_getElem? g1;simp [this]))
 obtain ⟨c0,m2,n2,j1,k1,m4⟩:=RdT.elem htop (j:Int)
 rw [Int.toNat_natCast] at j1
 have htv:top.getD j 0=c0:=by rw [List.getD_eq_getElem?_getD,j1];rfl
 have htb:0<=c0/\c0<=mostV p.w p.h p.max_:=of_decide_eq_true (hinA c0 (by have:=List.mem_of_getElem? j1;simp [this]))
 refine drawE [15,16,18] [(1,⟨k0,3,none⟩, .slice azt nzt kzt),(5,⟨k2,l2,none⟩,I b0),(9,⟨m2,n2,none⟩,I c0)] [(true,[0,2,3]),(true,[4]),(true,[6,7]),(true,[8]),(true,[11,13]),(true,[1]),(true,[5]),(true,[9]),(true,[10]),(true,[12]),(true,[14]),(false,[15]),(false,[16]),(true,[17]),(false,[18])] rfl kr ⟨cI m0 3, .inr ((i1.up 7 rfl).cell m0 (k:=0) rfl), .inr ((k1.up 7 rfl).cell m0 (k:=0) rfl),trivial⟩ ?_
 have n4:=m0.drew
 refine wU [0,2,3] ?_
 refine wY (.pointer (some ⟨k2,l2,none⟩)) rfl (fun w _=>Y_idx (a:=aleft) (i:=(i:Int)) (len:=nleft) (cap:=kleft) rfl runUnderlying22 sizeOf3 kr kr l4) ?_
 refine wU [6,7] ?_
 refine wY (.pointer (some ⟨m2,n2,none⟩)) rfl (fun w _=>Y_idx (a:=atop) (i:=(j:Int)) (len:=ntop) (cap:=ktop) rfl runUnderlying22 sizeOf3 kr kr m4) ?_
 refine wU [11,13] ?_
 refine wLd (.slice azt nzt kzt) 0 isAgg22 ?_
 refine wLd (I b0) 1 isAgg3 ?_
 refine wLd (I c0) 2 isAgg3 ?_
 refine wAdd b0 c0 ?_
 refine wSub (b0+c0) corner ?_
 refine wAdd ((b0+c0)-corner) (sm+f0) ?_
 refine wO rfl ?_
 refine sBS n4 #[I (((b0+c0)-corner)+(sm+f0))] runUnderlying22 sizeOf3 zeroValue3 ?_
 intro _ _ r0
 refine nilO ⟨⟨cI r0 4, .inr ((i1.up 8 rfl).cell r0 (k:=0) rfl), .inr ((k1.up 8 rfl).cell r0 (k:=0) rfl),trivial⟩,?_⟩
 refine wO rfl ?_
 refine sApp (nb:=8) r0 hOzt 1 (RdT.blk (enc:=Go.E.encI) (sz:=1) (xs:=[(((b0+c0)-corner)+(sm+f0))]) fR 1 0 rfl rfl rfl om) underlying22 (i:=Try.t3) kr fR ?_
 intro o2 q2 o4 _ p4 l1
 refine nilO ⟨⟨dI, .inr ((i1.up 8 rfl).cell l1 (k:=0) rfl), .inr ((k1.up 8 rfl).cell l1 (k:=0) rfl),trivial⟩,?_⟩
 refine wU [17] ?_
 refine wO rfl ?_
 refine tW l1 4 3 (.slice o2 (nzt+1) q2) sizeOf22 ?_
 intro _ q4
 refine nilO ⟨dA,?_⟩
 refine wN ?_
 refine bN<|tN<|rE ?_
 refine sAdd (j:Int) 1 ?_
 refine pu1<|nT ?_
 exact ⟨(j+1,(sm+f0),(zt++[(((b0+c0)-corner)+(sm+f0))]),o2,(nzt+1),q2,o4,(ct.set j (a0+d0)),act,nct,kct,h4),od,alA,(q4.dropAt 0 rfl),om,(by rw [<-Nat.add_assoc,grid_succ om,<-hE2,hf];unfold itgX;simp only [Int.toNat_natCast];rw [hlv,htv,recS_succ,<-hsm,<-hcb2,hce]),(by rw [hct];exact mix_set hcb2),(by rw [recS_succ,<-hsm,<-hcb2,hce]),p4,f1⟩
end Go.Proofs.Ytmlhcafjelkjfaa
