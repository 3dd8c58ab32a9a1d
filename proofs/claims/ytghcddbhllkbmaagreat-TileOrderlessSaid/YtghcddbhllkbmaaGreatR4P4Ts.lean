import Derived.Test.YtghcddbhllkbmaaGreatR4P4Tn
namespace Go.Proofs.YtghcddbhllkbmaaGreat
open Go Go.E Go.Proofs.Tryz
set_option linter.all false
set_option maxRecDepth 100000
set_option maxHeartbeats 2000000
variable {W w:World} {H:Chunk} {F:List Chunk}
theorem addL_ln {a b:List Int} {n:Nat} (ha:a.length=n) (hb:b.length=n):(addL a b).length=n:=by unfold addL;rw [List.length_zipWith];omega
theorem addL_at {a b:List Int} {k:Nat} {x y:Int} (ha:a[k]?=some x) (hb:b[k]?=some y):(addL a b)[k]?=some (x+y):=by unfold addL;rw [List.getElem?_zipWith,ha,hb]
def addI (a b:List Int) (i:Nat):List Int:=addL a (b.take i++List.replicate (b.length-i) 0)
theorem addI_len {a b:List Int} {i n:Nat} (ha:a.length=n) (hb:b.length=n) (hi:i<=n):(addI a b i).length=n:=addL_ln ha (by rw [List.length_append,List.length_take,List.length_replicate];omega)
theorem addI_0 {a b:List Int} (h:a.length=b.length):addI a b 0=a:=by
  unfold addI addL
  rw [List.take_zero,List.nil_append,Nat.sub_zero,<-h]
  apply List.ext_getElem?
  intro k
  rw [List.getElem?_zipWith,List.getElem?_replicate]
  by_cases hk:k<a.length
  · rw [if_pos hk,List.getElem?_eq_getElem hk];simp
  · rw [List.getElem?_eq_none (by omega)]
theorem addI_n {a b:List Int} {i:Nat} (h:i=b.length):addI a b i=addL a b:=by subst h;unfold addI;rw [List.take_of_length_le (Nat.le_refl _),Nat.sub_self,List.replicate_zero,List.append_nil]
theorem addI_at {a b:List Int} {i:Nat} {x:Int} (h:a.length=b.length) (hx:(addI a b i)[i]?=some x):a[i]?=some x:=by
  unfold addI addL at hx
  rw [List.getElem?_zipWith] at hx
  by_cases hi:i<b.length
  · have e:(List.take i b++List.replicate (b.length-i) 0)[i]?=some 0:=(by rw [List.getElem?_append_right (by rw [List.length_take];omega),List.length_take,List.getElem?_replicate,if_pos (by omega)])
    rw [e] at hx
    cases h1:a[i]? with
    |none=>rw [h1] at hx;cases hx
    |some z=>rw [h1] at hx;simpa using hx
  · rw [List.getElem?_eq_none (l:=a) (by omega)] at hx;cases hx
theorem addI_set {a b:List Int} {i:Nat} {x v:Int} (h:a.length=b.length) (hx:(addI a b i)[i]?=some x) (hv:b[i]?=some v):(addI a b i).set i (x+v)=addI a b (i+1):=by
 have ha:=addI_at h hx
 have hi:i<b.length:=(List.getElem?_eq_some_iff.1 hv).1
 have hl:=addI_len (i:=i) h rfl om
 have d0:=addI_len (i:=i+1) h rfl om
 apply List.ext_getElem?
 intro k
 rw [List.getElem?_set]
 by_cases hk:k<b.length
 ·have b0:a[k]?=some (a[k]'om):=List.getElem?_eq_getElem om
  have c0:b[k]?=some b[k]:=List.getElem?_eq_getElem hk
  have a0:∀j,j<=b.length->(addI a b j)[k]?=some (a[k]'om+if k<j then b[k] else 0):=by
   intro j hj
   refine addL_at b0 ?_
   by_cases h1:k<j
   ·rw [List.getElem?_append_left (by rw [List.length_take];omega),List.getElem?_take,if_pos h1,c0,if_pos h1]
   ·rw [List.getElem?_append_right (by rw [List.length_take];omega),List.length_take,List.getElem?_replicate,if_pos om,if_neg h1]
  by_cases he:i=k
  ·subst he
   rw [if_pos rfl,if_pos om,a0 (i+1) om,if_pos om]
   rw [b0] at ha;rw [c0] at hv
   cases ha;cases hv;rfl
  ·rw [if_neg he,a0 i om,a0 (i+1) om]
   by_cases h2:k<i
   ·rw [if_pos h2,if_pos om]
   ·rw [if_neg h2,if_neg om]
 ·rw [List.getElem?_eq_none (l:=addI a b (i+1)) om,List.getElem?_eq_none (l:=addI a b i) om]
  split
  ·rw [if_neg om]
  ·rfl
theorem part_at {α:Type} {l:List α} {a b j:Nat} {x:α} (h:((l.drop a).take b)[j]?=some x):l[a+j]?=some x:=by
  rw [List.getElem?_take] at h
  split at h
  · rw [List.getElem?_drop] at h;exact h
  · cases h
def mrgT (l:List (List Int)):List Int×Int:=if mrgC l=0 then (mrgV l,0) else ([],mrgC l)
theorem mrgT_n {l:List (List Int)} {c:Int} (h:mrgC l=c) (hc:¬c=0):mrgT l=([],c):=by unfold mrgT;rw [if_neg (by omega),h]
theorem mrg_5 {l:List (List Int)} (h:l.length=0\/4096<l.length):mrgT l=([],5):=mrgT_n (by unfold mrgC;rw [if_pos h]) (by decide)
section
variable {l:List (List Int)} (h0:¬(l.length=0\/4096<l.length))
include h0
theorem mrg_8a (h:¬(1<=mrgN l/\mrgN l<=128)):mrgT l=([],8):=mrgT_n (by unfold mrgC;rw [if_neg h0,if_neg (fun k=>h k.1)]) (by decide)
theorem mrg_8b {i:Nat} {z:List Int} (hz:l[i]?=some z) (h:¬(z.length:Int)=mrgN l):mrgT l=([],8):=
  mrgT_n (by unfold mrgC;rw [if_neg h0,if_neg (fun k=>h (of_decide_eq_true (List.all_eq_true.1 k.2 z (List.mem_of_getElem? hz))))]) (by decide)
variable (h1:1<=mrgN l/\mrgN l<=128) (hA:l.all (fun z=>decide ((z.length:Int)=mrgN l))=true)
include h1 hA
theorem mrg_2 {i k:Nat} {z:List Int} {v:Int} (hz:l[i]?=some z) (hv:z[k]?=some v) (hb:¬(0<=v/\v<=4096)):mrgT l=([],2):=
  mrgT_n (by unfold mrgC;rw [if_neg h0,if_pos ⟨h1,hA⟩,if_neg (fun e=>inM_f hv hb (List.all_eq_true.1 e z (List.mem_of_getElem? hz)))]) (by decide)
variable (hM:l.all (fun z=>inM 4096 z)=true)
include hM
theorem mrg_3 {k:Nat} {v:Int} (hv:(mrgV l)[k]?=some v) (hb:4096<v):mrgT l=([],3):=
  mrgT_n (by unfold mrgC;rw [if_neg h0,if_pos ⟨h1,hA⟩,if_pos hM,if_neg (fun e=>by have h2:=of_decide_eq_true (List.all_eq_true.1 e v (List.mem_of_getElem? hv));omega)]) (by decide)
theorem mrg_0 (hS:(mrgV l).all (fun v=>decide (v<=4096))=true):mrgT l=(mrgV l,0):=by
  unfold mrgT;rw [if_pos]
  unfold mrgC;rw [if_neg h0,if_pos ⟨h1,hA⟩,if_pos hM,if_pos hS]
end
theorem addL_bd {a b:List Int} {A B:Int} (ha:∀z∈a,0<=z/\z<=A) (hb:∀z∈b,0<=z/\z<=B):∀z∈addL a b,0<=z/\z<=A+B:=by
  intro z hz
  obtain ⟨k,hk,rfl⟩:=List.mem_iff_getElem.1 hz
  unfold addL at hk⊢
  rw [List.getElem_zipWith]
  rw [List.length_zipWith] at hk
  have h1:=ha a[k] (List.getElem_mem (by omega));have h2:=hb b[k] (List.getElem_mem (by omega))
  omega
theorem all_map_take {α β:Type} {f:α->β} {p:β->Bool} {l:List α} {i:Nat} (h:((l.take i).map f).all p=true) (hi:l.length<=i):(l.map f).all p=true:=by rw [List.take_of_length_le hi] at h;exact h
theorem mrgN_at {ms:List IL} {x:IL} (hx:ms[0]?=some x):mrgN (ms.map (fun z=>z.l.l))=(x.l.l.length:Int):=by unfold mrgN;rw [List.getElem?_map,hx];rfl
def addsV (l:List (List Int)) (n:Int):List Int:=l.foldl addL (List.replicate n.toNat 0)
theorem adds_succ {ms:List IL} {n:Int} {i:Nat} {x:IL} (hx:ms[i]?=some x):addsV ((ms.take (i+1)).map (fun z=>z.l.l)) n=addL (addsV ((ms.take i).map (fun z=>z.l.l)) n) x.l.l:=by
  unfold addsV;rw [List.take_add_one,hx,Option.toList_some,List.map_append,List.foldl_append];rfl
theorem all_succM {ms:List IL} {p:List Int->Bool} {i:Nat} {x:IL} (h:((ms.take i).map (fun z=>z.l.l)).all p=true) (hx:ms[i]?=some x) (hp:p x.l.l=true):((ms.take (i+1)).map (fun z=>z.l.l)).all p=true:=by
  rw [List.take_add_one,hx,Option.toList_some,List.map_append,List.all_append,h];simp [hp]
def chkI (p:PlaneV):Int×Int:=if planeOK p=true then (if mostOK p.w p.h p.max_=true then (mostV p.w p.h p.max_,0) else (0,11)) else (0,1)
theorem most_bd {w h m:Int} (e:mostOK w h m=true):1<=mostV w h m/\mostV w h m<=4294967296/\mostV w h m=w*h*m:=by
  have h0:=of_decide_eq_true e
  have hv:mostV w h m=w*h*m:=by unfold mostV;rw [if_pos e]
  have h1:=Int.mul_le_mul (show (1:Int)<=w by omega) (show (1:Int)<=h by omega) (by omega) (by omega)
  have h2:=Int.mul_le_mul (show (1:Int)<=w*h by omega) (show (1:Int)<=m by omega) (by omega) (by omega)
  omega
theorem add_bdI {zs b zt:List Int} {i u:Nat} (e:zt=addI zs b u) (hu:u=b.length) (hB:∀z∈zs,0<=z/\z<=4096*(i:Int)) (h:(b.take u).all (fun v=>decide (0<=v/\v<=4096))=true):∀z∈zt,0<=z/\z<=4096*((i+1:Nat):Int):=by
  rw [e,addI_n hu]
  rw [List.take_of_length_le (by omega)] at h
  have h2:=addL_bd hB (B:=4096) (fun z hz=>of_decide_eq_true (List.all_eq_true.1 h z hz))
  intro z hz;have:=h2 z hz;push_cast;omega
theorem inM3 {m c:Int} {l t:List Int}:inM m (c::l++t)=true↔inM m [c]=true/\inM m l=true/\inM m t=true:=by unfold inM;simp [and_assoc]
theorem col_bd {p:PlaneV} (h:planeOK p=true) (x y:Int) {n:Nat} (hn:n<=128):0<=colS p x y n/\colS p x y n<=549755813888:=by
  have h1:=rec_bd h x y 1 n
  have e:recS p x y 1 n=colS p x y n:=by rw [recS_succ];unfold recS;rw [sumN_zero];simp
  rw [e] at h1
  have h2:=pix_mx h
  have h3:=Int.mul_le_mul (show p.max_<=4294967296 by omega) (show (n:Int)<=128 by omega) (by omega) (by omega)
  have h5:p.max_*(n:Int)*((1:Nat):Int)=p.max_*(n:Int):=by simp
  omega
theorem rec_bd9 {p:PlaneV} (h:planeOK p=true) (x y:Int) {i j:Nat} (hi:i<=128) (hj:j<=128):0<=recS p x y i j/\recS p x y i j<=70368744177664:=by
  have h1:=rec_bd h x y i j
  have h2:=pix_mx h
  have h3:=Int.mul_le_mul (show p.max_<=4294967296 by omega) (show (j:Int)<=128 by omega) (by omega) (by omega)
  have h4:=Int.mul_le_mul (show p.max_*(j:Int)<=4294967296*128 from h3) (show (i:Int)<=128 by omega) (by omega) (by omega)
  omega
theorem p12_bin (v:Int) (m:Int) (n:Int) (hS:Sat W w (H::F)):
  Ro prog 87 #[I v,I m,I n] (I (binV v m n)) W w (H::F):=by
 exact callsK 36 func87 rfl<|jCO 11 rfl<|sD 9 (m<1) (fun a0=>jOR 30 rfl<|retT [I 0]<|⟨by unfold binV;rw [if_neg om];rfl,hS⟩) fun a0=>pu4<|sD 13 (m>4294967296) (fun b0=>jOR 26 rfl<|retT [I 0]<|⟨by unfold binV;rw [if_neg om];rfl,hS⟩) fun b0=>pu4<|sD 17 (v<0) (fun c0=>jOR 22 rfl<|retT [I 0]<|⟨by unfold binV;rw [if_neg om];rfl,hS⟩) fun c0=>pu5<|sD 22 (v>m) (fun d0=>jOR 17 rfl<|retT [I 0]<|⟨by unfold binV;rw [if_neg om];rfl,hS⟩) fun d0=>pu4<|sD 26 (n<1) (fun e0=>jOR 13 rfl<|retT [I 0]<|⟨by unfold binV;rw [if_neg om];rfl,hS⟩) fun e0=>jOC 5 rfl<|cD (n>128) (fun f0=>jCR 7 rfl<|retT [I 0]<|⟨by unfold binV;rw [if_neg om];rfl,hS⟩) fun f0=>jCC 3 rfl<|(by have g0:=mul_bd (a:=v) (b:=n) (A:=4294967296) (B:=128) om om;have ht:(v*n).tdiv (m+1)=v*n/(m+1):=Int.tdiv_eq_ediv_of_nonneg (Int.mul_nonneg om om);have hd:=tdiv_bd (a:=v*n) (b:=m+1) (A:=549755813888) om om;exact jCO 3 rfl<|sMul v n<|pu1<|sAdd m 1<|sQuo (v*n) (m+1)<|jOR 4 rfl<|retT [I ((v*n).tdiv (m+1))]<|⟨congrArg (fun z=>Ending.returned (I z)) (by unfold binV;rw [if_pos om];exact ht),hS⟩)
theorem p12_partial (p:Plane) (bins:Int) (r:Rct) (hp:Plane.Ok [H] p) (hS:Sat W w (H::F)):
  Calls prog 49 #[.agg (encPlane p).toArray,I bins, .agg (encRct r).toArray] w fun e w'=>∃(az:Option Addr) (nz kz:Nat) (zs:List Int) (c:Int) (G:Chunk),e= .returned (.tuple #[.slice az nz kz,I c])/\RdT Go.E.encI 1 [G] az nz kz zs/\(zs,c)=(partV p.v bins r,partC p.v bins r)/\Sat W w' (G::H::F):=by
 have I0:=hp.pix.le;have v0:=hp.pix.len
 refine callsK 77 func49 rfl<|jCO 2 rfl<|sBx hS (encPlane p) fun _ _ q0=>sBx q0 (encRct r) fun _ _ k0=>gOO k0 8 [401] rfl<|cS (p4_valid p ⟨(hp.pix.fl 2)⟩ k0.flat) fun _ e0=>jOC 3 rfl<|CBn (planeOK p.v) (fun c0=>jCR 8 rfl<|retT [nS,I 1]<|(by have hC:partC p.v bins r=1:=(by unfold partC;rw [if_neg c0]);have r0:=(e0.drops [0,0]);exact ⟨none,0,0,[],1,_,rfl,rN,(by unfold partV;rw [hC];rfl),(Sat.nilc r0)⟩)) fun c0=>jCO 8 rfl<|sD 17 (bins<1) (fun t0=>jOR 14 rfl<|retT [nS,I 9]<|(by have hC:partC p.v bins r=9:=(by unfold partC;rw [if_pos c0,if_neg om]);have u0:=(e0.drops [0,0]);exact ⟨none,0,0,[],9,_,rfl,rN,(by unfold partV;rw [hC];rfl),(Sat.nilc u0)⟩)) fun t0=>jOC 5 rfl<|cD (bins>128) (fun w0=>jCR 8 rfl<|retT [nS,I 9]<|(by have hC:partC p.v bins r=9:=(by unfold partC;rw [if_pos c0,if_neg om]);have z0:=(e0.drops [0,0]);exact ⟨none,0,0,[],9,_,rfl,rN,(by unfold partV;rw [hC];rfl),(Sat.nilc z0)⟩)) fun w0=>gCO e0 6 [400] rfl<|cS (p2_empty r e0.flat) fun _ h0=>pu1<|sD 23 (r.x0=0/\r.y0=0/\r.x1=0/\r.y1=0) (fun i0=>jOR 20 rfl<|retT [nS,I 8]<|(by have A0:=(plane_sz c0).1;unfold sizeP at A0;simp only [Plane.v] at A0;have hC:partC p.v bins r=8:=(by unfold partC;rw [if_pos c0,if_pos om,if_neg (fun h=>by have h2:=(ins_in (by simp only [Plane.v];omega) (by simp only [Plane.v];omega)).2 h;exact h2.1 i0)]);have b1:=(h0.drops [0,0]);exact ⟨none,0,0,[],8,_,rfl,rN,(by unfold partV;rw [hC];rfl),(Sat.nilc b1)⟩)) fun i0=>?_
 refine gOO h0 6 [400,1,1] rfl<|gY<|cS (p2_inside r (⟨0,0,p.w,p.h⟩:Rct) h0.flat) fun _ l0=>jOC 4 rfl<|CDn (insP r (⟨0,0,p.w,p.h⟩:Rct)) (fun j0=>jCR 8 rfl<|retT [nS,I 8]<|(by have A0:=(plane_sz c0).1;unfold sizeP at A0;simp only [Plane.v] at A0;have hC:partC p.v bins r=8:=(by unfold partC;rw [if_pos c0,if_pos om,if_neg (fun h=>by have h2:=(ins_in (by simp only [Plane.v];omega) (by simp only [Plane.v];omega)).2 h;exact j0 h2.2)]);have d1:=(l0.drops [0,0]);exact ⟨none,0,0,[],8,_,rfl,rN,(by unfold partV;rw [hC];rfl),(Sat.nilc d1)⟩)) fun j0=>jCC 3 rfl ?_
 have M0:planeOK p.v=true:=c0;have A0:=(plane_sz M0).1;unfold sizeP at A0;simp only [Plane.v] at A0;have N0:rIn r p.w p.h:=(ins_in om om).1 ⟨i0,j0⟩
 have O0:=N0;unfold rIn at O0
 obtain ⟨Wn,hW⟩:∃k:Nat,r.x1-r.x0=(k:Int):=⟨_,(Int.toNat_of_nonneg om).symm⟩;obtain ⟨Hn,hH⟩:∃k:Nat,r.y1-r.y0=(k:Int):=⟨_,(Int.toNat_of_nonneg om).symm⟩
 have Z0:1<=Wn/\Wn<=128/\1<=Hn/\Hn<=128:=om;have Y0:Hn*Wn<=4096:=by have h1:=rIn_area N0 (by first|omega|assumption);rw [hW,hH] at h1;have h2:((Hn*Wn:Nat):Int)=(Wn:Int)*(Hn:Int):=(by push_cast;rw [Int.mul_comm]);omega
 have R0:(r.x1-r.x0)*(r.y1-r.y0)=((Hn*Wn:Nat):Int):=by rw [hW,hH];push_cast;rw [Int.mul_comm]
 have U0:p.v.pix.length=p.pix.n:=v0
 have c1:(bins.toNat:Int)=bins:=Int.toNat_of_nonneg om
 refine jCO 2 rfl<|sMake (kl:= .i64) (kc:= .i64) (enc:=Go.E.encI) (sz:=1) (nb:=8) l0 0 (bins).toNat bins (om:bins=(((bins).toNat:Nat):Int)) underlying22 (i:=Tryz.t3) kr fR fun f1 g1 _ i1 m0=>gOC m0 12 [1] rfl<|loopF [1,3,5] (γ:=Nat×Int×(List Int)×SO) (fun ⟨i,yy,zs,C0,E0,D0,G0⟩ R=>⟨[(9,I yy),(8, .slice C0 E0 D0)],G0::R,Hn-i,i<=Hn/\(yy=r.y0+(i:Int))/\(zs=cntV p.v bins r (i*Wn))/\OwnT Go.E.encI 3 1 C0 E0 D0 zs G0⟩) (0,r.y0,(List.replicate (bins).toNat 0),(At f1 0),(bins).toNat,(bins).toNat,g1) ⟨m0,om,om,(by rw [Nat.zero_mul];rfl),i1⟩ ?_
 rintro ⟨i,yy,zs,C0,E0,D0,G0⟩ ρ _ ⟨d0,hi,V0,hE,B0⟩
 have P0:=B0.ll
 have k1:zs.length=bins.toNat:=by rw [hE];exact cnt_len _ _ _ _
 refine gCC d0 9 [1] rfl<|CD (yy<r.y1) (fun j1=>jCR 13 rfl<|retT [.slice C0 E0 D0,I 0]<|(by have hC:partC p.v bins r=0:=(by unfold partC;rw [if_pos M0,if_pos om,if_pos (show rIn r p.v.w p.v.h from N0)]);exact ⟨C0,E0,D0,zs,0,_,rfl,(B0.rdAt (cs:=[G0]) 0 rfl),(by unfold partV;rw [hC,if_pos rfl,hE,show areaN r=i*Wn from by unfold areaN;rw [R0,Int.toNat_natCast,show i=Hn by omega]]),(d0.drops [1,1])⟩)) fun j1=>jCC 5 rfl ?_
 have hix:=pl_ix M0 (x:=r.x1-1) (y:=yy) (by simp only [Plane.v];omega) (by simp only [Plane.v];omega);rw [U0] at hix;simp only [Plane.v] at hix;have X0:(yy*p.w+r.x1).toNat-(yy*p.w+r.x0).toNat=Wn:=by omega
 refine gCO d0 6 [2,2] rfl<|sMul yy p.w<|gOO d0 2 [1] rfl<|sAdd (yy*p.w) r.x0<|gOO d0 3 [2] rfl<|sMul yy p.w<|gOO d0 2 [1] rfl<|sAdd (yy*p.w) r.x1<|sSl (some ((yy*p.w)+r.x0)) (some ((yy*p.w)+r.x1)) ((((yy*p.w)+r.x0)).toNat) ((((yy*p.w)+r.x1)).toNat) runUnderlying22 sizeOf3 ⟨om,om⟩ ⟨om,om⟩ om om ?_ (a:=p.pix.a) (len:=p.pix.n) (cap:=p.pix.k)
 have l1:=hp.pix.part (lo:=(((yy*p.w)+r.x0)).toNat) (hi:=(((yy*p.w)+r.x1)).toNat) om om
 refine jOC 5 rfl<|loopF [1,3,5,9,59,60] (γ:=Nat×(List Int)×SO) (fun ⟨j,zt,F0,K0,J0,L0⟩ R=>⟨[(61,I (j:Int)),(8, .slice F0 K0 J0)],L0::R,Wn-j,j<=Wn/\(zt=cntV p.v bins r (i*Wn+j))/\OwnT Go.E.encI 3 1 F0 K0 J0 zt L0⟩) (0,zs,C0,E0,D0,G0) ⟨d0,om,(by rw [Nat.add_zero];exact hE),B0⟩ ?_
 rintro ⟨j,zt,F0,K0,J0,L0⟩ ρ _ ⟨f0,hj,H0,s0⟩
 have Q0:=s0.ll
 have W0:zt.length=bins.toNat:=by rw [H0];exact cnt_len _ _ _ _
 have e1:i*Wn+j<=Hn*Wn:=by have h1:=Nat.mul_le_mul_right Wn (show i+1<=Hn by omega);rw [Nat.add_mul,Nat.one_mul] at h1;omega
 refine jCC 6 rfl<|CD ((j:Int)<((((((yy*p.w)+r.x1)).toNat-((((yy*p.w)+r.x0)).toNat)):Nat):Int)) (fun m1=>jCO 8 rfl<|sAdd yy 1<|jOI 2 rfl<|⟨(i+1,(yy+1),zt,F0,K0,J0,L0),od,alB,f0,om,om,(by rw [Nat.add_mul,Nat.one_mul,H0,show j=Wn by omega]),s0⟩) fun m1=>jCO 6 rfl<|sIN l1 j fun a0 _ _ n0 n1=>?_
 have T0:pixAt p.v (r.x0+(j:Int)) (r.y0+(i:Int))=a0:=(by have h:=part_at n0;refine pixAt_eq ?_;rw [<-V0,<-h];simp only [Plane.v];congr 1;rw [Int.add_comm r.x0,<-Int.add_assoc];omega)
 refine sMp f0 (n1.up 3 rfl) 0 (I a0)<|gOO f0 9 [2] rfl<|cS (p12_bin a0 p.max_ bins f0.flat) fun _ o0=>?_
 have a1:=bin_bd (v:=a0) (mx:=p.max_) (bins:=bins) om
 refine sIO s0 (binV a0 p.max_ bins) ((binV a0 p.max_ bins)).toNat fun b0 _ _ p0 o1 _=>?_
 have S0:=cnt_bd (p:=p.v) (bins:=bins) (r:=r) (i*Wn+j) b0 (by rw [<-H0];exact List.mem_of_getElem? p0)
 refine sMp o0 (o1.up 0 rfl) 0 (I b0)<|sAdd b0 1<|sIO s0 (binV a0 p.max_ bins) ((binV a0 p.max_ bins)).toNat fun q1 _ _ g0 _ r1=>?_
 obtain rfl:b0=q1:=Option.some.inj (p0.symm.trans g0)
 have S0:=cnt_bd (p:=p.v) (bins:=bins) (r:=r) (i*Wn+j) b0 (by rw [<-H0];exact List.mem_of_getElem? g0)
 exact sStF o0 s0 r1 0 ((binV a0 p.max_ bins)).toNat 0 b0 (b0+1) g0 (I (b0+1)) [I (b0+1)] sizeOf3 fun _ s1 t1 u1=>jOO 4 rfl<|sAdd (j:Int) 1<|jOI 2 rfl<|⟨(j+1,(zt.set (((binV a0 p.max_ bins)).toNat) (b0+1)),F0,K0,J0,s1),od,alB,u1,om,(by rw [<-Nat.add_assoc,cnt_succ hW om,T0,<-H0];exact inc_set g0),t1⟩
theorem p12_merge (al:Option Addr) (nl kl:Nat) (l:List IL) (hl:RdT encIL 1 [H] al nl kl l) (dl:∀z∈l,IL.Ok [H] z) (hS:Sat W w (H::F)):
  Calls prog 88 #[.slice al nl kl] w fun e w'=>∃(az:Option Addr) (nz kz:Nat) (zs:List Int) (c:Int) (G:Chunk),e= .returned (.tuple #[.slice az nz kz,I c])/\RdT Go.E.encI 1 [G] az nz kz zs/\(zs,c)=mrgT (l.map (fun z=>z.l.l))/\Sat W w' (G::H::F):=by
 have Y0:=hl.ll
 refine callsK 83 func88 rfl<|jCO 13 rfl<|sE 17 (nl:Int) 0 (fun r0=>jOR 15 rfl<|retT [nS,I 5]<|⟨none,0,0,[],5,_,rfl,rN,(mrg_5 (by rw [List.length_map];omega)).symm,(Sat.nilc hS)⟩) fun r0=>jOC 6 rfl<|cD ((nl:Int)>4096) (fun t0=>jCR 8 rfl<|retT [nS,I 5]<|⟨none,0,0,[],5,_,rfl,rN,(mrg_5 (by rw [List.length_map];omega)).symm,(Sat.nilc hS)⟩) fun t0=>jCO 5 rfl<|sII hl 0 fun a0 _ _ j0 v0=>?_
 have A0:=(dl a0 (List.mem_of_getElem? j0)).l.len;have Q0:=(dl a0 (List.mem_of_getElem? j0)).l.le;have R0:(l.map (fun z=>z.l.l))[0]?=some a0.l.l:=map_at (f:=fun z:IL=>z.l.l) j0
 have Z0:mrgN (l.map (fun z=>z.l.l))=(a0.l.n:Int):=by rw [mrgN_at j0,A0]
 have C0:¬((l.map (fun z=>z.l.l)).length=0\/4096<(l.map (fun z=>z.l.l)).length):=by rw [List.length_map];omega
 refine sMp hS (v0.up 0 rfl) 0 (.slice a0.l.a a0.l.n a0.l.k)<|jOO 10 rfl<|sD 28 ((a0.l.n:Int)<1) (fun w0=>jOR 14 rfl<|retT [nS,I 8]<|⟨none,0,0,[],8,_,rfl,rN,(mrg_8a C0 om).symm,(Sat.nilc hS)⟩) fun w0=>jOC 5 rfl<|cD ((a0.l.n:Int)>128) (fun y0=>jCR 8 rfl<|retT [nS,I 8]<|⟨none,0,0,[],8,_,rfl,rN,(mrg_8a C0 om).symm,(Sat.nilc hS)⟩) fun y0=>jCC 4 rfl ?_
 have P0:1<=mrgN (l.map (fun z=>z.l.l))/\mrgN (l.map (fun z=>z.l.l))<=128:=by omega
 refine jCC 7 rfl<|loopF [0,4,32,33] (γ:=Nat) (fun i R=>⟨[(34,I (i:Int))],R,nl-i,i<=nl/\(((l.take i).map (fun z=>z.l.l)).all (fun z=>decide (z.length=mrgN (l.map (fun z=>z.l.l))))=true)⟩) 0 ⟨hS,om,by rfl⟩ ?_
 rintro i ρ _ ⟨k0,hi,T0⟩
 refine jCC 6 rfl<|cD ((i:Int)<(nl:Int)) (fun a1=>jCO 6 rfl<|sIN hl i fun e0 _ _ h0 b1=>(by have K0:=(dl e0 (List.mem_of_getElem? h0)).l.len;have I0:=(dl e0 (List.mem_of_getElem? h0)).l.le;have x0:(l.map (fun z=>z.l.l))[i]?=some e0.l.l:=map_at (f:=fun z:IL=>z.l.l) h0;exact sMp k0 (b1.up 0 rfl) 0 (.slice e0.l.a e0.l.n e0.l.k)<|jOC 11 rfl<|cN (e0.l.n:Int) (a0.l.n:Int) (fun c1=>jCO 4 rfl<|sAdd (i:Int) 1<|jOI 2 rfl<|⟨i+1,od,alB,k0,om,all_succM T0 h0 (decide_eq_true om)⟩) fun c1=>jCR 12 rfl<|retT [nS,I 8]<|⟨none,0,0,[],8,_,rfl,rN,(mrg_8b C0 x0 om).symm,(Sat.nilc k0)⟩)) fun a1=>jCC 6 rfl ?_
 have hA:(l.map (fun z=>z.l.l)).all (fun z=>decide (z.length=mrgN (l.map (fun z=>z.l.l))))=true:=all_map_take T0 om
 refine jCO 2 rfl<|sMake (kl:= .i64) (kc:= .i64) (enc:=Go.E.encI) (sz:=1) (nb:=8) k0 0 a0.l.n (a0.l.n:Int) (rfl:(a0.l.n:Int)=(a0.l.n:Int)) underlying22 (i:=Tryz.t3) kr fR fun e1 f1 _ g1 h1=>jOC 12 rfl<|loopF [45,46] (γ:=Nat×(List Int)×SO) (fun ⟨i,zs,D0,B0,E0,G0⟩ R=>⟨[(47,I (i:Int)),(7, .slice D0 B0 E0)],G0::R,nl-i,i<=nl/\(zs=addsV ((l.take i).map (fun z=>z.l.l)) (mrgN (l.map (fun z=>z.l.l))))/\(∀z∈zs,0<=z/\z<=4096*(i:Int))/\(((l.take i).map (fun z=>z.l.l)).all (fun z=>inM 4096 z)=true)/\((zs.length:Int)=mrgN (l.map (fun z=>z.l.l)))/\OwnT Go.E.encI 3 1 D0 B0 E0 zs G0⟩) (0,(List.replicate a0.l.n 0),(At e1 0),a0.l.n,a0.l.n,f1) ⟨h1,om,(by unfold addsV;rw [List.take_zero,List.map_nil,List.foldl_nil,Z0];rfl),(by intro z hz;have:=List.eq_of_mem_replicate hz;omega),by rfl,(by rw [List.length_replicate];omega),g1⟩ ?_
 rintro ⟨i,zs,D0,B0,E0,G0⟩ ρ _ ⟨n0,hi,hE,hB,V0,u1,z0⟩
 have W0:=z0.ll
 refine jCC 6 rfl<|CD ((i:Int)<(nl:Int)) (fun i1=>jCC 7 rfl<|(by have U0:(l.map (fun z=>z.l.l)).all (fun z=>inM 4096 z)=true:=all_map_take V0 om;have hV:zs=mrgV (l.map (fun z=>z.l.l)):=(by rw [hE,List.take_of_length_le om];rfl);refine jCC 7 rfl<|loopF [7,73,74] (γ:=Nat) (fun k R=>⟨[(75,I (k:Int))],R,B0-k,k<=B0/\((zs.take k).all (fun v=>decide (v<=4096))=true)⟩) 0 ⟨n0,om,by rfl⟩ ?_;rintro k ρ _ ⟨l0,hk,hk9⟩;exact jCC 6 rfl<|CD ((k:Int)<(B0:Int)) (fun j1=>jCR 13 rfl<|retT [.slice D0 B0 E0,I 0]<|⟨D0,B0,E0,zs,0,_,rfl,(z0.rdAt (cs:=[G0]) 0 rfl),(by rw [mrg_0 C0 P0 hA U0 (by rw [<-hV];exact all_of_take hk9 om),<-hV]),l0⟩) fun j1=>jCO 6 rfl<|sIO z0 (k:Int) k fun o0 _ _ p0 k1 _=>sMp l0 (k1.up 0 rfl) 0 (I o0)<|jOC 9 rfl<|CD (o0>4096) (fun l1=>jCO 4 rfl<|sAdd (k:Int) 1<|jOI 2 rfl<|⟨k+1,od,alB,l0,om,all_succ hk9 p0 (decide_eq_true om)⟩) fun l1=>jCR 12 rfl<|retT [nS,I 3]<|(by have m1:=(l0.dropAt 0 rfl);exact ⟨none,0,0,[],3,_,rfl,rN,(mrg_3 C0 P0 hA U0 (by rw [<-hV];exact p0) om).symm,(Sat.nilc m1)⟩))) fun i1=>?_
 refine jCO 6 rfl<|sIN hl i fun b0 _ _ f0 o1=>?_
 have L0:=(dl b0 (List.mem_of_getElem? f0)).l.len;have J0:=(dl b0 (List.mem_of_getElem? f0)).l.le;have s0:(l.map (fun z=>z.l.l))[i]?=some b0.l.l:=map_at (f:=fun z:IL=>z.l.l) f0
 have n1:(b0.l.n:Int)=(a0.l.n:Int):=by have h:=of_decide_eq_true (List.all_eq_true.1 hA _ (List.mem_of_getElem? s0));omega
 refine sMp n0 (o1.up 1 rfl) 0 (.slice b0.l.a b0.l.n b0.l.k)<|jOC 11 rfl<|loopF [45,46,47,51,52] (γ:=Nat×(List Int)×SO) (fun ⟨u,zt,F0,N0,M0,O0⟩ R=>⟨[(53,I (u:Int)),(7, .slice F0 N0 M0)],O0::R,b0.l.n-u,u<=b0.l.n/\(zt=addI zs b0.l.l u)/\((b0.l.l.take u).all (fun v=>decide (0<=v/\v<=4096))=true)/\(zt.length=zs.length)/\OwnT Go.E.encI 3 1 F0 N0 M0 zt O0⟩) (0,zs,D0,B0,E0,G0) ⟨n0,om,(addI_0 om).symm,by rfl,by rfl,z0⟩ ?_
 rintro ⟨u,zt,F0,N0,M0,O0⟩ ρ _ ⟨g0,hu,H0,hu,S0,u0⟩
 have X0:=u0.ll
 refine jCC 6 rfl<|CD ((u:Int)<(b0.l.n:Int)) (fun q1=>jCO 7 rfl<|sAdd (i:Int) 1<|jOI 2 rfl<|⟨(i+1,zt,F0,N0,M0,O0),od,alB,g0,om,(by rw [adds_succ f0,<-hE,H0];exact addI_n om),(add_bdI H0 om hB hu),all_succM V0 f0 (by unfold inM;rw [List.take_of_length_le om] at hu;exact hu),om,u0⟩) fun q1=>jCO 7 rfl<|sII (dl b0 (List.mem_of_getElem? f0)).l (u:Int) fun d0 _ _ i0 r1=>?_
 rw [Int.toNat_natCast] at i0
 refine sMp g0 (r1.up 1 rfl) 0 (I d0)<|jOO 10 rfl<|sD 60 (d0<0) (fun s1=>jOR 23 rfl<|retT [nS,I 2]<|(by have t1:=(g0.dropAt 0 rfl);exact ⟨none,0,0,[],2,_,rfl,rN,(mrg_2 C0 P0 hA s0 i0 om).symm,(Sat.nilc t1)⟩)) fun s1=>jOC 5 rfl<|cD (d0>4096) (fun v1=>jCR 17 rfl<|retT [nS,I 2]<|(by have w1:=(g0.dropAt 0 rfl);exact ⟨none,0,0,[],2,_,rfl,rN,(mrg_2 C0 P0 hA s0 i0 om).symm,(Sat.nilc w1)⟩)) fun v1=>jCO 5 rfl<|sIO u0 (u:Int) u fun c0 _ _ q0 y1 _=>?_
 have d1:=hB c0 (List.mem_of_getElem? (addI_at (b:=b0.l.l) om (by rw [<-H0];exact q0)))
 refine sMp g0 (y1.up 0 rfl) 0 (I c0)<|pu1<|sAdd c0 d0<|sIO u0 (u:Int) u fun z1 _ _ m0 _ a2=>?_
 obtain rfl:c0=z1:=Option.some.inj (q0.symm.trans m0)
 have d1:=hB c0 (List.mem_of_getElem? (addI_at (b:=b0.l.l) om (by rw [<-H0];exact m0)))
 exact sStF g0 u0 a2 0 u 0 c0 (c0+d0) m0 (I (c0+d0)) [I (c0+d0)] sizeOf3 fun _ b2 c2 d2=>jOO 4 rfl<|sAdd (u:Int) 1<|jOI 2 rfl<|⟨(u+1,(zt.set u (c0+d0)),F0,N0,M0,b2),od,alB,d2,om,(by have h:=m0;rw [H0] at h⊢;exact addI_set om h i0),all_succ hu i0 (decide_eq_true om),(by rw [List.length_set];exact S0),c2⟩
theorem p13_checked (p:Plane) (hp:Plane.Ok [H] p) (hS:Sat W w (H::F)):
  Ro prog 166 #[.agg (encPlane p).toArray] (.tuple #[I ((chkI p.v).1),I ((chkI p.v).2)]) W w (H::F):=by
 have f0:=hp.pix.ll
 exact callsK 23 func166 rfl<|jCO 2 rfl<|sBx hS (encPlane p) fun _ _ d0=>gOO d0 8 [400] rfl<|cS (p4_valid p ⟨(hp.pix.fl 1)⟩ d0.flat) fun _ b0=>jOC 3 rfl<|CBn (planeOK p.v) (fun a0=>jCR 8 rfl<|retT [I 0,I 1]<|⟨by rw [show chkI p.v=(0,1) from by unfold chkI;rw [if_neg a0]];rfl,(b0.dropAt 0 rfl)⟩) fun a0=>gCO b0 11 [0,0,0] rfl<|cS (p13_most (⟨p.w,p.h,p.max_⟩:Shape) b0.flat) fun _ e0=>jOC 14 rfl<|CBn (mostOK (⟨p.w,p.h,p.max_⟩:Shape).w (⟨p.w,p.h,p.max_⟩:Shape).h (⟨p.w,p.h,p.max_⟩:Shape).max_) (fun c0=>jCR 8 rfl<|retT [I 0,I 11]<|⟨by rw [show chkI p.v=(0,11) from by unfold chkI;rw [if_pos a0,if_neg (show ¬mostOK p.v.w p.v.h p.v.max_=true from c0)]];rfl,(e0.dropAt 0 rfl)⟩) fun c0=>jCR 10 rfl<|retT [I (mostV (⟨p.w,p.h,p.max_⟩:Shape).w (⟨p.w,p.h,p.max_⟩:Shape).h (⟨p.w,p.h,p.max_⟩:Shape).max_),I 0]<|⟨by rw [show chkI p.v=((mostV (⟨p.w,p.h,p.max_⟩:Shape).w (⟨p.w,p.h,p.max_⟩:Shape).h (⟨p.w,p.h,p.max_⟩:Shape).max_),0) from by unfold chkI;rw [if_pos a0,if_pos (show mostOK p.v.w p.v.h p.v.max_=true from c0)];rfl];rfl,(e0.dropAt 0 rfl)⟩
theorem p13_outside (m:Int) (al:Option Addr) (nl kl:Nat) (l:List Int) (hl:RdT Go.E.encI 1 [H] al nl kl l) (hS:Sat W w (H::F)):
  Ro prog 167 #[I m, .slice al nl kl] (.bool (!(inM m l))) W w (H::F):=by
 have h0:=hl.ll
 refine callsK 21 func167 rfl<|jCC 14 rfl<|loopF [0,7,8] (γ:=Nat) (fun i R=>⟨[(9,I (i:Int))],R,nl-i,i<=nl/\((l.take i).all (fun v=>decide (0<=v/\v<=m))=true)⟩) 0 ⟨hS,om,by rfl⟩ ?_
 rintro i ρ _ ⟨a0,hi,hE⟩
 exact jCC 6 rfl<|CD ((i:Int)<(nl:Int)) (fun d0=>jCR 11 rfl<|retT [.bool false]<|⟨rB (by rw [show inM m l=true from all_of_take hE om];rfl),a0⟩) fun d0=>jCO 6 rfl<|sIN hl i fun c0 _ _ b0 e0=>sMp a0 (e0.up 0 rfl) 0 (I c0)<|jOO 8 rfl<|sD 15 (c0<0) (fun f0=>jOR 18 rfl<|retT [.bool true]<|⟨rB (by rw [Bool.eq_iff_iff];have h:=inM_f (m:=m) b0 om;simp [h]),a0⟩) fun f0=>jOC 6 rfl<|CD (c0>m) (fun g0=>jCO 4 rfl<|sAdd (i:Int) 1<|jOI 2 rfl<|⟨i+1,od,alB,a0,om,all_succ hE b0 (decide_eq_true om)⟩) fun g0=>jCR 11 rfl<|retT [.bool true]<|⟨rB (by rw [Bool.eq_iff_iff];have h:=inM_f (m:=m) b0 om;simp [h]),a0⟩
theorem p13_tile (p:Plane) (r:Rct) (aleft:Option Addr) (nleft kleft:Nat) (left:List Int) (atop:Option Addr) (ntop ktop:Nat) (top:List Int) (corner:Int) (hp:Plane.Ok [H] p) (hleft:RdT Go.E.encI 1 [H] aleft nleft kleft left) (htop:RdT Go.E.encI 1 [H] atop ntop ktop top) (hS:Sat W w (H::F)):
  Calls prog 135 #[.agg (encPlane p).toArray, .agg (encRct r).toArray, .slice aleft nleft kleft, .slice atop ntop ktop,I corner] w fun e w'=>∃(q:Plane) (c:Int) (G:Chunk),e= .returned (.tuple #[.agg (encPlane q).toArray,I c])/\q.Ok [G]/\(q.v,c)=itgT p.v r left top corner/\Sat W w' (G::H::F):=by
 have R0:=hp.pix.le;have B0:=hp.pix.len
 have C1:=hleft.ll
 have I1:=htop.ll
 refine callsK 155 func135 rfl<|jCO 2 rfl<|sBx hS (encPlane p) fun _ _ e2=>sBx e2 (encRct r) fun _ _ f2=>sAlloc f2 zeroValue38 fun _ _ d1=>gOO d1 6 [402] rfl<|cS (p13_checked p ⟨(hp.pix.fl 3)⟩ d1.flat) fun _ k0=>jOC 14 rfl<|cN ((chkI p.v).2) 0 (fun g2=>?_) (fun g2=>?_)
 rotate_left
 ·refine jCO 4 rfl<|sTk k0 0 rfl [I 0,I 0,I 0,nS] fun _ e1=>jOR 5 rfl<|retD e1 0 [I 0,I 0,I 0,nS] (I ((chkI p.v).2)) ?_
  have hC:itgC p.v r left top corner=((chkI p.v).2):=by
   have h:¬(chkI p.v).2=0:=by omega
   unfold chkI at h⊢;unfold itgC;split
   ·rename_i h1;rw [if_pos h1] at h;split
    ·rename_i h2;rw [if_pos h2] at h;exact absurd rfl h
    ·rfl
   ·rfl
  have i2:=(e1.drops [0,0,0])
  exact ⟨zP,((chkI p.v).2),_,rfl,⟨rN⟩,(by unfold itgT;rw [okT_c hC om];rfl),(Sat.nilc i2)⟩
 refine jCC 4 rfl ?_
 have Z1:planeOK p.v=true/\mostOK p.v.w p.v.h p.v.max_=true/\(chkI p.v).1=mostV p.v.w p.v.h p.v.max_:=by
  have h:(chkI p.v).2=0:=by omega
  unfold chkI at h⊢
  split at h
  ·rename_i h1
   rw [if_pos h1]
   split at h
   ·rename_i h2;rw [if_pos h2];exact ⟨h1,h2,rfl⟩
   ·simp at h
  ·simp at h
 obtain ⟨A0,C0,L0⟩:=Z1;have K1:(chkI p.v).1=mostV p.w p.h p.max_:=L0;have J1:mostOK p.w p.h p.max_=true:=C0;have F2:=most_bd J1;have X1:=(plane_sz A0).1;unfold sizeP at X1;simp only [Plane.v] at X1
 refine gCO k0 2 [401] rfl<|cS (p2_empty r k0.flat) fun _ l0=>pu1<|sD 30 (r.x0=0/\r.y0=0/\r.x1=0/\r.y1=0) (fun m0=>jOO 15 rfl<|sTk l0 0 rfl [I 0,I 0,I 0,nS] fun _ f1=>jOR 5 rfl<|retD f1 0 [I 0,I 0,I 0,nS] (I 8)<|(by have hC:itgC p.v r left top corner=8:=(by unfold itgC;rw [if_pos A0,if_pos C0,if_neg (fun h=>by have h2:=(ins_in (by simp only [Plane.v];omega) (by simp only [Plane.v];omega)).2 h.1;exact h2.1 m0)]);have k2:=(f1.drops [0,0,0]);exact ⟨zP,8,_,rfl,⟨rN⟩,(by unfold itgT;rw [okT_c hC om];rfl),(Sat.nilc k2)⟩)) fun m0=>gOO l0 6 [401,2,2] rfl<|gY<|cS (p2_inside r (⟨0,0,p.w,p.h⟩:Rct) l0.flat) fun _ g0=>jOC 4 rfl<|CDn (insP r (⟨0,0,p.w,p.h⟩:Rct)) (fun n0=>jCO 3 rfl<|sTk g0 0 rfl [I 0,I 0,I 0,nS] fun _ g1=>jOR 5 rfl<|retD g1 0 [I 0,I 0,I 0,nS] (I 8)<|(by have hC:itgC p.v r left top corner=8:=(by unfold itgC;rw [if_pos A0,if_pos C0,if_neg (fun h=>by have h2:=(ins_in (by simp only [Plane.v];omega) (by simp only [Plane.v];omega)).2 h.1;exact n0 h2.2)]);have m2:=(g1.drops [0,0,0]);exact ⟨zP,8,_,rfl,⟨rN⟩,(by unfold itgT;rw [okT_c hC om];rfl),(Sat.nilc m2)⟩)) fun n0=>jCC 3 rfl ?_
 have M0:rIn r p.w p.h:=(ins_in om om).1 ⟨m0,n0⟩
 have L1:=M0;unfold rIn at L1
 obtain ⟨Wn,hW⟩:∃k:Nat,r.x1-r.x0=(k:Int):=⟨_,(Int.toNat_of_nonneg om).symm⟩;obtain ⟨Hn,hH⟩:∃k:Nat,r.y1-r.y0=(k:Int):=⟨_,(Int.toNat_of_nonneg om).symm⟩
 have B2:1<=Wn/\Wn<=128/\1<=Hn/\Hn<=128:=om;have A2:Hn*Wn<=4096:=by have h1:=rIn_area M0 (by first|omega|assumption);rw [hW,hH] at h1;have h2:((Hn*Wn:Nat):Int)=(Wn:Int)*(Hn:Int):=(by push_cast;rw [Int.mul_comm]);omega
 have N1:(r.x1-r.x0)*(r.y1-r.y0)=((Hn*Wn:Nat):Int):=by rw [hW,hH];push_cast;rw [Int.mul_comm]
 have s2:p.v.pix.length=p.pix.n:=B0
 refine gCO g0 5 [1,1] rfl<|sSub r.x1 r.x0<|gOO g0 4 [1,1] rfl<|sSub r.y1 r.y0<|pu2<|sAlloc g0 zeroValue38 fun i1 _ o2=>sTk o2 0 rfl [I (r.x1-r.x0),I (r.y1-r.y0),I ((chkI p.v).1),nS] fun _ f0=>gOO f0 11 [0] rfl<|SN 58 (nleft:Int) (r.y1-r.y0) (fun q2=>jOO 12 rfl<|sTk f0 1 rfl [I 0,I 0,I 0,nS] fun _ j1=>jOR 5 rfl<|retD j1 1 [I 0,I 0,I 0,nS] (I 8)<|(by have hC:itgC p.v r left top corner=8:=(by unfold itgC;rw [if_pos A0,if_pos C0,if_neg (fun h=>by omega)]);have r2:=(j1.drops [0,0,0,0]);exact ⟨zP,8,_,rfl,⟨rN⟩,(by unfold itgT;rw [okT_c hC om];rfl),(Sat.nilc r2)⟩)) fun q2=>gOC f0 8 [0] rfl<|CN (ntop:Int) (r.x1-r.x0) (fun t2=>jCO 3 rfl<|sTk f0 1 rfl [I 0,I 0,I 0,nS] fun _ k1=>jOR 5 rfl<|retD k1 1 [I 0,I 0,I 0,nS] (I 8)<|(by have hC:itgC p.v r left top corner=8:=(by unfold itgC;rw [if_pos A0,if_pos C0,if_neg (fun h=>by omega)]);have u2:=(k1.drops [0,0,0,0]);exact ⟨zP,8,_,rfl,⟨rN⟩,(by unfold itgT;rw [okT_c hC om];rfl),(Sat.nilc u2)⟩)) fun t2=>?_
 refine jCO 7 rfl<|sBK f0 #[I corner] 3 fun o0 _ w2=>cS (p13_outside ((chkI p.v).1) (At o0 0) 1 1 ([corner]) (RdT.flat (RdT.blk (enc:=Go.E.encI) (sz:=1) (xs:=[corner]) (fun _=>(by rfl)) 1 0 rfl rfl rfl om)) w2.flat) fun _ l1=>pu1<|sB 70 (!(inM ((chkI p.v).1) ([corner]))) (fun p0=>jOO 15 rfl<|sTk l1 2 rfl [I 0,I 0,I 0,nS] fun _ m1=>jOR 5 rfl<|retD m1 2 [I 0,I 0,I 0,nS] (I 2)<|(by have hC:itgC p.v r left top corner=2:=(by unfold itgC;rw [if_pos A0,if_pos C0,if_pos ⟨show rIn r p.v.w p.v.h from M0,om⟩,if_neg (fun h=>by have h1:=inM3.1 h.1;rw [show mostV p.v.w p.v.h p.v.max_=(chkI p.v).1 from L0.symm] at h1;have h2:=p0;simp [h1.1,h1.2.1,h1.2.2] at h2)]);have x2:=(m1.drops [0,0,0,0,0]);exact ⟨zP,2,_,rfl,⟨rN⟩,(by unfold itgT;rw [okT_c hC om];rfl),(Sat.nilc x2)⟩)) fun p0=>pu2<|gY<|cS (p13_outside ((chkI p.v).1) aleft nleft kleft left (hleft.fl 5) l1.flat) fun _ n1=>pu2<|sB 75 (!(inM ((chkI p.v).1) left)) (fun q0=>jOO 10 rfl<|sTk n1 2 rfl [I 0,I 0,I 0,nS] fun _ o1=>jOR 5 rfl<|retD o1 2 [I 0,I 0,I 0,nS] (I 2)<|(by have hC:itgC p.v r left top corner=2:=(by unfold itgC;rw [if_pos A0,if_pos C0,if_pos ⟨show rIn r p.v.w p.v.h from M0,om⟩,if_neg (fun h=>by have h1:=inM3.1 h.1;rw [show mostV p.v.w p.v.h p.v.max_=(chkI p.v).1 from L0.symm] at h1;have h2:=q0;simp [h1.1,h1.2.1,h1.2.2] at h2)]);have z2:=(o1.drops [0,0,0,0,0]);exact ⟨zP,2,_,rfl,⟨rN⟩,(by unfold itgT;rw [okT_c hC om];rfl),(Sat.nilc z2)⟩)) fun q0=>?_
 refine pu2<|gY<|cS (p13_outside ((chkI p.v).1) atop ntop ktop top (htop.fl 5) n1.flat) fun _ r0=>jOC 3 rfl<|cB (!(inM ((chkI p.v).1) top)) (fun s0=>jCO 3 rfl<|sTk r0 2 rfl [I 0,I 0,I 0,nS] fun _ q1=>jOR 5 rfl<|retD q1 2 [I 0,I 0,I 0,nS] (I 2)<|(by have hC:itgC p.v r left top corner=2:=(by unfold itgC;rw [if_pos A0,if_pos C0,if_pos ⟨show rIn r p.v.w p.v.h from M0,om⟩,if_neg (fun h=>by have h1:=inM3.1 h.1;rw [show mostV p.v.w p.v.h p.v.max_=(chkI p.v).1 from L0.symm] at h1;have h2:=s0;simp [h1.1,h1.2.1,h1.2.2] at h2)]);have b3:=(q1.drops [0,0,0,0,0]);exact ⟨zP,2,_,rfl,⟨rN⟩,(by unfold itgT;rw [okT_c hC om];rfl),(Sat.nilc b3)⟩)) fun s0=>jCC 3 rfl ?_
 have S0:(left.length:Int)=r.y1-r.y0/\(top.length:Int)=r.x1-r.x0:=by omega
 have Q1:inM (mostV p.w p.h p.max_) (corner::left++top)=true:=(by rw [<-K1];have h1:=p0;have h2:=q0;have h3:=s0;exact inM3.2 ⟨by simpa using h1,by simpa using h2,by simpa using h3⟩)
 have K0:=List.all_eq_true.1 Q1;have C2:0<=corner/\corner<=mostV p.w p.h p.max_:=of_decide_eq_true (K0 corner (by simp))
 obtain ⟨f,hf⟩:∃f:Int->Int->Int,f=itgX p.v left top corner r:=⟨_,rfl⟩
 refine gCO r0 5 [1,1] rfl<|sMul (r.x1-r.x0) (r.y1-r.y0)<|sMake0 (kl:= .i64) (kc:= .i64) (enc:=Go.E.encI) (sz:=1) (nb:=8) r0 (((r.x1-r.x0)*(r.y1-r.y0))).toNat ((r.x1-r.x0)*(r.y1-r.y0)) (om:((r.x1-r.x0)*(r.y1-r.y0))=(((((r.x1-r.x0)*(r.y1-r.y0))).toNat:Nat):Int)) underlying22 (i:=Tryz.t3) kr fR fun r1 d3 _ e3 f3=>pu1<|tWk f3 2 rfl 3 (.slice (At r1 0) 0 ((((r.x1-r.x0)*(r.y1-r.y0))).toNat)) fun _ s1=>gOO s1 6 [2] rfl<|sMake (kl:= .i64) (kc:= .i64) (enc:=Go.E.encI) (sz:=1) (nb:=8) s1 0 ((r.x1-r.x0)).toNat (r.x1-r.x0) (om:(r.x1-r.x0)=((((r.x1-r.x0)).toNat:Nat):Int)) underlying22 (i:=Tryz.t3) kr fR fun g3 i3 _ j3 t1=>gOC t1 12 [3] rfl<|loopF [2,3,4,5,6,10,12,14,92] (γ:=Nat×(List Int)×(Option Addr)×Nat×Nat×Chunk×(List Int)×SO) (fun ⟨i,zs,G0,I0,H0,P0,cs,V0,F1,D1,X0⟩ R=>⟨[(93,I (i:Int)),(15, .slice V0 F1 D1)],P0::X0::[(o0, .cells #[I corner] 3 (0,0))]::[(i1, .cells #[I (r.x1-r.x0),I (r.y1-r.y0),I ((chkI p.v).1), .slice G0 I0 H0] 38 (0,0))]::R,Hn-i,i<=Hn/\(zs=gridN Wn f (i*Wn))/\(cs=tabN (fun k=>colS p.v (r.x0+(k:Int)) r.y0 i) Wn)/\OwnT Go.E.encI 3 1 G0 I0 H0 zs P0/\OwnT Go.E.encI 3 1 V0 F1 D1 cs X0⟩) (0,[],(At r1 0),0,(((r.x1-r.x0)*(r.y1-r.y0))).toNat,d3,(List.replicate ((r.x1-r.x0)).toNat 0),(At g3 0),((r.x1-r.x0)).toNat,((r.x1-r.x0)).toNat,i3) ⟨(t1.pick 1 rfl),om,(by rw [Nat.zero_mul];rfl),(by rw [show (r.x1-r.x0).toNat=Wn by omega];exact tab_zero (fun _ _=>rfl)),e3,j3⟩ ?_
 rintro ⟨i,zs,G0,I0,H0,P0,cs,V0,F1,D1,X0⟩ ρ _ ⟨h0,hi,hE,j2,E0,Q0⟩
 have T1:=E0.ll
 have R1:=Q0.ll
 refine jCC 6 rfl<|CD ((i:Int)<(r.y1-r.y0)) (fun l3=>gCO h0 11 [3] rfl<|cS (p13_outside ((chkI p.v).1) G0 I0 H0 zs (RdT.flat (E0.rdAt 0 (by rfl))) h0.flat) fun _ t0=>jOC 2 rfl<|cB (!(inM ((chkI p.v).1) zs)) (fun m3=>jCO 3 rfl<|sTk t0 4 rfl [I 0,I 0,I 0,nS] fun _ u1=>jOR 5 rfl<|retD u1 4 [I 0,I 0,I 0,nS] (I 2)<|(by have A1:itgL p.v left top corner r=zs:=(by unfold itgL;rw [hE,show i=Hn by omega,<-hf,show areaN r=Hn*Wn from by unfold areaN;rw [N1,Int.toNat_natCast],hW]);have hC:itgC p.v r left top corner=2:=(by unfold itgC;rw [if_pos A0,if_pos C0,if_pos ⟨show rIn r p.v.w p.v.h from M0,S0⟩,if_neg (fun h=>by have h1:=h.2;rw [A1,show mostV p.v.w p.v.h p.v.max_=(chkI p.v).1 from L0.symm] at h1;simp_all)]);have n3:=(u1.drops [0,0,0,0,0,0,0]);exact ⟨zP,2,_,rfl,⟨rN⟩,(by unfold itgT;rw [okT_c hC om];rfl),(Sat.nilc n3)⟩)) fun m3=>gCO t0 5 [403] rfl<|sTk t0 4 rfl [I (r.x1-r.x0),I (r.y1-r.y0),I ((chkI p.v).1), .slice G0 I0 H0] fun _ v1=>jOR 4 rfl<|retD v1 4 [I (r.x1-r.x0),I (r.y1-r.y0),I ((chkI p.v).1), .slice G0 I0 H0] (I 0)<|(by have A1:itgL p.v left top corner r=zs:=(by unfold itgL;rw [hE,show i=Hn by omega,<-hf,show areaN r=Hn*Wn from by unfold areaN;rw [N1,Int.toNat_natCast],hW]);have hC:itgC p.v r left top corner=0:=(by unfold itgC;rw [if_pos A0,if_pos C0,if_pos ⟨show rIn r p.v.w p.v.h from M0,S0⟩,if_pos ⟨Q1,by rw [A1,show mostV p.v.w p.v.h p.v.max_=(chkI p.v).1 from L0.symm];simp_all⟩]);exact ⟨(⟨(r.x1-r.x0),(r.y1-r.y0),(chkI p.v).1,⟨G0,I0,H0,zs⟩⟩:Plane),0,_,rfl,⟨(E0.rdAt (cs:=[P0]) 0 rfl)⟩,(by unfold itgT;rw [okT_0 hC,A1,L0];rfl),(v1.drops [1,1,1,1,1,1])⟩)) fun l3=>?_
 refine gCC h0 23 [3] rfl<|loopF [2,3,4,5,6,10,12,14,92,93,16,97] (γ:=Nat×Int×(List Int)×(Option Addr)×Nat×Nat×Chunk×(List Int)×SO) (fun ⟨j,sm,zt,W0,N0,E1,Z0,ct,O0,U0,T0,Y0⟩ R=>⟨[(98,I (j:Int)),(17,I sm),(15, .slice O0 U0 T0)],Z0::Y0::[(o0, .cells #[I corner] 3 (0,0))]::[(i1, .cells #[I (r.x1-r.x0),I (r.y1-r.y0),I ((chkI p.v).1), .slice W0 N0 E1] 38 (0,0))]::R,Wn-j,j<=Wn/\(zt=gridN Wn f (i*Wn+j))/\(ct=mixN (fun k=>colS p.v (r.x0+(k:Int)) r.y0 (i+1)) (fun k=>colS p.v (r.x0+(k:Int)) r.y0 i) j Wn)/\(sm=recS p.v r.x0 r.y0 j (i+1))/\OwnT Go.E.encI 3 1 W0 N0 E1 zt Z0/\OwnT Go.E.encI 3 1 O0 U0 T0 ct Y0⟩) (0,0,zs,G0,I0,H0,P0,cs,V0,F1,D1,X0) ⟨h0,om,(by rw [Nat.add_zero];exact hE),(by rw [mix_0];exact j2),by rfl,E0,Q0⟩ ?_
 rintro ⟨j,sm,zt,W0,N0,E1,Z0,ct,O0,U0,T0,Y0⟩ ρ _ ⟨w1,hj,G1,B1,M1,J0,D0⟩
 have U1:=J0.ll
 have S1:=D0.ll
 have H2:zt.length=i*Wn+j:=by rw [G1,grid_len]
 have D2:i*Wn+j<=Hn*Wn:=by have h1:=Nat.mul_le_mul_right Wn (show i+1<=Hn by omega);rw [Nat.add_mul,Nat.one_mul] at h1;omega
 have v2:=rec_bd9 A0 r.x0 r.y0 (i:=j) (j:=i+1) om om;rw [<-M1] at v2;have l2:ct.length=Wn:=by rw [B1];exact mix_len _ _ _ _
 refine jCC 6 rfl<|CD ((j:Int)<(r.x1-r.x0)) (fun q3=>jCO 7 rfl<|sAdd (i:Int) 1<|jOI 2 rfl<|⟨(i+1,zt,W0,N0,E1,Z0,ct,O0,U0,T0,Y0),od,alB,w1,om,(by rw [Nat.add_mul,Nat.one_mul,G1,show j=Wn by omega]),(by rw [B1,show j=Wn by omega];exact mix_n _ _ _),J0,D0⟩) fun q3=>jCC 11 rfl ?_
 have hix:=pl_ix A0 (x:=r.x0+(j:Int)) (y:=r.y0+(i:Int)) (by simp only [Plane.v];omega) (by simp only [Plane.v];omega);rw [s2] at hix;simp only [Plane.v] at hix
 obtain ⟨a0,m5,n5,i0,z1,u0,a2⟩:=OwnT.eN D0 j
 have P1:a0=colS p.v (r.x0+(j:Int)) r.y0 i:=by have h:=i0;rw [B1,mix_at om] at h;exact (Option.some.inj h).symm
 have Y1:=col_bd A0 (r.x0+(j:Int)) r.y0 (n:=i) om;rw [<-P1] at Y1
 obtain ⟨d0,o5,p5,r3,s3,u3⟩:=RdT.elem hp.pix ((((r.y0+(i:Int))*p.w)+r.x0)+(j:Int))
 have V1:pixAt p.v (r.x0+(j:Int)) (r.y0+(i:Int))=d0:=(by refine pixAt_eq ?_;rw [<-r3];simp only [Plane.v];congr 1;rw [Int.add_comm r.x0,<-Int.add_assoc];omega)
 have W1:=pixAt_bd A0 (r.x0+(j:Int)) (r.y0+(i:Int));rw [V1] at W1;simp only [Plane.v] at W1
 refine drawF w1 [22] (fq 3 0 (z1.up 1 rfl)<|fb 5 6 3 1<|fb 7 5 1 1<|fb 11 6 0 1<|fb 14 5 0 1<|fq 19 0 (s3.up 7 rfl)<|fn) [0,1,2,4,6,8,10,13,16,3,5,7,9,11,12,14,15,17,18,19,20,21,22] fun _ v3=>wV 2<|wI u0<|wV 6<|wL 0<|wL 1<|wL 2<|wAdd r.y0 (i:Int)<|wL 3<|wMul (r.y0+(i:Int)) p.w<|wL 4<|wAdd ((r.y0+(i:Int))*p.w) r.x0<|wAdd (((r.y0+(i:Int))*p.w)+r.x0) (j:Int)<|wI u3<|wL 5<|wAdd a0 d0<|wI u0<|wO rfl<|sStF v3 D0 a2 1 j 0 a0 (a0+d0) i0 (I (a0+d0)) [I (a0+d0)] sizeOf3 fun _ w3 v0 b2=>nA<|wN<|jXC 2 rfl ?_
 have F0:a0+d0=colS p.v (r.x0+(j:Int)) r.y0 (i+1):=by rw [colS_succ,<-P1,V1]
 have H1:=col_bd A0 (r.x0+(j:Int)) r.y0 (n:=i+1) om;rw [<-F0] at H1
 refine jCO 4 rfl<|sIO v0 (j:Int) j fun e0 _ _ x3 y3 _=>?_
 have O1:e0=a0+d0:=by have h:=x3;rw [List.getElem?_set_self om] at h;exact (Option.some.inj h).symm
 refine sMp b2 (y3.up 1 rfl) 0 (I e0)<|sAdd sm e0<|jOC 3 rfl ?_
 have z3:=set_at (y:=(a0+d0)) i0
 have u5:=OwnT.ptr v0 a2 z3
 obtain ⟨b0,v5,w5,w0,z0,a4⟩:=RdT.eN hleft i
 have n2:left.getD i 0=b0:=by rw [List.getD_eq_getElem?_getD,w0];rfl
 have E2:0<=b0/\b0<=mostV p.w p.h p.max_:=of_decide_eq_true (K0 b0 (by have:=List.mem_of_getElem? w0;simp [this]))
 obtain ⟨c0,x5,y5,a1,b1,b4⟩:=RdT.eN htop j
 have y2:top.getD j 0=c0:=by rw [List.getD_eq_getElem?_getD,a1];rfl
 have G2:0<=c0/\c0<=mostV p.w p.h p.max_:=of_decide_eq_true (K0 c0 (by have:=List.mem_of_getElem? a1;simp [this]))
 exact drawF b2 [15,16,18] (fb 1 3 3 1<|fq 5 0 (z0.up 7 rfl)<|fq 9 0 (b1.up 7 rfl)<|fn) [0,2,3,4,6,7,8,11,13,1,5,9,10,12,14,15,16,17,18] fun _ c4=>wV 3<|wI a4<|wV 2<|wI b4<|wV 2<|wL 0<|wL 1<|wL 2<|wAdd b0 c0<|wSub (b0+c0) corner<|wAdd ((b0+c0)-corner) (sm+e0)<|wO rfl<|sBK c4 #[I (((b0+c0)-corner)+(sm+e0))] 3 fun _ _ j0=>nilO ⟨⟨cI j0 4, .inr ((z0.up 8 rfl).cell j0 (k:=0) rfl), .inr ((b1.up 8 rfl).cell j0 (k:=0) rfl),trivial⟩,(wO rfl<|sApp (nb:=8) j0 J0 1 (RdT.blk (enc:=Go.E.encI) (sz:=1) (xs:=[(((b0+c0)-corner)+(sm+e0))]) fR 1 0 rfl rfl rfl om) underlying22 (i:=Tryz.t3) kr fR fun c2 d2 d4 _ e4 c1=>nilO ⟨⟨dI, .inr ((z0.up 8 rfl).cell c1 (k:=0) rfl), .inr ((b1.up 8 rfl).cell c1 (k:=0) rfl),trivial⟩,(wV 1<|wO rfl<|tWk c1 4 rfl 3 (.slice c2 (N0+1) d2) fun _ f4=>nA<|wN<|jXO 3 rfl<|sAdd (j:Int) 1<|jOI 2 rfl<|⟨(j+1,(sm+e0),(zt++[(((b0+c0)-corner)+(sm+e0))]),c2,(N0+1),d2,d4,(ct.set j (a0+d0)),O0,U0,T0,w3),od,alB,(f4.dropAt 0 rfl),om,(by rw [<-Nat.add_assoc,grid_succ om,<-G1,hf];unfold itgX;simp only [Int.toNat_natCast];rw [n2,y2,recS_succ,<-M1,<-F0,O1]),(by rw [B1];exact mix_set F0),(by rw [recS_succ,<-M1,<-F0,O1]),e4,v0⟩)⟩)⟩
end Go.Proofs.YtghcddbhllkbmaaGreat

namespace Go.Proofs.YtghcddbhllkbmaaGreat
open Go Go.E Go.Proofs.Tryz
set_option linter.all false
set_option maxRecDepth 100000
set_option maxHeartbeats 2000000
variable {W w:World} {H:Chunk} {F:List Chunk}
theorem firstErr_all {α:Type} {f:α->Int}:∀{l:List α},firstErr f l=0->∀x∈l,f x=0
  |[],_,x,h=>by cases h
  |a::l,e,x,h=>by
    unfold firstErr at e
    split at e
    · rename_i h0
      rcases List.mem_cons.1 h with rfl|h
      · exact h0
      · exact firstErr_all e x h
    · rename_i h0;exact absurd e h0
theorem taps_ok {l:List TapV} {n:Int} (h:tapsCode l n=0):(1<=l.length/\l.length<=128)/\∀t∈l,(1<=t.weights.length/\t.weights.length<=8)/\(-128<=t.first/\t.first<=256)/\areW t.weights=true:=by
  refine ⟨tapsCode_len h,fun t ht=>?_⟩
  unfold tapsCode at h
  split at h
  · have h1:=firstErr_all h t ht
    unfold tapCode tapC at h1
    split at h1
    · omega
    · split at h1
      · rename_i h3
        split at h1
        · exact ⟨by omega,by assumption,h3⟩
        · omega
      · omega
  · omega
theorem sat_flat5 {W w:World} {a b c d e:Chunk} {cs:List Chunk} (h:Sat W w (a::b::c::d::e::cs)):Sat W w [a,b,c,d,e,cs.flatten]:=h.perm (by simp)
theorem sat_unflat6 {W w:World} {a b c d e f:Chunk} {cs:List Chunk} (h:Sat W w [a,b,c,d,e,f,cs.flatten]):Sat W w (a::b::c::d::e::f::cs):=h.perm (by simp)
theorem rd_some {α:Type} {enc:α->List Value} {sz n k:Nat} {cs:List Chunk} {a:Option Addr} {xs:List α} (h:RdT enc sz cs a n k xs) (hn:0<n):¬a=none:=by
  obtain ⟨_,_,_,hp⟩:=h.2.2
  rcases hp with hp|⟨b,o,rfl,_⟩
  · omega
  · intro e;cases e
def kvR (q:Int×IL):Int×Value:=(q.1, .slice q.2.l.a q.2.l.n q.2.l.k)
def rget (rs:List (Int×IL)) (k:Int):Option IL:=(rs.find? fun q=>q.1==k).map (·.2)
theorem iget_map (k:Int):∀rs:List (Int×IL),iget (rs.map kvR) k=(rget rs k).map (fun m=>Value.slice m.l.a m.l.n m.l.k)
  |[]=>rfl
  |q::rs=>by
    have ih:=iget_map k rs
    unfold iget rget at ih⊢
    rw [List.map_cons,List.find?_cons,List.find?_cons]
    show Option.map (·.2) (match q.1==k with|true=>some (kvR q)|false=>_)=_
    cases q.1==k
    · exact ih
    · rfl
theorem rget_mem {rs:List (Int×IL)} {k:Int} {m:IL} (h:rget rs k=some m):(k,m)∈rs:=by
  unfold rget at h
  cases e:rs.find? (fun q=>q.1==k) with
  |none=>rw [e] at h;cases h
  |some q=>
    rw [e] at h
    have h1:=List.mem_of_find?_eq_some e
    have h2:(q.1==k)=true:=by have:=List.find?_some e;exact this
    have h3:q.1=k:=by simpa using h2
    have h4:q.2=m:=Option.some.inj h
    rw [<-h3,<-h4];exact h1
theorem rget_push {rs:List (Int×IL)} {k:Int} {m:IL} (h:rget rs k=none):rget (rs++[(k,m)]) k=some m:=by
  unfold rget at h⊢
  rw [List.find?_append]
  cases e:rs.find? (fun q=>q.1==k) with
  |none=>simp
  |some q=>rw [e] at h;cases h
def zIL:IL:=⟨⟨none,0,0,[]⟩⟩
theorem look_v (rs:List (Int×IL)) (k:Int) {m:IL} (hm:(rget rs k).getD zIL=m):(iget (rs.map kvR) k).getD (nS)= .slice m.l.a m.l.n m.l.k:=by
  rw [iget_map,<-hm];cases rget rs k<;>rfl
theorem rmix_at {p:PlaneV} {pol fill sh:Int} {x:List TapV} {x0:Int} {t:TapV} {j u n:Nat} {w:Int} (hw:t.weights[j]?=some w) (hu:u<n):
    ∀{v g:Int},v=resS p pol fill (tapAt x (x0+(u:Int))) t sh j->g=tapV p pol fill (tapAt x (x0+(u:Int))) sh (t.first+(j:Int))->v+w*g=resS p pol fill (tapAt x (x0+(u:Int))) t sh (j+1):=by
  intro v g hv hg
  rw [resS_succ hw,hv,hg]
theorem eqn22 (w:World) (a:Option Addr) (n k:Nat):(Op.equal 22 (.slice a n k) (nS)).run prog w= .ok a.isNone w:=by
  unfold Op.equal
  rw [show Op.maxDepth=9999+1 from rfl]
  unfold Op.equalIn
  simp only [Sem.run_bind,runUnderlying22,Result.andThen]
  cases a<;>simp
theorem eqvs22 (w:World) (a:Option Addr) (n k:Nat):∀x y,((do eqGuard .eql 22 x y (.slice a n k) (nS);binOp .eql 22 (.slice a n k) (nS)):Sem Value).run prog w= .ok (.bool (decide (a=none))) w:=by
  intro x y
  simp [eqGuard,binOp,eqn22]
  cases a<;>rfl
theorem p11_pixel (p:Plane) (e0:Edge) (x:Int) (y:Int) (hp:Plane.Ok [H] p) (hpo:planeOK p.v=true) (hev:edgeV e0.policy e0.fill p.max_) (hS:Sat W w (H::F)):
  Ro prog 134 #[.agg (encPlane p).toArray, .agg #[I e0.policy,I e0.fill],I x,I y] (I (pixV p.v e0.policy e0.fill x y)) W w (H::F):=by
 have j0:=hp.pix.le;have h0:=hp.pix.len
 have m0:=(plane_sz hpo).1;unfold sizeP at m0;simp only [Plane.v] at m0;have n0:p.v.pix.length=p.pix.n:=h0
 exact callsK 49 func134 rfl<|jCO 2 rfl<|sBx hS (encPlane p) fun _ _ f0=>sBx f0 [I e0.policy,I e0.fill] fun _ _ b0=>gOO b0 10 [1,0] rfl<|cS (p3_index x p.w e0.policy b0.flat) fun _ c0=>gOO c0 14 [1,0] rfl<|cS (p3_index y p.h e0.policy c0.flat) fun _ a0=>jOO 13 rfl<|SBn 33 ((idxV x p.w e0.policy).isSome) (fun g0=>gOR a0 15 [0] rfl<|retT [I e0.fill]<|⟨congrArg (fun z=>Ending.returned (I z)) (pixV_fill (by first|exact .inl ‹_›|exact .inr ‹_›)).symm,(a0.drops [0,0])⟩) fun g0=>jOC 5 rfl<|CBn ((idxV y p.h e0.policy).isSome) (fun i0=>gCR a0 9 [0] rfl<|retT [I e0.fill]<|⟨congrArg (fun z=>Ending.returned (I z)) (pixV_fill (by first|exact .inl ‹_›|exact .inr ‹_›)).symm,(a0.drops [0,0])⟩) fun i0=>jCC 3 rfl<|(by have hix:=pl_ix hpo (x:=(idxV x p.w e0.policy).getD 0) (y:=(idxV y p.h e0.policy).getD 0) (idx_some ‹_›) (idx_some ‹_›);rw [n0] at hix;simp only [Plane.v] at hix;have o0:=idx_some (i:=x) (n:=p.w) (p:=e0.policy) ‹_›;exact gCO a0 6 [1,1] rfl<|sMul ((idxV y p.h e0.policy).getD 0) p.w<|pu1<|sAdd (((idxV y p.h e0.policy).getD 0)*p.w) ((idxV x p.w e0.policy).getD 0)<|sII hp.pix ((((idxV y p.h e0.policy).getD 0)*p.w)+((idxV x p.w e0.policy).getD 0)) fun d0 _ _ k0 l0=>sMp a0 (l0.up 2 rfl) 0 (I d0)<|jOR 4 rfl<|retT [I d0]<|⟨congrArg (fun z=>Ending.returned (I z)) (pixV_get (p:=p.v) ‹_› ‹_› k0).symm,(a0.drops [0,0])⟩)
theorem p11_row (k:Int) (br bx bp be bs:Nat) (p:Plane) (e0:Edge) (ax:Option Addr) (nx kx:Nat) (x:List Tap) (sh:Int) (r:Rct) (hp:Plane.Ok [H] p) (hx:RdT encTap 2 [H] ax nx kx x) (dx:∀z∈x,Tap.Ok [H] z) (hpo:planeOK p.v=true) (hev:edgeV e0.policy e0.fill p.max_) (hxr:0<=r.x0/\r.x0<r.x1/\r.x1<=(nx:Int)/\nx<=128) (hbx:∀t∈x.map Tap.v,bndOK t.weights 0 p.max_=true) (hfx:∀t∈x.map Tap.v,(1<=t.weights.length/\t.weights.length<=8)/\(-128<=t.first/\t.first<=256)/\areW t.weights=true) (hS:Sat W w ([(br, .cells (encRct r).toArray 45 (0,0))]::[(bx, .cells #[.slice ax nx kx] 50 (0,0))]::[(bp, .cells (encPlane p).toArray 38 (0,0))]::[(be, .cells #[I e0.policy,I e0.fill] 49 (0,0))]::[(bs, .cells #[I sh] 3 (0,0))]::H::F)):
  Calls prog 133 #[I k,Pt br 0,Pt bx 0,Pt bp 0,Pt be 0,Pt bs 0] w fun e w'=>∃(az:Option Addr) (nz kz:Nat) (zs:List Int) (G:Chunk),e= .returned (.slice az nz kz)/\RdT Go.E.encI 1 [G] az nz kz zs/\zs=tapR p.v e0.policy e0.fill (x.map Tap.v) sh r.x0 k (r.x1-r.x0).toNat/\Sat W w' (G::[(br, .cells (encRct r).toArray 45 (0,0))]::[(bx, .cells #[.slice ax nx kx] 50 (0,0))]::[(bp, .cells (encPlane p).toArray 38 (0,0))]::[(be, .cells #[I e0.policy,I e0.fill] 49 (0,0))]::[(bs, .cells #[I sh] 3 (0,0))]::H::F):=by
 have C0:=hp.pix.ll
 have M0:=hx.ll
 have I0:=(plane_sz hpo).1;unfold sizeP at I0;simp only [Plane.v] at I0;obtain ⟨Wn,hW⟩:∃k:Nat,r.x1-r.x0=(k:Int):=⟨_,(Int.toNat_of_nonneg om).symm⟩;have P0:r.x1.toNat-r.x0.toNat=Wn:=by omega
 refine callsK 60 func133 rfl<|gCO hS 11 [0,0] rfl<|sSub r.x1 r.x0<|sMake0 (kl:= .i64) (kc:= .i64) (enc:=Go.E.encI) (sz:=1) (nb:=8) hS ((r.x1-r.x0)).toNat (r.x1-r.x0) (om:(r.x1-r.x0)=((((r.x1-r.x0)).toNat:Nat):Int)) underlying22 (i:=Tryz.t3) kr fR fun j0 k0 _ l0 h0=>gOO h0 11 [2,1,1] rfl<|sSl (some r.x0) (some r.x1) ((r.x0).toNat) ((r.x1).toNat) runUnderlying50 sizeOf121 ⟨om,om⟩ ⟨om,om⟩ om om ?_ (a:=ax) (len:=nx) (cap:=kx)
 have m0:=hx.part (lo:=(r.x0).toNat) (hi:=(r.x1).toNat) om om
 refine jOC 5 rfl<|loopF [0,3,4,5,25,26] (γ:=Nat×(List Int)×SO) (fun ⟨u,zs,B0,A0,D0,E0⟩ R=>⟨[(27,I (u:Int)),(8, .slice B0 A0 D0)],E0::R,Wn-u,u<=Wn/\(zs=tapR p.v e0.policy e0.fill (x.map Tap.v) sh r.x0 k u)/\OwnT Go.E.encI 3 1 B0 A0 D0 zs E0⟩) (0,[],(At j0 0),0,((r.x1-r.x0)).toNat,k0) ⟨h0,om,by rfl,l0⟩ ?_
 rintro ⟨u,zs,B0,A0,D0,E0⟩ ρ _ ⟨f0,hu,hE,z0⟩
 have G0:=z0.ll
 have V0:zs.length=u:=by rw [hE];exact tab_len _ _
 refine jCC 6 rfl<|CD ((u:Int)<((((r.x1).toNat-((r.x0).toNat)):Nat):Int)) (fun n0=>jCR 12 rfl<|retT [.slice B0 A0 D0]<|⟨B0,A0,D0,zs,_,rfl,(z0.rdAt (cs:=[E0]) 0 rfl),(by rw [hE,show (r.x1-r.x0).toNat=u by omega]),f0⟩) fun n0=>jCO 6 rfl<|sIN m0 u fun a0 _ _ b0 o0=>?_
 have O0:x[r.x0.toNat+u]?=some a0:=part_at b0;have K0:=map_at (f:=Tap.v) O0;have J0:=List.mem_of_getElem? K0;have L0:=hbx _ J0;have F0:=hfx _ J0;have N0:tapAt (x.map Tap.v) (r.x0+(u:Int))=a0.v:=tapAt_eq (by rw [show (r.x0+(u:Int)).toNat=r.x0.toNat+u by omega];exact K0)
 have R0:=((fun z hz=>dx z (List.mem_of_mem_drop (List.mem_of_mem_take hz))) a0 (List.mem_of_getElem? b0)).weights.len;have Q0:=((fun z hz=>dx z (List.mem_of_mem_drop (List.mem_of_mem_take hz))) a0 (List.mem_of_getElem? b0)).weights.le;simp only [Tap.v] at F0
 refine sMA f0 (o0.up 6 rfl) 0 [I a0.first, .slice a0.weights.a a0.weights.n a0.weights.k]<|sAlloc f0 zeroValue121 fun _ _ p0=>sTk p0 0 rfl [I a0.first, .slice a0.weights.a a0.weights.n a0.weights.k] fun _ i0=>gOC i0 17 [0] rfl<|loopF [0,3,4,5,25,26,27,8,10,32,33] (γ:=Nat×Int) (fun ⟨a,s1⟩ R=>⟨[(34,I (a:Int)),(11,I s1)],R,a0.weights.n-a,a<=a0.weights.n/\(s1=tapS p.v e0.policy e0.fill a0.v k a)⟩) (0,0) ⟨i0,om,by rfl⟩ ?_
 rintro ⟨a,s1⟩ ρ _ ⟨c0,ha,H0⟩
 have U0:=tap_part hpo hev (t:=a0.v) (k:=k) L0 (n:=a) (by simp only [Tap.v];omega)
 exact jCC 6 rfl<|CD ((a:Int)<(a0.weights.n:Int)) (fun q0=>gCO c0 9 [6] rfl<|cS (p7_shift s1 sh c0.flat) fun _ r0=>sBK r0 #[I (shiftV s1 sh)] 3 fun _ _ s0=>sApp (nb:=8) s0 z0 2 (RdT.blk (enc:=Go.E.encI) (sz:=1) (xs:=[(shiftV s1 sh)]) fR 1 0 rfl rfl rfl om) underlying22 (i:=Tryz.t3) kr fR fun t0 u0 v0 _ w0 y0=>jOO 5 rfl<|sAdd (u:Int) 1<|jOI 2 rfl<|⟨(u+1,(zs++[(shiftV s1 sh)]),t0,(A0+1),u0,v0),od,alB,(y0.drops [0,0]),om,(by rw [hE,tapR,tapR,tab_succ,N0,tapV,show a0.v.weights.length=a from by simp only [Tap.v];omega,<-H0]),w0⟩) fun q0=>jCO 7 rfl<|sII ((fun z hz=>dx z (List.mem_of_mem_drop (List.mem_of_mem_take hz))) a0 (List.mem_of_getElem? b0)).weights (a:Int) fun d0 _ _ g0 a1=>(by rw [Int.toNat_natCast] at g0;exact sMp c0 (a1.up 7 rfl) 0 (I d0)<|gOO c0 12 [404,205,0] rfl<|sAdd a0.first (a:Int)<|pu1<|cS (p11_pixel p e0 (a0.first+(a:Int)) k ⟨(hp.pix.fl 7)⟩ hpo hev c0.flat) fun _ b1=>(by have T0:=pix_bd hpo hev (x:=(a0.first+(a:Int))) (y:=k);have S0:=wmul_bd (v:=(pixV p.v e0.policy e0.fill (a0.first+(a:Int)) k)) (B:=4294967296) (areW_at F0.2.2 g0) (by simp only [Plane.v] at*;omega) (by decide);exact sMul d0 (pixV p.v e0.policy e0.fill (a0.first+(a:Int)) k)<|sAdd s1 (d0*(pixV p.v e0.policy e0.fill (a0.first+(a:Int)) k))<|jOO 5 rfl<|sAdd (a:Int) 1<|jOI 2 rfl<|⟨(a+1,(s1+(d0*(pixV p.v e0.policy e0.fill (a0.first+(a:Int)) k)))),od,alB,b1,om,(by rw [tapS_succ (show a0.v.weights[a]?=some d0 from g0),<-H0];rfl)⟩))
theorem p11_tile (p:Plane) (e0:Edge) (ax:Option Addr) (nx kx:Nat) (x:List Tap) (ay:Option Addr) (ny ky:Nat) (y:List Tap) (sh:Int) (sh2:Int) (out:Int) (r:Rct) (hp:Plane.Ok [H] p) (hx:RdT encTap 2 [H] ax nx kx x) (dx:∀z∈x,Tap.Ok [H] z) (hy:RdT encTap 2 [H] ay ny ky y) (dy:∀z∈y,Tap.Ok [H] z) (hS:Sat W w (H::F)):
  Calls prog 91 #[.agg (encPlane p).toArray, .agg #[I e0.policy,I e0.fill], .slice ax nx kx, .slice ay ny ky,I sh,I sh2,I out, .agg (encRct r).toArray] w fun e w'=>∃(q:Plane) (c:Int) (G:Chunk),e= .returned (.tuple #[.agg (encPlane q).toArray,I c])/\q.Ok [G]/\(q.v,c)=resT p.v e0.policy e0.fill (x.map Tap.v) (y.map Tap.v) sh sh2 out r/\Sat W w' (G::H::F):=by
 have hl_p_pix:=hp.pix.le;have hn_p_pix:=hp.pix.len
 have hl_x:=hx.le;have hn_x:=hx.len
 have hl_y:=hy.le;have hn_y:=hy.len
 refine callsK 163 func91 rfl ?_
 refine jCO 2 rfl ?_
 refine sBox hS (.agg (encPlane p).toArray) (encPlane p).toArray ?_
 intro u1 _ h3
 refine sBox h3 (.agg #[I e0.policy,I e0.fill]) #[I e0.policy,I e0.fill] ?_
 intro v1 _ i3
 refine sBox i3 (.slice ax nx kx) #[.slice ax nx kx] ?_
 intro w1 _ j3
 refine sBox j3 (I sh) #[I sh] ?_
 intro z1 _ k3
 refine sBox k3 (.agg (encRct r).toArray) (encRct r).toArray ?_
 intro a2 _ l3
 refine sAlloc l3 zeroValue38 ?_
 intro _ _ b2
 refine gOO b2 7 [405] rfl ?_
 refine cR call52 (p4_valid p ⟨(RdT.flat (hp.pix.up 6 (by rfl)))⟩ b2.flat) ?_
 intro _ c1
 refine pu2 ?_
 refine sBn 36 (planeOK p.v) (fun o0=>?_) (fun o0=>?_)
 rotate_left
 ·refine jOO 12 rfl ?_
  refine sTl c1 0 [I 0,I 0,I 0,nS] sizeOf38 ?_
  intro _ c2
  refine jOR 5 rfl<|retC c2 0 [I 0,I 0,I 0,nS] (I 1) (isAgg38 _) (sizeOf38 _) ?_
  have hC:edgC p.v e0.policy e0.fill (resCode p.v.w p.v.h p.v.max_ (x.map Tap.v) (y.map Tap.v) sh sh2 out) ((x.map Tap.v).length:Int) ((y.map Tap.v).length:Int) r=1:=edgC_a (fun h=>o0 h.1)
  have m3:=(c2.drops [0,0,0,0,0,0])
  have n3:Sat W _ ([]::H::F):=Sat.nilc m3
  exact ⟨(⟨0,0,0,⟨none,0,0,[]⟩⟩:Plane),1,_,rfl,⟨RdT.nil (enc:=Go.E.encI) (sz:=1) fR [[]]⟩,(by unfold resT;rw [okT_c hC om];rfl),n3⟩
 refine gOO c1 3 [204,5] rfl<|gY ?_
 refine cR call124 (p3_valid e0 p.max_ c1.flat) ?_
 intro _ d1
 refine jOC 4 rfl ?_
 refine cDn ((e0.policy=3/\0<=e0.fill/\e0.fill<=p.max_)\/(0<=e0.policy/\e0.policy<3/\e0.fill=0)) (fun p0=>?_) (fun p0=>?_)
 rotate_left
 ·refine jCO 3 rfl ?_
  refine sTl d1 0 [I 0,I 0,I 0,nS] sizeOf38 ?_
  intro _ d2
  refine jOR 5 rfl<|retC d2 0 [I 0,I 0,I 0,nS] (I 1) (isAgg38 _) (sizeOf38 _) ?_
  have hC:edgC p.v e0.policy e0.fill (resCode p.v.w p.v.h p.v.max_ (x.map Tap.v) (y.map Tap.v) sh sh2 out) ((x.map Tap.v).length:Int) ((y.map Tap.v).length:Int) r=1:=edgC_a (fun h=>p0 h.2)
  have o3:=(d2.drops [0,0,0,0,0,0])
  have p3:Sat W _ ([]::H::F):=Sat.nilc o3
  exact ⟨(⟨0,0,0,⟨none,0,0,[]⟩⟩:Plane),1,_,rfl,⟨RdT.nil (enc:=Go.E.encI) (sz:=1) fR [[]]⟩,(by unfold resT;rw [okT_c hC om];rfl),p3⟩
 refine gCO d1 11 [5,5,5] rfl ?_
 refine sAlloc d1 zeroValue65 ?_
 intro _ _ q3
 refine sTl q3 0 [I p.w,I p.h,I p.max_] sizeOf65 ?_
 intro _ e2
 refine gOO e2 11 [300,4,3] rfl ?_
 refine cR call132 (p11_check (⟨p.w,p.h,p.max_⟩:Shape) ax nx kx x ay ny ky y sh sh2 out (RdT.flat (hx.up 7 (by rfl))) (fun z hz=>(dx z hz).of_mem (mem_flat1 7 (by rfl))) (RdT.flat (hy.up 7 (by rfl))) (fun z hz=>(dy z hz).of_mem (mem_flat1 7 (by rfl))) e2.flat) ?_
 intro _ e1
 refine jOC 9 rfl ?_
 refine cN (resCode (⟨p.w,p.h,p.max_⟩:Shape).w (⟨p.w,p.h,p.max_⟩:Shape).h (⟨p.w,p.h,p.max_⟩:Shape).max_ (x.map Tap.v) (y.map Tap.v) sh sh2 out) 0 (fun r3=>?_) (fun r3=>?_)
 rotate_left
 ·refine jCO 4 rfl ?_
  refine sTl e1 1 [I 0,I 0,I 0,nS] sizeOf38 ?_
  intro _ f2
  refine jOR 5 rfl<|retC f2 1 [I 0,I 0,I 0,nS] (I (resCode (⟨p.w,p.h,p.max_⟩:Shape).w (⟨p.w,p.h,p.max_⟩:Shape).h (⟨p.w,p.h,p.max_⟩:Shape).max_ (x.map Tap.v) (y.map Tap.v) sh sh2 out)) (isAgg38 _) (sizeOf38 _) ?_
  have hC:edgC p.v e0.policy e0.fill (resCode p.v.w p.v.h p.v.max_ (x.map Tap.v) (y.map Tap.v) sh sh2 out) ((x.map Tap.v).length:Int) ((y.map Tap.v).length:Int) r=(resCode (⟨p.w,p.h,p.max_⟩:Shape).w (⟨p.w,p.h,p.max_⟩:Shape).h (⟨p.w,p.h,p.max_⟩:Shape).max_ (x.map Tap.v) (y.map Tap.v) sh sh2 out):=edgC_b ⟨o0,p0⟩ (by simp only [Plane.v] at*;omega)
  have s3:=(f2.drops [0,0,0,0,0,0,0])
  have u3:Sat W _ ([]::H::F):=Sat.nilc s3
  exact ⟨(⟨0,0,0,⟨none,0,0,[]⟩⟩:Plane),(resCode (⟨p.w,p.h,p.max_⟩:Shape).w (⟨p.w,p.h,p.max_⟩:Shape).h (⟨p.w,p.h,p.max_⟩:Shape).max_ (x.map Tap.v) (y.map Tap.v) sh sh2 out),_,rfl,⟨RdT.nil (enc:=Go.E.encI) (sz:=1) fR [[]]⟩,(by unfold resT;rw [okT_c hC om];rfl),u3⟩
 refine gCO e1 6 [402] rfl ?_
 refine cR call53 (p2_empty r e1.flat) ?_
 intro _ f1
 refine pu1 ?_
 refine sD 64 (r.x0=0/\r.y0=0/\r.x1=0/\r.y1=0) (fun g1=>?_) (fun g1=>?_)
 ·refine jOO 15 rfl ?_
  refine sTl f1 1 [I 0,I 0,I 0,nS] sizeOf38 ?_
  intro _ g2
  refine jOR 5 rfl<|retC g2 1 [I 0,I 0,I 0,nS] (I 8) (isAgg38 _) (sizeOf38 _) ?_
  obtain ⟨htx,hty,_⟩:=res_ok (show (resCode p.v.w p.v.h p.v.max_ (x.map Tap.v) (y.map Tap.v) sh sh2 out)=0 by simp only [Plane.v];omega);have hlx:=tapsCode_len htx;have hly:=tapsCode_len hty;have hxl:(x.map Tap.v).length=nx:=by rw [List.length_map];exact hn_x
  have hyl:(y.map Tap.v).length=ny:=by rw [List.length_map];exact hn_y
  have hC:edgC p.v e0.policy e0.fill (resCode p.v.w p.v.h p.v.max_ (x.map Tap.v) (y.map Tap.v) sh sh2 out) ((x.map Tap.v).length:Int) ((y.map Tap.v).length:Int) r=8:=edgC_c ⟨o0,p0⟩ (by simp only [Plane.v] at*;omega) (fun h=>by have h2:=(ins_in om om).2 h;rw [hxl,hyl] at h2;exact h2.1 g1)
  have v3:=(g2.drops [0,0,0,0,0,0,0])
  have w3:Sat W _ ([]::H::F):=Sat.nilc v3
  exact ⟨(⟨0,0,0,⟨none,0,0,[]⟩⟩:Plane),8,_,rfl,⟨RdT.nil (enc:=Go.E.encI) (sz:=1) fR [[]]⟩,(by unfold resT;rw [okT_c hC om];rfl),w3⟩
 refine gOO f1 6 [402,4] rfl<|gY ?_
 refine cR call54 (p2_inside r (⟨0,0,(nx:Int),(ny:Int)⟩:Rct) f1.flat) ?_
 intro _ i2
 refine jOC 4 rfl ?_
 refine cDn (insP r (⟨0,0,(nx:Int),(ny:Int)⟩:Rct)) (fun i1=>?_) (fun i1=>?_)
 rotate_left
 ·refine jCO 3 rfl ?_
  refine sTl i2 1 [I 0,I 0,I 0,nS] sizeOf38 ?_
  intro _ j2
  refine jOR 5 rfl<|retC j2 1 [I 0,I 0,I 0,nS] (I 8) (isAgg38 _) (sizeOf38 _) ?_
  obtain ⟨htx,hty,_⟩:=res_ok (show (resCode p.v.w p.v.h p.v.max_ (x.map Tap.v) (y.map Tap.v) sh sh2 out)=0 by simp only [Plane.v];omega);have hlx:=tapsCode_len htx;have hly:=tapsCode_len hty;have hxl:(x.map Tap.v).length=nx:=by rw [List.length_map];exact hn_x
  have hyl:(y.map Tap.v).length=ny:=by rw [List.length_map];exact hn_y
  have hC:edgC p.v e0.policy e0.fill (resCode p.v.w p.v.h p.v.max_ (x.map Tap.v) (y.map Tap.v) sh sh2 out) ((x.map Tap.v).length:Int) ((y.map Tap.v).length:Int) r=8:=edgC_c ⟨o0,p0⟩ (by simp only [Plane.v] at*;omega) (fun h=>by have h2:=(ins_in om om).2 h;rw [hxl,hyl] at h2;exact i1 h2.2)
  have x3:=(j2.drops [0,0,0,0,0,0,0])
  have y3:Sat W _ ([]::H::F):=Sat.nilc x3
  exact ⟨(⟨0,0,0,⟨none,0,0,[]⟩⟩:Plane),8,_,rfl,⟨RdT.nil (enc:=Go.E.encI) (sz:=1) fR [[]]⟩,(by unfold resT;rw [okT_c hC om];rfl),y3⟩
 refine jCC 3 rfl ?_
 have hpo:planeOK p.v=true:=o0;have hev:edgeV e0.policy e0.fill p.max_:=p0;have hcc:(resCode p.v.w p.v.h p.v.max_ (x.map Tap.v) (y.map Tap.v) sh sh2 out)=0:=by simp only [Plane.v];omega
 have hsz:=(plane_sz hpo).1;unfold sizeP at hsz;simp only [Plane.v] at hsz;obtain ⟨htx,hty,hxy,hss,hoo,hbX0,hbY0⟩:=res_ok hcc;obtain ⟨hlx,hfX⟩:=taps_ok htx;obtain ⟨hly,hfY⟩:=taps_ok hty;have hbX:=List.all_eq_true.1 hbX0;have hxl:(x.map Tap.v).length=nx:=by rw [List.length_map];exact hn_x
 have hyl:(y.map Tap.v).length=ny:=by rw [List.length_map];exact hn_y
 have hri:rIn r ((x.map Tap.v).length:Int) ((y.map Tap.v).length:Int):=(ins_in om om).1 (by rw [hxl,hyl];exact ⟨g1,i1⟩)
 have hri0:=hri;unfold rIn at hri0
 obtain ⟨Wn,hW⟩:∃k:Nat,r.x1-r.x0=(k:Int):=⟨_,(Int.toNat_of_nonneg om).symm⟩;obtain ⟨Hn,hH⟩:∃k:Nat,r.y1-r.y0=(k:Int):=⟨_,(Int.toNat_of_nonneg om).symm⟩
 have hWb:1<=Wn/\Wn<=128/\1<=Hn/\Hn<=128:=om;have hWH:Hn*Wn<=4096:=by have h1:=rIn_area hri (by first|omega|assumption);rw [hW,hH] at h1;have h2:((Hn*Wn:Nat):Int)=(Wn:Int)*(Hn:Int):=(by push_cast;rw [Int.mul_comm]);omega
 have hWi:(r.x1-r.x0)*(r.y1-r.y0)=((Hn*Wn:Nat):Int):=by rw [hW,hH];push_cast;rw [Int.mul_comm]
 have hHy:r.y1.toNat-r.y0.toNat=Hn:=by omega
 refine jCO 7 rfl ?_
 refine sMakeMapI i2 ?_
 intro u0 k2 _ z3 a4
 have j1:=Sat.nilc a4
 have b4:MapI u0 (([]:List (Int×IL)).map kvR) k2:=z3
 have c4:∀q∈([]:List (Int×IL)),IL.Ok [[]] q.2/\q.2.l.l=tapR p.v e0.policy e0.fill (x.map Tap.v) sh r.x0 q.1 Wn:=(by intro q hq;cases hq)
 obtain ⟨f,hf⟩:∃f:Int->Int->Int,f=fun i j=>resX p.v e0.policy e0.fill (x.map Tap.v) (y.map Tap.v) sh sh2 out (r.x0+i) (r.y0+j):=⟨_,rfl⟩
 refine gOO j1 9 [4,4] rfl ?_
 refine sSub r.x1 r.x0 ?_
 refine gOO j1 4 [4,4] rfl ?_
 refine sSub r.y1 r.y0 ?_
 refine pu2 ?_
 refine sAlloc j1 zeroValue38 ?_
 intro k1 _ d4
 refine sTl d4 0 [I (r.x1-r.x0),I (r.y1-r.y0),I out,nS] sizeOf38 ?_
 intro _ l2
 refine gOO l2 10 [5,5] rfl ?_
 refine sSl (some r.y0) (some r.y1) ((r.y0).toNat) ((r.y1).toNat) runUnderlying50 sizeOf121 ⟨om,om⟩ ⟨om,om⟩ om om ?_ (a:=ay) (len:=ny) (cap:=ky)
 have e4:=hy.part (lo:=(r.y0).toNat) (hi:=(r.y1).toNat) om om
 refine jOC 5 rfl ?_
 have f4:=Sat.nilc l2
 refine loopF [5,6,16,20,21,22,94,95] (γ:=Nat×(List (Int×IL))×Chunk×Chunk×(List Int)×(Option Addr)×Nat×Nat×Chunk) (fun ⟨i,rs1,cm1,Gm1,ps,aps,nps,kps,cps⟩ R=>⟨[(96,I (i:Int))],cps::[(k1, .cells #[I (r.x1-r.x0),I (r.y1-r.y0),I out, .slice aps nps kps] 38 (0,0))]::Gm1::cm1::R,Hn-i,i<=Hn/\(ps=gridN Wn f (i*Wn))/\OwnT Go.E.encI 3 1 aps nps kps ps cps/\MapI u0 (rs1.map kvR) cm1/\(∀q∈rs1,IL.Ok [Gm1] q.2/\q.2.l.l=tapR p.v e0.policy e0.fill (x.map Tap.v) sh r.x0 q.1 Wn)⟩) (0,([]:List (Int×IL)),k2,[],[],none,0,0,[]) ⟨f4,om,(by rw [Nat.zero_mul];rfl),(OwnT.nil (enc:=Go.E.encI) (E:=3) (sz:=1) fR),b4,c4⟩ ?_
 rintro ⟨i,rs1,cm1,Gm1,ps,aps,nps,kps,cps⟩ ρ _ ⟨v0,hi,hE,hOps,hM1,hr1⟩
 have hn_ps:=hOps.len;have hl_ps:=hOps.le
 refine jCC 6 rfl ?_
 refine cD ((i:Int)<((((r.y1).toNat-((r.y0).toNat)):Nat):Int)) (fun h4=>?_) (fun h4=>?_)
 rotate_left
 ·refine gCO v0 8 [401] rfl ?_
  refine sTl v0 5 [I (r.x1-r.x0),I (r.y1-r.y0),I out, .slice aps nps kps] sizeOf38 ?_
  intro _ m2
  refine jOR 4 rfl<|retC m2 5 [I (r.x1-r.x0),I (r.y1-r.y0),I out, .slice aps nps kps] (I 0) (isAgg38 _) (sizeOf38 _) ?_
  have hz9:ps=gridN Wn f (Hn*Wn):=by rw [hE,show i=Hn by omega]
  have hC:edgC p.v e0.policy e0.fill (resCode p.v.w p.v.h p.v.max_ (x.map Tap.v) (y.map Tap.v) sh sh2 out) ((x.map Tap.v).length:Int) ((y.map Tap.v).length:Int) r=0:=edgC_ok hpo hev hcc hri
  exact ⟨(⟨(r.x1-r.x0),(r.y1-r.y0),out,⟨aps,nps,kps,ps⟩⟩:Plane),0,_,rfl,⟨(hOps.rdAt (cs:=[cps]) 0 rfl)⟩,(by unfold resT;rw [okT_0 hC,mk_pl hri hW hH (hf▸hz9)];rfl),(m2.drops [1,1,1,1,1,1,1,1,1,1])⟩
 refine jCO 6 rfl ?_
 refine sIdx e4 (i:Int) runUnderlying50 sizeOf121 ?_
 intro a0 _ _ t0 j4
 rw [Int.toNat_natCast] at t0
 have hya:y[r.y0.toNat+i]?=some a0:=part_at t0;have hym:=map_at (f:=Tap.v) hya;have htm:=List.mem_of_getElem? hym;have hbt:=List.all_eq_true.1 hbY0 _ htm;have hft:=hfY _ htm;have hta:tapAt (y.map Tap.v) (r.y0+(i:Int))=a0.v:=tapAt_eq (by rw [show (r.y0+(i:Int)).toNat=r.y0.toNat+i by omega];exact hym)
 have hnw:=((fun z hz=>dy z (List.mem_of_mem_drop (List.mem_of_mem_take hz))) a0 (List.mem_of_getElem? t0)).weights.len;have hlw:=((fun z hz=>dy z (List.mem_of_mem_drop (List.mem_of_mem_take hz))) a0 (List.mem_of_getElem? t0)).weights.le;simp only [Tap.v] at hft
 refine sLpA v0 (j4.up 11 rfl) 0 [I a0.first, .slice a0.weights.a a0.weights.n a0.weights.k] (isAgg121 _) (sizeOf121 _) ?_
 refine sAlloc v0 zeroValue121 ?_
 intro n2 _ k4
 refine sTl k4 0 [I a0.first, .slice a0.weights.a a0.weights.n a0.weights.k] sizeOf121 ?_
 intro _ o2
 refine gOO o2 6 [2] rfl ?_
 refine sMake (kl:= .i64) (kc:= .i64) (enc:=Go.E.encI) (sz:=1) (nb:=8) o2 0 ((r.x1-r.x0)).toNat (r.x1-r.x0) (om:(r.x1-r.x0)=((((r.x1-r.x0)).toNat:Nat):Int)) underlying22 (i:=Tryz.t3) kr fR ?_
 intro l4 m4 _ n4 q2
 refine gOC q2 13 [1] rfl ?_
 refine loopF [5,6,16,20,21,22,94,95,96,24,104,105] (γ:=Nat×(List (Int×IL))×Chunk×Chunk×(List Int)×(Option Addr)×Nat×Nat×Chunk) (fun ⟨a,rs2,cm2,Gm2,zs,azs,nzs,kzs,czs⟩ R=>⟨[(106,I (a:Int)),(25, .slice azs nzs kzs)],czs::[(n2, .cells #[I a0.first, .slice a0.weights.a a0.weights.n a0.weights.k] 121 (0,0))]::cps::[(k1, .cells #[I (r.x1-r.x0),I (r.y1-r.y0),I out, .slice aps nps kps] 38 (0,0))]::Gm2::cm2::R,a0.weights.n-a,a<=a0.weights.n/\(zs=tabN (fun k=>resS p.v e0.policy e0.fill (tapAt (x.map Tap.v) (r.x0+(k:Int))) a0.v sh a) Wn)/\OwnT Go.E.encI 3 1 azs nzs kzs zs czs/\MapI u0 (rs2.map kvR) cm2/\(∀q∈rs2,IL.Ok [Gm2] q.2/\q.2.l.l=tapR p.v e0.policy e0.fill (x.map Tap.v) sh r.x0 q.1 Wn)⟩) (0,rs1,cm1,Gm1,(List.replicate ((r.x1-r.x0)).toNat 0),(At l4 0),((r.x1-r.x0)).toNat,((r.x1-r.x0)).toNat,m4) ⟨q2,om,(by rw [show (r.x1-r.x0).toNat=Wn by omega];exact tab_zero (fun _ _=>rfl)),n4,hM1,hr1⟩ ?_
 rintro ⟨a,rs2,cm2,Gm2,zs,azs,nzs,kzs,czs⟩ ρ _ ⟨i0,ha,hzs,hOzs,hM2,hr2⟩
 have hn_zs:=hOzs.len;have hl_zs:=hOzs.le
 refine jCC 6 rfl ?_
 refine cD ((a:Int)<(a0.weights.n:Int)) (fun o4=>?_) (fun o4=>?_)
 rotate_left
 ·refine jCC 6 rfl ?_
  have hzs9:zs=tabN (fun k=>resS p.v e0.policy e0.fill (tapAt (x.map Tap.v) (r.x0+(k:Int))) a0.v sh a0.v.weights.length) Wn:=by rw [hzs,show a=a0.v.weights.length from by simp only [Tap.v];omega]
  have hzl9:zs.length=Wn:=by rw [hzs9];exact tab_len _ _
  refine jCC 7 rfl ?_
  have p4:=(i0.pick 2 rfl)
  refine loopF [5,6,16,20,21,22,94,95,96,144,145] (γ:=Nat×(List Int)×(Option Addr)×Nat×Nat×Chunk) (fun ⟨j,pt,apt,npt,kpt,cpt⟩ R=>⟨[(146,I (j:Int))],cpt::czs::[(n2, .cells #[I a0.first, .slice a0.weights.a a0.weights.n a0.weights.k] 121 (0,0))]::[(k1, .cells #[I (r.x1-r.x0),I (r.y1-r.y0),I out, .slice apt npt kpt] 38 (0,0))]::R,Wn-j,j<=Wn/\(pt=gridN Wn f (i*Wn+j))/\OwnT Go.E.encI 3 1 apt npt kpt pt cpt⟩) (0,ps,aps,nps,kps,cps) ⟨p4,om,(by rw [Nat.add_zero];exact hE),hOps⟩ ?_
  rintro ⟨j,pt,apt,npt,kpt,cpt⟩ ρ _ ⟨l1,hj,hE2,hOpt⟩
  have hn_pt:=hOpt.len;have hl_pt:=hOpt.le
  have hptl:pt.length=i*Wn+j:=by rw [hE2,grid_len]
  have hij:i*Wn+j<=Hn*Wn:=by have h1:=Nat.mul_le_mul_right Wn (show i+1<=Hn by omega);rw [Nat.add_mul,Nat.one_mul] at h1;omega
  refine jCC 6 rfl ?_
  refine cD ((j:Int)<(nzs:Int)) (fun q4=>?_) (fun q4=>?_)
  rotate_left
  ·refine jCO 7 rfl ?_
   refine sAdd (i:Int) 1 ?_
   refine jOI 2 rfl ?_
   exact ⟨(i+1,rs2,cm2,Gm2,pt,apt,npt,kpt,cpt),od,alB,(l1.drops [1,1]),om,(by rw [Nat.add_mul,Nat.one_mul,hE2,show j=Wn by omega]),hOpt,hM2,hr2⟩
  refine jCO 6 rfl ?_
  refine sIdxO hOzs (j:Int) j runUnderlying22 sizeOf3 ?_
  intro j0 _ _ s4 t4 _
  have hsv:j0=resS p.v e0.policy e0.fill (tapAt (x.map Tap.v) (r.x0+(j:Int))) a0.v sh a0.v.weights.length:=by have h:=s4;rw [hzs9,tab_at om] at h;exact (Option.some.inj h).symm
  refine sLp l1 (t4.up 1 rfl) 0 (I j0) (isAgg3 _) ?_
  refine jOC 3 rfl ?_
  refine drawF l1 [4,6,7,8,10] (fb 1 3 3 1<|fn) [0,2,3,5,1,4,6,7,8,9,10] fun _ u4=>?_
  refine wV 4 ?_
  refine wL 0 ?_
  refine wO rfl ?_
  refine cR call129 (p7_shift j0 sh2 u4.flat) ?_
  intro _ r2
  refine nZ r2 [3] ?_
  refine wO rfl ?_
  refine cR call128 (p7_clamp (shiftV j0 sh2) out r2.flat) ?_
  intro _ s2
  refine nZ s2 [3] ?_
  refine wO rfl ?_
  refine sBS s2 #[I (clampV (shiftV j0 sh2) out)] runUnderlying22 sizeOf3 zeroValue3 ?_
  intro _ _ t2
  refine nZ t2 [4] ?_
  refine wO rfl ?_
  refine sApp (nb:=8) t2 hOpt 1 (RdT.blk (enc:=Go.E.encI) (sz:=1) (xs:=[(clampV (shiftV j0 sh2) out)]) fR 1 0 rfl rfl rfl om) underlying22 (i:=Tryz.t3) kr fR ?_
  intro u2 v2 v4 _ w4 x4
  refine nA ?_
  refine wV 1 ?_
  refine wO rfl ?_
  refine tW x4 4 3 (.slice u2 (npt+1) v2) sizeOf22 ?_
  intro _ y4
  refine nA ?_
  refine wN<|jXO 3 rfl ?_
  refine sAdd (j:Int) 1 ?_
  refine jOI 2 rfl ?_
  exact ⟨(j+1,(pt++[(clampV (shiftV j0 sh2) out)]),u2,(npt+1),v2,v4),od,alB,(y4.dropAt 0 rfl),om,(by rw [<-Nat.add_assoc,grid_succ om,<-hE2,hf];dsimp only;unfold resX;rw [hta,<-hsv]),w4⟩
 refine jCO 7 rfl ?_
 refine sIdx ((fun z hz=>dy z (List.mem_of_mem_drop (List.mem_of_mem_take hz))) a0 (List.mem_of_getElem? t0)).weights (a:Int) runUnderlying22 sizeOf3 ?_
 intro b0 _ _ m1 a5
 rw [Int.toNat_natCast] at m1
 have hwx:=areW_at hft.2.2 m1;have hwv:a0.v.weights[a]?=some b0:=m1
 refine sLp i0 (a5.up 13 rfl) 0 (I b0) (isAgg3 _) ?_
 refine gOO i0 9 [1] rfl ?_
 refine sAdd a0.first (a:Int) ?_
 refine jOO 8 rfl ?_
 obtain ⟨c0,k0⟩:∃m:IL,(rget rs2 (a0.first+(a:Int))).getD zIL=m:=⟨_,rfl⟩
 refine stepY (.slice c0.l.a c0.l.n c0.l.k) rfl rfl (Y_iget (k:=(a0.first+(a:Int))) i0 5 hM2 (look_v _ _ k0) runUnderlying159 runUnderlying3 zeroValue22) ?_
 refine stepY (.bool (decide (c0.l.a=none))) rfl rfl (Y_eqS rfl kr kr (eqvs22 _ c0.l.a c0.l.n c0.l.k)) ?_
 refine jOC 2 rfl ?_
 refine cD (c0.l.a=none) (fun n1=>?_) (fun n1=>?_)
 rotate_left
 ·refine jCC 3 rfl ?_
  have b5:rget rs2 (a0.first+(a:Int))=some c0:=by
   cases e9:rget rs2 (a0.first+(a:Int)) with
   |none=>exfalso;rw [e9] at k0;exact n1 (by rw [<-k0];rfl)
   |some z9=>rw [e9] at k0;exact congrArg some k0
  refine jCO 3 rfl ?_
  obtain ⟨q0,o1⟩:∃m:IL,(rget rs2 (a0.first+(a:Int))).getD zIL=m:=⟨_,rfl⟩
  refine stepY (.slice q0.l.a q0.l.n q0.l.k) rfl rfl (Y_iget (k:=(a0.first+(a:Int))) i0 5 hM2 (look_v _ _ o1) runUnderlying159 runUnderlying3 zeroValue22) ?_
  have c5:rget rs2 (a0.first+(a:Int))=some q0:=(by rw [b5] at o1⊢;exact congrArg some o1)
  have w0:=hr2 _ (rget_mem c5)
  have hnr:q0.l.n=Wn:=by have h:=w0.1.l.len;rw [w0.2,tapR,tab_len] at h;exact h.symm
  refine jOC 5 rfl ?_
  refine loopF [5,6,16,20,21,22,94,95,96,24,104,105,106,27,126,127] (γ:=Nat×(List Int)×(Option Addr)×Nat×Nat×Chunk) (fun ⟨u,zu,azu,nzu,kzu,czu⟩ R=>⟨[(128,I (u:Int)),(25, .slice azu nzu kzu)],czu::R,Wn-u,u<=Wn/\(zu=mixN (fun k=>resS p.v e0.policy e0.fill (tapAt (x.map Tap.v) (r.x0+(k:Int))) a0.v sh (a+1)) (fun k=>resS p.v e0.policy e0.fill (tapAt (x.map Tap.v) (r.x0+(k:Int))) a0.v sh a) u Wn)/\OwnT Go.E.encI 3 1 azu nzu kzu zu czu⟩) (0,zs,azs,nzs,kzs,czs) ⟨i0,om,(by rw [mix_0];exact hzs),hOzs⟩ ?_
  rintro ⟨u,zu,azu,nzu,kzu,czu⟩ ρ _ ⟨z0,hu,hzu,hOzu⟩
  have hn_zu:=hOzu.len;have hl_zu:=hOzu.le
  have hzl:zu.length=Wn:=by rw [hzu];exact mix_len _ _ _ _
  refine jCC 6 rfl ?_
  refine cD ((u:Int)<(q0.l.n:Int)) (fun d5=>?_) (fun d5=>?_)
  rotate_left
  ·refine jCO 7 rfl ?_
   refine sAdd (a:Int) 1 ?_
   refine jOI 2 rfl ?_
   exact ⟨(a+1,rs2,cm2,Gm2,zu,azu,nzu,kzu,czu),od,alB,z0,om,(by rw [hzu,show u=Wn by omega];exact mix_n _ _ _),hOzu,hM2,hr2⟩
  refine jCO 7 rfl ?_
  refine sIdx w0.1.l (u:Int) runUnderlying22 sizeOf3 ?_
  intro g0 _ _ w2 e5
  rw [Int.toNat_natCast] at w2
  have hgv:g0=tapV p.v e0.policy e0.fill (tapAt (x.map Tap.v) (r.x0+(u:Int))) sh (a0.first+(a:Int)):=by have h:=w2;rw [w0.2,tapR,tab_at om] at h;exact (Option.some.inj h).symm
  have hxu:tapAt (x.map Tap.v) (r.x0+(u:Int))∈(x.map Tap.v):=by unfold tapAt;rw [List.getElem?_eq_getElem om];exact List.getElem_mem _
  have hgb:=tap_bd hpo hev (s:=sh) (k:=(a0.first+(a:Int))) hcc hxu htm;rw [<-hgv] at hgb;have hpm:=wmul_bd (v:=g0) (B:=68719476736) hwx hgb (by decide)
  refine sLp z0 (e5.up 4 rfl) 0 (I g0) (isAgg3 _) ?_
  refine jOO 7 rfl ?_
  refine sIdxO hOzu (u:Int) u runUnderlying22 sizeOf3 ?_
  intro d0 _ _ x2 f5 _
  have hzv:d0=resS p.v e0.policy e0.fill (tapAt (x.map Tap.v) (r.x0+(u:Int))) a0.v sh a:=by have h:=x2;rw [hzu,mix_at om] at h;exact (Option.some.inj h).symm
  have hsb:=res_part hpo hev hcc hxu htm (n:=a) (by simp only [Tap.v];omega);rw [<-hzv] at hsb
  refine sLp z0 (f5.up 0 rfl) 0 (I d0) (isAgg3 _) ?_
  refine pu2 ?_
  refine sMul b0 g0 ?_
  refine sAdd d0 (b0*g0) ?_
  refine sIdxO hOzu (u:Int) u runUnderlying22 sizeOf3 ?_
  intro g5 _ _ q1 _ h5
  obtain rfl:d0=g5:=Option.some.inj (x2.symm.trans q1)
  have hzv:d0=resS p.v e0.policy e0.fill (tapAt (x.map Tap.v) (r.x0+(u:Int))) a0.v sh a:=by have h:=q1;rw [hzu,mix_at om] at h;exact (Option.some.inj h).symm
  have hsb:=res_part hpo hev hcc hxu htm (n:=a) (by simp only [Tap.v];omega);rw [<-hzv] at hsb
  refine sStF z0 hOzu h5 0 u 0 d0 (d0+(b0*g0)) q1 (I (d0+(b0*g0))) [I (d0+(b0*g0))] sizeOf3 ?_
  intro _ i5 j5 k5
  refine jOO 4 rfl ?_
  refine sAdd (u:Int) 1 ?_
  refine jOI 2 rfl ?_
  exact ⟨(u+1,(zu.set u (d0+(b0*g0))),azu,nzu,kzu,i5),od,alB,k5,om,(by rw [hzu];exact mix_set (rmix_at (n:=Wn) hwv om hzv (by rw [hgv];rfl))),j5⟩
 refine jCO 5 rfl ?_
 have l5:=(i0.picks [9,11,12,12,12])
 refine cXc #[Pt a2 0,Pt w1 0,Pt u1 0,Pt v1 0,Pt z1 0] call133 (p11_row (a0.first+(a:Int)) a2 w1 u1 v1 z1 p e0 ax nx kx x sh r ⟨(RdT.flat (hp.pix.up 8 (by rfl)))⟩ (RdT.flat (hx.up 8 (by rfl))) (fun z hz=>(dx z hz).of_mem (mem_flat1 8 (by rfl))) hpo hev om hbX hfX (sat_flat5 l5)) ?_
 rintro _ _ ⟨l0,m0,n0,r0,y2,rfl,r1,z2,m5⟩
 have n5:=sat_unflat6 m5
 have hn_az_97:=r1.len;have hl_az_97:=r1.le
 have a3:rget rs2 (a0.first+(a:Int))=none:=by
  cases e9:rget rs2 (a0.first+(a:Int)) with
  |none=>rfl
  |some z9=>exfalso;rw [e9] at k0;have h9:=hr2 _ (rget_mem e9);have e8:z9=c0:=k0;rw [e8] at h9;have h7:=h9.1.l.len;rw [h9.2,tapR,tab_len] at h7;exact rd_some h9.1.l om n1
 refine sIAdd (k:=(a0.first+(a:Int))) (v:= .slice l0 m0 n0) n5 11 hM2 (by rw [iget_map,a3];rfl) runUnderlying159 runUnderlying3 ?_
 intro b3 _ o5 p5
 have q5:=(p5.picks [10,1])
 have c3:=q5.merge2
 have d3:MapI u0 ((rs2++[((a0.first+(a:Int)),(⟨⟨l0,m0,n0,r0⟩⟩:IL))]).map kvR) b3:=by rw [List.map_append];exact o5
 have e3:∀q∈(rs2++[((a0.first+(a:Int)),(⟨⟨l0,m0,n0,r0⟩⟩:IL))]),IL.Ok [(y2++Gm2)] q.2/\q.2.l.l=tapR p.v e0.policy e0.fill (x.map Tap.v) sh r.x0 q.1 Wn:=by
  intro q hq
  rcases List.mem_append.1 hq with h9|h9
  ·exact ⟨(hr2 q h9).1.of_mem mS,(hr2 q h9).2⟩
  ·simp only [List.mem_singleton] at h9;subst h9;exact ⟨⟨r1.of_mem mS⟩,by rw [show (r.x1-r.x0).toNat=Wn by omega] at z2;exact z2⟩
 refine jOO 6 rfl ?_
 obtain ⟨s0,s1⟩:∃m:IL,(rget (rs2++[((a0.first+(a:Int)),(⟨⟨l0,m0,n0,r0⟩⟩:IL))]) (a0.first+(a:Int))).getD zIL=m:=⟨_,rfl⟩
 refine stepY (.slice s0.l.a s0.l.n s0.l.k) rfl rfl (Y_iget (k:=(a0.first+(a:Int))) c3 10 d3 (look_v _ _ s1) runUnderlying159 runUnderlying3 zeroValue22) ?_
 have r5:rget (rs2++[((a0.first+(a:Int)),(⟨⟨l0,m0,n0,r0⟩⟩:IL))]) (a0.first+(a:Int))=some s0:=(by have e9:=rget_push (m:=(⟨⟨l0,m0,n0,r0⟩⟩:IL)) a3;rw [e9] at s1⊢;exact congrArg some s1)
 have a1:=e3 _ (rget_mem r5)
 have hnr:s0.l.n=Wn:=by have h:=a1.1.l.len;rw [a1.2,tapR,tab_len] at h;exact h.symm
 refine jOC 5 rfl ?_
 have s5:=(c3.pick 6 rfl)
 refine loopF [5,6,16,20,21,22,94,95,96,24,104,105,106,27,126,127] (γ:=Nat×(List Int)×(Option Addr)×Nat×Nat×Chunk) (fun ⟨u,zu,azu,nzu,kzu,czu⟩ R=>⟨[(128,I (u:Int)),(25, .slice azu nzu kzu)],czu::R,Wn-u,u<=Wn/\(zu=mixN (fun k=>resS p.v e0.policy e0.fill (tapAt (x.map Tap.v) (r.x0+(k:Int))) a0.v sh (a+1)) (fun k=>resS p.v e0.policy e0.fill (tapAt (x.map Tap.v) (r.x0+(k:Int))) a0.v sh a) u Wn)/\OwnT Go.E.encI 3 1 azu nzu kzu zu czu⟩) (0,zs,azs,nzs,kzs,czs) ⟨s5,om,(by rw [mix_0];exact hzs),hOzs⟩ ?_
 rintro ⟨u,zu,azu,nzu,kzu,czu⟩ ρ _ ⟨b1,hu,hzu,hOzu⟩
 have hn_zu:=hOzu.len;have hl_zu:=hOzu.le
 have hzl:zu.length=Wn:=by rw [hzu];exact mix_len _ _ _ _
 refine jCC 6 rfl ?_
 refine cD ((u:Int)<(s0.l.n:Int)) (fun t5=>?_) (fun t5=>?_)
 rotate_left
 ·refine jCO 7 rfl ?_
  refine sAdd (a:Int) 1 ?_
  refine jOI 2 rfl ?_
  exact ⟨(a+1,(rs2++[((a0.first+(a:Int)),(⟨⟨l0,m0,n0,r0⟩⟩:IL))]),b3,(y2++Gm2),zu,azu,nzu,kzu,czu),od,alB,(b1.picks [5,4,6,5,12,12,12,8,12,12,12,11]),om,(by rw [hzu,show u=Wn by omega];exact mix_n _ _ _),hOzu,d3,e3⟩
 refine jCO 7 rfl ?_
 refine sIdx a1.1.l (u:Int) runUnderlying22 sizeOf3 ?_
 intro h0 _ _ f3 v5
 rw [Int.toNat_natCast] at f3
 have hgv:h0=tapV p.v e0.policy e0.fill (tapAt (x.map Tap.v) (r.x0+(u:Int))) sh (a0.first+(a:Int)):=by have h:=f3;rw [a1.2,tapR,tab_at om] at h;exact (Option.some.inj h).symm
 have hxu:tapAt (x.map Tap.v) (r.x0+(u:Int))∈(x.map Tap.v):=by unfold tapAt;rw [List.getElem?_eq_getElem om];exact List.getElem_mem _
 have hgb:=tap_bd hpo hev (s:=sh) (k:=(a0.first+(a:Int))) hcc hxu htm;rw [<-hgv] at hgb;have hpm:=wmul_bd (v:=h0) (B:=68719476736) hwx hgb (by decide)
 refine sLp b1 (v5.up 1 rfl) 0 (I h0) (isAgg3 _) ?_
 refine jOO 7 rfl ?_
 refine sIdxO hOzu (u:Int) u runUnderlying22 sizeOf3 ?_
 intro f0 _ _ g3 w5 _
 have hzv:f0=resS p.v e0.policy e0.fill (tapAt (x.map Tap.v) (r.x0+(u:Int))) a0.v sh a:=by have h:=g3;rw [hzu,mix_at om] at h;exact (Option.some.inj h).symm
 have hsb:=res_part hpo hev hcc hxu htm (n:=a) (by simp only [Tap.v];omega);rw [<-hzv] at hsb
 refine sLp b1 (w5.up 0 rfl) 0 (I f0) (isAgg3 _) ?_
 refine pu2 ?_
 refine sMul b0 h0 ?_
 refine sAdd f0 (b0*h0) ?_
 refine sIdxO hOzu (u:Int) u runUnderlying22 sizeOf3 ?_
 intro x5 _ _ t1 _ y5
 obtain rfl:f0=x5:=Option.some.inj (g3.symm.trans t1)
 have hzv:f0=resS p.v e0.policy e0.fill (tapAt (x.map Tap.v) (r.x0+(u:Int))) a0.v sh a:=by have h:=t1;rw [hzu,mix_at om] at h;exact (Option.some.inj h).symm
 have hsb:=res_part hpo hev hcc hxu htm (n:=a) (by simp only [Tap.v];omega);rw [<-hzv] at hsb
 refine sStF b1 hOzu y5 0 u 0 f0 (f0+(b0*h0)) t1 (I (f0+(b0*h0))) [I (f0+(b0*h0))] sizeOf3 ?_
 intro _ z5 a6 b6
 refine jOO 4 rfl ?_
 refine sAdd (u:Int) 1 ?_
 refine jOI 2 rfl ?_
 exact ⟨(u+1,(zu.set u (f0+(b0*h0))),azu,nzu,kzu,z5),od,alB,b6,om,(by rw [hzu];exact mix_set (rmix_at (n:=Wn) hwv om hzv (by rw [hgv];rfl))),a6⟩
theorem rd_nil {α:Type} {enc:α->List Value} {sz n k:Nat} {cs:List Chunk} {a:Option Addr} {xs:List α} (h:RdT enc sz cs a n k xs) (ha:a=none):xs=[]:=by
  have h1:=h.len
  by_cases hn:0<n
  · exact absurd ha (rd_some h hn)
  · cases xs with
    |nil=>rfl
    |cons x l=>simp at h1;omega
theorem srcs_a (s:StageV):s.a∈srcs s:=by unfold srcs;split<;>simp
theorem srcs_b {s:StageV} (h:twoP s):s.b∈srcs s:=by unfold srcs;rw [if_pos h];simp
theorem chk_all {j:JobV} (h:chkCode j=0):(∀s∈j.stages,∀x∈srcs s,0<=x/\x<(j.inputs.length:Int)+j.stages.length)/\∀x∈j.outputs,0<=x/\x<(j.inputs.length:Int)+j.stages.length:=by
  unfold chkCode at h
  split at h
  · split at h
    · split at h
      · rename_i h3
        split at h
        · exact (by rename_i h4;unfold inR at h3 h4;simp only [List.all_eq_true,decide_eq_true_eq] at h3 h4;exact ⟨h3,h4⟩)
        · omega
      · omega
    · omega
  · omega
section
variable {s:StageV} {p q:PlaneV}
theorem stg_1 (h:¬(planeOK p=true/\(twoP s->planeOK q=true))):stgT s p q=(zPl,1):=by unfold stgT;rw [if_neg h]
variable (h:planeOK p=true/\(twoP s->planeOK q=true))
include h
theorem stg_c (hc:¬(ofV s (shpOf p) (shpOf q)).2=0):stgT s p q=(zPl,(ofV s (shpOf p) (shpOf q)).2):=by unfold stgT;rw [if_pos h,if_neg hc]
variable (hc:(ofV s (shpOf p) (shpOf q)).2=0)
include hc
theorem stg_k4 (k:s.kind=4):stgT s p q=histT p s.bins:=by unfold stgT;rw [if_pos h,if_pos hc,if_pos k]
theorem stg_k5 (k:s.kind=5):stgT s p q=itgW p:=by unfold stgT;rw [if_pos h,if_pos hc,if_neg (by omega),if_pos k]
end
theorem of_kind {s:StageV} {x y:Shape} (h:(ofV s x y).2=0):fieldsP s:=by
  unfold ofV at h
  split at h
  · assumption
  · simp at h
theorem plAt_map {zs:List Plane} {n:Int} {x:Plane} (h:zs[n.toNat]?=some x):plAt (zs.map Plane.v) n=x.v:=by unfold plAt;rw [List.getElem?_map,h];rfl
theorem stgAt_map {ss:List Stage} {ni n:Int} {x:Stage} (h:ss[(n-ni).toNat]?=some x):stgAt (ss.map Stage.v) ni n=x.v:=by unfold stgAt;rw [List.getElem?_map,h];rfl
end Go.Proofs.YtghcddbhllkbmaaGreat
