import Derived.Test.YtmlhcafjelkjfaaGreatP3Ab
import Derived.WalkKit
import Derived.Deep.Quiet
import Derived.KernelRfl
import Derived.Laws.BytesString
import Derived.Laws.Shifts
import Derived.Laws.IdiomStrings
import Derived.Test.YtmlhcafjelkjfaaGreatProg
import Derived.Test.YtmlhcafjelkjfaaGreatP3Api
namespace Go.Proofs.YtmlhcafjelkjfaaGreat
open Go Go.E Go.Proofs.Tryz
set_option linter.all false
set_option maxRecDepth 100000
set_option maxHeartbeats 2000000
variable {W w:World} {H:Chunk} {F:List Chunk}
structure Edge where
  policy:Int
  fill:Int
  deriving DecidableEq
theorem r7_isw (x:Int) (hS:Sat W w (H::F)):
  Ro prog 218 #[I x] (.bool (decide ((-32767:Int)<=x/\x<=(32767:Int)))) W w (H::F):=by
 refine callsA 9 func218 rfl<|sR<|pu1<|zS<|pu3<|sD 5 (x>=(-32767)) (fun a0=>?_) (fun a0=>?_)
 rotate_left
 ·exact pu4<|zE<|retT [.bool false]<|⟨rB bq,hS⟩
 exact pu4<|zE<|retT [.bool (decide ((x:Int)<=32767))]<|⟨rB bq,hS⟩
theorem r7_iss (x:Int) (hS:Sat W w (H::F)):
  Ro prog 198 #[I x] (.bool (decide ((0:Int)<=x/\x<=(24:Int)))) W w (H::F):=by
 refine callsA 9 func198 rfl<|sR<|pu1<|zS<|pu3<|sD 5 (x>=0) (fun a0=>?_) (fun a0=>?_)
 rotate_left
 ·exact pu4<|zE<|retT [.bool false]<|⟨rB bq,hS⟩
 exact pu4<|zE<|retT [.bool (decide ((x:Int)<=24))]<|⟨rB bq,hS⟩
theorem r7_acc (x:Int) (hS:Sat W w (H::F)):
  Ro prog 205 #[I x] (.bool (decide ((-17592186044416:Int)<=x/\x<=(17592186044416:Int)))) W w (H::F):=by
 refine callsA 9 func205 rfl<|sR<|pu1<|zS<|pu3<|sD 5 (x>=(-17592186044416)) (fun a0=>?_) (fun a0=>?_)
 rotate_left
 ·exact pu4<|zE<|retT [.bool false]<|⟨rB bq,hS⟩
 exact pu4<|zE<|retT [.bool (decide ((x:Int)<=17592186044416))]<|⟨rB bq,hS⟩
theorem r9_side (x:Int) (hS:Sat W w (H::F)):
  Ro prog 196 #[I x] (.bool (decide ((1:Int)<=x/\x<=(9:Int)))) W w (H::F):=by
 refine callsA 9 func196 rfl<|sR<|pu1<|zS<|pu3<|sD 5 (x>=1) (fun a0=>?_) (fun a0=>?_)
 rotate_left
 ·exact pu4<|zE<|retT [.bool false]<|⟨rB bq,hS⟩
 exact pu4<|zE<|retT [.bool (decide ((x:Int)<=9))]<|⟨rB bq,hS⟩
theorem r9_value (x:Int) (hS:Sat W w (H::F)):
  Ro prog 199 #[I x] (.bool (decide ((1:Int)<=x/\x<=(4294967296:Int)))) W w (H::F):=by
 refine callsA 9 func199 rfl<|sR<|pu1<|zS<|pu3<|sD 5 (x>=1) (fun a0=>?_) (fun a0=>?_)
 rotate_left
 ·exact pu4<|zE<|retT [.bool false]<|⟨rB bq,hS⟩
 exact pu4<|zE<|retT [.bool (decide ((x:Int)<=4294967296))]<|⟨rB bq,hS⟩
theorem r12_bins (x:Int) (hS:Sat W w (H::F)):
  Ro prog 124 #[I x] (.bool (decide ((1:Int)<=x/\x<=(128:Int)))) W w (H::F):=by
 refine callsA 9 func124 rfl<|sR<|pu1<|zS<|pu3<|sD 5 (x>=1) (fun a0=>?_) (fun a0=>?_)
 rotate_left
 ·exact pu4<|zE<|retT [.bool false]<|⟨rB bq,hS⟩
 exact pu4<|zE<|retT [.bool (decide ((x:Int)<=128))]<|⟨rB bq,hS⟩
theorem r8_side (x:Int) (hS:Sat W w (H::F)):
  Ro prog 164 #[I x] (.bool (decide ((1:Int)<=x/\x<=(128:Int)))) W w (H::F):=by
 refine callsA 9 func164 rfl<|sR<|pu1<|zS<|pu3<|sD 5 (x>=1) (fun a0=>?_) (fun a0=>?_)
 rotate_left
 ·exact pu4<|zE<|retT [.bool false]<|⟨rB bq,hS⟩
 exact pu4<|zE<|retT [.bool (decide ((x:Int)<=128))]<|⟨rB bq,hS⟩
theorem r8_first (x:Int) (hS:Sat W w (H::F)):
  Ro prog 220 #[I x] (.bool (decide ((-128:Int)<=x/\x<=(256:Int)))) W w (H::F):=by
 refine callsA 9 func220 rfl<|sR<|pu1<|zS<|pu3<|sD 5 (x>=(-128)) (fun a0=>?_) (fun a0=>?_)
 rotate_left
 ·exact pu4<|zE<|retT [.bool false]<|⟨rB bq,hS⟩
 exact pu4<|zE<|retT [.bool (decide ((x:Int)<=256))]<|⟨rB bq,hS⟩
theorem r4_size (w0:Int) (h0:Int) (m0:Int) (hS:Sat W w (H::F)):
  Ro prog 58 #[I w0,I h0,I m0] (.bool (decide ((1:Int)<=w0/\w0<=(128:Int)/\(1:Int)<=h0/\h0<=(128:Int)/\w0*h0<=(4096:Int)/\(1:Int)<=m0/\m0<=(4294967296:Int)))) W w (H::F):=by
 refine callsA 35 func58 rfl<|sR<|pu1<|zS<|pu3<|sD 9 (w0>=1) (fun a0=>?_) (fun a0=>?_)
 rotate_left
 ·exact pu16<|pu10<|zE<|retT [.bool false]<|⟨rB bq,hS⟩
 refine pu4<|sD 13 (w0<=128) (fun b0=>?_) (fun b0=>?_)
 rotate_left
 ·exact pu16<|pu6<|zE<|retT [.bool false]<|⟨rB bq,hS⟩
 refine pu4<|sD 17 (h0>=1) (fun c0=>?_) (fun c0=>?_)
 rotate_left
 ·exact pu16<|pu2<|zE<|retT [.bool false]<|⟨rB bq,hS⟩
 refine pu4<|sD 21 (h0<=128) (fun d0=>?_) (fun d0=>?_)
 rotate_left
 ·exact pu14<|zE<|retT [.bool false]<|⟨rB bq,hS⟩
 refine pu2<|gY ?_
 have hwh:=mul_bd (a:=w0) (b:=h0) (A:=128) (B:=128) om om
 refine sMul w0 h0<|pu3<|sD 27 ((w0*h0)<=4096) (fun e0=>?_) (fun e0=>?_)
 rotate_left
 ·exact pu8<|zE<|retT [.bool false]<|⟨rB bq,hS⟩
 refine pu4<|sD 31 (m0>=1) (fun f0=>?_) (fun f0=>?_)
 rotate_left
 ·exact pu4<|zE<|retT [.bool false]<|⟨rB bq,hS⟩
 exact pu4<|zE<|retT [.bool (decide ((m0:Int)<=4294967296))]<|⟨rB bq,hS⟩
def sizeP (w h m:Int):Prop:=1<=w/\w<=128/\1<=h/\h<=128/\w*h<=4096/\1<=m/\m<=4294967296
instance (w h m:Int):Decidable (sizeP w h m):=by unfold sizeP;infer_instance
def areW (l:List Int):Bool:=l.all fun n=>decide (-32767<=n/\n<=32767)
def pixOK (m:Int) (l:List Int):Bool:=l.all fun n=>decide (0<=n/\n<=m)
def planeOK (p:PlaneV):Bool:=decide (sizeP p.w p.h p.max_/\(p.pix.length:Int)=p.w*p.h)&&pixOK p.max_ p.pix
theorem planeOK_t {p:PlaneV} (h:sizeP p.w p.h p.max_/\(p.pix.length:Int)=p.w*p.h) (h2:pixOK p.max_ p.pix=true):planeOK p=true:=by simp [planeOK,h,h2]
theorem planeOK_f1 {p:PlaneV} (h:¬(sizeP p.w p.h p.max_/\(p.pix.length:Int)=p.w*p.h)):planeOK p=false:=by simp [planeOK];intro h1 h2;exact absurd ⟨h1,h2⟩ h
theorem planeOK_f2 {p:PlaneV} (h:pixOK p.max_ p.pix=false):planeOK p=false:=by simp [planeOK,h]
theorem r7_arew (ax:Option Addr) (nx kx:Nat) (x:List Int) (hx:RdT Go.E.encI 1 [H] ax nx kx x) (hS:Sat W w (H::F)):
  Ro prog 197 #[.slice ax nx kx] (.bool (areW x)) W w (H::F):=by
 have hl_x:=hx.le;have hn_x:=hx.len
 refine callsA 16 func197 rfl<|sR<|pu1<|zQ<|pu1<|nT<|blockE<|loopA (γ:=Nat) (fun i=>[(0, .slice ax nx kx),(3,I (i:Int))]) (fun i w=>Sat W w (H::F)/\i<=nx/\(areW (x.take i)=true)) (fun i=>nx-i) 0 ⟨hS,om,by rfl⟩ ?_
 rintro i ρ _ ⟨b0,hi,hE⟩
 refine seqE<|sR<|pu4<|nT<|cD ((i:Int)<(nx:Int)) (fun e0=>?_) (fun e0=>?_)
 rotate_left
 ·exact exitE<|xB<|tN<|sR<|pu1<|zE<|retT [.bool true]<|⟨by rw [show areW x=true from all_of_take hE om];rfl,b0⟩
 refine kT<|seqE<|blockE<|sR<|pu2<|sIdx hx (i:Int) runUnderlying22 sizeOf3 fun a0 _ _ c0 f0=>?_
 rw [Int.toNat_natCast] at c0
 refine sLp b0 (f0.up 0 rfl) 0 (I a0) (isAgg3 _)<|cR call218 (r7_isw a0 b0.flat) fun _ d0=>pu1<|nT<|cDn ((-32767:Int)<=a0/\a0<=(32767:Int)) (fun g0=>?_) (fun g0=>?_)
 rotate_left
 ·exact sR<|pu1<|zB<|tR<|tK<|retT [.bool false]<|⟨by rw [show areW x=false from all_false_at c0 (decide_eq_false om)];rfl,d0⟩
 exact skipE<|bN<|tN<|rE<|pu1<|sAdd (i:Int) 1<|pu1<|nT<|⟨i+1,od,alA,d0,om,all_succ hE c0 (decide_eq_true om)⟩
theorem r4_valid (p:Plane) (hp:Plane.Ok [H] p) (hS:Sat W w (H::F)):
  Ro prog 76 #[.agg (encPlane p).toArray] (.bool (planeOK p.v)) W w (H::F):=by
 have hl_p_pix:=hp.pix.le;have hn_p_pix:=hp.pix.len
 refine callsA 46 func76 rfl<|sR<|sBox hS (.agg (encPlane p).toArray) (encPlane p).toArray fun c0 _ g0=>pu1<|zQ<|pu1<|sL g0 0 0 (I p.w) (isAgg3 _)<|pu1<|sL g0 0 1 (I p.h) (isAgg3 _)<|pu1<|sL g0 0 2 (I p.max_) (isAgg3 _)<|cR call58 (r4_size p.w p.h p.max_ g0.flat) fun _ d0=>pu2<|sDn 12 ((1:Int)<=p.w/\p.w<=(128:Int)/\(1:Int)<=p.h/\p.h<=(128:Int)/\p.w*p.h<=(4096:Int)/\(1:Int)<=p.max_/\p.max_<=(4294967296:Int)) (fun m0=>?_) (fun m0=>?_)
 rotate_left
 ·refine pu10<|zC<|pu1<|zR<|retT [.bool false] ?_
  have n0:=(d0.dropAt 0 rfl)
  refine ⟨rB ?_,n0⟩
  exact (planeOK_f1 (p:=p.v) (by simp only [Plane.v,sizeP];omega)).symm
 refine pu1<|gY<|sL d0 0 3 (.slice p.pix.a p.pix.n p.pix.k) (isAgg22 _)<|pu2<|gY<|sL d0 0 0 (I p.w) (isAgg3 _)<|pu1<|gY<|sL d0 0 1 (I p.h) (isAgg3 _)<|gY ?_
 have hwh:=mul_bd (a:=p.w) (b:=p.h) (A:=128) (B:=128) om om
 refine sMul p.w p.h<|pu2<|nT<|cN (p.pix.n:Int) (p.w*p.h) (fun o0=>?_) (fun o0=>?_)
 rotate_left
 ·refine sR<|pu1<|zR<|retT [.bool false] ?_
  have p0:=(d0.dropAt 0 rfl)
  refine ⟨rB ?_,p0⟩
  exact (planeOK_f1 (p:=p.v) (by simp only [Plane.v,sizeP];omega)).symm
 refine kT<|seqE<|sR<|pu1<|nT<|blockE<|loopA (γ:=Nat) (fun i=>[(1,Pt c0 0),(3,I (i:Int))]) (fun i w=>Sat W w ([(c0, .cells (encPlane p).toArray 38 (0,0))]::H::F)/\i<=p.pix.n/\(pixOK p.max_ (p.pix.l.take i)=true)) (fun i=>p.pix.n-i) 0 ⟨d0,om,by rfl⟩ ?_
 rintro i ρ _ ⟨a0,hi,hE⟩
 refine seqE<|sR<|pu2<|sL a0 0 3 (.slice p.pix.a p.pix.n p.pix.k) (isAgg22 _)<|pu2<|nT<|cD ((i:Int)<(p.pix.n:Int)) (fun q0=>?_) (fun q0=>?_)
 rotate_left
 ·refine exitE<|xB<|tN<|sR<|pu1<|zE<|retT [.bool true] ?_
  have r0:=(a0.dropAt 0 rfl)
  refine ⟨rB ?_,r0⟩
  exact (planeOK_t (p:=p.v) (by simp only [Plane.v,sizeP];omega) (all_of_take hE (by simp only [Plane.v];omega))).symm
 refine kT<|seqE<|blockE<|seqE ?_
 obtain ⟨b0,e0,f0,h0,i0,j0⟩:=RdT.elem hp.pix (i:Int)
 rw [Int.toNat_natCast] at h0
 by_cases k0:(b0:Int)<0
 ·refine drawE [] [(1,⟨c0,3,none⟩, .slice p.pix.a p.pix.n p.pix.k),(4,⟨e0,f0,none⟩,I b0)] [(true,[0,2]),(true,[1]),(true,[3]),(true,[4]),(true,[5,6]),(true,[7,9,12,8,10,11,13,14,15])] rfl kr ⟨cI a0 0, .inr ((i0.up 1 rfl).cell a0 (k:=0) rfl),trivial⟩ ?_
  have s0:=a0.drew
  refine wU [0,2]<|wLd (.slice p.pix.a p.pix.n p.pix.k) 0 isAgg22<|wY (.pointer (some ⟨e0,f0,none⟩)) rfl (fun w _=>Y_idx (a:=p.pix.a) (i:=(i:Int)) (len:=p.pix.n) (cap:=p.pix.k) rfl runUnderlying22 sizeOf3 kr kr j0)<|wLd (I b0) 1 isAgg3<|wU [5,6]<|wFix 36 _ true (decide_eq_true k0)<|wU [7,9,12,8,10,11,13,14,15]<|wN<|tN<|cTt<|sR<|pu1<|zB<|tR<|tK<|retT [.bool false] ?_
  have t0:=(s0.dropAt 0 rfl)
  refine ⟨rB ?_,t0⟩
  exact (planeOK_f2 (p:=p.v) (all_false_at h0 (decide_eq_false (by simp only [Plane.v];omega)))).symm
 refine drawE [] [(1,⟨c0,3,none⟩, .slice p.pix.a p.pix.n p.pix.k),(4,⟨e0,f0,none⟩,I b0),(8,⟨c0,3,none⟩, .slice p.pix.a p.pix.n p.pix.k),(11,⟨e0,f0,none⟩,I b0),(13,⟨c0,2,none⟩,I p.max_)] [(true,[0,2]),(true,[1]),(true,[3]),(true,[4]),(true,[5,6]),(true,[7,9,12]),(true,[8]),(true,[10]),(true,[11]),(true,[13]),(true,[14,15])] rfl kr ⟨cI a0 0, .inr ((i0.up 1 rfl).cell a0 (k:=0) rfl),cI a0 0, .inr ((i0.up 1 rfl).cell a0 (k:=0) rfl),cI a0 0,trivial⟩ ?_
 have l0:=a0.drew
 refine wU [0,2]<|wLd (.slice p.pix.a p.pix.n p.pix.k) 0 isAgg22<|wY (.pointer (some ⟨e0,f0,none⟩)) rfl (fun w _=>Y_idx (a:=p.pix.a) (i:=(i:Int)) (len:=p.pix.n) (cap:=p.pix.k) rfl runUnderlying22 sizeOf3 kr kr j0)<|wLd (I b0) 1 isAgg3<|wU [5,6]<|wFix 36 _ false (decide_eq_false k0)<|wU [7,9,12]<|wLd (.slice p.pix.a p.pix.n p.pix.k) 2 isAgg22<|wY (.pointer (some ⟨e0,f0,none⟩)) rfl (fun w _=>Y_idx (a:=p.pix.a) (i:=(i:Int)) (len:=p.pix.n) (cap:=p.pix.k) rfl runUnderlying22 sizeOf3 kr kr j0)<|wLd (I b0) 3 isAgg3<|wLd (I p.max_) 4 isAgg3<|wU [14,15]<|wN<|tN<|cD (b0>p.max_) (fun u0=>?_) (fun u0=>?_)
 rotate_left
 ·exact skipE<|bN<|tN<|rE<|pu1<|sAdd (i:Int) 1<|pu1<|nT<|⟨i+1,od,alA,l0,om,all_succ hE h0 (decide_eq_true om)⟩
 refine sR<|pu1<|zB<|tR<|tK<|retT [.bool false] ?_
 have v0:=(l0.dropAt 0 rfl)
 refine ⟨rB ?_,v0⟩
 exact (planeOK_f2 (p:=p.v) (all_false_at h0 (decide_eq_false (by simp only [Plane.v];omega)))).symm
def wCode (l:List Int):Int:=if l.length=0\/81<l.length then 9 else if areW l=true then 0 else 10
theorem r7_weights (ax:Option Addr) (nx kx:Nat) (x:List Int) (hx:RdT Go.E.encI 1 [H] ax nx kx x) (hS:Sat W w (H::F)):
  Ro prog 219 #[.slice ax nx kx] (I (wCode x)) W w (H::F):=by
 have hl_x:=hx.le;have hn_x:=hx.len
 refine callsA 14 func219 rfl<|sR<|pu1<|zQ<|pu4<|sE 6 (nx:Int) 0 (fun b0=>?_) (fun b0=>?_)
 ·refine pu4<|zC<|pu1<|zR<|retT [I 9]<|⟨?_,hS⟩
  unfold wCode
  (repeat' split)<;>first|rfl|(exfalso;omega)|contradiction|(exfalso;simp_all;done)|(simp_all;done)
 refine pu4<|nT<|cD ((nx:Int)>81) (fun c0=>?_) (fun c0=>?_)
 ·refine sR<|pu1<|zR<|retT [I 9]<|⟨?_,hS⟩
  unfold wCode
  (repeat' split)<;>first|rfl|(exfalso;omega)|contradiction|(exfalso;simp_all;done)|(simp_all;done)
 refine kT<|seqE<|sR<|pu1<|cR call197 (r7_arew ax nx kx x (RdT.flat (hx.up 0 (by rfl))) hS.flat) fun _ a0=>pu1<|nT<|cBn (areW x) (fun d0=>?_) (fun d0=>?_)
 rotate_left
 ·refine sR<|pu1<|zR<|retT [I 10]<|⟨?_,a0⟩
  unfold wCode
  (repeat' split)<;>first|rfl|(exfalso;omega)|contradiction|(exfalso;simp_all;done)|(simp_all;done)
 refine kS<|pu1<|zE<|retT [I 0]<|⟨?_,a0⟩
 unfold wCode
 (repeat' split)<;>first|rfl|(exfalso;omega)|contradiction|(exfalso;simp_all;done)|(simp_all;done)
def accP (x:Int):Prop:=-17592186044416<=x/\x<=17592186044416
instance (x:Int):Decidable (accP x):=by unfold accP;infer_instance
def sumLo (l:List Int) (lo hi:Int):Int:=(l.map fun w=>min (w*lo) (w*hi)).sum
def sumHi (l:List Int) (lo hi:Int):Int:=(l.map fun w=>max (w*lo) (w*hi)).sum
def bndOK (l:List Int) (lo hi:Int):Bool:=decide (wCode l=0/\lo<=hi/\-68719476736<=lo/\hi<=68719476736/\accP (sumLo l lo hi)/\accP (sumHi l lo hi))
def bndLo (l:List Int) (lo hi:Int):Int:=if bndOK l lo hi=true then sumLo l lo hi else 0
def bndHi (l:List Int) (lo hi:Int):Int:=if bndOK l lo hi=true then sumHi l lo hi else 0
theorem wCode_len {l:List Int} (h:wCode l=0):0<l.length/\l.length<=81/\areW l=true:=by
  unfold wCode at h
  split at h
  · omega
  · split at h
    · refine ⟨by omega,by omega,by assumption⟩
    · omega
theorem areW_at {l:List Int} (h:areW l=true) {i:Nat} {x:Int} (hx:l[i]?=some x):-32767<=x/\x<=32767:=by
  have:=List.all_eq_true.1 h x (List.mem_of_getElem? hx)
  simpa using this
theorem sum_at {f:Int->Int} {l:List Int} {i:Nat} {x:Int} (hx:l[i]?=some x):((l.take (i+1)).map f).sum=((l.take i).map f).sum+f x:=by
  rw [take_succ_at hx];simp
theorem bnd_ret {l:List Int} {lo hi a b:Int} {i:Nat} (hw:wCode l=0) (h1:lo<=hi) (h2:-68719476736<=lo/\hi<=68719476736) (ha:a=sumLo (l.take i) lo hi) (hb:b=sumHi (l.take i) lo hi) (hi':l.length<=i) (ca:accP a) (cb:accP b):bndOK l lo hi=true/\bndLo l lo hi=a/\bndHi l lo hi=b:=by
  rw [List.take_of_length_le hi'] at ha hb
  have h:bndOK l lo hi=true:=by unfold bndOK;exact decide_eq_true ⟨hw,h1,h2.1,h2.2,by rw [<-ha];exact ca,by rw [<-hb];exact cb⟩
  exact ⟨h,by unfold bndLo;rw [if_pos h,ha],by unfold bndHi;rw [if_pos h,hb]⟩
theorem bnd_bad {l:List Int} {lo hi:Int} (h:¬(wCode l=0/\lo<=hi/\-68719476736<=lo/\hi<=68719476736/\accP (sumLo l lo hi)/\accP (sumHi l lo hi))):bndOK l lo hi=false/\bndLo l lo hi=0/\bndHi l lo hi=0:=by
  have h:bndOK l lo hi=false:=by unfold bndOK;exact decide_eq_false h
  exact ⟨h,by unfold bndLo;rw [h];rfl,by unfold bndHi;rw [h];rfl⟩
theorem bnd_bad2 {l:List Int} {lo hi a b:Int} {i:Nat} (ha:a=sumLo (l.take i) lo hi) (hb:b=sumHi (l.take i) lo hi) (hi':l.length<=i) (h:¬(accP a/\accP b)):bndOK l lo hi=false/\bndLo l lo hi=0/\bndHi l lo hi=0:=by
  rw [List.take_of_length_le hi'] at ha hb
  exact bnd_bad fun h2=>h ⟨by rw [ha];exact h2.2.2.2.2.1,by rw [hb];exact h2.2.2.2.2.2⟩
theorem r7_bounds (ax:Option Addr) (nx kx:Nat) (x:List Int) (lo:Int) (up:Int) (hx:RdT Go.E.encI 1 [H] ax nx kx x) (hS:Sat W w (H::F)):
  Ro prog 200 #[.slice ax nx kx,I lo,I up] (.tuple #[I (bndLo x lo up),I (bndHi x lo up), .bool (bndOK x lo up)]) W w (H::F):=by
 have hl_x:=hx.le;have hn_x:=hx.len
 refine callsA 68 func200 rfl<|sR<|pu3<|zQ<|pu1<|cR call219 (r7_weights ax nx kx x (RdT.flat (hx.up 0 (by rfl))) hS.flat) fun _ b0=>pu2<|sN 17 (wCode x) 0 (fun k0=>?_) (fun k0=>?_)
 rotate_left
 ·refine pu12<|zC<|pu3<|zR<|retT [I 0,I 0, .bool false] ?_
  obtain ⟨e1,e2,e3⟩:=bnd_bad (l:=x) (lo:=lo) (hi:=up) om
  exact ⟨by rw [e1,e2,e3];rfl,b0⟩
 refine pu5<|sD 22 (lo>up) (fun l0=>?_) (fun l0=>?_)
 ·refine pu7<|zC<|pu3<|zR<|retT [I 0,I 0, .bool false] ?_
  obtain ⟨e1,e2,e3⟩:=bnd_bad (l:=x) (lo:=lo) (hi:=up) om
  exact ⟨by rw [e1,e2,e3];rfl,b0⟩
 refine pu4<|sD 26 (lo<(-68719476736)) (fun m0=>?_) (fun m0=>?_)
 ·refine pu3<|zC<|pu3<|zR<|retT [I 0,I 0, .bool false] ?_
  obtain ⟨e1,e2,e3⟩:=bnd_bad (l:=x) (lo:=lo) (hi:=up) om
  exact ⟨by rw [e1,e2,e3];rfl,b0⟩
 refine pu3<|nT<|cD (up>68719476736) (fun n0=>?_) (fun n0=>?_)
 ·refine sR<|pu3<|zR<|retT [I 0,I 0, .bool false] ?_
  obtain ⟨e1,e2,e3⟩:=bnd_bad (l:=x) (lo:=lo) (hi:=up) om
  exact ⟨by rw [e1,e2,e3];rfl,b0⟩
 refine kS<|pu2<|nT<|seqE<|seqE ?_
 obtain ⟨hw0,hw81,hw⟩:=wCode_len (l:=x) om
 refine rE<|pu1<|nT<|blockE<|loopA (γ:=Nat×Int×Int) (fun ⟨i,a,b⟩=>[(0, .slice ax nx kx),(1,I lo),(2,I up),(11,I (i:Int)),(9,I a),(10,I b)]) (fun ⟨i,a,b⟩ w=>Sat W w (H::F)/\i<=nx/\(a=sumLo (x.take i) lo up)/\(b=sumHi (x.take i) lo up)/\(-(2251799813685248*(i:Int))<=a/\a<=2251799813685248*(i:Int)/\-(2251799813685248*(i:Int))<=b/\b<=2251799813685248*(i:Int))) (fun ⟨i,a,b⟩=>nx-i) (0,0,0) ⟨b0,om,by rfl,by rfl,om⟩ ?_
 rintro ⟨i,a,b⟩ ρ _ ⟨c0,hi,ha,hb,hab⟩
 refine seqE<|sR<|pu4<|nT<|cD ((i:Int)<(nx:Int)) (fun o0=>?_) (fun o0=>?_)
 rotate_left
 ·refine exitE<|xB<|tN<|seqE<|sR<|pu1<|cR call205 (r7_acc a c0.flat) fun _ g0=>pu2<|sDn 61 ((-17592186044416:Int)<=a/\a<=(17592186044416:Int)) (fun p0=>?_) (fun p0=>?_)
  rotate_left
  ·refine pu4<|zC<|pu3<|zR<|retT [I 0,I 0, .bool false] ?_
   obtain ⟨e1,e2,e3⟩:=bnd_bad2 (l:=x) (i:=i) ha hb om (by unfold accP;omega)
   exact ⟨by rw [e1,e2,e3];rfl,g0⟩
  refine pu1<|gY<|cR call205 (r7_acc b g0.flat) fun _ h0=>pu2<|nT<|cDn ((-17592186044416:Int)<=b/\b<=(17592186044416:Int)) (fun q0=>?_) (fun q0=>?_)
  rotate_left
  ·refine sR<|pu3<|zR<|retT [I 0,I 0, .bool false] ?_
   obtain ⟨e1,e2,e3⟩:=bnd_bad2 (l:=x) (i:=i) ha hb om (by unfold accP;omega)
   exact ⟨by rw [e1,e2,e3];rfl,h0⟩
  refine kS<|pu5<|zE<|retT [I a,I b, .bool true] ?_
  obtain ⟨e1,e2,e3⟩:=bnd_ret (l:=x) (i:=i) om om om ha hb om (by unfold accP;omega) (by unfold accP;omega)
  exact ⟨by rw [e1,e2,e3];rfl,h0⟩
 refine kT<|seqE<|blockE<|seqE ?_
 obtain ⟨a0,d0,e0,f0,i0,j0⟩:=RdT.elem hx (i:Int)
 rw [Int.toNat_natCast] at f0
 have hwx_x_11:=areW_at hw f0
 have hm1_x_11:=mul_abs (A:=32767) (B:=68719476736) hwx_x_11 (b:=lo) om;have hm2_x_11:=mul_abs (A:=32767) (B:=68719476736) hwx_x_11 (b:=up) om
 refine drawE [] [(3,⟨d0,e0,none⟩,I a0),(9,⟨d0,e0,none⟩,I a0)] [(true,[0,1]),(true,[2]),(true,[4,6,7]),(true,[8]),(true,[10]),(true,[3]),(true,[5]),(true,[12]),(true,[9]),(true,[11]),(true,[13])] rfl kr ⟨.inr ((i0.up 0 rfl).cell c0 (k:=0) rfl), .inr ((i0.up 0 rfl).cell c0 (k:=0) rfl),trivial⟩ ?_
 have r0:=c0.drew
 refine wU [0,1]<|wY (.pointer (some ⟨d0,e0,none⟩)) rfl (fun w _=>Y_idx (a:=ax) (i:=(i:Int)) (len:=nx) (cap:=kx) rfl runUnderlying22 sizeOf3 kr kr j0)<|wU [4,6,7]<|wY (.pointer (some ⟨d0,e0,none⟩)) rfl (fun w _=>Y_idx (a:=ax) (i:=(i:Int)) (len:=nx) (cap:=kx) rfl runUnderlying22 sizeOf3 kr kr j0)<|wU [10]<|wLd (I a0) 0 isAgg3<|wMul a0 lo<|wU [12]<|wLd (I a0) 1 isAgg3<|wMul a0 up<|wU [13]<|wN<|tN<|rE<|pu3<|stepY (I (min (a0*lo) (a0*up))) rfl rfl (Y_min2 (a0*lo) (a0*up) rfl rfl kr kr)<|sAdd a (min (a0*lo) (a0*up))<|pu3<|stepY (I (max (a0*lo) (a0*up))) rfl rfl (Y_max2 (a0*lo) (a0*up) rfl rfl kr kr) ?_
 refine sAdd b (max (a0*lo) (a0*up))<|pu2<|nB<|rE<|pu1<|sAdd (i:Int) 1<|pu1<|nT ?_
 exact ⟨(i+1,(a+(min (a0*lo) (a0*up))),(b+(max (a0*lo) (a0*up)))),od,alA,r0,om,by have e:=sum_at (f:=fun w=>min (w*lo) (w*up)) f0;unfold sumLo at*;omega,by have e:=sum_at (f:=fun w=>max (w*lo) (w*up)) f0;unfold sumHi at*;omega,om⟩
def shiftV (a s:Int):Int:=if accP a/\0<=s/\s<=24 then (if s=0 then a else (a+2^(s-1).toNat)/2^s.toNat) else 0
theorem r7_shift (a:Int) (s:Int) (hS:Sat W w (H::F)):
  Ro prog 172 #[I a,I s] (I (shiftV a s)) W w (H::F):=by
 refine callsA 39 func172 rfl<|sR<|pu1<|zQ<|pu1<|cR call205 (r7_acc a hS.flat) fun _ c0=>pu2<|sDn 11 ((-17592186044416:Int)<=a/\a<=(17592186044416:Int)) (fun d0=>?_) (fun d0=>?_)
 rotate_left
 ·refine pu4<|zC<|pu1<|zR<|retT [I 0]<|⟨?_,c0⟩
  unfold shiftV accP
  (repeat' split)<;>first|rfl|(exfalso;omega)|contradiction|(exfalso;simp_all;done)|(simp_all;done)
 refine pu1<|gY<|cR call198 (r7_iss s c0.flat) fun _ a0=>pu2<|nT<|cDn ((0:Int)<=s/\s<=(24:Int)) (fun e0=>?_) (fun e0=>?_)
 rotate_left
 ·refine sR<|pu1<|zR<|retT [I 0]<|⟨?_,a0⟩
  unfold shiftV accP
  (repeat' split)<;>first|rfl|(exfalso;omega)|contradiction|(exfalso;simp_all;done)|(simp_all;done)
 refine kT<|seqE<|sR<|pu2<|nT<|cE s 0 (fun f0=>?_) (fun f0=>?_)
 ·refine sR<|pu2<|zR<|retT [I a]<|⟨?_,a0⟩
  unfold shiftV accP
  (repeat' split)<;>first|rfl|(exfalso;omega)|contradiction|(exfalso;simp_all;done)|(simp_all;done)
 refine kT<|seqE ?_
 have hp:=pow2_pos ((s-1)).toNat;have hp2:=pow2_le (a:=((s-1)).toNat) (b:=24) om;have hd:=pow2_pos (s).toNat;have hd2:=pow2_le (a:=(s).toNat) (b:=24) om
 refine rE<|pu2<|sSub s 1<|stepY (.int .u64 (s-1)) rfl rfl (Y_conv (k:= .i64) (a:=(s-1)) underlying3 underlying167 (wrapIn_u64 _ om) rfl kr)<|stepY (I (2^((s-1)).toNat)) rfl rfl (Y_shl1 (k':= .u64) (s-1) rfl kr kr om)<|sAdd a (2^((s-1)).toNat)<|pu1<|stepY (.int .u64 s) rfl rfl (Y_conv (k:= .i64) (a:=s) underlying3 underlying167 (wrapIn_u64 _ om) rfl kr)<|stepY (I (2^(s).toNat)) rfl rfl (Y_shl1 (k':= .u64) s rfl kr kr om)<|pu2<|nT<|seqE ?_
 have hq:=Int.mul_tdiv_add_tmod (a+(2^((s-1)).toNat)) (2^(s).toNat);have hq1:=Int.tmod_lt_of_pos (a+(2^((s-1)).toNat)) hd;have hq2:=Int.lt_tmod_of_pos (a+(2^((s-1)).toNat)) hd;have hq3:=Int.mul_comm ((a+(2^((s-1)).toNat)).tdiv (2^(s).toNat)) (2^(s).toNat);have hf:=tdiv_floor (x:=(a+(2^((s-1)).toNat))) (d:=(2^(s).toNat)) hd;have hq5:=abs_le_mul (q:=(a+(2^((s-1)).toNat)).tdiv (2^(s).toNat)) (A:=18014398509481984) hd om
 refine rE<|pu2<|sQuo (a+(2^((s-1)).toNat)) (2^(s).toNat)<|pu1<|zQ<|pu2<|sMul ((a+(2^((s-1)).toNat)).tdiv (2^(s).toNat)) (2^(s).toNat)<|pu2<|nT<|cD ((((a+(2^((s-1)).toNat)).tdiv (2^(s).toNat))*(2^(s).toNat))>(a+(2^((s-1)).toNat))) (fun b0=>?_) (fun b0=>?_)
 rotate_left
 ·refine kS<|pu2<|zE<|retT [I ((a+(2^((s-1)).toNat)).tdiv (2^(s).toNat))] ?_
  rw [if_neg b0] at hf
  exact ⟨by unfold shiftV;rw [if_pos (by unfold accP;omega),if_neg om,<-hf];rfl,a0⟩
 refine rE<|pu1<|sSub ((a+(2^((s-1)).toNat)).tdiv (2^(s).toNat)) 1<|pu1<|zS<|pu2<|zE<|retT [I (((a+(2^((s-1)).toNat)).tdiv (2^(s).toNat))-1)] ?_
 rw [if_pos b0] at hf
 exact ⟨by unfold shiftV;rw [if_pos (by unfold accP;omega),if_neg om,<-hf];rfl,a0⟩
theorem r7_span (lo:Int) (up:Int) (s:Int) (hS:Sat W w (H::F)):
    Ro prog 201 #[.int .i64 lo, .int .i64 up, .int .i64 s] (.tuple #[.int .i64 (shiftV lo s), .int .i64 (shiftV up s)]) W w (H::F):=by
  refine callsA 14 func201 rfl ?_
  refine seqE<|rE<|pu2<|nilO<|tN<|seqE<|rE<|pu2 ?_
  refine cR call172 (r7_shift lo s hS.flat) ?_
  intro w_1 hS_2
  refine pu2 ?_
  refine cR call172 (r7_shift up s hS_2.flat) ?_
  intro w_4 hS_5
  refine pu2<|nilO<|tN<|retE<|retT [.int .i64 (shiftV lo s), .int .i64 (shiftV up s)]<|?_
  exact ⟨rfl,hS_5⟩
theorem r3_valid (e0:Edge) (m:Int) (hS:Sat W w (H::F)):
  Ro prog 122 #[.agg #[I e0.policy,I e0.fill],I m] (.bool (decide ((e0.policy=3/\0<=e0.fill/\e0.fill<=m)\/(0<=e0.policy/\e0.policy<3/\e0.fill=0)))) W w (H::F):=by
 refine callsA 30 func122 rfl<|sR<|sBox hS (.agg #[I e0.policy,I e0.fill]) #[I e0.policy,I e0.fill] fun _ _ a0=>pu1<|zQ<|pu1<|sL a0 0 0 (I e0.policy) (isAgg3 _)<|pu1<|nT<|cE e0.policy 3 (fun b0=>?_) (fun b0=>?_)
 ·refine sR<|pu1<|sL a0 0 1 (I e0.fill) (isAgg3 _)<|pu2<|sD 11 (e0.fill>=0) (fun c0=>?_) (fun c0=>?_)
  rotate_left
  ·refine pu6<|zR<|retT [.bool false] ?_
   have d0:=(a0.dropAt 0 rfl)
   exact ⟨rB bq,d0⟩
  refine pu1<|gY<|sL a0 0 1 (I e0.fill) (isAgg3 _)<|pu4<|zR<|retT [.bool (decide ((e0.fill:Int)<=m))] ?_
  have f0:=(a0.dropAt 0 rfl)
  exact ⟨rB bq,f0⟩
 refine kS<|pu1<|sL a0 0 0 (I e0.policy) (isAgg3 _)<|pu2<|sD 20 (e0.policy>=0) (fun g0=>?_) (fun g0=>?_)
 rotate_left
 ·refine pu10<|zE<|retT [.bool false] ?_
  have h0:=(a0.dropAt 0 rfl)
  exact ⟨rB bq,h0⟩
 refine pu1<|gY<|sL a0 0 0 (I e0.policy) (isAgg3 _)<|pu3<|sD 25 (e0.policy<3) (fun i0=>?_) (fun i0=>?_)
 rotate_left
 ·refine pu5<|zE<|retT [.bool false] ?_
  have j0:=(a0.dropAt 0 rfl)
  exact ⟨rB bq,j0⟩
 refine pu1<|gY<|sL a0 0 1 (I e0.fill) (isAgg3 _)<|pu3<|zE<|retT [.bool ((e0.fill:Int)==0)] ?_
 have k0:=(a0.dropAt 0 rfl)
 exact ⟨rB bq,k0⟩
def mulOK (a b l:Int):Bool:=decide (0<=a/\0<=b/\0<=l/\a*b<=l)
def mulV (a b l:Int):Int:=if mulOK a b l=true then a*b else 0
theorem mul_t {a b l:Int} (h:0<=a/\0<=b/\0<=l/\a*b<=l):mulOK a b l=true/\mulV a b l=a*b:=by
  have:mulOK a b l=true:=decide_eq_true h
  exact ⟨this,by unfold mulV;rw [if_pos this]⟩
theorem mul_f {a b l:Int} (h:¬(0<=a/\0<=b/\0<=l/\a*b<=l)):mulOK a b l=false/\mulV a b l=0:=by
  have:mulOK a b l=false:=decide_eq_false h
  exact ⟨this,by unfold mulV;rw [this];rfl⟩
theorem mul_le_of {a b l:Int} (ha:0<=a) (hb:0<=b) (hl:0<=l) (h:b=0\/(0<b/\a<=l.tdiv b)):0<=a*b/\a*b<=l:=by
  refine ⟨Int.mul_nonneg ha hb,?_⟩
  rcases h with rfl|⟨h1,h2⟩
  · simpa using hl
  · rw [Int.tdiv_eq_ediv_of_nonneg hl] at h2
    exact (Int.le_ediv_iff_mul_le h1).1 h2
theorem mul_gt_of {a b l:Int} (hl:0<=l) (hb:0<b) (h:l.tdiv b<a):l<a*b:=by
  rw [Int.tdiv_eq_ediv_of_nonneg hl] at h
  have:=mt (Int.le_ediv_iff_mul_le hb (a:=a) (b:=l)).2
  omega
def mostOK (w h m:Int):Bool:=decide (1<=w/\1<=h/\1<=m/\w*h<=4294967296/\w*h*m<=4294967296)
def mostV (w h m:Int):Int:=if mostOK w h m=true then w*h*m else 0
theorem most_t {w h m:Int} (x:1<=w/\1<=h/\1<=m/\w*h<=4294967296/\w*h*m<=4294967296):mostOK w h m=true/\mostV w h m=w*h*m:=by
  have:mostOK w h m=true:=decide_eq_true x
  exact ⟨this,by unfold mostV;rw [if_pos this]⟩
theorem most_f {w h m:Int} (x:¬(1<=w/\1<=h/\1<=m/\w*h<=4294967296/\w*h*m<=4294967296)):mostOK w h m=false/\mostV w h m=0:=by
  have:mostOK w h m=false:=decide_eq_false x
  exact ⟨this,by unfold mostV;rw [this];rfl⟩
theorem r1_mul (a:Int) (b:Int) (l:Int) (hl:l<=4611686018427387904) (hS:Sat W w (H::F)):
  Ro prog 104 #[I a,I b,I l] (.tuple #[I (mulV a b l), .bool (mulOK a b l)]) W w (H::F):=by
 refine callsA 32 func104 rfl<|sR<|pu2<|zQ<|pu3<|sD 10 (a<0) (fun a0=>?_) (fun a0=>?_)
 ·refine pu16<|pu2<|zC<|pu2<|zR<|retT [I 0, .bool false] ?_
  obtain ⟨e1,e2⟩:=mul_f (a:=a) (b:=b) (l:=l) (by first|omega|(have:=mul_gt_of (a:=a) (b:=b) (l:=l) om om om;omega))
  exact ⟨by rw [e1,e2];rfl,hS⟩
 refine pu4<|sD 14 (b<0) (fun b0=>?_) (fun b0=>?_)
 ·refine pu14<|zC<|pu2<|zR<|retT [I 0, .bool false] ?_
  obtain ⟨e1,e2⟩:=mul_f (a:=a) (b:=b) (l:=l) (by first|omega|(have:=mul_gt_of (a:=a) (b:=b) (l:=l) om om om;omega))
  exact ⟨by rw [e1,e2];rfl,hS⟩
 refine pu4<|sD 18 (l<0) (fun c0=>?_) (fun c0=>?_)
 ·refine pu10<|zC<|pu2<|zR<|retT [I 0, .bool false] ?_
  obtain ⟨e1,e2⟩:=mul_f (a:=a) (b:=b) (l:=l) (by first|omega|(have:=mul_gt_of (a:=a) (b:=b) (l:=l) om om om;omega))
  exact ⟨by rw [e1,e2];rfl,hS⟩
 refine pu3<|sD 21 (b>0) (fun d0=>?_) (fun d0=>?_)
 rotate_left
 ·refine pu7<|nT<|cFf<|kT<|seqE ?_
  have hm:=mul_le_of (a:=a) (b:=b) (l:=l) om om om om
  refine rE<|pu2<|sMul a b<|pu2<|zE<|retT [I (a*b), .bool true] ?_
  obtain ⟨e1,e2⟩:=mul_t (a:=a) (b:=b) (l:=l) om
  exact ⟨by rw [e1,e2];rfl,hS⟩
 refine pu3<|gY<|sQuo l b<|pu3<|nT<|cD (a>(l.tdiv b)) (fun e0=>?_) (fun e0=>?_)
 ·refine sR<|pu2<|zR<|retT [I 0, .bool false] ?_
  obtain ⟨e1,e2⟩:=mul_f (a:=a) (b:=b) (l:=l) (by first|omega|(have:=mul_gt_of (a:=a) (b:=b) (l:=l) om om om;omega))
  exact ⟨by rw [e1,e2];rfl,hS⟩
 refine kT<|seqE ?_
 have hm:=mul_le_of (a:=a) (b:=b) (l:=l) om om om om
 refine rE<|pu2<|sMul a b<|pu2<|zE<|retT [I (a*b), .bool true] ?_
 obtain ⟨e1,e2⟩:=mul_t (a:=a) (b:=b) (l:=l) om
 exact ⟨by rw [e1,e2];rfl,hS⟩
theorem r13_most (s:Shape) (hS:Sat W w (H::F)):
  Ro prog 118 #[.agg #[I s.w,I s.h,I s.max_]] (.tuple #[I (mostV s.w s.h s.max_), .bool (mostOK s.w s.h s.max_)]) W w (H::F):=by
 refine callsA 37 func118 rfl<|sR<|sBox hS (.agg #[I s.w,I s.h,I s.max_]) #[I s.w,I s.h,I s.max_] fun _ _ b0=>pu2<|zS<|pu1<|sL b0 0 0 (I s.w) (isAgg3 _)<|pu1<|sL b0 0 1 (I s.h) (isAgg3 _)<|cR call104 (r1_mul s.w s.h 4294967296 (od) b0.flat) fun _ a0=>pu5<|zQ<|pu3<|sBn 16 (mulOK s.w s.h 4294967296) (fun h0=>?_) (fun h0=>?_)
 rotate_left
 ·refine pu14<|zC<|pu2<|zR<|retT [I 0, .bool false] ?_
  have c0:=(a0.dropAt 0 rfl)
  by_cases x1:0<=s.w/\0<=s.h/\(0:Int)<=4294967296/\s.w*s.h<=4294967296
  ·obtain ⟨e1,e2⟩:=mul_t x1
   obtain ⟨e5,e6⟩:=most_f (w:=s.w) (h:=s.h) (m:=s.max_) (by first|omega|(simp_all;done));exact ⟨by rw [e5,e6];rfl,c0⟩
  ·obtain ⟨e1,e2⟩:=mul_f x1
   obtain ⟨e5,e6⟩:=most_f (w:=s.w) (h:=s.h) (m:=s.max_) om;exact ⟨by rw [e5,e6];rfl,c0⟩
 refine pu1<|gY<|sL a0 0 0 (I s.w) (isAgg3 _)<|pu3<|sD 21 (s.w<1) (fun i0=>?_) (fun i0=>?_)
 ·refine pu9<|zC<|pu2<|zR<|retT [I 0, .bool false] ?_
  have d0:=(a0.dropAt 0 rfl)
  by_cases x1:0<=s.w/\0<=s.h/\(0:Int)<=4294967296/\s.w*s.h<=4294967296
  ·obtain ⟨e1,e2⟩:=mul_t x1
   obtain ⟨e5,e6⟩:=most_f (w:=s.w) (h:=s.h) (m:=s.max_) (by first|omega|(simp_all;done));exact ⟨by rw [e5,e6];rfl,d0⟩
  ·obtain ⟨e1,e2⟩:=mul_f x1
   obtain ⟨e5,e6⟩:=most_f (w:=s.w) (h:=s.h) (m:=s.max_) om;exact ⟨by rw [e5,e6];rfl,d0⟩
 refine pu1<|gY<|sL a0 0 1 (I s.h) (isAgg3 _)<|pu3<|sD 26 (s.h<1) (fun j0=>?_) (fun j0=>?_)
 ·refine pu4<|zC<|pu2<|zR<|retT [I 0, .bool false] ?_
  have e0:=(a0.dropAt 0 rfl)
  by_cases x1:0<=s.w/\0<=s.h/\(0:Int)<=4294967296/\s.w*s.h<=4294967296
  ·obtain ⟨e1,e2⟩:=mul_t x1
   obtain ⟨e5,e6⟩:=most_f (w:=s.w) (h:=s.h) (m:=s.max_) (by first|omega|(simp_all;done));exact ⟨by rw [e5,e6];rfl,e0⟩
  ·obtain ⟨e1,e2⟩:=mul_f x1
   obtain ⟨e5,e6⟩:=most_f (w:=s.w) (h:=s.h) (m:=s.max_) om;exact ⟨by rw [e5,e6];rfl,e0⟩
 refine pu1<|gY<|sL a0 0 2 (I s.max_) (isAgg3 _)<|pu2<|nT<|cD (s.max_<1) (fun k0=>?_) (fun k0=>?_)
 ·refine sR<|pu2<|zR<|retT [I 0, .bool false] ?_
  have f0:=(a0.dropAt 0 rfl)
  by_cases x1:0<=s.w/\0<=s.h/\(0:Int)<=4294967296/\s.w*s.h<=4294967296
  ·obtain ⟨e1,e2⟩:=mul_t x1
   obtain ⟨e5,e6⟩:=most_f (w:=s.w) (h:=s.h) (m:=s.max_) (by first|omega|(simp_all;done));exact ⟨by rw [e5,e6];rfl,f0⟩
  ·obtain ⟨e1,e2⟩:=mul_f x1
   obtain ⟨e5,e6⟩:=most_f (w:=s.w) (h:=s.h) (m:=s.max_) om;exact ⟨by rw [e5,e6];rfl,f0⟩
 refine kS<|pu2<|sL a0 0 2 (I s.max_) (isAgg3 _)<|cR call104 (r1_mul (mulV s.w s.h 4294967296) s.max_ 4294967296 (od) a0.flat) fun _ l0=>pu4<|zE<|retT [I (mulV (mulV s.w s.h 4294967296) s.max_ 4294967296), .bool (mulOK (mulV s.w s.h 4294967296) s.max_ 4294967296)] ?_
 have g0:=(l0.dropAt 0 rfl)
 by_cases x1:0<=s.w/\0<=s.h/\(0:Int)<=4294967296/\s.w*s.h<=4294967296
 ·obtain ⟨e1,e2⟩:=mul_t x1
  rw [e2];by_cases x2:0<=s.w*s.h/\0<=s.max_/\(0:Int)<=4294967296/\s.w*s.h*s.max_<=4294967296
  ·obtain ⟨e3,e4⟩:=mul_t x2;obtain ⟨e5,e6⟩:=most_t (w:=s.w) (h:=s.h) (m:=s.max_) om;exact ⟨by rw [e3,e4,e5,e6];rfl,g0⟩
  ·have hnn:=mul_bd (a:=s.w) (b:=s.h) (A:=s.w) (B:=s.h) om om;obtain ⟨e3,e4⟩:=mul_f x2;obtain ⟨e5,e6⟩:=most_f (w:=s.w) (h:=s.h) (m:=s.max_) om;exact ⟨by rw [e3,e4,e5,e6];rfl,g0⟩
 ·obtain ⟨e1,e2⟩:=mul_f x1
  exfalso;simp_all;done
theorem r15_valid (s:Shape) (hS:Sat W w (H::F)):
  Ro prog 120 #[.agg #[I s.w,I s.h,I s.max_]] (.bool (decide ((1:Int)<=s.w/\s.w<=(128:Int)/\(1:Int)<=s.h/\s.h<=(128:Int)/\s.w*s.h<=(4096:Int)/\(1:Int)<=s.max_/\s.max_<=(4294967296:Int)))) W w (H::F):=by
 refine callsA 10 func120 rfl<|sR<|sBox hS (.agg #[I s.w,I s.h,I s.max_]) #[I s.w,I s.h,I s.max_] fun _ _ a0=>pu1<|zS<|pu1<|sL a0 0 0 (I s.w) (isAgg3 _)<|pu1<|sL a0 0 1 (I s.h) (isAgg3 _)<|pu1<|sL a0 0 2 (I s.max_) (isAgg3 _)<|cR call58 (r4_size s.w s.h s.max_ a0.flat) fun _ b0=>pu1<|zE<|retT [.bool (decide ((1:Int)<=s.w/\s.w<=(128:Int)/\(1:Int)<=s.h/\s.h<=(128:Int)/\s.w*s.h<=(4096:Int)/\(1:Int)<=s.max_/\s.max_<=(4294967296:Int)))] ?_
 have c0:=(b0.dropAt 0 rfl)
 exact ⟨rB bq,c0⟩
theorem r15_two (q:Stage) (hq:Stage.Ok [H] q) (hS:Sat W w (H::F)):
  Ro prog 47 #[.agg (encStage q).toArray] (.bool (decide (q.kind=6/\¬q.b=-1))) W w (H::F):=by
 have hl_q_weights:=hq.weights.le;have hn_q_weights:=hq.weights.len
 have hl_q_row:=hq.row.le;have hn_q_row:=hq.row.len
 have hl_q_col:=hq.col.le;have hn_q_col:=hq.col.len
 have hl_q_x:=hq.x.le;have hn_q_x:=hq.x.len
 have hl_q_y:=hq.y.le;have hn_q_y:=hq.y.len
 have hl_q_ops:=hq.ops.le;have hn_q_ops:=hq.ops.len
 refine callsA 11 func47 rfl<|sR<|sBox hS (.agg (encStage q).toArray) (encStage q).toArray fun _ _ a0=>pu1<|zS<|pu1<|sL a0 0 0 (I q.kind) (isAgg3 _)<|pu2<|sE 6 q.kind 6 (fun b0=>?_) (fun b0=>?_)
 rotate_left
 ·refine pu5<|zE<|retT [.bool false] ?_
  have c0:=(a0.dropAt 0 rfl)
  exact ⟨rB bq,c0⟩
 refine pu1<|gY<|sL a0 0 2 (I q.b) (isAgg3 _)<|pu3<|zE<|retT [.bool ((q.b:Int)!=(-1))] ?_
 have d0:=(a0.dropAt 0 rfl)
 exact ⟨rB bq,d0⟩
theorem r15_edged (x:Int) (hS:Sat W w (H::F)):
  Ro prog 121 #[I x] (.bool (decide (x=1\/x=2\/x=3))) W w (H::F):=by
 refine callsA 13 func121 rfl<|sR<|pu1<|zS<|pu3<|sE 5 x 1 (fun a0=>?_) (fun a0=>?_)
 ·exact pu8<|zE<|retT [.bool true]<|⟨rB bq,hS⟩
 refine pu4<|sE 9 x 2 (fun b0=>?_) (fun b0=>?_)
 ·exact pu4<|zE<|retT [.bool true]<|⟨rB bq,hS⟩
 exact pu4<|zE<|retT [.bool ((x:Int)==3)]<|⟨rB bq,hS⟩
def fieldsP (s:StageV):Prop:=¬(¬((1<=s.kind/\s.kind<=6)/\(s.kind=6\/s.b=-1)))/\¬(¬(s.kind=1\/s.kind=2\/s.kind=3)/\¬(s.edgePolicy=0/\s.edgeFill=0))/\¬(¬s.kind=1/\¬(s.kW=0/\s.kH=0/\s.weights.length=0))/\¬(¬s.kind=2/\¬(s.row.length=0/\s.col.length=0))/\¬(¬s.kind=3/\¬(s.x.length=0/\s.y.length=0))/\¬(¬(s.kind=1\/s.kind=2\/s.kind=3)/\¬s.shift=0)/\¬((¬s.kind=2/\¬s.kind=3)/\¬s.shift2=0)/\¬(¬s.kind=4/\¬s.bins=0)/\¬(¬s.kind=6/\¬s.ops.length=0)/\¬((s.kind=4\/s.kind=5)/\¬s.max_=0)
instance (s:StageV):Decidable (fieldsP s):=by unfold fieldsP;infer_instance
theorem r15_fields (q:Stage) (hq:Stage.Ok [H] q) (hS:Sat W w (H::F)):
  Ro prog 119 #[.agg (encStage q).toArray] (.bool (decide (fieldsP q.v))) W w (H::F):=by
 have hl_q_weights:=hq.weights.le;have hn_q_weights:=hq.weights.len
 have hl_q_row:=hq.row.le;have hn_q_row:=hq.row.len
 have hl_q_col:=hq.col.le;have hn_q_col:=hq.col.len
 have hl_q_x:=hq.x.le;have hn_q_x:=hq.x.len
 have hl_q_y:=hq.y.le;have hn_q_y:=hq.y.len
 have hl_q_ops:=hq.ops.le;have hn_q_ops:=hq.ops.len
 have hmx:(q.x.l.map Tap.v).length=q.x.n:=by simp [hn_q_x]
 have hmy:(q.y.l.map Tap.v).length=q.y.n:=by simp [hn_q_y]
 refine callsA 148 func119 rfl<|sR<|sBox hS (.agg (encStage q).toArray) (encStage q).toArray fun a0 _ b0=>pu1<|nT<|seqE<|cutA (γ:=Unit) (fun _=>[(1,Pt a0 0),(23, .bool (decide (¬((1<=q.kind/\q.kind<=6)/\(q.kind=6\/q.b=-1)))))]) (fun _ w=>Sat W w ([(a0, .cells (encStage q).toArray 53 (0,0))]::H::F)) ?_ ?_
 ·refine rE<|pu1<|sL b0 0 0 (I q.kind) (isAgg3 _)<|pu2<|sD 9 (q.kind<1) (fun z0=>?_) (fun z0=>?_)
  ·exact pu14<|nT<|⟨(),⟨kr,(Eq.trans (b:= .bool true) kr (congrArg Value.bool (decide_eq_true (p:=¬((1<=q.kind/\q.kind<=6)/\(q.kind=6\/q.b=-1))) om).symm)),trivial⟩,b0⟩
  refine pu1<|gY<|sL b0 0 0 (I q.kind) (isAgg3 _)<|pu3<|sD 14 (q.kind>6) (fun a1=>?_) (fun a1=>?_)
  ·exact pu9<|nT<|⟨(),⟨kr,(Eq.trans (b:= .bool true) kr (congrArg Value.bool (decide_eq_true (p:=¬((1<=q.kind/\q.kind<=6)/\(q.kind=6\/q.b=-1))) om).symm)),trivial⟩,b0⟩
  refine pu1<|gY<|sL b0 0 0 (I q.kind) (isAgg3 _)<|pu2<|sN 18 q.kind 6 (fun b1=>?_) (fun b1=>?_)
  ·exact pu5<|nT<|⟨(),⟨kr,(Eq.trans (b:= .bool false) kr (congrArg Value.bool (decide_eq_false (p:=¬((1<=q.kind/\q.kind<=6)/\(q.kind=6\/q.b=-1))) om).symm)),trivial⟩,b0⟩
  exact pu1<|gY<|sL b0 0 2 (I q.b) (isAgg3 _)<|pu3<|nT<|⟨(),⟨kr,(Eq.trans (b:= .bool ((q.b:Int)!=(-1))) kr (congrArg Value.bool bm)),trivial⟩,b0⟩
 rintro _ ρ _ g0
 refine cD (¬((1<=q.kind/\q.kind<=6)/\(q.kind=6\/q.b=-1))) (fun k0=>?_) (fun k0=>?_)
 ·exact sR<|pu1<|zR<|retT [.bool false]<|⟨rB (decide_eq_false (p:=fieldsP q.v) (fun h=>h.1 k0)).symm,(g0.dropAt 0 rfl)⟩
 refine kT<|seqE<|drawE [] [(1,⟨a0,0,none⟩,I q.kind),(4,⟨a0,0,none⟩,I q.kind),(7,⟨a0,0,none⟩,I q.kind)] [(true,[0,3,6]),(true,[1]),(true,[2,9]),(true,[4]),(true,[5,10]),(true,[7]),(true,[8,11])] rfl kr ⟨cI g0 0,cI g0 0,cI g0 0,trivial⟩ ?_
 have x0:=g0.drew
 refine wU [0,3,6]<|wLd (I q.kind) 0 isAgg3<|wU [2,9]<|wLd (I q.kind) 1 isAgg3<|wU [5,10]<|wLd (I q.kind) 2 isAgg3<|wU [8,11]<|wN<|tN<|seqE<|blockE<|cutA (γ:=Unit) (fun _=>[(1,Pt a0 0),(3, .bool ((q.kind:Int)==1)),(4, .bool ((q.kind:Int)==2)),(5, .bool ((q.kind:Int)==3)),(33, .bool (decide (¬(q.kind=1\/q.kind=2\/q.kind=3)/\¬(q.edgePolicy=0/\q.edgeFill=0))))]) (fun _ w=>Sat W w ([(a0, .cells (encStage q).toArray 53 (0,0))]::H::F)) ?_ ?_
 ·refine rE<|pu1<|sL x0 0 0 (I q.kind) (isAgg3 _)<|cR call121 (r15_edged q.kind x0.flat) fun _ l0=>pu2<|sDn 38 (q.kind=1\/q.kind=2\/q.kind=3) (fun d1=>?_) (fun d1=>?_)
  ·exact pu6<|nT<|⟨(),⟨kr,kr,kr,kr,(Eq.trans (b:= .bool false) kr (congrArg Value.bool (decide_eq_false (p:=¬(q.kind=1\/q.kind=2\/q.kind=3)/\¬(q.edgePolicy=0/\q.edgeFill=0)) om).symm)),trivial⟩,l0⟩
  exact pu1<|gY<|lA l0 0 4 2 (isAgg49 _) (sizeOf49 _)<|pu1<|gY<|stepY (.bool (!(((q.edgePolicy:Int)==0)&&((q.edgeFill:Int)==0)))) rfl rfl (Y_eqS rfl kr kr (eqvn49 _ q.edgePolicy q.edgeFill 0 0))<|pu2<|nT<|⟨(),⟨kr,kr,kr,kr,(Eq.trans (b:= .bool (!(((q.edgePolicy:Int)==0)&&((q.edgeFill:Int)==0)))) kr (congrArg Value.bool bm)),trivial⟩,l0⟩
 rintro _ ρ _ c0
 refine cD (¬(q.kind=1\/q.kind=2\/q.kind=3)/\¬(q.edgePolicy=0/\q.edgeFill=0)) (fun m0=>?_) (fun m0=>?_)
 ·exact skipE<|bN<|tN<|sR<|pu1<|zE<|retT [.bool false]<|⟨rB (decide_eq_false (p:=fieldsP q.v) (fun h=>h.2.1 m0)).symm,(c0.dropAt 0 rfl)⟩
 refine cutA (γ:=Unit) (fun _=>[(1,Pt a0 0),(4, .bool ((q.kind:Int)==2)),(5, .bool ((q.kind:Int)==3)),(44, .bool (decide (¬q.kind=1/\¬(q.kW=0/\q.kH=0/\q.weights.l.length=0))))]) (fun _ w=>Sat W w ([(a0, .cells (encStage q).toArray 53 (0,0))]::H::F)) ?_ ?_
 ·refine rE<|pu3<|sEn 47 q.kind 1 (fun f1=>?_) (fun f1=>?_)
  ·exact pu16<|nT<|⟨(),⟨kr,kr,kr,(Eq.trans (b:= .bool false) kr (congrArg Value.bool (decide_eq_false (p:=¬q.kind=1/\¬(q.kW=0/\q.kH=0/\q.weights.l.length=0)) om).symm)),trivial⟩,c0⟩
  refine pu1<|gY<|sL c0 0 6 (I q.kW) (isAgg3 _)<|pu2<|sN 51 q.kW 0 (fun g1=>?_) (fun g1=>?_)
  rotate_left
  ·exact pu12<|nT<|⟨(),⟨kr,kr,kr,(Eq.trans (b:= .bool true) kr (congrArg Value.bool (decide_eq_true (p:=¬q.kind=1/\¬(q.kW=0/\q.kH=0/\q.weights.l.length=0)) om).symm)),trivial⟩,c0⟩
  refine pu1<|gY<|sL c0 0 7 (I q.kH) (isAgg3 _)<|pu3<|sN 56 q.kH 0 (fun h1=>?_) (fun h1=>?_)
  rotate_left
  ·exact pu7<|nT<|⟨(),⟨kr,kr,kr,(Eq.trans (b:= .bool true) kr (congrArg Value.bool (decide_eq_true (p:=¬q.kind=1/\¬(q.kW=0/\q.kH=0/\q.weights.l.length=0)) om).symm)),trivial⟩,c0⟩
  exact pu1<|gY<|sL c0 0 8 (.slice q.weights.a q.weights.n q.weights.k) (isAgg22 _)<|pu5<|nT<|⟨(),⟨kr,kr,kr,(Eq.trans (b:= .bool (decide ((q.weights.n:Int)>0))) kr (congrArg Value.bool bm)),trivial⟩,c0⟩
 rintro _ ρ _ e0
 refine cD (¬q.kind=1/\¬(q.kW=0/\q.kH=0/\q.weights.l.length=0)) (fun n0=>?_) (fun n0=>?_)
 ·exact skipE<|bN<|tN<|sR<|pu1<|zE<|retT [.bool false]<|⟨rB (decide_eq_false (p:=fieldsP q.v) (fun h=>h.2.2.1 n0)).symm,(e0.dropAt 0 rfl)⟩
 refine cutA (γ:=Unit) (fun _=>[(1,Pt a0 0),(4, .bool ((q.kind:Int)==2)),(5, .bool ((q.kind:Int)==3)),(63, .bool (decide (¬q.kind=2/\¬(q.row.l.length=0/\q.col.l.length=0))))]) (fun _ w=>Sat W w ([(a0, .cells (encStage q).toArray 53 (0,0))]::H::F)) ?_ ?_
 ·refine rE<|pu3<|sEn 66 q.kind 2 (fun j1=>?_) (fun j1=>?_)
  ·exact pu12<|nT<|⟨(),⟨kr,kr,kr,(Eq.trans (b:= .bool false) kr (congrArg Value.bool (decide_eq_false (p:=¬q.kind=2/\¬(q.row.l.length=0/\q.col.l.length=0)) om).symm)),trivial⟩,e0⟩
  refine pu1<|gY<|sL e0 0 9 (.slice q.row.a q.row.n q.row.k) (isAgg22 _)<|pu3<|sD 71 ((q.row.n:Int)>0) (fun k1=>?_) (fun k1=>?_)
  ·exact pu7<|nT<|⟨(),⟨kr,kr,kr,(Eq.trans (b:= .bool true) kr (congrArg Value.bool (decide_eq_true (p:=¬q.kind=2/\¬(q.row.l.length=0/\q.col.l.length=0)) om).symm)),trivial⟩,e0⟩
  exact pu1<|gY<|sL e0 0 10 (.slice q.col.a q.col.n q.col.k) (isAgg22 _)<|pu5<|nT<|⟨(),⟨kr,kr,kr,(Eq.trans (b:= .bool (decide ((q.col.n:Int)>0))) kr (congrArg Value.bool bm)),trivial⟩,e0⟩
 rintro _ ρ _ f0
 refine cD (¬q.kind=2/\¬(q.row.l.length=0/\q.col.l.length=0)) (fun o0=>?_) (fun o0=>?_)
 ·exact skipE<|bN<|tN<|sR<|pu1<|zE<|retT [.bool false]<|⟨rB (decide_eq_false (p:=fieldsP q.v) (fun h=>h.2.2.2.1 o0)).symm,(f0.dropAt 0 rfl)⟩
 refine cutA (γ:=Unit) (fun _=>[(1,Pt a0 0),(4, .bool ((q.kind:Int)==2)),(5, .bool ((q.kind:Int)==3)),(78, .bool (decide (¬q.kind=3/\¬((q.x.l.map Tap.v).length=0/\(q.y.l.map Tap.v).length=0))))]) (fun _ w=>Sat W w ([(a0, .cells (encStage q).toArray 53 (0,0))]::H::F)) ?_ ?_
 ·refine rE<|pu3<|sEn 81 q.kind 3 (fun m1=>?_) (fun m1=>?_)
  ·exact pu12<|nT<|⟨(),⟨kr,kr,kr,(Eq.trans (b:= .bool false) kr (congrArg Value.bool (decide_eq_false (p:=¬q.kind=3/\¬((q.x.l.map Tap.v).length=0/\(q.y.l.map Tap.v).length=0)) om).symm)),trivial⟩,f0⟩
  refine pu1<|gY<|sL f0 0 13 (.slice q.x.a q.x.n q.x.k) (isAgg50 _)<|pu3<|sD 86 ((q.x.n:Int)>0) (fun n1=>?_) (fun n1=>?_)
  ·exact pu7<|nT<|⟨(),⟨kr,kr,kr,(Eq.trans (b:= .bool true) kr (congrArg Value.bool (decide_eq_true (p:=¬q.kind=3/\¬((q.x.l.map Tap.v).length=0/\(q.y.l.map Tap.v).length=0)) om).symm)),trivial⟩,f0⟩
  exact pu1<|gY<|sL f0 0 14 (.slice q.y.a q.y.n q.y.k) (isAgg50 _)<|pu5<|nT<|⟨(),⟨kr,kr,kr,(Eq.trans (b:= .bool (decide ((q.y.n:Int)>0))) kr (congrArg Value.bool bm)),trivial⟩,f0⟩
 rintro _ ρ _ p0
 refine cD (¬q.kind=3/\¬((q.x.l.map Tap.v).length=0/\(q.y.l.map Tap.v).length=0)) (fun q0=>?_) (fun q0=>?_)
 ·exact skipE<|bN<|tN<|sR<|pu1<|zE<|retT [.bool false]<|⟨rB (decide_eq_false (p:=fieldsP q.v) (fun h=>h.2.2.2.2.1 q0)).symm,(p0.dropAt 0 rfl)⟩
 refine cutA (γ:=Unit) (fun _=>[(1,Pt a0 0),(4, .bool ((q.kind:Int)==2)),(5, .bool ((q.kind:Int)==3)),(93, .bool (decide (¬(q.kind=1\/q.kind=2\/q.kind=3)/\¬q.shift=0)))]) (fun _ w=>Sat W w ([(a0, .cells (encStage q).toArray 53 (0,0))]::H::F)) ?_ ?_
 ·refine rE<|pu1<|sL p0 0 0 (I q.kind) (isAgg3 _)<|cR call121 (r15_edged q.kind p0.flat) fun _ r0=>pu2<|sDn 98 (q.kind=1\/q.kind=2\/q.kind=3) (fun p1=>?_) (fun p1=>?_)
  ·exact pu5<|nT<|⟨(),⟨kr,kr,kr,(Eq.trans (b:= .bool false) kr (congrArg Value.bool (decide_eq_false (p:=¬(q.kind=1\/q.kind=2\/q.kind=3)/\¬q.shift=0) om).symm)),trivial⟩,r0⟩
  exact pu1<|gY<|sL r0 0 11 (I q.shift) (isAgg3 _)<|pu3<|nT<|⟨(),⟨kr,kr,kr,(Eq.trans (b:= .bool ((q.shift:Int)!=0)) kr (congrArg Value.bool bm)),trivial⟩,r0⟩
 rintro _ ρ _ h0
 refine cD (¬(q.kind=1\/q.kind=2\/q.kind=3)/\¬q.shift=0) (fun s0=>?_) (fun s0=>?_)
 ·exact skipE<|bN<|tN<|sR<|pu1<|zE<|retT [.bool false]<|⟨rB (decide_eq_false (p:=fieldsP q.v) (fun h=>h.2.2.2.2.2.1 s0)).symm,(h0.dropAt 0 rfl)⟩
 refine cutA (γ:=Unit) (fun _=>[(1,Pt a0 0),(103, .bool (decide ((¬q.kind=2/\¬q.kind=3)/\¬q.shift2=0)))]) (fun _ w=>Sat W w ([(a0, .cells (encStage q).toArray 53 (0,0))]::H::F)) ?_ ?_
 ·refine rE<|pu3<|sEn 106 q.kind 2 (fun r1=>?_) (fun r1=>?_)
  ·exact pu9<|nT<|⟨(),⟨kr,(Eq.trans (b:= .bool false) kr (congrArg Value.bool (decide_eq_false (p:=(¬q.kind=2/\¬q.kind=3)/\¬q.shift2=0) om).symm)),trivial⟩,h0⟩
  refine pu4<|sEn 110 q.kind 3 (fun s1=>?_) (fun s1=>?_)
  ·exact pu5<|nT<|⟨(),⟨kr,(Eq.trans (b:= .bool false) kr (congrArg Value.bool (decide_eq_false (p:=(¬q.kind=2/\¬q.kind=3)/\¬q.shift2=0) om).symm)),trivial⟩,h0⟩
  exact pu1<|gY<|sL h0 0 12 (I q.shift2) (isAgg3 _)<|pu3<|nT<|⟨(),⟨kr,(Eq.trans (b:= .bool ((q.shift2:Int)!=0)) kr (congrArg Value.bool bm)),trivial⟩,h0⟩
 rintro _ ρ _ i0
 refine cD ((¬q.kind=2/\¬q.kind=3)/\¬q.shift2=0) (fun t0=>?_) (fun t0=>?_)
 ·exact skipE<|bN<|tN<|sR<|pu1<|zE<|retT [.bool false]<|⟨rB (decide_eq_false (p:=fieldsP q.v) (fun h=>h.2.2.2.2.2.2.1 t0)).symm,(i0.dropAt 0 rfl)⟩
 refine cutA (γ:=Unit) (fun _=>[(1,Pt a0 0),(115, .bool (decide (¬q.kind=4/\¬q.bins=0)))]) (fun _ w=>Sat W w ([(a0, .cells (encStage q).toArray 53 (0,0))]::H::F)) ?_ ?_
 ·refine rE<|pu1<|sL i0 0 0 (I q.kind) (isAgg3 _)<|pu2<|sN 119 q.kind 4 (fun u1=>?_) (fun u1=>?_)
  ·exact pu5<|nT<|⟨(),⟨kr,(Eq.trans (b:= .bool false) kr (congrArg Value.bool (decide_eq_false (p:=¬q.kind=4/\¬q.bins=0) om).symm)),trivial⟩,i0⟩
  exact pu1<|gY<|sL i0 0 15 (I q.bins) (isAgg3 _)<|pu3<|nT<|⟨(),⟨kr,(Eq.trans (b:= .bool ((q.bins:Int)!=0)) kr (congrArg Value.bool bm)),trivial⟩,i0⟩
 rintro _ ρ _ j0
 refine cD (¬q.kind=4/\¬q.bins=0) (fun u0=>?_) (fun u0=>?_)
 ·exact skipE<|bN<|tN<|sR<|pu1<|zE<|retT [.bool false]<|⟨rB (decide_eq_false (p:=fieldsP q.v) (fun h=>h.2.2.2.2.2.2.2.1 u0)).symm,(j0.dropAt 0 rfl)⟩
 refine cutA (γ:=Unit) (fun _=>[(1,Pt a0 0),(124, .bool (decide (¬q.kind=6/\¬q.ops.l.length=0)))]) (fun _ w=>Sat W w ([(a0, .cells (encStage q).toArray 53 (0,0))]::H::F)) ?_ ?_
 ·refine rE<|pu1<|sL j0 0 0 (I q.kind) (isAgg3 _)<|pu2<|sN 128 q.kind 6 (fun w1=>?_) (fun w1=>?_)
  ·exact pu6<|nT<|⟨(),⟨kr,(Eq.trans (b:= .bool false) kr (congrArg Value.bool (decide_eq_false (p:=¬q.kind=6/\¬q.ops.l.length=0) om).symm)),trivial⟩,j0⟩
  exact pu1<|gY<|sL j0 0 16 (.slice q.ops.a q.ops.n q.ops.k) (isAgg51 _)<|pu4<|nT<|⟨(),⟨kr,(Eq.trans (b:= .bool (decide ((q.ops.n:Int)>0))) kr (congrArg Value.bool bm)),trivial⟩,j0⟩
 rintro _ ρ _ d0
 refine cD (¬q.kind=6/\¬q.ops.l.length=0) (fun v0=>?_) (fun v0=>?_)
 ·exact skipE<|bN<|tN<|sR<|pu1<|zE<|retT [.bool false]<|⟨rB (decide_eq_false (p:=fieldsP q.v) (fun h=>h.2.2.2.2.2.2.2.2.1 v0)).symm,(d0.dropAt 0 rfl)⟩
 refine cutA (γ:=Unit) (fun _=>[(134, .bool (decide ((q.kind=4\/q.kind=5)/\¬q.max_=0)))]) (fun _ w=>Sat W w ([(a0, .cells (encStage q).toArray 53 (0,0))]::H::F)) ?_ ?_
 rotate_left
 ·rintro _ ρ _ y0
  refine cD ((q.kind=4\/q.kind=5)/\¬q.max_=0) (fun w0=>?_) (fun w0=>?_)
  ·exact skipE<|bN<|tN<|sR<|pu1<|zE<|retT [.bool false]<|⟨rB (decide_eq_false (p:=fieldsP q.v) (fun h=>h.2.2.2.2.2.2.2.2.2 w0)).symm,(y0.dropAt 0 rfl)⟩
  exact sR<|pu1<|zB<|retT [.bool true]<|⟨rB (decide_eq_true (p:=fieldsP q.v) ⟨k0,m0,n0,o0,q0,s0,t0,u0,v0,w0⟩).symm,(y0.dropAt 0 rfl)⟩
 refine rE<|pu1<|sL d0 0 0 (I q.kind) (isAgg3 _)<|pu2<|sE 138 q.kind 4 (fun a2=>?_) (fun a2=>?_)
 ·exact pu6<|gY<|sL d0 0 17 (I q.max_) (isAgg3 _)<|pu3<|nT<|⟨(),⟨(Eq.trans (b:= .bool ((q.max_:Int)!=0)) kr (congrArg Value.bool bm)),trivial⟩,d0⟩
 refine pu1<|gY<|sL d0 0 0 (I q.kind) (isAgg3 _)<|pu3<|sE 143 q.kind 5 (fun b2=>?_) (fun b2=>?_)
 rotate_left
 ·exact pu5<|nT<|⟨(),⟨(Eq.trans (b:= .bool false) kr (congrArg Value.bool (decide_eq_false (p:=(q.kind=4\/q.kind=5)/\¬q.max_=0) om).symm)),trivial⟩,d0⟩
 exact pu1<|gY<|sL d0 0 17 (I q.max_) (isAgg3 _)<|pu3<|nT<|⟨(),⟨(Eq.trans (b:= .bool ((q.max_:Int)!=0)) kr (congrArg Value.bool bm)),trivial⟩,d0⟩
def tapC (f:Int) (ws:List Int):Int:=if ws.length=0\/8<ws.length then 9 else if areW ws=true then (if-128<=f/\f<=256 then 0 else 2) else 10
def tapCode (t:TapV):Int:=tapC t.first t.weights
def firstErr {α:Type} (f:α->Int):List α->Int
  |[]=>0
  |x::l=>if f x=0 then firstErr f l else f x
theorem firstErr_app {α:Type} (f:α->Int) (l m:List α) (h:l.all (fun x=>decide (f x=0))=true):firstErr f (l++m)=firstErr f m:=by
  induction l with
  |nil=>rfl
  |cons x l ih=>
    simp only [List.all_cons,Bool.and_eq_true,decide_eq_true_eq] at h
    simp only [List.cons_append,firstErr,if_pos h.1]
    exact ih h.2
theorem firstErr_at {α:Type} {f:α->Int} {l:List α} {i:Nat} {x:α} (h:(l.take i).all (fun x=>decide (f x=0))=true) (hx:l[i]?=some x) (e:f x≠0):firstErr f l=f x:=by
  have e1:l=l.take i++l.drop i:=(List.take_append_drop i l).symm
  rw [e1,firstErr_app f _ _ h,drop_at hx,firstErr,if_neg e]
theorem firstErr_none {α:Type} {f:α->Int} {l:List α} {i:Nat} (h:(l.take i).all (fun x=>decide (f x=0))=true) (h1:l.length<=i):firstErr f l=0:=by
  rw [List.take_of_length_le h1] at h
  have:=firstErr_app f l [] h
  simpa [firstErr] using this
def tapsCode (l:List TapV) (n:Int):Int:=if (1<=n/\n<=128)/\1<=(l.length:Int)/\(l.length:Int)<=128 then firstErr tapCode l else 8
theorem r8_valid (ax:Option Addr) (nx kx:Nat) (x:List Tap) (m:Int) (hx:RdT encTap 2 [H] ax nx kx x) (dx:∀z∈x,Tap.Ok [H] z) (hS:Sat W w (H::F)):
  Ro prog 202 #[.slice ax nx kx,I m] (I (tapsCode (x.map Tap.v) m)) W w (H::F):=by
 have hl_x:=hx.le;have hn_x:=hx.len
 refine callsA 47 func202 rfl ?_
 refine sR<|pu1<|zQ<|pu1 ?_
 refine cR call164 (r8_side m hS.flat) ?_
 intro _ f0
 refine pu2 ?_
 refine sDn 10 ((1:Int)<=m/\m<=(128:Int)) (fun i0=>?_) (fun i0=>?_)
 rotate_left
 ·refine pu5<|zC<|pu1<|zR<|retT [I 8] ?_
  have hmx:(x.map Tap.v).length=nx:=by simp [hn_x]
  exact ⟨by unfold tapsCode;rw [if_neg om];rfl,f0⟩
 refine pu2<|gY ?_
 refine cR call164 (r8_side (nx:Int) f0.flat) ?_
 intro _ g0
 refine pu2<|nT ?_
 refine cDn ((1:Int)<=(nx:Int)/\(nx:Int)<=(128:Int)) (fun j0=>?_) (fun j0=>?_)
 rotate_left
 ·refine sR<|pu1<|zR<|retT [I 8] ?_
  have hmx:(x.map Tap.v).length=nx:=by simp [hn_x]
  exact ⟨by unfold tapsCode;rw [if_neg om];rfl,g0⟩
 refine kT<|seqE<|sR<|pu1<|nT<|blockE ?_
 refine loopA (γ:=Nat) (fun i=>[(0, .slice ax nx kx),(5,I (i:Int))]) (fun i w=>Sat W w (H::F)/\i<=nx/\(((x.map Tap.v).take i).all (fun x=>decide (tapCode x=0))=true)) (fun i=>nx-i) 0 ⟨g0,om,by rfl⟩ ?_
 rintro i ρ _ ⟨d0,hi,hE⟩
 refine seqE<|sR<|pu4<|nT ?_
 refine cD ((i:Int)<(nx:Int)) (fun k0=>?_) (fun k0=>?_)
 rotate_left
 ·refine exitE<|xB<|tN<|sR<|pu1<|zE<|retT [I 0] ?_
  have hmx:(x.map Tap.v).length=nx:=by simp [hn_x]
  exact ⟨by unfold tapsCode;rw [if_pos om,firstErr_none hE om];rfl,d0⟩
 refine kT<|seqE<|blockE<|sR<|pu2 ?_
 refine sIdx hx (i:Int) runUnderlying50 sizeOf122 ?_
 intro a0 _ _ b0 l0
 rw [Int.toNat_natCast] at b0
 have hnw_x_12:=(dx a0 (List.mem_of_getElem? b0)).weights.len;have hlw_x_12:=(dx a0 (List.mem_of_getElem? b0)).weights.le
 refine sLpA d0 (l0.up 0 rfl) 0 [I a0.first, .slice a0.weights.a a0.weights.n a0.weights.k] (isAgg122 _) (sizeOf122 _) ?_
 refine sAlloc d0 zeroValue122 ?_
 intro _ _ m0
 refine sTl m0 0 [I a0.first, .slice a0.weights.a a0.weights.n a0.weights.k] sizeOf122 ?_
 intro _ c0
 refine nT<|blockE<|sR<|pu1 ?_
 refine sL c0 0 1 (.slice a0.weights.a a0.weights.n a0.weights.k) (isAgg22 _) ?_
 refine pu3 ?_
 refine sE 31 (a0.weights.n:Int) 0 (fun n0=>?_) (fun n0=>?_)
 ·refine pu6<|zC<|pu1<|zE<|bR<|bR<|tK<|tR<|tK<|retT [I 9] ?_
  have o0:=(c0.dropAt 0 rfl)
  have hmx:(x.map Tap.v).length=nx:=by simp [hn_x]
  have hcode:tapC a0.first a0.weights.l=9:=by unfold tapC;(repeat' split)<;>first|rfl|(exfalso;omega)|contradiction|(exfalso;simp_all;done)
  exact ⟨by unfold tapsCode;rw [if_pos om,firstErr_at hE (map_at (f:=Tap.v) b0) (show tapC a0.first a0.weights.l≠0 by omega)];exact congrArg (fun c=>Ending.returned (packed [I c])) hcode.symm,o0⟩
 refine pu1<|gY ?_
 refine sL c0 0 1 (.slice a0.weights.a a0.weights.n a0.weights.k) (isAgg22 _) ?_
 refine pu4<|nT ?_
 refine cD ((a0.weights.n:Int)>8) (fun p0=>?_) (fun p0=>?_)
 ·refine sR<|pu1<|zE<|bR<|bR<|tK<|tR<|tK<|retT [I 9] ?_
  have q0:=(c0.dropAt 0 rfl)
  have hmx:(x.map Tap.v).length=nx:=by simp [hn_x]
  have hcode:tapC a0.first a0.weights.l=9:=by unfold tapC;(repeat' split)<;>first|rfl|(exfalso;omega)|contradiction|(exfalso;simp_all;done)
  exact ⟨by unfold tapsCode;rw [if_pos om,firstErr_at hE (map_at (f:=Tap.v) b0) (show tapC a0.first a0.weights.l≠0 by omega)];exact congrArg (fun c=>Ending.returned (packed [I c])) hcode.symm,q0⟩
 refine sR<|pu1 ?_
 refine sL c0 0 1 (.slice a0.weights.a a0.weights.n a0.weights.k) (isAgg22 _) ?_
 refine cR call197 (r7_arew a0.weights.a a0.weights.n a0.weights.k a0.weights.l (RdT.flat ((dx a0 (List.mem_of_getElem? b0)).weights.up 1 (by rfl))) c0.flat) ?_
 intro _ e0
 refine pu2<|nT ?_
 refine cBn (areW a0.weights.l) (fun r0=>?_) (fun r0=>?_)
 rotate_left
 ·refine sR<|pu1<|zE<|bR<|bR<|tK<|tR<|tK<|retT [I 10] ?_
  have s0:=(e0.dropAt 0 rfl)
  have hmx:(x.map Tap.v).length=nx:=by simp [hn_x]
  have hcode:tapC a0.first a0.weights.l=10:=by unfold tapC;(repeat' split)<;>first|rfl|(exfalso;omega)|contradiction|(exfalso;simp_all;done)
  exact ⟨by unfold tapsCode;rw [if_pos om,firstErr_at hE (map_at (f:=Tap.v) b0) (show tapC a0.first a0.weights.l≠0 by omega)];exact congrArg (fun c=>Ending.returned (packed [I c])) hcode.symm,s0⟩
 refine sR<|pu1 ?_
 refine sL e0 0 0 (I a0.first) (isAgg3 _) ?_
 refine cR call220 (r8_first a0.first e0.flat) ?_
 intro _ h0
 refine pu2<|nT ?_
 refine cDn ((-128:Int)<=a0.first/\a0.first<=(256:Int)) (fun t0=>?_) (fun t0=>?_)
 ·refine skipE<|bN<|bN<|tN<|rE<|pu1 ?_
  refine sAdd (i:Int) 1 ?_
  refine pu1<|nT ?_
  have hcode:tapC a0.first a0.weights.l=0:=by unfold tapC;(repeat' split)<;>first|rfl|(exfalso;omega)|contradiction|(exfalso;simp_all;done)
  exact ⟨i+1,od,alA,(h0.dropAt 0 rfl),om,all_succ hE (map_at (f:=Tap.v) b0) (decide_eq_true hcode)⟩
 refine sR<|pu1<|zE<|bR<|bR<|tK<|tR<|tK<|retT [I 2] ?_
 have v0:=(h0.dropAt 0 rfl)
 have hmx:(x.map Tap.v).length=nx:=by simp [hn_x]
 have hcode:tapC a0.first a0.weights.l=2:=by unfold tapC;(repeat' split)<;>first|rfl|(exfalso;omega)|contradiction|(exfalso;simp_all;done)
 exact ⟨by unfold tapsCode;rw [if_pos om,firstErr_at hE (map_at (f:=Tap.v) b0) (show tapC a0.first a0.weights.l≠0 by omega)];exact congrArg (fun c=>Ending.returned (packed [I c])) hcode.symm,v0⟩
def convCode (mx kw kh:Int) (ws:List Int) (sh out:Int):Int:=
  if (1<=kw/\kw<=9)/\(1<=kh/\kh<=9)/\(ws.length:Int)=kw*kh then (if areW ws=true/\0<=sh/\sh<=24 then (if (1<=mx/\mx<=4294967296)/\1<=out/\out<=4294967296 then (if bndOK ws 0 mx=true then 0 else 11) else 2) else 10) else 9
def sepCode (mx:Int) (row col:List Int) (sh sh2 out:Int):Int:=
  if (1<=(row.length:Int)/\(row.length:Int)<=9)/\1<=(col.length:Int)/\(col.length:Int)<=9 then (if areW row=true/\areW col=true/\(0<=sh/\sh<=24)/\0<=sh2/\sh2<=24 then (if (1<=mx/\mx<=4294967296)/\1<=out/\out<=4294967296 then (if bndOK row 0 mx=true then (if bndOK col (shiftV (bndLo row 0 mx) sh) (shiftV (bndHi row 0 mx) sh)=true then 0 else 11) else 11) else 2) else 10) else 9
theorem r9_check (mx:Int) (kw:Int) (kh:Int) (aws:Option Addr) (nws kws:Nat) (ws:List Int) (sh:Int) (out:Int) (hws:RdT Go.E.encI 1 [H] aws nws kws ws) (hS:Sat W w (H::F)):
  Ro prog 166 #[I mx,I kw,I kh, .slice aws nws kws,I sh,I out] (I (convCode mx kw kh ws sh out)) W w (H::F):=by
 have hl_ws:=hws.le;have hn_ws:=hws.len
 refine callsA 60 func166 rfl<|sR<|pu1<|nT<|seqE<|blockE<|cutA (γ:=Unit) (fun _=>[(0,I mx),(3, .slice aws nws kws),(4,I sh),(5,I out),(16, .bool (decide (¬((1<=kw/\kw<=9)/\(1<=kh/\kh<=9)/\(ws.length:Int)=kw*kh))))]) (fun _ w=>Sat W w (H::F)) ?_ ?_
 ·refine rE<|pu1<|cR call196 (r9_side kw hS.flat) fun _ a0=>pu2<|sDn 20 ((1:Int)<=kw/\kw<=(9:Int)) (fun i0=>?_) (fun i0=>?_)
  rotate_left
  ·exact pu13<|nT<|⟨(),⟨kr,kr,kr,kr,(Eq.trans (b:= .bool true) kr (congrArg Value.bool (decide_eq_true (p:=¬((1<=kw/\kw<=9)/\(1<=kh/\kh<=9)/\(ws.length:Int)=kw*kh)) om).symm)),trivial⟩,a0⟩
  refine pu1<|gY<|cR call196 (r9_side kh a0.flat) fun _ b0=>pu3<|sDn 25 ((1:Int)<=kh/\kh<=(9:Int)) (fun j0=>?_) (fun j0=>?_)
  rotate_left
  ·exact pu8<|nT<|⟨(),⟨kr,kr,kr,kr,(Eq.trans (b:= .bool true) kr (congrArg Value.bool (decide_eq_true (p:=¬((1<=kw/\kw<=9)/\(1<=kh/\kh<=9)/\(ws.length:Int)=kw*kh)) om).symm)),trivial⟩,b0⟩
  refine pu4<|gY ?_
  have hwh:=mul_bd (a:=kw) (b:=kh) (A:=9) (B:=9) om om
  exact sMul kw kh<|pu3<|nT<|⟨(),⟨kr,kr,kr,kr,(Eq.trans (b:= .bool (((nws:Int):Int)!=(kw*kh))) kr (congrArg Value.bool bm)),trivial⟩,b0⟩
 rintro _ ρ _ c0
 refine cD (¬((1<=kw/\kw<=9)/\(1<=kh/\kh<=9)/\(ws.length:Int)=kw*kh)) (fun k0=>?_) (fun k0=>?_)
 ·refine sR<|pu1<|zB<|retT [I 9]<|⟨?_,c0⟩
  unfold convCode
  (repeat' split)<;>first|rfl|(exfalso;omega)|contradiction|(exfalso;simp_all;done)|(simp_all;done)
 refine cutA (γ:=Unit) (fun _=>[(0,I mx),(3, .slice aws nws kws),(5,I out),(33, .bool (decide (¬(areW ws=true/\0<=sh/\sh<=24))))]) (fun _ w=>Sat W w (H::F)) ?_ ?_
 ·refine rE<|pu1<|cR call197 (r7_arew aws nws kws ws (RdT.flat (hws.up 0 (by rfl))) c0.flat) fun _ d0=>pu2<|sBn 37 (areW ws) (fun l0=>?_) (fun l0=>?_)
  rotate_left
  ·exact pu5<|nT<|⟨(),⟨kr,kr,kr,(Eq.trans (b:= .bool true) kr (congrArg Value.bool (decide_eq_true (p:=¬(areW ws=true/\0<=sh/\sh<=24)) (by (first|omega|(simp_all;done)|(simp_all;omega)))).symm)),trivial⟩,d0⟩
  exact pu1<|gY<|cR call198 (r7_iss sh d0.flat) fun _ m0=>pu3<|nT<|⟨(),⟨kr,kr,kr,(Eq.trans (b:= .bool (!decide ((0:Int)<=sh/\sh<=(24:Int)))) kr (congrArg Value.bool (by rw [Bool.eq_iff_iff];simp only [decide_eq_true_eq,beq_iff_eq,bne_iff_ne,ne_eq,Bool.not_eq_true',decide_eq_false_iff_not,gt_iff_lt,ge_iff_le,Bool.and_eq_true,Bool.or_eq_true,Bool.not_eq_eq_eq_not,Bool.not_true,Bool.and_eq_false_imp,beq_eq_false_iff_ne]<;>(first|omega|(simp_all;done)|(simp_all;omega))))),trivial⟩,m0⟩
 rintro _ ρ _ e0
 refine cD (¬(areW ws=true/\0<=sh/\sh<=24)) (fun n0=>?_) (fun n0=>?_)
 ·refine sR<|pu1<|zB<|retT [I 10]<|⟨?_,e0⟩
  unfold convCode
  (repeat' split)<;>first|rfl|(exfalso;omega)|contradiction|(exfalso;simp_all;done)|(simp_all;done)
 refine cutA (γ:=Unit) (fun _=>[(0,I mx),(3, .slice aws nws kws),(42, .bool (decide (¬((1<=mx/\mx<=4294967296)/\1<=out/\out<=4294967296))))]) (fun _ w=>Sat W w (H::F)) ?_ ?_
 ·refine rE<|pu1<|cR call199 (r9_value mx e0.flat) fun _ f0=>pu2<|sDn 46 ((1:Int)<=mx/\mx<=(4294967296:Int)) (fun o0=>?_) (fun o0=>?_)
  rotate_left
  ·exact pu5<|nT<|⟨(),⟨kr,kr,(Eq.trans (b:= .bool true) kr (congrArg Value.bool (decide_eq_true (p:=¬((1<=mx/\mx<=4294967296)/\1<=out/\out<=4294967296)) om).symm)),trivial⟩,f0⟩
  exact pu1<|gY<|cR call199 (r9_value out f0.flat) fun _ p0=>pu3<|nT<|⟨(),⟨kr,kr,(Eq.trans (b:= .bool (!decide ((1:Int)<=out/\out<=(4294967296:Int)))) kr (congrArg Value.bool bm)),trivial⟩,p0⟩
 rintro _ ρ _ g0
 refine cD (¬((1<=mx/\mx<=4294967296)/\1<=out/\out<=4294967296)) (fun q0=>?_) (fun q0=>?_)
 ·refine sR<|pu1<|zB<|retT [I 2]<|⟨?_,g0⟩
  unfold convCode
  (repeat' split)<;>first|rfl|(exfalso;omega)|contradiction|(exfalso;simp_all;done)|(simp_all;done)
 refine skipE<|bN<|tN<|seqE<|sR<|pu2<|cR call200 (r7_bounds aws nws kws ws 0 mx (RdT.flat (hws.up 0 (by rfl))) g0.flat) fun _ h0=>pu7<|zS<|pu2<|nT<|cBn (bndOK ws 0 mx) (fun r0=>?_) (fun r0=>?_)
 rotate_left
 ·refine sR<|pu1<|zR<|retT [I 11]<|⟨?_,h0⟩
  unfold convCode
  (repeat' split)<;>first|rfl|(exfalso;omega)|contradiction|(exfalso;simp_all;done)|(simp_all;done)
 refine kS<|pu1<|zE<|retT [I 0]<|⟨?_,h0⟩
 unfold convCode
 (repeat' split)<;>first|rfl|(exfalso;omega)|contradiction|(exfalso;simp_all;done)|(simp_all;done)
theorem r10_check (mx:Int) (arow:Option Addr) (nrow krow:Nat) (row:List Int) (acol:Option Addr) (ncol kcol:Nat) (col:List Int) (sh:Int) (sh2:Int) (out:Int) (hrow:RdT Go.E.encI 1 [H] arow nrow krow row) (hcol:RdT Go.E.encI 1 [H] acol ncol kcol col) (hS:Sat W w (H::F)):
  Ro prog 167 #[I mx, .slice arow nrow krow, .slice acol ncol kcol,I sh,I sh2,I out] (I (sepCode mx row col sh sh2 out)) W w (H::F):=by
 have hl_row:=hrow.le;have hn_row:=hrow.len
 have hl_col:=hcol.le;have hn_col:=hcol.len
 refine callsA 81 func167 rfl<|sR<|pu1<|nT<|seqE<|blockE<|sR<|pu2<|cR call196 (r9_side (nrow:Int) hS.flat) fun _ a0=>pu2<|sDn 21 ((1:Int)<=(nrow:Int)/\(nrow:Int)<=(9:Int)) (fun k0=>?_) (fun k0=>?_)
 rotate_left
 ·refine pu6<|zC<|pu1<|zB<|retT [I 9]<|⟨?_,a0⟩
  unfold sepCode
  (repeat' split)<;>first|rfl|(exfalso;omega)|contradiction|(exfalso;simp_all;done)|(simp_all;done)
 refine pu2<|gY<|cR call196 (r9_side (ncol:Int) a0.flat) fun _ b0=>pu3<|nT<|cDn ((1:Int)<=(ncol:Int)/\(ncol:Int)<=(9:Int)) (fun l0=>?_) (fun l0=>?_)
 rotate_left
 ·refine sR<|pu1<|zB<|retT [I 9]<|⟨?_,b0⟩
  unfold sepCode
  (repeat' split)<;>first|rfl|(exfalso;omega)|contradiction|(exfalso;simp_all;done)|(simp_all;done)
 refine sR<|pu1<|cR call197 (r7_arew arow nrow krow row (RdT.flat (hrow.up 0 (by rfl))) b0.flat) fun _ c0=>pu2<|sBn 31 (areW row) (fun m0=>?_) (fun m0=>?_)
 rotate_left
 ·refine pu15<|zC<|pu1<|zB<|retT [I 10]<|⟨?_,c0⟩
  unfold sepCode
  (repeat' split)<;>first|rfl|(exfalso;omega)|contradiction|(exfalso;simp_all;done)|(simp_all;done)
 refine pu1<|gY<|cR call197 (r7_arew acol ncol kcol col (RdT.flat (hcol.up 0 (by rfl))) c0.flat) fun _ d0=>pu3<|sBn 36 (areW col) (fun n0=>?_) (fun n0=>?_)
 rotate_left
 ·refine pu10<|zC<|pu1<|zB<|retT [I 10]<|⟨?_,d0⟩
  unfold sepCode
  (repeat' split)<;>first|rfl|(exfalso;omega)|contradiction|(exfalso;simp_all;done)|(simp_all;done)
 refine pu1<|gY<|cR call198 (r7_iss sh d0.flat) fun _ e0=>pu3<|sDn 41 ((0:Int)<=sh/\sh<=(24:Int)) (fun o0=>?_) (fun o0=>?_)
 rotate_left
 ·refine pu5<|zC<|pu1<|zB<|retT [I 10]<|⟨?_,e0⟩
  unfold sepCode
  (repeat' split)<;>first|rfl|(exfalso;omega)|contradiction|(exfalso;simp_all;done)|(simp_all;done)
 refine pu1<|gY<|cR call198 (r7_iss sh2 e0.flat) fun _ f0=>pu3<|nT<|cDn ((0:Int)<=sh2/\sh2<=(24:Int)) (fun p0=>?_) (fun p0=>?_)
 rotate_left
 ·refine sR<|pu1<|zB<|retT [I 10]<|⟨?_,f0⟩
  unfold sepCode
  (repeat' split)<;>first|rfl|(exfalso;omega)|contradiction|(exfalso;simp_all;done)|(simp_all;done)
 refine sR<|pu1<|cR call199 (r9_value mx f0.flat) fun _ g0=>pu2<|sDn 50 ((1:Int)<=mx/\mx<=(4294967296:Int)) (fun q0=>?_) (fun q0=>?_)
 rotate_left
 ·refine pu5<|zC<|pu1<|zB<|retT [I 2]<|⟨?_,g0⟩
  unfold sepCode
  (repeat' split)<;>first|rfl|(exfalso;omega)|contradiction|(exfalso;simp_all;done)|(simp_all;done)
 refine pu1<|gY<|cR call199 (r9_value out g0.flat) fun _ h0=>pu3<|nT<|cDn ((1:Int)<=out/\out<=(4294967296:Int)) (fun r0=>?_) (fun r0=>?_)
 rotate_left
 ·refine sR<|pu1<|zB<|retT [I 2]<|⟨?_,h0⟩
  unfold sepCode
  (repeat' split)<;>first|rfl|(exfalso;omega)|contradiction|(exfalso;simp_all;done)|(simp_all;done)
 refine skipE<|bN<|tN<|sR<|pu2<|cR call200 (r7_bounds arow nrow krow row 0 mx (RdT.flat (hrow.up 0 (by rfl))) h0.flat) fun _ i0=>pu7<|zQ<|pu2<|nT<|cBn (bndOK row 0 mx) (fun s0=>?_) (fun s0=>?_)
 rotate_left
 ·refine sR<|pu1<|zR<|retT [I 11]<|⟨?_,i0⟩
  unfold sepCode
  (repeat' split)<;>first|rfl|(exfalso;omega)|contradiction|(exfalso;simp_all;done)|(simp_all;done)
 refine kS<|pu3<|cR call201 (r7_span (bndLo row 0 mx) (bndHi row 0 mx) sh i0.flat) fun _ t0=>pu5<|zQ<|pu3<|cR call200 (r7_bounds acol ncol kcol col (shiftV (bndLo row 0 mx) sh) (shiftV (bndHi row 0 mx) sh) (RdT.flat (hcol.up 0 (by rfl))) t0.flat) fun _ j0=>pu5<|zS<|pu2<|nT<|cBn (bndOK col (shiftV (bndLo row 0 mx) sh) (shiftV (bndHi row 0 mx) sh)) (fun u0=>?_) (fun u0=>?_)
 rotate_left
 ·refine sR<|pu1<|zR<|retT [I 11]<|⟨?_,j0⟩
  unfold sepCode
  (repeat' split)<;>first|rfl|(exfalso;omega)|contradiction|(exfalso;simp_all;done)|(simp_all;done)
 refine kS<|pu1<|zE<|retT [I 0]<|⟨?_,j0⟩
 unfold sepCode
 (repeat' split)<;>first|rfl|(exfalso;omega)|contradiction|(exfalso;simp_all;done)|(simp_all;done)
def spLo (mx s:Int) (t:TapV):Int:=shiftV (bndLo t.weights 0 mx) s
def spHi (mx s:Int) (t:TapV):Int:=shiftV (bndHi t.weights 0 mx) s
def runLo (f:TapV->Int):List TapV->Int
  |[]=>0
  |t::l=>l.foldl (fun m t=>min m (f t)) (f t)
def runHi (f:TapV->Int):List TapV->Int
  |[]=>0
  |t::l=>l.foldl (fun m t=>max m (f t)) (f t)
theorem runLo_one (f:TapV->Int) {l:List TapV} {x:TapV} (h:l[0]?=some x):runLo f (l.take 1)=f x:=by
  match l with
  |[]=>simp at h
  |y::l=>simp at h;subst h;simp [runLo]
theorem runHi_one (f:TapV->Int) {l:List TapV} {x:TapV} (h:l[0]?=some x):runHi f (l.take 1)=f x:=by
  match l with
  |[]=>simp at h
  |y::l=>simp at h;subst h;simp [runHi]
theorem runLo_at (f:TapV->Int) {l:List TapV} {i:Nat} {x:TapV} (h:l[i]?=some x) (hi:0<i):runLo f (l.take (i+1))=min (runLo f (l.take i)) (f x):=by
  rw [take_succ_at h]
  match l,i with
  |[],_=>simp at h
  |y::l,i+1=>simp [runLo,List.foldl_append]
theorem runHi_at (f:TapV->Int) {l:List TapV} {i:Nat} {x:TapV} (h:l[i]?=some x) (hi:0<i):runHi f (l.take (i+1))=max (runHi f (l.take i)) (f x):=by
  rw [take_succ_at h]
  match l,i with
  |[],_=>simp at h
  |y::l,i+1=>simp [runHi,List.foldl_append]
def resCode (w h mx:Int) (x y:List TapV) (s s2 out:Int):Int:=
  if tapsCode x w=0 then (if tapsCode y h=0 then (if (x.length:Int)*(y.length:Int)<=4096 then (if (0<=s/\s<=24)/\0<=s2/\s2<=24 then (if (1<=mx/\mx<=4294967296)/\1<=out/\out<=4294967296 then
    (if x.all (fun t=>bndOK t.weights 0 mx)=true then (if y.all (fun t=>bndOK t.weights (runLo (spLo mx s) x) (runHi (spHi mx s) x))=true then 0 else 11) else 11) else 2) else 10) else 8) else tapsCode y h) else tapsCode x w
theorem tapsCode_len {l:List TapV} {n:Int} (h:tapsCode l n=0):1<=l.length/\l.length<=128:=by
  unfold tapsCode at h
  split at h
  · omega
  · omega
theorem r11_check (s:Shape) (ax:Option Addr) (nx kx:Nat) (x:List Tap) (ay:Option Addr) (ny ky:Nat) (y:List Tap) (sh:Int) (sh2:Int) (out:Int) (hx:RdT encTap 2 [H] ax nx kx x) (dx:∀z∈x,Tap.Ok [H] z) (hy:RdT encTap 2 [H] ay ny ky y) (dy:∀z∈y,Tap.Ok [H] z) (hS:Sat W w (H::F)):
  Ro prog 168 #[.agg #[I s.w,I s.h,I s.max_], .slice ax nx kx, .slice ay ny ky,I sh,I sh2,I out] (I (resCode s.w s.h s.max_ (x.map Tap.v) (y.map Tap.v) sh sh2 out)) W w (H::F):=by
 have hl_x:=hx.le;have hn_x:=hx.len
 have hl_y:=hy.le;have hn_y:=hy.len
 refine callsA 122 func168 rfl<|sR<|sBox hS (.agg #[I s.w,I s.h,I s.max_]) #[I s.w,I s.h,I s.max_] fun d0 _ k0=>pu1<|zQ<|pu2<|sL k0 0 0 (I s.w) (isAgg3 _)<|cR call202 (r8_valid ax nx kx x s.w (RdT.flat (hx.up 1 (by rfl))) (fun z hz=>(dx z hz).of_mem (mem_flat1 1 (by rfl))) k0.flat) fun _ g0=>pu1<|zS<|pu2<|nT<|cN (tapsCode (x.map Tap.v) s.w) 0 (fun t0=>?_) (fun t0=>?_)
 rotate_left
 ·refine sR<|pu2<|zR<|retT [I (tapsCode (x.map Tap.v) s.w)] ?_
  have u0:=(g0.dropAt 0 rfl)
  refine ⟨?_,u0⟩
  unfold resCode
  (repeat' split)<;>first|rfl|(exfalso;omega)|contradiction|(exfalso;simp_all;done)|(simp_all;done)
 refine kT<|seqE<|sR<|pu2<|sL g0 0 1 (I s.h) (isAgg3 _)<|cR call202 (r8_valid ay ny ky y s.h (RdT.flat (hy.up 1 (by rfl))) (fun z hz=>(dy z hz).of_mem (mem_flat1 1 (by rfl))) g0.flat) fun _ h0=>pu1<|zS<|pu2<|nT<|cN (tapsCode (y.map Tap.v) s.h) 0 (fun v0=>?_) (fun v0=>?_)
 rotate_left
 ·refine sR<|pu2<|zR<|retT [I (tapsCode (y.map Tap.v) s.h)] ?_
  have w0:=(h0.dropAt 0 rfl)
  refine ⟨?_,w0⟩
  unfold resCode
  (repeat' split)<;>first|rfl|(exfalso;omega)|contradiction|(exfalso;simp_all;done)|(simp_all;done)
 refine kT<|seqE<|blockE<|seqE ?_
 have hlx:=tapsCode_len (l:=x.map Tap.v) (n:=s.w) om;have hly:=tapsCode_len (l:=y.map Tap.v) (n:=s.h) om
 have hmx:(x.map Tap.v).length=nx:=by simp [hn_x]
 have hmy:(y.map Tap.v).length=ny:=by simp [hn_y]
 have hwh:=mul_bd (a:=(nx:Int)) (b:=(ny:Int)) (A:=128) (B:=128) om om
 have hmm:((x.map Tap.v).length:Int)*((y.map Tap.v).length:Int)=(nx:Int)*(ny:Int):=by rw [hmx,hmy]
 refine rE<|pu4<|sMul (nx:Int) (ny:Int)<|pu2<|nT<|cD (((nx:Int)*(ny:Int))>4096) (fun x0=>?_) (fun x0=>?_)
 ·refine sR<|pu1<|zB<|retT [I 8] ?_
  have y0:=(h0.dropAt 0 rfl)
  refine ⟨?_,y0⟩
  unfold resCode
  (repeat' split)<;>first|rfl|(exfalso;omega)|contradiction|(exfalso;simp_all;done)|(simp_all;done)
 refine cutA (γ:=Unit) (fun _=>[(1, .slice ax nx kx),(2, .slice ay ny ky),(3,I sh),(5,I out),(6,Pt d0 0),(46, .bool (decide (¬((0<=sh/\sh<=24)/\0<=sh2/\sh2<=24))))]) (fun _ w=>Sat W w ([(d0, .cells #[I s.w,I s.h,I s.max_] 65 (0,0))]::H::F)) ?_ ?_
 ·refine rE<|pu1<|cR call198 (r7_iss sh h0.flat) fun _ l0=>pu2<|sDn 50 ((0:Int)<=sh/\sh<=(24:Int)) (fun z0=>?_) (fun z0=>?_)
  rotate_left
  ·exact pu5<|nT<|⟨(),⟨kr,kr,kr,kr,kr,(Eq.trans (b:= .bool true) kr (congrArg Value.bool (decide_eq_true (p:=¬((0<=sh/\sh<=24)/\0<=sh2/\sh2<=24)) om).symm)),trivial⟩,l0⟩
  exact pu1<|gY<|cR call198 (r7_iss sh2 l0.flat) fun _ a1=>pu3<|nT<|⟨(),⟨kr,kr,kr,kr,kr,(Eq.trans (b:= .bool (!decide ((0:Int)<=sh2/\sh2<=(24:Int)))) kr (congrArg Value.bool bm)),trivial⟩,a1⟩
 rintro _ ρ _ i0
 refine cD (¬((0<=sh/\sh<=24)/\0<=sh2/\sh2<=24)) (fun b1=>?_) (fun b1=>?_)
 ·refine sR<|pu1<|zB<|retT [I 10] ?_
  have c1:=(i0.dropAt 0 rfl)
  refine ⟨?_,c1⟩
  unfold resCode
  (repeat' split)<;>first|rfl|(exfalso;omega)|contradiction|(exfalso;simp_all;done)|(simp_all;done)
 refine cutA (γ:=Unit) (fun _=>[(1, .slice ax nx kx),(2, .slice ay ny ky),(3,I sh),(6,Pt d0 0),(55, .bool (decide (¬((1<=s.max_/\s.max_<=4294967296)/\1<=out/\out<=4294967296))))]) (fun _ w=>Sat W w ([(d0, .cells #[I s.w,I s.h,I s.max_] 65 (0,0))]::H::F)) ?_ ?_
 ·refine rE<|pu1<|sL i0 0 2 (I s.max_) (isAgg3 _)<|cR call199 (r9_value s.max_ i0.flat) fun _ m0=>pu2<|sDn 60 ((1:Int)<=s.max_/\s.max_<=(4294967296:Int)) (fun d1=>?_) (fun d1=>?_)
  rotate_left
  ·exact pu5<|nT<|⟨(),⟨kr,kr,kr,kr,(Eq.trans (b:= .bool true) kr (congrArg Value.bool (decide_eq_true (p:=¬((1<=s.max_/\s.max_<=4294967296)/\1<=out/\out<=4294967296)) om).symm)),trivial⟩,m0⟩
  exact pu1<|gY<|cR call199 (r9_value out m0.flat) fun _ f1=>pu3<|nT<|⟨(),⟨kr,kr,kr,kr,(Eq.trans (b:= .bool (!decide ((1:Int)<=out/\out<=(4294967296:Int)))) kr (congrArg Value.bool bm)),trivial⟩,f1⟩
 rintro _ ρ _ n0
 refine cD (¬((1<=s.max_/\s.max_<=4294967296)/\1<=out/\out<=4294967296)) (fun g1=>?_) (fun g1=>?_)
 ·refine sR<|pu1<|zB<|retT [I 2] ?_
  have h1:=(n0.dropAt 0 rfl)
  refine ⟨?_,h1⟩
  unfold resCode
  (repeat' split)<;>first|rfl|(exfalso;omega)|contradiction|(exfalso;simp_all;done)|(simp_all;done)
 refine skipE<|bN<|tN<|sR<|pu2<|zQ<|pu1<|nT<|blockE<|loopA (γ:=Nat×Int×Int) (fun ⟨i,lo,up⟩=>[(1, .slice ax nx kx),(2, .slice ay ny ky),(3,I sh),(6,Pt d0 0),(17,I (i:Int)),(15,I lo),(16,I up)]) (fun ⟨i,lo,up⟩ w=>Sat W w ([(d0, .cells #[I s.w,I s.h,I s.max_] 65 (0,0))]::H::F)/\i<=nx/\(lo=runLo (spLo s.max_ sh) ((x.map Tap.v).take i)/\up=runHi (spHi s.max_ sh) ((x.map Tap.v).take i))/\(((x.map Tap.v).take i).all (fun t=>bndOK t.weights 0 s.max_)=true)) (fun ⟨i,lo,up⟩=>nx-i) (0,0,0) ⟨n0,om,by exact ⟨rfl,rfl⟩,by rfl⟩ ?_
 rintro ⟨i,lo,up⟩ ρ _ ⟨e0,hi,hr,hE⟩
 refine seqE<|sR<|pu4<|nT<|cD ((i:Int)<(nx:Int)) (fun i1=>?_) (fun i1=>?_)
 rotate_left
 ·refine exitE<|xB<|tN<|seqE<|seqE ?_
  have hx1:=all_of_take hE (by simp;omega)
  have hx2:lo=runLo (spLo s.max_ sh) (x.map Tap.v):=by rw [hr.1,List.take_of_length_le (by simp;omega)]
  have hx3:up=runHi (spHi s.max_ sh) (x.map Tap.v):=by rw [hr.2,List.take_of_length_le (by simp;omega)]
  refine rE<|pu1<|nT<|blockE<|loopA (γ:=Nat) (fun j=>[(2, .slice ay ny ky),(15,I lo),(16,I up),(21,I (j:Int))]) (fun j w=>Sat W w ([(d0, .cells #[I s.w,I s.h,I s.max_] 65 (0,0))]::H::F)/\j<=ny/\(((y.map Tap.v).take j).all (fun t=>bndOK t.weights (runLo (spLo s.max_ sh) (x.map Tap.v)) (runHi (spHi s.max_ sh) (x.map Tap.v)))=true)) (fun j=>ny-j) 0 ⟨e0,om,by rfl⟩ ?_
  rintro j ρ _ ⟨j0,hj,hF⟩
  refine seqE<|sR<|pu4<|nT<|cD ((j:Int)<(ny:Int)) (fun j1=>?_) (fun j1=>?_)
  rotate_left
  ·refine exitE<|xB<|tN<|sR<|pu1<|zE<|retT [I 0] ?_
   have k1:=(j0.dropAt 0 rfl)
   have hy2:=all_of_take hF (by simp;omega)
   refine ⟨?_,k1⟩
   unfold resCode
   (repeat' split)<;>first|rfl|(exfalso;omega)|contradiction|(exfalso;rename_i h;rw [hy2] at h;cases h)|(exfalso;simp_all;done)|(simp_all;done)
  refine kT<|seqE<|blockE<|sR<|pu2<|sIdx hy (j:Int) runUnderlying50 sizeOf122 fun b0 _ _ f0 l1=>?_
  rw [Int.toNat_natCast] at f0
  refine pu1<|sLp j0 (l1.up 1 rfl) 1 (.slice b0.weights.a b0.weights.n b0.weights.k) (isAgg22 _)<|pu2<|cR call200 (r7_bounds b0.weights.a b0.weights.n b0.weights.k b0.weights.l lo up (RdT.flat ((dy b0 (List.mem_of_getElem? f0)).weights.up 1 (by rfl))) j0.flat) fun _ o0=>pu7<|zS<|pu2<|nT<|cBn (bndOK b0.weights.l lo up) (fun m1=>?_) (fun m1=>?_)
  ·exact skipE<|bN<|tN<|rE<|pu1<|sAdd (j:Int) 1<|pu1<|nT<|⟨j+1,od,alA,o0,om,all_succ hF (map_at (f:=Tap.v) f0) (by simp only [Tap.v];rw [<-hx2,<-hx3];simp_all)⟩
  refine sR<|pu1<|zB<|tR<|tK<|retT [I 11] ?_
  have n1:=(o0.dropAt 0 rfl)
  have hy2:=all_false_at (p:=fun t=>bndOK t.weights (runLo (spLo s.max_ sh) (x.map Tap.v)) (runHi (spHi s.max_ sh) (x.map Tap.v))) (map_at (f:=Tap.v) f0) (by simp only [Tap.v];rw [<-hx2,<-hx3];simp_all)
  refine ⟨?_,n1⟩
  unfold resCode
  (repeat' split)<;>first|rfl|(exfalso;omega)|contradiction|(exfalso;rename_i h;rw [hy2] at h;cases h)|(exfalso;simp_all;done)|(simp_all;done)
 refine kT<|seqE<|blockE<|seqE ?_
 obtain ⟨a0,p0,q0,c0,o1,p1⟩:=RdT.elem hx (i:Int)
 rw [Int.toNat_natCast] at c0
 refine drawE [7] [(4,⟨p0,q0+1,none⟩, .slice a0.weights.a a0.weights.n a0.weights.k),(6,⟨d0,2,none⟩,I s.max_)] [(true,[0,1]),(true,[2]),(true,[3,5]),(true,[4]),(true,[6]),(false,[7]),(true,[8]),(true,[9]),(true,[10]),(true,[11]),(true,[12,13,14])] rfl kr ⟨.inr ((o1.up 1 rfl).cell e0 (k:=1) rfl),cI e0 0,trivial⟩ ?_
 have q1:=e0.drew
 refine wU [0,1]<|wY (.pointer (some ⟨p0,q0,none⟩)) rfl (fun w _=>Y_idx (a:=ax) (i:=(i:Int)) (len:=nx) (cap:=kx) rfl runUnderlying50 sizeOf122 kr kr p1)<|wU [3,5]<|wLd (.slice a0.weights.a a0.weights.n a0.weights.k) 0 isAgg22<|wLd (I s.max_) 1 isAgg3<|wO rfl<|cR call200 (r7_bounds a0.weights.a a0.weights.n a0.weights.k a0.weights.l 0 s.max_ (RdT.flat ((dx a0 (List.mem_of_getElem? c0)).weights.up 1 (by rfl))) q1.flat) fun _ r0=>nilO ⟨dA,?_⟩
 refine wU [8]<|wU [9]<|wU [10]<|wU [11]<|wU [12,13,14]<|wN<|tN<|seqE<|sR<|pu2<|nT<|cBn (bndOK a0.weights.l 0 s.max_) (fun r1=>?_) (fun r1=>?_)
 rotate_left
 ·refine sR<|pu1<|zE<|tR<|tK<|tR<|tK<|retT [I 11] ?_
  have s1:=(r0.dropAt 0 rfl)
  have hx1:=all_false_at (p:=fun t=>bndOK t.weights 0 s.max_) (map_at (f:=Tap.v) c0) (by simp only [Tap.v];simp_all)
  refine ⟨?_,s1⟩
  unfold resCode
  (repeat' split)<;>first|rfl|(exfalso;omega)|contradiction|(exfalso;simp_all;done)|(simp_all;done)
 refine kS<|pu3<|cR call201 (r7_span (bndLo a0.weights.l 0 s.max_) (bndHi a0.weights.l 0 s.max_) sh r0.flat) fun _ s0=>pu5<|zQ<|pu2<|nT<|cE (i:Int) 0 (fun t1=>?_) (fun t1=>?_)
 rotate_left
 ·exact kT<|rE<|pu2<|stepY (I (min lo (shiftV (bndLo a0.weights.l 0 s.max_) sh))) rfl rfl (Y_min2 lo (shiftV (bndLo a0.weights.l 0 s.max_) sh) rfl rfl kr kr)<|pu2<|stepY (I (max up (shiftV (bndHi a0.weights.l 0 s.max_) sh))) rfl rfl (Y_max2 up (shiftV (bndHi a0.weights.l 0 s.max_) sh) rfl rfl kr kr)<|pu2<|nB<|rE<|pu1<|sAdd (i:Int) 1<|pu1<|nT<|⟨(i+1,(min lo (shiftV (bndLo a0.weights.l 0 s.max_) sh)),(max up (shiftV (bndHi a0.weights.l 0 s.max_) sh))),od,alA,s0,om,by
    have e1:=runLo_at (spLo s.max_ sh) (map_at (f:=Tap.v) c0) om;have e2:=runHi_at (spHi s.max_ sh) (map_at (f:=Tap.v) c0) om
    exact ⟨by rw [e1,<-hr.1];rfl,by rw [e2,<-hr.2];rfl⟩,all_succ hE (map_at (f:=Tap.v) c0) (by simp only [Tap.v];simp_all)⟩
 refine rE<|pu4<|nT<|rE<|pu2<|stepY (I (min (shiftV (bndLo a0.weights.l 0 s.max_) sh) (shiftV (bndLo a0.weights.l 0 s.max_) sh))) rfl rfl (Y_min2 (shiftV (bndLo a0.weights.l 0 s.max_) sh) (shiftV (bndLo a0.weights.l 0 s.max_) sh) rfl rfl kr kr)<|pu2<|stepY (I (max (shiftV (bndHi a0.weights.l 0 s.max_) sh) (shiftV (bndHi a0.weights.l 0 s.max_) sh))) rfl rfl (Y_max2 (shiftV (bndHi a0.weights.l 0 s.max_) sh) (shiftV (bndHi a0.weights.l 0 s.max_) sh) rfl rfl kr kr)<|pu2<|nB<|rE<|pu1<|sAdd (i:Int) 1<|pu1<|nT ?_
 exact ⟨(i+1,(min (shiftV (bndLo a0.weights.l 0 s.max_) sh) (shiftV (bndLo a0.weights.l 0 s.max_) sh)),(max (shiftV (bndHi a0.weights.l 0 s.max_) sh) (shiftV (bndHi a0.weights.l 0 s.max_) sh))),od,alA,s0,om,by
   have hi0:i=0:=by omega
   subst hi0
   have e1:=runLo_one (spLo s.max_ sh) (map_at (f:=Tap.v) c0);have e2:=runHi_one (spHi s.max_ sh) (map_at (f:=Tap.v) c0)
   rw [e1,e2];simp only [spLo,spHi,Tap.v];omega,all_succ hE (map_at (f:=Tap.v) c0) (by simp only [Tap.v];simp_all)⟩
end Go.Proofs.YtmlhcafjelkjfaaGreat
