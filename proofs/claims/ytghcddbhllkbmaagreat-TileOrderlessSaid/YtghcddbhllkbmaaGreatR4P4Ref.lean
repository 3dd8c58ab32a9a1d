import Derived.Test.YtghcddbhllkbmaaGreatR4P4Ab
namespace Go.Proofs.YtghcddbhllkbmaaGreat
open Go Go.E Go.Proofs.Tryz
set_option linter.all false
set_option maxRecDepth 100000
set_option maxHeartbeats 2000000
variable {W w:World} {H:Chunk} {F:List Chunk}
structure Edge where
  policy:Int
  fill:Int
  deriving DecidableEq
theorem r7_isw (x:Int) (hS:Sat W w (H::F)):
  Ro prog 195 #[I x] (.bool (decide ((-32767:Int)<=x/\x<=(32767:Int)))) W w (H::F):=by
 exact callsK 9 func195 rfl<|jCO 10 rfl<|SD 5 (x>=(-32767)) (fun a0=>jOR 7 rfl<|retT [.bool false]<|⟨rB bq,hS⟩) fun a0=>jOR 7 rfl<|retT [.bool (decide ((x:Int)<=32767))]<|⟨rB bq,hS⟩
theorem r7_iss (x:Int) (hS:Sat W w (H::F)):
  Ro prog 174 #[I x] (.bool (decide ((0:Int)<=x/\x<=(24:Int)))) W w (H::F):=by
 exact callsK 9 func174 rfl<|jCO 10 rfl<|SD 5 (x>=0) (fun a0=>jOR 7 rfl<|retT [.bool false]<|⟨rB bq,hS⟩) fun a0=>jOR 7 rfl<|retT [.bool (decide ((x:Int)<=24))]<|⟨rB bq,hS⟩
theorem r7_acc (x:Int) (hS:Sat W w (H::F)):
  Ro prog 181 #[I x] (.bool (decide ((-17592186044416:Int)<=x/\x<=(17592186044416:Int)))) W w (H::F):=by
 exact callsK 9 func181 rfl<|jCO 10 rfl<|SD 5 (x>=(-17592186044416)) (fun a0=>jOR 7 rfl<|retT [.bool false]<|⟨rB bq,hS⟩) fun a0=>jOR 7 rfl<|retT [.bool (decide ((x:Int)<=17592186044416))]<|⟨rB bq,hS⟩
theorem r9_side (x:Int) (hS:Sat W w (H::F)):
  Ro prog 172 #[I x] (.bool (decide ((1:Int)<=x/\x<=(9:Int)))) W w (H::F):=by
 exact callsK 9 func172 rfl<|jCO 10 rfl<|SD 5 (x>=1) (fun a0=>jOR 7 rfl<|retT [.bool false]<|⟨rB bq,hS⟩) fun a0=>jOR 7 rfl<|retT [.bool (decide ((x:Int)<=9))]<|⟨rB bq,hS⟩
theorem r9_value (x:Int) (hS:Sat W w (H::F)):
  Ro prog 175 #[I x] (.bool (decide ((1:Int)<=x/\x<=(4294967296:Int)))) W w (H::F):=by
 exact callsK 9 func175 rfl<|jCO 10 rfl<|SD 5 (x>=1) (fun a0=>jOR 7 rfl<|retT [.bool false]<|⟨rB bq,hS⟩) fun a0=>jOR 7 rfl<|retT [.bool (decide ((x:Int)<=4294967296))]<|⟨rB bq,hS⟩
theorem r12_bins (x:Int) (hS:Sat W w (H::F)):
  Ro prog 106 #[I x] (.bool (decide ((1:Int)<=x/\x<=(128:Int)))) W w (H::F):=by
 exact callsK 9 func106 rfl<|jCO 10 rfl<|SD 5 (x>=1) (fun a0=>jOR 7 rfl<|retT [.bool false]<|⟨rB bq,hS⟩) fun a0=>jOR 7 rfl<|retT [.bool (decide ((x:Int)<=128))]<|⟨rB bq,hS⟩
theorem r8_side (x:Int) (hS:Sat W w (H::F)):
  Ro prog 141 #[I x] (.bool (decide ((1:Int)<=x/\x<=(128:Int)))) W w (H::F):=by
 exact callsK 9 func141 rfl<|jCO 10 rfl<|SD 5 (x>=1) (fun a0=>jOR 7 rfl<|retT [.bool false]<|⟨rB bq,hS⟩) fun a0=>jOR 7 rfl<|retT [.bool (decide ((x:Int)<=128))]<|⟨rB bq,hS⟩
theorem r8_first (x:Int) (hS:Sat W w (H::F)):
  Ro prog 197 #[I x] (.bool (decide ((-128:Int)<=x/\x<=(256:Int)))) W w (H::F):=by
 exact callsK 9 func197 rfl<|jCO 10 rfl<|SD 5 (x>=(-128)) (fun a0=>jOR 7 rfl<|retT [.bool false]<|⟨rB bq,hS⟩) fun a0=>jOR 7 rfl<|retT [.bool (decide ((x:Int)<=256))]<|⟨rB bq,hS⟩
theorem r4_size (w0:Int) (h0:Int) (m0:Int) (hS:Sat W w (H::F)):
  Ro prog 46 #[I w0,I h0,I m0] (.bool (decide ((1:Int)<=w0/\w0<=(128:Int)/\(1:Int)<=h0/\h0<=(128:Int)/\w0*h0<=(4096:Int)/\(1:Int)<=m0/\m0<=(4294967296:Int)))) W w (H::F):=by
 exact callsK 35 func46 rfl<|jCO 10 rfl<|SD 9 (w0>=1) (fun a0=>jOR 29 rfl<|retT [.bool false]<|⟨rB bq,hS⟩) fun a0=>pu4<|SD 13 (w0<=128) (fun b0=>jOR 25 rfl<|retT [.bool false]<|⟨rB bq,hS⟩) fun b0=>pu4<|SD 17 (h0>=1) (fun c0=>jOR 21 rfl<|retT [.bool false]<|⟨rB bq,hS⟩) fun c0=>pu4<|SD 21 (h0<=128) (fun d0=>jOR 17 rfl<|retT [.bool false]<|⟨rB bq,hS⟩) fun d0=>pu2<|gY<|(by have g0:=mul_bd (a:=w0) (b:=h0) (A:=128) (B:=128) om om;exact sMul w0 h0<|pu3<|SD 27 ((w0*h0)<=4096) (fun e0=>jOR 11 rfl<|retT [.bool false]<|⟨rB bq,hS⟩) fun e0=>pu4<|SD 31 (m0>=1) (fun f0=>jOR 7 rfl<|retT [.bool false]<|⟨rB bq,hS⟩) fun f0=>jOR 7 rfl<|retT [.bool (decide ((m0:Int)<=4294967296))]<|⟨rB bq,hS⟩)
def sizeP (w h m:Int):Prop:=1<=w/\w<=128/\1<=h/\h<=128/\w*h<=4096/\1<=m/\m<=4294967296
instance (w h m:Int):Decidable (sizeP w h m):=by unfold sizeP;infer_instance
def areW (l:List Int):Bool:=l.all fun n=>decide (-32767<=n/\n<=32767)
def pixOK (m:Int) (l:List Int):Bool:=l.all fun n=>decide (0<=n/\n<=m)
def planeOK (p:PlaneV):Bool:=decide (sizeP p.w p.h p.max_/\(p.pix.length:Int)=p.w*p.h)&&pixOK p.max_ p.pix
theorem planeOK_t {p:PlaneV} (h:sizeP p.w p.h p.max_/\(p.pix.length:Int)=p.w*p.h) (h2:pixOK p.max_ p.pix=true):planeOK p=true:=by simp [planeOK,h,h2]
theorem planeOK_f1 {p:PlaneV} (h:¬(sizeP p.w p.h p.max_/\(p.pix.length:Int)=p.w*p.h)):planeOK p=false:=by simp [planeOK];intro h1 h2;exact absurd ⟨h1,h2⟩ h
theorem planeOK_f2 {p:PlaneV} (h:pixOK p.max_ p.pix=false):planeOK p=false:=by simp [planeOK,h]
theorem r7_arew (ax:Option Addr) (nx kx:Nat) (x:List Int) (hx:RdT Go.E.encI 1 [H] ax nx kx x) (hS:Sat W w (H::F)):
  Ro prog 173 #[.slice ax nx kx] (.bool (areW x)) W w (H::F):=by
 have h0:=hx.ll
 refine callsK 16 func173 rfl<|jCC 12 rfl<|loopF [0] (γ:=Nat) (fun i R=>⟨[(3,I (i:Int))],R,nx-i,i<=nx/\(areW (x.take i)=true)⟩) 0 ⟨hS,om,by rfl⟩ ?_
 rintro i ρ _ ⟨b0,hi,hE⟩
 exact jCC 9 rfl<|CD ((i:Int)<(nx:Int)) (fun e0=>jCR 11 rfl<|retT [.bool true]<|⟨by rw [show areW x=true from all_of_take hE om];rfl,b0⟩) fun e0=>jCO 8 rfl<|sIN hx i fun a0 _ _ c0 f0=>sMp b0 (f0.up 0 rfl) 0 (I a0)<|cS (r7_isw a0 b0.flat) fun _ d0=>jOC 3 rfl<|CDn ((-32767:Int)<=a0/\a0<=(32767:Int)) (fun g0=>jCR 11 rfl<|retT [.bool false]<|⟨by rw [show areW x=false from all_false_at c0 (decide_eq_false om)];rfl,d0⟩) fun g0=>jCO 5 rfl<|sAdd (i:Int) 1<|jOI 2 rfl<|⟨i+1,od,alB,d0,om,all_succ hE c0 (decide_eq_true om)⟩
theorem r4_valid (p:Plane) (hp:Plane.Ok [H] p) (hS:Sat W w (H::F)):
  Ro prog 65 #[.agg (encPlane p).toArray] (.bool (planeOK p.v)) W w (H::F):=by
 have k0:=hp.pix.ll
 refine callsK 46 func65 rfl<|jCO 2 rfl<|sBx hS (encPlane p) fun _ _ f0=>gOO f0 12 [0,0,0] rfl<|cS (r4_size p.w p.h p.max_ f0.flat) fun _ a0=>pu2<|SDn 12 ((1:Int)<=p.w/\p.w<=(128:Int)/\(1:Int)<=p.h/\p.h<=(128:Int)/\p.w*p.h<=(4096:Int)/\(1:Int)<=p.max_/\p.max_<=(4294967296:Int)) (fun j0=>jOR 20 rfl<|retT [.bool false]<|⟨rB (planeOK_f1 (p:=p.v) (by simp only [Plane.v,sizeP];omega)).symm,(a0.dropAt 0 rfl)⟩) fun j0=>gOO a0 7 [0,0,0] rfl<|gY ?_
 have m0:=mul_bd (a:=p.w) (b:=p.h) (A:=128) (B:=128) om om
 refine sMul p.w p.h<|jOC 4 rfl<|CN (p.pix.n:Int) (p.w*p.h) (fun l0=>jCR 7 rfl<|retT [.bool false]<|⟨rB (planeOK_f1 (p:=p.v) (by simp only [Plane.v,sizeP];omega)).symm,(a0.dropAt 0 rfl)⟩) fun l0=>jCC 9 rfl<|loopF [1] (γ:=Nat) (fun i R=>⟨[(3,I (i:Int))],R,p.pix.n-i,i<=p.pix.n/\(pixOK p.max_ (p.pix.l.take i)=true)⟩) 0 ⟨a0,om,by rfl⟩ ?_
 rintro i ρ _ ⟨b0,hi,hE⟩
 refine gCC b0 10 [0] rfl<|CD ((i:Int)<(p.pix.n:Int)) (fun n0=>jCR 11 rfl<|retT [.bool true]<|⟨rB (planeOK_t (p:=p.v) (by simp only [Plane.v,sizeP];omega) (all_of_take hE (by simp only [Plane.v];omega))).symm,(b0.dropAt 0 rfl)⟩) fun n0=>jCC 5 rfl ?_
 obtain ⟨g0,x0,y0,c0,d0,e0⟩:=RdT.eN hp.pix i
 exact bD ((g0:Int)<0) (fun h0=>drawF b0 [] (fb 1 0 3 1<|fq 4 0 (d0.up 1 rfl)<|fn) [0,2,1,3,4,5,6,7,9,12,8,10,11,13,14,15] fun _ p0=>wV 2<|wL 0<|wI e0<|wL 1<|wV 2<|wFix 36 _ true (decide_eq_true h0)<|wV 9<|wN<|jXR 13 rfl<|retT [.bool false]<|⟨rB (planeOK_f2 (p:=p.v) (all_false_at c0 (decide_eq_false (by simp only [Plane.v];omega)))).symm,(p0.dropAt 0 rfl)⟩) fun h0=>drawF b0 [] (fb 1 0 3 1<|fq 4 0 (d0.up 1 rfl)<|fb 8 0 3 1<|fq 11 0 (d0.up 1 rfl)<|fb 13 0 2 1<|fn) [0,2,1,3,4,5,6,7,9,12,8,10,11,13,14,15] fun _ i0=>wV 2<|wL 0<|wI e0<|wL 1<|wV 2<|wFix 36 _ false (decide_eq_false h0)<|wV 3<|wL 2<|wI e0<|wL 3<|wL 4<|wV 2<|wN<|jXC 1 rfl<|CD (g0>p.max_) (fun r0=>jCO 5 rfl<|sAdd (i:Int) 1<|jOI 2 rfl<|⟨i+1,od,alB,i0,om,all_succ hE c0 (decide_eq_true om)⟩) fun r0=>jCR 11 rfl<|retT [.bool false]<|⟨rB (planeOK_f2 (p:=p.v) (all_false_at c0 (decide_eq_false (by simp only [Plane.v];omega)))).symm,(i0.dropAt 0 rfl)⟩
def wCode (l:List Int):Int:=if l.length=0\/81<l.length then 9 else if areW l=true then 0 else 10
theorem r7_weights (ax:Option Addr) (nx kx:Nat) (x:List Int) (hx:RdT Go.E.encI 1 [H] ax nx kx x) (hS:Sat W w (H::F)):
  Ro prog 196 #[.slice ax nx kx] (I (wCode x)) W w (H::F):=by
 have e0:=hx.ll
 exact callsK 14 func196 rfl<|jCO 12 rfl<|sE 6 (nx:Int) 0 (fun b0=>jOR 14 rfl<|retT [I 9]<|⟨(by unfold wCode;exact ssp),hS⟩) fun b0=>jOC 6 rfl<|cD ((nx:Int)>81) (fun c0=>jCR 7 rfl<|retT [I 9]<|⟨(by unfold wCode;exact ssp),hS⟩) fun c0=>jCO 6 rfl<|cS (r7_arew ax nx kx x (hx.fl 0) hS.flat) fun _ a0=>jOC 3 rfl<|CBn (areW x) (fun d0=>jCR 7 rfl<|retT [I 10]<|⟨(by unfold wCode;exact ssp),a0⟩) fun d0=>jCR 8 rfl<|retT [I 0]<|⟨(by unfold wCode;exact ssp),a0⟩
def accP (x:Int):Prop:=-17592186044416<=x/\x<=17592186044416
instance (x:Int):Decidable (accP x):=by unfold accP;infer_instance
def sumLo (l:List Int) (lo hi:Int):Int:=(l.map fun w=>min (w*lo) (w*hi)).sum
def sumHi (l:List Int) (lo hi:Int):Int:=(l.map fun w=>max (w*lo) (w*hi)).sum
def bndOK (l:List Int) (lo hi:Int):Bool:=decide (wCode l=0/\lo<=hi/\-68719476736<=lo/\hi<=68719476736/\accP (sumLo l lo hi)/\accP (sumHi l lo hi))
def bndLo (l:List Int) (lo hi:Int):Int:=if bndOK l lo hi=true then sumLo l lo hi else 0
def bndHi (l:List Int) (lo hi:Int):Int:=if bndOK l lo hi=true then sumHi l lo hi else 0
theorem wCode_len {l:List Int} (h:wCode l=0):0<l.length/\l.length<=81/\areW l=true:=by
  unfold wCode at h
  split at h
  · omega
  · split at h
    · refine ⟨by omega,by omega,by assumption⟩
    · omega
theorem areW_at {l:List Int} (h:areW l=true) {i:Nat} {x:Int} (hx:l[i]?=some x):-32767<=x/\x<=32767:=by
  have:=List.all_eq_true.1 h x (List.mem_of_getElem? hx)
  simpa using this
theorem sum_at {f:Int->Int} {l:List Int} {i:Nat} {x:Int} (hx:l[i]?=some x):((l.take (i+1)).map f).sum=((l.take i).map f).sum+f x:=by
  rw [take_succ_at hx];simp
theorem bnd_ret {l:List Int} {lo hi a b:Int} {i:Nat} (hw:wCode l=0) (h1:lo<=hi) (h2:-68719476736<=lo/\hi<=68719476736) (ha:a=sumLo (l.take i) lo hi) (hb:b=sumHi (l.take i) lo hi) (hi':l.length<=i) (ca:accP a) (cb:accP b):bndOK l lo hi=true/\bndLo l lo hi=a/\bndHi l lo hi=b:=by
  rw [List.take_of_length_le hi'] at ha hb
  have h:bndOK l lo hi=true:=by unfold bndOK;exact decide_eq_true ⟨hw,h1,h2.1,h2.2,by rw [<-ha];exact ca,by rw [<-hb];exact cb⟩
  exact ⟨h,by unfold bndLo;rw [if_pos h,ha],by unfold bndHi;rw [if_pos h,hb]⟩
theorem bnd_bad {l:List Int} {lo hi:Int} (h:¬(wCode l=0/\lo<=hi/\-68719476736<=lo/\hi<=68719476736/\accP (sumLo l lo hi)/\accP (sumHi l lo hi))):bndOK l lo hi=false/\bndLo l lo hi=0/\bndHi l lo hi=0:=by
  have h:bndOK l lo hi=false:=by unfold bndOK;exact decide_eq_false h
  exact ⟨h,by unfold bndLo;rw [h];rfl,by unfold bndHi;rw [h];rfl⟩
theorem bnd_bad2 {l:List Int} {lo hi a b:Int} {i:Nat} (ha:a=sumLo (l.take i) lo hi) (hb:b=sumHi (l.take i) lo hi) (hi':l.length<=i) (h:¬(accP a/\accP b)):bndOK l lo hi=false/\bndLo l lo hi=0/\bndHi l lo hi=0:=by
  rw [List.take_of_length_le hi'] at ha hb
  exact bnd_bad fun h2=>h ⟨by rw [ha];exact h2.2.2.2.2.1,by rw [hb];exact h2.2.2.2.2.2⟩
theorem r7_bounds (ax:Option Addr) (nx kx:Nat) (x:List Int) (lo:Int) (up:Int) (hx:RdT Go.E.encI 1 [H] ax nx kx x) (hS:Sat W w (H::F)):
  Ro prog 176 #[.slice ax nx kx,I lo,I up] (.tuple #[I (bndLo x lo up),I (bndHi x lo up), .bool (bndOK x lo up)]) W w (H::F):=by
 have t0:=hx.ll
 refine callsK 68 func176 rfl<|jCO 11 rfl<|cS (r7_weights ax nx kx x (hx.fl 0) hS.flat) fun _ b0=>pu2<|SN 17 (wCode x) 0 (fun i0=>jOR 24 rfl<|retT [I 0,I 0, .bool false]<|(by obtain ⟨e1,e2,e3⟩:=bnd_bad (l:=x) (lo:=lo) (hi:=up) om;exact ⟨by rw [e1,e2,e3];rfl,b0⟩)) fun i0=>pu5<|sD 22 (lo>up) (fun j0=>jOR 19 rfl<|retT [I 0,I 0, .bool false]<|(by obtain ⟨e1,e2,e3⟩:=bnd_bad (l:=x) (lo:=lo) (hi:=up) om;exact ⟨by rw [e1,e2,e3];rfl,b0⟩)) fun j0=>pu4<|sD 26 (lo<(-68719476736)) (fun k0=>jOR 15 rfl<|retT [I 0,I 0, .bool false]<|(by obtain ⟨e1,e2,e3⟩:=bnd_bad (l:=x) (lo:=lo) (hi:=up) om;exact ⟨by rw [e1,e2,e3];rfl,b0⟩)) fun k0=>jOC 5 rfl<|cD (up>68719476736) (fun l0=>jCR 9 rfl<|retT [I 0,I 0, .bool false]<|(by obtain ⟨e1,e2,e3⟩:=bnd_bad (l:=x) (lo:=lo) (hi:=up) om;exact ⟨by rw [e1,e2,e3];rfl,b0⟩)) fun l0=>jCC 10 rfl ?_
 obtain ⟨y0,w0,hw⟩:=wCode_len (l:=x) om
 refine jCC 5 rfl<|loopF [0,1,2] (γ:=Nat×Int×Int) (fun ⟨i,a,b⟩ R=>⟨[(11,I (i:Int)),(9,I a),(10,I b)],R,nx-i,i<=nx/\(a=sumLo (x.take i) lo up)/\(b=sumHi (x.take i) lo up)/\(-(2251799813685248*(i:Int))<=a/\a<=2251799813685248*(i:Int)/\-(2251799813685248*(i:Int))<=b/\b<=2251799813685248*(i:Int))⟩) (0,0,0) ⟨b0,om,by rfl,by rfl,om⟩ ?_
 rintro ⟨i,a,b⟩ ρ _ ⟨d0,hi,ha,hb,x0⟩
 refine jCC 9 rfl<|CD ((i:Int)<(nx:Int)) (fun m0=>jCO 9 rfl<|cS (r7_acc a d0.flat) fun _ e0=>pu2<|SDn 61 ((-17592186044416:Int)<=a/\a<=(17592186044416:Int)) (fun n0=>jOR 16 rfl<|retT [I 0,I 0, .bool false]<|(by obtain ⟨e1,e2,e3⟩:=bnd_bad2 (l:=x) (i:=i) ha hb om (by unfold accP;omega);exact ⟨by rw [e1,e2,e3];rfl,e0⟩)) fun n0=>pu1<|gY<|cS (r7_acc b e0.flat) fun _ f0=>jOC 4 rfl<|CDn ((-17592186044416:Int)<=b/\b<=(17592186044416:Int)) (fun o0=>jCR 9 rfl<|retT [I 0,I 0, .bool false]<|(by obtain ⟨e1,e2,e3⟩:=bnd_bad2 (l:=x) (i:=i) ha hb om (by unfold accP;omega);exact ⟨by rw [e1,e2,e3];rfl,f0⟩)) fun o0=>jCR 12 rfl<|retT [I a,I b, .bool true]<|(by obtain ⟨e1,e2,e3⟩:=bnd_ret (l:=x) (i:=i) om om om ha hb om (by unfold accP;omega) (by unfold accP;omega);exact ⟨by rw [e1,e2,e3];rfl,f0⟩)) fun m0=>jCC 5 rfl ?_
 obtain ⟨a0,u0,v0,c0,g0,h0⟩:=RdT.eN hx i
 have q0:=areW_at hw c0
 have r0:=mul_abs (A:=32767) (B:=68719476736) q0 (b:=lo) om;have s0:=mul_abs (A:=32767) (B:=68719476736) q0 (b:=up) om
 exact drawF d0 [] (fq 3 0 (g0.up 0 rfl)<|fq 9 0 (g0.up 0 rfl)<|fn) [0,1,2,4,6,7,8,10,3,5,12,9,11,13] fun _ p0=>wV 2<|wI h0<|wV 3<|wI h0<|wV 1<|wL 0<|wMul a0 lo<|wV 1<|wL 1<|wMul a0 up<|wV 1<|wN<|jXO 5 rfl<|stepY (I (min (a0*lo) (a0*up))) rfl rfl (Y_min2 (a0*lo) (a0*up) rfl rfl kr kr)<|sAdd a (min (a0*lo) (a0*up))<|pu3<|stepY (I (max (a0*lo) (a0*up))) rfl rfl (Y_max2 (a0*lo) (a0*up) rfl rfl kr kr)<|sAdd b (max (a0*lo) (a0*up))<|jOO 7 rfl<|sAdd (i:Int) 1<|jOI 2 rfl<|⟨(i+1,(a+(min (a0*lo) (a0*up))),(b+(max (a0*lo) (a0*up)))),od,alB,p0,om,by have e:=sum_at (f:=fun w=>min (w*lo) (w*up)) c0;unfold sumLo at*;omega,by have e:=sum_at (f:=fun w=>max (w*lo) (w*up)) c0;unfold sumHi at*;omega,om⟩
def shiftV (a s:Int):Int:=if accP a/\0<=s/\s<=24 then (if s=0 then a else (a+2^(s-1).toNat)/2^s.toNat) else 0
theorem r7_shift (a:Int) (s:Int) (hS:Sat W w (H::F)):
  Ro prog 149 #[I a,I s] (I (shiftV a s)) W w (H::F):=by
 exact callsK 39 func149 rfl<|jCO 9 rfl<|cS (r7_acc a hS.flat) fun _ c0=>pu2<|SDn 11 ((-17592186044416:Int)<=a/\a<=(17592186044416:Int)) (fun d0=>jOR 14 rfl<|retT [I 0]<|⟨(by unfold shiftV accP;exact ssp),c0⟩) fun d0=>pu1<|gY<|cS (r7_iss s c0.flat) fun _ a0=>jOC 4 rfl<|CDn ((0:Int)<=s/\s<=(24:Int)) (fun e0=>jCR 7 rfl<|retT [I 0]<|⟨(by unfold shiftV accP;exact ssp),a0⟩) fun e0=>jCC 9 rfl<|cE s 0 (fun f0=>jCR 8 rfl<|retT [I a]<|⟨(by unfold shiftV accP;exact ssp),a0⟩) fun f0=>jCC 3 rfl<|(by have hp:=pow2_pos ((s-1)).toNat;have h0:=pow2_le (a:=((s-1)).toNat) (b:=24) om;have hd:=pow2_pos (s).toNat;have g0:=pow2_le (a:=(s).toNat) (b:=24) om;exact jCO 3 rfl<|sSub s 1<|stepY (.int .u64 (s-1)) rfl rfl (Y_conv (k:= .i64) (a:=(s-1)) underlying3 underlying164 (wrapIn_u64 _ om) rfl kr)<|stepY (I (2^((s-1)).toNat)) rfl rfl (Y_shl1 (k':= .u64) (s-1) rfl kr kr om)<|sAdd a (2^((s-1)).toNat)<|pu1<|stepY (.int .u64 s) rfl rfl (Y_conv (k:= .i64) (a:=s) underlying3 underlying164 (wrapIn_u64 _ om) rfl kr)<|stepY (I (2^(s).toNat)) rfl rfl (Y_shl1 (k':= .u64) s rfl kr kr om)<|jOC 5 rfl<|(by have hq:=Int.mul_tdiv_add_tmod (a+(2^((s-1)).toNat)) (2^(s).toNat);have i0:=Int.tmod_lt_of_pos (a+(2^((s-1)).toNat)) hd;have j0:=Int.lt_tmod_of_pos (a+(2^((s-1)).toNat)) hd;have k0:=Int.mul_comm ((a+(2^((s-1)).toNat)).tdiv (2^(s).toNat)) (2^(s).toNat);have hf:=tdiv_floor (x:=(a+(2^((s-1)).toNat))) (d:=(2^(s).toNat)) hd;have l0:=abs_le_mul (q:=(a+(2^((s-1)).toNat)).tdiv (2^(s).toNat)) (A:=18014398509481984) hd om;exact jCO 3 rfl<|sQuo (a+(2^((s-1)).toNat)) (2^(s).toNat)<|jOO 8 rfl<|sMul ((a+(2^((s-1)).toNat)).tdiv (2^(s).toNat)) (2^(s).toNat)<|jOC 4 rfl<|CD ((((a+(2^((s-1)).toNat)).tdiv (2^(s).toNat))*(2^(s).toNat))>(a+(2^((s-1)).toNat))) (fun b0=>jCR 9 rfl<|retT [I ((a+(2^((s-1)).toNat)).tdiv (2^(s).toNat))]<|(by rw [if_neg b0] at hf;exact ⟨by unfold shiftV;rw [if_pos (by unfold accP;omega),if_neg om,<-hf];rfl,a0⟩)) fun b0=>jCO 2 rfl<|sSub ((a+(2^((s-1)).toNat)).tdiv (2^(s).toNat)) 1<|jOR 10 rfl<|retT [I (((a+(2^((s-1)).toNat)).tdiv (2^(s).toNat))-1)]<|(by rw [if_pos b0] at hf;exact ⟨by unfold shiftV;rw [if_pos (by unfold accP;omega),if_neg om,<-hf];rfl,a0⟩)))
theorem r7_span (lo:Int) (up:Int) (s:Int) (hS:Sat W w (H::F)):
    Ro prog 177 #[.int .i64 lo, .int .i64 up, .int .i64 s] (.tuple #[.int .i64 (shiftV lo s), .int .i64 (shiftV up s)]) W w (H::F):=by
  exact callsK 14 func177 rfl<|jCO 10 rfl<|cS (r7_shift lo s hS.flat) fun c0 a0=>pu2<|cS (r7_shift up s a0.flat) fun d0 b0=>jOR 5 rfl<|retT [.int .i64 (shiftV lo s), .int .i64 (shiftV up s)]<|⟨rfl,b0⟩
theorem r3_valid (e0:Edge) (m:Int) (hS:Sat W w (H::F)):
  Ro prog 104 #[.agg #[I e0.policy,I e0.fill],I m] (.bool (decide ((e0.policy=3/\0<=e0.fill/\e0.fill<=m)\/(0<=e0.policy/\e0.policy<3/\e0.fill=0)))) W w (H::F):=by
 exact callsK 30 func104 rfl<|jCO 2 rfl<|sBx hS [I e0.policy,I e0.fill] fun _ _ a0=>gOC a0 11 [0] rfl<|cE e0.policy 3 (fun b0=>gCO a0 6 [0] rfl<|SD 11 (e0.fill>=0) (fun c0=>jOR 10 rfl<|retT [.bool false]<|⟨rB bq,(a0.dropAt 0 rfl)⟩) fun c0=>gOR a0 10 [0] rfl<|retT [.bool (decide ((e0.fill:Int)<=m))]<|⟨rB bq,(a0.dropAt 0 rfl)⟩) fun b0=>gCO a0 8 [0] rfl<|SD 20 (e0.policy>=0) (fun g0=>jOR 13 rfl<|retT [.bool false]<|⟨rB bq,(a0.dropAt 0 rfl)⟩) fun g0=>gOO a0 5 [0] rfl<|SD 25 (e0.policy<3) (fun i0=>jOR 8 rfl<|retT [.bool false]<|⟨rB bq,(a0.dropAt 0 rfl)⟩) fun i0=>gOR a0 8 [0] rfl<|retT [.bool ((e0.fill:Int)==0)]<|⟨rB bq,(a0.dropAt 0 rfl)⟩
def mulOK (a b l:Int):Bool:=decide (0<=a/\0<=b/\0<=l/\a*b<=l)
def mulV (a b l:Int):Int:=if mulOK a b l=true then a*b else 0
theorem mul_t {a b l:Int} (h:0<=a/\0<=b/\0<=l/\a*b<=l):mulOK a b l=true/\mulV a b l=a*b:=by
  have:mulOK a b l=true:=decide_eq_true h
  exact ⟨this,by unfold mulV;rw [if_pos this]⟩
theorem mul_f {a b l:Int} (h:¬(0<=a/\0<=b/\0<=l/\a*b<=l)):mulOK a b l=false/\mulV a b l=0:=by
  have:mulOK a b l=false:=decide_eq_false h
  exact ⟨this,by unfold mulV;rw [this];rfl⟩
theorem mul_le_of {a b l:Int} (ha:0<=a) (hb:0<=b) (hl:0<=l) (h:b=0\/(0<b/\a<=l.tdiv b)):0<=a*b/\a*b<=l:=by
  refine ⟨Int.mul_nonneg ha hb,?_⟩
  rcases h with rfl|⟨h1,h2⟩
  · simpa using hl
  · exact (by rw [Int.tdiv_eq_ediv_of_nonneg hl] at h2;exact (Int.le_ediv_iff_mul_le h1).1 h2)
theorem mul_gt_of {a b l:Int} (hl:0<=l) (hb:0<b) (h:l.tdiv b<a):l<a*b:=by
  rw [Int.tdiv_eq_ediv_of_nonneg hl] at h
  have:=mt (Int.le_ediv_iff_mul_le hb (a:=a) (b:=l)).2
  omega
def mostOK (w h m:Int):Bool:=decide (1<=w/\1<=h/\1<=m/\w*h<=4294967296/\w*h*m<=4294967296)
def mostV (w h m:Int):Int:=if mostOK w h m=true then w*h*m else 0
theorem most_t {w h m:Int} (x:1<=w/\1<=h/\1<=m/\w*h<=4294967296/\w*h*m<=4294967296):mostOK w h m=true/\mostV w h m=w*h*m:=by
  have:mostOK w h m=true:=decide_eq_true x
  exact ⟨this,by unfold mostV;rw [if_pos this]⟩
theorem most_f {w h m:Int} (x:¬(1<=w/\1<=h/\1<=m/\w*h<=4294967296/\w*h*m<=4294967296)):mostOK w h m=false/\mostV w h m=0:=by
  have:mostOK w h m=false:=decide_eq_false x
  exact ⟨this,by unfold mostV;rw [this];rfl⟩
theorem r1_mul (a:Int) (b:Int) (l:Int) (hl:l<=4611686018427387904) (hS:Sat W w (H::F)):
  Ro prog 81 #[I a,I b,I l] (.tuple #[I (mulV a b l), .bool (mulOK a b l)]) W w (H::F):=by
 refine callsK 32 func81 rfl<|jCO 12 rfl<|sD 10 (a<0) (fun a0=>jOR 29 rfl<|retT [I 0, .bool false]<|(by obtain ⟨e1,e2⟩:=mul_f (a:=a) (b:=b) (l:=l) (by first|omega|(have:=mul_gt_of (a:=a) (b:=b) (l:=l) om om om;omega));exact ⟨by rw [e1,e2];rfl,hS⟩)) fun a0=>pu4<|sD 14 (b<0) (fun b0=>jOR 25 rfl<|retT [I 0, .bool false]<|(by obtain ⟨e1,e2⟩:=mul_f (a:=a) (b:=b) (l:=l) (by first|omega|(have:=mul_gt_of (a:=a) (b:=b) (l:=l) om om om;omega));exact ⟨by rw [e1,e2];rfl,hS⟩)) fun b0=>pu4<|sD 18 (l<0) (fun c0=>jOR 21 rfl<|retT [I 0, .bool false]<|(by obtain ⟨e1,e2⟩:=mul_f (a:=a) (b:=b) (l:=l) (by first|omega|(have:=mul_gt_of (a:=a) (b:=b) (l:=l) om om om;omega));exact ⟨by rw [e1,e2];rfl,hS⟩)) fun c0=>pu3<|SD 21 (b>0) (fun d0=>jOC 13 rfl<|(by have hm:=mul_le_of (a:=a) (b:=b) (l:=l) om om om om;refine jCO 3 rfl<|sMul a b<|jOR 5 rfl<|retT [I (a*b), .bool true] ?_;obtain ⟨e1,e2⟩:=mul_t (a:=a) (b:=b) (l:=l) om;exact ⟨by rw [e1,e2];rfl,hS⟩)) fun d0=>?_
 refine pu3<|gY<|sQuo l b<|jOC 5 rfl<|cD (a>(l.tdiv b)) (fun e0=>jCR 8 rfl<|retT [I 0, .bool false]<|(by obtain ⟨e1,e2⟩:=mul_f (a:=a) (b:=b) (l:=l) (by first|omega|(have:=mul_gt_of (a:=a) (b:=b) (l:=l) om om om;omega));exact ⟨by rw [e1,e2];rfl,hS⟩)) fun e0=>jCC 3 rfl ?_
 have hm:=mul_le_of (a:=a) (b:=b) (l:=l) om om om om
 refine jCO 3 rfl<|sMul a b<|jOR 5 rfl<|retT [I (a*b), .bool true] ?_
 obtain ⟨e1,e2⟩:=mul_t (a:=a) (b:=b) (l:=l) om
 exact ⟨by rw [e1,e2];rfl,hS⟩
theorem r13_most (s:Shape) (hS:Sat W w (H::F)):
  Ro prog 100 #[.agg #[I s.w,I s.h,I s.max_]] (.tuple #[I (mostV s.w s.h s.max_), .bool (mostOK s.w s.h s.max_)]) W w (H::F):=by
 refine callsK 37 func100 rfl<|jCO 2 rfl<|sBx hS [I s.w,I s.h,I s.max_] fun _ _ b0=>gOO b0 10 [0,0] rfl<|cS (r1_mul s.w s.h 4294967296 (od) b0.flat) fun _ a0=>jOO 13 rfl<|sBn 16 (mulOK s.w s.h 4294967296) (fun h0=>?_) (fun h0=>?_)
 rotate_left
 ·refine jOR 25 rfl<|retT [I 0, .bool false] ?_
  have c0:=(a0.dropAt 0 rfl)
  by_cases x1:0<=s.w/\0<=s.h/\(0:Int)<=4294967296/\s.w*s.h<=4294967296
  · exact (by obtain ⟨e1,e2⟩:=mul_t x1;obtain ⟨e5,e6⟩:=most_f (w:=s.w) (h:=s.h) (m:=s.max_) (by first|omega|(simp_all;done));exact ⟨by rw [e5,e6];rfl,c0⟩)
  · exact (by obtain ⟨e1,e2⟩:=mul_f x1;obtain ⟨e5,e6⟩:=most_f (w:=s.w) (h:=s.h) (m:=s.max_) om;exact ⟨by rw [e5,e6];rfl,c0⟩)
 refine gOO a0 5 [0] rfl<|sD 21 (s.w<1) (fun i0=>?_) (fun i0=>?_)
 ·refine jOR 20 rfl<|retT [I 0, .bool false] ?_
  have d0:=(a0.dropAt 0 rfl)
  by_cases x1:0<=s.w/\0<=s.h/\(0:Int)<=4294967296/\s.w*s.h<=4294967296
  · exact (by obtain ⟨e1,e2⟩:=mul_t x1;obtain ⟨e5,e6⟩:=most_f (w:=s.w) (h:=s.h) (m:=s.max_) (by first|omega|(simp_all;done));exact ⟨by rw [e5,e6];rfl,d0⟩)
  · exact (by obtain ⟨e1,e2⟩:=mul_f x1;obtain ⟨e5,e6⟩:=most_f (w:=s.w) (h:=s.h) (m:=s.max_) om;exact ⟨by rw [e5,e6];rfl,d0⟩)
 refine gOO a0 5 [0] rfl<|sD 26 (s.h<1) (fun j0=>?_) (fun j0=>?_)
 ·refine jOR 15 rfl<|retT [I 0, .bool false] ?_
  have e0:=(a0.dropAt 0 rfl)
  by_cases x1:0<=s.w/\0<=s.h/\(0:Int)<=4294967296/\s.w*s.h<=4294967296
  · exact (by obtain ⟨e1,e2⟩:=mul_t x1;obtain ⟨e5,e6⟩:=most_f (w:=s.w) (h:=s.h) (m:=s.max_) (by first|omega|(simp_all;done));exact ⟨by rw [e5,e6];rfl,e0⟩)
  · exact (by obtain ⟨e1,e2⟩:=mul_f x1;obtain ⟨e5,e6⟩:=most_f (w:=s.w) (h:=s.h) (m:=s.max_) om;exact ⟨by rw [e5,e6];rfl,e0⟩)
 refine gOC a0 6 [0] rfl<|cD (s.max_<1) (fun k0=>?_) (fun k0=>?_)
 ·refine jCR 8 rfl<|retT [I 0, .bool false] ?_
  have f0:=(a0.dropAt 0 rfl)
  by_cases x1:0<=s.w/\0<=s.h/\(0:Int)<=4294967296/\s.w*s.h<=4294967296
  · exact (by obtain ⟨e1,e2⟩:=mul_t x1;obtain ⟨e5,e6⟩:=most_f (w:=s.w) (h:=s.h) (m:=s.max_) (by first|omega|(simp_all;done));exact ⟨by rw [e5,e6];rfl,f0⟩)
  · exact (by obtain ⟨e1,e2⟩:=mul_f x1;obtain ⟨e5,e6⟩:=most_f (w:=s.w) (h:=s.h) (m:=s.max_) om;exact ⟨by rw [e5,e6];rfl,f0⟩)
 refine gCO a0 7 [0] rfl<|cS (r1_mul (mulV s.w s.h 4294967296) s.max_ 4294967296 (od) a0.flat) fun _ l0=>jOR 7 rfl<|retT [I (mulV (mulV s.w s.h 4294967296) s.max_ 4294967296), .bool (mulOK (mulV s.w s.h 4294967296) s.max_ 4294967296)] ?_
 have g0:=(l0.dropAt 0 rfl)
 by_cases x1:0<=s.w/\0<=s.h/\(0:Int)<=4294967296/\s.w*s.h<=4294967296
 ·obtain ⟨e1,e2⟩:=mul_t x1
  rw [e2];by_cases x2:0<=s.w*s.h/\0<=s.max_/\(0:Int)<=4294967296/\s.w*s.h*s.max_<=4294967296
  ·obtain ⟨e3,e4⟩:=mul_t x2;obtain ⟨e5,e6⟩:=most_t (w:=s.w) (h:=s.h) (m:=s.max_) om;exact ⟨by rw [e3,e4,e5,e6];rfl,g0⟩
  ·have m0:=mul_bd (a:=s.w) (b:=s.h) (A:=s.w) (B:=s.h) om om;obtain ⟨e3,e4⟩:=mul_f x2;obtain ⟨e5,e6⟩:=most_f (w:=s.w) (h:=s.h) (m:=s.max_) om;exact ⟨by rw [e3,e4,e5,e6];rfl,g0⟩
 · exact (by obtain ⟨e1,e2⟩:=mul_f x1;exfalso;simp_all;done)
theorem r15_valid (s:Shape) (hS:Sat W w (H::F)):
  Ro prog 102 #[.agg #[I s.w,I s.h,I s.max_]] (.bool (decide ((1:Int)<=s.w/\s.w<=(128:Int)/\(1:Int)<=s.h/\s.h<=(128:Int)/\s.w*s.h<=(4096:Int)/\(1:Int)<=s.max_/\s.max_<=(4294967296:Int)))) W w (H::F):=by
 exact callsK 10 func102 rfl<|jCO 2 rfl<|sBx hS [I s.w,I s.h,I s.max_] fun _ _ a0=>gOO a0 11 [0,0,0] rfl<|cS (r4_size s.w s.h s.max_ a0.flat) fun _ b0=>jOR 4 rfl<|retT [.bool (decide ((1:Int)<=s.w/\s.w<=(128:Int)/\(1:Int)<=s.h/\s.h<=(128:Int)/\s.w*s.h<=(4096:Int)/\(1:Int)<=s.max_/\s.max_<=(4294967296:Int)))]<|⟨rB bq,(b0.dropAt 0 rfl)⟩
theorem r15_two (q:Stage) (hq:Stage.Ok [H] q) (hS:Sat W w (H::F)):
  Ro prog 34 #[.agg (encStage q).toArray] (.bool (decide (q.kind=6/\¬q.b=-1))) W w (H::F):=by
 have c0:=hq.weights.ll
 have f0:=hq.row.ll
 have d0:=hq.col.ll
 have g0:=hq.x.ll
 have h0:=hq.y.ll
 have e0:=hq.ops.ll
 exact callsK 11 func34 rfl<|jCO 2 rfl<|sBx hS (encStage q) fun _ _ a0=>gOO a0 9 [0] rfl<|SE 6 q.kind 6 (fun b0=>jOR 8 rfl<|retT [.bool false]<|⟨rB bq,(a0.dropAt 0 rfl)⟩) fun b0=>gOR a0 8 [0] rfl<|retT [.bool ((q.b:Int)!=(-1))]<|⟨rB bq,(a0.dropAt 0 rfl)⟩
theorem r15_edged (x:Int) (hS:Sat W w (H::F)):
  Ro prog 103 #[I x] (.bool (decide (x=1\/x=2\/x=3))) W w (H::F):=by
 exact callsK 13 func103 rfl<|jCO 10 rfl<|sE 5 x 1 (fun a0=>jOR 11 rfl<|retT [.bool true]<|⟨rB bq,hS⟩) fun a0=>pu4<|sE 9 x 2 (fun b0=>jOR 7 rfl<|retT [.bool true]<|⟨rB bq,hS⟩) fun b0=>jOR 7 rfl<|retT [.bool ((x:Int)==3)]<|⟨rB bq,hS⟩
def fieldsP (s:StageV):Prop:=¬(¬((1<=s.kind/\s.kind<=6)/\(s.kind=6\/s.b=-1)))/\¬(¬(s.kind=1\/s.kind=2\/s.kind=3)/\¬(s.edgePolicy=0/\s.edgeFill=0))/\¬(¬s.kind=1/\¬(s.kW=0/\s.kH=0/\s.weights.length=0))/\¬(¬s.kind=2/\¬(s.row.length=0/\s.col.length=0))/\¬(¬s.kind=3/\¬(s.x.length=0/\s.y.length=0))/\¬(¬(s.kind=1\/s.kind=2\/s.kind=3)/\¬s.shift=0)/\¬((¬s.kind=2/\¬s.kind=3)/\¬s.shift2=0)/\¬(¬s.kind=4/\¬s.bins=0)/\¬(¬s.kind=6/\¬s.ops.length=0)/\¬((s.kind=4\/s.kind=5)/\¬s.max_=0)
instance (s:StageV):Decidable (fieldsP s):=by unfold fieldsP;infer_instance
theorem r15_fields (q:Stage) (hq:Stage.Ok [H] q) (hS:Sat W w (H::F)):
  Ro prog 101 #[.agg (encStage q).toArray] (.bool (decide (fieldsP q.v))) W w (H::F):=by
 have A0:=hq.weights.ll
 have F0:=hq.row.ll
 have D0:=hq.col.ll
 have G0:=hq.x.le;have B0:=hq.x.len
 have H0:=hq.y.le;have C0:=hq.y.len
 have E0:=hq.ops.ll
 have I0:(q.x.l.map Tap.v).length=q.x.n:=by simp [B0]
 have J0:(q.y.l.map Tap.v).length=q.y.n:=by simp [C0]
 refine callsK 148 func101 rfl<|jCO 2 rfl<|sBx hS (encStage q) fun _ _ a0=>jOC 4 rfl<|cutF a0 0 [1] (γ:=Unit) (fun _ R=>⟨[(23, .bool (decide (¬((1<=q.kind/\q.kind<=6)/\(q.kind=6\/q.b=-1)))))],R,0,True⟩) ?_ ?_
 ·exact gCO a0 5 [0] rfl<|sD 9 (q.kind<1) (fun y0=>jOI 15 rfl<|⟨(),⟨⟨(mT om),trivial⟩,sA⟩,a0,trivial⟩) fun y0=>gOO a0 5 [0] rfl<|sD 14 (q.kind>6) (fun z0=>jOI 10 rfl<|⟨(),⟨⟨(mT om),trivial⟩,sA⟩,a0,trivial⟩) fun z0=>gOO a0 4 [0] rfl<|sN 18 q.kind 6 (fun a1=>jOI 6 rfl<|⟨(),⟨⟨(mF0 om),trivial⟩,sA⟩,a0,trivial⟩) fun a1=>gOI a0 6 [0] rfl<|⟨(),⟨⟨(mB ((q.b:Int)!=(-1)) bm),trivial⟩,sA⟩,a0,trivial⟩
 rintro _ ρ _ ⟨w0,_⟩
 refine cD (¬((1<=q.kind/\q.kind<=6)/\(q.kind=6\/q.b=-1))) (fun j0=>jCR 7 rfl<|retT [.bool false]<|⟨rB (decide_eq_false (p:=fieldsP q.v) (fun h=>h.1 j0)).symm,(w0.dropAt 0 rfl)⟩) fun j0=>jCC 3 rfl<|drawF w0 [] (fb 1 0 0 1<|fb 4 0 0 1<|fb 7 0 0 1<|fn) [0,3,6,1,2,9,4,5,10,7,8,11] fun _ k0=>wV 3<|wL 0<|wV 2<|wL 1<|wV 2<|wL 2<|wV 2<|wN<|jXC 3 rfl<|cutF k0 0 [1,3,4,5] (γ:=Unit) (fun _ R=>⟨[(33, .bool (decide (¬(q.kind=1\/q.kind=2\/q.kind=3)/\¬(q.edgePolicy=0/\q.edgeFill=0))))],R,0,True⟩) ?_ ?_
 ·exact gCO k0 3 [0] rfl<|cS (r15_edged q.kind k0.flat) fun _ l0=>pu2<|sDn 38 (q.kind=1\/q.kind=2\/q.kind=3) (fun c1=>jOI 7 rfl<|⟨(),⟨⟨(mF0 om),trivial⟩,sA⟩,l0,trivial⟩) fun c1=>gOO l0 3 [200] rfl<|gY<|stepY (.bool (!(((q.edgePolicy:Int)==0)&&((q.edgeFill:Int)==0)))) rfl rfl (Y_eqS rfl kr kr (eqvn49 _ q.edgePolicy q.edgeFill 0 0))<|jOI 3 rfl<|⟨(),⟨⟨(mB (!(((q.edgePolicy:Int)==0)&&((q.edgeFill:Int)==0))) bm),trivial⟩,sA⟩,l0,trivial⟩
 rintro _ ρ _ ⟨b0,_⟩
 refine cD (¬(q.kind=1\/q.kind=2\/q.kind=3)/\¬(q.edgePolicy=0/\q.edgeFill=0)) (fun m0=>jCR 9 rfl<|retT [.bool false]<|⟨rB (decide_eq_false (p:=fieldsP q.v) (fun h=>h.2.1 m0)).symm,(b0.dropAt 0 rfl)⟩) fun m0=>cutF b0 0 [1,4,5] (γ:=Unit) (fun _ R=>⟨[(44, .bool (decide (¬q.kind=1/\¬(q.kW=0/\q.kH=0/\q.weights.l.length=0))))],R,0,True⟩) ?_ ?_
 ·exact jCO 4 rfl<|sEn 47 q.kind 1 (fun e1=>jOI 17 rfl<|⟨(),⟨⟨(mF0 om),trivial⟩,sA⟩,b0,trivial⟩) fun e1=>gOO b0 4 [0] rfl<|SN 51 q.kW 0 (fun f1=>jOI 13 rfl<|⟨(),⟨⟨(mT om),trivial⟩,sA⟩,b0,trivial⟩) fun f1=>gOO b0 5 [0] rfl<|SN 56 q.kH 0 (fun g1=>jOI 8 rfl<|⟨(),⟨⟨(mT om),trivial⟩,sA⟩,b0,trivial⟩) fun g1=>gOI b0 8 [0] rfl<|⟨(),⟨⟨(mB (decide ((q.weights.n:Int)>0)) bm),trivial⟩,sA⟩,b0,trivial⟩
 rintro _ ρ _ ⟨d0,_⟩
 refine cD (¬q.kind=1/\¬(q.kW=0/\q.kH=0/\q.weights.l.length=0)) (fun n0=>jCR 9 rfl<|retT [.bool false]<|⟨rB (decide_eq_false (p:=fieldsP q.v) (fun h=>h.2.2.1 n0)).symm,(d0.dropAt 0 rfl)⟩) fun n0=>cutF d0 0 [1,4,5] (γ:=Unit) (fun _ R=>⟨[(63, .bool (decide (¬q.kind=2/\¬(q.row.l.length=0/\q.col.l.length=0))))],R,0,True⟩) ?_ ?_
 ·exact jCO 4 rfl<|sEn 66 q.kind 2 (fun i1=>jOI 13 rfl<|⟨(),⟨⟨(mF0 om),trivial⟩,sA⟩,d0,trivial⟩) fun i1=>gOO d0 5 [0] rfl<|sD 71 ((q.row.n:Int)>0) (fun j1=>jOI 8 rfl<|⟨(),⟨⟨(mT om),trivial⟩,sA⟩,d0,trivial⟩) fun j1=>gOI d0 8 [0] rfl<|⟨(),⟨⟨(mB (decide ((q.col.n:Int)>0)) bm),trivial⟩,sA⟩,d0,trivial⟩
 rintro _ ρ _ ⟨e0,_⟩
 refine cD (¬q.kind=2/\¬(q.row.l.length=0/\q.col.l.length=0)) (fun o0=>jCR 9 rfl<|retT [.bool false]<|⟨rB (decide_eq_false (p:=fieldsP q.v) (fun h=>h.2.2.2.1 o0)).symm,(e0.dropAt 0 rfl)⟩) fun o0=>cutF e0 0 [1,4,5] (γ:=Unit) (fun _ R=>⟨[(78, .bool (decide (¬q.kind=3/\¬((q.x.l.map Tap.v).length=0/\(q.y.l.map Tap.v).length=0))))],R,0,True⟩) ?_ ?_
 ·exact jCO 4 rfl<|sEn 81 q.kind 3 (fun l1=>jOI 13 rfl<|⟨(),⟨⟨(mF0 om),trivial⟩,sA⟩,e0,trivial⟩) fun l1=>gOO e0 5 [0] rfl<|sD 86 ((q.x.n:Int)>0) (fun m1=>jOI 8 rfl<|⟨(),⟨⟨(mT om),trivial⟩,sA⟩,e0,trivial⟩) fun m1=>gOI e0 8 [0] rfl<|⟨(),⟨⟨(mB (decide ((q.y.n:Int)>0)) bm),trivial⟩,sA⟩,e0,trivial⟩
 rintro _ ρ _ ⟨i0,_⟩
 refine cD (¬q.kind=3/\¬((q.x.l.map Tap.v).length=0/\(q.y.l.map Tap.v).length=0)) (fun p0=>jCR 9 rfl<|retT [.bool false]<|⟨rB (decide_eq_false (p:=fieldsP q.v) (fun h=>h.2.2.2.2.1 p0)).symm,(i0.dropAt 0 rfl)⟩) fun p0=>cutF i0 0 [1,4,5] (γ:=Unit) (fun _ R=>⟨[(93, .bool (decide (¬(q.kind=1\/q.kind=2\/q.kind=3)/\¬q.shift=0)))],R,0,True⟩) ?_ ?_
 ·exact gCO i0 3 [0] rfl<|cS (r15_edged q.kind i0.flat) fun _ q0=>pu2<|sDn 98 (q.kind=1\/q.kind=2\/q.kind=3) (fun o1=>jOI 6 rfl<|⟨(),⟨⟨(mF0 om),trivial⟩,sA⟩,q0,trivial⟩) fun o1=>gOI q0 6 [0] rfl<|⟨(),⟨⟨(mB ((q.shift:Int)!=0) bm),trivial⟩,sA⟩,q0,trivial⟩
 rintro _ ρ _ ⟨f0,_⟩
 refine cD (¬(q.kind=1\/q.kind=2\/q.kind=3)/\¬q.shift=0) (fun r0=>jCR 9 rfl<|retT [.bool false]<|⟨rB (decide_eq_false (p:=fieldsP q.v) (fun h=>h.2.2.2.2.2.1 r0)).symm,(f0.dropAt 0 rfl)⟩) fun r0=>cutF f0 0 [1] (γ:=Unit) (fun _ R=>⟨[(103, .bool (decide ((¬q.kind=2/\¬q.kind=3)/\¬q.shift2=0)))],R,0,True⟩) ?_ ?_
 ·exact jCO 4 rfl<|sEn 106 q.kind 2 (fun r1=>jOI 10 rfl<|⟨(),⟨⟨(mF0 om),trivial⟩,sA⟩,f0,trivial⟩) fun r1=>pu4<|sEn 110 q.kind 3 (fun s1=>jOI 6 rfl<|⟨(),⟨⟨(mF0 om),trivial⟩,sA⟩,f0,trivial⟩) fun s1=>gOI f0 6 [0] rfl<|⟨(),⟨⟨(mB ((q.shift2:Int)!=0) bm),trivial⟩,sA⟩,f0,trivial⟩
 rintro _ ρ _ ⟨g0,_⟩
 refine cD ((¬q.kind=2/\¬q.kind=3)/\¬q.shift2=0) (fun s0=>jCR 9 rfl<|retT [.bool false]<|⟨rB (decide_eq_false (p:=fieldsP q.v) (fun h=>h.2.2.2.2.2.2.1 s0)).symm,(g0.dropAt 0 rfl)⟩) fun s0=>cutF g0 0 [1] (γ:=Unit) (fun _ R=>⟨[(115, .bool (decide (¬q.kind=4/\¬q.bins=0)))],R,0,True⟩) ?_ ?_
 ·exact gCO g0 5 [0] rfl<|sN 119 q.kind 4 (fun u1=>jOI 6 rfl<|⟨(),⟨⟨(mF0 om),trivial⟩,sA⟩,g0,trivial⟩) fun u1=>gOI g0 6 [0] rfl<|⟨(),⟨⟨(mB ((q.bins:Int)!=0) bm),trivial⟩,sA⟩,g0,trivial⟩
 rintro _ ρ _ ⟨h0,_⟩
 refine cD (¬q.kind=4/\¬q.bins=0) (fun t0=>jCR 9 rfl<|retT [.bool false]<|⟨rB (decide_eq_false (p:=fieldsP q.v) (fun h=>h.2.2.2.2.2.2.2.1 t0)).symm,(h0.dropAt 0 rfl)⟩) fun t0=>cutF h0 0 [1] (γ:=Unit) (fun _ R=>⟨[(124, .bool (decide (¬q.kind=6/\¬q.ops.l.length=0)))],R,0,True⟩) ?_ ?_
 ·exact gCO h0 5 [0] rfl<|sN 128 q.kind 6 (fun w1=>jOI 7 rfl<|⟨(),⟨⟨(mF0 om),trivial⟩,sA⟩,h0,trivial⟩) fun w1=>gOI h0 7 [0] rfl<|⟨(),⟨⟨(mB (decide ((q.ops.n:Int)>0)) bm),trivial⟩,sA⟩,h0,trivial⟩
 rintro _ ρ _ ⟨c0,_⟩
 refine cD (¬q.kind=6/\¬q.ops.l.length=0) (fun u0=>jCR 9 rfl<|retT [.bool false]<|⟨rB (decide_eq_false (p:=fieldsP q.v) (fun h=>h.2.2.2.2.2.2.2.2.1 u0)).symm,(c0.dropAt 0 rfl)⟩) fun u0=>cutF c0 0 [] (γ:=Unit) (fun _ R=>⟨[(134, .bool (decide ((q.kind=4\/q.kind=5)/\¬q.max_=0)))],R,0,True⟩) ?_ ?_
 rotate_left
 · exact (by rintro _ ρ _ ⟨x0,_⟩;exact cD ((q.kind=4\/q.kind=5)/\¬q.max_=0) (fun v0=>jCR 9 rfl<|retT [.bool false]<|⟨rB (decide_eq_false (p:=fieldsP q.v) (fun h=>h.2.2.2.2.2.2.2.2.2 v0)).symm,(x0.dropAt 0 rfl)⟩) fun v0=>jCR 8 rfl<|retT [.bool true]<|⟨rB (decide_eq_true (p:=fieldsP q.v) ⟨j0,m0,n0,o0,p0,r0,s0,t0,u0,v0⟩).symm,(x0.dropAt 0 rfl)⟩)
 exact gCO c0 5 [0] rfl<|sE 138 q.kind 4 (fun a2=>gOI c0 11 [0] rfl<|⟨(),⟨⟨(mB ((q.max_:Int)!=0) bm),trivial⟩,sA⟩,c0,trivial⟩) fun a2=>gOO c0 5 [0] rfl<|SE 143 q.kind 5 (fun b2=>jOI 6 rfl<|⟨(),⟨⟨(mF0 om),trivial⟩,sA⟩,c0,trivial⟩) fun b2=>gOI c0 6 [0] rfl<|⟨(),⟨⟨(mB ((q.max_:Int)!=0) bm),trivial⟩,sA⟩,c0,trivial⟩
def tapC (f:Int) (ws:List Int):Int:=if ws.length=0\/8<ws.length then 9 else if areW ws=true then (if-128<=f/\f<=256 then 0 else 2) else 10
def tapCode (t:TapV):Int:=tapC t.first t.weights
def firstErr {α:Type} (f:α->Int):List α->Int
  |[]=>0
  |x::l=>if f x=0 then firstErr f l else f x
theorem firstErr_app {α:Type} (f:α->Int) (l m:List α) (h:l.all (fun x=>decide (f x=0))=true):firstErr f (l++m)=firstErr f m:=by
  induction l with
  |nil=>rfl
  |cons x l ih=>
    simp only [List.all_cons,Bool.and_eq_true,decide_eq_true_eq] at h
    simp only [List.cons_append,firstErr,if_pos h.1]
    exact ih h.2
theorem firstErr_at {α:Type} {f:α->Int} {l:List α} {i:Nat} {x:α} (h:(l.take i).all (fun x=>decide (f x=0))=true) (hx:l[i]?=some x) (e:f x≠0):firstErr f l=f x:=by
  have e1:l=l.take i++l.drop i:=(List.take_append_drop i l).symm
  rw [e1,firstErr_app f _ _ h,drop_at hx,firstErr,if_neg e]
theorem firstErr_none {α:Type} {f:α->Int} {l:List α} {i:Nat} (h:(l.take i).all (fun x=>decide (f x=0))=true) (h1:l.length<=i):firstErr f l=0:=by
  rw [List.take_of_length_le h1] at h
  have:=firstErr_app f l [] h
  simpa [firstErr] using this
def tapsCode (l:List TapV) (n:Int):Int:=if (1<=n/\n<=128)/\1<=(l.length:Int)/\(l.length:Int)<=128 then firstErr tapCode l else 8
theorem r8_valid (ax:Option Addr) (nx kx:Nat) (x:List Tap) (m:Int) (hx:RdT encTap 2 [H] ax nx kx x) (dx:∀z∈x,Tap.Ok [H] z) (hS:Sat W w (H::F)):
  Ro prog 178 #[.slice ax nx kx,I m] (I (tapsCode (x.map Tap.v) m)) W w (H::F):=by
 have A0:=hx.le;have w0:=hx.len
 refine callsK 47 func178 rfl<|jCO 9 rfl<|cS (r8_side m hS.flat) fun _ f0=>pu2<|SDn 10 ((1:Int)<=m/\m<=(128:Int)) (fun i0=>jOR 15 rfl<|retT [I 8]<|(by have x0:(x.map Tap.v).length=nx:=(by simp [w0]);exact ⟨by unfold tapsCode;rw [if_neg om];rfl,f0⟩)) fun i0=>pu2<|gY<|cS (r8_side (nx:Int) f0.flat) fun _ g0=>jOC 4 rfl<|CDn ((1:Int)<=(nx:Int)/\(nx:Int)<=(128:Int)) (fun j0=>jCR 7 rfl<|retT [I 8]<|(by have x0:(x.map Tap.v).length=nx:=(by simp [w0]);exact ⟨by unfold tapsCode;rw [if_neg om];rfl,g0⟩)) fun j0=>jCC 9 rfl<|loopF [0] (γ:=Nat) (fun i R=>⟨[(5,I (i:Int))],R,nx-i,i<=nx/\(((x.map Tap.v).take i).all (fun x=>decide (tapCode x=0))=true)⟩) 0 ⟨g0,om,by rfl⟩ ?_
 rintro i ρ _ ⟨d0,hi,hE⟩
 refine jCC 9 rfl<|CD ((i:Int)<(nx:Int)) (fun k0=>jCR 11 rfl<|retT [I 0]<|(by have x0:(x.map Tap.v).length=nx:=(by simp [w0]);exact ⟨by unfold tapsCode;rw [if_pos om,firstErr_none hE om];rfl,d0⟩)) fun k0=>jCO 8 rfl<|sIN hx i fun a0 _ _ b0 l0=>?_
 have z0:=(dx a0 (List.mem_of_getElem? b0)).weights.len;have y0:=(dx a0 (List.mem_of_getElem? b0)).weights.le
 refine sMA d0 (l0.up 0 rfl) 0 [I a0.first, .slice a0.weights.a a0.weights.n a0.weights.k]<|sAlloc d0 zeroValue121 fun _ _ m0=>sTk m0 0 rfl [I a0.first, .slice a0.weights.a a0.weights.n a0.weights.k] fun _ c0=>gOO c0 10 [0] rfl<|sE 31 (a0.weights.n:Int) 0 (fun n0=>jOR 21 rfl<|retT [I 9]<|(by have o0:=(c0.dropAt 0 rfl);have x0:(x.map Tap.v).length=nx:=(by simp [w0]);have u0:tapC a0.first a0.weights.l=9:=(by unfold tapC;(repeat' split)<;>first|rfl|(exfalso;omega)|contradiction|(exfalso;simp_all;done));exact ⟨by unfold tapsCode;rw [if_pos om,firstErr_at hE (map_at (f:=Tap.v) b0) (show tapC a0.first a0.weights.l≠0 by omega)];exact congrArg (fun c=>Ending.returned (packed [I c])) u0.symm,o0⟩)) fun n0=>gOC c0 8 [0] rfl<|cD ((a0.weights.n:Int)>8) (fun p0=>jCR 12 rfl<|retT [I 9]<|(by have q0:=(c0.dropAt 0 rfl);have x0:(x.map Tap.v).length=nx:=(by simp [w0]);have u0:tapC a0.first a0.weights.l=9:=(by unfold tapC;(repeat' split)<;>first|rfl|(exfalso;omega)|contradiction|(exfalso;simp_all;done));exact ⟨by unfold tapsCode;rw [if_pos om,firstErr_at hE (map_at (f:=Tap.v) b0) (show tapC a0.first a0.weights.l≠0 by omega)];exact congrArg (fun c=>Ending.returned (packed [I c])) u0.symm,q0⟩)) fun p0=>?_
 refine gCO c0 4 [0] rfl<|cS (r7_arew a0.weights.a a0.weights.n a0.weights.k a0.weights.l (RdT.flat ((dx a0 (List.mem_of_getElem? b0)).weights.up 1 (by rfl))) c0.flat) fun _ e0=>jOC 4 rfl<|CBn (areW a0.weights.l) (fun r0=>jCR 12 rfl<|retT [I 10]<|(by have s0:=(e0.dropAt 0 rfl);have x0:(x.map Tap.v).length=nx:=(by simp [w0]);have u0:tapC a0.first a0.weights.l=10:=(by unfold tapC;(repeat' split)<;>first|rfl|(exfalso;omega)|contradiction|(exfalso;simp_all;done));exact ⟨by unfold tapsCode;rw [if_pos om,firstErr_at hE (map_at (f:=Tap.v) b0) (show tapC a0.first a0.weights.l≠0 by omega)];exact congrArg (fun c=>Ending.returned (packed [I c])) u0.symm,s0⟩)) fun r0=>gCO e0 4 [0] rfl<|cS (r8_first a0.first e0.flat) fun _ h0=>jOC 4 rfl<|cDn ((-128:Int)<=a0.first/\a0.first<=(256:Int)) (fun t0=>jCO 6 rfl<|sAdd (i:Int) 1<|jOI 2 rfl<|(by have u0:tapC a0.first a0.weights.l=0:=(by unfold tapC;(repeat' split)<;>first|rfl|(exfalso;omega)|contradiction|(exfalso;simp_all;done));exact ⟨i+1,od,alB,(h0.dropAt 0 rfl),om,all_succ hE (map_at (f:=Tap.v) b0) (decide_eq_true u0)⟩)) fun t0=>jCR 12 rfl<|retT [I 2] ?_
 have v0:=(h0.dropAt 0 rfl)
 have x0:(x.map Tap.v).length=nx:=by simp [w0]
 have u0:tapC a0.first a0.weights.l=2:=by unfold tapC;(repeat' split)<;>first|rfl|(exfalso;omega)|contradiction|(exfalso;simp_all;done)
 exact ⟨by unfold tapsCode;rw [if_pos om,firstErr_at hE (map_at (f:=Tap.v) b0) (show tapC a0.first a0.weights.l≠0 by omega)];exact congrArg (fun c=>Ending.returned (packed [I c])) u0.symm,v0⟩
def convCode (mx kw kh:Int) (ws:List Int) (sh out:Int):Int:=
  if (1<=kw/\kw<=9)/\(1<=kh/\kh<=9)/\(ws.length:Int)=kw*kh then (if areW ws=true/\0<=sh/\sh<=24 then (if (1<=mx/\mx<=4294967296)/\1<=out/\out<=4294967296 then (if bndOK ws 0 mx=true then 0 else 11) else 2) else 10) else 9
def sepCode (mx:Int) (row col:List Int) (sh sh2 out:Int):Int:=
  if (1<=(row.length:Int)/\(row.length:Int)<=9)/\1<=(col.length:Int)/\(col.length:Int)<=9 then (if areW row=true/\areW col=true/\(0<=sh/\sh<=24)/\0<=sh2/\sh2<=24 then (if (1<=mx/\mx<=4294967296)/\1<=out/\out<=4294967296 then (if bndOK row 0 mx=true then (if bndOK col (shiftV (bndLo row 0 mx) sh) (shiftV (bndHi row 0 mx) sh)=true then 0 else 11) else 11) else 2) else 10) else 9
theorem r9_check (mx:Int) (kw:Int) (kh:Int) (aws:Option Addr) (nws kws:Nat) (ws:List Int) (sh:Int) (out:Int) (hws:RdT Go.E.encI 1 [H] aws nws kws ws) (hS:Sat W w (H::F)):
  Ro prog 143 #[I mx,I kw,I kh, .slice aws nws kws,I sh,I out] (I (convCode mx kw kh ws sh out)) W w (H::F):=by
 have s0:=hws.ll
 refine callsK 60 func143 rfl<|jCC 7 rfl<|cutF hS 0 [0,3,4,5] (γ:=Unit) (fun _ R=>⟨[(16, .bool (decide (¬((1<=kw/\kw<=9)/\(1<=kh/\kh<=9)/\(ws.length:Int)=kw*kh))))],R,0,True⟩) ?_ ?_
 ·exact jCO 2 rfl<|cS (r9_side kw hS.flat) fun _ c0=>pu2<|SDn 20 ((1:Int)<=kw/\kw<=(9:Int)) (fun i0=>jOI 14 rfl<|⟨(),⟨⟨(mT om),trivial⟩,sA⟩,c0,trivial⟩) fun i0=>pu1<|gY<|cS (r9_side kh c0.flat) fun _ d0=>pu3<|SDn 25 ((1:Int)<=kh/\kh<=(9:Int)) (fun j0=>jOI 9 rfl<|⟨(),⟨⟨(mT om),trivial⟩,sA⟩,d0,trivial⟩) fun j0=>pu4<|gY<|(by have t0:=mul_bd (a:=kw) (b:=kh) (A:=9) (B:=9) om om;exact sMul kw kh<|jOI 4 rfl<|⟨(),⟨⟨(mB (((nws:Int):Int)!=(kw*kh)) bm),trivial⟩,sA⟩,d0,trivial⟩)
 rintro _ ρ _ ⟨a0,_⟩
 refine cD (¬((1<=kw/\kw<=9)/\(1<=kh/\kh<=9)/\(ws.length:Int)=kw*kh)) (fun k0=>jCR 8 rfl<|retT [I 9]<|⟨(by unfold convCode;exact ssp),a0⟩) fun k0=>cutF a0 0 [0,3,5] (γ:=Unit) (fun _ R=>⟨[(33, .bool (decide (¬(areW ws=true/\0<=sh/\sh<=24))))],R,0,True⟩) ?_ ?_
 ·exact jCO 2 rfl<|cS (r7_arew aws nws kws ws (hws.fl 0) a0.flat) fun _ e0=>pu2<|SBn 37 (areW ws) (fun l0=>jOI 6 rfl<|⟨(),⟨⟨(mT (by (first|omega|(simp_all;done)|(simp_all;omega)))),trivial⟩,sA⟩,e0,trivial⟩) fun l0=>pu1<|gY<|cS (r7_iss sh e0.flat) fun _ m0=>jOI 4 rfl<|⟨(),⟨⟨(mB (!decide ((0:Int)<=sh/\sh<=(24:Int))) (by rw [Bool.eq_iff_iff];simp only [decide_eq_true_eq,beq_iff_eq,bne_iff_ne,ne_eq,Bool.not_eq_true',decide_eq_false_iff_not,gt_iff_lt,ge_iff_le,Bool.and_eq_true,Bool.or_eq_true,Bool.not_eq_eq_eq_not,Bool.not_true,Bool.and_eq_false_imp,beq_eq_false_iff_ne]<;>(first|omega|(simp_all;done)|(simp_all;omega)))),trivial⟩,sA⟩,m0,trivial⟩
 rintro _ ρ _ ⟨b0,_⟩
 refine cD (¬(areW ws=true/\0<=sh/\sh<=24)) (fun n0=>jCR 8 rfl<|retT [I 10]<|⟨(by unfold convCode;exact ssp),b0⟩) fun n0=>cutF b0 0 [0,3] (γ:=Unit) (fun _ R=>⟨[(42, .bool (decide (¬((1<=mx/\mx<=4294967296)/\1<=out/\out<=4294967296))))],R,0,True⟩) ?_ ?_
 ·exact jCO 2 rfl<|cS (r9_value mx b0.flat) fun _ f0=>pu2<|SDn 46 ((1:Int)<=mx/\mx<=(4294967296:Int)) (fun o0=>jOI 6 rfl<|⟨(),⟨⟨(mT om),trivial⟩,sA⟩,f0,trivial⟩) fun o0=>pu1<|gY<|cS (r9_value out f0.flat) fun _ p0=>jOI 4 rfl<|⟨(),⟨⟨(mB (!decide ((1:Int)<=out/\out<=(4294967296:Int))) bm),trivial⟩,sA⟩,p0,trivial⟩
 rintro _ ρ _ ⟨g0,_⟩
 exact cD (¬((1<=mx/\mx<=4294967296)/\1<=out/\out<=4294967296)) (fun q0=>jCR 8 rfl<|retT [I 2]<|⟨(by unfold convCode;exact ssp),g0⟩) fun q0=>jCO 8 rfl<|cS (r7_bounds aws nws kws ws 0 mx (hws.fl 0) g0.flat) fun _ h0=>jOC 15 rfl<|CBn (bndOK ws 0 mx) (fun r0=>jCR 7 rfl<|retT [I 11]<|⟨(by unfold convCode;exact ssp),h0⟩) fun r0=>jCR 8 rfl<|retT [I 0]<|⟨(by unfold convCode;exact ssp),h0⟩
theorem r10_check (mx:Int) (arow:Option Addr) (nrow krow:Nat) (row:List Int) (acol:Option Addr) (ncol kcol:Nat) (col:List Int) (sh:Int) (sh2:Int) (out:Int) (hrow:RdT Go.E.encI 1 [H] arow nrow krow row) (hcol:RdT Go.E.encI 1 [H] acol ncol kcol col) (hS:Sat W w (H::F)):
  Ro prog 144 #[I mx, .slice arow nrow krow, .slice acol ncol kcol,I sh,I sh2,I out] (I (sepCode mx row col sh sh2 out)) W w (H::F):=by
 have w0:=hrow.ll
 have v0:=hcol.ll
 exact callsK 81 func144 rfl<|jCO 11 rfl<|cS (r9_side (nrow:Int) hS.flat) fun _ a0=>pu2<|SDn 21 ((1:Int)<=(nrow:Int)/\(nrow:Int)<=(9:Int)) (fun k0=>jOR 17 rfl<|retT [I 9]<|⟨(by unfold sepCode;exact ssp),a0⟩) fun k0=>pu2<|gY<|cS (r9_side (ncol:Int) a0.flat) fun _ b0=>jOC 5 rfl<|CDn ((1:Int)<=(ncol:Int)/\(ncol:Int)<=(9:Int)) (fun l0=>jCR 8 rfl<|retT [I 9]<|⟨(by unfold sepCode;exact ssp),b0⟩) fun l0=>jCO 3 rfl<|cS (r7_arew arow nrow krow row (hrow.fl 0) b0.flat) fun _ c0=>pu2<|SBn 31 (areW row) (fun m0=>jOR 26 rfl<|retT [I 10]<|⟨(by unfold sepCode;exact ssp),c0⟩) fun m0=>pu1<|gY<|cS (r7_arew acol ncol kcol col (hcol.fl 0) c0.flat) fun _ d0=>pu3<|SBn 36 (areW col) (fun n0=>jOR 21 rfl<|retT [I 10]<|⟨(by unfold sepCode;exact ssp),d0⟩) fun n0=>pu1<|gY<|cS (r7_iss sh d0.flat) fun _ e0=>pu3<|SDn 41 ((0:Int)<=sh/\sh<=(24:Int)) (fun o0=>jOR 16 rfl<|retT [I 10]<|⟨(by unfold sepCode;exact ssp),e0⟩) fun o0=>pu1<|gY<|cS (r7_iss sh2 e0.flat) fun _ f0=>jOC 5 rfl<|CDn ((0:Int)<=sh2/\sh2<=(24:Int)) (fun p0=>jCR 8 rfl<|retT [I 10]<|⟨(by unfold sepCode;exact ssp),f0⟩) fun p0=>jCO 3 rfl<|cS (r9_value mx f0.flat) fun _ g0=>pu2<|SDn 50 ((1:Int)<=mx/\mx<=(4294967296:Int)) (fun q0=>jOR 16 rfl<|retT [I 2]<|⟨(by unfold sepCode;exact ssp),g0⟩) fun q0=>pu1<|gY<|cS (r9_value out g0.flat) fun _ h0=>jOC 5 rfl<|CDn ((1:Int)<=out/\out<=(4294967296:Int)) (fun r0=>jCR 8 rfl<|retT [I 2]<|⟨(by unfold sepCode;exact ssp),h0⟩) fun r0=>jCO 7 rfl<|cS (r7_bounds arow nrow krow row 0 mx (hrow.fl 0) h0.flat) fun _ i0=>jOC 16 rfl<|CBn (bndOK row 0 mx) (fun s0=>jCR 7 rfl<|retT [I 11]<|⟨(by unfold sepCode;exact ssp),i0⟩) fun s0=>jCO 7 rfl<|cS (r7_span (bndLo row 0 mx) (bndHi row 0 mx) sh i0.flat) fun _ t0=>jOO 13 rfl<|cS (r7_bounds acol ncol kcol col (shiftV (bndLo row 0 mx) sh) (shiftV (bndHi row 0 mx) sh) (hcol.fl 0) t0.flat) fun _ j0=>jOC 13 rfl<|CBn (bndOK col (shiftV (bndLo row 0 mx) sh) (shiftV (bndHi row 0 mx) sh)) (fun u0=>jCR 7 rfl<|retT [I 11]<|⟨(by unfold sepCode;exact ssp),j0⟩) fun u0=>jCR 8 rfl<|retT [I 0]<|⟨(by unfold sepCode;exact ssp),j0⟩
def spLo (mx s:Int) (t:TapV):Int:=shiftV (bndLo t.weights 0 mx) s
def spHi (mx s:Int) (t:TapV):Int:=shiftV (bndHi t.weights 0 mx) s
def runLo (f:TapV->Int):List TapV->Int
  |[]=>0
  |t::l=>l.foldl (fun m t=>min m (f t)) (f t)
def runHi (f:TapV->Int):List TapV->Int
  |[]=>0
  |t::l=>l.foldl (fun m t=>max m (f t)) (f t)
theorem runLo_one (f:TapV->Int) {l:List TapV} {x:TapV} (h:l[0]?=some x):runLo f (l.take 1)=f x:=by
  match l with
  |[]=>simp at h
  |y::l=>simp at h;subst h;simp [runLo]
theorem runHi_one (f:TapV->Int) {l:List TapV} {x:TapV} (h:l[0]?=some x):runHi f (l.take 1)=f x:=by
  match l with
  |[]=>simp at h
  |y::l=>simp at h;subst h;simp [runHi]
theorem runLo_at (f:TapV->Int) {l:List TapV} {i:Nat} {x:TapV} (h:l[i]?=some x) (hi:0<i):runLo f (l.take (i+1))=min (runLo f (l.take i)) (f x):=by
  rw [take_succ_at h]
  match l,i with
  |[],_=>simp at h
  |y::l,i+1=>simp [runLo,List.foldl_append]
theorem runHi_at (f:TapV->Int) {l:List TapV} {i:Nat} {x:TapV} (h:l[i]?=some x) (hi:0<i):runHi f (l.take (i+1))=max (runHi f (l.take i)) (f x):=by
  rw [take_succ_at h]
  match l,i with
  |[],_=>simp at h
  |y::l,i+1=>simp [runHi,List.foldl_append]
def resCode (w h mx:Int) (x y:List TapV) (s s2 out:Int):Int:=
  if tapsCode x w=0 then (if tapsCode y h=0 then (if (x.length:Int)*(y.length:Int)<=4096 then (if (0<=s/\s<=24)/\0<=s2/\s2<=24 then (if (1<=mx/\mx<=4294967296)/\1<=out/\out<=4294967296 then
    (if x.all (fun t=>bndOK t.weights 0 mx)=true then (if y.all (fun t=>bndOK t.weights (runLo (spLo mx s) x) (runHi (spHi mx s) x))=true then 0 else 11) else 11) else 2) else 10) else 8) else tapsCode y h) else tapsCode x w
theorem tapsCode_len {l:List TapV} {n:Int} (h:tapsCode l n=0):1<=l.length/\l.length<=128:=by
  unfold tapsCode at h
  split at h
  · omega
  · omega
theorem r11_check (s:Shape) (ax:Option Addr) (nx kx:Nat) (x:List Tap) (ay:Option Addr) (ny ky:Nat) (y:List Tap) (sh:Int) (sh2:Int) (out:Int) (hx:RdT encTap 2 [H] ax nx kx x) (dx:∀z∈x,Tap.Ok [H] z) (hy:RdT encTap 2 [H] ay ny ky y) (dy:∀z∈y,Tap.Ok [H] z) (hS:Sat W w (H::F)):
  Ro prog 145 #[.agg #[I s.w,I s.h,I s.max_], .slice ax nx kx, .slice ay ny ky,I sh,I sh2,I out] (I (resCode s.w s.h s.max_ (x.map Tap.v) (y.map Tap.v) sh sh2 out)) W w (H::F):=by
 have C0:=hx.le;have r0:=hx.len
 have D0:=hy.le;have t0:=hy.len
 refine callsK 122 func145 rfl<|jCO 2 rfl<|sBx hS [I s.w,I s.h,I s.max_] fun _ _ i0=>gOO i0 9 [0] rfl<|cS (r8_valid ax nx kx x s.w (hx.fl 1) (fun z hz=>(dx z hz).of_mem (mF 1)) i0.flat) fun _ g0=>jOC 9 rfl<|CN (tapsCode (x.map Tap.v) s.w) 0 (fun q0=>jCR 8 rfl<|retT [I (tapsCode (x.map Tap.v) s.w)]<|⟨(by unfold resCode;exact ssp),(g0.dropAt 0 rfl)⟩) fun q0=>gCO g0 8 [0] rfl<|cS (r8_valid ay ny ky y s.h (hy.fl 1) (fun z hz=>(dy z hz).of_mem (mF 1)) g0.flat) fun _ d0=>jOC 9 rfl<|CN (tapsCode (y.map Tap.v) s.h) 0 (fun s0=>jCR 8 rfl<|retT [I (tapsCode (y.map Tap.v) s.h)]<|⟨(by unfold resCode;exact ssp),(d0.dropAt 0 rfl)⟩) fun s0=>jCC 5 rfl ?_
 have H0:=tapsCode_len (l:=x.map Tap.v) (n:=s.w) om;have I0:=tapsCode_len (l:=y.map Tap.v) (n:=s.h) om
 have E0:(x.map Tap.v).length=nx:=by simp [r0]
 have F0:(y.map Tap.v).length=ny:=by simp [t0]
 have K0:=mul_bd (a:=(nx:Int)) (b:=(ny:Int)) (A:=128) (B:=128) om om
 have J0:((x.map Tap.v).length:Int)*((y.map Tap.v).length:Int)=(nx:Int)*(ny:Int):=by rw [E0,F0]
 refine jCO 5 rfl<|sMul (nx:Int) (ny:Int)<|jOC 4 rfl<|cD (((nx:Int)*(ny:Int))>4096) (fun u0=>jCR 8 rfl<|retT [I 8]<|⟨(by unfold resCode;exact ssp),(d0.dropAt 0 rfl)⟩) fun u0=>cutF d0 0 [1,2,3,5,6] (γ:=Unit) (fun _ R=>⟨[(46, .bool (decide (¬((0<=sh/\sh<=24)/\0<=sh2/\sh2<=24))))],R,0,True⟩) ?_ ?_
 ·exact jCO 2 rfl<|cS (r7_iss sh d0.flat) fun _ j0=>pu2<|SDn 50 ((0:Int)<=sh/\sh<=(24:Int)) (fun w0=>jOI 6 rfl<|⟨(),⟨⟨(mT om),trivial⟩,sA⟩,j0,trivial⟩) fun w0=>pu1<|gY<|cS (r7_iss sh2 j0.flat) fun _ x0=>jOI 4 rfl<|⟨(),⟨⟨(mB (!decide ((0:Int)<=sh2/\sh2<=(24:Int))) bm),trivial⟩,sA⟩,x0,trivial⟩
 rintro _ ρ _ ⟨e0,_⟩
 refine cD (¬((0<=sh/\sh<=24)/\0<=sh2/\sh2<=24)) (fun y0=>jCR 8 rfl<|retT [I 10]<|⟨(by unfold resCode;exact ssp),(e0.dropAt 0 rfl)⟩) fun y0=>cutF e0 0 [1,2,3,6] (γ:=Unit) (fun _ R=>⟨[(55, .bool (decide (¬((1<=s.max_/\s.max_<=4294967296)/\1<=out/\out<=4294967296))))],R,0,True⟩) ?_ ?_
 ·exact gCO e0 3 [0] rfl<|cS (r9_value s.max_ e0.flat) fun _ k0=>pu2<|SDn 60 ((1:Int)<=s.max_/\s.max_<=(4294967296:Int)) (fun a1=>jOI 6 rfl<|⟨(),⟨⟨(mT om),trivial⟩,sA⟩,k0,trivial⟩) fun a1=>pu1<|gY<|cS (r9_value out k0.flat) fun _ b1=>jOI 4 rfl<|⟨(),⟨⟨(mB (!decide ((1:Int)<=out/\out<=(4294967296:Int))) bm),trivial⟩,sA⟩,b1,trivial⟩
 rintro _ ρ _ ⟨l0,_⟩
 refine cD (¬((1<=s.max_/\s.max_<=4294967296)/\1<=out/\out<=4294967296)) (fun c1=>jCR 8 rfl<|retT [I 2]<|⟨(by unfold resCode;exact ssp),(l0.dropAt 0 rfl)⟩) fun c1=>jCC 16 rfl<|loopF [1,2,3,6] (γ:=Nat×Int×Int) (fun ⟨i,lo,up⟩ R=>⟨[(17,I (i:Int)),(15,I lo),(16,I up)],R,nx-i,i<=nx/\(lo=runLo (spLo s.max_ sh) ((x.map Tap.v).take i)/\up=runHi (spHi s.max_ sh) ((x.map Tap.v).take i))/\(((x.map Tap.v).take i).all (fun t=>bndOK t.weights 0 s.max_)=true)⟩) (0,0,0) ⟨l0,om,by exact ⟨rfl,rfl⟩,by rfl⟩ ?_
 rintro ⟨i,lo,up⟩ ρ _ ⟨m0,hi,hr,hE⟩
 refine jCC 9 rfl<|cD ((i:Int)<(nx:Int)) (fun f1=>?_) (fun f1=>?_)
 rotate_left
 ·refine jCC 7 rfl ?_
  have G0:=all_of_take hE (by simp;omega)
  have z0:lo=runLo (spLo s.max_ sh) (x.map Tap.v):=by rw [hr.1,List.take_of_length_le (by simp;omega)]
  have A0:up=runHi (spHi s.max_ sh) (x.map Tap.v):=by rw [hr.2,List.take_of_length_le (by simp;omega)]
  refine jCC 5 rfl<|loopF [2,15,16] (γ:=Nat) (fun j R=>⟨[(21,I (j:Int))],R,ny-j,j<=ny/\(((y.map Tap.v).take j).all (fun t=>bndOK t.weights (runLo (spLo s.max_ sh) (x.map Tap.v)) (runHi (spHi s.max_ sh) (x.map Tap.v)))=true)⟩) 0 ⟨m0,om,by rfl⟩ ?_
  rintro j ρ _ ⟨h0,hj,hF⟩
  refine jCC 9 rfl<|CD ((j:Int)<(ny:Int)) (fun g1=>jCR 11 rfl<|retT [I 0]<|(by have h1:=(h0.dropAt 0 rfl);have v0:=all_of_take hF (by simp;omega);refine ⟨?_,h1⟩;unfold resCode;(repeat' split)<;>first|rfl|(exfalso;omega)|contradiction|(exfalso;rename_i h;rw [v0] at h;cases h)|(exfalso;simp_all;done)|(simp_all;done))) fun g1=>?_
  refine jCO 8 rfl<|sIN hy j fun b0 _ _ f0 i1=>pu1<|sMp h0 (i1.up 1 rfl) 1 (.slice b0.weights.a b0.weights.n b0.weights.k)<|pu2<|cS (r7_bounds b0.weights.a b0.weights.n b0.weights.k b0.weights.l lo up (RdT.flat ((dy b0 (List.mem_of_getElem? f0)).weights.up 1 (by rfl))) h0.flat) fun _ n0=>jOC 15 rfl<|cBn (bndOK b0.weights.l lo up) (fun j1=>jCO 5 rfl<|sAdd (j:Int) 1<|jOI 2 rfl<|⟨j+1,od,alB,n0,om,all_succ hF (map_at (f:=Tap.v) f0) (by simp only [Tap.v];rw [<-z0,<-A0];simp_all)⟩) fun j1=>jCR 11 rfl<|retT [I 11] ?_
  have k1:=(n0.dropAt 0 rfl)
  have v0:=all_false_at (p:=fun t=>bndOK t.weights (runLo (spLo s.max_ sh) (x.map Tap.v)) (runHi (spHi s.max_ sh) (x.map Tap.v))) (map_at (f:=Tap.v) f0) (by simp only [Tap.v];rw [<-z0,<-A0];simp_all)
  refine ⟨?_,k1⟩
  unfold resCode
  (repeat' split)<;>first|rfl|(exfalso;omega)|contradiction|(exfalso;rename_i h;rw [v0] at h;cases h)|(exfalso;simp_all;done)|(simp_all;done)
 refine jCC 5 rfl ?_
 obtain ⟨a0,i2,j2,c0,l1,m1⟩:=RdT.eN hx i
 refine drawF m0 [7] (fq 4 1 (l1.up 1 rfl)<|fb 6 0 2 1<|fn) [0,1,2,3,5,4,6,7,8,9,10,11,12,13,14] fun _ n1=>wV 2<|wI m1<|wV 2<|wL 0<|wL 1<|wO rfl<|cS (r7_bounds a0.weights.a a0.weights.n a0.weights.k a0.weights.l 0 s.max_ (RdT.flat ((dx a0 (List.mem_of_getElem? c0)).weights.up 1 (by rfl))) n1.flat) fun _ o0=>nA<|wV 1<|wV 1<|wV 1<|wV 1<|wV 3<|wN<|jXC 8 rfl<|CBn (bndOK a0.weights.l 0 s.max_) (fun o1=>jCR 12 rfl<|retT [I 11]<|(by have q1:=(o0.dropAt 0 rfl);have G0:=all_false_at (p:=fun t=>bndOK t.weights 0 s.max_) (map_at (f:=Tap.v) c0) (by simp only [Tap.v];simp_all);exact ⟨(by unfold resCode;exact ssp),q1⟩)) fun o1=>jCO 7 rfl<|cS (r7_span (bndLo a0.weights.l 0 s.max_) (bndHi a0.weights.l 0 s.max_) sh o0.flat) fun _ p0=>jOC 14 rfl<|cE (i:Int) 0 (fun r1=>?_) (fun r1=>?_)
 rotate_left
 ·exact jCO 5 rfl<|stepY (I (min lo (shiftV (bndLo a0.weights.l 0 s.max_) sh))) rfl rfl (Y_min2 lo (shiftV (bndLo a0.weights.l 0 s.max_) sh) rfl rfl kr kr)<|pu2<|stepY (I (max up (shiftV (bndHi a0.weights.l 0 s.max_) sh))) rfl rfl (Y_max2 up (shiftV (bndHi a0.weights.l 0 s.max_) sh) rfl rfl kr kr)<|jOO 7 rfl<|sAdd (i:Int) 1<|jOI 2 rfl<|⟨(i+1,(min lo (shiftV (bndLo a0.weights.l 0 s.max_) sh)),(max up (shiftV (bndHi a0.weights.l 0 s.max_) sh))),od,alB,p0,om,by
    have e1:=runLo_at (spLo s.max_ sh) (map_at (f:=Tap.v) c0) om;have e2:=runHi_at (spHi s.max_ sh) (map_at (f:=Tap.v) c0) om
    exact ⟨by rw [e1,<-hr.1];rfl,by rw [e2,<-hr.2];rfl⟩,all_succ hE (map_at (f:=Tap.v) c0) (by simp only [Tap.v];simp_all)⟩
 exact jCO 10 rfl<|stepY (I (min (shiftV (bndLo a0.weights.l 0 s.max_) sh) (shiftV (bndLo a0.weights.l 0 s.max_) sh))) rfl rfl (Y_min2 (shiftV (bndLo a0.weights.l 0 s.max_) sh) (shiftV (bndLo a0.weights.l 0 s.max_) sh) rfl rfl kr kr)<|pu2<|stepY (I (max (shiftV (bndHi a0.weights.l 0 s.max_) sh) (shiftV (bndHi a0.weights.l 0 s.max_) sh))) rfl rfl (Y_max2 (shiftV (bndHi a0.weights.l 0 s.max_) sh) (shiftV (bndHi a0.weights.l 0 s.max_) sh) rfl rfl kr kr)<|jOO 7 rfl<|sAdd (i:Int) 1<|jOI 2 rfl<|⟨(i+1,(min (shiftV (bndLo a0.weights.l 0 s.max_) sh) (shiftV (bndLo a0.weights.l 0 s.max_) sh)),(max (shiftV (bndHi a0.weights.l 0 s.max_) sh) (shiftV (bndHi a0.weights.l 0 s.max_) sh))),od,alB,p0,om,by
   have B0:i=0:=by omega
   subst B0
   have e1:=runLo_one (spLo s.max_ sh) (map_at (f:=Tap.v) c0);have e2:=runHi_one (spHi s.max_ sh) (map_at (f:=Tap.v) c0)
   rw [e1,e2];simp only [spLo,spHi,Tap.v];omega,all_succ hE (map_at (f:=Tap.v) c0) (by simp only [Tap.v];simp_all)⟩
end Go.Proofs.YtghcddbhllkbmaaGreat
