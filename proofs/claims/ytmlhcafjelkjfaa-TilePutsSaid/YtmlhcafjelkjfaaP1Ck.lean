import Derived.Test.YtmlhcafjelkjfaaP1Ab
import Derived.WalkKit
import Derived.Deep.Quiet
import Derived.KernelRfl
import Derived.Laws.BytesString
import Derived.Laws.Shifts
import Derived.Laws.IdiomStrings
import Derived.Test.YtmlhcafjelkjfaaProg
import Derived.Test.YtmlhcafjelkjfaaP1RefS
namespace Go.Proofs.Ytmlhcafjelkjfaa
open Go Go.E Go.Proofs.Try
set_option linter.all false
set_option maxRecDepth 100000
set_option maxHeartbeats 2000000
variable {W w:World} {H:Chunk} {F:List Chunk}
theorem p1_mul (a:Int) (b:Int) (l:Int) (hl:l<=4611686018427387904) (hS:Sat W w (H::F)):
  Ro prog 43 #[I a,I b,I l] (.tuple #[I (mulV a b l), .bool (mulOK a b l)]) W w (H::F):=by
 refine callsA 30 func43 rfl<|sR<|pu2<|zQ<|pu3<|sD 10 (a<0) (fun a0=>?_) (fun a0=>?_)
 ·refine pu7<|zC<|pu2<|zR<|retT [I 0, .bool false] ?_
  obtain ⟨e1,e2⟩:=mul_f (a:=a) (b:=b) (l:=l) (by first|omega|(have:=mul_gt_of (a:=a) (b:=b) (l:=l) om om om;omega))
  exact ⟨by rw [e1,e2];rfl,hS⟩
 refine pu4<|sD 14 (b<0) (fun b0=>?_) (fun b0=>?_)
 ·refine pu3<|zC<|pu2<|zR<|retT [I 0, .bool false] ?_
  obtain ⟨e1,e2⟩:=mul_f (a:=a) (b:=b) (l:=l) (by first|omega|(have:=mul_gt_of (a:=a) (b:=b) (l:=l) om om om;omega))
  exact ⟨by rw [e1,e2];rfl,hS⟩
 refine pu3<|nT<|cD (l<0) (fun c0=>?_) (fun c0=>?_)
 ·refine sR<|pu2<|zR<|retT [I 0, .bool false] ?_
  obtain ⟨e1,e2⟩:=mul_f (a:=a) (b:=b) (l:=l) (by first|omega|(have:=mul_gt_of (a:=a) (b:=b) (l:=l) om om om;omega))
  exact ⟨by rw [e1,e2];rfl,hS⟩
 refine kT<|seqE<|sR<|pu3<|sD 20 (b>0) (fun d0=>?_) (fun d0=>?_)
 rotate_left
 ·refine pu6<|nT<|cFf<|kT<|seqE ?_
  have hm:=mul_le_of (a:=a) (b:=b) (l:=l) om om om om
  refine rE<|pu2<|sMul a b<|pu2<|zE<|retT [I (a*b), .bool true] ?_
  obtain ⟨e1,e2⟩:=mul_t (a:=a) (b:=b) (l:=l) om
  exact ⟨by rw [e1,e2];rfl,hS⟩
 refine pu3<|gY<|sQuo l b<|pu2<|nT<|cD (a>(l.tdiv b)) (fun e0=>?_) (fun e0=>?_)
 ·refine sR<|pu2<|zR<|retT [I 0, .bool false] ?_
  obtain ⟨e1,e2⟩:=mul_f (a:=a) (b:=b) (l:=l) (by first|omega|(have:=mul_gt_of (a:=a) (b:=b) (l:=l) om om om;omega))
  exact ⟨by rw [e1,e2];rfl,hS⟩
 refine kT<|seqE ?_
 have hm:=mul_le_of (a:=a) (b:=b) (l:=l) om om om om
 refine rE<|pu2<|sMul a b<|pu2<|zE<|retT [I (a*b), .bool true] ?_
 obtain ⟨e1,e2⟩:=mul_t (a:=a) (b:=b) (l:=l) om
 exact ⟨by rw [e1,e2];rfl,hS⟩
def areaOK (w h m:Int):Bool:=decide (sizeP w h m)
def areaV (w h m:Int):Int:=if areaOK w h m=true then w*h else 0
theorem area_eq {w h m:Int} (h1:1<=w/\w<=128) (h2:1<=h/\h<=128) (h3:1<=m/\m<=4294967296):areaOK w h m=mulOK w h 4096/\areaV w h m=mulV w h 4096:=by
  have e:areaOK w h m=mulOK w h 4096:=by
    unfold areaOK mulOK
    exact decide_eq_decide.2 (by unfold sizeP;omega)
  refine ⟨e,?_⟩
  unfold areaV mulV
  rw [e]
theorem area_no {w h m:Int} (h1:¬((1<=w/\w<=128)/\(1<=h/\h<=128)/\1<=m/\m<=4294967296)):areaOK w h m=false/\areaV w h m=0:=by
  have e:areaOK w h m=false:=decide_eq_false (by unfold sizeP;omega)
  refine ⟨e,?_⟩
  unfold areaV
  rw [e];rfl
theorem p4_area (w0:Int) (h0:Int) (m0:Int) (hS:Sat W w (H::F)):
  Ro prog 32 #[I w0,I h0,I m0] (.tuple #[I (areaV w0 h0 m0), .bool (areaOK w0 h0 m0)]) W w (H::F):=by
 refine callsA 35 func32 rfl<|sR<|pu2<|zQ<|pu3<|sD 10 (w0<1) (fun a0=>?_) (fun a0=>?_)
 ·refine pu16<|pu3<|zC<|pu2<|zR<|retT [I 0, .bool false] ?_
  obtain ⟨e1,e2⟩:=area_no (w:=w0) (h:=h0) (m:=m0) om
  exact ⟨by rw [e1,e2];rfl,hS⟩
 refine pu4<|sD 14 (w0>128) (fun b0=>?_) (fun b0=>?_)
 ·refine pu15<|zC<|pu2<|zR<|retT [I 0, .bool false] ?_
  obtain ⟨e1,e2⟩:=area_no (w:=w0) (h:=h0) (m:=m0) om
  exact ⟨by rw [e1,e2];rfl,hS⟩
 refine pu4<|sD 18 (h0<1) (fun c0=>?_) (fun c0=>?_)
 ·refine pu11<|zC<|pu2<|zR<|retT [I 0, .bool false] ?_
  obtain ⟨e1,e2⟩:=area_no (w:=w0) (h:=h0) (m:=m0) om
  exact ⟨by rw [e1,e2];rfl,hS⟩
 refine pu4<|sD 22 (h0>128) (fun d0=>?_) (fun d0=>?_)
 ·refine pu7<|zC<|pu2<|zR<|retT [I 0, .bool false] ?_
  obtain ⟨e1,e2⟩:=area_no (w:=w0) (h:=h0) (m:=m0) om
  exact ⟨by rw [e1,e2];rfl,hS⟩
 refine pu4<|sD 26 (m0<1) (fun e0=>?_) (fun e0=>?_)
 ·refine pu3<|zC<|pu2<|zR<|retT [I 0, .bool false] ?_
  obtain ⟨e1,e2⟩:=area_no (w:=w0) (h:=h0) (m:=m0) om
  exact ⟨by rw [e1,e2];rfl,hS⟩
 refine pu3<|nT<|cD (m0>4294967296) (fun f0=>?_) (fun f0=>?_)
 ·refine sR<|pu2<|zR<|retT [I 0, .bool false] ?_
  obtain ⟨e1,e2⟩:=area_no (w:=w0) (h:=h0) (m:=m0) om
  exact ⟨by rw [e1,e2];rfl,hS⟩
 refine kS<|pu2<|cR call43 (p1_mul w0 h0 4096 (od) hS.flat) fun _ g0=>pu4<|zE<|retT [I (mulV w0 h0 4096), .bool (mulOK w0 h0 4096)] ?_
 obtain ⟨e1,e2⟩:=area_eq (w:=w0) (h:=h0) (m:=m0) om om om
 exact ⟨by rw [e1,e2];rfl,g0⟩
theorem p4_valid (p:Plane) (hp:Plane.Ok [H] p) (hS:Sat W w (H::F)):
  Ro prog 18 #[.agg (encPlane p).toArray] (.bool (planeOK p.v)) W w (H::F):=by
 have hl_p_pix:=hp.pix.le;have hn_p_pix:=hp.pix.len
 refine callsA 42 func18 rfl<|sR<|sBox hS (.agg (encPlane p).toArray) (encPlane p).toArray fun g0 _ c0=>pu1<|zS<|pu1<|sL c0 0 0 (I p.w) (isAgg3 _)<|pu1<|sL c0 0 1 (I p.h) (isAgg3 _)<|pu1<|sL c0 0 2 (I p.max_) (isAgg3 _)<|cR call32 (p4_area p.w p.h p.max_ c0.flat) fun _ b0=>pu5<|zQ<|pu3<|sBn 19 (areaOK p.w p.h p.max_) (fun d0=>?_) (fun d0=>?_)
 rotate_left
 ·refine pu6<|zC<|pu1<|zR<|retT [.bool false] ?_
  have h0:=(b0.dropAt 0 rfl)
  refine ⟨rB ?_,h0⟩
  exact (planeOK_f1 (p:=p.v) (by intro h9;exact d0 (decide_eq_true h9.1))).symm
 refine pu1<|gY<|sL b0 0 3 (.slice p.pix.a p.pix.n p.pix.k) (isAgg22 _)<|pu4<|nT<|cN (p.pix.n:Int) (areaV p.w p.h p.max_) (fun i0=>?_) (fun i0=>?_)
 rotate_left
 ·refine sR<|pu1<|zR<|retT [.bool false] ?_
  have j0:=(b0.dropAt 0 rfl)
  refine ⟨rB ?_,j0⟩
  exact (planeOK_f1 (p:=p.v) (by have hx:=d0;unfold areaV at*;rw [if_pos hx] at*;simp only [Plane.v];omega)).symm
 refine kT<|seqE<|seqE ?_
 have har:sizeP p.v.w p.v.h p.v.max_/\(p.v.pix.length:Int)=p.v.w*p.v.h:=by have hx:=d0;unfold areaV at*;rw [if_pos hx] at*;exact ⟨of_decide_eq_true hx,by simp only [Plane.v];omega⟩
 refine rE<|pu1<|sL b0 0 3 (.slice p.pix.a p.pix.n p.pix.k) (isAgg22 _)<|pu2<|nT<|blockE<|loopA (γ:=Nat) (fun i=>[(1,Pt g0 0),(27, .slice p.pix.a p.pix.n p.pix.k),(28,I (p.pix.n:Int)),(29,I (i:Int))]) (fun i w=>Sat W w ([(g0, .cells (encPlane p).toArray 28 (0,0))]::H::F)/\i<=p.pix.n/\(pixOK p.max_ (p.pix.l.take i)=true)) (fun i=>p.pix.n-i) 0 ⟨b0,om,by rfl⟩ ?_
 rintro i ρ _ ⟨a0,hi,hE⟩
 refine sR<|pu1<|nT<|seqE<|cD ((i:Int)<(p.pix.n:Int)) (fun k0=>?_) (fun k0=>?_)
 rotate_left
 ·refine exitE<|xB<|tN<|sR<|pu1<|zE<|retT [.bool true] ?_
  have l0:=(a0.dropAt 0 rfl)
  refine ⟨rB ?_,l0⟩
  exact (planeOK_t (p:=p.v) har (all_of_take hE (by simp only [Plane.v];omega))).symm
 refine kT<|seqE<|blockE<|sR<|sIdx hp.pix (i:Int) runUnderlying22 sizeOf3 fun f0 _ _ e0 m0=>?_
 rw [Int.toNat_natCast] at e0
 refine sLp a0 (m0.up 1 rfl) 0 (I f0) (isAgg3 _)<|pu1<|zS<|pu3<|sD 35 (f0<0) (fun n0=>?_) (fun n0=>?_)
 ·refine pu5<|zC<|pu1<|zB<|tR<|tK<|retT [.bool false] ?_
  have o0:=(a0.dropAt 0 rfl)
  refine ⟨rB ?_,o0⟩
  exact (planeOK_f2 (p:=p.v) (all_false_at e0 (decide_eq_false (by simp only [Plane.v];omega)))).symm
 refine pu2<|gY<|sL a0 0 2 (I p.max_) (isAgg3 _)<|pu2<|nT<|cD (f0>p.max_) (fun p0=>?_) (fun p0=>?_)
 rotate_left
 ·exact skipE<|bN<|tN<|rE<|sAdd (i:Int) 1<|pu1<|nT<|⟨i+1,od,alA,a0,om,all_succ hE e0 (decide_eq_true om)⟩
 refine sR<|pu1<|zB<|tR<|tK<|retT [.bool false] ?_
 have q0:=(a0.dropAt 0 rfl)
 refine ⟨rB ?_,q0⟩
 exact (planeOK_f2 (p:=p.v) (all_false_at e0 (decide_eq_false (by simp only [Plane.v];omega)))).symm
theorem p7_within (x:Int) (m:Int) (hm:-4611686018427387904<=m/\m<=4611686018427387904) (hS:Sat W w (H::F)):
  Ro prog 80 #[I x,I m] (.bool (decide (-m<=x/\x<=m))) W w (H::F):=by
 refine callsA 14 func80 rfl<|sR<|pu1<|zS<|pu1<|stepY (I (-m)) rfl rfl (Y_neg m rfl kr)<|pu3<|sD 9 ((-m)<=x) (fun a0=>?_) (fun a0=>?_)
 rotate_left
 ·exact pu5<|zE<|retT [.bool false]<|⟨rB bq,hS⟩
 exact pu5<|zE<|retT [.bool (decide ((x:Int)<=m))]<|⟨rB bq,hS⟩
theorem p7_weights (ax:Option Addr) (nx kx:Nat) (x:List Int) (hx:RdT Go.E.encI 1 [H] ax nx kx x) (hS:Sat W w (H::F)):
  Ro prog 77 #[.slice ax nx kx] (I (wCode x)) W w (H::F):=by
 have hl_x:=hx.le;have hn_x:=hx.len
 refine callsA 23 func77 rfl<|sR<|pu1<|zQ<|pu4<|sE 8 (nx:Int) 0 (fun e0=>?_) (fun e0=>?_)
 ·exact pu4<|zC<|pu1<|zR<|retT [I 9]<|⟨by unfold wCode;rw [if_pos om];rfl,hS⟩
 refine pu4<|nT<|cD ((nx:Int)>81) (fun f0=>?_) (fun f0=>?_)
 ·exact sR<|pu1<|zR<|retT [I 9]<|⟨by unfold wCode;rw [if_pos om];rfl,hS⟩
 refine kT<|seqE<|sR<|pu3<|nT<|blockE<|loopA (γ:=Nat) (fun i=>[(13, .slice ax nx kx),(14,I (nx:Int)),(15,I (i:Int))]) (fun i w=>Sat W w (H::F)/\i<=nx/\(areW (x.take i)=true)) (fun i=>nx-i) 0 ⟨hS,om,by rfl⟩ ?_
 rintro i ρ _ ⟨b0,hi,hE⟩
 refine sR<|pu1<|nT<|seqE<|cD ((i:Int)<(nx:Int)) (fun g0=>?_) (fun g0=>?_)
 rotate_left
 ·refine exitE<|xB<|tN<|sR<|pu1<|zE<|retT [I 0] ?_
  have hE2:areW x=true:=all_of_take hE om
  exact ⟨by unfold wCode;rw [if_neg om,if_pos hE2];rfl,b0⟩
 refine kT<|seqE<|blockE<|sR<|sIdx hx (i:Int) runUnderlying22 sizeOf3 fun a0 _ _ c0 h0=>?_
 rw [Int.toNat_natCast] at c0
 refine sLp b0 (h0.up 0 rfl) 0 (I a0) (isAgg3 _)<|pu1<|zS<|pu1<|cR call80 (p7_within a0 32767 (od) b0.flat) fun _ d0=>pu1<|nT<|cDn (-(32767:Int)<=a0/\a0<=(32767:Int)) (fun i0=>?_) (fun i0=>?_)
 ·exact skipE<|bN<|tN<|rE<|sAdd (i:Int) 1<|pu1<|nT<|⟨i+1,od,alA,d0,om,all_succ hE c0 (decide_eq_true om)⟩
 refine sR<|pu1<|zB<|tR<|tK<|retT [I 10] ?_
 have hE2:areW x=false:=all_false_at c0 (decide_eq_false om)
 exact ⟨by unfold wCode;rw [if_neg om,hE2,if_neg (by decide)];rfl,d0⟩
theorem p7_bounds (ax:Option Addr) (nx kx:Nat) (x:List Int) (lo:Int) (up:Int) (hx:RdT Go.E.encI 1 [H] ax nx kx x) (hS:Sat W w (H::F)):
  Ro prog 78 #[.slice ax nx kx,I lo,I up] (.tuple #[I (bndLo x lo up),I (bndHi x lo up), .bool (bndOK x lo up)]) W w (H::F):=by
 have hl_x:=hx.le;have hn_x:=hx.len
 refine callsA 66 func78 rfl<|sR<|pu3<|zQ<|pu1<|cR call77 (p7_weights ax nx kx x (RdT.flat (hx.up 0 (by rfl))) hS.flat) fun _ c0=>pu2<|sN 16 (wCode x) 0 (fun i0=>?_) (fun i0=>?_)
 rotate_left
 ·refine pu14<|zC<|pu3<|zR<|retT [I 0,I 0, .bool false] ?_
  obtain ⟨e1,e2,e3⟩:=bnd_bad (l:=x) (lo:=lo) (hi:=up) om
  exact ⟨by rw [e1,e2,e3];rfl,c0⟩
 refine pu5<|sD 21 (lo>up) (fun j0=>?_) (fun j0=>?_)
 ·refine pu9<|zC<|pu3<|zR<|retT [I 0,I 0, .bool false] ?_
  obtain ⟨e1,e2,e3⟩:=bnd_bad (l:=x) (lo:=lo) (hi:=up) om
  exact ⟨by rw [e1,e2,e3];rfl,c0⟩
 refine pu1<|gY<|cR call80 (p7_within lo 68719476736 (od) c0.flat) fun _ e0=>pu3<|sDn 26 (-(68719476736:Int)<=lo/\lo<=(68719476736:Int)) (fun k0=>?_) (fun k0=>?_)
 rotate_left
 ·refine pu4<|zC<|pu3<|zR<|retT [I 0,I 0, .bool false] ?_
  obtain ⟨e1,e2,e3⟩:=bnd_bad (l:=x) (lo:=lo) (hi:=up) om
  exact ⟨by rw [e1,e2,e3];rfl,e0⟩
 refine pu1<|gY<|cR call80 (p7_within up 68719476736 (od) e0.flat) fun _ f0=>pu2<|nT<|cDn (-(68719476736:Int)<=up/\up<=(68719476736:Int)) (fun l0=>?_) (fun l0=>?_)
 rotate_left
 ·refine sR<|pu3<|zR<|retT [I 0,I 0, .bool false] ?_
  obtain ⟨e1,e2,e3⟩:=bnd_bad (l:=x) (lo:=lo) (hi:=up) om
  exact ⟨by rw [e1,e2,e3];rfl,f0⟩
 refine kT<|seqE ?_
 obtain ⟨hw0,hw81,hw⟩:=wCode_len (l:=x) om
 refine rE<|pu2<|zQ<|pu3<|nT<|blockE<|loopA (γ:=Nat×Int×Int) (fun ⟨i,a,b⟩=>[(1,I lo),(2,I up),(31, .slice ax nx kx),(32,I (nx:Int)),(33,I (i:Int)),(9,I a),(10,I b)]) (fun ⟨i,a,b⟩ w=>Sat W w (H::F)/\i<=nx/\(a=sumLo (x.take i) lo up)/\(b=sumHi (x.take i) lo up)/\(-(2251799813685248*(i:Int))<=a/\a<=2251799813685248*(i:Int)/\-(2251799813685248*(i:Int))<=b/\b<=2251799813685248*(i:Int))) (fun ⟨i,a,b⟩=>nx-i) (0,0,0) ⟨f0,om,by rfl,by rfl,om⟩ ?_
 rintro ⟨i,a,b⟩ ρ _ ⟨d0,hi,ha,hb,hab⟩
 refine sR<|pu1<|nT<|seqE<|cD ((i:Int)<(nx:Int)) (fun m0=>?_) (fun m0=>?_)
 rotate_left
 ·refine exitE<|xB<|tN<|seqE<|sR<|pu1<|cR call80 (p7_within a 17592186044416 (od) d0.flat) fun _ g0=>pu2<|sDn 59 (-(17592186044416:Int)<=a/\a<=(17592186044416:Int)) (fun n0=>?_) (fun n0=>?_)
  rotate_left
  ·refine pu4<|zC<|pu3<|zR<|retT [I 0,I 0, .bool false] ?_
   obtain ⟨e1,e2,e3⟩:=bnd_bad2 (l:=x) (i:=i) ha hb om (by unfold accP;omega)
   exact ⟨by rw [e1,e2,e3];rfl,g0⟩
  refine pu1<|gY<|cR call80 (p7_within b 17592186044416 (od) g0.flat) fun _ h0=>pu2<|nT<|cDn (-(17592186044416:Int)<=b/\b<=(17592186044416:Int)) (fun o0=>?_) (fun o0=>?_)
  rotate_left
  ·refine sR<|pu3<|zR<|retT [I 0,I 0, .bool false] ?_
   obtain ⟨e1,e2,e3⟩:=bnd_bad2 (l:=x) (i:=i) ha hb om (by unfold accP;omega)
   exact ⟨by rw [e1,e2,e3];rfl,h0⟩
  refine kS<|pu5<|zE<|retT [I a,I b, .bool true] ?_
  obtain ⟨e1,e2,e3⟩:=bnd_ret (l:=x) (i:=i) om om om ha hb om (by unfold accP;omega) (by unfold accP;omega)
  exact ⟨by rw [e1,e2,e3];rfl,h0⟩
 refine kT<|seqE<|blockE<|sR<|sIdx hx (i:Int) runUnderlying22 sizeOf3 fun a0 _ _ b0 p0=>?_
 rw [Int.toNat_natCast] at b0
 have hwx_x_17:=areW_at hw b0
 have hm1_x_17:=mul_abs (A:=32767) (B:=68719476736) hwx_x_17 (b:=lo) om;have hm2_x_17:=mul_abs (A:=32767) (B:=68719476736) hwx_x_17 (b:=up) om
 refine sLp d0 (p0.up 0 rfl) 0 (I a0) (isAgg3 _)<|pu1<|zS<|pu3<|sMul a0 lo<|pu2<|sMul a0 up<|stepY (I (min (a0*lo) (a0*up))) rfl rfl (Y_min2 (a0*lo) (a0*up) rfl rfl kr kr)<|sAdd a (min (a0*lo) (a0*up))<|pu1<|nT<|rE<|pu3<|sMul a0 lo<|pu2<|sMul a0 up<|stepY (I (max (a0*lo) (a0*up))) rfl rfl (Y_max2 (a0*lo) (a0*up) rfl rfl kr kr)<|sAdd b (max (a0*lo) (a0*up))<|pu1<|nB<|rE<|sAdd (i:Int) 1<|pu1<|nT ?_
 exact ⟨(i+1,(a+(min (a0*lo) (a0*up))),(b+(max (a0*lo) (a0*up)))),od,alA,d0,om,by have e:=sum_at (f:=fun w=>min (w*lo) (w*up)) b0;unfold sumLo at*;omega,by have e:=sum_at (f:=fun w=>max (w*lo) (w*up)) b0;unfold sumHi at*;omega,om⟩
theorem p7_shift (a:Int) (s:Int) (hS:Sat W w (H::F)):
  Ro prog 64 #[I a,I s] (I (shiftV a s)) W w (H::F):=by
 refine callsA 26 func64 rfl<|sR<|pu1<|zQ<|pu1<|cR call80 (p7_within a 17592186044416 (od) hS.flat) fun _ a0=>pu2<|sDn 8 (-(17592186044416:Int)<=a/\a<=(17592186044416:Int)) (fun b0=>?_) (fun b0=>?_)
 rotate_left
 ·exact pu7<|zC<|pu1<|zR<|retT [I 0]<|⟨by unfold shiftV;rw [if_neg (by unfold accP;omega)];rfl,a0⟩
 refine pu4<|sD 12 (s<0) (fun c0=>?_) (fun c0=>?_)
 ·exact pu3<|zC<|pu1<|zR<|retT [I 0]<|⟨by unfold shiftV;rw [if_neg (by unfold accP;omega)];rfl,a0⟩
 refine pu3<|nT<|cD (s>24) (fun d0=>?_) (fun d0=>?_)
 ·exact sR<|pu1<|zR<|retT [I 0]<|⟨by unfold shiftV;rw [if_neg (by unfold accP;omega)];rfl,a0⟩
 refine kT<|seqE<|sR<|pu2<|nT<|cE s 0 (fun e0=>?_) (fun e0=>?_)
 ·exact sR<|pu2<|zR<|retT [I a]<|⟨by unfold shiftV;rw [if_pos (by unfold accP;omega),if_pos om];rfl,a0⟩
 refine kT<|seqE ?_
 have hp:=pow2_pos ((s-1)).toNat;have hp2:=pow2_le (a:=((s-1)).toNat) (b:=24) om
 exact rE<|pu2<|sSub s 1<|stepY (I (2^((s-1)).toNat)) rfl rfl (Y_shl1 (k':= .i64) (s-1) rfl kr kr om)<|sAdd a (2^((s-1)).toNat)<|pu1<|stepY (I ((a+(2^((s-1)).toNat))/2^s.toNat)) rfl rfl (Y_shrS (k':= .i64) (a+(2^((s-1)).toNat)) s rfl kr kr om)<|pu1<|zE<|retT [I ((a+(2^((s-1)).toNat))/2^s.toNat)]<|⟨by unfold shiftV;rw [if_pos (by unfold accP;omega),if_neg om];rfl,a0⟩
theorem p7_span (lo:Int) (up:Int) (s:Int) (hS:Sat W w (H::F)):
    Ro prog 81 #[.int .i64 lo, .int .i64 up, .int .i64 s] (.tuple #[.int .i64 (shiftV lo s), .int .i64 (shiftV up s)]) W w (H::F):=by
  refine callsA 14 func81 rfl ?_
  refine seqE<|rE<|pu2<|nilO<|tN<|seqE<|rE<|pu2 ?_
  refine cR call64 (p7_shift lo s hS.flat) ?_
  intro w_1 hS_2
  refine pu2 ?_
  refine cR call64 (p7_shift up s hS_2.flat) ?_
  intro w_4 hS_5
  refine pu2<|nilO<|tN<|retE<|retT [.int .i64 (shiftV lo s), .int .i64 (shiftV up s)]<|?_
  exact ⟨rfl,hS_5⟩
theorem p3_valid (e0:Edge) (m:Int) (hS:Sat W w (H::F)):
  Ro prog 59 #[.agg #[I e0.policy,I e0.fill],I m] (.bool (decide ((e0.policy=3/\0<=e0.fill/\e0.fill<=m)\/(0<=e0.policy/\e0.policy<3/\e0.fill=0)))) W w (H::F):=by
 refine callsA 25 func59 rfl<|sR<|sBox hS (.agg #[I e0.policy,I e0.fill]) #[I e0.policy,I e0.fill] fun _ _ a0=>pu1<|zQ<|pu1<|sL a0 0 0 (I e0.policy) (isAgg3 _)<|nT<|blockE<|seqE<|sR<|pu2<|nT<|cE e0.policy 0 (fun b0=>?_) (fun b0=>?_)
 ·refine kT<|cT _ (beq_iff_eq.2 b0)<|sR<|pu1<|sL a0 0 1 (I e0.fill) (isAgg3 _)<|pu2<|zB<|retT [.bool ((e0.fill:Int)==0)] ?_
  have d0:=(a0.dropAt 0 rfl)
  exact ⟨rB bq,d0⟩
 refine sR<|pu2<|nT<|cE e0.policy 1 (fun c0=>?_) (fun c0=>?_)
 ·refine kT<|cT _ (beq_iff_eq.2 c0)<|sR<|pu1<|sL a0 0 1 (I e0.fill) (isAgg3 _)<|pu2<|zB<|retT [.bool ((e0.fill:Int)==0)] ?_
  have f0:=(a0.dropAt 0 rfl)
  exact ⟨rB bq,f0⟩
 refine rE<|pu2<|nT<|cE e0.policy 2 (fun g0=>?_) (fun g0=>?_)
 ·refine sR<|pu1<|sL a0 0 1 (I e0.fill) (isAgg3 _)<|pu2<|zB<|retT [.bool ((e0.fill:Int)==0)] ?_
  have h0:=(a0.dropAt 0 rfl)
  exact ⟨rB bq,h0⟩
 refine sR<|pu2<|nT<|cE e0.policy 3 (fun i0=>?_) (fun i0=>?_)
 rotate_left
 ·refine skipE<|bN<|tN<|sR<|pu1<|zE<|retT [.bool false] ?_
  have j0:=(a0.dropAt 0 rfl)
  exact ⟨rB bq,j0⟩
 refine sR<|pu1<|sL a0 0 1 (I e0.fill) (isAgg3 _)<|pu2<|sD 19 (0<=e0.fill) (fun k0=>?_) (fun k0=>?_)
 rotate_left
 ·refine pu6<|zB<|retT [.bool false] ?_
  have l0:=(a0.dropAt 0 rfl)
  exact ⟨rB bq,l0⟩
 refine pu1<|gY<|sL a0 0 1 (I e0.fill) (isAgg3 _)<|pu4<|zB<|retT [.bool (decide ((e0.fill:Int)<=m))] ?_
 have m0:=(a0.dropAt 0 rfl)
 exact ⟨rB bq,m0⟩
theorem p8_first (x:Int) (hS:Sat W w (H::F)):
  Ro prog 92 #[I x] (.bool (decide ((-128:Int)<=x/\x<=(256:Int)))) W w (H::F):=by
 refine callsA 9 func92 rfl<|sR<|pu1<|zS<|pu3<|sD 5 (-128<=x) (fun a0=>?_) (fun a0=>?_)
 rotate_left
 ·exact pu4<|zE<|retT [.bool false]<|⟨rB bq,hS⟩
 exact pu4<|zE<|retT [.bool (decide ((x:Int)<=256))]<|⟨rB bq,hS⟩
theorem p8_valid (ax:Option Addr) (nx kx:Nat) (x:List Tap) (m:Int) (hx:RdT encTap 2 [H] ax nx kx x) (dx:∀z∈x,Tap.Ok [H] z) (hS:Sat W w (H::F)):
  Ro prog 82 #[.slice ax nx kx,I m] (I (tapsCode (x.map Tap.v) m)) W w (H::F):=by
 have hl_x:=hx.le;have hn_x:=hx.len
 refine callsA 60 func82 rfl ?_
 refine sR<|pu1<|zQ<|pu3 ?_
 refine sD 11 (m<1) (fun j0=>?_) (fun j0=>?_)
 ·refine pu13<|zC<|pu1<|zR<|retT [I 8] ?_
  have hmx:(x.map Tap.v).length=nx:=by simp [hn_x]
  exact ⟨by unfold tapsCode;rw [if_neg om];rfl,hS⟩
 refine pu4 ?_
 refine sD 15 (m>128) (fun k0=>?_) (fun k0=>?_)
 ·refine pu9<|zC<|pu1<|zR<|retT [I 8] ?_
  have hmx:(x.map Tap.v).length=nx:=by simp [hn_x]
  exact ⟨by unfold tapsCode;rw [if_neg om];rfl,hS⟩
 refine pu5 ?_
 refine sE 20 (nx:Int) 0 (fun l0=>?_) (fun l0=>?_)
 ·refine pu4<|zC<|pu1<|zR<|retT [I 8] ?_
  have hmx:(x.map Tap.v).length=nx:=by simp [hn_x]
  exact ⟨by unfold tapsCode;rw [if_neg om];rfl,hS⟩
 refine pu4<|nT ?_
 refine cD ((nx:Int)>128) (fun m0=>?_) (fun m0=>?_)
 ·refine sR<|pu1<|zR<|retT [I 8] ?_
  have hmx:(x.map Tap.v).length=nx:=by simp [hn_x]
  exact ⟨by unfold tapsCode;rw [if_neg om];rfl,hS⟩
 refine kT<|seqE<|sR<|pu3<|nT<|blockE ?_
 refine loopA (γ:=Nat) (fun i=>[(25, .slice ax nx kx),(26,I (nx:Int)),(27,I (i:Int))]) (fun i w=>Sat W w (H::F)/\i<=nx/\(((x.map Tap.v).take i).all (fun x=>decide (tapCode x=0))=true)) (fun i=>nx-i) 0 ⟨hS,om,by rfl⟩ ?_
 rintro i ρ _ ⟨f0,hi,hE⟩
 refine sR<|pu1<|nT<|seqE ?_
 refine cD ((i:Int)<(nx:Int)) (fun n0=>?_) (fun n0=>?_)
 rotate_left
 ·refine exitE<|xB<|tN<|sR<|pu1<|zE<|retT [I 0] ?_
  have hmx:(x.map Tap.v).length=nx:=by simp [hn_x]
  exact ⟨by unfold tapsCode;rw [if_pos om,firstErr_none hE om];rfl,f0⟩
 refine kT<|seqE<|blockE<|sR ?_
 refine sIdx hx (i:Int) runUnderlying56 sizeOf97 ?_
 intro a0 _ _ b0 o0
 rw [Int.toNat_natCast] at b0
 have hnw_x_8:=(dx a0 (List.mem_of_getElem? b0)).weights.len;have hlw_x_8:=(dx a0 (List.mem_of_getElem? b0)).weights.le
 refine sLpA f0 (o0.up 0 rfl) 0 [I a0.first, .slice a0.weights.a a0.weights.n a0.weights.k] (isAgg97 _) (sizeOf97 _) ?_
 refine sAlloc f0 zeroValue97 ?_
 intro h0 _ p0
 refine sTl p0 0 [I a0.first, .slice a0.weights.a a0.weights.n a0.weights.k] sizeOf97 ?_
 intro _ c0
 refine zQ<|pu1 ?_
 refine sL c0 0 1 (.slice a0.weights.a a0.weights.n a0.weights.k) (isAgg22 _) ?_
 refine pu3 ?_
 refine sE 35 (a0.weights.n:Int) 0 (fun q0=>?_) (fun q0=>?_)
 ·refine pu5<|zC<|pu1<|zE<|tR<|tK<|tR<|tK<|retT [I 9] ?_
  have r0:=(c0.dropAt 0 rfl)
  have hmx:(x.map Tap.v).length=nx:=by simp [hn_x]
  have hcode:tapC a0.first a0.weights.l=9:=by unfold tapC;rw [if_pos om]
  exact ⟨by unfold tapsCode;rw [if_pos om,firstErr_at hE (map_at (f:=Tap.v) b0) (show tapC a0.first a0.weights.l≠0 by omega)];exact congrArg (fun c=>Ending.returned (packed [I c])) hcode.symm,r0⟩
 refine pu1<|gY ?_
 refine sL c0 0 1 (.slice a0.weights.a a0.weights.n a0.weights.k) (isAgg22 _) ?_
 refine pu3<|nT ?_
 refine cD ((a0.weights.n:Int)>8) (fun s0=>?_) (fun s0=>?_)
 ·refine sR<|pu1<|zE<|tR<|tK<|tR<|tK<|retT [I 9] ?_
  have t0:=(c0.dropAt 0 rfl)
  have hmx:(x.map Tap.v).length=nx:=by simp [hn_x]
  have hcode:tapC a0.first a0.weights.l=9:=by unfold tapC;rw [if_pos om]
  exact ⟨by unfold tapsCode;rw [if_pos om,firstErr_at hE (map_at (f:=Tap.v) b0) (show tapC a0.first a0.weights.l≠0 by omega)];exact congrArg (fun c=>Ending.returned (packed [I c])) hcode.symm,t0⟩
 refine kT<|seqE<|sR<|pu1 ?_
 refine sL c0 0 1 (.slice a0.weights.a a0.weights.n a0.weights.k) (isAgg22 _) ?_
 refine pu2<|nT<|blockE ?_
 refine loopA (γ:=Nat) (fun k=>[(25, .slice ax nx kx),(26,I (nx:Int)),(27,I (i:Int)),(6,Pt h0 0),(42, .slice a0.weights.a a0.weights.n a0.weights.k),(43,I (a0.weights.n:Int)),(44,I (k:Int))]) (fun k w=>Sat W w ([(h0, .cells #[I a0.first, .slice a0.weights.a a0.weights.n a0.weights.k] 97 (0,0))]::H::F)/\k<=a0.weights.n/\(areW (a0.weights.l.take k)=true)) (fun k=>a0.weights.n-k) 0 ⟨c0,om,by rfl⟩ ?_
 rintro k ρ _ ⟨d0,hk,hK⟩
 refine sR<|pu1<|nT<|seqE ?_
 refine cD ((k:Int)<(a0.weights.n:Int)) (fun u0=>?_) (fun u0=>?_)
 rotate_left
 ·refine exitE<|xB<|tN<|sR<|pu1 ?_
  refine sL d0 0 0 (I a0.first) (isAgg3 _) ?_
  refine cR call92 (p8_first a0.first d0.flat) ?_
  intro _ i0
  refine pu1<|nT ?_
  refine cDn ((-128:Int)<=a0.first/\a0.first<=(256:Int)) (fun v0=>?_) (fun v0=>?_)
  ·refine skipE<|bN<|tN<|rE ?_
   refine sAdd (i:Int) 1 ?_
   refine pu1<|nT ?_
   have hW9:areW a0.weights.l=true:=all_of_take hK om
   have hcode:tapC a0.first a0.weights.l=0:=by unfold tapC;rw [if_neg om,if_pos hW9,if_pos om]
   exact ⟨i+1,od,alA,(i0.dropAt 0 rfl),om,all_succ hE (map_at (f:=Tap.v) b0) (decide_eq_true hcode)⟩
  refine sR<|pu1<|zB<|tR<|tK<|retT [I 2] ?_
  have x0:=(i0.dropAt 0 rfl)
  have hmx:(x.map Tap.v).length=nx:=by simp [hn_x]
  have hW9:areW a0.weights.l=true:=all_of_take hK om
  have hcode:tapC a0.first a0.weights.l=2:=by unfold tapC;rw [if_neg om,if_pos hW9,if_neg om]
  exact ⟨by unfold tapsCode;rw [if_pos om,firstErr_at hE (map_at (f:=Tap.v) b0) (show tapC a0.first a0.weights.l≠0 by omega)];exact congrArg (fun c=>Ending.returned (packed [I c])) hcode.symm,x0⟩
 refine kT<|seqE<|blockE<|sR ?_
 refine sIdx (dx a0 (List.mem_of_getElem? b0)).weights (k:Int) runUnderlying22 sizeOf3 ?_
 intro g0 _ _ e0 y0
 rw [Int.toNat_natCast] at e0
 refine sLp d0 (y0.up 1 rfl) 0 (I g0) (isAgg3 _) ?_
 refine pu1<|zS<|pu3 ?_
 refine sD 50 (g0<(-32767)) (fun z0=>?_) (fun z0=>?_)
 ·refine pu3<|zC<|pu1<|zB<|tR<|tR<|tK<|tR<|tK<|retT [I 10] ?_
  have a1:=(d0.dropAt 0 rfl)
  have hmx:(x.map Tap.v).length=nx:=by simp [hn_x]
  have hW9:areW a0.weights.l=false:=all_false_at e0 (decide_eq_false om)
  have hcode:tapC a0.first a0.weights.l=10:=by unfold tapC;rw [if_neg om,hW9,if_neg (by decide)]
  exact ⟨by unfold tapsCode;rw [if_pos om,firstErr_at hE (map_at (f:=Tap.v) b0) (show tapC a0.first a0.weights.l≠0 by omega)];exact congrArg (fun c=>Ending.returned (packed [I c])) hcode.symm,a1⟩
 refine pu3<|nT ?_
 refine cD (g0>32767) (fun b1=>?_) (fun b1=>?_)
 rotate_left
 ·refine skipE<|bN<|tN<|rE ?_
  refine sAdd (k:Int) 1 ?_
  refine pu1<|nT ?_
  exact ⟨k+1,od,alA,d0,om,all_succ hK e0 (decide_eq_true om)⟩
 refine sR<|pu1<|zB<|tR<|tR<|tK<|tR<|tK<|retT [I 10] ?_
 have c1:=(d0.dropAt 0 rfl)
 have hmx:(x.map Tap.v).length=nx:=by simp [hn_x]
 have hW9:areW a0.weights.l=false:=all_false_at e0 (decide_eq_false om)
 have hcode:tapC a0.first a0.weights.l=10:=by unfold tapC;rw [if_neg om,hW9,if_neg (by decide)]
 exact ⟨by unfold tapsCode;rw [if_pos om,firstErr_at hE (map_at (f:=Tap.v) b0) (show tapC a0.first a0.weights.l≠0 by omega)];exact congrArg (fun c=>Ending.returned (packed [I c])) hcode.symm,c1⟩
theorem p9_check (mx:Int) (kw:Int) (kh:Int) (aws:Option Addr) (nws kws:Nat) (ws:List Int) (sh:Int) (out:Int) (hws:RdT Go.E.encI 1 [H] aws nws kws ws) (hS:Sat W w (H::F)):
  Ro prog 61 #[I mx,I kw,I kh, .slice aws nws kws,I sh,I out] (I (convCode mx kw kh ws sh out)) W w (H::F):=by
 have hl_ws:=hws.le;have hn_ws:=hws.len
 refine callsA 72 func61 rfl<|sR<|pu1<|nT<|seqE<|cutA (γ:=Unit) (fun _=>[(0,I mx),(3, .slice aws nws kws),(4,I sh),(5,I out),(37, .bool (decide (¬((1<=kw/\kw<=9)/\(1<=kh/\kh<=9)/\(ws.length:Int)=kw*kh))))]) (fun _ w=>Sat W w (H::F)) ?_ ?_
 ·refine rE<|pu3<|sD 18 (kw<1) (fun f0=>?_) (fun f0=>?_)
  ·exact pu16<|pu3<|nT<|⟨(),⟨kr,kr,kr,kr,(Eq.trans (b:= .bool true) kr (congrArg Value.bool (decide_eq_true (p:=¬((1<=kw/\kw<=9)/\(1<=kh/\kh<=9)/\(ws.length:Int)=kw*kh)) om).symm)),trivial⟩,hS⟩
  refine pu4<|sD 22 (kw>9) (fun g0=>?_) (fun g0=>?_)
  ·exact pu15<|nT<|⟨(),⟨kr,kr,kr,kr,(Eq.trans (b:= .bool true) kr (congrArg Value.bool (decide_eq_true (p:=¬((1<=kw/\kw<=9)/\(1<=kh/\kh<=9)/\(ws.length:Int)=kw*kh)) om).symm)),trivial⟩,hS⟩
  refine pu4<|sD 26 (kh<1) (fun h0=>?_) (fun h0=>?_)
  ·exact pu11<|nT<|⟨(),⟨kr,kr,kr,kr,(Eq.trans (b:= .bool true) kr (congrArg Value.bool (decide_eq_true (p:=¬((1<=kw/\kw<=9)/\(1<=kh/\kh<=9)/\(ws.length:Int)=kw*kh)) om).symm)),trivial⟩,hS⟩
  refine pu4<|sD 30 (kh>9) (fun i0=>?_) (fun i0=>?_)
  ·exact pu7<|nT<|⟨(),⟨kr,kr,kr,kr,(Eq.trans (b:= .bool true) kr (congrArg Value.bool (decide_eq_true (p:=¬((1<=kw/\kw<=9)/\(1<=kh/\kh<=9)/\(ws.length:Int)=kw*kh)) om).symm)),trivial⟩,hS⟩
  refine pu4<|gY ?_
  have hwh:=mul_bd (a:=kw) (b:=kh) (A:=9) (B:=9) om om
  exact sMul kw kh<|pu2<|nT<|⟨(),⟨kr,kr,kr,kr,(Eq.trans (b:= .bool (((nws:Int):Int)!=(kw*kh))) kr (congrArg Value.bool bm)),trivial⟩,hS⟩
 rintro _ ρ _ c0
 refine cD (¬((1<=kw/\kw<=9)/\(1<=kh/\kh<=9)/\(ws.length:Int)=kw*kh)) (fun j0=>?_) (fun j0=>?_)
 ·refine sR<|pu1<|zR<|retT [I 9]<|⟨?_,c0⟩
  unfold convCode
  (repeat' split)<;>first|rfl|(exfalso;omega)|contradiction|(exfalso;simp_all;done)|(simp_all;done)
 refine kT<|seqE<|cutA (γ:=Unit) (fun _=>[(0,I mx),(3, .slice aws nws kws),(5,I out),(48, .bool (decide (¬(areW ws=true/\0<=sh/\sh<=24))))]) (fun _ w=>Sat W w (H::F)) ?_ ?_
 ·have hw1:=Int.mul_pos (a:=kw) (b:=kh) om om;have hw2:=mul_bd (a:=kw) (b:=kh) (A:=9) (B:=9) om om;have hwc:wCode ws=0↔areW ws=true:=by unfold wCode;rw [if_neg om];split<;>simp_all
  refine rE<|pu1<|cR call77 (p7_weights aws nws kws ws (RdT.flat (hws.up 0 (by rfl))) c0.flat) fun _ b0=>pu2<|sN 41 (wCode ws) 0 (fun k0=>?_) (fun k0=>?_)
  rotate_left
  ·exact pu7<|nT<|⟨(),⟨kr,kr,kr,(Eq.trans (b:= .bool true) kr (congrArg Value.bool (decide_eq_true (p:=¬(areW ws=true/\0<=sh/\sh<=24)) (by (rw [<-hwc];omega))).symm)),trivial⟩,b0⟩
  refine pu4<|sD 45 (sh<0) (fun l0=>?_) (fun l0=>?_)
  ·exact pu3<|nT<|⟨(),⟨kr,kr,kr,(Eq.trans (b:= .bool true) kr (congrArg Value.bool (decide_eq_true (p:=¬(areW ws=true/\0<=sh/\sh<=24)) (by (rw [<-hwc];omega))).symm)),trivial⟩,b0⟩
  exact pu3<|nT<|⟨(),⟨kr,kr,kr,(Eq.trans (b:= .bool (decide (sh>24))) kr (congrArg Value.bool (by rw [Bool.eq_iff_iff];simp only [decide_eq_true_eq,beq_iff_eq,bne_iff_ne,ne_eq,Bool.not_eq_true',decide_eq_false_iff_not,gt_iff_lt,ge_iff_le,Bool.and_eq_true,Bool.or_eq_true,Bool.not_eq_eq_eq_not,Bool.not_true,Bool.and_eq_false_imp,beq_eq_false_iff_ne]<;>(rw [<-hwc];omega)))),trivial⟩,b0⟩
 rintro _ ρ _ a0
 refine cD (¬(areW ws=true/\0<=sh/\sh<=24)) (fun m0=>?_) (fun m0=>?_)
 ·refine sR<|pu1<|zR<|retT [I 10]<|⟨?_,a0⟩
  unfold convCode
  (repeat' split)<;>first|rfl|(exfalso;omega)|contradiction|(exfalso;simp_all;done)|(simp_all;done)
 refine kT<|seqE<|cutA (γ:=Unit) (fun _=>[(0,I mx),(3, .slice aws nws kws),(62, .bool (decide (¬((1<=mx/\mx<=4294967296)/\1<=out/\out<=4294967296))))]) (fun _ w=>Sat W w (H::F)) ?_ ?_
 rotate_left
 ·rintro _ ρ _ d0
  refine cD (¬((1<=mx/\mx<=4294967296)/\1<=out/\out<=4294967296)) (fun n0=>?_) (fun n0=>?_)
  ·refine sR<|pu1<|zR<|retT [I 2]<|⟨?_,d0⟩
   unfold convCode
   (repeat' split)<;>first|rfl|(exfalso;omega)|contradiction|(exfalso;simp_all;done)|(simp_all;done)
  refine kT<|seqE<|sR<|pu2<|cR call78 (p7_bounds aws nws kws ws 0 mx (RdT.flat (hws.up 0 (by rfl))) d0.flat) fun _ e0=>pu7<|zS<|pu2<|nT<|cBn (bndOK ws 0 mx) (fun o0=>?_) (fun o0=>?_)
  rotate_left
  ·refine sR<|pu1<|zR<|retT [I 11]<|⟨?_,e0⟩
   unfold convCode
   (repeat' split)<;>first|rfl|(exfalso;omega)|contradiction|(exfalso;simp_all;done)|(simp_all;done)
  refine kS<|pu1<|zE<|retT [I 0]<|⟨?_,e0⟩
  unfold convCode
  (repeat' split)<;>first|rfl|(exfalso;omega)|contradiction|(exfalso;simp_all;done)|(simp_all;done)
 refine rE<|pu3<|sD 51 (mx<1) (fun p0=>?_) (fun p0=>?_)
 ·exact pu11<|nT<|⟨(),⟨kr,kr,(Eq.trans (b:= .bool true) kr (congrArg Value.bool (decide_eq_true (p:=¬((1<=mx/\mx<=4294967296)/\1<=out/\out<=4294967296)) om).symm)),trivial⟩,a0⟩
 refine pu4<|sD 55 (mx>4294967296) (fun q0=>?_) (fun q0=>?_)
 ·exact pu7<|nT<|⟨(),⟨kr,kr,(Eq.trans (b:= .bool true) kr (congrArg Value.bool (decide_eq_true (p:=¬((1<=mx/\mx<=4294967296)/\1<=out/\out<=4294967296)) om).symm)),trivial⟩,a0⟩
 refine pu4<|sD 59 (out<1) (fun r0=>?_) (fun r0=>?_)
 ·exact pu3<|nT<|⟨(),⟨kr,kr,(Eq.trans (b:= .bool true) kr (congrArg Value.bool (decide_eq_true (p:=¬((1<=mx/\mx<=4294967296)/\1<=out/\out<=4294967296)) om).symm)),trivial⟩,a0⟩
 exact pu3<|nT<|⟨(),⟨kr,kr,(Eq.trans (b:= .bool (decide (out>4294967296))) kr (congrArg Value.bool bm)),trivial⟩,a0⟩
theorem p10_check (mx:Int) (arow:Option Addr) (nrow krow:Nat) (row:List Int) (acol:Option Addr) (ncol kcol:Nat) (col:List Int) (sh:Int) (sh2:Int) (out:Int) (hrow:RdT Go.E.encI 1 [H] arow nrow krow row) (hcol:RdT Go.E.encI 1 [H] acol ncol kcol col) (hS:Sat W w (H::F)):
  Ro prog 65 #[I mx, .slice arow nrow krow, .slice acol ncol kcol,I sh,I sh2,I out] (I (sepCode mx row col sh sh2 out)) W w (H::F):=by
 have hl_row:=hrow.le;have hn_row:=hrow.len
 have hl_col:=hcol.le;have hn_col:=hcol.len
 refine callsA 98 func65 rfl<|sR<|pu1<|zQ<|pu4<|nT<|blockE<|loopN 3<|roundS<|sR<|pu1<|nT<|seqE<|cTt<|kT<|seqE<|blockE<|sR<|pu2<|zS<|pu4<|sE 30 (nrow:Int) 0 (fun g0=>?_) (fun g0=>?_)
 ·refine pu4<|zC<|pu1<|zB<|tR<|tK<|retT [I 9]<|⟨?_,hS⟩
  unfold sepCode
  (repeat' split)<;>first|rfl|(exfalso;omega)|contradiction|(exfalso;simp_all;done)|(simp_all;done)
 refine pu4<|nT<|cD ((nrow:Int)>9) (fun h0=>?_) (fun h0=>?_)
 ·refine sR<|pu1<|zB<|tR<|tK<|retT [I 9]<|⟨?_,hS⟩
  unfold sepCode
  (repeat' split)<;>first|rfl|(exfalso;omega)|contradiction|(exfalso;simp_all;done)|(simp_all;done)
 refine skipE<|bN<|tN<|rE<|pu2<|nT<|roundS<|sR<|pu1<|nT<|seqE<|cTt<|kT<|seqE<|blockE<|sR<|pu2<|zS<|pu4<|sE 30 (ncol:Int) 0 (fun i0=>?_) (fun i0=>?_)
 ·refine pu4<|zC<|pu1<|zB<|tR<|tK<|retT [I 9]<|⟨?_,hS⟩
  unfold sepCode
  (repeat' split)<;>first|rfl|(exfalso;omega)|contradiction|(exfalso;simp_all;done)|(simp_all;done)
 refine pu4<|nT<|cD ((ncol:Int)>9) (fun j0=>?_) (fun j0=>?_)
 ·refine sR<|pu1<|zB<|tR<|tK<|retT [I 9]<|⟨?_,hS⟩
  unfold sepCode
  (repeat' split)<;>first|rfl|(exfalso;omega)|contradiction|(exfalso;simp_all;done)|(simp_all;done)
 refine skipE<|bN<|tN<|rE<|pu2<|nT<|roundS<|sR<|pu1<|nT<|seqE<|cFf<|exitE<|xB<|tN<|seqE<|cutA (γ:=Unit) (fun _=>[(0,I mx),(1, .slice arow nrow krow),(2, .slice acol ncol kcol),(3,I sh),(4,I sh2),(5,I out),(43, .bool (decide (¬(areW row=true/\areW col=true))))]) (fun _ w=>Sat W w (H::F)) ?_ ?_
 ·have hwr:wCode row=0↔areW row=true:=(by unfold wCode;rw [if_neg om];split<;>simp_all);have hwc:wCode col=0↔areW col=true:=(by unfold wCode;rw [if_neg om];split<;>simp_all)
  refine rE<|pu1<|cR call77 (p7_weights arow nrow krow row (RdT.flat (hrow.up 0 (by rfl))) hS.flat) fun _ c0=>pu2<|sN 39 (wCode row) 0 (fun k0=>?_) (fun k0=>?_)
  rotate_left
  ·exact pu4<|nT<|⟨(),⟨kr,kr,kr,kr,kr,kr,(Eq.trans (b:= .bool true) kr (congrArg Value.bool (decide_eq_true (p:=¬(areW row=true/\areW col=true)) (by (rw [<-hwr,<-hwc];omega))).symm)),trivial⟩,c0⟩
  exact pu1<|gY<|cR call77 (p7_weights acol ncol kcol col (RdT.flat (hcol.up 0 (by rfl))) c0.flat) fun _ l0=>pu2<|nT<|⟨(),⟨kr,kr,kr,kr,kr,kr,(Eq.trans (b:= .bool (((wCode col):Int)!=0)) kr (congrArg Value.bool (by rw [Bool.eq_iff_iff];simp only [decide_eq_true_eq,beq_iff_eq,bne_iff_ne,ne_eq,Bool.not_eq_true',decide_eq_false_iff_not,gt_iff_lt,ge_iff_le,Bool.and_eq_true,Bool.or_eq_true,Bool.not_eq_eq_eq_not,Bool.not_true,Bool.and_eq_false_imp,beq_eq_false_iff_ne]<;>(rw [<-hwr,<-hwc];omega)))),trivial⟩,l0⟩
 rintro _ ρ _ a0
 refine cD (¬(areW row=true/\areW col=true)) (fun m0=>?_) (fun m0=>?_)
 ·refine sR<|pu1<|zR<|retT [I 10]<|⟨?_,a0⟩
  unfold sepCode
  (repeat' split)<;>first|rfl|(exfalso;omega)|contradiction|(exfalso;simp_all;done)|(simp_all;done)
 refine kT<|seqE<|cutA (γ:=Unit) (fun _=>[(0,I mx),(1, .slice arow nrow krow),(2, .slice acol ncol kcol),(3,I sh),(5,I out),(57, .bool (decide (¬((0<=sh/\sh<=24)/\0<=sh2/\sh2<=24))))]) (fun _ w=>Sat W w (H::F)) ?_ ?_
 ·refine rE<|pu3<|sD 46 (sh<0) (fun n0=>?_) (fun n0=>?_)
  ·exact pu11<|nT<|⟨(),⟨kr,kr,kr,kr,kr,(Eq.trans (b:= .bool true) kr (congrArg Value.bool (decide_eq_true (p:=¬((0<=sh/\sh<=24)/\0<=sh2/\sh2<=24)) om).symm)),trivial⟩,a0⟩
  refine pu4<|sD 50 (sh>24) (fun o0=>?_) (fun o0=>?_)
  ·exact pu7<|nT<|⟨(),⟨kr,kr,kr,kr,kr,(Eq.trans (b:= .bool true) kr (congrArg Value.bool (decide_eq_true (p:=¬((0<=sh/\sh<=24)/\0<=sh2/\sh2<=24)) om).symm)),trivial⟩,a0⟩
  refine pu4<|sD 54 (sh2<0) (fun p0=>?_) (fun p0=>?_)
  ·exact pu3<|nT<|⟨(),⟨kr,kr,kr,kr,kr,(Eq.trans (b:= .bool true) kr (congrArg Value.bool (decide_eq_true (p:=¬((0<=sh/\sh<=24)/\0<=sh2/\sh2<=24)) om).symm)),trivial⟩,a0⟩
  exact pu3<|nT<|⟨(),⟨kr,kr,kr,kr,kr,(Eq.trans (b:= .bool (decide (sh2>24))) kr (congrArg Value.bool bm)),trivial⟩,a0⟩
 rintro _ ρ _ b0
 refine cD (¬((0<=sh/\sh<=24)/\0<=sh2/\sh2<=24)) (fun q0=>?_) (fun q0=>?_)
 ·refine sR<|pu1<|zR<|retT [I 10]<|⟨?_,b0⟩
  unfold sepCode
  (repeat' split)<;>first|rfl|(exfalso;omega)|contradiction|(exfalso;simp_all;done)|(simp_all;done)
 refine kT<|seqE<|cutA (γ:=Unit) (fun _=>[(0,I mx),(1, .slice arow nrow krow),(2, .slice acol ncol kcol),(3,I sh),(71, .bool (decide (¬((1<=mx/\mx<=4294967296)/\1<=out/\out<=4294967296))))]) (fun _ w=>Sat W w (H::F)) ?_ ?_
 ·refine rE<|pu3<|sD 60 (mx<1) (fun r0=>?_) (fun r0=>?_)
  ·exact pu11<|nT<|⟨(),⟨kr,kr,kr,kr,(Eq.trans (b:= .bool true) kr (congrArg Value.bool (decide_eq_true (p:=¬((1<=mx/\mx<=4294967296)/\1<=out/\out<=4294967296)) om).symm)),trivial⟩,b0⟩
  refine pu4<|sD 64 (mx>4294967296) (fun s0=>?_) (fun s0=>?_)
  ·exact pu7<|nT<|⟨(),⟨kr,kr,kr,kr,(Eq.trans (b:= .bool true) kr (congrArg Value.bool (decide_eq_true (p:=¬((1<=mx/\mx<=4294967296)/\1<=out/\out<=4294967296)) om).symm)),trivial⟩,b0⟩
  refine pu4<|sD 68 (out<1) (fun t0=>?_) (fun t0=>?_)
  ·exact pu3<|nT<|⟨(),⟨kr,kr,kr,kr,(Eq.trans (b:= .bool true) kr (congrArg Value.bool (decide_eq_true (p:=¬((1<=mx/\mx<=4294967296)/\1<=out/\out<=4294967296)) om).symm)),trivial⟩,b0⟩
  exact pu3<|nT<|⟨(),⟨kr,kr,kr,kr,(Eq.trans (b:= .bool (decide (out>4294967296))) kr (congrArg Value.bool bm)),trivial⟩,b0⟩
 rintro _ ρ _ d0
 refine cD (¬((1<=mx/\mx<=4294967296)/\1<=out/\out<=4294967296)) (fun u0=>?_) (fun u0=>?_)
 ·refine sR<|pu1<|zR<|retT [I 2]<|⟨?_,d0⟩
  unfold sepCode
  (repeat' split)<;>first|rfl|(exfalso;omega)|contradiction|(exfalso;simp_all;done)|(simp_all;done)
 refine kS<|pu2<|cR call78 (p7_bounds arow nrow krow row 0 mx (RdT.flat (hrow.up 0 (by rfl))) d0.flat) fun _ e0=>pu7<|zQ<|pu2<|nT<|cBn (bndOK row 0 mx) (fun v0=>?_) (fun v0=>?_)
 rotate_left
 ·refine sR<|pu1<|zR<|retT [I 11]<|⟨?_,e0⟩
  unfold sepCode
  (repeat' split)<;>first|rfl|(exfalso;omega)|contradiction|(exfalso;simp_all;done)|(simp_all;done)
 refine kS<|pu3<|cR call81 (p7_span (bndLo row 0 mx) (bndHi row 0 mx) sh e0.flat) fun _ w0=>pu5<|zQ<|pu3<|cR call78 (p7_bounds acol ncol kcol col (shiftV (bndLo row 0 mx) sh) (shiftV (bndHi row 0 mx) sh) (RdT.flat (hcol.up 0 (by rfl))) w0.flat) fun _ f0=>pu7<|zS<|pu2<|nT<|cBn (bndOK col (shiftV (bndLo row 0 mx) sh) (shiftV (bndHi row 0 mx) sh)) (fun x0=>?_) (fun x0=>?_)
 rotate_left
 ·refine sR<|pu1<|zR<|retT [I 11]<|⟨?_,f0⟩
  unfold sepCode
  (repeat' split)<;>first|rfl|(exfalso;omega)|contradiction|(exfalso;simp_all;done)|(simp_all;done)
 refine kS<|pu1<|zE<|retT [I 0]<|⟨?_,f0⟩
 unfold sepCode
 (repeat' split)<;>first|rfl|(exfalso;omega)|contradiction|(exfalso;simp_all;done)|(simp_all;done)
def accCode (x y:List TapV) (mx s:Int):Int:=if x.all (fun t=>bndOK t.weights 0 mx)=true then (if y.all (fun t=>bndOK t.weights (runLo (spLo mx s) x) (runHi (spHi mx s) x))=true then 0 else 11) else 11
theorem p11_acc (ax:Option Addr) (nx kx:Nat) (x:List Tap) (ay:Option Addr) (ny ky:Nat) (y:List Tap) (mx:Int) (sh:Int) (hx:RdT encTap 2 [H] ax nx kx x) (dx:∀z∈x,Tap.Ok [H] z) (hy:RdT encTap 2 [H] ay ny ky y) (dy:∀z∈y,Tap.Ok [H] z) (hS:Sat W w (H::F)):
  Ro prog 83 #[.slice ax nx kx, .slice ay ny ky,I mx,I sh] (I (accCode (x.map Tap.v) (y.map Tap.v) mx sh)) W w (H::F):=by
 have hl_x:=hx.le;have hn_x:=hx.len
 have hl_y:=hy.le;have hn_y:=hy.len
 refine callsA 74 func83 rfl ?_
 refine sR<|pu1<|zS<|pu2<|zQ<|pu3<|nT<|blockE ?_
 refine loopA (γ:=Nat×Int×Int) (fun ⟨i,lo,up⟩=>[(1, .slice ay ny ky),(2,I mx),(3,I sh),(21, .slice ax nx kx),(22,I (nx:Int)),(23,I (i:Int)),(9,I lo),(10,I up)]) (fun ⟨i,lo,up⟩ w=>Sat W w (H::F)/\i<=nx/\(lo=runLo (spLo mx sh) ((x.map Tap.v).take i)/\up=runHi (spHi mx sh) ((x.map Tap.v).take i))/\(((x.map Tap.v).take i).all (fun t=>bndOK t.weights 0 mx)=true)) (fun ⟨i,lo,up⟩=>nx-i) (0,0,0) ⟨hS,om,by exact ⟨rfl,rfl⟩,by rfl⟩ ?_
 rintro ⟨i,lo,up⟩ ρ _ ⟨e0,hi,hr,hE⟩
 refine sR<|pu1<|nT<|seqE ?_
 refine cD ((i:Int)<(nx:Int)) (fun l0=>?_) (fun l0=>?_)
 rotate_left
 ·refine exitE<|xB<|tN<|seqE<|seqE ?_
  have hx1:(x.map Tap.v).all (fun t=>bndOK t.weights 0 mx)=true:=all_of_take hE (by simp;omega)
  have hx2:lo=runLo (spLo mx sh) (x.map Tap.v):=by rw [hr.1,List.take_of_length_le (by simp;omega)]
  have hx3:up=runHi (spHi mx sh) (x.map Tap.v):=by rw [hr.2,List.take_of_length_le (by simp;omega)]
  refine rE<|pu3<|nT<|blockE ?_
  refine loopA (γ:=Nat) (fun j=>[(9,I lo),(10,I up),(56, .slice ay ny ky),(57,I (ny:Int)),(58,I (j:Int))]) (fun j w=>Sat W w (H::F)/\j<=ny/\(((y.map Tap.v).take j).all (fun t=>bndOK t.weights (runLo (spLo mx sh) (x.map Tap.v)) (runHi (spHi mx sh) (x.map Tap.v)))=true)) (fun j=>ny-j) 0 ⟨e0,om,by rfl⟩ ?_
  rintro j ρ _ ⟨f0,hj,hF⟩
  refine sR<|pu1<|nT<|seqE ?_
  refine cD ((j:Int)<(ny:Int)) (fun m0=>?_) (fun m0=>?_)
  rotate_left
  ·refine exitE<|xB<|tN<|sR<|pu1<|zE<|retT [I 0] ?_
   have hy2:=all_of_take hF (by simp;omega)
   exact ⟨by unfold accCode;rw [if_pos hx1,if_pos hy2];rfl,f0⟩
  refine kT<|seqE<|blockE<|sR ?_
  refine sIdx hy (j:Int) runUnderlying56 sizeOf97 ?_
  intro b0 _ _ d0 n0
  rw [Int.toNat_natCast] at d0
  have hnw_x_28:=(dy b0 (List.mem_of_getElem? d0)).weights.len;have hlw_x_28:=(dy b0 (List.mem_of_getElem? d0)).weights.le
  refine sLpA f0 (n0.up 0 rfl) 0 [I b0.first, .slice b0.weights.a b0.weights.n b0.weights.k] (isAgg97 _) (sizeOf97 _) ?_
  refine sAlloc f0 zeroValue97 ?_
  intro _ _ o0
  refine sTl o0 0 [I b0.first, .slice b0.weights.a b0.weights.n b0.weights.k] sizeOf97 ?_
  intro _ g0
  refine zS<|pu1 ?_
  refine sL g0 0 1 (.slice b0.weights.a b0.weights.n b0.weights.k) (isAgg22 _) ?_
  refine pu2 ?_
  refine cR call78 (p7_bounds b0.weights.a b0.weights.n b0.weights.k b0.weights.l lo up (RdT.flat ((dy b0 (List.mem_of_getElem? d0)).weights.up 1 (by rfl))) g0.flat) ?_
  intro _ h0
  refine pu7<|zS<|pu2<|nT ?_
  refine cBn (bndOK b0.weights.l lo up) (fun p0=>?_) (fun p0=>?_)
  ·refine skipE<|bN<|tN<|rE ?_
   refine sAdd (j:Int) 1 ?_
   refine pu1<|nT ?_
   exact ⟨j+1,od,alA,(h0.dropAt 0 rfl),om,all_succ hF (map_at (f:=Tap.v) d0) (by simp only [Tap.v];rw [<-hx2,<-hx3];simp_all)⟩
  refine sR<|pu1<|zB<|tR<|tK<|retT [I 11] ?_
  have r0:=(h0.dropAt 0 rfl)
  have hy2:=all_false_at (p:=fun t=>bndOK t.weights (runLo (spLo mx sh) (x.map Tap.v)) (runHi (spHi mx sh) (x.map Tap.v))) (map_at (f:=Tap.v) d0) (by simp only [Tap.v];rw [<-hx2,<-hx3];simp_all)
  exact ⟨by unfold accCode;rw [if_pos hx1,if_neg (by rw [hy2];decide)];rfl,r0⟩
 refine kT<|seqE<|blockE<|sR<|pu1 ?_
 refine sIdx hx (i:Int) runUnderlying56 sizeOf97 ?_
 intro a0 _ _ c0 s0
 rw [Int.toNat_natCast] at c0
 have hnw_x_4:=(dx a0 (List.mem_of_getElem? c0)).weights.len;have hlw_x_4:=(dx a0 (List.mem_of_getElem? c0)).weights.le
 refine sLpA e0 (s0.up 0 rfl) 0 [I a0.first, .slice a0.weights.a a0.weights.n a0.weights.k] (isAgg97 _) (sizeOf97 _) ?_
 refine sAlloc e0 zeroValue97 ?_
 intro _ _ t0
 refine pu1 ?_
 refine sTl t0 0 [I a0.first, .slice a0.weights.a a0.weights.n a0.weights.k] sizeOf97 ?_
 intro _ i0
 refine zS<|pu1 ?_
 refine sL i0 0 1 (.slice a0.weights.a a0.weights.n a0.weights.k) (isAgg22 _) ?_
 refine pu1 ?_
 refine cR call78 (p7_bounds a0.weights.a a0.weights.n a0.weights.k a0.weights.l 0 mx (RdT.flat ((dx a0 (List.mem_of_getElem? c0)).weights.up 1 (by rfl))) i0.flat) ?_
 intro _ j0
 refine pu7<|zQ<|pu2<|nT ?_
 refine cBn (bndOK a0.weights.l 0 mx) (fun u0=>?_) (fun u0=>?_)
 rotate_left
 ·refine sR<|pu1<|zE<|tR<|tK<|tR<|tK<|retT [I 11] ?_
  have v0:=(j0.dropAt 0 rfl)
  have hx1:=all_false_at (p:=fun t=>bndOK t.weights 0 mx) (map_at (f:=Tap.v) c0) (by simp only [Tap.v];simp_all)
  exact ⟨by unfold accCode;rw [if_neg (by rw [hx1];decide)];rfl,v0⟩
 refine kS<|pu3 ?_
 refine cR call81 (p7_span (bndLo a0.weights.l 0 mx) (bndHi a0.weights.l 0 mx) sh j0.flat) ?_
 intro _ k0
 refine pu5<|zQ<|pu2<|nT ?_
 refine cE (i:Int) 0 (fun w0=>?_) (fun w0=>?_)
 rotate_left
 ·refine kT<|rE<|pu2 ?_
  refine stepY (I (min lo (shiftV (bndLo a0.weights.l 0 mx) sh))) rfl rfl (Y_min2 lo (shiftV (bndLo a0.weights.l 0 mx) sh) rfl rfl kr kr) ?_
  refine pu2 ?_
  refine stepY (I (max up (shiftV (bndHi a0.weights.l 0 mx) sh))) rfl rfl (Y_max2 up (shiftV (bndHi a0.weights.l 0 mx) sh) rfl rfl kr kr) ?_
  refine pu2<|nB<|rE ?_
  refine sAdd (i:Int) 1 ?_
  refine pu1<|nT ?_
  exact ⟨(i+1,(min lo (shiftV (bndLo a0.weights.l 0 mx) sh)),(max up (shiftV (bndHi a0.weights.l 0 mx) sh))),od,alA,(k0.dropAt 0 rfl),om,by
    have e1:=runLo_at (spLo mx sh) (map_at (f:=Tap.v) c0) om;have e2:=runHi_at (spHi mx sh) (map_at (f:=Tap.v) c0) om
    exact ⟨by rw [e1,<-hr.1];rfl,by rw [e2,<-hr.2];rfl⟩,all_succ hE (map_at (f:=Tap.v) c0) (by simp only [Tap.v];simp_all)⟩
 refine rE<|pu4<|nT<|rE<|pu2 ?_
 refine stepY (I (min (shiftV (bndLo a0.weights.l 0 mx) sh) (shiftV (bndLo a0.weights.l 0 mx) sh))) rfl rfl (Y_min2 (shiftV (bndLo a0.weights.l 0 mx) sh) (shiftV (bndLo a0.weights.l 0 mx) sh) rfl rfl kr kr) ?_
 refine pu2 ?_
 refine stepY (I (max (shiftV (bndHi a0.weights.l 0 mx) sh) (shiftV (bndHi a0.weights.l 0 mx) sh))) rfl rfl (Y_max2 (shiftV (bndHi a0.weights.l 0 mx) sh) (shiftV (bndHi a0.weights.l 0 mx) sh) rfl rfl kr kr) ?_
 refine pu2<|nB<|rE ?_
 refine sAdd (i:Int) 1 ?_
 refine pu1<|nT ?_
 exact ⟨(i+1,(min (shiftV (bndLo a0.weights.l 0 mx) sh) (shiftV (bndLo a0.weights.l 0 mx) sh)),(max (shiftV (bndHi a0.weights.l 0 mx) sh) (shiftV (bndHi a0.weights.l 0 mx) sh))),od,alA,(k0.dropAt 0 rfl),om,by
   have hi0:i=0:=by omega
   subst hi0
   have e1:=runLo_one (spLo mx sh) (map_at (f:=Tap.v) c0);have e2:=runHi_one (spHi mx sh) (map_at (f:=Tap.v) c0)
   rw [e1,e2];simp only [spLo,spHi,Tap.v];omega,all_succ hE (map_at (f:=Tap.v) c0) (by simp only [Tap.v];simp_all)⟩
theorem p11_check (s:Shape) (ax:Option Addr) (nx kx:Nat) (x:List Tap) (ay:Option Addr) (ny ky:Nat) (y:List Tap) (sh:Int) (sh2:Int) (out:Int) (hx:RdT encTap 2 [H] ax nx kx x) (dx:∀z∈x,Tap.Ok [H] z) (hy:RdT encTap 2 [H] ay ny ky y) (dy:∀z∈y,Tap.Ok [H] z) (hS:Sat W w (H::F)):
  Ro prog 67 #[.agg #[I s.w,I s.h,I s.max_], .slice ax nx kx, .slice ay ny ky,I sh,I sh2,I out] (I (resCode s.w s.h s.max_ (x.map Tap.v) (y.map Tap.v) sh sh2 out)) W w (H::F):=by
 have hl_x:=hx.le;have hn_x:=hx.len
 have hl_y:=hy.le;have hn_y:=hy.len
 refine callsA 77 func67 rfl<|sR<|sBox hS (.agg #[I s.w,I s.h,I s.max_]) #[I s.w,I s.h,I s.max_] fun f0 _ k0=>pu1<|zQ<|pu2<|sL k0 0 0 (I s.w) (isAgg3 _)<|cR call82 (p8_valid ax nx kx x s.w (RdT.flat (hx.up 1 (by rfl))) (fun z hz=>(dx z hz).of_mem (mem_flat1 1 (by rfl))) k0.flat) fun _ h0=>pu1<|zS<|pu2<|nT<|cN (tapsCode (x.map Tap.v) s.w) 0 (fun a0=>?_) (fun a0=>?_)
 rotate_left
 ·refine sR<|pu2<|zR<|retT [I (tapsCode (x.map Tap.v) s.w)] ?_
  have m0:=(h0.dropAt 0 rfl)
  have hk:resCode s.w s.h s.max_ (x.map Tap.v) (y.map Tap.v) sh sh2 out=(tapsCode (x.map Tap.v) s.w):=by unfold resCode;rw [if_neg a0]
  exact ⟨by rw [hk];rfl,m0⟩
 refine kT<|seqE<|sR<|pu2<|sL h0 0 1 (I s.h) (isAgg3 _)<|cR call82 (p8_valid ay ny ky y s.h (RdT.flat (hy.up 1 (by rfl))) (fun z hz=>(dy z hz).of_mem (mem_flat1 1 (by rfl))) h0.flat) fun _ l0=>pu1<|zS<|pu2<|nT<|cN (tapsCode (y.map Tap.v) s.h) 0 (fun c0=>?_) (fun c0=>?_)
 rotate_left
 ·refine sR<|pu2<|zR<|retT [I (tapsCode (y.map Tap.v) s.h)] ?_
  have n0:=(l0.dropAt 0 rfl)
  have hk:resCode s.w s.h s.max_ (x.map Tap.v) (y.map Tap.v) sh sh2 out=(tapsCode (y.map Tap.v) s.h):=by unfold resCode;rw [if_pos a0,if_neg c0]
  exact ⟨by rw [hk];rfl,n0⟩
 refine kT<|seqE<|seqE ?_
 have hlx:=tapsCode_len (l:=x.map Tap.v) (n:=s.w) om;have hly:=tapsCode_len (l:=y.map Tap.v) (n:=s.h) om
 have hmx:(x.map Tap.v).length=nx:=by simp [hn_x]
 have hmy:(y.map Tap.v).length=ny:=by simp [hn_y]
 have hmo:mulOK (nx:Int) (ny:Int) 4096=true↔(((x.map Tap.v).length:Nat):Int)*(((y.map Tap.v).length:Nat):Int)<=4096:=by rw [hmx,hmy];unfold mulOK;rw [decide_eq_true_eq];omega
 refine rE<|pu4<|cR call43 (p1_mul (nx:Int) (ny:Int) 4096 (od) l0.flat) fun _ d0=>pu5<|zS<|pu2<|nT<|cBn (mulOK (nx:Int) (ny:Int) 4096) (fun e0=>?_) (fun e0=>?_)
 rotate_left
 ·refine sR<|pu1<|zR<|retT [I 8] ?_
  have o0:=(d0.dropAt 0 rfl)
  have hk:resCode s.w s.h s.max_ (x.map Tap.v) (y.map Tap.v) sh sh2 out=8:=by unfold resCode;rw [if_pos a0,if_pos c0,if_neg (fun h=>e0 (hmo.2 h))]
  exact ⟨by rw [hk];rfl,o0⟩
 refine kT<|seqE<|cutA (γ:=Unit) (fun _=>[(1, .slice ax nx kx),(2, .slice ay ny ky),(3,I sh),(5,I out),(6,Pt f0 0),(54, .bool (decide (¬((0<=sh/\sh<=24)/\0<=sh2/\sh2<=24))))]) (fun _ w=>Sat W w ([(f0, .cells #[I s.w,I s.h,I s.max_] 77 (0,0))]::H::F)) ?_ ?_
 ·refine rE<|pu3<|sD 43 (sh<0) (fun p0=>?_) (fun p0=>?_)
  ·exact pu11<|nT<|⟨(),⟨kr,kr,kr,kr,kr,(Eq.trans (b:= .bool true) kr (congrArg Value.bool (decide_eq_true (p:=¬((0<=sh/\sh<=24)/\0<=sh2/\sh2<=24)) om).symm)),trivial⟩,d0⟩
  refine pu4<|sD 47 (sh>24) (fun q0=>?_) (fun q0=>?_)
  ·exact pu7<|nT<|⟨(),⟨kr,kr,kr,kr,kr,(Eq.trans (b:= .bool true) kr (congrArg Value.bool (decide_eq_true (p:=¬((0<=sh/\sh<=24)/\0<=sh2/\sh2<=24)) om).symm)),trivial⟩,d0⟩
  refine pu4<|sD 51 (sh2<0) (fun r0=>?_) (fun r0=>?_)
  ·exact pu3<|nT<|⟨(),⟨kr,kr,kr,kr,kr,(Eq.trans (b:= .bool true) kr (congrArg Value.bool (decide_eq_true (p:=¬((0<=sh/\sh<=24)/\0<=sh2/\sh2<=24)) om).symm)),trivial⟩,d0⟩
  exact pu3<|nT<|⟨(),⟨kr,kr,kr,kr,kr,(Eq.trans (b:= .bool (decide (sh2>24))) kr (congrArg Value.bool bm)),trivial⟩,d0⟩
 rintro _ ρ _ b0
 refine cD (¬((0<=sh/\sh<=24)/\0<=sh2/\sh2<=24)) (fun g0=>?_) (fun g0=>?_)
 ·refine sR<|pu1<|zR<|retT [I 10] ?_
  have s0:=(b0.dropAt 0 rfl)
  have hk:resCode s.w s.h s.max_ (x.map Tap.v) (y.map Tap.v) sh sh2 out=10:=by unfold resCode;rw [if_pos a0,if_pos c0,if_pos (hmo.1 e0),if_neg g0]
  exact ⟨by rw [hk];rfl,s0⟩
 refine kT<|seqE<|cutA (γ:=Unit) (fun _=>[(1, .slice ax nx kx),(2, .slice ay ny ky),(3,I sh),(6,Pt f0 0),(70, .bool (decide (¬((1<=s.max_/\s.max_<=4294967296)/\1<=out/\out<=4294967296))))]) (fun _ w=>Sat W w ([(f0, .cells #[I s.w,I s.h,I s.max_] 77 (0,0))]::H::F)) ?_ ?_
 rotate_left
 ·rintro _ ρ _ i0
  refine cD (¬((1<=s.max_/\s.max_<=4294967296)/\1<=out/\out<=4294967296)) (fun j0=>?_) (fun j0=>?_)
  ·refine sR<|pu1<|zR<|retT [I 2] ?_
   have t0:=(i0.dropAt 0 rfl)
   have hk:resCode s.w s.h s.max_ (x.map Tap.v) (y.map Tap.v) sh sh2 out=2:=by unfold resCode;rw [if_pos a0,if_pos c0,if_pos (hmo.1 e0),if_pos (Classical.not_not.1 g0),if_neg j0]
   exact ⟨by rw [hk];rfl,t0⟩
  refine kS<|pu3<|sL i0 0 2 (I s.max_) (isAgg3 _)<|pu1<|cR call83 (p11_acc ax nx kx x ay ny ky y s.max_ sh (RdT.flat (hx.up 1 (by rfl))) (fun z hz=>(dx z hz).of_mem (mem_flat1 1 (by rfl))) (RdT.flat (hy.up 1 (by rfl))) (fun z hz=>(dy z hz).of_mem (mem_flat1 1 (by rfl))) i0.flat) fun _ u0=>pu1<|zE<|retT [I (accCode (x.map Tap.v) (y.map Tap.v) s.max_ sh)] ?_
  have v0:=(u0.dropAt 0 rfl)
  have hk:resCode s.w s.h s.max_ (x.map Tap.v) (y.map Tap.v) sh sh2 out=(accCode (x.map Tap.v) (y.map Tap.v) s.max_ sh):=by unfold resCode;rw [if_pos a0,if_pos c0,if_pos (hmo.1 e0),if_pos (Classical.not_not.1 g0),if_pos (Classical.not_not.1 j0)];rfl
  exact ⟨by rw [hk];rfl,v0⟩
 refine rE<|pu1<|sL b0 0 2 (I s.max_) (isAgg3 _)<|pu2<|sD 58 (s.max_<1) (fun w0=>?_) (fun w0=>?_)
 ·exact pu12<|nT<|⟨(),⟨kr,kr,kr,kr,(Eq.trans (b:= .bool true) kr (congrArg Value.bool (decide_eq_true (p:=¬((1<=s.max_/\s.max_<=4294967296)/\1<=out/\out<=4294967296)) om).symm)),trivial⟩,b0⟩
 refine pu1<|gY<|sL b0 0 2 (I s.max_) (isAgg3 _)<|pu3<|sD 63 (s.max_>4294967296) (fun x0=>?_) (fun x0=>?_)
 ·exact pu7<|nT<|⟨(),⟨kr,kr,kr,kr,(Eq.trans (b:= .bool true) kr (congrArg Value.bool (decide_eq_true (p:=¬((1<=s.max_/\s.max_<=4294967296)/\1<=out/\out<=4294967296)) om).symm)),trivial⟩,b0⟩
 refine pu4<|sD 67 (out<1) (fun y0=>?_) (fun y0=>?_)
 ·exact pu3<|nT<|⟨(),⟨kr,kr,kr,kr,(Eq.trans (b:= .bool true) kr (congrArg Value.bool (decide_eq_true (p:=¬((1<=s.max_/\s.max_<=4294967296)/\1<=out/\out<=4294967296)) om).symm)),trivial⟩,b0⟩
 exact pu3<|nT<|⟨(),⟨kr,kr,kr,kr,(Eq.trans (b:= .bool (decide (out>4294967296))) kr (congrArg Value.bool bm)),trivial⟩,b0⟩
def intCode (w h m:Int):Int:=if mostOK w h m=true then 0 else 11
theorem most_eq {w h m:Int} (h1:1<=w/\1<=h/\1<=m) (h2:mulOK w h 4294967296=true):mostOK w h m=mulOK (mulV w h 4294967296) m 4294967296/\mostV w h m=mulV (mulV w h 4294967296) m 4294967296:=by
  have hx:=of_decide_eq_true h2
  have hp:=Int.mul_pos (a:=w) (b:=h) (by omega) (by omega)
  have e0:mulV w h 4294967296=w*h:=by unfold mulV;rw [if_pos h2]
  rw [e0]
  have e:mostOK w h m=mulOK (w*h) m 4294967296:=by unfold mostOK mulOK;exact decide_eq_decide.2 (by omega)
  exact ⟨e,by unfold mostV mulV;rw [e]⟩
theorem most_no {w h m:Int} (h1:¬(1<=w/\1<=h/\1<=m)\/¬mulOK w h 4294967296=true):mostOK w h m=false/\mostV w h m=0:=by
  apply most_f
  intro hx
  rcases h1 with h1|h1
  · omega
  · exact h1 (decide_eq_true (by omega))
theorem p13_most (s:Shape) (hS:Sat W w (H::F)):
  Ro prog 90 #[.agg #[I s.w,I s.h,I s.max_]] (.tuple #[I (mostV s.w s.h s.max_), .bool (mostOK s.w s.h s.max_)]) W w (H::F):=by
 refine callsA 35 func90 rfl<|sR<|sBox hS (.agg #[I s.w,I s.h,I s.max_]) #[I s.w,I s.h,I s.max_] fun _ _ a0=>pu2<|zQ<|pu1<|sL a0 0 0 (I s.w) (isAgg3 _)<|pu2<|sD 9 (s.w<1) (fun d0=>?_) (fun d0=>?_)
 ·refine pu9<|zC<|pu2<|zR<|retT [I 0, .bool false] ?_
  have e0:=(a0.dropAt 0 rfl)
  obtain ⟨e1,e2⟩:=most_no (w:=s.w) (h:=s.h) (m:=s.max_) (.inl om)
  exact ⟨by rw [e1,e2];rfl,e0⟩
 refine pu1<|gY<|sL a0 0 1 (I s.h) (isAgg3 _)<|pu3<|sD 14 (s.h<1) (fun f0=>?_) (fun f0=>?_)
 ·refine pu4<|zC<|pu2<|zR<|retT [I 0, .bool false] ?_
  have g0:=(a0.dropAt 0 rfl)
  obtain ⟨e1,e2⟩:=most_no (w:=s.w) (h:=s.h) (m:=s.max_) (.inl om)
  exact ⟨by rw [e1,e2];rfl,g0⟩
 refine pu1<|gY<|sL a0 0 2 (I s.max_) (isAgg3 _)<|pu2<|nT<|cD (s.max_<1) (fun h0=>?_) (fun h0=>?_)
 ·refine sR<|pu2<|zR<|retT [I 0, .bool false] ?_
  have i0:=(a0.dropAt 0 rfl)
  obtain ⟨e1,e2⟩:=most_no (w:=s.w) (h:=s.h) (m:=s.max_) (.inl om)
  exact ⟨by rw [e1,e2];rfl,i0⟩
 refine kS<|pu1<|sL a0 0 0 (I s.w) (isAgg3 _)<|pu1<|sL a0 0 1 (I s.h) (isAgg3 _)<|cR call43 (p1_mul s.w s.h 4294967296 (od) a0.flat) fun _ b0=>pu5<|zQ<|pu2<|nT<|cBn (mulOK s.w s.h 4294967296) (fun c0=>?_) (fun c0=>?_)
 rotate_left
 ·refine sR<|pu2<|zR<|retT [I 0, .bool false] ?_
  have j0:=(b0.dropAt 0 rfl)
  obtain ⟨e1,e2⟩:=most_no (w:=s.w) (h:=s.h) (m:=s.max_) (.inr c0)
  exact ⟨by rw [e1,e2];rfl,j0⟩
 refine kS<|pu2<|sL b0 0 2 (I s.max_) (isAgg3 _)<|cR call43 (p1_mul (mulV s.w s.h 4294967296) s.max_ 4294967296 (od) b0.flat) fun _ k0=>pu4<|zE<|retT [I (mulV (mulV s.w s.h 4294967296) s.max_ 4294967296), .bool (mulOK (mulV s.w s.h 4294967296) s.max_ 4294967296)] ?_
 have l0:=(k0.dropAt 0 rfl)
 obtain ⟨e1,e2⟩:=most_eq (w:=s.w) (h:=s.h) (m:=s.max_) om c0
 exact ⟨by rw [e1,e2];rfl,l0⟩
theorem p13_check (s:Shape) (hS:Sat W w (H::F)):
  Ro prog 75 #[.agg #[I s.w,I s.h,I s.max_]] (I (intCode s.w s.h s.max_)) W w (H::F):=by
 refine callsA 12 func75 rfl<|sR<|sBox hS (.agg #[I s.w,I s.h,I s.max_]) #[I s.w,I s.h,I s.max_] fun _ _ a0=>pu1<|zQ<|lA a0 0 0 3 (isAgg77 _) (sizeOf77 _)<|cR call90 (p13_most s a0.flat) fun _ b0=>pu5<|zS<|pu2<|nT<|cBn (mostOK s.w s.h s.max_) (fun c0=>?_) (fun c0=>?_)
 rotate_left
 ·refine sR<|pu1<|zR<|retT [I 11] ?_
  have d0:=(b0.dropAt 0 rfl)
  refine ⟨?_,d0⟩
  unfold intCode
  (repeat' split)<;>first|rfl|(exfalso;omega)|contradiction|(exfalso;simp_all;done)|(simp_all;done)
 refine kS<|pu1<|zE<|retT [I 0] ?_
 have e0:=(b0.dropAt 0 rfl)
 refine ⟨?_,e0⟩
 unfold intCode
 (repeat' split)<;>first|rfl|(exfalso;omega)|contradiction|(exfalso;simp_all;done)|(simp_all;done)
end Go.Proofs.Ytmlhcafjelkjfaa
