import Derived.Test.YtmlhcafjelkjfaaGreatP3Ab
import Derived.WalkKit
import Derived.Deep.Quiet
import Derived.KernelRfl
import Derived.Laws.BytesString
import Derived.Laws.Shifts
import Derived.Laws.IdiomStrings
import Derived.Test.YtmlhcafjelkjfaaGreatProg
import Derived.Test.YtmlhcafjelkjfaaGreatP3Ref
namespace Go.Proofs.YtmlhcafjelkjfaaGreat
open Go Go.E Go.Proofs.Tryz
set_option linter.all false
set_option maxRecDepth 100000
set_option maxHeartbeats 2000000
variable {W w:World} {H:Chunk} {F:List Chunk}
structure Sp where
  lo:Int
  hi:Int
  deriving DecidableEq
def encSp (x:Sp):List Value:=[.int .i64 x.lo, .int .i64 x.hi]
def takesV (c:Int):Int:=if c<=2 then 0 else if 10<=c then 1 else 2
theorem takesV_bd (c:Int):0<=takesV c/\takesV c<=2:=by unfold takesV;(repeat' split)<;>omega
def argP (o:POp):Prop:=(o.code=2/\-4294967296<=o.arg/\o.arg<=4294967296)\/(o.code=10/\0<=o.arg/\o.arg<=24)\/(¬o.code=2/\¬o.code=10/\o.arg=0)
instance (o:POp):Decidable (argP o):=by unfold argP;infer_instance
def opBad (two:Bool) (o:POp) (h:Int):Prop:=o.code<0\/11<o.code\/(o.code=1/\two=false)\/h<takesV o.code
instance (two:Bool) (o:POp) (h:Int):Decidable (opBad two o h):=by unfold opBad;infer_instance
def opsGo (two:Bool):List POp->Int->Int
  |[],h=>if h=1 then 0 else 1
  |o::l,h=>if opBad two o h then 1 else if argP o then opsGo two l (h+(1-takesV o.code)) else 10
def opsCode (l:List POp) (two:Bool):Int:=if l.length=0\/32<l.length then 9 else opsGo two l 0
theorem r14_takes (x:Int) (hS:Sat W w (H::F)):
  Ro prog 206 #[I x] (I (takesV x)) W w (H::F):=by
 refine callsA 9 func206 rfl<|sR<|pu1<|nT<|seqE<|blockE<|sR<|pu3<|nT<|cD (x<=2) (fun a0=>?_) (fun a0=>?_)
 ·refine sR<|pu1<|zB<|retT [I 0]<|⟨?_,hS⟩
  unfold takesV
  (repeat' split)<;>first|rfl|(exfalso;omega)|contradiction|(exfalso;simp_all;done)|(simp_all;done)
 refine sR<|pu3<|nT<|cD (x>=10) (fun b0=>?_) (fun b0=>?_)
 ·refine sR<|pu1<|zB<|retT [I 1]<|⟨?_,hS⟩
  unfold takesV
  (repeat' split)<;>first|rfl|(exfalso;omega)|contradiction|(exfalso;simp_all;done)|(simp_all;done)
 refine skipE<|bN<|tN<|sR<|pu1<|zE<|retT [I 2]<|⟨?_,hS⟩
 unfold takesV
 (repeat' split)<;>first|rfl|(exfalso;omega)|contradiction|(exfalso;simp_all;done)|(simp_all;done)
theorem r14_argument (o : POp) (hS : Sat W w (H :: F)) :
  Ro prog 221 #[.agg #[I o.code, I o.arg]] (.bool (decide (argP o))) W w (H :: F) := by
 refine callsA 23 func221 rfl <| sR <| sBox hS (.agg #[I o.code, I o.arg]) #[I o.code, I o.arg] fun _ _ a0 => pu1 <| zQ <| pu1 <| sL a0 0 0 (I o.code) (isAgg3 _) <| nT <| blockE <| sR <| pu2 <| nT <| cE o.code 2 (fun b0 => ?_) (fun b0 => ?_)
 ·refine sR <| pu1 <| sL a0 0 1 (I o.arg) (isAgg3 _) <| pu2 <| sD 10 (o.arg >= (-4294967296)) (fun c0 => ?_) (fun c0 => ?_)
  rotate_left
  ·refine pu5 <| zB <| retT [.bool false] ?_
   have d0 := (a0.dropAt 0 rfl)
   refine ⟨rB ?_, d0⟩
   first | rfl | (rw [Bool.eq_iff_iff]; simp only [decide_eq_true_eq, beq_iff_eq, bne_iff_ne, ne_eq, Bool.not_eq_true', decide_eq_false_iff_not, true_iff, false_iff, iff_true, iff_false, Bool.false_eq_true, Bool.and_eq_true, Bool.or_eq_true, gt_iff_lt, ge_iff_le, argP] <;> omega) | (rw [Bool.eq_iff_iff]; simp [argP, *] <;> omega) | (simp_all; done)
  refine pu1 <| gY <| sL a0 0 1 (I o.arg) (isAgg3 _) <| pu3 <| zB <| retT [.bool (decide ((o.arg : Int) <= 4294967296))] ?_
  have e0 := (a0.dropAt 0 rfl)
  refine ⟨rB ?_, e0⟩
  first | rfl | (rw [Bool.eq_iff_iff]; simp only [decide_eq_true_eq, beq_iff_eq, bne_iff_ne, ne_eq, Bool.not_eq_true', decide_eq_false_iff_not, true_iff, false_iff, iff_true, iff_false, Bool.false_eq_true, Bool.and_eq_true, Bool.or_eq_true, gt_iff_lt, ge_iff_le, argP] <;> omega) | (rw [Bool.eq_iff_iff]; simp [argP, *] <;> omega) | (simp_all; done)
 refine sR <| pu2 <| nT <| cE o.code 10 (fun f0 => ?_) (fun f0 => ?_)
 rotate_left
 ·refine skipE <| bN <| tN <| sR <| pu1 <| sL a0 0 1 (I o.arg) (isAgg3 _) <| pu2 <| zE <| retT [.bool ((o.arg : Int) == 0)] ?_
  have g0 := (a0.dropAt 0 rfl)
  refine ⟨rB ?_, g0⟩
  first | rfl | (rw [Bool.eq_iff_iff]; simp only [decide_eq_true_eq, beq_iff_eq, bne_iff_ne, ne_eq, Bool.not_eq_true', decide_eq_false_iff_not, true_iff, false_iff, iff_true, iff_false, Bool.false_eq_true, Bool.and_eq_true, Bool.or_eq_true, gt_iff_lt, ge_iff_le, argP] <;> omega) | (rw [Bool.eq_iff_iff]; simp [argP, *] <;> omega) | (simp_all; done)
 refine sR <| pu1 <| sL a0 0 1 (I o.arg) (isAgg3 _) <| cR call198 (r7_iss o.arg a0.flat) fun _ h0 => pu1 <| zB <| retT [.bool (decide ((0 : Int) <= o.arg /\ o.arg <= (24 : Int)))] ?_
 have i0 := (h0.dropAt 0 rfl)
 refine ⟨rB ?_, i0⟩
 first | rfl | (rw [Bool.eq_iff_iff]; simp only [decide_eq_true_eq, beq_iff_eq, bne_iff_ne, ne_eq, Bool.not_eq_true', decide_eq_false_iff_not, true_iff, false_iff, iff_true, iff_false, Bool.false_eq_true, Bool.and_eq_true, Bool.or_eq_true, gt_iff_lt, ge_iff_le, argP] <;> omega) | (rw [Bool.eq_iff_iff]; simp [argP, *] <;> omega) | (simp_all; done)
theorem r14_valid (ax : Option Addr) (nx kx : Nat) (x : List POp) (two : Bool) (hx : RdT encPOp 2 [H] ax nx kx x) (hS : Sat W w (H :: F)) :
  Ro prog 203 #[.slice ax nx kx, .bool two] (I (opsCode x two)) W w (H :: F) := by
 have hl_x := hx.le; have hn_x := hx.len
 refine callsA 61 func203 rfl ?_
 refine sR <| pu1 <| zQ <| pu4 ?_
 refine sE 11 (nx : Int) 0 (fun i0 => ?_) (fun i0 => ?_)
 ·refine pu4 <| zC <| pu1 <| zR <| retT [I 9] ?_
  exact ⟨by unfold opsCode; rw [if_pos om]; rfl, hS⟩
 refine pu4 <| nT ?_
 refine cD ((nx : Int) > 32) (fun j0 => ?_) (fun j0 => ?_)
 ·refine sR <| pu1 <| zR <| retT [I 9] ?_
  exact ⟨by unfold opsCode; rw [if_pos om]; rfl, hS⟩
 refine kS <| pu1 <| zQ <| pu1 <| nT <| blockE ?_
 refine loopA (γ := Nat × Int) (fun ⟨i, h⟩ => [(0, .slice ax nx kx), (1, .bool two), (6, I (i : Int)), (5, I h)]) (fun ⟨i, h⟩ w => Sat W w (H :: F) /\ i <= nx /\ (opsGo two x 0 = opsGo two (x.drop i) h) /\ (0 <= h /\ h <= (i : Int))) (fun ⟨i, h⟩ => nx - i) (0, 0) ⟨hS, om, by rfl, om⟩ ?_
 rintro ⟨i, h⟩ ρ _ ⟨d0, hi, hG, hb⟩
 refine seqE <| sR <| pu4 <| nT ?_
 refine cD ((i : Int) < (nx : Int)) (fun k0 => ?_) (fun k0 => ?_)
 rotate_left
 ·refine exitE <| xB <| tN <| seqE <| sR <| pu2 <| nT ?_
  refine cN h 1 (fun l0 => ?_) (fun l0 => ?_)
  rotate_left
  ·refine sR <| pu1 <| zR <| retT [I 1] ?_
   have hcode : opsCode x two = opsGo two (x.drop i) h := by unfold opsCode; rw [if_neg om]; exact hG
   exact ⟨by rw [hcode, List.drop_of_length_le om, opsGo]; rw [if_neg om]; rfl, d0⟩
  refine kS <| pu1 <| zE <| retT [I 0] ?_
  have hcode : opsCode x two = opsGo two (x.drop i) h := by unfold opsCode; rw [if_neg om]; exact hG
  exact ⟨by rw [hcode, List.drop_of_length_le om, opsGo]; rw [if_pos om]; rfl, d0⟩
 refine kT <| seqE <| blockE <| sR <| pu2 ?_
 refine sIdx hx (i : Int) runUnderlying51 sizeOf75 ?_
 intro a0 _ _ b0 m0
 rw [Int.toNat_natCast] at b0
 refine sLpA d0 (m0.up 0 rfl) 0 [I a0.code, I a0.arg] (isAgg75 _) (sizeOf75 _) ?_
 refine sAlloc d0 zeroValue75 ?_
 intro _ _ n0
 refine sTl n0 0 [I a0.code, I a0.arg] sizeOf75 ?_
 intro _ c0
 refine zQ <| pu1 ?_
 refine sL c0 0 0 (I a0.code) (isAgg3 _) ?_
 refine pu2 ?_
 refine sD 29 (a0.code < 0) (fun o0 => ?_) (fun o0 => ?_)
 ·refine pu16 <| pu4 <| zC <| pu1 <| zE <| tR <| tK <| tR <| tK <| retT [I 1] ?_
  have p0 := (c0.dropAt 0 rfl)
  have hcode : opsCode x two = opsGo two (x.drop i) h := by unfold opsCode; rw [if_neg om]; exact hG
  exact ⟨by rw [hcode, drop_at b0, opsGo]; rw [if_pos (by unfold opBad; first | omega | (simp_all; done) | (simp_all; omega))]; rfl, p0⟩
 refine pu1 <| gY ?_
 refine sL c0 0 0 (I a0.code) (isAgg3 _) ?_
 refine pu3 ?_
 refine sD 34 (a0.code > 11) (fun q0 => ?_) (fun q0 => ?_)
 ·refine pu15 <| zC <| pu1 <| zE <| tR <| tK <| tR <| tK <| retT [I 1] ?_
  have r0 := (c0.dropAt 0 rfl)
  have hcode : opsCode x two = opsGo two (x.drop i) h := by unfold opsCode; rw [if_neg om]; exact hG
  exact ⟨by rw [hcode, drop_at b0, opsGo]; rw [if_pos (by unfold opBad; first | omega | (simp_all; done) | (simp_all; omega))]; rfl, r0⟩
 refine pu1 <| gY ?_
 refine sL c0 0 0 (I a0.code) (isAgg3 _) ?_
 refine pu2 ?_
 refine sE 38 a0.code 1 (fun s0 => ?_) (fun s0 => ?_)
 rotate_left
 ·refine pu6 <| gY ?_
  refine sL c0 0 0 (I a0.code) (isAgg3 _) ?_
  refine gY ?_
  refine cR call206 (r14_takes a0.code c0.flat) ?_
  intro _ e0
  have o1 : 0 <= (takesV a0.code) /\ (takesV a0.code) <= 2 := takesV_bd _
  refine pu3 <| nT ?_
  refine cD ((takesV a0.code) > h) (fun t0 => ?_) (fun t0 => ?_)
  ·refine sR <| pu1 <| zE <| tR <| tK <| tR <| tK <| retT [I 1] ?_
   have u0 := (e0.dropAt 0 rfl)
   have hcode : opsCode x two = opsGo two (x.drop i) h := by unfold opsCode; rw [if_neg om]; exact hG
   exact ⟨by rw [hcode, drop_at b0, opsGo]; rw [if_pos (by unfold opBad; first | omega | (simp_all; done) | (simp_all; omega))]; rfl, u0⟩
  refine kT <| seqE <| sR ?_
  refine lA e0 0 0 2 (isAgg75 _) (sizeOf75 _) ?_
  refine cR call221 (r14_argument a0 e0.flat) ?_
  intro _ f0
  refine pu1 <| nT ?_
  refine cDn (argP a0) (fun v0 => ?_) (fun v0 => ?_)
  rotate_left
  ·refine sR <| pu1 <| zE <| tR <| tK <| tR <| tK <| retT [I 10] ?_
   have w0 := (f0.dropAt 0 rfl)
   have hcode : opsCode x two = opsGo two (x.drop i) h := by unfold opsCode; rw [if_neg om]; exact hG
   exact ⟨by rw [hcode, drop_at b0, opsGo]; rw [if_neg (by unfold opBad; first | omega | (simp_all; done) | (simp_all; omega)), if_neg ‹_›]; rfl, w0⟩
  refine kT <| rE <| pu2 ?_
  refine sL f0 0 0 (I a0.code) (isAgg3 _) ?_
  refine cR call206 (r14_takes a0.code f0.flat) ?_
  intro _ x0
  have r1 : 0 <= (takesV a0.code) /\ (takesV a0.code) <= 2 := takesV_bd _
  refine sSub 1 (takesV a0.code) ?_
  refine sAdd h (1 - (takesV a0.code)) ?_
  refine pu1 <| nB <| rE <| pu1 ?_
  refine sAdd (i : Int) 1 ?_
  refine pu1 <| nT ?_
  exact ⟨(i + 1, (h + (1 - (takesV a0.code)))), od, alA, (x0.dropAt 0 rfl), om, by rw [hG, drop_at b0, opsGo, if_neg (by unfold opBad; first | omega | (simp_all; done) | (simp_all; omega)), if_pos ‹_›], om⟩
 refine pu5 ?_
 refine sBn 43 two (fun z0 => ?_) (fun z0 => ?_)
 rotate_left
 ·refine pu6 <| zC <| pu1 <| zE <| tR <| tK <| tR <| tK <| retT [I 1] ?_
  have a1 := (c0.dropAt 0 rfl)
  have hcode : opsCode x two = opsGo two (x.drop i) h := by unfold opsCode; rw [if_neg om]; exact hG
  exact ⟨by rw [hcode, drop_at b0, opsGo]; rw [if_pos (by unfold opBad; first | omega | (simp_all; done) | (simp_all; omega))]; rfl, a1⟩
 refine pu1 <| gY ?_
 refine sL c0 0 0 (I a0.code) (isAgg3 _) ?_
 refine gY ?_
 refine cR call206 (r14_takes a0.code c0.flat) ?_
 intro _ g0
 have t1 : 0 <= (takesV a0.code) /\ (takesV a0.code) <= 2 := takesV_bd _
 refine pu3 <| nT ?_
 refine cD ((takesV a0.code) > h) (fun b1 => ?_) (fun b1 => ?_)
 ·refine sR <| pu1 <| zE <| tR <| tK <| tR <| tK <| retT [I 1] ?_
  have c1 := (g0.dropAt 0 rfl)
  have hcode : opsCode x two = opsGo two (x.drop i) h := by unfold opsCode; rw [if_neg om]; exact hG
  exact ⟨by rw [hcode, drop_at b0, opsGo]; rw [if_pos (by unfold opBad; first | omega | (simp_all; done) | (simp_all; omega))]; rfl, c1⟩
 refine kT <| seqE <| sR ?_
 refine lA g0 0 0 2 (isAgg75 _) (sizeOf75 _) ?_
 refine cR call221 (r14_argument a0 g0.flat) ?_
 intro _ h0
 refine pu1 <| nT ?_
 refine cDn (argP a0) (fun d1 => ?_) (fun d1 => ?_)
 rotate_left
 ·refine sR <| pu1 <| zE <| tR <| tK <| tR <| tK <| retT [I 10] ?_
  have e1 := (h0.dropAt 0 rfl)
  have hcode : opsCode x two = opsGo two (x.drop i) h := by unfold opsCode; rw [if_neg om]; exact hG
  exact ⟨by rw [hcode, drop_at b0, opsGo]; rw [if_neg (by unfold opBad; first | omega | (simp_all; done) | (simp_all; omega)), if_neg ‹_›]; rfl, e1⟩
 refine kT <| rE <| pu2 ?_
 refine sL h0 0 0 (I a0.code) (isAgg3 _) ?_
 refine cR call206 (r14_takes a0.code h0.flat) ?_
 intro _ f1
 have w1 : 0 <= (takesV a0.code) /\ (takesV a0.code) <= 2 := takesV_bd _
 refine sSub 1 (takesV a0.code) ?_
 refine sAdd h (1 - (takesV a0.code)) ?_
 refine pu1 <| nB <| rE <| pu1 ?_
 refine sAdd (i : Int) 1 ?_
 refine pu1 <| nT ?_
 exact ⟨(i + 1, (h + (1 - (takesV a0.code)))), od, alA, (f1.dropAt 0 rfl), om, by rw [hG, drop_at b0, opsGo, if_neg (by unfold opBad; first | omega | (simp_all; done) | (simp_all; omega)), if_pos ‹_›], om⟩
def timesOK (a b:Int):Bool:=decide (-17592186044416<=a*b/\a*b<=17592186044416)
def timesV (a b:Int):Int:=if timesOK a b=true then a*b else 0
theorem times_t {a b x y:Int} (hx:x=a\/x=-a) (hy:y=b\/y=-b) (hx0:0<=x) (hy0:0<=y) (h:y=0\/(0<y/\x<=(17592186044416:Int).tdiv y)):timesOK a b=true/\timesV a b=a*b/\-17592186044416<=a*b/\a*b<=17592186044416:=by
  have h1:=mul_le_of hx0 hy0 (l:=17592186044416) (by omega) h
  have h2:=abs_mul_le hx hy hx0 hy0 h1.2
  have h3:timesOK a b=true:=decide_eq_true h2
  exact ⟨h3,by unfold timesV;rw [if_pos h3],h2⟩
theorem times_f {a b x y:Int} (hx:x=a\/x=-a) (hy:y=b\/y=-b) (h:0<y/\(17592186044416:Int).tdiv y<x):timesOK a b=false/\timesV a b=0:=by
  have h1:=mul_gt_of (l:=17592186044416) (by omega) h.1 h.2
  have h3:timesOK a b=false:=decide_eq_false (abs_mul_gt hx hy h1)
  exact ⟨h3,by unfold timesV;rw [h3];rfl⟩
def accS (x:Sp):Prop:=(-17592186044416<=x.lo/\x.lo<=17592186044416)/\-17592186044416<=x.hi/\x.hi<=17592186044416
def prodLo (x y:Sp):Int:=min (min (min (timesV x.lo y.lo) (timesV x.lo y.hi)) (timesV x.hi y.lo)) (timesV x.hi y.hi)
def prodHi (x y:Sp):Int:=max (max (max (timesV x.lo y.lo) (timesV x.lo y.hi)) (timesV x.hi y.lo)) (timesV x.hi y.hi)
def prodOK (x y:Sp):Bool:=timesOK x.lo y.lo&&timesOK x.lo y.hi&&timesOK x.hi y.lo&&timesOK x.hi y.hi
theorem r14_times (a:Int) (b:Int) (ha:-17592186044416<=a/\a<=17592186044416) (hb:-17592186044416<=b/\b<=17592186044416) (hS:Sat W w (H::F)):
  Ro prog 223 #[I a,I b] (.tuple #[I (timesV a b), .bool (timesOK a b)]) W w (H::F):=by
 refine callsA 29 func223 rfl<|sR<|pu2<|zS<|pu4<|zQ<|pu2<|nT<|cD (a<0) (fun a0=>?_) (fun a0=>?_)
 rotate_left
 ·refine kT<|seqE<|sR<|pu2<|nT<|cD (b<0) (fun b0=>?_) (fun b0=>?_)
  rotate_left
  ·refine kT<|seqE<|sR<|pu3<|sD 20 (b>0) (fun c0=>?_) (fun c0=>?_)
   rotate_left
   ·refine pu5<|nT<|cFf<|kT<|seqE ?_
    have ht:=times_t (a:=a) (b:=b) (x:=a) (y:=b) om om om om om
    exact rE<|pu2<|sMul a b<|pu2<|zE<|retT [I (a*b), .bool true]<|⟨by rw [ht.1,ht.2.1];rfl,hS⟩
   refine pu2<|gY<|sQuo 17592186044416 b<|pu2<|nT<|cD (a>((17592186044416:Int).tdiv b)) (fun d0=>?_) (fun d0=>?_)
   ·refine sR<|pu2<|zR<|retT [I 0, .bool false] ?_
    have ht:=times_f (a:=a) (b:=b) (x:=a) (y:=b) om om om
    exact ⟨by rw [ht.1,ht.2];rfl,hS⟩
   refine kT<|seqE ?_
   have ht:=times_t (a:=a) (b:=b) (x:=a) (y:=b) om om om om om
   exact rE<|pu2<|sMul a b<|pu2<|zE<|retT [I (a*b), .bool true]<|⟨by rw [ht.1,ht.2.1];rfl,hS⟩
  refine rE<|pu1<|stepY (I (-b)) rfl rfl (Y_neg b rfl kr)<|pu1<|zQ<|pu3<|sD 20 ((-b)>0) (fun e0=>?_) (fun e0=>?_)
  rotate_left
  ·refine pu5<|nT<|cFf<|kT<|seqE ?_
   have ht:=times_t (a:=a) (b:=b) (x:=a) (y:=(-b)) om om om om om
   exact rE<|pu2<|sMul a b<|pu2<|zE<|retT [I (a*b), .bool true]<|⟨by rw [ht.1,ht.2.1];rfl,hS⟩
  refine pu2<|gY<|sQuo 17592186044416 (-b)<|pu2<|nT<|cD (a>((17592186044416:Int).tdiv (-b))) (fun f0=>?_) (fun f0=>?_)
  ·refine sR<|pu2<|zR<|retT [I 0, .bool false] ?_
   have ht:=times_f (a:=a) (b:=b) (x:=a) (y:=(-b)) om om om
   exact ⟨by rw [ht.1,ht.2];rfl,hS⟩
  refine kT<|seqE ?_
  have ht:=times_t (a:=a) (b:=b) (x:=a) (y:=(-b)) om om om om om
  exact rE<|pu2<|sMul a b<|pu2<|zE<|retT [I (a*b), .bool true]<|⟨by rw [ht.1,ht.2.1];rfl,hS⟩
 refine rE<|pu1<|stepY (I (-a)) rfl rfl (Y_neg a rfl kr)<|pu1<|zQ<|pu2<|nT<|cD (b<0) (fun g0=>?_) (fun g0=>?_)
 rotate_left
 ·refine kT<|seqE<|sR<|pu3<|sD 20 (b>0) (fun h0=>?_) (fun h0=>?_)
  rotate_left
  ·refine pu5<|nT<|cFf<|kT<|seqE ?_
   have ht:=times_t (a:=a) (b:=b) (x:=(-a)) (y:=b) om om om om om
   exact rE<|pu2<|sMul a b<|pu2<|zE<|retT [I (a*b), .bool true]<|⟨by rw [ht.1,ht.2.1];rfl,hS⟩
  refine pu2<|gY<|sQuo 17592186044416 b<|pu2<|nT<|cD ((-a)>((17592186044416:Int).tdiv b)) (fun i0=>?_) (fun i0=>?_)
  ·refine sR<|pu2<|zR<|retT [I 0, .bool false] ?_
   have ht:=times_f (a:=a) (b:=b) (x:=(-a)) (y:=b) om om om
   exact ⟨by rw [ht.1,ht.2];rfl,hS⟩
  refine kT<|seqE ?_
  have ht:=times_t (a:=a) (b:=b) (x:=(-a)) (y:=b) om om om om om
  exact rE<|pu2<|sMul a b<|pu2<|zE<|retT [I (a*b), .bool true]<|⟨by rw [ht.1,ht.2.1];rfl,hS⟩
 refine rE<|pu1<|stepY (I (-b)) rfl rfl (Y_neg b rfl kr)<|pu1<|zQ<|pu3<|sD 20 ((-b)>0) (fun j0=>?_) (fun j0=>?_)
 rotate_left
 ·refine pu5<|nT<|cFf<|kT<|seqE ?_
  have ht:=times_t (a:=a) (b:=b) (x:=(-a)) (y:=(-b)) om om om om om
  exact rE<|pu2<|sMul a b<|pu2<|zE<|retT [I (a*b), .bool true]<|⟨by rw [ht.1,ht.2.1];rfl,hS⟩
 refine pu2<|gY<|sQuo 17592186044416 (-b)<|pu2<|nT<|cD ((-a)>((17592186044416:Int).tdiv (-b))) (fun k0=>?_) (fun k0=>?_)
 ·refine sR<|pu2<|zR<|retT [I 0, .bool false] ?_
  have ht:=times_f (a:=a) (b:=b) (x:=(-a)) (y:=(-b)) om om om
  exact ⟨by rw [ht.1,ht.2];rfl,hS⟩
 refine kT<|seqE ?_
 have ht:=times_t (a:=a) (b:=b) (x:=(-a)) (y:=(-b)) om om om om om
 exact rE<|pu2<|sMul a b<|pu2<|zE<|retT [I (a*b), .bool true]<|⟨by rw [ht.1,ht.2.1];rfl,hS⟩
theorem r14_abs (a:Int) (ha:-9223372036854775807<=a/\a<=9223372036854775807) (hS:Sat W w (H::F)):
  Ro prog 224 #[I a] (I (a.natAbs:Int)) W w (H::F):=by
 refine callsA 8 func224 rfl<|sR<|pu1<|zQ<|pu2<|nT<|cD (a<0) (fun a0=>?_) (fun a0=>?_)
 rotate_left
 ·exact kS<|pu2<|zE<|retT [I a]<|⟨congrArg (fun c=>Ending.returned (I c)) om,hS⟩
 exact sR<|pu1<|stepY (I (-a)) rfl rfl (Y_neg a rfl kr)<|pu1<|zR<|retT [I (-a)]<|⟨congrArg (fun c=>Ending.returned (I c)) om,hS⟩
theorem r14_product (x : Sp) (y : Sp) (hx : accS x) (hy : accS y) (hS : Sat W w (H :: F)) :
  Ro prog 226 #[.agg #[I x.lo, I x.hi], .agg #[I y.lo, I y.hi]] (.tuple #[.agg #[I (prodLo x y), I (prodHi x y)], .bool (prodOK x y)]) W w (H :: F) := by
 have hx1 := hx.1; have hx2 := hx.2; have hy1 := hy.1; have hy2 := hy.2
 refine callsA 67 func226 rfl <| sR <| sBox hS (.agg #[I x.lo, I x.hi]) #[I x.lo, I x.hi] fun _ _ j0 => sBox j0 (.agg #[I y.lo, I y.hi]) #[I y.lo, I y.hi] fun _ _ k0 => sAlloc k0 zeroValue200 fun _ _ b0 => pu1 <| zS <| pu1 <| sL b0 2 0 (I x.lo) (isAgg3 _) <| pu1 <| sL b0 1 0 (I y.lo) (isAgg3 _) <| cR call223 (r14_times x.lo y.lo (od) (od) b0.flat) fun _ c0 => pu5 <| zS <| pu1 <| sL c0 2 0 (I x.lo) (isAgg3 _) <| pu1 <| sL c0 1 1 (I y.hi) (isAgg3 _) <| cR call223 (r14_times x.lo y.hi (od) (od) c0.flat) fun _ d0 => pu5 <| zS <| pu1 <| sL d0 2 1 (I x.hi) (isAgg3 _) <| pu1 <| sL d0 1 0 (I y.lo) (isAgg3 _) <| cR call223 (r14_times x.hi y.lo (od) (od) d0.flat) fun _ e0 => ?_
 refine pu5 <| zS <| pu1 <| sL e0 2 1 (I x.hi) (isAgg3 _) <| pu1 <| sL e0 1 1 (I y.hi) (isAgg3 _) <| cR call223 (r14_times x.hi y.hi (od) (od) e0.flat) fun _ a0 => pu5 <| zS <| pu4 <| stepY (I (min (min (min (timesV x.lo y.lo) (timesV x.lo y.hi)) (timesV x.hi y.lo)) (timesV x.hi y.hi))) rfl rfl (Y_min4 (timesV x.lo y.lo) (timesV x.lo y.hi) (timesV x.hi y.lo) (timesV x.hi y.hi) rfl rfl kr kr kr kr) <| pu4 <| stepY (I (max (max (max (timesV x.lo y.lo) (timesV x.lo y.hi)) (timesV x.hi y.lo)) (timesV x.hi y.hi))) rfl rfl (Y_max4 (timesV x.lo y.lo) (timesV x.lo y.hi) (timesV x.hi y.lo) (timesV x.hi y.hi) rfl rfl kr kr kr kr) <| pu3 ?_
 refine sB 58 (timesOK x.lo y.lo) (fun l0 => ?_) (fun l0 => ?_)
 rotate_left
 ·refine pu8 <| sTl a0 0 [I (min (min (min (timesV x.lo y.lo) (timesV x.lo y.hi)) (timesV x.hi y.lo)) (timesV x.hi y.hi)), I (max (max (max (timesV x.lo y.lo) (timesV x.lo y.hi)) (timesV x.hi y.lo)) (timesV x.hi y.hi))] sizeOf200 fun _ f0 => pu1 <| zE <| retC f0 0 [I (min (min (min (timesV x.lo y.lo) (timesV x.lo y.hi)) (timesV x.hi y.lo)) (timesV x.hi y.hi)), I (max (max (max (timesV x.lo y.lo) (timesV x.lo y.hi)) (timesV x.hi y.lo)) (timesV x.hi y.hi))] (.bool false) (isAgg200 _) (sizeOf200 _) ?_
  have m0 := (f0.drops [0, 0, 0])
  have hOK : prodOK x y = false := by simp [prodOK, *]
  exact ⟨by rw [hOK]; rfl, m0⟩
 refine pu3 <| sB 61 (timesOK x.lo y.hi) (fun n0 => ?_) (fun n0 => ?_)
 rotate_left
 ·refine pu5 <| sTl a0 0 [I (min (min (min (timesV x.lo y.lo) (timesV x.lo y.hi)) (timesV x.hi y.lo)) (timesV x.hi y.hi)), I (max (max (max (timesV x.lo y.lo) (timesV x.lo y.hi)) (timesV x.hi y.lo)) (timesV x.hi y.hi))] sizeOf200 fun _ g0 => pu1 <| zE <| retC g0 0 [I (min (min (min (timesV x.lo y.lo) (timesV x.lo y.hi)) (timesV x.hi y.lo)) (timesV x.hi y.hi)), I (max (max (max (timesV x.lo y.lo) (timesV x.lo y.hi)) (timesV x.hi y.lo)) (timesV x.hi y.hi))] (.bool false) (isAgg200 _) (sizeOf200 _) ?_
  have o0 := (g0.drops [0, 0, 0])
  have hOK : prodOK x y = false := by simp [prodOK, *]
  exact ⟨by rw [hOK]; rfl, o0⟩
 refine pu3 <| sB 64 (timesOK x.hi y.lo) (fun p0 => ?_) (fun p0 => ?_)
 rotate_left
 ·refine pu2 <| sTl a0 0 [I (min (min (min (timesV x.lo y.lo) (timesV x.lo y.hi)) (timesV x.hi y.lo)) (timesV x.hi y.hi)), I (max (max (max (timesV x.lo y.lo) (timesV x.lo y.hi)) (timesV x.hi y.lo)) (timesV x.hi y.hi))] sizeOf200 fun _ h0 => pu1 <| zE <| retC h0 0 [I (min (min (min (timesV x.lo y.lo) (timesV x.lo y.hi)) (timesV x.hi y.lo)) (timesV x.hi y.hi)), I (max (max (max (timesV x.lo y.lo) (timesV x.lo y.hi)) (timesV x.hi y.lo)) (timesV x.hi y.hi))] (.bool false) (isAgg200 _) (sizeOf200 _) ?_
  have q0 := (h0.drops [0, 0, 0])
  have hOK : prodOK x y = false := by simp [prodOK, *]
  exact ⟨by rw [hOK]; rfl, q0⟩
 refine pu2 <| sTl a0 0 [I (min (min (min (timesV x.lo y.lo) (timesV x.lo y.hi)) (timesV x.hi y.lo)) (timesV x.hi y.hi)), I (max (max (max (timesV x.lo y.lo) (timesV x.lo y.hi)) (timesV x.hi y.lo)) (timesV x.hi y.hi))] sizeOf200 fun _ i0 => pu1 <| zE <| retC i0 0 [I (min (min (min (timesV x.lo y.lo) (timesV x.lo y.hi)) (timesV x.hi y.lo)) (timesV x.hi y.hi)), I (max (max (max (timesV x.lo y.lo) (timesV x.lo y.hi)) (timesV x.hi y.lo)) (timesV x.hi y.hi))] (.bool (timesOK x.hi y.hi)) (isAgg200 _) (sizeOf200 _) ?_
 have r0 := (i0.drops [0, 0, 0])
 have hOK : prodOK x y = (timesOK x.hi y.hi) := by simp [prodOK, *]
 exact ⟨by rw [hOK]; rfl, r0⟩
def nextV (o:POp) (x y:Sp) (a b:Int):Sp:=
  if o.code=0 then ⟨0,a⟩ else if o.code=1 then ⟨0,b⟩ else if o.code=2 then ⟨o.arg,o.arg⟩ else if o.code=3 then ⟨x.lo+y.lo,x.hi+y.hi⟩ else if o.code=4 then ⟨x.lo-y.hi,x.hi-y.lo⟩
  else if o.code=5 then ⟨prodLo x y,prodHi x y⟩ else if o.code=6 then ⟨min x.lo y.lo,min x.hi y.hi⟩ else if o.code=7 then ⟨max x.lo y.lo,max x.hi y.hi⟩ else if o.code=8 then ⟨0,max (x.hi-y.lo) (y.hi-x.lo)⟩
  else if o.code=9 then ⟨-(max (x.lo.natAbs:Int) x.hi.natAbs),max (x.lo.natAbs:Int) x.hi.natAbs⟩ else if o.code=10 then ⟨shiftV x.lo o.arg,shiftV x.hi o.arg⟩ else ⟨0,max (x.lo.natAbs:Int) x.hi.natAbs⟩
def nextB (o:POp) (x y:Sp):Bool:=if o.code=5 then prodOK x y else true
def nextOK (o:POp) (x y:Sp) (a b:Int):Prop:=nextB o x y=true/\(-17592186044416<=(nextV o x y a b).lo/\(nextV o x y a b).lo<=17592186044416)/\-17592186044416<=(nextV o x y a b).hi/\(nextV o x y a b).hi<=17592186044416
instance (o:POp) (x y:Sp) (a b:Int):Decidable (nextOK o x y a b):=by unfold nextOK;infer_instance
theorem r14_next (o:POp) (x:Sp) (y:Sp) (a:Int) (b:Int) (hx:accS x) (hy:accS y) (hab:(1<=a/\a<=4294967296)/\1<=b/\b<=4294967296) (ho:argP o) (hS:Sat W w (H::F)):
  Ro prog 222 #[.agg #[I o.code,I o.arg], .agg #[I x.lo,I x.hi], .agg #[I y.lo,I y.hi],I a,I b] (.tuple #[.agg #[I ((nextV o x y a b).lo),I ((nextV o x y a b).hi)], .bool (decide (nextOK o x y a b))]) W w (H::F):=by
 have hx1:=hx.1;have hx2:=hx.2;have hy1:=hy.1;have hy2:=hy.2
 refine callsA 148 func222 rfl<|sR<|sBox hS (.agg #[I o.code,I o.arg]) #[I o.code,I o.arg] fun p0 _ q0=>sBox q0 (.agg #[I x.lo,I x.hi]) #[I x.lo,I x.hi] fun f0 _ r0=>sBox r0 (.agg #[I y.lo,I y.hi]) #[I y.lo,I y.hi] fun s0 _ t0=>sAlloc t0 zeroValue200 fun k0 _ g0=>pu1<|nT<|seqE<|drawE [2,5] [(1,⟨f0,0,none⟩,I x.lo),(4,⟨f0,1,none⟩,I x.hi)] [(true,[0,3]),(true,[1]),(true,[4]),(false,[2]),(false,[5]),(true,[6]),(true,[7])] rfl kr ⟨cI g0 2,cI g0 2,trivial⟩ ?_
 have u0:=g0.drew
 refine wU [0,3]<|wLd (I x.lo) 0 isAgg3<|wLd (I x.hi) 1 isAgg3<|wO rfl<|cR call224 (r14_abs x.lo (od) u0.flat) fun _ l0=>nilO ⟨⟨dI,cI l0 2,trivial⟩,?_⟩
 refine wO rfl<|cR call224 (r14_abs x.hi (od) l0.flat) fun _ v0=>nilO ⟨dA,?_⟩
 refine wY (I (max (x.lo.natAbs:Int) (x.hi.natAbs:Int))) rfl (fun w _=>Y_max2 (x.lo.natAbs:Int) (x.hi.natAbs:Int) rfl rfl kr kr)<|wU [7]<|wN<|tN<|sR<|pu1<|sAlloc v0 zeroValue200 fun c0 _ w0=>sTl w0 0 [I 0,I 0] sizeOf200 fun _ a0=>pu1<|nT ?_
 refine cutA (γ:=Int×Int×Bool) (fun ⟨vlo,vhi,vb⟩=>[(10,Pt k0 0),(13,Pt c0 0),(14, .bool vb)]) (fun ⟨vlo,vhi,vb⟩ w=>Sat W w ([(c0, .cells #[I vlo,I vhi] 200 (0,0))]::[(k0, .cells #[I 0,I 0] 200 (0,0))]::[(s0, .cells #[I y.lo,I y.hi] 200 (0,0))]::[(f0, .cells #[I x.lo,I x.hi] 200 (0,0))]::[(p0, .cells #[I o.code,I o.arg] 75 (0,0))]::H::F)/\(nextV o x y a b=⟨vlo,vhi⟩)/\(nextB o x y=vb)) ?_ ?_
 rotate_left
 ·rintro ⟨vlo,vhi,vb⟩ ρ _ ⟨d0,hv,hvb⟩
  refine seqE ?_
  rcases Classical.em (vb=true) with h0|h0
  rotate_left
  ·refine drawE [5,10,12] [(0,⟨c0,0,none⟩,I vlo),(0,⟨c0,1,none⟩,I vhi)] [(true,[1,2]),(true,[3]),(true,[0]),(true,[4]),(false,[5]),(true,[6,7,8,9]),(false,[10]),(true,[11]),(false,[12]),(true,[13])] rfl kr ⟨cI d0 0,cI d0 0,trivial⟩ ?_
   have e0:=d0.drew
   refine wU [1,2]<|wFix 138 _ false (Bool.eq_false_iff.2 h0)<|wU [3]<|wY (.agg #[I vlo,I vhi]) rfl (fun w hF=>Y_loadF rfl (isAgg200 w) (sizeOf200 w) kr rfl ⟨hF 0 _ _ rfl,hF 1 _ _ rfl,trivial⟩)<|wU [4]<|wO rfl<|pu1<|nilO ⟨⟨cI e0 0,cI e0 0,trivial⟩,?_⟩
   refine wU [6,7,8,9]<|wO rfl<|pu1<|nilO ⟨⟨cI e0 0,cI e0 0,trivial⟩,?_⟩
   refine wU [11]<|wO rfl<|sTl e0 1 [I vlo,I vhi] sizeOf200 fun _ m0=>nilO ⟨dA,?_⟩
   refine wU [13]<|wN<|tN<|retE<|retC m0 1 [I vlo,I vhi] (.bool false) (isAgg200 _) (sizeOf200 _) ?_
   have x0:=(m0.drops [0,0,0,0,0])
   have hiff:nextOK o x y a b↔(vb=true/\(-17592186044416<=vlo/\vlo<=17592186044416)/\-17592186044416<=vhi/\vhi<=17592186044416):=by unfold nextOK;rw [hv,hvb]
   have hOK:decide (nextOK o x y a b)=false:=decide_eq_false (fun h=>by obtain ⟨h3,h4,h5⟩:=hiff.1 h;first|contradiction|omega)
   exact ⟨by rw [hOK,hv];rfl,x0⟩
  refine drawE [5,9,10,12] [(0,⟨c0,0,none⟩,I vlo),(0,⟨c0,1,none⟩,I vhi),(4,⟨c0,0,none⟩,I vlo)] [(true,[1,2]),(true,[3]),(true,[0]),(true,[4]),(false,[5]),(true,[6,7]),(true,[8]),(false,[9]),(false,[10]),(true,[11]),(false,[12]),(true,[13])] rfl kr ⟨cI d0 0,cI d0 0,cI d0 0,trivial⟩ ?_
  have y0:=d0.drew
  refine wU [1,2]<|wFix 138 _ true h0<|wU [3]<|wY (.agg #[I vlo,I vhi]) rfl (fun w hF=>Y_loadF rfl (isAgg200 w) (sizeOf200 w) kr rfl ⟨hF 0 _ _ rfl,hF 1 _ _ rfl,trivial⟩)<|wLd (I vlo) 2 isAgg3<|wO rfl<|gY<|cR call205 (r7_acc vlo y0.flat) fun _ b0=>nilO ⟨⟨cI b0 0,cI b0 0,dI,trivial⟩,?_⟩
  refine wU [6,7] ?_
  rcases Classical.em ((-17592186044416:Int)<=vlo/\vlo<=(17592186044416:Int)) with i0|i0
  rotate_left
  ·refine wFix 143 _ false (decide_eq_false i0)<|wU [8]<|wO rfl<|pu1<|nilO ⟨⟨cI b0 0,cI b0 0,dI,trivial⟩,?_⟩
   refine wO rfl<|pu1<|nilO ⟨⟨cI b0 0,cI b0 0,dI,trivial⟩,?_⟩
   refine wU [11]<|wO rfl<|sTl b0 1 [I vlo,I vhi] sizeOf200 fun _ n0=>nilO ⟨dA,?_⟩
   refine wU [13]<|wN<|tN<|retE<|retC n0 1 [I vlo,I vhi] (.bool false) (isAgg200 _) (sizeOf200 _) ?_
   have z0:=(n0.drops [0,0,0,0,0])
   have hiff:nextOK o x y a b↔(vb=true/\(-17592186044416<=vlo/\vlo<=17592186044416)/\-17592186044416<=vhi/\vhi<=17592186044416):=by unfold nextOK;rw [hv,hvb]
   have hOK:decide (nextOK o x y a b)=false:=decide_eq_false (fun h=>by obtain ⟨h3,h4,h5⟩:=hiff.1 h;first|contradiction|omega)
   exact ⟨by rw [hOK,hv];rfl,z0⟩
  refine wFix 143 _ true (decide_eq_true i0)<|wU [8]<|wO rfl<|gY<|sL b0 0 1 (I vhi) (isAgg3 _)<|nilO ⟨⟨cI b0 0,cI b0 0,dI,trivial⟩,?_⟩
  refine wO rfl<|gY<|cR call205 (r7_acc vhi b0.flat) fun _ j0=>nilO ⟨⟨cI j0 0,cI j0 0,dI,trivial⟩,?_⟩
  refine wU [11]<|wO rfl<|sTl j0 1 [I vlo,I vhi] sizeOf200 fun _ o0=>nilO ⟨dA,?_⟩
  refine wU [13]<|wN<|tN<|retE<|retC o0 1 [I vlo,I vhi] (.bool (decide ((-17592186044416:Int)<=vhi/\vhi<=(17592186044416:Int)))) (isAgg200 _) (sizeOf200 _) ?_
  have a1:=(o0.drops [0,0,0,0,0])
  have hiff:nextOK o x y a b↔(vb=true/\(-17592186044416<=vlo/\vlo<=17592186044416)/\-17592186044416<=vhi/\vhi<=17592186044416):=by unfold nextOK;rw [hv,hvb]
  have hOK:decide (nextOK o x y a b)=decide ((-17592186044416:Int)<=vhi/\vhi<=(17592186044416:Int)):=decide_eq_decide.2 (hiff.trans ⟨fun h=>h.2.2,fun h=>⟨by assumption,om,h⟩⟩)
  exact ⟨by rw [hOK,hv];rfl,a1⟩
 refine sR<|pu1<|sL a0 4 0 (I o.code) (isAgg3 _)<|nT<|blockE<|sR<|pu2<|nT<|cE o.code 0 (fun b1=>?_) (fun b1=>?_)
 ·exact rE<|pu2<|sTl a0 0 [I 0,I a] sizeOf200 fun _ c1=>nB<|⟨(0,a,true),alA,c1,(by unfold nextV;rw [if_pos om]<;>rfl),(by unfold nextB;rw [if_neg om])⟩
 refine sR<|pu2<|nT<|cE o.code 1 (fun d1=>?_) (fun d1=>?_)
 ·exact rE<|pu2<|sTl a0 0 [I 0,I b] sizeOf200 fun _ e1=>nB<|⟨(0,b,true),alA,e1,(by unfold nextV;rw [if_neg om,if_pos om]<;>rfl),(by unfold nextB;rw [if_neg om])⟩
 refine sR<|pu2<|nT<|cE o.code 2 (fun f1=>?_) (fun f1=>?_)
 ·exact rE<|pu1<|sL a0 4 1 (I o.arg) (isAgg3 _)<|pu1<|sL a0 4 1 (I o.arg) (isAgg3 _)<|pu1<|sTl a0 0 [I o.arg,I o.arg] sizeOf200 fun _ g1=>nB<|⟨(o.arg,o.arg,true),alA,g1,(by unfold nextV;rw [if_neg om,if_neg om,if_pos om]<;>rfl),(by unfold nextB;rw [if_neg om])⟩
 refine sR<|pu2<|nT<|cE o.code 3 (fun h1=>?_) (fun h1=>?_)
 ·exact rE<|pu1<|sL a0 3 0 (I x.lo) (isAgg3 _)<|pu1<|sL a0 2 0 (I y.lo) (isAgg3 _)<|sAdd x.lo y.lo<|pu1<|sL a0 3 1 (I x.hi) (isAgg3 _)<|pu1<|sL a0 2 1 (I y.hi) (isAgg3 _)<|sAdd x.hi y.hi<|pu1<|sTl a0 0 [I (x.lo+y.lo),I (x.hi+y.hi)] sizeOf200 fun _ i1=>nB<|⟨((x.lo+y.lo),(x.hi+y.hi),true),alA,i1,(by unfold nextV;rw [if_neg om,if_neg om,if_neg om,if_pos om]<;>rfl),(by unfold nextB;rw [if_neg om])⟩
 refine sR<|pu2<|nT<|cE o.code 4 (fun j1=>?_) (fun j1=>?_)
 ·exact rE<|pu1<|sL a0 3 0 (I x.lo) (isAgg3 _)<|pu1<|sL a0 2 1 (I y.hi) (isAgg3 _)<|sSub x.lo y.hi<|pu1<|sL a0 3 1 (I x.hi) (isAgg3 _)<|pu1<|sL a0 2 0 (I y.lo) (isAgg3 _)<|sSub x.hi y.lo<|pu1<|sTl a0 0 [I (x.lo-y.hi),I (x.hi-y.lo)] sizeOf200 fun _ k1=>nB<|⟨((x.lo-y.hi),(x.hi-y.lo),true),alA,k1,(by unfold nextV;rw [if_neg om,if_neg om,if_neg om,if_neg om,if_pos om]<;>rfl),(by unfold nextB;rw [if_neg om])⟩
 refine sR<|pu2<|nT<|cE o.code 5 (fun l1=>?_) (fun l1=>?_)
 ·exact rE<|lA a0 3 0 2 (isAgg200 _) (sizeOf200 _)<|lA a0 2 0 2 (isAgg200 _) (sizeOf200 _)<|cR call226 (r14_product x y (by unfold accS;first|assumption|omega) (by unfold accS;first|assumption|omega) a0.flat) fun _ m1=>pu3<|sTl m1 0 [I (prodLo x y),I (prodHi x y)] sizeOf200 fun _ n1=>pu1<|nB<|⟨((prodLo x y),(prodHi x y),(prodOK x y)),alA,n1,(by unfold nextV;rw [if_neg om,if_neg om,if_neg om,if_neg om,if_neg om,if_pos om]<;>rfl),(by unfold nextB;rw [if_pos om])⟩
 refine sR<|pu2<|nT<|cE o.code 6 (fun o1=>?_) (fun o1=>?_)
 ·exact rE<|pu1<|sL a0 3 0 (I x.lo) (isAgg3 _)<|pu1<|sL a0 2 0 (I y.lo) (isAgg3 _)<|stepY (I (min x.lo y.lo)) rfl rfl (Y_min2 x.lo y.lo rfl rfl kr kr)<|pu1<|sL a0 3 1 (I x.hi) (isAgg3 _)<|pu1<|sL a0 2 1 (I y.hi) (isAgg3 _)<|stepY (I (min x.hi y.hi)) rfl rfl (Y_min2 x.hi y.hi rfl rfl kr kr)<|pu1<|sTl a0 0 [I (min x.lo y.lo),I (min x.hi y.hi)] sizeOf200 fun _ p1=>nB<|⟨((min x.lo y.lo),(min x.hi y.hi),true),alA,p1,(by unfold nextV;rw [if_neg om,if_neg om,if_neg om,if_neg om,if_neg om,if_neg om,if_pos om]<;>rfl),(by unfold nextB;rw [if_neg om])⟩
 refine sR<|pu2<|nT<|cE o.code 7 (fun q1=>?_) (fun q1=>?_)
 ·exact rE<|pu1<|sL a0 3 0 (I x.lo) (isAgg3 _)<|pu1<|sL a0 2 0 (I y.lo) (isAgg3 _)<|stepY (I (max x.lo y.lo)) rfl rfl (Y_max2 x.lo y.lo rfl rfl kr kr)<|pu1<|sL a0 3 1 (I x.hi) (isAgg3 _)<|pu1<|sL a0 2 1 (I y.hi) (isAgg3 _)<|stepY (I (max x.hi y.hi)) rfl rfl (Y_max2 x.hi y.hi rfl rfl kr kr)<|pu1<|sTl a0 0 [I (max x.lo y.lo),I (max x.hi y.hi)] sizeOf200 fun _ r1=>nB<|⟨((max x.lo y.lo),(max x.hi y.hi),true),alA,r1,(by unfold nextV;rw [if_neg om,if_neg om,if_neg om,if_neg om,if_neg om,if_neg om,if_neg om,if_pos om]<;>rfl),(by unfold nextB;rw [if_neg om])⟩
 refine sR<|pu2<|nT<|cE o.code 8 (fun s1=>?_) (fun s1=>?_)
 ·exact rE<|pu1<|sL a0 3 1 (I x.hi) (isAgg3 _)<|pu1<|sL a0 2 0 (I y.lo) (isAgg3 _)<|sSub x.hi y.lo<|pu1<|sL a0 2 1 (I y.hi) (isAgg3 _)<|pu1<|sL a0 3 0 (I x.lo) (isAgg3 _)<|sSub y.hi x.lo<|stepY (I (max (x.hi-y.lo) (y.hi-x.lo))) rfl rfl (Y_max2 (x.hi-y.lo) (y.hi-x.lo) rfl rfl kr kr)<|pu1<|sTl a0 0 [I 0,I (max (x.hi-y.lo) (y.hi-x.lo))] sizeOf200 fun _ t1=>nB<|⟨(0,(max (x.hi-y.lo) (y.hi-x.lo)),true),alA,t1,(by unfold nextV;rw [if_neg om,if_neg om,if_neg om,if_neg om,if_neg om,if_neg om,if_neg om,if_neg om,if_pos om]<;>rfl),(by unfold nextB;rw [if_neg om])⟩
 refine sR<|pu2<|nT<|cE o.code 9 (fun u1=>?_) (fun u1=>?_)
 ·exact rE<|pu1<|stepY (I (-(max (x.lo.natAbs:Int) (x.hi.natAbs:Int)))) rfl rfl (Y_neg (max (x.lo.natAbs:Int) (x.hi.natAbs:Int)) rfl kr)<|pu2<|sTl a0 0 [I (-(max (x.lo.natAbs:Int) (x.hi.natAbs:Int))),I (max (x.lo.natAbs:Int) (x.hi.natAbs:Int))] sizeOf200 fun _ v1=>nB<|⟨((-(max (x.lo.natAbs:Int) (x.hi.natAbs:Int))),(max (x.lo.natAbs:Int) (x.hi.natAbs:Int)),true),alA,v1,(by unfold nextV;rw [if_neg om,if_neg om,if_neg om,if_neg om,if_neg om,if_neg om,if_neg om,if_neg om,if_neg om,if_pos om]<;>rfl),(by unfold nextB;rw [if_neg om])⟩
 refine sR<|pu2<|nT<|cE o.code 10 (fun w1=>?_) (fun w1=>?_)
 rotate_left
 ·exact rE<|pu2<|sTl a0 0 [I 0,I (max (x.lo.natAbs:Int) (x.hi.natAbs:Int))] sizeOf200 fun _ x1=>nB<|⟨(0,(max (x.lo.natAbs:Int) (x.hi.natAbs:Int)),true),alA,x1,(by unfold nextV;rw [if_neg om,if_neg om,if_neg om,if_neg om,if_neg om,if_neg om,if_neg om,if_neg om,if_neg om,if_neg om,if_neg om]<;>rfl),(by unfold nextB;rw [if_neg om])⟩
 exact rE<|pu1<|sL a0 3 0 (I x.lo) (isAgg3 _)<|pu1<|sL a0 3 1 (I x.hi) (isAgg3 _)<|pu1<|sL a0 4 1 (I o.arg) (isAgg3 _)<|cR call201 (r7_span x.lo x.hi o.arg a0.flat) fun _ y1=>pu4<|sT y1 0 0 (I (shiftV x.lo o.arg)) [I (shiftV x.lo o.arg)] #[I (shiftV x.lo o.arg),I 0] sizeOf3 fun _ z1=>pu1<|sT z1 0 1 (I (shiftV x.hi o.arg)) [I (shiftV x.hi o.arg)] #[I (shiftV x.lo o.arg),I (shiftV x.hi o.arg)] sizeOf3 fun _ a2=>nB<|⟨((shiftV x.lo o.arg),(shiftV x.hi o.arg),true),alA,a2,(by unfold nextV;rw [if_neg om,if_neg om,if_neg om,if_neg om,if_neg om,if_neg om,if_neg om,if_neg om,if_neg om,if_neg om,if_pos om]<;>rfl),(by unfold nextB;rw [if_neg om])⟩
theorem opsGo_zero {two:Bool} {o:POp} {l:List POp} {h:Int} (e:opsGo two (o::l) h=0):¬opBad two o h/\argP o/\opsGo two l (h+(1-takesV o.code))=0:=by
  unfold opsGo at e
  split at e
  · omega
  · split at e
    · exact ⟨by assumption,by assumption,e⟩
    · omega
theorem opsCode_go {l:List POp} {two:Bool} (h:opsCode l two=0):opsGo two l 0=0/\0<l.length/\l.length<=32:=by
  unfold opsCode at h
  split at h
  · omega
  · exact ⟨h,by omega,by omega⟩
def ivY (o:POp) (st:List Sp):Sp:=if takesV o.code=2 then st[st.length-1]?.getD (⟨0,0⟩:Sp) else ⟨0,0⟩
def ivX (o:POp) (st:List Sp):Sp:=if 0<takesV o.code then st[st.length-(takesV o.code).toNat]?.getD (⟨0,0⟩:Sp) else ⟨0,0⟩
def ivGo (a b:Int):List POp->List Sp->Option (List Sp)
  |[],st=>some st
  |o::l,st=>if nextOK o (ivX o st) (ivY o st) a b then ivGo a b l (st.take (st.length-(takesV o.code).toNat)++[nextV o (ivX o st) (ivY o st) a b]) else none
def ivRes (l:List POp) (a b:Int):Int×Int×Int:=
  if opsCode l true=0 then (if (1<=a/\a<=4294967296)/\1<=b/\b<=4294967296 then (match ivGo a b l [] with|some st=>((st[0]?.getD (⟨0,0⟩:Sp)).lo,(st[0]?.getD (⟨0,0⟩:Sp)).hi,0)|none=>(0,0,11)) else (0,0,2)) else (0,0,opsCode l true)
theorem ivGo_ok {a b:Int} {o:POp} {l:List POp} {st m:List Sp} {x y:Sp} (hy:ivY o st=y) (hx:ivX o st=x) (hok:nextOK o x y a b) (hm:m=st.take (st.length-(takesV o.code).toNat)):ivGo a b (o::l) st=ivGo a b l (m++[nextV o x y a b]):=by
  subst hy hx hm;rw [ivGo,if_pos hok]
theorem ivGo_bad {a b:Int} {o:POp} {l:List POp} {st:List Sp} {x y:Sp} (hy:ivY o st=y) (hx:ivX o st=x) (hok:¬nextOK o x y a b):ivGo a b (o::l) st=none:=by
  subst hy hx;rw [ivGo,if_neg hok]
def pwCode (l:List POp) (two:Bool) (a b out:Int):Int:=if opsCode l two=0 then (if 1<=out/\out<=4294967296 then (ivRes l a (if two=true then b else 1)).2.2 else 2) else opsCode l two
theorem r14_interval (ax : Option Addr) (nx kx : Nat) (x : List POp) (a : Int) (b : Int) (hx : RdT encPOp 2 [H] ax nx kx x) (hS : Sat W w (H :: F)) :
  Ro prog 204 #[.slice ax nx kx, I a, I b] (.tuple #[I ((ivRes x a b).1), I ((ivRes x a b).2.1), I ((ivRes x a b).2.2)]) W w (H :: F) := by
 have hl_x := hx.le; have hn_x := hx.len
 refine callsA 92 func204 rfl <| sR <| pu3 <| zQ <| pu1 <| cR call203 (r14_valid ax nx kx x true (RdT.flat (hx.up 0 (by rfl))) hS.flat) fun _ y0 => pu1 <| zS <| pu2 <| nT <| cN (opsCode x true) 0 (fun h1 => ?_) (fun h1 => ?_)
 rotate_left
 ·refine sR <| pu4 <| zR <| retT [I 0, I 0, I (opsCode x true)] <| ⟨?_, y0⟩
  unfold ivRes
  (repeat' split) <;> first | rfl | (exfalso; omega) | contradiction | (exfalso; simp_all; done) | (simp_all; done)
 refine kT <| seqE <| sR <| pu1 <| cR call199 (r9_value a y0.flat) fun _ z0 => pu2 <| sDn 25 ((1 : Int) <= a /\ a <= (4294967296 : Int)) (fun i1 => ?_) (fun i1 => ?_)
 rotate_left
 ·refine pu4 <| zC <| pu3 <| zR <| retT [I 0, I 0, I 2] <| ⟨?_, z0⟩
  unfold ivRes
  (repeat' split) <;> first | rfl | (exfalso; omega) | contradiction | (exfalso; simp_all; done) | (simp_all; done)
 refine pu1 <| gY <| cR call199 (r9_value b z0.flat) fun _ a1 => pu2 <| nT <| cDn ((1 : Int) <= b /\ b <= (4294967296 : Int)) (fun j1 => ?_) (fun j1 => ?_)
 rotate_left
 ·refine sR <| pu3 <| zR <| retT [I 0, I 0, I 2] <| ⟨?_, a1⟩
  unfold ivRes
  (repeat' split) <;> first | rfl | (exfalso; omega) | contradiction | (exfalso; simp_all; done) | (simp_all; done)
 refine kS <| pu1 <| nT <| seqE <| seqE ?_
 obtain ⟨hx0, hx1, hx32⟩ := opsCode_go (l := x) (two := true) om
 refine rE <| pu1 <| nT <| blockE ?_
 have k1 := Sat.nilc a1
 refine loopA (γ := Nat × (List Sp) × (Option Addr) × Nat × Nat × Chunk) (fun ⟨i, zs, azs, nzs, kzs, czs⟩ => [(0, .slice ax nx kx), (1, I a), (2, I b), (11, I (i : Int)), (10, .slice azs nzs kzs)]) (fun ⟨i, zs, azs, nzs, kzs, czs⟩ w => Sat W w (czs :: H :: F) /\ i <= nx /\ (ivGo a b x [] = ivGo a b (x.drop i) zs) /\ (opsGo true (x.drop i) (zs.length : Int) = 0) /\ (∀ z ∈ zs, accS z) /\ (zs.length <= i) /\ OwnT encSp 200 2 azs nzs kzs zs czs) (fun ⟨i, zs, azs, nzs, kzs, czs⟩ => nx - i) (0, [], none, 0, 0, []) ⟨k1, om, by rfl, (opsCode_go (l := x) (two := true) om).1, (by intro z hz; cases hz), by simp, (OwnT.nil (enc := encSp) (E := 200) (sz := 2) fR)⟩ ?_
 rintro ⟨i, zs, azs, nzs, kzs, czs⟩ ρ _ ⟨j0, hi, hG, hH, hAc, hzl, hOzs⟩
 have hn_zs := hOzs.len; have hl_zs := hOzs.le
 refine seqE <| sR <| pu4 <| nT <| cD ((i : Int) < (nx : Int)) (fun m1 => ?_) (fun m1 => ?_)
 rotate_left
 ·refine exitE <| xB <| tN <| seqE ?_
  have hh : opsGo true (x.drop i) zs.length = 0 := hH
  rw [List.drop_of_length_le om] at hh; have hz1 : zs.length = 1 := by unfold opsGo at hh; split at hh <;> omega
  obtain ⟨b0, k0, l0, p0, q0, r0, d3⟩ := OwnT.elem hOzs 0
  change _[0]? = _ at p0; change PtR _ _ (_ + 0 * _) _ at q0; change ElemAt _ _ _ _ _ (_ + 0 * _) at r0
  have hacc_x_110 : accS b0 := hAc b0 (List.mem_of_getElem? p0)
  refine drawE [] [(3, ⟨k0, l0 + 0 * 2 + 0, none⟩, I b0.lo), (7, ⟨k0, l0 + 0 * 2 + 1, none⟩, I b0.hi)] [(true, [0]), (true, [1]), (true, [2, 4]), (true, [5]), (true, [6]), (true, [3]), (true, [8]), (true, [7]), (true, [9, 10])] rfl kr ⟨.inr ((q0.up 0 rfl).cell j0 (k := 0) rfl), .inr ((q0.up 0 rfl).cell j0 (k := 1) rfl), trivial⟩ ?_
  have n1 := j0.drew
  refine wU [0] <| wY (.pointer (some ⟨k0, l0 + 0 * 2, none⟩)) rfl (fun w _ => Y_idx (a := azs) (i := 0) (len := nzs) (cap := kzs) rfl runUnderlying198 sizeOf200 kr kr r0) <| wU [2, 4] <| wY (.pointer (some ⟨k0, l0 + 0 * 2, none⟩)) rfl (fun w _ => Y_idx (a := azs) (i := 0) (len := nzs) (cap := kzs) rfl runUnderlying198 sizeOf200 kr kr r0) <| wU [6] <| wLd (I b0.lo) 0 isAgg3 <| wU [8] <| wLd (I b0.hi) 1 isAgg3 <| wU [9, 10] <| wN <| tN <| retE <| retT [I b0.lo, I b0.hi, I 0] ?_
  have o1 := (n1.dropAt 0 rfl)
  have hr0 : opsCode x true = 0 := by omega
  have hres : ivRes x a b = (match ivGo a b x [] with | some st => ((st[0]?.getD (⟨0, 0⟩ : Sp)).lo, (st[0]?.getD (⟨0, 0⟩ : Sp)).hi, 0) | none => (0, 0, 11)) := by unfold ivRes; rw [if_pos hr0, if_pos om]
  have hend : ivGo a b x [] = some zs := by rw [hG, List.drop_of_length_le om]; rfl
  have hz0 : zs[0]? = some b0 := p0
  exact ⟨by rw [hres, hend]; dsimp only; rw [hz0]; rfl, o1⟩
 refine kT <| seqE <| blockE <| sR <| pu2 <| sIdx hx (i : Int) runUnderlying51 sizeOf75 fun a0 _ _ c0 p1 => ?_
 rw [Int.toNat_natCast] at c0
 obtain ⟨hob, hoa, hog⟩ := opsGo_zero (by rw [<- drop_at c0]; exact hH)
 have htk_x_18 := takesV_bd a0.code; have hob2 : takesV a0.code <= zs.length := by unfold opBad at hob; omega
 refine pu1 <| sLp j0 (p1.up 1 rfl) 0 (I a0.code) (isAgg3 _) <| cR call206 (r14_takes a0.code j0.flat) fun _ q1 => ?_
 have h3 : 0 <= (takesV a0.code) /\ (takesV a0.code) <= 2 := takesV_bd _
 refine pu1 <| zS <| pu2 <| sAlloc q1 zeroValue200 fun h0 _ r1 => sAlloc r1 zeroValue200 fun i0 _ s1 => sTl s1 1 [I 0, I 0] sizeOf200 fun _ t1 => sTl t1 0 [I 0, I 0] sizeOf200 fun _ s0 => nT <| cutA (γ := Sp) (fun y9 => [(0, .slice ax nx kx), (1, I a), (2, I b), (11, I (i : Int)), (10, .slice azs nzs kzs), (12, I (takesV a0.code)), (13, Pt h0 0), (14, Pt i0 0)]) (fun y9 w => Sat W w ([(i0, .cells #[I y9.lo, I y9.hi] 200 (0, 0))] :: [(h0, .cells #[I 0, I 0] 200 (0, 0))] :: czs :: H :: F) /\ ivY a0 zs = y9 /\ accS y9) ?_ ?_
 ·refine sR <| pu2 <| nT <| cE (takesV a0.code) 2 (fun u1 => ?_) (fun u1 => ?_)
  rotate_left
  ·exact kT <| ⟨(⟨0, 0⟩ : Sp), alA, s0, (by unfold ivY; rw [if_neg om]), (by unfold accS; dsimp only; omega)⟩
  refine rE <| pu3 <| sSub (nzs : Int) 1 <| sIdxO hOzs ((nzs : Int) - 1) (((nzs : Int) - 1)).toNat runUnderlying198 sizeOf200 fun d0 _ _ b1 v1 _ => ?_
  have hacc_x_38 : accS d0 := hAc d0 (List.mem_of_getElem? b1)
  exact sLpA s0 (v1.up 2 rfl) 0 [I d0.lo, I d0.hi] (isAgg200 _) (sizeOf200 _) <| sTl s0 0 [I d0.lo, I d0.hi] sizeOf200 fun _ w1 => nT <| ⟨d0, alA, w1, (by unfold ivY; rw [if_pos om]; have e := b1; rw [(by omega : zs.length - 1 = ((nzs : Int) - 1).toNat), e] <;> rfl), hacc_x_38⟩
 rintro y9 ρ _ ⟨t0, hy9, hacc_y9⟩
 refine cutA (γ := Sp) (fun x9 => [(0, .slice ax nx kx), (1, I a), (2, I b), (11, I (i : Int)), (10, .slice azs nzs kzs), (12, I (takesV a0.code)), (13, Pt h0 0), (14, Pt i0 0)]) (fun x9 w => Sat W w ([(i0, .cells #[I y9.lo, I y9.hi] 200 (0, 0))] :: [(h0, .cells #[I x9.lo, I x9.hi] 200 (0, 0))] :: czs :: H :: F) /\ ivX a0 zs = x9 /\ accS x9) ?_ ?_
 ·refine sR <| pu2 <| nT <| cD ((takesV a0.code) > 0) (fun x1 => ?_) (fun x1 => ?_)
  rotate_left
  ·exact kT <| ⟨(⟨0, 0⟩ : Sp), alA, t0, (by unfold ivX; rw [if_neg om]), (by unfold accS; dsimp only; omega)⟩
  refine rE <| pu4 <| sSub (nzs : Int) (takesV a0.code) <| sIdxO hOzs ((nzs : Int) - (takesV a0.code)) (((nzs : Int) - (takesV a0.code))).toNat runUnderlying198 sizeOf200 fun e0 _ _ c1 y1 _ => ?_
  have hacc_x_49 : accS e0 := hAc e0 (List.mem_of_getElem? c1)
  exact sLpA t0 (y1.up 2 rfl) 0 [I e0.lo, I e0.hi] (isAgg200 _) (sizeOf200 _) <| sTl t0 1 [I e0.lo, I e0.hi] sizeOf200 fun _ z1 => nT <| ⟨e0, alA, z1, (by unfold ivX; rw [if_pos om]; have e := c1; rw [(by omega : zs.length - (takesV a0.code).toNat = ((nzs : Int) - (takesV a0.code)).toNat), e] <;> rfl), hacc_x_49⟩
 rintro x9 ρ _ ⟨f0, hx9, hacc_x9⟩
 refine seqE ?_
 obtain ⟨a2, u0, v0, d1, m0, b2⟩ := RdT.elem hx (i : Int)
 rw [Int.toNat_natCast] at d1
 obtain rfl : a0 = a2 := Option.some.inj (c0.symm.trans d1)
 refine drawP [8, 12, 13] [(3, ⟨u0, v0 + 0, none⟩, I a0.code), (3, ⟨u0, v0 + 1, none⟩, I a0.arg), (4, ⟨h0, 0, none⟩, I x9.lo), (4, ⟨h0, 1, none⟩, I x9.hi), (5, ⟨i0, 0, none⟩, I y9.lo), (5, ⟨i0, 1, none⟩, I y9.hi)] (Plan.sts [0, 1] <| Plan.sts [2] <| Plan.sts [6, 7] <| Plan.sts [3] <| Plan.sts [4] <| Plan.sts [5] <| .fk 8 12 (Plan.sts [9] <| Plan.sts [10] <| Plan.sts [11] <| .ef 12 <| .ef 13 <| Plan.sts [14] <| .fin) (.ef 8 <| Plan.sts [9] <| Plan.sts [10] <| Plan.sts [11] <| .ef 13 <| Plan.sts [14] <| .fin)) rfl kr ⟨.inr ((m0.up 3 rfl).cell f0 (k := 0) rfl), .inr ((m0.up 3 rfl).cell f0 (k := 1) rfl), cI f0 1, cI f0 1, cI f0 0, cI f0 0, trivial⟩ ?_
 have e1 := f0.drew
 refine qU [0, 1] <| qY (.pointer (some ⟨u0, v0, none⟩)) rfl (fun w _ => Y_idx (a := ax) (i := (i : Int)) (len := nx) (cap := kx) rfl runUnderlying51 sizeOf75 kr kr b2) <| qU [6, 7] <| qY (.agg #[I a0.code, I a0.arg]) rfl (fun w hF => Y_loadF rfl (isAgg75 w) (sizeOf75 w) kr rfl ⟨hF 0 _ _ rfl, hF 1 _ _ rfl, trivial⟩) <| qY (.agg #[I x9.lo, I x9.hi]) rfl (fun w hF => Y_loadF rfl (isAgg200 w) (sizeOf200 w) kr rfl ⟨hF 2 _ _ rfl, hF 3 _ _ rfl, trivial⟩) <| qY (.agg #[I y9.lo, I y9.hi]) rfl (fun w hF => Y_loadF rfl (isAgg200 w) (sizeOf200 w) kr rfl ⟨hF 4 _ _ rfl, hF 5 _ _ rfl, trivial⟩) <| qF ?_ ?_
 ·refine qO rfl <| cR call222 (r14_next a0 x9 y9 a b (by first | assumption | (unfold accS; dsimp only; omega)) (by first | assumption | (unfold accS; dsimp only; omega)) om ‹_› e1.flat) ?_
  intro _ c2
  refine nilO ⟨dA, ?_⟩
  refine qU [9] <| qU [10] <| qU [11] <| qO rfl <| sAlloc c2 zeroValue200 fun f1 _ d2 => nilO ⟨dA, ?_⟩
  refine qO rfl <| sTl d2 0 [I ((nextV a0 x9 y9 a b).lo), I ((nextV a0 x9 y9 a b).hi)] sizeOf200 fun _ n0 => nilO ⟨dA, ?_⟩
  refine qU [14] <| qN <| tN <| seqE <| sR <| pu2 <| nT <| cDn (nextOK a0 x9 y9 a b) (fun w0 => ?_) (fun w0 => ?_)
  rotate_left
  ·refine sR <| pu3 <| zE <| tR <| tK <| tR <| tK <| retT [I 0, I 0, I 11] ?_
   have e2 := (n0.drops [0, 0, 0, 0])
   have hr0 : opsCode x true = 0 := by omega
   have hres : ivRes x a b = (match ivGo a b x [] with | some st => ((st[0]?.getD (⟨0, 0⟩ : Sp)).lo, (st[0]?.getD (⟨0, 0⟩ : Sp)).hi, 0) | none => (0, 0, 11)) := by unfold ivRes; rw [if_pos hr0, if_pos om]
   have hbad : ivGo a b x [] = none := by rw [hG, drop_at c0]; exact ivGo_bad (x := x9) (y := y9) hy9 hx9 ‹_›
   exact ⟨by rw [hres, hbad]; rfl, e2⟩
  refine kT <| drawE [7, 8] [(6, ⟨f1, 0, none⟩, I ((nextV a0 x9 y9 a b).lo)), (6, ⟨f1, 1, none⟩, I ((nextV a0 x9 y9 a b).hi))] [(true, [0, 1, 2, 3]), (true, [4]), (true, [5]), (true, [6]), (false, [7]), (false, [8]), (true, [9])] rfl kr ⟨cI n0 0, cI n0 0, trivial⟩ ?_
  have f2 := n0.drew
  refine wU [0, 1, 2, 3] <| wSub (nzs : Int) (takesV a0.code) ?_
  have g2 := hOzs.part (lo := 0) (hi := (((nzs : Int) - (takesV a0.code))).toNat) om om
  refine wY (.slice (partAddr azs kzs 0 2) ((((nzs : Int) - (takesV a0.code))).toNat - 0) (kzs - 0)) rfl (fun w _ => Y_sl (a := azs) (len := nzs) (cap := kzs) none (some ((nzs : Int) - (takesV a0.code))) 0 ((((nzs : Int) - (takesV a0.code))).toNat) runUnderlying198 sizeOf200 rfl ⟨om, om⟩ om om) <| wY (.agg #[I ((nextV a0 x9 y9 a b).lo), I ((nextV a0 x9 y9 a b).hi)]) rfl (fun w hF => Y_loadF rfl (isAgg200 w) (sizeOf200 w) kr rfl ⟨hF 0 _ _ rfl, hF 1 _ _ rfl, trivial⟩) <| wO rfl <| sBS f2 #[I ((nextV a0 x9 y9 a b).lo), I ((nextV a0 x9 y9 a b).hi)] runUnderlying198 sizeOf200 zeroValue200 fun _ _ h2 => nilO ⟨dA, ?_⟩
  refine wO rfl <| sApp (nb := 16) h2 g2 4 (RdT.blk (enc := encSp) (sz := 2) (xs := [(⟨(nextV a0 x9 y9 a b).lo, (nextV a0 x9 y9 a b).hi⟩ : Sp)]) fR 1 0 rfl rfl rfl om) underlying198 (i := Tryz.t200) kr fR fun i2 j2 k2 _ l2 m2 => nilO ⟨dA, ?_⟩
  refine wU [9] <| wN <| bN <| tN <| rE <| pu1 <| sAdd (i : Int) 1 <| pu1 <| nT ?_
  exact ⟨(i + 1, (((zs.drop 0).take ((((nzs : Int) - (takesV a0.code))).toNat - 0)) ++ [(⟨(nextV a0 x9 y9 a b).lo, (nextV a0 x9 y9 a b).hi⟩ : Sp)]), i2, (((((nzs : Int) - (takesV a0.code))).toNat - 0) + 1), j2, k2), od, alA, (m2.drops [0, 0, 0, 0]), om, by rw [hG, drop_at c0, ivGo_ok (x := x9) (y := y9) hy9 hx9 ‹_› (m := ((zs.drop 0).take ((((nzs : Int) - (takesV a0.code))).toNat - 0))) (by rw [List.drop_zero]; congr 1; omega)] <;> rfl, by simp only [List.length_append, List.length_take, List.length_drop, List.length_cons, List.length_nil]; rw [show (((min _ _ + (0 + 1) : Nat)) : Int) = (zs.length : Int) + (1 - takesV a0.code) from by omega]; exact hog, (by
    intro z hz
    rcases List.mem_append.1 hz with h | h
    ·exact hAc z (List.mem_of_mem_drop (List.mem_of_mem_take h))
    ·simp only [List.mem_singleton] at h; subst h; exact ⟨w0.2.1, w0.2.2⟩), by simp; omega, l2⟩
 refine qO rfl <| sAlloc e1 zeroValue200 fun g1 _ g0 => nilO ⟨⟨.inr ((m0.up 4 rfl).cell g0 (k := 0) rfl), .inr ((m0.up 4 rfl).cell g0 (k := 1) rfl), cI g0 2, cI g0 2, cI g0 1, cI g0 1, trivial⟩, ?_⟩
 refine qO rfl <| cR call222 (r14_next a0 x9 y9 a b (by first | assumption | (unfold accS; dsimp only; omega)) (by first | assumption | (unfold accS; dsimp only; omega)) om ‹_› g0.flat) ?_
 intro _ o2
 refine nilO ⟨dA, ?_⟩
 refine qU [9] <| qU [10] <| qU [11] <| qO rfl <| sTl o2 0 [I ((nextV a0 x9 y9 a b).lo), I ((nextV a0 x9 y9 a b).hi)] sizeOf200 fun _ o0 => nilO ⟨dA, ?_⟩
 refine qU [14] <| qN <| tN <| seqE <| sR <| pu2 <| nT <| cDn (nextOK a0 x9 y9 a b) (fun x0 => ?_) (fun x0 => ?_)
 rotate_left
 ·refine sR <| pu3 <| zE <| tR <| tK <| tR <| tK <| retT [I 0, I 0, I 11] ?_
  have p2 := (o0.drops [0, 0, 0, 0])
  have hr0 : opsCode x true = 0 := by omega
  have hres : ivRes x a b = (match ivGo a b x [] with | some st => ((st[0]?.getD (⟨0, 0⟩ : Sp)).lo, (st[0]?.getD (⟨0, 0⟩ : Sp)).hi, 0) | none => (0, 0, 11)) := by unfold ivRes; rw [if_pos hr0, if_pos om]
  have hbad : ivGo a b x [] = none := by rw [hG, drop_at c0]; exact ivGo_bad (x := x9) (y := y9) hy9 hx9 ‹_›
  exact ⟨by rw [hres, hbad]; rfl, p2⟩
 refine kT <| drawE [7, 8] [(6, ⟨g1, 0, none⟩, I ((nextV a0 x9 y9 a b).lo)), (6, ⟨g1, 1, none⟩, I ((nextV a0 x9 y9 a b).hi))] [(true, [0, 1, 2, 3]), (true, [4]), (true, [5]), (true, [6]), (false, [7]), (false, [8]), (true, [9])] rfl kr ⟨cI o0 0, cI o0 0, trivial⟩ ?_
 have q2 := o0.drew
 refine wU [0, 1, 2, 3] <| wSub (nzs : Int) (takesV a0.code) ?_
 have r2 := hOzs.part (lo := 0) (hi := (((nzs : Int) - (takesV a0.code))).toNat) om om
 refine wY (.slice (partAddr azs kzs 0 2) ((((nzs : Int) - (takesV a0.code))).toNat - 0) (kzs - 0)) rfl (fun w _ => Y_sl (a := azs) (len := nzs) (cap := kzs) none (some ((nzs : Int) - (takesV a0.code))) 0 ((((nzs : Int) - (takesV a0.code))).toNat) runUnderlying198 sizeOf200 rfl ⟨om, om⟩ om om) <| wY (.agg #[I ((nextV a0 x9 y9 a b).lo), I ((nextV a0 x9 y9 a b).hi)]) rfl (fun w hF => Y_loadF rfl (isAgg200 w) (sizeOf200 w) kr rfl ⟨hF 0 _ _ rfl, hF 1 _ _ rfl, trivial⟩) <| wO rfl <| sBS q2 #[I ((nextV a0 x9 y9 a b).lo), I ((nextV a0 x9 y9 a b).hi)] runUnderlying198 sizeOf200 zeroValue200 fun _ _ s2 => nilO ⟨dA, ?_⟩
 refine wO rfl <| sApp (nb := 16) s2 r2 4 (RdT.blk (enc := encSp) (sz := 2) (xs := [(⟨(nextV a0 x9 y9 a b).lo, (nextV a0 x9 y9 a b).hi⟩ : Sp)]) fR 1 0 rfl rfl rfl om) underlying198 (i := Tryz.t200) kr fR fun t2 u2 v2 _ w2 x2 => nilO ⟨dA, ?_⟩
 refine wU [9] <| wN <| bN <| tN <| rE <| pu1 <| sAdd (i : Int) 1 <| pu1 <| nT ?_
 exact ⟨(i + 1, (((zs.drop 0).take ((((nzs : Int) - (takesV a0.code))).toNat - 0)) ++ [(⟨(nextV a0 x9 y9 a b).lo, (nextV a0 x9 y9 a b).hi⟩ : Sp)]), t2, (((((nzs : Int) - (takesV a0.code))).toNat - 0) + 1), u2, v2), od, alA, (x2.drops [0, 0, 0, 0]), om, by rw [hG, drop_at c0, ivGo_ok (x := x9) (y := y9) hy9 hx9 ‹_› (m := ((zs.drop 0).take ((((nzs : Int) - (takesV a0.code))).toNat - 0))) (by rw [List.drop_zero]; congr 1; omega)] <;> rfl, by simp only [List.length_append, List.length_take, List.length_drop, List.length_cons, List.length_nil]; rw [show (((min _ _ + (0 + 1) : Nat)) : Int) = (zs.length : Int) + (1 - takesV a0.code) from by omega]; exact hog, (by
   intro z hz
   rcases List.mem_append.1 hz with h | h
   ·exact hAc z (List.mem_of_mem_drop (List.mem_of_mem_take h))
   ·simp only [List.mem_singleton] at h; subst h; exact ⟨x0.2.1, x0.2.2⟩), by simp; omega, w2⟩
theorem r14_check (ax:Option Addr) (nx kx:Nat) (x:List POp) (two:Bool) (a:Int) (b:Int) (out:Int) (hx:RdT encPOp 2 [H] ax nx kx x) (hS:Sat W w (H::F)):
  Ro prog 169 #[.slice ax nx kx, .bool two,I a,I b,I out] (I (pwCode x two a b out)) W w (H::F):=by
 have hl_x:=hx.le;have hn_x:=hx.len
 refine callsA 35 func169 rfl<|sR<|pu1<|zQ<|pu2<|cR call203 (r14_valid ax nx kx x two (RdT.flat (hx.up 0 (by rfl))) hS.flat) fun _ b0=>pu1<|zS<|pu2<|nT<|cN (opsCode x two) 0 (fun c0=>?_) (fun c0=>?_)
 rotate_left
 ·refine sR<|pu2<|zR<|retT [I (opsCode x two)]<|⟨congrArg (fun c=>Ending.returned (I c)) ?_,b0⟩
  unfold pwCode;(repeat' split)<;>first|rfl|omega|contradiction|(exfalso;omega)|(exfalso;simp_all;done)|(simp_all;done)
 refine kT<|seqE<|sR<|pu1<|cR call199 (r9_value out b0.flat) fun _ a0=>pu1<|nT<|cDn ((1:Int)<=out/\out<=(4294967296:Int)) (fun d0=>?_) (fun d0=>?_)
 rotate_left
 ·refine sR<|pu1<|zR<|retT [I 2]<|⟨congrArg (fun c=>Ending.returned (I c)) ?_,a0⟩
  unfold pwCode;(repeat' split)<;>first|rfl|omega|contradiction|(exfalso;omega)|(exfalso;simp_all;done)|(simp_all;done)
 refine kT<|seqE<|sR<|pu2<|nT<|cBn two (fun e0=>?_) (fun e0=>?_)
 ·refine kS<|pu3<|cR call204 (r14_interval ax nx kx x a b (RdT.flat (hx.up 0 (by rfl))) a0.flat) fun _ f0=>pu7<|zS<|pu2<|zE<|retT [I ((ivRes x a b).2.2)]<|⟨congrArg (fun c=>Ending.returned (I c)) ?_,f0⟩
  unfold pwCode;(repeat' split)<;>first|rfl|omega|contradiction|(exfalso;omega)|(exfalso;simp_all;done)|(simp_all;done)
 refine rE<|pu1<|zS<|pu3<|cR call204 (r14_interval ax nx kx x a 1 (RdT.flat (hx.up 0 (by rfl))) a0.flat) fun _ g0=>pu7<|zS<|pu2<|zE<|retT [I ((ivRes x a 1).2.2)]<|⟨congrArg (fun c=>Ending.returned (I c)) ?_,g0⟩
 unfold pwCode;(repeat' split)<;>first|rfl|omega|contradiction|(exfalso;omega)|(exfalso;simp_all;done)|(simp_all;done)
end Go.Proofs.YtmlhcafjelkjfaaGreat
