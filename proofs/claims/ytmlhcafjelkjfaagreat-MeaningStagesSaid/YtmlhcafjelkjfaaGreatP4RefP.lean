import Derived.Test.YtmlhcafjelkjfaaGreatP4Ab
import Derived.WalkKit
import Derived.Deep.Quiet
import Derived.KernelRfl
import Derived.Laws.BytesString
import Derived.Laws.Shifts
import Derived.Laws.IdiomStrings
import Derived.Test.YtmlhcafjelkjfaaGreatProg
import Derived.Test.YtmlhcafjelkjfaaGreatP4Ref
namespace Go.Proofs.YtmlhcafjelkjfaaGreat
open Go Go.E Go.Proofs.Tryz
set_option linter.all false
set_option maxRecDepth 100000
set_option maxHeartbeats 2000000
variable {W w:World} {H:Chunk} {F:List Chunk}
structure Sp where
  lo:Int
  hi:Int
  deriving DecidableEq
def encSp (x:Sp):List Value:=[.int .i64 x.lo, .int .i64 x.hi]
def takesV (c:Int):Int:=if c<=2 then 0 else if 10<=c then 1 else 2
theorem takesV_bd (c:Int):0<=takesV c/\takesV c<=2:=by unfold takesV;(repeat' split)<;>omega
def argP (o:POp):Prop:=(o.code=2/\-4294967296<=o.arg/\o.arg<=4294967296)\/(o.code=10/\0<=o.arg/\o.arg<=24)\/(¬o.code=2/\¬o.code=10/\o.arg=0)
instance (o:POp):Decidable (argP o):=by unfold argP;infer_instance
def opBad (two:Bool) (o:POp) (h:Int):Prop:=o.code<0\/11<o.code\/(o.code=1/\two=false)\/h<takesV o.code
instance (two:Bool) (o:POp) (h:Int):Decidable (opBad two o h):=by unfold opBad;infer_instance
def opsGo (two:Bool):List POp->Int->Int
  |[],h=>if h=1 then 0 else 1
  |o::l,h=>if opBad two o h then 1 else if argP o then opsGo two l (h+(1-takesV o.code)) else 10
def opsCode (l:List POp) (two:Bool):Int:=if l.length=0\/32<l.length then 9 else opsGo two l 0
theorem r14_takes (x:Int) (hS:Sat W w (H::F)):
  Ro prog 206 #[I x] (I (takesV x)) W w (H::F):=by
 refine callsA 9 func206 rfl<|sR<|pu1<|nT<|seqE<|blockE<|sR<|pu3<|nT<|cD (x<=2) (fun a0=>?_) (fun a0=>?_)
 ·refine sR<|pu1<|zB<|retT [I 0]<|⟨?_,hS⟩
  unfold takesV
  (repeat' split)<;>first|rfl|(exfalso;omega)|contradiction|(exfalso;simp_all;done)|(simp_all;done)
 refine sR<|pu3<|nT<|cD (x>=10) (fun b0=>?_) (fun b0=>?_)
 ·refine sR<|pu1<|zB<|retT [I 1]<|⟨?_,hS⟩
  unfold takesV
  (repeat' split)<;>first|rfl|(exfalso;omega)|contradiction|(exfalso;simp_all;done)|(simp_all;done)
 refine skipE<|bN<|tN<|sR<|pu1<|zE<|retT [I 2]<|⟨?_,hS⟩
 unfold takesV
 (repeat' split)<;>first|rfl|(exfalso;omega)|contradiction|(exfalso;simp_all;done)|(simp_all;done)
theorem r14_argument (o : POp) (hS : Sat W w (H :: F)) :
  Ro prog 221 #[.agg #[I o.code, I o.arg]] (.bool (decide (argP o))) W w (H :: F) := by
 refine callsA 23 func221 rfl <| sR <| sBox hS (.agg #[I o.code, I o.arg]) #[I o.code, I o.arg] fun _ _ a0 => pu1 <| zQ <| pu1 <| sL a0 0 0 (I o.code) (isAgg3 _) <| nT <| blockE <| sR <| pu2 <| nT <| cE o.code 2 (fun b0 => ?_) (fun b0 => ?_)
 ·refine sR <| pu1 <| sL a0 0 1 (I o.arg) (isAgg3 _) <| pu2 <| sD 10 (o.arg >= (-4294967296)) (fun c0 => ?_) (fun c0 => ?_)
  rotate_left
  ·refine pu5 <| zB <| retT [.bool false] ?_
   have d0 := (a0.dropAt 0 rfl)
   refine ⟨rB ?_, d0⟩
   first | rfl | (rw [Bool.eq_iff_iff]; simp only [decide_eq_true_eq, beq_iff_eq, bne_iff_ne, ne_eq, Bool.not_eq_true', decide_eq_false_iff_not, true_iff, false_iff, iff_true, iff_false, Bool.false_eq_true, Bool.and_eq_true, Bool.or_eq_true, gt_iff_lt, ge_iff_le, argP] <;> omega) | (rw [Bool.eq_iff_iff]; simp [argP, *] <;> omega) | (simp_all; done)
  refine pu1 <| gY <| sL a0 0 1 (I o.arg) (isAgg3 _) <| pu3 <| zB <| retT [.bool (decide ((o.arg : Int) <= 4294967296))] ?_
  have e0 := (a0.dropAt 0 rfl)
  refine ⟨rB ?_, e0⟩
  first | rfl | (rw [Bool.eq_iff_iff]; simp only [decide_eq_true_eq, beq_iff_eq, bne_iff_ne, ne_eq, Bool.not_eq_true', decide_eq_false_iff_not, true_iff, false_iff, iff_true, iff_false, Bool.false_eq_true, Bool.and_eq_true, Bool.or_eq_true, gt_iff_lt, ge_iff_le, argP] <;> omega) | (rw [Bool.eq_iff_iff]; simp [argP, *] <;> omega) | (simp_all; done)
 refine sR <| pu2 <| nT <| cE o.code 10 (fun f0 => ?_) (fun f0 => ?_)
 rotate_left
 ·refine skipE <| bN <| tN <| sR <| pu1 <| sL a0 0 1 (I o.arg) (isAgg3 _) <| pu2 <| zE <| retT [.bool ((o.arg : Int) == 0)] ?_
  have g0 := (a0.dropAt 0 rfl)
  refine ⟨rB ?_, g0⟩
  first | rfl | (rw [Bool.eq_iff_iff]; simp only [decide_eq_true_eq, beq_iff_eq, bne_iff_ne, ne_eq, Bool.not_eq_true', decide_eq_false_iff_not, true_iff, false_iff, iff_true, iff_false, Bool.false_eq_true, Bool.and_eq_true, Bool.or_eq_true, gt_iff_lt, ge_iff_le, argP] <;> omega) | (rw [Bool.eq_iff_iff]; simp [argP, *] <;> omega) | (simp_all; done)
 refine sR <| pu1 <| sL a0 0 1 (I o.arg) (isAgg3 _) <| cR call198 (r7_iss o.arg a0.flat) fun _ h0 => pu1 <| zB <| retT [.bool (decide ((0 : Int) <= o.arg /\ o.arg <= (24 : Int)))] ?_
 have i0 := (h0.dropAt 0 rfl)
 refine ⟨rB ?_, i0⟩
 first | rfl | (rw [Bool.eq_iff_iff]; simp only [decide_eq_true_eq, beq_iff_eq, bne_iff_ne, ne_eq, Bool.not_eq_true', decide_eq_false_iff_not, true_iff, false_iff, iff_true, iff_false, Bool.false_eq_true, Bool.and_eq_true, Bool.or_eq_true, gt_iff_lt, ge_iff_le, argP] <;> omega) | (rw [Bool.eq_iff_iff]; simp [argP, *] <;> omega) | (simp_all; done)
theorem r14_valid (ax : Option Addr) (nx kx : Nat) (x : List POp) (two : Bool) (hx : RdT encPOp 2 [H] ax nx kx x) (hS : Sat W w (H :: F)) :
  Ro prog 203 #[.slice ax nx kx, .bool two] (I (opsCode x two)) W w (H :: F) := by
 have hl_x := hx.le; have hn_x := hx.len
 refine callsA 61 func203 rfl <| sR <| pu1 <| zQ <| pu4 <| sE 11 (nx : Int) 0 (fun i0 => ?_) (fun i0 => ?_)
 ·exact pu4 <| zC <| pu1 <| zR <| retT [I 9] <| ⟨by unfold opsCode; rw [if_pos om]; rfl, hS⟩
 refine pu4 <| nT <| cD ((nx : Int) > 32) (fun j0 => ?_) (fun j0 => ?_)
 ·exact sR <| pu1 <| zR <| retT [I 9] <| ⟨by unfold opsCode; rw [if_pos om]; rfl, hS⟩
 refine kS <| pu1 <| zQ <| pu1 <| nT <| blockE <| loopA (γ := Nat × Int) (fun ⟨i, h⟩ => [(0, .slice ax nx kx), (1, .bool two), (6, I (i : Int)), (5, I h)]) (fun ⟨i, h⟩ w => Sat W w (H :: F) /\ i <= nx /\ (opsGo two x 0 = opsGo two (x.drop i) h) /\ (0 <= h /\ h <= (i : Int))) (fun ⟨i, h⟩ => nx - i) (0, 0) ⟨hS, om, by rfl, om⟩ ?_
 rintro ⟨i, h⟩ ρ _ ⟨d0, hi, hG, hb⟩
 refine seqE <| sR <| pu4 <| nT <| cD ((i : Int) < (nx : Int)) (fun k0 => ?_) (fun k0 => ?_)
 rotate_left
 ·refine exitE <| xB <| tN <| seqE <| sR <| pu2 <| nT <| cN h 1 (fun l0 => ?_) (fun l0 => ?_)
  rotate_left
  ·refine sR <| pu1 <| zR <| retT [I 1] ?_
   have hcode : opsCode x two = opsGo two (x.drop i) h := by unfold opsCode; rw [if_neg om]; exact hG
   exact ⟨by rw [hcode, List.drop_of_length_le om, opsGo]; rw [if_neg om]; rfl, d0⟩
  refine kS <| pu1 <| zE <| retT [I 0] ?_
  have hcode : opsCode x two = opsGo two (x.drop i) h := by unfold opsCode; rw [if_neg om]; exact hG
  exact ⟨by rw [hcode, List.drop_of_length_le om, opsGo]; rw [if_pos om]; rfl, d0⟩
 refine kT <| seqE <| blockE <| sR <| pu2 <| sIdx hx (i : Int) runUnderlying51 sizeOf75 fun a0 _ _ b0 m0 => ?_
 rw [Int.toNat_natCast] at b0
 refine sLpA d0 (m0.up 0 rfl) 0 [I a0.code, I a0.arg] (isAgg75 _) (sizeOf75 _) <| sAlloc d0 zeroValue75 fun _ _ n0 => ?_
 refine sT n0 0 0 (.agg #[I a0.code, I a0.arg]) [I a0.code, I a0.arg] #[I a0.code, I a0.arg] sizeOf75 fun _ c0 => zQ <| pu1 <| sL c0 0 0 (I a0.code) (isAgg3 _) <| pu2 <| sD 29 (a0.code < 0) (fun o0 => ?_) (fun o0 => ?_)
 ·refine pu16 <| pu4 <| zC <| pu1 <| zE <| tR <| tK <| tR <| tK <| retT [I 1] ?_
  have p0 := (c0.dropAt 0 rfl)
  have hcode : opsCode x two = opsGo two (x.drop i) h := by unfold opsCode; rw [if_neg om]; exact hG
  exact ⟨by rw [hcode, drop_at b0, opsGo]; rw [if_pos (by unfold opBad; first | omega | (simp_all; done) | (simp_all; omega))]; rfl, p0⟩
 refine pu1 <| gY <| sL c0 0 0 (I a0.code) (isAgg3 _) <| pu3 <| sD 34 (a0.code > 11) (fun q0 => ?_) (fun q0 => ?_)
 ·refine pu15 <| zC <| pu1 <| zE <| tR <| tK <| tR <| tK <| retT [I 1] ?_
  have r0 := (c0.dropAt 0 rfl)
  have hcode : opsCode x two = opsGo two (x.drop i) h := by unfold opsCode; rw [if_neg om]; exact hG
  exact ⟨by rw [hcode, drop_at b0, opsGo]; rw [if_pos (by unfold opBad; first | omega | (simp_all; done) | (simp_all; omega))]; rfl, r0⟩
 refine pu1 <| gY <| sL c0 0 0 (I a0.code) (isAgg3 _) <| pu2 <| sE 38 a0.code 1 (fun s0 => ?_) (fun s0 => ?_)
 rotate_left
 ·refine pu6 <| gY <| sL c0 0 0 (I a0.code) (isAgg3 _) <| gY <| cR call206 (r14_takes a0.code c0.flat) fun _ e0 => ?_
  have o1 : 0 <= (takesV a0.code) /\ (takesV a0.code) <= 2 := takesV_bd _
  refine pu3 <| nT <| cD ((takesV a0.code) > h) (fun t0 => ?_) (fun t0 => ?_)
  ·refine sR <| pu1 <| zE <| tR <| tK <| tR <| tK <| retT [I 1] ?_
   have u0 := (e0.dropAt 0 rfl)
   have hcode : opsCode x two = opsGo two (x.drop i) h := by unfold opsCode; rw [if_neg om]; exact hG
   exact ⟨by rw [hcode, drop_at b0, opsGo]; rw [if_pos (by unfold opBad; first | omega | (simp_all; done) | (simp_all; omega))]; rfl, u0⟩
  refine kT <| seqE <| sR <| lA e0 0 0 2 (isAgg75 _) (sizeOf75 _) <| cR call221 (r14_argument a0 e0.flat) fun _ f0 => pu1 <| nT <| cDn (argP a0) (fun v0 => ?_) (fun v0 => ?_)
  rotate_left
  ·refine sR <| pu1 <| zE <| tR <| tK <| tR <| tK <| retT [I 10] ?_
   have w0 := (f0.dropAt 0 rfl)
   have hcode : opsCode x two = opsGo two (x.drop i) h := by unfold opsCode; rw [if_neg om]; exact hG
   exact ⟨by rw [hcode, drop_at b0, opsGo]; rw [if_neg (by unfold opBad; first | omega | (simp_all; done) | (simp_all; omega)), if_neg ‹_›]; rfl, w0⟩
  refine kT <| rE <| pu2 <| sL f0 0 0 (I a0.code) (isAgg3 _) <| cR call206 (r14_takes a0.code f0.flat) fun _ x0 => ?_
  have s1 : 0 <= (takesV a0.code) /\ (takesV a0.code) <= 2 := takesV_bd _
  refine sSub 1 (takesV a0.code) <| sAdd h (1 - (takesV a0.code)) <| pu1 <| nB <| rE <| pu1 <| sAdd (i : Int) 1 <| pu1 <| nT ?_
  exact ⟨(i + 1, (h + (1 - (takesV a0.code)))), od, alA, (x0.dropAt 0 rfl), om, by rw [hG, drop_at b0, opsGo, if_neg (by unfold opBad; first | omega | (simp_all; done) | (simp_all; omega)), if_pos ‹_›], om⟩
 refine pu5 <| sBn 43 two (fun z0 => ?_) (fun z0 => ?_)
 rotate_left
 ·refine pu6 <| zC <| pu1 <| zE <| tR <| tK <| tR <| tK <| retT [I 1] ?_
  have a1 := (c0.dropAt 0 rfl)
  have hcode : opsCode x two = opsGo two (x.drop i) h := by unfold opsCode; rw [if_neg om]; exact hG
  exact ⟨by rw [hcode, drop_at b0, opsGo]; rw [if_pos (by unfold opBad; first | omega | (simp_all; done) | (simp_all; omega))]; rfl, a1⟩
 refine pu1 <| gY <| sL c0 0 0 (I a0.code) (isAgg3 _) <| gY <| cR call206 (r14_takes a0.code c0.flat) fun _ g0 => ?_
 have u1 : 0 <= (takesV a0.code) /\ (takesV a0.code) <= 2 := takesV_bd _
 refine pu3 <| nT <| cD ((takesV a0.code) > h) (fun b1 => ?_) (fun b1 => ?_)
 ·refine sR <| pu1 <| zE <| tR <| tK <| tR <| tK <| retT [I 1] ?_
  have c1 := (g0.dropAt 0 rfl)
  have hcode : opsCode x two = opsGo two (x.drop i) h := by unfold opsCode; rw [if_neg om]; exact hG
  exact ⟨by rw [hcode, drop_at b0, opsGo]; rw [if_pos (by unfold opBad; first | omega | (simp_all; done) | (simp_all; omega))]; rfl, c1⟩
 refine kT <| seqE <| sR <| lA g0 0 0 2 (isAgg75 _) (sizeOf75 _) <| cR call221 (r14_argument a0 g0.flat) fun _ h0 => pu1 <| nT <| cDn (argP a0) (fun d1 => ?_) (fun d1 => ?_)
 rotate_left
 ·refine sR <| pu1 <| zE <| tR <| tK <| tR <| tK <| retT [I 10] ?_
  have e1 := (h0.dropAt 0 rfl)
  have hcode : opsCode x two = opsGo two (x.drop i) h := by unfold opsCode; rw [if_neg om]; exact hG
  exact ⟨by rw [hcode, drop_at b0, opsGo]; rw [if_neg (by unfold opBad; first | omega | (simp_all; done) | (simp_all; omega)), if_neg ‹_›]; rfl, e1⟩
 refine kT <| rE <| pu2 <| sL h0 0 0 (I a0.code) (isAgg3 _) <| cR call206 (r14_takes a0.code h0.flat) fun _ f1 => ?_
 have x1 : 0 <= (takesV a0.code) /\ (takesV a0.code) <= 2 := takesV_bd _
 refine sSub 1 (takesV a0.code) <| sAdd h (1 - (takesV a0.code)) <| pu1 <| nB <| rE <| pu1 <| sAdd (i : Int) 1 <| pu1 <| nT ?_
 exact ⟨(i + 1, (h + (1 - (takesV a0.code)))), od, alA, (f1.dropAt 0 rfl), om, by rw [hG, drop_at b0, opsGo, if_neg (by unfold opBad; first | omega | (simp_all; done) | (simp_all; omega)), if_pos ‹_›], om⟩
def timesOK (a b:Int):Bool:=decide (-17592186044416<=a*b/\a*b<=17592186044416)
def timesV (a b:Int):Int:=if timesOK a b=true then a*b else 0
theorem times_t {a b x y:Int} (hx:x=a\/x=-a) (hy:y=b\/y=-b) (hx0:0<=x) (hy0:0<=y) (h:y=0\/(0<y/\x<=(17592186044416:Int).tdiv y)):timesOK a b=true/\timesV a b=a*b/\-17592186044416<=a*b/\a*b<=17592186044416:=by
  have h1:=mul_le_of hx0 hy0 (l:=17592186044416) (by omega) h
  have h2:=abs_mul_le hx hy hx0 hy0 h1.2
  have h3:timesOK a b=true:=decide_eq_true h2
  exact ⟨h3,by unfold timesV;rw [if_pos h3],h2⟩
theorem times_f {a b x y:Int} (hx:x=a\/x=-a) (hy:y=b\/y=-b) (h:0<y/\(17592186044416:Int).tdiv y<x):timesOK a b=false/\timesV a b=0:=by
  have h1:=mul_gt_of (l:=17592186044416) (by omega) h.1 h.2
  have h3:timesOK a b=false:=decide_eq_false (abs_mul_gt hx hy h1)
  exact ⟨h3,by unfold timesV;rw [h3];rfl⟩
def accS (x:Sp):Prop:=(-17592186044416<=x.lo/\x.lo<=17592186044416)/\-17592186044416<=x.hi/\x.hi<=17592186044416
def prodLo (x y:Sp):Int:=min (min (min (timesV x.lo y.lo) (timesV x.lo y.hi)) (timesV x.hi y.lo)) (timesV x.hi y.hi)
def prodHi (x y:Sp):Int:=max (max (max (timesV x.lo y.lo) (timesV x.lo y.hi)) (timesV x.hi y.lo)) (timesV x.hi y.hi)
def prodOK (x y:Sp):Bool:=timesOK x.lo y.lo&&timesOK x.lo y.hi&&timesOK x.hi y.lo&&timesOK x.hi y.hi
theorem r14_times (a:Int) (b:Int) (ha:-17592186044416<=a/\a<=17592186044416) (hb:-17592186044416<=b/\b<=17592186044416) (hS:Sat W w (H::F)):
  Ro prog 223 #[I a,I b] (.tuple #[I (timesV a b), .bool (timesOK a b)]) W w (H::F):=by
 refine callsA 29 func223 rfl<|sR<|pu2<|zS<|pu4<|zQ<|pu2<|nT<|cD (a<0) (fun a0=>?_) (fun a0=>?_)
 rotate_left
 ·refine kT<|seqE<|sR<|pu2<|nT<|cD (b<0) (fun b0=>?_) (fun b0=>?_)
  rotate_left
  ·refine kT<|seqE<|sR<|pu3<|sD 20 (b>0) (fun c0=>?_) (fun c0=>?_)
   rotate_left
   ·refine pu5<|nT<|cFf<|kT<|seqE ?_
    have ht:=times_t (a:=a) (b:=b) (x:=a) (y:=b) om om om om om
    exact rE<|pu2<|sMul a b<|pu2<|zE<|retT [I (a*b), .bool true]<|⟨by rw [ht.1,ht.2.1];rfl,hS⟩
   refine pu2<|gY<|sQuo 17592186044416 b<|pu2<|nT<|cD (a>((17592186044416:Int).tdiv b)) (fun d0=>?_) (fun d0=>?_)
   ·refine sR<|pu2<|zR<|retT [I 0, .bool false] ?_
    have ht:=times_f (a:=a) (b:=b) (x:=a) (y:=b) om om om
    exact ⟨by rw [ht.1,ht.2];rfl,hS⟩
   refine kT<|seqE ?_
   have ht:=times_t (a:=a) (b:=b) (x:=a) (y:=b) om om om om om
   exact rE<|pu2<|sMul a b<|pu2<|zE<|retT [I (a*b), .bool true]<|⟨by rw [ht.1,ht.2.1];rfl,hS⟩
  refine rE<|pu1<|stepY (I (-b)) rfl rfl (Y_neg b rfl kr)<|pu1<|zQ<|pu3<|sD 20 ((-b)>0) (fun e0=>?_) (fun e0=>?_)
  rotate_left
  ·refine pu5<|nT<|cFf<|kT<|seqE ?_
   have ht:=times_t (a:=a) (b:=b) (x:=a) (y:=(-b)) om om om om om
   exact rE<|pu2<|sMul a b<|pu2<|zE<|retT [I (a*b), .bool true]<|⟨by rw [ht.1,ht.2.1];rfl,hS⟩
  refine pu2<|gY<|sQuo 17592186044416 (-b)<|pu2<|nT<|cD (a>((17592186044416:Int).tdiv (-b))) (fun f0=>?_) (fun f0=>?_)
  ·refine sR<|pu2<|zR<|retT [I 0, .bool false] ?_
   have ht:=times_f (a:=a) (b:=b) (x:=a) (y:=(-b)) om om om
   exact ⟨by rw [ht.1,ht.2];rfl,hS⟩
  refine kT<|seqE ?_
  have ht:=times_t (a:=a) (b:=b) (x:=a) (y:=(-b)) om om om om om
  exact rE<|pu2<|sMul a b<|pu2<|zE<|retT [I (a*b), .bool true]<|⟨by rw [ht.1,ht.2.1];rfl,hS⟩
 refine rE<|pu1<|stepY (I (-a)) rfl rfl (Y_neg a rfl kr)<|pu1<|zQ<|pu2<|nT<|cD (b<0) (fun g0=>?_) (fun g0=>?_)
 rotate_left
 ·refine kT<|seqE<|sR<|pu3<|sD 20 (b>0) (fun h0=>?_) (fun h0=>?_)
  rotate_left
  ·refine pu5<|nT<|cFf<|kT<|seqE ?_
   have ht:=times_t (a:=a) (b:=b) (x:=(-a)) (y:=b) om om om om om
   exact rE<|pu2<|sMul a b<|pu2<|zE<|retT [I (a*b), .bool true]<|⟨by rw [ht.1,ht.2.1];rfl,hS⟩
  refine pu2<|gY<|sQuo 17592186044416 b<|pu2<|nT<|cD ((-a)>((17592186044416:Int).tdiv b)) (fun i0=>?_) (fun i0=>?_)
  ·refine sR<|pu2<|zR<|retT [I 0, .bool false] ?_
   have ht:=times_f (a:=a) (b:=b) (x:=(-a)) (y:=b) om om om
   exact ⟨by rw [ht.1,ht.2];rfl,hS⟩
  refine kT<|seqE ?_
  have ht:=times_t (a:=a) (b:=b) (x:=(-a)) (y:=b) om om om om om
  exact rE<|pu2<|sMul a b<|pu2<|zE<|retT [I (a*b), .bool true]<|⟨by rw [ht.1,ht.2.1];rfl,hS⟩
 refine rE<|pu1<|stepY (I (-b)) rfl rfl (Y_neg b rfl kr)<|pu1<|zQ<|pu3<|sD 20 ((-b)>0) (fun j0=>?_) (fun j0=>?_)
 rotate_left
 ·refine pu5<|nT<|cFf<|kT<|seqE ?_
  have ht:=times_t (a:=a) (b:=b) (x:=(-a)) (y:=(-b)) om om om om om
  exact rE<|pu2<|sMul a b<|pu2<|zE<|retT [I (a*b), .bool true]<|⟨by rw [ht.1,ht.2.1];rfl,hS⟩
 refine pu2<|gY<|sQuo 17592186044416 (-b)<|pu2<|nT<|cD ((-a)>((17592186044416:Int).tdiv (-b))) (fun k0=>?_) (fun k0=>?_)
 ·refine sR<|pu2<|zR<|retT [I 0, .bool false] ?_
  have ht:=times_f (a:=a) (b:=b) (x:=(-a)) (y:=(-b)) om om om
  exact ⟨by rw [ht.1,ht.2];rfl,hS⟩
 refine kT<|seqE ?_
 have ht:=times_t (a:=a) (b:=b) (x:=(-a)) (y:=(-b)) om om om om om
 exact rE<|pu2<|sMul a b<|pu2<|zE<|retT [I (a*b), .bool true]<|⟨by rw [ht.1,ht.2.1];rfl,hS⟩
theorem r14_abs (a:Int) (ha:-9223372036854775807<=a/\a<=9223372036854775807) (hS:Sat W w (H::F)):
  Ro prog 224 #[I a] (I (a.natAbs:Int)) W w (H::F):=by
 refine callsA 8 func224 rfl<|sR<|pu1<|zQ<|pu2<|nT<|cD (a<0) (fun a0=>?_) (fun a0=>?_)
 rotate_left
 ·exact kS<|pu2<|zE<|retT [I a]<|⟨congrArg (fun c=>Ending.returned (I c)) om,hS⟩
 exact sR<|pu1<|stepY (I (-a)) rfl rfl (Y_neg a rfl kr)<|pu1<|zR<|retT [I (-a)]<|⟨congrArg (fun c=>Ending.returned (I c)) om,hS⟩
theorem r14_product (x : Sp) (y : Sp) (hx : accS x) (hy : accS y) (hS : Sat W w (H :: F)) :
  Ro prog 226 #[.agg #[I x.lo, I x.hi], .agg #[I y.lo, I y.hi]] (.tuple #[.agg #[I (prodLo x y), I (prodHi x y)], .bool (prodOK x y)]) W w (H :: F) := by
 have hx1 := hx.1; have hx2 := hx.2; have hy1 := hy.1; have hy2 := hy.2
 refine callsA 67 func226 rfl <| sR <| sBox hS (.agg #[I x.lo, I x.hi]) #[I x.lo, I x.hi] fun _ _ j0 => sBox j0 (.agg #[I y.lo, I y.hi]) #[I y.lo, I y.hi] fun _ _ k0 => sAlloc k0 zeroValue200 fun _ _ b0 => pu1 <| zS <| pu1 <| sL b0 2 0 (I x.lo) (isAgg3 _) <| pu1 <| sL b0 1 0 (I y.lo) (isAgg3 _) <| cR call223 (r14_times x.lo y.lo (od) (od) b0.flat) fun _ c0 => pu5 <| zS <| pu1 <| sL c0 2 0 (I x.lo) (isAgg3 _) <| pu1 <| sL c0 1 1 (I y.hi) (isAgg3 _) <| cR call223 (r14_times x.lo y.hi (od) (od) c0.flat) fun _ d0 => pu5 <| zS <| pu1 <| sL d0 2 1 (I x.hi) (isAgg3 _) <| pu1 <| sL d0 1 0 (I y.lo) (isAgg3 _) <| cR call223 (r14_times x.hi y.lo (od) (od) d0.flat) fun _ e0 => ?_
 refine pu5 <| zS <| pu1 <| sL e0 2 1 (I x.hi) (isAgg3 _) <| pu1 <| sL e0 1 1 (I y.hi) (isAgg3 _) <| cR call223 (r14_times x.hi y.hi (od) (od) e0.flat) fun _ a0 => pu5 <| zS <| pu4 <| stepY (I (min (min (min (timesV x.lo y.lo) (timesV x.lo y.hi)) (timesV x.hi y.lo)) (timesV x.hi y.hi))) rfl rfl (Y_min4 (timesV x.lo y.lo) (timesV x.lo y.hi) (timesV x.hi y.lo) (timesV x.hi y.hi) rfl rfl kr kr kr kr) <| pu4 <| stepY (I (max (max (max (timesV x.lo y.lo) (timesV x.lo y.hi)) (timesV x.hi y.lo)) (timesV x.hi y.hi))) rfl rfl (Y_max4 (timesV x.lo y.lo) (timesV x.lo y.hi) (timesV x.hi y.lo) (timesV x.hi y.hi) rfl rfl kr kr kr kr) <| pu3 ?_
 refine sB 58 (timesOK x.lo y.lo) (fun l0 => ?_) (fun l0 => ?_)
 rotate_left
 ·refine pu8 <| sT a0 0 0 (.agg #[I (min (min (min (timesV x.lo y.lo) (timesV x.lo y.hi)) (timesV x.hi y.lo)) (timesV x.hi y.hi)), I (max (max (max (timesV x.lo y.lo) (timesV x.lo y.hi)) (timesV x.hi y.lo)) (timesV x.hi y.hi))]) [I (min (min (min (timesV x.lo y.lo) (timesV x.lo y.hi)) (timesV x.hi y.lo)) (timesV x.hi y.hi)), I (max (max (max (timesV x.lo y.lo) (timesV x.lo y.hi)) (timesV x.hi y.lo)) (timesV x.hi y.hi))] #[I (min (min (min (timesV x.lo y.lo) (timesV x.lo y.hi)) (timesV x.hi y.lo)) (timesV x.hi y.hi)), I (max (max (max (timesV x.lo y.lo) (timesV x.lo y.hi)) (timesV x.hi y.lo)) (timesV x.hi y.hi))] sizeOf200 fun _ f0 => ?_
  refine pu1 <| zE <| retN (vs := [.agg #[I (min (min (min (timesV x.lo y.lo) (timesV x.lo y.hi)) (timesV x.hi y.lo)) (timesV x.hi y.hi)), I (max (max (max (timesV x.lo y.lo) (timesV x.lo y.hi)) (timesV x.hi y.lo)) (timesV x.hi y.hi))], .bool false]) rfl (.cons (.cell _ _ _ _ kr (lvA f0 0 0 [I (min (min (min (timesV x.lo y.lo) (timesV x.lo y.hi)) (timesV x.hi y.lo)) (timesV x.hi y.hi)), I (max (max (max (timesV x.lo y.lo) (timesV x.lo y.hi)) (timesV x.hi y.lo)) (timesV x.hi y.hi))] (isAgg200 _) (sizeOf200 _) rfl rfl rfl)) (.cons (.tmp _ _ kr) .nil)) ?_
  have m0 := (f0.drops [0, 0, 0])
  have hOK : prodOK x y = false := by simp [prodOK, *]
  exact ⟨by rw [hOK]; rfl, m0⟩
 refine pu3 <| sB 61 (timesOK x.lo y.hi) (fun n0 => ?_) (fun n0 => ?_)
 rotate_left
 ·refine pu5 <| sT a0 0 0 (.agg #[I (min (min (min (timesV x.lo y.lo) (timesV x.lo y.hi)) (timesV x.hi y.lo)) (timesV x.hi y.hi)), I (max (max (max (timesV x.lo y.lo) (timesV x.lo y.hi)) (timesV x.hi y.lo)) (timesV x.hi y.hi))]) [I (min (min (min (timesV x.lo y.lo) (timesV x.lo y.hi)) (timesV x.hi y.lo)) (timesV x.hi y.hi)), I (max (max (max (timesV x.lo y.lo) (timesV x.lo y.hi)) (timesV x.hi y.lo)) (timesV x.hi y.hi))] #[I (min (min (min (timesV x.lo y.lo) (timesV x.lo y.hi)) (timesV x.hi y.lo)) (timesV x.hi y.hi)), I (max (max (max (timesV x.lo y.lo) (timesV x.lo y.hi)) (timesV x.hi y.lo)) (timesV x.hi y.hi))] sizeOf200 fun _ g0 => ?_
  refine pu1 <| zE <| retN (vs := [.agg #[I (min (min (min (timesV x.lo y.lo) (timesV x.lo y.hi)) (timesV x.hi y.lo)) (timesV x.hi y.hi)), I (max (max (max (timesV x.lo y.lo) (timesV x.lo y.hi)) (timesV x.hi y.lo)) (timesV x.hi y.hi))], .bool false]) rfl (.cons (.cell _ _ _ _ kr (lvA g0 0 0 [I (min (min (min (timesV x.lo y.lo) (timesV x.lo y.hi)) (timesV x.hi y.lo)) (timesV x.hi y.hi)), I (max (max (max (timesV x.lo y.lo) (timesV x.lo y.hi)) (timesV x.hi y.lo)) (timesV x.hi y.hi))] (isAgg200 _) (sizeOf200 _) rfl rfl rfl)) (.cons (.tmp _ _ kr) .nil)) ?_
  have o0 := (g0.drops [0, 0, 0])
  have hOK : prodOK x y = false := by simp [prodOK, *]
  exact ⟨by rw [hOK]; rfl, o0⟩
 refine pu3 <| sB 64 (timesOK x.hi y.lo) (fun p0 => ?_) (fun p0 => ?_)
 rotate_left
 ·refine pu2 <| sT a0 0 0 (.agg #[I (min (min (min (timesV x.lo y.lo) (timesV x.lo y.hi)) (timesV x.hi y.lo)) (timesV x.hi y.hi)), I (max (max (max (timesV x.lo y.lo) (timesV x.lo y.hi)) (timesV x.hi y.lo)) (timesV x.hi y.hi))]) [I (min (min (min (timesV x.lo y.lo) (timesV x.lo y.hi)) (timesV x.hi y.lo)) (timesV x.hi y.hi)), I (max (max (max (timesV x.lo y.lo) (timesV x.lo y.hi)) (timesV x.hi y.lo)) (timesV x.hi y.hi))] #[I (min (min (min (timesV x.lo y.lo) (timesV x.lo y.hi)) (timesV x.hi y.lo)) (timesV x.hi y.hi)), I (max (max (max (timesV x.lo y.lo) (timesV x.lo y.hi)) (timesV x.hi y.lo)) (timesV x.hi y.hi))] sizeOf200 fun _ h0 => ?_
  refine pu1 <| zE <| retN (vs := [.agg #[I (min (min (min (timesV x.lo y.lo) (timesV x.lo y.hi)) (timesV x.hi y.lo)) (timesV x.hi y.hi)), I (max (max (max (timesV x.lo y.lo) (timesV x.lo y.hi)) (timesV x.hi y.lo)) (timesV x.hi y.hi))], .bool false]) rfl (.cons (.cell _ _ _ _ kr (lvA h0 0 0 [I (min (min (min (timesV x.lo y.lo) (timesV x.lo y.hi)) (timesV x.hi y.lo)) (timesV x.hi y.hi)), I (max (max (max (timesV x.lo y.lo) (timesV x.lo y.hi)) (timesV x.hi y.lo)) (timesV x.hi y.hi))] (isAgg200 _) (sizeOf200 _) rfl rfl rfl)) (.cons (.tmp _ _ kr) .nil)) ?_
  have q0 := (h0.drops [0, 0, 0])
  have hOK : prodOK x y = false := by simp [prodOK, *]
  exact ⟨by rw [hOK]; rfl, q0⟩
 refine pu2 <| sT a0 0 0 (.agg #[I (min (min (min (timesV x.lo y.lo) (timesV x.lo y.hi)) (timesV x.hi y.lo)) (timesV x.hi y.hi)), I (max (max (max (timesV x.lo y.lo) (timesV x.lo y.hi)) (timesV x.hi y.lo)) (timesV x.hi y.hi))]) [I (min (min (min (timesV x.lo y.lo) (timesV x.lo y.hi)) (timesV x.hi y.lo)) (timesV x.hi y.hi)), I (max (max (max (timesV x.lo y.lo) (timesV x.lo y.hi)) (timesV x.hi y.lo)) (timesV x.hi y.hi))] #[I (min (min (min (timesV x.lo y.lo) (timesV x.lo y.hi)) (timesV x.hi y.lo)) (timesV x.hi y.hi)), I (max (max (max (timesV x.lo y.lo) (timesV x.lo y.hi)) (timesV x.hi y.lo)) (timesV x.hi y.hi))] sizeOf200 fun _ i0 => ?_
 refine pu1 <| zE <| retN (vs := [.agg #[I (min (min (min (timesV x.lo y.lo) (timesV x.lo y.hi)) (timesV x.hi y.lo)) (timesV x.hi y.hi)), I (max (max (max (timesV x.lo y.lo) (timesV x.lo y.hi)) (timesV x.hi y.lo)) (timesV x.hi y.hi))], .bool (timesOK x.hi y.hi)]) rfl (.cons (.cell _ _ _ _ kr (lvA i0 0 0 [I (min (min (min (timesV x.lo y.lo) (timesV x.lo y.hi)) (timesV x.hi y.lo)) (timesV x.hi y.hi)), I (max (max (max (timesV x.lo y.lo) (timesV x.lo y.hi)) (timesV x.hi y.lo)) (timesV x.hi y.hi))] (isAgg200 _) (sizeOf200 _) rfl rfl rfl)) (.cons (.tmp _ _ kr) .nil)) ?_
 have r0 := (i0.drops [0, 0, 0])
 have hOK : prodOK x y = (timesOK x.hi y.hi) := by simp [prodOK, *]
 exact ⟨by rw [hOK]; rfl, r0⟩
def nextV (o:POp) (x y:Sp) (a b:Int):Sp:=
  if o.code=0 then ⟨0,a⟩ else if o.code=1 then ⟨0,b⟩ else if o.code=2 then ⟨o.arg,o.arg⟩ else if o.code=3 then ⟨x.lo+y.lo,x.hi+y.hi⟩ else if o.code=4 then ⟨x.lo-y.hi,x.hi-y.lo⟩
  else if o.code=5 then ⟨prodLo x y,prodHi x y⟩ else if o.code=6 then ⟨min x.lo y.lo,min x.hi y.hi⟩ else if o.code=7 then ⟨max x.lo y.lo,max x.hi y.hi⟩ else if o.code=8 then ⟨0,max (x.hi-y.lo) (y.hi-x.lo)⟩
  else if o.code=9 then ⟨-(max (x.lo.natAbs:Int) x.hi.natAbs),max (x.lo.natAbs:Int) x.hi.natAbs⟩ else if o.code=10 then ⟨shiftV x.lo o.arg,shiftV x.hi o.arg⟩ else ⟨0,max (x.lo.natAbs:Int) x.hi.natAbs⟩
def nextB (o:POp) (x y:Sp):Bool:=if o.code=5 then prodOK x y else true
def nextOK (o:POp) (x y:Sp) (a b:Int):Prop:=nextB o x y=true/\(-17592186044416<=(nextV o x y a b).lo/\(nextV o x y a b).lo<=17592186044416)/\-17592186044416<=(nextV o x y a b).hi/\(nextV o x y a b).hi<=17592186044416
instance (o:POp) (x y:Sp) (a b:Int):Decidable (nextOK o x y a b):=by unfold nextOK;infer_instance
theorem r14_next (o:POp) (x:Sp) (y:Sp) (a:Int) (b:Int) (hx:accS x) (hy:accS y) (hab:(1<=a/\a<=4294967296)/\1<=b/\b<=4294967296) (ho:argP o) (hS:Sat W w (H::F)):
  Ro prog 222 #[.agg #[I o.code,I o.arg], .agg #[I x.lo,I x.hi], .agg #[I y.lo,I y.hi],I a,I b] (.tuple #[.agg #[I ((nextV o x y a b).lo),I ((nextV o x y a b).hi)], .bool (decide (nextOK o x y a b))]) W w (H::F):=by
 have hx1:=hx.1;have hx2:=hx.2;have hy1:=hy.1;have hy2:=hy.2
 refine callsA 148 func222 rfl<|sR<|sBox hS (.agg #[I o.code,I o.arg]) #[I o.code,I o.arg] fun p0 _ q0=>sBox q0 (.agg #[I x.lo,I x.hi]) #[I x.lo,I x.hi] fun f0 _ r0=>sBox r0 (.agg #[I y.lo,I y.hi]) #[I y.lo,I y.hi] fun s0 _ t0=>sAlloc t0 zeroValue200 fun k0 _ g0=>pu1<|nT<|seqE<|drawE [2,5] [(1,⟨f0,0,none⟩,I x.lo),(4,⟨f0,1,none⟩,I x.hi)] [(true,[0,3]),(true,[1]),(true,[4]),(false,[2]),(false,[5]),(true,[6]),(true,[7])] rfl kr ⟨cI g0 2,cI g0 2,trivial⟩ ?_
 have u0:=g0.drew
 refine wU [0,3]<|wLd (I x.lo) 0 isAgg3<|wLd (I x.hi) 1 isAgg3<|wO rfl<|cR call224 (r14_abs x.lo (od) u0.flat) fun _ l0=>nilO ⟨⟨dI,cI l0 2,trivial⟩,?_⟩
 refine wO rfl<|cR call224 (r14_abs x.hi (od) l0.flat) fun _ v0=>nilO ⟨dA,?_⟩
 refine wY (I (max (x.lo.natAbs:Int) (x.hi.natAbs:Int))) rfl (fun w _=>Y_max2 (x.lo.natAbs:Int) (x.hi.natAbs:Int) rfl rfl kr kr)<|wU [7]<|wN<|tN<|sR<|pu1<|sAlloc v0 zeroValue200 fun c0 _ w0=>?_
 refine sT w0 0 0 (.agg #[I 0,I 0]) [I 0,I 0] #[I 0,I 0] sizeOf200 fun _ a0=>pu1<|nT<|cutA (γ:=Int×Int×Bool) (fun ⟨vlo,vhi,vb⟩=>[(10,Pt k0 0),(13,Pt c0 0),(14, .bool vb)]) (fun ⟨vlo,vhi,vb⟩ w=>Sat W w ([(c0, .cells #[I vlo,I vhi] 200 (0,0))]::[(k0, .cells #[I 0,I 0] 200 (0,0))]::[(s0, .cells #[I y.lo,I y.hi] 200 (0,0))]::[(f0, .cells #[I x.lo,I x.hi] 200 (0,0))]::[(p0, .cells #[I o.code,I o.arg] 75 (0,0))]::H::F)/\(nextV o x y a b=⟨vlo,vhi⟩)/\(nextB o x y=vb)) ?_ ?_
 rotate_left
 ·rintro ⟨vlo,vhi,vb⟩ ρ _ ⟨d0,hv,hvb⟩
  refine seqE ?_
  rcases Classical.em (vb=true) with h0|h0
  rotate_left
  ·refine drawE [5,10,12] [(0,⟨c0,0,none⟩,I vlo),(0,⟨c0,1,none⟩,I vhi)] [(true,[1,2]),(true,[3]),(true,[0]),(true,[4]),(false,[5]),(true,[6,7,8,9]),(false,[10]),(true,[11]),(false,[12]),(true,[13])] rfl kr ⟨cI d0 0,cI d0 0,trivial⟩ ?_
   have e0:=d0.drew
   refine wU [1,2]<|wFix 138 _ false (Bool.eq_false_iff.2 h0)<|wU [3]<|wY (.agg #[I vlo,I vhi]) rfl (fun w hF=>Y_loadF rfl (isAgg200 w) (sizeOf200 w) kr rfl ⟨hF 0 _ _ rfl,hF 1 _ _ rfl,trivial⟩)<|wU [4]<|wO rfl<|pu1<|nilO ⟨⟨cI e0 0,cI e0 0,trivial⟩,?_⟩
   refine wU [6,7,8,9]<|wO rfl<|pu1<|nilO ⟨⟨cI e0 0,cI e0 0,trivial⟩,?_⟩
   refine wU [11]<|wO rfl<|sT e0 1 0 (.agg #[I vlo,I vhi]) [I vlo,I vhi] #[I vlo,I vhi] sizeOf200 fun _ m0=>nilO ⟨dA,?_⟩
   refine wU [13]<|wN<|tN<|retE<|retN (vs:=[.agg #[I vlo,I vhi], .bool false]) rfl (.cons (.cell _ _ _ _ kr (lvA m0 1 0 [I vlo,I vhi] (isAgg200 _) (sizeOf200 _) rfl rfl rfl)) (.cons (.tmp _ _ kr) .nil)) ?_
   have x0:=(m0.drops [0,0,0,0,0])
   have hiff:nextOK o x y a b↔(vb=true/\(-17592186044416<=vlo/\vlo<=17592186044416)/\-17592186044416<=vhi/\vhi<=17592186044416):=by unfold nextOK;rw [hv,hvb]
   have hOK:decide (nextOK o x y a b)=false:=decide_eq_false (fun h=>by obtain ⟨h3,h4,h5⟩:=hiff.1 h;first|contradiction|omega)
   exact ⟨by rw [hOK,hv];rfl,x0⟩
  refine drawE [5,9,10,12] [(0,⟨c0,0,none⟩,I vlo),(0,⟨c0,1,none⟩,I vhi),(4,⟨c0,0,none⟩,I vlo)] [(true,[1,2]),(true,[3]),(true,[0]),(true,[4]),(false,[5]),(true,[6,7]),(true,[8]),(false,[9]),(false,[10]),(true,[11]),(false,[12]),(true,[13])] rfl kr ⟨cI d0 0,cI d0 0,cI d0 0,trivial⟩ ?_
  have y0:=d0.drew
  refine wU [1,2]<|wFix 138 _ true h0<|wU [3]<|wY (.agg #[I vlo,I vhi]) rfl (fun w hF=>Y_loadF rfl (isAgg200 w) (sizeOf200 w) kr rfl ⟨hF 0 _ _ rfl,hF 1 _ _ rfl,trivial⟩)<|wLd (I vlo) 2 isAgg3<|wO rfl<|gY<|cR call205 (r7_acc vlo y0.flat) fun _ b0=>nilO ⟨⟨cI b0 0,cI b0 0,dI,trivial⟩,?_⟩
  refine wU [6,7] ?_
  rcases Classical.em ((-17592186044416:Int)<=vlo/\vlo<=(17592186044416:Int)) with i0|i0
  rotate_left
  ·refine wFix 143 _ false (decide_eq_false i0)<|wU [8]<|wO rfl<|pu1<|nilO ⟨⟨cI b0 0,cI b0 0,dI,trivial⟩,?_⟩
   refine wO rfl<|pu1<|nilO ⟨⟨cI b0 0,cI b0 0,dI,trivial⟩,?_⟩
   refine wU [11]<|wO rfl<|sT b0 1 0 (.agg #[I vlo,I vhi]) [I vlo,I vhi] #[I vlo,I vhi] sizeOf200 fun _ n0=>nilO ⟨dA,?_⟩
   refine wU [13]<|wN<|tN<|retE<|retN (vs:=[.agg #[I vlo,I vhi], .bool false]) rfl (.cons (.cell _ _ _ _ kr (lvA n0 1 0 [I vlo,I vhi] (isAgg200 _) (sizeOf200 _) rfl rfl rfl)) (.cons (.tmp _ _ kr) .nil)) ?_
   have z0:=(n0.drops [0,0,0,0,0])
   have hiff:nextOK o x y a b↔(vb=true/\(-17592186044416<=vlo/\vlo<=17592186044416)/\-17592186044416<=vhi/\vhi<=17592186044416):=by unfold nextOK;rw [hv,hvb]
   have hOK:decide (nextOK o x y a b)=false:=decide_eq_false (fun h=>by obtain ⟨h3,h4,h5⟩:=hiff.1 h;first|contradiction|omega)
   exact ⟨by rw [hOK,hv];rfl,z0⟩
  refine wFix 143 _ true (decide_eq_true i0)<|wU [8]<|wO rfl<|gY<|sL b0 0 1 (I vhi) (isAgg3 _)<|nilO ⟨⟨cI b0 0,cI b0 0,dI,trivial⟩,?_⟩
  refine wO rfl<|gY<|cR call205 (r7_acc vhi b0.flat) fun _ j0=>nilO ⟨⟨cI j0 0,cI j0 0,dI,trivial⟩,?_⟩
  refine wU [11]<|wO rfl<|sT j0 1 0 (.agg #[I vlo,I vhi]) [I vlo,I vhi] #[I vlo,I vhi] sizeOf200 fun _ o0=>nilO ⟨dA,?_⟩
  refine wU [13]<|wN<|tN<|retE<|retN (vs:=[.agg #[I vlo,I vhi], .bool (decide ((-17592186044416:Int)<=vhi/\vhi<=(17592186044416:Int)))]) rfl (.cons (.cell _ _ _ _ kr (lvA o0 1 0 [I vlo,I vhi] (isAgg200 _) (sizeOf200 _) rfl rfl rfl)) (.cons (.tmp _ _ kr) .nil)) ?_
  have a1:=(o0.drops [0,0,0,0,0])
  have hiff:nextOK o x y a b↔(vb=true/\(-17592186044416<=vlo/\vlo<=17592186044416)/\-17592186044416<=vhi/\vhi<=17592186044416):=by unfold nextOK;rw [hv,hvb]
  have hOK:decide (nextOK o x y a b)=decide ((-17592186044416:Int)<=vhi/\vhi<=(17592186044416:Int)):=decide_eq_decide.2 (hiff.trans ⟨fun h=>h.2.2,fun h=>⟨by assumption,om,h⟩⟩)
  exact ⟨by rw [hOK,hv];rfl,a1⟩
 refine sR<|pu1<|sL a0 4 0 (I o.code) (isAgg3 _)<|nT<|blockE<|sR<|pu2<|nT<|cE o.code 0 (fun b1=>?_) (fun b1=>?_)
 ·exact rE<|pu2<|sT a0 0 0 (.agg #[I 0,I a]) [I 0,I a] #[I 0,I a] sizeOf200 fun _ c1=>nB<|⟨(0,a,true),alA,c1,(by unfold nextV;rw [if_pos om]<;>rfl),(by unfold nextB;rw [if_neg om])⟩
 refine sR<|pu2<|nT<|cE o.code 1 (fun d1=>?_) (fun d1=>?_)
 ·exact rE<|pu2<|sT a0 0 0 (.agg #[I 0,I b]) [I 0,I b] #[I 0,I b] sizeOf200 fun _ e1=>nB<|⟨(0,b,true),alA,e1,(by unfold nextV;rw [if_neg om,if_pos om]<;>rfl),(by unfold nextB;rw [if_neg om])⟩
 refine sR<|pu2<|nT<|cE o.code 2 (fun f1=>?_) (fun f1=>?_)
 ·exact rE<|pu1<|sL a0 4 1 (I o.arg) (isAgg3 _)<|pu1<|sL a0 4 1 (I o.arg) (isAgg3 _)<|pu1<|sT a0 0 0 (.agg #[I o.arg,I o.arg]) [I o.arg,I o.arg] #[I o.arg,I o.arg] sizeOf200 fun _ g1=>nB<|⟨(o.arg,o.arg,true),alA,g1,(by unfold nextV;rw [if_neg om,if_neg om,if_pos om]<;>rfl),(by unfold nextB;rw [if_neg om])⟩
 refine sR<|pu2<|nT<|cE o.code 3 (fun h1=>?_) (fun h1=>?_)
 ·exact rE<|pu1<|sL a0 3 0 (I x.lo) (isAgg3 _)<|pu1<|sL a0 2 0 (I y.lo) (isAgg3 _)<|sAdd x.lo y.lo<|pu1<|sL a0 3 1 (I x.hi) (isAgg3 _)<|pu1<|sL a0 2 1 (I y.hi) (isAgg3 _)<|sAdd x.hi y.hi<|pu1<|sT a0 0 0 (.agg #[I (x.lo+y.lo),I (x.hi+y.hi)]) [I (x.lo+y.lo),I (x.hi+y.hi)] #[I (x.lo+y.lo),I (x.hi+y.hi)] sizeOf200 fun _ i1=>nB<|⟨((x.lo+y.lo),(x.hi+y.hi),true),alA,i1,(by unfold nextV;rw [if_neg om,if_neg om,if_neg om,if_pos om]<;>rfl),(by unfold nextB;rw [if_neg om])⟩
 refine sR<|pu2<|nT<|cE o.code 4 (fun j1=>?_) (fun j1=>?_)
 ·exact rE<|pu1<|sL a0 3 0 (I x.lo) (isAgg3 _)<|pu1<|sL a0 2 1 (I y.hi) (isAgg3 _)<|sSub x.lo y.hi<|pu1<|sL a0 3 1 (I x.hi) (isAgg3 _)<|pu1<|sL a0 2 0 (I y.lo) (isAgg3 _)<|sSub x.hi y.lo<|pu1<|sT a0 0 0 (.agg #[I (x.lo-y.hi),I (x.hi-y.lo)]) [I (x.lo-y.hi),I (x.hi-y.lo)] #[I (x.lo-y.hi),I (x.hi-y.lo)] sizeOf200 fun _ k1=>nB<|⟨((x.lo-y.hi),(x.hi-y.lo),true),alA,k1,(by unfold nextV;rw [if_neg om,if_neg om,if_neg om,if_neg om,if_pos om]<;>rfl),(by unfold nextB;rw [if_neg om])⟩
 refine sR<|pu2<|nT<|cE o.code 5 (fun l1=>?_) (fun l1=>?_)
 ·exact rE<|lA a0 3 0 2 (isAgg200 _) (sizeOf200 _)<|lA a0 2 0 2 (isAgg200 _) (sizeOf200 _)<|cR call226 (r14_product x y (by unfold accS;first|assumption|omega) (by unfold accS;first|assumption|omega) a0.flat) fun _ m1=>pu3<|sT m1 0 0 (.agg #[I (prodLo x y),I (prodHi x y)]) [I (prodLo x y),I (prodHi x y)] #[I (prodLo x y),I (prodHi x y)] sizeOf200 fun _ n1=>pu1<|nB<|⟨((prodLo x y),(prodHi x y),(prodOK x y)),alA,n1,(by unfold nextV;rw [if_neg om,if_neg om,if_neg om,if_neg om,if_neg om,if_pos om]<;>rfl),(by unfold nextB;rw [if_pos om])⟩
 refine sR<|pu2<|nT<|cE o.code 6 (fun o1=>?_) (fun o1=>?_)
 ·exact rE<|pu1<|sL a0 3 0 (I x.lo) (isAgg3 _)<|pu1<|sL a0 2 0 (I y.lo) (isAgg3 _)<|stepY (I (min x.lo y.lo)) rfl rfl (Y_min2 x.lo y.lo rfl rfl kr kr)<|pu1<|sL a0 3 1 (I x.hi) (isAgg3 _)<|pu1<|sL a0 2 1 (I y.hi) (isAgg3 _)<|stepY (I (min x.hi y.hi)) rfl rfl (Y_min2 x.hi y.hi rfl rfl kr kr)<|pu1<|sT a0 0 0 (.agg #[I (min x.lo y.lo),I (min x.hi y.hi)]) [I (min x.lo y.lo),I (min x.hi y.hi)] #[I (min x.lo y.lo),I (min x.hi y.hi)] sizeOf200 fun _ q1=>nB<|⟨((min x.lo y.lo),(min x.hi y.hi),true),alA,q1,(by unfold nextV;rw [if_neg om,if_neg om,if_neg om,if_neg om,if_neg om,if_neg om,if_pos om]<;>rfl),(by unfold nextB;rw [if_neg om])⟩
 refine sR<|pu2<|nT<|cE o.code 7 (fun r1=>?_) (fun r1=>?_)
 ·exact rE<|pu1<|sL a0 3 0 (I x.lo) (isAgg3 _)<|pu1<|sL a0 2 0 (I y.lo) (isAgg3 _)<|stepY (I (max x.lo y.lo)) rfl rfl (Y_max2 x.lo y.lo rfl rfl kr kr)<|pu1<|sL a0 3 1 (I x.hi) (isAgg3 _)<|pu1<|sL a0 2 1 (I y.hi) (isAgg3 _)<|stepY (I (max x.hi y.hi)) rfl rfl (Y_max2 x.hi y.hi rfl rfl kr kr)<|pu1<|sT a0 0 0 (.agg #[I (max x.lo y.lo),I (max x.hi y.hi)]) [I (max x.lo y.lo),I (max x.hi y.hi)] #[I (max x.lo y.lo),I (max x.hi y.hi)] sizeOf200 fun _ s1=>nB<|⟨((max x.lo y.lo),(max x.hi y.hi),true),alA,s1,(by unfold nextV;rw [if_neg om,if_neg om,if_neg om,if_neg om,if_neg om,if_neg om,if_neg om,if_pos om]<;>rfl),(by unfold nextB;rw [if_neg om])⟩
 refine sR<|pu2<|nT<|cE o.code 8 (fun t1=>?_) (fun t1=>?_)
 ·refine rE<|pu1<|sL a0 3 1 (I x.hi) (isAgg3 _)<|pu1<|sL a0 2 0 (I y.lo) (isAgg3 _)<|sSub x.hi y.lo<|pu1<|sL a0 2 1 (I y.hi) (isAgg3 _)<|pu1<|sL a0 3 0 (I x.lo) (isAgg3 _)<|sSub y.hi x.lo<|stepY (I (max (x.hi-y.lo) (y.hi-x.lo))) rfl rfl (Y_max2 (x.hi-y.lo) (y.hi-x.lo) rfl rfl kr kr)<|pu1<|sT a0 0 0 (.agg #[I 0,I (max (x.hi-y.lo) (y.hi-x.lo))]) [I 0,I (max (x.hi-y.lo) (y.hi-x.lo))] #[I 0,I (max (x.hi-y.lo) (y.hi-x.lo))] sizeOf200 fun _ u1=>nB ?_
  exact ⟨(0,(max (x.hi-y.lo) (y.hi-x.lo)),true),alA,u1,(by unfold nextV;rw [if_neg om,if_neg om,if_neg om,if_neg om,if_neg om,if_neg om,if_neg om,if_neg om,if_pos om]<;>rfl),(by unfold nextB;rw [if_neg om])⟩
 refine sR<|pu2<|nT<|cE o.code 9 (fun v1=>?_) (fun v1=>?_)
 ·refine rE<|pu1<|stepY (I (-(max (x.lo.natAbs:Int) (x.hi.natAbs:Int)))) rfl rfl (Y_neg (max (x.lo.natAbs:Int) (x.hi.natAbs:Int)) rfl kr)<|pu2<|sT a0 0 0 (.agg #[I (-(max (x.lo.natAbs:Int) (x.hi.natAbs:Int))),I (max (x.lo.natAbs:Int) (x.hi.natAbs:Int))]) [I (-(max (x.lo.natAbs:Int) (x.hi.natAbs:Int))),I (max (x.lo.natAbs:Int) (x.hi.natAbs:Int))] #[I (-(max (x.lo.natAbs:Int) (x.hi.natAbs:Int))),I (max (x.lo.natAbs:Int) (x.hi.natAbs:Int))] sizeOf200 fun _ w1=>nB ?_
  exact ⟨((-(max (x.lo.natAbs:Int) (x.hi.natAbs:Int))),(max (x.lo.natAbs:Int) (x.hi.natAbs:Int)),true),alA,w1,(by unfold nextV;rw [if_neg om,if_neg om,if_neg om,if_neg om,if_neg om,if_neg om,if_neg om,if_neg om,if_neg om,if_pos om]<;>rfl),(by unfold nextB;rw [if_neg om])⟩
 refine sR<|pu2<|nT<|cE o.code 10 (fun x1=>?_) (fun x1=>?_)
 rotate_left
 ·exact rE<|pu2<|sT a0 0 0 (.agg #[I 0,I (max (x.lo.natAbs:Int) (x.hi.natAbs:Int))]) [I 0,I (max (x.lo.natAbs:Int) (x.hi.natAbs:Int))] #[I 0,I (max (x.lo.natAbs:Int) (x.hi.natAbs:Int))] sizeOf200 fun _ y1=>nB<|⟨(0,(max (x.lo.natAbs:Int) (x.hi.natAbs:Int)),true),alA,y1,(by unfold nextV;rw [if_neg om,if_neg om,if_neg om,if_neg om,if_neg om,if_neg om,if_neg om,if_neg om,if_neg om,if_neg om,if_neg om]<;>rfl),(by unfold nextB;rw [if_neg om])⟩
 exact rE<|pu1<|sL a0 3 0 (I x.lo) (isAgg3 _)<|pu1<|sL a0 3 1 (I x.hi) (isAgg3 _)<|pu1<|sL a0 4 1 (I o.arg) (isAgg3 _)<|cR call201 (r7_span x.lo x.hi o.arg a0.flat) fun _ z1=>pu4<|sT z1 0 0 (I (shiftV x.lo o.arg)) [I (shiftV x.lo o.arg)] #[I (shiftV x.lo o.arg),I 0] sizeOf3 fun _ a2=>pu1<|sT a2 0 1 (I (shiftV x.hi o.arg)) [I (shiftV x.hi o.arg)] #[I (shiftV x.lo o.arg),I (shiftV x.hi o.arg)] sizeOf3 fun _ b2=>nB<|⟨((shiftV x.lo o.arg),(shiftV x.hi o.arg),true),alA,b2,(by unfold nextV;rw [if_neg om,if_neg om,if_neg om,if_neg om,if_neg om,if_neg om,if_neg om,if_neg om,if_neg om,if_neg om,if_pos om]<;>rfl),(by unfold nextB;rw [if_neg om])⟩
theorem opsGo_zero {two:Bool} {o:POp} {l:List POp} {h:Int} (e:opsGo two (o::l) h=0):¬opBad two o h/\argP o/\opsGo two l (h+(1-takesV o.code))=0:=by
  unfold opsGo at e
  split at e
  · omega
  · split at e
    · exact ⟨by assumption,by assumption,e⟩
    · omega
theorem opsCode_go {l:List POp} {two:Bool} (h:opsCode l two=0):opsGo two l 0=0/\0<l.length/\l.length<=32:=by
  unfold opsCode at h
  split at h
  · omega
  · exact ⟨h,by omega,by omega⟩
def ivY (o:POp) (st:List Sp):Sp:=if takesV o.code=2 then st[st.length-1]?.getD (⟨0,0⟩:Sp) else ⟨0,0⟩
def ivX (o:POp) (st:List Sp):Sp:=if 0<takesV o.code then st[st.length-(takesV o.code).toNat]?.getD (⟨0,0⟩:Sp) else ⟨0,0⟩
def ivGo (a b:Int):List POp->List Sp->Option (List Sp)
  |[],st=>some st
  |o::l,st=>if nextOK o (ivX o st) (ivY o st) a b then ivGo a b l (st.take (st.length-(takesV o.code).toNat)++[nextV o (ivX o st) (ivY o st) a b]) else none
def ivRes (l:List POp) (a b:Int):Int×Int×Int:=
  if opsCode l true=0 then (if (1<=a/\a<=4294967296)/\1<=b/\b<=4294967296 then (match ivGo a b l [] with|some st=>((st[0]?.getD (⟨0,0⟩:Sp)).lo,(st[0]?.getD (⟨0,0⟩:Sp)).hi,0)|none=>(0,0,11)) else (0,0,2)) else (0,0,opsCode l true)
theorem ivGo_ok {a b:Int} {o:POp} {l:List POp} {st m:List Sp} {x y:Sp} (hy:ivY o st=y) (hx:ivX o st=x) (hok:nextOK o x y a b) (hm:m=st.take (st.length-(takesV o.code).toNat)):ivGo a b (o::l) st=ivGo a b l (m++[nextV o x y a b]):=by
  subst hy hx hm;rw [ivGo,if_pos hok]
theorem ivGo_bad {a b:Int} {o:POp} {l:List POp} {st:List Sp} {x y:Sp} (hy:ivY o st=y) (hx:ivX o st=x) (hok:¬nextOK o x y a b):ivGo a b (o::l) st=none:=by
  subst hy hx;rw [ivGo,if_neg hok]
def pwCode (l:List POp) (two:Bool) (a b out:Int):Int:=if opsCode l two=0 then (if 1<=out/\out<=4294967296 then (ivRes l a (if two=true then b else 1)).2.2 else 2) else opsCode l two
theorem r14_interval (ax : Option Addr) (nx kx : Nat) (x : List POp) (a : Int) (b : Int) (hx : RdT encPOp 2 [H] ax nx kx x) (hS : Sat W w (H :: F)) :
  Ro prog 204 #[.slice ax nx kx, I a, I b] (.tuple #[I ((ivRes x a b).1), I ((ivRes x a b).2.1), I ((ivRes x a b).2.2)]) W w (H :: F) := by
 have hl_x := hx.le; have hn_x := hx.len
 refine callsA 92 func204 rfl <| sR <| pu3 <| zQ <| pu1 <| cR call203 (r14_valid ax nx kx x true (RdT.flat (hx.up 0 (by rfl))) hS.flat) fun _ t1 => pu1 <| zS <| pu2 <| nT <| cN (opsCode x true) 0 (fun j2 => ?_) (fun j2 => ?_)
 rotate_left
 ·refine sR <| pu4 <| zR <| retT [I 0, I 0, I (opsCode x true)] <| ⟨?_, t1⟩
  unfold ivRes
  (repeat' split) <;> first | rfl | (exfalso; omega) | contradiction | (exfalso; simp_all; done) | (simp_all; done)
 refine kT <| seqE <| sR <| pu1 <| cR call199 (r9_value a t1.flat) fun _ u1 => pu2 <| sDn 25 ((1 : Int) <= a /\ a <= (4294967296 : Int)) (fun k2 => ?_) (fun k2 => ?_)
 rotate_left
 ·refine pu4 <| zC <| pu3 <| zR <| retT [I 0, I 0, I 2] <| ⟨?_, u1⟩
  unfold ivRes
  (repeat' split) <;> first | rfl | (exfalso; omega) | contradiction | (exfalso; simp_all; done) | (simp_all; done)
 refine pu1 <| gY <| cR call199 (r9_value b u1.flat) fun _ v1 => pu2 <| nT <| cDn ((1 : Int) <= b /\ b <= (4294967296 : Int)) (fun l2 => ?_) (fun l2 => ?_)
 rotate_left
 ·refine sR <| pu3 <| zR <| retT [I 0, I 0, I 2] <| ⟨?_, v1⟩
  unfold ivRes
  (repeat' split) <;> first | rfl | (exfalso; omega) | contradiction | (exfalso; simp_all; done) | (simp_all; done)
 refine kS <| pu1 <| nT <| seqE <| seqE ?_
 obtain ⟨hx0, hx1, hx32⟩ := opsCode_go (l := x) (two := true) om
 refine rE <| pu1 <| nT <| blockE ?_
 have m2 := Sat.nilc v1
 refine loopA (γ := Nat × (List Sp) × (Option Addr) × Nat × Nat × Chunk) (fun ⟨i, zs, azs, nzs, kzs, czs⟩ => [(0, .slice ax nx kx), (1, I a), (2, I b), (11, I (i : Int)), (10, .slice azs nzs kzs)]) (fun ⟨i, zs, azs, nzs, kzs, czs⟩ w => Sat W w (czs :: H :: F) /\ i <= nx /\ (ivGo a b x [] = ivGo a b (x.drop i) zs) /\ (opsGo true (x.drop i) (zs.length : Int) = 0) /\ (∀ z ∈ zs, accS z) /\ (zs.length <= i) /\ OwnT encSp 200 2 azs nzs kzs zs czs) (fun ⟨i, zs, azs, nzs, kzs, czs⟩ => nx - i) (0, [], none, 0, 0, []) ⟨m2, om, by rfl, (opsCode_go (l := x) (two := true) om).1, (by intro z hz; cases hz), by simp, (OwnT.nil (enc := encSp) (E := 200) (sz := 2) fR)⟩ ?_
 rintro ⟨i, zs, azs, nzs, kzs, czs⟩ ρ _ ⟨o0, hi, hG, hH, hAc, hzl, hOzs⟩
 have hn_zs := hOzs.len; have hl_zs := hOzs.le
 refine seqE <| sR <| pu4 <| nT <| cD ((i : Int) < (nx : Int)) (fun o2 => ?_) (fun o2 => ?_)
 rotate_left
 ·refine exitE <| xB <| tN <| seqE ?_
  have hh : opsGo true (x.drop i) zs.length = 0 := hH
  rw [List.drop_of_length_le om] at hh; have hz1 : zs.length = 1 := by unfold opsGo at hh; split at hh <;> omega
  obtain ⟨g0, s0, t0, d1, e1, f1, d6⟩ := OwnT.elem hOzs 0
  change _[0]? = _ at d1; change PtR _ _ (_ + 0 * _) _ at e1; change ElemAt _ _ _ _ _ (_ + 0 * _) at f1
  have hacc_x_217 : accS g0 := hAc g0 (List.mem_of_getElem? d1)
  refine drawE [] [(3, ⟨s0, t0 + 0 * 2 + 0, none⟩, I g0.lo), (7, ⟨s0, t0 + 0 * 2 + 1, none⟩, I g0.hi)] [(true, [0]), (true, [1]), (true, [2, 4]), (true, [5]), (true, [6]), (true, [3]), (true, [8]), (true, [7]), (true, [9, 10])] rfl kr ⟨.inr ((e1.up 0 rfl).cell o0 (k := 0) rfl), .inr ((e1.up 0 rfl).cell o0 (k := 1) rfl), trivial⟩ ?_
  have p2 := o0.drew
  refine wU [0] <| wY (.pointer (some ⟨s0, t0 + 0 * 2, none⟩)) rfl (fun w _ => Y_idx (a := azs) (i := 0) (len := nzs) (cap := kzs) rfl runUnderlying198 sizeOf200 kr kr f1) <| wU [2, 4] <| wY (.pointer (some ⟨s0, t0 + 0 * 2, none⟩)) rfl (fun w _ => Y_idx (a := azs) (i := 0) (len := nzs) (cap := kzs) rfl runUnderlying198 sizeOf200 kr kr f1) <| wU [6] <| wLd (I g0.lo) 0 isAgg3 <| wU [8] <| wLd (I g0.hi) 1 isAgg3 <| wU [9, 10] <| wN <| tN <| retE <| retT [I g0.lo, I g0.hi, I 0] ?_
  have q2 := (p2.dropAt 0 rfl)
  have hr0 : opsCode x true = 0 := by omega
  have hres : ivRes x a b = (match ivGo a b x [] with | some st => ((st[0]?.getD (⟨0, 0⟩ : Sp)).lo, (st[0]?.getD (⟨0, 0⟩ : Sp)).hi, 0) | none => (0, 0, 11)) := by unfold ivRes; rw [if_pos hr0, if_pos om]
  have hend : ivGo a b x [] = some zs := by rw [hG, List.drop_of_length_le om]; rfl
  have hz0 : zs[0]? = some g0 := d1
  exact ⟨by rw [hres, hend]; dsimp only; rw [hz0]; rfl, q2⟩
 refine kT <| seqE <| blockE <| sR <| pu2 <| sIdx hx (i : Int) runUnderlying51 sizeOf75 fun a0 _ _ e0 r2 => ?_
 rw [Int.toNat_natCast] at e0
 obtain ⟨hob, hoa, hog⟩ := opsGo_zero (by rw [<- drop_at e0]; exact hH)
 have htk_x_18 := takesV_bd a0.code; have hob2 : takesV a0.code <= zs.length := by unfold opBad at hob; omega
 refine pu1 <| sLp o0 (r2.up 1 rfl) 0 (I a0.code) (isAgg3 _) <| cR call206 (r14_takes a0.code o0.flat) fun _ s2 => ?_
 have h6 : 0 <= (takesV a0.code) /\ (takesV a0.code) <= 2 := takesV_bd _
 refine pu1 <| zS <| pu2 <| sAlloc s2 zeroValue200 fun m0 _ t2 => sAlloc t2 zeroValue200 fun n0 _ u2 => ?_
 refine sT u2 1 0 (.agg #[I 0, I 0]) [I 0, I 0] #[I 0, I 0] sizeOf200 fun _ v2 => sT v2 0 0 (.agg #[I 0, I 0]) [I 0, I 0] #[I 0, I 0] sizeOf200 fun _ f0 => zQ <| pu2 <| nT <| cE (takesV a0.code) 2 (fun w2 => ?_) (fun w2 => ?_)
 ·refine rE <| pu3 <| sSub (nzs : Int) 1 <| sIdxO hOzs ((nzs : Int) - 1) (((nzs : Int) - 1)).toNat runUnderlying198 sizeOf200 fun b0 _ _ p0 x2 _ => ?_
  have hacc_x_38 : accS b0 := hAc b0 (List.mem_of_getElem? p0)
  refine sLpA f0 (x2.up 2 rfl) 0 [I b0.lo, I b0.hi] (isAgg200 _) (sizeOf200 _) <| sT f0 0 0 (.agg #[I b0.lo, I b0.hi]) [I b0.lo, I b0.hi] #[I b0.lo, I b0.hi] sizeOf200 fun _ w1 => zQ <| pu2 <| nT ?_
  have y2 : ((takesV a0.code) : Int) > 0 := by omega
  refine cT _ (decide_eq_true y2) <| rE <| pu4 <| sSub (nzs : Int) (takesV a0.code) <| sIdxO hOzs ((nzs : Int) - (takesV a0.code)) (((nzs : Int) - (takesV a0.code))).toNat runUnderlying198 sizeOf200 fun c0 _ _ q0 z2 _ => ?_
  have hacc_x_47 : accS c0 := hAc c0 (List.mem_of_getElem? q0)
  refine sLpA w1 (z2.up 2 rfl) 0 [I c0.lo, I c0.hi] (isAgg200 _) (sizeOf200 _) <| sT w1 1 0 (.agg #[I c0.lo, I c0.hi]) [I c0.lo, I c0.hi] #[I c0.lo, I c0.hi] sizeOf200 fun _ h0 => nT <| seqE ?_
  obtain ⟨a3, g1, h1, x1, u0, b3⟩ := RdT.elem hx (i : Int)
  rw [Int.toNat_natCast] at x1
  obtain rfl : a0 = a3 := Option.some.inj (e0.symm.trans x1)
  refine drawP [8, 12, 13] [(3, ⟨g1, h1 + 0, none⟩, I a0.code), (3, ⟨g1, h1 + 1, none⟩, I a0.arg), (4, ⟨m0, 0, none⟩, I c0.lo), (4, ⟨m0, 1, none⟩, I c0.hi), (5, ⟨n0, 0, none⟩, I b0.lo), (5, ⟨n0, 1, none⟩, I b0.hi)] (Plan.sts [0, 1] <| Plan.sts [2] <| Plan.sts [6, 7] <| Plan.sts [3] <| Plan.sts [4] <| Plan.sts [5] <| .fk 8 12 (Plan.sts [9] <| Plan.sts [10] <| Plan.sts [11] <| .ef 12 <| .ef 13 <| Plan.sts [14] <| .fin) (.ef 8 <| Plan.sts [9] <| Plan.sts [10] <| Plan.sts [11] <| .ef 13 <| Plan.sts [14] <| .fin)) rfl kr ⟨.inr ((u0.up 3 rfl).cell h0 (k := 0) rfl), .inr ((u0.up 3 rfl).cell h0 (k := 1) rfl), cI h0 1, cI h0 1, cI h0 0, cI h0 0, trivial⟩ ?_
  have y1 := h0.drew
  refine qU [0, 1] <| qY (.pointer (some ⟨g1, h1, none⟩)) rfl (fun w _ => Y_idx (a := ax) (i := (i : Int)) (len := nx) (cap := kx) rfl runUnderlying51 sizeOf75 kr kr b3) <| qU [6, 7] <| qY (.agg #[I a0.code, I a0.arg]) rfl (fun w hF => Y_loadF rfl (isAgg75 w) (sizeOf75 w) kr rfl ⟨hF 0 _ _ rfl, hF 1 _ _ rfl, trivial⟩) <| qY (.agg #[I c0.lo, I c0.hi]) rfl (fun w hF => Y_loadF rfl (isAgg200 w) (sizeOf200 w) kr rfl ⟨hF 2 _ _ rfl, hF 3 _ _ rfl, trivial⟩) <| qY (.agg #[I b0.lo, I b0.hi]) rfl (fun w hF => Y_loadF rfl (isAgg200 w) (sizeOf200 w) kr rfl ⟨hF 4 _ _ rfl, hF 5 _ _ rfl, trivial⟩) <| qF ?_ ?_
  ·refine qO rfl <| cR call222 (r14_next a0 c0 b0 a b (by first | assumption | (unfold accS; dsimp only; omega)) (by first | assumption | (unfold accS; dsimp only; omega)) om ‹_› y1.flat) ?_
   intro _ c3
   refine nilO ⟨dA, ?_⟩
   refine qU [9] <| qU [10] <| qU [11] <| qO rfl <| sAlloc c3 zeroValue200 fun z1 _ d3 => nilO ⟨dA, ?_⟩
   refine qO rfl <| sT d3 0 0 (.agg #[I ((nextV a0 c0 b0 a b).lo), I ((nextV a0 c0 b0 a b).hi)]) [I ((nextV a0 c0 b0 a b).lo), I ((nextV a0 c0 b0 a b).hi)] #[I ((nextV a0 c0 b0 a b).lo), I ((nextV a0 c0 b0 a b).hi)] sizeOf200 fun _ v0 => nilO ⟨dA, ?_⟩
   refine qU [14] <| qN <| tN <| seqE <| sR <| pu2 <| nT <| cDn (nextOK a0 c0 b0 a b) (fun i1 => ?_) (fun i1 => ?_)
   rotate_left
   ·refine sR <| pu3 <| zE <| tR <| tK <| tR <| tK <| retT [I 0, I 0, I 11] ?_
    have e3 := (v0.drops [0, 0, 0, 0])
    have hr0 : opsCode x true = 0 := by omega
    have hres : ivRes x a b = (match ivGo a b x [] with | some st => ((st[0]?.getD (⟨0, 0⟩ : Sp)).lo, (st[0]?.getD (⟨0, 0⟩ : Sp)).hi, 0) | none => (0, 0, 11)) := by unfold ivRes; rw [if_pos hr0, if_pos om]
    have hbad : ivGo a b x [] = none := by rw [hG, drop_at e0]; exact ivGo_bad (x := c0) (y := b0) (by unfold ivY; rw [if_pos om]; have e := p0; rw [show zs.length - 1 = _ from (by omega : zs.length - 1 = ((nzs : Int) - 1).toNat), e] <;> rfl) (by unfold ivX; rw [if_pos om]; have e := q0; rw [(by omega : zs.length - (takesV a0.code).toNat = ((nzs : Int) - (takesV a0.code)).toNat), e] <;> rfl) ‹_›
    exact ⟨by rw [hres, hbad]; rfl, e3⟩
   refine kT <| drawE [7, 8] [(6, ⟨z1, 0, none⟩, I ((nextV a0 c0 b0 a b).lo)), (6, ⟨z1, 1, none⟩, I ((nextV a0 c0 b0 a b).hi))] [(true, [0, 1, 2, 3]), (true, [4]), (true, [5]), (true, [6]), (false, [7]), (false, [8]), (true, [9])] rfl kr ⟨cI v0 0, cI v0 0, trivial⟩ ?_
   have f3 := v0.drew
   refine wU [0, 1, 2, 3] <| wSub (nzs : Int) (takesV a0.code) ?_
   have g3 := hOzs.part (lo := 0) (hi := (((nzs : Int) - (takesV a0.code))).toNat) om om
   refine wY (.slice (partAddr azs kzs 0 2) ((((nzs : Int) - (takesV a0.code))).toNat - 0) (kzs - 0)) rfl (fun w _ => Y_sl (a := azs) (len := nzs) (cap := kzs) none (some ((nzs : Int) - (takesV a0.code))) 0 ((((nzs : Int) - (takesV a0.code))).toNat) runUnderlying198 sizeOf200 rfl ⟨om, om⟩ om om) <| wY (.agg #[I ((nextV a0 c0 b0 a b).lo), I ((nextV a0 c0 b0 a b).hi)]) rfl (fun w hF => Y_loadF rfl (isAgg200 w) (sizeOf200 w) kr rfl ⟨hF 0 _ _ rfl, hF 1 _ _ rfl, trivial⟩) <| wO rfl <| sBS f3 #[I ((nextV a0 c0 b0 a b).lo), I ((nextV a0 c0 b0 a b).hi)] runUnderlying198 sizeOf200 zeroValue200 fun _ _ h3 => nilO ⟨dA, ?_⟩
   refine wO rfl <| sApp (nb := 16) h3 g3 4 (RdT.blk (enc := encSp) (sz := 2) (xs := [(⟨(nextV a0 c0 b0 a b).lo, (nextV a0 c0 b0 a b).hi⟩ : Sp)]) fR 1 0 rfl rfl rfl om) underlying198 (i := Tryz.t200) kr fR fun i3 j3 k3 _ l3 m3 => nilO ⟨dA, ?_⟩
   refine wU [9] <| wN <| bN <| tN <| rE <| pu1 <| sAdd (i : Int) 1 <| pu1 <| nT ?_
   have n3 := (m3.drops [0, 0, 0, 0])
   exact ⟨(i + 1, (((zs.drop 0).take ((((nzs : Int) - (takesV a0.code))).toNat - 0)) ++ [(⟨(nextV a0 c0 b0 a b).lo, (nextV a0 c0 b0 a b).hi⟩ : Sp)]), i3, (((((nzs : Int) - (takesV a0.code))).toNat - 0) + 1), j3, k3), od, alA, n3, om, by rw [hG, drop_at e0, ivGo_ok (x := c0) (y := b0) (by unfold ivY; rw [if_pos om]; have e := p0; rw [show zs.length - 1 = _ from (by omega : zs.length - 1 = ((nzs : Int) - 1).toNat), e] <;> rfl) (by unfold ivX; rw [if_pos om]; have e := q0; rw [(by omega : zs.length - (takesV a0.code).toNat = ((nzs : Int) - (takesV a0.code)).toNat), e] <;> rfl) ‹_› (m := ((zs.drop 0).take ((((nzs : Int) - (takesV a0.code))).toNat - 0))) (by rw [List.drop_zero]; congr 1; omega)] <;> rfl, by simp only [List.length_append, List.length_take, List.length_drop, List.length_cons, List.length_nil]; rw [show (((min _ _ + (0 + 1) : Nat)) : Int) = (zs.length : Int) + (1 - takesV a0.code) from by omega]; exact hog, (by
     intro z hz
     rcases List.mem_append.1 hz with h | h
     ·exact hAc z (List.mem_of_mem_drop (List.mem_of_mem_take h))
     ·simp only [List.mem_singleton] at h; subst h; exact ⟨i1.2.1, i1.2.2⟩), by simp; omega, l3⟩
  refine qO rfl <| sAlloc y1 zeroValue200 fun a2 _ i0 => nilO ⟨⟨.inr ((u0.up 4 rfl).cell i0 (k := 0) rfl), .inr ((u0.up 4 rfl).cell i0 (k := 1) rfl), cI i0 2, cI i0 2, cI i0 1, cI i0 1, trivial⟩, ?_⟩
  refine qO rfl <| cR call222 (r14_next a0 c0 b0 a b (by first | assumption | (unfold accS; dsimp only; omega)) (by first | assumption | (unfold accS; dsimp only; omega)) om ‹_› i0.flat) ?_
  intro _ o3
  refine nilO ⟨dA, ?_⟩
  refine qU [9] <| qU [10] <| qU [11] <| qO rfl <| sT o3 0 0 (.agg #[I ((nextV a0 c0 b0 a b).lo), I ((nextV a0 c0 b0 a b).hi)]) [I ((nextV a0 c0 b0 a b).lo), I ((nextV a0 c0 b0 a b).hi)] #[I ((nextV a0 c0 b0 a b).lo), I ((nextV a0 c0 b0 a b).hi)] sizeOf200 fun _ w0 => nilO ⟨dA, ?_⟩
  refine qU [14] <| qN <| tN <| seqE <| sR <| pu2 <| nT <| cDn (nextOK a0 c0 b0 a b) (fun j1 => ?_) (fun j1 => ?_)
  rotate_left
  ·refine sR <| pu3 <| zE <| tR <| tK <| tR <| tK <| retT [I 0, I 0, I 11] ?_
   have p3 := (w0.drops [0, 0, 0, 0])
   have hr0 : opsCode x true = 0 := by omega
   have hres : ivRes x a b = (match ivGo a b x [] with | some st => ((st[0]?.getD (⟨0, 0⟩ : Sp)).lo, (st[0]?.getD (⟨0, 0⟩ : Sp)).hi, 0) | none => (0, 0, 11)) := by unfold ivRes; rw [if_pos hr0, if_pos om]
   have hbad : ivGo a b x [] = none := by rw [hG, drop_at e0]; exact ivGo_bad (x := c0) (y := b0) (by unfold ivY; rw [if_pos om]; have e := p0; rw [show zs.length - 1 = _ from (by omega : zs.length - 1 = ((nzs : Int) - 1).toNat), e] <;> rfl) (by unfold ivX; rw [if_pos om]; have e := q0; rw [(by omega : zs.length - (takesV a0.code).toNat = ((nzs : Int) - (takesV a0.code)).toNat), e] <;> rfl) ‹_›
   exact ⟨by rw [hres, hbad]; rfl, p3⟩
  refine kT <| drawE [7, 8] [(6, ⟨a2, 0, none⟩, I ((nextV a0 c0 b0 a b).lo)), (6, ⟨a2, 1, none⟩, I ((nextV a0 c0 b0 a b).hi))] [(true, [0, 1, 2, 3]), (true, [4]), (true, [5]), (true, [6]), (false, [7]), (false, [8]), (true, [9])] rfl kr ⟨cI w0 0, cI w0 0, trivial⟩ ?_
  have q3 := w0.drew
  refine wU [0, 1, 2, 3] <| wSub (nzs : Int) (takesV a0.code) ?_
  have r3 := hOzs.part (lo := 0) (hi := (((nzs : Int) - (takesV a0.code))).toNat) om om
  refine wY (.slice (partAddr azs kzs 0 2) ((((nzs : Int) - (takesV a0.code))).toNat - 0) (kzs - 0)) rfl (fun w _ => Y_sl (a := azs) (len := nzs) (cap := kzs) none (some ((nzs : Int) - (takesV a0.code))) 0 ((((nzs : Int) - (takesV a0.code))).toNat) runUnderlying198 sizeOf200 rfl ⟨om, om⟩ om om) <| wY (.agg #[I ((nextV a0 c0 b0 a b).lo), I ((nextV a0 c0 b0 a b).hi)]) rfl (fun w hF => Y_loadF rfl (isAgg200 w) (sizeOf200 w) kr rfl ⟨hF 0 _ _ rfl, hF 1 _ _ rfl, trivial⟩) <| wO rfl <| sBS q3 #[I ((nextV a0 c0 b0 a b).lo), I ((nextV a0 c0 b0 a b).hi)] runUnderlying198 sizeOf200 zeroValue200 fun _ _ s3 => nilO ⟨dA, ?_⟩
  refine wO rfl <| sApp (nb := 16) s3 r3 4 (RdT.blk (enc := encSp) (sz := 2) (xs := [(⟨(nextV a0 c0 b0 a b).lo, (nextV a0 c0 b0 a b).hi⟩ : Sp)]) fR 1 0 rfl rfl rfl om) underlying198 (i := Tryz.t200) kr fR fun t3 u3 v3 _ w3 x3 => nilO ⟨dA, ?_⟩
  refine wU [9] <| wN <| bN <| tN <| rE <| pu1 <| sAdd (i : Int) 1 <| pu1 <| nT ?_
  have y3 := (x3.drops [0, 0, 0, 0])
  exact ⟨(i + 1, (((zs.drop 0).take ((((nzs : Int) - (takesV a0.code))).toNat - 0)) ++ [(⟨(nextV a0 c0 b0 a b).lo, (nextV a0 c0 b0 a b).hi⟩ : Sp)]), t3, (((((nzs : Int) - (takesV a0.code))).toNat - 0) + 1), u3, v3), od, alA, y3, om, by rw [hG, drop_at e0, ivGo_ok (x := c0) (y := b0) (by unfold ivY; rw [if_pos om]; have e := p0; rw [show zs.length - 1 = _ from (by omega : zs.length - 1 = ((nzs : Int) - 1).toNat), e] <;> rfl) (by unfold ivX; rw [if_pos om]; have e := q0; rw [(by omega : zs.length - (takesV a0.code).toNat = ((nzs : Int) - (takesV a0.code)).toNat), e] <;> rfl) ‹_› (m := ((zs.drop 0).take ((((nzs : Int) - (takesV a0.code))).toNat - 0))) (by rw [List.drop_zero]; congr 1; omega)] <;> rfl, by simp only [List.length_append, List.length_take, List.length_drop, List.length_cons, List.length_nil]; rw [show (((min _ _ + (0 + 1) : Nat)) : Int) = (zs.length : Int) + (1 - takesV a0.code) from by omega]; exact hog, (by
    intro z hz
    rcases List.mem_append.1 hz with h | h
    ·exact hAc z (List.mem_of_mem_drop (List.mem_of_mem_take h))
    ·simp only [List.mem_singleton] at h; subst h; exact ⟨j1.2.1, j1.2.2⟩), by simp; omega, w3⟩
 refine kT <| seqE <| sR <| pu2 <| nT <| cD ((takesV a0.code) > 0) (fun z3 => ?_) (fun z3 => ?_)
 rotate_left
 ·refine kT <| seqE ?_
  obtain ⟨a4, k1, l1, b2, x0, b4⟩ := RdT.elem hx (i : Int)
  rw [Int.toNat_natCast] at b2
  obtain rfl : a0 = a4 := Option.some.inj (e0.symm.trans b2)
  refine drawP [8, 12, 13] [(3, ⟨k1, l1 + 0, none⟩, I a0.code), (3, ⟨k1, l1 + 1, none⟩, I a0.arg), (4, ⟨m0, 0, none⟩, I 0), (4, ⟨m0, 1, none⟩, I 0), (5, ⟨n0, 0, none⟩, I 0), (5, ⟨n0, 1, none⟩, I 0)] (Plan.sts [0, 1] <| Plan.sts [2] <| Plan.sts [6, 7] <| Plan.sts [3] <| Plan.sts [4] <| Plan.sts [5] <| .fk 8 12 (Plan.sts [9] <| Plan.sts [10] <| Plan.sts [11] <| .ef 12 <| .ef 13 <| Plan.sts [14] <| .fin) (.ef 8 <| Plan.sts [9] <| Plan.sts [10] <| Plan.sts [11] <| .ef 13 <| Plan.sts [14] <| .fin)) rfl kr ⟨.inr ((x0.up 3 rfl).cell f0 (k := 0) rfl), .inr ((x0.up 3 rfl).cell f0 (k := 1) rfl), cI f0 1, cI f0 1, cI f0 0, cI f0 0, trivial⟩ ?_
  have c2 := f0.drew
  refine qU [0, 1] <| qY (.pointer (some ⟨k1, l1, none⟩)) rfl (fun w _ => Y_idx (a := ax) (i := (i : Int)) (len := nx) (cap := kx) rfl runUnderlying51 sizeOf75 kr kr b4) <| qU [6, 7] <| qY (.agg #[I a0.code, I a0.arg]) rfl (fun w hF => Y_loadF rfl (isAgg75 w) (sizeOf75 w) kr rfl ⟨hF 0 _ _ rfl, hF 1 _ _ rfl, trivial⟩) <| qY (.agg #[I 0, I 0]) rfl (fun w hF => Y_loadF rfl (isAgg200 w) (sizeOf200 w) kr rfl ⟨hF 2 _ _ rfl, hF 3 _ _ rfl, trivial⟩) <| qY (.agg #[I 0, I 0]) rfl (fun w hF => Y_loadF rfl (isAgg200 w) (sizeOf200 w) kr rfl ⟨hF 4 _ _ rfl, hF 5 _ _ rfl, trivial⟩) <| qF ?_ ?_
  ·refine qO rfl <| cR call222 (r14_next a0 (⟨0, 0⟩ : Sp) (⟨0, 0⟩ : Sp) a b (by first | assumption | (unfold accS; dsimp only; omega)) (by first | assumption | (unfold accS; dsimp only; omega)) om ‹_› c2.flat) ?_
   intro _ c4
   refine nilO ⟨dA, ?_⟩
   refine qU [9] <| qU [10] <| qU [11] <| qO rfl <| sAlloc c4 zeroValue200 fun d2 _ d4 => nilO ⟨dA, ?_⟩
   refine qO rfl <| sT d4 0 0 (.agg #[I ((nextV a0 (⟨0, 0⟩ : Sp) (⟨0, 0⟩ : Sp) a b).lo), I ((nextV a0 (⟨0, 0⟩ : Sp) (⟨0, 0⟩ : Sp) a b).hi)]) [I ((nextV a0 (⟨0, 0⟩ : Sp) (⟨0, 0⟩ : Sp) a b).lo), I ((nextV a0 (⟨0, 0⟩ : Sp) (⟨0, 0⟩ : Sp) a b).hi)] #[I ((nextV a0 (⟨0, 0⟩ : Sp) (⟨0, 0⟩ : Sp) a b).lo), I ((nextV a0 (⟨0, 0⟩ : Sp) (⟨0, 0⟩ : Sp) a b).hi)] sizeOf200 fun _ y0 => nilO ⟨dA, ?_⟩
   refine qU [14] <| qN <| tN <| seqE <| sR <| pu2 <| nT <| cDn (nextOK a0 (⟨0, 0⟩ : Sp) (⟨0, 0⟩ : Sp) a b) (fun m1 => ?_) (fun m1 => ?_)
   rotate_left
   ·refine sR <| pu3 <| zE <| tR <| tK <| tR <| tK <| retT [I 0, I 0, I 11] ?_
    have e4 := (y0.drops [0, 0, 0, 0])
    have hr0 : opsCode x true = 0 := by omega
    have hres : ivRes x a b = (match ivGo a b x [] with | some st => ((st[0]?.getD (⟨0, 0⟩ : Sp)).lo, (st[0]?.getD (⟨0, 0⟩ : Sp)).hi, 0) | none => (0, 0, 11)) := by unfold ivRes; rw [if_pos hr0, if_pos om]
    have hbad : ivGo a b x [] = none := by rw [hG, drop_at e0]; exact ivGo_bad (x := (⟨0, 0⟩ : Sp)) (y := (⟨0, 0⟩ : Sp)) (by unfold ivY; rw [if_neg om]) (by unfold ivX; rw [if_neg om]) ‹_›
    exact ⟨by rw [hres, hbad]; rfl, e4⟩
   refine kT <| drawE [7, 8] [(6, ⟨d2, 0, none⟩, I ((nextV a0 (⟨0, 0⟩ : Sp) (⟨0, 0⟩ : Sp) a b).lo)), (6, ⟨d2, 1, none⟩, I ((nextV a0 (⟨0, 0⟩ : Sp) (⟨0, 0⟩ : Sp) a b).hi))] [(true, [0, 1, 2, 3]), (true, [4]), (true, [5]), (true, [6]), (false, [7]), (false, [8]), (true, [9])] rfl kr ⟨cI y0 0, cI y0 0, trivial⟩ ?_
   have f4 := y0.drew
   refine wU [0, 1, 2, 3] <| wSub (nzs : Int) (takesV a0.code) ?_
   have g4 := hOzs.part (lo := 0) (hi := (((nzs : Int) - (takesV a0.code))).toNat) om om
   refine wY (.slice (partAddr azs kzs 0 2) ((((nzs : Int) - (takesV a0.code))).toNat - 0) (kzs - 0)) rfl (fun w _ => Y_sl (a := azs) (len := nzs) (cap := kzs) none (some ((nzs : Int) - (takesV a0.code))) 0 ((((nzs : Int) - (takesV a0.code))).toNat) runUnderlying198 sizeOf200 rfl ⟨om, om⟩ om om) <| wY (.agg #[I ((nextV a0 (⟨0, 0⟩ : Sp) (⟨0, 0⟩ : Sp) a b).lo), I ((nextV a0 (⟨0, 0⟩ : Sp) (⟨0, 0⟩ : Sp) a b).hi)]) rfl (fun w hF => Y_loadF rfl (isAgg200 w) (sizeOf200 w) kr rfl ⟨hF 0 _ _ rfl, hF 1 _ _ rfl, trivial⟩) <| wO rfl <| sBS f4 #[I ((nextV a0 (⟨0, 0⟩ : Sp) (⟨0, 0⟩ : Sp) a b).lo), I ((nextV a0 (⟨0, 0⟩ : Sp) (⟨0, 0⟩ : Sp) a b).hi)] runUnderlying198 sizeOf200 zeroValue200 fun _ _ h4 => ?_
   refine nilO ⟨dA, ?_⟩
   refine wO rfl <| sApp (nb := 16) h4 g4 4 (RdT.blk (enc := encSp) (sz := 2) (xs := [(⟨(nextV a0 (⟨0, 0⟩ : Sp) (⟨0, 0⟩ : Sp) a b).lo, (nextV a0 (⟨0, 0⟩ : Sp) (⟨0, 0⟩ : Sp) a b).hi⟩ : Sp)]) fR 1 0 rfl rfl rfl om) underlying198 (i := Tryz.t200) kr fR fun i4 j4 k4 _ l4 m4 => nilO ⟨dA, ?_⟩
   refine wU [9] <| wN <| bN <| tN <| rE <| pu1 <| sAdd (i : Int) 1 <| pu1 <| nT ?_
   exact ⟨(i + 1, (((zs.drop 0).take ((((nzs : Int) - (takesV a0.code))).toNat - 0)) ++ [(⟨(nextV a0 (⟨0, 0⟩ : Sp) (⟨0, 0⟩ : Sp) a b).lo, (nextV a0 (⟨0, 0⟩ : Sp) (⟨0, 0⟩ : Sp) a b).hi⟩ : Sp)]), i4, (((((nzs : Int) - (takesV a0.code))).toNat - 0) + 1), j4, k4), od, alA, (m4.drops [0, 0, 0, 0]), om, by rw [hG, drop_at e0, ivGo_ok (x := (⟨0, 0⟩ : Sp)) (y := (⟨0, 0⟩ : Sp)) (by unfold ivY; rw [if_neg om]) (by unfold ivX; rw [if_neg om]) ‹_› (m := ((zs.drop 0).take ((((nzs : Int) - (takesV a0.code))).toNat - 0))) (by rw [List.drop_zero]; congr 1; omega)] <;> rfl, by simp only [List.length_append, List.length_take, List.length_drop, List.length_cons, List.length_nil]; rw [show (((min _ _ + (0 + 1) : Nat)) : Int) = (zs.length : Int) + (1 - takesV a0.code) from by omega]; exact hog, (by
     intro z hz
     rcases List.mem_append.1 hz with h | h
     ·exact hAc z (List.mem_of_mem_drop (List.mem_of_mem_take h))
     ·simp only [List.mem_singleton] at h; subst h; exact ⟨m1.2.1, m1.2.2⟩), by simp; omega, l4⟩
  refine qO rfl <| sAlloc c2 zeroValue200 fun e2 _ j0 => nilO ⟨⟨.inr ((x0.up 4 rfl).cell j0 (k := 0) rfl), .inr ((x0.up 4 rfl).cell j0 (k := 1) rfl), cI j0 2, cI j0 2, cI j0 1, cI j0 1, trivial⟩, ?_⟩
  refine qO rfl <| cR call222 (r14_next a0 (⟨0, 0⟩ : Sp) (⟨0, 0⟩ : Sp) a b (by first | assumption | (unfold accS; dsimp only; omega)) (by first | assumption | (unfold accS; dsimp only; omega)) om ‹_› j0.flat) ?_
  intro _ o4
  refine nilO ⟨dA, ?_⟩
  refine qU [9] <| qU [10] <| qU [11] <| qO rfl <| sT o4 0 0 (.agg #[I ((nextV a0 (⟨0, 0⟩ : Sp) (⟨0, 0⟩ : Sp) a b).lo), I ((nextV a0 (⟨0, 0⟩ : Sp) (⟨0, 0⟩ : Sp) a b).hi)]) [I ((nextV a0 (⟨0, 0⟩ : Sp) (⟨0, 0⟩ : Sp) a b).lo), I ((nextV a0 (⟨0, 0⟩ : Sp) (⟨0, 0⟩ : Sp) a b).hi)] #[I ((nextV a0 (⟨0, 0⟩ : Sp) (⟨0, 0⟩ : Sp) a b).lo), I ((nextV a0 (⟨0, 0⟩ : Sp) (⟨0, 0⟩ : Sp) a b).hi)] sizeOf200 fun _ z0 => nilO ⟨dA, ?_⟩
  refine qU [14] <| qN <| tN <| seqE <| sR <| pu2 <| nT <| cDn (nextOK a0 (⟨0, 0⟩ : Sp) (⟨0, 0⟩ : Sp) a b) (fun n1 => ?_) (fun n1 => ?_)
  rotate_left
  ·refine sR <| pu3 <| zE <| tR <| tK <| tR <| tK <| retT [I 0, I 0, I 11] ?_
   have p4 := (z0.drops [0, 0, 0, 0])
   have hr0 : opsCode x true = 0 := by omega
   have hres : ivRes x a b = (match ivGo a b x [] with | some st => ((st[0]?.getD (⟨0, 0⟩ : Sp)).lo, (st[0]?.getD (⟨0, 0⟩ : Sp)).hi, 0) | none => (0, 0, 11)) := by unfold ivRes; rw [if_pos hr0, if_pos om]
   have hbad : ivGo a b x [] = none := by rw [hG, drop_at e0]; exact ivGo_bad (x := (⟨0, 0⟩ : Sp)) (y := (⟨0, 0⟩ : Sp)) (by unfold ivY; rw [if_neg om]) (by unfold ivX; rw [if_neg om]) ‹_›
   exact ⟨by rw [hres, hbad]; rfl, p4⟩
  refine kT <| drawE [7, 8] [(6, ⟨e2, 0, none⟩, I ((nextV a0 (⟨0, 0⟩ : Sp) (⟨0, 0⟩ : Sp) a b).lo)), (6, ⟨e2, 1, none⟩, I ((nextV a0 (⟨0, 0⟩ : Sp) (⟨0, 0⟩ : Sp) a b).hi))] [(true, [0, 1, 2, 3]), (true, [4]), (true, [5]), (true, [6]), (false, [7]), (false, [8]), (true, [9])] rfl kr ⟨cI z0 0, cI z0 0, trivial⟩ ?_
  have q4 := z0.drew
  refine wU [0, 1, 2, 3] <| wSub (nzs : Int) (takesV a0.code) ?_
  have r4 := hOzs.part (lo := 0) (hi := (((nzs : Int) - (takesV a0.code))).toNat) om om
  refine wY (.slice (partAddr azs kzs 0 2) ((((nzs : Int) - (takesV a0.code))).toNat - 0) (kzs - 0)) rfl (fun w _ => Y_sl (a := azs) (len := nzs) (cap := kzs) none (some ((nzs : Int) - (takesV a0.code))) 0 ((((nzs : Int) - (takesV a0.code))).toNat) runUnderlying198 sizeOf200 rfl ⟨om, om⟩ om om) <| wY (.agg #[I ((nextV a0 (⟨0, 0⟩ : Sp) (⟨0, 0⟩ : Sp) a b).lo), I ((nextV a0 (⟨0, 0⟩ : Sp) (⟨0, 0⟩ : Sp) a b).hi)]) rfl (fun w hF => Y_loadF rfl (isAgg200 w) (sizeOf200 w) kr rfl ⟨hF 0 _ _ rfl, hF 1 _ _ rfl, trivial⟩) <| wO rfl <| sBS q4 #[I ((nextV a0 (⟨0, 0⟩ : Sp) (⟨0, 0⟩ : Sp) a b).lo), I ((nextV a0 (⟨0, 0⟩ : Sp) (⟨0, 0⟩ : Sp) a b).hi)] runUnderlying198 sizeOf200 zeroValue200 fun _ _ s4 => ?_
  refine nilO ⟨dA, ?_⟩
  refine wO rfl <| sApp (nb := 16) s4 r4 4 (RdT.blk (enc := encSp) (sz := 2) (xs := [(⟨(nextV a0 (⟨0, 0⟩ : Sp) (⟨0, 0⟩ : Sp) a b).lo, (nextV a0 (⟨0, 0⟩ : Sp) (⟨0, 0⟩ : Sp) a b).hi⟩ : Sp)]) fR 1 0 rfl rfl rfl om) underlying198 (i := Tryz.t200) kr fR fun t4 u4 v4 _ w4 x4 => nilO ⟨dA, ?_⟩
  refine wU [9] <| wN <| bN <| tN <| rE <| pu1 <| sAdd (i : Int) 1 <| pu1 <| nT ?_
  exact ⟨(i + 1, (((zs.drop 0).take ((((nzs : Int) - (takesV a0.code))).toNat - 0)) ++ [(⟨(nextV a0 (⟨0, 0⟩ : Sp) (⟨0, 0⟩ : Sp) a b).lo, (nextV a0 (⟨0, 0⟩ : Sp) (⟨0, 0⟩ : Sp) a b).hi⟩ : Sp)]), t4, (((((nzs : Int) - (takesV a0.code))).toNat - 0) + 1), u4, v4), od, alA, (x4.drops [0, 0, 0, 0]), om, by rw [hG, drop_at e0, ivGo_ok (x := (⟨0, 0⟩ : Sp)) (y := (⟨0, 0⟩ : Sp)) (by unfold ivY; rw [if_neg om]) (by unfold ivX; rw [if_neg om]) ‹_› (m := ((zs.drop 0).take ((((nzs : Int) - (takesV a0.code))).toNat - 0))) (by rw [List.drop_zero]; congr 1; omega)] <;> rfl, by simp only [List.length_append, List.length_take, List.length_drop, List.length_cons, List.length_nil]; rw [show (((min _ _ + (0 + 1) : Nat)) : Int) = (zs.length : Int) + (1 - takesV a0.code) from by omega]; exact hog, (by
    intro z hz
    rcases List.mem_append.1 hz with h | h
    ·exact hAc z (List.mem_of_mem_drop (List.mem_of_mem_take h))
    ·simp only [List.mem_singleton] at h; subst h; exact ⟨n1.2.1, n1.2.2⟩), by simp; omega, w4⟩
 refine rE <| pu4 <| sSub (nzs : Int) (takesV a0.code) <| sIdxO hOzs ((nzs : Int) - (takesV a0.code)) (((nzs : Int) - (takesV a0.code))).toNat runUnderlying198 sizeOf200 fun d0 _ _ r0 z4 _ => ?_
 have hacc_x_107 : accS d0 := hAc d0 (List.mem_of_getElem? r0)
 refine sLpA f0 (z4.up 2 rfl) 0 [I d0.lo, I d0.hi] (isAgg200 _) (sizeOf200 _) <| sT f0 1 0 (.agg #[I d0.lo, I d0.hi]) [I d0.lo, I d0.hi] #[I d0.lo, I d0.hi] sizeOf200 fun _ k0 => nT <| seqE ?_
 obtain ⟨a5, o1, q1, f2, a1, b5⟩ := RdT.elem hx (i : Int)
 rw [Int.toNat_natCast] at f2
 obtain rfl : a0 = a5 := Option.some.inj (e0.symm.trans f2)
 refine drawP [8, 12, 13] [(3, ⟨o1, q1 + 0, none⟩, I a0.code), (3, ⟨o1, q1 + 1, none⟩, I a0.arg), (4, ⟨m0, 0, none⟩, I d0.lo), (4, ⟨m0, 1, none⟩, I d0.hi), (5, ⟨n0, 0, none⟩, I 0), (5, ⟨n0, 1, none⟩, I 0)] (Plan.sts [0, 1] <| Plan.sts [2] <| Plan.sts [6, 7] <| Plan.sts [3] <| Plan.sts [4] <| Plan.sts [5] <| .fk 8 12 (Plan.sts [9] <| Plan.sts [10] <| Plan.sts [11] <| .ef 12 <| .ef 13 <| Plan.sts [14] <| .fin) (.ef 8 <| Plan.sts [9] <| Plan.sts [10] <| Plan.sts [11] <| .ef 13 <| Plan.sts [14] <| .fin)) rfl kr ⟨.inr ((a1.up 3 rfl).cell k0 (k := 0) rfl), .inr ((a1.up 3 rfl).cell k0 (k := 1) rfl), cI k0 1, cI k0 1, cI k0 0, cI k0 0, trivial⟩ ?_
 have g2 := k0.drew
 refine qU [0, 1] <| qY (.pointer (some ⟨o1, q1, none⟩)) rfl (fun w _ => Y_idx (a := ax) (i := (i : Int)) (len := nx) (cap := kx) rfl runUnderlying51 sizeOf75 kr kr b5) <| qU [6, 7] <| qY (.agg #[I a0.code, I a0.arg]) rfl (fun w hF => Y_loadF rfl (isAgg75 w) (sizeOf75 w) kr rfl ⟨hF 0 _ _ rfl, hF 1 _ _ rfl, trivial⟩) <| qY (.agg #[I d0.lo, I d0.hi]) rfl (fun w hF => Y_loadF rfl (isAgg200 w) (sizeOf200 w) kr rfl ⟨hF 2 _ _ rfl, hF 3 _ _ rfl, trivial⟩) <| qY (.agg #[I 0, I 0]) rfl (fun w hF => Y_loadF rfl (isAgg200 w) (sizeOf200 w) kr rfl ⟨hF 4 _ _ rfl, hF 5 _ _ rfl, trivial⟩) <| qF ?_ ?_
 ·refine qO rfl <| cR call222 (r14_next a0 d0 (⟨0, 0⟩ : Sp) a b (by first | assumption | (unfold accS; dsimp only; omega)) (by first | assumption | (unfold accS; dsimp only; omega)) om ‹_› g2.flat) ?_
  intro _ c5
  refine nilO ⟨dA, ?_⟩
  refine qU [9] <| qU [10] <| qU [11] <| qO rfl <| sAlloc c5 zeroValue200 fun h2 _ d5 => nilO ⟨dA, ?_⟩
  refine qO rfl <| sT d5 0 0 (.agg #[I ((nextV a0 d0 (⟨0, 0⟩ : Sp) a b).lo), I ((nextV a0 d0 (⟨0, 0⟩ : Sp) a b).hi)]) [I ((nextV a0 d0 (⟨0, 0⟩ : Sp) a b).lo), I ((nextV a0 d0 (⟨0, 0⟩ : Sp) a b).hi)] #[I ((nextV a0 d0 (⟨0, 0⟩ : Sp) a b).lo), I ((nextV a0 d0 (⟨0, 0⟩ : Sp) a b).hi)] sizeOf200 fun _ b1 => nilO ⟨dA, ?_⟩
  refine qU [14] <| qN <| tN <| seqE <| sR <| pu2 <| nT <| cDn (nextOK a0 d0 (⟨0, 0⟩ : Sp) a b) (fun r1 => ?_) (fun r1 => ?_)
  rotate_left
  ·refine sR <| pu3 <| zE <| tR <| tK <| tR <| tK <| retT [I 0, I 0, I 11] ?_
   have e5 := (b1.drops [0, 0, 0, 0])
   have hr0 : opsCode x true = 0 := by omega
   have hres : ivRes x a b = (match ivGo a b x [] with | some st => ((st[0]?.getD (⟨0, 0⟩ : Sp)).lo, (st[0]?.getD (⟨0, 0⟩ : Sp)).hi, 0) | none => (0, 0, 11)) := by unfold ivRes; rw [if_pos hr0, if_pos om]
   have hbad : ivGo a b x [] = none := by rw [hG, drop_at e0]; exact ivGo_bad (x := d0) (y := (⟨0, 0⟩ : Sp)) (by unfold ivY; rw [if_neg om]) (by unfold ivX; rw [if_pos om]; have e := r0; rw [(by omega : zs.length - (takesV a0.code).toNat = ((nzs : Int) - (takesV a0.code)).toNat), e] <;> rfl) ‹_›
   exact ⟨by rw [hres, hbad]; rfl, e5⟩
  refine kT <| drawE [7, 8] [(6, ⟨h2, 0, none⟩, I ((nextV a0 d0 (⟨0, 0⟩ : Sp) a b).lo)), (6, ⟨h2, 1, none⟩, I ((nextV a0 d0 (⟨0, 0⟩ : Sp) a b).hi))] [(true, [0, 1, 2, 3]), (true, [4]), (true, [5]), (true, [6]), (false, [7]), (false, [8]), (true, [9])] rfl kr ⟨cI b1 0, cI b1 0, trivial⟩ ?_
  have f5 := b1.drew
  refine wU [0, 1, 2, 3] <| wSub (nzs : Int) (takesV a0.code) ?_
  have g5 := hOzs.part (lo := 0) (hi := (((nzs : Int) - (takesV a0.code))).toNat) om om
  refine wY (.slice (partAddr azs kzs 0 2) ((((nzs : Int) - (takesV a0.code))).toNat - 0) (kzs - 0)) rfl (fun w _ => Y_sl (a := azs) (len := nzs) (cap := kzs) none (some ((nzs : Int) - (takesV a0.code))) 0 ((((nzs : Int) - (takesV a0.code))).toNat) runUnderlying198 sizeOf200 rfl ⟨om, om⟩ om om) <| wY (.agg #[I ((nextV a0 d0 (⟨0, 0⟩ : Sp) a b).lo), I ((nextV a0 d0 (⟨0, 0⟩ : Sp) a b).hi)]) rfl (fun w hF => Y_loadF rfl (isAgg200 w) (sizeOf200 w) kr rfl ⟨hF 0 _ _ rfl, hF 1 _ _ rfl, trivial⟩) <| wO rfl <| sBS f5 #[I ((nextV a0 d0 (⟨0, 0⟩ : Sp) a b).lo), I ((nextV a0 d0 (⟨0, 0⟩ : Sp) a b).hi)] runUnderlying198 sizeOf200 zeroValue200 fun _ _ h5 => nilO ⟨dA, ?_⟩
  refine wO rfl <| sApp (nb := 16) h5 g5 4 (RdT.blk (enc := encSp) (sz := 2) (xs := [(⟨(nextV a0 d0 (⟨0, 0⟩ : Sp) a b).lo, (nextV a0 d0 (⟨0, 0⟩ : Sp) a b).hi⟩ : Sp)]) fR 1 0 rfl rfl rfl om) underlying198 (i := Tryz.t200) kr fR fun i5 j5 k5 _ l5 m5 => nilO ⟨dA, ?_⟩
  refine wU [9] <| wN <| bN <| tN <| rE <| pu1 <| sAdd (i : Int) 1 <| pu1 <| nT ?_
  have n5 := (m5.drops [0, 0, 0, 0])
  exact ⟨(i + 1, (((zs.drop 0).take ((((nzs : Int) - (takesV a0.code))).toNat - 0)) ++ [(⟨(nextV a0 d0 (⟨0, 0⟩ : Sp) a b).lo, (nextV a0 d0 (⟨0, 0⟩ : Sp) a b).hi⟩ : Sp)]), i5, (((((nzs : Int) - (takesV a0.code))).toNat - 0) + 1), j5, k5), od, alA, n5, om, by rw [hG, drop_at e0, ivGo_ok (x := d0) (y := (⟨0, 0⟩ : Sp)) (by unfold ivY; rw [if_neg om]) (by unfold ivX; rw [if_pos om]; have e := r0; rw [(by omega : zs.length - (takesV a0.code).toNat = ((nzs : Int) - (takesV a0.code)).toNat), e] <;> rfl) ‹_› (m := ((zs.drop 0).take ((((nzs : Int) - (takesV a0.code))).toNat - 0))) (by rw [List.drop_zero]; congr 1; omega)] <;> rfl, by simp only [List.length_append, List.length_take, List.length_drop, List.length_cons, List.length_nil]; rw [show (((min _ _ + (0 + 1) : Nat)) : Int) = (zs.length : Int) + (1 - takesV a0.code) from by omega]; exact hog, (by
    intro z hz
    rcases List.mem_append.1 hz with h | h
    ·exact hAc z (List.mem_of_mem_drop (List.mem_of_mem_take h))
    ·simp only [List.mem_singleton] at h; subst h; exact ⟨r1.2.1, r1.2.2⟩), by simp; omega, l5⟩
 refine qO rfl <| sAlloc g2 zeroValue200 fun i2 _ l0 => nilO ⟨⟨.inr ((a1.up 4 rfl).cell l0 (k := 0) rfl), .inr ((a1.up 4 rfl).cell l0 (k := 1) rfl), cI l0 2, cI l0 2, cI l0 1, cI l0 1, trivial⟩, ?_⟩
 refine qO rfl <| cR call222 (r14_next a0 d0 (⟨0, 0⟩ : Sp) a b (by first | assumption | (unfold accS; dsimp only; omega)) (by first | assumption | (unfold accS; dsimp only; omega)) om ‹_› l0.flat) ?_
 intro _ o5
 refine nilO ⟨dA, ?_⟩
 refine qU [9] <| qU [10] <| qU [11] <| qO rfl <| sT o5 0 0 (.agg #[I ((nextV a0 d0 (⟨0, 0⟩ : Sp) a b).lo), I ((nextV a0 d0 (⟨0, 0⟩ : Sp) a b).hi)]) [I ((nextV a0 d0 (⟨0, 0⟩ : Sp) a b).lo), I ((nextV a0 d0 (⟨0, 0⟩ : Sp) a b).hi)] #[I ((nextV a0 d0 (⟨0, 0⟩ : Sp) a b).lo), I ((nextV a0 d0 (⟨0, 0⟩ : Sp) a b).hi)] sizeOf200 fun _ c1 => nilO ⟨dA, ?_⟩
 refine qU [14] <| qN <| tN <| seqE <| sR <| pu2 <| nT <| cDn (nextOK a0 d0 (⟨0, 0⟩ : Sp) a b) (fun s1 => ?_) (fun s1 => ?_)
 rotate_left
 ·refine sR <| pu3 <| zE <| tR <| tK <| tR <| tK <| retT [I 0, I 0, I 11] ?_
  have p5 := (c1.drops [0, 0, 0, 0])
  have hr0 : opsCode x true = 0 := by omega
  have hres : ivRes x a b = (match ivGo a b x [] with | some st => ((st[0]?.getD (⟨0, 0⟩ : Sp)).lo, (st[0]?.getD (⟨0, 0⟩ : Sp)).hi, 0) | none => (0, 0, 11)) := by unfold ivRes; rw [if_pos hr0, if_pos om]
  have hbad : ivGo a b x [] = none := by rw [hG, drop_at e0]; exact ivGo_bad (x := d0) (y := (⟨0, 0⟩ : Sp)) (by unfold ivY; rw [if_neg om]) (by unfold ivX; rw [if_pos om]; have e := r0; rw [(by omega : zs.length - (takesV a0.code).toNat = ((nzs : Int) - (takesV a0.code)).toNat), e] <;> rfl) ‹_›
  exact ⟨by rw [hres, hbad]; rfl, p5⟩
 refine kT <| drawE [7, 8] [(6, ⟨i2, 0, none⟩, I ((nextV a0 d0 (⟨0, 0⟩ : Sp) a b).lo)), (6, ⟨i2, 1, none⟩, I ((nextV a0 d0 (⟨0, 0⟩ : Sp) a b).hi))] [(true, [0, 1, 2, 3]), (true, [4]), (true, [5]), (true, [6]), (false, [7]), (false, [8]), (true, [9])] rfl kr ⟨cI c1 0, cI c1 0, trivial⟩ ?_
 have q5 := c1.drew
 refine wU [0, 1, 2, 3] <| wSub (nzs : Int) (takesV a0.code) ?_
 have r5 := hOzs.part (lo := 0) (hi := (((nzs : Int) - (takesV a0.code))).toNat) om om
 refine wY (.slice (partAddr azs kzs 0 2) ((((nzs : Int) - (takesV a0.code))).toNat - 0) (kzs - 0)) rfl (fun w _ => Y_sl (a := azs) (len := nzs) (cap := kzs) none (some ((nzs : Int) - (takesV a0.code))) 0 ((((nzs : Int) - (takesV a0.code))).toNat) runUnderlying198 sizeOf200 rfl ⟨om, om⟩ om om) <| wY (.agg #[I ((nextV a0 d0 (⟨0, 0⟩ : Sp) a b).lo), I ((nextV a0 d0 (⟨0, 0⟩ : Sp) a b).hi)]) rfl (fun w hF => Y_loadF rfl (isAgg200 w) (sizeOf200 w) kr rfl ⟨hF 0 _ _ rfl, hF 1 _ _ rfl, trivial⟩) <| wO rfl <| sBS q5 #[I ((nextV a0 d0 (⟨0, 0⟩ : Sp) a b).lo), I ((nextV a0 d0 (⟨0, 0⟩ : Sp) a b).hi)] runUnderlying198 sizeOf200 zeroValue200 fun _ _ s5 => nilO ⟨dA, ?_⟩
 refine wO rfl <| sApp (nb := 16) s5 r5 4 (RdT.blk (enc := encSp) (sz := 2) (xs := [(⟨(nextV a0 d0 (⟨0, 0⟩ : Sp) a b).lo, (nextV a0 d0 (⟨0, 0⟩ : Sp) a b).hi⟩ : Sp)]) fR 1 0 rfl rfl rfl om) underlying198 (i := Tryz.t200) kr fR fun t5 u5 v5 _ w5 x5 => nilO ⟨dA, ?_⟩
 refine wU [9] <| wN <| bN <| tN <| rE <| pu1 <| sAdd (i : Int) 1 <| pu1 <| nT ?_
 have y5 := (x5.drops [0, 0, 0, 0])
 exact ⟨(i + 1, (((zs.drop 0).take ((((nzs : Int) - (takesV a0.code))).toNat - 0)) ++ [(⟨(nextV a0 d0 (⟨0, 0⟩ : Sp) a b).lo, (nextV a0 d0 (⟨0, 0⟩ : Sp) a b).hi⟩ : Sp)]), t5, (((((nzs : Int) - (takesV a0.code))).toNat - 0) + 1), u5, v5), od, alA, y5, om, by rw [hG, drop_at e0, ivGo_ok (x := d0) (y := (⟨0, 0⟩ : Sp)) (by unfold ivY; rw [if_neg om]) (by unfold ivX; rw [if_pos om]; have e := r0; rw [(by omega : zs.length - (takesV a0.code).toNat = ((nzs : Int) - (takesV a0.code)).toNat), e] <;> rfl) ‹_› (m := ((zs.drop 0).take ((((nzs : Int) - (takesV a0.code))).toNat - 0))) (by rw [List.drop_zero]; congr 1; omega)] <;> rfl, by simp only [List.length_append, List.length_take, List.length_drop, List.length_cons, List.length_nil]; rw [show (((min _ _ + (0 + 1) : Nat)) : Int) = (zs.length : Int) + (1 - takesV a0.code) from by omega]; exact hog, (by
   intro z hz
   rcases List.mem_append.1 hz with h | h
   ·exact hAc z (List.mem_of_mem_drop (List.mem_of_mem_take h))
   ·simp only [List.mem_singleton] at h; subst h; exact ⟨s1.2.1, s1.2.2⟩), by simp; omega, w5⟩
theorem r14_check (ax:Option Addr) (nx kx:Nat) (x:List POp) (two:Bool) (a:Int) (b:Int) (out:Int) (hx:RdT encPOp 2 [H] ax nx kx x) (hS:Sat W w (H::F)):
  Ro prog 169 #[.slice ax nx kx, .bool two,I a,I b,I out] (I (pwCode x two a b out)) W w (H::F):=by
 have hl_x:=hx.le;have hn_x:=hx.len
 refine callsA 35 func169 rfl<|sR<|pu1<|zQ<|pu2<|cR call203 (r14_valid ax nx kx x two (RdT.flat (hx.up 0 (by rfl))) hS.flat) fun _ b0=>pu1<|zS<|pu2<|nT<|cN (opsCode x two) 0 (fun c0=>?_) (fun c0=>?_)
 rotate_left
 ·refine sR<|pu2<|zR<|retT [I (opsCode x two)]<|⟨congrArg (fun c=>Ending.returned (I c)) ?_,b0⟩
  unfold pwCode;(repeat' split)<;>first|rfl|omega|contradiction|(exfalso;omega)|(exfalso;simp_all;done)|(simp_all;done)
 refine kT<|seqE<|sR<|pu1<|cR call199 (r9_value out b0.flat) fun _ a0=>pu1<|nT<|cDn ((1:Int)<=out/\out<=(4294967296:Int)) (fun d0=>?_) (fun d0=>?_)
 rotate_left
 ·refine sR<|pu1<|zR<|retT [I 2]<|⟨congrArg (fun c=>Ending.returned (I c)) ?_,a0⟩
  unfold pwCode;(repeat' split)<;>first|rfl|omega|contradiction|(exfalso;omega)|(exfalso;simp_all;done)|(simp_all;done)
 refine kT<|seqE<|sR<|pu2<|nT<|cBn two (fun e0=>?_) (fun e0=>?_)
 ·refine kS<|pu3<|cR call204 (r14_interval ax nx kx x a b (RdT.flat (hx.up 0 (by rfl))) a0.flat) fun _ f0=>pu7<|zS<|pu2<|zE<|retT [I ((ivRes x a b).2.2)]<|⟨congrArg (fun c=>Ending.returned (I c)) ?_,f0⟩
  unfold pwCode;(repeat' split)<;>first|rfl|omega|contradiction|(exfalso;omega)|(exfalso;simp_all;done)|(simp_all;done)
 refine rE<|pu1<|zS<|pu3<|cR call204 (r14_interval ax nx kx x a 1 (RdT.flat (hx.up 0 (by rfl))) a0.flat) fun _ g0=>pu7<|zS<|pu2<|zE<|retT [I ((ivRes x a 1).2.2)]<|⟨congrArg (fun c=>Ending.returned (I c)) ?_,g0⟩
 unfold pwCode;(repeat' split)<;>first|rfl|omega|contradiction|(exfalso;omega)|(exfalso;simp_all;done)|(simp_all;done)
end Go.Proofs.YtmlhcafjelkjfaaGreat
