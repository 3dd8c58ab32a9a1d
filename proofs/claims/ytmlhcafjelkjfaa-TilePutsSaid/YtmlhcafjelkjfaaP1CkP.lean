import Derived.Test.YtmlhcafjelkjfaaP1Ab
import Derived.WalkKit
import Derived.Deep.Quiet
import Derived.KernelRfl
import Derived.Laws.BytesString
import Derived.Laws.Shifts
import Derived.Laws.IdiomStrings
import Derived.Test.YtmlhcafjelkjfaaProg
import Derived.Test.YtmlhcafjelkjfaaP1Api
namespace Go.Proofs.Ytmlhcafjelkjfaa
open Go Go.E Go.Proofs.Try
set_option linter.all false
set_option maxRecDepth 100000
set_option maxHeartbeats 2000000
variable {W w:World} {H:Chunk} {F:List Chunk}
def ptakesV (c:Int):Int:=if 0<=c/\c<=11 then takesV c else 0
theorem ptakes_bd (c:Int):(0<=ptakesV c/\ptakesV c<=2)/\(¬(0<=c/\c<=11)\/ptakesV c=takesV c):=by
  have:=takesV_bd c
  unfold ptakesV
  split<;>omega
def papV (o:POp) (x y:Sp):Sp:=if o.code=5/\prodOK x y=false then ⟨0,0⟩ else nextV o x y 1 1
def ptLo (x y:Sp):Int:=if prodOK x y=true then prodLo x y else 0
def ptHi (x y:Sp):Int:=if prodOK x y=true then prodHi x y else 0
theorem p14_takes (x:Int) (hS:Sat W w (H::F)):
  Ro prog 86 #[I x] (.tuple #[I (ptakesV x), .bool (decide ((0:Int)<=x/\x<=11))]) W w (H::F):=by
 refine callsA 20 func86 rfl<|sR<|pu2<|zQ<|pu1<|nT<|blockE<|seqE<|sR<|pu2<|nT<|cE x 0 (fun a0=>?_) (fun a0=>?_)
 ·exact kT<|cT _ (beq_iff_eq.2 a0)<|sR<|pu2<|zB<|retT [I 0, .bool true]<|⟨by rw [show ptakesV x=0 from (by unfold ptakesV takesV;(repeat' split)<;>first|rfl|(exfalso;omega)),show decide ((0:Int)<=x/\x<=11)=true from decide_eq_true om];rfl,hS⟩
 refine sR<|pu2<|nT<|cE x 1 (fun b0=>?_) (fun b0=>?_)
 ·exact kT<|cT _ (beq_iff_eq.2 b0)<|sR<|pu2<|zB<|retT [I 0, .bool true]<|⟨by rw [show ptakesV x=0 from (by unfold ptakesV takesV;(repeat' split)<;>first|rfl|(exfalso;omega)),show decide ((0:Int)<=x/\x<=11)=true from decide_eq_true om];rfl,hS⟩
 refine rE<|pu2<|nT<|cE x 2 (fun j0=>?_) (fun j0=>?_)
 ·exact sR<|pu2<|zB<|retT [I 0, .bool true]<|⟨by rw [show ptakesV x=0 from (by unfold ptakesV takesV;(repeat' split)<;>first|rfl|(exfalso;omega)),show decide ((0:Int)<=x/\x<=11)=true from decide_eq_true om];rfl,hS⟩
 refine seqE<|sR<|pu2<|nT<|cE x 3 (fun c0=>?_) (fun c0=>?_)
 ·exact kT<|cT _ (beq_iff_eq.2 c0)<|sR<|pu2<|zB<|retT [I 2, .bool true]<|⟨by rw [show ptakesV x=2 from (by unfold ptakesV takesV;(repeat' split)<;>first|rfl|(exfalso;omega)),show decide ((0:Int)<=x/\x<=11)=true from decide_eq_true om];rfl,hS⟩
 refine sR<|pu2<|nT<|cE x 4 (fun d0=>?_) (fun d0=>?_)
 ·exact kT<|cT _ (beq_iff_eq.2 d0)<|sR<|pu2<|zB<|retT [I 2, .bool true]<|⟨by rw [show ptakesV x=2 from (by unfold ptakesV takesV;(repeat' split)<;>first|rfl|(exfalso;omega)),show decide ((0:Int)<=x/\x<=11)=true from decide_eq_true om];rfl,hS⟩
 refine sR<|pu2<|nT<|cE x 5 (fun e0=>?_) (fun e0=>?_)
 ·exact kT<|cT _ (beq_iff_eq.2 e0)<|sR<|pu2<|zB<|retT [I 2, .bool true]<|⟨by rw [show ptakesV x=2 from (by unfold ptakesV takesV;(repeat' split)<;>first|rfl|(exfalso;omega)),show decide ((0:Int)<=x/\x<=11)=true from decide_eq_true om];rfl,hS⟩
 refine sR<|pu2<|nT<|cE x 6 (fun f0=>?_) (fun f0=>?_)
 ·exact kT<|cT _ (beq_iff_eq.2 f0)<|sR<|pu2<|zB<|retT [I 2, .bool true]<|⟨by rw [show ptakesV x=2 from (by unfold ptakesV takesV;(repeat' split)<;>first|rfl|(exfalso;omega)),show decide ((0:Int)<=x/\x<=11)=true from decide_eq_true om];rfl,hS⟩
 refine sR<|pu2<|nT<|cE x 7 (fun g0=>?_) (fun g0=>?_)
 ·exact kT<|cT _ (beq_iff_eq.2 g0)<|sR<|pu2<|zB<|retT [I 2, .bool true]<|⟨by rw [show ptakesV x=2 from (by unfold ptakesV takesV;(repeat' split)<;>first|rfl|(exfalso;omega)),show decide ((0:Int)<=x/\x<=11)=true from decide_eq_true om];rfl,hS⟩
 refine sR<|pu2<|nT<|cE x 8 (fun h0=>?_) (fun h0=>?_)
 ·exact kT<|cT _ (beq_iff_eq.2 h0)<|sR<|pu2<|zB<|retT [I 2, .bool true]<|⟨by rw [show ptakesV x=2 from (by unfold ptakesV takesV;(repeat' split)<;>first|rfl|(exfalso;omega)),show decide ((0:Int)<=x/\x<=11)=true from decide_eq_true om];rfl,hS⟩
 refine rE<|pu2<|nT<|cE x 9 (fun k0=>?_) (fun k0=>?_)
 ·exact sR<|pu2<|zB<|retT [I 2, .bool true]<|⟨by rw [show ptakesV x=2 from (by unfold ptakesV takesV;(repeat' split)<;>first|rfl|(exfalso;omega)),show decide ((0:Int)<=x/\x<=11)=true from decide_eq_true om];rfl,hS⟩
 refine seqE<|sR<|pu2<|nT<|cE x 10 (fun i0=>?_) (fun i0=>?_)
 ·exact kT<|cT _ (beq_iff_eq.2 i0)<|sR<|pu2<|zB<|retT [I 1, .bool true]<|⟨by rw [show ptakesV x=1 from (by unfold ptakesV takesV;(repeat' split)<;>first|rfl|(exfalso;omega)),show decide ((0:Int)<=x/\x<=11)=true from decide_eq_true om];rfl,hS⟩
 refine rE<|pu2<|nT<|cE x 11 (fun l0=>?_) (fun l0=>?_)
 ·exact sR<|pu2<|zB<|retT [I 1, .bool true]<|⟨by rw [show ptakesV x=1 from (by unfold ptakesV takesV;(repeat' split)<;>first|rfl|(exfalso;omega)),show decide ((0:Int)<=x/\x<=11)=true from decide_eq_true om];rfl,hS⟩
 exact skipE<|bN<|tN<|sR<|pu2<|zE<|retT [I 0, .bool false]<|⟨by rw [show ptakesV x=0 from (by unfold ptakesV takesV;(repeat' split)<;>first|rfl|(exfalso;omega)),show decide ((0:Int)<=x/\x<=11)=false from decide_eq_false om];rfl,hS⟩
theorem p14_argument (o : POp) (hS : Sat W w (H :: F)) :
  Ro prog 87 #[.agg #[I o.code, I o.arg]] (.bool (decide (argP o))) W w (H :: F) := by
 refine callsA 28 func87 rfl <| sR <| sBox hS (.agg #[I o.code, I o.arg]) #[I o.code, I o.arg] fun _ _ a0 => pu1 <| zQ <| pu1 <| sL a0 0 0 (I o.code) (isAgg3 _) <| nT <| blockE <| sR <| pu2 <| nT <| cE o.code 2 (fun b0 => ?_) (fun b0 => ?_)
 ·refine sR <| pu1 <| sL a0 0 1 (I o.arg) (isAgg3 _) <| pu2 <| sD 10 (-4294967296 <= o.arg) (fun c0 => ?_) (fun c0 => ?_)
  rotate_left
  ·refine pu5 <| zB <| retT [.bool false] ?_
   have d0 := (a0.dropAt 0 rfl)
   refine ⟨rB ?_, d0⟩
   first | rfl | (rw [Bool.eq_iff_iff]; simp only [decide_eq_true_eq, beq_iff_eq, bne_iff_ne, ne_eq, Bool.not_eq_true', decide_eq_false_iff_not, true_iff, false_iff, iff_true, iff_false, Bool.false_eq_true, Bool.and_eq_true, Bool.or_eq_true, gt_iff_lt, ge_iff_le, argP] <;> omega) | (rw [Bool.eq_iff_iff]; simp [argP, *] <;> omega) | (simp_all; done)
  refine pu1 <| gY <| sL a0 0 1 (I o.arg) (isAgg3 _) <| pu3 <| zB <| retT [.bool (decide ((o.arg : Int) <= 4294967296))] ?_
  have e0 := (a0.dropAt 0 rfl)
  refine ⟨rB ?_, e0⟩
  first | rfl | (rw [Bool.eq_iff_iff]; simp only [decide_eq_true_eq, beq_iff_eq, bne_iff_ne, ne_eq, Bool.not_eq_true', decide_eq_false_iff_not, true_iff, false_iff, iff_true, iff_false, Bool.false_eq_true, Bool.and_eq_true, Bool.or_eq_true, gt_iff_lt, ge_iff_le, argP] <;> omega) | (rw [Bool.eq_iff_iff]; simp [argP, *] <;> omega) | (simp_all; done)
 refine sR <| pu2 <| nT <| cE o.code 10 (fun f0 => ?_) (fun f0 => ?_)
 rotate_left
 ·refine skipE <| bN <| tN <| sR <| pu1 <| sL a0 0 1 (I o.arg) (isAgg3 _) <| pu2 <| zE <| retT [.bool ((o.arg : Int) == 0)] ?_
  have g0 := (a0.dropAt 0 rfl)
  refine ⟨rB ?_, g0⟩
  first | rfl | (rw [Bool.eq_iff_iff]; simp only [decide_eq_true_eq, beq_iff_eq, bne_iff_ne, ne_eq, Bool.not_eq_true', decide_eq_false_iff_not, true_iff, false_iff, iff_true, iff_false, Bool.false_eq_true, Bool.and_eq_true, Bool.or_eq_true, gt_iff_lt, ge_iff_le, argP] <;> omega) | (rw [Bool.eq_iff_iff]; simp [argP, *] <;> omega) | (simp_all; done)
 refine sR <| pu1 <| sL a0 0 1 (I o.arg) (isAgg3 _) <| pu2 <| sD 20 (0 <= o.arg) (fun h0 => ?_) (fun h0 => ?_)
 rotate_left
 ·refine pu5 <| zB <| retT [.bool false] ?_
  have i0 := (a0.dropAt 0 rfl)
  refine ⟨rB ?_, i0⟩
  first | rfl | (rw [Bool.eq_iff_iff]; simp only [decide_eq_true_eq, beq_iff_eq, bne_iff_ne, ne_eq, Bool.not_eq_true', decide_eq_false_iff_not, true_iff, false_iff, iff_true, iff_false, Bool.false_eq_true, Bool.and_eq_true, Bool.or_eq_true, gt_iff_lt, ge_iff_le, argP] <;> omega) | (rw [Bool.eq_iff_iff]; simp [argP, *] <;> omega) | (simp_all; done)
 refine pu1 <| gY <| sL a0 0 1 (I o.arg) (isAgg3 _) <| pu3 <| zB <| retT [.bool (decide ((o.arg : Int) <= 24))] ?_
 have j0 := (a0.dropAt 0 rfl)
 refine ⟨rB ?_, j0⟩
 first | rfl | (rw [Bool.eq_iff_iff]; simp only [decide_eq_true_eq, beq_iff_eq, bne_iff_ne, ne_eq, Bool.not_eq_true', decide_eq_false_iff_not, true_iff, false_iff, iff_true, iff_false, Bool.false_eq_true, Bool.and_eq_true, Bool.or_eq_true, gt_iff_lt, ge_iff_le, argP] <;> omega) | (rw [Bool.eq_iff_iff]; simp [argP, *] <;> omega) | (simp_all; done)
theorem p14_valid (ax : Option Addr) (nx kx : Nat) (x : List POp) (two : Bool) (hx : RdT encPOp 2 [H] ax nx kx x) (hS : Sat W w (H :: F)) :
  Ro prog 71 #[.slice ax nx kx, .bool two] (I (opsCode x two)) W w (H :: F) := by
 have hl_x := hx.le; have hn_x := hx.len
 refine callsA 56 func71 rfl ?_
 refine sR <| pu1 <| zQ <| pu4 ?_
 refine sE 13 (nx : Int) 0 (fun h0 => ?_) (fun h0 => ?_)
 ·refine pu4 <| zC <| pu1 <| zR <| retT [I 9] ?_
  exact ⟨by unfold opsCode; rw [if_pos om]; rfl, hS⟩
 refine pu4 <| nT ?_
 refine cD ((nx : Int) > 32) (fun i0 => ?_) (fun i0 => ?_)
 ·refine sR <| pu1 <| zR <| retT [I 9] ?_
  exact ⟨by unfold opsCode; rw [if_pos om]; rfl, hS⟩
 refine kS <| pu1 <| zQ <| pu3 <| nT <| blockE ?_
 refine loopA (γ := Nat × Int) (fun ⟨i, h⟩ => [(1, .bool two), (18, .slice ax nx kx), (19, I (nx : Int)), (20, I (i : Int)), (5, I h)]) (fun ⟨i, h⟩ w => Sat W w (H :: F) /\ i <= nx /\ (opsGo two x 0 = opsGo two (x.drop i) h) /\ (0 <= h /\ h <= (i : Int))) (fun ⟨i, h⟩ => nx - i) (0, 0) ⟨hS, om, by rfl, om⟩ ?_
 rintro ⟨i, h⟩ ρ _ ⟨d0, hi, hG, hb⟩
 refine sR <| pu1 <| nT <| seqE ?_
 refine cD ((i : Int) < (nx : Int)) (fun j0 => ?_) (fun j0 => ?_)
 rotate_left
 ·refine exitE <| xB <| tN <| seqE <| sR <| pu2 <| nT ?_
  refine cN h 1 (fun k0 => ?_) (fun k0 => ?_)
  rotate_left
  ·refine sR <| pu1 <| zR <| retT [I 1] ?_
   have hcode : opsCode x two = opsGo two (x.drop i) h := by unfold opsCode; rw [if_neg om]; exact hG
   exact ⟨by rw [hcode, List.drop_of_length_le om, opsGo]; rw [if_neg om]; rfl, d0⟩
  refine kS <| pu1 <| zE <| retT [I 0] ?_
  have hcode : opsCode x two = opsGo two (x.drop i) h := by unfold opsCode; rw [if_neg om]; exact hG
  exact ⟨by rw [hcode, List.drop_of_length_le om, opsGo]; rw [if_pos om]; rfl, d0⟩
 refine kT <| seqE <| blockE <| sR ?_
 refine sIdx hx (i : Int) runUnderlying57 sizeOf119 ?_
 intro a0 _ _ b0 l0
 rw [Int.toNat_natCast] at b0
 refine sLpA d0 (l0.up 0 rfl) 0 [I a0.code, I a0.arg] (isAgg119 _) (sizeOf119 _) ?_
 refine sAlloc d0 zeroValue119 ?_
 intro _ _ m0
 refine sTl m0 0 [I a0.code, I a0.arg] sizeOf119 ?_
 intro _ e0
 refine zS <| pu1 ?_
 refine sL e0 0 0 (I a0.code) (isAgg3 _) ?_
 refine cR call86 (p14_takes a0.code e0.flat) ?_
 intro _ c0
 have j1 : (0 <= (ptakesV a0.code) /\ (ptakesV a0.code) <= 2) /\ (¬ (0 <= a0.code /\ a0.code <= 11) \/ (ptakesV a0.code) = takesV a0.code) := ptakes_bd _
 refine pu5 <| zQ <| pu3 ?_
 refine sDn 32 ((0 : Int) <= a0.code /\ a0.code <= 11) (fun n0 => ?_) (fun n0 => ?_)
 rotate_left
 ·refine pu13 <| zC <| pu1 <| zE <| tR <| tK <| tR <| tK <| retT [I 1] ?_
  have o0 := (c0.dropAt 0 rfl)
  have hcode : opsCode x two = opsGo two (x.drop i) h := by unfold opsCode; rw [if_neg om]; exact hG
  exact ⟨by rw [hcode, drop_at b0, opsGo]; rw [if_pos (by unfold opBad; first | omega | (simp_all; done) | (simp_all; omega))]; rfl, o0⟩
 refine pu1 <| gY ?_
 refine sL c0 0 0 (I a0.code) (isAgg3 _) ?_
 refine pu2 ?_
 refine sE 36 a0.code 1 (fun p0 => ?_) (fun p0 => ?_)
 rotate_left
 ·refine pu9 <| nT ?_
  refine cD ((ptakesV a0.code) > h) (fun q0 => ?_) (fun q0 => ?_)
  ·refine sR <| pu1 <| zE <| tR <| tK <| tR <| tK <| retT [I 1] ?_
   have r0 := (c0.dropAt 0 rfl)
   have hcode : opsCode x two = opsGo two (x.drop i) h := by unfold opsCode; rw [if_neg om]; exact hG
   exact ⟨by rw [hcode, drop_at b0, opsGo]; rw [if_pos (by unfold opBad; first | omega | (simp_all; done) | (simp_all; omega))]; rfl, r0⟩
  refine kT <| seqE <| sR ?_
  refine lA c0 0 0 2 (isAgg119 _) (sizeOf119 _) ?_
  refine cR call87 (p14_argument a0 c0.flat) ?_
  intro _ f0
  refine pu1 <| nT ?_
  refine cDn (argP a0) (fun s0 => ?_) (fun s0 => ?_)
  rotate_left
  ·refine sR <| pu1 <| zE <| tR <| tK <| tR <| tK <| retT [I 10] ?_
   have t0 := (f0.dropAt 0 rfl)
   have hcode : opsCode x two = opsGo two (x.drop i) h := by unfold opsCode; rw [if_neg om]; exact hG
   exact ⟨by rw [hcode, drop_at b0, opsGo]; rw [if_neg (by unfold opBad; first | omega | (simp_all; done) | (simp_all; omega)), if_neg ‹_›]; rfl, t0⟩
  refine kT <| rE <| pu2 ?_
  refine sSub 1 (ptakesV a0.code) ?_
  refine sAdd h (1 - (ptakesV a0.code)) ?_
  refine pu1 <| nB <| rE ?_
  refine sAdd (i : Int) 1 ?_
  refine pu1 <| nT ?_
  exact ⟨(i + 1, (h + (1 - (ptakesV a0.code)))), od, alA, (f0.dropAt 0 rfl), om, by rw [hG, drop_at b0, opsGo, if_neg (by unfold opBad; first | omega | (simp_all; done) | (simp_all; omega)), if_pos ‹_›, show takesV a0.code = ptakesV a0.code by omega], om⟩
 refine pu5 ?_
 refine sBn 41 two (fun v0 => ?_) (fun v0 => ?_)
 rotate_left
 ·refine pu4 <| zC <| pu1 <| zE <| tR <| tK <| tR <| tK <| retT [I 1] ?_
  have w0 := (c0.dropAt 0 rfl)
  have hcode : opsCode x two = opsGo two (x.drop i) h := by unfold opsCode; rw [if_neg om]; exact hG
  exact ⟨by rw [hcode, drop_at b0, opsGo]; rw [if_pos (by unfold opBad; first | omega | (simp_all; done) | (simp_all; omega))]; rfl, w0⟩
 refine pu4 <| nT ?_
 refine cD ((ptakesV a0.code) > h) (fun x0 => ?_) (fun x0 => ?_)
 ·refine sR <| pu1 <| zE <| tR <| tK <| tR <| tK <| retT [I 1] ?_
  have y0 := (c0.dropAt 0 rfl)
  have hcode : opsCode x two = opsGo two (x.drop i) h := by unfold opsCode; rw [if_neg om]; exact hG
  exact ⟨by rw [hcode, drop_at b0, opsGo]; rw [if_pos (by unfold opBad; first | omega | (simp_all; done) | (simp_all; omega))]; rfl, y0⟩
 refine kT <| seqE <| sR ?_
 refine lA c0 0 0 2 (isAgg119 _) (sizeOf119 _) ?_
 refine cR call87 (p14_argument a0 c0.flat) ?_
 intro _ g0
 refine pu1 <| nT ?_
 refine cDn (argP a0) (fun z0 => ?_) (fun z0 => ?_)
 rotate_left
 ·refine sR <| pu1 <| zE <| tR <| tK <| tR <| tK <| retT [I 10] ?_
  have a1 := (g0.dropAt 0 rfl)
  have hcode : opsCode x two = opsGo two (x.drop i) h := by unfold opsCode; rw [if_neg om]; exact hG
  exact ⟨by rw [hcode, drop_at b0, opsGo]; rw [if_neg (by unfold opBad; first | omega | (simp_all; done) | (simp_all; omega)), if_neg ‹_›]; rfl, a1⟩
 refine kT <| rE <| pu2 ?_
 refine sSub 1 (ptakesV a0.code) ?_
 refine sAdd h (1 - (ptakesV a0.code)) ?_
 refine pu1 <| nB <| rE ?_
 refine sAdd (i : Int) 1 ?_
 refine pu1 <| nT ?_
 exact ⟨(i + 1, (h + (1 - (ptakesV a0.code)))), od, alA, (g0.dropAt 0 rfl), om, by rw [hG, drop_at b0, opsGo, if_neg (by unfold opBad; first | omega | (simp_all; done) | (simp_all; omega)), if_pos ‹_›, show takesV a0.code = ptakesV a0.code by omega], om⟩
theorem p14_abs (a:Int) (ha:-9223372036854775807<=a/\a<=9223372036854775807) (hS:Sat W w (H::F)):
    Ro prog 97 #[.int .i64 a] (.int .i64 (a.natAbs:Int)) W w (H::F):=by
  refine callsA 7 func97 rfl ?_
  refine seqE<|rE<|pu1<|nilO<|tN<|seqE<|rE<|pu2 ?_
  refine stepY (.int .i64 (-a)) rfl rfl (Y_neg a rfl (by kernel_rfl)) ?_
  refine stepY (.int .i64 (max a (-a))) rfl rfl (Y_max2 a (-a) rfl rfl (by kernel_rfl) (by kernel_rfl)) ?_
  refine pu1<|nilO<|tN<|retE<|retT [.int .i64 (max a (-a))]<|?_
  exact ⟨congrArg (fun c=>Ending.returned (.int .i64 c)) (by omega),hS⟩
theorem p14_within (x:Int) (hS:Sat W w (H::F)):
  Ro prog 95 #[I x] (.bool (decide ((-17592186044416:Int)<=x/\x<=17592186044416))) W w (H::F):=by
 refine callsA 9 func95 rfl<|sR<|pu1<|zS<|pu3<|sD 5 (-17592186044416<=x) (fun a0=>?_) (fun a0=>?_)
 rotate_left
 ·exact pu4<|zE<|retT [.bool false]<|⟨rB bq,hS⟩
 exact pu4<|zE<|retT [.bool (decide ((x:Int)<=17592186044416))]<|⟨rB bq,hS⟩
theorem p14_product (a:Int) (b:Int) (ha:-17592186044416<=a/\a<=17592186044416) (hb:-17592186044416<=b/\b<=17592186044416) (hS:Sat W w (H::F)):
  Ro prog 96 #[I a,I b] (.tuple #[I (timesV a b), .bool (timesOK a b)]) W w (H::F):=by
 refine callsA 19 func96 rfl<|sR<|pu2<|zQ<|pu3<|sN 8 b 0 (fun b0=>?_) (fun b0=>?_)
 ·refine pu7<|nT<|cFf<|kT<|seqE ?_
  have ht:=times_t (a:=a) (b:=b) (x:=(a.natAbs:Int)) (y:=(b.natAbs:Int)) om om om om om
  exact rE<|pu2<|sMul a b<|pu2<|zE<|retT [I (a*b), .bool true]<|⟨by rw [ht.1,ht.2.1];rfl,hS⟩
 refine pu1<|gY<|cR call97 (p14_abs a (od) hS.flat) fun _ c0=>pu1<|gY<|cR call97 (p14_abs b (od) c0.flat) fun _ a0=>gY<|sQuo 17592186044416 (b.natAbs:Int)<|pu2<|nT<|cD ((a.natAbs:Int)>((17592186044416:Int).tdiv (b.natAbs:Int))) (fun d0=>?_) (fun d0=>?_)
 ·refine sR<|pu2<|zR<|retT [I 0, .bool false] ?_
  have ht:=times_f (a:=a) (b:=b) (x:=(a.natAbs:Int)) (y:=(b.natAbs:Int)) om om om
  exact ⟨by rw [ht.1,ht.2];rfl,a0⟩
 refine kT<|seqE ?_
 have ht:=times_t (a:=a) (b:=b) (x:=(a.natAbs:Int)) (y:=(b.natAbs:Int)) om om om om om
 exact rE<|pu2<|sMul a b<|pu2<|zE<|retT [I (a*b), .bool true]<|⟨by rw [ht.1,ht.2.1];rfl,a0⟩
theorem p14_times (x : Sp) (y : Sp) (hx : accS x) (hy : accS y) (hS : Sat W w (H :: F)) :
  Ro prog 93 #[.agg #[I x.lo, I x.hi], .agg #[I y.lo, I y.hi]] (.tuple #[.agg #[I (ptLo x y), I (ptHi x y)], .bool (prodOK x y)]) W w (H :: F) := by
 have hx1 := hx.1; have hx2 := hx.2; have hy1 := hy.1; have hy2 := hy.2
 refine callsA 63 func93 rfl ?_
 refine sR ?_
 refine sBox hS (.agg #[I x.lo, I x.hi]) #[I x.lo, I x.hi] ?_
 intro _ _ q0
 refine sBox q0 (.agg #[I y.lo, I y.hi]) #[I y.lo, I y.hi] ?_
 intro _ _ r0
 refine sAlloc r0 zeroValue124 ?_
 intro _ _ s0
 refine pu1 <| zS ?_
 refine sAlloc s0 zeroValue124 ?_
 intro _ _ a0
 refine zQ <| pu1 ?_
 refine sL a0 3 0 (I x.lo) (isAgg3 _) ?_
 refine pu1 ?_
 refine sL a0 2 0 (I y.lo) (isAgg3 _) ?_
 refine pu2 ?_
 refine sL a0 3 0 (I x.lo) (isAgg3 _) ?_
 refine pu1 ?_
 refine sL a0 2 1 (I y.hi) (isAgg3 _) ?_
 refine pu2 ?_
 refine sL a0 3 1 (I x.hi) (isAgg3 _) ?_
 refine pu1 ?_
 refine sL a0 2 0 (I y.lo) (isAgg3 _) ?_
 refine pu2 ?_
 refine sL a0 3 1 (I x.hi) (isAgg3 _) ?_
 refine pu1 ?_
 refine sL a0 2 1 (I y.hi) (isAgg3 _) ?_
 refine pu3 <| nT <| blockE ?_
 refine loopN 5 ?_
 refine roundS ?_
 refine sR <| pu1 <| nT <| seqE <| cTt <| kT <| seqE <| blockE <| sR <| pu2 ?_
 refine sAlloc a0 zeroValue132 ?_
 intro _ _ t0
 refine pu1 ?_
 refine sTl t0 0 [I x.lo, I y.lo] sizeOf132 ?_
 intro _ e0
 refine zS <| pu1 ?_
 refine sL e0 0 0 (I x.lo) (isAgg3 _) ?_
 refine pu1 ?_
 refine sL e0 0 1 (I y.lo) (isAgg3 _) ?_
 refine cR call96 (p14_product x.lo y.lo (od) (od) e0.flat) ?_
 intro _ j0
 refine pu5 <| zQ <| pu2 <| nT ?_
 refine cBn (timesOK x.lo y.lo) (fun u0 => ?_) (fun u0 => ?_)
 rotate_left
 ·refine sR <| pu1 ?_
  refine sTl j0 2 [I 0, I 0] sizeOf124 ?_
  intro _ k0
  refine pu1 <| zE <| tR <| tK <| tR <| tK <| retC k0 2 [I 0, I 0] (.bool false) (isAgg124 _) (sizeOf124 _) ?_
  have v0 := (k0.drops [0, 0, 0, 0, 0])
  have hOK : prodOK x y = false := by simp [prodOK, *]
  exact ⟨by rw [hOK]; unfold ptLo ptHi; rw [hOK]; rfl, v0⟩
 refine kT <| seqE <| sR <| pu2 <| nT <| cTt <| rE <| pu3 ?_
 refine sTl j0 1 [I (timesV x.lo y.lo), I (timesV x.lo y.lo)] sizeOf124 ?_
 intro _ f0
 refine nT <| rE <| pu1 ?_
 refine sL f0 1 0 (I (timesV x.lo y.lo)) (isAgg3 _) ?_
 refine pu1 ?_
 refine stepY (I (min (timesV x.lo y.lo) (timesV x.lo y.lo))) rfl rfl (Y_min2 (timesV x.lo y.lo) (timesV x.lo y.lo) rfl rfl kr kr) ?_
 refine pu1 ?_
 refine sL f0 1 1 (I (timesV x.lo y.lo)) (isAgg3 _) ?_
 refine pu1 ?_
 refine stepY (I (max (timesV x.lo y.lo) (timesV x.lo y.lo))) rfl rfl (Y_max2 (timesV x.lo y.lo) (timesV x.lo y.lo) rfl rfl kr kr) ?_
 refine pu1 ?_
 refine sTl f0 1 [I (min (timesV x.lo y.lo) (timesV x.lo y.lo)), I (max (timesV x.lo y.lo) (timesV x.lo y.lo))] sizeOf124 ?_
 intro _ w0
 refine nB <| rE <| pu2 <| nT ?_
 refine roundS ?_
 refine sR <| pu1 <| nT <| seqE <| cTt <| kT <| seqE <| blockE <| sR <| pu2 ?_
 refine sAlloc w0 zeroValue132 ?_
 intro _ _ x0
 refine pu1 ?_
 refine sTl x0 0 [I x.lo, I y.hi] sizeOf132 ?_
 intro _ g0
 refine zS <| pu1 ?_
 refine sL g0 0 0 (I x.lo) (isAgg3 _) ?_
 refine pu1 ?_
 refine sL g0 0 1 (I y.hi) (isAgg3 _) ?_
 refine cR call96 (p14_product x.lo y.hi (od) (od) g0.flat) ?_
 intro _ b0
 refine pu5 <| zQ <| pu2 <| nT ?_
 refine cBn (timesOK x.lo y.hi) (fun y0 => ?_) (fun y0 => ?_)
 rotate_left
 ·refine sR <| pu1 ?_
  refine sTl b0 3 [I 0, I 0] sizeOf124 ?_
  intro _ l0
  refine pu1 <| zE <| tR <| tK <| tR <| tK <| retC l0 3 [I 0, I 0] (.bool false) (isAgg124 _) (sizeOf124 _) ?_
  have z0 := (l0.drops [0, 0, 0, 0, 0, 0])
  have hOK : prodOK x y = false := by simp [prodOK, *]
  exact ⟨by rw [hOK]; unfold ptLo ptHi; rw [hOK]; rfl, z0⟩
 refine kT <| seqE <| sR <| pu2 <| nT <| cFf <| kT <| rE <| pu1 ?_
 refine sL b0 2 0 (I (min (timesV x.lo y.lo) (timesV x.lo y.lo))) (isAgg3 _) ?_
 refine pu1 ?_
 refine stepY (I (min (min (timesV x.lo y.lo) (timesV x.lo y.lo)) (timesV x.lo y.hi))) rfl rfl (Y_min2 (min (timesV x.lo y.lo) (timesV x.lo y.lo)) (timesV x.lo y.hi) rfl rfl kr kr) ?_
 refine pu1 ?_
 refine sL b0 2 1 (I (max (timesV x.lo y.lo) (timesV x.lo y.lo))) (isAgg3 _) ?_
 refine pu1 ?_
 refine stepY (I (max (max (timesV x.lo y.lo) (timesV x.lo y.lo)) (timesV x.lo y.hi))) rfl rfl (Y_max2 (max (timesV x.lo y.lo) (timesV x.lo y.lo)) (timesV x.lo y.hi) rfl rfl kr kr) ?_
 refine pu1 ?_
 refine sTl b0 2 [I (min (min (timesV x.lo y.lo) (timesV x.lo y.lo)) (timesV x.lo y.hi)), I (max (max (timesV x.lo y.lo) (timesV x.lo y.lo)) (timesV x.lo y.hi))] sizeOf124 ?_
 intro _ a1
 refine nB <| rE <| pu2 <| nT ?_
 refine roundS ?_
 refine sR <| pu1 <| nT <| seqE <| cTt <| kT <| seqE <| blockE <| sR <| pu2 ?_
 refine sAlloc a1 zeroValue132 ?_
 intro _ _ b1
 refine pu1 ?_
 refine sTl b1 0 [I x.hi, I y.lo] sizeOf132 ?_
 intro _ h0
 refine zS <| pu1 ?_
 refine sL h0 0 0 (I x.hi) (isAgg3 _) ?_
 refine pu1 ?_
 refine sL h0 0 1 (I y.lo) (isAgg3 _) ?_
 refine cR call96 (p14_product x.hi y.lo (od) (od) h0.flat) ?_
 intro _ c0
 refine pu5 <| zQ <| pu2 <| nT ?_
 refine cBn (timesOK x.hi y.lo) (fun c1 => ?_) (fun c1 => ?_)
 rotate_left
 ·refine sR <| pu1 ?_
  refine sTl c0 4 [I 0, I 0] sizeOf124 ?_
  intro _ m0
  refine pu1 <| zE <| tR <| tK <| tR <| tK <| retC m0 4 [I 0, I 0] (.bool false) (isAgg124 _) (sizeOf124 _) ?_
  have d1 := (m0.drops [0, 0, 0, 0, 0, 0, 0])
  have hOK : prodOK x y = false := by simp [prodOK, *]
  exact ⟨by rw [hOK]; unfold ptLo ptHi; rw [hOK]; rfl, d1⟩
 refine kT <| seqE <| sR <| pu2 <| nT <| cFf <| kT <| rE <| pu1 ?_
 refine sL c0 3 0 (I (min (min (timesV x.lo y.lo) (timesV x.lo y.lo)) (timesV x.lo y.hi))) (isAgg3 _) ?_
 refine pu1 ?_
 refine stepY (I (min (min (min (timesV x.lo y.lo) (timesV x.lo y.lo)) (timesV x.lo y.hi)) (timesV x.hi y.lo))) rfl rfl (Y_min2 (min (min (timesV x.lo y.lo) (timesV x.lo y.lo)) (timesV x.lo y.hi)) (timesV x.hi y.lo) rfl rfl kr kr) ?_
 refine pu1 ?_
 refine sL c0 3 1 (I (max (max (timesV x.lo y.lo) (timesV x.lo y.lo)) (timesV x.lo y.hi))) (isAgg3 _) ?_
 refine pu1 ?_
 refine stepY (I (max (max (max (timesV x.lo y.lo) (timesV x.lo y.lo)) (timesV x.lo y.hi)) (timesV x.hi y.lo))) rfl rfl (Y_max2 (max (max (timesV x.lo y.lo) (timesV x.lo y.lo)) (timesV x.lo y.hi)) (timesV x.hi y.lo) rfl rfl kr kr) ?_
 refine pu1 ?_
 refine sTl c0 3 [I (min (min (min (timesV x.lo y.lo) (timesV x.lo y.lo)) (timesV x.lo y.hi)) (timesV x.hi y.lo)), I (max (max (max (timesV x.lo y.lo) (timesV x.lo y.lo)) (timesV x.lo y.hi)) (timesV x.hi y.lo))] sizeOf124 ?_
 intro _ e1
 refine nB <| rE <| pu2 <| nT ?_
 refine roundS ?_
 refine sR <| pu1 <| nT <| seqE <| cTt <| kT <| seqE <| blockE <| sR <| pu2 ?_
 refine sAlloc e1 zeroValue132 ?_
 intro _ _ f1
 refine pu1 ?_
 refine sTl f1 0 [I x.hi, I y.hi] sizeOf132 ?_
 intro _ i0
 refine zS <| pu1 ?_
 refine sL i0 0 0 (I x.hi) (isAgg3 _) ?_
 refine pu1 ?_
 refine sL i0 0 1 (I y.hi) (isAgg3 _) ?_
 refine cR call96 (p14_product x.hi y.hi (od) (od) i0.flat) ?_
 intro _ d0
 refine pu5 <| zQ <| pu2 <| nT ?_
 refine cBn (timesOK x.hi y.hi) (fun g1 => ?_) (fun g1 => ?_)
 rotate_left
 ·refine sR <| pu1 ?_
  refine sTl d0 5 [I 0, I 0] sizeOf124 ?_
  intro _ n0
  refine pu1 <| zE <| tR <| tK <| tR <| tK <| retC n0 5 [I 0, I 0] (.bool false) (isAgg124 _) (sizeOf124 _) ?_
  have h1 := (n0.drops [0, 0, 0, 0, 0, 0, 0, 0])
  have hOK : prodOK x y = false := by simp [prodOK, *]
  exact ⟨by rw [hOK]; unfold ptLo ptHi; rw [hOK]; rfl, h1⟩
 refine kT <| seqE <| sR <| pu2 <| nT <| cFf <| kT <| rE <| pu1 ?_
 refine sL d0 4 0 (I (min (min (min (timesV x.lo y.lo) (timesV x.lo y.lo)) (timesV x.lo y.hi)) (timesV x.hi y.lo))) (isAgg3 _) ?_
 refine pu1 ?_
 refine stepY (I (min (min (min (min (timesV x.lo y.lo) (timesV x.lo y.lo)) (timesV x.lo y.hi)) (timesV x.hi y.lo)) (timesV x.hi y.hi))) rfl rfl (Y_min2 (min (min (min (timesV x.lo y.lo) (timesV x.lo y.lo)) (timesV x.lo y.hi)) (timesV x.hi y.lo)) (timesV x.hi y.hi) rfl rfl kr kr) ?_
 refine pu1 ?_
 refine sL d0 4 1 (I (max (max (max (timesV x.lo y.lo) (timesV x.lo y.lo)) (timesV x.lo y.hi)) (timesV x.hi y.lo))) (isAgg3 _) ?_
 refine pu1 ?_
 refine stepY (I (max (max (max (max (timesV x.lo y.lo) (timesV x.lo y.lo)) (timesV x.lo y.hi)) (timesV x.hi y.lo)) (timesV x.hi y.hi))) rfl rfl (Y_max2 (max (max (max (timesV x.lo y.lo) (timesV x.lo y.lo)) (timesV x.lo y.hi)) (timesV x.hi y.lo)) (timesV x.hi y.hi) rfl rfl kr kr) ?_
 refine pu1 ?_
 refine sTl d0 4 [I (min (min (min (min (timesV x.lo y.lo) (timesV x.lo y.lo)) (timesV x.lo y.hi)) (timesV x.hi y.lo)) (timesV x.hi y.hi)), I (max (max (max (max (timesV x.lo y.lo) (timesV x.lo y.lo)) (timesV x.lo y.hi)) (timesV x.hi y.lo)) (timesV x.hi y.hi))] sizeOf124 ?_
 intro _ o0
 refine nB <| rE <| pu2 <| nT ?_
 refine roundS ?_
 refine sR <| pu1 <| nT <| seqE <| cFf <| exitE <| xB <| tN <| sR ?_
 refine lA o0 4 0 2 (isAgg124 _) (sizeOf124 _) ?_
 refine sTl o0 5 [I (min (min (min (min (timesV x.lo y.lo) (timesV x.lo y.lo)) (timesV x.lo y.hi)) (timesV x.hi y.lo)) (timesV x.hi y.hi)), I (max (max (max (max (timesV x.lo y.lo) (timesV x.lo y.lo)) (timesV x.lo y.hi)) (timesV x.hi y.lo)) (timesV x.hi y.hi))] sizeOf124 ?_
 intro _ p0
 refine pu1 <| zE <| retC p0 5 [I (min (min (min (min (timesV x.lo y.lo) (timesV x.lo y.lo)) (timesV x.lo y.hi)) (timesV x.hi y.lo)) (timesV x.hi y.hi)), I (max (max (max (max (timesV x.lo y.lo) (timesV x.lo y.lo)) (timesV x.lo y.hi)) (timesV x.hi y.lo)) (timesV x.hi y.hi))] (.bool true) (isAgg124 _) (sizeOf124 _) ?_
 have i1 := (p0.drops [0, 0, 0, 0, 0, 0, 0, 0])
 have hOK : prodOK x y = true := by simp [prodOK, *]
 exact ⟨by rw [hOK]; unfold ptLo ptHi; rw [if_pos hOK, if_pos hOK, show prodLo x y = (min (min (min (min (timesV x.lo y.lo) (timesV x.lo y.lo)) (timesV x.lo y.hi)) (timesV x.hi y.lo)) (timesV x.hi y.hi)) by unfold prodLo; omega, show prodHi x y = (max (max (max (max (timesV x.lo y.lo) (timesV x.lo y.lo)) (timesV x.lo y.hi)) (timesV x.hi y.lo)) (timesV x.hi y.hi)) by unfold prodHi; omega]; rfl, i1⟩
theorem p14_magnitude (x:Sp) (hx:accS x) (hS:Sat W w (H::F)):
  Ro prog 94 #[.agg #[I x.lo,I x.hi]] (I (max (((x.lo).natAbs:Nat):Int) (((x.hi).natAbs:Nat):Int))) W w (H::F):=by
 have hx1:=hx.1;have hx2:=hx.2
 refine callsA 10 func94 rfl<|sR<|sBox hS (.agg #[I x.lo,I x.hi]) #[I x.lo,I x.hi] fun b0 _ a0=>pu1<|nT<|seqE<|drawE [2,5] [(1,⟨b0,0,none⟩,I x.lo),(4,⟨b0,1,none⟩,I x.hi)] [(true,[0,3]),(true,[1]),(true,[4]),(false,[2]),(false,[5]),(true,[6]),(true,[7])] rfl kr ⟨cI a0 0,cI a0 0,trivial⟩ ?_
 have d0:=a0.drew
 refine wU [0,3]<|wLd (I x.lo) 0 isAgg3<|wLd (I x.hi) 1 isAgg3<|wO rfl<|cR call97 (p14_abs x.lo (od) d0.flat) fun _ c0=>nilO ⟨⟨dI,cI c0 0,trivial⟩,?_⟩
 refine wO rfl<|cR call97 (p14_abs x.hi (od) c0.flat) fun _ e0=>nilO ⟨dA,?_⟩
 exact wY (I (max (x.lo.natAbs:Int) (x.hi.natAbs:Int))) rfl (fun w _=>Y_max2 (x.lo.natAbs:Int) (x.hi.natAbs:Int) rfl rfl kr kr)<|wU [7]<|wN<|tN<|retE<|retT [I (max (x.lo.natAbs:Int) (x.hi.natAbs:Int))]<|⟨rfl,(e0.dropAt 0 rfl)⟩
end Go.Proofs.Ytmlhcafjelkjfaa
