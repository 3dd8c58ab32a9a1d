import Derived.WalkKit
import Derived.Deep.Quiet
import Derived.KernelRfl
import Derived.Laws.BytesString
import Derived.Laws.Shifts
import Derived.Laws.IdiomStrings
import Derived.OpenShut
import Derived.Test.YtdingplbadblpaaGreatProg
import Derived.Test.YtdingplbadblpaaGreatR1Q3La
namespace Go.Proofs.YtdingplbadblpaaGreat
open Go Go.E Go.Proofs.Tryz
set_option linter.all false
set_option maxRecDepth 100000
set_option maxHeartbeats 2000000
variable {W w:World} {H:Chunk} {F:List Chunk}
theorem r1_ceil (a:Int) (b:Int) (hab:a<=4611686018427387904/\b<=4611686018427387904) (hS:Sat W w (H::F)):
  Ro prog 97 #[I a,I b] (I (ceilV a b)) W w (H::F):=by
 refine callsA 22 func97 rfl<|sR<|pu1<|zQ<|pu3<|sD 8 (a<0) (fun a0=>?_) (fun a0=>?_)
 ·refine pu3<|zC<|pu1<|zR<|retT [I 0] ?_
  have hk:ceilV a b=0:=by unfold ceilV;rw [if_neg om]
  exact ⟨by rw [hk];rfl,hS⟩
 refine pu3<|nT<|cD (b<1) (fun b0=>?_) (fun b0=>?_)
 ·refine sR<|pu1<|zR<|retT [I 0] ?_
  have hk:ceilV a b=0:=by unfold ceilV;rw [if_neg om]
  exact ⟨by rw [hk];rfl,hS⟩
 refine kT<|seqE ?_
 have ht:a.tdiv b=a/b:=Int.tdiv_eq_ediv_of_nonneg om;have hm:a.tmod b=a%b:=Int.tmod_eq_emod_of_nonneg om;have hd:=tdiv_bd (a:=a) (b:=b) (A:=a) om om;have hmb:=Int.emod_nonneg a (by omega:b≠0);have hmc:=Int.emod_lt_of_pos a (by omega:0<b)
 refine rE<|pu2<|sQuo a b<|pu1<|zQ<|pu2<|sRem a b<|pu1<|nT<|cD ((a.tmod b)>0) (fun c0=>?_) (fun c0=>?_)
 rotate_left
 ·refine kS<|pu2<|zE<|retT [I (a.tdiv b)] ?_
  have hk:ceilV a b=(a.tdiv b):=by unfold ceilV;rw [if_pos om,if_pos (by rw [<-hm];omega),<-ht]
  exact ⟨by rw [hk];rfl,hS⟩
 refine rE<|pu1<|sAdd (a.tdiv b) 1<|pu1<|zS<|pu2<|zE<|retT [I ((a.tdiv b)+1)] ?_
 have hk:ceilV a b=((a.tdiv b)+1):=by unfold ceilV;rw [if_pos om,if_neg (by rw [<-hm];omega),<-ht]
 exact ⟨by rw [hk];rfl,hS⟩
theorem r1_align (n:Int) (k:Int) (l:Int) (hab:n<=4611686018427387904/\k<=4611686018427387904/\l<=4611686018427387904) (hS:Sat W w (H::F)):
  Ro prog 56 #[I n,I k,I l] (.tuple #[I (alnX n k l), .bool (alnOK n k l)]) W w (H::F):=by
 refine callsA 22 func56 rfl<|sR<|pu2<|zQ<|pu3<|sD 10 (n<0) (fun a0=>?_) (fun a0=>?_)
 ·refine pu3<|zC<|pu2<|zR<|retT [I 0, .bool false] ?_
  have h1:alnOK n k l=false:=by unfold alnOK;rw [if_neg om]
  have h2:alnX n k l=0:=by unfold alnX;rw [if_neg om]
  exact ⟨by rw [h1,h2];rfl,hS⟩
 refine pu3<|nT<|cD (k<1) (fun b0=>?_) (fun b0=>?_)
 ·refine sR<|pu2<|zR<|retT [I 0, .bool false] ?_
  have h1:alnOK n k l=false:=by unfold alnOK;rw [if_neg om]
  have h2:alnX n k l=0:=by unfold alnX;rw [if_neg om]
  exact ⟨by rw [h1,h2];rfl,hS⟩
 refine kS<|pu2<|cR call97 (r1_ceil n k (od) hS.flat) fun _ c0=>pu2<|cR call98 (r1_mul (ceilV n k) k l (od) c0.flat) fun _ d0=>pu4<|zE<|retT [I (mulV (ceilV n k) k l), .bool (mulOK (ceilV n k) k l)] ?_
 have h1:alnOK n k l=mulOK (ceilV n k) k l:=by unfold alnOK;rw [if_pos om]
 have h2:alnX n k l=mulV (ceilV n k) k l:=by unfold alnX;rw [if_pos om]
 exact ⟨by rw [h1,h2];rfl,d0⟩
theorem r5_fine (w0 : Int) (h0 : Int) (tw : Int) (th : Int) (hS : Sat W w (H :: F)) :
  Ro prog 96 #[I w0, I h0, I tw, I th] (.bool (decide (fineP w0 h0 tw th))) W w (H :: F) := by
 refine callsA 39 func96 rfl <| sR <| pu1 <| zS <| pu3 <| sD 11 (w0 >= 1) (fun a0 => ?_) (fun a0 => ?_)
 rotate_left
 ·refine pu16 <| pu12 <| zE <| retT [.bool false] <| ⟨rB ?_, hS⟩
  first | rfl | (rw [Bool.eq_iff_iff]; simp only [decide_eq_true_eq, beq_iff_eq, bne_iff_ne, ne_eq, Bool.not_eq_true', decide_eq_false_iff_not, true_iff, false_iff, iff_true, iff_false, Bool.false_eq_true, Bool.and_eq_true, Bool.or_eq_true, gt_iff_lt, ge_iff_le, fineP] <;> omega) | (rw [Bool.eq_iff_iff]; simp [fineP, *] <;> omega) | (simp_all; done)
 refine pu4 <| sD 15 (w0 <= 128) (fun b0 => ?_) (fun b0 => ?_)
 rotate_left
 ·refine pu16 <| pu8 <| zE <| retT [.bool false] <| ⟨rB ?_, hS⟩
  first | rfl | (rw [Bool.eq_iff_iff]; simp only [decide_eq_true_eq, beq_iff_eq, bne_iff_ne, ne_eq, Bool.not_eq_true', decide_eq_false_iff_not, true_iff, false_iff, iff_true, iff_false, Bool.false_eq_true, Bool.and_eq_true, Bool.or_eq_true, gt_iff_lt, ge_iff_le, fineP] <;> omega) | (rw [Bool.eq_iff_iff]; simp [fineP, *] <;> omega) | (simp_all; done)
 refine pu4 <| sD 19 (h0 >= 1) (fun c0 => ?_) (fun c0 => ?_)
 rotate_left
 ·refine pu16 <| pu4 <| zE <| retT [.bool false] <| ⟨rB ?_, hS⟩
  first | rfl | (rw [Bool.eq_iff_iff]; simp only [decide_eq_true_eq, beq_iff_eq, bne_iff_ne, ne_eq, Bool.not_eq_true', decide_eq_false_iff_not, true_iff, false_iff, iff_true, iff_false, Bool.false_eq_true, Bool.and_eq_true, Bool.or_eq_true, gt_iff_lt, ge_iff_le, fineP] <;> omega) | (rw [Bool.eq_iff_iff]; simp [fineP, *] <;> omega) | (simp_all; done)
 refine pu4 <| sD 23 (h0 <= 128) (fun d0 => ?_) (fun d0 => ?_)
 rotate_left
 ·refine pu16 <| zE <| retT [.bool false] <| ⟨rB ?_, hS⟩
  first | rfl | (rw [Bool.eq_iff_iff]; simp only [decide_eq_true_eq, beq_iff_eq, bne_iff_ne, ne_eq, Bool.not_eq_true', decide_eq_false_iff_not, true_iff, false_iff, iff_true, iff_false, Bool.false_eq_true, Bool.and_eq_true, Bool.or_eq_true, gt_iff_lt, ge_iff_le, fineP] <;> omega) | (rw [Bool.eq_iff_iff]; simp [fineP, *] <;> omega) | (simp_all; done)
 refine pu4 <| sD 27 (tw >= 1) (fun e0 => ?_) (fun e0 => ?_)
 rotate_left
 ·refine pu12 <| zE <| retT [.bool false] <| ⟨rB ?_, hS⟩
  first | rfl | (rw [Bool.eq_iff_iff]; simp only [decide_eq_true_eq, beq_iff_eq, bne_iff_ne, ne_eq, Bool.not_eq_true', decide_eq_false_iff_not, true_iff, false_iff, iff_true, iff_false, Bool.false_eq_true, Bool.and_eq_true, Bool.or_eq_true, gt_iff_lt, ge_iff_le, fineP] <;> omega) | (rw [Bool.eq_iff_iff]; simp [fineP, *] <;> omega) | (simp_all; done)
 refine pu4 <| sD 31 (tw <= 64) (fun f0 => ?_) (fun f0 => ?_)
 rotate_left
 ·refine pu8 <| zE <| retT [.bool false] <| ⟨rB ?_, hS⟩
  first | rfl | (rw [Bool.eq_iff_iff]; simp only [decide_eq_true_eq, beq_iff_eq, bne_iff_ne, ne_eq, Bool.not_eq_true', decide_eq_false_iff_not, true_iff, false_iff, iff_true, iff_false, Bool.false_eq_true, Bool.and_eq_true, Bool.or_eq_true, gt_iff_lt, ge_iff_le, fineP] <;> omega) | (rw [Bool.eq_iff_iff]; simp [fineP, *] <;> omega) | (simp_all; done)
 refine pu4 <| sD 35 (th >= 1) (fun g0 => ?_) (fun g0 => ?_)
 rotate_left
 ·refine pu4 <| zE <| retT [.bool false] <| ⟨rB ?_, hS⟩
  first | rfl | (rw [Bool.eq_iff_iff]; simp only [decide_eq_true_eq, beq_iff_eq, bne_iff_ne, ne_eq, Bool.not_eq_true', decide_eq_false_iff_not, true_iff, false_iff, iff_true, iff_false, Bool.false_eq_true, Bool.and_eq_true, Bool.or_eq_true, gt_iff_lt, ge_iff_le, fineP] <;> omega) | (rw [Bool.eq_iff_iff]; simp [fineP, *] <;> omega) | (simp_all; done)
 refine pu4 <| zE <| retT [.bool (decide ((th : Int) <= 64))] <| ⟨rB ?_, hS⟩
 first | rfl | (rw [Bool.eq_iff_iff]; simp only [decide_eq_true_eq, beq_iff_eq, bne_iff_ne, ne_eq, Bool.not_eq_true', decide_eq_false_iff_not, true_iff, false_iff, iff_true, iff_false, Bool.false_eq_true, Bool.and_eq_true, Bool.or_eq_true, gt_iff_lt, ge_iff_le, fineP] <;> omega) | (rw [Bool.eq_iff_iff]; simp [fineP, *] <;> omega) | (simp_all; done)
theorem r5_count (w0:Int) (h0:Int) (tw:Int) (th:Int) (hS:Sat W w (H::F)):
  Ro prog 53 #[I w0,I h0,I tw,I th] (.tuple #[I (colsN w0 h0 tw th),I (rowsN w0 h0 tw th)]) W w (H::F):=by
 refine callsA 22 func53 rfl<|sR<|pu2<|zQ<|pu4<|cR call96 (r5_fine w0 h0 tw th hS.flat) fun _ a0=>pu1<|nT<|cDn (fineP w0 h0 tw th) (fun b0=>?_) (fun b0=>?_)
 rotate_left
 ·refine sR<|pu2<|zR<|retT [I 0,I 0] ?_
  have hk:=cols_no (w:=w0) (h:=h0) (tw:=tw) (th:=th) (by first|assumption|(unfold fineP;omega))
  exact ⟨by rw [hk.1,hk.2];rfl,a0⟩
 refine kT<|seqE ?_
 have hf1:=b0;unfold fineP at hf1
 refine rE<|pu2<|cR call97 (r1_ceil w0 tw (od) a0.flat) fun _ c0=>pu2<|cR call97 (r1_ceil h0 th (od) c0.flat) fun _ d0=>pu2<|zE<|retT [I (ceilV w0 tw),I (ceilV h0 th)] ?_
 have hf:fineP w0 h0 tw th:=by first|assumption|(unfold fineP;omega)
 have h1:colsN w0 h0 tw th=ceilV w0 tw:=by (unfold colsN;rw [if_pos hf])
 have h2:rowsN w0 h0 tw th=ceilV h0 th:=by (unfold rowsN;rw [if_pos hf])
 exact ⟨by rw [h1,h2];rfl,d0⟩
theorem r2_coord (n:Int) (hS:Sat W w (H::F)):
  Ro prog 119 #[I n] (.bool (decide (-(1048576:Int)<=n/\n<=1048576))) W w (H::F):=by
 refine callsA 9 func119 rfl<|sR<|pu1<|zS<|pu3<|sD 5 (n>=(-1048576)) (fun a0=>?_) (fun a0=>?_)
 rotate_left
 ·exact pu4<|zE<|retT [.bool false]<|⟨rB bq,hS⟩
 exact pu4<|zE<|retT [.bool (decide ((n:Int)<=1048576))]<|⟨rB bq,hS⟩
theorem r2_empty (r:Rct) (hS:Sat W w (H::F)):
  Ro prog 32 #[.agg (encRct r).toArray] (.bool (decide (r.x0=0/\r.y0=0/\r.x1=0/\r.y1=0))) W w (H::F):=by
 refine callsA 6 func32 rfl<|sR<|sBox hS (.agg (encRct r).toArray) (encRct r).toArray fun _ _ a0=>pu1<|zS<|lA a0 0 0 4 (isAgg44 _) (sizeOf44 _)<|pu1<|stepY (.bool (((r.x0:Int)==0)&&((r.y0:Int)==0)&&((r.x1:Int)==0)&&((r.y1:Int)==0))) rfl rfl (Y_eqS rfl kr kr (eqve44 _ r.x0 r.y0 r.x1 r.y1 0 0 0 0))<|pu1<|zE<|retT [.bool (((r.x0:Int)==0)&&((r.y0:Int)==0)&&((r.x1:Int)==0)&&((r.y1:Int)==0))] ?_
 have b0:=(a0.dropAt 0 rfl)
 exact ⟨rB bq,b0⟩
theorem r2_valid (r : Rct) (hS : Sat W w (H :: F)) :
  Ro prog 76 #[.agg (encRct r).toArray] (.bool (decide (rvP r))) W w (H :: F) := by
 refine callsA 40 func76 rfl <| sR <| sBox hS (.agg (encRct r).toArray) (encRct r).toArray fun _ _ b0 => pu1 <| zS <| lA b0 0 0 4 (isAgg44 _) (sizeOf44 _) <| pu1 <| stepY (.bool (((r.x0 : Int) == 0) && ((r.y0 : Int) == 0) && ((r.x1 : Int) == 0) && ((r.y1 : Int) == 0))) rfl rfl (Y_eqS rfl kr kr (eqve44 _ r.x0 r.y0 r.x1 r.y1 0 0 0 0)) <| pu1 ?_
 rcases Classical.em ((r.x0 : Int) = 0 /\ (r.y0 : Int) = 0 /\ (r.x1 : Int) = 0 /\ (r.y1 : Int) = 0) with c0 | c0
 ·refine sFix 6 _ true (show (((r.x0 : Int) == 0) && ((r.y0 : Int) == 0) && ((r.x1 : Int) == 0) && ((r.y1 : Int) == 0)) = true from by simpa [and_assoc] using c0) ?_
  refine pu16 <| pu16 <| pu2 <| zE <| retT [.bool true] ?_
  have g0 := (b0.dropAt 0 rfl)
  refine ⟨rB ?_, g0⟩
  first | rfl | (rw [Bool.eq_iff_iff]; simp only [decide_eq_true_eq, beq_iff_eq, bne_iff_ne, ne_eq, Bool.not_eq_true', decide_eq_false_iff_not, true_iff, false_iff, iff_true, iff_false, Bool.false_eq_true, Bool.and_eq_true, Bool.or_eq_true, gt_iff_lt, ge_iff_le, rvP, cooP] <;> omega) | (rw [Bool.eq_iff_iff]; simp [rvP, cooP, *] <;> omega) | (simp_all; done)
 refine sFix 6 _ false (show (((r.x0 : Int) == 0) && ((r.y0 : Int) == 0) && ((r.x1 : Int) == 0) && ((r.y1 : Int) == 0)) = false from by rw [<- Bool.not_eq_true]; intro h_; exact c0 (by simpa [and_assoc] using h_)) ?_
 refine pu1 <| gY <| sL b0 0 0 (I r.x0) (isAgg3 _) <| gY <| cR call119 (r2_coord r.x0 b0.flat) fun _ d0 => pu1 <| sD 10 (-(1048576 : Int) <= r.x0 /\ r.x0 <= 1048576) (fun h0 => ?_) (fun h0 => ?_)
 rotate_left
 ·refine pu16 <| pu14 <| zE <| retT [.bool false] ?_
  have i0 := (d0.dropAt 0 rfl)
  refine ⟨rB ?_, i0⟩
  first | rfl | (rw [Bool.eq_iff_iff]; simp only [decide_eq_true_eq, beq_iff_eq, bne_iff_ne, ne_eq, Bool.not_eq_true', decide_eq_false_iff_not, true_iff, false_iff, iff_true, iff_false, Bool.false_eq_true, Bool.and_eq_true, Bool.or_eq_true, gt_iff_lt, ge_iff_le, rvP, cooP] <;> omega) | (rw [Bool.eq_iff_iff]; simp [rvP, cooP, *] <;> omega) | (simp_all; done)
 refine pu1 <| gY <| sL d0 0 1 (I r.y0) (isAgg3 _) <| gY <| cR call119 (r2_coord r.y0 d0.flat) fun _ e0 => pu2 <| sD 15 (-(1048576 : Int) <= r.y0 /\ r.y0 <= 1048576) (fun j0 => ?_) (fun j0 => ?_)
 rotate_left
 ·refine pu16 <| pu9 <| zE <| retT [.bool false] ?_
  have k0 := (e0.dropAt 0 rfl)
  refine ⟨rB ?_, k0⟩
  first | rfl | (rw [Bool.eq_iff_iff]; simp only [decide_eq_true_eq, beq_iff_eq, bne_iff_ne, ne_eq, Bool.not_eq_true', decide_eq_false_iff_not, true_iff, false_iff, iff_true, iff_false, Bool.false_eq_true, Bool.and_eq_true, Bool.or_eq_true, gt_iff_lt, ge_iff_le, rvP, cooP] <;> omega) | (rw [Bool.eq_iff_iff]; simp [rvP, cooP, *] <;> omega) | (simp_all; done)
 refine pu1 <| gY <| sL e0 0 2 (I r.x1) (isAgg3 _) <| gY <| cR call119 (r2_coord r.x1 e0.flat) fun _ f0 => pu2 <| sD 20 (-(1048576 : Int) <= r.x1 /\ r.x1 <= 1048576) (fun l0 => ?_) (fun l0 => ?_)
 rotate_left
 ·refine pu16 <| pu4 <| zE <| retT [.bool false] ?_
  have m0 := (f0.dropAt 0 rfl)
  refine ⟨rB ?_, m0⟩
  first | rfl | (rw [Bool.eq_iff_iff]; simp only [decide_eq_true_eq, beq_iff_eq, bne_iff_ne, ne_eq, Bool.not_eq_true', decide_eq_false_iff_not, true_iff, false_iff, iff_true, iff_false, Bool.false_eq_true, Bool.and_eq_true, Bool.or_eq_true, gt_iff_lt, ge_iff_le, rvP, cooP] <;> omega) | (rw [Bool.eq_iff_iff]; simp [rvP, cooP, *] <;> omega) | (simp_all; done)
 refine pu1 <| gY <| sL f0 0 3 (I r.y1) (isAgg3 _) <| gY <| cR call119 (r2_coord r.y1 f0.flat) fun _ a0 => pu2 <| sD 25 (-(1048576 : Int) <= r.y1 /\ r.y1 <= 1048576) (fun n0 => ?_) (fun n0 => ?_)
 rotate_left
 ·refine pu15 <| zE <| retT [.bool false] ?_
  have o0 := (a0.dropAt 0 rfl)
  refine ⟨rB ?_, o0⟩
  first | rfl | (rw [Bool.eq_iff_iff]; simp only [decide_eq_true_eq, beq_iff_eq, bne_iff_ne, ne_eq, Bool.not_eq_true', decide_eq_false_iff_not, true_iff, false_iff, iff_true, iff_false, Bool.false_eq_true, Bool.and_eq_true, Bool.or_eq_true, gt_iff_lt, ge_iff_le, rvP, cooP] <;> omega) | (rw [Bool.eq_iff_iff]; simp [rvP, cooP, *] <;> omega) | (simp_all; done)
 refine pu1 <| gY <| sL a0 0 0 (I r.x0) (isAgg3 _) <| pu1 <| gY <| sL a0 0 2 (I r.x1) (isAgg3 _) <| pu3 <| sD 32 (r.x0 < r.x1) (fun p0 => ?_) (fun p0 => ?_)
 rotate_left
 ·refine pu8 <| zE <| retT [.bool false] ?_
  have q0 := (a0.dropAt 0 rfl)
  refine ⟨rB ?_, q0⟩
  first | rfl | (rw [Bool.eq_iff_iff]; simp only [decide_eq_true_eq, beq_iff_eq, bne_iff_ne, ne_eq, Bool.not_eq_true', decide_eq_false_iff_not, true_iff, false_iff, iff_true, iff_false, Bool.false_eq_true, Bool.and_eq_true, Bool.or_eq_true, gt_iff_lt, ge_iff_le, rvP, cooP] <;> omega) | (rw [Bool.eq_iff_iff]; simp [rvP, cooP, *] <;> omega) | (simp_all; done)
 refine pu1 <| gY <| sL a0 0 1 (I r.y0) (isAgg3 _) <| pu1 <| gY <| sL a0 0 3 (I r.y1) (isAgg3 _) <| pu4 <| zE <| retT [.bool (decide (r.y0 < r.y1))] ?_
 have r0 := (a0.dropAt 0 rfl)
 refine ⟨rB ?_, r0⟩
 first | rfl | (rw [Bool.eq_iff_iff]; simp only [decide_eq_true_eq, beq_iff_eq, bne_iff_ne, ne_eq, Bool.not_eq_true', decide_eq_false_iff_not, true_iff, false_iff, iff_true, iff_false, Bool.false_eq_true, Bool.and_eq_true, Bool.or_eq_true, gt_iff_lt, ge_iff_le, rvP, cooP] <;> omega) | (rw [Bool.eq_iff_iff]; simp [rvP, cooP, *] <;> omega) | (simp_all; done)
theorem r2_full (r:Rct) (hS:Sat W w (H::F)):
  Ro prog 72 #[.agg (encRct r).toArray] (.bool (decide (rvP r/\¬(r.x0=0/\r.y0=0/\r.x1=0/\r.y1=0)))) W w (H::F):=by
 refine callsA 10 func72 rfl<|sR<|sBox hS (.agg (encRct r).toArray) (encRct r).toArray fun _ _ b0=>pu1<|zS<|lA b0 0 0 4 (isAgg44 _) (sizeOf44 _)<|cR call76 (r2_valid r b0.flat) fun _ a0=>pu1<|sD 5 (rvP r) (fun c0=>?_) (fun c0=>?_)
 rotate_left
 ·exact pu5<|zE<|retT [.bool false]<|⟨rB bs,(a0.dropAt 0 rfl)⟩
 exact gY<|lA a0 0 0 4 (isAgg44 _) (sizeOf44 _)<|gY<|cR call32 (r2_empty r a0.flat) fun _ e0=>pu3<|zE<|retT [.bool (!decide (r.x0=0/\r.y0=0/\r.x1=0/\r.y1=0))]<|⟨rB bs,(e0.dropAt 0 rfl)⟩
theorem r5_tile (w0:Int) (h0:Int) (tw:Int) (th:Int) (i:Int) (hf:fineP w0 h0 tw th) (hi:0<=i/\i<(colsN w0 h0 tw th)*(rowsN w0 h0 tw th)) (hS:Sat W w (H::F)):
  Ro prog 54 #[I w0,I h0,I tw,I th,I i] (.tuple #[.agg #[I ((tileV w0 h0 tw th i).x0),I ((tileV w0 h0 tw th i).y0),I ((tileV w0 h0 tw th i).x1),I ((tileV w0 h0 tw th i).y1)], .bool true]) W w (H::F):=by
 have hb:=cols_bd hf;have hq:=tile_ix hb.1.1 hi.1 hi.2;have hp:=mul_bd (a:=(colsN w0 h0 tw th)) (b:=(rowsN w0 h0 tw th)) (A:=128) (B:=128) om om;have e1:(i.tmod (colsN w0 h0 tw th))=i%(colsN w0 h0 tw th):=Int.tmod_eq_emod_of_nonneg hi.1;have e2:(i.tdiv (colsN w0 h0 tw th))=i/(colsN w0 h0 tw th):=Int.tdiv_eq_ediv_of_nonneg hi.1;have hf0:=hf;unfold fineP at hf0;have hm1:=mul_bd (a:=i.tmod (colsN w0 h0 tw th)) (b:=tw) (A:=128) (B:=64) om om;have hm2:=mul_bd (a:=i.tdiv (colsN w0 h0 tw th)) (b:=th) (A:=128) (B:=64) om om
 refine callsA 57 func54 rfl<|sR<|sAlloc hS zeroValue44 fun _ _ e0=>pu1<|zS<|pu4<|cR call53 (r5_count w0 h0 tw th e0.flat) fun _ a0=>pu5<|zQ<|pu3<|sD 26 (i<0) (fun f0=>?_) (fun f0=>?_)
 ·refine pu6<|zC<|pu1<|sT a0 0 0 (.agg #[I 0,I 0,I 0,I 0]) [I 0,I 0,I 0,I 0] #[I 0,I 0,I 0,I 0] sizeOf44 fun _ b0=>pu1<|zR<|retN (vs:=[.agg #[I 0,I 0,I 0,I 0], .bool false]) rfl (.cons (.cell _ _ _ _ kr (lvA b0 0 0 [I 0,I 0,I 0,I 0] (isAgg44 _) (sizeOf44 _) rfl rfl rfl)) (.cons (.tmp _ _ kr) .nil)) ?_
  have o0:=(b0.dropAt 0 rfl)
  first|omega|(exfalso;omega)
 refine pu3<|gY<|sMul (colsN w0 h0 tw th) (rowsN w0 h0 tw th)<|pu2<|nT<|cD (i>=((colsN w0 h0 tw th)*(rowsN w0 h0 tw th))) (fun g0=>?_) (fun g0=>?_)
 ·refine sR<|pu1<|sT a0 0 0 (.agg #[I 0,I 0,I 0,I 0]) [I 0,I 0,I 0,I 0] #[I 0,I 0,I 0,I 0] sizeOf44 fun _ c0=>pu1<|zR<|retN (vs:=[.agg #[I 0,I 0,I 0,I 0], .bool false]) rfl (.cons (.cell _ _ _ _ kr (lvA c0 0 0 [I 0,I 0,I 0,I 0] (isAgg44 _) (sizeOf44 _) rfl rfl rfl)) (.cons (.tmp _ _ kr) .nil)) ?_
  have q0:=(c0.dropAt 0 rfl)
  first|omega|(exfalso;omega)
 refine kT<|seqE<|drawE [] [] [(true,[0,1]),(true,[2]),(true,[3]),(true,[4]),(true,[5,6]),(true,[7]),(true,[8]),(true,[9]),(true,[10,11])] rfl kr trivial ?_
 have i0:=a0.drew
 refine wU [0,1]<|wRem i (colsN w0 h0 tw th)<|wU [3]<|wMul (i.tmod (colsN w0 h0 tw th)) tw<|wU [5,6]<|wQuo i (colsN w0 h0 tw th)<|wU [8]<|wMul (i.tdiv (colsN w0 h0 tw th)) th<|wU [10,11]<|wN<|tN<|sR<|pu4<|sAdd ((i.tmod (colsN w0 h0 tw th))*tw) tw<|pu1<|stepY (I (min (((i.tmod (colsN w0 h0 tw th))*tw)+tw) w0)) rfl rfl (Y_min2 (((i.tmod (colsN w0 h0 tw th))*tw)+tw) w0 rfl rfl kr kr)<|pu2<|sAdd ((i.tdiv (colsN w0 h0 tw th))*th) th<|pu1<|stepY (I (min (((i.tdiv (colsN w0 h0 tw th))*th)+th) h0)) rfl rfl (Y_min2 (((i.tdiv (colsN w0 h0 tw th))*th)+th) h0 rfl rfl kr kr)<|pu1 ?_
 refine sT i0 0 0 (.agg #[I ((i.tmod (colsN w0 h0 tw th))*tw),I ((i.tdiv (colsN w0 h0 tw th))*th),I (min (((i.tmod (colsN w0 h0 tw th))*tw)+tw) w0),I (min (((i.tdiv (colsN w0 h0 tw th))*th)+th) h0)]) [I ((i.tmod (colsN w0 h0 tw th))*tw),I ((i.tdiv (colsN w0 h0 tw th))*th),I (min (((i.tmod (colsN w0 h0 tw th))*tw)+tw) w0),I (min (((i.tdiv (colsN w0 h0 tw th))*th)+th) h0)] #[I ((i.tmod (colsN w0 h0 tw th))*tw),I ((i.tdiv (colsN w0 h0 tw th))*th),I (min (((i.tmod (colsN w0 h0 tw th))*tw)+tw) w0),I (min (((i.tdiv (colsN w0 h0 tw th))*th)+th) h0)] sizeOf44 fun _ d0=>?_
 exact pu1<|zE<|retN (vs:=[.agg #[I ((i.tmod (colsN w0 h0 tw th))*tw),I ((i.tdiv (colsN w0 h0 tw th))*th),I (min (((i.tmod (colsN w0 h0 tw th))*tw)+tw) w0),I (min (((i.tdiv (colsN w0 h0 tw th))*th)+th) h0)], .bool true]) rfl (.cons (.cell _ _ _ _ kr (lvA d0 0 0 [I ((i.tmod (colsN w0 h0 tw th))*tw),I ((i.tdiv (colsN w0 h0 tw th))*th),I (min (((i.tmod (colsN w0 h0 tw th))*tw)+tw) w0),I (min (((i.tdiv (colsN w0 h0 tw th))*th)+th) h0)] (isAgg44 _) (sizeOf44 _) rfl rfl rfl)) (.cons (.tmp _ _ kr) .nil))<|⟨by unfold tileV;rw [<-e1,<-e2];rfl,(d0.dropAt 0 rfl)⟩
theorem r3_mod (i:Int) (n:Int) (hn:1<=n/\n<=4611686018427387904) (hS:Sat W w (H::F)):
  Ro prog 186 #[I i,I n] (I (i%n)) W w (H::F):=by
 have hm1:=Int.tmod_lt_of_pos i (by omega:0<n);have hm2:=Int.lt_tmod_of_pos i (by omega:0<n)
 refine callsA 15 func186 rfl<|sR<|pu1<|zS<|pu2<|sRem i n<|pu1<|zQ<|pu2<|nT<|cD ((i.tmod n)<0) (fun a0=>?_) (fun a0=>?_)
 rotate_left
 ·refine kS<|pu2<|zE<|retT [I (i.tmod n)] ?_
  have hk:=mod_emod (i:=i) (n:=n) om
  rw [if_neg om] at hk
  exact ⟨by rw [<-hk];rfl,hS⟩
 refine rE<|pu2<|sAdd (i.tmod n) n<|pu1<|zS<|pu2<|zE<|retT [I ((i.tmod n)+n)] ?_
 have hk:=mod_emod (i:=i) (n:=n) om
 rw [if_pos om] at hk
 exact ⟨by rw [<-hk];rfl,hS⟩
theorem r3_index (i:Int) (n:Int) (p:Int) (hS:Sat W w (H::F)):
  Ro prog 156 #[I i,I n,I p] (.tuple #[I ((idxV i n p).getD 0), .bool ((idxV i n p).isSome)]) W w (H::F):=by
 refine callsA 56 func156 rfl<|sR<|pu2<|zQ<|pu3<|sD 11 (n<1) (fun b0=>?_) (fun b0=>?_)
 ·refine pu3<|zC<|pu2<|zR<|retT [I 0, .bool false] ?_
  have hk:idxV i n p=none:=by unfold idxV;(repeat' split)<;>first|rfl|(exfalso;omega)
  exact ⟨by rw [hk];rfl,hS⟩
 refine pu3<|nT<|cD (n>128) (fun c0=>?_) (fun c0=>?_)
 ·refine sR<|pu2<|zR<|retT [I 0, .bool false] ?_
  have hk:idxV i n p=none:=by unfold idxV;(repeat' split)<;>first|rfl|(exfalso;omega)
  exact ⟨by rw [hk];rfl,hS⟩
 refine kT<|seqE<|sR<|pu1<|nT<|blockE<|sR<|pu2<|nT<|cE p 0 (fun d0=>?_) (fun d0=>?_)
 ·refine sR<|pu1<|stepY (I (max i 0)) rfl rfl (Y_max2 i 0 rfl rfl kr kr)<|pu1<|sSub n 1<|stepY (I (min (max i 0) (n-1))) rfl rfl (Y_min2 (max i 0) (n-1) rfl rfl kr kr)<|pu2<|zB<|retT [I (min (max i 0) (n-1)), .bool true] ?_
  have hk:idxV i n p=some (min (max i 0) (n-1)):=by unfold idxV;(repeat' split)<;>first|rfl|(exfalso;omega)|(congr 1;omega)
  exact ⟨by rw [hk];rfl,hS⟩
 refine sR<|pu2<|nT<|cE p 1 (fun e0=>?_) (fun e0=>?_)
 ·refine seqE<|sR<|pu2<|sMul 2 n<|cR call186 (r3_mod i (2*n) (od) hS.flat) fun _ a0=>?_
  have hme:=Int.emod_nonneg i (by omega:((2*n):Int)≠0);have hmf:=Int.emod_lt_of_pos i (by omega:(0:Int)<(2*n))
  refine pu1<|zS<|pu3<|nT<|cD ((i%(2*n))>=n) (fun f0=>?_) (fun f0=>?_)
  ·refine sR<|pu1<|sMul 2 n<|sSub (2*n) 1<|pu1<|sSub ((2*n)-1) (i%(2*n))<|pu2<|zE<|tR<|tK<|retT [I (((2*n)-1)-(i%(2*n))), .bool true] ?_
   have hk:idxV i n p=some (((2*n)-1)-(i%(2*n))):=by unfold idxV;(repeat' split)<;>first|rfl|(exfalso;omega)|(congr 1;omega)
   exact ⟨by rw [hk];rfl,a0⟩
  refine kS<|pu2<|sMul 2 n<|cR call186 (r3_mod i (2*n) (od) a0.flat) fun _ g0=>?_
  have hme:=Int.emod_nonneg i (by omega:((2*n):Int)≠0);have hmf:=Int.emod_lt_of_pos i (by omega:(0:Int)<(2*n))
  refine pu2<|zB<|retT [I (i%(2*n)), .bool true] ?_
  have hk:idxV i n p=some (i%(2*n)):=by unfold idxV;(repeat' split)<;>first|rfl|(exfalso;omega)|(congr 1;omega)
  exact ⟨by rw [hk];rfl,g0⟩
 refine sR<|pu2<|nT<|cE p 2 (fun h0=>?_) (fun h0=>?_)
 ·refine sR<|pu2<|cR call186 (r3_mod i n (od) hS.flat) fun _ i0=>?_
  have hme:=Int.emod_nonneg i (by omega:(n:Int)≠0);have hmf:=Int.emod_lt_of_pos i (by omega:(0:Int)<n)
  refine pu2<|zB<|retT [I (i%n), .bool true] ?_
  have hk:idxV i n p=some (i%n):=by unfold idxV;(repeat' split)<;>first|rfl|(exfalso;omega)|(congr 1;omega)
  exact ⟨by rw [hk];rfl,i0⟩
 refine sR<|pu2<|nT<|cE p 3 (fun j0=>?_) (fun j0=>?_)
 rotate_left
 ·refine skipE<|bN<|tN<|sR<|pu2<|zE<|retT [I 0, .bool false] ?_
  have hk:idxV i n p=none:=by unfold idxV;(repeat' split)<;>first|rfl|(exfalso;omega)
  exact ⟨by rw [hk];rfl,hS⟩
 refine sR<|pu3<|sD 50 (i>=0) (fun k0=>?_) (fun k0=>?_)
 rotate_left
 ·refine pu4<|nT<|cFf<|skipE<|bN<|tN<|sR<|pu2<|zE<|retT [I 0, .bool false] ?_
  have hk:idxV i n p=none:=by unfold idxV;(repeat' split)<;>first|rfl|(exfalso;omega)
  exact ⟨by rw [hk];rfl,hS⟩
 refine pu4<|nT<|cD (i<n) (fun l0=>?_) (fun l0=>?_)
 rotate_left
 ·refine skipE<|bN<|tN<|sR<|pu2<|zE<|retT [I 0, .bool false] ?_
  have hk:idxV i n p=none:=by unfold idxV;(repeat' split)<;>first|rfl|(exfalso;omega)
  exact ⟨by rw [hk];rfl,hS⟩
 refine sR<|pu3<|zB<|retT [I i, .bool true] ?_
 have hk:idxV i n p=some i:=by unfold idxV;(repeat' split)<;>first|rfl|(exfalso;omega)|(congr 1;omega)
 exact ⟨by rw [hk];rfl,hS⟩
theorem r16_taps (ax:Option Addr) (nx kx:Nat) (x:List Tap) (hx:RdT encTap 2 [H] ax nx kx x) (dx:∀z∈x,Tap.Ok [H] z) (hS:Sat W w (H::F)):
  Ro prog 185 #[.slice ax nx kx] (.bool ((x.map Tap.v).all tapP)) W w (H::F):=by
 have hl_x:=hx.le;have hn_x:=hx.len
 refine callsA 33 func185 rfl<|sR<|pu1<|zQ<|pu1<|nT<|blockE<|loopA (γ:=Nat) (fun i=>[(0, .slice ax nx kx),(3,I (i:Int))]) (fun i w=>Sat W w (H::F)/\i<=nx/\(((x.map Tap.v).take i).all tapP=true)) (fun i=>nx-i) 0 ⟨hS,om,by rfl⟩ ?_
 rintro i ρ _ ⟨c0,hi,hE⟩
 refine seqE<|sR<|pu4<|nT<|cD ((i:Int)<(nx:Int)) (fun f0=>?_) (fun f0=>?_)
 rotate_left
 ·exact exitE<|xB<|tN<|sR<|pu1<|zE<|retT [.bool true]<|⟨by rw [all_of_take hE (by rw [List.length_map];omega)];rfl,c0⟩
 refine kT<|seqE<|blockE<|sR<|pu2<|sIdx hx (i:Int) runUnderlying35 sizeOf123 fun a0 _ _ b0 g0=>?_
 rw [Int.toNat_natCast] at b0
 have hnw_x_4:=(dx a0 (List.mem_of_getElem? b0)).weights.len;have hlw_x_4:=(dx a0 (List.mem_of_getElem? b0)).weights.le
 refine pu1<|sLp c0 (g0.up 0 rfl) 1 (.slice a0.weights.a a0.weights.n a0.weights.k) (isAgg22 _)<|pu3<|sD 17 ((a0.weights.n:Int)>8) (fun h0=>?_) (fun h0=>?_)
 ·exact pu15<|zC<|pu1<|zB<|tR<|tK<|retT [.bool false]<|⟨by rw [all_false_at (map_at (f:=Tap.v) b0) (decide_eq_false (by simp only [Tap.v];omega))];rfl,c0⟩
 refine pu2<|gY<|sIdx hx (i:Int) runUnderlying35 sizeOf123 fun i0 _ _ d0 j0=>?_
 rw [Int.toNat_natCast] at d0
 obtain rfl:a0=i0:=Option.some.inj (b0.symm.trans d0)
 have hnw_x_4:=(dx a0 (List.mem_of_getElem? d0)).weights.len;have hlw_x_4:=(dx a0 (List.mem_of_getElem? d0)).weights.le
 refine pu1<|gY<|sLp c0 (j0.up 0 rfl) 0 (I a0.first) (isAgg3 _)<|pu3<|sD 25 (a0.first<(-128)) (fun k0=>?_) (fun k0=>?_)
 ·exact pu7<|zC<|pu1<|zB<|tR<|tK<|retT [.bool false]<|⟨by rw [all_false_at (map_at (f:=Tap.v) b0) (decide_eq_false (by simp only [Tap.v];omega))];rfl,c0⟩
 refine pu2<|gY<|sIdx hx (i:Int) runUnderlying35 sizeOf123 fun l0 _ _ e0 m0=>?_
 rw [Int.toNat_natCast] at e0
 obtain rfl:a0=l0:=Option.some.inj (b0.symm.trans e0)
 have hnw_x_4:=(dx a0 (List.mem_of_getElem? e0)).weights.len;have hlw_x_4:=(dx a0 (List.mem_of_getElem? e0)).weights.le
 refine pu1<|gY<|sLp c0 (m0.up 0 rfl) 0 (I a0.first) (isAgg3 _)<|pu2<|nT<|cD (a0.first>256) (fun n0=>?_) (fun n0=>?_)
 ·exact sR<|pu1<|zB<|tR<|tK<|retT [.bool false]<|⟨by rw [all_false_at (map_at (f:=Tap.v) b0) (decide_eq_false (by simp only [Tap.v];omega))];rfl,c0⟩
 exact skipE<|bN<|tN<|rE<|pu1<|sAdd (i:Int) 1<|pu1<|nT<|⟨i+1,od,alA,c0,om,all_succ hE (map_at (f:=Tap.v) b0) (decide_eq_true (by simp only [Tap.v];omega))⟩
theorem r16_fine (q:Stage) (n:Int) (fr:Int) (up:Int) (hq:Stage.Ok [H] q) (hS:Sat W w (H::F)):
  Ro prog 154 #[.agg (encStage q).toArray,I n,I fr,I up] (.bool (decide (lenP n fr up/\accV q.v))) W w (H::F):=by
 have hl_q_weights:=hq.weights.le;have hn_q_weights:=hq.weights.len
 have hl_q_row:=hq.row.le;have hn_q_row:=hq.row.len
 have hl_q_col:=hq.col.le;have hn_q_col:=hq.col.len
 have hl_q_x:=hq.x.le;have hn_q_x:=hq.x.len
 have hl_q_y:=hq.y.le;have hn_q_y:=hq.y.len
 have hl_q_ops:=hq.ops.le;have hn_q_ops:=hq.ops.len
 have hnr:=hn_q_row;have hnc:=hn_q_col;have hnX:=hn_q_x;have hnY:=hn_q_y
 refine callsA 70 func154 rfl<|sR<|sBox hS (.agg (encStage q).toArray) (encStage q).toArray fun _ _ c0=>pu1<|zQ<|pu3<|sD 11 (n<1) (fun k0=>?_) (fun k0=>?_)
 ·refine pu16<|pu8<|zC<|pu1<|zR<|retT [.bool false] ?_
  have l0:=(c0.dropAt 0 rfl)
  have hk:decide (lenP n fr up/\accV q.v)=false:=decide_eq_false (fun h=>by have h1:=h.1;unfold lenP at h1;omega)
  exact ⟨by rw [hk];rfl,l0⟩
 refine pu4<|sD 15 (n>128) (fun m0=>?_) (fun m0=>?_)
 ·refine pu16<|pu4<|zC<|pu1<|zR<|retT [.bool false] ?_
  have n0:=(c0.dropAt 0 rfl)
  have hk:decide (lenP n fr up/\accV q.v)=false:=decide_eq_false (fun h=>by have h1:=h.1;unfold lenP at h1;omega)
  exact ⟨by rw [hk];rfl,n0⟩
 refine pu4<|sD 19 (fr<0) (fun o0=>?_) (fun o0=>?_)
 ·refine pu16<|zC<|pu1<|zR<|retT [.bool false] ?_
  have p0:=(c0.dropAt 0 rfl)
  have hk:decide (lenP n fr up/\accV q.v)=false:=decide_eq_false (fun h=>by have h1:=h.1;unfold lenP at h1;omega)
  exact ⟨by rw [hk];rfl,p0⟩
 refine pu4<|sD 23 (fr>128) (fun q0=>?_) (fun q0=>?_)
 ·refine pu12<|zC<|pu1<|zR<|retT [.bool false] ?_
  have r0:=(c0.dropAt 0 rfl)
  have hk:decide (lenP n fr up/\accV q.v)=false:=decide_eq_false (fun h=>by have h1:=h.1;unfold lenP at h1;omega)
  exact ⟨by rw [hk];rfl,r0⟩
 refine pu4<|sD 27 (up<0) (fun s0=>?_) (fun s0=>?_)
 ·refine pu8<|zC<|pu1<|zR<|retT [.bool false] ?_
  have t0:=(c0.dropAt 0 rfl)
  have hk:decide (lenP n fr up/\accV q.v)=false:=decide_eq_false (fun h=>by have h1:=h.1;unfold lenP at h1;omega)
  exact ⟨by rw [hk];rfl,t0⟩
 refine pu4<|sD 31 (up>128) (fun u0=>?_) (fun u0=>?_)
 ·refine pu4<|zC<|pu1<|zR<|retT [.bool false] ?_
  have v0:=(c0.dropAt 0 rfl)
  have hk:decide (lenP n fr up/\accV q.v)=false:=decide_eq_false (fun h=>by have h1:=h.1;unfold lenP at h1;omega)
  exact ⟨by rw [hk];rfl,v0⟩
 refine gY<|lA c0 0 0 18 (isAgg38 _) (sizeOf38 _)<|gY<|cR call112 (r15_fields q ⟨(RdT.flat (hq.weights.up 1 (by rfl))),(RdT.flat (hq.row.up 1 (by rfl))),(RdT.flat (hq.col.up 1 (by rfl))),(RdT.flat (hq.x.up 1 (by rfl))),(fun z hz=>(hq.xD z hz).of_mem (mem_flat1 1 (by rfl))),(RdT.flat (hq.y.up 1 (by rfl))),(fun z hz=>(hq.yD z hz).of_mem (mem_flat1 1 (by rfl))),(RdT.flat (hq.ops.up 1 (by rfl)))⟩ c0.flat) fun _ a0=>pu2<|nT<|cDn (fieldsP q.v) (fun b0=>?_) (fun b0=>?_)
 rotate_left
 ·refine sR<|pu1<|zR<|retT [.bool false] ?_
  have w0:=(a0.dropAt 0 rfl)
  have hk:decide (lenP n fr up/\accV q.v)=false:=decide_eq_false (fun h=>b0 h.2.1)
  exact ⟨by rw [hk];rfl,w0⟩
 refine kT<|seqE<|sR<|pu1<|sL a0 0 0 (I q.kind) (isAgg3 _)<|nT<|blockE<|sR<|pu2<|nT<|cE q.kind 1 (fun d0=>?_) (fun d0=>?_)
 ·refine sR<|pu1<|sL a0 0 6 (I q.kW) (isAgg3 _)<|cR call176 (r9_side q.kW a0.flat) fun _ e0=>pu1<|sD 43 ((1:Int)<=q.kW/\q.kW<=(9:Int)) (fun x0=>?_) (fun x0=>?_)
  rotate_left
  ·refine pu5<|zB<|retT [.bool false] ?_
   have y0:=(e0.dropAt 0 rfl)
   have hl9:lenP n fr up:=by unfold lenP;omega
   have hif:=acc1 (s:=q.v) b0 (show q.v.kind=1 from d0)
   have hk:decide (lenP n fr up/\accV q.v)=false:=decide_eq_false (fun h=>by have h1:=hif.1 h.2;unfold kerP at h1;simp only [Stage.v,hnr,hnc] at h1;omega)
   exact ⟨by rw [hk];rfl,y0⟩
  refine pu1<|gY<|sL e0 0 7 (I q.kH) (isAgg3 _)<|gY<|cR call176 (r9_side q.kH e0.flat) fun _ z0=>pu2<|zB<|retT [.bool (decide ((1:Int)<=q.kH/\q.kH<=(9:Int)))] ?_
  have a1:=(z0.dropAt 0 rfl)
  have hl9:lenP n fr up:=by unfold lenP;omega
  have hif:=acc1 (s:=q.v) b0 (show q.v.kind=1 from d0)
  have hk:decide (lenP n fr up/\accV q.v)=decide ((1:Int)<=q.kH/\q.kH<=(9:Int)):=by rw [Bool.eq_iff_iff,decide_eq_true_eq,and_iff_right hl9,hif];unfold kerP;simp only [Stage.v,hnr,hnc,decide_eq_true_eq,Bool.false_eq_true];omega
  exact ⟨by rw [hk];rfl,a1⟩
 refine sR<|pu2<|nT<|cE q.kind 2 (fun f0=>?_) (fun f0=>?_)
 ·refine sR<|pu1<|sL a0 0 9 (.slice q.row.a q.row.n q.row.k) (isAgg22 _)<|pu1<|cR call176 (r9_side (q.row.n:Int) a0.flat) fun _ g0=>pu1<|sD 54 ((1:Int)<=(q.row.n:Int)/\(q.row.n:Int)<=(9:Int)) (fun b1=>?_) (fun b1=>?_)
  rotate_left
  ·refine pu6<|zB<|retT [.bool false] ?_
   have c1:=(g0.dropAt 0 rfl)
   have hl9:lenP n fr up:=by unfold lenP;omega
   have hif:=acc2 (s:=q.v) b0 (show q.v.kind=2 from f0)
   have hk:decide (lenP n fr up/\accV q.v)=false:=decide_eq_false (fun h=>by have h1:=hif.1 h.2;unfold kerP at h1;simp only [Stage.v,hnr,hnc] at h1;omega)
   exact ⟨by rw [hk];rfl,c1⟩
  refine pu1<|gY<|sL g0 0 10 (.slice q.col.a q.col.n q.col.k) (isAgg22 _)<|pu1<|gY<|cR call176 (r9_side (q.col.n:Int) g0.flat) fun _ d1=>pu2<|zB<|retT [.bool (decide ((1:Int)<=(q.col.n:Int)/\(q.col.n:Int)<=(9:Int)))] ?_
  have e1:=(d1.dropAt 0 rfl)
  have hl9:lenP n fr up:=by unfold lenP;omega
  have hif:=acc2 (s:=q.v) b0 (show q.v.kind=2 from f0)
  have hk:decide (lenP n fr up/\accV q.v)=decide ((1:Int)<=(q.col.n:Int)/\(q.col.n:Int)<=(9:Int)):=by rw [Bool.eq_iff_iff,decide_eq_true_eq,and_iff_right hl9,hif];unfold kerP;simp only [Stage.v,hnr,hnc,decide_eq_true_eq,Bool.false_eq_true];omega
  exact ⟨by rw [hk];rfl,e1⟩
 refine sR<|pu2<|nT<|cE q.kind 3 (fun h0=>?_) (fun h0=>?_)
 rotate_left
 ·refine skipE<|bN<|tN<|sR<|pu1<|zE<|retT [.bool true] ?_
  have f1:=(a0.dropAt 0 rfl)
  have hl9:lenP n fr up:=by unfold lenP;omega
  have hif:=acc0 (s:=q.v) b0 (show ¬q.v.kind=1 by simp only [Stage.v];omega) (show ¬q.v.kind=2 by simp only [Stage.v];omega) (show ¬q.v.kind=3 by simp only [Stage.v];omega)
  have hk:decide (lenP n fr up/\accV q.v)=true:=decide_eq_true ⟨hl9,hif⟩
  exact ⟨by rw [hk];rfl,f1⟩
 refine sR<|pu1<|sL a0 0 13 (.slice q.x.a q.x.n q.x.k) (isAgg35 _)<|cR call185 (r16_taps q.x.a q.x.n q.x.k q.x.l (RdT.flat (hq.x.up 1 (by rfl))) (fun z hz=>(hq.xD z hz).of_mem (mem_flat1 1 (by rfl))) a0.flat) fun _ i0=>pu1<|sB 65 ((q.x.l.map Tap.v).all tapP) (fun j0=>?_) (fun j0=>?_)
 rotate_left
 ·refine pu5<|zB<|retT [.bool false] ?_
  have g1:=(i0.dropAt 0 rfl)
  have hl9:lenP n fr up:=by unfold lenP;omega
  have hif:=acc3 (s:=q.v) b0 (show q.v.kind=3 from h0)
  have hk:decide (lenP n fr up/\accV q.v)=false:=decide_eq_false (fun h=>by have h1:=hif.1 h.2;first|exact j0 h1.1|exact j0 h1.2)
  exact ⟨by rw [hk];rfl,g1⟩
 refine pu1<|gY<|sL i0 0 14 (.slice q.y.a q.y.n q.y.k) (isAgg35 _)<|gY<|cR call185 (r16_taps q.y.a q.y.n q.y.k q.y.l (RdT.flat (hq.y.up 1 (by rfl))) (fun z hz=>(hq.yD z hz).of_mem (mem_flat1 1 (by rfl))) i0.flat) fun _ i1=>pu2<|zB<|retT [.bool ((q.y.l.map Tap.v).all tapP)] ?_
 have j1:=(i1.dropAt 0 rfl)
 have hl9:lenP n fr up:=by unfold lenP;omega
 have hif:=acc3 (s:=q.v) b0 (show q.v.kind=3 from h0)
 have hk:decide (lenP n fr up/\accV q.v)=((q.y.l.map Tap.v).all tapP):=by rw [Bool.eq_iff_iff,decide_eq_true_eq,and_iff_right hl9,hif];simp only [Stage.v];simp_all
 exact ⟨by rw [hk];rfl,j1⟩
theorem r16_win (kd:Int) (i:Int) (sz:Int) (atb:Option Addr) (ntb ktb:Nat) (tb:List Tap) (htb:RdT encTap 2 [H] atb ntb ktb tb) (dtb:∀z∈tb,Tap.Ok [H] z) (hs:(¬(kd=1\/kd=2)\/(1<=sz/\sz<=9))/\0<=i/\i<=1000) (hS:Sat W w (H::F)):
  Ro prog 155 #[I kd,I i,I sz, .slice atb ntb ktb] (.tuple #[I (winF kd i sz (tb.map Tap.v)),I (winC kd i sz (tb.map Tap.v))]) W w (H::F):=by
 have hl_tb:=htb.le;have hn_tb:=htb.len
 refine callsA 37 func155 rfl<|sR<|pu2<|zQ<|pu1<|nT<|blockE<|seqE<|sR<|pu2<|nT<|cE kd 1 (fun e0=>?_) (fun e0=>?_)
 ·refine kT<|cT _ (beq_iff_eq.2 e0)<|seqE ?_
  have ht:sz.tdiv 2=sz/2:=Int.tdiv_eq_ediv_of_nonneg om
  refine rE<|pu2<|sQuo sz 2<|sSub i (sz.tdiv 2)<|pu3<|zB<|retT [I (i-(sz.tdiv 2)),I sz] ?_
  have h1:winF kd i sz (tb.map Tap.v)=(i-(sz.tdiv 2)):=by unfold winF;rw [if_pos om,ht]
  have h2:winC kd i sz (tb.map Tap.v)=sz:=by unfold winC;rw [if_pos om]
  exact ⟨by rw [h1,h2];rfl,hS⟩
 refine rE<|pu2<|nT<|cE kd 2 (fun h0=>?_) (fun h0=>?_)
 ·refine seqE ?_
  have ht:sz.tdiv 2=sz/2:=Int.tdiv_eq_ediv_of_nonneg om
  refine rE<|pu2<|sQuo sz 2<|sSub i (sz.tdiv 2)<|pu3<|zB<|retT [I (i-(sz.tdiv 2)),I sz] ?_
  have h1:winF kd i sz (tb.map Tap.v)=(i-(sz.tdiv 2)):=by unfold winF;rw [if_pos om,ht]
  have h2:winC kd i sz (tb.map Tap.v)=sz:=by unfold winC;rw [if_pos om]
  exact ⟨by rw [h1,h2];rfl,hS⟩
 refine sR<|pu2<|nT<|cE kd 3 (fun i0=>?_) (fun i0=>?_)
 rotate_left
 ·refine skipE<|bN<|tN<|sR<|pu3<|zE<|retT [I i,I 1] ?_
  have h1:winF kd i sz (tb.map Tap.v)=i:=by unfold winF;rw [if_neg om,if_neg om]
  have h2:winC kd i sz (tb.map Tap.v)=1:=by unfold winC;rw [if_neg om,if_neg om]
  exact ⟨by rw [h1,h2];rfl,hS⟩
 refine seqE<|sR<|pu4<|nT<|cD (i<(ntb:Int)) (fun j0=>?_) (fun j0=>?_)
 rotate_left
 ·refine kS<|pu2<|zB<|retT [I 0,I 0] ?_
  have hno:(tb.map Tap.v)[i.toNat]?=none:=List.getElem?_eq_none (by rw [List.length_map];omega)
  have h1:winF kd i sz (tb.map Tap.v)=0:=by unfold winF;rw [if_neg om,if_pos om,hno]
  have h2:winC kd i sz (tb.map Tap.v)=0:=by unfold winC;rw [if_neg om,if_pos om,hno]
  exact ⟨by rw [h1,h2];rfl,hS⟩
 refine seqE ?_
 obtain ⟨a0,b0,c0,d0,f0,g0⟩:=RdT.elem htb i
 have hnw_x_5:=(dtb a0 (List.mem_of_getElem? d0)).weights.len;have hlw_x_5:=(dtb a0 (List.mem_of_getElem? d0)).weights.le
 refine drawE [] [(4,⟨b0,c0+0,none⟩,I a0.first),(9,⟨b0,c0+1,none⟩, .slice a0.weights.a a0.weights.n a0.weights.k)] [(true,[0,1]),(true,[2]),(true,[3,5,6]),(true,[7]),(true,[8]),(true,[4]),(true,[11]),(true,[9]),(true,[10,12])] rfl kr ⟨.inr ((f0.up 0 rfl).cell hS (k:=0) rfl), .inr ((f0.up 0 rfl).cell hS (k:=1) rfl),trivial⟩ ?_
 have k0:=hS.drew
 refine wU [0,1]<|wY (.pointer (some ⟨b0,c0,none⟩)) rfl (fun w _=>Y_idx (a:=atb) (i:=i) (len:=ntb) (cap:=ktb) rfl runUnderlying35 sizeOf123 kr kr g0)<|wU [3,5,6]<|wY (.pointer (some ⟨b0,c0,none⟩)) rfl (fun w _=>Y_idx (a:=atb) (i:=i) (len:=ntb) (cap:=ktb) rfl runUnderlying35 sizeOf123 kr kr g0)<|wU [8]<|wLd (I a0.first) 0 isAgg3<|wU [11]<|wLd (.slice a0.weights.a a0.weights.n a0.weights.k) 1 isAgg22<|wU [10,12]<|wN<|tN<|retE<|tR<|tK<|retT [I a0.first,I (a0.weights.n:Int)] ?_
 have hmp:=map_at (f:=Tap.v) d0
 have h1:winF kd i sz (tb.map Tap.v)=a0.first:=by unfold winF;rw [if_neg om,if_pos om,hmp];rfl
 have h2:winC kd i sz (tb.map Tap.v)=(a0.weights.n:Int):=by unfold winC;rw [if_neg om,if_pos om,hmp];exact congrArg (fun (z:Nat)=>(z:Int)) hnw_x_5
 exact ⟨by rw [h1,h2];rfl,k0⟩
theorem r16_need (q:Stage) (n:Int) (fr:Int) (up:Int) (sz:Int) (atb:Option Addr) (ntb ktb:Nat) (tb:List Tap) (hq:Stage.Ok [H] q) (htb:RdT encTap 2 [H] atb ntb ktb tb) (dtb:∀z∈tb,Tap.Ok [H] z) (hsz:szOK q.v sz (tb.map Tap.v)) (hS:Sat W w (H::F)):
  Calls prog 117 #[.agg (encStage q).toArray,I n,I fr,I up,I sz, .slice atb ntb ktb] w fun e w'=>∃(az:Option Addr) (nz kz:Nat) (G:Chunk),e= .returned (.slice az nz kz)/\OwnT Go.E.encI 3 1 az nz kz (needV q.v n fr up sz (tb.map Tap.v)) G/\Sat W w' (G::H::F):=by
 have hl_q_weights:=hq.weights.le;have hn_q_weights:=hq.weights.len
 have hl_q_row:=hq.row.le;have hn_q_row:=hq.row.len
 have hl_q_col:=hq.col.le;have hn_q_col:=hq.col.len
 have hl_q_x:=hq.x.le;have hn_q_x:=hq.x.len
 have hl_q_y:=hq.y.le;have hn_q_y:=hq.y.len
 have hl_q_ops:=hq.ops.le;have hn_q_ops:=hq.ops.len
 have hl_tb:=htb.le;have hn_tb:=htb.len
 have hnr:=hn_q_row;have hnc:=hn_q_col;have hnX:=hn_q_x;have hnY:=hn_q_y
 refine callsA 85 func117 rfl<|sR<|sBox hS (.agg (encStage q).toArray) (encStage q).toArray fun a0 _ h0=>pu1<|zQ<|lA h0 0 0 18 (isAgg38 _) (sizeOf38 _)<|pu3<|cR call154 (r16_fine q n fr up ⟨(RdT.flat (hq.weights.up 1 (by rfl))),(RdT.flat (hq.row.up 1 (by rfl))),(RdT.flat (hq.col.up 1 (by rfl))),(RdT.flat (hq.x.up 1 (by rfl))),(fun z hz=>(hq.xD z hz).of_mem (mem_flat1 1 (by rfl))),(RdT.flat (hq.y.up 1 (by rfl))),(fun z hz=>(hq.yD z hz).of_mem (mem_flat1 1 (by rfl))),(RdT.flat (hq.ops.up 1 (by rfl)))⟩ h0.flat) fun _ b0=>pu1<|nT<|cDn (lenP n fr up/\accV q.v) (fun d0=>?_) (fun d0=>?_)
 rotate_left
 ·refine sR<|pu1<|zR<|retT [nS] ?_
  have m0:=(b0.dropAt 0 rfl)
  have n0:Sat W _ ([]::H::F):=Sat.nilc m0
  have hl:([]:List Int)=needV q.v n fr up sz (tb.map Tap.v):=(by unfold needV;rw [if_neg (show ¬(lenP n fr up/\accV q.v) from d0)])
  have hrd:=OwnT.nil (enc:=Go.E.encI) (E:=3) (sz:=1) fR
  rw [hl] at hrd
  exact ⟨_,_,_,_,rfl,hrd,n0⟩
 refine kT<|seqE ?_
 obtain ⟨hlen,hacc⟩:lenP n fr up/\accV q.v:=d0
 have hln:=hlen;unfold lenP at hln;obtain ⟨hs1,ht1⟩:=hsz hacc;have hkd:=acc_kind hacc;replace hs1:¬(q.kind=1\/q.kind=2)\/(1<=sz/\sz<=9):=hs1;replace hkd:1<=q.kind/\q.kind<=6:=hkd
 refine rE<|pu2<|sL b0 0 4 (I q.edgePolicy) (isAgg3 _)<|pu1<|nT<|cutA (γ:=Unit) (fun _=>[(1,I n),(2,I fr),(3,I up),(4,I sz),(5, .slice atb ntb ktb),(6,Pt a0 0),(13,I (polV q.v))]) (fun _ w=>Sat W w ([(a0, .cells (encStage q).toArray 38 (0,0))]::H::F)) ?_ ?_
 ·refine sR<|pu1<|sL b0 0 0 (I q.kind) (isAgg3 _)<|pu1<|nT<|cD (q.kind>3) (fun o0=>?_) (fun o0=>?_)
  ·refine rE<|pu1<|nT ?_
   exact ⟨(),⟨kr,kr,kr,kr,kr,kr,(Eq.trans (b:=I 3) kr (congrArg (fun z=>Value.int .i64 z) (show 3=polV q.v from by unfold polV;rw [if_pos (by simp only [Stage.v];omega)]))),trivial⟩,b0⟩
  refine kT ?_
  exact ⟨(),⟨kr,kr,kr,kr,kr,kr,(Eq.trans (b:=I q.edgePolicy) kr (congrArg (fun z=>Value.int .i64 z) (show q.edgePolicy=polV q.v from by unfold polV;rw [if_neg (by simp only [Stage.v];omega)];rfl))),trivial⟩,b0⟩
 rintro _ ρ _ p0
 refine sR<|pu1<|sMake (kl:= .i64) (kc:= .i64) (enc:=encKB) (sz:=1) (nb:=1) p0 false (n).toNat n (om:n=(((n).toNat:Nat):Int)) underlying174 (i:=Tryz.t4) kr fR fun q0 r0 _ s0 t0=>pu1<|zQ<|pu2<|nT<|blockE ?_
 refine loopA (γ:=Nat×Int×(List Bool)×(Option Addr)×Nat×Nat×Chunk) (fun ⟨i,cur,ks,aks,nks,kks,cks⟩=>[(1,I n),(3,I up),(4,I sz),(5, .slice atb ntb ktb),(6,Pt a0 0),(13,I (polV q.v)),(15,I cur),(14, .slice aks nks kks)]) (fun ⟨i,cur,ks,aks,nks,kks,cks⟩ w=>Sat W w (cks::[(a0, .cells (encStage q).toArray 38 (0,0))]::H::F)/\i<=(up-fr).toNat/\(cur=fr+(i:Int))/\(MkB n.toNat ks (hitsV q.v n fr sz (tb.map Tap.v) i))/\OwnT encKB 4 1 aks nks kks ks cks) (fun ⟨i,cur,ks,aks,nks,kks,cks⟩=>((up-fr).toNat)-i) (0,fr,(List.replicate (n).toNat false),(At q0 0),(n).toNat,(n).toNat,r0) ⟨t0,om,om,(MkB.zero (fun m=>rfl)),s0⟩ ?_
 rintro ⟨i,cur,ks,aks,nks,kks,cks⟩ ρ _ ⟨e0,hi,hcu,hM,hOks⟩
 have hn_ks:=hOks.len;have hl_ks:=hOks.le
 refine seqE<|sR<|pu3<|nT<|cD (cur<up) (fun u0=>?_) (fun u0=>?_)
 rotate_left
 ·refine exitE<|xB<|tN<|sR<|pu1<|nT<|seqE<|seqE ?_
  have hi9:i=(up-fr).toNat:=by omega
  have hMf:MkB (n.toNat) ks (needB q.v n fr up sz (tb.map Tap.v)):=by rw [hi9] at hM;exact hM
  have hk9:=hM.1
  have hk8:=(hOks).len
  refine rE<|pu1<|nT<|blockE ?_
  have v0:=Sat.nilc e0
  refine loopA (γ:=Nat×(List Int)×(Option Addr)×Nat×Nat×Chunk) (fun ⟨m,zs,azs,nzs,kzs,czs⟩=>[(1,I n),(14, .slice aks nks kks),(22,I (m:Int)),(21, .slice azs nzs kzs)]) (fun ⟨m,zs,azs,nzs,kzs,czs⟩ w=>Sat W w (czs::cks::[(a0, .cells (encStage q).toArray 38 (0,0))]::H::F)/\m<=n.toNat/\(zs=(uptoV m).filter (needB q.v n fr up sz (tb.map Tap.v)))/\OwnT Go.E.encI 3 1 azs nzs kzs zs czs) (fun ⟨m,zs,azs,nzs,kzs,czs⟩=>n.toNat-m) (0,[],none,0,0,[]) ⟨v0,om,by rfl,(OwnT.nil (enc:=Go.E.encI) (E:=3) (sz:=1) fR)⟩ ?_
  rintro ⟨m,zs,azs,nzs,kzs,czs⟩ ρ _ ⟨c0,hm,hE,hOzs⟩
  have hn_zs:=hOzs.len;have hl_zs:=hOzs.le
  refine seqE<|sR<|pu3<|nT<|cD ((m:Int)<n) (fun x0=>?_) (fun x0=>?_)
  rotate_left
  ·refine exitE<|xB<|tN<|sR<|pu2<|zE<|retT [.slice azs nzs kzs] ?_
   have y0:=(c0.drops [1,1])
   have hl:zs=needV q.v n fr up sz (tb.map Tap.v):=(by unfold needV;rw [if_pos ⟨hlen,hacc⟩,hE,show m=n.toNat by omega])
   have hrd:=hOzs
   rw [hl] at hrd
   exact ⟨_,_,_,_,rfl,hrd,y0⟩
  refine kT<|seqE<|blockE<|sR<|pu2<|sIdxO hOks (m:Int) m runUnderlying174 sizeOf4 fun i0 _ _ j0 z0 _=>sLp c0 (z0.up 1 rfl) 0 (.bool i0) (isAgg4 _)<|nT<|cB i0 (fun f0=>?_) (fun f0=>?_)
  rotate_left
  ·exact skipE<|bN<|tN<|rE<|pu1<|sAdd (m:Int) 1<|pu1<|nT<|⟨(m+1,zs,azs,nzs,kzs,czs),od,alA,c0,om,(by rw [upto_snoc_filter,<-hMf.at j0,if_neg f0,<-hE,List.append_nil]),hOzs⟩
  have hzl:zs.length<=m:=by rw [hE];exact Nat.le_trans (List.length_filter_le _ _) (by rw [upto_len];exact Nat.le_refl _)
  exact rE<|pu2<|sBS c0 #[I (m:Int)] runUnderlying22 sizeOf3 zeroValue3 fun _ _ a1=>sApp (nb:=8) a1 hOzs 1 (RdT.blk (enc:=Go.E.encI) (sz:=1) (xs:=[(m:Int)]) fR 1 0 rfl rfl rfl om) underlying22 (i:=Tryz.t3) kr fR fun b1 c1 d1 _ e1 f1=>pu1<|nB<|rE<|pu1<|sAdd (m:Int) 1<|pu1<|nT<|⟨(m+1,(zs++[(m:Int)]),b1,(nzs+1),c1,d1),od,alA,(f1.dropAt 0 rfl),om,(by rw [upto_snoc_filter,<-hMf.at j0,if_pos f0,<-hE]),e1⟩
 refine kT<|seqE<|blockE<|sR<|pu1<|sL e0 1 0 (I q.kind) (isAgg3 _)<|pu3<|cR call155 (r16_win q.kind cur sz atb ntb ktb tb (RdT.flat (htb.up 2 (by rfl))) (fun z hz=>(dtb z hz).of_mem (mem_flat1 2 (by rfl))) ⟨hs1,om⟩ e0.flat) fun _ h1=>pu5<|nT<|seqE ?_
 have hwb:=win_bd (kd:=q.kind) (k:=cur) (size:=sz) (t:=(tb.map Tap.v)) hs1 ht1 om
 refine rE<|pu2<|nT<|blockE ?_
 refine loopA (γ:=Nat×Int×(List Bool)×(Option Addr)×Nat×Nat×Chunk) (fun ⟨k,cv,kt,akt,nkt,kkt,ckt⟩=>[(1,I n),(3,I up),(4,I sz),(5, .slice atb ntb ktb),(6,Pt a0 0),(13,I (polV q.v)),(15,I cur),(16,I (winF q.kind cur sz (tb.map Tap.v))),(17,I (winC q.kind cur sz (tb.map Tap.v))),(18,I cv),(14, .slice akt nkt kkt)]) (fun ⟨k,cv,kt,akt,nkt,kkt,ckt⟩ w=>Sat W w (ckt::[(a0, .cells (encStage q).toArray 38 (0,0))]::H::F)/\k<=(winC q.kind cur sz (tb.map Tap.v)).toNat/\(cv=(winF q.kind cur sz (tb.map Tap.v))+(k:Int))/\(MkB n.toNat kt (fun m=>hitsV q.v n fr sz (tb.map Tap.v) i m||(List.range k).any fun j=>decide (idxV ((winF q.kind cur sz (tb.map Tap.v))+(j:Int)) n (polV q.v)=some m)))/\OwnT encKB 4 1 akt nkt kkt kt ckt) (fun ⟨k,cv,kt,akt,nkt,kkt,ckt⟩=>((winC q.kind cur sz (tb.map Tap.v)).toNat)-k) (0,(winF q.kind cur sz (tb.map Tap.v)),ks,aks,nks,kks,cks) ⟨h1,om,om,(hM.congr (fun m=>by simp)),hOks⟩ ?_
 rintro ⟨k,cv,kt,akt,nkt,kkt,ckt⟩ ρ _ ⟨k0,hk,hcv,hM2,hOkt⟩
 have hn_kt:=hOkt.len;have hl_kt:=hOkt.le
 have hk2:=hM2.1
 refine seqE<|sR<|pu3<|sAdd (winF q.kind cur sz (tb.map Tap.v)) (winC q.kind cur sz (tb.map Tap.v))<|pu1<|nT<|cD (cv<((winF q.kind cur sz (tb.map Tap.v))+(winC q.kind cur sz (tb.map Tap.v)))) (fun i1=>?_) (fun i1=>?_)
 rotate_left
 ·exact exitE<|xB<|bN<|tN<|rE<|pu1<|sAdd cur 1<|pu1<|nT<|⟨(i+1,(cur+1),kt,akt,nkt,kkt,ckt),od,alA,k0,om,om,(hM2.congr (fun m=>(hits_succ (s:=q.v) hcu (by simp only [Stage.v];omega)).symm)),hOkt⟩
 refine kT<|seqE<|blockE<|sR<|pu3<|cR call156 (r3_index cv n (polV q.v) k0.flat) fun _ l0=>pu5<|zS<|pu1<|nT<|cB ((idxV cv n (polV q.v)).isSome) (fun g0=>?_) (fun g0=>?_)
 rotate_left
 ·exact skipE<|bN<|tN<|rE<|pu1<|sAdd cv 1<|pu1<|nT<|⟨(k+1,(cv+1),kt,akt,nkt,kkt,ckt),od,alA,l0,om,om,(hM2.none (by rw [<-hcv];exact Option.not_isSome_iff_eq_none.1 g0)),hOkt⟩
 obtain ⟨c,hc⟩:=Option.isSome_iff_exists.1 g0
 have hcb:=idx_bd hc;have hgd:(idxV cv n (polV q.v)).getD 0=c:=(by simp [hc]);have hc2:idxV ((winF q.kind cur sz (tb.map Tap.v))+(k:Int)) n (polV q.v)=some c:=(by rw [<-hcv];exact hc)
 exact rE<|pu2<|sIdxO hOkt ((idxV cv n (polV q.v)).getD 0) (((idxV cv n (polV q.v)).getD 0)).toNat runUnderlying174 sizeOf4 fun j1 _ _ k1 _ l1=>sStF l0 hOkt l1 0 (((idxV cv n (polV q.v)).getD 0)).toNat 0 j1 true k1 (.bool true) [.bool true] sizeOf4 fun _ m1 n1 o1=>nB<|rE<|pu1<|sAdd cv 1<|pu1<|nT<|⟨(k+1,(cv+1),(kt.set ((((idxV cv n (polV q.v)).getD 0)).toNat) true),akt,nkt,kkt,m1),od,alA,o1,om,om,(by rw [hgd];exact MkB.one (c:=c) hM2 hc2 om),n1⟩
theorem r16_cols (q:Stage) (n:Int) (fr:Int) (up:Int) (hq:Stage.Ok [H] q) (hS:Sat W w (H::F)):
  Calls prog 136 #[.agg (encStage q).toArray,I n,I fr,I up] w fun e w'=>∃(az:Option Addr) (nz kz:Nat) (G:Chunk),e= .returned (.slice az nz kz)/\OwnT Go.E.encI 3 1 az nz kz (colsV q.v n fr up) G/\Sat W w' (G::H::F):=by
 have hl_q_weights:=hq.weights.le;have hn_q_weights:=hq.weights.len
 have hl_q_row:=hq.row.le;have hn_q_row:=hq.row.len
 have hl_q_col:=hq.col.le;have hn_q_col:=hq.col.len
 have hl_q_x:=hq.x.le;have hn_q_x:=hq.x.len
 have hl_q_y:=hq.y.le;have hn_q_y:=hq.y.len
 have hl_q_ops:=hq.ops.le;have hn_q_ops:=hq.ops.len
 have hnr:=hn_q_row;have hnc:=hn_q_col;have hnX:=hn_q_x;have hnY:=hn_q_y
 refine callsA 26 func136 rfl<|sR<|sBox hS (.agg (encStage q).toArray) (encStage q).toArray fun _ _ a0=>pu1<|zS<|pu1<|sL a0 0 6 (I q.kW) (isAgg3 _)<|pu1<|zQ<|pu1<|sL a0 0 0 (I q.kind) (isAgg3 _)<|pu1<|nT<|cE q.kind 2 (fun b0=>?_) (fun b0=>?_)
 rotate_left
 ·refine kS<|lA a0 0 0 18 (isAgg38 _) (sizeOf38 _)<|pu5<|sL a0 0 13 (.slice q.x.a q.x.n q.x.k) (isAgg35 _)<|cX call117 (r16_need q n fr up q.kW q.x.a q.x.n q.x.k q.x.l ⟨(RdT.flat (hq.weights.up 1 (by rfl))),(RdT.flat (hq.row.up 1 (by rfl))),(RdT.flat (hq.col.up 1 (by rfl))),(RdT.flat (hq.x.up 1 (by rfl))),(fun z hz=>(hq.xD z hz).of_mem (mem_flat1 1 (by rfl))),(RdT.flat (hq.y.up 1 (by rfl))),(fun z hz=>(hq.yD z hz).of_mem (mem_flat1 1 (by rfl))),(RdT.flat (hq.ops.up 1 (by rfl)))⟩ (RdT.flat (hq.x.up 1 (by rfl))) (fun z hz=>(hq.xD z hz).of_mem (mem_flat1 1 (by rfl))) (by have h:=szOK_cols q.v;rw [if_neg (show ¬q.v.kind=2 from b0)] at h;exact h) a0.flat) ?_
  rintro _ _ ⟨e0,f0,g0,_,rfl,c0,h0⟩
  have i0:=h0.unflat1
  have hn_az_17:=c0.len;have hl_az_17:=c0.le
  refine pu1<|zE<|retT [.slice e0 f0 g0] ?_
  have j0:=(i0.dropAt 1 rfl)
  have hl:(needV q.v n fr up q.kW (q.x.l.map Tap.v))=colsV q.v n fr up:=(by unfold colsV;rw [if_neg (show ¬q.v.kind=2 from b0)];rfl)
  have hrd:=c0
  rw [hl] at hrd
  exact ⟨_,_,_,_,rfl,hrd,j0⟩
 refine rE<|pu1<|sL a0 0 9 (.slice q.row.a q.row.n q.row.k) (isAgg22 _)<|pu2<|zS<|lA a0 0 0 18 (isAgg38 _) (sizeOf38 _)<|pu5<|sL a0 0 13 (.slice q.x.a q.x.n q.x.k) (isAgg35 _) ?_
 refine cX call117 (r16_need q n fr up (q.row.n:Int) q.x.a q.x.n q.x.k q.x.l ⟨(RdT.flat (hq.weights.up 1 (by rfl))),(RdT.flat (hq.row.up 1 (by rfl))),(RdT.flat (hq.col.up 1 (by rfl))),(RdT.flat (hq.x.up 1 (by rfl))),(fun z hz=>(hq.xD z hz).of_mem (mem_flat1 1 (by rfl))),(RdT.flat (hq.y.up 1 (by rfl))),(fun z hz=>(hq.yD z hz).of_mem (mem_flat1 1 (by rfl))),(RdT.flat (hq.ops.up 1 (by rfl)))⟩ (RdT.flat (hq.x.up 1 (by rfl))) (fun z hz=>(hq.xD z hz).of_mem (mem_flat1 1 (by rfl))) (by have h:=szOK_cols q.v;rw [if_pos (show q.v.kind=2 from b0),show q.v.row.length=q.row.n from hnr] at h;exact h) a0.flat) ?_
 rintro _ _ ⟨k0,l0,m0,_,rfl,d0,n0⟩
 have o0:=n0.unflat1
 have hn_az_8:=d0.len;have hl_az_8:=d0.le
 refine pu1<|zE<|retT [.slice k0 l0 m0] ?_
 have p0:=(o0.dropAt 1 rfl)
 have hl:(needV q.v n fr up (q.row.n:Int) (q.x.l.map Tap.v))=colsV q.v n fr up:=(by unfold colsV;rw [if_pos (show q.v.kind=2 from b0),show q.v.row.length=q.row.n from hnr];rfl)
 have hrd:=d0
 rw [hl] at hrd
 exact ⟨_,_,_,_,rfl,hrd,p0⟩
theorem r16_rows (q:Stage) (n:Int) (fr:Int) (up:Int) (hq:Stage.Ok [H] q) (hS:Sat W w (H::F)):
  Calls prog 73 #[.agg (encStage q).toArray,I n,I fr,I up] w fun e w'=>∃(az:Option Addr) (nz kz:Nat) (G:Chunk),e= .returned (.slice az nz kz)/\OwnT Go.E.encI 3 1 az nz kz (rowsV q.v n fr up) G/\Sat W w' (G::H::F):=by
 have hl_q_weights:=hq.weights.le;have hn_q_weights:=hq.weights.len
 have hl_q_row:=hq.row.le;have hn_q_row:=hq.row.len
 have hl_q_col:=hq.col.le;have hn_q_col:=hq.col.len
 have hl_q_x:=hq.x.le;have hn_q_x:=hq.x.len
 have hl_q_y:=hq.y.le;have hn_q_y:=hq.y.len
 have hl_q_ops:=hq.ops.le;have hn_q_ops:=hq.ops.len
 have hnr:=hn_q_row;have hnc:=hn_q_col;have hnX:=hn_q_x;have hnY:=hn_q_y
 refine callsA 26 func73 rfl<|sR<|sBox hS (.agg (encStage q).toArray) (encStage q).toArray fun _ _ a0=>pu1<|zS<|pu1<|sL a0 0 7 (I q.kH) (isAgg3 _)<|pu1<|zQ<|pu1<|sL a0 0 0 (I q.kind) (isAgg3 _)<|pu1<|nT<|cE q.kind 2 (fun b0=>?_) (fun b0=>?_)
 rotate_left
 ·refine kS<|lA a0 0 0 18 (isAgg38 _) (sizeOf38 _)<|pu5<|sL a0 0 14 (.slice q.y.a q.y.n q.y.k) (isAgg35 _)<|cX call117 (r16_need q n fr up q.kH q.y.a q.y.n q.y.k q.y.l ⟨(RdT.flat (hq.weights.up 1 (by rfl))),(RdT.flat (hq.row.up 1 (by rfl))),(RdT.flat (hq.col.up 1 (by rfl))),(RdT.flat (hq.x.up 1 (by rfl))),(fun z hz=>(hq.xD z hz).of_mem (mem_flat1 1 (by rfl))),(RdT.flat (hq.y.up 1 (by rfl))),(fun z hz=>(hq.yD z hz).of_mem (mem_flat1 1 (by rfl))),(RdT.flat (hq.ops.up 1 (by rfl)))⟩ (RdT.flat (hq.y.up 1 (by rfl))) (fun z hz=>(hq.yD z hz).of_mem (mem_flat1 1 (by rfl))) (by have h:=szOK_rows q.v;rw [if_neg (show ¬q.v.kind=2 from b0)] at h;exact h) a0.flat) ?_
  rintro _ _ ⟨e0,f0,g0,_,rfl,c0,h0⟩
  have i0:=h0.unflat1
  have hn_az_17:=c0.len;have hl_az_17:=c0.le
  refine pu1<|zE<|retT [.slice e0 f0 g0] ?_
  have j0:=(i0.dropAt 1 rfl)
  have hl:(needV q.v n fr up q.kH (q.y.l.map Tap.v))=rowsV q.v n fr up:=(by unfold rowsV;rw [if_neg (show ¬q.v.kind=2 from b0)];rfl)
  have hrd:=c0
  rw [hl] at hrd
  exact ⟨_,_,_,_,rfl,hrd,j0⟩
 refine rE<|pu1<|sL a0 0 10 (.slice q.col.a q.col.n q.col.k) (isAgg22 _)<|pu2<|zS<|lA a0 0 0 18 (isAgg38 _) (sizeOf38 _)<|pu5<|sL a0 0 14 (.slice q.y.a q.y.n q.y.k) (isAgg35 _) ?_
 refine cX call117 (r16_need q n fr up (q.col.n:Int) q.y.a q.y.n q.y.k q.y.l ⟨(RdT.flat (hq.weights.up 1 (by rfl))),(RdT.flat (hq.row.up 1 (by rfl))),(RdT.flat (hq.col.up 1 (by rfl))),(RdT.flat (hq.x.up 1 (by rfl))),(fun z hz=>(hq.xD z hz).of_mem (mem_flat1 1 (by rfl))),(RdT.flat (hq.y.up 1 (by rfl))),(fun z hz=>(hq.yD z hz).of_mem (mem_flat1 1 (by rfl))),(RdT.flat (hq.ops.up 1 (by rfl)))⟩ (RdT.flat (hq.y.up 1 (by rfl))) (fun z hz=>(hq.yD z hz).of_mem (mem_flat1 1 (by rfl))) (by have h:=szOK_rows q.v;rw [if_pos (show q.v.kind=2 from b0),show q.v.col.length=q.col.n from hnc] at h;exact h) a0.flat) ?_
 rintro _ _ ⟨k0,l0,m0,_,rfl,d0,n0⟩
 have o0:=n0.unflat1
 have hn_az_8:=d0.len;have hl_az_8:=d0.le
 refine pu1<|zE<|retT [.slice k0 l0 m0] ?_
 have p0:=(o0.dropAt 1 rfl)
 have hl:(needV q.v n fr up (q.col.n:Int) (q.y.l.map Tap.v))=rowsV q.v n fr up:=(by unfold rowsV;rw [if_pos (show q.v.kind=2 from b0),show q.v.col.length=q.col.n from hnc];rfl)
 have hrd:=d0
 rw [hl] at hrd
 exact ⟨_,_,_,_,rfl,hrd,p0⟩
theorem r16_some (al:Option Addr) (nl kl:Nat) (l:List Int) (a:Int) (b:Int) (hl:RdT Go.E.encI 1 [H] al nl kl l) (hS:Sat W w (H::F)):
  Ro prog 137 #[.slice al nl kl,I a,I b] (.bool (someV l a b)) W w (H::F):=by
 have hl_l:=hl.le;have hn_l:=hl.len
 refine callsA 28 func137 rfl<|sR<|pu1<|zQ<|pu1<|nT<|blockE<|loopA (γ:=Nat) (fun i=>[(0, .slice al nl kl),(1,I a),(2,I b),(7,I (i:Int))]) (fun i w=>Sat W w (H::F)/\i<=nl/\((l.take i).any (fun v=>decide (a<=v/\v<b))=false)) (fun i=>nl-i) 0 ⟨hS,om,by rfl⟩ ?_
 rintro i ρ _ ⟨a0,hi,hE⟩
 refine seqE<|sR<|pu4<|nT<|cD ((i:Int)<(nl:Int)) (fun e0=>?_) (fun e0=>?_)
 rotate_left
 ·refine exitE<|xB<|tN<|sR<|pu1<|zE<|retT [.bool false] ?_
  exact ⟨by rw [show someV l a b=false from by rw [List.take_of_length_le om] at hE;exact hE];rfl,a0⟩
 refine kT<|seqE<|blockE<|sR<|pu2<|sIdx hl (i:Int) runUnderlying22 sizeOf3 fun b0 _ _ c0 f0=>?_
 rw [Int.toNat_natCast] at c0
 refine sLp a0 (f0.up 0 rfl) 0 (I b0) (isAgg3 _)<|pu3<|sD 20 (b0>=a) (fun g0=>?_) (fun g0=>?_)
 rotate_left
 ·exact pu7<|nT<|cFf<|skipE<|bN<|tN<|rE<|pu1<|sAdd (i:Int) 1<|pu1<|nT<|⟨i+1,od,alA,a0,om,(any_take_no hE c0 (decide_eq_false om))⟩
 refine pu2<|gY<|sIdx hl (i:Int) runUnderlying22 sizeOf3 fun h0 _ _ d0 i0=>?_
 rw [Int.toNat_natCast] at d0
 obtain rfl:b0=h0:=Option.some.inj (c0.symm.trans d0)
 refine gY<|sLp a0 (i0.up 0 rfl) 0 (I b0) (isAgg3 _)<|pu3<|nT<|cD (b0<b) (fun j0=>?_) (fun j0=>?_)
 rotate_left
 ·exact skipE<|bN<|tN<|rE<|pu1<|sAdd (i:Int) 1<|pu1<|nT<|⟨i+1,od,alA,a0,om,(any_take_no hE c0 (decide_eq_false om))⟩
 exact sR<|pu1<|zB<|tR<|tK<|retT [.bool true]<|⟨by rw [show someV l a b=true from any_of_at (p:=(fun v=>decide (a<=v/\v<b))) c0 (decide_eq_true om)];rfl,a0⟩
theorem r16_tiles (q:Stage) (w0:Int) (h0:Int) (tw:Int) (th:Int) (r:Rct) (hq:Stage.Ok [H] q) (hv:inP r) (hS:Sat W w (H::F)):
  Calls prog 99 #[.agg (encStage q).toArray,I w0,I h0,I tw,I th, .agg (encRct r).toArray] w fun e w'=>∃(az:Option Addr) (nz kz:Nat) (G:Chunk),e= .returned (.slice az nz kz)/\OwnT Go.E.encI 3 1 az nz kz (tilesV q.v w0 h0 tw th r) G/\Sat W w' (G::H::F):=by
 have hl_q_weights:=hq.weights.le;have hn_q_weights:=hq.weights.len
 have hl_q_row:=hq.row.le;have hn_q_row:=hq.row.len
 have hl_q_col:=hq.col.le;have hn_q_col:=hq.col.len
 have hl_q_x:=hq.x.le;have hn_q_x:=hq.x.len
 have hl_q_y:=hq.y.le;have hn_q_y:=hq.y.len
 have hl_q_ops:=hq.ops.le;have hn_q_ops:=hq.ops.len
 unfold inP at hv
 refine callsA 81 func99 rfl<|sR<|sBox hS (.agg (encStage q).toArray) (encStage q).toArray fun b0 _ s0=>sBox s0 (.agg (encRct r).toArray) (encRct r).toArray fun d0 _ j0=>pu1<|zQ<|lA j0 0 0 4 (isAgg44 _) (sizeOf44 _)<|cR call76 (r2_valid r j0.flat) fun _ a0=>pu1<|nT ?_
 have t0:rvP r:=(by unfold rvP cooP;omega)
 refine cF _ (congrArg Bool.not (decide_eq_true t0))<|kT<|seqE ?_
 refine drawE [6,13] [(0,⟨b0,0,none⟩,I q.kind),(0,⟨b0,1,none⟩,I q.a),(0,⟨b0,2,none⟩,I q.b),(0,⟨b0,3,none⟩, .bool q.barrier),(0,⟨b0,4,none⟩,I q.edgePolicy),(0,⟨b0,5,none⟩,I q.edgeFill),(0,⟨b0,6,none⟩,I q.kW),(0,⟨b0,7,none⟩,I q.kH),(0,⟨b0,8,none⟩, .slice q.weights.a q.weights.n q.weights.k),(0,⟨b0,9,none⟩, .slice q.row.a q.row.n q.row.k),(0,⟨b0,10,none⟩, .slice q.col.a q.col.n q.col.k),(0,⟨b0,11,none⟩,I q.shift),(0,⟨b0,12,none⟩,I q.shift2),(0,⟨b0,13,none⟩, .slice q.x.a q.x.n q.x.k),(0,⟨b0,14,none⟩, .slice q.y.a q.y.n q.y.k),(0,⟨b0,15,none⟩,I q.bins),(0,⟨b0,16,none⟩, .slice q.ops.a q.ops.n q.ops.k),(0,⟨b0,17,none⟩,I q.max_),(3,⟨d0,0,none⟩,I r.x0),(5,⟨d0,2,none⟩,I r.x1),(7,⟨b0,0,none⟩,I q.kind),(7,⟨b0,1,none⟩,I q.a),(7,⟨b0,2,none⟩,I q.b),(7,⟨b0,3,none⟩, .bool q.barrier),(7,⟨b0,4,none⟩,I q.edgePolicy),(7,⟨b0,5,none⟩,I q.edgeFill),(7,⟨b0,6,none⟩,I q.kW),(7,⟨b0,7,none⟩,I q.kH),(7,⟨b0,8,none⟩, .slice q.weights.a q.weights.n q.weights.k),(7,⟨b0,9,none⟩, .slice q.row.a q.row.n q.row.k),(7,⟨b0,10,none⟩, .slice q.col.a q.col.n q.col.k),(7,⟨b0,11,none⟩,I q.shift),(7,⟨b0,12,none⟩,I q.shift2),(7,⟨b0,13,none⟩, .slice q.x.a q.x.n q.x.k),(7,⟨b0,14,none⟩, .slice q.y.a q.y.n q.y.k),(7,⟨b0,15,none⟩,I q.bins),(7,⟨b0,16,none⟩, .slice q.ops.a q.ops.n q.ops.k),(7,⟨b0,17,none⟩,I q.max_),(10,⟨d0,1,none⟩,I r.y0),(12,⟨d0,3,none⟩,I r.y1)] [(true,[1,2,4,8,9,11]),(true,[0]),(true,[3]),(true,[5]),(true,[7]),(true,[10]),(true,[12]),(false,[6]),(false,[13]),(true,[14,15])] rfl kr ⟨cI a0 1,cI a0 1,cI a0 1,cI a0 1,cI a0 1,cI a0 1,cI a0 1,cI a0 1,cI a0 1,cI a0 1,cI a0 1,cI a0 1,cI a0 1,cI a0 1,cI a0 1,cI a0 1,cI a0 1,cI a0 1,cI a0 0,cI a0 0,cI a0 1,cI a0 1,cI a0 1,cI a0 1,cI a0 1,cI a0 1,cI a0 1,cI a0 1,cI a0 1,cI a0 1,cI a0 1,cI a0 1,cI a0 1,cI a0 1,cI a0 1,cI a0 1,cI a0 1,cI a0 1,cI a0 0,cI a0 0,trivial⟩ ?_
 have u0:=a0.drew
 refine wU [1,2,4,8,9,11]<|wY (.agg (encStage q).toArray) rfl (fun w hF=>Y_loadF rfl (isAgg38 w) (sizeOf38 w) kr rfl ⟨hF 0 _ _ rfl,hF 1 _ _ rfl,hF 2 _ _ rfl,hF 3 _ _ rfl,hF 4 _ _ rfl,hF 5 _ _ rfl,hF 6 _ _ rfl,hF 7 _ _ rfl,hF 8 _ _ rfl,hF 9 _ _ rfl,hF 10 _ _ rfl,hF 11 _ _ rfl,hF 12 _ _ rfl,hF 13 _ _ rfl,hF 14 _ _ rfl,hF 15 _ _ rfl,hF 16 _ _ rfl,hF 17 _ _ rfl,trivial⟩)<|wLd (I r.x0) 18 isAgg3<|wLd (I r.x1) 19 isAgg3 ?_
 refine wY (.agg (encStage q).toArray) rfl (fun w hF=>Y_loadF rfl (isAgg38 w) (sizeOf38 w) kr rfl ⟨hF 20 _ _ rfl,hF 21 _ _ rfl,hF 22 _ _ rfl,hF 23 _ _ rfl,hF 24 _ _ rfl,hF 25 _ _ rfl,hF 26 _ _ rfl,hF 27 _ _ rfl,hF 28 _ _ rfl,hF 29 _ _ rfl,hF 30 _ _ rfl,hF 31 _ _ rfl,hF 32 _ _ rfl,hF 33 _ _ rfl,hF 34 _ _ rfl,hF 35 _ _ rfl,hF 36 _ _ rfl,hF 37 _ _ rfl,trivial⟩)<|wLd (I r.y0) 38 isAgg3<|wLd (I r.y1) 39 isAgg3<|wO rfl ?_
 refine cX call136 (r16_cols q w0 r.x0 r.x1 ⟨(RdT.flat (hq.weights.up 2 (by rfl))),(RdT.flat (hq.row.up 2 (by rfl))),(RdT.flat (hq.col.up 2 (by rfl))),(RdT.flat (hq.x.up 2 (by rfl))),(fun z hz=>(hq.xD z hz).of_mem (mem_flat1 2 (by rfl))),(RdT.flat (hq.y.up 2 (by rfl))),(fun z hz=>(hq.yD z hz).of_mem (mem_flat1 2 (by rfl))),(RdT.flat (hq.ops.up 2 (by rfl)))⟩ u0.flat) ?_
 rintro _ _ ⟨k0,l0,m0,v0,rfl,f0,z0⟩
 have c0:=z0.unflat1
 have hn_az_15:=f0.len;have hl_az_15:=f0.le
 refine nilO ⟨⟨dI,dI,dI,dI,dI,dI,dI,dI,dI,dI,dI,dI,dI,dI,dI,dI,dI,dI,dI,dI,cI c0 2,cI c0 2,cI c0 2,cI c0 2,cI c0 2,cI c0 2,cI c0 2,cI c0 2,cI c0 2,cI c0 2,cI c0 2,cI c0 2,cI c0 2,cI c0 2,cI c0 2,cI c0 2,cI c0 2,cI c0 2,cI c0 1,cI c0 1,trivial⟩,?_⟩
 refine wO rfl<|cX call73 (r16_rows q h0 r.y0 r.y1 ⟨(RdT.flat (hq.weights.up 3 (by rfl))),(RdT.flat (hq.row.up 3 (by rfl))),(RdT.flat (hq.col.up 3 (by rfl))),(RdT.flat (hq.x.up 3 (by rfl))),(fun z hz=>(hq.xD z hz).of_mem (mem_flat1 3 (by rfl))),(RdT.flat (hq.y.up 3 (by rfl))),(fun z hz=>(hq.yD z hz).of_mem (mem_flat1 3 (by rfl))),(RdT.flat (hq.ops.up 3 (by rfl)))⟩ c0.flat) ?_
 rintro _ _ ⟨n0,o0,p0,a1,rfl,g0,b1⟩
 have c1:=b1.unflat1
 have hn_az_23:=g0.len;have hl_az_23:=g0.le
 refine nilO ⟨dA,?_⟩
 refine wU [14,15]<|wN<|tN<|sR<|pu4<|cR call53 (r5_count w0 h0 tw th c1.flat) fun _ d1=>pu5<|nT<|seqE ?_
 have hnb:0<=(colsN w0 h0 tw th)*(rowsN w0 h0 tw th)/\(colsN w0 h0 tw th)*(rowsN w0 h0 tw th)<=16384:=by
   by_cases hf:fineP w0 h0 tw th
   ·have hb:=cols_bd hf;exact mul_bd (A:=128) (B:=128) om om
   ·rw [(cols_no hf).1,Int.zero_mul];omega
 refine rE<|pu1<|zQ<|pu1<|nT<|blockE ?_
 have e1:=Sat.nilc d1
 have f1:=OwnT.nil (enc:=Go.E.encI) (E:=3) (sz:=1) fR
 refine loopA (γ:=Nat×(List Int)×(Option Addr)×Nat×Nat×Chunk) (fun ⟨i,zs,azs,nzs,kzs,czs⟩=>[(1,I w0),(2,I h0),(3,I tw),(4,I th),(13, .slice k0 l0 m0),(14, .slice n0 o0 p0),(15,I (colsN w0 h0 tw th)),(16,I (rowsN w0 h0 tw th)),(18,I (i:Int)),(17, .slice azs nzs kzs)]) (fun ⟨i,zs,azs,nzs,kzs,czs⟩ w=>Sat W w (czs::a1::v0::[(d0, .cells (encRct r).toArray 44 (0,0))]::[(b0, .cells (encStage q).toArray 38 (0,0))]::H::F)/\i<=((colsN w0 h0 tw th)*(rowsN w0 h0 tw th)).toNat/\(zs=(uptoV i).filter (fun i=>someV (colsV q.v w0 r.x0 r.x1) (i%(colsN w0 h0 tw th)*tw) ((i%(colsN w0 h0 tw th)+1)*tw)&&someV (rowsV q.v h0 r.y0 r.y1) (i/(colsN w0 h0 tw th)*th) ((i/(colsN w0 h0 tw th)+1)*th)))/\OwnT Go.E.encI 3 1 azs nzs kzs zs czs) (fun ⟨i,zs,azs,nzs,kzs,czs⟩=>(((colsN w0 h0 tw th)*(rowsN w0 h0 tw th)).toNat)-i) (0,[],none,0,0,[]) ⟨e1,om,by rfl,f1⟩ ?_
 rintro ⟨i,zs,azs,nzs,kzs,czs⟩ ρ _ ⟨q0,hi,hE,hOzs⟩
 have hn_zs:=hOzs.len;have hl_zs:=hOzs.le
 refine seqE<|sR<|pu3<|sMul (colsN w0 h0 tw th) (rowsN w0 h0 tw th)<|pu1<|nT<|cD ((i:Int)<((colsN w0 h0 tw th)*(rowsN w0 h0 tw th))) (fun g1=>?_) (fun g1=>?_)
 rotate_left
 ·refine exitE<|xB<|tN<|sR<|pu2<|zE<|retT [.slice azs nzs kzs] ?_
  have h1:=(q0.drops [1,1,1,1])
  have hl:zs=tilesV q.v w0 h0 tw th r:=(by unfold tilesV;rw [hE,show i=tilN w0 h0 tw th by unfold tilN;omega])
  have hrd:=hOzs
  rw [hl] at hrd
  exact ⟨_,_,_,_,rfl,hrd,h1⟩
 refine kT<|seqE<|blockE<|seqE ?_
 have hf:fineP w0 h0 tw th:=by
   by_cases hf:fineP w0 h0 tw th
   ·exact hf
   ·exfalso;rw [(cols_no hf).1,Int.zero_mul] at*;omega
 have htl:=tile_in hf (i:=(i:Int)) om om
 refine rE<|pu5<|cR call54 (r5_tile w0 h0 tw th (i:Int) hf om q0.flat) fun _ i1=>pu3<|sAlloc i1 zeroValue44 fun _ _ j1=>?_
 refine sT j1 0 0 (.agg #[I ((tileV w0 h0 tw th (i:Int)).x0),I ((tileV w0 h0 tw th (i:Int)).y0),I ((tileV w0 h0 tw th (i:Int)).x1),I ((tileV w0 h0 tw th (i:Int)).y1)]) [I ((tileV w0 h0 tw th (i:Int)).x0),I ((tileV w0 h0 tw th (i:Int)).y0),I ((tileV w0 h0 tw th (i:Int)).x1),I ((tileV w0 h0 tw th (i:Int)).y1)] #[I ((tileV w0 h0 tw th (i:Int)).x0),I ((tileV w0 h0 tw th (i:Int)).y0),I ((tileV w0 h0 tw th (i:Int)).x1),I ((tileV w0 h0 tw th (i:Int)).y1)] sizeOf44 fun _ i0=>pu1<|zS<|pu2<|sL i0 0 0 (I ((tileV w0 h0 tw th (i:Int)).x0)) (isAgg3 _)<|pu1<|sL i0 0 2 (I ((tileV w0 h0 tw th (i:Int)).x1)) (isAgg3 _) ?_
 refine cR call137 (r16_some k0 l0 m0 (colsV q.v w0 r.x0 r.x1) ((tileV w0 h0 tw th (i:Int)).x0) ((tileV w0 h0 tw th (i:Int)).x1) (RdT.flat (f0.rdAt 3 (by rfl))) i0.flat) fun _ e0=>pu1<|sB 68 (someV (colsV q.v w0 r.x0 r.x1) ((tileV w0 h0 tw th (i:Int)).x0) ((tileV w0 h0 tw th (i:Int)).x1)) (fun k1=>?_) (fun k1=>?_)
 rotate_left
 ·refine pu7<|nT<|cFf<|skipE<|bN<|tN<|rE<|pu1<|sAdd (i:Int) 1<|pu1<|nT ?_
  have hmx:=some_min (l:=(colsV q.v w0 r.x0 r.x1)) (a:=(i:Int)%(colsN w0 h0 tw th)*tw) (b:=(i:Int)%(colsN w0 h0 tw th)*tw+tw) (n:=w0) (fun x hx=>(need_mem hx).2)
  have hmy:=some_min (l:=(rowsV q.v h0 r.y0 r.y1)) (a:=(i:Int)/(colsN w0 h0 tw th)*th) (b:=(i:Int)/(colsN w0 h0 tw th)*th+th) (n:=h0) (fun x hx=>(need_mem hx).2)
  have hPv:(fun i=>someV (colsV q.v w0 r.x0 r.x1) (i%(colsN w0 h0 tw th)*tw) ((i%(colsN w0 h0 tw th)+1)*tw)&&someV (rowsV q.v h0 r.y0 r.y1) (i/(colsN w0 h0 tw th)*th) ((i/(colsN w0 h0 tw th)+1)*th)) (i:Int)=false:=by
    dsimp only;rw [Int.add_mul,Int.one_mul,Int.add_mul,Int.one_mul,<-hmx,<-hmy];unfold tileV at*;simp_all
  exact ⟨(i+1,zs,azs,nzs,kzs,czs),od,alA,(e0.dropAt 0 rfl),om,(by rw [upto_snoc_filter,if_neg (fun h=>Bool.false_ne_true (hPv.symm.trans h)),<-hE,List.append_nil]),hOzs⟩
 refine pu2<|gY<|sL e0 0 1 (I ((tileV w0 h0 tw th (i:Int)).y0)) (isAgg3 _)<|pu1<|gY<|sL e0 0 3 (I ((tileV w0 h0 tw th (i:Int)).y1)) (isAgg3 _)<|gY<|cR call137 (r16_some n0 o0 p0 (rowsV q.v h0 r.y0 r.y1) ((tileV w0 h0 tw th (i:Int)).y0) ((tileV w0 h0 tw th (i:Int)).y1) (RdT.flat (g0.rdAt 2 (by rfl))) e0.flat) fun _ r0=>pu1<|nT<|cB (someV (rowsV q.v h0 r.y0 r.y1) ((tileV w0 h0 tw th (i:Int)).y0) ((tileV w0 h0 tw th (i:Int)).y1)) (fun m1=>?_) (fun m1=>?_)
 rotate_left
 ·refine skipE<|bN<|tN<|rE<|pu1<|sAdd (i:Int) 1<|pu1<|nT ?_
  have hmx:=some_min (l:=(colsV q.v w0 r.x0 r.x1)) (a:=(i:Int)%(colsN w0 h0 tw th)*tw) (b:=(i:Int)%(colsN w0 h0 tw th)*tw+tw) (n:=w0) (fun x hx=>(need_mem hx).2)
  have hmy:=some_min (l:=(rowsV q.v h0 r.y0 r.y1)) (a:=(i:Int)/(colsN w0 h0 tw th)*th) (b:=(i:Int)/(colsN w0 h0 tw th)*th+th) (n:=h0) (fun x hx=>(need_mem hx).2)
  have hPv:(fun i=>someV (colsV q.v w0 r.x0 r.x1) (i%(colsN w0 h0 tw th)*tw) ((i%(colsN w0 h0 tw th)+1)*tw)&&someV (rowsV q.v h0 r.y0 r.y1) (i/(colsN w0 h0 tw th)*th) ((i/(colsN w0 h0 tw th)+1)*th)) (i:Int)=false:=by
    dsimp only;rw [Int.add_mul,Int.one_mul,Int.add_mul,Int.one_mul,<-hmx,<-hmy];unfold tileV at*;simp_all
  exact ⟨(i+1,zs,azs,nzs,kzs,czs),od,alA,(r0.dropAt 0 rfl),om,(by rw [upto_snoc_filter,if_neg (fun h=>Bool.false_ne_true (hPv.symm.trans h)),<-hE,List.append_nil]),hOzs⟩
 have hzl:zs.length<=i:=by rw [hE];exact Nat.le_trans (List.length_filter_le _ _) (by rw [upto_len];exact Nat.le_refl _)
 refine rE<|pu2<|sBS r0 #[I (i:Int)] runUnderlying22 sizeOf3 zeroValue3 fun _ _ o1=>sApp (nb:=8) o1 hOzs 2 (RdT.blk (enc:=Go.E.encI) (sz:=1) (xs:=[(i:Int)]) fR 1 0 rfl rfl rfl om) underlying22 (i:=Tryz.t3) kr fR fun q1 r1 s1 _ t1 u1=>pu1<|nB<|rE<|pu1<|sAdd (i:Int) 1<|pu1<|nT ?_
 have hmx:=some_min (l:=(colsV q.v w0 r.x0 r.x1)) (a:=(i:Int)%(colsN w0 h0 tw th)*tw) (b:=(i:Int)%(colsN w0 h0 tw th)*tw+tw) (n:=w0) (fun x hx=>(need_mem hx).2)
 have hmy:=some_min (l:=(rowsV q.v h0 r.y0 r.y1)) (a:=(i:Int)/(colsN w0 h0 tw th)*th) (b:=(i:Int)/(colsN w0 h0 tw th)*th+th) (n:=h0) (fun x hx=>(need_mem hx).2)
 have hPv:(fun i=>someV (colsV q.v w0 r.x0 r.x1) (i%(colsN w0 h0 tw th)*tw) ((i%(colsN w0 h0 tw th)+1)*tw)&&someV (rowsV q.v h0 r.y0 r.y1) (i/(colsN w0 h0 tw th)*th) ((i/(colsN w0 h0 tw th)+1)*th)) (i:Int)=true:=by
   dsimp only;rw [Int.add_mul,Int.one_mul,Int.add_mul,Int.one_mul,<-hmx,<-hmy];unfold tileV at*;simp_all
 exact ⟨(i+1,(zs++[(i:Int)]),q1,(nzs+1),r1,s1),od,alA,(u1.drops [0,0]),om,(by rw [upto_snoc_filter,if_pos hPv,<-hE]),t1⟩
end Go.Proofs.YtdingplbadblpaaGreat
