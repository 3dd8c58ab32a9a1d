import Derived.WalkKit
import Derived.Deep.Quiet
import Derived.KernelRfl
import Derived.Laws.BytesString
import Derived.Laws.Shifts
import Derived.Laws.IdiomStrings
import Derived.OpenShut
import Derived.Test.YtghcddbhllkbmaaGreatProg
import Derived.Laws.IdiomRangeMap
import Derived.Test.YtghcddbhllkbmaaGreatR3P3Tq
namespace Go.Proofs.YtghcddbhllkbmaaGreat
open Go Go.E Go.Proofs.Tryz
set_option linter.all false
set_option maxRecDepth 100000
set_option maxHeartbeats 2000000
variable {W w:World} {H:Chunk} {F:List Chunk}
theorem r1_ceil (a:Int) (b:Int) (hab:a<=4611686018427387904/\b<=4611686018427387904) (hS:Sat W w (H::F)):
  Ro prog 78 #[I a,I b] (I (ceilV a b)) W w (H::F):=by
 refine callsK 22 func78 rfl<|jCO 11 rfl<|sD 8 (a<0) (fun a0=>jOR 13 rfl<|retT [I 0]<|(by have hk:ceilV a b=0:=(by unfold ceilV;rw [if_neg om]);exact ⟨by rw [hk];rfl,hS⟩)) fun a0=>jOC 5 rfl<|cD (b<1) (fun b0=>jCR 7 rfl<|retT [I 0]<|(by have hk:ceilV a b=0:=(by unfold ceilV;rw [if_neg om]);exact ⟨by rw [hk];rfl,hS⟩)) fun b0=>jCC 3 rfl ?_
 have ht:a.tdiv b=a/b:=Int.tdiv_eq_ediv_of_nonneg om;have hm:a.tmod b=a%b:=Int.tmod_eq_emod_of_nonneg om;have hd:=tdiv_bd (a:=a) (b:=b) (A:=a) om om;have d0:=Int.emod_nonneg a (by omega:b≠0);have e0:=Int.emod_lt_of_pos a (by omega:0<b)
 refine jCO 3 rfl<|sQuo a b<|jOO 8 rfl<|sRem a b<|jOC 3 rfl<|CD ((a.tmod b)>0) (fun c0=>jCR 9 rfl<|retT [I (a.tdiv b)]<|(by have hk:ceilV a b=(a.tdiv b):=(by unfold ceilV;rw [if_pos om,if_pos (by rw [<-hm];omega),<-ht]);exact ⟨by rw [hk];rfl,hS⟩)) fun c0=>jCO 2 rfl<|sAdd (a.tdiv b) 1<|jOR 10 rfl<|retT [I ((a.tdiv b)+1)] ?_
 have hk:ceilV a b=((a.tdiv b)+1):=by unfold ceilV;rw [if_pos om,if_neg (by rw [<-hm];omega),<-ht]
 exact ⟨by rw [hk];rfl,hS⟩
theorem r1_align (n:Int) (k:Int) (l:Int) (hab:n<=4611686018427387904/\k<=4611686018427387904/\l<=4611686018427387904) (hS:Sat W w (H::F)):
  Ro prog 41 #[I n,I k,I l] (.tuple #[I (alnX n k l), .bool (alnOK n k l)]) W w (H::F):=by
 refine callsK 22 func41 rfl<|jCO 12 rfl<|sD 10 (n<0) (fun a0=>jOR 14 rfl<|retT [I 0, .bool false]<|(by have h1:alnOK n k l=false:=(by unfold alnOK;rw [if_neg om]);have h2:alnX n k l=0:=(by unfold alnX;rw [if_neg om]);exact ⟨by rw [h1,h2];rfl,hS⟩)) fun a0=>jOC 5 rfl<|cD (k<1) (fun b0=>jCR 8 rfl<|retT [I 0, .bool false]<|(by have h1:alnOK n k l=false:=(by unfold alnOK;rw [if_neg om]);have h2:alnX n k l=0:=(by unfold alnX;rw [if_neg om]);exact ⟨by rw [h1,h2];rfl,hS⟩)) fun b0=>jCO 6 rfl<|cS (r1_ceil n k (od) hS.flat) fun _ c0=>pu2<|cS (r1_mul (ceilV n k) k l (od) c0.flat) fun _ d0=>jOR 7 rfl<|retT [I (mulV (ceilV n k) k l), .bool (mulOK (ceilV n k) k l)] ?_
 have h1:alnOK n k l=mulOK (ceilV n k) k l:=by unfold alnOK;rw [if_pos om]
 have h2:alnX n k l=mulV (ceilV n k) k l:=by unfold alnX;rw [if_pos om]
 exact ⟨by rw [h1,h2];rfl,d0⟩
theorem r5_fine (w0:Int) (h0:Int) (tw:Int) (th:Int) (hS:Sat W w (H::F)):
  Ro prog 77 #[I w0,I h0,I tw,I th] (.bool (decide (fineP w0 h0 tw th))) W w (H::F):=by
 refine callsK 39 func77 rfl<|jCO 10 rfl<|SD 11 (w0>=1) (fun a0=>jOR 31 rfl<|retT [.bool false]<|⟨rB (by first|rfl|(rw [Bool.eq_iff_iff];simp only [decide_eq_true_eq,beq_iff_eq,bne_iff_ne,ne_eq,Bool.not_eq_true',decide_eq_false_iff_not,true_iff,false_iff,iff_true,iff_false,Bool.false_eq_true,Bool.and_eq_true,Bool.or_eq_true,gt_iff_lt,ge_iff_le,fineP]<;>omega)|(rw [Bool.eq_iff_iff];simp [fineP, *]<;>omega)|(simp_all;done)),hS⟩) fun a0=>pu4<|SD 15 (w0<=128) (fun b0=>jOR 27 rfl<|retT [.bool false]<|⟨rB (by first|rfl|(rw [Bool.eq_iff_iff];simp only [decide_eq_true_eq,beq_iff_eq,bne_iff_ne,ne_eq,Bool.not_eq_true',decide_eq_false_iff_not,true_iff,false_iff,iff_true,iff_false,Bool.false_eq_true,Bool.and_eq_true,Bool.or_eq_true,gt_iff_lt,ge_iff_le,fineP]<;>omega)|(rw [Bool.eq_iff_iff];simp [fineP, *]<;>omega)|(simp_all;done)),hS⟩) fun b0=>pu4<|SD 19 (h0>=1) (fun c0=>jOR 23 rfl<|retT [.bool false]<|⟨rB (by first|rfl|(rw [Bool.eq_iff_iff];simp only [decide_eq_true_eq,beq_iff_eq,bne_iff_ne,ne_eq,Bool.not_eq_true',decide_eq_false_iff_not,true_iff,false_iff,iff_true,iff_false,Bool.false_eq_true,Bool.and_eq_true,Bool.or_eq_true,gt_iff_lt,ge_iff_le,fineP]<;>omega)|(rw [Bool.eq_iff_iff];simp [fineP, *]<;>omega)|(simp_all;done)),hS⟩) fun c0=>?_
 exact pu4<|SD 23 (h0<=128) (fun d0=>jOR 19 rfl<|retT [.bool false]<|⟨rB (by first|rfl|(rw [Bool.eq_iff_iff];simp only [decide_eq_true_eq,beq_iff_eq,bne_iff_ne,ne_eq,Bool.not_eq_true',decide_eq_false_iff_not,true_iff,false_iff,iff_true,iff_false,Bool.false_eq_true,Bool.and_eq_true,Bool.or_eq_true,gt_iff_lt,ge_iff_le,fineP]<;>omega)|(rw [Bool.eq_iff_iff];simp [fineP, *]<;>omega)|(simp_all;done)),hS⟩) fun d0=>pu4<|SD 27 (tw>=1) (fun e0=>jOR 15 rfl<|retT [.bool false]<|⟨rB (by first|rfl|(rw [Bool.eq_iff_iff];simp only [decide_eq_true_eq,beq_iff_eq,bne_iff_ne,ne_eq,Bool.not_eq_true',decide_eq_false_iff_not,true_iff,false_iff,iff_true,iff_false,Bool.false_eq_true,Bool.and_eq_true,Bool.or_eq_true,gt_iff_lt,ge_iff_le,fineP]<;>omega)|(rw [Bool.eq_iff_iff];simp [fineP, *]<;>omega)|(simp_all;done)),hS⟩) fun e0=>pu4<|SD 31 (tw<=64) (fun f0=>jOR 11 rfl<|retT [.bool false]<|⟨rB (by first|rfl|(rw [Bool.eq_iff_iff];simp only [decide_eq_true_eq,beq_iff_eq,bne_iff_ne,ne_eq,Bool.not_eq_true',decide_eq_false_iff_not,true_iff,false_iff,iff_true,iff_false,Bool.false_eq_true,Bool.and_eq_true,Bool.or_eq_true,gt_iff_lt,ge_iff_le,fineP]<;>omega)|(rw [Bool.eq_iff_iff];simp [fineP, *]<;>omega)|(simp_all;done)),hS⟩) fun f0=>pu4<|SD 35 (th>=1) (fun g0=>jOR 7 rfl<|retT [.bool false]<|⟨rB (by first|rfl|(rw [Bool.eq_iff_iff];simp only [decide_eq_true_eq,beq_iff_eq,bne_iff_ne,ne_eq,Bool.not_eq_true',decide_eq_false_iff_not,true_iff,false_iff,iff_true,iff_false,Bool.false_eq_true,Bool.and_eq_true,Bool.or_eq_true,gt_iff_lt,ge_iff_le,fineP]<;>omega)|(rw [Bool.eq_iff_iff];simp [fineP, *]<;>omega)|(simp_all;done)),hS⟩) fun g0=>jOR 7 rfl<|retT [.bool (decide ((th:Int)<=64))]<|⟨rB (by first|rfl|(rw [Bool.eq_iff_iff];simp only [decide_eq_true_eq,beq_iff_eq,bne_iff_ne,ne_eq,Bool.not_eq_true',decide_eq_false_iff_not,true_iff,false_iff,iff_true,iff_false,Bool.false_eq_true,Bool.and_eq_true,Bool.or_eq_true,gt_iff_lt,ge_iff_le,fineP]<;>omega)|(rw [Bool.eq_iff_iff];simp [fineP, *]<;>omega)|(simp_all;done)),hS⟩
theorem r5_count (w0:Int) (h0:Int) (tw:Int) (th:Int) (hS:Sat W w (H::F)):
  Ro prog 38 #[I w0,I h0,I tw,I th] (.tuple #[I (colsN w0 h0 tw th),I (rowsN w0 h0 tw th)]) W w (H::F):=by
 refine callsK 22 func38 rfl<|jCO 13 rfl<|cS (r5_fine w0 h0 tw th hS.flat) fun _ a0=>jOC 3 rfl<|CDn (fineP w0 h0 tw th) (fun b0=>jCR 8 rfl<|retT [I 0,I 0]<|(by have hk:=cols_no (w:=w0) (h:=h0) (tw:=tw) (th:=th) (by first|assumption|(unfold fineP;omega));exact ⟨by rw [hk.1,hk.2];rfl,a0⟩)) fun b0=>jCC 3 rfl ?_
 have e0:=b0;unfold fineP at e0
 refine jCO 3 rfl<|cS (r1_ceil w0 tw (od) a0.flat) fun _ c0=>pu2<|cS (r1_ceil h0 th (od) c0.flat) fun _ d0=>jOR 5 rfl<|retT [I (ceilV w0 tw),I (ceilV h0 th)] ?_
 have hf:fineP w0 h0 tw th:=by first|assumption|(unfold fineP;omega)
 have h1:colsN w0 h0 tw th=ceilV w0 tw:=by (unfold colsN;rw [if_pos hf])
 have h2:rowsN w0 h0 tw th=ceilV h0 th:=by (unfold rowsN;rw [if_pos hf])
 exact ⟨by rw [h1,h2];rfl,d0⟩
theorem r2_coord (n:Int) (hS:Sat W w (H::F)):
  Ro prog 116 #[I n] (.bool (decide (-(1048576:Int)<=n/\n<=1048576))) W w (H::F):=by
 exact callsK 9 func116 rfl<|jCO 10 rfl<|SD 5 (n>=(-1048576)) (fun a0=>jOR 7 rfl<|retT [.bool false]<|⟨rB bq,hS⟩) fun a0=>jOR 7 rfl<|retT [.bool (decide ((n:Int)<=1048576))]<|⟨rB bq,hS⟩
theorem r2_empty (r:Rct) (hS:Sat W w (H::F)):
  Ro prog 117 #[.agg (encRct r).toArray] (.bool (decide (r.x0=0/\r.y0=0/\r.x1=0/\r.y1=0))) W w (H::F):=by
 exact callsK 6 func117 rfl<|jCO 2 rfl<|sBx hS (encRct r) fun _ _ a0=>gOO a0 7 [400] rfl<|stepY (.bool (((r.x0:Int)==0)&&((r.y0:Int)==0)&&((r.x1:Int)==0)&&((r.y1:Int)==0))) rfl rfl (Y_eqS rfl kr kr (eqve45 _ r.x0 r.y0 r.x1 r.y1 0 0 0 0))<|jOR 4 rfl<|retT [.bool (((r.x0:Int)==0)&&((r.y0:Int)==0)&&((r.x1:Int)==0)&&((r.y1:Int)==0))]<|⟨rB bq,(a0.dropAt 0 rfl)⟩
theorem r2_valid (r:Rct) (hS:Sat W w (H::F)):
  Ro prog 71 #[.agg (encRct r).toArray] (.bool (decide (rvP r))) W w (H::F):=by
 refine callsK 40 func71 rfl<|jCO 2 rfl<|sBx hS (encRct r) fun _ _ b0=>gOO b0 7 [400] rfl<|stepY (.bool (((r.x0:Int)==0)&&((r.y0:Int)==0)&&((r.x1:Int)==0)&&((r.y1:Int)==0))) rfl rfl (Y_eqS rfl kr kr (eqve45 _ r.x0 r.y0 r.x1 r.y1 0 0 0 0))<|pu1<|bD ((r.x0:Int)=0/\(r.y0:Int)=0/\(r.x1:Int)=0/\(r.y1:Int)=0) (fun f0=>sFix 6 _ true (show (((r.x0:Int)==0)&&((r.y0:Int)==0)&&((r.x1:Int)==0)&&((r.y1:Int)==0))=true from by simpa [and_assoc] using f0)<|jOR 37 rfl<|retT [.bool true]<|⟨rB (by first|rfl|(rw [Bool.eq_iff_iff];simp only [decide_eq_true_eq,beq_iff_eq,bne_iff_ne,ne_eq,Bool.not_eq_true',decide_eq_false_iff_not,true_iff,false_iff,iff_true,iff_false,Bool.false_eq_true,Bool.and_eq_true,Bool.or_eq_true,gt_iff_lt,ge_iff_le,rvP,cooP]<;>omega)|(rw [Bool.eq_iff_iff];simp [rvP,cooP, *]<;>omega)|(simp_all;done)),(b0.dropAt 0 rfl)⟩) fun f0=>sFix 6 _ false (show (((r.x0:Int)==0)&&((r.y0:Int)==0)&&((r.x1:Int)==0)&&((r.y1:Int)==0))=false from by rw [<-Bool.not_eq_true];intro h_;exact f0 (by simpa [and_assoc] using h_))<|gOO b0 2 [0] rfl<|gY<|cS (r2_coord r.x0 b0.flat) fun _ c0=>pu1<|SD 10 (-(1048576:Int)<=r.x0/\r.x0<=1048576) (fun h0=>jOR 33 rfl<|retT [.bool false]<|⟨rB (by first|rfl|(rw [Bool.eq_iff_iff];simp only [decide_eq_true_eq,beq_iff_eq,bne_iff_ne,ne_eq,Bool.not_eq_true',decide_eq_false_iff_not,true_iff,false_iff,iff_true,iff_false,Bool.false_eq_true,Bool.and_eq_true,Bool.or_eq_true,gt_iff_lt,ge_iff_le,rvP,cooP]<;>omega)|(rw [Bool.eq_iff_iff];simp [rvP,cooP, *]<;>omega)|(simp_all;done)),(c0.dropAt 0 rfl)⟩) fun h0=>?_
 refine gOO c0 2 [0] rfl<|gY<|cS (r2_coord r.y0 c0.flat) fun _ d0=>pu2<|SD 15 (-(1048576:Int)<=r.y0/\r.y0<=1048576) (fun j0=>jOR 28 rfl<|retT [.bool false]<|⟨rB (by first|rfl|(rw [Bool.eq_iff_iff];simp only [decide_eq_true_eq,beq_iff_eq,bne_iff_ne,ne_eq,Bool.not_eq_true',decide_eq_false_iff_not,true_iff,false_iff,iff_true,iff_false,Bool.false_eq_true,Bool.and_eq_true,Bool.or_eq_true,gt_iff_lt,ge_iff_le,rvP,cooP]<;>omega)|(rw [Bool.eq_iff_iff];simp [rvP,cooP, *]<;>omega)|(simp_all;done)),(d0.dropAt 0 rfl)⟩) fun j0=>gOO d0 2 [0] rfl<|gY<|cS (r2_coord r.x1 d0.flat) fun _ e0=>pu2<|SD 20 (-(1048576:Int)<=r.x1/\r.x1<=1048576) (fun l0=>jOR 23 rfl<|retT [.bool false]<|⟨rB (by first|rfl|(rw [Bool.eq_iff_iff];simp only [decide_eq_true_eq,beq_iff_eq,bne_iff_ne,ne_eq,Bool.not_eq_true',decide_eq_false_iff_not,true_iff,false_iff,iff_true,iff_false,Bool.false_eq_true,Bool.and_eq_true,Bool.or_eq_true,gt_iff_lt,ge_iff_le,rvP,cooP]<;>omega)|(rw [Bool.eq_iff_iff];simp [rvP,cooP, *]<;>omega)|(simp_all;done)),(e0.dropAt 0 rfl)⟩) fun l0=>gOO e0 2 [0] rfl<|gY<|cS (r2_coord r.y1 e0.flat) fun _ a0=>pu2<|SD 25 (-(1048576:Int)<=r.y1/\r.y1<=1048576) (fun n0=>jOR 18 rfl<|retT [.bool false]<|⟨rB (by first|rfl|(rw [Bool.eq_iff_iff];simp only [decide_eq_true_eq,beq_iff_eq,bne_iff_ne,ne_eq,Bool.not_eq_true',decide_eq_false_iff_not,true_iff,false_iff,iff_true,iff_false,Bool.false_eq_true,Bool.and_eq_true,Bool.or_eq_true,gt_iff_lt,ge_iff_le,rvP,cooP]<;>omega)|(rw [Bool.eq_iff_iff];simp [rvP,cooP, *]<;>omega)|(simp_all;done)),(a0.dropAt 0 rfl)⟩) fun n0=>?_
 exact gOO a0 7 [0,0] rfl<|SD 32 (r.x0<r.x1) (fun p0=>jOR 11 rfl<|retT [.bool false]<|⟨rB (by first|rfl|(rw [Bool.eq_iff_iff];simp only [decide_eq_true_eq,beq_iff_eq,bne_iff_ne,ne_eq,Bool.not_eq_true',decide_eq_false_iff_not,true_iff,false_iff,iff_true,iff_false,Bool.false_eq_true,Bool.and_eq_true,Bool.or_eq_true,gt_iff_lt,ge_iff_le,rvP,cooP]<;>omega)|(rw [Bool.eq_iff_iff];simp [rvP,cooP, *]<;>omega)|(simp_all;done)),(a0.dropAt 0 rfl)⟩) fun p0=>gOR a0 11 [0,0] rfl<|retT [.bool (decide (r.y0<r.y1))]<|⟨rB (by first|rfl|(rw [Bool.eq_iff_iff];simp only [decide_eq_true_eq,beq_iff_eq,bne_iff_ne,ne_eq,Bool.not_eq_true',decide_eq_false_iff_not,true_iff,false_iff,iff_true,iff_false,Bool.false_eq_true,Bool.and_eq_true,Bool.or_eq_true,gt_iff_lt,ge_iff_le,rvP,cooP]<;>omega)|(rw [Bool.eq_iff_iff];simp [rvP,cooP, *]<;>omega)|(simp_all;done)),(a0.dropAt 0 rfl)⟩
theorem r2_full (r:Rct) (hS:Sat W w (H::F)):
  Ro prog 79 #[.agg (encRct r).toArray] (.bool (decide (rvP r/\¬(r.x0=0/\r.y0=0/\r.x1=0/\r.y1=0)))) W w (H::F):=by
 exact callsK 10 func79 rfl<|jCO 2 rfl<|sBx hS (encRct r) fun _ _ b0=>gOO b0 6 [400] rfl<|cS (r2_valid r b0.flat) fun _ a0=>pu1<|SD 5 (rvP r) (fun c0=>jOR 8 rfl<|retT [.bool false]<|⟨rB bs,(a0.dropAt 0 rfl)⟩) fun c0=>gOO a0 1 [400] rfl<|gY<|cS (r2_empty r a0.flat) fun _ e0=>jOR 6 rfl<|retT [.bool (!decide (r.x0=0/\r.y0=0/\r.x1=0/\r.y1=0))]<|⟨rB bs,(e0.dropAt 0 rfl)⟩
theorem r5_tile (w0:Int) (h0:Int) (tw:Int) (th:Int) (i:Int) (hf:fineP w0 h0 tw th) (hi:0<=i/\i<(colsN w0 h0 tw th)*(rowsN w0 h0 tw th)) (hS:Sat W w (H::F)):
  Ro prog 39 #[I w0,I h0,I tw,I th,I i] (.tuple #[.agg #[I ((tileV w0 h0 tw th i).x0),I ((tileV w0 h0 tw th i).y0),I ((tileV w0 h0 tw th i).x1),I ((tileV w0 h0 tw th i).y1)], .bool true]) W w (H::F):=by
 have hb:=cols_bd hf;have hq:=tile_ix hb.1.1 hi.1 hi.2;have hp:=mul_bd (a:=(colsN w0 h0 tw th)) (b:=(rowsN w0 h0 tw th)) (A:=128) (B:=128) om om;have e1:(i.tmod (colsN w0 h0 tw th))=i%(colsN w0 h0 tw th):=Int.tmod_eq_emod_of_nonneg hi.1;have e2:(i.tdiv (colsN w0 h0 tw th))=i/(colsN w0 h0 tw th):=Int.tdiv_eq_ediv_of_nonneg hi.1;have j0:=hf;unfold fineP at j0;have k0:=mul_bd (a:=i.tmod (colsN w0 h0 tw th)) (b:=tw) (A:=128) (B:=64) om om;have l0:=mul_bd (a:=i.tdiv (colsN w0 h0 tw th)) (b:=th) (A:=128) (B:=64) om om
 exact callsK 57 func39 rfl<|jCO 2 rfl<|sAlloc hS zeroValue45 fun _ _ e0=>jOO 9 rfl<|cS (r5_count w0 h0 tw th e0.flat) fun _ a0=>jOO 13 rfl<|sD 26 (i<0) (fun f0=>jOO 12 rfl<|sTk a0 0 rfl [I 0,I 0,I 0,I 0] fun _ b0=>jOR 5 rfl<|retD b0 0 [I 0,I 0,I 0,I 0] (.bool false)<|(by have o0:=(b0.dropAt 0 rfl);first|omega|(exfalso;omega))) fun f0=>pu3<|gY<|sMul (colsN w0 h0 tw th) (rowsN w0 h0 tw th)<|jOC 4 rfl<|cD (i>=((colsN w0 h0 tw th)*(rowsN w0 h0 tw th))) (fun g0=>jCO 3 rfl<|sTk a0 0 rfl [I 0,I 0,I 0,I 0] fun _ c0=>jOR 5 rfl<|retD c0 0 [I 0,I 0,I 0,I 0] (.bool false)<|(by have q0:=(c0.dropAt 0 rfl);first|omega|(exfalso;omega))) fun g0=>jCC 3 rfl<|drawF a0 [] (fn) [0,1,2,3,4,5,6,7,8,9,10,11] fun _ i0=>wV 2<|wRem i (colsN w0 h0 tw th)<|wV 1<|wMul (i.tmod (colsN w0 h0 tw th)) tw<|wV 2<|wQuo i (colsN w0 h0 tw th)<|wV 1<|wMul (i.tdiv (colsN w0 h0 tw th)) th<|wV 2<|wN<|jXO 7 rfl<|sAdd ((i.tmod (colsN w0 h0 tw th))*tw) tw<|pu1<|stepY (I (min (((i.tmod (colsN w0 h0 tw th))*tw)+tw) w0)) rfl rfl (Y_min2 (((i.tmod (colsN w0 h0 tw th))*tw)+tw) w0 rfl rfl kr kr)<|pu2<|sAdd ((i.tdiv (colsN w0 h0 tw th))*th) th<|pu1<|stepY (I (min (((i.tdiv (colsN w0 h0 tw th))*th)+th) h0)) rfl rfl (Y_min2 (((i.tdiv (colsN w0 h0 tw th))*th)+th) h0 rfl rfl kr kr)<|pu1<|sTk i0 0 rfl [I ((i.tmod (colsN w0 h0 tw th))*tw),I ((i.tdiv (colsN w0 h0 tw th))*th),I (min (((i.tmod (colsN w0 h0 tw th))*tw)+tw) w0),I (min (((i.tdiv (colsN w0 h0 tw th))*th)+th) h0)] fun _ d0=>jOR 4 rfl<|retD d0 0 [I ((i.tmod (colsN w0 h0 tw th))*tw),I ((i.tdiv (colsN w0 h0 tw th))*th),I (min (((i.tmod (colsN w0 h0 tw th))*tw)+tw) w0),I (min (((i.tdiv (colsN w0 h0 tw th))*th)+th) h0)] (.bool true)<|⟨by unfold tileV;rw [<-e1,<-e2];rfl,(d0.dropAt 0 rfl)⟩
theorem r3_mod (i:Int) (n:Int) (hn:1<=n/\n<=4611686018427387904) (hS:Sat W w (H::F)):
  Ro prog 185 #[I i,I n] (I (i%n)) W w (H::F):=by
 have b0:=Int.tmod_lt_of_pos i (by omega:0<n);have c0:=Int.lt_tmod_of_pos i (by omega:0<n)
 exact callsK 15 func185 rfl<|jCO 9 rfl<|sRem i n<|jOC 10 rfl<|CD ((i.tmod n)<0) (fun a0=>jCR 9 rfl<|retT [I (i.tmod n)]<|(by have hk:=mod_emod (i:=i) (n:=n) om;rw [if_neg om] at hk;exact ⟨by rw [<-hk];rfl,hS⟩)) fun a0=>jCO 3 rfl<|sAdd (i.tmod n) n<|jOR 10 rfl<|retT [I ((i.tmod n)+n)]<|(by have hk:=mod_emod (i:=i) (n:=n) om;rw [if_pos om] at hk;exact ⟨by rw [<-hk];rfl,hS⟩)
theorem r3_index (i:Int) (n:Int) (p:Int) (hS:Sat W w (H::F)):
  Ro prog 155 #[I i,I n,I p] (.tuple #[I ((idxV i n p).getD 0), .bool ((idxV i n p).isSome)]) W w (H::F):=by
 refine callsK 56 func155 rfl<|jCO 12 rfl<|sD 11 (n<1) (fun b0=>jOR 14 rfl<|retT [I 0, .bool false]<|(by have hk:idxV i n p=none:=(by unfold idxV;(repeat' split)<;>first|rfl|(exfalso;omega));exact ⟨by rw [hk];rfl,hS⟩)) fun b0=>jOC 5 rfl<|cD (n>128) (fun c0=>jCR 8 rfl<|retT [I 0, .bool false]<|(by have hk:idxV i n p=none:=(by unfold idxV;(repeat' split)<;>first|rfl|(exfalso;omega));exact ⟨by rw [hk];rfl,hS⟩)) fun c0=>jCC 15 rfl<|cE p 0 (fun d0=>jCO 3 rfl<|stepY (I (max i 0)) rfl rfl (Y_max2 i 0 rfl rfl kr kr)<|pu1<|sSub n 1<|stepY (I (min (max i 0) (n-1))) rfl rfl (Y_min2 (max i 0) (n-1) rfl rfl kr kr)<|jOR 7 rfl<|retT [I (min (max i 0) (n-1)), .bool true]<|(by have hk:idxV i n p=some (min (max i 0) (n-1)):=(by unfold idxV;(repeat' split)<;>first|rfl|(exfalso;omega)|(congr 1;omega));exact ⟨by rw [hk];rfl,hS⟩)) fun d0=>jCC 6 rfl<|cE p 1 (fun e0=>jCO 5 rfl<|sMul 2 n<|cS (r3_mod i (2*n) (od) hS.flat) fun _ a0=>(by have m0:=Int.emod_nonneg i (by omega:((2*n):Int)≠0);have n0:=Int.emod_lt_of_pos i (by omega:(0:Int)<(2*n));refine jOC 10 rfl<|cD ((i%(2*n))>=n) (fun f0=>jCO 3 rfl<|sMul 2 n<|sSub (2*n) 1<|pu1<|sSub ((2*n)-1) (i%(2*n))<|jOR 8 rfl<|retT [I (((2*n)-1)-(i%(2*n))), .bool true]<|(by have hk:idxV i n p=some (((2*n)-1)-(i%(2*n))):=(by unfold idxV;(repeat' split)<;>first|rfl|(exfalso;omega)|(congr 1;omega));exact ⟨by rw [hk];rfl,a0⟩)) fun f0=>jCO 6 rfl<|sMul 2 n<|cS (r3_mod i (2*n) (od) a0.flat) fun _ g0=>?_;have m0:=Int.emod_nonneg i (by omega:((2*n):Int)≠0);have n0:=Int.emod_lt_of_pos i (by omega:(0:Int)<(2*n));refine jOR 7 rfl<|retT [I (i%(2*n)), .bool true] ?_;have hk:idxV i n p=some (i%(2*n)):=(by unfold idxV;(repeat' split)<;>first|rfl|(exfalso;omega)|(congr 1;omega));exact ⟨by rw [hk];rfl,g0⟩)) fun e0=>?_
 refine jCC 6 rfl<|cE p 2 (fun h0=>jCO 4 rfl<|cS (r3_mod i n (od) hS.flat) fun _ i0=>(by have m0:=Int.emod_nonneg i (by omega:(n:Int)≠0);have n0:=Int.emod_lt_of_pos i (by omega:(0:Int)<n);refine jOR 7 rfl<|retT [I (i%n), .bool true] ?_;have hk:idxV i n p=some (i%n):=(by unfold idxV;(repeat' split)<;>first|rfl|(exfalso;omega)|(congr 1;omega));exact ⟨by rw [hk];rfl,i0⟩)) fun h0=>?_
 refine jCC 6 rfl<|CE p 3 (fun j0=>jCR 10 rfl<|retT [I 0, .bool false]<|(by have hk:idxV i n p=none:=(by unfold idxV;(repeat' split)<;>first|rfl|(exfalso;omega));exact ⟨by rw [hk];rfl,hS⟩)) fun j0=>jCO 5 rfl<|SD 50 (i>=0) (fun k0=>jOR 17 rfl<|retT [I 0, .bool false]<|(by have hk:idxV i n p=none:=(by unfold idxV;(repeat' split)<;>first|rfl|(exfalso;omega));exact ⟨by rw [hk];rfl,hS⟩)) fun k0=>jOC 6 rfl<|CD (i<n) (fun l0=>jCR 10 rfl<|retT [I 0, .bool false]<|(by have hk:idxV i n p=none:=(by unfold idxV;(repeat' split)<;>first|rfl|(exfalso;omega));exact ⟨by rw [hk];rfl,hS⟩)) fun l0=>jCR 10 rfl<|retT [I i, .bool true] ?_
 have hk:idxV i n p=some i:=by unfold idxV;(repeat' split)<;>first|rfl|(exfalso;omega)|(congr 1;omega)
 exact ⟨by rw [hk];rfl,hS⟩
theorem r16_taps (ax:Option Addr) (nx kx:Nat) (x:List Tap) (hx:RdT encTap 2 [H] ax nx kx x) (dx:∀z∈x,Tap.Ok [H] z) (hS:Sat W w (H::F)):
  Ro prog 184 #[.slice ax nx kx] (.bool ((x.map Tap.v).all tapP)) W w (H::F):=by
 have q0:=hx.ll
 refine callsK 33 func184 rfl<|jCC 12 rfl<|loopF [0] (γ:=Nat) (fun i R=>⟨[(3,I (i:Int))],R,nx-i,i<=nx/\(((x.map Tap.v).take i).all tapP=true)⟩) 0 ⟨hS,om,by rfl⟩ ?_
 rintro i ρ _ ⟨c0,hi,hE⟩
 refine jCC 9 rfl<|CD ((i:Int)<(nx:Int)) (fun f0=>jCR 11 rfl<|retT [.bool true]<|⟨by rw [all_of_take hE (by rw [List.length_map];omega)];rfl,c0⟩) fun f0=>jCO 8 rfl<|sIN hx i fun a0 _ _ b0 g0=>?_
 have p0:=(dx a0 (List.mem_of_getElem? b0)).weights.len;have o0:=(dx a0 (List.mem_of_getElem? b0)).weights.le
 refine pu1<|sMp c0 (g0.up 0 rfl) 1 (.slice a0.weights.a a0.weights.n a0.weights.k)<|pu3<|sD 17 ((a0.weights.n:Int)>8) (fun h0=>jOR 29 rfl<|retT [.bool false]<|⟨by rw [all_false_at (map_at (f:=Tap.v) b0) (decide_eq_false (by simp only [Tap.v];omega))];rfl,c0⟩) fun h0=>pu2<|gY<|sIN hx i fun i0 _ _ d0 j0=>?_
 obtain rfl:a0=i0:=Option.some.inj (b0.symm.trans d0)
 have p0:=(dx a0 (List.mem_of_getElem? d0)).weights.len;have o0:=(dx a0 (List.mem_of_getElem? d0)).weights.le
 refine pu1<|gY<|sMp c0 (j0.up 0 rfl) 0 (I a0.first)<|pu3<|sD 25 (a0.first<(-128)) (fun k0=>jOR 21 rfl<|retT [.bool false]<|⟨by rw [all_false_at (map_at (f:=Tap.v) b0) (decide_eq_false (by simp only [Tap.v];omega))];rfl,c0⟩) fun k0=>pu2<|gY<|sIN hx i fun l0 _ _ e0 m0=>?_
 obtain rfl:a0=l0:=Option.some.inj (b0.symm.trans e0)
 have p0:=(dx a0 (List.mem_of_getElem? e0)).weights.len;have o0:=(dx a0 (List.mem_of_getElem? e0)).weights.le
 exact pu1<|gY<|sMp c0 (m0.up 0 rfl) 0 (I a0.first)<|jOC 4 rfl<|cD (a0.first>256) (fun n0=>jCR 11 rfl<|retT [.bool false]<|⟨by rw [all_false_at (map_at (f:=Tap.v) b0) (decide_eq_false (by simp only [Tap.v];omega))];rfl,c0⟩) fun n0=>jCO 5 rfl<|sAdd (i:Int) 1<|jOI 2 rfl<|⟨i+1,od,alB,c0,om,all_succ hE (map_at (f:=Tap.v) b0) (decide_eq_true (by simp only [Tap.v];omega))⟩
theorem r16_fine (q:Stage) (n:Int) (fr:Int) (up:Int) (hq:Stage.Ok [H] q) (hS:Sat W w (H::F)):
  Ro prog 153 #[.agg (encStage q).toArray,I n,I fr,I up] (.bool (decide (lenP n fr up/\accV q.v))) W w (H::F):=by
 have E0:=hq.weights.ll
 have J0:=hq.row.le;have C0:=hq.row.len
 have H0:=hq.col.le;have B0:=hq.col.len
 have M0:=hq.x.le;have F0:=hq.x.len
 have N0:=hq.y.le;have G0:=hq.y.len
 have I0:=hq.ops.ll
 have L0:=C0;have K0:=B0;have O0:=F0;have P0:=G0
 refine callsK 70 func153 rfl<|jCO 2 rfl<|sBx hS (encStage q) fun _ _ c0=>jOO 9 rfl<|sD 11 (n<1) (fun k0=>jOR 34 rfl<|retT [.bool false]<|(by have l0:=(c0.dropAt 0 rfl);have hk:decide (lenP n fr up/\accV q.v)=false:=decide_eq_false (fun h=>by have h1:=h.1;unfold lenP at h1;omega);exact ⟨by rw [hk];rfl,l0⟩)) fun k0=>pu4<|sD 15 (n>128) (fun m0=>jOR 30 rfl<|retT [.bool false]<|(by have n0:=(c0.dropAt 0 rfl);have hk:decide (lenP n fr up/\accV q.v)=false:=decide_eq_false (fun h=>by have h1:=h.1;unfold lenP at h1;omega);exact ⟨by rw [hk];rfl,n0⟩)) fun m0=>pu4<|sD 19 (fr<0) (fun o0=>jOR 26 rfl<|retT [.bool false]<|(by have p0:=(c0.dropAt 0 rfl);have hk:decide (lenP n fr up/\accV q.v)=false:=decide_eq_false (fun h=>by have h1:=h.1;unfold lenP at h1;omega);exact ⟨by rw [hk];rfl,p0⟩)) fun o0=>pu4<|sD 23 (fr>128) (fun q0=>jOR 22 rfl<|retT [.bool false]<|(by have r0:=(c0.dropAt 0 rfl);have hk:decide (lenP n fr up/\accV q.v)=false:=decide_eq_false (fun h=>by have h1:=h.1;unfold lenP at h1;omega);exact ⟨by rw [hk];rfl,r0⟩)) fun q0=>pu4<|sD 27 (up<0) (fun s0=>jOR 18 rfl<|retT [.bool false]<|(by have t0:=(c0.dropAt 0 rfl);have hk:decide (lenP n fr up/\accV q.v)=false:=decide_eq_false (fun h=>by have h1:=h.1;unfold lenP at h1;omega);exact ⟨by rw [hk];rfl,t0⟩)) fun s0=>pu4<|sD 31 (up>128) (fun u0=>jOR 14 rfl<|retT [.bool false]<|(by have v0:=(c0.dropAt 0 rfl);have hk:decide (lenP n fr up/\accV q.v)=false:=decide_eq_false (fun h=>by have h1:=h.1;unfold lenP at h1;omega);exact ⟨by rw [hk];rfl,v0⟩)) fun u0=>?_
 refine gOO c0 1 [1800] rfl<|gY<|cS (r15_fields q (hq.of_mem (mF 1)) c0.flat) fun _ a0=>jOC 4 rfl<|CDn (fieldsP q.v) (fun b0=>jCR 7 rfl<|retT [.bool false]<|(by have w0:=(a0.dropAt 0 rfl);have hk:decide (lenP n fr up/\accV q.v)=false:=decide_eq_false (fun h=>b0 h.2.1);exact ⟨by rw [hk];rfl,w0⟩)) fun b0=>gCC a0 16 [0] rfl<|cE q.kind 1 (fun d0=>gCO a0 4 [0] rfl<|cS (r9_side q.kW a0.flat) fun _ e0=>pu1<|SD 43 ((1:Int)<=q.kW/\q.kW<=(9:Int)) (fun x0=>jOR 10 rfl<|retT [.bool false]<|(by have y0:=(e0.dropAt 0 rfl);have D0:lenP n fr up:=(by unfold lenP;omega);have A0:=acc1 (s:=q.v) b0 (show q.v.kind=1 from d0);have hk:decide (lenP n fr up/\accV q.v)=false:=decide_eq_false (fun h=>by have h1:=A0.1 h.2;unfold kerP at h1;simp only [Stage.v,L0,K0] at h1;omega);exact ⟨by rw [hk];rfl,y0⟩)) fun x0=>gOO e0 2 [0] rfl<|gY<|cS (r9_side q.kH e0.flat) fun _ z0=>jOR 7 rfl<|retT [.bool (decide ((1:Int)<=q.kH/\q.kH<=(9:Int)))]<|(by have a1:=(z0.dropAt 0 rfl);have D0:lenP n fr up:=(by unfold lenP;omega);have A0:=acc1 (s:=q.v) b0 (show q.v.kind=1 from d0);have hk:decide (lenP n fr up/\accV q.v)=decide ((1:Int)<=q.kH/\q.kH<=(9:Int)):=(by rw [Bool.eq_iff_iff,decide_eq_true_eq,and_iff_right D0,A0];unfold kerP;simp only [Stage.v,L0,K0,decide_eq_true_eq,Bool.false_eq_true];omega);exact ⟨by rw [hk];rfl,a1⟩)) fun d0=>?_
 refine jCC 6 rfl<|cE q.kind 2 (fun f0=>gCO a0 5 [0] rfl<|cS (r9_side (q.row.n:Int) a0.flat) fun _ g0=>pu1<|SD 54 ((1:Int)<=(q.row.n:Int)/\(q.row.n:Int)<=(9:Int)) (fun b1=>jOR 11 rfl<|retT [.bool false]<|(by have c1:=(g0.dropAt 0 rfl);have D0:lenP n fr up:=(by unfold lenP;omega);have A0:=acc2 (s:=q.v) b0 (show q.v.kind=2 from f0);have hk:decide (lenP n fr up/\accV q.v)=false:=decide_eq_false (fun h=>by have h1:=A0.1 h.2;unfold kerP at h1;simp only [Stage.v,L0,K0] at h1;omega);exact ⟨by rw [hk];rfl,c1⟩)) fun b1=>gOO g0 3 [0] rfl<|gY<|cS (r9_side (q.col.n:Int) g0.flat) fun _ d1=>jOR 7 rfl<|retT [.bool (decide ((1:Int)<=(q.col.n:Int)/\(q.col.n:Int)<=(9:Int)))]<|(by have e1:=(d1.dropAt 0 rfl);have D0:lenP n fr up:=(by unfold lenP;omega);have A0:=acc2 (s:=q.v) b0 (show q.v.kind=2 from f0);have hk:decide (lenP n fr up/\accV q.v)=decide ((1:Int)<=(q.col.n:Int)/\(q.col.n:Int)<=(9:Int)):=(by rw [Bool.eq_iff_iff,decide_eq_true_eq,and_iff_right D0,A0];unfold kerP;simp only [Stage.v,L0,K0,decide_eq_true_eq,Bool.false_eq_true];omega);exact ⟨by rw [hk];rfl,e1⟩)) fun f0=>?_
 refine jCC 6 rfl<|CE q.kind 3 (fun h0=>jCR 9 rfl<|retT [.bool true]<|(by have f1:=(a0.dropAt 0 rfl);have D0:lenP n fr up:=(by unfold lenP;omega);have A0:=acc0 (s:=q.v) b0 (show ¬q.v.kind=1 by simp only [Stage.v];omega) (show ¬q.v.kind=2 by simp only [Stage.v];omega) (show ¬q.v.kind=3 by simp only [Stage.v];omega);have hk:decide (lenP n fr up/\accV q.v)=true:=decide_eq_true ⟨D0,A0⟩;exact ⟨by rw [hk];rfl,f1⟩)) fun h0=>gCO a0 4 [0] rfl<|cS (r16_taps q.x.a q.x.n q.x.k q.x.l (hq.x.fl 1) (fun z hz=>(hq.xD z hz).of_mem (mF 1)) a0.flat) fun _ i0=>pu1<|SB 65 ((q.x.l.map Tap.v).all tapP) (fun j0=>jOR 10 rfl<|retT [.bool false]<|(by have g1:=(i0.dropAt 0 rfl);have D0:lenP n fr up:=(by unfold lenP;omega);have A0:=acc3 (s:=q.v) b0 (show q.v.kind=3 from h0);have hk:decide (lenP n fr up/\accV q.v)=false:=decide_eq_false (fun h=>by have h1:=A0.1 h.2;first|exact j0 h1.1|exact j0 h1.2);exact ⟨by rw [hk];rfl,g1⟩)) fun j0=>gOO i0 2 [0] rfl<|gY<|cS (r16_taps q.y.a q.y.n q.y.k q.y.l (hq.y.fl 1) (fun z hz=>(hq.yD z hz).of_mem (mF 1)) i0.flat) fun _ i1=>jOR 7 rfl<|retT [.bool ((q.y.l.map Tap.v).all tapP)] ?_
 have j1:=(i1.dropAt 0 rfl)
 have D0:lenP n fr up:=by unfold lenP;omega
 have A0:=acc3 (s:=q.v) b0 (show q.v.kind=3 from h0)
 have hk:decide (lenP n fr up/\accV q.v)=((q.y.l.map Tap.v).all tapP):=by rw [Bool.eq_iff_iff,decide_eq_true_eq,and_iff_right D0,A0];simp only [Stage.v];simp_all
 exact ⟨by rw [hk];rfl,j1⟩
theorem r16_win (kd:Int) (i:Int) (sz:Int) (atb:Option Addr) (ntb ktb:Nat) (tb:List Tap) (htb:RdT encTap 2 [H] atb ntb ktb tb) (dtb:∀z∈tb,Tap.Ok [H] z) (hs:(¬(kd=1\/kd=2)\/(1<=sz/\sz<=9))/\0<=i/\i<=1000) (hS:Sat W w (H::F)):
  Ro prog 154 #[I kd,I i,I sz, .slice atb ntb ktb] (.tuple #[I (winF kd i sz (tb.map Tap.v)),I (winC kd i sz (tb.map Tap.v))]) W w (H::F):=by
 have n0:=htb.ll
 refine callsK 37 func154 rfl<|jCC 20 rfl<|cE kd 1 (fun c0=>jCC 2 rfl<|cT _ (beq_iff_eq.2 c0)<|jCC 1 rfl<|(by have ht:sz.tdiv 2=sz/2:=Int.tdiv_eq_ediv_of_nonneg om;refine jCO 3 rfl<|sQuo sz 2<|sSub i (sz.tdiv 2)<|jOR 8 rfl<|retT [I (i-(sz.tdiv 2)),I sz] ?_;have h1:winF kd i sz (tb.map Tap.v)=(i-(sz.tdiv 2)):=(by unfold winF;rw [if_pos om,ht]);have h2:winC kd i sz (tb.map Tap.v)=sz:=(by unfold winC;rw [if_pos om]);exact ⟨by rw [h1,h2];rfl,hS⟩)) fun c0=>?_
 refine jCC 5 rfl<|cE kd 2 (fun f0=>jCC 1 rfl<|(by have ht:sz.tdiv 2=sz/2:=Int.tdiv_eq_ediv_of_nonneg om;refine jCO 3 rfl<|sQuo sz 2<|sSub i (sz.tdiv 2)<|jOR 8 rfl<|retT [I (i-(sz.tdiv 2)),I sz] ?_;have h1:winF kd i sz (tb.map Tap.v)=(i-(sz.tdiv 2)):=(by unfold winF;rw [if_pos om,ht]);have h2:winC kd i sz (tb.map Tap.v)=sz:=(by unfold winC;rw [if_pos om]);exact ⟨by rw [h1,h2];rfl,hS⟩)) fun f0=>?_
 refine jCC 6 rfl<|CE kd 3 (fun g0=>jCR 11 rfl<|retT [I i,I 1]<|(by have h1:winF kd i sz (tb.map Tap.v)=i:=(by unfold winF;rw [if_neg om,if_neg om]);have h2:winC kd i sz (tb.map Tap.v)=1:=(by unfold winC;rw [if_neg om,if_neg om]);exact ⟨by rw [h1,h2];rfl,hS⟩)) fun g0=>jCC 9 rfl<|CD (i<(ntb:Int)) (fun h0=>jCR 11 rfl<|retT [I 0,I 0]<|(by have p0:(tb.map Tap.v)[i.toNat]?=none:=List.getElem?_eq_none (by rw [List.length_map];omega);have h1:winF kd i sz (tb.map Tap.v)=0:=(by unfold winF;rw [if_neg om,if_pos om,p0]);have h2:winC kd i sz (tb.map Tap.v)=0:=(by unfold winC;rw [if_neg om,if_pos om,p0]);exact ⟨by rw [h1,h2];rfl,hS⟩)) fun h0=>?_
 refine jCC 1 rfl ?_
 obtain ⟨a0,j0,k0,b0,d0,e0⟩:=RdT.elem htb i
 have l0:=(dtb a0 (List.mem_of_getElem? b0)).weights.len;have m0:=(dtb a0 (List.mem_of_getElem? b0)).weights.le
 refine drawF hS [] (fq 4 0 (d0.up 0 rfl)<|fq 9 1 (d0.up 0 rfl)<|fn) [0,1,2,3,5,6,7,8,4,11,9,10,12] fun _ i0=>wV 2<|wI e0<|wV 3<|wI e0<|wV 1<|wL 0<|wV 1<|wL 1<|wV 2<|wN<|jXR 5 rfl<|retT [I a0.first,I (a0.weights.n:Int)] ?_
 have o0:=map_at (f:=Tap.v) b0
 have h1:winF kd i sz (tb.map Tap.v)=a0.first:=by unfold winF;rw [if_neg om,if_pos om,o0];rfl
 have h2:winC kd i sz (tb.map Tap.v)=(a0.weights.n:Int):=by unfold winC;rw [if_neg om,if_pos om,o0];exact congrArg (fun (z:Nat)=>(z:Int)) l0
 exact ⟨by rw [h1,h2];rfl,i0⟩
theorem r16_need (q:Stage) (n:Int) (fr:Int) (up:Int) (sz:Int) (atb:Option Addr) (ntb ktb:Nat) (tb:List Tap) (hq:Stage.Ok [H] q) (htb:RdT encTap 2 [H] atb ntb ktb tb) (dtb:∀z∈tb,Tap.Ok [H] z) (hsz:szOK q.v sz (tb.map Tap.v)) (hS:Sat W w (H::F)):
  Calls prog 118 #[.agg (encStage q).toArray,I n,I fr,I up,I sz, .slice atb ntb ktb] w fun e w'=>∃(az:Option Addr) (nz kz:Nat) (G:Chunk),e= .returned (.slice az nz kz)/\OwnT Go.E.encI 3 1 az nz kz (needV q.v n fr up sz (tb.map Tap.v)) G/\Sat W w' (G::H::F):=by
 have D0:=hq.weights.ll
 have P0:=hq.row.le;have B0:=hq.row.len
 have N0:=hq.col.le;have A0:=hq.col.len
 have f1:=hq.x.le;have F0:=hq.x.len
 have o1:=hq.y.le;have G0:=hq.y.len
 have O0:=hq.ops.ll
 have t1:=htb.ll
 have L1:=B0;have K1:=A0;have I1:=F0;have J1:=G0
 refine callsK 85 func118 rfl<|jCO 2 rfl<|sBx hS (encStage q) fun _ _ g0=>gOO g0 10 [1800] rfl<|cS (r16_fine q n fr up (hq.of_mem (mF 1)) g0.flat) fun _ a0=>jOC 3 rfl<|CDn (lenP n fr up/\accV q.v) (fun c0=>jCR 7 rfl<|retT [nS]<|(by have l0:=(a0.dropAt 0 rfl);have m0:Sat W _ ([]::H::F):=Sat.nilc l0;have hl:([]:List Int)=needV q.v n fr up sz (tb.map Tap.v):=(by unfold needV;rw [if_neg (show ¬(lenP n fr up/\accV q.v) from c0)]);have R0:=OwnT.nil (enc:=Go.E.encI) (E:=3) (sz:=1) fR;rw [hl] at R0;exact ⟨_,_,_,_,rfl,R0,m0⟩)) fun c0=>jCC 3 rfl ?_
 obtain ⟨Q0,E0⟩:lenP n fr up/\accV q.v:=c0
 have C1:=Q0;unfold lenP at C1;obtain ⟨X0,D1⟩:=hsz E0;have s1:=acc_kind E0;replace X0:¬(q.kind=1\/q.kind=2)\/(1<=sz/\sz<=9):=X0;replace s1:1<=q.kind/\q.kind<=6:=s1
 refine gCC a0 7 [0] rfl<|cutF a0 0 [1,2,3,4,5,6] (γ:=Unit) (fun _ R=>⟨[(13,I (polV q.v))],R,0,True⟩) ?_ ?_
 ·exact gCC a0 7 [0] rfl<|cD (q.kind>3) (fun n0=>jCI 3 rfl<|⟨(),⟨⟨(Eq.trans (b:=I 3) kr (congrArg (fun z=>Value.int .i64 z) (show 3=polV q.v from by unfold polV;rw [if_pos (by simp only [Stage.v];omega)]))),trivial⟩,sA⟩,a0,trivial⟩) fun n0=>jCI 1 rfl<|⟨(),⟨⟨(Eq.trans (b:=I q.edgePolicy) kr (congrArg (fun z=>Value.int .i64 z) (show q.edgePolicy=polV q.v from by unfold polV;rw [if_neg (by simp only [Stage.v];omega)];rfl))),trivial⟩,sA⟩,a0,trivial⟩
 rintro _ ρ _ ⟨o0,_⟩
 refine jCO 3 rfl<|sMake (kl:= .i64) (kc:= .i64) (enc:=encKB) (sz:=1) (nb:=1) o0 false (n).toNat n (om:n=(((n).toNat:Nat):Int)) underlying41 (i:=Tryz.t4) kr fR fun p0 q0 _ r0 s0=>jOC 11 rfl<|loopF [1,3,4,5,6,13] (γ:=Nat×Int×(List Bool)×SO) (fun ⟨i,u0,ks,T0,Z0,Y0,U0⟩ R=>⟨[(15,I u0),(14, .slice T0 Z0 Y0)],U0::R,((up-fr).toNat)-i,i<=(up-fr).toNat/\(u0=fr+(i:Int))/\(MkB n.toNat ks (hitsV q.v n fr sz (tb.map Tap.v) i))/\OwnT encKB 4 1 T0 Z0 Y0 ks U0⟩) (0,fr,(List.replicate (n).toNat false),(At p0 0),(n).toNat,(n).toNat,q0) ⟨s0,om,om,(MkB.zero (fun m=>rfl)),r0⟩ ?_
 rintro ⟨i,u0,ks,T0,Z0,Y0,U0⟩ ρ _ ⟨d0,hi,z1,hM,C0⟩
 have v1:=C0.ll
 refine jCC 8 rfl<|CD (u0<up) (fun t0=>jCC 12 rfl<|(by have B1:i=(up-fr).toNat:=(by omega);have q1:MkB (n.toNat) ks (needB q.v n fr up sz (tb.map Tap.v)):=(by rw [B1] at hM;exact hM);have H1:=hM.1;have G1:=(C0).len;refine jCC 5 rfl<|loopF [1,14] (γ:=Nat×(List Int)×SO) (fun ⟨m,zs,L0,K0,S0,V0⟩ R=>⟨[(22,I (m:Int)),(21, .slice L0 K0 S0)],V0::R,n.toNat-m,m<=n.toNat/\(zs=(uptoV m).filter (needB q.v n fr up sz (tb.map Tap.v)))/\OwnT Go.E.encI 3 1 L0 K0 S0 zs V0⟩) (0,[],none,0,0,[]) ⟨(Sat.nilc d0),om,by rfl,(OwnT.nil (enc:=Go.E.encI) (E:=3) (sz:=1) fR)⟩ ?_;rintro ⟨m,zs,L0,K0,S0,V0⟩ ρ _ ⟨b0,hm,hE,hOzs⟩;have x1:=hOzs.len;have u1:=hOzs.le;refine jCC 8 rfl<|CD ((m:Int)<n) (fun w0=>jCR 12 rfl<|retT [.slice L0 K0 S0]<|(by have x0:=(b0.drops [1,1]);have hl:zs=needV q.v n fr up sz (tb.map Tap.v):=(by unfold needV;rw [if_pos ⟨Q0,E0⟩,hE,show m=n.toNat by omega]);have R0:=hOzs;rw [hl] at R0;exact ⟨_,_,_,_,rfl,R0,x0⟩)) fun w0=>jCO 8 rfl<|sIO C0 (m:Int) m fun h0 _ _ i0 y0 _=>sMp b0 (y0.up 1 rfl) 0 (.bool h0)<|jOC 2 rfl<|CB h0 (fun e0=>jCO 5 rfl<|sAdd (m:Int) 1<|jOI 2 rfl<|⟨(m+1,zs,L0,K0,S0,V0),od,alB,b0,om,(by rw [upto_snoc_filter,<-q1.at i0,if_neg e0,<-hE,List.append_nil]),hOzs⟩) fun e0=>?_;have N1:zs.length<=m:=(by rw [hE];exact Nat.le_trans (List.length_filter_le _ _) (by rw [upto_len];exact Nat.le_refl _));exact jCO 3 rfl<|sBK b0 #[I (m:Int)] 3 fun _ _ z0=>sApp (nb:=8) z0 hOzs 1 (RdT.blk (enc:=Go.E.encI) (sz:=1) (xs:=[(m:Int)]) fR 1 0 rfl rfl rfl om) underlying22 (i:=Tryz.t3) kr fR fun a1 b1 c1 _ d1 e1=>jOO 6 rfl<|sAdd (m:Int) 1<|jOI 2 rfl<|⟨(m+1,(zs++[(m:Int)]),a1,(K0+1),b1,c1),od,alB,(e1.dropAt 0 rfl),om,(by rw [upto_snoc_filter,<-q1.at i0,if_pos e0,<-hE]),d1⟩)) fun t0=>?_
 refine gCO d0 11 [1] rfl<|cS (r16_win q.kind u0 sz atb ntb ktb tb (htb.fl 2) (fun z hz=>(dtb z hz).of_mem (mF 2)) ⟨X0,om⟩ d0.flat) fun _ g1=>jOC 8 rfl ?_
 have M1:=win_bd (kd:=q.kind) (k:=u0) (size:=sz) (t:=(tb.map Tap.v)) X0 D1 om
 refine jCC 6 rfl<|loopF [1,3,4,5,6,13,15,16,17] (γ:=Nat×Int×(List Bool)×SO) (fun ⟨k,cv,kt,H0,J0,I0,M0⟩ R=>⟨[(18,I cv),(14, .slice H0 J0 I0)],M0::R,((winC q.kind u0 sz (tb.map Tap.v)).toNat)-k,k<=(winC q.kind u0 sz (tb.map Tap.v)).toNat/\(cv=(winF q.kind u0 sz (tb.map Tap.v))+(k:Int))/\(MkB n.toNat kt (fun m=>hitsV q.v n fr sz (tb.map Tap.v) i m||(List.range k).any fun j=>decide (idxV ((winF q.kind u0 sz (tb.map Tap.v))+(j:Int)) n (polV q.v)=some m)))/\OwnT encKB 4 1 H0 J0 I0 kt M0⟩) (0,(winF q.kind u0 sz (tb.map Tap.v)),ks,T0,Z0,Y0,U0) ⟨g1,om,om,(hM.congr (fun m=>by simp)),C0⟩ ?_
 rintro ⟨k,cv,kt,H0,J0,I0,M0⟩ ρ _ ⟨j0,hk,r1,W0,v0⟩
 have w1:=v0.ll
 have F1:=W0.1
 refine jCO 6 rfl<|sAdd (winF q.kind u0 sz (tb.map Tap.v)) (winC q.kind u0 sz (tb.map Tap.v))<|jOC 3 rfl<|CD (cv<((winF q.kind u0 sz (tb.map Tap.v))+(winC q.kind u0 sz (tb.map Tap.v)))) (fun h1=>jCO 8 rfl<|sAdd u0 1<|jOI 2 rfl<|⟨(i+1,(u0+1),kt,H0,J0,I0,M0),od,alB,j0,om,om,(W0.congr (fun m=>(hits_succ (s:=q.v) z1 (by simp only [Stage.v];omega)).symm)),v0⟩) fun h1=>jCO 9 rfl<|cS (r3_index cv n (polV q.v) j0.flat) fun _ k0=>jOC 12 rfl<|CB ((idxV cv n (polV q.v)).isSome) (fun f0=>jCO 5 rfl<|sAdd cv 1<|jOI 2 rfl<|⟨(k+1,(cv+1),kt,H0,J0,I0,M0),od,alB,k0,om,om,(W0.none (by rw [<-r1];exact Option.not_isSome_iff_eq_none.1 f0)),v0⟩) fun f0=>?_
 obtain ⟨c,hc⟩:=Option.isSome_iff_exists.1 f0
 have E1:=idx_bd hc;have A1:(idxV cv n (polV q.v)).getD 0=c:=(by simp [hc]);have y1:idxV ((winF q.kind u0 sz (tb.map Tap.v))+(k:Int)) n (polV q.v)=some c:=(by rw [<-r1];exact hc)
 exact jCO 3 rfl<|sIO v0 ((idxV cv n (polV q.v)).getD 0) (((idxV cv n (polV q.v)).getD 0)).toNat fun i1 _ _ j1 _ k1=>sStF k0 v0 k1 0 (((idxV cv n (polV q.v)).getD 0)).toNat 0 i1 true j1 (.bool true) [.bool true] sizeOf4 fun _ l1 m1 n1=>jOO 5 rfl<|sAdd cv 1<|jOI 2 rfl<|⟨(k+1,(cv+1),(kt.set ((((idxV cv n (polV q.v)).getD 0)).toNat) true),H0,J0,I0,l1),od,alB,n1,om,om,(by rw [A1];exact MkB.one (c:=c) W0 y1 om),m1⟩
theorem r16_cols (q:Stage) (n:Int) (fr:Int) (up:Int) (hq:Stage.Ok [H] q) (hS:Sat W w (H::F)):
  Calls prog 119 #[.agg (encStage q).toArray,I n,I fr,I up] w fun e w'=>∃(az:Option Addr) (nz kz:Nat) (G:Chunk),e= .returned (.slice az nz kz)/\OwnT Go.E.encI 3 1 az nz kz (colsV q.v n fr up) G/\Sat W w' (G::H::F):=by
 have s0:=hq.weights.ll
 have y0:=hq.row.le;have r0:=hq.row.len
 have w0:=hq.col.le;have q0:=hq.col.len
 have C0:=hq.x.le;have t0:=hq.x.len
 have D0:=hq.y.le;have u0:=hq.y.len
 have x0:=hq.ops.ll
 have E0:=r0;have H0:=q0;have F0:=t0;have G0:=u0
 refine callsK 26 func119 rfl<|jCO 2 rfl<|sBx hS (encStage q) fun _ _ a0=>gOC a0 18 [0,0] rfl<|CE q.kind 2 (fun b0=>gCO a0 11 [1800,0] rfl<|cZ (r16_need q n fr up q.kW q.x.a q.x.n q.x.k q.x.l (hq.of_mem (mF 1)) (hq.x.fl 1) (fun z hz=>(hq.xD z hz).of_mem (mF 1)) (by have h:=szOK_cols q.v;rw [if_neg (show ¬q.v.kind=2 from b0)] at h;exact h) a0.flat)<|(by rintro _ _ ⟨e0,f0,g0,_,rfl,c0,h0⟩;have i0:=h0.unflat1;have z0:=c0.len;have v0:=c0.le;exact jOR 4 rfl<|retT [.slice e0 f0 g0]<|(by have j0:=(i0.dropAt 1 rfl);have hl:(needV q.v n fr up q.kW (q.x.l.map Tap.v))=colsV q.v n fr up:=(by unfold colsV;rw [if_neg (show ¬q.v.kind=2 from b0)];rfl);have A0:=c0;rw [hl] at A0;exact ⟨_,_,_,_,rfl,A0,j0⟩))) fun b0=>gCO a0 16 [0,1800,0] rfl<|cZ (r16_need q n fr up (q.row.n:Int) q.x.a q.x.n q.x.k q.x.l (hq.of_mem (mF 1)) (hq.x.fl 1) (fun z hz=>(hq.xD z hz).of_mem (mF 1)) (by have h:=szOK_cols q.v;rw [if_pos (show q.v.kind=2 from b0),show q.v.row.length=q.row.n from E0] at h;exact h) a0.flat) ?_
 rintro _ _ ⟨k0,l0,m0,_,rfl,d0,n0⟩
 have o0:=n0.unflat1
 have B0:=d0.ll
 exact jOR 4 rfl<|retT [.slice k0 l0 m0]<|(by have p0:=(o0.dropAt 1 rfl);have hl:(needV q.v n fr up (q.row.n:Int) (q.x.l.map Tap.v))=colsV q.v n fr up:=(by unfold colsV;rw [if_pos (show q.v.kind=2 from b0),show q.v.row.length=q.row.n from E0];rfl);have A0:=d0;rw [hl] at A0;exact ⟨_,_,_,_,rfl,A0,p0⟩)
theorem r16_rows (q:Stage) (n:Int) (fr:Int) (up:Int) (hq:Stage.Ok [H] q) (hS:Sat W w (H::F)):
  Calls prog 80 #[.agg (encStage q).toArray,I n,I fr,I up] w fun e w'=>∃(az:Option Addr) (nz kz:Nat) (G:Chunk),e= .returned (.slice az nz kz)/\OwnT Go.E.encI 3 1 az nz kz (rowsV q.v n fr up) G/\Sat W w' (G::H::F):=by
 have s0:=hq.weights.ll
 have y0:=hq.row.le;have r0:=hq.row.len
 have w0:=hq.col.le;have q0:=hq.col.len
 have C0:=hq.x.le;have t0:=hq.x.len
 have D0:=hq.y.le;have u0:=hq.y.len
 have x0:=hq.ops.ll
 have H0:=r0;have E0:=q0;have F0:=t0;have G0:=u0
 refine callsK 26 func80 rfl<|jCO 2 rfl<|sBx hS (encStage q) fun _ _ a0=>gOC a0 18 [0,0] rfl<|CE q.kind 2 (fun b0=>gCO a0 11 [1800,0] rfl<|cZ (r16_need q n fr up q.kH q.y.a q.y.n q.y.k q.y.l (hq.of_mem (mF 1)) (hq.y.fl 1) (fun z hz=>(hq.yD z hz).of_mem (mF 1)) (by have h:=szOK_rows q.v;rw [if_neg (show ¬q.v.kind=2 from b0)] at h;exact h) a0.flat)<|(by rintro _ _ ⟨e0,f0,g0,_,rfl,c0,h0⟩;have i0:=h0.unflat1;have z0:=c0.len;have v0:=c0.le;exact jOR 4 rfl<|retT [.slice e0 f0 g0]<|(by have j0:=(i0.dropAt 1 rfl);have hl:(needV q.v n fr up q.kH (q.y.l.map Tap.v))=rowsV q.v n fr up:=(by unfold rowsV;rw [if_neg (show ¬q.v.kind=2 from b0)];rfl);have A0:=c0;rw [hl] at A0;exact ⟨_,_,_,_,rfl,A0,j0⟩))) fun b0=>gCO a0 16 [0,1800,0] rfl<|cZ (r16_need q n fr up (q.col.n:Int) q.y.a q.y.n q.y.k q.y.l (hq.of_mem (mF 1)) (hq.y.fl 1) (fun z hz=>(hq.yD z hz).of_mem (mF 1)) (by have h:=szOK_rows q.v;rw [if_pos (show q.v.kind=2 from b0),show q.v.col.length=q.col.n from E0] at h;exact h) a0.flat) ?_
 rintro _ _ ⟨k0,l0,m0,_,rfl,d0,n0⟩
 have o0:=n0.unflat1
 have B0:=d0.ll
 exact jOR 4 rfl<|retT [.slice k0 l0 m0]<|(by have p0:=(o0.dropAt 1 rfl);have hl:(needV q.v n fr up (q.col.n:Int) (q.y.l.map Tap.v))=rowsV q.v n fr up:=(by unfold rowsV;rw [if_pos (show q.v.kind=2 from b0),show q.v.col.length=q.col.n from E0];rfl);have A0:=d0;rw [hl] at A0;exact ⟨_,_,_,_,rfl,A0,p0⟩)
theorem r16_some (al:Option Addr) (nl kl:Nat) (l:List Int) (a:Int) (b:Int) (hl:RdT Go.E.encI 1 [H] al nl kl l) (hS:Sat W w (H::F)):
  Ro prog 120 #[.slice al nl kl,I a,I b] (.bool (someV l a b)) W w (H::F):=by
 have k0:=hl.ll
 refine callsK 28 func120 rfl<|jCC 12 rfl<|loopF [0,1,2] (γ:=Nat) (fun i R=>⟨[(7,I (i:Int))],R,nl-i,i<=nl/\((l.take i).any (fun v=>decide (a<=v/\v<b))=false)⟩) 0 ⟨hS,om,by rfl⟩ ?_
 rintro i ρ _ ⟨a0,hi,hE⟩
 refine jCC 9 rfl<|CD ((i:Int)<(nl:Int)) (fun e0=>jCR 11 rfl<|retT [.bool false]<|⟨by rw [show someV l a b=false from by rw [List.take_of_length_le om] at hE;exact hE];rfl,a0⟩) fun e0=>jCO 8 rfl<|sIN hl i fun b0 _ _ c0 f0=>sMp a0 (f0.up 0 rfl) 0 (I b0)<|pu3<|SD 20 (b0>=a) (fun g0=>jOO 15 rfl<|sAdd (i:Int) 1<|jOI 2 rfl<|⟨i+1,od,alB,a0,om,(any_take_no hE c0 (decide_eq_false om))⟩) fun g0=>pu2<|gY<|sIN hl i fun h0 _ _ d0 i0=>?_
 obtain rfl:b0=h0:=Option.some.inj (c0.symm.trans d0)
 exact gY<|sMp a0 (i0.up 0 rfl) 0 (I b0)<|jOC 5 rfl<|CD (b0<b) (fun j0=>jCO 5 rfl<|sAdd (i:Int) 1<|jOI 2 rfl<|⟨i+1,od,alB,a0,om,(any_take_no hE c0 (decide_eq_false om))⟩) fun j0=>jCR 11 rfl<|retT [.bool true]<|⟨by rw [show someV l a b=true from any_of_at (p:=(fun v=>decide (a<=v/\v<b))) c0 (decide_eq_true om)];rfl,a0⟩
theorem r16_tiles (q:Stage) (w0:Int) (h0:Int) (tw:Int) (th:Int) (r:Rct) (hq:Stage.Ok [H] q) (hv:inP r) (hS:Sat W w (H::F)):
  Calls prog 82 #[.agg (encStage q).toArray,I w0,I h0,I tw,I th, .agg (encRct r).toArray] w fun e w'=>∃(az:Option Addr) (nz kz:Nat) (G:Chunk),e= .returned (.slice az nz kz)/\OwnT Go.E.encI 3 1 az nz kz (tilesV q.v w0 h0 tw th r) G/\Sat W w' (G::H::F):=by
 have B0:=hq.weights.ll
 have J0:=hq.row.ll
 have H0:=hq.col.ll
 have O0:=hq.x.ll
 have P0:=hq.y.ll
 have I0:=hq.ops.ll
 unfold inP at hv
 refine callsK 81 func82 rfl<|jCO 2 rfl<|sBx hS (encStage q) fun _ _ j0=>sBx j0 (encRct r) fun _ _ d0=>gOO d0 7 [400] rfl<|cS (r2_valid r d0.flat) fun _ k0=>jOC 3 rfl ?_
 have l0:rvP r:=(by unfold rvP cooP;omega)
 refine cF _ (congrArg Bool.not (decide_eq_true l0))<|jCC 3 rfl<|drawF k0 [6,13] (fb 0 1 0 18<|fb 3 0 0 1<|fb 5 0 2 1<|fb 7 1 0 18<|fb 10 0 1 1<|fb 12 0 3 1<|fn) [1,2,4,8,9,11,0,3,5,7,10,12,6,13,14,15] fun _ m0=>wV 6<|wG 0 18<|wL 18<|wL 19<|wG 20 18<|wL 38<|wL 39<|wO rfl<|cZ (r16_cols q w0 r.x0 r.x1 (hq.of_mem (mF 2)) m0.flat) ?_
 rintro _ _ ⟨n0,o0,p0,_,rfl,a0,q0⟩
 have e0:=q0.unflat1
 have M0:=a0.ll
 refine nZ e0 [2,1,1]<|wO rfl<|cZ (r16_rows q h0 r.y0 r.y1 (hq.of_mem (mF 3)) e0.flat) ?_
 rintro _ _ ⟨r0,s0,t0,_,rfl,b0,u0⟩
 have v0:=u0.unflat1
 have N0:=b0.ll
 refine nA<|wV 2<|wN<|jXO 7 rfl<|cS (r5_count w0 h0 tw th v0.flat) fun _ z0=>jOC 8 rfl ?_
 have S0:0<=(colsN w0 h0 tw th)*(rowsN w0 h0 tw th)/\(colsN w0 h0 tw th)*(rowsN w0 h0 tw th)<=16384:=by
   by_cases hf:fineP w0 h0 tw th
   ·have hb:=cols_bd hf;exact mul_bd (A:=128) (B:=128) om om
   ·rw [(cols_no hf).1,Int.zero_mul];omega
 refine jCC 11 rfl<|loopF [1,2,3,4,13,14,15,16] (γ:=Nat×(List Int)×SO) (fun ⟨i,zs,D0,C0,E0,F0⟩ R=>⟨[(18,I (i:Int)),(17, .slice D0 C0 E0)],F0::R,(((colsN w0 h0 tw th)*(rowsN w0 h0 tw th)).toNat)-i,i<=((colsN w0 h0 tw th)*(rowsN w0 h0 tw th)).toNat/\(zs=(uptoV i).filter (fun i=>someV (colsV q.v w0 r.x0 r.x1) (i%(colsN w0 h0 tw th)*tw) ((i%(colsN w0 h0 tw th)+1)*tw)&&someV (rowsV q.v h0 r.y0 r.y1) (i/(colsN w0 h0 tw th)*th) ((i/(colsN w0 h0 tw th)+1)*th)))/\OwnT Go.E.encI 3 1 D0 C0 E0 zs F0⟩) (0,[],none,0,0,[]) ⟨(Sat.nilc z0),om,by rfl,(OwnT.nil (enc:=Go.E.encI) (E:=3) (sz:=1) fR)⟩ ?_
 rintro ⟨i,zs,D0,C0,E0,F0⟩ ρ _ ⟨f0,hi,hE,A0⟩
 have Q0:=A0.ll
 refine jCO 6 rfl<|sMul (colsN w0 h0 tw th) (rowsN w0 h0 tw th)<|jOC 3 rfl<|CD ((i:Int)<((colsN w0 h0 tw th)*(rowsN w0 h0 tw th))) (fun c1=>jCR 12 rfl<|retT [.slice D0 C0 E0]<|(by have d1:=(f0.drops [1,1,1,1]);have hl:zs=tilesV q.v w0 h0 tw th r:=(by unfold tilesV;rw [hE,show i=tilN w0 h0 tw th by unfold tilN;omega]);have R0:=A0;rw [hl] at R0;exact ⟨_,_,_,_,rfl,R0,d1⟩)) fun c1=>jCC 5 rfl ?_
 have hf:fineP w0 h0 tw th:=by
   by_cases hf:fineP w0 h0 tw th
   ·exact hf
   ·exfalso;rw [(cols_no hf).1,Int.zero_mul] at*;omega
 have T0:=tile_in hf (i:=(i:Int)) om om
 refine jCO 6 rfl<|cS (r5_tile w0 h0 tw th (i:Int) hf om f0.flat) fun _ e1=>pu3<|sAlloc e1 zeroValue45 fun _ _ f1=>sTk f1 0 rfl [I ((tileV w0 h0 tw th (i:Int)).x0),I ((tileV w0 h0 tw th (i:Int)).y0),I ((tileV w0 h0 tw th (i:Int)).x1),I ((tileV w0 h0 tw th (i:Int)).y1)] fun _ g0=>gOO g0 10 [0,0] rfl<|cS (r16_some n0 o0 p0 (colsV q.v w0 r.x0 r.x1) ((tileV w0 h0 tw th (i:Int)).x0) ((tileV w0 h0 tw th (i:Int)).x1) (RdT.flat (a0.rdAt 3 (by rfl))) g0.flat) fun _ c0=>pu1<|SB 68 (someV (colsV q.v w0 r.x0 r.x1) ((tileV w0 h0 tw th (i:Int)).x0) ((tileV w0 h0 tw th (i:Int)).x1)) (fun g1=>jOO 15 rfl<|sAdd (i:Int) 1<|jOI 2 rfl<|(by have K0:=some_min (l:=(colsV q.v w0 r.x0 r.x1)) (a:=(i:Int)%(colsN w0 h0 tw th)*tw) (b:=(i:Int)%(colsN w0 h0 tw th)*tw+tw) (n:=w0) (fun x hx=>(need_mem hx).2);have L0:=some_min (l:=(rowsV q.v h0 r.y0 r.y1)) (a:=(i:Int)/(colsN w0 h0 tw th)*th) (b:=(i:Int)/(colsN w0 h0 tw th)*th+th) (n:=h0) (fun x hx=>(need_mem hx).2);have G0:(fun i=>someV (colsV q.v w0 r.x0 r.x1) (i%(colsN w0 h0 tw th)*tw) ((i%(colsN w0 h0 tw th)+1)*tw)&&someV (rowsV q.v h0 r.y0 r.y1) (i/(colsN w0 h0 tw th)*th) ((i/(colsN w0 h0 tw th)+1)*th)) (i:Int)=false:=(by dsimp only;rw [Int.add_mul,Int.one_mul,Int.add_mul,Int.one_mul,<-K0,<-L0];unfold tileV at*;simp_all);exact ⟨(i+1,zs,D0,C0,E0,F0),od,alB,(c0.dropAt 0 rfl),om,(by rw [upto_snoc_filter,if_neg (fun h=>Bool.false_ne_true (G0.symm.trans h)),<-hE,List.append_nil]),A0⟩)) fun g1=>?_
 refine gOO c0 5 [0,0] rfl<|gY<|cS (r16_some r0 s0 t0 (rowsV q.v h0 r.y0 r.y1) ((tileV w0 h0 tw th (i:Int)).y0) ((tileV w0 h0 tw th (i:Int)).y1) (RdT.flat (b0.rdAt 2 (by rfl))) c0.flat) fun _ i0=>jOC 3 rfl<|CB (someV (rowsV q.v h0 r.y0 r.y1) ((tileV w0 h0 tw th (i:Int)).y0) ((tileV w0 h0 tw th (i:Int)).y1)) (fun i1=>jCO 5 rfl<|sAdd (i:Int) 1<|jOI 2 rfl<|(by have K0:=some_min (l:=(colsV q.v w0 r.x0 r.x1)) (a:=(i:Int)%(colsN w0 h0 tw th)*tw) (b:=(i:Int)%(colsN w0 h0 tw th)*tw+tw) (n:=w0) (fun x hx=>(need_mem hx).2);have L0:=some_min (l:=(rowsV q.v h0 r.y0 r.y1)) (a:=(i:Int)/(colsN w0 h0 tw th)*th) (b:=(i:Int)/(colsN w0 h0 tw th)*th+th) (n:=h0) (fun x hx=>(need_mem hx).2);have G0:(fun i=>someV (colsV q.v w0 r.x0 r.x1) (i%(colsN w0 h0 tw th)*tw) ((i%(colsN w0 h0 tw th)+1)*tw)&&someV (rowsV q.v h0 r.y0 r.y1) (i/(colsN w0 h0 tw th)*th) ((i/(colsN w0 h0 tw th)+1)*th)) (i:Int)=false:=(by dsimp only;rw [Int.add_mul,Int.one_mul,Int.add_mul,Int.one_mul,<-K0,<-L0];unfold tileV at*;simp_all);exact ⟨(i+1,zs,D0,C0,E0,F0),od,alB,(i0.dropAt 0 rfl),om,(by rw [upto_snoc_filter,if_neg (fun h=>Bool.false_ne_true (G0.symm.trans h)),<-hE,List.append_nil]),A0⟩)) fun i1=>?_
 have U0:zs.length<=i:=by rw [hE];exact Nat.le_trans (List.length_filter_le _ _) (by rw [upto_len];exact Nat.le_refl _)
 exact jCO 3 rfl<|sBK i0 #[I (i:Int)] 3 fun _ _ k1=>sApp (nb:=8) k1 A0 2 (RdT.blk (enc:=Go.E.encI) (sz:=1) (xs:=[(i:Int)]) fR 1 0 rfl rfl rfl om) underlying22 (i:=Tryz.t3) kr fR fun l1 m1 n1 _ o1 q1=>jOO 6 rfl<|sAdd (i:Int) 1<|jOI 2 rfl<|(by have K0:=some_min (l:=(colsV q.v w0 r.x0 r.x1)) (a:=(i:Int)%(colsN w0 h0 tw th)*tw) (b:=(i:Int)%(colsN w0 h0 tw th)*tw+tw) (n:=w0) (fun x hx=>(need_mem hx).2);have L0:=some_min (l:=(rowsV q.v h0 r.y0 r.y1)) (a:=(i:Int)/(colsN w0 h0 tw th)*th) (b:=(i:Int)/(colsN w0 h0 tw th)*th+th) (n:=h0) (fun x hx=>(need_mem hx).2);have G0:(fun i=>someV (colsV q.v w0 r.x0 r.x1) (i%(colsN w0 h0 tw th)*tw) ((i%(colsN w0 h0 tw th)+1)*tw)&&someV (rowsV q.v h0 r.y0 r.y1) (i/(colsN w0 h0 tw th)*th) ((i/(colsN w0 h0 tw th)+1)*th)) (i:Int)=true:=(by dsimp only;rw [Int.add_mul,Int.one_mul,Int.add_mul,Int.one_mul,<-K0,<-L0];unfold tileV at*;simp_all);exact ⟨(i+1,(zs++[(i:Int)]),l1,(C0+1),m1,n1),od,alB,(q1.drops [0,0]),om,(by rw [upto_snoc_filter,if_pos G0,<-hE]),o1⟩)
end Go.Proofs.YtghcddbhllkbmaaGreat

namespace Go.Proofs.YtghcddbhllkbmaaGreat
open Go Go.E Go.Proofs.Tryz
set_option linter.all false
set_option maxRecDepth 100000
set_option maxHeartbeats 2000000
variable {W w:World} {H:Chunk} {F:List Chunk}
def bytOK (s:StageV):Prop:=(1<=s.kind/\s.kind<=6)/\(¬s.kind=1\/((1<=s.kW/\s.kW<=9)/\1<=s.kH/\s.kH<=9))/\(¬s.kind=2\/(1<=(s.col.length:Int)/\(s.col.length:Int)<=9))/\(¬s.kind=4\/(1<=s.bins/\s.bins<=128))
theorem of_bytOK {q:StageV} {s t:Shape} (h:(ofV q s t).2=0):bytOK q:=by
 unfold ofV at h
 split at h
 ·rename_i hf
  have hk:1<=q.kind/\q.kind<=6:=by unfold fieldsP at hf;omega
  refine ⟨hk,?_⟩
  split at h
  ·split at h
   ·split at h
    ·rename_i h4
     unfold kernelV at h4
     clear h
     split at h4
     ·rename_i k
      unfold convCode at h4
      dsimp only at h4
      split at h4
      ·omega
      ·omega
     ·split at h4
      ·rename_i k
       unfold sepCode at h4
       dsimp only at h4
       split at h4
       ·omega
       ·omega
      ·split at h4
       ·omega
       ·split at h4
        ·split at h4
         ·omega
         ·simp at h4
        ·omega
    ·rename_i h4;exact absurd h h4
   ·simp at h
  ·simp at h
 ·simp at h
theorem cells_bd {s:StageV} {h:Int} {r:Rct} (hk:bytOK s) (hr:inP r):0<=cellsV s h r/\cellsV s h r<=20000:=by
 obtain ⟨h0,h1,h2,h4⟩:=hk
 unfold inP at hr
 unfold cellsV
 split
 ·exact mul_bd (A:=136) (B:=136) om om|>.imp id (fun h=>by omega)
 ·split
  ·exact mul_bd (A:=136) (B:=136) om om|>.imp id (fun h=>by omega)
  ·split
   · exact (by have hl:=need_len (s:=s) (n:=h) (a:=r.y0) (b:=r.y1) (size:=if s.kind=2 then s.col.length else s.kH) (t:=s.y);exact mul_bd (A:=136) (B:=136) om (by unfold rowsV;omega)|>.imp id (fun h=>by omega))
   ·split
    ·omega
    ·split<;>omega
theorem scr_no {s:StageV} {m:Shape} {p:Int} {r:Rct} (h:¬((ofV s m m).2=0/\belongP s.kind p/\inP r)):scrV s m p r=0:=by unfold scrV;rw [if_neg h]
theorem r20_belongs (x:Int) (p:Int) (hS:Sat W w (H::F)):
  Ro prog 64 #[I x,I p] (.bool (decide (belongP x p))) W w (H::F):=by
 exact callsK 15 func64 rfl<|jCC 12 rfl<|CE x 4 (fun a0=>jCR 10 rfl<|retT [.bool ((p:Int)==0)]<|⟨rB (by first|rfl|(rw [Bool.eq_iff_iff];simp only [decide_eq_true_eq,beq_iff_eq,bne_iff_ne,ne_eq,Bool.not_eq_true',decide_eq_false_iff_not,true_iff,false_iff,iff_true,iff_false,Bool.false_eq_true,Bool.and_eq_true,Bool.or_eq_true,gt_iff_lt,ge_iff_le,belongP]<;>omega)|(rw [Bool.eq_iff_iff];simp [belongP, *]<;>omega)|(simp_all;done)),hS⟩) fun a0=>jCO 5 rfl<|sE 9 p 1 (fun b0=>jOR 8 rfl<|retT [.bool true]<|⟨rB (by first|rfl|(rw [Bool.eq_iff_iff];simp only [decide_eq_true_eq,beq_iff_eq,bne_iff_ne,ne_eq,Bool.not_eq_true',decide_eq_false_iff_not,true_iff,false_iff,iff_true,iff_false,Bool.false_eq_true,Bool.and_eq_true,Bool.or_eq_true,gt_iff_lt,ge_iff_le,belongP]<;>omega)|(rw [Bool.eq_iff_iff];simp [belongP, *]<;>omega)|(simp_all;done)),hS⟩) fun b0=>jOR 8 rfl<|retT [.bool ((p:Int)==2)]<|⟨rB (by first|rfl|(rw [Bool.eq_iff_iff];simp only [decide_eq_true_eq,beq_iff_eq,bne_iff_ne,ne_eq,Bool.not_eq_true',decide_eq_false_iff_not,true_iff,false_iff,iff_true,iff_false,Bool.false_eq_true,Bool.and_eq_true,Bool.or_eq_true,gt_iff_lt,ge_iff_le,belongP]<;>omega)|(rw [Bool.eq_iff_iff];simp [belongP, *]<;>omega)|(simp_all;done)),hS⟩
theorem r20_scratch (q:Stage) (s:Shape) (part:Int) (r:Rct) (hq:Stage.Ok [H] q) (hS:Sat W w (H::F)):
  Ro prog 40 #[.agg (encStage q).toArray, .agg #[I s.w,I s.h,I s.max_],I part, .agg (encRct r).toArray] (I (scrV q.v s part r)) W w (H::F):=by
 have A0:=hq.weights.ll
 have E0:=hq.row.ll
 have C0:=hq.col.le;have w0:=hq.col.len
 have I0:=hq.x.ll
 have J0:=hq.y.ll
 have D0:=hq.ops.ll
 refine callsK 123 func40 rfl<|jCO 2 rfl<|sBx hS (encStage q) fun _ _ j0=>sBx j0 [I s.w,I s.h,I s.max_] fun _ _ k0=>sBx k0 (encRct r) fun _ _ h0=>gOO h0 9 [1802,301,301] rfl<|cS (r15_of q s s (hq.of_mem (mF 3)) h0.flat) fun _ l0=>pu3<|sAlloc l0 zeroValue65 fun _ _ m0=>sTk m0 0 rfl [I ((ofV q.v s s).1.w),I ((ofV q.v s s).1.h),I ((ofV q.v s s).1.max_)] fun _ c0=>jOC 3 rfl<|cutF c0 0 [4,5,7] (γ:=Unit) (fun _ R=>⟨[(56, .bool (decide (¬((ofV q.v s s).2=0/\belongP q.kind part/\(rvP r/\¬(r.x0=0/\r.y0=0/\r.x1=0/\r.y1=0))/\0<=r.x0/\0<=r.y0/\r.x1<=128/\r.y1<=128))))],R,0,True⟩) ?_ ?_
 ·refine jCO 4 rfl<|SN 25 ((ofV q.v s s).2) 0 (fun n0=>jOI 32 rfl<|⟨(),⟨⟨(Eq.trans (b:= .bool true) kr (congrArg Value.bool (decide_eq_true (p:=¬((ofV q.v s s).2=0/\belongP q.kind part/\(rvP r/\¬(r.x0=0/\r.y0=0/\r.x1=0/\r.y1=0))/\0<=r.x0/\0<=r.y0/\r.x1<=128/\r.y1<=128)) (by (first|omega|(simp_all;done)|(intro h_;obtain ⟨h1,h2,h3,h4,h5,h6,h7⟩:=h_;first|omega|contradiction|(exact absurd h3.1 ‹_›)|simp_all)|(simp_all<;>omega)))).symm)),trivial⟩,sA⟩,c0,trivial⟩) fun n0=>gOO c0 3 [3] rfl<|gY<|cS (r20_belongs q.kind part c0.flat) fun _ f0=>pu3<|SDn 32 (belongP q.kind part) (fun o0=>jOI 25 rfl<|⟨(),⟨⟨(Eq.trans (b:= .bool true) kr (congrArg Value.bool (decide_eq_true (p:=¬((ofV q.v s s).2=0/\belongP q.kind part/\(rvP r/\¬(r.x0=0/\r.y0=0/\r.x1=0/\r.y1=0))/\0<=r.x0/\0<=r.y0/\r.x1<=128/\r.y1<=128)) (by (first|omega|(simp_all;done)|(intro h_;obtain ⟨h1,h2,h3,h4,h5,h6,h7⟩:=h_;first|omega|contradiction|(exact absurd h3.1 ‹_›)|simp_all)|(simp_all<;>omega)))).symm)),trivial⟩,sA⟩,f0,trivial⟩) fun o0=>?_
  refine gOO f0 1 [401] rfl<|gY<|cS (r2_full r f0.flat) fun _ b0=>pu3<|SDn 37 (rvP r/\¬(r.x0=0/\r.y0=0/\r.x1=0/\r.y1=0)) (fun p0=>jOI 20 rfl<|⟨(),⟨⟨(Eq.trans (b:= .bool true) kr (congrArg Value.bool (decide_eq_true (p:=¬((ofV q.v s s).2=0/\belongP q.kind part/\(rvP r/\¬(r.x0=0/\r.y0=0/\r.x1=0/\r.y1=0))/\0<=r.x0/\0<=r.y0/\r.x1<=128/\r.y1<=128)) (by (first|omega|(simp_all;done)|(intro h_;obtain ⟨h1,h2,h3,h4,h5,h6,h7⟩:=h_;first|omega|contradiction|(exact absurd h3.1 ‹_›)|simp_all)|(simp_all<;>omega)))).symm)),trivial⟩,sA⟩,b0,trivial⟩) fun p0=>gOO b0 5 [1] rfl<|sD 42 (r.x0<0) (fun q0=>jOI 15 rfl<|⟨(),⟨⟨(Eq.trans (b:= .bool true) kr (congrArg Value.bool (decide_eq_true (p:=¬((ofV q.v s s).2=0/\belongP q.kind part/\(rvP r/\¬(r.x0=0/\r.y0=0/\r.x1=0/\r.y1=0))/\0<=r.x0/\0<=r.y0/\r.x1<=128/\r.y1<=128)) (by (first|omega|(simp_all;done)|(intro h_;obtain ⟨h1,h2,h3,h4,h5,h6,h7⟩:=h_;first|omega|contradiction|(exact absurd h3.1 ‹_›)|simp_all)|(simp_all<;>omega)))).symm)),trivial⟩,sA⟩,b0,trivial⟩) fun q0=>gOO b0 5 [1] rfl<|sD 47 (r.y0<0) (fun r0=>jOI 10 rfl<|⟨(),⟨⟨(Eq.trans (b:= .bool true) kr (congrArg Value.bool (decide_eq_true (p:=¬((ofV q.v s s).2=0/\belongP q.kind part/\(rvP r/\¬(r.x0=0/\r.y0=0/\r.x1=0/\r.y1=0))/\0<=r.x0/\0<=r.y0/\r.x1<=128/\r.y1<=128)) (by (first|omega|(simp_all;done)|(intro h_;obtain ⟨h1,h2,h3,h4,h5,h6,h7⟩:=h_;first|omega|contradiction|(exact absurd h3.1 ‹_›)|simp_all)|(simp_all<;>omega)))).symm)),trivial⟩,sA⟩,b0,trivial⟩) fun r0=>?_
  exact gOO b0 5 [1] rfl<|sD 52 (r.x1>128) (fun s0=>jOI 5 rfl<|⟨(),⟨⟨(Eq.trans (b:= .bool true) kr (congrArg Value.bool (decide_eq_true (p:=¬((ofV q.v s s).2=0/\belongP q.kind part/\(rvP r/\¬(r.x0=0/\r.y0=0/\r.x1=0/\r.y1=0))/\0<=r.x0/\0<=r.y0/\r.x1<=128/\r.y1<=128)) (by (first|omega|(simp_all;done)|(intro h_;obtain ⟨h1,h2,h3,h4,h5,h6,h7⟩:=h_;first|omega|contradiction|(exact absurd h3.1 ‹_›)|simp_all)|(simp_all<;>omega)))).symm)),trivial⟩,sA⟩,b0,trivial⟩) fun s0=>gOI b0 5 [1] rfl<|⟨(),⟨⟨(Eq.trans (b:= .bool (decide (r.y1>128))) kr (congrArg Value.bool (by rw [Bool.eq_iff_iff];simp only [decide_eq_true_eq,beq_iff_eq,bne_iff_ne,ne_eq,Bool.not_eq_true',decide_eq_false_iff_not,gt_iff_lt,ge_iff_le,Bool.and_eq_true,Bool.or_eq_true,Bool.not_eq_eq_eq_not,Bool.not_true,Bool.and_eq_false_imp,beq_eq_false_iff_ne]<;>(first|omega|(simp_all;done)|(simp_all<;>omega)|(constructor<;>intro h_<;>simp_all<;>omega))))),trivial⟩,sA⟩,b0,trivial⟩
 rintro _ ρ _ ⟨i0,_⟩
 refine cD (¬((ofV q.v s s).2=0/\belongP q.kind part/\(rvP r/\¬(r.x0=0/\r.y0=0/\r.x1=0/\r.y1=0))/\0<=r.x0/\0<=r.y0/\r.x1<=128/\r.y1<=128)) (fun g0=>jCR 7 rfl<|retT [I 0]<|(by have t0:=(i0.drops [0,0,0,0]);have hz:scrV q.v s part r=0:=scr_no (fun h=>g0 ⟨h.1,h.2.1,⟨by have:=h.2.2;unfold inP at this;unfold rvP cooP;omega,by have:=h.2.2;unfold inP at this;omega⟩,by have:=h.2.2;unfold inP at this;omega⟩);exact ⟨by rw [hz];rfl,t0⟩)) fun g0=>jCC 3 rfl ?_
 obtain ⟨M0,O0,N0,W0⟩:=Classical.not_not.1 g0
 have K0:=N0.1;have U0:=N0.2;unfold rvP cooP at K0;have G0:inP r:=by unfold inP;omega
 have hk:=of_bytOK M0;have V0:=cells_bd (h:=s.h) hk G0;have H0:=hk;unfold bytOK at H0;simp only [Stage.v] at H0;have L0:=w0;rw [L0] at H0;have S0:=G0;unfold inP at S0;have hr:=G0
 refine drawF i0 [] (fb 1 1 2 1<|fb 3 1 0 1<|fb 6 1 3 1<|fb 8 1 1 1<|fn) [0,2,5,7,1,3,4,10,6,8,9,11] fun _ a0=>wV 4<|wL 0<|wL 1<|wSub r.x1 r.x0<|wV 1<|wL 2<|wL 3<|wSub r.y1 r.y0<|wV 1<|wN<|jXC 6 rfl<|cutF a0 0 [] (γ:=Unit) (fun _ R=>⟨[(13,I (cellsV q.v s.h r))],R,0,True⟩) ?_ ?_
 rotate_left
 · exact (by rintro _ ρ _ ⟨u0,_⟩;exact jCO 3 rfl<|sMul 8 (cellsV q.v s.h r)<|cS (r1_align (8*(cellsV q.v s.h r)) 16 1099511627776 (od) u0.flat) fun _ v0=>jOR 14 rfl<|retT [I (alnX (8*(cellsV q.v s.h r)) 16 1099511627776)]<|⟨by unfold scrV;rw [if_pos ⟨M0,O0,G0⟩];unfold bytV;rw [<-aln_ok (l:=1099511627776) om om];rfl,(v0.drops [0,0,0,0])⟩)
 refine gCC a0 13 [3] rfl<|cE q.kind 1 (fun z0=>gCO a0 4 [3] rfl<|sAdd (r.x1-r.x0) q.kW<|sSub ((r.x1-r.x0)+q.kW) 1<|gOO a0 3 [3] rfl<|sAdd (r.y1-r.y0) q.kH<|sSub ((r.y1-r.y0)+q.kH) 1<|(by have P0:=mul_bd (a:=(((r.x1-r.x0)+q.kW)-1)) (b:=(((r.y1-r.y0)+q.kH)-1)) (A:=300) (B:=300) om om;exact sMul (((r.x1-r.x0)+q.kW)-1) (((r.y1-r.y0)+q.kH)-1)<|jOI 3 rfl<|⟨(),⟨⟨(Eq.trans (b:=I ((((r.x1-r.x0)+q.kW)-1)*(((r.y1-r.y0)+q.kH)-1))) kr (congrArg (fun z=>Value.int .i64 z) (show ((((r.x1-r.x0)+q.kW)-1)*(((r.y1-r.y0)+q.kH)-1))=cellsV q.v s.h r from by unfold cellsV;rw [if_pos (show q.v.kind=1 from by simp only [Stage.v];omega)];rfl))),trivial⟩,sA⟩,a0,trivial⟩)) fun z0=>jCC 6 rfl<|cE q.kind 2 (fun a1=>gCO a0 6 [3] rfl<|sAdd (r.y1-r.y0) (q.col.n:Int)<|sSub ((r.y1-r.y0)+(q.col.n:Int)) 1<|(by have Q0:=mul_bd (a:=(r.x1-r.x0)) (b:=(((r.y1-r.y0)+(q.col.n:Int))-1)) (A:=300) (B:=300) om om;exact sMul (r.x1-r.x0) (((r.y1-r.y0)+(q.col.n:Int))-1)<|jOI 3 rfl<|⟨(),⟨⟨(Eq.trans (b:=I ((r.x1-r.x0)*(((r.y1-r.y0)+(q.col.n:Int))-1))) kr (congrArg (fun z=>Value.int .i64 z) (show ((r.x1-r.x0)*(((r.y1-r.y0)+(q.col.n:Int))-1))=cellsV q.v s.h r from by unfold cellsV;rw [if_neg (show ¬q.v.kind=1 from by simp only [Stage.v];omega),if_pos (show q.v.kind=2 from by simp only [Stage.v];omega),show q.v.col.length=q.col.n from L0]))),trivial⟩,sA⟩,a0,trivial⟩)) fun a1=>jCC 6 rfl<|cE q.kind 3 (fun b1=>gCO a0 9 [1803,2,1,1] rfl<|cZ (r16_rows q s.h r.y0 r.y1 (hq.of_mem (mF 4)) a0.flat)<|(by rintro _ _ ⟨_,d0,_,_,rfl,e0,c1⟩;have d1:=c1.unflat1;have F0:=e0.len;have B0:=e0.le;exact pu1<|(by have X0:=need_len (s:=q.v) (n:=s.h) (a:=r.y0) (b:=r.y1) (size:=if q.v.kind=2 then q.v.col.length else q.v.kH) (t:=q.v.y);have T0:=(e0).len;unfold rowsV at T0;have R0:=mul_bd (a:=(r.x1-r.x0)) (b:=(d0:Int)) (A:=300) (B:=300) om om;exact sMul (r.x1-r.x0) (d0:Int)<|jOI 3 rfl<|⟨(),⟨⟨(Eq.trans (b:=I ((r.x1-r.x0)*(d0:Int))) kr (congrArg (fun z=>Value.int .i64 z) (show ((r.x1-r.x0)*(d0:Int))=cellsV q.v s.h r from by unfold cellsV;rw [if_neg (show ¬q.v.kind=1 from by simp only [Stage.v];omega),if_neg (show ¬q.v.kind=2 from by simp only [Stage.v];omega),if_pos (show q.v.kind=3 from by simp only [Stage.v];omega),((e0).len)]))),trivial⟩,sA⟩,(d1.dropAt 0 rfl),trivial⟩))) fun b1=>?_
 exact jCC 6 rfl<|cE q.kind 4 (fun f1=>gCI a0 6 [3] rfl<|⟨(),⟨⟨(Eq.trans (b:=I q.bins) kr (congrArg (fun z=>Value.int .i64 z) (show q.bins=cellsV q.v s.h r from by unfold cellsV;rw [if_neg (show ¬q.v.kind=1 from by simp only [Stage.v];omega),if_neg (show ¬q.v.kind=2 from by simp only [Stage.v];omega),if_neg (show ¬q.v.kind=3 from by simp only [Stage.v];omega),if_pos (show q.v.kind=4 from by simp only [Stage.v];omega)];rfl))),trivial⟩,sA⟩,a0,trivial⟩) fun f1=>jCC 6 rfl<|CE q.kind 5 (fun g1=>jCI 5 rfl<|⟨(),⟨⟨(Eq.trans (b:=I (r.x1-r.x0)) kr (congrArg (fun z=>Value.int .i64 z) (show (r.x1-r.x0)=cellsV q.v s.h r from by unfold cellsV;rw [if_neg (show ¬q.v.kind=1 from by simp only [Stage.v];omega),if_neg (show ¬q.v.kind=2 from by simp only [Stage.v];omega),if_neg (show ¬q.v.kind=3 from by simp only [Stage.v];omega),if_neg (show ¬q.v.kind=4 from by simp only [Stage.v];omega),if_neg (show ¬q.v.kind=5 from by simp only [Stage.v];omega)]))),trivial⟩,sA⟩,a0,trivial⟩) fun g1=>jCO 3 rfl<|sAdd (r.x1-r.x0) (r.y1-r.y0)<|sAdd ((r.x1-r.x0)+(r.y1-r.y0)) 1<|jOI 3 rfl<|⟨(),⟨⟨(Eq.trans (b:=I (((r.x1-r.x0)+(r.y1-r.y0))+1)) kr (congrArg (fun z=>Value.int .i64 z) (show (((r.x1-r.x0)+(r.y1-r.y0))+1)=cellsV q.v s.h r from by unfold cellsV;rw [if_neg (show ¬q.v.kind=1 from by simp only [Stage.v];omega),if_neg (show ¬q.v.kind=2 from by simp only [Stage.v];omega),if_neg (show ¬q.v.kind=3 from by simp only [Stage.v];omega),if_neg (show ¬q.v.kind=4 from by simp only [Stage.v];omega),if_pos (show q.v.kind=5 from by simp only [Stage.v];omega)]))),trivial⟩,sA⟩,a0,trivial⟩
theorem tapsCode_side {l:List TapV} {n:Int} (h:tapsCode l n=0):1<=(l.length:Int)/\(l.length:Int)<=128:=by
  unfold tapsCode at h
  split at h
  · omega
  · omega
theorem ofV_sz {q:StageV} {s t:Shape} (h:(ofV q s t).2=0):szP (ofV q s t).1:=by
 unfold ofV at h⊢
 split at h
 ·rename_i h1
  rw [if_pos h1]
  split at h
  ·rename_i h2
   rw [if_pos h2]
   split at h
   ·rename_i h3
    rw [if_pos h3]
    split at h
    ·rename_i h4
     rw [if_pos h4]
     have hs:=h2.1
     unfold szP at hs
     clear h h1 h2 h3
     unfold kernelV at h4⊢
     split at h4
     · exact (by rename_i k;rw [if_pos k];unfold convCode at h4;unfold szP;(repeat' split at h4)<;>first|(dsimp only;omega)|(exfalso;simp at h4;done)|(exfalso;omega))
     ·rename_i k1;rw [if_neg k1]
      split at h4
      · exact (by rename_i k;rw [if_pos k];unfold sepCode at h4;unfold szP;(repeat' split at h4)<;>first|(dsimp only;omega)|(exfalso;simp at h4;done)|(exfalso;omega))
      ·rename_i k2;rw [if_neg k2]
       split at h4
       ·rename_i k;rw [if_pos k];unfold resCode at h4;unfold szP
        split at h4
        ·rename_i e1;split at h4
         · exact (by rename_i e2;have l1:=tapsCode_side e1;have l2:=tapsCode_side e2;(repeat' split at h4)<;>first|(dsimp only;omega)|(exfalso;simp at h4;done)|(exfalso;omega))
         ·rename_i e2;exact absurd h4 e2
        ·rename_i e1;exact absurd h4 e1
       ·rename_i k3;rw [if_neg k3]
        split at h4
        ·rename_i k;rw [if_pos k];unfold szP
         split at h4
         · exact (by rename_i k5;rw [if_pos k5];have:=mul_bd (a:=s.w-1) (b:=s.h-1) (A:=s.w-1) (B:=s.h-1) om om;have e:(s.w-1)*(s.h-1)=s.w*s.h-s.w-s.h+1:=(by rw [Int.sub_mul,Int.mul_sub];omega);dsimp only;omega)
         ·exfalso;simp at h4
        ·rename_i k4;rw [if_neg k4]
         split at h4
         ·rename_i k;rw [if_pos k];unfold szP
          split at h4
          · exact (by rename_i k5;rw [if_pos k5];have h6:=of_decide_eq_true k5;have h7:mostV s.w s.h s.max_=s.w*s.h*s.max_:=(by unfold mostV;rw [if_pos k5]);have h8:0<s.w*s.h:=Int.mul_pos om om;have h9:0<s.w*s.h*s.max_:=Int.mul_pos h8 om;dsimp only;rw [h7];omega)
          ·exfalso;simp at h4
         ·rename_i k5;rw [if_neg k5];unfold szP
          split at h4
          ·rename_i k6;rw [if_pos k6];unfold pwCode at k6
           split at h4
           ·exfalso;simp at h4
           ·rename_i k7;rw [if_neg k7]
            split at k6
            ·split at k6
             ·dsimp only;omega
             ·exfalso;omega
            ·exfalso;rename_i k8;exact k8 k6
          ·rename_i k6;exact absurd h4 k6
    ·rename_i h4;exact absurd h h4
   ·exfalso;simp at h
  ·exfalso;simp at h
 ·exfalso;simp at h
end Go.Proofs.YtghcddbhllkbmaaGreat

namespace Go.Proofs.YtghcddbhllkbmaaGreat
open Go Go.E Go.Proofs.Tryz
set_option linter.all false
set_option maxRecDepth 100000
set_option maxHeartbeats 2000000
variable {W w:World} {H:Chunk} {F:List Chunk}
def BefG (ni:Int) (D:List (List Int)) (out:List Int):Prop:=∀pre x post,out=pre++x::post->∀s,D[(x-ni).toNat]?=some s->∀y∈s,y<ni\/y∈pre
theorem BefG.nil {ni:Int} {D:List (List Int)}:BefG ni D []:=by
  intro pre x post h;cases pre<;>simp at h
theorem BefG.add {ni:Int} {D:List (List Int)} {out:List Int} {k:Nat} (h:BefG ni D out) (hc:canG ni D out k):BefG ni D (out++[ni+(k:Int)]):=by
 intro c0 x b0 e s hs y hy
 rcases List.append_eq_append_iff.1 e with ⟨z,h1,h2⟩|⟨z,h1,h2⟩
 ·cases z with
  |nil=>
   simp at h1 h2
   obtain ⟨s2,a0,_,h4⟩:=hc
   rw [<-h2.1,show (ni+(k:Int)-ni).toNat=k by omega,a0] at hs
   obtain rfl:=Option.some.inj hs
   rw [h1];exact h4 y hy
  |cons a z=>simp at h2
 ·cases z with
  |nil=>
   simp at h1 h2
   obtain ⟨s2,a0,_,h4⟩:=hc
   rw [h2.1,show (ni+(k:Int)-ni).toNat=k by omega,a0] at hs
   obtain rfl:=Option.some.inj hs
   rw [<-h1];exact h4 y hy
  |cons a z=>
   simp at h2
   obtain ⟨rfl,h3⟩:=h2
   exact h c0 x z h1 s hs y hy
theorem list_bef {ni:Int} (hni:0<=ni) {D:List (List Int)}:∀(k:Nat) {out:List Int},BefG ni D out->BefG ni D (listG ni D k out)
  |0,out,h=>h
  |k+1,out,h=>by
    unfold listG
    rcases pick0 hni (out:=out) (D:=D) with h1|⟨m,h1,h2,_⟩
    · rw [if_pos h1.1];exact h
    · exact (by rw [if_neg (by omega),h1];exact list_bef hni k (h.add h2))
theorem OutG.every {ni:Int} {D:List (List Int)} {out:List Int} (h:OutG ni D out) (hl:out.length=D.length) {x:Int} (h1:ni<=x) (h2:x<ni+(D.length:Int)):x∈out:=by
  by_cases hx:x∈out
  · exact hx
  · exfalso
    have h3:OutG ni D (x::out):=⟨fun y hy=>by
      rcases List.mem_cons.1 hy with e|hy
      · rw [e];exact ⟨h1,h2⟩
      · exact h.r y hy,List.nodup_cons.2 ⟨hx,h.d⟩⟩
    have:=h3.len
    rw [List.length_cons] at this;omega
theorem stg_at {ss:List StageV} {ni:Int} {x:Int} {s:StageV} (h:ss[(x-ni).toNat]?=some s):stgAt ss ni x=s:=by unfold stgAt;rw [h];rfl
theorem a_src (s:StageV):s.a∈srcs s:=by unfold srcs;split<;>simp
theorem b_src {s:StageV} (h:twoP s):s.b∈srcs s:=by unfold srcs;rw [if_pos h];simp
def FitP (ni:Int) (ss:List StageV) (sh:List Shape) (x:Int):Prop:=shpStep ni ss x sh=(shpAt sh x,0)
theorem shpAt_set {sh:List Shape} {n y:Int} {v:Shape} (h:n.toNat≠y.toNat):shpAt (sh.set n.toNat v) y=shpAt sh y:=by
  unfold shpAt;rw [List.getElem?_set,if_neg h]
theorem shpStep_congr {ni n:Int} {ss:List StageV} {sh sh':List Shape} (h:∀y∈srcs (stgAt ss ni n),shpAt sh' y=shpAt sh y):shpStep ni ss n sh'=shpStep ni ss n sh:=by
  unfold shpStep
  rw [h _ (a_src _)]
  split
  · rename_i ht;rw [h _ (b_src ht)]
  · rfl
theorem shpStep_sz {ni n:Int} {ss:List StageV} {sh:List Shape} (h:(shpStep ni ss n sh).2=0):szP (shpStep ni ss n sh).1:=ofV_sz h
theorem shpGo_ok {ni:Int} {ss:List StageV}:∀(l pre:List Int) (out:List Shape),(pre++l).Nodup->(∀x∈pre++l,ni<=x/\x<out.length)->0<=ni->
  (∀p x q,pre++l=p++x::q->∀y∈srcs (stgAt ss ni x),0<=y/\(y<ni\/y∈p))->(∀x∈pre,szP (shpAt out x)/\FitP ni ss out x)->(shpGo ni ss l out).2.2=0->
  (shpGo ni ss l out).1.length=out.length/\(∀x∈pre++l,szP (shpAt (shpGo ni ss l out).1 x)/\FitP ni ss (shpGo ni ss l out).1 x)/\∀x,0<=x->x<ni->shpAt (shpGo ni ss l out).1 x=shpAt out x
 |[],pre,out,_,_,_,_,hp,_=>⟨rfl,by simpa [shpGo] using hp,fun _ _ _=>rfl⟩
 |n::l,pre,out,hd,hr,hn,hb,hp,h=>by
  unfold shpGo at h⊢
  split at h
  ·rename_i hs
   rw [if_pos hs]
   have hrn:=hr n (by simp)
   have hnd:n∉pre:=by
    intro hm
    have:=(List.nodup_append.1 hd).2.2 n hm n (by simp)
    exact this rfl
   have hk:∀y:Int,0<=y->(y<ni\/y∈pre)->shpAt (out.set n.toNat (shpStep ni ss n out).1) y=shpAt out y:=by
    intro y h0 hy
    refine shpAt_set ?_
    rcases hy with hy|hy
    ·omega
    ·have:=hr y (by simp [hy])
     have:y≠n:=fun e=>hnd (e▸hy)
     omega
   have hself:shpAt (out.set n.toNat (shpStep ni ss n out).1) n=(shpStep ni ss n out).1:=by
    unfold shpAt;rw [List.getElem?_set,if_pos rfl,if_pos om];rfl
   have e:pre++[n]++l=pre++n::l:=by simp
   have ih:=shpGo_ok (ni:=ni) (ss:=ss) l (pre++[n]) (out.set n.toNat (shpStep ni ss n out).1) (by rw [e];exact hd) (by rw [e,List.length_set];exact hr) hn (by rw [e];exact hb) (by
    intro x hx
    rcases List.mem_append.1 hx with hx|hx
    ·have h1:=hp x hx
     have hx0:=hr x (by simp [hx])
     obtain ⟨p,q,hpq⟩:=List.append_of_mem hx
     have hsrc:=hb p x (q++n::l) (by rw [hpq];simp)
     refine ⟨by rw [hk x om (.inr hx)];exact h1.1,?_⟩
     unfold FitP
     rw [hk x om (.inr hx),shpStep_congr (sh:=out) (fun y hy=>by
      have:=hsrc y hy
      exact hk y this.1 (this.2.imp id (fun h=>by rw [hpq];simp [h])))]
     exact h1.2
    ·simp only [List.mem_singleton] at hx
     subst hx
     have hsrc:=hb pre x l rfl
     refine ⟨by rw [hself];exact shpStep_sz hs,?_⟩
     unfold FitP
     rw [hself,shpStep_congr (sh:=out) (fun y hy=>hk y (hsrc y hy).1 (hsrc y hy).2)]
     exact Prod.ext rfl hs) h
   rw [e,List.length_set] at ih
   exact ⟨ih.1,ih.2.1,fun x h0 hx=>by rw [ih.2.2 x h0 hx];exact hk x h0 (.inl hx)⟩
  ·rename_i hs;exact absurd h hs
structure ShpOK (j:JobV):Prop where
  ch:chkCode j=0
  od:(ordV j).2=0
  nn:1<=j.inputs.length/\1<=j.stages.length/\j.inputs.length+j.stages.length<=16
  rng:∀x∈(ordV j).1,(j.inputs.length:Int)<=x/\x<(j.inputs.length:Int)+j.stages.length
  nd:(ordV j).1.Nodup
  ln:(ordV j).1.length=j.stages.length
  every:∀x:Int,(j.inputs.length:Int)<=x->x<(j.inputs.length:Int)+j.stages.length->x∈(ordV j).1
  bef:∀p x q,(ordV j).1=p++x::q->∀y∈srcs (stgAt j.stages j.inputs.length x),0<=y/\(y<(j.inputs.length:Int)\/y∈p)
  len:(shpV j).1.length=j.inputs.length+j.stages.length
  sz:∀x:Int,0<=x->x<(j.inputs.length:Int)+j.stages.length->szP (shpAt (shpV j).1 x)
  fit:∀x∈(ordV j).1,FitP j.inputs.length j.stages (shpV j).1 x
theorem shp_ok {j:JobV} (h:(shpV j).2.2=0):ShpOK j:=by
 unfold shpV at h
 split at h
 ·rename_i ho
  split at h
  ·rename_i hp
   have hc:=ordV_chk ho
   have hl:=ord_list hc
   have hn:=chk_len hc
   have e0:(ordV j).1=listV j/\(listV j).length=j.stages.length:=by
    have h1:=hl.1
    split at h1
    ·rw [h1] at ho;simp at ho
    · exact (by rename_i h2;have h3:=hl.2.len;rw [List.length_map] at h3;exact ⟨by rw [h1],om⟩)
   have a0:OutG j.inputs.length (j.stages.map srcs) (ordV j).1:=by rw [e0.1];exact hl.2
   have b0:=a0.r
   rw [List.length_map] at b0
   have i0:BefG j.inputs.length (j.stages.map srcs) (ordV j).1:=by rw [e0.1];exact list_bef om _ BefG.nil
   have k0:∀x:Int,(j.inputs.length:Int)<=x->x<(j.inputs.length:Int)+j.stages.length->∃s,j.stages[(x-(j.inputs.length:Int)).toNat]?=some s/\stgAt j.stages j.inputs.length x=s:=(by intro x h1 h2;have g0:(x-(j.inputs.length:Int)).toNat<j.stages.length:=(by omega);exact ⟨_,List.getElem?_eq_getElem g0,stg_at (List.getElem?_eq_getElem g0)⟩)
   have c0:∀p x q,(ordV j).1=p++x::q->∀y∈srcs (stgAt j.stages j.inputs.length x),0<=y/\(y<(j.inputs.length:Int)\/y∈p):=(by intro p x q e y hy;have hx:=b0 x (by rw [e];simp);obtain ⟨s,hs,he⟩:=k0 x hx.1 hx.2;rw [he] at hy;refine ⟨(chk_srcs hc (s:=s) (List.mem_of_getElem? hs) y hy).1,?_⟩;exact i0 p x q e (srcs s) (by rw [List.getElem?_map,hs];rfl) y hy)
   have d0:(j.inputs.map shpOf++List.replicate j.stages.length (⟨0,0,0⟩:Shape)).length=j.inputs.length+j.stages.length:=by simp
   have f0:=shpGo_ok (ni:=j.inputs.length) (ss:=j.stages) (ordV j).1 [] (j.inputs.map shpOf++List.replicate j.stages.length ⟨0,0,0⟩) (by simpa using a0.d) (by rw [d0];intro x hx;have:=b0 x (by simpa using hx);omega) om (by simpa using c0) (by intro x hx;cases hx) h
   have m0:(shpV j).1=(shpGo j.inputs.length j.stages (ordV j).1 (j.inputs.map shpOf++List.replicate j.stages.length ⟨0,0,0⟩)).1:=(by unfold shpV;rw [if_pos ho,if_pos hp])
   rw [<-m0,d0] at f0
   have l0:∀x:Int,(j.inputs.length:Int)<=x->x<(j.inputs.length:Int)+j.stages.length->x∈(ordV j).1:=fun x h1 h2=>a0.every (by rw [List.length_map,e0.1];exact e0.2) h1 (by rw [List.length_map];exact h2)
   refine ⟨hc,ho,hn,b0,a0.d,by rw [e0.1];exact e0.2,l0,c0,f0.1,?_,fun x hx=>(f0.2.1 x (by simpa using hx)).2⟩
   intro x h0 hx
   by_cases hi:x<(j.inputs.length:Int)
   ·rw [f0.2.2 x h0 hi]
    have g0:x.toNat<j.inputs.length:=by omega
    have j0:=List.all_eq_true.1 hp (j.inputs[x.toNat]) (List.getElem_mem _)
    unfold shpAt
    rw [List.getElem?_append_left (by simp;omega),List.getElem?_map,List.getElem?_eq_getElem g0]
    unfold planeOK at j0
    simp only [Bool.and_eq_true,decide_eq_true_eq] at j0
    have:=j0.1.1
    unfold sizeP at this
    show szP (shpOf _)
    unfold szP shpOf
    dsimp only
    omega
   ·exact (f0.2.1 x (by simpa using l0 x om hx)).1
  ·simp at h
 ·rename_i ho;exact absurd h ho
structure LayG (L:Lay):Prop where
  ni:1<=L.ni/\L.ni+(L.ss.length:Int)<=16
  rng:∀x∈L.od,L.ni<=x/\x<L.ni+(L.ss.length:Int)
  every:∀x:Int,L.ni<=x->x<L.ni+(L.ss.length:Int)->x∈L.od
  nd:L.od.Nodup
  ln:L.od.length=L.ss.length
  bef:∀p x q,L.od=p++x::q->∀y∈srcs (L.st x),0<=y/\(y<L.ni\/y∈p)
  len:(L.sh.length:Int)=L.ni+(L.ss.length:Int)
  sz:∀x:Int,0<=x->x<L.ni+(L.ss.length:Int)->szP (shpAt L.sh x)
  fit:∀x∈L.od,FitP L.ni L.ss L.sh x
  tl:tileP L.tw L.th
theorem lay_ok {j:JobV} {tw th:Int} (h:ShpOK j) (ht:tileP tw th):LayG (layV j tw th):=
  ⟨by have:=h.nn;simp only [layV];omega,h.rng,h.every,h.nd,h.ln,h.bef,by have:=h.len;simp only [layV];omega,h.sz,h.fit,ht⟩
section
variable {L:Lay} (g:LayG L)
include g
theorem LayG.src {x:Int} (hx:x∈L.od):∀y∈srcs (L.st x),0<=y/\y<L.ni+(L.ss.length:Int)/\(y<L.ni\/y∈L.od):=by
  obtain ⟨p,q,e⟩:=List.append_of_mem hx
  intro y hy
  have h:=g.bef p x q e y hy
  rcases h.2 with h2|h2
  · exact ⟨h.1,by omega, .inl h2⟩
  · exact (by have hm:y∈L.od:=(by rw [e];simp [h2]);have:=g.rng y hm;exact ⟨h.1,this.2, .inr hm⟩)
theorem LayG.cutsz {x:Int} (hx:x∈L.od):szP (L.cut x):=by
  unfold Lay.cut
  split
  · have:=g.src hx _ (a_src _);exact g.sz _ this.1 this.2.1
  · have:=g.rng x hx;have:=g.ni;exact g.sz _ (by omega) (by omega)
theorem LayG.fine {x:Int} (hx:x∈L.od):fineP (L.cut x).w (L.cut x).h L.tw L.th:=by
  have h:=g.cutsz hx
  have ht:=g.tl
  unfold szP at h;unfold tileP at ht
  unfold fineP
  omega
theorem LayG.byt {x:Int} (hx:x∈L.od):bytOK (L.st x):=by
  have h:=g.fit x hx
  unfold FitP shpStep at h
  exact of_bytOK (congrArg Prod.snd h)
theorem LayG.grid {x:Int} (hx:x∈L.od):(1<=L.nx x/\L.nx x<=128)/\(1<=L.ny x/\L.ny x<=128)/\1<=L.nx x*L.ny x/\L.nx x*L.ny x<=16384:=by
  have h:=cols_bd (g.fine hx)
  unfold Lay.nx Lay.ny
  refine ⟨h.1,h.2,?_,?_⟩
  · have:=Int.mul_le_mul h.1.1 h.2.1 (by omega) (by omega);omega
  · have:=Int.mul_le_mul h.1.2 h.2.2 (by omega) (by omega);omega
theorem LayG.cntb {x:Int} (hx:x∈L.od):1<=L.cnt x/\L.cnt x<=16385:=by
  have h:=(g.grid hx).2.2
  unfold Lay.cnt
  split<;>omega
end
theorem firstG_pre {f:Int->Int} {x:Int}:∀(p q:List Int),x∉p->firstG f (p++x::q) x=(p.map f).sum
  |[],q,_=>by simp [firstG]
  |y::p,q,h=>by
    have hy:y≠x:=fun e=>h (by simp [e])
    rw [List.cons_append,firstG,if_neg hy,firstG_pre p q (fun hm=>h (by simp [hm]))]
    simp
theorem sum_nn {f:Int->Int}:∀(l:List Int),(∀x∈l,0<=f x)->0<=(l.map f).sum
  |[],_=>by simp
  |y::l,h=>by
    have:=sum_nn l (fun x hx=>h x (by simp [hx]))
    have:=h y (by simp)
    simp;omega
theorem LayG.first_at {L:Lay} (g:LayG L) {p q:List Int} {x:Int} (e:L.od=p++x::q):L.first x=(p.map L.cnt).sum/\x∉p:=by
  have hn:=g.nd
  rw [e] at hn
  have hx:x∉p:=fun hm=>(List.nodup_append.1 hn).2.2 x hm x (by simp) rfl
  exact ⟨(by unfold Lay.first;rw [e,firstG_pre p q hx]),hx⟩
theorem LayG.firstb {L:Lay} (g:LayG L) {x:Int} (hx:x∈L.od):0<=L.first x/\L.first x+L.cnt x<=L.total:=by
  obtain ⟨p,q,e⟩:=List.append_of_mem hx
  obtain ⟨h1,h2⟩:=g.first_at e
  have hp:=sum_nn (f:=L.cnt) p (fun y hy=>by have:=g.cntb (x:=y) (by rw [e];simp [hy]);omega)
  have hq:=sum_nn (f:=L.cnt) q (fun y hy=>by have:=g.cntb (x:=y) (by rw [e];simp [hy]);omega)
  refine ⟨by omega,?_⟩
  have ht:L.total=(p.map L.cnt).sum+(L.cnt x+(q.map L.cnt).sum):=by unfold Lay.total;rw [e];simp
  omega
theorem LayG.totb {L:Lay} (g:LayG L):0<=L.total/\L.total<=262160:=by
  have h:∀l:List Int,(∀x∈l,x∈L.od)->(l.map L.cnt).sum<=16385*l.length:=by
    intro l
    induction l with
    |nil=>intro _;simp
    |cons y l ih=>intro hm;have h1:=ih (fun x hx=>hm x (by simp [hx]));have h2:=g.cntb (hm y (by simp));simp only [List.map_cons,List.sum_cons,List.length_cons];push_cast;omega
  have h1:=h L.od (fun _ hx=>hx)
  have h2:=sum_nn (f:=L.cnt) L.od (fun y hy=>by have:=g.cntb hy;omega)
  have h3:=g.ln;have h4:=g.ni
  unfold Lay.total
  constructor
  · exact h2
  · exact (by have:(L.od.length:Int)<=15:=(by omega);omega)
theorem til_len {s:StageV} {w h tw th:Int} {r:Rct}:(tilesV s w h tw th r).length<=16384:=by
  unfold tilesV
  refine Nat.le_trans (List.length_filter_le _ _) ?_
  rw [upto_len]
  unfold tilN
  by_cases hf:fineP w h tw th
  · exact (by have hb:=cols_bd hf;have:=mul_bd (a:=colsN w h tw th) (b:=rowsN w h tw th) (A:=128) (B:=128) (by omega) (by omega);omega)
  · rw [(cols_no hf).1];simp
theorem srcDeps_len {L:Lay} (g:LayG L) {s:StageV} {r:Rct} {x:Int} (hx:x<L.ni\/x∈L.od):(L.srcDeps s r x).length<=16385:=by
  unfold Lay.srcDeps
  split
  · simp
  · rename_i h0
    have hm:x∈L.od:=by rcases hx with h|h;exact absurd h h0;exact h
    split
    · rw [List.length_map,upto_len];have:=g.cntb hm;omega
    · split
      · simp
      · rw [List.length_map];exact Nat.le_trans til_len (by omega)
theorem flat_len2 {L:Lay} (g:LayG L) {s:StageV} {r:Rct}:∀l:List Int,(∀x∈l,x<L.ni\/x∈L.od)->(l.flatMap (L.srcDeps s r)).length<=16385*l.length
  |[],_=>by simp
  |x::l,h=>by
    rw [List.flatMap_cons,List.length_append,List.length_cons]
    have h1:=srcDeps_len (s:=s) (r:=r) g (h x (by simp))
    have h2:=flat_len2 (s:=s) (r:=r) g l (fun y hy=>h y (by simp [hy]))
    omega
theorem take_flat {α:Type} {l:List Int} {i:Nat} {x:Int} {f:Int->List α} (h:l[i]?=some x):(l.take (i+1)).flatMap f=(l.take i).flatMap f++f x:=by
  rw [List.take_add_one,h,Option.toList_some,List.flatMap_append];simp
theorem shp_at' {l:List Shape} {i:Int} {m:Shape} (h:l[i.toNat]?=some m):shpAt l i=m:=by unfold shpAt;rw [h];rfl
theorem take_split {l:List Int} {i:Nat} {x:Int} (h:l[i]?=some x):l=l.take i++x::l.drop (i+1):=by
  obtain ⟨hl,e⟩:=List.getElem?_eq_some_iff.1 h
  conv=>lhs;rw [<-List.take_append_drop i l,List.drop_eq_getElem_cons hl,e]
theorem sum_take {f:Int->Int} {l:List Int} {i:Nat} {x:Int} (h:l[i]?=some x):((l.take (i+1)).map f).sum=((l.take i).map f).sum+f x:=by
  rw [List.take_add_one,h,Option.toList_some,List.map_append,List.sum_append];simp
theorem tasks_len {L:Lay} (g:LayG L) {x:Int} (hx:x∈L.od):((L.tasks x).length:Int)=L.cnt x:=by
  have h:=(g.grid hx).2.2
  unfold Lay.tasks Lay.cnt
  rw [List.length_append,List.length_map,upto_len]
  split<;>simp<;>omega
theorem tasks_sum {L:Lay} (g:LayG L):∀l:List Int,(∀x∈l,x∈L.od)->((l.flatMap L.tasks).length:Int)=(l.map L.cnt).sum
  |[],_=>rfl
  |x::l,h=>by
    rw [List.flatMap_cons,List.length_append,List.map_cons,List.sum_cons,<-tasks_sum g l (fun y hy=>h y (by simp [hy])),<-tasks_len g (h x (by simp))]
    push_cast;rfl
theorem take_sum_le {L:Lay} (g:LayG L) (i:Nat):0<=((L.od.take i).map L.cnt).sum/\((L.od.take i).map L.cnt).sum<=L.total:=by
  have h1:=sum_nn (f:=L.cnt) (L.od.take i) (fun y hy=>by have:=g.cntb (List.mem_of_mem_take hy);omega)
  have h2:=sum_nn (f:=L.cnt) (L.od.drop i) (fun y hy=>by have:=g.cntb (List.mem_of_mem_drop hy);omega)
  have h3:L.total=((L.od.take i).map L.cnt).sum+((L.od.drop i).map L.cnt).sum:=(by unfold Lay.total;rw [<-List.sum_append,<-List.map_append,List.take_append_drop])
  omega
end Go.Proofs.YtghcddbhllkbmaaGreat
