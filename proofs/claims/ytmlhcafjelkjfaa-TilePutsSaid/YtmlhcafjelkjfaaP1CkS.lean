import Derived.Test.YtmlhcafjelkjfaaP1Ab
import Derived.WalkKit
import Derived.Deep.Quiet
import Derived.KernelRfl
import Derived.Laws.BytesString
import Derived.Laws.Shifts
import Derived.Laws.IdiomStrings
import Derived.Test.YtmlhcafjelkjfaaProg
import Derived.Test.YtmlhcafjelkjfaaP1CkQ
namespace Go.Proofs.Ytmlhcafjelkjfaa
open Go Go.E Go.Proofs.Try
set_option linter.all false
set_option maxRecDepth 100000
set_option maxHeartbeats 2000000
variable {W w:World} {H:Chunk} {F:List Chunk}
theorem p15_valid (s:Shape) (hS:Sat W w (H::F)):
  Ro prog 57 #[.agg #[I s.w,I s.h,I s.max_]] (.bool (decide ((1:Int)<=s.w/\s.w<=(128:Int)/\(1:Int)<=s.h/\s.h<=(128:Int)/\s.w*s.h<=(4096:Int)/\(1:Int)<=s.max_/\s.max_<=(4294967296:Int)))) W w (H::F):=by
 refine callsA 42 func57 rfl<|sR<|sBox hS (.agg #[I s.w,I s.h,I s.max_]) #[I s.w,I s.h,I s.max_] fun _ _ a0=>pu1<|zQ<|pu1<|sL a0 0 0 (I s.w) (isAgg3 _)<|pu2<|sD 8 (s.w<1) (fun b0=>?_) (fun b0=>?_)
 ·exact pu16<|pu8<|zC<|pu1<|zR<|retT [.bool false]<|⟨rB (decide_eq_false om).symm,(a0.dropAt 0 rfl)⟩
 refine pu1<|gY<|sL a0 0 0 (I s.w) (isAgg3 _)<|pu3<|sD 13 (s.w>128) (fun d0=>?_) (fun d0=>?_)
 ·exact pu16<|pu3<|zC<|pu1<|zR<|retT [.bool false]<|⟨rB (decide_eq_false om).symm,(a0.dropAt 0 rfl)⟩
 refine pu1<|gY<|sL a0 0 1 (I s.h) (isAgg3 _)<|pu3<|sD 18 (s.h<1) (fun f0=>?_) (fun f0=>?_)
 ·exact pu14<|zC<|pu1<|zR<|retT [.bool false]<|⟨rB (decide_eq_false om).symm,(a0.dropAt 0 rfl)⟩
 refine pu1<|gY<|sL a0 0 1 (I s.h) (isAgg3 _)<|pu3<|sD 23 (s.h>128) (fun h0=>?_) (fun h0=>?_)
 ·exact pu9<|zC<|pu1<|zR<|retT [.bool false]<|⟨rB (decide_eq_false om).symm,(a0.dropAt 0 rfl)⟩
 refine pu1<|gY<|sL a0 0 2 (I s.max_) (isAgg3 _)<|pu3<|sD 28 (s.max_<1) (fun j0=>?_) (fun j0=>?_)
 ·exact pu4<|zC<|pu1<|zR<|retT [.bool false]<|⟨rB (decide_eq_false om).symm,(a0.dropAt 0 rfl)⟩
 refine pu1<|gY<|sL a0 0 2 (I s.max_) (isAgg3 _)<|pu2<|nT<|cD (s.max_>4294967296) (fun l0=>?_) (fun l0=>?_)
 ·exact sR<|pu1<|zR<|retT [.bool false]<|⟨rB (decide_eq_false om).symm,(a0.dropAt 0 rfl)⟩
 exact kS<|pu1<|sL a0 0 0 (I s.w) (isAgg3 _)<|pu1<|sL a0 0 1 (I s.h) (isAgg3 _)<|cR call43 (p1_mul s.w s.h 4096 (od) a0.flat) fun _ n0=>pu5<|zS<|pu2<|zE<|retT [.bool (mulOK s.w s.h 4096)]<|⟨rB (show mulOK s.w s.h 4096=_ from decide_eq_decide.2 om),(n0.dropAt 0 rfl)⟩
theorem p15_edged (x:Int) (hS:Sat W w (H::F)):
  Ro prog 58 #[I x] (.bool (decide (x=1\/x=2\/x=3))) W w (H::F):=by
 refine callsA 13 func58 rfl<|sR<|pu1<|zS<|pu3<|sE 5 x 1 (fun a0=>?_) (fun a0=>?_)
 ·exact pu8<|zE<|retT [.bool true]<|⟨rB bq,hS⟩
 refine pu4<|sE 9 x 2 (fun b0=>?_) (fun b0=>?_)
 ·exact pu4<|zE<|retT [.bool true]<|⟨rB bq,hS⟩
 exact pu4<|zE<|retT [.bool ((x:Int)==3)]<|⟨rB bq,hS⟩
theorem p15_pair (q:Stage) (hq:Stage.Ok [H] q) (hS:Sat W w (H::F)):
  Ro prog 45 #[.agg (encStage q).toArray] (.bool (decide (q.kind=6/\¬q.b=-1))) W w (H::F):=by
 have hl_q_weights:=hq.weights.le;have hn_q_weights:=hq.weights.len
 have hl_q_row:=hq.row.le;have hn_q_row:=hq.row.len
 have hl_q_col:=hq.col.le;have hn_q_col:=hq.col.len
 have hl_q_x:=hq.x.le;have hn_q_x:=hq.x.len
 have hl_q_y:=hq.y.le;have hn_q_y:=hq.y.len
 have hl_q_ops:=hq.ops.le;have hn_q_ops:=hq.ops.len
 refine callsA 11 func45 rfl<|sR<|sBox hS (.agg (encStage q).toArray) (encStage q).toArray fun _ _ a0=>pu1<|zS<|pu1<|sL a0 0 0 (I q.kind) (isAgg3 _)<|pu2<|sE 6 q.kind 6 (fun b0=>?_) (fun b0=>?_)
 rotate_left
 ·refine pu5<|zE<|retT [.bool false] ?_
  have c0:=(a0.dropAt 0 rfl)
  exact ⟨rB bq,c0⟩
 refine pu1<|gY<|sL a0 0 2 (I q.b) (isAgg3 _)<|pu3<|zE<|retT [.bool ((q.b:Int)!=(-1))] ?_
 have d0:=(a0.dropAt 0 rfl)
 exact ⟨rB bq,d0⟩
theorem p15_sources (q:Stage) (hq:Stage.Ok [H] q) (hS:Sat W w (H::F)):
  Calls prog 38 #[.agg (encStage q).toArray] w fun e w'=>∃(az:Option Addr) (nz kz:Nat) (G:Chunk),e= .returned (.slice az nz kz)/\OwnT Go.E.encI 3 1 az nz kz (srcs q.v) G/\Sat W w' (G::H::F):=by
 have hl_q_weights:=hq.weights.le;have hn_q_weights:=hq.weights.len
 have hl_q_row:=hq.row.le;have hn_q_row:=hq.row.len
 have hl_q_col:=hq.col.le;have hn_q_col:=hq.col.len
 have hl_q_x:=hq.x.le;have hn_q_x:=hq.x.len
 have hl_q_y:=hq.y.le;have hn_q_y:=hq.y.len
 have hl_q_ops:=hq.ops.le;have hn_q_ops:=hq.ops.len
 refine callsA 13 func38 rfl<|sR<|sBox hS (.agg (encStage q).toArray) (encStage q).toArray fun _ _ b0=>pu1<|zQ<|lA b0 0 0 18 (isAgg59 _) (sizeOf59 _)<|cR call45 (p15_pair q (hq.of_mem (mem_flat1 1 (by rfl))) b0.flat) fun _ a0=>nT<|cD (q.kind=6/\¬q.b=-1) (fun e0=>?_) (fun e0=>?_)
 rotate_left
 ·refine kS<|pu1<|sL a0 0 1 (I q.a) (isAgg3 _)<|sBS a0 #[I q.a] runUnderlying22 sizeOf3 zeroValue3 fun c0 _ f0=>pu1<|zE<|retT [.slice (At c0 0) 1 1] ?_
  have g0:=OwnT.blk (enc:=Go.E.encI) (sz:=1) (b:=c0) (c:=#[I q.a]) (E:=3) (xs:=[q.a]) fR 1 rfl rfl rfl om
  have h0:=(f0.dropAt 1 rfl)
  have hl:[q.a]=srcs q.v:=(by unfold srcs;rw [if_neg (by unfold twoP;simp only [Stage.v];omega)];rfl)
  have hrd:=g0
  rw [hl] at hrd
  exact ⟨_,_,_,_,rfl,hrd,h0⟩
 refine sR<|pu1<|sL a0 0 1 (I q.a) (isAgg3 _)<|pu1<|sL a0 0 2 (I q.b) (isAgg3 _)<|sBS a0 #[I q.a,I q.b] runUnderlying22 sizeOf3 zeroValue3 fun d0 _ i0=>pu1<|zR<|retT [.slice (At d0 0) 2 2] ?_
 have j0:=OwnT.blk (enc:=Go.E.encI) (sz:=1) (b:=d0) (c:=#[I q.a,I q.b]) (E:=3) (xs:=[q.a,q.b]) fR 2 rfl rfl rfl om
 have k0:=(i0.dropAt 1 rfl)
 have hl:[q.a,q.b]=srcs q.v:=(by unfold srcs;rw [if_pos (by unfold twoP;simp only [Stage.v];omega)];rfl)
 have hrd:=j0
 rw [hl] at hrd
 exact ⟨_,_,_,_,rfl,hrd,k0⟩
theorem p15_is {b bz:Nat} {q:Stage} {k:Int} (hS:Sat W w ([(b, .cells (encStage q).toArray 59 (0,0))]::[(bz, .cells #[I k] 3 (0,0))]::F)):
  Calls prog 74 #[.slice (At bz 0) 1 1,Pt b 0] w fun e w'=>e= .returned (.bool (decide (q.kind=k)))/\Sat W w' ([(b, .cells (encStage q).toArray 59 (0,0))]::[(bz, .cells #[I k] 3 (0,0))]::F):=by
 refine callsA 17 func74 rfl<|sR<|pu1<|zQ<|pu3<|nT<|blockE<|loopN 3<|roundS<|sR<|pu1<|nT<|seqE<|cTt<|kT<|seqE<|blockE<|sR<|stepY (Pt bz 0) rfl rfl (Y_idx (a:=(At bz 0)) (i:=0) (len:=1) (cap:=1) rfl runUnderlying22 sizeOf3 kr kr ⟨_,rfl,add_off _ 0 _,by decide,by decide⟩) ?_
 refine sL hS 1 0 (I k) (isAgg3 _)<|pu1<|zS<|pu1<|sL hS 0 0 (I q.kind) (isAgg3 _)<|pu2<|nT<|cE q.kind k (fun a0=>?_) (fun a0=>?_)
 ·exact sR<|pu1<|zB<|tR<|tK<|retT [.bool true]<|⟨rB ((decide_eq_true om).symm),hS⟩
 exact skipE<|bN<|tN<|rE<|pu2<|nT<|roundS<|sR<|pu1<|nT<|seqE<|cFf<|exitE<|xB<|tN<|sR<|pu1<|zE<|retT [.bool false]<|⟨rB ((decide_eq_false om).symm),hS⟩
theorem fdF {W w:World} {cs:List Chunk} {q:StageV} (h:¬fieldsP q) (hS:Sat W w cs):Ending.returned (.bool false)= .returned (.bool (decide (fieldsP q)))/\Sat W w cs:=⟨rB (decide_eq_false h).symm,hS⟩
theorem fdT {W w:World} {cs:List Chunk} {q:StageV} (h:fieldsP q) (hS:Sat W w cs):Ending.returned (.bool true)= .returned (.bool (decide (fieldsP q)))/\Sat W w cs:=⟨rB (decide_eq_true h).symm,hS⟩
theorem p15_fields (q:Stage) (hq:Stage.Ok [H] q) (hS:Sat W w (H::F)):
  Ro prog 56 #[.agg (encStage q).toArray] (.bool (decide (fieldsP q.v))) W w (H::F):=by
 have hl_q_weights:=hq.weights.le;have hn_q_weights:=hq.weights.len
 have hl_q_row:=hq.row.le;have hn_q_row:=hq.row.len
 have hl_q_col:=hq.col.le;have hn_q_col:=hq.col.len
 have hl_q_x:=hq.x.le;have hn_q_x:=hq.x.len
 have hl_q_y:=hq.y.le;have hn_q_y:=hq.y.len
 have hl_q_ops:=hq.ops.le;have hn_q_ops:=hq.ops.len
 have hmx:(q.x.l.map Tap.v).length=q.x.n:=by simp [hn_q_x]
 have hmy:(q.y.l.map Tap.v).length=q.y.n:=by simp [hn_q_y]
 refine callsA 146 func56 rfl<|sR<|sBox hS (.agg (encStage q).toArray) (encStage q).toArray fun d0 _ h0=>pu1<|zQ<|pu1<|sL h0 0 0 (I q.kind) (isAgg3 _)<|pu2<|sD 12 (q.kind<1) (fun n1=>?_) (fun n1=>?_)
 ·refine pu4<|zC<|pu1<|zR<|retT [.bool false] ?_
  have o1:=(h0.dropAt 0 rfl)
  exact fdF (by unfold fieldsP;simp only [Stage.v];omega) o1
 refine pu1<|gY<|sL h0 0 0 (I q.kind) (isAgg3 _)<|pu2<|nT<|cD (q.kind>6) (fun q1=>?_) (fun q1=>?_)
 ·refine sR<|pu1<|zR<|retT [.bool false] ?_
  have r1:=(h0.dropAt 0 rfl)
  exact fdF (by unfold fieldsP;simp only [Stage.v];omega) r1
 refine kT<|cutA (γ:=Unit) (fun _=>[(1,Pt d0 0)]) (fun _ w=>Sat W w ([(d0, .cells (encStage q).toArray 59 (0,0))]::H::F)/\((1<=q.kind/\q.kind<=6)/\(q.kind=6\/q.b=-1))) ?_ ?_
 ·refine sR<|pu1<|sL h0 0 0 (I q.kind) (isAgg3 _)<|pu2<|sN 20 q.kind 6 (fun s1=>?_) (fun s1=>?_)
  ·exact pu4<|nT<|cFf<|kT<|⟨(),alA,h0,om⟩
  refine pu1<|gY<|sL h0 0 2 (I q.b) (isAgg3 _)<|pu2<|nT<|cN q.b (-1) (fun t1=>?_) (fun t1=>?_)
  ·exact kT<|⟨(),alA,h0,om⟩
  refine sR<|pu1<|zR<|retT [.bool false] ?_
  have u1:=(h0.dropAt 0 rfl)
  exact fdF (by unfold fieldsP;simp only [Stage.v];omega) u1
 rintro _ ρ _ ⟨y0,hK⟩
 refine sR<|pu2<|zS<|pu1<|sL y0 0 0 (I q.kind) (isAgg3 _)<|cR call58 (p15_edged q.kind y0.flat) fun _ v1=>pu1<|zS<|pu1<|sBS v1 #[I 1] runUnderlying22 sizeOf3 zeroValue3 fun _ _ w1=>?_
 have x1:=(w1.picks [0,1])
 refine cXc #[Pt d0 0] call74 (p15_is x1) ?_
 rintro _ _ ⟨rfl,y1⟩
 refine pu1<|zS<|pu1<|sBS y1 #[I 2] runUnderlying22 sizeOf3 zeroValue3 fun _ _ z1=>?_
 have a2:=(z1.picks [0,1])
 refine cXc #[Pt d0 0] call74 (p15_is a2) ?_
 rintro _ _ ⟨rfl,b2⟩
 refine pu1<|zS<|pu1<|sBS b2 #[I 3] runUnderlying22 sizeOf3 zeroValue3 fun _ _ c2=>?_
 have d2:=(c2.picks [0,1])
 refine cXc #[Pt d0 0] call74 (p15_is d2) ?_
 rintro _ _ ⟨rfl,i0⟩
 refine pu1<|nT ?_
 rcases (by omega:q.kind=1\/q.kind=2\/q.kind=3\/q.kind=4\/q.kind=5\/q.kind=6) with o8|p8|q8|r8|s8|t8
 ·refine sR<|pu1<|sBS i0 #[I 6] runUnderlying22 sizeOf3 zeroValue3 fun _ _ e2=>?_
  have f2:=(e2.picks [0,1])
  refine cXc #[Pt d0 0] call74 (p15_is f2) ?_
  rintro _ _ ⟨rfl,e0⟩
  refine pu1<|zS<|pu2 ?_
  have o0:q.kind=1\/q.kind=2\/q.kind=3:=om
  refine sFix 42 _ true (decide_eq_true o0)<|pu8 ?_
  have g2:q.kind=1:=om
  refine sFix 50 _ true (decide_eq_true g2)<|pu16<|pu3 ?_
  have z0:¬(q.kind=2):=by omega
  refine sFix 69 _ false (decide_eq_false z0)<|pu1<|gY<|sL e0 0 9 (.slice q.row.a q.row.n q.row.k) (isAgg22 _)<|pu3<|sE 74 (q.row.n:Int) 0 (fun h2=>?_) (fun h2=>?_)
  rotate_left
  ·refine pu16<|pu16<|pu16<|pu16<|pu8<|zE<|retT [.bool false] ?_
   have i2:=(e0.drops [0,0,0,0,0])
   exact fdF (by unfold fieldsP;simp only [Stage.v];omega) i2
  refine pu1<|gY<|sL e0 0 10 (.slice q.col.a q.col.n q.col.k) (isAgg22 _)<|pu6<|sE 82 (q.col.n:Int) 0 (fun j2=>?_) (fun j2=>?_)
  rotate_left
  ·refine pu16<|pu16<|pu16<|pu16<|zE<|retT [.bool false] ?_
   have k2:=(e0.drops [0,0,0,0,0])
   exact fdF (by unfold fieldsP;simp only [Stage.v];omega) k2
  refine pu2<|sFix 84 _ true (decide_eq_true o0)<|pu8<|sFix 92 _ false (decide_eq_false z0)<|pu3 ?_
  have a1:¬(q.kind=3):=by omega
  refine sFix 95 _ false (decide_eq_false a1)<|pu1<|gY<|sL e0 0 12 (I q.shift2) (isAgg3 _)<|pu4<|sE 101 q.shift2 0 (fun l2=>?_) (fun l2=>?_)
  rotate_left
  ·refine pu16<|pu16<|pu13<|zE<|retT [.bool false] ?_
   have m2:=(e0.drops [0,0,0,0,0])
   exact fdF (by unfold fieldsP;simp only [Stage.v];omega) m2
  refine pu2<|sFix 103 _ false (decide_eq_false a1)<|pu1<|gY<|sL e0 0 13 (.slice q.x.a q.x.n q.x.k) (isAgg56 _)<|pu3<|sE 108 (q.x.n:Int) 0 (fun n2=>?_) (fun n2=>?_)
  rotate_left
  ·refine pu16<|pu16<|pu6<|zE<|retT [.bool false] ?_
   have o2:=(e0.drops [0,0,0,0,0])
   exact fdF (by unfold fieldsP;simp only [Stage.v];omega) o2
  refine pu1<|gY<|sL e0 0 14 (.slice q.y.a q.y.n q.y.k) (isAgg56 _)<|pu6<|sE 116 (q.y.n:Int) 0 (fun q2=>?_) (fun q2=>?_)
  rotate_left
  ·refine pu16<|pu14<|zE<|retT [.bool false] ?_
   have r2:=(e0.drops [0,0,0,0,0])
   exact fdF (by unfold fieldsP;simp only [Stage.v];omega) r2
  refine pu1<|gY<|sBS e0 #[I 4] runUnderlying22 sizeOf3 zeroValue3 fun _ _ s2=>gY ?_
  have t2:=(s2.picks [0,1])
  refine cXc #[Pt d0 0] call74 (p15_is t2) ?_
  rintro _ _ ⟨rfl,k0⟩
  refine pu1 ?_
  have u2:¬(q.kind=4):=by omega
  refine sFix 120 _ false (decide_eq_false u2)<|pu1<|gY<|sL k0 0 15 (I q.bins) (isAgg3 _)<|pu4<|sE 126 q.bins 0 (fun v2=>?_) (fun v2=>?_)
  rotate_left
  ·refine pu16<|pu4<|zE<|retT [.bool false] ?_
   have w2:=(k0.drops [0,0,0,0,0,0])
   exact fdF (by unfold fieldsP;simp only [Stage.v];omega) w2
  refine pu2 ?_
  have x2:¬(q.kind=6):=by omega
  refine sFix 128 _ false (decide_eq_false x2)<|pu1<|gY<|sL k0 0 16 (.slice q.ops.a q.ops.n q.ops.k) (isAgg57 _)<|pu5<|sE 135 (q.ops.n:Int) 0 (fun y2=>?_) (fun y2=>?_)
  rotate_left
  ·refine pu11<|zE<|retT [.bool false] ?_
   have z2:=(k0.drops [0,0,0,0,0,0])
   exact fdF (by unfold fieldsP;simp only [Stage.v];omega) z2
  refine pu2<|sFix 137 _ true (decide_eq_true o0)<|pu9<|zE<|retT [.bool true] ?_
  have a3:=(k0.drops [0,0,0,0,0,0])
  exact fdT (by unfold fieldsP;simp only [Stage.v];omega) a3
 ·refine sR<|pu1<|sBS i0 #[I 6] runUnderlying22 sizeOf3 zeroValue3 fun _ _ b3=>?_
  have c3:=(b3.picks [0,1])
  refine cXc #[Pt d0 0] call74 (p15_is c3) ?_
  rintro _ _ ⟨rfl,f0⟩
  refine pu1<|zS<|pu2 ?_
  have p0:q.kind=1\/q.kind=2\/q.kind=3:=om
  refine sFix 42 _ true (decide_eq_true p0)<|pu8 ?_
  have d3:¬(q.kind=1):=by omega
  refine sFix 50 _ false (decide_eq_false d3)<|pu1<|gY<|sL f0 0 6 (I q.kW) (isAgg3 _)<|pu2<|sE 54 q.kW 0 (fun e3=>?_) (fun e3=>?_)
  rotate_left
  ·refine pu16<|pu16<|pu16<|pu16<|pu16<|pu12<|zE<|retT [.bool false] ?_
   have f3:=(f0.drops [0,0,0,0,0])
   exact fdF (by unfold fieldsP;simp only [Stage.v];omega) f3
  refine pu1<|gY<|sL f0 0 7 (I q.kH) (isAgg3 _)<|pu3<|sE 59 q.kH 0 (fun g3=>?_) (fun g3=>?_)
  rotate_left
  ·refine pu16<|pu16<|pu16<|pu16<|pu16<|pu7<|zE<|retT [.bool false] ?_
   have h3:=(f0.drops [0,0,0,0,0])
   exact fdF (by unfold fieldsP;simp only [Stage.v];omega) h3
  refine pu1<|gY<|sL f0 0 8 (.slice q.weights.a q.weights.n q.weights.k) (isAgg22 _)<|pu6<|sE 67 (q.weights.n:Int) 0 (fun i3=>?_) (fun i3=>?_)
  rotate_left
  ·refine pu16<|pu16<|pu16<|pu16<|pu15<|zE<|retT [.bool false] ?_
   have j3:=(f0.drops [0,0,0,0,0])
   exact fdF (by unfold fieldsP;simp only [Stage.v];omega) j3
  refine pu2 ?_
  have b1:q.kind=2:=om
  refine sFix 69 _ true (decide_eq_true b1)<|pu15<|sFix 84 _ true (decide_eq_true p0)<|pu8<|sFix 92 _ true (decide_eq_true b1)<|pu11 ?_
  have k3:¬(q.kind=3):=by omega
  refine sFix 103 _ false (decide_eq_false k3)<|pu1<|gY<|sL f0 0 13 (.slice q.x.a q.x.n q.x.k) (isAgg56 _)<|pu3<|sE 108 (q.x.n:Int) 0 (fun l3=>?_) (fun l3=>?_)
  rotate_left
  ·refine pu16<|pu16<|pu6<|zE<|retT [.bool false] ?_
   have m3:=(f0.drops [0,0,0,0,0])
   exact fdF (by unfold fieldsP;simp only [Stage.v];omega) m3
  refine pu1<|gY<|sL f0 0 14 (.slice q.y.a q.y.n q.y.k) (isAgg56 _)<|pu6<|sE 116 (q.y.n:Int) 0 (fun n3=>?_) (fun n3=>?_)
  rotate_left
  ·refine pu16<|pu14<|zE<|retT [.bool false] ?_
   have o3:=(f0.drops [0,0,0,0,0])
   exact fdF (by unfold fieldsP;simp only [Stage.v];omega) o3
  refine pu1<|gY<|sBS f0 #[I 4] runUnderlying22 sizeOf3 zeroValue3 fun _ _ p3=>gY ?_
  have q3:=(p3.picks [0,1])
  refine cXc #[Pt d0 0] call74 (p15_is q3) ?_
  rintro _ _ ⟨rfl,l0⟩
  refine pu1 ?_
  have r3:¬(q.kind=4):=by omega
  refine sFix 120 _ false (decide_eq_false r3)<|pu1<|gY<|sL l0 0 15 (I q.bins) (isAgg3 _)<|pu4<|sE 126 q.bins 0 (fun s3=>?_) (fun s3=>?_)
  rotate_left
  ·refine pu16<|pu4<|zE<|retT [.bool false] ?_
   have t3:=(l0.drops [0,0,0,0,0,0])
   exact fdF (by unfold fieldsP;simp only [Stage.v];omega) t3
  refine pu2 ?_
  have u3:¬(q.kind=6):=by omega
  refine sFix 128 _ false (decide_eq_false u3)<|pu1<|gY<|sL l0 0 16 (.slice q.ops.a q.ops.n q.ops.k) (isAgg57 _)<|pu5<|sE 135 (q.ops.n:Int) 0 (fun v3=>?_) (fun v3=>?_)
  rotate_left
  ·refine pu11<|zE<|retT [.bool false] ?_
   have w3:=(l0.drops [0,0,0,0,0,0])
   exact fdF (by unfold fieldsP;simp only [Stage.v];omega) w3
  refine pu2<|sFix 137 _ true (decide_eq_true p0)<|pu9<|zE<|retT [.bool true] ?_
  have x3:=(l0.drops [0,0,0,0,0,0])
  exact fdT (by unfold fieldsP;simp only [Stage.v];omega) x3
 ·refine sR<|pu1<|sBS i0 #[I 6] runUnderlying22 sizeOf3 zeroValue3 fun _ _ y3=>?_
  have z3:=(y3.picks [0,1])
  refine cXc #[Pt d0 0] call74 (p15_is z3) ?_
  rintro _ _ ⟨rfl,g0⟩
  refine pu1<|zS<|pu2 ?_
  have q0:q.kind=1\/q.kind=2\/q.kind=3:=om
  refine sFix 42 _ true (decide_eq_true q0)<|pu8 ?_
  have a4:¬(q.kind=1):=by omega
  refine sFix 50 _ false (decide_eq_false a4)<|pu1<|gY<|sL g0 0 6 (I q.kW) (isAgg3 _)<|pu2<|sE 54 q.kW 0 (fun b4=>?_) (fun b4=>?_)
  rotate_left
  ·refine pu16<|pu16<|pu16<|pu16<|pu16<|pu12<|zE<|retT [.bool false] ?_
   have c4:=(g0.drops [0,0,0,0,0])
   exact fdF (by unfold fieldsP;simp only [Stage.v];omega) c4
  refine pu1<|gY<|sL g0 0 7 (I q.kH) (isAgg3 _)<|pu3<|sE 59 q.kH 0 (fun d4=>?_) (fun d4=>?_)
  rotate_left
  ·refine pu16<|pu16<|pu16<|pu16<|pu16<|pu7<|zE<|retT [.bool false] ?_
   have e4:=(g0.drops [0,0,0,0,0])
   exact fdF (by unfold fieldsP;simp only [Stage.v];omega) e4
  refine pu1<|gY<|sL g0 0 8 (.slice q.weights.a q.weights.n q.weights.k) (isAgg22 _)<|pu6<|sE 67 (q.weights.n:Int) 0 (fun f4=>?_) (fun f4=>?_)
  rotate_left
  ·refine pu16<|pu16<|pu16<|pu16<|pu15<|zE<|retT [.bool false] ?_
   have g4:=(g0.drops [0,0,0,0,0])
   exact fdF (by unfold fieldsP;simp only [Stage.v];omega) g4
  refine pu2 ?_
  have c1:¬(q.kind=2):=by omega
  refine sFix 69 _ false (decide_eq_false c1)<|pu1<|gY<|sL g0 0 9 (.slice q.row.a q.row.n q.row.k) (isAgg22 _)<|pu3<|sE 74 (q.row.n:Int) 0 (fun h4=>?_) (fun h4=>?_)
  rotate_left
  ·refine pu16<|pu16<|pu16<|pu16<|pu8<|zE<|retT [.bool false] ?_
   have i4:=(g0.drops [0,0,0,0,0])
   exact fdF (by unfold fieldsP;simp only [Stage.v];omega) i4
  refine pu1<|gY<|sL g0 0 10 (.slice q.col.a q.col.n q.col.k) (isAgg22 _)<|pu6<|sE 82 (q.col.n:Int) 0 (fun j4=>?_) (fun j4=>?_)
  rotate_left
  ·refine pu16<|pu16<|pu16<|pu16<|zE<|retT [.bool false] ?_
   have k4:=(g0.drops [0,0,0,0,0])
   exact fdF (by unfold fieldsP;simp only [Stage.v];omega) k4
  refine pu2<|sFix 84 _ true (decide_eq_true q0)<|pu8<|sFix 92 _ false (decide_eq_false c1)<|pu3 ?_
  have d1:q.kind=3:=om
  refine sFix 95 _ true (decide_eq_true d1)<|pu8<|sFix 103 _ true (decide_eq_true d1)<|pu14<|gY<|sBS g0 #[I 4] runUnderlying22 sizeOf3 zeroValue3 fun _ _ l4=>gY ?_
  have m4:=(l4.picks [0,1])
  refine cXc #[Pt d0 0] call74 (p15_is m4) ?_
  rintro _ _ ⟨rfl,m0⟩
  refine pu1 ?_
  have n4:¬(q.kind=4):=by omega
  refine sFix 120 _ false (decide_eq_false n4)<|pu1<|gY<|sL m0 0 15 (I q.bins) (isAgg3 _)<|pu4<|sE 126 q.bins 0 (fun o4=>?_) (fun o4=>?_)
  rotate_left
  ·refine pu16<|pu4<|zE<|retT [.bool false] ?_
   have p4:=(m0.drops [0,0,0,0,0,0])
   exact fdF (by unfold fieldsP;simp only [Stage.v];omega) p4
  refine pu2 ?_
  have q4:¬(q.kind=6):=by omega
  refine sFix 128 _ false (decide_eq_false q4)<|pu1<|gY<|sL m0 0 16 (.slice q.ops.a q.ops.n q.ops.k) (isAgg57 _)<|pu5<|sE 135 (q.ops.n:Int) 0 (fun r4=>?_) (fun r4=>?_)
  rotate_left
  ·refine pu11<|zE<|retT [.bool false] ?_
   have s4:=(m0.drops [0,0,0,0,0,0])
   exact fdF (by unfold fieldsP;simp only [Stage.v];omega) s4
  refine pu2<|sFix 137 _ true (decide_eq_true q0)<|pu9<|zE<|retT [.bool true] ?_
  have t4:=(m0.drops [0,0,0,0,0,0])
  exact fdT (by unfold fieldsP;simp only [Stage.v];omega) t4
 ·refine sR<|pu1<|sBS i0 #[I 6] runUnderlying22 sizeOf3 zeroValue3 fun _ _ u4=>?_
  have v4:=(u4.picks [0,1])
  refine cXc #[Pt d0 0] call74 (p15_is v4) ?_
  rintro _ _ ⟨rfl,a0⟩
  refine pu1<|zS<|pu2 ?_
  have r0:¬(q.kind=1\/q.kind=2\/q.kind=3):=om
  refine sFix 42 _ false (decide_eq_false r0)<|pu1<|gY<|lA a0 0 4 2 (isAgg55 _) (sizeOf55 _)<|pu1<|gY<|stepY (.bool (((q.edgePolicy:Int)==0)&&((q.edgeFill:Int)==0))) rfl rfl (Y_eqS rfl kr kr (eqve55 _ q.edgePolicy q.edgeFill 0 0))<|pu2 ?_
  rcases Classical.em ((q.edgePolicy:Int)=0/\(q.edgeFill:Int)=0) with s0|s0
  rotate_left
  ·refine sFix 48 _ false (show (((q.edgePolicy:Int)==0)&&((q.edgeFill:Int)==0))=false from by simpa using s0) ?_
   refine pu16<|pu16<|pu16<|pu16<|pu16<|pu16<|pu2<|zE<|retT [.bool false] ?_
   have w4:=(a0.drops [0,0,0,0,0])
   exact fdF (by unfold fieldsP;simp only [Stage.v];omega) w4
  refine sFix 48 _ true (show (((q.edgePolicy:Int)==0)&&((q.edgeFill:Int)==0))=true from by simpa using s0) ?_
  refine pu2 ?_
  have x4:¬(q.kind=1):=by omega
  refine sFix 50 _ false (decide_eq_false x4)<|pu1<|gY<|sL a0 0 6 (I q.kW) (isAgg3 _)<|pu2<|sE 54 q.kW 0 (fun y4=>?_) (fun y4=>?_)
  rotate_left
  ·refine pu16<|pu16<|pu16<|pu16<|pu16<|pu12<|zE<|retT [.bool false] ?_
   have z4:=(a0.drops [0,0,0,0,0])
   exact fdF (by unfold fieldsP;simp only [Stage.v];omega) z4
  refine pu1<|gY<|sL a0 0 7 (I q.kH) (isAgg3 _)<|pu3<|sE 59 q.kH 0 (fun a5=>?_) (fun a5=>?_)
  rotate_left
  ·refine pu16<|pu16<|pu16<|pu16<|pu16<|pu7<|zE<|retT [.bool false] ?_
   have b5:=(a0.drops [0,0,0,0,0])
   exact fdF (by unfold fieldsP;simp only [Stage.v];omega) b5
  refine pu1<|gY<|sL a0 0 8 (.slice q.weights.a q.weights.n q.weights.k) (isAgg22 _)<|pu6<|sE 67 (q.weights.n:Int) 0 (fun c5=>?_) (fun c5=>?_)
  rotate_left
  ·refine pu16<|pu16<|pu16<|pu16<|pu15<|zE<|retT [.bool false] ?_
   have d5:=(a0.drops [0,0,0,0,0])
   exact fdF (by unfold fieldsP;simp only [Stage.v];omega) d5
  refine pu2 ?_
  have e1:¬(q.kind=2):=by omega
  refine sFix 69 _ false (decide_eq_false e1)<|pu1<|gY<|sL a0 0 9 (.slice q.row.a q.row.n q.row.k) (isAgg22 _)<|pu3<|sE 74 (q.row.n:Int) 0 (fun e5=>?_) (fun e5=>?_)
  rotate_left
  ·refine pu16<|pu16<|pu16<|pu16<|pu8<|zE<|retT [.bool false] ?_
   have f5:=(a0.drops [0,0,0,0,0])
   exact fdF (by unfold fieldsP;simp only [Stage.v];omega) f5
  refine pu1<|gY<|sL a0 0 10 (.slice q.col.a q.col.n q.col.k) (isAgg22 _)<|pu6<|sE 82 (q.col.n:Int) 0 (fun g5=>?_) (fun g5=>?_)
  rotate_left
  ·refine pu16<|pu16<|pu16<|pu16<|zE<|retT [.bool false] ?_
   have h5:=(a0.drops [0,0,0,0,0])
   exact fdF (by unfold fieldsP;simp only [Stage.v];omega) h5
  refine pu2<|sFix 84 _ false (decide_eq_false r0)<|pu1<|gY<|sL a0 0 11 (I q.shift) (isAgg3 _)<|pu4<|sE 90 q.shift 0 (fun i5=>?_) (fun i5=>?_)
  rotate_left
  ·refine pu16<|pu16<|pu16<|pu8<|zE<|retT [.bool false] ?_
   have j5:=(a0.drops [0,0,0,0,0])
   exact fdF (by unfold fieldsP;simp only [Stage.v];omega) j5
  refine pu2<|sFix 92 _ false (decide_eq_false e1)<|pu3 ?_
  have f1:¬(q.kind=3):=by omega
  refine sFix 95 _ false (decide_eq_false f1)<|pu1<|gY<|sL a0 0 12 (I q.shift2) (isAgg3 _)<|pu4<|sE 101 q.shift2 0 (fun k5=>?_) (fun k5=>?_)
  rotate_left
  ·refine pu16<|pu16<|pu13<|zE<|retT [.bool false] ?_
   have l5:=(a0.drops [0,0,0,0,0])
   exact fdF (by unfold fieldsP;simp only [Stage.v];omega) l5
  refine pu2<|sFix 103 _ false (decide_eq_false f1)<|pu1<|gY<|sL a0 0 13 (.slice q.x.a q.x.n q.x.k) (isAgg56 _)<|pu3<|sE 108 (q.x.n:Int) 0 (fun m5=>?_) (fun m5=>?_)
  rotate_left
  ·refine pu16<|pu16<|pu6<|zE<|retT [.bool false] ?_
   have n5:=(a0.drops [0,0,0,0,0])
   exact fdF (by unfold fieldsP;simp only [Stage.v];omega) n5
  refine pu1<|gY<|sL a0 0 14 (.slice q.y.a q.y.n q.y.k) (isAgg56 _)<|pu6<|sE 116 (q.y.n:Int) 0 (fun o5=>?_) (fun o5=>?_)
  rotate_left
  ·refine pu16<|pu14<|zE<|retT [.bool false] ?_
   have p5:=(a0.drops [0,0,0,0,0])
   exact fdF (by unfold fieldsP;simp only [Stage.v];omega) p5
  refine pu1<|gY<|sBS a0 #[I 4] runUnderlying22 sizeOf3 zeroValue3 fun _ _ q5=>gY ?_
  have r5:=(q5.picks [0,1])
  refine cXc #[Pt d0 0] call74 (p15_is r5) ?_
  rintro _ _ ⟨rfl,n0⟩
  refine pu1 ?_
  have s5:q.kind=4:=om
  refine sFix 120 _ true (decide_eq_true s5)<|pu8 ?_
  have g1:¬(q.kind=6):=by omega
  refine sFix 128 _ false (decide_eq_false g1)<|pu1<|gY<|sL n0 0 16 (.slice q.ops.a q.ops.n q.ops.k) (isAgg57 _)<|pu5<|sE 135 (q.ops.n:Int) 0 (fun t5=>?_) (fun t5=>?_)
  rotate_left
  ·refine pu11<|zE<|retT [.bool false] ?_
   have u5:=(n0.drops [0,0,0,0,0,0])
   exact fdF (by unfold fieldsP;simp only [Stage.v];omega) u5
  refine pu2<|sFix 137 _ false (decide_eq_false r0)<|pu3<|sFix 140 _ false (decide_eq_false g1)<|pu1<|gY<|sL n0 0 17 (I q.max_) (isAgg3 _)<|pu4<|zE<|retT [.bool ((q.max_:Int)==0)] ?_
  exact ⟨rB (show ((q.max_:Int)==0)=decide (fieldsP q.v) from by rw [Bool.eq_iff_iff];simp only [decide_eq_true_eq,beq_iff_eq];unfold fieldsP;simp only [Stage.v];omega),(n0.drops [0,0,0,0,0,0])⟩
 ·refine sR<|pu1<|sBS i0 #[I 6] runUnderlying22 sizeOf3 zeroValue3 fun _ _ w5=>?_
  have x5:=(w5.picks [0,1])
  refine cXc #[Pt d0 0] call74 (p15_is x5) ?_
  rintro _ _ ⟨rfl,b0⟩
  refine pu1<|zS<|pu2 ?_
  have t0:¬(q.kind=1\/q.kind=2\/q.kind=3):=om
  refine sFix 42 _ false (decide_eq_false t0)<|pu1<|gY<|lA b0 0 4 2 (isAgg55 _) (sizeOf55 _)<|pu1<|gY<|stepY (.bool (((q.edgePolicy:Int)==0)&&((q.edgeFill:Int)==0))) rfl rfl (Y_eqS rfl kr kr (eqve55 _ q.edgePolicy q.edgeFill 0 0))<|pu2 ?_
  rcases Classical.em ((q.edgePolicy:Int)=0/\(q.edgeFill:Int)=0) with u0|u0
  rotate_left
  ·refine sFix 48 _ false (show (((q.edgePolicy:Int)==0)&&((q.edgeFill:Int)==0))=false from by simpa using u0) ?_
   refine pu16<|pu16<|pu16<|pu16<|pu16<|pu16<|pu2<|zE<|retT [.bool false] ?_
   have y5:=(b0.drops [0,0,0,0,0])
   exact fdF (by unfold fieldsP;simp only [Stage.v];omega) y5
  refine sFix 48 _ true (show (((q.edgePolicy:Int)==0)&&((q.edgeFill:Int)==0))=true from by simpa using u0) ?_
  refine pu2 ?_
  have z5:¬(q.kind=1):=by omega
  refine sFix 50 _ false (decide_eq_false z5)<|pu1<|gY<|sL b0 0 6 (I q.kW) (isAgg3 _)<|pu2<|sE 54 q.kW 0 (fun a6=>?_) (fun a6=>?_)
  rotate_left
  ·refine pu16<|pu16<|pu16<|pu16<|pu16<|pu12<|zE<|retT [.bool false] ?_
   have b6:=(b0.drops [0,0,0,0,0])
   exact fdF (by unfold fieldsP;simp only [Stage.v];omega) b6
  refine pu1<|gY<|sL b0 0 7 (I q.kH) (isAgg3 _)<|pu3<|sE 59 q.kH 0 (fun c6=>?_) (fun c6=>?_)
  rotate_left
  ·refine pu16<|pu16<|pu16<|pu16<|pu16<|pu7<|zE<|retT [.bool false] ?_
   have d6:=(b0.drops [0,0,0,0,0])
   exact fdF (by unfold fieldsP;simp only [Stage.v];omega) d6
  refine pu1<|gY<|sL b0 0 8 (.slice q.weights.a q.weights.n q.weights.k) (isAgg22 _)<|pu6<|sE 67 (q.weights.n:Int) 0 (fun e6=>?_) (fun e6=>?_)
  rotate_left
  ·refine pu16<|pu16<|pu16<|pu16<|pu15<|zE<|retT [.bool false] ?_
   have f6:=(b0.drops [0,0,0,0,0])
   exact fdF (by unfold fieldsP;simp only [Stage.v];omega) f6
  refine pu2 ?_
  have h1:¬(q.kind=2):=by omega
  refine sFix 69 _ false (decide_eq_false h1)<|pu1<|gY<|sL b0 0 9 (.slice q.row.a q.row.n q.row.k) (isAgg22 _)<|pu3<|sE 74 (q.row.n:Int) 0 (fun g6=>?_) (fun g6=>?_)
  rotate_left
  ·refine pu16<|pu16<|pu16<|pu16<|pu8<|zE<|retT [.bool false] ?_
   have h6:=(b0.drops [0,0,0,0,0])
   exact fdF (by unfold fieldsP;simp only [Stage.v];omega) h6
  refine pu1<|gY<|sL b0 0 10 (.slice q.col.a q.col.n q.col.k) (isAgg22 _)<|pu6<|sE 82 (q.col.n:Int) 0 (fun i6=>?_) (fun i6=>?_)
  rotate_left
  ·refine pu16<|pu16<|pu16<|pu16<|zE<|retT [.bool false] ?_
   have j6:=(b0.drops [0,0,0,0,0])
   exact fdF (by unfold fieldsP;simp only [Stage.v];omega) j6
  refine pu2<|sFix 84 _ false (decide_eq_false t0)<|pu1<|gY<|sL b0 0 11 (I q.shift) (isAgg3 _)<|pu4<|sE 90 q.shift 0 (fun k6=>?_) (fun k6=>?_)
  rotate_left
  ·refine pu16<|pu16<|pu16<|pu8<|zE<|retT [.bool false] ?_
   have l6:=(b0.drops [0,0,0,0,0])
   exact fdF (by unfold fieldsP;simp only [Stage.v];omega) l6
  refine pu2<|sFix 92 _ false (decide_eq_false h1)<|pu3 ?_
  have i1:¬(q.kind=3):=by omega
  refine sFix 95 _ false (decide_eq_false i1)<|pu1<|gY<|sL b0 0 12 (I q.shift2) (isAgg3 _)<|pu4<|sE 101 q.shift2 0 (fun m6=>?_) (fun m6=>?_)
  rotate_left
  ·refine pu16<|pu16<|pu13<|zE<|retT [.bool false] ?_
   have n6:=(b0.drops [0,0,0,0,0])
   exact fdF (by unfold fieldsP;simp only [Stage.v];omega) n6
  refine pu2<|sFix 103 _ false (decide_eq_false i1)<|pu1<|gY<|sL b0 0 13 (.slice q.x.a q.x.n q.x.k) (isAgg56 _)<|pu3<|sE 108 (q.x.n:Int) 0 (fun o6=>?_) (fun o6=>?_)
  rotate_left
  ·refine pu16<|pu16<|pu6<|zE<|retT [.bool false] ?_
   have p6:=(b0.drops [0,0,0,0,0])
   exact fdF (by unfold fieldsP;simp only [Stage.v];omega) p6
  refine pu1<|gY<|sL b0 0 14 (.slice q.y.a q.y.n q.y.k) (isAgg56 _)<|pu6<|sE 116 (q.y.n:Int) 0 (fun q6=>?_) (fun q6=>?_)
  rotate_left
  ·refine pu16<|pu14<|zE<|retT [.bool false] ?_
   have r6:=(b0.drops [0,0,0,0,0])
   exact fdF (by unfold fieldsP;simp only [Stage.v];omega) r6
  refine pu1<|gY<|sBS b0 #[I 4] runUnderlying22 sizeOf3 zeroValue3 fun _ _ s6=>gY ?_
  have t6:=(s6.picks [0,1])
  refine cXc #[Pt d0 0] call74 (p15_is t6) ?_
  rintro _ _ ⟨rfl,j0⟩
  refine pu1 ?_
  have u6:¬(q.kind=4):=by omega
  refine sFix 120 _ false (decide_eq_false u6)<|pu1<|gY<|sL j0 0 15 (I q.bins) (isAgg3 _)<|pu4<|sE 126 q.bins 0 (fun v6=>?_) (fun v6=>?_)
  rotate_left
  ·refine pu16<|pu4<|zE<|retT [.bool false] ?_
   have w6:=(j0.drops [0,0,0,0,0,0])
   exact fdF (by unfold fieldsP;simp only [Stage.v];omega) w6
  refine pu2 ?_
  have j1:¬(q.kind=6):=by omega
  refine sFix 128 _ false (decide_eq_false j1)<|pu1<|gY<|sL j0 0 16 (.slice q.ops.a q.ops.n q.ops.k) (isAgg57 _)<|pu5<|sE 135 (q.ops.n:Int) 0 (fun x6=>?_) (fun x6=>?_)
  rotate_left
  ·refine pu11<|zE<|retT [.bool false] ?_
   have y6:=(j0.drops [0,0,0,0,0,0])
   exact fdF (by unfold fieldsP;simp only [Stage.v];omega) y6
  refine pu2<|sFix 137 _ false (decide_eq_false t0)<|pu3<|sFix 140 _ false (decide_eq_false j1)<|pu1<|gY<|sL j0 0 17 (I q.max_) (isAgg3 _)<|pu4<|zE<|retT [.bool ((q.max_:Int)==0)] ?_
  exact ⟨rB (show ((q.max_:Int)==0)=decide (fieldsP q.v) from by rw [Bool.eq_iff_iff];simp only [decide_eq_true_eq,beq_iff_eq];unfold fieldsP;simp only [Stage.v];omega),(j0.drops [0,0,0,0,0,0])⟩
 refine sR<|pu1<|sBS i0 #[I 6] runUnderlying22 sizeOf3 zeroValue3 fun _ _ a7=>?_
 have b7:=(a7.picks [0,1])
 refine cXc #[Pt d0 0] call74 (p15_is b7) ?_
 rintro _ _ ⟨rfl,c0⟩
 refine pu1<|zS<|pu2 ?_
 have v0:¬(q.kind=1\/q.kind=2\/q.kind=3):=om
 refine sFix 42 _ false (decide_eq_false v0)<|pu1<|gY<|lA c0 0 4 2 (isAgg55 _) (sizeOf55 _)<|pu1<|gY<|stepY (.bool (((q.edgePolicy:Int)==0)&&((q.edgeFill:Int)==0))) rfl rfl (Y_eqS rfl kr kr (eqve55 _ q.edgePolicy q.edgeFill 0 0))<|pu2 ?_
 rcases Classical.em ((q.edgePolicy:Int)=0/\(q.edgeFill:Int)=0) with w0|w0
 rotate_left
 ·refine sFix 48 _ false (show (((q.edgePolicy:Int)==0)&&((q.edgeFill:Int)==0))=false from by simpa using w0) ?_
  refine pu16<|pu16<|pu16<|pu16<|pu16<|pu16<|pu2<|zE<|retT [.bool false] ?_
  have c7:=(c0.drops [0,0,0,0,0])
  exact fdF (by unfold fieldsP;simp only [Stage.v];omega) c7
 refine sFix 48 _ true (show (((q.edgePolicy:Int)==0)&&((q.edgeFill:Int)==0))=true from by simpa using w0) ?_
 refine pu2 ?_
 have d7:¬(q.kind=1):=by omega
 refine sFix 50 _ false (decide_eq_false d7)<|pu1<|gY<|sL c0 0 6 (I q.kW) (isAgg3 _)<|pu2<|sE 54 q.kW 0 (fun e7=>?_) (fun e7=>?_)
 rotate_left
 ·refine pu16<|pu16<|pu16<|pu16<|pu16<|pu12<|zE<|retT [.bool false] ?_
  have f7:=(c0.drops [0,0,0,0,0])
  exact fdF (by unfold fieldsP;simp only [Stage.v];omega) f7
 refine pu1<|gY<|sL c0 0 7 (I q.kH) (isAgg3 _)<|pu3<|sE 59 q.kH 0 (fun g7=>?_) (fun g7=>?_)
 rotate_left
 ·refine pu16<|pu16<|pu16<|pu16<|pu16<|pu7<|zE<|retT [.bool false] ?_
  have h7:=(c0.drops [0,0,0,0,0])
  exact fdF (by unfold fieldsP;simp only [Stage.v];omega) h7
 refine pu1<|gY<|sL c0 0 8 (.slice q.weights.a q.weights.n q.weights.k) (isAgg22 _)<|pu6<|sE 67 (q.weights.n:Int) 0 (fun i7=>?_) (fun i7=>?_)
 rotate_left
 ·refine pu16<|pu16<|pu16<|pu16<|pu15<|zE<|retT [.bool false] ?_
  have j7:=(c0.drops [0,0,0,0,0])
  exact fdF (by unfold fieldsP;simp only [Stage.v];omega) j7
 refine pu2 ?_
 have k1:¬(q.kind=2):=by omega
 refine sFix 69 _ false (decide_eq_false k1)<|pu1<|gY<|sL c0 0 9 (.slice q.row.a q.row.n q.row.k) (isAgg22 _)<|pu3<|sE 74 (q.row.n:Int) 0 (fun k7=>?_) (fun k7=>?_)
 rotate_left
 ·refine pu16<|pu16<|pu16<|pu16<|pu8<|zE<|retT [.bool false] ?_
  have l7:=(c0.drops [0,0,0,0,0])
  exact fdF (by unfold fieldsP;simp only [Stage.v];omega) l7
 refine pu1<|gY<|sL c0 0 10 (.slice q.col.a q.col.n q.col.k) (isAgg22 _)<|pu6<|sE 82 (q.col.n:Int) 0 (fun m7=>?_) (fun m7=>?_)
 rotate_left
 ·refine pu16<|pu16<|pu16<|pu16<|zE<|retT [.bool false] ?_
  have n7:=(c0.drops [0,0,0,0,0])
  exact fdF (by unfold fieldsP;simp only [Stage.v];omega) n7
 refine pu2<|sFix 84 _ false (decide_eq_false v0)<|pu1<|gY<|sL c0 0 11 (I q.shift) (isAgg3 _)<|pu4<|sE 90 q.shift 0 (fun o7=>?_) (fun o7=>?_)
 rotate_left
 ·refine pu16<|pu16<|pu16<|pu8<|zE<|retT [.bool false] ?_
  have p7:=(c0.drops [0,0,0,0,0])
  exact fdF (by unfold fieldsP;simp only [Stage.v];omega) p7
 refine pu2<|sFix 92 _ false (decide_eq_false k1)<|pu3 ?_
 have l1:¬(q.kind=3):=by omega
 refine sFix 95 _ false (decide_eq_false l1)<|pu1<|gY<|sL c0 0 12 (I q.shift2) (isAgg3 _)<|pu4<|sE 101 q.shift2 0 (fun q7=>?_) (fun q7=>?_)
 rotate_left
 ·refine pu16<|pu16<|pu13<|zE<|retT [.bool false] ?_
  have r7:=(c0.drops [0,0,0,0,0])
  exact fdF (by unfold fieldsP;simp only [Stage.v];omega) r7
 refine pu2<|sFix 103 _ false (decide_eq_false l1)<|pu1<|gY<|sL c0 0 13 (.slice q.x.a q.x.n q.x.k) (isAgg56 _)<|pu3<|sE 108 (q.x.n:Int) 0 (fun s7=>?_) (fun s7=>?_)
 rotate_left
 ·refine pu16<|pu16<|pu6<|zE<|retT [.bool false] ?_
  have t7:=(c0.drops [0,0,0,0,0])
  exact fdF (by unfold fieldsP;simp only [Stage.v];omega) t7
 refine pu1<|gY<|sL c0 0 14 (.slice q.y.a q.y.n q.y.k) (isAgg56 _)<|pu6<|sE 116 (q.y.n:Int) 0 (fun u7=>?_) (fun u7=>?_)
 rotate_left
 ·refine pu16<|pu14<|zE<|retT [.bool false] ?_
  have v7:=(c0.drops [0,0,0,0,0])
  exact fdF (by unfold fieldsP;simp only [Stage.v];omega) v7
 refine pu1<|gY<|sBS c0 #[I 4] runUnderlying22 sizeOf3 zeroValue3 fun _ _ w7=>gY ?_
 have x7:=(w7.picks [0,1])
 refine cXc #[Pt d0 0] call74 (p15_is x7) ?_
 rintro _ _ ⟨rfl,x0⟩
 refine pu1 ?_
 have y7:¬(q.kind=4):=by omega
 refine sFix 120 _ false (decide_eq_false y7)<|pu1<|gY<|sL x0 0 15 (I q.bins) (isAgg3 _)<|pu4<|sE 126 q.bins 0 (fun z7=>?_) (fun z7=>?_)
 rotate_left
 ·refine pu16<|pu4<|zE<|retT [.bool false] ?_
  have a8:=(x0.drops [0,0,0,0,0,0])
  exact fdF (by unfold fieldsP;simp only [Stage.v];omega) a8
 refine pu2 ?_
 have m1:q.kind=6:=om
 refine sFix 128 _ true (decide_eq_true m1)<|pu9<|sFix 137 _ false (decide_eq_false v0)<|pu3<|sFix 140 _ true (decide_eq_true m1)<|pu6<|zE<|retT [.bool true] ?_
 have b8:=(x0.drops [0,0,0,0,0,0])
 exact fdT (by unfold fieldsP;simp only [Stage.v];omega) b8
def ptCode (q:StageV) (s t:Shape):Int:=if pwCode q.ops (decide (q.kind=6/\¬q.b=-1)) s.max_ t.max_ q.max_=0 then (if (q.kind=6/\¬q.b=-1)/\¬(s.w=t.w/\s.h=t.h) then 8 else 0) else pwCode q.ops (decide (q.kind=6/\¬q.b=-1)) s.max_ t.max_ q.max_
theorem pt_kernel {q:StageV} {s t:Shape} (h:¬(1<=q.kind/\q.kind<=5)):ptCode q s t=(kernelV q s t).2:=by
  unfold ptCode kernelV
  rw [if_neg (show ¬q.kind=1 by omega),if_neg (show ¬q.kind=2 by omega),if_neg (show ¬q.kind=3 by omega),if_neg (show ¬q.kind=4 by omega),if_neg (show ¬q.kind=5 by omega)]
  split
  · split<;>rfl
  · rfl
theorem p15_point (q:Stage) (s:Shape) (t:Shape) (hq:Stage.Ok [H] q) (hS:Sat W w (H::F)):
  Ro prog 76 #[.agg (encStage q).toArray, .agg #[I s.w,I s.h,I s.max_], .agg #[I t.w,I t.h,I t.max_]] (I (ptCode q.v s t)) W w (H::F):=by
 have hl_q_weights:=hq.weights.le;have hn_q_weights:=hq.weights.len
 have hl_q_row:=hq.row.le;have hn_q_row:=hq.row.len
 have hl_q_col:=hq.col.le;have hn_q_col:=hq.col.len
 have hl_q_x:=hq.x.le;have hn_q_x:=hq.x.len
 have hl_q_y:=hq.y.le;have hn_q_y:=hq.y.len
 have hl_q_ops:=hq.ops.le;have hn_q_ops:=hq.ops.len
 refine callsA 61 func76 rfl<|sR<|sBox hS (.agg (encStage q).toArray) (encStage q).toArray fun _ _ j0=>sBox j0 (.agg #[I s.w,I s.h,I s.max_]) #[I s.w,I s.h,I s.max_] fun _ _ k0=>sBox k0 (.agg #[I t.w,I t.h,I t.max_]) #[I t.w,I t.h,I t.max_] fun _ _ g0=>pu1<|zS<|lA g0 2 0 18 (isAgg59 _) (sizeOf59 _)<|cR call45 (p15_pair q (hq.of_mem (mem_flat1 3 (by rfl))) g0.flat) fun _ h0=>pu1<|zQ<|pu1<|sL h0 2 16 (.slice q.ops.a q.ops.n q.ops.k) (isAgg57 _)<|pu1<|cR call71 (p14_valid q.ops.a q.ops.n q.ops.k q.ops.l (decide (q.kind=6/\¬q.b=-1)) (RdT.flat (hq.ops.up 3 (by rfl))) h0.flat) fun _ a0=>pu1<|zS<|pu2<|nT ?_
 refine cN (opsCode q.ops.l (decide (q.kind=6/\¬q.b=-1))) 0 (fun b0=>?_) (fun b0=>?_)
 rotate_left
 ·refine sR<|pu2<|zR<|retT [I (opsCode q.ops.l (decide (q.kind=6/\¬q.b=-1)))] ?_
  have l0:=(a0.drops [0,0,0])
  have hpw:pwCode q.v.ops (decide (q.v.kind=6/\¬q.v.b=-1)) s.max_ t.max_ q.v.max_=opsCode q.v.ops (decide (q.v.kind=6/\¬q.v.b=-1)):=by unfold pwCode;rw [if_neg (show ¬opsCode q.v.ops (decide (q.v.kind=6/\¬q.v.b=-1))=0 from b0)]
  have hk:ptCode q.v s t=(opsCode q.ops.l (decide (q.kind=6/\¬q.b=-1))):=by unfold ptCode;rw [if_neg (fun h=>(show ¬opsCode q.v.ops (decide (q.v.kind=6/\¬q.v.b=-1))=0 from b0) (hpw.symm.trans h)),hpw];rfl
  exact ⟨by rw [hk];rfl,l0⟩
 refine kT<|seqE<|sR<|pu1<|sL a0 2 17 (I q.max_) (isAgg3 _)<|pu2<|sD 25 (q.max_<1) (fun m0=>?_) (fun m0=>?_)
 ·refine pu4<|zC<|pu1<|zR<|retT [I 2] ?_
  have n0:=(a0.drops [0,0,0])
  have hpw:pwCode q.v.ops (decide (q.v.kind=6/\¬q.v.b=-1)) s.max_ t.max_ q.v.max_=2:=by unfold pwCode;rw [if_pos (show opsCode q.v.ops (decide (q.v.kind=6/\¬q.v.b=-1))=0 from b0),if_neg (by simp only [Stage.v];omega)]
  have hk:ptCode q.v s t=2:=by unfold ptCode;rw [if_neg (fun h=>by have h9:=hpw.symm.trans h;revert h9;decide),hpw]
  exact ⟨by rw [hk];rfl,n0⟩
 refine pu1<|gY<|sL a0 2 17 (I q.max_) (isAgg3 _)<|pu2<|nT<|cD (q.max_>4294967296) (fun o0=>?_) (fun o0=>?_)
 ·refine sR<|pu1<|zR<|retT [I 2] ?_
  have p0:=(a0.drops [0,0,0])
  have hpw:pwCode q.v.ops (decide (q.v.kind=6/\¬q.v.b=-1)) s.max_ t.max_ q.v.max_=2:=by unfold pwCode;rw [if_pos (show opsCode q.v.ops (decide (q.v.kind=6/\¬q.v.b=-1))=0 from b0),if_neg (by simp only [Stage.v];omega)]
  have hk:ptCode q.v s t=2:=by unfold ptCode;rw [if_neg (fun h=>by have h9:=hpw.symm.trans h;revert h9;decide),hpw]
  exact ⟨by rw [hk];rfl,p0⟩
 refine kS<|pu1<|zQ<|pu1<|nT<|cD (q.kind=6/\¬q.b=-1) (fun c0=>?_) (fun c0=>?_)
 rotate_left
 ·refine kT<|seqE<|sR<|pu1<|sL a0 2 16 (.slice q.ops.a q.ops.n q.ops.k) (isAgg57 _)<|pu1<|sL a0 1 2 (I s.max_) (isAgg3 _)<|pu1<|cR call72 (p14_interval q.ops.a q.ops.n q.ops.k q.ops.l s.max_ 1 (RdT.flat (hq.ops.up 3 (by rfl))) a0.flat) fun _ i0=>pu7<|zS<|pu2<|nT<|cN ((ivRes q.ops.l s.max_ 1).2.2) 0 (fun f0=>?_) (fun f0=>?_)
  rotate_left
  ·refine sR<|pu2<|zR<|retT [I ((ivRes q.ops.l s.max_ 1).2.2)] ?_
   have q0:=(i0.drops [0,0,0])
   have hpw:pwCode q.v.ops (decide (q.v.kind=6/\¬q.v.b=-1)) s.max_ t.max_ q.v.max_=(ivRes q.v.ops s.max_ 1).2.2:=by unfold pwCode;rw [if_pos (show opsCode q.v.ops (decide (q.v.kind=6/\¬q.v.b=-1))=0 from b0),if_pos (by simp only [Stage.v];omega),if_neg (by rw [(decide_eq_false (p:=q.v.kind=6/\¬q.v.b=-1) c0)];decide)]
   have hk:ptCode q.v s t=(ivRes q.ops.l s.max_ 1).2.2:=by unfold ptCode;rw [if_neg (fun h=>f0 (hpw.symm.trans h)),hpw];rfl
   exact ⟨by rw [hk];rfl,q0⟩
  refine kT<|seqE<|sR<|pu2<|sFix 47 _ false (decide_eq_false c0)<|pu13<|nT<|cFf<|kS<|pu1<|zE<|retT [I 0] ?_
  have r0:=(i0.drops [0,0,0])
  have hpw:pwCode q.v.ops (decide (q.v.kind=6/\¬q.v.b=-1)) s.max_ t.max_ q.v.max_=(ivRes q.v.ops s.max_ 1).2.2:=by unfold pwCode;rw [if_pos (show opsCode q.v.ops (decide (q.v.kind=6/\¬q.v.b=-1))=0 from b0),if_pos (by simp only [Stage.v];omega),if_neg (by rw [(decide_eq_false (p:=q.v.kind=6/\¬q.v.b=-1) c0)];decide)]
  have hk:ptCode q.v s t=0:=by unfold ptCode;rw [if_pos (hpw.trans f0),if_neg (by simp only [Stage.v];omega)]
  exact ⟨by rw [hk];rfl,r0⟩
 refine rE<|pu1<|sL a0 0 2 (I t.max_) (isAgg3 _)<|pu1<|zQ<|pu1<|sL a0 2 16 (.slice q.ops.a q.ops.n q.ops.k) (isAgg57 _)<|pu1<|sL a0 1 2 (I s.max_) (isAgg3 _)<|pu1<|cR call72 (p14_interval q.ops.a q.ops.n q.ops.k q.ops.l s.max_ t.max_ (RdT.flat (hq.ops.up 3 (by rfl))) a0.flat) fun _ d0=>pu7<|zS<|pu2<|nT<|cN ((ivRes q.ops.l s.max_ t.max_).2.2) 0 (fun e0=>?_) (fun e0=>?_)
 rotate_left
 ·refine sR<|pu2<|zR<|retT [I ((ivRes q.ops.l s.max_ t.max_).2.2)] ?_
  have s0:=(d0.drops [0,0,0])
  have hpw:pwCode q.v.ops (decide (q.v.kind=6/\¬q.v.b=-1)) s.max_ t.max_ q.v.max_=(ivRes q.v.ops s.max_ t.max_).2.2:=by unfold pwCode;rw [if_pos (show opsCode q.v.ops (decide (q.v.kind=6/\¬q.v.b=-1))=0 from b0),if_pos (by simp only [Stage.v];omega),if_pos (decide_eq_true (p:=q.v.kind=6/\¬q.v.b=-1) c0)]
  have hk:ptCode q.v s t=(ivRes q.ops.l s.max_ t.max_).2.2:=by unfold ptCode;rw [if_neg (fun h=>e0 (hpw.symm.trans h)),hpw];rfl
  exact ⟨by rw [hk];rfl,s0⟩
 refine kT<|seqE<|sR<|pu2<|sFix 47 _ true (decide_eq_true c0)<|pu1<|gY<|sL d0 1 0 (I s.w) (isAgg3 _)<|pu1<|gY<|sL d0 0 0 (I t.w) (isAgg3 _)<|pu2<|sN 53 s.w t.w (fun t0=>?_) (fun t0=>?_)
 rotate_left
 ·refine pu7<|zC<|pu1<|zR<|retT [I 8] ?_
  have u0:=(d0.drops [0,0,0])
  have hpw:pwCode q.v.ops (decide (q.v.kind=6/\¬q.v.b=-1)) s.max_ t.max_ q.v.max_=(ivRes q.v.ops s.max_ t.max_).2.2:=by unfold pwCode;rw [if_pos (show opsCode q.v.ops (decide (q.v.kind=6/\¬q.v.b=-1))=0 from b0),if_pos (by simp only [Stage.v];omega),if_pos (decide_eq_true (p:=q.v.kind=6/\¬q.v.b=-1) c0)]
  have hk:ptCode q.v s t=8:=by unfold ptCode;rw [if_pos (hpw.trans e0),if_pos (by simp only [Stage.v];omega)]
  exact ⟨by rw [hk];rfl,u0⟩
 refine pu1<|gY<|sL d0 1 1 (I s.h) (isAgg3 _)<|pu1<|gY<|sL d0 0 1 (I t.h) (isAgg3 _)<|pu3<|nT<|cN s.h t.h (fun v0=>?_) (fun v0=>?_)
 rotate_left
 ·refine sR<|pu1<|zR<|retT [I 8] ?_
  have w0:=(d0.drops [0,0,0])
  have hpw:pwCode q.v.ops (decide (q.v.kind=6/\¬q.v.b=-1)) s.max_ t.max_ q.v.max_=(ivRes q.v.ops s.max_ t.max_).2.2:=by unfold pwCode;rw [if_pos (show opsCode q.v.ops (decide (q.v.kind=6/\¬q.v.b=-1))=0 from b0),if_pos (by simp only [Stage.v];omega),if_pos (decide_eq_true (p:=q.v.kind=6/\¬q.v.b=-1) c0)]
  have hk:ptCode q.v s t=8:=by unfold ptCode;rw [if_pos (hpw.trans e0),if_pos (by simp only [Stage.v];omega)]
  exact ⟨by rw [hk];rfl,w0⟩
 refine kS<|pu1<|zE<|retT [I 0] ?_
 have x0:=(d0.drops [0,0,0])
 have hpw:pwCode q.v.ops (decide (q.v.kind=6/\¬q.v.b=-1)) s.max_ t.max_ q.v.max_=(ivRes q.v.ops s.max_ t.max_).2.2:=by unfold pwCode;rw [if_pos (show opsCode q.v.ops (decide (q.v.kind=6/\¬q.v.b=-1))=0 from b0),if_pos (by simp only [Stage.v];omega),if_pos (decide_eq_true (p:=q.v.kind=6/\¬q.v.b=-1) c0)]
 have hk:ptCode q.v s t=0:=by unfold ptCode;rw [if_pos (hpw.trans e0),if_neg (by simp only [Stage.v];omega)]
 exact ⟨by rw [hk];rfl,x0⟩
theorem p15_check (q:Stage) (s:Shape) (t:Shape) (hq:Stage.Ok [H] q) (hS:Sat W w (H::F)):
  Ro prog 60 #[.agg (encStage q).toArray, .agg #[I s.w,I s.h,I s.max_], .agg #[I t.w,I t.h,I t.max_]] (I ((kernelV q.v s t).2)) W w (H::F):=by
 have hl_q_weights:=hq.weights.le;have hn_q_weights:=hq.weights.len
 have hl_q_row:=hq.row.le;have hn_q_row:=hq.row.len
 have hl_q_col:=hq.col.le;have hn_q_col:=hq.col.len
 have hl_q_x:=hq.x.le;have hn_q_x:=hq.x.len
 have hl_q_y:=hq.y.le;have hn_q_y:=hq.y.len
 have hl_q_ops:=hq.ops.le;have hn_q_ops:=hq.ops.len
 refine callsA 71 func60 rfl<|sR<|sBox hS (.agg (encStage q).toArray) (encStage q).toArray fun _ _ b0=>sBox b0 (.agg #[I s.w,I s.h,I s.max_]) #[I s.w,I s.h,I s.max_] fun _ _ c0=>sBox c0 (.agg #[I t.w,I t.h,I t.max_]) #[I t.w,I t.h,I t.max_] fun _ _ a0=>pu1<|zQ<|pu1<|sL a0 2 0 (I q.kind) (isAgg3 _)<|nT<|blockE<|sR<|pu2<|nT<|cE q.kind 1 (fun d0=>?_) (fun d0=>?_)
 ·refine sR<|pu1<|sL a0 1 2 (I s.max_) (isAgg3 _)<|pu1<|sL a0 2 6 (I q.kW) (isAgg3 _)<|pu1<|sL a0 2 7 (I q.kH) (isAgg3 _)<|pu1<|sL a0 2 8 (.slice q.weights.a q.weights.n q.weights.k) (isAgg22 _)<|pu1<|sL a0 2 11 (I q.shift) (isAgg3 _)<|pu1<|sL a0 2 17 (I q.max_) (isAgg3 _)<|cR call61 (p9_check s.max_ q.kW q.kH q.weights.a q.weights.n q.weights.k q.weights.l q.shift q.max_ (RdT.flat (hq.weights.up 3 (by rfl))) a0.flat) fun _ e0=>pu1<|zB<|retT [I (convCode s.max_ q.kW q.kH q.weights.l q.shift q.max_)] ?_
  have f0:=(e0.drops [0,0,0])
  have hk:(kernelV q.v s t).2=(convCode s.max_ q.kW q.kH q.weights.l q.shift q.max_):=by unfold kernelV;rw [if_pos (by simp only [Stage.v];omega)];rfl
  exact ⟨by rw [hk];rfl,f0⟩
 refine sR<|pu2<|nT<|cE q.kind 2 (fun g0=>?_) (fun g0=>?_)
 ·refine sR<|pu1<|sL a0 1 2 (I s.max_) (isAgg3 _)<|pu1<|sL a0 2 9 (.slice q.row.a q.row.n q.row.k) (isAgg22 _)<|pu1<|sL a0 2 10 (.slice q.col.a q.col.n q.col.k) (isAgg22 _)<|pu1<|sL a0 2 11 (I q.shift) (isAgg3 _)<|pu1<|sL a0 2 12 (I q.shift2) (isAgg3 _)<|pu1<|sL a0 2 17 (I q.max_) (isAgg3 _)<|cR call65 (p10_check s.max_ q.row.a q.row.n q.row.k q.row.l q.col.a q.col.n q.col.k q.col.l q.shift q.shift2 q.max_ (RdT.flat (hq.row.up 3 (by rfl))) (RdT.flat (hq.col.up 3 (by rfl))) a0.flat) fun _ h0=>pu1<|zB<|retT [I (sepCode s.max_ q.row.l q.col.l q.shift q.shift2 q.max_)] ?_
  have i0:=(h0.drops [0,0,0])
  have hk:(kernelV q.v s t).2=(sepCode s.max_ q.row.l q.col.l q.shift q.shift2 q.max_):=by unfold kernelV;rw [if_neg (by simp only [Stage.v];omega),if_pos (by simp only [Stage.v];omega)];rfl
  exact ⟨by rw [hk];rfl,i0⟩
 refine sR<|pu2<|nT<|cE q.kind 3 (fun j0=>?_) (fun j0=>?_)
 ·refine sR<|lA a0 1 0 3 (isAgg77 _) (sizeOf77 _)<|pu1<|sL a0 2 13 (.slice q.x.a q.x.n q.x.k) (isAgg56 _)<|pu1<|sL a0 2 14 (.slice q.y.a q.y.n q.y.k) (isAgg56 _)<|pu1<|sL a0 2 11 (I q.shift) (isAgg3 _)<|pu1<|sL a0 2 12 (I q.shift2) (isAgg3 _)<|pu1<|sL a0 2 17 (I q.max_) (isAgg3 _)<|cR call67 (p11_check s q.x.a q.x.n q.x.k q.x.l q.y.a q.y.n q.y.k q.y.l q.shift q.shift2 q.max_ (RdT.flat (hq.x.up 3 (by rfl))) (fun z hz=>(hq.xD z hz).of_mem (mem_flat1 3 (by rfl))) (RdT.flat (hq.y.up 3 (by rfl))) (fun z hz=>(hq.yD z hz).of_mem (mem_flat1 3 (by rfl))) a0.flat) fun _ k0=>?_
  refine pu1<|zB<|retT [I (resCode s.w s.h s.max_ (q.x.l.map Tap.v) (q.y.l.map Tap.v) q.shift q.shift2 q.max_)] ?_
  have l0:=(k0.drops [0,0,0])
  have hk:(kernelV q.v s t).2=(resCode s.w s.h s.max_ (q.x.l.map Tap.v) (q.y.l.map Tap.v) q.shift q.shift2 q.max_):=by unfold kernelV;rw [if_neg (by simp only [Stage.v];omega),if_neg (by simp only [Stage.v];omega),if_pos (by simp only [Stage.v];omega)];rfl
  exact ⟨by rw [hk];rfl,l0⟩
 refine sR<|pu2<|nT<|cE q.kind 4 (fun m0=>?_) (fun m0=>?_)
 rotate_left
 ·refine sR<|pu2<|nT<|cE q.kind 5 (fun n0=>?_) (fun n0=>?_)
  rotate_left
  ·refine skipE<|bN<|tN<|sR<|lA a0 2 0 18 (isAgg59 _) (sizeOf59 _)<|lA a0 1 0 3 (isAgg77 _) (sizeOf77 _)<|lA a0 0 0 3 (isAgg77 _) (sizeOf77 _)<|cR call76 (p15_point q s t (hq.of_mem (mem_flat1 3 (by rfl))) a0.flat) fun _ o0=>pu1<|zE<|retT [I (ptCode q.v s t)] ?_
   have p0:=(o0.drops [0,0,0])
   have hk:(kernelV q.v s t).2=(ptCode q.v s t):=(pt_kernel (by simp only [Stage.v];omega)).symm
   exact ⟨by rw [hk];rfl,p0⟩
  refine sR<|lA a0 1 0 3 (isAgg77 _) (sizeOf77 _)<|cR call75 (p13_check s a0.flat) fun _ q0=>pu1<|zB<|retT [I (intCode s.w s.h s.max_)] ?_
  have r0:=(q0.drops [0,0,0])
  have hk:(kernelV q.v s t).2=(intCode s.w s.h s.max_):=by unfold kernelV intCode;rw [if_neg (by simp only [Stage.v];omega),if_neg (by simp only [Stage.v];omega),if_neg (by simp only [Stage.v];omega),if_neg (by simp only [Stage.v];omega),if_pos (by simp only [Stage.v];omega)];split<;>rfl
  exact ⟨by rw [hk];rfl,r0⟩
 refine seqE<|sR<|pu1<|sL a0 2 15 (I q.bins) (isAgg3 _)<|pu2<|sD 58 (q.bins<1) (fun s0=>?_) (fun s0=>?_)
 ·refine pu4<|zC<|pu1<|zE<|tR<|tK<|retT [I 9] ?_
  have t0:=(a0.drops [0,0,0])
  have hk:(kernelV q.v s t).2=9:=by unfold kernelV;rw [if_neg (by simp only [Stage.v];omega),if_neg (by simp only [Stage.v];omega),if_neg (by simp only [Stage.v];omega),if_pos (by simp only [Stage.v];omega),if_neg (by simp only [Stage.v];omega)]
  exact ⟨by rw [hk];rfl,t0⟩
 refine pu1<|gY<|sL a0 2 15 (I q.bins) (isAgg3 _)<|pu2<|nT<|cD (q.bins>128) (fun u0=>?_) (fun u0=>?_)
 ·refine sR<|pu1<|zE<|tR<|tK<|retT [I 9] ?_
  have v0:=(a0.drops [0,0,0])
  have hk:(kernelV q.v s t).2=9:=by unfold kernelV;rw [if_neg (by simp only [Stage.v];omega),if_neg (by simp only [Stage.v];omega),if_neg (by simp only [Stage.v];omega),if_pos (by simp only [Stage.v];omega),if_neg (by simp only [Stage.v];omega)]
  exact ⟨by rw [hk];rfl,v0⟩
 refine kS<|pu1<|zB<|retT [I 0] ?_
 have w0:=(a0.drops [0,0,0])
 have hk:(kernelV q.v s t).2=0:=by unfold kernelV;rw [if_neg (by simp only [Stage.v];omega),if_neg (by simp only [Stage.v];omega),if_neg (by simp only [Stage.v];omega),if_pos (by simp only [Stage.v];omega),if_pos (by simp only [Stage.v];omega)]
 exact ⟨by rw [hk];rfl,w0⟩
theorem kern_3 {q:Stage} {s t:Shape} (h:q.v.kind=3) (_:(kernelV q.v s t).2=0) (hx:(q.x.l.map Tap.v).length=q.x.n) (hy:(q.y.l.map Tap.v).length=q.y.n):(kernelV q.v s t).1=⟨(q.x.n:Int),(q.y.n:Int),q.max_⟩:=by
  unfold kernelV
  rw [if_neg (by omega),if_neg (by omega),if_pos h]
  simp only [Stage.v,hx,hy]
theorem kern_4 {q:Stage} {s t:Shape} (h:q.v.kind=4) (h0:(kernelV q.v s t).2=0):(kernelV q.v s t).1=⟨q.bins,1,s.w*s.h⟩:=by
  unfold kernelV at h0⊢
  rw [if_neg (by omega),if_neg (by omega),if_neg (by omega),if_pos h] at h0⊢
  split at h0
  · rename_i k;rw [if_pos k];rfl
  · cases h0
theorem kern_5 {q:Stage} {s t:Shape} (h:q.v.kind=5) (h0:(kernelV q.v s t).2=0):(kernelV q.v s t).1=⟨s.w,s.h,s.max_*s.w*s.h⟩:=by
  unfold kernelV at h0⊢
  rw [if_neg (by omega),if_neg (by omega),if_neg (by omega),if_neg (by omega),if_pos h] at h0⊢
  split at h0
  · rename_i k;rw [if_pos k];unfold mostV;rw [if_pos k,Int.mul_comm (s.w*s.h),<-Int.mul_assoc]
  · cases h0
theorem kern_0 {q:Stage} {s t:Shape} (h:¬(3<=q.v.kind/\q.v.kind<=5)) (h0:(kernelV q.v s t).2=0):(kernelV q.v s t).1=⟨s.w,s.h,q.max_⟩:=by
  unfold kernelV at h0⊢
  rw [if_neg (show ¬q.v.kind=3 by omega),if_neg (show ¬q.v.kind=4 by omega),if_neg (show ¬q.v.kind=5 by omega)] at h0⊢
  split
  · rfl
  · split
    · rfl
    · split
      · split<;>rfl
      · rfl
theorem p15_of (q : Stage) (s : Shape) (t : Shape) (hq : Stage.Ok [H] q) (hS : Sat W w (H :: F)) :
  Ro prog 47 #[.agg (encStage q).toArray, .agg #[I s.w, I s.h, I s.max_], .agg #[I t.w, I t.h, I t.max_]] (.tuple #[.agg #[I ((ofV q.v s t).1.w), I ((ofV q.v s t).1.h), I ((ofV q.v s t).1.max_)], I ((ofV q.v s t).2)]) W w (H :: F) := by
 have hl_q_weights := hq.weights.le; have hn_q_weights := hq.weights.len
 have hl_q_row := hq.row.le; have hn_q_row := hq.row.len
 have hl_q_col := hq.col.le; have hn_q_col := hq.col.len
 have hl_q_x := hq.x.le; have hn_q_x := hq.x.len
 have hl_q_y := hq.y.le; have hn_q_y := hq.y.len
 have hl_q_ops := hq.ops.le; have hn_q_ops := hq.ops.len
 have hmx : (q.x.l.map Tap.v).length = q.x.n := by simp [hn_q_x]
 have hmy : (q.y.l.map Tap.v).length = q.y.n := by simp [hn_q_y]
 refine callsA 91 func47 rfl <| sR <| sBox hS (.agg (encStage q).toArray) (encStage q).toArray fun b0 _ y0 => sBox y0 (.agg #[I s.w, I s.h, I s.max_]) #[I s.w, I s.h, I s.max_] fun c0 _ z0 => sBox z0 (.agg #[I t.w, I t.h, I t.max_]) #[I t.w, I t.h, I t.max_] fun d0 _ a1 => sAlloc a1 zeroValue77 fun e0 _ k0 => pu1 <| zQ <| lA k0 3 0 18 (isAgg59 _) (sizeOf59 _) <| cR call56 (p15_fields q (hq.of_mem (mem_flat1 4 (by rfl))) k0.flat) fun _ h0 => pu1 <| nT <| cDn (fieldsP q.v) (fun b1 => ?_) (fun b1 => ?_)
 rotate_left
 ·refine sR <| pu1 <| sTl h0 0 [I 0, I 0, I 0] sizeOf77 fun _ l0 => pu1 <| zR <| retC l0 0 [I 0, I 0, I 0] (I 1) (isAgg77 _) (sizeOf77 _) ?_
  have c1 := (l0.drops [0, 0, 0, 0])
  have hk : ofV q.v s t = ((⟨0, 0, 0⟩ : Shape), 1) := by
   unfold ofV; rw [if_neg ‹_›]
  exact ⟨by rw [hk]; rfl, c1⟩
 refine kT <| cutA (γ := Unit) (fun _ => [(3, Pt b0 0), (4, Pt c0 0), (5, Pt d0 0), (6, Pt e0 0)]) (fun _ w => Sat W w ([(e0, .cells #[I 0, I 0, I 0] 77 (0, 0))] :: [(d0, .cells #[I t.w, I t.h, I t.max_] 77 (0, 0))] :: [(c0, .cells #[I s.w, I s.h, I s.max_] 77 (0, 0))] :: [(b0, .cells (encStage q).toArray 59 (0, 0))] :: H :: F) /\ (szP s /\ ofV q.v s t = if ¬ (q.v.kind = 1 \/ q.v.kind = 2 \/ q.v.kind = 3) \/ edgeP q.v s.max_ then (if (kernelV q.v s t).2 = 0 then ((kernelV q.v s t).1, 0) else (⟨0, 0, 0⟩, (kernelV q.v s t).2)) else (⟨0, 0, 0⟩, 1))) ?_ ?_
 ·refine sR <| lA h0 2 0 3 (isAgg77 _) (sizeOf77 _) <| cR call57 (p15_valid s h0.flat) fun _ i0 => pu2 <| sDn 16 ((1 : Int) <= s.w /\ s.w <= (128 : Int) /\ (1 : Int) <= s.h /\ s.h <= (128 : Int) /\ s.w * s.h <= (4096 : Int) /\ (1 : Int) <= s.max_ /\ s.max_ <= (4294967296 : Int)) (fun d1 => ?_) (fun d1 => ?_)
  rotate_left
  ·refine pu8 <| zC <| pu1 <| sTl i0 0 [I 0, I 0, I 0] sizeOf77 fun _ m0 => pu1 <| zR <| retC m0 0 [I 0, I 0, I 0] (I 2) (isAgg77 _) (sizeOf77 _) ?_
   have e1 := (m0.drops [0, 0, 0, 0])
   have hk : ofV q.v s t = ((⟨0, 0, 0⟩ : Shape), 2) := by
    unfold ofV; rw [if_pos ‹_›, if_neg (by unfold szP twoP; simp only [Stage.v]; omega)]
   exact ⟨by rw [hk]; rfl, e1⟩
  refine gY <| lA i0 3 0 18 (isAgg59 _) (sizeOf59 _) <| gY <| cR call45 (p15_pair q (hq.of_mem (mem_flat1 4 (by rfl))) i0.flat) fun _ j0 => pu1 <| sD 19 (q.kind = 6 /\ ¬ q.b = -1) (fun f1 => ?_) (fun f1 => ?_)
  rotate_left
  ·refine pu5 <| nT <| cFf <| kT ?_
   exact ⟨(), alA, j0, ⟨by unfold szP; omega, by unfold ofV; rw [if_pos ‹_›, if_pos (by unfold szP twoP; simp only [Stage.v]; omega)]⟩⟩
  refine gY <| lA j0 1 0 3 (isAgg77 _) (sizeOf77 _) <| gY <| cR call57 (p15_valid t j0.flat) fun _ n0 => pu3 <| nT <| cDn ((1 : Int) <= t.w /\ t.w <= (128 : Int) /\ (1 : Int) <= t.h /\ t.h <= (128 : Int) /\ t.w * t.h <= (4096 : Int) /\ (1 : Int) <= t.max_ /\ t.max_ <= (4294967296 : Int)) (fun g1 => ?_) (fun g1 => ?_)
  ·refine kT ?_
   exact ⟨(), alA, n0, ⟨by unfold szP; omega, by unfold ofV; rw [if_pos ‹_›, if_pos (by unfold szP twoP; simp only [Stage.v]; omega)]⟩⟩
  refine sR <| pu1 <| sTl n0 0 [I 0, I 0, I 0] sizeOf77 fun _ o0 => pu1 <| zR <| retC o0 0 [I 0, I 0, I 0] (I 2) (isAgg77 _) (sizeOf77 _) ?_
  have h1 := (o0.drops [0, 0, 0, 0])
  have hk : ofV q.v s t = ((⟨0, 0, 0⟩ : Shape), 2) := by
   unfold ofV; rw [if_pos ‹_›, if_neg (by unfold szP twoP; simp only [Stage.v]; omega)]
  exact ⟨by rw [hk]; rfl, h1⟩
 rintro _ ρ _ ⟨p0, hF⟩
 refine cutA (γ := Unit) (fun _ => [(3, Pt b0 0), (4, Pt c0 0), (5, Pt d0 0), (6, Pt e0 0)]) (fun _ w => Sat W w ([(e0, .cells #[I 0, I 0, I 0] 77 (0, 0))] :: [(d0, .cells #[I t.w, I t.h, I t.max_] 77 (0, 0))] :: [(c0, .cells #[I s.w, I s.h, I s.max_] 77 (0, 0))] :: [(b0, .cells (encStage q).toArray 59 (0, 0))] :: H :: F) /\ (szP s /\ ofV q.v s t = (if (kernelV q.v s t).2 = 0 then ((kernelV q.v s t).1, 0) else (⟨0, 0, 0⟩, (kernelV q.v s t).2)))) ?_ ?_
 ·refine seqE ?_
  obtain ⟨hs0, hF⟩ := hF; have hs2 := hs0; unfold szP at hs2
  refine rE <| pu1 <| sL p0 3 0 (I q.kind) (isAgg3 _) <| cR call58 (p15_edged q.kind p0.flat) fun _ f0 => pu1 <| sD 29 (q.kind = 1 \/ q.kind = 2 \/ q.kind = 3) (fun i1 => ?_) (fun i1 => ?_)
  rotate_left
  ·refine pu7 <| nT <| cFf <| kT ?_
   exact ⟨(), alA, f0, ⟨hs0, by rw [hF, if_pos (by unfold edgeP; simp only [Stage.v]; (try dsimp only at *); omega)]⟩⟩
  refine pu1 <| gY <| lA f0 3 4 2 (isAgg55 _) (sizeOf55 _) <| pu1 <| gY <| sL f0 2 2 (I s.max_) (isAgg3 _) <| gY <| cR call59 (p3_valid (⟨q.edgePolicy, q.edgeFill⟩ : Edge) s.max_ f0.flat) fun _ q0 => pu2 <| nT <| cDn (((⟨q.edgePolicy, q.edgeFill⟩ : Edge).policy = 3 /\ 0 <= (⟨q.edgePolicy, q.edgeFill⟩ : Edge).fill /\ (⟨q.edgePolicy, q.edgeFill⟩ : Edge).fill <= s.max_) \/ (0 <= (⟨q.edgePolicy, q.edgeFill⟩ : Edge).policy /\ (⟨q.edgePolicy, q.edgeFill⟩ : Edge).policy < 3 /\ (⟨q.edgePolicy, q.edgeFill⟩ : Edge).fill = 0)) (fun j1 => ?_) (fun j1 => ?_)
  ·refine kT ?_
   exact ⟨(), alA, q0, ⟨hs0, by rw [hF, if_pos (by unfold edgeP; simp only [Stage.v]; (try dsimp only at *); omega)]⟩⟩
  exact sR <| pu1 <| sTl q0 0 [I 0, I 0, I 0] sizeOf77 fun _ r0 => pu1 <| zR <| retC r0 0 [I 0, I 0, I 0] (I 1) (isAgg77 _) (sizeOf77 _) <| ⟨by rw [hF, if_neg (by unfold edgeP; simp only [Stage.v]; (try dsimp only at *); omega)]; rfl, (r0.drops [0, 0, 0, 0])⟩
 rintro _ ρ _ ⟨g0, hF⟩
 refine seqE <| seqE ?_
 obtain ⟨hs0, hF⟩ := hF; have hs2 := hs0; unfold szP at hs2
 refine rE <| lA g0 3 0 18 (isAgg59 _) (sizeOf59 _) <| lA g0 2 0 3 (isAgg77 _) (sizeOf77 _) <| lA g0 1 0 3 (isAgg77 _) (sizeOf77 _) <| cR call60 (p15_check q s t (hq.of_mem (mem_flat1 4 (by rfl))) g0.flat) fun _ a0 => pu1 <| zS <| pu2 <| nT <| cN ((kernelV q.v s t).2) 0 (fun s0 => ?_) (fun s0 => ?_)
 rotate_left
 ·exact sR <| pu2 <| sTl a0 0 [I 0, I 0, I 0] sizeOf77 fun _ t0 => pu1 <| zR <| retC t0 0 [I 0, I 0, I 0] (I ((kernelV q.v s t).2)) (isAgg77 _) (sizeOf77 _) <| ⟨by rw [hF, if_neg ‹_›]; rfl, (t0.drops [0, 0, 0, 0])⟩
 refine kT <| seqE <| seqE ?_
 have hk0 : (kernelV q.v s t).2 = 0 := s0
 have hwh := mul_bd (a := s.w) (b := s.h) (A := 128) (B := 128) om om; have hmw := mul_bd (a := s.max_) (b := s.w) (A := 4294967296) (B := 128) om om; have hmwh := mul_bd (a := s.max_ * s.w) (b := s.h) (A := 549755813888) (B := 128) om om
 refine rE <| pu1 <| sL a0 3 0 (I q.kind) (isAgg3 _) <| nT <| blockE <| sR <| pu2 <| nT <| cE q.kind 3 (fun m1 => ?_) (fun m1 => ?_)
 ·exact sR <| pu1 <| sL a0 3 13 (.slice q.x.a q.x.n q.x.k) (isAgg56 _) <| pu2 <| sL a0 3 14 (.slice q.y.a q.y.n q.y.k) (isAgg56 _) <| pu2 <| sL a0 3 17 (I q.max_) (isAgg3 _) <| pu1 <| sTl a0 0 [I (q.x.n : Int), I (q.y.n : Int), I q.max_] sizeOf77 fun _ u0 => pu1 <| zB <| retC u0 0 [I (q.x.n : Int), I (q.y.n : Int), I q.max_] (I 0) (isAgg77 _) (sizeOf77 _) <| ⟨by rw [hF, if_pos hk0, kern_3 (by simp only [Stage.v]; omega) hk0 hmx hmy]; rfl, (u0.drops [0, 0, 0, 0])⟩
 refine sR <| pu2 <| nT <| cE q.kind 4 (fun o1 => ?_) (fun o1 => ?_)
 ·exact sR <| pu1 <| sL a0 3 15 (I q.bins) (isAgg3 _) <| pu1 <| sL a0 2 0 (I s.w) (isAgg3 _) <| pu1 <| sL a0 2 1 (I s.h) (isAgg3 _) <| sMul s.w s.h <| pu1 <| sTl a0 0 [I q.bins, I 1, I (s.w * s.h)] sizeOf77 fun _ v0 => pu1 <| zB <| retC v0 0 [I q.bins, I 1, I (s.w * s.h)] (I 0) (isAgg77 _) (sizeOf77 _) <| ⟨by rw [hF, if_pos hk0, kern_4 (by simp only [Stage.v]; omega) hk0]; rfl, (v0.drops [0, 0, 0, 0])⟩
 refine sR <| pu2 <| nT <| cE q.kind 5 (fun r1 => ?_) (fun r1 => ?_)
 rotate_left
 ·exact skipE <| bN <| tN <| sR <| pu1 <| sL a0 2 0 (I s.w) (isAgg3 _) <| pu1 <| sL a0 2 1 (I s.h) (isAgg3 _) <| pu1 <| sL a0 3 17 (I q.max_) (isAgg3 _) <| pu1 <| sTl a0 0 [I s.w, I s.h, I q.max_] sizeOf77 fun _ w0 => pu1 <| zE <| retC w0 0 [I s.w, I s.h, I q.max_] (I 0) (isAgg77 _) (sizeOf77 _) <| ⟨by rw [hF, if_pos hk0, kern_0 (by simp only [Stage.v]; omega) hk0]; rfl, (w0.drops [0, 0, 0, 0])⟩
 exact sR <| pu1 <| sL a0 2 0 (I s.w) (isAgg3 _) <| pu1 <| sL a0 2 1 (I s.h) (isAgg3 _) <| pu1 <| sL a0 2 2 (I s.max_) (isAgg3 _) <| pu1 <| sL a0 2 0 (I s.w) (isAgg3 _) <| sMul s.max_ s.w <| pu1 <| sL a0 2 1 (I s.h) (isAgg3 _) <| sMul (s.max_ * s.w) s.h <| pu1 <| sTl a0 0 [I s.w, I s.h, I ((s.max_ * s.w) * s.h)] sizeOf77 fun _ x0 => pu1 <| zB <| retC x0 0 [I s.w, I s.h, I ((s.max_ * s.w) * s.h)] (I 0) (isAgg77 _) (sizeOf77 _) <| ⟨by rw [hF, if_pos hk0, kern_5 (by simp only [Stage.v]; omega) hk0]; rfl, (x0.drops [0, 0, 0, 0])⟩
end Go.Proofs.Ytmlhcafjelkjfaa
