import Derived.WalkKit
import Derived.Deep.Quiet
import Derived.KernelRfl
import Derived.Laws.BytesString
import Derived.Laws.Shifts
import Derived.Laws.IdiomStrings
import Derived.OpenShut
import Derived.Deep.Slices
import Derived.ChangeSame
import Derived.Deep.Fields
import Derived.Test.YtghcddbhllkbmaaGreatProg
import Derived.Test.YtghcddbhllkbmaaGreatR1P1La
namespace Go.Proofs.YtghcddbhllkbmaaGreat
open Go Go.E Go.Proofs.Tryz
set_option linter.all false
set_option maxRecDepth 100000
set_option maxHeartbeats 2000000
variable {W w:World} {H:Chunk} {F:List Chunk}
def ptakesV (c:Int):Int:=if 0<=c/\c<=11 then takesV c else 0
theorem ptakes_bd (c:Int):(0<=ptakesV c/\ptakesV c<=2)/\(¬(0<=c/\c<=11)\/ptakesV c=takesV c):=by
  have:=takesV_bd c
  unfold ptakesV
  split<;>omega
def papV (o:POp) (x y:Sp):Sp:=if o.code=5/\prodOK x y=false then ⟨0,0⟩ else nextV o x y 1 1
def ptLo (x y:Sp):Int:=if prodOK x y=true then prodLo x y else 0
def ptHi (x y:Sp):Int:=if prodOK x y=true then prodHi x y else 0
theorem p14_takes (x:Int) (hS:Sat W w (H::F)):
  Ro prog 168 #[I x] (.tuple #[I (ptakesV x), .bool (decide ((0:Int)<=x/\x<=11))]) W w (H::F):=by
 refine callsK 20 func168 rfl<|jCC 20 rfl<|cE x 0 (fun a0=>jCC 2 rfl<|cT _ (beq_iff_eq.2 a0)<|jCR 9 rfl<|retT [I 0, .bool true]<|⟨by rw [show ptakesV x=0 from (by unfold ptakesV takesV;(repeat' split)<;>first|rfl|(exfalso;omega)),show decide ((0:Int)<=x/\x<=11)=true from decide_eq_true om];rfl,hS⟩) fun a0=>jCC 6 rfl<|cE x 1 (fun b0=>jCC 2 rfl<|cT _ (beq_iff_eq.2 b0)<|jCR 9 rfl<|retT [I 0, .bool true]<|⟨by rw [show ptakesV x=0 from (by unfold ptakesV takesV;(repeat' split)<;>first|rfl|(exfalso;omega)),show decide ((0:Int)<=x/\x<=11)=true from decide_eq_true om];rfl,hS⟩) fun b0=>jCC 5 rfl<|cE x 2 (fun j0=>jCR 9 rfl<|retT [I 0, .bool true]<|⟨by rw [show ptakesV x=0 from (by unfold ptakesV takesV;(repeat' split)<;>first|rfl|(exfalso;omega)),show decide ((0:Int)<=x/\x<=11)=true from decide_eq_true om];rfl,hS⟩) fun j0=>jCC 7 rfl<|cE x 3 (fun c0=>jCC 2 rfl<|cT _ (beq_iff_eq.2 c0)<|jCR 9 rfl<|retT [I 2, .bool true]<|⟨by rw [show ptakesV x=2 from (by unfold ptakesV takesV;(repeat' split)<;>first|rfl|(exfalso;omega)),show decide ((0:Int)<=x/\x<=11)=true from decide_eq_true om];rfl,hS⟩) fun c0=>jCC 6 rfl<|cE x 4 (fun d0=>jCC 2 rfl<|cT _ (beq_iff_eq.2 d0)<|jCR 9 rfl<|retT [I 2, .bool true]<|⟨by rw [show ptakesV x=2 from (by unfold ptakesV takesV;(repeat' split)<;>first|rfl|(exfalso;omega)),show decide ((0:Int)<=x/\x<=11)=true from decide_eq_true om];rfl,hS⟩) fun d0=>?_
 exact jCC 6 rfl<|cE x 5 (fun e0=>jCC 2 rfl<|cT _ (beq_iff_eq.2 e0)<|jCR 9 rfl<|retT [I 2, .bool true]<|⟨by rw [show ptakesV x=2 from (by unfold ptakesV takesV;(repeat' split)<;>first|rfl|(exfalso;omega)),show decide ((0:Int)<=x/\x<=11)=true from decide_eq_true om];rfl,hS⟩) fun e0=>jCC 6 rfl<|cE x 6 (fun f0=>jCC 2 rfl<|cT _ (beq_iff_eq.2 f0)<|jCR 9 rfl<|retT [I 2, .bool true]<|⟨by rw [show ptakesV x=2 from (by unfold ptakesV takesV;(repeat' split)<;>first|rfl|(exfalso;omega)),show decide ((0:Int)<=x/\x<=11)=true from decide_eq_true om];rfl,hS⟩) fun f0=>jCC 6 rfl<|cE x 7 (fun g0=>jCC 2 rfl<|cT _ (beq_iff_eq.2 g0)<|jCR 9 rfl<|retT [I 2, .bool true]<|⟨by rw [show ptakesV x=2 from (by unfold ptakesV takesV;(repeat' split)<;>first|rfl|(exfalso;omega)),show decide ((0:Int)<=x/\x<=11)=true from decide_eq_true om];rfl,hS⟩) fun g0=>jCC 6 rfl<|cE x 8 (fun h0=>jCC 2 rfl<|cT _ (beq_iff_eq.2 h0)<|jCR 9 rfl<|retT [I 2, .bool true]<|⟨by rw [show ptakesV x=2 from (by unfold ptakesV takesV;(repeat' split)<;>first|rfl|(exfalso;omega)),show decide ((0:Int)<=x/\x<=11)=true from decide_eq_true om];rfl,hS⟩) fun h0=>jCC 5 rfl<|cE x 9 (fun k0=>jCR 9 rfl<|retT [I 2, .bool true]<|⟨by rw [show ptakesV x=2 from (by unfold ptakesV takesV;(repeat' split)<;>first|rfl|(exfalso;omega)),show decide ((0:Int)<=x/\x<=11)=true from decide_eq_true om];rfl,hS⟩) fun k0=>jCC 7 rfl<|cE x 10 (fun i0=>jCC 2 rfl<|cT _ (beq_iff_eq.2 i0)<|jCR 9 rfl<|retT [I 1, .bool true]<|⟨by rw [show ptakesV x=1 from (by unfold ptakesV takesV;(repeat' split)<;>first|rfl|(exfalso;omega)),show decide ((0:Int)<=x/\x<=11)=true from decide_eq_true om];rfl,hS⟩) fun i0=>jCC 5 rfl<|cE x 11 (fun l0=>jCR 9 rfl<|retT [I 1, .bool true]<|⟨by rw [show ptakesV x=1 from (by unfold ptakesV takesV;(repeat' split)<;>first|rfl|(exfalso;omega)),show decide ((0:Int)<=x/\x<=11)=true from decide_eq_true om];rfl,hS⟩) fun l0=>jCR 10 rfl<|retT [I 0, .bool false]<|⟨by rw [show ptakesV x=0 from (by unfold ptakesV takesV;(repeat' split)<;>first|rfl|(exfalso;omega)),show decide ((0:Int)<=x/\x<=11)=false from decide_eq_false om];rfl,hS⟩
theorem p14_argument (o:POp) (hS:Sat W w (H::F)):
  Ro prog 169 #[.agg #[I o.code,I o.arg]] (.bool (decide (argP o))) W w (H::F):=by
 exact callsK 28 func169 rfl<|jCO 2 rfl<|sBx hS [I o.code,I o.arg] fun _ _ a0=>gOC a0 17 [0] rfl<|cE o.code 2 (fun b0=>gCO a0 6 [0] rfl<|SD 10 (-4294967296<=o.arg) (fun c0=>jOR 10 rfl<|retT [.bool false]<|⟨rB (by first|rfl|(rw [Bool.eq_iff_iff];simp only [decide_eq_true_eq,beq_iff_eq,bne_iff_ne,ne_eq,Bool.not_eq_true',decide_eq_false_iff_not,true_iff,false_iff,iff_true,iff_false,Bool.false_eq_true,Bool.and_eq_true,Bool.or_eq_true,gt_iff_lt,ge_iff_le,argP]<;>omega)|(rw [Bool.eq_iff_iff];simp [argP, *]<;>omega)|(simp_all;done)),(a0.dropAt 0 rfl)⟩) fun c0=>gOR a0 10 [0] rfl<|retT [.bool (decide ((o.arg:Int)<=4294967296))]<|⟨rB (by first|rfl|(rw [Bool.eq_iff_iff];simp only [decide_eq_true_eq,beq_iff_eq,bne_iff_ne,ne_eq,Bool.not_eq_true',decide_eq_false_iff_not,true_iff,false_iff,iff_true,iff_false,Bool.false_eq_true,Bool.and_eq_true,Bool.or_eq_true,gt_iff_lt,ge_iff_le,argP]<;>omega)|(rw [Bool.eq_iff_iff];simp [argP, *]<;>omega)|(simp_all;done)),(a0.dropAt 0 rfl)⟩) fun b0=>jCC 6 rfl<|CE o.code 10 (fun f0=>gCR a0 12 [0] rfl<|retT [.bool ((o.arg:Int)==0)]<|⟨rB (by first|rfl|(rw [Bool.eq_iff_iff];simp only [decide_eq_true_eq,beq_iff_eq,bne_iff_ne,ne_eq,Bool.not_eq_true',decide_eq_false_iff_not,true_iff,false_iff,iff_true,iff_false,Bool.false_eq_true,Bool.and_eq_true,Bool.or_eq_true,gt_iff_lt,ge_iff_le,argP]<;>omega)|(rw [Bool.eq_iff_iff];simp [argP, *]<;>omega)|(simp_all;done)),(a0.dropAt 0 rfl)⟩) fun f0=>gCO a0 6 [0] rfl<|SD 20 (0<=o.arg) (fun h0=>jOR 10 rfl<|retT [.bool false]<|⟨rB (by first|rfl|(rw [Bool.eq_iff_iff];simp only [decide_eq_true_eq,beq_iff_eq,bne_iff_ne,ne_eq,Bool.not_eq_true',decide_eq_false_iff_not,true_iff,false_iff,iff_true,iff_false,Bool.false_eq_true,Bool.and_eq_true,Bool.or_eq_true,gt_iff_lt,ge_iff_le,argP]<;>omega)|(rw [Bool.eq_iff_iff];simp [argP, *]<;>omega)|(simp_all;done)),(a0.dropAt 0 rfl)⟩) fun h0=>gOR a0 10 [0] rfl<|retT [.bool (decide ((o.arg:Int)<=24))]<|⟨rB (by first|rfl|(rw [Bool.eq_iff_iff];simp only [decide_eq_true_eq,beq_iff_eq,bne_iff_ne,ne_eq,Bool.not_eq_true',decide_eq_false_iff_not,true_iff,false_iff,iff_true,iff_false,Bool.false_eq_true,Bool.and_eq_true,Bool.or_eq_true,gt_iff_lt,ge_iff_le,argP]<;>omega)|(rw [Bool.eq_iff_iff];simp [argP, *]<;>omega)|(simp_all;done)),(a0.dropAt 0 rfl)⟩
theorem p14_valid (ax:Option Addr) (nx kx:Nat) (x:List POp) (two:Bool) (hx:RdT encPOp 2 [H] ax nx kx x) (hS:Sat W w (H::F)):
  Ro prog 136 #[.slice ax nx kx, .bool two] (I (opsCode x two)) W w (H::F):=by
 have A0:=hx.ll
 refine callsK 56 func136 rfl<|jCO 12 rfl<|sE 13 (nx:Int) 0 (fun h0=>jOR 14 rfl<|retT [I 9]<|⟨by unfold opsCode;rw [if_pos om];rfl,hS⟩) fun h0=>jOC 6 rfl<|cD ((nx:Int)>32) (fun i0=>jCR 7 rfl<|retT [I 9]<|⟨by unfold opsCode;rw [if_pos om];rfl,hS⟩) fun i0=>jCC 16 rfl<|loopF [1,18,19] (γ:=Nat×Int) (fun ⟨i,h⟩ R=>⟨[(20,I (i:Int)),(5,I h)],R,nx-i,i<=nx/\(opsGo two x 0=opsGo two (x.drop i) h)/\(0<=h/\h<=(i:Int))⟩) (0,0) ⟨hS,om,by rfl,om⟩ ?_
 rintro ⟨i,h⟩ ρ _ ⟨d0,hi,hG,hb⟩
 refine jCC 6 rfl<|CD ((i:Int)<(nx:Int)) (fun j0=>jCC 12 rfl<|CN h 1 (fun k0=>jCR 7 rfl<|retT [I 1]<|(by have u0:opsCode x two=opsGo two (x.drop i) h:=(by unfold opsCode;rw [if_neg om];exact hG);exact ⟨by rw [u0,List.drop_of_length_le om,opsGo];rw [if_neg om];rfl,d0⟩)) fun k0=>jCR 8 rfl<|retT [I 0]<|(by have u0:opsCode x two=opsGo two (x.drop i) h:=(by unfold opsCode;rw [if_neg om];exact hG);exact ⟨by rw [u0,List.drop_of_length_le om,opsGo];rw [if_pos om];rfl,d0⟩)) fun j0=>jCO 6 rfl<|sIN hx i fun a0 _ _ b0 l0=>sMA d0 (l0.up 0 rfl) 0 [I a0.code,I a0.arg]<|sAlloc d0 zeroValue75 fun _ _ m0=>sTk m0 0 [I a0.code,I a0.arg] fun _ e0=>gOO e0 6 [0] rfl<|cS (p14_takes a0.code e0.flat) fun _ c0=>?_
 have j1:(0<=(ptakesV a0.code)/\(ptakesV a0.code)<=2)/\(¬(0<=a0.code/\a0.code<=11)\/(ptakesV a0.code)=takesV a0.code):=ptakes_bd _
 refine jOO 13 rfl<|SDn 32 ((0:Int)<=a0.code/\a0.code<=11) (fun n0=>jOR 28 rfl<|retT [I 1]<|(by have o0:=(c0.dropAt 0 rfl);have u0:opsCode x two=opsGo two (x.drop i) h:=(by unfold opsCode;rw [if_neg om];exact hG);exact ⟨by rw [u0,drop_at b0,opsGo];rw [if_pos (by unfold opBad;first|omega|(simp_all;done)|(simp_all;omega))];rfl,o0⟩)) fun n0=>gOO c0 4 [0] rfl<|SE 36 a0.code 1 (fun p0=>jOC 11 rfl<|cD ((ptakesV a0.code)>h) (fun q0=>jCR 12 rfl<|retT [I 1]<|(by have r0:=(c0.dropAt 0 rfl);have u0:opsCode x two=opsGo two (x.drop i) h:=(by unfold opsCode;rw [if_neg om];exact hG);exact ⟨by rw [u0,drop_at b0,opsGo];rw [if_pos (by unfold opBad;first|omega|(simp_all;done)|(simp_all;omega))];rfl,r0⟩)) fun q0=>gCO c0 6 [200] rfl<|cS (p14_argument a0 c0.flat) fun _ f0=>jOC 3 rfl<|CDn (argP a0) (fun s0=>jCR 12 rfl<|retT [I 10]<|(by have t0:=(f0.dropAt 0 rfl);have u0:opsCode x two=opsGo two (x.drop i) h:=(by unfold opsCode;rw [if_neg om];exact hG);exact ⟨by rw [u0,drop_at b0,opsGo];rw [if_neg (by unfold opBad;first|omega|(simp_all;done)|(simp_all;omega)),if_neg ‹_›];rfl,t0⟩)) fun s0=>jCO 5 rfl<|sSub 1 (ptakesV a0.code)<|sAdd h (1-(ptakesV a0.code))<|jOO 5 rfl<|sAdd (i:Int) 1<|jOI 2 rfl<|⟨(i+1,(h+(1-(ptakesV a0.code)))),od,alB,(f0.dropAt 0 rfl),om,by rw [hG,drop_at b0,opsGo,if_neg (by unfold opBad;first|omega|(simp_all;done)|(simp_all;omega)),if_pos ‹_›,show takesV a0.code=ptakesV a0.code by omega],om⟩) fun p0=>?_
 exact pu5<|SBn 41 two (fun v0=>jOR 19 rfl<|retT [I 1]<|(by have w0:=(c0.dropAt 0 rfl);have u0:opsCode x two=opsGo two (x.drop i) h:=(by unfold opsCode;rw [if_neg om];exact hG);exact ⟨by rw [u0,drop_at b0,opsGo];rw [if_pos (by unfold opBad;first|omega|(simp_all;done)|(simp_all;omega))];rfl,w0⟩)) fun v0=>jOC 6 rfl<|cD ((ptakesV a0.code)>h) (fun x0=>jCR 12 rfl<|retT [I 1]<|(by have y0:=(c0.dropAt 0 rfl);have u0:opsCode x two=opsGo two (x.drop i) h:=(by unfold opsCode;rw [if_neg om];exact hG);exact ⟨by rw [u0,drop_at b0,opsGo];rw [if_pos (by unfold opBad;first|omega|(simp_all;done)|(simp_all;omega))];rfl,y0⟩)) fun x0=>gCO c0 6 [200] rfl<|cS (p14_argument a0 c0.flat) fun _ g0=>jOC 3 rfl<|CDn (argP a0) (fun z0=>jCR 12 rfl<|retT [I 10]<|(by have a1:=(g0.dropAt 0 rfl);have u0:opsCode x two=opsGo two (x.drop i) h:=(by unfold opsCode;rw [if_neg om];exact hG);exact ⟨by rw [u0,drop_at b0,opsGo];rw [if_neg (by unfold opBad;first|omega|(simp_all;done)|(simp_all;omega)),if_neg ‹_›];rfl,a1⟩)) fun z0=>jCO 5 rfl<|sSub 1 (ptakesV a0.code)<|sAdd h (1-(ptakesV a0.code))<|jOO 5 rfl<|sAdd (i:Int) 1<|jOI 2 rfl<|⟨(i+1,(h+(1-(ptakesV a0.code)))),od,alB,(g0.dropAt 0 rfl),om,by rw [hG,drop_at b0,opsGo,if_neg (by unfold opBad;first|omega|(simp_all;done)|(simp_all;omega)),if_pos ‹_›,show takesV a0.code=ptakesV a0.code by omega],om⟩
theorem p14_abs (a:Int) (ha:-9223372036854775807<=a/\a<=9223372036854775807) (hS:Sat W w (H::F)):
    Ro prog 193 #[.int .i64 a] (.int .i64 (a.natAbs:Int)) W w (H::F):=by
  exact callsK 7 func193 rfl<|jCO 9 rfl<|stepY (.int .i64 (-a)) rfl rfl (Y_neg a rfl (by kernel_rfl))<|stepY (.int .i64 (max a (-a))) rfl rfl (Y_max2 a (-a) rfl rfl (by kernel_rfl) (by kernel_rfl))<|jOR 4 rfl<|retT [.int .i64 (max a (-a))]<|⟨congrArg (fun c=>Ending.returned (.int .i64 c)) (by omega),hS⟩
theorem p14_within (x:Int) (hS:Sat W w (H::F)):
  Ro prog 191 #[I x] (.bool (decide ((-17592186044416:Int)<=x/\x<=17592186044416))) W w (H::F):=by
 exact callsK 9 func191 rfl<|jCO 10 rfl<|SD 5 (-17592186044416<=x) (fun a0=>jOR 7 rfl<|retT [.bool false]<|⟨rB bq,hS⟩) fun a0=>jOR 7 rfl<|retT [.bool (decide ((x:Int)<=17592186044416))]<|⟨rB bq,hS⟩
theorem p14_product (a:Int) (b:Int) (ha:-17592186044416<=a/\a<=17592186044416) (hb:-17592186044416<=b/\b<=17592186044416) (hS:Sat W w (H::F)):
  Ro prog 192 #[I a,I b] (.tuple #[I (timesV a b), .bool (timesOK a b)]) W w (H::F):=by
 exact callsK 19 func192 rfl<|jCO 12 rfl<|sN 8 b 0 (fun b0=>jOC 13 rfl<|(by have ht:=times_t (a:=a) (b:=b) (x:=(a.natAbs:Int)) (y:=(b.natAbs:Int)) om om om om om;exact jCO 3 rfl<|sMul a b<|jOR 5 rfl<|retT [I (a*b), .bool true]<|⟨by rw [ht.1,ht.2.1];rfl,hS⟩)) fun b0=>pu1<|gY<|cS (p14_abs a (od) hS.flat) fun _ c0=>pu1<|gY<|cS (p14_abs b (od) c0.flat) fun _ a0=>gY<|sQuo 17592186044416 (b.natAbs:Int)<|jOC 4 rfl<|cD ((a.natAbs:Int)>((17592186044416:Int).tdiv (b.natAbs:Int))) (fun d0=>jCR 8 rfl<|retT [I 0, .bool false]<|(by have ht:=times_f (a:=a) (b:=b) (x:=(a.natAbs:Int)) (y:=(b.natAbs:Int)) om om om;exact ⟨by rw [ht.1,ht.2];rfl,a0⟩)) fun d0=>jCC 3 rfl<|(by have ht:=times_t (a:=a) (b:=b) (x:=(a.natAbs:Int)) (y:=(b.natAbs:Int)) om om om om om;exact jCO 3 rfl<|sMul a b<|jOR 5 rfl<|retT [I (a*b), .bool true]<|⟨by rw [ht.1,ht.2.1];rfl,a0⟩)
theorem p14_times (x:Sp) (y:Sp) (hx:accS x) (hy:accS y) (hS:Sat W w (H::F)):
  Ro prog 189 #[.agg #[I x.lo,I x.hi], .agg #[I y.lo,I y.hi]] (.tuple #[.agg #[I (ptLo x y),I (ptHi x y)], .bool (prodOK x y)]) W w (H::F):=by
 have hx1:=hx.1;have hx2:=hx.2;have hy1:=hy.1;have hy2:=hy.2
 refine callsA 63 func189 rfl ?_
 refine sR ?_
 refine sBox hS (.agg #[I x.lo,I x.hi]) #[I x.lo,I x.hi] ?_
 intro _ _ q0
 refine sBox q0 (.agg #[I y.lo,I y.hi]) #[I y.lo,I y.hi] ?_
 intro _ _ r0
 refine sAlloc r0 zeroValue185 ?_
 intro _ _ s0
 refine pu1<|zS ?_
 refine sAlloc s0 zeroValue185 ?_
 intro _ _ a0
 refine zQ<|pu1 ?_
 refine sL a0 3 0 (I x.lo) (isAgg3 _) ?_
 refine pu1 ?_
 refine sL a0 2 0 (I y.lo) (isAgg3 _) ?_
 refine pu2 ?_
 refine sL a0 3 0 (I x.lo) (isAgg3 _) ?_
 refine pu1 ?_
 refine sL a0 2 1 (I y.hi) (isAgg3 _) ?_
 refine pu2 ?_
 refine sL a0 3 1 (I x.hi) (isAgg3 _) ?_
 refine pu1 ?_
 refine sL a0 2 0 (I y.lo) (isAgg3 _) ?_
 refine pu2 ?_
 refine sL a0 3 1 (I x.hi) (isAgg3 _) ?_
 refine pu1 ?_
 refine sL a0 2 1 (I y.hi) (isAgg3 _) ?_
 refine pu3<|nT<|blockE ?_
 refine loopN 5 ?_
 refine roundS ?_
 refine sR<|pu1<|nT<|seqE<|cTt<|kT<|seqE<|blockE<|sR<|pu2 ?_
 refine sAlloc a0 zeroValue199 ?_
 intro _ _ t0
 refine pu1 ?_
 refine sTl t0 0 [I x.lo,I y.lo] sizeOf199 ?_
 intro _ e0
 refine zS<|pu1 ?_
 refine sL e0 0 0 (I x.lo) (isAgg3 _) ?_
 refine pu1 ?_
 refine sL e0 0 1 (I y.lo) (isAgg3 _) ?_
 refine cR call192 (p14_product x.lo y.lo (od) (od) e0.flat) ?_
 intro _ j0
 refine pu5<|zQ<|pu2<|nT ?_
 refine cBn (timesOK x.lo y.lo) (fun u0=>?_) (fun u0=>?_)
 rotate_left
 ·refine sR<|pu1 ?_
  refine sTl j0 2 [I 0,I 0] sizeOf185 ?_
  intro _ k0
  refine pu1<|zE<|tR<|tK<|tR<|tK<|retC k0 2 [I 0,I 0] (.bool false) (isAgg185 _) (sizeOf185 _) ?_
  have v0:=(k0.drops [0,0,0,0,0])
  have hOK:prodOK x y=false:=by simp [prodOK, *]
  exact ⟨by rw [hOK];unfold ptLo ptHi;rw [hOK];rfl,v0⟩
 refine kT<|seqE<|sR<|pu2<|nT<|cTt<|rE<|pu3 ?_
 refine sTl j0 1 [I (timesV x.lo y.lo),I (timesV x.lo y.lo)] sizeOf185 ?_
 intro _ f0
 refine nT<|rE<|pu1 ?_
 refine sL f0 1 0 (I (timesV x.lo y.lo)) (isAgg3 _) ?_
 refine pu1 ?_
 refine stepY (I (min (timesV x.lo y.lo) (timesV x.lo y.lo))) rfl rfl (Y_min2 (timesV x.lo y.lo) (timesV x.lo y.lo) rfl rfl kr kr) ?_
 refine pu1 ?_
 refine sL f0 1 1 (I (timesV x.lo y.lo)) (isAgg3 _) ?_
 refine pu1 ?_
 refine stepY (I (max (timesV x.lo y.lo) (timesV x.lo y.lo))) rfl rfl (Y_max2 (timesV x.lo y.lo) (timesV x.lo y.lo) rfl rfl kr kr) ?_
 refine pu1 ?_
 refine sTl f0 1 [I (min (timesV x.lo y.lo) (timesV x.lo y.lo)),I (max (timesV x.lo y.lo) (timesV x.lo y.lo))] sizeOf185 ?_
 intro _ w0
 refine nB<|rE<|pu2<|nT ?_
 refine roundS ?_
 refine sR<|pu1<|nT<|seqE<|cTt<|kT<|seqE<|blockE<|sR<|pu2 ?_
 refine sAlloc w0 zeroValue199 ?_
 intro _ _ x0
 refine pu1 ?_
 refine sTl x0 0 [I x.lo,I y.hi] sizeOf199 ?_
 intro _ g0
 refine zS<|pu1 ?_
 refine sL g0 0 0 (I x.lo) (isAgg3 _) ?_
 refine pu1 ?_
 refine sL g0 0 1 (I y.hi) (isAgg3 _) ?_
 refine cR call192 (p14_product x.lo y.hi (od) (od) g0.flat) ?_
 intro _ b0
 refine pu5<|zQ<|pu2<|nT ?_
 refine cBn (timesOK x.lo y.hi) (fun y0=>?_) (fun y0=>?_)
 rotate_left
 ·refine sR<|pu1 ?_
  refine sTl b0 3 [I 0,I 0] sizeOf185 ?_
  intro _ l0
  refine pu1<|zE<|tR<|tK<|tR<|tK<|retC l0 3 [I 0,I 0] (.bool false) (isAgg185 _) (sizeOf185 _) ?_
  have z0:=(l0.drops [0,0,0,0,0,0])
  have hOK:prodOK x y=false:=by simp [prodOK, *]
  exact ⟨by rw [hOK];unfold ptLo ptHi;rw [hOK];rfl,z0⟩
 refine kT<|seqE<|sR<|pu2<|nT<|cFf<|kT<|rE<|pu1 ?_
 refine sL b0 2 0 (I (min (timesV x.lo y.lo) (timesV x.lo y.lo))) (isAgg3 _) ?_
 refine pu1 ?_
 refine stepY (I (min (min (timesV x.lo y.lo) (timesV x.lo y.lo)) (timesV x.lo y.hi))) rfl rfl (Y_min2 (min (timesV x.lo y.lo) (timesV x.lo y.lo)) (timesV x.lo y.hi) rfl rfl kr kr) ?_
 refine pu1 ?_
 refine sL b0 2 1 (I (max (timesV x.lo y.lo) (timesV x.lo y.lo))) (isAgg3 _) ?_
 refine pu1 ?_
 refine stepY (I (max (max (timesV x.lo y.lo) (timesV x.lo y.lo)) (timesV x.lo y.hi))) rfl rfl (Y_max2 (max (timesV x.lo y.lo) (timesV x.lo y.lo)) (timesV x.lo y.hi) rfl rfl kr kr) ?_
 refine pu1 ?_
 refine sTl b0 2 [I (min (min (timesV x.lo y.lo) (timesV x.lo y.lo)) (timesV x.lo y.hi)),I (max (max (timesV x.lo y.lo) (timesV x.lo y.lo)) (timesV x.lo y.hi))] sizeOf185 ?_
 intro _ a1
 refine nB<|rE<|pu2<|nT ?_
 refine roundS ?_
 refine sR<|pu1<|nT<|seqE<|cTt<|kT<|seqE<|blockE<|sR<|pu2 ?_
 refine sAlloc a1 zeroValue199 ?_
 intro _ _ b1
 refine pu1 ?_
 refine sTl b1 0 [I x.hi,I y.lo] sizeOf199 ?_
 intro _ h0
 refine zS<|pu1 ?_
 refine sL h0 0 0 (I x.hi) (isAgg3 _) ?_
 refine pu1 ?_
 refine sL h0 0 1 (I y.lo) (isAgg3 _) ?_
 refine cR call192 (p14_product x.hi y.lo (od) (od) h0.flat) ?_
 intro _ c0
 refine pu5<|zQ<|pu2<|nT ?_
 refine cBn (timesOK x.hi y.lo) (fun c1=>?_) (fun c1=>?_)
 rotate_left
 ·refine sR<|pu1 ?_
  refine sTl c0 4 [I 0,I 0] sizeOf185 ?_
  intro _ m0
  refine pu1<|zE<|tR<|tK<|tR<|tK<|retC m0 4 [I 0,I 0] (.bool false) (isAgg185 _) (sizeOf185 _) ?_
  have d1:=(m0.drops [0,0,0,0,0,0,0])
  have hOK:prodOK x y=false:=by simp [prodOK, *]
  exact ⟨by rw [hOK];unfold ptLo ptHi;rw [hOK];rfl,d1⟩
 refine kT<|seqE<|sR<|pu2<|nT<|cFf<|kT<|rE<|pu1 ?_
 refine sL c0 3 0 (I (min (min (timesV x.lo y.lo) (timesV x.lo y.lo)) (timesV x.lo y.hi))) (isAgg3 _) ?_
 refine pu1 ?_
 refine stepY (I (min (min (min (timesV x.lo y.lo) (timesV x.lo y.lo)) (timesV x.lo y.hi)) (timesV x.hi y.lo))) rfl rfl (Y_min2 (min (min (timesV x.lo y.lo) (timesV x.lo y.lo)) (timesV x.lo y.hi)) (timesV x.hi y.lo) rfl rfl kr kr) ?_
 refine pu1 ?_
 refine sL c0 3 1 (I (max (max (timesV x.lo y.lo) (timesV x.lo y.lo)) (timesV x.lo y.hi))) (isAgg3 _) ?_
 refine pu1 ?_
 refine stepY (I (max (max (max (timesV x.lo y.lo) (timesV x.lo y.lo)) (timesV x.lo y.hi)) (timesV x.hi y.lo))) rfl rfl (Y_max2 (max (max (timesV x.lo y.lo) (timesV x.lo y.lo)) (timesV x.lo y.hi)) (timesV x.hi y.lo) rfl rfl kr kr) ?_
 refine pu1 ?_
 refine sTl c0 3 [I (min (min (min (timesV x.lo y.lo) (timesV x.lo y.lo)) (timesV x.lo y.hi)) (timesV x.hi y.lo)),I (max (max (max (timesV x.lo y.lo) (timesV x.lo y.lo)) (timesV x.lo y.hi)) (timesV x.hi y.lo))] sizeOf185 ?_
 intro _ e1
 refine nB<|rE<|pu2<|nT ?_
 refine roundS ?_
 refine sR<|pu1<|nT<|seqE<|cTt<|kT<|seqE<|blockE<|sR<|pu2 ?_
 refine sAlloc e1 zeroValue199 ?_
 intro _ _ f1
 refine pu1 ?_
 refine sTl f1 0 [I x.hi,I y.hi] sizeOf199 ?_
 intro _ i0
 refine zS<|pu1 ?_
 refine sL i0 0 0 (I x.hi) (isAgg3 _) ?_
 refine pu1 ?_
 refine sL i0 0 1 (I y.hi) (isAgg3 _) ?_
 refine cR call192 (p14_product x.hi y.hi (od) (od) i0.flat) ?_
 intro _ d0
 refine pu5<|zQ<|pu2<|nT ?_
 refine cBn (timesOK x.hi y.hi) (fun g1=>?_) (fun g1=>?_)
 rotate_left
 ·refine sR<|pu1 ?_
  refine sTl d0 5 [I 0,I 0] sizeOf185 ?_
  intro _ n0
  refine pu1<|zE<|tR<|tK<|tR<|tK<|retC n0 5 [I 0,I 0] (.bool false) (isAgg185 _) (sizeOf185 _) ?_
  have h1:=(n0.drops [0,0,0,0,0,0,0,0])
  have hOK:prodOK x y=false:=by simp [prodOK, *]
  exact ⟨by rw [hOK];unfold ptLo ptHi;rw [hOK];rfl,h1⟩
 refine kT<|seqE<|sR<|pu2<|nT<|cFf<|kT<|rE<|pu1 ?_
 refine sL d0 4 0 (I (min (min (min (timesV x.lo y.lo) (timesV x.lo y.lo)) (timesV x.lo y.hi)) (timesV x.hi y.lo))) (isAgg3 _) ?_
 refine pu1 ?_
 refine stepY (I (min (min (min (min (timesV x.lo y.lo) (timesV x.lo y.lo)) (timesV x.lo y.hi)) (timesV x.hi y.lo)) (timesV x.hi y.hi))) rfl rfl (Y_min2 (min (min (min (timesV x.lo y.lo) (timesV x.lo y.lo)) (timesV x.lo y.hi)) (timesV x.hi y.lo)) (timesV x.hi y.hi) rfl rfl kr kr) ?_
 refine pu1 ?_
 refine sL d0 4 1 (I (max (max (max (timesV x.lo y.lo) (timesV x.lo y.lo)) (timesV x.lo y.hi)) (timesV x.hi y.lo))) (isAgg3 _) ?_
 refine pu1 ?_
 refine stepY (I (max (max (max (max (timesV x.lo y.lo) (timesV x.lo y.lo)) (timesV x.lo y.hi)) (timesV x.hi y.lo)) (timesV x.hi y.hi))) rfl rfl (Y_max2 (max (max (max (timesV x.lo y.lo) (timesV x.lo y.lo)) (timesV x.lo y.hi)) (timesV x.hi y.lo)) (timesV x.hi y.hi) rfl rfl kr kr) ?_
 refine pu1 ?_
 refine sTl d0 4 [I (min (min (min (min (timesV x.lo y.lo) (timesV x.lo y.lo)) (timesV x.lo y.hi)) (timesV x.hi y.lo)) (timesV x.hi y.hi)),I (max (max (max (max (timesV x.lo y.lo) (timesV x.lo y.lo)) (timesV x.lo y.hi)) (timesV x.hi y.lo)) (timesV x.hi y.hi))] sizeOf185 ?_
 intro _ o0
 refine nB<|rE<|pu2<|nT ?_
 refine roundS ?_
 refine sR<|pu1<|nT<|seqE<|cFf<|exitE<|xB<|tN<|sR ?_
 refine lA o0 4 0 2 (isAgg185 _) (sizeOf185 _) ?_
 refine sTl o0 5 [I (min (min (min (min (timesV x.lo y.lo) (timesV x.lo y.lo)) (timesV x.lo y.hi)) (timesV x.hi y.lo)) (timesV x.hi y.hi)),I (max (max (max (max (timesV x.lo y.lo) (timesV x.lo y.lo)) (timesV x.lo y.hi)) (timesV x.hi y.lo)) (timesV x.hi y.hi))] sizeOf185 ?_
 intro _ p0
 refine pu1<|zE<|retC p0 5 [I (min (min (min (min (timesV x.lo y.lo) (timesV x.lo y.lo)) (timesV x.lo y.hi)) (timesV x.hi y.lo)) (timesV x.hi y.hi)),I (max (max (max (max (timesV x.lo y.lo) (timesV x.lo y.lo)) (timesV x.lo y.hi)) (timesV x.hi y.lo)) (timesV x.hi y.hi))] (.bool true) (isAgg185 _) (sizeOf185 _) ?_
 have i1:=(p0.drops [0,0,0,0,0,0,0,0])
 have hOK:prodOK x y=true:=by simp [prodOK, *]
 exact ⟨by rw [hOK];unfold ptLo ptHi;rw [if_pos hOK,if_pos hOK,show prodLo x y=(min (min (min (min (timesV x.lo y.lo) (timesV x.lo y.lo)) (timesV x.lo y.hi)) (timesV x.hi y.lo)) (timesV x.hi y.hi)) by unfold prodLo;omega,show prodHi x y=(max (max (max (max (timesV x.lo y.lo) (timesV x.lo y.lo)) (timesV x.lo y.hi)) (timesV x.hi y.lo)) (timesV x.hi y.hi)) by unfold prodHi;omega];rfl,i1⟩
theorem p14_magnitude (x:Sp) (hx:accS x) (hS:Sat W w (H::F)):
  Ro prog 190 #[.agg #[I x.lo,I x.hi]] (I (max (((x.lo).natAbs:Nat):Int) (((x.hi).natAbs:Nat):Int))) W w (H::F):=by
 have e0:=hx.1;have f0:=hx.2
 exact callsK 10 func190 rfl<|jCO 2 rfl<|sBx hS [I x.lo,I x.hi] fun _ _ b0=>jOC 4 rfl<|drawF b0 [2,5] (fb 1 0 0 1<|fb 4 0 1 1<|fn) [0,3,1,4,2,5,6,7] fun _ c0=>wV 2<|wL 0<|wL 1<|wO rfl<|cS (p14_abs x.lo (od) c0.flat) fun _ a0=>nZ a0 [0]<|wO rfl<|cS (p14_abs x.hi (od) a0.flat) fun _ d0=>nA<|wY (I (max (x.lo.natAbs:Int) (x.hi.natAbs:Int))) rfl (fun w _=>Y_max2 (x.lo.natAbs:Int) (x.hi.natAbs:Int) rfl rfl kr kr)<|wV 1<|wN<|jXR 2 rfl<|retT [I (max (x.lo.natAbs:Int) (x.hi.natAbs:Int))]<|⟨rfl,(d0.dropAt 0 rfl)⟩
end Go.Proofs.YtghcddbhllkbmaaGreat

namespace Go.Proofs.YtghcddbhllkbmaaGreat
open Go Go.E Go.Proofs.Tryz
set_option linter.all false
set_option maxRecDepth 100000
set_option maxHeartbeats 2000000
variable {W w:World} {H:Chunk} {F:List Chunk}
theorem pap5 {o:POp} {x y:Sp} (h:o.code=5):papV o x y=⟨ptLo x y,ptHi x y⟩:=by
  unfold papV ptLo ptHi
  cases hp:prodOK x y
  · rw [if_pos ⟨h,rfl⟩];rfl
  · rw [if_neg (by simp),if_pos rfl,if_pos rfl];unfold nextV;rw [if_neg (by omega),if_neg (by omega),if_neg (by omega),if_neg (by omega),if_neg (by omega),if_pos h]
theorem papN {o:POp} {x y:Sp} (h:¬o.code=5):papV o x y=nextV o x y 1 1:=by unfold papV;rw [if_neg (fun k=>h k.1)]
theorem pap_ok {o:POp} {x y:Sp} {vlo vhi:Int} {vb:Bool} (hv:papV o x y=⟨vlo,vhi⟩) (hvb:nextB o x y=vb):nextOK o x y 1 1↔(vb=true/\(-17592186044416<=vlo/\vlo<=17592186044416)/\-17592186044416<=vhi/\vhi<=17592186044416):=by
  unfold nextOK
  rw [hvb]
  by_cases hb:vb=true
  · exact (by have e:nextV o x y 1 1=⟨vlo,vhi⟩:=(by rw [<-hv];unfold papV;rw [if_neg];rintro ⟨h5,hp⟩;rw [hb] at hvb;unfold nextB at hvb;rw [if_pos h5,hp] at hvb;cases hvb);rw [e])
  · exact ⟨fun h=>absurd h.1 hb,fun h=>absurd h.1 hb⟩
theorem next_ab {o:POp} {x y:Sp} {a b:Int} (h:3<=o.code):nextV o x y a b=nextV o x y 1 1:=by
  have h0:¬o.code=0:=(by omega);have h1:¬o.code=1:=(by omega);have h2:¬o.code=2:=(by omega)
  simp only [nextV,h0,h1,h2,if_false]
theorem next_y {o:POp} {x y z:Sp} {a b:Int} (h:10<=o.code):nextV o x y a b=nextV o x z a b:=by
  have h0:¬o.code=0:=(by omega);have h1:¬o.code=1:=(by omega);have h2:¬o.code=2:=(by omega);have h3:¬o.code=3:=(by omega);have h4:¬o.code=4:=(by omega);have h5:¬o.code=5:=(by omega);have h6:¬o.code=6:=(by omega);have h7:¬o.code=7:=(by omega);have h8:¬o.code=8:=(by omega);have h9:¬o.code=9:=(by omega)
  simp only [nextV,h0,h1,h2,h3,h4,h5,h6,h7,h8,h9,if_false]
theorem nextB_y {o:POp} {x y z:Sp} (h:10<=o.code):nextB o x y=nextB o x z:=by unfold nextB;rw [if_neg (by omega),if_neg (by omega)]
theorem iv_xy {o:POp} {st:List Sp} {x y:Sp} {a b:Int} (hc:3<=o.code/\o.code<=11) (hx:st[st.length-(takesV o.code).toNat]?=some x) (hy:st[st.length-1]?=some y):
  ivX o st=x/\nextV o x (ivY o st) a b=nextV o x y 1 1/\(nextOK o x (ivY o st) a b↔nextOK o x y 1 1):=by
 have h1:ivX o st=x:=by unfold ivX;rw [if_pos (by unfold takesV;split;omega;split<;>omega),hx];rfl
 have h2:nextV o x (ivY o st) a b=nextV o x y 1 1/\nextB o x (ivY o st)=nextB o x y:=by
  by_cases h:10<=o.code
  ·exact ⟨(next_ab om).trans (next_y h),nextB_y h⟩
  · exact (by have e:ivY o st=y:=(by unfold ivY;rw [if_pos (by unfold takesV;rw [if_neg om,if_neg om]),hy];rfl);rw [e];exact ⟨next_ab om,rfl⟩)
 exact ⟨h1,h2.1,by unfold nextOK;rw [h2.1,h2.2]⟩
theorem iv_op {a b:Int} {o:POp} {l:List POp} {st m:List Sp} {x y:Sp} (hc:3<=o.code/\o.code<=11) (hx:st[st.length-(takesV o.code).toNat]?=some x) (hy:st[st.length-1]?=some y) (hok:nextOK o x y 1 1) (hm:m=st.take (st.length-(takesV o.code).toNat)):
    ivGo a b (o::l) st=ivGo a b l (m++[nextV o x y 1 1]):=by
  obtain ⟨h1,h2,h3⟩:=iv_xy (a:=a) (b:=b) hc hx hy
  subst hm
  rw [ivGo,h1,h2,if_pos (h3.2 hok)]
theorem iv_no {a b:Int} {o:POp} {l:List POp} {st:List Sp} {x y:Sp} (hc:3<=o.code/\o.code<=11) (hx:st[st.length-(takesV o.code).toNat]?=some x) (hy:st[st.length-1]?=some y) (hok:¬nextOK o x y 1 1):ivGo a b (o::l) st=none:=by
  obtain ⟨h1,h2,h3⟩:=iv_xy (a:=a) (b:=b) hc hx hy
  rw [ivGo,h1,if_neg (fun k=>hok (h3.1 k))]
theorem iv_push {a b:Int} {o:POp} {l:List POp} {st:List Sp} {z:Sp} (hc:0<=o.code/\o.code<=2) (hz:nextV o ⟨0,0⟩ ⟨0,0⟩ a b=z) (hz2:accS z):ivGo a b (o::l) st=ivGo a b l (st++[z]):=by
  have t0:takesV o.code=0:=by unfold takesV;rw [if_pos (by omega)]
  have h1:ivX o st=⟨0,0⟩:=by unfold ivX;rw [if_neg (by omega)]
  have h2:ivY o st=⟨0,0⟩:=by unfold ivY;rw [if_neg (by omega)]
  have h3:nextB o ⟨0,0⟩ ⟨0,0⟩=true:=by unfold nextB;rw [if_neg (by omega)]
  rw [ivGo,h1,h2,if_pos ⟨h3,by rw [hz];exact hz2.1,by rw [hz];exact hz2.2⟩,hz,t0]
  congr 1
  rw [show st.length-(0:Int).toNat=st.length from rfl,List.take_length]
theorem pap_acc {o:POp} {x y:Sp} (h:nextOK o x y 1 1):papV o x y=nextV o x y 1 1:=by
  unfold papV
  rw [if_neg]
  rintro ⟨h5,hp⟩
  have h1:=h.1
  unfold nextB at h1
  rw [if_pos h5,hp] at h1;cases h1
theorem p14_apply (o:POp) (x:Sp) (y:Sp) (hx:accS x) (hy:accS y) (hc:3<=o.code/\o.code<=11) (ho:argP o) (hS:Sat W w (H::F)):
  Ro prog 170 #[.agg #[I o.code,I o.arg], .agg #[I x.lo,I x.hi], .agg #[I y.lo,I y.hi]] (.tuple #[.agg #[I ((papV o x y).lo),I ((papV o x y).hi)], .bool (decide (nextOK o x y 1 1))]) W w (H::F):=by
 have E0:=hx.1;have F0:=hx.2;have G0:=hy.1;have H0:=hy.2
 refine callsK 125 func170 rfl<|jCO 2 rfl<|sBx hS [I o.code,I o.arg] fun _ _ l0=>sBx l0 [I x.lo,I x.hi] fun _ _ m0=>sBx m0 [I y.lo,I y.hi] fun _ _ n0=>sAlloc n0 zeroValue185 fun _ _ o0=>jOO 5 rfl<|sAlloc o0 zeroValue185 fun p0 _ a0=>jOC 7 rfl<|cutF a0 1 [6,8] (γ:=Int×Int×Bool) (fun ⟨B0,A0,vb⟩ R=>⟨[(9, .bool vb)],[(p0, .cells #[I B0,I A0] 185 (0,0))]::R,0,(papV o x y=⟨B0,A0⟩)/\(nextB o x y=vb)⟩) ?_ ?_
 rotate_left
 · exact (by rintro ⟨B0,A0,vb⟩ ρ _ ⟨d0,hv,hvb⟩;exact jCC 1 rfl<|bC (vb=true) (fun e0=>drawF d0 [5,10,12] (fb 0 0 0 2<|fn) [1,2,3,0,4,5,6,7,8,9,10,11,12,13] fun _ c0=>wV 2<|wFix 115 _ false (Bool.eq_false_iff.2 e0)<|wV 1<|wG 0 2<|wV 1<|wO rfl<|pu1<|nZ c0 [0]<|wV 4<|wO rfl<|pu1<|nZ c0 [0]<|wV 1<|wO rfl<|sTk c0 1 [I B0,I A0] fun _ f0=>nA<|wV 1<|wN<|jXR 2 rfl<|retD f0 1 [I B0,I A0] (.bool false)<|(by have q0:=(f0.drops [0,0,0,0,0]);have C0:=pap_ok hv hvb;have D0:decide (nextOK o x y 1 1)=false:=decide_eq_false (fun h=>by obtain ⟨h3,h4,h5⟩:=C0.1 h;first|contradiction|omega);exact ⟨by rw [D0,hv];rfl,q0⟩)) fun e0=>drawF d0 [5,9,10,12] (fb 0 0 0 2<|fb 4 0 0 1<|fn) [1,2,3,0,4,5,6,7,8,9,10,11,12,13] fun _ r0=>wV 2<|wFix 115 _ true e0<|wV 1<|wG 0 2<|wL 2<|wO rfl<|gY<|cS (p14_within B0 r0.flat) fun _ b0=>nZ b0 [0]<|wV 2<|bC ((-17592186044416:Int)<=B0/\B0<=17592186044416) (fun g0=>wFix 120 _ false (decide_eq_false g0)<|wV 1<|wO rfl<|pu1<|nZ b0 [0]<|wO rfl<|pu1<|nZ b0 [0]<|wV 1<|wO rfl<|sTk b0 1 [I B0,I A0] fun _ h0=>nA<|wV 1<|wN<|jXR 2 rfl<|retD h0 1 [I B0,I A0] (.bool false)<|(by have s0:=(h0.drops [0,0,0,0,0]);have C0:=pap_ok hv hvb;have D0:decide (nextOK o x y 1 1)=false:=decide_eq_false (fun h=>by obtain ⟨h3,h4,h5⟩:=C0.1 h;first|contradiction|omega);exact ⟨by rw [D0,hv];rfl,s0⟩)) fun g0=>wFix 120 _ true (decide_eq_true g0)<|wV 1<|wO rfl<|gY<|sM b0 0 1 (I A0)<|nZ b0 [0]<|wO rfl<|gY<|cS (p14_within A0 b0.flat) fun _ i0=>nZ i0 [0]<|wV 1<|wO rfl<|sTk i0 1 [I B0,I A0] fun _ j0=>nA<|wV 1<|wN<|jXR 2 rfl<|retD j0 1 [I B0,I A0] (.bool (decide ((-17592186044416:Int)<=A0/\A0<=17592186044416)))<|(by have t0:=(j0.drops [0,0,0,0,0]);have C0:=pap_ok hv hvb;have D0:decide (nextOK o x y 1 1)=decide ((-17592186044416:Int)<=A0/\A0<=17592186044416):=decide_eq_decide.2 (C0.trans ⟨fun h=>h.2.2,fun h=>⟨by assumption,om,h⟩⟩);exact ⟨by rw [D0,hv];rfl,t0⟩))
 refine gCC a0 13 [4] rfl<|cE o.code 3 (fun u0=>gCO a0 5 [3,2] rfl<|sAdd x.lo y.lo<|gOO a0 4 [3,2] rfl<|sAdd x.hi y.hi<|pu1<|sTk a0 0 [I (x.lo+y.lo),I (x.hi+y.hi)] fun _ v0=>jOI 2 rfl<|⟨((x.lo+y.lo),(x.hi+y.hi),true),alB,v0,(by rw [papN om];unfold nextV;rw [if_neg om,if_neg om,if_neg om,if_pos om]<;>rfl),(by unfold nextB;rw [if_neg om])⟩) fun u0=>jCC 6 rfl<|cE o.code 4 (fun w0=>gCO a0 5 [3,2] rfl<|sSub x.lo y.hi<|gOO a0 4 [3,2] rfl<|sSub x.hi y.lo<|pu1<|sTk a0 0 [I (x.lo-y.hi),I (x.hi-y.lo)] fun _ x0=>jOI 2 rfl<|⟨((x.lo-y.hi),(x.hi-y.lo),true),alB,x0,(by rw [papN om];unfold nextV;rw [if_neg om,if_neg om,if_neg om,if_neg om,if_pos om]<;>rfl),(by unfold nextB;rw [if_neg om])⟩) fun w0=>jCC 6 rfl<|cE o.code 5 (fun y0=>gCO a0 3 [203,202] rfl<|cS (p14_times x y (by first|assumption|(unfold accS;first|assumption|omega)) (by first|assumption|(unfold accS;first|assumption|omega)) a0.flat) fun _ z0=>pu3<|sTk z0 0 [I (ptLo x y),I (ptHi x y)] fun _ a1=>jOI 3 rfl<|⟨((ptLo x y),(ptHi x y),(prodOK x y)),alB,a1,(pap5 om),(by unfold nextB;rw [if_pos om])⟩) fun y0=>?_
 refine jCC 6 rfl<|cE o.code 6 (fun b1=>gCO a0 5 [3,2] rfl<|stepY (I (min x.lo y.lo)) rfl rfl (Y_min2 x.lo y.lo rfl rfl kr kr)<|gOO a0 4 [3,2] rfl<|stepY (I (min x.hi y.hi)) rfl rfl (Y_min2 x.hi y.hi rfl rfl kr kr)<|pu1<|sTk a0 0 [I (min x.lo y.lo),I (min x.hi y.hi)] fun _ c1=>jOI 2 rfl<|⟨((min x.lo y.lo),(min x.hi y.hi),true),alB,c1,(by rw [papN om];unfold nextV;rw [if_neg om,if_neg om,if_neg om,if_neg om,if_neg om,if_neg om,if_pos om]<;>rfl),(by unfold nextB;rw [if_neg om])⟩) fun b1=>jCC 6 rfl<|cE o.code 7 (fun d1=>gCO a0 5 [3,2] rfl<|stepY (I (max x.lo y.lo)) rfl rfl (Y_max2 x.lo y.lo rfl rfl kr kr)<|gOO a0 4 [3,2] rfl<|stepY (I (max x.hi y.hi)) rfl rfl (Y_max2 x.hi y.hi rfl rfl kr kr)<|pu1<|sTk a0 0 [I (max x.lo y.lo),I (max x.hi y.hi)] fun _ e1=>jOI 2 rfl<|⟨((max x.lo y.lo),(max x.hi y.hi),true),alB,e1,(by rw [papN om];unfold nextV;rw [if_neg om,if_neg om,if_neg om,if_neg om,if_neg om,if_neg om,if_neg om,if_pos om]<;>rfl),(by unfold nextB;rw [if_neg om])⟩) fun d1=>jCC 6 rfl<|cE o.code 8 (fun f1=>gCO a0 5 [3,2] rfl<|sSub x.hi y.lo<|gOO a0 4 [2,3] rfl<|sSub y.hi x.lo<|stepY (I (max (x.hi-y.lo) (y.hi-x.lo))) rfl rfl (Y_max2 (x.hi-y.lo) (y.hi-x.lo) rfl rfl kr kr)<|pu1<|sTk a0 0 [I 0,I (max (x.hi-y.lo) (y.hi-x.lo))] fun _ g1=>jOI 2 rfl<|⟨(0,(max (x.hi-y.lo) (y.hi-x.lo)),true),alB,g1,(by rw [papN om];unfold nextV;rw [if_neg om,if_neg om,if_neg om,if_neg om,if_neg om,if_neg om,if_neg om,if_neg om,if_pos om]<;>rfl),(by unfold nextB;rw [if_neg om])⟩) fun f1=>jCC 6 rfl<|cE o.code 9 (fun h1=>drawF a0 [1,4,6] (fb 0 3 0 2<|fb 3 3 0 2<|fn) [0,3,1,2,4,5,6] fun _ i1=>wG 0 2<|wG 2 2<|wO rfl<|cS (p14_magnitude x (by first|assumption|(unfold accS;first|assumption|omega)) i1.flat) fun _ k0=>nZ k0 [3]<|wY (I (-(max (((x.lo).natAbs:Nat):Int) (((x.hi).natAbs:Nat):Int)))) rfl (fun w _=>Y_neg (max (((x.lo).natAbs:Nat):Int) (((x.hi).natAbs:Nat):Int)) rfl kr)<|wO rfl<|cS (p14_magnitude x (by first|assumption|(unfold accS;first|assumption|omega)) k0.flat) fun _ j1=>nA<|wV 1<|wO rfl<|sTk j1 0 [I (-(max (((x.lo).natAbs:Nat):Int) (((x.hi).natAbs:Nat):Int))),I (max (((x.lo).natAbs:Nat):Int) (((x.hi).natAbs:Nat):Int))] fun _ k1=>nA<|wN<|jXI 1 rfl<|⟨((-(max (((x.lo).natAbs:Nat):Int) (((x.hi).natAbs:Nat):Int))),(max (((x.lo).natAbs:Nat):Int) (((x.hi).natAbs:Nat):Int)),true),alB,k1,(by rw [papN om];unfold nextV;rw [if_neg om,if_neg om,if_neg om,if_neg om,if_neg om,if_neg om,if_neg om,if_neg om,if_neg om,if_pos om]<;>rfl),(by unfold nextB;rw [if_neg om])⟩) fun h1=>?_
 exact jCC 6 rfl<|CE o.code 10 (fun l1=>jCC 6 rfl<|(by have m1:(o.code:Int)=11:=om;exact cT _ (beq_iff_eq.2 m1)<|gCO a0 2 [203] rfl<|cS (p14_magnitude x (by first|assumption|(unfold accS;first|assumption|omega)) a0.flat) fun _ n1=>pu1<|sTk n1 0 [I 0,I (max (((x.lo).natAbs:Nat):Int) (((x.hi).natAbs:Nat):Int))] fun _ o1=>jOI 2 rfl<|⟨(0,(max (((x.lo).natAbs:Nat):Int) (((x.hi).natAbs:Nat):Int)),true),alB,o1,(by rw [papN om];unfold nextV;rw [if_neg om,if_neg om,if_neg om,if_neg om,if_neg om,if_neg om,if_neg om,if_neg om,if_neg om,if_neg om,if_neg om]<;>rfl),(by unfold nextB;rw [if_neg om])⟩)) fun l1=>gCO a0 7 [3,3,4] rfl<|cS (p7_span x.lo x.hi o.arg a0.flat) fun _ q1=>pu4<|sT q1 0 0 (I (shiftV x.lo o.arg)) [I (shiftV x.lo o.arg)] #[I (shiftV x.lo o.arg),I 0] sizeOf3 fun _ r1=>pu1<|sT r1 0 1 (I (shiftV x.hi o.arg)) [I (shiftV x.hi o.arg)] #[I (shiftV x.lo o.arg),I (shiftV x.hi o.arg)] sizeOf3 fun _ s1=>jOI 2 rfl<|⟨((shiftV x.lo o.arg),(shiftV x.hi o.arg),true),alB,s1,(by rw [papN om];unfold nextV;rw [if_neg om,if_neg om,if_neg om,if_neg om,if_neg om,if_neg om,if_neg om,if_neg om,if_neg om,if_neg om,if_pos om]<;>rfl),(by unfold nextB;rw [if_neg om])⟩
theorem p14_interval (ax:Option Addr) (nx kx:Nat) (x:List POp) (a:Int) (b:Int) (hx:RdT encPOp 2 [H] ax nx kx x) (hS:Sat W w (H::F)):
  Ro prog 137 #[.slice ax nx kx,I a,I b] (.tuple #[I ((ivRes x a b).1),I ((ivRes x a b).2.1),I ((ivRes x a b).2.2)]) W w (H::F):=by
 have T0:=hx.ll
 refine callsK 115 func137 rfl<|jCO 11 rfl<|cS (p14_valid ax nx kx x true (hx.fl 0) hS.flat) fun _ j0=>jOC 9 rfl<|CN (opsCode x true) 0 (fun c1=>jCR 10 rfl<|retT [I 0,I 0,I (opsCode x true)]<|⟨(by unfold ivRes;exact ssp),j0⟩) fun c1=>jCO 8 rfl<|sD 27 (a<1) (fun d1=>jOR 23 rfl<|retT [I 0,I 0,I 2]<|⟨(by unfold ivRes;exact ssp),j0⟩) fun d1=>pu4<|sD 31 (a>4294967296) (fun e1=>jOR 19 rfl<|retT [I 0,I 0,I 2]<|⟨(by unfold ivRes;exact ssp),j0⟩) fun e1=>pu4<|sD 35 (b<1) (fun f1=>jOR 15 rfl<|retT [I 0,I 0,I 2]<|⟨(by unfold ivRes;exact ssp),j0⟩) fun f1=>jOC 5 rfl<|cD (b>4294967296) (fun g1=>jCR 9 rfl<|retT [I 0,I 0,I 2]<|⟨(by unfold ivRes;exact ssp),j0⟩) fun g1=>jCC 3 rfl ?_
 obtain ⟨h1,i1,X0⟩:=opsCode_go (l:=x) (two:=true) om
 refine jCC 13 rfl<|loopF [1,2,39,40] (γ:=Nat×(List Sp)×SO) (fun ⟨i,zs,F0,A0,D0,O0⟩ R=>⟨[(41,I (i:Int)),(10, .slice F0 A0 D0)],O0::R,nx-i,i<=nx/\(ivGo a b x []=ivGo a b (x.drop i) zs)/\(opsGo true (x.drop i) (zs.length:Int)=0)/\(∀z∈zs,accS z)/\(zs.length<=i)/\OwnT encSp 185 2 F0 A0 D0 zs O0⟩) (0,[],none,0,0,[]) ⟨(Sat.nilc j0),om,by rfl,(opsCode_go (l:=x) (two:=true) om).1,(by intro z hz;cases hz),by simp,(OwnT.nil (enc:=encSp) (E:=185) (sz:=2) fR)⟩ ?_
 rintro ⟨i,zs,F0,A0,D0,O0⟩ ρ _ ⟨r0,hi,hG,hH,E0,A1,B0⟩
 have R0:=B0.ll
 refine jCC 6 rfl<|CD ((i:Int)<(nx:Int)) (fun j1=>jCC 6 rfl<|(by have hh:opsGo true (x.drop i) zs.length=0:=hH;rw [List.drop_of_length_le om] at hh;have w1:zs.length=1:=(by unfold opsGo at hh;split at hh<;>omega);obtain ⟨k0,r3,s3,s0,t0,u0,t3⟩:=OwnT.elem B0 0;change _[0]?=_ at s0;change PtR _ _ (_+0*_) _ at t0;change ElemAt _ _ _ _ _ (_+0*_) at u0;have G0:accS k0:=E0 k0 (List.mem_of_getElem? s0);refine drawF r0 [] (fq 3 0 (t0.up 0 rfl)<|fq 7 1 (t0.up 0 rfl)<|fn) [0,1,2,4,5,6,3,8,7,9,10] fun _ k1=>wV 1<|wI u0<|wV 2<|wI u0<|wV 1<|wL 0<|wV 1<|wL 1<|wV 2<|wN<|jXR 2 rfl<|retT [I k0.lo,I k0.hi,I 0] ?_;have l1:=(k1.dropAt 0 rfl);have M0:opsCode x true=0:=(by omega);have C0:ivRes x a b=(match ivGo a b x [] with|some st=>((st[0]?.getD (⟨0,0⟩:Sp)).lo,(st[0]?.getD (⟨0,0⟩:Sp)).hi,0)|none=>(0,0,11)):=(by unfold ivRes;rw [if_pos M0,if_pos om];rfl);have P0:ivGo a b x []=some zs:=(by rw [hG,List.drop_of_length_le om];rfl);have Y0:zs[0]?=some k0:=s0;exact ⟨by rw [C0,P0];dsimp only;rw [Y0];rfl,l1⟩)) fun j1=>?_
 refine jCO 6 rfl<|sIN hx i fun a0 _ _ e0 m1=>?_
 obtain ⟨U0,K0,L0⟩:=opsGo_zero (by rw [<-drop_at e0];exact hH)
 have Z0:=ptakes_bd a0.code;have N0:=takesV_bd a0.code;have V0:(0<=a0.code/\a0.code<=11)/\takesV a0.code<=zs.length:=(by unfold opBad at U0;omega);have Q0:3<=a0.code->1<=takesV a0.code:=(by intro h;unfold takesV;rw [if_neg om];split<;>omega)
 refine sMA r0 (m1.up 1 rfl) 0 [I a0.code,I a0.arg]<|sAlloc r0 zeroValue75 fun _ _ n1=>sTk n1 0 [I a0.code,I a0.arg] fun _ g0=>gOC g0 16 [0] rfl<|cE a0.code 0 (fun o1=>?_) (fun o1=>?_)
 ·refine jCO 5 rfl<|sBK g0 #[I 0,I a] 185 fun _ _ q1=>sApp (nb:=16) q1 B0 2 (RdT.blk (enc:=encSp) (sz:=2) (xs:=[(⟨0,a⟩:Sp)]) fR 1 0 rfl rfl rfl om) underlying183 (i:=Tryz.t185) kr fR fun r1 s1 t1 _ u1 v1=>jOO 9 rfl<|sAdd (i:Int) 1<|jOI 2 rfl ?_
  exact ⟨(i+1,(zs++[(⟨0,a⟩:Sp)]),r1,(A0+1),s1,t1),od,alB,(v1.drops [0,0]),om,by rw [hG,drop_at e0];exact iv_push om (by unfold nextV;rw [if_pos om]) (by unfold accS;dsimp only;unfold argP at K0;omega),by rw [List.length_append];simp only [List.length_cons,List.length_nil];rw [show (((zs.length+(0+1):Nat)):Int)=(zs.length:Int)+(1-takesV a0.code) from by rw [show takesV a0.code=0 from by unfold takesV;rw [if_pos om]];omega];exact L0,(by
    intro z hz
    rcases List.mem_append.1 hz with h|h
    ·exact E0 z h
    ·simp only [List.mem_singleton] at h;subst h;unfold accS;dsimp only;unfold argP at K0;omega),by simp;omega,u1⟩
 refine jCC 6 rfl<|cE a0.code 1 (fun x1=>?_) (fun x1=>?_)
 ·refine jCO 5 rfl<|sBK g0 #[I 0,I b] 185 fun _ _ y1=>sApp (nb:=16) y1 B0 2 (RdT.blk (enc:=encSp) (sz:=2) (xs:=[(⟨0,b⟩:Sp)]) fR 1 0 rfl rfl rfl om) underlying183 (i:=Tryz.t185) kr fR fun z1 a2 b2 _ c2 d2=>jOO 9 rfl<|sAdd (i:Int) 1<|jOI 2 rfl ?_
  exact ⟨(i+1,(zs++[(⟨0,b⟩:Sp)]),z1,(A0+1),a2,b2),od,alB,(d2.drops [0,0]),om,by rw [hG,drop_at e0];exact iv_push om (by unfold nextV;rw [if_neg om,if_pos om]) (by unfold accS;dsimp only;unfold argP at K0;omega),by rw [List.length_append];simp only [List.length_cons,List.length_nil];rw [show (((zs.length+(0+1):Nat)):Int)=(zs.length:Int)+(1-takesV a0.code) from by rw [show takesV a0.code=0 from by unfold takesV;rw [if_pos om]];omega];exact L0,(by
    intro z hz
    rcases List.mem_append.1 hz with h|h
    ·exact E0 z h
    ·simp only [List.mem_singleton] at h;subst h;unfold accS;dsimp only;unfold argP at K0;omega),by simp;omega,c2⟩
 refine jCC 6 rfl<|cE a0.code 2 (fun f2=>?_) (fun f2=>?_)
 ·refine gCO g0 8 [0,0] rfl<|sBK g0 #[I a0.arg,I a0.arg] 185 fun _ _ g2=>sApp (nb:=16) g2 B0 2 (RdT.blk (enc:=encSp) (sz:=2) (xs:=[(⟨a0.arg,a0.arg⟩:Sp)]) fR 1 0 rfl rfl rfl om) underlying183 (i:=Tryz.t185) kr fR fun h2 i2 j2 _ k2 l2=>jOO 9 rfl<|sAdd (i:Int) 1<|jOI 2 rfl ?_
  exact ⟨(i+1,(zs++[(⟨a0.arg,a0.arg⟩:Sp)]),h2,(A0+1),i2,j2),od,alB,(l2.drops [0,0]),om,by rw [hG,drop_at e0];exact iv_push om (by unfold nextV;rw [if_neg om,if_neg om,if_pos om]) (by unfold accS;dsimp only;unfold argP at K0;omega),by rw [List.length_append];simp only [List.length_cons,List.length_nil];rw [show (((zs.length+(0+1):Nat)):Int)=(zs.length:Int)+(1-takesV a0.code) from by rw [show takesV a0.code=0 from by unfold takesV;rw [if_pos om]];omega];exact L0,(by
    intro z hz
    rcases List.mem_append.1 hz with h|h
    ·exact E0 z h
    ·simp only [List.mem_singleton] at h;subst h;unfold accS;dsimp only;unfold argP at K0;omega),by simp;omega,k2⟩
 refine jCC 4 rfl ?_
 have S0:3<=a0.code:=om;have W0:=Q0 S0
 refine gCO g0 3 [0] rfl<|cS (p14_takes a0.code g0.flat) fun _ n2=>?_
 have j4:(0<=(ptakesV a0.code)/\(ptakesV a0.code)<=2)/\(¬(0<=a0.code/\a0.code<=11)\/(ptakesV a0.code)=takesV a0.code):=ptakes_bd _
 refine jOO 12 rfl<|sSub (A0:Int) (ptakesV a0.code)<|jOC 4 rfl ?_
 obtain ⟨b0,k4,l4,l0,f0,o2,m4⟩:=OwnT.elem B0 ((A0:Int)-(ptakesV a0.code))
 have I0:accS b0:=E0 b0 (List.mem_of_getElem? l0)
 obtain ⟨c0,n4,o4,m0,d0,q2,p4⟩:=OwnT.elem B0 ((A0:Int)-1)
 have J0:accS c0:=E0 c0 (List.mem_of_getElem? m0)
 refine drawG n2 [10,11,12,13] (fp 3 (f0.up 1 rfl)<|fp 9 (d0.up 1 rfl)<|fn) (pS [0,1,2,4,5,6,7,8,3,9]<| .fk 10 11 (.ef 11<| .ef 12<| .ef 13<| .fin) (.ef 10<| .ef 12<| .ef 13<| .fin)) fun _ x0=>qV 2<|qI o2<|qV 3<|qSub (A0:Int) 1<|qI q2<|qG 0 2<|qG 2 2<|qF ?_ ?_
 ·refine qO rfl<|sAlloc x0 zeroValue185 fun _ _ n0=>nilO ⟨⟨.inr ((f0.up 2 rfl).cell n0 (k:=0) rfl), .inr ((f0.up 2 rfl).cell n0 (k:=1) rfl), .inr ((d0.up 2 rfl).cell n0 (k:=0) rfl), .inr ((d0.up 2 rfl).cell n0 (k:=1) rfl),trivial⟩,?_⟩
  refine qO rfl<|sAlloc n0 zeroValue185 fun _ _ o0=>nilO ⟨⟨.inr ((f0.up 3 rfl).cell o0 (k:=0) rfl), .inr ((f0.up 3 rfl).cell o0 (k:=1) rfl), .inr ((d0.up 3 rfl).cell o0 (k:=0) rfl), .inr ((d0.up 3 rfl).cell o0 (k:=1) rfl),trivial⟩,?_⟩
  refine qO rfl<|sTk o0 1 [I b0.lo,I b0.hi] fun _ v0=>nilO ⟨⟨dI,dI, .inr ((d0.up 3 rfl).cell v0 (k:=0) rfl), .inr ((d0.up 3 rfl).cell v0 (k:=1) rfl),trivial⟩,?_⟩
  refine qO rfl<|sTk v0 0 [I c0.lo,I c0.hi] fun _ y0=>nA<|qN<|gXO y0 6 [202,201,200] rfl<|cS (p14_apply a0 b0 c0 (by first|assumption|(unfold accS;first|assumption|omega)) (by first|assumption|(unfold accS;first|assumption|omega)) om ‹_› y0.flat) fun _ r2=>pu3<|sAlloc r2 zeroValue185 fun _ _ s2=>sTk s2 0 [I ((papV a0 b0 c0).lo),I ((papV a0 b0 c0).hi)] fun _ z0=>jOC 10 rfl<|CDn (nextOK a0 b0 c0 1 1) (fun h0=>jCR 14 rfl<|retT [I 0,I 0,I 11]<|(by have t2:=(z0.drops [0,0,0,0,0]);have M0:opsCode x true=0:=(by omega);have C0:ivRes x a b=(match ivGo a b x [] with|some st=>((st[0]?.getD (⟨0,0⟩:Sp)).lo,(st[0]?.getD (⟨0,0⟩:Sp)).hi,0)|none=>(0,0,11)):=(by unfold ivRes;rw [if_pos M0,if_pos om];rfl);have H0:ivGo a b x []=none:=(by rw [hG,drop_at e0];exact iv_no om (by have e:=l0;rw [show zs.length-(takesV a0.code).toNat=((A0:Int)-(ptakesV a0.code)).toNat by omega];exact e) (by have e:=m0;rw [show zs.length-1=((A0:Int)-1).toNat by omega];exact e) h0);exact ⟨by rw [C0,H0];rfl,t2⟩)) fun h0=>?_
  refine jCC 2 rfl<|drawF z0 [4,5] (fb 3 0 0 2<|fn) [0,1,2,3,4,5,6] fun _ u2=>wV 2<|wY (.slice (partAddr F0 D0 0 2) ((((A0:Int)-(ptakesV a0.code))).toNat-0) (D0-0)) rfl (fun w _=>Y_sl (a:=F0) (len:=A0) (cap:=D0) none (some ((A0:Int)-(ptakesV a0.code))) 0 ((((A0:Int)-(ptakesV a0.code))).toNat) runUnderlying183 sizeOf185 rfl ⟨om,om⟩ om om)<|wG 0 2<|wO rfl<|sBK u2 #[I ((papV a0 b0 c0).lo),I ((papV a0 b0 c0).hi)] 185 fun _ _ w2=>nA<|wO rfl<|sApp (nb:=16) w2 (B0.part (lo:=0) (hi:=(((A0:Int)-(ptakesV a0.code))).toNat) om om) 5 (RdT.blk (enc:=encSp) (sz:=2) (xs:=[(⟨(papV a0 b0 c0).lo,(papV a0 b0 c0).hi⟩:Sp)]) fR 1 0 rfl rfl rfl om) underlying183 (i:=Tryz.t185) kr fR fun x2 y2 z2 _ a3 b3=>nA<|wV 1<|wN<|jXO 3 rfl<|sAdd (i:Int) 1<|jOI 2 rfl ?_
  exact ⟨(i+1,(((zs.drop 0).take ((((A0:Int)-(ptakesV a0.code))).toNat-0))++[(⟨(papV a0 b0 c0).lo,(papV a0 b0 c0).hi⟩:Sp)]),x2,(((((A0:Int)-(ptakesV a0.code))).toNat-0)+1),y2,z2),od,alB,(b3.drops [0,0,0,0,0]),om,by rw [hG,drop_at e0,iv_op (m:=((zs.drop 0).take ((((A0:Int)-(ptakesV a0.code))).toNat-0))) om (by have e:=l0;rw [show zs.length-(takesV a0.code).toNat=((A0:Int)-(ptakesV a0.code)).toNat by omega];exact e) (by have e:=m0;rw [show zs.length-1=((A0:Int)-1).toNat by omega];exact e) h0 (by rw [List.drop_zero];congr 1;omega),<-pap_acc h0],by simp only [List.length_append,List.length_take,List.length_drop,List.length_cons,List.length_nil];rw [show (((min _ _+(0+1):Nat)):Int)=(zs.length:Int)+(1-takesV a0.code) from by omega];exact L0,(by
    intro z hz
    rcases List.mem_append.1 hz with h|h
    ·exact E0 z (List.mem_of_mem_drop (List.mem_of_mem_take h))
    ·simp only [List.mem_singleton] at h;subst h;show accS (papV _ _ _);rw [pap_acc h0];exact ⟨h0.2.1,h0.2.2⟩),by simp;omega,a3⟩
 refine qO rfl<|sAlloc x0 zeroValue185 fun _ _ p0=>nilO ⟨⟨.inr ((f0.up 2 rfl).cell p0 (k:=0) rfl), .inr ((f0.up 2 rfl).cell p0 (k:=1) rfl), .inr ((d0.up 2 rfl).cell p0 (k:=0) rfl), .inr ((d0.up 2 rfl).cell p0 (k:=1) rfl),trivial⟩,?_⟩
 refine qO rfl<|sAlloc p0 zeroValue185 fun _ _ q0=>nilO ⟨⟨.inr ((f0.up 3 rfl).cell q0 (k:=0) rfl), .inr ((f0.up 3 rfl).cell q0 (k:=1) rfl), .inr ((d0.up 3 rfl).cell q0 (k:=0) rfl), .inr ((d0.up 3 rfl).cell q0 (k:=1) rfl),trivial⟩,?_⟩
 refine qO rfl<|sTk q0 0 [I b0.lo,I b0.hi] fun _ w0=>nilO ⟨⟨dI,dI, .inr ((d0.up 3 rfl).cell w0 (k:=0) rfl), .inr ((d0.up 3 rfl).cell w0 (k:=1) rfl),trivial⟩,?_⟩
 refine qO rfl<|sTk w0 1 [I c0.lo,I c0.hi] fun _ a1=>nA<|qN<|gXO a1 6 [202,200,201] rfl<|cS (p14_apply a0 b0 c0 (by first|assumption|(unfold accS;first|assumption|omega)) (by first|assumption|(unfold accS;first|assumption|omega)) om ‹_› a1.flat) fun _ d3=>pu3<|sAlloc d3 zeroValue185 fun _ _ e3=>sTk e3 0 [I ((papV a0 b0 c0).lo),I ((papV a0 b0 c0).hi)] fun _ b1=>jOC 10 rfl<|CDn (nextOK a0 b0 c0 1 1) (fun i0=>jCR 14 rfl<|retT [I 0,I 0,I 11]<|(by have f3:=(b1.drops [0,0,0,0,0]);have M0:opsCode x true=0:=(by omega);have C0:ivRes x a b=(match ivGo a b x [] with|some st=>((st[0]?.getD (⟨0,0⟩:Sp)).lo,(st[0]?.getD (⟨0,0⟩:Sp)).hi,0)|none=>(0,0,11)):=(by unfold ivRes;rw [if_pos M0,if_pos om];rfl);have H0:ivGo a b x []=none:=(by rw [hG,drop_at e0];exact iv_no om (by have e:=l0;rw [show zs.length-(takesV a0.code).toNat=((A0:Int)-(ptakesV a0.code)).toNat by omega];exact e) (by have e:=m0;rw [show zs.length-1=((A0:Int)-1).toNat by omega];exact e) i0);exact ⟨by rw [C0,H0];rfl,f3⟩)) fun i0=>?_
 refine jCC 2 rfl<|drawF b1 [4,5] (fb 3 0 0 2<|fn) [0,1,2,3,4,5,6] fun _ g3=>wV 2<|wY (.slice (partAddr F0 D0 0 2) ((((A0:Int)-(ptakesV a0.code))).toNat-0) (D0-0)) rfl (fun w _=>Y_sl (a:=F0) (len:=A0) (cap:=D0) none (some ((A0:Int)-(ptakesV a0.code))) 0 ((((A0:Int)-(ptakesV a0.code))).toNat) runUnderlying183 sizeOf185 rfl ⟨om,om⟩ om om)<|wG 0 2<|wO rfl<|sBK g3 #[I ((papV a0 b0 c0).lo),I ((papV a0 b0 c0).hi)] 185 fun _ _ i3=>nA<|wO rfl<|sApp (nb:=16) i3 (B0.part (lo:=0) (hi:=(((A0:Int)-(ptakesV a0.code))).toNat) om om) 5 (RdT.blk (enc:=encSp) (sz:=2) (xs:=[(⟨(papV a0 b0 c0).lo,(papV a0 b0 c0).hi⟩:Sp)]) fR 1 0 rfl rfl rfl om) underlying183 (i:=Tryz.t185) kr fR fun j3 k3 l3 _ m3 n3=>nA<|wV 1<|wN<|jXO 3 rfl<|sAdd (i:Int) 1<|jOI 2 rfl ?_
 exact ⟨(i+1,(((zs.drop 0).take ((((A0:Int)-(ptakesV a0.code))).toNat-0))++[(⟨(papV a0 b0 c0).lo,(papV a0 b0 c0).hi⟩:Sp)]),j3,(((((A0:Int)-(ptakesV a0.code))).toNat-0)+1),k3,l3),od,alB,(n3.drops [0,0,0,0,0]),om,by rw [hG,drop_at e0,iv_op (m:=((zs.drop 0).take ((((A0:Int)-(ptakesV a0.code))).toNat-0))) om (by have e:=l0;rw [show zs.length-(takesV a0.code).toNat=((A0:Int)-(ptakesV a0.code)).toNat by omega];exact e) (by have e:=m0;rw [show zs.length-1=((A0:Int)-1).toNat by omega];exact e) i0 (by rw [List.drop_zero];congr 1;omega),<-pap_acc i0],by simp only [List.length_append,List.length_take,List.length_drop,List.length_cons,List.length_nil];rw [show (((min _ _+(0+1):Nat)):Int)=(zs.length:Int)+(1-takesV a0.code) from by omega];exact L0,(by
   intro z hz
   rcases List.mem_append.1 hz with h|h
   ·exact E0 z (List.mem_of_mem_drop (List.mem_of_mem_take h))
   ·simp only [List.mem_singleton] at h;subst h;show accS (papV _ _ _);rw [pap_acc i0];exact ⟨i0.2.1,i0.2.2⟩),by simp;omega,m3⟩
end Go.Proofs.YtghcddbhllkbmaaGreat

namespace Go.Proofs.YtghcddbhllkbmaaGreat
open Go Go.E Go.Proofs.Tryz
set_option linter.all false
set_option maxRecDepth 100000
set_option maxHeartbeats 2000000
variable {W w:World} {H:Chunk} {F:List Chunk}
def numB (z:Int):Prop:=-4611686018427387904<=z/\z<=4611686018427387904
theorem nb {z:Int} (h:numB z:=by unfold numB;first|omega|(dsimp only;omega)):numB z:=h
def tapB (t:Tap):Prop:=numB t.first/\t.weights.l.length<=9/\∀z∈t.weights.l,numB z
theorem mem_set {α:Type} {P:α->Prop} {l:List α} {i:Nat} {x:α} (h:∀z∈l,P z) (hx:P x):∀z∈l.set i x,P z:=by
  intro z hz
  rcases List.mem_or_eq_of_mem_set hz with h1|h1
  · exact h z h1
  · rw [h1];exact hx
theorem set_self_at {α:Type} {l:List α} {i:Nat} {x y:α} (h:(l.set i x)[i]?=some y):y=x:=by
  have hl:i<(l.set i x).length:=(List.getElem?_eq_some_iff.1 h).1
  rw [List.length_set] at hl
  rw [List.getElem?_set_self hl] at h
  exact (Option.some.inj h).symm
theorem tdiv_bd {a b A:Int} (ha:0<=a/\a<=A) (hb:0<b):0<=a.tdiv b/\a.tdiv b<=A:=by
  rw [Int.tdiv_eq_ediv_of_nonneg ha.1]
  refine ⟨Int.ediv_nonneg ha.1 (by omega),Int.le_trans (Int.ediv_le_self _ ha.1) ha.2⟩
theorem mem_snoc {α:Type} {P:α->Prop} {l:List α} {x:α} (h:∀z∈l,P z) (hx:P x):∀z∈l++[x],P z:=by
  intro z hz
  rcases List.mem_append.1 hz with h1|h1
  · exact h z h1
  · simp only [List.mem_singleton] at h1;rw [h1];exact hx
theorem r8_divide (W w:World) (H:Chunk) (F:List Chunk) (tot:Int) (ax:Option Addr) (nx kx:Nat) (x:List Int) (hx:RdT Go.E.encI 1 [H] ax nx kx x) (ht:0<=tot/\tot<=16384) (hp:∀z∈x,1<=z/\z<=16384) (h0:1<=nx/\nx<=200) (hS:Sat W w (H::F)):
  Calls prog 142 #[I tot, .slice ax nx kx] w fun e w'=>∃(az:Option Addr) (nz kz:Nat) (G:Chunk) (zs:List Int),e= .returned (.slice az nz kz)/\RdT Go.E.encI 1 [G] az nz kz zs/\(zs.length=nx/\∀z∈zs,numB z)/\Sat W w' (G::H::F):=by
 have v1:=hx.ll
 refine callsK 96 func142 rfl<|jCC 17 rfl<|loopF [0,1] (γ:=Nat×Int) (fun ⟨i,s⟩ R=>⟨[(6,I (i:Int)),(5,I s)],R,nx-i,i<=nx/\((i:Int)<=s/\s<=16384*(i:Int))⟩) (0,0) ⟨hS,om,om⟩ ?_
 rintro ⟨i,s⟩ ρ _ ⟨d0,hi,hs⟩
 refine jCC 9 rfl<|cD ((i:Int)<(nx:Int)) (fun b1=>jCO 8 rfl<|sIN hx i fun c0 _ _ i0 d1=>(by have W0:=hp c0 (List.mem_of_getElem? i0);have S0:=mul_bd (a:=tot) (b:=c0) (A:=16384) (B:=16384) om om;exact sMp d0 (d1.up 0 rfl) 0 (I c0)<|sAdd s c0<|jOO 6 rfl<|sAdd (i:Int) 1<|jOI 2 rfl<|⟨(i+1,(s+c0)),od,alB,d0,om,om⟩)) fun b1=>jCC 5 rfl<|cutF d0 0 [0,1,5] (γ:=(Option Addr)×Chunk×(Option Addr)×Chunk) (fun ⟨a1,c1,a2,c2⟩ R=>⟨[(7, .slice a1 nx nx),(8, .slice a2 nx nx)],c1::c2::R,0,OwnT Go.E.encI 3 1 a1 nx nx (List.replicate nx 0) c1/\OwnT Go.E.encI 3 1 a2 nx nx (List.replicate nx 0) c2⟩) ?_ ?_
 ·refine drawG d0 [2,5] (fn) (pS [0,1,3,4]<| .fk 2 5 (pS [6]<| .ef 5<|pS [7]<| .fin) (.ef 2<|pS [6,7]<| .fin)) fun _ j0=>qV 4<|qF ?_ ?_
  rotate_left
  ·exact qO rfl<|sMake (kl:= .i64) (kc:= .i64) (enc:=Go.E.encI) (sz:=1) (nb:=8) j0 0 nx (nx:Int) (rfl:(nx:Int)=(nx:Int)) underlying22 (i:=Tryz.t3) kr fR fun e1 f1 _ g1 h1=>nA<|qO rfl<|sMake (kl:= .i64) (kc:= .i64) (enc:=Go.E.encI) (sz:=1) (nb:=8) h1 0 nx (nx:Int) (rfl:(nx:Int)=(nx:Int)) underlying22 (i:=Tryz.t3) kr fR fun i1 j1 _ k1 l1=>nA<|qV 2<|qN<|jXI 0 rfl<|⟨((At i1 0),j1,(At e1 0),f1),alB,l1,k1,g1⟩
  exact qO rfl<|sMake (kl:= .i64) (kc:= .i64) (enc:=Go.E.encI) (sz:=1) (nb:=8) j0 0 nx (nx:Int) (rfl:(nx:Int)=(nx:Int)) underlying22 (i:=Tryz.t3) kr fR fun m1 n1 _ o1 q1=>nA<|qV 1<|qO rfl<|sMake (kl:= .i64) (kc:= .i64) (enc:=Go.E.encI) (sz:=1) (nb:=8) q1 0 nx (nx:Int) (rfl:(nx:Int)=(nx:Int)) underlying22 (i:=Tryz.t3) kr fR fun r1 s1 _ t1 u1=>nA<|qV 1<|qN<|jXI 0 rfl<|⟨((At m1 0),n1,(At r1 0),s1),alB,(u1.pick 1 rfl),o1,t1⟩
 rintro ⟨a1,c1,a2,c2⟩ ρ _ ⟨w1,Y0,Z0⟩
 refine jCC 13 rfl<|loopF [0,1,5] (γ:=Nat×Int×(List Int)×(Option Addr)×Nat×Nat×Chunk×(List Int)×SO) (fun ⟨i,lf,zs,D0,G0,E0,J0,ys,H0,F0,I0,K0⟩ R=>⟨[(10,I (i:Int)),(9,I lf),(7, .slice D0 G0 E0),(8, .slice H0 F0 I0)],J0::K0::R,nx-i,i<=nx/\(∀z∈zs,0<=z/\z<=268435456+0)/\(lf<=tot/\-(268435456*(i:Int))<=lf)/\(zs.length=nx/\ys.length=nx)/\OwnT Go.E.encI 3 1 D0 G0 E0 zs J0/\OwnT Go.E.encI 3 1 H0 F0 I0 ys K0⟩) (0,tot,(List.replicate nx 0),a1,nx,nx,c1,(List.replicate nx 0),a2,nx,nx,c2) ⟨w1,om,by intro z hz;have:=List.eq_of_mem_replicate hz;omega,om,by simp,Y0,Z0⟩ ?_
 rintro ⟨i,lf,zs,D0,G0,E0,J0,ys,H0,F0,I0,K0⟩ ρ _ ⟨k0,hi,hZ,C1,B1,C0,B0⟩
 have O0:=C0.len;have M0:=C0.le
 have N0:=B0.len;have L0:=B0.le
 refine jCC 9 rfl<|cD ((i:Int)<(nx:Int)) (fun x1=>?_) (fun x1=>?_)
 ·refine jCC 5 rfl ?_
  obtain ⟨a0,r3,s3,l0,m0,n0⟩:=RdT.eN hx i
  have R0:=hp a0 (List.mem_of_getElem? l0);have P0:=mul_bd (a:=tot) (b:=a0) (A:=16384) (B:=16384) om om;have T0:=tdiv_bd (a:=tot*a0) (b:=s) (A:=268435456) om om
  obtain ⟨o0,u3,v3,e0,y1,p0,z1⟩:=OwnT.eN C0 i
  have U0:=hZ o0 (List.mem_of_getElem? e0)
  obtain ⟨b2,w3,x3,q0,d2,r0,e2⟩:=OwnT.eN B0 i
  refine drawF k0 [21,23] (fq 8 0 (m0.up 2 rfl)<|fq 16 0 (m0.up 2 rfl)<|fn) [0,1,2,3,4,5,6,7,10,12,13,14,15,18,8,9,11,16,17,19,20,21,22,23] fun _ f2=>wV 7<|wI n0<|wV 4<|wI n0<|wV 1<|wL 0<|wMul tot a0<|wQuo (tot*a0) s<|wL 1<|wMul tot a0<|wRem (tot*a0) s<|wI p0<|wO rfl<|sStF f2 C0 z1 0 i 0 o0 ((tot*a0).tdiv s) e0 (I ((tot*a0).tdiv s)) [I ((tot*a0).tdiv s)] sizeOf3 fun _ g2 s0 h2=>nA<|wI r0<|wO rfl<|sStF h2 B0 e2 1 i 0 b2 ((tot*a0).tmod s) q0 (I ((tot*a0).tmod s)) [I ((tot*a0).tmod s)] sizeOf3 fun _ i2 j2 t0=>nA<|wN<|jXO 5 rfl<|sIO s0 (i:Int) i fun f0 _ _ k2 l2 _=>?_
  have Q0:=set_self_at k2
  refine sMp t0 (l2.up 0 rfl) 0 (I f0)<|sSub lf f0<|jOO 6 rfl<|sAdd (i:Int) 1<|jOI 2 rfl ?_
  exact ⟨(i+1,(lf-f0),(zs.set i ((tot*a0).tdiv s)),D0,G0,E0,g2,(ys.set i ((tot*a0).tmod s)),H0,F0,I0,i2),od,alB,t0,om,mem_set hZ (by first|omega|(refine ⟨?_,?_⟩<;>omega)),om,by simp;omega,s0,j2⟩
 refine jCC 7 rfl<|loopF [] (γ:=Nat×Int×(List Int)×(Option Addr)×Nat×Nat×Chunk×(List Int)×SO) (fun ⟨u,lf,zs,D0,G0,E0,J0,ys,H0,F0,I0,K0⟩ R=>⟨[(9,I lf),(7, .slice D0 G0 E0),(8, .slice H0 F0 I0)],J0::K0::R,16384-u,u<=16384/\(∀z∈zs,0<=z/\z<=268435456+(u:Int))/\((u:Int)+lf<=16384/\-(268435456*200)<=lf)/\(zs.length=nx/\ys.length=nx)/\OwnT Go.E.encI 3 1 D0 G0 E0 zs J0/\OwnT Go.E.encI 3 1 H0 F0 I0 ys K0⟩) (0,lf,zs,D0,G0,E0,J0,ys,H0,F0,I0,K0) ⟨k0,om,by intro z hz;have:=hZ z hz;omega,om,om,C0,B0⟩ ?_
 rintro ⟨u,lf,zs,D0,G0,E0,J0,ys,H0,F0,I0,K0⟩ ρ _ ⟨u0,hu,hZ,A1,B1,C0,B0⟩
 have O0:=C0.len;have M0:=C0.le
 have N0:=B0.len;have L0:=B0.le
 refine jCC 7 rfl<|CD (lf>0) (fun m2=>jCR 12 rfl<|retT [.slice D0 G0 E0]<|⟨_,_,_,_,_,rfl,(C0.rdAt (cs:=[J0]) 0 rfl),⟨om,fun z hz=>by have h:=hZ z hz;unfold numB;omega⟩,(u0.dropAt 1 rfl)⟩) fun m2=>jCC 16 rfl<|loopF [9,7,8] (γ:=Nat×Int) (fun ⟨k,A0⟩ R=>⟨[(12,I (k:Int)),(11,I A0)],R,nx-k,k<=nx/\(0<=A0/\A0<(nx:Int))⟩) (1,0) ⟨u0,om,om⟩ ?_
 rintro ⟨k,A0⟩ ρ _ ⟨g0,hk,X0⟩
 refine jCC 9 rfl<|cD ((k:Int)<(F0:Int)) (fun o2=>jCC 5 rfl<|(by obtain ⟨q2,f4,g4,r2,v0,w0,h4⟩:=OwnT.eN B0 k;obtain ⟨s2,i4,j4,k4,t2,u2,l4⟩:=OwnT.elem B0 A0;exact drawF g0 [] (fq 3 0 (v0.up 1 rfl)<|fq 7 0 (t2.up 1 rfl)<|fn) [0,1,2,4,5,6,3,7,8] fun _ x0=>wV 2<|wI w0<|wV 2<|wI u2<|wL 0<|wL 1<|wV 1<|wN<|jXC 1 rfl<|CD (q2>s2) (fun v2=>jCO 5 rfl<|sAdd (k:Int) 1<|jOI 2 rfl<|⟨(k+1,A0),od,alB,x0,om,om⟩) fun v2=>jCO 8 rfl<|sAdd (k:Int) 1<|jOI 2 rfl<|⟨(k+1,(k:Int)),od,alB,x0,om,om⟩)) fun o2=>jCO 9 rfl<|sIO C0 A0 (A0).toNat fun b0 _ _ y0 w2 _=>?_
 have V0:=hZ b0 (List.mem_of_getElem? y0)
 refine sMp g0 (w2.up 0 rfl) 0 (I b0)<|sAdd b0 1<|sIO C0 A0 (A0).toNat fun x2 _ _ z0 _ y2=>?_
 obtain rfl:b0=x2:=Option.some.inj (y0.symm.trans z0)
 exact sStF g0 C0 y2 0 (A0).toNat 0 b0 (b0+1) z0 (I (b0+1)) [I (b0+1)] sizeOf3 fun _ z2 a3 b3=>jOO 5 rfl<|sIO B0 A0 (A0).toNat fun c3 _ _ d3 _ e3=>sStF b3 B0 e3 1 (A0).toNat 0 c3 (-1) d3 (I (-1)) [I (-1)] sizeOf3 fun _ f3 g3 h3=>jOO 5 rfl<|sSub lf 1<|jOI 2 rfl<|⟨(u+1,(lf-1),(zs.set ((A0).toNat) (b0+1)),D0,G0,E0,z2,(ys.set ((A0).toNat) (-1)),H0,F0,I0,f3),od,alB,h3,om,mem_set (fun z hz=>by have:=hZ z hz;omega) om,om,by simp;omega,a3,g3⟩
theorem tdiv_abs {x d A:Int} (hx:-A<=x/\x<=A):-A<=x.tdiv d/\x.tdiv d<=A:=by
  have h:(x.tdiv d).natAbs<=x.natAbs:=by rw [Int.natAbs_tdiv];exact Nat.div_le_self _ _
  omega
theorem le_mul_pos {k m:Int} (hk:0<=k) (hm:1<=m):k<=k*m:=by
  have:=Int.mul_le_mul_of_nonneg_left hm hk
  omega
theorem r8_linear (W w:World) (H:Chunk) (F:List Chunk) (n0 m0 sh:Int) (hS:Sat W w (H::F)):
  Calls prog 98 #[I n0,I m0,I sh] w fun e w'=>∃(az:Option Addr) (nz kz:Nat) (zs:List Tap) (cd:Int) (c G:Chunk),e= .returned (.tuple #[.slice az nz kz,I cd])/\OwnT encTap 121 2 az nz kz zs c/\(∀z∈zs,Tap.Ok [G] z)/\((zs.length:Int)<=max m0 0/\∀z∈zs,tapB z)/\Sat W w' (G::c::H::F):=by
 refine callsK 80 func98 rfl<|jCO 10 rfl<|cS (r8_side n0 hS.flat) fun _ e0=>pu2<|SDn 18 ((1:Int)<=n0/\n0<=(128:Int)) (fun h0=>jOR 15 rfl<|retT [nS,I 8]<|(by have i0:Sat W _ ([]::[]::H::F):=Sat.nilc (Sat.nilc e0);exact ⟨none,0,0,[],_,[],[],rfl,OwnT.nil fR,(fun z hz=>by cases hz),⟨by simp;omega,(fun z hz=>by cases hz)⟩,i0⟩)) fun h0=>pu1<|gY<|cS (r8_side m0 e0.flat) fun _ c0=>jOC 4 rfl<|CDn ((1:Int)<=m0/\m0<=(128:Int)) (fun j0=>jCR 8 rfl<|retT [nS,I 8]<|(by have k0:Sat W _ ([]::[]::H::F):=Sat.nilc (Sat.nilc c0);exact ⟨none,0,0,[],_,[],[],rfl,OwnT.nil fR,(fun z hz=>by cases hz),⟨by simp;omega,(fun z hz=>by cases hz)⟩,k0⟩)) fun j0=>jCO 8 rfl<|sD 25 (sh<0) (fun l0=>jOR 14 rfl<|retT [nS,I 2]<|(by have o0:Sat W _ ([]::[]::H::F):=Sat.nilc (Sat.nilc c0);exact ⟨none,0,0,[],_,[],[],rfl,OwnT.nil fR,(fun z hz=>by cases hz),⟨by simp;omega,(fun z hz=>by cases hz)⟩,o0⟩)) fun l0=>jOC 5 rfl<|cD (sh>14) (fun p0=>jCR 8 rfl<|retT [nS,I 2]<|(by have q0:Sat W _ ([]::[]::H::F):=Sat.nilc (Sat.nilc c0);exact ⟨none,0,0,[],_,[],[],rfl,OwnT.nil fR,(fun z hz=>by cases hz),⟨by simp;omega,(fun z hz=>by cases hz)⟩,q0⟩)) fun p0=>jCC 14 rfl ?_
 refine loopF [0,1,2] (γ:=Nat×(List Tap)×(Option Addr)×Nat×Nat×Chunk×Chunk) (fun ⟨i,zs,B0,A0,C0,D0,s0⟩ R=>⟨[(9,I (i:Int)),(8, .slice B0 A0 C0)],s0::D0::R,m0.toNat-i,i<=m0.toNat/\(∀z∈zs,tapB z)/\(zs.length=i)/\OwnT encTap 121 2 B0 A0 C0 zs D0/\(∀z∈zs,Tap.Ok [s0] z)⟩) (0,[],none,0,0,[],[]) ⟨(Sat.nilc (Sat.nilc c0)),om,(by intro z hz;cases hz),by rfl,(OwnT.nil (enc:=encTap) (E:=121) (sz:=2) fR),(by intro z hz;cases hz)⟩ ?_
 rintro ⟨i,zs,B0,A0,C0,D0,s0⟩ ρ _ ⟨d0,hi,hB,P0,r0,t0⟩
 have E0:=r0.ll
 refine jCC 8 rfl<|CD ((i:Int)<m0) (fun u0=>jCR 13 rfl<|retT [.slice B0 A0 C0,I 0]<|⟨_,_,_,zs,_,_,_,rfl,r0,t0,⟨om,hB⟩,d0⟩) fun u0=>jCC 5 rfl ?_
 have J0:=mul_bd (a:=((2*(i:Int))+1)) (b:=n0) (A:=257) (B:=128) om om
 refine jCO 2 rfl<|sMul 2 (i:Int)<|sAdd (2*(i:Int)) 1<|pu1<|sMul ((2*(i:Int))+1) n0<|pu1<|sSub (((2*(i:Int))+1)*n0) m0<|pu1<|sMul 2 m0<|jOO 8 rfl<|sQuo ((((2*(i:Int))+1)*n0)-m0) (2*m0)<|jOC 5 rfl ?_
 have hq:=Int.mul_tdiv_add_tmod ((((2*(i:Int))+1)*n0)-m0) (2*m0);have K0:=Int.tmod_lt_of_pos ((((2*(i:Int))+1)*n0)-m0) (by omega:0<(2*m0));have L0:=Int.lt_tmod_of_pos ((((2*(i:Int))+1)*n0)-m0) (by omega:0<(2*m0));have M0:=Int.mul_comm (((((2*(i:Int))+1)*n0)-m0).tdiv (2*m0)) (2*m0);have N0:=tdiv_abs (x:=((((2*(i:Int))+1)*n0)-m0)) (d:=(2*m0)) (A:=65536) om;have O0:(((((2*(i:Int))+1)*n0)-m0).tdiv (2*m0)-1)*(2*m0)=((((2*(i:Int))+1)*n0)-m0).tdiv (2*m0)*(2*m0)-(2*m0):=by rw [Int.sub_mul,Int.one_mul]
 refine jCO 3 rfl<|sMul (((((2*(i:Int))+1)*n0)-m0).tdiv (2*m0)) (2*m0)<|jOC 4 rfl<|cD (((((((2*(i:Int))+1)*n0)-m0).tdiv (2*m0))*(2*m0))>((((2*(i:Int))+1)*n0)-m0)) (fun v0=>?_) (fun v0=>?_)
 rotate_left
 ·refine jCO 5 rfl<|stepY (.int .u64 sh) rfl rfl (Y_conv (k:= .i64) (a:=sh) underlying3 underlying164 (wrapIn_u64 _ om) rfl kr)<|stepY (I (2^(sh).toNat)) rfl rfl (Y_shl1 (k':= .u64) sh rfl kr kr om)<|jOC 4 rfl ?_
  have G0:=pow2_pos sh.toNat;have H0:=pow2_le (a:=sh.toNat) (b:=14) om
  have F0:=mul_abs (a:=(2*(((((2*(i:Int))+1)*n0)-m0)-((((((2*(i:Int))+1)*n0)-m0).tdiv (2*m0))*(2*m0))))) (b:=(2^(sh).toNat)) (A:=2048) (B:=16384) om om
  have I0:=tdiv_abs (x:=(((2*(((((2*(i:Int))+1)*n0)-m0)-((((((2*(i:Int))+1)*n0)-m0).tdiv (2*m0))*(2*m0))))*(2^(sh).toNat))+(2*m0))) (d:=(2*(2*m0))) (A:=67108864) om
  refine jCO 4 rfl<|sMul (((((2*(i:Int))+1)*n0)-m0).tdiv (2*m0)) (2*m0)<|sSub ((((2*(i:Int))+1)*n0)-m0) ((((((2*(i:Int))+1)*n0)-m0).tdiv (2*m0))*(2*m0))<|sMul 2 (((((2*(i:Int))+1)*n0)-m0)-((((((2*(i:Int))+1)*n0)-m0).tdiv (2*m0))*(2*m0)))<|pu1<|sMul (2*(((((2*(i:Int))+1)*n0)-m0)-((((((2*(i:Int))+1)*n0)-m0).tdiv (2*m0))*(2*m0)))) (2^(sh).toNat)<|pu1<|sAdd ((2*(((((2*(i:Int))+1)*n0)-m0)-((((((2*(i:Int))+1)*n0)-m0).tdiv (2*m0))*(2*m0))))*(2^(sh).toNat)) (2*m0)<|pu1<|sMul 2 (2*m0)<|sQuo (((2*(((((2*(i:Int))+1)*n0)-m0)-((((((2*(i:Int))+1)*n0)-m0).tdiv (2*m0))*(2*m0))))*(2^(sh).toNat))+(2*m0)) (2*(2*m0))<|jOO 8 rfl<|sSub (2^(sh).toNat) ((((2*(((((2*(i:Int))+1)*n0)-m0)-((((((2*(i:Int))+1)*n0)-m0).tdiv (2*m0))*(2*m0))))*(2^(sh).toNat))+(2*m0)).tdiv (2*(2*m0)))<|pu1<|sBK d0 #[I ((2^(sh).toNat)-((((2*(((((2*(i:Int))+1)*n0)-m0)-((((((2*(i:Int))+1)*n0)-m0).tdiv (2*m0))*(2*m0))))*(2^(sh).toNat))+(2*m0)).tdiv (2*(2*m0)))),I ((((2*(((((2*(i:Int))+1)*n0)-m0)-((((((2*(i:Int))+1)*n0)-m0).tdiv (2*m0))*(2*m0))))*(2^(sh).toNat))+(2*m0)).tdiv (2*(2*m0)))] 3 fun a0 _ w0=>pu1<|sBK w0 #[I (((((2*(i:Int))+1)*n0)-m0).tdiv (2*m0)), .slice (At a0 0) 2 2] 121 fun _ _ x0=>?_
  refine sApp (nb:=32) x0 r0 3 (RdT.blk (enc:=encTap) (sz:=2) (xs:=[(⟨(((((2*(i:Int))+1)*n0)-m0).tdiv (2*m0)),⟨(At a0 0),2,2,[((2^(sh).toNat)-((((2*(((((2*(i:Int))+1)*n0)-m0)-((((((2*(i:Int))+1)*n0)-m0).tdiv (2*m0))*(2*m0))))*(2^(sh).toNat))+(2*m0)).tdiv (2*(2*m0)))),((((2*(((((2*(i:Int))+1)*n0)-m0)-((((((2*(i:Int))+1)*n0)-m0).tdiv (2*m0))*(2*m0))))*(2^(sh).toNat))+(2*m0)).tdiv (2*(2*m0)))]⟩⟩:Tap)]) fR 1 0 rfl rfl rfl om) underlying50 (i:=Tryz.t121) kr fR fun y0 z0 f0 _ a1 b1=>jOO 6 rfl<|sAdd (i:Int) 1<|jOI 2 rfl ?_
  have c1:=(b1.dropAt 0 rfl)
  have d1:=(Sat.perm (cs':=([(a0, .cells #[I ((2^(sh).toNat)-((((2*(((((2*(i:Int))+1)*n0)-m0)-((((((2*(i:Int))+1)*n0)-m0).tdiv (2*m0))*(2*m0))))*(2^(sh).toNat))+(2*m0)).tdiv (2*(2*m0)))),I ((((2*(((((2*(i:Int))+1)*n0)-m0)-((((((2*(i:Int))+1)*n0)-m0).tdiv (2*m0))*(2*m0))))*(2^(sh).toNat))+(2*m0)).tdiv (2*(2*m0)))] 3 (0,0))]++s0)::(f0::H::F)) c1 (by simp))
  exact ⟨(i+1,(zs++[(⟨(((((2*(i:Int))+1)*n0)-m0).tdiv (2*m0)),⟨(At a0 0),2,2,[((2^(sh).toNat)-((((2*(((((2*(i:Int))+1)*n0)-m0)-((((((2*(i:Int))+1)*n0)-m0).tdiv (2*m0))*(2*m0))))*(2^(sh).toNat))+(2*m0)).tdiv (2*(2*m0)))),((((2*(((((2*(i:Int))+1)*n0)-m0)-((((((2*(i:Int))+1)*n0)-m0).tdiv (2*m0))*(2*m0))))*(2^(sh).toNat))+(2*m0)).tdiv (2*(2*m0)))]⟩⟩:Tap)]),y0,(A0+1),z0,f0,([(a0, .cells #[I ((2^(sh).toNat)-((((2*(((((2*(i:Int))+1)*n0)-m0)-((((((2*(i:Int))+1)*n0)-m0).tdiv (2*m0))*(2*m0))))*(2^(sh).toNat))+(2*m0)).tdiv (2*(2*m0)))),I ((((2*(((((2*(i:Int))+1)*n0)-m0)-((((((2*(i:Int))+1)*n0)-m0).tdiv (2*m0))*(2*m0))))*(2^(sh).toNat))+(2*m0)).tdiv (2*(2*m0)))] 3 (0,0))]++s0)),od,alB,d1,om,mem_snoc hB (show tapB (⟨(((((2*(i:Int))+1)*n0)-m0).tdiv (2*m0)),⟨(At a0 0),2,2,[((2^(sh).toNat)-((((2*(((((2*(i:Int))+1)*n0)-m0)-((((((2*(i:Int))+1)*n0)-m0).tdiv (2*m0))*(2*m0))))*(2^(sh).toNat))+(2*m0)).tdiv (2*(2*m0)))),((((2*(((((2*(i:Int))+1)*n0)-m0)-((((((2*(i:Int))+1)*n0)-m0).tdiv (2*m0))*(2*m0))))*(2^(sh).toNat))+(2*m0)).tdiv (2*(2*m0)))]⟩⟩:Tap) from ⟨by unfold numB;dsimp only;omega,by simp,by intro z hz;simp only [List.mem_cons,List.not_mem_nil,or_false] at hz;unfold numB;omega⟩),by simp;omega,a1,(by
    intro z hz
    rcases List.mem_append.1 hz with h|h
    ·exact (t0 z h).of_mem mS
    ·simp only [List.mem_singleton] at h;subst h;exact ⟨(RdT.blk (cs:=[[(a0, .cells #[I ((2^(sh).toNat)-((((2*(((((2*(i:Int))+1)*n0)-m0)-((((((2*(i:Int))+1)*n0)-m0).tdiv (2*m0))*(2*m0))))*(2^(sh).toNat))+(2*m0)).tdiv (2*(2*m0)))),I ((((2*(((((2*(i:Int))+1)*n0)-m0)-((((((2*(i:Int))+1)*n0)-m0).tdiv (2*m0))*(2*m0))))*(2^(sh).toNat))+(2*m0)).tdiv (2*(2*m0)))] 3 (0,0))]]) (enc:=Go.E.encI) (sz:=1) (xs:=[((2^(sh).toNat)-((((2*(((((2*(i:Int))+1)*n0)-m0)-((((((2*(i:Int))+1)*n0)-m0).tdiv (2*m0))*(2*m0))))*(2^(sh).toNat))+(2*m0)).tdiv (2*(2*m0)))),((((2*(((((2*(i:Int))+1)*n0)-m0)-((((((2*(i:Int))+1)*n0)-m0).tdiv (2*m0))*(2*m0))))*(2^(sh).toNat))+(2*m0)).tdiv (2*(2*m0)))]) fR 2 0 rfl rfl rfl om).of_mem mS⟩)⟩
 refine jCO 2 rfl<|sSub (((((2*(i:Int))+1)*n0)-m0).tdiv (2*m0)) 1<|jOO 6 rfl<|stepY (.int .u64 sh) rfl rfl (Y_conv (k:= .i64) (a:=sh) underlying3 underlying164 (wrapIn_u64 _ om) rfl kr)<|stepY (I (2^(sh).toNat)) rfl rfl (Y_shl1 (k':= .u64) sh rfl kr kr om)<|jOC 4 rfl ?_
 have G0:=pow2_pos sh.toNat;have H0:=pow2_le (a:=sh.toNat) (b:=14) om
 have F0:=mul_abs (a:=(2*(((((2*(i:Int))+1)*n0)-m0)-(((((((2*(i:Int))+1)*n0)-m0).tdiv (2*m0))-1)*(2*m0))))) (b:=(2^(sh).toNat)) (A:=2048) (B:=16384) om om
 have I0:=tdiv_abs (x:=(((2*(((((2*(i:Int))+1)*n0)-m0)-(((((((2*(i:Int))+1)*n0)-m0).tdiv (2*m0))-1)*(2*m0))))*(2^(sh).toNat))+(2*m0))) (d:=(2*(2*m0))) (A:=67108864) om
 refine jCO 4 rfl<|sMul ((((((2*(i:Int))+1)*n0)-m0).tdiv (2*m0))-1) (2*m0)<|sSub ((((2*(i:Int))+1)*n0)-m0) (((((((2*(i:Int))+1)*n0)-m0).tdiv (2*m0))-1)*(2*m0))<|sMul 2 (((((2*(i:Int))+1)*n0)-m0)-(((((((2*(i:Int))+1)*n0)-m0).tdiv (2*m0))-1)*(2*m0)))<|pu1<|sMul (2*(((((2*(i:Int))+1)*n0)-m0)-(((((((2*(i:Int))+1)*n0)-m0).tdiv (2*m0))-1)*(2*m0)))) (2^(sh).toNat)<|pu1<|sAdd ((2*(((((2*(i:Int))+1)*n0)-m0)-(((((((2*(i:Int))+1)*n0)-m0).tdiv (2*m0))-1)*(2*m0))))*(2^(sh).toNat)) (2*m0)<|pu1<|sMul 2 (2*m0)<|sQuo (((2*(((((2*(i:Int))+1)*n0)-m0)-(((((((2*(i:Int))+1)*n0)-m0).tdiv (2*m0))-1)*(2*m0))))*(2^(sh).toNat))+(2*m0)) (2*(2*m0))<|jOO 8 rfl<|sSub (2^(sh).toNat) ((((2*(((((2*(i:Int))+1)*n0)-m0)-(((((((2*(i:Int))+1)*n0)-m0).tdiv (2*m0))-1)*(2*m0))))*(2^(sh).toNat))+(2*m0)).tdiv (2*(2*m0)))<|pu1<|sBK d0 #[I ((2^(sh).toNat)-((((2*(((((2*(i:Int))+1)*n0)-m0)-(((((((2*(i:Int))+1)*n0)-m0).tdiv (2*m0))-1)*(2*m0))))*(2^(sh).toNat))+(2*m0)).tdiv (2*(2*m0)))),I ((((2*(((((2*(i:Int))+1)*n0)-m0)-(((((((2*(i:Int))+1)*n0)-m0).tdiv (2*m0))-1)*(2*m0))))*(2^(sh).toNat))+(2*m0)).tdiv (2*(2*m0)))] 3 fun b0 _ e1=>pu1<|sBK e1 #[I ((((((2*(i:Int))+1)*n0)-m0).tdiv (2*m0))-1), .slice (At b0 0) 2 2] 121 fun _ _ f1=>?_
 refine sApp (nb:=32) f1 r0 3 (RdT.blk (enc:=encTap) (sz:=2) (xs:=[(⟨((((((2*(i:Int))+1)*n0)-m0).tdiv (2*m0))-1),⟨(At b0 0),2,2,[((2^(sh).toNat)-((((2*(((((2*(i:Int))+1)*n0)-m0)-(((((((2*(i:Int))+1)*n0)-m0).tdiv (2*m0))-1)*(2*m0))))*(2^(sh).toNat))+(2*m0)).tdiv (2*(2*m0)))),((((2*(((((2*(i:Int))+1)*n0)-m0)-(((((((2*(i:Int))+1)*n0)-m0).tdiv (2*m0))-1)*(2*m0))))*(2^(sh).toNat))+(2*m0)).tdiv (2*(2*m0)))]⟩⟩:Tap)]) fR 1 0 rfl rfl rfl om) underlying50 (i:=Tryz.t121) kr fR fun g1 h1 g0 _ i1 j1=>jOO 6 rfl<|sAdd (i:Int) 1<|jOI 2 rfl ?_
 have k1:=(j1.dropAt 0 rfl)
 have l1:=(Sat.perm (cs':=([(b0, .cells #[I ((2^(sh).toNat)-((((2*(((((2*(i:Int))+1)*n0)-m0)-(((((((2*(i:Int))+1)*n0)-m0).tdiv (2*m0))-1)*(2*m0))))*(2^(sh).toNat))+(2*m0)).tdiv (2*(2*m0)))),I ((((2*(((((2*(i:Int))+1)*n0)-m0)-(((((((2*(i:Int))+1)*n0)-m0).tdiv (2*m0))-1)*(2*m0))))*(2^(sh).toNat))+(2*m0)).tdiv (2*(2*m0)))] 3 (0,0))]++s0)::(g0::H::F)) k1 (by simp))
 exact ⟨(i+1,(zs++[(⟨((((((2*(i:Int))+1)*n0)-m0).tdiv (2*m0))-1),⟨(At b0 0),2,2,[((2^(sh).toNat)-((((2*(((((2*(i:Int))+1)*n0)-m0)-(((((((2*(i:Int))+1)*n0)-m0).tdiv (2*m0))-1)*(2*m0))))*(2^(sh).toNat))+(2*m0)).tdiv (2*(2*m0)))),((((2*(((((2*(i:Int))+1)*n0)-m0)-(((((((2*(i:Int))+1)*n0)-m0).tdiv (2*m0))-1)*(2*m0))))*(2^(sh).toNat))+(2*m0)).tdiv (2*(2*m0)))]⟩⟩:Tap)]),g1,(A0+1),h1,g0,([(b0, .cells #[I ((2^(sh).toNat)-((((2*(((((2*(i:Int))+1)*n0)-m0)-(((((((2*(i:Int))+1)*n0)-m0).tdiv (2*m0))-1)*(2*m0))))*(2^(sh).toNat))+(2*m0)).tdiv (2*(2*m0)))),I ((((2*(((((2*(i:Int))+1)*n0)-m0)-(((((((2*(i:Int))+1)*n0)-m0).tdiv (2*m0))-1)*(2*m0))))*(2^(sh).toNat))+(2*m0)).tdiv (2*(2*m0)))] 3 (0,0))]++s0)),od,alB,l1,om,mem_snoc hB (show tapB (⟨((((((2*(i:Int))+1)*n0)-m0).tdiv (2*m0))-1),⟨(At b0 0),2,2,[((2^(sh).toNat)-((((2*(((((2*(i:Int))+1)*n0)-m0)-(((((((2*(i:Int))+1)*n0)-m0).tdiv (2*m0))-1)*(2*m0))))*(2^(sh).toNat))+(2*m0)).tdiv (2*(2*m0)))),((((2*(((((2*(i:Int))+1)*n0)-m0)-(((((((2*(i:Int))+1)*n0)-m0).tdiv (2*m0))-1)*(2*m0))))*(2^(sh).toNat))+(2*m0)).tdiv (2*(2*m0)))]⟩⟩:Tap) from ⟨by unfold numB;dsimp only;omega,by simp,by intro z hz;simp only [List.mem_cons,List.not_mem_nil,or_false] at hz;unfold numB;omega⟩),by simp;omega,i1,(by
   intro z hz
   rcases List.mem_append.1 hz with h|h
   ·exact (t0 z h).of_mem mS
   ·simp only [List.mem_singleton] at h;subst h;exact ⟨(RdT.blk (cs:=[[(b0, .cells #[I ((2^(sh).toNat)-((((2*(((((2*(i:Int))+1)*n0)-m0)-(((((((2*(i:Int))+1)*n0)-m0).tdiv (2*m0))-1)*(2*m0))))*(2^(sh).toNat))+(2*m0)).tdiv (2*(2*m0)))),I ((((2*(((((2*(i:Int))+1)*n0)-m0)-(((((((2*(i:Int))+1)*n0)-m0).tdiv (2*m0))-1)*(2*m0))))*(2^(sh).toNat))+(2*m0)).tdiv (2*(2*m0)))] 3 (0,0))]]) (enc:=Go.E.encI) (sz:=1) (xs:=[((2^(sh).toNat)-((((2*(((((2*(i:Int))+1)*n0)-m0)-(((((((2*(i:Int))+1)*n0)-m0).tdiv (2*m0))-1)*(2*m0))))*(2^(sh).toNat))+(2*m0)).tdiv (2*(2*m0)))),((((2*(((((2*(i:Int))+1)*n0)-m0)-(((((((2*(i:Int))+1)*n0)-m0).tdiv (2*m0))-1)*(2*m0))))*(2^(sh).toNat))+(2*m0)).tdiv (2*(2*m0)))]) fR 2 0 rfl rfl rfl om).of_mem mS⟩)⟩
theorem r8_box (W w:World) (H:Chunk) (F:List Chunk) (n0 m0 sh:Int) (hS:Sat W w (H::F)):
  Calls prog 99 #[I n0,I m0,I sh] w fun e w'=>∃(az:Option Addr) (nz kz:Nat) (zs:List Tap) (cd:Int) (c G:Chunk),e= .returned (.tuple #[.slice az nz kz,I cd])/\OwnT encTap 121 2 az nz kz zs c/\(∀z∈zs,Tap.Ok [G] z)/\((zs.length:Int)<=max m0 0/\∀z∈zs,tapB z)/\Sat W w' (G::c::H::F):=by
 refine callsK 83 func99 rfl<|jCO 10 rfl<|cS (r8_side n0 hS.flat) fun _ g0=>pu2<|SDn 18 ((1:Int)<=n0/\n0<=(128:Int)) (fun q0=>jOR 15 rfl<|retT [nS,I 8]<|(by have r0:Sat W _ ([]::[]::H::F):=Sat.nilc (Sat.nilc g0);exact ⟨none,0,0,[],_,[],[],rfl,OwnT.nil fR,(fun z hz=>by cases hz),⟨by simp;omega,(fun z hz=>by cases hz)⟩,r0⟩)) fun q0=>pu1<|gY<|cS (r8_side m0 g0.flat) fun _ d0=>jOC 4 rfl<|CDn ((1:Int)<=m0/\m0<=(128:Int)) (fun s0=>jCR 8 rfl<|retT [nS,I 8]<|(by have t0:Sat W _ ([]::[]::H::F):=Sat.nilc (Sat.nilc d0);exact ⟨none,0,0,[],_,[],[],rfl,OwnT.nil fR,(fun z hz=>by cases hz),⟨by simp;omega,(fun z hz=>by cases hz)⟩,t0⟩)) fun s0=>jCO 8 rfl<|sD 25 (sh<0) (fun u0=>jOR 14 rfl<|retT [nS,I 2]<|(by have v0:Sat W _ ([]::[]::H::F):=Sat.nilc (Sat.nilc d0);exact ⟨none,0,0,[],_,[],[],rfl,OwnT.nil fR,(fun z hz=>by cases hz),⟨by simp;omega,(fun z hz=>by cases hz)⟩,v0⟩)) fun u0=>jOC 5 rfl<|cD (sh>14) (fun w0=>jCR 8 rfl<|retT [nS,I 2]<|(by have x0:Sat W _ ([]::[]::H::F):=Sat.nilc (Sat.nilc d0);exact ⟨none,0,0,[],_,[],[],rfl,OwnT.nil fR,(fun z hz=>by cases hz),⟨by simp;omega,(fun z hz=>by cases hz)⟩,x0⟩)) fun w0=>jCC 14 rfl ?_
 refine loopF [0,1,2] (γ:=Nat×(List Tap)×(Option Addr)×Nat×Nat×Chunk×Chunk) (fun ⟨i,zs,F0,D0,H0,J0,B0⟩ R=>⟨[(9,I (i:Int)),(8, .slice F0 D0 H0)],B0::J0::R,m0.toNat-i,i<=m0.toNat/\(∀z∈zs,tapB z)/\(zs.length=i)/\OwnT encTap 121 2 F0 D0 H0 zs J0/\(∀z∈zs,Tap.Ok [B0] z)⟩) (0,[],none,0,0,[],[]) ⟨(Sat.nilc (Sat.nilc d0)),om,(by intro z hz;cases hz),by rfl,(OwnT.nil (enc:=encTap) (E:=121) (sz:=2) fR),(by intro z hz;cases hz)⟩ ?_
 rintro ⟨i,zs,F0,D0,H0,J0,B0⟩ ρ _ ⟨h0,hi,hB,X0,z0,C0⟩
 have L0:=z0.ll
 refine jCC 8 rfl<|CD ((i:Int)<m0) (fun b1=>jCR 13 rfl<|retT [.slice F0 D0 H0,I 0]<|⟨_,_,_,zs,_,_,_,rfl,z0,C0,⟨om,hB⟩,h0⟩) fun b1=>jCC 5 rfl ?_
 have O0:=mul_bd (a:=(i:Int)) (b:=n0) (A:=128) (B:=128) om om;have P0:((i:Int)+1)*n0=(i:Int)*n0+n0:=by rw [Int.add_mul,Int.one_mul]
 refine jCO 3 rfl<|sMul (i:Int) n0<|pu1<|sAdd (i:Int) 1<|pu1<|sMul ((i:Int)+1) n0<|jOO 8 rfl<|sQuo ((i:Int)*n0) m0<|pu1<|sAlloc h0 zeroValue121 fun _ _ c1=>sTk c1 0 [I (((i:Int)*n0).tdiv m0),nS] fun _ i0=>jOC 3 rfl ?_
 have hq:=Int.mul_tdiv_add_tmod ((i:Int)*n0) m0;have T0:=Int.tmod_lt_of_pos ((i:Int)*n0) (by omega:0<m0);have U0:=Int.tmod_nonneg m0 (by omega:0<=((i:Int)*n0));have V0:=Int.mul_comm (((i:Int)*n0).tdiv m0) m0;have W0:=tdiv_bd (a:=((i:Int)*n0)) (b:=m0) (A:=16384) om om
 refine gCC i0 13 [0] rfl<|loopF [0,1,2,9,8,10,11,12] (γ:=Nat×Int×(List Int)×SO) (fun ⟨u,kk,ps,E0,A0,G0,I0⟩ R=>⟨[(14,I kk),(13, .slice E0 A0 G0)],I0::R,20000-u,u<=20000/\(∀z∈ps,1<=z/\z<=16384)/\((u:Int)+(((i:Int)*n0).tdiv m0)=kk/\((i:Int)*n0)<kk*m0+m0/\kk*m0<=((i:Int)*n0)+n0+m0/\(u=0->kk*m0<=((i:Int)*n0)))/\(ps.length=u)/\OwnT Go.E.encI 3 1 E0 A0 G0 ps I0⟩) (0,(((i:Int)*n0).tdiv m0),[],none,0,0,[]) ⟨(Sat.nilc i0),om,(by intro z hz;cases hz),om,by rfl,(OwnT.nil (enc:=Go.E.encI) (E:=3) (sz:=1) fR)⟩ ?_
 rintro ⟨u,kk,ps,E0,A0,G0,I0⟩ ρ _ ⟨e0,hu,hP,hk,S0,y0⟩
 have K0:=y0.ll
 refine jCC 2 rfl ?_
 have N0:=le_mul_pos (k:=kk) (m:=m0) om om;have M0:(kk+1)*m0=kk*m0+m0:=by rw [Int.add_mul,Int.one_mul]
 refine jCO 3 rfl<|sMul kk m0<|jOC 4 rfl<|cD ((kk*m0)<(((i:Int)+1)*n0)) (fun f1=>jCO 8 rfl<|sAdd kk 1<|pu1<|sMul (kk+1) m0<|stepY (I (min (((i:Int)+1)*n0) ((kk+1)*m0))) rfl rfl (Y_min2 (((i:Int)+1)*n0) ((kk+1)*m0) rfl rfl kr kr)<|pu3<|sMul kk m0<|stepY (I (max ((i:Int)*n0) (kk*m0))) rfl rfl (Y_max2 ((i:Int)*n0) (kk*m0) rfl rfl kr kr)<|sSub (min (((i:Int)+1)*n0) ((kk+1)*m0)) (max ((i:Int)*n0) (kk*m0))<|sBK e0 #[I ((min (((i:Int)+1)*n0) ((kk+1)*m0))-(max ((i:Int)*n0) (kk*m0)))] 3 fun _ _ g1=>sApp (nb:=8) g1 y0 1 (RdT.blk (enc:=Go.E.encI) (sz:=1) (xs:=[((min (((i:Int)+1)*n0) ((kk+1)*m0))-(max ((i:Int)*n0) (kk*m0)))]) fR 1 0 rfl rfl rfl om) underlying22 (i:=Tryz.t3) kr fR fun h1 i1 j1 _ k1 l1=>jOO 6 rfl<|sAdd kk 1<|jOI 2 rfl<|⟨(u+1,(kk+1),(ps++[((min (((i:Int)+1)*n0) ((kk+1)*m0))-(max ((i:Int)*n0) (kk*m0)))]),h1,(A0+1),i1,j1),od,alB,(l1.dropAt 0 rfl),om,mem_snoc hP om,om,by simp;omega,k1⟩) fun f1=>jCC 13 rfl<|cD ((A0:Int)>8) (fun n1=>jCR 13 rfl<|retT [nS,I 9]<|(by have o1:=(e0.drops [0,0,0,0]);have q1:Sat W _ ([]::[]::H::F):=Sat.nilc (Sat.nilc o1);exact ⟨none,0,0,[],_,[],[],rfl,OwnT.nil fR,(fun z hz=>by cases hz),⟨by simp;omega,(fun z hz=>by cases hz)⟩,q1⟩)) fun n1=>jCC 3 rfl ?_
 have Q0:=pow2_pos sh.toNat;have R0:=pow2_le (a:=sh.toNat) (b:=14) om
 refine jCO 2 rfl<|stepY (.int .u64 sh) rfl rfl (Y_conv (k:= .i64) (a:=sh) underlying3 underlying164 (wrapIn_u64 _ om) rfl kr)<|stepY (I (2^(sh).toNat)) rfl rfl (Y_shl1 (k':= .u64) sh rfl kr kr om)<|pu1<|sF #[I (2^(sh).toNat), .slice E0 A0 G0] call142 (Calls.mono (r8_divide W _ _ [] (2^(sh).toNat) _ _ _ ps (RdT.flat (y0.rdAt 0 (by rfl))) om (fun z hz=>by have:=hP z hz;omega) om e0.flat) ?_)
 rintro _ _ ⟨a0,b0,c0,j0,f0,rfl,r1,k0,l0⟩
 refine ⟨_,rfl,?_⟩
 have s1:=l0.unflat1;clear l0
 refine pu1<|sT s1 2 1 (.slice a0 b0 c0) [.slice a0 b0 c0] #[I (((i:Int)*n0).tdiv m0), .slice a0 b0 c0] sizeOf22 fun _ o0=>gOO o0 5 [202] rfl<|sBK o0 #[I (((i:Int)*n0).tdiv m0), .slice a0 b0 c0] 121 fun _ _ t1=>sApp (nb:=32) t1 z0 5 (RdT.blk (enc:=encTap) (sz:=2) (xs:=[(⟨(((i:Int)*n0).tdiv m0),⟨a0,b0,c0,f0⟩⟩:Tap)]) fR 1 0 rfl rfl rfl om) underlying50 (i:=Tryz.t121) kr fR fun u1 v1 p0 _ w1 x1=>jOO 6 rfl<|sAdd (i:Int) 1<|jOI 2 rfl ?_
 have y1:=(x1.drops [0,1,1])
 exact ⟨(i+1,(zs++[(⟨(((i:Int)*n0).tdiv m0),⟨a0,b0,c0,f0⟩⟩:Tap)]),u1,(D0+1),v1,p0,(j0++B0)),od,alB,(Sat.perm (cs':=(j0++B0)::(p0::H::F)) y1 (by simp)),om,mem_snoc hB (show tapB (⟨(((i:Int)*n0).tdiv m0),⟨a0,b0,c0,f0⟩⟩:Tap) from ⟨by unfold numB;dsimp only;omega,by have:=k0.1;dsimp only;omega,k0.2⟩),by simp;omega,w1,(by
   intro z hz
   rcases List.mem_append.1 hz with h|h
   ·exact (C0 z h).of_mem mS
   ·simp only [List.mem_singleton] at h;subst h;exact ⟨r1.of_mem mS⟩)⟩
end Go.Proofs.YtghcddbhllkbmaaGreat
namespace Go.E
set_option linter.unusedVariables false
set_option linter.unusedSimpArgs false
section
variable {P:Program} {W w:World} {cs:List Chunk} {ρ:Env} {o:Oper} {ops:Array Oper} {rest:List Oper} {n:Nat} {N:Env->World->Prop}
end
end Go.E
