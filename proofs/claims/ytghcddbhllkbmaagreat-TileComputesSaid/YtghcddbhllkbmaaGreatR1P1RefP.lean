import Derived.WalkKit
import Derived.Deep.Quiet
import Derived.KernelRfl
import Derived.Laws.BytesString
import Derived.Laws.Shifts
import Derived.Laws.IdiomStrings
import Derived.OpenShut
import Derived.Deep.Slices
import Derived.ChangeSame
import Derived.Deep.Fields
import Derived.Test.YtghcddbhllkbmaaGreatProg
import Derived.Test.YtghcddbhllkbmaaGreatR1P1Ref
namespace Go.Proofs.YtghcddbhllkbmaaGreat
open Go Go.E Go.Proofs.Tryz
set_option linter.all false
set_option maxRecDepth 100000
set_option maxHeartbeats 2000000
variable {W w:World} {H:Chunk} {F:List Chunk}
structure Sp where
  lo:Int
  hi:Int
  deriving DecidableEq
def encSp (x:Sp):List Value:=[.int .i64 x.lo, .int .i64 x.hi]
def takesV (c:Int):Int:=if c<=2 then 0 else if 10<=c then 1 else 2
theorem takesV_bd (c:Int):0<=takesV c/\takesV c<=2:=by unfold takesV;(repeat' split)<;>omega
def argP (o:POp):Prop:=(o.code=2/\-4294967296<=o.arg/\o.arg<=4294967296)\/(o.code=10/\0<=o.arg/\o.arg<=24)\/(¬o.code=2/\¬o.code=10/\o.arg=0)
instance (o:POp):Decidable (argP o):=by unfold argP;infer_instance
def opBad (two:Bool) (o:POp) (h:Int):Prop:=o.code<0\/11<o.code\/(o.code=1/\two=false)\/h<takesV o.code
instance (two:Bool) (o:POp) (h:Int):Decidable (opBad two o h):=by unfold opBad;infer_instance
def opsGo (two:Bool):List POp->Int->Int
  |[],h=>if h=1 then 0 else 1
  |o::l,h=>if opBad two o h then 1 else if argP o then opsGo two l (h+(1-takesV o.code)) else 10
def opsCode (l:List POp) (two:Bool):Int:=if l.length=0\/32<l.length then 9 else opsGo two l 0
theorem r14_takes (x:Int) (hS:Sat W w (H::F)):
  Ro prog 182 #[I x] (I (takesV x)) W w (H::F):=by
 exact callsK 9 func182 rfl<|jCC 14 rfl<|cD (x<=2) (fun a0=>jCR 8 rfl<|retT [I 0]<|⟨(by unfold takesV;exact ssp),hS⟩) fun a0=>jCC 7 rfl<|cD (x>=10) (fun b0=>jCR 8 rfl<|retT [I 1]<|⟨(by unfold takesV;exact ssp),hS⟩) fun b0=>jCR 9 rfl<|retT [I 2]<|⟨(by unfold takesV;exact ssp),hS⟩
theorem r14_argument (o:POp) (hS:Sat W w (H::F)):
  Ro prog 198 #[.agg #[I o.code,I o.arg]] (.bool (decide (argP o))) W w (H::F):=by
 exact callsK 23 func198 rfl<|jCO 2 rfl<|sBx hS [I o.code,I o.arg] fun _ _ a0=>gOC a0 17 [0] rfl<|cE o.code 2 (fun b0=>gCO a0 6 [0] rfl<|SD 10 (o.arg>=(-4294967296)) (fun c0=>jOR 10 rfl<|retT [.bool false]<|⟨rB (by first|rfl|(rw [Bool.eq_iff_iff];simp only [decide_eq_true_eq,beq_iff_eq,bne_iff_ne,ne_eq,Bool.not_eq_true',decide_eq_false_iff_not,true_iff,false_iff,iff_true,iff_false,Bool.false_eq_true,Bool.and_eq_true,Bool.or_eq_true,gt_iff_lt,ge_iff_le,argP]<;>omega)|(rw [Bool.eq_iff_iff];simp [argP, *]<;>omega)|(simp_all;done)),(a0.dropAt 0 rfl)⟩) fun c0=>gOR a0 10 [0] rfl<|retT [.bool (decide ((o.arg:Int)<=4294967296))]<|⟨rB (by first|rfl|(rw [Bool.eq_iff_iff];simp only [decide_eq_true_eq,beq_iff_eq,bne_iff_ne,ne_eq,Bool.not_eq_true',decide_eq_false_iff_not,true_iff,false_iff,iff_true,iff_false,Bool.false_eq_true,Bool.and_eq_true,Bool.or_eq_true,gt_iff_lt,ge_iff_le,argP]<;>omega)|(rw [Bool.eq_iff_iff];simp [argP, *]<;>omega)|(simp_all;done)),(a0.dropAt 0 rfl)⟩) fun b0=>jCC 6 rfl<|CE o.code 10 (fun f0=>gCR a0 12 [0] rfl<|retT [.bool ((o.arg:Int)==0)]<|⟨rB (by first|rfl|(rw [Bool.eq_iff_iff];simp only [decide_eq_true_eq,beq_iff_eq,bne_iff_ne,ne_eq,Bool.not_eq_true',decide_eq_false_iff_not,true_iff,false_iff,iff_true,iff_false,Bool.false_eq_true,Bool.and_eq_true,Bool.or_eq_true,gt_iff_lt,ge_iff_le,argP]<;>omega)|(rw [Bool.eq_iff_iff];simp [argP, *]<;>omega)|(simp_all;done)),(a0.dropAt 0 rfl)⟩) fun f0=>gCO a0 4 [0] rfl<|cS (r7_iss o.arg a0.flat) fun _ h0=>jOR 6 rfl<|retT [.bool (decide ((0:Int)<=o.arg/\o.arg<=(24:Int)))]<|⟨rB (by first|rfl|(rw [Bool.eq_iff_iff];simp only [decide_eq_true_eq,beq_iff_eq,bne_iff_ne,ne_eq,Bool.not_eq_true',decide_eq_false_iff_not,true_iff,false_iff,iff_true,iff_false,Bool.false_eq_true,Bool.and_eq_true,Bool.or_eq_true,gt_iff_lt,ge_iff_le,argP]<;>omega)|(rw [Bool.eq_iff_iff];simp [argP, *]<;>omega)|(simp_all;done)),(h0.dropAt 0 rfl)⟩
theorem r14_valid (ax:Option Addr) (nx kx:Nat) (x:List POp) (two:Bool) (hx:RdT encPOp 2 [H] ax nx kx x) (hS:Sat W w (H::F)):
  Ro prog 179 #[.slice ax nx kx, .bool two] (I (opsCode x two)) W w (H::F):=by
 have A0:=hx.ll
 refine callsK 61 func179 rfl<|jCO 12 rfl<|sE 11 (nx:Int) 0 (fun i0=>jOR 14 rfl<|retT [I 9]<|⟨by unfold opsCode;rw [if_pos om];rfl,hS⟩) fun i0=>jOC 6 rfl<|cD ((nx:Int)>32) (fun j0=>jCR 7 rfl<|retT [I 9]<|⟨by unfold opsCode;rw [if_pos om];rfl,hS⟩) fun j0=>jCC 14 rfl<|loopF [0,1] (γ:=Nat×Int) (fun ⟨i,h⟩ R=>⟨[(6,I (i:Int)),(5,I h)],R,nx-i,i<=nx/\(opsGo two x 0=opsGo two (x.drop i) h)/\(0<=h/\h<=(i:Int))⟩) (0,0) ⟨hS,om,by rfl,om⟩ ?_
 rintro ⟨i,h⟩ ρ _ ⟨d0,hi,hG,hb⟩
 refine jCC 9 rfl<|CD ((i:Int)<(nx:Int)) (fun k0=>jCC 12 rfl<|CN h 1 (fun l0=>jCR 7 rfl<|retT [I 1]<|(by have y0:opsCode x two=opsGo two (x.drop i) h:=(by unfold opsCode;rw [if_neg om];exact hG);exact ⟨by rw [y0,List.drop_of_length_le om,opsGo];rw [if_neg om];rfl,d0⟩)) fun l0=>jCR 8 rfl<|retT [I 0]<|(by have y0:opsCode x two=opsGo two (x.drop i) h:=(by unfold opsCode;rw [if_neg om];exact hG);exact ⟨by rw [y0,List.drop_of_length_le om,opsGo];rw [if_pos om];rfl,d0⟩)) fun k0=>?_
 refine jCO 8 rfl<|sIN hx i fun a0 _ _ b0 m0=>sMA d0 (m0.up 0 rfl) 0 [I a0.code,I a0.arg]<|sAlloc d0 zeroValue75 fun _ _ n0=>sTk n0 0 [I a0.code,I a0.arg] fun _ c0=>gOO c0 9 [0] rfl<|sD 29 (a0.code<0) (fun o0=>jOR 35 rfl<|retT [I 1]<|(by have p0:=(c0.dropAt 0 rfl);have y0:opsCode x two=opsGo two (x.drop i) h:=(by unfold opsCode;rw [if_neg om];exact hG);exact ⟨by rw [y0,drop_at b0,opsGo];rw [if_pos (by unfold opBad;first|omega|(simp_all;done)|(simp_all;omega))];rfl,p0⟩)) fun o0=>gOO c0 5 [0] rfl<|sD 34 (a0.code>11) (fun q0=>jOR 30 rfl<|retT [I 1]<|(by have r0:=(c0.dropAt 0 rfl);have y0:opsCode x two=opsGo two (x.drop i) h:=(by unfold opsCode;rw [if_neg om];exact hG);exact ⟨by rw [y0,drop_at b0,opsGo];rw [if_pos (by unfold opBad;first|omega|(simp_all;done)|(simp_all;omega))];rfl,r0⟩)) fun q0=>gOO c0 4 [0] rfl<|SE 38 a0.code 1 (fun s0=>gOO c0 7 [0] rfl<|gY<|cS (r14_takes a0.code c0.flat) fun _ e0=>(by have o1:0<=(takesV a0.code)/\(takesV a0.code)<=2:=takesV_bd _;exact jOC 5 rfl<|cD ((takesV a0.code)>h) (fun t0=>jCR 12 rfl<|retT [I 1]<|(by have u0:=(e0.dropAt 0 rfl);have y0:opsCode x two=opsGo two (x.drop i) h:=(by unfold opsCode;rw [if_neg om];exact hG);exact ⟨by rw [y0,drop_at b0,opsGo];rw [if_pos (by unfold opBad;first|omega|(simp_all;done)|(simp_all;omega))];rfl,u0⟩)) fun t0=>gCO e0 6 [200] rfl<|cS (r14_argument a0 e0.flat) fun _ f0=>jOC 3 rfl<|CDn (argP a0) (fun v0=>jCR 12 rfl<|retT [I 10]<|(by have w0:=(f0.dropAt 0 rfl);have y0:opsCode x two=opsGo two (x.drop i) h:=(by unfold opsCode;rw [if_neg om];exact hG);exact ⟨by rw [y0,drop_at b0,opsGo];rw [if_neg (by unfold opBad;first|omega|(simp_all;done)|(simp_all;omega)),if_neg ‹_›];rfl,w0⟩)) fun v0=>gCO f0 6 [0] rfl<|cS (r14_takes a0.code f0.flat) fun _ x0=>(by have s1:0<=(takesV a0.code)/\(takesV a0.code)<=2:=takesV_bd _;exact sSub 1 (takesV a0.code)<|sAdd h (1-(takesV a0.code))<|jOO 6 rfl<|sAdd (i:Int) 1<|jOI 2 rfl<|⟨(i+1,(h+(1-(takesV a0.code)))),od,alB,(x0.dropAt 0 rfl),om,by rw [hG,drop_at b0,opsGo,if_neg (by unfold opBad;first|omega|(simp_all;done)|(simp_all;omega)),if_pos ‹_›],om⟩))) fun s0=>?_
 exact pu5<|SBn 43 two (fun z0=>jOR 21 rfl<|retT [I 1]<|(by have a1:=(c0.dropAt 0 rfl);have y0:opsCode x two=opsGo two (x.drop i) h:=(by unfold opsCode;rw [if_neg om];exact hG);exact ⟨by rw [y0,drop_at b0,opsGo];rw [if_pos (by unfold opBad;first|omega|(simp_all;done)|(simp_all;omega))];rfl,a1⟩)) fun z0=>gOO c0 2 [0] rfl<|gY<|cS (r14_takes a0.code c0.flat) fun _ g0=>(by have u1:0<=(takesV a0.code)/\(takesV a0.code)<=2:=takesV_bd _;exact jOC 5 rfl<|cD ((takesV a0.code)>h) (fun b1=>jCR 12 rfl<|retT [I 1]<|(by have c1:=(g0.dropAt 0 rfl);have y0:opsCode x two=opsGo two (x.drop i) h:=(by unfold opsCode;rw [if_neg om];exact hG);exact ⟨by rw [y0,drop_at b0,opsGo];rw [if_pos (by unfold opBad;first|omega|(simp_all;done)|(simp_all;omega))];rfl,c1⟩)) fun b1=>gCO g0 6 [200] rfl<|cS (r14_argument a0 g0.flat) fun _ h0=>jOC 3 rfl<|CDn (argP a0) (fun d1=>jCR 12 rfl<|retT [I 10]<|(by have e1:=(h0.dropAt 0 rfl);have y0:opsCode x two=opsGo two (x.drop i) h:=(by unfold opsCode;rw [if_neg om];exact hG);exact ⟨by rw [y0,drop_at b0,opsGo];rw [if_neg (by unfold opBad;first|omega|(simp_all;done)|(simp_all;omega)),if_neg ‹_›];rfl,e1⟩)) fun d1=>gCO h0 6 [0] rfl<|cS (r14_takes a0.code h0.flat) fun _ f1=>(by have x1:0<=(takesV a0.code)/\(takesV a0.code)<=2:=takesV_bd _;exact sSub 1 (takesV a0.code)<|sAdd h (1-(takesV a0.code))<|jOO 6 rfl<|sAdd (i:Int) 1<|jOI 2 rfl<|⟨(i+1,(h+(1-(takesV a0.code)))),od,alB,(f1.dropAt 0 rfl),om,by rw [hG,drop_at b0,opsGo,if_neg (by unfold opBad;first|omega|(simp_all;done)|(simp_all;omega)),if_pos ‹_›],om⟩))
def timesOK (a b:Int):Bool:=decide (-17592186044416<=a*b/\a*b<=17592186044416)
def timesV (a b:Int):Int:=if timesOK a b=true then a*b else 0
theorem times_t {a b x y:Int} (hx:x=a\/x=-a) (hy:y=b\/y=-b) (hx0:0<=x) (hy0:0<=y) (h:y=0\/(0<y/\x<=(17592186044416:Int).tdiv y)):timesOK a b=true/\timesV a b=a*b/\-17592186044416<=a*b/\a*b<=17592186044416:=by
  have h1:=mul_le_of hx0 hy0 (l:=17592186044416) (by omega) h
  have h2:=abs_mul_le hx hy hx0 hy0 h1.2
  have h3:timesOK a b=true:=decide_eq_true h2
  exact ⟨h3,by unfold timesV;rw [if_pos h3],h2⟩
theorem times_f {a b x y:Int} (hx:x=a\/x=-a) (hy:y=b\/y=-b) (h:0<y/\(17592186044416:Int).tdiv y<x):timesOK a b=false/\timesV a b=0:=by
  have h1:=mul_gt_of (l:=17592186044416) (by omega) h.1 h.2
  have h3:timesOK a b=false:=decide_eq_false (abs_mul_gt hx hy h1)
  exact ⟨h3,by unfold timesV;rw [h3];rfl⟩
def accS (x:Sp):Prop:=(-17592186044416<=x.lo/\x.lo<=17592186044416)/\-17592186044416<=x.hi/\x.hi<=17592186044416
def prodLo (x y:Sp):Int:=min (min (min (timesV x.lo y.lo) (timesV x.lo y.hi)) (timesV x.hi y.lo)) (timesV x.hi y.hi)
def prodHi (x y:Sp):Int:=max (max (max (timesV x.lo y.lo) (timesV x.lo y.hi)) (timesV x.hi y.lo)) (timesV x.hi y.hi)
def prodOK (x y:Sp):Bool:=timesOK x.lo y.lo&&timesOK x.lo y.hi&&timesOK x.hi y.lo&&timesOK x.hi y.hi
theorem r14_times (a:Int) (b:Int) (ha:-17592186044416<=a/\a<=17592186044416) (hb:-17592186044416<=b/\b<=17592186044416) (hS:Sat W w (H::F)):
  Ro prog 200 #[I a,I b] (.tuple #[I (timesV a b), .bool (timesOK a b)]) W w (H::F):=by
 refine callsK 29 func200 rfl<|jCC 21 rfl<|CD (a<0) (fun a0=>jCC 9 rfl<|CD (b<0) (fun b0=>jCO 8 rfl<|SD 20 (b>0) (fun c0=>jOC 11 rfl<|(by have ht:=times_t (a:=a) (b:=b) (x:=a) (y:=b) om om om om om;exact jCO 3 rfl<|sMul a b<|jOR 5 rfl<|retT [I (a*b), .bool true]<|⟨by rw [ht.1,ht.2.1];rfl,hS⟩)) fun c0=>pu2<|gY<|sQuo 17592186044416 b<|jOC 4 rfl<|cD (a>((17592186044416:Int).tdiv b)) (fun d0=>jCR 8 rfl<|retT [I 0, .bool false]<|(by have ht:=times_f (a:=a) (b:=b) (x:=a) (y:=b) om om om;exact ⟨by rw [ht.1,ht.2];rfl,hS⟩)) fun d0=>jCC 3 rfl<|(by have ht:=times_t (a:=a) (b:=b) (x:=a) (y:=b) om om om om om;exact jCO 3 rfl<|sMul a b<|jOR 5 rfl<|retT [I (a*b), .bool true]<|⟨by rw [ht.1,ht.2.1];rfl,hS⟩)) fun b0=>jCO 2 rfl<|stepY (I (-b)) rfl rfl (Y_neg b rfl kr)<|jOO 9 rfl<|SD 20 ((-b)>0) (fun e0=>jOC 11 rfl<|(by have ht:=times_t (a:=a) (b:=b) (x:=a) (y:=(-b)) om om om om om;exact jCO 3 rfl<|sMul a b<|jOR 5 rfl<|retT [I (a*b), .bool true]<|⟨by rw [ht.1,ht.2.1];rfl,hS⟩)) fun e0=>pu2<|gY<|sQuo 17592186044416 (-b)<|jOC 4 rfl<|cD (a>((17592186044416:Int).tdiv (-b))) (fun f0=>jCR 8 rfl<|retT [I 0, .bool false]<|(by have ht:=times_f (a:=a) (b:=b) (x:=a) (y:=(-b)) om om om;exact ⟨by rw [ht.1,ht.2];rfl,hS⟩)) fun f0=>jCC 3 rfl<|(by have ht:=times_t (a:=a) (b:=b) (x:=a) (y:=(-b)) om om om om om;exact jCO 3 rfl<|sMul a b<|jOR 5 rfl<|retT [I (a*b), .bool true]<|⟨by rw [ht.1,ht.2.1];rfl,hS⟩)) fun a0=>?_
 exact jCO 2 rfl<|stepY (I (-a)) rfl rfl (Y_neg a rfl kr)<|jOC 10 rfl<|CD (b<0) (fun g0=>jCO 8 rfl<|SD 20 (b>0) (fun h0=>jOC 11 rfl<|(by have ht:=times_t (a:=a) (b:=b) (x:=(-a)) (y:=b) om om om om om;exact jCO 3 rfl<|sMul a b<|jOR 5 rfl<|retT [I (a*b), .bool true]<|⟨by rw [ht.1,ht.2.1];rfl,hS⟩)) fun h0=>pu2<|gY<|sQuo 17592186044416 b<|jOC 4 rfl<|cD ((-a)>((17592186044416:Int).tdiv b)) (fun i0=>jCR 8 rfl<|retT [I 0, .bool false]<|(by have ht:=times_f (a:=a) (b:=b) (x:=(-a)) (y:=b) om om om;exact ⟨by rw [ht.1,ht.2];rfl,hS⟩)) fun i0=>jCC 3 rfl<|(by have ht:=times_t (a:=a) (b:=b) (x:=(-a)) (y:=b) om om om om om;exact jCO 3 rfl<|sMul a b<|jOR 5 rfl<|retT [I (a*b), .bool true]<|⟨by rw [ht.1,ht.2.1];rfl,hS⟩)) fun g0=>jCO 2 rfl<|stepY (I (-b)) rfl rfl (Y_neg b rfl kr)<|jOO 9 rfl<|SD 20 ((-b)>0) (fun j0=>jOC 11 rfl<|(by have ht:=times_t (a:=a) (b:=b) (x:=(-a)) (y:=(-b)) om om om om om;exact jCO 3 rfl<|sMul a b<|jOR 5 rfl<|retT [I (a*b), .bool true]<|⟨by rw [ht.1,ht.2.1];rfl,hS⟩)) fun j0=>pu2<|gY<|sQuo 17592186044416 (-b)<|jOC 4 rfl<|cD ((-a)>((17592186044416:Int).tdiv (-b))) (fun k0=>jCR 8 rfl<|retT [I 0, .bool false]<|(by have ht:=times_f (a:=a) (b:=b) (x:=(-a)) (y:=(-b)) om om om;exact ⟨by rw [ht.1,ht.2];rfl,hS⟩)) fun k0=>jCC 3 rfl<|(by have ht:=times_t (a:=a) (b:=b) (x:=(-a)) (y:=(-b)) om om om om om;exact jCO 3 rfl<|sMul a b<|jOR 5 rfl<|retT [I (a*b), .bool true]<|⟨by rw [ht.1,ht.2.1];rfl,hS⟩)
theorem r14_abs (a:Int) (ha:-9223372036854775807<=a/\a<=9223372036854775807) (hS:Sat W w (H::F)):
    Ro prog 201 #[.int .i64 a] (.int .i64 (a.natAbs:Int)) W w (H::F):=by
  exact callsK 8 func201 rfl<|jCC 12 rfl<|CD (a<0) (fun a0=>jCR 9 rfl<|retT [.int .i64 a]<|⟨congrArg (fun c=>Ending.returned (.int .i64 c)) (by omega),hS⟩) fun a0=>jCO 3 rfl<|stepY (.int .i64 (-a)) rfl rfl (Y_neg a rfl (by kernel_rfl))<|jOR 5 rfl<|retT [.int .i64 (-a)]<|⟨congrArg (fun c=>Ending.returned (.int .i64 c)) (by omega),hS⟩
theorem r14_product (x:Sp) (y:Sp) (hx:accS x) (hy:accS y) (hS:Sat W w (H::F)):
  Ro prog 203 #[.agg #[I x.lo,I x.hi], .agg #[I y.lo,I y.hi]] (.tuple #[.agg #[I (prodLo x y),I (prodHi x y)], .bool (prodOK x y)]) W w (H::F):=by
 have t0:=hx.1;have u0:=hx.2;have v0:=hy.1;have w0:=hy.2
 refine callsK 67 func203 rfl<|jCO 2 rfl<|sBx hS [I x.lo,I x.hi] fun _ _ j0=>sBx j0 [I y.lo,I y.hi] fun _ _ k0=>sAlloc k0 zeroValue196 fun _ _ b0=>gOO b0 9 [2,1] rfl<|cS (r14_times x.lo y.lo (od) (od) b0.flat) fun _ c0=>gOO c0 13 [2,1] rfl<|cS (r14_times x.lo y.hi (od) (od) c0.flat) fun _ d0=>gOO d0 13 [2,1] rfl<|cS (r14_times x.hi y.lo (od) (od) d0.flat) fun _ e0=>gOO e0 13 [2,1] rfl<|cS (r14_times x.hi y.hi (od) (od) e0.flat) fun _ a0=>jOO 13 rfl<|stepY (I (min (min (min (timesV x.lo y.lo) (timesV x.lo y.hi)) (timesV x.hi y.lo)) (timesV x.hi y.hi))) rfl rfl (Y_min4 (timesV x.lo y.lo) (timesV x.lo y.hi) (timesV x.hi y.lo) (timesV x.hi y.hi) rfl rfl kr kr kr kr)<|pu4<|stepY (I (max (max (max (timesV x.lo y.lo) (timesV x.lo y.hi)) (timesV x.hi y.lo)) (timesV x.hi y.hi))) rfl rfl (Y_max4 (timesV x.lo y.lo) (timesV x.lo y.hi) (timesV x.hi y.lo) (timesV x.hi y.hi) rfl rfl kr kr kr kr)<|pu3<|sB 58 (timesOK x.lo y.lo) (fun l0=>?_) (fun l0=>?_)
 rotate_left
 ·refine pu8<|sTk a0 0 [I (min (min (min (timesV x.lo y.lo) (timesV x.lo y.hi)) (timesV x.hi y.lo)) (timesV x.hi y.hi)),I (max (max (max (timesV x.lo y.lo) (timesV x.lo y.hi)) (timesV x.hi y.lo)) (timesV x.hi y.hi))] fun _ f0=>jOR 4 rfl<|retD f0 0 [I (min (min (min (timesV x.lo y.lo) (timesV x.lo y.hi)) (timesV x.hi y.lo)) (timesV x.hi y.hi)),I (max (max (max (timesV x.lo y.lo) (timesV x.lo y.hi)) (timesV x.hi y.lo)) (timesV x.hi y.hi))] (.bool false) ?_
  have m0:=(f0.drops [0,0,0])
  have s0:prodOK x y=false:=by simp [prodOK, *]
  exact ⟨by rw [s0];rfl,m0⟩
 refine pu3<|sB 61 (timesOK x.lo y.hi) (fun n0=>?_) (fun n0=>?_)
 rotate_left
 ·refine pu5<|sTk a0 0 [I (min (min (min (timesV x.lo y.lo) (timesV x.lo y.hi)) (timesV x.hi y.lo)) (timesV x.hi y.hi)),I (max (max (max (timesV x.lo y.lo) (timesV x.lo y.hi)) (timesV x.hi y.lo)) (timesV x.hi y.hi))] fun _ g0=>jOR 4 rfl<|retD g0 0 [I (min (min (min (timesV x.lo y.lo) (timesV x.lo y.hi)) (timesV x.hi y.lo)) (timesV x.hi y.hi)),I (max (max (max (timesV x.lo y.lo) (timesV x.lo y.hi)) (timesV x.hi y.lo)) (timesV x.hi y.hi))] (.bool false) ?_
  have o0:=(g0.drops [0,0,0])
  have s0:prodOK x y=false:=by simp [prodOK, *]
  exact ⟨by rw [s0];rfl,o0⟩
 refine pu3<|sB 64 (timesOK x.hi y.lo) (fun p0=>?_) (fun p0=>?_)
 rotate_left
 ·refine pu2<|sTk a0 0 [I (min (min (min (timesV x.lo y.lo) (timesV x.lo y.hi)) (timesV x.hi y.lo)) (timesV x.hi y.hi)),I (max (max (max (timesV x.lo y.lo) (timesV x.lo y.hi)) (timesV x.hi y.lo)) (timesV x.hi y.hi))] fun _ h0=>jOR 4 rfl<|retD h0 0 [I (min (min (min (timesV x.lo y.lo) (timesV x.lo y.hi)) (timesV x.hi y.lo)) (timesV x.hi y.hi)),I (max (max (max (timesV x.lo y.lo) (timesV x.lo y.hi)) (timesV x.hi y.lo)) (timesV x.hi y.hi))] (.bool false) ?_
  have q0:=(h0.drops [0,0,0])
  have s0:prodOK x y=false:=by simp [prodOK, *]
  exact ⟨by rw [s0];rfl,q0⟩
 refine pu2<|sTk a0 0 [I (min (min (min (timesV x.lo y.lo) (timesV x.lo y.hi)) (timesV x.hi y.lo)) (timesV x.hi y.hi)),I (max (max (max (timesV x.lo y.lo) (timesV x.lo y.hi)) (timesV x.hi y.lo)) (timesV x.hi y.hi))] fun _ i0=>jOR 4 rfl<|retD i0 0 [I (min (min (min (timesV x.lo y.lo) (timesV x.lo y.hi)) (timesV x.hi y.lo)) (timesV x.hi y.hi)),I (max (max (max (timesV x.lo y.lo) (timesV x.lo y.hi)) (timesV x.hi y.lo)) (timesV x.hi y.hi))] (.bool (timesOK x.hi y.hi)) ?_
 have r0:=(i0.drops [0,0,0])
 have s0:prodOK x y=(timesOK x.hi y.hi):=by simp [prodOK, *]
 exact ⟨by rw [s0];rfl,r0⟩
def nextV (o:POp) (x y:Sp) (a b:Int):Sp:=
  if o.code=0 then ⟨0,a⟩ else if o.code=1 then ⟨0,b⟩ else if o.code=2 then ⟨o.arg,o.arg⟩ else if o.code=3 then ⟨x.lo+y.lo,x.hi+y.hi⟩ else if o.code=4 then ⟨x.lo-y.hi,x.hi-y.lo⟩
  else if o.code=5 then ⟨prodLo x y,prodHi x y⟩ else if o.code=6 then ⟨min x.lo y.lo,min x.hi y.hi⟩ else if o.code=7 then ⟨max x.lo y.lo,max x.hi y.hi⟩ else if o.code=8 then ⟨0,max (x.hi-y.lo) (y.hi-x.lo)⟩
  else if o.code=9 then ⟨-(max (x.lo.natAbs:Int) x.hi.natAbs),max (x.lo.natAbs:Int) x.hi.natAbs⟩ else if o.code=10 then ⟨shiftV x.lo o.arg,shiftV x.hi o.arg⟩ else ⟨0,max (x.lo.natAbs:Int) x.hi.natAbs⟩
def nextB (o:POp) (x y:Sp):Bool:=if o.code=5 then prodOK x y else true
def nextOK (o:POp) (x y:Sp) (a b:Int):Prop:=nextB o x y=true/\(-17592186044416<=(nextV o x y a b).lo/\(nextV o x y a b).lo<=17592186044416)/\-17592186044416<=(nextV o x y a b).hi/\(nextV o x y a b).hi<=17592186044416
instance (o:POp) (x y:Sp) (a b:Int):Decidable (nextOK o x y a b):=by unfold nextOK;infer_instance
theorem r14_next (o:POp) (x:Sp) (y:Sp) (a:Int) (b:Int) (hx:accS x) (hy:accS y) (hab:(1<=a/\a<=4294967296)/\1<=b/\b<=4294967296) (ho:argP o) (hS:Sat W w (H::F)):
  Ro prog 199 #[.agg #[I o.code,I o.arg], .agg #[I x.lo,I x.hi], .agg #[I y.lo,I y.hi],I a,I b] (.tuple #[.agg #[I ((nextV o x y a b).lo),I ((nextV o x y a b).hi)], .bool (decide (nextOK o x y a b))]) W w (H::F):=by
 have F0:=hx.1;have G0:=hx.2;have H0:=hy.1;have I0:=hy.2
 refine callsK 148 func199 rfl<|jCO 2 rfl<|sBx hS [I o.code,I o.arg] fun _ _ l0=>sBx l0 [I x.lo,I x.hi] fun _ _ m0=>sBx m0 [I y.lo,I y.hi] fun _ _ n0=>sAlloc n0 zeroValue196 fun _ _ o0=>jOC 4 rfl<|drawF o0 [2,5] (fb 1 2 0 1<|fb 4 2 1 1<|fn) [0,3,1,4,2,5,6,7] fun _ p0=>wV 2<|wL 0<|wL 1<|wO rfl<|cS (r14_abs x.lo (od) p0.flat) fun _ d0=>nZ d0 [2]<|wO rfl<|cS (r14_abs x.hi (od) d0.flat) fun _ q0=>nA<|wY (I (max (x.lo.natAbs:Int) (x.hi.natAbs:Int))) rfl (fun w _=>Y_max2 (x.lo.natAbs:Int) (x.hi.natAbs:Int) rfl rfl kr kr)<|wV 1<|wN<|jXO 4 rfl<|sAlloc q0 zeroValue196 fun r0 _ s0=>sTk s0 0 [I 0,I 0] fun _ a0=>jOC 3 rfl<|cutF a0 1 [10,13] (γ:=Int×Int×Bool) (fun ⟨B0,A0,vb⟩ R=>⟨[(14, .bool vb)],[(r0, .cells #[I B0,I A0] 196 (0,0))]::R,0,(nextV o x y a b=⟨B0,A0⟩)/\(nextB o x y=vb)⟩) ?_ ?_
 rotate_left
 ·rintro ⟨B0,A0,vb⟩ ρ _ ⟨e0,hv,E0⟩
  refine jCC 1 rfl<|bC (vb=true) (fun f0=>drawF e0 [5,10,12] (fb 0 0 0 2<|fn) [1,2,3,0,4,5,6,7,8,9,10,11,12,13] fun _ c0=>wV 2<|wFix 138 _ false (Bool.eq_false_iff.2 f0)<|wV 1<|wG 0 2<|wV 1<|wO rfl<|pu1<|nZ c0 [0]<|wV 4<|wO rfl<|pu1<|nZ c0 [0]<|wV 1<|wO rfl<|sTk c0 1 [I B0,I A0] fun _ g0=>nA<|wV 1<|wN<|jXR 2 rfl<|retD g0 1 [I B0,I A0] (.bool false)<|(by have t0:=(g0.drops [0,0,0,0,0]);have C0:nextOK o x y a b↔(vb=true/\(-17592186044416<=B0/\B0<=17592186044416)/\-17592186044416<=A0/\A0<=17592186044416):=(by unfold nextOK;rw [hv,E0]);have D0:decide (nextOK o x y a b)=false:=decide_eq_false (fun h=>by obtain ⟨h3,h4,h5⟩:=C0.1 h;first|contradiction|omega);exact ⟨by rw [D0,hv];rfl,t0⟩)) fun f0=>drawF e0 [5,9,10,12] (fb 0 0 0 2<|fb 4 0 0 1<|fn) [1,2,3,0,4,5,6,7,8,9,10,11,12,13] fun _ u0=>wV 2<|wFix 138 _ true f0<|wV 1<|wG 0 2<|wL 2<|wO rfl<|gY<|cS (r7_acc B0 u0.flat) fun _ b0=>nZ b0 [0]<|wV 2 ?_
  refine bC ((-17592186044416:Int)<=B0/\B0<=(17592186044416:Int)) (fun h0=>wFix 143 _ false (decide_eq_false h0)<|wV 1<|wO rfl<|pu1<|nZ b0 [0]<|wO rfl<|pu1<|nZ b0 [0]<|wV 1<|wO rfl<|sTk b0 1 [I B0,I A0] fun _ i0=>nA<|wV 1<|wN<|jXR 2 rfl<|retD i0 1 [I B0,I A0] (.bool false)<|(by have v0:=(i0.drops [0,0,0,0,0]);have C0:nextOK o x y a b↔(vb=true/\(-17592186044416<=B0/\B0<=17592186044416)/\-17592186044416<=A0/\A0<=17592186044416):=(by unfold nextOK;rw [hv,E0]);have D0:decide (nextOK o x y a b)=false:=decide_eq_false (fun h=>by obtain ⟨h3,h4,h5⟩:=C0.1 h;first|contradiction|omega);exact ⟨by rw [D0,hv];rfl,v0⟩)) fun h0=>wFix 143 _ true (decide_eq_true h0)<|wV 1<|wO rfl<|gY<|sM b0 0 1 (I A0)<|nZ b0 [0]<|wO rfl<|gY<|cS (r7_acc A0 b0.flat) fun _ j0=>nZ j0 [0]<|wV 1<|wO rfl<|sTk j0 1 [I B0,I A0] fun _ k0=>nA<|wV 1<|wN<|jXR 2 rfl<|retD k0 1 [I B0,I A0] (.bool (decide ((-17592186044416:Int)<=A0/\A0<=(17592186044416:Int)))) ?_
  have w0:=(k0.drops [0,0,0,0,0])
  have C0:nextOK o x y a b↔(vb=true/\(-17592186044416<=B0/\B0<=17592186044416)/\-17592186044416<=A0/\A0<=17592186044416):=by unfold nextOK;rw [hv,E0]
  have D0:decide (nextOK o x y a b)=decide ((-17592186044416:Int)<=A0/\A0<=(17592186044416:Int)):=decide_eq_decide.2 (C0.trans ⟨fun h=>h.2.2,fun h=>⟨by assumption,om,h⟩⟩)
  exact ⟨by rw [D0,hv];rfl,w0⟩
 refine gCC a0 13 [4] rfl<|cE o.code 0 (fun x0=>jCO 3 rfl<|sTk a0 0 [I 0,I a] fun _ y0=>jOI 2 rfl<|⟨(0,a,true),alB,y0,(by unfold nextV;rw [if_pos om]<;>rfl),(by unfold nextB;rw [if_neg om])⟩) fun x0=>jCC 6 rfl<|cE o.code 1 (fun z0=>jCO 3 rfl<|sTk a0 0 [I 0,I b] fun _ a1=>jOI 2 rfl<|⟨(0,b,true),alB,a1,(by unfold nextV;rw [if_neg om,if_pos om]<;>rfl),(by unfold nextB;rw [if_neg om])⟩) fun z0=>jCC 6 rfl<|cE o.code 2 (fun b1=>gCO a0 6 [4,4] rfl<|sTk a0 0 [I o.arg,I o.arg] fun _ c1=>jOI 2 rfl<|⟨(o.arg,o.arg,true),alB,c1,(by unfold nextV;rw [if_neg om,if_neg om,if_pos om]<;>rfl),(by unfold nextB;rw [if_neg om])⟩) fun b1=>jCC 6 rfl<|cE o.code 3 (fun d1=>gCO a0 5 [3,2] rfl<|sAdd x.lo y.lo<|gOO a0 4 [3,2] rfl<|sAdd x.hi y.hi<|pu1<|sTk a0 0 [I (x.lo+y.lo),I (x.hi+y.hi)] fun _ e1=>jOI 2 rfl<|⟨((x.lo+y.lo),(x.hi+y.hi),true),alB,e1,(by unfold nextV;rw [if_neg om,if_neg om,if_neg om,if_pos om]<;>rfl),(by unfold nextB;rw [if_neg om])⟩) fun d1=>jCC 6 rfl<|cE o.code 4 (fun f1=>gCO a0 5 [3,2] rfl<|sSub x.lo y.hi<|gOO a0 4 [3,2] rfl<|sSub x.hi y.lo<|pu1<|sTk a0 0 [I (x.lo-y.hi),I (x.hi-y.lo)] fun _ g1=>jOI 2 rfl<|⟨((x.lo-y.hi),(x.hi-y.lo),true),alB,g1,(by unfold nextV;rw [if_neg om,if_neg om,if_neg om,if_neg om,if_pos om]<;>rfl),(by unfold nextB;rw [if_neg om])⟩) fun f1=>?_
 refine jCC 6 rfl<|cE o.code 5 (fun h1=>gCO a0 3 [203,202] rfl<|cS (r14_product x y (by unfold accS;first|assumption|omega) (by unfold accS;first|assumption|omega) a0.flat) fun _ i1=>pu3<|sTk i1 0 [I (prodLo x y),I (prodHi x y)] fun _ j1=>jOI 3 rfl<|⟨((prodLo x y),(prodHi x y),(prodOK x y)),alB,j1,(by unfold nextV;rw [if_neg om,if_neg om,if_neg om,if_neg om,if_neg om,if_pos om]<;>rfl),(by unfold nextB;rw [if_pos om])⟩) fun h1=>jCC 6 rfl<|cE o.code 6 (fun k1=>gCO a0 5 [3,2] rfl<|stepY (I (min x.lo y.lo)) rfl rfl (Y_min2 x.lo y.lo rfl rfl kr kr)<|gOO a0 4 [3,2] rfl<|stepY (I (min x.hi y.hi)) rfl rfl (Y_min2 x.hi y.hi rfl rfl kr kr)<|pu1<|sTk a0 0 [I (min x.lo y.lo),I (min x.hi y.hi)] fun _ l1=>jOI 2 rfl<|⟨((min x.lo y.lo),(min x.hi y.hi),true),alB,l1,(by unfold nextV;rw [if_neg om,if_neg om,if_neg om,if_neg om,if_neg om,if_neg om,if_pos om]<;>rfl),(by unfold nextB;rw [if_neg om])⟩) fun k1=>jCC 6 rfl<|cE o.code 7 (fun m1=>gCO a0 5 [3,2] rfl<|stepY (I (max x.lo y.lo)) rfl rfl (Y_max2 x.lo y.lo rfl rfl kr kr)<|gOO a0 4 [3,2] rfl<|stepY (I (max x.hi y.hi)) rfl rfl (Y_max2 x.hi y.hi rfl rfl kr kr)<|pu1<|sTk a0 0 [I (max x.lo y.lo),I (max x.hi y.hi)] fun _ n1=>jOI 2 rfl<|⟨((max x.lo y.lo),(max x.hi y.hi),true),alB,n1,(by unfold nextV;rw [if_neg om,if_neg om,if_neg om,if_neg om,if_neg om,if_neg om,if_neg om,if_pos om]<;>rfl),(by unfold nextB;rw [if_neg om])⟩) fun m1=>?_
 exact jCC 6 rfl<|cE o.code 8 (fun o1=>gCO a0 5 [3,2] rfl<|sSub x.hi y.lo<|gOO a0 4 [2,3] rfl<|sSub y.hi x.lo<|stepY (I (max (x.hi-y.lo) (y.hi-x.lo))) rfl rfl (Y_max2 (x.hi-y.lo) (y.hi-x.lo) rfl rfl kr kr)<|pu1<|sTk a0 0 [I 0,I (max (x.hi-y.lo) (y.hi-x.lo))] fun _ q1=>jOI 2 rfl<|⟨(0,(max (x.hi-y.lo) (y.hi-x.lo)),true),alB,q1,(by unfold nextV;rw [if_neg om,if_neg om,if_neg om,if_neg om,if_neg om,if_neg om,if_neg om,if_neg om,if_pos om]<;>rfl),(by unfold nextB;rw [if_neg om])⟩) fun o1=>jCC 6 rfl<|cE o.code 9 (fun r1=>jCO 2 rfl<|stepY (I (-(max (x.lo.natAbs:Int) (x.hi.natAbs:Int)))) rfl rfl (Y_neg (max (x.lo.natAbs:Int) (x.hi.natAbs:Int)) rfl kr)<|pu2<|sTk a0 0 [I (-(max (x.lo.natAbs:Int) (x.hi.natAbs:Int))),I (max (x.lo.natAbs:Int) (x.hi.natAbs:Int))] fun _ s1=>jOI 2 rfl<|⟨((-(max (x.lo.natAbs:Int) (x.hi.natAbs:Int))),(max (x.lo.natAbs:Int) (x.hi.natAbs:Int)),true),alB,s1,(by unfold nextV;rw [if_neg om,if_neg om,if_neg om,if_neg om,if_neg om,if_neg om,if_neg om,if_neg om,if_neg om,if_pos om]<;>rfl),(by unfold nextB;rw [if_neg om])⟩) fun r1=>jCC 6 rfl<|CE o.code 10 (fun t1=>jCO 3 rfl<|sTk a0 0 [I 0,I (max (x.lo.natAbs:Int) (x.hi.natAbs:Int))] fun _ u1=>jOI 2 rfl<|⟨(0,(max (x.lo.natAbs:Int) (x.hi.natAbs:Int)),true),alB,u1,(by unfold nextV;rw [if_neg om,if_neg om,if_neg om,if_neg om,if_neg om,if_neg om,if_neg om,if_neg om,if_neg om,if_neg om,if_neg om]<;>rfl),(by unfold nextB;rw [if_neg om])⟩) fun t1=>gCO a0 7 [3,3,4] rfl<|cS (r7_span x.lo x.hi o.arg a0.flat) fun _ v1=>pu4<|sT v1 0 0 (I (shiftV x.lo o.arg)) [I (shiftV x.lo o.arg)] #[I (shiftV x.lo o.arg),I 0] sizeOf3 fun _ w1=>pu1<|sT w1 0 1 (I (shiftV x.hi o.arg)) [I (shiftV x.hi o.arg)] #[I (shiftV x.lo o.arg),I (shiftV x.hi o.arg)] sizeOf3 fun _ x1=>jOI 2 rfl<|⟨((shiftV x.lo o.arg),(shiftV x.hi o.arg),true),alB,x1,(by unfold nextV;rw [if_neg om,if_neg om,if_neg om,if_neg om,if_neg om,if_neg om,if_neg om,if_neg om,if_neg om,if_neg om,if_pos om]<;>rfl),(by unfold nextB;rw [if_neg om])⟩
theorem opsGo_zero {two:Bool} {o:POp} {l:List POp} {h:Int} (e:opsGo two (o::l) h=0):¬opBad two o h/\argP o/\opsGo two l (h+(1-takesV o.code))=0:=by
  unfold opsGo at e
  split at e
  · omega
  · split at e
    · exact ⟨by assumption,by assumption,e⟩
    · omega
theorem opsCode_go {l:List POp} {two:Bool} (h:opsCode l two=0):opsGo two l 0=0/\0<l.length/\l.length<=32:=by
  unfold opsCode at h
  split at h
  · omega
  · exact ⟨h,by omega,by omega⟩
def ivY (o:POp) (st:List Sp):Sp:=if takesV o.code=2 then st[st.length-1]?.getD (⟨0,0⟩:Sp) else ⟨0,0⟩
def ivX (o:POp) (st:List Sp):Sp:=if 0<takesV o.code then st[st.length-(takesV o.code).toNat]?.getD (⟨0,0⟩:Sp) else ⟨0,0⟩
def ivGo (a b:Int):List POp->List Sp->Option (List Sp)
  |[],st=>some st
  |o::l,st=>if nextOK o (ivX o st) (ivY o st) a b then ivGo a b l (st.take (st.length-(takesV o.code).toNat)++[nextV o (ivX o st) (ivY o st) a b]) else none
def ivRes (l:List POp) (a b:Int):Int×Int×Int:=
  if opsCode l true=0 then (if (1<=a/\a<=4294967296)/\1<=b/\b<=4294967296 then (match ivGo a b l [] with|some st=>((st[0]?.getD (⟨0,0⟩:Sp)).lo,(st[0]?.getD (⟨0,0⟩:Sp)).hi,0)|none=>(0,0,11)) else (0,0,2)) else (0,0,opsCode l true)
theorem ivGo_ok {a b:Int} {o:POp} {l:List POp} {st m:List Sp} {x y:Sp} (hy:ivY o st=y) (hx:ivX o st=x) (hok:nextOK o x y a b) (hm:m=st.take (st.length-(takesV o.code).toNat)):ivGo a b (o::l) st=ivGo a b l (m++[nextV o x y a b]):=by
  subst hy hx hm;rw [ivGo,if_pos hok]
theorem ivGo_bad {a b:Int} {o:POp} {l:List POp} {st:List Sp} {x y:Sp} (hy:ivY o st=y) (hx:ivX o st=x) (hok:¬nextOK o x y a b):ivGo a b (o::l) st=none:=by
  subst hy hx;rw [ivGo,if_neg hok]
def pwCode (l:List POp) (two:Bool) (a b out:Int):Int:=if opsCode l two=0 then (if 1<=out/\out<=4294967296 then (ivRes l a (if two=true then b else 1)).2.2 else 2) else opsCode l two
theorem r14_interval (ax:Option Addr) (nx kx:Nat) (x:List POp) (a:Int) (b:Int) (hx:RdT encPOp 2 [H] ax nx kx x) (hS:Sat W w (H::F)):
  Ro prog 180 #[.slice ax nx kx,I a,I b] (.tuple #[I ((ivRes x a b).1),I ((ivRes x a b).2.1),I ((ivRes x a b).2.2)]) W w (H::F):=by
 have U0:=hx.ll
 refine callsK 92 func180 rfl<|jCO 11 rfl<|cS (r14_valid ax nx kx x true (hx.fl 0) hS.flat) fun _ p0=>jOC 9 rfl<|CN (opsCode x true) 0 (fun z0=>jCR 10 rfl<|retT [I 0,I 0,I (opsCode x true)]<|⟨(by unfold ivRes;exact ssp),p0⟩) fun z0=>jCO 6 rfl<|cS (r9_value a p0.flat) fun _ q0=>pu2<|SDn 25 ((1:Int)<=a/\a<=(4294967296:Int)) (fun a1=>jOR 16 rfl<|retT [I 0,I 0,I 2]<|⟨(by unfold ivRes;exact ssp),q0⟩) fun a1=>pu1<|gY<|cS (r9_value b q0.flat) fun _ r0=>jOC 4 rfl<|CDn ((1:Int)<=b/\b<=(4294967296:Int)) (fun b1=>jCR 9 rfl<|retT [I 0,I 0,I 2]<|⟨(by unfold ivRes;exact ssp),r0⟩) fun b1=>jCC 9 rfl ?_
 obtain ⟨c1,d1,X0⟩:=opsCode_go (l:=x) (two:=true) om
 refine jCC 5 rfl<|loopF [0,1,2] (γ:=Nat×(List Sp)×SO) (fun ⟨i,zs,G0,A0,F0,Q0⟩ R=>⟨[(11,I (i:Int)),(10, .slice G0 A0 F0)],Q0::R,nx-i,i<=nx/\(ivGo a b x []=ivGo a b (x.drop i) zs)/\(opsGo true (x.drop i) (zs.length:Int)=0)/\(∀z∈zs,accS z)/\(zs.length<=i)/\OwnT encSp 196 2 G0 A0 F0 zs Q0⟩) (0,[],none,0,0,[]) ⟨(Sat.nilc r0),om,by rfl,(opsCode_go (l:=x) (two:=true) om).1,(by intro z hz;cases hz),by simp,(OwnT.nil (enc:=encSp) (E:=196) (sz:=2) fR)⟩ ?_
 rintro ⟨i,zs,G0,A0,F0,Q0⟩ ρ _ ⟨i0,hi,hG,hH,J0,B1,B0⟩
 have S0:=B0.ll
 refine jCC 9 rfl<|CD ((i:Int)<(nx:Int)) (fun e1=>jCC 6 rfl<|(by have hh:opsGo true (x.drop i) zs.length=0:=hH;rw [List.drop_of_length_le om] at hh;have A1:zs.length=1:=(by unfold opsGo at hh;split at hh<;>omega);obtain ⟨f0,z2,a3,j0,k0,l0,b3⟩:=OwnT.elem B0 0;change _[0]?=_ at j0;change PtR _ _ (_+0*_) _ at k0;change ElemAt _ _ _ _ _ (_+0*_) at l0;have H0:accS f0:=J0 f0 (List.mem_of_getElem? j0);refine drawF i0 [] (fq 3 0 (k0.up 0 rfl)<|fq 7 1 (k0.up 0 rfl)<|fn) [0,1,2,4,5,6,3,8,7,9,10] fun _ f1=>wV 1<|wI l0<|wV 2<|wI l0<|wV 1<|wL 0<|wV 1<|wL 1<|wV 2<|wN<|jXR 2 rfl<|retT [I f0.lo,I f0.hi,I 0] ?_;have g1:=(f1.dropAt 0 rfl);have K0:opsCode x true=0:=(by omega);have E0:ivRes x a b=(match ivGo a b x [] with|some st=>((st[0]?.getD (⟨0,0⟩:Sp)).lo,(st[0]?.getD (⟨0,0⟩:Sp)).hi,0)|none=>(0,0,11)):=(by unfold ivRes;rw [if_pos K0,if_pos om]);have R0:ivGo a b x []=some zs:=(by rw [hG,List.drop_of_length_le om];rfl);have Y0:zs[0]?=some f0:=j0;exact ⟨by rw [E0,R0];dsimp only;rw [Y0];rfl,g1⟩)) fun e1=>?_
 refine jCO 8 rfl<|sIN hx i fun a0 _ _ b0 h1=>?_
 obtain ⟨V0,Z0,T0⟩:=opsGo_zero (by rw [<-drop_at b0];exact hH)
 have L0:=takesV_bd a0.code;have W0:takesV a0.code<=zs.length:=by unfold opBad at V0;omega
 refine pu1<|sMp i0 (h1.up 1 rfl) 0 (I a0.code)<|cS (r14_takes a0.code i0.flat) fun _ i1=>?_
 have f3:0<=(takesV a0.code)/\(takesV a0.code)<=2:=takesV_bd _
 refine jOO 7 rfl<|sAlloc i1 zeroValue196 fun j1 _ k1=>sAlloc k1 zeroValue196 fun s0 _ l1=>sTk l1 1 [I 0,I 0] fun _ m1=>sTk m1 0 [I 0,I 0] fun _ g0=>jOC 2 rfl<|cutF g0 1 [0,1,2,11,10,12,13,14] (γ:=Sp) (fun y9 R=>⟨[],[(s0, .cells #[I y9.lo,I y9.hi] 196 (0,0))]::R,0,ivY a0 zs=y9/\accS y9⟩) ?_ ?_
 ·exact jCC 6 rfl<|CE (takesV a0.code) 2 (fun n1=>jCI 1 rfl<|⟨(⟨0,0⟩:Sp),alB,g0,(by unfold ivY;rw [if_neg om]),(by unfold accS;dsimp only;omega)⟩) fun n1=>jCO 4 rfl<|sSub (A0:Int) 1<|sIO B0 ((A0:Int)-1) (((A0:Int)-1)).toNat fun c0 _ _ t0 o1 _=>(by have C0:accS c0:=J0 c0 (List.mem_of_getElem? t0);exact sMA g0 (o1.up 2 rfl) 0 [I c0.lo,I c0.hi]<|sTk g0 0 [I c0.lo,I c0.hi] fun _ q1=>jOI 1 rfl<|⟨c0,alB,q1,(by unfold ivY;rw [if_pos om];have e:=t0;rw [(by omega:zs.length-1=((A0:Int)-1).toNat),e]<;>rfl),C0⟩)
 rintro y9 ρ _ ⟨h0,P0,N0⟩
 refine cutF h0 2 [0,1,2,11,10,12,13,14] (γ:=Sp) (fun x9 R=>⟨[],[(s0, .cells #[I y9.lo,I y9.hi] 196 (0,0))]::[(j1, .cells #[I x9.lo,I x9.hi] 196 (0,0))]::R,0,ivX a0 zs=x9/\accS x9⟩) ?_ ?_
 ·exact jCC 6 rfl<|CD ((takesV a0.code)>0) (fun r1=>jCI 1 rfl<|⟨(⟨0,0⟩:Sp),alB,h0,(by unfold ivX;rw [if_neg om]),(by unfold accS;dsimp only;omega)⟩) fun r1=>jCO 5 rfl<|sSub (A0:Int) (takesV a0.code)<|sIO B0 ((A0:Int)-(takesV a0.code)) (((A0:Int)-(takesV a0.code))).toNat fun d0 _ _ u0 s1 _=>(by have D0:accS d0:=J0 d0 (List.mem_of_getElem? u0);exact sMA h0 (s1.up 2 rfl) 0 [I d0.lo,I d0.hi]<|sTk h0 1 [I d0.lo,I d0.hi] fun _ t1=>jOI 1 rfl<|⟨d0,alB,t1,(by unfold ivX;rw [if_pos om];have e:=u0;rw [(by omega:zs.length-(takesV a0.code).toNat=((A0:Int)-(takesV a0.code)).toNat),e]<;>rfl),D0⟩)
 rintro x9 ρ _ ⟨u1,O0,M0⟩
 refine jCC 1 rfl ?_
 obtain ⟨v1,u3,v3,v0,m0,w1⟩:=RdT.eN hx i
 obtain rfl:a0=v1:=Option.some.inj (b0.symm.trans v0)
 refine drawG u1 [8,12,13] (fp 3 (m0.up 3 rfl)<|fb 4 1 0 2<|fb 5 0 0 2<|fn) (pS [0,1,2,6,7,3,4,5]<| .fk 8 12 (pS [9,10,11]<| .ef 12<| .ef 13<|pS [14]<| .fin) (.ef 8<|pS [9,10,11]<| .ef 13<|pS [14]<| .fin)) fun _ w0=>qV 2<|qI w1<|qV 2<|qG 0 2<|qG 2 2<|qG 4 2<|qF ?_ ?_
 ·refine qO rfl<|cS (r14_next a0 x9 y9 a b (by first|assumption|(unfold accS;dsimp only;omega)) (by first|assumption|(unfold accS;dsimp only;omega)) om ‹_› w0.flat) fun _ x1=>nA<|qV 1<|qV 1<|qV 1<|qO rfl<|sAlloc x1 zeroValue196 fun _ _ y1=>nA<|qO rfl<|sTk y1 0 [I ((nextV a0 x9 y9 a b).lo),I ((nextV a0 x9 y9 a b).hi)] fun _ x0=>nA<|qV 1<|qN<|jXC 8 rfl<|CDn (nextOK a0 x9 y9 a b) (fun n0=>jCR 14 rfl<|retT [I 0,I 0,I 11]<|(by have z1:=(x0.drops [0,0,0,0]);have K0:opsCode x true=0:=(by omega);have E0:ivRes x a b=(match ivGo a b x [] with|some st=>((st[0]?.getD (⟨0,0⟩:Sp)).lo,(st[0]?.getD (⟨0,0⟩:Sp)).hi,0)|none=>(0,0,11)):=(by unfold ivRes;rw [if_pos K0,if_pos om]);have I0:ivGo a b x []=none:=(by rw [hG,drop_at b0];exact ivGo_bad (x:=x9) (y:=y9) P0 O0 ‹_›);exact ⟨by rw [E0,I0];rfl,z1⟩)) fun n0=>?_
  refine jCC 2 rfl<|drawF x0 [7,8] (fb 6 0 0 2<|fn) [0,1,2,3,4,5,6,7,8,9] fun _ a2=>wV 4<|wSub (A0:Int) (takesV a0.code)<|wY (.slice (partAddr G0 F0 0 2) ((((A0:Int)-(takesV a0.code))).toNat-0) (F0-0)) rfl (fun w _=>Y_sl (a:=G0) (len:=A0) (cap:=F0) none (some ((A0:Int)-(takesV a0.code))) 0 ((((A0:Int)-(takesV a0.code))).toNat) runUnderlying194 sizeOf196 rfl ⟨om,om⟩ om om)<|wG 0 2<|wO rfl<|sBK a2 #[I ((nextV a0 x9 y9 a b).lo),I ((nextV a0 x9 y9 a b).hi)] 196 fun _ _ c2=>nA<|wO rfl<|sApp (nb:=16) c2 (B0.part (lo:=0) (hi:=(((A0:Int)-(takesV a0.code))).toNat) om om) 4 (RdT.blk (enc:=encSp) (sz:=2) (xs:=[(⟨(nextV a0 x9 y9 a b).lo,(nextV a0 x9 y9 a b).hi⟩:Sp)]) fR 1 0 rfl rfl rfl om) underlying194 (i:=Tryz.t196) kr fR fun d2 e2 f2 _ g2 h2=>nA<|wV 1<|wN<|jXO 4 rfl<|sAdd (i:Int) 1<|jOI 2 rfl ?_
  exact ⟨(i+1,(((zs.drop 0).take ((((A0:Int)-(takesV a0.code))).toNat-0))++[(⟨(nextV a0 x9 y9 a b).lo,(nextV a0 x9 y9 a b).hi⟩:Sp)]),d2,(((((A0:Int)-(takesV a0.code))).toNat-0)+1),e2,f2),od,alB,(h2.drops [0,0,0,0]),om,by rw [hG,drop_at b0,ivGo_ok (x:=x9) (y:=y9) P0 O0 ‹_› (m:=((zs.drop 0).take ((((A0:Int)-(takesV a0.code))).toNat-0))) (by rw [List.drop_zero];congr 1;omega)]<;>rfl,by simp only [List.length_append,List.length_take,List.length_drop,List.length_cons,List.length_nil];rw [show (((min _ _+(0+1):Nat)):Int)=(zs.length:Int)+(1-takesV a0.code) from by omega];exact T0,(by
    intro z hz
    rcases List.mem_append.1 hz with h|h
    ·exact J0 z (List.mem_of_mem_drop (List.mem_of_mem_take h))
    ·simp only [List.mem_singleton] at h;subst h;exact ⟨n0.2.1,n0.2.2⟩),by simp;omega,g2⟩
 refine qO rfl<|sAlloc w0 zeroValue196 fun _ _ e0=>nilO ⟨⟨.inr ((m0.up 4 rfl).cell e0 (k:=0) rfl), .inr ((m0.up 4 rfl).cell e0 (k:=1) rfl),cI e0 2,cI e0 2,cI e0 1,cI e0 1,trivial⟩,?_⟩
 refine qO rfl<|cS (r14_next a0 x9 y9 a b (by first|assumption|(unfold accS;dsimp only;omega)) (by first|assumption|(unfold accS;dsimp only;omega)) om ‹_› e0.flat) fun _ j2=>nA<|qV 1<|qV 1<|qV 1<|qO rfl<|sTk j2 0 [I ((nextV a0 x9 y9 a b).lo),I ((nextV a0 x9 y9 a b).hi)] fun _ y0=>nA<|qV 1<|qN<|jXC 8 rfl<|CDn (nextOK a0 x9 y9 a b) (fun o0=>jCR 14 rfl<|retT [I 0,I 0,I 11]<|(by have k2:=(y0.drops [0,0,0,0]);have K0:opsCode x true=0:=(by omega);have E0:ivRes x a b=(match ivGo a b x [] with|some st=>((st[0]?.getD (⟨0,0⟩:Sp)).lo,(st[0]?.getD (⟨0,0⟩:Sp)).hi,0)|none=>(0,0,11)):=(by unfold ivRes;rw [if_pos K0,if_pos om]);have I0:ivGo a b x []=none:=(by rw [hG,drop_at b0];exact ivGo_bad (x:=x9) (y:=y9) P0 O0 ‹_›);exact ⟨by rw [E0,I0];rfl,k2⟩)) fun o0=>jCC 2 rfl<|drawF y0 [7,8] (fb 6 0 0 2<|fn) [0,1,2,3,4,5,6,7,8,9] fun _ l2=>wV 4<|wSub (A0:Int) (takesV a0.code)<|wY (.slice (partAddr G0 F0 0 2) ((((A0:Int)-(takesV a0.code))).toNat-0) (F0-0)) rfl (fun w _=>Y_sl (a:=G0) (len:=A0) (cap:=F0) none (some ((A0:Int)-(takesV a0.code))) 0 ((((A0:Int)-(takesV a0.code))).toNat) runUnderlying194 sizeOf196 rfl ⟨om,om⟩ om om)<|wG 0 2<|wO rfl<|sBK l2 #[I ((nextV a0 x9 y9 a b).lo),I ((nextV a0 x9 y9 a b).hi)] 196 fun _ _ n2=>nA<|wO rfl<|sApp (nb:=16) n2 (B0.part (lo:=0) (hi:=(((A0:Int)-(takesV a0.code))).toNat) om om) 4 (RdT.blk (enc:=encSp) (sz:=2) (xs:=[(⟨(nextV a0 x9 y9 a b).lo,(nextV a0 x9 y9 a b).hi⟩:Sp)]) fR 1 0 rfl rfl rfl om) underlying194 (i:=Tryz.t196) kr fR fun o2 q2 r2 _ s2 t2=>nA<|wV 1<|wN<|jXO 4 rfl<|sAdd (i:Int) 1<|jOI 2 rfl ?_
 exact ⟨(i+1,(((zs.drop 0).take ((((A0:Int)-(takesV a0.code))).toNat-0))++[(⟨(nextV a0 x9 y9 a b).lo,(nextV a0 x9 y9 a b).hi⟩:Sp)]),o2,(((((A0:Int)-(takesV a0.code))).toNat-0)+1),q2,r2),od,alB,(t2.drops [0,0,0,0]),om,by rw [hG,drop_at b0,ivGo_ok (x:=x9) (y:=y9) P0 O0 ‹_› (m:=((zs.drop 0).take ((((A0:Int)-(takesV a0.code))).toNat-0))) (by rw [List.drop_zero];congr 1;omega)]<;>rfl,by simp only [List.length_append,List.length_take,List.length_drop,List.length_cons,List.length_nil];rw [show (((min _ _+(0+1):Nat)):Int)=(zs.length:Int)+(1-takesV a0.code) from by omega];exact T0,(by
   intro z hz
   rcases List.mem_append.1 hz with h|h
   ·exact J0 z (List.mem_of_mem_drop (List.mem_of_mem_take h))
   ·simp only [List.mem_singleton] at h;subst h;exact ⟨o0.2.1,o0.2.2⟩),by simp;omega,s2⟩
theorem r14_check (ax:Option Addr) (nx kx:Nat) (x:List POp) (two:Bool) (a:Int) (b:Int) (out:Int) (hx:RdT encPOp 2 [H] ax nx kx x) (hS:Sat W w (H::F)):
  Ro prog 146 #[.slice ax nx kx, .bool two,I a,I b,I out] (I (pwCode x two a b out)) W w (H::F):=by
 have h0:=hx.ll
 exact callsK 35 func146 rfl<|jCO 10 rfl<|cS (r14_valid ax nx kx x two (hx.fl 0) hS.flat) fun _ b0=>jOC 9 rfl<|CN (opsCode x two) 0 (fun c0=>jCR 8 rfl<|retT [I (opsCode x two)]<|⟨congrArg (fun c=>Ending.returned (I c)) (by unfold pwCode;(repeat' split)<;>first|rfl|omega|contradiction|(exfalso;omega)|(exfalso;simp_all;done)|(simp_all;done)),b0⟩) fun c0=>jCO 6 rfl<|cS (r9_value out b0.flat) fun _ a0=>jOC 3 rfl<|CDn ((1:Int)<=out/\out<=(4294967296:Int)) (fun d0=>jCR 7 rfl<|retT [I 2]<|⟨congrArg (fun c=>Ending.returned (I c)) (by unfold pwCode;(repeat' split)<;>first|rfl|omega|contradiction|(exfalso;omega)|(exfalso;simp_all;done)|(simp_all;done)),a0⟩) fun d0=>jCC 9 rfl<|cBn two (fun e0=>jCO 7 rfl<|cS (r14_interval ax nx kx x a b (hx.fl 0) a0.flat) fun _ f0=>jOR 16 rfl<|retT [I ((ivRes x a b).2.2)]<|⟨congrArg (fun c=>Ending.returned (I c)) (by unfold pwCode;(repeat' split)<;>first|rfl|omega|contradiction|(exfalso;omega)|(exfalso;simp_all;done)|(simp_all;done)),f0⟩) fun e0=>jCO 9 rfl<|cS (r14_interval ax nx kx x a 1 (hx.fl 0) a0.flat) fun _ g0=>jOR 16 rfl<|retT [I ((ivRes x a 1).2.2)]<|⟨congrArg (fun c=>Ending.returned (I c)) (by unfold pwCode;(repeat' split)<;>first|rfl|omega|contradiction|(exfalso;omega)|(exfalso;simp_all;done)|(simp_all;done)),g0⟩
end Go.Proofs.YtghcddbhllkbmaaGreat

namespace Go.Proofs.YtghcddbhllkbmaaGreat
open Go Go.E Go.Proofs.Tryz
set_option linter.all false
set_option maxRecDepth 100000
set_option maxHeartbeats 2000000
variable {W w:World} {H:Chunk} {F:List Chunk}
def twoP (s:StageV):Prop:=s.kind=6/\¬s.b=-1
instance (s:StageV):Decidable (twoP s):=by unfold twoP;infer_instance
def szP (s:Shape):Prop:=1<=s.w/\s.w<=128/\1<=s.h/\s.h<=128/\s.w*s.h<=4096/\1<=s.max_/\s.max_<=4294967296
instance (s:Shape):Decidable (szP s):=by unfold szP;infer_instance
def kernelV (q:StageV) (s t:Shape):Shape×Int:=
  if q.kind=1 then (⟨s.w,s.h,q.max_⟩,convCode s.max_ q.kW q.kH q.weights q.shift q.max_)
  else if q.kind=2 then (⟨s.w,s.h,q.max_⟩,sepCode s.max_ q.row q.col q.shift q.shift2 q.max_)
  else if q.kind=3 then (⟨q.x.length,q.y.length,q.max_⟩,resCode s.w s.h s.max_ q.x q.y q.shift q.shift2 q.max_)
  else if q.kind=4 then (if 1<=q.bins/\q.bins<=128 then (⟨q.bins,1,s.w*s.h⟩,0) else (⟨s.w,s.h,q.max_⟩,9))
  else if q.kind=5 then (if mostOK s.w s.h s.max_=true then (⟨s.w,s.h,mostV s.w s.h s.max_⟩,0) else (⟨s.w,s.h,q.max_⟩,11))
  else if pwCode q.ops (decide (q.kind=6/\¬q.b=-1)) s.max_ t.max_ q.max_=0 then (if (q.kind=6/\¬q.b=-1)/\¬(s.w=t.w/\s.h=t.h) then (⟨s.w,s.h,q.max_⟩,8) else (⟨s.w,s.h,q.max_⟩,0))
  else (⟨s.w,s.h,q.max_⟩,pwCode q.ops (decide (q.kind=6/\¬q.b=-1)) s.max_ t.max_ q.max_)
def edgeP (q:StageV) (m:Int):Prop:=(q.edgePolicy=3/\0<=q.edgeFill/\q.edgeFill<=m)\/(0<=q.edgePolicy/\q.edgePolicy<3/\q.edgeFill=0)
instance (q:StageV) (m:Int):Decidable (edgeP q m):=by unfold edgeP;infer_instance
def ofV (q:StageV) (s t:Shape):Shape×Int:=
  if fieldsP q then (if szP s/\(¬twoP q\/szP t) then (if ¬(q.kind=1\/q.kind=2\/q.kind=3)\/edgeP q s.max_ then (if (kernelV q s t).2=0 then ((kernelV q s t).1,0) else (⟨0,0,0⟩,(kernelV q s t).2)) else (⟨0,0,0⟩,1)) else (⟨0,0,0⟩,2)) else (⟨0,0,0⟩,1)
theorem r15_kernel (q:Stage) (s:Shape) (t:Shape) (hq:Stage.Ok [H] q) (hs:szP s) (hS:Sat W w (H::F)):
  Ro prog 105 #[.agg (encStage q).toArray, .agg #[I s.w,I s.h,I s.max_], .agg #[I t.w,I t.h,I t.max_]] (.tuple #[.agg #[I ((kernelV q.v s t).1.w),I ((kernelV q.v s t).1.h),I ((kernelV q.v s t).1.max_)],I ((kernelV q.v s t).2)]) W w (H::F):=by
 have A0:=hq.weights.ll
 have F0:=hq.row.ll
 have D0:=hq.col.ll
 have G0:=hq.x.le;have B0:=hq.x.len
 have H0:=hq.y.le;have C0:=hq.y.len
 have E0:=hq.ops.ll
 have I0:(q.x.l.map Tap.v).length=q.x.n:=by simp [B0]
 have J0:(q.y.l.map Tap.v).length=q.y.n:=by simp [C0]
 refine callsK 140 func105 rfl<|jCO 2 rfl<|sBx hS (encStage q) fun _ _ w0=>sBx w0 [I s.w,I s.h,I s.max_] fun _ _ x0=>sBx x0 [I t.w,I t.h,I t.max_] fun _ _ y0=>sAlloc y0 zeroValue65 fun _ _ f0=>jOC 4 rfl ?_
 have K0:=hs;unfold szP at K0;have L0:=mul_bd (a:=s.w) (b:=s.h) (A:=128) (B:=128) om om
 refine gCO f0 8 [2,2,3] rfl<|sAlloc f0 zeroValue65 fun _ _ z0=>sTk z0 0 [I s.w,I s.h,I q.max_] fun _ b0=>gOC b0 16 [4] rfl<|cE q.kind 1 (fun a1=>jCC 1 rfl<|drawF b0 [13,14] (fb 0 0 0 3<|fb 2 3 2 1<|fb 4 4 6 1<|fb 6 4 7 1<|fb 8 4 8 1<|fb 10 4 11 1<|fb 12 4 17 1<|fn) [1,3,5,7,9,11,0,2,4,6,8,10,12,13,14,15] fun _ b1=>wV 6<|wG 0 3<|wL 3<|wL 4<|wL 5<|wL 6<|wL 7<|wL 8<|wO rfl<|cS (r9_check s.max_ q.kW q.kH q.weights.a q.weights.n q.weights.k q.weights.l q.shift q.max_ (hq.weights.fl 5) b1.flat) fun _ g0=>nZ g0 [0]<|wO rfl<|sTk g0 1 [I s.w,I s.h,I q.max_] fun _ h0=>nA<|wV 1<|wN<|jXR 4 rfl<|retD h0 1 [I s.w,I s.h,I q.max_] (I (convCode s.max_ q.kW q.kH q.weights.l q.shift q.max_))<|(by have c1:=(h0.drops [0,0,0,0,0]);have hk:kernelV q.v s t=((⟨s.w,s.h,q.max_⟩:Shape),(convCode s.max_ q.kW q.kH q.weights.l q.shift q.max_)):=(by unfold kernelV;rw [if_pos (by simp only [Stage.v];omega)]<;>rfl);exact ⟨by rw [hk];rfl,c1⟩)) fun a1=>?_
 refine jCC 6 rfl<|cE q.kind 2 (fun d1=>jCC 1 rfl<|drawF b0 [13,14] (fb 0 0 0 3<|fb 2 3 2 1<|fb 4 4 9 1<|fb 6 4 10 1<|fb 8 4 11 1<|fb 10 4 12 1<|fb 12 4 17 1<|fn) [1,3,5,7,9,11,0,2,4,6,8,10,12,13,14,15] fun _ e1=>wV 6<|wG 0 3<|wL 3<|wL 4<|wL 5<|wL 6<|wL 7<|wL 8<|wO rfl<|cS (r10_check s.max_ q.row.a q.row.n q.row.k q.row.l q.col.a q.col.n q.col.k q.col.l q.shift q.shift2 q.max_ (hq.row.fl 5) (hq.col.fl 5) e1.flat) fun _ i0=>nZ i0 [0]<|wO rfl<|sTk i0 1 [I s.w,I s.h,I q.max_] fun _ j0=>nA<|wV 1<|wN<|jXR 4 rfl<|retD j0 1 [I s.w,I s.h,I q.max_] (I (sepCode s.max_ q.row.l q.col.l q.shift q.shift2 q.max_))<|(by have f1:=(j0.drops [0,0,0,0,0]);have hk:kernelV q.v s t=((⟨s.w,s.h,q.max_⟩:Shape),(sepCode s.max_ q.row.l q.col.l q.shift q.shift2 q.max_)):=(by unfold kernelV;rw [if_neg (by simp only [Stage.v];omega),if_pos (by simp only [Stage.v];omega)]<;>rfl);exact ⟨by rw [hk];rfl,f1⟩)) fun d1=>?_
 refine jCC 6 rfl<|cE q.kind 3 (fun g1=>jCC 1 rfl<|drawF b0 [20,21] (fb 1 4 13 1<|fb 4 4 14 1<|fb 7 4 17 1<|fb 9 3 0 3<|fb 11 4 13 1<|fb 13 4 14 1<|fb 15 4 11 1<|fb 17 4 12 1<|fb 19 4 17 1<|fn) [0,3,6,10,12,14,16,18,1,2,4,5,7,8,9,11,13,15,17,19,20,21,22] fun _ h1=>wV 8<|wL 0<|wV 1<|wL 1<|wV 1<|wL 2<|wV 1<|wG 3 3<|wL 6<|wL 7<|wL 8<|wL 9<|wL 10<|wO rfl<|cS (r11_check s q.x.a q.x.n q.x.k q.x.l q.y.a q.y.n q.y.k q.y.l q.shift q.shift2 q.max_ (hq.x.fl 5) (fun z hz=>(hq.xD z hz).of_mem (mF 5)) (hq.y.fl 5) (fun z hz=>(hq.yD z hz).of_mem (mF 5)) h1.flat) fun _ k0=>nZ k0 [4,4,4]<|wO rfl<|sTk k0 1 [I (q.x.n:Int),I (q.y.n:Int),I q.max_] fun _ l0=>nA<|wV 1<|wN<|jXR 4 rfl<|retD l0 1 [I (q.x.n:Int),I (q.y.n:Int),I q.max_] (I (resCode s.w s.h s.max_ (q.x.l.map Tap.v) (q.y.l.map Tap.v) q.shift q.shift2 q.max_))<|(by have i1:=(l0.drops [0,0,0,0,0]);have hk:kernelV q.v s t=((⟨(q.x.n:Int),(q.y.n:Int),q.max_⟩:Shape),(resCode s.w s.h s.max_ (q.x.l.map Tap.v) (q.y.l.map Tap.v) q.shift q.shift2 q.max_)):=(by unfold kernelV;rw [if_neg (by simp only [Stage.v];omega),if_neg (by simp only [Stage.v];omega),if_pos (by simp only [Stage.v];omega)]<;>simp only [Stage.v,I0,J0]);exact ⟨by rw [hk];rfl,i1⟩)) fun g1=>jCC 6 rfl<|cE q.kind 4 (fun j1=>gCO b0 5 [4] rfl<|cS (r12_bins q.bins b0.flat) fun _ c0=>jOC 3 rfl<|CDn ((1:Int)<=q.bins/\q.bins<=(128:Int)) (fun k1=>gCO c0 3 [300] rfl<|sTk c0 1 [I s.w,I s.h,I q.max_] fun _ m0=>jOR 7 rfl<|retD m0 1 [I s.w,I s.h,I q.max_] (I 9)<|(by have l1:=(m0.drops [0,0,0,0,0]);have hk:kernelV q.v s t=((⟨s.w,s.h,q.max_⟩:Shape),9):=(by unfold kernelV;rw [if_neg (by simp only [Stage.v];omega),if_neg (by simp only [Stage.v];omega),if_neg (by simp only [Stage.v];omega),if_pos (by simp only [Stage.v];omega),if_neg (by simp only [Stage.v];omega)]<;>rfl);exact ⟨by rw [hk];rfl,l1⟩)) fun k1=>gCO c0 10 [4,3,3] rfl<|sMul s.w s.h<|pu1<|sTk c0 1 [I q.bins,I 1,I (s.w*s.h)] fun _ n0=>jOR 6 rfl<|retD n0 1 [I q.bins,I 1,I (s.w*s.h)] (I 0)<|(by have m1:=(n0.drops [0,0,0,0,0]);have hk:kernelV q.v s t=((⟨q.bins,1,(s.w*s.h)⟩:Shape),0):=(by unfold kernelV;rw [if_neg (by simp only [Stage.v];omega),if_neg (by simp only [Stage.v];omega),if_neg (by simp only [Stage.v];omega),if_pos (by simp only [Stage.v];omega),if_pos (by simp only [Stage.v];omega)]<;>rfl);exact ⟨by rw [hk];rfl,m1⟩)) fun j1=>?_
 refine jCC 6 rfl<|cE q.kind 5 (fun n1=>gCO b0 3 [303] rfl<|cS (r13_most s b0.flat) fun _ d0=>jOC 14 rfl<|CBn (mostOK s.w s.h s.max_) (fun o1=>gCO d0 3 [300] rfl<|sTk d0 1 [I s.w,I s.h,I q.max_] fun _ o0=>jOR 7 rfl<|retD o0 1 [I s.w,I s.h,I q.max_] (I 11)<|(by have q1:=(o0.drops [0,0,0,0,0]);have hk:kernelV q.v s t=((⟨s.w,s.h,q.max_⟩:Shape),11):=(by unfold kernelV;rw [if_neg (by simp only [Stage.v];omega),if_neg (by simp only [Stage.v];omega),if_neg (by simp only [Stage.v];omega),if_neg (by simp only [Stage.v];omega),if_pos (by simp only [Stage.v];omega),if_neg ‹_›]<;>rfl);exact ⟨by rw [hk];rfl,q1⟩)) fun o1=>gCO d0 10 [3,3] rfl<|sTk d0 1 [I s.w,I s.h,I (mostV s.w s.h s.max_)] fun _ p0=>jOR 6 rfl<|retD p0 1 [I s.w,I s.h,I (mostV s.w s.h s.max_)] (I 0)<|(by have r1:=(p0.drops [0,0,0,0,0]);have hk:kernelV q.v s t=((⟨s.w,s.h,(mostV s.w s.h s.max_)⟩:Shape),0):=(by unfold kernelV;rw [if_neg (by simp only [Stage.v];omega),if_neg (by simp only [Stage.v];omega),if_neg (by simp only [Stage.v];omega),if_neg (by simp only [Stage.v];omega),if_pos (by simp only [Stage.v];omega),if_pos ‹_›]<;>rfl);exact ⟨by rw [hk];rfl,r1⟩)) fun n1=>?_
 refine jCC 5 rfl<|drawF b0 [3,10] (fb 1 4 16 1<|fb 2 4 0 18<|fb 5 3 2 1<|fb 7 2 2 1<|fb 9 4 17 1<|fn) [0,4,6,8,1,2,5,7,9,3,10,11] fun _ s1=>wV 4<|wL 0<|wG 1 18<|wL 19<|wL 20<|wL 21<|wO rfl<|cS (r15_two q (hq.of_mem (mF 5)) s1.flat) fun _ q0=>nZ q0 [4,3,2,4]<|wO rfl<|cS (r14_check q.ops.a q.ops.n q.ops.k q.ops.l (decide (q.kind=6/\¬q.b=-1)) s.max_ t.max_ q.max_ (hq.ops.fl 5) q0.flat) fun _ e0=>nA<|wV 1<|wN<|jXC 7 rfl<|CN (pwCode q.ops.l (decide (q.kind=6/\¬q.b=-1)) s.max_ t.max_ q.max_) 0 (fun t1=>gCO e0 4 [300] rfl<|sTk e0 1 [I s.w,I s.h,I q.max_] fun _ r0=>jOR 5 rfl<|retD r0 1 [I s.w,I s.h,I q.max_] (I (pwCode q.ops.l (decide (q.kind=6/\¬q.b=-1)) s.max_ t.max_ q.max_))<|(by have u1:=(r0.drops [0,0,0,0,0]);have hk:kernelV q.v s t=((⟨s.w,s.h,q.max_⟩:Shape),(pwCode q.ops.l (decide (q.kind=6/\¬q.b=-1)) s.max_ t.max_ q.max_)):=(by unfold kernelV;rw [if_neg (by simp only [Stage.v];omega),if_neg (by simp only [Stage.v];omega),if_neg (by simp only [Stage.v];omega),if_neg (by simp only [Stage.v];omega),if_neg (by simp only [Stage.v];omega),if_neg ‹_›]<;>rfl);exact ⟨by rw [hk];rfl,u1⟩)) fun t1=>?_
 exact gCO e0 6 [1804] rfl<|cS (r15_two q (hq.of_mem (mF 5)) e0.flat) fun _ a0=>pu1<|SD 124 (q.kind=6/\¬q.b=-1) (fun v1=>gOO a0 21 [300] rfl<|sTk a0 1 [I s.w,I s.h,I q.max_] fun _ s0=>jOR 4 rfl<|retD s0 1 [I s.w,I s.h,I q.max_] (I 0)<|(by have w1:=(s0.drops [0,0,0,0,0]);have hk:kernelV q.v s t=((⟨s.w,s.h,q.max_⟩:Shape),0):=(by unfold kernelV;rw [if_neg (by simp only [Stage.v];omega),if_neg (by simp only [Stage.v];omega),if_neg (by simp only [Stage.v];omega),if_neg (by simp only [Stage.v];omega),if_neg (by simp only [Stage.v];omega),if_pos ‹_›,if_neg (by simp only [Stage.v];omega)]<;>rfl);exact ⟨by rw [hk];rfl,w1⟩)) fun v1=>gOO a0 6 [3,2] rfl<|SN 130 s.w t.w (fun x1=>gOO a0 13 [300] rfl<|sTk a0 1 [I s.w,I s.h,I q.max_] fun _ t0=>jOR 5 rfl<|retD t0 1 [I s.w,I s.h,I q.max_] (I 8)<|(by have y1:=(t0.drops [0,0,0,0,0]);have hk:kernelV q.v s t=((⟨s.w,s.h,q.max_⟩:Shape),8):=(by unfold kernelV;rw [if_neg (by simp only [Stage.v];omega),if_neg (by simp only [Stage.v];omega),if_neg (by simp only [Stage.v];omega),if_neg (by simp only [Stage.v];omega),if_neg (by simp only [Stage.v];omega),if_pos ‹_›,if_pos (by simp only [Stage.v];omega)]<;>rfl);exact ⟨by rw [hk];rfl,y1⟩)) fun x1=>gOC a0 9 [3,2] rfl<|CN s.h t.h (fun z1=>gCO a0 3 [300] rfl<|sTk a0 1 [I s.w,I s.h,I q.max_] fun _ u0=>jOR 5 rfl<|retD u0 1 [I s.w,I s.h,I q.max_] (I 8)<|(by have a2:=(u0.drops [0,0,0,0,0]);have hk:kernelV q.v s t=((⟨s.w,s.h,q.max_⟩:Shape),8):=(by unfold kernelV;rw [if_neg (by simp only [Stage.v];omega),if_neg (by simp only [Stage.v];omega),if_neg (by simp only [Stage.v];omega),if_neg (by simp only [Stage.v];omega),if_neg (by simp only [Stage.v];omega),if_pos ‹_›,if_pos (by simp only [Stage.v];omega)]<;>rfl);exact ⟨by rw [hk];rfl,a2⟩)) fun z1=>gCO a0 5 [300] rfl<|sTk a0 1 [I s.w,I s.h,I q.max_] fun _ v0=>jOR 4 rfl<|retD v0 1 [I s.w,I s.h,I q.max_] (I 0)<|(by have b2:=(v0.drops [0,0,0,0,0]);have hk:kernelV q.v s t=((⟨s.w,s.h,q.max_⟩:Shape),0):=(by unfold kernelV;rw [if_neg (by simp only [Stage.v];omega),if_neg (by simp only [Stage.v];omega),if_neg (by simp only [Stage.v];omega),if_neg (by simp only [Stage.v];omega),if_neg (by simp only [Stage.v];omega),if_pos ‹_›,if_neg (by simp only [Stage.v];omega)]<;>rfl);exact ⟨by rw [hk];rfl,b2⟩)
theorem r15_of (q:Stage) (s:Shape) (t:Shape) (hq:Stage.Ok [H] q) (hS:Sat W w (H::F)):
  Ro prog 66 #[.agg (encStage q).toArray, .agg #[I s.w,I s.h,I s.max_], .agg #[I t.w,I t.h,I t.max_]] (.tuple #[.agg #[I ((ofV q.v s t).1.w),I ((ofV q.v s t).1.h),I ((ofV q.v s t).1.max_)],I ((ofV q.v s t).2)]) W w (H::F):=by
 have hl_q_weights:=hq.weights.le;have hn_q_weights:=hq.weights.len
 have hl_q_row:=hq.row.le;have hn_q_row:=hq.row.len
 have hl_q_col:=hq.col.le;have hn_q_col:=hq.col.len
 have hl_q_x:=hq.x.le;have hn_q_x:=hq.x.len
 have hl_q_y:=hq.y.le;have hn_q_y:=hq.y.len
 have hl_q_ops:=hq.ops.le;have hn_q_ops:=hq.ops.len
 refine callsK 54 func66 rfl<|jCO 2 rfl<|sBox hS (.agg (encStage q).toArray) (encStage q).toArray fun _ _ a1=>sBox a1 (.agg #[I s.w,I s.h,I s.max_]) #[I s.w,I s.h,I s.max_] fun _ _ b1=>sBox b1 (.agg #[I t.w,I t.h,I t.max_]) #[I t.w,I t.h,I t.max_] fun _ _ c1=>sAlloc c1 zeroValue65 fun _ _ m0=>gOO m0 8 [1803] rfl<|cR call101 (r15_fields q (hq.of_mem (mem_flat1 4 (by rfl))) m0.flat) fun _ d0=>jOC 4 rfl<|cDn (fieldsP q.v) (fun d1=>?_) (fun d1=>?_)
 rotate_left
 ·refine jCO 3 rfl<|sTl d0 0 [I 0,I 0,I 0] sizeOf65 fun _ n0=>jOR 6 rfl<|retC n0 0 [I 0,I 0,I 0] (I 1) (isAgg65 _) (sizeOf65 _) ?_
  have e1:=(n0.drops [0,0,0,0])
  have hk:ofV q.v s t=((⟨0,0,0⟩:Shape),1):=by
   unfold ofV;rw [if_neg ‹_›]
  exact ⟨by rw [hk];rfl,e1⟩
 refine gCO d0 3 [302] rfl<|cR call102 (r15_valid s d0.flat) fun _ e0=>pu2<|sDn 19 ((1:Int)<=s.w/\s.w<=(128:Int)/\(1:Int)<=s.h/\s.h<=(128:Int)/\s.w*s.h<=(4096:Int)/\(1:Int)<=s.max_/\s.max_<=(4294967296:Int)) (fun f1=>?_) (fun f1=>?_)
 rotate_left
 ·refine jOO 15 rfl<|sTl e0 0 [I 0,I 0,I 0] sizeOf65 fun _ o0=>jOR 6 rfl<|retC o0 0 [I 0,I 0,I 0] (I 2) (isAgg65 _) (sizeOf65 _) ?_
  have g1:=(o0.drops [0,0,0,0])
  have hk:ofV q.v s t=((⟨0,0,0⟩:Shape),2):=by
   unfold ofV;rw [if_pos ‹_›,if_neg (by unfold szP twoP;simp only [Stage.v];omega)]
  exact ⟨by rw [hk];rfl,g1⟩
 refine gOO e0 1 [1803] rfl<|gY<|cR call34 (r15_two q (hq.of_mem (mem_flat1 4 (by rfl))) e0.flat) fun _ a0=>pu1<|sD 22 (q.kind=6/\¬q.b=-1) (fun h1=>?_) (fun h1=>?_)
 rotate_left
 ·refine gOO a0 13 [3] rfl<|cR call103 (r15_edged q.kind a0.flat) fun _ b0=>pu1<|sD 33 (q.kind=1\/q.kind=2\/q.kind=3) (fun i1=>?_) (fun i1=>?_)
  rotate_left
  ·refine gOO b0 19 [1803,302,301] rfl<|cR call105 (r15_kernel q s t (hq.of_mem (mem_flat1 4 (by rfl))) (by first|assumption|(unfold szP;assumption)) b0.flat) fun _ j1=>pu3<|sAlloc j1 zeroValue65 fun _ _ k1=>sTl k1 0 [I ((kernelV q.v s t).1.w),I ((kernelV q.v s t).1.h),I ((kernelV q.v s t).1.max_)] sizeOf65 fun _ f0=>jOC 10 rfl<|cN ((kernelV q.v s t).2) 0 (fun l1=>?_) (fun l1=>?_)
   rotate_left
   ·refine jCO 4 rfl<|sTl f0 1 [I 0,I 0,I 0] sizeOf65 fun _ p0=>jOR 5 rfl<|retC p0 1 [I 0,I 0,I 0] (I ((kernelV q.v s t).2)) (isAgg65 _) (sizeOf65 _) ?_
    have m1:=(p0.drops [0,0,0,0,0])
    have hk:ofV q.v s t=((⟨0,0,0⟩:Shape),(kernelV q.v s t).2):=by
     unfold ofV;rw [if_pos ‹_›,if_pos (by unfold szP twoP;simp only [Stage.v];omega),if_pos (by unfold edgeP;simp only [Stage.v];(try dsimp only at*);omega),if_neg ‹_›]
    exact ⟨by rw [hk];rfl,m1⟩
   refine gCO f0 5 [300] rfl<|sTl f0 1 [I ((kernelV q.v s t).1.w),I ((kernelV q.v s t).1.h),I ((kernelV q.v s t).1.max_)] sizeOf65 fun _ q0=>jOR 4 rfl<|retC q0 1 [I ((kernelV q.v s t).1.w),I ((kernelV q.v s t).1.h),I ((kernelV q.v s t).1.max_)] (I 0) (isAgg65 _) (sizeOf65 _) ?_
   have n1:=(q0.drops [0,0,0,0,0])
   have hk:ofV q.v s t=((kernelV q.v s t).1,0):=by
    unfold ofV;rw [if_pos ‹_›,if_pos (by unfold szP twoP;simp only [Stage.v];omega),if_pos (by unfold edgeP;simp only [Stage.v];(try dsimp only at*);omega),if_pos ‹_›]
   exact ⟨by rw [hk];rfl,n1⟩
  refine gOO b0 4 [203,2] rfl<|gY<|cR call104 (r3_valid (⟨q.edgePolicy,q.edgeFill⟩:Edge) s.max_ b0.flat) fun _ g0=>jOC 5 rfl<|cDn (((⟨q.edgePolicy,q.edgeFill⟩:Edge).policy=3/\0<=(⟨q.edgePolicy,q.edgeFill⟩:Edge).fill/\(⟨q.edgePolicy,q.edgeFill⟩:Edge).fill<=s.max_)\/(0<=(⟨q.edgePolicy,q.edgeFill⟩:Edge).policy/\(⟨q.edgePolicy,q.edgeFill⟩:Edge).policy<3/\(⟨q.edgePolicy,q.edgeFill⟩:Edge).fill=0)) (fun o1=>?_) (fun o1=>?_)
  rotate_left
  ·refine jCO 3 rfl<|sTl g0 0 [I 0,I 0,I 0] sizeOf65 fun _ r0=>jOR 6 rfl<|retC r0 0 [I 0,I 0,I 0] (I 1) (isAgg65 _) (sizeOf65 _) ?_
   have q1:=(r0.drops [0,0,0,0])
   have hk:ofV q.v s t=((⟨0,0,0⟩:Shape),1):=by
    unfold ofV;rw [if_pos ‹_›,if_pos (by unfold szP twoP;simp only [Stage.v];omega),if_neg (by unfold edgeP;simp only [Stage.v];(try dsimp only at*);omega)]
   exact ⟨by rw [hk];rfl,q1⟩
  refine gCO g0 8 [1803,302,301] rfl<|cR call105 (r15_kernel q s t (hq.of_mem (mem_flat1 4 (by rfl))) (by first|assumption|(unfold szP;assumption)) g0.flat) fun _ r1=>pu3<|sAlloc r1 zeroValue65 fun _ _ s1=>sTl s1 0 [I ((kernelV q.v s t).1.w),I ((kernelV q.v s t).1.h),I ((kernelV q.v s t).1.max_)] sizeOf65 fun _ h0=>jOC 10 rfl<|cN ((kernelV q.v s t).2) 0 (fun t1=>?_) (fun t1=>?_)
  rotate_left
  ·refine jCO 4 rfl<|sTl h0 1 [I 0,I 0,I 0] sizeOf65 fun _ s0=>jOR 5 rfl<|retC s0 1 [I 0,I 0,I 0] (I ((kernelV q.v s t).2)) (isAgg65 _) (sizeOf65 _) ?_
   have u1:=(s0.drops [0,0,0,0,0])
   have hk:ofV q.v s t=((⟨0,0,0⟩:Shape),(kernelV q.v s t).2):=by
    unfold ofV;rw [if_pos ‹_›,if_pos (by unfold szP twoP;simp only [Stage.v];omega),if_pos (by unfold edgeP;simp only [Stage.v];(try dsimp only at*);omega),if_neg ‹_›]
   exact ⟨by rw [hk];rfl,u1⟩
  refine gCO h0 5 [300] rfl<|sTl h0 1 [I ((kernelV q.v s t).1.w),I ((kernelV q.v s t).1.h),I ((kernelV q.v s t).1.max_)] sizeOf65 fun _ t0=>jOR 4 rfl<|retC t0 1 [I ((kernelV q.v s t).1.w),I ((kernelV q.v s t).1.h),I ((kernelV q.v s t).1.max_)] (I 0) (isAgg65 _) (sizeOf65 _) ?_
  have v1:=(t0.drops [0,0,0,0,0])
  have hk:ofV q.v s t=((kernelV q.v s t).1,0):=by
   unfold ofV;rw [if_pos ‹_›,if_pos (by unfold szP twoP;simp only [Stage.v];omega),if_pos (by unfold edgeP;simp only [Stage.v];(try dsimp only at*);omega),if_pos ‹_›]
  exact ⟨by rw [hk];rfl,v1⟩
 refine gOO a0 1 [301] rfl<|gY<|cR call102 (r15_valid t a0.flat) fun _ i0=>jOC 6 rfl<|cDn ((1:Int)<=t.w/\t.w<=(128:Int)/\(1:Int)<=t.h/\t.h<=(128:Int)/\t.w*t.h<=(4096:Int)/\(1:Int)<=t.max_/\t.max_<=(4294967296:Int)) (fun w1=>?_) (fun w1=>?_)
 rotate_left
 ·refine jCO 3 rfl<|sTl i0 0 [I 0,I 0,I 0] sizeOf65 fun _ u0=>jOR 6 rfl<|retC u0 0 [I 0,I 0,I 0] (I 2) (isAgg65 _) (sizeOf65 _) ?_
  have x1:=(u0.drops [0,0,0,0])
  have hk:ofV q.v s t=((⟨0,0,0⟩:Shape),2):=by
   unfold ofV;rw [if_pos ‹_›,if_neg (by unfold szP twoP;simp only [Stage.v];omega)]
  exact ⟨by rw [hk];rfl,x1⟩
 refine gCO i0 4 [3] rfl<|cR call103 (r15_edged q.kind i0.flat) fun _ c0=>pu1<|sD 33 (q.kind=1\/q.kind=2\/q.kind=3) (fun y1=>?_) (fun y1=>?_)
 rotate_left
 ·refine gOO c0 19 [1803,302,301] rfl<|cR call105 (r15_kernel q s t (hq.of_mem (mem_flat1 4 (by rfl))) (by first|assumption|(unfold szP;assumption)) c0.flat) fun _ z1=>pu3<|sAlloc z1 zeroValue65 fun _ _ a2=>sTl a2 0 [I ((kernelV q.v s t).1.w),I ((kernelV q.v s t).1.h),I ((kernelV q.v s t).1.max_)] sizeOf65 fun _ j0=>jOC 10 rfl<|cN ((kernelV q.v s t).2) 0 (fun b2=>?_) (fun b2=>?_)
  rotate_left
  ·refine jCO 4 rfl<|sTl j0 1 [I 0,I 0,I 0] sizeOf65 fun _ v0=>jOR 5 rfl<|retC v0 1 [I 0,I 0,I 0] (I ((kernelV q.v s t).2)) (isAgg65 _) (sizeOf65 _) ?_
   have c2:=(v0.drops [0,0,0,0,0])
   have hk:ofV q.v s t=((⟨0,0,0⟩:Shape),(kernelV q.v s t).2):=by
    unfold ofV;rw [if_pos ‹_›,if_pos (by unfold szP twoP;simp only [Stage.v];omega),if_pos (by unfold edgeP;simp only [Stage.v];(try dsimp only at*);omega),if_neg ‹_›]
   exact ⟨by rw [hk];rfl,c2⟩
  refine gCO j0 5 [300] rfl<|sTl j0 1 [I ((kernelV q.v s t).1.w),I ((kernelV q.v s t).1.h),I ((kernelV q.v s t).1.max_)] sizeOf65 fun _ w0=>jOR 4 rfl<|retC w0 1 [I ((kernelV q.v s t).1.w),I ((kernelV q.v s t).1.h),I ((kernelV q.v s t).1.max_)] (I 0) (isAgg65 _) (sizeOf65 _) ?_
  have d2:=(w0.drops [0,0,0,0,0])
  have hk:ofV q.v s t=((kernelV q.v s t).1,0):=by
   unfold ofV;rw [if_pos ‹_›,if_pos (by unfold szP twoP;simp only [Stage.v];omega),if_pos (by unfold edgeP;simp only [Stage.v];(try dsimp only at*);omega),if_pos ‹_›]
  exact ⟨by rw [hk];rfl,d2⟩
 refine gOO c0 4 [203,2] rfl<|gY<|cR call104 (r3_valid (⟨q.edgePolicy,q.edgeFill⟩:Edge) s.max_ c0.flat) fun _ k0=>jOC 5 rfl<|cDn (((⟨q.edgePolicy,q.edgeFill⟩:Edge).policy=3/\0<=(⟨q.edgePolicy,q.edgeFill⟩:Edge).fill/\(⟨q.edgePolicy,q.edgeFill⟩:Edge).fill<=s.max_)\/(0<=(⟨q.edgePolicy,q.edgeFill⟩:Edge).policy/\(⟨q.edgePolicy,q.edgeFill⟩:Edge).policy<3/\(⟨q.edgePolicy,q.edgeFill⟩:Edge).fill=0)) (fun e2=>?_) (fun e2=>?_)
 rotate_left
 ·refine jCO 3 rfl<|sTl k0 0 [I 0,I 0,I 0] sizeOf65 fun _ x0=>jOR 6 rfl<|retC x0 0 [I 0,I 0,I 0] (I 1) (isAgg65 _) (sizeOf65 _) ?_
  have f2:=(x0.drops [0,0,0,0])
  have hk:ofV q.v s t=((⟨0,0,0⟩:Shape),1):=by
   unfold ofV;rw [if_pos ‹_›,if_pos (by unfold szP twoP;simp only [Stage.v];omega),if_neg (by unfold edgeP;simp only [Stage.v];(try dsimp only at*);omega)]
  exact ⟨by rw [hk];rfl,f2⟩
 refine gCO k0 8 [1803,302,301] rfl<|cR call105 (r15_kernel q s t (hq.of_mem (mem_flat1 4 (by rfl))) (by first|assumption|(unfold szP;assumption)) k0.flat) fun _ g2=>pu3<|sAlloc g2 zeroValue65 fun _ _ h2=>sTl h2 0 [I ((kernelV q.v s t).1.w),I ((kernelV q.v s t).1.h),I ((kernelV q.v s t).1.max_)] sizeOf65 fun _ l0=>jOC 10 rfl<|cN ((kernelV q.v s t).2) 0 (fun i2=>?_) (fun i2=>?_)
 rotate_left
 ·refine jCO 4 rfl<|sTl l0 1 [I 0,I 0,I 0] sizeOf65 fun _ y0=>jOR 5 rfl<|retC y0 1 [I 0,I 0,I 0] (I ((kernelV q.v s t).2)) (isAgg65 _) (sizeOf65 _) ?_
  have j2:=(y0.drops [0,0,0,0,0])
  have hk:ofV q.v s t=((⟨0,0,0⟩:Shape),(kernelV q.v s t).2):=by
   unfold ofV;rw [if_pos ‹_›,if_pos (by unfold szP twoP;simp only [Stage.v];omega),if_pos (by unfold edgeP;simp only [Stage.v];(try dsimp only at*);omega),if_neg ‹_›]
  exact ⟨by rw [hk];rfl,j2⟩
 refine gCO l0 5 [300] rfl<|sTl l0 1 [I ((kernelV q.v s t).1.w),I ((kernelV q.v s t).1.h),I ((kernelV q.v s t).1.max_)] sizeOf65 fun _ z0=>jOR 4 rfl<|retC z0 1 [I ((kernelV q.v s t).1.w),I ((kernelV q.v s t).1.h),I ((kernelV q.v s t).1.max_)] (I 0) (isAgg65 _) (sizeOf65 _) ?_
 have k2:=(z0.drops [0,0,0,0,0])
 have hk:ofV q.v s t=((kernelV q.v s t).1,0):=by
  unfold ofV;rw [if_pos ‹_›,if_pos (by unfold szP twoP;simp only [Stage.v];omega),if_pos (by unfold edgeP;simp only [Stage.v];(try dsimp only at*);omega),if_pos ‹_›]
 exact ⟨by rw [hk];rfl,k2⟩
def srcs (s:StageV):List Int:=if twoP s then [s.a,s.b] else [s.a]
theorem srcs_len (s:StageV):1<=(srcs s).length/\(srcs s).length<=2:=by unfold srcs;split<;>simp
def shpOf (p:PlaneV):Shape:=⟨p.w,p.h,p.max_⟩
def shpAt (l:List Shape) (i:Int):Shape:=l[i.toNat]?.getD ⟨0,0,0⟩
def stgAt (ss:List StageV) (ni n:Int):StageV:=ss[(n-ni).toNat]?.getD ⟨0,0,0,false,0,0,0,0,[],[],[],0,0,[],[],0,[],0⟩
def shpStep (ni:Int) (ss:List StageV) (n:Int) (out:List Shape):Shape×Int:=
  ofV (stgAt ss ni n) (shpAt out (stgAt ss ni n).a) (if twoP (stgAt ss ni n) then shpAt out (stgAt ss ni n).b else ⟨0,0,0⟩)
theorem r17_of (p:Plane) (hp:Plane.Ok [H] p) (hS:Sat W w (H::F)):
  Ro prog 21 #[.agg (encPlane p).toArray] (.agg #[I p.w,I p.h,I p.max_]) W w (H::F):=by
 have d0:=hp.pix.ll
 exact callsK 10 func21 rfl<|jCO 2 rfl<|sBx hS (encPlane p) fun _ _ c0=>sAlloc c0 zeroValue65 fun _ _ a0=>gOO a0 11 [1,1,1] rfl<|sTk a0 0 [I p.w,I p.h,I p.max_] fun _ b0=>jOR 3 rfl<|retN (vs:=[.agg #[I p.w,I p.h,I p.max_]]) rfl (.cons (.cell _ _ _ _ kr (lvA b0 0 0 [I p.w,I p.h,I p.max_] (isAgg65 _) (sizeOf65 _) rfl rfl rfl)) .nil)<|⟨rfl,(b0.drops [0,0])⟩
end Go.Proofs.YtghcddbhllkbmaaGreat
namespace Go.E
section
variable {P:Program} {ρ:Env} {w:World} {o:Oper}
theorem Y_shrS {t u:TypeId} {x y:Operand} {k':IntKind} (a s:Int) (ho:o.op= .binOp .shr t x y u) (hx:ev ρ x= .int .i64 a) (hy:ev ρ y= .int k' s) (hs:0<=s/\s<=60):
    Yields P ρ o (.int .i64 (a/2^s.toNat)) w:=by
  have h1:min s.toNat IntKind.i64.bits=s.toNat:=by simp [IntKind.bits];omega
  exact Y_shr .i64 k' a s _ ho hx hy hs.1 (by rw [h1])
end
end Go.E
namespace Go.E
end Go.E

namespace Go.E
section
variable {p:Nat} {E:TypeId} {pre mid post:List Value}
end
theorem at_some {α:Type} {xs:List α} {n k:Nat} (h:xs.length=n) (hk:k<n):∃x,xs[k]?=some x:=⟨xs[k]'(by omega),by simp [show k<xs.length by omega]⟩
section
variable {P:Program} {W w:World} {cs:List Chunk} {ρ:Env} {o:Oper} {ops:Array Oper} {rest:List Oper} {n:Nat} {N:Env->World->Prop}
end
def Obs {π σ:Type} (R:π->σ->Chunk->Prop) (ps:List π) (ss:List σ) (cs:List Chunk):Prop:=
  ps.length=ss.length/\cs.length=ss.length/\∀(i:Nat) p s c,ps[i]?=some p->ss[i]?=some s->cs[i]?=some c->R p s c
theorem Obs.set {π σ:Type} {R:π->σ->Chunk->Prop} {ps:List π} {ss:List σ} {cs:List Chunk} (h:Obs R ps ss cs) {i:Nat} {p:π} {s:σ} {c:Chunk} (hp:ps[i]?=some p) (hR:R p s c):Obs R ps (ss.set i s) (cs.set i c):=by
  refine ⟨by simp [h.1],by simp [h.2.1],fun j q t d hq ht hd=>?_⟩
  by_cases a0:i=j
  · subst a0
    rw [hp] at hq;cases hq
    rw [List.getElem?_set] at ht hd
    simp only [if_true] at ht hd
    split at ht
    · cases ht
      split at hd
      · cases hd;exact hR
      · cases hd
    · cases ht
  · exact (by rw [List.getElem?_set_ne a0] at ht hd;exact h.2.2 j q t d hq ht hd)
theorem Obs.nil {π σ:Type} (R:π->σ->Chunk->Prop):Obs R [] [] []:=⟨rfl,rfl,fun i p s c h=>by simp at h⟩
end Go.E
namespace Go.Proofs.YtghcddbhllkbmaaGreat
open Go Go.E Go.Proofs.Tryz
set_option linter.all false
set_option maxRecDepth 100000
set_option maxHeartbeats 2000000
variable {W w:World} {H:Chunk} {F:List Chunk}
def canG (ni:Int) (D:List (List Int)) (out:List Int) (i:Nat):Prop:=∃s,D[i]?=some s/\¬(ni+((i:Nat):Int))∈out/\∀x∈s,x<ni\/x∈out
structure OutG (ni:Int) (D:List (List Int)) (out:List Int):Prop where
  r:∀x∈out,ni<=x/\x<ni+((D.length:Nat):Int)
  d:out.Nodup
theorem OutG.nil {ni:Int} {D:List (List Int)}:OutG ni D []:=⟨(fun x hx=>by cases hx),List.nodup_nil⟩
theorem OutG.add {ni:Int} {D:List (List Int)} {out:List Int} {k:Nat} (h:OutG ni D out) (hc:canG ni D out k):OutG ni D (out++[ni+(k:Int)]):=by
  obtain ⟨s,hs,h1,_⟩:=hc
  have hk:=(List.getElem?_eq_some_iff.1 hs).1
  refine ⟨fun x hx=>?_,?_⟩
  · rcases List.mem_append.1 hx with h2|h2
    · exact h.r x h2
    · rw [List.mem_singleton.1 h2];omega
  · exact (by rw [List.nodup_append];refine ⟨h.d,by simp,?_⟩;intro a ha b hb;rw [List.mem_singleton.1 hb];rintro rfl;exact h1 ha)
theorem nodup_le {n:Nat}:∀{m:Nat} {l:List Nat},l.Nodup->(∀x∈l,x<n)->l.length=m->m<=n:=by
 induction n with
 |zero=>
  intro m l _ h2 h3
  cases l with
  |nil=>simp at h3;omega
  |cons x l=>have:=h2 x List.mem_cons_self;omega
 |succ n ih=>
  intro m l h1 h2 h3
  have h4:=ih (m:=(l.filter (fun x=>decide (x≠n))).length) (l:=l.filter (fun x=>decide (x≠n))) (h1.filter _) (fun x hx=>by
   have:=List.mem_filter.1 hx
   have h5:=h2 x this.1
   have h6:=of_decide_eq_true this.2
   omega) rfl
  have h5:l.length<=(l.filter (fun x=>decide (x≠n))).length+1:=by
   clear h2 h3 h4 ih
   induction l with
   |nil=>simp
   |cons y l ih2=>
    rw [List.nodup_cons] at h1
    rw [List.filter_cons]
    by_cases e:y=n
    · exact (by subst e;rw [if_neg (by simp)];have h7:l.filter (fun x=>decide (x≠y))=l:=(by rw [List.filter_eq_self];intro z hz;refine decide_eq_true ?_;rintro rfl;exact h1.1 hz);rw [h7];simp)
    · exact (by rw [if_pos (by simpa using e)];have:=ih2 h1.2;simp only [List.length_cons];omega)
  omega
theorem OutG.len {ni:Int} {D:List (List Int)} {out:List Int} (h:OutG ni D out):out.length<=D.length:=by
  have h1:(out.map fun x=>(x-ni).toNat).Nodup:=by
    rw [List.nodup_iff_pairwise_ne,List.pairwise_map]
    refine (List.nodup_iff_pairwise_ne.1 h.d).imp_of_mem ?_
    intro a b ha hb hab
    have:=h.r a ha;have:=h.r b hb;omega
  have:=nodup_le (n:=D.length) h1 (fun x hx=>by
    obtain ⟨y,hy,rfl⟩:=List.mem_map.1 hx
    have:=h.r y hy;omega) (List.length_map _)
  omega
def KN (ni:Nat) (out:List Int) (ks:List Bool):Prop:=ks.length=16/\∀x:Nat,x<16->(ks[x]?=some true↔(x<ni\/((x:Nat):Int)∈out))
theorem KN.at {ni:Nat} {out:List Int} {ks:List Bool} {x:Nat} {y:Int} {b:Bool} (h:KN ni out ks) (hx:ks[x]?=some b) (hy:y=(x:Int)):b=true↔(y<(ni:Int)\/y∈out):=by
  subst hy
  have h1:=(List.getElem?_eq_some_iff.1 hx).1
  have h2:=h.2 x (by rw [<-h.1];exact h1)
  rw [hx] at h2
  simp only [Option.some.injEq] at h2
  rw [h2]
  exact ⟨fun h=>h.elim (fun h=> .inl (by omega)) .inr,fun h=>h.elim (fun h=> .inl (by omega)) .inr⟩
theorem KN.nil:KN 0 [] (List.replicate 16 false):=by
  refine ⟨rfl,fun x hx=>?_⟩
  rw [List.getElem?_replicate,if_pos hx];simp
theorem KN.set {ni:Nat} {out:List Int} {ks:List Bool} {k:Nat} (h:KN ni out ks) (hk:k<16):(ks.set k true).length=16/\∀x:Nat,x<16->((ks.set k true)[x]?=some true↔(x=k\/x<ni\/(x:Int)∈out)):=by
  refine ⟨by rw [List.length_set];exact h.1,fun x hx=>?_⟩
  rw [List.getElem?_set]
  by_cases e:k=x
  · rw [if_pos e,if_pos (by rw [h.1];omega)];exact ⟨fun _=> .inl e.symm,fun _=>rfl⟩
  · exact (by rw [if_neg e,h.2 x hx];exact ⟨fun a=> .inr a,fun a=>a.resolve_left (fun q=>e q.symm)⟩)
theorem KN.add {ni:Nat} {out:List Int} {ks:List Bool} {y:Int} (h:KN ni out ks) (hy:0<=y/\y<16):KN ni (out++[y]) (ks.set y.toNat true):=by
  have h1:=h.set (k:=y.toNat) (by omega)
  refine ⟨h1.1,fun x hx=>?_⟩
  rw [h1.2 x hx,List.mem_append,List.mem_singleton]
  constructor
  · rintro (h|h|h)
    · exact .inr (.inr (by omega))
    · exact .inl h
    · exact .inr (.inl h)
  · rintro (h|h|h)
    · exact .inr (.inl h)
    · exact .inr (.inr h)
    · exact .inl (by omega)
theorem srcs_two {s:StageV}:(srcs s).length=2↔twoP s:=by
  unfold srcs
  by_cases h:twoP s
  · rw [if_pos h];simp [h]
  · rw [if_neg h];simp [h]
theorem tape_new {cs:List Chunk} (a:Option Addr) (n k:Nat) (hS:Sat W w cs):
    Calls prog 7 #[.slice a n k] w fun e w'=>∃p:Nat,e= .returned (.pointer (some ⟨p,0,none⟩))/\Sat W w' ([(p, .cells #[.slice a n k, .int .i64 0] 78 (0,0))]::cs):=by
  exact callsK 6 func7 rfl<|jCO 9 rfl<|sBx hS [.slice a n k, .int .i64 0] fun b0 c0 a0=>jOR 4 rfl<|retT [.pointer (some ⟨b0,0,none⟩)]<|⟨_,rfl,a0⟩
theorem tmod_bd (v n:Int) (h:0<n):-n<v.tmod n/\v.tmod n<n:=by
  have h1:=Int.tmod_lt_of_pos v h
  have h2:=Int.lt_tmod_of_pos v h
  omega
theorem mod_ok {cs:List Chunk} (v n:Int) (hn:0<n) (hn2:n<=4611686018427387904) (hS:Sat W w cs):
    Calls prog 45 #[.int .i64 v, .int .i64 n] w fun e w'=>∃r:Int,e= .returned (.int .i64 r)/\(0<=r/\r<n)/\Sat W w' cs:=by
  have hm:=tmod_bd v n hn
  exact callsK 15 func45 rfl<|jCO 9 rfl<|sRem v n<|jOC 10 rfl<|CD ((v.tmod n)<0) (fun a0=>jCR 9 rfl<|retT [.int .i64 (v.tmod n)]<|⟨_,rfl,by omega,hS⟩) fun a0=>jCO 3 rfl<|sAdd (v.tmod n) n<|jOR 10 rfl<|retT [.int .i64 ((v.tmod n)+n)]<|⟨_,rfl,by omega,hS⟩
theorem tape_next {p:Nat} {a:Option Addr} {n k:Nat} {i:Int} {xs:List Int} (hR:RdT Go.E.encI 1 [H] a n k xs) (hi:0<=i/\i<=n) (hS:Sat W w ([(p, .cells #[.slice a n k,I i] 78 (0,0))]::H::F)) (m:Int) (hm:m<=4611686018427387904):
  Calls prog 11 #[Pt p 0,I m] w fun e w'=>∃r:Int,e= .returned (I r)/\(0<=r/\(r<m\/r=0))/\∃i':Int,(0<=i'/\i'<=n)/\Sat W w' ([(p, .cells #[.slice a n k,I i'] 78 (0,0))]::H::F):=by
 have l0:=hR.le
 refine callsK 39 func11 rfl<|jCC 7 rfl<|bD ((m:Int)<1) (fun b0=>drawF hS [] (fn) [0,1,2,3,4,5,7,8,9,6,10,11,12,13] fun _ d0=>wV 3<|wFix 7 _ true (decide_eq_true b0)<|wV 11<|wN<|jXR 9 rfl<|retT [I 0]<|⟨_,rfl,om,_,om,d0⟩) fun b0=>drawF hS [] (fb 6 0 1 1<|fb 10 0 0 1<|fn) [0,1,2,3,4,5,7,8,9,6,10,11,12,13] fun _ a0=>wV 3<|wFix 7 _ false (decide_eq_false b0)<|wV 6<|wL 0<|wL 1<|wV 3<|wN<|jXC 1 rfl<|cD (i>=(n:Int)) (fun e0=>jCR 7 rfl<|retT [I 0]<|⟨_,rfl,om,_,om,a0⟩) fun e0=>gCO a0 8 [0] rfl<|sAdd i 1<|pu2<|sT a0 0 1 (I (i+1)) [I (i+1)] #[.slice a n k,I (i+1)] sizeOf3 fun _ f0=>jOC 3 rfl ?_
 obtain ⟨g0,m0,n0,o0,h0,i0⟩:=RdT.elem hR ((i+1)-1)
 refine drawF f0 [12] (fb 3 0 0 1<|fb 7 0 1 1<|fq 10 0 (h0.up 1 rfl)<|fn) [0,1,2,4,5,6,11,3,7,8,9,10,12,13] fun _ j0=>wV 7<|wL 0<|wL 1<|wSub (i+1) 1<|wI i0<|wL 2<|wO rfl<|cZ (mod_ok g0 m om om j0) ?_
 rintro _ _ ⟨k0,rfl,_,c0⟩
 exact nZ c0 [0,0]<|wV 1<|wN<|jXR 2 rfl<|retT [I k0]<|⟨_,rfl,om,_,om,c0⟩
theorem tape_pick {p:Nat} {a:Option Addr} {n k:Nat} {i:Int} {xs:List Int} (hR:RdT Go.E.encI 1 [H] a n k xs) (hi:0<=i/\i<=n) (hS:Sat W w ([(p, .cells #[.slice a n k,I i] 78 (0,0))]::H::F)) {b:Option Addr} {m cap:Nat} {l:List Int} (hL:RdT Go.E.encI 1 [H] b m cap l) (h0:0<m) (hm:m<=1000000):
  Calls prog 58 #[Pt p 0, .slice b m cap] w fun e w'=>∃x:Int,e= .returned (I x)/\x∈l/\∃i':Int,(0<=i'/\i'<=n)/\Sat W w' ([(p, .cells #[.slice a n k,I i'] 78 (0,0))]::H::F):=by
 have g0:=hR.le
 refine callsK 12 func58 rfl<|jCO 11 rfl<|cZ (tape_next (hR.fl 0) om hS.flat1 (m:Int) om) ?_
 rintro _ _ ⟨c0,rfl,_,_,_,d0⟩
 have a0:=d0.unflat1
 exact sII hL c0 fun b0 _ _ e0 f0=>sMp a0 (f0.up 1 rfl) 0 (I b0)<|jOR 4 rfl<|retT [I b0]<|⟨_,rfl,List.mem_of_getElem? e0,_,om,a0⟩
end Go.Proofs.YtghcddbhllkbmaaGreat
