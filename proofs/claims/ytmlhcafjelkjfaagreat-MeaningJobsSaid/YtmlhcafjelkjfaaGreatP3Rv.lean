import Derived.Test.YtmlhcafjelkjfaaGreatP3Ab
import Derived.WalkKit
import Derived.Deep.Quiet
import Derived.KernelRfl
import Derived.Laws.BytesString
import Derived.Laws.Shifts
import Derived.Laws.IdiomStrings
import Derived.Test.YtmlhcafjelkjfaaGreatProg
import Derived.Laws.IdiomRangeMap
import Derived.Test.YtmlhcafjelkjfaaGreatP3Tv
import Derived.Test.YtmlhcafjelkjfaaGreatP3Ru
namespace Go.Proofs.YtmlhcafjelkjfaaGreat
open Go Go.E Go.Proofs.Tryz
set_option linter.all false
set_option maxRecDepth 100000
set_option maxHeartbeats 2000000
variable {W w:World} {H:Chunk} {F:List Chunk}
theorem stg_ker {s:StageV} {p q:PlaneV} (h:planeOK p=true/\(twoP s->planeOK q=true)) (hc:(ofV s (shpOf p) (shpOf q)).2=0) (k4:¬s.kind=4) (k5:¬s.kind=5):stgT s p q=kerT s p q ⟨0,0,(ofV s (shpOf p) (shpOf q)).1.w,(ofV s (shpOf p) (shpOf q)).1.h⟩:=by
  unfold stgT kerT;rw [if_pos h,if_pos hc,if_neg k4,if_neg k5]
theorem pw_ops {l:List POp} {two:Bool} {a b out:Int} (h:pwCode l two a b out=0):opsCode l true=0:=by
  unfold pwCode at h
  split at h
  · split at h
    · unfold ivRes at h
      split at h
      · assumption
      · exact h
    · simp at h
  · rename_i h1;exact absurd h h1
theorem r14_floor (x:Int) (y:Int) (hx:-17592186044416<=x/\x<=17592186044416) (hy:-17592186044416<=y/\y<=17592186044416) (hS:Sat W w (H::F)):
  Ro prog 225 #[I x,I y] (I (floorV x y)) W w (H::F):=by
 refine callsA 25 func225 rfl<|sR<|pu1<|zQ<|pu2<|nT<|cE y 0 (fun b0=>?_) (fun b0=>?_)
 ·exact sR<|pu1<|zR<|retT [I 0]<|⟨congrArg (fun z=>Ending.returned (I z)) (by unfold floorV;rw [if_pos om]),hS⟩
 refine kT<|seqE ?_
 have hq1:-17592186044416<=x.tdiv y/\x.tdiv y<=17592186044416:=by have h:=Int.natAbs_tdiv_le_natAbs x y;omega
 refine rE<|pu2<|sQuoN x y<|pu1<|zQ<|pu2<|sRem x y<|pu2<|sN 15 (x.tmod y) 0 (fun c0=>?_) (fun c0=>?_)
 ·exact pu6<|nT<|cFf<|kS<|pu2<|zE<|retT [I (x.tdiv y)]<|⟨congrArg (fun z=>Ending.returned (I z)) (by unfold floorV;rw [if_neg om,fdiv_t om,if_neg om]),hS⟩
 refine pu6<|nT ?_
 rcases bool_em (decide (x<0)) (decide (y<0)) with a0|a0
 ·refine cF _ (congrArg Bool.not (show ((decide (x<0))==(decide (y<0)))=true from by simpa using a0)) ?_
  refine kS<|pu2<|zE<|retT [I (x.tdiv y)] ?_
  have hde:=a0;rw [decide_eq_decide] at hde
  exact ⟨congrArg (fun z=>Ending.returned (I z)) (by unfold floorV;rw [if_neg om,fdiv_t om,if_neg om]),hS⟩
 refine cT _ (congrArg Bool.not (show ((decide (x<0))==(decide (y<0)))=false from by simpa using a0)) ?_
 refine rE<|pu1<|sSub (x.tdiv y) 1<|pu1<|zS<|pu2<|zE<|retT [I ((x.tdiv y)-1)] ?_
 have hde:=a0;rw [decide_eq_decide] at hde
 exact ⟨congrArg (fun z=>Ending.returned (I z)) (by unfold floorV;rw [if_neg om,fdiv_t om,if_pos ⟨om,om⟩]),hS⟩
theorem r14_apply (o:POp) (x:Int) (y:Int) (a:Int) (b:Int) (hx:-17592186044416<=x/\x<=17592186044416) (hy:-17592186044416<=y/\y<=17592186044416) (hc:0<=o.code/\o.code<=11) (ho:argP o) (hS:Sat W w (H::F)):
  Ro prog 207 #[.agg #[I o.code,I o.arg],I x,I y,I a,I b] (.tuple #[I (appV o x y a b), .bool (decide (appOK o x y a b))]) W w (H::F):=by
 refine callsA 79 func207 rfl<|sR<|sBox hS (.agg #[I o.code,I o.arg]) #[I o.code,I o.arg] fun _ _ a0=>pu2<|zS<|pu2<|zQ<|pu1<|sL a0 0 0 (I o.code) (isAgg3 _)<|nT<|blockE<|sR<|pu2<|nT<|cE o.code 0 (fun c0=>?_) (fun c0=>?_)
 ·refine rE<|pu2<|nB<|sR<|pu4<|gY<|cR call205 (r7_acc a a0.flat) fun _ d0=>pu3<|zE<|retT [I a, .bool (decide ((-17592186044416:Int)<=a/\a<=(17592186044416:Int)))] ?_
  have e0:=(d0.dropAt 0 rfl)
  have hv:appV o x y a b=a:=(by unfold appV;rw [if_pos om])
  have hok:decide (appOK o x y a b)=decide ((-17592186044416:Int)<=a/\a<=(17592186044416:Int)):=by rw [Bool.eq_iff_iff,decide_eq_true_eq];unfold appOK accP;rw [hv];simp only [decide_eq_true_eq];exact ⟨fun h=>h.2,fun h=>⟨fun h5=>by omega,h⟩⟩
  exact ⟨by rw [hok,hv];rfl,e0⟩
 refine sR<|pu2<|nT<|cE o.code 1 (fun f0=>?_) (fun f0=>?_)
 ·refine rE<|pu2<|nB<|sR<|pu4<|gY<|cR call205 (r7_acc b a0.flat) fun _ g0=>pu3<|zE<|retT [I b, .bool (decide ((-17592186044416:Int)<=b/\b<=(17592186044416:Int)))] ?_
  have h0:=(g0.dropAt 0 rfl)
  have hv:appV o x y a b=b:=(by unfold appV;rw [if_neg om,if_pos om])
  have hok:decide (appOK o x y a b)=decide ((-17592186044416:Int)<=b/\b<=(17592186044416:Int)):=by rw [Bool.eq_iff_iff,decide_eq_true_eq];unfold appOK accP;rw [hv];simp only [decide_eq_true_eq];exact ⟨fun h=>h.2,fun h=>⟨fun h5=>by omega,h⟩⟩
  exact ⟨by rw [hok,hv];rfl,h0⟩
 refine sR<|pu2<|nT<|cE o.code 2 (fun i0=>?_) (fun i0=>?_)
 ·refine rE<|pu1<|sL a0 0 1 (I o.arg) (isAgg3 _)<|pu1<|nB<|sR<|pu4<|gY<|cR call205 (r7_acc o.arg a0.flat) fun _ j0=>pu3<|zE<|retT [I o.arg, .bool (decide ((-17592186044416:Int)<=o.arg/\o.arg<=(17592186044416:Int)))] ?_
  have k0:=(j0.dropAt 0 rfl)
  have hv:appV o x y a b=o.arg:=(by unfold appV;rw [if_neg om,if_neg om,if_pos om])
  have hok:decide (appOK o x y a b)=decide ((-17592186044416:Int)<=o.arg/\o.arg<=(17592186044416:Int)):=by rw [Bool.eq_iff_iff,decide_eq_true_eq];unfold appOK accP;rw [hv];simp only [decide_eq_true_eq];exact ⟨fun h=>h.2,fun h=>⟨fun h5=>by omega,h⟩⟩
  exact ⟨by rw [hok,hv];rfl,k0⟩
 refine sR<|pu2<|nT<|cE o.code 3 (fun l0=>?_) (fun l0=>?_)
 ·refine rE<|pu2<|sAdd x y<|pu1<|nB<|sR<|pu4<|gY<|cR call205 (r7_acc (x+y) a0.flat) fun _ m0=>pu3<|zE<|retT [I (x+y), .bool (decide ((-17592186044416:Int)<=(x+y)/\(x+y)<=(17592186044416:Int)))] ?_
  have n0:=(m0.dropAt 0 rfl)
  have hv:appV o x y a b=(x+y):=(by unfold appV;rw [if_neg om,if_neg om,if_neg om,if_pos om])
  have hok:decide (appOK o x y a b)=decide ((-17592186044416:Int)<=(x+y)/\(x+y)<=(17592186044416:Int)):=by rw [Bool.eq_iff_iff,decide_eq_true_eq];unfold appOK accP;rw [hv];simp only [decide_eq_true_eq];exact ⟨fun h=>h.2,fun h=>⟨fun h5=>by omega,h⟩⟩
  exact ⟨by rw [hok,hv];rfl,n0⟩
 refine sR<|pu2<|nT<|cE o.code 4 (fun o0=>?_) (fun o0=>?_)
 ·refine rE<|pu2<|sSub x y<|pu1<|nB<|sR<|pu4<|gY<|cR call205 (r7_acc (x-y) a0.flat) fun _ p0=>pu3<|zE<|retT [I (x-y), .bool (decide ((-17592186044416:Int)<=(x-y)/\(x-y)<=(17592186044416:Int)))] ?_
  have q0:=(p0.dropAt 0 rfl)
  have hv:appV o x y a b=(x-y):=(by unfold appV;rw [if_neg om,if_neg om,if_neg om,if_neg om,if_pos om])
  have hok:decide (appOK o x y a b)=decide ((-17592186044416:Int)<=(x-y)/\(x-y)<=(17592186044416:Int)):=by rw [Bool.eq_iff_iff,decide_eq_true_eq];unfold appOK accP;rw [hv];simp only [decide_eq_true_eq];exact ⟨fun h=>h.2,fun h=>⟨fun h5=>by omega,h⟩⟩
  exact ⟨by rw [hok,hv];rfl,q0⟩
 refine sR<|pu2<|nT<|cE o.code 5 (fun r0=>?_) (fun r0=>?_)
 ·refine rE<|pu2<|cR call223 (r14_times x y (od) (od) a0.flat) fun _ b0=>pu5<|nB<|sR<|pu3<|sB 75 (timesOK x y) (fun s0=>?_) (fun s0=>?_)
  rotate_left
  ·refine pu5<|zE<|retT [I (timesV x y), .bool false] ?_
   have t0:=(b0.dropAt 0 rfl)
   have hv:appV o x y a b=(timesV x y):=(by unfold appV;rw [if_neg om,if_neg om,if_neg om,if_neg om,if_neg om,if_pos om])
   have hok:decide (appOK o x y a b)=false:=decide_eq_false (fun h=>by have h1:=h.1 om;simp_all)
   exact ⟨by rw [hok,hv];rfl,t0⟩
  refine pu1<|gY<|cR call205 (r7_acc (timesV x y) b0.flat) fun _ u0=>pu3<|zE<|retT [I (timesV x y), .bool (decide ((-17592186044416:Int)<=(timesV x y)/\(timesV x y)<=(17592186044416:Int)))] ?_
  have v0:=(u0.dropAt 0 rfl)
  have hv:appV o x y a b=(timesV x y):=(by unfold appV;rw [if_neg om,if_neg om,if_neg om,if_neg om,if_neg om,if_pos om])
  have hok:decide (appOK o x y a b)=decide ((-17592186044416:Int)<=(timesV x y)/\(timesV x y)<=(17592186044416:Int)):=by rw [Bool.eq_iff_iff,decide_eq_true_eq];unfold appOK accP;rw [hv];simp only [decide_eq_true_eq];exact ⟨fun h=>h.2,fun h=>⟨fun _=>by simp_all,h⟩⟩
  exact ⟨by rw [hok,hv];rfl,v0⟩
 refine sR<|pu2<|nT<|cE o.code 6 (fun w0=>?_) (fun w0=>?_)
 ·refine rE<|pu2<|stepY (I (min x y)) rfl rfl (Y_min2 x y rfl rfl kr kr)<|pu1<|nB<|sR<|pu4<|gY<|cR call205 (r7_acc (min x y) a0.flat) fun _ x0=>pu3<|zE<|retT [I (min x y), .bool (decide ((-17592186044416:Int)<=(min x y)/\(min x y)<=(17592186044416:Int)))] ?_
  have y0:=(x0.dropAt 0 rfl)
  have hv:appV o x y a b=(min x y):=(by unfold appV;rw [if_neg om,if_neg om,if_neg om,if_neg om,if_neg om,if_neg om,if_pos om])
  have hok:decide (appOK o x y a b)=decide ((-17592186044416:Int)<=(min x y)/\(min x y)<=(17592186044416:Int)):=by rw [Bool.eq_iff_iff,decide_eq_true_eq];unfold appOK accP;rw [hv];simp only [decide_eq_true_eq];exact ⟨fun h=>h.2,fun h=>⟨fun h5=>by omega,h⟩⟩
  exact ⟨by rw [hok,hv];rfl,y0⟩
 refine sR<|pu2<|nT<|cE o.code 7 (fun z0=>?_) (fun z0=>?_)
 ·refine rE<|pu2<|stepY (I (max x y)) rfl rfl (Y_max2 x y rfl rfl kr kr)<|pu1<|nB<|sR<|pu4<|gY<|cR call205 (r7_acc (max x y) a0.flat) fun _ a1=>pu3<|zE<|retT [I (max x y), .bool (decide ((-17592186044416:Int)<=(max x y)/\(max x y)<=(17592186044416:Int)))] ?_
  have b1:=(a1.dropAt 0 rfl)
  have hv:appV o x y a b=(max x y):=(by unfold appV;rw [if_neg om,if_neg om,if_neg om,if_neg om,if_neg om,if_neg om,if_neg om,if_pos om])
  have hok:decide (appOK o x y a b)=decide ((-17592186044416:Int)<=(max x y)/\(max x y)<=(17592186044416:Int)):=by rw [Bool.eq_iff_iff,decide_eq_true_eq];unfold appOK accP;rw [hv];simp only [decide_eq_true_eq];exact ⟨fun h=>h.2,fun h=>⟨fun h5=>by omega,h⟩⟩
  exact ⟨by rw [hok,hv];rfl,b1⟩
 refine sR<|pu2<|nT<|cE o.code 8 (fun c1=>?_) (fun c1=>?_)
 ·refine rE<|pu2<|sSub x y<|cR call224 (r14_abs (x-y) (od) a0.flat) fun _ d1=>pu1<|nB<|sR<|pu4<|gY<|cR call205 (r7_acc (((x-y).natAbs:Nat):Int) d1.flat) fun _ e1=>pu3<|zE<|retT [I (((x-y).natAbs:Nat):Int), .bool (decide ((-17592186044416:Int)<=(((x-y).natAbs:Nat):Int)/\(((x-y).natAbs:Nat):Int)<=(17592186044416:Int)))] ?_
  have f1:=(e1.dropAt 0 rfl)
  have hv:appV o x y a b=(((x-y).natAbs:Nat):Int):=(by unfold appV;rw [if_neg om,if_neg om,if_neg om,if_neg om,if_neg om,if_neg om,if_neg om,if_neg om,if_pos om])
  have hok:decide (appOK o x y a b)=decide ((-17592186044416:Int)<=(((x-y).natAbs:Nat):Int)/\(((x-y).natAbs:Nat):Int)<=(17592186044416:Int)):=by rw [Bool.eq_iff_iff,decide_eq_true_eq];unfold appOK accP;rw [hv];simp only [decide_eq_true_eq];exact ⟨fun h=>h.2,fun h=>⟨fun h5=>by omega,h⟩⟩
  exact ⟨by rw [hok,hv];rfl,f1⟩
 refine sR<|pu2<|nT<|cE o.code 9 (fun g1=>?_) (fun g1=>?_)
 ·refine rE<|pu2<|cR call225 (r14_floor x y (od) (od) a0.flat) fun _ i1=>pu1<|nB<|sR<|pu4<|gY<|cR call205 (r7_acc (floorV x y) i1.flat) fun _ j1=>pu3<|zE<|retT [I (floorV x y), .bool (decide ((-17592186044416:Int)<=(floorV x y)/\(floorV x y)<=(17592186044416:Int)))] ?_
  have k1:=(j1.dropAt 0 rfl)
  have hv:appV o x y a b=(floorV x y):=(by unfold appV;rw [if_neg om,if_neg om,if_neg om,if_neg om,if_neg om,if_neg om,if_neg om,if_neg om,if_neg om,if_pos om])
  have hok:decide (appOK o x y a b)=decide ((-17592186044416:Int)<=(floorV x y)/\(floorV x y)<=(17592186044416:Int)):=by rw [Bool.eq_iff_iff,decide_eq_true_eq];unfold appOK accP;rw [hv];simp only [decide_eq_true_eq];exact ⟨fun h=>h.2,fun h=>⟨fun h5=>by omega,h⟩⟩
  exact ⟨by rw [hok,hv];rfl,k1⟩
 refine sR<|pu2<|nT<|cE o.code 10 (fun l1=>?_) (fun l1=>?_)
 ·refine rE<|pu2<|sL a0 0 1 (I o.arg) (isAgg3 _)<|cR call172 (r7_shift x o.arg a0.flat) fun _ m1=>pu1<|nB<|sR<|pu4<|gY<|cR call205 (r7_acc (shiftV x o.arg) m1.flat) fun _ n1=>pu3<|zE<|retT [I (shiftV x o.arg), .bool (decide ((-17592186044416:Int)<=(shiftV x o.arg)/\(shiftV x o.arg)<=(17592186044416:Int)))] ?_
  have o1:=(n1.dropAt 0 rfl)
  have hv:appV o x y a b=(shiftV x o.arg):=(by unfold appV;rw [if_neg om,if_neg om,if_neg om,if_neg om,if_neg om,if_neg om,if_neg om,if_neg om,if_neg om,if_neg om,if_pos om])
  have hok:decide (appOK o x y a b)=decide ((-17592186044416:Int)<=(shiftV x o.arg)/\(shiftV x o.arg)<=(17592186044416:Int)):=by rw [Bool.eq_iff_iff,decide_eq_true_eq];unfold appOK accP;rw [hv];simp only [decide_eq_true_eq];exact ⟨fun h=>h.2,fun h=>⟨fun h5=>by omega,h⟩⟩
  exact ⟨by rw [hok,hv];rfl,o1⟩
 refine rE<|pu1<|cR call224 (r14_abs x (od) a0.flat) fun _ p1=>pu1<|nB<|sR<|pu4<|gY<|cR call205 (r7_acc (x.natAbs:Int) p1.flat) fun _ q1=>pu3<|zE<|retT [I (x.natAbs:Int), .bool (decide ((-17592186044416:Int)<=(x.natAbs:Int)/\(x.natAbs:Int)<=(17592186044416:Int)))] ?_
 have r1:=(q1.dropAt 0 rfl)
 have hv:appV o x y a b=(x.natAbs:Int):=(by unfold appV;rw [if_neg om,if_neg om,if_neg om,if_neg om,if_neg om,if_neg om,if_neg om,if_neg om,if_neg om,if_neg om,if_neg om])
 have hok:decide (appOK o x y a b)=decide ((-17592186044416:Int)<=(x.natAbs:Int)/\(x.natAbs:Int)<=(17592186044416:Int)):=by rw [Bool.eq_iff_iff,decide_eq_true_eq];unfold appOK accP;rw [hv];simp only [decide_eq_true_eq];exact ⟨fun h=>h.2,fun h=>⟨fun h5=>by omega,h⟩⟩
 exact ⟨by rw [hok,hv];rfl,r1⟩
theorem r14_eval (al:Option Addr) (nl kl:Nat) (l:List POp) (a:Int) (b:Int) (hl:RdT encPOp 2 [H] al nl kl l) (hlc:opsCode l true=0) (ha:0<=a/\a<=4294967296) (hb:0<=b/\b<=4294967296) (hS:Sat W w (H::F)):
  Ro prog 175 #[.slice al nl kl,I a,I b] (.tuple #[I ((runV l a b).1),I ((runV l a b).2)]) W w (H::F):=by
 have hl_l:=hl.le;have hn_l:=hl.len
 obtain ⟨hx0,hx1,hx32⟩:=opsCode_go hlc
 refine callsA 90 func175 rfl<|sR<|pu2<|zQ<|pu1<|cR call203 (r14_valid al nl kl l true (RdT.flat (hl.up 0 (by rfl))) hS.flat) fun _ v0=>pu1<|zS<|pu2<|nT ?_
 have w0:((opsCode l true):Int)=0:=om
 refine cF _ (bne_eq_false_iff_eq.2 w0)<|kT<|seqE<|sR<|pu3<|sD 23 (a<0) (fun x0=>?_) (fun x0=>?_)
 ·refine pu11<|zC<|pu2<|zR<|retT [I 0,I 2] ?_
  exfalso;omega
 refine pu4<|sD 27 (a>4294967296) (fun y0=>?_) (fun y0=>?_)
 ·refine pu7<|zC<|pu2<|zR<|retT [I 0,I 2] ?_
  exfalso;omega
 refine pu4<|sD 31 (b<0) (fun z0=>?_) (fun z0=>?_)
 ·refine pu3<|zC<|pu2<|zR<|retT [I 0,I 2] ?_
  exfalso;omega
 refine pu3<|nT<|cD (b>4294967296) (fun a1=>?_) (fun a1=>?_)
 ·refine sR<|pu2<|zR<|retT [I 0,I 2] ?_
  exfalso;omega
 refine kS<|pu1<|zQ<|pu1<|nT<|blockE ?_
 have b1:=Sat.nilc v0
 refine loopA (γ:=Nat×(List Int)×(Option Addr)×Nat×Nat×Chunk) (fun ⟨i,zs,azs,nzs,kzs,czs⟩=>[(0, .slice al nl kl),(1,I a),(2,I b),(10,I (i:Int)),(9, .slice azs nzs kzs)]) (fun ⟨i,zs,azs,nzs,kzs,czs⟩ w=>Sat W w (czs::H::F)/\i<=nl/\(rnGo a b l []=rnGo a b (l.drop i) zs)/\(opsGo true (l.drop i) (zs.length:Int)=0)/\(∀z∈zs,-17592186044416<=z/\z<=17592186044416)/\(zs.length<=i)/\OwnT Go.E.encI 3 1 azs nzs kzs zs czs) (fun ⟨i,zs,azs,nzs,kzs,czs⟩=>nl-i) (0,[],none,0,0,[]) ⟨b1,om,by rfl,(opsCode_go hlc).1,(by intro z hz;cases hz),by simp,(OwnT.nil (enc:=Go.E.encI) (E:=3) (sz:=1) fR)⟩ ?_
 rintro ⟨i,zs,azs,nzs,kzs,czs⟩ ρ _ ⟨h0,hi,hG,hH,hAc,hzl,hOzs⟩
 have hn_zs:=hOzs.len;have hl_zs:=hOzs.le
 refine seqE<|sR<|pu4<|nT<|cD ((i:Int)<(nl:Int)) (fun d1=>?_) (fun d1=>?_)
 rotate_left
 ·refine exitE<|xB<|tN<|seqE ?_
  have hh:opsGo true (l.drop i) zs.length=0:=hH
  rw [List.drop_of_length_le om] at hh;have hz1:zs.length=1:=(by unfold opsGo at hh;split at hh<;>omega)
  refine rE<|pu1<|sIdxO hOzs 0 0 runUnderlying22 sizeOf3 fun g0 _ _ o0 e1 _=>?_
  have hac_x_107:=hAc g0 (List.mem_of_getElem? o0)
  refine sLp h0 (e1.up 0 rfl) 0 (I g0) (isAgg3 _)<|pu2<|zE<|retT [I g0,I 0] ?_
  have f1:=(h0.dropAt 0 rfl)
  have hend:rnGo a b l []=some zs:=by rw [hG,List.drop_of_length_le om];rfl
  have hz0:zs[0]?=some g0:=o0
  exact ⟨by rw [show runV l a b=(g0,0) from by unfold runV;rw [hend];dsimp only;rw [List.getD_eq_getElem?_getD,hz0];rfl];rfl,f1⟩
 refine kT<|seqE<|blockE<|sR<|pu2<|sIdx hl (i:Int) runUnderlying51 sizeOf75 fun a0 _ _ b0 g1=>?_
 rw [Int.toNat_natCast] at b0
 obtain ⟨hob,hoa,hog⟩:=opsGo_zero (by rw [<-drop_at b0];exact hH)
 have htk_x_14:=takesV_bd a0.code;have hob2:(0<=a0.code/\a0.code<=11)/\takesV a0.code<=zs.length:=(by unfold opBad at hob;omega)
 refine pu1<|sLp h0 (g1.up 1 rfl) 0 (I a0.code) (isAgg3 _)<|cR call206 (r14_takes a0.code h0.flat) fun _ c0=>?_
 have c3:0<=(takesV a0.code)/\(takesV a0.code)<=2:=takesV_bd _
 refine pu1<|zS<|pu2<|zQ<|pu2<|nT<|cE (takesV a0.code) 2 (fun h1=>?_) (fun h1=>?_)
 ·refine rE<|pu3<|sSub (nzs:Int) 1<|sIdxO hOzs ((nzs:Int)-1) (((nzs:Int)-1)).toNat runUnderlying22 sizeOf3 fun d0 _ _ l0 i1 _=>?_
  have hac_x_24:=hAc d0 (List.mem_of_getElem? l0)
  refine sLp c0 (i1.up 0 rfl) 0 (I d0) (isAgg3 _)<|pu1<|zQ<|pu2<|nT ?_
  have j1:((takesV a0.code):Int)>0:=om
  refine cT _ (decide_eq_true j1)<|rE<|pu4<|sSub (nzs:Int) (takesV a0.code)<|sIdxO hOzs ((nzs:Int)-(takesV a0.code)) (((nzs:Int)-(takesV a0.code))).toNat runUnderlying22 sizeOf3 fun e0 _ _ m0 k1 _=>?_
  have hac_x_31:=hAc e0 (List.mem_of_getElem? m0)
  refine sLp c0 (k1.up 0 rfl) 0 (I e0) (isAgg3 _)<|pu1<|zS<|pu2<|sIdx hl (i:Int) runUnderlying51 sizeOf75 fun l1 _ _ p0 m1=>?_
  rw [Int.toNat_natCast] at p0
  obtain rfl:a0=l1:=Option.some.inj (b0.symm.trans p0)
  refine sLpA c0 (m1.up 1 rfl) 0 [I a0.code,I a0.arg] (isAgg75 _) (sizeOf75 _)<|pu4<|cR call207 (r14_apply a0 e0 d0 a b om om om hoa c0.flat) fun _ q0=>pu5<|zQ<|pu2<|nT<|cDn (appOK a0 e0 d0 a b) (fun i0=>?_) (fun i0=>?_)
  rotate_left
  ·refine sR<|pu2<|zE<|tR<|tK<|tR<|tK<|retT [I 0,I 11] ?_
   have n1:=(q0.dropAt 0 rfl)
   have hbad:rnGo a b l []=none:=by rw [hG,drop_at b0,rnGo,show stX a0 zs=e0 from (by unfold stX;rw [if_pos om,List.getD_eq_getElem?_getD,show zs.length-(takesV a0.code).toNat=((nzs:Int)-(takesV a0.code)).toNat by omega,m0];rfl),show stY a0 zs=d0 from (by unfold stY;rw [if_pos om,List.getD_eq_getElem?_getD,show zs.length-1=((nzs:Int)-1).toNat by omega,l0];rfl),if_neg i0]
   exact ⟨by rw [show runV l a b=(0,11) from by unfold runV;rw [hbad]];rfl,n1⟩
  refine kT<|rE<|pu4<|sSub (nzs:Int) (takesV a0.code)<|sSl none (some ((nzs:Int)-(takesV a0.code))) 0 ((((nzs:Int)-(takesV a0.code))).toNat) runUnderlying22 sizeOf3 rfl ⟨om,om⟩ om om ?_ (a:=azs) (len:=nzs) (cap:=kzs)
  have o1:=hOzs.part (lo:=0) (hi:=(((nzs:Int)-(takesV a0.code))).toNat) om om
  refine pu1<|sBS q0 #[I (appV a0 e0 d0 a b)] runUnderlying22 sizeOf3 zeroValue3 fun _ _ p1=>sApp (nb:=8) p1 o1 1 (RdT.blk (enc:=Go.E.encI) (sz:=1) (xs:=[(appV a0 e0 d0 a b)]) fR 1 0 rfl rfl rfl om) underlying22 (i:=Tryz.t3) kr fR fun q1 r1 s1 _ t1 u1=>pu1<|nB<|rE<|pu1<|sAdd (i:Int) 1<|pu1<|nT ?_
  have v1:=(u1.dropAt 0 rfl)
  exact ⟨(i+1,(((zs.drop 0).take ((((nzs:Int)-(takesV a0.code))).toNat-0))++[(appV a0 e0 d0 a b)]),q1,(((((nzs:Int)-(takesV a0.code))).toNat-0)+1),r1,s1),od,alA,v1,om,by rw [hG,drop_at b0,rnGo,show stX a0 zs=e0 from (by unfold stX;rw [if_pos om,List.getD_eq_getElem?_getD,show zs.length-(takesV a0.code).toNat=((nzs:Int)-(takesV a0.code)).toNat by omega,m0];rfl),show stY a0 zs=d0 from (by unfold stY;rw [if_pos om,List.getD_eq_getElem?_getD,show zs.length-1=((nzs:Int)-1).toNat by omega,l0];rfl),if_pos i0,show zs.take (zs.length-(takesV a0.code).toNat)=((zs.drop 0).take ((((nzs:Int)-(takesV a0.code))).toNat-0)) from by rw [List.drop_zero];congr 1;omega],by simp only [List.length_append,List.length_take,List.length_drop,List.length_cons,List.length_nil];rw [show (((min _ _+(0+1):Nat)):Int)=(zs.length:Int)+(1-takesV a0.code) from by omega];exact hog,(fun z hz=>(List.mem_append.1 hz).elim (fun h=>hAc z (List.mem_of_mem_drop (List.mem_of_mem_take h))) (fun h=>by rw [List.mem_singleton.1 h];exact i0.2)),by simp;omega,t1⟩
 refine kT<|seqE<|sR<|pu2<|nT<|cD ((takesV a0.code)>0) (fun w1=>?_) (fun w1=>?_)
 rotate_left
 ·refine kS<|pu2<|sIdx hl (i:Int) runUnderlying51 sizeOf75 fun x1 _ _ r0 y1=>?_
  rw [Int.toNat_natCast] at r0
  obtain rfl:a0=x1:=Option.some.inj (b0.symm.trans r0)
  refine sLpA c0 (y1.up 1 rfl) 0 [I a0.code,I a0.arg] (isAgg75 _) (sizeOf75 _)<|pu4<|cR call207 (r14_apply a0 0 0 a b om om om hoa c0.flat) fun _ s0=>pu5<|zQ<|pu2<|nT<|cDn (appOK a0 0 0 a b) (fun j0=>?_) (fun j0=>?_)
  rotate_left
  ·refine sR<|pu2<|zE<|tR<|tK<|tR<|tK<|retT [I 0,I 11] ?_
   have z1:=(s0.dropAt 0 rfl)
   have hbad:rnGo a b l []=none:=by rw [hG,drop_at b0,rnGo,show stX a0 zs=0 from (by unfold stX;rw [if_neg om]),show stY a0 zs=0 from (by unfold stY;rw [if_neg om]),if_neg j0]
   exact ⟨by rw [show runV l a b=(0,11) from by unfold runV;rw [hbad]];rfl,z1⟩
  refine kT<|rE<|pu4<|sSub (nzs:Int) (takesV a0.code)<|sSl none (some ((nzs:Int)-(takesV a0.code))) 0 ((((nzs:Int)-(takesV a0.code))).toNat) runUnderlying22 sizeOf3 rfl ⟨om,om⟩ om om ?_ (a:=azs) (len:=nzs) (cap:=kzs)
  have a2:=hOzs.part (lo:=0) (hi:=(((nzs:Int)-(takesV a0.code))).toNat) om om
  refine pu1<|sBS s0 #[I (appV a0 0 0 a b)] runUnderlying22 sizeOf3 zeroValue3 fun _ _ b2=>sApp (nb:=8) b2 a2 1 (RdT.blk (enc:=Go.E.encI) (sz:=1) (xs:=[(appV a0 0 0 a b)]) fR 1 0 rfl rfl rfl om) underlying22 (i:=Tryz.t3) kr fR fun c2 d2 e2 _ f2 g2=>pu1<|nB<|rE<|pu1<|sAdd (i:Int) 1<|pu1<|nT ?_
  have h2:=(g2.dropAt 0 rfl)
  exact ⟨(i+1,(((zs.drop 0).take ((((nzs:Int)-(takesV a0.code))).toNat-0))++[(appV a0 0 0 a b)]),c2,(((((nzs:Int)-(takesV a0.code))).toNat-0)+1),d2,e2),od,alA,h2,om,by rw [hG,drop_at b0,rnGo,show stX a0 zs=0 from (by unfold stX;rw [if_neg om]),show stY a0 zs=0 from (by unfold stY;rw [if_neg om]),if_pos j0,show zs.take (zs.length-(takesV a0.code).toNat)=((zs.drop 0).take ((((nzs:Int)-(takesV a0.code))).toNat-0)) from by rw [List.drop_zero];congr 1;omega],by simp only [List.length_append,List.length_take,List.length_drop,List.length_cons,List.length_nil];rw [show (((min _ _+(0+1):Nat)):Int)=(zs.length:Int)+(1-takesV a0.code) from by omega];exact hog,(fun z hz=>(List.mem_append.1 hz).elim (fun h=>hAc z (List.mem_of_mem_drop (List.mem_of_mem_take h))) (fun h=>by rw [List.mem_singleton.1 h];exact j0.2)),by simp;omega,f2⟩
 refine rE<|pu4<|sSub (nzs:Int) (takesV a0.code)<|sIdxO hOzs ((nzs:Int)-(takesV a0.code)) (((nzs:Int)-(takesV a0.code))).toNat runUnderlying22 sizeOf3 fun f0 _ _ n0 i2 _=>?_
 have hac_x_59:=hAc f0 (List.mem_of_getElem? n0)
 refine sLp c0 (i2.up 0 rfl) 0 (I f0) (isAgg3 _)<|pu1<|zS<|pu2<|sIdx hl (i:Int) runUnderlying51 sizeOf75 fun j2 _ _ t0 k2=>?_
 rw [Int.toNat_natCast] at t0
 obtain rfl:a0=j2:=Option.some.inj (b0.symm.trans t0)
 refine sLpA c0 (k2.up 1 rfl) 0 [I a0.code,I a0.arg] (isAgg75 _) (sizeOf75 _)<|pu4<|cR call207 (r14_apply a0 f0 0 a b om om om hoa c0.flat) fun _ u0=>pu5<|zQ<|pu2<|nT<|cDn (appOK a0 f0 0 a b) (fun k0=>?_) (fun k0=>?_)
 rotate_left
 ·refine sR<|pu2<|zE<|tR<|tK<|tR<|tK<|retT [I 0,I 11] ?_
  have l2:=(u0.dropAt 0 rfl)
  have hbad:rnGo a b l []=none:=by rw [hG,drop_at b0,rnGo,show stX a0 zs=f0 from (by unfold stX;rw [if_pos om,List.getD_eq_getElem?_getD,show zs.length-(takesV a0.code).toNat=((nzs:Int)-(takesV a0.code)).toNat by omega,n0];rfl),show stY a0 zs=0 from (by unfold stY;rw [if_neg om]),if_neg k0]
  exact ⟨by rw [show runV l a b=(0,11) from by unfold runV;rw [hbad]];rfl,l2⟩
 refine kT<|rE<|pu4<|sSub (nzs:Int) (takesV a0.code)<|sSl none (some ((nzs:Int)-(takesV a0.code))) 0 ((((nzs:Int)-(takesV a0.code))).toNat) runUnderlying22 sizeOf3 rfl ⟨om,om⟩ om om ?_ (a:=azs) (len:=nzs) (cap:=kzs)
 have m2:=hOzs.part (lo:=0) (hi:=(((nzs:Int)-(takesV a0.code))).toNat) om om
 refine pu1<|sBS u0 #[I (appV a0 f0 0 a b)] runUnderlying22 sizeOf3 zeroValue3 fun _ _ n2=>sApp (nb:=8) n2 m2 1 (RdT.blk (enc:=Go.E.encI) (sz:=1) (xs:=[(appV a0 f0 0 a b)]) fR 1 0 rfl rfl rfl om) underlying22 (i:=Tryz.t3) kr fR fun o2 p2 q2 _ r2 s2=>pu1<|nB<|rE<|pu1<|sAdd (i:Int) 1<|pu1<|nT ?_
 have t2:=(s2.dropAt 0 rfl)
 exact ⟨(i+1,(((zs.drop 0).take ((((nzs:Int)-(takesV a0.code))).toNat-0))++[(appV a0 f0 0 a b)]),o2,(((((nzs:Int)-(takesV a0.code))).toNat-0)+1),p2,q2),od,alA,t2,om,by rw [hG,drop_at b0,rnGo,show stX a0 zs=f0 from (by unfold stX;rw [if_pos om,List.getD_eq_getElem?_getD,show zs.length-(takesV a0.code).toNat=((nzs:Int)-(takesV a0.code)).toNat by omega,n0];rfl),show stY a0 zs=0 from (by unfold stY;rw [if_neg om]),if_pos k0,show zs.take (zs.length-(takesV a0.code).toNat)=((zs.drop 0).take ((((nzs:Int)-(takesV a0.code))).toNat-0)) from by rw [List.drop_zero];congr 1;omega],by simp only [List.length_append,List.length_take,List.length_drop,List.length_cons,List.length_nil];rw [show (((min _ _+(0+1):Nat)):Int)=(zs.length:Int)+(1-takesV a0.code) from by omega];exact hog,(fun z hz=>(List.mem_append.1 hz).elim (fun h=>hAc z (List.mem_of_mem_drop (List.mem_of_mem_take h))) (fun h=>by rw [List.mem_singleton.1 h];exact k0.2)),by simp;omega,r2⟩
theorem r14_tile (p:Plane) (u0:Plane) (two:Bool) (al:Option Addr) (nl kl:Nat) (l:List POp) (out:Int) (r:Rct) (hp:Plane.Ok [H] p) (hu0:Plane.Ok [H] u0) (hl:RdT encPOp 2 [H] al nl kl l) (hS:Sat W w (H::F)):
  Calls prog 133 #[.agg (encPlane p).toArray, .agg (encPlane u0).toArray, .bool two, .slice al nl kl,I out, .agg (encRct r).toArray] w fun e w'=>∃(q:Plane) (c:Int) (G:Chunk),e= .returned (.tuple #[.agg (encPlane q).toArray,I c])/\q.Ok [G]/\(q.v,c)=pwT p.v u0.v two l out r/\Sat W w' (G::H::F):=by
 have hl_p_pix:=hp.pix.le;have hn_p_pix:=hp.pix.len
 have hl_u0_pix:=hu0.pix.le;have hn_u0_pix:=hu0.pix.len
 have hl_l:=hl.le;have hn_l:=hl.len
 refine callsA 151 func133 rfl<|sR<|sBox hS (.agg (encPlane p).toArray) (encPlane p).toArray fun d0 _ f2=>sBox f2 (.agg (encPlane u0).toArray) (encPlane u0).toArray fun e0 _ g2=>sBox g2 (.agg (encRct r).toArray) (encRct r).toArray fun c0 _ i2=>sAlloc i2 zeroValue38 fun g0 _ q1=>pu1<|nT ?_
 refine cutA (γ:=Unit) (fun _=>[(2, .bool two),(3, .slice al nl kl),(4,I out),(6,Pt d0 0),(7,Pt e0 0),(11,Pt c0 0),(12,Pt g0 0)]) (fun _ w=>Sat W w ([(g0, .cells #[I 0,I 0,I 0,nS] 38 (0,0))]::[(c0, .cells (encRct r).toArray 45 (0,0))]::[(e0, .cells (encPlane u0).toArray 38 (0,0))]::[(d0, .cells (encPlane p).toArray 38 (0,0))]::H::F)/\(planeOK p.v=true/\(two=true->planeOK u0.v=true))) ?_ ?_
 ·refine sR<|lA q1 3 0 4 (isAgg38 _) (sizeOf38 _)<|cR call76 (r4_valid p ⟨(RdT.flat (hp.pix.up 4 (by rfl)))⟩ q1.flat) fun _ f1=>pu2<|sBn 25 (planeOK p.v) (fun g1=>?_) (fun g1=>?_)
  rotate_left
  ·refine pu7<|zC<|pu1<|sTl f1 0 [I 0,I 0,I 0,nS] sizeOf38 fun _ r1=>pu1<|zR<|retC r1 0 [I 0,I 0,I 0,nS] (I 1) (isAgg38 _) (sizeOf38 _) ?_
   have hC:pwC p.v u0.v two l out r=1:=pwC_1 (fun h=>g1 h.1)
   have j2:=(r1.drops [0,0,0,0])
   have k2:Sat W _ ([]::H::F):=Sat.nilc j2
   exact ⟨(⟨0,0,0,⟨none,0,0,[]⟩⟩:Plane),1,_,rfl,⟨RdT.nil (enc:=Go.E.encI) (sz:=1) fR [[]]⟩,(by rw [pwT_eq,okT_c hC om];rfl),k2⟩
  refine pu2<|sB 27 two (fun j1=>?_) (fun j1=>?_)
  rotate_left
  ·exact pu5<|nT<|cFf<|kT<|⟨(),alA,f1,⟨g1,fun h=>absurd h j1⟩⟩
  refine gY<|lA f1 2 0 4 (isAgg38 _) (sizeOf38 _)<|gY<|cR call76 (r4_valid u0 ⟨(RdT.flat (hu0.pix.up 4 (by rfl)))⟩ f1.flat) fun _ s1=>pu3<|nT<|cBn (planeOK u0.v) (fun k1=>?_) (fun k1=>?_)
  ·exact kT<|⟨(),alA,s1,⟨g1,fun _=>k1⟩⟩
  refine sR<|pu1<|sTl s1 0 [I 0,I 0,I 0,nS] sizeOf38 fun _ t1=>pu1<|zR<|retC t1 0 [I 0,I 0,I 0,nS] (I 1) (isAgg38 _) (sizeOf38 _) ?_
  have hC:pwC p.v u0.v two l out r=1:=pwC_1 (fun h=>k1 (h.2 j1))
  have l2:=(t1.drops [0,0,0,0])
  have m2:Sat W _ ([]::H::F):=Sat.nilc l2
  exact ⟨(⟨0,0,0,⟨none,0,0,[]⟩⟩:Plane),1,_,rfl,⟨RdT.nil (enc:=Go.E.encI) (sz:=1) fR [[]]⟩,(by rw [pwT_eq,okT_c hC om];rfl),m2⟩
 rintro _ ρ _ ⟨l1,hP⟩
 refine seqE<|sR<|pu3<|sL l1 3 2 (I p.max_) (isAgg3 _)<|pu1<|sL l1 2 2 (I u0.max_) (isAgg3 _)<|pu1<|cR call169 (r14_check al nl kl l two p.max_ u0.max_ out (RdT.flat (hl.up 4 (by rfl))) l1.flat) fun _ b0=>pu1<|zS<|pu2<|nT<|cN (pwCode l two p.max_ u0.max_ out) 0 (fun n2=>?_) (fun n2=>?_)
 rotate_left
 ·refine sR<|pu2<|sTl b0 0 [I 0,I 0,I 0,nS] sizeOf38 fun _ u1=>pu1<|zR<|retC u1 0 [I 0,I 0,I 0,nS] (I (pwCode l two p.max_ u0.max_ out)) (isAgg38 _) (sizeOf38 _) ?_
  have hC:pwC p.v u0.v two l out r=(pwCode l two p.max_ u0.max_ out):=pwC_c hP rfl (by simp only [Plane.v] at*;omega)
  have o2:=(u1.drops [0,0,0,0])
  have p2:Sat W _ ([]::H::F):=Sat.nilc o2
  exact ⟨(⟨0,0,0,⟨none,0,0,[]⟩⟩:Plane),(pwCode l two p.max_ u0.max_ out),_,rfl,⟨RdT.nil (enc:=Go.E.encI) (sz:=1) fR [[]]⟩,(by rw [pwT_eq,okT_c hC om];rfl),p2⟩
 refine kT<|seqE<|cutA (γ:=Unit) (fun _=>[(2, .bool two),(3, .slice al nl kl),(4,I out),(6,Pt d0 0),(7,Pt e0 0),(11,Pt c0 0),(12,Pt g0 0),(72, .bool (decide (¬((two=true->p.w=u0.w/\p.h=u0.h)/\insP r ⟨0,0,p.w,p.h⟩/\¬(r.x0=0/\r.y0=0/\r.x1=0/\r.y1=0)))))]) (fun _ w=>Sat W w ([(g0, .cells #[I 0,I 0,I 0,nS] 38 (0,0))]::[(c0, .cells (encRct r).toArray 45 (0,0))]::[(e0, .cells (encPlane u0).toArray 38 (0,0))]::[(d0, .cells (encPlane p).toArray 38 (0,0))]::H::F)) ?_ ?_
 rotate_left
 ·rintro _ ρ _ q0
  refine cD (¬((two=true->p.w=u0.w/\p.h=u0.h)/\insP r ⟨0,0,p.w,p.h⟩/\¬(r.x0=0/\r.y0=0/\r.x1=0/\r.y1=0))) (fun m1=>?_) (fun m1=>?_)
  ·refine sR<|pu1<|sTl q0 0 [I 0,I 0,I 0,nS] sizeOf38 fun _ v1=>pu1<|zR<|retC v1 0 [I 0,I 0,I 0,nS] (I 8) (isAgg38 _) (sizeOf38 _) ?_
   have hsz:=(plane_sz hP.1).1;unfold sizeP at hsz;simp only [Plane.v] at hsz
   have hC:pwC p.v u0.v two l out r=8:=pwC_8 hP (by simp only [Plane.v] at*;omega) (fun h=>by have h2:=(ins_in (by simp only [Plane.v];omega) (by simp only [Plane.v];omega)).2 h.2;exact m1 ⟨h.1,h2.2,h2.1⟩)
   have q2:=(v1.drops [0,0,0,0])
   have r2:Sat W _ ([]::H::F):=Sat.nilc q2
   exact ⟨(⟨0,0,0,⟨none,0,0,[]⟩⟩:Plane),8,_,rfl,⟨RdT.nil (enc:=Go.E.encI) (sz:=1) fR [[]]⟩,(by rw [pwT_eq,okT_c hC om];rfl),r2⟩
  refine kT<|seqE ?_
  obtain ⟨hpo,hq9⟩:=hP;have hpc:pwCode l two p.v.max_ u0.v.max_ out=0:=(by simp only [Plane.v];omega);have hnn:=Classical.not_not.1 m1;have hoc:=pw_ops hpc;have hob:=opsCode_out hpc
  have hsz:=(plane_sz hpo).1;unfold sizeP at hsz;simp only [Plane.v] at hsz;have hri:rIn r p.w p.h:=(ins_in om om).1 ⟨hnn.2.2,hnn.2.1⟩;have hri0:=hri;unfold rIn at hri0
  obtain ⟨Wn,hW⟩:∃k:Nat,r.x1-r.x0=(k:Int):=⟨_,(Int.toNat_of_nonneg om).symm⟩;obtain ⟨Hn,hH⟩:∃k:Nat,r.y1-r.y0=(k:Int):=⟨_,(Int.toNat_of_nonneg om).symm⟩
  have hWb:1<=Wn/\Wn<=128/\1<=Hn/\Hn<=128:=om;have hWH:Hn*Wn<=4096:=by have h1:=rIn_area hri (by first|omega|assumption);rw [hW,hH] at h1;have h2:((Hn*Wn:Nat):Int)=(Wn:Int)*(Hn:Int):=(by push_cast;rw [Int.mul_comm]);omega
  have hWi:(r.x1-r.x0)*(r.y1-r.y0)=((Hn*Wn:Nat):Int):=by rw [hW,hH];push_cast;rw [Int.mul_comm]
  have hpl:p.v.pix.length=p.pix.n:=hn_p_pix
  obtain ⟨f,hf⟩:∃f:Int->Int->Int,f=fun i j=>pwX p.v u0.v two l out (r.x0+i) (r.y0+j):=⟨_,rfl⟩
  refine rE<|pu1<|sL q0 1 2 (I r.x1) (isAgg3 _)<|pu1<|sL q0 1 0 (I r.x0) (isAgg3 _)<|sSub r.x1 r.x0<|pu1<|sL q0 1 3 (I r.y1) (isAgg3 _)<|pu1<|sL q0 1 1 (I r.y0) (isAgg3 _)<|sSub r.y1 r.y0<|pu1<|cX call16 (r4_new (r.x1-r.x0) (r.y1-r.y0) out (by unfold sizeP;omega) q0.flat) ?_
  rintro _ _ ⟨w1,z1,a2,s2,rfl,n1,t2⟩
  have u2:=t2.unflat1;have hn_az_99:=n1.len;have hl_az_99:=n1.le
  refine pu3<|sAlloc u2 zeroValue38 fun k0 _ v2=>sTl v2 0 [I (r.x1-r.x0),I (r.y1-r.y0),I out, .slice w1 z1 a2] sizeOf38 fun _ b2=>pu1<|zQ<|pu1<|sL b2 3 1 (I r.y0) (isAgg3 _)<|pu1<|nT<|blockE ?_
  have w2:=(b2.pick 1 rfl)
  refine loopA (γ:=Nat×Int×(List Int)×(Option Addr)×Nat×Nat×Chunk) (fun ⟨i,yy,zs,azs,nzs,kzs,czs⟩=>[(2, .bool two),(3, .slice al nl kl),(4,I out),(6,Pt d0 0),(7,Pt e0 0),(11,Pt c0 0),(12,Pt g0 0),(15,Pt k0 0),(17,I yy)]) (fun ⟨i,yy,zs,azs,nzs,kzs,czs⟩ w=>Sat W w (czs::[(k0, .cells #[I (r.x1-r.x0),I (r.y1-r.y0),I out, .slice azs nzs kzs] 38 (0,0))]::[(g0, .cells #[I 0,I 0,I 0,nS] 38 (0,0))]::[(c0, .cells (encRct r).toArray 45 (0,0))]::[(e0, .cells (encPlane u0).toArray 38 (0,0))]::[(d0, .cells (encPlane p).toArray 38 (0,0))]::H::F)/\i<=Hn/\(yy=r.y0+(i:Int))/\(zs=gridN Wn f (i*Wn)++List.replicate (Hn*Wn-i*Wn) 0)/\OwnT Go.E.encI 3 1 azs nzs kzs zs czs) (fun ⟨i,yy,zs,azs,nzs,kzs,czs⟩=>Hn-i) (0,r.y0,(List.replicate ((r.x1-r.x0)*(r.y1-r.y0)).toNat 0),w1,z1,a2,s2) ⟨w2,om,om,(by rw [hWi,Int.toNat_natCast,Nat.zero_mul];rfl),n1⟩ ?_
  rintro ⟨i,yy,zs,azs,nzs,kzs,czs⟩ ρ _ ⟨r0,hi,hyy,hE,hOzs⟩
  have hn_zs:=hOzs.len;have hl_zs:=hOzs.le
  refine seqE<|sR<|pu2<|sL r0 3 3 (I r.y1) (isAgg3 _)<|pu1<|nT<|cD (yy<r.y1) (fun x2=>?_) (fun x2=>?_)
  rotate_left
  ·refine exitE<|xB<|tN<|sR<|lA r0 1 0 4 (isAgg38 _) (sizeOf38 _)<|sTl r0 2 [I (r.x1-r.x0),I (r.y1-r.y0),I out, .slice azs nzs kzs] sizeOf38 fun _ c2=>pu1<|zE<|retC c2 2 [I (r.x1-r.x0),I (r.y1-r.y0),I out, .slice azs nzs kzs] (I 0) (isAgg38 _) (sizeOf38 _) ?_
   have hz9:zs=gridN Wn f (Hn*Wn):=by rw [hE,show i=Hn by omega,Nat.sub_self,List.replicate_zero,List.append_nil]
   have hC:pwC p.v u0.v two l out r=0:=pwC_0 ⟨hpo,hq9⟩ hpc ⟨hnn.1,hri⟩
   exact ⟨(⟨(r.x1-r.x0),(r.y1-r.y0),out,⟨azs,nzs,kzs,zs⟩⟩:Plane),0,_,rfl,⟨(hOzs.rdAt (cs:=[czs]) 0 rfl)⟩,(by rw [pwT_eq,okT_0 hC,mk_pl hri hW hH (hf▸hz9)];rfl),(c2.drops [1,1,1,1,1])⟩
  refine kT<|seqE<|blockE<|sR<|pu1<|sL r0 3 0 (I r.x0) (isAgg3 _)<|pu1<|nT<|blockE ?_
  refine loopA (γ:=Nat×Int×(List Int)×(Option Addr)×Nat×Nat×Chunk) (fun ⟨j,xx,zt,azt,nzt,kzt,czt⟩=>[(2, .bool two),(3, .slice al nl kl),(4,I out),(6,Pt d0 0),(7,Pt e0 0),(11,Pt c0 0),(12,Pt g0 0),(15,Pt k0 0),(17,I yy),(18,I xx)]) (fun ⟨j,xx,zt,azt,nzt,kzt,czt⟩ w=>Sat W w (czt::[(k0, .cells #[I (r.x1-r.x0),I (r.y1-r.y0),I out, .slice azt nzt kzt] 38 (0,0))]::[(g0, .cells #[I 0,I 0,I 0,nS] 38 (0,0))]::[(c0, .cells (encRct r).toArray 45 (0,0))]::[(e0, .cells (encPlane u0).toArray 38 (0,0))]::[(d0, .cells (encPlane p).toArray 38 (0,0))]::H::F)/\j<=Wn/\(xx=r.x0+(j:Int))/\(zt=gridN Wn f (i*Wn+j)++List.replicate (Hn*Wn-(i*Wn+j)) 0)/\OwnT Go.E.encI 3 1 azt nzt kzt zt czt) (fun ⟨j,xx,zt,azt,nzt,kzt,czt⟩=>Wn-j) (0,r.x0,zs,azs,nzs,kzs,czs) ⟨r0,om,om,(by rw [Nat.add_zero];exact hE),hOzs⟩ ?_
  rintro ⟨j,xx,zt,azt,nzt,kzt,czt⟩ ρ _ ⟨m0,hj,hxx,hE2,hOzt⟩
  have hn_zt:=hOzt.len;have hl_zt:=hOzt.le
  have hzl2:zt.length=Hn*Wn:=by rw [hE2,List.length_append,grid_len,List.length_replicate];have h1:=Nat.mul_le_mul_right Wn (show i+1<=Hn by omega);rw [Nat.add_mul,Nat.one_mul] at h1;omega
  have hij:i*Wn+j<=Hn*Wn:=by have h1:=Nat.mul_le_mul_right Wn (show i+1<=Hn by omega);rw [Nat.add_mul,Nat.one_mul] at h1;omega
  have hij2:i*Wn+Wn<=Hn*Wn:=by have h1:=Nat.mul_le_mul_right Wn (show i+1<=Hn by omega);rw [Nat.add_mul,Nat.one_mul] at h1;omega
  have hpr:(yy-r.y0)*(r.x1-r.x0)=((i*Wn:Nat):Int):=by rw [show yy-r.y0=(i:Int) by omega,hW];push_cast;rfl
  refine seqE<|sR<|pu2<|sL m0 3 2 (I r.x1) (isAgg3 _)<|pu1<|nT<|cD (xx<r.x1) (fun z2=>?_) (fun z2=>?_)
  rotate_left
  ·refine exitE<|xB<|bN<|tN<|rE<|pu1<|sAdd yy 1<|pu1<|nT ?_
   exact ⟨(i+1,(yy+1),zt,azt,nzt,kzt,czt),od,alA,m0,om,om,(by rw [Nat.add_mul,Nat.one_mul,hE2,show j=Wn by omega]),hOzt⟩
  refine kT<|seqE<|blockE<|sR<|pu1<|nT<|cutA (γ:=Int) (fun bv=>[(2, .bool two),(3, .slice al nl kl),(4,I out),(6,Pt d0 0),(7,Pt e0 0),(11,Pt c0 0),(12,Pt g0 0),(15,Pt k0 0),(17,I yy),(18,I xx),(19,I bv)]) (fun bv w=>Sat W w (czt::[(k0, .cells #[I (r.x1-r.x0),I (r.y1-r.y0),I out, .slice azt nzt kzt] 38 (0,0))]::[(g0, .cells #[I 0,I 0,I 0,nS] 38 (0,0))]::[(c0, .cells (encRct r).toArray 45 (0,0))]::[(e0, .cells (encPlane u0).toArray 38 (0,0))]::[(d0, .cells (encPlane p).toArray 38 (0,0))]::H::F)/\bv=(if two=true then pixAt u0.v xx yy else 0)/\(0<=bv/\bv<=4294967296)) ?_ ?_
  ·refine sR<|pu1<|nT<|cB two (fun s0=>?_) (fun s0=>?_)
   rotate_left
   ·exact kT<|⟨0,alA,m0,(by rw [if_neg s0]),om⟩
   have hqo:planeOK u0.v=true:=hq9 s0;have hqs:=(plane_sz hqo).1;unfold sizeP at hqs;simp only [Plane.v] at hqs;have hql:u0.v.pix.length=u0.pix.n:=hn_u0_pix;have hqw:=hnn.1 s0
   have hiq:=pl_ix hqo (x:=xx) (y:=yy) (by simp only [Plane.v];omega) (by simp only [Plane.v];omega);rw [hql] at hiq;simp only [Plane.v] at hiq
   refine rE<|pu1<|sL m0 4 3 (.slice u0.pix.a u0.pix.n u0.pix.k) (isAgg22 _)<|pu2<|sL m0 4 0 (I u0.w) (isAgg3 _)<|sMul yy u0.w<|pu1<|sAdd (yy*u0.w) xx<|sIdx hu0.pix ((yy*u0.w)+xx) runUnderlying22 sizeOf3 fun o1 _ _ a3 b3=>?_
   have hqa:pixAt u0.v xx yy=o1:=pixAt_eq a3
   have hqb:=pixAt_bd hqo xx yy;rw [hqa] at hqb;simp only [Plane.v] at hqb
   exact sLp m0 (b3.up 6 rfl) 0 (I o1) (isAgg3 _)<|pu1<|nT<|⟨o1,alA,m0,(by rw [if_pos s0,hqa]),om⟩
  rintro bv ρ _ ⟨i1,hbv,hbb⟩
  refine seqE ?_
  have hix:=pl_ix hpo (x:=xx) (y:=yy) (by simp only [Plane.v];omega) (by simp only [Plane.v];omega);rw [hpl] at hix;simp only [Plane.v] at hix
  refine rE<|pu2<|sL i1 5 3 (.slice p.pix.a p.pix.n p.pix.k) (isAgg22 _)<|pu2<|sL i1 5 0 (I p.w) (isAgg3 _)<|sMul yy p.w<|pu1<|sAdd (yy*p.w) xx<|sIdx hp.pix ((yy*p.w)+xx) runUnderlying22 sizeOf3 fun l0 _ _ c3 d3=>?_
  have hpa:pixAt p.v xx yy=l0:=pixAt_eq c3
  have hpb:=pixAt_bd hpo xx yy;rw [hpa] at hpb;simp only [Plane.v] at hpb
  refine sLp i1 (d3.up 6 rfl) 0 (I l0) (isAgg3 _)<|pu1<|cR call175 (r14_eval al nl kl l l0 bv (RdT.flat (hl.up 6 (by rfl))) hoc om om i1.flat) fun _ t0=>pu5<|nT ?_
  obtain ⟨e3,f3,g3,h3,u4,i3,j3⟩:=OwnT.elem hOzt ((((yy-r.y0)*(r.x1-r.x0))+xx)-r.x0)
  refine drawE [16,18] [(1,⟨k0,3,none⟩, .slice azt nzt kzt),(4,⟨c0,1,none⟩,I r.y0),(7,⟨k0,0,none⟩,I (r.x1-r.x0)),(12,⟨c0,0,none⟩,I r.x0)] [(true,[0,2,3,6,9,11,14,15]),(true,[1]),(true,[4]),(true,[5]),(true,[7]),(true,[8]),(true,[10]),(true,[12]),(true,[13]),(false,[16]),(true,[17]),(false,[18])] rfl kr ⟨cI t0 1,cI t0 3,cI t0 1,cI t0 3,trivial⟩ ?_
  have k3:=t0.drew
  refine wU [0,2,3,6,9,11,14,15]<|wLd (.slice azt nzt kzt) 0 isAgg22<|wLd (I r.y0) 1 isAgg3<|wSub yy r.y0<|wLd (I (r.x1-r.x0)) 2 isAgg3<|wMul (yy-r.y0) (r.x1-r.x0)<|wAdd ((yy-r.y0)*(r.x1-r.x0)) xx<|wLd (I r.x0) 3 isAgg3<|wSub (((yy-r.y0)*(r.x1-r.x0))+xx) r.x0<|wO rfl<|cR call171 (r7_clamp ((runV l l0 bv).1) out k3.flat) fun _ v0=>nilO ⟨⟨cI v0 1,cI v0 3,cI v0 1,cI v0 3,trivial⟩,?_⟩
  refine wY (.pointer (some ⟨f3,g3+(((((yy-r.y0)*(r.x1-r.x0))+xx)-r.x0)).toNat*1,none⟩)) rfl (fun w _=>Y_idx (a:=azt) (i:=((((yy-r.y0)*(r.x1-r.x0))+xx)-r.x0)) (len:=nzt) (cap:=kzt) rfl runUnderlying22 sizeOf3 kr kr i3)<|wO rfl<|sStF v0 hOzt j3 0 (((((yy-r.y0)*(r.x1-r.x0))+xx)-r.x0)).toNat 0 e3 (clampV ((runV l l0 bv).1) out) h3 (I (clampV ((runV l l0 bv).1) out)) [I (clampV ((runV l l0 bv).1) out)] sizeOf3 fun _ l3 m3 n3=>nilO ⟨dA,?_⟩
  refine wN<|bN<|tN<|rE<|pu1<|sAdd xx 1<|pu1<|nT ?_
  exact ⟨(j+1,(xx+1),(zt.set ((((((yy-r.y0)*(r.x1-r.x0))+xx)-r.x0)).toNat) (clampV ((runV l l0 bv).1) out)),azt,nzt,kzt,l3),od,alA,n3,om,om,(by rw [show ((((((yy-r.y0)*(r.x1-r.x0))+xx)-r.x0)).toNat)=i*Wn+j by omega,hE2,fill_set (grid_len _ _ _) om,<-Nat.add_assoc,grid_succ om];congr 2;rw [hf];dsimp only;rw [<-hxx,<-hyy];unfold pwX;rw [hpa,<-hbv]),m3⟩
 rcases Classical.em (two=true) with h0|h0
 rotate_left
 ·refine drawP [17,21,22,23,24] [(16,⟨c0,0,none⟩,I r.x0),(16,⟨c0,1,none⟩,I r.y0),(16,⟨c0,2,none⟩,I r.x1),(16,⟨c0,3,none⟩,I r.y1)] (Plan.sts [0,1]<|Plan.sts [2,4,3,5,6,7,8,10,9,11,12,13,14,15]<|Plan.sts [16]<| .ef 17<|Plan.sts [18]<|Plan.sts [19,20]<| .fk 21 22 (.ef 22<| .ef 23<| .ef 24<|Plan.sts [25]<|Plan.sts [26]<| .fin) (.fk 21 23 (.ef 23<| .ef 24<|Plan.sts [25]<|Plan.sts [26]<| .fin) (.ef 21<| .ef 24<|Plan.sts [25]<|Plan.sts [26]<| .fin))) rfl kr ⟨cI b0 1,cI b0 1,cI b0 1,cI b0 1,trivial⟩ ?_
  have o3:=b0.drew
  refine qU [0,1]<|qFix 47 _ false (Bool.eq_false_iff.2 h0)<|qU [2,4,3,5,6,7,8,10,9,11,12,13,14,15]<|qY (.agg (encRct r).toArray) rfl (fun w hF=>Y_loadF rfl (isAgg45 w) (sizeOf45 w) kr rfl ⟨hF 0 _ _ rfl,hF 1 _ _ rfl,hF 2 _ _ rfl,hF 3 _ _ rfl,trivial⟩)<|qO rfl<|gY<|cR call102 (r2_full r o3.flat) fun _ i0=>nilO ⟨dA,?_⟩
  refine qU [18]<|qU [19,20]<|qF ?_ ?_
  ·rcases Classical.em (rvP r/\¬(r.x0=0/\r.y0=0/\r.x1=0/\r.y1=0)) with w0|w0
   rotate_left
   ·refine qFix 66 _ true (congrArg Bool.not (decide_eq_false w0))<|qO rfl<|pu1<|nilO ⟨dA,?_⟩
    refine qO rfl<|pu1<|nilO ⟨dA,?_⟩
    refine qO rfl<|pu1<|nilO ⟨dA,?_⟩
    refine qO rfl<|pu1<|nilO ⟨dA,?_⟩
    exact qU [25]<|qU [26]<|qN<|tN<|⟨(),⟨kr,kr,kr,kr,kr,kr,kr,(Eq.trans (b:= .bool true) kr (congrArg Value.bool (decide_eq_true (p:=¬((two=true->p.w=u0.w/\p.h=u0.h)/\insP r ⟨0,0,p.w,p.h⟩/\¬(r.x0=0/\r.y0=0/\r.x1=0/\r.y1=0))) (by exact fun h=>w0 ⟨h.2.1.1,h.2.2⟩)).symm)),trivial⟩,i0⟩
   refine qFix 66 _ false (congrArg Bool.not (decide_eq_true w0))<|qO rfl<|gY<|lA i0 1 0 4 (isAgg45 _) (sizeOf45 _)<|nilO ⟨dA,?_⟩
   refine qO rfl<|gY<|lA i0 3 0 4 (isAgg38 _) (sizeOf38 _)<|nilO ⟨dA,?_⟩
   refine qO rfl<|gY<|cR call126 (r4_cover p ⟨(RdT.flat (hp.pix.up 4 (by rfl)))⟩ i0.flat) fun _ p3=>nilO ⟨dA,?_⟩
   refine qO rfl<|gY<|cR call125 (r2_inside r (⟨0,0,p.w,p.h⟩:Rct) p3.flat) fun _ q3=>nilO ⟨dA,?_⟩
   exact qU [25]<|qU [26]<|qN<|tN<|⟨(),⟨kr,kr,kr,kr,kr,kr,kr,(Eq.trans (b:= .bool (!decide (insP r (⟨0,0,p.w,p.h⟩:Rct)))) kr (congrArg Value.bool (by rw [Bool.eq_iff_iff];simp only [decide_eq_true_eq,beq_iff_eq,bne_iff_ne,ne_eq,Bool.not_eq_true',decide_eq_false_iff_not,gt_iff_lt,ge_iff_le,Bool.and_eq_true,Bool.or_eq_true,Bool.not_eq_eq_eq_not,Bool.not_true,Bool.and_eq_false_imp,beq_eq_false_iff_ne]<;>exact ⟨fun h k=>h k.2.1,fun h k=>h ⟨fun e=>absurd e h0,k,w0.2⟩⟩))),trivial⟩,q3⟩
  rcases Classical.em (rvP r/\¬(r.x0=0/\r.y0=0/\r.x1=0/\r.y1=0)) with n0|n0
  rotate_left
  ·refine qFix 66 _ true (congrArg Bool.not (decide_eq_false n0))<|qO rfl<|pu1<|nilO ⟨dA,?_⟩
   refine qF ?_ ?_
   rotate_left
   ·refine qO rfl<|pu1<|nilO ⟨dA,?_⟩
    refine qO rfl<|pu1<|nilO ⟨dA,?_⟩
    refine qO rfl<|pu1<|nilO ⟨dA,?_⟩
    exact qU [25]<|qU [26]<|qN<|tN<|⟨(),⟨kr,kr,kr,kr,kr,kr,kr,(Eq.trans (b:= .bool true) kr (congrArg Value.bool (decide_eq_true (p:=¬((two=true->p.w=u0.w/\p.h=u0.h)/\insP r ⟨0,0,p.w,p.h⟩/\¬(r.x0=0/\r.y0=0/\r.x1=0/\r.y1=0))) (by exact fun h=>n0 ⟨h.2.1.1,h.2.2⟩)).symm)),trivial⟩,i0⟩
   refine qO rfl<|pu1<|nilO ⟨dA,?_⟩
   refine qO rfl<|pu1<|nilO ⟨dA,?_⟩
   refine qO rfl<|pu1<|nilO ⟨dA,?_⟩
   exact qU [25]<|qU [26]<|qN<|tN<|⟨(),⟨kr,kr,kr,kr,kr,kr,kr,(Eq.trans (b:= .bool true) kr (congrArg Value.bool (decide_eq_true (p:=¬((two=true->p.w=u0.w/\p.h=u0.h)/\insP r ⟨0,0,p.w,p.h⟩/\¬(r.x0=0/\r.y0=0/\r.x1=0/\r.y1=0))) (by exact fun h=>n0 ⟨h.2.1.1,h.2.2⟩)).symm)),trivial⟩,i0⟩
  refine qFix 66 _ false (congrArg Bool.not (decide_eq_true n0))<|qO rfl<|gY<|lA i0 3 0 4 (isAgg38 _) (sizeOf38 _)<|nilO ⟨dA,?_⟩
  refine qF ?_ ?_
  rotate_left
  ·refine qO rfl<|gY<|cR call126 (r4_cover p ⟨(RdT.flat (hp.pix.up 4 (by rfl)))⟩ i0.flat) fun _ d2=>nilO ⟨dA,?_⟩
   refine qO rfl<|gY<|lA d2 1 0 4 (isAgg45 _) (sizeOf45 _)<|nilO ⟨dA,?_⟩
   refine qO rfl<|gY<|cR call125 (r2_inside r (⟨0,0,p.w,p.h⟩:Rct) d2.flat) fun _ r3=>nilO ⟨dA,?_⟩
   exact qU [25]<|qU [26]<|qN<|tN<|⟨(),⟨kr,kr,kr,kr,kr,kr,kr,(Eq.trans (b:= .bool (!decide (insP r (⟨0,0,p.w,p.h⟩:Rct)))) kr (congrArg Value.bool (by rw [Bool.eq_iff_iff];simp only [decide_eq_true_eq,beq_iff_eq,bne_iff_ne,ne_eq,Bool.not_eq_true',decide_eq_false_iff_not,gt_iff_lt,ge_iff_le,Bool.and_eq_true,Bool.or_eq_true,Bool.not_eq_eq_eq_not,Bool.not_true,Bool.and_eq_false_imp,beq_eq_false_iff_ne]<;>exact ⟨fun h k=>h k.2.1,fun h k=>h ⟨fun e=>absurd e h0,k,n0.2⟩⟩))),trivial⟩,r3⟩
  refine qO rfl<|gY<|lA i0 1 0 4 (isAgg45 _) (sizeOf45 _)<|nilO ⟨dA,?_⟩
  refine qO rfl<|gY<|cR call126 (r4_cover p ⟨(RdT.flat (hp.pix.up 4 (by rfl)))⟩ i0.flat) fun _ s3=>nilO ⟨dA,?_⟩
  refine qO rfl<|gY<|cR call125 (r2_inside r (⟨0,0,p.w,p.h⟩:Rct) s3.flat) fun _ t3=>nilO ⟨dA,?_⟩
  exact qU [25]<|qU [26]<|qN<|tN<|⟨(),⟨kr,kr,kr,kr,kr,kr,kr,(Eq.trans (b:= .bool (!decide (insP r (⟨0,0,p.w,p.h⟩:Rct)))) kr (congrArg Value.bool (by rw [Bool.eq_iff_iff];simp only [decide_eq_true_eq,beq_iff_eq,bne_iff_ne,ne_eq,Bool.not_eq_true',decide_eq_false_iff_not,gt_iff_lt,ge_iff_le,Bool.and_eq_true,Bool.or_eq_true,Bool.not_eq_eq_eq_not,Bool.not_true,Bool.and_eq_false_imp,beq_eq_false_iff_ne]<;>exact ⟨fun h k=>h k.2.1,fun h k=>h ⟨fun e=>absurd e h0,k,n0.2⟩⟩))),trivial⟩,t3⟩
 by_cases p1:(p.w:Int)=u0.w
 rotate_left
 ·refine drawE [17,23,24] [(3,⟨d0,0,none⟩,I p.w),(5,⟨e0,0,none⟩,I u0.w)] [(true,[0,1]),(true,[2,4]),(true,[3]),(true,[5]),(true,[6,7]),(true,[8,10,9,11,12,13,14,15,16]),(false,[17]),(true,[18,19,20,21,22]),(false,[23]),(false,[24]),(true,[25,26])] rfl kr ⟨cI b0 3,cI b0 2,trivial⟩ ?_
  have o0:=b0.drew
  refine wU [0,1]<|wFix 47 _ true h0<|wU [2,4]<|wLd (I p.w) 0 isAgg3<|wLd (I u0.w) 1 isAgg3<|wU [6,7]<|wFix 53 _ true (bne_iff_ne.2 p1)<|wU [8,10,9,11,12,13,14,15,16]<|wO rfl<|pu1<|nilO ⟨⟨cI o0 3,cI o0 2,trivial⟩,?_⟩
  refine wU [18,19,20,21,22]<|wO rfl<|pu1<|nilO ⟨⟨cI o0 3,cI o0 2,trivial⟩,?_⟩
  refine wO rfl<|pu1<|nilO ⟨⟨cI o0 3,cI o0 2,trivial⟩,?_⟩
  refine wU [25,26]<|wN<|tN ?_
  exact ⟨(),⟨kr,kr,kr,kr,kr,kr,kr,(Eq.trans (b:= .bool true) kr (congrArg Value.bool (decide_eq_true (p:=¬((two=true->p.w=u0.w/\p.h=u0.h)/\insP r ⟨0,0,p.w,p.h⟩/\¬(r.x0=0/\r.y0=0/\r.x1=0/\r.y1=0))) (by exact fun h=>by have h1:=h.1 h0;omega)).symm)),trivial⟩,o0⟩
 by_cases e2:(p.h:Int)=u0.h
 rotate_left
 ·refine drawE [17,23,24] [(3,⟨d0,0,none⟩,I p.w),(5,⟨e0,0,none⟩,I u0.w),(9,⟨d0,1,none⟩,I p.h),(11,⟨e0,1,none⟩,I u0.h)] [(true,[0,1]),(true,[2,4]),(true,[3]),(true,[5]),(true,[6,7]),(true,[8,10]),(true,[9]),(true,[11]),(true,[12,13,14,15]),(true,[16]),(false,[17]),(true,[18,19,20,21,22]),(false,[23]),(false,[24]),(true,[25,26])] rfl kr ⟨cI b0 3,cI b0 2,cI b0 3,cI b0 2,trivial⟩ ?_
  have f0:=b0.drew
  refine wU [0,1]<|wFix 47 _ true h0<|wU [2,4]<|wLd (I p.w) 0 isAgg3<|wLd (I u0.w) 1 isAgg3<|wU [6,7]<|wFix 53 _ false (bne_eq_false_iff_eq.2 p1)<|wU [8,10]<|wLd (I p.h) 2 isAgg3<|wLd (I u0.h) 3 isAgg3<|wU [12,13,14,15]<|wFix 61 _ true (bne_iff_ne.2 e2)<|wU [16]<|wO rfl<|pu1<|nilO ⟨⟨cI f0 3,cI f0 2,cI f0 3,cI f0 2,trivial⟩,?_⟩
  refine wU [18,19,20,21,22]<|wO rfl<|pu1<|nilO ⟨⟨cI f0 3,cI f0 2,cI f0 3,cI f0 2,trivial⟩,?_⟩
  refine wO rfl<|pu1<|nilO ⟨⟨cI f0 3,cI f0 2,cI f0 3,cI f0 2,trivial⟩,?_⟩
  refine wU [25,26]<|wN<|tN ?_
  exact ⟨(),⟨kr,kr,kr,kr,kr,kr,kr,(Eq.trans (b:= .bool true) kr (congrArg Value.bool (decide_eq_true (p:=¬((two=true->p.w=u0.w/\p.h=u0.h)/\insP r ⟨0,0,p.w,p.h⟩/\¬(r.x0=0/\r.y0=0/\r.x1=0/\r.y1=0))) (by exact fun h=>by have h1:=h.1 h0;omega)).symm)),trivial⟩,f0⟩
 refine drawP [17,21,22,23,24] [(3,⟨d0,0,none⟩,I p.w),(5,⟨e0,0,none⟩,I u0.w),(9,⟨d0,1,none⟩,I p.h),(11,⟨e0,1,none⟩,I u0.h),(16,⟨c0,0,none⟩,I r.x0),(16,⟨c0,1,none⟩,I r.y0),(16,⟨c0,2,none⟩,I r.x1),(16,⟨c0,3,none⟩,I r.y1)] (Plan.sts [0,1]<|Plan.sts [2,4]<|Plan.sts [3]<|Plan.sts [5]<|Plan.sts [6,7]<|Plan.sts [8,10]<|Plan.sts [9]<|Plan.sts [11]<|Plan.sts [12,13,14,15]<|Plan.sts [16]<| .ef 17<|Plan.sts [18]<|Plan.sts [19,20]<| .fk 21 22 (.ef 22<| .ef 23<| .ef 24<|Plan.sts [25]<|Plan.sts [26]<| .fin) (.fk 21 23 (.ef 23<| .ef 24<|Plan.sts [25]<|Plan.sts [26]<| .fin) (.ef 21<| .ef 24<|Plan.sts [25]<|Plan.sts [26]<| .fin))) rfl kr ⟨cI b0 3,cI b0 2,cI b0 3,cI b0 2,cI b0 1,cI b0 1,cI b0 1,cI b0 1,trivial⟩ ?_
 have u3:=b0.drew
 refine qU [0,1]<|qFix 47 _ true h0<|qU [2,4]<|qLd (I p.w) 0 isAgg3<|qLd (I u0.w) 1 isAgg3<|qU [6,7]<|qFix 53 _ false (bne_eq_false_iff_eq.2 p1)<|qU [8,10]<|qLd (I p.h) 2 isAgg3<|qLd (I u0.h) 3 isAgg3<|qU [12,13,14,15]<|qFix 61 _ false (bne_eq_false_iff_eq.2 e2)<|qY (.agg (encRct r).toArray) rfl (fun w hF=>Y_loadF rfl (isAgg45 w) (sizeOf45 w) kr rfl ⟨hF 4 _ _ rfl,hF 5 _ _ rfl,hF 6 _ _ rfl,hF 7 _ _ rfl,trivial⟩)<|qO rfl<|gY<|cR call102 (r2_full r u3.flat) fun _ a0=>nilO ⟨⟨cI a0 3,cI a0 2,cI a0 3,cI a0 2,dI,dI,dI,dI,trivial⟩,?_⟩
 refine qU [18]<|qU [19,20]<|qF ?_ ?_
 ·rcases Classical.em (rvP r/\¬(r.x0=0/\r.y0=0/\r.x1=0/\r.y1=0)) with z0|z0
  rotate_left
  ·refine qFix 66 _ true (congrArg Bool.not (decide_eq_false z0))<|qO rfl<|pu1<|nilO ⟨⟨cI a0 3,cI a0 2,cI a0 3,cI a0 2,dI,dI,dI,dI,trivial⟩,?_⟩
   refine qO rfl<|pu1<|nilO ⟨⟨cI a0 3,cI a0 2,cI a0 3,cI a0 2,dI,dI,dI,dI,trivial⟩,?_⟩
   refine qO rfl<|pu1<|nilO ⟨⟨cI a0 3,cI a0 2,cI a0 3,cI a0 2,dI,dI,dI,dI,trivial⟩,?_⟩
   refine qO rfl<|pu1<|nilO ⟨⟨cI a0 3,cI a0 2,cI a0 3,cI a0 2,dI,dI,dI,dI,trivial⟩,?_⟩
   exact qU [25]<|qU [26]<|qN<|tN<|⟨(),⟨kr,kr,kr,kr,kr,kr,kr,(Eq.trans (b:= .bool true) kr (congrArg Value.bool (decide_eq_true (p:=¬((two=true->p.w=u0.w/\p.h=u0.h)/\insP r ⟨0,0,p.w,p.h⟩/\¬(r.x0=0/\r.y0=0/\r.x1=0/\r.y1=0))) (by exact fun h=>z0 ⟨h.2.1.1,h.2.2⟩)).symm)),trivial⟩,a0⟩
  refine qFix 66 _ false (congrArg Bool.not (decide_eq_true z0))<|qO rfl<|gY<|lA a0 1 0 4 (isAgg45 _) (sizeOf45 _)<|nilO ⟨⟨cI a0 3,cI a0 2,cI a0 3,cI a0 2,dI,dI,dI,dI,trivial⟩,?_⟩
  refine qO rfl<|gY<|lA a0 3 0 4 (isAgg38 _) (sizeOf38 _)<|nilO ⟨⟨cI a0 3,cI a0 2,cI a0 3,cI a0 2,dI,dI,dI,dI,trivial⟩,?_⟩
  refine qO rfl<|gY<|cR call126 (r4_cover p ⟨(RdT.flat (hp.pix.up 4 (by rfl)))⟩ a0.flat) fun _ a1=>nilO ⟨⟨cI a1 3,cI a1 2,cI a1 3,cI a1 2,dI,dI,dI,dI,trivial⟩,?_⟩
  refine qO rfl<|gY<|cR call125 (r2_inside r (⟨0,0,p.w,p.h⟩:Rct) a1.flat) fun _ b1=>nilO ⟨⟨cI b1 3,cI b1 2,cI b1 3,cI b1 2,dI,dI,dI,dI,trivial⟩,?_⟩
  refine qU [25]<|qU [26]<|qN<|tN ?_
  exact ⟨(),⟨kr,kr,kr,kr,kr,kr,kr,(Eq.trans (b:= .bool (!decide (insP r (⟨0,0,p.w,p.h⟩:Rct)))) kr (congrArg Value.bool (by rw [Bool.eq_iff_iff];simp only [decide_eq_true_eq,beq_iff_eq,bne_iff_ne,ne_eq,Bool.not_eq_true',decide_eq_false_iff_not,gt_iff_lt,ge_iff_le,Bool.and_eq_true,Bool.or_eq_true,Bool.not_eq_eq_eq_not,Bool.not_true,Bool.and_eq_false_imp,beq_eq_false_iff_ne]<;>exact ⟨fun h k=>h k.2.1,fun h k=>h ⟨fun _=>by omega,k,z0.2⟩⟩))),trivial⟩,b1⟩
 rcases Classical.em (rvP r/\¬(r.x0=0/\r.y0=0/\r.x1=0/\r.y1=0)) with p0|p0
 rotate_left
 ·refine qFix 66 _ true (congrArg Bool.not (decide_eq_false p0))<|qO rfl<|pu1<|nilO ⟨⟨cI a0 3,cI a0 2,cI a0 3,cI a0 2,dI,dI,dI,dI,trivial⟩,?_⟩
  refine qF ?_ ?_
  rotate_left
  ·refine qO rfl<|pu1<|nilO ⟨⟨cI a0 3,cI a0 2,cI a0 3,cI a0 2,dI,dI,dI,dI,trivial⟩,?_⟩
   refine qO rfl<|pu1<|nilO ⟨⟨cI a0 3,cI a0 2,cI a0 3,cI a0 2,dI,dI,dI,dI,trivial⟩,?_⟩
   refine qO rfl<|pu1<|nilO ⟨⟨cI a0 3,cI a0 2,cI a0 3,cI a0 2,dI,dI,dI,dI,trivial⟩,?_⟩
   exact qU [25]<|qU [26]<|qN<|tN<|⟨(),⟨kr,kr,kr,kr,kr,kr,kr,(Eq.trans (b:= .bool true) kr (congrArg Value.bool (decide_eq_true (p:=¬((two=true->p.w=u0.w/\p.h=u0.h)/\insP r ⟨0,0,p.w,p.h⟩/\¬(r.x0=0/\r.y0=0/\r.x1=0/\r.y1=0))) (by exact fun h=>p0 ⟨h.2.1.1,h.2.2⟩)).symm)),trivial⟩,a0⟩
  refine qO rfl<|pu1<|nilO ⟨⟨cI a0 3,cI a0 2,cI a0 3,cI a0 2,dI,dI,dI,dI,trivial⟩,?_⟩
  refine qO rfl<|pu1<|nilO ⟨⟨cI a0 3,cI a0 2,cI a0 3,cI a0 2,dI,dI,dI,dI,trivial⟩,?_⟩
  refine qO rfl<|pu1<|nilO ⟨⟨cI a0 3,cI a0 2,cI a0 3,cI a0 2,dI,dI,dI,dI,trivial⟩,?_⟩
  exact qU [25]<|qU [26]<|qN<|tN<|⟨(),⟨kr,kr,kr,kr,kr,kr,kr,(Eq.trans (b:= .bool true) kr (congrArg Value.bool (decide_eq_true (p:=¬((two=true->p.w=u0.w/\p.h=u0.h)/\insP r ⟨0,0,p.w,p.h⟩/\¬(r.x0=0/\r.y0=0/\r.x1=0/\r.y1=0))) (by exact fun h=>p0 ⟨h.2.1.1,h.2.2⟩)).symm)),trivial⟩,a0⟩
 refine qFix 66 _ false (congrArg Bool.not (decide_eq_true p0))<|qO rfl<|gY<|lA a0 3 0 4 (isAgg38 _) (sizeOf38 _)<|nilO ⟨⟨cI a0 3,cI a0 2,cI a0 3,cI a0 2,dI,dI,dI,dI,trivial⟩,?_⟩
 refine qF ?_ ?_
 rotate_left
 ·refine qO rfl<|gY<|cR call126 (r4_cover p ⟨(RdT.flat (hp.pix.up 4 (by rfl)))⟩ a0.flat) fun _ j0=>nilO ⟨⟨cI j0 3,cI j0 2,cI j0 3,cI j0 2,dI,dI,dI,dI,trivial⟩,?_⟩
  refine qO rfl<|gY<|lA j0 1 0 4 (isAgg45 _) (sizeOf45 _)<|nilO ⟨⟨cI j0 3,cI j0 2,cI j0 3,cI j0 2,dI,dI,dI,dI,trivial⟩,?_⟩
  refine qO rfl<|gY<|cR call125 (r2_inside r (⟨0,0,p.w,p.h⟩:Rct) j0.flat) fun _ c1=>nilO ⟨⟨cI c1 3,cI c1 2,cI c1 3,cI c1 2,dI,dI,dI,dI,trivial⟩,?_⟩
  refine qU [25]<|qU [26]<|qN<|tN ?_
  exact ⟨(),⟨kr,kr,kr,kr,kr,kr,kr,(Eq.trans (b:= .bool (!decide (insP r (⟨0,0,p.w,p.h⟩:Rct)))) kr (congrArg Value.bool (by rw [Bool.eq_iff_iff];simp only [decide_eq_true_eq,beq_iff_eq,bne_iff_ne,ne_eq,Bool.not_eq_true',decide_eq_false_iff_not,gt_iff_lt,ge_iff_le,Bool.and_eq_true,Bool.or_eq_true,Bool.not_eq_eq_eq_not,Bool.not_true,Bool.and_eq_false_imp,beq_eq_false_iff_ne]<;>exact ⟨fun h k=>h k.2.1,fun h k=>h ⟨fun _=>by omega,k,p0.2⟩⟩))),trivial⟩,c1⟩
 refine qO rfl<|gY<|lA a0 1 0 4 (isAgg45 _) (sizeOf45 _)<|nilO ⟨⟨cI a0 3,cI a0 2,cI a0 3,cI a0 2,dI,dI,dI,dI,trivial⟩,?_⟩
 refine qO rfl<|gY<|cR call126 (r4_cover p ⟨(RdT.flat (hp.pix.up 4 (by rfl)))⟩ a0.flat) fun _ d1=>nilO ⟨⟨cI d1 3,cI d1 2,cI d1 3,cI d1 2,dI,dI,dI,dI,trivial⟩,?_⟩
 refine qO rfl<|gY<|cR call125 (r2_inside r (⟨0,0,p.w,p.h⟩:Rct) d1.flat) fun _ e1=>nilO ⟨⟨cI e1 3,cI e1 2,cI e1 3,cI e1 2,dI,dI,dI,dI,trivial⟩,?_⟩
 refine qU [25]<|qU [26]<|qN<|tN ?_
 exact ⟨(),⟨kr,kr,kr,kr,kr,kr,kr,(Eq.trans (b:= .bool (!decide (insP r (⟨0,0,p.w,p.h⟩:Rct)))) kr (congrArg Value.bool (by rw [Bool.eq_iff_iff];simp only [decide_eq_true_eq,beq_iff_eq,bne_iff_ne,ne_eq,Bool.not_eq_true',decide_eq_false_iff_not,gt_iff_lt,ge_iff_le,Bool.and_eq_true,Bool.or_eq_true,Bool.not_eq_eq_eq_not,Bool.not_true,Bool.and_eq_false_imp,beq_eq_false_iff_ne]<;>exact ⟨fun h k=>h k.2.1,fun h k=>h ⟨fun _=>by omega,k,p0.2⟩⟩))),trivial⟩,e1⟩
theorem r18_part (s0:Stage) (p:Plane) (u0:Plane) (r:Rct) (hs0:Stage.Ok [H] s0) (hp:Plane.Ok [H] p) (hu0:Plane.Ok [H] u0) (hS:Sat W w (H::F)):
  Calls prog 81 #[.agg (encStage s0).toArray, .agg (encPlane p).toArray, .agg (encPlane u0).toArray, .agg (encRct r).toArray] w fun e w'=>∃(q:Plane) (c:Int) (G:Chunk),e= .returned (.tuple #[.agg (encPlane q).toArray,I c])/\q.Ok [G]/\(q.v,c)=kerT s0.v p.v u0.v r/\Sat W w' (G::H::F):=by
 have hl_s0_weights:=hs0.weights.le;have hn_s0_weights:=hs0.weights.len
 have hl_s0_row:=hs0.row.le;have hn_s0_row:=hs0.row.len
 have hl_s0_col:=hs0.col.le;have hn_s0_col:=hs0.col.len
 have hl_s0_x:=hs0.x.le;have hn_s0_x:=hs0.x.len
 have hl_s0_y:=hs0.y.le;have hn_s0_y:=hs0.y.len
 have hl_s0_ops:=hs0.ops.le;have hn_s0_ops:=hs0.ops.len
 have hl_p_pix:=hp.pix.le;have hn_p_pix:=hp.pix.len
 have hl_u0_pix:=hu0.pix.le;have hn_u0_pix:=hu0.pix.len
 refine callsA 81 func81 rfl<|sR<|sBox hS (.agg (encStage s0).toArray) (encStage s0).toArray fun b0 _ a1=>sBox a1 (.agg (encPlane p).toArray) (encPlane p).toArray fun h0 _ b1=>sBox b1 (.agg (encPlane u0).toArray) (encPlane u0).toArray fun i0 _ c1=>sBox c1 (.agg (encRct r).toArray) (encRct r).toArray fun j0 _ d1=>sAlloc d1 zeroValue38 fun _ _ a0=>pu1<|zQ<|pu1<|sL a0 4 0 (I s0.kind) (isAgg3 _)<|nT<|blockE<|sR<|pu2<|nT<|cE s0.kind 1 (fun e1=>?_) (fun e1=>?_)
 ·refine sR<|lA a0 3 0 4 (isAgg38 _) (sizeOf38 _)<|pu1<|lA a0 4 4 2 (isAgg49 _) (sizeOf49 _)<|pu1<|sL a0 4 6 (I s0.kW) (isAgg3 _)<|pu1<|sL a0 4 7 (I s0.kH) (isAgg3 _)<|pu1<|sL a0 4 8 (.slice s0.weights.a s0.weights.n s0.weights.k) (isAgg22 _)<|pu1<|sL a0 4 11 (I s0.shift) (isAgg3 _)<|pu1<|sL a0 4 17 (I s0.max_) (isAgg3 _)<|lA a0 1 0 4 (isAgg45 _) (sizeOf45 _)<|cX call130 (r9_tile p (⟨s0.edgePolicy,s0.edgeFill⟩:Edge) s0.kW s0.kH s0.weights.a s0.weights.n s0.weights.k s0.weights.l s0.shift s0.max_ r ⟨(RdT.flat (hp.pix.up 5 (by rfl)))⟩ (RdT.flat (hs0.weights.up 5 (by rfl))) a0.flat) ?_
  rintro _ _ ⟨d0,o0,_,rfl,k0,f1,g1⟩
  have h1:=g1.unflat1
  have hn_q_20_pix:=k0.pix.len;have hl_q_20_pix:=k0.pix.le
  refine pu2<|sTl h1 1 (encPlane d0) sizeOf38 fun _ p0=>pu1<|zB<|retC p0 1 (encPlane d0) (I o0) (isAgg38 _) (sizeOf38 _) ?_
  exact ⟨(⟨d0.w,d0.h,d0.max_,⟨d0.pix.a,d0.pix.n,d0.pix.k,d0.pix.l⟩⟩:Plane),o0,_,rfl,⟨k0.pix⟩,(by unfold kerT;rw [if_pos (show s0.v.kind=1 by simp only [Stage.v];omega)];exact f1),(p0.drops [1,1,1,1,1])⟩
 refine sR<|pu2<|nT<|cE s0.kind 2 (fun j1=>?_) (fun j1=>?_)
 ·refine sR<|lA a0 3 0 4 (isAgg38 _) (sizeOf38 _)<|pu1<|lA a0 4 4 2 (isAgg49 _) (sizeOf49 _)<|pu1<|sL a0 4 9 (.slice s0.row.a s0.row.n s0.row.k) (isAgg22 _)<|pu1<|sL a0 4 10 (.slice s0.col.a s0.col.n s0.col.k) (isAgg22 _)<|pu1<|sL a0 4 11 (I s0.shift) (isAgg3 _)<|pu1<|sL a0 4 12 (I s0.shift2) (isAgg3 _)<|pu1<|sL a0 4 17 (I s0.max_) (isAgg3 _)<|lA a0 1 0 4 (isAgg45 _) (sizeOf45 _) ?_
  refine cX call131 (r10_tile p (⟨s0.edgePolicy,s0.edgeFill⟩:Edge) s0.row.a s0.row.n s0.row.k s0.row.l s0.col.a s0.col.n s0.col.k s0.col.l s0.shift s0.shift2 s0.max_ r ⟨(RdT.flat (hp.pix.up 5 (by rfl)))⟩ (RdT.flat (hs0.row.up 5 (by rfl))) (RdT.flat (hs0.col.up 5 (by rfl))) a0.flat) ?_
  rintro _ _ ⟨e0,q0,_,rfl,l0,k1,l1⟩
  have m1:=l1.unflat1
  have hn_q_32_pix:=l0.pix.len;have hl_q_32_pix:=l0.pix.le
  refine pu2<|sTl m1 1 (encPlane e0) sizeOf38 fun _ r0=>pu1<|zB<|retC r0 1 (encPlane e0) (I q0) (isAgg38 _) (sizeOf38 _) ?_
  exact ⟨(⟨e0.w,e0.h,e0.max_,⟨e0.pix.a,e0.pix.n,e0.pix.k,e0.pix.l⟩⟩:Plane),q0,_,rfl,⟨l0.pix⟩,(by unfold kerT;rw [if_neg (show ¬s0.v.kind=1 by simp only [Stage.v];omega),if_pos (show s0.v.kind=2 by simp only [Stage.v];omega)];exact k1),(r0.drops [1,1,1,1,1])⟩
 refine sR<|pu2<|nT<|cE s0.kind 3 (fun o1=>?_) (fun o1=>?_)
 ·refine sR<|lA a0 3 0 4 (isAgg38 _) (sizeOf38 _)<|pu1<|lA a0 4 4 2 (isAgg49 _) (sizeOf49 _)<|pu1<|sL a0 4 13 (.slice s0.x.a s0.x.n s0.x.k) (isAgg50 _)<|pu1<|sL a0 4 14 (.slice s0.y.a s0.y.n s0.y.k) (isAgg50 _)<|pu1<|sL a0 4 11 (I s0.shift) (isAgg3 _)<|pu1<|sL a0 4 12 (I s0.shift2) (isAgg3 _)<|pu1<|sL a0 4 17 (I s0.max_) (isAgg3 _)<|lA a0 1 0 4 (isAgg45 _) (sizeOf45 _) ?_
  refine cX call132 (r11_tile p (⟨s0.edgePolicy,s0.edgeFill⟩:Edge) s0.x.a s0.x.n s0.x.k s0.x.l s0.y.a s0.y.n s0.y.k s0.y.l s0.shift s0.shift2 s0.max_ r ⟨(RdT.flat (hp.pix.up 5 (by rfl)))⟩ (RdT.flat (hs0.x.up 5 (by rfl))) (fun z hz=>(hs0.xD z hz).of_mem (mem_flat1 5 (by rfl))) (RdT.flat (hs0.y.up 5 (by rfl))) (fun z hz=>(hs0.yD z hz).of_mem (mem_flat1 5 (by rfl))) a0.flat) ?_
  rintro _ _ ⟨f0,t0,_,rfl,m0,p1,q1⟩
  have r1:=q1.unflat1
  have hn_q_44_pix:=m0.pix.len;have hl_q_44_pix:=m0.pix.le
  refine pu2<|sTl r1 1 (encPlane f0) sizeOf38 fun _ v0=>pu1<|zB<|retC v0 1 (encPlane f0) (I t0) (isAgg38 _) (sizeOf38 _) ?_
  exact ⟨(⟨f0.w,f0.h,f0.max_,⟨f0.pix.a,f0.pix.n,f0.pix.k,f0.pix.l⟩⟩:Plane),t0,_,rfl,⟨m0.pix⟩,(by unfold kerT;rw [if_neg (show ¬s0.v.kind=1 by simp only [Stage.v];omega),if_neg (show ¬s0.v.kind=2 by simp only [Stage.v];omega),if_pos (show s0.v.kind=3 by simp only [Stage.v];omega)];exact p1),(v0.drops [1,1,1,1,1])⟩
 refine skipE<|bN<|tN<|seqE ?_
 refine drawE [3,9,12] [(0,⟨h0,0,none⟩,I p.w),(0,⟨h0,1,none⟩,I p.h),(0,⟨h0,2,none⟩,I p.max_),(0,⟨h0,3,none⟩, .slice p.pix.a p.pix.n p.pix.k),(1,⟨i0,0,none⟩,I u0.w),(1,⟨i0,1,none⟩,I u0.h),(1,⟨i0,2,none⟩,I u0.max_),(1,⟨i0,3,none⟩, .slice u0.pix.a u0.pix.n u0.pix.k),(2,⟨b0,0,none⟩,I s0.kind),(2,⟨b0,1,none⟩,I s0.a),(2,⟨b0,2,none⟩,I s0.b),(2,⟨b0,3,none⟩, .bool s0.barrier),(2,⟨b0,4,none⟩,I s0.edgePolicy),(2,⟨b0,5,none⟩,I s0.edgeFill),(2,⟨b0,6,none⟩,I s0.kW),(2,⟨b0,7,none⟩,I s0.kH),(2,⟨b0,8,none⟩, .slice s0.weights.a s0.weights.n s0.weights.k),(2,⟨b0,9,none⟩, .slice s0.row.a s0.row.n s0.row.k),(2,⟨b0,10,none⟩, .slice s0.col.a s0.col.n s0.col.k),(2,⟨b0,11,none⟩,I s0.shift),(2,⟨b0,12,none⟩,I s0.shift2),(2,⟨b0,13,none⟩, .slice s0.x.a s0.x.n s0.x.k),(2,⟨b0,14,none⟩, .slice s0.y.a s0.y.n s0.y.k),(2,⟨b0,15,none⟩,I s0.bins),(2,⟨b0,16,none⟩, .slice s0.ops.a s0.ops.n s0.ops.k),(2,⟨b0,17,none⟩,I s0.max_),(5,⟨b0,16,none⟩, .slice s0.ops.a s0.ops.n s0.ops.k),(7,⟨b0,17,none⟩,I s0.max_),(8,⟨j0,0,none⟩,I r.x0),(8,⟨j0,1,none⟩,I r.y0),(8,⟨j0,2,none⟩,I r.x1),(8,⟨j0,3,none⟩,I r.y1)] [(true,[4,6]),(true,[0]),(true,[1]),(true,[2]),(true,[5]),(true,[7]),(true,[8]),(false,[3]),(false,[9]),(true,[10]),(true,[11]),(false,[12]),(true,[13])] rfl kr ⟨cI a0 3,cI a0 3,cI a0 3,cI a0 3,cI a0 2,cI a0 2,cI a0 2,cI a0 2,cI a0 4,cI a0 4,cI a0 4,cI a0 4,cI a0 4,cI a0 4,cI a0 4,cI a0 4,cI a0 4,cI a0 4,cI a0 4,cI a0 4,cI a0 4,cI a0 4,cI a0 4,cI a0 4,cI a0 4,cI a0 4,cI a0 4,cI a0 4,cI a0 1,cI a0 1,cI a0 1,cI a0 1,trivial⟩ ?_
 have t1:=a0.drew
 refine wU [4,6]<|wY (.agg (encPlane p).toArray) rfl (fun w hF=>Y_loadF rfl (isAgg38 w) (sizeOf38 w) kr rfl ⟨hF 0 _ _ rfl,hF 1 _ _ rfl,hF 2 _ _ rfl,hF 3 _ _ rfl,trivial⟩)<|wY (.agg (encPlane u0).toArray) rfl (fun w hF=>Y_loadF rfl (isAgg38 w) (sizeOf38 w) kr rfl ⟨hF 4 _ _ rfl,hF 5 _ _ rfl,hF 6 _ _ rfl,hF 7 _ _ rfl,trivial⟩) ?_
 refine wY (.agg (encStage s0).toArray) rfl (fun w hF=>Y_loadF rfl (isAgg53 w) (sizeOf53 w) kr rfl ⟨hF 8 _ _ rfl,hF 9 _ _ rfl,hF 10 _ _ rfl,hF 11 _ _ rfl,hF 12 _ _ rfl,hF 13 _ _ rfl,hF 14 _ _ rfl,hF 15 _ _ rfl,hF 16 _ _ rfl,hF 17 _ _ rfl,hF 18 _ _ rfl,hF 19 _ _ rfl,hF 20 _ _ rfl,hF 21 _ _ rfl,hF 22 _ _ rfl,hF 23 _ _ rfl,hF 24 _ _ rfl,hF 25 _ _ rfl,trivial⟩)<|wLd (.slice s0.ops.a s0.ops.n s0.ops.k) 26 isAgg51<|wLd (I s0.max_) 27 isAgg3<|wY (.agg (encRct r).toArray) rfl (fun w hF=>Y_loadF rfl (isAgg45 w) (sizeOf45 w) kr rfl ⟨hF 28 _ _ rfl,hF 29 _ _ rfl,hF 30 _ _ rfl,hF 31 _ _ rfl,trivial⟩)<|wO rfl ?_
 refine cR call47 (r15_two s0 (hs0.of_mem (mem_flat1 5 (by rfl))) t1.flat) fun _ c0=>nilO ⟨⟨cI c0 3,cI c0 3,cI c0 3,cI c0 3,cI c0 2,cI c0 2,cI c0 2,cI c0 2,dI,dI,dI,dI,dI,dI,dI,dI,dI,dI,dI,dI,dI,dI,dI,dI,dI,dI,cI c0 4,cI c0 4,cI c0 1,cI c0 1,cI c0 1,cI c0 1,trivial⟩,?_⟩
 refine wO rfl<|cX call133 (r14_tile p u0 (decide (s0.kind=6/\¬s0.b=-1)) s0.ops.a s0.ops.n s0.ops.k s0.ops.l s0.max_ r ⟨(RdT.flat (hp.pix.up 5 (by rfl)))⟩ ⟨(RdT.flat (hu0.pix.up 5 (by rfl)))⟩ (RdT.flat (hs0.ops.up 5 (by rfl))) c0.flat) ?_
 rintro _ _ ⟨g0,w0,_,rfl,n0,u1,v1⟩
 have w1:=v1.unflat1
 have hn_q_59_pix:=n0.pix.len;have hl_q_59_pix:=n0.pix.le
 refine nilO ⟨dA,?_⟩
 refine wU [10]<|wU [11]<|wO rfl<|sTl w1 1 (encPlane g0) sizeOf38 fun _ z0=>nilO ⟨dA,?_⟩
 refine wU [13]<|wN<|tN<|retE<|retC z0 1 (encPlane g0) (I w0) (isAgg38 _) (sizeOf38 _) ?_
 have hdt:decide (s0.kind=6/\¬s0.b=-1)=decide (twoP s0.v):=decide_eq_decide.2 Iff.rfl
 exact ⟨(⟨g0.w,g0.h,g0.max_,⟨g0.pix.a,g0.pix.n,g0.pix.k,g0.pix.l⟩⟩:Plane),w0,_,rfl,⟨n0.pix⟩,(by unfold kerT;rw [if_neg (show ¬s0.v.kind=1 by simp only [Stage.v];omega),if_neg (show ¬s0.v.kind=2 by simp only [Stage.v];omega),if_neg (show ¬s0.v.kind=3 by simp only [Stage.v];omega),<-hdt];exact u1),(z0.drops [1,1,1,1,1])⟩
theorem r18_stage (s0:Stage) (p:Plane) (u0:Plane) (hs0:Stage.Ok [H] s0) (hp:Plane.Ok [H] p) (hu0:Plane.Ok [H] u0) (hS:Sat W w (H::F)):
  Calls prog 41 #[.agg (encStage s0).toArray, .agg (encPlane p).toArray, .agg (encPlane u0).toArray] w fun e w'=>∃(q:Plane) (c:Int) (G:Chunk),e= .returned (.tuple #[.agg (encPlane q).toArray,I c])/\q.Ok [G]/\(q.v,c)=stgT s0.v p.v u0.v/\Sat W w' (G::H::F):=by
 have hl_s0_weights:=hs0.weights.le;have hn_s0_weights:=hs0.weights.len
 have hl_s0_row:=hs0.row.le;have hn_s0_row:=hs0.row.len
 have hl_s0_col:=hs0.col.le;have hn_s0_col:=hs0.col.len
 have hl_s0_x:=hs0.x.le;have hn_s0_x:=hs0.x.len
 have hl_s0_y:=hs0.y.le;have hn_s0_y:=hs0.y.len
 have hl_s0_ops:=hs0.ops.le;have hn_s0_ops:=hs0.ops.len
 have hl_p_pix:=hp.pix.le;have hn_p_pix:=hp.pix.len
 have hl_u0_pix:=hu0.pix.le;have hn_u0_pix:=hu0.pix.len
 refine callsA 63 func41 rfl<|sR<|sBox hS (.agg (encStage s0).toArray) (encStage s0).toArray fun f0 _ o1=>sBox o1 (.agg (encPlane p).toArray) (encPlane p).toArray fun o0 _ p1=>sBox p1 (.agg (encPlane u0).toArray) (encPlane u0).toArray fun p0 _ q1=>sAlloc q1 zeroValue38 fun r0 _ c1=>pu1<|nT<|cutA (γ:=Unit) (fun _=>[(3,Pt f0 0),(4,Pt o0 0),(5,Pt p0 0),(6,Pt r0 0)]) (fun _ w=>Sat W w ([(r0, .cells #[I 0,I 0,I 0,nS] 38 (0,0))]::[(p0, .cells (encPlane u0).toArray 38 (0,0))]::[(o0, .cells (encPlane p).toArray 38 (0,0))]::[(f0, .cells (encStage s0).toArray 53 (0,0))]::H::F)/\(planeOK p.v=true/\(twoP s0.v->planeOK u0.v=true))) ?_ ?_
 ·refine sR<|lA c1 2 0 4 (isAgg38 _) (sizeOf38 _)<|cR call76 (r4_valid p ⟨(RdT.flat (hp.pix.up 4 (by rfl)))⟩ c1.flat) fun _ v0=>pu2<|sBn 13 (planeOK p.v) (fun t0=>?_) (fun t0=>?_)
  rotate_left
  ·refine pu8<|zC<|pu1<|sTl v0 0 [I 0,I 0,I 0,nS] sizeOf38 fun _ d1=>pu1<|zR<|retC d1 0 [I 0,I 0,I 0,nS] (I 1) (isAgg38 _) (sizeOf38 _) ?_
   have r1:=(d1.drops [0,0,0,0])
   have s1:Sat W _ ([]::H::F):=Sat.nilc r1
   exact ⟨(⟨0,0,0,⟨none,0,0,[]⟩⟩:Plane),1,_,rfl,⟨RdT.nil (enc:=Go.E.encI) (sz:=1) fR [[]]⟩,(by rw [stg_1 (s:=s0.v) (p:=p.v) (q:=u0.v) (fun h=>t0 h.1)];rfl),s1⟩
  refine gY<|lA v0 3 0 18 (isAgg53 _) (sizeOf53 _)<|gY<|cR call47 (r15_two s0 (hs0.of_mem (mem_flat1 4 (by rfl))) v0.flat) fun _ w0=>pu1<|sD 16 (s0.kind=6/\¬s0.b=-1) (fun x0=>?_) (fun x0=>?_)
  rotate_left
  ·exact pu5<|nT<|cFf<|kT<|⟨(),alA,w0,⟨t0,fun h=>absurd h x0⟩⟩
  refine gY<|lA w0 1 0 4 (isAgg38 _) (sizeOf38 _)<|gY<|cR call76 (r4_valid u0 ⟨(RdT.flat (hu0.pix.up 4 (by rfl)))⟩ w0.flat) fun _ e1=>pu3<|nT<|cBn (planeOK u0.v) (fun y0=>?_) (fun y0=>?_)
  ·exact kT<|⟨(),alA,e1,⟨t0,fun _=>y0⟩⟩
  refine sR<|pu1<|sTl e1 0 [I 0,I 0,I 0,nS] sizeOf38 fun _ f1=>pu1<|zR<|retC f1 0 [I 0,I 0,I 0,nS] (I 1) (isAgg38 _) (sizeOf38 _) ?_
  have t1:=(f1.drops [0,0,0,0])
  have u1:Sat W _ ([]::H::F):=Sat.nilc t1
  exact ⟨(⟨0,0,0,⟨none,0,0,[]⟩⟩:Plane),1,_,rfl,⟨RdT.nil (enc:=Go.E.encI) (sz:=1) fR [[]]⟩,(by rw [stg_1 (s:=s0.v) (p:=p.v) (q:=u0.v) (fun h=>y0 (h.2 x0))];rfl),u1⟩
 rintro _ ρ _ ⟨a0,hP⟩
 refine cutA (γ:=Nat) (fun b9=>[(3,Pt f0 0),(4,Pt o0 0),(5,Pt p0 0),(6,Pt r0 0),(8,Pt b9 0),(9,I ((ofV s0.v (⟨p.w,p.h,p.max_⟩:Shape) (⟨u0.w,u0.h,u0.max_⟩:Shape)).2))]) (fun b9 w=>Sat W w ([(b9, .cells #[I ((ofV s0.v (⟨p.w,p.h,p.max_⟩:Shape) (⟨u0.w,u0.h,u0.max_⟩:Shape)).1.w),I ((ofV s0.v (⟨p.w,p.h,p.max_⟩:Shape) (⟨u0.w,u0.h,u0.max_⟩:Shape)).1.h),I ((ofV s0.v (⟨p.w,p.h,p.max_⟩:Shape) (⟨u0.w,u0.h,u0.max_⟩:Shape)).1.max_)] 65 (0,0))]::[(r0, .cells #[I 0,I 0,I 0,nS] 38 (0,0))]::[(p0, .cells (encPlane u0).toArray 38 (0,0))]::[(o0, .cells (encPlane p).toArray 38 (0,0))]::[(f0, .cells (encStage s0).toArray 53 (0,0))]::H::F)) ?_ ?_
 rotate_left
 ·rintro b9 ρ _ k0
  refine seqE<|sR<|pu2<|nT<|cN ((ofV s0.v (⟨p.w,p.h,p.max_⟩:Shape) (⟨u0.w,u0.h,u0.max_⟩:Shape)).2) 0 (fun q0=>?_) (fun q0=>?_)
  rotate_left
  ·refine sR<|pu2<|sTl k0 1 [I 0,I 0,I 0,nS] sizeOf38 fun _ g1=>pu1<|zR<|retC g1 1 [I 0,I 0,I 0,nS] (I ((ofV s0.v (⟨p.w,p.h,p.max_⟩:Shape) (⟨u0.w,u0.h,u0.max_⟩:Shape)).2)) (isAgg38 _) (sizeOf38 _) ?_
   have v1:=(g1.drops [0,0,0,0,0])
   have w1:Sat W _ ([]::H::F):=Sat.nilc v1
   exact ⟨(⟨0,0,0,⟨none,0,0,[]⟩⟩:Plane),((ofV s0.v (⟨p.w,p.h,p.max_⟩:Shape) (⟨u0.w,u0.h,u0.max_⟩:Shape)).2),_,rfl,⟨RdT.nil (enc:=Go.E.encI) (sz:=1) fR [[]]⟩,(by rw [stg_c (s:=s0.v) (p:=p.v) (q:=u0.v) hP (show ¬(ofV s0.v (shpOf p.v) (shpOf u0.v)).2=0 from q0)];rfl),w1⟩
  refine kT<|seqE<|sR<|pu1<|sL k0 4 0 (I s0.kind) (isAgg3 _)<|nT<|blockE<|sR<|pu2<|nT<|cE s0.kind 4 (fun x1=>?_) (fun x1=>?_)
  ·refine sR<|lA k0 3 0 4 (isAgg38 _) (sizeOf38 _)<|pu1<|sL k0 4 15 (I s0.bins) (isAgg3 _)<|cX call95 (r12_whole p s0.bins ⟨(RdT.flat (hp.pix.up 5 (by rfl)))⟩ k0.flat) ?_
   rintro _ _ ⟨l0,h1,_,rfl,z0,y1,z1⟩
   have a2:=z1.unflat1
   have hn_q_90_pix:=z0.pix.len;have hl_q_90_pix:=z0.pix.le
   refine pu2<|sTl a2 2 (encPlane l0) sizeOf38 fun _ i1=>pu1<|zB<|retC i1 2 (encPlane l0) (I h1) (isAgg38 _) (sizeOf38 _) ?_
   exact ⟨(⟨l0.w,l0.h,l0.max_,⟨l0.pix.a,l0.pix.n,l0.pix.k,l0.pix.l⟩⟩:Plane),h1,_,rfl,⟨z0.pix⟩,(by rw [stg_k4 (s:=s0.v) (p:=p.v) (q:=u0.v) hP (show (ofV s0.v (shpOf p.v) (shpOf u0.v)).2=0 from q0) (show s0.v.kind=4 by simp only [Stage.v];omega)];exact y1),(i1.drops [1,1,1,1,1])⟩
  refine sR<|pu2<|nT<|cE s0.kind 5 (fun c2=>?_) (fun c2=>?_)
  ·refine sR<|lA k0 3 0 4 (isAgg38 _) (sizeOf38 _)<|cX call27 (r13_whole p ⟨(RdT.flat (hp.pix.up 5 (by rfl)))⟩ k0.flat) ?_
   rintro _ _ ⟨m0,j1,_,rfl,a1,d2,e2⟩
   have f2:=e2.unflat1
   have hn_q_102_pix:=a1.pix.len;have hl_q_102_pix:=a1.pix.le
   refine pu2<|sTl f2 2 (encPlane m0) sizeOf38 fun _ k1=>pu1<|zB<|retC k1 2 (encPlane m0) (I j1) (isAgg38 _) (sizeOf38 _) ?_
   exact ⟨(⟨m0.w,m0.h,m0.max_,⟨m0.pix.a,m0.pix.n,m0.pix.k,m0.pix.l⟩⟩:Plane),j1,_,rfl,⟨a1.pix⟩,(by rw [stg_k5 (s:=s0.v) (p:=p.v) (q:=u0.v) hP (show (ofV s0.v (shpOf p.v) (shpOf u0.v)).2=0 from q0) (show s0.v.kind=5 by simp only [Stage.v];omega)];exact d2),(k1.drops [1,1,1,1,1])⟩
  refine skipE<|bN<|tN<|sR<|lA k0 4 0 18 (isAgg53 _) (sizeOf53 _)<|lA k0 3 0 4 (isAgg38 _) (sizeOf38 _)<|lA k0 2 0 4 (isAgg38 _) (sizeOf38 _)<|pu1<|sL k0 0 0 (I ((ofV s0.v (⟨p.w,p.h,p.max_⟩:Shape) (⟨u0.w,u0.h,u0.max_⟩:Shape)).1.w)) (isAgg3 _)<|pu1<|sL k0 0 1 (I ((ofV s0.v (⟨p.w,p.h,p.max_⟩:Shape) (⟨u0.w,u0.h,u0.max_⟩:Shape)).1.h)) (isAgg3 _)<|pu1 ?_
  refine cX call81 (r18_part s0 p u0 (⟨0,0,(ofV s0.v (⟨p.w,p.h,p.max_⟩:Shape) (⟨u0.w,u0.h,u0.max_⟩:Shape)).1.w,(ofV s0.v (⟨p.w,p.h,p.max_⟩:Shape) (⟨u0.w,u0.h,u0.max_⟩:Shape)).1.h⟩:Rct) (hs0.of_mem (mem_flat1 5 (by rfl))) ⟨(RdT.flat (hp.pix.up 5 (by rfl)))⟩ ⟨(RdT.flat (hu0.pix.up 5 (by rfl)))⟩ k0.flat) ?_
  rintro _ _ ⟨n0,l1,_,rfl,b1,h2,i2⟩
  have j2:=i2.unflat1
  have hn_q_113_pix:=b1.pix.len;have hl_q_113_pix:=b1.pix.le
  refine pu2<|sTl j2 2 (encPlane n0) sizeOf38 fun _ m1=>pu1<|zE<|retC m1 2 (encPlane n0) (I l1) (isAgg38 _) (sizeOf38 _) ?_
  exact ⟨(⟨n0.w,n0.h,n0.max_,⟨n0.pix.a,n0.pix.n,n0.pix.k,n0.pix.l⟩⟩:Plane),l1,_,rfl,⟨b1.pix⟩,(by rw [stg_ker (s:=s0.v) (p:=p.v) (q:=u0.v) hP (show (ofV s0.v (shpOf p.v) (shpOf u0.v)).2=0 from q0) (show ¬s0.v.kind=4 by simp only [Stage.v];omega) (show ¬s0.v.kind=5 by simp only [Stage.v];omega)];exact h2),(m1.drops [1,1,1,1,1])⟩
 refine drawP [2,4,5,9,10] [(0,⟨f0,0,none⟩,I s0.kind),(0,⟨f0,1,none⟩,I s0.a),(0,⟨f0,2,none⟩,I s0.b),(0,⟨f0,3,none⟩, .bool s0.barrier),(0,⟨f0,4,none⟩,I s0.edgePolicy),(0,⟨f0,5,none⟩,I s0.edgeFill),(0,⟨f0,6,none⟩,I s0.kW),(0,⟨f0,7,none⟩,I s0.kH),(0,⟨f0,8,none⟩, .slice s0.weights.a s0.weights.n s0.weights.k),(0,⟨f0,9,none⟩, .slice s0.row.a s0.row.n s0.row.k),(0,⟨f0,10,none⟩, .slice s0.col.a s0.col.n s0.col.k),(0,⟨f0,11,none⟩,I s0.shift),(0,⟨f0,12,none⟩,I s0.shift2),(0,⟨f0,13,none⟩, .slice s0.x.a s0.x.n s0.x.k),(0,⟨f0,14,none⟩, .slice s0.y.a s0.y.n s0.y.k),(0,⟨f0,15,none⟩,I s0.bins),(0,⟨f0,16,none⟩, .slice s0.ops.a s0.ops.n s0.ops.k),(0,⟨f0,17,none⟩,I s0.max_),(1,⟨o0,0,none⟩,I p.w),(1,⟨o0,1,none⟩,I p.h),(1,⟨o0,2,none⟩,I p.max_),(1,⟨o0,3,none⟩, .slice p.pix.a p.pix.n p.pix.k),(3,⟨p0,0,none⟩,I u0.w),(3,⟨p0,1,none⟩,I u0.h),(3,⟨p0,2,none⟩,I u0.max_),(3,⟨p0,3,none⟩, .slice u0.pix.a u0.pix.n u0.pix.k)] (Plan.sts [0]<|Plan.sts [1]<|Plan.sts [3]<| .fk 2 9 (.fk 4 9 (.fk 5 9 (Plan.sts [6]<|Plan.sts [7]<|Plan.sts [8]<| .ef 9<| .ef 10<|Plan.sts [11]<| .fin) (.ef 5<|Plan.sts [6]<|Plan.sts [7]<|Plan.sts [8]<| .ef 10<|Plan.sts [11]<| .fin)) (.ef 4<| .ef 5<|Plan.sts [6]<|Plan.sts [7]<|Plan.sts [8]<| .ef 10<|Plan.sts [11]<| .fin)) (.ef 2<| .ef 4<| .ef 5<|Plan.sts [6]<|Plan.sts [7]<|Plan.sts [8]<| .ef 10<|Plan.sts [11]<| .fin)) rfl kr ⟨cI a0 3,cI a0 3,cI a0 3,cI a0 3,cI a0 3,cI a0 3,cI a0 3,cI a0 3,cI a0 3,cI a0 3,cI a0 3,cI a0 3,cI a0 3,cI a0 3,cI a0 3,cI a0 3,cI a0 3,cI a0 3,cI a0 2,cI a0 2,cI a0 2,cI a0 2,cI a0 1,cI a0 1,cI a0 1,cI a0 1,trivial⟩ ?_
 have n1:=a0.drew
 refine qY (.agg (encStage s0).toArray) rfl (fun w hF=>Y_loadF rfl (isAgg53 w) (sizeOf53 w) kr rfl ⟨hF 0 _ _ rfl,hF 1 _ _ rfl,hF 2 _ _ rfl,hF 3 _ _ rfl,hF 4 _ _ rfl,hF 5 _ _ rfl,hF 6 _ _ rfl,hF 7 _ _ rfl,hF 8 _ _ rfl,hF 9 _ _ rfl,hF 10 _ _ rfl,hF 11 _ _ rfl,hF 12 _ _ rfl,hF 13 _ _ rfl,hF 14 _ _ rfl,hF 15 _ _ rfl,hF 16 _ _ rfl,hF 17 _ _ rfl,trivial⟩)<|qY (.agg (encPlane p).toArray) rfl (fun w hF=>Y_loadF rfl (isAgg38 w) (sizeOf38 w) kr rfl ⟨hF 18 _ _ rfl,hF 19 _ _ rfl,hF 20 _ _ rfl,hF 21 _ _ rfl,trivial⟩) ?_
 refine qY (.agg (encPlane u0).toArray) rfl (fun w hF=>Y_loadF rfl (isAgg38 w) (sizeOf38 w) kr rfl ⟨hF 22 _ _ rfl,hF 23 _ _ rfl,hF 24 _ _ rfl,hF 25 _ _ rfl,trivial⟩)<|qF ?_ ?_
 rotate_left
 ·refine qO rfl<|sAlloc n1 zeroValue65 fun l2 _ b0=>nilO ⟨⟨cI b0 4,cI b0 4,cI b0 4,cI b0 4,cI b0 4,cI b0 4,cI b0 4,cI b0 4,cI b0 4,cI b0 4,cI b0 4,cI b0 4,cI b0 4,cI b0 4,cI b0 4,cI b0 4,cI b0 4,cI b0 4,cI b0 3,cI b0 3,cI b0 3,cI b0 3,cI b0 2,cI b0 2,cI b0 2,cI b0 2,trivial⟩,?_⟩
  refine qO rfl<|cR call25 (r17_of p ⟨(RdT.flat (hp.pix.up 5 (by rfl)))⟩ b0.flat) fun _ d0=>nilO ⟨⟨cI d0 4,cI d0 4,cI d0 4,cI d0 4,cI d0 4,cI d0 4,cI d0 4,cI d0 4,cI d0 4,cI d0 4,cI d0 4,cI d0 4,cI d0 4,cI d0 4,cI d0 4,cI d0 4,cI d0 4,cI d0 4,dI,dI,dI,dI,cI d0 2,cI d0 2,cI d0 2,cI d0 2,trivial⟩,?_⟩
  refine qO rfl<|cR call25 (r17_of u0 ⟨(RdT.flat (hu0.pix.up 5 (by rfl)))⟩ d0.flat) fun _ h0=>nilO ⟨⟨cI h0 4,cI h0 4,cI h0 4,cI h0 4,cI h0 4,cI h0 4,cI h0 4,cI h0 4,cI h0 4,cI h0 4,cI h0 4,cI h0 4,cI h0 4,cI h0 4,cI h0 4,cI h0 4,cI h0 4,cI h0 4,dI,dI,dI,dI,dI,dI,dI,dI,trivial⟩,?_⟩
  refine qO rfl<|cR call77 (r15_of s0 (⟨p.w,p.h,p.max_⟩:Shape) (⟨u0.w,u0.h,u0.max_⟩:Shape) (hs0.of_mem (mem_flat1 5 (by rfl))) h0.flat) fun _ m2=>nilO ⟨dA,?_⟩
  refine qU [6]<|qU [7]<|qU [8]<|qO rfl<|sTl m2 0 [I ((ofV s0.v (⟨p.w,p.h,p.max_⟩:Shape) (⟨u0.w,u0.h,u0.max_⟩:Shape)).1.w),I ((ofV s0.v (⟨p.w,p.h,p.max_⟩:Shape) (⟨u0.w,u0.h,u0.max_⟩:Shape)).1.h),I ((ofV s0.v (⟨p.w,p.h,p.max_⟩:Shape) (⟨u0.w,u0.h,u0.max_⟩:Shape)).1.max_)] sizeOf65 fun _ n2=>nilO ⟨dA,?_⟩
  exact qU [11]<|qN<|tN<|⟨l2,alA,n2⟩
 refine qO rfl<|cR call25 (r17_of p ⟨(RdT.flat (hp.pix.up 4 (by rfl)))⟩ n1.flat) fun _ c0=>nilO ⟨⟨cI c0 3,cI c0 3,cI c0 3,cI c0 3,cI c0 3,cI c0 3,cI c0 3,cI c0 3,cI c0 3,cI c0 3,cI c0 3,cI c0 3,cI c0 3,cI c0 3,cI c0 3,cI c0 3,cI c0 3,cI c0 3,dI,dI,dI,dI,cI c0 1,cI c0 1,cI c0 1,cI c0 1,trivial⟩,?_⟩
 refine qF ?_ ?_
 rotate_left
 ·refine qO rfl<|sAlloc c0 zeroValue65 fun o2 _ e0=>nilO ⟨⟨cI e0 4,cI e0 4,cI e0 4,cI e0 4,cI e0 4,cI e0 4,cI e0 4,cI e0 4,cI e0 4,cI e0 4,cI e0 4,cI e0 4,cI e0 4,cI e0 4,cI e0 4,cI e0 4,cI e0 4,cI e0 4,dI,dI,dI,dI,cI e0 2,cI e0 2,cI e0 2,cI e0 2,trivial⟩,?_⟩
  refine qO rfl<|cR call25 (r17_of u0 ⟨(RdT.flat (hu0.pix.up 5 (by rfl)))⟩ e0.flat) fun _ i0=>nilO ⟨⟨cI i0 4,cI i0 4,cI i0 4,cI i0 4,cI i0 4,cI i0 4,cI i0 4,cI i0 4,cI i0 4,cI i0 4,cI i0 4,cI i0 4,cI i0 4,cI i0 4,cI i0 4,cI i0 4,cI i0 4,cI i0 4,dI,dI,dI,dI,dI,dI,dI,dI,trivial⟩,?_⟩
  refine qO rfl<|cR call77 (r15_of s0 (⟨p.w,p.h,p.max_⟩:Shape) (⟨u0.w,u0.h,u0.max_⟩:Shape) (hs0.of_mem (mem_flat1 5 (by rfl))) i0.flat) fun _ p2=>nilO ⟨dA,?_⟩
  refine qU [6]<|qU [7]<|qU [8]<|qO rfl<|sTl p2 0 [I ((ofV s0.v (⟨p.w,p.h,p.max_⟩:Shape) (⟨u0.w,u0.h,u0.max_⟩:Shape)).1.w),I ((ofV s0.v (⟨p.w,p.h,p.max_⟩:Shape) (⟨u0.w,u0.h,u0.max_⟩:Shape)).1.h),I ((ofV s0.v (⟨p.w,p.h,p.max_⟩:Shape) (⟨u0.w,u0.h,u0.max_⟩:Shape)).1.max_)] sizeOf65 fun _ q2=>nilO ⟨dA,?_⟩
  exact qU [11]<|qN<|tN<|⟨o2,alA,q2⟩
 refine qO rfl<|cR call25 (r17_of u0 ⟨(RdT.flat (hu0.pix.up 4 (by rfl)))⟩ c0.flat) fun _ g0=>nilO ⟨⟨cI g0 3,cI g0 3,cI g0 3,cI g0 3,cI g0 3,cI g0 3,cI g0 3,cI g0 3,cI g0 3,cI g0 3,cI g0 3,cI g0 3,cI g0 3,cI g0 3,cI g0 3,cI g0 3,cI g0 3,cI g0 3,dI,dI,dI,dI,dI,dI,dI,dI,trivial⟩,?_⟩
 refine qF ?_ ?_
 ·refine qO rfl<|cR call77 (r15_of s0 (⟨p.w,p.h,p.max_⟩:Shape) (⟨u0.w,u0.h,u0.max_⟩:Shape) (hs0.of_mem (mem_flat1 4 (by rfl))) g0.flat) fun _ r2=>nilO ⟨dA,?_⟩
  refine qU [6]<|qU [7]<|qU [8]<|qO rfl<|sAlloc r2 zeroValue65 fun s2 _ t2=>nilO ⟨dA,?_⟩
  refine qO rfl<|sTl t2 0 [I ((ofV s0.v (⟨p.w,p.h,p.max_⟩:Shape) (⟨u0.w,u0.h,u0.max_⟩:Shape)).1.w),I ((ofV s0.v (⟨p.w,p.h,p.max_⟩:Shape) (⟨u0.w,u0.h,u0.max_⟩:Shape)).1.h),I ((ofV s0.v (⟨p.w,p.h,p.max_⟩:Shape) (⟨u0.w,u0.h,u0.max_⟩:Shape)).1.max_)] sizeOf65 fun _ u2=>nilO ⟨dA,?_⟩
  exact qU [11]<|qN<|tN<|⟨s2,alA,u2⟩
 refine qO rfl<|sAlloc g0 zeroValue65 fun v2 _ j0=>nilO ⟨⟨cI j0 4,cI j0 4,cI j0 4,cI j0 4,cI j0 4,cI j0 4,cI j0 4,cI j0 4,cI j0 4,cI j0 4,cI j0 4,cI j0 4,cI j0 4,cI j0 4,cI j0 4,cI j0 4,cI j0 4,cI j0 4,dI,dI,dI,dI,dI,dI,dI,dI,trivial⟩,?_⟩
 refine qO rfl<|cR call77 (r15_of s0 (⟨p.w,p.h,p.max_⟩:Shape) (⟨u0.w,u0.h,u0.max_⟩:Shape) (hs0.of_mem (mem_flat1 5 (by rfl))) j0.flat) fun _ w2=>nilO ⟨dA,?_⟩
 refine qU [6]<|qU [7]<|qU [8]<|qO rfl<|sTl w2 0 [I ((ofV s0.v (⟨p.w,p.h,p.max_⟩:Shape) (⟨u0.w,u0.h,u0.max_⟩:Shape)).1.w),I ((ofV s0.v (⟨p.w,p.h,p.max_⟩:Shape) (⟨u0.w,u0.h,u0.max_⟩:Shape)).1.h),I ((ofV s0.v (⟨p.w,p.h,p.max_⟩:Shape) (⟨u0.w,u0.h,u0.max_⟩:Shape)).1.max_)] sizeOf65 fun _ x2=>nilO ⟨dA,?_⟩
 exact qU [11]<|qN<|tN<|⟨v2,alA,x2⟩
theorem r18_of (p:Job) (hp:Job.Ok [H] p) (hb:p.inputs.n<=1000000/\p.stages.n<=1000000/\p.outputs.n<=1000000) (hS:Sat W w (H::F)):
  Calls prog 13 #[.agg (encJob p).toArray] w fun e w'=>∃(az:Option Addr) (nz kz:Nat) (zs:List Plane) (c:Int) (G:Chunk),e= .returned (.tuple #[.slice az nz kz,I c])/\RdT encPlane 4 [G] az nz kz zs/\(∀z∈zs,Plane.Ok [G] z)/\(zs.map Plane.v,c)=(meanV p.v,(shpV p.v).2.2)/\Sat W w' (G::H::F):=by
 have hl_p_inputs:=hp.inputs.le;have hn_p_inputs:=hp.inputs.len
 have hl_p_stages:=hp.stages.le;have hn_p_stages:=hp.stages.len
 have hl_p_outputs:=hp.outputs.le;have hn_p_outputs:=hp.outputs.len
 refine callsA 94 func13 rfl<|sR<|sBox hS (.agg (encJob p).toArray) (encJob p).toArray fun j0 _ n1=>pu2<|zQ<|lA n1 0 0 4 (isAgg28 _) (sizeOf28 _)<|cR call45 (r17_checkj p (hp.of_mem (mem_flat1 1 (by rfl))) (od) n1.flat) fun _ e1=>pu5<|zS<|pu2<|nT<|cN ((shpV p.v).2.2) 0 (fun y1=>?_) (fun y1=>?_)
 rotate_left
 ·refine sR<|pu3<|zR<|retT [nS,I ((shpV p.v).2.2)] ?_
  have z1:=(e1.dropAt 0 rfl)
  have a2:Sat W _ ([]::H::F):=Sat.nilc z1
  exact ⟨none,0,0,[],((shpV p.v).2.2),_,rfl,RdT.nil (enc:=encPlane) (sz:=4) fR [[]],(fun z hz=>by cases hz),(by unfold meanV;rw [if_neg om];rfl),a2⟩
 refine kS<|lA e1 0 0 4 (isAgg28 _) (sizeOf28 _)<|cX call46 (r17_order p (hp.of_mem (mem_flat1 1 (by rfl))) (od) e1.flat) ?_
 rintro _ _ ⟨o0,m0,p0,l0,rfl,w0,b2⟩
 have f1:=b2.unflat1
 have hn_az_11:=w0.len;have hl_az_11:=w0.le
 refine pu5<|nT<|seqE ?_
 have hz0:(shpV p.v).2.2=0:=om;have hso:=shp_ok hz0;have hnn:=hso.nn;have hall:=chk_all hso.ch;have hrng:=hso.rng;have hln:=hso.ln
 have hmi:(p.inputs.l.map Plane.v).length=p.inputs.n:=by simp [hn_p_inputs]
 have hms:(p.stages.l.map Stage.v).length=p.stages.n:=by simp [hn_p_stages]
 have hvi:p.v.inputs.length=p.inputs.n:=hmi;have hvs:p.v.stages.length=p.stages.n:=hms;rw [hvi,hvs] at hnn hall hrng;rw [hvs] at hln
 refine rE<|pu1<|sL f1 1 0 (.slice p.inputs.a p.inputs.n p.inputs.k) (isAgg25 _)<|pu2<|sL f1 1 1 (.slice p.stages.a p.stages.n p.stages.k) (isAgg26 _)<|pu1<|sAdd (p.inputs.n:Int) (p.stages.n:Int)<|sMake (kl:= .i64) (kc:= .i64) (enc:=encPlane) (sz:=4) (nb:=48) f1 ⟨0,0,0,⟨none,0,0,[]⟩⟩ (((p.inputs.n:Int)+(p.stages.n:Int))).toNat ((p.inputs.n:Int)+(p.stages.n:Int)) (om:((p.inputs.n:Int)+(p.stages.n:Int))=(((((p.inputs.n:Int)+(p.stages.n:Int))).toNat:Nat):Int)) underlying25 (i:=Tryz.t38) kr fR fun c2 d2 _ e2 f2=>pu1<|nT<|seqE<|seqE ?_
 have g2:=Sat.nilc f2
 refine rE<|pu1<|nT<|blockE ?_
 have i2:=(g2.pick 1 rfl)
 have j2:=(i2.pick 1 rfl)
 refine loopA (γ:=Nat×(List Plane)×(Option Addr)×Nat×Nat×Chunk×Chunk) (fun ⟨i,zs,azs,nzs,kzs,czs,Gzs⟩=>[(1,Pt j0 0),(6, .slice o0 m0 p0),(9,I (i:Int)),(8, .slice azs nzs kzs)]) (fun ⟨i,zs,azs,nzs,kzs,czs,Gzs⟩ w=>Sat W w (Gzs::czs::l0::[(j0, .cells (encJob p).toArray 28 (0,0))]::H::F)/\i<=p.inputs.n/\(zs.length=(p.inputs.n+p.stages.n))/\(zs.map Plane.v=(p.inputs.l.take i).map Plane.v++List.replicate ((p.inputs.n+p.stages.n)-i) zPl)/\OwnT encPlane 38 4 azs nzs kzs zs czs/\(∀z∈zs,Plane.Ok [Gzs] z)) (fun ⟨i,zs,azs,nzs,kzs,czs,Gzs⟩=>p.inputs.n-i) (0,(List.replicate (((p.inputs.n:Int)+(p.stages.n:Int))).toNat ⟨0,0,0,⟨none,0,0,[]⟩⟩),(At c2 0),(((p.inputs.n:Int)+(p.stages.n:Int))).toNat,(((p.inputs.n:Int)+(p.stages.n:Int))).toNat,d2,[]) ⟨j2,om,(by rw [List.length_replicate];omega),(by rw [List.map_replicate,show ((p.inputs.n:Int)+(p.stages.n:Int)).toNat=(p.inputs.n+p.stages.n) by omega];rfl),e2,(fun z hz=>by rw [List.eq_of_mem_replicate hz];exact ⟨RdT.nil (enc:=Go.E.encI) (sz:=1) fR _⟩)⟩ ?_
 rintro ⟨i,zs,azs,nzs,kzs,czs,Gzs⟩ ρ _ ⟨q0,hi,hml,hmv,hOzs,hDzs⟩
 have hn_zs:=hOzs.len;have hl_zs:=hOzs.le
 refine seqE<|sR<|pu2<|sL q0 3 0 (.slice p.inputs.a p.inputs.n p.inputs.k) (isAgg25 _)<|pu2<|nT<|cD ((i:Int)<(p.inputs.n:Int)) (fun k2=>?_) (fun k2=>?_)
 ·refine kT<|seqE<|blockE<|rE<|pu3<|sL q0 3 0 (.slice p.inputs.a p.inputs.n p.inputs.k) (isAgg25 _)<|pu1<|sIdx hp.inputs (i:Int) runUnderlying25 sizeOf38 fun r0 _ _ s0 l2=>?_
  rw [Int.toNat_natCast] at s0
  have hpn:=plane_sz (shp_in hz0 (map_at (f:=Plane.v) s0)).1
  have hpn2:r0.pix.n<=100000:=by have h:=hpn.2.1;have h2:=hpn.1;unfold sizeP at h2;simp only [Plane.v] at h h2;have h3:=(hp.inputsD r0 (List.mem_of_getElem? s0)).pix.len;omega
  refine sLpA q0 (l2.up 4 rfl) 0 (encPlane r0) (isAgg38 _) (sizeOf38 _)<|cX call33 (r4_copy r0 ⟨(RdT.flat ((hp.inputsD r0 (List.mem_of_getElem? s0)).pix.up 4 (by rfl)))⟩ (od) q0.flat) ?_
  rintro _ _ ⟨x0,g1,rfl,h1,m2,n2⟩
  have o2:=n2.unflat1
  have hn_q_35_pix:=h1.pix.len;have hl_q_35_pix:=h1.pix.le
  refine sIdxO hOzs (i:Int) i runUnderlying25 sizeOf38 fun p2 _ _ q2 _ r2=>sStF o2 hOzs r2 2 i 0 p2 x0 q2 (.agg (encPlane x0).toArray) (encPlane x0) sizeOf38 fun _ i1 s2 t2=>nB<|rE<|pu1<|sAdd (i:Int) 1<|pu1<|nT ?_
  exact ⟨(i+1,(zs.set i x0),azs,nzs,kzs,i1,(g1++Gzs)),od,alA,(Sat.perm (cs':=(g1++Gzs)::(i1::l0::[(j0, .cells (encJob p).toArray 28 (0,0))]::H::F)) (show Sat W _ (g1::Gzs::i1::l0::[(j0, .cells (encJob p).toArray 28 (0,0))]::H::F) from t2) (by simp)),om,(by rw [List.length_set];exact hml),(by rw [List.map_set,hmv,fill_setG (by rw [List.length_map,List.length_take];omega) om,List.take_add_one,s0,Option.toList_some,List.map_append,m2];rfl),s2,(mem_set (fun z hz=>(hDzs z hz).of_mem mS) (h1.of_mem mS))⟩
 refine exitE<|xB<|tN<|seqE<|sR<|pu1<|nT<|blockE ?_
 have v2:=(q0.pick 1 rfl)
 have w2:=(v2.pick 1 rfl)
 refine loopA (γ:=Nat×(List Plane)×(Option Addr)×Nat×Nat×Chunk×Chunk) (fun ⟨i,zt,azt,nzt,kzt,czt,Gzt⟩=>[(1,Pt j0 0),(6, .slice o0 m0 p0),(10,I (i:Int)),(8, .slice azt nzt kzt)]) (fun ⟨i,zt,azt,nzt,kzt,czt,Gzt⟩ w=>Sat W w (Gzt::czt::l0::[(j0, .cells (encJob p).toArray 28 (0,0))]::H::F)/\i<=p.stages.n/\(zt.length=(p.inputs.n+p.stages.n))/\(zt.map Plane.v=meanG (p.inputs.n:Int) (p.stages.l.map Stage.v) ((ordV p.v).1.take i) (meanI p.v))/\OwnT encPlane 38 4 azt nzt kzt zt czt/\(∀z∈zt,Plane.Ok [Gzt] z)) (fun ⟨i,zt,azt,nzt,kzt,czt,Gzt⟩=>p.stages.n-i) (0,zs,azs,nzs,kzs,czs,Gzs) ⟨w2,om,hml,(by rw [hmv,show i=p.inputs.n by omega,List.take_of_length_le om,show (p.inputs.n+p.stages.n)-p.inputs.n=p.stages.n by omega];unfold meanI;rw [hvs];rfl),hOzs,hDzs⟩ ?_
 rintro ⟨i,zt,azt,nzt,kzt,czt,Gzt⟩ ρ _ ⟨d0,hi,hml2,hmv2,hOzt,hDzt⟩
 have hn_zt:=hOzt.len;have hl_zt:=hOzt.le
 refine seqE<|sR<|pu4<|nT<|cD ((i:Int)<(m0:Int)) (fun x2=>?_) (fun x2=>?_)
 rotate_left
 ·refine exitE<|xB<|tN<|sR<|pu3<|zE<|retT [.slice azt nzt kzt,I 0] ?_
  have y2:=(d0.drops [2,2])
  have z2:Sat W _ ((Gzt++czt)::H::F):=Sat.perm y2 (by simp)
  exact ⟨azt,nzt,kzt,zt,0,_,rfl,(hOzt.rd mS),(fun z hz=>(hDzt z hz).of_mem mS),(by rw [hmv2,show i=p.stages.n by omega,List.take_of_length_le om,show (shpV p.v).2.2=0 from hz0];unfold meanV;rw [if_pos hz0,hvi];rfl),z2⟩
 refine kT<|seqE<|blockE<|seqE ?_
 obtain ⟨i0,o1,p1,y0,q1,a3⟩:=RdT.elem w0 (i:Int)
 rw [Int.toNat_natCast] at y0
 have hnr:=hrng i0 (List.mem_of_getElem? y0)
 obtain ⟨a0,g0,h0,z0,b0,b3⟩:=RdT.elem hp.stages (i0-(p.inputs.n:Int))
 have hst:=stgAt_map (ni:=(p.inputs.n:Int)) z0;have hsm:a0.v∈p.v.stages:=List.mem_map_of_mem (List.mem_of_getElem? z0);have hsa:=hall.1 _ hsm _ (srcs_a _);simp only [Stage.v] at hsa
 refine drawE [12,13] [(1,⟨j0,1,none⟩, .slice p.stages.a p.stages.n p.stages.k),(5,⟨o1,p1,none⟩,I i0),(7,⟨j0,0,none⟩, .slice p.inputs.a p.inputs.n p.inputs.k),(11,⟨g0,h0+0,none⟩,I a0.kind),(11,⟨g0,h0+1,none⟩,I a0.a),(11,⟨g0,h0+2,none⟩,I a0.b),(11,⟨g0,h0+3,none⟩, .bool a0.barrier),(11,⟨g0,h0+4,none⟩,I a0.edgePolicy),(11,⟨g0,h0+5,none⟩,I a0.edgeFill),(11,⟨g0,h0+6,none⟩,I a0.kW),(11,⟨g0,h0+7,none⟩,I a0.kH),(11,⟨g0,h0+8,none⟩, .slice a0.weights.a a0.weights.n a0.weights.k),(11,⟨g0,h0+9,none⟩, .slice a0.row.a a0.row.n a0.row.k),(11,⟨g0,h0+10,none⟩, .slice a0.col.a a0.col.n a0.col.k),(11,⟨g0,h0+11,none⟩,I a0.shift),(11,⟨g0,h0+12,none⟩,I a0.shift2),(11,⟨g0,h0+13,none⟩, .slice a0.x.a a0.x.n a0.x.k),(11,⟨g0,h0+14,none⟩, .slice a0.y.a a0.y.n a0.y.k),(11,⟨g0,h0+15,none⟩,I a0.bins),(11,⟨g0,h0+16,none⟩, .slice a0.ops.a a0.ops.n a0.ops.k),(11,⟨g0,h0+17,none⟩,I a0.max_)] [(true,[0,2,3]),(true,[4]),(true,[6]),(true,[1]),(true,[5]),(true,[7]),(true,[8]),(true,[9]),(true,[10]),(true,[11]),(false,[12]),(false,[13])] rfl kr ⟨cI d0 3, .inr ((q1.up 2 rfl).cell d0 (k:=0) rfl),cI d0 3, .inr ((b0.up 4 rfl).cell d0 (k:=0) rfl), .inr ((b0.up 4 rfl).cell d0 (k:=1) rfl), .inr ((b0.up 4 rfl).cell d0 (k:=2) rfl), .inr ((b0.up 4 rfl).cell d0 (k:=3) rfl), .inr ((b0.up 4 rfl).cell d0 (k:=4) rfl), .inr ((b0.up 4 rfl).cell d0 (k:=5) rfl), .inr ((b0.up 4 rfl).cell d0 (k:=6) rfl), .inr ((b0.up 4 rfl).cell d0 (k:=7) rfl), .inr ((b0.up 4 rfl).cell d0 (k:=8) rfl), .inr ((b0.up 4 rfl).cell d0 (k:=9) rfl), .inr ((b0.up 4 rfl).cell d0 (k:=10) rfl), .inr ((b0.up 4 rfl).cell d0 (k:=11) rfl), .inr ((b0.up 4 rfl).cell d0 (k:=12) rfl), .inr ((b0.up 4 rfl).cell d0 (k:=13) rfl), .inr ((b0.up 4 rfl).cell d0 (k:=14) rfl), .inr ((b0.up 4 rfl).cell d0 (k:=15) rfl), .inr ((b0.up 4 rfl).cell d0 (k:=16) rfl), .inr ((b0.up 4 rfl).cell d0 (k:=17) rfl),trivial⟩ ?_
 have c3:=d0.drew
 refine wU [0,2,3]<|wY (.pointer (some ⟨o1,p1,none⟩)) rfl (fun w _=>Y_idx (a:=o0) (i:=(i:Int)) (len:=m0) (cap:=p0) rfl runUnderlying22 sizeOf3 kr kr a3)<|wU [6]<|wLd (.slice p.stages.a p.stages.n p.stages.k) 0 isAgg26<|wLd (I i0) 1 isAgg3<|wLd (.slice p.inputs.a p.inputs.n p.inputs.k) 2 isAgg25<|wU [8]<|wSub i0 (p.inputs.n:Int)<|wY (.pointer (some ⟨g0,h0,none⟩)) rfl (fun w _=>Y_idx (a:=p.stages.a) (i:=(i0-(p.inputs.n:Int))) (len:=p.stages.n) (cap:=p.stages.k) rfl runUnderlying26 sizeOf53 kr kr b3) ?_
 refine wY (.agg (encStage a0).toArray) rfl (fun w hF=>Y_loadF rfl (isAgg53 w) (sizeOf53 w) kr rfl ⟨hF 3 _ _ rfl,hF 4 _ _ rfl,hF 5 _ _ rfl,hF 6 _ _ rfl,hF 7 _ _ rfl,hF 8 _ _ rfl,hF 9 _ _ rfl,hF 10 _ _ rfl,hF 11 _ _ rfl,hF 12 _ _ rfl,hF 13 _ _ rfl,hF 14 _ _ rfl,hF 15 _ _ rfl,hF 16 _ _ rfl,hF 17 _ _ rfl,hF 18 _ _ rfl,hF 19 _ _ rfl,hF 20 _ _ rfl,trivial⟩)<|wO rfl<|sAlloc c3 zeroValue53 fun f0 _ e0=>?_
 refine nilO ⟨⟨cI e0 4, .inr ((q1.up 3 rfl).cell e0 (k:=0) rfl),cI e0 4, .inr ((b0.up 5 rfl).cell e0 (k:=0) rfl), .inr ((b0.up 5 rfl).cell e0 (k:=1) rfl), .inr ((b0.up 5 rfl).cell e0 (k:=2) rfl), .inr ((b0.up 5 rfl).cell e0 (k:=3) rfl), .inr ((b0.up 5 rfl).cell e0 (k:=4) rfl), .inr ((b0.up 5 rfl).cell e0 (k:=5) rfl), .inr ((b0.up 5 rfl).cell e0 (k:=6) rfl), .inr ((b0.up 5 rfl).cell e0 (k:=7) rfl), .inr ((b0.up 5 rfl).cell e0 (k:=8) rfl), .inr ((b0.up 5 rfl).cell e0 (k:=9) rfl), .inr ((b0.up 5 rfl).cell e0 (k:=10) rfl), .inr ((b0.up 5 rfl).cell e0 (k:=11) rfl), .inr ((b0.up 5 rfl).cell e0 (k:=12) rfl), .inr ((b0.up 5 rfl).cell e0 (k:=13) rfl), .inr ((b0.up 5 rfl).cell e0 (k:=14) rfl), .inr ((b0.up 5 rfl).cell e0 (k:=15) rfl), .inr ((b0.up 5 rfl).cell e0 (k:=16) rfl), .inr ((b0.up 5 rfl).cell e0 (k:=17) rfl),trivial⟩,?_⟩
 refine wO rfl<|sTl e0 0 (encStage a0) sizeOf53 fun _ d3=>nilO ⟨dA,?_⟩
 refine wN<|tN<|sR<|pu1<|sAlloc d3 zeroValue38 fun n0 _ e3=>sTl e3 0 [I 0,I 0,I 0,nS] sizeOf38 fun _ r1=>nT<|cutA (γ:=Plane) (fun yb=>[(1,Pt j0 0),(6, .slice o0 m0 p0),(10,I (i:Int)),(8, .slice azt nzt kzt),(11,Pt f0 0),(12,Pt n0 0)]) (fun yb w=>Sat W w ([(n0, .cells (encPlane yb).toArray 38 (0,0))]::[(f0, .cells (encStage a0).toArray 53 (0,0))]::Gzt::czt::l0::[(j0, .cells (encJob p).toArray 28 (0,0))]::H::F)/\srcB a0.v (zt.map Plane.v)=yb.v/\Plane.Ok [Gzt] yb) ?_ ?_
 ·refine sR<|lA r1 1 0 18 (isAgg53 _) (sizeOf53 _)<|cR call47 (r15_two a0 ((hp.stagesD a0 (List.mem_of_getElem? z0)).of_mem (mem_flat1 6 (by rfl))) r1.flat) fun _ a1=>nT<|cD (a0.kind=6/\¬a0.b=-1) (fun b1=>?_) (fun b1=>?_)
  rotate_left
  ·exact kT<|⟨(⟨0,0,0,⟨none,0,0,[]⟩⟩:Plane),alA,a1,(by unfold srcB;rw [if_neg (show ¬twoP a0.v from b1)];rfl),⟨RdT.nil (enc:=Go.E.encI) (sz:=1) fR _⟩⟩
  have hsb:=hall.1 _ hsm _ (srcs_b (s:=a0.v) b1);simp only [Stage.v] at hsb
  exact rE<|pu2<|sL a1 1 2 (I a0.b) (isAgg3 _)<|sIdxO hOzt a0.b (a0.b).toNat runUnderlying25 sizeOf38 fun c1 _ _ s1 f3 _=>sLpA a1 (f3.up 3 rfl) 0 (encPlane c1) (isAgg38 _) (sizeOf38 _)<|sTl a1 0 (encPlane c1) sizeOf38 fun _ g3=>nT<|⟨c1,alA,g3,(by unfold srcB;rw [if_pos (show twoP a0.v from b1),show a0.v.b=a0.b from rfl,plAt_map s1]),(hDzt c1 (List.mem_of_getElem? s1))⟩
 rintro yb ρ _ ⟨c0,hyb,hob⟩
 obtain ⟨i3,t1,u1,v1,w1,j3⟩:=RdT.elem w0 (i:Int)
 rw [Int.toNat_natCast] at v1
 obtain rfl:i0=i3:=Option.some.inj (y0.symm.trans v1)
 obtain ⟨k0,t0,u0,x1,d1,k3,w4⟩:=OwnT.elem hOzt a0.a
 obtain ⟨l3,m3,n3,o3,x4,p3,q3⟩:=OwnT.elem hOzt i0
 refine drawE [12,17] [(4,⟨t1,u1,none⟩,I i0),(5,⟨f0,0,none⟩,I a0.kind),(5,⟨f0,1,none⟩,I a0.a),(5,⟨f0,2,none⟩,I a0.b),(5,⟨f0,3,none⟩, .bool a0.barrier),(5,⟨f0,4,none⟩,I a0.edgePolicy),(5,⟨f0,5,none⟩,I a0.edgeFill),(5,⟨f0,6,none⟩,I a0.kW),(5,⟨f0,7,none⟩,I a0.kH),(5,⟨f0,8,none⟩, .slice a0.weights.a a0.weights.n a0.weights.k),(5,⟨f0,9,none⟩, .slice a0.row.a a0.row.n a0.row.k),(5,⟨f0,10,none⟩, .slice a0.col.a a0.col.n a0.col.k),(5,⟨f0,11,none⟩,I a0.shift),(5,⟨f0,12,none⟩,I a0.shift2),(5,⟨f0,13,none⟩, .slice a0.x.a a0.x.n a0.x.k),(5,⟨f0,14,none⟩, .slice a0.y.a a0.y.n a0.y.k),(5,⟨f0,15,none⟩,I a0.bins),(5,⟨f0,16,none⟩, .slice a0.ops.a a0.ops.n a0.ops.k),(5,⟨f0,17,none⟩,I a0.max_),(8,⟨f0,1,none⟩,I a0.a),(10,⟨t0,u0+(a0.a).toNat*4+0,none⟩,I k0.w),(10,⟨t0,u0+(a0.a).toNat*4+1,none⟩,I k0.h),(10,⟨t0,u0+(a0.a).toNat*4+2,none⟩,I k0.max_),(10,⟨t0,u0+(a0.a).toNat*4+3,none⟩, .slice k0.pix.a k0.pix.n k0.pix.k),(11,⟨n0,0,none⟩,I yb.w),(11,⟨n0,1,none⟩,I yb.h),(11,⟨n0,2,none⟩,I yb.max_),(11,⟨n0,3,none⟩, .slice yb.pix.a yb.pix.n yb.pix.k)] [(true,[0,1,2]),(true,[3]),(true,[6,7]),(true,[4]),(true,[5]),(true,[8]),(true,[9]),(true,[10]),(true,[11]),(false,[12]),(true,[13]),(true,[14]),(true,[15]),(true,[16]),(false,[17])] rfl kr ⟨.inr ((w1.up 4 rfl).cell c0 (k:=0) rfl),cI c0 1,cI c0 1,cI c0 1,cI c0 1,cI c0 1,cI c0 1,cI c0 1,cI c0 1,cI c0 1,cI c0 1,cI c0 1,cI c0 1,cI c0 1,cI c0 1,cI c0 1,cI c0 1,cI c0 1,cI c0 1,cI c0 1, .inr ((d1.up 3 rfl).cell c0 (k:=0) rfl), .inr ((d1.up 3 rfl).cell c0 (k:=1) rfl), .inr ((d1.up 3 rfl).cell c0 (k:=2) rfl), .inr ((d1.up 3 rfl).cell c0 (k:=3) rfl),cI c0 0,cI c0 0,cI c0 0,cI c0 0,trivial⟩ ?_
 have r3:=c0.drew
 refine wU [0,1,2]<|wY (.pointer (some ⟨t1,u1,none⟩)) rfl (fun w _=>Y_idx (a:=o0) (i:=(i:Int)) (len:=m0) (cap:=p0) rfl runUnderlying22 sizeOf3 kr kr j3)<|wU [6,7]<|wLd (I i0) 0 isAgg3<|wY (.agg (encStage a0).toArray) rfl (fun w hF=>Y_loadF rfl (isAgg53 w) (sizeOf53 w) kr rfl ⟨hF 1 _ _ rfl,hF 2 _ _ rfl,hF 3 _ _ rfl,hF 4 _ _ rfl,hF 5 _ _ rfl,hF 6 _ _ rfl,hF 7 _ _ rfl,hF 8 _ _ rfl,hF 9 _ _ rfl,hF 10 _ _ rfl,hF 11 _ _ rfl,hF 12 _ _ rfl,hF 13 _ _ rfl,hF 14 _ _ rfl,hF 15 _ _ rfl,hF 16 _ _ rfl,hF 17 _ _ rfl,hF 18 _ _ rfl,trivial⟩)<|wLd (I a0.a) 19 isAgg3 ?_
 refine wY (.pointer (some ⟨t0,u0+(a0.a).toNat*4,none⟩)) rfl (fun w _=>Y_idx (a:=azt) (i:=a0.a) (len:=nzt) (cap:=kzt) rfl runUnderlying25 sizeOf38 kr kr k3)<|wY (.agg (encPlane k0).toArray) rfl (fun w hF=>Y_loadF rfl (isAgg38 w) (sizeOf38 w) kr rfl ⟨hF 20 _ _ rfl,hF 21 _ _ rfl,hF 22 _ _ rfl,hF 23 _ _ rfl,trivial⟩)<|wY (.agg (encPlane yb).toArray) rfl (fun w hF=>Y_loadF rfl (isAgg38 w) (sizeOf38 w) kr rfl ⟨hF 24 _ _ rfl,hF 25 _ _ rfl,hF 26 _ _ rfl,hF 27 _ _ rfl,trivial⟩)<|wO rfl ?_
 refine cX call41 (r18_stage a0 k0 yb ((hp.stagesD a0 (List.mem_of_getElem? z0)).of_mem (mem_flat1 6 (by rfl))) ⟨(RdT.flat ((hDzt k0 (List.mem_of_getElem? x1)).pix.up 2 (by rfl)))⟩ ⟨(RdT.flat (hob.pix.up 2 (by rfl)))⟩ r3.flat) ?_
 rintro _ _ ⟨v0,s3,j1,rfl,k1,t3,u3⟩
 have l1:=u3.unflat1
 have hn_q_117_pix:=k1.pix.len;have hl_q_117_pix:=k1.pix.le
 refine nilO ⟨⟨.inr ((w1.up 5 rfl).cell l1 (k:=0) rfl),dI,dI,dI,dI,dI,dI,dI,dI,dI,dI,dI,dI,dI,dI,dI,dI,dI,dI,cI l1 2,dI,dI,dI,dI,dI,dI,dI,dI,trivial⟩,?_⟩
 refine wU [13]<|wU [14]<|wU [15]<|wY (.pointer (some ⟨m3,n3+(i0).toNat*4,none⟩)) rfl (fun w _=>Y_idx (a:=azt) (i:=i0) (len:=nzt) (cap:=kzt) rfl runUnderlying25 sizeOf38 kr kr p3)<|wO rfl<|sStF l1 hOzt q3 4 (i0).toNat 0 l3 v0 o3 (.agg (encPlane v0).toArray) (encPlane v0) sizeOf38 fun _ m1 v3 w3=>nilO ⟨dA,?_⟩
 refine wN<|bN<|tN<|rE<|pu1<|sAdd (i:Int) 1<|pu1<|nT ?_
 have hms2:meanS (p.inputs.n:Int) (p.stages.l.map Stage.v) i0 (zt.map Plane.v)=(v0.v,s3):=by
  unfold meanS
  rw [hst,show a0.v.a=a0.a from rfl,plAt_map x1,show srcB a0.v (zt.map Plane.v)=yb.v from ?_]
  ·exact t3.symm
  ·exact hyb
 have x3:=(w3.drops [1,1])
 exact ⟨(i+1,(zt.set ((i0).toNat) v0),azt,nzt,kzt,m1,(j1++Gzt)),od,alA,(Sat.perm (cs':=(j1++Gzt)::(m1::l0::[(j0, .cells (encJob p).toArray 28 (0,0))]::H::F)) (show Sat W _ (j1::Gzt::m1::l0::[(j0, .cells (encJob p).toArray 28 (0,0))]::H::F) from x3) (by simp)),om,(by rw [List.length_set];exact hml2),(by rw [List.map_set,hmv2,meanG_succ y0,<-hmv2,hms2]),v3,(mem_set (fun z hz=>(hDzt z hz).of_mem mS) (k1.of_mem mS))⟩
theorem r18_outputs (p:Job) (hp:Job.Ok [H] p) (hb:p.inputs.n<=1000000/\p.stages.n<=1000000/\p.outputs.n<=1000000) (hS:Sat W w (H::F)):
  Calls prog 37 #[.agg (encJob p).toArray] w fun e w'=>∃(az:Option Addr) (nz kz:Nat) (zs:List Plane) (c:Int) (G:Chunk),e= .returned (.tuple #[.slice az nz kz,I c])/\RdT encPlane 4 [G] az nz kz zs/\(∀z∈zs,Plane.Ok [G] z)/\(zs.map Plane.v,c)=(outV p.v,(shpV p.v).2.2)/\Sat W w' (G::H::F):=by
 have hl_p_inputs:=hp.inputs.le;have hn_p_inputs:=hp.inputs.len
 have hl_p_stages:=hp.stages.le;have hn_p_stages:=hp.stages.len
 have hl_p_outputs:=hp.outputs.le;have hn_p_outputs:=hp.outputs.len
 refine callsA 36 func37 rfl<|sR<|sBox hS (.agg (encJob p).toArray) (encJob p).toArray fun c0 _ o0=>pu2<|zS<|lA o0 0 0 4 (isAgg28 _) (sizeOf28 _)<|cX call13 (r18_of p (hp.of_mem (mem_flat1 1 (by rfl))) (od) o0.flat) ?_
 rintro _ _ ⟨r0,s0,t0,u0,e0,f0,rfl,g0,p0,h0,v0⟩
 have q0:=v0.unflat1
 have hn_az_12:=g0.len;have hl_az_12:=g0.le
 refine pu5<|zQ<|pu2<|nT<|cN e0 0 (fun w0=>?_) (fun w0=>?_)
 rotate_left
 ·refine sR<|pu3<|zR<|retT [nS,I e0] ?_
  have x0:=(q0.drops [0,0])
  have y0:Sat W _ ([]::H::F):=Sat.nilc x0
  exact ⟨none,0,0,[],e0,_,rfl,RdT.nil (enc:=encPlane) (sz:=4) fR [[]],(fun z hz=>by cases hz),(by have h:=congrArg Prod.snd h0;dsimp only at h;rw [<-h];unfold outV;rw [if_neg om];rfl),y0⟩
 refine kT<|seqE ?_
 have hmi:(p.inputs.l.map Plane.v).length=p.inputs.n:=by simp [hn_p_inputs]
 have hms:(p.stages.l.map Stage.v).length=p.stages.n:=by simp [hn_p_stages]
 have hz0:(shpV p.v).2.2=0:=by have h:=congrArg Prod.snd h0;dsimp only at h;omega
 have hmn:=congrArg Prod.fst h0;dsimp only at hmn;have hmo:=mean_ok hz0;have hall:=(chk_all (shp_ok hz0).ch).2;have hvi:p.v.inputs.length=p.inputs.n:=hmi;have hvs:p.v.stages.length=p.stages.n:=hms;rw [hvi,hvs] at hall hmo;have hxl:u0.length=p.inputs.n+p.stages.n:=by rw [<-List.length_map (f:=Plane.v),hmn];exact hmo.1
 refine rE<|pu1<|zQ<|pu1<|nT<|blockE ?_
 have z0:=Sat.nilc q0
 have a1:=OwnT.nil (enc:=encPlane) (E:=38) (sz:=4) fR
 refine loopA (γ:=Nat×(List Plane)×(Option Addr)×Nat×Nat×Chunk×Chunk) (fun ⟨i,zs,azs,nzs,kzs,czs,Gzs⟩=>[(1,Pt c0 0),(4, .slice r0 s0 t0),(7,I (i:Int)),(6, .slice azs nzs kzs)]) (fun ⟨i,zs,azs,nzs,kzs,czs,Gzs⟩ w=>Sat W w (Gzs::czs::f0::[(c0, .cells (encJob p).toArray 28 (0,0))]::H::F)/\i<=p.outputs.n/\(zs.length=i)/\(zs.map Plane.v=(p.outputs.l.take i).map (plAt (meanV p.v)))/\OwnT encPlane 38 4 azs nzs kzs zs czs/\(∀z∈zs,Plane.Ok [Gzs] z)) (fun ⟨i,zs,azs,nzs,kzs,czs,Gzs⟩=>p.outputs.n-i) (0,[],none,0,0,[],[]) ⟨(Sat.nilc z0),om,by rfl,by rfl,a1,(by intro z hz;cases hz)⟩ ?_
 rintro ⟨i,zs,azs,nzs,kzs,czs,Gzs⟩ ρ _ ⟨a0,hi,hml,hmv,hOzs,hDzs⟩
 have hn_zs:=hOzs.len;have hl_zs:=hOzs.le
 refine seqE<|sR<|pu2<|sL a0 3 2 (.slice p.outputs.a p.outputs.n p.outputs.k) (isAgg22 _)<|pu2<|nT<|cD ((i:Int)<(p.outputs.n:Int)) (fun c1=>?_) (fun c1=>?_)
 rotate_left
 ·refine exitE<|xB<|tN<|sR<|pu3<|zE<|retT [.slice azs nzs kzs,I 0] ?_
  have d1:=(a0.drops [2,2])
  have e1:Sat W _ ((Gzs++czs)::H::F):=Sat.perm d1 (by simp)
  exact ⟨azs,nzs,kzs,zs,0,_,rfl,(hOzs.rd mS),(fun z hz=>(hDzs z hz).of_mem mS),(by rw [hmv,show i=p.outputs.n by omega,List.take_of_length_le om,hz0];unfold outV;rw [if_pos hz0];rfl),e1⟩
 refine kT<|seqE<|blockE<|rE<|pu3<|sL a0 3 2 (.slice p.outputs.a p.outputs.n p.outputs.k) (isAgg22 _)<|pu1<|sIdx hp.outputs (i:Int) runUnderlying22 sizeOf3 fun i0 _ _ j0 f1=>?_
 rw [Int.toNat_natCast] at j0
 have hor:=hall i0 (List.mem_of_getElem? j0)
 refine sLp a0 (f1.up 4 rfl) 0 (I i0) (isAgg3 _)<|sIdx g0 i0 runUnderlying25 sizeOf38 fun b0 _ _ k0 g1=>?_
 have hpv:=plAt_map k0;rw [hmn] at hpv;have hpz:=plane_sz (hmo.2 _ hor.1 hor.2).1;rw [hpv] at hpz
 have hpn2:b0.pix.n<=100000:=by have h:=hpz.2.1;have h2:=hpz.1;unfold sizeP at h2;simp only [Plane.v] at h h2;have h3:=(p0 b0 (List.mem_of_getElem? k0)).pix.len;omega
 refine sLpA a0 (g1.up 2 rfl) 0 (encPlane b0) (isAgg38 _) (sizeOf38 _)<|cX call33 (r4_copy b0 ⟨(RdT.flat ((p0 b0 (List.mem_of_getElem? k0)).pix.up 2 (by rfl)))⟩ (od) a0.flat) ?_
 rintro _ _ ⟨d0,l0,rfl,m0,h1,i1⟩
 have j1:=i1.unflat1
 have hn_q_37_pix:=m0.pix.len;have hl_q_37_pix:=m0.pix.le
 refine sBS j1 (encPlane d0).toArray runUnderlying25 sizeOf38 zeroValue38 fun _ _ k1=>sApp (nb:=48) k1 hOzs 3 (RdT.blk (enc:=encPlane) (sz:=4) (xs:=[d0]) fR 1 0 rfl rfl rfl om) underlying25 (i:=Tryz.t38) kr fR fun l1 m1 n0 _ n1 o1=>pu1<|nB<|rE<|pu1<|sAdd (i:Int) 1<|pu1<|nT ?_
 have p1:=(o1.dropAt 0 rfl)
 exact ⟨(i+1,(zs++[d0]),l1,(nzs+1),m1,n0,(l0++Gzs)),od,alA,(Sat.perm (cs':=(l0++Gzs)::(n0::f0::[(c0, .cells (encJob p).toArray 28 (0,0))]::H::F)) (show Sat W _ (l0::Gzs::n0::f0::[(c0, .cells (encJob p).toArray 28 (0,0))]::H::F) from p1) (by simp)),om,(by rw [List.length_append,hml];rfl),(by rw [List.map_append,hmv,List.take_add_one,j0,Option.toList_some,List.map_append,List.map_cons,List.map_nil,List.map_cons,List.map_nil,show Plane.v d0=_ from h1,hpv]),n1,(by
   intro z hz
   rcases List.mem_append.1 hz with h|h
   ·exact (hDzs z h).of_mem mS
   ·simp only [List.mem_singleton] at h;subst h;exact (m0.of_mem mS))⟩
end Go.Proofs.YtmlhcafjelkjfaaGreat
