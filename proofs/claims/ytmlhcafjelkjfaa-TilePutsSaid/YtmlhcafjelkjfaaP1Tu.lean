import Derived.Test.YtmlhcafjelkjfaaP1Ab
import Derived.WalkKit
import Derived.Deep.Quiet
import Derived.KernelRfl
import Derived.Laws.BytesString
import Derived.Laws.Shifts
import Derived.Laws.IdiomStrings
import Derived.Test.YtmlhcafjelkjfaaProg
import Derived.Laws.IdiomRangeMap
import Derived.Test.YtmlhcafjelkjfaaP1CkQ
import Derived.Test.YtmlhcafjelkjfaaP1TGen
namespace Go.Proofs.Ytmlhcafjelkjfaa
open Go Go.E Go.Proofs.Try
set_option linter.all false
set_option maxRecDepth 100000
set_option maxHeartbeats 2000000
variable {W w:World} {H:Chunk} {F:List Chunk}
section
variable {P:Program} {n:Nat} {ρ:Env} {w:World} {ops:Array Oper} {rest:List Oper} {N:Env->World->Prop} {o:Oper}
theorem sQuoN (a b:Int) {t u:TypeId} {x y:Operand} (h:OpsE P n ops rest N (put ρ o.dst (.int .i64 (a.tdiv b))) w) (hb:¬b=0:=by omega) (hq:-9223372036854775808<=a.tdiv b/\a.tdiv b<=9223372036854775807:=by omega)
    (ho:o.op= .binOp .quo t x y u:=by rfl) (hg:o.guard=none:=by rfl) (hd:dstOK n o.dst=true:=by rfl) (hx:ev ρ x= .int .i64 a:=by kernel_rfl) (hy:ev ρ y= .int .i64 b:=by kernel_rfl):
    OpsE P n ops (o::rest) N ρ w:=stepY _ hg hd (Y_arith ho hx hy (by simp [binOp,Op.intDiv,hb,wrap_i64 hq])) h
end
theorem rn_push {a b z:Int} {o:POp} {l:List POp} {st:List Int} (hc:0<=o.code/\o.code<=2) (hz:appV o 0 0 a b=z) (hz2:accP z):rnGo a b (o::l) st=rnGo a b l (st++[z]):=by
  have t0:takesV o.code=0:=by unfold takesV;rw [if_pos (by omega)]
  have h1:stX o st=0:=by unfold stX;rw [if_neg (by omega)]
  have h2:stY o st=0:=by unfold stY;rw [if_neg (by omega)]
  rw [rnGo,h1,h2,if_pos ⟨fun h=>by omega,by rw [hz];exact hz2⟩,hz,t0]
  congr 1
  rw [show st.length-(0:Int).toNat=st.length from rfl,List.take_length]
theorem app_ab {o:POp} {x y a b c d:Int} (h:3<=o.code):appV o x y a b=appV o x y c d:=by
  have h0:¬o.code=0:=(by omega);have h1:¬o.code=1:=(by omega);have h2:¬o.code=2:=(by omega)
  simp only [appV,h0,h1,h2,if_false]
theorem app_y {o:POp} {x y z a b:Int} (h:10<=o.code):appV o x y a b=appV o x z a b:=by
  have h0:¬o.code=0:=(by omega);have h1:¬o.code=1:=(by omega);have h2:¬o.code=2:=(by omega);have h3:¬o.code=3:=(by omega);have h4:¬o.code=4:=(by omega);have h5:¬o.code=5:=(by omega);have h6:¬o.code=6:=(by omega);have h7:¬o.code=7:=(by omega);have h8:¬o.code=8:=(by omega);have h9:¬o.code=9:=(by omega)
  simp only [appV,h0,h1,h2,h3,h4,h5,h6,h7,h8,h9,if_false]
theorem rn_xy {o:POp} {st:List Int} {x y a b:Int} (hc:3<=o.code/\o.code<=11) (hx:st[st.length-(takesV o.code).toNat]?=some x) (hy:st[st.length-1]?=some y):
  stX o st=x/\appV o x (stY o st) a b=appV o x y 0 0/\(appOK o x (stY o st) a b↔appOK o x y 0 0):=by
 have h1:stX o st=x:=by unfold stX;rw [if_pos (by unfold takesV;split;omega;split<;>omega),List.getD_eq_getElem?_getD,hx];rfl
 by_cases h:10<=o.code
 ·have h2:appV o x (stY o st) a b=appV o x y 0 0:=(app_ab om).trans (app_y h)
  exact ⟨h1,h2,by unfold appOK;rw [h2];exact and_congr_left (fun _=>⟨fun _ h5=>by omega,fun _ h5=>by omega⟩)⟩
 ·have e:stY o st=y:=by unfold stY;rw [if_pos (by unfold takesV;rw [if_neg om,if_neg om]),List.getD_eq_getElem?_getD,hy];rfl
  have h2:appV o x (stY o st) a b=appV o x y 0 0:=by rw [e];exact app_ab om
  exact ⟨h1,h2,by unfold appOK;rw [h2,e]⟩
theorem rn_op {a b:Int} {o:POp} {l:List POp} {st m:List Int} {x y:Int} (hc:3<=o.code/\o.code<=11) (hx:st[st.length-(takesV o.code).toNat]?=some x) (hy:st[st.length-1]?=some y) (hok:appOK o x y 0 0) (hm:m=st.take (st.length-(takesV o.code).toNat)):
    rnGo a b (o::l) st=rnGo a b l (m++[appV o x y 0 0]):=by
  obtain ⟨h1,h2,h3⟩:=rn_xy (a:=a) (b:=b) hc hx hy
  subst hm
  rw [rnGo,h1,h2,if_pos (h3.2 hok)]
theorem rn_no {a b:Int} {o:POp} {l:List POp} {st:List Int} {x y:Int} (hc:3<=o.code/\o.code<=11) (hx:st[st.length-(takesV o.code).toNat]?=some x) (hy:st[st.length-1]?=some y) (hok:¬appOK o x y 0 0):rnGo a b (o::l) st=none:=by
  obtain ⟨h1,h2,h3⟩:=rn_xy (a:=a) (b:=b) hc hx hy
  rw [rnGo,h1,if_neg (fun k=>hok (h3.1 k))]
theorem app_acc {o:POp} {x y:Int} (h:appOK o x y 0 0):accP (appV o x y 0 0):=h.2
theorem fdiv_t {x y:Int} (hy:¬y=0):x.fdiv y=if ¬x.tmod y=0/\¬(x<0↔y<0) then x.tdiv y-1 else x.tdiv y:=by
 have h1:=Int.mul_tdiv_add_tmod x y
 have h2:=Int.mul_fdiv_add_fmod x y
 have hr:(x.tmod y).natAbs<y.natAbs:=by rw [Int.natAbs_tmod];exact Nat.mod_lt _ om
 have hs:(0<=x->0<=x.tmod y)/\(x<=0->x.tmod y<=0):=⟨fun h=>Int.tmod_nonneg y h,fun h=>by have:=Int.tmod_nonneg y (show 0<=-x by omega);rw [Int.neg_tmod] at this;omega⟩
 have key:∀q r q2 r2:Int,y*q+r=y*q2+r2->(r-r2).natAbs<y.natAbs->q=q2:=by
  intro q r q2 r2 h h3
  by_cases he:q=q2
  ·exact he
  ·exfalso
   have h4:y*(q2-q)=r-r2:=by rw [Int.mul_sub];omega
   have h5:y.natAbs*(q2-q).natAbs=(r-r2).natAbs:=by rw [<-h4,Int.natAbs_mul]
   have h6:=Nat.mul_le_mul_left y.natAbs (show 1<=(q2-q).natAbs by omega)
   omega
 rcases Int.lt_or_lt_of_ne hy with h0|h0
 ·have f1:y<x.fmod y/\x.fmod y<=0:=by
   have h4:=Int.fmod_nonneg_of_pos (-x) (show 0< -y by omega);have h5:=Int.fmod_lt_of_pos (-x) (show 0< -y by omega)
   rw [Int.neg_fmod_neg] at h4 h5;omega
  split
  ·rename_i h
   refine (key (x.tdiv y-1) (x.tmod y+y) (x.fdiv y) (x.fmod y) (by rw [Int.mul_sub,Int.mul_one];omega) om).symm
  ·rename_i h
   refine (key (x.tdiv y) (x.tmod y) (x.fdiv y) (x.fmod y) om om).symm
 ·have f1:0<=x.fmod y/\x.fmod y<y:=⟨Int.fmod_nonneg_of_pos _ h0,Int.fmod_lt_of_pos _ h0⟩
  split
  ·rename_i h
   refine (key (x.tdiv y-1) (x.tmod y+y) (x.fdiv y) (x.fmod y) (by rw [Int.mul_sub,Int.mul_one];omega) om).symm
  ·rename_i h
   refine (key (x.tdiv y) (x.tmod y) (x.fdiv y) (x.fmod y) om om).symm
def pwC (p q:PlaneV) (two:Bool) (l:List POp) (out:Int) (r:Rct):Int:=if planeOK p=true/\(two=true->planeOK q=true) then (if pwCode l two p.max_ q.max_ out=0 then (if (two=true->p.w=q.w/\p.h=q.h)/\rIn r p.w p.h then 0 else 8) else pwCode l two p.max_ q.max_ out) else 1
theorem pwT_eq {p q:PlaneV} {two:Bool} {l:List POp} {out:Int} {r:Rct}:pwT p q two l out r=okT (pwC p q two l out r) (mkPl r out (pwX p q two l out)):=rfl
section
variable {p q:PlaneV} {two:Bool} {l:List POp} {out:Int} {r:Rct}
theorem pwC_1 (h:¬(planeOK p=true/\(two=true->planeOK q=true))):pwC p q two l out r=1:=if_neg h
theorem pwC_c {c:Int} (h:planeOK p=true/\(two=true->planeOK q=true)) (hc:pwCode l two p.max_ q.max_ out=c) (hn:¬c=0):pwC p q two l out r=c:=by unfold pwC;rw [if_pos h,if_neg (by omega),hc]
theorem pwC_8 (h:planeOK p=true/\(two=true->planeOK q=true)) (hc:pwCode l two p.max_ q.max_ out=0) (hr:¬((two=true->p.w=q.w/\p.h=q.h)/\rIn r p.w p.h)):pwC p q two l out r=8:=by unfold pwC;rw [if_pos h,if_pos hc,if_neg hr]
theorem pwC_0 (h:planeOK p=true/\(two=true->planeOK q=true)) (hc:pwCode l two p.max_ q.max_ out=0) (hr:(two=true->p.w=q.w/\p.h=q.h)/\rIn r p.w p.h):pwC p q two l out r=0:=by unfold pwC;rw [if_pos h,if_pos hc,if_pos hr]
end
theorem p14_quotient (x:Int) (y:Int) (hx:-17592186044416<=x/\x<=17592186044416) (hy:-17592186044416<=y/\y<=17592186044416) (hS:Sat W w (H::F)):
  Ro prog 98 #[I x,I y] (I (floorV x y)) W w (H::F):=by
 refine callsA 25 func98 rfl<|sR<|pu1<|zQ<|pu2<|nT<|cE y 0 (fun b0=>?_) (fun b0=>?_)
 ·exact sR<|pu1<|zR<|retT [I 0]<|⟨congrArg (fun z=>Ending.returned (I z)) (by unfold floorV;rw [if_pos om]),hS⟩
 refine kT<|seqE ?_
 have hq1:-17592186044416<=x.tdiv y/\x.tdiv y<=17592186044416:=by have h:=Int.natAbs_tdiv_le_natAbs x y;omega
 refine rE<|pu2<|sQuoN x y<|pu1<|zQ<|pu2<|sRem x y<|pu2<|sN 15 (x.tmod y) 0 (fun c0=>?_) (fun c0=>?_)
 ·exact pu6<|nT<|cFf<|kS<|pu2<|zE<|retT [I (x.tdiv y)]<|⟨congrArg (fun z=>Ending.returned (I z)) (by unfold floorV;rw [if_neg om,fdiv_t om,if_neg om]),hS⟩
 refine pu6<|nT ?_
 rcases bool_em (decide (x<0)) (decide (y<0)) with a0|a0
 ·refine cF _ (congrArg Bool.not (show ((decide (x<0))==(decide (y<0)))=true from by simpa using a0)) ?_
  refine kS<|pu2<|zE<|retT [I (x.tdiv y)] ?_
  have hde:=a0;rw [decide_eq_decide] at hde
  exact ⟨congrArg (fun z=>Ending.returned (I z)) (by unfold floorV;rw [if_neg om,fdiv_t om,if_neg om]),hS⟩
 refine cT _ (congrArg Bool.not (show ((decide (x<0))==(decide (y<0)))=false from by simpa using a0)) ?_
 refine rE<|pu1<|sSub (x.tdiv y) 1<|pu1<|zS<|pu2<|zE<|retT [I ((x.tdiv y)-1)] ?_
 have hde:=a0;rw [decide_eq_decide] at hde
 exact ⟨congrArg (fun z=>Ending.returned (I z)) (by unfold floorV;rw [if_neg om,fdiv_t om,if_pos ⟨om,om⟩]),hS⟩
theorem p14_value (o:POp) (x:Int) (y:Int) (hx:-17592186044416<=x/\x<=17592186044416) (hy:-17592186044416<=y/\y<=17592186044416) (hc:3<=o.code/\o.code<=11) (ho:argP o) (hS:Sat W w (H::F)):
  Ro prog 89 #[.agg #[I o.code,I o.arg],I x,I y] (.tuple #[I (appV o x y 0 0), .bool (decide (appOK o x y 0 0))]) W w (H::F):=by
 refine callsA 67 func89 rfl<|sR<|sBox hS (.agg #[I o.code,I o.arg]) #[I o.code,I o.arg] fun _ _ a0=>pu2<|zS<|pu2<|zQ<|pu1<|sL a0 0 0 (I o.code) (isAgg3 _)<|nT<|blockE<|sR<|pu2<|nT<|cE o.code 3 (fun c0=>?_) (fun c0=>?_)
 ·refine rE<|pu2<|sAdd x y<|pu1<|nB<|sR<|pu4<|gY<|cR call95 (p14_within (x+y) a0.flat) fun _ d0=>pu3<|zE<|retT [I (x+y), .bool (decide ((-17592186044416:Int)<=(x+y)/\(x+y)<=17592186044416))] ?_
  have e0:=(d0.dropAt 0 rfl)
  have hv:appV o x y 0 0=(x+y):=(by unfold appV;rw [if_neg om,if_neg om,if_neg om,if_pos om])
  have hok:decide (appOK o x y 0 0)=decide ((-17592186044416:Int)<=(x+y)/\(x+y)<=17592186044416):=by rw [Bool.eq_iff_iff,decide_eq_true_eq];unfold appOK accP;rw [hv];simp only [decide_eq_true_eq];exact ⟨fun h=>h.2,fun h=>⟨fun h5=>by omega,h⟩⟩
  exact ⟨by rw [hok,hv];rfl,e0⟩
 refine sR<|pu2<|nT<|cE o.code 4 (fun f0=>?_) (fun f0=>?_)
 ·refine rE<|pu2<|sSub x y<|pu1<|nB<|sR<|pu4<|gY<|cR call95 (p14_within (x-y) a0.flat) fun _ g0=>pu3<|zE<|retT [I (x-y), .bool (decide ((-17592186044416:Int)<=(x-y)/\(x-y)<=17592186044416))] ?_
  have h0:=(g0.dropAt 0 rfl)
  have hv:appV o x y 0 0=(x-y):=(by unfold appV;rw [if_neg om,if_neg om,if_neg om,if_neg om,if_pos om])
  have hok:decide (appOK o x y 0 0)=decide ((-17592186044416:Int)<=(x-y)/\(x-y)<=17592186044416):=by rw [Bool.eq_iff_iff,decide_eq_true_eq];unfold appOK accP;rw [hv];simp only [decide_eq_true_eq];exact ⟨fun h=>h.2,fun h=>⟨fun h5=>by omega,h⟩⟩
  exact ⟨by rw [hok,hv];rfl,h0⟩
 refine sR<|pu2<|nT<|cE o.code 5 (fun i0=>?_) (fun i0=>?_)
 ·refine rE<|pu2<|cR call96 (p14_product x y (od) (od) a0.flat) fun _ b0=>pu5<|nB<|sR<|pu3<|sB 63 (timesOK x y) (fun j0=>?_) (fun j0=>?_)
  rotate_left
  ·refine pu5<|zE<|retT [I (timesV x y), .bool false] ?_
   have k0:=(b0.dropAt 0 rfl)
   have hv:appV o x y 0 0=(timesV x y):=(by unfold appV;rw [if_neg om,if_neg om,if_neg om,if_neg om,if_neg om,if_pos om])
   have hok:decide (appOK o x y 0 0)=false:=decide_eq_false (fun h=>by have h1:=h.1 om;simp_all)
   exact ⟨by rw [hok,hv];rfl,k0⟩
  refine pu1<|gY<|cR call95 (p14_within (timesV x y) b0.flat) fun _ l0=>pu3<|zE<|retT [I (timesV x y), .bool (decide ((-17592186044416:Int)<=(timesV x y)/\(timesV x y)<=17592186044416))] ?_
  have m0:=(l0.dropAt 0 rfl)
  have hv:appV o x y 0 0=(timesV x y):=(by unfold appV;rw [if_neg om,if_neg om,if_neg om,if_neg om,if_neg om,if_pos om])
  have hok:decide (appOK o x y 0 0)=decide ((-17592186044416:Int)<=(timesV x y)/\(timesV x y)<=17592186044416):=by rw [Bool.eq_iff_iff,decide_eq_true_eq];unfold appOK accP;rw [hv];simp only [decide_eq_true_eq];exact ⟨fun h=>h.2,fun h=>⟨fun _=>by simp_all,h⟩⟩
  exact ⟨by rw [hok,hv];rfl,m0⟩
 refine sR<|pu2<|nT<|cE o.code 6 (fun n0=>?_) (fun n0=>?_)
 ·refine rE<|pu2<|stepY (I (min x y)) rfl rfl (Y_min2 x y rfl rfl kr kr)<|pu1<|nB<|sR<|pu4<|gY<|cR call95 (p14_within (min x y) a0.flat) fun _ o0=>pu3<|zE<|retT [I (min x y), .bool (decide ((-17592186044416:Int)<=(min x y)/\(min x y)<=17592186044416))] ?_
  have p0:=(o0.dropAt 0 rfl)
  have hv:appV o x y 0 0=(min x y):=(by unfold appV;rw [if_neg om,if_neg om,if_neg om,if_neg om,if_neg om,if_neg om,if_pos om])
  have hok:decide (appOK o x y 0 0)=decide ((-17592186044416:Int)<=(min x y)/\(min x y)<=17592186044416):=by rw [Bool.eq_iff_iff,decide_eq_true_eq];unfold appOK accP;rw [hv];simp only [decide_eq_true_eq];exact ⟨fun h=>h.2,fun h=>⟨fun h5=>by omega,h⟩⟩
  exact ⟨by rw [hok,hv];rfl,p0⟩
 refine sR<|pu2<|nT<|cE o.code 7 (fun q0=>?_) (fun q0=>?_)
 ·refine rE<|pu2<|stepY (I (max x y)) rfl rfl (Y_max2 x y rfl rfl kr kr)<|pu1<|nB<|sR<|pu4<|gY<|cR call95 (p14_within (max x y) a0.flat) fun _ r0=>pu3<|zE<|retT [I (max x y), .bool (decide ((-17592186044416:Int)<=(max x y)/\(max x y)<=17592186044416))] ?_
  have s0:=(r0.dropAt 0 rfl)
  have hv:appV o x y 0 0=(max x y):=(by unfold appV;rw [if_neg om,if_neg om,if_neg om,if_neg om,if_neg om,if_neg om,if_neg om,if_pos om])
  have hok:decide (appOK o x y 0 0)=decide ((-17592186044416:Int)<=(max x y)/\(max x y)<=17592186044416):=by rw [Bool.eq_iff_iff,decide_eq_true_eq];unfold appOK accP;rw [hv];simp only [decide_eq_true_eq];exact ⟨fun h=>h.2,fun h=>⟨fun h5=>by omega,h⟩⟩
  exact ⟨by rw [hok,hv];rfl,s0⟩
 refine sR<|pu2<|nT<|cE o.code 8 (fun t0=>?_) (fun t0=>?_)
 ·refine rE<|pu2<|sSub x y<|cR call97 (p14_abs (x-y) (od) a0.flat) fun _ u0=>pu1<|nB<|sR<|pu4<|gY<|cR call95 (p14_within (((x-y).natAbs:Nat):Int) u0.flat) fun _ v0=>pu3<|zE<|retT [I (((x-y).natAbs:Nat):Int), .bool (decide ((-17592186044416:Int)<=(((x-y).natAbs:Nat):Int)/\(((x-y).natAbs:Nat):Int)<=17592186044416))] ?_
  have w0:=(v0.dropAt 0 rfl)
  have hv:appV o x y 0 0=(((x-y).natAbs:Nat):Int):=(by unfold appV;rw [if_neg om,if_neg om,if_neg om,if_neg om,if_neg om,if_neg om,if_neg om,if_neg om,if_pos om])
  have hok:decide (appOK o x y 0 0)=decide ((-17592186044416:Int)<=(((x-y).natAbs:Nat):Int)/\(((x-y).natAbs:Nat):Int)<=17592186044416):=by rw [Bool.eq_iff_iff,decide_eq_true_eq];unfold appOK accP;rw [hv];simp only [decide_eq_true_eq];exact ⟨fun h=>h.2,fun h=>⟨fun h5=>by omega,h⟩⟩
  exact ⟨by rw [hok,hv];rfl,w0⟩
 refine sR<|pu2<|nT<|cE o.code 9 (fun x0=>?_) (fun x0=>?_)
 ·refine rE<|pu2<|cR call98 (p14_quotient x y (od) (od) a0.flat) fun _ y0=>pu1<|nB<|sR<|pu4<|gY<|cR call95 (p14_within (floorV x y) y0.flat) fun _ z0=>pu3<|zE<|retT [I (floorV x y), .bool (decide ((-17592186044416:Int)<=(floorV x y)/\(floorV x y)<=17592186044416))] ?_
  have a1:=(z0.dropAt 0 rfl)
  have hv:appV o x y 0 0=(floorV x y):=(by unfold appV;rw [if_neg om,if_neg om,if_neg om,if_neg om,if_neg om,if_neg om,if_neg om,if_neg om,if_neg om,if_pos om])
  have hok:decide (appOK o x y 0 0)=decide ((-17592186044416:Int)<=(floorV x y)/\(floorV x y)<=17592186044416):=by rw [Bool.eq_iff_iff,decide_eq_true_eq];unfold appOK accP;rw [hv];simp only [decide_eq_true_eq];exact ⟨fun h=>h.2,fun h=>⟨fun h5=>by omega,h⟩⟩
  exact ⟨by rw [hok,hv];rfl,a1⟩
 refine sR<|pu2<|nT<|cE o.code 10 (fun b1=>?_) (fun b1=>?_)
 ·refine rE<|pu2<|sL a0 0 1 (I o.arg) (isAgg3 _)<|cR call64 (p7_shift x o.arg a0.flat) fun _ c1=>pu1<|nB<|sR<|pu4<|gY<|cR call95 (p14_within (shiftV x o.arg) c1.flat) fun _ d1=>pu3<|zE<|retT [I (shiftV x o.arg), .bool (decide ((-17592186044416:Int)<=(shiftV x o.arg)/\(shiftV x o.arg)<=17592186044416))] ?_
  have e1:=(d1.dropAt 0 rfl)
  have hv:appV o x y 0 0=(shiftV x o.arg):=(by unfold appV;rw [if_neg om,if_neg om,if_neg om,if_neg om,if_neg om,if_neg om,if_neg om,if_neg om,if_neg om,if_neg om,if_pos om])
  have hok:decide (appOK o x y 0 0)=decide ((-17592186044416:Int)<=(shiftV x o.arg)/\(shiftV x o.arg)<=17592186044416):=by rw [Bool.eq_iff_iff,decide_eq_true_eq];unfold appOK accP;rw [hv];simp only [decide_eq_true_eq];exact ⟨fun h=>h.2,fun h=>⟨fun h5=>by omega,h⟩⟩
  exact ⟨by rw [hok,hv];rfl,e1⟩
 refine sR<|pu2<|nT ?_
 have f1:(o.code:Int)=11:=om
 refine cT _ (beq_iff_eq.2 f1)<|rE<|pu1<|cR call97 (p14_abs x (od) a0.flat) fun _ g1=>pu1<|nB<|sR<|pu4<|gY<|cR call95 (p14_within (x.natAbs:Int) g1.flat) fun _ i1=>pu3<|zE<|retT [I (x.natAbs:Int), .bool (decide ((-17592186044416:Int)<=(x.natAbs:Int)/\(x.natAbs:Int)<=17592186044416))] ?_
 have j1:=(i1.dropAt 0 rfl)
 have hv:appV o x y 0 0=(x.natAbs:Int):=(by unfold appV;rw [if_neg om,if_neg om,if_neg om,if_neg om,if_neg om,if_neg om,if_neg om,if_neg om,if_neg om,if_neg om,if_neg om])
 have hok:decide (appOK o x y 0 0)=decide ((-17592186044416:Int)<=(x.natAbs:Int)/\(x.natAbs:Int)<=17592186044416):=by rw [Bool.eq_iff_iff,decide_eq_true_eq];unfold appOK accP;rw [hv];simp only [decide_eq_true_eq];exact ⟨fun h=>h.2,fun h=>⟨fun h5=>by omega,h⟩⟩
 exact ⟨by rw [hok,hv];rfl,j1⟩
theorem p14_run (al:Option Addr) (nl kl:Nat) (l:List POp) (a:Int) (b:Int) (hl:RdT encPOp 2 [H] al nl kl l) (two:Bool) (hlc:opsCode l two=0) (ha:0<=a/\a<=4294967296) (hb:0<=b/\b<=4294967296) (hS:Sat W w (H::F)):
  Ro prog 73 #[.slice al nl kl,I a,I b] (.tuple #[I ((runV l a b).1),I ((runV l a b).2)]) W w (H::F):=by
 have hl_l:=hl.le;have hn_l:=hl.len
 obtain ⟨hx0,hx1,hx32⟩:=opsCode_go hlc
 refine callsA 81 func73 rfl ?_
 refine sR<|pu2<|zS ?_
 refine sMake0 (kl:= .i64) (kc:= .i64) (enc:=Go.E.encI) (sz:=1) (nb:=8) hS 32 32 (rfl:(32:Int)=((32:Nat):Int)) underlying22 (i:=Try.t3) kr fR ?_
 intro r0 s0 _ t0 u0
 refine pu1<|zQ<|pu3<|nT<|blockE ?_
 refine loopA (γ:=Nat×(List Int)×(Option Addr)×Nat×Nat×Chunk) (fun ⟨i,zs,azs,nzs,kzs,czs⟩=>[(1,I a),(2,I b),(17, .slice al nl kl),(18,I (nl:Int)),(19,I (i:Int)),(8, .slice azs nzs kzs)]) (fun ⟨i,zs,azs,nzs,kzs,czs⟩ w=>Sat W w (czs::H::F)/\i<=nl/\(rnGo a b l []=rnGo a b (l.drop i) zs)/\(opsGo two (l.drop i) (zs.length:Int)=0)/\(∀z∈zs,-17592186044416<=z/\z<=17592186044416)/\(zs.length<=i)/\OwnT Go.E.encI 3 1 azs nzs kzs zs czs) (fun ⟨i,zs,azs,nzs,kzs,czs⟩=>nl-i) (0,[],(At r0 0),0,32,s0) ⟨u0,om,by rfl,(opsCode_go hlc).1,(by intro z hz;cases hz),by simp,t0⟩ ?_
 rintro ⟨i,zs,azs,nzs,kzs,czs⟩ ρ _ ⟨g0,hi,hG,hH,hAc,hzl,hOzs⟩
 have hn_zs:=hOzs.len;have hl_zs:=hOzs.le
 refine sR<|pu1<|nT<|seqE ?_
 refine cD ((i:Int)<(nl:Int)) (fun v0=>?_) (fun v0=>?_)
 rotate_left
 ·refine exitE<|xB<|tN<|seqE ?_
  have hh:opsGo two (l.drop i) zs.length=0:=hH
  rw [List.drop_of_length_le om] at hh;have hz1:zs.length=1:=(by unfold opsGo at hh;split at hh<;>omega)
  refine rE<|pu1 ?_
  refine sIdxO hOzs 0 0 runUnderlying22 sizeOf3 ?_
  intro h0 _ _ w0 x0 _
  refine sLp g0 (x0.up 0 rfl) 0 (I h0) (isAgg3 _) ?_
  refine pu2<|zE<|retT [I h0,I 0] ?_
  have y0:=(g0.dropAt 0 rfl)
  have hend:rnGo a b l []=some zs:=by rw [hG,List.drop_of_length_le om];rfl
  have hz0:zs[0]?=some h0:=w0
  exact ⟨by rw [show runV l a b=(h0,0) from by unfold runV;rw [hend];dsimp only;rw [List.getD_eq_getElem?_getD,hz0];rfl];rfl,y0⟩
 refine kT<|seqE<|blockE<|sR ?_
 refine sIdx hl (i:Int) runUnderlying57 sizeOf119 ?_
 intro a0 _ _ b0 z0
 rw [Int.toNat_natCast] at b0
 obtain ⟨hob,hoa,hog⟩:=opsGo_zero (by rw [<-drop_at b0];exact hH)
 have hpk:=ptakes_bd a0.code;have htk_x_9:=takesV_bd a0.code;have hob2:(0<=a0.code/\a0.code<=11)/\takesV a0.code<=zs.length:=(by unfold opBad at hob;omega);have hob3:3<=a0.code->1<=takesV a0.code:=(by intro h;unfold takesV;rw [if_neg om];split<;>omega)
 refine sLpA g0 (z0.up 1 rfl) 0 [I a0.code,I a0.arg] (isAgg119 _) (sizeOf119 _) ?_
 refine sAlloc g0 zeroValue119 ?_
 intro l0 _ a1
 refine sTl a1 0 [I a0.code,I a0.arg] sizeOf119 ?_
 intro _ c0
 refine zQ<|pu1 ?_
 refine sL c0 0 0 (I a0.code) (isAgg3 _) ?_
 refine nT<|blockE<|sR<|pu2<|nT ?_
 refine cE a0.code 0 (fun b1=>?_) (fun b1=>?_)
 ·refine sR<|pu2 ?_
  refine sBS c0 #[I a] runUnderlying22 sizeOf3 zeroValue3 ?_
  intro _ _ c1
  refine sApp (nb:=8) c1 hOzs 2 (RdT.blk (enc:=Go.E.encI) (sz:=1) (xs:=[a]) fR 1 0 rfl rfl rfl om) underlying22 (i:=Try.t3) kr fR ?_
  intro d1 e1 f1 _ g1 h1
  refine pu1<|nT ?_
  refine exitE<|blockK_y rfl<|thenK_x<|blockK_x ?_
  refine tN<|rE ?_
  refine sAdd (i:Int) 1 ?_
  refine pu1<|nT ?_
  exact ⟨(i+1,(zs++[a]),d1,(nzs+1),e1,f1),od,alA,(h1.drops [0,0]),om,by rw [hG,drop_at b0];exact rn_push om (by unfold appV;rw [if_pos om]) (by unfold accP;unfold argP at hoa;omega),by rw [List.length_append];simp only [List.length_cons,List.length_nil];rw [show (((zs.length+(0+1):Nat)):Int)=(zs.length:Int)+(1-takesV a0.code) from by rw [show takesV a0.code=0 from by unfold takesV;rw [if_pos om]];omega];exact hog,(by
    intro z hz
    rcases List.mem_append.1 hz with h|h
    ·exact hAc z h
    ·simp only [List.mem_singleton] at h;subst h;unfold argP at hoa;omega),by simp;omega,g1⟩
 refine sR<|pu2<|nT ?_
 refine cE a0.code 1 (fun j1=>?_) (fun j1=>?_)
 ·refine sR<|pu2 ?_
  refine sBS c0 #[I b] runUnderlying22 sizeOf3 zeroValue3 ?_
  intro _ _ k1
  refine sApp (nb:=8) k1 hOzs 2 (RdT.blk (enc:=Go.E.encI) (sz:=1) (xs:=[b]) fR 1 0 rfl rfl rfl om) underlying22 (i:=Try.t3) kr fR ?_
  intro l1 m1 n1 _ o1 q1
  refine pu1<|nT ?_
  refine exitE<|blockK_y rfl<|thenK_x<|blockK_x ?_
  refine tN<|rE ?_
  refine sAdd (i:Int) 1 ?_
  refine pu1<|nT ?_
  exact ⟨(i+1,(zs++[b]),l1,(nzs+1),m1,n1),od,alA,(q1.drops [0,0]),om,by rw [hG,drop_at b0];exact rn_push om (by unfold appV;rw [if_neg om,if_pos om]) (by unfold accP;unfold argP at hoa;omega),by rw [List.length_append];simp only [List.length_cons,List.length_nil];rw [show (((zs.length+(0+1):Nat)):Int)=(zs.length:Int)+(1-takesV a0.code) from by rw [show takesV a0.code=0 from by unfold takesV;rw [if_pos om]];omega];exact hog,(by
    intro z hz
    rcases List.mem_append.1 hz with h|h
    ·exact hAc z h
    ·simp only [List.mem_singleton] at h;subst h;unfold argP at hoa;omega),by simp;omega,o1⟩
 refine sR<|pu2<|nT ?_
 refine cE a0.code 2 (fun s1=>?_) (fun s1=>?_)
 ·refine sR<|pu2 ?_
  refine sL c0 0 1 (I a0.arg) (isAgg3 _) ?_
  refine sBS c0 #[I a0.arg] runUnderlying22 sizeOf3 zeroValue3 ?_
  intro _ _ t1
  refine sApp (nb:=8) t1 hOzs 2 (RdT.blk (enc:=Go.E.encI) (sz:=1) (xs:=[a0.arg]) fR 1 0 rfl rfl rfl om) underlying22 (i:=Try.t3) kr fR ?_
  intro u1 v1 w1 _ x1 y1
  refine pu1<|nT ?_
  refine exitE<|blockK_y rfl<|thenK_x<|blockK_x ?_
  refine tN<|rE ?_
  refine sAdd (i:Int) 1 ?_
  refine pu1<|nT ?_
  exact ⟨(i+1,(zs++[a0.arg]),u1,(nzs+1),v1,w1),od,alA,(y1.drops [0,0]),om,by rw [hG,drop_at b0];exact rn_push om (by unfold appV;rw [if_neg om,if_neg om,if_pos om]) (by unfold accP;unfold argP at hoa;omega),by rw [List.length_append];simp only [List.length_cons,List.length_nil];rw [show (((zs.length+(0+1):Nat)):Int)=(zs.length:Int)+(1-takesV a0.code) from by rw [show takesV a0.code=0 from by unfold takesV;rw [if_pos om]];omega];exact hog,(by
    intro z hz
    rcases List.mem_append.1 hz with h|h
    ·exact hAc z h
    ·simp only [List.mem_singleton] at h;subst h;unfold argP at hoa;omega),by simp;omega,x1⟩
 refine skipE<|bN<|tN<|seqE ?_
 have hc3:3<=a0.code:=om;have hob4:=hob3 hc3
 refine rE<|pu1 ?_
 refine sL c0 0 0 (I a0.code) (isAgg3 _) ?_
 refine cR call86 (p14_takes a0.code c0.flat) ?_
 intro _ f0
 have i3:(0<=(ptakesV a0.code)/\(ptakesV a0.code)<=2)/\(¬(0<=a0.code/\a0.code<=11)\/(ptakesV a0.code)=takesV a0.code):=ptakes_bd _
 refine pu5<|zS<|pu3 ?_
 refine sSub (nzs:Int) (ptakesV a0.code) ?_
 refine pu1<|nT<|seqE ?_
 obtain ⟨d0,m0,n0,j0,a2,b2,j3⟩:=OwnT.elem hOzs ((nzs:Int)-(ptakesV a0.code))
 obtain ⟨e0,o0,p0,k0,c2,d2,k3⟩:=OwnT.elem hOzs ((nzs:Int)-1)
 refine drawE [11] [(0,⟨l0,0,none⟩,I a0.code),(0,⟨l0,1,none⟩,I a0.arg),(4,⟨m0,n0+(((nzs:Int)-(ptakesV a0.code))).toNat*1,none⟩,I d0),(10,⟨o0,p0+(((nzs:Int)-1)).toNat*1,none⟩,I e0)] [(true,[1,2]),(true,[3]),(true,[5,6,7]),(true,[8]),(true,[9]),(true,[0]),(true,[4]),(true,[10]),(false,[11]),(true,[12]),(true,[13]),(true,[14]),(true,[15,16])] rfl kr ⟨cI f0 0,cI f0 0, .inr ((a2.up 1 rfl).cell f0 (k:=0) rfl), .inr ((c2.up 1 rfl).cell f0 (k:=0) rfl),trivial⟩ ?_
 have e2:=f0.drew
 refine wU [1,2] ?_
 refine wY (.pointer (some ⟨m0,n0+(((nzs:Int)-(ptakesV a0.code))).toNat*1,none⟩)) rfl (fun w _=>Y_idx (a:=azs) (i:=((nzs:Int)-(ptakesV a0.code))) (len:=nzs) (cap:=kzs) rfl runUnderlying22 sizeOf3 kr kr b2) ?_
 refine wU [5,6,7] ?_
 refine wSub (nzs:Int) 1 ?_
 refine wY (.pointer (some ⟨o0,p0+(((nzs:Int)-1)).toNat*1,none⟩)) rfl (fun w _=>Y_idx (a:=azs) (i:=((nzs:Int)-1)) (len:=nzs) (cap:=kzs) rfl runUnderlying22 sizeOf3 kr kr d2) ?_
 refine wY (.agg #[I a0.code,I a0.arg]) rfl (fun w hF=>Y_loadF rfl (isAgg119 w) (sizeOf119 w) kr rfl ⟨hF 0 _ _ rfl,hF 1 _ _ rfl,trivial⟩) ?_
 refine wLd (I d0) 2 isAgg3 ?_
 refine wLd (I e0) 3 isAgg3 ?_
 refine wO rfl ?_
 refine cR call89 (p14_value a0 d0 e0 (hAc _ (List.mem_of_getElem? j0)) (hAc _ (List.mem_of_getElem? k0)) om hoa e2.flat) ?_
 intro _ q0
 refine nilO ⟨dA,?_⟩
 refine wU [12]<|wU [13]<|wU [14]<|wU [15,16] ?_
 refine wN ?_
 refine tN<|seqE<|sR<|pu2<|nT ?_
 refine cDn (appOK a0 d0 e0 0 0) (fun i0=>?_) (fun i0=>?_)
 rotate_left
 ·refine sR<|pu2<|zE<|tR<|tK<|tR<|tK<|retT [I 0,I 11] ?_
  have f2:=(q0.drops [0,0])
  have hbad:rnGo a b l []=none:=by rw [hG,drop_at b0];exact rn_no om (by have e:=j0;rw [show zs.length-(takesV a0.code).toNat=((nzs:Int)-(ptakesV a0.code)).toNat by omega];exact e) (by have e:=k0;rw [show zs.length-1=((nzs:Int)-1).toNat by omega];exact e) i0
  exact ⟨by rw [show runV l a b=(0,11) from by unfold runV;rw [hbad]];rfl,f2⟩
 refine kT<|rE<|pu2 ?_
 refine sSl none (some ((nzs:Int)-(ptakesV a0.code))) 0 ((((nzs:Int)-(ptakesV a0.code))).toNat) runUnderlying22 sizeOf3 rfl ⟨om,om⟩ om om ?_ (a:=azs) (len:=nzs) (cap:=kzs)
 have g2:=hOzs.part (lo:=0) (hi:=(((nzs:Int)-(ptakesV a0.code))).toNat) om om
 refine pu1 ?_
 refine sBS q0 #[I (appV a0 d0 e0 0 0)] runUnderlying22 sizeOf3 zeroValue3 ?_
 intro _ _ h2
 refine sApp (nb:=8) h2 g2 2 (RdT.blk (enc:=Go.E.encI) (sz:=1) (xs:=[(appV a0 d0 e0 0 0)]) fR 1 0 rfl rfl rfl om) underlying22 (i:=Try.t3) kr fR ?_
 intro i2 j2 k2 _ l2 m2
 refine pu1<|nB<|rE ?_
 refine sAdd (i:Int) 1 ?_
 refine pu1<|nT ?_
 exact ⟨(i+1,(((zs.drop 0).take ((((nzs:Int)-(ptakesV a0.code))).toNat-0))++[(appV a0 d0 e0 0 0)]),i2,(((((nzs:Int)-(ptakesV a0.code))).toNat-0)+1),j2,k2),od,alA,(m2.drops [0,0]),om,by rw [hG,drop_at b0,rn_op (m:=((zs.drop 0).take ((((nzs:Int)-(ptakesV a0.code))).toNat-0))) om (by have e:=j0;rw [show zs.length-(takesV a0.code).toNat=((nzs:Int)-(ptakesV a0.code)).toNat by omega];exact e) (by have e:=k0;rw [show zs.length-1=((nzs:Int)-1).toNat by omega];exact e) i0 (by rw [List.drop_zero];congr 1;omega)],by simp only [List.length_append,List.length_take,List.length_drop,List.length_cons,List.length_nil];rw [show (((min _ _+(0+1):Nat)):Int)=(zs.length:Int)+(1-takesV a0.code) from by omega];exact hog,(by
   intro z hz
   rcases List.mem_append.1 hz with h|h
   ·exact hAc z (List.mem_of_mem_drop (List.mem_of_mem_take h))
   ·simp only [List.mem_singleton] at h;subst h;exact app_acc i0),by simp;omega,l2⟩
theorem p14_tile (p:Plane) (u0:Plane) (two:Bool) (al:Option Addr) (nl kl:Nat) (l:List POp) (out:Int) (r:Rct) (hp:Plane.Ok [H] p) (hu0:Plane.Ok [H] u0) (hl:RdT encPOp 2 [H] al nl kl l) (hS:Sat W w (H::F)):
  Calls prog 55 #[.agg (encPlane p).toArray, .agg (encPlane u0).toArray, .bool two, .slice al nl kl,I out, .agg (encRct r).toArray] w fun e w'=>∃(q:Plane) (c:Int) (G:Chunk),e= .returned (.tuple #[.agg (encPlane q).toArray,I c])/\q.Ok [G]/\(q.v,c)=pwT p.v u0.v two l out r/\Sat W w' (G::H::F):=by
 have hl_p_pix:=hp.pix.le;have hn_p_pix:=hp.pix.len
 have hl_u0_pix:=hu0.pix.le;have hn_u0_pix:=hu0.pix.len
 have hl_l:=hl.le;have hn_l:=hl.len
 refine callsA 167 func55 rfl ?_
 refine sR ?_
 refine sBox hS (.agg (encPlane p).toArray) (encPlane p).toArray ?_
 intro a0 _ b2
 refine sBox b2 (.agg (encPlane u0).toArray) (encPlane u0).toArray ?_
 intro b0 _ c2
 refine sBox c2 (.agg (encRct r).toArray) (encRct r).toArray ?_
 intro c0 _ d2
 refine sAlloc d2 zeroValue28 ?_
 intro d0 _ d1
 refine pu1<|nT ?_
 refine cutA (γ:=Unit) (fun _=>[(2, .bool two),(3, .slice al nl kl),(4,I out),(6,Pt a0 0),(7,Pt b0 0),(11,Pt c0 0),(12,Pt d0 0)]) (fun _ w=>Sat W w ([(d0, .cells #[I 0,I 0,I 0,nS] 28 (0,0))]::[(c0, .cells (encRct r).toArray 24 (0,0))]::[(b0, .cells (encPlane u0).toArray 28 (0,0))]::[(a0, .cells (encPlane p).toArray 28 (0,0))]::H::F)/\(planeOK p.v=true/\(two=true->planeOK u0.v=true))) ?_ ?_
 ·refine sR ?_
  refine lA d1 3 0 4 (isAgg28 _) (sizeOf28 _) ?_
  refine cR call18 (p4_valid p ⟨(RdT.flat (hp.pix.up 4 (by rfl)))⟩ d1.flat) ?_
  intro _ m0
  refine pu2 ?_
  refine sBn 28 (planeOK p.v) (fun n0=>?_) (fun n0=>?_)
  rotate_left
  ·refine pu7<|zC<|pu1 ?_
   refine sTl m0 0 [I 0,I 0,I 0,nS] sizeOf28 ?_
   intro _ e1
   refine pu1<|zR<|retC e1 0 [I 0,I 0,I 0,nS] (I 1) (isAgg28 _) (sizeOf28 _) ?_
   have hC:pwC p.v u0.v two l out r=1:=pwC_1 (fun h=>n0 h.1)
   have e2:=(e1.drops [0,0,0,0])
   have f2:Sat W _ ([]::H::F):=Sat.nilc e2
   exact ⟨(⟨0,0,0,⟨none,0,0,[]⟩⟩:Plane),1,_,rfl,⟨RdT.nil (enc:=Go.E.encI) (sz:=1) fR [[]]⟩,(by rw [pwT_eq,okT_c hC om];rfl),f2⟩
  refine pu2 ?_
  refine sB 30 two (fun q0=>?_) (fun q0=>?_)
  rotate_left
  ·refine pu5<|nT<|cFf<|kT ?_
   exact ⟨(),alA,m0,⟨n0,fun h=>absurd h q0⟩⟩
  refine gY ?_
  refine lA m0 2 0 4 (isAgg28 _) (sizeOf28 _) ?_
  refine gY ?_
  refine cR call18 (p4_valid u0 ⟨(RdT.flat (hu0.pix.up 4 (by rfl)))⟩ m0.flat) ?_
  intro _ f1
  refine pu3<|nT ?_
  refine cBn (planeOK u0.v) (fun r0=>?_) (fun r0=>?_)
  ·refine kT ?_
   exact ⟨(),alA,f1,⟨n0,fun _=>r0⟩⟩
  refine sR<|pu1 ?_
  refine sTl f1 0 [I 0,I 0,I 0,nS] sizeOf28 ?_
  intro _ g1
  refine pu1<|zR<|retC g1 0 [I 0,I 0,I 0,nS] (I 1) (isAgg28 _) (sizeOf28 _) ?_
  have hC:pwC p.v u0.v two l out r=1:=pwC_1 (fun h=>r0 (h.2 q0))
  have g2:=(g1.drops [0,0,0,0])
  have i2:Sat W _ ([]::H::F):=Sat.nilc g2
  exact ⟨(⟨0,0,0,⟨none,0,0,[]⟩⟩:Plane),1,_,rfl,⟨RdT.nil (enc:=Go.E.encI) (sz:=1) fR [[]]⟩,(by rw [pwT_eq,okT_c hC om];rfl),i2⟩
 rintro _ ρ _ ⟨j2,hP⟩
 refine seqE<|sR<|pu2 ?_
 refine cR call71 (p14_valid al nl kl l two (RdT.flat (hl.up 4 (by rfl))) j2.flat) ?_
 intro _ i0
 refine pu1<|zS<|pu2<|nT ?_
 refine cN (opsCode l two) 0 (fun k2=>?_) (fun k2=>?_)
 rotate_left
 ·refine sR<|pu2 ?_
  refine sTl i0 0 [I 0,I 0,I 0,nS] sizeOf28 ?_
  intro _ i1
  refine pu1<|zR<|retC i1 0 [I 0,I 0,I 0,nS] (I (opsCode l two)) (isAgg28 _) (sizeOf28 _) ?_
  have hpc:pwCode l two p.v.max_ u0.v.max_ out=(opsCode l two):=by unfold pwCode;rw [if_neg om]
  have hC:pwC p.v u0.v two l out r=(opsCode l two):=pwC_c hP hpc om
  have l2:=(i1.drops [0,0,0,0])
  have m2:Sat W _ ([]::H::F):=Sat.nilc l2
  exact ⟨(⟨0,0,0,⟨none,0,0,[]⟩⟩:Plane),(opsCode l two),_,rfl,⟨RdT.nil (enc:=Go.E.encI) (sz:=1) fR [[]]⟩,(by rw [pwT_eq,okT_c hC om];rfl),m2⟩
 refine kT<|seqE<|sR<|pu3 ?_
 refine sD 46 (out<1) (fun n2=>?_) (fun n2=>?_)
 ·refine pu3<|zC<|pu1 ?_
  refine sTl i0 0 [I 0,I 0,I 0,nS] sizeOf28 ?_
  intro _ j1
  refine pu1<|zR<|retC j1 0 [I 0,I 0,I 0,nS] (I 2) (isAgg28 _) (sizeOf28 _) ?_
  have hpc:pwCode l two p.v.max_ u0.v.max_ out=2:=by unfold pwCode;rw [if_pos om,if_neg om]
  have hC:pwC p.v u0.v two l out r=2:=pwC_c hP hpc om
  have o2:=(j1.drops [0,0,0,0])
  have q2:Sat W _ ([]::H::F):=Sat.nilc o2
  exact ⟨(⟨0,0,0,⟨none,0,0,[]⟩⟩:Plane),2,_,rfl,⟨RdT.nil (enc:=Go.E.encI) (sz:=1) fR [[]]⟩,(by rw [pwT_eq,okT_c hC om];rfl),q2⟩
 refine pu3<|nT ?_
 refine cD (out>4294967296) (fun r2=>?_) (fun r2=>?_)
 ·refine sR<|pu1 ?_
  refine sTl i0 0 [I 0,I 0,I 0,nS] sizeOf28 ?_
  intro _ k1
  refine pu1<|zR<|retC k1 0 [I 0,I 0,I 0,nS] (I 2) (isAgg28 _) (sizeOf28 _) ?_
  have hpc:pwCode l two p.v.max_ u0.v.max_ out=2:=by unfold pwCode;rw [if_pos om,if_neg om]
  have hC:pwC p.v u0.v two l out r=2:=pwC_c hP hpc om
  have s2:=(k1.drops [0,0,0,0])
  have t2:Sat W _ ([]::H::F):=Sat.nilc s2
  exact ⟨(⟨0,0,0,⟨none,0,0,[]⟩⟩:Plane),2,_,rfl,⟨RdT.nil (enc:=Go.E.encI) (sz:=1) fR [[]]⟩,(by rw [pwT_eq,okT_c hC om];rfl),t2⟩
 refine kS<|pu1<|nT ?_
 refine cutA (γ:=Int) (fun sv=>[(2, .bool two),(3, .slice al nl kl),(4,I out),(6,Pt a0 0),(7,Pt b0 0),(11,Pt c0 0),(12,Pt d0 0),(15,I sv)]) (fun sv w=>Sat W w ([(d0, .cells #[I 0,I 0,I 0,nS] 28 (0,0))]::[(c0, .cells (encRct r).toArray 24 (0,0))]::[(b0, .cells (encPlane u0).toArray 28 (0,0))]::[(a0, .cells (encPlane p).toArray 28 (0,0))]::H::F)/\sv=(if two=true then u0.max_ else 1)) ?_ ?_
 ·refine sR<|pu1<|nT ?_
  refine cB two (fun s0=>?_) (fun s0=>?_)
  rotate_left
  ·refine kT ?_
   exact ⟨1,alA,i0,(by rw [if_neg s0])⟩
  refine rE<|pu1 ?_
  refine sL i0 2 2 (I u0.max_) (isAgg3 _) ?_
  refine pu1<|nT ?_
  exact ⟨u0.max_,alA,i0,(by rw [if_pos s0])⟩
 rintro sv ρ _ ⟨l1,hsv⟩
 refine seqE<|sR<|pu2 ?_
 refine sL l1 3 2 (I p.max_) (isAgg3 _) ?_
 refine pu1 ?_
 refine cR call72 (p14_interval al nl kl l p.max_ sv (RdT.flat (hl.up 4 (by rfl))) l1.flat) ?_
 intro _ e0
 refine pu7<|zS<|pu2<|nT ?_
 refine cN ((ivRes l p.max_ sv).2.2) 0 (fun u2=>?_) (fun u2=>?_)
 rotate_left
 ·refine sR<|pu2 ?_
  refine sTl e0 0 [I 0,I 0,I 0,nS] sizeOf28 ?_
  intro _ m1
  refine pu1<|zR<|retC m1 0 [I 0,I 0,I 0,nS] (I ((ivRes l p.max_ sv).2.2)) (isAgg28 _) (sizeOf28 _) ?_
  have hpc:pwCode l two p.v.max_ u0.v.max_ out=(ivRes l p.max_ sv).2.2:=by unfold pwCode;rw [if_pos om,if_pos om,hsv];rfl
  have hC:pwC p.v u0.v two l out r=(ivRes l p.max_ sv).2.2:=pwC_c hP hpc om
  have v2:=(m1.drops [0,0,0,0])
  have w2:Sat W _ ([]::H::F):=Sat.nilc v2
  exact ⟨(⟨0,0,0,⟨none,0,0,[]⟩⟩:Plane),((ivRes l p.max_ sv).2.2),_,rfl,⟨RdT.nil (enc:=Go.E.encI) (sz:=1) fR [[]]⟩,(by rw [pwT_eq,okT_c hC om];rfl),w2⟩
 refine kT<|seqE ?_
 refine cutA (γ:=Unit) (fun _=>[(2, .bool two),(3, .slice al nl kl),(4,I out),(6,Pt a0 0),(7,Pt b0 0),(11,Pt c0 0),(12,Pt d0 0),(81, .bool (decide (¬(two=true->p.w=u0.w/\p.h=u0.h))))]) (fun _ w=>Sat W w ([(d0, .cells #[I 0,I 0,I 0,nS] 28 (0,0))]::[(c0, .cells (encRct r).toArray 24 (0,0))]::[(b0, .cells (encPlane u0).toArray 28 (0,0))]::[(a0, .cells (encPlane p).toArray 28 (0,0))]::H::F)) ?_ ?_
 ·refine rE<|pu2 ?_
  refine sB 68 two (fun o0=>?_) (fun o0=>?_)
  rotate_left
  ·refine pu13<|nT ?_
   exact ⟨(),⟨kr,kr,kr,kr,kr,kr,kr,(Eq.trans (b:= .bool false) kr (congrArg Value.bool (decide_eq_false (p:=¬(two=true->p.w=u0.w/\p.h=u0.h)) (by first|(exact fun h=>h (fun e=>absurd e o0))|(simp_all;done)|(simp_all;omega)|omega)).symm)),trivial⟩,e0⟩
  refine pu1<|gY ?_
  refine sL e0 3 0 (I p.w) (isAgg3 _) ?_
  refine pu1<|gY ?_
  refine sL e0 2 0 (I u0.w) (isAgg3 _) ?_
  refine pu2 ?_
  refine sN 74 p.w u0.w (fun x2=>?_) (fun x2=>?_)
  rotate_left
  ·refine pu7<|nT ?_
   exact ⟨(),⟨kr,kr,kr,kr,kr,kr,kr,(Eq.trans (b:= .bool true) kr (congrArg Value.bool (decide_eq_true (p:=¬(two=true->p.w=u0.w/\p.h=u0.h)) (by exact fun h=>by have h1:=h o0;omega)).symm)),trivial⟩,e0⟩
  refine pu1<|gY ?_
  refine sL e0 3 1 (I p.h) (isAgg3 _) ?_
  refine pu1<|gY ?_
  refine sL e0 2 1 (I u0.h) (isAgg3 _) ?_
  refine pu3<|nT ?_
  exact ⟨(),⟨kr,kr,kr,kr,kr,kr,kr,(Eq.trans (b:= .bool ((p.h:Int)!=u0.h)) kr (congrArg Value.bool (by rw [Bool.eq_iff_iff];simp only [decide_eq_true_eq,beq_iff_eq,bne_iff_ne,ne_eq,Bool.not_eq_true',decide_eq_false_iff_not,gt_iff_lt,ge_iff_le,Bool.and_eq_true,Bool.or_eq_true,Bool.not_eq_eq_eq_not,Bool.not_true,Bool.and_eq_false_imp,beq_eq_false_iff_ne]<;>first|(exact fun h=>h (fun e=>absurd e o0))|(simp_all;done)|(simp_all;omega)|omega))),trivial⟩,e0⟩
 rintro _ ρ _ t0
 refine cD (¬(two=true->p.w=u0.w/\p.h=u0.h)) (fun v0=>?_) (fun v0=>?_)
 ·refine sR<|pu1 ?_
  refine sTl t0 0 [I 0,I 0,I 0,nS] sizeOf28 ?_
  intro _ n1
  refine pu1<|zR<|retC n1 0 [I 0,I 0,I 0,nS] (I 8) (isAgg28 _) (sizeOf28 _) ?_
  have hpc:pwCode l two p.v.max_ u0.v.max_ out=(ivRes l p.max_ sv).2.2:=by unfold pwCode;rw [if_pos om,if_pos om,hsv];rfl
  have hp0:pwCode l two p.v.max_ u0.v.max_ out=0:=by rw [hpc];omega
  have hC:pwC p.v u0.v two l out r=8:=pwC_8 hP hp0 (fun h=>v0 h.1)
  have y2:=(n1.drops [0,0,0,0])
  have z2:Sat W _ ([]::H::F):=Sat.nilc y2
  exact ⟨(⟨0,0,0,⟨none,0,0,[]⟩⟩:Plane),8,_,rfl,⟨RdT.nil (enc:=Go.E.encI) (sz:=1) fR [[]]⟩,(by rw [pwT_eq,okT_c hC om];rfl),z2⟩
 refine kT<|seqE<|sR ?_
 refine lA t0 1 0 4 (isAgg24 _) (sizeOf24 _) ?_
 refine cR call19 (p2_empty r t0.flat) ?_
 intro _ l0
 refine pu1 ?_
 refine sD 85 (r.x0=0/\r.y0=0/\r.x1=0/\r.y1=0) (fun w0=>?_) (fun w0=>?_)
 ·refine pu9<|zC<|pu1 ?_
  refine sTl l0 0 [I 0,I 0,I 0,nS] sizeOf28 ?_
  intro _ o1
  refine pu1<|zR<|retC o1 0 [I 0,I 0,I 0,nS] (I 8) (isAgg28 _) (sizeOf28 _) ?_
  have hpc:pwCode l two p.v.max_ u0.v.max_ out=(ivRes l p.max_ sv).2.2:=by unfold pwCode;rw [if_pos om,if_pos om,hsv];rfl
  have hp0:pwCode l two p.v.max_ u0.v.max_ out=0:=by rw [hpc];omega
  have hsz:=(plane_sz hP.1).1;unfold sizeP at hsz;simp only [Plane.v] at hsz
  have hC:pwC p.v u0.v two l out r=8:=pwC_8 hP hp0 (fun h=>by have h2:=(ins_in (by simp only [Plane.v];omega) (by simp only [Plane.v];omega)).2 h.2;exact h2.1 w0)
  have a3:=(o1.drops [0,0,0,0])
  have b3:Sat W _ ([]::H::F):=Sat.nilc a3
  exact ⟨(⟨0,0,0,⟨none,0,0,[]⟩⟩:Plane),8,_,rfl,⟨RdT.nil (enc:=Go.E.encI) (sz:=1) fR [[]]⟩,(by rw [pwT_eq,okT_c hC om];rfl),b3⟩
 refine gY ?_
 refine lA l0 1 0 4 (isAgg24 _) (sizeOf24 _) ?_
 refine pu1<|gY ?_
 refine sL l0 3 0 (I p.w) (isAgg3 _) ?_
 refine pu1<|gY ?_
 refine sL l0 3 1 (I p.h) (isAgg3 _) ?_
 refine pu1<|gY ?_
 refine cR call20 (p2_inside r (⟨0,0,p.w,p.h⟩:Rct) l0.flat) ?_
 intro _ j0
 refine pu2<|nT ?_
 refine cDn (insP r (⟨0,0,p.w,p.h⟩:Rct)) (fun z0=>?_) (fun z0=>?_)
 rotate_left
 ·refine sR<|pu1 ?_
  refine sTl j0 0 [I 0,I 0,I 0,nS] sizeOf28 ?_
  intro _ q1
  refine pu1<|zR<|retC q1 0 [I 0,I 0,I 0,nS] (I 8) (isAgg28 _) (sizeOf28 _) ?_
  have hpc:pwCode l two p.v.max_ u0.v.max_ out=(ivRes l p.max_ sv).2.2:=by unfold pwCode;rw [if_pos om,if_pos om,hsv];rfl
  have hp0:pwCode l two p.v.max_ u0.v.max_ out=0:=by rw [hpc];omega
  have hsz:=(plane_sz hP.1).1;unfold sizeP at hsz;simp only [Plane.v] at hsz
  have hC:pwC p.v u0.v two l out r=8:=pwC_8 hP hp0 (fun h=>by have h2:=(ins_in (by simp only [Plane.v];omega) (by simp only [Plane.v];omega)).2 h.2;exact z0 h2.2)
  have c3:=(q1.drops [0,0,0,0])
  have d3:Sat W _ ([]::H::F):=Sat.nilc c3
  exact ⟨(⟨0,0,0,⟨none,0,0,[]⟩⟩:Plane),8,_,rfl,⟨RdT.nil (enc:=Go.E.encI) (sz:=1) fR [[]]⟩,(by rw [pwT_eq,okT_c hC om];rfl),d3⟩
 refine kT<|seqE ?_
 obtain ⟨hpo,hqq⟩:=hP;have hsz:=(plane_sz hpo).1;unfold sizeP at hsz;simp only [Plane.v] at hsz;have hss:=Classical.not_not.1 v0;have hq9:two=true->planeOK u0.v=true/\p.w=u0.w/\p.h=u0.h:=fun h=>⟨hqq h,hss h⟩;have hri:rIn r p.w p.h:=(ins_in om om).1 ⟨w0,z0⟩;have hoc:opsCode l two=0:=by omega
 have hp0:pwCode l two p.v.max_ u0.v.max_ out=0:=by
  have e:pwCode l two p.v.max_ u0.v.max_ out=(ivRes l p.max_ sv).2.2:=by unfold pwCode;rw [if_pos om,if_pos om,hsv];rfl
  rw [e];omega
 have hri0:=hri;unfold rIn at hri0
 obtain ⟨Wn,hW⟩:∃k:Nat,r.x1-r.x0=(k:Int):=⟨_,(Int.toNat_of_nonneg om).symm⟩;obtain ⟨Hn,hH⟩:∃k:Nat,r.y1-r.y0=(k:Int):=⟨_,(Int.toNat_of_nonneg om).symm⟩
 have hWb:1<=Wn/\Wn<=128/\1<=Hn/\Hn<=128:=om;have hWH:Hn*Wn<=4096:=by have h1:=rIn_area hri (by first|omega|assumption);rw [hW,hH] at h1;have h2:((Hn*Wn:Nat):Int)=(Wn:Int)*(Hn:Int):=(by push_cast;rw [Int.mul_comm]);omega
 have hWi:(r.x1-r.x0)*(r.y1-r.y0)=((Hn*Wn:Nat):Int):=by rw [hW,hH];push_cast;rw [Int.mul_comm]
 have hpl:p.v.pix.length=p.pix.n:=hn_p_pix
 refine rE<|pu1 ?_
 refine sL j0 1 2 (I r.x1) (isAgg3 _) ?_
 refine pu1 ?_
 refine sL j0 1 0 (I r.x0) (isAgg3 _) ?_
 refine sSub r.x1 r.x0 ?_
 refine pu1 ?_
 refine sL j0 1 3 (I r.y1) (isAgg3 _) ?_
 refine pu1 ?_
 refine sL j0 1 1 (I r.y0) (isAgg3 _) ?_
 refine sSub r.y1 r.y0 ?_
 refine pu2 ?_
 refine sAlloc j0 zeroValue28 ?_
 intro f0 _ e3
 refine sTl e3 0 [I (r.x1-r.x0),I (r.y1-r.y0),I out,nS] sizeOf28 ?_
 intro _ a1
 refine zS<|pu1 ?_
 refine sL a1 0 0 (I (r.x1-r.x0)) (isAgg3 _) ?_
 refine pu1 ?_
 refine sL a1 0 1 (I (r.y1-r.y0)) (isAgg3 _) ?_
 refine sMul (r.x1-r.x0) (r.y1-r.y0) ?_
 refine sMake0 (kl:= .i64) (kc:= .i64) (enc:=Go.E.encI) (sz:=1) (nb:=8) a1 (((r.x1-r.x0)*(r.y1-r.y0))).toNat ((r.x1-r.x0)*(r.y1-r.y0)) (om:((r.x1-r.x0)*(r.y1-r.y0))=(((((r.x1-r.x0)*(r.y1-r.y0))).toNat:Nat):Int)) underlying22 (i:=Try.t3) kr fR ?_
 intro r1 f3 _ g3 h3
 refine pu1 ?_
 refine tW h3 1 3 (.slice (At r1 0) 0 ((((r.x1-r.x0)*(r.y1-r.y0))).toNat)) sizeOf22 ?_
 intro _ s1
 refine nT<|seqE<|seqE ?_
 obtain ⟨f,hf⟩:∃f:Int->Int->Int,f=fun i j=>pwX p.v u0.v two l out (r.x0+i) (r.y0+j):=⟨_,rfl⟩
 refine rE<|pu1 ?_
 refine sL s1 3 1 (I r.y0) (isAgg3 _) ?_
 refine pu1<|nT<|blockE ?_
 refine loopA (γ:=Nat×Int×(List Int)×(Option Addr)×Nat×Nat×Chunk) (fun ⟨i,yy,zs,azs,nzs,kzs,czs⟩=>[(2, .bool two),(3, .slice al nl kl),(4,I out),(6,Pt a0 0),(7,Pt b0 0),(11,Pt c0 0),(12,Pt d0 0),(19,Pt f0 0),(20,I yy)]) (fun ⟨i,yy,zs,azs,nzs,kzs,czs⟩ w=>Sat W w (czs::[(f0, .cells #[I (r.x1-r.x0),I (r.y1-r.y0),I out, .slice azs nzs kzs] 28 (0,0))]::[(d0, .cells #[I 0,I 0,I 0,nS] 28 (0,0))]::[(c0, .cells (encRct r).toArray 24 (0,0))]::[(b0, .cells (encPlane u0).toArray 28 (0,0))]::[(a0, .cells (encPlane p).toArray 28 (0,0))]::H::F)/\i<=Hn/\(yy=r.y0+(i:Int))/\(zs=gridN Wn f (i*Wn))/\OwnT Go.E.encI 3 1 azs nzs kzs zs czs) (fun ⟨i,yy,zs,azs,nzs,kzs,czs⟩=>Hn-i) (0,r.y0,[],(At r1 0),0,(((r.x1-r.x0)*(r.y1-r.y0))).toNat,f3) ⟨s1,om,om,(by rw [Nat.zero_mul];rfl),g3⟩ ?_
 rintro ⟨i,yy,zs,azs,nzs,kzs,czs⟩ ρ _ ⟨k0,hi,hyy,hE,hOzs⟩
 have hn_zs:=hOzs.len;have hl_zs:=hOzs.le
 refine seqE<|sR<|pu2 ?_
 refine sL k0 3 3 (I r.y1) (isAgg3 _) ?_
 refine pu1<|nT ?_
 refine cD (yy<r.y1) (fun i3=>?_) (fun i3=>?_)
 rotate_left
 ·refine exitE<|xB<|tN<|sR ?_
  refine lA k0 1 0 4 (isAgg28 _) (sizeOf28 _) ?_
  refine sTl k0 2 [I (r.x1-r.x0),I (r.y1-r.y0),I out, .slice azs nzs kzs] sizeOf28 ?_
  intro _ t1
  refine pu1<|zE<|retC t1 2 [I (r.x1-r.x0),I (r.y1-r.y0),I out, .slice azs nzs kzs] (I 0) (isAgg28 _) (sizeOf28 _) ?_
  have hz9:zs=gridN Wn f (Hn*Wn):=by rw [hE,show i=Hn by omega]
  have hC:pwC p.v u0.v two l out r=0:=pwC_0 ⟨hpo,hqq⟩ hp0 ⟨fun h=>(hq9 h).2,hri⟩
  exact ⟨(⟨(r.x1-r.x0),(r.y1-r.y0),out,⟨azs,nzs,kzs,zs⟩⟩:Plane),0,_,rfl,⟨(hOzs.rdAt (cs:=[czs]) 0 rfl)⟩,(by rw [pwT_eq,okT_0 hC,mk_pl hri hW hH (hf▸hz9)];rfl),(t1.drops [1,1,1,1,1])⟩
 refine kT<|seqE<|blockE<|seqE ?_
 have hix:=pl_ix hpo (x:=r.x1-1) (y:=yy) (by simp only [Plane.v];omega) (by simp only [Plane.v];omega);rw [hpl] at hix;simp only [Plane.v] at hix
 refine rE<|pu2 ?_
 refine sL k0 5 0 (I p.w) (isAgg3 _) ?_
 refine sMul yy p.w ?_
 refine pu1 ?_
 refine sL k0 3 0 (I r.x0) (isAgg3 _) ?_
 refine sAdd (yy*p.w) r.x0 ?_
 refine pu1<|nT<|blockE ?_
 refine loopA (γ:=Nat×Int×(List Int)×(Option Addr)×Nat×Nat×Chunk) (fun ⟨j,xx,zt,azt,nzt,kzt,czt⟩=>[(2, .bool two),(3, .slice al nl kl),(4,I out),(6,Pt a0 0),(7,Pt b0 0),(11,Pt c0 0),(12,Pt d0 0),(19,Pt f0 0),(20,I yy),(21,I xx)]) (fun ⟨j,xx,zt,azt,nzt,kzt,czt⟩ w=>Sat W w (czt::[(f0, .cells #[I (r.x1-r.x0),I (r.y1-r.y0),I out, .slice azt nzt kzt] 28 (0,0))]::[(d0, .cells #[I 0,I 0,I 0,nS] 28 (0,0))]::[(c0, .cells (encRct r).toArray 24 (0,0))]::[(b0, .cells (encPlane u0).toArray 28 (0,0))]::[(a0, .cells (encPlane p).toArray 28 (0,0))]::H::F)/\j<=Wn/\(xx=yy*p.w+r.x0+(j:Int))/\(zt=gridN Wn f (i*Wn+j))/\OwnT Go.E.encI 3 1 azt nzt kzt zt czt) (fun ⟨j,xx,zt,azt,nzt,kzt,czt⟩=>Wn-j) (0,((yy*p.w)+r.x0),zs,azs,nzs,kzs,czs) ⟨k0,om,om,(by rw [Nat.add_zero];exact hE),hOzs⟩ ?_
 rintro ⟨j,xx,zt,azt,nzt,kzt,czt⟩ ρ _ ⟨g0,hj,hxx,hE2,hOzt⟩
 have hn_zt:=hOzt.len;have hl_zt:=hOzt.le
 have hzl:zt.length=i*Wn+j:=by rw [hE2,grid_len]
 have hij:i*Wn+j<=Hn*Wn:=by have h1:=Nat.mul_le_mul_right Wn (show i+1<=Hn by omega);rw [Nat.add_mul,Nat.one_mul] at h1;omega
 refine seqE<|sR<|pu3 ?_
 refine sL g0 5 0 (I p.w) (isAgg3 _) ?_
 refine sMul yy p.w ?_
 refine pu1 ?_
 refine sL g0 3 2 (I r.x1) (isAgg3 _) ?_
 refine sAdd (yy*p.w) r.x1 ?_
 refine pu1<|nT ?_
 refine cD (xx<((yy*p.w)+r.x1)) (fun k3=>?_) (fun k3=>?_)
 rotate_left
 ·refine exitE<|xB<|bN<|tN<|rE<|pu1 ?_
  refine sAdd yy 1 ?_
  refine pu1<|nT ?_
  exact ⟨(i+1,(yy+1),zt,azt,nzt,kzt,czt),od,alA,g0,om,om,(by rw [Nat.add_mul,Nat.one_mul,hE2,show j=Wn by omega]),hOzt⟩
 refine kT<|seqE<|blockE<|sR<|pu1<|nT ?_
 refine cutA (γ:=Int) (fun bv=>[(2, .bool two),(3, .slice al nl kl),(4,I out),(6,Pt a0 0),(7,Pt b0 0),(11,Pt c0 0),(12,Pt d0 0),(19,Pt f0 0),(20,I yy),(21,I xx),(22,I bv)]) (fun bv w=>Sat W w (czt::[(f0, .cells #[I (r.x1-r.x0),I (r.y1-r.y0),I out, .slice azt nzt kzt] 28 (0,0))]::[(d0, .cells #[I 0,I 0,I 0,nS] 28 (0,0))]::[(c0, .cells (encRct r).toArray 24 (0,0))]::[(b0, .cells (encPlane u0).toArray 28 (0,0))]::[(a0, .cells (encPlane p).toArray 28 (0,0))]::H::F)/\bv=(if two=true then pixAt u0.v (r.x0+(j:Int)) (r.y0+(i:Int)) else 0)/\(0<=bv/\bv<=4294967296)) ?_ ?_
 ·refine sR<|pu1<|nT ?_
  refine cB two (fun p0=>?_) (fun p0=>?_)
  rotate_left
  ·refine kT ?_
   exact ⟨0,alA,g0,(by rw [if_neg p0]),om⟩
  obtain ⟨hqo,hqw⟩:=hq9 p0;have hqs:=(plane_sz hqo).1;unfold sizeP at hqs;simp only [Plane.v] at hqs;have hql:u0.v.pix.length=u0.pix.n:=hn_u0_pix;have hqz:=plane_sz hqo;have hpz:=plane_sz hpo;simp only [Plane.v] at hqz hpz;have hqp:u0.pix.n=p.pix.n:=by have h1:=hqz.2.1;have h2:=hpz.2.1;rw [show u0.w=p.w by omega,show u0.h=p.h by omega] at h1;omega
  refine rE<|pu1 ?_
  refine sL g0 4 3 (.slice u0.pix.a u0.pix.n u0.pix.k) (isAgg22 _) ?_
  refine pu1 ?_
  refine sIdx hu0.pix xx runUnderlying22 sizeOf3 ?_
  intro b1 _ _ l3 m3
  have hqa:pixAt u0.v (r.x0+(j:Int)) (r.y0+(i:Int))=b1:=by
   refine pixAt_eq ?_
   rw [<-l3];simp only [Plane.v];congr 1;rw [hxx,hyy,show u0.w=p.w by omega,Int.add_comm r.x0,<-Int.add_assoc];omega
  have hqb:=pixAt_bd hqo (r.x0+(j:Int)) (r.y0+(i:Int));rw [hqa] at hqb;simp only [Plane.v] at hqb
  refine sLp g0 (m3.up 6 rfl) 0 (I b1) (isAgg3 _) ?_
  refine pu1<|nT ?_
  exact ⟨b1,alA,g0,(by rw [if_pos p0,hqa]),om⟩
 rintro bv ρ _ ⟨c1,hbv,hbb⟩
 refine sR<|pu2 ?_
 refine sL c1 5 3 (.slice p.pix.a p.pix.n p.pix.k) (isAgg22 _) ?_
 refine pu1 ?_
 refine sIdx hp.pix xx runUnderlying22 sizeOf3 ?_
 intro h0 _ _ n3 o3
 have hpa:pixAt p.v (r.x0+(j:Int)) (r.y0+(i:Int))=h0:=by
  refine pixAt_eq ?_
  rw [<-n3];simp only [Plane.v];congr 1;rw [hxx,hyy,Int.add_comm r.x0,<-Int.add_assoc];omega
 have hpb:=pixAt_bd hpo (r.x0+(j:Int)) (r.y0+(i:Int));rw [hpa] at hpb;simp only [Plane.v] at hpb
 refine sLp c1 (o3.up 6 rfl) 0 (I h0) (isAgg3 _) ?_
 refine pu1 ?_
 refine cR call73 (p14_run al nl kl l h0 bv (RdT.flat (hl.up 6 (by rfl))) _ hoc om om c1.flat) ?_
 intro _ u1
 refine pu5<|nT ?_
 refine drawE [4,5,6,8] [(1,⟨f0,3,none⟩, .slice azt nzt kzt)] [(true,[0,2,3]),(true,[1]),(false,[4]),(false,[5]),(false,[6]),(true,[7]),(false,[8])] rfl kr ⟨cI u1 1,trivial⟩ ?_
 have p3:=u1.drew
 refine wU [0,2,3] ?_
 refine wLd (.slice azt nzt kzt) 0 isAgg22 ?_
 refine wO rfl ?_
 refine cR call63 (p7_clamp ((runV l h0 bv).1) out p3.flat) ?_
 intro _ v1
 refine nilO ⟨⟨cI v1 1,trivial⟩,?_⟩
 refine wO rfl ?_
 refine sBS v1 #[I (clampV ((runV l h0 bv).1) out)] runUnderlying22 sizeOf3 zeroValue3 ?_
 intro _ _ w1
 refine nilO ⟨⟨cI w1 2,trivial⟩,?_⟩
 refine wO rfl ?_
 refine sApp (nb:=8) w1 hOzt 1 (RdT.blk (enc:=Go.E.encI) (sz:=1) (xs:=[(clampV ((runV l h0 bv).1) out)]) fR 1 0 rfl rfl rfl om) underlying22 (i:=Try.t3) kr fR ?_
 intro z1 a2 q3 _ r3 s3
 refine nilO ⟨dA,?_⟩
 refine wU [7] ?_
 refine wO rfl ?_
 refine tW s3 2 3 (.slice z1 (nzt+1) a2) sizeOf22 ?_
 intro _ u3
 refine nilO ⟨dA,?_⟩
 refine wN ?_
 refine bN<|tN<|rE<|pu1 ?_
 refine sAdd xx 1 ?_
 refine pu1<|nT ?_
 exact ⟨(j+1,(xx+1),(zt++[(clampV ((runV l h0 bv).1) out)]),z1,(nzt+1),a2,q3),od,alA,(u3.dropAt 0 rfl),om,om,(by rw [<-Nat.add_assoc,grid_succ om,<-hE2,hf];dsimp only;unfold pwX;rw [hpa,<-hbv]),r3⟩
end Go.Proofs.Ytmlhcafjelkjfaa
