import Derived.WalkKit
import Derived.Deep.Quiet
import Derived.KernelRfl
import Derived.Laws.BytesString
import Derived.Laws.Shifts
import Derived.Laws.IdiomStrings
import Derived.OpenShut
import Derived.Test.YtghcddbhllkbmaaGreatProg
import Derived.Laws.IdiomRangeMap
import Derived.Test.YtghcddbhllkbmaaGreatR3P3CkP
import Derived.Test.YtghcddbhllkbmaaGreatR3P3Lb
namespace Go.Proofs.YtghcddbhllkbmaaGreat
open Go Go.E Go.Proofs.Tryz
set_option linter.all false
set_option maxRecDepth 100000
set_option maxHeartbeats 2000000
variable {W w:World} {H:Chunk} {F:List Chunk}
section
variable {P:Program} {n:Nat} {ρ:Env} {w:World} {ops:Array Oper} {rest:List Oper} {N:Env->World->Prop} {o:Oper}
theorem sQuoN (a b:Int) {t u:TypeId} {x y:Operand} (h:OpsE P n ops rest N (put ρ o.dst (.int .i64 (a.tdiv b))) w) (hb:¬b=0:=by omega) (hq:-9223372036854775808<=a.tdiv b/\a.tdiv b<=9223372036854775807:=by omega)
    (ho:o.op= .binOp .quo t x y u:=by rfl) (hg:o.guard=none:=by rfl) (hd:dstOK n o.dst=true:=by rfl) (hx:ev ρ x= .int .i64 a:=by kernel_rfl) (hy:ev ρ y= .int .i64 b:=by kernel_rfl):
    OpsE P n ops (o::rest) N ρ w:=stepY _ hg hd (Y_arith ho hx hy (by simp [binOp,Op.intDiv,hb,wrap_i64 hq])) h
end
theorem rn_push {a b z:Int} {o:POp} {l:List POp} {st:List Int} (hc:0<=o.code/\o.code<=2) (hz:appV o 0 0 a b=z) (hz2:accP z):rnGo a b (o::l) st=rnGo a b l (st++[z]):=by
  have t0:takesV o.code=0:=by unfold takesV;rw [if_pos (by omega)]
  have h1:stX o st=0:=by unfold stX;rw [if_neg (by omega)]
  have h2:stY o st=0:=by unfold stY;rw [if_neg (by omega)]
  rw [rnGo,h1,h2,if_pos ⟨fun h=>by omega,by rw [hz];exact hz2⟩,hz,t0]
  congr 1
  rw [show st.length-(0:Int).toNat=st.length from rfl,List.take_length]
theorem app_ab {o:POp} {x y a b c d:Int} (h:3<=o.code):appV o x y a b=appV o x y c d:=by
  have h0:¬o.code=0:=(by omega);have h1:¬o.code=1:=(by omega);have h2:¬o.code=2:=(by omega)
  simp only [appV,h0,h1,h2,if_false]
theorem app_y {o:POp} {x y z a b:Int} (h:10<=o.code):appV o x y a b=appV o x z a b:=by
  have h0:¬o.code=0:=(by omega);have h1:¬o.code=1:=(by omega);have h2:¬o.code=2:=(by omega);have h3:¬o.code=3:=(by omega);have h4:¬o.code=4:=(by omega);have h5:¬o.code=5:=(by omega);have h6:¬o.code=6:=(by omega);have h7:¬o.code=7:=(by omega);have h8:¬o.code=8:=(by omega);have h9:¬o.code=9:=(by omega)
  simp only [appV,h0,h1,h2,h3,h4,h5,h6,h7,h8,h9,if_false]
theorem rn_xy {o:POp} {st:List Int} {x y a b:Int} (hc:3<=o.code/\o.code<=11) (hx:st[st.length-(takesV o.code).toNat]?=some x) (hy:st[st.length-1]?=some y):
  stX o st=x/\appV o x (stY o st) a b=appV o x y 0 0/\(appOK o x (stY o st) a b↔appOK o x y 0 0):=by
 have h1:stX o st=x:=by unfold stX;rw [if_pos (by unfold takesV;split;omega;split<;>omega),List.getD_eq_getElem?_getD,hx];rfl
 by_cases h:10<=o.code
 · exact (by have h2:appV o x (stY o st) a b=appV o x y 0 0:=(app_ab om).trans (app_y h);exact ⟨h1,h2,by unfold appOK;rw [h2];exact and_congr_left (fun _=>⟨fun _ h5=>by omega,fun _ h5=>by omega⟩)⟩)
 · exact (by have e:stY o st=y:=(by unfold stY;rw [if_pos (by unfold takesV;rw [if_neg om,if_neg om]),List.getD_eq_getElem?_getD,hy];rfl);have h2:appV o x (stY o st) a b=appV o x y 0 0:=(by rw [e];exact app_ab om);exact ⟨h1,h2,by unfold appOK;rw [h2,e]⟩)
theorem rn_op {a b:Int} {o:POp} {l:List POp} {st m:List Int} {x y:Int} (hc:3<=o.code/\o.code<=11) (hx:st[st.length-(takesV o.code).toNat]?=some x) (hy:st[st.length-1]?=some y) (hok:appOK o x y 0 0) (hm:m=st.take (st.length-(takesV o.code).toNat)):
    rnGo a b (o::l) st=rnGo a b l (m++[appV o x y 0 0]):=by
  obtain ⟨h1,h2,h3⟩:=rn_xy (a:=a) (b:=b) hc hx hy
  subst hm
  rw [rnGo,h1,h2,if_pos (h3.2 hok)]
theorem rn_no {a b:Int} {o:POp} {l:List POp} {st:List Int} {x y:Int} (hc:3<=o.code/\o.code<=11) (hx:st[st.length-(takesV o.code).toNat]?=some x) (hy:st[st.length-1]?=some y) (hok:¬appOK o x y 0 0):rnGo a b (o::l) st=none:=by
  obtain ⟨h1,h2,h3⟩:=rn_xy (a:=a) (b:=b) hc hx hy
  rw [rnGo,h1,if_neg (fun k=>hok (h3.1 k))]
theorem app_acc {o:POp} {x y:Int} (h:appOK o x y 0 0):accP (appV o x y 0 0):=h.2
theorem fdiv_t {x y:Int} (hy:¬y=0):x.fdiv y=if ¬x.tmod y=0/\¬(x<0↔y<0) then x.tdiv y-1 else x.tdiv y:=by
 have h1:=Int.mul_tdiv_add_tmod x y
 have h2:=Int.mul_fdiv_add_fmod x y
 have hr:(x.tmod y).natAbs<y.natAbs:=by rw [Int.natAbs_tmod];exact Nat.mod_lt _ om
 have hs:(0<=x->0<=x.tmod y)/\(x<=0->x.tmod y<=0):=⟨fun h=>Int.tmod_nonneg y h,fun h=>by have:=Int.tmod_nonneg y (show 0<=-x by omega);rw [Int.neg_tmod] at this;omega⟩
 have a0:∀q r q2 r2:Int,y*q+r=y*q2+r2->(r-r2).natAbs<y.natAbs->q=q2:=by
  intro q r q2 r2 h h3
  by_cases he:q=q2
  ·exact he
  · exact (by exfalso;have h4:y*(q2-q)=r-r2:=(by rw [Int.mul_sub];omega);have h5:y.natAbs*(q2-q).natAbs=(r-r2).natAbs:=(by rw [<-h4,Int.natAbs_mul]);have h6:=Nat.mul_le_mul_left y.natAbs (show 1<=(q2-q).natAbs by omega);omega)
 rcases Int.lt_or_lt_of_ne hy with h0|h0
 ·have f1:y<x.fmod y/\x.fmod y<=0:=(by have h4:=Int.fmod_nonneg_of_pos (-x) (show 0< -y by omega);have h5:=Int.fmod_lt_of_pos (-x) (show 0< -y by omega);rw [Int.neg_fmod_neg] at h4 h5;omega)
  split
  · exact (by rename_i h;refine (a0 (x.tdiv y-1) (x.tmod y+y) (x.fdiv y) (x.fmod y) (by rw [Int.mul_sub,Int.mul_one];omega) om).symm)
  · exact (by rename_i h;refine (a0 (x.tdiv y) (x.tmod y) (x.fdiv y) (x.fmod y) om om).symm)
 ·have f1:0<=x.fmod y/\x.fmod y<y:=⟨Int.fmod_nonneg_of_pos _ h0,Int.fmod_lt_of_pos _ h0⟩
  split
  · exact (by rename_i h;refine (a0 (x.tdiv y-1) (x.tmod y+y) (x.fdiv y) (x.fmod y) (by rw [Int.mul_sub,Int.mul_one];omega) om).symm)
  · exact (by rename_i h;refine (a0 (x.tdiv y) (x.tmod y) (x.fdiv y) (x.fmod y) om om).symm)
def pwC (p q:PlaneV) (two:Bool) (l:List POp) (out:Int) (r:Rct):Int:=if planeOK p=true/\(two=true->planeOK q=true) then (if pwCode l two p.max_ q.max_ out=0 then (if (two=true->p.w=q.w/\p.h=q.h)/\rIn r p.w p.h then 0 else 8) else pwCode l two p.max_ q.max_ out) else 1
theorem pwT_eq {p q:PlaneV} {two:Bool} {l:List POp} {out:Int} {r:Rct}:pwT p q two l out r=okT (pwC p q two l out r) (mkPl r out (pwX p q two l out)):=rfl
section
variable {p q:PlaneV} {two:Bool} {l:List POp} {out:Int} {r:Rct}
theorem pwC_1 (h:¬(planeOK p=true/\(two=true->planeOK q=true))):pwC p q two l out r=1:=if_neg h
theorem pwC_c {c:Int} (h:planeOK p=true/\(two=true->planeOK q=true)) (hc:pwCode l two p.max_ q.max_ out=c) (hn:¬c=0):pwC p q two l out r=c:=by unfold pwC;rw [if_pos h,if_neg (by omega),hc]
theorem pwC_8 (h:planeOK p=true/\(two=true->planeOK q=true)) (hc:pwCode l two p.max_ q.max_ out=0) (hr:¬((two=true->p.w=q.w/\p.h=q.h)/\rIn r p.w p.h)):pwC p q two l out r=8:=by unfold pwC;rw [if_pos h,if_pos hc,if_neg hr]
theorem pwC_0 (h:planeOK p=true/\(two=true->planeOK q=true)) (hc:pwCode l two p.max_ q.max_ out=0) (hr:(two=true->p.w=q.w/\p.h=q.h)/\rIn r p.w p.h):pwC p q two l out r=0:=by unfold pwC;rw [if_pos h,if_pos hc,if_pos hr]
end
theorem p14_quotient (x:Int) (y:Int) (hx:-17592186044416<=x/\x<=17592186044416) (hy:-17592186044416<=y/\y<=17592186044416) (hS:Sat W w (H::F)):
  Ro prog 194 #[I x,I y] (I (floorV x y)) W w (H::F):=by
 refine callsK 25 func194 rfl<|jCC 12 rfl<|cE y 0 (fun b0=>jCR 7 rfl<|retT [I 0]<|⟨congrArg (fun z=>Ending.returned (I z)) (by unfold floorV;rw [if_pos om]),hS⟩) fun b0=>jCC 3 rfl ?_
 have e0:-17592186044416<=x.tdiv y/\x.tdiv y<=17592186044416:=by have h:=Int.natAbs_tdiv_le_natAbs x y;omega
 refine jCO 3 rfl<|sQuoN x y<|jOO 8 rfl<|sRem x y<|pu2<|sN 15 (x.tmod y) 0 (fun c0=>jOR 18 rfl<|retT [I (x.tdiv y)]<|⟨congrArg (fun z=>Ending.returned (I z)) (by unfold floorV;rw [if_neg om,fdiv_t om,if_neg om]),hS⟩) fun c0=>jOC 8 rfl ?_
 rcases bool_em (decide (x<0)) (decide (y<0)) with a0|a0
 ·exact cF _ (congrArg Bool.not (show ((decide (x<0))==(decide (y<0)))=true from by simpa using a0))<|jCR 9 rfl<|retT [I (x.tdiv y)]<|(by have d0:=a0;rw [decide_eq_decide] at d0;exact ⟨congrArg (fun z=>Ending.returned (I z)) (by unfold floorV;rw [if_neg om,fdiv_t om,if_neg om]),hS⟩)
 exact cT _ (congrArg Bool.not (show ((decide (x<0))==(decide (y<0)))=false from by simpa using a0))<|jCO 2 rfl<|sSub (x.tdiv y) 1<|jOR 10 rfl<|retT [I ((x.tdiv y)-1)]<|(by have d0:=a0;rw [decide_eq_decide] at d0;exact ⟨congrArg (fun z=>Ending.returned (I z)) (by unfold floorV;rw [if_neg om,fdiv_t om,if_pos ⟨om,om⟩]),hS⟩)
theorem p14_value (o:POp) (x:Int) (y:Int) (hx:-17592186044416<=x/\x<=17592186044416) (hy:-17592186044416<=y/\y<=17592186044416) (hc:3<=o.code/\o.code<=11) (ho:argP o) (hS:Sat W w (H::F)):
  Ro prog 171 #[.agg #[I o.code,I o.arg],I x,I y] (.tuple #[I (appV o x y 0 0), .bool (decide (appOK o x y 0 0))]) W w (H::F):=by
 refine callsK 67 func171 rfl<|jCO 2 rfl<|sBx hS [I o.code,I o.arg] fun _ _ a0=>gOC a0 24 [0] rfl<|cE o.code 3 (fun c0=>jCO 3 rfl<|sAdd x y<|jOO 10 rfl<|gY<|cS (p14_within (x+y) a0.flat) fun _ d0=>jOR 6 rfl<|retT [I (x+y), .bool (decide ((-17592186044416:Int)<=(x+y)/\(x+y)<=17592186044416))]<|(by have e0:=(d0.dropAt 0 rfl);have hv:appV o x y 0 0=(x+y):=(by unfold appV;rw [if_neg om,if_neg om,if_neg om,if_pos om]);have A0:decide (appOK o x y 0 0)=decide ((-17592186044416:Int)<=(x+y)/\(x+y)<=17592186044416):=(by rw [Bool.eq_iff_iff,decide_eq_true_eq];unfold appOK accP;rw [hv];simp only [decide_eq_true_eq];exact ⟨fun h=>h.2,fun h=>⟨fun h5=>by omega,h⟩⟩);exact ⟨by rw [A0,hv];rfl,e0⟩)) fun c0=>jCC 6 rfl<|cE o.code 4 (fun f0=>jCO 3 rfl<|sSub x y<|jOO 10 rfl<|gY<|cS (p14_within (x-y) a0.flat) fun _ g0=>jOR 6 rfl<|retT [I (x-y), .bool (decide ((-17592186044416:Int)<=(x-y)/\(x-y)<=17592186044416))]<|(by have h0:=(g0.dropAt 0 rfl);have hv:appV o x y 0 0=(x-y):=(by unfold appV;rw [if_neg om,if_neg om,if_neg om,if_neg om,if_pos om]);have A0:decide (appOK o x y 0 0)=decide ((-17592186044416:Int)<=(x-y)/\(x-y)<=17592186044416):=(by rw [Bool.eq_iff_iff,decide_eq_true_eq];unfold appOK accP;rw [hv];simp only [decide_eq_true_eq];exact ⟨fun h=>h.2,fun h=>⟨fun h5=>by omega,h⟩⟩);exact ⟨by rw [A0,hv];rfl,h0⟩)) fun f0=>?_
 refine jCC 6 rfl<|cE o.code 5 (fun i0=>jCO 3 rfl<|cS (p14_product x y (od) (od) a0.flat) fun _ b0=>jOO 13 rfl<|SB 63 (timesOK x y) (fun j0=>jOR 8 rfl<|retT [I (timesV x y), .bool false]<|(by have k0:=(b0.dropAt 0 rfl);have hv:appV o x y 0 0=(timesV x y):=(by unfold appV;rw [if_neg om,if_neg om,if_neg om,if_neg om,if_neg om,if_pos om]);have A0:decide (appOK o x y 0 0)=false:=decide_eq_false (fun h=>by have h1:=h.1 om;simp_all);exact ⟨by rw [A0,hv];rfl,k0⟩)) fun j0=>pu1<|gY<|cS (p14_within (timesV x y) b0.flat) fun _ l0=>jOR 6 rfl<|retT [I (timesV x y), .bool (decide ((-17592186044416:Int)<=(timesV x y)/\(timesV x y)<=17592186044416))]<|(by have m0:=(l0.dropAt 0 rfl);have hv:appV o x y 0 0=(timesV x y):=(by unfold appV;rw [if_neg om,if_neg om,if_neg om,if_neg om,if_neg om,if_pos om]);have A0:decide (appOK o x y 0 0)=decide ((-17592186044416:Int)<=(timesV x y)/\(timesV x y)<=17592186044416):=(by rw [Bool.eq_iff_iff,decide_eq_true_eq];unfold appOK accP;rw [hv];simp only [decide_eq_true_eq];exact ⟨fun h=>h.2,fun h=>⟨fun _=>by simp_all,h⟩⟩);exact ⟨by rw [A0,hv];rfl,m0⟩)) fun i0=>?_
 refine jCC 6 rfl<|cE o.code 6 (fun n0=>jCO 3 rfl<|stepY (I (min x y)) rfl rfl (Y_min2 x y rfl rfl kr kr)<|jOO 10 rfl<|gY<|cS (p14_within (min x y) a0.flat) fun _ o0=>jOR 6 rfl<|retT [I (min x y), .bool (decide ((-17592186044416:Int)<=(min x y)/\(min x y)<=17592186044416))]<|(by have p0:=(o0.dropAt 0 rfl);have hv:appV o x y 0 0=(min x y):=(by unfold appV;rw [if_neg om,if_neg om,if_neg om,if_neg om,if_neg om,if_neg om,if_pos om]);have A0:decide (appOK o x y 0 0)=decide ((-17592186044416:Int)<=(min x y)/\(min x y)<=17592186044416):=(by rw [Bool.eq_iff_iff,decide_eq_true_eq];unfold appOK accP;rw [hv];simp only [decide_eq_true_eq];exact ⟨fun h=>h.2,fun h=>⟨fun h5=>by omega,h⟩⟩);exact ⟨by rw [A0,hv];rfl,p0⟩)) fun n0=>jCC 6 rfl<|cE o.code 7 (fun q0=>jCO 3 rfl<|stepY (I (max x y)) rfl rfl (Y_max2 x y rfl rfl kr kr)<|jOO 10 rfl<|gY<|cS (p14_within (max x y) a0.flat) fun _ r0=>jOR 6 rfl<|retT [I (max x y), .bool (decide ((-17592186044416:Int)<=(max x y)/\(max x y)<=17592186044416))]<|(by have s0:=(r0.dropAt 0 rfl);have hv:appV o x y 0 0=(max x y):=(by unfold appV;rw [if_neg om,if_neg om,if_neg om,if_neg om,if_neg om,if_neg om,if_neg om,if_pos om]);have A0:decide (appOK o x y 0 0)=decide ((-17592186044416:Int)<=(max x y)/\(max x y)<=17592186044416):=(by rw [Bool.eq_iff_iff,decide_eq_true_eq];unfold appOK accP;rw [hv];simp only [decide_eq_true_eq];exact ⟨fun h=>h.2,fun h=>⟨fun h5=>by omega,h⟩⟩);exact ⟨by rw [A0,hv];rfl,s0⟩)) fun q0=>?_
 refine jCC 6 rfl<|cE o.code 8 (fun t0=>jCO 3 rfl<|sSub x y<|cS (p14_abs (x-y) (od) a0.flat) fun _ u0=>jOO 10 rfl<|gY<|cS (p14_within (((x-y).natAbs:Nat):Int) u0.flat) fun _ v0=>jOR 6 rfl<|retT [I (((x-y).natAbs:Nat):Int), .bool (decide ((-17592186044416:Int)<=(((x-y).natAbs:Nat):Int)/\(((x-y).natAbs:Nat):Int)<=17592186044416))]<|(by have w0:=(v0.dropAt 0 rfl);have hv:appV o x y 0 0=(((x-y).natAbs:Nat):Int):=(by unfold appV;rw [if_neg om,if_neg om,if_neg om,if_neg om,if_neg om,if_neg om,if_neg om,if_neg om,if_pos om]);have A0:decide (appOK o x y 0 0)=decide ((-17592186044416:Int)<=(((x-y).natAbs:Nat):Int)/\(((x-y).natAbs:Nat):Int)<=17592186044416):=(by rw [Bool.eq_iff_iff,decide_eq_true_eq];unfold appOK accP;rw [hv];simp only [decide_eq_true_eq];exact ⟨fun h=>h.2,fun h=>⟨fun h5=>by omega,h⟩⟩);exact ⟨by rw [A0,hv];rfl,w0⟩)) fun t0=>?_
 refine jCC 6 rfl<|cE o.code 9 (fun x0=>jCO 3 rfl<|cS (p14_quotient x y (od) (od) a0.flat) fun _ y0=>jOO 10 rfl<|gY<|cS (p14_within (floorV x y) y0.flat) fun _ z0=>jOR 6 rfl<|retT [I (floorV x y), .bool (decide ((-17592186044416:Int)<=(floorV x y)/\(floorV x y)<=17592186044416))]<|(by have a1:=(z0.dropAt 0 rfl);have hv:appV o x y 0 0=(floorV x y):=(by unfold appV;rw [if_neg om,if_neg om,if_neg om,if_neg om,if_neg om,if_neg om,if_neg om,if_neg om,if_neg om,if_pos om]);have A0:decide (appOK o x y 0 0)=decide ((-17592186044416:Int)<=(floorV x y)/\(floorV x y)<=17592186044416):=(by rw [Bool.eq_iff_iff,decide_eq_true_eq];unfold appOK accP;rw [hv];simp only [decide_eq_true_eq];exact ⟨fun h=>h.2,fun h=>⟨fun h5=>by omega,h⟩⟩);exact ⟨by rw [A0,hv];rfl,a1⟩)) fun x0=>jCC 6 rfl<|cE o.code 10 (fun b1=>gCO a0 4 [0] rfl<|cS (p7_shift x o.arg a0.flat) fun _ c1=>jOO 10 rfl<|gY<|cS (p14_within (shiftV x o.arg) c1.flat) fun _ d1=>jOR 6 rfl<|retT [I (shiftV x o.arg), .bool (decide ((-17592186044416:Int)<=(shiftV x o.arg)/\(shiftV x o.arg)<=17592186044416))]<|(by have e1:=(d1.dropAt 0 rfl);have hv:appV o x y 0 0=(shiftV x o.arg):=(by unfold appV;rw [if_neg om,if_neg om,if_neg om,if_neg om,if_neg om,if_neg om,if_neg om,if_neg om,if_neg om,if_neg om,if_pos om]);have A0:decide (appOK o x y 0 0)=decide ((-17592186044416:Int)<=(shiftV x o.arg)/\(shiftV x o.arg)<=17592186044416):=(by rw [Bool.eq_iff_iff,decide_eq_true_eq];unfold appOK accP;rw [hv];simp only [decide_eq_true_eq];exact ⟨fun h=>h.2,fun h=>⟨fun h5=>by omega,h⟩⟩);exact ⟨by rw [A0,hv];rfl,e1⟩)) fun b1=>jCC 6 rfl ?_
 have f1:(o.code:Int)=11:=om
 refine cT _ (beq_iff_eq.2 f1)<|jCO 2 rfl<|cS (p14_abs x (od) a0.flat) fun _ g1=>jOO 10 rfl<|gY<|cS (p14_within (x.natAbs:Int) g1.flat) fun _ i1=>jOR 6 rfl<|retT [I (x.natAbs:Int), .bool (decide ((-17592186044416:Int)<=(x.natAbs:Int)/\(x.natAbs:Int)<=17592186044416))] ?_
 have j1:=(i1.dropAt 0 rfl)
 have hv:appV o x y 0 0=(x.natAbs:Int):=(by unfold appV;rw [if_neg om,if_neg om,if_neg om,if_neg om,if_neg om,if_neg om,if_neg om,if_neg om,if_neg om,if_neg om,if_neg om])
 have A0:decide (appOK o x y 0 0)=decide ((-17592186044416:Int)<=(x.natAbs:Int)/\(x.natAbs:Int)<=17592186044416):=by rw [Bool.eq_iff_iff,decide_eq_true_eq];unfold appOK accP;rw [hv];simp only [decide_eq_true_eq];exact ⟨fun h=>h.2,fun h=>⟨fun h5=>by omega,h⟩⟩
 exact ⟨by rw [A0,hv];rfl,j1⟩
theorem p14_run (al:Option Addr) (nl kl:Nat) (l:List POp) (a:Int) (b:Int) (hl:RdT encPOp 2 [H] al nl kl l) (two:Bool) (hlc:opsCode l two=0) (ha:0<=a/\a<=4294967296) (hb:0<=b/\b<=4294967296) (hS:Sat W w (H::F)):
  Ro prog 138 #[.slice al nl kl,I a,I b] (.tuple #[I ((runV l a b).1),I ((runV l a b).2)]) W w (H::F):=by
 have O0:=hl.ll
 obtain ⟨V0,W0,S0⟩:=opsCode_go hlc
 refine callsK 81 func138 rfl<|jCO 8 rfl<|sMake0 (kl:= .i64) (kc:= .i64) (enc:=Go.E.encI) (sz:=1) (nb:=8) hS 32 32 (rfl:(32:Int)=((32:Nat):Int)) underlying22 (i:=Tryz.t3) kr fR fun l0 m0 _ n0 o0=>jOC 12 rfl<|loopF [1,2,17,18] (γ:=Nat×(List Int)×SO) (fun ⟨i,zs,E0,A0,H0,I0⟩ R=>⟨[(19,I (i:Int)),(8, .slice E0 A0 H0)],I0::R,nl-i,i<=nl/\(rnGo a b l []=rnGo a b (l.drop i) zs)/\(opsGo two (l.drop i) (zs.length:Int)=0)/\(∀z∈zs,-17592186044416<=z/\z<=17592186044416)/\(zs.length<=i)/\OwnT Go.E.encI 3 1 E0 A0 H0 zs I0⟩) (0,[],(At l0 0),0,32,m0) ⟨o0,om,by rfl,(opsCode_go hlc).1,(by intro z hz;cases hz),by simp,n0⟩ ?_
 rintro ⟨i,zs,E0,A0,H0,I0⟩ ρ _ ⟨f0,hi,hG,hH,D0,Y0,B0⟩
 have M0:=B0.ll
 refine jCC 6 rfl<|CD ((i:Int)<(nl:Int)) (fun p0=>jCC 6 rfl<|(by have hh:opsGo two (l.drop i) zs.length=0:=hH;rw [List.drop_of_length_le om] at hh;have X0:zs.length=1:=(by unfold opsGo at hh;split at hh<;>omega);refine jCO 2 rfl<|sIO B0 0 0 fun g0 _ _ q0 r0 _=>sMp f0 (r0.up 0 rfl) 0 (I g0)<|jOR 5 rfl<|retT [I g0,I 0] ?_;have s0:=(f0.dropAt 0 rfl);have K0:rnGo a b l []=some zs:=(by rw [hG,List.drop_of_length_le om];rfl);have T0:zs[0]?=some g0:=q0;exact ⟨by rw [show runV l a b=(g0,0) from by unfold runV;rw [K0];dsimp only;rw [List.getD_eq_getElem?_getD,T0];rfl];rfl,s0⟩)) fun p0=>?_
 refine jCO 6 rfl<|sIN hl i fun a0 _ _ b0 t0=>?_
 obtain ⟨P0,C0,F0⟩:=opsGo_zero (by rw [<-drop_at b0];exact hH)
 have U0:=ptakes_bd a0.code;have G0:=takesV_bd a0.code;have Q0:(0<=a0.code/\a0.code<=11)/\takesV a0.code<=zs.length:=(by unfold opBad at P0;omega);have L0:3<=a0.code->1<=takesV a0.code:=(by intro h;unfold takesV;rw [if_neg om];split<;>omega)
 refine sMA f0 (t0.up 1 rfl) 0 [I a0.code,I a0.arg]<|sAlloc f0 zeroValue75 fun _ _ u0=>sTk u0 0 rfl [I a0.code,I a0.arg] fun _ c0=>gOC c0 16 [0] rfl<|cE a0.code 0 (fun v0=>?_) (fun v0=>?_)
 ·refine jCO 4 rfl<|sBK c0 #[I a] 3 fun _ _ w0=>sApp (nb:=8) w0 B0 2 (RdT.blk (enc:=Go.E.encI) (sz:=1) (xs:=[a]) fR 1 0 rfl rfl rfl om) underlying22 (i:=Tryz.t3) kr fR fun x0 y0 z0 _ a1 b1=>jOO 9 rfl<|sAdd (i:Int) 1<|jOI 2 rfl ?_
  exact ⟨(i+1,(zs++[a]),x0,(A0+1),y0,z0),od,alB,(b1.drops [0,0]),om,by rw [hG,drop_at b0];exact rn_push om (by unfold appV;rw [if_pos om]) (by unfold accP;unfold argP at C0;omega),by rw [List.length_append];simp only [List.length_cons,List.length_nil];rw [show (((zs.length+(0+1):Nat)):Int)=(zs.length:Int)+(1-takesV a0.code) from by rw [show takesV a0.code=0 from by unfold takesV;rw [if_pos om]];omega];exact F0,(by
    intro z hz
    rcases List.mem_append.1 hz with h|h
    ·exact D0 z h
    ·simp only [List.mem_singleton] at h;subst h;unfold argP at C0;omega),by simp;omega,a1⟩
 refine jCC 6 rfl<|cE a0.code 1 (fun d1=>?_) (fun d1=>?_)
 ·refine jCO 4 rfl<|sBK c0 #[I b] 3 fun _ _ e1=>sApp (nb:=8) e1 B0 2 (RdT.blk (enc:=Go.E.encI) (sz:=1) (xs:=[b]) fR 1 0 rfl rfl rfl om) underlying22 (i:=Tryz.t3) kr fR fun f1 g1 h1 _ i1 j1=>jOO 9 rfl<|sAdd (i:Int) 1<|jOI 2 rfl ?_
  exact ⟨(i+1,(zs++[b]),f1,(A0+1),g1,h1),od,alB,(j1.drops [0,0]),om,by rw [hG,drop_at b0];exact rn_push om (by unfold appV;rw [if_neg om,if_pos om]) (by unfold accP;unfold argP at C0;omega),by rw [List.length_append];simp only [List.length_cons,List.length_nil];rw [show (((zs.length+(0+1):Nat)):Int)=(zs.length:Int)+(1-takesV a0.code) from by rw [show takesV a0.code=0 from by unfold takesV;rw [if_pos om]];omega];exact F0,(by
    intro z hz
    rcases List.mem_append.1 hz with h|h
    ·exact D0 z h
    ·simp only [List.mem_singleton] at h;subst h;unfold argP at C0;omega),by simp;omega,i1⟩
 refine jCC 6 rfl<|cE a0.code 2 (fun l1=>?_) (fun l1=>?_)
 ·refine gCO c0 5 [0] rfl<|sBK c0 #[I a0.arg] 3 fun _ _ m1=>sApp (nb:=8) m1 B0 2 (RdT.blk (enc:=Go.E.encI) (sz:=1) (xs:=[a0.arg]) fR 1 0 rfl rfl rfl om) underlying22 (i:=Tryz.t3) kr fR fun n1 o1 q1 _ r1 s1=>jOO 9 rfl<|sAdd (i:Int) 1<|jOI 2 rfl ?_
  exact ⟨(i+1,(zs++[a0.arg]),n1,(A0+1),o1,q1),od,alB,(s1.drops [0,0]),om,by rw [hG,drop_at b0];exact rn_push om (by unfold appV;rw [if_neg om,if_neg om,if_pos om]) (by unfold accP;unfold argP at C0;omega),by rw [List.length_append];simp only [List.length_cons,List.length_nil];rw [show (((zs.length+(0+1):Nat)):Int)=(zs.length:Int)+(1-takesV a0.code) from by rw [show takesV a0.code=0 from by unfold takesV;rw [if_pos om]];omega];exact F0,(by
    intro z hz
    rcases List.mem_append.1 hz with h|h
    ·exact D0 z h
    ·simp only [List.mem_singleton] at h;subst h;unfold argP at C0;omega),by simp;omega,r1⟩
 refine jCC 4 rfl ?_
 have N0:3<=a0.code:=om;have R0:=L0 N0
 refine gCO c0 3 [0] rfl<|cS (p14_takes a0.code c0.flat) fun _ u1=>?_
 have e3:(0<=(ptakesV a0.code)/\(ptakesV a0.code)<=2)/\(¬(0<=a0.code/\a0.code<=11)\/(ptakesV a0.code)=takesV a0.code):=ptakes_bd _
 refine jOO 12 rfl<|sSub (A0:Int) (ptakesV a0.code)<|jOC 4 rfl ?_
 obtain ⟨d0,f3,g3,i0,v1,w1,h3⟩:=OwnT.elem B0 ((A0:Int)-(ptakesV a0.code))
 obtain ⟨e0,i3,j3,j0,x1,y1,k3⟩:=OwnT.elem B0 ((A0:Int)-1)
 refine drawF u1 [11] (fb 0 0 0 2<|fq 4 0 (v1.up 1 rfl)<|fq 10 0 (x1.up 1 rfl)<|fn) [1,2,3,5,6,7,8,9,0,4,10,11,12,13,14,15,16] fun _ z1=>wV 2<|wI w1<|wV 3<|wSub (A0:Int) 1<|wI y1<|wG 0 2<|wL 2<|wL 3<|wO rfl<|cS (p14_value a0 d0 e0 (D0 _ (List.mem_of_getElem? i0)) (D0 _ (List.mem_of_getElem? j0)) om C0 z1.flat) fun _ k0=>nA<|wV 1<|wV 1<|wV 1<|wV 2<|wN<|jXC 8 rfl<|CDn (appOK a0 d0 e0 0 0) (fun h0=>jCR 13 rfl<|retT [I 0,I 11]<|(by have a2:=(k0.drops [0,0]);have J0:rnGo a b l []=none:=(by rw [hG,drop_at b0];exact rn_no om (by have e:=i0;rw [show zs.length-(takesV a0.code).toNat=((A0:Int)-(ptakesV a0.code)).toNat by omega];exact e) (by have e:=j0;rw [show zs.length-1=((A0:Int)-1).toNat by omega];exact e) h0);exact ⟨by rw [show runV l a b=(0,11) from by unfold runV;rw [J0]];rfl,a2⟩)) fun h0=>jCO 5 rfl<|sSl none (some ((A0:Int)-(ptakesV a0.code))) 0 ((((A0:Int)-(ptakesV a0.code))).toNat) runUnderlying22 sizeOf3 rfl ⟨om,om⟩ om om ?_ (a:=E0) (len:=A0) (cap:=H0)
 refine pu1<|sBK k0 #[I (appV a0 d0 e0 0 0)] 3 fun _ _ c2=>sApp (nb:=8) c2 (B0.part (lo:=0) (hi:=(((A0:Int)-(ptakesV a0.code))).toNat) om om) 2 (RdT.blk (enc:=Go.E.encI) (sz:=1) (xs:=[(appV a0 d0 e0 0 0)]) fR 1 0 rfl rfl rfl om) underlying22 (i:=Tryz.t3) kr fR fun d2 e2 f2 _ g2 h2=>jOO 5 rfl<|sAdd (i:Int) 1<|jOI 2 rfl ?_
 exact ⟨(i+1,(((zs.drop 0).take ((((A0:Int)-(ptakesV a0.code))).toNat-0))++[(appV a0 d0 e0 0 0)]),d2,(((((A0:Int)-(ptakesV a0.code))).toNat-0)+1),e2,f2),od,alB,(h2.drops [0,0]),om,by rw [hG,drop_at b0,rn_op (m:=((zs.drop 0).take ((((A0:Int)-(ptakesV a0.code))).toNat-0))) om (by have e:=i0;rw [show zs.length-(takesV a0.code).toNat=((A0:Int)-(ptakesV a0.code)).toNat by omega];exact e) (by have e:=j0;rw [show zs.length-1=((A0:Int)-1).toNat by omega];exact e) h0 (by rw [List.drop_zero];congr 1;omega)],by simp only [List.length_append,List.length_take,List.length_drop,List.length_cons,List.length_nil];rw [show (((min _ _+(0+1):Nat)):Int)=(zs.length:Int)+(1-takesV a0.code) from by omega];exact F0,(by
   intro z hz
   rcases List.mem_append.1 hz with h|h
   ·exact D0 z (List.mem_of_mem_drop (List.mem_of_mem_take h))
   ·simp only [List.mem_singleton] at h;subst h;exact app_acc h0),by simp;omega,g2⟩
theorem p14_tile (p:Plane) (u0:Plane) (two:Bool) (al:Option Addr) (nl kl:Nat) (l:List POp) (out:Int) (r:Rct) (hp:Plane.Ok [H] p) (hu0:Plane.Ok [H] u0) (hl:RdT encPOp 2 [H] al nl kl l) (hS:Sat W w (H::F)):
  Calls prog 93 #[.agg (encPlane p).toArray, .agg (encPlane u0).toArray, .bool two, .slice al nl kl,I out, .agg (encRct r).toArray] w fun e w'=>∃(q:Plane) (c:Int) (G:Chunk),e= .returned (.tuple #[.agg (encPlane q).toArray,I c])/\q.Ok [G]/\(q.v,c)=pwT p.v u0.v two l out r/\Sat W w' (G::H::F):=by
 have N0:=hp.pix.le;have C0:=hp.pix.len
 have K0:=hu0.pix.le;have A0:=hu0.pix.len
 have L1:=hl.ll
 refine callsK 167 func93 rfl<|jCO 2 rfl<|sBx hS (encPlane p) fun _ _ u1=>sBx u1 (encPlane u0) fun _ _ v1=>sBx v1 (encRct r) fun _ _ w1=>sAlloc w1 zeroValue38 fun _ _ k0=>jOC 3 rfl<|cutF k0 0 [2,3,4,6,7,11,12] (γ:=Unit) (fun _ R=>⟨[],R,0,(planeOK p.v=true/\(two=true->planeOK u0.v=true))⟩) ?_ ?_
 ·exact gCO k0 3 [403] rfl<|cS (p4_valid p ⟨(hp.pix.fl 4)⟩ k0.flat) fun _ f0=>pu2<|SBn 28 (planeOK p.v) (fun g0=>jOO 13 rfl<|sTk f0 0 rfl [I 0,I 0,I 0,nS] fun _ w0=>jOR 5 rfl<|retD w0 0 [I 0,I 0,I 0,nS] (I 1)<|(by have hC:pwC p.v u0.v two l out r=1:=pwC_1 (fun h=>g0 h.1);have z1:=(w0.drops [0,0,0,0]);have a2:Sat W _ ([]::H::F):=Sat.nilc z1;exact ⟨(⟨0,0,0,⟨none,0,0,[]⟩⟩:Plane),1,_,rfl,⟨RdT.nil (enc:=Go.E.encI) (sz:=1) fR [[]]⟩,(by rw [pwT_eq,okT_c hC om];rfl),a2⟩)) fun g0=>pu2<|SB 30 two (fun l0=>jOI 9 rfl<|⟨(),alB,f0,⟨g0,fun h=>absurd h l0⟩⟩) fun l0=>gOO f0 1 [402] rfl<|gY<|cS (p4_valid u0 ⟨(hu0.pix.fl 4)⟩ f0.flat) fun _ z0=>jOC 5 rfl<|cBn (planeOK u0.v) (fun m0=>jCI 1 rfl<|⟨(),alB,z0,⟨g0,fun _=>m0⟩⟩) fun m0=>jCO 3 rfl<|sTk z0 0 rfl [I 0,I 0,I 0,nS] fun _ a1=>jOR 5 rfl<|retD a1 0 [I 0,I 0,I 0,nS] (I 1)<|(by have hC:pwC p.v u0.v two l out r=1:=pwC_1 (fun h=>m0 (h.2 l0));have b2:=(a1.drops [0,0,0,0]);have c2:Sat W _ ([]::H::F):=Sat.nilc b2;exact ⟨(⟨0,0,0,⟨none,0,0,[]⟩⟩:Plane),1,_,rfl,⟨RdT.nil (enc:=Go.E.encI) (sz:=1) fR [[]]⟩,(by rw [pwT_eq,okT_c hC om];rfl),c2⟩)
 rintro _ ρ _ ⟨d2,hP⟩
 refine jCO 5 rfl<|cS (p14_valid al nl kl l two (hl.fl 4) d2.flat) fun _ b0=>jOC 9 rfl<|CN (opsCode l two) 0 (fun e2=>jCO 4 rfl<|sTk b0 0 rfl [I 0,I 0,I 0,nS] fun _ b1=>jOR 5 rfl<|retD b1 0 [I 0,I 0,I 0,nS] (I (opsCode l two))<|(by have B0:pwCode l two p.v.max_ u0.v.max_ out=(opsCode l two):=(by unfold pwCode;rw [if_neg om]);have hC:pwC p.v u0.v two l out r=(opsCode l two):=pwC_c hP B0 om;have f2:=(b1.drops [0,0,0,0]);have g2:Sat W _ ([]::H::F):=Sat.nilc f2;exact ⟨(⟨0,0,0,⟨none,0,0,[]⟩⟩:Plane),(opsCode l two),_,rfl,⟨RdT.nil (enc:=Go.E.encI) (sz:=1) fR [[]]⟩,(by rw [pwT_eq,okT_c hC om];rfl),g2⟩)) fun e2=>jCO 8 rfl<|sD 46 (out<1) (fun i2=>jOO 9 rfl<|sTk b0 0 rfl [I 0,I 0,I 0,nS] fun _ c1=>jOR 5 rfl<|retD c1 0 [I 0,I 0,I 0,nS] (I 2)<|(by have B0:pwCode l two p.v.max_ u0.v.max_ out=2:=(by unfold pwCode;rw [if_pos om,if_neg om]);have hC:pwC p.v u0.v two l out r=2:=pwC_c hP B0 om;have j2:=(c1.drops [0,0,0,0]);have k2:Sat W _ ([]::H::F):=Sat.nilc j2;exact ⟨(⟨0,0,0,⟨none,0,0,[]⟩⟩:Plane),2,_,rfl,⟨RdT.nil (enc:=Go.E.encI) (sz:=1) fR [[]]⟩,(by rw [pwT_eq,okT_c hC om];rfl),k2⟩)) fun i2=>?_
 refine jOC 5 rfl<|cD (out>4294967296) (fun l2=>jCO 3 rfl<|sTk b0 0 rfl [I 0,I 0,I 0,nS] fun _ d1=>jOR 5 rfl<|retD d1 0 [I 0,I 0,I 0,nS] (I 2)<|(by have B0:pwCode l two p.v.max_ u0.v.max_ out=2:=(by unfold pwCode;rw [if_pos om,if_neg om]);have hC:pwC p.v u0.v two l out r=2:=pwC_c hP B0 om;have m2:=(d1.drops [0,0,0,0]);have n2:Sat W _ ([]::H::F):=Sat.nilc m2;exact ⟨(⟨0,0,0,⟨none,0,0,[]⟩⟩:Plane),2,_,rfl,⟨RdT.nil (enc:=Go.E.encI) (sz:=1) fR [[]]⟩,(by rw [pwT_eq,okT_c hC om];rfl),n2⟩)) fun l2=>jCC 7 rfl<|cutF b0 0 [2,3,4,6,7,11,12] (γ:=Int) (fun sv R=>⟨[(15,I sv)],R,0,sv=(if two=true then u0.max_ else 1)⟩) ?_ ?_
 ·exact jCC 5 rfl<|CB two (fun n0=>jCI 1 rfl<|⟨1,alB,b0,(by rw [if_neg n0])⟩) fun n0=>gCI b0 5 [2] rfl<|⟨u0.max_,alB,b0,(by rw [if_pos n0])⟩
 rintro sv ρ _ ⟨e1,P0⟩
 refine gCO e1 7 [3] rfl<|cS (p14_interval al nl kl l p.max_ sv (hl.fl 4) e1.flat) fun _ c0=>jOC 15 rfl<|CN ((ivRes l p.max_ sv).2.2) 0 (fun o2=>jCO 4 rfl<|sTk c0 0 rfl [I 0,I 0,I 0,nS] fun _ f1=>jOR 5 rfl<|retD f1 0 [I 0,I 0,I 0,nS] (I ((ivRes l p.max_ sv).2.2))<|(by have B0:pwCode l two p.v.max_ u0.v.max_ out=(ivRes l p.max_ sv).2.2:=(by unfold pwCode;rw [if_pos om,if_pos om,P0];rfl);have hC:pwC p.v u0.v two l out r=(ivRes l p.max_ sv).2.2:=pwC_c hP B0 om;have q2:=(f1.drops [0,0,0,0]);have r2:Sat W _ ([]::H::F):=Sat.nilc q2;exact ⟨(⟨0,0,0,⟨none,0,0,[]⟩⟩:Plane),((ivRes l p.max_ sv).2.2),_,rfl,⟨RdT.nil (enc:=Go.E.encI) (sz:=1) fR [[]]⟩,(by rw [pwT_eq,okT_c hC om];rfl),r2⟩)) fun o2=>jCC 3 rfl<|cutF c0 0 [2,3,4,6,7,11,12] (γ:=Unit) (fun _ R=>⟨[(81, .bool (decide (¬(two=true->p.w=u0.w/\p.h=u0.h))))],R,0,True⟩) ?_ ?_
 ·exact jCO 3 rfl<|SB 68 two (fun h0=>jOI 14 rfl<|⟨(),⟨⟨(Eq.trans (b:= .bool false) kr (congrArg Value.bool (decide_eq_false (p:=¬(two=true->p.w=u0.w/\p.h=u0.h)) (by first|(exact fun h=>h (fun e=>absurd e h0))|(simp_all;done)|(simp_all;omega)|omega)).symm)),trivial⟩,sA⟩,c0,trivial⟩) fun h0=>gOO c0 6 [3,2] rfl<|SN 74 p.w u0.w (fun s2=>jOI 8 rfl<|⟨(),⟨⟨(Eq.trans (b:= .bool true) kr (congrArg Value.bool (decide_eq_true (p:=¬(two=true->p.w=u0.w/\p.h=u0.h)) (by exact fun h=>by have h1:=h h0;omega)).symm)),trivial⟩,sA⟩,c0,trivial⟩) fun s2=>gOI c0 8 [3,2] rfl<|⟨(),⟨⟨(Eq.trans (b:= .bool ((p.h:Int)!=u0.h)) kr (congrArg Value.bool (by rw [Bool.eq_iff_iff];simp only [decide_eq_true_eq,beq_iff_eq,bne_iff_ne,ne_eq,Bool.not_eq_true',decide_eq_false_iff_not,gt_iff_lt,ge_iff_le,Bool.and_eq_true,Bool.or_eq_true,Bool.not_eq_eq_eq_not,Bool.not_true,Bool.and_eq_false_imp,beq_eq_false_iff_ne]<;>first|(exact fun h=>h (fun e=>absurd e h0))|(simp_all;done)|(simp_all;omega)|omega))),trivial⟩,sA⟩,c0,trivial⟩
 rintro _ ρ _ ⟨o0,_⟩
 refine cD (¬(two=true->p.w=u0.w/\p.h=u0.h)) (fun p0=>jCO 3 rfl<|sTk o0 0 rfl [I 0,I 0,I 0,nS] fun _ g1=>jOR 5 rfl<|retD g1 0 [I 0,I 0,I 0,nS] (I 8)<|(by have B0:pwCode l two p.v.max_ u0.v.max_ out=(ivRes l p.max_ sv).2.2:=(by unfold pwCode;rw [if_pos om,if_pos om,P0];rfl);have H0:pwCode l two p.v.max_ u0.v.max_ out=0:=(by rw [B0];omega);have hC:pwC p.v u0.v two l out r=8:=pwC_8 hP H0 (fun h=>p0 h.1);have t2:=(g1.drops [0,0,0,0]);have u2:Sat W _ ([]::H::F):=Sat.nilc t2;exact ⟨(⟨0,0,0,⟨none,0,0,[]⟩⟩:Plane),8,_,rfl,⟨RdT.nil (enc:=Go.E.encI) (sz:=1) fR [[]]⟩,(by rw [pwT_eq,okT_c hC om];rfl),u2⟩)) fun p0=>gCO o0 6 [401] rfl<|cS (p2_empty r o0.flat) fun _ q0=>pu1<|sD 85 (r.x0=0/\r.y0=0/\r.x1=0/\r.y1=0) (fun r0=>jOO 15 rfl<|sTk q0 0 rfl [I 0,I 0,I 0,nS] fun _ i1=>jOR 5 rfl<|retD i1 0 [I 0,I 0,I 0,nS] (I 8)<|(by have B0:pwCode l two p.v.max_ u0.v.max_ out=(ivRes l p.max_ sv).2.2:=(by unfold pwCode;rw [if_pos om,if_pos om,P0];rfl);have H0:pwCode l two p.v.max_ u0.v.max_ out=0:=(by rw [B0];omega);have D0:=(plane_sz hP.1).1;unfold sizeP at D0;simp only [Plane.v] at D0;have hC:pwC p.v u0.v two l out r=8:=pwC_8 hP H0 (fun h=>by have h2:=(ins_in (by simp only [Plane.v];omega) (by simp only [Plane.v];omega)).2 h.2;exact h2.1 r0);have v2:=(i1.drops [0,0,0,0]);have w2:Sat W _ ([]::H::F):=Sat.nilc v2;exact ⟨(⟨0,0,0,⟨none,0,0,[]⟩⟩:Plane),8,_,rfl,⟨RdT.nil (enc:=Go.E.encI) (sz:=1) fR [[]]⟩,(by rw [pwT_eq,okT_c hC om];rfl),w2⟩)) fun r0=>?_
 refine gOO q0 6 [401,3,3] rfl<|gY<|cS (p2_inside r (⟨0,0,p.w,p.h⟩:Rct) q0.flat) fun _ i0=>jOC 4 rfl<|CDn (insP r (⟨0,0,p.w,p.h⟩:Rct)) (fun s0=>jCO 3 rfl<|sTk i0 0 rfl [I 0,I 0,I 0,nS] fun _ j1=>jOR 5 rfl<|retD j1 0 [I 0,I 0,I 0,nS] (I 8)<|(by have B0:pwCode l two p.v.max_ u0.v.max_ out=(ivRes l p.max_ sv).2.2:=(by unfold pwCode;rw [if_pos om,if_pos om,P0];rfl);have H0:pwCode l two p.v.max_ u0.v.max_ out=0:=(by rw [B0];omega);have D0:=(plane_sz hP.1).1;unfold sizeP at D0;simp only [Plane.v] at D0;have hC:pwC p.v u0.v two l out r=8:=pwC_8 hP H0 (fun h=>by have h2:=(ins_in (by simp only [Plane.v];omega) (by simp only [Plane.v];omega)).2 h.2;exact s0 h2.2);have x2:=(j1.drops [0,0,0,0]);have y2:Sat W _ ([]::H::F):=Sat.nilc x2;exact ⟨(⟨0,0,0,⟨none,0,0,[]⟩⟩:Plane),8,_,rfl,⟨RdT.nil (enc:=Go.E.encI) (sz:=1) fR [[]]⟩,(by rw [pwT_eq,okT_c hC om];rfl),y2⟩)) fun s0=>jCC 3 rfl ?_
 obtain ⟨O0,F1⟩:=hP;have D0:=(plane_sz O0).1;unfold sizeP at D0;simp only [Plane.v] at D0;have O1:=Classical.not_not.1 p0;have C1:two=true->planeOK u0.v=true/\p.w=u0.w/\p.h=u0.h:=fun h=>⟨F1 h,O1 h⟩;have S0:rIn r p.w p.h:=(ins_in om om).1 ⟨r0,s0⟩;have M1:opsCode l two=0:=by omega
 have H0:pwCode l two p.v.max_ u0.v.max_ out=0:=(by have e:pwCode l two p.v.max_ u0.v.max_ out=(ivRes l p.max_ sv).2.2:=(by unfold pwCode;rw [if_pos om,if_pos om,P0];rfl);rw [e];omega)
 have W0:=S0;unfold rIn at W0
 obtain ⟨Wn,hW⟩:∃k:Nat,r.x1-r.x0=(k:Int):=⟨_,(Int.toNat_of_nonneg om).symm⟩;obtain ⟨Hn,hH⟩:∃k:Nat,r.y1-r.y0=(k:Int):=⟨_,(Int.toNat_of_nonneg om).symm⟩
 have R1:1<=Wn/\Wn<=128/\1<=Hn/\Hn<=128:=om;have Q1:Hn*Wn<=4096:=by have h1:=rIn_area S0 (by first|omega|assumption);rw [hW,hH] at h1;have h2:((Hn*Wn:Nat):Int)=(Wn:Int)*(Hn:Int):=(by push_cast;rw [Int.mul_comm]);omega
 have S1:(r.x1-r.x0)*(r.y1-r.y0)=((Hn*Wn:Nat):Int):=by rw [hW,hH];push_cast;rw [Int.mul_comm]
 have N1:p.v.pix.length=p.pix.n:=C0
 refine gCO i0 5 [1,1] rfl<|sSub r.x1 r.x0<|gOO i0 4 [1,1] rfl<|sSub r.y1 r.y0<|pu2<|sAlloc i0 zeroValue38 fun k1 _ z2=>sTk z2 0 rfl [I (r.x1-r.x0),I (r.y1-r.y0),I out,nS] fun _ l1=>gOO l1 8 [0,0] rfl<|sMul (r.x1-r.x0) (r.y1-r.y0)<|sMake0 (kl:= .i64) (kc:= .i64) (enc:=Go.E.encI) (sz:=1) (nb:=8) l1 (((r.x1-r.x0)*(r.y1-r.y0))).toNat ((r.x1-r.x0)*(r.y1-r.y0)) (om:((r.x1-r.x0)*(r.y1-r.y0))=(((((r.x1-r.x0)*(r.y1-r.y0))).toNat:Nat):Int)) underlying22 (i:=Tryz.t3) kr fR fun m1 a3 _ b3 c3=>pu1<|tWk c3 1 rfl 3 (.slice (At m1 0) 0 ((((r.x1-r.x0)*(r.y1-r.y0))).toNat)) fun _ n1=>jOC 4 rfl ?_
 obtain ⟨f,hf⟩:∃f:Int->Int->Int,f=fun i j=>pwX p.v u0.v two l out (r.x0+i) (r.y0+j):=⟨_,rfl⟩
 refine gCC n1 7 [3] rfl<|loopF [2,3,4,6,7,11,12,19] (γ:=Nat×Int×(List Int)×SO) (fun ⟨i,yy,zs,E0,J0,I0,M0⟩ R=>⟨[(20,I yy)],M0::[(k1, .cells #[I (r.x1-r.x0),I (r.y1-r.y0),I out, .slice E0 J0 I0] 38 (0,0))]::R,Hn-i,i<=Hn/\(yy=r.y0+(i:Int))/\(zs=gridN Wn f (i*Wn))/\OwnT Go.E.encI 3 1 E0 J0 I0 zs M0⟩) (0,r.y0,[],(At m1 0),0,(((r.x1-r.x0)*(r.y1-r.y0))).toNat,a3) ⟨n1,om,om,(by rw [Nat.zero_mul];rfl),b3⟩ ?_
 rintro ⟨i,yy,zs,E0,J0,I0,M0⟩ ρ _ ⟨e0,hi,J1,hE,F0⟩
 have X0:=F0.ll
 refine gCC e0 9 [3] rfl<|CD (yy<r.y1) (fun d3=>gCO e0 8 [401] rfl<|sTk e0 2 rfl [I (r.x1-r.x0),I (r.y1-r.y0),I out, .slice E0 J0 I0] fun _ o1=>jOR 4 rfl<|retD o1 2 [I (r.x1-r.x0),I (r.y1-r.y0),I out, .slice E0 J0 I0] (I 0)<|(by have P1:zs=gridN Wn f (Hn*Wn):=(by rw [hE,show i=Hn by omega]);have hC:pwC p.v u0.v two l out r=0:=pwC_0 ⟨O0,F1⟩ H0 ⟨fun h=>(C1 h).2,S0⟩;exact ⟨(⟨(r.x1-r.x0),(r.y1-r.y0),out,⟨E0,J0,I0,zs⟩⟩:Plane),0,_,rfl,⟨(F0.rdAt (cs:=[M0]) 0 rfl)⟩,(by rw [pwT_eq,okT_0 hC,mk_pl S0 hW hH (hf▸P1)];rfl),(o1.drops [1,1,1,1,1])⟩)) fun d3=>jCC 5 rfl ?_
 have hix:=pl_ix O0 (x:=r.x1-1) (y:=yy) (by simp only [Plane.v];omega) (by simp only [Plane.v];omega);rw [N1] at hix;simp only [Plane.v] at hix
 refine gCO e0 4 [5] rfl<|sMul yy p.w<|gOO e0 2 [3] rfl<|sAdd (yy*p.w) r.x0<|jOC 4 rfl<|loopF [2,3,4,6,7,11,12,19,20] (γ:=Nat×Int×(List Int)×SO) (fun ⟨j,xx,zt,Q0,L0,T0,R0⟩ R=>⟨[(21,I xx)],R0::[(k1, .cells #[I (r.x1-r.x0),I (r.y1-r.y0),I out, .slice Q0 L0 T0] 38 (0,0))]::R,Wn-j,j<=Wn/\(xx=yy*p.w+r.x0+(j:Int))/\(zt=gridN Wn f (i*Wn+j))/\OwnT Go.E.encI 3 1 Q0 L0 T0 zt R0⟩) (0,((yy*p.w)+r.x0),zs,E0,J0,I0,M0) ⟨e0,om,om,(by rw [Nat.add_zero];exact hE),F0⟩ ?_
 rintro ⟨j,xx,zt,Q0,L0,T0,R0⟩ ρ _ ⟨a0,hj,I1,U0,G0⟩
 have Y0:=G0.ll
 have Y1:zt.length=i*Wn+j:=by rw [U0,grid_len]
 have U1:i*Wn+j<=Hn*Wn:=by have h1:=Nat.mul_le_mul_right Wn (show i+1<=Hn by omega);rw [Nat.add_mul,Nat.one_mul] at h1;omega
 refine gCO a0 7 [5] rfl<|sMul yy p.w<|gOO a0 2 [3] rfl<|sAdd (yy*p.w) r.x1<|jOC 3 rfl<|CD (xx<((yy*p.w)+r.x1)) (fun f3=>jCO 8 rfl<|sAdd yy 1<|jOI 2 rfl<|⟨(i+1,(yy+1),zt,Q0,L0,T0,R0),od,alB,a0,om,om,(by rw [Nat.add_mul,Nat.one_mul,U0,show j=Wn by omega]),G0⟩) fun f3=>jCC 9 rfl<|cutF a0 0 [2,3,4,6,7,11,12,19,20,21] (γ:=Int) (fun bv R=>⟨[(22,I bv)],R,0,bv=(if two=true then pixAt u0.v (r.x0+(j:Int)) (r.y0+(i:Int)) else 0)/\(0<=bv/\bv<=4294967296)⟩) ?_ ?_
 · exact jCC 5 rfl<|CB two (fun j0=>jCI 1 rfl<|⟨0,alB,a0,(by rw [if_neg j0]),om⟩) fun j0=>(by obtain ⟨V0,X1⟩:=C1 j0;have G1:=(plane_sz V0).1;unfold sizeP at G1;simp only [Plane.v] at G1;have V1:u0.v.pix.length=u0.pix.n:=A0;have H1:=plane_sz V0;have B1:=plane_sz O0;simp only [Plane.v] at H1 B1;have W1:u0.pix.n=p.pix.n:=(by have h1:=H1.2.1;have h2:=B1.2.1;rw [show u0.w=p.w by omega,show u0.h=p.h by omega] at h1;omega);refine gCO a0 4 [4] rfl<|sII hu0.pix xx fun t0 _ _ g3 h3=>?_;have D1:pixAt u0.v (r.x0+(j:Int)) (r.y0+(i:Int))=t0:=(by refine pixAt_eq ?_;rw [<-g3];simp only [Plane.v];congr 1;rw [I1,J1,show u0.w=p.w by omega,Int.add_comm r.x0,<-Int.add_assoc];omega);have E1:=pixAt_bd V0 (r.x0+(j:Int)) (r.y0+(i:Int));rw [D1] at E1;simp only [Plane.v] at E1;exact sMp a0 (h3.up 6 rfl) 0 (I t0)<|jOI 2 rfl<|⟨t0,alB,a0,(by rw [if_pos j0,D1]),om⟩)
 rintro bv ρ _ ⟨v0,K1,T1⟩
 refine gCO v0 6 [5] rfl<|sII hp.pix xx fun d0 _ _ i3 j3=>?_
 have Z0:pixAt p.v (r.x0+(j:Int)) (r.y0+(i:Int))=d0:=(by refine pixAt_eq ?_;rw [<-i3];simp only [Plane.v];congr 1;rw [I1,J1,Int.add_comm r.x0,<-Int.add_assoc];omega)
 have A1:=pixAt_bd O0 (r.x0+(j:Int)) (r.y0+(i:Int));rw [Z0] at A1;simp only [Plane.v] at A1
 exact sMp v0 (j3.up 6 rfl) 0 (I d0)<|pu1<|cS (p14_run al nl kl l d0 bv (hl.fl 6) _ M1 om om v0.flat) fun _ k3=>jOC 7 rfl<|drawF k3 [4,5,6,8] (fb 1 1 3 1<|fn) [0,2,3,1,4,5,6,7,8] fun _ l3=>wV 3<|wL 0<|wO rfl<|cS (p7_clamp ((runV l d0 bv).1) out l3.flat) fun _ q1=>nZ q1 [1]<|wO rfl<|sBK q1 #[I (clampV ((runV l d0 bv).1) out)] 3 fun _ _ r1=>nZ r1 [2]<|wO rfl<|sApp (nb:=8) r1 G0 1 (RdT.blk (enc:=Go.E.encI) (sz:=1) (xs:=[(clampV ((runV l d0 bv).1) out)]) fR 1 0 rfl rfl rfl om) underlying22 (i:=Tryz.t3) kr fR fun s1 t1 m3 _ n3 o3=>nA<|wV 1<|wO rfl<|tWk o3 2 rfl 3 (.slice s1 (L0+1) t1) fun _ p3=>nA<|wN<|jXO 4 rfl<|sAdd xx 1<|jOI 2 rfl<|⟨(j+1,(xx+1),(zt++[(clampV ((runV l d0 bv).1) out)]),s1,(L0+1),t1,m3),od,alB,(p3.dropAt 0 rfl),om,om,(by rw [<-Nat.add_assoc,grid_succ om,<-U0,hf];dsimp only;unfold pwX;rw [Z0,<-K1]),n3⟩
end Go.Proofs.YtghcddbhllkbmaaGreat

namespace Go.Proofs.YtghcddbhllkbmaaGreat
open Go Go.E Go.Proofs.Tryz
set_option linter.all false
set_option maxRecDepth 100000
set_option maxHeartbeats 2000000
variable {W w:World} {H:Chunk} {F:List Chunk}
def plAt (l:List PlaneV) (i:Int):PlaneV:=l[i.toNat]?.getD zPl
def srcB (s:StageV) (l:List PlaneV):PlaneV:=if twoP s then plAt l s.b else zPl
def meanS (ni:Int) (ss:List StageV) (n:Int) (out:List PlaneV):PlaneV×Int:=stgT (stgAt ss ni n) (plAt out (stgAt ss ni n).a) (srcB (stgAt ss ni n) out)
def meanG (ni:Int) (ss:List StageV) (l:List Int) (out:List PlaneV):List PlaneV:=l.foldl (fun out n=>out.set n.toNat (meanS ni ss n out).1) out
def meanI (j:JobV):List PlaneV:=j.inputs++List.replicate j.stages.length zPl
def meanV (j:JobV):List PlaneV:=if (shpV j).2.2=0 then meanG j.inputs.length j.stages (ordV j).1 (meanI j) else []
theorem meanG_succ {ni:Int} {ss:List StageV} {l:List Int} {out:List PlaneV} {i:Nat} {n:Int} (h:l[i]?=some n):meanG ni ss (l.take (i+1)) out=(meanG ni ss (l.take i) out).set n.toNat (meanS ni ss n (meanG ni ss (l.take i) out)).1:=by
  unfold meanG;rw [List.take_add_one,h,Option.toList_some,List.foldl_append];rfl
theorem shpGo_keep {ni:Int} {ss:List StageV} {x:Int} (h0:0<=x):∀(l:List Int) (out:List Shape),(∀n∈l,0<=n/\n≠x)->(shpGo ni ss l out).2.2=0->shpAt (shpGo ni ss l out).1 x=shpAt out x
  |[],out,_,_=>rfl
  |n::l,out,h,hz=>by
    unfold shpGo at hz⊢
    split at hz
    · exact (by rename_i hs;rw [if_pos hs,shpGo_keep h0 l _ (fun m hm=>h m (by simp [hm])) hz];have hn:=h n (by simp);unfold shpAt;rw [List.getElem?_set_ne (by omega)])
    · rename_i hs;exact absurd hz hs
theorem shp_in {j:JobV} (h:(shpV j).2.2=0) {i:Nat} {p:PlaneV} (hp:j.inputs[i]?=some p):planeOK p=true/\shpAt (shpV j).1 i=shpOf p:=by
  have ho:=shp_ok h
  have hi:i<j.inputs.length:=(List.getElem?_eq_some_iff.1 hp).1
  unfold shpV at h⊢
  rw [if_pos ho.od] at h⊢
  split at h
  · rename_i ha
    rw [if_pos ha,shpGo_keep (by omega) _ _ (fun n hn=>by have:=ho.rng n hn;omega) h]
    refine ⟨List.all_eq_true.1 ha p (List.mem_of_getElem? hp),?_⟩
    unfold shpAt
    rw [List.getElem?_append_left (by rw [List.length_map];omega),List.getElem?_map,show (i:Int).toNat=i by omega,hp];rfl
  · simp at h
structure MI (j:JobV) (i:Nat) (out:List PlaneV):Prop where
  len:out.length=j.inputs.length+j.stages.length
  ok:∀n:Int,0<=n->(n<(j.inputs.length:Int)\/n∈(ordV j).1.take i)->planeOK (plAt out n)=true/\shpOf (plAt out n)=shpAt (shpV j).1 n
theorem MI.start {j:JobV} (h:(shpV j).2.2=0):MI j 0 (meanI j):=by
  refine ⟨by simp [meanI],fun n h0 hn=>?_⟩
  rcases hn with hn|hn
  · exact (by have hg:j.inputs[n.toNat]?=some (j.inputs[n.toNat]'(by omega)):=List.getElem?_eq_getElem (by omega);have e:plAt (meanI j) n=j.inputs[n.toNat]'(by omega):=(by unfold plAt meanI;rw [List.getElem?_append_left (by omega),hg];rfl);have hs:=shp_in h hg;rw [e];exact ⟨hs.1,by rw [<-hs.2,show (n.toNat:Int)=n by omega]⟩)
  · simp at hn
theorem MI.step {j:JobV} {i:Nat} {out:List PlaneV} {n:Int} (h:(shpV j).2.2=0) (m:MI j i out) (hn:(ordV j).1[i]?=some n):
  (meanS j.inputs.length j.stages n out).2=0/\planeOK (meanS j.inputs.length j.stages n out).1=true/\MI j (i+1) (out.set n.toNat (meanS j.inputs.length j.stages n out).1):=by
 have ho:=shp_ok h
 have hm:=List.mem_of_getElem? hn
 have hr:=ho.rng n hm
 have d0:=take_split hn
 have hb:=ho.bef _ _ _ d0
 have hf:=ho.fit n hm
 unfold FitP shpStep at hf
 have ha:=hb (stgAt j.stages j.inputs.length n).a (a_src _)
 have b0:=m.ok _ ha.1 ha.2
 have hq:(twoP (stgAt j.stages j.inputs.length n)->planeOK (srcB (stgAt j.stages j.inputs.length n) out)=true)/\shpOf (srcB (stgAt j.stages j.inputs.length n) out)=(if twoP (stgAt j.stages j.inputs.length n) then shpAt (shpV j).1 (stgAt j.stages j.inputs.length n).b else ⟨0,0,0⟩):=by
  unfold srcB
  by_cases ht:twoP (stgAt j.stages j.inputs.length n)
  · exact (by have a0:=hb (stgAt j.stages j.inputs.length n).b (by unfold srcs;rw [if_pos ht];simp);have c0:=m.ok _ a0.1 a0.2;rw [if_pos ht,if_pos ht];exact ⟨fun _=>c0.1,c0.2⟩)
  · exact (by rw [if_neg ht,if_neg ht];exact ⟨fun h=>absurd h ht,rfl⟩)
 rw [<-b0.2,<-hq.2] at hf
 have hs:=stg_ok b0.1 hq.1 (by rw [hf])
 rw [hf] at hs
 refine ⟨hs.1,hs.2.1,⟨by rw [List.length_set];exact m.len,fun k h0 hk=>?_⟩⟩
 have hl:=m.len
 by_cases e:k=n
 · exact (by subst e;have e2:plAt (out.set k.toNat (meanS j.inputs.length j.stages k out).1) k=(meanS j.inputs.length j.stages k out).1:=(by unfold plAt;rw [List.getElem?_set,if_pos rfl,if_pos om];rfl);rw [e2];exact hs.2)
 ·have e2:plAt (out.set n.toNat (meanS j.inputs.length j.stages n out).1) k=plAt out k:=by unfold plAt;rw [List.getElem?_set_ne om]
  rw [e2]
  refine m.ok k h0 ?_
  rcases hk with hk|hk
  ·exact .inl hk
  ·rw [List.take_add_one,hn,Option.toList_some] at hk
   rcases List.mem_append.1 hk with hk|hk
   ·exact .inr hk
   ·exact absurd (List.mem_singleton.1 hk) e
theorem mean_at {j:JobV} (h:(shpV j).2.2=0):∀i:Nat,i<=(ordV j).1.length->MI j i (meanG j.inputs.length j.stages ((ordV j).1.take i) (meanI j))
  |0,_=>MI.start h
  |i+1,hi=>by
    have hn:(ordV j).1[i]?=some ((ordV j).1[i]'(by omega)):=List.getElem?_eq_getElem (by omega)
    rw [meanG_succ hn]
    exact ((mean_at h i (by omega)).step h hn).2.2
theorem mean_ok {j:JobV} (h:(shpV j).2.2=0):(meanV j).length=j.inputs.length+j.stages.length/\∀n:Int,0<=n->n<(j.inputs.length:Int)+j.stages.length->planeOK (plAt (meanV j) n)=true/\shpOf (plAt (meanV j) n)=shpAt (shpV j).1 n:=by
  have ho:=shp_ok h
  have hm:=mean_at h (ordV j).1.length (Nat.le_refl _)
  rw [List.take_of_length_le (Nat.le_refl _)] at hm
  have e:meanV j=meanG j.inputs.length j.stages (ordV j).1 (meanI j):=if_pos h
  rw [e]
  refine ⟨hm.len,fun n h0 h1=>hm.ok n h0 ?_⟩
  by_cases hn:n<(j.inputs.length:Int)
  · exact .inl hn
  · rw [List.take_of_length_le (Nat.le_refl _)];exact .inr (ho.every n (by omega) h1)
def atV (p:PlaneV) (x y:Int):Int:=if x<0\/y<0\/p.w<=x\/p.h<=y then 0 else pixAt p x y
def leftV (own:PlaneV) (r:Rct):List Int:=(List.range (r.y1-r.y0).toNat).map fun (j:Nat)=>atV own (r.x0-1) (r.y0+(j:Int))
def topV (own:PlaneV) (r:Rct):List Int:=(List.range (r.x1-r.x0).toNat).map fun (i:Nat)=>atV own (r.x0+(i:Int)) (r.y0-1)
def sumT (p own:PlaneV) (r:Rct):PlaneV×Int:=if rIn r p.w p.h then itgT p r (leftV own r) (topV own r) (atV own (r.x0-1) (r.y0-1)) else (zPl,8)
def kerT (s:StageV) (p q:PlaneV) (r:Rct):PlaneV×Int:=
  if s.kind=1 then convT p s.edgePolicy s.edgeFill s.kW s.kH s.weights s.shift s.max_ r
  else if s.kind=2 then sepT p s.edgePolicy s.edgeFill s.row s.col s.shift s.shift2 s.max_ r
  else if s.kind=3 then resT p s.edgePolicy s.edgeFill s.x s.y s.shift s.shift2 s.max_ r
  else pwT p q (decide (twoP s)) s.ops s.max_ r
def tilT (s:StageV) (p q own:PlaneV) (r:Rct):PlaneV×Int:=if s.kind=5 then sumT p own r else kerT s p q r
def mrgN (l:List (List Int)):Int:=((l[0]?.getD []).length:Int)
def addL (a b:List Int):List Int:=List.zipWith (·+·) a b
def mrgV (l:List (List Int)):List Int:=l.foldl addL (List.replicate (mrgN l).toNat 0)
def mrgC (l:List (List Int)):Int:=
  if l.length=0\/4096<l.length then 5 else if (1<=mrgN l/\mrgN l<=128)/\l.all (fun z=>decide ((z.length:Int)=mrgN l))=true then
    (if l.all (fun z=>inM 4096 z)=true then (if (mrgV l).all (fun v=>decide (v<=4096))=true then 0 else 3) else 2) else 8
def cmpC (s:StageV) (part:Int) (p q own:PlaneV):Int:=
  if belongP s.kind part/\planeOK p=true/\(twoP s->planeOK q=true)/\(s.kind=5->planeOK own=true/\own.w=p.w/\own.h=p.h) then (ofV s (shpOf p) (shpOf q)).2 else 1
def cmpT (s:StageV) (part:Int) (r:Rct) (p q own:PlaneV) (parts:List (List Int)):List Int×Int:=
  if cmpC s part p q own=0 then
    (if part=1 then (partV p s.bins r,partC p s.bins r)
     else if part=2 then (if mrgC parts=0 then (if mrgN parts=s.bins then (mrgV parts,0) else ([],8)) else ([],mrgC parts))
     else if (tilT s p q own r).2=0 then ((tilT s p q own r).1.pix,0) else ([],(tilT s p q own r).2))
  else ([],cmpC s part p q own)
def inR2 (r:Rct) (x y:Int):Prop:=(r.x0<=x/\x<r.x1)/\r.y0<=y/\y<r.y1
instance (r:Rct) (x y:Int):Decidable (inR2 r x y):=by unfold inR2;infer_instance
def putL (own:PlaneV) (r:Rct) (pix:List Int):List Int:=gridN own.w (fun x y=>if inR2 r x y then pix.getD ((y-r.y0)*(r.x1-r.x0)+(x-r.x0)).toNat 0 else pixAt own x y) own.pix.length
def putC (own:PlaneV) (part:Int) (r:Rct) (pix:List Int):Int:=if planeOK own=true/\(part=0\/part=2) then (if rIn r own.w own.h/\(pix.length:Int)=(r.x1-r.x0)*(r.y1-r.y0) then (if inM own.max_ pix=true then 0 else 2) else 8) else 1
def putT (own:PlaneV) (part:Int) (r:Rct) (pix:List Int):PlaneV×Int:=okT (putC own part r pix) ⟨own.w,own.h,own.max_,putL own r pix⟩
theorem put_len (own:PlaneV) (r:Rct) (pix:List Int):(putL own r pix).length=own.pix.length:=grid_len _ _ _
theorem pixAt_grid {w h mx:Int} {f:Int->Int->Int} {n:Nat} (hn:(n:Int)=w*h) {x y:Int} (hx:0<=x/\x<w) (hy:0<=y/\y<h):pixAt ⟨w,h,mx,gridN w f n⟩ x y=f x y:=by
  have h1:=grid_ix (nx:=w) (i:=y) (j:=x) hx
  have h2:y*w+x<w*h:=(by have:=Int.mul_le_mul_of_nonneg_right (show y+1<=h by omega) (show 0<=w by omega);rw [Int.add_mul,Int.one_mul,Int.mul_comm h] at this;omega)
  have h0:0<=y*w:=Int.mul_nonneg hy.1 (by omega)
  unfold pixAt
  dsimp only
  rw [List.getD_eq_getElem?_getD,grid_at (by omega),show (((y*w+x).toNat:Nat):Int)=y*w+x by omega,h1.1,h1.2];rfl
theorem put_at {own:PlaneV} {r:Rct} {pix:List Int} (hl:(own.pix.length:Int)=own.w*own.h) {x y:Int} (hx:0<=x/\x<own.w) (hy:0<=y/\y<own.h):
    pixAt ⟨own.w,own.h,own.max_,putL own r pix⟩ x y=if inR2 r x y then pix.getD ((y-r.y0)*(r.x1-r.x0)+(x-r.x0)).toNat 0 else pixAt own x y:=pixAt_grid hl hx hy
theorem mk_get {r:Rct} {mx w h:Int} {f:Int->Int->Int} (hr:rIn r w h) {x y:Int} (hi:inR2 r x y):(mkPl r mx f).pix.getD ((y-r.y0)*(r.x1-r.x0)+(x-r.x0)).toNat 0=f x y:=by
  have ha:=arN_eq hr
  unfold inR2 at hi
  have h:=pixAt_grid (w:=r.x1-r.x0) (h:=r.y1-r.y0) (mx:=mx) (f:=fun i j=>f (r.x0+i) (r.y0+j)) (n:=areaN r) ha (x:=x-r.x0) (y:=y-r.y0) (by omega) (by omega)
  rw [show r.x0+(x-r.x0)=x by omega,show r.y0+(y-r.y0)=y by omega] at h
  exact h
theorem plane_ext {a b:PlaneV} (h1:shpOf a=shpOf b) (ha:(a.pix.length:Int)=a.w*a.h) (hb:(b.pix.length:Int)=b.w*b.h) (hw:1<=a.w)
  (h:∀x y,0<=x/\x<a.w->0<=y/\y<a.h->pixAt a x y=pixAt b x y):a=b:=by
 have e1:a.w=b.w:=congrArg Shape.w h1
 have e2:a.h=b.h:=congrArg Shape.h h1
 have e3:a.max_=b.max_:=congrArg Shape.max_ h1
 have hl:a.pix.length=b.pix.length:=by rw [e1,e2] at ha;omega
 have e4:a.pix=b.pix:=by
  apply List.ext_getElem?
  intro n
  by_cases hn:n<a.pix.length
  ·have hk:(n:Int)<a.w*a.h:=by omega
   have hh:1<=a.h:=by
    rcases Int.lt_or_le 0 a.h with h0|h0
    ·omega
    ·have:=Int.mul_nonneg (show 0<=a.w by omega) (show 0<=-a.h by omega);rw [Int.mul_neg] at this;omega
   have hix:=tile_ix (nx:=a.w) (ny:=a.h) (i:=(n:Int)) hw om hk
   have hp:=h ((n:Int)%a.w) ((n:Int)/a.w) hix.1 ⟨hix.2.1,hix.2.2.1⟩
   unfold pixAt at hp
   rw [<-e1,show ((n:Int)/a.w*a.w+(n:Int)%a.w).toNat=n by omega,List.getD_eq_getElem?_getD,List.getD_eq_getElem?_getD,List.getElem?_eq_getElem hn,List.getElem?_eq_getElem om] at hp
   rw [List.getElem?_eq_getElem hn,List.getElem?_eq_getElem om]
   exact congrArg some hp
  ·rw [List.getElem?_eq_none om,List.getElem?_eq_none om]
 cases a;cases b
 simp only [PlaneV.mk.injEq] at*
 exact ⟨e1,e2,e3,e4⟩
def tixV (nx tw th x y:Int):Int:=y/th*nx+x/tw
theorem tix_in {w h tw th i x y:Int} (hf:fineP w h tw th) (hi:0<=i/\i<colsN w h tw th*rowsN w h tw th) (hx:0<=x/\x<w) (hy:0<=y/\y<h):inR2 (tileV w h tw th i) x y↔tixV (colsN w h tw th) tw th x y=i:=by
 have hb:=cols_bd hf
 have hix:=tile_ix hb.1.1 hi.1 hi.2
 have a0:=hf
 unfold fineP at a0
 have dx:=Int.emod_def x tw;have c0:=Int.emod_nonneg x (show tw≠0 by omega);have d0:=Int.emod_lt_of_pos x (show 0<tw by omega)
 have dy:=Int.emod_def y th;have e0:=Int.emod_nonneg y (show th≠0 by omega);have f0:=Int.emod_lt_of_pos y (show 0<th by omega)
 have b0:0<=x/tw/\x/tw<colsN w h tw th:=(by refine ⟨Int.ediv_nonneg hx.1 om,?_⟩;have g0:=ceil_ge (a:=w) (b:=tw) om om;have hc:colsN w h tw th=ceilV w tw:=(by unfold colsN;rw [if_pos hf]);rw [hc];exact Int.ediv_lt_of_lt_mul om om)
 have hq:=grid_ix (nx:=colsN w h tw th) (i:=y/th) (j:=x/tw) b0
 unfold tixV
 constructor
 · exact (by intro hin;unfold inR2 tileV at hin;dsimp only at hin;have e1:x/tw=i%colsN w h tw th:=(by have l1:i%colsN w h tw th<=x/tw:=(Int.le_ediv_iff_mul_le om).2 hin.1.1;have l2:x/tw<i%colsN w h tw th+1:=Int.ediv_lt_of_lt_mul om (by rw [Int.add_mul,Int.one_mul];omega);omega);have e2:y/th=i/colsN w h tw th:=(by have l1:i/colsN w h tw th<=y/th:=(Int.le_ediv_iff_mul_le om).2 hin.2.1;have l2:y/th<i/colsN w h tw th+1:=Int.ediv_lt_of_lt_mul om (by rw [Int.add_mul,Int.one_mul];omega);omega);rw [e1,e2];exact hix.2.2.2.symm)
 · exact (by intro e;have e1:i%colsN w h tw th=x/tw:=(by rw [<-e];exact hq.1);have e2:i/colsN w h tw th=y/th:=(by rw [<-e];exact hq.2);unfold inR2 tileV;dsimp only;rw [e1,e2,Int.mul_comm (x/tw),Int.mul_comm (y/th)];omega)
structure AsmP (W own:PlaneV) (nx tw th:Int) (i:Int):Prop where
  shp:shpOf own=shpOf W
  len:(own.pix.length:Int)=own.w*own.h
  pix:∀x y,0<=x/\x<W.w->0<=y/\y<W.h->pixAt own x y=if tixV nx tw th x y<i then pixAt W x y else 0
theorem AsmP.start {W:PlaneV} {nx tw th:Int} {n:Nat} (hn:(n:Int)=W.w*W.h) (h0:0<=nx/\1<=tw/\1<=th):AsmP W ⟨W.w,W.h,W.max_,List.replicate n 0⟩ nx tw th 0:=by
 refine ⟨rfl,by dsimp only;rw [List.length_replicate];exact hn,fun x y hx hy=>?_⟩
 have h1:0<=tixV nx tw th x y:=(by unfold tixV;have a:=Int.mul_nonneg (Int.ediv_nonneg hy.1 (show 0<=th by omega)) h0.1;have b:=Int.ediv_nonneg hx.1 (show 0<=tw by omega);omega)
 rw [if_neg om]
 unfold pixAt
 dsimp only
 rw [List.getD_eq_getElem?_getD]
 cases e:(List.replicate n (0:Int))[(y*W.w+x).toNat]? with
 |none=>rfl
 |some z=>exact List.eq_of_mem_replicate (List.mem_of_getElem? e)
section
variable {W own:PlaneV} {tw th i:Int} (hf:fineP W.w W.h tw th) (h:AsmP W own (colsN W.w W.h tw th) tw th i)
include hf h
theorem AsmP.put (hi:0<=i/\i<colsN W.w W.h tw th*rowsN W.w W.h tw th) {pix:List Int}
  (hp:∀x y,inR2 (tileV W.w W.h tw th i) x y->pix.getD ((y-(tileV W.w W.h tw th i).y0)*((tileV W.w W.h tw th i).x1-(tileV W.w W.h tw th i).x0)+(x-(tileV W.w W.h tw th i).x0)).toNat 0=pixAt W x y):
  AsmP W ⟨own.w,own.h,own.max_,putL own (tileV W.w W.h tw th i) pix⟩ (colsN W.w W.h tw th) tw th (i+1):=by
 have e1:own.w=W.w:=congrArg Shape.w h.shp
 have e2:own.h=W.h:=congrArg Shape.h h.shp
 refine ⟨h.shp,by dsimp only;rw [put_len];exact h.len,fun x y hx hy=>?_⟩
 rw [put_at h.len (by rw [e1];exact hx) (by rw [e2];exact hy)]
 have ht:=tix_in hf hi hx hy
 by_cases a0:inR2 (tileV W.w W.h tw th i) x y
 ·rw [if_pos a0,hp x y a0,if_pos (by have:=ht.1 a0;omega)]
 ·rw [if_neg a0,h.pix x y hx hy]
  have b0:¬tixV (colsN W.w W.h tw th) tw th x y=i:=fun e=>a0 (ht.2 e)
  by_cases hl:tixV (colsN W.w W.h tw th) tw th x y<i
  ·rw [if_pos hl,if_pos om]
  ·rw [if_neg hl,if_neg om]
end
theorem sumN_split (f:Nat->Int) (m:Nat):∀n:Nat,sumN f (m+n)=sumN f m+sumN (fun k=>f (m+k)) n
  |0=>by rw [sumN_zero,Nat.add_zero,Int.add_zero]
  |n+1=>by rw [<-Nat.add_assoc,sumN_succ,sumN_succ,sumN_split f m n];omega
def recF (f:Int->Int->Int) (x y:Int) (i j:Nat):Int:=sumN (fun a=>sumN (fun b=>f (x+a) (y+b)) j) i
theorem recS_F (p:PlaneV) (x y:Int) (i j:Nat):recS p x y i j=recF (pixAt p) x y i j:=rfl
theorem recF_cols (f:Int->Int->Int) (x y:Int) (i k j:Nat):recF f x y (i+k) j=recF f x y i j+recF f (x+i) y k j:=by
  unfold recF
  rw [sumN_split]
  congr 1
  exact sumN_congr k (fun a _=>by rw [show x+((i+a:Nat):Int)=x+(i:Int)+(a:Int) by push_cast;omega])
theorem recF_rows (f:Int->Int->Int) (x y:Int) (i j k:Nat):recF f x y i (j+k)=recF f x y i j+recF f x (y+j) i k:=by
  unfold recF
  rw [<-sumN_add]
  exact sumN_congr i (fun a _=>(by rw [sumN_split];congr 1;exact sumN_congr k (fun b _=>by rw [show y+((j+b:Nat):Int)=y+(j:Int)+(b:Int) by push_cast;omega])))
theorem recF_zero_i (f:Int->Int->Int) (x y:Int) (j:Nat):recF f x y 0 j=0:=rfl
theorem recF_zero_j (f:Int->Int->Int) (x y:Int) (i:Nat):recF f x y i 0=0:=by unfold recF;simp only [sumN_zero];exact sumN_nil i
def RW (p:PlaneV) (a b:Int):Int:=recF (pixAt p) 0 0 a.toNat b.toNat
theorem RW_0 {p:PlaneV} {a b:Int} (h:a<=0\/b<=0):RW p a b=0:=by
  unfold RW
  rcases h with h|h
  · rw [show a.toNat=0 by omega];exact recF_zero_i _ _ _ _
  · rw [show b.toNat=0 by omega];exact recF_zero_j _ _ _ _
theorem RW_part {p:PlaneV} {x y:Int} {i j:Nat} (hx:0<=x) (hy:0<=y):recS p x y i j=RW p (x+i) (y+j)-RW p x (y+j)-RW p (x+i) y+RW p x y:=by
  unfold RW
  rw [recS_F,show (x+(i:Int)).toNat=x.toNat+i by omega,show (y+(j:Int)).toNat=y.toNat+j by omega]
  have e1:=recF_cols (pixAt p) 0 0 x.toNat i (y.toNat+j)
  have e2:=recF_rows (pixAt p) (0+(x.toNat:Int)) 0 i y.toNat j
  have e3:=recF_cols (pixAt p) 0 0 x.toNat i y.toNat
  rw [show (0:Int)+(x.toNat:Int)=x by omega] at e1 e2 e3
  rw [show (0:Int)+(y.toNat:Int)=y by omega] at e2
  omega
theorem RW_bd {p:PlaneV} (hp:planeOK p=true) {a b:Int} (ha:a<=p.w) (hb:b<=p.h) (hm:mostOK p.w p.h p.max_=true):0<=RW p a b/\RW p a b<=mostV p.w p.h p.max_:=by
 have hs:=(plane_sz hp).1;unfold sizeP at hs
 have hv:mostV p.w p.h p.max_=p.w*p.h*p.max_:=by unfold mostV;rw [if_pos hm]
 have h:=rec_bd hp 0 0 a.toNat b.toNat
 have h1:p.max_*(b.toNat:Int)<=p.max_*p.h:=Int.mul_le_mul_of_nonneg_left om om
 have h0:0<=p.max_*p.h:=Int.mul_nonneg om om
 have h2:p.max_*(b.toNat:Int)*(a.toNat:Int)<=p.max_*p.h*p.w:=Int.mul_le_mul h1 om om h0
 rw [hv,show p.w*p.h*p.max_=p.max_*p.h*p.w by rw [Int.mul_comm (p.w*p.h),Int.mul_comm p.w,Int.mul_assoc]]
 exact ⟨h.1,Int.le_trans h.2 h2⟩
theorem itg_at {p:PlaneV} (hp:planeOK p=true) {x y:Int} (hx:0<=x/\x<p.w) (hy:0<=y/\y<p.h) (hm:mostOK p.w p.h p.max_=true):pixAt (itgW p).1 x y=RW p (x+1) (y+1):=by
  have ha:=all_in hp
  have hn:((p.w*p.h).toNat:Int)=p.w*p.h:=by have:=ha.2;omega
  unfold itgW
  rw [if_pos hp,if_pos hm,okT_0 rfl,pixAt_grid hn hx hy]
  unfold RW
  rw [recS_F,show x.toNat+1=(x+1).toNat by omega,show y.toNat+1=(y+1).toNat by omega]
theorem itg_tile {p own:PlaneV} {r:Rct} (hp:planeOK p=true) (hm:mostOK p.w p.h p.max_=true) (hr:rIn r p.w p.h)
  (hl:∀y,r.y0<=y->y<r.y1->atV own (r.x0-1) y=RW p r.x0 (y+1)) (ht:∀x,r.x0<=x->x<r.x1->atV own x (r.y0-1)=RW p (x+1) r.y0) (hc:atV own (r.x0-1) (r.y0-1)=RW p r.x0 r.y0):
  (sumT p own r).2=0/\(sumT p own r).1.pix.length=areaN r/\∀x y,inR2 r x y->(sumT p own r).1.pix.getD ((y-r.y0)*(r.x1-r.x0)+(x-r.x0)).toNat 0=RW p (x+1) (y+1):=by
 have g0:=hr
 unfold rIn at g0
 have e0:(leftV own r).length=(r.y1-r.y0).toNat/\(topV own r).length=(r.x1-r.x0).toNat:=by simp [leftV,topV]
 have f0:∀j:Nat,(j:Int)<r.y1-r.y0->(leftV own r).getD j 0=RW p r.x0 (r.y0+j+1):=fun j hj=>by
  unfold leftV
  rw [List.getD_eq_getElem?_getD,List.getElem?_map,List.getElem?_range om]
  exact hl _ om om
 have h0:∀i:Nat,(i:Int)<r.x1-r.x0->(topV own r).getD i 0=RW p (r.x0+i+1) r.y0:=fun i hi=>by
  unfold topV
  rw [List.getD_eq_getElem?_getD,List.getElem?_map,List.getElem?_range om]
  exact ht _ om om
 have hX:∀i j:Int,0<=i->i<r.x1-r.x0->0<=j->j<r.y1-r.y0->itgX p (leftV own r) (topV own r) (atV own (r.x0-1) (r.y0-1)) r i j=RW p (r.x0+i+1) (r.y0+j+1):=fun i j h1 h2 h3 h4=>by
  unfold itgX
  rw [f0 _ om,h0 _ om,hc,RW_part om om]
  rw [show r.x0+((i.toNat+1:Nat):Int)=r.x0+i+1 by omega,show r.y0+((j.toNat+1:Nat):Int)=r.y0+j+1 by omega,show r.y0+(j.toNat:Int)+1=r.y0+j+1 by omega,show r.x0+(i.toNat:Int)+1=r.x0+i+1 by omega]
  omega
 have hA:=arN_eq hr
 have hix:∀k:Nat,k<areaN r->(0<=(k:Int)%(r.x1-r.x0)/\(k:Int)%(r.x1-r.x0)<r.x1-r.x0)/\0<=(k:Int)/(r.x1-r.x0)/\(k:Int)/(r.x1-r.x0)<r.y1-r.y0:=fun k hk=>by
  have h:=tile_ix (nx:=r.x1-r.x0) (ny:=r.y1-r.y0) (i:=(k:Int)) om om om
  exact ⟨h.1,h.2.1,h.2.2.1⟩
 have a0:∀a b:Int,a<=p.w->b<=p.h->decide (0<=RW p a b/\RW p a b<=mostV p.w p.h p.max_)=true:=fun a b h1 h2=>decide_eq_true (RW_bd hp h1 h2 hm)
 have d0:inM (mostV p.w p.h p.max_) (itgL p (leftV own r) (topV own r) (atV own (r.x0-1) (r.y0-1)) r)=true:=(by unfold inM itgL;rw [List.all_eq_true];intro z hz;obtain ⟨k,hk,rfl⟩:=grid_mem hz;have h:=hix k hk;rw [hX _ _ h.1.1 h.1.2 h.2.1 h.2.2];exact a0 _ _ om om)
 have b0:inM (mostV p.w p.h p.max_) (atV own (r.x0-1) (r.y0-1)::leftV own r++topV own r)=true:=by
  unfold inM
  rw [List.all_eq_true]
  intro z hz
  rcases List.mem_append.1 hz with hz|hz
  ·rcases List.mem_cons.1 hz with rfl|hz
   ·rw [hc];exact a0 _ _ om om
   · exact (by unfold leftV at hz;obtain ⟨j,hj,rfl⟩:=List.mem_map.1 hz;have:=List.mem_range.1 hj;rw [hl _ om om];exact a0 _ _ om om)
  · exact (by unfold topV at hz;obtain ⟨j,hj,rfl⟩:=List.mem_map.1 hz;have:=List.mem_range.1 hj;rw [ht _ om om];exact a0 _ _ om om)
 have c0:itgC p r (leftV own r) (topV own r) (atV own (r.x0-1) (r.y0-1))=0:=(by unfold itgC;rw [if_pos hp,if_pos hm,if_pos ⟨hr,om,om⟩,if_pos ⟨b0,d0⟩])
 have e:sumT p own r=(⟨r.x1-r.x0,r.y1-r.y0,mostV p.w p.h p.max_,itgL p (leftV own r) (topV own r) (atV own (r.x0-1) (r.y0-1)) r⟩,0):=(by unfold sumT itgT;rw [if_pos hr,okT_0 c0])
 rw [e]
 exact ⟨rfl,grid_len _ _ _,fun x y hi=>(by unfold inR2 at hi;have hg:=pixAt_grid (w:=r.x1-r.x0) (h:=r.y1-r.y0) (mx:=0) (f:=itgX p (leftV own r) (topV own r) (atV own (r.x0-1) (r.y0-1)) r) (n:=areaN r) hA (x:=x-r.x0) (y:=y-r.y0) om om;rw [hX _ _ om om om om,show r.x0+(x-r.x0)+1=x+1 by omega,show r.y0+(y-r.y0)+1=y+1 by omega] at hg;exact hg)⟩
theorem mk_at {w h mx:Int} {f:Int->Int->Int} (hw:1<=w/\1<=h) {x y:Int} (hx:0<=x/\x<w) (hy:0<=y/\y<h):pixAt (mkPl ⟨0,0,w,h⟩ mx f) x y=f x y:=by
  have hr:rIn ⟨0,0,w,h⟩ w h:=by unfold rIn;dsimp only;omega
  have hA:=arN_eq hr
  have h1:=pixAt_grid (w:=w-0) (h:=h-0) (mx:=mx) (f:=fun i j=>f (0+i) (0+j)) (n:=areaN ⟨0,0,w,h⟩) hA (x:=x) (y:=y) (by omega) (by omega)
  rw [Int.zero_add,Int.zero_add] at h1
  exact h1
theorem mk_len (r:Rct) (mx:Int) (f:Int->Int->Int):(mkPl r mx f).pix.length=areaN r:=by simp [mkPl,grid_len]
theorem ker_all {s:StageV} {p q:PlaneV} (hp:planeOK p=true) (hq:twoP s->planeOK q=true) (h:(ofV s (shpOf p) (shpOf q)).2=0) (hk:¬s.kind=4/\¬s.kind=5):
  ∃X:Int->Int->Int,(∀x y,0<=X x y/\X x y<=s.max_)/\(stgT s p q).1=mkPl ⟨0,0,(ofV s (shpOf p) (shpOf q)).1.w,(ofV s (shpOf p) (shpOf q)).1.h⟩ s.max_ X/\
   ∀r,rIn r (ofV s (shpOf p) (shpOf q)).1.w (ofV s (shpOf p) (shpOf q)).1.h->kerT s p q r=(mkPl r s.max_ X,0):=by
 have c0:=stg_ok hp hq h
 have hs:=(plane_sz hp).1;unfold sizeP at hs
 have hW:=(plane_sz c0.2.1).1;unfold sizeP at hW
 have hw:(stgT s p q).1.w=(ofV s (shpOf p) (shpOf q)).1.w:=congrArg Shape.w c0.2.2
 have hh:(stgT s p q).1.h=(ofV s (shpOf p) (shpOf q)).1.h:=congrArg Shape.h c0.2.2
 rw [hw,hh] at hW
 have a0:rIn ⟨0,0,(ofV s (shpOf p) (shpOf q)).1.w,(ofV s (shpOf p) (shpOf q)).1.h⟩ (ofV s (shpOf p) (shpOf q)).1.w (ofV s (shpOf p) (shpOf q)).1.h:=by unfold rIn;dsimp only;omega
 have e0:∃X:Int->Int->Int,(∀x y,0<=X x y/\X x y<=s.max_)/\∀r,rIn r (ofV s (shpOf p) (shpOf q)).1.w (ofV s (shpOf p) (shpOf q)).1.h->kerT s p q r=(mkPl r s.max_ X,0):=by
  clear c0 hw hh a0
  unfold ofV at h hW⊢
  split at h
  ·rename_i hf
   rw [if_pos hf] at hW⊢
   split at h
   ·rename_i hz
    rw [if_pos hz] at hW⊢
    split at h
    ·rename_i hed
     rw [if_pos hed] at hW⊢
     split at h
     ·rename_i hk0
      rw [if_pos hk0] at hW⊢
      have hE:s.kind=1\/s.kind=2\/s.kind=3->edgeV s.edgePolicy s.edgeFill p.max_:=fun h=>(hed.resolve_left (fun hn=>hn h))
      refine bD (s.kind=1) (fun h1=>(by have hv:kernelV s (shpOf p) (shpOf q)=(⟨p.w,p.h,s.max_⟩,convCode p.max_ s.kW s.kH s.weights s.shift s.max_):=(by unfold kernelV;rw [if_pos h1];rfl);rw [hv] at hk0 hW⊢;have ho:=(conv_ok hk0).2.2.2.2.1;exact ⟨convX p s.edgePolicy s.edgeFill s.kW s.kH s.weights s.shift s.max_,fun x y=>clamp_bd om,fun r hr=>(by unfold kerT;rw [if_pos h1];exact (conv_whole hp (hE (.inl h1)) hk0 hr (rIn_area hr hW.2.2.2.2.1)).1)⟩)) fun h1=>bD (s.kind=2) (fun h2=>(by have hv:kernelV s (shpOf p) (shpOf q)=(⟨p.w,p.h,s.max_⟩,sepCode p.max_ s.row s.col s.shift s.shift2 s.max_):=(by unfold kernelV;rw [if_neg h1,if_pos h2];rfl);rw [hv] at hk0 hW⊢;have ho:=(sep_ok hk0).2.2.1;exact ⟨sepX p s.edgePolicy s.edgeFill s.row s.col s.shift s.shift2 s.max_,fun x y=>clamp_bd om,fun r hr=>(by unfold kerT;rw [if_neg h1,if_pos h2];exact (sep_whole hp (hE (.inr (.inl h2))) hk0 hr (rIn_area hr hW.2.2.2.2.1)).1)⟩)) fun h2=>bD (s.kind=3) (fun h3=>(by have hv:kernelV s (shpOf p) (shpOf q)=(⟨s.x.length,s.y.length,s.max_⟩,resCode p.w p.h p.max_ s.x s.y s.shift s.shift2 s.max_):=(by unfold kernelV;rw [if_neg h1,if_neg h2,if_pos h3];rfl);rw [hv] at hk0 hW⊢;have ho:=(res_ok hk0).2.2.2.2.1;exact ⟨resX p s.edgePolicy s.edgeFill s.x s.y s.shift s.shift2 s.max_,fun x y=>clamp_bd om,fun r hr=>(by unfold kerT;rw [if_neg h1,if_neg h2,if_pos h3];exact (res_whole hp (hE (.inr (.inr h3))) hk0 hr (rIn_area hr hW.2.2.2.2.1)).1)⟩)) fun h3=>?_
      by_cases b0:pwCode s.ops (decide (twoP s)) p.max_ q.max_ s.max_=0
      ·by_cases d0:twoP s/\¬(p.w=q.w/\p.h=q.h)
       · exact (by have hv:(kernelV s (shpOf p) (shpOf q)).2=8:=(by unfold kernelV;rw [if_neg h1,if_neg h2,if_neg h3,if_neg hk.1,if_neg hk.2,if_pos (show pwCode s.ops (decide (s.kind=6/\¬s.b=-1)) (shpOf p).max_ (shpOf q).max_ s.max_=0 from b0),if_pos (show (s.kind=6/\¬s.b=-1)/\¬((shpOf p).w=(shpOf q).w/\(shpOf p).h=(shpOf q).h) from d0)]);omega)
       · exact (by have hv:kernelV s (shpOf p) (shpOf q)=(⟨p.w,p.h,s.max_⟩,0):=(by unfold kernelV;rw [if_neg h1,if_neg h2,if_neg h3,if_neg hk.1,if_neg hk.2,if_pos (show pwCode s.ops (decide (s.kind=6/\¬s.b=-1)) (shpOf p).max_ (shpOf q).max_ s.max_=0 from b0),if_neg (show ¬((s.kind=6/\¬s.b=-1)/\¬((shpOf p).w=(shpOf q).w/\(shpOf p).h=(shpOf q).h)) from d0)];rfl);rw [hv] at hW⊢;have ho:=opsCode_out b0;exact ⟨pwX p q (decide (twoP s)) s.ops s.max_,fun x y=>clamp_bd om,fun r hr=>(by unfold kerT;rw [if_neg h1,if_neg h2,if_neg h3];exact (pw_whole hp (fun h=>hq (of_decide_eq_true h)) b0 (fun h=>Classical.not_not.1 (fun hn=>d0 ⟨of_decide_eq_true h,hn⟩)) hr (rIn_area hr hW.2.2.2.2.1)).1)⟩)
      · exact (by have hv:(kernelV s (shpOf p) (shpOf q)).2=pwCode s.ops (decide (twoP s)) p.max_ q.max_ s.max_:=(by unfold kernelV;rw [if_neg h1,if_neg h2,if_neg h3,if_neg hk.1,if_neg hk.2,if_neg (show ¬pwCode s.ops (decide (s.kind=6/\¬s.b=-1)) (shpOf p).max_ (shpOf q).max_ s.max_=0 from b0)];rfl);exact absurd (hv.symm.trans hk0) b0)
     ·omega
    ·omega
   ·omega
  ·omega
 obtain ⟨X,hX,hr⟩:=e0
 exact ⟨X,hX,(by have e:=hr _ a0;have es:(stgT s p q).1=(kerT s p q ⟨0,0,(ofV s (shpOf p) (shpOf q)).1.w,(ofV s (shpOf p) (shpOf q)).1.h⟩).1:=(by unfold stgT kerT;rw [if_pos ⟨hp,hq⟩,if_pos h,if_neg hk.1,if_neg hk.2]);rw [es,e]),hr⟩
theorem ker_tile {s:StageV} {p q:PlaneV} {r:Rct} (hp:planeOK p=true) (hq:twoP s->planeOK q=true) (h:(ofV s (shpOf p) (shpOf q)).2=0) (hk:¬s.kind=4/\¬s.kind=5) (hr:rIn r (stgT s p q).1.w (stgT s p q).1.h):
  (kerT s p q r).2=0/\(kerT s p q r).1.pix.length=areaN r/\∀x y,inR2 r x y->(kerT s p q r).1.pix.getD ((y-r.y0)*(r.x1-r.x0)+(x-r.x0)).toNat 0=pixAt (stgT s p q).1 x y:=by
 obtain ⟨X,_,hW,ha⟩:=ker_all hp hq h hk
 have a0:=stg_ok hp hq h
 have hw:(stgT s p q).1.w=(ofV s (shpOf p) (shpOf q)).1.w:=congrArg Shape.w a0.2.2
 have hh:(stgT s p q).1.h=(ofV s (shpOf p) (shpOf q)).1.h:=congrArg Shape.h a0.2.2
 rw [hw,hh] at hr
 have b0:=hr;unfold rIn at b0
 rw [ha r hr,hW]
 exact ⟨rfl,mk_len r s.max_ X,fun x y hi=>(by dsimp only;rw [mk_get hr hi,mk_at om (by unfold inR2 at hi;omega) (by unfold inR2 at hi;omega)])⟩
theorem AsmP.ok {W own:PlaneV} {nx tw th i:Int} (h:AsmP W own nx tw th i) (hW:planeOK W=true):planeOK own=true:=by
 have e1:own.w=W.w:=congrArg Shape.w h.shp
 have e2:own.h=W.h:=congrArg Shape.h h.shp
 have e3:own.max_=W.max_:=congrArg Shape.max_ h.shp
 have hs:=(plane_sz hW).1
 have b0:=hs;unfold sizeP at b0
 refine plane_mk (by rw [e1,e2,e3];exact hs) h.len (fun z hz=>?_)
 obtain ⟨n,hn⟩:=List.getElem?_of_mem hz
 have hl:n<own.pix.length:=(List.getElem?_eq_some_iff.1 hn).1
 have a0:=h.len
 rw [e1,e2] at a0
 have hix:=tile_ix (nx:=W.w) (ny:=W.h) (i:=(n:Int)) om om om
 have hp:=h.pix ((n:Int)%W.w) ((n:Int)/W.w) hix.1 ⟨hix.2.1,hix.2.2.1⟩
 have c0:pixAt own ((n:Int)%W.w) ((n:Int)/W.w)=z:=(by unfold pixAt;rw [e1,show ((n:Int)/W.w*W.w+(n:Int)%W.w).toNat=n by omega,List.getD_eq_getElem?_getD,hn];rfl)
 rw [c0] at hp
 rw [e3,hp]
 split
 ·exact pixAt_bd hW _ _
 ·omega
theorem ediv_eq {a b c:Int} (hb:0<b) (h1:c*b<=a) (h2:a<c*b+b):a/b=c:=by
  have l1:c<=a/b:=(Int.le_ediv_iff_mul_le hb).2 h1
  have l2:a/b<c+1:=Int.ediv_lt_of_lt_mul hb (by rw [Int.add_mul,Int.one_mul];omega)
  omega
theorem asm_at {p own:PlaneV} {nx tw th i:Int} (hp:planeOK p=true) (hm:mostOK p.w p.h p.max_=true) (h:AsmP (itgW p).1 own nx tw th i) {x y:Int} (hx:x<p.w) (hy:y<p.h) (ht:x<0\/y<0\/tixV nx tw th x y<i):
  atV own x y=RW p (x+1) (y+1):=by
 have hw:=itg_whole hp hm
 have e1:own.w=p.w:=(congrArg Shape.w h.shp).trans (congrArg Shape.w hw.2.2)
 have e2:own.h=p.h:=(congrArg Shape.h h.shp).trans (congrArg Shape.h hw.2.2)
 have e3:(itgW p).1.w=p.w:=congrArg Shape.w hw.2.2
 have e4:(itgW p).1.h=p.h:=congrArg Shape.h hw.2.2
 unfold atV
 by_cases hn:x<0\/y<0
 ·rw [if_pos om,RW_0 om]
 ·rw [if_neg om,h.pix x y om om,if_pos om,itg_at hp om om hm]
theorem asm_beside {p own:PlaneV} {tw th i:Int} (hp:planeOK p=true) (hm:mostOK p.w p.h p.max_=true) (hf:fineP p.w p.h tw th) (h:AsmP (itgW p).1 own (colsN p.w p.h tw th) tw th i) (hi:0<=i/\i<colsN p.w p.h tw th*rowsN p.w p.h tw th):
  rIn (tileV p.w p.h tw th i) p.w p.h/\(∀y,(tileV p.w p.h tw th i).y0<=y->y<(tileV p.w p.h tw th i).y1->atV own ((tileV p.w p.h tw th i).x0-1) y=RW p (tileV p.w p.h tw th i).x0 (y+1))/\
   (∀x,(tileV p.w p.h tw th i).x0<=x->x<(tileV p.w p.h tw th i).x1->atV own x ((tileV p.w p.h tw th i).y0-1)=RW p (x+1) (tileV p.w p.h tw th i).y0)/\atV own ((tileV p.w p.h tw th i).x0-1) ((tileV p.w p.h tw th i).y0-1)=RW p (tileV p.w p.h tw th i).x0 (tileV p.w p.h tw th i).y0:=by
 have hb:=cols_bd hf
 have hix:=tile_ix hb.1.1 hi.1 hi.2
 have f0:=tile_in hf hi.1 hi.2
 have a0:=f0.1
 unfold inP at a0
 have k0:=hf
 unfold fineP at k0
 obtain ⟨nx,j0⟩:∃z,z=colsN p.w p.h tw th:=⟨_,rfl⟩
 obtain ⟨cx,c0⟩:∃z,z=i%colsN p.w p.h tw th:=⟨_,rfl⟩
 obtain ⟨cy,d0⟩:∃z,z=i/colsN p.w p.h tw th:=⟨_,rfl⟩
 obtain ⟨r,hr⟩:∃z,z=tileV p.w p.h tw th i:=⟨_,rfl⟩
 have l0:r.x0=cx*tw:=by rw [hr,c0];rfl
 have n0:r.y0=cy*th:=by rw [hr,d0];rfl
 have m0:r.x1<=cx*tw+tw:=by rw [hr,c0];exact Int.min_le_left _ _
 have o0:r.y1<=cy*th+th:=by rw [hr,d0];exact Int.min_le_left _ _
 rw [<-hr] at f0 a0⊢
 rw [<-j0] at h
 rw [<-c0,<-d0,<-j0] at hix
 have e0:∀y,r.y0<=y->y<r.y1->y/th=cy:=fun y h1 h2=>ediv_eq om om om
 have b0:∀x,r.x0<=x->x<r.x1->x/tw=cx:=fun x h1 h2=>ediv_eq om om om
 have g0:0<r.x0->(r.x0-1)/tw=cx-1:=fun h0=>ediv_eq om (by rw [Int.sub_mul,Int.one_mul];omega) (by rw [Int.sub_mul,Int.one_mul];omega)
 have i0:0<r.y0->(r.y0-1)/th=cy-1:=fun h0=>ediv_eq om (by rw [Int.sub_mul,Int.one_mul];omega) (by rw [Int.sub_mul,Int.one_mul];omega)
 refine ⟨by unfold rIn;omega,fun y h1 h2=>?_,fun x h1 h2=>?_,?_⟩
 ·have e:=asm_at hp hm h (x:=r.x0-1) (y:=y) om om (by
   by_cases h0:0<r.x0
   ·exact .inr (.inr (by unfold tixV;rw [e0 y h1 h2,g0 h0];omega))
   ·exact .inl om)
  rw [e,show r.x0-1+1=r.x0 by omega]
 ·have e:=asm_at hp hm h (x:=x) (y:=r.y0-1) om om (by
   by_cases h0:0<r.y0
   ·exact .inr (.inr (by unfold tixV;rw [b0 x h1 h2,i0 h0,Int.sub_mul,Int.one_mul];omega))
   ·exact .inr (.inl om))
  rw [e,show r.y0-1+1=r.y0 by omega]
 ·have e:=asm_at hp hm h (x:=r.x0-1) (y:=r.y0-1) om om (by
   by_cases h0:0<r.x0
   ·by_cases h3:0<r.y0
    ·exact .inr (.inr (by unfold tixV;rw [g0 h0,i0 h3,Int.sub_mul,Int.one_mul];omega))
    ·exact .inr (.inl om)
   ·exact .inl om)
  rw [e,show r.x0-1+1=r.x0 by omega,show r.y0-1+1=r.y0 by omega]
theorem asm_step {s:StageV} {p q own:PlaneV} {tw th i:Int} (hp:planeOK p=true) (hq:twoP s->planeOK q=true) (h:(ofV s (shpOf p) (shpOf q)).2=0) (hk:¬s.kind=4) (hf:fineP (stgT s p q).1.w (stgT s p q).1.h tw th)
  (ha:AsmP (stgT s p q).1 own (colsN (stgT s p q).1.w (stgT s p q).1.h tw th) tw th i) (hi:0<=i/\i<colsN (stgT s p q).1.w (stgT s p q).1.h tw th*rowsN (stgT s p q).1.w (stgT s p q).1.h tw th):
  (tilT s p q own (tileV (stgT s p q).1.w (stgT s p q).1.h tw th i)).2=0/\putC own 0 (tileV (stgT s p q).1.w (stgT s p q).1.h tw th i) (tilT s p q own (tileV (stgT s p q).1.w (stgT s p q).1.h tw th i)).1.pix=0/\
   AsmP (stgT s p q).1 (putT own 0 (tileV (stgT s p q).1.w (stgT s p q).1.h tw th i) (tilT s p q own (tileV (stgT s p q).1.w (stgT s p q).1.h tw th i)).1.pix).1 (colsN (stgT s p q).1.w (stgT s p q).1.h tw th) tw th (i+1):=by
 have g0:=stg_ok hp hq h
 obtain ⟨r,hr⟩:∃z,z=tileV (stgT s p q).1.w (stgT s p q).1.h tw th i:=⟨_,rfl⟩
 obtain ⟨W,hW⟩:∃z,z=(stgT s p q).1:=⟨_,rfl⟩
 have e0:=tile_in hf hi.1 hi.2
 have a0:=e0.1
 unfold inP at a0
 rw [<-hW] at hf ha hi e0 a0 hr g0⊢
 rw [<-hr] at e0 a0⊢
 have d0:rIn r W.w W.h:=by unfold rIn;omega
 have b0:(tilT s p q own r).2=0/\(tilT s p q own r).1.pix.length=areaN r/\∀x y,inR2 r x y->(tilT s p q own r).1.pix.getD ((y-r.y0)*(r.x1-r.x0)+(x-r.x0)).toNat 0=pixAt W x y:=by
  unfold tilT
  by_cases h5:s.kind=5
  ·rw [if_pos h5]
   have hm:mostOK p.w p.h p.max_=true:=by
    by_cases hm:mostOK p.w p.h p.max_=true
    ·exact hm
    ·exfalso
     have hv:(kernelV s (shpOf p) (shpOf q)).2=11:=by unfold kernelV;rw [if_neg om,if_neg om,if_neg om,if_neg hk,if_pos h5,if_neg (show ¬mostOK (shpOf p).w (shpOf p).h (shpOf p).max_=true from hm)]
     unfold ofV at h
     split at h
     ·split at h
      ·split at h
       ·split at h
        ·omega
        ·rename_i hn;exact hn h
       ·omega
      ·omega
     ·omega
   have eW:W=(itgW p).1:=by rw [hW];unfold stgT;rw [if_pos ⟨hp,hq⟩,if_pos h,if_neg hk,if_pos h5]
   have hw:=itg_whole hp hm
   have e3:W.w=p.w:=by rw [eW];exact congrArg Shape.w hw.2.2
   have e4:W.h=p.h:=by rw [eW];exact congrArg Shape.h hw.2.2
   rw [e3,e4] at hf ha hi hr d0
   rw [eW] at ha
   have c0:=asm_beside hp hm hf ha hi
   rw [<-hr] at c0
   have ht:=itg_tile hp hm c0.1 c0.2.1 c0.2.2.1 c0.2.2.2
   exact ⟨ht.1,ht.2.1,fun x y h0=>(by rw [ht.2.2 x y h0,eW,itg_at hp (by unfold inR2 at h0;omega) (by unfold inR2 at h0;omega) hm])⟩
  · exact (by rw [if_neg h5];rw [hW] at d0⊢;exact ker_tile hp hq h ⟨hk,h5⟩ d0)
 have e1:own.w=W.w:=congrArg Shape.w ha.shp
 have e2:own.h=W.h:=congrArg Shape.h ha.shp
 have e3:own.max_=W.max_:=congrArg Shape.max_ ha.shp
 have hA:=arN_eq d0
 have f0:inM own.max_ (tilT s p q own r).1.pix=true:=(by unfold inM;rw [List.all_eq_true];intro z hz;obtain ⟨n,hn⟩:=List.getElem?_of_mem hz;have hl:n<areaN r:=(by rw [<-b0.2.1];exact (List.getElem?_eq_some_iff.1 hn).1);have hix:=tile_ix (nx:=r.x1-r.x0) (ny:=r.y1-r.y0) (i:=(n:Int)) om om om;have hg:=b0.2.2 (r.x0+(n:Int)%(r.x1-r.x0)) (r.y0+(n:Int)/(r.x1-r.x0)) (by unfold inR2;omega);rw [show r.y0+(n:Int)/(r.x1-r.x0)-r.y0=(n:Int)/(r.x1-r.x0) by omega,show r.x0+(n:Int)%(r.x1-r.x0)-r.x0=(n:Int)%(r.x1-r.x0) by omega,<-hix.2.2.2,show (n:Int).toNat=n by omega,List.getD_eq_getElem?_getD,hn] at hg;have hb:=pixAt_bd g0.2.1 (r.x0+(n:Int)%(r.x1-r.x0)) (r.y0+(n:Int)/(r.x1-r.x0));rw [<-hg] at hb;rw [e3];exact decide_eq_true hb)
 have i0:putC own 0 r (tilT s p q own r).1.pix=0:=(by unfold putC;rw [if_pos ⟨ha.ok g0.2.1, .inl rfl⟩,if_pos ⟨by rw [e1,e2];exact d0,by rw [b0.2.1,hA]⟩,if_pos f0])
 exact ⟨b0.1,i0,(by unfold putT;rw [okT_0 i0];rw [hr] at b0⊢;exact ha.put hf hi b0.2.2)⟩
theorem getD_ext {a b:List Int} (hl:a.length=b.length) (h:∀k,k<a.length->a.getD k 0=b.getD k 0):a=b:=by
  apply List.ext_getElem?
  intro k
  by_cases hk:k<a.length
  · have e:=h k hk
    rw [List.getD_eq_getElem?_getD,List.getD_eq_getElem?_getD,List.getElem?_eq_getElem hk,List.getElem?_eq_getElem (by omega)] at e
    rw [List.getElem?_eq_getElem hk,List.getElem?_eq_getElem (by omega)]
    exact congrArg some e
  · rw [List.getElem?_eq_none (by omega),List.getElem?_eq_none (by omega)]
theorem need_hit {s:StageV} {n a b size k l m:Int} {t:List TapV} (hl:lenP n a b) (ha:accV s) (hk:a<=k/\k<b) (h0:0<=l/\l<winC s.kind k size t) (h:idxV (winF s.kind k size t+l) n (polV s)=some m):m∈needV s n a b size t:=by
  have hm:=idx_bd h
  unfold needV
  rw [if_pos ⟨hl,ha⟩,List.mem_filter]
  exact ⟨mem_upto.2 ⟨hm.1,by omega⟩,(by unfold needB;rw [List.any_eq_true];exact ⟨(k-a).toNat,List.mem_range.2 (by omega),(by rw [show a+(((k-a).toNat:Nat):Int)=k by omega];unfold hitB;rw [List.any_eq_true];exact ⟨l.toNat,List.mem_range.2 (by omega),decide_eq_true (by rw [show (l.toNat:Int)=l by omega];exact h)⟩)⟩)⟩
theorem pixV_agr {p p':PlaneV} {pol fill x y:Int} (hw:p'.w=p.w) (hh:p'.h=p.h) (h:∀c d,idxV x p.w pol=some c->idxV y p.h pol=some d->pixAt p c d=pixAt p' c d):pixV p pol fill x y=pixV p' pol fill x y:=by
  unfold pixV
  rw [hw,hh]
  cases h1:idxV x p.w pol with
  |none=>rfl
  |some c=>
    cases h2:idxV y p.h pol with
    |none=>rfl
    |some d=>
      have e:=h c d h1 h2
      unfold pixAt at e
      rw [hw] at e
      exact e
theorem mk_congr {r:Rct} {w h mx:Int} {f g:Int->Int->Int} (hr:rIn r w h) (e:∀x y,inR2 r x y->f x y=g x y):mkPl r mx f=mkPl r mx g:=by
  have hA:=arN_eq hr
  unfold rIn at hr
  unfold mkPl
  rw [grid_congr (w:=r.x1-r.x0) (n:=areaN r) (f:=fun i j=>f (r.x0+i) (r.y0+j)) (g:=fun i j=>g (r.x0+i) (r.y0+j)) (fun k hk=>by
    have h:=tile_ix (nx:=r.x1-r.x0) (ny:=r.y1-r.y0) (i:=(k:Int)) (by omega) (by omega) (by omega)
    exact e _ _ (by unfold inR2;omega))]
def AgrP (s:StageV) (p p':PlaneV) (r:Rct):Prop:=∀c∈colsV s p.w r.x0 r.x1,∀d∈rowsV s p.h r.y0 r.y1,pixAt p c d=pixAt p' c d
theorem cols_hit {s:StageV} {w a b k l m:Int} (hl:lenP w a b) (ha:accV s) (hk:a<=k/\k<b) (h0:0<=l/\l<winC s.kind k (if s.kind=2 then (s.row.length:Int) else s.kW) s.x) (h:idxV (winF s.kind k (if s.kind=2 then (s.row.length:Int) else s.kW) s.x+l) w (polV s)=some m):m∈colsV s w a b:=need_hit hl ha hk h0 h
theorem rows_hit {s:StageV} {n a b k l m:Int} (hl:lenP n a b) (ha:accV s) (hk:a<=k/\k<b) (h0:0<=l/\l<winC s.kind k (if s.kind=2 then (s.col.length:Int) else s.kH) s.y) (h:idxV (winF s.kind k (if s.kind=2 then (s.col.length:Int) else s.kH) s.y+l) n (polV s)=some m):m∈rowsV s n a b:=need_hit hl ha hk h0 h
section
variable {s:StageV} {p p':PlaneV} {r:Rct} (hw:p'.w=p.w) (hh:p'.h=p.h) (ha:accV s) (hx:lenP p.w r.x0 r.x1) (hy:lenP p.h r.y0 r.y1) (hg:AgrP s p p' r)
include hw hh ha hx hy hg
theorem conv_agr (hk:s.kind=1) (hl:(s.weights.length:Int)=s.kW*s.kH) (hkw:1<=s.kW) {x y:Int} (hi:inR2 r x y):convX p s.edgePolicy s.edgeFill s.kW s.kH s.weights s.shift s.max_ x y=convX p' s.edgePolicy s.edgeFill s.kW s.kH s.weights s.shift s.max_ x y:=by
 unfold inR2 at hi
 have a0:polV s=s.edgePolicy:=by unfold polV;rw [if_neg om]
 have e:convS p s.edgePolicy s.edgeFill s.kW s.kH s.weights x y s.weights.length=convS p' s.edgePolicy s.edgeFill s.kW s.kH s.weights x y s.weights.length:=by
  unfold convS
  refine sumN_congr _ (fun k b0=>?_)
  have hix:=tile_ix (nx:=s.kW) (ny:=s.kH) (i:=(k:Int)) hkw om om
  unfold convF
  rw [pixV_agr hw hh (fun c d h1 h2=>hg c (cols_hit hx ha hi.1 (l:=(k:Int)%s.kW) (by unfold winC;rw [if_pos (.inl hk),if_neg om];omega) (by
    rw [a0,if_neg om];unfold winF;rw [if_pos (.inl hk)];rw [show x-s.kW/2+(k:Int)%s.kW=x+(k:Int)%s.kW-s.kW/2 by omega];exact h1)) d (rows_hit hy ha hi.2 (l:=(k:Int)/s.kW) (by unfold winC;rw [if_pos (.inl hk),if_neg om];omega) (by
    rw [a0,if_neg om];unfold winF;rw [if_pos (.inl hk)];rw [show y-s.kH/2+(k:Int)/s.kW=y+(k:Int)/s.kW-s.kH/2 by omega];exact h2)))]
 unfold convX;rw [e]
theorem sep_agr (hk:s.kind=2) {x y:Int} (hi:inR2 r x y):sepX p s.edgePolicy s.edgeFill s.row s.col s.shift s.shift2 s.max_ x y=sepX p' s.edgePolicy s.edgeFill s.row s.col s.shift s.shift2 s.max_ x y:=by
 unfold inR2 at hi
 have a0:polV s=s.edgePolicy:=by unfold polV;rw [if_neg om]
 have e:sepS p s.edgePolicy s.edgeFill s.row s.col s.shift x y s.col.length=sepS p' s.edgePolicy s.edgeFill s.row s.col s.shift x y s.col.length:=by
  unfold sepS
  refine sumN_congr _ (fun j hj=>?_)
  have e2:midS p s.edgePolicy s.edgeFill s.row x (y+(j:Int)-(s.col.length:Int)/2) s.row.length=midS p' s.edgePolicy s.edgeFill s.row x (y+(j:Int)-(s.col.length:Int)/2) s.row.length:=by
   unfold midS
   refine sumN_congr _ (fun k b0=>?_)
   unfold midF
   rw [pixV_agr hw hh (fun c d h1 h2=>hg c (cols_hit hx ha hi.1 (l:=(k:Int)) (by unfold winC;rw [if_pos (.inr hk),if_pos hk];omega) (by
     rw [a0,if_pos hk];unfold winF;rw [if_pos (.inr hk)];rw [show x-(s.row.length:Int)/2+(k:Int)=x+(k:Int)-(s.row.length:Int)/2 by omega];exact h1)) d (rows_hit hy ha hi.2 (l:=(j:Int)) (by unfold winC;rw [if_pos (.inr hk),if_pos hk];omega) (by
     rw [a0,if_pos hk];unfold winF;rw [if_pos (.inr hk)];rw [show y-(s.col.length:Int)/2+(j:Int)=y+(j:Int)-(s.col.length:Int)/2 by omega];exact h2)))]
  unfold midV;rw [e2]
 unfold sepX;rw [e]
theorem res_agr (hk:s.kind=3) {x y:Int} (hi:inR2 r x y) (h0:0<=r.x0/\0<=r.y0) (hb:r.x1<=s.x.length/\r.y1<=s.y.length):resX p s.edgePolicy s.edgeFill s.x s.y s.shift s.shift2 s.max_ x y=resX p' s.edgePolicy s.edgeFill s.x s.y s.shift s.shift2 s.max_ x y:=by
 unfold inR2 at hi
 have b0:polV s=s.edgePolicy:=by unfold polV;rw [if_neg om]
 have hn:¬(s.kind=1\/s.kind=2):=by omega
 have c0:∀(l:List TapV) (k a0:Int),0<=k->k<l.length->winF s.kind k a0 l=(tapAt l k).first/\winC s.kind k a0 l=((tapAt l k).weights.length:Int):=fun l k a0 h1 h2=>by
  have e:l[k.toNat]?=some (l[k.toNat]'om):=List.getElem?_eq_getElem om
  unfold winF winC tapAt
  rw [if_neg hn,if_neg hn,if_pos hk,if_pos hk,e]
  exact ⟨rfl,rfl⟩
 have e:resS p s.edgePolicy s.edgeFill (tapAt s.x x) (tapAt s.y y) s.shift (tapAt s.y y).weights.length=resS p' s.edgePolicy s.edgeFill (tapAt s.x x) (tapAt s.y y) s.shift (tapAt s.y y).weights.length:=(by unfold resS;refine sumN_congr _ (fun j hj=>?_);have e2:tapS p s.edgePolicy s.edgeFill (tapAt s.x x) ((tapAt s.y y).first+(j:Int)) (tapAt s.x x).weights.length=tapS p' s.edgePolicy s.edgeFill (tapAt s.x x) ((tapAt s.y y).first+(j:Int)) (tapAt s.x x).weights.length:=(by unfold tapS;refine sumN_congr _ (fun k f0=>?_);have d0:=c0 s.x x (if s.kind=2 then (s.row.length:Int) else s.kW) om om;have e0:=c0 s.y y (if s.kind=2 then (s.col.length:Int) else s.kH) om om;rw [pixV_agr hw hh (fun c d h1 h2=>hg c (cols_hit hx ha hi.1 (l:=(k:Int)) (by rw [d0.2];omega) (by rw [b0,d0.1];exact h1)) d (rows_hit hy ha hi.2 (l:=(j:Int)) (by rw [e0.2];omega) (by rw [b0,e0.1];exact h2)))]);unfold tapV;rw [e2])
 unfold resX;rw [e]
theorem own_agr (hk:3<s.kind) (hr:rIn r p.w p.h) {x y:Int} (hi:inR2 r x y):pixAt p x y=pixAt p' x y:=by
 unfold inR2 at hi
 unfold rIn at hr
 have d0:polV s=3:=by unfold polV;rw [if_pos hk]
 have hn:¬(s.kind=1\/s.kind=2):=by omega
 have a0:∀(l:List TapV) (k b0:Int),winF s.kind k b0 l=k/\winC s.kind k b0 l=1:=fun l k b0=>by
  unfold winF winC
  rw [if_neg hn,if_neg hn,if_neg om,if_neg om]
  exact ⟨rfl,rfl⟩
 have c0:∀k n:Int,1<=n/\n<=128->0<=k/\k<n->idxV (k+0) n 3=some k:=fun k n h1 h2=>by rw [Int.add_zero];exact idx_in h1 om h2
 unfold lenP at hx hy
 exact hg x (cols_hit (by unfold lenP;exact hx) ha hi.1 (l:=0) (by rw [(a0 _ _ _).2];omega) (by rw [d0,(a0 _ _ _).1];exact c0 _ _ hx.1 om)) y (rows_hit (by unfold lenP;exact hy) ha hi.2 (l:=0) (by rw [(a0 _ _ _).2];omega) (by rw [d0,(a0 _ _ _).1];exact c0 _ _ hy.1 om))
end
end Go.Proofs.YtghcddbhllkbmaaGreat
