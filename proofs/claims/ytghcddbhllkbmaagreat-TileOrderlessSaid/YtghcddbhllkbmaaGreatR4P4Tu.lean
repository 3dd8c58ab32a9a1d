import Derived.Test.YtghcddbhllkbmaaGreatR4P4CkP
namespace Go.Proofs.YtghcddbhllkbmaaGreat
open Go Go.E Go.Proofs.Tryz
set_option linter.all false
set_option maxRecDepth 100000
set_option maxHeartbeats 2000000
variable {W w:World} {H:Chunk} {F:List Chunk}
section
variable {P:Program} {n:Nat} {ρ:Env} {w:World} {ops:Array Oper} {rest:List Oper} {N:Env->World->Prop} {o:Oper}
theorem sQuoN (a b:Int) {t u:TypeId} {x y:Operand} (h:OpsE P n ops rest N (put ρ o.dst (.int .i64 (a.tdiv b))) w) (hb:¬b=0:=by omega) (hq:-9223372036854775808<=a.tdiv b/\a.tdiv b<=9223372036854775807:=by omega)
    (ho:o.op= .binOp .quo t x y u:=by rfl) (hg:o.guard=none:=by rfl) (hd:dstOK n o.dst=true:=by rfl) (hx:ev ρ x= .int .i64 a:=by kernel_rfl) (hy:ev ρ y= .int .i64 b:=by kernel_rfl):
    OpsE P n ops (o::rest) N ρ w:=stepY _ hg hd (Y_arith ho hx hy (by simp [binOp,Op.intDiv,hb,wrap_i64 hq])) h
end
theorem rn_push {a b z:Int} {o:POp} {l:List POp} {st:List Int} (hc:0<=o.code/\o.code<=2) (hz:appV o 0 0 a b=z) (hz2:accP z):rnGo a b (o::l) st=rnGo a b l (st++[z]):=by
  have t0:takesV o.code=0:=by unfold takesV;rw [if_pos (by omega)]
  have h1:stX o st=0:=by unfold stX;rw [if_neg (by omega)]
  have h2:stY o st=0:=by unfold stY;rw [if_neg (by omega)]
  rw [rnGo,h1,h2,if_pos ⟨fun h=>by omega,by rw [hz];exact hz2⟩,hz,t0]
  congr 1
  rw [show st.length-(0:Int).toNat=st.length from rfl,List.take_length]
theorem app_ab {o:POp} {x y a b c d:Int} (h:3<=o.code):appV o x y a b=appV o x y c d:=by
  have h0:¬o.code=0:=(by omega);have h1:¬o.code=1:=(by omega);have h2:¬o.code=2:=(by omega)
  simp only [appV,h0,h1,h2,if_false]
theorem app_y {o:POp} {x y z a b:Int} (h:10<=o.code):appV o x y a b=appV o x z a b:=by
  have h0:¬o.code=0:=(by omega);have h1:¬o.code=1:=(by omega);have h2:¬o.code=2:=(by omega);have h3:¬o.code=3:=(by omega);have h4:¬o.code=4:=(by omega);have h5:¬o.code=5:=(by omega);have h6:¬o.code=6:=(by omega);have h7:¬o.code=7:=(by omega);have h8:¬o.code=8:=(by omega);have h9:¬o.code=9:=(by omega)
  simp only [appV,h0,h1,h2,h3,h4,h5,h6,h7,h8,h9,if_false]
theorem rn_xy {o:POp} {st:List Int} {x y a b:Int} (hc:3<=o.code/\o.code<=11) (hx:st[st.length-(takesV o.code).toNat]?=some x) (hy:st[st.length-1]?=some y):
  stX o st=x/\appV o x (stY o st) a b=appV o x y 0 0/\(appOK o x (stY o st) a b↔appOK o x y 0 0):=by
 have h1:stX o st=x:=by unfold stX;rw [if_pos (by unfold takesV;split;omega;split<;>omega),List.getD_eq_getElem?_getD,hx];rfl
 by_cases h:10<=o.code
 · exact (by have h2:appV o x (stY o st) a b=appV o x y 0 0:=(app_ab om).trans (app_y h);exact ⟨h1,h2,by unfold appOK;rw [h2];exact and_congr_left (fun _=>⟨fun _ h5=>by omega,fun _ h5=>by omega⟩)⟩)
 · exact (by have e:stY o st=y:=(by unfold stY;rw [if_pos (by unfold takesV;rw [if_neg om,if_neg om]),List.getD_eq_getElem?_getD,hy];rfl);have h2:appV o x (stY o st) a b=appV o x y 0 0:=(by rw [e];exact app_ab om);exact ⟨h1,h2,by unfold appOK;rw [h2,e]⟩)
theorem rn_op {a b:Int} {o:POp} {l:List POp} {st m:List Int} {x y:Int} (hc:3<=o.code/\o.code<=11) (hx:st[st.length-(takesV o.code).toNat]?=some x) (hy:st[st.length-1]?=some y) (hok:appOK o x y 0 0) (hm:m=st.take (st.length-(takesV o.code).toNat)):
    rnGo a b (o::l) st=rnGo a b l (m++[appV o x y 0 0]):=by
  obtain ⟨h1,h2,h3⟩:=rn_xy (a:=a) (b:=b) hc hx hy
  subst hm
  rw [rnGo,h1,h2,if_pos (h3.2 hok)]
theorem rn_no {a b:Int} {o:POp} {l:List POp} {st:List Int} {x y:Int} (hc:3<=o.code/\o.code<=11) (hx:st[st.length-(takesV o.code).toNat]?=some x) (hy:st[st.length-1]?=some y) (hok:¬appOK o x y 0 0):rnGo a b (o::l) st=none:=by
  obtain ⟨h1,h2,h3⟩:=rn_xy (a:=a) (b:=b) hc hx hy
  rw [rnGo,h1,if_neg (fun k=>hok (h3.1 k))]
theorem app_acc {o:POp} {x y:Int} (h:appOK o x y 0 0):accP (appV o x y 0 0):=h.2
theorem fdiv_t {x y:Int} (hy:¬y=0):x.fdiv y=if ¬x.tmod y=0/\¬(x<0↔y<0) then x.tdiv y-1 else x.tdiv y:=by
 have h1:=Int.mul_tdiv_add_tmod x y
 have h2:=Int.mul_fdiv_add_fmod x y
 have hr:(x.tmod y).natAbs<y.natAbs:=by rw [Int.natAbs_tmod];exact Nat.mod_lt _ om
 have hs:(0<=x->0<=x.tmod y)/\(x<=0->x.tmod y<=0):=⟨fun h=>Int.tmod_nonneg y h,fun h=>by have:=Int.tmod_nonneg y (show 0<=-x by omega);rw [Int.neg_tmod] at this;omega⟩
 have a0:∀q r q2 r2:Int,y*q+r=y*q2+r2->(r-r2).natAbs<y.natAbs->q=q2:=by
  intro q r q2 r2 h h3
  by_cases he:q=q2
  ·exact he
  · exact (by exfalso;have h4:y*(q2-q)=r-r2:=(by rw [Int.mul_sub];omega);have h5:y.natAbs*(q2-q).natAbs=(r-r2).natAbs:=(by rw [<-h4,Int.natAbs_mul]);have h6:=Nat.mul_le_mul_left y.natAbs (show 1<=(q2-q).natAbs by omega);omega)
 rcases Int.lt_or_lt_of_ne hy with h0|h0
 ·have f1:y<x.fmod y/\x.fmod y<=0:=(by have h4:=Int.fmod_nonneg_of_pos (-x) (show 0< -y by omega);have h5:=Int.fmod_lt_of_pos (-x) (show 0< -y by omega);rw [Int.neg_fmod_neg] at h4 h5;omega)
  split
  · exact (by rename_i h;refine (a0 (x.tdiv y-1) (x.tmod y+y) (x.fdiv y) (x.fmod y) (by rw [Int.mul_sub,Int.mul_one];omega) om).symm)
  · exact (by rename_i h;refine (a0 (x.tdiv y) (x.tmod y) (x.fdiv y) (x.fmod y) om om).symm)
 ·have f1:0<=x.fmod y/\x.fmod y<y:=⟨Int.fmod_nonneg_of_pos _ h0,Int.fmod_lt_of_pos _ h0⟩
  split
  · exact (by rename_i h;refine (a0 (x.tdiv y-1) (x.tmod y+y) (x.fdiv y) (x.fmod y) (by rw [Int.mul_sub,Int.mul_one];omega) om).symm)
  · exact (by rename_i h;refine (a0 (x.tdiv y) (x.tmod y) (x.fdiv y) (x.fmod y) om om).symm)
def pwC (p q:PlaneV) (two:Bool) (l:List POp) (out:Int) (r:Rct):Int:=if planeOK p=true/\(two=true->planeOK q=true) then (if pwCode l two p.max_ q.max_ out=0 then (if (two=true->p.w=q.w/\p.h=q.h)/\rIn r p.w p.h then 0 else 8) else pwCode l two p.max_ q.max_ out) else 1
theorem pwT_eq {p q:PlaneV} {two:Bool} {l:List POp} {out:Int} {r:Rct}:pwT p q two l out r=okT (pwC p q two l out r) (mkPl r out (pwX p q two l out)):=rfl
section
variable {p q:PlaneV} {two:Bool} {l:List POp} {out:Int} {r:Rct}
theorem pwC_1 (h:¬(planeOK p=true/\(two=true->planeOK q=true))):pwC p q two l out r=1:=if_neg h
theorem pwC_c {c:Int} (h:planeOK p=true/\(two=true->planeOK q=true)) (hc:pwCode l two p.max_ q.max_ out=c) (hn:¬c=0):pwC p q two l out r=c:=by unfold pwC;rw [if_pos h,if_neg (by omega),hc]
theorem pwC_8 (h:planeOK p=true/\(two=true->planeOK q=true)) (hc:pwCode l two p.max_ q.max_ out=0) (hr:¬((two=true->p.w=q.w/\p.h=q.h)/\rIn r p.w p.h)):pwC p q two l out r=8:=by unfold pwC;rw [if_pos h,if_pos hc,if_neg hr]
theorem pwC_0 (h:planeOK p=true/\(two=true->planeOK q=true)) (hc:pwCode l two p.max_ q.max_ out=0) (hr:(two=true->p.w=q.w/\p.h=q.h)/\rIn r p.w p.h):pwC p q two l out r=0:=by unfold pwC;rw [if_pos h,if_pos hc,if_pos hr]
end
theorem p14_quotient (x:Int) (y:Int) (hx:-17592186044416<=x/\x<=17592186044416) (hy:-17592186044416<=y/\y<=17592186044416) (hS:Sat W w (H::F)):
  Ro prog 194 #[I x,I y] (I (floorV x y)) W w (H::F):=by
 refine callsK 25 func194 rfl<|jCC 12 rfl<|cE y 0 (fun b0=>jCR 7 rfl<|retT [I 0]<|⟨congrArg (fun z=>Ending.returned (I z)) (by unfold floorV;rw [if_pos om]),hS⟩) fun b0=>jCC 3 rfl ?_
 have e0:-17592186044416<=x.tdiv y/\x.tdiv y<=17592186044416:=by have h:=Int.natAbs_tdiv_le_natAbs x y;omega
 refine jCO 3 rfl<|sQuoN x y<|jOO 8 rfl<|sRem x y<|pu2<|sN 15 (x.tmod y) 0 (fun c0=>jOR 18 rfl<|retT [I (x.tdiv y)]<|⟨congrArg (fun z=>Ending.returned (I z)) (by unfold floorV;rw [if_neg om,fdiv_t om,if_neg om]),hS⟩) fun c0=>jOC 8 rfl ?_
 rcases bool_em (decide (x<0)) (decide (y<0)) with a0|a0
 ·exact cF _ (congrArg Bool.not (show ((decide (x<0))==(decide (y<0)))=true from by simpa using a0))<|jCR 9 rfl<|retT [I (x.tdiv y)]<|(by have d0:=a0;rw [decide_eq_decide] at d0;exact ⟨congrArg (fun z=>Ending.returned (I z)) (by unfold floorV;rw [if_neg om,fdiv_t om,if_neg om]),hS⟩)
 exact cT _ (congrArg Bool.not (show ((decide (x<0))==(decide (y<0)))=false from by simpa using a0))<|jCO 2 rfl<|sSub (x.tdiv y) 1<|jOR 10 rfl<|retT [I ((x.tdiv y)-1)]<|(by have d0:=a0;rw [decide_eq_decide] at d0;exact ⟨congrArg (fun z=>Ending.returned (I z)) (by unfold floorV;rw [if_neg om,fdiv_t om,if_pos ⟨om,om⟩]),hS⟩)
theorem p14_value (o:POp) (x:Int) (y:Int) (hx:-17592186044416<=x/\x<=17592186044416) (hy:-17592186044416<=y/\y<=17592186044416) (hc:3<=o.code/\o.code<=11) (ho:argP o) (hS:Sat W w (H::F)):
  Ro prog 171 #[.agg #[I o.code,I o.arg],I x,I y] (.tuple #[I (appV o x y 0 0), .bool (decide (appOK o x y 0 0))]) W w (H::F):=by
 refine callsK 67 func171 rfl<|jCO 2 rfl<|sBx hS [I o.code,I o.arg] fun _ _ a0=>gOC a0 24 [0] rfl<|cE o.code 3 (fun c0=>jCO 3 rfl<|sAdd x y<|jOO 10 rfl<|gY<|cS (p14_within (x+y) a0.flat) fun _ d0=>jOR 6 rfl<|retT [I (x+y), .bool (decide ((-17592186044416:Int)<=(x+y)/\(x+y)<=17592186044416))]<|(by have e0:=(d0.dropAt 0 rfl);have hv:appV o x y 0 0=(x+y):=(by unfold appV;rw [if_neg om,if_neg om,if_neg om,if_pos om]);have A0:decide (appOK o x y 0 0)=decide ((-17592186044416:Int)<=(x+y)/\(x+y)<=17592186044416):=(by rw [Bool.eq_iff_iff,decide_eq_true_eq];unfold appOK accP;rw [hv];simp only [decide_eq_true_eq];exact ⟨fun h=>h.2,fun h=>⟨fun h5=>by omega,h⟩⟩);exact ⟨by rw [A0,hv];rfl,e0⟩)) fun c0=>jCC 6 rfl<|cE o.code 4 (fun f0=>jCO 3 rfl<|sSub x y<|jOO 10 rfl<|gY<|cS (p14_within (x-y) a0.flat) fun _ g0=>jOR 6 rfl<|retT [I (x-y), .bool (decide ((-17592186044416:Int)<=(x-y)/\(x-y)<=17592186044416))]<|(by have h0:=(g0.dropAt 0 rfl);have hv:appV o x y 0 0=(x-y):=(by unfold appV;rw [if_neg om,if_neg om,if_neg om,if_neg om,if_pos om]);have A0:decide (appOK o x y 0 0)=decide ((-17592186044416:Int)<=(x-y)/\(x-y)<=17592186044416):=(by rw [Bool.eq_iff_iff,decide_eq_true_eq];unfold appOK accP;rw [hv];simp only [decide_eq_true_eq];exact ⟨fun h=>h.2,fun h=>⟨fun h5=>by omega,h⟩⟩);exact ⟨by rw [A0,hv];rfl,h0⟩)) fun f0=>?_
 refine jCC 6 rfl<|cE o.code 5 (fun i0=>jCO 3 rfl<|cS (p14_product x y (od) (od) a0.flat) fun _ b0=>jOO 13 rfl<|SB 63 (timesOK x y) (fun j0=>jOR 8 rfl<|retT [I (timesV x y), .bool false]<|(by have k0:=(b0.dropAt 0 rfl);have hv:appV o x y 0 0=(timesV x y):=(by unfold appV;rw [if_neg om,if_neg om,if_neg om,if_neg om,if_neg om,if_pos om]);have A0:decide (appOK o x y 0 0)=false:=decide_eq_false (fun h=>by have h1:=h.1 om;simp_all);exact ⟨by rw [A0,hv];rfl,k0⟩)) fun j0=>pu1<|gY<|cS (p14_within (timesV x y) b0.flat) fun _ l0=>jOR 6 rfl<|retT [I (timesV x y), .bool (decide ((-17592186044416:Int)<=(timesV x y)/\(timesV x y)<=17592186044416))]<|(by have m0:=(l0.dropAt 0 rfl);have hv:appV o x y 0 0=(timesV x y):=(by unfold appV;rw [if_neg om,if_neg om,if_neg om,if_neg om,if_neg om,if_pos om]);have A0:decide (appOK o x y 0 0)=decide ((-17592186044416:Int)<=(timesV x y)/\(timesV x y)<=17592186044416):=(by rw [Bool.eq_iff_iff,decide_eq_true_eq];unfold appOK accP;rw [hv];simp only [decide_eq_true_eq];exact ⟨fun h=>h.2,fun h=>⟨fun _=>by simp_all,h⟩⟩);exact ⟨by rw [A0,hv];rfl,m0⟩)) fun i0=>?_
 refine jCC 6 rfl<|cE o.code 6 (fun n0=>jCO 3 rfl<|stepY (I (min x y)) rfl rfl (Y_min2 x y rfl rfl kr kr)<|jOO 10 rfl<|gY<|cS (p14_within (min x y) a0.flat) fun _ o0=>jOR 6 rfl<|retT [I (min x y), .bool (decide ((-17592186044416:Int)<=(min x y)/\(min x y)<=17592186044416))]<|(by have p0:=(o0.dropAt 0 rfl);have hv:appV o x y 0 0=(min x y):=(by unfold appV;rw [if_neg om,if_neg om,if_neg om,if_neg om,if_neg om,if_neg om,if_pos om]);have A0:decide (appOK o x y 0 0)=decide ((-17592186044416:Int)<=(min x y)/\(min x y)<=17592186044416):=(by rw [Bool.eq_iff_iff,decide_eq_true_eq];unfold appOK accP;rw [hv];simp only [decide_eq_true_eq];exact ⟨fun h=>h.2,fun h=>⟨fun h5=>by omega,h⟩⟩);exact ⟨by rw [A0,hv];rfl,p0⟩)) fun n0=>jCC 6 rfl<|cE o.code 7 (fun q0=>jCO 3 rfl<|stepY (I (max x y)) rfl rfl (Y_max2 x y rfl rfl kr kr)<|jOO 10 rfl<|gY<|cS (p14_within (max x y) a0.flat) fun _ r0=>jOR 6 rfl<|retT [I (max x y), .bool (decide ((-17592186044416:Int)<=(max x y)/\(max x y)<=17592186044416))]<|(by have s0:=(r0.dropAt 0 rfl);have hv:appV o x y 0 0=(max x y):=(by unfold appV;rw [if_neg om,if_neg om,if_neg om,if_neg om,if_neg om,if_neg om,if_neg om,if_pos om]);have A0:decide (appOK o x y 0 0)=decide ((-17592186044416:Int)<=(max x y)/\(max x y)<=17592186044416):=(by rw [Bool.eq_iff_iff,decide_eq_true_eq];unfold appOK accP;rw [hv];simp only [decide_eq_true_eq];exact ⟨fun h=>h.2,fun h=>⟨fun h5=>by omega,h⟩⟩);exact ⟨by rw [A0,hv];rfl,s0⟩)) fun q0=>?_
 refine jCC 6 rfl<|cE o.code 8 (fun t0=>jCO 3 rfl<|sSub x y<|cS (p14_abs (x-y) (od) a0.flat) fun _ u0=>jOO 10 rfl<|gY<|cS (p14_within (((x-y).natAbs:Nat):Int) u0.flat) fun _ v0=>jOR 6 rfl<|retT [I (((x-y).natAbs:Nat):Int), .bool (decide ((-17592186044416:Int)<=(((x-y).natAbs:Nat):Int)/\(((x-y).natAbs:Nat):Int)<=17592186044416))]<|(by have w0:=(v0.dropAt 0 rfl);have hv:appV o x y 0 0=(((x-y).natAbs:Nat):Int):=(by unfold appV;rw [if_neg om,if_neg om,if_neg om,if_neg om,if_neg om,if_neg om,if_neg om,if_neg om,if_pos om]);have A0:decide (appOK o x y 0 0)=decide ((-17592186044416:Int)<=(((x-y).natAbs:Nat):Int)/\(((x-y).natAbs:Nat):Int)<=17592186044416):=(by rw [Bool.eq_iff_iff,decide_eq_true_eq];unfold appOK accP;rw [hv];simp only [decide_eq_true_eq];exact ⟨fun h=>h.2,fun h=>⟨fun h5=>by omega,h⟩⟩);exact ⟨by rw [A0,hv];rfl,w0⟩)) fun t0=>?_
 refine jCC 6 rfl<|cE o.code 9 (fun x0=>jCO 3 rfl<|cS (p14_quotient x y (od) (od) a0.flat) fun _ y0=>jOO 10 rfl<|gY<|cS (p14_within (floorV x y) y0.flat) fun _ z0=>jOR 6 rfl<|retT [I (floorV x y), .bool (decide ((-17592186044416:Int)<=(floorV x y)/\(floorV x y)<=17592186044416))]<|(by have a1:=(z0.dropAt 0 rfl);have hv:appV o x y 0 0=(floorV x y):=(by unfold appV;rw [if_neg om,if_neg om,if_neg om,if_neg om,if_neg om,if_neg om,if_neg om,if_neg om,if_neg om,if_pos om]);have A0:decide (appOK o x y 0 0)=decide ((-17592186044416:Int)<=(floorV x y)/\(floorV x y)<=17592186044416):=(by rw [Bool.eq_iff_iff,decide_eq_true_eq];unfold appOK accP;rw [hv];simp only [decide_eq_true_eq];exact ⟨fun h=>h.2,fun h=>⟨fun h5=>by omega,h⟩⟩);exact ⟨by rw [A0,hv];rfl,a1⟩)) fun x0=>jCC 6 rfl<|cE o.code 10 (fun b1=>gCO a0 4 [0] rfl<|cS (p7_shift x o.arg a0.flat) fun _ c1=>jOO 10 rfl<|gY<|cS (p14_within (shiftV x o.arg) c1.flat) fun _ d1=>jOR 6 rfl<|retT [I (shiftV x o.arg), .bool (decide ((-17592186044416:Int)<=(shiftV x o.arg)/\(shiftV x o.arg)<=17592186044416))]<|(by have e1:=(d1.dropAt 0 rfl);have hv:appV o x y 0 0=(shiftV x o.arg):=(by unfold appV;rw [if_neg om,if_neg om,if_neg om,if_neg om,if_neg om,if_neg om,if_neg om,if_neg om,if_neg om,if_neg om,if_pos om]);have A0:decide (appOK o x y 0 0)=decide ((-17592186044416:Int)<=(shiftV x o.arg)/\(shiftV x o.arg)<=17592186044416):=(by rw [Bool.eq_iff_iff,decide_eq_true_eq];unfold appOK accP;rw [hv];simp only [decide_eq_true_eq];exact ⟨fun h=>h.2,fun h=>⟨fun h5=>by omega,h⟩⟩);exact ⟨by rw [A0,hv];rfl,e1⟩)) fun b1=>jCC 6 rfl ?_
 have f1:(o.code:Int)=11:=om
 refine cT _ (beq_iff_eq.2 f1)<|jCO 2 rfl<|cS (p14_abs x (od) a0.flat) fun _ g1=>jOO 10 rfl<|gY<|cS (p14_within (x.natAbs:Int) g1.flat) fun _ i1=>jOR 6 rfl<|retT [I (x.natAbs:Int), .bool (decide ((-17592186044416:Int)<=(x.natAbs:Int)/\(x.natAbs:Int)<=17592186044416))] ?_
 have j1:=(i1.dropAt 0 rfl)
 have hv:appV o x y 0 0=(x.natAbs:Int):=(by unfold appV;rw [if_neg om,if_neg om,if_neg om,if_neg om,if_neg om,if_neg om,if_neg om,if_neg om,if_neg om,if_neg om,if_neg om])
 have A0:decide (appOK o x y 0 0)=decide ((-17592186044416:Int)<=(x.natAbs:Int)/\(x.natAbs:Int)<=17592186044416):=by rw [Bool.eq_iff_iff,decide_eq_true_eq];unfold appOK accP;rw [hv];simp only [decide_eq_true_eq];exact ⟨fun h=>h.2,fun h=>⟨fun h5=>by omega,h⟩⟩
 exact ⟨by rw [A0,hv];rfl,j1⟩
theorem p14_run (al:Option Addr) (nl kl:Nat) (l:List POp) (a:Int) (b:Int) (hl:RdT encPOp 2 [H] al nl kl l) (two:Bool) (hlc:opsCode l two=0) (ha:0<=a/\a<=4294967296) (hb:0<=b/\b<=4294967296) (hS:Sat W w (H::F)):
  Ro prog 138 #[.slice al nl kl,I a,I b] (.tuple #[I ((runV l a b).1),I ((runV l a b).2)]) W w (H::F):=by
 have O0:=hl.ll
 obtain ⟨V0,W0,S0⟩:=opsCode_go hlc
 refine callsK 81 func138 rfl<|jCO 8 rfl<|sMake0 (kl:= .i64) (kc:= .i64) (enc:=Go.E.encI) (sz:=1) (nb:=8) hS 32 32 (rfl:(32:Int)=((32:Nat):Int)) underlying22 (i:=Tryz.t3) kr fR fun l0 m0 _ n0 o0=>jOC 12 rfl<|loopF [1,2,17,18] (γ:=Nat×(List Int)×SO) (fun ⟨i,zs,E0,A0,H0,I0⟩ R=>⟨[(19,I (i:Int)),(8, .slice E0 A0 H0)],I0::R,nl-i,i<=nl/\(rnGo a b l []=rnGo a b (l.drop i) zs)/\(opsGo two (l.drop i) (zs.length:Int)=0)/\(∀z∈zs,-17592186044416<=z/\z<=17592186044416)/\(zs.length<=i)/\OwnT Go.E.encI 3 1 E0 A0 H0 zs I0⟩) (0,[],(At l0 0),0,32,m0) ⟨o0,om,by rfl,(opsCode_go hlc).1,(by intro z hz;cases hz),by simp,n0⟩ ?_
 rintro ⟨i,zs,E0,A0,H0,I0⟩ ρ _ ⟨f0,hi,hG,hH,D0,Y0,B0⟩
 have M0:=B0.ll
 refine jCC 6 rfl<|CD ((i:Int)<(nl:Int)) (fun p0=>jCC 6 rfl<|(by have hh:opsGo two (l.drop i) zs.length=0:=hH;rw [List.drop_of_length_le om] at hh;have X0:zs.length=1:=(by unfold opsGo at hh;split at hh<;>omega);refine jCO 2 rfl<|sIO B0 0 0 fun g0 _ _ q0 r0 _=>sMp f0 (r0.up 0 rfl) 0 (I g0)<|jOR 5 rfl<|retT [I g0,I 0] ?_;have s0:=(f0.dropAt 0 rfl);have K0:rnGo a b l []=some zs:=(by rw [hG,List.drop_of_length_le om];rfl);have T0:zs[0]?=some g0:=q0;exact ⟨by rw [show runV l a b=(g0,0) from by unfold runV;rw [K0];dsimp only;rw [List.getD_eq_getElem?_getD,T0];rfl];rfl,s0⟩)) fun p0=>?_
 refine jCO 6 rfl<|sIN hl i fun a0 _ _ b0 t0=>?_
 obtain ⟨P0,C0,F0⟩:=opsGo_zero (by rw [<-drop_at b0];exact hH)
 have U0:=ptakes_bd a0.code;have G0:=takesV_bd a0.code;have Q0:(0<=a0.code/\a0.code<=11)/\takesV a0.code<=zs.length:=(by unfold opBad at P0;omega);have L0:3<=a0.code->1<=takesV a0.code:=(by intro h;unfold takesV;rw [if_neg om];split<;>omega)
 refine sMA f0 (t0.up 1 rfl) 0 [I a0.code,I a0.arg]<|sAlloc f0 zeroValue75 fun _ _ u0=>sTk u0 0 rfl [I a0.code,I a0.arg] fun _ c0=>gOC c0 16 [0] rfl<|cE a0.code 0 (fun v0=>?_) (fun v0=>?_)
 ·refine jCO 4 rfl<|sBK c0 #[I a] 3 fun _ _ w0=>sApp (nb:=8) w0 B0 2 (RdT.blk (enc:=Go.E.encI) (sz:=1) (xs:=[a]) fR 1 0 rfl rfl rfl om) underlying22 (i:=Tryz.t3) kr fR fun x0 y0 z0 _ a1 b1=>jOO 9 rfl<|sAdd (i:Int) 1<|jOI 2 rfl ?_
  exact ⟨(i+1,(zs++[a]),x0,(A0+1),y0,z0),od,alB,(b1.drops [0,0]),om,by rw [hG,drop_at b0];exact rn_push om (by unfold appV;rw [if_pos om]) (by unfold accP;unfold argP at C0;omega),by rw [List.length_append];simp only [List.length_cons,List.length_nil];rw [show (((zs.length+(0+1):Nat)):Int)=(zs.length:Int)+(1-takesV a0.code) from by rw [show takesV a0.code=0 from by unfold takesV;rw [if_pos om]];omega];exact F0,(by
    intro z hz
    rcases List.mem_append.1 hz with h|h
    ·exact D0 z h
    ·simp only [List.mem_singleton] at h;subst h;unfold argP at C0;omega),by simp;omega,a1⟩
 refine jCC 6 rfl<|cE a0.code 1 (fun d1=>?_) (fun d1=>?_)
 ·refine jCO 4 rfl<|sBK c0 #[I b] 3 fun _ _ e1=>sApp (nb:=8) e1 B0 2 (RdT.blk (enc:=Go.E.encI) (sz:=1) (xs:=[b]) fR 1 0 rfl rfl rfl om) underlying22 (i:=Tryz.t3) kr fR fun f1 g1 h1 _ i1 j1=>jOO 9 rfl<|sAdd (i:Int) 1<|jOI 2 rfl ?_
  exact ⟨(i+1,(zs++[b]),f1,(A0+1),g1,h1),od,alB,(j1.drops [0,0]),om,by rw [hG,drop_at b0];exact rn_push om (by unfold appV;rw [if_neg om,if_pos om]) (by unfold accP;unfold argP at C0;omega),by rw [List.length_append];simp only [List.length_cons,List.length_nil];rw [show (((zs.length+(0+1):Nat)):Int)=(zs.length:Int)+(1-takesV a0.code) from by rw [show takesV a0.code=0 from by unfold takesV;rw [if_pos om]];omega];exact F0,(by
    intro z hz
    rcases List.mem_append.1 hz with h|h
    ·exact D0 z h
    ·simp only [List.mem_singleton] at h;subst h;unfold argP at C0;omega),by simp;omega,i1⟩
 refine jCC 6 rfl<|cE a0.code 2 (fun l1=>?_) (fun l1=>?_)
 ·refine gCO c0 5 [0] rfl<|sBK c0 #[I a0.arg] 3 fun _ _ m1=>sApp (nb:=8) m1 B0 2 (RdT.blk (enc:=Go.E.encI) (sz:=1) (xs:=[a0.arg]) fR 1 0 rfl rfl rfl om) underlying22 (i:=Tryz.t3) kr fR fun n1 o1 q1 _ r1 s1=>jOO 9 rfl<|sAdd (i:Int) 1<|jOI 2 rfl ?_
  exact ⟨(i+1,(zs++[a0.arg]),n1,(A0+1),o1,q1),od,alB,(s1.drops [0,0]),om,by rw [hG,drop_at b0];exact rn_push om (by unfold appV;rw [if_neg om,if_neg om,if_pos om]) (by unfold accP;unfold argP at C0;omega),by rw [List.length_append];simp only [List.length_cons,List.length_nil];rw [show (((zs.length+(0+1):Nat)):Int)=(zs.length:Int)+(1-takesV a0.code) from by rw [show takesV a0.code=0 from by unfold takesV;rw [if_pos om]];omega];exact F0,(by
    intro z hz
    rcases List.mem_append.1 hz with h|h
    ·exact D0 z h
    ·simp only [List.mem_singleton] at h;subst h;unfold argP at C0;omega),by simp;omega,r1⟩
 refine jCC 4 rfl ?_
 have N0:3<=a0.code:=om;have R0:=L0 N0
 refine gCO c0 3 [0] rfl<|cS (p14_takes a0.code c0.flat) fun _ u1=>?_
 have e3:(0<=(ptakesV a0.code)/\(ptakesV a0.code)<=2)/\(¬(0<=a0.code/\a0.code<=11)\/(ptakesV a0.code)=takesV a0.code):=ptakes_bd _
 refine jOO 12 rfl<|sSub (A0:Int) (ptakesV a0.code)<|jOC 4 rfl ?_
 obtain ⟨d0,f3,g3,i0,v1,w1,h3⟩:=OwnT.elem B0 ((A0:Int)-(ptakesV a0.code))
 obtain ⟨e0,i3,j3,j0,x1,y1,k3⟩:=OwnT.elem B0 ((A0:Int)-1)
 refine drawF u1 [11] (fb 0 0 0 2<|fq 4 0 (v1.up 1 rfl)<|fq 10 0 (x1.up 1 rfl)<|fn) [1,2,3,5,6,7,8,9,0,4,10,11,12,13,14,15,16] fun _ z1=>wV 2<|wI w1<|wV 3<|wSub (A0:Int) 1<|wI y1<|wG 0 2<|wL 2<|wL 3<|wO rfl<|cS (p14_value a0 d0 e0 (D0 _ (List.mem_of_getElem? i0)) (D0 _ (List.mem_of_getElem? j0)) om C0 z1.flat) fun _ k0=>nA<|wV 1<|wV 1<|wV 1<|wV 2<|wN<|jXC 8 rfl<|CDn (appOK a0 d0 e0 0 0) (fun h0=>jCR 13 rfl<|retT [I 0,I 11]<|(by have a2:=(k0.drops [0,0]);have J0:rnGo a b l []=none:=(by rw [hG,drop_at b0];exact rn_no om (by have e:=i0;rw [show zs.length-(takesV a0.code).toNat=((A0:Int)-(ptakesV a0.code)).toNat by omega];exact e) (by have e:=j0;rw [show zs.length-1=((A0:Int)-1).toNat by omega];exact e) h0);exact ⟨by rw [show runV l a b=(0,11) from by unfold runV;rw [J0]];rfl,a2⟩)) fun h0=>jCO 5 rfl<|sSl none (some ((A0:Int)-(ptakesV a0.code))) 0 ((((A0:Int)-(ptakesV a0.code))).toNat) runUnderlying22 sizeOf3 rfl ⟨om,om⟩ om om ?_ (a:=E0) (len:=A0) (cap:=H0)
 refine pu1<|sBK k0 #[I (appV a0 d0 e0 0 0)] 3 fun _ _ c2=>sApp (nb:=8) c2 (B0.part (lo:=0) (hi:=(((A0:Int)-(ptakesV a0.code))).toNat) om om) 2 (RdT.blk (enc:=Go.E.encI) (sz:=1) (xs:=[(appV a0 d0 e0 0 0)]) fR 1 0 rfl rfl rfl om) underlying22 (i:=Tryz.t3) kr fR fun d2 e2 f2 _ g2 h2=>jOO 5 rfl<|sAdd (i:Int) 1<|jOI 2 rfl ?_
 exact ⟨(i+1,(((zs.drop 0).take ((((A0:Int)-(ptakesV a0.code))).toNat-0))++[(appV a0 d0 e0 0 0)]),d2,(((((A0:Int)-(ptakesV a0.code))).toNat-0)+1),e2,f2),od,alB,(h2.drops [0,0]),om,by rw [hG,drop_at b0,rn_op (m:=((zs.drop 0).take ((((A0:Int)-(ptakesV a0.code))).toNat-0))) om (by have e:=i0;rw [show zs.length-(takesV a0.code).toNat=((A0:Int)-(ptakesV a0.code)).toNat by omega];exact e) (by have e:=j0;rw [show zs.length-1=((A0:Int)-1).toNat by omega];exact e) h0 (by rw [List.drop_zero];congr 1;omega)],by simp only [List.length_append,List.length_take,List.length_drop,List.length_cons,List.length_nil];rw [show (((min _ _+(0+1):Nat)):Int)=(zs.length:Int)+(1-takesV a0.code) from by omega];exact F0,(by
   intro z hz
   rcases List.mem_append.1 hz with h|h
   ·exact D0 z (List.mem_of_mem_drop (List.mem_of_mem_take h))
   ·simp only [List.mem_singleton] at h;subst h;exact app_acc h0),by simp;omega,g2⟩
theorem p14_tile (p:Plane) (u0:Plane) (two:Bool) (al:Option Addr) (nl kl:Nat) (l:List POp) (out:Int) (r:Rct) (hp:Plane.Ok [H] p) (hu0:Plane.Ok [H] u0) (hl:RdT encPOp 2 [H] al nl kl l) (hS:Sat W w (H::F)):
  Calls prog 93 #[.agg (encPlane p).toArray, .agg (encPlane u0).toArray, .bool two, .slice al nl kl,I out, .agg (encRct r).toArray] w fun e w'=>∃(q:Plane) (c:Int) (G:Chunk),e= .returned (.tuple #[.agg (encPlane q).toArray,I c])/\q.Ok [G]/\(q.v,c)=pwT p.v u0.v two l out r/\Sat W w' (G::H::F):=by
 have N0:=hp.pix.le;have C0:=hp.pix.len
 have K0:=hu0.pix.le;have A0:=hu0.pix.len
 have L1:=hl.ll
 refine callsK 167 func93 rfl<|jCO 2 rfl<|sBx hS (encPlane p) fun _ _ u1=>sBx u1 (encPlane u0) fun _ _ v1=>sBx v1 (encRct r) fun _ _ w1=>sAlloc w1 zeroValue38 fun _ _ k0=>jOC 3 rfl<|cutF k0 0 [2,3,4,6,7,11,12] (γ:=Unit) (fun _ R=>⟨[],R,0,(planeOK p.v=true/\(two=true->planeOK u0.v=true))⟩) ?_ ?_
 ·exact gCO k0 3 [403] rfl<|cS (p4_valid p ⟨(hp.pix.fl 4)⟩ k0.flat) fun _ f0=>pu2<|SBn 28 (planeOK p.v) (fun g0=>jOO 13 rfl<|sTk f0 0 rfl [I 0,I 0,I 0,nS] fun _ w0=>jOR 5 rfl<|retD w0 0 [I 0,I 0,I 0,nS] (I 1)<|(by have hC:pwC p.v u0.v two l out r=1:=pwC_1 (fun h=>g0 h.1);have z1:=(w0.drops [0,0,0,0]);exact ⟨zP,1,_,rfl,⟨rN⟩,(by rw [pwT_eq,okT_c hC om];rfl),(Sat.nilc z1)⟩)) fun g0=>pu2<|SB 30 two (fun l0=>jOI 9 rfl<|⟨(),alB,f0,⟨g0,fun h=>absurd h l0⟩⟩) fun l0=>gOO f0 1 [402] rfl<|gY<|cS (p4_valid u0 ⟨(hu0.pix.fl 4)⟩ f0.flat) fun _ z0=>jOC 5 rfl<|cBn (planeOK u0.v) (fun m0=>jCI 1 rfl<|⟨(),alB,z0,⟨g0,fun _=>m0⟩⟩) fun m0=>jCO 3 rfl<|sTk z0 0 rfl [I 0,I 0,I 0,nS] fun _ a1=>jOR 5 rfl<|retD a1 0 [I 0,I 0,I 0,nS] (I 1)<|(by have hC:pwC p.v u0.v two l out r=1:=pwC_1 (fun h=>m0 (h.2 l0));have b2:=(a1.drops [0,0,0,0]);exact ⟨zP,1,_,rfl,⟨rN⟩,(by rw [pwT_eq,okT_c hC om];rfl),(Sat.nilc b2)⟩)
 rintro _ ρ _ ⟨d2,hP⟩
 refine jCO 5 rfl<|cS (p14_valid al nl kl l two (hl.fl 4) d2.flat) fun _ b0=>jOC 9 rfl<|CN (opsCode l two) 0 (fun e2=>jCO 4 rfl<|sTk b0 0 rfl [I 0,I 0,I 0,nS] fun _ b1=>jOR 5 rfl<|retD b1 0 [I 0,I 0,I 0,nS] (I (opsCode l two))<|(by have B0:pwCode l two p.v.max_ u0.v.max_ out=(opsCode l two):=(by unfold pwCode;rw [if_neg om]);have hC:pwC p.v u0.v two l out r=(opsCode l two):=pwC_c hP B0 om;have f2:=(b1.drops [0,0,0,0]);exact ⟨zP,(opsCode l two),_,rfl,⟨rN⟩,(by rw [pwT_eq,okT_c hC om];rfl),(Sat.nilc f2)⟩)) fun e2=>jCO 8 rfl<|sD 46 (out<1) (fun i2=>jOO 9 rfl<|sTk b0 0 rfl [I 0,I 0,I 0,nS] fun _ c1=>jOR 5 rfl<|retD c1 0 [I 0,I 0,I 0,nS] (I 2)<|(by have B0:pwCode l two p.v.max_ u0.v.max_ out=2:=(by unfold pwCode;rw [if_pos om,if_neg om]);have hC:pwC p.v u0.v two l out r=2:=pwC_c hP B0 om;have j2:=(c1.drops [0,0,0,0]);exact ⟨zP,2,_,rfl,⟨rN⟩,(by rw [pwT_eq,okT_c hC om];rfl),(Sat.nilc j2)⟩)) fun i2=>jOC 5 rfl<|cD (out>4294967296) (fun l2=>jCO 3 rfl<|sTk b0 0 rfl [I 0,I 0,I 0,nS] fun _ d1=>jOR 5 rfl<|retD d1 0 [I 0,I 0,I 0,nS] (I 2)<|(by have B0:pwCode l two p.v.max_ u0.v.max_ out=2:=(by unfold pwCode;rw [if_pos om,if_neg om]);have hC:pwC p.v u0.v two l out r=2:=pwC_c hP B0 om;have m2:=(d1.drops [0,0,0,0]);exact ⟨zP,2,_,rfl,⟨rN⟩,(by rw [pwT_eq,okT_c hC om];rfl),(Sat.nilc m2)⟩)) fun l2=>?_
 refine jCC 7 rfl<|cutF b0 0 [2,3,4,6,7,11,12] (γ:=Int) (fun sv R=>⟨[(15,I sv)],R,0,sv=(if two=true then u0.max_ else 1)⟩) ?_ ?_
 ·exact jCC 5 rfl<|CB two (fun n0=>jCI 1 rfl<|⟨1,alB,b0,(by rw [if_neg n0])⟩) fun n0=>gCI b0 5 [2] rfl<|⟨u0.max_,alB,b0,(by rw [if_pos n0])⟩
 rintro sv ρ _ ⟨e1,P0⟩
 refine gCO e1 7 [3] rfl<|cS (p14_interval al nl kl l p.max_ sv (hl.fl 4) e1.flat) fun _ c0=>jOC 15 rfl<|CN ((ivRes l p.max_ sv).2.2) 0 (fun o2=>jCO 4 rfl<|sTk c0 0 rfl [I 0,I 0,I 0,nS] fun _ f1=>jOR 5 rfl<|retD f1 0 [I 0,I 0,I 0,nS] (I ((ivRes l p.max_ sv).2.2))<|(by have B0:pwCode l two p.v.max_ u0.v.max_ out=(ivRes l p.max_ sv).2.2:=(by unfold pwCode;rw [if_pos om,if_pos om,P0];rfl);have hC:pwC p.v u0.v two l out r=(ivRes l p.max_ sv).2.2:=pwC_c hP B0 om;have q2:=(f1.drops [0,0,0,0]);exact ⟨zP,((ivRes l p.max_ sv).2.2),_,rfl,⟨rN⟩,(by rw [pwT_eq,okT_c hC om];rfl),(Sat.nilc q2)⟩)) fun o2=>jCC 3 rfl<|cutF c0 0 [2,3,4,6,7,11,12] (γ:=Unit) (fun _ R=>⟨[(81, .bool (decide (¬(two=true->p.w=u0.w/\p.h=u0.h))))],R,0,True⟩) ?_ ?_
 ·exact jCO 3 rfl<|SB 68 two (fun h0=>jOI 14 rfl<|⟨(),⟨⟨(mF0 (by first|(exact fun h=>h (fun e=>absurd e h0))|(simp_all;done)|(simp_all;omega)|omega)),trivial⟩,sA⟩,c0,trivial⟩) fun h0=>gOO c0 6 [3,2] rfl<|SN 74 p.w u0.w (fun s2=>jOI 8 rfl<|⟨(),⟨⟨(mT (by exact fun h=>by have h1:=h h0;omega)),trivial⟩,sA⟩,c0,trivial⟩) fun s2=>gOI c0 8 [3,2] rfl<|⟨(),⟨⟨(mB ((p.h:Int)!=u0.h) (by rw [Bool.eq_iff_iff];simp only [decide_eq_true_eq,beq_iff_eq,bne_iff_ne,ne_eq,Bool.not_eq_true',decide_eq_false_iff_not,gt_iff_lt,ge_iff_le,Bool.and_eq_true,Bool.or_eq_true,Bool.not_eq_eq_eq_not,Bool.not_true,Bool.and_eq_false_imp,beq_eq_false_iff_ne]<;>first|(exact fun h=>h (fun e=>absurd e h0))|(simp_all;done)|(simp_all;omega)|omega)),trivial⟩,sA⟩,c0,trivial⟩
 rintro _ ρ _ ⟨o0,_⟩
 refine cD (¬(two=true->p.w=u0.w/\p.h=u0.h)) (fun p0=>jCO 3 rfl<|sTk o0 0 rfl [I 0,I 0,I 0,nS] fun _ g1=>jOR 5 rfl<|retD g1 0 [I 0,I 0,I 0,nS] (I 8)<|(by have B0:pwCode l two p.v.max_ u0.v.max_ out=(ivRes l p.max_ sv).2.2:=(by unfold pwCode;rw [if_pos om,if_pos om,P0];rfl);have H0:pwCode l two p.v.max_ u0.v.max_ out=0:=(by rw [B0];omega);have hC:pwC p.v u0.v two l out r=8:=pwC_8 hP H0 (fun h=>p0 h.1);have t2:=(g1.drops [0,0,0,0]);exact ⟨zP,8,_,rfl,⟨rN⟩,(by rw [pwT_eq,okT_c hC om];rfl),(Sat.nilc t2)⟩)) fun p0=>gCO o0 6 [401] rfl<|cS (p2_empty r o0.flat) fun _ q0=>pu1<|sD 85 (r.x0=0/\r.y0=0/\r.x1=0/\r.y1=0) (fun r0=>jOO 15 rfl<|sTk q0 0 rfl [I 0,I 0,I 0,nS] fun _ i1=>jOR 5 rfl<|retD i1 0 [I 0,I 0,I 0,nS] (I 8)<|(by have B0:pwCode l two p.v.max_ u0.v.max_ out=(ivRes l p.max_ sv).2.2:=(by unfold pwCode;rw [if_pos om,if_pos om,P0];rfl);have H0:pwCode l two p.v.max_ u0.v.max_ out=0:=(by rw [B0];omega);have D0:=(plane_sz hP.1).1;unfold sizeP at D0;simp only [Plane.v] at D0;have hC:pwC p.v u0.v two l out r=8:=pwC_8 hP H0 (fun h=>by have h2:=(ins_in (by simp only [Plane.v];omega) (by simp only [Plane.v];omega)).2 h.2;exact h2.1 r0);have v2:=(i1.drops [0,0,0,0]);exact ⟨zP,8,_,rfl,⟨rN⟩,(by rw [pwT_eq,okT_c hC om];rfl),(Sat.nilc v2)⟩)) fun r0=>?_
 refine gOO q0 6 [401,3,3] rfl<|gY<|cS (p2_inside r (⟨0,0,p.w,p.h⟩:Rct) q0.flat) fun _ i0=>jOC 4 rfl<|CDn (insP r (⟨0,0,p.w,p.h⟩:Rct)) (fun s0=>jCO 3 rfl<|sTk i0 0 rfl [I 0,I 0,I 0,nS] fun _ j1=>jOR 5 rfl<|retD j1 0 [I 0,I 0,I 0,nS] (I 8)<|(by have B0:pwCode l two p.v.max_ u0.v.max_ out=(ivRes l p.max_ sv).2.2:=(by unfold pwCode;rw [if_pos om,if_pos om,P0];rfl);have H0:pwCode l two p.v.max_ u0.v.max_ out=0:=(by rw [B0];omega);have D0:=(plane_sz hP.1).1;unfold sizeP at D0;simp only [Plane.v] at D0;have hC:pwC p.v u0.v two l out r=8:=pwC_8 hP H0 (fun h=>by have h2:=(ins_in (by simp only [Plane.v];omega) (by simp only [Plane.v];omega)).2 h.2;exact s0 h2.2);have x2:=(j1.drops [0,0,0,0]);exact ⟨zP,8,_,rfl,⟨rN⟩,(by rw [pwT_eq,okT_c hC om];rfl),(Sat.nilc x2)⟩)) fun s0=>jCC 3 rfl ?_
 obtain ⟨O0,F1⟩:=hP;have D0:=(plane_sz O0).1;unfold sizeP at D0;simp only [Plane.v] at D0;have O1:=Classical.not_not.1 p0;have C1:two=true->planeOK u0.v=true/\p.w=u0.w/\p.h=u0.h:=fun h=>⟨F1 h,O1 h⟩;have S0:rIn r p.w p.h:=(ins_in om om).1 ⟨r0,s0⟩;have M1:opsCode l two=0:=by omega
 have H0:pwCode l two p.v.max_ u0.v.max_ out=0:=(by have e:pwCode l two p.v.max_ u0.v.max_ out=(ivRes l p.max_ sv).2.2:=(by unfold pwCode;rw [if_pos om,if_pos om,P0];rfl);rw [e];omega)
 have W0:=S0;unfold rIn at W0
 obtain ⟨Wn,hW⟩:∃k:Nat,r.x1-r.x0=(k:Int):=⟨_,(Int.toNat_of_nonneg om).symm⟩;obtain ⟨Hn,hH⟩:∃k:Nat,r.y1-r.y0=(k:Int):=⟨_,(Int.toNat_of_nonneg om).symm⟩
 have R1:1<=Wn/\Wn<=128/\1<=Hn/\Hn<=128:=om;have Q1:Hn*Wn<=4096:=by have h1:=rIn_area S0 (by first|omega|assumption);rw [hW,hH] at h1;have h2:((Hn*Wn:Nat):Int)=(Wn:Int)*(Hn:Int):=(by push_cast;rw [Int.mul_comm]);omega
 have S1:(r.x1-r.x0)*(r.y1-r.y0)=((Hn*Wn:Nat):Int):=by rw [hW,hH];push_cast;rw [Int.mul_comm]
 have N1:p.v.pix.length=p.pix.n:=C0
 refine gCO i0 5 [1,1] rfl<|sSub r.x1 r.x0<|gOO i0 4 [1,1] rfl<|sSub r.y1 r.y0<|pu2<|sAlloc i0 zeroValue38 fun k1 _ z2=>sTk z2 0 rfl [I (r.x1-r.x0),I (r.y1-r.y0),I out,nS] fun _ l1=>gOO l1 8 [0,0] rfl<|sMul (r.x1-r.x0) (r.y1-r.y0)<|sMake0 (kl:= .i64) (kc:= .i64) (enc:=Go.E.encI) (sz:=1) (nb:=8) l1 (((r.x1-r.x0)*(r.y1-r.y0))).toNat ((r.x1-r.x0)*(r.y1-r.y0)) (om:((r.x1-r.x0)*(r.y1-r.y0))=(((((r.x1-r.x0)*(r.y1-r.y0))).toNat:Nat):Int)) underlying22 (i:=Tryz.t3) kr fR fun m1 a3 _ b3 c3=>pu1<|tWk c3 1 rfl 3 (.slice (At m1 0) 0 ((((r.x1-r.x0)*(r.y1-r.y0))).toNat)) fun _ n1=>jOC 4 rfl ?_
 obtain ⟨f,hf⟩:∃f:Int->Int->Int,f=fun i j=>pwX p.v u0.v two l out (r.x0+i) (r.y0+j):=⟨_,rfl⟩
 refine gCC n1 7 [3] rfl<|loopF [2,3,4,6,7,11,12,19] (γ:=Nat×Int×(List Int)×SO) (fun ⟨i,yy,zs,E0,J0,I0,M0⟩ R=>⟨[(20,I yy)],M0::[(k1, .cells #[I (r.x1-r.x0),I (r.y1-r.y0),I out, .slice E0 J0 I0] 38 (0,0))]::R,Hn-i,i<=Hn/\(yy=r.y0+(i:Int))/\(zs=gridN Wn f (i*Wn))/\OwnT Go.E.encI 3 1 E0 J0 I0 zs M0⟩) (0,r.y0,[],(At m1 0),0,(((r.x1-r.x0)*(r.y1-r.y0))).toNat,a3) ⟨n1,om,om,(by rw [Nat.zero_mul];rfl),b3⟩ ?_
 rintro ⟨i,yy,zs,E0,J0,I0,M0⟩ ρ _ ⟨e0,hi,J1,hE,F0⟩
 have X0:=F0.ll
 refine gCC e0 9 [3] rfl<|CD (yy<r.y1) (fun d3=>gCO e0 8 [401] rfl<|sTk e0 2 rfl [I (r.x1-r.x0),I (r.y1-r.y0),I out, .slice E0 J0 I0] fun _ o1=>jOR 4 rfl<|retD o1 2 [I (r.x1-r.x0),I (r.y1-r.y0),I out, .slice E0 J0 I0] (I 0)<|(by have P1:zs=gridN Wn f (Hn*Wn):=(by rw [hE,show i=Hn by omega]);have hC:pwC p.v u0.v two l out r=0:=pwC_0 ⟨O0,F1⟩ H0 ⟨fun h=>(C1 h).2,S0⟩;exact ⟨(⟨(r.x1-r.x0),(r.y1-r.y0),out,⟨E0,J0,I0,zs⟩⟩:Plane),0,_,rfl,⟨(F0.rdAt (cs:=[M0]) 0 rfl)⟩,(by rw [pwT_eq,okT_0 hC,mk_pl S0 hW hH (hf▸P1)];rfl),(o1.drops [1,1,1,1,1])⟩)) fun d3=>jCC 5 rfl ?_
 have hix:=pl_ix O0 (x:=r.x1-1) (y:=yy) (by simp only [Plane.v];omega) (by simp only [Plane.v];omega);rw [N1] at hix;simp only [Plane.v] at hix
 refine gCO e0 4 [5] rfl<|sMul yy p.w<|gOO e0 2 [3] rfl<|sAdd (yy*p.w) r.x0<|jOC 4 rfl<|loopF [2,3,4,6,7,11,12,19,20] (γ:=Nat×Int×(List Int)×SO) (fun ⟨j,xx,zt,Q0,L0,T0,R0⟩ R=>⟨[(21,I xx)],R0::[(k1, .cells #[I (r.x1-r.x0),I (r.y1-r.y0),I out, .slice Q0 L0 T0] 38 (0,0))]::R,Wn-j,j<=Wn/\(xx=yy*p.w+r.x0+(j:Int))/\(zt=gridN Wn f (i*Wn+j))/\OwnT Go.E.encI 3 1 Q0 L0 T0 zt R0⟩) (0,((yy*p.w)+r.x0),zs,E0,J0,I0,M0) ⟨e0,om,om,(by rw [Nat.add_zero];exact hE),F0⟩ ?_
 rintro ⟨j,xx,zt,Q0,L0,T0,R0⟩ ρ _ ⟨a0,hj,I1,U0,G0⟩
 have Y0:=G0.ll
 have Y1:zt.length=i*Wn+j:=by rw [U0,grid_len]
 have U1:i*Wn+j<=Hn*Wn:=by have h1:=Nat.mul_le_mul_right Wn (show i+1<=Hn by omega);rw [Nat.add_mul,Nat.one_mul] at h1;omega
 refine gCO a0 7 [5] rfl<|sMul yy p.w<|gOO a0 2 [3] rfl<|sAdd (yy*p.w) r.x1<|jOC 3 rfl<|CD (xx<((yy*p.w)+r.x1)) (fun f3=>jCO 8 rfl<|sAdd yy 1<|jOI 2 rfl<|⟨(i+1,(yy+1),zt,Q0,L0,T0,R0),od,alB,a0,om,om,(by rw [Nat.add_mul,Nat.one_mul,U0,show j=Wn by omega]),G0⟩) fun f3=>jCC 9 rfl<|cutF a0 0 [2,3,4,6,7,11,12,19,20,21] (γ:=Int) (fun bv R=>⟨[(22,I bv)],R,0,bv=(if two=true then pixAt u0.v (r.x0+(j:Int)) (r.y0+(i:Int)) else 0)/\(0<=bv/\bv<=4294967296)⟩) ?_ ?_
 · exact jCC 5 rfl<|CB two (fun j0=>jCI 1 rfl<|⟨0,alB,a0,(by rw [if_neg j0]),om⟩) fun j0=>(by obtain ⟨V0,X1⟩:=C1 j0;have G1:=(plane_sz V0).1;unfold sizeP at G1;simp only [Plane.v] at G1;have V1:u0.v.pix.length=u0.pix.n:=A0;have H1:=plane_sz V0;have B1:=plane_sz O0;simp only [Plane.v] at H1 B1;have W1:u0.pix.n=p.pix.n:=(by have h1:=H1.2.1;have h2:=B1.2.1;rw [show u0.w=p.w by omega,show u0.h=p.h by omega] at h1;omega);refine gCO a0 4 [4] rfl<|sII hu0.pix xx fun t0 _ _ g3 h3=>?_;have D1:pixAt u0.v (r.x0+(j:Int)) (r.y0+(i:Int))=t0:=(by refine pixAt_eq ?_;rw [<-g3];simp only [Plane.v];congr 1;rw [I1,J1,show u0.w=p.w by omega,Int.add_comm r.x0,<-Int.add_assoc];omega);have E1:=pixAt_bd V0 (r.x0+(j:Int)) (r.y0+(i:Int));rw [D1] at E1;simp only [Plane.v] at E1;exact sMp a0 (h3.up 6 rfl) 0 (I t0)<|jOI 2 rfl<|⟨t0,alB,a0,(by rw [if_pos j0,D1]),om⟩)
 rintro bv ρ _ ⟨v0,K1,T1⟩
 refine gCO v0 6 [5] rfl<|sII hp.pix xx fun d0 _ _ i3 j3=>?_
 have Z0:pixAt p.v (r.x0+(j:Int)) (r.y0+(i:Int))=d0:=(by refine pixAt_eq ?_;rw [<-i3];simp only [Plane.v];congr 1;rw [I1,J1,Int.add_comm r.x0,<-Int.add_assoc];omega)
 have A1:=pixAt_bd O0 (r.x0+(j:Int)) (r.y0+(i:Int));rw [Z0] at A1;simp only [Plane.v] at A1
 exact sMp v0 (j3.up 6 rfl) 0 (I d0)<|pu1<|cS (p14_run al nl kl l d0 bv (hl.fl 6) _ M1 om om v0.flat) fun _ k3=>jOC 7 rfl<|drawF k3 [4,5,6,8] (fb 1 1 3 1<|fn) [0,2,3,1,4,5,6,7,8] fun _ l3=>wV 3<|wL 0<|wO rfl<|cS (p7_clamp ((runV l d0 bv).1) out l3.flat) fun _ q1=>nZ q1 [1]<|wO rfl<|sBK q1 #[I (clampV ((runV l d0 bv).1) out)] 3 fun _ _ r1=>nZ r1 [2]<|wO rfl<|sApp (nb:=8) r1 G0 1 (RdT.blk (enc:=Go.E.encI) (sz:=1) (xs:=[(clampV ((runV l d0 bv).1) out)]) fR 1 0 rfl rfl rfl om) underlying22 (i:=Tryz.t3) kr fR fun s1 t1 m3 _ n3 o3=>nA<|wV 1<|wO rfl<|tWk o3 2 rfl 3 (.slice s1 (L0+1) t1) fun _ p3=>nA<|wN<|jXO 4 rfl<|sAdd xx 1<|jOI 2 rfl<|⟨(j+1,(xx+1),(zt++[(clampV ((runV l d0 bv).1) out)]),s1,(L0+1),t1,m3),od,alB,(p3.dropAt 0 rfl),om,om,(by rw [<-Nat.add_assoc,grid_succ om,<-U0,hf];dsimp only;unfold pwX;rw [Z0,<-K1]),n3⟩
end Go.Proofs.YtghcddbhllkbmaaGreat
