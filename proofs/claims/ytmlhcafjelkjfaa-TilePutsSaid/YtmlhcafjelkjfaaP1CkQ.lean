import Derived.Test.YtmlhcafjelkjfaaP1Ab
import Derived.WalkKit
import Derived.Deep.Quiet
import Derived.KernelRfl
import Derived.Laws.BytesString
import Derived.Laws.Shifts
import Derived.Laws.IdiomStrings
import Derived.Test.YtmlhcafjelkjfaaProg
import Derived.Test.YtmlhcafjelkjfaaP1Ck
import Derived.Test.YtmlhcafjelkjfaaP1CkP
namespace Go.Proofs.Ytmlhcafjelkjfaa
open Go Go.E Go.Proofs.Try
set_option linter.all false
set_option maxRecDepth 100000
set_option maxHeartbeats 2000000
variable {W w:World} {H:Chunk} {F:List Chunk}
theorem pap5 {o:POp} {x y:Sp} (h:o.code=5):papV o x y=⟨ptLo x y,ptHi x y⟩:=by
  unfold papV ptLo ptHi
  cases hp:prodOK x y
  · rw [if_pos ⟨h,rfl⟩];rfl
  · rw [if_neg (by simp),if_pos rfl,if_pos rfl];unfold nextV;rw [if_neg (by omega),if_neg (by omega),if_neg (by omega),if_neg (by omega),if_neg (by omega),if_pos h]
theorem papN {o:POp} {x y:Sp} (h:¬o.code=5):papV o x y=nextV o x y 1 1:=by unfold papV;rw [if_neg (fun k=>h k.1)]
theorem pap_ok {o:POp} {x y:Sp} {vlo vhi:Int} {vb:Bool} (hv:papV o x y=⟨vlo,vhi⟩) (hvb:nextB o x y=vb):nextOK o x y 1 1↔(vb=true/\(-17592186044416<=vlo/\vlo<=17592186044416)/\-17592186044416<=vhi/\vhi<=17592186044416):=by
  unfold nextOK
  rw [hvb]
  by_cases hb:vb=true
  · have e:nextV o x y 1 1=⟨vlo,vhi⟩:=by
      rw [<-hv];unfold papV
      rw [if_neg]
      rintro ⟨h5,hp⟩
      rw [hb] at hvb
      unfold nextB at hvb
      rw [if_pos h5,hp] at hvb;cases hvb
    rw [e]
  · exact ⟨fun h=>absurd h.1 hb,fun h=>absurd h.1 hb⟩
theorem next_ab {o:POp} {x y:Sp} {a b:Int} (h:3<=o.code):nextV o x y a b=nextV o x y 1 1:=by
  have h0:¬o.code=0:=(by omega);have h1:¬o.code=1:=(by omega);have h2:¬o.code=2:=(by omega)
  simp only [nextV,h0,h1,h2,if_false]
theorem next_y {o:POp} {x y z:Sp} {a b:Int} (h:10<=o.code):nextV o x y a b=nextV o x z a b:=by
  have h0:¬o.code=0:=(by omega);have h1:¬o.code=1:=(by omega);have h2:¬o.code=2:=(by omega);have h3:¬o.code=3:=(by omega);have h4:¬o.code=4:=(by omega);have h5:¬o.code=5:=(by omega);have h6:¬o.code=6:=(by omega);have h7:¬o.code=7:=(by omega);have h8:¬o.code=8:=(by omega);have h9:¬o.code=9:=(by omega)
  simp only [nextV,h0,h1,h2,h3,h4,h5,h6,h7,h8,h9,if_false]
theorem nextB_y {o:POp} {x y z:Sp} (h:10<=o.code):nextB o x y=nextB o x z:=by unfold nextB;rw [if_neg (by omega),if_neg (by omega)]
theorem iv_xy {o:POp} {st:List Sp} {x y:Sp} {a b:Int} (hc:3<=o.code/\o.code<=11) (hx:st[st.length-(takesV o.code).toNat]?=some x) (hy:st[st.length-1]?=some y):
  ivX o st=x/\nextV o x (ivY o st) a b=nextV o x y 1 1/\(nextOK o x (ivY o st) a b↔nextOK o x y 1 1):=by
 have h1:ivX o st=x:=by unfold ivX;rw [if_pos (by unfold takesV;split;omega;split<;>omega),hx];rfl
 have h2:nextV o x (ivY o st) a b=nextV o x y 1 1/\nextB o x (ivY o st)=nextB o x y:=by
  by_cases h:10<=o.code
  ·exact ⟨(next_ab om).trans (next_y h),nextB_y h⟩
  ·have e:ivY o st=y:=by unfold ivY;rw [if_pos (by unfold takesV;rw [if_neg om,if_neg om]),hy];rfl
   rw [e];exact ⟨next_ab om,rfl⟩
 exact ⟨h1,h2.1,by unfold nextOK;rw [h2.1,h2.2]⟩
theorem iv_op {a b:Int} {o:POp} {l:List POp} {st m:List Sp} {x y:Sp} (hc:3<=o.code/\o.code<=11) (hx:st[st.length-(takesV o.code).toNat]?=some x) (hy:st[st.length-1]?=some y) (hok:nextOK o x y 1 1) (hm:m=st.take (st.length-(takesV o.code).toNat)):
    ivGo a b (o::l) st=ivGo a b l (m++[nextV o x y 1 1]):=by
  obtain ⟨h1,h2,h3⟩:=iv_xy (a:=a) (b:=b) hc hx hy
  subst hm
  rw [ivGo,h1,h2,if_pos (h3.2 hok)]
theorem iv_no {a b:Int} {o:POp} {l:List POp} {st:List Sp} {x y:Sp} (hc:3<=o.code/\o.code<=11) (hx:st[st.length-(takesV o.code).toNat]?=some x) (hy:st[st.length-1]?=some y) (hok:¬nextOK o x y 1 1):ivGo a b (o::l) st=none:=by
  obtain ⟨h1,h2,h3⟩:=iv_xy (a:=a) (b:=b) hc hx hy
  rw [ivGo,h1,if_neg (fun k=>hok (h3.1 k))]
theorem iv_push {a b:Int} {o:POp} {l:List POp} {st:List Sp} {z:Sp} (hc:0<=o.code/\o.code<=2) (hz:nextV o ⟨0,0⟩ ⟨0,0⟩ a b=z) (hz2:accS z):ivGo a b (o::l) st=ivGo a b l (st++[z]):=by
  have t0:takesV o.code=0:=by unfold takesV;rw [if_pos (by omega)]
  have h1:ivX o st=⟨0,0⟩:=by unfold ivX;rw [if_neg (by omega)]
  have h2:ivY o st=⟨0,0⟩:=by unfold ivY;rw [if_neg (by omega)]
  have h3:nextB o ⟨0,0⟩ ⟨0,0⟩=true:=by unfold nextB;rw [if_neg (by omega)]
  rw [ivGo,h1,h2,if_pos ⟨h3,by rw [hz];exact hz2.1,by rw [hz];exact hz2.2⟩,hz,t0]
  congr 1
  rw [show st.length-(0:Int).toNat=st.length from rfl,List.take_length]
theorem pap_acc {o:POp} {x y:Sp} (h:nextOK o x y 1 1):papV o x y=nextV o x y 1 1:=by
  unfold papV
  rw [if_neg]
  rintro ⟨h5,hp⟩
  have h1:=h.1
  unfold nextB at h1
  rw [if_pos h5,hp] at h1;cases h1
theorem p14_apply (o:POp) (x:Sp) (y:Sp) (hx:accS x) (hy:accS y) (hc:3<=o.code/\o.code<=11) (ho:argP o) (hS:Sat W w (H::F)):
  Ro prog 88 #[.agg #[I o.code,I o.arg], .agg #[I x.lo,I x.hi], .agg #[I y.lo,I y.hi]] (.tuple #[.agg #[I ((papV o x y).lo),I ((papV o x y).hi)], .bool (decide (nextOK o x y 1 1))]) W w (H::F):=by
 have hx1:=hx.1;have hx2:=hx.2;have hy1:=hy.1;have hy2:=hy.2
 refine callsA 125 func88 rfl<|sR<|sBox hS (.agg #[I o.code,I o.arg]) #[I o.code,I o.arg] fun o0 _ p0=>sBox p0 (.agg #[I x.lo,I x.hi]) #[I x.lo,I x.hi] fun e0 _ q0=>sBox q0 (.agg #[I y.lo,I y.hi]) #[I y.lo,I y.hi] fun r0 _ s0=>sAlloc s0 zeroValue124 fun k0 _ t0=>pu1<|zS<|sAlloc t0 zeroValue124 fun c0 _ a0=>zS<|pu1<|nT ?_
 refine cutA (γ:=Int×Int×Bool) (fun ⟨vlo,vhi,vb⟩=>[(6,Pt k0 0),(8,Pt c0 0),(9, .bool vb)]) (fun ⟨vlo,vhi,vb⟩ w=>Sat W w ([(c0, .cells #[I vlo,I vhi] 124 (0,0))]::[(k0, .cells #[I 0,I 0] 124 (0,0))]::[(r0, .cells #[I y.lo,I y.hi] 124 (0,0))]::[(e0, .cells #[I x.lo,I x.hi] 124 (0,0))]::[(o0, .cells #[I o.code,I o.arg] 119 (0,0))]::H::F)/\(papV o x y=⟨vlo,vhi⟩)/\(nextB o x y=vb)) ?_ ?_
 rotate_left
 ·rintro ⟨vlo,vhi,vb⟩ ρ _ ⟨d0,hv,hvb⟩
  refine seqE ?_
  rcases Classical.em (vb=true) with g0|g0
  rotate_left
  ·refine drawE [5,10,12] [(0,⟨c0,0,none⟩,I vlo),(0,⟨c0,1,none⟩,I vhi)] [(true,[1,2]),(true,[3]),(true,[0]),(true,[4]),(false,[5]),(true,[6,7,8,9]),(false,[10]),(true,[11]),(false,[12]),(true,[13])] rfl kr ⟨cI d0 0,cI d0 0,trivial⟩ ?_
   have f0:=d0.drew
   refine wU [1,2]<|wFix 115 _ false (Bool.eq_false_iff.2 g0)<|wU [3]<|wY (.agg #[I vlo,I vhi]) rfl (fun w hF=>Y_loadF rfl (isAgg124 w) (sizeOf124 w) kr rfl ⟨hF 0 _ _ rfl,hF 1 _ _ rfl,trivial⟩)<|wU [4]<|wO rfl<|pu1<|nilO ⟨⟨cI f0 0,cI f0 0,trivial⟩,?_⟩
   refine wU [6,7,8,9]<|wO rfl<|pu1<|nilO ⟨⟨cI f0 0,cI f0 0,trivial⟩,?_⟩
   refine wU [11]<|wO rfl<|sTl f0 1 [I vlo,I vhi] sizeOf124 fun _ l0=>nilO ⟨dA,?_⟩
   refine wU [13]<|wN<|tN<|retE<|retC l0 1 [I vlo,I vhi] (.bool false) (isAgg124 _) (sizeOf124 _) ?_
   have u0:=(l0.drops [0,0,0,0,0])
   have hiff:=pap_ok hv hvb
   have hOK:decide (nextOK o x y 1 1)=false:=decide_eq_false (fun h=>by obtain ⟨h3,h4,h5⟩:=hiff.1 h;first|contradiction|omega)
   exact ⟨by rw [hOK,hv];rfl,u0⟩
  refine drawE [5,9,10,12] [(0,⟨c0,0,none⟩,I vlo),(0,⟨c0,1,none⟩,I vhi),(4,⟨c0,0,none⟩,I vlo)] [(true,[1,2]),(true,[3]),(true,[0]),(true,[4]),(false,[5]),(true,[6,7]),(true,[8]),(false,[9]),(false,[10]),(true,[11]),(false,[12]),(true,[13])] rfl kr ⟨cI d0 0,cI d0 0,cI d0 0,trivial⟩ ?_
  have v0:=d0.drew
  refine wU [1,2]<|wFix 115 _ true g0<|wU [3]<|wY (.agg #[I vlo,I vhi]) rfl (fun w hF=>Y_loadF rfl (isAgg124 w) (sizeOf124 w) kr rfl ⟨hF 0 _ _ rfl,hF 1 _ _ rfl,trivial⟩)<|wLd (I vlo) 2 isAgg3<|wO rfl<|gY<|cR call95 (p14_within vlo v0.flat) fun _ b0=>nilO ⟨⟨cI b0 0,cI b0 0,dI,trivial⟩,?_⟩
  refine wU [6,7] ?_
  rcases Classical.em ((-17592186044416:Int)<=vlo/\vlo<=17592186044416) with h0|h0
  rotate_left
  ·refine wFix 120 _ false (decide_eq_false h0)<|wU [8]<|wO rfl<|pu1<|nilO ⟨⟨cI b0 0,cI b0 0,dI,trivial⟩,?_⟩
   refine wO rfl<|pu1<|nilO ⟨⟨cI b0 0,cI b0 0,dI,trivial⟩,?_⟩
   refine wU [11]<|wO rfl<|sTl b0 1 [I vlo,I vhi] sizeOf124 fun _ m0=>nilO ⟨dA,?_⟩
   refine wU [13]<|wN<|tN<|retE<|retC m0 1 [I vlo,I vhi] (.bool false) (isAgg124 _) (sizeOf124 _) ?_
   have w0:=(m0.drops [0,0,0,0,0])
   have hiff:=pap_ok hv hvb
   have hOK:decide (nextOK o x y 1 1)=false:=decide_eq_false (fun h=>by obtain ⟨h3,h4,h5⟩:=hiff.1 h;first|contradiction|omega)
   exact ⟨by rw [hOK,hv];rfl,w0⟩
  refine wFix 120 _ true (decide_eq_true h0)<|wU [8]<|wO rfl<|gY<|sL b0 0 1 (I vhi) (isAgg3 _)<|nilO ⟨⟨cI b0 0,cI b0 0,dI,trivial⟩,?_⟩
  refine wO rfl<|gY<|cR call95 (p14_within vhi b0.flat) fun _ i0=>nilO ⟨⟨cI i0 0,cI i0 0,dI,trivial⟩,?_⟩
  refine wU [11]<|wO rfl<|sTl i0 1 [I vlo,I vhi] sizeOf124 fun _ n0=>nilO ⟨dA,?_⟩
  refine wU [13]<|wN<|tN<|retE<|retC n0 1 [I vlo,I vhi] (.bool (decide ((-17592186044416:Int)<=vhi/\vhi<=17592186044416))) (isAgg124 _) (sizeOf124 _) ?_
  have x0:=(n0.drops [0,0,0,0,0])
  have hiff:=pap_ok hv hvb
  have hOK:decide (nextOK o x y 1 1)=decide ((-17592186044416:Int)<=vhi/\vhi<=17592186044416):=decide_eq_decide.2 (hiff.trans ⟨fun h=>h.2.2,fun h=>⟨by assumption,om,h⟩⟩)
  exact ⟨by rw [hOK,hv];rfl,x0⟩
 refine sR<|pu1<|sL a0 4 0 (I o.code) (isAgg3 _)<|nT<|blockE<|sR<|pu2<|nT<|cE o.code 3 (fun y0=>?_) (fun y0=>?_)
 ·exact rE<|pu1<|sL a0 3 0 (I x.lo) (isAgg3 _)<|pu1<|sL a0 2 0 (I y.lo) (isAgg3 _)<|sAdd x.lo y.lo<|pu1<|sL a0 3 1 (I x.hi) (isAgg3 _)<|pu1<|sL a0 2 1 (I y.hi) (isAgg3 _)<|sAdd x.hi y.hi<|pu1<|sTl a0 0 [I (x.lo+y.lo),I (x.hi+y.hi)] sizeOf124 fun _ z0=>nB<|⟨((x.lo+y.lo),(x.hi+y.hi),true),alA,z0,(by rw [papN om];unfold nextV;rw [if_neg om,if_neg om,if_neg om,if_pos om]<;>rfl),(by unfold nextB;rw [if_neg om])⟩
 refine sR<|pu2<|nT<|cE o.code 4 (fun a1=>?_) (fun a1=>?_)
 ·exact rE<|pu1<|sL a0 3 0 (I x.lo) (isAgg3 _)<|pu1<|sL a0 2 1 (I y.hi) (isAgg3 _)<|sSub x.lo y.hi<|pu1<|sL a0 3 1 (I x.hi) (isAgg3 _)<|pu1<|sL a0 2 0 (I y.lo) (isAgg3 _)<|sSub x.hi y.lo<|pu1<|sTl a0 0 [I (x.lo-y.hi),I (x.hi-y.lo)] sizeOf124 fun _ b1=>nB<|⟨((x.lo-y.hi),(x.hi-y.lo),true),alA,b1,(by rw [papN om];unfold nextV;rw [if_neg om,if_neg om,if_neg om,if_neg om,if_pos om]<;>rfl),(by unfold nextB;rw [if_neg om])⟩
 refine sR<|pu2<|nT<|cE o.code 5 (fun c1=>?_) (fun c1=>?_)
 ·refine rE<|lA a0 3 0 2 (isAgg124 _) (sizeOf124 _)<|lA a0 2 0 2 (isAgg124 _) (sizeOf124 _)<|cR call93 (p14_times x y (by first|assumption|(unfold accS;first|assumption|omega)) (by first|assumption|(unfold accS;first|assumption|omega)) a0.flat) ?_
  intro _ d1
  exact pu3<|sTl d1 0 [I (ptLo x y),I (ptHi x y)] sizeOf124 fun _ e1=>pu1<|nB<|⟨((ptLo x y),(ptHi x y),(prodOK x y)),alA,e1,(pap5 om),(by unfold nextB;rw [if_pos om])⟩
 refine sR<|pu2<|nT<|cE o.code 6 (fun f1=>?_) (fun f1=>?_)
 ·exact rE<|pu1<|sL a0 3 0 (I x.lo) (isAgg3 _)<|pu1<|sL a0 2 0 (I y.lo) (isAgg3 _)<|stepY (I (min x.lo y.lo)) rfl rfl (Y_min2 x.lo y.lo rfl rfl kr kr)<|pu1<|sL a0 3 1 (I x.hi) (isAgg3 _)<|pu1<|sL a0 2 1 (I y.hi) (isAgg3 _)<|stepY (I (min x.hi y.hi)) rfl rfl (Y_min2 x.hi y.hi rfl rfl kr kr)<|pu1<|sTl a0 0 [I (min x.lo y.lo),I (min x.hi y.hi)] sizeOf124 fun _ g1=>nB<|⟨((min x.lo y.lo),(min x.hi y.hi),true),alA,g1,(by rw [papN om];unfold nextV;rw [if_neg om,if_neg om,if_neg om,if_neg om,if_neg om,if_neg om,if_pos om]<;>rfl),(by unfold nextB;rw [if_neg om])⟩
 refine sR<|pu2<|nT<|cE o.code 7 (fun h1=>?_) (fun h1=>?_)
 ·exact rE<|pu1<|sL a0 3 0 (I x.lo) (isAgg3 _)<|pu1<|sL a0 2 0 (I y.lo) (isAgg3 _)<|stepY (I (max x.lo y.lo)) rfl rfl (Y_max2 x.lo y.lo rfl rfl kr kr)<|pu1<|sL a0 3 1 (I x.hi) (isAgg3 _)<|pu1<|sL a0 2 1 (I y.hi) (isAgg3 _)<|stepY (I (max x.hi y.hi)) rfl rfl (Y_max2 x.hi y.hi rfl rfl kr kr)<|pu1<|sTl a0 0 [I (max x.lo y.lo),I (max x.hi y.hi)] sizeOf124 fun _ i1=>nB<|⟨((max x.lo y.lo),(max x.hi y.hi),true),alA,i1,(by rw [papN om];unfold nextV;rw [if_neg om,if_neg om,if_neg om,if_neg om,if_neg om,if_neg om,if_neg om,if_pos om]<;>rfl),(by unfold nextB;rw [if_neg om])⟩
 refine sR<|pu2<|nT<|cE o.code 8 (fun j1=>?_) (fun j1=>?_)
 ·exact rE<|pu1<|sL a0 3 1 (I x.hi) (isAgg3 _)<|pu1<|sL a0 2 0 (I y.lo) (isAgg3 _)<|sSub x.hi y.lo<|pu1<|sL a0 2 1 (I y.hi) (isAgg3 _)<|pu1<|sL a0 3 0 (I x.lo) (isAgg3 _)<|sSub y.hi x.lo<|stepY (I (max (x.hi-y.lo) (y.hi-x.lo))) rfl rfl (Y_max2 (x.hi-y.lo) (y.hi-x.lo) rfl rfl kr kr)<|pu1<|sTl a0 0 [I 0,I (max (x.hi-y.lo) (y.hi-x.lo))] sizeOf124 fun _ k1=>nB<|⟨(0,(max (x.hi-y.lo) (y.hi-x.lo)),true),alA,k1,(by rw [papN om];unfold nextV;rw [if_neg om,if_neg om,if_neg om,if_neg om,if_neg om,if_neg om,if_neg om,if_neg om,if_pos om]<;>rfl),(by unfold nextB;rw [if_neg om])⟩
 refine sR<|pu2<|nT<|cE o.code 9 (fun l1=>?_) (fun l1=>?_)
 rotate_left
 ·refine sR<|pu2<|nT<|cE o.code 10 (fun m1=>?_) (fun m1=>?_)
  rotate_left
  ·refine sR<|pu2<|nT ?_
   have n1:(o.code:Int)=11:=om
   refine cT _ (beq_iff_eq.2 n1)<|rE<|lA a0 3 0 2 (isAgg124 _) (sizeOf124 _)<|cR call94 (p14_magnitude x (by first|assumption|(unfold accS;first|assumption|omega)) a0.flat) ?_
   intro _ o1
   exact pu1<|sTl o1 0 [I 0,I (max (((x.lo).natAbs:Nat):Int) (((x.hi).natAbs:Nat):Int))] sizeOf124 fun _ q1=>nB<|⟨(0,(max (((x.lo).natAbs:Nat):Int) (((x.hi).natAbs:Nat):Int)),true),alA,q1,(by rw [papN om];unfold nextV;rw [if_neg om,if_neg om,if_neg om,if_neg om,if_neg om,if_neg om,if_neg om,if_neg om,if_neg om,if_neg om,if_neg om]<;>rfl),(by unfold nextB;rw [if_neg om])⟩
  exact rE<|pu1<|sL a0 3 0 (I x.lo) (isAgg3 _)<|pu1<|sL a0 3 1 (I x.hi) (isAgg3 _)<|pu1<|sL a0 4 1 (I o.arg) (isAgg3 _)<|cR call81 (p7_span x.lo x.hi o.arg a0.flat) fun _ r1=>pu4<|sT1 r1 0 0 (I (shiftV x.lo o.arg)) #[I (shiftV x.lo o.arg),I 0] sizeOf3 fun _ s1=>pu1<|sT1 s1 0 1 (I (shiftV x.hi o.arg)) #[I (shiftV x.lo o.arg),I (shiftV x.hi o.arg)] sizeOf3 fun _ t1=>nB<|⟨((shiftV x.lo o.arg),(shiftV x.hi o.arg),true),alA,t1,(by rw [papN om];unfold nextV;rw [if_neg om,if_neg om,if_neg om,if_neg om,if_neg om,if_neg om,if_neg om,if_neg om,if_neg om,if_neg om,if_pos om]<;>rfl),(by unfold nextB;rw [if_neg om])⟩
 refine drawE [1,4,6] [(0,⟨e0,0,none⟩,I x.lo),(0,⟨e0,1,none⟩,I x.hi),(3,⟨e0,0,none⟩,I x.lo),(3,⟨e0,1,none⟩,I x.hi)] [(true,[0]),(true,[3]),(false,[1]),(true,[2]),(false,[4]),(true,[5]),(false,[6])] rfl kr ⟨cI a0 3,cI a0 3,cI a0 3,cI a0 3,trivial⟩ ?_
 have u1:=a0.drew
 refine wY (.agg #[I x.lo,I x.hi]) rfl (fun w hF=>Y_loadF rfl (isAgg124 w) (sizeOf124 w) kr rfl ⟨hF 0 _ _ rfl,hF 1 _ _ rfl,trivial⟩)<|wY (.agg #[I x.lo,I x.hi]) rfl (fun w hF=>Y_loadF rfl (isAgg124 w) (sizeOf124 w) kr rfl ⟨hF 2 _ _ rfl,hF 3 _ _ rfl,trivial⟩)<|wO rfl<|cR call94 (p14_magnitude x (by first|assumption|(unfold accS;first|assumption|omega)) u1.flat) ?_
 intro _ j0
 refine nilO ⟨⟨dI,dI,cI j0 3,cI j0 3,trivial⟩,?_⟩
 refine wY (I (-(max (((x.lo).natAbs:Nat):Int) (((x.hi).natAbs:Nat):Int)))) rfl (fun w _=>Y_neg (max (((x.lo).natAbs:Nat):Int) (((x.hi).natAbs:Nat):Int)) rfl kr)<|wO rfl<|cR call94 (p14_magnitude x (by first|assumption|(unfold accS;first|assumption|omega)) j0.flat) ?_
 intro _ v1
 refine nilO ⟨dA,?_⟩
 refine wU [5]<|wO rfl<|sTl v1 0 [I (-(max (((x.lo).natAbs:Nat):Int) (((x.hi).natAbs:Nat):Int))),I (max (((x.lo).natAbs:Nat):Int) (((x.hi).natAbs:Nat):Int))] sizeOf124 fun _ w1=>nilO ⟨dA,?_⟩
 exact wN<|bN<|tN<|⟨((-(max (((x.lo).natAbs:Nat):Int) (((x.hi).natAbs:Nat):Int))),(max (((x.lo).natAbs:Nat):Int) (((x.hi).natAbs:Nat):Int)),true),alA,w1,(by rw [papN om];unfold nextV;rw [if_neg om,if_neg om,if_neg om,if_neg om,if_neg om,if_neg om,if_neg om,if_neg om,if_neg om,if_pos om]<;>rfl),(by unfold nextB;rw [if_neg om])⟩
theorem p14_interval (ax : Option Addr) (nx kx : Nat) (x : List POp) (a : Int) (b : Int) (hx : RdT encPOp 2 [H] ax nx kx x) (hS : Sat W w (H :: F)) :
  Ro prog 72 #[.slice ax nx kx, I a, I b] (.tuple #[I ((ivRes x a b).1), I ((ivRes x a b).2.1), I ((ivRes x a b).2.2)]) W w (H :: F) := by
 have hl_x := hx.le; have hn_x := hx.len
 refine callsA 115 func72 rfl ?_
 refine sR <| pu3 <| zQ <| pu1 ?_
 refine cR call71 (p14_valid ax nx kx x true (RdT.flat (hx.up 0 (by rfl))) hS.flat) ?_
 intro _ k0
 refine pu1 <| zS <| pu2 <| nT ?_
 refine cN (opsCode x true) 0 (fun l1 => ?_) (fun l1 => ?_)
 rotate_left
 ·refine sR <| pu4 <| zR <| retT [I 0, I 0, I (opsCode x true)] ?_
  refine ⟨?_, k0⟩
  unfold ivRes
  (repeat' split) <;> first | rfl | (exfalso; omega) | contradiction | (exfalso; simp_all; done) | (simp_all; done)
 refine kT <| seqE <| sR <| pu3 ?_
 refine sD 27 (a < 1) (fun m1 => ?_) (fun m1 => ?_)
 ·refine pu11 <| zC <| pu3 <| zR <| retT [I 0, I 0, I 2] ?_
  refine ⟨?_, k0⟩
  unfold ivRes
  (repeat' split) <;> first | rfl | (exfalso; omega) | contradiction | (exfalso; simp_all; done) | (simp_all; done)
 refine pu4 ?_
 refine sD 31 (a > 4294967296) (fun n1 => ?_) (fun n1 => ?_)
 ·refine pu7 <| zC <| pu3 <| zR <| retT [I 0, I 0, I 2] ?_
  refine ⟨?_, k0⟩
  unfold ivRes
  (repeat' split) <;> first | rfl | (exfalso; omega) | contradiction | (exfalso; simp_all; done) | (simp_all; done)
 refine pu4 ?_
 refine sD 35 (b < 1) (fun o1 => ?_) (fun o1 => ?_)
 ·refine pu3 <| zC <| pu3 <| zR <| retT [I 0, I 0, I 2] ?_
  refine ⟨?_, k0⟩
  unfold ivRes
  (repeat' split) <;> first | rfl | (exfalso; omega) | contradiction | (exfalso; simp_all; done) | (simp_all; done)
 refine pu3 <| nT ?_
 refine cD (b > 4294967296) (fun q1 => ?_) (fun q1 => ?_)
 ·refine sR <| pu3 <| zR <| retT [I 0, I 0, I 2] ?_
  refine ⟨?_, k0⟩
  unfold ivRes
  (repeat' split) <;> first | rfl | (exfalso; omega) | contradiction | (exfalso; simp_all; done) | (simp_all; done)
 refine kT <| seqE ?_
 obtain ⟨hx0, hx1, hx32⟩ := opsCode_go (l := x) (two := true) om
 refine rE <| pu1 <| zQ <| pu3 <| nT <| blockE ?_
 have r1 := Sat.nilc k0
 refine loopA (γ := Nat × (List Sp) × (Option Addr) × Nat × Nat × Chunk) (fun ⟨i, zs, azs, nzs, kzs, czs⟩ => [(1, I a), (2, I b), (39, .slice ax nx kx), (40, I (nx : Int)), (41, I (i : Int)), (10, .slice azs nzs kzs)]) (fun ⟨i, zs, azs, nzs, kzs, czs⟩ w => Sat W w (czs :: H :: F) /\ i <= nx /\ (ivGo a b x [] = ivGo a b (x.drop i) zs) /\ (opsGo true (x.drop i) (zs.length : Int) = 0) /\ (∀ z ∈ zs, accS z) /\ (zs.length <= i) /\ OwnT encSp 124 2 azs nzs kzs zs czs) (fun ⟨i, zs, azs, nzs, kzs, czs⟩ => nx - i) (0, [], none, 0, 0, []) ⟨r1, om, by rfl, (opsCode_go (l := x) (two := true) om).1, (by intro z hz; cases hz), by simp, (OwnT.nil (enc := encSp) (E := 124) (sz := 2) fR)⟩ ?_
 rintro ⟨i, zs, azs, nzs, kzs, czs⟩ ρ _ ⟨l0, hi, hG, hH, hAc, hzl, hOzs⟩
 have hn_zs := hOzs.len; have hl_zs := hOzs.le
 refine sR <| pu1 <| nT <| seqE ?_
 refine cD ((i : Int) < (nx : Int)) (fun t1 => ?_) (fun t1 => ?_)
 rotate_left
 ·refine exitE <| xB <| tN <| seqE ?_
  have hh : opsGo true (x.drop i) zs.length = 0 := hH
  rw [List.drop_of_length_le om] at hh; have hz1 : zs.length = 1 := (by unfold opsGo at hh; split at hh <;> omega)
  obtain ⟨f0, t0, u0, z0, a1, b1, z3⟩ := OwnT.elem hOzs 0
  change _[0]? = _ at z0; change PtR _ _ (_ + 0 * _) _ at a1; change ElemAt _ _ _ _ _ (_ + 0 * _) at b1
  have hacc_x_140 : accS f0 := hAc f0 (List.mem_of_getElem? z0)
  refine drawE [] [(3, ⟨t0, u0 + 0 * 2 + 0, none⟩, I f0.lo), (7, ⟨t0, u0 + 0 * 2 + 1, none⟩, I f0.hi)] [(true, [0]), (true, [1]), (true, [2, 4]), (true, [5]), (true, [6]), (true, [3]), (true, [8]), (true, [7]), (true, [9, 10])] rfl kr ⟨.inr ((a1.up 0 rfl).cell l0 (k := 0) rfl), .inr ((a1.up 0 rfl).cell l0 (k := 1) rfl), trivial⟩ ?_
  have u1 := l0.drew
  refine wU [0] ?_
  refine wY (.pointer (some ⟨t0, u0 + 0 * 2, none⟩)) rfl (fun w _ => Y_idx (a := azs) (i := 0) (len := nzs) (cap := kzs) rfl runUnderlying122 sizeOf124 kr kr b1) ?_
  refine wU [2, 4] ?_
  refine wY (.pointer (some ⟨t0, u0 + 0 * 2, none⟩)) rfl (fun w _ => Y_idx (a := azs) (i := 0) (len := nzs) (cap := kzs) rfl runUnderlying122 sizeOf124 kr kr b1) ?_
  refine wU [6] ?_
  refine wLd (I f0.lo) 0 isAgg3 ?_
  refine wU [8] ?_
  refine wLd (I f0.hi) 1 isAgg3 ?_
  refine wU [9, 10] ?_
  refine wN ?_
  refine tN <| retE <| retT [I f0.lo, I f0.hi, I 0] ?_
  have v1 := (u1.dropAt 0 rfl)
  have hr0 : opsCode x true = 0 := by omega
  have hres : ivRes x a b = (match ivGo a b x [] with | some st => ((st[0]?.getD (⟨0, 0⟩ : Sp)).lo, (st[0]?.getD (⟨0, 0⟩ : Sp)).hi, 0) | none => (0, 0, 11)) := by unfold ivRes; rw [if_pos hr0, if_pos om]; rfl
  have hend : ivGo a b x [] = some zs := by rw [hG, List.drop_of_length_le om]; rfl
  have hz0 : zs[0]? = some f0 := z0
  exact ⟨by rw [hres, hend]; dsimp only; rw [hz0]; rfl, v1⟩
 refine kT <| seqE <| blockE <| sR ?_
 refine sIdx hx (i : Int) runUnderlying57 sizeOf119 ?_
 intro a0 _ _ g0 w1
 rw [Int.toNat_natCast] at g0
 obtain ⟨hob, hoa, hog⟩ := opsGo_zero (by rw [<- drop_at g0]; exact hH)
 have hpk := ptakes_bd a0.code; have htk_x_14 := takesV_bd a0.code; have hob2 : (0 <= a0.code /\ a0.code <= 11) /\ takesV a0.code <= zs.length := (by unfold opBad at hob; omega); have hob3 : 3 <= a0.code -> 1 <= takesV a0.code := (by intro h; unfold takesV; rw [if_neg om]; split <;> omega)
 refine sLpA l0 (w1.up 1 rfl) 0 [I a0.code, I a0.arg] (isAgg119 _) (sizeOf119 _) ?_
 refine sAlloc l0 zeroValue119 ?_
 intro _ _ x1
 refine sTl x1 0 [I a0.code, I a0.arg] sizeOf119 ?_
 intro _ h0
 refine zQ <| pu1 ?_
 refine sL h0 0 0 (I a0.code) (isAgg3 _) ?_
 refine nT <| blockE <| sR <| pu2 <| nT ?_
 refine cE a0.code 0 (fun y1 => ?_) (fun y1 => ?_)
 ·refine sR <| pu3 ?_
  refine sBS h0 #[I 0, I a] runUnderlying122 sizeOf124 zeroValue124 ?_
  intro _ _ z1
  refine sApp (nb := 16) z1 hOzs 2 (RdT.blk (enc := encSp) (sz := 2) (xs := [(⟨0, a⟩ : Sp)]) fR 1 0 rfl rfl rfl om) underlying122 (i := Try.t124) kr fR ?_
  intro a2 b2 c2 _ d2 e2
  refine pu1 <| nT ?_
  refine exitE <| blockK_y rfl <| thenK_x <| blockK_x ?_
  refine tN <| rE ?_
  refine sAdd (i : Int) 1 ?_
  refine pu1 <| nT ?_
  exact ⟨(i + 1, (zs ++ [(⟨0, a⟩ : Sp)]), a2, (nzs + 1), b2, c2), od, alA, (e2.drops [0, 0]), om, by rw [hG, drop_at g0]; exact iv_push om (by unfold nextV; rw [if_pos om]) (by unfold accS; dsimp only; unfold argP at hoa; omega), by rw [List.length_append]; simp only [List.length_cons, List.length_nil]; rw [show (((zs.length + (0 + 1) : Nat)) : Int) = (zs.length : Int) + (1 - takesV a0.code) from by rw [show takesV a0.code = 0 from by unfold takesV; rw [if_pos om]]; omega]; exact hog, (by
    intro z hz
    rcases List.mem_append.1 hz with h | h
    ·exact hAc z h
    ·simp only [List.mem_singleton] at h; subst h; unfold accS; dsimp only; unfold argP at hoa; omega), by simp; omega, d2⟩
 refine sR <| pu2 <| nT ?_
 refine cE a0.code 1 (fun g2 => ?_) (fun g2 => ?_)
 ·refine sR <| pu3 ?_
  refine sBS h0 #[I 0, I b] runUnderlying122 sizeOf124 zeroValue124 ?_
  intro _ _ h2
  refine sApp (nb := 16) h2 hOzs 2 (RdT.blk (enc := encSp) (sz := 2) (xs := [(⟨0, b⟩ : Sp)]) fR 1 0 rfl rfl rfl om) underlying122 (i := Try.t124) kr fR ?_
  intro i2 j2 k2 _ l2 m2
  refine pu1 <| nT ?_
  refine exitE <| blockK_y rfl <| thenK_x <| blockK_x ?_
  refine tN <| rE ?_
  refine sAdd (i : Int) 1 ?_
  refine pu1 <| nT ?_
  exact ⟨(i + 1, (zs ++ [(⟨0, b⟩ : Sp)]), i2, (nzs + 1), j2, k2), od, alA, (m2.drops [0, 0]), om, by rw [hG, drop_at g0]; exact iv_push om (by unfold nextV; rw [if_neg om, if_pos om]) (by unfold accS; dsimp only; unfold argP at hoa; omega), by rw [List.length_append]; simp only [List.length_cons, List.length_nil]; rw [show (((zs.length + (0 + 1) : Nat)) : Int) = (zs.length : Int) + (1 - takesV a0.code) from by rw [show takesV a0.code = 0 from by unfold takesV; rw [if_pos om]]; omega]; exact hog, (by
    intro z hz
    rcases List.mem_append.1 hz with h | h
    ·exact hAc z h
    ·simp only [List.mem_singleton] at h; subst h; unfold accS; dsimp only; unfold argP at hoa; omega), by simp; omega, l2⟩
 refine sR <| pu2 <| nT ?_
 refine cE a0.code 2 (fun o2 => ?_) (fun o2 => ?_)
 ·refine sR <| pu2 ?_
  refine sL h0 0 1 (I a0.arg) (isAgg3 _) ?_
  refine pu1 ?_
  refine sL h0 0 1 (I a0.arg) (isAgg3 _) ?_
  refine pu1 ?_
  refine sBS h0 #[I a0.arg, I a0.arg] runUnderlying122 sizeOf124 zeroValue124 ?_
  intro _ _ q2
  refine sApp (nb := 16) q2 hOzs 2 (RdT.blk (enc := encSp) (sz := 2) (xs := [(⟨a0.arg, a0.arg⟩ : Sp)]) fR 1 0 rfl rfl rfl om) underlying122 (i := Try.t124) kr fR ?_
  intro r2 s2 t2 _ u2 v2
  refine pu1 <| nT ?_
  refine exitE <| blockK_y rfl <| thenK_x <| blockK_x ?_
  refine tN <| rE ?_
  refine sAdd (i : Int) 1 ?_
  refine pu1 <| nT ?_
  exact ⟨(i + 1, (zs ++ [(⟨a0.arg, a0.arg⟩ : Sp)]), r2, (nzs + 1), s2, t2), od, alA, (v2.drops [0, 0]), om, by rw [hG, drop_at g0]; exact iv_push om (by unfold nextV; rw [if_neg om, if_neg om, if_pos om]) (by unfold accS; dsimp only; unfold argP at hoa; omega), by rw [List.length_append]; simp only [List.length_cons, List.length_nil]; rw [show (((zs.length + (0 + 1) : Nat)) : Int) = (zs.length : Int) + (1 - takesV a0.code) from by rw [show takesV a0.code = 0 from by unfold takesV; rw [if_pos om]]; omega]; exact hog, (by
    intro z hz
    rcases List.mem_append.1 hz with h | h
    ·exact hAc z h
    ·simp only [List.mem_singleton] at h; subst h; unfold accS; dsimp only; unfold argP at hoa; omega), by simp; omega, u2⟩
 refine skipE <| bN <| tN <| seqE ?_
 have hc3 : 3 <= a0.code := om; have hob4 := hob3 hc3
 refine rE <| pu1 ?_
 refine sL h0 0 0 (I a0.code) (isAgg3 _) ?_
 refine cR call86 (p14_takes a0.code h0.flat) ?_
 intro _ m0
 have p4 : (0 <= (ptakesV a0.code) /\ (ptakesV a0.code) <= 2) /\ (¬ (0 <= a0.code /\ a0.code <= 11) \/ (ptakesV a0.code) = takesV a0.code) := ptakes_bd _
 refine pu5 <| zS <| pu3 ?_
 refine sSub (nzs : Int) (ptakesV a0.code) ?_
 refine pu1 <| nT <| seqE ?_
 obtain ⟨b0, c1, d1, n0, e0, x2, q4⟩ := OwnT.elem hOzs ((nzs : Int) - (ptakesV a0.code))
 have hacc_x_61 : accS b0 := hAc b0 (List.mem_of_getElem? n0)
 obtain ⟨c0, e1, f1, o0, d0, y2, r4⟩ := OwnT.elem hOzs ((nzs : Int) - 1)
 have hacc_x_68 : accS c0 := hAc c0 (List.mem_of_getElem? o0)
 refine drawP [10, 11, 12, 13] [(3, ⟨c1, d1 + (((nzs : Int) - (ptakesV a0.code))).toNat * 2 + 0, none⟩, I b0.lo), (3, ⟨c1, d1 + (((nzs : Int) - (ptakesV a0.code))).toNat * 2 + 1, none⟩, I b0.hi), (9, ⟨e1, f1 + (((nzs : Int) - 1)).toNat * 2 + 0, none⟩, I c0.lo), (9, ⟨e1, f1 + (((nzs : Int) - 1)).toNat * 2 + 1, none⟩, I c0.hi)] (Plan.sts [0, 1] <| Plan.sts [2] <| Plan.sts [4, 5, 6] <| Plan.sts [7] <| Plan.sts [8] <| Plan.sts [3] <| Plan.sts [9] <| .fk 10 11 (.ef 11 <| .ef 12 <| .ef 13 <| .fin) (.ef 10 <| .ef 12 <| .ef 13 <| .fin)) rfl kr ⟨.inr ((e0.up 1 rfl).cell m0 (k := 0) rfl), .inr ((e0.up 1 rfl).cell m0 (k := 1) rfl), .inr ((d0.up 1 rfl).cell m0 (k := 0) rfl), .inr ((d0.up 1 rfl).cell m0 (k := 1) rfl), trivial⟩ ?_
 have i1 := m0.drew
 refine qU [0, 1] ?_
 refine qY (.pointer (some ⟨c1, d1 + (((nzs : Int) - (ptakesV a0.code))).toNat * 2, none⟩)) rfl (fun w _ => Y_idx (a := azs) (i := ((nzs : Int) - (ptakesV a0.code))) (len := nzs) (cap := kzs) rfl runUnderlying122 sizeOf124 kr kr x2) ?_
 refine qU [4, 5, 6] ?_
 refine qSub (nzs : Int) 1 ?_
 refine qY (.pointer (some ⟨e1, f1 + (((nzs : Int) - 1)).toNat * 2, none⟩)) rfl (fun w _ => Y_idx (a := azs) (i := ((nzs : Int) - 1)) (len := nzs) (cap := kzs) rfl runUnderlying122 sizeOf124 kr kr y2) ?_
 refine qY (.agg #[I b0.lo, I b0.hi]) rfl (fun w hF => Y_loadF rfl (isAgg124 w) (sizeOf124 w) kr rfl ⟨hF 0 _ _ rfl, hF 1 _ _ rfl, trivial⟩) ?_
 refine qY (.agg #[I c0.lo, I c0.hi]) rfl (fun w hF => Y_loadF rfl (isAgg124 w) (sizeOf124 w) kr rfl ⟨hF 2 _ _ rfl, hF 3 _ _ rfl, trivial⟩) ?_
 refine qF ?_ ?_
 ·refine qO rfl ?_
  refine sAlloc i1 zeroValue124 ?_
  intro _ _ p0
  refine nilO ⟨⟨.inr ((e0.up 2 rfl).cell p0 (k := 0) rfl), .inr ((e0.up 2 rfl).cell p0 (k := 1) rfl), .inr ((d0.up 2 rfl).cell p0 (k := 0) rfl), .inr ((d0.up 2 rfl).cell p0 (k := 1) rfl), trivial⟩, ?_⟩
  refine qO rfl ?_
  refine sAlloc p0 zeroValue124 ?_
  intro _ _ q0
  refine nilO ⟨⟨.inr ((e0.up 3 rfl).cell q0 (k := 0) rfl), .inr ((e0.up 3 rfl).cell q0 (k := 1) rfl), .inr ((d0.up 3 rfl).cell q0 (k := 0) rfl), .inr ((d0.up 3 rfl).cell q0 (k := 1) rfl), trivial⟩, ?_⟩
  refine qO rfl ?_
  refine sTl q0 1 [I b0.lo, I b0.hi] sizeOf124 ?_
  intro _ g1
  refine nilO ⟨⟨dI, dI, .inr ((d0.up 3 rfl).cell g1 (k := 0) rfl), .inr ((d0.up 3 rfl).cell g1 (k := 1) rfl), trivial⟩, ?_⟩
  refine qO rfl ?_
  refine sTl g1 0 [I c0.lo, I c0.hi] sizeOf124 ?_
  intro _ v0
  refine nilO ⟨dA, ?_⟩
  refine qN ?_
  refine tN <| sR ?_
  refine lA v0 2 0 2 (isAgg119 _) (sizeOf119 _) ?_
  refine lA v0 1 0 2 (isAgg124 _) (sizeOf124 _) ?_
  refine lA v0 0 0 2 (isAgg124 _) (sizeOf124 _) ?_
  refine cR call88 (p14_apply a0 b0 c0 (by first | assumption | (unfold accS; first | assumption | omega)) (by first | assumption | (unfold accS; first | assumption | omega)) om ‹_› v0.flat) ?_
  intro _ z2
  refine pu3 ?_
  refine sAlloc z2 zeroValue124 ?_
  intro j1 _ a3
  refine sTl a3 0 [I ((papV a0 b0 c0).lo), I ((papV a0 b0 c0).hi)] sizeOf124 ?_
  intro _ w0
  refine pu1 <| zQ <| pu2 <| nT ?_
  refine cDn (nextOK a0 b0 c0 1 1) (fun i0 => ?_) (fun i0 => ?_)
  rotate_left
  ·refine sR <| pu3 <| zE <| tR <| tK <| tR <| tK <| retT [I 0, I 0, I 11] ?_
   have b3 := (w0.drops [0, 0, 0, 0, 0])
   have hr0 : opsCode x true = 0 := by omega
   have hres : ivRes x a b = (match ivGo a b x [] with | some st => ((st[0]?.getD (⟨0, 0⟩ : Sp)).lo, (st[0]?.getD (⟨0, 0⟩ : Sp)).hi, 0) | none => (0, 0, 11)) := by unfold ivRes; rw [if_pos hr0, if_pos om]; rfl
   have hbad : ivGo a b x [] = none := by rw [hG, drop_at g0]; exact iv_no om (by have e := n0; rw [show zs.length - (takesV a0.code).toNat = ((nzs : Int) - (ptakesV a0.code)).toNat by omega]; exact e) (by have e := o0; rw [show zs.length - 1 = ((nzs : Int) - 1).toNat by omega]; exact e) i0
   exact ⟨by rw [hres, hbad]; rfl, b3⟩
  refine kT ?_
  refine drawE [4, 5] [(3, ⟨j1, 0, none⟩, I ((papV a0 b0 c0).lo)), (3, ⟨j1, 1, none⟩, I ((papV a0 b0 c0).hi))] [(true, [0, 1]), (true, [2]), (true, [3]), (false, [4]), (false, [5]), (true, [6])] rfl kr ⟨cI w0 0, cI w0 0, trivial⟩ ?_
  have c3 := w0.drew
  refine wU [0, 1] ?_
  have d3 := hOzs.part (lo := 0) (hi := (((nzs : Int) - (ptakesV a0.code))).toNat) om om
  refine wY (.slice (partAddr azs kzs 0 2) ((((nzs : Int) - (ptakesV a0.code))).toNat - 0) (kzs - 0)) rfl (fun w _ => Y_sl (a := azs) (len := nzs) (cap := kzs) none (some ((nzs : Int) - (ptakesV a0.code))) 0 ((((nzs : Int) - (ptakesV a0.code))).toNat) runUnderlying122 sizeOf124 rfl ⟨om, om⟩ om om) ?_
  refine wY (.agg #[I ((papV a0 b0 c0).lo), I ((papV a0 b0 c0).hi)]) rfl (fun w hF => Y_loadF rfl (isAgg124 w) (sizeOf124 w) kr rfl ⟨hF 0 _ _ rfl, hF 1 _ _ rfl, trivial⟩) ?_
  refine wO rfl ?_
  refine sBS c3 #[I ((papV a0 b0 c0).lo), I ((papV a0 b0 c0).hi)] runUnderlying122 sizeOf124 zeroValue124 ?_
  intro _ _ e3
  refine nilO ⟨dA, ?_⟩
  refine wO rfl ?_
  refine sApp (nb := 16) e3 d3 5 (RdT.blk (enc := encSp) (sz := 2) (xs := [(⟨(papV a0 b0 c0).lo, (papV a0 b0 c0).hi⟩ : Sp)]) fR 1 0 rfl rfl rfl om) underlying122 (i := Try.t124) kr fR ?_
  intro f3 g3 h3 _ i3 j3
  refine nilO ⟨dA, ?_⟩
  refine wU [6] ?_
  refine wN ?_
  refine bN <| tN <| rE ?_
  refine sAdd (i : Int) 1 ?_
  refine pu1 <| nT ?_
  have k3 := (j3.drops [0, 0, 0, 0, 0])
  exact ⟨(i + 1, (((zs.drop 0).take ((((nzs : Int) - (ptakesV a0.code))).toNat - 0)) ++ [(⟨(papV a0 b0 c0).lo, (papV a0 b0 c0).hi⟩ : Sp)]), f3, (((((nzs : Int) - (ptakesV a0.code))).toNat - 0) + 1), g3, h3), od, alA, k3, om, by rw [hG, drop_at g0, iv_op (m := ((zs.drop 0).take ((((nzs : Int) - (ptakesV a0.code))).toNat - 0))) om (by have e := n0; rw [show zs.length - (takesV a0.code).toNat = ((nzs : Int) - (ptakesV a0.code)).toNat by omega]; exact e) (by have e := o0; rw [show zs.length - 1 = ((nzs : Int) - 1).toNat by omega]; exact e) i0 (by rw [List.drop_zero]; congr 1; omega), <- pap_acc i0], by simp only [List.length_append, List.length_take, List.length_drop, List.length_cons, List.length_nil]; rw [show (((min _ _ + (0 + 1) : Nat)) : Int) = (zs.length : Int) + (1 - takesV a0.code) from by omega]; exact hog, (by
    intro z hz
    rcases List.mem_append.1 hz with h | h
    ·exact hAc z (List.mem_of_mem_drop (List.mem_of_mem_take h))
    ·simp only [List.mem_singleton] at h; subst h; show accS (papV _ _ _); rw [pap_acc i0]; exact ⟨i0.2.1, i0.2.2⟩), by simp; omega, i3⟩
 refine qO rfl ?_
 refine sAlloc i1 zeroValue124 ?_
 intro _ _ r0
 refine nilO ⟨⟨.inr ((e0.up 2 rfl).cell r0 (k := 0) rfl), .inr ((e0.up 2 rfl).cell r0 (k := 1) rfl), .inr ((d0.up 2 rfl).cell r0 (k := 0) rfl), .inr ((d0.up 2 rfl).cell r0 (k := 1) rfl), trivial⟩, ?_⟩
 refine qO rfl ?_
 refine sAlloc r0 zeroValue124 ?_
 intro _ _ s0
 refine nilO ⟨⟨.inr ((e0.up 3 rfl).cell s0 (k := 0) rfl), .inr ((e0.up 3 rfl).cell s0 (k := 1) rfl), .inr ((d0.up 3 rfl).cell s0 (k := 0) rfl), .inr ((d0.up 3 rfl).cell s0 (k := 1) rfl), trivial⟩, ?_⟩
 refine qO rfl ?_
 refine sTl s0 0 [I b0.lo, I b0.hi] sizeOf124 ?_
 intro _ h1
 refine nilO ⟨⟨dI, dI, .inr ((d0.up 3 rfl).cell h1 (k := 0) rfl), .inr ((d0.up 3 rfl).cell h1 (k := 1) rfl), trivial⟩, ?_⟩
 refine qO rfl ?_
 refine sTl h1 1 [I c0.lo, I c0.hi] sizeOf124 ?_
 intro _ x0
 refine nilO ⟨dA, ?_⟩
 refine qN ?_
 refine tN <| sR ?_
 refine lA x0 2 0 2 (isAgg119 _) (sizeOf119 _) ?_
 refine lA x0 0 0 2 (isAgg124 _) (sizeOf124 _) ?_
 refine lA x0 1 0 2 (isAgg124 _) (sizeOf124 _) ?_
 refine cR call88 (p14_apply a0 b0 c0 (by first | assumption | (unfold accS; first | assumption | omega)) (by first | assumption | (unfold accS; first | assumption | omega)) om ‹_› x0.flat) ?_
 intro _ l3
 refine pu3 ?_
 refine sAlloc l3 zeroValue124 ?_
 intro k1 _ m3
 refine sTl m3 0 [I ((papV a0 b0 c0).lo), I ((papV a0 b0 c0).hi)] sizeOf124 ?_
 intro _ y0
 refine pu1 <| zQ <| pu2 <| nT ?_
 refine cDn (nextOK a0 b0 c0 1 1) (fun j0 => ?_) (fun j0 => ?_)
 rotate_left
 ·refine sR <| pu3 <| zE <| tR <| tK <| tR <| tK <| retT [I 0, I 0, I 11] ?_
  have n3 := (y0.drops [0, 0, 0, 0, 0])
  have hr0 : opsCode x true = 0 := by omega
  have hres : ivRes x a b = (match ivGo a b x [] with | some st => ((st[0]?.getD (⟨0, 0⟩ : Sp)).lo, (st[0]?.getD (⟨0, 0⟩ : Sp)).hi, 0) | none => (0, 0, 11)) := by unfold ivRes; rw [if_pos hr0, if_pos om]; rfl
  have hbad : ivGo a b x [] = none := by rw [hG, drop_at g0]; exact iv_no om (by have e := n0; rw [show zs.length - (takesV a0.code).toNat = ((nzs : Int) - (ptakesV a0.code)).toNat by omega]; exact e) (by have e := o0; rw [show zs.length - 1 = ((nzs : Int) - 1).toNat by omega]; exact e) j0
  exact ⟨by rw [hres, hbad]; rfl, n3⟩
 refine kT ?_
 refine drawE [4, 5] [(3, ⟨k1, 0, none⟩, I ((papV a0 b0 c0).lo)), (3, ⟨k1, 1, none⟩, I ((papV a0 b0 c0).hi))] [(true, [0, 1]), (true, [2]), (true, [3]), (false, [4]), (false, [5]), (true, [6])] rfl kr ⟨cI y0 0, cI y0 0, trivial⟩ ?_
 have o3 := y0.drew
 refine wU [0, 1] ?_
 have p3 := hOzs.part (lo := 0) (hi := (((nzs : Int) - (ptakesV a0.code))).toNat) om om
 refine wY (.slice (partAddr azs kzs 0 2) ((((nzs : Int) - (ptakesV a0.code))).toNat - 0) (kzs - 0)) rfl (fun w _ => Y_sl (a := azs) (len := nzs) (cap := kzs) none (some ((nzs : Int) - (ptakesV a0.code))) 0 ((((nzs : Int) - (ptakesV a0.code))).toNat) runUnderlying122 sizeOf124 rfl ⟨om, om⟩ om om) ?_
 refine wY (.agg #[I ((papV a0 b0 c0).lo), I ((papV a0 b0 c0).hi)]) rfl (fun w hF => Y_loadF rfl (isAgg124 w) (sizeOf124 w) kr rfl ⟨hF 0 _ _ rfl, hF 1 _ _ rfl, trivial⟩) ?_
 refine wO rfl ?_
 refine sBS o3 #[I ((papV a0 b0 c0).lo), I ((papV a0 b0 c0).hi)] runUnderlying122 sizeOf124 zeroValue124 ?_
 intro _ _ q3
 refine nilO ⟨dA, ?_⟩
 refine wO rfl ?_
 refine sApp (nb := 16) q3 p3 5 (RdT.blk (enc := encSp) (sz := 2) (xs := [(⟨(papV a0 b0 c0).lo, (papV a0 b0 c0).hi⟩ : Sp)]) fR 1 0 rfl rfl rfl om) underlying122 (i := Try.t124) kr fR ?_
 intro r3 s3 t3 _ u3 v3
 refine nilO ⟨dA, ?_⟩
 refine wU [6] ?_
 refine wN ?_
 refine bN <| tN <| rE ?_
 refine sAdd (i : Int) 1 ?_
 refine pu1 <| nT ?_
 have w3 := (v3.drops [0, 0, 0, 0, 0])
 exact ⟨(i + 1, (((zs.drop 0).take ((((nzs : Int) - (ptakesV a0.code))).toNat - 0)) ++ [(⟨(papV a0 b0 c0).lo, (papV a0 b0 c0).hi⟩ : Sp)]), r3, (((((nzs : Int) - (ptakesV a0.code))).toNat - 0) + 1), s3, t3), od, alA, w3, om, by rw [hG, drop_at g0, iv_op (m := ((zs.drop 0).take ((((nzs : Int) - (ptakesV a0.code))).toNat - 0))) om (by have e := n0; rw [show zs.length - (takesV a0.code).toNat = ((nzs : Int) - (ptakesV a0.code)).toNat by omega]; exact e) (by have e := o0; rw [show zs.length - 1 = ((nzs : Int) - 1).toNat by omega]; exact e) j0 (by rw [List.drop_zero]; congr 1; omega), <- pap_acc j0], by simp only [List.length_append, List.length_take, List.length_drop, List.length_cons, List.length_nil]; rw [show (((min _ _ + (0 + 1) : Nat)) : Int) = (zs.length : Int) + (1 - takesV a0.code) from by omega]; exact hog, (by
   intro z hz
   rcases List.mem_append.1 hz with h | h
   ·exact hAc z (List.mem_of_mem_drop (List.mem_of_mem_take h))
   ·simp only [List.mem_singleton] at h; subst h; show accS (papV _ _ _); rw [pap_acc j0]; exact ⟨j0.2.1, j0.2.2⟩), by simp; omega, u3⟩
end Go.Proofs.Ytmlhcafjelkjfaa
