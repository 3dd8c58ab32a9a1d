import Derived.Test.YtghcddbhllkbmaaGreatR4P4Tp
namespace Go.Proofs.YtghcddbhllkbmaaGreat
open Go Go.E Go.Proofs.Tryz
set_option linter.all false
set_option maxRecDepth 100000
set_option maxHeartbeats 2000000
variable {W w:World} {H:Chunk} {F:List Chunk}
def ptakesV (c:Int):Int:=if 0<=c/\c<=11 then takesV c else 0
theorem ptakes_bd (c:Int):(0<=ptakesV c/\ptakesV c<=2)/\(¬(0<=c/\c<=11)\/ptakesV c=takesV c):=by
  have:=takesV_bd c
  unfold ptakesV
  split<;>omega
def papV (o:POp) (x y:Sp):Sp:=if o.code=5/\prodOK x y=false then ⟨0,0⟩ else nextV o x y 1 1
def ptLo (x y:Sp):Int:=if prodOK x y=true then prodLo x y else 0
def ptHi (x y:Sp):Int:=if prodOK x y=true then prodHi x y else 0
theorem p14_takes (x:Int) (hS:Sat W w (H::F)):
  Ro prog 168 #[I x] (.tuple #[I (ptakesV x), .bool (decide ((0:Int)<=x/\x<=11))]) W w (H::F):=by
 refine callsK 20 func168 rfl<|jCC 20 rfl<|cE x 0 (fun a0=>jCC 2 rfl<|cT _ (beq_iff_eq.2 a0)<|jCR 9 rfl<|retT [I 0, .bool true]<|⟨by rw [show ptakesV x=0 from (by unfold ptakesV takesV;(repeat' split)<;>first|rfl|(exfalso;omega)),show decide ((0:Int)<=x/\x<=11)=true from decide_eq_true om];rfl,hS⟩) fun a0=>jCC 6 rfl<|cE x 1 (fun b0=>jCC 2 rfl<|cT _ (beq_iff_eq.2 b0)<|jCR 9 rfl<|retT [I 0, .bool true]<|⟨by rw [show ptakesV x=0 from (by unfold ptakesV takesV;(repeat' split)<;>first|rfl|(exfalso;omega)),show decide ((0:Int)<=x/\x<=11)=true from decide_eq_true om];rfl,hS⟩) fun b0=>jCC 5 rfl<|cE x 2 (fun j0=>jCR 9 rfl<|retT [I 0, .bool true]<|⟨by rw [show ptakesV x=0 from (by unfold ptakesV takesV;(repeat' split)<;>first|rfl|(exfalso;omega)),show decide ((0:Int)<=x/\x<=11)=true from decide_eq_true om];rfl,hS⟩) fun j0=>jCC 7 rfl<|cE x 3 (fun c0=>jCC 2 rfl<|cT _ (beq_iff_eq.2 c0)<|jCR 9 rfl<|retT [I 2, .bool true]<|⟨by rw [show ptakesV x=2 from (by unfold ptakesV takesV;(repeat' split)<;>first|rfl|(exfalso;omega)),show decide ((0:Int)<=x/\x<=11)=true from decide_eq_true om];rfl,hS⟩) fun c0=>jCC 6 rfl<|cE x 4 (fun d0=>jCC 2 rfl<|cT _ (beq_iff_eq.2 d0)<|jCR 9 rfl<|retT [I 2, .bool true]<|⟨by rw [show ptakesV x=2 from (by unfold ptakesV takesV;(repeat' split)<;>first|rfl|(exfalso;omega)),show decide ((0:Int)<=x/\x<=11)=true from decide_eq_true om];rfl,hS⟩) fun d0=>?_
 exact jCC 6 rfl<|cE x 5 (fun e0=>jCC 2 rfl<|cT _ (beq_iff_eq.2 e0)<|jCR 9 rfl<|retT [I 2, .bool true]<|⟨by rw [show ptakesV x=2 from (by unfold ptakesV takesV;(repeat' split)<;>first|rfl|(exfalso;omega)),show decide ((0:Int)<=x/\x<=11)=true from decide_eq_true om];rfl,hS⟩) fun e0=>jCC 6 rfl<|cE x 6 (fun f0=>jCC 2 rfl<|cT _ (beq_iff_eq.2 f0)<|jCR 9 rfl<|retT [I 2, .bool true]<|⟨by rw [show ptakesV x=2 from (by unfold ptakesV takesV;(repeat' split)<;>first|rfl|(exfalso;omega)),show decide ((0:Int)<=x/\x<=11)=true from decide_eq_true om];rfl,hS⟩) fun f0=>jCC 6 rfl<|cE x 7 (fun g0=>jCC 2 rfl<|cT _ (beq_iff_eq.2 g0)<|jCR 9 rfl<|retT [I 2, .bool true]<|⟨by rw [show ptakesV x=2 from (by unfold ptakesV takesV;(repeat' split)<;>first|rfl|(exfalso;omega)),show decide ((0:Int)<=x/\x<=11)=true from decide_eq_true om];rfl,hS⟩) fun g0=>jCC 6 rfl<|cE x 8 (fun h0=>jCC 2 rfl<|cT _ (beq_iff_eq.2 h0)<|jCR 9 rfl<|retT [I 2, .bool true]<|⟨by rw [show ptakesV x=2 from (by unfold ptakesV takesV;(repeat' split)<;>first|rfl|(exfalso;omega)),show decide ((0:Int)<=x/\x<=11)=true from decide_eq_true om];rfl,hS⟩) fun h0=>jCC 5 rfl<|cE x 9 (fun k0=>jCR 9 rfl<|retT [I 2, .bool true]<|⟨by rw [show ptakesV x=2 from (by unfold ptakesV takesV;(repeat' split)<;>first|rfl|(exfalso;omega)),show decide ((0:Int)<=x/\x<=11)=true from decide_eq_true om];rfl,hS⟩) fun k0=>jCC 7 rfl<|cE x 10 (fun i0=>jCC 2 rfl<|cT _ (beq_iff_eq.2 i0)<|jCR 9 rfl<|retT [I 1, .bool true]<|⟨by rw [show ptakesV x=1 from (by unfold ptakesV takesV;(repeat' split)<;>first|rfl|(exfalso;omega)),show decide ((0:Int)<=x/\x<=11)=true from decide_eq_true om];rfl,hS⟩) fun i0=>jCC 5 rfl<|cE x 11 (fun l0=>jCR 9 rfl<|retT [I 1, .bool true]<|⟨by rw [show ptakesV x=1 from (by unfold ptakesV takesV;(repeat' split)<;>first|rfl|(exfalso;omega)),show decide ((0:Int)<=x/\x<=11)=true from decide_eq_true om];rfl,hS⟩) fun l0=>jCR 10 rfl<|retT [I 0, .bool false]<|⟨by rw [show ptakesV x=0 from (by unfold ptakesV takesV;(repeat' split)<;>first|rfl|(exfalso;omega)),show decide ((0:Int)<=x/\x<=11)=false from decide_eq_false om];rfl,hS⟩
theorem p14_argument (o:POp) (hS:Sat W w (H::F)):
  Ro prog 169 #[.agg #[I o.code,I o.arg]] (.bool (decide (argP o))) W w (H::F):=by
 exact callsK 28 func169 rfl<|jCO 2 rfl<|sBx hS [I o.code,I o.arg] fun _ _ a0=>gOC a0 17 [0] rfl<|cE o.code 2 (fun b0=>gCO a0 6 [0] rfl<|SD 10 (-4294967296<=o.arg) (fun c0=>jOR 10 rfl<|retT [.bool false]<|⟨rB (by unfold argP;exact bq),(a0.dropAt 0 rfl)⟩) fun c0=>gOR a0 10 [0] rfl<|retT [.bool (decide ((o.arg:Int)<=4294967296))]<|⟨rB (by unfold argP;exact bq),(a0.dropAt 0 rfl)⟩) fun b0=>jCC 6 rfl<|CE o.code 10 (fun f0=>gCR a0 12 [0] rfl<|retT [.bool ((o.arg:Int)==0)]<|⟨rB (by unfold argP;exact bq),(a0.dropAt 0 rfl)⟩) fun f0=>gCO a0 6 [0] rfl<|SD 20 (0<=o.arg) (fun h0=>jOR 10 rfl<|retT [.bool false]<|⟨rB (by unfold argP;exact bq),(a0.dropAt 0 rfl)⟩) fun h0=>gOR a0 10 [0] rfl<|retT [.bool (decide ((o.arg:Int)<=24))]<|⟨rB (by unfold argP;exact bq),(a0.dropAt 0 rfl)⟩
theorem p14_valid (ax:Option Addr) (nx kx:Nat) (x:List POp) (two:Bool) (hx:RdT encPOp 2 [H] ax nx kx x) (hS:Sat W w (H::F)):
  Ro prog 136 #[.slice ax nx kx, .bool two] (I (opsCode x two)) W w (H::F):=by
 have A0:=hx.ll
 refine callsK 56 func136 rfl<|jCO 12 rfl<|sE 13 (nx:Int) 0 (fun h0=>jOR 14 rfl<|retT [I 9]<|⟨by unfold opsCode;rw [if_pos om];rfl,hS⟩) fun h0=>jOC 6 rfl<|cD ((nx:Int)>32) (fun i0=>jCR 7 rfl<|retT [I 9]<|⟨by unfold opsCode;rw [if_pos om];rfl,hS⟩) fun i0=>jCC 16 rfl<|loopF [1,18,19] (γ:=Nat×Int) (fun ⟨i,h⟩ R=>⟨[(20,I (i:Int)),(5,I h)],R,nx-i,i<=nx/\(opsGo two x 0=opsGo two (x.drop i) h)/\(0<=h/\h<=(i:Int))⟩) (0,0) ⟨hS,om,by rfl,om⟩ ?_
 rintro ⟨i,h⟩ ρ _ ⟨d0,hi,hG,hb⟩
 refine jCC 6 rfl<|CD ((i:Int)<(nx:Int)) (fun j0=>jCC 12 rfl<|CN h 1 (fun k0=>jCR 7 rfl<|retT [I 1]<|(by have u0:opsCode x two=opsGo two (x.drop i) h:=(by unfold opsCode;rw [if_neg om];exact hG);exact ⟨by rw [u0,List.drop_of_length_le om,opsGo];rw [if_neg om];rfl,d0⟩)) fun k0=>jCR 8 rfl<|retT [I 0]<|(by have u0:opsCode x two=opsGo two (x.drop i) h:=(by unfold opsCode;rw [if_neg om];exact hG);exact ⟨by rw [u0,List.drop_of_length_le om,opsGo];rw [if_pos om];rfl,d0⟩)) fun j0=>jCO 6 rfl<|sIN hx i fun a0 _ _ b0 l0=>sMA d0 (l0.up 0 rfl) 0 [I a0.code,I a0.arg]<|sAlloc d0 zeroValue75 fun _ _ m0=>sTk m0 0 rfl [I a0.code,I a0.arg] fun _ e0=>gOO e0 6 [0] rfl<|cS (p14_takes a0.code e0.flat) fun _ c0=>?_
 have j1:(0<=(ptakesV a0.code)/\(ptakesV a0.code)<=2)/\(¬(0<=a0.code/\a0.code<=11)\/(ptakesV a0.code)=takesV a0.code):=ptakes_bd _
 refine jOO 13 rfl<|SDn 32 ((0:Int)<=a0.code/\a0.code<=11) (fun n0=>jOR 28 rfl<|retT [I 1]<|(by have o0:=(c0.dropAt 0 rfl);have u0:opsCode x two=opsGo two (x.drop i) h:=(by unfold opsCode;rw [if_neg om];exact hG);exact ⟨by rw [u0,drop_at b0,opsGo];rw [if_pos (by unfold opBad;first|omega|(simp_all;done)|(simp_all;omega))];rfl,o0⟩)) fun n0=>gOO c0 4 [0] rfl<|SE 36 a0.code 1 (fun p0=>jOC 11 rfl<|cD ((ptakesV a0.code)>h) (fun q0=>jCR 12 rfl<|retT [I 1]<|(by have r0:=(c0.dropAt 0 rfl);have u0:opsCode x two=opsGo two (x.drop i) h:=(by unfold opsCode;rw [if_neg om];exact hG);exact ⟨by rw [u0,drop_at b0,opsGo];rw [if_pos (by unfold opBad;first|omega|(simp_all;done)|(simp_all;omega))];rfl,r0⟩)) fun q0=>gCO c0 6 [200] rfl<|cS (p14_argument a0 c0.flat) fun _ f0=>jOC 3 rfl<|CDn (argP a0) (fun s0=>jCR 12 rfl<|retT [I 10]<|(by have t0:=(f0.dropAt 0 rfl);have u0:opsCode x two=opsGo two (x.drop i) h:=(by unfold opsCode;rw [if_neg om];exact hG);exact ⟨by rw [u0,drop_at b0,opsGo];rw [if_neg (by unfold opBad;first|omega|(simp_all;done)|(simp_all;omega)),if_neg ‹_›];rfl,t0⟩)) fun s0=>jCO 5 rfl<|sSub 1 (ptakesV a0.code)<|sAdd h (1-(ptakesV a0.code))<|jOO 5 rfl<|sAdd (i:Int) 1<|jOI 2 rfl<|⟨(i+1,(h+(1-(ptakesV a0.code)))),od,alB,(f0.dropAt 0 rfl),om,by rw [hG,drop_at b0,opsGo,if_neg (by unfold opBad;first|omega|(simp_all;done)|(simp_all;omega)),if_pos ‹_›,show takesV a0.code=ptakesV a0.code by omega],om⟩) fun p0=>?_
 exact pu5<|SBn 41 two (fun v0=>jOR 19 rfl<|retT [I 1]<|(by have w0:=(c0.dropAt 0 rfl);have u0:opsCode x two=opsGo two (x.drop i) h:=(by unfold opsCode;rw [if_neg om];exact hG);exact ⟨by rw [u0,drop_at b0,opsGo];rw [if_pos (by unfold opBad;first|omega|(simp_all;done)|(simp_all;omega))];rfl,w0⟩)) fun v0=>jOC 6 rfl<|cD ((ptakesV a0.code)>h) (fun x0=>jCR 12 rfl<|retT [I 1]<|(by have y0:=(c0.dropAt 0 rfl);have u0:opsCode x two=opsGo two (x.drop i) h:=(by unfold opsCode;rw [if_neg om];exact hG);exact ⟨by rw [u0,drop_at b0,opsGo];rw [if_pos (by unfold opBad;first|omega|(simp_all;done)|(simp_all;omega))];rfl,y0⟩)) fun x0=>gCO c0 6 [200] rfl<|cS (p14_argument a0 c0.flat) fun _ g0=>jOC 3 rfl<|CDn (argP a0) (fun z0=>jCR 12 rfl<|retT [I 10]<|(by have a1:=(g0.dropAt 0 rfl);have u0:opsCode x two=opsGo two (x.drop i) h:=(by unfold opsCode;rw [if_neg om];exact hG);exact ⟨by rw [u0,drop_at b0,opsGo];rw [if_neg (by unfold opBad;first|omega|(simp_all;done)|(simp_all;omega)),if_neg ‹_›];rfl,a1⟩)) fun z0=>jCO 5 rfl<|sSub 1 (ptakesV a0.code)<|sAdd h (1-(ptakesV a0.code))<|jOO 5 rfl<|sAdd (i:Int) 1<|jOI 2 rfl<|⟨(i+1,(h+(1-(ptakesV a0.code)))),od,alB,(g0.dropAt 0 rfl),om,by rw [hG,drop_at b0,opsGo,if_neg (by unfold opBad;first|omega|(simp_all;done)|(simp_all;omega)),if_pos ‹_›,show takesV a0.code=ptakesV a0.code by omega],om⟩
theorem p14_abs (a:Int) (ha:-9223372036854775807<=a/\a<=9223372036854775807) (hS:Sat W w (H::F)):
    Ro prog 193 #[.int .i64 a] (.int .i64 (a.natAbs:Int)) W w (H::F):=by
  exact callsK 7 func193 rfl<|jCO 9 rfl<|stepY (.int .i64 (-a)) rfl rfl (Y_neg a rfl (by kernel_rfl))<|stepY (.int .i64 (max a (-a))) rfl rfl (Y_max2 a (-a) rfl rfl (by kernel_rfl) (by kernel_rfl))<|jOR 4 rfl<|retT [.int .i64 (max a (-a))]<|⟨congrArg (fun c=>Ending.returned (.int .i64 c)) (by omega),hS⟩
theorem p14_within (x:Int) (hS:Sat W w (H::F)):
  Ro prog 191 #[I x] (.bool (decide ((-17592186044416:Int)<=x/\x<=17592186044416))) W w (H::F):=by
 exact callsK 9 func191 rfl<|jCO 10 rfl<|SD 5 (-17592186044416<=x) (fun a0=>jOR 7 rfl<|retT [.bool false]<|⟨rB bq,hS⟩) fun a0=>jOR 7 rfl<|retT [.bool (decide ((x:Int)<=17592186044416))]<|⟨rB bq,hS⟩
theorem p14_product (a:Int) (b:Int) (ha:-17592186044416<=a/\a<=17592186044416) (hb:-17592186044416<=b/\b<=17592186044416) (hS:Sat W w (H::F)):
  Ro prog 192 #[I a,I b] (.tuple #[I (timesV a b), .bool (timesOK a b)]) W w (H::F):=by
 exact callsK 19 func192 rfl<|jCO 12 rfl<|sN 8 b 0 (fun b0=>jOC 13 rfl<|(by have ht:=times_t (a:=a) (b:=b) (x:=(a.natAbs:Int)) (y:=(b.natAbs:Int)) om om om om om;exact jCO 3 rfl<|sMul a b<|jOR 5 rfl<|retT [I (a*b), .bool true]<|⟨by rw [ht.1,ht.2.1];rfl,hS⟩)) fun b0=>pu1<|gY<|cS (p14_abs a (od) hS.flat) fun _ c0=>pu1<|gY<|cS (p14_abs b (od) c0.flat) fun _ a0=>gY<|sQuo 17592186044416 (b.natAbs:Int)<|jOC 4 rfl<|cD ((a.natAbs:Int)>((17592186044416:Int).tdiv (b.natAbs:Int))) (fun d0=>jCR 8 rfl<|retT [I 0, .bool false]<|(by have ht:=times_f (a:=a) (b:=b) (x:=(a.natAbs:Int)) (y:=(b.natAbs:Int)) om om om;exact ⟨by rw [ht.1,ht.2];rfl,a0⟩)) fun d0=>jCC 3 rfl<|(by have ht:=times_t (a:=a) (b:=b) (x:=(a.natAbs:Int)) (y:=(b.natAbs:Int)) om om om om om;exact jCO 3 rfl<|sMul a b<|jOR 5 rfl<|retT [I (a*b), .bool true]<|⟨by rw [ht.1,ht.2.1];rfl,a0⟩)
theorem p14_times (x:Sp) (y:Sp) (hx:accS x) (hy:accS y) (hS:Sat W w (H::F)):
  Ro prog 189 #[.agg #[I x.lo,I x.hi], .agg #[I y.lo,I y.hi]] (.tuple #[.agg #[I (ptLo x y),I (ptHi x y)], .bool (prodOK x y)]) W w (H::F):=by
 have B0:=hx.1;have C0:=hx.2;have D0:=hy.1;have E0:=hy.2
 refine callsA 63 func189 rfl<|sR<|sBx hS [I x.lo,I x.hi] fun _ _ q0=>sBx q0 [I y.lo,I y.hi] fun _ _ r0=>sAlloc r0 zeroValue185 fun _ _ s0=>pu1<|zS<|sAlloc s0 zeroValue185 fun _ _ a0=>zQ<|pu1<|sM a0 3 0 (I x.lo)<|pu1<|sM a0 2 0 (I y.lo)<|pu2<|sM a0 3 0 (I x.lo)<|pu1<|sM a0 2 1 (I y.hi)<|pu2<|sM a0 3 1 (I x.hi)<|pu1<|sM a0 2 0 (I y.lo)<|pu2<|sM a0 3 1 (I x.hi)<|pu1<|sM a0 2 1 (I y.hi)<|pu3<|nT<|blockE<|loopN 5<|roundS<|sR<|pu1<|nT<|seqE<|cTt<|kT<|seqE<|blockE<|sR<|pu2<|sAlloc a0 zeroValue199 fun _ _ t0=>pu1<|sTk t0 0 rfl [I x.lo,I y.lo] fun _ e0=>zS<|pu1<|sM e0 0 0 (I x.lo)<|pu1<|sM e0 0 1 (I y.lo)<|cS (p14_product x.lo y.lo (od) (od) e0.flat) fun _ j0=>pu5<|zQ<|pu2<|nT<|CBn (timesOK x.lo y.lo) (fun u0=>sR<|pu1<|sTk j0 2 rfl [I 0,I 0] fun _ k0=>pu1<|zE<|tR<|tK<|tR<|tK<|retD k0 2 [I 0,I 0] (.bool false)<|(by have v0:=(k0.drops [0,0,0,0,0]);have A0:prodOK x y=false:=(by simp [prodOK, *]);exact ⟨by rw [A0];unfold ptLo ptHi;rw [A0];rfl,v0⟩)) fun u0=>?_
 refine kT<|seqE<|sR<|pu2<|nT<|cTt<|rE<|pu3<|sTk j0 1 rfl [I (timesV x.lo y.lo),I (timesV x.lo y.lo)] fun _ f0=>nT<|rE<|pu1<|sM f0 1 0 (I (timesV x.lo y.lo))<|pu1<|stepY (I (min (timesV x.lo y.lo) (timesV x.lo y.lo))) rfl rfl (Y_min2 (timesV x.lo y.lo) (timesV x.lo y.lo) rfl rfl kr kr)<|pu1<|sM f0 1 1 (I (timesV x.lo y.lo))<|pu1<|stepY (I (max (timesV x.lo y.lo) (timesV x.lo y.lo))) rfl rfl (Y_max2 (timesV x.lo y.lo) (timesV x.lo y.lo) rfl rfl kr kr)<|pu1<|sTk f0 1 rfl [I (min (timesV x.lo y.lo) (timesV x.lo y.lo)),I (max (timesV x.lo y.lo) (timesV x.lo y.lo))] fun _ w0=>nB<|rE<|pu2<|nT<|roundS<|sR<|pu1<|nT<|seqE<|cTt<|kT<|seqE<|blockE<|sR<|pu2<|sAlloc w0 zeroValue199 fun _ _ x0=>pu1<|sTk x0 0 rfl [I x.lo,I y.hi] fun _ g0=>zS<|pu1<|sM g0 0 0 (I x.lo)<|pu1<|sM g0 0 1 (I y.hi)<|cS (p14_product x.lo y.hi (od) (od) g0.flat) fun _ b0=>pu5<|zQ<|pu2<|nT<|CBn (timesOK x.lo y.hi) (fun y0=>sR<|pu1<|sTk b0 3 rfl [I 0,I 0] fun _ l0=>pu1<|zE<|tR<|tK<|tR<|tK<|retD l0 3 [I 0,I 0] (.bool false)<|(by have z0:=(l0.drops [0,0,0,0,0,0]);have A0:prodOK x y=false:=(by simp [prodOK, *]);exact ⟨by rw [A0];unfold ptLo ptHi;rw [A0];rfl,z0⟩)) fun y0=>?_
 refine kT<|seqE<|sR<|pu2<|nT<|cFf<|kT<|rE<|pu1<|sM b0 2 0 (I (min (timesV x.lo y.lo) (timesV x.lo y.lo)))<|pu1<|stepY (I (min (min (timesV x.lo y.lo) (timesV x.lo y.lo)) (timesV x.lo y.hi))) rfl rfl (Y_min2 (min (timesV x.lo y.lo) (timesV x.lo y.lo)) (timesV x.lo y.hi) rfl rfl kr kr)<|pu1<|sM b0 2 1 (I (max (timesV x.lo y.lo) (timesV x.lo y.lo)))<|pu1<|stepY (I (max (max (timesV x.lo y.lo) (timesV x.lo y.lo)) (timesV x.lo y.hi))) rfl rfl (Y_max2 (max (timesV x.lo y.lo) (timesV x.lo y.lo)) (timesV x.lo y.hi) rfl rfl kr kr)<|pu1<|sTk b0 2 rfl [I (min (min (timesV x.lo y.lo) (timesV x.lo y.lo)) (timesV x.lo y.hi)),I (max (max (timesV x.lo y.lo) (timesV x.lo y.lo)) (timesV x.lo y.hi))] fun _ a1=>nB<|rE<|pu2<|nT<|roundS<|sR<|pu1<|nT<|seqE<|cTt<|kT<|seqE<|blockE<|sR<|pu2<|sAlloc a1 zeroValue199 fun _ _ b1=>pu1<|sTk b1 0 rfl [I x.hi,I y.lo] fun _ h0=>zS<|pu1<|sM h0 0 0 (I x.hi)<|pu1<|sM h0 0 1 (I y.lo)<|cS (p14_product x.hi y.lo (od) (od) h0.flat) fun _ c0=>pu5<|zQ<|pu2<|nT<|CBn (timesOK x.hi y.lo) (fun c1=>sR<|pu1<|sTk c0 4 rfl [I 0,I 0] fun _ m0=>pu1<|zE<|tR<|tK<|tR<|tK<|retD m0 4 [I 0,I 0] (.bool false)<|(by have d1:=(m0.drops [0,0,0,0,0,0,0]);have A0:prodOK x y=false:=(by simp [prodOK, *]);exact ⟨by rw [A0];unfold ptLo ptHi;rw [A0];rfl,d1⟩)) fun c1=>?_
 refine kT<|seqE<|sR<|pu2<|nT<|cFf<|kT<|rE<|pu1<|sM c0 3 0 (I (min (min (timesV x.lo y.lo) (timesV x.lo y.lo)) (timesV x.lo y.hi)))<|pu1<|stepY (I (min (min (min (timesV x.lo y.lo) (timesV x.lo y.lo)) (timesV x.lo y.hi)) (timesV x.hi y.lo))) rfl rfl (Y_min2 (min (min (timesV x.lo y.lo) (timesV x.lo y.lo)) (timesV x.lo y.hi)) (timesV x.hi y.lo) rfl rfl kr kr)<|pu1<|sM c0 3 1 (I (max (max (timesV x.lo y.lo) (timesV x.lo y.lo)) (timesV x.lo y.hi)))<|pu1<|stepY (I (max (max (max (timesV x.lo y.lo) (timesV x.lo y.lo)) (timesV x.lo y.hi)) (timesV x.hi y.lo))) rfl rfl (Y_max2 (max (max (timesV x.lo y.lo) (timesV x.lo y.lo)) (timesV x.lo y.hi)) (timesV x.hi y.lo) rfl rfl kr kr)<|pu1<|sTk c0 3 rfl [I (min (min (min (timesV x.lo y.lo) (timesV x.lo y.lo)) (timesV x.lo y.hi)) (timesV x.hi y.lo)),I (max (max (max (timesV x.lo y.lo) (timesV x.lo y.lo)) (timesV x.lo y.hi)) (timesV x.hi y.lo))] fun _ e1=>nB<|rE<|pu2<|nT<|roundS<|sR<|pu1<|nT<|seqE<|cTt<|kT<|seqE<|blockE<|sR<|pu2<|sAlloc e1 zeroValue199 fun _ _ f1=>pu1<|sTk f1 0 rfl [I x.hi,I y.hi] fun _ i0=>zS<|pu1<|sM i0 0 0 (I x.hi)<|pu1<|sM i0 0 1 (I y.hi)<|cS (p14_product x.hi y.hi (od) (od) i0.flat) fun _ d0=>pu5<|zQ<|pu2<|nT<|CBn (timesOK x.hi y.hi) (fun g1=>sR<|pu1<|sTk d0 5 rfl [I 0,I 0] fun _ n0=>pu1<|zE<|tR<|tK<|tR<|tK<|retD n0 5 [I 0,I 0] (.bool false)<|(by have h1:=(n0.drops [0,0,0,0,0,0,0,0]);have A0:prodOK x y=false:=(by simp [prodOK, *]);exact ⟨by rw [A0];unfold ptLo ptHi;rw [A0];rfl,h1⟩)) fun g1=>?_
 refine kT<|seqE<|sR<|pu2<|nT<|cFf<|kT<|rE<|pu1<|sM d0 4 0 (I (min (min (min (timesV x.lo y.lo) (timesV x.lo y.lo)) (timesV x.lo y.hi)) (timesV x.hi y.lo)))<|pu1<|stepY (I (min (min (min (min (timesV x.lo y.lo) (timesV x.lo y.lo)) (timesV x.lo y.hi)) (timesV x.hi y.lo)) (timesV x.hi y.hi))) rfl rfl (Y_min2 (min (min (min (timesV x.lo y.lo) (timesV x.lo y.lo)) (timesV x.lo y.hi)) (timesV x.hi y.lo)) (timesV x.hi y.hi) rfl rfl kr kr)<|pu1<|sM d0 4 1 (I (max (max (max (timesV x.lo y.lo) (timesV x.lo y.lo)) (timesV x.lo y.hi)) (timesV x.hi y.lo)))<|pu1<|stepY (I (max (max (max (max (timesV x.lo y.lo) (timesV x.lo y.lo)) (timesV x.lo y.hi)) (timesV x.hi y.lo)) (timesV x.hi y.hi))) rfl rfl (Y_max2 (max (max (max (timesV x.lo y.lo) (timesV x.lo y.lo)) (timesV x.lo y.hi)) (timesV x.hi y.lo)) (timesV x.hi y.hi) rfl rfl kr kr)<|pu1<|sTk d0 4 rfl [I (min (min (min (min (timesV x.lo y.lo) (timesV x.lo y.lo)) (timesV x.lo y.hi)) (timesV x.hi y.lo)) (timesV x.hi y.hi)),I (max (max (max (max (timesV x.lo y.lo) (timesV x.lo y.lo)) (timesV x.lo y.hi)) (timesV x.hi y.lo)) (timesV x.hi y.hi))] fun _ o0=>nB<|rE<|pu2<|nT<|roundS<|sR<|pu1<|nT<|seqE<|cFf<|exitE<|xB<|tN<|sR ?_
 refine lB o0 4 0 2<|sTk o0 5 rfl [I (min (min (min (min (timesV x.lo y.lo) (timesV x.lo y.lo)) (timesV x.lo y.hi)) (timesV x.hi y.lo)) (timesV x.hi y.hi)),I (max (max (max (max (timesV x.lo y.lo) (timesV x.lo y.lo)) (timesV x.lo y.hi)) (timesV x.hi y.lo)) (timesV x.hi y.hi))] fun _ p0=>pu1<|zE<|retD p0 5 [I (min (min (min (min (timesV x.lo y.lo) (timesV x.lo y.lo)) (timesV x.lo y.hi)) (timesV x.hi y.lo)) (timesV x.hi y.hi)),I (max (max (max (max (timesV x.lo y.lo) (timesV x.lo y.lo)) (timesV x.lo y.hi)) (timesV x.hi y.lo)) (timesV x.hi y.hi))] (.bool true) ?_
 have i1:=(p0.drops [0,0,0,0,0,0,0,0])
 have A0:prodOK x y=true:=by simp [prodOK, *]
 exact ⟨by rw [A0];unfold ptLo ptHi;rw [if_pos A0,if_pos A0,show prodLo x y=(min (min (min (min (timesV x.lo y.lo) (timesV x.lo y.lo)) (timesV x.lo y.hi)) (timesV x.hi y.lo)) (timesV x.hi y.hi)) by unfold prodLo;omega,show prodHi x y=(max (max (max (max (timesV x.lo y.lo) (timesV x.lo y.lo)) (timesV x.lo y.hi)) (timesV x.hi y.lo)) (timesV x.hi y.hi)) by unfold prodHi;omega];rfl,i1⟩
theorem p14_magnitude (x:Sp) (hx:accS x) (hS:Sat W w (H::F)):
  Ro prog 190 #[.agg #[I x.lo,I x.hi]] (I (max (((x.lo).natAbs:Nat):Int) (((x.hi).natAbs:Nat):Int))) W w (H::F):=by
 have e0:=hx.1;have f0:=hx.2
 exact callsK 10 func190 rfl<|jCO 2 rfl<|sBx hS [I x.lo,I x.hi] fun _ _ b0=>jOC 4 rfl<|drawF b0 [2,5] (fb 1 0 0 1<|fb 4 0 1 1<|fn) [0,3,1,4,2,5,6,7] fun _ c0=>wV 2<|wL 0<|wL 1<|wO rfl<|cS (p14_abs x.lo (od) c0.flat) fun _ a0=>nZ a0 [0]<|wO rfl<|cS (p14_abs x.hi (od) a0.flat) fun _ d0=>nA<|wY (I (max (x.lo.natAbs:Int) (x.hi.natAbs:Int))) rfl (fun w _=>Y_max2 (x.lo.natAbs:Int) (x.hi.natAbs:Int) rfl rfl kr kr)<|wV 1<|wN<|jXR 2 rfl<|retT [I (max (x.lo.natAbs:Int) (x.hi.natAbs:Int))]<|⟨rfl,(d0.dropAt 0 rfl)⟩
end Go.Proofs.YtghcddbhllkbmaaGreat

namespace Go.Proofs.YtghcddbhllkbmaaGreat
open Go Go.E Go.Proofs.Tryz
set_option linter.all false
set_option maxRecDepth 100000
set_option maxHeartbeats 2000000
variable {W w:World} {H:Chunk} {F:List Chunk}
theorem pap5 {o:POp} {x y:Sp} (h:o.code=5):papV o x y=⟨ptLo x y,ptHi x y⟩:=by
  unfold papV ptLo ptHi
  cases hp:prodOK x y
  · rw [if_pos ⟨h,rfl⟩];rfl
  · rw [if_neg (by simp),if_pos rfl,if_pos rfl];unfold nextV;rw [if_neg (by omega),if_neg (by omega),if_neg (by omega),if_neg (by omega),if_neg (by omega),if_pos h]
theorem papN {o:POp} {x y:Sp} (h:¬o.code=5):papV o x y=nextV o x y 1 1:=by unfold papV;rw [if_neg (fun k=>h k.1)]
theorem pap_ok {o:POp} {x y:Sp} {vlo vhi:Int} {vb:Bool} (hv:papV o x y=⟨vlo,vhi⟩) (hvb:nextB o x y=vb):nextOK o x y 1 1↔(vb=true/\(-17592186044416<=vlo/\vlo<=17592186044416)/\-17592186044416<=vhi/\vhi<=17592186044416):=by
  unfold nextOK
  rw [hvb]
  by_cases hb:vb=true
  · exact (by have e:nextV o x y 1 1=⟨vlo,vhi⟩:=(by rw [<-hv];unfold papV;rw [if_neg];rintro ⟨h5,hp⟩;rw [hb] at hvb;unfold nextB at hvb;rw [if_pos h5,hp] at hvb;cases hvb);rw [e])
  · exact ⟨fun h=>absurd h.1 hb,fun h=>absurd h.1 hb⟩
theorem next_ab {o:POp} {x y:Sp} {a b:Int} (h:3<=o.code):nextV o x y a b=nextV o x y 1 1:=by
  have h0:¬o.code=0:=(by omega);have h1:¬o.code=1:=(by omega);have h2:¬o.code=2:=(by omega)
  simp only [nextV,h0,h1,h2,if_false]
theorem next_y {o:POp} {x y z:Sp} {a b:Int} (h:10<=o.code):nextV o x y a b=nextV o x z a b:=by
  have h0:¬o.code=0:=(by omega);have h1:¬o.code=1:=(by omega);have h2:¬o.code=2:=(by omega);have h3:¬o.code=3:=(by omega);have h4:¬o.code=4:=(by omega);have h5:¬o.code=5:=(by omega);have h6:¬o.code=6:=(by omega);have h7:¬o.code=7:=(by omega);have h8:¬o.code=8:=(by omega);have h9:¬o.code=9:=(by omega)
  simp only [nextV,h0,h1,h2,h3,h4,h5,h6,h7,h8,h9,if_false]
theorem nextB_y {o:POp} {x y z:Sp} (h:10<=o.code):nextB o x y=nextB o x z:=by unfold nextB;rw [if_neg (by omega),if_neg (by omega)]
theorem iv_xy {o:POp} {st:List Sp} {x y:Sp} {a b:Int} (hc:3<=o.code/\o.code<=11) (hx:st[st.length-(takesV o.code).toNat]?=some x) (hy:st[st.length-1]?=some y):
  ivX o st=x/\nextV o x (ivY o st) a b=nextV o x y 1 1/\(nextOK o x (ivY o st) a b↔nextOK o x y 1 1):=by
 have h1:ivX o st=x:=by unfold ivX;rw [if_pos (by unfold takesV;split;omega;split<;>omega),hx];rfl
 have h2:nextV o x (ivY o st) a b=nextV o x y 1 1/\nextB o x (ivY o st)=nextB o x y:=by
  by_cases h:10<=o.code
  ·exact ⟨(next_ab om).trans (next_y h),nextB_y h⟩
  · exact (by have e:ivY o st=y:=(by unfold ivY;rw [if_pos (by unfold takesV;rw [if_neg om,if_neg om]),hy];rfl);rw [e];exact ⟨next_ab om,rfl⟩)
 exact ⟨h1,h2.1,by unfold nextOK;rw [h2.1,h2.2]⟩
theorem iv_op {a b:Int} {o:POp} {l:List POp} {st m:List Sp} {x y:Sp} (hc:3<=o.code/\o.code<=11) (hx:st[st.length-(takesV o.code).toNat]?=some x) (hy:st[st.length-1]?=some y) (hok:nextOK o x y 1 1) (hm:m=st.take (st.length-(takesV o.code).toNat)):
    ivGo a b (o::l) st=ivGo a b l (m++[nextV o x y 1 1]):=by
  obtain ⟨h1,h2,h3⟩:=iv_xy (a:=a) (b:=b) hc hx hy
  subst hm
  rw [ivGo,h1,h2,if_pos (h3.2 hok)]
theorem iv_no {a b:Int} {o:POp} {l:List POp} {st:List Sp} {x y:Sp} (hc:3<=o.code/\o.code<=11) (hx:st[st.length-(takesV o.code).toNat]?=some x) (hy:st[st.length-1]?=some y) (hok:¬nextOK o x y 1 1):ivGo a b (o::l) st=none:=by
  obtain ⟨h1,h2,h3⟩:=iv_xy (a:=a) (b:=b) hc hx hy
  rw [ivGo,h1,if_neg (fun k=>hok (h3.1 k))]
theorem iv_push {a b:Int} {o:POp} {l:List POp} {st:List Sp} {z:Sp} (hc:0<=o.code/\o.code<=2) (hz:nextV o ⟨0,0⟩ ⟨0,0⟩ a b=z) (hz2:accS z):ivGo a b (o::l) st=ivGo a b l (st++[z]):=by
  have t0:takesV o.code=0:=by unfold takesV;rw [if_pos (by omega)]
  have h1:ivX o st=⟨0,0⟩:=by unfold ivX;rw [if_neg (by omega)]
  have h2:ivY o st=⟨0,0⟩:=by unfold ivY;rw [if_neg (by omega)]
  have h3:nextB o ⟨0,0⟩ ⟨0,0⟩=true:=by unfold nextB;rw [if_neg (by omega)]
  rw [ivGo,h1,h2,if_pos ⟨h3,by rw [hz];exact hz2.1,by rw [hz];exact hz2.2⟩,hz,t0]
  congr 1
  rw [show st.length-(0:Int).toNat=st.length from rfl,List.take_length]
theorem pap_acc {o:POp} {x y:Sp} (h:nextOK o x y 1 1):papV o x y=nextV o x y 1 1:=by
  unfold papV
  rw [if_neg]
  rintro ⟨h5,hp⟩
  have h1:=h.1
  unfold nextB at h1
  rw [if_pos h5,hp] at h1;cases h1
theorem p14_apply (o:POp) (x:Sp) (y:Sp) (hx:accS x) (hy:accS y) (hc:3<=o.code/\o.code<=11) (ho:argP o) (hS:Sat W w (H::F)):
  Ro prog 170 #[.agg #[I o.code,I o.arg], .agg #[I x.lo,I x.hi], .agg #[I y.lo,I y.hi]] (.tuple #[.agg #[I ((papV o x y).lo),I ((papV o x y).hi)], .bool (decide (nextOK o x y 1 1))]) W w (H::F):=by
 have E0:=hx.1;have F0:=hx.2;have G0:=hy.1;have H0:=hy.2
 refine callsK 125 func170 rfl<|jCO 2 rfl<|sBx hS [I o.code,I o.arg] fun _ _ l0=>sBx l0 [I x.lo,I x.hi] fun _ _ m0=>sBx m0 [I y.lo,I y.hi] fun _ _ n0=>sAlloc n0 zeroValue185 fun _ _ o0=>jOO 5 rfl<|sAlloc o0 zeroValue185 fun p0 _ a0=>jOC 7 rfl<|cutF a0 1 [6,8] (γ:=Int×Int×Bool) (fun ⟨B0,A0,vb⟩ R=>⟨[(9, .bool vb)],[(p0, .cells #[I B0,I A0] 185 (0,0))]::R,0,(papV o x y=⟨B0,A0⟩)/\(nextB o x y=vb)⟩) ?_ ?_
 rotate_left
 · exact (by rintro ⟨B0,A0,vb⟩ ρ _ ⟨d0,hv,hvb⟩;exact jCC 1 rfl<|bC (vb=true) (fun e0=>drawF d0 [5,10,12] (fb 0 0 0 2<|fn) [1,2,3,0,4,5,6,7,8,9,10,11,12,13] fun _ c0=>wV 2<|wFix 115 _ false (Bool.eq_false_iff.2 e0)<|wV 1<|wG 0 2<|wV 1<|wO rfl<|pu1<|nZ c0 [0]<|wV 4<|wO rfl<|pu1<|nZ c0 [0]<|wV 1<|wO rfl<|sTk c0 1 rfl [I B0,I A0] fun _ f0=>nA<|wV 1<|wN<|jXR 2 rfl<|retD f0 1 [I B0,I A0] (.bool false)<|(by have q0:=(f0.drops [0,0,0,0,0]);have C0:=pap_ok hv hvb;have D0:decide (nextOK o x y 1 1)=false:=decide_eq_false (fun h=>by obtain ⟨h3,h4,h5⟩:=C0.1 h;first|contradiction|omega);exact ⟨by rw [D0,hv];rfl,q0⟩)) fun e0=>drawF d0 [5,9,10,12] (fb 0 0 0 2<|fb 4 0 0 1<|fn) [1,2,3,0,4,5,6,7,8,9,10,11,12,13] fun _ r0=>wV 2<|wFix 115 _ true e0<|wV 1<|wG 0 2<|wL 2<|wO rfl<|gY<|cS (p14_within B0 r0.flat) fun _ b0=>nZ b0 [0]<|wV 2<|bC ((-17592186044416:Int)<=B0/\B0<=17592186044416) (fun g0=>wFix 120 _ false (decide_eq_false g0)<|wV 1<|wO rfl<|pu1<|nZ b0 [0]<|wO rfl<|pu1<|nZ b0 [0]<|wV 1<|wO rfl<|sTk b0 1 rfl [I B0,I A0] fun _ h0=>nA<|wV 1<|wN<|jXR 2 rfl<|retD h0 1 [I B0,I A0] (.bool false)<|(by have s0:=(h0.drops [0,0,0,0,0]);have C0:=pap_ok hv hvb;have D0:decide (nextOK o x y 1 1)=false:=decide_eq_false (fun h=>by obtain ⟨h3,h4,h5⟩:=C0.1 h;first|contradiction|omega);exact ⟨by rw [D0,hv];rfl,s0⟩)) fun g0=>wFix 120 _ true (decide_eq_true g0)<|wV 1<|wO rfl<|gY<|sM b0 0 1 (I A0)<|nZ b0 [0]<|wO rfl<|gY<|cS (p14_within A0 b0.flat) fun _ i0=>nZ i0 [0]<|wV 1<|wO rfl<|sTk i0 1 rfl [I B0,I A0] fun _ j0=>nA<|wV 1<|wN<|jXR 2 rfl<|retD j0 1 [I B0,I A0] (.bool (decide ((-17592186044416:Int)<=A0/\A0<=17592186044416)))<|(by have t0:=(j0.drops [0,0,0,0,0]);have C0:=pap_ok hv hvb;have D0:decide (nextOK o x y 1 1)=decide ((-17592186044416:Int)<=A0/\A0<=17592186044416):=decide_eq_decide.2 (C0.trans ⟨fun h=>h.2.2,fun h=>⟨by assumption,om,h⟩⟩);exact ⟨by rw [D0,hv];rfl,t0⟩))
 refine gCC a0 13 [4] rfl<|cE o.code 3 (fun u0=>gCO a0 5 [3,2] rfl<|sAdd x.lo y.lo<|gOO a0 4 [3,2] rfl<|sAdd x.hi y.hi<|pu1<|sTk a0 0 rfl [I (x.lo+y.lo),I (x.hi+y.hi)] fun _ v0=>jOI 2 rfl<|⟨((x.lo+y.lo),(x.hi+y.hi),true),alB,v0,(by rw [papN om];unfold nextV;rw [if_neg om,if_neg om,if_neg om,if_pos om]<;>rfl),(by unfold nextB;rw [if_neg om])⟩) fun u0=>jCC 6 rfl<|cE o.code 4 (fun w0=>gCO a0 5 [3,2] rfl<|sSub x.lo y.hi<|gOO a0 4 [3,2] rfl<|sSub x.hi y.lo<|pu1<|sTk a0 0 rfl [I (x.lo-y.hi),I (x.hi-y.lo)] fun _ x0=>jOI 2 rfl<|⟨((x.lo-y.hi),(x.hi-y.lo),true),alB,x0,(by rw [papN om];unfold nextV;rw [if_neg om,if_neg om,if_neg om,if_neg om,if_pos om]<;>rfl),(by unfold nextB;rw [if_neg om])⟩) fun w0=>jCC 6 rfl<|cE o.code 5 (fun y0=>gCO a0 3 [203,202] rfl<|cS (p14_times x y (by first|assumption|(unfold accS;first|assumption|omega)) (by first|assumption|(unfold accS;first|assumption|omega)) a0.flat) fun _ z0=>pu3<|sTk z0 0 rfl [I (ptLo x y),I (ptHi x y)] fun _ a1=>jOI 3 rfl<|⟨((ptLo x y),(ptHi x y),(prodOK x y)),alB,a1,(pap5 om),(by unfold nextB;rw [if_pos om])⟩) fun y0=>?_
 refine jCC 6 rfl<|cE o.code 6 (fun b1=>gCO a0 5 [3,2] rfl<|stepY (I (min x.lo y.lo)) rfl rfl (Y_min2 x.lo y.lo rfl rfl kr kr)<|gOO a0 4 [3,2] rfl<|stepY (I (min x.hi y.hi)) rfl rfl (Y_min2 x.hi y.hi rfl rfl kr kr)<|pu1<|sTk a0 0 rfl [I (min x.lo y.lo),I (min x.hi y.hi)] fun _ c1=>jOI 2 rfl<|⟨((min x.lo y.lo),(min x.hi y.hi),true),alB,c1,(by rw [papN om];unfold nextV;rw [if_neg om,if_neg om,if_neg om,if_neg om,if_neg om,if_neg om,if_pos om]<;>rfl),(by unfold nextB;rw [if_neg om])⟩) fun b1=>jCC 6 rfl<|cE o.code 7 (fun d1=>gCO a0 5 [3,2] rfl<|stepY (I (max x.lo y.lo)) rfl rfl (Y_max2 x.lo y.lo rfl rfl kr kr)<|gOO a0 4 [3,2] rfl<|stepY (I (max x.hi y.hi)) rfl rfl (Y_max2 x.hi y.hi rfl rfl kr kr)<|pu1<|sTk a0 0 rfl [I (max x.lo y.lo),I (max x.hi y.hi)] fun _ e1=>jOI 2 rfl<|⟨((max x.lo y.lo),(max x.hi y.hi),true),alB,e1,(by rw [papN om];unfold nextV;rw [if_neg om,if_neg om,if_neg om,if_neg om,if_neg om,if_neg om,if_neg om,if_pos om]<;>rfl),(by unfold nextB;rw [if_neg om])⟩) fun d1=>jCC 6 rfl<|cE o.code 8 (fun f1=>gCO a0 5 [3,2] rfl<|sSub x.hi y.lo<|gOO a0 4 [2,3] rfl<|sSub y.hi x.lo<|stepY (I (max (x.hi-y.lo) (y.hi-x.lo))) rfl rfl (Y_max2 (x.hi-y.lo) (y.hi-x.lo) rfl rfl kr kr)<|pu1<|sTk a0 0 rfl [I 0,I (max (x.hi-y.lo) (y.hi-x.lo))] fun _ g1=>jOI 2 rfl<|⟨(0,(max (x.hi-y.lo) (y.hi-x.lo)),true),alB,g1,(by rw [papN om];unfold nextV;rw [if_neg om,if_neg om,if_neg om,if_neg om,if_neg om,if_neg om,if_neg om,if_neg om,if_pos om]<;>rfl),(by unfold nextB;rw [if_neg om])⟩) fun f1=>jCC 6 rfl<|cE o.code 9 (fun h1=>drawF a0 [1,4,6] (fb 0 3 0 2<|fb 3 3 0 2<|fn) [0,3,1,2,4,5,6] fun _ i1=>wG 0 2<|wG 2 2<|wO rfl<|cS (p14_magnitude x (by first|assumption|(unfold accS;first|assumption|omega)) i1.flat) fun _ k0=>nZ k0 [3]<|wY (I (-(max (((x.lo).natAbs:Nat):Int) (((x.hi).natAbs:Nat):Int)))) rfl (fun w _=>Y_neg (max (((x.lo).natAbs:Nat):Int) (((x.hi).natAbs:Nat):Int)) rfl kr)<|wO rfl<|cS (p14_magnitude x (by first|assumption|(unfold accS;first|assumption|omega)) k0.flat) fun _ j1=>nA<|wV 1<|wO rfl<|sTk j1 0 rfl [I (-(max (((x.lo).natAbs:Nat):Int) (((x.hi).natAbs:Nat):Int))),I (max (((x.lo).natAbs:Nat):Int) (((x.hi).natAbs:Nat):Int))] fun _ k1=>nA<|wN<|jXI 1 rfl<|⟨((-(max (((x.lo).natAbs:Nat):Int) (((x.hi).natAbs:Nat):Int))),(max (((x.lo).natAbs:Nat):Int) (((x.hi).natAbs:Nat):Int)),true),alB,k1,(by rw [papN om];unfold nextV;rw [if_neg om,if_neg om,if_neg om,if_neg om,if_neg om,if_neg om,if_neg om,if_neg om,if_neg om,if_pos om]<;>rfl),(by unfold nextB;rw [if_neg om])⟩) fun h1=>?_
 exact jCC 6 rfl<|CE o.code 10 (fun l1=>jCC 6 rfl<|(by have m1:(o.code:Int)=11:=om;exact cT _ (beq_iff_eq.2 m1)<|gCO a0 2 [203] rfl<|cS (p14_magnitude x (by first|assumption|(unfold accS;first|assumption|omega)) a0.flat) fun _ n1=>pu1<|sTk n1 0 rfl [I 0,I (max (((x.lo).natAbs:Nat):Int) (((x.hi).natAbs:Nat):Int))] fun _ o1=>jOI 2 rfl<|⟨(0,(max (((x.lo).natAbs:Nat):Int) (((x.hi).natAbs:Nat):Int)),true),alB,o1,(by rw [papN om];unfold nextV;rw [if_neg om,if_neg om,if_neg om,if_neg om,if_neg om,if_neg om,if_neg om,if_neg om,if_neg om,if_neg om,if_neg om]<;>rfl),(by unfold nextB;rw [if_neg om])⟩)) fun l1=>gCO a0 7 [3,3,4] rfl<|cS (p7_span x.lo x.hi o.arg a0.flat) fun _ q1=>pu4<|sT q1 0 0 (I (shiftV x.lo o.arg)) [I (shiftV x.lo o.arg)] #[I (shiftV x.lo o.arg),I 0] sizeOf3 fun _ r1=>pu1<|sT r1 0 1 (I (shiftV x.hi o.arg)) [I (shiftV x.hi o.arg)] #[I (shiftV x.lo o.arg),I (shiftV x.hi o.arg)] sizeOf3 fun _ s1=>jOI 2 rfl<|⟨((shiftV x.lo o.arg),(shiftV x.hi o.arg),true),alB,s1,(by rw [papN om];unfold nextV;rw [if_neg om,if_neg om,if_neg om,if_neg om,if_neg om,if_neg om,if_neg om,if_neg om,if_neg om,if_neg om,if_pos om]<;>rfl),(by unfold nextB;rw [if_neg om])⟩
theorem p14_interval (ax:Option Addr) (nx kx:Nat) (x:List POp) (a:Int) (b:Int) (hx:RdT encPOp 2 [H] ax nx kx x) (hS:Sat W w (H::F)):
  Ro prog 137 #[.slice ax nx kx,I a,I b] (.tuple #[I ((ivRes x a b).1),I ((ivRes x a b).2.1),I ((ivRes x a b).2.2)]) W w (H::F):=by
 have hl_x:=hx.le;have hn_x:=hx.len
 refine callsK 115 func137 rfl<|jCO 11 rfl<|cR call136 (p14_valid ax nx kx x true (RdT.flat (hx.up 0 (by rfl))) hS.flat) fun _ j0=>jOC 9 rfl<|cN (opsCode x true) 0 (fun c1=>?_) (fun c1=>?_)
 rotate_left
 ·refine jCR 10 rfl<|retT [I 0,I 0,I (opsCode x true)]<|⟨?_,j0⟩
  unfold ivRes
  (repeat' split)<;>first|rfl|(exfalso;omega)|contradiction|(exfalso;simp_all;done)|(simp_all;done)
 refine jCO 8 rfl<|sD 27 (a<1) (fun d1=>?_) (fun d1=>?_)
 ·refine jOR 23 rfl<|retT [I 0,I 0,I 2]<|⟨?_,j0⟩
  unfold ivRes
  (repeat' split)<;>first|rfl|(exfalso;omega)|contradiction|(exfalso;simp_all;done)|(simp_all;done)
 refine pu4<|sD 31 (a>4294967296) (fun e1=>?_) (fun e1=>?_)
 ·refine jOR 19 rfl<|retT [I 0,I 0,I 2]<|⟨?_,j0⟩
  unfold ivRes
  (repeat' split)<;>first|rfl|(exfalso;omega)|contradiction|(exfalso;simp_all;done)|(simp_all;done)
 refine pu4<|sD 35 (b<1) (fun f1=>?_) (fun f1=>?_)
 ·refine jOR 15 rfl<|retT [I 0,I 0,I 2]<|⟨?_,j0⟩
  unfold ivRes
  (repeat' split)<;>first|rfl|(exfalso;omega)|contradiction|(exfalso;simp_all;done)|(simp_all;done)
 refine jOC 5 rfl<|cD (b>4294967296) (fun g1=>?_) (fun g1=>?_)
 ·refine jCR 9 rfl<|retT [I 0,I 0,I 2]<|⟨?_,j0⟩
  unfold ivRes
  (repeat' split)<;>first|rfl|(exfalso;omega)|contradiction|(exfalso;simp_all;done)|(simp_all;done)
 refine jCC 3 rfl ?_
 obtain ⟨hx0,hx1,hx32⟩:=opsCode_go (l:=x) (two:=true) om
 refine jCC 13 rfl ?_
 have h1:=Sat.nilc j0
 refine loopF [1,2,39,40] (γ:=Nat×(List Sp)×(Option Addr)×Nat×Nat×Chunk) (fun ⟨i,zs,azs,nzs,kzs,czs⟩ R=>⟨[(41,I (i:Int)),(10, .slice azs nzs kzs)],czs::R,nx-i,i<=nx/\(ivGo a b x []=ivGo a b (x.drop i) zs)/\(opsGo true (x.drop i) (zs.length:Int)=0)/\(∀z∈zs,accS z)/\(zs.length<=i)/\OwnT encSp 185 2 azs nzs kzs zs czs⟩) (0,[],none,0,0,[]) ⟨h1,om,by rfl,(opsCode_go (l:=x) (two:=true) om).1,(by intro z hz;cases hz),by simp,(OwnT.nil (enc:=encSp) (E:=185) (sz:=2) fR)⟩ ?_
 rintro ⟨i,zs,azs,nzs,kzs,czs⟩ ρ _ ⟨r0,hi,hG,hH,hAc,hzl,hOzs⟩
 have hn_zs:=hOzs.len;have hl_zs:=hOzs.le
 refine jCC 6 rfl<|cD ((i:Int)<(nx:Int)) (fun j1=>?_) (fun j1=>?_)
 rotate_left
 ·refine jCC 6 rfl ?_
  have hh:opsGo true (x.drop i) zs.length=0:=hH
  rw [List.drop_of_length_le om] at hh;have hz1:zs.length=1:=(by unfold opsGo at hh;split at hh<;>omega)
  obtain ⟨k0,r3,s3,s0,t0,u0,t3⟩:=OwnT.elem hOzs 0
  change _[0]?=_ at s0;change PtR _ _ (_+0*_) _ at t0;change ElemAt _ _ _ _ _ (_+0*_) at u0
  have hacc_x_140:accS k0:=hAc k0 (List.mem_of_getElem? s0)
  refine drawF r0 [] (fq 3 0 (t0.up 0 rfl)<|fq 7 1 (t0.up 0 rfl)<|fn) [0,1,2,4,5,6,3,8,7,9,10] fun _ k1=>wV 1<|wI u0<|wV 2<|wI u0<|wV 1<|wL 0<|wV 1<|wL 1<|wV 2<|wN<|jXR 2 rfl<|retT [I k0.lo,I k0.hi,I 0] ?_
  have l1:=(k1.dropAt 0 rfl)
  have hr0:opsCode x true=0:=by omega
  have hres:ivRes x a b=(match ivGo a b x [] with|some st=>((st[0]?.getD (⟨0,0⟩:Sp)).lo,(st[0]?.getD (⟨0,0⟩:Sp)).hi,0)|none=>(0,0,11)):=by unfold ivRes;rw [if_pos hr0,if_pos om];rfl
  have hend:ivGo a b x []=some zs:=by rw [hG,List.drop_of_length_le om];rfl
  have hz0:zs[0]?=some k0:=s0
  exact ⟨by rw [hres,hend];dsimp only;rw [hz0];rfl,l1⟩
 refine jCO 6 rfl<|sIdx hx (i:Int) runUnderlying51 sizeOf75 fun a0 _ _ e0 m1=>?_
 rw [Int.toNat_natCast] at e0
 obtain ⟨hob,hoa,hog⟩:=opsGo_zero (by rw [<-drop_at e0];exact hH)
 have hpk:=ptakes_bd a0.code;have htk_x_14:=takesV_bd a0.code;have hob2:(0<=a0.code/\a0.code<=11)/\takesV a0.code<=zs.length:=(by unfold opBad at hob;omega);have hob3:3<=a0.code->1<=takesV a0.code:=(by intro h;unfold takesV;rw [if_neg om];split<;>omega)
 refine sLpA r0 (m1.up 1 rfl) 0 [I a0.code,I a0.arg] (isAgg75 _) (sizeOf75 _)<|sAlloc r0 zeroValue75 fun _ _ n1=>sTl n1 0 [I a0.code,I a0.arg] sizeOf75 fun _ g0=>gOC g0 16 [0] rfl<|cE a0.code 0 (fun o1=>?_) (fun o1=>?_)
 ·refine jCO 5 rfl<|sBS g0 #[I 0,I a] runUnderlying183 sizeOf185 zeroValue185 fun _ _ q1=>sApp (nb:=16) q1 hOzs 2 (RdT.blk (enc:=encSp) (sz:=2) (xs:=[(⟨0,a⟩:Sp)]) fR 1 0 rfl rfl rfl om) underlying183 (i:=Tryz.t185) kr fR fun r1 s1 t1 _ u1 v1=>jOO 9 rfl<|sAdd (i:Int) 1<|jOI 2 rfl ?_
  exact ⟨(i+1,(zs++[(⟨0,a⟩:Sp)]),r1,(nzs+1),s1,t1),od,alB,(v1.drops [0,0]),om,by rw [hG,drop_at e0];exact iv_push om (by unfold nextV;rw [if_pos om]) (by unfold accS;dsimp only;unfold argP at hoa;omega),by rw [List.length_append];simp only [List.length_cons,List.length_nil];rw [show (((zs.length+(0+1):Nat)):Int)=(zs.length:Int)+(1-takesV a0.code) from by rw [show takesV a0.code=0 from by unfold takesV;rw [if_pos om]];omega];exact hog,(by
    intro z hz
    rcases List.mem_append.1 hz with h|h
    ·exact hAc z h
    ·simp only [List.mem_singleton] at h;subst h;unfold accS;dsimp only;unfold argP at hoa;omega),by simp;omega,u1⟩
 refine jCC 6 rfl<|cE a0.code 1 (fun x1=>?_) (fun x1=>?_)
 ·refine jCO 5 rfl<|sBS g0 #[I 0,I b] runUnderlying183 sizeOf185 zeroValue185 fun _ _ y1=>sApp (nb:=16) y1 hOzs 2 (RdT.blk (enc:=encSp) (sz:=2) (xs:=[(⟨0,b⟩:Sp)]) fR 1 0 rfl rfl rfl om) underlying183 (i:=Tryz.t185) kr fR fun z1 a2 b2 _ c2 d2=>jOO 9 rfl<|sAdd (i:Int) 1<|jOI 2 rfl ?_
  exact ⟨(i+1,(zs++[(⟨0,b⟩:Sp)]),z1,(nzs+1),a2,b2),od,alB,(d2.drops [0,0]),om,by rw [hG,drop_at e0];exact iv_push om (by unfold nextV;rw [if_neg om,if_pos om]) (by unfold accS;dsimp only;unfold argP at hoa;omega),by rw [List.length_append];simp only [List.length_cons,List.length_nil];rw [show (((zs.length+(0+1):Nat)):Int)=(zs.length:Int)+(1-takesV a0.code) from by rw [show takesV a0.code=0 from by unfold takesV;rw [if_pos om]];omega];exact hog,(by
    intro z hz
    rcases List.mem_append.1 hz with h|h
    ·exact hAc z h
    ·simp only [List.mem_singleton] at h;subst h;unfold accS;dsimp only;unfold argP at hoa;omega),by simp;omega,c2⟩
 refine jCC 6 rfl<|cE a0.code 2 (fun f2=>?_) (fun f2=>?_)
 ·refine gCO g0 8 [0,0] rfl<|sBS g0 #[I a0.arg,I a0.arg] runUnderlying183 sizeOf185 zeroValue185 fun _ _ g2=>sApp (nb:=16) g2 hOzs 2 (RdT.blk (enc:=encSp) (sz:=2) (xs:=[(⟨a0.arg,a0.arg⟩:Sp)]) fR 1 0 rfl rfl rfl om) underlying183 (i:=Tryz.t185) kr fR fun h2 i2 j2 _ k2 l2=>jOO 9 rfl<|sAdd (i:Int) 1<|jOI 2 rfl ?_
  exact ⟨(i+1,(zs++[(⟨a0.arg,a0.arg⟩:Sp)]),h2,(nzs+1),i2,j2),od,alB,(l2.drops [0,0]),om,by rw [hG,drop_at e0];exact iv_push om (by unfold nextV;rw [if_neg om,if_neg om,if_pos om]) (by unfold accS;dsimp only;unfold argP at hoa;omega),by rw [List.length_append];simp only [List.length_cons,List.length_nil];rw [show (((zs.length+(0+1):Nat)):Int)=(zs.length:Int)+(1-takesV a0.code) from by rw [show takesV a0.code=0 from by unfold takesV;rw [if_pos om]];omega];exact hog,(by
    intro z hz
    rcases List.mem_append.1 hz with h|h
    ·exact hAc z h
    ·simp only [List.mem_singleton] at h;subst h;unfold accS;dsimp only;unfold argP at hoa;omega),by simp;omega,k2⟩
 refine jCC 4 rfl ?_
 have hc3:3<=a0.code:=om;have hob4:=hob3 hc3
 refine gCO g0 3 [0] rfl<|cR call168 (p14_takes a0.code g0.flat) fun _ n2=>?_
 have j4:(0<=(ptakesV a0.code)/\(ptakesV a0.code)<=2)/\(¬(0<=a0.code/\a0.code<=11)\/(ptakesV a0.code)=takesV a0.code):=ptakes_bd _
 refine jOO 12 rfl<|sSub (nzs:Int) (ptakesV a0.code)<|jOC 4 rfl ?_
 obtain ⟨b0,k4,l4,l0,f0,o2,m4⟩:=OwnT.elem hOzs ((nzs:Int)-(ptakesV a0.code))
 have hacc_x_61:accS b0:=hAc b0 (List.mem_of_getElem? l0)
 obtain ⟨c0,n4,o4,m0,d0,q2,p4⟩:=OwnT.elem hOzs ((nzs:Int)-1)
 have hacc_x_68:accS c0:=hAc c0 (List.mem_of_getElem? m0)
 refine drawG n2 [10,11,12,13] (fp 3 (f0.up 1 rfl)<|fp 9 (d0.up 1 rfl)<|fn) (Plan.sts [0,1]<|Plan.sts [2]<|Plan.sts [4,5,6]<|Plan.sts [7]<|Plan.sts [8]<|Plan.sts [3]<|Plan.sts [9]<| .fk 10 11 (.ef 11<| .ef 12<| .ef 13<| .fin) (.ef 10<| .ef 12<| .ef 13<| .fin)) fun _ x0=>qU [0,1]<|qI o2<|qU [4,5,6]<|qSub (nzs:Int) 1<|qI q2<|qG 0 2<|qG 2 2<|qF ?_ ?_
 ·refine qO rfl<|sAlloc x0 zeroValue185 fun _ _ n0=>nilO ⟨⟨.inr ((f0.up 2 rfl).cell n0 (k:=0) rfl), .inr ((f0.up 2 rfl).cell n0 (k:=1) rfl), .inr ((d0.up 2 rfl).cell n0 (k:=0) rfl), .inr ((d0.up 2 rfl).cell n0 (k:=1) rfl),trivial⟩,?_⟩
  refine qO rfl<|sAlloc n0 zeroValue185 fun _ _ o0=>nilO ⟨⟨.inr ((f0.up 3 rfl).cell o0 (k:=0) rfl), .inr ((f0.up 3 rfl).cell o0 (k:=1) rfl), .inr ((d0.up 3 rfl).cell o0 (k:=0) rfl), .inr ((d0.up 3 rfl).cell o0 (k:=1) rfl),trivial⟩,?_⟩
  refine qO rfl<|sTl o0 1 [I b0.lo,I b0.hi] sizeOf185 fun _ v0=>nilO ⟨⟨dI,dI, .inr ((d0.up 3 rfl).cell v0 (k:=0) rfl), .inr ((d0.up 3 rfl).cell v0 (k:=1) rfl),trivial⟩,?_⟩
  refine qO rfl<|sTl v0 0 [I c0.lo,I c0.hi] sizeOf185 fun _ y0=>nA<|qN<|gXO y0 6 [202,201,200] rfl<|cR call170 (p14_apply a0 b0 c0 (by first|assumption|(unfold accS;first|assumption|omega)) (by first|assumption|(unfold accS;first|assumption|omega)) om ‹_› y0.flat) fun _ r2=>pu3<|sAlloc r2 zeroValue185 fun _ _ s2=>sTl s2 0 [I ((papV a0 b0 c0).lo),I ((papV a0 b0 c0).hi)] sizeOf185 fun _ z0=>jOC 10 rfl<|cDn (nextOK a0 b0 c0 1 1) (fun h0=>?_) (fun h0=>?_)
  rotate_left
  ·refine jCR 14 rfl<|retT [I 0,I 0,I 11] ?_
   have t2:=(z0.drops [0,0,0,0,0])
   have hr0:opsCode x true=0:=by omega
   have hres:ivRes x a b=(match ivGo a b x [] with|some st=>((st[0]?.getD (⟨0,0⟩:Sp)).lo,(st[0]?.getD (⟨0,0⟩:Sp)).hi,0)|none=>(0,0,11)):=by unfold ivRes;rw [if_pos hr0,if_pos om];rfl
   have hbad:ivGo a b x []=none:=by rw [hG,drop_at e0];exact iv_no om (by have e:=l0;rw [show zs.length-(takesV a0.code).toNat=((nzs:Int)-(ptakesV a0.code)).toNat by omega];exact e) (by have e:=m0;rw [show zs.length-1=((nzs:Int)-1).toNat by omega];exact e) h0
   exact ⟨by rw [hres,hbad];rfl,t2⟩
  refine jCC 2 rfl<|drawF z0 [4,5] (fb 3 0 0 2<|fn) [0,1,2,3,4,5,6] fun _ u2=>wV 2 ?_
  have v2:=hOzs.part (lo:=0) (hi:=(((nzs:Int)-(ptakesV a0.code))).toNat) om om
  refine wY (.slice (partAddr azs kzs 0 2) ((((nzs:Int)-(ptakesV a0.code))).toNat-0) (kzs-0)) rfl (fun w _=>Y_sl (a:=azs) (len:=nzs) (cap:=kzs) none (some ((nzs:Int)-(ptakesV a0.code))) 0 ((((nzs:Int)-(ptakesV a0.code))).toNat) runUnderlying183 sizeOf185 rfl ⟨om,om⟩ om om)<|wG 0 2<|wO rfl<|sBS u2 #[I ((papV a0 b0 c0).lo),I ((papV a0 b0 c0).hi)] runUnderlying183 sizeOf185 zeroValue185 fun _ _ w2=>nA<|wO rfl<|sApp (nb:=16) w2 v2 5 (RdT.blk (enc:=encSp) (sz:=2) (xs:=[(⟨(papV a0 b0 c0).lo,(papV a0 b0 c0).hi⟩:Sp)]) fR 1 0 rfl rfl rfl om) underlying183 (i:=Tryz.t185) kr fR fun x2 y2 z2 _ a3 b3=>nA<|wV 1<|wN<|jXO 3 rfl<|sAdd (i:Int) 1<|jOI 2 rfl ?_
  have c3:=(b3.drops [0,0,0,0,0])
  exact ⟨(i+1,(((zs.drop 0).take ((((nzs:Int)-(ptakesV a0.code))).toNat-0))++[(⟨(papV a0 b0 c0).lo,(papV a0 b0 c0).hi⟩:Sp)]),x2,(((((nzs:Int)-(ptakesV a0.code))).toNat-0)+1),y2,z2),od,alB,c3,om,by rw [hG,drop_at e0,iv_op (m:=((zs.drop 0).take ((((nzs:Int)-(ptakesV a0.code))).toNat-0))) om (by have e:=l0;rw [show zs.length-(takesV a0.code).toNat=((nzs:Int)-(ptakesV a0.code)).toNat by omega];exact e) (by have e:=m0;rw [show zs.length-1=((nzs:Int)-1).toNat by omega];exact e) h0 (by rw [List.drop_zero];congr 1;omega),<-pap_acc h0],by simp only [List.length_append,List.length_take,List.length_drop,List.length_cons,List.length_nil];rw [show (((min _ _+(0+1):Nat)):Int)=(zs.length:Int)+(1-takesV a0.code) from by omega];exact hog,(by
    intro z hz
    rcases List.mem_append.1 hz with h|h
    ·exact hAc z (List.mem_of_mem_drop (List.mem_of_mem_take h))
    ·simp only [List.mem_singleton] at h;subst h;show accS (papV _ _ _);rw [pap_acc h0];exact ⟨h0.2.1,h0.2.2⟩),by simp;omega,a3⟩
 refine qO rfl<|sAlloc x0 zeroValue185 fun _ _ p0=>nilO ⟨⟨.inr ((f0.up 2 rfl).cell p0 (k:=0) rfl), .inr ((f0.up 2 rfl).cell p0 (k:=1) rfl), .inr ((d0.up 2 rfl).cell p0 (k:=0) rfl), .inr ((d0.up 2 rfl).cell p0 (k:=1) rfl),trivial⟩,?_⟩
 refine qO rfl<|sAlloc p0 zeroValue185 fun _ _ q0=>nilO ⟨⟨.inr ((f0.up 3 rfl).cell q0 (k:=0) rfl), .inr ((f0.up 3 rfl).cell q0 (k:=1) rfl), .inr ((d0.up 3 rfl).cell q0 (k:=0) rfl), .inr ((d0.up 3 rfl).cell q0 (k:=1) rfl),trivial⟩,?_⟩
 refine qO rfl<|sTl q0 0 [I b0.lo,I b0.hi] sizeOf185 fun _ w0=>nilO ⟨⟨dI,dI, .inr ((d0.up 3 rfl).cell w0 (k:=0) rfl), .inr ((d0.up 3 rfl).cell w0 (k:=1) rfl),trivial⟩,?_⟩
 refine qO rfl<|sTl w0 1 [I c0.lo,I c0.hi] sizeOf185 fun _ a1=>nA<|qN<|gXO a1 6 [202,200,201] rfl<|cR call170 (p14_apply a0 b0 c0 (by first|assumption|(unfold accS;first|assumption|omega)) (by first|assumption|(unfold accS;first|assumption|omega)) om ‹_› a1.flat) fun _ d3=>pu3<|sAlloc d3 zeroValue185 fun _ _ e3=>sTl e3 0 [I ((papV a0 b0 c0).lo),I ((papV a0 b0 c0).hi)] sizeOf185 fun _ b1=>jOC 10 rfl<|cDn (nextOK a0 b0 c0 1 1) (fun i0=>?_) (fun i0=>?_)
 rotate_left
 ·refine jCR 14 rfl<|retT [I 0,I 0,I 11] ?_
  have f3:=(b1.drops [0,0,0,0,0])
  have hr0:opsCode x true=0:=by omega
  have hres:ivRes x a b=(match ivGo a b x [] with|some st=>((st[0]?.getD (⟨0,0⟩:Sp)).lo,(st[0]?.getD (⟨0,0⟩:Sp)).hi,0)|none=>(0,0,11)):=by unfold ivRes;rw [if_pos hr0,if_pos om];rfl
  have hbad:ivGo a b x []=none:=by rw [hG,drop_at e0];exact iv_no om (by have e:=l0;rw [show zs.length-(takesV a0.code).toNat=((nzs:Int)-(ptakesV a0.code)).toNat by omega];exact e) (by have e:=m0;rw [show zs.length-1=((nzs:Int)-1).toNat by omega];exact e) i0
  exact ⟨by rw [hres,hbad];rfl,f3⟩
 refine jCC 2 rfl<|drawF b1 [4,5] (fb 3 0 0 2<|fn) [0,1,2,3,4,5,6] fun _ g3=>wV 2 ?_
 have h3:=hOzs.part (lo:=0) (hi:=(((nzs:Int)-(ptakesV a0.code))).toNat) om om
 refine wY (.slice (partAddr azs kzs 0 2) ((((nzs:Int)-(ptakesV a0.code))).toNat-0) (kzs-0)) rfl (fun w _=>Y_sl (a:=azs) (len:=nzs) (cap:=kzs) none (some ((nzs:Int)-(ptakesV a0.code))) 0 ((((nzs:Int)-(ptakesV a0.code))).toNat) runUnderlying183 sizeOf185 rfl ⟨om,om⟩ om om)<|wG 0 2<|wO rfl<|sBS g3 #[I ((papV a0 b0 c0).lo),I ((papV a0 b0 c0).hi)] runUnderlying183 sizeOf185 zeroValue185 fun _ _ i3=>nA<|wO rfl<|sApp (nb:=16) i3 h3 5 (RdT.blk (enc:=encSp) (sz:=2) (xs:=[(⟨(papV a0 b0 c0).lo,(papV a0 b0 c0).hi⟩:Sp)]) fR 1 0 rfl rfl rfl om) underlying183 (i:=Tryz.t185) kr fR fun j3 k3 l3 _ m3 n3=>nA<|wV 1<|wN<|jXO 3 rfl<|sAdd (i:Int) 1<|jOI 2 rfl ?_
 have o3:=(n3.drops [0,0,0,0,0])
 exact ⟨(i+1,(((zs.drop 0).take ((((nzs:Int)-(ptakesV a0.code))).toNat-0))++[(⟨(papV a0 b0 c0).lo,(papV a0 b0 c0).hi⟩:Sp)]),j3,(((((nzs:Int)-(ptakesV a0.code))).toNat-0)+1),k3,l3),od,alB,o3,om,by rw [hG,drop_at e0,iv_op (m:=((zs.drop 0).take ((((nzs:Int)-(ptakesV a0.code))).toNat-0))) om (by have e:=l0;rw [show zs.length-(takesV a0.code).toNat=((nzs:Int)-(ptakesV a0.code)).toNat by omega];exact e) (by have e:=m0;rw [show zs.length-1=((nzs:Int)-1).toNat by omega];exact e) i0 (by rw [List.drop_zero];congr 1;omega),<-pap_acc i0],by simp only [List.length_append,List.length_take,List.length_drop,List.length_cons,List.length_nil];rw [show (((min _ _+(0+1):Nat)):Int)=(zs.length:Int)+(1-takesV a0.code) from by omega];exact hog,(by
   intro z hz
   rcases List.mem_append.1 hz with h|h
   ·exact hAc z (List.mem_of_mem_drop (List.mem_of_mem_take h))
   ·simp only [List.mem_singleton] at h;subst h;show accS (papV _ _ _);rw [pap_acc i0];exact ⟨i0.2.1,i0.2.2⟩),by simp;omega,m3⟩
end Go.Proofs.YtghcddbhllkbmaaGreat

namespace Go.Proofs.YtghcddbhllkbmaaGreat
open Go Go.E Go.Proofs.Tryz
set_option linter.all false
set_option maxRecDepth 100000
set_option maxHeartbeats 2000000
variable {W w:World} {H:Chunk} {F:List Chunk}
def BefG (ni:Int) (D:List (List Int)) (out:List Int):Prop:=∀pre x post,out=pre++x::post->∀s,D[(x-ni).toNat]?=some s->∀y∈s,y<ni\/y∈pre
theorem BefG.nil {ni:Int} {D:List (List Int)}:BefG ni D []:=by
  intro pre x post h;cases pre<;>simp at h
theorem BefG.add {ni:Int} {D:List (List Int)} {out:List Int} {k:Nat} (h:BefG ni D out) (hc:canG ni D out k):BefG ni D (out++[ni+(k:Int)]):=by
 intro c0 x b0 e s hs y hy
 rcases List.append_eq_append_iff.1 e with ⟨z,h1,h2⟩|⟨z,h1,h2⟩
 ·cases z with
  |nil=>
   simp at h1 h2
   obtain ⟨s2,a0,_,h4⟩:=hc
   rw [<-h2.1,show (ni+(k:Int)-ni).toNat=k by omega,a0] at hs
   obtain rfl:=Option.some.inj hs
   rw [h1];exact h4 y hy
  |cons a z=>simp at h2
 ·cases z with
  |nil=>
   simp at h1 h2
   obtain ⟨s2,a0,_,h4⟩:=hc
   rw [h2.1,show (ni+(k:Int)-ni).toNat=k by omega,a0] at hs
   obtain rfl:=Option.some.inj hs
   rw [<-h1];exact h4 y hy
  |cons a z=>
   simp at h2
   obtain ⟨rfl,h3⟩:=h2
   exact h c0 x z h1 s hs y hy
theorem list_bef {ni:Int} (hni:0<=ni) {D:List (List Int)}:∀(k:Nat) {out:List Int},BefG ni D out->BefG ni D (listG ni D k out)
  |0,out,h=>h
  |k+1,out,h=>by
    unfold listG
    rcases pick0 hni (out:=out) (D:=D) with h1|⟨m,h1,h2,_⟩
    · rw [if_pos h1.1];exact h
    · exact (by rw [if_neg (by omega),h1];exact list_bef hni k (h.add h2))
theorem OutG.every {ni:Int} {D:List (List Int)} {out:List Int} (h:OutG ni D out) (hl:out.length=D.length) {x:Int} (h1:ni<=x) (h2:x<ni+(D.length:Int)):x∈out:=by
  by_cases hx:x∈out
  · exact hx
  · exfalso
    have h3:OutG ni D (x::out):=⟨fun y hy=>by
      rcases List.mem_cons.1 hy with e|hy
      · rw [e];exact ⟨h1,h2⟩
      · exact h.r y hy,List.nodup_cons.2 ⟨hx,h.d⟩⟩
    have:=h3.len
    rw [List.length_cons] at this;omega
theorem stg_at {ss:List StageV} {ni:Int} {x:Int} {s:StageV} (h:ss[(x-ni).toNat]?=some s):stgAt ss ni x=s:=by unfold stgAt;rw [h];rfl
theorem a_src (s:StageV):s.a∈srcs s:=by unfold srcs;split<;>simp
theorem b_src {s:StageV} (h:twoP s):s.b∈srcs s:=by unfold srcs;rw [if_pos h];simp
def FitP (ni:Int) (ss:List StageV) (sh:List Shape) (x:Int):Prop:=shpStep ni ss x sh=(shpAt sh x,0)
theorem shpAt_set {sh:List Shape} {n y:Int} {v:Shape} (h:n.toNat≠y.toNat):shpAt (sh.set n.toNat v) y=shpAt sh y:=by
  unfold shpAt;rw [List.getElem?_set,if_neg h]
theorem shpStep_congr {ni n:Int} {ss:List StageV} {sh sh':List Shape} (h:∀y∈srcs (stgAt ss ni n),shpAt sh' y=shpAt sh y):shpStep ni ss n sh'=shpStep ni ss n sh:=by
  unfold shpStep
  rw [h _ (a_src _)]
  split
  · rename_i ht;rw [h _ (b_src ht)]
  · rfl
theorem shpStep_sz {ni n:Int} {ss:List StageV} {sh:List Shape} (h:(shpStep ni ss n sh).2=0):szP (shpStep ni ss n sh).1:=ofV_sz h
theorem shpGo_ok {ni:Int} {ss:List StageV}:∀(l pre:List Int) (out:List Shape),(pre++l).Nodup->(∀x∈pre++l,ni<=x/\x<out.length)->0<=ni->
  (∀p x q,pre++l=p++x::q->∀y∈srcs (stgAt ss ni x),0<=y/\(y<ni\/y∈p))->(∀x∈pre,szP (shpAt out x)/\FitP ni ss out x)->(shpGo ni ss l out).2.2=0->
  (shpGo ni ss l out).1.length=out.length/\(∀x∈pre++l,szP (shpAt (shpGo ni ss l out).1 x)/\FitP ni ss (shpGo ni ss l out).1 x)/\∀x,0<=x->x<ni->shpAt (shpGo ni ss l out).1 x=shpAt out x
 |[],pre,out,_,_,_,_,hp,_=>⟨rfl,by simpa [shpGo] using hp,fun _ _ _=>rfl⟩
 |n::l,pre,out,hd,hr,hn,hb,hp,h=>by
  unfold shpGo at h⊢
  split at h
  ·rename_i hs
   rw [if_pos hs]
   have hrn:=hr n (by simp)
   have hnd:n∉pre:=by
    intro hm
    have:=(List.nodup_append.1 hd).2.2 n hm n (by simp)
    exact this rfl
   have hk:∀y:Int,0<=y->(y<ni\/y∈pre)->shpAt (out.set n.toNat (shpStep ni ss n out).1) y=shpAt out y:=by
    intro y h0 hy
    refine shpAt_set ?_
    rcases hy with hy|hy
    ·omega
    ·have:=hr y (by simp [hy])
     have:y≠n:=fun e=>hnd (e▸hy)
     omega
   have hself:shpAt (out.set n.toNat (shpStep ni ss n out).1) n=(shpStep ni ss n out).1:=by
    unfold shpAt;rw [List.getElem?_set,if_pos rfl,if_pos om];rfl
   have e:pre++[n]++l=pre++n::l:=by simp
   have ih:=shpGo_ok (ni:=ni) (ss:=ss) l (pre++[n]) (out.set n.toNat (shpStep ni ss n out).1) (by rw [e];exact hd) (by rw [e,List.length_set];exact hr) hn (by rw [e];exact hb) (by
    intro x hx
    rcases List.mem_append.1 hx with hx|hx
    ·have h1:=hp x hx
     have hx0:=hr x (by simp [hx])
     obtain ⟨p,q,hpq⟩:=List.append_of_mem hx
     have hsrc:=hb p x (q++n::l) (by rw [hpq];simp)
     refine ⟨by rw [hk x om (.inr hx)];exact h1.1,?_⟩
     unfold FitP
     rw [hk x om (.inr hx),shpStep_congr (sh:=out) (fun y hy=>by
      have:=hsrc y hy
      exact hk y this.1 (this.2.imp id (fun h=>by rw [hpq];simp [h])))]
     exact h1.2
    ·simp only [List.mem_singleton] at hx
     subst hx
     have hsrc:=hb pre x l rfl
     refine ⟨by rw [hself];exact shpStep_sz hs,?_⟩
     unfold FitP
     rw [hself,shpStep_congr (sh:=out) (fun y hy=>hk y (hsrc y hy).1 (hsrc y hy).2)]
     exact Prod.ext rfl hs) h
   rw [e,List.length_set] at ih
   exact ⟨ih.1,ih.2.1,fun x h0 hx=>by rw [ih.2.2 x h0 hx];exact hk x h0 (.inl hx)⟩
  ·rename_i hs;exact absurd h hs
structure ShpOK (j:JobV):Prop where
  ch:chkCode j=0
  od:(ordV j).2=0
  nn:1<=j.inputs.length/\1<=j.stages.length/\j.inputs.length+j.stages.length<=16
  rng:∀x∈(ordV j).1,(j.inputs.length:Int)<=x/\x<(j.inputs.length:Int)+j.stages.length
  nd:(ordV j).1.Nodup
  ln:(ordV j).1.length=j.stages.length
  every:∀x:Int,(j.inputs.length:Int)<=x->x<(j.inputs.length:Int)+j.stages.length->x∈(ordV j).1
  bef:∀p x q,(ordV j).1=p++x::q->∀y∈srcs (stgAt j.stages j.inputs.length x),0<=y/\(y<(j.inputs.length:Int)\/y∈p)
  len:(shpV j).1.length=j.inputs.length+j.stages.length
  sz:∀x:Int,0<=x->x<(j.inputs.length:Int)+j.stages.length->szP (shpAt (shpV j).1 x)
  fit:∀x∈(ordV j).1,FitP j.inputs.length j.stages (shpV j).1 x
theorem shp_ok {j:JobV} (h:(shpV j).2.2=0):ShpOK j:=by
 unfold shpV at h
 split at h
 ·rename_i ho
  split at h
  ·rename_i hp
   have hc:=ordV_chk ho
   have hl:=ord_list hc
   have hn:=chk_len hc
   have e0:(ordV j).1=listV j/\(listV j).length=j.stages.length:=by
    have h1:=hl.1
    split at h1
    ·rw [h1] at ho;simp at ho
    · exact (by rename_i h2;have h3:=hl.2.len;rw [List.length_map] at h3;exact ⟨by rw [h1],om⟩)
   have a0:OutG j.inputs.length (j.stages.map srcs) (ordV j).1:=by rw [e0.1];exact hl.2
   have b0:=a0.r
   rw [List.length_map] at b0
   have i0:BefG j.inputs.length (j.stages.map srcs) (ordV j).1:=by rw [e0.1];exact list_bef om _ BefG.nil
   have k0:∀x:Int,(j.inputs.length:Int)<=x->x<(j.inputs.length:Int)+j.stages.length->∃s,j.stages[(x-(j.inputs.length:Int)).toNat]?=some s/\stgAt j.stages j.inputs.length x=s:=(by intro x h1 h2;have g0:(x-(j.inputs.length:Int)).toNat<j.stages.length:=(by omega);exact ⟨_,List.getElem?_eq_getElem g0,stg_at (List.getElem?_eq_getElem g0)⟩)
   have c0:∀p x q,(ordV j).1=p++x::q->∀y∈srcs (stgAt j.stages j.inputs.length x),0<=y/\(y<(j.inputs.length:Int)\/y∈p):=(by intro p x q e y hy;have hx:=b0 x (by rw [e];simp);obtain ⟨s,hs,he⟩:=k0 x hx.1 hx.2;rw [he] at hy;refine ⟨(chk_srcs hc (s:=s) (List.mem_of_getElem? hs) y hy).1,?_⟩;exact i0 p x q e (srcs s) (by rw [List.getElem?_map,hs];rfl) y hy)
   have d0:(j.inputs.map shpOf++List.replicate j.stages.length (⟨0,0,0⟩:Shape)).length=j.inputs.length+j.stages.length:=by simp
   have f0:=shpGo_ok (ni:=j.inputs.length) (ss:=j.stages) (ordV j).1 [] (j.inputs.map shpOf++List.replicate j.stages.length ⟨0,0,0⟩) (by simpa using a0.d) (by rw [d0];intro x hx;have:=b0 x (by simpa using hx);omega) om (by simpa using c0) (by intro x hx;cases hx) h
   have m0:(shpV j).1=(shpGo j.inputs.length j.stages (ordV j).1 (j.inputs.map shpOf++List.replicate j.stages.length ⟨0,0,0⟩)).1:=(by unfold shpV;rw [if_pos ho,if_pos hp])
   rw [<-m0,d0] at f0
   have l0:∀x:Int,(j.inputs.length:Int)<=x->x<(j.inputs.length:Int)+j.stages.length->x∈(ordV j).1:=fun x h1 h2=>a0.every (by rw [List.length_map,e0.1];exact e0.2) h1 (by rw [List.length_map];exact h2)
   refine ⟨hc,ho,hn,b0,a0.d,by rw [e0.1];exact e0.2,l0,c0,f0.1,?_,fun x hx=>(f0.2.1 x (by simpa using hx)).2⟩
   intro x h0 hx
   by_cases hi:x<(j.inputs.length:Int)
   ·rw [f0.2.2 x h0 hi]
    have g0:x.toNat<j.inputs.length:=by omega
    have j0:=List.all_eq_true.1 hp (j.inputs[x.toNat]) (List.getElem_mem _)
    unfold shpAt
    rw [List.getElem?_append_left (by simp;omega),List.getElem?_map,List.getElem?_eq_getElem g0]
    unfold planeOK at j0
    simp only [Bool.and_eq_true,decide_eq_true_eq] at j0
    have:=j0.1.1
    unfold sizeP at this
    show szP (shpOf _)
    unfold szP shpOf
    dsimp only
    omega
   ·exact (f0.2.1 x (by simpa using l0 x om hx)).1
  ·simp at h
 ·rename_i ho;exact absurd h ho
structure LayG (L:Lay):Prop where
  ni:1<=L.ni/\L.ni+(L.ss.length:Int)<=16
  rng:∀x∈L.od,L.ni<=x/\x<L.ni+(L.ss.length:Int)
  every:∀x:Int,L.ni<=x->x<L.ni+(L.ss.length:Int)->x∈L.od
  nd:L.od.Nodup
  ln:L.od.length=L.ss.length
  bef:∀p x q,L.od=p++x::q->∀y∈srcs (L.st x),0<=y/\(y<L.ni\/y∈p)
  len:(L.sh.length:Int)=L.ni+(L.ss.length:Int)
  sz:∀x:Int,0<=x->x<L.ni+(L.ss.length:Int)->szP (shpAt L.sh x)
  fit:∀x∈L.od,FitP L.ni L.ss L.sh x
  tl:tileP L.tw L.th
theorem lay_ok {j:JobV} {tw th:Int} (h:ShpOK j) (ht:tileP tw th):LayG (layV j tw th):=
  ⟨by have:=h.nn;simp only [layV];omega,h.rng,h.every,h.nd,h.ln,h.bef,by have:=h.len;simp only [layV];omega,h.sz,h.fit,ht⟩
section
variable {L:Lay} (g:LayG L)
include g
theorem LayG.src {x:Int} (hx:x∈L.od):∀y∈srcs (L.st x),0<=y/\y<L.ni+(L.ss.length:Int)/\(y<L.ni\/y∈L.od):=by
  obtain ⟨p,q,e⟩:=List.append_of_mem hx
  intro y hy
  have h:=g.bef p x q e y hy
  rcases h.2 with h2|h2
  · exact ⟨h.1,by omega, .inl h2⟩
  · exact (by have hm:y∈L.od:=(by rw [e];simp [h2]);have:=g.rng y hm;exact ⟨h.1,this.2, .inr hm⟩)
theorem LayG.cutsz {x:Int} (hx:x∈L.od):szP (L.cut x):=by
  unfold Lay.cut
  split
  · have:=g.src hx _ (a_src _);exact g.sz _ this.1 this.2.1
  · have:=g.rng x hx;have:=g.ni;exact g.sz _ (by omega) (by omega)
theorem LayG.fine {x:Int} (hx:x∈L.od):fineP (L.cut x).w (L.cut x).h L.tw L.th:=by
  have h:=g.cutsz hx
  have ht:=g.tl
  unfold szP at h;unfold tileP at ht
  unfold fineP
  omega
theorem LayG.byt {x:Int} (hx:x∈L.od):bytOK (L.st x):=by
  have h:=g.fit x hx
  unfold FitP shpStep at h
  exact of_bytOK (congrArg Prod.snd h)
theorem LayG.grid {x:Int} (hx:x∈L.od):(1<=L.nx x/\L.nx x<=128)/\(1<=L.ny x/\L.ny x<=128)/\1<=L.nx x*L.ny x/\L.nx x*L.ny x<=16384:=by
  have h:=cols_bd (g.fine hx)
  unfold Lay.nx Lay.ny
  refine ⟨h.1,h.2,?_,?_⟩
  · have:=Int.mul_le_mul h.1.1 h.2.1 (by omega) (by omega);omega
  · have:=Int.mul_le_mul h.1.2 h.2.2 (by omega) (by omega);omega
theorem LayG.cntb {x:Int} (hx:x∈L.od):1<=L.cnt x/\L.cnt x<=16385:=by
  have h:=(g.grid hx).2.2
  unfold Lay.cnt
  split<;>omega
end
theorem firstG_pre {f:Int->Int} {x:Int}:∀(p q:List Int),x∉p->firstG f (p++x::q) x=(p.map f).sum
  |[],q,_=>by simp [firstG]
  |y::p,q,h=>by
    have hy:y≠x:=fun e=>h (by simp [e])
    rw [List.cons_append,firstG,if_neg hy,firstG_pre p q (fun hm=>h (by simp [hm]))]
    simp
theorem sum_nn {f:Int->Int}:∀(l:List Int),(∀x∈l,0<=f x)->0<=(l.map f).sum
  |[],_=>by simp
  |y::l,h=>by
    have:=sum_nn l (fun x hx=>h x (by simp [hx]))
    have:=h y (by simp)
    simp;omega
theorem LayG.first_at {L:Lay} (g:LayG L) {p q:List Int} {x:Int} (e:L.od=p++x::q):L.first x=(p.map L.cnt).sum/\x∉p:=by
  have hn:=g.nd
  rw [e] at hn
  have hx:x∉p:=fun hm=>(List.nodup_append.1 hn).2.2 x hm x (by simp) rfl
  exact ⟨(by unfold Lay.first;rw [e,firstG_pre p q hx]),hx⟩
theorem LayG.firstb {L:Lay} (g:LayG L) {x:Int} (hx:x∈L.od):0<=L.first x/\L.first x+L.cnt x<=L.total:=by
  obtain ⟨p,q,e⟩:=List.append_of_mem hx
  obtain ⟨h1,h2⟩:=g.first_at e
  have hp:=sum_nn (f:=L.cnt) p (fun y hy=>by have:=g.cntb (x:=y) (by rw [e];simp [hy]);omega)
  have hq:=sum_nn (f:=L.cnt) q (fun y hy=>by have:=g.cntb (x:=y) (by rw [e];simp [hy]);omega)
  refine ⟨by omega,?_⟩
  have ht:L.total=(p.map L.cnt).sum+(L.cnt x+(q.map L.cnt).sum):=by unfold Lay.total;rw [e];simp
  omega
theorem LayG.totb {L:Lay} (g:LayG L):0<=L.total/\L.total<=262160:=by
  have h:∀l:List Int,(∀x∈l,x∈L.od)->(l.map L.cnt).sum<=16385*l.length:=by
    intro l
    induction l with
    |nil=>intro _;simp
    |cons y l ih=>intro hm;have h1:=ih (fun x hx=>hm x (by simp [hx]));have h2:=g.cntb (hm y (by simp));simp only [List.map_cons,List.sum_cons,List.length_cons];push_cast;omega
  have h1:=h L.od (fun _ hx=>hx)
  have h2:=sum_nn (f:=L.cnt) L.od (fun y hy=>by have:=g.cntb hy;omega)
  have h3:=g.ln;have h4:=g.ni
  unfold Lay.total
  constructor
  · exact h2
  · exact (by have:(L.od.length:Int)<=15:=(by omega);omega)
theorem til_len {s:StageV} {w h tw th:Int} {r:Rct}:(tilesV s w h tw th r).length<=16384:=by
  unfold tilesV
  refine Nat.le_trans (List.length_filter_le _ _) ?_
  rw [upto_len]
  unfold tilN
  by_cases hf:fineP w h tw th
  · exact (by have hb:=cols_bd hf;have:=mul_bd (a:=colsN w h tw th) (b:=rowsN w h tw th) (A:=128) (B:=128) (by omega) (by omega);omega)
  · rw [(cols_no hf).1];simp
theorem srcDeps_len {L:Lay} (g:LayG L) {s:StageV} {r:Rct} {x:Int} (hx:x<L.ni\/x∈L.od):(L.srcDeps s r x).length<=16385:=by
  unfold Lay.srcDeps
  split
  · simp
  · rename_i h0
    have hm:x∈L.od:=by rcases hx with h|h;exact absurd h h0;exact h
    split
    · rw [List.length_map,upto_len];have:=g.cntb hm;omega
    · split
      · simp
      · rw [List.length_map];exact Nat.le_trans til_len (by omega)
theorem flat_len2 {L:Lay} (g:LayG L) {s:StageV} {r:Rct}:∀l:List Int,(∀x∈l,x<L.ni\/x∈L.od)->(l.flatMap (L.srcDeps s r)).length<=16385*l.length
  |[],_=>by simp
  |x::l,h=>by
    rw [List.flatMap_cons,List.length_append,List.length_cons]
    have h1:=srcDeps_len (s:=s) (r:=r) g (h x (by simp))
    have h2:=flat_len2 (s:=s) (r:=r) g l (fun y hy=>h y (by simp [hy]))
    omega
theorem take_flat {α:Type} {l:List Int} {i:Nat} {x:Int} {f:Int->List α} (h:l[i]?=some x):(l.take (i+1)).flatMap f=(l.take i).flatMap f++f x:=by
  rw [List.take_add_one,h,Option.toList_some,List.flatMap_append];simp
theorem shp_at' {l:List Shape} {i:Int} {m:Shape} (h:l[i.toNat]?=some m):shpAt l i=m:=by unfold shpAt;rw [h];rfl
theorem take_split {l:List Int} {i:Nat} {x:Int} (h:l[i]?=some x):l=l.take i++x::l.drop (i+1):=by
  obtain ⟨hl,e⟩:=List.getElem?_eq_some_iff.1 h
  conv=>lhs;rw [<-List.take_append_drop i l,List.drop_eq_getElem_cons hl,e]
theorem sum_take {f:Int->Int} {l:List Int} {i:Nat} {x:Int} (h:l[i]?=some x):((l.take (i+1)).map f).sum=((l.take i).map f).sum+f x:=by
  rw [List.take_add_one,h,Option.toList_some,List.map_append,List.sum_append];simp
theorem tasks_len {L:Lay} (g:LayG L) {x:Int} (hx:x∈L.od):((L.tasks x).length:Int)=L.cnt x:=by
  have h:=(g.grid hx).2.2
  unfold Lay.tasks Lay.cnt
  rw [List.length_append,List.length_map,upto_len]
  split<;>simp<;>omega
theorem tasks_sum {L:Lay} (g:LayG L):∀l:List Int,(∀x∈l,x∈L.od)->((l.flatMap L.tasks).length:Int)=(l.map L.cnt).sum
  |[],_=>rfl
  |x::l,h=>by
    rw [List.flatMap_cons,List.length_append,List.map_cons,List.sum_cons,<-tasks_sum g l (fun y hy=>h y (by simp [hy])),<-tasks_len g (h x (by simp))]
    push_cast;rfl
theorem take_sum_le {L:Lay} (g:LayG L) (i:Nat):0<=((L.od.take i).map L.cnt).sum/\((L.od.take i).map L.cnt).sum<=L.total:=by
  have h1:=sum_nn (f:=L.cnt) (L.od.take i) (fun y hy=>by have:=g.cntb (List.mem_of_mem_take hy);omega)
  have h2:=sum_nn (f:=L.cnt) (L.od.drop i) (fun y hy=>by have:=g.cntb (List.mem_of_mem_drop hy);omega)
  have h3:L.total=((L.od.take i).map L.cnt).sum+((L.od.drop i).map L.cnt).sum:=(by unfold Lay.total;rw [<-List.sum_append,<-List.map_append,List.take_append_drop])
  omega
end Go.Proofs.YtghcddbhllkbmaaGreat
