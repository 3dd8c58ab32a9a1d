import Derived.Test.YtmlhcafjelkjfaaP1Ab
import Derived.WalkKit
import Derived.Deep.Quiet
import Derived.KernelRfl
import Derived.Laws.BytesString
import Derived.Laws.Shifts
import Derived.Laws.IdiomStrings
import Derived.Test.YtmlhcafjelkjfaaProg
import Derived.Laws.IdiomRangeMap
import Derived.Test.YtmlhcafjelkjfaaP1Pu
namespace Go.Proofs.Ytmlhcafjelkjfaa
open Go Go.E Go.Proofs.Try
set_option linter.all false
set_option maxRecDepth 100000
set_option maxHeartbeats 2000000
variable {W w:World} {H:Chunk} {F:List Chunk}
theorem l21_puts (W w:World) (H:Chunk) (F:List Chunk) (t:Option Addr) (nt kt:Nat) (xt:List Int) (pix:Option Addr) (npix kpix:Nat) (xpix:List Int) (r:Rct) (ht:RdT Go.E.encI 1 [H] t nt kt xt) (hpix:RdT Go.E.encI 1 [H] pix npix kpix xpix) (hS:Sat W w (H::F)):
  Calls prog 3 #[.slice t nt kt, .slice pix npix kpix, .agg (encRct r).toArray] w fun e w'=>e= .returned (.bool true)/\Sat W w' (H::F):=by
 have hlt:=ht.le
 have hlpix:=hpix.le
 refine callsA 100 func3 rfl ?_
 refine sR ?_
 refine sBox hS (.agg (encRct r).toArray) (encRct r).toArray ?_
 intro f0 _ r9
 refine pu1<|zS<|pu1 ?_
 refine cX call4 (tape_new t nt kt r9) ?_
 rintro _ _ ⟨m0,rfl,s9⟩
 have vo:=ht.le
 refine pu1<|zQ<|pu1<|nT<|blockE ?_
 refine loopA (γ:=Nat×Int) (fun ⟨i,iti⟩=>[(1, .slice pix npix kpix),(5,Pt f0 0),(7,Pt m0 0),(8,I (i:Int))]) (fun ⟨i,iti⟩ w=>Sat W w ([(m0, .cells #[.slice t nt kt,I iti] 44 (0,0))]::[(f0, .cells (encRct r).toArray 24 (0,0))]::H::F)/\i<=4/\(0<=iti/\iti<=nt)) (fun ⟨i,iti⟩=>4-i) (0,0) ⟨s9,om,om⟩ ?_
 rintro ⟨i,iti⟩ ρ _ ⟨u8,hi,hiti⟩
 refine seqE<|sR<|pu2<|nT ?_
 refine cD ((i:Int)<4) (fun t9=>?_) (fun t9=>?_)
 rotate_left
 ·refine exitE<|xB<|tN<|sR ?_
  refine cR call14 (l21_sane u8.flat) ?_
  intro _ u9
  refine pu1<|zE<|retT [.bool true] ?_
  exact ⟨rfl,(u9.drops [0,0])⟩
 refine kT<|seqE<|blockE<|sR<|pu1 ?_
 refine cX call5 (tg_plane (RdT.flat (ht.up 1 (by rfl))) om u8.flat1) ?_
 rintro _ _ ⟨a0,n1,rfl,h0,j0,_,_,w9⟩
 refine sAlloc (Sat.unflat2 w9) zeroValue28 ?_
 intro i0 _ y9
 refine sTl y9 0 (encPlane a0) sizeOf28 ?_
 intro _ j3
 refine nT<|seqE ?_
 have v8:=(plane_sz j0.2.2.1).1;unfold sizeP at v8;simp only [Plane.v] at v8
 refine drawP [1,2,8,10,11] [(5,⟨i0,0,none⟩,I a0.w),(7,⟨i0,1,none⟩,I a0.h)] (Plan.sts [0,3,4,6]<|Plan.sts [5]<|Plan.sts [7]<| .fk 1 10 (.fk 2 10 (.fk 8 10 (Plan.sts [9]<| .ef 10<| .ef 11<| .fin) (.ef 8<|Plan.sts [9]<| .ef 11<| .fin)) (.ef 2<| .ef 8<|Plan.sts [9]<| .ef 11<| .fin)) (.ef 1<| .ef 2<| .ef 8<|Plan.sts [9]<| .ef 11<| .fin)) rfl kr ⟨cI j3 0,cI j3 0,trivial⟩ ?_
 have w8:=j3.drew
 refine qU [0,3,4,6] ?_
 refine qLd (I a0.w) 0 isAgg3 ?_
 refine qLd (I a0.h) 1 isAgg3 ?_
 refine qF ?_ ?_
 rotate_left
 ·refine qO rfl ?_
  refine sAlloc w8 zeroValue33 ?_
  intro x8 _ k3
  refine nilO ⟨⟨cI k3 1,cI k3 1,trivial⟩,?_⟩
  refine qO rfl ?_
  refine sBS k3 #[I 0,I 2,I 0,I 1,I 3] runUnderlying22 sizeOf3 zeroValue3 ?_
  intro z9 _ l3
  refine nilO ⟨⟨cI l3 2,cI l3 2,trivial⟩,?_⟩
  refine qO rfl ?_
  have aa:=(l3.pick 3 rfl)
  refine cX call6 (tape_pick (RdT.flat (ht.up 5 (by rfl))) om aa.flat1 (RdT.flat (RdT.blk (enc:=Go.E.encI) (sz:=1) (xs:=[0,2,0,1,3]) (fun _=>(by rfl)) 5 0 rfl rfl rfl om)) om om) ?_
  rintro _ _ ⟨k0,rfl,ba,_,_,ca⟩
  have m3:=ca.unflat1
  have ip:(k0:Int)=0\/(k0:Int)=2\/(k0:Int)=0\/(k0:Int)=1\/(k0:Int)=3:=by simpa using ba
  refine nilO ⟨⟨cI m3 3,cI m3 3,trivial⟩,?_⟩
  refine qO rfl ?_
  refine cX call7 (tg_within (RdT.flat (ht.up 5 (by rfl))) om m3.flat1 a0.w a0.h om om) ?_
  rintro _ _ ⟨b0,rfl,y8,_,_,da⟩
  have ea:=da.unflat1
  refine nilO ⟨dA,?_⟩
  refine qU [9] ?_
  refine qO rfl ?_
  refine sTl ea 2 [I 0,I k0,I b0.x0,I b0.y0,I b0.x1,I b0.y1,nS,I 0,I 0] sizeOf33 ?_
  intro _ z8
  refine nilO ⟨dA,?_⟩
  refine qN ?_
  refine tN<|sR<|pu1<|nT<|seqE<|seqE ?_
  have hw0:=y8;unfold rIn at hw0;have hmm:=mul_bd (a:=b0.x1-b0.x0) (b:=b0.y1-b0.y0) (A:=128) (B:=128) om om;have hm0:=Int.mul_nonneg (show 0<=b0.x1-b0.x0 by omega) (show 0<=b0.y1-b0.y0 by omega)
  refine rE<|pu1 ?_
  refine lA z8 2 2 4 (isAgg24 _) (sizeOf24 _) ?_
  refine cR call8 (r2_area b0 (by have h:=y8;unfold rIn at h⊢;first|omega|(dsimp only;omega)) z8.flat) ?_
  intro _ fa
  refine pu1 ?_
  refine cX call9 (tape_next (RdT.flat (ht.up 5 (by rfl))) om fa.flat1 14 om) ?_
  rintro _ _ ⟨b1,rfl,_,ga,_,ha⟩
  have ia:=ha.unflat1
  have rp:=Int.tdiv_eq_ediv_of_nonneg (a:=b1) (b:=13) om
  refine sQuo b1 13 ?_
  refine sAdd ((b0.x1-b0.x0)*(b0.y1-b0.y0)) (b1.tdiv 13) ?_
  refine pu1<|nT<|blockE ?_
  have ja:=Sat.nilc ia
  have ka:=OwnT.nil (enc:=Go.E.encI) (E:=3) (sz:=1) fR
  obtain ⟨M,hM⟩:∃M:Nat,(((b0.x1-b0.x0)*(b0.y1-b0.y0))+(b1.tdiv 13))=(M:Int):=⟨_,(Int.toNat_of_nonneg om).symm⟩
  refine loopA (γ:=Nat×Int×Int×(List Int)×(Option Addr)×Nat×Nat×Chunk) (fun ⟨i2,mm,iti2,zs,azs,nzs,kzs,czs⟩=>[(1, .slice pix npix kpix),(5,Pt f0 0),(7,Pt m0 0),(8,I (i:Int)),(9,Pt i0 0),(10,Pt x8 0),(12,I mm),(11, .slice azs nzs kzs)]) (fun ⟨i2,mm,iti2,zs,azs,nzs,kzs,czs⟩ w=>Sat W w (czs::[(m0, .cells #[.slice t nt kt,I iti2] 44 (0,0))]::[(z9, .cells #[I 0,I 2,I 0,I 1,I 3] 3 (0,0))]::[(x8, .cells #[I 0,I k0,I b0.x0,I b0.y0,I b0.x1,I b0.y1,nS,I 0,I 0] 33 (0,0))]::[(i0, .cells (encPlane a0).toArray 28 (0,0))]::n1::[(f0, .cells (encRct r).toArray 24 (0,0))]::H::F)/\i2<=M/\(mm=(M:Int)-(i2:Int))/\((M:Int)<=20000)/\(zs.length=i2)/\(0<=iti2/\iti2<=nt)/\OwnT Go.E.encI 3 1 azs nzs kzs zs czs) (fun ⟨i2,mm,iti2,zs,azs,nzs,kzs,czs⟩=>M-i2) (0,(((b0.x1-b0.x0)*(b0.y1-b0.y0))+(b1.tdiv 13)),ga,[],none,0,0,[]) ⟨ja,om,om,om,by rfl,om,ka⟩ ?_
  rintro ⟨i2,mm,iti2,zs,azs,nzs,kzs,czs⟩ ρ _ ⟨n0,hi2,hmm2,hM9,hzl,hiti2,hOzs⟩
  have hn_zs:=hOzs.len;have hl_zs:=hOzs.le
  refine seqE<|sR<|pu2<|nT ?_
  refine cD (mm>0) (fun la=>?_) (fun la=>?_)
  ·refine kT<|seqE<|blockE ?_
   refine drawE [6,12,15,16,17,18] [(4,⟨i0,2,none⟩,I a0.max_),(8,⟨i0,2,none⟩,I a0.max_),(10,⟨i0,2,none⟩,I a0.max_)] [(true,[0,1,2,3,7,9,11]),(true,[4]),(true,[5]),(true,[8]),(true,[10]),(false,[6]),(false,[12]),(true,[13]),(true,[14]),(false,[15]),(false,[16]),(false,[17]),(false,[18]),(true,[19])] rfl kr ⟨cI n0 4,cI n0 4,cI n0 4,trivial⟩ ?_
   have ma:=n0.drew
   refine wU [0,1,2,3,7,9,11] ?_
   refine wLd (I a0.max_) 0 isAgg3 ?_
   refine wAdd a0.max_ 1 ?_
   refine wLd (I a0.max_) 1 isAgg3 ?_
   refine wLd (I a0.max_) 2 isAgg3 ?_
   refine wO rfl ?_
   have na:=(ma.pick 1 rfl)
   refine cX call9 (tape_next (RdT.flat (ht.up 6 (by rfl))) om na.flat1 (a0.max_+1) om) ?_
   rintro _ _ ⟨n3,rfl,_,_,_,oa⟩
   have o1:=oa.unflat1
   refine nilO ⟨⟨cI o1 4,cI o1 4,cI o1 4,trivial⟩,?_⟩
   refine wO rfl ?_
   refine cX call9 (tape_next (RdT.flat (ht.up 6 (by rfl))) om o1.flat1 20 om) ?_
   rintro _ _ ⟨r0,rfl,_,_,_,pa⟩
   have q1:=pa.unflat1
   refine nilO ⟨⟨cI q1 4,cI q1 4,cI q1 4,trivial⟩,?_⟩
   have eq:=Int.tdiv_eq_ediv_of_nonneg (a:=r0) (b:=19) om
   refine wY (I (r0.tdiv 19)) rfl (fun w _=>Y_quo (a:=r0) (b:=19) rfl kr kr om om) ?_
   refine wAdd a0.max_ (r0.tdiv 19) ?_
   refine wO rfl ?_
   refine sBS q1 #[I n3,I a0.max_,I (a0.max_+(r0.tdiv 19))] runUnderlying22 sizeOf3 zeroValue3 ?_
   intro _ _ o3
   refine nilO ⟨⟨cI o3 5,dI,cI o3 5,trivial⟩,?_⟩
   refine wO rfl ?_
   have qa:=(o3.pick 1 rfl)
   refine cX call6 (tape_pick (RdT.flat (ht.up 7 (by rfl))) om qa.flat1 (RdT.flat (RdT.blk (enc:=Go.E.encI) (sz:=1) (xs:=[n3,a0.max_,(a0.max_+(r0.tdiv 19))]) (fun _=>(by rfl)) 3 0 rfl rfl rfl om)) om om) ?_
   rintro _ _ ⟨v0,rfl,ra,sa,_,ta⟩
   have p3:=ta.unflat1
   have jq:(v0:Int)=n3\/(v0:Int)=a0.max_\/(v0:Int)=(a0.max_+(r0.tdiv 19)):=by simpa using ra
   refine nilO ⟨⟨cI p3 5,dI,cI p3 5,trivial⟩,?_⟩
   refine wO rfl ?_
   refine sBS p3 #[I v0] runUnderlying22 sizeOf3 zeroValue3 ?_
   intro _ _ q3
   refine nilO ⟨⟨cI q3 6,dI,cI q3 6,trivial⟩,?_⟩
   refine wO rfl ?_
   refine sApp (nb:=8) q3 hOzs 3 (RdT.blk (enc:=Go.E.encI) (sz:=1) (xs:=[v0]) fR 1 0 rfl rfl rfl om) underlying22 (i:=Try.t3) kr fR ?_
   intro ua va wa _ xa r3
   refine nilO ⟨⟨cI r3 6,dI,cI r3 6,trivial⟩,?_⟩
   refine wU [19] ?_
   refine wN ?_
   refine bN<|tN<|rE<|pu1 ?_
   refine sSub mm 1 ?_
   refine pu1<|nT ?_
   exact ⟨(i2+1,(mm-1),sa,(zs++[v0]),ua,(nzs+1),va,wa),od,alA,((r3.pick 3 rfl).drops [1,2]),om,om,hM9,(by rw [List.length_append,hzl];rfl),om,xa⟩
  refine exitE<|xB<|tN<|seqE<|sR<|pu2<|nT ?_
  refine cE (i:Int) 3 (fun za=>?_) (fun za=>?_)
  rotate_left
  ·refine kT<|seqE<|sR<|pu1 ?_
   have ab:=(n0.pick 1 rfl)
   refine cX call9 (tape_next (RdT.flat (ht.up 6 (by rfl))) om ab.flat1 10 om) ?_
   rintro _ _ ⟨bb,rfl,_,cb,_,db⟩
   have c1:=db.unflat1
   refine pu1<|nT ?_
   refine cE bb 9 (fun eb=>?_) (fun eb=>?_)
   rotate_left
   ·refine kS ?_
    refine lA c1 4 0 4 (isAgg28 _) (sizeOf28 _) ?_
    refine lA c1 3 0 9 (isAgg33 _) (sizeOf33 _) ?_
    refine pu1 ?_
    refine cX call11 (p21_put a0 (⟨0,k0,b0.x0,b0.y0,b0.x1,b0.y1,⟨none,0,0,[]⟩,0,0⟩:Task) azs nzs kzs zs ⟨(RdT.flat (h0.pix.up 5 (by rfl)))⟩ ⟨(RdT.nil (enc:=Go.E.encI) (sz:=1) fR _)⟩ (RdT.flat (hOzs.rdAt 1 (by rfl))) c1.flat) ?_
    rintro _ _ ⟨r1,s3,_,rfl,u3,fb,gb⟩
    have hb:=gb.unflat1
    have hn_q_1004_pix:=u3.pix.len;have hl_q_1004_pix:=u3.pix.le
    refine pu3 ?_
    refine sAlloc hb zeroValue28 ?_
    intro _ _ ib
    refine sTl ib 0 (encPlane r1) sizeOf28 ?_
    intro _ v3
    refine pu1<|zS ?_
    refine lA v3 6 0 4 (isAgg28 _) (sizeOf28 _) ?_
    refine lA v3 5 0 9 (isAgg33 _) (sizeOf33 _) ?_
    refine pu1 ?_
    refine cX call12 (r21_put a0 (⟨0,k0,b0.x0,b0.y0,b0.x1,b0.y1,⟨none,0,0,[]⟩,0,0⟩:Task) azs nzs kzs zs ⟨(RdT.flat (h0.pix.up 7 (by rfl)))⟩ ⟨(RdT.nil (enc:=Go.E.encI) (sz:=1) fR _)⟩ (RdT.flat (hOzs.rdAt 3 (by rfl))) v3.flat) ?_
    rintro _ _ ⟨s1,w3,_,rfl,x3,jb,kb⟩
    have lb:=kb.unflat1
    have hn_q_1017_pix:=x3.pix.len;have hl_q_1017_pix:=x3.pix.le
    have hs9_1022:(r1.v,s3)=(s1.v,w3):=fb.trans jb.symm
    have hc_hs9_1022:s3=w3:=congrArg Prod.snd hs9_1022
    refine pu3 ?_
    refine sAlloc lb zeroValue28 ?_
    intro _ _ mb
    refine sTl mb 0 (encPlane s1) sizeOf28 ?_
    intro _ y3
    refine pu1<|zS ?_
    refine lA y3 2 0 4 (isAgg28 _) (sizeOf28 _) ?_
    refine lA y3 0 0 4 (isAgg28 _) (sizeOf28 _) ?_
    refine cR call13 (r4_equal r1 s1 ⟨(RdT.flat (u3.pix.up 3 (by rfl)))⟩ ⟨(RdT.flat (x3.pix.up 1 (by rfl)))⟩ y3.flat) ?_
    intro _ ob
    refine pu2 ?_
    have pb:r1.v=s1.v:=(congrArg Prod.fst hs9_1022)
    refine sFix 94 _ false (congrArg Bool.not (decide_eq_true pb)) ?_
    refine pu4<|nT ?_
    have qb:(s3:Int)=w3:=by omega
    refine cF _ (bne_eq_false_iff_eq.2 qb) ?_
    refine skipE<|bN<|tN<|rE<|pu1 ?_
    refine sAdd (i:Int) 1 ?_
    refine pu1<|nT ?_
    exact ⟨(i+1,cb),od,alA,(ob.drops [0,0,0,0,1,1,1,1,1]),om,om⟩
   refine rE<|pu1 ?_
   refine lA c1 4 0 4 (isAgg28 _) (sizeOf28 _) ?_
   refine cX call10 (tg_spoilPlane (RdT.flat (ht.up 6 (by rfl))) om c1.flat1 a0 ⟨(RdT.flat (h0.pix.up 4 (by rfl)))⟩ 0 om (planeB_S j0.2.2.1 j0.2.2.2)) ?_
   rintro _ _ ⟨z3,_,rfl,a9,_,sb,_,tb⟩
   refine sTl (Sat.unflat2 tb) 5 (encPlane z3) sizeOf28 ?_
   intro _ a4
   refine zS ?_
   refine lA a4 5 0 4 (isAgg28 _) (sizeOf28 _) ?_
   refine lA a4 4 0 9 (isAgg33 _) (sizeOf33 _) ?_
   refine pu1 ?_
   refine cX call11 (p21_put z3 (⟨0,k0,b0.x0,b0.y0,b0.x1,b0.y1,⟨none,0,0,[]⟩,0,0⟩:Task) azs nzs kzs zs ⟨(RdT.flat (a9.pix.up 1 (by rfl)))⟩ ⟨(RdT.nil (enc:=Go.E.encI) (sz:=1) fR _)⟩ (RdT.flat (hOzs.rdAt 2 (by rfl))) a4.flat) ?_
   rintro _ _ ⟨t1,b4,_,rfl,c4,vb,wb⟩
   have xb:=wb.unflat1
   have hn_q_971_pix:=c4.pix.len;have hl_q_971_pix:=c4.pix.le
   refine pu3 ?_
   refine sAlloc xb zeroValue28 ?_
   intro _ _ yb
   refine sTl yb 0 (encPlane t1) sizeOf28 ?_
   intro _ d4
   refine pu1<|zS ?_
   refine lA d4 7 0 4 (isAgg28 _) (sizeOf28 _) ?_
   refine lA d4 6 0 9 (isAgg33 _) (sizeOf33 _) ?_
   refine pu1 ?_
   refine cX call12 (r21_put z3 (⟨0,k0,b0.x0,b0.y0,b0.x1,b0.y1,⟨none,0,0,[]⟩,0,0⟩:Task) azs nzs kzs zs ⟨(RdT.flat (a9.pix.up 3 (by rfl)))⟩ ⟨(RdT.nil (enc:=Go.E.encI) (sz:=1) fR _)⟩ (RdT.flat (hOzs.rdAt 4 (by rfl))) d4.flat) ?_
   rintro _ _ ⟨u1,e4,_,rfl,f4,zb,ac⟩
   have bc:=ac.unflat1
   have hn_q_984_pix:=f4.pix.len;have hl_q_984_pix:=f4.pix.le
   have hs9_989:(t1.v,b4)=(u1.v,e4):=vb.trans zb.symm
   have hc_hs9_989:b4=e4:=congrArg Prod.snd hs9_989
   refine pu3 ?_
   refine sAlloc bc zeroValue28 ?_
   intro _ _ cc
   refine sTl cc 0 (encPlane u1) sizeOf28 ?_
   intro _ g4
   refine pu1<|zS ?_
   refine lA g4 2 0 4 (isAgg28 _) (sizeOf28 _) ?_
   refine lA g4 0 0 4 (isAgg28 _) (sizeOf28 _) ?_
   refine cR call13 (r4_equal t1 u1 ⟨(RdT.flat (c4.pix.up 3 (by rfl)))⟩ ⟨(RdT.flat (f4.pix.up 1 (by rfl)))⟩ g4.flat) ?_
   intro _ dc
   refine pu2 ?_
   have ec:t1.v=u1.v:=(congrArg Prod.fst hs9_989)
   refine sFix 94 _ false (congrArg Bool.not (decide_eq_true ec)) ?_
   refine pu4<|nT ?_
   have fc:(b4:Int)=e4:=by omega
   refine cF _ (bne_eq_false_iff_eq.2 fc) ?_
   refine skipE<|bN<|tN<|rE<|pu1 ?_
   refine sAdd (i:Int) 1 ?_
   refine pu1<|nT ?_
   exact ⟨(i+1,sb),od,alA,(dc.drops [0,0,0,0,1,1,1,1,1,1]),om,om⟩
  refine drawE [4] [(1,⟨f0,0,none⟩,I r.x0),(1,⟨f0,1,none⟩,I r.y0),(1,⟨f0,2,none⟩,I r.x1),(1,⟨f0,3,none⟩,I r.y1)] [(true,[0,2]),(true,[1]),(true,[3]),(false,[4])] rfl kr ⟨cI n0 6,cI n0 6,cI n0 6,cI n0 6,trivial⟩ ?_
  have hc:=n0.drew
  refine wU [0,2] ?_
  refine wY (.agg (encRct r).toArray) rfl (fun w hF=>Y_loadF rfl (isAgg24 w) (sizeOf24 w) kr rfl ⟨hF 0 _ _ rfl,hF 1 _ _ rfl,hF 2 _ _ rfl,hF 3 _ _ rfl,trivial⟩) ?_
  refine wU [3] ?_
  refine wO rfl ?_
  refine tW hc 3 2 (.agg (encRct r).toArray) sizeOf24 ?_
  intro _ ic
  refine nilO ⟨dA,?_⟩
  refine wN ?_
  refine tN<|seqE<|sR<|pu1 ?_
  have jc:=(ic.pick 1 rfl)
  refine cX call9 (tape_next (RdT.flat (ht.up 6 (by rfl))) om jc.flat1 10 om) ?_
  rintro _ _ ⟨kc,rfl,_,lc,_,mc⟩
  have d1:=mc.unflat1
  refine pu1<|nT ?_
  refine cE kc 9 (fun nc=>?_) (fun nc=>?_)
  rotate_left
  ·refine kS ?_
   refine lA d1 4 0 4 (isAgg28 _) (sizeOf28 _) ?_
   refine lA d1 3 0 9 (isAgg33 _) (sizeOf33 _) ?_
   refine pu1 ?_
   refine cX call11 (p21_put a0 (⟨0,k0,r.x0,r.y0,r.x1,r.y1,⟨none,0,0,[]⟩,0,0⟩:Task) pix npix kpix xpix ⟨(RdT.flat (h0.pix.up 5 (by rfl)))⟩ ⟨(RdT.nil (enc:=Go.E.encI) (sz:=1) fR _)⟩ (RdT.flat (hpix.up 7 (by rfl))) d1.flat) ?_
   rintro _ _ ⟨v1,h4,_,rfl,i4,oc,pc⟩
   have qc:=pc.unflat1
   have hn_q_918_pix:=i4.pix.len;have hl_q_918_pix:=i4.pix.le
   refine pu3 ?_
   refine sAlloc qc zeroValue28 ?_
   intro _ _ rc
   refine sTl rc 0 (encPlane v1) sizeOf28 ?_
   intro _ j4
   refine pu1<|zS ?_
   refine lA j4 6 0 4 (isAgg28 _) (sizeOf28 _) ?_
   refine lA j4 5 0 9 (isAgg33 _) (sizeOf33 _) ?_
   refine pu1 ?_
   refine cX call12 (r21_put a0 (⟨0,k0,r.x0,r.y0,r.x1,r.y1,⟨none,0,0,[]⟩,0,0⟩:Task) pix npix kpix xpix ⟨(RdT.flat (h0.pix.up 7 (by rfl)))⟩ ⟨(RdT.nil (enc:=Go.E.encI) (sz:=1) fR _)⟩ (RdT.flat (hpix.up 9 (by rfl))) j4.flat) ?_
   rintro _ _ ⟨w1,k4,_,rfl,l4,sc,tc⟩
   have uc:=tc.unflat1
   have hn_q_931_pix:=l4.pix.len;have hl_q_931_pix:=l4.pix.le
   have hs9_936:(v1.v,h4)=(w1.v,k4):=oc.trans sc.symm
   have hc_hs9_936:h4=k4:=congrArg Prod.snd hs9_936
   refine pu3 ?_
   refine sAlloc uc zeroValue28 ?_
   intro _ _ vc
   refine sTl vc 0 (encPlane w1) sizeOf28 ?_
   intro _ m4
   refine pu1<|zS ?_
   refine lA m4 2 0 4 (isAgg28 _) (sizeOf28 _) ?_
   refine lA m4 0 0 4 (isAgg28 _) (sizeOf28 _) ?_
   refine cR call13 (r4_equal v1 w1 ⟨(RdT.flat (i4.pix.up 3 (by rfl)))⟩ ⟨(RdT.flat (l4.pix.up 1 (by rfl)))⟩ m4.flat) ?_
   intro _ wc
   refine pu2 ?_
   have xc:v1.v=w1.v:=(congrArg Prod.fst hs9_936)
   refine sFix 94 _ false (congrArg Bool.not (decide_eq_true xc)) ?_
   refine pu4<|nT ?_
   have yc:(h4:Int)=k4:=by omega
   refine cF _ (bne_eq_false_iff_eq.2 yc) ?_
   refine skipE<|bN<|tN<|rE<|pu1 ?_
   refine sAdd (i:Int) 1 ?_
   refine pu1<|nT ?_
   exact ⟨(i+1,lc),od,alA,(wc.drops [0,0,0,0,1,1,1,1,1]),om,om⟩
  refine rE<|pu1 ?_
  refine lA d1 4 0 4 (isAgg28 _) (sizeOf28 _) ?_
  refine cX call10 (tg_spoilPlane (RdT.flat (ht.up 6 (by rfl))) om d1.flat1 a0 ⟨(RdT.flat (h0.pix.up 4 (by rfl)))⟩ 0 om (planeB_S j0.2.2.1 j0.2.2.2)) ?_
  rintro _ _ ⟨n4,_,rfl,b9,_,ad,_,bd⟩
  refine sTl (Sat.unflat2 bd) 5 (encPlane n4) sizeOf28 ?_
  intro _ o4
  refine zS ?_
  refine lA o4 5 0 4 (isAgg28 _) (sizeOf28 _) ?_
  refine lA o4 4 0 9 (isAgg33 _) (sizeOf33 _) ?_
  refine pu1 ?_
  refine cX call11 (p21_put n4 (⟨0,k0,r.x0,r.y0,r.x1,r.y1,⟨none,0,0,[]⟩,0,0⟩:Task) pix npix kpix xpix ⟨(RdT.flat (b9.pix.up 1 (by rfl)))⟩ ⟨(RdT.nil (enc:=Go.E.encI) (sz:=1) fR _)⟩ (RdT.flat (hpix.up 8 (by rfl))) o4.flat) ?_
  rintro _ _ ⟨z1,p4,_,rfl,q4,dd,ed⟩
  have fd:=ed.unflat1
  have hn_q_885_pix:=q4.pix.len;have hl_q_885_pix:=q4.pix.le
  refine pu3 ?_
  refine sAlloc fd zeroValue28 ?_
  intro _ _ gd
  refine sTl gd 0 (encPlane z1) sizeOf28 ?_
  intro _ r4
  refine pu1<|zS ?_
  refine lA r4 7 0 4 (isAgg28 _) (sizeOf28 _) ?_
  refine lA r4 6 0 9 (isAgg33 _) (sizeOf33 _) ?_
  refine pu1 ?_
  refine cX call12 (r21_put n4 (⟨0,k0,r.x0,r.y0,r.x1,r.y1,⟨none,0,0,[]⟩,0,0⟩:Task) pix npix kpix xpix ⟨(RdT.flat (b9.pix.up 3 (by rfl)))⟩ ⟨(RdT.nil (enc:=Go.E.encI) (sz:=1) fR _)⟩ (RdT.flat (hpix.up 10 (by rfl))) r4.flat) ?_
  rintro _ _ ⟨a2,s4,_,rfl,t4,hd,jd⟩
  have kd:=jd.unflat1
  have hn_q_898_pix:=t4.pix.len;have hl_q_898_pix:=t4.pix.le
  have hs9_903:(z1.v,p4)=(a2.v,s4):=dd.trans hd.symm
  have hc_hs9_903:p4=s4:=congrArg Prod.snd hs9_903
  refine pu3 ?_
  refine sAlloc kd zeroValue28 ?_
  intro _ _ ld
  refine sTl ld 0 (encPlane a2) sizeOf28 ?_
  intro _ u4
  refine pu1<|zS ?_
  refine lA u4 2 0 4 (isAgg28 _) (sizeOf28 _) ?_
  refine lA u4 0 0 4 (isAgg28 _) (sizeOf28 _) ?_
  refine cR call13 (r4_equal z1 a2 ⟨(RdT.flat (q4.pix.up 3 (by rfl)))⟩ ⟨(RdT.flat (t4.pix.up 1 (by rfl)))⟩ u4.flat) ?_
  intro _ md
  refine pu2 ?_
  have nd:z1.v=a2.v:=(congrArg Prod.fst hs9_903)
  refine sFix 94 _ false (congrArg Bool.not (decide_eq_true nd)) ?_
  refine pu4<|nT ?_
  have pd:(p4:Int)=s4:=by omega
  refine cF _ (bne_eq_false_iff_eq.2 pd) ?_
  refine skipE<|bN<|tN<|rE<|pu1 ?_
  refine sAdd (i:Int) 1 ?_
  refine pu1<|nT ?_
  exact ⟨(i+1,ad),od,alA,(md.drops [0,0,0,0,1,1,1,1,1,1]),om,om⟩
 refine qO rfl ?_
 refine sBS w8 #[I 0,I 2,I 0,I 1,I 3] runUnderlying22 sizeOf3 zeroValue3 ?_
 intro v4 _ b2
 refine nilO ⟨⟨cI b2 1,cI b2 1,trivial⟩,?_⟩
 refine qF ?_ ?_
 rotate_left
 ·refine qO rfl ?_
  refine sAlloc b2 zeroValue33 ?_
  intro c9 _ w4
  refine nilO ⟨⟨cI w4 2,cI w4 2,trivial⟩,?_⟩
  refine qO rfl ?_
  have rd:=(w4.pick 3 rfl)
  refine cX call6 (tape_pick (RdT.flat (ht.up 5 (by rfl))) om rd.flat1 (RdT.flat (RdT.blk (enc:=Go.E.encI) (sz:=1) (xs:=[0,2,0,1,3]) (fun _=>(by rfl)) 5 1 rfl rfl rfl om)) om om) ?_
  rintro _ _ ⟨l0,rfl,sd,_,_,td⟩
  have x4:=td.unflat1
  have mt:(l0:Int)=0\/(l0:Int)=2\/(l0:Int)=0\/(l0:Int)=1\/(l0:Int)=3:=by simpa using sd
  refine nilO ⟨⟨cI x4 3,cI x4 3,trivial⟩,?_⟩
  refine qO rfl ?_
  refine cX call7 (tg_within (RdT.flat (ht.up 5 (by rfl))) om x4.flat1 a0.w a0.h om om) ?_
  rintro _ _ ⟨c0,rfl,d9,_,_,ud⟩
  have vd:=ud.unflat1
  refine nilO ⟨dA,?_⟩
  refine qU [9] ?_
  refine qO rfl ?_
  refine sTl vd 1 [I 0,I l0,I c0.x0,I c0.y0,I c0.x1,I c0.y1,nS,I 0,I 0] sizeOf33 ?_
  intro _ e9
  refine nilO ⟨dA,?_⟩
  refine qN ?_
  refine tN<|sR<|pu1<|nT<|seqE<|seqE ?_
  have hw0:=d9;unfold rIn at hw0;have hmm:=mul_bd (a:=c0.x1-c0.x0) (b:=c0.y1-c0.y0) (A:=128) (B:=128) om om;have hm0:=Int.mul_nonneg (show 0<=c0.x1-c0.x0 by omega) (show 0<=c0.y1-c0.y0 by omega)
  refine rE<|pu1 ?_
  refine lA e9 1 2 4 (isAgg24 _) (sizeOf24 _) ?_
  refine cR call8 (r2_area c0 (by have h:=d9;unfold rIn at h⊢;first|omega|(dsimp only;omega)) e9.flat) ?_
  intro _ wd
  refine pu1 ?_
  refine cX call9 (tape_next (RdT.flat (ht.up 5 (by rfl))) om wd.flat1 14 om) ?_
  rintro _ _ ⟨e1,rfl,_,xd,_,yd⟩
  have zd:=yd.unflat1
  have wt:=Int.tdiv_eq_ediv_of_nonneg (a:=e1) (b:=13) om
  refine sQuo e1 13 ?_
  refine sAdd ((c0.x1-c0.x0)*(c0.y1-c0.y0)) (e1.tdiv 13) ?_
  refine pu1<|nT<|blockE ?_
  have ae:=Sat.nilc zd
  have be:=OwnT.nil (enc:=Go.E.encI) (E:=3) (sz:=1) fR
  obtain ⟨M,hM⟩:∃M:Nat,(((c0.x1-c0.x0)*(c0.y1-c0.y0))+(e1.tdiv 13))=(M:Int):=⟨_,(Int.toNat_of_nonneg om).symm⟩
  refine loopA (γ:=Nat×Int×Int×(List Int)×(Option Addr)×Nat×Nat×Chunk) (fun ⟨i2,mm,iti2,zs,azs,nzs,kzs,czs⟩=>[(1, .slice pix npix kpix),(5,Pt f0 0),(7,Pt m0 0),(8,I (i:Int)),(9,Pt i0 0),(10,Pt c9 0),(12,I mm),(11, .slice azs nzs kzs)]) (fun ⟨i2,mm,iti2,zs,azs,nzs,kzs,czs⟩ w=>Sat W w (czs::[(m0, .cells #[.slice t nt kt,I iti2] 44 (0,0))]::[(c9, .cells #[I 0,I l0,I c0.x0,I c0.y0,I c0.x1,I c0.y1,nS,I 0,I 0] 33 (0,0))]::[(v4, .cells #[I 0,I 2,I 0,I 1,I 3] 3 (0,0))]::[(i0, .cells (encPlane a0).toArray 28 (0,0))]::n1::[(f0, .cells (encRct r).toArray 24 (0,0))]::H::F)/\i2<=M/\(mm=(M:Int)-(i2:Int))/\((M:Int)<=20000)/\(zs.length=i2)/\(0<=iti2/\iti2<=nt)/\OwnT Go.E.encI 3 1 azs nzs kzs zs czs) (fun ⟨i2,mm,iti2,zs,azs,nzs,kzs,czs⟩=>M-i2) (0,(((c0.x1-c0.x0)*(c0.y1-c0.y0))+(e1.tdiv 13)),xd,[],none,0,0,[]) ⟨ae,om,om,om,by rfl,om,be⟩ ?_
  rintro ⟨i2,mm,iti2,zs,azs,nzs,kzs,czs⟩ ρ _ ⟨o0,hi2,hmm2,hM9,hzl,hiti2,hOzs⟩
  have hn_zs:=hOzs.len;have hl_zs:=hOzs.le
  refine seqE<|sR<|pu2<|nT ?_
  refine cD (mm>0) (fun ce=>?_) (fun ce=>?_)
  ·refine kT<|seqE<|blockE ?_
   refine drawE [6,12,15,16,17,18] [(4,⟨i0,2,none⟩,I a0.max_),(8,⟨i0,2,none⟩,I a0.max_),(10,⟨i0,2,none⟩,I a0.max_)] [(true,[0,1,2,3,7,9,11]),(true,[4]),(true,[5]),(true,[8]),(true,[10]),(false,[6]),(false,[12]),(true,[13]),(true,[14]),(false,[15]),(false,[16]),(false,[17]),(false,[18]),(true,[19])] rfl kr ⟨cI o0 4,cI o0 4,cI o0 4,trivial⟩ ?_
   have de:=o0.drew
   refine wU [0,1,2,3,7,9,11] ?_
   refine wLd (I a0.max_) 0 isAgg3 ?_
   refine wAdd a0.max_ 1 ?_
   refine wLd (I a0.max_) 1 isAgg3 ?_
   refine wLd (I a0.max_) 2 isAgg3 ?_
   refine wO rfl ?_
   have ee:=(de.pick 1 rfl)
   refine cX call9 (tape_next (RdT.flat (ht.up 6 (by rfl))) om ee.flat1 (a0.max_+1) om) ?_
   rintro _ _ ⟨y4,rfl,_,_,_,fe⟩
   have c2:=fe.unflat1
   refine nilO ⟨⟨cI c2 4,cI c2 4,cI c2 4,trivial⟩,?_⟩
   refine wO rfl ?_
   refine cX call9 (tape_next (RdT.flat (ht.up 6 (by rfl))) om c2.flat1 20 om) ?_
   rintro _ _ ⟨s0,rfl,_,_,_,ge⟩
   have d2:=ge.unflat1
   refine nilO ⟨⟨cI d2 4,cI d2 4,cI d2 4,trivial⟩,?_⟩
   have hu:=Int.tdiv_eq_ediv_of_nonneg (a:=s0) (b:=19) om
   refine wY (I (s0.tdiv 19)) rfl (fun w _=>Y_quo (a:=s0) (b:=19) rfl kr kr om om) ?_
   refine wAdd a0.max_ (s0.tdiv 19) ?_
   refine wO rfl ?_
   refine sBS d2 #[I y4,I a0.max_,I (a0.max_+(s0.tdiv 19))] runUnderlying22 sizeOf3 zeroValue3 ?_
   intro _ _ z4
   refine nilO ⟨⟨cI z4 5,dI,cI z4 5,trivial⟩,?_⟩
   refine wO rfl ?_
   have he:=(z4.pick 1 rfl)
   refine cX call6 (tape_pick (RdT.flat (ht.up 7 (by rfl))) om he.flat1 (RdT.flat (RdT.blk (enc:=Go.E.encI) (sz:=1) (xs:=[y4,a0.max_,(a0.max_+(s0.tdiv 19))]) (fun _=>(by rfl)) 3 0 rfl rfl rfl om)) om om) ?_
   rintro _ _ ⟨w0,rfl,ie,je,_,ke⟩
   have a5:=ke.unflat1
   have mu:(w0:Int)=y4\/(w0:Int)=a0.max_\/(w0:Int)=(a0.max_+(s0.tdiv 19)):=by simpa using ie
   refine nilO ⟨⟨cI a5 5,dI,cI a5 5,trivial⟩,?_⟩
   refine wO rfl ?_
   refine sBS a5 #[I w0] runUnderlying22 sizeOf3 zeroValue3 ?_
   intro _ _ b5
   refine nilO ⟨⟨cI b5 6,dI,cI b5 6,trivial⟩,?_⟩
   refine wO rfl ?_
   refine sApp (nb:=8) b5 hOzs 3 (RdT.blk (enc:=Go.E.encI) (sz:=1) (xs:=[w0]) fR 1 0 rfl rfl rfl om) underlying22 (i:=Try.t3) kr fR ?_
   intro me ne oe _ pe c5
   refine nilO ⟨⟨cI c5 6,dI,cI c5 6,trivial⟩,?_⟩
   refine wU [19] ?_
   refine wN ?_
   refine bN<|tN<|rE<|pu1 ?_
   refine sSub mm 1 ?_
   refine pu1<|nT ?_
   exact ⟨(i2+1,(mm-1),je,(zs++[w0]),me,(nzs+1),ne,oe),od,alA,((c5.pick 3 rfl).drops [1,2]),om,om,hM9,(by rw [List.length_append,hzl];rfl),om,pe⟩
  refine exitE<|xB<|tN<|seqE<|sR<|pu2<|nT ?_
  refine cE (i:Int) 3 (fun re=>?_) (fun re=>?_)
  rotate_left
  ·refine kT<|seqE<|sR<|pu1 ?_
   have se:=(o0.pick 1 rfl)
   refine cX call9 (tape_next (RdT.flat (ht.up 6 (by rfl))) om se.flat1 10 om) ?_
   rintro _ _ ⟨te,rfl,_,ue,_,ve⟩
   have f1:=ve.unflat1
   refine pu1<|nT ?_
   refine cE te 9 (fun we=>?_) (fun we=>?_)
   rotate_left
   ·refine kS ?_
    refine lA f1 4 0 4 (isAgg28 _) (sizeOf28 _) ?_
    refine lA f1 2 0 9 (isAgg33 _) (sizeOf33 _) ?_
    refine pu1 ?_
    refine cX call11 (p21_put a0 (⟨0,l0,c0.x0,c0.y0,c0.x1,c0.y1,⟨none,0,0,[]⟩,0,0⟩:Task) azs nzs kzs zs ⟨(RdT.flat (h0.pix.up 5 (by rfl)))⟩ ⟨(RdT.nil (enc:=Go.E.encI) (sz:=1) fR _)⟩ (RdT.flat (hOzs.rdAt 1 (by rfl))) f1.flat) ?_
    rintro _ _ ⟨e2,d5,_,rfl,e5,xe,ye⟩
    have ze:=ye.unflat1
    have hn_q_749_pix:=e5.pix.len;have hl_q_749_pix:=e5.pix.le
    refine pu3 ?_
    refine sAlloc ze zeroValue28 ?_
    intro _ _ af
    refine sTl af 0 (encPlane e2) sizeOf28 ?_
    intro _ f5
    refine pu1<|zS ?_
    refine lA f5 6 0 4 (isAgg28 _) (sizeOf28 _) ?_
    refine lA f5 4 0 9 (isAgg33 _) (sizeOf33 _) ?_
    refine pu1 ?_
    refine cX call12 (r21_put a0 (⟨0,l0,c0.x0,c0.y0,c0.x1,c0.y1,⟨none,0,0,[]⟩,0,0⟩:Task) azs nzs kzs zs ⟨(RdT.flat (h0.pix.up 7 (by rfl)))⟩ ⟨(RdT.nil (enc:=Go.E.encI) (sz:=1) fR _)⟩ (RdT.flat (hOzs.rdAt 3 (by rfl))) f5.flat) ?_
    rintro _ _ ⟨f2,g5,_,rfl,h5,bf,cf⟩
    have df:=cf.unflat1
    have hn_q_762_pix:=h5.pix.len;have hl_q_762_pix:=h5.pix.le
    have hs9_767:(e2.v,d5)=(f2.v,g5):=xe.trans bf.symm
    have hc_hs9_767:d5=g5:=congrArg Prod.snd hs9_767
    refine pu3 ?_
    refine sAlloc df zeroValue28 ?_
    intro _ _ ff
    refine sTl ff 0 (encPlane f2) sizeOf28 ?_
    intro _ i5
    refine pu1<|zS ?_
    refine lA i5 2 0 4 (isAgg28 _) (sizeOf28 _) ?_
    refine lA i5 0 0 4 (isAgg28 _) (sizeOf28 _) ?_
    refine cR call13 (r4_equal e2 f2 ⟨(RdT.flat (e5.pix.up 3 (by rfl)))⟩ ⟨(RdT.flat (h5.pix.up 1 (by rfl)))⟩ i5.flat) ?_
    intro _ gf
    refine pu2 ?_
    have hf:e2.v=f2.v:=(congrArg Prod.fst hs9_767)
    refine sFix 94 _ false (congrArg Bool.not (decide_eq_true hf)) ?_
    refine pu4<|nT ?_
    have jf:(d5:Int)=g5:=by omega
    refine cF _ (bne_eq_false_iff_eq.2 jf) ?_
    refine skipE<|bN<|tN<|rE<|pu1 ?_
    refine sAdd (i:Int) 1 ?_
    refine pu1<|nT ?_
    exact ⟨(i+1,ue),od,alA,(gf.drops [0,0,0,0,1,1,1,1,1]),om,om⟩
   refine rE<|pu1 ?_
   refine lA f1 4 0 4 (isAgg28 _) (sizeOf28 _) ?_
   refine cX call10 (tg_spoilPlane (RdT.flat (ht.up 6 (by rfl))) om f1.flat1 a0 ⟨(RdT.flat (h0.pix.up 4 (by rfl)))⟩ 0 om (planeB_S j0.2.2.1 j0.2.2.2)) ?_
   rintro _ _ ⟨j5,_,rfl,f9,_,lf,_,mf⟩
   refine sTl (Sat.unflat2 mf) 5 (encPlane j5) sizeOf28 ?_
   intro _ k5
   refine zS ?_
   refine lA k5 5 0 4 (isAgg28 _) (sizeOf28 _) ?_
   refine lA k5 3 0 9 (isAgg33 _) (sizeOf33 _) ?_
   refine pu1 ?_
   refine cX call11 (p21_put j5 (⟨0,l0,c0.x0,c0.y0,c0.x1,c0.y1,⟨none,0,0,[]⟩,0,0⟩:Task) azs nzs kzs zs ⟨(RdT.flat (f9.pix.up 1 (by rfl)))⟩ ⟨(RdT.nil (enc:=Go.E.encI) (sz:=1) fR _)⟩ (RdT.flat (hOzs.rdAt 2 (by rfl))) k5.flat) ?_
   rintro _ _ ⟨g2,l5,_,rfl,m5,pf,qf⟩
   have rf:=qf.unflat1
   have hn_q_716_pix:=m5.pix.len;have hl_q_716_pix:=m5.pix.le
   refine pu3 ?_
   refine sAlloc rf zeroValue28 ?_
   intro _ _ sf
   refine sTl sf 0 (encPlane g2) sizeOf28 ?_
   intro _ n5
   refine pu1<|zS ?_
   refine lA n5 7 0 4 (isAgg28 _) (sizeOf28 _) ?_
   refine lA n5 5 0 9 (isAgg33 _) (sizeOf33 _) ?_
   refine pu1 ?_
   refine cX call12 (r21_put j5 (⟨0,l0,c0.x0,c0.y0,c0.x1,c0.y1,⟨none,0,0,[]⟩,0,0⟩:Task) azs nzs kzs zs ⟨(RdT.flat (f9.pix.up 3 (by rfl)))⟩ ⟨(RdT.nil (enc:=Go.E.encI) (sz:=1) fR _)⟩ (RdT.flat (hOzs.rdAt 4 (by rfl))) n5.flat) ?_
   rintro _ _ ⟨h2,o5,_,rfl,p5,tf,uf⟩
   have vf:=uf.unflat1
   have hn_q_729_pix:=p5.pix.len;have hl_q_729_pix:=p5.pix.le
   have hs9_734:(g2.v,l5)=(h2.v,o5):=pf.trans tf.symm
   have hc_hs9_734:l5=o5:=congrArg Prod.snd hs9_734
   refine pu3 ?_
   refine sAlloc vf zeroValue28 ?_
   intro _ _ wf
   refine sTl wf 0 (encPlane h2) sizeOf28 ?_
   intro _ q5
   refine pu1<|zS ?_
   refine lA q5 2 0 4 (isAgg28 _) (sizeOf28 _) ?_
   refine lA q5 0 0 4 (isAgg28 _) (sizeOf28 _) ?_
   refine cR call13 (r4_equal g2 h2 ⟨(RdT.flat (m5.pix.up 3 (by rfl)))⟩ ⟨(RdT.flat (p5.pix.up 1 (by rfl)))⟩ q5.flat) ?_
   intro _ xf
   refine pu2 ?_
   have yf:g2.v=h2.v:=(congrArg Prod.fst hs9_734)
   refine sFix 94 _ false (congrArg Bool.not (decide_eq_true yf)) ?_
   refine pu4<|nT ?_
   have zf:(l5:Int)=o5:=by omega
   refine cF _ (bne_eq_false_iff_eq.2 zf) ?_
   refine skipE<|bN<|tN<|rE<|pu1 ?_
   refine sAdd (i:Int) 1 ?_
   refine pu1<|nT ?_
   exact ⟨(i+1,lf),od,alA,(xf.drops [0,0,0,0,1,1,1,1,1,1]),om,om⟩
  refine drawE [4] [(1,⟨f0,0,none⟩,I r.x0),(1,⟨f0,1,none⟩,I r.y0),(1,⟨f0,2,none⟩,I r.x1),(1,⟨f0,3,none⟩,I r.y1)] [(true,[0,2]),(true,[1]),(true,[3]),(false,[4])] rfl kr ⟨cI o0 6,cI o0 6,cI o0 6,cI o0 6,trivial⟩ ?_
  have bg:=o0.drew
  refine wU [0,2] ?_
  refine wY (.agg (encRct r).toArray) rfl (fun w hF=>Y_loadF rfl (isAgg24 w) (sizeOf24 w) kr rfl ⟨hF 0 _ _ rfl,hF 1 _ _ rfl,hF 2 _ _ rfl,hF 3 _ _ rfl,trivial⟩) ?_
  refine wU [3] ?_
  refine wO rfl ?_
  refine tW bg 2 2 (.agg (encRct r).toArray) sizeOf24 ?_
  intro _ cg
  refine nilO ⟨dA,?_⟩
  refine wN ?_
  refine tN<|seqE<|sR<|pu1 ?_
  have dg:=(cg.pick 1 rfl)
  refine cX call9 (tape_next (RdT.flat (ht.up 6 (by rfl))) om dg.flat1 10 om) ?_
  rintro _ _ ⟨eg,rfl,_,fg,_,gg⟩
  have g1:=gg.unflat1
  refine pu1<|nT ?_
  refine cE eg 9 (fun hg=>?_) (fun hg=>?_)
  rotate_left
  ·refine kS ?_
   refine lA g1 4 0 4 (isAgg28 _) (sizeOf28 _) ?_
   refine lA g1 2 0 9 (isAgg33 _) (sizeOf33 _) ?_
   refine pu1 ?_
   refine cX call11 (p21_put a0 (⟨0,l0,r.x0,r.y0,r.x1,r.y1,⟨none,0,0,[]⟩,0,0⟩:Task) pix npix kpix xpix ⟨(RdT.flat (h0.pix.up 5 (by rfl)))⟩ ⟨(RdT.nil (enc:=Go.E.encI) (sz:=1) fR _)⟩ (RdT.flat (hpix.up 7 (by rfl))) g1.flat) ?_
   rintro _ _ ⟨j2,r5,_,rfl,s5,ig,jg⟩
   have kg:=jg.unflat1
   have hn_q_663_pix:=s5.pix.len;have hl_q_663_pix:=s5.pix.le
   refine pu3 ?_
   refine sAlloc kg zeroValue28 ?_
   intro _ _ lg
   refine sTl lg 0 (encPlane j2) sizeOf28 ?_
   intro _ t5
   refine pu1<|zS ?_
   refine lA t5 6 0 4 (isAgg28 _) (sizeOf28 _) ?_
   refine lA t5 4 0 9 (isAgg33 _) (sizeOf33 _) ?_
   refine pu1 ?_
   refine cX call12 (r21_put a0 (⟨0,l0,r.x0,r.y0,r.x1,r.y1,⟨none,0,0,[]⟩,0,0⟩:Task) pix npix kpix xpix ⟨(RdT.flat (h0.pix.up 7 (by rfl)))⟩ ⟨(RdT.nil (enc:=Go.E.encI) (sz:=1) fR _)⟩ (RdT.flat (hpix.up 9 (by rfl))) t5.flat) ?_
   rintro _ _ ⟨k2,u5,_,rfl,v5,mg,ng⟩
   have og:=ng.unflat1
   have hn_q_676_pix:=v5.pix.len;have hl_q_676_pix:=v5.pix.le
   have hs9_681:(j2.v,r5)=(k2.v,u5):=ig.trans mg.symm
   have hc_hs9_681:r5=u5:=congrArg Prod.snd hs9_681
   refine pu3 ?_
   refine sAlloc og zeroValue28 ?_
   intro _ _ pg
   refine sTl pg 0 (encPlane k2) sizeOf28 ?_
   intro _ w5
   refine pu1<|zS ?_
   refine lA w5 2 0 4 (isAgg28 _) (sizeOf28 _) ?_
   refine lA w5 0 0 4 (isAgg28 _) (sizeOf28 _) ?_
   refine cR call13 (r4_equal j2 k2 ⟨(RdT.flat (s5.pix.up 3 (by rfl)))⟩ ⟨(RdT.flat (v5.pix.up 1 (by rfl)))⟩ w5.flat) ?_
   intro _ qg
   refine pu2 ?_
   have rg:j2.v=k2.v:=(congrArg Prod.fst hs9_681)
   refine sFix 94 _ false (congrArg Bool.not (decide_eq_true rg)) ?_
   refine pu4<|nT ?_
   have sg:(r5:Int)=u5:=by omega
   refine cF _ (bne_eq_false_iff_eq.2 sg) ?_
   refine skipE<|bN<|tN<|rE<|pu1 ?_
   refine sAdd (i:Int) 1 ?_
   refine pu1<|nT ?_
   exact ⟨(i+1,fg),od,alA,(qg.drops [0,0,0,0,1,1,1,1,1]),om,om⟩
  refine rE<|pu1 ?_
  refine lA g1 4 0 4 (isAgg28 _) (sizeOf28 _) ?_
  refine cX call10 (tg_spoilPlane (RdT.flat (ht.up 6 (by rfl))) om g1.flat1 a0 ⟨(RdT.flat (h0.pix.up 4 (by rfl)))⟩ 0 om (planeB_S j0.2.2.1 j0.2.2.2)) ?_
  rintro _ _ ⟨x5,_,rfl,g9,_,ug,_,vg⟩
  refine sTl (Sat.unflat2 vg) 5 (encPlane x5) sizeOf28 ?_
  intro _ y5
  refine zS ?_
  refine lA y5 5 0 4 (isAgg28 _) (sizeOf28 _) ?_
  refine lA y5 3 0 9 (isAgg33 _) (sizeOf33 _) ?_
  refine pu1 ?_
  refine cX call11 (p21_put x5 (⟨0,l0,r.x0,r.y0,r.x1,r.y1,⟨none,0,0,[]⟩,0,0⟩:Task) pix npix kpix xpix ⟨(RdT.flat (g9.pix.up 1 (by rfl)))⟩ ⟨(RdT.nil (enc:=Go.E.encI) (sz:=1) fR _)⟩ (RdT.flat (hpix.up 8 (by rfl))) y5.flat) ?_
  rintro _ _ ⟨l2,z5,_,rfl,a6,xg,yg⟩
  have zg:=yg.unflat1
  have hn_q_630_pix:=a6.pix.len;have hl_q_630_pix:=a6.pix.le
  refine pu3 ?_
  refine sAlloc zg zeroValue28 ?_
  intro _ _ ah
  refine sTl ah 0 (encPlane l2) sizeOf28 ?_
  intro _ b6
  refine pu1<|zS ?_
  refine lA b6 7 0 4 (isAgg28 _) (sizeOf28 _) ?_
  refine lA b6 5 0 9 (isAgg33 _) (sizeOf33 _) ?_
  refine pu1 ?_
  refine cX call12 (r21_put x5 (⟨0,l0,r.x0,r.y0,r.x1,r.y1,⟨none,0,0,[]⟩,0,0⟩:Task) pix npix kpix xpix ⟨(RdT.flat (g9.pix.up 3 (by rfl)))⟩ ⟨(RdT.nil (enc:=Go.E.encI) (sz:=1) fR _)⟩ (RdT.flat (hpix.up 10 (by rfl))) b6.flat) ?_
  rintro _ _ ⟨m2,c6,_,rfl,d6,bh,ch⟩
  have dh:=ch.unflat1
  have hn_q_643_pix:=d6.pix.len;have hl_q_643_pix:=d6.pix.le
  have hs9_648:(l2.v,z5)=(m2.v,c6):=xg.trans bh.symm
  have hc_hs9_648:z5=c6:=congrArg Prod.snd hs9_648
  refine pu3 ?_
  refine sAlloc dh zeroValue28 ?_
  intro _ _ eh
  refine sTl eh 0 (encPlane m2) sizeOf28 ?_
  intro _ e6
  refine pu1<|zS ?_
  refine lA e6 2 0 4 (isAgg28 _) (sizeOf28 _) ?_
  refine lA e6 0 0 4 (isAgg28 _) (sizeOf28 _) ?_
  refine cR call13 (r4_equal l2 m2 ⟨(RdT.flat (a6.pix.up 3 (by rfl)))⟩ ⟨(RdT.flat (d6.pix.up 1 (by rfl)))⟩ e6.flat) ?_
  intro _ fh
  refine pu2 ?_
  have gh:l2.v=m2.v:=(congrArg Prod.fst hs9_648)
  refine sFix 94 _ false (congrArg Bool.not (decide_eq_true gh)) ?_
  refine pu4<|nT ?_
  have hh:(z5:Int)=c6:=by omega
  refine cF _ (bne_eq_false_iff_eq.2 hh) ?_
  refine skipE<|bN<|tN<|rE<|pu1 ?_
  refine sAdd (i:Int) 1 ?_
  refine pu1<|nT ?_
  exact ⟨(i+1,ug),od,alA,(fh.drops [0,0,0,0,1,1,1,1,1,1]),om,om⟩
 refine qO rfl ?_
 have jh:=(b2.pick 2 rfl)
 refine cX call6 (tape_pick (RdT.flat (ht.up 4 (by rfl))) om jh.flat1 (RdT.flat (RdT.blk (enc:=Go.E.encI) (sz:=1) (xs:=[0,2,0,1,3]) (fun _=>(by rfl)) 5 0 rfl rfl rfl om)) om om) ?_
 rintro _ _ ⟨g0,rfl,kh,_,_,lh⟩
 have n2:=lh.unflat1
 have ex:(g0:Int)=0\/(g0:Int)=2\/(g0:Int)=0\/(g0:Int)=1\/(g0:Int)=3:=by simpa using kh
 refine nilO ⟨⟨cI n2 2,cI n2 2,trivial⟩,?_⟩
 refine qF ?_ ?_
 ·refine qO rfl ?_
  refine cX call7 (tg_within (RdT.flat (ht.up 4 (by rfl))) om n2.flat1 a0.w a0.h om om) ?_
  rintro _ _ ⟨d0,rfl,h9,_,_,mh⟩
  have nh:=mh.unflat1
  refine nilO ⟨dA,?_⟩
  refine qU [9] ?_
  refine qO rfl ?_
  refine sAlloc nh zeroValue33 ?_
  intro i9 _ oh
  refine nilO ⟨dA,?_⟩
  refine qO rfl ?_
  refine sTl oh 0 [I 0,I g0,I d0.x0,I d0.y0,I d0.x1,I d0.y1,nS,I 0,I 0] sizeOf33 ?_
  intro _ j9
  refine nilO ⟨dA,?_⟩
  refine qN ?_
  refine tN<|sR<|pu1<|nT<|seqE<|seqE ?_
  have hw0:=h9;unfold rIn at hw0;have hmm:=mul_bd (a:=d0.x1-d0.x0) (b:=d0.y1-d0.y0) (A:=128) (B:=128) om om;have hm0:=Int.mul_nonneg (show 0<=d0.x1-d0.x0 by omega) (show 0<=d0.y1-d0.y0 by omega)
  refine rE<|pu1 ?_
  refine lA j9 0 2 4 (isAgg24 _) (sizeOf24 _) ?_
  refine cR call8 (r2_area d0 (by have h:=h9;unfold rIn at h⊢;first|omega|(dsimp only;omega)) j9.flat) ?_
  intro _ ph
  refine pu1 ?_
  have qh:=(ph.pick 1 rfl)
  refine cX call9 (tape_next (RdT.flat (ht.up 5 (by rfl))) om qh.flat1 14 om) ?_
  rintro _ _ ⟨h1,rfl,_,rh,_,sh⟩
  have th:=sh.unflat1
  have ox:=Int.tdiv_eq_ediv_of_nonneg (a:=h1) (b:=13) om
  refine sQuo h1 13 ?_
  refine sAdd ((d0.x1-d0.x0)*(d0.y1-d0.y0)) (h1.tdiv 13) ?_
  refine pu1<|nT<|blockE ?_
  have uh:=Sat.nilc th
  have vh:=OwnT.nil (enc:=Go.E.encI) (E:=3) (sz:=1) fR
  obtain ⟨M,hM⟩:∃M:Nat,(((d0.x1-d0.x0)*(d0.y1-d0.y0))+(h1.tdiv 13))=(M:Int):=⟨_,(Int.toNat_of_nonneg om).symm⟩
  refine loopA (γ:=Nat×Int×Int×(List Int)×(Option Addr)×Nat×Nat×Chunk) (fun ⟨i2,mm,iti2,zs,azs,nzs,kzs,czs⟩=>[(1, .slice pix npix kpix),(5,Pt f0 0),(7,Pt m0 0),(8,I (i:Int)),(9,Pt i0 0),(10,Pt i9 0),(12,I mm),(11, .slice azs nzs kzs)]) (fun ⟨i2,mm,iti2,zs,azs,nzs,kzs,czs⟩ w=>Sat W w (czs::[(m0, .cells #[.slice t nt kt,I iti2] 44 (0,0))]::[(i9, .cells #[I 0,I g0,I d0.x0,I d0.y0,I d0.x1,I d0.y1,nS,I 0,I 0] 33 (0,0))]::[(v4, .cells #[I 0,I 2,I 0,I 1,I 3] 3 (0,0))]::[(i0, .cells (encPlane a0).toArray 28 (0,0))]::n1::[(f0, .cells (encRct r).toArray 24 (0,0))]::H::F)/\i2<=M/\(mm=(M:Int)-(i2:Int))/\((M:Int)<=20000)/\(zs.length=i2)/\(0<=iti2/\iti2<=nt)/\OwnT Go.E.encI 3 1 azs nzs kzs zs czs) (fun ⟨i2,mm,iti2,zs,azs,nzs,kzs,czs⟩=>M-i2) (0,(((d0.x1-d0.x0)*(d0.y1-d0.y0))+(h1.tdiv 13)),rh,[],none,0,0,[]) ⟨uh,om,om,om,by rfl,om,vh⟩ ?_
  rintro ⟨i2,mm,iti2,zs,azs,nzs,kzs,czs⟩ ρ _ ⟨p0,hi2,hmm2,hM9,hzl,hiti2,hOzs⟩
  have hn_zs:=hOzs.len;have hl_zs:=hOzs.le
  refine seqE<|sR<|pu2<|nT ?_
  refine cD (mm>0) (fun wh=>?_) (fun wh=>?_)
  ·refine kT<|seqE<|blockE ?_
   refine drawE [6,12,15,16,17,18] [(4,⟨i0,2,none⟩,I a0.max_),(8,⟨i0,2,none⟩,I a0.max_),(10,⟨i0,2,none⟩,I a0.max_)] [(true,[0,1,2,3,7,9,11]),(true,[4]),(true,[5]),(true,[8]),(true,[10]),(false,[6]),(false,[12]),(true,[13]),(true,[14]),(false,[15]),(false,[16]),(false,[17]),(false,[18]),(true,[19])] rfl kr ⟨cI p0 4,cI p0 4,cI p0 4,trivial⟩ ?_
   have xh:=p0.drew
   refine wU [0,1,2,3,7,9,11] ?_
   refine wLd (I a0.max_) 0 isAgg3 ?_
   refine wAdd a0.max_ 1 ?_
   refine wLd (I a0.max_) 1 isAgg3 ?_
   refine wLd (I a0.max_) 2 isAgg3 ?_
   refine wO rfl ?_
   have yh:=(xh.pick 1 rfl)
   refine cX call9 (tape_next (RdT.flat (ht.up 6 (by rfl))) om yh.flat1 (a0.max_+1) om) ?_
   rintro _ _ ⟨f6,rfl,_,_,_,zh⟩
   have o2:=zh.unflat1
   refine nilO ⟨⟨cI o2 4,cI o2 4,cI o2 4,trivial⟩,?_⟩
   refine wO rfl ?_
   refine cX call9 (tape_next (RdT.flat (ht.up 6 (by rfl))) om o2.flat1 20 om) ?_
   rintro _ _ ⟨t0,rfl,_,_,_,ai⟩
   have q2:=ai.unflat1
   refine nilO ⟨⟨cI q2 4,cI q2 4,cI q2 4,trivial⟩,?_⟩
   have yx:=Int.tdiv_eq_ediv_of_nonneg (a:=t0) (b:=19) om
   refine wY (I (t0.tdiv 19)) rfl (fun w _=>Y_quo (a:=t0) (b:=19) rfl kr kr om om) ?_
   refine wAdd a0.max_ (t0.tdiv 19) ?_
   refine wO rfl ?_
   refine sBS q2 #[I f6,I a0.max_,I (a0.max_+(t0.tdiv 19))] runUnderlying22 sizeOf3 zeroValue3 ?_
   intro _ _ g6
   refine nilO ⟨⟨cI g6 5,dI,cI g6 5,trivial⟩,?_⟩
   refine wO rfl ?_
   have bi:=(g6.pick 1 rfl)
   refine cX call6 (tape_pick (RdT.flat (ht.up 7 (by rfl))) om bi.flat1 (RdT.flat (RdT.blk (enc:=Go.E.encI) (sz:=1) (xs:=[f6,a0.max_,(a0.max_+(t0.tdiv 19))]) (fun _=>(by rfl)) 3 0 rfl rfl rfl om)) om om) ?_
   rintro _ _ ⟨z0,rfl,ci,di,_,ei⟩
   have h6:=ei.unflat1
   have ey:(z0:Int)=f6\/(z0:Int)=a0.max_\/(z0:Int)=(a0.max_+(t0.tdiv 19)):=by simpa using ci
   refine nilO ⟨⟨cI h6 5,dI,cI h6 5,trivial⟩,?_⟩
   refine wO rfl ?_
   refine sBS h6 #[I z0] runUnderlying22 sizeOf3 zeroValue3 ?_
   intro _ _ i6
   refine nilO ⟨⟨cI i6 6,dI,cI i6 6,trivial⟩,?_⟩
   refine wO rfl ?_
   refine sApp (nb:=8) i6 hOzs 3 (RdT.blk (enc:=Go.E.encI) (sz:=1) (xs:=[z0]) fR 1 0 rfl rfl rfl om) underlying22 (i:=Try.t3) kr fR ?_
   intro fi gi ii _ ji j6
   refine nilO ⟨⟨cI j6 6,dI,cI j6 6,trivial⟩,?_⟩
   refine wU [19] ?_
   refine wN ?_
   refine bN<|tN<|rE<|pu1 ?_
   refine sSub mm 1 ?_
   refine pu1<|nT ?_
   exact ⟨(i2+1,(mm-1),di,(zs++[z0]),fi,(nzs+1),gi,ii),od,alA,((j6.pick 3 rfl).drops [1,2]),om,om,hM9,(by rw [List.length_append,hzl];rfl),om,ji⟩
  refine exitE<|xB<|tN<|seqE<|sR<|pu2<|nT ?_
  refine cE (i:Int) 3 (fun li=>?_) (fun li=>?_)
  rotate_left
  ·refine kT<|seqE<|sR<|pu1 ?_
   have mi:=(p0.pick 1 rfl)
   refine cX call9 (tape_next (RdT.flat (ht.up 6 (by rfl))) om mi.flat1 10 om) ?_
   rintro _ _ ⟨ni,rfl,_,oi,_,pi⟩
   have i1:=pi.unflat1
   refine pu1<|nT ?_
   refine cE ni 9 (fun qi=>?_) (fun qi=>?_)
   rotate_left
   ·refine kS ?_
    refine lA i1 4 0 4 (isAgg28 _) (sizeOf28 _) ?_
    refine lA i1 2 0 9 (isAgg33 _) (sizeOf33 _) ?_
    refine pu1 ?_
    refine cX call11 (p21_put a0 (⟨0,g0,d0.x0,d0.y0,d0.x1,d0.y1,⟨none,0,0,[]⟩,0,0⟩:Task) azs nzs kzs zs ⟨(RdT.flat (h0.pix.up 5 (by rfl)))⟩ ⟨(RdT.nil (enc:=Go.E.encI) (sz:=1) fR _)⟩ (RdT.flat (hOzs.rdAt 1 (by rfl))) i1.flat) ?_
    rintro _ _ ⟨r2,k6,_,rfl,l6,ri,si⟩
    have ti:=si.unflat1
    have hn_q_253_pix:=l6.pix.len;have hl_q_253_pix:=l6.pix.le
    refine pu3 ?_
    refine sAlloc ti zeroValue28 ?_
    intro _ _ ui
    refine sTl ui 0 (encPlane r2) sizeOf28 ?_
    intro _ m6
    refine pu1<|zS ?_
    refine lA m6 6 0 4 (isAgg28 _) (sizeOf28 _) ?_
    refine lA m6 4 0 9 (isAgg33 _) (sizeOf33 _) ?_
    refine pu1 ?_
    refine cX call12 (r21_put a0 (⟨0,g0,d0.x0,d0.y0,d0.x1,d0.y1,⟨none,0,0,[]⟩,0,0⟩:Task) azs nzs kzs zs ⟨(RdT.flat (h0.pix.up 7 (by rfl)))⟩ ⟨(RdT.nil (enc:=Go.E.encI) (sz:=1) fR _)⟩ (RdT.flat (hOzs.rdAt 3 (by rfl))) m6.flat) ?_
    rintro _ _ ⟨s2,n6,_,rfl,o6,vi,wi⟩
    have xi:=wi.unflat1
    have hn_q_266_pix:=o6.pix.len;have hl_q_266_pix:=o6.pix.le
    have hs9_271:(r2.v,k6)=(s2.v,n6):=ri.trans vi.symm
    have hc_hs9_271:k6=n6:=congrArg Prod.snd hs9_271
    refine pu3 ?_
    refine sAlloc xi zeroValue28 ?_
    intro _ _ yi
    refine sTl yi 0 (encPlane s2) sizeOf28 ?_
    intro _ p6
    refine pu1<|zS ?_
    refine lA p6 2 0 4 (isAgg28 _) (sizeOf28 _) ?_
    refine lA p6 0 0 4 (isAgg28 _) (sizeOf28 _) ?_
    refine cR call13 (r4_equal r2 s2 ⟨(RdT.flat (l6.pix.up 3 (by rfl)))⟩ ⟨(RdT.flat (o6.pix.up 1 (by rfl)))⟩ p6.flat) ?_
    intro _ zi
    refine pu2 ?_
    have aj:r2.v=s2.v:=(congrArg Prod.fst hs9_271)
    refine sFix 94 _ false (congrArg Bool.not (decide_eq_true aj)) ?_
    refine pu4<|nT ?_
    have bj:(k6:Int)=n6:=by omega
    refine cF _ (bne_eq_false_iff_eq.2 bj) ?_
    refine skipE<|bN<|tN<|rE<|pu1 ?_
    refine sAdd (i:Int) 1 ?_
    refine pu1<|nT ?_
    exact ⟨(i+1,oi),od,alA,(zi.drops [0,0,0,0,1,1,1,1,1]),om,om⟩
   refine rE<|pu1 ?_
   refine lA i1 4 0 4 (isAgg28 _) (sizeOf28 _) ?_
   refine cX call10 (tg_spoilPlane (RdT.flat (ht.up 6 (by rfl))) om i1.flat1 a0 ⟨(RdT.flat (h0.pix.up 4 (by rfl)))⟩ 0 om (planeB_S j0.2.2.1 j0.2.2.2)) ?_
   rintro _ _ ⟨q6,_,rfl,k9,_,dj,_,ej⟩
   refine sTl (Sat.unflat2 ej) 5 (encPlane q6) sizeOf28 ?_
   intro _ r6
   refine zS ?_
   refine lA r6 5 0 4 (isAgg28 _) (sizeOf28 _) ?_
   refine lA r6 3 0 9 (isAgg33 _) (sizeOf33 _) ?_
   refine pu1 ?_
   refine cX call11 (p21_put q6 (⟨0,g0,d0.x0,d0.y0,d0.x1,d0.y1,⟨none,0,0,[]⟩,0,0⟩:Task) azs nzs kzs zs ⟨(RdT.flat (k9.pix.up 1 (by rfl)))⟩ ⟨(RdT.nil (enc:=Go.E.encI) (sz:=1) fR _)⟩ (RdT.flat (hOzs.rdAt 2 (by rfl))) r6.flat) ?_
   rintro _ _ ⟨t2,s6,_,rfl,t6,gj,hj⟩
   have ij:=hj.unflat1
   have hn_q_220_pix:=t6.pix.len;have hl_q_220_pix:=t6.pix.le
   refine pu3 ?_
   refine sAlloc ij zeroValue28 ?_
   intro _ _ jj
   refine sTl jj 0 (encPlane t2) sizeOf28 ?_
   intro _ u6
   refine pu1<|zS ?_
   refine lA u6 7 0 4 (isAgg28 _) (sizeOf28 _) ?_
   refine lA u6 5 0 9 (isAgg33 _) (sizeOf33 _) ?_
   refine pu1 ?_
   refine cX call12 (r21_put q6 (⟨0,g0,d0.x0,d0.y0,d0.x1,d0.y1,⟨none,0,0,[]⟩,0,0⟩:Task) azs nzs kzs zs ⟨(RdT.flat (k9.pix.up 3 (by rfl)))⟩ ⟨(RdT.nil (enc:=Go.E.encI) (sz:=1) fR _)⟩ (RdT.flat (hOzs.rdAt 4 (by rfl))) u6.flat) ?_
   rintro _ _ ⟨u2,v6,_,rfl,w6,kj,lj⟩
   have mj:=lj.unflat1
   have hn_q_233_pix:=w6.pix.len;have hl_q_233_pix:=w6.pix.le
   have hs9_238:(t2.v,s6)=(u2.v,v6):=gj.trans kj.symm
   have hc_hs9_238:s6=v6:=congrArg Prod.snd hs9_238
   refine pu3 ?_
   refine sAlloc mj zeroValue28 ?_
   intro _ _ nj
   refine sTl nj 0 (encPlane u2) sizeOf28 ?_
   intro _ x6
   refine pu1<|zS ?_
   refine lA x6 2 0 4 (isAgg28 _) (sizeOf28 _) ?_
   refine lA x6 0 0 4 (isAgg28 _) (sizeOf28 _) ?_
   refine cR call13 (r4_equal t2 u2 ⟨(RdT.flat (t6.pix.up 3 (by rfl)))⟩ ⟨(RdT.flat (w6.pix.up 1 (by rfl)))⟩ x6.flat) ?_
   intro _ oj
   refine pu2 ?_
   have pj:t2.v=u2.v:=(congrArg Prod.fst hs9_238)
   refine sFix 94 _ false (congrArg Bool.not (decide_eq_true pj)) ?_
   refine pu4<|nT ?_
   have qj:(s6:Int)=v6:=by omega
   refine cF _ (bne_eq_false_iff_eq.2 qj) ?_
   refine skipE<|bN<|tN<|rE<|pu1 ?_
   refine sAdd (i:Int) 1 ?_
   refine pu1<|nT ?_
   exact ⟨(i+1,dj),od,alA,(oj.drops [0,0,0,0,1,1,1,1,1,1]),om,om⟩
  refine drawE [4] [(1,⟨f0,0,none⟩,I r.x0),(1,⟨f0,1,none⟩,I r.y0),(1,⟨f0,2,none⟩,I r.x1),(1,⟨f0,3,none⟩,I r.y1)] [(true,[0,2]),(true,[1]),(true,[3]),(false,[4])] rfl kr ⟨cI p0 6,cI p0 6,cI p0 6,cI p0 6,trivial⟩ ?_
  have sj:=p0.drew
  refine wU [0,2] ?_
  refine wY (.agg (encRct r).toArray) rfl (fun w hF=>Y_loadF rfl (isAgg24 w) (sizeOf24 w) kr rfl ⟨hF 0 _ _ rfl,hF 1 _ _ rfl,hF 2 _ _ rfl,hF 3 _ _ rfl,trivial⟩) ?_
  refine wU [3] ?_
  refine wO rfl ?_
  refine tW sj 2 2 (.agg (encRct r).toArray) sizeOf24 ?_
  intro _ tj
  refine nilO ⟨dA,?_⟩
  refine wN ?_
  refine tN<|seqE<|sR<|pu1 ?_
  have uj:=(tj.pick 1 rfl)
  refine cX call9 (tape_next (RdT.flat (ht.up 6 (by rfl))) om uj.flat1 10 om) ?_
  rintro _ _ ⟨vj,rfl,_,wj,_,xj⟩
  have j1:=xj.unflat1
  refine pu1<|nT ?_
  refine cE vj 9 (fun yj=>?_) (fun yj=>?_)
  rotate_left
  ·refine kS ?_
   refine lA j1 4 0 4 (isAgg28 _) (sizeOf28 _) ?_
   refine lA j1 2 0 9 (isAgg33 _) (sizeOf33 _) ?_
   refine pu1 ?_
   refine cX call11 (p21_put a0 (⟨0,g0,r.x0,r.y0,r.x1,r.y1,⟨none,0,0,[]⟩,0,0⟩:Task) pix npix kpix xpix ⟨(RdT.flat (h0.pix.up 5 (by rfl)))⟩ ⟨(RdT.nil (enc:=Go.E.encI) (sz:=1) fR _)⟩ (RdT.flat (hpix.up 7 (by rfl))) j1.flat) ?_
   rintro _ _ ⟨v2,y6,_,rfl,z6,zj,ak⟩
   have bk:=ak.unflat1
   have hn_q_167_pix:=z6.pix.len;have hl_q_167_pix:=z6.pix.le
   refine pu3 ?_
   refine sAlloc bk zeroValue28 ?_
   intro _ _ ck
   refine sTl ck 0 (encPlane v2) sizeOf28 ?_
   intro _ a7
   refine pu1<|zS ?_
   refine lA a7 6 0 4 (isAgg28 _) (sizeOf28 _) ?_
   refine lA a7 4 0 9 (isAgg33 _) (sizeOf33 _) ?_
   refine pu1 ?_
   refine cX call12 (r21_put a0 (⟨0,g0,r.x0,r.y0,r.x1,r.y1,⟨none,0,0,[]⟩,0,0⟩:Task) pix npix kpix xpix ⟨(RdT.flat (h0.pix.up 7 (by rfl)))⟩ ⟨(RdT.nil (enc:=Go.E.encI) (sz:=1) fR _)⟩ (RdT.flat (hpix.up 9 (by rfl))) a7.flat) ?_
   rintro _ _ ⟨w2,b7,_,rfl,c7,dk,ek⟩
   have gk:=ek.unflat1
   have hn_q_180_pix:=c7.pix.len;have hl_q_180_pix:=c7.pix.le
   have hs9_185:(v2.v,y6)=(w2.v,b7):=zj.trans dk.symm
   have hc_hs9_185:y6=b7:=congrArg Prod.snd hs9_185
   refine pu3 ?_
   refine sAlloc gk zeroValue28 ?_
   intro _ _ hk
   refine sTl hk 0 (encPlane w2) sizeOf28 ?_
   intro _ d7
   refine pu1<|zS ?_
   refine lA d7 2 0 4 (isAgg28 _) (sizeOf28 _) ?_
   refine lA d7 0 0 4 (isAgg28 _) (sizeOf28 _) ?_
   refine cR call13 (r4_equal v2 w2 ⟨(RdT.flat (z6.pix.up 3 (by rfl)))⟩ ⟨(RdT.flat (c7.pix.up 1 (by rfl)))⟩ d7.flat) ?_
   intro _ ik
   refine pu2 ?_
   have jk:v2.v=w2.v:=(congrArg Prod.fst hs9_185)
   refine sFix 94 _ false (congrArg Bool.not (decide_eq_true jk)) ?_
   refine pu4<|nT ?_
   have kk:(y6:Int)=b7:=by omega
   refine cF _ (bne_eq_false_iff_eq.2 kk) ?_
   refine skipE<|bN<|tN<|rE<|pu1 ?_
   refine sAdd (i:Int) 1 ?_
   refine pu1<|nT ?_
   exact ⟨(i+1,wj),od,alA,(ik.drops [0,0,0,0,1,1,1,1,1]),om,om⟩
  refine rE<|pu1 ?_
  refine lA j1 4 0 4 (isAgg28 _) (sizeOf28 _) ?_
  refine cX call10 (tg_spoilPlane (RdT.flat (ht.up 6 (by rfl))) om j1.flat1 a0 ⟨(RdT.flat (h0.pix.up 4 (by rfl)))⟩ 0 om (planeB_S j0.2.2.1 j0.2.2.2)) ?_
  rintro _ _ ⟨e7,_,rfl,l9,_,mk,_,nk⟩
  refine sTl (Sat.unflat2 nk) 5 (encPlane e7) sizeOf28 ?_
  intro _ f7
  refine zS ?_
  refine lA f7 5 0 4 (isAgg28 _) (sizeOf28 _) ?_
  refine lA f7 3 0 9 (isAgg33 _) (sizeOf33 _) ?_
  refine pu1 ?_
  refine cX call11 (p21_put e7 (⟨0,g0,r.x0,r.y0,r.x1,r.y1,⟨none,0,0,[]⟩,0,0⟩:Task) pix npix kpix xpix ⟨(RdT.flat (l9.pix.up 1 (by rfl)))⟩ ⟨(RdT.nil (enc:=Go.E.encI) (sz:=1) fR _)⟩ (RdT.flat (hpix.up 8 (by rfl))) f7.flat) ?_
  rintro _ _ ⟨x2,g7,_,rfl,h7,pk,qk⟩
  have rk:=qk.unflat1
  have hn_q_134_pix:=h7.pix.len;have hl_q_134_pix:=h7.pix.le
  refine pu3 ?_
  refine sAlloc rk zeroValue28 ?_
  intro _ _ sk
  refine sTl sk 0 (encPlane x2) sizeOf28 ?_
  intro _ i7
  refine pu1<|zS ?_
  refine lA i7 7 0 4 (isAgg28 _) (sizeOf28 _) ?_
  refine lA i7 5 0 9 (isAgg33 _) (sizeOf33 _) ?_
  refine pu1 ?_
  refine cX call12 (r21_put e7 (⟨0,g0,r.x0,r.y0,r.x1,r.y1,⟨none,0,0,[]⟩,0,0⟩:Task) pix npix kpix xpix ⟨(RdT.flat (l9.pix.up 3 (by rfl)))⟩ ⟨(RdT.nil (enc:=Go.E.encI) (sz:=1) fR _)⟩ (RdT.flat (hpix.up 10 (by rfl))) i7.flat) ?_
  rintro _ _ ⟨y2,j7,_,rfl,k7,tk,uk⟩
  have vk:=uk.unflat1
  have hn_q_147_pix:=k7.pix.len;have hl_q_147_pix:=k7.pix.le
  have hs9_152:(x2.v,g7)=(y2.v,j7):=pk.trans tk.symm
  have hc_hs9_152:g7=j7:=congrArg Prod.snd hs9_152
  refine pu3 ?_
  refine sAlloc vk zeroValue28 ?_
  intro _ _ wk
  refine sTl wk 0 (encPlane y2) sizeOf28 ?_
  intro _ l7
  refine pu1<|zS ?_
  refine lA l7 2 0 4 (isAgg28 _) (sizeOf28 _) ?_
  refine lA l7 0 0 4 (isAgg28 _) (sizeOf28 _) ?_
  refine cR call13 (r4_equal x2 y2 ⟨(RdT.flat (h7.pix.up 3 (by rfl)))⟩ ⟨(RdT.flat (k7.pix.up 1 (by rfl)))⟩ l7.flat) ?_
  intro _ xk
  refine pu2 ?_
  have yk:x2.v=y2.v:=(congrArg Prod.fst hs9_152)
  refine sFix 94 _ false (congrArg Bool.not (decide_eq_true yk)) ?_
  refine pu4<|nT ?_
  have zk:(g7:Int)=j7:=by omega
  refine cF _ (bne_eq_false_iff_eq.2 zk) ?_
  refine skipE<|bN<|tN<|rE<|pu1 ?_
  refine sAdd (i:Int) 1 ?_
  refine pu1<|nT ?_
  exact ⟨(i+1,mk),od,alA,(xk.drops [0,0,0,0,1,1,1,1,1,1]),om,om⟩
 refine qO rfl ?_
 refine sAlloc n2 zeroValue33 ?_
 intro m9 _ m7
 refine nilO ⟨⟨cI m7 3,cI m7 3,trivial⟩,?_⟩
 refine qO rfl ?_
 have bl:=(m7.pick 1 rfl)
 refine cX call7 (tg_within (RdT.flat (ht.up 5 (by rfl))) om bl.flat1 a0.w a0.h om om) ?_
 rintro _ _ ⟨e0,rfl,n9,_,_,cl⟩
 have dl:=cl.unflat1
 refine nilO ⟨dA,?_⟩
 refine qU [9] ?_
 refine qO rfl ?_
 refine sTl dl 1 [I 0,I g0,I e0.x0,I e0.y0,I e0.x1,I e0.y1,nS,I 0,I 0] sizeOf33 ?_
 intro _ o9
 refine nilO ⟨dA,?_⟩
 refine qN ?_
 refine tN<|sR<|pu1<|nT<|seqE<|seqE ?_
 have hw0:=n9;unfold rIn at hw0;have hmm:=mul_bd (a:=e0.x1-e0.x0) (b:=e0.y1-e0.y0) (A:=128) (B:=128) om om;have hm0:=Int.mul_nonneg (show 0<=e0.x1-e0.x0 by omega) (show 0<=e0.y1-e0.y0 by omega)
 refine rE<|pu1 ?_
 refine lA o9 1 2 4 (isAgg24 _) (sizeOf24 _) ?_
 refine cR call8 (r2_area e0 (by have h:=n9;unfold rIn at h⊢;first|omega|(dsimp only;omega)) o9.flat) ?_
 intro _ el
 refine pu1 ?_
 refine cX call9 (tape_next (RdT.flat (ht.up 5 (by rfl))) om el.flat1 14 om) ?_
 rintro _ _ ⟨k1,rfl,_,fl,_,gl⟩
 have hl:=gl.unflat1
 have eB:=Int.tdiv_eq_ediv_of_nonneg (a:=k1) (b:=13) om
 refine sQuo k1 13 ?_
 refine sAdd ((e0.x1-e0.x0)*(e0.y1-e0.y0)) (k1.tdiv 13) ?_
 refine pu1<|nT<|blockE ?_
 have il:=Sat.nilc hl
 have jl:=OwnT.nil (enc:=Go.E.encI) (E:=3) (sz:=1) fR
 obtain ⟨M,hM⟩:∃M:Nat,(((e0.x1-e0.x0)*(e0.y1-e0.y0))+(k1.tdiv 13))=(M:Int):=⟨_,(Int.toNat_of_nonneg om).symm⟩
 refine loopA (γ:=Nat×Int×Int×(List Int)×(Option Addr)×Nat×Nat×Chunk) (fun ⟨i2,mm,iti2,zs,azs,nzs,kzs,czs⟩=>[(1, .slice pix npix kpix),(5,Pt f0 0),(7,Pt m0 0),(8,I (i:Int)),(9,Pt i0 0),(10,Pt m9 0),(12,I mm),(11, .slice azs nzs kzs)]) (fun ⟨i2,mm,iti2,zs,azs,nzs,kzs,czs⟩ w=>Sat W w (czs::[(m0, .cells #[.slice t nt kt,I iti2] 44 (0,0))]::[(m9, .cells #[I 0,I g0,I e0.x0,I e0.y0,I e0.x1,I e0.y1,nS,I 0,I 0] 33 (0,0))]::[(v4, .cells #[I 0,I 2,I 0,I 1,I 3] 3 (0,0))]::[(i0, .cells (encPlane a0).toArray 28 (0,0))]::n1::[(f0, .cells (encRct r).toArray 24 (0,0))]::H::F)/\i2<=M/\(mm=(M:Int)-(i2:Int))/\((M:Int)<=20000)/\(zs.length=i2)/\(0<=iti2/\iti2<=nt)/\OwnT Go.E.encI 3 1 azs nzs kzs zs czs) (fun ⟨i2,mm,iti2,zs,azs,nzs,kzs,czs⟩=>M-i2) (0,(((e0.x1-e0.x0)*(e0.y1-e0.y0))+(k1.tdiv 13)),fl,[],none,0,0,[]) ⟨il,om,om,om,by rfl,om,jl⟩ ?_
 rintro ⟨i2,mm,iti2,zs,azs,nzs,kzs,czs⟩ ρ _ ⟨q0,hi2,hmm2,hM9,hzl,hiti2,hOzs⟩
 have hn_zs:=hOzs.len;have hl_zs:=hOzs.le
 refine seqE<|sR<|pu2<|nT ?_
 refine cD (mm>0) (fun kl=>?_) (fun kl=>?_)
 ·refine kT<|seqE<|blockE ?_
  refine drawE [6,12,15,16,17,18] [(4,⟨i0,2,none⟩,I a0.max_),(8,⟨i0,2,none⟩,I a0.max_),(10,⟨i0,2,none⟩,I a0.max_)] [(true,[0,1,2,3,7,9,11]),(true,[4]),(true,[5]),(true,[8]),(true,[10]),(false,[6]),(false,[12]),(true,[13]),(true,[14]),(false,[15]),(false,[16]),(false,[17]),(false,[18]),(true,[19])] rfl kr ⟨cI q0 4,cI q0 4,cI q0 4,trivial⟩ ?_
  have ll:=q0.drew
  refine wU [0,1,2,3,7,9,11] ?_
  refine wLd (I a0.max_) 0 isAgg3 ?_
  refine wAdd a0.max_ 1 ?_
  refine wLd (I a0.max_) 1 isAgg3 ?_
  refine wLd (I a0.max_) 2 isAgg3 ?_
  refine wO rfl ?_
  have ml:=(ll.pick 1 rfl)
  refine cX call9 (tape_next (RdT.flat (ht.up 6 (by rfl))) om ml.flat1 (a0.max_+1) om) ?_
  rintro _ _ ⟨n7,rfl,_,_,_,nl⟩
  have z2:=nl.unflat1
  refine nilO ⟨⟨cI z2 4,cI z2 4,cI z2 4,trivial⟩,?_⟩
  refine wO rfl ?_
  refine cX call9 (tape_next (RdT.flat (ht.up 6 (by rfl))) om z2.flat1 20 om) ?_
  rintro _ _ ⟨u0,rfl,_,_,_,ol⟩
  have a3:=ol.unflat1
  refine nilO ⟨⟨cI a3 4,cI a3 4,cI a3 4,trivial⟩,?_⟩
  have pB:=Int.tdiv_eq_ediv_of_nonneg (a:=u0) (b:=19) om
  refine wY (I (u0.tdiv 19)) rfl (fun w _=>Y_quo (a:=u0) (b:=19) rfl kr kr om om) ?_
  refine wAdd a0.max_ (u0.tdiv 19) ?_
  refine wO rfl ?_
  refine sBS a3 #[I n7,I a0.max_,I (a0.max_+(u0.tdiv 19))] runUnderlying22 sizeOf3 zeroValue3 ?_
  intro _ _ o7
  refine nilO ⟨⟨cI o7 5,dI,cI o7 5,trivial⟩,?_⟩
  refine wO rfl ?_
  have pl:=(o7.pick 1 rfl)
  refine cX call6 (tape_pick (RdT.flat (ht.up 7 (by rfl))) om pl.flat1 (RdT.flat (RdT.blk (enc:=Go.E.encI) (sz:=1) (xs:=[n7,a0.max_,(a0.max_+(u0.tdiv 19))]) (fun _=>(by rfl)) 3 0 rfl rfl rfl om)) om om) ?_
  rintro _ _ ⟨a1,rfl,ql,rl,_,sl⟩
  have p7:=sl.unflat1
  have wB:(a1:Int)=n7\/(a1:Int)=a0.max_\/(a1:Int)=(a0.max_+(u0.tdiv 19)):=by simpa using ql
  refine nilO ⟨⟨cI p7 5,dI,cI p7 5,trivial⟩,?_⟩
  refine wO rfl ?_
  refine sBS p7 #[I a1] runUnderlying22 sizeOf3 zeroValue3 ?_
  intro _ _ q7
  refine nilO ⟨⟨cI q7 6,dI,cI q7 6,trivial⟩,?_⟩
  refine wO rfl ?_
  refine sApp (nb:=8) q7 hOzs 3 (RdT.blk (enc:=Go.E.encI) (sz:=1) (xs:=[a1]) fR 1 0 rfl rfl rfl om) underlying22 (i:=Try.t3) kr fR ?_
  intro tl ul vl _ wl r7
  refine nilO ⟨⟨cI r7 6,dI,cI r7 6,trivial⟩,?_⟩
  refine wU [19] ?_
  refine wN ?_
  refine bN<|tN<|rE<|pu1 ?_
  refine sSub mm 1 ?_
  refine pu1<|nT ?_
  exact ⟨(i2+1,(mm-1),rl,(zs++[a1]),tl,(nzs+1),ul,vl),od,alA,((r7.pick 3 rfl).drops [1,2]),om,om,hM9,(by rw [List.length_append,hzl];rfl),om,wl⟩
 refine exitE<|xB<|tN<|seqE<|sR<|pu2<|nT ?_
 refine cE (i:Int) 3 (fun yl=>?_) (fun yl=>?_)
 rotate_left
 ·refine kT<|seqE<|sR<|pu1 ?_
  have zl:=(q0.pick 1 rfl)
  refine cX call9 (tape_next (RdT.flat (ht.up 6 (by rfl))) om zl.flat1 10 om) ?_
  rintro _ _ ⟨am,rfl,_,cm,_,dm⟩
  have l1:=dm.unflat1
  refine pu1<|nT ?_
  refine cE am 9 (fun em=>?_) (fun em=>?_)
  rotate_left
  ·refine kS ?_
   refine lA l1 4 0 4 (isAgg28 _) (sizeOf28 _) ?_
   refine lA l1 2 0 9 (isAgg33 _) (sizeOf33 _) ?_
   refine pu1 ?_
   refine cX call11 (p21_put a0 (⟨0,g0,e0.x0,e0.y0,e0.x1,e0.y1,⟨none,0,0,[]⟩,0,0⟩:Task) azs nzs kzs zs ⟨(RdT.flat (h0.pix.up 5 (by rfl)))⟩ ⟨(RdT.nil (enc:=Go.E.encI) (sz:=1) fR _)⟩ (RdT.flat (hOzs.rdAt 1 (by rfl))) l1.flat) ?_
   rintro _ _ ⟨b3,s7,_,rfl,t7,fm,gm⟩
   have hm:=gm.unflat1
   have hn_q_497_pix:=t7.pix.len;have hl_q_497_pix:=t7.pix.le
   refine pu3 ?_
   refine sAlloc hm zeroValue28 ?_
   intro _ _ im
   refine sTl im 0 (encPlane b3) sizeOf28 ?_
   intro _ u7
   refine pu1<|zS ?_
   refine lA u7 6 0 4 (isAgg28 _) (sizeOf28 _) ?_
   refine lA u7 4 0 9 (isAgg33 _) (sizeOf33 _) ?_
   refine pu1 ?_
   refine cX call12 (r21_put a0 (⟨0,g0,e0.x0,e0.y0,e0.x1,e0.y1,⟨none,0,0,[]⟩,0,0⟩:Task) azs nzs kzs zs ⟨(RdT.flat (h0.pix.up 7 (by rfl)))⟩ ⟨(RdT.nil (enc:=Go.E.encI) (sz:=1) fR _)⟩ (RdT.flat (hOzs.rdAt 3 (by rfl))) u7.flat) ?_
   rintro _ _ ⟨c3,v7,_,rfl,w7,jm,km⟩
   have lm:=km.unflat1
   have hn_q_510_pix:=w7.pix.len;have hl_q_510_pix:=w7.pix.le
   have hs9_515:(b3.v,s7)=(c3.v,v7):=fm.trans jm.symm
   have hc_hs9_515:s7=v7:=congrArg Prod.snd hs9_515
   refine pu3 ?_
   refine sAlloc lm zeroValue28 ?_
   intro _ _ nm
   refine sTl nm 0 (encPlane c3) sizeOf28 ?_
   intro _ x7
   refine pu1<|zS ?_
   refine lA x7 2 0 4 (isAgg28 _) (sizeOf28 _) ?_
   refine lA x7 0 0 4 (isAgg28 _) (sizeOf28 _) ?_
   refine cR call13 (r4_equal b3 c3 ⟨(RdT.flat (t7.pix.up 3 (by rfl)))⟩ ⟨(RdT.flat (w7.pix.up 1 (by rfl)))⟩ x7.flat) ?_
   intro _ pm
   refine pu2 ?_
   have qm:b3.v=c3.v:=(congrArg Prod.fst hs9_515)
   refine sFix 94 _ false (congrArg Bool.not (decide_eq_true qm)) ?_
   refine pu4<|nT ?_
   have rm:(s7:Int)=v7:=by omega
   refine cF _ (bne_eq_false_iff_eq.2 rm) ?_
   refine skipE<|bN<|tN<|rE<|pu1 ?_
   refine sAdd (i:Int) 1 ?_
   refine pu1<|nT ?_
   exact ⟨(i+1,cm),od,alA,(pm.drops [0,0,0,0,1,1,1,1,1]),om,om⟩
  refine rE<|pu1 ?_
  refine lA l1 4 0 4 (isAgg28 _) (sizeOf28 _) ?_
  refine cX call10 (tg_spoilPlane (RdT.flat (ht.up 6 (by rfl))) om l1.flat1 a0 ⟨(RdT.flat (h0.pix.up 4 (by rfl)))⟩ 0 om (planeB_S j0.2.2.1 j0.2.2.2)) ?_
  rintro _ _ ⟨y7,_,rfl,p9,_,tm,_,um⟩
  refine sTl (Sat.unflat2 um) 5 (encPlane y7) sizeOf28 ?_
  intro _ z7
  refine zS ?_
  refine lA z7 5 0 4 (isAgg28 _) (sizeOf28 _) ?_
  refine lA z7 3 0 9 (isAgg33 _) (sizeOf33 _) ?_
  refine pu1 ?_
  refine cX call11 (p21_put y7 (⟨0,g0,e0.x0,e0.y0,e0.x1,e0.y1,⟨none,0,0,[]⟩,0,0⟩:Task) azs nzs kzs zs ⟨(RdT.flat (p9.pix.up 1 (by rfl)))⟩ ⟨(RdT.nil (enc:=Go.E.encI) (sz:=1) fR _)⟩ (RdT.flat (hOzs.rdAt 2 (by rfl))) z7.flat) ?_
  rintro _ _ ⟨d3,a8,_,rfl,b8,wm,xm⟩
  have ym:=xm.unflat1
  have hn_q_464_pix:=b8.pix.len;have hl_q_464_pix:=b8.pix.le
  refine pu3 ?_
  refine sAlloc ym zeroValue28 ?_
  intro _ _ zm
  refine sTl zm 0 (encPlane d3) sizeOf28 ?_
  intro _ c8
  refine pu1<|zS ?_
  refine lA c8 7 0 4 (isAgg28 _) (sizeOf28 _) ?_
  refine lA c8 5 0 9 (isAgg33 _) (sizeOf33 _) ?_
  refine pu1 ?_
  refine cX call12 (r21_put y7 (⟨0,g0,e0.x0,e0.y0,e0.x1,e0.y1,⟨none,0,0,[]⟩,0,0⟩:Task) azs nzs kzs zs ⟨(RdT.flat (p9.pix.up 3 (by rfl)))⟩ ⟨(RdT.nil (enc:=Go.E.encI) (sz:=1) fR _)⟩ (RdT.flat (hOzs.rdAt 4 (by rfl))) c8.flat) ?_
  rintro _ _ ⟨e3,d8,_,rfl,e8,an,bn⟩
  have cn:=bn.unflat1
  have hn_q_477_pix:=e8.pix.len;have hl_q_477_pix:=e8.pix.le
  have hs9_482:(d3.v,a8)=(e3.v,d8):=wm.trans an.symm
  have hc_hs9_482:a8=d8:=congrArg Prod.snd hs9_482
  refine pu3 ?_
  refine sAlloc cn zeroValue28 ?_
  intro _ _ dn
  refine sTl dn 0 (encPlane e3) sizeOf28 ?_
  intro _ f8
  refine pu1<|zS ?_
  refine lA f8 2 0 4 (isAgg28 _) (sizeOf28 _) ?_
  refine lA f8 0 0 4 (isAgg28 _) (sizeOf28 _) ?_
  refine cR call13 (r4_equal d3 e3 ⟨(RdT.flat (b8.pix.up 3 (by rfl)))⟩ ⟨(RdT.flat (e8.pix.up 1 (by rfl)))⟩ f8.flat) ?_
  intro _ en
  refine pu2 ?_
  have fn:d3.v=e3.v:=(congrArg Prod.fst hs9_482)
  refine sFix 94 _ false (congrArg Bool.not (decide_eq_true fn)) ?_
  refine pu4<|nT ?_
  have gn:(a8:Int)=d8:=by omega
  refine cF _ (bne_eq_false_iff_eq.2 gn) ?_
  refine skipE<|bN<|tN<|rE<|pu1 ?_
  refine sAdd (i:Int) 1 ?_
  refine pu1<|nT ?_
  exact ⟨(i+1,tm),od,alA,(en.drops [0,0,0,0,1,1,1,1,1,1]),om,om⟩
 refine drawE [4] [(1,⟨f0,0,none⟩,I r.x0),(1,⟨f0,1,none⟩,I r.y0),(1,⟨f0,2,none⟩,I r.x1),(1,⟨f0,3,none⟩,I r.y1)] [(true,[0,2]),(true,[1]),(true,[3]),(false,[4])] rfl kr ⟨cI q0 6,cI q0 6,cI q0 6,cI q0 6,trivial⟩ ?_
 have jn:=q0.drew
 refine wU [0,2] ?_
 refine wY (.agg (encRct r).toArray) rfl (fun w hF=>Y_loadF rfl (isAgg24 w) (sizeOf24 w) kr rfl ⟨hF 0 _ _ rfl,hF 1 _ _ rfl,hF 2 _ _ rfl,hF 3 _ _ rfl,trivial⟩) ?_
 refine wU [3] ?_
 refine wO rfl ?_
 refine tW jn 2 2 (.agg (encRct r).toArray) sizeOf24 ?_
 intro _ kn
 refine nilO ⟨dA,?_⟩
 refine wN ?_
 refine tN<|seqE<|sR<|pu1 ?_
 have ln:=(kn.pick 1 rfl)
 refine cX call9 (tape_next (RdT.flat (ht.up 6 (by rfl))) om ln.flat1 10 om) ?_
 rintro _ _ ⟨mn,rfl,_,nn,_,on⟩
 have m1:=on.unflat1
 refine pu1<|nT ?_
 refine cE mn 9 (fun pn=>?_) (fun pn=>?_)
 rotate_left
 ·refine kS ?_
  refine lA m1 4 0 4 (isAgg28 _) (sizeOf28 _) ?_
  refine lA m1 2 0 9 (isAgg33 _) (sizeOf33 _) ?_
  refine pu1 ?_
  refine cX call11 (p21_put a0 (⟨0,g0,r.x0,r.y0,r.x1,r.y1,⟨none,0,0,[]⟩,0,0⟩:Task) pix npix kpix xpix ⟨(RdT.flat (h0.pix.up 5 (by rfl)))⟩ ⟨(RdT.nil (enc:=Go.E.encI) (sz:=1) fR _)⟩ (RdT.flat (hpix.up 7 (by rfl))) m1.flat) ?_
  rintro _ _ ⟨f3,g8,_,rfl,h8,qn,rn⟩
  have sn:=rn.unflat1
  have hn_q_411_pix:=h8.pix.len;have hl_q_411_pix:=h8.pix.le
  refine pu3 ?_
  refine sAlloc sn zeroValue28 ?_
  intro _ _ tn
  refine sTl tn 0 (encPlane f3) sizeOf28 ?_
  intro _ i8
  refine pu1<|zS ?_
  refine lA i8 6 0 4 (isAgg28 _) (sizeOf28 _) ?_
  refine lA i8 4 0 9 (isAgg33 _) (sizeOf33 _) ?_
  refine pu1 ?_
  refine cX call12 (r21_put a0 (⟨0,g0,r.x0,r.y0,r.x1,r.y1,⟨none,0,0,[]⟩,0,0⟩:Task) pix npix kpix xpix ⟨(RdT.flat (h0.pix.up 7 (by rfl)))⟩ ⟨(RdT.nil (enc:=Go.E.encI) (sz:=1) fR _)⟩ (RdT.flat (hpix.up 9 (by rfl))) i8.flat) ?_
  rintro _ _ ⟨g3,j8,_,rfl,k8,un,vn⟩
  have wn:=vn.unflat1
  have hn_q_424_pix:=k8.pix.len;have hl_q_424_pix:=k8.pix.le
  have hs9_429:(f3.v,g8)=(g3.v,j8):=qn.trans un.symm
  have hc_hs9_429:g8=j8:=congrArg Prod.snd hs9_429
  refine pu3 ?_
  refine sAlloc wn zeroValue28 ?_
  intro _ _ xn
  refine sTl xn 0 (encPlane g3) sizeOf28 ?_
  intro _ l8
  refine pu1<|zS ?_
  refine lA l8 2 0 4 (isAgg28 _) (sizeOf28 _) ?_
  refine lA l8 0 0 4 (isAgg28 _) (sizeOf28 _) ?_
  refine cR call13 (r4_equal f3 g3 ⟨(RdT.flat (h8.pix.up 3 (by rfl)))⟩ ⟨(RdT.flat (k8.pix.up 1 (by rfl)))⟩ l8.flat) ?_
  intro _ yn
  refine pu2 ?_
  have zn:f3.v=g3.v:=(congrArg Prod.fst hs9_429)
  refine sFix 94 _ false (congrArg Bool.not (decide_eq_true zn)) ?_
  refine pu4<|nT ?_
  have ao:(g8:Int)=j8:=by omega
  refine cF _ (bne_eq_false_iff_eq.2 ao) ?_
  refine skipE<|bN<|tN<|rE<|pu1 ?_
  refine sAdd (i:Int) 1 ?_
  refine pu1<|nT ?_
  exact ⟨(i+1,nn),od,alA,(yn.drops [0,0,0,0,1,1,1,1,1]),om,om⟩
 refine rE<|pu1 ?_
 refine lA m1 4 0 4 (isAgg28 _) (sizeOf28 _) ?_
 refine cX call10 (tg_spoilPlane (RdT.flat (ht.up 6 (by rfl))) om m1.flat1 a0 ⟨(RdT.flat (h0.pix.up 4 (by rfl)))⟩ 0 om (planeB_S j0.2.2.1 j0.2.2.2)) ?_
 rintro _ _ ⟨m8,_,rfl,q9,_,co,_,eo⟩
 refine sTl (Sat.unflat2 eo) 5 (encPlane m8) sizeOf28 ?_
 intro _ n8
 refine zS ?_
 refine lA n8 5 0 4 (isAgg28 _) (sizeOf28 _) ?_
 refine lA n8 3 0 9 (isAgg33 _) (sizeOf33 _) ?_
 refine pu1 ?_
 refine cX call11 (p21_put m8 (⟨0,g0,r.x0,r.y0,r.x1,r.y1,⟨none,0,0,[]⟩,0,0⟩:Task) pix npix kpix xpix ⟨(RdT.flat (q9.pix.up 1 (by rfl)))⟩ ⟨(RdT.nil (enc:=Go.E.encI) (sz:=1) fR _)⟩ (RdT.flat (hpix.up 8 (by rfl))) n8.flat) ?_
 rintro _ _ ⟨h3,o8,_,rfl,p8,go,ho⟩
 have io:=ho.unflat1
 have hn_q_378_pix:=p8.pix.len;have hl_q_378_pix:=p8.pix.le
 refine pu3 ?_
 refine sAlloc io zeroValue28 ?_
 intro _ _ jo
 refine sTl jo 0 (encPlane h3) sizeOf28 ?_
 intro _ q8
 refine pu1<|zS ?_
 refine lA q8 7 0 4 (isAgg28 _) (sizeOf28 _) ?_
 refine lA q8 5 0 9 (isAgg33 _) (sizeOf33 _) ?_
 refine pu1 ?_
 refine cX call12 (r21_put m8 (⟨0,g0,r.x0,r.y0,r.x1,r.y1,⟨none,0,0,[]⟩,0,0⟩:Task) pix npix kpix xpix ⟨(RdT.flat (q9.pix.up 3 (by rfl)))⟩ ⟨(RdT.nil (enc:=Go.E.encI) (sz:=1) fR _)⟩ (RdT.flat (hpix.up 10 (by rfl))) q8.flat) ?_
 rintro _ _ ⟨i3,r8,_,rfl,s8,ko,lo⟩
 have mo:=lo.unflat1
 have hn_q_391_pix:=s8.pix.len;have hl_q_391_pix:=s8.pix.le
 have hs9_396:(h3.v,o8)=(i3.v,r8):=go.trans ko.symm
 have hc_hs9_396:o8=r8:=congrArg Prod.snd hs9_396
 refine pu3 ?_
 refine sAlloc mo zeroValue28 ?_
 intro _ _ no
 refine sTl no 0 (encPlane i3) sizeOf28 ?_
 intro _ t8
 refine pu1<|zS ?_
 refine lA t8 2 0 4 (isAgg28 _) (sizeOf28 _) ?_
 refine lA t8 0 0 4 (isAgg28 _) (sizeOf28 _) ?_
 refine cR call13 (r4_equal h3 i3 ⟨(RdT.flat (p8.pix.up 3 (by rfl)))⟩ ⟨(RdT.flat (s8.pix.up 1 (by rfl)))⟩ t8.flat) ?_
 intro _ oo
 refine pu2 ?_
 have po:h3.v=i3.v:=(congrArg Prod.fst hs9_396)
 refine sFix 94 _ false (congrArg Bool.not (decide_eq_true po)) ?_
 refine pu4<|nT ?_
 have qo:(o8:Int)=r8:=by omega
 refine cF _ (bne_eq_false_iff_eq.2 qo) ?_
 refine skipE<|bN<|tN<|rE<|pu1 ?_
 refine sAdd (i:Int) 1 ?_
 refine pu1<|nT ?_
 exact ⟨(i+1,co),od,alA,(oo.drops [0,0,0,0,1,1,1,1,1,1]),om,om⟩
end Go.Proofs.Ytmlhcafjelkjfaa
