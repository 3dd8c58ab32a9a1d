import Derived.Test.YtmlhcafjelkjfaaP1Ab
import Derived.WalkKit
import Derived.Deep.Quiet
import Derived.KernelRfl
import Derived.Laws.BytesString
import Derived.Laws.Shifts
import Derived.Laws.IdiomStrings
import Derived.Test.YtmlhcafjelkjfaaProg
import Derived.Laws.IdiomRangeMap
import Derived.Test.YtmlhcafjelkjfaaP1Tz
namespace Go.Proofs.Ytmlhcafjelkjfaa
open Go Go.E Go.Proofs.Try
set_option linter.all false
set_option maxRecDepth 100000
set_option maxHeartbeats 2000000
variable {W w:World} {H:Chunk} {F:List Chunk}
theorem sy1:cmpT ⟨5,0,-1,false,0,0,0,0,[],[],[],0,0,[],[],0,[],0⟩ 0 ⟨1,0,2,2⟩ ⟨2,2,9,[1,2,3,4]⟩ (if twoP ⟨5,0,-1,false,0,0,0,0,[],[],[],0,0,[],[],0,[],0⟩ then ⟨0,0,0,[]⟩ else zPl) ⟨2,2,36,[1,0,4,0]⟩ []=([3,10],0):=by decide+kernel
theorem sy2:putT ⟨2,2,36,[1,0,4,0]⟩ 0 ⟨1,0,2,2⟩ [3,10]=((⟨2,2,36,[1,3,4,10]⟩:PlaneV),0):=by decide+kernel
theorem l21_sane (hS:Sat W w (H::F)):
  Ro prog 14 #[] (.bool true) W w (H::F):=by
 refine callsA 68 func14 rfl<|sR<|pu1<|zS<|sBS hS #[I 1,I 2,I 3,I 4] runUnderlying22 sizeOf3 zeroValue3 fun m0 _ p0=>pu1<|sAlloc p0 zeroValue28 fun _ _ q0=>sTl q0 0 [I 2,I 2,I 9, .slice (At m0 0) 4 4] sizeOf28 fun _ r0=>zS<|sBS r0 #[I 1,I 0,I 4,I 0] runUnderlying22 sizeOf3 zeroValue3 fun e0 _ s0=>pu1<|sAlloc s0 zeroValue28 fun _ _ t0=>sTl t0 0 [I 2,I 2,I 36, .slice (At e0 0) 4 4] sizeOf28 fun _ u0=>zS<|pu1<|sAlloc u0 zeroValue59 fun _ _ v0=>sTl v0 0 (encStage {zStage with kind:=5,b:=-1}) sizeOf59 fun _ w0=>zS<|pu2<|sAlloc w0 zeroValue33 fun _ _ x0=>sTl x0 0 [I 0,I 0,I 1,I 0,I 2,I 2,nS,I 2,I 0] sizeOf33 fun _ c0=>?_
 refine zS<|lA c0 1 0 18 (isAgg59 _) (sizeOf59 _)<|lA c0 0 0 9 (isAgg33 _) (sizeOf33 _)<|lA c0 4 0 4 (isAgg28 _) (sizeOf28 _)<|pu1<|lA c0 2 0 4 (isAgg28 _) (sizeOf28 _) ?_
 refine cX call30 (p21_compute (⟨5,0,-1,false,0,0,0,0,⟨none,0,0,[]⟩,⟨none,0,0,[]⟩,⟨none,0,0,[]⟩,0,0,⟨none,0,0,[]⟩,⟨none,0,0,[]⟩,0,⟨none,0,0,[]⟩,0⟩:Stage) (⟨0,0,1,0,2,2,⟨none,0,0,[]⟩,2,0⟩:Task) (⟨2,2,9,⟨(At m0 0),4,4,[1,2,3,4]⟩⟩:Plane) (⟨0,0,0,⟨none,0,0,[]⟩⟩:Plane) (⟨2,2,36,⟨(At e0 0),4,4,[1,0,4,0]⟩⟩:Plane) none 0 0 ([]) ⟨(RdT.nil (enc:=Go.E.encI) (sz:=1) fR _),(RdT.nil (enc:=Go.E.encI) (sz:=1) fR _),(RdT.nil (enc:=Go.E.encI) (sz:=1) fR _),(RdT.nil (enc:=encTap) (sz:=2) fR _),(fun z hz=>by cases hz),(RdT.nil (enc:=encTap) (sz:=2) fR _),(fun z hz=>by cases hz),(RdT.nil (enc:=encPOp) (sz:=2) fR _)⟩ ⟨(RdT.nil (enc:=Go.E.encI) (sz:=1) fR _)⟩ ⟨(RdT.flat (RdT.blk (enc:=Go.E.encI) (sz:=1) (xs:=[1,2,3,4]) (fun _=>(by rfl)) 4 5 rfl rfl rfl om))⟩ ⟨(RdT.nil (enc:=Go.E.encI) (sz:=1) fR _)⟩ ⟨(RdT.flat (RdT.blk (enc:=Go.E.encI) (sz:=1) (xs:=[1,0,4,0]) (fun _=>(by rfl)) 4 3 rfl rfl rfl om))⟩ (RdT.nil (enc:=encIL) (sz:=1) fR _) (fun z hz=>by cases hz) c0.flat) ?_
 rintro _ _ ⟨_,n0,_,o0,f0,_,rfl,d0,y0,z0⟩
 have g0:=z0.unflat1
 have hn_az_35:=d0.len;have hl_az_35:=d0.le
 have hx9:(o0,f0)=([3,10],0):=y0.trans sy1
 have hz9:o0=[3,10]:=congrArg Prod.fst hx9;have hc9:f0=0:=congrArg Prod.snd hx9;have hn9:n0=2:=by have h:=hn_az_35;rw [hz9] at h;exact h.symm
 refine pu5<|zS<|lA g0 3 0 4 (isAgg28 _) (sizeOf28 _)<|lA g0 1 0 9 (isAgg33 _) (sizeOf33 _)<|sBS g0 #[I 3,I 10] runUnderlying22 sizeOf3 zeroValue3 fun a1 _ b1=>cX call11 (p21_put (⟨2,2,36,⟨(At e0 0),4,4,[1,0,4,0]⟩⟩:Plane) (⟨0,0,1,0,2,2,⟨none,0,0,[]⟩,2,0⟩:Task) (At a1 0) 2 2 ([3,10]) ⟨(RdT.flat (RdT.blk (enc:=Go.E.encI) (sz:=1) (xs:=[1,0,4,0]) (fun _=>(by rfl)) 4 5 rfl rfl rfl om))⟩ ⟨(RdT.nil (enc:=Go.E.encI) (sz:=1) fR _)⟩ (RdT.flat (RdT.blk (enc:=Go.E.encI) (sz:=1) (xs:=[3,10]) (fun _=>(by rfl)) 2 0 rfl rfl rfl om)) b1.flat) ?_
 rintro _ _ ⟨a0,h0,_,rfl,i0,c1,d1⟩
 have e1:=d1.unflat1
 have hn_q_45_pix:=i0.pix.len;have hl_q_45_pix:=i0.pix.le
 have hx8:(a0.v,h0)=((⟨2,2,36,[1,3,4,10]⟩:PlaneV),0):=c1.trans sy2
 have hz8:a0.pix.l=[1,3,4,10]:=congrArg (fun z=>z.1.pix) hx8;have hc8:h0=0:=congrArg Prod.snd hx8;have hn8:a0.pix.n=4:=by have h:=hn_q_45_pix;rw [hz8] at h;exact h.symm
 refine pu3<|sAlloc e1 zeroValue28 fun _ _ f1=>sTl f1 0 (encPlane a0) sizeOf28 fun _ b0=>pu1<|zS<|pu3 ?_
 have g1:(f0:Int)=0:=by omega
 refine sFix 34 _ true (beq_iff_eq.2 g1)<|pu5 ?_
 have h1:((n0:Int):Int)=2:=by omega
 refine sFix 39 _ true (beq_iff_eq.2 h1)<|pu1<|gY<|sIdx d0 0 runUnderlying22 sizeOf3 fun j0 _ _ i1 j1=>?_
 have hv_x_57:j0=3:=by have h:=i1;rw [hz9] at h;exact (Option.some.inj h).symm
 refine gY<|sLp b0 (j1.up 3 rfl) 0 (I j0) (isAgg3 _)<|pu3 ?_
 have k1:(j0:Int)=3:=by omega
 refine sFix 45 _ true (beq_iff_eq.2 k1)<|pu1<|gY<|sIdx d0 1 runUnderlying22 sizeOf3 fun k0 _ _ l1 m1=>?_
 have hv_x_63:k0=10:=by have h:=l1;rw [hz9] at h;exact (Option.some.inj h).symm
 refine gY<|sLp b0 (m1.up 3 rfl) 0 (I k0) (isAgg3 _)<|pu3 ?_
 have n1:(k0:Int)=10:=by omega
 refine sFix 51 _ true (beq_iff_eq.2 n1)<|pu4 ?_
 have o1:(h0:Int)=0:=by omega
 refine sFix 55 _ true (beq_iff_eq.2 o1)<|pu1<|gY<|sL b0 0 3 (.slice a0.pix.a a0.pix.n a0.pix.k) (isAgg22 _)<|pu4 ?_
 have q1:((a0.pix.n:Int):Int)=4:=by omega
 refine sFix 61 _ true (beq_iff_eq.2 q1)<|pu1<|gY<|sL b0 0 3 (.slice a0.pix.a a0.pix.n a0.pix.k) (isAgg22 _)<|gY<|sIdx i0.pix 3 runUnderlying22 sizeOf3 fun l0 _ _ r1 s1=>?_
 have hv_x_71:l0=10:=by have h:=r1;rw [hz8] at h;exact (Option.some.inj h).symm
 exact gY<|sLp b0 (s1.up 1 rfl) 0 (I l0) (isAgg3 _)<|pu3<|zE<|retT [.bool ((l0:Int)==10)]<|⟨rB (by rw [Bool.eq_iff_iff];simp;omega),(b0.drops [0,0,0,0,0,0,0,0,0,0])⟩
def numS (k:Nat) (z:Int):Prop:=-4611686018427387904-(k:Int)<=z/\z<=4611686018427387904+(k:Int)
theorem numS_mono {k m:Nat} {z:Int} (h:numS k z) (hm:k<=m):numS m z:=by unfold numS at*;omega
def planeS (k:Nat) (q:Plane):Prop:=(numS k q.w/\numS k q.h/\numS k q.max_)/\q.pix.l.length<=64+k/\∀z∈q.pix.l,numS k z
theorem base_mem {k m:Nat} {l:List Int} (h:∀z∈l,numS k z) (hm:k<=m):∀z∈([]:List Int)++l,numS m z:=by
  intro z hz
  rw [List.nil_append] at hz
  exact numS_mono (h z hz) hm
theorem tg_spoilPlane {p:Nat} {a:Option Addr} {n k:Nat} {i:Int} {xs:List Int} (hR:RdT Go.E.encI 1 [H] a n k xs) (hi:0<=i/\i<=n) (hS:Sat W w ([(p, .cells #[.slice a n k,I i] 44 (0,0))]::H::F)) (p0:Plane) (hp0:Plane.Ok [H] p0) (kk:Nat) (hkk:kk<=100) (hpS:planeS kk p0):
  Calls prog 10 #[Pt p 0, .agg (encPlane p0).toArray] w fun e w'=>∃(q:Plane) (G:Chunk),e= .returned (.agg (encPlane q).toArray)/\(Plane.Ok [G] q)/\(planeS (kk+1) q)/\∃i':Int,(0<=i'/\i'<=n)/\Sat W w' ([(p, .cells #[.slice a n k,I i'] 44 (0,0))]::G::H::F):=by
 have hl_p0_pix:=hp0.pix.le;have hn_p0_pix:=hp0.pix.len
 have hle:=hR.le
 obtain ⟨⟨hpw,hph,hpm⟩,hp2,hp3⟩:=hpS;unfold numS at hpw hph hpm
 refine callsA 67 func10 rfl<|sR<|sBox hS (.agg (encPlane p0).toArray) (encPlane p0).toArray fun e0 _ g1=>sAlloc g1 zeroValue28 fun r0 _ h1=>zS<|sBS h1 #[] runUnderlying22 sizeOf3 zeroValue3 fun i1 _ x0=>pu1<|sL x0 2 3 (.slice p0.pix.a p0.pix.n p0.pix.k) (isAgg22 _)<|sApp (nb:=8) x0 (OwnT.blk (enc:=Go.E.encI) (sz:=1) (b:=i1) (c:=#[]) (E:=3) (xs:=[]) fR 0 rfl rfl rfl om) 0 (hp0.pix.up 4 rfl) underlying22 (i:=Try.t3) kr fR fun a0 b0 f0 _ d0 k1=>pu1 ?_
 refine tW k1 2 3 (.slice a0 (0+p0.pix.n) b0) sizeOf22 fun _ l1=>nT<|cutA (γ:=Plane×Chunk×Int) (fun ⟨q,G1,itc⟩=>[(3,Pt e0 0),(4,Pt r0 0)]) (fun ⟨q,G1,itc⟩ w=>Sat W w ([(p, .cells #[.slice a n k,I itc] 44 (0,0))]::[(e0, .cells (encPlane q).toArray 28 (0,0))]::[(r0, .cells #[I 0,I 0,I 0,nS] 28 (0,0))]::G1::H::F)/\(0<=itc/\itc<=n)/\Plane.Ok [G1] q/\planeS (kk+1) q) ?_ ?_
 rotate_left
 ·rintro ⟨q,G1,itc⟩ ρ _ ⟨y0,hitc,hqok,hqS⟩
  exact sR<|lA y0 1 0 4 (isAgg28 _) (sizeOf28 _)<|sTl y0 2 (encPlane q) sizeOf28 fun _ z0=>zE<|retN (vs:=[.agg (encPlane q).toArray]) rfl (.cons (.cell _ _ _ _ kr (lvA z0 2 0 (encPlane q) (isAgg28 _) (sizeOf28 _) rfl rfl rfl)) .nil)<|⟨q,G1,rfl,hqok,hqS,_,om,(z0.drops [1,1])⟩
 refine sR<|pu1 ?_
 have n1:=(l1.pick 3 rfl)
 refine cX call9 (tape_next (RdT.flat (hR.up 3 (by rfl))) om n1.flat1 6 om) ?_
 rintro _ _ ⟨k0,rfl,_,l0,_,o1⟩
 have c0:=o1.unflat1
 refine nT<|blockE<|sR<|pu2<|nT<|cE k0 0 (fun q1=>?_) (fun q1=>?_)
 ·refine rE<|pu2<|sL c0 3 0 (I p0.w) (isAgg3 _)<|sAdd p0.w 1<|sBS c0 #[I 0,I (p0.w+1),I (-1),I 129] runUnderlying22 sizeOf3 zeroValue3 fun _ _ r1=>?_
  have s1:=(r1.pick 1 rfl)
  refine cX call6 (tape_pick (RdT.flat (hR.up 4 (by rfl))) om s1.flat1 (RdT.flat (RdT.blk (enc:=Go.E.encI) (sz:=1) (xs:=[0,(p0.w+1),-1,129]) (fun _=>(by rfl)) 4 0 rfl rfl rfl om)) om om) ?_
  rintro _ _ ⟨i0,rfl,t1,u1,_,v1⟩
  have w1:=v1.unflat1
  have v4:(i0:Int)=0\/(i0:Int)=(p0.w+1)\/(i0:Int)=(-1)\/(i0:Int)=129:=by simpa using t1
  refine pu1<|tW w1 4 0 (I i0) sizeOf3 fun _ x1=>nB ?_
  exact ⟨((⟨i0,p0.h,p0.max_,⟨a0,(0+p0.pix.n),b0,([]++p0.pix.l)⟩⟩:Plane),f0,u1),alA,((x1.picks [3,4,2]).dropAt 3 rfl),om,⟨(d0.rdAt (cs:=[f0]) 0 rfl)⟩,⟨⟨by unfold numS;dsimp only;omega,by unfold numS;dsimp only;omega,by unfold numS;dsimp only;omega⟩,⟨by simp;omega,(base_mem hp3 om)⟩⟩⟩
 refine sR<|pu2<|nT<|cE k0 1 (fun z1=>?_) (fun z1=>?_)
 ·refine rE<|pu2<|sL c0 3 1 (I p0.h) (isAgg3 _)<|sAdd p0.h 1<|sBS c0 #[I 0,I (p0.h+1),I 4611686018427387904] runUnderlying22 sizeOf3 zeroValue3 fun _ _ a2=>?_
  have b2:=(a2.pick 1 rfl)
  refine cX call6 (tape_pick (RdT.flat (hR.up 4 (by rfl))) om b2.flat1 (RdT.flat (RdT.blk (enc:=Go.E.encI) (sz:=1) (xs:=[0,(p0.h+1),4611686018427387904]) (fun _=>(by rfl)) 3 0 rfl rfl rfl om)) om om) ?_
  rintro _ _ ⟨m0,rfl,c2,d2,_,e2⟩
  have f2:=e2.unflat1
  have b5:(m0:Int)=0\/(m0:Int)=(p0.h+1)\/(m0:Int)=4611686018427387904:=by simpa using c2
  refine pu1<|tW f2 4 1 (I m0) sizeOf3 fun _ g2=>nB ?_
  exact ⟨((⟨p0.w,m0,p0.max_,⟨a0,(0+p0.pix.n),b0,([]++p0.pix.l)⟩⟩:Plane),f0,d2),alA,((g2.picks [3,4,2]).dropAt 3 rfl),om,⟨(d0.rdAt (cs:=[f0]) 0 rfl)⟩,⟨⟨by unfold numS;dsimp only;omega,by unfold numS;dsimp only;omega,by unfold numS;dsimp only;omega⟩,⟨by simp;omega,(base_mem hp3 om)⟩⟩⟩
 refine sR<|pu2<|nT<|cE k0 2 (fun i2=>?_) (fun i2=>?_)
 ·refine rE<|pu1<|sBS c0 #[I 0,I 4294967297,I (-1),I 3] runUnderlying22 sizeOf3 zeroValue3 fun _ _ j2=>?_
  have k2:=(j2.pick 1 rfl)
  refine cX call6 (tape_pick (RdT.flat (hR.up 4 (by rfl))) om k2.flat1 (RdT.flat (RdT.blk (enc:=Go.E.encI) (sz:=1) (xs:=[0,4294967297,-1,3]) (fun _=>(by rfl)) 4 0 rfl rfl rfl om)) om om) ?_
  rintro _ _ ⟨j0,rfl,l2,m2,_,n2⟩
  have o2:=n2.unflat1
  have h5:(j0:Int)=0\/(j0:Int)=4294967297\/(j0:Int)=(-1)\/(j0:Int)=3:=by simpa using l2
  refine pu1<|tW o2 4 2 (I j0) sizeOf3 fun _ q2=>nB ?_
  exact ⟨((⟨p0.w,p0.h,j0,⟨a0,(0+p0.pix.n),b0,([]++p0.pix.l)⟩⟩:Plane),f0,m2),alA,((q2.picks [3,4,2]).dropAt 3 rfl),om,⟨(d0.rdAt (cs:=[f0]) 0 rfl)⟩,⟨⟨by unfold numS;dsimp only;omega,by unfold numS;dsimp only;omega,by unfold numS;dsimp only;omega⟩,⟨by simp;omega,(base_mem hp3 om)⟩⟩⟩
 refine sR<|pu2<|nT<|cE k0 3 (fun s2=>?_) (fun s2=>?_)
 ·refine rE<|pu1<|sL c0 3 3 (.slice a0 (0+p0.pix.n) b0) (isAgg22 _)<|sBS c0 #[I 0] runUnderlying22 sizeOf3 zeroValue3 fun _ _ t2=>sApp (nb:=8) t2 d0 2 (RdT.blk (enc:=Go.E.encI) (sz:=1) (xs:=[0]) fR 1 0 rfl rfl rfl om) underlying22 (i:=Try.t3) kr fR fun a1 b1 c1 _ u2 v2=>pu1<|tW v2 4 3 (.slice a1 ((0+p0.pix.n)+1) b1) sizeOf22 fun _ w2=>nB ?_
  exact ⟨((⟨p0.w,p0.h,p0.max_,⟨a1,((0+p0.pix.n)+1),b1,(([]++p0.pix.l)++[0])⟩⟩:Plane),c1,l0),alA,((w2.picks [3,4,3]).dropAt 3 rfl),om,⟨(u2.rdAt (cs:=[c1]) 0 rfl)⟩,⟨⟨by unfold numS;dsimp only;omega,by unfold numS;dsimp only;omega,by unfold numS;dsimp only;omega⟩,⟨by simp;omega,mem_snoc (base_mem hp3 om) (by unfold numS;omega)⟩⟩⟩
 refine sR<|pu2<|nT<|cE k0 4 (fun y2=>?_) (fun y2=>?_)
 rotate_left
 ·refine rE<|pu1<|tW c0 3 3 (nS) sizeOf22 fun _ z2=>nB ?_
  have a3:=((z2.picks [3,1]).dropAt 2 rfl)
  have b3:Sat W _ ([(p, .cells #[.slice a n k,I l0] 44 (0,0))]::[(e0, .cells #[I p0.w,I p0.h,I p0.max_,nS] 28 (0,0))]::[(r0, .cells #[I 0,I 0,I 0,nS] 28 (0,0))]::[]::H::F):=Sat.perm (show Sat W _ ([(p, .cells #[.slice a n k,I l0] 44 (0,0))]::[(e0, .cells #[I p0.w,I p0.h,I p0.max_,nS] 28 (0,0))]::[(r0, .cells #[I 0,I 0,I 0,nS] 28 (0,0))]::H::F) from a3) (by simp [Value.cells])
  exact ⟨((⟨p0.w,p0.h,p0.max_,⟨none,0,0,[]⟩⟩:Plane),[],l0),alA,b3,om,⟨RdT.nil (enc:=Go.E.encI) (sz:=1) fR _⟩,⟨⟨by unfold numS;dsimp only;omega,by unfold numS;dsimp only;omega,by unfold numS;dsimp only;omega⟩,⟨by simp,fun z hz=>by cases hz⟩⟩⟩
 refine sR<|pu1<|sL c0 3 3 (.slice a0 (0+p0.pix.n) b0) (isAgg22 _)<|pu2<|nT<|cD ((((0+p0.pix.n):Nat):Int)>0) (fun c3=>?_) (fun c3=>?_)
 rotate_left
 ·refine skipE<|bN<|tN ?_
  exact ⟨((⟨p0.w,p0.h,p0.max_,⟨a0,(0+p0.pix.n),b0,([]++p0.pix.l)⟩⟩:Plane),f0,l0),alA,(c0.picks [2,3,2]),om,⟨(d0.rdAt (cs:=[f0]) 0 rfl)⟩,⟨⟨by unfold numS;dsimp only;omega,by unfold numS;dsimp only;omega,by unfold numS;dsimp only;omega⟩,⟨by simp;omega,(base_mem hp3 om)⟩⟩⟩
 refine drawP [6,13,14,16] [(1,⟨e0,3,none⟩, .slice a0 (0+p0.pix.n) b0),(4,⟨e0,3,none⟩, .slice a0 (0+p0.pix.n) b0),(9,⟨e0,2,none⟩,I p0.max_),(12,⟨e0,2,none⟩,I p0.max_)] (Plan.sts [0,2,3,7,8,11]<|Plan.sts [1]<|Plan.sts [4]<|Plan.sts [5]<|Plan.sts [9]<|Plan.sts [10]<|Plan.sts [12]<| .fk 6 13 (.ef 13<| .ef 14<|Plan.sts [15]<| .ef 16<| .fin) (.ef 6<| .ef 14<|Plan.sts [15]<| .ef 16<| .fin)) rfl kr ⟨cI c0 3,cI c0 3,cI c0 3,cI c0 3,trivial⟩ ?_
 have d1:=c0.drew
 refine qU [0,2,3,7,8,11]<|qLd (.slice a0 (0+p0.pix.n) b0) 0 isAgg22<|qLd (.slice a0 (0+p0.pix.n) b0) 1 isAgg22<|qU [5]<|qLd (I p0.max_) 2 isAgg3<|qAdd p0.max_ 1<|qLd (I p0.max_) 3 isAgg3<|qF ?_ ?_
 ·refine qO rfl<|cX call9 (tape_next (RdT.flat (hR.up 3 (by rfl))) om d1.flat1 (((0+p0.pix.n):Nat):Int) om) ?_
  rintro _ _ ⟨n0,rfl,_,_,_,e3⟩
  have o0:=e3.unflat1
  refine nilO ⟨⟨cI o0 3,cI o0 3,cI o0 3,cI o0 3,trivial⟩,?_⟩
  refine qO rfl<|sBS o0 #[I (-1),I (p0.max_+1),I p0.max_] runUnderlying22 sizeOf3 zeroValue3 fun _ _ s0=>nilO ⟨⟨cI s0 4,cI s0 4,cI s0 4,dI,trivial⟩,?_⟩
  refine qO rfl ?_
  have f3:=(s0.pick 1 rfl)
  refine cX call6 (tape_pick (RdT.flat (hR.up 4 (by rfl))) om f3.flat1 (RdT.flat (RdT.blk (enc:=Go.E.encI) (sz:=1) (xs:=[-1,(p0.max_+1),p0.max_]) (fun _=>(by rfl)) 3 0 rfl rfl rfl om)) om om) ?_
  rintro _ _ ⟨g0,rfl,g3,h3,_,i3⟩
  have t0:=i3.unflat1
  have w5:(g0:Int)=(-1)\/(g0:Int)=(p0.max_+1)\/(g0:Int)=p0.max_:=by simpa using g3
  refine nilO ⟨⟨cI t0 4,cI t0 4,cI t0 4,dI,trivial⟩,?_⟩
  obtain ⟨j3,k3,l3,m3,x5,n3,o3⟩:=OwnT.elem d0 n0
  refine qY (.pointer (some ⟨k3,l3+(n0).toNat*1,none⟩)) rfl (fun w _=>Y_idx (a:=a0) (i:=n0) (len:=(0+p0.pix.n)) (cap:=b0) rfl runUnderlying22 sizeOf3 kr kr n3)<|qO rfl<|sStF t0 d0 o3 2 (n0).toNat 0 j3 g0 m3 (I g0) [I g0] sizeOf3 fun _ e1 p3 q3=>nilO ⟨dA,?_⟩
  refine qN<|bN<|tN ?_
  exact ⟨((⟨p0.w,p0.h,p0.max_,⟨a0,(0+p0.pix.n),b0,(([]++p0.pix.l).set ((n0).toNat) g0)⟩⟩:Plane),e1,h3),alA,((q3.picks [3,4,2]).dropAt 3 rfl),om,⟨(p3.rdAt (cs:=[e1]) 0 rfl)⟩,⟨⟨by unfold numS;dsimp only;omega,by unfold numS;dsimp only;omega,by unfold numS;dsimp only;omega⟩,⟨by simp;omega,mem_set (base_mem hp3 om) (by unfold numS;omega)⟩⟩⟩
 refine qO rfl<|sBS d1 #[I (-1),I (p0.max_+1),I p0.max_] runUnderlying22 sizeOf3 zeroValue3 fun _ _ u0=>nilO ⟨⟨cI u0 4,cI u0 4,cI u0 4,dI,trivial⟩,?_⟩
 refine qO rfl ?_
 have s3:=(u0.pick 1 rfl)
 refine cX call9 (tape_next (RdT.flat (hR.up 4 (by rfl))) om s3.flat1 (((0+p0.pix.n):Nat):Int) om) ?_
 rintro _ _ ⟨q0,rfl,_,_,_,u3⟩
 have v0:=u3.unflat1
 refine nilO ⟨⟨cI v0 4,cI v0 4,cI v0 4,dI,trivial⟩,?_⟩
 refine qO rfl<|cX call6 (tape_pick (RdT.flat (hR.up 4 (by rfl))) om v0.flat1 (RdT.flat (RdT.blk (enc:=Go.E.encI) (sz:=1) (xs:=[-1,(p0.max_+1),p0.max_]) (fun _=>(by rfl)) 3 0 rfl rfl rfl om)) om om) ?_
 rintro _ _ ⟨h0,rfl,v3,w3,_,x3⟩
 have w0:=x3.unflat1
 have h6:(h0:Int)=(-1)\/(h0:Int)=(p0.max_+1)\/(h0:Int)=p0.max_:=by simpa using v3
 refine nilO ⟨⟨cI w0 4,cI w0 4,cI w0 4,dI,trivial⟩,?_⟩
 obtain ⟨y3,z3,a4,b4,i6,c4,d4⟩:=OwnT.elem d0 q0
 refine qY (.pointer (some ⟨z3,a4+(q0).toNat*1,none⟩)) rfl (fun w _=>Y_idx (a:=a0) (i:=q0) (len:=(0+p0.pix.n)) (cap:=b0) rfl runUnderlying22 sizeOf3 kr kr c4)<|qO rfl<|sStF w0 d0 d4 2 (q0).toNat 0 y3 h0 b4 (I h0) [I h0] sizeOf3 fun _ f1 e4 f4=>nilO ⟨dA,?_⟩
 refine qN<|bN<|tN ?_
 exact ⟨((⟨p0.w,p0.h,p0.max_,⟨a0,(0+p0.pix.n),b0,(([]++p0.pix.l).set ((q0).toNat) h0)⟩⟩:Plane),f1,w3),alA,((f4.picks [3,4,2]).dropAt 3 rfl),om,⟨(e4.rdAt (cs:=[f1]) 0 rfl)⟩,⟨⟨by unfold numS;dsimp only;omega,by unfold numS;dsimp only;omega,by unfold numS;dsimp only;omega⟩,⟨by simp;omega,mem_set (base_mem hp3 om) (by unfold numS;omega)⟩⟩⟩
end Go.Proofs.Ytmlhcafjelkjfaa
