import Derived.WalkKit
import Derived.Deep.Quiet
import Derived.KernelRfl
import Derived.Laws.BytesString
import Derived.Laws.Shifts
import Derived.Laws.IdiomStrings
import Derived.OpenShut
import Derived.Deep.Slices
import Derived.ChangeSame
import Derived.Deep.Fields
import Derived.Test.YtghcddbhllkbmaaGreatProg
import Derived.Laws.IdiomRangeMap
import Derived.Test.YtghcddbhllkbmaaGreatR1P1TGen
namespace Go.Proofs.YtghcddbhllkbmaaGreat
open Go Go.E Go.Proofs.Tryz
set_option linter.all false
set_option maxRecDepth 100000
set_option maxHeartbeats 2000000
variable {W w:World} {H:Chunk} {F:List Chunk}
theorem sy1:cmpT ⟨5,0,-1,false,0,0,0,0,[],[],[],0,0,[],[],0,[],0⟩ 0 ⟨1,0,2,2⟩ ⟨2,2,9,[1,2,3,4]⟩ (if twoP ⟨5,0,-1,false,0,0,0,0,[],[],[],0,0,[],[],0,[],0⟩ then ⟨0,0,0,[]⟩ else zPl) ⟨2,2,36,[1,0,4,0]⟩ []=([3,10],0):=by decide+kernel
theorem sy2:putT ⟨2,2,36,[1,0,4,0]⟩ 0 ⟨1,0,2,2⟩ [3,10]=((⟨2,2,36,[1,3,4,10]⟩:PlaneV),0):=by decide+kernel
theorem l21_sane (hS:Sat W w (H::F)):
  Ro prog 17 #[] (.bool true) W w (H::F):=by
 refine callsK 68 func17 rfl<|jCO 7 rfl<|sBK hS #[I 1,I 2,I 3,I 4] 3 fun k0 _ p0=>pu1<|sAlloc p0 zeroValue38 fun _ _ q0=>sTk q0 0 [I 2,I 2,I 9, .slice (At k0 0) 4 4] fun _ r0=>jOO 4 rfl<|sBK r0 #[I 1,I 0,I 4,I 0] 3 fun d0 _ s0=>pu1<|sAlloc s0 zeroValue38 fun _ _ t0=>sTk t0 0 [I 2,I 2,I 36, .slice (At d0 0) 4 4] fun _ u0=>jOO 5 rfl<|sAlloc u0 zeroValue53 fun _ _ v0=>sTk v0 0 (encStage {zStage with kind:=5,b:=-1}) fun _ w0=>jOO 6 rfl<|sAlloc w0 zeroValue47 fun _ _ x0=>sTk x0 0 [I 0,I 0,I 1,I 0,I 2,I 2,nS,I 2,I 0] fun _ l0=>gOO l0 9 [1801,900,404,402] rfl<|cZ (p21_compute (⟨5,0,-1,false,0,0,0,0,⟨none,0,0,[]⟩,⟨none,0,0,[]⟩,⟨none,0,0,[]⟩,0,0,⟨none,0,0,[]⟩,⟨none,0,0,[]⟩,0,⟨none,0,0,[]⟩,0⟩:Stage) (⟨0,0,1,0,2,2,⟨none,0,0,[]⟩,2,0⟩:Task) (⟨2,2,9,⟨(At k0 0),4,4,[1,2,3,4]⟩⟩:Plane) (⟨0,0,0,⟨none,0,0,[]⟩⟩:Plane) (⟨2,2,36,⟨(At d0 0),4,4,[1,0,4,0]⟩⟩:Plane) none 0 0 ([]) ⟨(RdT.nil (enc:=Go.E.encI) (sz:=1) fR _),(RdT.nil (enc:=Go.E.encI) (sz:=1) fR _),(RdT.nil (enc:=Go.E.encI) (sz:=1) fR _),(RdT.nil (enc:=encTap) (sz:=2) fR _),(fun z hz=>by cases hz),(RdT.nil (enc:=encTap) (sz:=2) fR _),(fun z hz=>by cases hz),(RdT.nil (enc:=encPOp) (sz:=2) fR _)⟩ ⟨(RdT.nil (enc:=Go.E.encI) (sz:=1) fR _)⟩ ⟨(RdT.flat (RdT.blk (enc:=Go.E.encI) (sz:=1) (xs:=[1,2,3,4]) (fun _=>(by rfl)) 4 5 rfl rfl rfl om))⟩ ⟨(RdT.nil (enc:=Go.E.encI) (sz:=1) fR _)⟩ ⟨(RdT.flat (RdT.blk (enc:=Go.E.encI) (sz:=1) (xs:=[1,0,4,0]) (fun _=>(by rfl)) 4 3 rfl rfl rfl om))⟩ (RdT.nil (enc:=encIL) (sz:=1) fR _) (fun z hz=>by cases hz) l0.flat) ?_
 rintro _ _ ⟨_,m0,_,n0,e0,_,rfl,c0,y0,z0⟩
 have o0:=z0.unflat1
 have B0:=c0.len;have D0:=c0.le
 have J0:(n0,e0)=([3,10],0):=y0.trans sy1
 have H0:n0=[3,10]:=congrArg Prod.fst J0;have M0:e0=0:=congrArg Prod.snd J0;have O0:m0=2:=by have h:=B0;rw [H0] at h;exact h.symm
 refine gOO o0 11 [403,901] rfl<|sBK o0 #[I 3,I 10] 3 fun a1 _ b1=>cZ (p21_put (⟨2,2,36,⟨(At d0 0),4,4,[1,0,4,0]⟩⟩:Plane) (⟨0,0,1,0,2,2,⟨none,0,0,[]⟩,2,0⟩:Task) (At a1 0) 2 2 ([3,10]) ⟨(RdT.flat (RdT.blk (enc:=Go.E.encI) (sz:=1) (xs:=[1,0,4,0]) (fun _=>(by rfl)) 4 5 rfl rfl rfl om))⟩ ⟨(RdT.nil (enc:=Go.E.encI) (sz:=1) fR _)⟩ (RdT.flat (RdT.blk (enc:=Go.E.encI) (sz:=1) (xs:=[3,10]) (fun _=>(by rfl)) 2 0 rfl rfl rfl om)) b1.flat) ?_
 rintro _ _ ⟨b0,f0,_,rfl,g0,c1,d1⟩
 have e1:=d1.unflat1
 have A0:=g0.pix.len;have C0:=g0.pix.le
 have I0:(b0.v,f0)=((⟨2,2,36,[1,3,4,10]⟩:PlaneV),0):=c1.trans sy2
 have K0:b0.pix.l=[1,3,4,10]:=congrArg (fun z=>z.1.pix) I0;have L0:f0=0:=congrArg Prod.snd I0;have N0:b0.pix.n=4:=by have h:=A0;rw [K0] at h;exact h.symm
 refine pu3<|sAlloc e1 zeroValue38 fun _ _ f1=>sTk f1 0 (encPlane b0) fun _ a0=>jOO 8 rfl ?_
 have g1:(e0:Int)=0:=by omega
 refine sFix 34 _ true (beq_iff_eq.2 g1)<|pu5 ?_
 have h1:((m0:Int):Int)=2:=by omega
 refine sFix 39 _ true (beq_iff_eq.2 h1)<|pu1<|gY<|sII c0 0 fun h0 _ _ i1 j1=>?_
 have E0:h0=3:=by have h:=i1;rw [H0] at h;exact (Option.some.inj h).symm
 refine gY<|sMp a0 (j1.up 3 rfl) 0 (I h0)<|pu3 ?_
 have k1:(h0:Int)=3:=by omega
 refine sFix 45 _ true (beq_iff_eq.2 k1)<|pu1<|gY<|sII c0 1 fun i0 _ _ l1 m1=>?_
 have F0:i0=10:=by have h:=l1;rw [H0] at h;exact (Option.some.inj h).symm
 refine gY<|sMp a0 (m1.up 3 rfl) 0 (I i0)<|pu3 ?_
 have n1:(i0:Int)=10:=by omega
 refine sFix 51 _ true (beq_iff_eq.2 n1)<|pu4 ?_
 have o1:(f0:Int)=0:=by omega
 refine sFix 55 _ true (beq_iff_eq.2 o1)<|gOO a0 6 [0] rfl ?_
 have q1:((b0.pix.n:Int):Int)=4:=by omega
 refine sFix 61 _ true (beq_iff_eq.2 q1)<|gOO a0 2 [0] rfl<|gY<|sII g0.pix 3 fun j0 _ _ r1 s1=>?_
 have G0:j0=10:=by have h:=r1;rw [K0] at h;exact (Option.some.inj h).symm
 exact gY<|sMp a0 (s1.up 1 rfl) 0 (I j0)<|jOR 6 rfl<|retT [.bool ((j0:Int)==10)]<|⟨rB (by rw [Bool.eq_iff_iff];simp;omega),(a0.drops [0,0,0,0,0,0,0,0,0,0])⟩
def numS (k:Nat) (z:Int):Prop:=-4611686018427387904-(k:Int)<=z/\z<=4611686018427387904+(k:Int)
theorem numS_mono {k m:Nat} {z:Int} (h:numS k z) (hm:k<=m):numS m z:=by unfold numS at*;omega
def planeS (k:Nat) (q:Plane):Prop:=(numS k q.w/\numS k q.h/\numS k q.max_)/\q.pix.l.length<=64+k/\∀z∈q.pix.l,numS k z
theorem base_mem {k m:Nat} {l:List Int} (h:∀z∈l,numS k z) (hm:k<=m):∀z∈([]:List Int)++l,numS m z:=by
  intro z hz
  rw [List.nil_append] at hz
  exact numS_mono (h z hz) hm
theorem tg_spoilPlane {p:Nat} {a:Option Addr} {n k:Nat} {i:Int} {xs:List Int} (hR:RdT Go.E.encI 1 [H] a n k xs) (hi:0<=i/\i<=n) (hS:Sat W w ([(p, .cells #[.slice a n k,I i] 78 (0,0))]::H::F)) (p0:Plane) (hp0:Plane.Ok [H] p0) (kk:Nat) (hkk:kk<=100) (hpS:planeS kk p0):
  Calls prog 25 #[Pt p 0, .agg (encPlane p0).toArray] w fun e w'=>∃(q:Plane) (G:Chunk),e= .returned (.agg (encPlane q).toArray)/\(Plane.Ok [G] q)/\(planeS (kk+1) q)/\∃i':Int,(0<=i'/\i'<=n)/\Sat W w' ([(p, .cells #[.slice a n k,I i'] 78 (0,0))]::G::H::F):=by
 have hl_p0_pix:=hp0.pix.le;have hn_p0_pix:=hp0.pix.len
 have hle:=hR.le
 obtain ⟨⟨hpw,hph,hpm⟩,hp2,hp3⟩:=hpS;unfold numS at hpw hph hpm
 refine callsK 67 func25 rfl<|jCO 2 rfl<|sBox hS (.agg (encPlane p0).toArray) (encPlane p0).toArray fun m0 _ h1=>sAlloc h1 zeroValue38 fun n0 _ i1=>jOO 4 rfl<|sBS i1 #[] runUnderlying22 sizeOf3 zeroValue3 fun j1 _ r0=>gOO r0 2 [2] rfl<|sApp (nb:=8) r0 (OwnT.blk (enc:=Go.E.encI) (sz:=1) (b:=j1) (c:=#[]) (E:=3) (xs:=[]) fR 0 rfl rfl rfl om) 0 (hp0.pix.up 4 rfl) underlying22 (i:=Tryz.t3) kr fR fun d0 e0 c0 _ b0 l1=>pu1 ?_
 refine tW l1 2 3 (.slice d0 (0+p0.pix.n) e0) sizeOf22 fun _ s0=>jOC 2 rfl<|cutF s0 4 [3,4] (γ:=Plane×Chunk×Int) (fun ⟨q,G1,itc⟩ R=>⟨[],[(p, .cells #[.slice a n k,I itc] 78 (0,0))]::[(m0, .cells (encPlane q).toArray 38 (0,0))]::[(n0, .cells #[I 0,I 0,I 0,nS] 38 (0,0))]::G1::R,0,(0<=itc/\itc<=n)/\Plane.Ok [G1] q/\planeS (kk+1) q⟩) ?_ ?_
 rotate_left
 ·rintro ⟨q,G1,itc⟩ ρ _ ⟨t0,hitc,hqok,hqS⟩
  exact gCO t0 3 [401] rfl<|sTl t0 2 (encPlane q) sizeOf38 fun _ u0=>jOR 3 rfl<|retN (vs:=[.agg (encPlane q).toArray]) rfl (.cons (.cell _ _ _ _ kr (lvA u0 2 0 (encPlane q) (isAgg38 _) (sizeOf38 _) rfl rfl rfl)) .nil)<|⟨q,G1,rfl,hqok,hqS,_,om,(u0.drops [1,1])⟩
 refine jCO 3 rfl ?_
 have n1:=(s0.pick 3 rfl)
 refine cX call11 (tape_next (RdT.flat (hR.up 3 (by rfl))) om n1.flat1 6 om) ?_
 rintro _ _ ⟨j0,rfl,_,k0,_,o1⟩
 have a0:=o1.unflat1
 refine jOC 9 rfl<|cE j0 0 (fun q1=>?_) (fun q1=>?_)
 ·refine gCO a0 4 [3] rfl<|sAdd p0.w 1<|sBS a0 #[I 0,I (p0.w+1),I (-1),I 129] runUnderlying22 sizeOf3 zeroValue3 fun _ _ r1=>?_
  have s1:=(r1.pick 1 rfl)
  refine cX call58 (tape_pick (RdT.flat (hR.up 4 (by rfl))) om s1.flat1 (RdT.flat (RdT.blk (enc:=Go.E.encI) (sz:=1) (xs:=[0,(p0.w+1),-1,129]) (fun _=>(by rfl)) 4 0 rfl rfl rfl om)) om om) ?_
  rintro _ _ ⟨h0,rfl,t1,u1,_,v1⟩
  have w1:=v1.unflat1
  have r4:(h0:Int)=0\/(h0:Int)=(p0.w+1)\/(h0:Int)=(-1)\/(h0:Int)=129:=by simpa using t1
  refine pu1<|tW w1 4 0 (I h0) sizeOf3 fun _ x1=>jOI 2 rfl ?_
  exact ⟨((⟨h0,p0.h,p0.max_,⟨d0,(0+p0.pix.n),e0,([]++p0.pix.l)⟩⟩:Plane),c0,u1),alB,((x1.picks [3,4,2]).dropAt 3 rfl),om,⟨(b0.rdAt (cs:=[c0]) 0 rfl)⟩,⟨⟨by unfold numS;dsimp only;omega,by unfold numS;dsimp only;omega,by unfold numS;dsimp only;omega⟩,⟨by simp;omega,(base_mem hp3 om)⟩⟩⟩
 refine jCC 6 rfl<|cE j0 1 (fun z1=>?_) (fun z1=>?_)
 ·refine gCO a0 4 [3] rfl<|sAdd p0.h 1<|sBS a0 #[I 0,I (p0.h+1),I 4611686018427387904] runUnderlying22 sizeOf3 zeroValue3 fun _ _ a2=>?_
  have b2:=(a2.pick 1 rfl)
  refine cX call58 (tape_pick (RdT.flat (hR.up 4 (by rfl))) om b2.flat1 (RdT.flat (RdT.blk (enc:=Go.E.encI) (sz:=1) (xs:=[0,(p0.h+1),4611686018427387904]) (fun _=>(by rfl)) 3 0 rfl rfl rfl om)) om om) ?_
  rintro _ _ ⟨l0,rfl,c2,d2,_,e2⟩
  have f2:=e2.unflat1
  have x4:(l0:Int)=0\/(l0:Int)=(p0.h+1)\/(l0:Int)=4611686018427387904:=by simpa using c2
  refine pu1<|tW f2 4 1 (I l0) sizeOf3 fun _ g2=>jOI 2 rfl ?_
  exact ⟨((⟨p0.w,l0,p0.max_,⟨d0,(0+p0.pix.n),e0,([]++p0.pix.l)⟩⟩:Plane),c0,d2),alB,((g2.picks [3,4,2]).dropAt 3 rfl),om,⟨(b0.rdAt (cs:=[c0]) 0 rfl)⟩,⟨⟨by unfold numS;dsimp only;omega,by unfold numS;dsimp only;omega,by unfold numS;dsimp only;omega⟩,⟨by simp;omega,(base_mem hp3 om)⟩⟩⟩
 refine jCC 6 rfl<|cE j0 2 (fun i2=>?_) (fun i2=>?_)
 ·refine jCO 2 rfl<|sBS a0 #[I 0,I 4294967297,I (-1),I 3] runUnderlying22 sizeOf3 zeroValue3 fun _ _ j2=>?_
  have k2:=(j2.pick 1 rfl)
  refine cX call58 (tape_pick (RdT.flat (hR.up 4 (by rfl))) om k2.flat1 (RdT.flat (RdT.blk (enc:=Go.E.encI) (sz:=1) (xs:=[0,4294967297,-1,3]) (fun _=>(by rfl)) 4 0 rfl rfl rfl om)) om om) ?_
  rintro _ _ ⟨i0,rfl,l2,m2,_,n2⟩
  have o2:=n2.unflat1
  have d5:(i0:Int)=0\/(i0:Int)=4294967297\/(i0:Int)=(-1)\/(i0:Int)=3:=by simpa using l2
  refine pu1<|tW o2 4 2 (I i0) sizeOf3 fun _ q2=>jOI 2 rfl ?_
  exact ⟨((⟨p0.w,p0.h,i0,⟨d0,(0+p0.pix.n),e0,([]++p0.pix.l)⟩⟩:Plane),c0,m2),alB,((q2.picks [3,4,2]).dropAt 3 rfl),om,⟨(b0.rdAt (cs:=[c0]) 0 rfl)⟩,⟨⟨by unfold numS;dsimp only;omega,by unfold numS;dsimp only;omega,by unfold numS;dsimp only;omega⟩,⟨by simp;omega,(base_mem hp3 om)⟩⟩⟩
 refine jCC 6 rfl<|cE j0 3 (fun s2=>?_) (fun s2=>?_)
 ·refine gCO a0 3 [3] rfl<|sBS a0 #[I 0] runUnderlying22 sizeOf3 zeroValue3 fun _ _ t2=>sApp (nb:=8) t2 b0 2 (RdT.blk (enc:=Go.E.encI) (sz:=1) (xs:=[0]) fR 1 0 rfl rfl rfl om) underlying22 (i:=Tryz.t3) kr fR fun v0 w0 x0 _ u2 v2=>pu1<|tW v2 4 3 (.slice v0 ((0+p0.pix.n)+1) w0) sizeOf22 fun _ w2=>jOI 2 rfl ?_
  exact ⟨((⟨p0.w,p0.h,p0.max_,⟨v0,((0+p0.pix.n)+1),w0,(([]++p0.pix.l)++[0])⟩⟩:Plane),x0,k0),alB,((w2.picks [3,4,3]).dropAt 3 rfl),om,⟨(u2.rdAt (cs:=[x0]) 0 rfl)⟩,⟨⟨by unfold numS;dsimp only;omega,by unfold numS;dsimp only;omega,by unfold numS;dsimp only;omega⟩,⟨by simp;omega,mem_snoc (base_mem hp3 om) (by unfold numS;omega)⟩⟩⟩
 refine jCC 6 rfl<|cE j0 4 (fun y2=>?_) (fun y2=>?_)
 rotate_left
 ·refine jCO 2 rfl<|tW a0 3 3 (nS) sizeOf22 fun _ z2=>jOI 2 rfl ?_
  have a3:=((z2.picks [3,1]).dropAt 2 rfl)
  have b3:Sat W _ ([(p, .cells #[.slice a n k,I k0] 78 (0,0))]::[(m0, .cells #[I p0.w,I p0.h,I p0.max_,nS] 38 (0,0))]::[(n0, .cells #[I 0,I 0,I 0,nS] 38 (0,0))]::[]::H::F):=Sat.perm (show Sat W _ ([(p, .cells #[.slice a n k,I k0] 78 (0,0))]::[(m0, .cells #[I p0.w,I p0.h,I p0.max_,nS] 38 (0,0))]::[(n0, .cells #[I 0,I 0,I 0,nS] 38 (0,0))]::H::F) from a3) (by simp [Value.cells])
  exact ⟨((⟨p0.w,p0.h,p0.max_,⟨none,0,0,[]⟩⟩:Plane),[],k0),alB,b3,om,⟨RdT.nil (enc:=Go.E.encI) (sz:=1) fR _⟩,⟨⟨by unfold numS;dsimp only;omega,by unfold numS;dsimp only;omega,by unfold numS;dsimp only;omega⟩,⟨by simp,fun z hz=>by cases hz⟩⟩⟩
 refine gCC a0 8 [3] rfl<|cD ((((0+p0.pix.n):Nat):Int)>0) (fun c3=>?_) (fun c3=>?_)
 rotate_left
 ·refine jCI 2 rfl ?_
  exact ⟨((⟨p0.w,p0.h,p0.max_,⟨d0,(0+p0.pix.n),e0,([]++p0.pix.l)⟩⟩:Plane),c0,k0),alB,(a0.picks [2,3,2]),om,⟨(b0.rdAt (cs:=[c0]) 0 rfl)⟩,⟨⟨by unfold numS;dsimp only;omega,by unfold numS;dsimp only;omega,by unfold numS;dsimp only;omega⟩,⟨by simp;omega,(base_mem hp3 om)⟩⟩⟩
 refine drawG a0 [6,13,14,16] (fb 1 3 3 1<|fb 4 3 3 1<|fb 9 3 2 1<|fb 12 3 2 1<|fn) (Plan.sts [0,2,3,7,8,11]<|Plan.sts [1]<|Plan.sts [4]<|Plan.sts [5]<|Plan.sts [9]<|Plan.sts [10]<|Plan.sts [12]<| .fk 6 13 (.ef 13<| .ef 14<|Plan.sts [15]<| .ef 16<| .fin) (.ef 6<| .ef 14<|Plan.sts [15]<| .ef 16<| .fin)) fun _ y0=>qU [0,2,3,7,8,11]<|qL 0<|qL 1<|qU [5]<|qL 2<|qAdd p0.max_ 1<|qL 3<|qF ?_ ?_
 ·refine qO rfl<|cX call11 (tape_next (RdT.flat (hR.up 3 (by rfl))) om y0.flat1 (((0+p0.pix.n):Nat):Int) om) ?_
  rintro _ _ ⟨o0,rfl,_,_,_,e3⟩
  have z0:=e3.unflat1
  refine nZ z0 [3,3,3,3]<|qO rfl<|sBS z0 #[I (-1),I (p0.max_+1),I p0.max_] runUnderlying22 sizeOf3 zeroValue3 fun _ _ a1=>nZ a1 [4,4,4]<|qO rfl ?_
  have f3:=(a1.pick 1 rfl)
  refine cX call58 (tape_pick (RdT.flat (hR.up 4 (by rfl))) om f3.flat1 (RdT.flat (RdT.blk (enc:=Go.E.encI) (sz:=1) (xs:=[-1,(p0.max_+1),p0.max_]) (fun _=>(by rfl)) 3 0 rfl rfl rfl om)) om om) ?_
  rintro _ _ ⟨f0,rfl,g3,h3,_,i3⟩
  have b1:=i3.unflat1
  have s5:(f0:Int)=(-1)\/(f0:Int)=(p0.max_+1)\/(f0:Int)=p0.max_:=by simpa using g3
  refine nZ b1 [4,4,4] ?_
  obtain ⟨j3,t5,u5,k3,v5,l3,m3⟩:=OwnT.elem b0 o0
  refine qI l3<|qO rfl<|sStF b1 b0 m3 2 (o0).toNat 0 j3 f0 k3 (I f0) [I f0] sizeOf3 fun _ c1 n3 o3=>nA<|qN<|jXI 1 rfl ?_
  exact ⟨((⟨p0.w,p0.h,p0.max_,⟨d0,(0+p0.pix.n),e0,(([]++p0.pix.l).set ((o0).toNat) f0)⟩⟩:Plane),c1,h3),alB,((o3.picks [3,4,2]).dropAt 3 rfl),om,⟨(n3.rdAt (cs:=[c1]) 0 rfl)⟩,⟨⟨by unfold numS;dsimp only;omega,by unfold numS;dsimp only;omega,by unfold numS;dsimp only;omega⟩,⟨by simp;omega,mem_set (base_mem hp3 om) (by unfold numS;omega)⟩⟩⟩
 refine qO rfl<|sBS y0 #[I (-1),I (p0.max_+1),I p0.max_] runUnderlying22 sizeOf3 zeroValue3 fun _ _ d1=>nZ d1 [4,4,4]<|qO rfl ?_
 have q3:=(d1.pick 1 rfl)
 refine cX call11 (tape_next (RdT.flat (hR.up 4 (by rfl))) om q3.flat1 (((0+p0.pix.n):Nat):Int) om) ?_
 rintro _ _ ⟨q0,rfl,_,_,_,r3⟩
 have e1:=r3.unflat1
 refine nZ e1 [4,4,4]<|qO rfl<|cX call58 (tape_pick (RdT.flat (hR.up 4 (by rfl))) om e1.flat1 (RdT.flat (RdT.blk (enc:=Go.E.encI) (sz:=1) (xs:=[-1,(p0.max_+1),p0.max_]) (fun _=>(by rfl)) 3 0 rfl rfl rfl om)) om om) ?_
 rintro _ _ ⟨g0,rfl,s3,u3,_,v3⟩
 have f1:=v3.unflat1
 have f6:(g0:Int)=(-1)\/(g0:Int)=(p0.max_+1)\/(g0:Int)=p0.max_:=by simpa using s3
 refine nZ f1 [4,4,4] ?_
 obtain ⟨w3,g6,h6,x3,i6,y3,z3⟩:=OwnT.elem b0 q0
 refine qI y3<|qO rfl<|sStF f1 b0 z3 2 (q0).toNat 0 w3 g0 x3 (I g0) [I g0] sizeOf3 fun _ g1 a4 b4=>nA<|qN<|jXI 1 rfl ?_
 exact ⟨((⟨p0.w,p0.h,p0.max_,⟨d0,(0+p0.pix.n),e0,(([]++p0.pix.l).set ((q0).toNat) g0)⟩⟩:Plane),g1,u3),alB,((b4.picks [3,4,2]).dropAt 3 rfl),om,⟨(a4.rdAt (cs:=[g1]) 0 rfl)⟩,⟨⟨by unfold numS;dsimp only;omega,by unfold numS;dsimp only;omega,by unfold numS;dsimp only;omega⟩,⟨by simp;omega,mem_set (base_mem hp3 om) (by unfold numS;omega)⟩⟩⟩
theorem Stage.Ok.m {cs cs':List Chunk} {x:Stage} (h:Stage.Ok cs x) (hm:∀p∈cs.flatten,p∈cs'.flatten:=by intro p hp;simp at hp⊢;simp [hp]):Stage.Ok cs' x:=h.of_mem hm
theorem up1 {α:Type} {l:List α} {m k:Nat} {P:Prop} (h:l.length<=m+k/\P):l.length<=m+(k+1)/\P:=⟨by omega,h.2⟩
theorem base_any {α:Type} {P:α->Prop} {l:List α} (h:∀z∈l,P z):∀z∈([]:List α)++l,P z:=by
  intro z hz
  rw [List.nil_append] at hz
  exact h z hz
theorem tg_spoilStage {J:Chunk} {p:Nat} {a:Option Addr} {n k:Nat} {i:Int} {xs:List Int} (hR:RdT Go.E.encI 1 [H] a n k xs) (hi:0<=i/\i<=n) (hS:Sat W w ([(p, .cells #[.slice a n k,I i] 78 (0,0))]::J::H::F)) (s0:Stage) (hs0:Stage.Ok [J] s0) (kk:Nat) (hkk:kk<=100) (hsB:stageB kk s0):
  Calls prog 24 #[Pt p 0, .agg (encStage s0).toArray] w fun e w'=>∃(q:Stage) (G:Chunk),e= .returned (.agg (encStage q).toArray)/\(Stage.Ok [G++J] q)/\(stageB (kk+1) q)/\∃i':Int,(0<=i'/\i'<=n)/\Sat W w' ([(p, .cells #[.slice a n k,I i'] 78 (0,0))]::G::J::H::F):=by
 have hl_s0_weights:=hs0.weights.le;have hn_s0_weights:=hs0.weights.len
 have hl_s0_row:=hs0.row.le;have hn_s0_row:=hs0.row.len
 have hl_s0_col:=hs0.col.le;have hn_s0_col:=hs0.col.len
 have hl_s0_x:=hs0.x.le;have hn_s0_x:=hs0.x.len
 have hl_s0_y:=hs0.y.le;have hn_s0_y:=hs0.y.len
 have hl_s0_ops:=hs0.ops.le;have hn_s0_ops:=hs0.ops.len
 have hle:=hR.le
 obtain ⟨hi0,hi1,hi2,hi3,hi4,hi5,hi6,hi7,hi8,hi9,hi10⟩:=hsB.1;unfold numB at hi0 hi1 hi2 hi3 hi4 hi5 hi6 hi7 hi8 hi9 hi10;have hb_weights:=hsB.2.1.1;have hb_row:=hsB.2.2.1.1;have hb_col:=hsB.2.2.2.1.1;have hb_x:=hsB.2.2.2.2.1.1;have hb_y:=hsB.2.2.2.2.2.1.1;have hb_ops:=hsB.2.2.2.2.2.2.1
 refine callsK 137 func24 rfl ?_
 refine jCO 2 rfl ?_
 refine sBox hS (.agg (encStage s0).toArray) (encStage s0).toArray ?_
 intro n2 _ o2
 refine sAlloc o2 zeroValue53 ?_
 intro q2 _ e1
 refine jOC 2 rfl ?_
 refine cutF e1 3 [3,4] (γ:=Stage×Chunk×Int) (fun ⟨q,G1,itc⟩ R=>⟨[],G1::[(p, .cells #[.slice a n k,I itc] 78 (0,0))]::[(n2, .cells (encStage q).toArray 53 (0,0))]::[(q2, .cells (encStage zStage).toArray 53 (0,0))]::R,0,(0<=itc/\itc<=n)/\Stage.Ok [G1++J] q/\stageB (kk+1) q⟩) ?_ ?_
 rotate_left
 ·rintro ⟨q,G1,itc⟩ ρ _ ⟨f1,hitc,hqok,hqS⟩
  refine gCO f1 3 [1802] rfl ?_
  refine sTl f1 3 (encStage q) sizeOf53 ?_
  intro _ g1
  refine jOR 3 rfl<|retN (vs:=[.agg (encStage q).toArray]) rfl (.cons (.cell _ _ _ _ kr (lvA g1 3 0 (encStage q) (isAgg53 _) (sizeOf53 _) rfl rfl rfl)) .nil) ?_
  exact ⟨q,G1,rfl,hqok,hqS,_,om,((g1.pick 1 rfl).drops [2,2])⟩
 refine jCO 3 rfl ?_
 have s2:=(e1.pick 2 rfl)
 refine cX call11 (tape_next (RdT.flat (hR.up 3 (by rfl))) om s2.flat1 14 om) ?_
 rintro _ _ ⟨b0,rfl,_,h1,_,t2⟩
 have a0:=t2.unflat1
 refine jOC 9 rfl ?_
 refine cE b0 0 (fun u2=>?_) (fun u2=>?_)
 ·refine jCO 2 rfl ?_
  refine cX call11 (tape_next (RdT.flat (hR.up 3 (by rfl))) om a0.flat1 8 om) ?_
  rintro _ _ ⟨i1,rfl,_,v2,_,w2⟩
  have x2:=w2.unflat1
  refine pu1 ?_
  refine tW x2 2 0 (I i1) sizeOf3 ?_
  intro _ y2
  refine jOI 2 rfl ?_
  have z2:=(y2.picks [2,1])
  exact ⟨(({s0 with kind:=i1}:Stage),[],v2),alB,(Sat.nilc z2),om,{hs0.m with},⟨(by unfold numB;dsimp only;omega),hsB.2.1,hsB.2.2.1,hsB.2.2.2.1,up1 hsB.2.2.2.2.1,up1 hsB.2.2.2.2.2.1,up1 hsB.2.2.2.2.2.2⟩⟩
 refine jCC 6 rfl ?_
 refine cE b0 1 (fun b3=>?_) (fun b3=>?_)
 ·refine jCO 2 rfl ?_
  refine sBS a0 #[I (-1),I 0,I 1,I 2,I 15,I 16] runUnderlying22 sizeOf3 zeroValue3 ?_
  intro _ _ c3
  have d3:=(c3.pick 1 rfl)
  refine cX call58 (tape_pick (RdT.flat (hR.up 4 (by rfl))) om d3.flat1 (RdT.flat (RdT.blk (enc:=Go.E.encI) (sz:=1) (xs:=[-1,0,1,2,15,16]) (fun _=>(by rfl)) 6 0 rfl rfl rfl om)) om om) ?_
  rintro _ _ ⟨c0,rfl,e3,f3,_,g3⟩
  have h3:=g3.unflat1
  have na:(c0:Int)=(-1)\/(c0:Int)=0\/(c0:Int)=1\/(c0:Int)=2\/(c0:Int)=15\/(c0:Int)=16:=by simpa using e3
  refine pu1 ?_
  refine tW h3 3 1 (I c0) sizeOf3 ?_
  intro _ i3
  refine jOI 2 rfl ?_
  have j3:=((i3.picks [3,1]).dropAt 2 rfl)
  exact ⟨(({s0 with a:=c0}:Stage),[],f3),alB,(Sat.nilc j3),om,{hs0.m with},⟨(by unfold numB;dsimp only;omega),hsB.2.1,hsB.2.2.1,hsB.2.2.2.1,up1 hsB.2.2.2.2.1,up1 hsB.2.2.2.2.2.1,up1 hsB.2.2.2.2.2.2⟩⟩
 refine jCC 6 rfl ?_
 refine cE b0 2 (fun l3=>?_) (fun l3=>?_)
 ·refine jCO 2 rfl ?_
  refine sBS a0 #[I (-2),I (-1),I 0,I 1,I 16] runUnderlying22 sizeOf3 zeroValue3 ?_
  intro _ _ m3
  have n3:=(m3.pick 1 rfl)
  refine cX call58 (tape_pick (RdT.flat (hR.up 4 (by rfl))) om n3.flat1 (RdT.flat (RdT.blk (enc:=Go.E.encI) (sz:=1) (xs:=[-2,-1,0,1,16]) (fun _=>(by rfl)) 5 0 rfl rfl rfl om)) om om) ?_
  rintro _ _ ⟨d0,rfl,o3,p3,_,q3⟩
  have r3:=q3.unflat1
  have ta:(d0:Int)=(-2)\/(d0:Int)=(-1)\/(d0:Int)=0\/(d0:Int)=1\/(d0:Int)=16:=by simpa using o3
  refine pu1 ?_
  refine tW r3 3 2 (I d0) sizeOf3 ?_
  intro _ s3
  refine jOI 2 rfl ?_
  have u3:=((s3.picks [3,1]).dropAt 2 rfl)
  exact ⟨(({s0 with b:=d0}:Stage),[],p3),alB,(Sat.nilc u3),om,{hs0.m with},⟨(by unfold numB;dsimp only;omega),hsB.2.1,hsB.2.2.1,hsB.2.2.2.1,up1 hsB.2.2.2.2.1,up1 hsB.2.2.2.2.2.1,up1 hsB.2.2.2.2.2.2⟩⟩
 refine jCC 6 rfl ?_
 refine cE b0 3 (fun w3=>?_) (fun w3=>?_)
 ·refine jCO 2 rfl ?_
  refine cX call11 (tape_next (RdT.flat (hR.up 3 (by rfl))) om a0.flat1 6 om) ?_
  rintro _ _ ⟨u0,rfl,_,_,_,x3⟩
  have y3:=x3.unflat1
  refine sSub u0 1<|pu1 ?_
  refine sBS y3 #[I 0,I 5,I (-1),I 70000] runUnderlying22 sizeOf3 zeroValue3 ?_
  intro _ _ z3
  have a4:=(z3.pick 1 rfl)
  refine cX call58 (tape_pick (RdT.flat (hR.up 4 (by rfl))) om a4.flat1 (RdT.flat (RdT.blk (enc:=Go.E.encI) (sz:=1) (xs:=[0,5,-1,70000]) (fun _=>(by rfl)) 4 0 rfl rfl rfl om)) om om) ?_
  rintro _ _ ⟨j0,rfl,b4,c4,_,d4⟩
  have e4:=d4.unflat1
  have db:(j0:Int)=0\/(j0:Int)=5\/(j0:Int)=(-1)\/(j0:Int)=70000:=by simpa using b4
  refine pu2 ?_
  refine tW e4 3 4 (.agg #[I (u0-1),I j0]) sizeOf49 ?_
  intro _ f4
  refine jOI 2 rfl ?_
  have g4:=((f4.picks [3,1]).dropAt 2 rfl)
  exact ⟨(({s0 with edgePolicy:=(u0-1),edgeFill:=j0}:Stage),[],c4),alB,(Sat.nilc g4),om,{hs0.m with},⟨(by unfold numB;dsimp only;omega),hsB.2.1,hsB.2.2.1,hsB.2.2.2.1,up1 hsB.2.2.2.2.1,up1 hsB.2.2.2.2.2.1,up1 hsB.2.2.2.2.2.2⟩⟩
 refine jCC 6 rfl ?_
 refine cE b0 4 (fun i4=>?_) (fun i4=>?_)
 ·refine jCO 2 rfl ?_
  refine sBS a0 #[I 0,I 1,I 3,I 10,I 4611686018427387904] runUnderlying22 sizeOf3 zeroValue3 ?_
  intro _ _ j4
  have k4:=(j4.pick 1 rfl)
  refine cX call58 (tape_pick (RdT.flat (hR.up 4 (by rfl))) om k4.flat1 (RdT.flat (RdT.blk (enc:=Go.E.encI) (sz:=1) (xs:=[0,1,3,10,4611686018427387904]) (fun _=>(by rfl)) 5 0 rfl rfl rfl om)) om om) ?_
  rintro _ _ ⟨e0,rfl,l4,m4,_,n4⟩
  have o4:=n4.unflat1
  have kb:(e0:Int)=0\/(e0:Int)=1\/(e0:Int)=3\/(e0:Int)=10\/(e0:Int)=4611686018427387904:=by simpa using l4
  refine pu1 ?_
  refine tW o4 3 6 (I e0) sizeOf3 ?_
  intro _ p4
  refine jOI 2 rfl ?_
  have q4:=((p4.picks [3,1]).dropAt 2 rfl)
  exact ⟨(({s0 with kW:=e0}:Stage),[],m4),alB,(Sat.nilc q4),om,{hs0.m with},⟨(by unfold numB;dsimp only;omega),hsB.2.1,hsB.2.2.1,hsB.2.2.2.1,up1 hsB.2.2.2.2.1,up1 hsB.2.2.2.2.2.1,up1 hsB.2.2.2.2.2.2⟩⟩
 refine jCC 6 rfl ?_
 refine cE b0 5 (fun s4=>?_) (fun s4=>?_)
 ·refine jCO 3 rfl ?_
  refine cX call11 (tape_next (RdT.flat (hR.up 3 (by rfl))) om a0.flat1 10 om) ?_
  rintro _ _ ⟨t4,rfl,_,_,_,u4⟩
  refine cX call60 (tg_weights (RdT.flat (hR.up 3 (by rfl))) om (Sat.flat1 (Sat.unflat1 u4)) t4 om) ?_
  rintro _ _ ⟨j1,k1,l1,w4,x4,rfl,v0,m1,y4,_,z4⟩
  have a5:=z4.unflat2
  have hn_zs_115:=v0.len;have hl_zs_115:=v0.le
  refine pu1 ?_
  refine tW a5 3 8 (.slice j1 k1 l1) sizeOf22 ?_
  intro _ b5
  refine jOI 2 rfl ?_
  exact ⟨(({s0 with weights:=⟨j1,k1,l1,w4⟩}:Stage),x4,y4),alB,(b5.picks [3,1,2]),om,{hs0.m with weights:=v0.of_mem mS},⟨(by unfold numB;dsimp only;omega),⟨by have h:=m1.1;dsimp only;omega,m1.2⟩,hsB.2.2.1,hsB.2.2.2.1,up1 hsB.2.2.2.2.1,up1 hsB.2.2.2.2.2.1,up1 hsB.2.2.2.2.2.2⟩⟩
 refine jCC 6 rfl ?_
 refine cE b0 6 (fun d5=>?_) (fun d5=>?_)
 ·refine jCO 3 rfl ?_
  refine cX call11 (tape_next (RdT.flat (hR.up 3 (by rfl))) om a0.flat1 11 om) ?_
  rintro _ _ ⟨e5,rfl,_,_,_,f5⟩
  refine cX call60 (tg_weights (RdT.flat (hR.up 3 (by rfl))) om (Sat.flat1 (Sat.unflat1 f5)) e5 om) ?_
  rintro _ _ ⟨n1,o1,q1,h5,i5,rfl,w0,r1,j5,_,k5⟩
  have l5:=k5.unflat2
  have hn_zs_138:=w0.len;have hl_zs_138:=w0.le
  refine pu1 ?_
  refine tW l5 3 9 (.slice n1 o1 q1) sizeOf22 ?_
  intro _ m5
  refine jOI 2 rfl ?_
  exact ⟨(({s0 with row:=⟨n1,o1,q1,h5⟩}:Stage),i5,j5),alB,(m5.picks [3,1,2]),om,{hs0.m with row:=w0.of_mem mS},⟨(by unfold numB;dsimp only;omega),hsB.2.1,⟨by have h:=r1.1;dsimp only;omega,r1.2⟩,hsB.2.2.2.1,up1 hsB.2.2.2.2.1,up1 hsB.2.2.2.2.2.1,up1 hsB.2.2.2.2.2.2⟩⟩
 refine jCC 6 rfl ?_
 refine cE b0 7 (fun o5=>?_) (fun o5=>?_)
 ·refine jCO 2 rfl ?_
  refine sBS a0 #[I 0,I (-1),I 25,I 24] runUnderlying22 sizeOf3 zeroValue3 ?_
  intro _ _ p5
  have q5:=(p5.pick 1 rfl)
  refine cX call58 (tape_pick (RdT.flat (hR.up 4 (by rfl))) om q5.flat1 (RdT.flat (RdT.blk (enc:=Go.E.encI) (sz:=1) (xs:=[0,-1,25,24]) (fun _=>(by rfl)) 4 0 rfl rfl rfl om)) om om) ?_
  rintro _ _ ⟨k0,rfl,r5,_,_,s5⟩
  have t5:=s5.unflat1
  have gc:(k0:Int)=0\/(k0:Int)=(-1)\/(k0:Int)=25\/(k0:Int)=24:=by simpa using r5
  refine pu1 ?_
  refine sBS t5 #[I 0,I 25,I 3] runUnderlying22 sizeOf3 zeroValue3 ?_
  intro _ _ u5
  have v5:=(u5.pick 1 rfl)
  refine cX call58 (tape_pick (RdT.flat (hR.up 5 (by rfl))) om v5.flat1 (RdT.flat (RdT.blk (enc:=Go.E.encI) (sz:=1) (xs:=[0,25,3]) (fun _=>(by rfl)) 3 0 rfl rfl rfl om)) om om) ?_
  rintro _ _ ⟨n0,rfl,w5,x5,_,y5⟩
  have z5:=y5.unflat1
  have lc:(n0:Int)=0\/(n0:Int)=25\/(n0:Int)=3:=by simpa using w5
  refine pu1 ?_
  refine tW z5 4 11 (I k0) sizeOf3 ?_
  intro _ a6
  refine pu1 ?_
  refine tW a6 4 12 (I n0) sizeOf3 ?_
  intro _ b6
  refine jOI 2 rfl ?_
  have c6:=((b6.picks [4,1]).drops [2,2])
  exact ⟨(({s0 with shift:=k0,shift2:=n0}:Stage),[],x5),alB,(Sat.nilc c6),om,{hs0.m with},⟨(by unfold numB;dsimp only;omega),hsB.2.1,hsB.2.2.1,hsB.2.2.2.1,up1 hsB.2.2.2.2.1,up1 hsB.2.2.2.2.2.1,up1 hsB.2.2.2.2.2.2⟩⟩
 refine jCC 6 rfl ?_
 refine cE b0 8 (fun e6=>?_) (fun e6=>?_)
 ·refine jCO 1 rfl ?_
  refine sBS a0 #[] runUnderlying50 sizeOf121 zeroValue121 ?_
  intro f6 _ s1
  refine gOO s1 2 [3] rfl ?_
  refine sApp (nb:=32) s1 (OwnT.blk (enc:=encTap) (sz:=2) (b:=f6) (c:=#[]) (E:=121) (xs:=[]) fR 0 rfl rfl rfl om) 0 (hs0.x.up 4 rfl) underlying50 (i:=Tryz.t121) kr fR ?_
  intro _ _ _ _ h6 i6
  refine pu1 ?_
  refine sBS i6 #[I (-129),I 0,I 256,I 257] runUnderlying22 sizeOf3 zeroValue3 ?_
  intro _ _ j6
  have k6:=(j6.pick 2 rfl)
  refine cX call58 (tape_pick (RdT.flat (hR.up 5 (by rfl))) om k6.flat1 (RdT.flat (RdT.blk (enc:=Go.E.encI) (sz:=1) (xs:=[-129,0,256,257]) (fun _=>(by rfl)) 4 0 rfl rfl rfl om)) om om) ?_
  rintro _ _ ⟨f0,rfl,l6,_,_,m6⟩
  have n6:=m6.unflat1
  have yc:(f0:Int)=(-129)\/(f0:Int)=0\/(f0:Int)=256\/(f0:Int)=257:=by simpa using l6
  refine pu2 ?_
  refine sBS n6 #[I 0,I 1,I 8,I 9] runUnderlying22 sizeOf3 zeroValue3 ?_
  intro _ _ o6
  have p6:=(o6.pick 1 rfl)
  refine cX call58 (tape_pick (RdT.flat (hR.up 6 (by rfl))) om p6.flat1 (RdT.flat (RdT.blk (enc:=Go.E.encI) (sz:=1) (xs:=[0,1,8,9]) (fun _=>(by rfl)) 4 0 rfl rfl rfl om)) om om) ?_
  rintro _ _ ⟨o0,rfl,q6,_,_,r6⟩
  have s6:=r6.unflat1
  have ed:(o0:Int)=0\/(o0:Int)=1\/(o0:Int)=8\/(o0:Int)=9:=by simpa using q6
  refine cX call60 (tg_weights (RdT.flat (hR.up 6 (by rfl))) om s6.flat1 o0 om) ?_
  rintro _ _ ⟨x0,y0,z0,t1,t6,rfl,a1,u1,u6,_,v6⟩
  have w6:=v6.unflat2
  have hn_zs_219:=a1.len;have hl_zs_219:=a1.le
  refine pu1 ?_
  refine sBS w6 #[I f0, .slice x0 y0 z0] runUnderlying50 sizeOf121 zeroValue121 ?_
  intro _ _ x6
  refine sApp (nb:=32) x6 h6 5 (RdT.blk (enc:=encTap) (sz:=2) (xs:=[(⟨f0,⟨x0,y0,z0,t1⟩⟩:Tap)]) fR 1 0 rfl rfl rfl om) underlying50 (i:=Tryz.t121) kr fR ?_
  intro v1 w1 x1 _ y6 z6
  refine pu1 ?_
  refine tW z6 7 13 (.slice v1 ((0+s0.x.n)+1) w1) sizeOf50 ?_
  intro _ a7
  refine jOI 2 rfl ?_
  have b7:=((a7.picks [7,2,3,6]).drops [4,4,4])
  exact ⟨(({s0 with x:=⟨v1,((0+s0.x.n)+1),w1,(([]++s0.x.l)++[(⟨f0,⟨x0,y0,z0,t1⟩⟩:Tap)])⟩}:Stage),(x1++t6),u6),alB,b7.merge2,om,{hs0.m with x:=(y6.rdAt (cs:=[x1]) 0 rfl).of_mem mS,xD:=(by
    intro z hz
    rcases List.mem_append.1 hz with h|h
    ·rw [List.nil_append] at h;exact (hs0.xD z h).of_mem mS
    ·simp only [List.mem_singleton] at h;rw [h];exact ⟨a1.of_mem mS⟩)},⟨(by unfold numB;dsimp only;omega),hsB.2.1,hsB.2.2.1,hsB.2.2.2.1,⟨by have h:=hsB.2.2.2.2.1.1;simp;omega,mem_snoc (base_any hsB.2.2.2.2.1.2) ⟨nb,by have h:=u1.1;dsimp only;omega,u1.2⟩⟩,up1 hsB.2.2.2.2.2.1,up1 hsB.2.2.2.2.2.2⟩⟩
 refine jCC 6 rfl ?_
 refine cE b0 9 (fun d7=>?_) (fun d7=>?_)
 ·refine jCO 2 rfl ?_
  refine sBS a0 #[I 0,I 1,I 128,I 129] runUnderlying22 sizeOf3 zeroValue3 ?_
  intro _ _ e7
  have f7:=(e7.pick 1 rfl)
  refine cX call58 (tape_pick (RdT.flat (hR.up 4 (by rfl))) om f7.flat1 (RdT.flat (RdT.blk (enc:=Go.E.encI) (sz:=1) (xs:=[0,1,128,129]) (fun _=>(by rfl)) 4 0 rfl rfl rfl om)) om om) ?_
  rintro _ _ ⟨l0,rfl,g7,h7,_,i7⟩
  have j7:=i7.unflat1
  have rd:(l0:Int)=0\/(l0:Int)=1\/(l0:Int)=128\/(l0:Int)=129:=by simpa using g7
  refine pu1 ?_
  refine tW j7 3 15 (I l0) sizeOf3 ?_
  intro _ k7
  refine jOI 2 rfl ?_
  have l7:=((k7.picks [3,1]).dropAt 2 rfl)
  exact ⟨(({s0 with bins:=l0}:Stage),[],h7),alB,(Sat.nilc l7),om,{hs0.m with},⟨(by unfold numB;dsimp only;omega),hsB.2.1,hsB.2.2.1,hsB.2.2.2.1,up1 hsB.2.2.2.2.1,up1 hsB.2.2.2.2.2.1,up1 hsB.2.2.2.2.2.2⟩⟩
 refine jCC 6 rfl ?_
 refine cE b0 10 (fun n7=>?_) (fun n7=>?_)
 ·refine jCO 1 rfl ?_
  refine sBS a0 #[] runUnderlying51 sizeOf75 zeroValue75 ?_
  intro o7 _ y1
  refine gOO y1 2 [3] rfl ?_
  refine sApp (nb:=16) y1 (OwnT.blk (enc:=encPOp) (sz:=2) (b:=o7) (c:=#[]) (E:=75) (xs:=[]) fR 0 rfl rfl rfl om) 0 (hs0.ops.up 4 rfl) underlying51 (i:=Tryz.t75) kr fR ?_
  intro _ _ _ _ q7 r7
  refine pu1 ?_
  have s7:=(r7.pick 1 rfl)
  refine cX call11 (tape_next (RdT.flat (hR.up 4 (by rfl))) om s7.flat1 14 om) ?_
  rintro _ _ ⟨q0,rfl,_,_,_,t7⟩
  have u7:=t7.unflat1
  refine sSub q0 1<|pu1 ?_
  refine sBS u7 #[I 0,I 1,I 25,I (-5)] runUnderlying22 sizeOf3 zeroValue3 ?_
  intro _ _ v7
  have w7:=(v7.pick 1 rfl)
  refine cX call58 (tape_pick (RdT.flat (hR.up 5 (by rfl))) om w7.flat1 (RdT.flat (RdT.blk (enc:=Go.E.encI) (sz:=1) (xs:=[0,1,25,-5]) (fun _=>(by rfl)) 4 0 rfl rfl rfl om)) om om) ?_
  rintro _ _ ⟨g0,rfl,x7,y7,_,z7⟩
  have a8:=z7.unflat1
  have ge:(g0:Int)=0\/(g0:Int)=1\/(g0:Int)=25\/(g0:Int)=(-5):=by simpa using x7
  refine pu1 ?_
  refine sBS a8 #[I (q0-1),I g0] runUnderlying51 sizeOf75 zeroValue75 ?_
  intro _ _ b8
  refine sApp (nb:=16) b8 q7 3 (RdT.blk (enc:=encPOp) (sz:=2) (xs:=[(⟨(q0-1),g0⟩:POp)]) fR 1 0 rfl rfl rfl om) underlying51 (i:=Tryz.t75) kr fR ?_
  intro z1 a2 b2 _ c8 d8
  refine pu1 ?_
  refine tW d8 5 16 (.slice z1 ((0+s0.ops.n)+1) a2) sizeOf51 ?_
  intro _ e8
  refine jOI 2 rfl ?_
  exact ⟨(({s0 with ops:=⟨z1,((0+s0.ops.n)+1),a2,(([]++s0.ops.l)++[(⟨(q0-1),g0⟩:POp)])⟩}:Stage),b2,y7),alB,((e8.picks [5,2,4]).drops [3,3]),om,{hs0.m with ops:=(c8.rdAt (cs:=[b2]) 0 rfl).of_mem mS},⟨(by unfold numB;dsimp only;omega),hsB.2.1,hsB.2.2.1,hsB.2.2.2.1,up1 hsB.2.2.2.2.1,up1 hsB.2.2.2.2.2.1,⟨by have h:=hsB.2.2.2.2.2.2.1;simp;omega,mem_snoc (base_any hsB.2.2.2.2.2.2.2) ⟨nb,nb⟩⟩⟩⟩
 refine jCC 6 rfl ?_
 refine cE b0 11 (fun g8=>?_) (fun g8=>?_)
 ·refine jCO 2 rfl ?_
  refine sBS a0 #[I 0,I 1,I 4294967296,I 4294967297] runUnderlying22 sizeOf3 zeroValue3 ?_
  intro _ _ h8
  have i8:=(h8.pick 1 rfl)
  refine cX call58 (tape_pick (RdT.flat (hR.up 4 (by rfl))) om i8.flat1 (RdT.flat (RdT.blk (enc:=Go.E.encI) (sz:=1) (xs:=[0,1,4294967296,4294967297]) (fun _=>(by rfl)) 4 0 rfl rfl rfl om)) om om) ?_
  rintro _ _ ⟨m0,rfl,j8,k8,_,l8⟩
  have m8:=l8.unflat1
  have qe:(m0:Int)=0\/(m0:Int)=1\/(m0:Int)=4294967296\/(m0:Int)=4294967297:=by simpa using j8
  refine pu1 ?_
  refine tW m8 3 17 (I m0) sizeOf3 ?_
  intro _ n8
  refine jOI 2 rfl ?_
  have o8:=((n8.picks [3,1]).dropAt 2 rfl)
  exact ⟨(({s0 with max_:=m0}:Stage),[],k8),alB,(Sat.nilc o8),om,{hs0.m with},⟨(by unfold numB;dsimp only;omega),hsB.2.1,hsB.2.2.1,hsB.2.2.2.1,up1 hsB.2.2.2.2.1,up1 hsB.2.2.2.2.2.1,up1 hsB.2.2.2.2.2.2⟩⟩
 refine jCC 6 rfl ?_
 refine cE b0 12 (fun q8=>?_) (fun q8=>?_)
 rotate_left
 ·refine gCO a0 5 [2] rfl ?_
  refine tW a0 2 3 (.bool (!s0.barrier)) sizeOf4 ?_
  intro _ r8
  refine jOI 2 rfl ?_
  have s8:=(r8.picks [2,1])
  exact ⟨(({s0 with barrier:=(!s0.barrier)}:Stage),[],h1),alB,(Sat.nilc s8),om,{hs0.m with},⟨(by unfold numB;dsimp only;omega),hsB.2.1,hsB.2.2.1,hsB.2.2.2.1,up1 hsB.2.2.2.2.1,up1 hsB.2.2.2.2.2.1,up1 hsB.2.2.2.2.2.2⟩⟩
 refine jCO 2 rfl ?_
 refine sBS a0 #[] runUnderlying22 sizeOf3 zeroValue3 ?_
 intro u8 _ c2
 refine gOO c2 2 [3] rfl ?_
 refine sApp (nb:=8) c2 (OwnT.blk (enc:=Go.E.encI) (sz:=1) (b:=u8) (c:=#[]) (E:=3) (xs:=[]) fR 0 rfl rfl rfl om) 0 (hs0.weights.up 4 rfl) underlying22 (i:=Tryz.t3) kr fR ?_
 intro r0 t0 d2 _ p0 w8
 refine pu1 ?_
 refine tW w8 3 8 (.slice r0 (0+s0.weights.n) t0) sizeOf22 ?_
 intro _ b1
 refine gOC b1 10 [3] rfl ?_
 refine cD ((((0+s0.weights.n):Nat):Int)>0) (fun x8=>?_) (fun x8=>?_)
 rotate_left
 ·refine jCI 2 rfl ?_
  exact ⟨(({s0 with weights:=⟨r0,(0+s0.weights.n),t0,([]++s0.weights.l)⟩}:Stage),d2,h1),alB,(b1.picks [3,2,2]),om,{hs0.m with weights:=(p0.rdAt (cs:=[d2]) 0 rfl).of_mem mS},⟨(by unfold numB;dsimp only;omega),⟨by have h:=hsB.2.1.1;simp;omega,base_any hsB.2.1.2⟩,hsB.2.2.1,hsB.2.2.2.1,up1 hsB.2.2.2.2.1,up1 hsB.2.2.2.2.2.1,up1 hsB.2.2.2.2.2.2⟩⟩
 refine drawG b1 [6,8,9,11] (fb 1 3 8 1<|fb 4 3 8 1<|fn) (Plan.sts [0,2,3,7]<|Plan.sts [1]<|Plan.sts [4]<|Plan.sts [5]<| .fk 6 8 (.ef 8<| .ef 9<|Plan.sts [10]<| .ef 11<| .fin) (.ef 6<| .ef 9<|Plan.sts [10]<| .ef 11<| .fin)) fun _ e2=>?_
 refine qU [0,2,3,7] ?_
 refine qL 0 ?_
 refine qL 1 ?_
 refine qU [5] ?_
 refine qF ?_ ?_
 rotate_left
 ·refine qO rfl ?_
  refine sBS e2 #[I 32767,I (-32768),I 0] runUnderlying22 sizeOf3 zeroValue3 ?_
  intro _ _ f2
  refine nZ f2 [4,4] ?_
  refine qO rfl ?_
  have z8:=(f2.pick 2 rfl)
  refine cX call11 (tape_next (RdT.flat (hR.up 5 (by rfl))) om z8.flat1 (((0+s0.weights.n):Nat):Int) om) ?_
  rintro _ _ ⟨c1,rfl,_,_,_,a9⟩
  have g2:=a9.unflat1
  refine nZ g2 [4,4] ?_
  refine qO rfl ?_
  refine cX call58 (tape_pick (RdT.flat (hR.up 5 (by rfl))) om g2.flat1 (RdT.flat (RdT.blk (enc:=Go.E.encI) (sz:=1) (xs:=[32767,-32768,0]) (fun _=>(by rfl)) 3 0 rfl rfl rfl om)) om om) ?_
  rintro _ _ ⟨h0,rfl,b9,c9,_,d9⟩
  have h2:=d9.unflat1
  have ff:(h0:Int)=32767\/(h0:Int)=(-32768)\/(h0:Int)=0:=by simpa using b9
  refine nZ h2 [4,4] ?_
  obtain ⟨e9,gf,hf,f9,jf,g9,h9⟩:=OwnT.elem p0 c1
  refine qI g9 ?_
  refine qO rfl ?_
  refine sStF h2 p0 h9 2 (c1).toNat 0 e9 h0 f9 (I h0) [I h0] sizeOf3 ?_
  intro _ i2 i9 j9
  refine nA ?_
  refine qN<|jXI 1 rfl ?_
  exact ⟨(({s0 with weights:=⟨r0,(0+s0.weights.n),t0,(([]++s0.weights.l).set ((c1).toNat) h0)⟩}:Stage),i2,c9),alB,((j9.picks [4,1,3]).dropAt 3 rfl),om,{hs0.m with weights:=(i9.rdAt (cs:=[i2]) 0 rfl).of_mem mS},⟨(by unfold numB;dsimp only;omega),⟨by have h:=hsB.2.1.1;simp;omega,mem_set (base_any hsB.2.1.2) nb⟩,hsB.2.2.1,hsB.2.2.2.1,up1 hsB.2.2.2.2.1,up1 hsB.2.2.2.2.2.1,up1 hsB.2.2.2.2.2.2⟩⟩
 refine qO rfl ?_
 have l9:=(e2.pick 1 rfl)
 refine cX call11 (tape_next (RdT.flat (hR.up 4 (by rfl))) om l9.flat1 (((0+s0.weights.n):Nat):Int) om) ?_
 rintro _ _ ⟨d1,rfl,_,_,_,m9⟩
 have j2:=m9.unflat1
 refine nZ j2 [3,3] ?_
 refine qO rfl ?_
 refine sBS j2 #[I 32767,I (-32768),I 0] runUnderlying22 sizeOf3 zeroValue3 ?_
 intro _ _ k2
 refine nZ k2 [4,4] ?_
 refine qO rfl ?_
 have n9:=(k2.pick 1 rfl)
 refine cX call58 (tape_pick (RdT.flat (hR.up 5 (by rfl))) om n9.flat1 (RdT.flat (RdT.blk (enc:=Go.E.encI) (sz:=1) (xs:=[32767,-32768,0]) (fun _=>(by rfl)) 3 0 rfl rfl rfl om)) om om) ?_
 rintro _ _ ⟨i0,rfl,o9,p9,_,q9⟩
 have l2:=q9.unflat1
 have uf:(i0:Int)=32767\/(i0:Int)=(-32768)\/(i0:Int)=0:=by simpa using o9
 refine nZ l2 [4,4] ?_
 obtain ⟨r9,vf,wf,s9,xf,t9,u9⟩:=OwnT.elem p0 d1
 refine qI t9 ?_
 refine qO rfl ?_
 refine sStF l2 p0 u9 2 (d1).toNat 0 r9 i0 s9 (I i0) [I i0] sizeOf3 ?_
 intro _ m2 v9 w9
 refine nA ?_
 refine qN<|jXI 1 rfl ?_
 exact ⟨(({s0 with weights:=⟨r0,(0+s0.weights.n),t0,(([]++s0.weights.l).set ((d1).toNat) i0)⟩}:Stage),m2,p9),alB,((w9.picks [4,1,3]).dropAt 3 rfl),om,{hs0.m with weights:=(v9.rdAt (cs:=[m2]) 0 rfl).of_mem mS},⟨(by unfold numB;dsimp only;omega),⟨by have h:=hsB.2.1.1;simp;omega,mem_set (base_any hsB.2.1.2) nb⟩,hsB.2.2.1,hsB.2.2.2.1,up1 hsB.2.2.2.2.1,up1 hsB.2.2.2.2.2.1,up1 hsB.2.2.2.2.2.2⟩⟩
section
variable {ni:Int} {S:List StageV} {s:StageV} (hn:0<=ni) (hs:∀t∈S,∀x∈srcs t,0<=x/\x<ni+S.length)
include hn hs
end
theorem kern_any {q:StageV} {s t u:Shape} (h:¬twoP q):kernelV q s t=kernelV q s u:=by
  unfold twoP at h
  have hd:decide (q.kind=6/\¬q.b=-1)=false:=decide_eq_false h
  have hp:∀a b c,pwCode q.ops false a b c=pwCode q.ops false a 1 c:=fun a b c=>rfl
  unfold kernelV
  rw [hd,hp s.max_ t.max_,hp s.max_ u.max_]
  simp only [h,false_and,if_false]
theorem of_any {q:StageV} {s t u:Shape} (h:¬twoP q):ofV q s t=ofV q s u:=by
  unfold ofV
  rw [kern_any (t:=t) (u:=u) h]
  simp only [h,not_false_eq_true,true_or]
theorem pwT_any {p q u:PlaneV} {l:List POp} {out:Int} {r:Rct}:pwT p q false l out r=pwT p u false l out r:=by
  unfold pwT
  rw [show pwCode l false p.max_ q.max_ out=pwCode l false p.max_ u.max_ out from rfl]
  have hx:pwX p q false l out=pwX p u false l out:=rfl
  rw [hx]
  simp only [Bool.false_eq_true,false_implies,and_true,true_and]
theorem planeB_S {q:Plane} (h0:planeOK q.v=true) (h1:planeB q):planeS 0 q:=by
  have e:∀x,numB x->numS 0 x:=fun x hx=>by unfold numB at hx;unfold numS;omega
  have h:=(plane_sz h0).1;unfold sizeP at h;simp only [Plane.v] at h
  exact ⟨⟨by unfold numS;omega,by unfold numS;omega,by unfold numS;omega⟩,by have:=h1.1;omega,fun y hy=>e _ (h1.2 y hy)⟩
end Go.Proofs.YtghcddbhllkbmaaGreat
