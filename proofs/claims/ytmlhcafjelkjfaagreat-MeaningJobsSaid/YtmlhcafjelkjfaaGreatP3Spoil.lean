import Derived.Test.YtmlhcafjelkjfaaGreatP3Ab
import Derived.WalkKit
import Derived.Deep.Quiet
import Derived.KernelRfl
import Derived.Laws.BytesString
import Derived.Laws.Shifts
import Derived.Laws.IdiomStrings
import Derived.Test.YtmlhcafjelkjfaaGreatProg
import Derived.Test.YtmlhcafjelkjfaaGreatP3TGen
import Derived.Test.YtmlhcafjelkjfaaGreatP3Ld
namespace Go.Proofs.YtmlhcafjelkjfaaGreat
open Go Go.E Go.Proofs.Tryz
set_option linter.all false
set_option maxRecDepth 100000
set_option maxHeartbeats 2000000
variable {W w:World} {H:Chunk} {F:List Chunk}
def numS (k:Nat) (z:Int):Prop:=-4611686018427387904-(k:Int)<=z/\z<=4611686018427387904+(k:Int)
theorem numS_mono {k m:Nat} {z:Int} (h:numS k z) (hm:k<=m):numS m z:=by unfold numS at*;omega
def planeS (k:Nat) (q:Plane):Prop:=(numS k q.w/\numS k q.h/\numS k q.max_)/\q.pix.l.length<=64+k/\∀z∈q.pix.l,numS k z
theorem base_mem {k m:Nat} {l:List Int} (h:∀z∈l,numS k z) (hm:k<=m):∀z∈([]:List Int)++l,numS m z:=by
  intro z hz
  rw [List.nil_append] at hz
  exact numS_mono (h z hz) hm
theorem tg_spoilPlane {p:Nat} {a:Option Addr} {n k:Nat} {i:Int} {xs:List Int} (hR:RdT Go.E.encI 1 [H] a n k xs) (hi:0<=i/\i<=n) (hS:Sat W w ([(p, .cells #[.slice a n k,I i] 81 (0,0))]::H::F)) (p0:Plane) (hp0:Plane.Ok [H] p0) (kk:Nat) (hkk:kk<=100) (hpS:planeS kk p0):
  Calls prog 29 #[Pt p 0, .agg (encPlane p0).toArray] w fun e w'=>∃(q:Plane) (G:Chunk),e= .returned (.agg (encPlane q).toArray)/\(Plane.Ok [G] q)/\(planeS (kk+1) q)/\∃i':Int,(0<=i'/\i'<=n)/\Sat W w' ([(p, .cells #[.slice a n k,I i'] 81 (0,0))]::G::H::F):=by
 have hl_p0_pix:=hp0.pix.le;have hn_p0_pix:=hp0.pix.len
 have hle:=hR.le
 obtain ⟨⟨hpw,hph,hpm⟩,hp2,hp3⟩:=hpS;unfold numS at hpw hph hpm
 refine callsA 67 func29 rfl<|sR<|sBox hS (.agg (encPlane p0).toArray) (encPlane p0).toArray fun e0 _ g1=>sAlloc g1 zeroValue38 fun r0 _ h1=>zS<|sBS h1 #[] runUnderlying22 sizeOf3 zeroValue3 fun i1 _ x0=>pu1<|sL x0 2 3 (.slice p0.pix.a p0.pix.n p0.pix.k) (isAgg22 _)<|sApp (nb:=8) x0 (OwnT.blk (enc:=Go.E.encI) (sz:=1) (b:=i1) (c:=#[]) (E:=3) (xs:=[]) fR 0 rfl rfl rfl om) 0 (hp0.pix.up 4 rfl) underlying22 (i:=Tryz.t3) kr fR fun a0 b0 f0 _ d0 k1=>pu1 ?_
 refine tW k1 2 3 (.slice a0 (0+p0.pix.n) b0) sizeOf22 fun _ l1=>nT<|cutA (γ:=Plane×Chunk×Int) (fun ⟨q,G1,itc⟩=>[(3,Pt e0 0),(4,Pt r0 0)]) (fun ⟨q,G1,itc⟩ w=>Sat W w ([(p, .cells #[.slice a n k,I itc] 81 (0,0))]::[(e0, .cells (encPlane q).toArray 38 (0,0))]::[(r0, .cells #[I 0,I 0,I 0,nS] 38 (0,0))]::G1::H::F)/\(0<=itc/\itc<=n)/\Plane.Ok [G1] q/\planeS (kk+1) q) ?_ ?_
 rotate_left
 ·rintro ⟨q,G1,itc⟩ ρ _ ⟨y0,hitc,hqok,hqS⟩
  exact sR<|lA y0 1 0 4 (isAgg38 _) (sizeOf38 _)<|sTl y0 2 (encPlane q) sizeOf38 fun _ z0=>zE<|retN (vs:=[.agg (encPlane q).toArray]) rfl (.cons (.cell _ _ _ _ kr (lvA z0 2 0 (encPlane q) (isAgg38 _) (sizeOf38 _) rfl rfl rfl)) .nil)<|⟨q,G1,rfl,hqok,hqS,_,om,(z0.drops [1,1])⟩
 refine sR<|pu1 ?_
 have n1:=(l1.pick 3 rfl)
 refine cX call15 (tape_next (RdT.flat (hR.up 3 (by rfl))) om n1.flat1 6 om) ?_
 rintro _ _ ⟨k0,rfl,_,l0,_,o1⟩
 have c0:=o1.unflat1
 refine nT<|blockE<|sR<|pu2<|nT<|cE k0 0 (fun p1=>?_) (fun p1=>?_)
 ·refine rE<|pu2<|sL c0 3 0 (I p0.w) (isAgg3 _)<|sAdd p0.w 1<|sBS c0 #[I 0,I (p0.w+1),I (-1),I 129] runUnderlying22 sizeOf3 zeroValue3 fun _ _ q1=>?_
  have r1:=(q1.pick 1 rfl)
  refine cX call42 (tape_pick (RdT.flat (hR.up 4 (by rfl))) om r1.flat1 (RdT.flat (RdT.blk (enc:=Go.E.encI) (sz:=1) (xs:=[0,(p0.w+1),-1,129]) (fun _=>(by rfl)) 4 0 rfl rfl rfl om)) om om) ?_
  rintro _ _ ⟨i0,rfl,s1,t1,_,u1⟩
  have v1:=u1.unflat1
  have t4:(i0:Int)=0\/(i0:Int)=(p0.w+1)\/(i0:Int)=(-1)\/(i0:Int)=129:=by simpa using s1
  refine pu1<|tW v1 4 0 (I i0) sizeOf3 fun _ w1=>nB ?_
  exact ⟨((⟨i0,p0.h,p0.max_,⟨a0,(0+p0.pix.n),b0,([]++p0.pix.l)⟩⟩:Plane),f0,t1),alA,((w1.picks [3,4,2]).dropAt 3 rfl),om,⟨(d0.rdAt (cs:=[f0]) 0 rfl)⟩,⟨⟨by unfold numS;dsimp only;omega,by unfold numS;dsimp only;omega,by unfold numS;dsimp only;omega⟩,⟨by simp;omega,(base_mem hp3 om)⟩⟩⟩
 refine sR<|pu2<|nT<|cE k0 1 (fun y1=>?_) (fun y1=>?_)
 ·refine rE<|pu2<|sL c0 3 1 (I p0.h) (isAgg3 _)<|sAdd p0.h 1<|sBS c0 #[I 0,I (p0.h+1),I 4611686018427387904] runUnderlying22 sizeOf3 zeroValue3 fun _ _ z1=>?_
  have a2:=(z1.pick 1 rfl)
  refine cX call42 (tape_pick (RdT.flat (hR.up 4 (by rfl))) om a2.flat1 (RdT.flat (RdT.blk (enc:=Go.E.encI) (sz:=1) (xs:=[0,(p0.h+1),4611686018427387904]) (fun _=>(by rfl)) 3 0 rfl rfl rfl om)) om om) ?_
  rintro _ _ ⟨m0,rfl,b2,c2,_,d2⟩
  have e2:=d2.unflat1
  have z4:(m0:Int)=0\/(m0:Int)=(p0.h+1)\/(m0:Int)=4611686018427387904:=by simpa using b2
  refine pu1<|tW e2 4 1 (I m0) sizeOf3 fun _ f2=>nB ?_
  exact ⟨((⟨p0.w,m0,p0.max_,⟨a0,(0+p0.pix.n),b0,([]++p0.pix.l)⟩⟩:Plane),f0,c2),alA,((f2.picks [3,4,2]).dropAt 3 rfl),om,⟨(d0.rdAt (cs:=[f0]) 0 rfl)⟩,⟨⟨by unfold numS;dsimp only;omega,by unfold numS;dsimp only;omega,by unfold numS;dsimp only;omega⟩,⟨by simp;omega,(base_mem hp3 om)⟩⟩⟩
 refine sR<|pu2<|nT<|cE k0 2 (fun h2=>?_) (fun h2=>?_)
 ·refine rE<|pu1<|sBS c0 #[I 0,I 4294967297,I (-1),I 3] runUnderlying22 sizeOf3 zeroValue3 fun _ _ i2=>?_
  have j2:=(i2.pick 1 rfl)
  refine cX call42 (tape_pick (RdT.flat (hR.up 4 (by rfl))) om j2.flat1 (RdT.flat (RdT.blk (enc:=Go.E.encI) (sz:=1) (xs:=[0,4294967297,-1,3]) (fun _=>(by rfl)) 4 0 rfl rfl rfl om)) om om) ?_
  rintro _ _ ⟨j0,rfl,k2,l2,_,m2⟩
  have n2:=m2.unflat1
  have f5:(j0:Int)=0\/(j0:Int)=4294967297\/(j0:Int)=(-1)\/(j0:Int)=3:=by simpa using k2
  refine pu1<|tW n2 4 2 (I j0) sizeOf3 fun _ o2=>nB ?_
  exact ⟨((⟨p0.w,p0.h,j0,⟨a0,(0+p0.pix.n),b0,([]++p0.pix.l)⟩⟩:Plane),f0,l2),alA,((o2.picks [3,4,2]).dropAt 3 rfl),om,⟨(d0.rdAt (cs:=[f0]) 0 rfl)⟩,⟨⟨by unfold numS;dsimp only;omega,by unfold numS;dsimp only;omega,by unfold numS;dsimp only;omega⟩,⟨by simp;omega,(base_mem hp3 om)⟩⟩⟩
 refine sR<|pu2<|nT<|cE k0 3 (fun q2=>?_) (fun q2=>?_)
 ·refine rE<|pu1<|sL c0 3 3 (.slice a0 (0+p0.pix.n) b0) (isAgg22 _)<|sBS c0 #[I 0] runUnderlying22 sizeOf3 zeroValue3 fun _ _ r2=>sApp (nb:=8) r2 d0 2 (RdT.blk (enc:=Go.E.encI) (sz:=1) (xs:=[0]) fR 1 0 rfl rfl rfl om) underlying22 (i:=Tryz.t3) kr fR fun a1 b1 c1 _ s2 t2=>pu1<|tW t2 4 3 (.slice a1 ((0+p0.pix.n)+1) b1) sizeOf22 fun _ u2=>nB ?_
  exact ⟨((⟨p0.w,p0.h,p0.max_,⟨a1,((0+p0.pix.n)+1),b1,(([]++p0.pix.l)++[0])⟩⟩:Plane),c1,l0),alA,((u2.picks [3,4,3]).dropAt 3 rfl),om,⟨(s2.rdAt (cs:=[c1]) 0 rfl)⟩,⟨⟨by unfold numS;dsimp only;omega,by unfold numS;dsimp only;omega,by unfold numS;dsimp only;omega⟩,⟨by simp;omega,mem_snoc (base_mem hp3 om) (by unfold numS;omega)⟩⟩⟩
 refine sR<|pu2<|nT<|cE k0 4 (fun w2=>?_) (fun w2=>?_)
 rotate_left
 ·refine rE<|pu1<|tW c0 3 3 (nS) sizeOf22 fun _ x2=>nB ?_
  have y2:=((x2.picks [3,1]).dropAt 2 rfl)
  have z2:Sat W _ ([(p, .cells #[.slice a n k,I l0] 81 (0,0))]::[(e0, .cells #[I p0.w,I p0.h,I p0.max_,nS] 38 (0,0))]::[(r0, .cells #[I 0,I 0,I 0,nS] 38 (0,0))]::[]::H::F):=Sat.perm (show Sat W _ ([(p, .cells #[.slice a n k,I l0] 81 (0,0))]::[(e0, .cells #[I p0.w,I p0.h,I p0.max_,nS] 38 (0,0))]::[(r0, .cells #[I 0,I 0,I 0,nS] 38 (0,0))]::H::F) from y2) (by simp [Value.cells])
  exact ⟨((⟨p0.w,p0.h,p0.max_,⟨none,0,0,[]⟩⟩:Plane),[],l0),alA,z2,om,⟨RdT.nil (enc:=Go.E.encI) (sz:=1) fR _⟩,⟨⟨by unfold numS;dsimp only;omega,by unfold numS;dsimp only;omega,by unfold numS;dsimp only;omega⟩,⟨by simp,fun z hz=>by cases hz⟩⟩⟩
 refine sR<|pu1<|sL c0 3 3 (.slice a0 (0+p0.pix.n) b0) (isAgg22 _)<|pu2<|nT<|cD ((((0+p0.pix.n):Nat):Int)>0) (fun a3=>?_) (fun a3=>?_)
 rotate_left
 ·refine skipE<|bN<|tN ?_
  exact ⟨((⟨p0.w,p0.h,p0.max_,⟨a0,(0+p0.pix.n),b0,([]++p0.pix.l)⟩⟩:Plane),f0,l0),alA,(c0.picks [2,3,2]),om,⟨(d0.rdAt (cs:=[f0]) 0 rfl)⟩,⟨⟨by unfold numS;dsimp only;omega,by unfold numS;dsimp only;omega,by unfold numS;dsimp only;omega⟩,⟨by simp;omega,(base_mem hp3 om)⟩⟩⟩
 refine drawP [6,13,14,16] [(1,⟨e0,3,none⟩, .slice a0 (0+p0.pix.n) b0),(4,⟨e0,3,none⟩, .slice a0 (0+p0.pix.n) b0),(9,⟨e0,2,none⟩,I p0.max_),(12,⟨e0,2,none⟩,I p0.max_)] (Plan.sts [0,2,3,7,8,11]<|Plan.sts [1]<|Plan.sts [4]<|Plan.sts [5]<|Plan.sts [9]<|Plan.sts [10]<|Plan.sts [12]<| .fk 6 13 (.ef 13<| .ef 14<|Plan.sts [15]<| .ef 16<| .fin) (.ef 6<| .ef 14<|Plan.sts [15]<| .ef 16<| .fin)) rfl kr ⟨cI c0 3,cI c0 3,cI c0 3,cI c0 3,trivial⟩ ?_
 have d1:=c0.drew
 refine qU [0,2,3,7,8,11]<|qLd (.slice a0 (0+p0.pix.n) b0) 0 isAgg22<|qLd (.slice a0 (0+p0.pix.n) b0) 1 isAgg22<|qU [5]<|qLd (I p0.max_) 2 isAgg3<|qAdd p0.max_ 1<|qLd (I p0.max_) 3 isAgg3<|qF ?_ ?_
 ·refine qO rfl<|cX call15 (tape_next (RdT.flat (hR.up 3 (by rfl))) om d1.flat1 (((0+p0.pix.n):Nat):Int) om) ?_
  rintro _ _ ⟨n0,rfl,_,_,_,c3⟩
  have o0:=c3.unflat1
  refine nilO ⟨⟨cI o0 3,cI o0 3,cI o0 3,cI o0 3,trivial⟩,?_⟩
  refine qO rfl<|sBS o0 #[I (-1),I (p0.max_+1),I p0.max_] runUnderlying22 sizeOf3 zeroValue3 fun _ _ s0=>nilO ⟨⟨cI s0 4,cI s0 4,cI s0 4,dI,trivial⟩,?_⟩
  refine qO rfl ?_
  have d3:=(s0.pick 1 rfl)
  refine cX call42 (tape_pick (RdT.flat (hR.up 4 (by rfl))) om d3.flat1 (RdT.flat (RdT.blk (enc:=Go.E.encI) (sz:=1) (xs:=[-1,(p0.max_+1),p0.max_]) (fun _=>(by rfl)) 3 0 rfl rfl rfl om)) om om) ?_
  rintro _ _ ⟨g0,rfl,e3,f3,_,g3⟩
  have t0:=g3.unflat1
  have u5:(g0:Int)=(-1)\/(g0:Int)=(p0.max_+1)\/(g0:Int)=p0.max_:=by simpa using e3
  refine nilO ⟨⟨cI t0 4,cI t0 4,cI t0 4,dI,trivial⟩,?_⟩
  obtain ⟨h3,i3,j3,k3,v5,l3,m3⟩:=OwnT.elem d0 n0
  refine qY (.pointer (some ⟨i3,j3+(n0).toNat*1,none⟩)) rfl (fun w _=>Y_idx (a:=a0) (i:=n0) (len:=(0+p0.pix.n)) (cap:=b0) rfl runUnderlying22 sizeOf3 kr kr l3)<|qO rfl<|sStF t0 d0 m3 2 (n0).toNat 0 h3 g0 k3 (I g0) [I g0] sizeOf3 fun _ e1 n3 o3=>nilO ⟨dA,?_⟩
  refine qN<|bN<|tN ?_
  exact ⟨((⟨p0.w,p0.h,p0.max_,⟨a0,(0+p0.pix.n),b0,(([]++p0.pix.l).set ((n0).toNat) g0)⟩⟩:Plane),e1,f3),alA,((o3.picks [3,4,2]).dropAt 3 rfl),om,⟨(n3.rdAt (cs:=[e1]) 0 rfl)⟩,⟨⟨by unfold numS;dsimp only;omega,by unfold numS;dsimp only;omega,by unfold numS;dsimp only;omega⟩,⟨by simp;omega,mem_set (base_mem hp3 om) (by unfold numS;omega)⟩⟩⟩
 refine qO rfl<|sBS d1 #[I (-1),I (p0.max_+1),I p0.max_] runUnderlying22 sizeOf3 zeroValue3 fun _ _ u0=>nilO ⟨⟨cI u0 4,cI u0 4,cI u0 4,dI,trivial⟩,?_⟩
 refine qO rfl ?_
 have q3:=(u0.pick 1 rfl)
 refine cX call15 (tape_next (RdT.flat (hR.up 4 (by rfl))) om q3.flat1 (((0+p0.pix.n):Nat):Int) om) ?_
 rintro _ _ ⟨q0,rfl,_,_,_,r3⟩
 have v0:=r3.unflat1
 refine nilO ⟨⟨cI v0 4,cI v0 4,cI v0 4,dI,trivial⟩,?_⟩
 refine qO rfl<|cX call42 (tape_pick (RdT.flat (hR.up 4 (by rfl))) om v0.flat1 (RdT.flat (RdT.blk (enc:=Go.E.encI) (sz:=1) (xs:=[-1,(p0.max_+1),p0.max_]) (fun _=>(by rfl)) 3 0 rfl rfl rfl om)) om om) ?_
 rintro _ _ ⟨h0,rfl,s3,u3,_,v3⟩
 have w0:=v3.unflat1
 have f6:(h0:Int)=(-1)\/(h0:Int)=(p0.max_+1)\/(h0:Int)=p0.max_:=by simpa using s3
 refine nilO ⟨⟨cI w0 4,cI w0 4,cI w0 4,dI,trivial⟩,?_⟩
 obtain ⟨w3,x3,y3,z3,g6,a4,b4⟩:=OwnT.elem d0 q0
 refine qY (.pointer (some ⟨x3,y3+(q0).toNat*1,none⟩)) rfl (fun w _=>Y_idx (a:=a0) (i:=q0) (len:=(0+p0.pix.n)) (cap:=b0) rfl runUnderlying22 sizeOf3 kr kr a4)<|qO rfl<|sStF w0 d0 b4 2 (q0).toNat 0 w3 h0 z3 (I h0) [I h0] sizeOf3 fun _ f1 c4 d4=>nilO ⟨dA,?_⟩
 refine qN<|bN<|tN ?_
 exact ⟨((⟨p0.w,p0.h,p0.max_,⟨a0,(0+p0.pix.n),b0,(([]++p0.pix.l).set ((q0).toNat) h0)⟩⟩:Plane),f1,u3),alA,((d4.picks [3,4,2]).dropAt 3 rfl),om,⟨(c4.rdAt (cs:=[f1]) 0 rfl)⟩,⟨⟨by unfold numS;dsimp only;omega,by unfold numS;dsimp only;omega,by unfold numS;dsimp only;omega⟩,⟨by simp;omega,mem_set (base_mem hp3 om) (by unfold numS;omega)⟩⟩⟩
theorem Stage.Ok.m {cs cs':List Chunk} {x:Stage} (h:Stage.Ok cs x) (hm:∀p∈cs.flatten,p∈cs'.flatten:=by intro p hp;simp at hp⊢;simp [hp]):Stage.Ok cs' x:=h.of_mem hm
theorem up1 {α:Type} {l:List α} {m k:Nat} {P:Prop} (h:l.length<=m+k/\P):l.length<=m+(k+1)/\P:=⟨by omega,h.2⟩
theorem base_any {α:Type} {P:α->Prop} {l:List α} (h:∀z∈l,P z):∀z∈([]:List α)++l,P z:=by
  intro z hz
  rw [List.nil_append] at hz
  exact h z hz
theorem tg_spoilStage {J:Chunk} {p:Nat} {a:Option Addr} {n k:Nat} {i:Int} {xs:List Int} (hR:RdT Go.E.encI 1 [H] a n k xs) (hi:0<=i/\i<=n) (hS:Sat W w ([(p, .cells #[.slice a n k,I i] 81 (0,0))]::J::H::F)) (s0:Stage) (hs0:Stage.Ok [J] s0) (kk:Nat) (hkk:kk<=100) (hsB:stageB kk s0):
  Calls prog 28 #[Pt p 0, .agg (encStage s0).toArray] w fun e w'=>∃(q:Stage) (G:Chunk),e= .returned (.agg (encStage q).toArray)/\(Stage.Ok [G++J] q)/\(stageB (kk+1) q)/\∃i':Int,(0<=i'/\i'<=n)/\Sat W w' ([(p, .cells #[.slice a n k,I i'] 81 (0,0))]::G::J::H::F):=by
 have hl_s0_weights:=hs0.weights.le;have hn_s0_weights:=hs0.weights.len
 have hl_s0_row:=hs0.row.le;have hn_s0_row:=hs0.row.len
 have hl_s0_col:=hs0.col.le;have hn_s0_col:=hs0.col.len
 have hl_s0_x:=hs0.x.le;have hn_s0_x:=hs0.x.len
 have hl_s0_y:=hs0.y.le;have hn_s0_y:=hs0.y.len
 have hl_s0_ops:=hs0.ops.le;have hn_s0_ops:=hs0.ops.len
 have hle:=hR.le
 obtain ⟨hi0,hi1,hi2,hi3,hi4,hi5,hi6,hi7,hi8,hi9,hi10⟩:=hsB.1;unfold numB at hi0 hi1 hi2 hi3 hi4 hi5 hi6 hi7 hi8 hi9 hi10;have hb_weights:=hsB.2.1.1;have hb_row:=hsB.2.2.1.1;have hb_col:=hsB.2.2.2.1.1;have hb_x:=hsB.2.2.2.2.1.1;have hb_y:=hsB.2.2.2.2.2.1.1;have hb_ops:=hsB.2.2.2.2.2.2.1
 refine callsA 137 func28 rfl ?_
 refine sR ?_
 refine sBox hS (.agg (encStage s0).toArray) (encStage s0).toArray ?_
 intro w0 _ n2
 refine sAlloc n2 zeroValue53 ?_
 intro l1 _ o2
 refine nT ?_
 refine cutA (γ:=Stage×Chunk×Int) (fun ⟨q,G1,itc⟩=>[(3,Pt w0 0),(4,Pt l1 0)]) (fun ⟨q,G1,itc⟩ w=>Sat W w (G1::[(p, .cells #[.slice a n k,I itc] 81 (0,0))]::[(w0, .cells (encStage q).toArray 53 (0,0))]::[(l1, .cells (encStage zStage).toArray 53 (0,0))]::J::H::F)/\(0<=itc/\itc<=n)/\Stage.Ok [G1++J] q/\stageB (kk+1) q) ?_ ?_
 rotate_left
 ·rintro ⟨q,G1,itc⟩ ρ _ ⟨m1,hitc,hqok,hqS⟩
  refine sR ?_
  refine lA m1 2 0 18 (isAgg53 _) (sizeOf53 _) ?_
  refine sTl m1 3 (encStage q) sizeOf53 ?_
  intro _ n1
  refine zE<|retN (vs:=[.agg (encStage q).toArray]) rfl (.cons (.cell _ _ _ _ kr (lvA n1 3 0 (encStage q) (isAgg53 _) (sizeOf53 _) rfl rfl rfl)) .nil) ?_
  exact ⟨q,G1,rfl,hqok,hqS,_,om,((n1.pick 1 rfl).drops [2,2])⟩
 refine sR<|pu1 ?_
 have q2:=(o2.pick 2 rfl)
 refine cX call15 (tape_next (RdT.flat (hR.up 3 (by rfl))) om q2.flat1 14 om) ?_
 rintro _ _ ⟨b0,rfl,_,o1,_,r2⟩
 have a0:=r2.unflat1
 refine nT<|blockE<|sR<|pu2<|nT ?_
 refine cE b0 0 (fun s2=>?_) (fun s2=>?_)
 ·refine rE<|pu1 ?_
  refine cX call15 (tape_next (RdT.flat (hR.up 3 (by rfl))) om a0.flat1 8 om) ?_
  rintro _ _ ⟨p1,rfl,_,t2,_,u2⟩
  have v2:=u2.unflat1
  refine pu1 ?_
  refine tW v2 2 0 (I p1) sizeOf3 ?_
  intro _ w2
  refine nB ?_
  have x2:=(w2.picks [2,1])
  exact ⟨(({s0 with kind:=p1}:Stage),[],t2),alA,(Sat.nilc x2),om,{hs0.m with},⟨(by unfold numB;dsimp only;omega),hsB.2.1,hsB.2.2.1,hsB.2.2.2.1,up1 hsB.2.2.2.2.1,up1 hsB.2.2.2.2.2.1,up1 hsB.2.2.2.2.2.2⟩⟩
 refine sR<|pu2<|nT ?_
 refine cE b0 1 (fun z2=>?_) (fun z2=>?_)
 ·refine rE<|pu1 ?_
  refine sBS a0 #[I (-1),I 0,I 1,I 2,I 15,I 16] runUnderlying22 sizeOf3 zeroValue3 ?_
  intro _ _ a3
  have b3:=(a3.pick 1 rfl)
  refine cX call42 (tape_pick (RdT.flat (hR.up 4 (by rfl))) om b3.flat1 (RdT.flat (RdT.blk (enc:=Go.E.encI) (sz:=1) (xs:=[-1,0,1,2,15,16]) (fun _=>(by rfl)) 6 0 rfl rfl rfl om)) om om) ?_
  rintro _ _ ⟨e0,rfl,c3,d3,_,e3⟩
  have f3:=e3.unflat1
  have pa:(e0:Int)=(-1)\/(e0:Int)=0\/(e0:Int)=1\/(e0:Int)=2\/(e0:Int)=15\/(e0:Int)=16:=by simpa using c3
  refine pu1 ?_
  refine tW f3 3 1 (I e0) sizeOf3 ?_
  intro _ g3
  refine nB ?_
  have h3:=((g3.picks [3,1]).dropAt 2 rfl)
  exact ⟨(({s0 with a:=e0}:Stage),[],d3),alA,(Sat.nilc h3),om,{hs0.m with},⟨(by unfold numB;dsimp only;omega),hsB.2.1,hsB.2.2.1,hsB.2.2.2.1,up1 hsB.2.2.2.2.1,up1 hsB.2.2.2.2.2.1,up1 hsB.2.2.2.2.2.2⟩⟩
 refine sR<|pu2<|nT ?_
 refine cE b0 2 (fun j3=>?_) (fun j3=>?_)
 ·refine rE<|pu1 ?_
  refine sBS a0 #[I (-2),I (-1),I 0,I 1,I 16] runUnderlying22 sizeOf3 zeroValue3 ?_
  intro _ _ k3
  have l3:=(k3.pick 1 rfl)
  refine cX call42 (tape_pick (RdT.flat (hR.up 4 (by rfl))) om l3.flat1 (RdT.flat (RdT.blk (enc:=Go.E.encI) (sz:=1) (xs:=[-2,-1,0,1,16]) (fun _=>(by rfl)) 5 0 rfl rfl rfl om)) om om) ?_
  rintro _ _ ⟨f0,rfl,m3,n3,_,o3⟩
  have p3:=o3.unflat1
  have va:(f0:Int)=(-2)\/(f0:Int)=(-1)\/(f0:Int)=0\/(f0:Int)=1\/(f0:Int)=16:=by simpa using m3
  refine pu1 ?_
  refine tW p3 3 2 (I f0) sizeOf3 ?_
  intro _ q3
  refine nB ?_
  have r3:=((q3.picks [3,1]).dropAt 2 rfl)
  exact ⟨(({s0 with b:=f0}:Stage),[],n3),alA,(Sat.nilc r3),om,{hs0.m with},⟨(by unfold numB;dsimp only;omega),hsB.2.1,hsB.2.2.1,hsB.2.2.2.1,up1 hsB.2.2.2.2.1,up1 hsB.2.2.2.2.2.1,up1 hsB.2.2.2.2.2.2⟩⟩
 refine sR<|pu2<|nT ?_
 refine cE b0 3 (fun u3=>?_) (fun u3=>?_)
 ·refine rE<|pu1 ?_
  refine cX call15 (tape_next (RdT.flat (hR.up 3 (by rfl))) om a0.flat1 6 om) ?_
  rintro _ _ ⟨y0,rfl,_,_,_,v3⟩
  have w3:=v3.unflat1
  refine sSub y0 1 ?_
  refine pu1 ?_
  refine sBS w3 #[I 0,I 5,I (-1),I 70000] runUnderlying22 sizeOf3 zeroValue3 ?_
  intro _ _ x3
  have y3:=(x3.pick 1 rfl)
  refine cX call42 (tape_pick (RdT.flat (hR.up 4 (by rfl))) om y3.flat1 (RdT.flat (RdT.blk (enc:=Go.E.encI) (sz:=1) (xs:=[0,5,-1,70000]) (fun _=>(by rfl)) 4 0 rfl rfl rfl om)) om om) ?_
  rintro _ _ ⟨l0,rfl,z3,a4,_,b4⟩
  have c4:=b4.unflat1
  have fb:(l0:Int)=0\/(l0:Int)=5\/(l0:Int)=(-1)\/(l0:Int)=70000:=by simpa using z3
  refine pu2 ?_
  refine tW c4 3 4 (.agg #[I (y0-1),I l0]) sizeOf49 ?_
  intro _ d4
  refine nB ?_
  have e4:=((d4.picks [3,1]).dropAt 2 rfl)
  exact ⟨(({s0 with edgePolicy:=(y0-1),edgeFill:=l0}:Stage),[],a4),alA,(Sat.nilc e4),om,{hs0.m with},⟨(by unfold numB;dsimp only;omega),hsB.2.1,hsB.2.2.1,hsB.2.2.2.1,up1 hsB.2.2.2.2.1,up1 hsB.2.2.2.2.2.1,up1 hsB.2.2.2.2.2.2⟩⟩
 refine sR<|pu2<|nT ?_
 refine cE b0 4 (fun g4=>?_) (fun g4=>?_)
 ·refine rE<|pu1 ?_
  refine sBS a0 #[I 0,I 1,I 3,I 10,I 4611686018427387904] runUnderlying22 sizeOf3 zeroValue3 ?_
  intro _ _ h4
  have i4:=(h4.pick 1 rfl)
  refine cX call42 (tape_pick (RdT.flat (hR.up 4 (by rfl))) om i4.flat1 (RdT.flat (RdT.blk (enc:=Go.E.encI) (sz:=1) (xs:=[0,1,3,10,4611686018427387904]) (fun _=>(by rfl)) 5 0 rfl rfl rfl om)) om om) ?_
  rintro _ _ ⟨g0,rfl,j4,k4,_,l4⟩
  have m4:=l4.unflat1
  have lb:(g0:Int)=0\/(g0:Int)=1\/(g0:Int)=3\/(g0:Int)=10\/(g0:Int)=4611686018427387904:=by simpa using j4
  refine pu1 ?_
  refine tW m4 3 6 (I g0) sizeOf3 ?_
  intro _ n4
  refine nB ?_
  have o4:=((n4.picks [3,1]).dropAt 2 rfl)
  exact ⟨(({s0 with kW:=g0}:Stage),[],k4),alA,(Sat.nilc o4),om,{hs0.m with},⟨(by unfold numB;dsimp only;omega),hsB.2.1,hsB.2.2.1,hsB.2.2.2.1,up1 hsB.2.2.2.2.1,up1 hsB.2.2.2.2.2.1,up1 hsB.2.2.2.2.2.2⟩⟩
 refine sR<|pu2<|nT ?_
 refine cE b0 5 (fun q4=>?_) (fun q4=>?_)
 ·refine rE<|pu2 ?_
  refine cX call15 (tape_next (RdT.flat (hR.up 3 (by rfl))) om a0.flat1 10 om) ?_
  rintro _ _ ⟨r4,rfl,_,_,_,s4⟩
  refine cX call71 (tg_weights (RdT.flat (hR.up 3 (by rfl))) om (Sat.flat1 (Sat.unflat1 s4)) r4 om) ?_
  rintro _ _ ⟨q1,r1,s1,u4,v4,rfl,z0,t1,w4,_,x4⟩
  have y4:=x4.unflat2
  have hn_zs_115:=z0.len;have hl_zs_115:=z0.le
  refine pu1 ?_
  refine tW y4 3 8 (.slice q1 r1 s1) sizeOf22 ?_
  intro _ z4
  refine nB ?_
  exact ⟨(({s0 with weights:=⟨q1,r1,s1,u4⟩}:Stage),v4,w4),alA,(z4.picks [3,1,2]),om,{hs0.m with weights:=z0.of_mem mS},⟨(by unfold numB;dsimp only;omega),⟨by have h:=t1.1;dsimp only;omega,t1.2⟩,hsB.2.2.1,hsB.2.2.2.1,up1 hsB.2.2.2.2.1,up1 hsB.2.2.2.2.2.1,up1 hsB.2.2.2.2.2.2⟩⟩
 refine sR<|pu2<|nT ?_
 refine cE b0 6 (fun b5=>?_) (fun b5=>?_)
 ·refine rE<|pu2 ?_
  refine cX call15 (tape_next (RdT.flat (hR.up 3 (by rfl))) om a0.flat1 11 om) ?_
  rintro _ _ ⟨c5,rfl,_,_,_,d5⟩
  refine cX call71 (tg_weights (RdT.flat (hR.up 3 (by rfl))) om (Sat.flat1 (Sat.unflat1 d5)) c5 om) ?_
  rintro _ _ ⟨u1,v1,w1,f5,g5,rfl,a1,x1,h5,_,i5⟩
  have j5:=i5.unflat2
  have hn_zs_138:=a1.len;have hl_zs_138:=a1.le
  refine pu1 ?_
  refine tW j5 3 9 (.slice u1 v1 w1) sizeOf22 ?_
  intro _ k5
  refine nB ?_
  exact ⟨(({s0 with row:=⟨u1,v1,w1,f5⟩}:Stage),g5,h5),alA,(k5.picks [3,1,2]),om,{hs0.m with row:=a1.of_mem mS},⟨(by unfold numB;dsimp only;omega),hsB.2.1,⟨by have h:=x1.1;dsimp only;omega,x1.2⟩,hsB.2.2.2.1,up1 hsB.2.2.2.2.1,up1 hsB.2.2.2.2.2.1,up1 hsB.2.2.2.2.2.2⟩⟩
 refine sR<|pu2<|nT ?_
 refine cE b0 7 (fun m5=>?_) (fun m5=>?_)
 ·refine rE<|pu1 ?_
  refine sBS a0 #[I 0,I (-1),I 25,I 24] runUnderlying22 sizeOf3 zeroValue3 ?_
  intro _ _ n5
  have o5:=(n5.pick 1 rfl)
  refine cX call42 (tape_pick (RdT.flat (hR.up 4 (by rfl))) om o5.flat1 (RdT.flat (RdT.blk (enc:=Go.E.encI) (sz:=1) (xs:=[0,-1,25,24]) (fun _=>(by rfl)) 4 0 rfl rfl rfl om)) om om) ?_
  rintro _ _ ⟨m0,rfl,p5,_,_,q5⟩
  have r5:=q5.unflat1
  have hc:(m0:Int)=0\/(m0:Int)=(-1)\/(m0:Int)=25\/(m0:Int)=24:=by simpa using p5
  refine pu1 ?_
  refine sBS r5 #[I 0,I 25,I 3] runUnderlying22 sizeOf3 zeroValue3 ?_
  intro _ _ s5
  have t5:=(s5.pick 1 rfl)
  refine cX call42 (tape_pick (RdT.flat (hR.up 5 (by rfl))) om t5.flat1 (RdT.flat (RdT.blk (enc:=Go.E.encI) (sz:=1) (xs:=[0,25,3]) (fun _=>(by rfl)) 3 0 rfl rfl rfl om)) om om) ?_
  rintro _ _ ⟨p0,rfl,u5,v5,_,w5⟩
  have x5:=w5.unflat1
  have mc:(p0:Int)=0\/(p0:Int)=25\/(p0:Int)=3:=by simpa using u5
  refine pu1 ?_
  refine tW x5 4 11 (I m0) sizeOf3 ?_
  intro _ y5
  refine pu1 ?_
  refine tW y5 4 12 (I p0) sizeOf3 ?_
  intro _ z5
  refine nB ?_
  have a6:=((z5.picks [4,1]).drops [2,2])
  exact ⟨(({s0 with shift:=m0,shift2:=p0}:Stage),[],v5),alA,(Sat.nilc a6),om,{hs0.m with},⟨(by unfold numB;dsimp only;omega),hsB.2.1,hsB.2.2.1,hsB.2.2.2.1,up1 hsB.2.2.2.2.1,up1 hsB.2.2.2.2.2.1,up1 hsB.2.2.2.2.2.2⟩⟩
 refine sR<|pu2<|nT ?_
 refine cE b0 8 (fun c6=>?_) (fun c6=>?_)
 ·refine rE ?_
  refine sBS a0 #[] runUnderlying50 sizeOf122 zeroValue122 ?_
  intro d6 _ y1
  refine pu1 ?_
  refine sL y1 3 13 (.slice s0.x.a s0.x.n s0.x.k) (isAgg50 _) ?_
  refine sApp (nb:=32) y1 (OwnT.blk (enc:=encTap) (sz:=2) (b:=d6) (c:=#[]) (E:=122) (xs:=[]) fR 0 rfl rfl rfl om) 0 (hs0.x.up 4 rfl) underlying50 (i:=Tryz.t122) kr fR ?_
  intro _ _ _ _ f6 g6
  refine pu1 ?_
  refine sBS g6 #[I (-129),I 0,I 256,I 257] runUnderlying22 sizeOf3 zeroValue3 ?_
  intro _ _ h6
  have i6:=(h6.pick 2 rfl)
  refine cX call42 (tape_pick (RdT.flat (hR.up 5 (by rfl))) om i6.flat1 (RdT.flat (RdT.blk (enc:=Go.E.encI) (sz:=1) (xs:=[-129,0,256,257]) (fun _=>(by rfl)) 4 0 rfl rfl rfl om)) om om) ?_
  rintro _ _ ⟨h0,rfl,j6,_,_,k6⟩
  have l6:=k6.unflat1
  have zc:(h0:Int)=(-129)\/(h0:Int)=0\/(h0:Int)=256\/(h0:Int)=257:=by simpa using j6
  refine pu2 ?_
  refine sBS l6 #[I 0,I 1,I 8,I 9] runUnderlying22 sizeOf3 zeroValue3 ?_
  intro _ _ m6
  have n6:=(m6.pick 1 rfl)
  refine cX call42 (tape_pick (RdT.flat (hR.up 6 (by rfl))) om n6.flat1 (RdT.flat (RdT.blk (enc:=Go.E.encI) (sz:=1) (xs:=[0,1,8,9]) (fun _=>(by rfl)) 4 0 rfl rfl rfl om)) om om) ?_
  rintro _ _ ⟨q0,rfl,o6,_,_,p6⟩
  have q6:=p6.unflat1
  have fd:(q0:Int)=0\/(q0:Int)=1\/(q0:Int)=8\/(q0:Int)=9:=by simpa using o6
  refine cX call71 (tg_weights (RdT.flat (hR.up 6 (by rfl))) om q6.flat1 q0 om) ?_
  rintro _ _ ⟨b1,c1,d1,z1,r6,rfl,e1,a2,s6,_,t6⟩
  have u6:=t6.unflat2
  have hn_zs_219:=e1.len;have hl_zs_219:=e1.le
  refine pu1 ?_
  refine sBS u6 #[I h0, .slice b1 c1 d1] runUnderlying50 sizeOf122 zeroValue122 ?_
  intro _ _ v6
  refine sApp (nb:=32) v6 f6 5 (RdT.blk (enc:=encTap) (sz:=2) (xs:=[(⟨h0,⟨b1,c1,d1,z1⟩⟩:Tap)]) fR 1 0 rfl rfl rfl om) underlying50 (i:=Tryz.t122) kr fR ?_
  intro b2 c2 d2 _ w6 x6
  refine pu1 ?_
  refine tW x6 7 13 (.slice b2 ((0+s0.x.n)+1) c2) sizeOf50 ?_
  intro _ y6
  refine nB ?_
  have z6:=((y6.picks [7,2,3,6]).drops [4,4,4])
  exact ⟨(({s0 with x:=⟨b2,((0+s0.x.n)+1),c2,(([]++s0.x.l)++[(⟨h0,⟨b1,c1,d1,z1⟩⟩:Tap)])⟩}:Stage),(d2++r6),s6),alA,z6.merge2,om,{hs0.m with x:=(w6.rdAt (cs:=[d2]) 0 rfl).of_mem mS,xD:=(by
    intro z hz
    rcases List.mem_append.1 hz with h|h
    ·rw [List.nil_append] at h;exact (hs0.xD z h).of_mem mS
    ·simp only [List.mem_singleton] at h;rw [h];exact ⟨e1.of_mem mS⟩)},⟨(by unfold numB;dsimp only;omega),hsB.2.1,hsB.2.2.1,hsB.2.2.2.1,⟨by have h:=hsB.2.2.2.2.1.1;simp;omega,mem_snoc (base_any hsB.2.2.2.2.1.2) ⟨nb,by have h:=a2.1;dsimp only;omega,a2.2⟩⟩,up1 hsB.2.2.2.2.2.1,up1 hsB.2.2.2.2.2.2⟩⟩
 refine sR<|pu2<|nT ?_
 refine cE b0 9 (fun b7=>?_) (fun b7=>?_)
 ·refine rE<|pu1 ?_
  refine sBS a0 #[I 0,I 1,I 128,I 129] runUnderlying22 sizeOf3 zeroValue3 ?_
  intro _ _ c7
  have d7:=(c7.pick 1 rfl)
  refine cX call42 (tape_pick (RdT.flat (hR.up 4 (by rfl))) om d7.flat1 (RdT.flat (RdT.blk (enc:=Go.E.encI) (sz:=1) (xs:=[0,1,128,129]) (fun _=>(by rfl)) 4 0 rfl rfl rfl om)) om om) ?_
  rintro _ _ ⟨n0,rfl,e7,f7,_,g7⟩
  have h7:=g7.unflat1
  have sd:(n0:Int)=0\/(n0:Int)=1\/(n0:Int)=128\/(n0:Int)=129:=by simpa using e7
  refine pu1 ?_
  refine tW h7 3 15 (I n0) sizeOf3 ?_
  intro _ i7
  refine nB ?_
  have j7:=((i7.picks [3,1]).dropAt 2 rfl)
  exact ⟨(({s0 with bins:=n0}:Stage),[],f7),alA,(Sat.nilc j7),om,{hs0.m with},⟨(by unfold numB;dsimp only;omega),hsB.2.1,hsB.2.2.1,hsB.2.2.2.1,up1 hsB.2.2.2.2.1,up1 hsB.2.2.2.2.2.1,up1 hsB.2.2.2.2.2.2⟩⟩
 refine sR<|pu2<|nT ?_
 refine cE b0 10 (fun l7=>?_) (fun l7=>?_)
 ·refine rE ?_
  refine sBS a0 #[] runUnderlying51 sizeOf75 zeroValue75 ?_
  intro m7 _ e2
  refine pu1 ?_
  refine sL e2 3 16 (.slice s0.ops.a s0.ops.n s0.ops.k) (isAgg51 _) ?_
  refine sApp (nb:=16) e2 (OwnT.blk (enc:=encPOp) (sz:=2) (b:=m7) (c:=#[]) (E:=75) (xs:=[]) fR 0 rfl rfl rfl om) 0 (hs0.ops.up 4 rfl) underlying51 (i:=Tryz.t75) kr fR ?_
  intro _ _ _ _ o7 p7
  refine pu1 ?_
  have q7:=(p7.pick 1 rfl)
  refine cX call15 (tape_next (RdT.flat (hR.up 4 (by rfl))) om q7.flat1 14 om) ?_
  rintro _ _ ⟨x0,rfl,_,_,_,r7⟩
  have s7:=r7.unflat1
  refine sSub x0 1 ?_
  refine pu1 ?_
  refine sBS s7 #[I 0,I 1,I 25,I (-5)] runUnderlying22 sizeOf3 zeroValue3 ?_
  intro _ _ t7
  have u7:=(t7.pick 1 rfl)
  refine cX call42 (tape_pick (RdT.flat (hR.up 5 (by rfl))) om u7.flat1 (RdT.flat (RdT.blk (enc:=Go.E.encI) (sz:=1) (xs:=[0,1,25,-5]) (fun _=>(by rfl)) 4 0 rfl rfl rfl om)) om om) ?_
  rintro _ _ ⟨i0,rfl,v7,w7,_,x7⟩
  have y7:=x7.unflat1
  have he:(i0:Int)=0\/(i0:Int)=1\/(i0:Int)=25\/(i0:Int)=(-5):=by simpa using v7
  refine pu1 ?_
  refine sBS y7 #[I (x0-1),I i0] runUnderlying51 sizeOf75 zeroValue75 ?_
  intro _ _ z7
  refine sApp (nb:=16) z7 o7 3 (RdT.blk (enc:=encPOp) (sz:=2) (xs:=[(⟨(x0-1),i0⟩:POp)]) fR 1 0 rfl rfl rfl om) underlying51 (i:=Tryz.t75) kr fR ?_
  intro f2 g2 h2 _ a8 b8
  refine pu1 ?_
  refine tW b8 5 16 (.slice f2 ((0+s0.ops.n)+1) g2) sizeOf51 ?_
  intro _ c8
  refine nB ?_
  exact ⟨(({s0 with ops:=⟨f2,((0+s0.ops.n)+1),g2,(([]++s0.ops.l)++[(⟨(x0-1),i0⟩:POp)])⟩}:Stage),h2,w7),alA,((c8.picks [5,2,4]).drops [3,3]),om,{hs0.m with ops:=(a8.rdAt (cs:=[h2]) 0 rfl).of_mem mS},⟨(by unfold numB;dsimp only;omega),hsB.2.1,hsB.2.2.1,hsB.2.2.2.1,up1 hsB.2.2.2.2.1,up1 hsB.2.2.2.2.2.1,⟨by have h:=hsB.2.2.2.2.2.2.1;simp;omega,mem_snoc (base_any hsB.2.2.2.2.2.2.2) ⟨nb,nb⟩⟩⟩⟩
 refine sR<|pu2<|nT ?_
 refine cE b0 11 (fun e8=>?_) (fun e8=>?_)
 ·refine rE<|pu1 ?_
  refine sBS a0 #[I 0,I 1,I 4294967296,I 4294967297] runUnderlying22 sizeOf3 zeroValue3 ?_
  intro _ _ f8
  have g8:=(f8.pick 1 rfl)
  refine cX call42 (tape_pick (RdT.flat (hR.up 4 (by rfl))) om g8.flat1 (RdT.flat (RdT.blk (enc:=Go.E.encI) (sz:=1) (xs:=[0,1,4294967296,4294967297]) (fun _=>(by rfl)) 4 0 rfl rfl rfl om)) om om) ?_
  rintro _ _ ⟨o0,rfl,h8,i8,_,j8⟩
  have k8:=j8.unflat1
  have re:(o0:Int)=0\/(o0:Int)=1\/(o0:Int)=4294967296\/(o0:Int)=4294967297:=by simpa using h8
  refine pu1 ?_
  refine tW k8 3 17 (I o0) sizeOf3 ?_
  intro _ l8
  refine nB ?_
  have m8:=((l8.picks [3,1]).dropAt 2 rfl)
  exact ⟨(({s0 with max_:=o0}:Stage),[],i8),alA,(Sat.nilc m8),om,{hs0.m with},⟨(by unfold numB;dsimp only;omega),hsB.2.1,hsB.2.2.1,hsB.2.2.2.1,up1 hsB.2.2.2.2.1,up1 hsB.2.2.2.2.2.1,up1 hsB.2.2.2.2.2.2⟩⟩
 refine sR<|pu2<|nT ?_
 refine cE b0 12 (fun o8=>?_) (fun o8=>?_)
 rotate_left
 ·refine rE<|pu1 ?_
  refine sL a0 2 3 (.bool s0.barrier) (isAgg4 _) ?_
  refine pu2 ?_
  refine tW a0 2 3 (.bool (!s0.barrier)) sizeOf4 ?_
  intro _ p8
  refine nB ?_
  have q8:=(p8.picks [2,1])
  exact ⟨(({s0 with barrier:=(!s0.barrier)}:Stage),[],o1),alA,(Sat.nilc q8),om,{hs0.m with},⟨(by unfold numB;dsimp only;omega),hsB.2.1,hsB.2.2.1,hsB.2.2.2.1,up1 hsB.2.2.2.2.1,up1 hsB.2.2.2.2.2.1,up1 hsB.2.2.2.2.2.2⟩⟩
 refine sR ?_
 refine sBS a0 #[] runUnderlying22 sizeOf3 zeroValue3 ?_
 intro s8 _ i2
 refine pu1 ?_
 refine sL i2 3 8 (.slice s0.weights.a s0.weights.n s0.weights.k) (isAgg22 _) ?_
 refine sApp (nb:=8) i2 (OwnT.blk (enc:=Go.E.encI) (sz:=1) (b:=s8) (c:=#[]) (E:=3) (xs:=[]) fR 0 rfl rfl rfl om) 0 (hs0.weights.up 4 rfl) underlying22 (i:=Tryz.t3) kr fR ?_
 intro c0 d0 j2 _ r0 u8
 refine pu1 ?_
 refine tW u8 3 8 (.slice c0 (0+s0.weights.n) d0) sizeOf22 ?_
 intro _ t0
 refine zS<|pu1 ?_
 refine sL t0 3 8 (.slice c0 (0+s0.weights.n) d0) (isAgg22 _) ?_
 refine pu2<|nT ?_
 refine cD ((((0+s0.weights.n):Nat):Int)>0) (fun v8=>?_) (fun v8=>?_)
 rotate_left
 ·refine skipE<|bN<|tN ?_
  exact ⟨(({s0 with weights:=⟨c0,(0+s0.weights.n),d0,([]++s0.weights.l)⟩}:Stage),j2,o1),alA,(t0.picks [3,2,2]),om,{hs0.m with weights:=(r0.rdAt (cs:=[j2]) 0 rfl).of_mem mS},⟨(by unfold numB;dsimp only;omega),⟨by have h:=hsB.2.1.1;simp;omega,base_any hsB.2.1.2⟩,hsB.2.2.1,hsB.2.2.2.1,up1 hsB.2.2.2.2.1,up1 hsB.2.2.2.2.2.1,up1 hsB.2.2.2.2.2.2⟩⟩
 refine drawP [6,8,9,11] [(1,⟨w0,8,none⟩, .slice c0 (0+s0.weights.n) d0),(4,⟨w0,8,none⟩, .slice c0 (0+s0.weights.n) d0)] (Plan.sts [0,2,3,7]<|Plan.sts [1]<|Plan.sts [4]<|Plan.sts [5]<| .fk 6 8 (.ef 8<| .ef 9<|Plan.sts [10]<| .ef 11<| .fin) (.ef 6<| .ef 9<|Plan.sts [10]<| .ef 11<| .fin)) rfl kr ⟨cI t0 3,cI t0 3,trivial⟩ ?_
 have k2:=t0.drew
 refine qU [0,2,3,7] ?_
 refine qLd (.slice c0 (0+s0.weights.n) d0) 0 isAgg22 ?_
 refine qLd (.slice c0 (0+s0.weights.n) d0) 1 isAgg22 ?_
 refine qU [5] ?_
 refine qF ?_ ?_
 rotate_left
 ·refine qO rfl ?_
  refine sBS k2 #[I 32767,I (-32768),I 0] runUnderlying22 sizeOf3 zeroValue3 ?_
  intro _ _ f1
  refine nilO ⟨⟨cI f1 4,cI f1 4,trivial⟩,?_⟩
  refine qO rfl ?_
  have x8:=(f1.pick 2 rfl)
  refine cX call15 (tape_next (RdT.flat (hR.up 5 (by rfl))) om x8.flat1 (((0+s0.weights.n):Nat):Int) om) ?_
  rintro _ _ ⟨u0,rfl,_,_,_,y8⟩
  have g1:=y8.unflat1
  refine nilO ⟨⟨cI g1 4,cI g1 4,trivial⟩,?_⟩
  refine qO rfl ?_
  refine cX call42 (tape_pick (RdT.flat (hR.up 5 (by rfl))) om g1.flat1 (RdT.flat (RdT.blk (enc:=Go.E.encI) (sz:=1) (xs:=[32767,-32768,0]) (fun _=>(by rfl)) 3 0 rfl rfl rfl om)) om om) ?_
  rintro _ _ ⟨j0,rfl,z8,a9,_,b9⟩
  have h1:=b9.unflat1
  have gf:(j0:Int)=32767\/(j0:Int)=(-32768)\/(j0:Int)=0:=by simpa using z8
  refine nilO ⟨⟨cI h1 4,cI h1 4,trivial⟩,?_⟩
  obtain ⟨c9,d9,e9,f9,hf,g9,h9⟩:=OwnT.elem r0 u0
  refine qY (.pointer (some ⟨d9,e9+(u0).toNat*1,none⟩)) rfl (fun w _=>Y_idx (a:=c0) (i:=u0) (len:=(0+s0.weights.n)) (cap:=d0) rfl runUnderlying22 sizeOf3 kr kr g9) ?_
  refine qO rfl ?_
  refine sStF h1 r0 h9 2 (u0).toNat 0 c9 j0 f9 (I j0) [I j0] sizeOf3 ?_
  intro _ l2 i9 j9
  refine nilO ⟨dA,?_⟩
  refine qN ?_
  refine bN<|tN ?_
  exact ⟨(({s0 with weights:=⟨c0,(0+s0.weights.n),d0,(([]++s0.weights.l).set ((u0).toNat) j0)⟩}:Stage),l2,a9),alA,((j9.picks [4,1,3]).dropAt 3 rfl),om,{hs0.m with weights:=(i9.rdAt (cs:=[l2]) 0 rfl).of_mem mS},⟨(by unfold numB;dsimp only;omega),⟨by have h:=hsB.2.1.1;simp;omega,mem_set (base_any hsB.2.1.2) nb⟩,hsB.2.2.1,hsB.2.2.2.1,up1 hsB.2.2.2.2.1,up1 hsB.2.2.2.2.2.1,up1 hsB.2.2.2.2.2.2⟩⟩
 refine qO rfl ?_
 have l9:=(k2.pick 1 rfl)
 refine cX call15 (tape_next (RdT.flat (hR.up 4 (by rfl))) om l9.flat1 (((0+s0.weights.n):Nat):Int) om) ?_
 rintro _ _ ⟨v0,rfl,_,_,_,m9⟩
 have i1:=m9.unflat1
 refine nilO ⟨⟨cI i1 3,cI i1 3,trivial⟩,?_⟩
 refine qO rfl ?_
 refine sBS i1 #[I 32767,I (-32768),I 0] runUnderlying22 sizeOf3 zeroValue3 ?_
 intro _ _ j1
 refine nilO ⟨⟨cI j1 4,cI j1 4,trivial⟩,?_⟩
 refine qO rfl ?_
 have n9:=(j1.pick 1 rfl)
 refine cX call42 (tape_pick (RdT.flat (hR.up 5 (by rfl))) om n9.flat1 (RdT.flat (RdT.blk (enc:=Go.E.encI) (sz:=1) (xs:=[32767,-32768,0]) (fun _=>(by rfl)) 3 0 rfl rfl rfl om)) om om) ?_
 rintro _ _ ⟨k0,rfl,o9,p9,_,q9⟩
 have k1:=q9.unflat1
 have tf:(k0:Int)=32767\/(k0:Int)=(-32768)\/(k0:Int)=0:=by simpa using o9
 refine nilO ⟨⟨cI k1 4,cI k1 4,trivial⟩,?_⟩
 obtain ⟨r9,s9,t9,u9,uf,v9,w9⟩:=OwnT.elem r0 v0
 refine qY (.pointer (some ⟨s9,t9+(v0).toNat*1,none⟩)) rfl (fun w _=>Y_idx (a:=c0) (i:=v0) (len:=(0+s0.weights.n)) (cap:=d0) rfl runUnderlying22 sizeOf3 kr kr v9) ?_
 refine qO rfl ?_
 refine sStF k1 r0 w9 2 (v0).toNat 0 r9 k0 u9 (I k0) [I k0] sizeOf3 ?_
 intro _ m2 x9 y9
 refine nilO ⟨dA,?_⟩
 refine qN ?_
 refine bN<|tN ?_
 exact ⟨(({s0 with weights:=⟨c0,(0+s0.weights.n),d0,(([]++s0.weights.l).set ((v0).toNat) k0)⟩}:Stage),m2,p9),alA,((y9.picks [4,1,3]).dropAt 3 rfl),om,{hs0.m with weights:=(x9.rdAt (cs:=[m2]) 0 rfl).of_mem mS},⟨(by unfold numB;dsimp only;omega),⟨by have h:=hsB.2.1.1;simp;omega,mem_set (base_any hsB.2.1.2) nb⟩,hsB.2.2.1,hsB.2.2.2.1,up1 hsB.2.2.2.2.1,up1 hsB.2.2.2.2.2.1,up1 hsB.2.2.2.2.2.2⟩⟩
end Go.Proofs.YtmlhcafjelkjfaaGreat
