import Derived.Test.YtmlhcafjelkjfaaGreatP4Ab
import Derived.WalkKit
import Derived.Deep.Quiet
import Derived.KernelRfl
import Derived.Laws.BytesString
import Derived.Laws.Shifts
import Derived.Laws.IdiomStrings
import Derived.Test.YtmlhcafjelkjfaaGreatProg
import Derived.Test.YtmlhcafjelkjfaaGreatP4TGen
import Derived.Test.YtmlhcafjelkjfaaGreatP4TJob
namespace Go.Proofs.YtmlhcafjelkjfaaGreat
open Go Go.E Go.Proofs.Tryz
set_option linter.all false
set_option maxRecDepth 100000
set_option maxHeartbeats 2000000
variable {W w:World} {H:Chunk} {F:List Chunk}
def numS (k:Nat) (z:Int):Prop:=-4611686018427387904-(k:Int)<=z/\z<=4611686018427387904+(k:Int)
theorem numS_mono {k m:Nat} {z:Int} (h:numS k z) (hm:k<=m):numS m z:=by unfold numS at*;omega
def planeS (k:Nat) (q:Plane):Prop:=(numS k q.w/\numS k q.h/\numS k q.max_)/\q.pix.l.length<=64+k/\∀z∈q.pix.l,numS k z
theorem base_mem {k m:Nat} {l:List Int} (h:∀z∈l,numS k z) (hm:k<=m):∀z∈([]:List Int)++l,numS m z:=by
  intro z hz
  rw [List.nil_append] at hz
  exact numS_mono (h z hz) hm
theorem tg_spoilPlane {p:Nat} {a:Option Addr} {n k:Nat} {i:Int} {xs:List Int} (hR:RdT Go.E.encI 1 [H] a n k xs) (hi:0<=i/\i<=n) (hS:Sat W w ([(p, .cells #[.slice a n k,I i] 81 (0,0))]::H::F)) (p0:Plane) (hp0:Plane.Ok [H] p0) (kk:Nat) (hkk:kk<=100) (hpS:planeS kk p0):
  Calls prog 29 #[Pt p 0, .agg (encPlane p0).toArray] w fun e w'=>∃(q:Plane) (G:Chunk),e= .returned (.agg (encPlane q).toArray)/\(Plane.Ok [G] q)/\(planeS (kk+1) q)/\∃i':Int,(0<=i'/\i'<=n)/\Sat W w' ([(p, .cells #[.slice a n k,I i'] 81 (0,0))]::G::H::F):=by
 have hl_p0_pix:=hp0.pix.le;have hn_p0_pix:=hp0.pix.len
 have hle:=hR.le
 obtain ⟨⟨hpw,hph,hpm⟩,hp2,hp3⟩:=hpS;unfold numS at hpw hph hpm
 refine callsA 67 func29 rfl<|sR<|sBox hS (.agg (encPlane p0).toArray) (encPlane p0).toArray fun e0 _ g1=>sAlloc g1 zeroValue38 fun r0 _ h1=>zS<|sBS h1 #[] runUnderlying22 sizeOf3 zeroValue3 fun i1 _ x0=>pu1<|sL x0 2 3 (.slice p0.pix.a p0.pix.n p0.pix.k) (isAgg22 _)<|sApp (nb:=8) x0 (OwnT.blk (enc:=Go.E.encI) (sz:=1) (b:=i1) (c:=#[]) (E:=3) (xs:=[]) fR 0 rfl rfl rfl om) 0 (hp0.pix.up 4 rfl) underlying22 (i:=Tryz.t3) kr fR fun a0 b0 f0 _ d0 k1=>pu1 ?_
 refine tW k1 2 3 (.slice a0 (0+p0.pix.n) b0) sizeOf22 fun _ l1=>nT<|cutA (γ:=Plane×Chunk×Int) (fun ⟨q,G1,itc⟩=>[(3,Pt e0 0),(4,Pt r0 0)]) (fun ⟨q,G1,itc⟩ w=>Sat W w ([(p, .cells #[.slice a n k,I itc] 81 (0,0))]::[(e0, .cells (encPlane q).toArray 38 (0,0))]::[(r0, .cells #[I 0,I 0,I 0,nS] 38 (0,0))]::G1::H::F)/\(0<=itc/\itc<=n)/\Plane.Ok [G1] q/\planeS (kk+1) q) ?_ ?_
 rotate_left
 ·rintro ⟨q,G1,itc⟩ ρ _ ⟨y0,hitc,hqok,hqS⟩
  exact sR<|lA y0 1 0 4 (isAgg38 _) (sizeOf38 _)<|sT y0 2 0 (.agg (encPlane q).toArray) (encPlane q) (encPlane q).toArray sizeOf38 fun _ z0=>zE<|retN (vs:=[.agg (encPlane q).toArray]) rfl (.cons (.cell _ _ _ _ kr (lvA z0 2 0 (encPlane q) (isAgg38 _) (sizeOf38 _) rfl rfl rfl)) .nil)<|⟨q,G1,rfl,hqok,hqS,_,om,(z0.drops [1,1])⟩
 refine sR<|pu1 ?_
 have n1:=(l1.pick 3 rfl)
 refine cX call15 (tape_next (RdT.flat (hR.up 3 (by rfl))) om n1.flat1 6 om) ?_
 rintro _ _ ⟨k0,rfl,_,l0,_,o1⟩
 have c0:=o1.unflat1
 refine nT<|blockE<|sR<|pu2<|nT<|cE k0 0 (fun q1=>?_) (fun q1=>?_)
 ·refine rE<|pu2<|sL c0 3 0 (I p0.w) (isAgg3 _)<|sAdd p0.w 1<|sBS c0 #[I 0,I (p0.w+1),I (-1),I 129] runUnderlying22 sizeOf3 zeroValue3 fun _ _ r1=>?_
  have s1:=(r1.pick 1 rfl)
  refine cX call42 (tape_pick (RdT.flat (hR.up 4 (by rfl))) om s1.flat1 (RdT.flat (RdT.blk (enc:=Go.E.encI) (sz:=1) (xs:=[0,(p0.w+1),-1,129]) (fun _=>(by rfl)) 4 0 rfl rfl rfl om)) om om) ?_
  rintro _ _ ⟨i0,rfl,t1,u1,_,v1⟩
  have w1:=v1.unflat1
  have u4:(i0:Int)=0\/(i0:Int)=(p0.w+1)\/(i0:Int)=(-1)\/(i0:Int)=129:=by simpa using t1
  refine pu1<|tW w1 4 0 (I i0) sizeOf3 fun _ x1=>nB ?_
  exact ⟨((⟨i0,p0.h,p0.max_,⟨a0,(0+p0.pix.n),b0,([]++p0.pix.l)⟩⟩:Plane),f0,u1),alA,((x1.picks [3,4,2]).dropAt 3 rfl),om,⟨(d0.rdAt (cs:=[f0]) 0 rfl)⟩,⟨⟨by unfold numS;dsimp only;omega,by unfold numS;dsimp only;omega,by unfold numS;dsimp only;omega⟩,⟨by simp;omega,(base_mem hp3 om)⟩⟩⟩
 refine sR<|pu2<|nT<|cE k0 1 (fun z1=>?_) (fun z1=>?_)
 ·refine rE<|pu2<|sL c0 3 1 (I p0.h) (isAgg3 _)<|sAdd p0.h 1<|sBS c0 #[I 0,I (p0.h+1),I 4611686018427387904] runUnderlying22 sizeOf3 zeroValue3 fun _ _ a2=>?_
  have b2:=(a2.pick 1 rfl)
  refine cX call42 (tape_pick (RdT.flat (hR.up 4 (by rfl))) om b2.flat1 (RdT.flat (RdT.blk (enc:=Go.E.encI) (sz:=1) (xs:=[0,(p0.h+1),4611686018427387904]) (fun _=>(by rfl)) 3 0 rfl rfl rfl om)) om om) ?_
  rintro _ _ ⟨m0,rfl,c2,d2,_,e2⟩
  have f2:=e2.unflat1
  have a5:(m0:Int)=0\/(m0:Int)=(p0.h+1)\/(m0:Int)=4611686018427387904:=by simpa using c2
  refine pu1<|tW f2 4 1 (I m0) sizeOf3 fun _ g2=>nB ?_
  exact ⟨((⟨p0.w,m0,p0.max_,⟨a0,(0+p0.pix.n),b0,([]++p0.pix.l)⟩⟩:Plane),f0,d2),alA,((g2.picks [3,4,2]).dropAt 3 rfl),om,⟨(d0.rdAt (cs:=[f0]) 0 rfl)⟩,⟨⟨by unfold numS;dsimp only;omega,by unfold numS;dsimp only;omega,by unfold numS;dsimp only;omega⟩,⟨by simp;omega,(base_mem hp3 om)⟩⟩⟩
 refine sR<|pu2<|nT<|cE k0 2 (fun i2=>?_) (fun i2=>?_)
 ·refine rE<|pu1<|sBS c0 #[I 0,I 4294967297,I (-1),I 3] runUnderlying22 sizeOf3 zeroValue3 fun _ _ j2=>?_
  have k2:=(j2.pick 1 rfl)
  refine cX call42 (tape_pick (RdT.flat (hR.up 4 (by rfl))) om k2.flat1 (RdT.flat (RdT.blk (enc:=Go.E.encI) (sz:=1) (xs:=[0,4294967297,-1,3]) (fun _=>(by rfl)) 4 0 rfl rfl rfl om)) om om) ?_
  rintro _ _ ⟨j0,rfl,l2,m2,_,n2⟩
  have o2:=n2.unflat1
  have g5:(j0:Int)=0\/(j0:Int)=4294967297\/(j0:Int)=(-1)\/(j0:Int)=3:=by simpa using l2
  refine pu1<|tW o2 4 2 (I j0) sizeOf3 fun _ p2=>nB ?_
  exact ⟨((⟨p0.w,p0.h,j0,⟨a0,(0+p0.pix.n),b0,([]++p0.pix.l)⟩⟩:Plane),f0,m2),alA,((p2.picks [3,4,2]).dropAt 3 rfl),om,⟨(d0.rdAt (cs:=[f0]) 0 rfl)⟩,⟨⟨by unfold numS;dsimp only;omega,by unfold numS;dsimp only;omega,by unfold numS;dsimp only;omega⟩,⟨by simp;omega,(base_mem hp3 om)⟩⟩⟩
 refine sR<|pu2<|nT<|cE k0 3 (fun r2=>?_) (fun r2=>?_)
 ·refine rE<|pu1<|sL c0 3 3 (.slice a0 (0+p0.pix.n) b0) (isAgg22 _)<|sBS c0 #[I 0] runUnderlying22 sizeOf3 zeroValue3 fun _ _ s2=>sApp (nb:=8) s2 d0 2 (RdT.blk (enc:=Go.E.encI) (sz:=1) (xs:=[0]) fR 1 0 rfl rfl rfl om) underlying22 (i:=Tryz.t3) kr fR fun a1 b1 c1 _ t2 u2=>pu1<|tW u2 4 3 (.slice a1 ((0+p0.pix.n)+1) b1) sizeOf22 fun _ v2=>nB ?_
  exact ⟨((⟨p0.w,p0.h,p0.max_,⟨a1,((0+p0.pix.n)+1),b1,(([]++p0.pix.l)++[0])⟩⟩:Plane),c1,l0),alA,((v2.picks [3,4,3]).dropAt 3 rfl),om,⟨(t2.rdAt (cs:=[c1]) 0 rfl)⟩,⟨⟨by unfold numS;dsimp only;omega,by unfold numS;dsimp only;omega,by unfold numS;dsimp only;omega⟩,⟨by simp;omega,mem_snoc (base_mem hp3 om) (by unfold numS;omega)⟩⟩⟩
 refine sR<|pu2<|nT<|cE k0 4 (fun x2=>?_) (fun x2=>?_)
 rotate_left
 ·refine rE<|pu1<|tW c0 3 3 (nS) sizeOf22 fun _ y2=>nB ?_
  have z2:=((y2.picks [3,1]).dropAt 2 rfl)
  have a3:Sat W _ ([(p, .cells #[.slice a n k,I l0] 81 (0,0))]::[(e0, .cells #[I p0.w,I p0.h,I p0.max_,nS] 38 (0,0))]::[(r0, .cells #[I 0,I 0,I 0,nS] 38 (0,0))]::[]::H::F):=Sat.perm (show Sat W _ ([(p, .cells #[.slice a n k,I l0] 81 (0,0))]::[(e0, .cells #[I p0.w,I p0.h,I p0.max_,nS] 38 (0,0))]::[(r0, .cells #[I 0,I 0,I 0,nS] 38 (0,0))]::H::F) from z2) (by simp [Value.cells])
  exact ⟨((⟨p0.w,p0.h,p0.max_,⟨none,0,0,[]⟩⟩:Plane),[],l0),alA,a3,om,⟨RdT.nil (enc:=Go.E.encI) (sz:=1) fR _⟩,⟨⟨by unfold numS;dsimp only;omega,by unfold numS;dsimp only;omega,by unfold numS;dsimp only;omega⟩,⟨by simp,fun z hz=>by cases hz⟩⟩⟩
 refine sR<|pu1<|sL c0 3 3 (.slice a0 (0+p0.pix.n) b0) (isAgg22 _)<|pu2<|nT<|cD ((((0+p0.pix.n):Nat):Int)>0) (fun b3=>?_) (fun b3=>?_)
 rotate_left
 ·refine skipE<|bN<|tN ?_
  exact ⟨((⟨p0.w,p0.h,p0.max_,⟨a0,(0+p0.pix.n),b0,([]++p0.pix.l)⟩⟩:Plane),f0,l0),alA,(c0.picks [2,3,2]),om,⟨(d0.rdAt (cs:=[f0]) 0 rfl)⟩,⟨⟨by unfold numS;dsimp only;omega,by unfold numS;dsimp only;omega,by unfold numS;dsimp only;omega⟩,⟨by simp;omega,(base_mem hp3 om)⟩⟩⟩
 refine drawP [6,13,14,16] [(1,⟨e0,3,none⟩, .slice a0 (0+p0.pix.n) b0),(4,⟨e0,3,none⟩, .slice a0 (0+p0.pix.n) b0),(9,⟨e0,2,none⟩,I p0.max_),(12,⟨e0,2,none⟩,I p0.max_)] (Plan.sts [0,2,3,7,8,11]<|Plan.sts [1]<|Plan.sts [4]<|Plan.sts [5]<|Plan.sts [9]<|Plan.sts [10]<|Plan.sts [12]<| .fk 6 13 (.ef 13<| .ef 14<|Plan.sts [15]<| .ef 16<| .fin) (.ef 6<| .ef 14<|Plan.sts [15]<| .ef 16<| .fin)) rfl kr ⟨cI c0 3,cI c0 3,cI c0 3,cI c0 3,trivial⟩ ?_
 have d1:=c0.drew
 refine qU [0,2,3,7,8,11]<|qLd (.slice a0 (0+p0.pix.n) b0) 0 isAgg22<|qLd (.slice a0 (0+p0.pix.n) b0) 1 isAgg22<|qU [5]<|qLd (I p0.max_) 2 isAgg3<|qAdd p0.max_ 1<|qLd (I p0.max_) 3 isAgg3<|qF ?_ ?_
 ·refine qO rfl<|cX call15 (tape_next (RdT.flat (hR.up 3 (by rfl))) om d1.flat1 (((0+p0.pix.n):Nat):Int) om) ?_
  rintro _ _ ⟨n0,rfl,_,_,_,d3⟩
  have o0:=d3.unflat1
  refine nilO ⟨⟨cI o0 3,cI o0 3,cI o0 3,cI o0 3,trivial⟩,?_⟩
  refine qO rfl<|sBS o0 #[I (-1),I (p0.max_+1),I p0.max_] runUnderlying22 sizeOf3 zeroValue3 fun _ _ s0=>nilO ⟨⟨cI s0 4,cI s0 4,cI s0 4,dI,trivial⟩,?_⟩
  refine qO rfl ?_
  have e3:=(s0.pick 1 rfl)
  refine cX call42 (tape_pick (RdT.flat (hR.up 4 (by rfl))) om e3.flat1 (RdT.flat (RdT.blk (enc:=Go.E.encI) (sz:=1) (xs:=[-1,(p0.max_+1),p0.max_]) (fun _=>(by rfl)) 3 0 rfl rfl rfl om)) om om) ?_
  rintro _ _ ⟨g0,rfl,f3,g3,_,h3⟩
  have t0:=h3.unflat1
  have v5:(g0:Int)=(-1)\/(g0:Int)=(p0.max_+1)\/(g0:Int)=p0.max_:=by simpa using f3
  refine nilO ⟨⟨cI t0 4,cI t0 4,cI t0 4,dI,trivial⟩,?_⟩
  obtain ⟨i3,j3,k3,l3,w5,m3,n3⟩:=OwnT.elem d0 n0
  refine qY (.pointer (some ⟨j3,k3+(n0).toNat*1,none⟩)) rfl (fun w _=>Y_idx (a:=a0) (i:=n0) (len:=(0+p0.pix.n)) (cap:=b0) rfl runUnderlying22 sizeOf3 kr kr m3)<|qO rfl<|sStF t0 d0 n3 2 (n0).toNat 0 i3 g0 l3 (I g0) [I g0] sizeOf3 fun _ e1 o3 p3=>nilO ⟨dA,?_⟩
  refine qN<|bN<|tN ?_
  exact ⟨((⟨p0.w,p0.h,p0.max_,⟨a0,(0+p0.pix.n),b0,(([]++p0.pix.l).set ((n0).toNat) g0)⟩⟩:Plane),e1,g3),alA,((p3.picks [3,4,2]).dropAt 3 rfl),om,⟨(o3.rdAt (cs:=[e1]) 0 rfl)⟩,⟨⟨by unfold numS;dsimp only;omega,by unfold numS;dsimp only;omega,by unfold numS;dsimp only;omega⟩,⟨by simp;omega,mem_set (base_mem hp3 om) (by unfold numS;omega)⟩⟩⟩
 refine qO rfl<|sBS d1 #[I (-1),I (p0.max_+1),I p0.max_] runUnderlying22 sizeOf3 zeroValue3 fun _ _ u0=>nilO ⟨⟨cI u0 4,cI u0 4,cI u0 4,dI,trivial⟩,?_⟩
 refine qO rfl ?_
 have r3:=(u0.pick 1 rfl)
 refine cX call15 (tape_next (RdT.flat (hR.up 4 (by rfl))) om r3.flat1 (((0+p0.pix.n):Nat):Int) om) ?_
 rintro _ _ ⟨q0,rfl,_,_,_,s3⟩
 have v0:=s3.unflat1
 refine nilO ⟨⟨cI v0 4,cI v0 4,cI v0 4,dI,trivial⟩,?_⟩
 refine qO rfl<|cX call42 (tape_pick (RdT.flat (hR.up 4 (by rfl))) om v0.flat1 (RdT.flat (RdT.blk (enc:=Go.E.encI) (sz:=1) (xs:=[-1,(p0.max_+1),p0.max_]) (fun _=>(by rfl)) 3 0 rfl rfl rfl om)) om om) ?_
 rintro _ _ ⟨h0,rfl,u3,v3,_,w3⟩
 have w0:=w3.unflat1
 have g6:(h0:Int)=(-1)\/(h0:Int)=(p0.max_+1)\/(h0:Int)=p0.max_:=by simpa using u3
 refine nilO ⟨⟨cI w0 4,cI w0 4,cI w0 4,dI,trivial⟩,?_⟩
 obtain ⟨x3,y3,z3,a4,h6,b4,c4⟩:=OwnT.elem d0 q0
 refine qY (.pointer (some ⟨y3,z3+(q0).toNat*1,none⟩)) rfl (fun w _=>Y_idx (a:=a0) (i:=q0) (len:=(0+p0.pix.n)) (cap:=b0) rfl runUnderlying22 sizeOf3 kr kr b4)<|qO rfl<|sStF w0 d0 c4 2 (q0).toNat 0 x3 h0 a4 (I h0) [I h0] sizeOf3 fun _ f1 d4 e4=>nilO ⟨dA,?_⟩
 refine qN<|bN<|tN ?_
 exact ⟨((⟨p0.w,p0.h,p0.max_,⟨a0,(0+p0.pix.n),b0,(([]++p0.pix.l).set ((q0).toNat) h0)⟩⟩:Plane),f1,v3),alA,((e4.picks [3,4,2]).dropAt 3 rfl),om,⟨(d4.rdAt (cs:=[f1]) 0 rfl)⟩,⟨⟨by unfold numS;dsimp only;omega,by unfold numS;dsimp only;omega,by unfold numS;dsimp only;omega⟩,⟨by simp;omega,mem_set (base_mem hp3 om) (by unfold numS;omega)⟩⟩⟩
theorem Stage.Ok.m {cs cs':List Chunk} {x:Stage} (h:Stage.Ok cs x) (hm:∀p∈cs.flatten,p∈cs'.flatten:=by intro p hp;simp at hp⊢;simp [hp]):Stage.Ok cs' x:=h.of_mem hm
theorem up1 {α:Type} {l:List α} {m k:Nat} {P:Prop} (h:l.length<=m+k/\P):l.length<=m+(k+1)/\P:=⟨by omega,h.2⟩
theorem base_any {α:Type} {P:α->Prop} {l:List α} (h:∀z∈l,P z):∀z∈([]:List α)++l,P z:=by
  intro z hz
  rw [List.nil_append] at hz
  exact h z hz
theorem tg_spoilStage {J:Chunk} {p:Nat} {a:Option Addr} {n k:Nat} {i:Int} {xs:List Int} (hR:RdT Go.E.encI 1 [H] a n k xs) (hi:0<=i/\i<=n) (hS:Sat W w ([(p, .cells #[.slice a n k,I i] 81 (0,0))]::J::H::F)) (s0:Stage) (hs0:Stage.Ok [J] s0) (kk:Nat) (hkk:kk<=100) (hsB:stageB kk s0):
  Calls prog 28 #[Pt p 0, .agg (encStage s0).toArray] w fun e w'=>∃(q:Stage) (G:Chunk),e= .returned (.agg (encStage q).toArray)/\(Stage.Ok [G++J] q)/\(stageB (kk+1) q)/\∃i':Int,(0<=i'/\i'<=n)/\Sat W w' ([(p, .cells #[.slice a n k,I i'] 81 (0,0))]::G::J::H::F):=by
 have hl_s0_weights:=hs0.weights.le;have hn_s0_weights:=hs0.weights.len
 have hl_s0_row:=hs0.row.le;have hn_s0_row:=hs0.row.len
 have hl_s0_col:=hs0.col.le;have hn_s0_col:=hs0.col.len
 have hl_s0_x:=hs0.x.le;have hn_s0_x:=hs0.x.len
 have hl_s0_y:=hs0.y.le;have hn_s0_y:=hs0.y.len
 have hl_s0_ops:=hs0.ops.le;have hn_s0_ops:=hs0.ops.len
 have hle:=hR.le
 obtain ⟨hi0,hi1,hi2,hi3,hi4,hi5,hi6,hi7,hi8,hi9,hi10⟩:=hsB.1;unfold numB at hi0 hi1 hi2 hi3 hi4 hi5 hi6 hi7 hi8 hi9 hi10;have hb_weights:=hsB.2.1.1;have hb_row:=hsB.2.2.1.1;have hb_col:=hsB.2.2.2.1.1;have hb_x:=hsB.2.2.2.2.1.1;have hb_y:=hsB.2.2.2.2.2.1.1;have hb_ops:=hsB.2.2.2.2.2.2.1
 refine callsA 137 func28 rfl ?_
 refine sR ?_
 refine sBox hS (.agg (encStage s0).toArray) (encStage s0).toArray ?_
 intro w0 _ o2
 refine sAlloc o2 zeroValue53 ?_
 intro l1 _ p2
 refine nT ?_
 refine cutA (γ:=Stage×Chunk×Int) (fun ⟨q,G1,itc⟩=>[(3,Pt w0 0),(4,Pt l1 0)]) (fun ⟨q,G1,itc⟩ w=>Sat W w (G1::[(p, .cells #[.slice a n k,I itc] 81 (0,0))]::[(w0, .cells (encStage q).toArray 53 (0,0))]::[(l1, .cells (encStage zStage).toArray 53 (0,0))]::J::H::F)/\(0<=itc/\itc<=n)/\Stage.Ok [G1++J] q/\stageB (kk+1) q) ?_ ?_
 rotate_left
 ·rintro ⟨q,G1,itc⟩ ρ _ ⟨m1,hitc,hqok,hqS⟩
  refine sR ?_
  refine lA m1 2 0 18 (isAgg53 _) (sizeOf53 _) ?_
  refine sT m1 3 0 (.agg (encStage q).toArray) (encStage q) (encStage q).toArray sizeOf53 ?_
  intro _ n1
  refine zE<|retN (vs:=[.agg (encStage q).toArray]) rfl (.cons (.cell _ _ _ _ kr (lvA n1 3 0 (encStage q) (isAgg53 _) (sizeOf53 _) rfl rfl rfl)) .nil) ?_
  exact ⟨q,G1,rfl,hqok,hqS,_,om,((n1.pick 1 rfl).drops [2,2])⟩
 refine sR<|pu1 ?_
 have r2:=(p2.pick 2 rfl)
 refine cX call15 (tape_next (RdT.flat (hR.up 3 (by rfl))) om r2.flat1 14 om) ?_
 rintro _ _ ⟨b0,rfl,_,o1,_,s2⟩
 have a0:=s2.unflat1
 refine nT<|blockE<|sR<|pu2<|nT ?_
 refine cE b0 0 (fun t2=>?_) (fun t2=>?_)
 ·refine rE<|pu1 ?_
  refine cX call15 (tape_next (RdT.flat (hR.up 3 (by rfl))) om a0.flat1 8 om) ?_
  rintro _ _ ⟨q1,rfl,_,u2,_,v2⟩
  have w2:=v2.unflat1
  refine pu1 ?_
  refine tW w2 2 0 (I q1) sizeOf3 ?_
  intro _ x2
  refine nB ?_
  have y2:=(x2.picks [2,1])
  exact ⟨(({s0 with kind:=q1}:Stage),[],u2),alA,(Sat.nilc y2),om,{hs0.m with},⟨(by unfold numB;dsimp only;omega),hsB.2.1,hsB.2.2.1,hsB.2.2.2.1,up1 hsB.2.2.2.2.1,up1 hsB.2.2.2.2.2.1,up1 hsB.2.2.2.2.2.2⟩⟩
 refine sR<|pu2<|nT ?_
 refine cE b0 1 (fun a3=>?_) (fun a3=>?_)
 ·refine rE<|pu1 ?_
  refine sBS a0 #[I (-1),I 0,I 1,I 2,I 15,I 16] runUnderlying22 sizeOf3 zeroValue3 ?_
  intro _ _ b3
  have c3:=(b3.pick 1 rfl)
  refine cX call42 (tape_pick (RdT.flat (hR.up 4 (by rfl))) om c3.flat1 (RdT.flat (RdT.blk (enc:=Go.E.encI) (sz:=1) (xs:=[-1,0,1,2,15,16]) (fun _=>(by rfl)) 6 0 rfl rfl rfl om)) om om) ?_
  rintro _ _ ⟨e0,rfl,d3,e3,_,f3⟩
  have g3:=f3.unflat1
  have qa:(e0:Int)=(-1)\/(e0:Int)=0\/(e0:Int)=1\/(e0:Int)=2\/(e0:Int)=15\/(e0:Int)=16:=by simpa using d3
  refine pu1 ?_
  refine tW g3 3 1 (I e0) sizeOf3 ?_
  intro _ h3
  refine nB ?_
  have i3:=((h3.picks [3,1]).dropAt 2 rfl)
  exact ⟨(({s0 with a:=e0}:Stage),[],e3),alA,(Sat.nilc i3),om,{hs0.m with},⟨(by unfold numB;dsimp only;omega),hsB.2.1,hsB.2.2.1,hsB.2.2.2.1,up1 hsB.2.2.2.2.1,up1 hsB.2.2.2.2.2.1,up1 hsB.2.2.2.2.2.2⟩⟩
 refine sR<|pu2<|nT ?_
 refine cE b0 2 (fun k3=>?_) (fun k3=>?_)
 ·refine rE<|pu1 ?_
  refine sBS a0 #[I (-2),I (-1),I 0,I 1,I 16] runUnderlying22 sizeOf3 zeroValue3 ?_
  intro _ _ l3
  have m3:=(l3.pick 1 rfl)
  refine cX call42 (tape_pick (RdT.flat (hR.up 4 (by rfl))) om m3.flat1 (RdT.flat (RdT.blk (enc:=Go.E.encI) (sz:=1) (xs:=[-2,-1,0,1,16]) (fun _=>(by rfl)) 5 0 rfl rfl rfl om)) om om) ?_
  rintro _ _ ⟨f0,rfl,n3,o3,_,p3⟩
  have q3:=p3.unflat1
  have wa:(f0:Int)=(-2)\/(f0:Int)=(-1)\/(f0:Int)=0\/(f0:Int)=1\/(f0:Int)=16:=by simpa using n3
  refine pu1 ?_
  refine tW q3 3 2 (I f0) sizeOf3 ?_
  intro _ r3
  refine nB ?_
  have s3:=((r3.picks [3,1]).dropAt 2 rfl)
  exact ⟨(({s0 with b:=f0}:Stage),[],o3),alA,(Sat.nilc s3),om,{hs0.m with},⟨(by unfold numB;dsimp only;omega),hsB.2.1,hsB.2.2.1,hsB.2.2.2.1,up1 hsB.2.2.2.2.1,up1 hsB.2.2.2.2.2.1,up1 hsB.2.2.2.2.2.2⟩⟩
 refine sR<|pu2<|nT ?_
 refine cE b0 3 (fun v3=>?_) (fun v3=>?_)
 ·refine rE<|pu1 ?_
  refine cX call15 (tape_next (RdT.flat (hR.up 3 (by rfl))) om a0.flat1 6 om) ?_
  rintro _ _ ⟨y0,rfl,_,_,_,w3⟩
  have x3:=w3.unflat1
  refine sSub y0 1 ?_
  refine pu1 ?_
  refine sBS x3 #[I 0,I 5,I (-1),I 70000] runUnderlying22 sizeOf3 zeroValue3 ?_
  intro _ _ y3
  have z3:=(y3.pick 1 rfl)
  refine cX call42 (tape_pick (RdT.flat (hR.up 4 (by rfl))) om z3.flat1 (RdT.flat (RdT.blk (enc:=Go.E.encI) (sz:=1) (xs:=[0,5,-1,70000]) (fun _=>(by rfl)) 4 0 rfl rfl rfl om)) om om) ?_
  rintro _ _ ⟨l0,rfl,a4,b4,_,c4⟩
  have d4:=c4.unflat1
  have gb:(l0:Int)=0\/(l0:Int)=5\/(l0:Int)=(-1)\/(l0:Int)=70000:=by simpa using a4
  refine pu2 ?_
  refine tW d4 3 4 (.agg #[I (y0-1),I l0]) sizeOf49 ?_
  intro _ e4
  refine nB ?_
  have f4:=((e4.picks [3,1]).dropAt 2 rfl)
  exact ⟨(({s0 with edgePolicy:=(y0-1),edgeFill:=l0}:Stage),[],b4),alA,(Sat.nilc f4),om,{hs0.m with},⟨(by unfold numB;dsimp only;omega),hsB.2.1,hsB.2.2.1,hsB.2.2.2.1,up1 hsB.2.2.2.2.1,up1 hsB.2.2.2.2.2.1,up1 hsB.2.2.2.2.2.2⟩⟩
 refine sR<|pu2<|nT ?_
 refine cE b0 4 (fun h4=>?_) (fun h4=>?_)
 ·refine rE<|pu1 ?_
  refine sBS a0 #[I 0,I 1,I 3,I 10,I 4611686018427387904] runUnderlying22 sizeOf3 zeroValue3 ?_
  intro _ _ i4
  have j4:=(i4.pick 1 rfl)
  refine cX call42 (tape_pick (RdT.flat (hR.up 4 (by rfl))) om j4.flat1 (RdT.flat (RdT.blk (enc:=Go.E.encI) (sz:=1) (xs:=[0,1,3,10,4611686018427387904]) (fun _=>(by rfl)) 5 0 rfl rfl rfl om)) om om) ?_
  rintro _ _ ⟨g0,rfl,k4,l4,_,m4⟩
  have n4:=m4.unflat1
  have mb:(g0:Int)=0\/(g0:Int)=1\/(g0:Int)=3\/(g0:Int)=10\/(g0:Int)=4611686018427387904:=by simpa using k4
  refine pu1 ?_
  refine tW n4 3 6 (I g0) sizeOf3 ?_
  intro _ o4
  refine nB ?_
  have p4:=((o4.picks [3,1]).dropAt 2 rfl)
  exact ⟨(({s0 with kW:=g0}:Stage),[],l4),alA,(Sat.nilc p4),om,{hs0.m with},⟨(by unfold numB;dsimp only;omega),hsB.2.1,hsB.2.2.1,hsB.2.2.2.1,up1 hsB.2.2.2.2.1,up1 hsB.2.2.2.2.2.1,up1 hsB.2.2.2.2.2.2⟩⟩
 refine sR<|pu2<|nT ?_
 refine cE b0 5 (fun r4=>?_) (fun r4=>?_)
 ·refine rE<|pu2 ?_
  refine cX call15 (tape_next (RdT.flat (hR.up 3 (by rfl))) om a0.flat1 10 om) ?_
  rintro _ _ ⟨s4,rfl,_,_,_,t4⟩
  refine cX call71 (tg_weights (RdT.flat (hR.up 3 (by rfl))) om (Sat.flat1 (Sat.unflat1 t4)) s4 om) ?_
  rintro _ _ ⟨r1,s1,t1,v4,w4,rfl,z0,u1,x4,_,y4⟩
  have z4:=y4.unflat2
  have hn_zs_115:=z0.len;have hl_zs_115:=z0.le
  refine pu1 ?_
  refine tW z4 3 8 (.slice r1 s1 t1) sizeOf22 ?_
  intro _ a5
  refine nB ?_
  exact ⟨(({s0 with weights:=⟨r1,s1,t1,v4⟩}:Stage),w4,x4),alA,(a5.picks [3,1,2]),om,{hs0.m with weights:=z0.of_mem mS},⟨(by unfold numB;dsimp only;omega),⟨by have h:=u1.1;dsimp only;omega,u1.2⟩,hsB.2.2.1,hsB.2.2.2.1,up1 hsB.2.2.2.2.1,up1 hsB.2.2.2.2.2.1,up1 hsB.2.2.2.2.2.2⟩⟩
 refine sR<|pu2<|nT ?_
 refine cE b0 6 (fun c5=>?_) (fun c5=>?_)
 ·refine rE<|pu2 ?_
  refine cX call15 (tape_next (RdT.flat (hR.up 3 (by rfl))) om a0.flat1 11 om) ?_
  rintro _ _ ⟨d5,rfl,_,_,_,e5⟩
  refine cX call71 (tg_weights (RdT.flat (hR.up 3 (by rfl))) om (Sat.flat1 (Sat.unflat1 e5)) d5 om) ?_
  rintro _ _ ⟨v1,w1,x1,g5,h5,rfl,a1,y1,i5,_,j5⟩
  have k5:=j5.unflat2
  have hn_zs_138:=a1.len;have hl_zs_138:=a1.le
  refine pu1 ?_
  refine tW k5 3 9 (.slice v1 w1 x1) sizeOf22 ?_
  intro _ l5
  refine nB ?_
  exact ⟨(({s0 with row:=⟨v1,w1,x1,g5⟩}:Stage),h5,i5),alA,(l5.picks [3,1,2]),om,{hs0.m with row:=a1.of_mem mS},⟨(by unfold numB;dsimp only;omega),hsB.2.1,⟨by have h:=y1.1;dsimp only;omega,y1.2⟩,hsB.2.2.2.1,up1 hsB.2.2.2.2.1,up1 hsB.2.2.2.2.2.1,up1 hsB.2.2.2.2.2.2⟩⟩
 refine sR<|pu2<|nT ?_
 refine cE b0 7 (fun n5=>?_) (fun n5=>?_)
 ·refine rE<|pu1 ?_
  refine sBS a0 #[I 0,I (-1),I 25,I 24] runUnderlying22 sizeOf3 zeroValue3 ?_
  intro _ _ o5
  have p5:=(o5.pick 1 rfl)
  refine cX call42 (tape_pick (RdT.flat (hR.up 4 (by rfl))) om p5.flat1 (RdT.flat (RdT.blk (enc:=Go.E.encI) (sz:=1) (xs:=[0,-1,25,24]) (fun _=>(by rfl)) 4 0 rfl rfl rfl om)) om om) ?_
  rintro _ _ ⟨m0,rfl,q5,_,_,r5⟩
  have s5:=r5.unflat1
  have ic:(m0:Int)=0\/(m0:Int)=(-1)\/(m0:Int)=25\/(m0:Int)=24:=by simpa using q5
  refine pu1 ?_
  refine sBS s5 #[I 0,I 25,I 3] runUnderlying22 sizeOf3 zeroValue3 ?_
  intro _ _ t5
  have u5:=(t5.pick 1 rfl)
  refine cX call42 (tape_pick (RdT.flat (hR.up 5 (by rfl))) om u5.flat1 (RdT.flat (RdT.blk (enc:=Go.E.encI) (sz:=1) (xs:=[0,25,3]) (fun _=>(by rfl)) 3 0 rfl rfl rfl om)) om om) ?_
  rintro _ _ ⟨p0,rfl,v5,w5,_,x5⟩
  have y5:=x5.unflat1
  have nc:(p0:Int)=0\/(p0:Int)=25\/(p0:Int)=3:=by simpa using v5
  refine pu1 ?_
  refine tW y5 4 11 (I m0) sizeOf3 ?_
  intro _ z5
  refine pu1 ?_
  refine tW z5 4 12 (I p0) sizeOf3 ?_
  intro _ a6
  refine nB ?_
  have b6:=((a6.picks [4,1]).drops [2,2])
  exact ⟨(({s0 with shift:=m0,shift2:=p0}:Stage),[],w5),alA,(Sat.nilc b6),om,{hs0.m with},⟨(by unfold numB;dsimp only;omega),hsB.2.1,hsB.2.2.1,hsB.2.2.2.1,up1 hsB.2.2.2.2.1,up1 hsB.2.2.2.2.2.1,up1 hsB.2.2.2.2.2.2⟩⟩
 refine sR<|pu2<|nT ?_
 refine cE b0 8 (fun d6=>?_) (fun d6=>?_)
 ·refine rE ?_
  refine sBS a0 #[] runUnderlying50 sizeOf122 zeroValue122 ?_
  intro e6 _ z1
  refine pu1 ?_
  refine sL z1 3 13 (.slice s0.x.a s0.x.n s0.x.k) (isAgg50 _) ?_
  refine sApp (nb:=32) z1 (OwnT.blk (enc:=encTap) (sz:=2) (b:=e6) (c:=#[]) (E:=122) (xs:=[]) fR 0 rfl rfl rfl om) 0 (hs0.x.up 4 rfl) underlying50 (i:=Tryz.t122) kr fR ?_
  intro _ _ _ _ g6 h6
  refine pu1 ?_
  refine sBS h6 #[I (-129),I 0,I 256,I 257] runUnderlying22 sizeOf3 zeroValue3 ?_
  intro _ _ i6
  have j6:=(i6.pick 2 rfl)
  refine cX call42 (tape_pick (RdT.flat (hR.up 5 (by rfl))) om j6.flat1 (RdT.flat (RdT.blk (enc:=Go.E.encI) (sz:=1) (xs:=[-129,0,256,257]) (fun _=>(by rfl)) 4 0 rfl rfl rfl om)) om om) ?_
  rintro _ _ ⟨h0,rfl,k6,_,_,l6⟩
  have m6:=l6.unflat1
  have ad:(h0:Int)=(-129)\/(h0:Int)=0\/(h0:Int)=256\/(h0:Int)=257:=by simpa using k6
  refine pu2 ?_
  refine sBS m6 #[I 0,I 1,I 8,I 9] runUnderlying22 sizeOf3 zeroValue3 ?_
  intro _ _ n6
  have o6:=(n6.pick 1 rfl)
  refine cX call42 (tape_pick (RdT.flat (hR.up 6 (by rfl))) om o6.flat1 (RdT.flat (RdT.blk (enc:=Go.E.encI) (sz:=1) (xs:=[0,1,8,9]) (fun _=>(by rfl)) 4 0 rfl rfl rfl om)) om om) ?_
  rintro _ _ ⟨q0,rfl,p6,_,_,q6⟩
  have r6:=q6.unflat1
  have gd:(q0:Int)=0\/(q0:Int)=1\/(q0:Int)=8\/(q0:Int)=9:=by simpa using p6
  refine cX call71 (tg_weights (RdT.flat (hR.up 6 (by rfl))) om r6.flat1 q0 om) ?_
  rintro _ _ ⟨b1,c1,d1,a2,s6,rfl,e1,b2,t6,_,u6⟩
  have v6:=u6.unflat2
  have hn_zs_219:=e1.len;have hl_zs_219:=e1.le
  refine pu1 ?_
  refine sBS v6 #[I h0, .slice b1 c1 d1] runUnderlying50 sizeOf122 zeroValue122 ?_
  intro _ _ w6
  refine sApp (nb:=32) w6 g6 5 (RdT.blk (enc:=encTap) (sz:=2) (xs:=[(⟨h0,⟨b1,c1,d1,a2⟩⟩:Tap)]) fR 1 0 rfl rfl rfl om) underlying50 (i:=Tryz.t122) kr fR ?_
  intro c2 d2 e2 _ x6 y6
  refine pu1 ?_
  refine tW y6 7 13 (.slice c2 ((0+s0.x.n)+1) d2) sizeOf50 ?_
  intro _ z6
  refine nB ?_
  have a7:=((z6.picks [7,2,3,6]).drops [4,4,4])
  exact ⟨(({s0 with x:=⟨c2,((0+s0.x.n)+1),d2,(([]++s0.x.l)++[(⟨h0,⟨b1,c1,d1,a2⟩⟩:Tap)])⟩}:Stage),(e2++s6),t6),alA,a7.merge2,om,{hs0.m with x:=(x6.rdAt (cs:=[e2]) 0 rfl).of_mem mS,xD:=(by
    intro z hz
    rcases List.mem_append.1 hz with h|h
    ·rw [List.nil_append] at h;exact (hs0.xD z h).of_mem mS
    ·simp only [List.mem_singleton] at h;rw [h];exact ⟨e1.of_mem mS⟩)},⟨(by unfold numB;dsimp only;omega),hsB.2.1,hsB.2.2.1,hsB.2.2.2.1,⟨by have h:=hsB.2.2.2.2.1.1;simp;omega,mem_snoc (base_any hsB.2.2.2.2.1.2) ⟨nb,by have h:=b2.1;dsimp only;omega,b2.2⟩⟩,up1 hsB.2.2.2.2.2.1,up1 hsB.2.2.2.2.2.2⟩⟩
 refine sR<|pu2<|nT ?_
 refine cE b0 9 (fun c7=>?_) (fun c7=>?_)
 ·refine rE<|pu1 ?_
  refine sBS a0 #[I 0,I 1,I 128,I 129] runUnderlying22 sizeOf3 zeroValue3 ?_
  intro _ _ d7
  have e7:=(d7.pick 1 rfl)
  refine cX call42 (tape_pick (RdT.flat (hR.up 4 (by rfl))) om e7.flat1 (RdT.flat (RdT.blk (enc:=Go.E.encI) (sz:=1) (xs:=[0,1,128,129]) (fun _=>(by rfl)) 4 0 rfl rfl rfl om)) om om) ?_
  rintro _ _ ⟨n0,rfl,f7,g7,_,h7⟩
  have i7:=h7.unflat1
  have td:(n0:Int)=0\/(n0:Int)=1\/(n0:Int)=128\/(n0:Int)=129:=by simpa using f7
  refine pu1 ?_
  refine tW i7 3 15 (I n0) sizeOf3 ?_
  intro _ j7
  refine nB ?_
  have k7:=((j7.picks [3,1]).dropAt 2 rfl)
  exact ⟨(({s0 with bins:=n0}:Stage),[],g7),alA,(Sat.nilc k7),om,{hs0.m with},⟨(by unfold numB;dsimp only;omega),hsB.2.1,hsB.2.2.1,hsB.2.2.2.1,up1 hsB.2.2.2.2.1,up1 hsB.2.2.2.2.2.1,up1 hsB.2.2.2.2.2.2⟩⟩
 refine sR<|pu2<|nT ?_
 refine cE b0 10 (fun m7=>?_) (fun m7=>?_)
 ·refine rE ?_
  refine sBS a0 #[] runUnderlying51 sizeOf75 zeroValue75 ?_
  intro n7 _ f2
  refine pu1 ?_
  refine sL f2 3 16 (.slice s0.ops.a s0.ops.n s0.ops.k) (isAgg51 _) ?_
  refine sApp (nb:=16) f2 (OwnT.blk (enc:=encPOp) (sz:=2) (b:=n7) (c:=#[]) (E:=75) (xs:=[]) fR 0 rfl rfl rfl om) 0 (hs0.ops.up 4 rfl) underlying51 (i:=Tryz.t75) kr fR ?_
  intro _ _ _ _ p7 q7
  refine pu1 ?_
  have r7:=(q7.pick 1 rfl)
  refine cX call15 (tape_next (RdT.flat (hR.up 4 (by rfl))) om r7.flat1 14 om) ?_
  rintro _ _ ⟨x0,rfl,_,_,_,s7⟩
  have t7:=s7.unflat1
  refine sSub x0 1 ?_
  refine pu1 ?_
  refine sBS t7 #[I 0,I 1,I 25,I (-5)] runUnderlying22 sizeOf3 zeroValue3 ?_
  intro _ _ u7
  have v7:=(u7.pick 1 rfl)
  refine cX call42 (tape_pick (RdT.flat (hR.up 5 (by rfl))) om v7.flat1 (RdT.flat (RdT.blk (enc:=Go.E.encI) (sz:=1) (xs:=[0,1,25,-5]) (fun _=>(by rfl)) 4 0 rfl rfl rfl om)) om om) ?_
  rintro _ _ ⟨i0,rfl,w7,x7,_,y7⟩
  have z7:=y7.unflat1
  have ie:(i0:Int)=0\/(i0:Int)=1\/(i0:Int)=25\/(i0:Int)=(-5):=by simpa using w7
  refine pu1 ?_
  refine sBS z7 #[I (x0-1),I i0] runUnderlying51 sizeOf75 zeroValue75 ?_
  intro _ _ a8
  refine sApp (nb:=16) a8 p7 3 (RdT.blk (enc:=encPOp) (sz:=2) (xs:=[(⟨(x0-1),i0⟩:POp)]) fR 1 0 rfl rfl rfl om) underlying51 (i:=Tryz.t75) kr fR ?_
  intro g2 h2 i2 _ b8 c8
  refine pu1 ?_
  refine tW c8 5 16 (.slice g2 ((0+s0.ops.n)+1) h2) sizeOf51 ?_
  intro _ d8
  refine nB ?_
  exact ⟨(({s0 with ops:=⟨g2,((0+s0.ops.n)+1),h2,(([]++s0.ops.l)++[(⟨(x0-1),i0⟩:POp)])⟩}:Stage),i2,x7),alA,((d8.picks [5,2,4]).drops [3,3]),om,{hs0.m with ops:=(b8.rdAt (cs:=[i2]) 0 rfl).of_mem mS},⟨(by unfold numB;dsimp only;omega),hsB.2.1,hsB.2.2.1,hsB.2.2.2.1,up1 hsB.2.2.2.2.1,up1 hsB.2.2.2.2.2.1,⟨by have h:=hsB.2.2.2.2.2.2.1;simp;omega,mem_snoc (base_any hsB.2.2.2.2.2.2.2) ⟨nb,nb⟩⟩⟩⟩
 refine sR<|pu2<|nT ?_
 refine cE b0 11 (fun f8=>?_) (fun f8=>?_)
 ·refine rE<|pu1 ?_
  refine sBS a0 #[I 0,I 1,I 4294967296,I 4294967297] runUnderlying22 sizeOf3 zeroValue3 ?_
  intro _ _ g8
  have h8:=(g8.pick 1 rfl)
  refine cX call42 (tape_pick (RdT.flat (hR.up 4 (by rfl))) om h8.flat1 (RdT.flat (RdT.blk (enc:=Go.E.encI) (sz:=1) (xs:=[0,1,4294967296,4294967297]) (fun _=>(by rfl)) 4 0 rfl rfl rfl om)) om om) ?_
  rintro _ _ ⟨o0,rfl,i8,j8,_,k8⟩
  have l8:=k8.unflat1
  have se:(o0:Int)=0\/(o0:Int)=1\/(o0:Int)=4294967296\/(o0:Int)=4294967297:=by simpa using i8
  refine pu1 ?_
  refine tW l8 3 17 (I o0) sizeOf3 ?_
  intro _ m8
  refine nB ?_
  have n8:=((m8.picks [3,1]).dropAt 2 rfl)
  exact ⟨(({s0 with max_:=o0}:Stage),[],j8),alA,(Sat.nilc n8),om,{hs0.m with},⟨(by unfold numB;dsimp only;omega),hsB.2.1,hsB.2.2.1,hsB.2.2.2.1,up1 hsB.2.2.2.2.1,up1 hsB.2.2.2.2.2.1,up1 hsB.2.2.2.2.2.2⟩⟩
 refine sR<|pu2<|nT ?_
 refine cE b0 12 (fun p8=>?_) (fun p8=>?_)
 rotate_left
 ·refine rE<|pu1 ?_
  refine sL a0 2 3 (.bool s0.barrier) (isAgg4 _) ?_
  refine pu2 ?_
  refine tW a0 2 3 (.bool (!s0.barrier)) sizeOf4 ?_
  intro _ q8
  refine nB ?_
  have r8:=(q8.picks [2,1])
  exact ⟨(({s0 with barrier:=(!s0.barrier)}:Stage),[],o1),alA,(Sat.nilc r8),om,{hs0.m with},⟨(by unfold numB;dsimp only;omega),hsB.2.1,hsB.2.2.1,hsB.2.2.2.1,up1 hsB.2.2.2.2.1,up1 hsB.2.2.2.2.2.1,up1 hsB.2.2.2.2.2.2⟩⟩
 refine sR ?_
 refine sBS a0 #[] runUnderlying22 sizeOf3 zeroValue3 ?_
 intro t8 _ j2
 refine pu1 ?_
 refine sL j2 3 8 (.slice s0.weights.a s0.weights.n s0.weights.k) (isAgg22 _) ?_
 refine sApp (nb:=8) j2 (OwnT.blk (enc:=Go.E.encI) (sz:=1) (b:=t8) (c:=#[]) (E:=3) (xs:=[]) fR 0 rfl rfl rfl om) 0 (hs0.weights.up 4 rfl) underlying22 (i:=Tryz.t3) kr fR ?_
 intro c0 d0 k2 _ r0 v8
 refine pu1 ?_
 refine tW v8 3 8 (.slice c0 (0+s0.weights.n) d0) sizeOf22 ?_
 intro _ t0
 refine zS<|pu1 ?_
 refine sL t0 3 8 (.slice c0 (0+s0.weights.n) d0) (isAgg22 _) ?_
 refine pu2<|nT ?_
 refine cD ((((0+s0.weights.n):Nat):Int)>0) (fun w8=>?_) (fun w8=>?_)
 rotate_left
 ·refine skipE<|bN<|tN ?_
  exact ⟨(({s0 with weights:=⟨c0,(0+s0.weights.n),d0,([]++s0.weights.l)⟩}:Stage),k2,o1),alA,(t0.picks [3,2,2]),om,{hs0.m with weights:=(r0.rdAt (cs:=[k2]) 0 rfl).of_mem mS},⟨(by unfold numB;dsimp only;omega),⟨by have h:=hsB.2.1.1;simp;omega,base_any hsB.2.1.2⟩,hsB.2.2.1,hsB.2.2.2.1,up1 hsB.2.2.2.2.1,up1 hsB.2.2.2.2.2.1,up1 hsB.2.2.2.2.2.2⟩⟩
 refine drawP [6,8,9,11] [(1,⟨w0,8,none⟩, .slice c0 (0+s0.weights.n) d0),(4,⟨w0,8,none⟩, .slice c0 (0+s0.weights.n) d0)] (Plan.sts [0,2,3,7]<|Plan.sts [1]<|Plan.sts [4]<|Plan.sts [5]<| .fk 6 8 (.ef 8<| .ef 9<|Plan.sts [10]<| .ef 11<| .fin) (.ef 6<| .ef 9<|Plan.sts [10]<| .ef 11<| .fin)) rfl kr ⟨cI t0 3,cI t0 3,trivial⟩ ?_
 have l2:=t0.drew
 refine qU [0,2,3,7] ?_
 refine qLd (.slice c0 (0+s0.weights.n) d0) 0 isAgg22 ?_
 refine qLd (.slice c0 (0+s0.weights.n) d0) 1 isAgg22 ?_
 refine qU [5] ?_
 refine qF ?_ ?_
 rotate_left
 ·refine qO rfl ?_
  refine sBS l2 #[I 32767,I (-32768),I 0] runUnderlying22 sizeOf3 zeroValue3 ?_
  intro _ _ f1
  refine nilO ⟨⟨cI f1 4,cI f1 4,trivial⟩,?_⟩
  refine qO rfl ?_
  have y8:=(f1.pick 2 rfl)
  refine cX call15 (tape_next (RdT.flat (hR.up 5 (by rfl))) om y8.flat1 (((0+s0.weights.n):Nat):Int) om) ?_
  rintro _ _ ⟨u0,rfl,_,_,_,z8⟩
  have g1:=z8.unflat1
  refine nilO ⟨⟨cI g1 4,cI g1 4,trivial⟩,?_⟩
  refine qO rfl ?_
  refine cX call42 (tape_pick (RdT.flat (hR.up 5 (by rfl))) om g1.flat1 (RdT.flat (RdT.blk (enc:=Go.E.encI) (sz:=1) (xs:=[32767,-32768,0]) (fun _=>(by rfl)) 3 0 rfl rfl rfl om)) om om) ?_
  rintro _ _ ⟨j0,rfl,a9,b9,_,c9⟩
  have h1:=c9.unflat1
  have hf:(j0:Int)=32767\/(j0:Int)=(-32768)\/(j0:Int)=0:=by simpa using a9
  refine nilO ⟨⟨cI h1 4,cI h1 4,trivial⟩,?_⟩
  obtain ⟨d9,e9,f9,g9,jf,h9,i9⟩:=OwnT.elem r0 u0
  refine qY (.pointer (some ⟨e9,f9+(u0).toNat*1,none⟩)) rfl (fun w _=>Y_idx (a:=c0) (i:=u0) (len:=(0+s0.weights.n)) (cap:=d0) rfl runUnderlying22 sizeOf3 kr kr h9) ?_
  refine qO rfl ?_
  refine sStF h1 r0 i9 2 (u0).toNat 0 d9 j0 g9 (I j0) [I j0] sizeOf3 ?_
  intro _ m2 j9 k9
  refine nilO ⟨dA,?_⟩
  refine qN ?_
  refine bN<|tN ?_
  exact ⟨(({s0 with weights:=⟨c0,(0+s0.weights.n),d0,(([]++s0.weights.l).set ((u0).toNat) j0)⟩}:Stage),m2,b9),alA,((k9.picks [4,1,3]).dropAt 3 rfl),om,{hs0.m with weights:=(j9.rdAt (cs:=[m2]) 0 rfl).of_mem mS},⟨(by unfold numB;dsimp only;omega),⟨by have h:=hsB.2.1.1;simp;omega,mem_set (base_any hsB.2.1.2) nb⟩,hsB.2.2.1,hsB.2.2.2.1,up1 hsB.2.2.2.2.1,up1 hsB.2.2.2.2.2.1,up1 hsB.2.2.2.2.2.2⟩⟩
 refine qO rfl ?_
 have m9:=(l2.pick 1 rfl)
 refine cX call15 (tape_next (RdT.flat (hR.up 4 (by rfl))) om m9.flat1 (((0+s0.weights.n):Nat):Int) om) ?_
 rintro _ _ ⟨v0,rfl,_,_,_,n9⟩
 have i1:=n9.unflat1
 refine nilO ⟨⟨cI i1 3,cI i1 3,trivial⟩,?_⟩
 refine qO rfl ?_
 refine sBS i1 #[I 32767,I (-32768),I 0] runUnderlying22 sizeOf3 zeroValue3 ?_
 intro _ _ j1
 refine nilO ⟨⟨cI j1 4,cI j1 4,trivial⟩,?_⟩
 refine qO rfl ?_
 have o9:=(j1.pick 1 rfl)
 refine cX call42 (tape_pick (RdT.flat (hR.up 5 (by rfl))) om o9.flat1 (RdT.flat (RdT.blk (enc:=Go.E.encI) (sz:=1) (xs:=[32767,-32768,0]) (fun _=>(by rfl)) 3 0 rfl rfl rfl om)) om om) ?_
 rintro _ _ ⟨k0,rfl,p9,q9,_,r9⟩
 have k1:=r9.unflat1
 have uf:(k0:Int)=32767\/(k0:Int)=(-32768)\/(k0:Int)=0:=by simpa using p9
 refine nilO ⟨⟨cI k1 4,cI k1 4,trivial⟩,?_⟩
 obtain ⟨s9,t9,u9,v9,vf,w9,x9⟩:=OwnT.elem r0 v0
 refine qY (.pointer (some ⟨t9,u9+(v0).toNat*1,none⟩)) rfl (fun w _=>Y_idx (a:=c0) (i:=v0) (len:=(0+s0.weights.n)) (cap:=d0) rfl runUnderlying22 sizeOf3 kr kr w9) ?_
 refine qO rfl ?_
 refine sStF k1 r0 x9 2 (v0).toNat 0 s9 k0 v9 (I k0) [I k0] sizeOf3 ?_
 intro _ n2 y9 z9
 refine nilO ⟨dA,?_⟩
 refine qN ?_
 refine bN<|tN ?_
 exact ⟨(({s0 with weights:=⟨c0,(0+s0.weights.n),d0,(([]++s0.weights.l).set ((v0).toNat) k0)⟩}:Stage),n2,q9),alA,((z9.picks [4,1,3]).dropAt 3 rfl),om,{hs0.m with weights:=(y9.rdAt (cs:=[n2]) 0 rfl).of_mem mS},⟨(by unfold numB;dsimp only;omega),⟨by have h:=hsB.2.1.1;simp;omega,mem_set (base_any hsB.2.1.2) nb⟩,hsB.2.2.1,hsB.2.2.2.1,up1 hsB.2.2.2.2.1,up1 hsB.2.2.2.2.2.1,up1 hsB.2.2.2.2.2.2⟩⟩
end Go.Proofs.YtmlhcafjelkjfaaGreat
