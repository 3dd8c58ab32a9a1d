import Derived.WalkKit
import Derived.Deep.Quiet
import Derived.KernelRfl
import Derived.Laws.BytesString
import Derived.Laws.Shifts
import Derived.Laws.IdiomStrings
import Derived.OpenShut
import Derived.Test.YtdingplbadblpaaGreatProg
import Derived.Shelf.SortG.Plain
import Derived.Shelf.SortG.SortNone
import Derived.Shelf.SlicesG.CompactI
import Derived.Test.YtdingplbadblpaaGreatR1Q3Lu
namespace Go.Proofs.YtdingplbadblpaaGreat
open Go Go.E Go.Proofs.Tryz
set_option linter.all false
set_option maxRecDepth 100000
set_option maxHeartbeats 2000000
variable {W w:World} {H:Chunk} {F:List Chunk}
def numS (k:Nat) (z:Int):Prop:=-4611686018427387904-(k:Int)<=z/\z<=4611686018427387904+(k:Int)
theorem numS_mono {k m:Nat} {z:Int} (h:numS k z) (hm:k<=m):numS m z:=by unfold numS at*;omega
def planeS (k:Nat) (q:Plane):Prop:=(numS k q.w/\numS k q.h/\numS k q.max_)/\q.pix.l.length<=64+k/\∀z∈q.pix.l,numS k z
theorem base_mem {k m:Nat} {l:List Int} (h:∀z∈l,numS k z) (hm:k<=m):∀z∈([]:List Int)++l,numS m z:=by
  intro z hz
  rw [List.nil_append] at hz
  exact numS_mono (h z hz) hm
theorem tg_spoilPlane {p:Nat} {a:Option Addr} {n k:Nat} {i:Int} {xs:List Int} (hR:RdT Go.E.encI 1 [H] a n k xs) (hi:0<=i/\i<=n) (hS:Sat W w ([(p, .cells #[.slice a n k,I i] 85 (0,0))]::H::F)) (p0:Plane) (hp0:Plane.Ok [H] p0) (kk:Nat) (hkk:kk<=100) (hpS:planeS kk p0):
  Calls prog 49 #[Pt p 0, .agg (encPlane p0).toArray] w fun e w'=>∃(q:Plane) (G:Chunk),e= .returned (.agg (encPlane q).toArray)/\(Plane.Ok [G] q)/\(planeS (kk+1) q)/\∃i':Int,(0<=i'/\i'<=n)/\Sat W w' ([(p, .cells #[.slice a n k,I i'] 85 (0,0))]::G::H::F):=by
 have hl_p0_pix:=hp0.pix.le;have hn_p0_pix:=hp0.pix.len
 have hle:=hR.le
 obtain ⟨⟨hpw,hph,hpm⟩,hp2,hp3⟩:=hpS;unfold numS at hpw hph hpm
 refine callsA 67 func49 rfl<|sR<|sBox hS (.agg (encPlane p0).toArray) (encPlane p0).toArray fun e0 _ g1=>sAlloc g1 zeroValue87 fun r0 _ h1=>zS<|sBS h1 #[] runUnderlying22 sizeOf3 zeroValue3 fun i1 _ x0=>pu1<|sL x0 2 3 (.slice p0.pix.a p0.pix.n p0.pix.k) (isAgg22 _)<|sApp (nb:=8) x0 (OwnT.blk (enc:=Go.E.encI) (sz:=1) (b:=i1) (c:=#[]) (E:=3) (xs:=[]) fR 0 rfl rfl rfl om) 0 (hp0.pix.up 4 rfl) underlying22 (i:=Tryz.t3) kr fR fun a0 b0 f0 _ d0 k1=>pu1 ?_
 refine tW k1 2 3 (.slice a0 (0+p0.pix.n) b0) sizeOf22 fun _ l1=>nT<|cutA (γ:=Plane×Chunk×Int) (fun ⟨q,G1,itc⟩=>[(3,Pt e0 0),(4,Pt r0 0)]) (fun ⟨q,G1,itc⟩ w=>Sat W w ([(p, .cells #[.slice a n k,I itc] 85 (0,0))]::[(e0, .cells (encPlane q).toArray 87 (0,0))]::[(r0, .cells #[I 0,I 0,I 0,nS] 87 (0,0))]::G1::H::F)/\(0<=itc/\itc<=n)/\Plane.Ok [G1] q/\planeS (kk+1) q) ?_ ?_
 rotate_left
 ·rintro ⟨q,G1,itc⟩ ρ _ ⟨y0,hitc,hqok,hqS⟩
  exact sR<|lA y0 1 0 4 (isAgg87 _) (sizeOf87 _)<|sT y0 2 0 (.agg (encPlane q).toArray) (encPlane q) (encPlane q).toArray sizeOf87 fun _ z0=>zE<|retN (vs:=[.agg (encPlane q).toArray]) rfl (.cons (.cell _ _ _ _ kr (lvA z0 2 0 (encPlane q) (isAgg87 _) (sizeOf87 _) rfl rfl rfl)) .nil)<|⟨q,G1,rfl,hqok,hqS,_,om,(z0.drops [1,1])⟩
 refine sR<|pu1 ?_
 have n1:=(l1.pick 3 rfl)
 refine cX call13 (tape_next (RdT.flat (hR.up 3 (by rfl))) om n1.flat1 6 om) ?_
 rintro _ _ ⟨k0,rfl,_,l0,_,o1⟩
 have c0:=o1.unflat1
 refine nT<|blockE<|sR<|pu2<|nT<|cE k0 0 (fun q1=>?_) (fun q1=>?_)
 ·refine rE<|pu2<|sL c0 3 0 (I p0.w) (isAgg3 _)<|sAdd p0.w 1<|sBS c0 #[I 0,I (p0.w+1),I (-1),I 129] runUnderlying22 sizeOf3 zeroValue3 fun _ _ r1=>?_
  have s1:=(r1.pick 1 rfl)
  refine cX call38 (tape_pick (RdT.flat (hR.up 4 (by rfl))) om s1.flat1 (RdT.flat (RdT.blk (enc:=Go.E.encI) (sz:=1) (xs:=[0,(p0.w+1),-1,129]) (fun _=>(by rfl)) 4 0 rfl rfl rfl om)) om om) ?_
  rintro _ _ ⟨i0,rfl,t1,u1,_,v1⟩
  have w1:=v1.unflat1
  have v4:(i0:Int)=0\/(i0:Int)=(p0.w+1)\/(i0:Int)=(-1)\/(i0:Int)=129:=by simpa using t1
  refine pu1<|tW w1 4 0 (I i0) sizeOf3 fun _ x1=>nB ?_
  exact ⟨((⟨i0,p0.h,p0.max_,⟨a0,(0+p0.pix.n),b0,([]++p0.pix.l)⟩⟩:Plane),f0,u1),alA,((x1.picks [3,4,2]).dropAt 3 rfl),om,⟨(d0.rdAt (cs:=[f0]) 0 rfl)⟩,⟨⟨by unfold numS;dsimp only;omega,by unfold numS;dsimp only;omega,by unfold numS;dsimp only;omega⟩,⟨by simp;omega,(base_mem hp3 om)⟩⟩⟩
 refine sR<|pu2<|nT<|cE k0 1 (fun z1=>?_) (fun z1=>?_)
 ·refine rE<|pu2<|sL c0 3 1 (I p0.h) (isAgg3 _)<|sAdd p0.h 1<|sBS c0 #[I 0,I (p0.h+1),I 4611686018427387904] runUnderlying22 sizeOf3 zeroValue3 fun _ _ a2=>?_
  have b2:=(a2.pick 1 rfl)
  refine cX call38 (tape_pick (RdT.flat (hR.up 4 (by rfl))) om b2.flat1 (RdT.flat (RdT.blk (enc:=Go.E.encI) (sz:=1) (xs:=[0,(p0.h+1),4611686018427387904]) (fun _=>(by rfl)) 3 0 rfl rfl rfl om)) om om) ?_
  rintro _ _ ⟨m0,rfl,c2,d2,_,e2⟩
  have f2:=e2.unflat1
  have b5:(m0:Int)=0\/(m0:Int)=(p0.h+1)\/(m0:Int)=4611686018427387904:=by simpa using c2
  refine pu1<|tW f2 4 1 (I m0) sizeOf3 fun _ g2=>nB ?_
  exact ⟨((⟨p0.w,m0,p0.max_,⟨a0,(0+p0.pix.n),b0,([]++p0.pix.l)⟩⟩:Plane),f0,d2),alA,((g2.picks [3,4,2]).dropAt 3 rfl),om,⟨(d0.rdAt (cs:=[f0]) 0 rfl)⟩,⟨⟨by unfold numS;dsimp only;omega,by unfold numS;dsimp only;omega,by unfold numS;dsimp only;omega⟩,⟨by simp;omega,(base_mem hp3 om)⟩⟩⟩
 refine sR<|pu2<|nT<|cE k0 2 (fun i2=>?_) (fun i2=>?_)
 ·refine rE<|pu1<|sBS c0 #[I 0,I 4294967297,I (-1),I 3] runUnderlying22 sizeOf3 zeroValue3 fun _ _ j2=>?_
  have k2:=(j2.pick 1 rfl)
  refine cX call38 (tape_pick (RdT.flat (hR.up 4 (by rfl))) om k2.flat1 (RdT.flat (RdT.blk (enc:=Go.E.encI) (sz:=1) (xs:=[0,4294967297,-1,3]) (fun _=>(by rfl)) 4 0 rfl rfl rfl om)) om om) ?_
  rintro _ _ ⟨j0,rfl,l2,m2,_,n2⟩
  have o2:=n2.unflat1
  have h5:(j0:Int)=0\/(j0:Int)=4294967297\/(j0:Int)=(-1)\/(j0:Int)=3:=by simpa using l2
  refine pu1<|tW o2 4 2 (I j0) sizeOf3 fun _ q2=>nB ?_
  exact ⟨((⟨p0.w,p0.h,j0,⟨a0,(0+p0.pix.n),b0,([]++p0.pix.l)⟩⟩:Plane),f0,m2),alA,((q2.picks [3,4,2]).dropAt 3 rfl),om,⟨(d0.rdAt (cs:=[f0]) 0 rfl)⟩,⟨⟨by unfold numS;dsimp only;omega,by unfold numS;dsimp only;omega,by unfold numS;dsimp only;omega⟩,⟨by simp;omega,(base_mem hp3 om)⟩⟩⟩
 refine sR<|pu2<|nT<|cE k0 3 (fun s2=>?_) (fun s2=>?_)
 ·refine rE<|pu1<|sL c0 3 3 (.slice a0 (0+p0.pix.n) b0) (isAgg22 _)<|sBS c0 #[I 0] runUnderlying22 sizeOf3 zeroValue3 fun _ _ t2=>sApp (nb:=8) t2 d0 2 (RdT.blk (enc:=Go.E.encI) (sz:=1) (xs:=[0]) fR 1 0 rfl rfl rfl om) underlying22 (i:=Tryz.t3) kr fR fun a1 b1 c1 _ u2 v2=>pu1<|tW v2 4 3 (.slice a1 ((0+p0.pix.n)+1) b1) sizeOf22 fun _ w2=>nB ?_
  exact ⟨((⟨p0.w,p0.h,p0.max_,⟨a1,((0+p0.pix.n)+1),b1,(([]++p0.pix.l)++[0])⟩⟩:Plane),c1,l0),alA,((w2.picks [3,4,3]).dropAt 3 rfl),om,⟨(u2.rdAt (cs:=[c1]) 0 rfl)⟩,⟨⟨by unfold numS;dsimp only;omega,by unfold numS;dsimp only;omega,by unfold numS;dsimp only;omega⟩,⟨by simp;omega,mem_snoc (base_mem hp3 om) (by unfold numS;omega)⟩⟩⟩
 refine sR<|pu2<|nT<|cE k0 4 (fun y2=>?_) (fun y2=>?_)
 rotate_left
 ·refine rE<|pu1<|tW c0 3 3 (nS) sizeOf22 fun _ z2=>nB ?_
  have a3:=((z2.picks [3,1]).dropAt 2 rfl)
  have b3:Sat W _ ([(p, .cells #[.slice a n k,I l0] 85 (0,0))]::[(e0, .cells #[I p0.w,I p0.h,I p0.max_,nS] 87 (0,0))]::[(r0, .cells #[I 0,I 0,I 0,nS] 87 (0,0))]::[]::H::F):=Sat.perm (show Sat W _ ([(p, .cells #[.slice a n k,I l0] 85 (0,0))]::[(e0, .cells #[I p0.w,I p0.h,I p0.max_,nS] 87 (0,0))]::[(r0, .cells #[I 0,I 0,I 0,nS] 87 (0,0))]::H::F) from a3) (by simp [Value.cells])
  exact ⟨((⟨p0.w,p0.h,p0.max_,⟨none,0,0,[]⟩⟩:Plane),[],l0),alA,b3,om,⟨RdT.nil (enc:=Go.E.encI) (sz:=1) fR _⟩,⟨⟨by unfold numS;dsimp only;omega,by unfold numS;dsimp only;omega,by unfold numS;dsimp only;omega⟩,⟨by simp,fun z hz=>by cases hz⟩⟩⟩
 refine sR<|pu1<|sL c0 3 3 (.slice a0 (0+p0.pix.n) b0) (isAgg22 _)<|pu2<|nT<|cD ((((0+p0.pix.n):Nat):Int)>0) (fun c3=>?_) (fun c3=>?_)
 rotate_left
 ·refine skipE<|bN<|tN ?_
  exact ⟨((⟨p0.w,p0.h,p0.max_,⟨a0,(0+p0.pix.n),b0,([]++p0.pix.l)⟩⟩:Plane),f0,l0),alA,(c0.picks [2,3,2]),om,⟨(d0.rdAt (cs:=[f0]) 0 rfl)⟩,⟨⟨by unfold numS;dsimp only;omega,by unfold numS;dsimp only;omega,by unfold numS;dsimp only;omega⟩,⟨by simp;omega,(base_mem hp3 om)⟩⟩⟩
 refine drawP [6,13,14,16] [(1,⟨e0,3,none⟩, .slice a0 (0+p0.pix.n) b0),(4,⟨e0,3,none⟩, .slice a0 (0+p0.pix.n) b0),(9,⟨e0,2,none⟩,I p0.max_),(12,⟨e0,2,none⟩,I p0.max_)] (Plan.sts [0,2,3,7,8,11]<|Plan.sts [1]<|Plan.sts [4]<|Plan.sts [5]<|Plan.sts [9]<|Plan.sts [10]<|Plan.sts [12]<| .fk 6 13 (.ef 13<| .ef 14<|Plan.sts [15]<| .ef 16<| .fin) (.ef 6<| .ef 14<|Plan.sts [15]<| .ef 16<| .fin)) rfl kr ⟨cI c0 3,cI c0 3,cI c0 3,cI c0 3,trivial⟩ ?_
 have d1:=c0.drew
 refine qU [0,2,3,7,8,11]<|qLd (.slice a0 (0+p0.pix.n) b0) 0 isAgg22<|qLd (.slice a0 (0+p0.pix.n) b0) 1 isAgg22<|qU [5]<|qLd (I p0.max_) 2 isAgg3<|qAdd p0.max_ 1<|qLd (I p0.max_) 3 isAgg3<|qF ?_ ?_
 ·refine qO rfl<|cX call13 (tape_next (RdT.flat (hR.up 3 (by rfl))) om d1.flat1 (((0+p0.pix.n):Nat):Int) om) ?_
  rintro _ _ ⟨n0,rfl,_,_,_,e3⟩
  have o0:=e3.unflat1
  refine nilO ⟨⟨cI o0 3,cI o0 3,cI o0 3,cI o0 3,trivial⟩,?_⟩
  refine qO rfl<|sBS o0 #[I (-1),I (p0.max_+1),I p0.max_] runUnderlying22 sizeOf3 zeroValue3 fun _ _ s0=>nilO ⟨⟨cI s0 4,cI s0 4,cI s0 4,dI,trivial⟩,?_⟩
  refine qO rfl ?_
  have f3:=(s0.pick 1 rfl)
  refine cX call38 (tape_pick (RdT.flat (hR.up 4 (by rfl))) om f3.flat1 (RdT.flat (RdT.blk (enc:=Go.E.encI) (sz:=1) (xs:=[-1,(p0.max_+1),p0.max_]) (fun _=>(by rfl)) 3 0 rfl rfl rfl om)) om om) ?_
  rintro _ _ ⟨g0,rfl,g3,h3,_,i3⟩
  have t0:=i3.unflat1
  have w5:(g0:Int)=(-1)\/(g0:Int)=(p0.max_+1)\/(g0:Int)=p0.max_:=by simpa using g3
  refine nilO ⟨⟨cI t0 4,cI t0 4,cI t0 4,dI,trivial⟩,?_⟩
  obtain ⟨j3,k3,l3,m3,x5,n3,o3⟩:=OwnT.elem d0 n0
  refine qY (.pointer (some ⟨k3,l3+(n0).toNat*1,none⟩)) rfl (fun w _=>Y_idx (a:=a0) (i:=n0) (len:=(0+p0.pix.n)) (cap:=b0) rfl runUnderlying22 sizeOf3 kr kr n3)<|qO rfl<|sStF t0 d0 o3 2 (n0).toNat 0 j3 g0 m3 (I g0) [I g0] sizeOf3 fun _ e1 p3 q3=>nilO ⟨dA,?_⟩
  refine qN<|bN<|tN ?_
  exact ⟨((⟨p0.w,p0.h,p0.max_,⟨a0,(0+p0.pix.n),b0,(([]++p0.pix.l).set ((n0).toNat) g0)⟩⟩:Plane),e1,h3),alA,((q3.picks [3,4,2]).dropAt 3 rfl),om,⟨(p3.rdAt (cs:=[e1]) 0 rfl)⟩,⟨⟨by unfold numS;dsimp only;omega,by unfold numS;dsimp only;omega,by unfold numS;dsimp only;omega⟩,⟨by simp;omega,mem_set (base_mem hp3 om) (by unfold numS;omega)⟩⟩⟩
 refine qO rfl<|sBS d1 #[I (-1),I (p0.max_+1),I p0.max_] runUnderlying22 sizeOf3 zeroValue3 fun _ _ u0=>nilO ⟨⟨cI u0 4,cI u0 4,cI u0 4,dI,trivial⟩,?_⟩
 refine qO rfl ?_
 have s3:=(u0.pick 1 rfl)
 refine cX call13 (tape_next (RdT.flat (hR.up 4 (by rfl))) om s3.flat1 (((0+p0.pix.n):Nat):Int) om) ?_
 rintro _ _ ⟨q0,rfl,_,_,_,u3⟩
 have v0:=u3.unflat1
 refine nilO ⟨⟨cI v0 4,cI v0 4,cI v0 4,dI,trivial⟩,?_⟩
 refine qO rfl<|cX call38 (tape_pick (RdT.flat (hR.up 4 (by rfl))) om v0.flat1 (RdT.flat (RdT.blk (enc:=Go.E.encI) (sz:=1) (xs:=[-1,(p0.max_+1),p0.max_]) (fun _=>(by rfl)) 3 0 rfl rfl rfl om)) om om) ?_
 rintro _ _ ⟨h0,rfl,v3,w3,_,x3⟩
 have w0:=x3.unflat1
 have h6:(h0:Int)=(-1)\/(h0:Int)=(p0.max_+1)\/(h0:Int)=p0.max_:=by simpa using v3
 refine nilO ⟨⟨cI w0 4,cI w0 4,cI w0 4,dI,trivial⟩,?_⟩
 obtain ⟨y3,z3,a4,b4,i6,c4,d4⟩:=OwnT.elem d0 q0
 refine qY (.pointer (some ⟨z3,a4+(q0).toNat*1,none⟩)) rfl (fun w _=>Y_idx (a:=a0) (i:=q0) (len:=(0+p0.pix.n)) (cap:=b0) rfl runUnderlying22 sizeOf3 kr kr c4)<|qO rfl<|sStF w0 d0 d4 2 (q0).toNat 0 y3 h0 b4 (I h0) [I h0] sizeOf3 fun _ f1 e4 f4=>nilO ⟨dA,?_⟩
 refine qN<|bN<|tN ?_
 exact ⟨((⟨p0.w,p0.h,p0.max_,⟨a0,(0+p0.pix.n),b0,(([]++p0.pix.l).set ((q0).toNat) h0)⟩⟩:Plane),f1,w3),alA,((f4.picks [3,4,2]).dropAt 3 rfl),om,⟨(e4.rdAt (cs:=[f1]) 0 rfl)⟩,⟨⟨by unfold numS;dsimp only;omega,by unfold numS;dsimp only;omega,by unfold numS;dsimp only;omega⟩,⟨by simp;omega,mem_set (base_mem hp3 om) (by unfold numS;omega)⟩⟩⟩
theorem Stage.Ok.m {cs cs':List Chunk} {x:Stage} (h:Stage.Ok cs x) (hm:∀p∈cs.flatten,p∈cs'.flatten:=by intro p hp;simp at hp⊢;simp [hp]):Stage.Ok cs' x:=h.of_mem hm
theorem up1 {α:Type} {l:List α} {m k:Nat} {P:Prop} (h:l.length<=m+k/\P):l.length<=m+(k+1)/\P:=⟨by omega,h.2⟩
theorem base_any {α:Type} {P:α->Prop} {l:List α} (h:∀z∈l,P z):∀z∈([]:List α)++l,P z:=by
  intro z hz
  rw [List.nil_append] at hz
  exact h z hz
theorem tg_spoilStage {J:Chunk} {p:Nat} {a:Option Addr} {n k:Nat} {i:Int} {xs:List Int} (hR:RdT Go.E.encI 1 [H] a n k xs) (hi:0<=i/\i<=n) (hS:Sat W w ([(p, .cells #[.slice a n k,I i] 85 (0,0))]::J::H::F)) (s0:Stage) (hs0:Stage.Ok [J] s0) (kk:Nat) (hkk:kk<=100) (hsB:stageB kk s0):
  Calls prog 25 #[Pt p 0, .agg (encStage s0).toArray] w fun e w'=>∃(q:Stage) (G:Chunk),e= .returned (.agg (encStage q).toArray)/\(Stage.Ok [G++J] q)/\(stageB (kk+1) q)/\∃i':Int,(0<=i'/\i'<=n)/\Sat W w' ([(p, .cells #[.slice a n k,I i'] 85 (0,0))]::G::J::H::F):=by
 have hl_s0_weights:=hs0.weights.le;have hn_s0_weights:=hs0.weights.len
 have hl_s0_row:=hs0.row.le;have hn_s0_row:=hs0.row.len
 have hl_s0_col:=hs0.col.le;have hn_s0_col:=hs0.col.len
 have hl_s0_x:=hs0.x.le;have hn_s0_x:=hs0.x.len
 have hl_s0_y:=hs0.y.le;have hn_s0_y:=hs0.y.len
 have hl_s0_ops:=hs0.ops.le;have hn_s0_ops:=hs0.ops.len
 have hle:=hR.le
 obtain ⟨hi0,hi1,hi2,hi3,hi4,hi5,hi6,hi7,hi8,hi9,hi10⟩:=hsB.1;unfold numB at hi0 hi1 hi2 hi3 hi4 hi5 hi6 hi7 hi8 hi9 hi10;have hb_weights:=hsB.2.1.1;have hb_row:=hsB.2.2.1.1;have hb_col:=hsB.2.2.2.1.1;have hb_x:=hsB.2.2.2.2.1.1;have hb_y:=hsB.2.2.2.2.2.1.1;have hb_ops:=hsB.2.2.2.2.2.2.1
 refine callsA 137 func25 rfl ?_
 refine sR ?_
 refine sBox hS (.agg (encStage s0).toArray) (encStage s0).toArray ?_
 intro w0 _ o2
 refine sAlloc o2 zeroValue38 ?_
 intro l1 _ q2
 refine nT ?_
 refine cutA (γ:=Stage×Chunk×Int) (fun ⟨q,G1,itc⟩=>[(3,Pt w0 0),(4,Pt l1 0)]) (fun ⟨q,G1,itc⟩ w=>Sat W w (G1::[(p, .cells #[.slice a n k,I itc] 85 (0,0))]::[(w0, .cells (encStage q).toArray 38 (0,0))]::[(l1, .cells #[I 0,I 0,I 0, .bool false,I 0,I 0,I 0,I 0,nS,nS,nS,I 0,I 0,nS,nS,I 0,nS,I 0] 38 (0,0))]::J::H::F)/\(0<=itc/\itc<=n)/\Stage.Ok [G1++J] q/\stageB (kk+1) q) ?_ ?_
 rotate_left
 ·rintro ⟨q,G1,itc⟩ ρ _ ⟨m1,hitc,hqok,hqS⟩
  refine sR ?_
  refine lA m1 2 0 18 (isAgg38 _) (sizeOf38 _) ?_
  refine sT m1 3 0 (.agg (encStage q).toArray) (encStage q) (encStage q).toArray sizeOf38 ?_
  intro _ n1
  refine zE<|retN (vs:=[.agg (encStage q).toArray]) rfl (.cons (.cell _ _ _ _ kr (lvA n1 3 0 (encStage q) (isAgg38 _) (sizeOf38 _) rfl rfl rfl)) .nil) ?_
  exact ⟨q,G1,rfl,hqok,hqS,_,om,((n1.pick 1 rfl).drops [2,2])⟩
 refine sR<|pu1 ?_
 have s2:=(q2.pick 2 rfl)
 refine cX call13 (tape_next (RdT.flat (hR.up 3 (by rfl))) om s2.flat1 14 om) ?_
 rintro _ _ ⟨b0,rfl,_,o1,_,t2⟩
 have a0:=t2.unflat1
 refine nT<|blockE<|sR<|pu2<|nT ?_
 refine cE b0 0 (fun u2=>?_) (fun u2=>?_)
 ·refine rE<|pu1 ?_
  refine cX call13 (tape_next (RdT.flat (hR.up 3 (by rfl))) om a0.flat1 8 om) ?_
  rintro _ _ ⟨q1,rfl,_,v2,_,w2⟩
  have x2:=w2.unflat1
  refine pu1 ?_
  refine tW x2 2 0 (I q1) sizeOf3 ?_
  intro _ y2
  refine nB ?_
  have z2:=(y2.picks [2,1])
  exact ⟨(({s0 with kind:=q1}:Stage),[],v2),alA,(Sat.nilc z2),om,{hs0.m with},⟨(by unfold numB;dsimp only;omega),hsB.2.1,hsB.2.2.1,hsB.2.2.2.1,up1 hsB.2.2.2.2.1,up1 hsB.2.2.2.2.2.1,up1 hsB.2.2.2.2.2.2⟩⟩
 refine sR<|pu2<|nT ?_
 refine cE b0 1 (fun b3=>?_) (fun b3=>?_)
 ·refine rE<|pu1 ?_
  refine sBS a0 #[I (-1),I 0,I 1,I 2,I 15,I 16] runUnderlying22 sizeOf3 zeroValue3 ?_
  intro _ _ c3
  have d3:=(c3.pick 1 rfl)
  refine cX call38 (tape_pick (RdT.flat (hR.up 4 (by rfl))) om d3.flat1 (RdT.flat (RdT.blk (enc:=Go.E.encI) (sz:=1) (xs:=[-1,0,1,2,15,16]) (fun _=>(by rfl)) 6 0 rfl rfl rfl om)) om om) ?_
  rintro _ _ ⟨e0,rfl,e3,f3,_,g3⟩
  have h3:=g3.unflat1
  have ra:(e0:Int)=(-1)\/(e0:Int)=0\/(e0:Int)=1\/(e0:Int)=2\/(e0:Int)=15\/(e0:Int)=16:=by simpa using e3
  refine pu1 ?_
  refine tW h3 3 1 (I e0) sizeOf3 ?_
  intro _ i3
  refine nB ?_
  have j3:=((i3.picks [3,1]).dropAt 2 rfl)
  exact ⟨(({s0 with a:=e0}:Stage),[],f3),alA,(Sat.nilc j3),om,{hs0.m with},⟨(by unfold numB;dsimp only;omega),hsB.2.1,hsB.2.2.1,hsB.2.2.2.1,up1 hsB.2.2.2.2.1,up1 hsB.2.2.2.2.2.1,up1 hsB.2.2.2.2.2.2⟩⟩
 refine sR<|pu2<|nT ?_
 refine cE b0 2 (fun l3=>?_) (fun l3=>?_)
 ·refine rE<|pu1 ?_
  refine sBS a0 #[I (-2),I (-1),I 0,I 1,I 16] runUnderlying22 sizeOf3 zeroValue3 ?_
  intro _ _ m3
  have n3:=(m3.pick 1 rfl)
  refine cX call38 (tape_pick (RdT.flat (hR.up 4 (by rfl))) om n3.flat1 (RdT.flat (RdT.blk (enc:=Go.E.encI) (sz:=1) (xs:=[-2,-1,0,1,16]) (fun _=>(by rfl)) 5 0 rfl rfl rfl om)) om om) ?_
  rintro _ _ ⟨f0,rfl,o3,p3,_,q3⟩
  have r3:=q3.unflat1
  have xa:(f0:Int)=(-2)\/(f0:Int)=(-1)\/(f0:Int)=0\/(f0:Int)=1\/(f0:Int)=16:=by simpa using o3
  refine pu1 ?_
  refine tW r3 3 2 (I f0) sizeOf3 ?_
  intro _ s3
  refine nB ?_
  have u3:=((s3.picks [3,1]).dropAt 2 rfl)
  exact ⟨(({s0 with b:=f0}:Stage),[],p3),alA,(Sat.nilc u3),om,{hs0.m with},⟨(by unfold numB;dsimp only;omega),hsB.2.1,hsB.2.2.1,hsB.2.2.2.1,up1 hsB.2.2.2.2.1,up1 hsB.2.2.2.2.2.1,up1 hsB.2.2.2.2.2.2⟩⟩
 refine sR<|pu2<|nT ?_
 refine cE b0 3 (fun w3=>?_) (fun w3=>?_)
 ·refine rE<|pu1 ?_
  refine cX call13 (tape_next (RdT.flat (hR.up 3 (by rfl))) om a0.flat1 6 om) ?_
  rintro _ _ ⟨y0,rfl,_,_,_,x3⟩
  have y3:=x3.unflat1
  refine sSub y0 1 ?_
  refine pu1 ?_
  refine sBS y3 #[I 0,I 5,I (-1),I 70000] runUnderlying22 sizeOf3 zeroValue3 ?_
  intro _ _ z3
  have a4:=(z3.pick 1 rfl)
  refine cX call38 (tape_pick (RdT.flat (hR.up 4 (by rfl))) om a4.flat1 (RdT.flat (RdT.blk (enc:=Go.E.encI) (sz:=1) (xs:=[0,5,-1,70000]) (fun _=>(by rfl)) 4 0 rfl rfl rfl om)) om om) ?_
  rintro _ _ ⟨l0,rfl,b4,c4,_,d4⟩
  have e4:=d4.unflat1
  have hb:(l0:Int)=0\/(l0:Int)=5\/(l0:Int)=(-1)\/(l0:Int)=70000:=by simpa using b4
  refine pu2 ?_
  refine tW e4 3 4 (.agg #[I (y0-1),I l0]) sizeOf34 ?_
  intro _ f4
  refine nB ?_
  have g4:=((f4.picks [3,1]).dropAt 2 rfl)
  exact ⟨(({s0 with edgePolicy:=(y0-1),edgeFill:=l0}:Stage),[],c4),alA,(Sat.nilc g4),om,{hs0.m with},⟨(by unfold numB;dsimp only;omega),hsB.2.1,hsB.2.2.1,hsB.2.2.2.1,up1 hsB.2.2.2.2.1,up1 hsB.2.2.2.2.2.1,up1 hsB.2.2.2.2.2.2⟩⟩
 refine sR<|pu2<|nT ?_
 refine cE b0 4 (fun i4=>?_) (fun i4=>?_)
 ·refine rE<|pu1 ?_
  refine sBS a0 #[I 0,I 1,I 3,I 10,I 4611686018427387904] runUnderlying22 sizeOf3 zeroValue3 ?_
  intro _ _ j4
  have k4:=(j4.pick 1 rfl)
  refine cX call38 (tape_pick (RdT.flat (hR.up 4 (by rfl))) om k4.flat1 (RdT.flat (RdT.blk (enc:=Go.E.encI) (sz:=1) (xs:=[0,1,3,10,4611686018427387904]) (fun _=>(by rfl)) 5 0 rfl rfl rfl om)) om om) ?_
  rintro _ _ ⟨g0,rfl,l4,m4,_,n4⟩
  have o4:=n4.unflat1
  have ob:(g0:Int)=0\/(g0:Int)=1\/(g0:Int)=3\/(g0:Int)=10\/(g0:Int)=4611686018427387904:=by simpa using l4
  refine pu1 ?_
  refine tW o4 3 6 (I g0) sizeOf3 ?_
  intro _ p4
  refine nB ?_
  have q4:=((p4.picks [3,1]).dropAt 2 rfl)
  exact ⟨(({s0 with kW:=g0}:Stage),[],m4),alA,(Sat.nilc q4),om,{hs0.m with},⟨(by unfold numB;dsimp only;omega),hsB.2.1,hsB.2.2.1,hsB.2.2.2.1,up1 hsB.2.2.2.2.1,up1 hsB.2.2.2.2.2.1,up1 hsB.2.2.2.2.2.2⟩⟩
 refine sR<|pu2<|nT ?_
 refine cE b0 5 (fun s4=>?_) (fun s4=>?_)
 ·refine rE<|pu2 ?_
  refine cX call13 (tape_next (RdT.flat (hR.up 3 (by rfl))) om a0.flat1 10 om) ?_
  rintro _ _ ⟨t4,rfl,_,_,_,u4⟩
  refine cX call62 (tg_weights (RdT.flat (hR.up 3 (by rfl))) om (Sat.flat1 (Sat.unflat1 u4)) t4 om) ?_
  rintro _ _ ⟨r1,s1,t1,w4,x4,rfl,z0,u1,y4,_,z4⟩
  have a5:=z4.unflat2
  have hn_zs_115:=z0.len;have hl_zs_115:=z0.le
  refine pu1 ?_
  refine tW a5 3 8 (.slice r1 s1 t1) sizeOf22 ?_
  intro _ b5
  refine nB ?_
  exact ⟨(({s0 with weights:=⟨r1,s1,t1,w4⟩}:Stage),x4,y4),alA,(b5.picks [3,1,2]),om,{hs0.m with weights:=z0.of_mem mS},⟨(by unfold numB;dsimp only;omega),⟨by have h:=u1.1;dsimp only;omega,u1.2⟩,hsB.2.2.1,hsB.2.2.2.1,up1 hsB.2.2.2.2.1,up1 hsB.2.2.2.2.2.1,up1 hsB.2.2.2.2.2.2⟩⟩
 refine sR<|pu2<|nT ?_
 refine cE b0 6 (fun d5=>?_) (fun d5=>?_)
 ·refine rE<|pu2 ?_
  refine cX call13 (tape_next (RdT.flat (hR.up 3 (by rfl))) om a0.flat1 11 om) ?_
  rintro _ _ ⟨e5,rfl,_,_,_,f5⟩
  refine cX call62 (tg_weights (RdT.flat (hR.up 3 (by rfl))) om (Sat.flat1 (Sat.unflat1 f5)) e5 om) ?_
  rintro _ _ ⟨v1,w1,x1,h5,i5,rfl,a1,y1,j5,_,k5⟩
  have l5:=k5.unflat2
  have hn_zs_138:=a1.len;have hl_zs_138:=a1.le
  refine pu1 ?_
  refine tW l5 3 9 (.slice v1 w1 x1) sizeOf22 ?_
  intro _ m5
  refine nB ?_
  exact ⟨(({s0 with row:=⟨v1,w1,x1,h5⟩}:Stage),i5,j5),alA,(m5.picks [3,1,2]),om,{hs0.m with row:=a1.of_mem mS},⟨(by unfold numB;dsimp only;omega),hsB.2.1,⟨by have h:=y1.1;dsimp only;omega,y1.2⟩,hsB.2.2.2.1,up1 hsB.2.2.2.2.1,up1 hsB.2.2.2.2.2.1,up1 hsB.2.2.2.2.2.2⟩⟩
 refine sR<|pu2<|nT ?_
 refine cE b0 7 (fun o5=>?_) (fun o5=>?_)
 ·refine rE<|pu1 ?_
  refine sBS a0 #[I 0,I (-1),I 25,I 24] runUnderlying22 sizeOf3 zeroValue3 ?_
  intro _ _ p5
  have q5:=(p5.pick 1 rfl)
  refine cX call38 (tape_pick (RdT.flat (hR.up 4 (by rfl))) om q5.flat1 (RdT.flat (RdT.blk (enc:=Go.E.encI) (sz:=1) (xs:=[0,-1,25,24]) (fun _=>(by rfl)) 4 0 rfl rfl rfl om)) om om) ?_
  rintro _ _ ⟨m0,rfl,r5,_,_,s5⟩
  have t5:=s5.unflat1
  have jc:(m0:Int)=0\/(m0:Int)=(-1)\/(m0:Int)=25\/(m0:Int)=24:=by simpa using r5
  refine pu1 ?_
  refine sBS t5 #[I 0,I 25,I 3] runUnderlying22 sizeOf3 zeroValue3 ?_
  intro _ _ u5
  have v5:=(u5.pick 1 rfl)
  refine cX call38 (tape_pick (RdT.flat (hR.up 5 (by rfl))) om v5.flat1 (RdT.flat (RdT.blk (enc:=Go.E.encI) (sz:=1) (xs:=[0,25,3]) (fun _=>(by rfl)) 3 0 rfl rfl rfl om)) om om) ?_
  rintro _ _ ⟨p0,rfl,w5,x5,_,y5⟩
  have z5:=y5.unflat1
  have oc:(p0:Int)=0\/(p0:Int)=25\/(p0:Int)=3:=by simpa using w5
  refine pu1 ?_
  refine tW z5 4 11 (I m0) sizeOf3 ?_
  intro _ a6
  refine pu1 ?_
  refine tW a6 4 12 (I p0) sizeOf3 ?_
  intro _ b6
  refine nB ?_
  have c6:=((b6.picks [4,1]).drops [2,2])
  exact ⟨(({s0 with shift:=m0,shift2:=p0}:Stage),[],x5),alA,(Sat.nilc c6),om,{hs0.m with},⟨(by unfold numB;dsimp only;omega),hsB.2.1,hsB.2.2.1,hsB.2.2.2.1,up1 hsB.2.2.2.2.1,up1 hsB.2.2.2.2.2.1,up1 hsB.2.2.2.2.2.2⟩⟩
 refine sR<|pu2<|nT ?_
 refine cE b0 8 (fun e6=>?_) (fun e6=>?_)
 ·refine rE ?_
  refine sBS a0 #[] runUnderlying35 sizeOf123 zeroValue123 ?_
  intro f6 _ z1
  refine pu1 ?_
  refine sL z1 3 13 (.slice s0.x.a s0.x.n s0.x.k) (isAgg35 _) ?_
  refine sApp (nb:=32) z1 (OwnT.blk (enc:=encTap) (sz:=2) (b:=f6) (c:=#[]) (E:=123) (xs:=[]) fR 0 rfl rfl rfl om) 0 (hs0.x.up 4 rfl) underlying35 (i:=Tryz.t123) kr fR ?_
  intro _ _ _ _ h6 i6
  refine pu1 ?_
  refine sBS i6 #[I (-129),I 0,I 256,I 257] runUnderlying22 sizeOf3 zeroValue3 ?_
  intro _ _ j6
  have k6:=(j6.pick 2 rfl)
  refine cX call38 (tape_pick (RdT.flat (hR.up 5 (by rfl))) om k6.flat1 (RdT.flat (RdT.blk (enc:=Go.E.encI) (sz:=1) (xs:=[-129,0,256,257]) (fun _=>(by rfl)) 4 0 rfl rfl rfl om)) om om) ?_
  rintro _ _ ⟨h0,rfl,l6,_,_,m6⟩
  have n6:=m6.unflat1
  have bd:(h0:Int)=(-129)\/(h0:Int)=0\/(h0:Int)=256\/(h0:Int)=257:=by simpa using l6
  refine pu2 ?_
  refine sBS n6 #[I 0,I 1,I 8,I 9] runUnderlying22 sizeOf3 zeroValue3 ?_
  intro _ _ o6
  have p6:=(o6.pick 1 rfl)
  refine cX call38 (tape_pick (RdT.flat (hR.up 6 (by rfl))) om p6.flat1 (RdT.flat (RdT.blk (enc:=Go.E.encI) (sz:=1) (xs:=[0,1,8,9]) (fun _=>(by rfl)) 4 0 rfl rfl rfl om)) om om) ?_
  rintro _ _ ⟨q0,rfl,q6,_,_,r6⟩
  have s6:=r6.unflat1
  have hd:(q0:Int)=0\/(q0:Int)=1\/(q0:Int)=8\/(q0:Int)=9:=by simpa using q6
  refine cX call62 (tg_weights (RdT.flat (hR.up 6 (by rfl))) om s6.flat1 q0 om) ?_
  rintro _ _ ⟨b1,c1,d1,a2,t6,rfl,e1,b2,u6,_,v6⟩
  have w6:=v6.unflat2
  have hn_zs_219:=e1.len;have hl_zs_219:=e1.le
  refine pu1 ?_
  refine sBS w6 #[I h0, .slice b1 c1 d1] runUnderlying35 sizeOf123 zeroValue123 ?_
  intro _ _ x6
  refine sApp (nb:=32) x6 h6 5 (RdT.blk (enc:=encTap) (sz:=2) (xs:=[(⟨h0,⟨b1,c1,d1,a2⟩⟩:Tap)]) fR 1 0 rfl rfl rfl om) underlying35 (i:=Tryz.t123) kr fR ?_
  intro c2 d2 e2 _ y6 z6
  refine pu1 ?_
  refine tW z6 7 13 (.slice c2 ((0+s0.x.n)+1) d2) sizeOf35 ?_
  intro _ a7
  refine nB ?_
  have b7:=((a7.picks [7,2,3,6]).drops [4,4,4])
  exact ⟨(({s0 with x:=⟨c2,((0+s0.x.n)+1),d2,(([]++s0.x.l)++[(⟨h0,⟨b1,c1,d1,a2⟩⟩:Tap)])⟩}:Stage),(e2++t6),u6),alA,b7.merge2,om,{hs0.m with x:=(y6.rdAt (cs:=[e2]) 0 rfl).of_mem mS,xD:=(by
    intro z hz
    rcases List.mem_append.1 hz with h|h
    ·rw [List.nil_append] at h;exact (hs0.xD z h).of_mem mS
    ·simp only [List.mem_singleton] at h;rw [h];exact ⟨e1.of_mem mS⟩)},⟨(by unfold numB;dsimp only;omega),hsB.2.1,hsB.2.2.1,hsB.2.2.2.1,⟨by have h:=hsB.2.2.2.2.1.1;simp;omega,mem_snoc (base_any hsB.2.2.2.2.1.2) ⟨nb,by have h:=b2.1;dsimp only;omega,b2.2⟩⟩,up1 hsB.2.2.2.2.2.1,up1 hsB.2.2.2.2.2.2⟩⟩
 refine sR<|pu2<|nT ?_
 refine cE b0 9 (fun d7=>?_) (fun d7=>?_)
 ·refine rE<|pu1 ?_
  refine sBS a0 #[I 0,I 1,I 128,I 129] runUnderlying22 sizeOf3 zeroValue3 ?_
  intro _ _ e7
  have f7:=(e7.pick 1 rfl)
  refine cX call38 (tape_pick (RdT.flat (hR.up 4 (by rfl))) om f7.flat1 (RdT.flat (RdT.blk (enc:=Go.E.encI) (sz:=1) (xs:=[0,1,128,129]) (fun _=>(by rfl)) 4 0 rfl rfl rfl om)) om om) ?_
  rintro _ _ ⟨n0,rfl,g7,h7,_,i7⟩
  have j7:=i7.unflat1
  have ud:(n0:Int)=0\/(n0:Int)=1\/(n0:Int)=128\/(n0:Int)=129:=by simpa using g7
  refine pu1 ?_
  refine tW j7 3 15 (I n0) sizeOf3 ?_
  intro _ k7
  refine nB ?_
  have l7:=((k7.picks [3,1]).dropAt 2 rfl)
  exact ⟨(({s0 with bins:=n0}:Stage),[],h7),alA,(Sat.nilc l7),om,{hs0.m with},⟨(by unfold numB;dsimp only;omega),hsB.2.1,hsB.2.2.1,hsB.2.2.2.1,up1 hsB.2.2.2.2.1,up1 hsB.2.2.2.2.2.1,up1 hsB.2.2.2.2.2.2⟩⟩
 refine sR<|pu2<|nT ?_
 refine cE b0 10 (fun n7=>?_) (fun n7=>?_)
 ·refine rE ?_
  refine sBS a0 #[] runUnderlying36 sizeOf92 zeroValue92 ?_
  intro o7 _ f2
  refine pu1 ?_
  refine sL f2 3 16 (.slice s0.ops.a s0.ops.n s0.ops.k) (isAgg36 _) ?_
  refine sApp (nb:=16) f2 (OwnT.blk (enc:=encPOp) (sz:=2) (b:=o7) (c:=#[]) (E:=92) (xs:=[]) fR 0 rfl rfl rfl om) 0 (hs0.ops.up 4 rfl) underlying36 (i:=Tryz.t92) kr fR ?_
  intro _ _ _ _ q7 r7
  refine pu1 ?_
  have s7:=(r7.pick 1 rfl)
  refine cX call13 (tape_next (RdT.flat (hR.up 4 (by rfl))) om s7.flat1 14 om) ?_
  rintro _ _ ⟨x0,rfl,_,_,_,t7⟩
  have u7:=t7.unflat1
  refine sSub x0 1 ?_
  refine pu1 ?_
  refine sBS u7 #[I 0,I 1,I 25,I (-5)] runUnderlying22 sizeOf3 zeroValue3 ?_
  intro _ _ v7
  have w7:=(v7.pick 1 rfl)
  refine cX call38 (tape_pick (RdT.flat (hR.up 5 (by rfl))) om w7.flat1 (RdT.flat (RdT.blk (enc:=Go.E.encI) (sz:=1) (xs:=[0,1,25,-5]) (fun _=>(by rfl)) 4 0 rfl rfl rfl om)) om om) ?_
  rintro _ _ ⟨i0,rfl,x7,y7,_,z7⟩
  have a8:=z7.unflat1
  have je:(i0:Int)=0\/(i0:Int)=1\/(i0:Int)=25\/(i0:Int)=(-5):=by simpa using x7
  refine pu1 ?_
  refine sBS a8 #[I (x0-1),I i0] runUnderlying36 sizeOf92 zeroValue92 ?_
  intro _ _ b8
  refine sApp (nb:=16) b8 q7 3 (RdT.blk (enc:=encPOp) (sz:=2) (xs:=[(⟨(x0-1),i0⟩:POp)]) fR 1 0 rfl rfl rfl om) underlying36 (i:=Tryz.t92) kr fR ?_
  intro g2 h2 i2 _ c8 d8
  refine pu1 ?_
  refine tW d8 5 16 (.slice g2 ((0+s0.ops.n)+1) h2) sizeOf36 ?_
  intro _ e8
  refine nB ?_
  exact ⟨(({s0 with ops:=⟨g2,((0+s0.ops.n)+1),h2,(([]++s0.ops.l)++[(⟨(x0-1),i0⟩:POp)])⟩}:Stage),i2,y7),alA,((e8.picks [5,2,4]).drops [3,3]),om,{hs0.m with ops:=(c8.rdAt (cs:=[i2]) 0 rfl).of_mem mS},⟨(by unfold numB;dsimp only;omega),hsB.2.1,hsB.2.2.1,hsB.2.2.2.1,up1 hsB.2.2.2.2.1,up1 hsB.2.2.2.2.2.1,⟨by have h:=hsB.2.2.2.2.2.2.1;simp;omega,mem_snoc (base_any hsB.2.2.2.2.2.2.2) ⟨nb,nb⟩⟩⟩⟩
 refine sR<|pu2<|nT ?_
 refine cE b0 11 (fun g8=>?_) (fun g8=>?_)
 ·refine rE<|pu1 ?_
  refine sBS a0 #[I 0,I 1,I 4294967296,I 4294967297] runUnderlying22 sizeOf3 zeroValue3 ?_
  intro _ _ h8
  have i8:=(h8.pick 1 rfl)
  refine cX call38 (tape_pick (RdT.flat (hR.up 4 (by rfl))) om i8.flat1 (RdT.flat (RdT.blk (enc:=Go.E.encI) (sz:=1) (xs:=[0,1,4294967296,4294967297]) (fun _=>(by rfl)) 4 0 rfl rfl rfl om)) om om) ?_
  rintro _ _ ⟨o0,rfl,j8,k8,_,l8⟩
  have m8:=l8.unflat1
  have te:(o0:Int)=0\/(o0:Int)=1\/(o0:Int)=4294967296\/(o0:Int)=4294967297:=by simpa using j8
  refine pu1 ?_
  refine tW m8 3 17 (I o0) sizeOf3 ?_
  intro _ n8
  refine nB ?_
  have o8:=((n8.picks [3,1]).dropAt 2 rfl)
  exact ⟨(({s0 with max_:=o0}:Stage),[],k8),alA,(Sat.nilc o8),om,{hs0.m with},⟨(by unfold numB;dsimp only;omega),hsB.2.1,hsB.2.2.1,hsB.2.2.2.1,up1 hsB.2.2.2.2.1,up1 hsB.2.2.2.2.2.1,up1 hsB.2.2.2.2.2.2⟩⟩
 refine sR<|pu2<|nT ?_
 refine cE b0 12 (fun q8=>?_) (fun q8=>?_)
 rotate_left
 ·refine rE<|pu1 ?_
  refine sL a0 2 3 (.bool s0.barrier) (isAgg4 _) ?_
  refine pu2 ?_
  refine tW a0 2 3 (.bool (!s0.barrier)) sizeOf4 ?_
  intro _ r8
  refine nB ?_
  have s8:=(r8.picks [2,1])
  exact ⟨(({s0 with barrier:=(!s0.barrier)}:Stage),[],o1),alA,(Sat.nilc s8),om,{hs0.m with},⟨(by unfold numB;dsimp only;omega),hsB.2.1,hsB.2.2.1,hsB.2.2.2.1,up1 hsB.2.2.2.2.1,up1 hsB.2.2.2.2.2.1,up1 hsB.2.2.2.2.2.2⟩⟩
 refine sR ?_
 refine sBS a0 #[] runUnderlying22 sizeOf3 zeroValue3 ?_
 intro u8 _ j2
 refine pu1 ?_
 refine sL j2 3 8 (.slice s0.weights.a s0.weights.n s0.weights.k) (isAgg22 _) ?_
 refine sApp (nb:=8) j2 (OwnT.blk (enc:=Go.E.encI) (sz:=1) (b:=u8) (c:=#[]) (E:=3) (xs:=[]) fR 0 rfl rfl rfl om) 0 (hs0.weights.up 4 rfl) underlying22 (i:=Tryz.t3) kr fR ?_
 intro c0 d0 k2 _ r0 w8
 refine pu1 ?_
 refine tW w8 3 8 (.slice c0 (0+s0.weights.n) d0) sizeOf22 ?_
 intro _ t0
 refine zS<|pu1 ?_
 refine sL t0 3 8 (.slice c0 (0+s0.weights.n) d0) (isAgg22 _) ?_
 refine pu2<|nT ?_
 refine cD ((((0+s0.weights.n):Nat):Int)>0) (fun x8=>?_) (fun x8=>?_)
 rotate_left
 ·refine skipE<|bN<|tN ?_
  exact ⟨(({s0 with weights:=⟨c0,(0+s0.weights.n),d0,([]++s0.weights.l)⟩}:Stage),k2,o1),alA,(t0.picks [3,2,2]),om,{hs0.m with weights:=(r0.rdAt (cs:=[k2]) 0 rfl).of_mem mS},⟨(by unfold numB;dsimp only;omega),⟨by have h:=hsB.2.1.1;simp;omega,base_any hsB.2.1.2⟩,hsB.2.2.1,hsB.2.2.2.1,up1 hsB.2.2.2.2.1,up1 hsB.2.2.2.2.2.1,up1 hsB.2.2.2.2.2.2⟩⟩
 refine drawP [6,8,9,11] [(1,⟨w0,8,none⟩, .slice c0 (0+s0.weights.n) d0),(4,⟨w0,8,none⟩, .slice c0 (0+s0.weights.n) d0)] (Plan.sts [0,2,3,7]<|Plan.sts [1]<|Plan.sts [4]<|Plan.sts [5]<| .fk 6 8 (.ef 8<| .ef 9<|Plan.sts [10]<| .ef 11<| .fin) (.ef 6<| .ef 9<|Plan.sts [10]<| .ef 11<| .fin)) rfl kr ⟨cI t0 3,cI t0 3,trivial⟩ ?_
 have l2:=t0.drew
 refine qU [0,2,3,7] ?_
 refine qLd (.slice c0 (0+s0.weights.n) d0) 0 isAgg22 ?_
 refine qLd (.slice c0 (0+s0.weights.n) d0) 1 isAgg22 ?_
 refine qU [5] ?_
 refine qF ?_ ?_
 rotate_left
 ·refine qO rfl ?_
  refine sBS l2 #[I 32767,I (-32768),I 0] runUnderlying22 sizeOf3 zeroValue3 ?_
  intro _ _ f1
  refine nilO ⟨⟨cI f1 4,cI f1 4,trivial⟩,?_⟩
  refine qO rfl ?_
  have z8:=(f1.pick 2 rfl)
  refine cX call13 (tape_next (RdT.flat (hR.up 5 (by rfl))) om z8.flat1 (((0+s0.weights.n):Nat):Int) om) ?_
  rintro _ _ ⟨u0,rfl,_,_,_,a9⟩
  have g1:=a9.unflat1
  refine nilO ⟨⟨cI g1 4,cI g1 4,trivial⟩,?_⟩
  refine qO rfl ?_
  refine cX call38 (tape_pick (RdT.flat (hR.up 5 (by rfl))) om g1.flat1 (RdT.flat (RdT.blk (enc:=Go.E.encI) (sz:=1) (xs:=[32767,-32768,0]) (fun _=>(by rfl)) 3 0 rfl rfl rfl om)) om om) ?_
  rintro _ _ ⟨j0,rfl,b9,c9,_,d9⟩
  have h1:=d9.unflat1
  have jf:(j0:Int)=32767\/(j0:Int)=(-32768)\/(j0:Int)=0:=by simpa using b9
  refine nilO ⟨⟨cI h1 4,cI h1 4,trivial⟩,?_⟩
  obtain ⟨e9,f9,g9,h9,kf,i9,j9⟩:=OwnT.elem r0 u0
  refine qY (.pointer (some ⟨f9,g9+(u0).toNat*1,none⟩)) rfl (fun w _=>Y_idx (a:=c0) (i:=u0) (len:=(0+s0.weights.n)) (cap:=d0) rfl runUnderlying22 sizeOf3 kr kr i9) ?_
  refine qO rfl ?_
  refine sStF h1 r0 j9 2 (u0).toNat 0 e9 j0 h9 (I j0) [I j0] sizeOf3 ?_
  intro _ m2 k9 l9
  refine nilO ⟨dA,?_⟩
  refine qN ?_
  refine bN<|tN ?_
  exact ⟨(({s0 with weights:=⟨c0,(0+s0.weights.n),d0,(([]++s0.weights.l).set ((u0).toNat) j0)⟩}:Stage),m2,c9),alA,((l9.picks [4,1,3]).dropAt 3 rfl),om,{hs0.m with weights:=(k9.rdAt (cs:=[m2]) 0 rfl).of_mem mS},⟨(by unfold numB;dsimp only;omega),⟨by have h:=hsB.2.1.1;simp;omega,mem_set (base_any hsB.2.1.2) nb⟩,hsB.2.2.1,hsB.2.2.2.1,up1 hsB.2.2.2.2.1,up1 hsB.2.2.2.2.2.1,up1 hsB.2.2.2.2.2.2⟩⟩
 refine qO rfl ?_
 have n9:=(l2.pick 1 rfl)
 refine cX call13 (tape_next (RdT.flat (hR.up 4 (by rfl))) om n9.flat1 (((0+s0.weights.n):Nat):Int) om) ?_
 rintro _ _ ⟨v0,rfl,_,_,_,o9⟩
 have i1:=o9.unflat1
 refine nilO ⟨⟨cI i1 3,cI i1 3,trivial⟩,?_⟩
 refine qO rfl ?_
 refine sBS i1 #[I 32767,I (-32768),I 0] runUnderlying22 sizeOf3 zeroValue3 ?_
 intro _ _ j1
 refine nilO ⟨⟨cI j1 4,cI j1 4,trivial⟩,?_⟩
 refine qO rfl ?_
 have p9:=(j1.pick 1 rfl)
 refine cX call38 (tape_pick (RdT.flat (hR.up 5 (by rfl))) om p9.flat1 (RdT.flat (RdT.blk (enc:=Go.E.encI) (sz:=1) (xs:=[32767,-32768,0]) (fun _=>(by rfl)) 3 0 rfl rfl rfl om)) om om) ?_
 rintro _ _ ⟨k0,rfl,q9,r9,_,s9⟩
 have k1:=s9.unflat1
 have vf:(k0:Int)=32767\/(k0:Int)=(-32768)\/(k0:Int)=0:=by simpa using q9
 refine nilO ⟨⟨cI k1 4,cI k1 4,trivial⟩,?_⟩
 obtain ⟨t9,u9,v9,w9,wf,x9,y9⟩:=OwnT.elem r0 v0
 refine qY (.pointer (some ⟨u9,v9+(v0).toNat*1,none⟩)) rfl (fun w _=>Y_idx (a:=c0) (i:=v0) (len:=(0+s0.weights.n)) (cap:=d0) rfl runUnderlying22 sizeOf3 kr kr x9) ?_
 refine qO rfl ?_
 refine sStF k1 r0 y9 2 (v0).toNat 0 t9 k0 w9 (I k0) [I k0] sizeOf3 ?_
 intro _ n2 z9 aa
 refine nilO ⟨dA,?_⟩
 refine qN ?_
 refine bN<|tN ?_
 exact ⟨(({s0 with weights:=⟨c0,(0+s0.weights.n),d0,(([]++s0.weights.l).set ((v0).toNat) k0)⟩}:Stage),n2,r9),alA,((aa.picks [4,1,3]).dropAt 3 rfl),om,{hs0.m with weights:=(z9.rdAt (cs:=[n2]) 0 rfl).of_mem mS},⟨(by unfold numB;dsimp only;omega),⟨by have h:=hsB.2.1.1;simp;omega,mem_set (base_any hsB.2.1.2) nb⟩,hsB.2.2.1,hsB.2.2.2.1,up1 hsB.2.2.2.2.1,up1 hsB.2.2.2.2.2.1,up1 hsB.2.2.2.2.2.2⟩⟩
end Go.Proofs.YtdingplbadblpaaGreat

namespace Go.Proofs.YtdingplbadblpaaGreat
open Go Go.E Go.Proofs.Tryz
set_option linter.all false
set_option maxRecDepth 100000
set_option maxHeartbeats 2000000
variable {W w:World} {H:Chunk} {F:List Chunk}
theorem tg_copyJob (W w:World) (H:Chunk) (F:List Chunk) (j0:Job) (hj0:Job.Ok [H] j0) (hb:j0.inputs.n<=1000/\j0.stages.n<=1000/\j0.outputs.n<=1000) (hS:Sat W w (H::F)):
  Calls prog 14 #[.agg (encJob j0).toArray] w fun e w'=>∃(a1 a2 a3:Option Addr) (n1 k1 n2 k2 n3 k3:Nat) (c1 c2 c3:Chunk),e= .returned (.agg #[.slice a1 n1 k1, .slice a2 n2 k2, .slice a3 n3 k3,I j0.priority])/\OwnT encPlane 87 4 a1 n1 k1 j0.inputs.l c1/\OwnT encStage 38 18 a2 n2 k2 j0.stages.l c2/\OwnT Go.E.encI 3 1 a3 n3 k3 j0.outputs.l c3/\Sat W w' (c1::c2::c3::H::F):=by
 have hl_j0_inputs:=hj0.inputs.le;have hn_j0_inputs:=hj0.inputs.len
 have hl_j0_stages:=hj0.stages.le;have hn_j0_stages:=hj0.stages.len
 have hl_j0_outputs:=hj0.outputs.le;have hn_j0_outputs:=hj0.outputs.len
 refine callsA 19 func14 rfl<|sR<|sBox hS (.agg (encJob j0).toArray) (encJob j0).toArray fun _ _ m0=>sAlloc m0 zeroValue28 fun _ _ n0=>zS<|sBS n0 #[] runUnderlying25 sizeOf87 zeroValue87 fun o0 _ g0=>pu1<|sL g0 2 0 (.slice j0.inputs.a j0.inputs.n j0.inputs.k) (isAgg25 _)<|sApp (nb:=48) g0 (OwnT.blk (enc:=encPlane) (sz:=4) (b:=o0) (c:=#[]) (E:=87) (xs:=[]) fR 0 rfl rfl rfl om) 0 (hj0.inputs.up 3 rfl) underlying25 (i:=Tryz.t87) kr fR fun a0 b0 _ _ q0 r0=>pu1 ?_
 refine tW r0 2 0 (.slice a0 (0+j0.inputs.n) b0) sizeOf25 fun _ s0=>zS<|sBS s0 #[] runUnderlying26 sizeOf38 zeroValue38 fun t0 _ h0=>pu1<|sL h0 3 1 (.slice j0.stages.a j0.stages.n j0.stages.k) (isAgg26 _)<|sApp (nb:=240) h0 (OwnT.blk (enc:=encStage) (sz:=18) (b:=t0) (c:=#[]) (E:=38) (xs:=[]) fR 0 rfl rfl rfl om) 0 (hj0.stages.up 4 rfl) underlying26 (i:=Tryz.t38) kr fR fun c0 d0 _ _ v0 w0=>pu1<|tW w0 3 1 (.slice c0 (0+j0.stages.n) d0) sizeOf26 fun _ x0=>zS<|sBS x0 #[] runUnderlying22 sizeOf3 zeroValue3 fun y0 _ i0=>pu1<|sL i0 4 2 (.slice j0.outputs.a j0.outputs.n j0.outputs.k) (isAgg22 _) ?_
 refine sApp (nb:=8) i0 (OwnT.blk (enc:=Go.E.encI) (sz:=1) (b:=y0) (c:=#[]) (E:=3) (xs:=[]) fR 0 rfl rfl rfl om) 0 (hj0.outputs.up 5 rfl) underlying22 (i:=Tryz.t3) kr fR fun e0 f0 _ _ b1 d1=>pu1<|tW d1 4 2 (.slice e0 (0+j0.outputs.n) f0) sizeOf22 fun _ k0=>zS<|lA k0 4 0 4 (isAgg28 _) (sizeOf28 _) ?_
 refine sT k0 3 0 (.agg #[.slice a0 (0+j0.inputs.n) b0, .slice c0 (0+j0.stages.n) d0, .slice e0 (0+j0.outputs.n) f0,I j0.priority]) [.slice a0 (0+j0.inputs.n) b0, .slice c0 (0+j0.stages.n) d0, .slice e0 (0+j0.outputs.n) f0,I j0.priority] #[.slice a0 (0+j0.inputs.n) b0, .slice c0 (0+j0.stages.n) d0, .slice e0 (0+j0.outputs.n) f0,I j0.priority] sizeOf28 fun _ l0=>?_
 exact zE<|retN (vs:=[.agg #[.slice a0 (0+j0.inputs.n) b0, .slice c0 (0+j0.stages.n) d0, .slice e0 (0+j0.outputs.n) f0,I j0.priority]]) rfl (.cons (.cell _ _ _ _ kr (lvA l0 3 0 [.slice a0 (0+j0.inputs.n) b0, .slice c0 (0+j0.stages.n) d0, .slice e0 (0+j0.outputs.n) f0,I j0.priority] (isAgg28 _) (sizeOf28 _) rfl rfl rfl)) .nil)<|⟨_,_,_,_,_,_,_,_,_,_,_,_,rfl,(by have h:=q0;rw [List.nil_append] at h;exact h),(by have h:=v0;rw [List.nil_append] at h;exact h),(by have h:=b1;rw [List.nil_append] at h;exact h),((l0.picks [1,2]).drops [3,3])⟩
def jobS (k:Nat) (q:Job):Prop:=(q.inputs.l.length<=2/\∀z∈q.inputs.l,planeS k z)/\(q.stages.l.length<=4/\∀z∈q.stages.l,stageB k z)/\(q.outputs.l.length<=2+k/\∀z∈q.outputs.l,numB z)/\numB q.priority
theorem planeS_mono {k m:Nat} {q:Plane} (h:planeS k q) (hm:k<=m):planeS m q:=⟨⟨numS_mono h.1.1 hm,numS_mono h.1.2.1 hm,numS_mono h.1.2.2 hm⟩,by have:=h.2.1;omega,fun z hz=>numS_mono (h.2.2 z hz) hm⟩
theorem stageB_mono {k m:Nat} {q:Stage} (h:stageB k q) (hm:k<=m):stageB m q:=by
  unfold stageB at*
  refine ⟨h.1,h.2.1,h.2.2.1,h.2.2.2.1,⟨by have:=h.2.2.2.2.1.1;omega,h.2.2.2.2.1.2⟩,⟨by have:=h.2.2.2.2.2.1.1;omega,h.2.2.2.2.2.1.2⟩,by have:=h.2.2.2.2.2.2.1;omega,h.2.2.2.2.2.2.2⟩
theorem jobB_S {q:Job} (h:jobB 0 q):jobS 0 q:=by
  refine ⟨⟨h.1.1,fun z hz=>?_⟩,h.2⟩
  have h1:=h.1.2 z hz
  have e:∀x,numB x->numS 0 x:=fun x hx=>by unfold numB at hx;unfold numS;omega
  exact ⟨⟨e _ h1.2.1,e _ h1.2.2.1,e _ h1.2.2.2⟩,by have:=h1.1.1;omega,fun y hy=>e _ (h1.1.2 y hy)⟩
theorem tg_spoilJob {J:Chunk} {p:Nat} {a:Option Addr} {n k:Nat} {i:Int} {xs:List Int} (hR:RdT Go.E.encI 1 [H] a n k xs) (hi:0<=i/\i<=n) (hS:Sat W w ([(p, .cells #[.slice a n k,I i] 85 (0,0))]::J::H::F)) (j0:Job) (hj0:Job.Ok [J] j0) (kk:Nat) (hkk:kk<=100) (hjS:jobS kk j0):
  Calls prog 18 #[Pt p 0, .agg (encJob j0).toArray] w fun e w'=>∃(q:Job) (G:Chunk),e= .returned (.agg (encJob q).toArray)/\(Job.Ok [G++J] q)/\(jobS (kk+1) q)/\∃i':Int,(0<=i'/\i'<=n)/\Sat W w' ([(p, .cells #[.slice a n k,I i'] 85 (0,0))]::G::J::H::F):=by
 have hl_j0_inputs:=hj0.inputs.le;have hn_j0_inputs:=hj0.inputs.len
 have hl_j0_stages:=hj0.stages.le;have hn_j0_stages:=hj0.stages.len
 have hl_j0_outputs:=hj0.outputs.le;have hn_j0_outputs:=hj0.outputs.len
 have hle:=hR.le
 have hb1:=hjS.1.1;have hb2:=hjS.2.1.1;have hb3:=hjS.2.2.1.1
 refine callsA 85 func18 rfl<|sR<|sBox hS (.agg (encJob j0).toArray) (encJob j0).toArray fun b0 _ c2=>sAlloc c2 zeroValue28 fun h0 _ u1=>zS<|lA u1 1 0 4 (isAgg28 _) (sizeOf28 _)<|sF #[.agg (encJob j0).toArray] call14 (Calls.mono (tg_copyJob W _ _ [] j0 (hj0.of_mem (mem_flat1 3 (by rfl))) om u1.flat) ?_)
 rintro _ _ ⟨a1_9,a2_10,a3_11,n1_12,k1_13,n2_14,k2_15,n3_16,k3_17,c1_18,c2_19,c3_20,rfl,k0,l0,m0,v1⟩
 refine ⟨_,rfl,?_⟩
 have d2:=Sat.unflatc v1;clear v1
 have hn_a1_9:=k0.len;have hl_a1_9:=k0.le
 have hn_a2_10:=l0.len;have hl_a2_10:=l0.le
 have hn_a3_11:=m0.len;have hl_a3_11:=m0.le
 refine sT d2 4 0 (.agg #[.slice a1_9 n1_12 k1_13, .slice a2_10 n2_14 k2_15, .slice a3_11 n3_16 k3_17,I j0.priority]) [.slice a1_9 n1_12 k1_13, .slice a2_10 n2_14 k2_15, .slice a3_11 n3_16 k3_17,I j0.priority] #[.slice a1_9 n1_12 k1_13, .slice a2_10 n2_14 k2_15, .slice a3_11 n3_16 k3_17,I j0.priority] sizeOf28 fun _ e2=>nT<|cutA (γ:=Job×Chunk×Int) (fun ⟨q,G1,itc⟩=>[(3,Pt b0 0),(4,Pt h0 0)]) (fun ⟨q,G1,itc⟩ w=>Sat W w ([(p, .cells #[.slice a n k,I itc] 85 (0,0))]::[(b0, .cells (encJob q).toArray 28 (0,0))]::[(h0, .cells #[nS,nS,nS,I 0] 28 (0,0))]::G1::J::H::F)/\(0<=itc/\itc<=n)/\Job.Ok [G1++J] q/\jobS (kk+1) q) ?_ ?_
 rotate_left
 ·rintro ⟨q,G1,itc⟩ ρ _ ⟨w1,hitc,hqok,hqS⟩
  exact sR<|lA w1 1 0 4 (isAgg28 _) (sizeOf28 _)<|sT w1 2 0 (.agg (encJob q).toArray) (encJob q) (encJob q).toArray sizeOf28 fun _ x1=>zE<|retN (vs:=[.agg (encJob q).toArray]) rfl (.cons (.cell _ _ _ _ kr (lvA x1 2 0 (encJob q) (isAgg28 _) (sizeOf28 _) rfl rfl rfl)) .nil)<|⟨q,G1,rfl,hqok,hqS,_,om,(x1.drops [1,1])⟩
 refine sR<|pu1 ?_
 have g2:=(e2.pick 5 rfl)
 refine cX call13 (tape_next (RdT.flat (hR.up 6 (by rfl))) om g2.flat1 7 om) ?_
 rintro _ _ ⟨w0,rfl,_,t0,_,h2⟩
 have d0:=h2.unflat1
 refine nT<|blockE<|sR<|pu2<|nT<|cE w0 0 (fun i2=>?_) (fun i2=>?_)
 ·refine rE<|pu1<|sBS d0 #[I (-1),I 4,I 3] runUnderlying22 sizeOf3 zeroValue3 fun _ _ j2=>?_
  have k2:=(j2.pick 1 rfl)
  refine cX call38 (tape_pick (RdT.flat (hR.up 7 (by rfl))) om k2.flat1 (RdT.flat (RdT.blk (enc:=Go.E.encI) (sz:=1) (xs:=[-1,4,3]) (fun _=>(by rfl)) 3 0 rfl rfl rfl om)) om om) ?_
  rintro _ _ ⟨r0,rfl,l2,g1,_,m2⟩
  have n2:=m2.unflat1
  have f5:(r0:Int)=(-1)\/(r0:Int)=4\/(r0:Int)=3:=by simpa using l2
  refine pu1<|tW n2 6 3 (I r0) sizeOf3 fun _ o2=>nB ?_
  have q2:=((o2.picks [5,6,2]).dropAt 3 rfl)
  have r2:Sat W _ ([(p, .cells #[.slice a n k,I g1] 85 (0,0))]::[(b0, .cells #[.slice a1_9 n1_12 k1_13, .slice a2_10 n2_14 k2_15, .slice a3_11 n3_16 k3_17,I r0] 28 (0,0))]::[(h0, .cells #[nS,nS,nS,I 0] 28 (0,0))]::(c1_18++c2_19++c3_20)::J::H::F):=Sat.perm (show Sat W _ ([(p, .cells #[.slice a n k,I g1] 85 (0,0))]::[(b0, .cells #[.slice a1_9 n1_12 k1_13, .slice a2_10 n2_14 k2_15, .slice a3_11 n3_16 k3_17,I r0] 28 (0,0))]::[(h0, .cells #[nS,nS,nS,I 0] 28 (0,0))]::c1_18::c2_19::c3_20::J::H::F) from q2) (by simp [Value.cells])
  exact ⟨((⟨⟨a1_9,n1_12,k1_13,j0.inputs.l⟩,⟨a2_10,n2_14,k2_15,j0.stages.l⟩,⟨a3_11,n3_16,k3_17,j0.outputs.l⟩,r0⟩:Job),(c1_18++c2_19++c3_20),g1),alA,r2,om,⟨(k0.rdAt (cs:=[c1_18]) 0 rfl).of_mem mS,(fun z hz=>(hj0.inputsD z hz).of_mem mS),(l0.rdAt (cs:=[c2_19]) 0 rfl).of_mem mS,(fun z hz=>(hj0.stagesD z hz).of_mem mS),(m0.rdAt (cs:=[c3_20]) 0 rfl).of_mem mS⟩,⟨⟨by have h:=hjS.1.1;first|(dsimp only;omega)|(simp;omega),(fun z hz=>planeS_mono (hjS.1.2 z hz) om)⟩,⟨by have h:=hjS.2.1.1;first|(dsimp only;omega)|(simp;omega),(fun z hz=>stageB_mono (hjS.2.1.2 z hz) om)⟩,⟨by have h:=hjS.2.2.1.1;first|(dsimp only;omega)|(simp;omega),hjS.2.2.1.2⟩,by have h:=hjS.2.2.2;unfold numB at*;dsimp only;omega⟩⟩
 refine sR<|pu2<|nT<|cE w0 1 (fun s2=>?_) (fun s2=>?_)
 ·refine sR<|pu1<|sL d0 5 0 (.slice a1_9 n1_12 k1_13) (isAgg25 _)<|pu2<|nT<|cD ((n1_12:Int)>0) (fun t2=>?_) (fun t2=>?_)
  rotate_left
  ·refine skipE<|bN<|tN ?_
   have u2:=(d0.picks [4,5,2])
   have v2:Sat W _ ([(p, .cells #[.slice a n k,I t0] 85 (0,0))]::[(b0, .cells #[.slice a1_9 n1_12 k1_13, .slice a2_10 n2_14 k2_15, .slice a3_11 n3_16 k3_17,I j0.priority] 28 (0,0))]::[(h0, .cells #[nS,nS,nS,I 0] 28 (0,0))]::(c1_18++c2_19++c3_20)::J::H::F):=Sat.perm (show Sat W _ ([(p, .cells #[.slice a n k,I t0] 85 (0,0))]::[(b0, .cells #[.slice a1_9 n1_12 k1_13, .slice a2_10 n2_14 k2_15, .slice a3_11 n3_16 k3_17,I j0.priority] 28 (0,0))]::[(h0, .cells #[nS,nS,nS,I 0] 28 (0,0))]::c1_18::c2_19::c3_20::J::H::F) from u2) (by simp [Value.cells])
   exact ⟨((⟨⟨a1_9,n1_12,k1_13,j0.inputs.l⟩,⟨a2_10,n2_14,k2_15,j0.stages.l⟩,⟨a3_11,n3_16,k3_17,j0.outputs.l⟩,j0.priority⟩:Job),(c1_18++c2_19++c3_20),t0),alA,v2,om,⟨(k0.rdAt (cs:=[c1_18]) 0 rfl).of_mem mS,(fun z hz=>(hj0.inputsD z hz).of_mem mS),(l0.rdAt (cs:=[c2_19]) 0 rfl).of_mem mS,(fun z hz=>(hj0.stagesD z hz).of_mem mS),(m0.rdAt (cs:=[c3_20]) 0 rfl).of_mem mS⟩,⟨⟨by have h:=hjS.1.1;first|(dsimp only;omega)|(simp;omega),(fun z hz=>planeS_mono (hjS.1.2 z hz) om)⟩,⟨by have h:=hjS.2.1.1;first|(dsimp only;omega)|(simp;omega),(fun z hz=>stageB_mono (hjS.2.1.2 z hz) om)⟩,⟨by have h:=hjS.2.2.1.1;first|(dsimp only;omega)|(simp;omega),hjS.2.2.1.2⟩,by have h:=hjS.2.2.2;unfold numB at*;dsimp only;omega⟩⟩
  obtain ⟨n0,u0,v0,y0,x0,h1,w2⟩:=OwnT.elem k0 0
  change _[0]?=_ at y0;change PtR _ _ (_+0*_) _ at x0;change ElemAt _ _ _ _ _ (_+0*_) at h1
  refine drawE [7,9] [(1,⟨b0,0,none⟩, .slice a1_9 n1_12 k1_13),(4,⟨b0,0,none⟩, .slice a1_9 n1_12 k1_13),(6,⟨u0,v0+0*4+0,none⟩,I n0.w),(6,⟨u0,v0+0*4+1,none⟩,I n0.h),(6,⟨u0,v0+0*4+2,none⟩,I n0.max_),(6,⟨u0,v0+0*4+3,none⟩, .slice n0.pix.a n0.pix.n n0.pix.k)] [(true,[0,2,3]),(true,[1]),(true,[4]),(true,[5]),(true,[6]),(false,[7]),(true,[8]),(false,[9])] rfl kr ⟨cI d0 5,cI d0 5, .inr ((x0.up 1 rfl).cell d0 (k:=0) rfl), .inr ((x0.up 1 rfl).cell d0 (k:=1) rfl), .inr ((x0.up 1 rfl).cell d0 (k:=2) rfl), .inr ((x0.up 1 rfl).cell d0 (k:=3) rfl),trivial⟩ ?_
  have x2:=d0.drew
  refine wU [0,2,3]<|wLd (.slice a1_9 n1_12 k1_13) 0 isAgg25<|wLd (.slice a1_9 n1_12 k1_13) 1 isAgg25<|wY (.pointer (some ⟨u0,v0+0*4,none⟩)) rfl (fun w _=>Y_idx (a:=a1_9) (i:=0) (len:=n1_12) (cap:=k1_13) rfl runUnderlying25 sizeOf87 kr kr h1)<|wY (.agg (encPlane n0).toArray) rfl (fun w hF=>Y_loadF rfl (isAgg87 w) (sizeOf87 w) kr rfl ⟨hF 2 _ _ rfl,hF 3 _ _ rfl,hF 4 _ _ rfl,hF 5 _ _ rfl,trivial⟩)<|wO rfl<|cX call49 (tg_spoilPlane (RdT.flat (hR.up 6 (by rfl))) om x2.flat1 n0 ⟨(RdT.flat ((hj0.inputsD n0 (List.mem_of_getElem? y0)).pix.up 5 (by rfl)))⟩ kk om (hjS.1.2 _ (List.mem_of_getElem? y0))) ?_
  rintro _ _ ⟨z0,i1,rfl,y2,z2,j1,_,a3⟩
  have k1:=a3.unflat2
  refine nilO ⟨⟨cI k1 6,cI k1 6,dI,dI,dI,dI,trivial⟩,?_⟩
  refine wY (.pointer (some ⟨u0,v0+0*4,none⟩)) rfl (fun w _=>Y_idx (a:=a1_9) (i:=0) (len:=n1_12) (cap:=k1_13) rfl runUnderlying25 sizeOf87 kr kr h1)<|wO rfl<|sStF k1 k0 w2 2 0 0 n0 z0 y0 (.agg (encPlane z0).toArray) (encPlane z0) sizeOf87 fun _ a1 b3 c3=>nilO ⟨dA,?_⟩
  refine wN<|bN<|tN ?_
  have d3:=(c3.picks [2,5,6,3])
  have e3:Sat W _ ([(p, .cells #[.slice a n k,I j1] 85 (0,0))]::[(b0, .cells #[.slice a1_9 n1_12 k1_13, .slice a2_10 n2_14 k2_15, .slice a3_11 n3_16 k3_17,I j0.priority] 28 (0,0))]::[(h0, .cells #[nS,nS,nS,I 0] 28 (0,0))]::(a1++i1++c2_19++c3_20)::J::H::F):=Sat.perm (show Sat W _ ([(p, .cells #[.slice a n k,I j1] 85 (0,0))]::[(b0, .cells #[.slice a1_9 n1_12 k1_13, .slice a2_10 n2_14 k2_15, .slice a3_11 n3_16 k3_17,I j0.priority] 28 (0,0))]::[(h0, .cells #[nS,nS,nS,I 0] 28 (0,0))]::a1::i1::c2_19::c3_20::J::H::F) from d3) (by simp [Value.cells])
  exact ⟨((⟨⟨a1_9,n1_12,k1_13,(j0.inputs.l.set 0 z0)⟩,⟨a2_10,n2_14,k2_15,j0.stages.l⟩,⟨a3_11,n3_16,k3_17,j0.outputs.l⟩,j0.priority⟩:Job),(a1++i1++c2_19++c3_20),j1),alA,e3,om,⟨(b3.rdAt (cs:=[a1]) 0 rfl).of_mem mS,(mem_set (fun z hz=>(hj0.inputsD z hz).of_mem mS) (y2.of_mem mS)),(l0.rdAt (cs:=[c2_19]) 0 rfl).of_mem mS,(fun z hz=>(hj0.stagesD z hz).of_mem mS),(m0.rdAt (cs:=[c3_20]) 0 rfl).of_mem mS⟩,⟨⟨by have h:=hjS.1.1;first|(dsimp only;omega)|(simp;omega),mem_set (fun z hz=>planeS_mono (hjS.1.2 z hz) om) z2⟩,⟨by have h:=hjS.2.1.1;first|(dsimp only;omega)|(simp;omega),(fun z hz=>stageB_mono (hjS.2.1.2 z hz) om)⟩,⟨by have h:=hjS.2.2.1.1;first|(dsimp only;omega)|(simp;omega),hjS.2.2.1.2⟩,by have h:=hjS.2.2.2;unfold numB at*;dsimp only;omega⟩⟩
 refine sR<|pu2<|nT<|cE w0 2 (fun f3=>?_) (fun f3=>?_)
 ·refine drawE [3,4,5,6,8] [(1,⟨b0,2,none⟩, .slice a3_11 n3_16 k3_17)] [(true,[0,2]),(true,[1]),(false,[3]),(false,[4]),(false,[5]),(false,[6]),(true,[7]),(false,[8])] rfl kr ⟨cI d0 5,trivial⟩ ?_
  have g3:=d0.drew
  refine wU [0,2]<|wLd (.slice a3_11 n3_16 k3_17) 0 isAgg22<|wO rfl<|sBS g3 #[I (-1),I 0,I 16,I 99] runUnderlying22 sizeOf3 zeroValue3 fun _ _ y1=>nilO ⟨⟨cI y1 6,trivial⟩,?_⟩
  refine wO rfl ?_
  have h3:=(y1.pick 1 rfl)
  refine cX call38 (tape_pick (RdT.flat (hR.up 7 (by rfl))) om h3.flat1 (RdT.flat (RdT.blk (enc:=Go.E.encI) (sz:=1) (xs:=[-1,0,16,99]) (fun _=>(by rfl)) 4 0 rfl rfl rfl om)) om om) ?_
  rintro _ _ ⟨s0,rfl,i3,l1,_,j3⟩
  have z1:=j3.unflat1
  have o5:(s0:Int)=(-1)\/(s0:Int)=0\/(s0:Int)=16\/(s0:Int)=99:=by simpa using i3
  refine nilO ⟨⟨cI z1 6,trivial⟩,?_⟩
  refine wO rfl<|sBS z1 #[I s0] runUnderlying22 sizeOf3 zeroValue3 fun _ _ a2=>nilO ⟨⟨cI a2 7,trivial⟩,?_⟩
  refine wO rfl<|sApp (nb:=8) a2 m0 5 (RdT.blk (enc:=Go.E.encI) (sz:=1) (xs:=[s0]) fR 1 0 rfl rfl rfl om) underlying22 (i:=Tryz.t3) kr fR fun b1 c1 d1 _ k3 l3=>nilO ⟨dA,?_⟩
  refine wU [7]<|wO rfl<|tW l3 7 2 (.slice b1 (n3_16+1) c1) sizeOf22 fun _ m3=>nilO ⟨dA,?_⟩
  refine wN<|bN<|tN ?_
  have n3:=((m3.picks [6,7,3]).drops [3,3])
  have o3:Sat W _ ([(p, .cells #[.slice a n k,I l1] 85 (0,0))]::[(b0, .cells #[.slice a1_9 n1_12 k1_13, .slice a2_10 n2_14 k2_15, .slice b1 (n3_16+1) c1,I j0.priority] 28 (0,0))]::[(h0, .cells #[nS,nS,nS,I 0] 28 (0,0))]::(c1_18++c2_19++d1)::J::H::F):=Sat.perm (show Sat W _ ([(p, .cells #[.slice a n k,I l1] 85 (0,0))]::[(b0, .cells #[.slice a1_9 n1_12 k1_13, .slice a2_10 n2_14 k2_15, .slice b1 (n3_16+1) c1,I j0.priority] 28 (0,0))]::[(h0, .cells #[nS,nS,nS,I 0] 28 (0,0))]::c1_18::c2_19::d1::J::H::F) from n3) (by simp [Value.cells])
  exact ⟨((⟨⟨a1_9,n1_12,k1_13,j0.inputs.l⟩,⟨a2_10,n2_14,k2_15,j0.stages.l⟩,⟨b1,(n3_16+1),c1,(j0.outputs.l++[s0])⟩,j0.priority⟩:Job),(c1_18++c2_19++d1),l1),alA,o3,om,⟨(k0.rdAt (cs:=[c1_18]) 0 rfl).of_mem mS,(fun z hz=>(hj0.inputsD z hz).of_mem mS),(l0.rdAt (cs:=[c2_19]) 0 rfl).of_mem mS,(fun z hz=>(hj0.stagesD z hz).of_mem mS),(k3.rdAt (cs:=[d1]) 0 rfl).of_mem mS⟩,⟨⟨by have h:=hjS.1.1;first|(dsimp only;omega)|(simp;omega),(fun z hz=>planeS_mono (hjS.1.2 z hz) om)⟩,⟨by have h:=hjS.2.1.1;first|(dsimp only;omega)|(simp;omega),(fun z hz=>stageB_mono (hjS.2.1.2 z hz) om)⟩,⟨by have h:=hjS.2.2.1.1;first|(dsimp only;omega)|(simp;omega),mem_snoc hjS.2.2.1.2 (by unfold numB;omega)⟩,by have h:=hjS.2.2.2;unfold numB at*;dsimp only;omega⟩⟩
 refine sR<|pu2<|nT<|cE w0 3 (fun p3=>?_) (fun p3=>?_)
 ·refine drawE [6,9] [(1,⟨b0,0,none⟩, .slice a1_9 n1_12 k1_13),(4,⟨b0,0,none⟩, .slice a1_9 n1_12 k1_13)] [(true,[0,2,3]),(true,[1]),(true,[4]),(true,[5]),(false,[6]),(true,[7]),(true,[8]),(false,[9])] rfl kr ⟨cI d0 5,cI d0 5,trivial⟩ ?_
  have q3:=d0.drew
  refine wU [0,2,3]<|wLd (.slice a1_9 n1_12 k1_13) 0 isAgg25<|wLd (.slice a1_9 n1_12 k1_13) 1 isAgg25<|wU [5]<|wO rfl<|cX call13 (tape_next (RdT.flat (hR.up 6 (by rfl))) om q3.flat1 (n1_12:Int) om) ?_
  rintro _ _ ⟨p0,rfl,_,m1,_,r3⟩
  have n1:=r3.unflat1
  refine nilO ⟨⟨cI n1 5,cI n1 5,trivial⟩,?_⟩
  have s3:=k0.part (lo:=0) (hi:=(p0).toNat) om om
  refine wY (.slice (partAddr a1_9 k1_13 0 4) ((p0).toNat-0) (k1_13-0)) rfl (fun w _=>Y_sl (a:=a1_9) (len:=n1_12) (cap:=k1_13) none (some p0) 0 ((p0).toNat) runUnderlying25 sizeOf87 rfl ⟨om,om⟩ om om)<|wU [8]<|wO rfl<|tW n1 5 0 (.slice (partAddr a1_9 k1_13 0 4) ((p0).toNat-0) (k1_13-0)) sizeOf25 fun _ u3=>nilO ⟨dA,?_⟩
  refine wN<|bN<|tN ?_
  have v3:=(u3.picks [4,5,2])
  have w3:Sat W _ ([(p, .cells #[.slice a n k,I m1] 85 (0,0))]::[(b0, .cells #[.slice (partAddr a1_9 k1_13 0 4) ((p0).toNat-0) (k1_13-0), .slice a2_10 n2_14 k2_15, .slice a3_11 n3_16 k3_17,I j0.priority] 28 (0,0))]::[(h0, .cells #[nS,nS,nS,I 0] 28 (0,0))]::(c1_18++c2_19++c3_20)::J::H::F):=Sat.perm (show Sat W _ ([(p, .cells #[.slice a n k,I m1] 85 (0,0))]::[(b0, .cells #[.slice (partAddr a1_9 k1_13 0 4) ((p0).toNat-0) (k1_13-0), .slice a2_10 n2_14 k2_15, .slice a3_11 n3_16 k3_17,I j0.priority] 28 (0,0))]::[(h0, .cells #[nS,nS,nS,I 0] 28 (0,0))]::c1_18::c2_19::c3_20::J::H::F) from v3) (by simp [Value.cells])
  exact ⟨((⟨⟨(partAddr a1_9 k1_13 0 4),((p0).toNat-0),(k1_13-0),((j0.inputs.l.drop 0).take ((p0).toNat-0))⟩,⟨a2_10,n2_14,k2_15,j0.stages.l⟩,⟨a3_11,n3_16,k3_17,j0.outputs.l⟩,j0.priority⟩:Job),(c1_18++c2_19++c3_20),m1),alA,w3,om,⟨(s3.rdAt (cs:=[c1_18]) 0 rfl).of_mem mS,(fun z hz=>(hj0.inputsD z (List.mem_of_mem_drop (List.mem_of_mem_take hz))).of_mem mS),(l0.rdAt (cs:=[c2_19]) 0 rfl).of_mem mS,(fun z hz=>(hj0.stagesD z hz).of_mem mS),(m0.rdAt (cs:=[c3_20]) 0 rfl).of_mem mS⟩,⟨⟨by have h:=hjS.1.1;first|(dsimp only;omega)|(simp;omega),(fun z hz=>(fun z hz=>planeS_mono (hjS.1.2 z hz) om) z (List.mem_of_mem_drop (List.mem_of_mem_take hz)))⟩,⟨by have h:=hjS.2.1.1;first|(dsimp only;omega)|(simp;omega),(fun z hz=>stageB_mono (hjS.2.1.2 z hz) om)⟩,⟨by have h:=hjS.2.2.1.1;first|(dsimp only;omega)|(simp;omega),hjS.2.2.1.2⟩,by have h:=hjS.2.2.2;unfold numB at*;dsimp only;omega⟩⟩
 refine sR<|pu2<|nT<|cE w0 4 (fun x3=>?_) (fun x3=>?_)
 ·refine drawE [7,10] [(1,⟨b0,1,none⟩, .slice a2_10 n2_14 k2_15),(4,⟨b0,1,none⟩, .slice a2_10 n2_14 k2_15)] [(true,[0,2,3]),(true,[1]),(true,[4]),(true,[5]),(true,[6]),(false,[7]),(true,[8]),(true,[9]),(false,[10])] rfl kr ⟨cI d0 5,cI d0 5,trivial⟩ ?_
  have y3:=d0.drew
  refine wU [0,2,3]<|wLd (.slice a2_10 n2_14 k2_15) 0 isAgg26<|wLd (.slice a2_10 n2_14 k2_15) 1 isAgg26<|wU [5]<|wAdd (n2_14:Int) 1<|wO rfl<|cX call13 (tape_next (RdT.flat (hR.up 6 (by rfl))) om y3.flat1 ((n2_14:Int)+1) om) ?_
  rintro _ _ ⟨q0,rfl,_,o1,_,z3⟩
  have q1:=z3.unflat1
  refine nilO ⟨⟨cI q1 5,cI q1 5,trivial⟩,?_⟩
  have a4:=l0.part (lo:=0) (hi:=(q0).toNat) om om
  refine wY (.slice (partAddr a2_10 k2_15 0 18) ((q0).toNat-0) (k2_15-0)) rfl (fun w _=>Y_sl (a:=a2_10) (len:=n2_14) (cap:=k2_15) none (some q0) 0 ((q0).toNat) runUnderlying26 sizeOf38 rfl ⟨om,om⟩ om om)<|wU [9]<|wO rfl<|tW q1 5 1 (.slice (partAddr a2_10 k2_15 0 18) ((q0).toNat-0) (k2_15-0)) sizeOf26 fun _ b4=>nilO ⟨dA,?_⟩
  refine wN<|bN<|tN ?_
  have c4:=(b4.picks [4,5,2])
  have d4:Sat W _ ([(p, .cells #[.slice a n k,I o1] 85 (0,0))]::[(b0, .cells #[.slice a1_9 n1_12 k1_13, .slice (partAddr a2_10 k2_15 0 18) ((q0).toNat-0) (k2_15-0), .slice a3_11 n3_16 k3_17,I j0.priority] 28 (0,0))]::[(h0, .cells #[nS,nS,nS,I 0] 28 (0,0))]::(c1_18++c2_19++c3_20)::J::H::F):=Sat.perm (show Sat W _ ([(p, .cells #[.slice a n k,I o1] 85 (0,0))]::[(b0, .cells #[.slice a1_9 n1_12 k1_13, .slice (partAddr a2_10 k2_15 0 18) ((q0).toNat-0) (k2_15-0), .slice a3_11 n3_16 k3_17,I j0.priority] 28 (0,0))]::[(h0, .cells #[nS,nS,nS,I 0] 28 (0,0))]::c1_18::c2_19::c3_20::J::H::F) from c4) (by simp [Value.cells])
  exact ⟨((⟨⟨a1_9,n1_12,k1_13,j0.inputs.l⟩,⟨(partAddr a2_10 k2_15 0 18),((q0).toNat-0),(k2_15-0),((j0.stages.l.drop 0).take ((q0).toNat-0))⟩,⟨a3_11,n3_16,k3_17,j0.outputs.l⟩,j0.priority⟩:Job),(c1_18++c2_19++c3_20),o1),alA,d4,om,⟨(k0.rdAt (cs:=[c1_18]) 0 rfl).of_mem mS,(fun z hz=>(hj0.inputsD z hz).of_mem mS),(a4.rdAt (cs:=[c2_19]) 0 rfl).of_mem mS,(fun z hz=>(hj0.stagesD z (List.mem_of_mem_drop (List.mem_of_mem_take hz))).of_mem mS),(m0.rdAt (cs:=[c3_20]) 0 rfl).of_mem mS⟩,⟨⟨by have h:=hjS.1.1;first|(dsimp only;omega)|(simp;omega),(fun z hz=>planeS_mono (hjS.1.2 z hz) om)⟩,⟨by have h:=hjS.2.1.1;first|(dsimp only;omega)|(simp;omega),(fun z hz=>(fun z hz=>stageB_mono (hjS.2.1.2 z hz) om) z (List.mem_of_mem_drop (List.mem_of_mem_take hz)))⟩,⟨by have h:=hjS.2.2.1.1;first|(dsimp only;omega)|(simp;omega),hjS.2.2.1.2⟩,by have h:=hjS.2.2.2;unfold numB at*;dsimp only;omega⟩⟩
 refine sR<|pu1<|sL d0 5 1 (.slice a2_10 n2_14 k2_15) (isAgg26 _)<|pu2<|nT<|cD ((n2_14:Int)>0) (fun e4=>?_) (fun e4=>?_)
 rotate_left
 ·refine skipE<|bN<|tN ?_
  have f4:=(d0.picks [4,5,2])
  have g4:Sat W _ ([(p, .cells #[.slice a n k,I t0] 85 (0,0))]::[(b0, .cells #[.slice a1_9 n1_12 k1_13, .slice a2_10 n2_14 k2_15, .slice a3_11 n3_16 k3_17,I j0.priority] 28 (0,0))]::[(h0, .cells #[nS,nS,nS,I 0] 28 (0,0))]::(c1_18++c2_19++c3_20)::J::H::F):=Sat.perm (show Sat W _ ([(p, .cells #[.slice a n k,I t0] 85 (0,0))]::[(b0, .cells #[.slice a1_9 n1_12 k1_13, .slice a2_10 n2_14 k2_15, .slice a3_11 n3_16 k3_17,I j0.priority] 28 (0,0))]::[(h0, .cells #[nS,nS,nS,I 0] 28 (0,0))]::c1_18::c2_19::c3_20::J::H::F) from f4) (by simp [Value.cells])
  exact ⟨((⟨⟨a1_9,n1_12,k1_13,j0.inputs.l⟩,⟨a2_10,n2_14,k2_15,j0.stages.l⟩,⟨a3_11,n3_16,k3_17,j0.outputs.l⟩,j0.priority⟩:Job),(c1_18++c2_19++c3_20),t0),alA,g4,om,⟨(k0.rdAt (cs:=[c1_18]) 0 rfl).of_mem mS,(fun z hz=>(hj0.inputsD z hz).of_mem mS),(l0.rdAt (cs:=[c2_19]) 0 rfl).of_mem mS,(fun z hz=>(hj0.stagesD z hz).of_mem mS),(m0.rdAt (cs:=[c3_20]) 0 rfl).of_mem mS⟩,⟨⟨by have h:=hjS.1.1;first|(dsimp only;omega)|(simp;omega),(fun z hz=>planeS_mono (hjS.1.2 z hz) om)⟩,⟨by have h:=hjS.2.1.1;first|(dsimp only;omega)|(simp;omega),(fun z hz=>stageB_mono (hjS.2.1.2 z hz) om)⟩,⟨by have h:=hjS.2.2.1.1;first|(dsimp only;omega)|(simp;omega),hjS.2.2.1.2⟩,by have h:=hjS.2.2.2;unfold numB at*;dsimp only;omega⟩⟩
 refine sR<|pu2<|sL d0 5 1 (.slice a2_10 n2_14 k2_15) (isAgg26 _)<|pu1<|cX call13 (tape_next (RdT.flat (hR.up 6 (by rfl))) om d0.flat1 (n2_14:Int) om) ?_
 rintro _ _ ⟨c0,rfl,_,_,_,h4⟩
 have e0:=h4.unflat1
 refine pu1<|nT ?_
 obtain ⟨a0,f0,g0,o0,i0,b2,i4⟩:=OwnT.elem l0 c0
 refine drawE [9,11] [(1,⟨b0,1,none⟩, .slice a2_10 n2_14 k2_15),(5,⟨b0,1,none⟩, .slice a2_10 n2_14 k2_15),(8,⟨f0,g0+(c0).toNat*18+0,none⟩,I a0.kind),(8,⟨f0,g0+(c0).toNat*18+1,none⟩,I a0.a),(8,⟨f0,g0+(c0).toNat*18+2,none⟩,I a0.b),(8,⟨f0,g0+(c0).toNat*18+3,none⟩, .bool a0.barrier),(8,⟨f0,g0+(c0).toNat*18+4,none⟩,I a0.edgePolicy),(8,⟨f0,g0+(c0).toNat*18+5,none⟩,I a0.edgeFill),(8,⟨f0,g0+(c0).toNat*18+6,none⟩,I a0.kW),(8,⟨f0,g0+(c0).toNat*18+7,none⟩,I a0.kH),(8,⟨f0,g0+(c0).toNat*18+8,none⟩, .slice a0.weights.a a0.weights.n a0.weights.k),(8,⟨f0,g0+(c0).toNat*18+9,none⟩, .slice a0.row.a a0.row.n a0.row.k),(8,⟨f0,g0+(c0).toNat*18+10,none⟩, .slice a0.col.a a0.col.n a0.col.k),(8,⟨f0,g0+(c0).toNat*18+11,none⟩,I a0.shift),(8,⟨f0,g0+(c0).toNat*18+12,none⟩,I a0.shift2),(8,⟨f0,g0+(c0).toNat*18+13,none⟩, .slice a0.x.a a0.x.n a0.x.k),(8,⟨f0,g0+(c0).toNat*18+14,none⟩, .slice a0.y.a a0.y.n a0.y.k),(8,⟨f0,g0+(c0).toNat*18+15,none⟩,I a0.bins),(8,⟨f0,g0+(c0).toNat*18+16,none⟩, .slice a0.ops.a a0.ops.n a0.ops.k),(8,⟨f0,g0+(c0).toNat*18+17,none⟩,I a0.max_)] [(true,[0,2,3,4,6]),(true,[1]),(true,[5]),(true,[7]),(true,[8]),(false,[9]),(true,[10]),(false,[11])] rfl kr ⟨cI e0 5,cI e0 5, .inr ((i0.up 2 rfl).cell e0 (k:=0) rfl), .inr ((i0.up 2 rfl).cell e0 (k:=1) rfl), .inr ((i0.up 2 rfl).cell e0 (k:=2) rfl), .inr ((i0.up 2 rfl).cell e0 (k:=3) rfl), .inr ((i0.up 2 rfl).cell e0 (k:=4) rfl), .inr ((i0.up 2 rfl).cell e0 (k:=5) rfl), .inr ((i0.up 2 rfl).cell e0 (k:=6) rfl), .inr ((i0.up 2 rfl).cell e0 (k:=7) rfl), .inr ((i0.up 2 rfl).cell e0 (k:=8) rfl), .inr ((i0.up 2 rfl).cell e0 (k:=9) rfl), .inr ((i0.up 2 rfl).cell e0 (k:=10) rfl), .inr ((i0.up 2 rfl).cell e0 (k:=11) rfl), .inr ((i0.up 2 rfl).cell e0 (k:=12) rfl), .inr ((i0.up 2 rfl).cell e0 (k:=13) rfl), .inr ((i0.up 2 rfl).cell e0 (k:=14) rfl), .inr ((i0.up 2 rfl).cell e0 (k:=15) rfl), .inr ((i0.up 2 rfl).cell e0 (k:=16) rfl), .inr ((i0.up 2 rfl).cell e0 (k:=17) rfl),trivial⟩ ?_
 have j4:=e0.drew
 refine wU [0,2,3,4,6]<|wLd (.slice a2_10 n2_14 k2_15) 0 isAgg26<|wLd (.slice a2_10 n2_14 k2_15) 1 isAgg26<|wY (.pointer (some ⟨f0,g0+(c0).toNat*18,none⟩)) rfl (fun w _=>Y_idx (a:=a2_10) (i:=c0) (len:=n2_14) (cap:=k2_15) rfl runUnderlying26 sizeOf38 kr kr b2)<|wY (.agg (encStage a0).toArray) rfl (fun w hF=>Y_loadF rfl (isAgg38 w) (sizeOf38 w) kr rfl ⟨hF 2 _ _ rfl,hF 3 _ _ rfl,hF 4 _ _ rfl,hF 5 _ _ rfl,hF 6 _ _ rfl,hF 7 _ _ rfl,hF 8 _ _ rfl,hF 9 _ _ rfl,hF 10 _ _ rfl,hF 11 _ _ rfl,hF 12 _ _ rfl,hF 13 _ _ rfl,hF 14 _ _ rfl,hF 15 _ _ rfl,hF 16 _ _ rfl,hF 17 _ _ rfl,hF 18 _ _ rfl,hF 19 _ _ rfl,trivial⟩)<|wO rfl ?_
 have k4:=(j4.picks [6,1])
 refine cX call25 (tg_spoilStage (RdT.flat (hR.up 5 (by rfl))) om k4.flat2 a0 ⟨(hj0.stagesD a0 (List.mem_of_getElem? o0)).weights,(hj0.stagesD a0 (List.mem_of_getElem? o0)).row,(hj0.stagesD a0 (List.mem_of_getElem? o0)).col,(hj0.stagesD a0 (List.mem_of_getElem? o0)).x,(hj0.stagesD a0 (List.mem_of_getElem? o0)).xD,(hj0.stagesD a0 (List.mem_of_getElem? o0)).y,(hj0.stagesD a0 (List.mem_of_getElem? o0)).yD,(hj0.stagesD a0 (List.mem_of_getElem? o0)).ops⟩ kk om (hjS.2.1.2 _ (List.mem_of_getElem? o0))) ?_
 rintro _ _ ⟨e1,r1,rfl,l4,m4,s1,_,n4⟩
 have t1:=n4.unflat3
 refine nilO ⟨⟨cI t1 7,cI t1 7,dI,dI,dI,dI,dI,dI,dI,dI,dI,dI,dI,dI,dI,dI,dI,dI,dI,dI,trivial⟩,?_⟩
 refine wY (.pointer (some ⟨f0,g0+(c0).toNat*18,none⟩)) rfl (fun w _=>Y_idx (a:=a2_10) (i:=c0) (len:=n2_14) (cap:=k2_15) rfl runUnderlying26 sizeOf38 kr kr b2)<|wO rfl<|sStF t1 l0 i4 4 (c0).toNat 0 a0 e1 o0 (.agg (encStage e1).toArray) (encStage e1) sizeOf38 fun _ f1 o4 p4=>nilO ⟨dA,?_⟩
 refine wN<|bN<|tN ?_
 have q4:=(p4.picks [5,2,5,5,6,7,6])
 have r4:Sat W _ ([(p, .cells #[.slice a n k,I s1] 85 (0,0))]::[(b0, .cells #[.slice a1_9 n1_12 k1_13, .slice a2_10 n2_14 k2_15, .slice a3_11 n3_16 k3_17,I j0.priority] 28 (0,0))]::[(h0, .cells #[nS,nS,nS,I 0] 28 (0,0))]::(c1_18++f1++r1++c3_20)::J::H::F):=Sat.perm (show Sat W _ ([(p, .cells #[.slice a n k,I s1] 85 (0,0))]::[(b0, .cells #[.slice a1_9 n1_12 k1_13, .slice a2_10 n2_14 k2_15, .slice a3_11 n3_16 k3_17,I j0.priority] 28 (0,0))]::[(h0, .cells #[nS,nS,nS,I 0] 28 (0,0))]::c1_18::f1::r1::c3_20::J::H::F) from q4) (by simp [Value.cells])
 exact ⟨((⟨⟨a1_9,n1_12,k1_13,j0.inputs.l⟩,⟨a2_10,n2_14,k2_15,(j0.stages.l.set ((c0).toNat) e1)⟩,⟨a3_11,n3_16,k3_17,j0.outputs.l⟩,j0.priority⟩:Job),(c1_18++f1++r1++c3_20),s1),alA,r4,om,⟨(k0.rdAt (cs:=[c1_18]) 0 rfl).of_mem mS,(fun z hz=>(hj0.inputsD z hz).of_mem mS),(o4.rdAt (cs:=[f1]) 0 rfl).of_mem mS,(mem_set (fun z hz=>(hj0.stagesD z hz).of_mem mS) (l4.of_mem (fun p hp=>by simp at hp⊢;rcases hp with h|h<;>simp [h]))),(m0.rdAt (cs:=[c3_20]) 0 rfl).of_mem mS⟩,⟨⟨by have h:=hjS.1.1;first|(dsimp only;omega)|(simp;omega),(fun z hz=>planeS_mono (hjS.1.2 z hz) om)⟩,⟨by have h:=hjS.2.1.1;first|(dsimp only;omega)|(simp;omega),mem_set (fun z hz=>stageB_mono (hjS.2.1.2 z hz) om) m4⟩,⟨by have h:=hjS.2.2.1.1;first|(dsimp only;omega)|(simp;omega),hjS.2.2.1.2⟩,by have h:=hjS.2.2.2;unfold numB at*;dsimp only;omega⟩⟩
theorem l20_tasks (W w:World) (H:Chunk) (F:List Chunk) (t:Option Addr) (nt kt:Nat) (xt:List Int) (tw:Int) (th:Int) (ht:RdT Go.E.encI 1 [H] t nt kt xt) (_htw:-9223372036854775808<=tw/\tw<=9223372036854775807) (_hth:-9223372036854775808<=th/\th<=9223372036854775807) (hS:Sat W w (H::F)):
  Calls prog 4 #[.slice t nt kt,I tw,I th] w fun e w'=>e= .returned (.bool true)/\Sat W w' (H::F):=by
 have hlt:=ht.le
 refine callsA 92 func4 rfl<|sR<|pu1<|zS<|pu1<|cX call11 (tape_new t nt kt hS) ?_
 rintro _ _ ⟨w0,rfl,e2⟩
 have g7:=ht.le
 refine pu1<|zS<|pu1<|cX call12 (tg_job (RdT.flat (ht.up 0 (by rfl))) om e2.flat1 4 om) ?_
 rintro _ _ ⟨a0,l0,rfl,c0,k0,_,_,_,_,f2⟩
 have g2:=f2.unflat2
 have m7:a0.inputs.n<=1000000/\a0.stages.n<=1000000/\a0.outputs.n<=1000000:=by have h1:=(c0).inputs.len;have h2:=(c0).stages.len;have h3:=(c0).outputs.len;have h4:=((jobB_S k0)).1.1;have h5:=((jobB_S k0)).2.1.1;have h6:=((jobB_S k0)).2.2.1.1;omega
 refine sAlloc g2 zeroValue28 fun x0 _ i2=>?_
 refine sT i2 0 0 (.agg (encJob a0).toArray) (encJob a0) (encJob a0).toArray sizeOf28 fun _ j2=>zQ<|pu1<|nT<|blockE<|loopN 5<|roundS<|seqE<|sR<|pu2<|nT<|cTt<|kT<|seqE<|blockE<|sR<|pu1 ?_
 have k2:=(j2.pick 1 rfl)
 refine cX call13 (tape_next (RdT.flat (ht.up 2 (by rfl))) om k2.flat1 4 om) ?_
 rintro _ _ ⟨e0,rfl,_,_,_,l2⟩
 have m2:=l2.unflat1
 refine sAdd 1 e0<|pu1<|cX call13 (tape_next (RdT.flat (ht.up 2 (by rfl))) om m2.flat1 4 om) ?_
 rintro _ _ ⟨f0,rfl,_,_,_,n2⟩
 have y0:=n2.unflat1
 refine sAdd 1 f0<|pu2<|zQ<|pu1<|nT<|blockE<|sR<|pu2<|nT<|cFf<|sR<|pu2<|nT<|cFf<|skipE<|bN<|tN<|sR<|lA y0 1 0 4 (isAgg28 _) (sizeOf28 _)<|pu2<|cX call16 (p20_low (F:=[]) a0 (1+e0) (1+f0) (c0.of_mem (mem_flat1 2 (by rfl))) om y0.flat) ?_
 rintro _ _ ⟨o2,q2,r2,s2,z0,a1,rfl,m0,t2,u2,v2⟩
 have b1:=v2.unflat2;have hn_az_40:=m0.len;have hl_az_40:=m0.le
 refine pu5<|zS<|lA b1 3 0 4 (isAgg28 _) (sizeOf28 _)<|pu2<|cX call19 (r20_low (F:=[]) a0 (1+e0) (1+f0) (c0.of_mem (mem_flat1 4 (by rfl))) om b1.flat) ?_
 rintro _ _ ⟨w2,x2,y2,z2,c1,d1,rfl,n0,a3,b3,c3⟩
 have e1:=c3.unflat2;have hn_az_52:=n0.len;have hl_az_52:=n0.le
 refine pu5<|zS<|lA e1 5 0 4 (isAgg28 _) (sizeOf28 _)<|pu2<|cX call20 (p20_cells (F:=[]) a0 (1+e0) (1+f0) (c0.of_mem (mem_flat1 6 (by rfl))) om e1.flat) ?_
 rintro _ _ ⟨rfl,d3⟩
 have f1:=d3.unflat
 refine pu5<|zS<|lA f1 5 0 4 (isAgg28 _) (sizeOf28 _)<|pu2<|cX call21 (r20_cells (F:=[]) a0 (1+e0) (1+f0) (c0.of_mem (mem_flat1 6 (by rfl))) om f1.flat) ?_
 rintro _ _ ⟨rfl,e3⟩
 have f3:=e3.unflat
 refine pu5<|zS<|pu2<|cR call22 (r20_same o2 q2 r2 s2 w2 x2 y2 z2 (RdT.flat (m0.rdAt 2 (by rfl))) (fun z hz=>(t2 z hz).of_mem (mem_flat1 3 (by rfl))) (RdT.flat (n0.rdAt 0 (by rfl))) (fun z hz=>(a3 z hz).of_mem (mem_flat1 1 (by rfl))) (u2.trans b3.symm) f3.flat) fun _ g3=>pu7 ?_
 have g1:((lowC a0.v (1+e0) (1+f0)):Int)=(lowC a0.v (1+e0) (1+f0)):=rfl
 refine sFix 81 _ false (bne_eq_false_iff_eq.2 g1)<|pu5 ?_
 have i3:((celV a0.v (1+e0) (1+f0)):Int)=(celV a0.v (1+e0) (1+f0)):=rfl
 refine sFix 86 _ false (bne_eq_false_iff_eq.2 i3)<|pu4<|nT<|cF _ (bne_eq_false_iff_eq.2 g1)<|skipE<|bN<|tN<|rE<|pu3<|nT<|roundS<|seqE<|sR<|pu2<|nT<|cTt<|kT<|seqE<|blockE<|sR<|pu1 ?_
 have j3:=(g3.pick 4 rfl)
 refine cX call13 (tape_next (RdT.flat (ht.up 6 (by rfl))) om j3.flat1 4 om) ?_
 rintro _ _ ⟨g0,rfl,_,_,_,k3⟩
 have l3:=k3.unflat1
 refine sAdd 1 g0<|pu1<|cX call13 (tape_next (RdT.flat (ht.up 6 (by rfl))) om l3.flat1 4 om) ?_
 rintro _ _ ⟨h0,rfl,_,_,_,m3⟩
 have i1:=m3.unflat1
 refine sAdd 1 h0<|pu2<|zQ<|pu1<|nT<|blockE<|sR<|pu2<|nT<|cFf<|sR<|pu2<|nT<|cFf<|skipE<|bN<|tN<|sR<|lA i1 5 0 4 (isAgg28 _) (sizeOf28 _)<|pu2<|cX call16 (p20_low (F:=[]) a0 (1+g0) (1+h0) (c0.of_mem (mem_flat1 6 (by rfl))) om i1.flat) ?_
 rintro _ _ ⟨n3,o3,p3,q3,j1,k1,rfl,o0,r3,s3,t3⟩
 have l1:=t3.unflat2;have hn_az_90:=o0.len;have hl_az_90:=o0.le
 refine pu5<|zS<|lA l1 7 0 4 (isAgg28 _) (sizeOf28 _)<|pu2<|cX call19 (r20_low (F:=[]) a0 (1+g0) (1+h0) (c0.of_mem (mem_flat1 8 (by rfl))) om l1.flat) ?_
 rintro _ _ ⟨u3,v3,w3,x3,m1,n1,rfl,p0,y3,z3,a4⟩
 have o1:=a4.unflat2;have hn_az_102:=p0.len;have hl_az_102:=p0.le
 refine pu5<|zS<|lA o1 9 0 4 (isAgg28 _) (sizeOf28 _)<|pu2<|cX call20 (p20_cells (F:=[]) a0 (1+g0) (1+h0) (c0.of_mem (mem_flat1 10 (by rfl))) om o1.flat) ?_
 rintro _ _ ⟨rfl,b4⟩
 have q1:=b4.unflat
 refine pu5<|zS<|lA q1 9 0 4 (isAgg28 _) (sizeOf28 _)<|pu2<|cX call21 (r20_cells (F:=[]) a0 (1+g0) (1+h0) (c0.of_mem (mem_flat1 10 (by rfl))) om q1.flat) ?_
 rintro _ _ ⟨rfl,c4⟩
 have d4:=c4.unflat
 refine pu5<|zS<|pu2<|cR call22 (r20_same n3 o3 p3 q3 u3 v3 w3 x3 (RdT.flat (o0.rdAt 2 (by rfl))) (fun z hz=>(r3 z hz).of_mem (mem_flat1 3 (by rfl))) (RdT.flat (p0.rdAt 0 (by rfl))) (fun z hz=>(y3 z hz).of_mem (mem_flat1 1 (by rfl))) (s3.trans z3.symm) d4.flat) fun _ e4=>pu7 ?_
 have r1:((lowC a0.v (1+g0) (1+h0)):Int)=(lowC a0.v (1+g0) (1+h0)):=rfl
 refine sFix 81 _ false (bne_eq_false_iff_eq.2 r1)<|pu5 ?_
 have f4:((celV a0.v (1+g0) (1+h0)):Int)=(celV a0.v (1+g0) (1+h0)):=rfl
 refine sFix 86 _ false (bne_eq_false_iff_eq.2 f4)<|pu4<|nT<|cF _ (bne_eq_false_iff_eq.2 r1)<|skipE<|bN<|tN<|rE<|pu3<|nT<|roundS<|seqE<|sR<|pu2<|nT<|cTt<|kT<|seqE<|blockE<|sR<|pu1 ?_
 have g4:=(e4.pick 4 rfl)
 refine cX call13 (tape_next (RdT.flat (ht.up 10 (by rfl))) om g4.flat1 4 om) ?_
 rintro _ _ ⟨i0,rfl,_,_,_,i4⟩
 have j4:=i4.unflat1
 refine sAdd 1 i0<|pu1<|cX call13 (tape_next (RdT.flat (ht.up 10 (by rfl))) om j4.flat1 4 om) ?_
 rintro _ _ ⟨j0,rfl,_,_,_,k4⟩
 have s1:=k4.unflat1
 refine sAdd 1 j0<|pu2<|zQ<|pu1<|nT<|blockE<|sR<|pu2<|nT<|cTt<|rE<|pu1<|lA s1 9 0 4 (isAgg28 _) (sizeOf28 _) ?_
 have l4:=(s1.picks [10,1])
 refine cX call18 (tg_spoilJob (RdT.flat (ht.up 9 (by rfl))) om l4.flat2 a0 ⟨c0.inputs,c0.inputsD,c0.stages,c0.stagesD,c0.outputs⟩ 0 om (jobB_S k0)) ?_
 rintro _ _ ⟨b0,q0,rfl,d0,r0,t1,_,m4⟩
 have n4:=m4.unflat3
 have o4:=(n4.picks [2,2,2])
 have p4:Sat W _ ([(w0, .cells #[.slice t nt kt,I t1] 85 (0,0))]::(q0++l0)::m1::n1::j1::k1::c1::d1::z0::a1::[(x0, .cells (encJob a0).toArray 28 (0,0))]::H::F):=Sat.perm (show Sat W _ ([(w0, .cells #[.slice t nt kt,I t1] 85 (0,0))]::q0::l0::m1::n1::j1::k1::c1::d1::z0::a1::[(x0, .cells (encJob a0).toArray 28 (0,0))]::H::F) from o4) (by simp [Value.cells])
 have z8:Job.Ok [(q0++l0)] a0:=c0.of_mem mS
 have a9:b0.inputs.n<=1000000/\b0.stages.n<=1000000/\b0.outputs.n<=1000000:=by have h1:=(d0).inputs.len;have h2:=(d0).stages.len;have h3:=(d0).outputs.len;have h4:=(r0).1.1;have h5:=(r0).2.1.1;have h6:=(r0).2.2.1.1;omega
 refine sT p4 10 0 (.agg (encJob b0).toArray) (encJob b0) (encJob b0).toArray sizeOf28 fun _ u1=>nB<|sR<|lA u1 10 0 4 (isAgg28 _) (sizeOf28 _)<|pu2<|cX call16 (p20_low (F:=[]) b0 (1+i0) (1+j0) (d0.of_mem (mem_flat1 1 (by rfl))) om u1.flat) ?_
 rintro _ _ ⟨q4,r4,s4,t4,_,_,rfl,s0,u4,v4,w4⟩
 have v1:=w4.unflat2;have hn_az_156:=s0.len;have hl_az_156:=s0.le
 refine pu5<|zS<|lA v1 12 0 4 (isAgg28 _) (sizeOf28 _)<|pu2<|cX call19 (r20_low (F:=[]) b0 (1+i0) (1+j0) (d0.of_mem (mem_flat1 3 (by rfl))) om v1.flat) ?_
 rintro _ _ ⟨x4,y4,z4,a5,_,_,rfl,t0,b5,c5,d5⟩
 have w1:=d5.unflat2;have hn_az_168:=t0.len;have hl_az_168:=t0.le
 refine pu5<|zS<|lA w1 14 0 4 (isAgg28 _) (sizeOf28 _)<|pu2<|cX call20 (p20_cells (F:=[]) b0 (1+i0) (1+j0) (d0.of_mem (mem_flat1 5 (by rfl))) om w1.flat) ?_
 rintro _ _ ⟨rfl,e5⟩
 have x1:=e5.unflat
 refine pu5<|zS<|lA x1 14 0 4 (isAgg28 _) (sizeOf28 _)<|pu2<|cX call21 (r20_cells (F:=[]) b0 (1+i0) (1+j0) (d0.of_mem (mem_flat1 5 (by rfl))) om x1.flat) ?_
 rintro _ _ ⟨rfl,f5⟩
 have g5:=f5.unflat
 refine pu5<|zS<|pu2<|cR call22 (r20_same q4 r4 s4 t4 x4 y4 z4 a5 (RdT.flat (s0.rdAt 2 (by rfl))) (fun z hz=>(u4 z hz).of_mem (mem_flat1 3 (by rfl))) (RdT.flat (t0.rdAt 0 (by rfl))) (fun z hz=>(b5 z hz).of_mem (mem_flat1 1 (by rfl))) (v4.trans c5.symm) g5.flat) fun _ i5=>pu7 ?_
 have y1:((lowC b0.v (1+i0) (1+j0)):Int)=(lowC b0.v (1+i0) (1+j0)):=rfl
 refine sFix 81 _ false (bne_eq_false_iff_eq.2 y1)<|pu5 ?_
 have j5:((celV b0.v (1+i0) (1+j0)):Int)=(celV b0.v (1+i0) (1+j0)):=rfl
 refine sFix 86 _ false (bne_eq_false_iff_eq.2 j5)<|pu4<|nT<|cF _ (bne_eq_false_iff_eq.2 y1)<|skipE<|bN<|tN<|rE<|pu3<|nT<|roundS<|seqE<|sR<|pu2<|nT<|cTt<|kT<|seqE<|blockE<|sR<|pu1 ?_
 have k5:=(i5.pick 4 rfl)
 refine cX call13 (tape_next (RdT.flat (ht.up 14 (by rfl))) om k5.flat1 4 om) ?_
 rintro _ _ ⟨l5,rfl,_,_,_,m5⟩
 have n5:=m5.unflat1
 refine sAdd 1 l5<|pu1<|cX call13 (tape_next (RdT.flat (ht.up 14 (by rfl))) om n5.flat1 4 om) ?_
 rintro _ _ ⟨o5,rfl,_,_,_,p5⟩
 have z1:=p5.unflat1
 refine sAdd 1 o5<|pu2<|zQ<|pu1<|nT<|blockE<|sR<|pu2<|nT<|cFf<|sR<|pu2<|nT<|cTt<|rE<|pu4<|nB<|sR<|lA z1 14 0 4 (isAgg28 _) (sizeOf28 _)<|pu2<|cX call16 (p20_low (F:=[]) b0 tw th (d0.of_mem (mem_flat1 5 (by rfl))) om z1.flat) ?_
 rintro _ _ ⟨q5,r5,s5,t5,_,_,rfl,u0,u5,v5,w5⟩
 have a2:=w5.unflat2;have hn_az_206:=u0.len;have hl_az_206:=u0.le
 refine pu5<|zS<|lA a2 16 0 4 (isAgg28 _) (sizeOf28 _)<|pu2<|cX call19 (r20_low (F:=[]) b0 tw th (d0.of_mem (mem_flat1 7 (by rfl))) om a2.flat) ?_
 rintro _ _ ⟨x5,y5,z5,a6,_,_,rfl,v0,b6,c6,d6⟩
 have b2:=d6.unflat2;have hn_az_218:=v0.len;have hl_az_218:=v0.le
 refine pu5<|zS<|lA b2 18 0 4 (isAgg28 _) (sizeOf28 _)<|pu2<|cX call20 (p20_cells (F:=[]) b0 tw th (d0.of_mem (mem_flat1 9 (by rfl))) om b2.flat) ?_
 rintro _ _ ⟨rfl,e6⟩
 have c2:=e6.unflat
 refine pu5<|zS<|lA c2 18 0 4 (isAgg28 _) (sizeOf28 _)<|pu2<|cX call21 (r20_cells (F:=[]) b0 tw th (d0.of_mem (mem_flat1 9 (by rfl))) om c2.flat) ?_
 rintro _ _ ⟨rfl,f6⟩
 have g6:=f6.unflat
 refine pu5<|zS<|pu2<|cR call22 (r20_same q5 r5 s5 t5 x5 y5 z5 a6 (RdT.flat (u0.rdAt 2 (by rfl))) (fun z hz=>(u5 z hz).of_mem (mem_flat1 3 (by rfl))) (RdT.flat (v0.rdAt 0 (by rfl))) (fun z hz=>(b6 z hz).of_mem (mem_flat1 1 (by rfl))) (v5.trans c6.symm) g6.flat) fun _ i6=>pu7 ?_
 have d2:((lowC b0.v tw th):Int)=(lowC b0.v tw th):=rfl
 refine sFix 81 _ false (bne_eq_false_iff_eq.2 d2)<|pu5 ?_
 have j6:((celV b0.v tw th):Int)=(celV b0.v tw th):=rfl
 refine sFix 86 _ false (bne_eq_false_iff_eq.2 j6)<|pu4<|nT<|cF _ (bne_eq_false_iff_eq.2 d2)<|skipE<|bN<|tN<|rE<|pu3<|nT<|roundS<|seqE<|sR<|pu2<|nT<|cFf<|exitE<|xB<|tN<|sR<|cR call17 (l20_sane i6.flat) fun _ k6=>pu1<|zE<|retT [.bool true] ?_
 have l6:=(k6.pick 19 rfl)
 have m6:=l6.dropAt 1 rfl
 have n6:=m6.dropAt 1 rfl
 have o6:=n6.dropAt 1 rfl
 have p6:=o6.dropAt 1 rfl
 have q6:=p6.dropAt 1 rfl
 have r6:=q6.dropAt 1 rfl
 have s6:=r6.dropAt 1 rfl
 have t6:=s6.dropAt 1 rfl
 have u6:=t6.dropAt 1 rfl
 have v6:=u6.dropAt 1 rfl
 have w6:=v6.dropAt 1 rfl
 have x6:=w6.dropAt 1 rfl
 have y6:=x6.dropAt 1 rfl
 have z6:=y6.dropAt 1 rfl
 have a7:=z6.dropAt 1 rfl
 have b7:=a7.dropAt 1 rfl
 have c7:=b7.dropAt 1 rfl
 have d7:=c7.dropAt 1 rfl
 exact ⟨rfl,(d7.dropAt 1 rfl)⟩
end Go.Proofs.YtdingplbadblpaaGreat
