import Derived.Test.YtmlhcafjelkjfaaGreatP3Ab
import Derived.WalkKit
import Derived.Deep.Quiet
import Derived.KernelRfl
import Derived.Laws.BytesString
import Derived.Laws.Shifts
import Derived.Laws.IdiomStrings
import Derived.Test.YtmlhcafjelkjfaaGreatProg
import Derived.Laws.IdiomRangeMap
import Derived.Test.YtmlhcafjelkjfaaGreatP3TJob
import Derived.Test.YtmlhcafjelkjfaaGreatP3Tv
import Derived.Test.YtmlhcafjelkjfaaGreatP3Spoil
namespace Go.Proofs.YtmlhcafjelkjfaaGreat
open Go Go.E Go.Proofs.Tryz
set_option linter.all false
set_option maxRecDepth 100000
set_option maxHeartbeats 2000000
variable {W w:World} {H:Chunk} {F:List Chunk}
theorem tg_copyJob (W w:World) (H:Chunk) (F:List Chunk) (j0:Job) (hj0:Job.Ok [H] j0) (hb:j0.inputs.n<=1000/\j0.stages.n<=1000/\j0.outputs.n<=1000) (hS:Sat W w (H::F)):
  Calls prog 43 #[.agg (encJob j0).toArray] w fun e w'=>∃(a1 a2 a3:Option Addr) (n1 k1 n2 k2 n3 k3:Nat) (c1 c2 c3:Chunk),e= .returned (.agg #[.slice a1 n1 k1, .slice a2 n2 k2, .slice a3 n3 k3,I j0.priority])/\OwnT encPlane 38 4 a1 n1 k1 j0.inputs.l c1/\OwnT encStage 53 18 a2 n2 k2 j0.stages.l c2/\OwnT Go.E.encI 3 1 a3 n3 k3 j0.outputs.l c3/\Sat W w' (c1::c2::c3::H::F):=by
 have hl_j0_inputs:=hj0.inputs.le;have hn_j0_inputs:=hj0.inputs.len
 have hl_j0_stages:=hj0.stages.le;have hn_j0_stages:=hj0.stages.len
 have hl_j0_outputs:=hj0.outputs.le;have hn_j0_outputs:=hj0.outputs.len
 refine callsA 19 func43 rfl<|sR<|sBox hS (.agg (encJob j0).toArray) (encJob j0).toArray fun _ _ m0=>sAlloc m0 zeroValue28 fun _ _ n0=>zS<|sBS n0 #[] runUnderlying25 sizeOf38 zeroValue38 fun o0 _ g0=>pu1<|sL g0 2 0 (.slice j0.inputs.a j0.inputs.n j0.inputs.k) (isAgg25 _)<|sApp (nb:=48) g0 (OwnT.blk (enc:=encPlane) (sz:=4) (b:=o0) (c:=#[]) (E:=38) (xs:=[]) fR 0 rfl rfl rfl om) 0 (hj0.inputs.up 3 rfl) underlying25 (i:=Tryz.t38) kr fR fun a0 b0 _ _ q0 r0=>pu1 ?_
 refine tW r0 2 0 (.slice a0 (0+j0.inputs.n) b0) sizeOf25 fun _ s0=>zS<|sBS s0 #[] runUnderlying26 sizeOf53 zeroValue53 fun t0 _ h0=>pu1<|sL h0 3 1 (.slice j0.stages.a j0.stages.n j0.stages.k) (isAgg26 _)<|sApp (nb:=240) h0 (OwnT.blk (enc:=encStage) (sz:=18) (b:=t0) (c:=#[]) (E:=53) (xs:=[]) fR 0 rfl rfl rfl om) 0 (hj0.stages.up 4 rfl) underlying26 (i:=Tryz.t53) kr fR fun c0 d0 _ _ v0 w0=>pu1<|tW w0 3 1 (.slice c0 (0+j0.stages.n) d0) sizeOf26 fun _ x0=>zS<|sBS x0 #[] runUnderlying22 sizeOf3 zeroValue3 fun y0 _ i0=>pu1<|sL i0 4 2 (.slice j0.outputs.a j0.outputs.n j0.outputs.k) (isAgg22 _) ?_
 refine sApp (nb:=8) i0 (OwnT.blk (enc:=Go.E.encI) (sz:=1) (b:=y0) (c:=#[]) (E:=3) (xs:=[]) fR 0 rfl rfl rfl om) 0 (hj0.outputs.up 5 rfl) underlying22 (i:=Tryz.t3) kr fR fun e0 f0 _ _ b1 d1=>pu1<|tW d1 4 2 (.slice e0 (0+j0.outputs.n) f0) sizeOf22 fun _ k0=>zS<|lA k0 4 0 4 (isAgg28 _) (sizeOf28 _)<|sTl k0 3 [.slice a0 (0+j0.inputs.n) b0, .slice c0 (0+j0.stages.n) d0, .slice e0 (0+j0.outputs.n) f0,I j0.priority] sizeOf28 fun _ l0=>?_
 exact zE<|retN (vs:=[.agg #[.slice a0 (0+j0.inputs.n) b0, .slice c0 (0+j0.stages.n) d0, .slice e0 (0+j0.outputs.n) f0,I j0.priority]]) rfl (.cons (.cell _ _ _ _ kr (lvA l0 3 0 [.slice a0 (0+j0.inputs.n) b0, .slice c0 (0+j0.stages.n) d0, .slice e0 (0+j0.outputs.n) f0,I j0.priority] (isAgg28 _) (sizeOf28 _) rfl rfl rfl)) .nil)<|⟨_,_,_,_,_,_,_,_,_,_,_,_,rfl,(by have h:=q0;rw [List.nil_append] at h;exact h),(by have h:=v0;rw [List.nil_append] at h;exact h),(by have h:=b1;rw [List.nil_append] at h;exact h),((l0.picks [1,2]).drops [3,3])⟩
def jobS (k:Nat) (q:Job):Prop:=(q.inputs.l.length<=2/\∀z∈q.inputs.l,planeS k z)/\(q.stages.l.length<=4/\∀z∈q.stages.l,stageB k z)/\(q.outputs.l.length<=2+k/\∀z∈q.outputs.l,numB z)/\numB q.priority
theorem planeS_mono {k m:Nat} {q:Plane} (h:planeS k q) (hm:k<=m):planeS m q:=⟨⟨numS_mono h.1.1 hm,numS_mono h.1.2.1 hm,numS_mono h.1.2.2 hm⟩,by have:=h.2.1;omega,fun z hz=>numS_mono (h.2.2 z hz) hm⟩
theorem stageB_mono {k m:Nat} {q:Stage} (h:stageB k q) (hm:k<=m):stageB m q:=by
  unfold stageB at*
  refine ⟨h.1,h.2.1,h.2.2.1,h.2.2.2.1,⟨by have:=h.2.2.2.2.1.1;omega,h.2.2.2.2.1.2⟩,⟨by have:=h.2.2.2.2.2.1.1;omega,h.2.2.2.2.2.1.2⟩,by have:=h.2.2.2.2.2.2.1;omega,h.2.2.2.2.2.2.2⟩
theorem jobB_S {q:Job} (h:jobB 0 q):jobS 0 q:=by
  refine ⟨⟨h.1.1,fun z hz=>?_⟩,h.2⟩
  have h1:=h.1.2 z hz
  have e:∀x,numB x->numS 0 x:=fun x hx=>by unfold numB at hx;unfold numS;omega
  exact ⟨⟨e _ h1.2.1,e _ h1.2.2.1,e _ h1.2.2.2⟩,by have:=h1.1.1;omega,fun y hy=>e _ (h1.1.2 y hy)⟩
theorem tg_spoilJob {J:Chunk} {p:Nat} {a:Option Addr} {n k:Nat} {i:Int} {xs:List Int} (hR:RdT Go.E.encI 1 [H] a n k xs) (hi:0<=i/\i<=n) (hS:Sat W w ([(p, .cells #[.slice a n k,I i] 81 (0,0))]::J::H::F)) (j0:Job) (hj0:Job.Ok [J] j0) (kk:Nat) (hkk:kk<=100) (hjS:jobS kk j0):
  Calls prog 38 #[Pt p 0, .agg (encJob j0).toArray] w fun e w'=>∃(q:Job) (G:Chunk),e= .returned (.agg (encJob q).toArray)/\(Job.Ok [G++J] q)/\(jobS (kk+1) q)/\∃i':Int,(0<=i'/\i'<=n)/\Sat W w' ([(p, .cells #[.slice a n k,I i'] 81 (0,0))]::G::J::H::F):=by
 have hl_j0_inputs:=hj0.inputs.le;have hn_j0_inputs:=hj0.inputs.len
 have hl_j0_stages:=hj0.stages.le;have hn_j0_stages:=hj0.stages.len
 have hl_j0_outputs:=hj0.outputs.le;have hn_j0_outputs:=hj0.outputs.len
 have hle:=hR.le
 have hb1:=hjS.1.1;have hb2:=hjS.2.1.1;have hb3:=hjS.2.2.1.1
 refine callsA 85 func38 rfl<|sR<|sBox hS (.agg (encJob j0).toArray) (encJob j0).toArray fun b0 _ b2=>sAlloc b2 zeroValue28 fun h0 _ t1=>zS<|lA t1 1 0 4 (isAgg28 _) (sizeOf28 _)<|sF #[.agg (encJob j0).toArray] call43 (Calls.mono (tg_copyJob W _ _ [] j0 (hj0.of_mem (mem_flat1 3 (by rfl))) om t1.flat) ?_)
 rintro _ _ ⟨a1_9,a2_10,a3_11,n1_12,k1_13,n2_14,k2_15,n3_16,k3_17,c1_18,c2_19,c3_20,rfl,k0,l0,m0,u1⟩
 refine ⟨_,rfl,?_⟩
 have c2:=Sat.unflatc u1;clear u1
 have hn_a1_9:=k0.len;have hl_a1_9:=k0.le
 have hn_a2_10:=l0.len;have hl_a2_10:=l0.le
 have hn_a3_11:=m0.len;have hl_a3_11:=m0.le
 refine sTl c2 4 [.slice a1_9 n1_12 k1_13, .slice a2_10 n2_14 k2_15, .slice a3_11 n3_16 k3_17,I j0.priority] sizeOf28 fun _ d2=>nT<|cutA (γ:=Job×Chunk×Int) (fun ⟨q,G1,itc⟩=>[(3,Pt b0 0),(4,Pt h0 0)]) (fun ⟨q,G1,itc⟩ w=>Sat W w ([(p, .cells #[.slice a n k,I itc] 81 (0,0))]::[(b0, .cells (encJob q).toArray 28 (0,0))]::[(h0, .cells #[nS,nS,nS,I 0] 28 (0,0))]::G1::J::H::F)/\(0<=itc/\itc<=n)/\Job.Ok [G1++J] q/\jobS (kk+1) q) ?_ ?_
 rotate_left
 ·rintro ⟨q,G1,itc⟩ ρ _ ⟨v1,hitc,hqok,hqS⟩
  exact sR<|lA v1 1 0 4 (isAgg28 _) (sizeOf28 _)<|sTl v1 2 (encJob q) sizeOf28 fun _ w1=>zE<|retN (vs:=[.agg (encJob q).toArray]) rfl (.cons (.cell _ _ _ _ kr (lvA w1 2 0 (encJob q) (isAgg28 _) (sizeOf28 _) rfl rfl rfl)) .nil)<|⟨q,G1,rfl,hqok,hqS,_,om,(w1.drops [1,1])⟩
 refine sR<|pu1 ?_
 have f2:=(d2.pick 5 rfl)
 refine cX call15 (tape_next (RdT.flat (hR.up 6 (by rfl))) om f2.flat1 7 om) ?_
 rintro _ _ ⟨w0,rfl,_,t0,_,g2⟩
 have d0:=g2.unflat1
 refine nT<|blockE<|sR<|pu2<|nT<|cE w0 0 (fun h2=>?_) (fun h2=>?_)
 ·refine rE<|pu1<|sBS d0 #[I (-1),I 4,I 3] runUnderlying22 sizeOf3 zeroValue3 fun _ _ i2=>?_
  have j2:=(i2.pick 1 rfl)
  refine cX call42 (tape_pick (RdT.flat (hR.up 7 (by rfl))) om j2.flat1 (RdT.flat (RdT.blk (enc:=Go.E.encI) (sz:=1) (xs:=[-1,4,3]) (fun _=>(by rfl)) 3 0 rfl rfl rfl om)) om om) ?_
  rintro _ _ ⟨r0,rfl,k2,g1,_,l2⟩
  have m2:=l2.unflat1
  have d5:(r0:Int)=(-1)\/(r0:Int)=4\/(r0:Int)=3:=by simpa using k2
  refine pu1<|tW m2 6 3 (I r0) sizeOf3 fun _ n2=>nB ?_
  have o2:=((n2.picks [5,6,2]).dropAt 3 rfl)
  have p2:Sat W _ ([(p, .cells #[.slice a n k,I g1] 81 (0,0))]::[(b0, .cells #[.slice a1_9 n1_12 k1_13, .slice a2_10 n2_14 k2_15, .slice a3_11 n3_16 k3_17,I r0] 28 (0,0))]::[(h0, .cells #[nS,nS,nS,I 0] 28 (0,0))]::(c1_18++c2_19++c3_20)::J::H::F):=Sat.perm (show Sat W _ ([(p, .cells #[.slice a n k,I g1] 81 (0,0))]::[(b0, .cells #[.slice a1_9 n1_12 k1_13, .slice a2_10 n2_14 k2_15, .slice a3_11 n3_16 k3_17,I r0] 28 (0,0))]::[(h0, .cells #[nS,nS,nS,I 0] 28 (0,0))]::c1_18::c2_19::c3_20::J::H::F) from o2) (by simp [Value.cells])
  exact ⟨((⟨⟨a1_9,n1_12,k1_13,j0.inputs.l⟩,⟨a2_10,n2_14,k2_15,j0.stages.l⟩,⟨a3_11,n3_16,k3_17,j0.outputs.l⟩,r0⟩:Job),(c1_18++c2_19++c3_20),g1),alA,p2,om,⟨(k0.rdAt (cs:=[c1_18]) 0 rfl).of_mem mS,(fun z hz=>(hj0.inputsD z hz).of_mem mS),(l0.rdAt (cs:=[c2_19]) 0 rfl).of_mem mS,(fun z hz=>(hj0.stagesD z hz).of_mem mS),(m0.rdAt (cs:=[c3_20]) 0 rfl).of_mem mS⟩,⟨⟨by have h:=hjS.1.1;first|(dsimp only;omega)|(simp;omega),(fun z hz=>planeS_mono (hjS.1.2 z hz) om)⟩,⟨by have h:=hjS.2.1.1;first|(dsimp only;omega)|(simp;omega),(fun z hz=>stageB_mono (hjS.2.1.2 z hz) om)⟩,⟨by have h:=hjS.2.2.1.1;first|(dsimp only;omega)|(simp;omega),hjS.2.2.1.2⟩,by have h:=hjS.2.2.2;unfold numB at*;dsimp only;omega⟩⟩
 refine sR<|pu2<|nT<|cE w0 1 (fun q2=>?_) (fun q2=>?_)
 ·refine sR<|pu1<|sL d0 5 0 (.slice a1_9 n1_12 k1_13) (isAgg25 _)<|pu2<|nT<|cD ((n1_12:Int)>0) (fun r2=>?_) (fun r2=>?_)
  rotate_left
  ·refine skipE<|bN<|tN ?_
   have s2:=(d0.picks [4,5,2])
   have t2:Sat W _ ([(p, .cells #[.slice a n k,I t0] 81 (0,0))]::[(b0, .cells #[.slice a1_9 n1_12 k1_13, .slice a2_10 n2_14 k2_15, .slice a3_11 n3_16 k3_17,I j0.priority] 28 (0,0))]::[(h0, .cells #[nS,nS,nS,I 0] 28 (0,0))]::(c1_18++c2_19++c3_20)::J::H::F):=Sat.perm (show Sat W _ ([(p, .cells #[.slice a n k,I t0] 81 (0,0))]::[(b0, .cells #[.slice a1_9 n1_12 k1_13, .slice a2_10 n2_14 k2_15, .slice a3_11 n3_16 k3_17,I j0.priority] 28 (0,0))]::[(h0, .cells #[nS,nS,nS,I 0] 28 (0,0))]::c1_18::c2_19::c3_20::J::H::F) from s2) (by simp [Value.cells])
   exact ⟨((⟨⟨a1_9,n1_12,k1_13,j0.inputs.l⟩,⟨a2_10,n2_14,k2_15,j0.stages.l⟩,⟨a3_11,n3_16,k3_17,j0.outputs.l⟩,j0.priority⟩:Job),(c1_18++c2_19++c3_20),t0),alA,t2,om,⟨(k0.rdAt (cs:=[c1_18]) 0 rfl).of_mem mS,(fun z hz=>(hj0.inputsD z hz).of_mem mS),(l0.rdAt (cs:=[c2_19]) 0 rfl).of_mem mS,(fun z hz=>(hj0.stagesD z hz).of_mem mS),(m0.rdAt (cs:=[c3_20]) 0 rfl).of_mem mS⟩,⟨⟨by have h:=hjS.1.1;first|(dsimp only;omega)|(simp;omega),(fun z hz=>planeS_mono (hjS.1.2 z hz) om)⟩,⟨by have h:=hjS.2.1.1;first|(dsimp only;omega)|(simp;omega),(fun z hz=>stageB_mono (hjS.2.1.2 z hz) om)⟩,⟨by have h:=hjS.2.2.1.1;first|(dsimp only;omega)|(simp;omega),hjS.2.2.1.2⟩,by have h:=hjS.2.2.2;unfold numB at*;dsimp only;omega⟩⟩
  obtain ⟨n0,u0,v0,y0,x0,h1,u2⟩:=OwnT.elem k0 0
  change _[0]?=_ at y0;change PtR _ _ (_+0*_) _ at x0;change ElemAt _ _ _ _ _ (_+0*_) at h1
  refine drawE [7,9] [(1,⟨b0,0,none⟩, .slice a1_9 n1_12 k1_13),(4,⟨b0,0,none⟩, .slice a1_9 n1_12 k1_13),(6,⟨u0,v0+0*4+0,none⟩,I n0.w),(6,⟨u0,v0+0*4+1,none⟩,I n0.h),(6,⟨u0,v0+0*4+2,none⟩,I n0.max_),(6,⟨u0,v0+0*4+3,none⟩, .slice n0.pix.a n0.pix.n n0.pix.k)] [(true,[0,2,3]),(true,[1]),(true,[4]),(true,[5]),(true,[6]),(false,[7]),(true,[8]),(false,[9])] rfl kr ⟨cI d0 5,cI d0 5, .inr ((x0.up 1 rfl).cell d0 (k:=0) rfl), .inr ((x0.up 1 rfl).cell d0 (k:=1) rfl), .inr ((x0.up 1 rfl).cell d0 (k:=2) rfl), .inr ((x0.up 1 rfl).cell d0 (k:=3) rfl),trivial⟩ ?_
  have v2:=d0.drew
  refine wU [0,2,3]<|wLd (.slice a1_9 n1_12 k1_13) 0 isAgg25<|wLd (.slice a1_9 n1_12 k1_13) 1 isAgg25<|wY (.pointer (some ⟨u0,v0+0*4,none⟩)) rfl (fun w _=>Y_idx (a:=a1_9) (i:=0) (len:=n1_12) (cap:=k1_13) rfl runUnderlying25 sizeOf38 kr kr h1)<|wY (.agg (encPlane n0).toArray) rfl (fun w hF=>Y_loadF rfl (isAgg38 w) (sizeOf38 w) kr rfl ⟨hF 2 _ _ rfl,hF 3 _ _ rfl,hF 4 _ _ rfl,hF 5 _ _ rfl,trivial⟩)<|wO rfl<|cX call29 (tg_spoilPlane (RdT.flat (hR.up 6 (by rfl))) om v2.flat1 n0 ⟨(RdT.flat ((hj0.inputsD n0 (List.mem_of_getElem? y0)).pix.up 5 (by rfl)))⟩ kk om (hjS.1.2 _ (List.mem_of_getElem? y0))) ?_
  rintro _ _ ⟨z0,i1,rfl,w2,x2,j1,_,y2⟩
  have k1:=y2.unflat2
  refine nilO ⟨⟨cI k1 6,cI k1 6,dI,dI,dI,dI,trivial⟩,?_⟩
  refine wY (.pointer (some ⟨u0,v0+0*4,none⟩)) rfl (fun w _=>Y_idx (a:=a1_9) (i:=0) (len:=n1_12) (cap:=k1_13) rfl runUnderlying25 sizeOf38 kr kr h1)<|wO rfl<|sStF k1 k0 u2 2 0 0 n0 z0 y0 (.agg (encPlane z0).toArray) (encPlane z0) sizeOf38 fun _ a1 z2 a3=>nilO ⟨dA,?_⟩
  refine wN<|bN<|tN ?_
  have b3:=(a3.picks [2,5,6,3])
  have c3:Sat W _ ([(p, .cells #[.slice a n k,I j1] 81 (0,0))]::[(b0, .cells #[.slice a1_9 n1_12 k1_13, .slice a2_10 n2_14 k2_15, .slice a3_11 n3_16 k3_17,I j0.priority] 28 (0,0))]::[(h0, .cells #[nS,nS,nS,I 0] 28 (0,0))]::(a1++i1++c2_19++c3_20)::J::H::F):=Sat.perm (show Sat W _ ([(p, .cells #[.slice a n k,I j1] 81 (0,0))]::[(b0, .cells #[.slice a1_9 n1_12 k1_13, .slice a2_10 n2_14 k2_15, .slice a3_11 n3_16 k3_17,I j0.priority] 28 (0,0))]::[(h0, .cells #[nS,nS,nS,I 0] 28 (0,0))]::a1::i1::c2_19::c3_20::J::H::F) from b3) (by simp [Value.cells])
  exact ⟨((⟨⟨a1_9,n1_12,k1_13,(j0.inputs.l.set 0 z0)⟩,⟨a2_10,n2_14,k2_15,j0.stages.l⟩,⟨a3_11,n3_16,k3_17,j0.outputs.l⟩,j0.priority⟩:Job),(a1++i1++c2_19++c3_20),j1),alA,c3,om,⟨(z2.rdAt (cs:=[a1]) 0 rfl).of_mem mS,(mem_set (fun z hz=>(hj0.inputsD z hz).of_mem mS) (w2.of_mem mS)),(l0.rdAt (cs:=[c2_19]) 0 rfl).of_mem mS,(fun z hz=>(hj0.stagesD z hz).of_mem mS),(m0.rdAt (cs:=[c3_20]) 0 rfl).of_mem mS⟩,⟨⟨by have h:=hjS.1.1;first|(dsimp only;omega)|(simp;omega),mem_set (fun z hz=>planeS_mono (hjS.1.2 z hz) om) x2⟩,⟨by have h:=hjS.2.1.1;first|(dsimp only;omega)|(simp;omega),(fun z hz=>stageB_mono (hjS.2.1.2 z hz) om)⟩,⟨by have h:=hjS.2.2.1.1;first|(dsimp only;omega)|(simp;omega),hjS.2.2.1.2⟩,by have h:=hjS.2.2.2;unfold numB at*;dsimp only;omega⟩⟩
 refine sR<|pu2<|nT<|cE w0 2 (fun d3=>?_) (fun d3=>?_)
 ·refine drawE [3,4,5,6,8] [(1,⟨b0,2,none⟩, .slice a3_11 n3_16 k3_17)] [(true,[0,2]),(true,[1]),(false,[3]),(false,[4]),(false,[5]),(false,[6]),(true,[7]),(false,[8])] rfl kr ⟨cI d0 5,trivial⟩ ?_
  have e3:=d0.drew
  refine wU [0,2]<|wLd (.slice a3_11 n3_16 k3_17) 0 isAgg22<|wO rfl<|sBS e3 #[I (-1),I 0,I 16,I 99] runUnderlying22 sizeOf3 zeroValue3 fun _ _ x1=>nilO ⟨⟨cI x1 6,trivial⟩,?_⟩
  refine wO rfl ?_
  have f3:=(x1.pick 1 rfl)
  refine cX call42 (tape_pick (RdT.flat (hR.up 7 (by rfl))) om f3.flat1 (RdT.flat (RdT.blk (enc:=Go.E.encI) (sz:=1) (xs:=[-1,0,16,99]) (fun _=>(by rfl)) 4 0 rfl rfl rfl om)) om om) ?_
  rintro _ _ ⟨s0,rfl,g3,l1,_,h3⟩
  have y1:=h3.unflat1
  have m5:(s0:Int)=(-1)\/(s0:Int)=0\/(s0:Int)=16\/(s0:Int)=99:=by simpa using g3
  refine nilO ⟨⟨cI y1 6,trivial⟩,?_⟩
  refine wO rfl<|sBS y1 #[I s0] runUnderlying22 sizeOf3 zeroValue3 fun _ _ z1=>nilO ⟨⟨cI z1 7,trivial⟩,?_⟩
  refine wO rfl<|sApp (nb:=8) z1 m0 5 (RdT.blk (enc:=Go.E.encI) (sz:=1) (xs:=[s0]) fR 1 0 rfl rfl rfl om) underlying22 (i:=Tryz.t3) kr fR fun b1 c1 d1 _ i3 j3=>nilO ⟨dA,?_⟩
  refine wU [7]<|wO rfl<|tW j3 7 2 (.slice b1 (n3_16+1) c1) sizeOf22 fun _ k3=>nilO ⟨dA,?_⟩
  refine wN<|bN<|tN ?_
  have l3:=((k3.picks [6,7,3]).drops [3,3])
  have m3:Sat W _ ([(p, .cells #[.slice a n k,I l1] 81 (0,0))]::[(b0, .cells #[.slice a1_9 n1_12 k1_13, .slice a2_10 n2_14 k2_15, .slice b1 (n3_16+1) c1,I j0.priority] 28 (0,0))]::[(h0, .cells #[nS,nS,nS,I 0] 28 (0,0))]::(c1_18++c2_19++d1)::J::H::F):=Sat.perm (show Sat W _ ([(p, .cells #[.slice a n k,I l1] 81 (0,0))]::[(b0, .cells #[.slice a1_9 n1_12 k1_13, .slice a2_10 n2_14 k2_15, .slice b1 (n3_16+1) c1,I j0.priority] 28 (0,0))]::[(h0, .cells #[nS,nS,nS,I 0] 28 (0,0))]::c1_18::c2_19::d1::J::H::F) from l3) (by simp [Value.cells])
  exact ⟨((⟨⟨a1_9,n1_12,k1_13,j0.inputs.l⟩,⟨a2_10,n2_14,k2_15,j0.stages.l⟩,⟨b1,(n3_16+1),c1,(j0.outputs.l++[s0])⟩,j0.priority⟩:Job),(c1_18++c2_19++d1),l1),alA,m3,om,⟨(k0.rdAt (cs:=[c1_18]) 0 rfl).of_mem mS,(fun z hz=>(hj0.inputsD z hz).of_mem mS),(l0.rdAt (cs:=[c2_19]) 0 rfl).of_mem mS,(fun z hz=>(hj0.stagesD z hz).of_mem mS),(i3.rdAt (cs:=[d1]) 0 rfl).of_mem mS⟩,⟨⟨by have h:=hjS.1.1;first|(dsimp only;omega)|(simp;omega),(fun z hz=>planeS_mono (hjS.1.2 z hz) om)⟩,⟨by have h:=hjS.2.1.1;first|(dsimp only;omega)|(simp;omega),(fun z hz=>stageB_mono (hjS.2.1.2 z hz) om)⟩,⟨by have h:=hjS.2.2.1.1;first|(dsimp only;omega)|(simp;omega),mem_snoc hjS.2.2.1.2 (by unfold numB;omega)⟩,by have h:=hjS.2.2.2;unfold numB at*;dsimp only;omega⟩⟩
 refine sR<|pu2<|nT<|cE w0 3 (fun n3=>?_) (fun n3=>?_)
 ·refine drawE [6,9] [(1,⟨b0,0,none⟩, .slice a1_9 n1_12 k1_13),(4,⟨b0,0,none⟩, .slice a1_9 n1_12 k1_13)] [(true,[0,2,3]),(true,[1]),(true,[4]),(true,[5]),(false,[6]),(true,[7]),(true,[8]),(false,[9])] rfl kr ⟨cI d0 5,cI d0 5,trivial⟩ ?_
  have o3:=d0.drew
  refine wU [0,2,3]<|wLd (.slice a1_9 n1_12 k1_13) 0 isAgg25<|wLd (.slice a1_9 n1_12 k1_13) 1 isAgg25<|wU [5]<|wO rfl<|cX call15 (tape_next (RdT.flat (hR.up 6 (by rfl))) om o3.flat1 (n1_12:Int) om) ?_
  rintro _ _ ⟨p0,rfl,_,m1,_,p3⟩
  have n1:=p3.unflat1
  refine nilO ⟨⟨cI n1 5,cI n1 5,trivial⟩,?_⟩
  have q3:=k0.part (lo:=0) (hi:=(p0).toNat) om om
  refine wY (.slice (partAddr a1_9 k1_13 0 4) ((p0).toNat-0) (k1_13-0)) rfl (fun w _=>Y_sl (a:=a1_9) (len:=n1_12) (cap:=k1_13) none (some p0) 0 ((p0).toNat) runUnderlying25 sizeOf38 rfl ⟨om,om⟩ om om)<|wU [8]<|wO rfl<|tW n1 5 0 (.slice (partAddr a1_9 k1_13 0 4) ((p0).toNat-0) (k1_13-0)) sizeOf25 fun _ r3=>nilO ⟨dA,?_⟩
  refine wN<|bN<|tN ?_
  have s3:=(r3.picks [4,5,2])
  have u3:Sat W _ ([(p, .cells #[.slice a n k,I m1] 81 (0,0))]::[(b0, .cells #[.slice (partAddr a1_9 k1_13 0 4) ((p0).toNat-0) (k1_13-0), .slice a2_10 n2_14 k2_15, .slice a3_11 n3_16 k3_17,I j0.priority] 28 (0,0))]::[(h0, .cells #[nS,nS,nS,I 0] 28 (0,0))]::(c1_18++c2_19++c3_20)::J::H::F):=Sat.perm (show Sat W _ ([(p, .cells #[.slice a n k,I m1] 81 (0,0))]::[(b0, .cells #[.slice (partAddr a1_9 k1_13 0 4) ((p0).toNat-0) (k1_13-0), .slice a2_10 n2_14 k2_15, .slice a3_11 n3_16 k3_17,I j0.priority] 28 (0,0))]::[(h0, .cells #[nS,nS,nS,I 0] 28 (0,0))]::c1_18::c2_19::c3_20::J::H::F) from s3) (by simp [Value.cells])
  exact ⟨((⟨⟨(partAddr a1_9 k1_13 0 4),((p0).toNat-0),(k1_13-0),((j0.inputs.l.drop 0).take ((p0).toNat-0))⟩,⟨a2_10,n2_14,k2_15,j0.stages.l⟩,⟨a3_11,n3_16,k3_17,j0.outputs.l⟩,j0.priority⟩:Job),(c1_18++c2_19++c3_20),m1),alA,u3,om,⟨(q3.rdAt (cs:=[c1_18]) 0 rfl).of_mem mS,(fun z hz=>(hj0.inputsD z (List.mem_of_mem_drop (List.mem_of_mem_take hz))).of_mem mS),(l0.rdAt (cs:=[c2_19]) 0 rfl).of_mem mS,(fun z hz=>(hj0.stagesD z hz).of_mem mS),(m0.rdAt (cs:=[c3_20]) 0 rfl).of_mem mS⟩,⟨⟨by have h:=hjS.1.1;first|(dsimp only;omega)|(simp;omega),(fun z hz=>(fun z hz=>planeS_mono (hjS.1.2 z hz) om) z (List.mem_of_mem_drop (List.mem_of_mem_take hz)))⟩,⟨by have h:=hjS.2.1.1;first|(dsimp only;omega)|(simp;omega),(fun z hz=>stageB_mono (hjS.2.1.2 z hz) om)⟩,⟨by have h:=hjS.2.2.1.1;first|(dsimp only;omega)|(simp;omega),hjS.2.2.1.2⟩,by have h:=hjS.2.2.2;unfold numB at*;dsimp only;omega⟩⟩
 refine sR<|pu2<|nT<|cE w0 4 (fun v3=>?_) (fun v3=>?_)
 ·refine drawE [7,10] [(1,⟨b0,1,none⟩, .slice a2_10 n2_14 k2_15),(4,⟨b0,1,none⟩, .slice a2_10 n2_14 k2_15)] [(true,[0,2,3]),(true,[1]),(true,[4]),(true,[5]),(true,[6]),(false,[7]),(true,[8]),(true,[9]),(false,[10])] rfl kr ⟨cI d0 5,cI d0 5,trivial⟩ ?_
  have w3:=d0.drew
  refine wU [0,2,3]<|wLd (.slice a2_10 n2_14 k2_15) 0 isAgg26<|wLd (.slice a2_10 n2_14 k2_15) 1 isAgg26<|wU [5]<|wAdd (n2_14:Int) 1<|wO rfl<|cX call15 (tape_next (RdT.flat (hR.up 6 (by rfl))) om w3.flat1 ((n2_14:Int)+1) om) ?_
  rintro _ _ ⟨q0,rfl,_,o1,_,x3⟩
  have p1:=x3.unflat1
  refine nilO ⟨⟨cI p1 5,cI p1 5,trivial⟩,?_⟩
  have y3:=l0.part (lo:=0) (hi:=(q0).toNat) om om
  refine wY (.slice (partAddr a2_10 k2_15 0 18) ((q0).toNat-0) (k2_15-0)) rfl (fun w _=>Y_sl (a:=a2_10) (len:=n2_14) (cap:=k2_15) none (some q0) 0 ((q0).toNat) runUnderlying26 sizeOf53 rfl ⟨om,om⟩ om om)<|wU [9]<|wO rfl<|tW p1 5 1 (.slice (partAddr a2_10 k2_15 0 18) ((q0).toNat-0) (k2_15-0)) sizeOf26 fun _ z3=>nilO ⟨dA,?_⟩
  refine wN<|bN<|tN ?_
  have a4:=(z3.picks [4,5,2])
  have b4:Sat W _ ([(p, .cells #[.slice a n k,I o1] 81 (0,0))]::[(b0, .cells #[.slice a1_9 n1_12 k1_13, .slice (partAddr a2_10 k2_15 0 18) ((q0).toNat-0) (k2_15-0), .slice a3_11 n3_16 k3_17,I j0.priority] 28 (0,0))]::[(h0, .cells #[nS,nS,nS,I 0] 28 (0,0))]::(c1_18++c2_19++c3_20)::J::H::F):=Sat.perm (show Sat W _ ([(p, .cells #[.slice a n k,I o1] 81 (0,0))]::[(b0, .cells #[.slice a1_9 n1_12 k1_13, .slice (partAddr a2_10 k2_15 0 18) ((q0).toNat-0) (k2_15-0), .slice a3_11 n3_16 k3_17,I j0.priority] 28 (0,0))]::[(h0, .cells #[nS,nS,nS,I 0] 28 (0,0))]::c1_18::c2_19::c3_20::J::H::F) from a4) (by simp [Value.cells])
  exact ⟨((⟨⟨a1_9,n1_12,k1_13,j0.inputs.l⟩,⟨(partAddr a2_10 k2_15 0 18),((q0).toNat-0),(k2_15-0),((j0.stages.l.drop 0).take ((q0).toNat-0))⟩,⟨a3_11,n3_16,k3_17,j0.outputs.l⟩,j0.priority⟩:Job),(c1_18++c2_19++c3_20),o1),alA,b4,om,⟨(k0.rdAt (cs:=[c1_18]) 0 rfl).of_mem mS,(fun z hz=>(hj0.inputsD z hz).of_mem mS),(y3.rdAt (cs:=[c2_19]) 0 rfl).of_mem mS,(fun z hz=>(hj0.stagesD z (List.mem_of_mem_drop (List.mem_of_mem_take hz))).of_mem mS),(m0.rdAt (cs:=[c3_20]) 0 rfl).of_mem mS⟩,⟨⟨by have h:=hjS.1.1;first|(dsimp only;omega)|(simp;omega),(fun z hz=>planeS_mono (hjS.1.2 z hz) om)⟩,⟨by have h:=hjS.2.1.1;first|(dsimp only;omega)|(simp;omega),(fun z hz=>(fun z hz=>stageB_mono (hjS.2.1.2 z hz) om) z (List.mem_of_mem_drop (List.mem_of_mem_take hz)))⟩,⟨by have h:=hjS.2.2.1.1;first|(dsimp only;omega)|(simp;omega),hjS.2.2.1.2⟩,by have h:=hjS.2.2.2;unfold numB at*;dsimp only;omega⟩⟩
 refine sR<|pu1<|sL d0 5 1 (.slice a2_10 n2_14 k2_15) (isAgg26 _)<|pu2<|nT<|cD ((n2_14:Int)>0) (fun c4=>?_) (fun c4=>?_)
 rotate_left
 ·refine skipE<|bN<|tN ?_
  have d4:=(d0.picks [4,5,2])
  have e4:Sat W _ ([(p, .cells #[.slice a n k,I t0] 81 (0,0))]::[(b0, .cells #[.slice a1_9 n1_12 k1_13, .slice a2_10 n2_14 k2_15, .slice a3_11 n3_16 k3_17,I j0.priority] 28 (0,0))]::[(h0, .cells #[nS,nS,nS,I 0] 28 (0,0))]::(c1_18++c2_19++c3_20)::J::H::F):=Sat.perm (show Sat W _ ([(p, .cells #[.slice a n k,I t0] 81 (0,0))]::[(b0, .cells #[.slice a1_9 n1_12 k1_13, .slice a2_10 n2_14 k2_15, .slice a3_11 n3_16 k3_17,I j0.priority] 28 (0,0))]::[(h0, .cells #[nS,nS,nS,I 0] 28 (0,0))]::c1_18::c2_19::c3_20::J::H::F) from d4) (by simp [Value.cells])
  exact ⟨((⟨⟨a1_9,n1_12,k1_13,j0.inputs.l⟩,⟨a2_10,n2_14,k2_15,j0.stages.l⟩,⟨a3_11,n3_16,k3_17,j0.outputs.l⟩,j0.priority⟩:Job),(c1_18++c2_19++c3_20),t0),alA,e4,om,⟨(k0.rdAt (cs:=[c1_18]) 0 rfl).of_mem mS,(fun z hz=>(hj0.inputsD z hz).of_mem mS),(l0.rdAt (cs:=[c2_19]) 0 rfl).of_mem mS,(fun z hz=>(hj0.stagesD z hz).of_mem mS),(m0.rdAt (cs:=[c3_20]) 0 rfl).of_mem mS⟩,⟨⟨by have h:=hjS.1.1;first|(dsimp only;omega)|(simp;omega),(fun z hz=>planeS_mono (hjS.1.2 z hz) om)⟩,⟨by have h:=hjS.2.1.1;first|(dsimp only;omega)|(simp;omega),(fun z hz=>stageB_mono (hjS.2.1.2 z hz) om)⟩,⟨by have h:=hjS.2.2.1.1;first|(dsimp only;omega)|(simp;omega),hjS.2.2.1.2⟩,by have h:=hjS.2.2.2;unfold numB at*;dsimp only;omega⟩⟩
 refine sR<|pu2<|sL d0 5 1 (.slice a2_10 n2_14 k2_15) (isAgg26 _)<|pu1<|cX call15 (tape_next (RdT.flat (hR.up 6 (by rfl))) om d0.flat1 (n2_14:Int) om) ?_
 rintro _ _ ⟨c0,rfl,_,_,_,f4⟩
 have e0:=f4.unflat1
 refine pu1<|nT ?_
 obtain ⟨a0,f0,g0,o0,i0,a2,g4⟩:=OwnT.elem l0 c0
 refine drawE [9,11] [(1,⟨b0,1,none⟩, .slice a2_10 n2_14 k2_15),(5,⟨b0,1,none⟩, .slice a2_10 n2_14 k2_15),(8,⟨f0,g0+(c0).toNat*18+0,none⟩,I a0.kind),(8,⟨f0,g0+(c0).toNat*18+1,none⟩,I a0.a),(8,⟨f0,g0+(c0).toNat*18+2,none⟩,I a0.b),(8,⟨f0,g0+(c0).toNat*18+3,none⟩, .bool a0.barrier),(8,⟨f0,g0+(c0).toNat*18+4,none⟩,I a0.edgePolicy),(8,⟨f0,g0+(c0).toNat*18+5,none⟩,I a0.edgeFill),(8,⟨f0,g0+(c0).toNat*18+6,none⟩,I a0.kW),(8,⟨f0,g0+(c0).toNat*18+7,none⟩,I a0.kH),(8,⟨f0,g0+(c0).toNat*18+8,none⟩, .slice a0.weights.a a0.weights.n a0.weights.k),(8,⟨f0,g0+(c0).toNat*18+9,none⟩, .slice a0.row.a a0.row.n a0.row.k),(8,⟨f0,g0+(c0).toNat*18+10,none⟩, .slice a0.col.a a0.col.n a0.col.k),(8,⟨f0,g0+(c0).toNat*18+11,none⟩,I a0.shift),(8,⟨f0,g0+(c0).toNat*18+12,none⟩,I a0.shift2),(8,⟨f0,g0+(c0).toNat*18+13,none⟩, .slice a0.x.a a0.x.n a0.x.k),(8,⟨f0,g0+(c0).toNat*18+14,none⟩, .slice a0.y.a a0.y.n a0.y.k),(8,⟨f0,g0+(c0).toNat*18+15,none⟩,I a0.bins),(8,⟨f0,g0+(c0).toNat*18+16,none⟩, .slice a0.ops.a a0.ops.n a0.ops.k),(8,⟨f0,g0+(c0).toNat*18+17,none⟩,I a0.max_)] [(true,[0,2,3,4,6]),(true,[1]),(true,[5]),(true,[7]),(true,[8]),(false,[9]),(true,[10]),(false,[11])] rfl kr ⟨cI e0 5,cI e0 5, .inr ((i0.up 2 rfl).cell e0 (k:=0) rfl), .inr ((i0.up 2 rfl).cell e0 (k:=1) rfl), .inr ((i0.up 2 rfl).cell e0 (k:=2) rfl), .inr ((i0.up 2 rfl).cell e0 (k:=3) rfl), .inr ((i0.up 2 rfl).cell e0 (k:=4) rfl), .inr ((i0.up 2 rfl).cell e0 (k:=5) rfl), .inr ((i0.up 2 rfl).cell e0 (k:=6) rfl), .inr ((i0.up 2 rfl).cell e0 (k:=7) rfl), .inr ((i0.up 2 rfl).cell e0 (k:=8) rfl), .inr ((i0.up 2 rfl).cell e0 (k:=9) rfl), .inr ((i0.up 2 rfl).cell e0 (k:=10) rfl), .inr ((i0.up 2 rfl).cell e0 (k:=11) rfl), .inr ((i0.up 2 rfl).cell e0 (k:=12) rfl), .inr ((i0.up 2 rfl).cell e0 (k:=13) rfl), .inr ((i0.up 2 rfl).cell e0 (k:=14) rfl), .inr ((i0.up 2 rfl).cell e0 (k:=15) rfl), .inr ((i0.up 2 rfl).cell e0 (k:=16) rfl), .inr ((i0.up 2 rfl).cell e0 (k:=17) rfl),trivial⟩ ?_
 have h4:=e0.drew
 refine wU [0,2,3,4,6]<|wLd (.slice a2_10 n2_14 k2_15) 0 isAgg26<|wLd (.slice a2_10 n2_14 k2_15) 1 isAgg26<|wY (.pointer (some ⟨f0,g0+(c0).toNat*18,none⟩)) rfl (fun w _=>Y_idx (a:=a2_10) (i:=c0) (len:=n2_14) (cap:=k2_15) rfl runUnderlying26 sizeOf53 kr kr a2)<|wY (.agg (encStage a0).toArray) rfl (fun w hF=>Y_loadF rfl (isAgg53 w) (sizeOf53 w) kr rfl ⟨hF 2 _ _ rfl,hF 3 _ _ rfl,hF 4 _ _ rfl,hF 5 _ _ rfl,hF 6 _ _ rfl,hF 7 _ _ rfl,hF 8 _ _ rfl,hF 9 _ _ rfl,hF 10 _ _ rfl,hF 11 _ _ rfl,hF 12 _ _ rfl,hF 13 _ _ rfl,hF 14 _ _ rfl,hF 15 _ _ rfl,hF 16 _ _ rfl,hF 17 _ _ rfl,hF 18 _ _ rfl,hF 19 _ _ rfl,trivial⟩)<|wO rfl ?_
 have i4:=(h4.picks [6,1])
 refine cX call28 (tg_spoilStage (RdT.flat (hR.up 5 (by rfl))) om i4.flat2 a0 ⟨(hj0.stagesD a0 (List.mem_of_getElem? o0)).weights,(hj0.stagesD a0 (List.mem_of_getElem? o0)).row,(hj0.stagesD a0 (List.mem_of_getElem? o0)).col,(hj0.stagesD a0 (List.mem_of_getElem? o0)).x,(hj0.stagesD a0 (List.mem_of_getElem? o0)).xD,(hj0.stagesD a0 (List.mem_of_getElem? o0)).y,(hj0.stagesD a0 (List.mem_of_getElem? o0)).yD,(hj0.stagesD a0 (List.mem_of_getElem? o0)).ops⟩ kk om (hjS.2.1.2 _ (List.mem_of_getElem? o0))) ?_
 rintro _ _ ⟨e1,q1,rfl,j4,k4,r1,_,l4⟩
 have s1:=l4.unflat3
 refine nilO ⟨⟨cI s1 7,cI s1 7,dI,dI,dI,dI,dI,dI,dI,dI,dI,dI,dI,dI,dI,dI,dI,dI,dI,dI,trivial⟩,?_⟩
 refine wY (.pointer (some ⟨f0,g0+(c0).toNat*18,none⟩)) rfl (fun w _=>Y_idx (a:=a2_10) (i:=c0) (len:=n2_14) (cap:=k2_15) rfl runUnderlying26 sizeOf53 kr kr a2)<|wO rfl<|sStF s1 l0 g4 4 (c0).toNat 0 a0 e1 o0 (.agg (encStage e1).toArray) (encStage e1) sizeOf53 fun _ f1 m4 n4=>nilO ⟨dA,?_⟩
 refine wN<|bN<|tN ?_
 have o4:=(n4.picks [5,2,5,5,6,7,6])
 have p4:Sat W _ ([(p, .cells #[.slice a n k,I r1] 81 (0,0))]::[(b0, .cells #[.slice a1_9 n1_12 k1_13, .slice a2_10 n2_14 k2_15, .slice a3_11 n3_16 k3_17,I j0.priority] 28 (0,0))]::[(h0, .cells #[nS,nS,nS,I 0] 28 (0,0))]::(c1_18++f1++q1++c3_20)::J::H::F):=Sat.perm (show Sat W _ ([(p, .cells #[.slice a n k,I r1] 81 (0,0))]::[(b0, .cells #[.slice a1_9 n1_12 k1_13, .slice a2_10 n2_14 k2_15, .slice a3_11 n3_16 k3_17,I j0.priority] 28 (0,0))]::[(h0, .cells #[nS,nS,nS,I 0] 28 (0,0))]::c1_18::f1::q1::c3_20::J::H::F) from o4) (by simp [Value.cells])
 exact ⟨((⟨⟨a1_9,n1_12,k1_13,j0.inputs.l⟩,⟨a2_10,n2_14,k2_15,(j0.stages.l.set ((c0).toNat) e1)⟩,⟨a3_11,n3_16,k3_17,j0.outputs.l⟩,j0.priority⟩:Job),(c1_18++f1++q1++c3_20),r1),alA,p4,om,⟨(k0.rdAt (cs:=[c1_18]) 0 rfl).of_mem mS,(fun z hz=>(hj0.inputsD z hz).of_mem mS),(m4.rdAt (cs:=[f1]) 0 rfl).of_mem mS,(mem_set (fun z hz=>(hj0.stagesD z hz).of_mem mS) (j4.of_mem (fun p hp=>by simp at hp⊢;rcases hp with h|h<;>simp [h]))),(m0.rdAt (cs:=[c3_20]) 0 rfl).of_mem mS⟩,⟨⟨by have h:=hjS.1.1;first|(dsimp only;omega)|(simp;omega),(fun z hz=>planeS_mono (hjS.1.2 z hz) om)⟩,⟨by have h:=hjS.2.1.1;first|(dsimp only;omega)|(simp;omega),mem_set (fun z hz=>stageB_mono (hjS.2.1.2 z hz) om) k4⟩,⟨by have h:=hjS.2.2.1.1;first|(dsimp only;omega)|(simp;omega),hjS.2.2.1.2⟩,by have h:=hjS.2.2.2;unfold numB at*;dsimp only;omega⟩⟩
def intsV:JobV:=⟨[⟨2,2,9,[1,2,3,4]⟩],[⟨5,0,-1,false,0,0,0,0,[],[],[],0,0,[],[],0,[],0⟩],[1],0⟩
theorem in1:outV intsV=[⟨2,2,36,[1,3,4,10]⟩]:=by decide+kernel
theorem in2:(shpV intsV).2.2=0:=by decide+kernel
theorem in3:(meanV intsV).length=2:=by decide+kernel
theorem l18_ints {F:List Chunk} (hS:Sat W w F):
  Calls prog 86 #[] w fun e w'=>∃(q:Job) (G:Chunk),e= .returned (.agg (encJob q).toArray)/\Job.Ok [G] q/\q.v=intsV/\(q.inputs.n=1/\q.stages.n=1/\q.outputs.n=1)/\Sat W w' (G::F):=by
 refine callsA 8 func86 rfl<|sR<|sAlloc hS zeroValue28 fun _ _ f0=>zS<|sBS f0 #[I 1,I 2,I 3,I 4] runUnderlying22 sizeOf3 zeroValue3 fun a0 _ g0=>pu1<|sBS g0 #[I 2,I 2,I 9, .slice (At a0 0) 4 4] runUnderlying25 sizeOf38 zeroValue38 fun b0 _ h0=>pu1<|sBS h0 (encStage {zStage with kind:=5,b:=-1}).toArray runUnderlying26 sizeOf53 zeroValue53 fun c0 _ i0=>sBS i0 #[I 1] runUnderlying22 sizeOf3 zeroValue3 fun d0 _ j0=>pu1<|sTl j0 4 [.slice (At b0 0) 1 1, .slice (At c0 0) 1 1, .slice (At d0 0) 1 1,I 0] sizeOf28 fun _ e0=>?_
 refine zE<|retN (vs:=[.agg #[.slice (At b0 0) 1 1, .slice (At c0 0) 1 1, .slice (At d0 0) 1 1,I 0]]) rfl (.cons (.cell _ _ _ _ kr (lvA e0 4 0 [.slice (At b0 0) 1 1, .slice (At c0 0) 1 1, .slice (At d0 0) 1 1,I 0] (isAgg28 _) (sizeOf28 _) rfl rfl rfl)) .nil) ?_
 have k0:=((e0.picks [1,2]).dropAt 4 rfl)
 have l0:Sat W _ (([(b0, .cells #[I 2,I 2,I 9, .slice (At a0 0) 4 4] 38 (0,0))]++[(c0, .cells (encStage {zStage with kind:=5,b:=-1}).toArray 53 (0,0))]++[(d0, .cells #[I 1] 3 (0,0))]++[(a0, .cells #[I 1,I 2,I 3,I 4] 3 (0,0))])::F):=Sat.perm (show Sat W _ ([(b0, .cells #[I 2,I 2,I 9, .slice (At a0 0) 4 4] 38 (0,0))]::[(c0, .cells (encStage {zStage with kind:=5,b:=-1}).toArray 53 (0,0))]::[(d0, .cells #[I 1] 3 (0,0))]::[(a0, .cells #[I 1,I 2,I 3,I 4] 3 (0,0))]::F) from k0) (by simp)
 refine ⟨(⟨⟨(At b0 0),1,1,[(⟨2,2,9,⟨(At a0 0),4,4,[1,2,3,4]⟩⟩:Plane)]⟩,⟨(At c0 0),1,1,[(⟨5,0,-1,false,0,0,0,0,⟨none,0,0,[]⟩,⟨none,0,0,[]⟩,⟨none,0,0,[]⟩,0,0,⟨none,0,0,[]⟩,⟨none,0,0,[]⟩,0,⟨none,0,0,[]⟩,0⟩:Stage)]⟩,⟨(At d0 0),1,1,[1]⟩,0⟩:Job),([(b0, .cells #[I 2,I 2,I 9, .slice (At a0 0) 4 4] 38 (0,0))]++[(c0, .cells (encStage {zStage with kind:=5,b:=-1}).toArray 53 (0,0))]++[(d0, .cells #[I 1] 3 (0,0))]++[(a0, .cells #[I 1,I 2,I 3,I 4] 3 (0,0))]),rfl,⟨((RdT.blk (cs:=[[(b0, .cells #[I 2,I 2,I 9, .slice (At a0 0) 4 4] 38 (0,0))]]) (enc:=encPlane) (sz:=4) (xs:=[(⟨2,2,9,⟨(At a0 0),4,4,[1,2,3,4]⟩⟩:Plane)]) fR 1 0 rfl rfl rfl om)).of_mem mS,?_,((RdT.blk (cs:=[[(c0, .cells (encStage {zStage with kind:=5,b:=-1}).toArray 53 (0,0))]]) (enc:=encStage) (sz:=18) (xs:=[(⟨5,0,-1,false,0,0,0,0,⟨none,0,0,[]⟩,⟨none,0,0,[]⟩,⟨none,0,0,[]⟩,0,0,⟨none,0,0,[]⟩,⟨none,0,0,[]⟩,0,⟨none,0,0,[]⟩,0⟩:Stage)]) fR 1 0 rfl rfl rfl om)).of_mem mS,?_,((RdT.blk (cs:=[[(d0, .cells #[I 1] 3 (0,0))]]) (enc:=Go.E.encI) (sz:=1) (xs:=[1]) fR 1 0 rfl rfl rfl om)).of_mem mS⟩,by rfl,⟨rfl,rfl,rfl⟩,l0⟩
 ·intro z hz;rw [List.mem_singleton.1 hz];exact ⟨((RdT.blk (cs:=[[(a0, .cells #[I 1,I 2,I 3,I 4] 3 (0,0))]]) (enc:=Go.E.encI) (sz:=1) (xs:=[1,2,3,4]) fR 4 0 rfl rfl rfl om)).of_mem mS⟩
 ·intro z hz;rw [List.mem_singleton.1 hz];exact ⟨RdT.nil (enc:=Go.E.encI) (sz:=1) fR _,RdT.nil (enc:=Go.E.encI) (sz:=1) fR _,RdT.nil (enc:=Go.E.encI) (sz:=1) fR _,RdT.nil (enc:=encTap) (sz:=2) fR _,(fun z hz=>by cases hz),RdT.nil (enc:=encTap) (sz:=2) fR _,(fun z hz=>by cases hz),RdT.nil (enc:=encPOp) (sz:=2) fR _⟩
theorem l18_sane (hS:Sat W w (H::F)):
  Ro prog 39 #[] (.bool true) W w (H::F):=by
 refine callsA 48 func39 rfl<|sR<|pu1<|zS<|cX call86 (l18_ints hS) ?_
 rintro _ _ ⟨o0,_,rfl,p0,b0,⟨_,_,_⟩,q0⟩
 refine cX call36 (p18_outputs o0 (p0.of_mem (mem_flat1 0 (by rfl))) (od) q0.flat) ?_
 rintro _ _ ⟨_,r0,_,s0,j0,_,rfl,c0,g0,d0,t0⟩
 have u0:=t0.unflat1
 have hn_az_18:=c0.len;have hl_az_18:=c0.le
 have hz_c_14:j0=0:=by have h:=congrArg Prod.snd d0;dsimp only at h;rw [h,b0,in2]
 have hy_c_14:s0.length=1:=by have h:=congrArg List.length (congrArg Prod.fst d0);rw [List.length_map] at h;rw [h,b0];dsimp only;rw [in1];rfl
 refine pu5<|zS<|cX call86 (l18_ints u0) ?_
 rintro _ _ ⟨v0,_,rfl,w0,k0,⟨_,_,_⟩,x0⟩
 refine cX call35 (p18_of v0 (w0.of_mem (mem_flat1 0 (by rfl))) (od) x0.flat) ?_
 rintro _ _ ⟨_,y0,_,z0,l0,_,rfl,m0,_,n0,a1⟩
 have e0:=a1.unflat1
 have hn_az_40:=m0.len;have hl_az_40:=m0.le
 have hz_c_36:l0=0:=by have h:=congrArg Prod.snd n0;dsimp only at h;rw [h,k0,in2]
 have hy_c_36:z0.length=2:=by have h:=congrArg List.length (congrArg Prod.fst n0);rw [List.length_map] at h;rw [h,k0];dsimp only;exact in3
 refine pu5<|zS<|pu3 ?_
 have b1:(j0:Int)=0:=by omega
 refine sFix 17 _ true (beq_iff_eq.2 b1)<|pu5 ?_
 have c1:((r0:Int):Int)=1:=by omega
 refine sFix 22 _ true (beq_iff_eq.2 c1)<|pu1<|gY<|sIdx c0 0 runUnderlying25 sizeOf38 fun a0 _ _ h0 d1=>?_
 have hxv:a0.v=⟨2,2,36,[1,3,4,10]⟩:=by have h:=map_at (f:=Plane.v) h0;have h2:=congrArg Prod.fst d0;dsimp only at h2;rw [h2,b0,in1] at h;exact (Option.some.inj h).symm
 have hxp:a0.pix.l=[1,3,4,10]:=congrArg PlaneV.pix hxv;have hxn:a0.pix.n=4:=by have h:=(g0 a0 (List.mem_of_getElem? h0)).pix.len;rw [hxp] at h;exact h.symm
 refine pu1<|gY<|sLp e0 (d1.up 2 rfl) 3 (.slice a0.pix.a a0.pix.n a0.pix.k) (isAgg22 _)<|pu4 ?_
 have e1:((a0.pix.n:Int):Int)=4:=by omega
 refine sFix 30 _ true (beq_iff_eq.2 e1)<|pu1<|gY<|sIdx c0 0 runUnderlying25 sizeOf38 fun f1 _ _ f0 g1=>?_
 obtain rfl:a0=f1:=Option.some.inj (h0.symm.trans f0)
 have hxv:a0.v=⟨2,2,36,[1,3,4,10]⟩:=by have h:=map_at (f:=Plane.v) f0;have h2:=congrArg Prod.fst d0;dsimp only at h2;rw [h2,b0,in1] at h;exact (Option.some.inj h).symm
 have hxp:a0.pix.l=[1,3,4,10]:=congrArg PlaneV.pix hxv;have hxn:a0.pix.n=4:=by have h:=(g0 a0 (List.mem_of_getElem? f0)).pix.len;rw [hxp] at h;exact h.symm
 refine pu1<|gY<|sLp e0 (g1.up 2 rfl) 3 (.slice a0.pix.a a0.pix.n a0.pix.k) (isAgg22 _)<|gY<|sIdx (g0 a0 (List.mem_of_getElem? f0)).pix 3 runUnderlying22 sizeOf3 fun i0 _ _ h1 i1=>?_
 have hx10:i0=10:=by have h:=h1;rw [hxp] at h;exact (Option.some.inj h).symm
 refine gY<|sLp e0 (i1.up 2 rfl) 0 (I i0) (isAgg3 _)<|pu3 ?_
 have j1:(i0:Int)=10:=by omega
 refine sFix 39 _ true (beq_iff_eq.2 j1)<|pu4 ?_
 have k1:(l0:Int)=0:=by omega
 exact sFix 43 _ true (beq_iff_eq.2 k1)<|pu5<|zE<|retT [.bool (((y0:Int):Int)==2)]<|⟨rB (by rw [Bool.eq_iff_iff];simp;omega),(e0.drops [0,0,0,0])⟩
section
variable {ni:Int} {S:List StageV} {s:StageV} (hn:0<=ni) (hs:∀t∈S,∀x∈srcs t,0<=x/\x<ni+S.length)
include hn hs
end
theorem r18_same (aa : Option Addr) (na ka : Nat) (a : List Plane) (ab : Option Addr) (nb kb : Nat) (b : List Plane) (ha : RdT encPlane 4 [H] aa na ka a) (da : ∀ z ∈ a, Plane.Ok [H] z) (hb : RdT encPlane 4 [H] ab nb kb b) (db : ∀ z ∈ b, Plane.Ok [H] z) (hS : Sat W w (H :: F)) :
  Ro prog 20 #[.slice aa na ka, .slice ab nb kb] (.bool (decide (a.map Plane.v = b.map Plane.v))) W w (H :: F) := by
 have hl_a := ha.le; have hn_a := ha.len
 have hl_b := hb.le; have hn_b := hb.len
 refine callsA 27 func20 rfl <| sR <| pu1 <| zQ <| pu5 <| nT <| cN (na : Int) (nb : Int) (fun m0 => ?_) (fun m0 => ?_)
 rotate_left
 ·refine sR <| pu1 <| zR <| retT [.bool false] ?_
  exact ⟨by rw [decide_eq_false (fun h => by have h2 := congrArg List.length h; rw [List.length_map, List.length_map] at h2; omega)]; rfl, hS⟩
 refine kT <| seqE <| sR <| pu1 <| nT <| blockE <| loopA (γ := Nat) (fun i => [(0, .slice aa na ka), (1, .slice ab nb kb), (5, I (i : Int))]) (fun i w => Sat W w (H :: F) /\ i <= na /\ ((a.map Plane.v).take i = (b.map Plane.v).take i)) (fun i => na - i) 0 ⟨hS, om, by simp⟩ ?_
 rintro i ρ _ ⟨a0, hi, hE⟩
 refine seqE <| sR <| pu4 <| nT <| cD ((i : Int) < (na : Int)) (fun n0 => ?_) (fun n0 => ?_)
 rotate_left
 ·exact exitE <| xB <| tN <| sR <| pu1 <| zE <| retT [.bool true] <| ⟨by rw [decide_eq_true (eq_of_take hE (by rw [List.length_map]; omega) (by rw [List.length_map]; omega))]; rfl, a0⟩
 refine kT <| seqE <| blockE <| seqE ?_
 obtain ⟨b0, d0, e0, h0, i0, o0⟩ := RdT.elem ha (i : Int)
 rw [Int.toNat_natCast] at h0
 obtain ⟨c0, f0, g0, j0, k0, p0⟩ := RdT.elem hb (i : Int)
 rw [Int.toNat_natCast] at j0
 refine drawE [8] [(3, ⟨d0, e0 + 0, none⟩, I b0.w), (3, ⟨d0, e0 + 1, none⟩, I b0.h), (3, ⟨d0, e0 + 2, none⟩, I b0.max_), (3, ⟨d0, e0 + 3, none⟩, .slice b0.pix.a b0.pix.n b0.pix.k), (7, ⟨f0, g0 + 0, none⟩, I c0.w), (7, ⟨f0, g0 + 1, none⟩, I c0.h), (7, ⟨f0, g0 + 2, none⟩, I c0.max_), (7, ⟨f0, g0 + 3, none⟩, .slice c0.pix.a c0.pix.n c0.pix.k)] [(true, [0, 1]), (true, [2]), (true, [4, 5]), (true, [6]), (true, [3]), (true, [7]), (false, [8]), (true, [9])] rfl kr ⟨.inr ((i0.up 0 rfl).cell a0 (k := 0) rfl), .inr ((i0.up 0 rfl).cell a0 (k := 1) rfl), .inr ((i0.up 0 rfl).cell a0 (k := 2) rfl), .inr ((i0.up 0 rfl).cell a0 (k := 3) rfl), .inr ((k0.up 0 rfl).cell a0 (k := 0) rfl), .inr ((k0.up 0 rfl).cell a0 (k := 1) rfl), .inr ((k0.up 0 rfl).cell a0 (k := 2) rfl), .inr ((k0.up 0 rfl).cell a0 (k := 3) rfl), trivial⟩ ?_
 have q0 := a0.drew
 refine wU [0, 1] <| wY (.pointer (some ⟨d0, e0, none⟩)) rfl (fun w _ => Y_idx (a := aa) (i := (i : Int)) (len := na) (cap := ka) rfl runUnderlying25 sizeOf38 kr kr o0) <| wU [4, 5] <| wY (.pointer (some ⟨f0, g0, none⟩)) rfl (fun w _ => Y_idx (a := ab) (i := (i : Int)) (len := nb) (cap := kb) rfl runUnderlying25 sizeOf38 kr kr p0) <| wY (.agg (encPlane b0).toArray) rfl (fun w hF => Y_loadF rfl (isAgg38 w) (sizeOf38 w) kr rfl ⟨hF 0 _ _ rfl, hF 1 _ _ rfl, hF 2 _ _ rfl, hF 3 _ _ rfl, trivial⟩) <| wY (.agg (encPlane c0).toArray) rfl (fun w hF => Y_loadF rfl (isAgg38 w) (sizeOf38 w) kr rfl ⟨hF 4 _ _ rfl, hF 5 _ _ rfl, hF 6 _ _ rfl, hF 7 _ _ rfl, trivial⟩) <| wO rfl ?_
 refine cR call32 (r4_equal b0 c0 ⟨(RdT.flat ((da b0 (List.mem_of_getElem? h0)).pix.up 0 (by rfl)))⟩ ⟨(RdT.flat ((db c0 (List.mem_of_getElem? j0)).pix.up 0 (by rfl)))⟩ q0.flat) fun _ l0 => nilO ⟨dA, ?_⟩
 refine wU [9] <| wN <| tN <| cDn (b0.v = c0.v) (fun r0 => ?_) (fun r0 => ?_)
 rotate_left
 ·exact sR <| pu1 <| zB <| tR <| tK <| retT [.bool false] <| ⟨by rw [decide_eq_false (ne_of_at (map_at (f := Plane.v) h0) (map_at (f := Plane.v) j0) ‹_›)]; rfl, l0⟩
 exact skipE <| bN <| tN <| rE <| pu1 <| sAdd (i : Int) 1 <| pu1 <| nT <| ⟨i + 1, od, alA, l0, om, take_eq_succ hE (map_at (f := Plane.v) h0) (map_at (f := Plane.v) j0) ‹_›⟩
end Go.Proofs.YtmlhcafjelkjfaaGreat
