import Derived.WalkKit
import Derived.Deep.Quiet
import Derived.KernelRfl
import Derived.Laws.BytesString
import Derived.Laws.Shifts
import Derived.Laws.IdiomStrings
import Derived.OpenShut
import Derived.Test.YtdingplbadblpaaGreatProg
import Derived.Shelf.SortG.Plain
import Derived.Shelf.SortG.SortNone
import Derived.Shelf.SlicesG.CompactI
import Derived.Test.YtdingplbadblpaaGreatR3Q3Lf
namespace Go.Proofs.YtdingplbadblpaaGreat
open Go Go.E Go.Proofs.Tryz
set_option linter.all false
set_option maxRecDepth 100000
set_option maxHeartbeats 2000000
variable {W w:World} {H:Chunk} {F:List Chunk}
theorem tg_copyJob (W w:World) (H:Chunk) (F:List Chunk) (j0:Job) (hj0:Job.Ok [H] j0) (hb:j0.inputs.n<=1000/\j0.stages.n<=1000/\j0.outputs.n<=1000) (hS:Sat W w (H::F)):
  Calls prog 14 #[.agg (encJob j0).toArray] w fun e w'=>∃(a1 a2 a3:Option Addr) (n1 k1 n2 k2 n3 k3:Nat) (c1 c2 c3:Chunk),e= .returned (.agg #[.slice a1 n1 k1, .slice a2 n2 k2, .slice a3 n3 k3,I j0.priority])/\OwnT encPlane 87 4 a1 n1 k1 j0.inputs.l c1/\OwnT encStage 38 18 a2 n2 k2 j0.stages.l c2/\OwnT Go.E.encI 3 1 a3 n3 k3 j0.outputs.l c3/\Sat W w' (c1::c2::c3::H::F):=by
 have hl_j0_inputs:=hj0.inputs.le;have hn_j0_inputs:=hj0.inputs.len
 have hl_j0_stages:=hj0.stages.le;have hn_j0_stages:=hj0.stages.len
 have hl_j0_outputs:=hj0.outputs.le;have hn_j0_outputs:=hj0.outputs.len
 refine callsA 19 func14 rfl<|sR<|sBox hS (.agg (encJob j0).toArray) (encJob j0).toArray fun _ _ m0=>sAlloc m0 zeroValue28 fun _ _ n0=>zS<|sBS n0 #[] runUnderlying25 sizeOf87 zeroValue87 fun o0 _ g0=>pu1<|sL g0 2 0 (.slice j0.inputs.a j0.inputs.n j0.inputs.k) (isAgg25 _)<|sApp (nb:=48) g0 (OwnT.blk (enc:=encPlane) (sz:=4) (b:=o0) (c:=#[]) (E:=87) (xs:=[]) fR 0 rfl rfl rfl om) 0 (hj0.inputs.up 3 rfl) underlying25 (i:=Tryz.t87) kr fR fun a0 b0 _ _ q0 r0=>pu1 ?_
 refine tW r0 2 0 (.slice a0 (0+j0.inputs.n) b0) sizeOf25 fun _ s0=>zS<|sBS s0 #[] runUnderlying26 sizeOf38 zeroValue38 fun t0 _ h0=>pu1<|sL h0 3 1 (.slice j0.stages.a j0.stages.n j0.stages.k) (isAgg26 _)<|sApp (nb:=240) h0 (OwnT.blk (enc:=encStage) (sz:=18) (b:=t0) (c:=#[]) (E:=38) (xs:=[]) fR 0 rfl rfl rfl om) 0 (hj0.stages.up 4 rfl) underlying26 (i:=Tryz.t38) kr fR fun c0 d0 _ _ v0 w0=>pu1<|tW w0 3 1 (.slice c0 (0+j0.stages.n) d0) sizeOf26 fun _ x0=>zS<|sBS x0 #[] runUnderlying22 sizeOf3 zeroValue3 fun y0 _ i0=>pu1<|sL i0 4 2 (.slice j0.outputs.a j0.outputs.n j0.outputs.k) (isAgg22 _) ?_
 refine sApp (nb:=8) i0 (OwnT.blk (enc:=Go.E.encI) (sz:=1) (b:=y0) (c:=#[]) (E:=3) (xs:=[]) fR 0 rfl rfl rfl om) 0 (hj0.outputs.up 5 rfl) underlying22 (i:=Tryz.t3) kr fR fun e0 f0 _ _ b1 d1=>pu1<|tW d1 4 2 (.slice e0 (0+j0.outputs.n) f0) sizeOf22 fun _ k0=>zS<|lA k0 4 0 4 (isAgg28 _) (sizeOf28 _) ?_
 refine sT k0 3 0 (.agg #[.slice a0 (0+j0.inputs.n) b0, .slice c0 (0+j0.stages.n) d0, .slice e0 (0+j0.outputs.n) f0,I j0.priority]) [.slice a0 (0+j0.inputs.n) b0, .slice c0 (0+j0.stages.n) d0, .slice e0 (0+j0.outputs.n) f0,I j0.priority] #[.slice a0 (0+j0.inputs.n) b0, .slice c0 (0+j0.stages.n) d0, .slice e0 (0+j0.outputs.n) f0,I j0.priority] sizeOf28 fun _ l0=>?_
 exact zE<|retN (vs:=[.agg #[.slice a0 (0+j0.inputs.n) b0, .slice c0 (0+j0.stages.n) d0, .slice e0 (0+j0.outputs.n) f0,I j0.priority]]) rfl (.cons (.cell _ _ _ _ kr (lvA l0 3 0 [.slice a0 (0+j0.inputs.n) b0, .slice c0 (0+j0.stages.n) d0, .slice e0 (0+j0.outputs.n) f0,I j0.priority] (isAgg28 _) (sizeOf28 _) rfl rfl rfl)) .nil)<|⟨_,_,_,_,_,_,_,_,_,_,_,_,rfl,(by have h:=q0;rw [List.nil_append] at h;exact h),(by have h:=v0;rw [List.nil_append] at h;exact h),(by have h:=b1;rw [List.nil_append] at h;exact h),((l0.picks [1,2]).drops [3,3])⟩
def jobS (k:Nat) (q:Job):Prop:=(q.inputs.l.length<=2/\∀z∈q.inputs.l,planeS k z)/\(q.stages.l.length<=4/\∀z∈q.stages.l,stageB k z)/\(q.outputs.l.length<=2+k/\∀z∈q.outputs.l,numB z)/\numB q.priority
theorem planeS_mono {k m:Nat} {q:Plane} (h:planeS k q) (hm:k<=m):planeS m q:=⟨⟨numS_mono h.1.1 hm,numS_mono h.1.2.1 hm,numS_mono h.1.2.2 hm⟩,by have:=h.2.1;omega,fun z hz=>numS_mono (h.2.2 z hz) hm⟩
theorem stageB_mono {k m:Nat} {q:Stage} (h:stageB k q) (hm:k<=m):stageB m q:=by
  unfold stageB at*
  refine ⟨h.1,h.2.1,h.2.2.1,h.2.2.2.1,⟨by have:=h.2.2.2.2.1.1;omega,h.2.2.2.2.1.2⟩,⟨by have:=h.2.2.2.2.2.1.1;omega,h.2.2.2.2.2.1.2⟩,by have:=h.2.2.2.2.2.2.1;omega,h.2.2.2.2.2.2.2⟩
theorem jobB_S {q:Job} (h:jobB 0 q):jobS 0 q:=by
  refine ⟨⟨h.1.1,fun z hz=>?_⟩,h.2⟩
  have h1:=h.1.2 z hz
  have e:∀x,numB x->numS 0 x:=fun x hx=>by unfold numB at hx;unfold numS;omega
  exact ⟨⟨e _ h1.2.1,e _ h1.2.2.1,e _ h1.2.2.2⟩,by have:=h1.1.1;omega,fun y hy=>e _ (h1.1.2 y hy)⟩
theorem tg_spoilJob {J:Chunk} {p:Nat} {a:Option Addr} {n k:Nat} {i:Int} {xs:List Int} (hR:RdT Go.E.encI 1 [H] a n k xs) (hi:0<=i/\i<=n) (hS:Sat W w ([(p, .cells #[.slice a n k,I i] 85 (0,0))]::J::H::F)) (j0:Job) (hj0:Job.Ok [J] j0) (kk:Nat) (hkk:kk<=100) (hjS:jobS kk j0):
  Calls prog 18 #[Pt p 0, .agg (encJob j0).toArray] w fun e w'=>∃(q:Job) (G:Chunk),e= .returned (.agg (encJob q).toArray)/\(Job.Ok [G++J] q)/\(jobS (kk+1) q)/\∃i':Int,(0<=i'/\i'<=n)/\Sat W w' ([(p, .cells #[.slice a n k,I i'] 85 (0,0))]::G::J::H::F):=by
 have hl_j0_inputs:=hj0.inputs.le;have hn_j0_inputs:=hj0.inputs.len
 have hl_j0_stages:=hj0.stages.le;have hn_j0_stages:=hj0.stages.len
 have hl_j0_outputs:=hj0.outputs.le;have hn_j0_outputs:=hj0.outputs.len
 have hle:=hR.le
 have hb1:=hjS.1.1;have hb2:=hjS.2.1.1;have hb3:=hjS.2.2.1.1
 refine callsA 85 func18 rfl<|sR<|sBox hS (.agg (encJob j0).toArray) (encJob j0).toArray fun b0 _ c2=>sAlloc c2 zeroValue28 fun h0 _ u1=>zS<|lA u1 1 0 4 (isAgg28 _) (sizeOf28 _)<|sF #[.agg (encJob j0).toArray] call14 (Calls.mono (tg_copyJob W _ _ [] j0 (hj0.of_mem (mem_flat1 3 (by rfl))) om u1.flat) ?_)
 rintro _ _ ⟨a1_9,a2_10,a3_11,n1_12,k1_13,n2_14,k2_15,n3_16,k3_17,c1_18,c2_19,c3_20,rfl,k0,l0,m0,v1⟩
 refine ⟨_,rfl,?_⟩
 have d2:=Sat.unflatc v1;clear v1
 have hn_a1_9:=k0.len;have hl_a1_9:=k0.le
 have hn_a2_10:=l0.len;have hl_a2_10:=l0.le
 have hn_a3_11:=m0.len;have hl_a3_11:=m0.le
 refine sT d2 4 0 (.agg #[.slice a1_9 n1_12 k1_13, .slice a2_10 n2_14 k2_15, .slice a3_11 n3_16 k3_17,I j0.priority]) [.slice a1_9 n1_12 k1_13, .slice a2_10 n2_14 k2_15, .slice a3_11 n3_16 k3_17,I j0.priority] #[.slice a1_9 n1_12 k1_13, .slice a2_10 n2_14 k2_15, .slice a3_11 n3_16 k3_17,I j0.priority] sizeOf28 fun _ e2=>nT<|cutA (γ:=Job×Chunk×Int) (fun ⟨q,G1,itc⟩=>[(3,Pt b0 0),(4,Pt h0 0)]) (fun ⟨q,G1,itc⟩ w=>Sat W w ([(p, .cells #[.slice a n k,I itc] 85 (0,0))]::[(b0, .cells (encJob q).toArray 28 (0,0))]::[(h0, .cells #[nS,nS,nS,I 0] 28 (0,0))]::G1::J::H::F)/\(0<=itc/\itc<=n)/\Job.Ok [G1++J] q/\jobS (kk+1) q) ?_ ?_
 rotate_left
 ·rintro ⟨q,G1,itc⟩ ρ _ ⟨w1,hitc,hqok,hqS⟩
  exact sR<|lA w1 1 0 4 (isAgg28 _) (sizeOf28 _)<|sT w1 2 0 (.agg (encJob q).toArray) (encJob q) (encJob q).toArray sizeOf28 fun _ x1=>zE<|retN (vs:=[.agg (encJob q).toArray]) rfl (.cons (.cell _ _ _ _ kr (lvA x1 2 0 (encJob q) (isAgg28 _) (sizeOf28 _) rfl rfl rfl)) .nil)<|⟨q,G1,rfl,hqok,hqS,_,om,(x1.drops [1,1])⟩
 refine sR<|pu1 ?_
 have g2:=(e2.pick 5 rfl)
 refine cX call13 (tape_next (RdT.flat (hR.up 6 (by rfl))) om g2.flat1 7 om) ?_
 rintro _ _ ⟨w0,rfl,_,t0,_,h2⟩
 have d0:=h2.unflat1
 refine nT<|blockE<|sR<|pu2<|nT<|cE w0 0 (fun i2=>?_) (fun i2=>?_)
 ·refine rE<|pu1<|sBS d0 #[I (-1),I 4,I 3] runUnderlying22 sizeOf3 zeroValue3 fun _ _ j2=>?_
  have k2:=(j2.pick 1 rfl)
  refine cX call38 (tape_pick (RdT.flat (hR.up 7 (by rfl))) om k2.flat1 (RdT.flat (RdT.blk (enc:=Go.E.encI) (sz:=1) (xs:=[-1,4,3]) (fun _=>(by rfl)) 3 0 rfl rfl rfl om)) om om) ?_
  rintro _ _ ⟨r0,rfl,l2,g1,_,m2⟩
  have n2:=m2.unflat1
  have f5:(r0:Int)=(-1)\/(r0:Int)=4\/(r0:Int)=3:=by simpa using l2
  refine pu1<|tW n2 6 3 (I r0) sizeOf3 fun _ o2=>nB ?_
  have q2:=((o2.picks [5,6,2]).dropAt 3 rfl)
  have r2:Sat W _ ([(p, .cells #[.slice a n k,I g1] 85 (0,0))]::[(b0, .cells #[.slice a1_9 n1_12 k1_13, .slice a2_10 n2_14 k2_15, .slice a3_11 n3_16 k3_17,I r0] 28 (0,0))]::[(h0, .cells #[nS,nS,nS,I 0] 28 (0,0))]::(c1_18++c2_19++c3_20)::J::H::F):=Sat.perm (show Sat W _ ([(p, .cells #[.slice a n k,I g1] 85 (0,0))]::[(b0, .cells #[.slice a1_9 n1_12 k1_13, .slice a2_10 n2_14 k2_15, .slice a3_11 n3_16 k3_17,I r0] 28 (0,0))]::[(h0, .cells #[nS,nS,nS,I 0] 28 (0,0))]::c1_18::c2_19::c3_20::J::H::F) from q2) (by simp [Value.cells])
  exact ⟨((⟨⟨a1_9,n1_12,k1_13,j0.inputs.l⟩,⟨a2_10,n2_14,k2_15,j0.stages.l⟩,⟨a3_11,n3_16,k3_17,j0.outputs.l⟩,r0⟩:Job),(c1_18++c2_19++c3_20),g1),alA,r2,om,⟨(k0.rdAt (cs:=[c1_18]) 0 rfl).of_mem mS,(fun z hz=>(hj0.inputsD z hz).of_mem mS),(l0.rdAt (cs:=[c2_19]) 0 rfl).of_mem mS,(fun z hz=>(hj0.stagesD z hz).of_mem mS),(m0.rdAt (cs:=[c3_20]) 0 rfl).of_mem mS⟩,⟨⟨by have h:=hjS.1.1;first|(dsimp only;omega)|(simp;omega),(fun z hz=>planeS_mono (hjS.1.2 z hz) om)⟩,⟨by have h:=hjS.2.1.1;first|(dsimp only;omega)|(simp;omega),(fun z hz=>stageB_mono (hjS.2.1.2 z hz) om)⟩,⟨by have h:=hjS.2.2.1.1;first|(dsimp only;omega)|(simp;omega),hjS.2.2.1.2⟩,by have h:=hjS.2.2.2;unfold numB at*;dsimp only;omega⟩⟩
 refine sR<|pu2<|nT<|cE w0 1 (fun s2=>?_) (fun s2=>?_)
 ·refine sR<|pu1<|sL d0 5 0 (.slice a1_9 n1_12 k1_13) (isAgg25 _)<|pu2<|nT<|cD ((n1_12:Int)>0) (fun t2=>?_) (fun t2=>?_)
  rotate_left
  ·refine skipE<|bN<|tN ?_
   have u2:=(d0.picks [4,5,2])
   have v2:Sat W _ ([(p, .cells #[.slice a n k,I t0] 85 (0,0))]::[(b0, .cells #[.slice a1_9 n1_12 k1_13, .slice a2_10 n2_14 k2_15, .slice a3_11 n3_16 k3_17,I j0.priority] 28 (0,0))]::[(h0, .cells #[nS,nS,nS,I 0] 28 (0,0))]::(c1_18++c2_19++c3_20)::J::H::F):=Sat.perm (show Sat W _ ([(p, .cells #[.slice a n k,I t0] 85 (0,0))]::[(b0, .cells #[.slice a1_9 n1_12 k1_13, .slice a2_10 n2_14 k2_15, .slice a3_11 n3_16 k3_17,I j0.priority] 28 (0,0))]::[(h0, .cells #[nS,nS,nS,I 0] 28 (0,0))]::c1_18::c2_19::c3_20::J::H::F) from u2) (by simp [Value.cells])
   exact ⟨((⟨⟨a1_9,n1_12,k1_13,j0.inputs.l⟩,⟨a2_10,n2_14,k2_15,j0.stages.l⟩,⟨a3_11,n3_16,k3_17,j0.outputs.l⟩,j0.priority⟩:Job),(c1_18++c2_19++c3_20),t0),alA,v2,om,⟨(k0.rdAt (cs:=[c1_18]) 0 rfl).of_mem mS,(fun z hz=>(hj0.inputsD z hz).of_mem mS),(l0.rdAt (cs:=[c2_19]) 0 rfl).of_mem mS,(fun z hz=>(hj0.stagesD z hz).of_mem mS),(m0.rdAt (cs:=[c3_20]) 0 rfl).of_mem mS⟩,⟨⟨by have h:=hjS.1.1;first|(dsimp only;omega)|(simp;omega),(fun z hz=>planeS_mono (hjS.1.2 z hz) om)⟩,⟨by have h:=hjS.2.1.1;first|(dsimp only;omega)|(simp;omega),(fun z hz=>stageB_mono (hjS.2.1.2 z hz) om)⟩,⟨by have h:=hjS.2.2.1.1;first|(dsimp only;omega)|(simp;omega),hjS.2.2.1.2⟩,by have h:=hjS.2.2.2;unfold numB at*;dsimp only;omega⟩⟩
  obtain ⟨n0,u0,v0,y0,x0,h1,w2⟩:=OwnT.elem k0 0
  change _[0]?=_ at y0;change PtR _ _ (_+0*_) _ at x0;change ElemAt _ _ _ _ _ (_+0*_) at h1
  refine drawE [7,9] [(1,⟨b0,0,none⟩, .slice a1_9 n1_12 k1_13),(4,⟨b0,0,none⟩, .slice a1_9 n1_12 k1_13),(6,⟨u0,v0+0*4+0,none⟩,I n0.w),(6,⟨u0,v0+0*4+1,none⟩,I n0.h),(6,⟨u0,v0+0*4+2,none⟩,I n0.max_),(6,⟨u0,v0+0*4+3,none⟩, .slice n0.pix.a n0.pix.n n0.pix.k)] [(true,[0,2,3]),(true,[1]),(true,[4]),(true,[5]),(true,[6]),(false,[7]),(true,[8]),(false,[9])] rfl kr ⟨cI d0 5,cI d0 5, .inr ((x0.up 1 rfl).cell d0 (k:=0) rfl), .inr ((x0.up 1 rfl).cell d0 (k:=1) rfl), .inr ((x0.up 1 rfl).cell d0 (k:=2) rfl), .inr ((x0.up 1 rfl).cell d0 (k:=3) rfl),trivial⟩ ?_
  have x2:=d0.drew
  refine wU [0,2,3]<|wLd (.slice a1_9 n1_12 k1_13) 0 isAgg25<|wLd (.slice a1_9 n1_12 k1_13) 1 isAgg25<|wY (.pointer (some ⟨u0,v0+0*4,none⟩)) rfl (fun w _=>Y_idx (a:=a1_9) (i:=0) (len:=n1_12) (cap:=k1_13) rfl runUnderlying25 sizeOf87 kr kr h1)<|wY (.agg (encPlane n0).toArray) rfl (fun w hF=>Y_loadF rfl (isAgg87 w) (sizeOf87 w) kr rfl ⟨hF 2 _ _ rfl,hF 3 _ _ rfl,hF 4 _ _ rfl,hF 5 _ _ rfl,trivial⟩)<|wO rfl<|cX call49 (tg_spoilPlane (RdT.flat (hR.up 6 (by rfl))) om x2.flat1 n0 ⟨(RdT.flat ((hj0.inputsD n0 (List.mem_of_getElem? y0)).pix.up 5 (by rfl)))⟩ kk om (hjS.1.2 _ (List.mem_of_getElem? y0))) ?_
  rintro _ _ ⟨z0,i1,rfl,y2,z2,j1,_,a3⟩
  have k1:=a3.unflat2
  refine nilO ⟨⟨cI k1 6,cI k1 6,dI,dI,dI,dI,trivial⟩,?_⟩
  refine wY (.pointer (some ⟨u0,v0+0*4,none⟩)) rfl (fun w _=>Y_idx (a:=a1_9) (i:=0) (len:=n1_12) (cap:=k1_13) rfl runUnderlying25 sizeOf87 kr kr h1)<|wO rfl<|sStF k1 k0 w2 2 0 0 n0 z0 y0 (.agg (encPlane z0).toArray) (encPlane z0) sizeOf87 fun _ a1 b3 c3=>nilO ⟨dA,?_⟩
  refine wN<|bN<|tN ?_
  have d3:=(c3.picks [2,5,6,3])
  have e3:Sat W _ ([(p, .cells #[.slice a n k,I j1] 85 (0,0))]::[(b0, .cells #[.slice a1_9 n1_12 k1_13, .slice a2_10 n2_14 k2_15, .slice a3_11 n3_16 k3_17,I j0.priority] 28 (0,0))]::[(h0, .cells #[nS,nS,nS,I 0] 28 (0,0))]::(a1++i1++c2_19++c3_20)::J::H::F):=Sat.perm (show Sat W _ ([(p, .cells #[.slice a n k,I j1] 85 (0,0))]::[(b0, .cells #[.slice a1_9 n1_12 k1_13, .slice a2_10 n2_14 k2_15, .slice a3_11 n3_16 k3_17,I j0.priority] 28 (0,0))]::[(h0, .cells #[nS,nS,nS,I 0] 28 (0,0))]::a1::i1::c2_19::c3_20::J::H::F) from d3) (by simp [Value.cells])
  exact ⟨((⟨⟨a1_9,n1_12,k1_13,(j0.inputs.l.set 0 z0)⟩,⟨a2_10,n2_14,k2_15,j0.stages.l⟩,⟨a3_11,n3_16,k3_17,j0.outputs.l⟩,j0.priority⟩:Job),(a1++i1++c2_19++c3_20),j1),alA,e3,om,⟨(b3.rdAt (cs:=[a1]) 0 rfl).of_mem mS,(mem_set (fun z hz=>(hj0.inputsD z hz).of_mem mS) (y2.of_mem mS)),(l0.rdAt (cs:=[c2_19]) 0 rfl).of_mem mS,(fun z hz=>(hj0.stagesD z hz).of_mem mS),(m0.rdAt (cs:=[c3_20]) 0 rfl).of_mem mS⟩,⟨⟨by have h:=hjS.1.1;first|(dsimp only;omega)|(simp;omega),mem_set (fun z hz=>planeS_mono (hjS.1.2 z hz) om) z2⟩,⟨by have h:=hjS.2.1.1;first|(dsimp only;omega)|(simp;omega),(fun z hz=>stageB_mono (hjS.2.1.2 z hz) om)⟩,⟨by have h:=hjS.2.2.1.1;first|(dsimp only;omega)|(simp;omega),hjS.2.2.1.2⟩,by have h:=hjS.2.2.2;unfold numB at*;dsimp only;omega⟩⟩
 refine sR<|pu2<|nT<|cE w0 2 (fun f3=>?_) (fun f3=>?_)
 ·refine drawE [3,4,5,6,8] [(1,⟨b0,2,none⟩, .slice a3_11 n3_16 k3_17)] [(true,[0,2]),(true,[1]),(false,[3]),(false,[4]),(false,[5]),(false,[6]),(true,[7]),(false,[8])] rfl kr ⟨cI d0 5,trivial⟩ ?_
  have g3:=d0.drew
  refine wU [0,2]<|wLd (.slice a3_11 n3_16 k3_17) 0 isAgg22<|wO rfl<|sBS g3 #[I (-1),I 0,I 16,I 99] runUnderlying22 sizeOf3 zeroValue3 fun _ _ y1=>nilO ⟨⟨cI y1 6,trivial⟩,?_⟩
  refine wO rfl ?_
  have h3:=(y1.pick 1 rfl)
  refine cX call38 (tape_pick (RdT.flat (hR.up 7 (by rfl))) om h3.flat1 (RdT.flat (RdT.blk (enc:=Go.E.encI) (sz:=1) (xs:=[-1,0,16,99]) (fun _=>(by rfl)) 4 0 rfl rfl rfl om)) om om) ?_
  rintro _ _ ⟨s0,rfl,i3,l1,_,j3⟩
  have z1:=j3.unflat1
  have o5:(s0:Int)=(-1)\/(s0:Int)=0\/(s0:Int)=16\/(s0:Int)=99:=by simpa using i3
  refine nilO ⟨⟨cI z1 6,trivial⟩,?_⟩
  refine wO rfl<|sBS z1 #[I s0] runUnderlying22 sizeOf3 zeroValue3 fun _ _ a2=>nilO ⟨⟨cI a2 7,trivial⟩,?_⟩
  refine wO rfl<|sApp (nb:=8) a2 m0 5 (RdT.blk (enc:=Go.E.encI) (sz:=1) (xs:=[s0]) fR 1 0 rfl rfl rfl om) underlying22 (i:=Tryz.t3) kr fR fun b1 c1 d1 _ k3 l3=>nilO ⟨dA,?_⟩
  refine wU [7]<|wO rfl<|tW l3 7 2 (.slice b1 (n3_16+1) c1) sizeOf22 fun _ m3=>nilO ⟨dA,?_⟩
  refine wN<|bN<|tN ?_
  have n3:=((m3.picks [6,7,3]).drops [3,3])
  have o3:Sat W _ ([(p, .cells #[.slice a n k,I l1] 85 (0,0))]::[(b0, .cells #[.slice a1_9 n1_12 k1_13, .slice a2_10 n2_14 k2_15, .slice b1 (n3_16+1) c1,I j0.priority] 28 (0,0))]::[(h0, .cells #[nS,nS,nS,I 0] 28 (0,0))]::(c1_18++c2_19++d1)::J::H::F):=Sat.perm (show Sat W _ ([(p, .cells #[.slice a n k,I l1] 85 (0,0))]::[(b0, .cells #[.slice a1_9 n1_12 k1_13, .slice a2_10 n2_14 k2_15, .slice b1 (n3_16+1) c1,I j0.priority] 28 (0,0))]::[(h0, .cells #[nS,nS,nS,I 0] 28 (0,0))]::c1_18::c2_19::d1::J::H::F) from n3) (by simp [Value.cells])
  exact ⟨((⟨⟨a1_9,n1_12,k1_13,j0.inputs.l⟩,⟨a2_10,n2_14,k2_15,j0.stages.l⟩,⟨b1,(n3_16+1),c1,(j0.outputs.l++[s0])⟩,j0.priority⟩:Job),(c1_18++c2_19++d1),l1),alA,o3,om,⟨(k0.rdAt (cs:=[c1_18]) 0 rfl).of_mem mS,(fun z hz=>(hj0.inputsD z hz).of_mem mS),(l0.rdAt (cs:=[c2_19]) 0 rfl).of_mem mS,(fun z hz=>(hj0.stagesD z hz).of_mem mS),(k3.rdAt (cs:=[d1]) 0 rfl).of_mem mS⟩,⟨⟨by have h:=hjS.1.1;first|(dsimp only;omega)|(simp;omega),(fun z hz=>planeS_mono (hjS.1.2 z hz) om)⟩,⟨by have h:=hjS.2.1.1;first|(dsimp only;omega)|(simp;omega),(fun z hz=>stageB_mono (hjS.2.1.2 z hz) om)⟩,⟨by have h:=hjS.2.2.1.1;first|(dsimp only;omega)|(simp;omega),mem_snoc hjS.2.2.1.2 (by unfold numB;omega)⟩,by have h:=hjS.2.2.2;unfold numB at*;dsimp only;omega⟩⟩
 refine sR<|pu2<|nT<|cE w0 3 (fun p3=>?_) (fun p3=>?_)
 ·refine drawE [6,9] [(1,⟨b0,0,none⟩, .slice a1_9 n1_12 k1_13),(4,⟨b0,0,none⟩, .slice a1_9 n1_12 k1_13)] [(true,[0,2,3]),(true,[1]),(true,[4]),(true,[5]),(false,[6]),(true,[7]),(true,[8]),(false,[9])] rfl kr ⟨cI d0 5,cI d0 5,trivial⟩ ?_
  have q3:=d0.drew
  refine wU [0,2,3]<|wLd (.slice a1_9 n1_12 k1_13) 0 isAgg25<|wLd (.slice a1_9 n1_12 k1_13) 1 isAgg25<|wU [5]<|wO rfl<|cX call13 (tape_next (RdT.flat (hR.up 6 (by rfl))) om q3.flat1 (n1_12:Int) om) ?_
  rintro _ _ ⟨p0,rfl,_,m1,_,r3⟩
  have n1:=r3.unflat1
  refine nilO ⟨⟨cI n1 5,cI n1 5,trivial⟩,?_⟩
  have s3:=k0.part (lo:=0) (hi:=(p0).toNat) om om
  refine wY (.slice (partAddr a1_9 k1_13 0 4) ((p0).toNat-0) (k1_13-0)) rfl (fun w _=>Y_sl (a:=a1_9) (len:=n1_12) (cap:=k1_13) none (some p0) 0 ((p0).toNat) runUnderlying25 sizeOf87 rfl ⟨om,om⟩ om om)<|wU [8]<|wO rfl<|tW n1 5 0 (.slice (partAddr a1_9 k1_13 0 4) ((p0).toNat-0) (k1_13-0)) sizeOf25 fun _ u3=>nilO ⟨dA,?_⟩
  refine wN<|bN<|tN ?_
  have v3:=(u3.picks [4,5,2])
  have w3:Sat W _ ([(p, .cells #[.slice a n k,I m1] 85 (0,0))]::[(b0, .cells #[.slice (partAddr a1_9 k1_13 0 4) ((p0).toNat-0) (k1_13-0), .slice a2_10 n2_14 k2_15, .slice a3_11 n3_16 k3_17,I j0.priority] 28 (0,0))]::[(h0, .cells #[nS,nS,nS,I 0] 28 (0,0))]::(c1_18++c2_19++c3_20)::J::H::F):=Sat.perm (show Sat W _ ([(p, .cells #[.slice a n k,I m1] 85 (0,0))]::[(b0, .cells #[.slice (partAddr a1_9 k1_13 0 4) ((p0).toNat-0) (k1_13-0), .slice a2_10 n2_14 k2_15, .slice a3_11 n3_16 k3_17,I j0.priority] 28 (0,0))]::[(h0, .cells #[nS,nS,nS,I 0] 28 (0,0))]::c1_18::c2_19::c3_20::J::H::F) from v3) (by simp [Value.cells])
  exact ⟨((⟨⟨(partAddr a1_9 k1_13 0 4),((p0).toNat-0),(k1_13-0),((j0.inputs.l.drop 0).take ((p0).toNat-0))⟩,⟨a2_10,n2_14,k2_15,j0.stages.l⟩,⟨a3_11,n3_16,k3_17,j0.outputs.l⟩,j0.priority⟩:Job),(c1_18++c2_19++c3_20),m1),alA,w3,om,⟨(s3.rdAt (cs:=[c1_18]) 0 rfl).of_mem mS,(fun z hz=>(hj0.inputsD z (List.mem_of_mem_drop (List.mem_of_mem_take hz))).of_mem mS),(l0.rdAt (cs:=[c2_19]) 0 rfl).of_mem mS,(fun z hz=>(hj0.stagesD z hz).of_mem mS),(m0.rdAt (cs:=[c3_20]) 0 rfl).of_mem mS⟩,⟨⟨by have h:=hjS.1.1;first|(dsimp only;omega)|(simp;omega),(fun z hz=>(fun z hz=>planeS_mono (hjS.1.2 z hz) om) z (List.mem_of_mem_drop (List.mem_of_mem_take hz)))⟩,⟨by have h:=hjS.2.1.1;first|(dsimp only;omega)|(simp;omega),(fun z hz=>stageB_mono (hjS.2.1.2 z hz) om)⟩,⟨by have h:=hjS.2.2.1.1;first|(dsimp only;omega)|(simp;omega),hjS.2.2.1.2⟩,by have h:=hjS.2.2.2;unfold numB at*;dsimp only;omega⟩⟩
 refine sR<|pu2<|nT<|cE w0 4 (fun x3=>?_) (fun x3=>?_)
 ·refine drawE [7,10] [(1,⟨b0,1,none⟩, .slice a2_10 n2_14 k2_15),(4,⟨b0,1,none⟩, .slice a2_10 n2_14 k2_15)] [(true,[0,2,3]),(true,[1]),(true,[4]),(true,[5]),(true,[6]),(false,[7]),(true,[8]),(true,[9]),(false,[10])] rfl kr ⟨cI d0 5,cI d0 5,trivial⟩ ?_
  have y3:=d0.drew
  refine wU [0,2,3]<|wLd (.slice a2_10 n2_14 k2_15) 0 isAgg26<|wLd (.slice a2_10 n2_14 k2_15) 1 isAgg26<|wU [5]<|wAdd (n2_14:Int) 1<|wO rfl<|cX call13 (tape_next (RdT.flat (hR.up 6 (by rfl))) om y3.flat1 ((n2_14:Int)+1) om) ?_
  rintro _ _ ⟨q0,rfl,_,o1,_,z3⟩
  have q1:=z3.unflat1
  refine nilO ⟨⟨cI q1 5,cI q1 5,trivial⟩,?_⟩
  have a4:=l0.part (lo:=0) (hi:=(q0).toNat) om om
  refine wY (.slice (partAddr a2_10 k2_15 0 18) ((q0).toNat-0) (k2_15-0)) rfl (fun w _=>Y_sl (a:=a2_10) (len:=n2_14) (cap:=k2_15) none (some q0) 0 ((q0).toNat) runUnderlying26 sizeOf38 rfl ⟨om,om⟩ om om)<|wU [9]<|wO rfl<|tW q1 5 1 (.slice (partAddr a2_10 k2_15 0 18) ((q0).toNat-0) (k2_15-0)) sizeOf26 fun _ b4=>nilO ⟨dA,?_⟩
  refine wN<|bN<|tN ?_
  have c4:=(b4.picks [4,5,2])
  have d4:Sat W _ ([(p, .cells #[.slice a n k,I o1] 85 (0,0))]::[(b0, .cells #[.slice a1_9 n1_12 k1_13, .slice (partAddr a2_10 k2_15 0 18) ((q0).toNat-0) (k2_15-0), .slice a3_11 n3_16 k3_17,I j0.priority] 28 (0,0))]::[(h0, .cells #[nS,nS,nS,I 0] 28 (0,0))]::(c1_18++c2_19++c3_20)::J::H::F):=Sat.perm (show Sat W _ ([(p, .cells #[.slice a n k,I o1] 85 (0,0))]::[(b0, .cells #[.slice a1_9 n1_12 k1_13, .slice (partAddr a2_10 k2_15 0 18) ((q0).toNat-0) (k2_15-0), .slice a3_11 n3_16 k3_17,I j0.priority] 28 (0,0))]::[(h0, .cells #[nS,nS,nS,I 0] 28 (0,0))]::c1_18::c2_19::c3_20::J::H::F) from c4) (by simp [Value.cells])
  exact ⟨((⟨⟨a1_9,n1_12,k1_13,j0.inputs.l⟩,⟨(partAddr a2_10 k2_15 0 18),((q0).toNat-0),(k2_15-0),((j0.stages.l.drop 0).take ((q0).toNat-0))⟩,⟨a3_11,n3_16,k3_17,j0.outputs.l⟩,j0.priority⟩:Job),(c1_18++c2_19++c3_20),o1),alA,d4,om,⟨(k0.rdAt (cs:=[c1_18]) 0 rfl).of_mem mS,(fun z hz=>(hj0.inputsD z hz).of_mem mS),(a4.rdAt (cs:=[c2_19]) 0 rfl).of_mem mS,(fun z hz=>(hj0.stagesD z (List.mem_of_mem_drop (List.mem_of_mem_take hz))).of_mem mS),(m0.rdAt (cs:=[c3_20]) 0 rfl).of_mem mS⟩,⟨⟨by have h:=hjS.1.1;first|(dsimp only;omega)|(simp;omega),(fun z hz=>planeS_mono (hjS.1.2 z hz) om)⟩,⟨by have h:=hjS.2.1.1;first|(dsimp only;omega)|(simp;omega),(fun z hz=>(fun z hz=>stageB_mono (hjS.2.1.2 z hz) om) z (List.mem_of_mem_drop (List.mem_of_mem_take hz)))⟩,⟨by have h:=hjS.2.2.1.1;first|(dsimp only;omega)|(simp;omega),hjS.2.2.1.2⟩,by have h:=hjS.2.2.2;unfold numB at*;dsimp only;omega⟩⟩
 refine sR<|pu1<|sL d0 5 1 (.slice a2_10 n2_14 k2_15) (isAgg26 _)<|pu2<|nT<|cD ((n2_14:Int)>0) (fun e4=>?_) (fun e4=>?_)
 rotate_left
 ·refine skipE<|bN<|tN ?_
  have f4:=(d0.picks [4,5,2])
  have g4:Sat W _ ([(p, .cells #[.slice a n k,I t0] 85 (0,0))]::[(b0, .cells #[.slice a1_9 n1_12 k1_13, .slice a2_10 n2_14 k2_15, .slice a3_11 n3_16 k3_17,I j0.priority] 28 (0,0))]::[(h0, .cells #[nS,nS,nS,I 0] 28 (0,0))]::(c1_18++c2_19++c3_20)::J::H::F):=Sat.perm (show Sat W _ ([(p, .cells #[.slice a n k,I t0] 85 (0,0))]::[(b0, .cells #[.slice a1_9 n1_12 k1_13, .slice a2_10 n2_14 k2_15, .slice a3_11 n3_16 k3_17,I j0.priority] 28 (0,0))]::[(h0, .cells #[nS,nS,nS,I 0] 28 (0,0))]::c1_18::c2_19::c3_20::J::H::F) from f4) (by simp [Value.cells])
  exact ⟨((⟨⟨a1_9,n1_12,k1_13,j0.inputs.l⟩,⟨a2_10,n2_14,k2_15,j0.stages.l⟩,⟨a3_11,n3_16,k3_17,j0.outputs.l⟩,j0.priority⟩:Job),(c1_18++c2_19++c3_20),t0),alA,g4,om,⟨(k0.rdAt (cs:=[c1_18]) 0 rfl).of_mem mS,(fun z hz=>(hj0.inputsD z hz).of_mem mS),(l0.rdAt (cs:=[c2_19]) 0 rfl).of_mem mS,(fun z hz=>(hj0.stagesD z hz).of_mem mS),(m0.rdAt (cs:=[c3_20]) 0 rfl).of_mem mS⟩,⟨⟨by have h:=hjS.1.1;first|(dsimp only;omega)|(simp;omega),(fun z hz=>planeS_mono (hjS.1.2 z hz) om)⟩,⟨by have h:=hjS.2.1.1;first|(dsimp only;omega)|(simp;omega),(fun z hz=>stageB_mono (hjS.2.1.2 z hz) om)⟩,⟨by have h:=hjS.2.2.1.1;first|(dsimp only;omega)|(simp;omega),hjS.2.2.1.2⟩,by have h:=hjS.2.2.2;unfold numB at*;dsimp only;omega⟩⟩
 refine sR<|pu2<|sL d0 5 1 (.slice a2_10 n2_14 k2_15) (isAgg26 _)<|pu1<|cX call13 (tape_next (RdT.flat (hR.up 6 (by rfl))) om d0.flat1 (n2_14:Int) om) ?_
 rintro _ _ ⟨c0,rfl,_,_,_,h4⟩
 have e0:=h4.unflat1
 refine pu1<|nT ?_
 obtain ⟨a0,f0,g0,o0,i0,b2,i4⟩:=OwnT.elem l0 c0
 refine drawE [9,11] [(1,⟨b0,1,none⟩, .slice a2_10 n2_14 k2_15),(5,⟨b0,1,none⟩, .slice a2_10 n2_14 k2_15),(8,⟨f0,g0+(c0).toNat*18+0,none⟩,I a0.kind),(8,⟨f0,g0+(c0).toNat*18+1,none⟩,I a0.a),(8,⟨f0,g0+(c0).toNat*18+2,none⟩,I a0.b),(8,⟨f0,g0+(c0).toNat*18+3,none⟩, .bool a0.barrier),(8,⟨f0,g0+(c0).toNat*18+4,none⟩,I a0.edgePolicy),(8,⟨f0,g0+(c0).toNat*18+5,none⟩,I a0.edgeFill),(8,⟨f0,g0+(c0).toNat*18+6,none⟩,I a0.kW),(8,⟨f0,g0+(c0).toNat*18+7,none⟩,I a0.kH),(8,⟨f0,g0+(c0).toNat*18+8,none⟩, .slice a0.weights.a a0.weights.n a0.weights.k),(8,⟨f0,g0+(c0).toNat*18+9,none⟩, .slice a0.row.a a0.row.n a0.row.k),(8,⟨f0,g0+(c0).toNat*18+10,none⟩, .slice a0.col.a a0.col.n a0.col.k),(8,⟨f0,g0+(c0).toNat*18+11,none⟩,I a0.shift),(8,⟨f0,g0+(c0).toNat*18+12,none⟩,I a0.shift2),(8,⟨f0,g0+(c0).toNat*18+13,none⟩, .slice a0.x.a a0.x.n a0.x.k),(8,⟨f0,g0+(c0).toNat*18+14,none⟩, .slice a0.y.a a0.y.n a0.y.k),(8,⟨f0,g0+(c0).toNat*18+15,none⟩,I a0.bins),(8,⟨f0,g0+(c0).toNat*18+16,none⟩, .slice a0.ops.a a0.ops.n a0.ops.k),(8,⟨f0,g0+(c0).toNat*18+17,none⟩,I a0.max_)] [(true,[0,2,3,4,6]),(true,[1]),(true,[5]),(true,[7]),(true,[8]),(false,[9]),(true,[10]),(false,[11])] rfl kr ⟨cI e0 5,cI e0 5, .inr ((i0.up 2 rfl).cell e0 (k:=0) rfl), .inr ((i0.up 2 rfl).cell e0 (k:=1) rfl), .inr ((i0.up 2 rfl).cell e0 (k:=2) rfl), .inr ((i0.up 2 rfl).cell e0 (k:=3) rfl), .inr ((i0.up 2 rfl).cell e0 (k:=4) rfl), .inr ((i0.up 2 rfl).cell e0 (k:=5) rfl), .inr ((i0.up 2 rfl).cell e0 (k:=6) rfl), .inr ((i0.up 2 rfl).cell e0 (k:=7) rfl), .inr ((i0.up 2 rfl).cell e0 (k:=8) rfl), .inr ((i0.up 2 rfl).cell e0 (k:=9) rfl), .inr ((i0.up 2 rfl).cell e0 (k:=10) rfl), .inr ((i0.up 2 rfl).cell e0 (k:=11) rfl), .inr ((i0.up 2 rfl).cell e0 (k:=12) rfl), .inr ((i0.up 2 rfl).cell e0 (k:=13) rfl), .inr ((i0.up 2 rfl).cell e0 (k:=14) rfl), .inr ((i0.up 2 rfl).cell e0 (k:=15) rfl), .inr ((i0.up 2 rfl).cell e0 (k:=16) rfl), .inr ((i0.up 2 rfl).cell e0 (k:=17) rfl),trivial⟩ ?_
 have j4:=e0.drew
 refine wU [0,2,3,4,6]<|wLd (.slice a2_10 n2_14 k2_15) 0 isAgg26<|wLd (.slice a2_10 n2_14 k2_15) 1 isAgg26<|wY (.pointer (some ⟨f0,g0+(c0).toNat*18,none⟩)) rfl (fun w _=>Y_idx (a:=a2_10) (i:=c0) (len:=n2_14) (cap:=k2_15) rfl runUnderlying26 sizeOf38 kr kr b2)<|wY (.agg (encStage a0).toArray) rfl (fun w hF=>Y_loadF rfl (isAgg38 w) (sizeOf38 w) kr rfl ⟨hF 2 _ _ rfl,hF 3 _ _ rfl,hF 4 _ _ rfl,hF 5 _ _ rfl,hF 6 _ _ rfl,hF 7 _ _ rfl,hF 8 _ _ rfl,hF 9 _ _ rfl,hF 10 _ _ rfl,hF 11 _ _ rfl,hF 12 _ _ rfl,hF 13 _ _ rfl,hF 14 _ _ rfl,hF 15 _ _ rfl,hF 16 _ _ rfl,hF 17 _ _ rfl,hF 18 _ _ rfl,hF 19 _ _ rfl,trivial⟩)<|wO rfl ?_
 have k4:=(j4.picks [6,1])
 refine cX call25 (tg_spoilStage (RdT.flat (hR.up 5 (by rfl))) om k4.flat2 a0 ⟨(hj0.stagesD a0 (List.mem_of_getElem? o0)).weights,(hj0.stagesD a0 (List.mem_of_getElem? o0)).row,(hj0.stagesD a0 (List.mem_of_getElem? o0)).col,(hj0.stagesD a0 (List.mem_of_getElem? o0)).x,(hj0.stagesD a0 (List.mem_of_getElem? o0)).xD,(hj0.stagesD a0 (List.mem_of_getElem? o0)).y,(hj0.stagesD a0 (List.mem_of_getElem? o0)).yD,(hj0.stagesD a0 (List.mem_of_getElem? o0)).ops⟩ kk om (hjS.2.1.2 _ (List.mem_of_getElem? o0))) ?_
 rintro _ _ ⟨e1,r1,rfl,l4,m4,s1,_,n4⟩
 have t1:=n4.unflat3
 refine nilO ⟨⟨cI t1 7,cI t1 7,dI,dI,dI,dI,dI,dI,dI,dI,dI,dI,dI,dI,dI,dI,dI,dI,dI,dI,trivial⟩,?_⟩
 refine wY (.pointer (some ⟨f0,g0+(c0).toNat*18,none⟩)) rfl (fun w _=>Y_idx (a:=a2_10) (i:=c0) (len:=n2_14) (cap:=k2_15) rfl runUnderlying26 sizeOf38 kr kr b2)<|wO rfl<|sStF t1 l0 i4 4 (c0).toNat 0 a0 e1 o0 (.agg (encStage e1).toArray) (encStage e1) sizeOf38 fun _ f1 o4 p4=>nilO ⟨dA,?_⟩
 refine wN<|bN<|tN ?_
 have q4:=(p4.picks [5,2,5,5,6,7,6])
 have r4:Sat W _ ([(p, .cells #[.slice a n k,I s1] 85 (0,0))]::[(b0, .cells #[.slice a1_9 n1_12 k1_13, .slice a2_10 n2_14 k2_15, .slice a3_11 n3_16 k3_17,I j0.priority] 28 (0,0))]::[(h0, .cells #[nS,nS,nS,I 0] 28 (0,0))]::(c1_18++f1++r1++c3_20)::J::H::F):=Sat.perm (show Sat W _ ([(p, .cells #[.slice a n k,I s1] 85 (0,0))]::[(b0, .cells #[.slice a1_9 n1_12 k1_13, .slice a2_10 n2_14 k2_15, .slice a3_11 n3_16 k3_17,I j0.priority] 28 (0,0))]::[(h0, .cells #[nS,nS,nS,I 0] 28 (0,0))]::c1_18::f1::r1::c3_20::J::H::F) from q4) (by simp [Value.cells])
 exact ⟨((⟨⟨a1_9,n1_12,k1_13,j0.inputs.l⟩,⟨a2_10,n2_14,k2_15,(j0.stages.l.set ((c0).toNat) e1)⟩,⟨a3_11,n3_16,k3_17,j0.outputs.l⟩,j0.priority⟩:Job),(c1_18++f1++r1++c3_20),s1),alA,r4,om,⟨(k0.rdAt (cs:=[c1_18]) 0 rfl).of_mem mS,(fun z hz=>(hj0.inputsD z hz).of_mem mS),(o4.rdAt (cs:=[f1]) 0 rfl).of_mem mS,(mem_set (fun z hz=>(hj0.stagesD z hz).of_mem mS) (l4.of_mem (fun p hp=>by simp at hp⊢;rcases hp with h|h<;>simp [h]))),(m0.rdAt (cs:=[c3_20]) 0 rfl).of_mem mS⟩,⟨⟨by have h:=hjS.1.1;first|(dsimp only;omega)|(simp;omega),(fun z hz=>planeS_mono (hjS.1.2 z hz) om)⟩,⟨by have h:=hjS.2.1.1;first|(dsimp only;omega)|(simp;omega),mem_set (fun z hz=>stageB_mono (hjS.2.1.2 z hz) om) m4⟩,⟨by have h:=hjS.2.2.1.1;first|(dsimp only;omega)|(simp;omega),hjS.2.2.1.2⟩,by have h:=hjS.2.2.2;unfold numB at*;dsimp only;omega⟩⟩
end Go.Proofs.YtdingplbadblpaaGreat

namespace Go.Proofs.YtdingplbadblpaaGreat
open Go Go.E Go.Proofs.Tryz
set_option linter.all false
set_option maxRecDepth 100000
set_option maxHeartbeats 2000000
variable {W w:World} {H:Chunk} {F:List Chunk}
section
variable {L:Lay} (g:LayG L)
include g
end
section
variable {L:Lay} (g:LayG L)
include g
end
section
variable {L:Lay} (g:LayG L)
include g
end
structure Cfg where
  workers:Int
  tileW:Int
  tileH:Int
  arena:Int
  deque:Int
  tasks:Int
  cells:Int
  jobs:Int
  deriving DecidableEq
def encCfg (x:Cfg):List Value:=[.int .i64 x.workers, .int .i64 x.tileW, .int .i64 x.tileH, .int .i64 x.arena, .int .i64 x.deque, .int .i64 x.tasks, .int .i64 x.cells, .int .i64 x.jobs]
structure Lod where
  jobs:Int
  tasks:Int
  cells:Int
  deriving DecidableEq
theorem DecR.of_enc {x:List Int} {j0 j:JobV} {c:Int} (h:DecR x j c) (hw:wfJob j0) (hx:x=[84,70,1]++bytesOf (nJob j0)) (hl:x.length<=262144):c=0/\j=j0:=by
  have h0:=h.all hl j0 hw hx
  obtain ⟨h1,_,h3⟩:=h.ok h0
  rw [hx] at h3
  exact ⟨h0,((pfJob j0 j [] [] hw h1 (by simpa using h3)).1).symm⟩
theorem DecR.not {x:List Int} {j:JobV} {c:Int} (h:DecR x j c) (hl:x.length<=262144) (hn:x.take 3≠[84,70,1]):c=4/\j=⟨[],[],[],0⟩:=by
  by_cases h0:c=0
  · obtain ⟨_,_,h3⟩:=h.ok h0
    rw [h3] at hn;simp at hn
  · obtain ⟨h1,h2⟩:=h.bad h0
    rw [if_neg (by omega)] at h2
    exact ⟨h2,h1⟩
theorem DecR.code {x:List Int} {j:JobV} {c:Int} (h:DecR x j c):c=0\/(c=5/\262144<x.length)\/(c=4/\x.length<=262144):=by
  by_cases h0:c=0
  · exact .inl h0
  · obtain ⟨_,h2⟩:=h.bad h0
    by_cases h3:262144<x.length
    · rw [if_pos h3] at h2;omega
    · rw [if_neg h3] at h2;omega
theorem enc_bytes (l:List Int):Bytes ([84,70,1]++bytesOf l):=Bytes.app (by intro b hb;simp at hb;omega) (bytesOf_bytes l)
theorem enc_len (l:List Int):([84,70,1]++bytesOf l).length=3+8*l.length:=by rw [List.length_append,bytesOf_len];rfl
def cfgP (c:Cfg):Prop:=(1<=c.workers/\c.workers<=64)/\(1<=c.tileW/\c.tileW<=64)/\(1<=c.tileH/\c.tileH<=64)/\(0<=c.arena/\c.arena<=1048576)/\(1<=c.deque/\c.deque<=256)/\(1<=c.tasks/\c.tasks<=4096)/\(1<=c.cells/\c.cells<=1048576)/\1<=c.jobs/\c.jobs<=64
instance (c:Cfg):Decidable (cfgP c):=by unfold cfgP;infer_instance
def cfgV (c:Cfg):Int:=if cfgP c then 0 else 2
def admP (c:Cfg) (l:Lod):Prop:=cfgV c=0/\0<=l.jobs/\0<=l.tasks/\0<=l.cells
theorem cfg_of {c:Cfg} (h:cfgV c=0):cfgP c:=by
  unfold cfgV at h
  split at h
  · assumption
  · omega
theorem of_cfg {c:Cfg} (h:cfgP c):cfgV c=0:=if_pos h
def overA (c:Cfg) (ts:List TaskV):Bool:=ts.any fun z=>decide (c.arena<z.scratch)
def admT (c:Cfg) (l:Lod) (ts:List TaskV) (m:Int):Int:=if c.tasks-l.tasks<(ts.length:Int) then 13 else if overA c ts=true then 12 else if c.cells-l.cells<m then 14 else 0
def admD (c:Cfg) (l:Lod) (dj:JobV) (dc:Int):Int:=
  if dc≠0 then dc else if (shpV dj).2.2≠0 then (shpV dj).2.2 else if lowC dj c.tileW c.tileH≠0 then lowC dj c.tileW c.tileH else admT c l (lowV dj c.tileW c.tileH) (celV dj c.tileW c.tileH)
def AdmR (c:Cfg) (l:Lod) (x:List Int) (ts:List TaskV) (m e:Int):Prop:=
  (e=2/\¬admP c l)\/(e=15/\admP c l/\c.jobs<=l.jobs)\/(admP c l/\l.jobs<c.jobs/\∃dj dc,DecR x dj dc/\e=admD c l dj dc/\(e=0->ts=lowV dj c.tileW c.tileH/\m=celV dj c.tileW c.tileH))
theorem AdmR.dec {c:Cfg} {l:Lod} {x:List Int} {ts:List TaskV} {m e:Int} (h:AdmR c l x ts m e) (hp:admP c l) (hj:l.jobs<c.jobs) {dj:JobV} {dc:Int} (hd:DecR x dj dc):e=admD c l dj dc/\(e=0->ts=lowV dj c.tileW c.tileH/\m=celV dj c.tileW c.tileH):=by
  rcases h with ⟨_,h⟩|⟨_,_,h⟩|⟨_,_,dj',dc',hd',h1,h2⟩
  · exact absurd hp h
  · omega
  · obtain ⟨rfl,rfl⟩:=DecR.same hd hd'
    exact ⟨h1,h2⟩
theorem AdmR.full {c:Cfg} {l:Lod} {x:List Int} {ts:List TaskV} {m e:Int} (h:AdmR c l x ts m e) (hp:admP c l) (hj:c.jobs<=l.jobs):e=15:=by
  rcases h with ⟨_,h⟩|⟨h,_,_⟩|⟨_,h,_⟩
  · exact absurd hp h
  · exact h
  · omega
theorem admT_zero {c:Cfg} {l:Lod} {ts:List TaskV} {m:Int} (h:admT c l ts m=0):(ts.length:Int)<=c.tasks-l.tasks/\overA c ts=false/\m<=c.cells-l.cells:=by
  unfold admT at h
  split at h
  · omega
  split at h
  · omega
  split at h
  · omega
  rename_i h1 h2 h3
  exact ⟨by omega,Bool.not_eq_true _▸h2,by omega⟩
theorem admD_zero {c:Cfg} {l:Lod} {dj:JobV} {dc:Int} (h:admD c l dj dc=0):dc=0/\(shpV dj).2.2=0/\lowC dj c.tileW c.tileH=0/\admT c l (lowV dj c.tileW c.tileH) (celV dj c.tileW c.tileH)=0:=by
  unfold admD at h
  split at h
  · omega
  split at h
  · omega
  split at h
  · omega
  exact ⟨by omega,by omega,by omega,h⟩
theorem over_mono {c d:Cfg} {ts:List TaskV} (h:overA c ts=false) (ha:c.arena<=d.arena):overA d ts=false:=by
  unfold overA at*
  rw [List.any_eq_false] at*
  intro z hz
  have:=h z hz
  simp only [decide_eq_true_eq] at this⊢
  omega
theorem adm_mono {c d:Cfg} {l k:Lod} {x:List Int} {ts ts':List TaskV} {m m' e e':Int} (h:AdmR c l x ts m e) (h':AdmR d k x ts' m' e') (he:e=0) (hw:d.tileW=c.tileW) (hh:d.tileH=c.tileH) (hP:cfgP c->0<=l.jobs/\0<=l.tasks/\0<=l.cells->admP d k)
  (hj:l.jobs<c.jobs->cfgP c->0<=l.jobs/\0<=l.tasks/\0<=l.cells->k.jobs<d.jobs/\c.arena<=d.arena/\c.tasks-l.tasks<=d.tasks-k.tasks/\c.cells-l.cells<=d.cells-k.cells):e'=0/\ts'=ts/\m'=m:=by
 rcases h with ⟨h,_⟩|⟨h,_⟩|⟨hp,hjl,dj,dc,hd,h1,h2⟩
 ·omega
 ·omega
 obtain ⟨h3,h4⟩:=h2 he
 have hc:=cfg_of hp.1
 obtain ⟨j1,j2,j3,j4⟩:=hj hjl hc hp.2
 obtain ⟨h5,h6⟩:=h'.dec (hP hc hp.2) j1 hd
 obtain ⟨z1,z2,z3,z4⟩:=admD_zero (h1.symm.trans he)
 obtain ⟨t1,t2,t3⟩:=admT_zero z4
 have he':e'=0:=by
  rw [h5]
  unfold admD
  rw [if_neg om,if_neg om,hw,hh,if_neg om]
  unfold admT
  rw [if_neg om,if_neg (by rw [over_mono t2 j2];decide),if_neg om]
 obtain ⟨h7,h8⟩:=h6 he'
 rw [hw,hh] at h7 h8
 exact ⟨he',by rw [h7,h3],by rw [h8,h4]⟩
theorem flat_gf {α:Type} {f:α->List Int} (hf:∀z,1<=(f z).length):∀l:List α,l.length<=(l.flatMap f).length
  |[]=>by simp
  |x::l=>by
    have:=flat_gf hf l;have:=hf x
    simp only [List.flatMap_cons,List.length_append,List.length_cons];omega
theorem dec_bd {x:List Int} {q:Job} {c:Int} {cs:List Chunk} (h:DecR x q.v c) (hq:Job.Ok cs q):q.inputs.n<=1000000/\q.stages.n<=1000000/\q.outputs.n<=1000000:=by
 have h1:=hq.inputs.len;have h2:=hq.stages.len;have h3:=hq.outputs.len
 by_cases e:c=0
 ·obtain ⟨_,hl,hx⟩:=h.ok e
  rw [hx,enc_len] at hl
  have e1:=flat_gf (f:=nPlane) (fun z=>by unfold nPlane;simp only [List.length_append,List.length_cons];omega) (q.inputs.l.map Plane.v)
  have e2:=flat_gf (f:=nStage) (fun z=>by unfold nStage;simp only [List.length_append,List.length_cons];omega) (q.stages.l.map Stage.v)
  have e3:q.outputs.l.length<=(nInts q.outputs.l).length:=by unfold nInts;simp
  rw [List.length_map] at e1 e2
  unfold nJob Job.v at hl
  dsimp only at hl
  simp only [List.length_append,List.length_cons] at hl
  omega
 ·have hb:=(h.bad e).1
  have b1:=congrArg (fun j=>j.inputs.length) hb;have b2:=congrArg (fun j=>j.stages.length) hb;have b3:=congrArg (fun j=>j.outputs.length) hb
  simp only [Job.v,List.length_map,List.length_nil] at b1 b2 b3
  omega
theorem p26_within (n0:Int) (lo:Int) (hi:Int) (hS:Sat W w (H::F)):
  Ro prog 120 #[I n0,I lo,I hi] (.bool (decide (lo<=n0/\n0<=hi))) W w (H::F):=by
 refine callsA 15 func120 rfl<|sR<|pu1<|zS<|pu4<|sD 10 (n0>=lo) (fun a0=>?_) (fun a0=>?_)
 rotate_left
 ·exact pu5<|zE<|retT [.bool false]<|⟨rB (by rw [Bool.eq_iff_iff];simp [*]<;>omega),hS⟩
 exact pu5<|zE<|retT [.bool (decide ((n0:Int)<=hi))]<|⟨rB (by rw [Bool.eq_iff_iff];simp [*]<;>omega),hS⟩
theorem p26_valid (c:Cfg) (hS:Sat W w (H::F)):
  Ro prog 80 #[.agg (encCfg c).toArray] (I (cfgV c)) W w (H::F):=by
 refine callsA 44 func80 rfl<|sR<|sBox hS (.agg (encCfg c).toArray) (encCfg c).toArray fun _ _ h0=>pu1<|zS<|pu1<|sL h0 0 0 (I c.workers) (isAgg3 _)<|cR call120 (p26_within c.workers 1 64 h0.flat) fun _ a0=>pu1<|sD 7 (1<=c.workers/\c.workers<=64) (fun j0=>?_) (fun j0=>?_)
 rotate_left
 ·exact pu16<|pu16<|pu3<|zQ<|pu2<|zC<|pu1<|zR<|retT [I 2]<|⟨by unfold cfgV;rw [if_neg (by unfold cfgP;omega)];rfl,(a0.dropAt 0 rfl)⟩
 refine pu1<|gY<|sL a0 0 1 (I c.tileW) (isAgg3 _)<|gY<|cR call120 (p26_within c.tileW 1 64 a0.flat) fun _ b0=>pu2<|sD 12 (1<=c.tileW/\c.tileW<=64) (fun l0=>?_) (fun l0=>?_)
 rotate_left
 ·exact pu16<|pu14<|zQ<|pu2<|zC<|pu1<|zR<|retT [I 2]<|⟨by unfold cfgV;rw [if_neg (by unfold cfgP;omega)];rfl,(b0.dropAt 0 rfl)⟩
 refine pu1<|gY<|sL b0 0 2 (I c.tileH) (isAgg3 _)<|gY<|cR call120 (p26_within c.tileH 1 64 b0.flat) fun _ c0=>pu2<|sD 17 (1<=c.tileH/\c.tileH<=64) (fun n0=>?_) (fun n0=>?_)
 rotate_left
 ·exact pu16<|pu9<|zQ<|pu2<|zC<|pu1<|zR<|retT [I 2]<|⟨by unfold cfgV;rw [if_neg (by unfold cfgP;omega)];rfl,(c0.dropAt 0 rfl)⟩
 refine pu1<|gY<|sL c0 0 3 (I c.arena) (isAgg3 _)<|gY<|cR call120 (p26_within c.arena 0 1048576 c0.flat) fun _ d0=>pu2<|sD 22 (0<=c.arena/\c.arena<=1048576) (fun p0=>?_) (fun p0=>?_)
 rotate_left
 ·exact pu16<|pu4<|zQ<|pu2<|zC<|pu1<|zR<|retT [I 2]<|⟨by unfold cfgV;rw [if_neg (by unfold cfgP;omega)];rfl,(d0.dropAt 0 rfl)⟩
 refine pu1<|gY<|sL d0 0 4 (I c.deque) (isAgg3 _)<|gY<|cR call120 (p26_within c.deque 1 256 d0.flat) fun _ e0=>pu2<|sD 27 (1<=c.deque/\c.deque<=256) (fun r0=>?_) (fun r0=>?_)
 rotate_left
 ·exact pu15<|zQ<|pu2<|zC<|pu1<|zR<|retT [I 2]<|⟨by unfold cfgV;rw [if_neg (by unfold cfgP;omega)];rfl,(e0.dropAt 0 rfl)⟩
 refine pu1<|gY<|sL e0 0 5 (I c.tasks) (isAgg3 _)<|gY<|cR call120 (p26_within c.tasks 1 4096 e0.flat) fun _ f0=>pu2<|sD 32 (1<=c.tasks/\c.tasks<=4096) (fun t0=>?_) (fun t0=>?_)
 rotate_left
 ·exact pu10<|zQ<|pu2<|zC<|pu1<|zR<|retT [I 2]<|⟨by unfold cfgV;rw [if_neg (by unfold cfgP;omega)];rfl,(f0.dropAt 0 rfl)⟩
 refine pu1<|gY<|sL f0 0 6 (I c.cells) (isAgg3 _)<|gY<|cR call120 (p26_within c.cells 1 1048576 f0.flat) fun _ g0=>pu2<|sD 37 (1<=c.cells/\c.cells<=1048576) (fun v0=>?_) (fun v0=>?_)
 rotate_left
 ·exact pu5<|zQ<|pu2<|zC<|pu1<|zR<|retT [I 2]<|⟨by unfold cfgV;rw [if_neg (by unfold cfgP;omega)];rfl,(g0.dropAt 0 rfl)⟩
 refine pu1<|gY<|sL g0 0 7 (I c.jobs) (isAgg3 _)<|gY<|cR call120 (p26_within c.jobs 1 64 g0.flat) fun _ i0=>pu2<|zQ<|pu2<|nT<|cDn (1<=c.jobs/\c.jobs<=64) (fun x0=>?_) (fun x0=>?_)
 rotate_left
 ·exact sR<|pu1<|zR<|retT [I 2]<|⟨by unfold cfgV;rw [if_neg (by unfold cfgP;omega)];rfl,(i0.dropAt 0 rfl)⟩
 exact kS<|pu1<|zE<|retT [I 0]<|⟨by unfold cfgV;rw [if_pos (by unfold cfgP;omega)];rfl,(i0.dropAt 0 rfl)⟩
theorem p26_chk (c:Cfg) (l:Lod) {a:Option Addr} {n k:Nat} {xs:List Int} (hR:RdT encB 1 [H] a n k xs) (bd:Bytes xs) (hl:l.jobs<=9223372036854775807/\l.tasks<=9223372036854775807/\l.cells<=9223372036854775807) (hS:Sat W w (H::F)):
  Calls prog 77 #[.agg (encCfg c).toArray, .agg #[I l.jobs,I l.tasks,I l.cells], .slice a n k] w fun e w'=>∃(q:Job) (az:Option Addr) (nz kz:Nat) (zs:List Task) (m e0:Int) (Z G:Chunk),e= .returned (.tuple #[.agg (encJob q).toArray, .slice az nz kz,I m,I e0])/\OwnT encTask 46 9 az nz kz zs Z/\(∀z∈zs,Task.Ok [G] z)/\AdmR c l xs (zs.map Task.v) m e0/\Sat W w' (Z::G::H::F):=by
 have hle:=hR.le
 refine callsA 114 func77 rfl<|sR<|sBox hS (.agg (encCfg c).toArray) (encCfg c).toArray fun s0 _ k1=>sBox k1 (.agg #[I l.jobs,I l.tasks,I l.cells]) #[I l.jobs,I l.tasks,I l.cells] fun t0 _ l1=>sAlloc l1 zeroValue28 fun u0 _ v0=>pu3<|zQ<|lA v0 2 0 8 (isAgg70 _) (sizeOf70 _)<|cR call80 (p26_valid c v0.flat) fun _ b0=>pu2<|sN 15 (cfgV c) 0 (fun m1=>?_) (fun m1=>?_)
 rotate_left
 ·refine pu14<|zC<|lA b0 0 0 4 (isAgg28 _) (sizeOf28 _)<|sT b0 0 0 (.agg #[nS,nS,nS,I 0]) [nS,nS,nS,I 0] #[nS,nS,nS,I 0] sizeOf28 fun _ w0=>pu3<|zR<|retN (vs:=[.agg #[nS,nS,nS,I 0],nS,I 0,I 2]) rfl (.cons (.cell _ _ _ _ kr (lvA w0 0 0 [nS,nS,nS,I 0] (isAgg28 _) (sizeOf28 _) rfl rfl rfl)) (.cons (.tmp _ _ kr) (.cons (.tmp _ _ kr) (.cons (.tmp _ _ kr) .nil)))) ?_
  have n1:=(w0.drops [0,0,0])
  have o1:Sat W _ ([]::[]::H::F):=Sat.nilc (Sat.nilc n1)
  refine ⟨(⟨⟨none,0,0,[]⟩,⟨none,0,0,[]⟩,⟨none,0,0,[]⟩,0⟩:Job),none,0,0,[],0,2,_,_,rfl,OwnT.nil fR,(fun z hz=>by cases hz),?_,o1⟩
  first|exact .inl ⟨rfl,by unfold admP;omega⟩|(exfalso;omega)
 refine pu1<|gY<|sL b0 1 0 (I l.jobs) (isAgg3 _)<|pu3<|sD 20 (l.jobs<0) (fun q1=>?_) (fun q1=>?_)
 ·refine pu9<|zC<|lA b0 0 0 4 (isAgg28 _) (sizeOf28 _)<|sT b0 0 0 (.agg #[nS,nS,nS,I 0]) [nS,nS,nS,I 0] #[nS,nS,nS,I 0] sizeOf28 fun _ x0=>pu3<|zR<|retN (vs:=[.agg #[nS,nS,nS,I 0],nS,I 0,I 2]) rfl (.cons (.cell _ _ _ _ kr (lvA x0 0 0 [nS,nS,nS,I 0] (isAgg28 _) (sizeOf28 _) rfl rfl rfl)) (.cons (.tmp _ _ kr) (.cons (.tmp _ _ kr) (.cons (.tmp _ _ kr) .nil)))) ?_
  have r1:=(x0.drops [0,0,0])
  have s1:Sat W _ ([]::[]::H::F):=Sat.nilc (Sat.nilc r1)
  refine ⟨(⟨⟨none,0,0,[]⟩,⟨none,0,0,[]⟩,⟨none,0,0,[]⟩,0⟩:Job),none,0,0,[],0,2,_,_,rfl,OwnT.nil fR,(fun z hz=>by cases hz),?_,s1⟩
  first|exact .inl ⟨rfl,by unfold admP;omega⟩|(exfalso;omega)
 refine pu1<|gY<|sL b0 1 1 (I l.tasks) (isAgg3 _)<|pu3<|sD 25 (l.tasks<0) (fun t1=>?_) (fun t1=>?_)
 ·refine pu4<|zC<|lA b0 0 0 4 (isAgg28 _) (sizeOf28 _)<|sT b0 0 0 (.agg #[nS,nS,nS,I 0]) [nS,nS,nS,I 0] #[nS,nS,nS,I 0] sizeOf28 fun _ y0=>pu3<|zR<|retN (vs:=[.agg #[nS,nS,nS,I 0],nS,I 0,I 2]) rfl (.cons (.cell _ _ _ _ kr (lvA y0 0 0 [nS,nS,nS,I 0] (isAgg28 _) (sizeOf28 _) rfl rfl rfl)) (.cons (.tmp _ _ kr) (.cons (.tmp _ _ kr) (.cons (.tmp _ _ kr) .nil)))) ?_
  have u1:=(y0.drops [0,0,0])
  have v1:Sat W _ ([]::[]::H::F):=Sat.nilc (Sat.nilc u1)
  refine ⟨(⟨⟨none,0,0,[]⟩,⟨none,0,0,[]⟩,⟨none,0,0,[]⟩,0⟩:Job),none,0,0,[],0,2,_,_,rfl,OwnT.nil fR,(fun z hz=>by cases hz),?_,v1⟩
  first|exact .inl ⟨rfl,by unfold admP;omega⟩|(exfalso;omega)
 refine pu1<|gY<|sL b0 1 2 (I l.cells) (isAgg3 _)<|pu2<|nT<|cD (l.cells<0) (fun w1=>?_) (fun w1=>?_)
 ·refine sR<|lA b0 0 0 4 (isAgg28 _) (sizeOf28 _)<|sT b0 0 0 (.agg #[nS,nS,nS,I 0]) [nS,nS,nS,I 0] #[nS,nS,nS,I 0] sizeOf28 fun _ z0=>pu3<|zR<|retN (vs:=[.agg #[nS,nS,nS,I 0],nS,I 0,I 2]) rfl (.cons (.cell _ _ _ _ kr (lvA z0 0 0 [nS,nS,nS,I 0] (isAgg28 _) (sizeOf28 _) rfl rfl rfl)) (.cons (.tmp _ _ kr) (.cons (.tmp _ _ kr) (.cons (.tmp _ _ kr) .nil)))) ?_
  have x1:=(z0.drops [0,0,0])
  have y1:Sat W _ ([]::[]::H::F):=Sat.nilc (Sat.nilc x1)
  refine ⟨(⟨⟨none,0,0,[]⟩,⟨none,0,0,[]⟩,⟨none,0,0,[]⟩,0⟩:Job),none,0,0,[],0,2,_,_,rfl,OwnT.nil fR,(fun z hz=>by cases hz),?_,y1⟩
  first|exact .inl ⟨rfl,by unfold admP;omega⟩|(exfalso;omega)
 refine kT<|seqE<|sR<|pu1<|sL b0 1 0 (I l.jobs) (isAgg3 _)<|pu1<|sL b0 2 7 (I c.jobs) (isAgg3 _)<|pu1<|nT<|cD (l.jobs>=c.jobs) (fun z1=>?_) (fun z1=>?_)
 ·refine sR<|lA b0 0 0 4 (isAgg28 _) (sizeOf28 _)<|sT b0 0 0 (.agg #[nS,nS,nS,I 0]) [nS,nS,nS,I 0] #[nS,nS,nS,I 0] sizeOf28 fun _ a1=>pu3<|zR<|retN (vs:=[.agg #[nS,nS,nS,I 0],nS,I 0,I 15]) rfl (.cons (.cell _ _ _ _ kr (lvA a1 0 0 [nS,nS,nS,I 0] (isAgg28 _) (sizeOf28 _) rfl rfl rfl)) (.cons (.tmp _ _ kr) (.cons (.tmp _ _ kr) (.cons (.tmp _ _ kr) .nil)))) ?_
  have a2:=(a1.drops [0,0,0])
  have b2:Sat W _ ([]::[]::H::F):=Sat.nilc (Sat.nilc a2)
  refine ⟨(⟨⟨none,0,0,[]⟩,⟨none,0,0,[]⟩,⟨none,0,0,[]⟩,0⟩:Job),none,0,0,[],0,15,_,_,rfl,OwnT.nil fR,(fun z hz=>by cases hz),?_,b2⟩
  exact .inr (.inl ⟨rfl,⟨by first|assumption|omega,om,om,om⟩,om⟩)
 refine kT<|seqE<|sR<|pu1<|sF #[.slice a n k] call39 (Calls.mono (codec_decode W _ _ [] _ _ _ xs (RdT.flat (hR.up 3 (by rfl))) bd b0.flat) ?_)
 rintro _ _ ⟨a0,c2,d0,rfl,c0,g0,b1⟩
 refine ⟨_,rfl,?_⟩
 have d2:=b1.unflat1;clear b1
 have hdb:=dec_bd g0 c0;have hcf:=cfg_of (c:=c) om;unfold cfgP at hcf
 refine pu3<|sT d2 1 0 (.agg (encJob a0).toArray) (encJob a0) (encJob a0).toArray sizeOf28 fun _ p0=>pu1<|zS<|pu2<|nT<|cN d0 0 (fun e2=>?_) (fun e2=>?_)
 rotate_left
 ·refine sR<|lA p0 1 0 4 (isAgg28 _) (sizeOf28 _)<|pu1<|sT p0 1 0 (.agg (encJob a0).toArray) (encJob a0) (encJob a0).toArray sizeOf28 fun _ c1=>pu3<|zR<|retN (vs:=[.agg (encJob a0).toArray,nS,I 0,I d0]) rfl (.cons (.cell _ _ _ _ kr (lvA c1 1 0 (encJob a0) (isAgg28 _) (sizeOf28 _) rfl rfl rfl)) (.cons (.tmp _ _ kr) (.cons (.tmp _ _ kr) (.cons (.tmp _ _ kr) .nil)))) ?_
  have hk:d0=admD c l a0.v d0:=by unfold admD;rw [if_pos om]
  have f2:=(c1.drops [0,0,0,0])
  have g2:Sat W _ ([]::[]::H::F):=Sat.nilc (Sat.nilc f2)
  exact ⟨(⟨a0.inputs,a0.stages,a0.outputs,a0.priority⟩:Job),none,0,0,[],0,d0,_,_,rfl,OwnT.nil fR,(fun z hz=>by cases hz), .inr (.inr ⟨⟨by first|assumption|omega,om,om,om⟩,om,_,_,g0,hk,(fun h=>absurd h om)⟩),g2⟩
 refine kT<|seqE<|sR<|lA p0 1 0 4 (isAgg28 _) (sizeOf28 _)<|cR call40 (p17_check a0 ⟨(RdT.flat (c0.inputs.up 0 (by rfl))),(fun z hz=>(c0.inputsD z hz).of_mem (mem_flat1 0 (by rfl))),(RdT.flat (c0.stages.up 0 (by rfl))),(fun z hz=>(c0.stagesD z hz).of_mem (mem_flat1 0 (by rfl))),(RdT.flat (c0.outputs.up 0 (by rfl)))⟩ (od) p0.flat) fun _ j0=>pu4<|zS<|pu2<|nT<|cN ((shpV a0.v).2.2) 0 (fun h2=>?_) (fun h2=>?_)
 rotate_left
 ·refine sR<|lA j0 1 0 4 (isAgg28 _) (sizeOf28 _)<|pu1<|sT j0 1 0 (.agg (encJob a0).toArray) (encJob a0) (encJob a0).toArray sizeOf28 fun _ d1=>pu3<|zR<|retN (vs:=[.agg (encJob a0).toArray,nS,I 0,I ((shpV a0.v).2.2)]) rfl (.cons (.cell _ _ _ _ kr (lvA d1 1 0 (encJob a0) (isAgg28 _) (sizeOf28 _) rfl rfl rfl)) (.cons (.tmp _ _ kr) (.cons (.tmp _ _ kr) (.cons (.tmp _ _ kr) .nil)))) ?_
  have hk:(shpV a0.v).2.2=admD c l a0.v d0:=by unfold admD;rw [if_neg om,if_pos om]
  have i2:=(d1.drops [0,0,0,0])
  have j2:Sat W _ ([]::[]::H::F):=Sat.nilc (Sat.nilc i2)
  exact ⟨(⟨a0.inputs,a0.stages,a0.outputs,a0.priority⟩:Job),none,0,0,[],0,(shpV a0.v).2.2,_,_,rfl,OwnT.nil fR,(fun z hz=>by cases hz), .inr (.inr ⟨⟨by first|assumption|omega,om,om,om⟩,om,_,_,g0,hk,(fun h=>absurd h om)⟩),j2⟩
 refine kT<|seqE<|sR<|lA j0 1 0 4 (isAgg28 _) (sizeOf28 _)<|pu1<|sL j0 3 1 (I c.tileW) (isAgg3 _)<|pu1<|sL j0 3 2 (I c.tileH) (isAgg3 _)<|cX call16 (p20_low (F:=[]) a0 c.tileW c.tileH ⟨(RdT.flat (c0.inputs.up 0 (by rfl))),(fun z hz=>(c0.inputsD z hz).of_mem (mem_flat1 0 (by rfl))),(RdT.flat (c0.stages.up 0 (by rfl))),(fun z hz=>(c0.stagesD z hz).of_mem (mem_flat1 0 (by rfl))),(RdT.flat (c0.outputs.up 0 (by rfl)))⟩ om j0.flat) ?_
 rintro _ _ ⟨q0,f0,r0,k2,l2,m2,rfl,m0,n2,n0,o2⟩
 have h0:=o2.unflat2;have hn_az_52:=m0.len;have hl_az_52:=m0.le
 have hzl:((lowV a0.v c.tileW c.tileH).length:Int)=f0:=by rw [<-n0,List.length_map];have h:=m0.len;omega
 refine pu5<|zS<|pu2<|nT<|cN (lowC a0.v c.tileW c.tileH) 0 (fun q2=>?_) (fun q2=>?_)
 rotate_left
 ·refine sR<|lA h0 3 0 4 (isAgg28 _) (sizeOf28 _)<|pu1<|sT h0 3 0 (.agg (encJob a0).toArray) (encJob a0) (encJob a0).toArray sizeOf28 fun _ e1=>pu3<|zR<|retN (vs:=[.agg (encJob a0).toArray,nS,I 0,I (lowC a0.v c.tileW c.tileH)]) rfl (.cons (.cell _ _ _ _ kr (lvA e1 3 0 (encJob a0) (isAgg28 _) (sizeOf28 _) rfl rfl rfl)) (.cons (.tmp _ _ kr) (.cons (.tmp _ _ kr) (.cons (.tmp _ _ kr) .nil)))) ?_
  have hk:(lowC a0.v c.tileW c.tileH)=admD c l a0.v d0:=by unfold admD;rw [if_neg om,if_neg om,if_pos om]
  have r2:=(e1.drops [0,0,0,0,0,0])
  have s2:Sat W _ ([]::[]::H::F):=Sat.nilc (Sat.nilc r2)
  exact ⟨(⟨a0.inputs,a0.stages,a0.outputs,a0.priority⟩:Job),none,0,0,[],0,(lowC a0.v c.tileW c.tileH),_,_,rfl,OwnT.nil fR,(fun z hz=>by cases hz), .inr (.inr ⟨⟨by first|assumption|omega,om,om,om⟩,om,_,_,g0,hk,(fun h=>absurd h om)⟩),s2⟩
 refine kT<|seqE<|sR<|pu3<|sL h0 5 5 (I c.tasks) (isAgg3 _)<|pu1<|sL h0 4 1 (I l.tasks) (isAgg3 _)<|sSub c.tasks l.tasks<|pu1<|nT<|cD ((f0:Int)>(c.tasks-l.tasks)) (fun t2=>?_) (fun t2=>?_)
 ·refine sR<|lA h0 3 0 4 (isAgg28 _) (sizeOf28 _)<|sT h0 3 0 (.agg (encJob a0).toArray) (encJob a0) (encJob a0).toArray sizeOf28 fun _ f1=>pu3<|zR<|retN (vs:=[.agg (encJob a0).toArray,nS,I 0,I 13]) rfl (.cons (.cell _ _ _ _ kr (lvA f1 3 0 (encJob a0) (isAgg28 _) (sizeOf28 _) rfl rfl rfl)) (.cons (.tmp _ _ kr) (.cons (.tmp _ _ kr) (.cons (.tmp _ _ kr) .nil)))) ?_
  have hk:13=admD c l a0.v d0:=by unfold admD;rw [if_neg om,if_neg om,if_neg om];unfold admT;rw [if_pos om]
  have u2:=(f1.drops [0,0,0,0,0,0])
  have v2:Sat W _ ([]::[]::H::F):=Sat.nilc (Sat.nilc u2)
  exact ⟨(⟨a0.inputs,a0.stages,a0.outputs,a0.priority⟩:Job),none,0,0,[],0,13,_,_,rfl,OwnT.nil fR,(fun z hz=>by cases hz), .inr (.inr ⟨⟨by first|assumption|omega,om,om,om⟩,om,_,_,g0,hk,(fun h=>absurd h om)⟩),v2⟩
 refine kT<|seqE<|sR<|pu3<|nT<|blockE<|loopA (γ:=Nat) (fun i=>[(3,Pt s0 0),(4,Pt t0 0),(6,Pt u0 0),(77, .slice q0 f0 r0),(78,I (f0:Int)),(79,I (i:Int)),(7, .slice q0 f0 r0)]) (fun i w=>Sat W w (l2::m2::c2::[(u0, .cells (encJob a0).toArray 28 (0,0))]::[(t0, .cells #[I l.jobs,I l.tasks,I l.cells] 73 (0,0))]::[(s0, .cells (encCfg c).toArray 70 (0,0))]::H::F)/\i<=f0/\((k2.take i).any ((fun z=>decide (c.arena<z.scratch))∘Task.v)=false)) (fun i=>f0-i) 0 ⟨h0,om,by rfl⟩ ?_
 rintro i ρ _ ⟨k0,hi,hE⟩
 refine sR<|pu1<|nT<|seqE<|cD ((i:Int)<(f0:Int)) (fun w2=>?_) (fun w2=>?_)
 ·refine kT<|seqE<|blockE<|sR<|sIdxO m0 (i:Int) i runUnderlying39 sizeOf46 fun i0 _ _ g1 x2 _=>sLpA k0 (x2.up 0 rfl) 0 (encTask i0) (isAgg46 _) (sizeOf46 _)<|sAlloc k0 zeroValue46 fun _ _ y2=>?_
  refine sT y2 0 0 (.agg (encTask i0).toArray) (encTask i0) (encTask i0).toArray sizeOf46 fun _ o0=>zS<|pu1<|sL o0 0 8 (I i0.scratch) (isAgg3 _)<|pu1<|sL o0 6 3 (I c.arena) (isAgg3 _)<|pu1<|nT<|cD (i0.scratch>c.arena) (fun z2=>?_) (fun z2=>?_)
  rotate_left
  ·exact skipE<|bN<|tN<|rE<|sAdd (i:Int) 1<|pu1<|nT<|⟨i+1,od,alA,(o0.dropAt 0 rfl),om,(any_take_no hE g1 (decide_eq_false (by simp only [Task.v];omega)))⟩
  refine sR<|lA o0 4 0 4 (isAgg28 _) (sizeOf28 _)<|sT o0 4 0 (.agg (encJob a0).toArray) (encJob a0) (encJob a0).toArray sizeOf28 fun _ h1=>pu3<|zB<|tR<|tK<|retN (vs:=[.agg (encJob a0).toArray,nS,I 0,I 12]) rfl (.cons (.cell _ _ _ _ kr (lvA h1 4 0 (encJob a0) (isAgg28 _) (sizeOf28 _) rfl rfl rfl)) (.cons (.tmp _ _ kr) (.cons (.tmp _ _ kr) (.cons (.tmp _ _ kr) .nil)))) ?_
  have hk:12=admD c l a0.v d0:=by unfold admD;rw [if_neg om,if_neg om,if_neg om];unfold admT;rw [if_neg om,if_pos (show overA c (lowV a0.v c.tileW c.tileH)=true from by unfold overA;rw [<-n0,List.any_map];exact any_of_at g1 (show decide (c.arena<i0.scratch)=true from decide_eq_true om))]
  have b3:=(h1.drops [0,0,0,0,0,0,0])
  have c3:Sat W _ ([]::[]::H::F):=Sat.nilc (Sat.nilc b3)
  exact ⟨(⟨a0.inputs,a0.stages,a0.outputs,a0.priority⟩:Job),none,0,0,[],0,12,_,_,rfl,OwnT.nil fR,(fun z hz=>by cases hz), .inr (.inr ⟨⟨by first|assumption|omega,om,om,om⟩,om,_,_,g0,hk,(fun h=>absurd h om)⟩),c3⟩
 refine exitE<|xB<|tN<|seqE<|sR<|lA k0 3 0 4 (isAgg28 _) (sizeOf28 _)<|pu1<|sL k0 5 1 (I c.tileW) (isAgg3 _)<|pu1<|sL k0 5 2 (I c.tileH) (isAgg3 _)<|cX call20 (p20_cells (F:=[]) a0 c.tileW c.tileH ⟨(RdT.flat (c0.inputs.up 2 (by rfl))),(fun z hz=>(c0.inputsD z hz).of_mem (mem_flat1 2 (by rfl))),(RdT.flat (c0.stages.up 2 (by rfl))),(fun z hz=>(c0.stagesD z hz).of_mem (mem_flat1 2 (by rfl))),(RdT.flat (c0.outputs.up 2 (by rfl)))⟩ om k0.flat) ?_
 rintro _ _ ⟨rfl,d3⟩
 have l0:=d3.unflat
 refine pu5<|zS<|pu2<|nT ?_
 have e3:((lowC a0.v c.tileW c.tileH):Int)=0:=by omega
 refine cF _ (bne_eq_false_iff_eq.2 e3)<|kT<|seqE<|sR<|pu2<|sL l0 5 6 (I c.cells) (isAgg3 _)<|pu1<|sL l0 4 2 (I l.cells) (isAgg3 _)<|sSub c.cells l.cells<|pu1<|nT<|cD ((celV a0.v c.tileW c.tileH)>(c.cells-l.cells)) (fun f3=>?_) (fun f3=>?_)
 rotate_left
 ·refine kS<|lA l0 3 0 4 (isAgg28 _) (sizeOf28 _)<|pu2<|sT l0 3 0 (.agg (encJob a0).toArray) (encJob a0) (encJob a0).toArray sizeOf28 fun _ i1=>pu3<|zE<|retN (vs:=[.agg (encJob a0).toArray, .slice q0 f0 r0,I (celV a0.v c.tileW c.tileH),I 0]) rfl (.cons (.cell _ _ _ _ kr (lvA i1 3 0 (encJob a0) (isAgg28 _) (sizeOf28 _) rfl rfl rfl)) (.cons (.tmp _ _ kr) (.cons (.tmp _ _ kr) (.cons (.tmp _ _ kr) .nil)))) ?_
  have hk:0=admD c l a0.v d0:=by unfold admD;rw [if_neg om,if_neg om,if_neg om];unfold admT;rw [if_neg om,if_neg (by rw [(show overA c (lowV a0.v c.tileW c.tileH)=false from by unfold overA;rw [<-n0,List.any_map];exact (by rw [List.take_of_length_le om] at hE;exact hE))];decide),if_neg om]
  exact ⟨(⟨a0.inputs,a0.stages,a0.outputs,a0.priority⟩:Job),_,_,_,_,(celV a0.v c.tileW c.tileH),0,_,_,rfl,m0,n2, .inr (.inr ⟨⟨by first|assumption|omega,om,om,om⟩,om,_,_,g0,hk,(fun _=>⟨n0,rfl⟩)⟩),(i1.drops [2,2,2,2])⟩
 refine sR<|lA l0 3 0 4 (isAgg28 _) (sizeOf28 _)<|sT l0 3 0 (.agg (encJob a0).toArray) (encJob a0) (encJob a0).toArray sizeOf28 fun _ j1=>pu3<|zR<|retN (vs:=[.agg (encJob a0).toArray,nS,I 0,I 14]) rfl (.cons (.cell _ _ _ _ kr (lvA j1 3 0 (encJob a0) (isAgg28 _) (sizeOf28 _) rfl rfl rfl)) (.cons (.tmp _ _ kr) (.cons (.tmp _ _ kr) (.cons (.tmp _ _ kr) .nil)))) ?_
 have hk:14=admD c l a0.v d0:=by unfold admD;rw [if_neg om,if_neg om,if_neg om];unfold admT;rw [if_neg om,if_neg (by rw [(show overA c (lowV a0.v c.tileW c.tileH)=false from by unfold overA;rw [<-n0,List.any_map];exact (by rw [List.take_of_length_le om] at hE;exact hE))];decide),if_pos om]
 have h3:=(j1.drops [0,0,0,0,0,0])
 have i3:Sat W _ ([]::[]::H::F):=Sat.nilc (Sat.nilc h3)
 exact ⟨(⟨a0.inputs,a0.stages,a0.outputs,a0.priority⟩:Job),none,0,0,[],0,14,_,_,rfl,OwnT.nil fR,(fun z hz=>by cases hz), .inr (.inr ⟨⟨by first|assumption|omega,om,om,om⟩,om,_,_,g0,hk,(fun h=>absurd h om)⟩),i3⟩
theorem adm_bad {c:Cfg} {l:Lod} {x:List Int} {ts ts':List TaskV} {m m' e:Int} (h:AdmR c l x ts m e) (he:¬e=0):AdmR c l x ts' m' e:=by
  rcases h with h|h|⟨h1,h2,dj,dc,h3,h4,h5⟩
  · exact .inl h
  · exact .inr (.inl h)
  · exact .inr (.inr ⟨h1,h2,dj,dc,h3,h4,fun h=>absurd h he⟩)
theorem p26_check (c:Cfg) (l:Lod) {a:Option Addr} {n k:Nat} {xs:List Int} (hR:RdT encB 1 [H] a n k xs) (bd:Bytes xs) (hl:l.jobs<=9223372036854775807/\l.tasks<=9223372036854775807/\l.cells<=9223372036854775807) (hS:Sat W w (H::F)):
  Calls prog 36 #[.agg (encCfg c).toArray, .agg #[I l.jobs,I l.tasks,I l.cells], .slice a n k] w fun e w'=>∃(q:Job) (az:Option Addr) (nz kz:Nat) (zs:List Task) (m e0:Int) (Z G:Chunk),e= .returned (.tuple #[.agg (encJob q).toArray, .slice az nz kz,I m,I e0])/\OwnT encTask 46 9 az nz kz zs Z/\(∀z∈zs,Task.Ok [G] z)/\AdmR c l xs (zs.map Task.v) m e0/\(e0≠0->zs=[]/\m=0)/\Sat W w' (Z::G::H::F):=by
 have hle:=hR.le
 refine callsA 30 func36 rfl<|sR<|sBox hS (.agg (encCfg c).toArray) (encCfg c).toArray fun _ _ k0=>sBox k0 (.agg #[I l.jobs,I l.tasks,I l.cells]) #[I l.jobs,I l.tasks,I l.cells] fun _ _ l0=>sAlloc l0 zeroValue28 fun _ _ b0=>pu3<|zS<|lA b0 2 0 8 (isAgg70 _) (sizeOf70 _)<|lA b0 1 0 3 (isAgg73 _) (sizeOf73 _)<|pu1<|cX call77 (p26_chk (F:=[]) c l (xs:=xs) (RdT.flat (hR.up 3 (by rfl))) bd (od) b0.flat) ?_
 rintro _ _ ⟨a0,m0,n0,o0,_,g0,e0_16,_,_,rfl,c0,p0,h0,q0⟩
 have r0:=q0.unflat2;have hn_az_11:=c0.len;have hl_az_11:=c0.le
 refine pu5<|sAlloc r0 zeroValue28 fun _ _ s0=>?_
 refine sT s0 0 0 (.agg (encJob a0).toArray) (encJob a0) (encJob a0).toArray sizeOf28 fun _ d0=>pu3<|zQ<|pu2<|nT<|cN e0_16 0 (fun f0=>?_) (fun f0=>?_)
 ·exact kS<|lA d0 0 0 4 (isAgg28 _) (sizeOf28 _)<|pu2<|sT d0 3 0 (.agg (encJob a0).toArray) (encJob a0) (encJob a0).toArray sizeOf28 fun _ i0=>pu3<|zE<|retN (vs:=[.agg (encJob a0).toArray, .slice m0 n0 o0,I g0,I 0]) rfl (.cons (.cell _ _ _ _ kr (lvA i0 3 0 (encJob a0) (isAgg28 _) (sizeOf28 _) rfl rfl rfl)) (.cons (.tmp _ _ kr) (.cons (.tmp _ _ kr) (.cons (.tmp _ _ kr) .nil))))<|⟨(⟨a0.inputs,a0.stages,a0.outputs,a0.priority⟩:Job),_,_,_,_,g0,0,_,_,rfl,c0,p0,(by have h:=h0;rw [f0] at h;exact h),(fun h=>absurd rfl h),(i0.drops [0,2,2,2])⟩
 refine sR<|pu2<|sT d0 3 0 (.agg #[nS,nS,nS,I 0]) [nS,nS,nS,I 0] #[nS,nS,nS,I 0] sizeOf28 fun _ j0=>pu3<|zR<|retN (vs:=[.agg #[nS,nS,nS,I 0],nS,I 0,I e0_16]) rfl (.cons (.cell _ _ _ _ kr (lvA j0 3 0 [nS,nS,nS,I 0] (isAgg28 _) (sizeOf28 _) rfl rfl rfl)) (.cons (.tmp _ _ kr) (.cons (.tmp _ _ kr) (.cons (.tmp _ _ kr) .nil)))) ?_
 have u0:=(j0.drops [0,0,0,0,0,0])
 have v0:Sat W _ ([]::[]::H::F):=Sat.nilc (Sat.nilc u0)
 exact ⟨(⟨⟨none,0,0,[]⟩,⟨none,0,0,[]⟩,⟨none,0,0,[]⟩,0⟩:Job),none,0,0,[],0,e0_16,_,_,rfl,OwnT.nil fR,(fun z hz=>by cases hz),adm_bad h0 f0,(fun _=>⟨rfl,rfl⟩),v0⟩
end Go.Proofs.YtdingplbadblpaaGreat

namespace Go.Proofs.YtdingplbadblpaaGreat
open Go Go.E Go.Proofs.Tryz
set_option linter.all false
set_option maxRecDepth 100000
set_option maxHeartbeats 2000000
variable {W w:World} {H:Chunk} {F:List Chunk}
theorem flat_bd {α:Type} {f:α->List Int} {B:Nat}:∀{l:List α},(∀z∈l,(f z).length<=B)->(l.flatMap f).length<=l.length*B
  |[],_=>by simp
  |x::l,h=>by
    have h1:=h x (by simp)
    have h2:=flat_bd (l:=l) (fun z hz=>h z (by simp [hz]))
    simp only [List.flatMap_cons,List.length_append,List.length_cons,Nat.add_mul,Nat.one_mul]
    omega
theorem nTaps_bd {k:Nat} {l:List Tap} (h:l.length<=6+k/\∀z∈l,tapB z) (hk:k<=10):(nTaps (l.map Tap.v)).length<=1+16*11:=by
  have h1:((l.map Tap.v).flatMap nTap).length<=(l.map Tap.v).length*11:=flat_bd (fun z hz=>by
    obtain ⟨t,ht,rfl⟩:=List.mem_map.1 hz
    rw [nTap_len];have:=(h.2 t ht).2.1;omega)
  rw [List.length_map] at h1
  simp only [nTaps,List.length_cons]
  omega
theorem nStage_bd {k:Nat} {q:Stage} (h:stageB k q) (hk:k<=10):(nStage q.v).length<=700:=by
  obtain ⟨_,hw,hr,hc,hx,hy,ho⟩:=h
  rw [nStage_len,nOps_len]
  have h1:=nTaps_bd hx hk;have h2:=nTaps_bd hy hk
  omega
theorem nJob_bd {k:Nat} {q:Job} (h:jobS k q) (hk:k<=10):(nJob q.v).length<=4000:=by
  rw [nJob_len]
  have h1:(q.inputs.l.flatMap (fun x=>nPlane x.v)).length<=q.inputs.l.length*100:=flat_bd (fun z hz=>by rw [nPlane_len];have:=(h.1.2 z hz).2.1;omega)
  have h2:(q.stages.l.flatMap (fun x=>nStage x.v)).length<=q.stages.l.length*700:=flat_bd (fun z hz=>nStage_bd (h.2.1.2 z hz) hk)
  have h3:=h.1.1;have h4:=h.2.1.1;have h5:=h.2.2.1.1
  omega
def copV:JobV:=⟨[⟨1,1,9,[5]⟩],[⟨6,0,-1,false,0,0,0,0,[],[],[],0,0,[],[],0,[⟨0,0⟩],9⟩],[1],0⟩
theorem wf_cop:wfJob copV:=by
 have h:∀x:Int,-1000<=x/\x<=1000->WfI x:=fun x hx=>by unfold WfI;omega
 have h0:wfL WfI []:=⟨h _ (by decide),fun x hx=>by cases hx⟩
 have h1:wfL wfTap []:=⟨h _ (by decide),fun x hx=>by cases hx⟩
 refine ⟨h _ (by decide),⟨h _ (by decide),fun x hx=>?_⟩,⟨h _ (by decide),fun x hx=>?_⟩,⟨h _ (by decide),fun x hx=>?_⟩⟩
 ·rw [List.mem_singleton.1 hx];exact ⟨h _ (by decide),h _ (by decide),h _ (by decide),h _ (by decide),fun y hy=>by rw [List.mem_singleton.1 hy];exact h _ (by decide)⟩
 ·rw [List.mem_singleton.1 hx];exact ⟨h _ (by decide),h _ (by decide),h _ (by decide),trivial,h _ (by decide),h _ (by decide),h _ (by decide),h _ (by decide),h0,h0,h0,h _ (by decide),h _ (by decide),h1,h1,h _ (by decide),⟨h _ (by decide),fun y hy=>by rw [List.mem_singleton.1 hy];exact ⟨h _ (by decide),h _ (by decide)⟩⟩,h _ (by decide)⟩
 ·rw [List.mem_singleton.1 hx];exact h _ (by decide)
theorem cop1:admD ⟨1,4,4,16,1,10,10,2⟩ ⟨0,0,0⟩ copV 0=0:=by decide+kernel
theorem cop2:admD ⟨1,4,4,15,1,10,10,2⟩ ⟨0,0,0⟩ copV 0=12:=by decide+kernel
theorem cop3:(lowV copV 4 4).length=1:=by decide+kernel
theorem cop4:celV copV 4 4=2:=by decide+kernel
theorem adm_enc {c:Cfg} {l:Lod} {x:List Int} {j:JobV} {ts:List TaskV} {m e:Int} (h:AdmR c l x ts m e) (hp:admP c l) (hj:l.jobs<c.jobs) (hw:wfJob j) (hx:x=[84,70,1]++bytesOf (nJob j)) (hl:x.length<=262144):e=admD c l j 0/\(e=0->ts=lowV j c.tileW c.tileH/\m=celV j c.tileW c.tileH):=by
  rcases h with ⟨_,h⟩|⟨_,_,h⟩|⟨_,_,dj,dc,hd,h1,h2⟩
  · exact absurd hp h
  · omega
  · obtain ⟨rfl,rfl⟩:=DecR.of_enc hd hw hx hl
    exact ⟨h1,h2⟩
theorem l26_config (ar:Int) (hS:Sat W w (H::F)):
  Ro prog 78 #[I ar] (.agg #[I 1,I 4,I 4,I ar,I 1,I 10,I 10,I 2]) W w (H::F):=by
 refine callsA 5 func78 rfl<|sR<|sAlloc hS zeroValue70 fun _ _ b0=>zS<|pu2 ?_
 exact sT b0 0 0 (.agg #[I 1,I 4,I 4,I ar,I 1,I 10,I 10,I 2]) [I 1,I 4,I 4,I ar,I 1,I 10,I 10,I 2] #[I 1,I 4,I 4,I ar,I 1,I 10,I 10,I 2] sizeOf70 fun _ a0=>zE<|retN (vs:=[.agg #[I 1,I 4,I 4,I ar,I 1,I 10,I 10,I 2]]) rfl (.cons (.cell _ _ _ _ kr (lvA a0 0 0 [I 1,I 4,I 4,I ar,I 1,I 10,I 10,I 2] (isAgg70 _) (sizeOf70 _) rfl rfl rfl)) .nil)<|⟨rfl,(a0.dropAt 0 rfl)⟩
theorem l26_copying {F:List Chunk} (hS:Sat W w F):
  Calls prog 79 #[] w fun e w'=>∃(a:Option Addr) (n k:Nat) (c:Chunk),e= .returned (.slice a n k)/\OwnT encB 5 1 a n k ([84,70,1]++bytesOf (nJob copV)) c/\Sat W w' (c::F):=by
 refine callsA 19 func79 rfl<|sR<|pu1<|zS<|sBS hS #[I 5] runUnderlying22 sizeOf3 zeroValue3 fun d0 _ j0=>pu1<|sBS j0 #[I 1,I 1,I 9, .slice (At d0 0) 1 1] runUnderlying25 sizeOf87 zeroValue87 fun a0 _ k0=>pu1<|sBS k0 #[I 0,I 0] runUnderlying36 sizeOf92 zeroValue92 fun e0 _ l0=>pu1<|sBS l0 #[I 6,I 0,I (-1), .bool false,I 0,I 0,I 0,I 0,nS,nS,nS,I 0,I 0,nS,nS,I 0, .slice (At e0 0) 1 1,I 9] runUnderlying26 sizeOf38 zeroValue38 fun b0 _ m0=>sBS m0 #[I 1] runUnderlying22 sizeOf3 zeroValue3 fun c0 _ n0=>pu1<|sAlloc n0 zeroValue28 fun _ _ o0=>?_
 refine sT o0 0 0 (.agg #[.slice (At a0 0) 1 1, .slice (At b0 0) 1 1, .slice (At c0 0) 1 1,I 0]) [.slice (At a0 0) 1 1, .slice (At b0 0) 1 1, .slice (At c0 0) 1 1,I 0] #[.slice (At a0 0) 1 1, .slice (At b0 0) 1 1, .slice (At c0 0) 1 1,I 0] sizeOf28 fun _ h0=>zS<|lA h0 0 0 4 (isAgg28 _) (sizeOf28 _) ?_
 refine sF #[.agg #[.slice (At a0 0) 1 1, .slice (At b0 0) 1 1, .slice (At c0 0) 1 1,I 0]] call41 (Calls.mono (ref_encode W _ _ [] (⟨⟨(At a0 0),1,1,[(⟨1,1,9,⟨(At d0 0),1,1,[5]⟩⟩:Plane)]⟩,⟨(At b0 0),1,1,[(⟨6,0,-1,false,0,0,0,0,⟨none,0,0,[]⟩,⟨none,0,0,[]⟩,⟨none,0,0,[]⟩,0,0,⟨none,0,0,[]⟩,⟨none,0,0,[]⟩,0,⟨(At e0 0),1,1,[(⟨0,0⟩:POp)]⟩,9⟩:Stage)]⟩,⟨(At c0 0),1,1,[1]⟩,0⟩:Job) ⟨(RdT.flat (RdT.blk (enc:=encPlane) (sz:=4) (xs:=[(⟨1,1,9,⟨(At d0 0),1,1,[5]⟩⟩:Plane)]) (fun _=>(by rfl)) 1 4 rfl rfl rfl om)),(fun z hz=>by rw [List.mem_singleton.1 hz];exact ⟨(RdT.flat (RdT.blk (enc:=Go.E.encI) (sz:=1) (xs:=[5]) (fun _=>(by rfl)) 1 5 rfl rfl rfl om))⟩),(RdT.flat (RdT.blk (enc:=encStage) (sz:=18) (xs:=[(⟨6,0,-1,false,0,0,0,0,⟨none,0,0,[]⟩,⟨none,0,0,[]⟩,⟨none,0,0,[]⟩,0,0,⟨none,0,0,[]⟩,⟨none,0,0,[]⟩,0,⟨(At e0 0),1,1,[(⟨0,0⟩:POp)]⟩,9⟩:Stage)]) (fun _=>(by rfl)) 1 2 rfl rfl rfl om)),(fun z hz=>by rw [List.mem_singleton.1 hz];exact ⟨RdT.nil (enc:=Go.E.encI) (sz:=1) fR _,RdT.nil (enc:=Go.E.encI) (sz:=1) fR _,RdT.nil (enc:=Go.E.encI) (sz:=1) fR _,RdT.nil (enc:=encTap) (sz:=2) fR _,(fun z hz=>by cases hz),RdT.nil (enc:=encTap) (sz:=2) fR _,(fun z hz=>by cases hz),(RdT.flat (RdT.blk (enc:=encPOp) (sz:=2) (xs:=[(⟨0,0⟩:POp)]) (fun _=>(by rfl)) 1 3 rfl rfl rfl om))⟩),(RdT.flat (RdT.blk (enc:=Go.E.encI) (sz:=1) (xs:=[1]) (fun _=>(by rfl)) 1 1 rfl rfl rfl om))⟩ (show (nJob copV).length<=1000000000 by decide) h0.flat) ?_)
 rintro _ _ (⟨i0,p0,q0,r0,_,rfl,f0,g0⟩|⟨i0,rfl,g0⟩)
 ·refine ⟨_,rfl,?_⟩
  have s0:=g0.unflat1;clear g0
  have hn_a_25:=f0.len;rw [enc_len] at hn_a_25;have hle_a_25:=f0.le
  exact pu5<|zS<|pu2<|zE<|retT [.slice p0 q0 r0]<|⟨_,_,_,_,rfl,f0,(s0.drops [1,1,1,1,1,1])⟩
 ·exact absurd (show 262144<3+8*(nJob copV).length from i0) (by decide)
theorem l26_sane (hS:Sat W w (H::F)):
  Ro prog 37 #[] (.bool true) W w (H::F):=by
 refine callsA 64 func37 rfl<|sR<|pu1<|zS<|cR call78 (l26_config 16 hS.flat) fun _ j0=>pu1<|cX call79 (l26_copying j0) ?_
 rintro _ _ ⟨_,_,_,_,rfl,a0,k0⟩;have hn_a_4:=a0.len;have hl_a_4:=a0.le
 refine cX call36 (p26_check (F:=[]) (⟨1,4,4,16,1,10,10,2⟩:Cfg) (⟨0,0,0⟩:Lod) (xs:=([84,70,1]++bytesOf (nJob copV))) (RdT.flat (a0.rdAt 0 (by rfl))) (enc_bytes _) (od) k0.flat) ?_
 rintro _ _ ⟨b0,_,l0,_,_,m0,e0_17,_,_,rfl,c0,_,n0,hz0_23,o0⟩
 have p0:=o0.unflat2;have hn_az_12:=c0.len;have hl_az_12:=c0.le
 obtain ⟨ha1,hb1⟩:=adm_enc n0 (by unfold admP;decide) (by decide) wf_cop rfl (by decide);rw [cop1] at ha1
 obtain ⟨hb2,hb3⟩:=hb1 ha1;have hb4:=cop3;rw [<-hb2,List.length_map] at hb4;rw [cop4] at hb3;have hb5:=c0.len
 refine pu5<|sAlloc p0 zeroValue28 fun _ _ q0=>?_
 refine sT q0 0 0 (.agg (encJob b0).toArray) (encJob b0) (encJob b0).toArray sizeOf28 fun _ r0=>pu3<|zS<|cR call78 (l26_config 15 r0.flat) fun _ s0=>pu1<|cX call79 (l26_copying s0) ?_
 rintro _ _ ⟨_,_,_,_,rfl,d0,t0⟩;have hn_a_36:=d0.len;have hl_a_36:=d0.le
 refine cX call36 (p26_check (F:=[]) (⟨1,4,4,15,1,10,10,2⟩:Cfg) (⟨0,0,0⟩:Lod) (xs:=([84,70,1]++bytesOf (nJob copV))) (RdT.flat (d0.rdAt 0 (by rfl))) (enc_bytes _) (od) t0.flat) ?_
 rintro _ _ ⟨e0,_,_,_,_,_,e0_49,_,_,rfl,h0,_,u0,hz0_55,v0⟩
 have w0:=v0.unflat2;have hn_az_44:=h0.len;have hl_az_44:=h0.le
 obtain ⟨ha2,hb2⟩:=adm_enc u0 (by unfold admP;decide) (by decide) wf_cop rfl (by decide);rw [cop2] at ha2
 refine pu5<|sAlloc w0 zeroValue28 fun _ _ x0=>?_
 refine sT x0 0 0 (.agg (encJob e0).toArray) (encJob e0) (encJob e0).toArray sizeOf28 fun _ y0=>pu3<|zS<|cR call78 (l26_config 16 y0.flat) fun _ z0=>pu1<|cX call79 (l26_copying z0) ?_
 rintro _ _ ⟨_,_,_,_,rfl,f0,a1⟩;have hn_a_68:=f0.len;have hl_a_68:=f0.le
 refine cX call36 (p26_check (F:=[]) (⟨1,4,4,16,1,10,10,2⟩:Cfg) (⟨2,0,0⟩:Lod) (xs:=([84,70,1]++bytesOf (nJob copV))) (RdT.flat (f0.rdAt 0 (by rfl))) (enc_bytes _) (od) a1.flat) ?_
 rintro _ _ ⟨g0,_,_,_,_,_,e0_81,_,_,rfl,i0,_,b1,hz0_87,c1⟩
 have d1:=c1.unflat2;have hn_az_76:=i0.len;have hl_az_76:=i0.le
 have ha3:e0_81=15:=AdmR.full b1 (by unfold admP;decide) (by decide)
 refine pu5<|sAlloc d1 zeroValue28 fun _ _ e1=>?_
 refine sT e1 0 0 (.agg (encJob g0).toArray) (encJob g0) (encJob g0).toArray sizeOf28 fun _ f1=>pu3<|zS<|pu3 ?_
 have g1:(e0_17:Int)=0:=by omega
 refine sFix 42 _ true (beq_iff_eq.2 g1)<|pu5 ?_
 have h1:((l0:Int):Int)=1:=by omega
 refine sFix 47 _ true (beq_iff_eq.2 h1)<|pu4 ?_
 have i1:(m0:Int)=2:=by omega
 refine sFix 51 _ true (beq_iff_eq.2 i1)<|pu4 ?_
 have j1:(e0_49:Int)=12:=by omega
 refine sFix 55 _ true (beq_iff_eq.2 j1)<|pu4 ?_
 have k1:(e0_81:Int)=15:=by omega
 exact sFix 59 _ true (beq_iff_eq.2 k1)<|gY<|cR call78 (l26_config 0 f1.flat) fun _ l1=>gY<|cR call80 (p26_valid (⟨1,4,4,0,1,10,10,2⟩:Cfg) l1.flat) fun _ m1=>pu3<|zE<|retT [.bool (((cfgV (⟨1,4,4,0,1,10,10,2⟩:Cfg)):Int)==0)]<|⟨rB (by first|(simp [cfgV];done)|decide|(simp_all;done)),(m1.drops [0,0,0,0,0,0,0,0,0,0,0,0])⟩
theorem tg_config {p:Nat} {a:Option Addr} {n k:Nat} {i:Int} {xs:List Int} (hR:RdT Go.E.encI 1 [H] a n k xs) (hi:0<=i/\i<=n) (hS:Sat W w ([(p, .cells #[.slice a n k,I i] 85 (0,0))]::H::F)):
  Calls prog 34 #[Pt p 0] w fun e w'=>∃(c:Cfg),e= .returned (.agg (encCfg c).toArray)/\(cfgP c)/\∃i':Int,(0<=i'/\i'<=n)/\Sat W w' ([(p, .cells #[.slice a n k,I i'] 85 (0,0))]::H::F):=by
 have hle:=hR.le
 refine callsA 28 func34 rfl<|sR<|sAlloc hS zeroValue70 fun _ _ j0=>zS<|pu1 ?_
 have k0:=(j0.pick 1 rfl)
 refine cX call13 (tape_next (RdT.flat (hR.up 1 (by rfl))) om k0.flat1 4 om) ?_
 rintro _ _ ⟨f0,rfl,_,_,_,l0⟩
 have m0:=l0.unflat1
 refine sAdd 1 f0<|pu1<|cX call13 (tape_next (RdT.flat (hR.up 1 (by rfl))) om m0.flat1 4 om) ?_
 rintro _ _ ⟨g0,rfl,_,_,_,n0⟩
 have o0:=n0.unflat1
 refine sAdd 1 g0<|pu1<|cX call13 (tape_next (RdT.flat (hR.up 1 (by rfl))) om o0.flat1 4 om) ?_
 rintro _ _ ⟨h0,rfl,_,_,_,p0⟩
 have q0:=p0.unflat1
 refine sAdd 1 h0<|pu1<|sBS q0 #[I 4096,I 65536,I 512] runUnderlying22 sizeOf3 zeroValue3 fun _ _ r0=>?_
 have s0:=(r0.pick 1 rfl)
 refine cX call38 (tape_pick (RdT.flat (hR.up 2 (by rfl))) om s0.flat1 (RdT.flat (RdT.blk (enc:=Go.E.encI) (sz:=1) (xs:=[4096,65536,512]) (fun _=>(by rfl)) 3 0 rfl rfl rfl om)) om om) ?_
 rintro _ _ ⟨a0,rfl,t0,_,_,u0⟩
 have v0:=u0.unflat1
 have l2:(a0:Int)=4096\/(a0:Int)=65536\/(a0:Int)=512:=by simpa using t0
 refine pu1<|sBS v0 #[I 1,I 2,I 8] runUnderlying22 sizeOf3 zeroValue3 fun _ _ w0=>?_
 have x0:=(w0.pick 1 rfl)
 refine cX call38 (tape_pick (RdT.flat (hR.up 3 (by rfl))) om x0.flat1 (RdT.flat (RdT.blk (enc:=Go.E.encI) (sz:=1) (xs:=[1,2,8]) (fun _=>(by rfl)) 3 0 rfl rfl rfl om)) om om) ?_
 rintro _ _ ⟨b0,rfl,y0,_,_,z0⟩
 have a1:=z0.unflat1
 have s2:(b0:Int)=1\/(b0:Int)=2\/(b0:Int)=8:=by simpa using y0
 refine pu1<|sBS a1 #[I 512,I 4096,I 60] runUnderlying22 sizeOf3 zeroValue3 fun _ _ b1=>?_
 have c1:=(b1.pick 1 rfl)
 refine cX call38 (tape_pick (RdT.flat (hR.up 4 (by rfl))) om c1.flat1 (RdT.flat (RdT.blk (enc:=Go.E.encI) (sz:=1) (xs:=[512,4096,60]) (fun _=>(by rfl)) 3 0 rfl rfl rfl om)) om om) ?_
 rintro _ _ ⟨c0,rfl,d1,_,_,e1⟩
 have f1:=e1.unflat1
 have y2:(c0:Int)=512\/(c0:Int)=4096\/(c0:Int)=60:=by simpa using d1
 refine pu1<|sBS f1 #[I 20000,I 500] runUnderlying22 sizeOf3 zeroValue3 fun _ _ g1=>?_
 have h1:=(g1.pick 1 rfl)
 refine cX call38 (tape_pick (RdT.flat (hR.up 5 (by rfl))) om h1.flat1 (RdT.flat (RdT.blk (enc:=Go.E.encI) (sz:=1) (xs:=[20000,500]) (fun _=>(by rfl)) 2 0 rfl rfl rfl om)) om om) ?_
 rintro _ _ ⟨e0,rfl,i1,_,_,j1⟩
 have k1:=j1.unflat1
 have e3:(e0:Int)=20000\/(e0:Int)=500:=by simpa using i1
 refine pu1<|sBS k1 #[I 8,I 64,I 2] runUnderlying22 sizeOf3 zeroValue3 fun _ _ l1=>?_
 have m1:=(l1.pick 1 rfl)
 refine cX call38 (tape_pick (RdT.flat (hR.up 6 (by rfl))) om m1.flat1 (RdT.flat (RdT.blk (enc:=Go.E.encI) (sz:=1) (xs:=[8,64,2]) (fun _=>(by rfl)) 3 0 rfl rfl rfl om)) om om) ?_
 rintro _ _ ⟨d0,rfl,n1,_,_,o1⟩
 have q1:=o1.unflat1
 have k3:(d0:Int)=8\/(d0:Int)=64\/(d0:Int)=2:=by simpa using n1
 refine pu1<|sT q1 6 0 (.agg #[I (1+f0),I (1+g0),I (1+h0),I a0,I b0,I c0,I e0,I d0]) [I (1+f0),I (1+g0),I (1+h0),I a0,I b0,I c0,I e0,I d0] #[I (1+f0),I (1+g0),I (1+h0),I a0,I b0,I c0,I e0,I d0] sizeOf70 fun _ i0=>zE<|retN (vs:=[.agg #[I (1+f0),I (1+g0),I (1+h0),I a0,I b0,I c0,I e0,I d0]]) rfl (.cons (.cell _ _ _ _ kr (lvA i0 6 0 [I (1+f0),I (1+g0),I (1+h0),I a0,I b0,I c0,I e0,I d0] (isAgg70 _) (sizeOf70 _) rfl rfl rfl)) .nil) ?_
 have hv:cfgP (⟨(1+f0),(1+g0),(1+h0),a0,b0,c0,e0,d0⟩:Cfg):=by unfold cfgP;dsimp only;omega
 exact ⟨_,rfl,hv,_,om,(i0.drops [1,1,1,1,1,1])⟩
theorem l26_offer {p:Nat} {a:Option Addr} {n k:Nat} {i:Int} {xs:List Int} (hR:RdT Go.E.encI 1 [H] a n k xs) (hi:0<=i/\i<=n) (hS:Sat W w ([(p, .cells #[.slice a n k,I i] 85 (0,0))]::H::F)):
  Calls prog 35 #[Pt p 0] w fun e w'=>∃(az:Option Addr) (nz:Nat) (kz:Nat) (zs:List Int) (G:Chunk),e= .returned (.slice az nz kz)/\(RdT encB 1 [G] az nz kz zs)/\(Bytes zs)/\∃i':Int,(0<=i'/\i'<=n)/\Sat W w' ([(p, .cells #[.slice a n k,I i'] 85 (0,0))]::G::H::F):=by
 have hle:=hR.le
 refine callsA 35 func35 rfl<|sR<|pu1<|zS<|pu1<|cX call12 (tg_job (RdT.flat (hR.up 0 (by rfl))) om hS.flat1 3 om) ?_
 rintro _ _ ⟨a0,k0,rfl,d0,l0,_,_,_,_,d1⟩
 refine sAlloc (Sat.unflat2 d1) zeroValue28 fun t0 _ f1=>?_
 refine sT f1 0 0 (.agg (encJob a0).toArray) (encJob a0) (encJob a0).toArray sizeOf28 fun _ g1=>zQ<|pu1 ?_
 have h1:=(g1.pick 1 rfl)
 refine cX call13 (tape_next (RdT.flat (hR.up 2 (by rfl))) om h1.flat1 3 om) ?_
 rintro _ _ ⟨i1,rfl,_,_,_,j1⟩
 have h0:=j1.unflat1
 refine pu1<|nT<|cE i1 2 (fun k1=>?_) (fun k1=>?_)
 rotate_left
 ·refine kS<|lA h0 1 0 4 (isAgg28 _) (sizeOf28 _)<|sF #[.agg (encJob a0).toArray] call41 (Calls.mono (ref_encode W _ _ [] a0 (d0.of_mem (mem_flat1 2 (by rfl))) (by have hbd:=nJob_bd (jobB_S l0) om;omega) h0.flat) ?_)
  rintro _ _ (⟨l1,m0,b0,n0,i0,rfl,e0,o0⟩|⟨l1,rfl,o0⟩)
  ·refine ⟨_,rfl,?_⟩
   have u0:=o0.unflat1;clear o0
   have hn_a_78:=e0.len;rw [enc_len] at hn_a_78;have hle_a_78:=e0.le
   refine pu5<|zQ<|pu4<|sD 22 ((b0:Int)>0) (fun m1=>?_) (fun m1=>?_)
   rotate_left
   ·exact pu4<|nT<|cFf<|kS<|pu2<|zE<|retT [.slice m0 b0 n0]<|⟨_,_,_,_,i0,rfl,(e0.rdAt (cs:=[i0]) 0 rfl),(enc_bytes _),_,om,((u0.pick 1 rfl).drops [2,2])⟩
   refine pu1<|gY ?_
   have o1:=(u0.pick 1 rfl)
   refine cX call13 (tape_next (RdT.flat (hR.up 3 (by rfl))) om o1.flat1 6 om) ?_
   rintro _ _ ⟨q1,rfl,_,_,_,r1⟩
   have v0:=r1.unflat1
   refine pu2<|nT<|cE q1 5 (fun s1=>?_) (fun s1=>?_)
   rotate_left
   ·exact kS<|pu2<|zE<|retT [.slice m0 b0 n0]<|⟨_,_,_,_,i0,rfl,(e0.rdAt (cs:=[i0]) 0 rfl),(enc_bytes _),_,om,(v0.drops [2,2])⟩
   refine rE<|sBS v0 #[] runUnderlying74 sizeOf5 zeroValue5 fun u1 _ v1=>pu3<|sSub (b0:Int) 1<|sSl none (some ((b0:Int)-1)) 0 ((((b0:Int)-1)).toNat) runUnderlying74 sizeOf5 rfl ⟨om,om⟩ om om ?_ (a:=m0) (len:=b0) (cap:=n0)
   have w1:=e0.part (lo:=0) (hi:=(((b0:Int)-1)).toNat) om om
   refine sApp (nb:=1) v1 (OwnT.blk (enc:=encB) (sz:=1) (b:=u1) (c:=#[]) (E:=5) (xs:=[]) fR 0 rfl rfl rfl om) 0 (w1.rdAt 2 rfl) underlying74 (i:=Tryz.t5) kr fR fun y1 z1 w0 _ a2 b2=>pu1<|zS<|pu2<|zE<|retT [.slice y1 (0+((((b0:Int)-1)).toNat-0)) z1] ?_
   exact ⟨_,_,_,_,w0,rfl,(a2.rdAt (cs:=[w0]) 0 rfl),(Bytes.app (fun b hb=>by cases hb) (fun b hb=>(enc_bytes _) b (List.mem_of_mem_drop (List.mem_of_mem_take hb)))),_,om,((b2.pick 1 rfl).drops [2,2,2])⟩
  ·exfalso;have hbd:=nJob_bd (jobB_S l0) om;omega
 refine rE<|pu1<|lA h0 1 0 4 (isAgg28 _) (sizeOf28 _) ?_
 have d2:=(h0.picks [2,1])
 refine cX call18 (tg_spoilJob (RdT.flat (hR.up 1 (by rfl))) om d2.flat2 a0 ⟨d0.inputs,d0.inputsD,d0.stages,d0.stagesD,d0.outputs⟩ 0 om (jobB_S l0)) ?_
 rintro _ _ ⟨f0,p0,rfl,e2,x0,y0,_,f2⟩
 have g2:=f2.unflat3
 have h2:=(g2.picks [2,2,2])
 have i2:Sat W _ ([(p, .cells #[.slice a n k,I y0] 85 (0,0))]::(p0++k0)::[(t0, .cells (encJob a0).toArray 28 (0,0))]::H::F):=Sat.perm (show Sat W _ ([(p, .cells #[.slice a n k,I y0] 85 (0,0))]::p0::k0::[(t0, .cells (encJob a0).toArray 28 (0,0))]::H::F) from h2) (by simp [Value.cells])
 have v3:Job.Ok [(p0++k0)] a0:=d0.of_mem mS
 refine sT i2 2 0 (.agg (encJob f0).toArray) (encJob f0) (encJob f0).toArray sizeOf28 fun _ z0=>zS<|lA z0 2 0 4 (isAgg28 _) (sizeOf28 _)<|sF #[.agg (encJob f0).toArray] call41 (Calls.mono (ref_encode W _ _ [] f0 (e2.of_mem (mem_flat1 1 (by rfl))) (by have hbd:=nJob_bd x0 om;omega) z0.flat) ?_)
 rintro _ _ (⟨j2,q0,c0,r0,j0,rfl,g0,s0⟩|⟨j2,rfl,s0⟩)
 ·refine ⟨_,rfl,?_⟩
  have a1:=s0.unflat1;clear s0
  have hn_a_45:=g0.len;rw [enc_len] at hn_a_45;have hle_a_45:=g0.le
  refine pu5<|zQ<|pu4<|sD 22 ((c0:Int)>0) (fun k2=>?_) (fun k2=>?_)
  rotate_left
  ·exact pu4<|nT<|cFf<|kS<|pu2<|zE<|retT [.slice q0 c0 r0]<|⟨_,_,_,_,j0,rfl,(g0.rdAt (cs:=[j0]) 0 rfl),(enc_bytes _),_,om,((a1.pick 1 rfl).drops [2,2])⟩
  refine pu1<|gY ?_
  have m2:=(a1.pick 1 rfl)
  refine cX call13 (tape_next (RdT.flat (hR.up 3 (by rfl))) om m2.flat1 6 om) ?_
  rintro _ _ ⟨n2,rfl,_,_,_,o2⟩
  have b1:=o2.unflat1
  refine pu2<|nT<|cE n2 5 (fun q2=>?_) (fun q2=>?_)
  rotate_left
  ·exact kS<|pu2<|zE<|retT [.slice q0 c0 r0]<|⟨_,_,_,_,j0,rfl,(g0.rdAt (cs:=[j0]) 0 rfl),(enc_bytes _),_,om,(b1.drops [2,2])⟩
  refine rE<|sBS b1 #[] runUnderlying74 sizeOf5 zeroValue5 fun s2 _ t2=>pu3<|sSub (c0:Int) 1<|sSl none (some ((c0:Int)-1)) 0 ((((c0:Int)-1)).toNat) runUnderlying74 sizeOf5 rfl ⟨om,om⟩ om om ?_ (a:=q0) (len:=c0) (cap:=r0)
  have u2:=g0.part (lo:=0) (hi:=(((c0:Int)-1)).toNat) om om
  refine sApp (nb:=1) t2 (OwnT.blk (enc:=encB) (sz:=1) (b:=s2) (c:=#[]) (E:=5) (xs:=[]) fR 0 rfl rfl rfl om) 0 (u2.rdAt 2 rfl) underlying74 (i:=Tryz.t5) kr fR fun w2 x2 c1 _ y2 z2=>pu1<|zS<|pu2<|zE<|retT [.slice w2 (0+((((c0:Int)-1)).toNat-0)) x2] ?_
  exact ⟨_,_,_,_,c1,rfl,(y2.rdAt (cs:=[c1]) 0 rfl),(Bytes.app (fun b hb=>by cases hb) (fun b hb=>(enc_bytes _) b (List.mem_of_mem_drop (List.mem_of_mem_take hb)))),_,om,((z2.pick 1 rfl).drops [2,2,2])⟩
 ·exfalso;have hbd:=nJob_bd x0 om;omega
theorem l26_monotone (W w:World) (H:Chunk) (F:List Chunk) (t:Option Addr) (nt kt:Nat) (xt:List Int) (by_:Int) (ht:RdT Go.E.encI 1 [H] t nt kt xt) (_hby_:-9223372036854775808<=by_/\by_<=9223372036854775807) (hS:Sat W w (H::F)):
  Calls prog 8 #[.slice t nt kt,I by_] w fun e w'=>e= .returned (.bool true)/\Sat W w' (H::F):=by
 have hlt:=ht.le
 refine callsA 113 func8 rfl<|sR<|pu1<|zS<|pu1<|cX call11 (tape_new t nt kt hS) ?_
 rintro _ _ ⟨_,rfl,y0⟩
 have n3:=ht.le
 refine pu1<|zS<|pu1<|cX call34 (tg_config (RdT.flat (ht.up 0 (by rfl))) om y0.flat1) ?_
 rintro _ _ ⟨a0,rfl,z0,_,_,a1⟩
 have b1:=a1.unflat1
 have hcf0:=z0;unfold cfgP at hcf0
 refine pu1<|cX call13 (tape_next (RdT.flat (ht.up 0 (by rfl))) om b1.flat1 3 om) ?_
 rintro _ _ ⟨c0,rfl,_,_,_,c1⟩
 have d1:=c1.unflat1
 refine pu1<|cX call13 (tape_next (RdT.flat (ht.up 0 (by rfl))) om d1.flat1 60 om) ?_
 rintro _ _ ⟨d0,rfl,_,_,_,e1⟩
 have f1:=e1.unflat1
 refine pu1<|cX call13 (tape_next (RdT.flat (ht.up 0 (by rfl))) om f1.flat1 400 om) ?_
 rintro _ _ ⟨e0,rfl,_,_,_,g1⟩
 have h1:=g1.unflat1
 refine pu2<|cX call35 (l26_offer (RdT.flat (ht.up 0 (by rfl))) om h1.flat1) ?_
 rintro _ _ ⟨_,_,_,s0,_,rfl,h0,t0,_,_,i1⟩
 have j1:=i1.unflat2
 have hn_az_35:=h0.len;have hl_az_35:=h0.le
 refine sAlloc j1 zeroValue70 fun i0 _ k1=>sAlloc k1 zeroValue73 fun _ _ l1=>?_
 refine sT l1 1 0 (.agg (encCfg a0).toArray) (encCfg a0) (encCfg a0).toArray sizeOf70 fun _ m1=>sT m1 0 0 (.agg #[I c0,I d0,I e0]) [I c0,I d0,I e0] #[I c0,I d0,I e0] sizeOf73 fun _ k0=>pu1<|zS<|lA k0 1 0 8 (isAgg70 _) (sizeOf70 _)<|lA k0 0 0 3 (isAgg73 _) (sizeOf73 _)<|pu1<|cX call36 (p26_check (F:=[]) a0 (⟨c0,d0,e0⟩:Lod) (xs:=s0) (RdT.flat (h0.up 3 (by rfl))) t0 (od) k0.flat) ?_
 rintro _ _ ⟨l0,n1,m0,o1,q1,u0,e0_61,_,_,rfl,n0,r1,s1,hz0_67,t1⟩
 have u1:=t1.unflat2;have hn_az_56:=n0.len;have hl_az_56:=n0.le
 refine pu5<|sAlloc u1 zeroValue28 fun _ _ v1=>?_
 refine sT v1 0 0 (.agg (encJob l0).toArray) (encJob l0) (encJob l0).toArray sizeOf28 fun _ v0=>pu3<|zQ<|pu2<|nT<|cN e0_61 0 (fun o0=>?_) (fun o0=>?_)
 rotate_left
 ·refine seqE ?_
  obtain ⟨hzz,hmz⟩:=hz0_67 o0;have hn9:m0=0:=by have h:=hn_az_56;rw [hzz] at h;exact h.symm
  refine rE<|pu4 ?_
  have w1:((m0:Int):Int)=0:=by omega
  refine sFix 46 _ true (beq_iff_eq.2 w1)<|pu4 ?_
  have x1:(u0:Int)=0:=by omega
  refine sFix 50 _ true (beq_iff_eq.2 x1)<|gY<|cR call37 (l26_sane v0.flat) fun _ y1=>pu2<|zR<|retT [.bool true] ?_
  have z1:=(y1.pick 7 rfl)
  have a2:=z1.dropAt 1 rfl
  have b2:=a2.dropAt 1 rfl
  have c2:=b2.dropAt 1 rfl
  have d2:=c2.dropAt 1 rfl
  have e2:=d2.dropAt 1 rfl
  have f2:=e2.dropAt 1 rfl
  exact ⟨rfl,(f2.dropAt 1 rfl)⟩
 refine kS<|pu1<|cX call15 (mod_ok by_ 1000 om om v0) ?_
 rintro _ _ ⟨b0,rfl,_,w0⟩
 refine pu1<|zS<|lA w0 4 0 8 (isAgg70 _) (sizeOf70 _)<|sAlloc w0 zeroValue70 fun _ _ h2=>?_
 refine sT h2 0 0 (.agg (encCfg a0).toArray) (encCfg a0) (encCfg a0).toArray sizeOf70 fun _ f0=>nT<|seqE<|drawE [21,23,25,27] [(1,⟨i0,3,none⟩,I a0.arena),(6,⟨i0,5,none⟩,I a0.tasks),(11,⟨i0,6,none⟩,I a0.cells),(16,⟨i0,7,none⟩,I a0.jobs)] [(true,[0,2,5,7,10,12,15,17]),(true,[1]),(true,[3]),(true,[4]),(true,[20]),(true,[6]),(true,[8]),(true,[9]),(true,[11]),(true,[13]),(true,[14]),(true,[16]),(true,[18]),(true,[19]),(false,[21]),(true,[22]),(false,[23]),(true,[24]),(false,[25]),(true,[26]),(false,[27])] rfl kr ⟨cI f0 5,cI f0 5,cI f0 5,cI f0 5,trivial⟩ ?_
 have i2:=f0.drew
 refine wU [0,2,5,7,10,12,15,17]<|wLd (I a0.arena) 0 isAgg3<|wAdd a0.arena b0<|wY (I (min (a0.arena+b0) 1048576)) rfl (fun w _=>Y_min2 (a0.arena+b0) 1048576 rfl rfl kr kr)<|wU [20]<|wLd (I a0.tasks) 1 isAgg3<|wAdd a0.tasks b0<|wY (I (min (a0.tasks+b0) 4096)) rfl (fun w _=>Y_min2 (a0.tasks+b0) 4096 rfl rfl kr kr)<|wLd (I a0.cells) 2 isAgg3<|wAdd a0.cells b0<|wY (I (min (a0.cells+b0) 1048576)) rfl (fun w _=>Y_min2 (a0.cells+b0) 1048576 rfl rfl kr kr)<|wLd (I a0.jobs) 3 isAgg3<|wAdd a0.jobs b0<|wY (I (min (a0.jobs+b0) 64)) rfl (fun w _=>Y_min2 (a0.jobs+b0) 64 rfl rfl kr kr)<|wO rfl ?_
 refine tW i2 0 3 (I (min (a0.arena+b0) 1048576)) sizeOf3 fun _ j0=>nilO ⟨⟨dI,cI j0 5,cI j0 5,cI j0 5,trivial⟩,?_⟩
 refine wU [22]<|wO rfl<|tW j0 0 5 (I (min (a0.tasks+b0) 4096)) sizeOf3 fun _ p0=>nilO ⟨⟨dI,dI,cI p0 5,cI p0 5,trivial⟩,?_⟩
 refine wU [24]<|wO rfl<|tW p0 0 6 (I (min (a0.cells+b0) 1048576)) sizeOf3 fun _ x0=>nilO ⟨⟨dI,dI,dI,cI x0 5,trivial⟩,?_⟩
 refine wU [26]<|wO rfl<|tW x0 0 7 (I (min (a0.jobs+b0) 64)) sizeOf3 fun _ g0=>nilO ⟨dA,?_⟩
 refine wN<|tN<|seqE ?_
 have hq_r_14:c0.tdiv 2=c0/2:=Int.tdiv_eq_ediv_of_nonneg om
 have hq_r_21:d0.tdiv 3=d0/3:=Int.tdiv_eq_ediv_of_nonneg om
 have hq_r_28:e0.tdiv 2=e0/2:=Int.tdiv_eq_ediv_of_nonneg om
 refine rE<|lA g0 0 0 8 (isAgg70 _) (sizeOf70 _)<|pu1<|sL g0 4 0 (I c0) (isAgg3 _)<|sQuo c0 2<|pu1<|sL g0 4 1 (I d0) (isAgg3 _)<|sQuo d0 3<|pu1<|sL g0 4 2 (I e0) (isAgg3 _)<|sQuo e0 2<|pu2<|cX call36 (p26_check (F:=[]) ({a0 with arena:=(min (a0.arena+b0) 1048576),tasks:=(min (a0.tasks+b0) 4096),cells:=(min (a0.cells+b0) 1048576),jobs:=(min (a0.jobs+b0) 64)}:Cfg) (⟨(c0.tdiv 2),(d0.tdiv 3),(e0.tdiv 2)⟩:Lod) (xs:=s0) (RdT.flat (h0.up 7 (by rfl))) t0 (od) g0.flat) ?_
 rintro _ _ ⟨q0,j2,k2,l2,m2,n2,e0_102,_,_,rfl,r0,o2,q2,hz0_108,r2⟩
 have s2:=r2.unflat2;have hn_az_97:=r0.len;have hl_az_97:=r0.le
 skip
 obtain ⟨hm1,hm2,hm3⟩:=adm_mono s1 q2 o0 rfl rfl (fun hc hp=>⟨of_cfg (by unfold cfgP at hc⊢;dsimp only;omega),by dsimp only;omega⟩) (fun hj hc hp=>by unfold cfgP at hc;dsimp only at hj⊢;omega)
 refine pu5<|sAlloc s2 zeroValue28 fun _ _ t2=>?_
 refine sT t2 0 0 (.agg (encJob q0).toArray) (encJob q0) (encJob q0).toArray sizeOf28 fun _ u2=>pu3<|zS<|pu3 ?_
 have v2:(e0_102:Int)=0:=by omega
 refine sFix 100 _ true (beq_iff_eq.2 v2)<|pu5 ?_
 have w2:(n2:Int)=u0:=by omega
 refine sFix 105 _ true (beq_iff_eq.2 w2)<|pu2<|gY<|cR call22 (r20_same n1 m0 o1 q1 j2 k2 l2 m2 (RdT.flat (n0.rdAt 5 (by rfl))) (fun z hz=>(r1 z hz).of_mem (mem_flat1 6 (by rfl))) (RdT.flat (r0.rdAt 1 (by rfl))) (fun z hz=>(o2 z hz).of_mem (mem_flat1 2 (by rfl))) hm2.symm u2.flat) fun _ x2=>pu2<|gY<|cR call37 (l26_sane x2.flat) fun _ y2=>pu2<|zE<|retT [.bool true] ?_
 have z2:=(y2.pick 11 rfl)
 have a3:=z2.dropAt 1 rfl
 have b3:=a3.dropAt 1 rfl
 have c3:=b3.dropAt 1 rfl
 have d3:=c3.dropAt 1 rfl
 have e3:=d3.dropAt 1 rfl
 have f3:=e3.dropAt 1 rfl
 have g3:=f3.dropAt 1 rfl
 have h3:=g3.dropAt 1 rfl
 have i3:=h3.dropAt 1 rfl
 have j3:=i3.dropAt 1 rfl
 exact ⟨rfl,(j3.dropAt 1 rfl)⟩
end Go.Proofs.YtdingplbadblpaaGreat
