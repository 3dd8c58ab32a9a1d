import Derived.Test.YtmlhcafjelkjfaaGreatP2Ab
import Derived.WalkKit
import Derived.Deep.Quiet
import Derived.KernelRfl
import Derived.Laws.BytesString
import Derived.Laws.Shifts
import Derived.Laws.IdiomStrings
import Derived.Test.YtmlhcafjelkjfaaGreatProg
import Derived.Laws.IdiomRangeMap
import Derived.Test.YtmlhcafjelkjfaaGreatP2Tv
namespace Go.Proofs.YtmlhcafjelkjfaaGreat
open Go Go.E Go.Proofs.Tryz
set_option linter.all false
set_option maxRecDepth 100000
set_option maxHeartbeats 2000000
variable {W w:World} {H:Chunk} {F:List Chunk}
theorem tg_copyJob (W w:World) (H:Chunk) (F:List Chunk) (j0:Job) (hj0:Job.Ok [H] j0) (hb:j0.inputs.n<=1000/\j0.stages.n<=1000/\j0.outputs.n<=1000) (hS:Sat W w (H::F)):
  Calls prog 43 #[.agg (encJob j0).toArray] w fun e w'=>∃(a1 a2 a3:Option Addr) (n1 k1 n2 k2 n3 k3:Nat) (c1 c2 c3:Chunk),e= .returned (.agg #[.slice a1 n1 k1, .slice a2 n2 k2, .slice a3 n3 k3,I j0.priority])/\OwnT encPlane 38 4 a1 n1 k1 j0.inputs.l c1/\OwnT encStage 53 18 a2 n2 k2 j0.stages.l c2/\OwnT Go.E.encI 3 1 a3 n3 k3 j0.outputs.l c3/\Sat W w' (c1::c2::c3::H::F):=by
 have hl_j0_inputs:=hj0.inputs.le;have hn_j0_inputs:=hj0.inputs.len
 have hl_j0_stages:=hj0.stages.le;have hn_j0_stages:=hj0.stages.len
 have hl_j0_outputs:=hj0.outputs.le;have hn_j0_outputs:=hj0.outputs.len
 refine callsA 19 func43 rfl<|sR<|sBox hS (.agg (encJob j0).toArray) (encJob j0).toArray fun _ _ m0=>sAlloc m0 zeroValue28 fun _ _ n0=>zS<|sBS n0 #[] runUnderlying25 sizeOf38 zeroValue38 fun o0 _ g0=>pu1<|sL g0 2 0 (.slice j0.inputs.a j0.inputs.n j0.inputs.k) (isAgg25 _)<|sApp (nb:=48) g0 (OwnT.blk (enc:=encPlane) (sz:=4) (b:=o0) (c:=#[]) (E:=38) (xs:=[]) fR 0 rfl rfl rfl om) 0 (hj0.inputs.up 3 rfl) underlying25 (i:=Tryz.t38) kr fR fun a0 b0 _ _ q0 r0=>pu1 ?_
 refine tW r0 2 0 (.slice a0 (0+j0.inputs.n) b0) sizeOf25 fun _ s0=>zS<|sBS s0 #[] runUnderlying26 sizeOf53 zeroValue53 fun t0 _ h0=>pu1<|sL h0 3 1 (.slice j0.stages.a j0.stages.n j0.stages.k) (isAgg26 _)<|sApp (nb:=240) h0 (OwnT.blk (enc:=encStage) (sz:=18) (b:=t0) (c:=#[]) (E:=53) (xs:=[]) fR 0 rfl rfl rfl om) 0 (hj0.stages.up 4 rfl) underlying26 (i:=Tryz.t53) kr fR fun c0 d0 _ _ v0 w0=>pu1<|tW w0 3 1 (.slice c0 (0+j0.stages.n) d0) sizeOf26 fun _ x0=>zS<|sBS x0 #[] runUnderlying22 sizeOf3 zeroValue3 fun y0 _ i0=>pu1<|sL i0 4 2 (.slice j0.outputs.a j0.outputs.n j0.outputs.k) (isAgg22 _) ?_
 refine sApp (nb:=8) i0 (OwnT.blk (enc:=Go.E.encI) (sz:=1) (b:=y0) (c:=#[]) (E:=3) (xs:=[]) fR 0 rfl rfl rfl om) 0 (hj0.outputs.up 5 rfl) underlying22 (i:=Tryz.t3) kr fR fun e0 f0 _ _ b1 d1=>pu1<|tW d1 4 2 (.slice e0 (0+j0.outputs.n) f0) sizeOf22 fun _ k0=>zS<|lA k0 4 0 4 (isAgg28 _) (sizeOf28 _) ?_
 refine sT k0 3 0 (.agg #[.slice a0 (0+j0.inputs.n) b0, .slice c0 (0+j0.stages.n) d0, .slice e0 (0+j0.outputs.n) f0,I j0.priority]) [.slice a0 (0+j0.inputs.n) b0, .slice c0 (0+j0.stages.n) d0, .slice e0 (0+j0.outputs.n) f0,I j0.priority] #[.slice a0 (0+j0.inputs.n) b0, .slice c0 (0+j0.stages.n) d0, .slice e0 (0+j0.outputs.n) f0,I j0.priority] sizeOf28 fun _ l0=>?_
 exact zE<|retN (vs:=[.agg #[.slice a0 (0+j0.inputs.n) b0, .slice c0 (0+j0.stages.n) d0, .slice e0 (0+j0.outputs.n) f0,I j0.priority]]) rfl (.cons (.cell _ _ _ _ kr (lvA l0 3 0 [.slice a0 (0+j0.inputs.n) b0, .slice c0 (0+j0.stages.n) d0, .slice e0 (0+j0.outputs.n) f0,I j0.priority] (isAgg28 _) (sizeOf28 _) rfl rfl rfl)) .nil)<|⟨_,_,_,_,_,_,_,_,_,_,_,_,rfl,(by have h:=q0;rw [List.nil_append] at h;exact h),(by have h:=v0;rw [List.nil_append] at h;exact h),(by have h:=b1;rw [List.nil_append] at h;exact h),((l0.picks [1,2]).drops [3,3])⟩
theorem chk_like {j k:JobV} (h:chkCode j=0) (hi:k.inputs=j.inputs) (hs:k.stages.map srcs=j.stages.map srcs) (hp:0<=k.priority/\k.priority<4) (ho:1<=k.outputs.length/\k.outputs.length<=16)
  (hr:∀x∈k.outputs,0<=x/\x<(j.inputs.length:Int)+j.stages.length):chkCode k=0:=by
 have hl:k.stages.length=j.stages.length:=by have:=congrArg List.length hs;simpa using this
 have h2:=chk_all h
 unfold chkCode at h⊢
 split at h
 ·rename_i h1
  rw [hi,hl,if_pos ⟨h1.1,h1.2.1,h1.2.2.1,ho⟩,if_pos hp,if_pos,if_pos]
  ·unfold inR;rw [List.all_eq_true];exact fun x hx=>decide_eq_true (hr x hx)
  ·rw [List.all_eq_true]
   intro s hm
   unfold inR;rw [List.all_eq_true]
   intro x hx
   have h3:srcs s∈j.stages.map srcs:=by rw [<-hs];exact List.mem_map_of_mem hm
   obtain ⟨s',hs',e⟩:=List.mem_map.1 h3
   exact decide_eq_true (h2.1 s' hs' x (by rw [e];exact hx))
 ·omega
theorem out_law {I:List PlaneV} {S:List StageV} {p:Int} {l0:List Shape} (hg:Good I S p) (hrun:runS (I.map shpOf) S=some l0) (h1:1<=S.length) {j k:JobV} (hji:j.inputs=I) (hjs:j.stages=S) (hjp:j.priority=p)
  (hjo:1<=j.outputs.length/\j.outputs.length<=16) (hjr:inR (I.length+S.length) j.outputs=true) (hi:k.inputs=I) (hs:k.stages.map nbS=S.map nbS) (hp:0<=k.priority/\k.priority<4) (ho:1<=k.outputs.length/\k.outputs.length<=16)
  (hr:∀x∈k.outputs,0<=x/\x<(I.length:Int)+S.length):(shpV j).2.2=0/\(shpV k).2.2=0/\meanV k=meanV j/\(meanV j).length=I.length+S.length:=by
 have h0:=(shp_run hg h1).1 l0 hrun
 have hc0:(shpV (jobOf I S p)).2.2=0:=by rw [h0]
 have hch:=(shp_ok hc0).ch
 have hss:k.stages.map srcs=S.map srcs:=by
  have e:=congrArg (List.map srcs) hs
  rw [List.map_map,List.map_map] at e
  exact e
 have hjr2:∀x∈j.outputs,0<=x/\x<(I.length:Int)+S.length:=by
  unfold inR at hjr;rw [List.all_eq_true] at hjr
  exact fun x hx=>of_decide_eq_true (hjr x hx)
 have hcj:chkCode j=0:=chk_like hch hji (by rw [hjs];rfl) (by rw [hjp];exact hg.pr) hjo hjr2
 have hck:chkCode k=0:=chk_like hch hi hss hp ho hr
 have e1:=mean_nb hch hcj hji (by rw [hjs];rfl)
 have e2:=mean_nb hch hck hi hs
 have hz:(shpV j).2.2=0:=by rw [e1.2.1,hc0]
 refine ⟨hz,by rw [e2.2.1,hc0],by rw [e2.2.2,e1.2.2],?_⟩
 have:=(mean_ok hz).1
 rw [hji,hjs] at this
 exact this
def intsV:JobV:=⟨[⟨2,2,9,[1,2,3,4]⟩],[⟨5,0,-1,false,0,0,0,0,[],[],[],0,0,[],[],0,[],0⟩],[1],0⟩
theorem in1:outV intsV=[⟨2,2,36,[1,3,4,10]⟩]:=by decide+kernel
theorem in2:(shpV intsV).2.2=0:=by decide+kernel
theorem in3:(meanV intsV).length=2:=by decide+kernel
theorem l18_ints {F:List Chunk} (hS:Sat W w F):
  Calls prog 86 #[] w fun e w'=>∃(q:Job) (G:Chunk),e= .returned (.agg (encJob q).toArray)/\Job.Ok [G] q/\q.v=intsV/\(q.inputs.n=1/\q.stages.n=1/\q.outputs.n=1)/\Sat W w' (G::F):=by
 refine callsA 8 func86 rfl<|sR<|sAlloc hS zeroValue28 fun _ _ f0=>zS<|sBS f0 #[I 1,I 2,I 3,I 4] runUnderlying22 sizeOf3 zeroValue3 fun a0 _ g0=>pu1<|sBS g0 #[I 2,I 2,I 9, .slice (At a0 0) 4 4] runUnderlying25 sizeOf38 zeroValue38 fun b0 _ h0=>pu1<|sBS h0 (encStage {zStage with kind:=5,b:=-1}).toArray runUnderlying26 sizeOf53 zeroValue53 fun c0 _ i0=>sBS i0 #[I 1] runUnderlying22 sizeOf3 zeroValue3 fun d0 _ j0=>pu1 ?_
 refine sT j0 4 0 (.agg #[.slice (At b0 0) 1 1, .slice (At c0 0) 1 1, .slice (At d0 0) 1 1,I 0]) [.slice (At b0 0) 1 1, .slice (At c0 0) 1 1, .slice (At d0 0) 1 1,I 0] #[.slice (At b0 0) 1 1, .slice (At c0 0) 1 1, .slice (At d0 0) 1 1,I 0] sizeOf28 fun _ e0=>zE<|retN (vs:=[.agg #[.slice (At b0 0) 1 1, .slice (At c0 0) 1 1, .slice (At d0 0) 1 1,I 0]]) rfl (.cons (.cell _ _ _ _ kr (lvA e0 4 0 [.slice (At b0 0) 1 1, .slice (At c0 0) 1 1, .slice (At d0 0) 1 1,I 0] (isAgg28 _) (sizeOf28 _) rfl rfl rfl)) .nil) ?_
 have k0:=((e0.picks [1,2]).dropAt 4 rfl)
 have l0:Sat W _ (([(b0, .cells #[I 2,I 2,I 9, .slice (At a0 0) 4 4] 38 (0,0))]++[(c0, .cells (encStage {zStage with kind:=5,b:=-1}).toArray 53 (0,0))]++[(d0, .cells #[I 1] 3 (0,0))]++[(a0, .cells #[I 1,I 2,I 3,I 4] 3 (0,0))])::F):=Sat.perm (show Sat W _ ([(b0, .cells #[I 2,I 2,I 9, .slice (At a0 0) 4 4] 38 (0,0))]::[(c0, .cells (encStage {zStage with kind:=5,b:=-1}).toArray 53 (0,0))]::[(d0, .cells #[I 1] 3 (0,0))]::[(a0, .cells #[I 1,I 2,I 3,I 4] 3 (0,0))]::F) from k0) (by simp)
 refine ⟨(⟨⟨(At b0 0),1,1,[(⟨2,2,9,⟨(At a0 0),4,4,[1,2,3,4]⟩⟩:Plane)]⟩,⟨(At c0 0),1,1,[(⟨5,0,-1,false,0,0,0,0,⟨none,0,0,[]⟩,⟨none,0,0,[]⟩,⟨none,0,0,[]⟩,0,0,⟨none,0,0,[]⟩,⟨none,0,0,[]⟩,0,⟨none,0,0,[]⟩,0⟩:Stage)]⟩,⟨(At d0 0),1,1,[1]⟩,0⟩:Job),([(b0, .cells #[I 2,I 2,I 9, .slice (At a0 0) 4 4] 38 (0,0))]++[(c0, .cells (encStage {zStage with kind:=5,b:=-1}).toArray 53 (0,0))]++[(d0, .cells #[I 1] 3 (0,0))]++[(a0, .cells #[I 1,I 2,I 3,I 4] 3 (0,0))]),rfl,⟨((RdT.blk (cs:=[[(b0, .cells #[I 2,I 2,I 9, .slice (At a0 0) 4 4] 38 (0,0))]]) (enc:=encPlane) (sz:=4) (xs:=[(⟨2,2,9,⟨(At a0 0),4,4,[1,2,3,4]⟩⟩:Plane)]) fR 1 0 rfl rfl rfl om)).of_mem mS,?_,((RdT.blk (cs:=[[(c0, .cells (encStage {zStage with kind:=5,b:=-1}).toArray 53 (0,0))]]) (enc:=encStage) (sz:=18) (xs:=[(⟨5,0,-1,false,0,0,0,0,⟨none,0,0,[]⟩,⟨none,0,0,[]⟩,⟨none,0,0,[]⟩,0,0,⟨none,0,0,[]⟩,⟨none,0,0,[]⟩,0,⟨none,0,0,[]⟩,0⟩:Stage)]) fR 1 0 rfl rfl rfl om)).of_mem mS,?_,((RdT.blk (cs:=[[(d0, .cells #[I 1] 3 (0,0))]]) (enc:=Go.E.encI) (sz:=1) (xs:=[1]) fR 1 0 rfl rfl rfl om)).of_mem mS⟩,by rfl,⟨rfl,rfl,rfl⟩,l0⟩
 ·intro z hz;rw [List.mem_singleton.1 hz];exact ⟨((RdT.blk (cs:=[[(a0, .cells #[I 1,I 2,I 3,I 4] 3 (0,0))]]) (enc:=Go.E.encI) (sz:=1) (xs:=[1,2,3,4]) fR 4 0 rfl rfl rfl om)).of_mem mS⟩
 ·intro z hz;rw [List.mem_singleton.1 hz];exact ⟨RdT.nil (enc:=Go.E.encI) (sz:=1) fR _,RdT.nil (enc:=Go.E.encI) (sz:=1) fR _,RdT.nil (enc:=Go.E.encI) (sz:=1) fR _,RdT.nil (enc:=encTap) (sz:=2) fR _,(fun z hz=>by cases hz),RdT.nil (enc:=encTap) (sz:=2) fR _,(fun z hz=>by cases hz),RdT.nil (enc:=encPOp) (sz:=2) fR _⟩
theorem l18_sane (hS:Sat W w (H::F)):
  Ro prog 39 #[] (.bool true) W w (H::F):=by
 refine callsA 48 func39 rfl<|sR<|pu1<|zS<|cX call86 (l18_ints hS) ?_
 rintro _ _ ⟨o0,_,rfl,p0,b0,⟨_,_,_⟩,q0⟩
 refine cX call36 (p18_outputs o0 (p0.of_mem (mem_flat1 0 (by rfl))) (od) q0.flat) ?_
 rintro _ _ ⟨_,r0,_,s0,j0,_,rfl,c0,g0,d0,t0⟩
 have u0:=t0.unflat1
 have hn_az_18:=c0.len;have hl_az_18:=c0.le
 have hz_c_14:j0=0:=by have h:=congrArg Prod.snd d0;dsimp only at h;rw [h,b0,in2]
 have hy_c_14:s0.length=1:=by have h:=congrArg List.length (congrArg Prod.fst d0);rw [List.length_map] at h;rw [h,b0];dsimp only;rw [in1];rfl
 refine pu5<|zS<|cX call86 (l18_ints u0) ?_
 rintro _ _ ⟨v0,_,rfl,w0,k0,⟨_,_,_⟩,x0⟩
 refine cX call35 (p18_of v0 (w0.of_mem (mem_flat1 0 (by rfl))) (od) x0.flat) ?_
 rintro _ _ ⟨_,y0,_,z0,l0,_,rfl,m0,_,n0,a1⟩
 have e0:=a1.unflat1
 have hn_az_40:=m0.len;have hl_az_40:=m0.le
 have hz_c_36:l0=0:=by have h:=congrArg Prod.snd n0;dsimp only at h;rw [h,k0,in2]
 have hy_c_36:z0.length=2:=by have h:=congrArg List.length (congrArg Prod.fst n0);rw [List.length_map] at h;rw [h,k0];dsimp only;exact in3
 refine pu5<|zS<|pu3 ?_
 have b1:(j0:Int)=0:=by omega
 refine sFix 17 _ true (beq_iff_eq.2 b1)<|pu5 ?_
 have c1:((r0:Int):Int)=1:=by omega
 refine sFix 22 _ true (beq_iff_eq.2 c1)<|pu1<|gY<|sIdx c0 0 runUnderlying25 sizeOf38 fun a0 _ _ h0 d1=>?_
 have hxv:a0.v=⟨2,2,36,[1,3,4,10]⟩:=by have h:=map_at (f:=Plane.v) h0;have h2:=congrArg Prod.fst d0;dsimp only at h2;rw [h2,b0,in1] at h;exact (Option.some.inj h).symm
 have hxp:a0.pix.l=[1,3,4,10]:=congrArg PlaneV.pix hxv;have hxn:a0.pix.n=4:=by have h:=(g0 a0 (List.mem_of_getElem? h0)).pix.len;rw [hxp] at h;exact h.symm
 refine pu1<|gY<|sLp e0 (d1.up 2 rfl) 3 (.slice a0.pix.a a0.pix.n a0.pix.k) (isAgg22 _)<|pu4 ?_
 have e1:((a0.pix.n:Int):Int)=4:=by omega
 refine sFix 30 _ true (beq_iff_eq.2 e1)<|pu1<|gY<|sIdx c0 0 runUnderlying25 sizeOf38 fun f1 _ _ f0 g1=>?_
 obtain rfl:a0=f1:=Option.some.inj (h0.symm.trans f0)
 have hxv:a0.v=⟨2,2,36,[1,3,4,10]⟩:=by have h:=map_at (f:=Plane.v) f0;have h2:=congrArg Prod.fst d0;dsimp only at h2;rw [h2,b0,in1] at h;exact (Option.some.inj h).symm
 have hxp:a0.pix.l=[1,3,4,10]:=congrArg PlaneV.pix hxv;have hxn:a0.pix.n=4:=by have h:=(g0 a0 (List.mem_of_getElem? f0)).pix.len;rw [hxp] at h;exact h.symm
 refine pu1<|gY<|sLp e0 (g1.up 2 rfl) 3 (.slice a0.pix.a a0.pix.n a0.pix.k) (isAgg22 _)<|gY<|sIdx (g0 a0 (List.mem_of_getElem? f0)).pix 3 runUnderlying22 sizeOf3 fun i0 _ _ h1 i1=>?_
 have hx10:i0=10:=by have h:=h1;rw [hxp] at h;exact (Option.some.inj h).symm
 refine gY<|sLp e0 (i1.up 2 rfl) 0 (I i0) (isAgg3 _)<|pu3 ?_
 have j1:(i0:Int)=10:=by omega
 refine sFix 39 _ true (beq_iff_eq.2 j1)<|pu4 ?_
 have k1:(l0:Int)=0:=by omega
 exact sFix 43 _ true (beq_iff_eq.2 k1)<|pu5<|zE<|retT [.bool (((y0:Int):Int)==2)]<|⟨rB (by rw [Bool.eq_iff_iff];simp;omega),(e0.drops [0,0,0,0])⟩
end Go.Proofs.YtmlhcafjelkjfaaGreat
