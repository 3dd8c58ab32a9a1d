import Derived.Test.YtmlhcafjelkjfaaGreatP1Ab
import Derived.WalkKit
import Derived.Deep.Quiet
import Derived.KernelRfl
import Derived.Laws.BytesString
import Derived.Laws.Shifts
import Derived.Laws.IdiomStrings
import Derived.Test.YtmlhcafjelkjfaaGreatProg
import Derived.Laws.IdiomRangeMap
import Derived.Test.YtmlhcafjelkjfaaGreatP1TJob
import Derived.Test.YtmlhcafjelkjfaaGreatP1Tv
namespace Go.Proofs.YtmlhcafjelkjfaaGreat
open Go Go.E Go.Proofs.Tryz
set_option linter.all false
set_option maxRecDepth 100000
set_option maxHeartbeats 2000000
variable {W w:World} {H:Chunk} {F:List Chunk}
theorem tg_copyJob (W w:World) (H:Chunk) (F:List Chunk) (j0:Job) (hj0:Job.Ok [H] j0) (hb:j0.inputs.n<=1000/\j0.stages.n<=1000/\j0.outputs.n<=1000) (hS:Sat W w (H::F)):
  Calls prog 43 #[.agg (encJob j0).toArray] w fun e w'=>∃(a1 a2 a3:Option Addr) (n1 k1 n2 k2 n3 k3:Nat) (c1 c2 c3:Chunk),e= .returned (.agg #[.slice a1 n1 k1, .slice a2 n2 k2, .slice a3 n3 k3,I j0.priority])/\OwnT encPlane 38 4 a1 n1 k1 j0.inputs.l c1/\OwnT encStage 53 18 a2 n2 k2 j0.stages.l c2/\OwnT Go.E.encI 3 1 a3 n3 k3 j0.outputs.l c3/\Sat W w' (c1::c2::c3::H::F):=by
 have hl_j0_inputs:=hj0.inputs.le;have hn_j0_inputs:=hj0.inputs.len
 have hl_j0_stages:=hj0.stages.le;have hn_j0_stages:=hj0.stages.len
 have hl_j0_outputs:=hj0.outputs.le;have hn_j0_outputs:=hj0.outputs.len
 refine callsA 19 func43 rfl<|sR<|sBox hS (.agg (encJob j0).toArray) (encJob j0).toArray fun _ _ m0=>sAlloc m0 zeroValue28 fun _ _ n0=>zS<|sBS n0 #[] runUnderlying25 sizeOf38 zeroValue38 fun o0 _ g0=>pu1<|sL g0 2 0 (.slice j0.inputs.a j0.inputs.n j0.inputs.k) (isAgg25 _)<|sApp (nb:=48) g0 (OwnT.blk (enc:=encPlane) (sz:=4) (b:=o0) (c:=#[]) (E:=38) (xs:=[]) fR 0 rfl rfl rfl om) 0 (hj0.inputs.up 3 rfl) underlying25 (i:=Tryz.t38) kr fR fun a0 b0 _ _ q0 r0=>pu1 ?_
 refine tW r0 2 0 (.slice a0 (0+j0.inputs.n) b0) sizeOf25 fun _ s0=>zS<|sBS s0 #[] runUnderlying26 sizeOf53 zeroValue53 fun t0 _ h0=>pu1<|sL h0 3 1 (.slice j0.stages.a j0.stages.n j0.stages.k) (isAgg26 _)<|sApp (nb:=240) h0 (OwnT.blk (enc:=encStage) (sz:=18) (b:=t0) (c:=#[]) (E:=53) (xs:=[]) fR 0 rfl rfl rfl om) 0 (hj0.stages.up 4 rfl) underlying26 (i:=Tryz.t53) kr fR fun c0 d0 _ _ v0 w0=>pu1<|tW w0 3 1 (.slice c0 (0+j0.stages.n) d0) sizeOf26 fun _ x0=>zS<|sBS x0 #[] runUnderlying22 sizeOf3 zeroValue3 fun y0 _ i0=>pu1<|sL i0 4 2 (.slice j0.outputs.a j0.outputs.n j0.outputs.k) (isAgg22 _) ?_
 refine sApp (nb:=8) i0 (OwnT.blk (enc:=Go.E.encI) (sz:=1) (b:=y0) (c:=#[]) (E:=3) (xs:=[]) fR 0 rfl rfl rfl om) 0 (hj0.outputs.up 5 rfl) underlying22 (i:=Tryz.t3) kr fR fun e0 f0 _ _ b1 d1=>pu1<|tW d1 4 2 (.slice e0 (0+j0.outputs.n) f0) sizeOf22 fun _ k0=>zS<|lA k0 4 0 4 (isAgg28 _) (sizeOf28 _) ?_
 refine sT k0 3 0 (.agg #[.slice a0 (0+j0.inputs.n) b0, .slice c0 (0+j0.stages.n) d0, .slice e0 (0+j0.outputs.n) f0,I j0.priority]) [.slice a0 (0+j0.inputs.n) b0, .slice c0 (0+j0.stages.n) d0, .slice e0 (0+j0.outputs.n) f0,I j0.priority] #[.slice a0 (0+j0.inputs.n) b0, .slice c0 (0+j0.stages.n) d0, .slice e0 (0+j0.outputs.n) f0,I j0.priority] sizeOf28 fun _ l0=>?_
 exact zE<|retN (vs:=[.agg #[.slice a0 (0+j0.inputs.n) b0, .slice c0 (0+j0.stages.n) d0, .slice e0 (0+j0.outputs.n) f0,I j0.priority]]) rfl (.cons (.cell _ _ _ _ kr (lvA l0 3 0 [.slice a0 (0+j0.inputs.n) b0, .slice c0 (0+j0.stages.n) d0, .slice e0 (0+j0.outputs.n) f0,I j0.priority] (isAgg28 _) (sizeOf28 _) rfl rfl rfl)) .nil)<|⟨_,_,_,_,_,_,_,_,_,_,_,_,rfl,(by have h:=q0;rw [List.nil_append] at h;exact h),(by have h:=v0;rw [List.nil_append] at h;exact h),(by have h:=b1;rw [List.nil_append] at h;exact h),((l0.picks [1,2]).drops [3,3])⟩
theorem chk_like {j k:JobV} (h:chkCode j=0) (hi:k.inputs=j.inputs) (hs:k.stages.map srcs=j.stages.map srcs) (hp:0<=k.priority/\k.priority<4) (ho:1<=k.outputs.length/\k.outputs.length<=16)
  (hr:∀x∈k.outputs,0<=x/\x<(j.inputs.length:Int)+j.stages.length):chkCode k=0:=by
 have hl:k.stages.length=j.stages.length:=by have:=congrArg List.length hs;simpa using this
 have h2:=chk_all h
 unfold chkCode at h⊢
 split at h
 ·rename_i h1
  rw [hi,hl,if_pos ⟨h1.1,h1.2.1,h1.2.2.1,ho⟩,if_pos hp,if_pos,if_pos]
  ·unfold inR;rw [List.all_eq_true];exact fun x hx=>decide_eq_true (hr x hx)
  ·rw [List.all_eq_true]
   intro s hm
   unfold inR;rw [List.all_eq_true]
   intro x hx
   have h3:srcs s∈j.stages.map srcs:=by rw [<-hs];exact List.mem_map_of_mem hm
   obtain ⟨s',hs',e⟩:=List.mem_map.1 h3
   exact decide_eq_true (h2.1 s' hs' x (by rw [e];exact hx))
 ·omega
theorem out_law {I:List PlaneV} {S:List StageV} {p:Int} {l0:List Shape} (hg:Good I S p) (hrun:runS (I.map shpOf) S=some l0) (h1:1<=S.length) {j k:JobV} (hji:j.inputs=I) (hjs:j.stages=S) (hjp:j.priority=p)
  (hjo:1<=j.outputs.length/\j.outputs.length<=16) (hjr:inR (I.length+S.length) j.outputs=true) (hi:k.inputs=I) (hs:k.stages.map nbS=S.map nbS) (hp:0<=k.priority/\k.priority<4) (ho:1<=k.outputs.length/\k.outputs.length<=16)
  (hr:∀x∈k.outputs,0<=x/\x<(I.length:Int)+S.length):(shpV j).2.2=0/\(shpV k).2.2=0/\meanV k=meanV j/\(meanV j).length=I.length+S.length:=by
 have h0:=(shp_run hg h1).1 l0 hrun
 have hc0:(shpV (jobOf I S p)).2.2=0:=by rw [h0]
 have hch:=(shp_ok hc0).ch
 have hss:k.stages.map srcs=S.map srcs:=by
  have e:=congrArg (List.map srcs) hs
  rw [List.map_map,List.map_map] at e
  exact e
 have hjr2:∀x∈j.outputs,0<=x/\x<(I.length:Int)+S.length:=by
  unfold inR at hjr;rw [List.all_eq_true] at hjr
  exact fun x hx=>of_decide_eq_true (hjr x hx)
 have hcj:chkCode j=0:=chk_like hch hji (by rw [hjs];rfl) (by rw [hjp];exact hg.pr) hjo hjr2
 have hck:chkCode k=0:=chk_like hch hi hss hp ho hr
 have e1:=mean_nb hch hcj hji (by rw [hjs];rfl)
 have e2:=mean_nb hch hck hi hs
 have hz:(shpV j).2.2=0:=by rw [e1.2.1,hc0]
 refine ⟨hz,by rw [e2.2.1,hc0],by rw [e2.2.2,e1.2.2],?_⟩
 have:=(mean_ok hz).1
 rw [hji,hjs] at this
 exact this
theorem set_same {α:Type} {l:List α} {i:Nat} {a:α} (h:l[i]?=some a):l.set i a=l:=by
  apply List.ext_getElem?
  intro k
  rw [List.getElem?_set]
  split
  · rename_i e;subst e
    have:=(List.getElem?_eq_some_iff.1 h).1
    rw [if_pos this,h]
  · rfl
def intsV:JobV:=⟨[⟨2,2,9,[1,2,3,4]⟩],[⟨5,0,-1,false,0,0,0,0,[],[],[],0,0,[],[],0,[],0⟩],[1],0⟩
theorem in1:outV intsV=[⟨2,2,36,[1,3,4,10]⟩]:=by decide+kernel
theorem in2:(shpV intsV).2.2=0:=by decide+kernel
theorem in3:(meanV intsV).length=2:=by decide+kernel
theorem l18_ints {F:List Chunk} (hS:Sat W w F):
  Calls prog 86 #[] w fun e w'=>∃(q:Job) (G:Chunk),e= .returned (.agg (encJob q).toArray)/\Job.Ok [G] q/\q.v=intsV/\(q.inputs.n=1/\q.stages.n=1/\q.outputs.n=1)/\Sat W w' (G::F):=by
 refine callsA 8 func86 rfl<|sR<|sAlloc hS zeroValue28 fun _ _ f0=>zS<|sBS f0 #[I 1,I 2,I 3,I 4] runUnderlying22 sizeOf3 zeroValue3 fun a0 _ g0=>pu1<|sBS g0 #[I 2,I 2,I 9, .slice (At a0 0) 4 4] runUnderlying25 sizeOf38 zeroValue38 fun b0 _ h0=>pu1<|sBS h0 (encStage {zStage with kind:=5,b:=-1}).toArray runUnderlying26 sizeOf53 zeroValue53 fun c0 _ i0=>sBS i0 #[I 1] runUnderlying22 sizeOf3 zeroValue3 fun d0 _ j0=>pu1 ?_
 refine sT j0 4 0 (.agg #[.slice (At b0 0) 1 1, .slice (At c0 0) 1 1, .slice (At d0 0) 1 1,I 0]) [.slice (At b0 0) 1 1, .slice (At c0 0) 1 1, .slice (At d0 0) 1 1,I 0] #[.slice (At b0 0) 1 1, .slice (At c0 0) 1 1, .slice (At d0 0) 1 1,I 0] sizeOf28 fun _ e0=>zE<|retN (vs:=[.agg #[.slice (At b0 0) 1 1, .slice (At c0 0) 1 1, .slice (At d0 0) 1 1,I 0]]) rfl (.cons (.cell _ _ _ _ kr (lvA e0 4 0 [.slice (At b0 0) 1 1, .slice (At c0 0) 1 1, .slice (At d0 0) 1 1,I 0] (isAgg28 _) (sizeOf28 _) rfl rfl rfl)) .nil) ?_
 have k0:=((e0.picks [1,2]).dropAt 4 rfl)
 have l0:Sat W _ (([(b0, .cells #[I 2,I 2,I 9, .slice (At a0 0) 4 4] 38 (0,0))]++[(c0, .cells (encStage {zStage with kind:=5,b:=-1}).toArray 53 (0,0))]++[(d0, .cells #[I 1] 3 (0,0))]++[(a0, .cells #[I 1,I 2,I 3,I 4] 3 (0,0))])::F):=Sat.perm (show Sat W _ ([(b0, .cells #[I 2,I 2,I 9, .slice (At a0 0) 4 4] 38 (0,0))]::[(c0, .cells (encStage {zStage with kind:=5,b:=-1}).toArray 53 (0,0))]::[(d0, .cells #[I 1] 3 (0,0))]::[(a0, .cells #[I 1,I 2,I 3,I 4] 3 (0,0))]::F) from k0) (by simp)
 refine ⟨(⟨⟨(At b0 0),1,1,[(⟨2,2,9,⟨(At a0 0),4,4,[1,2,3,4]⟩⟩:Plane)]⟩,⟨(At c0 0),1,1,[(⟨5,0,-1,false,0,0,0,0,⟨none,0,0,[]⟩,⟨none,0,0,[]⟩,⟨none,0,0,[]⟩,0,0,⟨none,0,0,[]⟩,⟨none,0,0,[]⟩,0,⟨none,0,0,[]⟩,0⟩:Stage)]⟩,⟨(At d0 0),1,1,[1]⟩,0⟩:Job),([(b0, .cells #[I 2,I 2,I 9, .slice (At a0 0) 4 4] 38 (0,0))]++[(c0, .cells (encStage {zStage with kind:=5,b:=-1}).toArray 53 (0,0))]++[(d0, .cells #[I 1] 3 (0,0))]++[(a0, .cells #[I 1,I 2,I 3,I 4] 3 (0,0))]),rfl,⟨((RdT.blk (cs:=[[(b0, .cells #[I 2,I 2,I 9, .slice (At a0 0) 4 4] 38 (0,0))]]) (enc:=encPlane) (sz:=4) (xs:=[(⟨2,2,9,⟨(At a0 0),4,4,[1,2,3,4]⟩⟩:Plane)]) fR 1 0 rfl rfl rfl om)).of_mem mS,?_,((RdT.blk (cs:=[[(c0, .cells (encStage {zStage with kind:=5,b:=-1}).toArray 53 (0,0))]]) (enc:=encStage) (sz:=18) (xs:=[(⟨5,0,-1,false,0,0,0,0,⟨none,0,0,[]⟩,⟨none,0,0,[]⟩,⟨none,0,0,[]⟩,0,0,⟨none,0,0,[]⟩,⟨none,0,0,[]⟩,0,⟨none,0,0,[]⟩,0⟩:Stage)]) fR 1 0 rfl rfl rfl om)).of_mem mS,?_,((RdT.blk (cs:=[[(d0, .cells #[I 1] 3 (0,0))]]) (enc:=Go.E.encI) (sz:=1) (xs:=[1]) fR 1 0 rfl rfl rfl om)).of_mem mS⟩,by rfl,⟨rfl,rfl,rfl⟩,l0⟩
 ·intro z hz;rw [List.mem_singleton.1 hz];exact ⟨((RdT.blk (cs:=[[(a0, .cells #[I 1,I 2,I 3,I 4] 3 (0,0))]]) (enc:=Go.E.encI) (sz:=1) (xs:=[1,2,3,4]) fR 4 0 rfl rfl rfl om)).of_mem mS⟩
 ·intro z hz;rw [List.mem_singleton.1 hz];exact ⟨RdT.nil (enc:=Go.E.encI) (sz:=1) fR _,RdT.nil (enc:=Go.E.encI) (sz:=1) fR _,RdT.nil (enc:=Go.E.encI) (sz:=1) fR _,RdT.nil (enc:=encTap) (sz:=2) fR _,(fun z hz=>by cases hz),RdT.nil (enc:=encTap) (sz:=2) fR _,(fun z hz=>by cases hz),RdT.nil (enc:=encPOp) (sz:=2) fR _⟩
theorem l18_sane (hS:Sat W w (H::F)):
  Ro prog 39 #[] (.bool true) W w (H::F):=by
 refine callsA 48 func39 rfl<|sR<|pu1<|zS<|cX call86 (l18_ints hS) ?_
 rintro _ _ ⟨o0,_,rfl,p0,b0,⟨_,_,_⟩,q0⟩
 refine cX call36 (p18_outputs o0 (p0.of_mem (mem_flat1 0 (by rfl))) (od) q0.flat) ?_
 rintro _ _ ⟨_,r0,_,s0,j0,_,rfl,c0,g0,d0,t0⟩
 have u0:=t0.unflat1
 have hn_az_18:=c0.len;have hl_az_18:=c0.le
 have hz_c_14:j0=0:=by have h:=congrArg Prod.snd d0;dsimp only at h;rw [h,b0,in2]
 have hy_c_14:s0.length=1:=by have h:=congrArg List.length (congrArg Prod.fst d0);rw [List.length_map] at h;rw [h,b0];dsimp only;rw [in1];rfl
 refine pu5<|zS<|cX call86 (l18_ints u0) ?_
 rintro _ _ ⟨v0,_,rfl,w0,k0,⟨_,_,_⟩,x0⟩
 refine cX call35 (p18_of v0 (w0.of_mem (mem_flat1 0 (by rfl))) (od) x0.flat) ?_
 rintro _ _ ⟨_,y0,_,z0,l0,_,rfl,m0,_,n0,a1⟩
 have e0:=a1.unflat1
 have hn_az_40:=m0.len;have hl_az_40:=m0.le
 have hz_c_36:l0=0:=by have h:=congrArg Prod.snd n0;dsimp only at h;rw [h,k0,in2]
 have hy_c_36:z0.length=2:=by have h:=congrArg List.length (congrArg Prod.fst n0);rw [List.length_map] at h;rw [h,k0];dsimp only;exact in3
 refine pu5<|zS<|pu3 ?_
 have b1:(j0:Int)=0:=by omega
 refine sFix 17 _ true (beq_iff_eq.2 b1)<|pu5 ?_
 have c1:((r0:Int):Int)=1:=by omega
 refine sFix 22 _ true (beq_iff_eq.2 c1)<|pu1<|gY<|sIdx c0 0 runUnderlying25 sizeOf38 fun a0 _ _ h0 d1=>?_
 have hxv:a0.v=⟨2,2,36,[1,3,4,10]⟩:=by have h:=map_at (f:=Plane.v) h0;have h2:=congrArg Prod.fst d0;dsimp only at h2;rw [h2,b0,in1] at h;exact (Option.some.inj h).symm
 have hxp:a0.pix.l=[1,3,4,10]:=congrArg PlaneV.pix hxv;have hxn:a0.pix.n=4:=by have h:=(g0 a0 (List.mem_of_getElem? h0)).pix.len;rw [hxp] at h;exact h.symm
 refine pu1<|gY<|sLp e0 (d1.up 2 rfl) 3 (.slice a0.pix.a a0.pix.n a0.pix.k) (isAgg22 _)<|pu4 ?_
 have e1:((a0.pix.n:Int):Int)=4:=by omega
 refine sFix 30 _ true (beq_iff_eq.2 e1)<|pu1<|gY<|sIdx c0 0 runUnderlying25 sizeOf38 fun f1 _ _ f0 g1=>?_
 obtain rfl:a0=f1:=Option.some.inj (h0.symm.trans f0)
 have hxv:a0.v=⟨2,2,36,[1,3,4,10]⟩:=by have h:=map_at (f:=Plane.v) f0;have h2:=congrArg Prod.fst d0;dsimp only at h2;rw [h2,b0,in1] at h;exact (Option.some.inj h).symm
 have hxp:a0.pix.l=[1,3,4,10]:=congrArg PlaneV.pix hxv;have hxn:a0.pix.n=4:=by have h:=(g0 a0 (List.mem_of_getElem? f0)).pix.len;rw [hxp] at h;exact h.symm
 refine pu1<|gY<|sLp e0 (g1.up 2 rfl) 3 (.slice a0.pix.a a0.pix.n a0.pix.k) (isAgg22 _)<|gY<|sIdx (g0 a0 (List.mem_of_getElem? f0)).pix 3 runUnderlying22 sizeOf3 fun i0 _ _ h1 i1=>?_
 have hx10:i0=10:=by have h:=h1;rw [hxp] at h;exact (Option.some.inj h).symm
 refine gY<|sLp e0 (i1.up 2 rfl) 0 (I i0) (isAgg3 _)<|pu3 ?_
 have j1:(i0:Int)=10:=by omega
 refine sFix 39 _ true (beq_iff_eq.2 j1)<|pu4 ?_
 have k1:(l0:Int)=0:=by omega
 exact sFix 43 _ true (beq_iff_eq.2 k1)<|pu5<|zE<|retT [.bool (((y0:Int):Int)==2)]<|⟨rB (by rw [Bool.eq_iff_iff];simp;omega),(e0.drops [0,0,0,0])⟩
theorem l18_outputs (W w:World) (H:Chunk) (F:List Chunk) (t:Option Addr) (nt kt:Nat) (xt:List Int) (ht:RdT Go.E.encI 1 [H] t nt kt xt) (hS:Sat W w (H::F)):
  Calls prog 10 #[.slice t nt kt] w fun e w'=>e= .returned (.bool true)/\Sat W w' (H::F):=by
 have hlt:=ht.le
 refine callsA 114 func10 rfl<|sR<|pu1<|zS<|pu1<|cX call11 (tape_new t nt kt hS) ?_
 rintro _ _ ⟨j0,rfl,o2⟩
 have j5:=ht.le
 refine pu1<|zS<|pu1<|cX call12 (tg_jobO (RdT.flat (ht.up 0 (by rfl))) om o2.flat1 3 om) ?_
 rintro _ _ ⟨a0,x0,k0,rfl,m0,y0,f0,p2,q2,r2,_,_,s2⟩
 have t2:=s2.unflat3
 have hok_q_7:Job.Ok [x0++k0] a0:=f0 _ _ _ _ _ m0 y0
 have hn_q_7:=m0.len;have hl_q_7:=m0.le
 obtain ⟨hgd,l0,hrn⟩:=q2
 have hns:=(hok_q_7).stages.len;have hni:=(hok_q_7).inputs.len;have hno:=(hok_q_7).outputs.len;have hjO:=r2;have hjB:=p2
 have hb:a0.inputs.n<=1000/\a0.stages.n<=1000/\a0.outputs.n<=1000:=by have h1:=hgd.ni;have h2:=hgd.ns;rw [List.length_map] at h1 h2;omega
 have hns4:=hjB.2.1.1;have hni2:=hgd.ni;have hns8:=hgd.ns;rw [List.length_map] at hni2 hns8
 refine sAlloc t2 zeroValue28 fun i0 _ u2=>?_
 refine sT u2 0 0 (.agg (encJob a0).toArray) (encJob a0) (encJob a0).toArray sizeOf28 fun _ x1=>zS<|lA x1 0 0 4 (isAgg28 _) (sizeOf28 _)<|cX call35 (p18_of a0 ⟨(RdT.flat ((f0 _ 0 0 [] [] (OwnT.nil (fun _=>(by rfl))) (fun z hz=>by cases hz)).inputs.up 3 (by rfl))),(fun z hz=>((f0 _ 0 0 [] [] (OwnT.nil fR) (fun z hz=>by cases hz)).inputsD z hz).of_mem (mem_flat1 3 (by rfl))),(RdT.flat (m0.rdAt 2 (by rfl))),(fun z hz=>(y0 z hz).of_mem (mem_flat1 3 (by rfl))),(RdT.flat ((f0 _ 0 0 [] [] (OwnT.nil (fun _=>(by rfl))) (fun z hz=>by cases hz)).outputs.up 3 (by rfl)))⟩ (od) x1.flat) ?_
 rintro _ _ ⟨z0,n0,a1,y1,b1,m1,rfl,n1,v2,z1,w2⟩
 have a2:=w2.unflat1
 have hn_az_32:=n1.len;have hl_az_32:=n1.le
 refine pu5<|zS<|lA a2 1 0 4 (isAgg28 _) (sizeOf28 _)<|cX call43 (tg_copyJob W _ _ [] a0 ⟨(RdT.flat ((f0 _ 0 0 [] [] (OwnT.nil (fun _=>(by rfl))) (fun z hz=>by cases hz)).inputs.up 4 (by rfl))),(fun z hz=>((f0 _ 0 0 [] [] (OwnT.nil fR) (fun z hz=>by cases hz)).inputsD z hz).of_mem (mem_flat1 4 (by rfl))),(RdT.flat (m0.rdAt 3 (by rfl))),(fun z hz=>(y0 z hz).of_mem (mem_flat1 4 (by rfl))),(RdT.flat ((f0 _ 0 0 [] [] (OwnT.nil (fun _=>(by rfl))) (fun z hz=>by cases hz)).outputs.up 4 (by rfl)))⟩ om a2.flat) ?_
 rintro _ _ ⟨a1_39,a2_40,a3_41,n1_42,k1_43,n2_44,k2_45,n3_46,k3_47,c1_48,c2_49,c3_50,rfl,o1,p1,b2,x2⟩
 have y2:=Sat.unflatc x2
 have hn_a1_39:=o1.len;have hl_a1_39:=o1.le
 have hn_a2_40:=p1.len;have hl_a2_40:=p1.le
 have hn_a3_41:=b2.len;have hl_a3_41:=b2.le
 refine sAlloc y2 zeroValue28 fun c0 _ z2=>?_
 refine sT z2 0 0 (.agg #[.slice a1_39 n1_42 k1_43, .slice a2_40 n2_44 k2_45, .slice a3_41 n3_46 k3_47,I a0.priority]) [.slice a1_39 n1_42 k1_43, .slice a2_40 n2_44 k2_45, .slice a3_41 n3_46 k3_47,I a0.priority] #[.slice a1_39 n1_42 k1_43, .slice a2_40 n2_44 k2_45, .slice a3_41 n3_46 k3_47,I a0.priority] sizeOf28 fun _ a3=>zS<|pu1 ?_
 have b3:=(a3.pick 6 rfl)
 refine cX call15 (tape_next (RdT.flat (ht.up 8 (by rfl))) om b3.flat1 4 om) ?_
 rintro _ _ ⟨g0,rfl,_,_,_,c3⟩
 have d3:=c3.unflat1
 refine pu1<|tW d3 1 2 (nS) sizeOf22 fun _ e3=>pu1<|tW e3 1 3 (I g0) sizeOf3 fun _ f3=>zQ<|pu1<|cX call15 (tape_next (RdT.flat (ht.up 8 (by rfl))) om f3.flat1 5 om) ?_
 rintro _ _ ⟨q1,rfl,_,g3,_,h3⟩
 have i3:=h3.unflat1
 refine sAdd 1 q1<|pu1<|nT<|blockE ?_
 have j3:=Sat.nilc i3
 have k3:=OwnT.nil (enc:=Go.E.encI) (E:=3) (sz:=1) fR
 obtain ⟨M,hM⟩:∃M:Nat,(1+q1)=(M:Int):=⟨_,(Int.toNat_of_nonneg om).symm⟩;have hM5:1<=M/\M<=5:=by omega
 refine loopA (γ:=Nat×Int×Int×(List Int)×(Option Addr)×Nat×Nat×Chunk) (fun ⟨i,mm,iti,zs,azs,nzs,kzs,czs⟩=>[(3,Pt j0 0),(4,Pt i0 0),(5, .slice z0 n0 a1),(6,I b1),(7,Pt c0 0),(8,I mm)]) (fun ⟨i,mm,iti,zs,azs,nzs,kzs,czs⟩ w=>Sat W w (czs::[(j0, .cells #[.slice t nt kt,I iti] 81 (0,0))]::[(c0, .cells #[.slice a1_39 n1_42 k1_43, .slice a2_40 n2_44 k2_45, .slice azs nzs kzs,I g0] 28 (0,0))]::c1_48::c2_49::c3_50::m1::[(i0, .cells (encJob a0).toArray 28 (0,0))]::x0::k0::H::F)/\i<=M/\(mm=(M:Int)-(i:Int))/\(∀z∈zs,0<=z/\z<((a0.inputs.n:Int)+(a0.stages.n:Int)))/\(zs.length=i)/\(0<=iti/\iti<=nt)/\OwnT Go.E.encI 3 1 azs nzs kzs zs czs) (fun ⟨i,mm,iti,zs,azs,nzs,kzs,czs⟩=>M-i) (0,(1+q1),g3,[],none,0,0,[]) ⟨j3,om,om,(by intro z hz;cases hz),by rfl,om,k3⟩ ?_
 rintro ⟨i,mm,iti,zs,azs,nzs,kzs,czs⟩ ρ _ ⟨o0,hi,hmm,hzr,hzl,hiti,hOzs⟩
 have hn_zs:=hOzs.len;have hl_zs:=hOzs.le
 refine seqE<|sR<|pu2<|nT<|cD (mm>0) (fun l3=>?_) (fun l3=>?_)
 ·refine kT<|seqE<|blockE<|drawE [10,11,12,14] [(1,⟨c0,2,none⟩, .slice azs nzs kzs),(4,⟨i0,0,none⟩, .slice a0.inputs.a a0.inputs.n a0.inputs.k),(7,⟨i0,1,none⟩, .slice a0.stages.a a0.stages.n a0.stages.k)] [(true,[0,2,3,6]),(true,[1]),(true,[4]),(true,[5]),(true,[7]),(true,[8]),(true,[9]),(false,[10]),(false,[11]),(false,[12]),(true,[13]),(false,[14])] rfl kr ⟨cI o0 2,cI o0 7,cI o0 7,trivial⟩ ?_
  have m3:=o0.drew
  refine wU [0,2,3,6]<|wLd (.slice azs nzs kzs) 0 isAgg22<|wLd (.slice a0.inputs.a a0.inputs.n a0.inputs.k) 1 isAgg25<|wU [5]<|wLd (.slice a0.stages.a a0.stages.n a0.stages.k) 2 isAgg26<|wU [8]<|wAdd (a0.inputs.n:Int) (a0.stages.n:Int)<|wO rfl ?_
  have n3:=(m3.pick 1 rfl)
  refine cX call15 (tape_next (RdT.flat (ht.up 9 (by rfl))) om n3.flat1 ((a0.inputs.n:Int)+(a0.stages.n:Int)) om) ?_
  rintro _ _ ⟨r1,rfl,_,o3,_,p3⟩
  have c1:=p3.unflat1
  refine nilO ⟨⟨cI c1 2,cI c1 7,cI c1 7,trivial⟩,?_⟩
  refine wO rfl<|sBS c1 #[I r1] runUnderlying22 sizeOf3 zeroValue3 fun _ _ d1=>nilO ⟨⟨cI d1 3,cI d1 8,cI d1 8,trivial⟩,?_⟩
  refine wO rfl<|sApp (nb:=8) d1 hOzs 2 (RdT.blk (enc:=Go.E.encI) (sz:=1) (xs:=[r1]) fR 1 0 rfl rfl rfl om) underlying22 (i:=Tryz.t3) kr fR fun c2 d2 q3 _ r3 s1=>nilO ⟨⟨dI,cI s1 8,cI s1 8,trivial⟩,?_⟩
  refine wU [13]<|wO rfl<|tW s1 3 2 (.slice c2 (nzs+1) d2) sizeOf22 fun _ s3=>nilO ⟨dA,?_⟩
  refine wN<|bN<|tN<|rE<|pu1<|sSub mm 1<|pu1<|nT ?_
  exact ⟨(i+1,(mm-1),o3,(zs++[r1]),c2,(nzs+1),d2,q3),od,alA,((s3.pick 2 rfl).dropAt 1 rfl),om,om,(fun z hz=>(List.mem_append.1 hz).elim (hzr z) (fun h=>by rw [List.mem_singleton.1 h];omega)),(by rw [List.length_append,hzl];rfl),om,r3⟩
 refine exitE<|xB<|tN<|seqE<|sR<|pu1<|nT<|blockE ?_
 have v3:=(o0.pick 4 rfl)
 refine loopA (γ:=Nat×Int×(List Stage)×(Option Addr)×Nat×Nat×Chunk) (fun ⟨i,iti,ss,ass,nss,kss,css⟩=>[(3,Pt j0 0),(5, .slice z0 n0 a1),(6,I b1),(7,Pt c0 0),(9,I (i:Int))]) (fun ⟨i,iti,ss,ass,nss,kss,css⟩ w=>Sat W w (css::czs::[(j0, .cells #[.slice t nt kt,I iti] 81 (0,0))]::[(c0, .cells #[.slice a1_39 n1_42 k1_43, .slice ass nss kss, .slice azs nzs kzs,I g0] 28 (0,0))]::c1_48::c3_50::m1::[(i0, .cells (encJob a0).toArray 28 (0,0))]::x0::k0::H::F)/\i<=a0.stages.n/\(ss.map (fun z=>nbS z.v)=a0.stages.l.map (fun z=>nbS z.v))/\(ss.length=a0.stages.n)/\(0<=iti/\iti<=nt)/\OwnT encStage 53 18 ass nss kss ss css/\(∀z∈ss,Stage.Ok [k0] z)) (fun ⟨i,iti,ss,ass,nss,kss,css⟩=>a0.stages.n-i) (0,iti,a0.stages.l,a2_40,n2_44,k2_45,c2_49) ⟨v3,om,by rfl,om,om,p1,y0⟩ ?_
 rintro ⟨i,iti,ss,ass,nss,kss,css⟩ ρ _ ⟨p0,hi,hsn,hsl,hiti,hOss,hDss⟩
 have hn_ss:=hOss.len;have hl_ss:=hOss.le
 refine seqE<|sR<|pu2<|sL p0 3 1 (.slice ass nss kss) (isAgg26 _)<|pu2<|nT<|cD ((i:Int)<(nss:Int)) (fun w3=>?_) (fun w3=>?_)
 ·refine kT<|seqE<|blockE ?_
  obtain ⟨q0,x3,y3,e1,z3,e2,a4⟩:=OwnT.elem hOss (i:Int)
  rw [Int.toNat_natCast] at e1 z3 e2
  refine drawE [4,8] [(1,⟨c0,1,none⟩, .slice ass nss kss)] [(true,[0,2,3]),(true,[1]),(false,[4]),(true,[5]),(true,[6]),(true,[7]),(false,[8])] rfl kr ⟨cI p0 3,trivial⟩ ?_
  have b4:=p0.drew
  refine wU [0,2,3]<|wLd (.slice ass nss kss) 0 isAgg26<|wO rfl ?_
  have c4:=(b4.pick 2 rfl)
  refine cX call15 (tape_next (RdT.flat (ht.up 9 (by rfl))) om c4.flat1 2 om) ?_
  rintro _ _ ⟨f1,rfl,_,d4,_,e4⟩
  have f2:=e4.unflat1
  refine nilO ⟨⟨cI f2 3,trivial⟩,?_⟩
  refine wU [5]<|wY (.pointer (some ⟨x3,y3+i*18,none⟩)) rfl (fun w _=>Y_idx (a:=ass) (i:=(i:Int)) (len:=nss) (cap:=kss) rfl runUnderlying26 sizeOf53 kr kr e2)<|wU [7]<|wO rfl<|sStF f2 hOss a4 1 i 3 q0 ({q0 with barrier:=((f1:Int)==0)}:Stage) e1 (.bool ((f1:Int)==0)) [.bool ((f1:Int)==0)] sizeOf4 fun _ f4 g4 h4=>nilO ⟨dA,?_⟩
  exact wN<|bN<|tN<|rE<|pu1<|sAdd (i:Int) 1<|pu1<|nT<|⟨(i+1,d4,(ss.set i ({q0 with barrier:=((f1:Int)==0)}:Stage)),ass,nss,kss,f4),od,alA,(h4.picks [2,2]),om,(by rw [List.map_set,<-hsn];exact set_same (a:=nbS q0.v) (map_at (f:=fun z:Stage=>nbS z.v) e1)),(by rw [List.length_set];exact hsl),om,g4,(mem_set hDss (have hq:=hDss q0 (List.mem_of_getElem? e1);⟨hq.weights,hq.row,hq.col,hq.x,hq.xD,hq.y,hq.yD,hq.ops⟩))⟩
 refine exitE<|xB<|tN<|sR<|lA p0 3 0 4 (isAgg28 _) (sizeOf28 _)<|cX call36 (p18_outputs (⟨⟨a1_39,n1_42,k1_43,a0.inputs.l⟩,⟨ass,nss,kss,ss⟩,⟨azs,nzs,kzs,zs⟩,g0⟩:Job) ⟨(RdT.flat (o1.rdAt 4 (by rfl))),(fun z hz=>((f0 _ 0 0 [] [] (OwnT.nil fR) (fun z hz=>by cases hz)).inputsD z hz).of_mem (mem_flat1 9 (by rfl))),(RdT.flat (hOss.rdAt 0 (by rfl))),(fun z hz=>(hDss z hz).of_mem (mem_flat1 9 (by rfl))),(RdT.flat (hOzs.rdAt 1 (by rfl)))⟩ (od) p0.flat) ?_
 rintro _ _ ⟨g2,g1,i2,j2,k2,j4,rfl,t1,k4,l2,l4⟩
 have m2:=l4.unflat1
 have hn_az_138:=t1.len;have hl_az_138:=t1.le
 obtain ⟨hza,hzb,hmk,hml⟩:=out_law (j:=a0.v) (k:=Job.v (⟨⟨a1_39,n1_42,k1_43,a0.inputs.l⟩,⟨ass,nss,kss,ss⟩,⟨azs,nzs,kzs,zs⟩,g0⟩:Job)) hgd hrn (by rw [List.length_map];omega) rfl rfl rfl (by show 1<=a0.outputs.l.length/\a0.outputs.l.length<=16;omega) hjO.2.2 rfl (by show (ss.map Stage.v).map nbS=(a0.stages.l.map Stage.v).map nbS;rw [List.map_map,List.map_map];exact hsn) (by show 0<=g0/\g0<4;omega) (by show 1<=zs.length/\zs.length<=16;omega) (by intro x hx;have h:=hzr x hx;rw [List.length_map,List.length_map];omega)
 rw [List.length_map,List.length_map] at hml
 have hea:b1=0:=by have h:=congrArg Prod.snd z1;dsimp only at h;omega
 have heb:k2=0:=by have h:=congrArg Prod.snd l2;dsimp only at h;rw [h];exact hzb
 have hva:y1.map Plane.v=meanV a0.v:=congrArg Prod.fst z1;have hvb:j2.map Plane.v=zs.map (plAt (meanV a0.v)):=by have h:=congrArg Prod.fst l2;dsimp only at h;rw [h];unfold outV;rw [if_pos hzb,hmk];rfl
 have hlb:j2.length=zs.length:=by have h:=congrArg List.length hvb;rw [List.length_map,List.length_map] at h;exact h
 have hla:y1.length=a0.inputs.n+a0.stages.n:=by have h:=congrArg List.length hva;rw [List.length_map,hml] at h;omega
 refine pu5<|zQ<|pu3 ?_
 have m4:(b1:Int)=0:=by omega
 refine sFix 71 _ false (bne_eq_false_iff_eq.2 m4)<|pu4 ?_
 have n4:(k2:Int)=0:=by omega
 refine sFix 75 _ false (bne_eq_false_iff_eq.2 n4)<|pu3<|gY<|sL m2 4 2 (.slice azs nzs kzs) (isAgg22 _)<|pu3<|nT ?_
 have o4:((g1:Int):Int)=(nzs:Int):=by omega
 refine cF _ (bne_eq_false_iff_eq.2 o4)<|kT<|seqE<|sR<|pu1<|nT<|blockE<|loopA (γ:=Nat) (fun i=>[(5, .slice z0 n0 a1),(7,Pt c0 0),(10, .slice g2 g1 i2),(12,I (i:Int))]) (fun i w=>Sat W w (j4::css::czs::[(j0, .cells #[.slice t nt kt,I iti] 81 (0,0))]::[(c0, .cells #[.slice a1_39 n1_42 k1_43, .slice ass nss kss, .slice azs nzs kzs,I g0] 28 (0,0))]::c1_48::c3_50::m1::[(i0, .cells (encJob a0).toArray 28 (0,0))]::x0::k0::H::F)/\i<=zs.length) (fun i=>zs.length-i) 0 ⟨m2,om⟩ ?_
 rintro i ρ _ ⟨b0,hi⟩
 refine seqE<|sR<|pu4<|nT<|cD ((i:Int)<(g1:Int)) (fun p4=>?_) (fun p4=>?_)
 rotate_left
 ·refine exitE<|xB<|tN<|sR<|cR call39 (l18_sane b0.flat) fun _ q4=>pu1<|zE<|retT [.bool true] ?_
  have r4:=(q4.pick 11 rfl)
  have s4:=r4.dropAt 1 rfl
  have t4:=s4.dropAt 1 rfl
  have u4:=t4.dropAt 1 rfl
  have v4:=u4.dropAt 1 rfl
  have w4:=v4.dropAt 1 rfl
  have x4:=w4.dropAt 1 rfl
  have y4:=x4.dropAt 1 rfl
  have z4:=y4.dropAt 1 rfl
  have a5:=z4.dropAt 1 rfl
  have b5:=a5.dropAt 1 rfl
  exact ⟨rfl,(b5.dropAt 1 rfl)⟩
 refine kT<|seqE<|blockE<|seqE ?_
 obtain ⟨h0,i1,j1,u1,r0,v1,s6⟩:=OwnT.elem hOzs (i:Int)
 rw [Int.toNat_natCast] at u1 r0 v1
 have hxr:=hzr h0 (List.mem_of_getElem? u1)
 have d5:¬((h0:Int)>=(n0:Int)):=by omega
 obtain ⟨d0,s0,t0,w1,k1,e5⟩:=RdT.elem t1 (i:Int)
 rw [Int.toNat_natCast] at w1
 obtain ⟨e0,u0,v0,n2,l1,f5⟩:=RdT.elem n1 h0
 refine drawE [21] [(1,⟨c0,2,none⟩, .slice azs nzs kzs),(4,⟨i1,j1+i*1,none⟩,I h0),(12,⟨s0,t0+0,none⟩,I d0.w),(12,⟨s0,t0+1,none⟩,I d0.h),(12,⟨s0,t0+2,none⟩,I d0.max_),(12,⟨s0,t0+3,none⟩, .slice d0.pix.a d0.pix.n d0.pix.k),(15,⟨c0,2,none⟩, .slice azs nzs kzs),(18,⟨i1,j1+i*1,none⟩,I h0),(20,⟨u0,v0+0,none⟩,I e0.w),(20,⟨u0,v0+1,none⟩,I e0.h),(20,⟨u0,v0+2,none⟩,I e0.max_),(20,⟨u0,v0+3,none⟩, .slice e0.pix.a e0.pix.n e0.pix.k)] [(true,[0,2,5,6]),(true,[1]),(true,[3]),(true,[4]),(true,[7,8]),(true,[9,10]),(true,[11]),(true,[13,14,16]),(true,[12]),(true,[15]),(true,[17]),(true,[18]),(true,[19]),(true,[20]),(false,[21]),(true,[22]),(true,[23])] rfl kr ⟨cI b0 4, .inr ((r0.up 2 rfl).cell b0 (k:=0) rfl), .inr ((k1.up 0 rfl).cell b0 (k:=0) rfl), .inr ((k1.up 0 rfl).cell b0 (k:=1) rfl), .inr ((k1.up 0 rfl).cell b0 (k:=2) rfl), .inr ((k1.up 0 rfl).cell b0 (k:=3) rfl),cI b0 4, .inr ((r0.up 2 rfl).cell b0 (k:=0) rfl), .inr ((l1.up 7 rfl).cell b0 (k:=0) rfl), .inr ((l1.up 7 rfl).cell b0 (k:=1) rfl), .inr ((l1.up 7 rfl).cell b0 (k:=2) rfl), .inr ((l1.up 7 rfl).cell b0 (k:=3) rfl),trivial⟩ ?_
 have g5:=b0.drew
 refine wU [0,2,5,6]<|wLd (.slice azs nzs kzs) 0 isAgg22<|wY (.pointer (some ⟨i1,j1+i*1,none⟩)) rfl (fun w _=>Y_idx (a:=azs) (i:=(i:Int)) (len:=nzs) (cap:=kzs) rfl runUnderlying22 sizeOf3 kr kr v1)<|wLd (I h0) 1 isAgg3<|wU [7,8]<|wFix 97 _ false (decide_eq_false d5)<|wU [9,10]<|wY (.pointer (some ⟨s0,t0,none⟩)) rfl (fun w _=>Y_idx (a:=g2) (i:=(i:Int)) (len:=g1) (cap:=i2) rfl runUnderlying25 sizeOf38 kr kr e5)<|wU [13,14,16]<|wY (.agg (encPlane d0).toArray) rfl (fun w hF=>Y_loadF rfl (isAgg38 w) (sizeOf38 w) kr rfl ⟨hF 2 _ _ rfl,hF 3 _ _ rfl,hF 4 _ _ rfl,hF 5 _ _ rfl,trivial⟩)<|wLd (.slice azs nzs kzs) 6 isAgg22 ?_
 refine wY (.pointer (some ⟨i1,j1+i*1,none⟩)) rfl (fun w _=>Y_idx (a:=azs) (i:=(i:Int)) (len:=nzs) (cap:=kzs) rfl runUnderlying22 sizeOf3 kr kr v1)<|wLd (I h0) 7 isAgg3<|wY (.pointer (some ⟨u0,v0,none⟩)) rfl (fun w _=>Y_idx (a:=z0) (i:=h0) (len:=n0) (cap:=a1) rfl runUnderlying25 sizeOf38 kr kr f5)<|wY (.agg (encPlane e0).toArray) rfl (fun w hF=>Y_loadF rfl (isAgg38 w) (sizeOf38 w) kr rfl ⟨hF 8 _ _ rfl,hF 9 _ _ rfl,hF 10 _ _ rfl,hF 11 _ _ rfl,trivial⟩)<|wO rfl<|gY<|cR call32 (r4_equal d0 e0 ⟨(RdT.flat ((k4 d0 (List.mem_of_getElem? w1)).pix.up 0 (by rfl)))⟩ ⟨(RdT.flat ((v2 e0 (List.mem_of_getElem? n2)).pix.up 7 (by rfl)))⟩ g5.flat) fun _ w0=>?_
 refine nilO ⟨⟨cI w0 4, .inr ((r0.up 2 rfl).cell w0 (k:=0) rfl),dI,dI,dI,dI,cI w0 4, .inr ((r0.up 2 rfl).cell w0 (k:=0) rfl),dI,dI,dI,dI,trivial⟩,?_⟩
 refine wU [22]<|wU [23]<|wN<|tN ?_
 have h5:d0.v=e0.v:=(by have h1:=map_at (f:=Plane.v) w1;rw [hvb,List.getElem?_map,u1] at h1;have h2:=plAt_map n2;rw [hva] at h2;rw [<-h2];exact (Option.some.inj h1).symm)
 exact cF _ (congrArg Bool.not (decide_eq_true h5))<|skipE<|bN<|tN<|rE<|pu1<|sAdd (i:Int) 1<|pu1<|nT<|⟨i+1,od,alA,w0,om⟩
end Go.Proofs.YtmlhcafjelkjfaaGreat
