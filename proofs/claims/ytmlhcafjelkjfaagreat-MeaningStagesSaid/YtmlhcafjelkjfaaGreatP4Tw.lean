import Derived.Test.YtmlhcafjelkjfaaGreatP4Ab
import Derived.WalkKit
import Derived.Deep.Quiet
import Derived.KernelRfl
import Derived.Laws.BytesString
import Derived.Laws.Shifts
import Derived.Laws.IdiomStrings
import Derived.Test.YtmlhcafjelkjfaaGreatProg
import Derived.Laws.IdiomRangeMap
import Derived.Test.YtmlhcafjelkjfaaGreatP4Rv
import Derived.Test.YtmlhcafjelkjfaaGreatP4Spoil
namespace Go.Proofs.YtmlhcafjelkjfaaGreat
open Go Go.E Go.Proofs.Tryz
set_option linter.all false
set_option maxRecDepth 100000
set_option maxHeartbeats 2000000
variable {W w:World} {H:Chunk} {F:List Chunk}
def intsV:JobV:=⟨[⟨2,2,9,[1,2,3,4]⟩],[⟨5,0,-1,false,0,0,0,0,[],[],[],0,0,[],[],0,[],0⟩],[1],0⟩
theorem in1:outV intsV=[⟨2,2,36,[1,3,4,10]⟩]:=by decide+kernel
theorem in2:(shpV intsV).2.2=0:=by decide+kernel
theorem in3:(meanV intsV).length=2:=by decide+kernel
theorem l18_ints {F:List Chunk} (hS:Sat W w F):
  Calls prog 86 #[] w fun e w'=>∃(q:Job) (G:Chunk),e= .returned (.agg (encJob q).toArray)/\Job.Ok [G] q/\q.v=intsV/\(q.inputs.n=1/\q.stages.n=1/\q.outputs.n=1)/\Sat W w' (G::F):=by
 refine callsA 8 func86 rfl<|sR<|sAlloc hS zeroValue28 fun _ _ f0=>zS<|sBS f0 #[I 1,I 2,I 3,I 4] runUnderlying22 sizeOf3 zeroValue3 fun a0 _ g0=>pu1<|sBS g0 #[I 2,I 2,I 9, .slice (At a0 0) 4 4] runUnderlying25 sizeOf38 zeroValue38 fun b0 _ h0=>pu1<|sBS h0 (encStage {zStage with kind:=5,b:=-1}).toArray runUnderlying26 sizeOf53 zeroValue53 fun c0 _ i0=>sBS i0 #[I 1] runUnderlying22 sizeOf3 zeroValue3 fun d0 _ j0=>pu1 ?_
 refine sT j0 4 0 (.agg #[.slice (At b0 0) 1 1, .slice (At c0 0) 1 1, .slice (At d0 0) 1 1,I 0]) [.slice (At b0 0) 1 1, .slice (At c0 0) 1 1, .slice (At d0 0) 1 1,I 0] #[.slice (At b0 0) 1 1, .slice (At c0 0) 1 1, .slice (At d0 0) 1 1,I 0] sizeOf28 fun _ e0=>zE<|retN (vs:=[.agg #[.slice (At b0 0) 1 1, .slice (At c0 0) 1 1, .slice (At d0 0) 1 1,I 0]]) rfl (.cons (.cell _ _ _ _ kr (lvA e0 4 0 [.slice (At b0 0) 1 1, .slice (At c0 0) 1 1, .slice (At d0 0) 1 1,I 0] (isAgg28 _) (sizeOf28 _) rfl rfl rfl)) .nil) ?_
 have k0:=((e0.picks [1,2]).dropAt 4 rfl)
 have l0:Sat W _ (([(b0, .cells #[I 2,I 2,I 9, .slice (At a0 0) 4 4] 38 (0,0))]++[(c0, .cells (encStage {zStage with kind:=5,b:=-1}).toArray 53 (0,0))]++[(d0, .cells #[I 1] 3 (0,0))]++[(a0, .cells #[I 1,I 2,I 3,I 4] 3 (0,0))])::F):=Sat.perm (show Sat W _ ([(b0, .cells #[I 2,I 2,I 9, .slice (At a0 0) 4 4] 38 (0,0))]::[(c0, .cells (encStage {zStage with kind:=5,b:=-1}).toArray 53 (0,0))]::[(d0, .cells #[I 1] 3 (0,0))]::[(a0, .cells #[I 1,I 2,I 3,I 4] 3 (0,0))]::F) from k0) (by simp)
 refine ⟨(⟨⟨(At b0 0),1,1,[(⟨2,2,9,⟨(At a0 0),4,4,[1,2,3,4]⟩⟩:Plane)]⟩,⟨(At c0 0),1,1,[(⟨5,0,-1,false,0,0,0,0,⟨none,0,0,[]⟩,⟨none,0,0,[]⟩,⟨none,0,0,[]⟩,0,0,⟨none,0,0,[]⟩,⟨none,0,0,[]⟩,0,⟨none,0,0,[]⟩,0⟩:Stage)]⟩,⟨(At d0 0),1,1,[1]⟩,0⟩:Job),([(b0, .cells #[I 2,I 2,I 9, .slice (At a0 0) 4 4] 38 (0,0))]++[(c0, .cells (encStage {zStage with kind:=5,b:=-1}).toArray 53 (0,0))]++[(d0, .cells #[I 1] 3 (0,0))]++[(a0, .cells #[I 1,I 2,I 3,I 4] 3 (0,0))]),rfl,⟨((RdT.blk (cs:=[[(b0, .cells #[I 2,I 2,I 9, .slice (At a0 0) 4 4] 38 (0,0))]]) (enc:=encPlane) (sz:=4) (xs:=[(⟨2,2,9,⟨(At a0 0),4,4,[1,2,3,4]⟩⟩:Plane)]) fR 1 0 rfl rfl rfl om)).of_mem mS,?_,((RdT.blk (cs:=[[(c0, .cells (encStage {zStage with kind:=5,b:=-1}).toArray 53 (0,0))]]) (enc:=encStage) (sz:=18) (xs:=[(⟨5,0,-1,false,0,0,0,0,⟨none,0,0,[]⟩,⟨none,0,0,[]⟩,⟨none,0,0,[]⟩,0,0,⟨none,0,0,[]⟩,⟨none,0,0,[]⟩,0,⟨none,0,0,[]⟩,0⟩:Stage)]) fR 1 0 rfl rfl rfl om)).of_mem mS,?_,((RdT.blk (cs:=[[(d0, .cells #[I 1] 3 (0,0))]]) (enc:=Go.E.encI) (sz:=1) (xs:=[1]) fR 1 0 rfl rfl rfl om)).of_mem mS⟩,by rfl,⟨rfl,rfl,rfl⟩,l0⟩
 ·intro z hz;rw [List.mem_singleton.1 hz];exact ⟨((RdT.blk (cs:=[[(a0, .cells #[I 1,I 2,I 3,I 4] 3 (0,0))]]) (enc:=Go.E.encI) (sz:=1) (xs:=[1,2,3,4]) fR 4 0 rfl rfl rfl om)).of_mem mS⟩
 ·intro z hz;rw [List.mem_singleton.1 hz];exact ⟨RdT.nil (enc:=Go.E.encI) (sz:=1) fR _,RdT.nil (enc:=Go.E.encI) (sz:=1) fR _,RdT.nil (enc:=Go.E.encI) (sz:=1) fR _,RdT.nil (enc:=encTap) (sz:=2) fR _,(fun z hz=>by cases hz),RdT.nil (enc:=encTap) (sz:=2) fR _,(fun z hz=>by cases hz),RdT.nil (enc:=encPOp) (sz:=2) fR _⟩
theorem l18_sane (hS:Sat W w (H::F)):
  Ro prog 39 #[] (.bool true) W w (H::F):=by
 refine callsA 48 func39 rfl<|sR<|pu1<|zS<|cX call86 (l18_ints hS) ?_
 rintro _ _ ⟨o0,_,rfl,p0,b0,⟨_,_,_⟩,q0⟩
 refine cX call36 (p18_outputs o0 (p0.of_mem (mem_flat1 0 (by rfl))) (od) q0.flat) ?_
 rintro _ _ ⟨_,r0,_,s0,j0,_,rfl,c0,g0,d0,t0⟩
 have u0:=t0.unflat1
 have hn_az_18:=c0.len;have hl_az_18:=c0.le
 have hz_c_14:j0=0:=by have h:=congrArg Prod.snd d0;dsimp only at h;rw [h,b0,in2]
 have hy_c_14:s0.length=1:=by have h:=congrArg List.length (congrArg Prod.fst d0);rw [List.length_map] at h;rw [h,b0];dsimp only;rw [in1];rfl
 refine pu5<|zS<|cX call86 (l18_ints u0) ?_
 rintro _ _ ⟨v0,_,rfl,w0,k0,⟨_,_,_⟩,x0⟩
 refine cX call35 (p18_of v0 (w0.of_mem (mem_flat1 0 (by rfl))) (od) x0.flat) ?_
 rintro _ _ ⟨_,y0,_,z0,l0,_,rfl,m0,_,n0,a1⟩
 have e0:=a1.unflat1
 have hn_az_40:=m0.len;have hl_az_40:=m0.le
 have hz_c_36:l0=0:=by have h:=congrArg Prod.snd n0;dsimp only at h;rw [h,k0,in2]
 have hy_c_36:z0.length=2:=by have h:=congrArg List.length (congrArg Prod.fst n0);rw [List.length_map] at h;rw [h,k0];dsimp only;exact in3
 refine pu5<|zS<|pu3 ?_
 have b1:(j0:Int)=0:=by omega
 refine sFix 17 _ true (beq_iff_eq.2 b1)<|pu5 ?_
 have c1:((r0:Int):Int)=1:=by omega
 refine sFix 22 _ true (beq_iff_eq.2 c1)<|pu1<|gY<|sIdx c0 0 runUnderlying25 sizeOf38 fun a0 _ _ h0 d1=>?_
 have hxv:a0.v=⟨2,2,36,[1,3,4,10]⟩:=by have h:=map_at (f:=Plane.v) h0;have h2:=congrArg Prod.fst d0;dsimp only at h2;rw [h2,b0,in1] at h;exact (Option.some.inj h).symm
 have hxp:a0.pix.l=[1,3,4,10]:=congrArg PlaneV.pix hxv;have hxn:a0.pix.n=4:=by have h:=(g0 a0 (List.mem_of_getElem? h0)).pix.len;rw [hxp] at h;exact h.symm
 refine pu1<|gY<|sLp e0 (d1.up 2 rfl) 3 (.slice a0.pix.a a0.pix.n a0.pix.k) (isAgg22 _)<|pu4 ?_
 have e1:((a0.pix.n:Int):Int)=4:=by omega
 refine sFix 30 _ true (beq_iff_eq.2 e1)<|pu1<|gY<|sIdx c0 0 runUnderlying25 sizeOf38 fun f1 _ _ f0 g1=>?_
 obtain rfl:a0=f1:=Option.some.inj (h0.symm.trans f0)
 have hxv:a0.v=⟨2,2,36,[1,3,4,10]⟩:=by have h:=map_at (f:=Plane.v) f0;have h2:=congrArg Prod.fst d0;dsimp only at h2;rw [h2,b0,in1] at h;exact (Option.some.inj h).symm
 have hxp:a0.pix.l=[1,3,4,10]:=congrArg PlaneV.pix hxv;have hxn:a0.pix.n=4:=by have h:=(g0 a0 (List.mem_of_getElem? f0)).pix.len;rw [hxp] at h;exact h.symm
 refine pu1<|gY<|sLp e0 (g1.up 2 rfl) 3 (.slice a0.pix.a a0.pix.n a0.pix.k) (isAgg22 _)<|gY<|sIdx (g0 a0 (List.mem_of_getElem? f0)).pix 3 runUnderlying22 sizeOf3 fun i0 _ _ h1 i1=>?_
 have hx10:i0=10:=by have h:=h1;rw [hxp] at h;exact (Option.some.inj h).symm
 refine gY<|sLp e0 (i1.up 2 rfl) 0 (I i0) (isAgg3 _)<|pu3 ?_
 have j1:(i0:Int)=10:=by omega
 refine sFix 39 _ true (beq_iff_eq.2 j1)<|pu4 ?_
 have k1:(l0:Int)=0:=by omega
 exact sFix 43 _ true (beq_iff_eq.2 k1)<|pu5<|zE<|retT [.bool (((y0:Int):Int)==2)]<|⟨rB (by rw [Bool.eq_iff_iff];simp;omega),(e0.drops [0,0,0,0])⟩
section
variable {ni:Int} {S:List StageV} {s:StageV} (hn:0<=ni) (hs:∀t∈S,∀x∈srcs t,0<=x/\x<ni+S.length)
include hn hs
end
theorem kern_any {q:StageV} {s t u:Shape} (h:¬twoP q):kernelV q s t=kernelV q s u:=by
  unfold twoP at h
  have hd:decide (q.kind=6/\¬q.b=-1)=false:=decide_eq_false h
  have hp:∀a b c,pwCode q.ops false a b c=pwCode q.ops false a 1 c:=fun a b c=>rfl
  unfold kernelV
  rw [hd,hp s.max_ t.max_,hp s.max_ u.max_]
  simp only [h,false_and,if_false]
theorem of_any {q:StageV} {s t u:Shape} (h:¬twoP q):ofV q s t=ofV q s u:=by
  unfold ofV
  rw [kern_any (t:=t) (u:=u) h]
  simp only [h,not_false_eq_true,true_or]
theorem pwT_any {p q u:PlaneV} {l:List POp} {out:Int} {r:Rct}:pwT p q false l out r=pwT p u false l out r:=by
  unfold pwT
  rw [show pwCode l false p.max_ q.max_ out=pwCode l false p.max_ u.max_ out from rfl]
  have hx:pwX p q false l out=pwX p u false l out:=rfl
  rw [hx]
  simp only [Bool.false_eq_true,false_implies,and_true,true_and]
theorem stgT_any {s:StageV} {p q u:PlaneV} (h:¬twoP s):stgT s p q=stgT s p u:=by
  unfold stgT
  rw [of_any (t:=shpOf q) (u:=shpOf u) h,decide_eq_false h,pwT_any (q:=q) (u:=u)]
  simp only [h,false_implies,and_true]
theorem stgT_if {s:StageV} {p q:PlaneV}:stgT s p (if twoP s then q else zPl)=stgT s p q:=by
  by_cases h:twoP s
  · rw [if_pos h]
  · rw [if_neg h];exact stgT_any h
theorem planeB_S {q:Plane} (h0:planeOK q.v=true) (h1:planeB q):planeS 0 q:=by
  have e:∀x,numB x->numS 0 x:=fun x hx=>by unfold numB at hx;unfold numS;omega
  have h:=(plane_sz h0).1;unfold sizeP at h;simp only [Plane.v] at h
  exact ⟨⟨by unfold numS;omega,by unfold numS;omega,by unfold numS;omega⟩,by have:=h1.1;omega,fun y hy=>e _ (h1.2 y hy)⟩
theorem l18_stages (W w : World) (H : Chunk) (F : List Chunk) (t : Option Addr) (nt kt : Nat) (xt : List Int) (ht : RdT Go.E.encI 1 [H] t nt kt xt) (hS : Sat W w (H :: F)) :
  Calls prog 8 #[.slice t nt kt] w fun e w' => e = .returned (.bool true) /\ Sat W w' (H :: F) := by
 have hlt := ht.le
 refine callsA 69 func8 rfl <| sR <| pu1 <| zS <| pu1 <| cX call11 (tape_new t nt kt hS) ?_
 rintro _ _ ⟨e0, rfl, g1⟩
 have r3 := ht.le
 refine pu1 <| zQ <| pu1 <| nT <| blockE <| loopA (γ := Nat × Int) (fun ⟨i, iti⟩ => [(3, Pt e0 0), (4, I (i : Int))]) (fun ⟨i, iti⟩ w => Sat W w ([(e0, .cells #[.slice t nt kt, I iti] 81 (0, 0))] :: H :: F) /\ i <= 4 /\ (0 <= iti /\ iti <= nt)) (fun ⟨i, iti⟩ => 4 - i) (0, 0) ⟨g1, om, om⟩ ?_
 rintro ⟨i, iti⟩ ρ _ ⟨e1, hi, hiti⟩
 refine seqE <| sR <| pu2 <| nT <| cD ((i : Int) < 4) (fun h1 => ?_) (fun h1 => ?_)
 rotate_left
 ·exact exitE <| xB <| tN <| sR <| cR call39 (l18_sane  e1.flat) fun _ i1 => pu1 <| zE <| retT [.bool true] <| ⟨rfl, (i1.dropAt 0 rfl)⟩
 refine kT <| seqE <| blockE <| sR <| pu1 <| cX call22 (tg_plane (RdT.flat (ht.up 0 (by rfl))) om e1.flat1 ) ?_
 rintro _ _ ⟨a0, j0, rfl, k0, u0, _, _, k1⟩
 refine sAlloc (Sat.unflat2 k1) zeroValue38 fun m0 _ m1 => ?_
 refine sT m1 0 0 (.agg (encPlane a0).toArray) (encPlane a0) (encPlane a0).toArray sizeOf38 fun _ v0 => zS <| pu2 <| sL v0 0 0 (I a0.w) (isAgg3 _) <| pu1 <| sL v0 0 1 (I a0.h) (isAgg3 _) ?_
 have n1 := (v0.pick 1 rfl)
 refine cX call23 (tg_sized (RdT.flat (ht.up 2 (by rfl))) om n1.flat1 a0.w a0.h om) ?_
 rintro _ _ ⟨d0, l0, rfl, w0, _, _, _, o1⟩
 refine sAlloc (Sat.unflat2 o1) zeroValue38 fun n0 _ r1 => ?_
 refine sT r1 0 0 (.agg (encPlane d0).toArray) (encPlane d0) (encPlane d0).toArray sizeOf38 fun _ f1 => zS <| pu1 <| lA f1 3 0 4 (isAgg38 _) (sizeOf38 _) <| cR call25 (r17_of a0 ⟨(RdT.flat (k0.pix.up 4 (by rfl)))⟩ f1.flat) fun _ t1 => ?_
 have g4 : szP (⟨a0.w, a0.h, a0.max_⟩ : Shape) := by have h := (plane_sz u0.2.2.1).1; unfold sizeP at h; simp only [Plane.v] at h; unfold szP; dsimp only; omega
 have v1 := (t1.pick 1 rfl)
 refine cX call24 (tg_stage (RdT.flat (ht.up 4 (by rfl))) om v1.flat1 0 (⟨a0.w, a0.h, a0.max_⟩ : Shape) 1 ‹_› (by unfold numB; omega)) ?_
 rintro _ _ ⟨c0, f0, rfl, b0, w1, _, x1, _, y1⟩
 refine sAlloc (Sat.unflat2 y1) zeroValue53 fun o0 _ a2 => ?_
 refine sT a2 0 0 (.agg (encStage c0).toArray) (encStage c0) (encStage c0).toArray sizeOf53 fun _ g0 => nT <| cutA (γ := Stage × Plane × Plane × Chunk × Chunk × Chunk × Int) (fun ⟨s1, p1, u1, Jc, Pc, Uc, it1⟩ => [(3, Pt e0 0), (4, I (i : Int)), (5, Pt m0 0), (6, Pt n0 0), (7, Pt o0 0)]) (fun ⟨s1, p1, u1, Jc, Pc, Uc, it1⟩ w => Sat W w ([(e0, .cells #[.slice t nt kt, I it1] 81 (0, 0))] :: Jc :: Pc :: Uc :: [(o0, .cells (encStage s1).toArray 53 (0, 0))] :: [(m0, .cells (encPlane p1).toArray 38 (0, 0))] :: [(n0, .cells (encPlane u1).toArray 38 (0, 0))] :: H :: F) /\ (0 <= it1 /\ it1 <= nt) /\ Stage.Ok [Jc] s1 /\ Plane.Ok [Pc] p1 /\ Plane.Ok [Uc] u1) ?_ ?_
 rotate_left
 ·rintro ⟨s1, p1, u1, Jc, Pc, Uc, it1⟩ ρ _ ⟨p0, hit1, hs1, hp1, hu1⟩
  refine sR <| lA p0 4 0 18 (isAgg53 _) (sizeOf53 _) <| lA p0 5 0 4 (isAgg38 _) (sizeOf38 _) <| lA p0 6 0 4 (isAgg38 _) (sizeOf38 _) <| cX call40 (p18_stage s1 p1 u1 (hs1.of_mem (mem_flat1 1 (by rfl))) ⟨(RdT.flat (hp1.pix.up 2 (by rfl)))⟩ ⟨(RdT.flat (hu1.pix.up 3 (by rfl)))⟩ p0.flat) ?_
  rintro _ _ ⟨h0, x0, _, rfl, y0, b2, c2⟩
  have d2 := c2.unflat1
  have hn_q_108_pix := y0.pix.len; have hl_q_108_pix := y0.pix.le
  refine pu3 <| sAlloc d2 zeroValue38 fun _ _ e2 => ?_
  refine sT e2 0 0 (.agg (encPlane h0).toArray) (encPlane h0) (encPlane h0).toArray sizeOf38 fun _ q0 => pu1 <| zS <| lA q0 6 0 18 (isAgg53 _) (sizeOf53 _) <| lA q0 7 0 4 (isAgg38 _) (sizeOf38 _) <| lA q0 8 0 4 (isAgg38 _) (sizeOf38 _) <| cX call41 (r18_stage s1 p1 u1 (hs1.of_mem (mem_flat1 3 (by rfl))) ⟨(RdT.flat (hp1.pix.up 4 (by rfl)))⟩ ⟨(RdT.flat (hu1.pix.up 5 (by rfl)))⟩ q0.flat) ?_
  rintro _ _ ⟨i0, z0, _, rfl, a1, f2, g2⟩
  have h2 := g2.unflat1
  have hn_q_121_pix := a1.pix.len; have hl_q_121_pix := a1.pix.le
  have hs9_126 : (h0.v, x0) = (i0.v, z0) := b2.trans (stgT_if.trans f2.symm)
  have hc_hs9_126 : x0 = z0 := congrArg Prod.snd hs9_126
  refine pu3 <| sAlloc h2 zeroValue38 fun _ _ i2 => ?_
  refine sT i2 0 0 (.agg (encPlane i0).toArray) (encPlane i0) (encPlane i0).toArray sizeOf38 fun _ b1 => pu1 <| zS <| lA b1 2 0 4 (isAgg38 _) (sizeOf38 _) <| lA b1 0 0 4 (isAgg38 _) (sizeOf38 _) <| cR call32 (r4_equal h0 i0 ⟨(RdT.flat (y0.pix.up 3 (by rfl)))⟩ ⟨(RdT.flat (a1.pix.up 1 (by rfl)))⟩ b1.flat) fun _ j2 => pu2 ?_
  have k2 : h0.v = i0.v := (congrArg Prod.fst hs9_126)
  refine sFix 63 _ false (congrArg Bool.not (decide_eq_true k2)) <| pu4 <| nT ?_
  have l2 : (x0 : Int) = z0 := by omega
  exact cF _ (bne_eq_false_iff_eq.2 l2) <| skipE <| bN <| tN <| rE <| pu1 <| sAdd (i : Int) 1 <| pu1 <| nT <| ⟨(i + 1, it1), od, alA, (j2.drops [0, 0, 0, 0, 1, 1, 1, 1, 1, 1]), om, om⟩
 refine sR <| pu1 <| nT <| blockE <| sR <| pu2 <| nT <| cE (i : Int) 1 (fun n2 => ?_) (fun n2 => ?_)
 ·refine rE <| pu1 <| lA g0 0 0 18 (isAgg53 _) (sizeOf53 _) ?_
  have o2 := (g0.pick 1 rfl)
  have p2 := (o2.picks [2, 1])
  refine cX call28 (tg_spoilStage (RdT.flat (ht.up 5 (by rfl))) om p2.flat2 c0 ⟨b0.weights, b0.row, b0.col, b0.x, b0.xD, b0.y, b0.yD, b0.ops⟩ 0 om w1) ?_
  rintro _ _ ⟨r0, c1, rfl, q2, _, d1, _, r2⟩
  have s2 := r2.unflat3
  have t2 := (s2.picks [2, 2, 2])
  have u2 : Sat W _ ([(e0, .cells #[.slice t nt kt, I d1] 81 (0, 0))] :: (c1 ++ f0) :: [(o0, .cells (encStage c0).toArray 53 (0, 0))] :: [(n0, .cells (encPlane d0).toArray 38 (0, 0))] :: l0 :: [(m0, .cells (encPlane a0).toArray 38 (0, 0))] :: j0 :: H :: F) := Sat.perm (show Sat W _ ([(e0, .cells #[.slice t nt kt, I d1] 81 (0, 0))] :: c1 :: f0 :: [(o0, .cells (encStage c0).toArray 53 (0, 0))] :: [(n0, .cells (encPlane d0).toArray 38 (0, 0))] :: l0 :: [(m0, .cells (encPlane a0).toArray 38 (0, 0))] :: j0 :: H :: F) from t2) (by simp [Value.cells])
  exact sT u2 2 0 (.agg (encStage r0).toArray) (encStage r0) (encStage r0).toArray sizeOf53 fun _ v2 => nB <| ⟨(r0, a0, d0, (c1 ++ f0), j0, l0, d1), alA, (v2.picks [5, 3, 5, 6, 5, 5]), om, q2, k0, w0⟩
 refine sR <| pu2 <| nT <| cE (i : Int) 2 (fun x2 => ?_) (fun x2 => ?_)
 ·refine rE <| pu1 ?_
  have y2 := (g0.pick 1 rfl)
  refine cX call22 (tg_plane (RdT.flat (ht.up 6 (by rfl))) om y2.flat1 ) ?_
  rintro _ _ ⟨s0, z2, rfl, a3, _, b3, _, c3⟩
  exact sT (Sat.unflat2 c3) 4 0 (.agg (encPlane s0).toArray) (encPlane s0) (encPlane s0).toArray sizeOf38 fun _ e3 => nB <| ⟨(c0, a0, s0, f0, j0, z2, b3), alA, ((e3.picks [6, 3, 3, 7, 5, 5]).dropAt 7 rfl), om, b0, k0, a3⟩
 refine sR <| pu2 <| nT <| cE (i : Int) 3 (fun g3 => ?_) (fun g3 => ?_)
 rotate_left
 ·exact skipE <| bN <| tN <| ⟨(c0, a0, d0, f0, j0, l0, x1), alA, (g0.picks [5, 1, 5, 6, 5, 5]), om, b0, k0, w0⟩
 refine rE <| pu1 <| lA g0 5 0 4 (isAgg38 _) (sizeOf38 _) ?_
 have i3 := (g0.pick 1 rfl)
 refine cX call29 (tg_spoilPlane (RdT.flat (ht.up 6 (by rfl))) om i3.flat1 a0 ⟨(RdT.flat (k0.pix.up 5 (by rfl)))⟩ 0 om (planeB_S u0.2.2.1 u0.2.2.2)) ?_
 rintro _ _ ⟨t0, j3, rfl, k3, _, l3, _, m3⟩
 exact sT (Sat.unflat2 m3) 6 0 (.agg (encPlane t0).toArray) (encPlane t0) (encPlane t0).toArray sizeOf38 fun _ o3 => nB <| ⟨(c0, t0, d0, f0, j3, l0, l3), alA, ((o3.picks [6, 3, 6, 4, 5, 5]).dropAt 7 rfl), om, b0, k3, w0⟩
end Go.Proofs.YtmlhcafjelkjfaaGreat
