import Derived.Test.YtmlhcafjelkjfaaGreatP3Ab
import Derived.WalkKit
import Derived.Deep.Quiet
import Derived.KernelRfl
import Derived.Laws.BytesString
import Derived.Laws.Shifts
import Derived.Laws.IdiomStrings
import Derived.Test.YtmlhcafjelkjfaaGreatProg
import Derived.Laws.IdiomRangeMap
import Derived.Test.YtmlhcafjelkjfaaGreatP3Rv
import Derived.Test.YtmlhcafjelkjfaaGreatP3SpoilJ
namespace Go.Proofs.YtmlhcafjelkjfaaGreat
open Go Go.E Go.Proofs.Tryz
set_option linter.all false
set_option maxRecDepth 100000
set_option maxHeartbeats 2000000
variable {W w:World} {H:Chunk} {F:List Chunk}
theorem l18_jobs (W w:World) (H:Chunk) (F:List Chunk) (t:Option Addr) (nt kt:Nat) (xt:List Int) (ht:RdT Go.E.encI 1 [H] t nt kt xt) (hS:Sat W w (H::F)):
  Calls prog 7 #[.slice t nt kt] w fun e w'=>e= .returned (.bool true)/\Sat W w' (H::F):=by
 have hlt:=ht.le
 refine callsA 66 func7 rfl ?_
 refine sR<|pu1<|zS<|pu1 ?_
 refine cX call11 (tape_new t nt kt hS) ?_
 rintro _ _ ⟨j0,rfl,v3⟩
 have b8:=ht.le
 refine pu1<|zS<|pu1 ?_
 refine cX call12 (tg_job (RdT.flat (ht.up 0 (by rfl))) om v3.flat1 4 om) ?_
 rintro _ _ ⟨a0,g0,rfl,d0,q0,_,_,_,_,w3⟩
 have x3:=w3.unflat2
 have h8:a0.inputs.n<=1000000/\a0.stages.n<=1000000/\a0.outputs.n<=1000000:=by have h1:=(d0).inputs.len;have h2:=(d0).stages.len;have h3:=(d0).outputs.len;have h4:=((jobB_S q0)).1.1;have h5:=((jobB_S q0)).2.1.1;have h6:=((jobB_S q0)).2.2.1.1;omega
 refine sAlloc x3 zeroValue28 ?_
 intro k0 _ y3
 refine sTl y3 0 (encJob a0) sizeOf28 ?_
 intro _ z1
 refine zQ<|pu1<|nT<|blockE ?_
 refine loopN 5 ?_
 refine roundS ?_
 refine seqE<|sR<|pu2<|nT<|cTt<|kT<|seqE<|blockE<|sR ?_
 refine lA z1 0 0 4 (isAgg28 _) (sizeOf28 _) ?_
 refine cX call35 (p18_of a0 (d0.of_mem (mem_flat1 2 (by rfl))) (od) z1.flat) ?_
 rintro _ _ ⟨z3,a4,b4,y0,a2,l0,rfl,z0,c4,b2,d4⟩
 have c2:=d4.unflat1
 have hn_az_30:=z0.len;have hl_az_30:=z0.le
 have hc9_35:a2=(shpV a0.v).2.2:=congrArg Prod.snd b2;have hv9_36:y0.map Plane.v=meanV a0.v:=congrArg Prod.fst b2
 refine pu5<|zS ?_
 refine lA c2 1 0 4 (isAgg28 _) (sizeOf28 _) ?_
 refine cX call13 (r18_of a0 (d0.of_mem (mem_flat1 3 (by rfl))) (od) c2.flat) ?_
 rintro _ _ ⟨e4,f4,g4,a1,d2,m0,rfl,b1,i4,e2,j4⟩
 have f2:=j4.unflat1
 have hn_az_45:=b1.len;have hl_az_45:=b1.le
 have hc9_50:d2=(shpV a0.v).2.2:=congrArg Prod.snd e2;have hv9_51:a1.map Plane.v=meanV a0.v:=congrArg Prod.fst e2
 refine pu5<|zS ?_
 refine lA f2 2 0 4 (isAgg28 _) (sizeOf28 _) ?_
 refine cX call36 (p18_outputs a0 (d0.of_mem (mem_flat1 4 (by rfl))) (od) f2.flat) ?_
 rintro _ _ ⟨k4,l4,m4,c1,g2,n0,rfl,d1,n4,i2,o4⟩
 have j2:=o4.unflat1
 have hn_az_60:=d1.len;have hl_az_60:=d1.le
 have hc9_65:g2=(shpV a0.v).2.2:=congrArg Prod.snd i2;have hv9_66:c1.map Plane.v=outV a0.v:=congrArg Prod.fst i2
 refine pu5<|zS ?_
 refine lA j2 3 0 4 (isAgg28 _) (sizeOf28 _) ?_
 refine cX call37 (r18_outputs a0 (d0.of_mem (mem_flat1 5 (by rfl))) (od) j2.flat) ?_
 rintro _ _ ⟨p4,q4,r4,e1,k2,o0,rfl,f1,s4,l2,t4⟩
 have u4:=t4.unflat1
 have hn_az_75:=f1.len;have hl_az_75:=f1.le
 have hc9_80:k2=(shpV a0.v).2.2:=congrArg Prod.snd l2;have hv9_81:e1.map Plane.v=outV a0.v:=congrArg Prod.fst l2
 refine pu5<|zQ<|pu2 ?_
 refine cR call20 (r18_same z3 a4 b4 y0 e4 f4 g4 a1 (RdT.flat (z0.up 3 (by rfl))) (fun z hz=>(c4 z hz).of_mem (mem_flat1 3 (by rfl))) (RdT.flat (b1.up 2 (by rfl))) (fun z hz=>(i4 z hz).of_mem (mem_flat1 2 (by rfl))) u4.flat) ?_
 intro _ v4
 refine pu2 ?_
 have w4:y0.map Plane.v=a1.map Plane.v:=(hv9_36.trans hv9_51.symm)
 refine sFix 46 _ false (congrArg Bool.not (decide_eq_true w4)) ?_
 refine pu5 ?_
 have x4:(a2:Int)=d2:=by omega
 refine sFix 51 _ false (bne_eq_false_iff_eq.2 x4) ?_
 refine pu2<|gY ?_
 refine cR call20 (r18_same k4 l4 m4 c1 p4 q4 r4 e1 (RdT.flat (d1.up 1 (by rfl))) (fun z hz=>(n4 z hz).of_mem (mem_flat1 1 (by rfl))) (RdT.flat (f1.up 0 (by rfl))) (fun z hz=>(s4 z hz).of_mem (mem_flat1 0 (by rfl))) v4.flat) ?_
 intro _ m2
 refine pu3 ?_
 have y4:c1.map Plane.v=e1.map Plane.v:=(hv9_66.trans hv9_81.symm)
 refine sFix 57 _ false (congrArg Bool.not (decide_eq_true y4)) ?_
 refine pu4<|nT ?_
 have z4:(g2:Int)=k2:=by omega
 refine cF _ (bne_eq_false_iff_eq.2 z4) ?_
 refine kT<|rE<|pu1 ?_
 refine lA m2 4 0 4 (isAgg28 _) (sizeOf28 _) ?_
 have a5:=(m2.pick 5 rfl)
 have b5:=(a5.picks [6,1])
 refine cX call38 (tg_spoilJob (RdT.flat (ht.up 5 (by rfl))) om b5.flat2 a0 ⟨d0.inputs,d0.inputsD,d0.stages,d0.stagesD,d0.outputs⟩ 0 om (jobB_S q0)) ?_
 rintro _ _ ⟨b0,h0,rfl,e0,r0,n2,_,c5⟩
 have d5:=c5.unflat3
 have e5:=(d5.picks [2,2,2])
 have f5:Sat W _ ([(j0, .cells #[.slice t nt kt,I n2] 81 (0,0))]::(h0++g0)::o0::n0::m0::l0::[(k0, .cells (encJob a0).toArray 28 (0,0))]::H::F):=Sat.perm (show Sat W _ ([(j0, .cells #[.slice t nt kt,I n2] 81 (0,0))]::h0::g0::o0::n0::m0::l0::[(k0, .cells (encJob a0).toArray 28 (0,0))]::H::F) from e5) (by simp [Value.cells])
 have g5:Job.Ok [(h0++g0)] a0:=d0.of_mem mS
 have s8:b0.inputs.n<=1000000/\b0.stages.n<=1000000/\b0.outputs.n<=1000000:=by have h1:=(e0).inputs.len;have h2:=(e0).stages.len;have h3:=(e0).outputs.len;have h4:=(r0).1.1;have h5:=(r0).2.1.1;have h6:=(r0).2.2.1.1;omega
 refine sTl f5 6 (encJob b0) sizeOf28 ?_
 intro _ o2
 refine nB<|rE<|pu3<|nT ?_
 refine roundS ?_
 refine seqE<|sR<|pu2<|nT<|cTt<|kT<|seqE<|blockE<|sR ?_
 refine lA o2 6 0 4 (isAgg28 _) (sizeOf28 _) ?_
 refine cX call35 (p18_of b0 (e0.of_mem (mem_flat1 1 (by rfl))) (od) o2.flat) ?_
 rintro _ _ ⟨i5,j5,k5,g1,p2,s0,rfl,i1,l5,q2,m5⟩
 have r2:=m5.unflat1
 have hn_az_117:=i1.len;have hl_az_117:=i1.le
 have hc9_122:p2=(shpV b0.v).2.2:=congrArg Prod.snd q2;have hv9_123:g1.map Plane.v=meanV b0.v:=congrArg Prod.fst q2
 refine pu5<|zS ?_
 refine lA r2 7 0 4 (isAgg28 _) (sizeOf28 _) ?_
 refine cX call13 (r18_of b0 (e0.of_mem (mem_flat1 2 (by rfl))) (od) r2.flat) ?_
 rintro _ _ ⟨n5,o5,p5,j1,s2,t0,rfl,k1,q5,t2,r5⟩
 have u2:=r5.unflat1
 have hn_az_132:=k1.len;have hl_az_132:=k1.le
 have hc9_137:s2=(shpV b0.v).2.2:=congrArg Prod.snd t2;have hv9_138:j1.map Plane.v=meanV b0.v:=congrArg Prod.fst t2
 refine pu5<|zS ?_
 refine lA u2 8 0 4 (isAgg28 _) (sizeOf28 _) ?_
 refine cX call36 (p18_outputs b0 (e0.of_mem (mem_flat1 3 (by rfl))) (od) u2.flat) ?_
 rintro _ _ ⟨s5,t5,u5,l1,v2,u0,rfl,m1,v5,w2,w5⟩
 have x2:=w5.unflat1
 have hn_az_147:=m1.len;have hl_az_147:=m1.le
 have hc9_152:v2=(shpV b0.v).2.2:=congrArg Prod.snd w2;have hv9_153:l1.map Plane.v=outV b0.v:=congrArg Prod.fst w2
 refine pu5<|zS ?_
 refine lA x2 9 0 4 (isAgg28 _) (sizeOf28 _) ?_
 refine cX call37 (r18_outputs b0 (e0.of_mem (mem_flat1 4 (by rfl))) (od) x2.flat) ?_
 rintro _ _ ⟨x5,y5,z5,n1,y2,v0,rfl,o1,a6,z2,b6⟩
 have c6:=b6.unflat1
 have hn_az_162:=o1.len;have hl_az_162:=o1.le
 have hc9_167:y2=(shpV b0.v).2.2:=congrArg Prod.snd z2;have hv9_168:n1.map Plane.v=outV b0.v:=congrArg Prod.fst z2
 refine pu5<|zQ<|pu2 ?_
 refine cR call20 (r18_same i5 j5 k5 g1 n5 o5 p5 j1 (RdT.flat (i1.up 3 (by rfl))) (fun z hz=>(l5 z hz).of_mem (mem_flat1 3 (by rfl))) (RdT.flat (k1.up 2 (by rfl))) (fun z hz=>(q5 z hz).of_mem (mem_flat1 2 (by rfl))) c6.flat) ?_
 intro _ d6
 refine pu2 ?_
 have e6:g1.map Plane.v=j1.map Plane.v:=(hv9_123.trans hv9_138.symm)
 refine sFix 46 _ false (congrArg Bool.not (decide_eq_true e6)) ?_
 refine pu5 ?_
 have f6:(p2:Int)=s2:=by omega
 refine sFix 51 _ false (bne_eq_false_iff_eq.2 f6) ?_
 refine pu2<|gY ?_
 refine cR call20 (r18_same s5 t5 u5 l1 x5 y5 z5 n1 (RdT.flat (m1.up 1 (by rfl))) (fun z hz=>(v5 z hz).of_mem (mem_flat1 1 (by rfl))) (RdT.flat (o1.up 0 (by rfl))) (fun z hz=>(a6 z hz).of_mem (mem_flat1 0 (by rfl))) d6.flat) ?_
 intro _ a3
 refine pu3 ?_
 have g6:l1.map Plane.v=n1.map Plane.v:=(hv9_153.trans hv9_168.symm)
 refine sFix 57 _ false (congrArg Bool.not (decide_eq_true g6)) ?_
 refine pu4<|nT ?_
 have i6:(v2:Int)=y2:=by omega
 refine cF _ (bne_eq_false_iff_eq.2 i6) ?_
 refine kT<|rE<|pu1 ?_
 refine lA a3 10 0 4 (isAgg28 _) (sizeOf28 _) ?_
 have j6:=(a3.pick 4 rfl)
 have k6:=(j6.picks [5,1])
 refine cX call38 (tg_spoilJob (RdT.flat (ht.up 9 (by rfl))) om k6.flat2 b0 ⟨e0.inputs,e0.inputsD,e0.stages,e0.stagesD,e0.outputs⟩ 1 om r0) ?_
 rintro _ _ ⟨c0,i0,rfl,f0,w0,b3,_,l6⟩
 have m6:=l6.unflat3
 have n6:=(m6.picks [2,2,2])
 have o6:Sat W _ ([(j0, .cells #[.slice t nt kt,I b3] 81 (0,0))]::(i0++(h0++g0))::v0::u0::t0::s0::o0::n0::m0::l0::[(k0, .cells (encJob b0).toArray 28 (0,0))]::H::F):=Sat.perm (show Sat W _ ([(j0, .cells #[.slice t nt kt,I b3] 81 (0,0))]::i0::(h0++g0)::v0::u0::t0::s0::o0::n0::m0::l0::[(k0, .cells (encJob b0).toArray 28 (0,0))]::H::F) from n6) (by simp [Value.cells])
 have p6:Job.Ok [(i0++(h0++g0))] a0:=g5.of_mem mS
 have q6:Job.Ok [(i0++(h0++g0))] b0:=e0.of_mem mS
 have c9:c0.inputs.n<=1000000/\c0.stages.n<=1000000/\c0.outputs.n<=1000000:=by have h1:=(f0).inputs.len;have h2:=(f0).stages.len;have h3:=(f0).outputs.len;have h4:=(w0).1.1;have h5:=(w0).2.1.1;have h6:=(w0).2.2.1.1;omega
 refine sTl o6 10 (encJob c0) sizeOf28 ?_
 intro _ c3
 refine nB<|rE<|pu3<|nT ?_
 refine roundS ?_
 refine seqE<|sR<|pu2<|nT<|cTt<|kT<|seqE<|blockE<|sR ?_
 refine lA c3 10 0 4 (isAgg28 _) (sizeOf28 _) ?_
 refine cX call35 (p18_of c0 (f0.of_mem (mem_flat1 1 (by rfl))) (od) c3.flat) ?_
 rintro _ _ ⟨r6,s6,t6,p1,d3,e3,rfl,q1,u6,f3,v6⟩
 have g3:=v6.unflat1
 have hn_az_205:=q1.len;have hl_az_205:=q1.le
 have hc9_210:d3=(shpV c0.v).2.2:=congrArg Prod.snd f3;have hv9_211:p1.map Plane.v=meanV c0.v:=congrArg Prod.fst f3
 refine pu5<|zS ?_
 refine lA g3 11 0 4 (isAgg28 _) (sizeOf28 _) ?_
 refine cX call13 (r18_of c0 (f0.of_mem (mem_flat1 2 (by rfl))) (od) g3.flat) ?_
 rintro _ _ ⟨w6,x6,y6,r1,i3,j3,rfl,s1,z6,k3,a7⟩
 have l3:=a7.unflat1
 have hn_az_220:=s1.len;have hl_az_220:=s1.le
 have hc9_225:i3=(shpV c0.v).2.2:=congrArg Prod.snd k3;have hv9_226:r1.map Plane.v=meanV c0.v:=congrArg Prod.fst k3
 refine pu5<|zS ?_
 refine lA l3 12 0 4 (isAgg28 _) (sizeOf28 _) ?_
 refine cX call36 (p18_outputs c0 (f0.of_mem (mem_flat1 3 (by rfl))) (od) l3.flat) ?_
 rintro _ _ ⟨b7,c7,d7,t1,m3,n3,rfl,u1,e7,o3,f7⟩
 have p3:=f7.unflat1
 have hn_az_235:=u1.len;have hl_az_235:=u1.le
 have hc9_240:m3=(shpV c0.v).2.2:=congrArg Prod.snd o3;have hv9_241:t1.map Plane.v=outV c0.v:=congrArg Prod.fst o3
 refine pu5<|zS ?_
 refine lA p3 13 0 4 (isAgg28 _) (sizeOf28 _) ?_
 refine cX call37 (r18_outputs c0 (f0.of_mem (mem_flat1 4 (by rfl))) (od) p3.flat) ?_
 rintro _ _ ⟨g7,h7,i7,v1,q3,r3,rfl,w1,j7,s3,k7⟩
 have l7:=k7.unflat1
 have hn_az_250:=w1.len;have hl_az_250:=w1.le
 have hc9_255:q3=(shpV c0.v).2.2:=congrArg Prod.snd s3;have hv9_256:v1.map Plane.v=outV c0.v:=congrArg Prod.fst s3
 refine pu5<|zQ<|pu2 ?_
 refine cR call20 (r18_same r6 s6 t6 p1 w6 x6 y6 r1 (RdT.flat (q1.up 3 (by rfl))) (fun z hz=>(u6 z hz).of_mem (mem_flat1 3 (by rfl))) (RdT.flat (s1.up 2 (by rfl))) (fun z hz=>(z6 z hz).of_mem (mem_flat1 2 (by rfl))) l7.flat) ?_
 intro _ m7
 refine pu2 ?_
 have n7:p1.map Plane.v=r1.map Plane.v:=(hv9_211.trans hv9_226.symm)
 refine sFix 46 _ false (congrArg Bool.not (decide_eq_true n7)) ?_
 refine pu5 ?_
 have o7:(d3:Int)=i3:=by omega
 refine sFix 51 _ false (bne_eq_false_iff_eq.2 o7) ?_
 refine pu2<|gY ?_
 refine cR call20 (r18_same b7 c7 d7 t1 g7 h7 i7 v1 (RdT.flat (u1.up 1 (by rfl))) (fun z hz=>(e7 z hz).of_mem (mem_flat1 1 (by rfl))) (RdT.flat (w1.up 0 (by rfl))) (fun z hz=>(j7 z hz).of_mem (mem_flat1 0 (by rfl))) m7.flat) ?_
 intro _ t3
 refine pu3 ?_
 have p7:t1.map Plane.v=v1.map Plane.v:=(hv9_241.trans hv9_256.symm)
 refine sFix 57 _ false (congrArg Bool.not (decide_eq_true p7)) ?_
 refine pu4<|nT ?_
 have q7:(m3:Int)=q3:=by omega
 refine cF _ (bne_eq_false_iff_eq.2 q7) ?_
 refine kT<|rE<|pu1 ?_
 refine lA t3 14 0 4 (isAgg28 _) (sizeOf28 _) ?_
 have r7:=(t3.pick 4 rfl)
 have s7:=(r7.picks [5,1])
 refine cX call38 (tg_spoilJob (RdT.flat (ht.up 13 (by rfl))) om s7.flat2 c0 ⟨f0.inputs,f0.inputsD,f0.stages,f0.stagesD,f0.outputs⟩ 2 om w0) ?_
 rintro _ _ ⟨x0,p0,rfl,x1,y1,u3,_,t7⟩
 have u7:=t7.unflat3
 have v7:=(u7.picks [2,2,2])
 have w7:Sat W _ ([(j0, .cells #[.slice t nt kt,I u3] 81 (0,0))]::(p0++(i0++(h0++g0)))::r3::n3::j3::e3::v0::u0::t0::s0::o0::n0::m0::l0::[(k0, .cells (encJob c0).toArray 28 (0,0))]::H::F):=Sat.perm (show Sat W _ ([(j0, .cells #[.slice t nt kt,I u3] 81 (0,0))]::p0::(i0++(h0++g0))::r3::n3::j3::e3::v0::u0::t0::s0::o0::n0::m0::l0::[(k0, .cells (encJob c0).toArray 28 (0,0))]::H::F) from v7) (by simp [Value.cells])
 have m9:Job.Ok [(p0++(i0++(h0++g0)))] a0:=p6.of_mem mS
 have n9:Job.Ok [(p0++(i0++(h0++g0)))] b0:=q6.of_mem mS
 have o9:Job.Ok [(p0++(i0++(h0++g0)))] c0:=f0.of_mem mS
 have p9:x0.inputs.n<=1000000/\x0.stages.n<=1000000/\x0.outputs.n<=1000000:=by have h1:=(x1).inputs.len;have h2:=(x1).stages.len;have h3:=(x1).outputs.len;have h4:=(y1).1.1;have h5:=(y1).2.1.1;have h6:=(y1).2.2.1.1;omega
 refine sTl w7 14 (encJob x0) sizeOf28 ?_
 intro _ x7
 refine nB<|rE<|pu3<|nT ?_
 refine roundS ?_
 refine seqE<|sR<|pu2<|nT<|cFf<|exitE<|xB<|tN<|sR ?_
 refine cR call39 (l18_sane x7.flat) ?_
 intro _ y7
 refine pu1<|zE<|retT [.bool true] ?_
 exact ⟨rfl,(y7.drops [0,0,0,0,0,0,0,0,0,0,0,0,0,0,0])⟩
end Go.Proofs.YtmlhcafjelkjfaaGreat
