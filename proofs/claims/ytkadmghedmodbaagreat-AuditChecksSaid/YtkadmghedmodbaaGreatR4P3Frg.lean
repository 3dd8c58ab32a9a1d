import Derived.Test.YtkadmghedmodbaaGreatR4P3Rk3
set_option linter.all false
namespace Go.Proofs.YtkadmghedmodbaaGreat
open Go Go.E Go.Proofs.Tryz
set_option linter.all false
set_option maxRecDepth 100000
set_option maxHeartbeats 2000000
variable {W w:World} {H:Chunk} {F:List Chunk}
theorem l31_forge {p:Nat} {a:Option Addr} {n k:Nat} {i:Int} {xs:List Int} (hR:RdT Go.E.encI 1 [H] a n k xs) (hi:0<=i/\i<=n) (hS:Sat W w ([(p, .cells #[.slice a n k,I i] 72 (0,0))]::H::F)) (al:Option Addr) (nl kl:Nat) (l:List Evt) (hl:RdT encEvt 7 [H] al nl kl l) (hlb:l.length<=100000):
  Calls prog 10 #[Pt p 0, .slice al nl kl] w fun e w'=>∃(az:Option Addr) (nz:Nat) (kz:Nat) (zs:List Evt) (C:Chunk),e= .returned (.slice az nz kz)/\(OwnT encEvt 63 7 az nz kz zs C)/\(zs.length<=l.length+1)/\∃i':Int,(0<=i'/\i'<=n)/\Sat W w' ([(p, .cells #[.slice a n k,I i'] 72 (0,0))]::C::H::F):=by
 have B0:=hl.ll
 have D0:=hR.le
 refine callsK 133 func10 rfl<|jCO 7 rfl<|sBK hS #[] 63 fun b1 _ c1=>pu1<|sApp (nb:=56) c1 (OwnT.blk (enc:=encEvt) (sz:=7) (b:=b1) (c:=#[]) (E:=63) (xs:=[]) fR 0 rfl rfl rfl om) 0 (hl.up 2 rfl) underlying26 (i:=Tryz.t63) kr fR fun c0 d0 _ _ b0 y0=>jOX 2 rfl ?_
 have C0:=b0.ll
 refine jXC 9 rfl<|cE (((0+nl):Nat):Int) 0 (fun e1=>jCO 4 rfl<|(by have f1:=(y0.pick 1 rfl);refine cZ (tape_next (hR.fl 1) om f1.flat1 15 om) ?_;rintro _ _ ⟨v0,rfl,_,_,_,g1⟩;have h1:=g1.unflat1;refine pu1<|cZ (tape_next (hR.fl 1) om h1.flat1 3 om) ?_;rintro _ _ ⟨w0,rfl,_,_,_,i1⟩;refine pu1<|sBK i1.unflat1 #[I v0,I 0,I 0,I w0,I 0,I 0,I 0] 63 fun _ _ k1=>sApp (nb:=56) k1 b0 2 (RdT.blk (enc:=encEvt) (sz:=7) (xs:=[(⟨v0,0,0,w0,0,0,0⟩:Evt)]) fR 1 0 rfl rfl rfl om) underlying26 (i:=Tryz.t63) kr fR fun l1 m1 _ _ n1 o1=>jOR 5 rfl<|retT [.slice l1 ((0+nl)+1) m1] ?_;have A0:(([]++l)++[(⟨v0,0,0,w0,0,0,0⟩:Evt)]).length<=l.length+1:=(by simp only [List.length_append,List.length_set,List.length_take,List.length_drop,List.length_cons,List.length_nil];omega);exact ⟨_,_,_,_,_,rfl,n1,A0,_,om,(o1.dropAt 0 rfl)⟩)) fun e1=>?_
 refine jCO 7 rfl ?_
 have r1:=(y0.pick 1 rfl)
 refine cZ (tape_next (hR.fl 1) om r1.flat1 (((0+nl):Nat):Int) om) ?_
 rintro _ _ ⟨a0,rfl,_,_,_,s1⟩
 have t1:=s1.unflat1
 refine jOO 7 rfl<|cZ (tape_next (hR.fl 1) om t1.flat1 9 om) ?_
 rintro _ _ ⟨l0,rfl,_,_,_,u1⟩
 have k0:=u1.unflat1
 refine jOC 9 rfl<|cE l0 0 (fun v1=>jCC 1 rfl<|drawF k0 [8] (fn) [0,1,2,3,4,5,6,7,8,9] fun _ w1=>wV 3<|(by have x1:=b0.cut (i:=(a0).toNat) om;refine wY (.slice (partAddr c0 ((a0).toNat) 0 7) ((a0).toNat) ((a0).toNat)) rfl (fun w _=>Y_sl3 (a:=c0) (len:=(0+nl)) (cap:=d0) a0 ((a0).toNat) runUnderlying26 sizeOf63 om om om)<|wV 2<|wAdd a0 1 ?_;have y1:=b0.part (lo:=((a0+1)).toNat) (hi:=(0+nl)) om om;refine wY (.slice (partAddr c0 d0 (((a0+1)).toNat) 7) ((0+nl)-(((a0+1)).toNat)) (d0-(((a0+1)).toNat))) rfl (fun w _=>Y_sl (a:=c0) (len:=(0+nl)) (cap:=d0) (some (a0+1)) none (((a0+1)).toNat) (0+nl) runUnderlying26 sizeOf63 ⟨om,om⟩ rfl om om)<|wO rfl<|sApp (nb:=56) w1 x1 1 (y1.rdAt 1 rfl) underlying26 (i:=Tryz.t63) kr fR fun z1 a2 _ _ b2 c2=>nA<|wV 1<|wN<|jXR 4 rfl<|retT [.slice z1 ((a0).toNat+((0+nl)-(((a0+1)).toNat))) a2] ?_;have A0:((([]++l).take ((a0).toNat))++((([]++l).drop (((a0+1)).toNat)).take ((0+nl)-(((a0+1)).toNat)))).length<=l.length+1:=(by simp only [List.length_append,List.length_set,List.length_take,List.length_drop,List.length_cons,List.length_nil];omega);exact ⟨_,_,_,_,_,rfl,b2,A0,_,om,c2⟩)) fun v1=>?_
 refine jCC 6 rfl<|cE l0 1 (fun d2=>jCC 1 rfl<|(by obtain ⟨x0,x5,y5,z5,e2,f2,a6⟩:=OwnT.elem b0 a0;refine drawF k0 [8,9,13] (fp 7 (e2.up 1 rfl)<|fn) [0,1,2,3,4,5,6,10,11,12,7,8,9,13,14] fun _ g2=>wV 3 ?_;have h2:=b0.cut (i:=(a0).toNat) om;refine wY (.slice (partAddr c0 ((a0).toNat) 0 7) ((a0).toNat) ((a0).toNat)) rfl (fun w _=>Y_sl3 (a:=c0) (len:=(0+nl)) (cap:=d0) a0 ((a0).toNat) runUnderlying26 sizeOf63 om om om)<|wV 2<|wI f2<|wV 2 ?_;have i2:=hl.part (lo:=(a0).toNat) (hi:=nl) om om;refine wY (.slice (partAddr al kl ((a0).toNat) 7) (nl-((a0).toNat)) (kl-((a0).toNat))) rfl (fun w _=>Y_sl (a:=al) (len:=nl) (cap:=kl) (some a0) none ((a0).toNat) nl runUnderlying26 sizeOf63 ⟨om,om⟩ rfl om om)<|wG 0 7<|wO rfl<|sBK g2 (encEvt x0).toArray 63 fun _ _ j2=>nA<|wO rfl<|sApp (nb:=56) j2 h2 2 (RdT.blk (enc:=encEvt) (sz:=7) (xs:=[x0]) fR 1 0 rfl rfl rfl om) underlying26 (i:=Tryz.t63) kr fR fun _ _ _ _ k2 l2=>nA<|wO rfl<|sApp (nb:=56) l2 k2 2 (i2.up 3 rfl) underlying26 (i:=Tryz.t63) kr fR fun m2 n2 _ _ o2 q2=>nA<|wV 1<|wN<|jXR 4 rfl<|retT [.slice m2 (((a0).toNat+1)+(nl-((a0).toNat))) n2] ?_;have A0:(((([]++l).take ((a0).toNat))++[x0])++((l.drop ((a0).toNat)).take (nl-((a0).toNat)))).length<=l.length+1:=(by simp only [List.length_append,List.length_set,List.length_take,List.length_drop,List.length_cons,List.length_nil];omega);exact ⟨_,_,_,_,_,rfl,o2,A0,_,om,(q2.dropAt 0 rfl)⟩)) fun d2=>?_
 refine jCC 6 rfl<|cE l0 2 (fun s2=>jCO 3 rfl<|sAdd a0 1<|jOC 5 rfl<|CD ((a0+1)<(((0+nl):Nat):Int)) (fun t2=>jCR 10 rfl<|retT [.slice c0 (0+nl) d0]<|(by have A0:([]++l).length<=l.length+1:=(by simp only [List.length_append,List.length_set,List.length_take,List.length_drop,List.length_cons,List.length_nil];omega);exact ⟨_,_,_,_,_,rfl,b0,A0,_,om,k0⟩)) fun t2=>(by obtain ⟨m0,j6,k6,u2,v2,z0,w2⟩:=OwnT.elem b0 (a0+1);obtain ⟨n0,l6,m6,x2,y2,a1,z2⟩:=OwnT.elem b0 a0;refine drawF k0 [15,17] (fp 9 (v2.up 1 rfl)<|fp 13 (y2.up 1 rfl)<|fn) [0,1,2,3,4,5,6,7,8,10,11,12,9,13,14,15,16,17] fun _ a3=>wV 4<|wAdd a0 1<|wV 2<|wAdd a0 1<|wI z0<|wV 2<|wI a1<|wG 0 7<|wG 7 7<|wI a1<|wO rfl<|sStF a3 b0 z2 1 (a0).toNat 0 n0 m0 x2 (.agg (encEvt m0).toArray) (encEvt m0) sizeOf63 fun _ _ b3 c3=>nA<|wI z0<|wO rfl ?_;have d3:(([]++l).set ((a0).toNat) m0)[((a0+1)).toNat]?=some m0:=(by rw [List.getElem?_set,if_neg om];exact u2);refine sStF c3 b3 w2 1 ((a0+1)).toNat 0 m0 n0 d3 (.agg (encEvt n0).toArray) (encEvt n0) sizeOf63 fun _ _ e3 f3=>nA<|wN<|jXR 9 rfl<|retT [.slice c0 (0+nl) d0] ?_;have A0:((([]++l).set ((a0).toNat) m0).set (((a0+1)).toNat) n0).length<=l.length+1:=(by simp only [List.length_append,List.length_set,List.length_take,List.length_drop,List.length_cons,List.length_nil];omega);exact ⟨_,_,_,_,_,rfl,e3,A0,_,om,f3⟩)) fun s2=>?_
 refine jCC 6 rfl<|cE l0 3 (fun g3=>jCO 4 rfl<|cZ (tape_next (hR.fl 1) om k0.flat1 16 om)<|(by rintro _ _ ⟨o0,rfl,_,_,_,h3⟩;refine sSub o0 1<|sIO b0 a0 (a0).toNat fun e0 _ _ j3 _ k3=>pu1<|sStF h3.unflat1 b0 k3 1 (a0).toNat 0 e0 (⟨(o0-1),e0.worker,e0.from_,e0.job,e0.refJob,e0.refTask,e0.err⟩:Evt) j3 (I (o0-1)) [I (o0-1)] sizeOf3 fun _ _ l3 m3=>jOR 10 rfl<|retT [.slice c0 (0+nl) d0] ?_;have A0:(([]++l).set ((a0).toNat) (⟨(o0-1),e0.worker,e0.from_,e0.job,e0.refJob,e0.refTask,e0.err⟩:Evt)).length<=l.length+1:=(by simp only [List.length_append,List.length_set,List.length_take,List.length_drop,List.length_cons,List.length_nil];omega);exact ⟨_,_,_,_,_,rfl,l3,A0,_,om,m3⟩)) fun g3=>?_
 refine jCC 6 rfl<|cE l0 4 (fun n3=>jCO 4 rfl<|cZ (tape_next (hR.fl 1) om k0.flat1 6 om)<|(by rintro _ _ ⟨p0,rfl,_,_,_,o3⟩;refine sSub p0 1<|sIO b0 a0 (a0).toNat fun f0 _ _ r3 _ s3=>pu1<|sStF o3.unflat1 b0 s3 1 (a0).toNat 1 f0 (⟨f0.kind,(p0-1),f0.from_,f0.job,f0.refJob,f0.refTask,f0.err⟩:Evt) r3 (I (p0-1)) [I (p0-1)] sizeOf3 fun _ _ t3 u3=>jOR 10 rfl<|retT [.slice c0 (0+nl) d0] ?_;have A0:(([]++l).set ((a0).toNat) (⟨f0.kind,(p0-1),f0.from_,f0.job,f0.refJob,f0.refTask,f0.err⟩:Evt)).length<=l.length+1:=(by simp only [List.length_append,List.length_set,List.length_take,List.length_drop,List.length_cons,List.length_nil];omega);exact ⟨_,_,_,_,_,rfl,t3,A0,_,om,u3⟩)) fun n3=>?_
 refine jCC 6 rfl<|cE l0 5 (fun v3=>jCO 4 rfl<|cZ (tape_next (hR.fl 1) om k0.flat1 4 om)<|(by rintro _ _ ⟨q0,rfl,_,_,_,w3⟩;have x3:=w3.unflat1;refine sSub q0 1<|pu1<|cZ (tape_next (hR.fl 1) om x3.flat1 6 om) ?_;rintro _ _ ⟨r0,rfl,_,_,_,y3⟩;refine sSub r0 1<|pu1<|sIO b0 a0 (a0).toNat fun j0 _ _ a4 _ b4=>pu1<|sStF y3.unflat1 b0 b4 1 (a0).toNat 4 j0 (⟨j0.kind,j0.worker,j0.from_,j0.job,(q0-1),(r0-1),j0.err⟩:Evt) a4 (.agg #[I (q0-1),I (r0-1)]) [I (q0-1),I (r0-1)] sizeOf61 fun _ _ c4 d4=>jOR 10 rfl<|retT [.slice c0 (0+nl) d0] ?_;have A0:(([]++l).set ((a0).toNat) (⟨j0.kind,j0.worker,j0.from_,j0.job,(q0-1),(r0-1),j0.err⟩:Evt)).length<=l.length+1:=(by simp only [List.length_append,List.length_set,List.length_take,List.length_drop,List.length_cons,List.length_nil];omega);exact ⟨_,_,_,_,_,rfl,c4,A0,_,om,d4⟩)) fun v3=>?_
 refine jCC 6 rfl<|cE l0 6 (fun e4=>jCO 4 rfl<|cZ (tape_next (hR.fl 1) om k0.flat1 5 om)<|(by rintro _ _ ⟨s0,rfl,_,_,_,f4⟩;refine sSub s0 1<|sIO b0 a0 (a0).toNat fun g0 _ _ h4 _ i4=>pu1<|sStF f4.unflat1 b0 i4 1 (a0).toNat 2 g0 (⟨g0.kind,g0.worker,(s0-1),g0.job,g0.refJob,g0.refTask,g0.err⟩:Evt) h4 (I (s0-1)) [I (s0-1)] sizeOf3 fun _ _ j4 k4=>jOR 10 rfl<|retT [.slice c0 (0+nl) d0] ?_;have A0:(([]++l).set ((a0).toNat) (⟨g0.kind,g0.worker,(s0-1),g0.job,g0.refJob,g0.refTask,g0.err⟩:Evt)).length<=l.length+1:=(by simp only [List.length_append,List.length_set,List.length_take,List.length_drop,List.length_cons,List.length_nil];omega);exact ⟨_,_,_,_,_,rfl,j4,A0,_,om,k4⟩)) fun e4=>?_
 refine jCC 6 rfl<|CE l0 7 (fun l4=>jCO 4 rfl<|cZ (tape_next (hR.fl 1) om k0.flat1 3 om)<|(by rintro _ _ ⟨u0,rfl,_,_,_,m4⟩;refine sIO b0 a0 (a0).toNat fun h0 _ _ o4 _ p4=>pu1<|sStF m4.unflat1 b0 p4 1 (a0).toNat 6 h0 (⟨h0.kind,h0.worker,h0.from_,h0.job,h0.refJob,h0.refTask,u0⟩:Evt) o4 (I u0) [I u0] sizeOf39 fun _ _ q4 r4=>jOR 10 rfl<|retT [.slice c0 (0+nl) d0] ?_;have A0:(([]++l).set ((a0).toNat) (⟨h0.kind,h0.worker,h0.from_,h0.job,h0.refJob,h0.refTask,u0⟩:Evt)).length<=l.length+1:=(by simp only [List.length_append,List.length_set,List.length_take,List.length_drop,List.length_cons,List.length_nil];omega);exact ⟨_,_,_,_,_,rfl,q4,A0,_,om,r4⟩)) fun l4=>?_
 refine jCO 4 rfl<|cZ (tape_next (hR.fl 1) om k0.flat1 5 om) ?_
 rintro _ _ ⟨t0,rfl,_,_,_,s4⟩
 refine sSub t0 1<|sIO b0 a0 (a0).toNat fun i0 _ _ u4 _ v4=>pu1<|sStF s4.unflat1 b0 v4 1 (a0).toNat 3 i0 (⟨i0.kind,i0.worker,i0.from_,(t0-1),i0.refJob,i0.refTask,i0.err⟩:Evt) u4 (I (t0-1)) [I (t0-1)] sizeOf3 fun _ _ w4 x4=>jOR 10 rfl<|retT [.slice c0 (0+nl) d0] ?_
 have A0:(([]++l).set ((a0).toNat) (⟨i0.kind,i0.worker,i0.from_,(t0-1),i0.refJob,i0.refTask,i0.err⟩:Evt)).length<=l.length+1:=by simp only [List.length_append,List.length_set,List.length_take,List.length_drop,List.length_cons,List.length_nil];omega
 exact ⟨_,_,_,_,_,rfl,w4,A0,_,om,x4⟩
theorem l31_config {cs:List Chunk} (hS:Sat W w cs):
  Ro prog 40 #[] (.agg #[I 2,I 1,I 1,I 0,I 1,I 9,I 1,I 9]) W w cs:=by
 exact callsK 2 func40 rfl<|jCO 2 rfl<|sAlloc hS zeroValue24 fun _ _ b0=>jOO 5 rfl<|sTk b0 0 rfl [I 2,I 1,I 1,I 0,I 1,I 9,I 1,I 9] fun _ a0=>jOR 3 rfl<|retN (vs:=[.agg #[I 2,I 1,I 1,I 0,I 1,I 9,I 1,I 9]]) rfl (.cons (.cell _ _ _ _ kr (lvA a0 0 0 [I 2,I 1,I 1,I 0,I 1,I 9,I 1,I 9] (isAgg24 _) (sizeOf24 _) rfl rfl rfl)) .nil)<|⟨rfl,(a0.dropAt 0 rfl)⟩
theorem l31_sane {cs:List Chunk} (hS:Sat W w cs):
  Ro prog 11 #[] (.bool true) W w cs:=by
 refine callsK 65 func11 rfl<|jCO 8 rfl<|sBK hS #[I 0,I 0,I 0,I 0,I 0,I 0,nS,I 1,I 0] 51 fun b0 _ h0=>sBK h0 #[.slice (At b0 0) 1 1] 45 fun c0 _ i0=>jOO 10 rfl<|sBK i0 #[I 1,I 0,I 0,I 0,I 0,I 0,I 0,I 4,I 0,I 0,I 0,I 0,I 0,I 0,I 6,I 0,I 0,I 0,I 0,I 0,I 0,I 7,I 0,I 0,I 0,I 0,I 0,I 0,I 8,I 0,I 0,I 0,I 0,I 0,I 0] 63 fun a0 _ j0=>jOO 5 rfl<|cZ (l31_config j0) ?_
 rintro _ _ ⟨rfl,k0⟩
 refine pu2<|cS (au_check (⟨2,1,1,0,1,9,1,9⟩:Cfg) (At c0 0) 1 1 ([(⟨⟨(At b0 0),1,1,[(⟨0,0,0,0,0,0,⟨none,0,0,[]⟩,1,0⟩:Task)]⟩⟩:TL)]) (At a0 0) 5 5 ([(⟨1,0,0,0,0,0,0⟩:Evt),(⟨4,0,0,0,0,0,0⟩:Evt),(⟨6,0,0,0,0,0,0⟩:Evt),(⟨7,0,0,0,0,0,0⟩:Evt),(⟨8,0,0,0,0,0,0⟩:Evt)]) (RdT.flat (RdT.blk (enc:=encTL) (sz:=1) (xs:=[(⟨⟨(At b0 0),1,1,[(⟨0,0,0,0,0,0,⟨none,0,0,[]⟩,1,0⟩:Task)]⟩⟩:TL)]) (fun _=>(by rfl)) 1 1 rfl rfl rfl om)) (fun z hz=>by
   rcases List.mem_singleton.1 hz with rfl
   exact ⟨(RdT.blk (enc:=encTask) (sz:=9) (xs:=[(⟨0,0,0,0,0,0,⟨none,0,0,[]⟩,1,0⟩:Task)]) fR 1 2 rfl rfl rfl om).of_mem mem_flat,fun y hy=>by
    rcases List.mem_singleton.1 hy with rfl
    exact ⟨rN⟩⟩) (RdT.flat (RdT.blk (enc:=encEvt) (sz:=7) (xs:=[(⟨1,0,0,0,0,0,0⟩:Evt),(⟨4,0,0,0,0,0,0⟩:Evt),(⟨6,0,0,0,0,0,0⟩:Evt),(⟨7,0,0,0,0,0,0⟩:Evt),(⟨8,0,0,0,0,0,0⟩:Evt)]) (fun _=>(by rfl)) 5 0 rfl rfl rfl om)) (by decide) k0.flat) ?_
 intro _ l0
 refine jOC 8 rfl<|drawG l0 [0,11,12] (fb 4 0 0 7<|fb 7 0 7 7<|fb 10 0 21 7<|fn) (pS [1,2,3,5,6,8,9,4,7,10]<| .fk 0 11 (.ef 11<| .ef 12<|pS [13,14,15,16,17]<| .fin) (.ef 0<| .ef 12<|pS [13,14,15,16,17]<| .fin)) fun _ d0=>qV 2<|qY (Pt a0 0) rfl (fun w _=>Y_idx (a:=(At a0 0)) (i:=0) (len:=5) (cap:=5) rfl runUnderlying26 sizeOf63 kr kr ⟨_,rfl,add_off _ 0 _,by decide,by decide⟩)<|qV 1<|qY (Pt a0 7) rfl (fun w _=>Y_idx (a:=(At a0 0)) (i:=1) (len:=5) (cap:=5) rfl runUnderlying26 sizeOf63 kr kr ⟨_,rfl,add_off _ 0 _,by decide,by decide⟩)<|qV 1<|qY (Pt a0 21) rfl (fun w _=>Y_idx (a:=(At a0 0)) (i:=3) (len:=5) (cap:=5) rfl runUnderlying26 sizeOf63 kr kr ⟨_,rfl,add_off _ 0 _,by decide,by decide⟩)<|qG 0 7<|qG 7 7<|qG 14 7<|qF ?_ ?_
 rotate_left
 ·refine qO rfl<|sBK d0 #[I 1,I 0,I 0,I 0,I 0,I 0,I 0,I 4,I 0,I 0,I 0,I 0,I 0,I 0,I 7,I 0,I 0,I 0,I 0,I 0,I 0] 63 fun m0 _ n0=>nA<|qO rfl<|cZ (l31_config n0) ?_
  rintro _ _ ⟨rfl,o0⟩
  refine nA<|qO rfl<|cS (au_check (⟨2,1,1,0,1,9,1,9⟩:Cfg) (At c0 0) 1 1 ([(⟨⟨(At b0 0),1,1,[(⟨0,0,0,0,0,0,⟨none,0,0,[]⟩,1,0⟩:Task)]⟩⟩:TL)]) (At m0 0) 3 3 ([(⟨1,0,0,0,0,0,0⟩:Evt),(⟨4,0,0,0,0,0,0⟩:Evt),(⟨7,0,0,0,0,0,0⟩:Evt)]) (RdT.flat (RdT.blk (enc:=encTL) (sz:=1) (xs:=[(⟨⟨(At b0 0),1,1,[(⟨0,0,0,0,0,0,⟨none,0,0,[]⟩,1,0⟩:Task)]⟩⟩:TL)]) (fun _=>(by rfl)) 1 2 rfl rfl rfl om)) (fun z hz=>by
    rcases List.mem_singleton.1 hz with rfl
    exact ⟨(RdT.blk (enc:=encTask) (sz:=9) (xs:=[(⟨0,0,0,0,0,0,⟨none,0,0,[]⟩,1,0⟩:Task)]) fR 1 3 rfl rfl rfl om).of_mem mem_flat,fun y hy=>by
     rcases List.mem_singleton.1 hy with rfl
     exact ⟨rN⟩⟩) (RdT.flat (RdT.blk (enc:=encEvt) (sz:=7) (xs:=[(⟨1,0,0,0,0,0,0⟩:Evt),(⟨4,0,0,0,0,0,0⟩:Evt),(⟨7,0,0,0,0,0,0⟩:Evt)]) (fun _=>(by rfl)) 3 0 rfl rfl rfl om)) (by decide) o0.flat) ?_
  intro _ p0
  exact nA<|qV 1<|qV 1<|qV 1<|qV 2<|qN<|jXO 4 rfl<|cS (au_count (At a0 0) 5 5 ([(⟨1,0,0,0,0,0,0⟩:Evt),(⟨4,0,0,0,0,0,0⟩:Evt),(⟨6,0,0,0,0,0,0⟩:Evt),(⟨7,0,0,0,0,0,0⟩:Evt),(⟨8,0,0,0,0,0,0⟩:Evt)]) (RdT.flat (RdT.blk (enc:=encEvt) (sz:=7) (xs:=[(⟨1,0,0,0,0,0,0⟩:Evt),(⟨4,0,0,0,0,0,0⟩:Evt),(⟨6,0,0,0,0,0,0⟩:Evt),(⟨7,0,0,0,0,0,0⟩:Evt),(⟨8,0,0,0,0,0,0⟩:Evt)]) (fun _=>(by rfl)) 5 1 rfl rfl rfl om)) (by first|omega|decide|(simp only [List.length_append,List.length_take,List.length_drop,List.length_nil];omega)) p0.flat) fun _ q0=>sAlloc q0 zeroValue67 fun _ _ r0=>sTk r0 0 rfl [I 1,I 1,I 0,I 0,I 0,I 0,I 0,I 0,I 0,I 0] fun _ e0=>gOR e0 31 [0,0] rfl<|retT [.bool true]<|⟨rfl,(e0.drops [0,0,0,0,0])⟩
 refine qO rfl<|cZ (l31_config d0) ?_
 rintro _ _ ⟨rfl,f0⟩
 refine nZ f0 [0,0,0]<|qO rfl<|sBK f0 #[I 1,I 0,I 0,I 0,I 0,I 0,I 0,I 4,I 0,I 0,I 0,I 0,I 0,I 0,I 7,I 0,I 0,I 0,I 0,I 0,I 0] 63 fun t0 _ u0=>nA<|qO rfl<|cS (au_check (⟨2,1,1,0,1,9,1,9⟩:Cfg) (At c0 0) 1 1 ([(⟨⟨(At b0 0),1,1,[(⟨0,0,0,0,0,0,⟨none,0,0,[]⟩,1,0⟩:Task)]⟩⟩:TL)]) (At t0 0) 3 3 ([(⟨1,0,0,0,0,0,0⟩:Evt),(⟨4,0,0,0,0,0,0⟩:Evt),(⟨7,0,0,0,0,0,0⟩:Evt)]) (RdT.flat (RdT.blk (enc:=encTL) (sz:=1) (xs:=[(⟨⟨(At b0 0),1,1,[(⟨0,0,0,0,0,0,⟨none,0,0,[]⟩,1,0⟩:Task)]⟩⟩:TL)]) (fun _=>(by rfl)) 1 2 rfl rfl rfl om)) (fun z hz=>by
   rcases List.mem_singleton.1 hz with rfl
   exact ⟨(RdT.blk (enc:=encTask) (sz:=9) (xs:=[(⟨0,0,0,0,0,0,⟨none,0,0,[]⟩,1,0⟩:Task)]) fR 1 3 rfl rfl rfl om).of_mem mem_flat,fun y hy=>by
    rcases List.mem_singleton.1 hy with rfl
    exact ⟨rN⟩⟩) (RdT.flat (RdT.blk (enc:=encEvt) (sz:=7) (xs:=[(⟨1,0,0,0,0,0,0⟩:Evt),(⟨4,0,0,0,0,0,0⟩:Evt),(⟨7,0,0,0,0,0,0⟩:Evt)]) (fun _=>(by rfl)) 3 0 rfl rfl rfl om)) (by decide) u0.flat) ?_
 intro _ v0
 exact nA<|qV 1<|qV 1<|qV 1<|qV 2<|qN<|jXO 4 rfl<|cS (au_count (At a0 0) 5 5 ([(⟨1,0,0,0,0,0,0⟩:Evt),(⟨4,0,0,0,0,0,0⟩:Evt),(⟨6,0,0,0,0,0,0⟩:Evt),(⟨7,0,0,0,0,0,0⟩:Evt),(⟨8,0,0,0,0,0,0⟩:Evt)]) (RdT.flat (RdT.blk (enc:=encEvt) (sz:=7) (xs:=[(⟨1,0,0,0,0,0,0⟩:Evt),(⟨4,0,0,0,0,0,0⟩:Evt),(⟨6,0,0,0,0,0,0⟩:Evt),(⟨7,0,0,0,0,0,0⟩:Evt),(⟨8,0,0,0,0,0,0⟩:Evt)]) (fun _=>(by rfl)) 5 1 rfl rfl rfl om)) (by first|omega|decide|(simp only [List.length_append,List.length_take,List.length_drop,List.length_nil];omega)) v0.flat) fun _ w0=>sAlloc w0 zeroValue67 fun _ _ x0=>sTk x0 0 rfl [I 1,I 1,I 0,I 0,I 0,I 0,I 0,I 0,I 0,I 0] fun _ g0=>gOR g0 31 [0,0] rfl<|retT [.bool true]<|⟨rfl,(g0.drops [0,0,0,0,0])⟩
theorem tg_spoilc {p:Nat} {a:Option Addr} {n k:Nat} {i:Int} {xs:List Int} (hR:RdT Go.E.encI 1 [H] a n k xs) (hi:0<=i/\i<=n) (hS:Sat W w ([(p, .cells #[.slice a n k,I i] 72 (0,0))]::H::F)) (c:Cfg) (hc:1<=c.workers/\c.workers<=4):
  Calls prog 9 #[Pt p 0, .agg (encCfg c).toArray] w fun e w'=>∃(c2:Cfg),e= .returned (.agg (encCfg c2).toArray)/\(-1<=c2.workers/\c2.workers<=1048577)/\∃i':Int,(0<=i'/\i'<=n)/\Sat W w' ([(p, .cells #[.slice a n k,I i'] 72 (0,0))]::H::F):=by
 have hle:=hR.le
 refine callsK 29 func9 rfl<|jCO 2 rfl<|sBox hS (.agg (encCfg c).toArray) (encCfg c).toArray fun d0 _ w0=>sAlloc w0 zeroValue24 fun _ _ x0=>jOO 4 rfl<|sBS x0 #[I 0,I 1,I (-1),I 64,I 65,I 256,I 257,I 1048576,I 1048577,I 4096,I 4097] runUnderlying22 sizeOf3 zeroValue3 fun y0 _ z0=>pu1 ?_
 have a1:=(z0.pick 3 rfl)
 refine cX call13 (tape_next (RdT.flat (hR.up 3 (by rfl))) om a1.flat1 11 om) ?_
 rintro _ _ ⟨b1,rfl,_,_,_,c1⟩
 have f0:=c1.unflat1
 refine sIdx (RdT.blk (cs:=[[(y0, .cells #[I 0,I 1,I (-1),I 64,I 65,I 256,I 257,I 1048576,I 1048577,I 4096,I 4097] 3 (0,0))]]) (enc:=Go.E.encI) (sz:=1) (xs:=[0,1,-1,64,65,256,257,1048576,1048577,4096,4097]) fR 11 0 rfl rfl rfl om) b1 runUnderlying22 sizeOf3 fun a0 _ _ d1 e1=>?_
 have hb_x_18:-1<=a0/\a0<=1048577:=by have h9_:=List.mem_of_getElem? d1;simp only [List.mem_cons,List.not_mem_nil,or_false] at h9_;omega
 refine sLp f0 (e1.up 1 rfl) 0 (I a0) (isAgg3 _)<|jOO 13 rfl<|sBS f0 #[Pt d0 0,Pt d0 1,Pt d0 2,Pt d0 3,Pt d0 4,Pt d0 5,Pt d0 6,Pt d0 7] runUnderlying74 sizeOf73 zeroValue73 fun b0 _ f1=>jOO 7 rfl ?_
 have g1:=(f1.pick 1 rfl)
 refine cX call13 (tape_next (RdT.flat (hR.up 4 (by rfl))) om g1.flat1 8 om) ?_
 rintro _ _ ⟨e0,rfl,_,_,_,h1⟩
 have c0:=h1.unflat1
 rcases (by omega:e0=0\/e0=1\/e0=2\/e0=3\/e0=4\/e0=5\/e0=6\/e0=7) with h8_|h8_|h8_|h8_|h8_|h8_|h8_|h8_
 ·rw [h8_]
  refine stepY (Pt b0 0) rfl rfl (Y_idx (a:=(At b0 0)) (i:=0) (len:=8) (cap:=8) rfl runUnderlying74 sizeOf73 kr kr ⟨_,rfl,add_off _ 0 _,by decide,by decide⟩)<|gOO c0 3 [1] rfl<|tW c0 4 0 (I a0) sizeOf3 fun _ g0=>gOO g0 5 [804] rfl<|sTl g0 3 (encCfg {c with workers:=a0}) sizeOf24 fun _ h0=>jOR 3 rfl<|retN (vs:=[.agg (encCfg {c with workers:=a0}).toArray]) rfl (.cons (.cell _ _ _ _ kr (lvA h0 3 0 (encCfg {c with workers:=a0}) (isAgg24 _) (sizeOf24 _) rfl rfl rfl)) .nil) ?_
  exact ⟨({c with workers:=a0}:Cfg),rfl,by (dsimp only;omega),_,om,(h0.drops [1,1,1,1])⟩
 ·rw [h8_]
  refine stepY (Pt b0 1) rfl rfl (Y_idx (a:=(At b0 0)) (i:=1) (len:=8) (cap:=8) rfl runUnderlying74 sizeOf73 kr kr ⟨_,rfl,add_off _ 0 _,by decide,by decide⟩)<|gOO c0 3 [1] rfl<|tW c0 4 1 (I a0) sizeOf3 fun _ i0=>gOO i0 5 [804] rfl<|sTl i0 3 (encCfg {c with tileW:=a0}) sizeOf24 fun _ j0=>jOR 3 rfl<|retN (vs:=[.agg (encCfg {c with tileW:=a0}).toArray]) rfl (.cons (.cell _ _ _ _ kr (lvA j0 3 0 (encCfg {c with tileW:=a0}) (isAgg24 _) (sizeOf24 _) rfl rfl rfl)) .nil) ?_
  exact ⟨({c with tileW:=a0}:Cfg),rfl,by (dsimp only;omega),_,om,(j0.drops [1,1,1,1])⟩
 ·rw [h8_]
  refine stepY (Pt b0 2) rfl rfl (Y_idx (a:=(At b0 0)) (i:=2) (len:=8) (cap:=8) rfl runUnderlying74 sizeOf73 kr kr ⟨_,rfl,add_off _ 0 _,by decide,by decide⟩)<|gOO c0 3 [1] rfl<|tW c0 4 2 (I a0) sizeOf3 fun _ k0=>gOO k0 5 [804] rfl<|sTl k0 3 (encCfg {c with tileH:=a0}) sizeOf24 fun _ l0=>jOR 3 rfl<|retN (vs:=[.agg (encCfg {c with tileH:=a0}).toArray]) rfl (.cons (.cell _ _ _ _ kr (lvA l0 3 0 (encCfg {c with tileH:=a0}) (isAgg24 _) (sizeOf24 _) rfl rfl rfl)) .nil) ?_
  exact ⟨({c with tileH:=a0}:Cfg),rfl,by (dsimp only;omega),_,om,(l0.drops [1,1,1,1])⟩
 ·rw [h8_]
  refine stepY (Pt b0 3) rfl rfl (Y_idx (a:=(At b0 0)) (i:=3) (len:=8) (cap:=8) rfl runUnderlying74 sizeOf73 kr kr ⟨_,rfl,add_off _ 0 _,by decide,by decide⟩)<|gOO c0 3 [1] rfl<|tW c0 4 3 (I a0) sizeOf3 fun _ m0=>gOO m0 5 [804] rfl<|sTl m0 3 (encCfg {c with arena:=a0}) sizeOf24 fun _ n0=>jOR 3 rfl<|retN (vs:=[.agg (encCfg {c with arena:=a0}).toArray]) rfl (.cons (.cell _ _ _ _ kr (lvA n0 3 0 (encCfg {c with arena:=a0}) (isAgg24 _) (sizeOf24 _) rfl rfl rfl)) .nil) ?_
  exact ⟨({c with arena:=a0}:Cfg),rfl,by (dsimp only;omega),_,om,(n0.drops [1,1,1,1])⟩
 ·rw [h8_]
  refine stepY (Pt b0 4) rfl rfl (Y_idx (a:=(At b0 0)) (i:=4) (len:=8) (cap:=8) rfl runUnderlying74 sizeOf73 kr kr ⟨_,rfl,add_off _ 0 _,by decide,by decide⟩)<|gOO c0 3 [1] rfl<|tW c0 4 4 (I a0) sizeOf3 fun _ o0=>gOO o0 5 [804] rfl<|sTl o0 3 (encCfg {c with deque:=a0}) sizeOf24 fun _ p0=>jOR 3 rfl<|retN (vs:=[.agg (encCfg {c with deque:=a0}).toArray]) rfl (.cons (.cell _ _ _ _ kr (lvA p0 3 0 (encCfg {c with deque:=a0}) (isAgg24 _) (sizeOf24 _) rfl rfl rfl)) .nil) ?_
  exact ⟨({c with deque:=a0}:Cfg),rfl,by (dsimp only;omega),_,om,(p0.drops [1,1,1,1])⟩
 ·rw [h8_]
  refine stepY (Pt b0 5) rfl rfl (Y_idx (a:=(At b0 0)) (i:=5) (len:=8) (cap:=8) rfl runUnderlying74 sizeOf73 kr kr ⟨_,rfl,add_off _ 0 _,by decide,by decide⟩)<|gOO c0 3 [1] rfl<|tW c0 4 5 (I a0) sizeOf3 fun _ q0=>gOO q0 5 [804] rfl<|sTl q0 3 (encCfg {c with tasks:=a0}) sizeOf24 fun _ r0=>jOR 3 rfl<|retN (vs:=[.agg (encCfg {c with tasks:=a0}).toArray]) rfl (.cons (.cell _ _ _ _ kr (lvA r0 3 0 (encCfg {c with tasks:=a0}) (isAgg24 _) (sizeOf24 _) rfl rfl rfl)) .nil) ?_
  exact ⟨({c with tasks:=a0}:Cfg),rfl,by (dsimp only;omega),_,om,(r0.drops [1,1,1,1])⟩
 ·rw [h8_]
  refine stepY (Pt b0 6) rfl rfl (Y_idx (a:=(At b0 0)) (i:=6) (len:=8) (cap:=8) rfl runUnderlying74 sizeOf73 kr kr ⟨_,rfl,add_off _ 0 _,by decide,by decide⟩)<|gOO c0 3 [1] rfl<|tW c0 4 6 (I a0) sizeOf3 fun _ s0=>gOO s0 5 [804] rfl<|sTl s0 3 (encCfg {c with cells:=a0}) sizeOf24 fun _ t0=>jOR 3 rfl<|retN (vs:=[.agg (encCfg {c with cells:=a0}).toArray]) rfl (.cons (.cell _ _ _ _ kr (lvA t0 3 0 (encCfg {c with cells:=a0}) (isAgg24 _) (sizeOf24 _) rfl rfl rfl)) .nil) ?_
  exact ⟨({c with cells:=a0}:Cfg),rfl,by (dsimp only;omega),_,om,(t0.drops [1,1,1,1])⟩
 rw [h8_]
 refine stepY (Pt b0 7) rfl rfl (Y_idx (a:=(At b0 0)) (i:=7) (len:=8) (cap:=8) rfl runUnderlying74 sizeOf73 kr kr ⟨_,rfl,add_off _ 0 _,by decide,by decide⟩)<|gOO c0 3 [1] rfl<|tW c0 4 7 (I a0) sizeOf3 fun _ u0=>gOO u0 5 [804] rfl<|sTl u0 3 (encCfg {c with jobs:=a0}) sizeOf24 fun _ v0=>jOR 3 rfl<|retN (vs:=[.agg (encCfg {c with jobs:=a0}).toArray]) rfl (.cons (.cell _ _ _ _ kr (lvA v0 3 0 (encCfg {c with jobs:=a0}) (isAgg24 _) (sizeOf24 _) rfl rfl rfl)) .nil) ?_
 exact ⟨({c with jobs:=a0}:Cfg),rfl,by (dsimp only;omega),_,om,(v0.drops [1,1,1,1])⟩
theorem eqve67 (w:World) (a0 a1 a2 a3 a4 a5 a6 a7 a8 a9 b0 b1 b2 b3 b4 b5 b6 b7 b8 b9:Int):∀x y,((do eqGuard .eql 67 x y (.agg #[I a0,I a1,I a2,I a3,I a4,I a5,I a6,I a7,I a8,I a9]) (.agg #[I b0,I b1,I b2,I b3,I b4,I b5,I b6,I b7,I b8,I b9]);binOp .eql 67 (.agg #[I a0,I a1,I a2,I a3,I a4,I a5,I a6,I a7,I a8,I a9]) (.agg #[I b0,I b1,I b2,I b3,I b4,I b5,I b6,I b7,I b8,I b9])):Sem Value).run prog w= .ok (.bool ((a0==b0)&&(a1==b1)&&(a2==b2)&&(a3==b3)&&(a4==b4)&&(a5==b5)&&(a6==b6)&&(a7==b7)&&(a8==b8)&&(a9==b9))) w:=by
 intro x y
 simp [go_sem,run_eqGuard_agg,run_eql_struct,run_equalIn_agg]
 by_cases h0:a0=b0<;>by_cases h1:a1=b1<;>by_cases h2:a2=b2<;>by_cases h3:a3=b3<;>by_cases h4:a4=b4<;>by_cases h5:a5=b5<;>by_cases h6:a6=b6<;>by_cases h7:a7=b7<;>by_cases h8:a8=b8<;>by_cases h9:a9=b9<;>simp [*]
theorem l31_checks (c:Cfg) (ajb:Option Addr) (njb kjb:Nat) (jb:List TL) (al:Option Addr) (nl kl:Nat) (l:List Evt) (hjb:RdT encTL 1 [H] ajb njb kjb jb) (djb:∀z∈jb,TL.Ok [H] z) (hl:RdT encEvt 7 [H] al nl kl l) (hlb:l.length<=100000) (hS:Sat W w (H::F)):
  Ro prog 8 #[.agg (encCfg c).toArray, .slice ajb njb kjb, .slice al nl kl] (.bool true) W w (H::F):=by
 have j0:=hjb.ll
 have k0:=hl.ll
 refine callsK 40 func8 rfl<|jCO 2 rfl<|sBx hS (encCfg c) fun _ _ b0=>gOO b0 8 [800] rfl<|cS (au_check c ajb njb kjb jb al nl kl l (hjb.fl 1) (fun z hz=>(djb z hz).of_mem (mF 1)) (hl.fl 1) hlb b0.flat) fun _ c0=>gOO c0 12 [800] rfl<|cS (rx_check c ajb njb kjb jb al nl kl l (hjb.fl 1) (fun z hz=>(djb z hz).of_mem (mF 1)) (hl.fl 1) hlb c0.flat) fun _ e0=>jOO 13 rfl ?_
 have f0:((checkM jb c l).1:Int)=((checkM jb c l).1):=rfl
 refine sFix 28 _ true (beq_iff_eq.2 f0)<|pu5 ?_
 have g0:((checkM jb c l).2)=((checkM jb c l).2):=rfl
 refine sFix 33 _ true (show (((checkM jb c l).2)==((checkM jb c l).2))=true from by simpa using g0)<|pu1<|gY<|cS (au_count al nl kl l (hl.fl 1) (by first|omega|decide|(simp only [List.length_append,List.length_take,List.length_drop,List.length_nil];omega)) e0.flat) fun _ h0=>?_
 obtain ⟨a0,d0⟩:∃z,z=countE l:=⟨_,rfl⟩
 rw [<-d0]
 exact pu1<|gY<|cS (rx_count al nl kl l (hl.fl 1) (by first|omega|decide|(simp only [List.length_append,List.length_take,List.length_drop,List.length_nil];omega)) h0.flat) fun _ i0=>(by rw [<-d0];exact gY<|stepY (.bool (((a0.starts:Int)==a0.starts)&&((a0.commits:Int)==a0.commits)&&((a0.drops:Int)==a0.drops)&&((a0.crashes:Int)==a0.crashes)&&((a0.steals:Int)==a0.steals)&&((a0.helps:Int)==a0.helps)&&((a0.spills:Int)==a0.spills)&&((a0.queued:Int)==a0.queued)&&((a0.held:Int)==a0.held)&&((a0.cells:Int)==a0.cells))) rfl rfl (Y_eqS rfl kr kr (eqve67 _ a0.starts a0.commits a0.drops a0.crashes a0.steals a0.helps a0.spills a0.queued a0.held a0.cells a0.starts a0.commits a0.drops a0.crashes a0.steals a0.helps a0.spills a0.queued a0.held a0.cells))<|jOR 5 rfl<|retT [.bool (((a0.starts:Int)==a0.starts)&&((a0.commits:Int)==a0.commits)&&((a0.drops:Int)==a0.drops)&&((a0.crashes:Int)==a0.crashes)&&((a0.steals:Int)==a0.steals)&&((a0.helps:Int)==a0.helps)&&((a0.spills:Int)==a0.spills)&&((a0.queued:Int)==a0.queued)&&((a0.held:Int)==a0.held)&&((a0.cells:Int)==a0.cells))]<|⟨by first|rfl|simp [packed],(i0.dropAt 0 rfl)⟩)
theorem l31_achk (W w:World) (H:Chunk) (F:List Chunk) (t:Option Addr) (nt kt:Nat) (xt:List Int) (c:Cfg) (jobs:Option Addr) (njobs kjobs:Nat) (xjobs:List TL) (l:Option Addr) (nl kl:Nat) (xl:List Evt) (ht:RdT Go.E.encI 1 [H] t nt kt xt) (hjobs:RdT encTL 1 [H] jobs njobs kjobs xjobs) (djobs:∀z∈xjobs,TL.Ok [H] z) (hl:RdT encEvt 7 [H] l nl kl xl) (hS:Sat W w (H::F)):
  Calls prog 3 #[.slice t nt kt, .agg (encCfg c).toArray, .slice jobs njobs kjobs, .slice l nl kl] w fun e w'=>e= .returned (.bool true)/\Sat W w' (H::F):=by
 have Q0:=ht.le
 have D0:=hjobs.ll
 have P0:=hl.ll
 refine callsK 76 func3 rfl<|jCO 2 rfl<|sBx hS (encCfg c) fun x0 _ y0=>jOO 6 rfl<|cZ (tape_new t nt kt y0) ?_
 rintro _ _ ⟨z0,rfl,a1⟩
 have k2:=ht.le
 refine jOO 6 rfl<|cZ (l31_record (ht.fl 1) om a1.flat1 60 om) ?_
 rintro _ _ ⟨a0,d0,e0,f0,g0,b1,c1,k0,l0,m0,n0,d1,rfl,e1,f1,h0,i0,b0,g1,_,_,h1⟩
 refine pu4<|sAlloc h1.unflat4 zeroValue24 fun j1 _ k1=>sTk k1 0 rfl (encCfg a0) fun _ o0=>jOX 3 rfl ?_
 obtain ⟨K_,F_,N0,F0⟩:=g1;have J0:=tr_es F0;have G0:=f1;have I0:=b0.ll;have K0:=validCfg_zero e1
 refine gXO o0 7 [800] rfl<|cS (l31_checks a0 d0 e0 f0 g0 k0 l0 m0 n0 (RdT.flat (h0.rdAt 2 (by rfl))) (fun z hz=>(i0 z hz).of_mem (mF 3)) (RdT.flat (b0.rdAt 4 (by rfl))) (od) o0.flat) fun _ p0=>gOO p0 4 [800] rfl<|gY ?_
 have l1:=(p0.pick 1 rfl)
 refine cZ (tg_spoilc (ht.fl 5) om l1.flat1 a0 om) ?_
 rintro _ _ ⟨A0,rfl,_,m1,_,n1⟩
 have o1:=n1.unflat1
 refine pu2<|gY<|cS (l31_checks A0 d0 e0 f0 g0 k0 l0 m0 n0 (RdT.flat (h0.rdAt 2 (by rfl))) (fun z hz=>(i0 z hz).of_mem (mF 3)) (RdT.flat (b0.rdAt 4 (by rfl))) (od) o1.flat) fun _ q1=>jOC 14 rfl<|loopF [2,3,5,10,11,9] (γ:=Nat×Int×(Option Addr)×Nat×Nat×(List Evt)×Chunk) (fun ⟨q,it,az,nz,kz,zs,C⟩ R=>⟨[(12, .slice az nz kz),(13,I (q:Int))],[(z0, .cells #[.slice t nt kt,I it] 72 (0,0))]::[(j1, .cells (encCfg a0).toArray 24 (0,0))]::[(x0, .cells (encCfg c).toArray 24 (0,0))]::b1::c1::C::R,3-q,(0<=it/\it<=nt)/\q<=3/\OwnT encEvt 63 7 az nz kz zs C/\zs.length<=300+q⟩) (0,m1,k0,l0,m0,n0,d1) ⟨(q1.picks [5,2,2]),om,om,b0,om⟩ ?_
 rintro ⟨q,it,az,nz,kz,zs,C⟩ ρ _ ⟨c0,O0,hq,E0,R0⟩
 have L0:=E0.ll
 refine jCC 7 rfl<|cD ((q:Int)<3) (fun s1=>jCO 8 rfl<|cZ (l31_forge (ht.fl 5) om c0.flat1 az nz kz zs (RdT.flat (E0.rdAt 4 (by rfl))) om)<|(by rintro _ _ ⟨q0,r0,s0,t0,t1,rfl,j0,u1,v1,_,w1⟩;have u0:=w1.unflat2;have C0:=j0.ll;exact gOO u0 8 [802] rfl<|cS (l31_checks a0 d0 e0 f0 g0 q0 r0 s0 t0 (RdT.flat (h0.rdAt 4 (by rfl))) (fun z hz=>(i0 z hz).of_mem (mF 5)) (RdT.flat (j0.rdAt 1 (by rfl))) (od) u0.flat) fun _ x1=>jOO 9 rfl<|sAdd (q:Int) 1<|jOI 2 rfl<|(by have y1:=((x1.picks [5,5,5,5,4]).dropAt 6 rfl);have M0:=u1;exact ⟨(q+1,v1,q0,r0,s0,t0,t1),od,alB,y1,om,om,j0,om⟩))) fun s1=>jCO 12 rfl<|sD 51 ((nl:Int)>200) (fun z1=>jOO 9 rfl<|cZ (l31_sane c0)<|(by rintro _ _ ⟨rfl,a2⟩;exact jOR 5 rfl<|retT [.bool true]<|⟨rfl,(a2.drops [0,0,0,0,0,0])⟩)) fun z1=>jOC 6 rfl<|cD ((njobs:Int)>50) (fun c2=>jCO 2 rfl<|cZ (l31_sane c0)<|(by rintro _ _ ⟨rfl,d2⟩;exact jOR 5 rfl<|retT [.bool true]<|⟨rfl,(d2.drops [0,0,0,0,0,0])⟩)) fun c2=>gCO c0 7 [801] rfl<|cS (l31_checks a0 d0 e0 f0 g0 l nl kl xl (RdT.flat (h0.rdAt 3 (by rfl))) (fun z hz=>(i0 z hz).of_mem (mF 4)) (hl.fl 6) (od) c0.flat) fun _ v0=>gOO v0 4 [801] rfl<|gY<|cS (l31_checks a0 jobs njobs kjobs xjobs l nl kl xl (hjobs.fl 6) (fun z hz=>(djobs z hz).of_mem (mF 6)) (hl.fl 6) (od) v0.flat) fun _ w0=>gOO w0 5 [802] rfl<|gY<|cS (l31_checks c jobs njobs kjobs xjobs l nl kl xl (hjobs.fl 6) (fun z hz=>(djobs z hz).of_mem (mF 6)) (hl.fl 6) (od) w0.flat) fun _ f2=>pu2<|gY<|cZ (l31_sane f2) ?_
 rintro _ _ ⟨rfl,g2⟩
 exact jOR 5 rfl<|retT [.bool true]<|⟨rfl,(g2.drops [0,0,0,0,0,0])⟩
end Go.Proofs.YtkadmghedmodbaaGreat
