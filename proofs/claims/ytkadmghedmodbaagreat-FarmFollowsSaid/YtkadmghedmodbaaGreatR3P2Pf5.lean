import Derived.Test.YtkadmghedmodbaaGreatR3P2Pf3
set_option linter.all false
namespace Go.Proofs.YtkadmghedmodbaaGreat
open Go Go.E Go.Proofs.Tryz
set_option linter.all false
set_option maxRecDepth 100000
set_option maxHeartbeats 2000000
variable {W w:World} {H:Chunk} {F:List Chunk}
theorem pf_crash_g {p:Nat} {F:FS} {M:Chunk} {F0:List Chunk} (hR:FarmP p F M) {K:Int} (hF:FI F K) {v0:Wkr} (x:Int) (hx:0<=x/\x<F.ws.length) (hv0:F.ws[x.toNat]?=some v0) (hS:Sat W w (M::H::F0)):
  Calls prog 21 #[Pt p 0,I x] w fun e w'=>∃(az:Option Addr) (nz kz:Nat) (G M':Chunk),e= .returned (.tuple #[.slice az nz kz,I (crashF F x).2.2])/\OwnT encEvt 63 7 az nz kz (crashF F x).2.1 G/\FarmP p (crashF F x).1 M'/\Sat W w' (G::M'::H::F0):=by
 obtain ⟨wb,wo,wn,wk,q,m,xs,jm,Wc,Qc,Jc,G1,X0,H1,rfl,H0,J0,M0,E0,hQ,hM,G0⟩:=hR
 have z2:Sat W _ ((Tri p 83 (preP F.cfg wb wo wn wk q m) (([]:List Ref).flatMap encRef) (encStt F.st))::Wc::G1.flatten::X0.flatten::Qc::Jc::H1.flatten::H::F0):=Sat.perm hS (by simp)
 have O2:=H0.ll;have Y1:=core_len J0;have J1:=M0.1;have L1:=E0.1;rw [List.length_map] at J1 L1;have T1:=G0.l
 have G2:=hF.st.a;have H2:=hF.st.b;have I2:=hF.st.c;have J2:=hF.st.d;have K2:=hF.st.e;have L2:=hF.st.f;have M2:=hF.st.g;have V1:=hF.fw.k;have D2:=hF.fw.n;have R1:=hF.fw.al;have S1:=hF.fw.dl;have U1:=hF.fw.jl
 have O1:=ar_some hF.fw hx
 refine callsK 103 func21 rfl<|jCO 11 rfl ?_
 have a3:=(z2.merge7)
 have b3:FarmP p F ((Tri p 83 (preP F.cfg wb wo wn wk q m) (([]:List Ref).flatMap encRef) (encStt F.st))++(Wc++(G1.flatten++(X0.flatten++(Qc++(Jc++H1.flatten)))))):=⟨_,_,_,_,_,_,_,_,_,_,_,_,_,_,rfl,H0,J0,M0,E0,hQ,hM,G0⟩
 refine cZ (pf_worker b3 x a3.flat1) ?_
 rintro _ _ ⟨rfl,c3⟩
 have d3:=c3.unflat1
 have k0:=d3.split7
 refine jOC 3 rfl ?_
 have e3:0<=x/\x<(F.ws.length:Int):=⟨om,om⟩
 refine cF _ (congrArg Bool.not (decide_eq_true e3))<|jCO 7 rfl<|sMp k0 (ptr_up 0 rfl tri_pre) 8 (.slice (some ⟨wb,wo,none⟩) wn wk)<|pu1<|sIO H0 x (x).toNat fun a0 _ _ d0 l0 f3=>?_
 obtain ⟨rfl,rfl⟩:=some_addr f3
 obtain ⟨g3,h3,i3,n0,o0,l1,j3⟩:=core_at J0 d0
 have D0:g3=v0:=Option.some.inj (h3.symm.trans hv0);rw [D0] at i3 n0 o0 l1 j3
 refine jOO 9 rfl<|sMp k0 (l0.up 1 rfl) 0 (I a0.phase)<|jOC 3 rfl<|cE a0.phase 4 (fun k3=>jCR 8 rfl<|retT [nS,I 20]<|(by have l3:=Sat.nilc k0;have m3:=(l3.picks [7,7,7,7,7,7,7]);have n3:=((m3.merge7).pick 1 rfl);have he:crashF F x=(F,[],20):=crash_down ⟨om,om⟩ hv0 om;rw [he];exact ⟨_,_,_,_,_,rfl,(OwnT.nil (enc:=encEvt) (E:=63) (sz:=7) fR),⟨_,_,_,_,_,_,_,_,_,_,_,_,_,_,rfl,H0,J0,M0,E0,hQ,hM,G0⟩,n3⟩)) fun k3=>jCO 7 rfl<|sMA k0 (l0.up 1 rfl) 1 [I a0.heldJob,I a0.heldTask]<|sAlloc k0 zeroValue61 fun q0 _ o3=>sTk o3 0 rfl [I a0.heldJob,I a0.heldTask] fun _ q3=>jOO 7 rfl ?_
 have r3:=(q3.picks [7,7,7,7,7,7,7])
 have s3:=(r3.merge7)
 have t3:FarmP p F ((Tri p 83 (preP F.cfg wb wo wn wk q m) (([]:List Ref).flatMap encRef) (encStt F.st))++(Wc++(G1.flatten++(X0.flatten++(Qc++(Jc++H1.flatten)))))):=⟨_,_,_,_,_,_,_,_,_,_,_,_,_,_,rfl,H0,J0,M0,E0,hQ,hM,G0⟩
 refine cZ (pf_busy t3 hF x om s3.flat1) ?_
 rintro _ _ ⟨rfl,u3⟩
 have v3:=u3.unflat1
 have r0:=v3.split7
 refine jOC 2 rfl<|cB (busyW F (wAt F x)) (fun s0=>?_) (fun s0=>?_)
 rotate_left
 ·refine jCO 8 rfl<|sMp r0 (l0.up 1 rfl) 6 (.pointer (some ⟨a0.d,0,none⟩)) ?_
  obtain ⟨m1,a8,n1,o1,w3⟩:=Obs.get E0 (map_at' d0)
  have x3:=(r0.pick 3 rfl)
  refine cZ (pd_drain w3 (Sat.flat1 (Sat.openN (A:=[]) x.toNat o1 x3))) ?_
  rintro _ _ ⟨_,t0,_,z3,q1,rfl,u0,a4,b4⟩
  have c4:=b4.unflat2;have Q0:=u0.ll
  have d4:=(c4.picks [2,2])
  have e4:=Sat.shutN (d:=q1) (A:=[]) x.toNat o1 d4
  have f4:=Obs.set E0 (map_at' d0) a4
  refine jOC 5 rfl ?_
  have I1:=fun (r:Ref) (hr:RefOk (shapeF F.jobs) r)=>ref_job hF.fw hr
  refine loopF [0,1,6,7,65,66] (γ:=Nat×QS×Chunk) (fun ⟨i,qi,I0⟩ R=>⟨[(67,I (i:Int))],(X0.set x.toNat q1).flatten::z3::(Tri p 83 (preP F.cfg wb wo wn wk q m) (([]:List Ref).flatMap encRef) (encStt F.st))::Wc::G1.flatten::I0::R,t0-i,i<=t0/\(InjP q qi I0)/\(qi=drainQ F.jobs F.q (m1.l.take i))⟩) (0,F.q,Qc) ⟨e4,om,hQ,rfl⟩ ?_
  rintro ⟨i,qi,I0⟩ ρ _ ⟨w0,hi,Y0,B1⟩
  refine jCC 6 rfl<|CD ((i:Int)<(t0:Int)) (fun g4=>jCO 8 rfl<|(by have h4:=(w0.picks [4,4]);refine cZ (p_rest H0 M0 d0 4 h4) ?_;rintro _ _ ⟨_,_,rfl,i4,j4,r1⟩;exact jOO 8 rfl<|sMp r1 (ptr_up 4 rfl (tri_post (k:=11) (tri_len (sz:=2) (m:=11) fR (rfl:([]:List Ref).length=0)))) 3 (I F.st.crashes)<|sAdd F.st.crashes 1<|pu3<|sTpost r1 4 11 3 rfl (I (F.st.crashes+1)) [I (F.st.crashes+1)] [I F.st.starts,I F.st.commits,I F.st.drops,I (F.st.crashes+1),I F.st.steals,I F.st.helps,I F.st.spills,I F.st.queued,I F.st.held,I F.st.cells] (tri_len (sz:=2) (m:=11) fR (rfl:([]:List Ref).length=0)) sizeOf3 fun _ s1=>gOO s1 7 [208] rfl<|sBK s1 #[I 10,I x,I 0,I 0,I a0.heldJob,I a0.heldTask,I 0] 63 fun t1 _ k4=>jOR 5 rfl<|retT [.slice (At t1 0) 1 1,I 0]<|(by have l4:=OwnT.blk (enc:=encEvt) (sz:=7) (b:=t1) (c:=#[I 10,I x,I 0,I 0,I a0.heldJob,I a0.heldTask,I 0]) (E:=63) (xs:=[(⟨10,x,0,0,a0.heldJob,a0.heldTask,0⟩:Evt)]) fR 1 rfl rfl rfl om;have m4:=((k4.picks [8,8,8,6,6,6,8]).drops [8,8]);have n4:=((m4.merge7).pick 1 rfl);have he:crashF F x=((⟨F.cfg,(F.ws.set x.toNat ⟨4,0,0,0,0,0,(F.ar.getD x.toNat default).high⟩),(F.ar.set (x).toNat (resetA (F.ar.getD (x).toNat default))),(F.dq.set x.toNat ({m1 with l:=[]}:DS)),qi,F.jobs,(⟨F.st.starts,F.st.commits,F.st.drops,(F.st.crashes+1),F.st.steals,F.st.helps,F.st.spills,F.st.queued,F.st.held,F.st.cells⟩:Stt)⟩:FS),[(⟨10,x,0,0,a0.heldJob,a0.heldTask,0⟩:Evt)],0):=(crash_free ⟨om,om⟩ hv0 om (by rw [<-show wAt F x=v0 from getD_some hv0];exact Bool.eq_false_iff.2 s0) n1 O1).trans (by rw [B1,List.take_of_length_le om,n0,o0]);rw [he];exact ⟨_,_,_,_,_,rfl,l4,⟨_,_,_,_,_,_,_,_,_,_,_,_,_,_,rfl,i4,(core_set J0 rfl),(by rw [map_setA (x':=(⟨4,0,0,0,0,a0.a,a0.d⟩:PW)) d0 rfl];exact j4),(by rw [map_setD (x':=(⟨4,0,0,0,0,a0.a,a0.d⟩:PW)) d0 rfl];exact f4),Y0,hM,G0⟩,n4⟩))) fun g4=>?_
  refine jCO 6 rfl<|sIO u0 (i:Int) i fun b0 _ _ u1 o4 _=>?_
  have x0:=hF.fw.d _ (List.mem_of_getElem? n1) _ (List.mem_of_getElem? u1);have T0:=x0.1;have U0:=x0.2.1;obtain ⟨g0,v1,q4,V0,W0⟩:=I1 b0 x0
  refine sMA w0 (o4.up 1 rfl) 0 [I b0.job,I b0.task]<|sAlloc w0 zeroValue61 fun y0 _ r4=>sTk r4 0 rfl [I b0.job,I b0.task] fun _ s4=>jOC 2 rfl ?_
  obtain ⟨w1,z0,p8,q8,a1,t4,u4⟩:=JobsP.get G0 (k:=b0.job) ⟨om,om⟩ v1 q4
  obtain ⟨v4,w4,x4,r8,y4,z4,a5,rfl,x1,s8,b5,t8,_,u8⟩:=t4.open
  have c5:=(s4.pick 8 rfl)
  have d5:=Sat.openN (A:=[]) w1 a1 c5
  have e0:=d5.split3
  have L0:=x1.ll;have A0:=congrArg List.length b5;rw [List.length_map] at A0
  refine drawE [11,15] [(3,⟨p,9,none⟩,Pt q 0),(4,⟨y0,0,none⟩,I b0.job),(4,⟨y0,1,none⟩,I b0.task),(8,⟨p,10,none⟩, .map (some m)),(10,⟨y0,0,none⟩,I b0.job),(14,⟨z0,1,none⟩,I g0.band)] [(true,[0,1,2,5,6,7,9]),(true,[3]),(true,[4]),(true,[8]),(true,[10]),(false,[11]),(true,[12,13]),(true,[14]),(false,[15])] rfl kr ⟨.inr (cell_up e0 7 rfl (k:=9) tri_pre rfl),cI e0 4,cI e0 4, .inr (cell_up e0 7 rfl (k:=10) tri_pre rfl),cI e0 4,cI e0 0,trivial⟩ ?_
  have h0:=e0.drew
  refine wU [0,1,2,5,6,7,9]<|wLd (Pt q 0) 0 isAgg77<|wY (.agg #[I b0.job,I b0.task]) rfl (fun w hF=>Y_loadF rfl (isAgg61 w) (sizeOf61 w) kr rfl ⟨hF 1 _ _ rfl,hF 2 _ _ rfl,trivial⟩)<|wLd (.map (some m)) 3 isAgg80<|wLd (I b0.job) 4 isAgg3<|wO rfl<|stepY (Pt z0 0) rfl rfl (Y_iget (k:=b0.job) h0 11 hM (by rw [u4];rfl) runUnderlying80 runUnderlying3 zeroValue110)<|nilO ⟨⟨.inr (cell_up h0 7 rfl (k:=9) tri_pre rfl),cI h0 4,cI h0 4,dI,dI,cI h0 0,trivial⟩,?_⟩
  refine wU [12,13]<|wLd (I g0.band) 5 isAgg3<|wO rfl ?_
  have e5:=(h0.pick 10 rfl)
  refine cZ (pq_push Y0 b0 g0.band om e5.flat1) ?_
  rintro _ _ ⟨f5,rfl,g5,h5⟩
  have i5:=h5.unflat1
  exact nilO ⟨dA,(wN<|(by have j5:=(i5.picks [4,4,4,4]);have k5:=j5.merge3;have y1:=Sat.shutN (d:=([(z0, .cells #[.slice v4 w4 x4,I g0.band,Pt y4 0, .bool (canc g0)] 117 (0,0))]++(z4++a5))) (A:=[]) w1 a1 k5;rw [set_same a1] at y1;exact jXO 3 rfl<|sAdd (i:Int) 1<|jOI 2 rfl<|⟨(i+1,(pushQ qi b0 g0.band),f5),od,alB,((y1.picks [8,2,8,8,8,8,8]).dropAt 8 rfl),om,g5,(by rw [drain_take u1,<-B1];unfold pushR;rw [getD_some v1])⟩))⟩
 refine jCC 1 rfl ?_
 have K1:=busy_holds s0;rw [show wAt F x=v0 from getD_some hv0] at K1;have hh:=K1.1
 obtain ⟨j,hj,ha,hz⟩:=hF.h.h _ _ hv0 hh;have P1:=hF.fw.j j (List.mem_of_getElem? hj);obtain ⟨N1,Z1,W1,X1⟩:=P1.b ha;have A2:=P1.n;have Q1:=hF.fw.w v0 (List.mem_of_getElem? hv0);have B2:=Q1.h;have F2:=Q1.r;have C2:=held_lt N1 hz;have E2:v0.phase=1\/v0.phase=2\/v0.phase=3:=hh
 obtain ⟨b1,p0,w8,m5,z1,n5,o5⟩:=JobsP.get G0 (k:=v0.heldJob) ⟨om,om⟩ hj ha
 obtain ⟨a2,b2,c2,x8,d2,e2,y8,rfl,c1,p5,f2,q5,_,r5⟩:=n5.open
 have s5:=(r0.pick 6 rfl)
 have t5:=Sat.openN (A:=[]) b1 z1 s5
 have d1:=t5.split3
 have R0:=c1.ll;have B0:=congrArg List.length f2;rw [List.length_map] at B0
 have M1:j.running=true:=by have h9:=K1.2;unfold jobAt at h9;rw [getD_some hj] at h9;exact h9
 refine drawE [6] [(3,⟨p,10,none⟩, .map (some m)),(5,⟨q0,0,none⟩,I a0.heldJob)] [(true,[0,1,2,4]),(true,[3]),(true,[5]),(false,[6]),(true,[7])] rfl kr ⟨.inr (cell_up d1 4 rfl (k:=10) tri_pre rfl),cI d1 10,trivial⟩ ?_
 have g2:=d1.drew
 refine wU [0,1,2,4]<|wLd (.map (some m)) 0 isAgg80<|wLd (I a0.heldJob) 1 isAgg3<|wO rfl<|stepY (Pt p0 0) rfl rfl (Y_iget (k:=a0.heldJob) g2 9 hM (by rw [n0,o5];rfl) runUnderlying80 runUnderlying3 zeroValue110)<|nilO ⟨dA,?_⟩
 refine wU [7]<|wN<|jXC 2 rfl<|drawF g2 [10] (fb 3 0 2 1<|fb 5 10 1 1<|fq 9 3 (l0.up 5 rfl)<|fn) [0,1,2,4,6,7,8,3,5,9,10] fun _ u5=>wV 7<|wL 0<|wL 1<|wL 2<|wO rfl ?_
 have v5:=(u5.pick 2 rfl)
 refine cZ (b_return q5 N1 a0.heldTask a0.attempt om v5.flat1) ?_
 rintro _ _ ⟨h2,rfl,i2,w5⟩
 have m0:=w5.unflat1;rw [o0,l1] at i2
 refine nA<|wN<|jXC 1 rfl<|drawE [9] [(3,⟨p,9,none⟩,Pt q 0),(4,⟨q0,0,none⟩,I a0.heldJob),(4,⟨q0,1,none⟩,I a0.heldTask),(8,⟨p0,1,none⟩,I j.band)] [(true,[0,1,2,5,6,7]),(true,[3]),(true,[4]),(true,[8]),(false,[9])] rfl kr ⟨.inr (cell_up m0 4 rfl (k:=9) tri_pre rfl),cI m0 10,cI m0 10,cI m0 1,trivial⟩ ?_
 have x5:=m0.drew
 refine wU [0,1,2,5,6,7]<|wLd (Pt q 0) 0 isAgg77<|wY (.agg #[I a0.heldJob,I a0.heldTask]) rfl (fun w hF=>Y_loadF rfl (isAgg61 w) (sizeOf61 w) kr rfl ⟨hF 1 _ _ rfl,hF 2 _ _ rfl,trivial⟩)<|wLd (I j.band) 3 isAgg3<|wO rfl ?_
 have y5:=(x5.pick 8 rfl)
 refine cZ (pq_push hQ (⟨a0.heldJob,a0.heldTask⟩:Ref) j.band om y5.flat1) ?_
 rintro _ _ ⟨z5,rfl,a6,b6⟩
 have k2:=b6.unflat1
 refine nilO ⟨dA,?_⟩
 refine wN<|jXO 7 rfl<|sMp k2 (l0.up 6 rfl) 6 (.pointer (some ⟨a0.d,0,none⟩)) ?_
 obtain ⟨l2,b9,m2,n2,c6⟩:=Obs.get E0 (map_at' d0)
 have d6:=(k2.pick 8 rfl)
 refine cZ (pd_drain c6 (Sat.flat1 (Sat.openN (A:=[]) x.toNat n2 d6))) ?_
 rintro _ _ ⟨_,e1,_,f6,o2,rfl,f1,g6,h6⟩
 have i6:=h6.unflat2;have A1:=f1.ll
 have j6:=(i6.picks [2,2])
 have k6:=Sat.shutN (d:=o2) (A:=[]) x.toNat n2 j6
 have l6:=Obs.set E0 (map_at' d0) g6
 refine jOC 5 rfl ?_
 have m6:=(k6.picks [6,4,6,6])
 have n6:=m6.merge3
 have o6:=Sat.shutN (d:=([(p0, .cells #[.slice a2 b2 c2,I j.band,Pt d2 0, .bool (canc j)] 117 (0,0))]++(e2++h2))) (A:=[]) b1 z1 n6
 have q2:=JobsP.set G0 (k:=v0.heldJob) (j2:={j with B:=(retB j.B v0.heldTask v0.attempt)}) ⟨om,om⟩ m5 (JobP.mk (s:={j with B:=(retB j.B v0.heldTask v0.attempt)}) (cn:=(canc j)) c1 p5 f2 i2 ha (fun h=>by show doneOf (retB j.B v0.heldTask v0.attempt)<_;rw [ret_done];exact r5 h) (by unfold canc;dsimp only;rw [ret_done])) ha
 have I1:=fun (r:Ref) (hr:RefOk (shapeF F.jobs) r)=>ref_set (B:=(retB j.B v0.heldTask v0.attempt)) hF.fw hj hr
 refine loopF [0,1,6,7,65,66] (γ:=Nat×QS×Chunk) (fun ⟨i,qi,I0⟩ R=>⟨[(67,I (i:Int))],(H1.set b1 ([(p0, .cells #[.slice a2 b2 c2,I j.band,Pt d2 0, .bool (canc j)] 117 (0,0))]++(e2++h2))).flatten::(X0.set x.toNat o2).flatten::f6::I0::R,e1-i,i<=e1/\(InjP q qi I0)/\(qi=drainQ (F.jobs.set v0.heldJob.toNat ({j with B:=(retB j.B v0.heldTask v0.attempt)})) (pushQ F.q (⟨a0.heldJob,a0.heldTask⟩:Ref) j.band) (l2.l.take i))⟩) (0,(pushQ F.q (⟨a0.heldJob,a0.heldTask⟩:Ref) j.band),z5) ⟨o6,om,a6,rfl⟩ ?_
 rintro ⟨i,qi,I0⟩ ρ _ ⟨g1,hi,Y0,B1⟩
 refine jCC 6 rfl<|CD ((i:Int)<(e1:Int)) (fun p6=>jCO 8 rfl<|(by have q6:=(g1.picks [6,6]);refine cZ (p_rest H0 M0 d0 4 q6) ?_;rintro _ _ ⟨_,_,rfl,r6,s6,r2⟩;exact jOO 8 rfl<|sMp r2 (ptr_up 6 rfl (tri_post (k:=11) (tri_len (sz:=2) (m:=11) fR (rfl:([]:List Ref).length=0)))) 3 (I F.st.crashes)<|sAdd F.st.crashes 1<|pu3<|sTpost r2 6 11 3 rfl (I (F.st.crashes+1)) [I (F.st.crashes+1)] [I F.st.starts,I F.st.commits,I F.st.drops,I (F.st.crashes+1),I F.st.steals,I F.st.helps,I F.st.spills,I F.st.queued,I F.st.held,I F.st.cells] (tri_len (sz:=2) (m:=11) fR (rfl:([]:List Ref).length=0)) sizeOf3 fun _ s2=>gOO s2 7 [208] rfl<|sBK s2 #[I 10,I x,I 0,I 0,I a0.heldJob,I a0.heldTask,I 0] 63 fun t2 _ t6=>jOR 5 rfl<|retT [.slice (At t2 0) 1 1,I 0]<|(by have u6:=OwnT.blk (enc:=encEvt) (sz:=7) (b:=t2) (c:=#[I 10,I x,I 0,I 0,I a0.heldJob,I a0.heldTask,I 0]) (E:=63) (xs:=[(⟨10,x,0,0,a0.heldJob,a0.heldTask,0⟩:Evt)]) fR 1 rfl rfl rfl om;have v6:=((t6.picks [3,8,7,6,6,6,8]).drops [8,8]);have w6:=((v6.merge7).pick 1 rfl);have he:crashF F x=((⟨F.cfg,(F.ws.set x.toNat ⟨4,0,0,0,0,0,(F.ar.getD x.toNat default).high⟩),(F.ar.set (x).toNat (resetA (F.ar.getD (x).toNat default))),(F.dq.set x.toNat ({l2 with l:=[]}:DS)),qi,(F.jobs.set v0.heldJob.toNat ({j with B:=(retB j.B v0.heldTask v0.attempt)})),(⟨F.st.starts,F.st.commits,F.st.drops,(F.st.crashes+1),F.st.steals,F.st.helps,F.st.spills,F.st.queued,F.st.held,F.st.cells⟩:Stt)⟩:FS),[(⟨10,x,0,0,a0.heldJob,a0.heldTask,0⟩:Evt)],0):=(crash_busy ⟨om,om⟩ hv0 hh hj M1 m2 O1).trans (by rw [B1,List.take_of_length_le om,drain_set hj,n0,o0]);rw [he];exact ⟨_,_,_,_,_,rfl,u6,⟨_,_,_,_,_,_,_,_,_,_,_,_,_,_,rfl,r6,(core_set J0 rfl),(by rw [map_setA (x':=(⟨4,0,0,0,0,a0.a,a0.d⟩:PW)) d0 rfl];exact s6),(by rw [map_setD (x':=(⟨4,0,0,0,0,a0.a,a0.d⟩:PW)) d0 rfl];exact l6),Y0,hM,q2⟩,w6⟩))) fun p6=>?_
 refine jCO 6 rfl<|sIO f1 (i:Int) i fun c0 _ _ u2 x6 _=>?_
 have h1:=hF.fw.d _ (List.mem_of_getElem? m2) _ (List.mem_of_getElem? u2);have C1:=h1.1;have D1:=h1.2.1;obtain ⟨i0,v2,y6,E1,F1⟩:=I1 c0 h1
 refine sMA g1 (x6.up 2 rfl) 0 [I c0.job,I c0.task]<|sAlloc g1 zeroValue61 fun i1 _ z6=>sTk z6 0 rfl [I c0.job,I c0.task] fun _ a7=>jOC 2 rfl ?_
 obtain ⟨w2,j1,r9,s9,k1,b7,c7⟩:=JobsP.get q2 (k:=c0.job) ⟨om,om⟩ v2 y6
 obtain ⟨d7,e7,f7,t9,g7,h7,i7,rfl,x2,u9,j7,v9,_,w9⟩:=b7.open
 have k7:=(a7.pick 1 rfl)
 have l7:=Sat.openN (A:=[]) w2 k1 k7
 have f0:=l7.split3
 have S0:=x2.ll;have C0:=congrArg List.length j7;rw [List.length_map] at C0
 refine drawE [11,15] [(3,⟨p,9,none⟩,Pt q 0),(4,⟨i1,0,none⟩,I c0.job),(4,⟨i1,1,none⟩,I c0.task),(8,⟨p,10,none⟩, .map (some m)),(10,⟨i1,0,none⟩,I c0.job),(14,⟨j1,1,none⟩,I i0.band)] [(true,[0,1,2,5,6,7,9]),(true,[3]),(true,[4]),(true,[8]),(true,[10]),(false,[11]),(true,[12,13]),(true,[14]),(false,[15])] rfl kr ⟨.inr (cell_up f0 8 rfl (k:=9) tri_pre rfl),cI f0 4,cI f0 4, .inr (cell_up f0 8 rfl (k:=10) tri_pre rfl),cI f0 4,cI f0 0,trivial⟩ ?_
 have j0:=f0.drew
 refine wU [0,1,2,5,6,7,9]<|wLd (Pt q 0) 0 isAgg77<|wY (.agg #[I c0.job,I c0.task]) rfl (fun w hF=>Y_loadF rfl (isAgg61 w) (sizeOf61 w) kr rfl ⟨hF 1 _ _ rfl,hF 2 _ _ rfl,trivial⟩)<|wLd (.map (some m)) 3 isAgg80<|wLd (I c0.job) 4 isAgg3<|wO rfl<|stepY (Pt j1 0) rfl rfl (Y_iget (k:=c0.job) j0 11 hM (by rw [c7];rfl) runUnderlying80 runUnderlying3 zeroValue110)<|nilO ⟨⟨.inr (cell_up j0 8 rfl (k:=9) tri_pre rfl),cI j0 4,cI j0 4,dI,dI,cI j0 0,trivial⟩,?_⟩
 refine wU [12,13]<|wLd (I i0.band) 5 isAgg3<|wO rfl ?_
 have m7:=(j0.pick 7 rfl)
 refine cZ (pq_push Y0 c0 i0.band om m7.flat1) ?_
 rintro _ _ ⟨n7,rfl,o7,p7⟩
 have q7:=p7.unflat1
 exact nilO ⟨dA,(wN<|(by have r7:=(q7.picks [4,4,4,4]);have s7:=r7.merge3;have y2:=Sat.shutN (d:=([(j1, .cells #[.slice d7 e7 f7,I i0.band,Pt g7 0, .bool (canc i0)] 117 (0,0))]++(h7++i7))) (A:=[]) w2 k1 s7;rw [set_same k1] at y2;exact jXO 3 rfl<|sAdd (i:Int) 1<|jOI 2 rfl<|⟨(i+1,(pushQ qi c0 i0.band),n7),od,alB,((y2.picks [4,4,2]).dropAt 4 rfl),om,o7,(by rw [drain_take u2,<-B1];unfold pushR;rw [getD_some v2])⟩))⟩
theorem pf_crash_b {p:Nat} {F:FS} {M:Chunk} {F0:List Chunk} (hR:FarmP p F M) {K:Int} (hF:FI F K) (x:Int) (hx:¬(0<=x/\x<(F.ws.length:Int))) (hS:Sat W w (M::H::F0)):
  Calls prog 21 #[Pt p 0,I x] w fun e w'=>∃(az:Option Addr) (nz kz:Nat) (G M':Chunk),e= .returned (.tuple #[.slice az nz kz,I (crashF F x).2.2])/\OwnT encEvt 63 7 az nz kz (crashF F x).2.1 G/\FarmP p (crashF F x).1 M'/\Sat W w' (G::M'::H::F0):=by
 refine callsK 103 func21 rfl<|jCO 11 rfl<|cZ (pf_worker hR x hS.flat1) ?_
 rintro _ _ ⟨rfl,a0⟩
 exact jOC 3 rfl<|(by have c0:¬(0<=x/\x<(F.ws.length:Int)):=hx;exact cT _ (congrArg Bool.not (decide_eq_false c0))<|jCR 8 rfl<|retT [nS,I 16]<|(by have d0:=Sat.nilc a0.unflat1;have he:crashF F x=(F,[],16):=crash_unk hx;rw [he];exact ⟨_,_,_,_,_,rfl,(OwnT.nil (enc:=encEvt) (E:=63) (sz:=7) fR),hR,d0⟩))
theorem pf_restart_b {p:Nat} {F:FS} {M:Chunk} {F0:List Chunk} (hR:FarmP p F M) {K:Int} (hF:FI F K) (x:Int) (hx:¬(0<=x/\x<(F.ws.length:Int))) (hS:Sat W w (M::H::F0)):
  Calls prog 23 #[Pt p 0,I x] w fun e w'=>∃(az:Option Addr) (nz kz:Nat) (G M':Chunk),e= .returned (.tuple #[.slice az nz kz,I (restartF F x).2.2])/\OwnT encEvt 63 7 az nz kz (restartF F x).2.1 G/\FarmP p (restartF F x).1 M'/\Sat W w' (G::M'::H::F0):=by
 refine callsK 27 func23 rfl<|jCO 11 rfl<|cZ (pf_worker hR x hS.flat1) ?_
 rintro _ _ ⟨rfl,a0⟩
 have b0:=a0.unflat1
 refine jOC 3 rfl ?_
 have c0:¬(0<=x/\x<(F.ws.length:Int)):=hx
 refine cT _ (congrArg Bool.not (decide_eq_false c0))<|jCR 8 rfl<|retT [nS,I 16] ?_
 have d0:=Sat.nilc b0
 have he:restartF F x=(F,[],16):=by unfold restartF;rw [if_pos hx]
 rw [he];exact ⟨_,_,_,_,_,rfl,(OwnT.nil (enc:=encEvt) (E:=63) (sz:=7) fR),hR,d0⟩
theorem pf_crash {W w:World} {p:Nat} {F:FS} {M H:Chunk} {F0:List Chunk} (hR:FarmP p F M) {K:Int} (hF:FI F K) (x:Int) (hS:Sat W w (M::H::F0)):
    Calls prog 21 #[.pointer (some ⟨p,0,none⟩), .int .i64 x] w fun e w'=>∃(az:Option Addr) (nz kz:Nat) (G M':Chunk),e= .returned (.tuple #[.slice az nz kz, .int .i64 (crashF F x).2.2])/\OwnT encEvt 63 7 az nz kz (crashF F x).2.1 G/\FarmP p (crashF F x).1 M'/\Sat W w' (G::M'::H::F0):=by
  by_cases hx:0<=x/\x<(F.ws.length:Int)
  · exact pf_crash_g hR hF x hx (hF.fw.wmem hx) hS
  · exact pf_crash_b hR hF x hx hS
theorem pf_restart {W w:World} {p:Nat} {F:FS} {M H:Chunk} {F0:List Chunk} (hR:FarmP p F M) {K:Int} (hF:FI F K) (x:Int) (hS:Sat W w (M::H::F0)):
    Calls prog 23 #[.pointer (some ⟨p,0,none⟩), .int .i64 x] w fun e w'=>∃(az:Option Addr) (nz kz:Nat) (G M':Chunk),e= .returned (.tuple #[.slice az nz kz, .int .i64 (restartF F x).2.2])/\OwnT encEvt 63 7 az nz kz (restartF F x).2.1 G/\FarmP p (restartF F x).1 M'/\Sat W w' (G::M'::H::F0):=by
  by_cases hx:0<=x/\x<(F.ws.length:Int)
  · exact pf_restart_g hR hF x hx (hF.fw.wmem hx) hS
  · exact pf_restart_b hR hF x hx hS
theorem cancel_none {F:FS} {k:Int} (h:¬(0<=k/\k<64/\(F.jobs.getD k.toNat default).added=true)):cancelF F k=(F,[],16):=by
  unfold cancelF
  rw [if_pos]
  by_cases h1:0<=k/\k<64
  · right
    unfold jobAt
    cases h2:(F.jobs.getD k.toNat default).added
    · rfl
    · exact absurd ⟨h1.1,h1.2,h2⟩ h
  · exact .inl h1
theorem pf_cancel_0 {p:Nat} {F:FS} {M:Chunk} {F0:List Chunk} (hR:FarmP p F M) {K:Int} (hF:FI F K) (x:Int) (hk:¬(0<=x/\x<64/\(F.jobs.getD x.toNat default).added=true)) (hS:Sat W w (M::H::F0)):
  Calls prog 25 #[Pt p 0,I x] w fun e w'=>∃(az:Option Addr) (nz kz:Nat) (G M':Chunk),e= .returned (.tuple #[.slice az nz kz,I (cancelF F x).2.2])/\OwnT encEvt 63 7 az nz kz (cancelF F x).2.1 G/\FarmP p (cancelF F x).1 M'/\Sat W w' (G::M'::H::F0):=by
 obtain ⟨wb,wo,wn,wk,q,m,xs,jm,Wc,Qc,Jc,m0,n0,s0,rfl,g0,l0,j0,k0,hQ,hM,f0⟩:=hR
 have b0:Sat W _ ((Tri p 83 (preP F.cfg wb wo wn wk q m) (([]:List Ref).flatMap encRef) (encStt F.st))::Wc::m0.flatten::n0.flatten::Qc::Jc::s0.flatten::H::F0):=Sat.perm hS (by simp)
 have E0:=g0.ll;have u0:=core_len l0;have h0:=j0.1;have i0:=k0.1;rw [List.length_map] at h0 i0;have q0:=f0.l
 have w0:=hF.st.a;have x0:=hF.st.b;have y0:=hF.st.c;have z0:=hF.st.d;have A0:=hF.st.e;have B0:=hF.st.f;have C0:=hF.st.g;have t0:=hF.fw.k;have v0:=hF.fw.n;have o0:=hF.fw.al;have p0:=hF.fw.dl;have r0:=hF.fw.jl
 have hg:=JobsP.no f0 hk
 refine callsK 59 func25 rfl<|jCO 10 rfl<|cZ (p_empty ⟨om,om⟩ b0) ?_
 rintro _ _ ⟨rfl,a0⟩
 exact pu4<|gY<|sMp a0 (ptr_up 0 rfl tri_pre) 10 (.map (some m))<|pu1<|gY<|stepY (.pointer none) rfl rfl (Y_iget (k:=x) a0 5 hM (by rw [hg];rfl) runUnderlying80 runUnderlying3 zeroValue110)<|jOR 13 rfl<|retT [nS,I 16]<|(by have c0:=Sat.nilc a0;have d0:=(c0.picks [7,7,7,7,7,7,7]);have e0:=((d0.merge7).pick 1 rfl);have he:cancelF F x=(F,[],16):=cancel_none hk;rw [he];exact ⟨_,_,_,_,_,rfl,(OwnT.nil (enc:=encEvt) (E:=63) (sz:=7) fR),⟨_,_,_,_,_,_,_,_,_,_,_,_,_,_,rfl,g0,l0,j0,k0,hQ,hM,f0⟩,e0⟩)
theorem pf_cancel_1 {p:Nat} {F:FS} {M:Chunk} {F0:List Chunk} (hR:FarmP p F M) {K:Int} (hF:FI F K) {j:JS} (x:Int) (hx:0<=x/\x<64) (hj:F.jobs[x.toNat]?=some j) (ha:j.added=true) (hrun:¬j.running=true) (hS:Sat W w (M::H::F0)):
  Calls prog 25 #[Pt p 0,I x] w fun e w'=>∃(az:Option Addr) (nz kz:Nat) (G M':Chunk),e= .returned (.tuple #[.slice az nz kz,I (cancelF F x).2.2])/\OwnT encEvt 63 7 az nz kz (cancelF F x).2.1 G/\FarmP p (cancelF F x).1 M'/\Sat W w' (G::M'::H::F0):=by
 obtain ⟨wb,wo,wn,wk,q,m,xs,jm,Wc,Qc,Jc,K0,L0,T0,rfl,D0,J0,H0,I0,hQ,hM,C0⟩:=hR
 have i0:Sat W _ ((Tri p 83 (preP F.cfg wb wo wn wk q m) (([]:List Ref).flatMap encRef) (encStt F.st))::Wc::K0.flatten::L0.flatten::Qc::Jc::T0.flatten::H::F0):=Sat.perm hS (by simp)
 have r1:=D0.ll;have X0:=core_len J0;have E0:=H0.1;have G0:=I0.1;rw [List.length_map] at E0 G0;have Q0:=C0.l
 have Z0:=hF.st.a;have a1:=hF.st.b;have k1:=hF.st.c;have l1:=hF.st.d;have m1:=hF.st.e;have n1:=hF.st.f;have o1:=hF.st.g;have U0:=hF.fw.k;have Y0:=hF.fw.n;have N0:=hF.fw.al;have P0:=hF.fw.dl;have R0:=hF.fw.jl
 have S0:=hF.fw.j j (List.mem_of_getElem? hj);obtain ⟨M0,O0,V0,W0⟩:=S0.b ha
 obtain ⟨e0,b0,h1,i1,c0,j0,f0⟩:=JobsP.get C0 (k:=x) ⟨om,om⟩ hj ha
 obtain ⟨k0,l0,m0,j1,n0,o0,p0,rfl,d0,q0,g0,r0,_,s0⟩:=j0.open
 have t0:=(i0.pick 6 rfl)
 have u0:=Sat.openN (A:=[]) e0 c0 t0
 have v0:=u0.split3
 have B0:=d0.ll;have y0:=congrArg List.length g0;rw [List.length_map] at y0
 refine callsK 59 func25 rfl<|jCO 10 rfl ?_
 have w0:=(v0.pick 4 rfl)
 refine cZ (p_empty ⟨om,om⟩ w0) ?_
 rintro _ _ ⟨rfl,a0⟩
 refine pu4<|gY<|sMp a0 (ptr_up 0 rfl tri_pre) 10 (.map (some m))<|pu1<|gY<|stepY (Pt b0 0) rfl rfl (Y_iget (k:=x) a0 9 hM (by rw [f0];rfl) runUnderlying80 runUnderlying3 zeroValue110)<|jOO 12 rfl<|sMp a0 (ptr_up 0 rfl tri_pre) 10 (.map (some m))<|pu1<|stepY (Pt b0 0) rfl rfl (Y_iget (k:=x) a0 9 hM (by rw [f0];rfl) runUnderlying80 runUnderlying3 zeroValue110)<|jOO 7 rfl ?_
 have x0:=(a0.picks [3,3,3])
 refine cZ (p_running (s:=j) (JobP.mk (s:=j) d0 q0 g0 r0 ha s0 rfl) M0 O0 x0.merge3) ?_
 rintro _ _ ⟨rfl,z0⟩
 exact jOC 3 rfl<|(by have b1:¬(j.running=true):=hrun;exact cT _ (congrArg Bool.not (Bool.eq_false_iff.2 b1))<|jCR 8 rfl<|retT [nS,I 18]<|(by have c1:=Sat.nilc z0.split3;have d1:=(c1.picks [5,4,4,4]);have e1:=d1.merge3;have h0:=Sat.shutN (d:=([(b0, .cells #[.slice k0 l0 m0,I j.band,Pt n0 0, .bool (canc j)] 117 (0,0))]++(o0++p0))) (A:=[]) e0 c0 e1;rw [set_same c0] at h0;have f1:=(h0.picks [7,7,7,7,7,7]);have g1:=((f1.merge7).pick 1 rfl);have he:cancelF F x=(F,[],18):=cancel_fin hx hj ha hrun;rw [he];exact ⟨_,_,_,_,_,rfl,(OwnT.nil (enc:=encEvt) (E:=63) (sz:=7) fR),⟨_,_,_,_,_,_,_,_,_,_,_,_,_,_,rfl,D0,J0,H0,I0,hQ,hM,C0⟩,g1⟩))
theorem pf_cancel_2 {p:Nat} {F:FS} {M:Chunk} {F0:List Chunk} (hR:FarmP p F M) {K:Int} (hF:FI F K) {j:JS} (x:Int) (hx:0<=x/\x<64) (hj:F.jobs[x.toNat]?=some j) (ha:j.added=true) (hrun:j.running=true) (hS:Sat W w (M::H::F0)):
  Calls prog 25 #[Pt p 0,I x] w fun e w'=>∃(az:Option Addr) (nz kz:Nat) (G M':Chunk),e= .returned (.tuple #[.slice az nz kz,I (cancelF F x).2.2])/\OwnT encEvt 63 7 az nz kz (cancelF F x).2.1 G/\FarmP p (cancelF F x).1 M'/\Sat W w' (G::M'::H::F0):=by
 obtain ⟨wb,wo,wn,wk,q,m,xs,jm,Wc,Qc,Jc,N0,O0,S0,rfl,H0,K0,P0,Q0,hQ,hM,I0⟩:=hR
 have x0:Sat W _ ((Tri p 83 (preP F.cfg wb wo wn wk q m) (([]:List Ref).flatMap encRef) (encStt F.st))::Wc::N0.flatten::O0.flatten::Qc::Jc::S0.flatten::H::F0):=Sat.perm hS (by simp)
 have L1:=H0.ll;have B1:=core_len K0;have J0:=P0.1;have L0:=Q0.1;rw [List.length_map] at J0 L0;have X0:=I0.l
 have D1:=hF.st.a;have E1:=hF.st.b;have F1:=hF.st.c;have G1:=hF.st.d;have H1:=hF.st.e;have I1:=hF.st.f;have J1:=hF.st.g;have f1:=hF.fw.k;have C1:=hF.fw.n;have U0:=hF.fw.al;have W0:=hF.fw.dl;have Y0:=hF.fw.jl
 have Z0:=hF.fw.j j (List.mem_of_getElem? hj);obtain ⟨T0,V0,v1,A1⟩:=Z0.b ha
 obtain ⟨e0,c0,m2,y0,h0,z0,i0⟩:=JobsP.get I0 (k:=x) ⟨om,om⟩ hj ha
 obtain ⟨j0,k0,l0,n2,m0,n0,o0,rfl,d0,p0,f0,q0,_,r0⟩:=z0.open
 have a1:=(x0.pick 6 rfl)
 have b1:=Sat.openN (A:=[]) e0 h0 a1
 have c1:=b1.split3
 have D0:=d0.ll;have A0:=congrArg List.length f0;rw [List.length_map] at A0
 refine callsK 59 func25 rfl<|jCO 10 rfl ?_
 have d1:=(c1.pick 4 rfl)
 refine cZ (p_empty ⟨om,om⟩ d1) ?_
 rintro _ _ ⟨rfl,a0⟩
 refine pu4<|gY<|sMp a0 (ptr_up 0 rfl tri_pre) 10 (.map (some m))<|pu1<|gY<|stepY (Pt c0 0) rfl rfl (Y_iget (k:=x) a0 9 hM (by rw [i0];rfl) runUnderlying80 runUnderlying3 zeroValue110)<|jOO 12 rfl<|sMp a0 (ptr_up 0 rfl tri_pre) 10 (.map (some m))<|pu1<|stepY (Pt c0 0) rfl rfl (Y_iget (k:=x) a0 9 hM (by rw [i0];rfl) runUnderlying80 runUnderlying3 zeroValue110)<|jOO 7 rfl ?_
 have e1:=(a0.picks [3,3,3])
 refine cZ (p_running (s:=j) (JobP.mk (s:=j) d0 p0 f0 q0 ha r0 rfl) T0 V0 e1.merge3) ?_
 rintro _ _ ⟨rfl,g1⟩
 have h1:=g1.split3
 refine jOC 3 rfl ?_
 have i1:j.running=true:=hrun
 refine cF _ (congrArg Bool.not i1)<|jCO 7 rfl<|tWk h1 0 rfl 3 (.bool true) fun _ s0=>jOO 8 rfl<|sMp s0 (ptr_up 3 rfl tri_pre) 8 (.slice (some ⟨wb,wo,none⟩) wn wk)<|jOC 5 rfl ?_
 have j1:=(s0.picks [4,3,3,3])
 have k1:=j1.merge3
 have l1:=Sat.shutN (d:=([(c0, .cells #[.slice j0 k0 l0,I j.band,Pt m0 0, .bool true] 117 (0,0))]++(n0++o0))) (A:=[]) e0 h0 k1
 have m1:=JobsP.set I0 (k:=x) (j2:={j with running:=false}) ⟨om,om⟩ y0 (JobP.mk (s:={j with running:=false}) (cn:=true) d0 p0 f0 q0 ha (fun h=>by cases h) (by unfold canc;rw [decide_eq_true (r0 hrun)];rfl)) ha
 refine loopF [0,1,35] (γ:=Nat×(List DS)×(List Chunk)) (fun ⟨i,B0,E0⟩ R=>⟨[(36,I (i:Int))],(S0.set e0 ([(c0, .cells #[.slice j0 k0 l0,I j.band,Pt m0 0, .bool true] 117 (0,0))]++(n0++o0))).flatten::(Tri p 83 (preP F.cfg wb wo wn wk q m) (([]:List Ref).flatMap encRef) (encStt F.st))::Wc::N0.flatten::E0.flatten::R,wn-i,i<=wn/\(Obs DqP (xs.map (·.d)) B0 E0)/\(B0=(F.dq.take i).map (rmD x)++F.dq.drop i)⟩) (0,F.dq,O0) ⟨l1,om,Q0,by simp⟩ ?_
 rintro ⟨i,B0,E0⟩ ρ _ ⟨b0,hi,G0,R0⟩
 have M0:=G0.1;rw [List.length_map] at M0
 refine jCC 6 rfl<|cD ((i:Int)<(wn:Int)) (fun n1=>jCO 14 rfl<|sMp b0 (ptr_up 1 rfl tri_pre) 8 (.slice (some ⟨wb,wo,none⟩) wn wk)<|pu1<|sIO H0 (i:Int) i fun o1 _ _ g0 q1 r1=>(by obtain ⟨rfl,rfl⟩:=some_addr r1;obtain ⟨v2,w2,x2,y2,z2,a3,b3⟩:=core_at K0 g0;refine pu1<|sMp b0 (q1.up 2 rfl) 6 (.pointer (some ⟨o1.d,0,none⟩))<|pu1 ?_;obtain ⟨t0,c3,s1,u0,t1⟩:=Obs.get G0 (map_at' g0);have u1:=(b0.pick 4 rfl);refine cZ (pd_remove t1 x (Sat.flat1 (Sat.openN (A:=[]) i u0 u1))) ?_;rintro _ _ ⟨v0,_,rfl,w1,x1⟩;have y1:=x1.unflat1;have z1:=(y1.picks [1,1]);have a2:=Sat.shutN (d:=v0) (A:=[]) i u0 z1;exact jOO 4 rfl<|sAdd (i:Int) 1<|jOI 2 rfl<|⟨(i+1,(B0.set i ({t0 with l:=without x t0.l}:DS)),(E0.set i v0)),od,alB,(a2.picks [4,4,4,4]),om,(Obs.set G0 (map_at' g0) w1),(rm_step R0 s1)⟩)) fun n1=>?_
 refine jCO 10 rfl<|sMp b0 (ptr_up 1 rfl tri_pre) 9 (Pt q 0)<|pu1 ?_
 have d2:=(b0.pick 5 rfl)
 refine cZ (pq_remove hQ x d2.flat1) ?_
 rintro _ _ ⟨_,_,rfl,e2,f2⟩
 exact jOO 6 rfl<|sBK f2.unflat1 #[I 2,I 0,I 0,I x,I 0,I 0,I 0] 63 fun w0 _ h2=>jOR 5 rfl<|retT [.slice (At w0 0) 1 1,I 0]<|(by have i2:=OwnT.blk (enc:=encEvt) (sz:=7) (b:=w0) (c:=#[I 2,I 0,I 0,I x,I 0,I 0,I 0]) (E:=63) (xs:=[(⟨2,0,0,x,0,0,0⟩:Evt)]) fR 1 rfl rfl rfl om;have k2:=(h2.picks [2,7,3,7,7,7,7]);have l2:=((k2.merge7).pick 1 rfl);have he:cancelF F x=((⟨F.cfg,F.ws,F.ar,B0,({F.q with bs:=F.q.bs.map (without x)}:QS),(F.jobs.set x.toNat ({j with running:=false})),F.st⟩:FS),[(⟨2,0,0,x,0,0,0⟩:Evt)],0):=(cancel_at hx hj ha hrun).trans (by rw [R0,List.take_of_length_le om,List.drop_of_length_le om,List.append_nil]);rw [he];exact ⟨_,_,_,_,_,rfl,i2,⟨_,_,_,_,_,_,_,_,_,_,_,_,_,_,rfl,H0,K0,P0,G0,e2,hM,m1⟩,l2⟩)
theorem pf_cancel {W w:World} {p:Nat} {F:FS} {M H:Chunk} {F0:List Chunk} (hR:FarmP p F M) {K:Int} (hF:FI F K) (x:Int) (hS:Sat W w (M::H::F0)):
  Calls prog 25 #[Pt p 0,I x] w fun e w'=>∃(az:Option Addr) (nz kz:Nat) (G M':Chunk),e= .returned (.tuple #[.slice az nz kz,I (cancelF F x).2.2])/\OwnT encEvt 63 7 az nz kz (cancelF F x).2.1 G/\FarmP p (cancelF F x).1 M'/\Sat W w' (G::M'::H::F0):=by
 by_cases hk:0<=x/\x<64/\(F.jobs.getD x.toNat default).added=true
 ·obtain ⟨h1,h2,h3⟩:=hk
  obtain ⟨j,hj⟩:=at_some hF.fw.jl (k:=x.toNat) om
  rw [getD_some hj] at h3
  by_cases hr:j.running=true
  ·exact pf_cancel_2 hR hF x ⟨h1,h2⟩ hj h3 hr hS
  ·exact pf_cancel_1 hR hF x ⟨h1,h2⟩ hj h3 hr hS
 ·exact pf_cancel_0 hR hF x hk hS
end Go.Proofs.YtkadmghedmodbaaGreat

namespace Go.Proofs.YtkadmghedmodbaaGreat
open Go Go.E Go.Proofs.Tryz
set_option linter.all false
set_option maxRecDepth 100000
set_option maxHeartbeats 2000000
variable {W w:World} {H:Chunk} {F:List Chunk}
theorem own_none {α:Type} {enc:α->List Value} {sz:Nat} {cs:List Chunk} {n k:Nat} {xs:List α} (h:RdT enc sz cs none n k xs):xs=[]:=by
  rcases h.2.2.2.2.2 with h0|⟨b,a0,h1,_⟩
  · exact List.length_eq_zero_iff.1 (h.1.trans h0)
  · cases h1
theorem drop_same {α:Type} {zs l:List α} {i:Nat} {x t:α} (h:zs.drop i=l.drop i) (hx:zs[i]?=some x) (ht:l[i]?=some t):x=t:=by
  have e1:(zs.drop i)[0]?=zs[i]?:=by simp
  have e2:(l.drop i)[0]?=l[i]?:=by simp
  rw [h,e2,hx,ht] at e1;exact (Option.some.inj e1).symm
theorem cop_step {zs l:List Task} {i:Nat} {x y:Task} {G Z:Chunk} (hT:zs.drop i=l.drop i) (hV:zs.map Task.v=l.map Task.v) (hD:∀z∈zs.take i,Task.Ok [G] z) (hx:zs[i]?=some x) (hy:y.v=x.v) (hO:Task.Ok [Z] y):
  (zs.set i y).drop (i+1)=l.drop (i+1)/\(zs.set i y).map Task.v=l.map Task.v/\∀z∈(zs.set i y).take (i+1),Task.Ok [Z++G] z:=by
 have hi:=(List.getElem?_eq_some_iff.1 hx).1
 refine ⟨?_,?_,?_⟩
 · exact (by rw [List.drop_set_of_lt om];have e1:zs.drop (i+1)=(zs.drop i).drop 1:=(by simp);have e2:l.drop (i+1)=(l.drop i).drop 1:=(by simp);rw [e1,e2,hT])
 · exact (by rw [List.map_set,hy,<-hV];exact set_same (by rw [List.getElem?_map,hx];rfl))
 ·intro z hz
  rw [take_succ_at (show (zs.set i y)[i]?=some y by rw [List.getElem?_set_self hi]),List.take_set_of_le (Nat.le_refl i)] at hz
  rcases List.mem_append.1 hz with h|h
  ·exact (hD z h).of_mem mS
  ·rw [List.mem_singleton.1 h];exact hO.of_mem mS
def runJ9 (jobs:List JS) (k:Int):Bool:=(jobs.getD k.toNat default).running
def lenJ (jobs:List JS) (k:Int):Int:=if runJ9 jobs k then (((jobs.getD k.toNat default).tasks.length:Nat):Int) else 0
theorem sum_perm {l m:List Int} (h:l.Perm m):l.sum=m.sum:=by
  induction h with
  |nil=>rfl
  |cons x _ ih=>simp only [List.sum_cons,ih]
  |swap x y l=>simp only [List.sum_cons];omega
  |trans _ _ ih1 ih2=>exact ih1.trans ih2
def allK (n:Nat):List Int:=(List.range n).map fun i=>((i:Nat):Int)
theorem allK_nd (n:Nat):(allK n).Nodup:=by
  unfold allK
  exact List.pairwise_map.2 (List.Pairwise.imp (fun h e=>h (Int.ofNat_inj.1 e)) List.nodup_range)
theorem mem_allK {n:Nat} {k:Int}:k∈allK n↔0<=k/\k<(n:Int):=by
  unfold allK
  constructor
  · exact (by intro h;obtain ⟨i,hi,rfl⟩:=List.mem_map.1 h;have:=List.mem_range.1 hi;omega)
  · exact (by intro h;exact List.mem_map.2 ⟨k.toNat,List.mem_range.2 (by omega),by omega⟩)
theorem keys_perm {jobs:List JS} {jm:List (Int×Nat)} {jcs:List Chunk} (h:JobsP jobs jm jcs):(jm.map (·.1)).Perm ((allK 64).filter fun k=>(jobs.getD k.toNat default).added):=by
  rw [List.perm_ext_iff_of_nodup h.nd ((allK_nd 64).filter _)]
  intro k
  rw [h.k k,List.mem_filter,mem_allK]
  constructor
  · rintro ⟨h1,h2,h3⟩;exact ⟨⟨h1,h2⟩,h3⟩
  · rintro ⟨⟨h1,h2⟩,h3⟩;exact ⟨h1,h2,h3⟩
theorem load_range (jobs:List JS):∀n,n<=jobs.length->((allK n).map (lenJ jobs)).sum=loadL (jobs.take n)
  |0,_=>rfl
  |n+1,h=>by
    have ih:=load_range jobs n (by omega)
    have hj:jobs[n]?=some jobs[n]:=List.getElem?_eq_getElem (by omega)
    rw [loadL_take hj,<-ih]
    unfold allK
    rw [List.range_succ,List.map_append,List.map_append,List.sum_append]
    simp only [List.map_cons,List.map_nil,List.sum_cons,List.sum_nil,Int.add_zero]
    unfold lenJ runJ9
    rw [Int.toNat_natCast,getD_some hj]
theorem sum_filter {f:Int->Int} {p:Int->Bool}:∀{l:List Int},(∀k∈l,p k=false->f k=0)->((l.filter p).map f).sum=(l.map f).sum
  |[],_=>rfl
  |x::l,h=>by
    have ih:=sum_filter (f:=f) (p:=p) (l:=l) fun k hk=>h k (List.mem_cons_of_mem _ hk)
    rw [List.filter_cons]
    cases hx:p x with
    |true=>simp only [if_true,List.map_cons,List.sum_cons,ih]
    |false=>
      have:=h x List.mem_cons_self hx
      simp only [Bool.false_eq_true,if_false,List.map_cons,List.sum_cons,ih,this];omega
theorem run_added {F:FS} {K:Int} (hF:FW F K) {k:Int} (h:(F.jobs.getD k.toNat default).added=false):runJ9 F.jobs k=false:=by
  unfold runJ9
  rcases getD_or F.jobs k.toNat with h1|h1
  · cases hr:(F.jobs.getD k.toNat default).running with
    |false=>rfl
    |true=>have:=(hF.j _ h1).r hr;rw [h] at this;cases this
  · rw [h1];rfl
theorem load_map {F:FS} {K:Int} {jm:List (Int×Nat)} {jcs:List Chunk} (hF:FW F K) (h:JobsP F.jobs jm jcs):((jm.map (·.1)).map (lenJ F.jobs)).sum=loadL F.jobs:=by
  rw [sum_perm ((keys_perm h).map _),sum_filter,load_range F.jobs 64 (by rw [h.l];exact Nat.le_refl _),List.take_of_length_le (by rw [h.l];exact Nat.le_refl _)]
  intro k _ hk
  unfold lenJ;rw [run_added hF hk];rfl
theorem JobsP.mem {jobs:List JS} {jm:List (Int×Nat)} {jcs:List Chunk} {k:Int} {b:Nat} (h:JobsP jobs jm jcs) (hm:(k,b)∈jm):
  ∃(n:Nat) (c:Chunk) (j:JS),jm[n]?=some (k,b)/\jcs[n]?=some c/\JobP b j c/\jobs[k.toNat]?=some j/\j.added=true/\0<=k/\k<64:=by
 obtain ⟨n,hn⟩:=List.getElem?_of_mem hm
 have hb:(jm.map (·.2))[n]?=some b:=by rw [List.getElem?_map,hn];rfl
 obtain ⟨s,c,hs,hc,hR⟩:=h.o.get hb
 rw [List.getElem?_map,hn] at hs
 have hk:=(h.k k).1 (List.mem_map.2 ⟨_,hm,rfl⟩)
 have hl:=h.l
 have b0:k.toNat<jobs.length:=by omega
 have hj:jobs[k.toNat]?=some jobs[k.toNat]:=List.getElem?_eq_getElem b0
 have e:jobs.getD k.toNat default=jobs[k.toNat]:=getD_some hj
 obtain rfl:=Option.some.inj hs
 exact ⟨n,c,jobs[k.toNat],hn,hc,(by have a0:JobP b (jobs.getD k.toNat default) c:=hR;rw [e] at a0;exact a0),hj,by rw [<-e];exact hk.2.2,hk.1,hk.2.1⟩
def RestJ (jm:List (Int×Nat)) (rs:List (Int×Value)):Prop:=∃l:List (Int×Nat),rs=kvJ l/\∀x∈l,x∈jm
theorem RestJ.all (jm:List (Int×Nat)):RestJ jm (kvJ jm):=⟨jm,rfl,fun _ h=>h⟩
theorem RestJ.take {jm:List (Int×Nat)} {rs l1 l2:List (Int×Value)} {q:Int×Value} (h:RestJ jm rs) (e:rs=l1++q::l2):∃(k:Int) (b:Nat),q=(k,ptrV b)/\(k,b)∈jm/\RestJ jm (l1++l2):=by
  obtain ⟨l,rfl,hm⟩:=h
  have e1:l.map (fun x=>(x.1,ptrV x.2))=l1++q::l2:=e
  obtain ⟨a,b',rfl,ha,hb⟩:=List.map_eq_append_iff.1 e1
  obtain ⟨x,c,rfl,hx,hc⟩:=List.map_eq_cons_iff.1 hb
  exact ⟨x.1,x.2,hx.symm,hm x (by simp),a++c,(by rw [<-ha,<-hc];unfold kvJ;rw [List.map_append]),fun y hy=>hm y (by rcases List.mem_append.1 hy with h|h<;>simp [h])⟩
def sumJ (jobs:List JS) (rs:List (Int×Value)):Int:=((rs.map (·.1)).map (lenJ jobs)).sum
theorem sumJ_all {F:FS} {K:Int} {jm:List (Int×Nat)} {jcs:List Chunk} (hF:FW F K) (h:JobsP F.jobs jm jcs):sumJ F.jobs (kvJ jm)=loadL F.jobs:=by
  rw [<-load_map hF h];unfold sumJ kvJ;simp only [List.map_map];rfl
theorem sumJ_take {jobs:List JS} {rs l1 l2:List (Int×Value)} {q:Int×Value} (e:rs=l1++q::l2):sumJ jobs rs=sumJ jobs (l1++l2)+lenJ jobs q.1:=by
  rw [e];unfold sumJ;simp only [List.map_append,List.map_cons,List.sum_append,List.sum_cons];omega
theorem sumJ_nil {jobs:List JS}:sumJ jobs []=0:=rfl
theorem lenJ_at {jobs:List JS} {k:Int} {j:JS} (hj:jobs[k.toNat]?=some j):lenJ jobs k=if j.running=true then (j.tasks.length:Int) else 0:=by unfold lenJ runJ9;rw [getD_some hj]
theorem sumJ_nn {jobs:List JS}:∀{rs:List (Int×Value)},0<=sumJ jobs rs
  |[]=>Int.le_refl _
  |q::rs=>by
    have ih:=sumJ_nn (jobs:=jobs) (rs:=rs)
    have h1:0<=lenJ jobs q.1:=by unfold lenJ;split<;>omega
    unfold sumJ at*;simp only [List.map_cons,List.sum_cons];omega
def runK (jobs:List JS):List Int:=(allK 64).filter (runJ9 jobs)
def keysR (jobs:List JS) (rs:List (Int×Value)):List Int:=(rs.map (·.1)).filter (runJ9 jobs)
theorem keysR_all {F:FS} {K:Int} {jm:List (Int×Nat)} {jcs:List Chunk} (hF:FW F K) (h:JobsP F.jobs jm jcs):(keysR F.jobs (kvJ jm)).Perm (runK F.jobs):=by
  have h1:(kvJ jm).map (·.1)=jm.map (·.1):=by unfold kvJ;rw [List.map_map];rfl
  unfold keysR runK
  rw [h1]
  have h2:=(keys_perm h).filter (runJ9 F.jobs)
  rw [List.filter_filter] at h2
  refine h2.trans (List.Perm.of_eq ?_)
  apply List.filter_congr
  intro k _
  cases ha:(F.jobs.getD k.toNat default).added with
  |true=>rw [Bool.and_true]
  |false=>rw [run_added hF ha];rfl
theorem keysR_take {jobs:List JS} {rs l1 l2:List (Int×Value)} {q:Int×Value} {zs T:List Int} (e:rs=l1++q::l2) (hp:(zs++keysR jobs rs).Perm T):(zs++(if runJ9 jobs q.1 then [q.1] else [])++keysR jobs (l1++l2)).Perm T:=by
  refine List.Perm.trans ?_ hp
  rw [e]
  unfold keysR
  simp only [List.map_append,List.map_cons,List.filter_append,List.filter_cons]
  rw [List.append_assoc]
  apply List.Perm.append_left
  split
  · rw [List.singleton_append];exact List.perm_middle.symm
  · exact List.Perm.refl _
theorem load_max {F:FS} {K:Int} (hF:FW F K):loadL F.jobs<=300000:=by
  have h:∀l:List JS,(∀j∈l,j.tasks.length<=4096)->loadL l<=4096*(l.length:Int):=by
    intro l
    induction l with
    |nil=>intro _;decide
    |cons j l ih=>
      intro h
      have h1:=ih fun y hy=>h y (List.mem_cons_of_mem _ hy)
      have h2:=h j List.mem_cons_self
      rw [loadL_cons,List.length_cons];split<;>omega
  have h1:=h F.jobs fun j hj=>(hF.j j hj).n
  rw [hF.jl] at h1;omega
theorem cl_int_n (n k:Nat) (xs:List Int) (h:RdT Go.E.encI 1 [H] none n k xs) (hb:n<=4096) (hS:Sat W w (H::F)):
    Calls prog 107 #[.slice none n k] w fun e w'=>∃(az:Option Addr) (nz kz:Nat) (Z:Chunk),e= .returned (.slice az nz kz)/\OwnT Go.E.encI 3 1 az nz kz xs Z/\Sat W w' (Z::H::F):=by
  have hn:=h.ll
  exact callsK 8 func107 rfl<|jCR 20 rfl<|retT [nS]<|(by have hz:=own_none h;have a0:=Sat.nilc hS;exact ⟨_,_,_,_,rfl,by rw [hz];exact OwnT.nil (fun _=>rfl),a0⟩)
theorem cl_int_s (a:Addr) (n k:Nat) (xs:List Int) (h:RdT Go.E.encI 1 [H] (some a) n k xs) (hb:n<=4096) (hS:Sat W w (H::F)):
  Calls prog 107 #[.slice (some a) n k] w fun e w'=>∃(az:Option Addr) (nz kz:Nat) (Z:Chunk),e= .returned (.slice az nz kz)/\OwnT Go.E.encI 3 1 az nz kz xs Z/\Sat W w' (Z::H::F):=by
 have hn:=h.ll
 exact callsK 8 func107 rfl<|jCO 17 rfl<|sBK hS #[] 3 fun a0 _ b0=>pu1<|sApp (nb:=8) b0 (OwnT.blk (enc:=Go.E.encI) (sz:=1) (b:=a0) (c:=#[]) (E:=3) (xs:=[]) fR 0 rfl rfl rfl om) 0 (h.up 1 rfl) underlying22 (i:=Tryz.t3) kr fR fun d0 e0 _ _ f0 g0=>jOR 4 rfl<|retT [.slice d0 (0+n) e0]<|(by have c0:=f0;rw [List.nil_append] at c0;exact ⟨_,_,_,_,rfl,c0,g0⟩)
theorem cl_int {W w:World} {H:Chunk} {F:List Chunk} (a:Option Addr) (n k:Nat) (xs:List Int) (h:RdT Go.E.encI 1 [H] a n k xs) (hb:n<=4096) (hS:Sat W w (H::F)):
    Calls prog 107 #[.slice a n k] w fun e w'=>∃(az:Option Addr) (nz kz:Nat) (Z:Chunk),e= .returned (.slice az nz kz)/\OwnT Go.E.encI 3 1 az nz kz xs Z/\Sat W w' (Z::H::F):=by
  cases a with
  |none=>exact cl_int_n n k xs h hb hS
  |some a=>exact cl_int_s a n k xs h hb hS
theorem cl_task_n (n k:Nat) (xs:List Task) (h:RdT encTask 9 [H] none n k xs) (hb:n<=4096) (hS:Sat W w (H::F)):
    Calls prog 106 #[.slice none n k] w fun e w'=>∃(az:Option Addr) (nz kz:Nat) (Z:Chunk),e= .returned (.slice az nz kz)/\OwnT encTask 51 9 az nz kz xs Z/\Sat W w' (Z::H::F):=by
  have hn:=h.ll
  exact callsK 8 func106 rfl<|jCR 20 rfl<|retT [nS]<|(by have hz:=own_none h;have a0:=Sat.nilc hS;exact ⟨_,_,_,_,rfl,by rw [hz];exact OwnT.nil (fun _=>rfl),a0⟩)
theorem cl_task_s (a:Addr) (n k:Nat) (xs:List Task) (h:RdT encTask 9 [H] (some a) n k xs) (hb:n<=4096) (hS:Sat W w (H::F)):
  Calls prog 106 #[.slice (some a) n k] w fun e w'=>∃(az:Option Addr) (nz kz:Nat) (Z:Chunk),e= .returned (.slice az nz kz)/\OwnT encTask 51 9 az nz kz xs Z/\Sat W w' (Z::H::F):=by
 have hn:=h.ll
 exact callsK 8 func106 rfl<|jCO 17 rfl<|sBK hS #[] 51 fun a0 _ b0=>pu1<|sApp (nb:=88) b0 (OwnT.blk (enc:=encTask) (sz:=9) (b:=a0) (c:=#[]) (E:=51) (xs:=[]) fR 0 rfl rfl rfl om) 0 (h.up 1 rfl) underlying45 (i:=Tryz.t51) kr fR fun d0 e0 _ _ f0 g0=>jOR 4 rfl<|retT [.slice d0 (0+n) e0]<|(by have c0:=f0;rw [List.nil_append] at c0;exact ⟨_,_,_,_,rfl,c0,g0⟩)
theorem cl_task {W w:World} {H:Chunk} {F:List Chunk} (a:Option Addr) (n k:Nat) (xs:List Task) (h:RdT encTask 9 [H] a n k xs) (hb:n<=4096) (hS:Sat W w (H::F)):
    Calls prog 106 #[.slice a n k] w fun e w'=>∃(az:Option Addr) (nz kz:Nat) (Z:Chunk),e= .returned (.slice az nz kz)/\OwnT encTask 51 9 az nz kz xs Z/\Sat W w' (Z::H::F):=by
  cases a with
  |none=>exact cl_task_n n k xs h hb hS
  |some a=>exact cl_task_s a n k xs h hb hS
theorem cl_ref_n (n k:Nat) (xs:List Ref) (h:RdT encRef 2 [H] none n k xs) (hb:n<=4096) (hS:Sat W w (H::F)):
    Calls prog 182 #[.slice none n k] w fun e w'=>∃(az:Option Addr) (nz kz:Nat) (Z:Chunk),e= .returned (.slice az nz kz)/\OwnT encRef 61 2 az nz kz xs Z/\Sat W w' (Z::H::F):=by
  have hn:=h.ll
  exact callsK 8 func182 rfl<|jCR 20 rfl<|retT [nS]<|(by have hz:=own_none h;have a0:=Sat.nilc hS;exact ⟨_,_,_,_,rfl,by rw [hz];exact OwnT.nil (fun _=>rfl),a0⟩)
theorem cl_ref_s (a:Addr) (n k:Nat) (xs:List Ref) (h:RdT encRef 2 [H] (some a) n k xs) (hb:n<=4096) (hS:Sat W w (H::F)):
  Calls prog 182 #[.slice (some a) n k] w fun e w'=>∃(az:Option Addr) (nz kz:Nat) (Z:Chunk),e= .returned (.slice az nz kz)/\OwnT encRef 61 2 az nz kz xs Z/\Sat W w' (Z::H::F):=by
 have hn:=h.ll
 exact callsK 8 func182 rfl<|jCO 17 rfl<|sBK hS #[] 61 fun a0 _ b0=>pu1<|sApp (nb:=16) b0 (OwnT.blk (enc:=encRef) (sz:=2) (b:=a0) (c:=#[]) (E:=61) (xs:=[]) fR 0 rfl rfl rfl om) 0 (h.up 1 rfl) underlying125 (i:=Tryz.t61) kr fR fun d0 e0 _ _ f0 g0=>jOR 4 rfl<|retT [.slice d0 (0+n) e0]<|(by have c0:=f0;rw [List.nil_append] at c0;exact ⟨_,_,_,_,rfl,c0,g0⟩)
theorem cl_ref {W w:World} {H:Chunk} {F:List Chunk} (a:Option Addr) (n k:Nat) (xs:List Ref) (h:RdT encRef 2 [H] a n k xs) (hb:n<=4096) (hS:Sat W w (H::F)):
    Calls prog 182 #[.slice a n k] w fun e w'=>∃(az:Option Addr) (nz kz:Nat) (Z:Chunk),e= .returned (.slice az nz kz)/\OwnT encRef 61 2 az nz kz xs Z/\Sat W w' (Z::H::F):=by
  cases a with
  |none=>exact cl_ref_n n k xs h hb hS
  |some a=>exact cl_ref_s a n k xs h hb hS
theorem p_copies (al:Option Addr) (nl kl:Nat) (l:List Task) (hl:RdT encTask 9 [H] al nl kl l) (dl:∀z∈l,Task.Ok [H] z) (hb:nl<=4096) (hdb:∀z∈l,z.deps.l.length<=4096) (hS:Sat W w (H::F)):
  Calls prog 53 #[.slice al nl kl] w fun e w'=>∃(az:Option Addr) (nz kz:Nat) (zs:List Task) (C G:Chunk),e= .returned (.slice az nz kz)/\OwnT encTask 51 9 az nz kz zs C/\(∀z∈zs,Task.Ok [G] z)/\zs.map Task.v=l.map Task.v/\Sat W w' (C::G::H::F):=by
 have H0:=hl.ll
 refine callsK 24 func53 rfl<|jCO 8 rfl<|cZ (cl_task al nl kl l (hl.fl 0) om hS.flat) ?_
 rintro _ _ ⟨m0,h0,n0,p0,rfl,i0,q0⟩
 have r0:=q0.unflat1;have F0:=i0.ll
 refine jOC 12 rfl<|loopF [0,3,8] (γ:=Nat×(List Task)×Chunk×Chunk) (fun ⟨i,zs,C,G⟩ R=>⟨[(9,I (i:Int))],G::C::R,nl-i,i<=nl/\(OwnT encTask 51 9 m0 h0 n0 zs C)/\(zs.drop i=l.drop i)/\(zs.map Task.v=l.map Task.v)/\((∀z∈zs.take i,Task.Ok [G] z))⟩) (0,l,p0,[]) ⟨(Sat.nilc r0),om,i0,rfl,rfl,(by intro z hz;simp at hz)⟩ ?_
 rintro ⟨i,zs,C,G⟩ ρ _ ⟨j0,hi,s0,hT,hV,hD⟩
 have L0:=s0.ll;have I0:=congrArg List.length hV;rw [List.length_map,List.length_map] at I0
 refine jCC 6 rfl<|CD ((i:Int)<(h0:Int)) (fun t0=>jCR 12 rfl<|retT [.slice m0 h0 n0]<|(by rw [List.take_of_length_le om] at hD;exact ⟨_,_,_,_,_,_,rfl,s0,hD,hV,(j0.pick 1 rfl)⟩)) fun t0=>jCO 15 rfl<|sIN hl i fun a0 _ _ b0 v0=>?_
 have u0:=hdb a0 (List.mem_of_getElem? b0);have B0:=(dl a0 (List.mem_of_getElem? b0)).deps.len;have A0:=(dl a0 (List.mem_of_getElem? b0)).deps.le
 refine pu1<|sMp j0 (v0.up 2 rfl) 6 (.slice a0.deps.a a0.deps.n a0.deps.k)<|cZ (cl_int a0.deps.a a0.deps.n a0.deps.k a0.deps.l (RdT.flat ((dl a0 (List.mem_of_getElem? b0)).deps.up 2 (by rfl))) om j0.flat) ?_
 rintro _ _ ⟨c0,d0,e0,f0,rfl,k0,w0⟩
 have x0:=w0.unflat1;have D0:=k0.ll
 exact sIO s0 (i:Int) i fun g0 _ _ l0 _ y0=>pu1<|sStF x0 s0 y0 2 i 6 g0 ({g0 with deps:=⟨c0,d0,e0,a0.deps.l⟩}:Task) l0 (.slice c0 d0 e0) [.slice c0 d0 e0] sizeOf22 fun _ o0 z0 a1=>jOO 4 rfl<|sAdd (i:Int) 1<|jOI 2 rfl<|(by have J0:=drop_same hT l0 b0;have G0:=cop_step (y:=({g0 with deps:=⟨c0,d0,e0,a0.deps.l⟩}:Task)) (Z:=f0) hT hV hD l0 (by rw [J0];rfl) ⟨k0.rdAt (cs:=[f0]) 0 rfl⟩;exact ⟨(i+1,(zs.set i ({g0 with deps:=⟨c0,d0,e0,a0.deps.l⟩}:Task)),o0,(f0++G)),od,alB,(Sat.perm (cs':=((f0++G)::o0::H::F)) a1 (by simp)),om,z0,G0.1,G0.2.1,G0.2.2⟩)
theorem pf_load {p:Nat} {F:FS} {M:Chunk} {F0:List Chunk} (hR:FarmP p F M) {K:Int} (hF:FI F K) (hS:Sat W w (M::H::F0)):
  Calls prog 52 #[Pt p 0] w fun e w'=>e= .returned (I (loadL F.jobs))/\Sat W w' (M::H::F0):=by
 obtain ⟨wb,wo,wn,wk,q,m,xs,jm,Wc,Qc,Jc,N0,O0,Z0,rfl,M0,T0,P0,Q0,hQ,hM,J0⟩:=hR
 have n0:Sat W _ ((Tri p 83 (preP F.cfg wb wo wn wk q m) (([]:List Ref).flatMap encRef) (encStt F.st))::Wc::N0.flatten::O0.flatten::Qc::Jc::Z0.flatten::H::F0):=Sat.perm hS (by simp)
 have E1:=M0.ll;have v1:=core_len T0;have K0:=P0.1;have L0:=Q0.1;rw [List.length_map] at K0 L0;have U0:=J0.l
 have C1:=sumJ_all hF.fw J0;have W0:=hF.q.ld;have V0:loadL F.jobs<=300000:=load_max hF.fw
 refine callsK 25 func52 rfl<|jCO 16 rfl<|sMp n0 (ptr_up 0 rfl tri_pre) 10 (.map (some m))<|sRangeI n0 5 hM runUnderlying80 fun c1 d1 _ e1 f1=>jOC 3 rfl<|loopF [10] (γ:=(List (Int×Value))×(Option (Int×Value))×Chunk×Int) (fun ⟨rs,lt,ci,ln⟩ R=>⟨[(3,I ln)],ci::R,rs.length,RngI c1 m (kvJ jm) rs lt Jc ci/\RestJ jm rs/\(ln+sumJ F.jobs rs=loadL F.jobs)/\(0<=ln)⟩) ((kvJ jm),none,d1,0) ⟨f1,e1,(RestJ.all jm),om,om⟩ ?_
 rintro ⟨rs,lt,ci,ln⟩ ρ _ ⟨o0,S0,R0,B1,A1⟩
 have X0:=sumJ_nn (jobs:=F.jobs) (rs:=rs)
 refine jCO 2 rfl<|sNextI o0 6 0 S0 (fun g1=>?_) (fun e0 f2 f0 p0 g2 b0 h0 q0=>?_)
 ·exact jOR 17 rfl<|retT [I ln]<|(by have h1:=(o0.dropAt 0 rfl);have i1:=(h1.merge7);have Y0:=sumJ_nil (jobs:=F.jobs);rw [<-g1] at Y0;exact ⟨congrArg (fun z=>Ending.returned (I z)) om,i1⟩)
 obtain ⟨i0,c0,rfl,j1,r0⟩:=R0.take b0
 refine jOO 10 rfl<|sEntryI (q:=(i0,ptrV c0)) q0 6 0 h0 ?_
 obtain ⟨j0,h2,a0,i2,d0,k1,k0,s0,H0,I0⟩:=JobsP.mem J0 j1
 obtain ⟨t0,g0,u0,j2,v0,w0,x0,rfl,y0,l1,z0,m1,_,n1⟩:=k1.open
 have o1:=(q0.pick 7 rfl)
 have q1:=Sat.openN (A:=[]) j0 d0 o1
 have r1:=q1.split3
 have A0:=hF.fw.j a0 (List.mem_of_getElem? k0);obtain ⟨s1,t1,_,_⟩:=A0.b s0;have G0:=A0.n
 have E0:=y0.len;have C0:=congrArg List.length z0;rw [List.length_map] at C0
 refine jOO 7 rfl ?_
 have u1:=(r1.picks [2,2,2])
 refine cZ (p_running (s:=a0) (JobP.mk (s:=a0) y0 l1 z0 m1 s0 n1 rfl) s1 t1 u1.merge3) ?_
 rintro _ _ ⟨rfl,w1⟩
 have l0:=w1.split3
 refine jOC 2 rfl<|CB a0.running (fun m0=>jCI 2 rfl<|(by have x1:=(l0.picks [3,3,3,3]);have y1:=x1.merge3;have a1:=Sat.shutN (d:=([(c0, .cells #[.slice t0 g0 u0,I a0.band,Pt v0 0, .bool (canc a0)] 117 (0,0))]++(w0++x0))) (A:=[]) j0 d0 y1;rw [set_same d0] at a1;have D0:=sumJ_take (jobs:=F.jobs) b0;rw [lenJ_at k0,if_neg m0] at D0;have z1:=(a1.picks [7,7,7,7,7,7,7]);have B0:((e0++f0)).length<rs.length:=(by rw [b0];simp only [List.length_append,List.length_cons];omega);exact ⟨((e0++f0),(some (i0,ptrV c0)),p0,ln),by first|exact B0|(dsimp only;exact B0),alB,z1,h0,r0,om,om⟩)) fun m0=>gCO l0 7 [0] rfl<|sAdd ln (g0:Int)<|jOI 3 rfl ?_
 have a2:=(l0.picks [3,3,3,3])
 have b2:=a2.merge3
 have b1:=Sat.shutN (d:=([(c0, .cells #[.slice t0 g0 u0,I a0.band,Pt v0 0, .bool (canc a0)] 117 (0,0))]++(w0++x0))) (A:=[]) j0 d0 b2
 rw [set_same d0] at b1
 have D0:=sumJ_take (jobs:=F.jobs) b0;rw [lenJ_at k0,if_pos m0] at D0
 have c2:=(b1.picks [7,7,7,7,7,7,7])
 have B0:((e0++f0)).length<rs.length:=by rw [b0];simp only [List.length_append,List.length_cons];omega
 exact ⟨((e0++f0),(some (i0,ptrV c0)),p0,(ln+(g0:Int))),by first|exact B0|(dsimp only;exact B0),alB,c2,h0,r0,om,om⟩
theorem p_within (n:Int) (a:Int) (b:Int) (hS:Sat W w (H::F)):
    Ro prog 103 #[.int .i64 n, .int .i64 a, .int .i64 b] (.bool (decide ((a<=n/\n<=b)))) W w (H::F):=by
  exact callsK 15 func103 rfl<|jCO 11 rfl<|SD 10 (n>=a) (fun a0=>jOR 8 rfl<|retT [.bool false]<|⟨rB ((decide_eq_false (by omega)).symm),hS⟩) fun a0=>jOR 8 rfl<|retT [.bool (decide ((n:Int)<=b))]<|⟨rB (by rw [Bool.eq_iff_iff];simp only [decide_eq_true_eq,ge_iff_le];omega),hS⟩
theorem p_valid (c:Cfg) (hS:Sat W w (H::F)):
  Ro prog 42 #[.agg (encCfg c).toArray] (I (validCfg c)) W w (H::F):=by
 refine callsA 44 func42 rfl<|sR<|sBx hS (encCfg c) fun _ _ h0=>pu1<|zS<|pu1<|sM h0 0 0 (I c.workers)<|cS (p_within c.workers 1 64 h0.flat) fun _ a0=>pu1<|SD 7 ((1<=c.workers/\c.workers<=64)) (fun j0=>pu16<|pu16<|pu3<|zQ<|pu2<|zC<|pu1<|zR<|retT [I 2]<|⟨congrArg (fun z=>Ending.returned (I z)) (by unfold validCfg;rw [if_neg om]),(a0.dropAt 0 rfl)⟩) fun j0=>pu1<|gY<|sM a0 0 1 (I c.tileW)<|gY<|cS (p_within c.tileW 1 64 a0.flat) fun _ b0=>pu2<|SD 12 ((1<=c.tileW/\c.tileW<=64)) (fun l0=>pu16<|pu14<|zQ<|pu2<|zC<|pu1<|zR<|retT [I 2]<|⟨congrArg (fun z=>Ending.returned (I z)) (by unfold validCfg;rw [if_neg om]),(b0.dropAt 0 rfl)⟩) fun l0=>pu1<|gY<|sM b0 0 2 (I c.tileH)<|gY<|cS (p_within c.tileH 1 64 b0.flat) fun _ c0=>pu2<|SD 17 ((1<=c.tileH/\c.tileH<=64)) (fun n0=>pu16<|pu9<|zQ<|pu2<|zC<|pu1<|zR<|retT [I 2]<|⟨congrArg (fun z=>Ending.returned (I z)) (by unfold validCfg;rw [if_neg om]),(c0.dropAt 0 rfl)⟩) fun n0=>pu1<|gY<|sM c0 0 3 (I c.arena)<|gY<|cS (p_within c.arena 0 1048576 c0.flat) fun _ d0=>pu2<|SD 22 ((0<=c.arena/\c.arena<=1048576)) (fun p0=>pu16<|pu4<|zQ<|pu2<|zC<|pu1<|zR<|retT [I 2]<|⟨congrArg (fun z=>Ending.returned (I z)) (by unfold validCfg;rw [if_neg om]),(d0.dropAt 0 rfl)⟩) fun p0=>pu1<|gY<|sM d0 0 4 (I c.deque)<|gY<|cS (p_within c.deque 1 256 d0.flat) fun _ e0=>pu2<|SD 27 ((1<=c.deque/\c.deque<=256)) (fun r0=>pu15<|zQ<|pu2<|zC<|pu1<|zR<|retT [I 2]<|⟨congrArg (fun z=>Ending.returned (I z)) (by unfold validCfg;rw [if_neg om]),(e0.dropAt 0 rfl)⟩) fun r0=>?_
 exact pu1<|gY<|sM e0 0 5 (I c.tasks)<|gY<|cS (p_within c.tasks 1 4096 e0.flat) fun _ f0=>pu2<|SD 32 ((1<=c.tasks/\c.tasks<=4096)) (fun t0=>pu10<|zQ<|pu2<|zC<|pu1<|zR<|retT [I 2]<|⟨congrArg (fun z=>Ending.returned (I z)) (by unfold validCfg;rw [if_neg om]),(f0.dropAt 0 rfl)⟩) fun t0=>pu1<|gY<|sM f0 0 6 (I c.cells)<|gY<|cS (p_within c.cells 1 1048576 f0.flat) fun _ g0=>pu2<|SD 37 ((1<=c.cells/\c.cells<=1048576)) (fun v0=>pu5<|zQ<|pu2<|zC<|pu1<|zR<|retT [I 2]<|⟨congrArg (fun z=>Ending.returned (I z)) (by unfold validCfg;rw [if_neg om]),(g0.dropAt 0 rfl)⟩) fun v0=>pu1<|gY<|sM g0 0 7 (I c.jobs)<|gY<|cS (p_within c.jobs 1 64 g0.flat) fun _ i0=>pu2<|zQ<|pu2<|nT<|CDn ((1<=c.jobs/\c.jobs<=64)) (fun x0=>sR<|pu1<|zR<|retT [I 2]<|⟨congrArg (fun z=>Ending.returned (I z)) (by unfold validCfg;rw [if_neg om]),(i0.dropAt 0 rfl)⟩) fun x0=>kS<|pu1<|zE<|retT [I 0]<|⟨congrArg (fun z=>Ending.returned (I z)) (by unfold validCfg;rw [if_pos om]),(i0.dropAt 0 rfl)⟩
theorem valid_deps {l:List Task} (hv:validC l=0):∀z∈l,z.deps.l.length<=4096:=by
  intro z hz
  obtain ⟨i,hi⟩:=List.getElem?_of_mem hz
  have h1:=tasksOK_at (validC_zero hv).2.2 hi
  have h3:=asc_len (by omega) (taskOK_asc h1)
  have h4:=(validC_zero hv).2.1
  have h5:=(List.getElem?_eq_some_iff.1 hi).1
  omega
theorem kv_snoc {jm:List (Int×Nat)} {k:Int} {b:Nat}:kvJ jm++[(k,ptrV b)]=kvJ (jm++[(k,b)]):=by unfold kvJ;rw [List.map_append];rfl
theorem JobsP.add {jobs:List JS} {jm:List (Int×Nat)} {jcs:List Chunk} {k:Int} {b:Nat} {j2:JS} {c2:Chunk} (h:JobsP jobs jm jcs) (hk:0<=k/\k<64) (hno:(jobs.getD k.toNat default).added=false) (hR:JobP b j2 c2) (ha:j2.added=true):
  JobsP (jobs.set k.toNat j2) (jm++[(k,b)]) (jcs++[c2]):=by
 have hl:=h.l
 have a0:k∉jm.map (·.1):=fun hm=>by have:=((h.k k).1 hm).2.2;rw [hno] at this;cases this
 have e:(jm.map fun x=>(jobs.set k.toNat j2).getD x.1.toNat default)=(jm.map fun x=>jobs.getD x.1.toNat default):=(by apply List.map_congr_left;intro x hx;rw [getD_set' om,if_neg];intro q;have b0:=(h.k x.1).1 (List.mem_map.2 ⟨x,hx,rfl⟩);have q2:k=x.1:=(by omega);exact a0 (by rw [q2];exact List.mem_map.2 ⟨x,hx,rfl⟩))
 refine ⟨?_,?_,?_,by rw [List.length_set];exact hl⟩
 · exact (by rw [List.map_append,List.map_append,e];exact Obs.snoc h.o<|(by show JobP b ((jobs.set k.toNat j2).getD k.toNat default) c2;rw [getD_set' om,if_pos rfl];exact hR))
 · exact (by rw [List.map_append,List.nodup_append];refine ⟨h.nd,by simp,?_⟩;intro a ha b' hb';obtain rfl:b'=k:=(by simpa using hb');exact fun q=>a0 (by rw [<-q];exact ha))
 ·intro i
  rw [List.map_append,List.mem_append,h.k i,getD_set' om]
  constructor
  ·rintro (⟨h1,h2,h3⟩|h1)
   ·refine ⟨h1,h2,?_⟩
    split
    ·exact ha
    ·exact h3
   · exact (by obtain rfl:i=k:=(by simpa using h1);exact ⟨hk.1,hk.2,by rw [if_pos rfl];exact ha⟩)
  ·rintro ⟨h1,h2,h3⟩
   by_cases q:k=i
   ·right;subst q;simp
   · exact (by left;rw [if_neg om] at h3;exact ⟨h1,h2,h3⟩)
theorem own_some {α:Type} {enc:α->List Value} {E sz:Nat} {a:Option Addr} {n k:Nat} {xs:List α} {c:Chunk} (h:OwnT enc E sz a n k xs c) (hn:0<n):∃b o:Nat,a=some ⟨b,o,none⟩:=by
  rcases h.2.2.2 with ⟨_,h0,_⟩|⟨b,a0,_,h1,_⟩
  · omega
  · exact ⟨b,a0,h1⟩
theorem jobs_zero:JobsP (List.replicate 64 JS.zero) [] []:=by
  refine ⟨Obs.nil _,by simp,?_,by simp⟩
  intro i
  constructor
  · intro h;cases h
  · rintro ⟨_,_,h⟩
    have e:(List.replicate 64 JS.zero).getD i.toNat default=JS.zero:=(by rw [List.getD_eq_getElem?_getD,List.getElem?_replicate];split<;>rfl)
    rw [e] at h;cases h
theorem pf_add {p:Nat} {F:FS} {M:Chunk} {F0:List Chunk} (hR:FarmP p F M) {K:Int} (hF:FI F K) {j:JS} (x:Int) (al:Option Addr) (nl kl:Nat) (l:List Task) (bd:Int) (hl:RdT encTask 9 [H] al nl kl l) (dl:∀z∈l,Task.Ok [H] z) (hx:0<=x/\x<64) (hj:F.jobs[x.toNat]?=some j) (ha:j.added=false) (hb:0<=bd/\bd<4) (hv:validC l=0) (hsc:∀z∈l,z.scratch<=F.cfg.arena) (hct:0<=F.cfg.tasks/\F.cfg.tasks<=4096) (htk:(l.length:Int)<=F.cfg.tasks-loadL F.jobs) (hS:Sat W w (M::H::F0)):
  Calls prog 19 #[Pt p 0,I x, .slice al nl kl,I bd] w fun e w'=>∃M':Chunk,e= .returned (I 0)/\FarmP p (addF F x l bd) M'/\Sat W w' (M'::H::F0):=by
 have W0:=hl.ll
 obtain ⟨wb,wo,wn,wk,q,m,xs,jm,Wc,Qc,Jc,D0,E0,N0,rfl,M0,R0,O0,P0,hQ,hM,L0⟩:=hR
 have b1:Sat W _ ((Tri p 83 (preP F.cfg wb wo wn wk q m) (([]:List Ref).flatMap encRef) (encStt F.st))::Wc::D0.flatten::E0.flatten::Qc::Jc::N0.flatten::H::F0):=Sat.perm hS (by simp)
 have K1:=M0.ll;have Y0:=core_len R0;have Q0:=O0.1;have S0:=P0.1;rw [List.length_map] at Q0 S0;have V0:=L0.l
 have hg:=JobsP.no L0 (k:=x) (fun h=>by rw [getD_some hj,ha] at h;exact absurd h.2.2 (by decide))
 have C1:=hF.st.a;have D1:=hF.st.b;have E1:=hF.st.c;have F1:=hF.st.d;have G1:=hF.st.e;have H1:=hF.st.f;have I1:=hF.st.g;have A1:=hF.fw.n;have X0:=validC_zero hv;have q1:=X0.2.1;have i1:0<=loadL F.jobs:=Int.natCast_nonneg _;have Z0:=idx_le (y:=2) (s:=(newB l).st) (k:=0);have B1:(newB l).st.length=l.length:=by simp [newB]
 refine callsK 98 func19 rfl<|jCO 9 rfl<|cZ (p_empty ⟨om,om⟩ b1) ?_
 rintro _ _ ⟨rfl,l0⟩
 refine jOO 11 rfl<|sD 19 (x<0) (fun c1=>jOR 13 rfl<|retT [I 16]<|(by omega)) fun c1=>jOC 5 rfl<|cD (x>=64) (fun d1=>jCR 7 rfl<|retT [I 16]<|(by omega)) fun d1=>jCO 8 rfl<|sMp l0 (ptr_up 0 rfl tri_pre) 10 (.map (some m))<|pu1<|stepY (.pointer none) rfl rfl (Y_iget (k:=x) l0 5 hM (by rw [hg];rfl) runUnderlying80 runUnderlying3 zeroValue110)<|jOO 12 rfl<|sD 32 (bd<0) (fun e1=>jOR 13 rfl<|retT [I 2]<|(by omega)) fun e1=>jOC 5 rfl<|cD (bd>=4) (fun f1=>jCR 7 rfl<|retT [I 2]<|(by omega)) fun f1=>jCO 5 rfl<|cZ (b_new al nl kl l (hl.fl 7) (fun z hz=>(dl z hz).of_mem (mF 7)) l0.flat) ?_
 rintro _ _ (⟨m0,rfl,n0⟩|⟨m0,b0,_,rfl,g1,n0⟩)
 · exact (by have z2:=n0.unflat;exact jOC 14 rfl<|(by have h1:¬(((validC l):Int)=0):=m0;exact cT _ (bne_iff_ne.2 h1)<|jCR 8 rfl<|retT [I (validC l)]<|absurd hv m0))
 refine jOC 26 rfl<|loopF [0,1,2,3,9,44,45] (γ:=Nat) (fun i R=>⟨[(46,I (i:Int))],R,nl-i,i<=nl⟩) 0 ⟨n0.unflat1,om⟩ ?_
 rintro i ρ _ ⟨i0,hi⟩
 refine jCC 6 rfl<|cD ((i:Int)<(nl:Int)) (fun j1=>jCO 6 rfl<|sIN hl i fun c0 _ _ w0 k1=>(by have K0:=hsc c0 (List.mem_of_getElem? w0);exact sMA i0 (k1.up 8 rfl) 0 (encTask c0)<|sAlloc i0 zeroValue51 fun l1 _ m1=>sTk m1 0 rfl (encTask c0) fun _ o0=>jOC 3 rfl<|drawE [] [(1,⟨l1,8,none⟩,I c0.scratch),(6,⟨p,3,none⟩,I F.cfg.arena)] [(true,[0,2,3,4,5]),(true,[1]),(true,[6]),(true,[7])] rfl kr ⟨cI o0 0, .inr (cell_up o0 2 rfl (k:=3) tri_pre rfl),trivial⟩<|(by have n1:=o0.drew;exact wU [0,2,3,4,5]<|wLd (I c0.scratch) 0 isAgg3<|wLd (I F.cfg.arena) 1 isAgg3<|wU [7]<|wN<|jXC 1 rfl<|cD (c0.scratch>F.cfg.arena) (fun o1=>jCR 11 rfl<|retT [I 12]<|(by omega)) fun o1=>jCO 4 rfl<|sAdd (i:Int) 1<|jOI 2 rfl<|⟨i+1,od,alB,(n1.dropAt 0 rfl),om⟩))) fun j1=>jCC 7 rfl<|drawE [3] [(9,⟨p,5,none⟩,I F.cfg.tasks)] [(true,[0,1,2,5,6,7,8]),(true,[9]),(false,[3]),(true,[4]),(true,[10])] rfl kr ⟨.inr (cell_up i0 1 rfl (k:=5) tri_pre rfl),trivial⟩ ?_
 have r1:=i0.drew
 refine wU [0,1,2,5,6,7,8]<|wLd (I F.cfg.tasks) 0 isAgg3<|wO rfl ?_
 have s1:=(r1.picks [7,7,7,7,7,7,7])
 have t1:=(s1.merge7)
 have u1:FarmP p F ((Tri p 83 (preP F.cfg wb wo wn wk q m) (([]:List Ref).flatMap encRef) (encStt F.st))++(Wc++(D0.flatten++(E0.flatten++(Qc++(Jc++N0.flatten)))))):=⟨_,_,_,_,_,_,_,_,_,_,_,_,_,_,rfl,M0,R0,O0,P0,hQ,hM,L0⟩
 refine cZ (pf_load u1 hF t1.flat1) ?_
 rintro _ _ ⟨rfl,v1⟩
 have w1:=v1.unflat1
 have p0:=w1.split7
 refine nilO ⟨⟨.inr (cell_up p0 0 rfl (k:=5) tri_pre rfl),trivial⟩,?_⟩
 refine wAdd (nl:Int) (loadL F.jobs)<|wU [10]<|wN<|jXC 1 rfl ?_
 have x1:¬((((nl:Int)+(loadL F.jobs)):Int)>F.cfg.tasks):=om
 refine cF _ (decide_eq_false x1)<|jCC 3 rfl<|drawE [6,10,11] [(3,⟨p,10,none⟩, .map (some m))] [(true,[0,1,2,4,5,7,8]),(true,[3]),(false,[6]),(true,[9]),(false,[10]),(false,[11])] rfl kr ⟨.inr (cell_up p0 0 rfl (k:=10) tri_pre rfl),trivial⟩ ?_
 have y1:=p0.drew
 refine wU [0,1,2,4,5,7,8]<|wLd (.map (some m)) 0 isAgg80<|wO rfl<|cZ (p_copies al nl kl l (hl.fl 8) (fun z hz=>(dl z hz).of_mem (mF 8)) om (valid_deps hv) y1.flat) ?_
 rintro _ _ ⟨d0,e0,f0,_,g0,h0,rfl,q0,z1,x0,a2⟩
 have y0:=a2.unflat2;have I0:=q0.ll;have A0:=congrArg List.length x0;rw [List.length_map,List.length_map] at A0
 refine nilO ⟨⟨.inr (cell_up y0 2 rfl (k:=10) tri_pre rfl),trivial⟩,?_⟩
 refine wU [9]<|wO rfl<|sBx y0 [.slice d0 e0 f0,I bd,Pt b0 0, .bool false] fun a0 _ z0=>nilO ⟨⟨.inr (cell_up z0 3 rfl (k:=10) tri_pre rfl),trivial⟩,?_⟩
 refine wO rfl<|sIAdd (k:=x) (v:=Pt a0 0) z0 8 hM hg runUnderlying80 runUnderlying3 fun r0 _ b2 d2=>?_
 have B0:MapI m (kvJ (jm++[(x,a0)])) r0:=by rw [<-kv_snoc];exact b2
 refine nilO ⟨dA,?_⟩
 refine wN<|jXO 5 rfl ?_
 have e2:=(d2.pick 10 rfl)
 refine cZ (b_ready g1 (new_wf hv) e2.flat1) ?_
 rintro _ _ ⟨_,s0,_,t0,j0,rfl,u0,f2,g2⟩
 have h2:=g2.unflat2;have J0:=u0.ll
 refine jOC 5 rfl<|loopF [0,1,3,82,83] (γ:=Nat×QS×Chunk) (fun ⟨i,qi,C0⟩ R=>⟨[(84,I (i:Int))],t0::j0::[(a0, .cells #[.slice d0 e0 f0,I bd,Pt b0 0, .bool false] 117 (0,0))]::g0::h0::(Tri p 83 (preP F.cfg wb wo wn wk q m) (([]:List Ref).flatMap encRef) (encStt F.st))::Wc::D0.flatten::E0.flatten::C0::R,s0-i,i<=s0/\(InjP q qi C0)/\(qi=readyQ x bd F.q ((idxOf 2 0 (newB l).st).take i))⟩) (0,F.q,Qc) ⟨h2,om,hQ,rfl⟩ ?_
 rintro ⟨i,qi,C0⟩ ρ _ ⟨k0,hi,T0,U0⟩
 refine jCC 6 rfl<|cD ((i:Int)<(s0:Int)) (fun i2=>jCO 6 rfl<|sIN u0 i fun v0 _ _ a1 j2=>sMp k0 (j2.up 0 rfl) 0 (I v0)<|jOO 7 rfl<|sMp k0 (ptr_up 5 rfl tri_pre) 9 (Pt q 0)<|pu4<|(by have k2:=(k0.pick 9 rfl);refine cZ (pq_push T0 (⟨x,v0⟩:Ref) bd om k2.flat1) ?_;rintro _ _ ⟨l2,rfl,m2,n2⟩;have o2:=n2.unflat1;exact jOO 4 rfl<|sAdd (i:Int) 1<|jOI 2 rfl<|⟨(i+1,(pushQ qi (⟨x,v0⟩:Ref) bd),l2),od,alB,(o2.picks [9,9,9,9,9,9,9,9,9]),om,m2,(by rw [ready_take a1,<-U0])⟩)) fun i2=>?_
 refine jCR 11 rfl<|retT [I 0] ?_
 have r2:=(k0.picks [1,3,4,4,11])
 have s2:Sat W _ ((N0++[([(a0,Obj.cells #[.slice d0 e0 f0,I bd,Pt b0 0, .bool false] 117 (0,0))]++((h0++g0)++j0))]).flatten::t0::(Tri p 83 (preP F.cfg wb wo wn wk q m) (([]:List Ref).flatMap encRef) (encStt F.st))::Wc::D0.flatten::E0.flatten::C0::r0::H::F0):=Sat.perm (show Sat W _ (N0.flatten::[(a0, .cells #[.slice d0 e0 f0,I bd,Pt b0 0, .bool false] 117 (0,0))]::h0::g0::j0::t0::(Tri p 83 (preP F.cfg wb wo wn wk q m) (([]:List Ref).flatMap encRef) (encStt F.st))::Wc::D0.flatten::E0.flatten::C0::r0::H::F0) from r2) (by simp)
 have t2:=JobsP.add (b:=a0) (c2:=([(a0,Obj.cells #[.slice d0 e0 f0,I bd,Pt b0 0, .bool false] 117 (0,0))]++((h0++g0)++j0))) L0 (k:=x) hx (by rw [getD_some hj];exact ha) (JobP.mk (s:=jobN l bd) (cn:=false) (T:=(h0++g0)) ((q0.rdAt (cs:=[h0,g0]) 1 rfl).of_mem (fun p hp=>by simp at hp⊢;exact hp)) (fun z hz=>(z1 z hz).of_mem mS) x0 f2 rfl (fun _=>by show doneOf (newB l)<(((l.map Task.v).length:Nat):Int);rw [done_new,List.length_map];omega) (canc_run rfl).symm) rfl
 have u2:=((s2.picks [7,7,7,7,7,7]).dropAt 7 rfl)
 have v2:=(u2.merge7)
 have he:addF F x l bd=(⟨F.cfg,F.ws,F.ar,F.dq,qi,(F.jobs.set x.toNat (jobN l bd)),F.st⟩:FS):=by unfold addF;rw [U0,List.take_of_length_le om]
 exact ⟨_,rfl,by rw [he];exact ⟨_,_,_,_,_,_,_,_,_,_,_,_,_,_,rfl,M0,R0,O0,P0,T0,B0,t2⟩,v2⟩
theorem pf_new {cs:List Chunk} (c:Cfg) (hv:validCfg c=0) (hS:Sat W w cs):
  Calls prog 14 #[.agg (encCfg c).toArray] w fun e w'=>∃(p:Nat) (M:Chunk),e= .returned (.tuple #[Pt p 0,I 0])/\FarmP p (newF c) M/\Sat W w' (M::cs):=by
 have H0:=validCfg_zero hv
 refine callsK 66 func14 rfl<|jCO 2 rfl<|sBx hS (encCfg c) fun f0 _ o0=>gOO o0 8 [800] rfl<|cS (p_valid c o0.flat) fun _ p0=>jOC 9 rfl ?_
 have u0:((validCfg c):Int)=0:=hv
 refine cF _ (bne_eq_false_iff_eq.2 u0)<|gCO p0 6 [0] rfl<|cZ (pq_new c.tasks om p0) ?_
 rintro _ _ ⟨a0,d0,rfl,v0,q0⟩
 refine gOO q0 21 [801] rfl<|sMakeMapI q0 fun b0 e0 _ w0 x0=>pu1<|sBx x0 [I c.workers,I c.tileW,I c.tileH,I c.arena,I c.deque,I c.tasks,I c.cells,I c.jobs,nS,Pt a0 0, .map (some b0),I 0,I 0,I 0,I 0,I 0,I 0,I 0,I 0,I 0,I 0] fun c0 _ r0=>gOC r0 12 [3] rfl ?_
 have y0:=(r0.picks [2,3,2])
 have z0:Sat W _ ([(c0, .cells #[I c.workers,I c.tileW,I c.tileH,I c.arena,I c.deque,I c.tasks,I c.cells,I c.jobs,nS,Pt a0 0, .map (some b0),I 0,I 0,I 0,I 0,I 0,I 0,I 0,I 0,I 0,I 0] 83 (0,0))]::([]:Chunk)::([]:List Chunk).flatten::([]:List Chunk).flatten::[(f0, .cells (encCfg c).toArray 24 (0,0))]::d0::e0::cs):=Sat.perm (show Sat W _ ([(c0, .cells #[I c.workers,I c.tileW,I c.tileH,I c.arena,I c.deque,I c.tasks,I c.cells,I c.jobs,nS,Pt a0 0, .map (some b0),I 0,I 0,I 0,I 0,I 0,I 0,I 0,I 0,I 0,I 0] 83 (0,0))]::[(f0, .cells (encCfg c).toArray 24 (0,0))]::d0::e0::cs) from y0) (by simp)
 refine loopF [1,7,31] (γ:=Nat×(Option Addr)×Nat×Nat×Chunk×(List PW)×(List Chunk)×(List Chunk)) (fun ⟨i,wa,wn,wk,wc,xs,A0,B0⟩ R=>⟨[(32,I (i:Int))],[(c0, .cells #[I c.workers,I c.tileW,I c.tileH,I c.arena,I c.deque,I c.tasks,I c.cells,I c.jobs, .slice wa wn wk,Pt a0 0, .map (some b0),I 0,I 0,I 0,I 0,I 0,I 0,I 0,I 0,I 0,I 0] 83 (0,0))]::wc::A0.flatten::B0.flatten::R,c.workers.toNat-i,(i:Int)<=c.workers/\OwnT encPW 91 7 wa wn wk xs wc/\xs.map PW.core=List.replicate i (⟨0,0,0,0,0⟩:Core)/\Obs PaR (xs.map (·.a)) (List.replicate i (⟨c.arena,0,0,[]⟩:AS)) A0/\Obs DqP (xs.map (·.d)) (List.replicate i (⟨c.deque,[]⟩:DS)) B0⟩) (0,none,0,0,[],[],[],[]) ⟨z0,om,OwnT.nil fR,rfl,Obs.nil _,Obs.nil _⟩ ?_
 rintro ⟨i,wa,wn,wk,wc,xs,A0,B0⟩ ρ _ ⟨i0,hi,C0,D0,E0,F0⟩
 have J0:=C0.ll;have G0:=congrArg List.length D0;rw [List.length_map,List.length_replicate] at G0
 refine jCC 6 rfl<|CD ((i:Int)<c.workers) (fun a1=>jCR 13 rfl<|retT [Pt c0 0,I 0]<|(by obtain rfl:i=c.workers.toNat:=(by omega);obtain ⟨wb,wo,rfl⟩:=own_some C0 om;have b1:=(i0.dropAt 4 rfl);have c1:Sat W _ (((Tri c0 83 (preP c wb wo wn wk a0 b0) (([]:List Ref).flatMap encRef) (encStt (newF c).st))++(wc++(A0.flatten++(B0.flatten++(d0++(e0++([]:List Chunk).flatten))))))::cs):=Sat.perm (show Sat W _ ((Tri c0 83 (preP c wb wo wn wk a0 b0) (([]:List Ref).flatMap encRef) (encStt (newF c).st))::wc::A0.flatten::B0.flatten::d0::e0::cs) from b1) (by simp);exact ⟨_,_,rfl,⟨_,_,_,_,_,_,_,_,_,_,_,_,_,_,rfl,C0,by rw [D0];unfold newF;rw [List.map_replicate];rfl,E0,F0,v0,w0,jobs_zero⟩,c1⟩)) fun a1=>gCO i0 8 [4] rfl<|cZ (pa_new c.arena om i0) ?_
 rintro _ _ ⟨j0,k0,rfl,d1,s0⟩
 refine gOO s0 21 [5] rfl<|cZ (pd_new c.deque om s0) ?_
 rintro _ _ ⟨l0,m0,rfl,e1,t0⟩
 exact gOO t0 26 [2] rfl<|sBK t0 #[I 0,I 0,I 0,I 0,I 0,Pt j0 0,Pt l0 0] 91 fun _ _ f1=>sApp (nb:=56) f1 C0 4 (RdT.blk (enc:=encPW) (sz:=7) (xs:=[(⟨0,0,0,0,0,j0,l0⟩:PW)]) fR 1 0 rfl rfl rfl om) underlying81 (i:=Tryz.t91) kr fR fun g0 h0 n0 _ g1 h1=>pu2<|tWk h1 3 rfl 8 (.slice g0 (wn+1) h0) fun _ i1=>jOO 4 rfl<|sAdd (i:Int) 1<|jOI 2 rfl<|(by have j1:=((i1.picks [6,3,6,6,6]).dropAt 5 rfl);have k1:Sat W _ ([(c0, .cells #[I c.workers,I c.tileW,I c.tileH,I c.arena,I c.deque,I c.tasks,I c.cells,I c.jobs, .slice g0 (wn+1) h0,Pt a0 0, .map (some b0),I 0,I 0,I 0,I 0,I 0,I 0,I 0,I 0,I 0,I 0] 83 (0,0))]::n0::(A0++[k0]).flatten::(B0++[m0]).flatten::[(f0, .cells (encCfg c).toArray 24 (0,0))]::d0::e0::cs):=Sat.perm (show Sat W _ ([(c0, .cells #[I c.workers,I c.tileW,I c.tileH,I c.arena,I c.deque,I c.tasks,I c.cells,I c.jobs, .slice g0 (wn+1) h0,Pt a0 0, .map (some b0),I 0,I 0,I 0,I 0,I 0,I 0,I 0,I 0,I 0,I 0] 83 (0,0))]::n0::A0.flatten::k0::B0.flatten::m0::[(f0, .cells (encCfg c).toArray 24 (0,0))]::d0::e0::cs) from j1) (by simp);exact ⟨(i+1,g0,(wn+1),h0,n0,(xs++[(⟨0,0,0,0,0,j0,l0⟩:PW)]),(A0++[k0]),(B0++[m0])),od,alB,k1,om,g1,(by rw [List.map_append,D0,List.replicate_succ'];rfl),(by rw [List.replicate_succ',List.map_append];exact Obs.snoc E0 d1),(by rw [List.replicate_succ',List.map_append];exact Obs.snoc F0 e1)⟩)
end Go.Proofs.YtkadmghedmodbaaGreat
