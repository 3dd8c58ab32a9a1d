import Derived.Test.YtkadmghedmodbaaGreatR3P2BMeth
set_option linter.all false
namespace Go.Proofs.YtkadmghedmodbaaGreat
open Go Go.E Go.Proofs.Tryz
set_option linter.all false
set_option maxRecDepth 100000
set_option maxHeartbeats 2000000
variable {W w:World} {H:Chunk} {F:List Chunk}
def F12 (F:FS):Prop:=∀q∈shapeF F.jobs,q.2<=12
theorem F12.job {F:FS} (h:F12 F) {k:Nat} {j:JS} (hj:F.jobs[k]?=some j):j.tasks.length<=12:=h (j.added,j.tasks.length) (List.mem_map.2 ⟨j,List.mem_of_getElem? hj,rfl⟩)
theorem F12.of {F G:FS} (h:F12 F) (hs:shapeF G.jobs=shapeF F.jobs):F12 G:=by unfold F12;rw [hs];exact h
theorem done_le {B:BS} (hl:B.st.length=B.deps.length):doneOf B<=(B.deps.length:Int):=by
  unfold doneOf
  have:=List.length_filter_le (fun x=>decide (x=4)) B.st
  omega
theorem ar_some {F:FS} {K x:Int} (hF:FW F K) (hx:0<=x/\x<(F.ws.length:Int)):F.ar[x.toNat]?=some (F.ar.getD x.toNat default):=by
  have h1:x.toNat<F.ar.length:=by rw [hF.al];omega
  rw [List.getD_eq_getElem?_getD,List.getElem?_eq_getElem h1];rfl
theorem FI.helpK {F:FS} {K:Int} (h:FI F K) (hK:K+1<=4096):FI (helpF F) (K+1):=by
  have g:=h.help
  refine ⟨(h.fw.mono (by omega) hK).ss,?_,g.1,g.2.1,g.2.2⟩
  obtain ⟨_,_,_,_,_,_,_⟩:=h.st
  constructor<;>(simp only [helpF];omega)
theorem busy_holds {F:FS} {v:Wkr} (hb:busyW F v=true):Holds v/\(jobAt F v.heldJob).running=true:=by
  unfold busyW at hb
  obtain ⟨h1,h2⟩:=(Bool.and_eq_true _ _).mp hb
  exact ⟨(of_decide_eq_true h1:_\/_\/_),h2⟩
theorem ref_job {F:FS} {K:Int} (hF:FW F K) {r:Ref} (hr:RefOk (shapeF F.jobs) r):∃j,F.jobs[r.job.toNat]?=some j/\j.added=true/\0<=j.band/\j.band<4:=by
  obtain ⟨j,hj,ha,_,_,h1,h2,_,_⟩:=hF.job hr;exact ⟨j,hj,ha,h1,h2⟩
theorem ref_set {F:FS} {K:Int} (hF:FW F K) {k:Nat} {j:JS} {B:BS} (hj:F.jobs[k]?=some j) {r:Ref} (hr:RefOk (shapeF F.jobs) r):∃j',(F.jobs.set k {j with B:=B})[r.job.toNat]?=some j'/\j'.added=true/\0<=j'.band/\j'.band<4:=by
  obtain ⟨i,hi,ha,h1,h2⟩:=ref_job hF hr
  by_cases e:k=r.job.toNat
  · exact (by subst e;rw [hj] at hi;obtain rfl:=Option.some.inj hi;exact ⟨_,set_at hj,ha,h1,h2⟩)
  · exact ⟨i,by rw [List.getElem?_set,if_neg e];exact hi,ha,h1,h2⟩
theorem pf_commit {p:Nat} {F:FS} {M:Chunk} {F0:List Chunk} (hR:FarmP p F M) {K:Int} (hF:FI F K) {v0:Wkr} (x:Int) (hx:0<=x/\x<F.ws.length) (hv0:F.ws[x.toNat]?=some v0) (hh:Holds v0) (hrun0:(jobAt F v0.heldJob).running=true) (h12:F12 F) (hp:v0.phase=3) (hS:Sat W w (M::H::F0)):
  Calls prog 124 #[Pt p 0,I x] w fun e w'=>∃M':Chunk,e= .returned (.agg (encEvt (microF F x).2).toArray)/\FarmP p ((microF F x).1) M'/\Sat W w' (M'::H::F0):=by
 obtain ⟨wb,wo,wn,wk,q,m,xs,jm,Wc,Qc,Jc,H1,Z0,G1,rfl,O0,Q0,A1,B1,hQ,hM,N0⟩:=hR
 have r1:Sat W _ ((Tri p 83 (preP F.cfg wb wo wn wk q m) (([]:List Ref).flatMap encRef) (encStt F.st))::Wc::H1.flatten::Z0.flatten::Qc::Jc::G1.flatten::H::F0):=Sat.perm hS (by simp)
 have I2:=O0.ll;have T1:=core_len Q0;have V0:=A1.1;have X0:=B1.1;rw [List.length_map] at V0 X0;have N1:=N0.l
 obtain ⟨j,hj,ha,hz⟩:=hF.h.h _ _ hv0 hh;have D1:=hF.fw.j j (List.mem_of_getElem? hj);obtain ⟨S0,U1,R1,S1⟩:=D1.b ha;have V1:=D1.n;have F1:=hF.fw.w v0 (List.mem_of_getElem? hv0);have W1:=F1.h;have Z1:=F1.r;have X1:=held_lt S0 hz;have Y1:v0.phase=1\/v0.phase=2\/v0.phase=3:=hh
 obtain ⟨h0,f0,a4,e1,m0,s1,t1⟩:=JobsP.get N0 (k:=v0.heldJob) ⟨om,om⟩ hj ha
 obtain ⟨n0,o0,p0,b4,q0,r0,c4,rfl,i0,f1,s0,u1,_,d4⟩:=s1.open
 have v1:=(r1.pick 6 rfl)
 have w1:=Sat.openN (A:=[]) h0 m0 v1
 have x1:=w1.split3
 have L0:=i0.ll;have A0:=congrArg List.length s0;rw [List.length_map] at A0
 have G0:j.running=true:=by unfold jobAt at hrun0;rw [getD_some hj] at hrun0;exact hrun0
 have I1:=h12.job hj;have K1:=ar_some hF.fw hx;have E1:=hF.rel hx hv0 K1 hp;have A2:=hF.st.a;have B2:=hF.st.b;have C2:=hF.st.c;have D2:=hF.st.d;have E2:=hF.st.e;have F2:=hF.st.f;have G2:=hF.st.g;have Q1:=hF.fw.k;have J1:=hF.fw.al;have M1:=hF.fw.dl
 refine callsK 95 func124 rfl<|jCO 2 rfl<|sAlloc x1 zeroValue63 fun y1 _ t0=>jOO 7 rfl<|sMp t0 (ptr_up 5 rfl tri_pre) 8 (.slice (some ⟨wb,wo,none⟩) wn wk)<|pu1<|sIO O0 x (x).toNat fun a0 _ _ b0 g1 z1=>?_
 obtain ⟨rfl,rfl⟩:=some_addr z1
 obtain ⟨a2,b2,c2,d0,j0,h1,d2⟩:=core_at Q0 b0
 have C0:a2=v0:=Option.some.inj (b2.symm.trans hv0);rw [C0] at c2 d0 j0 h1 d2
 refine jOO 8 rfl<|sMA t0 (g1.up 6 rfl) 1 [I a0.heldJob,I a0.heldTask]<|sAlloc t0 zeroValue61 fun i1 _ e2=>sTk e2 0 rfl [I a0.heldJob,I a0.heldTask] fun _ u0=>jOC 3 rfl<|drawE [6] [(3,⟨p,10,none⟩, .map (some m)),(5,⟨i1,0,none⟩,I a0.heldJob)] [(true,[0,1,2,4]),(true,[3]),(true,[5]),(false,[6]),(true,[7])] rfl kr ⟨.inr (cell_up u0 6 rfl (k:=10) tri_pre rfl),cI u0 0,trivial⟩ ?_
 have j1:=u0.drew
 refine wU [0,1,2,4]<|wLd (.map (some m)) 0 isAgg80<|wLd (I a0.heldJob) 1 isAgg3<|wO rfl<|stepY (Pt f0 0) rfl rfl (Y_iget (k:=a0.heldJob) j1 11 hM (by rw [d0,t1];rfl) runUnderlying80 runUnderlying3 zeroValue110)<|nilO ⟨dA,?_⟩
 refine wU [7]<|wN<|jXC 2 rfl<|drawF j1 [10] (fb 3 2 2 1<|fb 5 0 1 1<|fq 9 3 (g1.up 7 rfl)<|fn) [0,1,2,4,6,7,8,3,5,9,10,11,12,13,14,15] fun _ f2=>wV 7<|wL 0<|wL 1<|wL 2<|wO rfl ?_
 have g2:=(f2.pick 4 rfl)
 refine cZ (b_commit u1 S0 a0.heldTask a0.attempt om g2.flat1) ?_
 rintro _ _ ⟨_,w0,_,h2,x0,rfl,k0,y0,i2⟩
 have k1:=i2.unflat2;have B0:=k0.len;have J0:=k0.le;have L1:=com_len (B:=j.B) (i:=v0.heldTask) (a:=v0.attempt);rw [j0,h1] at y0 k0 B0
 refine nA<|wV 1<|wV 1<|wV 1<|wV 2<|wN<|jXO 7 rfl<|sMp k1 (ptr_up 7 rfl (tri_post (k:=11) (tri_len (sz:=2) (m:=11) fR (rfl:([]:List Ref).length=0)))) 1 (I F.st.commits)<|sAdd F.st.commits 1<|pu3<|sTpost k1 7 11 1 rfl (I (F.st.commits+1)) [I (F.st.commits+1)] [I F.st.starts,I (F.st.commits+1),I F.st.drops,I F.st.crashes,I F.st.steals,I F.st.helps,I F.st.spills,I F.st.queued,I F.st.held,I F.st.cells] (tri_len (sz:=2) (m:=11) fR (rfl:([]:List Ref).length=0)) sizeOf3 fun _ k2=>jOO 5 rfl ?_
 have l2:=(k2.picks [9,9])
 refine cZ (p_rest O0 A1 b0 0 l2) ?_
 rintro _ _ ⟨m2,n2,rfl,z0,l1,o2⟩
 refine jOC 11 rfl<|loopF [0,1,4,5,6,7,55,56] (γ:=Nat×(List DS)×(List Chunk)×QS×Chunk×Int) (fun ⟨i,E0,H0,qi,M0,sp⟩ R=>⟨[(57,I (i:Int))],m2::n2.flatten::h2::x0::[(i1, .cells #[I a0.heldJob,I a0.heldTask] 61 (0,0))]::[(y1, .cells #[I 0,I 0,I 0,I 0,I 0,I 0,I 0] 63 (0,0))]::[(f0, .cells #[.slice n0 o0 p0,I j.band,Pt q0 0, .bool (canc j)] 117 (0,0))]::r0::(G1.eraseIdx h0).flatten::(Tri p 83 (preP F.cfg wb wo wn wk q m) (([]:List Ref).flatMap encRef) [I F.st.starts,I (F.st.commits+1),I F.st.drops,I F.st.crashes,I F.st.steals,I F.st.helps,I sp,I F.st.queued,I F.st.held,I F.st.cells])::H0.flatten::M0::R,w0-i,i<=w0/\(Obs DqP (xs.map (·.d)) E0 H0)/\(InjP q qi M0)/\(0<=sp/\sp<=F.st.spills+i)/\(E0.length=F.dq.length)/\((spillF (⟨F.cfg,(F.ws.set x.toNat ⟨0,0,0,0,0,0,(resetA (F.ar.getD x.toNat default)).high⟩),(F.ar.set (x).toNat (resetA (F.ar.getD (x).toNat default))),F.dq,F.q,(F.jobs.set v0.heldJob.toNat {j with B:=(comB j.B v0.heldTask v0.attempt).1}),⟨F.st.starts,(F.st.commits+1),F.st.drops,F.st.crashes,F.st.steals,F.st.helps,F.st.spills,F.st.queued,F.st.held,F.st.cells⟩⟩:FS) x v0.heldJob j.band (((comB j.B v0.heldTask v0.attempt).2).take i))=(⟨F.cfg,(F.ws.set x.toNat ⟨0,0,0,0,0,0,(resetA (F.ar.getD x.toNat default)).high⟩),(F.ar.set (x).toNat (resetA (F.ar.getD (x).toNat default))),E0,qi,(F.jobs.set v0.heldJob.toNat {j with B:=(comB j.B v0.heldTask v0.attempt).1}),⟨F.st.starts,(F.st.commits+1),F.st.drops,F.st.crashes,F.st.steals,F.st.helps,sp,F.st.queued,F.st.held,F.st.cells⟩⟩:FS))⟩) (0,F.dq,Z0,F.q,Qc,F.st.spills) ⟨o2,om,B1,hQ,om,by first|rfl|simp only [List.length_set],rfl⟩ ?_
 rintro ⟨i,E0,H0,qi,M0,sp⟩ ρ _ ⟨g0,hi,I0,P0,P1,D0,T0⟩
 have Y0:=I0.1;rw [List.length_map] at Y0
 refine jCC 6 rfl<|cD ((i:Int)<(w0:Int)) (fun q2=>?_) (fun q2=>?_)
 rotate_left
 ·refine gCO g0 10 [204] rfl<|sTk g0 5 rfl [I 8,I x,I 0,I 0,I a0.heldJob,I a0.heldTask,I 0] fun _ a1=>jOR 3 rfl<|retN (vs:=[.agg #[I 8,I x,I 0,I 0,I a0.heldJob,I a0.heldTask,I 0]]) rfl (.cons (.cell _ _ _ _ kr (lvA a1 5 0 [I 8,I x,I 0,I 0,I a0.heldJob,I a0.heldTask,I 0] (isAgg63 _) (sizeOf63 _) rfl rfl rfl)) .nil) ?_
  have U0:=T0;rw [List.take_of_length_le om] at U0
  have W0:=done_le (com_wf S0 (i:=v0.heldTask) (a:=v0.attempt)).ls;rw [com_deps] at W0
  refine bD (doneOf (comB j.B v0.heldTask v0.attempt).1=(j.tasks.length:Int)) (fun R0=>(by have r2:=(a1.picks [8,4,8,8]);have s2:=r2.merge3;have t2:=Sat.shutN (d:=([(f0, .cells #[.slice n0 o0 p0,I j.band,Pt q0 0, .bool (canc j)] 117 (0,0))]++(r0++x0))) (A:=[]) h0 m0 s2;have u2:=JobsP.set N0 (k:=v0.heldJob) (j2:={j with B:=(comB j.B v0.heldTask v0.attempt).1,running:=false}) ⟨om,om⟩ e1 (JobP.mk (s:={j with B:=(comB j.B v0.heldTask v0.attempt).1,running:=false}) (cn:=(canc j)) i0 f1 s0 y0 ha (fun h=>by cases h) ((canc_run G0).trans (canc_done (s:={j with B:=(comB j.B v0.heldTask v0.attempt).1,running:=false}) R0).symm)) ha;have v2:=((t2.picks [9,9,9,5,5,9]).drops [7,7,7]);have w2:=(v2.merge7);have he:(microF F x).1=(⟨F.cfg,(F.ws.set x.toNat ⟨0,0,0,0,0,0,(resetA (F.ar.getD x.toNat default)).high⟩),(F.ar.set (x).toNat (resetA (F.ar.getD (x).toNat default))),E0,qi,(F.jobs.set v0.heldJob.toNat ({j with B:=(comB j.B v0.heldTask v0.attempt).1,running:=false})),(⟨F.st.starts,(F.st.commits+1),F.st.drops,F.st.crashes,F.st.steals,F.st.helps,sp,F.st.queued,F.st.held,F.st.cells⟩:Stt)⟩:FS):=(by unfold microF jobAt;simp only [getD_some hv0,getD_some hj];rw [if_neg om,if_neg om];dsimp only;rw [E1,U0,if_pos R0]);exact ⟨_,by unfold microF;simp only [getD_some hv0];rw [if_neg om,if_neg om,d0,j0];rfl,by rw [he];exact ⟨_,_,_,_,_,_,_,_,_,_,_,_,_,_,rfl,z0,(core_set Q0 rfl),(by rw [map_setA (x':=(⟨0,0,0,0,0,a0.a,a0.d⟩:PW)) b0 rfl];exact l1),(by rw [map_setD (x':=(⟨0,0,0,0,0,a0.a,a0.d⟩:PW)) b0 rfl];exact I0),P0,hM,u2⟩,w2⟩)) fun R0=>?_
  have x2:=(a1.picks [8,4,8,8])
  have y2:=x2.merge3
  have z2:=Sat.shutN (d:=([(f0, .cells #[.slice n0 o0 p0,I j.band,Pt q0 0, .bool (canc j)] 117 (0,0))]++(r0++x0))) (A:=[]) h0 m0 y2
  have a3:=JobsP.set N0 (k:=v0.heldJob) (j2:={j with B:=(comB j.B v0.heldTask v0.attempt).1}) ⟨om,om⟩ e1 (JobP.mk (s:={j with B:=(comB j.B v0.heldTask v0.attempt).1}) (cn:=(canc j)) i0 f1 s0 y0 ha (fun _=>(by omega:doneOf (comB j.B v0.heldTask v0.attempt).1<(j.tasks.length:Int))) ((canc_run G0).trans (canc_run (s:={j with B:=(comB j.B v0.heldTask v0.attempt).1}) G0).symm)) ha
  have b3:=((z2.picks [9,9,9,5,5,9]).drops [7,7,7])
  have c3:=(b3.merge7)
  have he:(microF F x).1=(⟨F.cfg,(F.ws.set x.toNat ⟨0,0,0,0,0,0,(resetA (F.ar.getD x.toNat default)).high⟩),(F.ar.set (x).toNat (resetA (F.ar.getD (x).toNat default))),E0,qi,(F.jobs.set v0.heldJob.toNat ({j with B:=(comB j.B v0.heldTask v0.attempt).1})),(⟨F.st.starts,(F.st.commits+1),F.st.drops,F.st.crashes,F.st.steals,F.st.helps,sp,F.st.queued,F.st.held,F.st.cells⟩:Stt)⟩:FS):=by unfold microF jobAt;simp only [getD_some hv0,getD_some hj];rw [if_neg om,if_neg om];dsimp only;rw [E1,U0,if_neg R0]
  exact ⟨_,by unfold microF;simp only [getD_some hv0];rw [if_neg om,if_neg om,d0,j0];rfl,by rw [he];exact ⟨_,_,_,_,_,_,_,_,_,_,_,_,_,_,rfl,z0,(core_set Q0 rfl),(by rw [map_setA (x':=(⟨0,0,0,0,0,a0.a,a0.d⟩:PW)) b0 rfl];exact l1),(by rw [map_setD (x':=(⟨0,0,0,0,0,a0.a,a0.d⟩:PW)) b0 rfl];exact I0),P0,hM,a3⟩,c3⟩
 refine jCO 6 rfl<|sIN k0 i fun c0 _ _ b1 d3=>sMp g0 (d3.up 2 rfl) 0 (I c0)<|gOO g0 9 [4] rfl<|sAlloc g0 zeroValue61 fun m1 _ e3=>sTk e3 0 rfl [I a0.heldJob,I c0] fun _ f3=>jOC 3 rfl<|drawF f3 [5] (fq 3 6 ((OwnT.ptr z0 rfl (set_at (y:=(⟨0,0,0,0,0,a0.a,a0.d⟩:PW)) b0)).up 1 rfl)<|fb 4 0 0 2<|fn) [0,1,2,3,4,5,6] fun _ i3=>wV 3<|wL 0<|wG 1 2<|wO rfl ?_
 obtain ⟨l0,v4,c1,n1,j3⟩:=Obs.get I0 (map_at' b0)
 have k3:=(i3.pick 11 rfl)
 refine cZ (pd_push j3 (⟨a0.heldJob,c0⟩:Ref) (Sat.flat1 (Sat.openN (A:=[]) x.toNat n1 k3))) ?_
 rintro _ _ ⟨d1,rfl,m3,n3⟩
 have o3:=n3.unflat1
 have q3:=(o3.picks [1,1])
 have e0:=Sat.shutN (d:=d1) (A:=[]) x.toNat n1 q3
 have o1:=Obs.set I0 (map_at' b0) m3
 refine nA<|wV 1<|wN<|jXC 1 rfl<|cN (pushC l0) 0 (fun r3=>jCO 4 rfl<|sAdd (i:Int) 1<|jOI 2 rfl<|⟨(i+1,(E0.set x.toNat (pushD l0 (⟨a0.heldJob,c0⟩:Ref))),(H0.set x.toNat d1),qi,M0,sp),od,alB,((e0.picks [11,11,11,11,11,11,11,11,11,11]).dropAt 11 rfl),om,o1,P0,om,(by first|exact D0|(simp only [List.length_set];exact D0)),(by rw [spill_take b1,T0];unfold spill1;simp only [getD_some c1];rw [if_pos om];rw [d0])⟩) fun r3=>jCC 1 rfl<|drawE [9] [(3,⟨p,9,none⟩,Pt q 0),(4,⟨m1,0,none⟩,I a0.heldJob),(4,⟨m1,1,none⟩,I c0),(8,⟨f0,1,none⟩,I j.band)] [(true,[0,1,2,5,6,7]),(true,[3]),(true,[4]),(true,[8]),(false,[9])] rfl kr ⟨.inr (cell_up e0 11 rfl (k:=9) tri_pre rfl),cI e0 1,cI e0 1,cI e0 8,trivial⟩ ?_
 have t3:=e0.drew
 refine wU [0,1,2,5,6,7]<|wLd (Pt q 0) 0 isAgg77<|wY (.agg #[I a0.heldJob,I c0]) rfl (fun w hF=>Y_loadF rfl (isAgg61 w) (sizeOf61 w) kr rfl ⟨hF 1 _ _ rfl,hF 2 _ _ rfl,trivial⟩)<|wLd (I j.band) 3 isAgg3<|wO rfl ?_
 have u3:=(t3.pick 12 rfl)
 refine cZ (pq_push P0 (⟨a0.heldJob,c0⟩:Ref) j.band om u3.flat1) ?_
 rintro _ _ ⟨v3,rfl,w3,x3⟩
 have q1:=x3.unflat1
 refine nilO ⟨dA,?_⟩
 refine wN<|jXO 6 rfl<|sMp q1 (ptr_up 12 rfl (tri_post (k:=11) (tri_len (sz:=2) (m:=11) fR (rfl:([]:List Ref).length=0)))) 6 (I sp)<|sAdd sp 1<|pu3<|sTpost q1 12 11 6 rfl (I (sp+1)) [I (sp+1)] [I F.st.starts,I (F.st.commits+1),I F.st.drops,I F.st.crashes,I F.st.steals,I F.st.helps,I (sp+1),I F.st.queued,I F.st.held,I F.st.cells] (tri_len (sz:=2) (m:=11) fR (rfl:([]:List Ref).length=0)) sizeOf3 fun _ y3=>jOO 4 rfl<|sAdd (i:Int) 1<|jOI 2 rfl ?_
 have z3:=((y3.picks [1,12,12,12,12,12,12,12,12,12,12]).dropAt 12 rfl)
 have O1:pushD l0 (⟨a0.heldJob,c0⟩:Ref)=l0:=by unfold pushD;rw [if_neg om]
 have C1:=o1;rw [O1,set_same c1] at C1
 exact ⟨(i+1,E0,(H0.set x.toNat d1),(pushQ qi (⟨a0.heldJob,c0⟩:Ref) j.band),v3,(sp+1)),od,alB,z3,om,C1,w3,om,(by first|exact D0|(simp only [List.length_set];exact D0)),(by rw [spill_take b1,T0];unfold spill1;simp only [getD_some c1];rw [if_neg om];rw [d0])⟩
theorem pf_micro {p : Nat} {F : FS} {M : Chunk} {F0 : List Chunk} (hR : FarmP p F M) {K : Int} (hF : FI F K) {v0 : Wkr} (x : Int) (hx : 0 ≤ x ∧ x < F.ws.length) (hv0 : F.ws[x.toNat]? = some v0) (hh : Holds v0) (hrun0 : (jobAt F v0.heldJob).running = true) (h12 : F12 F) (hS : Sat W w (M :: H :: F0)) :
    Calls Tryz.prog 78 #[.pointer (some ⟨p, 0, none⟩), .int .i64 x] w fun e w' => ∃ M' : Chunk, e = .returned (.agg (encEvt (microF F x).2).toArray) ∧ FarmP p ((microF F x).1) M' ∧ Sat W w' (M' :: H :: F0) := by
  obtain ⟨wb, wo, wn, wk, q, m, xs, jm, Wc, Qc, Jc, acs, dcs, jcs, rfl, hOw, hco, hAs, hDs, hQ, hM, hJs⟩ := hR
  have hS_1 : Sat W _ ((Tri p 83 (preP F.cfg wb wo wn wk q m) (([] : List Ref).flatMap encRef) (encStt F.st)) :: Wc :: acs.flatten :: dcs.flatten :: Qc :: Jc :: jcs.flatten :: H :: F0) := Sat.perm hS (by simp)
  have hwl := hOw.len; have hwk := hOw.le; have hcl := core_len hco; have has1 := hAs.1; have hds1 := hDs.1; rw [List.length_map] at has1 hds1; have hjl1 := hJs.l
  obtain ⟨j, hj, ha, hz⟩ := hF.h.h _ _ hv0 hh; have hjo := hF.fw.j j (List.mem_of_getElem? hj); obtain ⟨hBW, hdl, hb1, hb2⟩ := hjo.b ha; have hjn := hjo.n; have hwo := hF.fw.w v0 (List.mem_of_getElem? hv0); have hk0 := hwo.h; have hr0 := hwo.r; have hlt := held_lt hBW hz; have hph : v0.phase = 1 ∨ v0.phase = 2 ∨ v0.phase = 3 := hh
  obtain ⟨nj_2, bj_2, cj_2, hjmj_2, hjcj_2, hJj_2, hgj_2⟩ := JobsP.get hJs (k := v0.heldJob) ⟨by omega, by omega⟩ hj ha
  obtain ⟨taj_2, tnj_2, tkj_2, tlj_2, bbj_2, Tj_2, Mbj_2, rfl, hTj_2, hDj_2, hVj_2, hBj_2, _, hrj_2⟩ := hJj_2.open
  have hS_3 := (hS_1.pick 6 rfl)
  have hS_4 := Sat.openN (A := []) nj_2 hjcj_2 hS_3
  have hS_5 := hS_4.split3
  have hn_taj_2 := hTj_2.len; have hl_taj_2 := hTj_2.le; have hm_taj_2 := congrArg List.length hVj_2; rw [List.length_map] at hm_taj_2
  have hrun : j.running = true := by unfold jobAt at hrun0; rw [getD_some hj] at hrun0; exact hrun0
  have hax := ar_some hF.fw hx; have hA0 := hF.a.a _ _ _ hv0 hax; have hro := hwo.t hh; have hrt0 : 0 ≤ v0.heldTask := hro.2.2.1; have hrt9 : v0.heldTask < ((j.tasks.length : Nat) : Int) := by obtain ⟨j9, hj9, _, _, _, _, _, _, h9⟩ := hF.fw.job hro; rw [show (⟨v0.heldJob, v0.heldTask⟩ : Ref).job = v0.heldJob from rfl, hj] at hj9; rw [Option.some.inj hj9]; exact h9
  have hs1 := hF.st.a; have hs2 := hF.st.b; have hs3 := hF.st.c; have hs4 := hF.st.d; have hs5 := hF.st.e; have hs6 := hF.st.f; have hs7 := hF.st.g; have hKK := hF.fw.k; have hal9 := hF.fw.al
  refine callsA 86 Tryz.func78 rfl ?_
  refine seqE <| regionE ?_
  refine sAlloc hS_5 Tryz.zeroValue63 ?_
  intro b_6 w_7 hS_8
  refine nilO <| thenK_n <| seqE <| regionE <| pu3 ?_
  refine sLp hS_8 (ptr_up 5 rfl tri_pre) 8 (.slice (some ⟨wb, wo, none⟩) wn wk) (Tryz.isAgg81 _) ?_
  refine pu1 ?_
  refine sIdxO hOw x (x).toNat Tryz.runUnderlying81 Tryz.sizeOf91 ?_
  intro x_9 b_10 o_11 hx_12 hp_13 hq_14
  obtain ⟨rfl, rfl⟩ := some_addr hq_14
  obtain ⟨v_15, hv_15, hv_150, hv_151, hv_152, hv_153, hv_154⟩ := core_at hco hx_12
  have hvv_v_15 : v_15 = v0 := Option.some.inj (hv_15.symm.trans hv0); rw [hvv_v_15] at hv_150 hv_151 hv_152 hv_153 hv_154
  refine pu1 <| nilO <| thenK_n <| seqE ?_
  obtain ⟨x_16, b_17, o_18, hx_19, hp_20, hq_21⟩ := RdT.elem hTj_2 x_9.heldTask
  have htk : j.tasks[v0.heldTask.toNat]? = some x_16.v := by rw [← hVj_2, ← hv_152, List.getElem?_map, hx_19]; rfl
  have hta : taskAt F v0 = x_16.v := by unfold taskAt jobAt; rw [getD_some hj, getD_some htk]
  have hr2 : v0.phase = 2 → v0.row < x_16.rows := fun h => by have := hA0.r2 h; rw [hta] at this; exact this
  refine drawP [9, 20, 21] [(3, ⟨p, 10, none⟩, .map (some m)), (8, ⟨wb, wo + (x).toNat * 7 + 1 + 0, none⟩, .int .i64 x_9.heldJob), (17, ⟨wb, wo + (x).toNat * 7 + 1 + 1, none⟩, .int .i64 x_9.heldTask), (12, ⟨bj_2, 0, none⟩, .slice taj_2 tnj_2 tkj_2), (19, ⟨b_17, o_18 + 0, none⟩, .int .i64 x_16.stage), (19, ⟨b_17, o_18 + 1, none⟩, .int .i64 x_16.part), (19, ⟨b_17, o_18 + 2, none⟩, .int .i64 x_16.rectX0), (19, ⟨b_17, o_18 + 3, none⟩, .int .i64 x_16.rectY0), (19, ⟨b_17, o_18 + 4, none⟩, .int .i64 x_16.rectX1), (19, ⟨b_17, o_18 + 5, none⟩, .int .i64 x_16.rectY1), (19, ⟨b_17, o_18 + 6, none⟩, .slice x_16.deps.a x_16.deps.n x_16.deps.k), (19, ⟨b_17, o_18 + 7, none⟩, .int .i64 x_16.rows), (19, ⟨b_17, o_18 + 8, none⟩, .int .i64 x_16.scratch)] (Plan.sts [0, 1, 2, 4, 5, 6, 7, 13, 14, 15, 16] <| Plan.sts [3] <| Plan.sts [8] <| Plan.sts [17] <| .fk 9 20 (Plan.sts [10, 11] <| Plan.sts [12] <| Plan.sts [18] <| Plan.sts [19] <| .ef 20 <| .ef 21 <| .fin) (.ef 9 <| Plan.sts [10, 11] <| Plan.sts [12] <| Plan.sts [18] <| Plan.sts [19] <| .ef 21 <| .fin)) rfl (by kernel_rfl) ⟨.inr (cell_up hS_8 5 rfl (k := 10) tri_pre rfl), .inr ((hp_13.up 6 rfl).cell hS_8 (k := 1) rfl), .inr ((hp_13.up 6 rfl).cell hS_8 (k := 2) rfl), .inr (hS_8.cell 1 rfl rfl), .inr ((hp_20.up 2 rfl).cell hS_8 (k := 0) rfl), .inr ((hp_20.up 2 rfl).cell hS_8 (k := 1) rfl), .inr ((hp_20.up 2 rfl).cell hS_8 (k := 2) rfl), .inr ((hp_20.up 2 rfl).cell hS_8 (k := 3) rfl), .inr ((hp_20.up 2 rfl).cell hS_8 (k := 4) rfl), .inr ((hp_20.up 2 rfl).cell hS_8 (k := 5) rfl), .inr ((hp_20.up 2 rfl).cell hS_8 (k := 6) rfl), .inr ((hp_20.up 2 rfl).cell hS_8 (k := 7) rfl), .inr ((hp_20.up 2 rfl).cell hS_8 (k := 8) rfl), trivial⟩ ?_
  have hS_22 := hS_8.drew
  refine qU [0, 1, 2, 4, 5, 6, 7, 13, 14, 15, 16] ?_
  refine qLd (.map (some m)) 0 Tryz.isAgg80 ?_
  refine qLd (.int .i64 x_9.heldJob) 1 Tryz.isAgg3 ?_
  refine qLd (.int .i64 x_9.heldTask) 2 Tryz.isAgg3 ?_
  refine qF ?_ ?_
  · refine qO rfl ?_
    refine stepY (.pointer (some ⟨bj_2, 0, none⟩)) rfl rfl (Y_iget (k := x_9.heldJob) hS_22 10 hM (by rw [hv_151, hgj_2]; rfl) Tryz.runUnderlying80 Tryz.runUnderlying3 Tryz.zeroValue110) ?_
    refine nilO ⟨⟨.inl (by kernel_rfl), .inl (by kernel_rfl), .inr ((hp_13.up 6 rfl).cell hS_22 (k := 2) rfl), .inr (hS_22.cell 1 rfl rfl), .inr ((hp_20.up 2 rfl).cell hS_22 (k := 0) rfl), .inr ((hp_20.up 2 rfl).cell hS_22 (k := 1) rfl), .inr ((hp_20.up 2 rfl).cell hS_22 (k := 2) rfl), .inr ((hp_20.up 2 rfl).cell hS_22 (k := 3) rfl), .inr ((hp_20.up 2 rfl).cell hS_22 (k := 4) rfl), .inr ((hp_20.up 2 rfl).cell hS_22 (k := 5) rfl), .inr ((hp_20.up 2 rfl).cell hS_22 (k := 6) rfl), .inr ((hp_20.up 2 rfl).cell hS_22 (k := 7) rfl), .inr ((hp_20.up 2 rfl).cell hS_22 (k := 8) rfl), trivial⟩, ?_⟩
    refine qU [10, 11] ?_
    refine qLd (.slice taj_2 tnj_2 tkj_2) 3 Tryz.isAgg45 ?_
    refine qI hq_21 ?_
    refine qY (.agg (encTask x_16).toArray) rfl (fun w hF => Y_loadF rfl (Tryz.isAgg51 w) (Tryz.sizeOf51 w) (by kernel_rfl) rfl ⟨hF 4 _ _ rfl, hF 5 _ _ rfl, hF 6 _ _ rfl, hF 7 _ _ rfl, hF 8 _ _ rfl, hF 9 _ _ rfl, hF 10 _ _ rfl, hF 11 _ _ rfl, hF 12 _ _ rfl, trivial⟩) ?_
    refine qO rfl ?_
    refine sAlloc hS_22 Tryz.zeroValue51 ?_
    intro b_23 w_24 hS_25
    refine nilO ⟨⟨.inl (by kernel_rfl), .inl (by kernel_rfl), .inr ((hp_13.up 7 rfl).cell hS_25 (k := 2) rfl), .inr (hS_25.cell 2 rfl rfl), .inr ((hp_20.up 3 rfl).cell hS_25 (k := 0) rfl), .inr ((hp_20.up 3 rfl).cell hS_25 (k := 1) rfl), .inr ((hp_20.up 3 rfl).cell hS_25 (k := 2) rfl), .inr ((hp_20.up 3 rfl).cell hS_25 (k := 3) rfl), .inr ((hp_20.up 3 rfl).cell hS_25 (k := 4) rfl), .inr ((hp_20.up 3 rfl).cell hS_25 (k := 5) rfl), .inr ((hp_20.up 3 rfl).cell hS_25 (k := 6) rfl), .inr ((hp_20.up 3 rfl).cell hS_25 (k := 7) rfl), .inr ((hp_20.up 3 rfl).cell hS_25 (k := 8) rfl), trivial⟩, ?_⟩
    refine qO rfl ?_
    refine sT hS_25 0 0 (.agg (encTask x_16).toArray) (encTask x_16) (encTask x_16).toArray Tryz.sizeOf51 ?_
    intro w_26 hS_27
    refine nilO ⟨⟨.inl (by kernel_rfl), .inl (by kernel_rfl), .inl (by kernel_rfl), .inl (by kernel_rfl), .inl (by kernel_rfl), .inl (by kernel_rfl), .inl (by kernel_rfl), .inl (by kernel_rfl), .inl (by kernel_rfl), .inl (by kernel_rfl), .inl (by kernel_rfl), .inl (by kernel_rfl), .inl (by kernel_rfl), trivial⟩, ?_⟩
    refine qN ?_
    refine thenK_n <| seqE <| seqE <| regionE <| pu3 ?_
    refine sLp hS_27 (hp_13.up 7 rfl) 0 (.int .i64 x_9.phase) (Tryz.isAgg3 _) ?_
    refine nilO <| thenK_n <| blockE <| seqE <| regionE <| pu2 <| nilO <| thenK_n <| ?_
    refine cE x_9.phase 1 (fun hc_28 => ?_) (fun hc_28 => ?_)
    rotate_left
    · refine seqE <| regionE <| pu2 <| nilO <| thenK_n <| ?_
      refine cE x_9.phase 2 (fun hc_97 => ?_) (fun hc_97 => ?_)
      rotate_left
      · refine skipE <| blockK_n <| thenK_n <| seqE <| regionE <| pu2 ?_
        have hS_129 := (hS_27.picks [5, 5, 5, 5])
        have hS_126 := hS_129.merge3
        have hS_127 := Sat.shutN (d := ([(bj_2, .cells #[.slice taj_2 tnj_2 tkj_2, .int .i64 j.band, .pointer (some ⟨bbj_2, 0, none⟩), .bool (canc j)] 117 (0, 0))] ++ (Tj_2 ++ Mbj_2))) (A := []) nj_2 hjcj_2 hS_126
        rw [set_same hjcj_2] at hS_127
        have hS_130 := (hS_127.picks [8, 8, 8, 8, 8, 8])
        have hS_131 := (hS_130.merge7)
        have hRx_132 : FarmP p F ((Tri p 83 (preP F.cfg wb wo wn wk q m) (([] : List Ref).flatMap encRef) (encStt F.st)) ++ (Wc ++ (acs.flatten ++ (dcs.flatten ++ (Qc ++ (Jc ++ jcs.flatten)))))) := ⟨_, _, _, _, _, _, _, _, _, _, _, _, _, _, rfl, hOw, hco, hAs, hDs, hQ, hM, hJs⟩
        refine cX Tryz.call124 (pf_commit hRx_132 hF x hx hv0 hh hrun0 h12 (by have := hph; omega) (Sat.flat1 hS_131)) ?_
        rintro _ w_133 ⟨M_136, rfl, hR_137, hS_134⟩
        have hS_135 := Sat.unflat1 hS_134
        obtain ⟨ev_138, hev_139⟩ : ∃ z, z = (microF F x).2 := ⟨_, rfl⟩; rw [← hev_139]
        refine sT hS_135 2 0 (.agg (encEvt ev_138).toArray) (encEvt ev_138) (encEvt ev_138).toArray Tryz.sizeOf63 ?_
        intro w_140 hS_141
        refine nilO <| thenK_n <| retE <| retN (vs := [.agg (encEvt ev_138).toArray]) rfl (.cons (.cell _ _ _ _ (by kernel_rfl) (lvA hS_141 2 0 (encEvt ev_138) (Tryz.isAgg63 _) (Tryz.sizeOf63 _) rfl rfl rfl)) .nil) <| ?_
        have hS_142 := (hS_141.drops [1, 1])
        exact ⟨_, by rw [hev_139]; rfl, hR_137, hS_142⟩
      refine seqE <| regionE <| pu3 ?_
      refine sLp hS_27 (hp_13.up 7 rfl) 4 (.int .i64 x_9.row) (Tryz.isAgg3 _) ?_
      refine sAdd x_9.row 1 ?_
      refine pu2 ?_
      refine sStF hS_27 hOw rfl 7 (x).toNat 4 x_9 (⟨x_9.phase, x_9.heldJob, x_9.heldTask, x_9.attempt, (x_9.row + 1), x_9.a, x_9.d⟩ : PW) hx_12 (.int .i64 (x_9.row + 1)) [.int .i64 (x_9.row + 1)] Tryz.sizeOf3 ?_
      intro w_98 c_100 hO_101 hS_99
      refine nilO <| thenK_n <| seqE <| seqE ?_
      have hx_102 := set_at (y := (⟨x_9.phase, x_9.heldJob, x_9.heldTask, x_9.attempt, (x_9.row + 1), x_9.a, x_9.d⟩ : PW)) hx_12
      have hp_103 := OwnT.ptr hO_101 rfl hx_102
      refine drawF hS_99 [] (fq 3 4 (hp_103.up 7 rfl) <| fb 5 0 7 1 <| fn) [0, 1, 2, 4, 3, 5, 6] fun _ hS_104 => ?_
      refine wV 4 ?_
      refine wL 0 ?_
      refine wL 1 ?_
      refine wV 1 ?_
      refine wN ?_
      refine thenK_n <| ?_
      refine cD ((x_9.row + 1) ≥ x_16.rows) (fun hc_105 => ?_) (fun hc_105 => ?_)
      rotate_left
      · refine skipE <| thenK_n <| seqE <| regionE <| pu2 ?_
        refine sT hS_104 1 0 (.agg #[.int .i64 7, .int .i64 x, .int .i64 0, .int .i64 0, .int .i64 0, .int .i64 0, .int .i64 0]) [.int .i64 7, .int .i64 x, .int .i64 0, .int .i64 0, .int .i64 0, .int .i64 0, .int .i64 0] #[.int .i64 7, .int .i64 x, .int .i64 0, .int .i64 0, .int .i64 0, .int .i64 0, .int .i64 0] Tryz.sizeOf63 ?_
        intro w_118 hS_119
        refine nilO <| thenK_n <| retE <| blockK_r <| thenK_r <| retN (vs := [.agg #[.int .i64 7, .int .i64 x, .int .i64 0, .int .i64 0, .int .i64 0, .int .i64 0, .int .i64 0]]) rfl (.cons (.cell _ _ _ _ (by kernel_rfl) (lvA hS_119 1 0 [.int .i64 7, .int .i64 x, .int .i64 0, .int .i64 0, .int .i64 0, .int .i64 0, .int .i64 0] (Tryz.isAgg63 _) (Tryz.sizeOf63 _) rfl rfl rfl)) .nil) <| ?_
        have hS_123 := (hS_119.picks [5, 5, 5, 5])
        have hS_120 := hS_123.merge3
        have hS_121 := Sat.shutN (d := ([(bj_2, .cells #[.slice taj_2 tnj_2 tkj_2, .int .i64 j.band, .pointer (some ⟨bbj_2, 0, none⟩), .bool (canc j)] 117 (0, 0))] ++ (Tj_2 ++ Mbj_2))) (A := []) nj_2 hjcj_2 hS_120
        rw [set_same hjcj_2] at hS_121
        have hS_124 := ((hS_121.picks [8, 8, 8, 8, 8, 8]).drops [7, 7])
        have hS_125 := (hS_124.merge7)
        have he : (microF F x).1 = (⟨F.cfg, (F.ws.set x.toNat (⟨2, v0.heldJob, v0.heldTask, v0.attempt, v0.row + 1, v0.used, v0.high⟩ : Wkr)), F.ar, F.dq, F.q, F.jobs, F.st⟩ : FS) := by unfold microF jobAt; simp only [getD_some hv0, getD_some hj, getD_some htk]; rw [if_neg (by omega), if_pos (by omega)]; rw [if_neg (show ¬ v0.row + 1 = x_16.v.rows from show ¬ v0.row + 1 = x_16.rows by omega)]
        exact ⟨_, by unfold microF; simp only [getD_some hv0]; rw [if_neg (by omega), if_pos (by omega)]; rfl, by rw [he]; exact ⟨_, _, _, _, _, _, _, _, _, _, _, _, _, _, rfl, hO_101, (core_set hco (show (⟨x_9.phase, x_9.heldJob, x_9.heldTask, x_9.attempt, (x_9.row + 1)⟩ : Core) = ⟨2, v0.heldJob, v0.heldTask, v0.attempt, v0.row + 1⟩ by rw [hv_151, hv_152, hv_153, hv_154]; congr 1 <;> omega)), (by rw [map_setA (x' := (⟨x_9.phase, x_9.heldJob, x_9.heldTask, x_9.attempt, (x_9.row + 1), x_9.a, x_9.d⟩ : PW)) hx_12 rfl]; exact hAs), (by rw [map_setD (x' := (⟨x_9.phase, x_9.heldJob, x_9.heldTask, x_9.attempt, (x_9.row + 1), x_9.a, x_9.d⟩ : PW)) hx_12 rfl]; exact hDs), hQ, hM, hJs⟩, hS_125⟩
      refine regionE <| pu3 ?_
      refine sStF hS_104 hO_101 rfl 7 (x).toNat 0 (⟨x_9.phase, x_9.heldJob, x_9.heldTask, x_9.attempt, (x_9.row + 1), x_9.a, x_9.d⟩ : PW) (⟨3, x_9.heldJob, x_9.heldTask, x_9.attempt, (x_9.row + 1), x_9.a, x_9.d⟩ : PW) hx_102 (.int .i64 3) [.int .i64 3] Tryz.sizeOf3 ?_
      intro w_106 c_108 hO_109 hS_107
      rw [List.set_set] at hO_109
      refine nilO <| thenK_n <| seqE <| regionE <| pu2 ?_
      refine sT hS_107 1 0 (.agg #[.int .i64 7, .int .i64 x, .int .i64 0, .int .i64 0, .int .i64 0, .int .i64 0, .int .i64 0]) [.int .i64 7, .int .i64 x, .int .i64 0, .int .i64 0, .int .i64 0, .int .i64 0, .int .i64 0] #[.int .i64 7, .int .i64 x, .int .i64 0, .int .i64 0, .int .i64 0, .int .i64 0, .int .i64 0] Tryz.sizeOf63 ?_
      intro w_110 hS_111
      refine nilO <| thenK_n <| retE <| blockK_r <| thenK_r <| retN (vs := [.agg #[.int .i64 7, .int .i64 x, .int .i64 0, .int .i64 0, .int .i64 0, .int .i64 0, .int .i64 0]]) rfl (.cons (.cell _ _ _ _ (by kernel_rfl) (lvA hS_111 1 0 [.int .i64 7, .int .i64 x, .int .i64 0, .int .i64 0, .int .i64 0, .int .i64 0, .int .i64 0] (Tryz.isAgg63 _) (Tryz.sizeOf63 _) rfl rfl rfl)) .nil) <| ?_
      have hS_115 := (hS_111.picks [5, 5, 5, 5])
      have hS_112 := hS_115.merge3
      have hS_113 := Sat.shutN (d := ([(bj_2, .cells #[.slice taj_2 tnj_2 tkj_2, .int .i64 j.band, .pointer (some ⟨bbj_2, 0, none⟩), .bool (canc j)] 117 (0, 0))] ++ (Tj_2 ++ Mbj_2))) (A := []) nj_2 hjcj_2 hS_112
      rw [set_same hjcj_2] at hS_113
      have hS_116 := ((hS_113.picks [8, 8, 8, 8, 8, 8]).drops [7, 7])
      have hS_117 := (hS_116.merge7)
      have he : (microF F x).1 = (⟨F.cfg, (F.ws.set x.toNat (⟨3, v0.heldJob, v0.heldTask, v0.attempt, v0.row + 1, v0.used, v0.high⟩ : Wkr)), F.ar, F.dq, F.q, F.jobs, F.st⟩ : FS) := by unfold microF jobAt; simp only [getD_some hv0, getD_some hj, getD_some htk]; rw [if_neg (by omega), if_pos (by omega)]; rw [if_pos (show v0.row + 1 = x_16.v.rows from show v0.row + 1 = x_16.rows by have := hr2 (by omega); omega)]
      exact ⟨_, by unfold microF; simp only [getD_some hv0]; rw [if_neg (by omega), if_pos (by omega)]; rfl, by rw [he]; exact ⟨_, _, _, _, _, _, _, _, _, _, _, _, _, _, rfl, hO_109, (core_set hco (show (⟨3, x_9.heldJob, x_9.heldTask, x_9.attempt, (x_9.row + 1)⟩ : Core) = ⟨3, v0.heldJob, v0.heldTask, v0.attempt, v0.row + 1⟩ by rw [hv_151, hv_152, hv_153, hv_154])), (by rw [map_setA (x' := (⟨3, x_9.heldJob, x_9.heldTask, x_9.attempt, (x_9.row + 1), x_9.a, x_9.d⟩ : PW)) hx_12 rfl]; exact hAs), (by rw [map_setD (x' := (⟨3, x_9.heldJob, x_9.heldTask, x_9.attempt, (x_9.row + 1), x_9.a, x_9.d⟩ : PW)) hx_12 rfl]; exact hDs), hQ, hM, hJs⟩, hS_117⟩
    refine seqE <| regionE <| pu3 ?_
    refine sLp hS_27 (hp_13.up 7 rfl) 5 (.pointer (some ⟨x_9.a, 0, none⟩)) (Tryz.isAgg84 _) ?_
    obtain ⟨s_29, c_30, hs_31, hc_32, hR_33⟩ := Obs.get hAs (map_at' hx_12)
    have hS_35 := (hS_27.pick 8 rfl)
    have hS_34 := Sat.openN (A := []) x.toNat hc_32 hS_35
    refine cX Tryz.call122 (pa_mark hR_33  (Sat.flat1 hS_34)) ?_
    rintro _ w_36 ⟨M_39, rfl, hR_40, hS_37⟩
    have hS_38 := Sat.unflat1 hS_37
    have hS_41 := (hS_38.picks [1, 1])
    have hS_42 := Sat.shutN (d := M_39) (A := []) x.toNat hc_32 hS_41
    have hL_43 := Obs.set hAs (map_at' hx_12) hR_40
    refine nilO <| thenK_n <| seqE <| seqE <| regionE <| pu1 ?_
    refine sL hS_42 1 8 (.int .i64 x_16.scratch) (Tryz.isAgg3 _) ?_
    refine pu1 <| nilO <| thenK_n <| ?_
    refine cD (x_16.scratch > 0) (fun hc_44 => ?_) (fun hc_44 => ?_)
    rotate_left
    · refine skipE <| thenK_n <| seqE <| regionE <| pu3 ?_
      refine sStF hS_42 hOw rfl 8 (x).toNat 0 x_9 (⟨2, x_9.heldJob, x_9.heldTask, x_9.attempt, x_9.row, x_9.a, x_9.d⟩ : PW) hx_12 (.int .i64 2) [.int .i64 2] Tryz.sizeOf3 ?_
      intro w_79 c_81 hO_82 hS_80
      refine nilO <| thenK_n <| seqE <| regionE <| pu3 ?_
      have hx_83 := set_at (y := (⟨2, x_9.heldJob, x_9.heldTask, x_9.attempt, x_9.row, x_9.a, x_9.d⟩ : PW)) hx_12
      have hp_84 := OwnT.ptr hO_82 rfl hx_83
      refine sStF hS_80 hO_82 rfl 8 (x).toNat 4 (⟨2, x_9.heldJob, x_9.heldTask, x_9.attempt, x_9.row, x_9.a, x_9.d⟩ : PW) (⟨2, x_9.heldJob, x_9.heldTask, x_9.attempt, 0, x_9.a, x_9.d⟩ : PW) hx_83 (.int .i64 0) [.int .i64 0] Tryz.sizeOf3 ?_
      intro w_85 c_87 hO_88 hS_86
      rw [List.set_set] at hO_88
      refine nilO <| thenK_n <| seqE <| regionE <| pu2 ?_
      refine sT hS_86 2 0 (.agg #[.int .i64 6, .int .i64 x, .int .i64 0, .int .i64 0, .int .i64 0, .int .i64 0, .int .i64 0]) [.int .i64 6, .int .i64 x, .int .i64 0, .int .i64 0, .int .i64 0, .int .i64 0, .int .i64 0] #[.int .i64 6, .int .i64 x, .int .i64 0, .int .i64 0, .int .i64 0, .int .i64 0, .int .i64 0] Tryz.sizeOf63 ?_
      intro w_89 hS_90
      refine nilO <| thenK_n <| retE <| blockK_r <| thenK_r <| retN (vs := [.agg #[.int .i64 6, .int .i64 x, .int .i64 0, .int .i64 0, .int .i64 0, .int .i64 0, .int .i64 0]]) rfl (.cons (.cell _ _ _ _ (by kernel_rfl) (lvA hS_90 2 0 [.int .i64 6, .int .i64 x, .int .i64 0, .int .i64 0, .int .i64 0, .int .i64 0, .int .i64 0] (Tryz.isAgg63 _) (Tryz.sizeOf63 _) rfl rfl rfl)) .nil) <| ?_
      have hS_94 := (hS_90.picks [6, 6, 6, 6])
      have hS_91 := hS_94.merge3
      have hS_92 := Sat.shutN (d := ([(bj_2, .cells #[.slice taj_2 tnj_2 tkj_2, .int .i64 j.band, .pointer (some ⟨bbj_2, 0, none⟩), .bool (canc j)] 117 (0, 0))] ++ (Tj_2 ++ Mbj_2))) (A := []) nj_2 hjcj_2 hS_91
      rw [set_same hjcj_2] at hS_92
      have hrow0 := hA0.r1 (by omega)
      have hS_95 := ((hS_92.picks [8, 8, 8, 4, 8, 8]).drops [7, 7])
      have hS_96 := (hS_95.merge7)
      have he : (microF F x).1 = (⟨F.cfg, (F.ws.set x.toNat (⟨2, v0.heldJob, v0.heldTask, v0.attempt, v0.row, (markA s_29).used, (markA s_29).high⟩ : Wkr)), (F.ar.set x.toNat (markA s_29)), F.dq, F.q, F.jobs, F.st⟩ : FS) := by unfold microF jobAt; simp only [getD_some hv0, getD_some hj, getD_some htk, getD_some hs_31]; rw [if_pos (by omega)]; rw [if_neg (show ¬ x_16.v.scratch > 0 from show ¬ x_16.scratch > 0 by omega)]
      exact ⟨_, by unfold microF; simp only [getD_some hv0]; rw [if_pos (by omega)]; rfl, by rw [he]; exact ⟨_, _, _, _, _, _, _, _, _, _, _, _, _, _, rfl, hO_88, (core_set hco (show (⟨2, x_9.heldJob, x_9.heldTask, x_9.attempt, 0⟩ : Core) = ⟨2, v0.heldJob, v0.heldTask, v0.attempt, v0.row⟩ by rw [hv_151, hv_152, hv_153, hrow0])), (by rw [map_setA (x' := (⟨2, x_9.heldJob, x_9.heldTask, x_9.attempt, 0, x_9.a, x_9.d⟩ : PW)) hx_12 rfl]; exact hL_43), (by rw [map_setD (x' := (⟨2, x_9.heldJob, x_9.heldTask, x_9.attempt, 0, x_9.a, x_9.d⟩ : PW)) hx_12 rfl]; exact hDs), hQ, hM, hJs⟩, hS_96⟩
    refine drawF hS_42 [6] (fq 3 5 (hp_13.up 8 rfl) <| fb 5 1 8 1 <| fn) [0, 1, 2, 4, 3, 5, 6] fun _ hS_45 => ?_
    refine wV 4 ?_
    refine wL 0 ?_
    refine wL 1 ?_
    refine wO rfl ?_
    have hS_51 := Sat.openN (A := []) x.toNat (set_at hc_32) hS_45
    refine cX Tryz.call123 (pa_alloc hR_40 x_16.scratch 16 (Sat.flat1 hS_51)) ?_
    rintro _ w_52 ⟨M_55, v_57, rfl, hR_56, hS_53⟩
    have hS_54 := Sat.unflat1 hS_53
    have hS_58 := (hS_54.picks [1, 1])
    have hS_59 := Sat.shutN (d := M_55) (A := []) x.toNat (set_at hc_32) hS_58
    have hL_60 := Obs.set hL_43 (map_at' hx_12) hR_56
    refine nA ?_
    refine wN ?_
    refine thenK_n <| seqE <| regionE <| pu3 ?_
    refine sStF hS_59 hOw rfl 8 (x).toNat 0 x_9 (⟨2, x_9.heldJob, x_9.heldTask, x_9.attempt, x_9.row, x_9.a, x_9.d⟩ : PW) hx_12 (.int .i64 2) [.int .i64 2] Tryz.sizeOf3 ?_
    intro w_61 c_63 hO_64 hS_62
    refine nilO <| thenK_n <| seqE <| regionE <| pu3 ?_
    have hx_65 := set_at (y := (⟨2, x_9.heldJob, x_9.heldTask, x_9.attempt, x_9.row, x_9.a, x_9.d⟩ : PW)) hx_12
    have hp_66 := OwnT.ptr hO_64 rfl hx_65
    refine sStF hS_62 hO_64 rfl 8 (x).toNat 4 (⟨2, x_9.heldJob, x_9.heldTask, x_9.attempt, x_9.row, x_9.a, x_9.d⟩ : PW) (⟨2, x_9.heldJob, x_9.heldTask, x_9.attempt, 0, x_9.a, x_9.d⟩ : PW) hx_65 (.int .i64 0) [.int .i64 0] Tryz.sizeOf3 ?_
    intro w_67 c_69 hO_70 hS_68
    rw [List.set_set] at hO_70
    refine nilO <| thenK_n <| seqE <| regionE <| pu2 ?_
    refine sT hS_68 2 0 (.agg #[.int .i64 6, .int .i64 x, .int .i64 0, .int .i64 0, .int .i64 0, .int .i64 0, .int .i64 0]) [.int .i64 6, .int .i64 x, .int .i64 0, .int .i64 0, .int .i64 0, .int .i64 0, .int .i64 0] #[.int .i64 6, .int .i64 x, .int .i64 0, .int .i64 0, .int .i64 0, .int .i64 0, .int .i64 0] Tryz.sizeOf63 ?_
    intro w_71 hS_72
    refine nilO <| thenK_n <| retE <| blockK_r <| thenK_r <| retN (vs := [.agg #[.int .i64 6, .int .i64 x, .int .i64 0, .int .i64 0, .int .i64 0, .int .i64 0, .int .i64 0]]) rfl (.cons (.cell _ _ _ _ (by kernel_rfl) (lvA hS_72 2 0 [.int .i64 6, .int .i64 x, .int .i64 0, .int .i64 0, .int .i64 0, .int .i64 0, .int .i64 0] (Tryz.isAgg63 _) (Tryz.sizeOf63 _) rfl rfl rfl)) .nil) <| ?_
    have hS_76 := (hS_72.picks [6, 6, 6, 6])
    have hS_73 := hS_76.merge3
    have hS_74 := Sat.shutN (d := ([(bj_2, .cells #[.slice taj_2 tnj_2 tkj_2, .int .i64 j.band, .pointer (some ⟨bbj_2, 0, none⟩), .bool (canc j)] 117 (0, 0))] ++ (Tj_2 ++ Mbj_2))) (A := []) nj_2 hjcj_2 hS_73
    rw [set_same hjcj_2] at hS_74
    have hrow0 := hA0.r1 (by omega)
    have hS_77 := ((hS_74.picks [8, 8, 8, 4, 8, 8]).drops [7, 7])
    have hS_78 := (hS_77.merge7)
    have he : (microF F x).1 = (⟨F.cfg, (F.ws.set x.toNat (⟨2, v0.heldJob, v0.heldTask, v0.attempt, v0.row, (allocA (markA s_29) x_16.scratch 16).used, (allocA (markA s_29) x_16.scratch 16).high⟩ : Wkr)), ((F.ar.set x.toNat (markA s_29)).set x.toNat (allocA (markA s_29) x_16.scratch 16)), F.dq, F.q, F.jobs, F.st⟩ : FS) := by unfold microF jobAt; simp only [getD_some hv0, getD_some hj, getD_some htk, getD_some hs_31]; rw [if_pos (by omega)]; rw [if_pos (show x_16.v.scratch > 0 from show x_16.scratch > 0 by omega)]; simp only [List.set_set]; rfl
    exact ⟨_, by unfold microF; simp only [getD_some hv0]; rw [if_pos (by omega)]; rfl, by rw [he]; exact ⟨_, _, _, _, _, _, _, _, _, _, _, _, _, _, rfl, hO_70, (core_set hco (show (⟨2, x_9.heldJob, x_9.heldTask, x_9.attempt, 0⟩ : Core) = ⟨2, v0.heldJob, v0.heldTask, v0.attempt, v0.row⟩ by rw [hv_151, hv_152, hv_153, hrow0])), (by rw [map_setA (x' := (⟨2, x_9.heldJob, x_9.heldTask, x_9.attempt, 0, x_9.a, x_9.d⟩ : PW)) hx_12 rfl]; exact hL_60), (by rw [map_setD (x' := (⟨2, x_9.heldJob, x_9.heldTask, x_9.attempt, 0, x_9.a, x_9.d⟩ : PW)) hx_12 rfl]; exact hDs), hQ, hM, hJs⟩, hS_78⟩
  refine qO rfl ?_
  refine sAlloc hS_22 Tryz.zeroValue51 ?_
  intro b_143 w_144 hS_145
  refine nilO ⟨⟨.inr (cell_up hS_145 6 rfl (k := 10) tri_pre rfl), .inr ((hp_13.up 7 rfl).cell hS_145 (k := 1) rfl), .inr ((hp_13.up 7 rfl).cell hS_145 (k := 2) rfl), .inr (hS_145.cell 2 rfl rfl), .inr ((hp_20.up 3 rfl).cell hS_145 (k := 0) rfl), .inr ((hp_20.up 3 rfl).cell hS_145 (k := 1) rfl), .inr ((hp_20.up 3 rfl).cell hS_145 (k := 2) rfl), .inr ((hp_20.up 3 rfl).cell hS_145 (k := 3) rfl), .inr ((hp_20.up 3 rfl).cell hS_145 (k := 4) rfl), .inr ((hp_20.up 3 rfl).cell hS_145 (k := 5) rfl), .inr ((hp_20.up 3 rfl).cell hS_145 (k := 6) rfl), .inr ((hp_20.up 3 rfl).cell hS_145 (k := 7) rfl), .inr ((hp_20.up 3 rfl).cell hS_145 (k := 8) rfl), trivial⟩, ?_⟩
  refine qO rfl ?_
  refine stepY (.pointer (some ⟨bj_2, 0, none⟩)) rfl rfl (Y_iget (k := x_9.heldJob) hS_145 11 hM (by rw [hv_151, hgj_2]; rfl) Tryz.runUnderlying80 Tryz.runUnderlying3 Tryz.zeroValue110) ?_
  refine nilO ⟨⟨.inl (by kernel_rfl), .inl (by kernel_rfl), .inr ((hp_13.up 7 rfl).cell hS_145 (k := 2) rfl), .inr (hS_145.cell 2 rfl rfl), .inr ((hp_20.up 3 rfl).cell hS_145 (k := 0) rfl), .inr ((hp_20.up 3 rfl).cell hS_145 (k := 1) rfl), .inr ((hp_20.up 3 rfl).cell hS_145 (k := 2) rfl), .inr ((hp_20.up 3 rfl).cell hS_145 (k := 3) rfl), .inr ((hp_20.up 3 rfl).cell hS_145 (k := 4) rfl), .inr ((hp_20.up 3 rfl).cell hS_145 (k := 5) rfl), .inr ((hp_20.up 3 rfl).cell hS_145 (k := 6) rfl), .inr ((hp_20.up 3 rfl).cell hS_145 (k := 7) rfl), .inr ((hp_20.up 3 rfl).cell hS_145 (k := 8) rfl), trivial⟩, ?_⟩
  refine qU [10, 11] ?_
  refine qLd (.slice taj_2 tnj_2 tkj_2) 3 Tryz.isAgg45 ?_
  refine qI hq_21 ?_
  refine qY (.agg (encTask x_16).toArray) rfl (fun w hF => Y_loadF rfl (Tryz.isAgg51 w) (Tryz.sizeOf51 w) (by kernel_rfl) rfl ⟨hF 4 _ _ rfl, hF 5 _ _ rfl, hF 6 _ _ rfl, hF 7 _ _ rfl, hF 8 _ _ rfl, hF 9 _ _ rfl, hF 10 _ _ rfl, hF 11 _ _ rfl, hF 12 _ _ rfl, trivial⟩) ?_
  refine qO rfl ?_
  refine sT hS_145 0 0 (.agg (encTask x_16).toArray) (encTask x_16) (encTask x_16).toArray Tryz.sizeOf51 ?_
  intro w_146 hS_147
  refine nilO ⟨⟨.inl (by kernel_rfl), .inl (by kernel_rfl), .inl (by kernel_rfl), .inl (by kernel_rfl), .inl (by kernel_rfl), .inl (by kernel_rfl), .inl (by kernel_rfl), .inl (by kernel_rfl), .inl (by kernel_rfl), .inl (by kernel_rfl), .inl (by kernel_rfl), .inl (by kernel_rfl), .inl (by kernel_rfl), trivial⟩, ?_⟩
  refine qN ?_
  refine thenK_n <| seqE <| seqE <| regionE <| pu3 ?_
  refine sLp hS_147 (hp_13.up 7 rfl) 0 (.int .i64 x_9.phase) (Tryz.isAgg3 _) ?_
  refine nilO <| thenK_n <| blockE <| seqE <| regionE <| pu2 <| nilO <| thenK_n <| ?_
  refine cE x_9.phase 1 (fun hc_148 => ?_) (fun hc_148 => ?_)
  rotate_left
  · refine seqE <| regionE <| pu2 <| nilO <| thenK_n <| ?_
    refine cE x_9.phase 2 (fun hc_217 => ?_) (fun hc_217 => ?_)
    rotate_left
    · refine skipE <| blockK_n <| thenK_n <| seqE <| regionE <| pu2 ?_
      have hS_249 := (hS_147.picks [5, 5, 5, 5])
      have hS_246 := hS_249.merge3
      have hS_247 := Sat.shutN (d := ([(bj_2, .cells #[.slice taj_2 tnj_2 tkj_2, .int .i64 j.band, .pointer (some ⟨bbj_2, 0, none⟩), .bool (canc j)] 117 (0, 0))] ++ (Tj_2 ++ Mbj_2))) (A := []) nj_2 hjcj_2 hS_246
      rw [set_same hjcj_2] at hS_247
      have hS_250 := (hS_247.picks [8, 8, 8, 8, 8, 8])
      have hS_251 := (hS_250.merge7)
      have hRx_252 : FarmP p F ((Tri p 83 (preP F.cfg wb wo wn wk q m) (([] : List Ref).flatMap encRef) (encStt F.st)) ++ (Wc ++ (acs.flatten ++ (dcs.flatten ++ (Qc ++ (Jc ++ jcs.flatten)))))) := ⟨_, _, _, _, _, _, _, _, _, _, _, _, _, _, rfl, hOw, hco, hAs, hDs, hQ, hM, hJs⟩
      refine cX Tryz.call124 (pf_commit hRx_252 hF x hx hv0 hh hrun0 h12 (by have := hph; omega) (Sat.flat1 hS_251)) ?_
      rintro _ w_253 ⟨M_256, rfl, hR_257, hS_254⟩
      have hS_255 := Sat.unflat1 hS_254
      obtain ⟨ev_258, hev_259⟩ : ∃ z, z = (microF F x).2 := ⟨_, rfl⟩; rw [← hev_259]
      refine sT hS_255 2 0 (.agg (encEvt ev_258).toArray) (encEvt ev_258) (encEvt ev_258).toArray Tryz.sizeOf63 ?_
      intro w_260 hS_261
      refine nilO <| thenK_n <| retE <| retN (vs := [.agg (encEvt ev_258).toArray]) rfl (.cons (.cell _ _ _ _ (by kernel_rfl) (lvA hS_261 2 0 (encEvt ev_258) (Tryz.isAgg63 _) (Tryz.sizeOf63 _) rfl rfl rfl)) .nil) <| ?_
      have hS_262 := (hS_261.drops [1, 1])
      exact ⟨_, by rw [hev_259]; rfl, hR_257, hS_262⟩
    refine seqE <| regionE <| pu3 ?_
    refine sLp hS_147 (hp_13.up 7 rfl) 4 (.int .i64 x_9.row) (Tryz.isAgg3 _) ?_
    refine sAdd x_9.row 1 ?_
    refine pu2 ?_
    refine sStF hS_147 hOw rfl 7 (x).toNat 4 x_9 (⟨x_9.phase, x_9.heldJob, x_9.heldTask, x_9.attempt, (x_9.row + 1), x_9.a, x_9.d⟩ : PW) hx_12 (.int .i64 (x_9.row + 1)) [.int .i64 (x_9.row + 1)] Tryz.sizeOf3 ?_
    intro w_218 c_220 hO_221 hS_219
    refine nilO <| thenK_n <| seqE <| seqE ?_
    have hx_222 := set_at (y := (⟨x_9.phase, x_9.heldJob, x_9.heldTask, x_9.attempt, (x_9.row + 1), x_9.a, x_9.d⟩ : PW)) hx_12
    have hp_223 := OwnT.ptr hO_221 rfl hx_222
    refine drawF hS_219 [] (fq 3 4 (hp_223.up 7 rfl) <| fb 5 0 7 1 <| fn) [0, 1, 2, 4, 3, 5, 6] fun _ hS_224 => ?_
    refine wV 4 ?_
    refine wL 0 ?_
    refine wL 1 ?_
    refine wV 1 ?_
    refine wN ?_
    refine thenK_n <| ?_
    refine cD ((x_9.row + 1) ≥ x_16.rows) (fun hc_225 => ?_) (fun hc_225 => ?_)
    rotate_left
    · refine skipE <| thenK_n <| seqE <| regionE <| pu2 ?_
      refine sT hS_224 1 0 (.agg #[.int .i64 7, .int .i64 x, .int .i64 0, .int .i64 0, .int .i64 0, .int .i64 0, .int .i64 0]) [.int .i64 7, .int .i64 x, .int .i64 0, .int .i64 0, .int .i64 0, .int .i64 0, .int .i64 0] #[.int .i64 7, .int .i64 x, .int .i64 0, .int .i64 0, .int .i64 0, .int .i64 0, .int .i64 0] Tryz.sizeOf63 ?_
      intro w_238 hS_239
      refine nilO <| thenK_n <| retE <| blockK_r <| thenK_r <| retN (vs := [.agg #[.int .i64 7, .int .i64 x, .int .i64 0, .int .i64 0, .int .i64 0, .int .i64 0, .int .i64 0]]) rfl (.cons (.cell _ _ _ _ (by kernel_rfl) (lvA hS_239 1 0 [.int .i64 7, .int .i64 x, .int .i64 0, .int .i64 0, .int .i64 0, .int .i64 0, .int .i64 0] (Tryz.isAgg63 _) (Tryz.sizeOf63 _) rfl rfl rfl)) .nil) <| ?_
      have hS_243 := (hS_239.picks [5, 5, 5, 5])
      have hS_240 := hS_243.merge3
      have hS_241 := Sat.shutN (d := ([(bj_2, .cells #[.slice taj_2 tnj_2 tkj_2, .int .i64 j.band, .pointer (some ⟨bbj_2, 0, none⟩), .bool (canc j)] 117 (0, 0))] ++ (Tj_2 ++ Mbj_2))) (A := []) nj_2 hjcj_2 hS_240
      rw [set_same hjcj_2] at hS_241
      have hS_244 := ((hS_241.picks [8, 8, 8, 8, 8, 8]).drops [7, 7])
      have hS_245 := (hS_244.merge7)
      have he : (microF F x).1 = (⟨F.cfg, (F.ws.set x.toNat (⟨2, v0.heldJob, v0.heldTask, v0.attempt, v0.row + 1, v0.used, v0.high⟩ : Wkr)), F.ar, F.dq, F.q, F.jobs, F.st⟩ : FS) := by unfold microF jobAt; simp only [getD_some hv0, getD_some hj, getD_some htk]; rw [if_neg (by omega), if_pos (by omega)]; rw [if_neg (show ¬ v0.row + 1 = x_16.v.rows from show ¬ v0.row + 1 = x_16.rows by omega)]
      exact ⟨_, by unfold microF; simp only [getD_some hv0]; rw [if_neg (by omega), if_pos (by omega)]; rfl, by rw [he]; exact ⟨_, _, _, _, _, _, _, _, _, _, _, _, _, _, rfl, hO_221, (core_set hco (show (⟨x_9.phase, x_9.heldJob, x_9.heldTask, x_9.attempt, (x_9.row + 1)⟩ : Core) = ⟨2, v0.heldJob, v0.heldTask, v0.attempt, v0.row + 1⟩ by rw [hv_151, hv_152, hv_153, hv_154]; congr 1 <;> omega)), (by rw [map_setA (x' := (⟨x_9.phase, x_9.heldJob, x_9.heldTask, x_9.attempt, (x_9.row + 1), x_9.a, x_9.d⟩ : PW)) hx_12 rfl]; exact hAs), (by rw [map_setD (x' := (⟨x_9.phase, x_9.heldJob, x_9.heldTask, x_9.attempt, (x_9.row + 1), x_9.a, x_9.d⟩ : PW)) hx_12 rfl]; exact hDs), hQ, hM, hJs⟩, hS_245⟩
    refine regionE <| pu3 ?_
    refine sStF hS_224 hO_221 rfl 7 (x).toNat 0 (⟨x_9.phase, x_9.heldJob, x_9.heldTask, x_9.attempt, (x_9.row + 1), x_9.a, x_9.d⟩ : PW) (⟨3, x_9.heldJob, x_9.heldTask, x_9.attempt, (x_9.row + 1), x_9.a, x_9.d⟩ : PW) hx_222 (.int .i64 3) [.int .i64 3] Tryz.sizeOf3 ?_
    intro w_226 c_228 hO_229 hS_227
    rw [List.set_set] at hO_229
    refine nilO <| thenK_n <| seqE <| regionE <| pu2 ?_
    refine sT hS_227 1 0 (.agg #[.int .i64 7, .int .i64 x, .int .i64 0, .int .i64 0, .int .i64 0, .int .i64 0, .int .i64 0]) [.int .i64 7, .int .i64 x, .int .i64 0, .int .i64 0, .int .i64 0, .int .i64 0, .int .i64 0] #[.int .i64 7, .int .i64 x, .int .i64 0, .int .i64 0, .int .i64 0, .int .i64 0, .int .i64 0] Tryz.sizeOf63 ?_
    intro w_230 hS_231
    refine nilO <| thenK_n <| retE <| blockK_r <| thenK_r <| retN (vs := [.agg #[.int .i64 7, .int .i64 x, .int .i64 0, .int .i64 0, .int .i64 0, .int .i64 0, .int .i64 0]]) rfl (.cons (.cell _ _ _ _ (by kernel_rfl) (lvA hS_231 1 0 [.int .i64 7, .int .i64 x, .int .i64 0, .int .i64 0, .int .i64 0, .int .i64 0, .int .i64 0] (Tryz.isAgg63 _) (Tryz.sizeOf63 _) rfl rfl rfl)) .nil) <| ?_
    have hS_235 := (hS_231.picks [5, 5, 5, 5])
    have hS_232 := hS_235.merge3
    have hS_233 := Sat.shutN (d := ([(bj_2, .cells #[.slice taj_2 tnj_2 tkj_2, .int .i64 j.band, .pointer (some ⟨bbj_2, 0, none⟩), .bool (canc j)] 117 (0, 0))] ++ (Tj_2 ++ Mbj_2))) (A := []) nj_2 hjcj_2 hS_232
    rw [set_same hjcj_2] at hS_233
    have hS_236 := ((hS_233.picks [8, 8, 8, 8, 8, 8]).drops [7, 7])
    have hS_237 := (hS_236.merge7)
    have he : (microF F x).1 = (⟨F.cfg, (F.ws.set x.toNat (⟨3, v0.heldJob, v0.heldTask, v0.attempt, v0.row + 1, v0.used, v0.high⟩ : Wkr)), F.ar, F.dq, F.q, F.jobs, F.st⟩ : FS) := by unfold microF jobAt; simp only [getD_some hv0, getD_some hj, getD_some htk]; rw [if_neg (by omega), if_pos (by omega)]; rw [if_pos (show v0.row + 1 = x_16.v.rows from show v0.row + 1 = x_16.rows by have := hr2 (by omega); omega)]
    exact ⟨_, by unfold microF; simp only [getD_some hv0]; rw [if_neg (by omega), if_pos (by omega)]; rfl, by rw [he]; exact ⟨_, _, _, _, _, _, _, _, _, _, _, _, _, _, rfl, hO_229, (core_set hco (show (⟨3, x_9.heldJob, x_9.heldTask, x_9.attempt, (x_9.row + 1)⟩ : Core) = ⟨3, v0.heldJob, v0.heldTask, v0.attempt, v0.row + 1⟩ by rw [hv_151, hv_152, hv_153, hv_154])), (by rw [map_setA (x' := (⟨3, x_9.heldJob, x_9.heldTask, x_9.attempt, (x_9.row + 1), x_9.a, x_9.d⟩ : PW)) hx_12 rfl]; exact hAs), (by rw [map_setD (x' := (⟨3, x_9.heldJob, x_9.heldTask, x_9.attempt, (x_9.row + 1), x_9.a, x_9.d⟩ : PW)) hx_12 rfl]; exact hDs), hQ, hM, hJs⟩, hS_237⟩
  refine seqE <| regionE <| pu3 ?_
  refine sLp hS_147 (hp_13.up 7 rfl) 5 (.pointer (some ⟨x_9.a, 0, none⟩)) (Tryz.isAgg84 _) ?_
  obtain ⟨s_149, c_150, hs_151, hc_152, hR_153⟩ := Obs.get hAs (map_at' hx_12)
  have hS_155 := (hS_147.pick 8 rfl)
  have hS_154 := Sat.openN (A := []) x.toNat hc_152 hS_155
  refine cX Tryz.call122 (pa_mark hR_153  (Sat.flat1 hS_154)) ?_
  rintro _ w_156 ⟨M_159, rfl, hR_160, hS_157⟩
  have hS_158 := Sat.unflat1 hS_157
  have hS_161 := (hS_158.picks [1, 1])
  have hS_162 := Sat.shutN (d := M_159) (A := []) x.toNat hc_152 hS_161
  have hL_163 := Obs.set hAs (map_at' hx_12) hR_160
  refine nilO <| thenK_n <| seqE <| seqE <| regionE <| pu1 ?_
  refine sL hS_162 1 8 (.int .i64 x_16.scratch) (Tryz.isAgg3 _) ?_
  refine pu1 <| nilO <| thenK_n <| ?_
  refine cD (x_16.scratch > 0) (fun hc_164 => ?_) (fun hc_164 => ?_)
  rotate_left
  · refine skipE <| thenK_n <| seqE <| regionE <| pu3 ?_
    refine sStF hS_162 hOw rfl 8 (x).toNat 0 x_9 (⟨2, x_9.heldJob, x_9.heldTask, x_9.attempt, x_9.row, x_9.a, x_9.d⟩ : PW) hx_12 (.int .i64 2) [.int .i64 2] Tryz.sizeOf3 ?_
    intro w_199 c_201 hO_202 hS_200
    refine nilO <| thenK_n <| seqE <| regionE <| pu3 ?_
    have hx_203 := set_at (y := (⟨2, x_9.heldJob, x_9.heldTask, x_9.attempt, x_9.row, x_9.a, x_9.d⟩ : PW)) hx_12
    have hp_204 := OwnT.ptr hO_202 rfl hx_203
    refine sStF hS_200 hO_202 rfl 8 (x).toNat 4 (⟨2, x_9.heldJob, x_9.heldTask, x_9.attempt, x_9.row, x_9.a, x_9.d⟩ : PW) (⟨2, x_9.heldJob, x_9.heldTask, x_9.attempt, 0, x_9.a, x_9.d⟩ : PW) hx_203 (.int .i64 0) [.int .i64 0] Tryz.sizeOf3 ?_
    intro w_205 c_207 hO_208 hS_206
    rw [List.set_set] at hO_208
    refine nilO <| thenK_n <| seqE <| regionE <| pu2 ?_
    refine sT hS_206 2 0 (.agg #[.int .i64 6, .int .i64 x, .int .i64 0, .int .i64 0, .int .i64 0, .int .i64 0, .int .i64 0]) [.int .i64 6, .int .i64 x, .int .i64 0, .int .i64 0, .int .i64 0, .int .i64 0, .int .i64 0] #[.int .i64 6, .int .i64 x, .int .i64 0, .int .i64 0, .int .i64 0, .int .i64 0, .int .i64 0] Tryz.sizeOf63 ?_
    intro w_209 hS_210
    refine nilO <| thenK_n <| retE <| blockK_r <| thenK_r <| retN (vs := [.agg #[.int .i64 6, .int .i64 x, .int .i64 0, .int .i64 0, .int .i64 0, .int .i64 0, .int .i64 0]]) rfl (.cons (.cell _ _ _ _ (by kernel_rfl) (lvA hS_210 2 0 [.int .i64 6, .int .i64 x, .int .i64 0, .int .i64 0, .int .i64 0, .int .i64 0, .int .i64 0] (Tryz.isAgg63 _) (Tryz.sizeOf63 _) rfl rfl rfl)) .nil) <| ?_
    have hS_214 := (hS_210.picks [6, 6, 6, 6])
    have hS_211 := hS_214.merge3
    have hS_212 := Sat.shutN (d := ([(bj_2, .cells #[.slice taj_2 tnj_2 tkj_2, .int .i64 j.band, .pointer (some ⟨bbj_2, 0, none⟩), .bool (canc j)] 117 (0, 0))] ++ (Tj_2 ++ Mbj_2))) (A := []) nj_2 hjcj_2 hS_211
    rw [set_same hjcj_2] at hS_212
    have hrow0 := hA0.r1 (by omega)
    have hS_215 := ((hS_212.picks [8, 8, 8, 4, 8, 8]).drops [7, 7])
    have hS_216 := (hS_215.merge7)
    have he : (microF F x).1 = (⟨F.cfg, (F.ws.set x.toNat (⟨2, v0.heldJob, v0.heldTask, v0.attempt, v0.row, (markA s_149).used, (markA s_149).high⟩ : Wkr)), (F.ar.set x.toNat (markA s_149)), F.dq, F.q, F.jobs, F.st⟩ : FS) := by unfold microF jobAt; simp only [getD_some hv0, getD_some hj, getD_some htk, getD_some hs_151]; rw [if_pos (by omega)]; rw [if_neg (show ¬ x_16.v.scratch > 0 from show ¬ x_16.scratch > 0 by omega)]
    exact ⟨_, by unfold microF; simp only [getD_some hv0]; rw [if_pos (by omega)]; rfl, by rw [he]; exact ⟨_, _, _, _, _, _, _, _, _, _, _, _, _, _, rfl, hO_208, (core_set hco (show (⟨2, x_9.heldJob, x_9.heldTask, x_9.attempt, 0⟩ : Core) = ⟨2, v0.heldJob, v0.heldTask, v0.attempt, v0.row⟩ by rw [hv_151, hv_152, hv_153, hrow0])), (by rw [map_setA (x' := (⟨2, x_9.heldJob, x_9.heldTask, x_9.attempt, 0, x_9.a, x_9.d⟩ : PW)) hx_12 rfl]; exact hL_163), (by rw [map_setD (x' := (⟨2, x_9.heldJob, x_9.heldTask, x_9.attempt, 0, x_9.a, x_9.d⟩ : PW)) hx_12 rfl]; exact hDs), hQ, hM, hJs⟩, hS_216⟩
  refine drawF hS_162 [6] (fq 3 5 (hp_13.up 8 rfl) <| fb 5 1 8 1 <| fn) [0, 1, 2, 4, 3, 5, 6] fun _ hS_165 => ?_
  refine wV 4 ?_
  refine wL 0 ?_
  refine wL 1 ?_
  refine wO rfl ?_
  have hS_171 := Sat.openN (A := []) x.toNat (set_at hc_152) hS_165
  refine cX Tryz.call123 (pa_alloc hR_160 x_16.scratch 16 (Sat.flat1 hS_171)) ?_
  rintro _ w_172 ⟨M_175, v_177, rfl, hR_176, hS_173⟩
  have hS_174 := Sat.unflat1 hS_173
  have hS_178 := (hS_174.picks [1, 1])
  have hS_179 := Sat.shutN (d := M_175) (A := []) x.toNat (set_at hc_152) hS_178
  have hL_180 := Obs.set hL_163 (map_at' hx_12) hR_176
  refine nA ?_
  refine wN ?_
  refine thenK_n <| seqE <| regionE <| pu3 ?_
  refine sStF hS_179 hOw rfl 8 (x).toNat 0 x_9 (⟨2, x_9.heldJob, x_9.heldTask, x_9.attempt, x_9.row, x_9.a, x_9.d⟩ : PW) hx_12 (.int .i64 2) [.int .i64 2] Tryz.sizeOf3 ?_
  intro w_181 c_183 hO_184 hS_182
  refine nilO <| thenK_n <| seqE <| regionE <| pu3 ?_
  have hx_185 := set_at (y := (⟨2, x_9.heldJob, x_9.heldTask, x_9.attempt, x_9.row, x_9.a, x_9.d⟩ : PW)) hx_12
  have hp_186 := OwnT.ptr hO_184 rfl hx_185
  refine sStF hS_182 hO_184 rfl 8 (x).toNat 4 (⟨2, x_9.heldJob, x_9.heldTask, x_9.attempt, x_9.row, x_9.a, x_9.d⟩ : PW) (⟨2, x_9.heldJob, x_9.heldTask, x_9.attempt, 0, x_9.a, x_9.d⟩ : PW) hx_185 (.int .i64 0) [.int .i64 0] Tryz.sizeOf3 ?_
  intro w_187 c_189 hO_190 hS_188
  rw [List.set_set] at hO_190
  refine nilO <| thenK_n <| seqE <| regionE <| pu2 ?_
  refine sT hS_188 2 0 (.agg #[.int .i64 6, .int .i64 x, .int .i64 0, .int .i64 0, .int .i64 0, .int .i64 0, .int .i64 0]) [.int .i64 6, .int .i64 x, .int .i64 0, .int .i64 0, .int .i64 0, .int .i64 0, .int .i64 0] #[.int .i64 6, .int .i64 x, .int .i64 0, .int .i64 0, .int .i64 0, .int .i64 0, .int .i64 0] Tryz.sizeOf63 ?_
  intro w_191 hS_192
  refine nilO <| thenK_n <| retE <| blockK_r <| thenK_r <| retN (vs := [.agg #[.int .i64 6, .int .i64 x, .int .i64 0, .int .i64 0, .int .i64 0, .int .i64 0, .int .i64 0]]) rfl (.cons (.cell _ _ _ _ (by kernel_rfl) (lvA hS_192 2 0 [.int .i64 6, .int .i64 x, .int .i64 0, .int .i64 0, .int .i64 0, .int .i64 0, .int .i64 0] (Tryz.isAgg63 _) (Tryz.sizeOf63 _) rfl rfl rfl)) .nil) <| ?_
  have hS_196 := (hS_192.picks [6, 6, 6, 6])
  have hS_193 := hS_196.merge3
  have hS_194 := Sat.shutN (d := ([(bj_2, .cells #[.slice taj_2 tnj_2 tkj_2, .int .i64 j.band, .pointer (some ⟨bbj_2, 0, none⟩), .bool (canc j)] 117 (0, 0))] ++ (Tj_2 ++ Mbj_2))) (A := []) nj_2 hjcj_2 hS_193
  rw [set_same hjcj_2] at hS_194
  have hrow0 := hA0.r1 (by omega)
  have hS_197 := ((hS_194.picks [8, 8, 8, 4, 8, 8]).drops [7, 7])
  have hS_198 := (hS_197.merge7)
  have he : (microF F x).1 = (⟨F.cfg, (F.ws.set x.toNat (⟨2, v0.heldJob, v0.heldTask, v0.attempt, v0.row, (allocA (markA s_149) x_16.scratch 16).used, (allocA (markA s_149) x_16.scratch 16).high⟩ : Wkr)), ((F.ar.set x.toNat (markA s_149)).set x.toNat (allocA (markA s_149) x_16.scratch 16)), F.dq, F.q, F.jobs, F.st⟩ : FS) := by unfold microF jobAt; simp only [getD_some hv0, getD_some hj, getD_some htk, getD_some hs_151]; rw [if_pos (by omega)]; rw [if_pos (show x_16.v.scratch > 0 from show x_16.scratch > 0 by omega)]; simp only [List.set_set]; rfl
  exact ⟨_, by unfold microF; simp only [getD_some hv0]; rw [if_pos (by omega)]; rfl, by rw [he]; exact ⟨_, _, _, _, _, _, _, _, _, _, _, _, _, _, rfl, hO_190, (core_set hco (show (⟨2, x_9.heldJob, x_9.heldTask, x_9.attempt, 0⟩ : Core) = ⟨2, v0.heldJob, v0.heldTask, v0.attempt, v0.row⟩ by rw [hv_151, hv_152, hv_153, hrow0])), (by rw [map_setA (x' := (⟨2, x_9.heldJob, x_9.heldTask, x_9.attempt, 0, x_9.a, x_9.d⟩ : PW)) hx_12 rfl]; exact hL_180), (by rw [map_setD (x' := (⟨2, x_9.heldJob, x_9.heldTask, x_9.attempt, 0, x_9.a, x_9.d⟩ : PW)) hx_12 rfl]; exact hDs), hQ, hM, hJs⟩, hS_198⟩
theorem pf_take {p:Nat} {F:FS} {M:Chunk} {F0:List Chunk} (hR:FarmP p F M) {K:Int} (hF:FI F K) {v0:Wkr} {c:Int} (x:Int) (al:Option Addr) (nl kl:Nat) (l:List Int) (hl:RdT Go.E.encI 1 [H] al nl kl l) (hx:0<=x/\x<F.ws.length) (hv0:F.ws[x.toNat]?=some v0) (hh:¬Holds v0) (hseq:l=seqL F.ws.length c) (hS:Sat W w (M::H::F0)):
  Calls prog 79 #[Pt p 0,I x, .slice al nl kl] w fun e w'=>(acqF F x c=none/\e= .returned (.tuple #[.agg #[I 0,I 0,I 0,I 0,I 0,I 0,I 0], .bool false])/\Sat W w' (M::H::F0))\/(∃(F':FS) (ev:Evt) (M':Chunk),acqF F x c=some (F',ev)/\e= .returned (.tuple #[.agg (encEvt ev).toArray, .bool true])/\FarmP p F' M'/\Sat W w' (M'::H::F0)):=by
 have R0:=hl.ll
 obtain ⟨wb,wo,wn,wk,q,m,xs,jm,Wc,Qc,Jc,D0,E0,I0,rfl,A0,C0,G0,B0,hQ,hM,H0⟩:=hR
 have t1:Sat W _ ((Tri p 83 (preP F.cfg wb wo wn wk q m) (([]:List Ref).flatMap encRef) (encStt F.st))::Wc::D0.flatten::E0.flatten::Qc::Jc::I0.flatten::H::F0):=Sat.perm hS (by simp)
 have F1:=A0.ll;have U0:=core_len C0;have J0:=G0.1;have L0:=B0.1;rw [List.length_map] at J0 L0;have Q0:=H0.l
 have V0:=hF.idle hv0 hh;have X0:=hF.st.a;have Y0:=hF.st.b;have Z0:=hF.st.c;have A1:=hF.st.d;have B1:=hF.st.e;have C1:=hF.st.f;have D1:=hF.st.g;have S0:=hF.fw.k;have W0:=hF.fw.n;have O0:=hF.fw.al;have P0:=hF.fw.dl;have N0:l.length=F.ws.length:=by rw [hseq,seq_len]
 refine callsK 90 func79 rfl<|jCO 2 rfl<|sAlloc t1 zeroValue63 fun _ _ k0=>jOO 9 rfl<|sMp k0 (ptr_up 1 rfl tri_pre) 8 (.slice (some ⟨wb,wo,none⟩) wn wk)<|pu1<|sIO A0 x (x).toNat fun u1 _ _ l0 v1 w1=>?_
 obtain ⟨rfl,rfl⟩:=some_addr w1
 obtain ⟨x4,y4,z4,a5,b5,c5,d5⟩:=core_at C0 l0
 refine pu1<|sMp k0 (v1.up 2 rfl) 6 (.pointer (some ⟨u1.d,0,none⟩)) ?_
 obtain ⟨g0,x1,e0,h0,y1⟩:=Obs.get B0 (map_at' l0)
 have z1:=(k0.pick 4 rfl)
 refine cZ (pd_pop y1 (Sat.flat1 (Sat.openN (A:=[]) x.toNat h0 z1))) ?_
 rintro _ _ (⟨m0,rfl,n0⟩|⟨b0,w0,x0,rfl,b2,n0⟩)
 rotate_left
 · exact (by have c2:=n0.unflat1;have d2:=(c2.picks [1,1]);have e2:=Sat.shutN (d:=w0) (A:=[]) x.toNat h0 d2;have f2:=Obs.set B0 (map_at' l0) b2;refine pu3<|sAlloc e2 zeroValue61 fun _ _ g2=>sTk g2 0 rfl [I b0.job,I b0.task] fun _ y0=>gOO y0 14 [200] rfl ?_;have h2:=(y0.picks [8,8,8,4,8,8,8]);have i2:=(h2.merge7);have j2:FarmP p (⟨F.cfg,F.ws,F.ar,(F.dq.set x.toNat ({g0 with l:=g0.l.dropLast}:DS)),F.q,F.jobs,F.st⟩:FS) ((Tri p 83 (preP F.cfg wb wo wn wk q m) (([]:List Ref).flatMap encRef) (encStt F.st))++(Wc++(D0.flatten++((E0.set x.toNat w0).flatten++(Qc++(Jc++I0.flatten)))))):=⟨_,_,_,_,_,_,_,_,_,_,_,_,_,_,rfl,A0,C0,G0,f2,hQ,hM,H0⟩;have o0:RefOk (shapeF F.jobs) b0:=(hF.fw.d _ (List.mem_of_getElem? e0) _ (List.mem_of_getLast? x0));obtain ⟨i5,k2,l2,m2,_⟩:=hF.fw.job o0;refine cZ (pf_start j2 x b0 (by first|omega|(dsimp only;omega)|(simp only [List.length_set];omega)) ⟨o0.1,o0.2.1⟩ k2 l2 m2 (by first|omega|(dsimp only;omega)|(simp only [List.length_set];omega)) i2.flat1) ?_;rintro _ _ ⟨_,rfl,n2,o2⟩;have z0:=o2.unflat1;exact gOO z0 7 [201] rfl<|sTk z0 2 rfl [I 3,I x,I 0,I 0,I b0.job,I b0.task,I 0] fun _ a1=>jOR 5 rfl<|retD a1 2 [I 3,I x,I 0,I 0,I b0.job,I b0.task,I 0] (.bool true)<|(by have q2:=(a1.drops [1,1]);have he:acqF F x c=some (takeF (⟨F.cfg,F.ws,F.ar,(F.dq.set x.toNat ({g0 with l:=g0.l.dropLast}:DS)),F.q,F.jobs,F.st⟩:FS) x b0,(⟨3,x,0,0,b0.job,b0.task,0⟩:Evt)):=acq_own e0 x0;exact .inr ⟨_,_,_,he,rfl,n2,q2⟩))
 have r2:=n0.unflat1
 have s2:=(r2.picks [1,1])
 have b1:=Sat.shutN (d:=x1) (A:=[]) x.toNat h0 s2
 rw [set_same h0] at b1
 refine pu3<|sAlloc b1 zeroValue61 fun _ _ t2=>sTk t2 0 rfl [I 0,I 0] fun _ c1=>jOO 17 rfl<|sMp c1 (ptr_up 3 rfl tri_pre) 9 (Pt q 0) ?_
 have u2:=(c1.pick 6 rfl)
 refine cZ (pq_pop hQ u2.flat1) ?_
 rintro _ _ (⟨d1,rfl,p0⟩|⟨c0,e1,v2,f1,rfl,w2,p0⟩)
 rotate_left
 · exact pu3<|sAlloc p0.unflat1 zeroValue61 fun _ _ y2=>sTk y2 0 rfl [I c0.job,I c0.task] fun _ g1=>gOO g1 14 [200] rfl<|(by have z2:=(g1.picks [9,9,3,5,9,9,9]);have a3:=(z2.merge7);have b3:FarmP p (⟨F.cfg,F.ws,F.ar,F.dq,({F.q with bs:=e1}:QS),F.jobs,F.st⟩:FS) ((Tri p 83 (preP F.cfg wb wo wn wk q m) (([]:List Ref).flatMap encRef) (encStt F.st))++(Wc++(D0.flatten++(E0.flatten++(v2++(Jc++I0.flatten)))))):=⟨_,_,_,_,_,_,_,_,_,_,_,_,_,_,rfl,A0,C0,G0,B0,w2,hM,H0⟩;have q0:RefOk (shapeF F.jobs) c0:=(let h:=popB_mem f1;h.1.elim fun l hl=>hF.fw.q l hl.1 _ hl.2);obtain ⟨t5,c3,d3,e3,_⟩:=hF.fw.job q0;refine cZ (pf_start b3 x c0 (by first|omega|(dsimp only;omega)|(simp only [List.length_set];omega)) ⟨q0.1,q0.2.1⟩ c3 d3 e3 (by first|omega|(dsimp only;omega)|(simp only [List.length_set];omega)) a3.flat1) ?_;rintro _ _ ⟨_,rfl,f3,g3⟩;have h1:=g3.unflat1;exact gOO h1 7 [201] rfl<|sTk h1 3 rfl [I 4,I x,I 0,I 0,I c0.job,I c0.task,I 0] fun _ i1=>jOR 5 rfl<|retD i1 3 [I 4,I x,I 0,I 0,I c0.job,I c0.task,I 0] (.bool true)<|(by have h3:=(i1.drops [1,1,1]);have he:acqF F x c=some (takeF (⟨F.cfg,F.ws,F.ar,F.dq,({F.q with bs:=e1}:QS),F.jobs,F.st⟩:FS) x c0,(⟨4,x,0,0,c0.job,c0.task,0⟩:Evt)):=acq_inj e0 m0 f1;exact .inr ⟨_,_,_,he,rfl,f3,h3⟩))
 refine pu3<|sAlloc p0.unflat1 zeroValue61 fun _ _ j3=>sTk j3 0 rfl [I 0,I 0] fun _ k3=>jOC 20 rfl<|loopF [0,1,6,52,53] (γ:=Nat) (fun i R=>⟨[(54,I (i:Int))],R,nl-i,i<=nl/\(firstI (canSteal F c) F.ws.length 0=firstI (canSteal F c) (F.ws.length-i) i)⟩) 0 ⟨k3,om,rfl⟩ ?_
 rintro i ρ _ ⟨f0,hi,M0⟩
 refine jCC 6 rfl<|CD ((i:Int)<(nl:Int)) (fun l3=>jCO 8 rfl<|sTk f0 4 rfl [I 0,I 0,I 0,I 0,I 0,I 0,I 0] fun _ j1=>jOR 4 rfl<|retD j1 4 [I 0,I 0,I 0,I 0,I 0,I 0,I 0] (.bool false)<|(by have m3:=((j1.picks [3,7,7,7]).drops [4,5,5]);exact .inl ⟨(acq_rest e0 m0 d1).trans (steal_end om M0),rfl,(m3.merge7)⟩)) fun l3=>jCO 6 rfl<|sIN hl i fun a0 _ _ k1 o3=>?_
 have K0:a0=chF F c i:=seq_at (n:=F.ws.length) (by rw [<-hseq];exact k1);have T0:=chF_bd (F:=F) (c:=c) (i:=i) hF.fw.n.1
 refine sMp f0 (o3.up 10 rfl) 0 (I a0)<|jOO 8 rfl<|sMp f0 (ptr_up 5 rfl tri_pre) 8 (.slice (some ⟨wb,wo,none⟩) wn wk)<|pu1<|sIO A0 a0 (a0).toNat fun q3 _ _ r0 r3 s3=>?_
 obtain ⟨rfl,rfl⟩:=some_addr s3
 obtain ⟨g6,h6,i6,j6,k6,l6,m6⟩:=core_at C0 r0
 refine pu1<|sMp f0 (r3.up 6 rfl) 6 (.pointer (some ⟨q3.d,0,none⟩)) ?_
 obtain ⟨i0,t3,s0,j0,u3⟩:=Obs.get B0 (map_at' r0)
 have v3:=(f0.pick 3 rfl)
 refine cZ (pd_steal u3 (Sat.flat1 (Sat.openN (A:=[]) a0.toNat j0 v3))) ?_
 rintro _ _ (⟨x3,rfl,t0⟩|⟨d0,l1,m1,rfl,y3,t0⟩)
 · exact (by have z3:=t0.unflat1;have a4:=(z3.picks [1,1]);have n1:=Sat.shutN (d:=t3) (A:=[]) a0.toNat j0 a4;rw [set_same j0] at n1;exact pu3<|sAlloc n1 zeroValue61 fun _ _ b4=>sTk b4 0 rfl [I 0,I 0] fun _ c4=>jOO 13 rfl<|sAdd (i:Int) 1<|jOI 2 rfl<|⟨i+1,od,alB,((c4.picks [4,4,4]).dropAt 3 rfl),om,(steal_skip om M0 (by rw [<-K0];exact s0) x3)⟩)
 have e4:=t0.unflat1
 have f4:=(e4.picks [1,1])
 have g4:=Sat.shutN (d:=l1) (A:=[]) a0.toNat j0 f4
 have h4:=Obs.set B0 (map_at' r0) y3
 refine pu3<|sAlloc g4 zeroValue61 fun _ _ i4=>sTk i4 0 rfl [I d0.job,I d0.task] fun _ o1=>jOO 15 rfl<|sMp o1 (ptr_up 6 rfl (tri_post (k:=11) (tri_len (sz:=2) (m:=11) fR (rfl:([]:List Ref).length=0)))) 4 (I F.st.steals)<|sAdd F.st.steals 1<|pu3<|sTpost o1 6 11 4 rfl (I (F.st.steals+1)) [I (F.st.steals+1)] [I F.st.starts,I F.st.commits,I F.st.drops,I F.st.crashes,I (F.st.steals+1),I F.st.helps,I F.st.spills,I F.st.queued,I F.st.held,I F.st.cells] (tri_len (sz:=2) (m:=11) fR (rfl:([]:List Ref).length=0)) sizeOf3 fun _ q1=>gOO q1 7 [200] rfl ?_
 have j4:=(q1.picks [10,10,5,4,10,10,10])
 have k4:=(j4.merge7)
 have l4:FarmP p (⟨F.cfg,F.ws,F.ar,(F.dq.set a0.toNat ({i0 with l:=i0.l.tail}:DS)),F.q,F.jobs,(⟨F.st.starts,F.st.commits,F.st.drops,F.st.crashes,(F.st.steals+1),F.st.helps,F.st.spills,F.st.queued,F.st.held,F.st.cells⟩:Stt)⟩:FS) ((Tri p 83 (preP F.cfg wb wo wn wk q m) (([]:List Ref).flatMap encRef) [I F.st.starts,I F.st.commits,I F.st.drops,I F.st.crashes,I (F.st.steals+1),I F.st.helps,I F.st.spills,I F.st.queued,I F.st.held,I F.st.cells])++(Wc++(D0.flatten++((E0.set a0.toNat l1).flatten++(Qc++(Jc++I0.flatten)))))):=⟨_,_,_,_,_,_,_,_,_,_,_,_,_,_,rfl,A0,C0,G0,h4,hQ,hM,H0⟩
 have u0:RefOk (shapeF F.jobs) d0:=(hF.fw.d _ (List.mem_of_getElem? s0) _ (List.mem_of_head? m1))
 obtain ⟨v6,m4,n4,o4,_⟩:=hF.fw.job u0
 refine cZ (pf_start l4 x d0 (by first|omega|(dsimp only;omega)|(simp only [List.length_set];omega)) ⟨u0.1,u0.2.1⟩ m4 n4 o4 (by first|omega|(dsimp only;omega)|(simp only [List.length_set];omega)) k4.flat1) ?_
 rintro _ _ ⟨_,rfl,q4,r4⟩
 have r1:=r4.unflat1
 exact gOO r1 8 [201] rfl<|sTk r1 4 rfl [I 5,I x,I a0,I 0,I d0.job,I d0.task,I 0] fun _ s1=>jOR 9 rfl<|retD s1 4 [I 5,I x,I a0,I 0,I d0.job,I d0.task,I 0] (.bool true)<|(by have s4:=(s1.drops [1,1,1,1]);have he:acqF F x c=some (takeF (⟨F.cfg,F.ws,F.ar,(F.dq.set a0.toNat ({i0 with l:=i0.l.tail}:DS)),F.q,F.jobs,(⟨F.st.starts,F.st.commits,F.st.drops,F.st.crashes,(F.st.steals+1),F.st.helps,F.st.spills,F.st.queued,F.st.held,F.st.cells⟩:Stt)⟩:FS) x d0,(⟨5,x,a0,0,d0.job,d0.task,0⟩:Evt)):=(acq_rest e0 m0 d1).trans ((steal_at om M0 (by rw [<-K0];exact s0) m1).trans (by rw [<-K0];rfl));exact .inr ⟨_,_,_,he,rfl,q4,s4⟩)
end Go.Proofs.YtkadmghedmodbaaGreat

namespace Go.Proofs.YtkadmghedmodbaaGreat
open Go Go.E Go.Proofs.Tryz
set_option linter.all false
set_option maxRecDepth 100000
set_option maxHeartbeats 2000000
variable {W w:World} {H:Chunk} {F:List Chunk}
theorem set_reset {l:List AS} {k:Nat} {a:AS} (h:l[k]?=some a) (hz:a.used=0/\a.marks=[]):l.set k (resetA a)=l:=by
  have e:resetA a=a:=by
    cases a with
    |mk c u h m=>obtain ⟨h1,h2⟩:=hz;dsimp only at h1 h2;subst h1;subst h2;rfl
  rw [e];exact set_same h
theorem pf_step_h {p:Nat} {F:FS} {M:Chunk} {F0:List Chunk} (hR:FarmP p F M) {K:Int} (hF:FI F K) {v0:Wkr} (x:Int) (c:Int) (hx:0<=x/\x<F.ws.length) (hv0:F.ws[x.toNat]?=some v0) (hh:Holds v0) (h12:F12 F) (hK:K+1<=4096) (hS:Sat W w (M::H::F0)):
  Calls prog 27 #[Pt p 0,I x,I c] w fun e w'=>∃(az:Option Addr) (nz kz:Nat) (G M':Chunk),e= .returned (.tuple #[.slice az nz kz,I (stepF F x c).2.2])/\OwnT encEvt 63 7 az nz kz (stepF F x c).2.1 G/\FarmP p (stepF F x c).1 M'/\Sat W w' (G::M'::H::F0):=by
 obtain ⟨wb,wo,wn,wk,q,m,xs,jm,Wc,Qc,Jc,K0,L0,O0,rfl,C0,H0,M0,N0,hQ,hM,G0⟩:=hR
 have y0:Sat W _ ((Tri p 83 (preP F.cfg wb wo wn wk q m) (([]:List Ref).flatMap encRef) (encStt F.st))::Wc::K0.flatten::L0.flatten::Qc::Jc::O0.flatten::H::F0):=Sat.perm hS (by simp)
 have R1:=C0.ll;have B1:=core_len H0;have P0:=M0.1;have Q0:=N0.1;rw [List.length_map] at P0 Q0;have W0:=G0.l
 have J1:=hF.st.a;have K1:=hF.st.b;have L1:=hF.st.c;have M1:=hF.st.d;have N1:=hF.st.e;have O1:=hF.st.f;have P1:=hF.st.g;have Y0:=hF.fw.k;have G1:=hF.fw.n;have U0:=hF.fw.al;have V0:=hF.fw.dl
 have X0:v0.phase=1\/v0.phase=2\/v0.phase=3:=hh
 refine callsK 101 func27 rfl<|jCO 11 rfl ?_
 have z0:=(y0.merge7)
 have a1:FarmP p F ((Tri p 83 (preP F.cfg wb wo wn wk q m) (([]:List Ref).flatMap encRef) (encStt F.st))++(Wc++(K0.flatten++(L0.flatten++(Qc++(Jc++O0.flatten)))))):=⟨_,_,_,_,_,_,_,_,_,_,_,_,_,_,rfl,C0,H0,M0,N0,hQ,hM,G0⟩
 refine cZ (pf_worker a1 x z0.flat1) ?_
 rintro _ _ ⟨rfl,b1⟩
 have c1:=b1.unflat1
 have g0:=c1.split7
 refine jOC 3 rfl ?_
 have d1:0<=x/\x<(F.ws.length:Int):=⟨om,om⟩
 refine cF _ (congrArg Bool.not (decide_eq_true d1))<|jCO 7 rfl<|sMp g0 (ptr_up 0 rfl tri_pre) 8 (.slice (some ⟨wb,wo,none⟩) wn wk)<|pu1<|sIO C0 x (x).toNat fun b0 _ _ e1 h0 f1=>?_
 obtain ⟨rfl,rfl⟩:=some_addr f1
 obtain ⟨g1,h1,i1,k0,j1,k1,l1⟩:=core_at H0 e1
 have B0:g1=v0:=Option.some.inj (h1.symm.trans hv0);rw [B0] at i1 k0 j1 k1 l1
 refine jOO 9 rfl<|sMp g0 (h0.up 1 rfl) 0 (I b0.phase)<|jOC 3 rfl<|cE b0.phase 4 (fun m1=>jCR 8 rfl<|retT [nS,I 20]<|(by omega)) fun m1=>jCO 6 rfl ?_
 have n1:=(g0.pick 1 rfl)
 refine cZ (p_holds (x:=b0) h0 n1) ?_
 rintro _ _ ⟨rfl,o1⟩
 refine jOC 2 rfl ?_
 have q1:b0.phase≠0/\b0.phase≠4:=om
 refine cT _ (decide_eq_true q1)<|jCC 2 rfl ?_
 obtain ⟨j,hj,ha,hz⟩:=hF.h.h _ _ hv0 hh;have R0:=hF.fw.j j (List.mem_of_getElem? hj);obtain ⟨T0,C1,Z0,A1⟩:=R0.b ha;have D1:=R0.n;have S0:=hF.fw.w v0 (List.mem_of_getElem? hv0);have E1:=S0.h;have I1:=S0.r;have F1:=held_lt T0 hz;have H1:v0.phase=1\/v0.phase=2\/v0.phase=3:=hh
 obtain ⟨i0,d0,v2,w2,c0,r1,s1⟩:=JobsP.get G0 (k:=v0.heldJob) ⟨om,om⟩ hj ha
 obtain ⟨l0,m0,n0,x2,o0,p0,q0,rfl,r0,y2,t1,z2,_,a3⟩:=r1.open
 have u1:=(o1.pick 6 rfl)
 have v1:=Sat.openN (A:=[]) i0 c0 u1
 have e0:=v1.split3
 have E0:=r0.ll;have A0:=congrArg List.length t1;rw [List.length_map] at A0
 refine drawE [9] [(3,⟨p,10,none⟩, .map (some m)),(8,⟨wb,wo+(x).toNat*7+1+0,none⟩,I b0.heldJob),(12,⟨d0,3,none⟩, .bool (canc j))] [(true,[0,1,2,4,5,6,7]),(true,[3]),(true,[8]),(false,[9]),(true,[10,11]),(true,[12])] rfl kr ⟨.inr (cell_up e0 5 rfl (k:=10) tri_pre rfl), .inr ((h0.up 4 rfl).cell e0 (k:=1) rfl),cI e0 0,trivial⟩ ?_
 have f0:=e0.drew
 refine wU [0,1,2,4,5,6,7]<|wLd (.map (some m)) 0 isAgg80<|wLd (I b0.heldJob) 1 isAgg3<|wO rfl<|stepY (Pt d0 0) rfl rfl (Y_iget (k:=b0.heldJob) f0 9 hM (by rw [k0,s1];rfl) runUnderlying80 runUnderlying3 zeroValue110)<|nilO ⟨⟨dI,dI,cI f0 0,trivial⟩,?_⟩
 refine wU [10,11]<|wLd (.bool (canc j)) 2 isAgg4<|wN<|jXC 1 rfl<|cB (canc j) (fun j0=>jCO 4 rfl<|(by have w1:=(f0.picks [3,3,3,3]);have x1:=w1.merge3;have s0:=Sat.shutN (d:=([(d0, .cells #[.slice l0 m0 n0,I j.band,Pt o0 0, .bool (canc j)] 117 (0,0))]++(p0++q0))) (A:=[]) i0 c0 x1;rw [set_same c0] at s0;have y1:=(s0.picks [6,6,6,6,5,6]);have z1:=(y1.merge7);have a2:FarmP p F ((Tri p 83 (preP F.cfg wb wo wn wk q m) (([]:List Ref).flatMap encRef) (encStt F.st))++(Wc++(K0.flatten++(L0.flatten++(Qc++(Jc++O0.flatten)))))):=⟨_,_,_,_,_,_,_,_,_,_,_,_,_,_,rfl,C0,H0,M0,N0,hQ,hM,G0⟩;refine cZ (pf_drop a2 x hx hv0 om z1.flat1) ?_;rintro _ _ ⟨_,rfl,b2,c2⟩;exact sBK (Sat.unflat1 c2) #[I 9,I x,I 0,I 0,I v0.heldJob,I v0.heldTask,I 0] 63 fun t0 _ e2=>jOR 7 rfl<|retT [.slice (At t0 0) 1 1,I 0]<|(by have f2:=OwnT.blk (enc:=encEvt) (sz:=7) (b:=t0) (c:=#[I 9,I x,I 0,I 0,I v0.heldJob,I v0.heldTask,I 0]) (E:=63) (xs:=[(⟨9,x,0,0,v0.heldJob,v0.heldTask,0⟩:Evt)]) fR 1 rfl rfl rfl om;have he:stepF F x c=((dropF F x),[(⟨9,x,0,0,v0.heldJob,v0.heldTask,0⟩:Evt)],0):=step_drop ⟨om,om⟩ hv0 hh hj (by rw [canc_t j0];decide);rw [he];exact ⟨_,_,_,_,_,rfl,f2,b2,e2⟩))) fun j0=>?_
 refine jCO 6 rfl ?_
 have g2:=(f0.picks [3,3,3,3])
 have h2:=g2.merge3
 have u0:=Sat.shutN (d:=([(d0, .cells #[.slice l0 m0 n0,I j.band,Pt o0 0, .bool (canc j)] 117 (0,0))]++(p0++q0))) (A:=[]) i0 c0 h2
 rw [set_same c0] at u0
 have i2:=(u0.picks [6,6,6,6,5,6])
 have j2:=(i2.merge7)
 have k2:FarmP p F ((Tri p 83 (preP F.cfg wb wo wn wk q m) (([]:List Ref).flatMap encRef) (encStt F.st))++(Wc++(K0.flatten++(L0.flatten++(Qc++(Jc++O0.flatten)))))):=⟨_,_,_,_,_,_,_,_,_,_,_,_,_,_,rfl,C0,H0,M0,N0,hQ,hM,G0⟩
 have I0:j.running=true:=canc_f j0 om;have J0:(jobAt F v0.heldJob).running=true:=by unfold jobAt;rw [getD_some hj];exact I0
 refine cZ (pf_micro k2 hF x hx hv0 hh J0 h12 j2.flat1) ?_
 rintro _ _ ⟨_,rfl,l2,m2⟩
 have n2:=m2.unflat1
 obtain ⟨a0,w0⟩:∃z,z=(microF F x).2:=⟨_,rfl⟩;rw [<-w0]
 refine sBK n2 (encEvt a0).toArray 63 fun x0 _ o2=>jOR 6 rfl<|retT [.slice (At x0 0) 1 1,I 0] ?_
 have q2:=OwnT.blk (enc:=encEvt) (sz:=7) (b:=x0) (c:=#[I a0.kind,I a0.worker,I a0.from_,I a0.job,I a0.refJob,I a0.refTask,I a0.err]) (E:=63) (xs:=[a0]) fR 1 rfl rfl rfl om
 have he:stepF F x c=((microF F x).1,[a0],0):=by rw [w0];exact step_micro ⟨om,om⟩ hv0 hh hj I0
 rw [he];exact ⟨_,_,_,_,_,rfl,q2,l2,o2⟩
theorem pf_step_n {p:Nat} {F:FS} {M:Chunk} {F0:List Chunk} (hR:FarmP p F M) {K:Int} (hF:FI F K) {v0:Wkr} (x:Int) (c:Int) (hx:0<=x/\x<F.ws.length) (hv0:F.ws[x.toNat]?=some v0) (hh:¬Holds v0) (h12:F12 F) (hK:K+1<=4096) (hS:Sat W w (M::H::F0)):
  Calls prog 27 #[Pt p 0,I x,I c] w fun e w'=>∃(az:Option Addr) (nz kz:Nat) (G M':Chunk),e= .returned (.tuple #[.slice az nz kz,I (stepF F x c).2.2])/\OwnT encEvt 63 7 az nz kz (stepF F x c).2.1 G/\FarmP p (stepF F x c).1 M'/\Sat W w' (G::M'::H::F0):=by
 obtain ⟨wb,wo,wn,wk,q,m,xs,jm,Wc,Qc,Jc,I0,J0,M0,rfl,C0,D0,E0,G0,hQ,hM,H0⟩:=hR
 have x0:Sat W _ ((Tri p 83 (preP F.cfg wb wo wn wk q m) (([]:List Ref).flatMap encRef) (encStt F.st))::Wc::I0.flatten::J0.flatten::Qc::Jc::M0.flatten::H::F0):=Sat.perm hS (by simp)
 have J1:=C0.ll;have Y0:=core_len D0;have P0:=E0.1;have Q0:=G0.1;rw [List.length_map] at P0 Q0;have V0:=H0.l
 have B1:=hF.st.a;have C1:=hF.st.b;have D1:=hF.st.c;have E1:=hF.st.d;have F1:=hF.st.e;have G1:=hF.st.f;have H1:=hF.st.g;have W0:=hF.fw.k;have A1:=hF.fw.n;have T0:=hF.fw.al;have U0:=hF.fw.dl
 have Z0:=hF.idle hv0 hh
 refine callsK 101 func27 rfl<|jCO 11 rfl ?_
 have y0:=(x0.merge7)
 have z0:FarmP p F ((Tri p 83 (preP F.cfg wb wo wn wk q m) (([]:List Ref).flatMap encRef) (encStt F.st))++(Wc++(I0.flatten++(J0.flatten++(Qc++(Jc++M0.flatten)))))):=⟨_,_,_,_,_,_,_,_,_,_,_,_,_,_,rfl,C0,D0,E0,G0,hQ,hM,H0⟩
 refine cZ (pf_worker z0 x y0.flat1) ?_
 rintro _ _ ⟨rfl,a1⟩
 have b1:=a1.unflat1
 have e0:=b1.split7
 refine jOC 3 rfl ?_
 have c1:0<=x/\x<(F.ws.length:Int):=⟨om,om⟩
 refine cF _ (congrArg Bool.not (decide_eq_true c1))<|jCO 7 rfl<|sMp e0 (ptr_up 0 rfl tri_pre) 8 (.slice (some ⟨wb,wo,none⟩) wn wk)<|pu1<|sIO C0 x (x).toNat fun d0 _ _ d1 n0 e1=>?_
 obtain ⟨rfl,rfl⟩:=some_addr e1
 obtain ⟨f1,g1,h1,i1,j1,k1,l1⟩:=core_at D0 d1
 have B0:f1=v0:=Option.some.inj (g1.symm.trans hv0);rw [B0] at h1 i1 j1 k1 l1
 refine jOO 9 rfl<|sMp e0 (n0.up 1 rfl) 0 (I d0.phase)<|jOC 3 rfl<|cE d0.phase 4 (fun m1=>jCR 8 rfl<|retT [nS,I 20]<|(by have n1:=Sat.nilc e0;have o1:=(n1.picks [7,7,7,7,7,7,7]);have q1:=((o1.merge7).pick 1 rfl);have he:stepF F x c=(F,[],20):=step_down ⟨om,om⟩ hv0 om;rw [he];exact ⟨_,_,_,_,_,rfl,(OwnT.nil (enc:=encEvt) (E:=63) (sz:=7) fR),⟨_,_,_,_,_,_,_,_,_,_,_,_,_,_,rfl,C0,D0,E0,G0,hQ,hM,H0⟩,q1⟩)) fun m1=>jCO 6 rfl ?_
 have r1:=(e0.pick 1 rfl)
 refine cZ (p_holds (x:=d0) n0 r1) ?_
 rintro _ _ ⟨rfl,s1⟩
 refine jOC 2 rfl ?_
 have t1:¬(d0.phase≠0/\d0.phase≠4):=om
 refine cF _ (decide_eq_false t1)<|jCO 9 rfl ?_
 have u1:=(s1.pick 1 rfl)
 have v1:=(u1.merge7)
 have w1:FarmP p F ((Tri p 83 (preP F.cfg wb wo wn wk q m) (([]:List Ref).flatMap encRef) (encStt F.st))++(Wc++(I0.flatten++(J0.flatten++(Qc++(Jc++M0.flatten)))))):=⟨_,_,_,_,_,_,_,_,_,_,_,_,_,_,rfl,C0,D0,E0,G0,hQ,hM,H0⟩
 refine cZ (pf_seq w1 c (by first|omega|(simp only [List.length_set];omega)) v1.flat1) ?_
 rintro _ _ ⟨x1,y1,z1,_,rfl,j0,a2⟩
 have b2:=a2.unflat2;have l0:=j0.len;have K0:=j0.le;rw [seq_len] at l0
 have c2:=(b2.pick 1 rfl)
 have d2:=c2.split7
 have e2:=(d2.merge7)
 have f0:FarmP p F ((Tri p 83 (preP F.cfg wb wo wn wk q m) (([]:List Ref).flatMap encRef) (encStt F.st))++(Wc++(I0.flatten++(J0.flatten++(Qc++(Jc++M0.flatten)))))):=⟨_,_,_,_,_,_,_,_,_,_,_,_,_,_,rfl,C0,D0,E0,G0,hQ,hM,H0⟩
 refine cZ (pf_take f0 hF x x1 y1 z1 (seqL F.ws.length c) (RdT.flat (j0.rdAt 0 (by rfl))) hx hv0 hh rfl e2.flat1) ?_
 rintro _ _ (⟨g0,rfl,k0⟩|⟨f2,c0,_,g0,rfl,g2,k0⟩)
 rotate_left
 ·exact pu3<|sAlloc k0.unflat1 zeroValue63 fun _ _ h2=>sTk h2 0 rfl (encEvt c0) fun _ o0=>gOO o0 12 [700] rfl<|sBK o0 (encEvt c0).toArray 63 fun p0 _ i2=>jOR 6 rfl<|retT [.slice (At p0 0) 1 1,I 0]<|(by have j2:=OwnT.blk (enc:=encEvt) (sz:=7) (b:=p0) (c:=#[I c0.kind,I c0.worker,I c0.from_,I c0.job,I c0.refJob,I c0.refTask,I c0.err]) (E:=63) (xs:=[c0]) fR 1 rfl rfl rfl om;have k2:=(i2.drops [1,2]);have he:stepF F x c=(f2,[c0],0):=(step_rest ⟨om,om⟩ hv0 om hh).trans (rest_acq g0);rw [he];exact ⟨_,_,_,_,_,rfl,j2,g2,k2⟩)
 refine pu3<|sAlloc k0.unflat1 zeroValue63 fun _ _ l2=>sTk l2 0 rfl [I 0,I 0,I 0,I 0,I 0,I 0,I 0] fun _ m2=>jOO 16 rfl ?_
 have n2:=(m2.pick 1 rfl)
 refine cZ (pf_seq f0 c (by first|omega|(simp only [List.length_set];omega)) n2.flat1) ?_
 rintro _ _ ⟨_,o2,_,_,rfl,m0,q2⟩
 have r2:=q2.unflat2;have A0:=m0.len;have L0:=m0.le;rw [seq_len] at A0
 refine jOC 5 rfl<|loopF [0,1,66,67] (γ:=Nat) (fun i R=>⟨[(68,I (i:Int))],R,F.ws.length-i,i<=F.ws.length/\(firstI (canHelp F x c) F.ws.length 0=firstI (canHelp F x c) (F.ws.length-i) i)⟩) 0 ⟨r2,om,rfl⟩ ?_
 rintro i ρ _ ⟨h0,hi,O0⟩
 refine jCC 6 rfl<|CD ((i:Int)<(o2:Int)) (fun s2=>jCO 9 rfl<|sBK h0 #[I 13,I x,I 0,I 0,I 0,I 0,I 0] 63 fun q0 _ t2=>jOR 5 rfl<|retT [.slice (At q0 0) 1 1,I 0]<|(by have u2:=OwnT.blk (enc:=encEvt) (sz:=7) (b:=q0) (c:=#[I 13,I x,I 0,I 0,I 0,I 0,I 0]) (E:=63) (xs:=[(⟨13,x,0,0,0,0,0⟩:Evt)]) fR 1 rfl rfl rfl om;have v2:=(t2.drops [1,2,2]);have he:stepF F x c=(F,[(⟨13,x,0,0,0,0,0⟩:Evt)],0):=(step_rest ⟨om,om⟩ hv0 om hh).trans (help_end g0 om O0);rw [he];exact ⟨_,_,_,_,_,rfl,u2,f0,v2⟩)) fun s2=>jCO 6 rfl<|sIO m0 (i:Int) i fun b0 _ _ w2 x2 _=>?_
 have N0:b0=chF F c i:=seq_at (n:=F.ws.length) w2;have X0:=chF_bd (F:=F) (c:=c) (i:=i) hF.fw.n.1
 refine sMp h0 (x2.up 0 rfl) 0 (I b0)<|jOO 9 rfl<|sN 75 b0 x (fun y2=>jOO 11 rfl<|sAdd (i:Int) 1<|jOI 2 rfl<|⟨i+1,od,alB,h0,om,(help_skip om O0 (by unfold canHelp;rw [<-N0,decide_eq_false om];rfl))⟩) fun y2=>pu2<|gY ?_
 have z2:=(h0.pick 1 rfl)
 refine cZ (pf_busy f0 hF b0 om z2.flat1) ?_
 rintro _ _ ⟨rfl,a3⟩
 have r0:=a3.unflat1
 refine jOC 3 rfl<|CB (busyW F (wAt F b0)) (fun i0=>jCO 4 rfl<|sAdd (i:Int) 1<|jOI 2 rfl<|⟨i+1,od,alB,(r0.pick 1 rfl),om,(help_skip om O0 (by unfold canHelp;rw [<-N0,Bool.eq_false_iff.2 i0,Bool.and_false]))⟩) fun i0=>jCC 1 rfl ?_
 have s0:=r0.split7
 refine jCO 5 rfl<|sMp s0 (ptr_up 0 rfl (tri_post (k:=11) (tri_len (sz:=2) (m:=11) fR (rfl:([]:List Ref).length=0)))) 5 (I F.st.helps)<|sAdd F.st.helps 1<|pu3<|sTpost s0 0 11 5 rfl (I (F.st.helps+1)) [I (F.st.helps+1)] [I F.st.starts,I F.st.commits,I F.st.drops,I F.st.crashes,I F.st.steals,I (F.st.helps+1),I F.st.spills,I F.st.queued,I F.st.held,I F.st.cells] (tri_len (sz:=2) (m:=11) fR (rfl:([]:List Ref).length=0)) sizeOf3 fun _ c3=>jOO 7 rfl<|sAlloc c3 zeroValue63 fun _ _ d3=>sTk d3 0 rfl [I 12,I x,I b0,I 0,I 0,I 0,I 0] fun _ e3=>jOC 3 rfl<|drawF e3 [3,4] (fb 0 0 0 7<|fn) [1,2,0,3,4,5,6] fun _ f3=>wV 2<|wG 0 7<|wO rfl ?_
 have g3:=(f3.picks [7,7,7,7,7,7,7])
 have h3:=(g3.merge7)
 have i3:FarmP p (⟨F.cfg,F.ws,F.ar,F.dq,F.q,F.jobs,(⟨F.st.starts,F.st.commits,F.st.drops,F.st.crashes,F.st.steals,(F.st.helps+1),F.st.spills,F.st.queued,F.st.held,F.st.cells⟩:Stt)⟩:FS) ((Tri p 83 (preP F.cfg wb wo wn wk q m) (([]:List Ref).flatMap encRef) [I F.st.starts,I F.st.commits,I F.st.drops,I F.st.crashes,I F.st.steals,I (F.st.helps+1),I F.st.spills,I F.st.queued,I F.st.held,I F.st.cells])++(Wc++(I0.flatten++(J0.flatten++(Qc++(Jc++M0.flatten)))))):=⟨_,_,_,_,_,_,_,_,_,_,_,_,_,_,rfl,C0,D0,E0,G0,hQ,hM,H0⟩
 have R0:=busy_holds i0;have S0:=hF.helpK om
 refine cZ (pf_micro i3 (F:=helpF F) S0 b0 ⟨om,by show _<(F.ws.length:Int);omega⟩ (hF.fw.wmem ⟨om,om⟩) R0.1 R0.2 (h12.of rfl) h3.flat1) ?_
 rintro _ _ ⟨_,rfl,j3,k3⟩
 have t0:=k3.unflat1
 obtain ⟨a0,u0⟩:∃z,z=(microF (helpF F) b0).2:=⟨_,rfl⟩;rw [<-u0]
 exact nZ t0 [1]<|wO rfl<|sBK t0 #[I 12,I x,I b0,I 0,I 0,I 0,I 0,I a0.kind,I a0.worker,I a0.from_,I a0.job,I a0.refJob,I a0.refTask,I a0.err] 63 fun w0 _ l3=>nA<|wV 2<|wN<|jXR 7 rfl<|retT [.slice (At w0 0) 2 2,I 0]<|(by have m3:=OwnT.blk (enc:=encEvt) (sz:=7) (b:=w0) (c:=#[I 12,I x,I b0,I 0,I 0,I 0,I 0,I a0.kind,I a0.worker,I a0.from_,I a0.job,I a0.refJob,I a0.refTask,I a0.err]) (E:=63) (xs:=[(⟨12,x,b0,0,0,0,0⟩:Evt),a0]) fR 2 rfl rfl rfl om;have n3:=(l3.drops [2,2,2,2]);have he:stepF F x c=((microF (helpF F) b0).1,[(⟨12,x,b0,0,0,0,0⟩:Evt),a0],0):=(step_rest ⟨om,om⟩ hv0 om hh).trans ((help_at g0 om O0 (by unfold canHelp;rw [<-N0,i0,decide_eq_true om];rfl)).trans (by rw [<-N0,u0]));rw [he];exact ⟨_,_,_,_,_,rfl,m3,j3,n3⟩)
theorem pf_step_b {p:Nat} {F:FS} {M:Chunk} {F0:List Chunk} (hR:FarmP p F M) {K:Int} (hF:FI F K) (x:Int) (c:Int) (hx:¬(0<=x/\x<(F.ws.length:Int))) (hS:Sat W w (M::H::F0)):
  Calls prog 27 #[Pt p 0,I x,I c] w fun e w'=>∃(az:Option Addr) (nz kz:Nat) (G M':Chunk),e= .returned (.tuple #[.slice az nz kz,I (stepF F x c).2.2])/\OwnT encEvt 63 7 az nz kz (stepF F x c).2.1 G/\FarmP p (stepF F x c).1 M'/\Sat W w' (G::M'::H::F0):=by
 refine callsK 101 func27 rfl<|jCO 11 rfl<|cZ (pf_worker hR x hS.flat1) ?_
 rintro _ _ ⟨rfl,a0⟩
 exact jOC 3 rfl<|(by have c0:¬(0<=x/\x<(F.ws.length:Int)):=hx;exact cT _ (congrArg Bool.not (decide_eq_false c0))<|jCR 8 rfl<|retT [nS,I 16]<|(by have d0:=Sat.nilc a0.unflat1;have he:stepF F x c=(F,[],16):=step_unk hx;rw [he];exact ⟨_,_,_,_,_,rfl,(OwnT.nil (enc:=encEvt) (E:=63) (sz:=7) fR),hR,d0⟩))
theorem pf_step {W w:World} {p:Nat} {F:FS} {M H:Chunk} {F0:List Chunk} (hR:FarmP p F M) {K:Int} (hF:FI F K) (x c:Int) (h12:F12 F) (hK:K+1<=4096) (hS:Sat W w (M::H::F0)):
  Calls prog 27 #[Pt p 0,I x,I c] w fun e w'=>∃(az:Option Addr) (nz kz:Nat) (G M':Chunk),e= .returned (.tuple #[.slice az nz kz,I (stepF F x c).2.2])/\OwnT encEvt 63 7 az nz kz (stepF F x c).2.1 G/\FarmP p (stepF F x c).1 M'/\Sat W w' (G::M'::H::F0):=by
 by_cases hx:0<=x/\x<(F.ws.length:Int)
 ·by_cases hh:Holds (wAt F x)
  ·exact pf_step_h hR hF x c hx (hF.fw.wmem hx) hh h12 hK hS
  ·exact pf_step_n hR hF x c hx (hF.fw.wmem hx) hh h12 hK hS
 ·exact pf_step_b hR hF x c hx hS
theorem pf_restart_g {p:Nat} {F:FS} {M:Chunk} {F0:List Chunk} (hR:FarmP p F M) {K:Int} (hF:FI F K) {v0:Wkr} (x:Int) (hx:0<=x/\x<F.ws.length) (hv0:F.ws[x.toNat]?=some v0) (hS:Sat W w (M::H::F0)):
  Calls prog 23 #[Pt p 0,I x] w fun e w'=>∃(az:Option Addr) (nz kz:Nat) (G M':Chunk),e= .returned (.tuple #[.slice az nz kz,I (restartF F x).2.2])/\OwnT encEvt 63 7 az nz kz (restartF F x).2.1 G/\FarmP p (restartF F x).1 M'/\Sat W w' (G::M'::H::F0):=by
 obtain ⟨wb,wo,wn,wk,q,m,xs,jm,Wc,Qc,Jc,K0,L0,N0,rfl,B0,C0,D0,E0,hQ,hM,G0⟩:=hR
 have e0:Sat W _ ((Tri p 83 (preP F.cfg wb wo wn wk q m) (([]:List Ref).flatMap encRef) (encStt F.st))::Wc::K0.flatten::L0.flatten::Qc::Jc::N0.flatten::H::F0):=Sat.perm hS (by simp)
 have i1:=B0.ll;have S0:=core_len C0;have I0:=D0.1;have J0:=E0.1;rw [List.length_map] at I0 J0;have Q0:=G0.l
 have U0:=hF.st.a;have V0:=hF.st.b;have W0:=hF.st.c;have X0:=hF.st.d;have Y0:=hF.st.e;have Z0:=hF.st.f;have g1:=hF.st.g;have R0:=hF.fw.k;have T0:=hF.fw.n;have O0:=hF.fw.al;have P0:=hF.fw.dl
 have M0:=ar_some hF.fw hx
 have H0:v0.phase=4->F.ar.set x.toNat (resetA (F.ar.getD x.toNat default))=F.ar:=fun h=>set_reset M0 ((hF.a.a _ _ _ hv0 M0).z (.inr (.inr h)))
 refine callsK 27 func23 rfl<|jCO 11 rfl ?_
 have f0:=(e0.merge7)
 have g0:FarmP p F ((Tri p 83 (preP F.cfg wb wo wn wk q m) (([]:List Ref).flatMap encRef) (encStt F.st))++(Wc++(K0.flatten++(L0.flatten++(Qc++(Jc++N0.flatten)))))):=⟨_,_,_,_,_,_,_,_,_,_,_,_,_,_,rfl,B0,C0,D0,E0,hQ,hM,G0⟩
 refine cZ (pf_worker g0 x f0.flat1) ?_
 rintro _ _ ⟨rfl,h0⟩
 have i0:=h0.unflat1
 have b0:=i0.split7
 refine jOC 3 rfl ?_
 have j0:0<=x/\x<(F.ws.length:Int):=⟨om,om⟩
 refine cF _ (congrArg Bool.not (decide_eq_true j0))<|jCO 7 rfl<|sMp b0 (ptr_up 0 rfl tri_pre) 8 (.slice (some ⟨wb,wo,none⟩) wn wk)<|pu1<|sIO B0 x (x).toNat fun a0 _ _ c0 k0 l0=>?_
 obtain ⟨rfl,rfl⟩:=some_addr l0
 obtain ⟨m0,n0,o0,p0,q0,r0,s0⟩:=core_at C0 c0
 have A0:m0=v0:=Option.some.inj (n0.symm.trans hv0);rw [A0] at o0 p0 q0 r0 s0
 refine jOO 9 rfl<|sMp b0 (k0.up 1 rfl) 0 (I a0.phase)<|jOC 3 rfl<|CN a0.phase 4 (fun t0=>jCR 8 rfl<|retT [nS,I 20]<|(by have u0:=Sat.nilc b0;have w0:=(u0.picks [7,7,7,7,7,7,7]);have x0:=((w0.merge7).pick 1 rfl);have he:restartF F x=(F,[],20):=(by unfold restartF wAt;rw [if_neg (fun k=>k ⟨om,om⟩),getD_some hv0,if_neg om]);rw [he];exact ⟨_,_,_,_,_,rfl,(OwnT.nil (enc:=encEvt) (E:=63) (sz:=7) fR),⟨_,_,_,_,_,_,_,_,_,_,_,_,_,_,rfl,B0,C0,D0,E0,hQ,hM,G0⟩,x0⟩)) fun t0=>jCO 5 rfl ?_
 have y0:=(b0.picks [2,2])
 refine cZ (p_rest B0 D0 c0 0 y0) ?_
 rintro _ _ ⟨_,_,rfl,z0,a1,b1⟩
 exact jOO 6 rfl<|sBK b1 #[I 11,I x,I 0,I 0,I 0,I 0,I 0] 63 fun d0 _ c1=>jOR 5 rfl<|retT [.slice (At d0 0) 1 1,I 0]<|(by have d1:=OwnT.blk (enc:=encEvt) (sz:=7) (b:=d0) (c:=#[I 11,I x,I 0,I 0,I 0,I 0,I 0]) (E:=63) (xs:=[(⟨11,x,0,0,0,0,0⟩:Evt)]) fR 1 rfl rfl rfl om;have e1:=(c1.picks [7,7,7,7,6,6,7]);have f1:=((e1.merge7).pick 1 rfl);have he:restartF F x=((⟨F.cfg,(F.ws.set x.toNat ⟨0,0,0,0,0,0,(F.ar.getD x.toNat default).high⟩),(F.ar.set (x).toNat (resetA (F.ar.getD (x).toNat default))),F.dq,F.q,F.jobs,F.st⟩:FS),[(⟨11,x,0,0,0,0,0⟩:Evt)],0):=(by unfold restartF wAt idleF;rw [if_neg (fun k=>k ⟨om,om⟩),getD_some hv0,if_pos om,H0 om];rfl);rw [he];exact ⟨_,_,_,_,_,rfl,d1,⟨_,_,_,_,_,_,_,_,_,_,_,_,_,_,rfl,z0,(core_set C0 rfl),(by rw [map_setA (x':=(⟨0,0,0,0,0,a0.a,a0.d⟩:PW)) c0 rfl];exact a1),(by rw [map_setD (x':=(⟨0,0,0,0,0,a0.a,a0.d⟩:PW)) c0 rfl];exact E0),hQ,hM,G0⟩,f1⟩)
end Go.Proofs.YtkadmghedmodbaaGreat
