import Derived.Test.YtkadmghedmodbaaGreatR4P3Fm2
set_option linter.all false
namespace Go.Proofs.YtkadmghedmodbaaGreat
open Go Go.E Go.Proofs.Tryz
set_option linter.all false
set_option maxRecDepth 100000
set_option maxHeartbeats 2000000
variable {W w:World} {H:Chunk} {F:List Chunk}
theorem f_holds (v:Wkr) (hS:Sat W w (H::F)):
  Ro prog 66 #[.agg (encWkr v).toArray] (.bool (decide ((v.phase=1\/v.phase=2\/v.phase=3)))) W w (H::F):=by
 exact callsK 16 func66 rfl<|jCO 2 rfl<|sBx hS (encWkr v) fun _ _ a0=>gOO a0 9 [0] rfl<|sE 6 v.phase 1 (fun b0=>jOR 13 rfl<|retT [.bool true]<|⟨rB ((decide_eq_true om).symm),(a0.dropAt 0 rfl)⟩) fun b0=>gOO a0 5 [0] rfl<|sE 11 v.phase 2 (fun d0=>jOR 8 rfl<|retT [.bool true]<|⟨rB ((decide_eq_true om).symm),(a0.dropAt 0 rfl)⟩) fun d0=>gOR a0 8 [0] rfl<|retT [.bool ((v.phase:Int)==3)]<|⟨rB (by rw [Bool.eq_iff_iff];simp only [decide_eq_true_eq,beq_iff_eq];omega),(a0.dropAt 0 rfl)⟩
theorem f_step {p:Nat} {F:FS} {M:Chunk} {F0:List Chunk} (hR:FarmR p F M) {K:Int} (hF:FW F K) (hst:StOk F.st K) (x:Int) (c:Int) (hS:Sat W w (M::H::F0)):
  Calls prog 28 #[Pt p 0,I x,I c] w fun e w'=>∃(az:Option Addr) (nz kz:Nat) (G M':Chunk),e= .returned (.tuple #[.slice az nz kz,I (stepF F x c).2.2])/\OwnT encEvt 63 7 az nz kz (stepF F x c).2.1 G/\FarmR p (stepF F x c).1 M'/\Sat W w' (G::M'::H::F0):=by
 obtain ⟨wa,aa,da,wn,wk,an,ak,dn,dk,q,xs,ap,dp,Wc,Ac,Dc,Qc,M4,P4,j5,rfl,A1,H1,V2,U2,F3,hQ,E2,V0⟩:=hR
 have hS:Sat W _ ((Tri p 101 (preF F.cfg wa wn wk aa an ak da dn dk q) (xs.flatMap encFJob) (encStt F.st))::Wc::Ac::Dc::M4.flatten::P4.flatten::Qc::j5.flatten::H::F0):=Sat.perm hS (by simp [Value.cells])
 have H5:=A1.len;have V5:=A1.le;have J5:=H1.ll;have L5:=V2.ll;have C5:=U2.1;have E5:=F3.1;have G5:=E2.1
 have B5:=hF.al;have D5:=hF.dl;have F5:=hF.jl;have N5:=hF.n;have M5:=hF.k;have O5:=hst.a;have P5:=hst.b;have Q5:=hst.c;have R5:=hst.d;have S5:=hst.e;have T5:=hst.f;have U5:=hst.g
 refine callsK 155 func28 rfl<|jCO 10 rfl<|cZ (f_zero om hS) ?_
 rintro _ _ ⟨rfl,o0⟩
 refine pu5<|sD 19 (x<0) (fun j2=>jOR 19 rfl<|retT [nS,I 16]<|(by have k2:=Sat.nilc o0;have l2:=(k2.picks [8,8,8,8,8,8,8,8]);have m2:=((l2.merge8).pick 1 rfl);have he:stepF F x c=(F,[],16):=step_unk om;rw [he];exact ⟨_,_,_,_,_,rfl,(OwnT.nil (enc:=encEvt) (E:=63) (sz:=7) fR),⟨_,_,_,_,_,_,_,_,_,_,_,_,_,_,_,_,_,_,_,_,rfl,A1,H1,V2,U2,F3,hQ,E2,V0⟩,m2⟩)) fun j2=>pu4<|gY<|sMp o0 (ptr_up 0 rfl tri_pre) 8 (.slice wa wn wk)<|jOC 5 rfl<|cD (x>=(wn:Int)) (fun n2=>jCR 8 rfl<|retT [nS,I 16]<|(by have o2:=Sat.nilc o0;have q2:=(o2.picks [8,8,8,8,8,8,8,8]);have r2:=((q2.merge8).pick 1 rfl);have he:stepF F x c=(F,[],16):=step_unk om;rw [he];exact ⟨_,_,_,_,_,rfl,(OwnT.nil (enc:=encEvt) (E:=63) (sz:=7) fR),⟨_,_,_,_,_,_,_,_,_,_,_,_,_,_,_,_,_,_,_,_,rfl,A1,H1,V2,U2,F3,hQ,E2,V0⟩,r2⟩)) fun n2=>jCO 7 rfl<|sMp o0 (ptr_up 0 rfl tri_pre) 8 (.slice wa wn wk)<|pu1<|sIO A1 x (x).toNat fun a0 _ _ i0 s2 _=>?_
 have L0:=hF.w a0 (List.mem_of_getElem? i0);have X4:=L0.h;have Y4:=L0.r
 refine sMA o0 (s2.up 1 rfl) 0 (encWkr a0)<|sAlloc o0 zeroValue129 fun r0 _ t2=>sTk t2 0 rfl (encWkr a0) fun _ v0=>gOC v0 10 [0] rfl<|cE a0.phase 4 (fun u2=>jCR 8 rfl<|retT [nS,I 20]<|(by have v2:=Sat.nilc v0;have w2:=((v2.picks [9,9,9,9,9,9,9,9]).dropAt 9 rfl);have x2:=((w2.merge8).pick 1 rfl);have he:stepF F x c=(F,[],20):=step_down om i0 om;rw [he];exact ⟨_,_,_,_,_,rfl,(OwnT.nil (enc:=encEvt) (E:=63) (sz:=7) fR),⟨_,_,_,_,_,_,_,_,_,_,_,_,_,_,_,_,_,_,_,_,rfl,A1,H1,V2,U2,F3,hQ,E2,V0⟩,x2⟩)) fun u2=>jCC 4 rfl<|drawF v0 [1,6,11] (fb 0 0 0 7<|fn) [0,1,2,3,4,5,7,8,6,9,10,11,12,13] fun _ y2=>wG 0 7<|wO rfl<|cS (f_holds a0 y2.flat) fun _ h0=>nA<|wV 1 ?_
 by_cases j0:(a0.phase=1\/a0.phase=2\/a0.phase=3)
 ·refine wFix 40 _ true (decide_eq_true j0)<|wV 1<|wV 1<|wV 1<|wV 1<|wV 1<|wO rfl<|gY<|sM h0 0 1 (I a0.heldJob)<|nA ?_
  obtain ⟨g1,h1⟩:=at_some V0 (k:=(a0.heldJob.toNat)) om
  obtain ⟨z2,n6,w0,o6,a3⟩:=Obs.get E2 h1;obtain ⟨p6,i1,q6,r6⟩:=a3.fields;have s6:=hF.j z2 (List.mem_of_getElem? w0)
  refine wY (.pointer (some ⟨p,12+(a0.heldJob.toNat)*5,none⟩)) rfl (fun w _=>Y_idxA (b:=p) (off:=12) a0.heldJob (a0.heldJob.toNat) runUnderlying99 sizeOf98)<|wV 1<|wO rfl<|gY<|sMp h0 (ptr_up 1 rfl (tri_el (sz:=5) (n0:=12) fR h1)) 1 (.bool g1.running)<|nA<|wV 1<|wV 1<|wN<|jXC 1 rfl<|CBn g1.running (fun x0=>jCO 5 rfl<|sMp h0 (ptr_up 1 rfl tri_pre) 9 (.slice aa an ak)<|pu1<|sIO H1 x (x).toNat fun b3 _ _ j1 c3 _=>sMp h0 (c3.up 3 rfl) 0 (Pt b3 0)<|(by obtain ⟨k1,w6,l1,m1,d3⟩:=Obs.get U2 j1;have e3:=(h0.pick 5 rfl);refine cZ (ar_reset d3 (Sat.flat1 (Sat.openN (A:=[]) x.toNat m1 e3))) ?_;rintro _ _ ⟨g3,rfl,h3,i3⟩;have j3:=i3.unflat1;have k3:=(j3.picks [1,1]);have l3:=Sat.shutN (d:=g3) (A:=[]) x.toNat m1 k3;have n1:=Obs.set U2 j1 h3;refine jOO 6 rfl ?_;have m3:=(l3.picks [0,4,4,4]);refine cZ (f_idle A1 H1 n1 x 0 (by first|omega|(dsimp only;omega)|(simp only [List.length_set];omega)) (by first|omega|(dsimp only;omega)|(simp only [List.length_set];omega)) m3) ?_;rintro _ _ ⟨_,rfl,n3,o1⟩;exact jOO 8 rfl<|sMp o1 (ptr_up 0 rfl (tri_post (k:=332) (tri_len (sz:=5) (m:=12) fR V0))) 2 (I F.st.drops)<|sAdd F.st.drops 1<|pu3<|sTpost o1 0 332 2 rfl (I (F.st.drops+1)) [I (F.st.drops+1)] [I F.st.starts,I F.st.commits,I (F.st.drops+1),I F.st.crashes,I F.st.steals,I F.st.helps,I F.st.spills,I F.st.queued,I F.st.held,I F.st.cells] (tri_len (sz:=5) (m:=12) fR V0) sizeOf3 fun _ q1=>gOO q1 8 [204] rfl<|sBK q1 #[I 9,I x,I 0,I 0,I a0.heldJob,I a0.heldTask,I 0] 63 fun r1 _ o3=>jOR 6 rfl<|retT [.slice (At r1 0) 1 1,I 0]<|(by have q3:=OwnT.blk (enc:=encEvt) (sz:=7) (b:=r1) (c:=#[I 9,I x,I 0,I 0,I a0.heldJob,I a0.heldTask,I 0]) (E:=63) (xs:=[(⟨9,x,0,0,a0.heldJob,a0.heldTask,0⟩:Evt)]) fR 1 rfl rfl rfl om;have r3:=((o3.picks [9,9,9,7,9,8,8,8]).dropAt 9 rfl);have s3:=((r3.merge8).pick 1 rfl);have he:stepF F x c=((⟨F.cfg,(F.ws.set x.toNat ⟨0,0,0,0,0,0,((F.ar.set x.toNat (resetA k1)).getD x.toNat default).high⟩),(F.ar.set x.toNat (resetA k1)),F.dq,F.q,F.jobs,(⟨F.st.starts,F.st.commits,(F.st.drops+1),F.st.crashes,F.st.steals,F.st.helps,F.st.spills,F.st.queued,F.st.held,F.st.cells⟩:Stt)⟩:FS),[(⟨9,x,0,0,a0.heldJob,a0.heldTask,0⟩:Evt)],0):=(step_drop om i0 j0 w0 (i1▸x0)).trans (by unfold dropF clearF arAt;rw [getD_some l1,getD_some (set_at l1)];rfl);rw [he];exact ⟨_,_,_,_,_,rfl,q3,⟨_,_,_,_,_,_,_,_,_,_,_,_,_,_,_,_,_,_,_,_,rfl,n3,H1,V2,n1,F3,hQ,E2,V0⟩,s3⟩))) fun x0=>?_
  refine gCO h0 6 [700] rfl<|cS (f_holds a0 h0.flat) fun _ t3=>jOC 2 rfl<|cT _ (decide_eq_true j0)<|jCO 4 rfl ?_
  have s0:=L0.t j0;obtain ⟨d7,u3,v3,w3,x3,H3,I3,y3,z3⟩:=hF.job s0
  have J3:=s0.2.2.1
  have a4:=(t3.picks [8,8,8,8,8,8,8,8])
  have b4:=(a4.merge8)
  have c4:FarmR p (⟨F.cfg,F.ws,F.ar,F.dq,F.q,F.jobs,F.st⟩:FS) ((Tri p 101 (preF F.cfg wa wn wk aa an ak da dn dk q) (xs.flatMap encFJob) (encStt F.st))++(Wc++(Ac++(Dc++(M4.flatten++(P4.flatten++(Qc++j5.flatten))))))):=⟨_,_,_,_,_,_,_,_,_,_,_,_,_,_,_,_,_,_,_,_,rfl,A1,H1,V2,U2,F3,hQ,E2,V0⟩
  refine cZ (f_micro c4 x (by first|omega|(dsimp only;omega)|(simp only [List.length_set];omega)) (by first|omega|(dsimp only;omega)|(simp only [List.length_set];omega)) (by first|omega|(dsimp only;omega)|(simp only [List.length_set];omega)) i0 ⟨s0.1,s0.2.1⟩ u3 v3 w3 ⟨J3,z3⟩ ⟨y3,x3⟩ ⟨H3,I3⟩ om (by first|omega|(dsimp only;omega)|(simp only [List.length_set];omega)) b4.flat1) ?_
  rintro _ _ ⟨_,rfl,s1,d4⟩
  have e4:=d4.unflat1
  obtain ⟨f0,t1⟩:∃z,z=(microF (⟨F.cfg,F.ws,F.ar,F.dq,F.q,F.jobs,F.st⟩:FS) x).2:=⟨_,rfl⟩;rw [<-t1]
  obtain ⟨y0,u1⟩:∃z,z=(microF (⟨F.cfg,F.ws,F.ar,F.dq,F.q,F.jobs,F.st⟩:FS) x).1:=⟨_,rfl⟩
  rw [<-u1] at s1
  obtain ⟨M3,f3,C3,O3,N3,B3,A3,E3,D3,W3,P3,o5,A5,Z2,W2,X2,Y2,S1,Z1,L2,rfl,K0,I0,J0,S0,T0,G3,U0,K2⟩:=s1
  have f4:Sat W _ ((Tri p 101 (preF y0.cfg M3 O3 N3 f3 B3 A3 C3 E3 D3 W3) (P3.flatMap encFJob) (encStt y0.st))::Z2::W2::X2::S1.flatten::Z1.flatten::Y2::L2.flatten::[(r0, .cells (encWkr a0).toArray 129 (0,0))]::H::F0):=Sat.perm e4 (by simp [Value.cells])
  have g5:=K0.ll;have T4:=I0.ll;have V4:=J0.ll;have B4:=S0.1;have G4:=T0.1;have H4:=U0.1
  refine sBK f4 (encEvt f0).toArray 63 fun v1 _ g4=>jOR 6 rfl<|retT [.slice (At v1 0) 1 1,I 0] ?_
  have h4:=OwnT.blk (enc:=encEvt) (sz:=7) (b:=v1) (c:=#[I f0.kind,I f0.worker,I f0.from_,I f0.job,I f0.refJob,I f0.refTask,I f0.err]) (E:=63) (xs:=[f0]) fR 1 rfl rfl rfl om
  have i4:=((g4.picks [8,8,8,8,8,8,8,8]).dropAt 9 rfl)
  have j4:=((i4.merge8).pick 1 rfl)
  have he:stepF F x c=(y0,[f0],0):=by subst u1;subst t1;exact step_micro om i0 j0 w0 (i1▸x0)
  rw [he];exact ⟨_,_,_,_,_,rfl,h4,⟨_,_,_,_,_,_,_,_,_,_,_,_,_,_,_,_,_,_,_,_,rfl,K0,I0,J0,S0,T0,G3,U0,K2⟩,j4⟩
 refine wFix 40 _ false (decide_eq_false j0)<|wV 1<|wV 1<|wV 1<|wV 1<|wV 1<|wO rfl<|pu1<|nA<|wV 1<|wV 1<|wO rfl<|pu1<|nA<|wV 1<|wV 1<|wN<|gXO h0 8 [700] rfl<|cS (f_holds a0 h0.flat) fun _ k4=>jOC 2 rfl<|cF _ (decide_eq_false j0)<|jCO 8 rfl ?_
 have l4:=(k4.picks [8,8,8,8,8,8,8,8])
 have m4:=(l4.merge8)
 have n4:FarmR p (⟨F.cfg,F.ws,F.ar,F.dq,F.q,F.jobs,F.st⟩:FS) ((Tri p 101 (preF F.cfg wa wn wk aa an ak da dn dk q) (xs.flatMap encFJob) (encStt F.st))++(Wc++(Ac++(Dc++(M4.flatten++(P4.flatten++(Qc++j5.flatten))))))):=⟨_,_,_,_,_,_,_,_,_,_,_,_,_,_,_,_,_,_,_,_,rfl,A1,H1,V2,U2,F3,hQ,E2,V0⟩
 refine cZ (f_acquire n4 hF hst x c (by first|omega|(dsimp only;omega)|(simp only [List.length_set];omega)) m4.flat1) ?_
 rintro _ _ (⟨t0,rfl,z0⟩|⟨a1,e0,_,t0,rfl,o4,z0⟩)
 rotate_left
 · exact (by have b1:=z0.unflat1;obtain ⟨M2,Q1,X1,Q2,O2,V1,T1,C2,A2,K3,S2,N4,Q4,O1,I1,K1,M1,W0,Y0,F1,rfl,G0,B0,D0,M0,O0,F2,Q0,D1⟩:=o4;have p4:Sat W _ ((Tri p 101 (preF a1.cfg M2 Q2 O2 Q1 V1 T1 X1 C2 A2 K3) (S2.flatMap encFJob) (encStt a1.st))::O1::I1::K1::W0.flatten::Y0.flatten::M1::F1.flatten::[(r0, .cells (encWkr a0).toArray 129 (0,0))]::H::F0):=Sat.perm b1 (by simp [Value.cells]);have K4:=G0.ll;have Z3:=B0.ll;have E4:=D0.ll;have Q3:=M0.1;have S3:=O0.1;have U3:=Q0.1;exact pu3<|sAlloc p4 zeroValue63 fun _ _ q4=>sTk q4 0 rfl (encEvt e0) fun _ w1=>gOO w1 12 [700] rfl<|sBK w1 (encEvt e0).toArray 63 fun x1 _ r4=>jOR 6 rfl<|retT [.slice (At x1 0) 1 1,I 0]<|(by have s4:=OwnT.blk (enc:=encEvt) (sz:=7) (b:=x1) (c:=#[I e0.kind,I e0.worker,I e0.from_,I e0.job,I e0.refJob,I e0.refTask,I e0.err]) (E:=63) (xs:=[e0]) fR 1 rfl rfl rfl om;have t4:=((r4.picks [9,9,9,9,9,9,9,9]).drops [9,9]);have u4:=((t4.merge8).pick 1 rfl);have he:stepF F x c=(a1,[e0],0):=(step_rest om i0 om j0).trans (rest_acq t0);rw [he];exact ⟨_,_,_,_,_,rfl,s4,⟨_,_,_,_,_,_,_,_,_,_,_,_,_,_,_,_,_,_,_,_,rfl,G0,B0,D0,M0,O0,F2,Q0,D1⟩,u4⟩))
 have b1:=z0.unflat1
 have v4:Sat W _ ((Tri p 101 (preF F.cfg wa wn wk aa an ak da dn dk q) (xs.flatMap encFJob) (encStt F.st))::Wc::Ac::Dc::M4.flatten::P4.flatten::Qc::j5.flatten::[(r0, .cells (encWkr a0).toArray 129 (0,0))]::H::F0):=Sat.perm b1 (by simp [Value.cells])
 refine pu3<|sAlloc v4 zeroValue63 fun w4 _ x4=>sTk x4 0 rfl [I 0,I 0,I 0,I 0,I 0,I 0,I 0] fun _ y4=>jOC 18 rfl<|loopF [0,1,2] (γ:=Nat) (fun i R=>⟨[(11,I (i:Int))],R,wn-i,i<=wn/\(firstI (canHelp F x c) F.ws.length 0=firstI (canHelp F x c) (F.ws.length-i) i)⟩) 0 ⟨y4,om,rfl⟩ ?_
 rintro i ρ _ ⟨c1,hi,W4⟩
 refine jCO 7 rfl<|sMp c1 (ptr_up 1 rfl tri_pre) 8 (.slice wa wn wk)<|jOC 4 rfl<|CD ((i:Int)<(wn:Int)) (fun z4=>jCO 9 rfl<|sBK c1 #[I 13,I x,I 0,I 0,I 0,I 0,I 0] 63 fun y1 _ a5=>jOR 5 rfl<|retT [.slice (At y1 0) 1 1,I 0]<|(by have b5:=OwnT.blk (enc:=encEvt) (sz:=7) (b:=y1) (c:=#[I 13,I x,I 0,I 0,I 0,I 0,I 0]) (E:=63) (xs:=[(⟨13,x,0,0,0,0,0⟩:Evt)]) fR 1 rfl rfl rfl om;have c5:=((a5.picks [9,9,9,9,9,9,9,9]).drops [9,9]);have d5:=((c5.merge8).pick 1 rfl);have he:stepF F x c=(F,[(⟨13,x,0,0,0,0,0⟩:Evt)],0):=(step_rest om i0 om om).trans (help_end t0 om W4);rw [he];exact ⟨_,_,_,_,_,rfl,b5,⟨_,_,_,_,_,_,_,_,_,_,_,_,_,_,_,_,_,_,_,_,rfl,A1,H1,V2,U2,F3,hQ,E2,V0⟩,d5⟩)) fun z4=>jCO 9 rfl ?_
 have e5:=(c1.pick 1 rfl)
 refine cZ (f_choice c (i:Int) F.ws.length H5 om om e5) ?_
 rintro _ _ ⟨rfl,g0⟩
 have t7:=choice_bd (n:=(F.ws.length:Int)) (c:=c) (i:=(i:Int)) om om
 refine jOC 4 rfl<|bD (((choiceI (F.ws.length:Int) c (i:Int)):Int)=x) (fun z1=>drawF g0 [11] (fn) [0,1,2,3,4,5,6,8,7,9,10,11,12,13,14,15,16,17,19,24,25,18,20,21,22,23,26,27,28,29] fun _ f5=>wV 4<|wFix 109 _ false (bne_eq_false_iff_eq.2 z1)<|wV 7<|wO rfl<|pu1<|nA<|wV 18<|wN<|jXO 7 rfl<|sAdd (i:Int) 1<|jOI 2 rfl<|⟨i+1,od,alB,(f5.pick 1 rfl),om,(help_skip om W4 (by unfold canHelp;rw [decide_eq_false (by intro hne;apply hne;unfold chF;omega)];rfl))⟩) fun z1=>?_
 obtain ⟨b0,k0,l0,p0,m0,h5,u7⟩:=OwnT.elem A1 (choiceI (F.ws.length:Int) c (i:Int))
 have A0:=hF.w b0 (List.mem_of_getElem? p0);have B1:=A0.h;have C1:=A0.r
 refine drawE [11,18,23,28] [(7,⟨p,8,none⟩, .slice wa wn wk),(10,⟨k0,l0+((choiceI (F.ws.length:Int) c (i:Int))).toNat*7+0,none⟩,I b0.phase),(10,⟨k0,l0+((choiceI (F.ws.length:Int) c (i:Int))).toNat*7+1,none⟩,I b0.heldJob),(10,⟨k0,l0+((choiceI (F.ws.length:Int) c (i:Int))).toNat*7+2,none⟩,I b0.heldTask),(10,⟨k0,l0+((choiceI (F.ws.length:Int) c (i:Int))).toNat*7+3,none⟩,I b0.attempt),(10,⟨k0,l0+((choiceI (F.ws.length:Int) c (i:Int))).toNat*7+4,none⟩,I b0.row),(10,⟨k0,l0+((choiceI (F.ws.length:Int) c (i:Int))).toNat*7+5,none⟩,I b0.used),(10,⟨k0,l0+((choiceI (F.ws.length:Int) c (i:Int))).toNat*7+6,none⟩,I b0.high)] [(true,[0,1,2,3]),(true,[4,5,6,8]),(true,[7]),(true,[9]),(true,[10]),(false,[11]),(true,[12,13]),(true,[14]),(true,[15]),(true,[16]),(true,[17]),(true,[19]),(true,[24]),(true,[25]),(false,[18]),(true,[20]),(true,[21]),(true,[22]),(false,[23]),(true,[26]),(true,[27]),(false,[28]),(true,[29])] rfl kr ⟨.inr (cell_up g0 0 rfl (k:=8) tri_pre rfl), .inr ((m0.up 2 rfl).cell g0 (k:=0) rfl), .inr ((m0.up 2 rfl).cell g0 (k:=1) rfl), .inr ((m0.up 2 rfl).cell g0 (k:=2) rfl), .inr ((m0.up 2 rfl).cell g0 (k:=3) rfl), .inr ((m0.up 2 rfl).cell g0 (k:=4) rfl), .inr ((m0.up 2 rfl).cell g0 (k:=5) rfl), .inr ((m0.up 2 rfl).cell g0 (k:=6) rfl),trivial⟩ ?_
 have i5:=g0.drew
 refine wU [0,1,2,3]<|wFix 109 _ true (bne_iff_ne.2 z1)<|wU [4,5,6,8]<|wLd (.slice wa wn wk) 0 isAgg92<|wI h5<|wY (.agg (encWkr b0).toArray) rfl (fun w hF=>Y_loadF rfl (isAgg129 w) (sizeOf129 w) kr rfl ⟨hF 1 _ _ rfl,hF 2 _ _ rfl,hF 3 _ _ rfl,hF 4 _ _ rfl,hF 5 _ _ rfl,hF 6 _ _ rfl,hF 7 _ _ rfl,trivial⟩)<|wO rfl<|gY<|cS (f_holds b0 i5.flat) fun _ d0=>nilO ⟨⟨.inr (cell_up d0 0 rfl (k:=8) tri_pre rfl),dI,dI,dI,dI,dI,dI,dI,trivial⟩,?_⟩
 refine wU [12,13]<|bC ((b0.phase=1\/b0.phase=2\/b0.phase=3)) (fun q0=>wFix 119 _ false (decide_eq_false q0)<|wU [14]<|wU [15]<|wU [16]<|wU [17]<|wU [19]<|wU [24]<|wU [25]<|wO rfl<|pu1<|nilO ⟨⟨.inr (cell_up d0 0 rfl (k:=8) tri_pre rfl),dI,dI,dI,dI,dI,dI,dI,trivial⟩,(wU [20]<|wU [21]<|wU [22]<|wO rfl<|pu1<|nilO ⟨⟨.inr (cell_up d0 0 rfl (k:=8) tri_pre rfl),dI,dI,dI,dI,dI,dI,dI,trivial⟩,(wU [26]<|wU [27]<|wO rfl<|pu1<|nilO ⟨⟨.inr (cell_up d0 0 rfl (k:=8) tri_pre rfl),dI,dI,dI,dI,dI,dI,dI,trivial⟩,(wU [29]<|wN<|jXO 7 rfl<|sAdd (i:Int) 1<|jOI 2 rfl<|⟨i+1,od,alB,(d0.pick 1 rfl),om,(help_skip om W4 (by unfold canHelp busyW wAt;rw [show F.ws.getD (chF F c i).toNat default=b0 from getD_some p0,decide_eq_false q0];simp))⟩)⟩)⟩)⟩) fun q0=>wFix 119 _ true (decide_eq_true q0)<|wU [14]<|wU [15]<|wU [16]<|wU [17]<|wU [19]<|wU [24]<|wU [25]<|wO rfl<|gY<|sMp d0 (ptr_up 0 rfl tri_pre) 8 (.slice wa wn wk)<|nilO ⟨⟨.inr (cell_up d0 0 rfl (k:=8) tri_pre rfl),dI,dI,dI,dI,dI,dI,dI,trivial⟩,?_⟩
 obtain ⟨k5,w7,x7,a2,l5,m5,y7⟩:=OwnT.elem A1 (choiceI (F.ws.length:Int) c (i:Int))
 obtain rfl:b0=k5:=Option.some.inj (p0.symm.trans a2)
 have A0:=hF.w b0 (List.mem_of_getElem? a2);have B1:=A0.h;have C1:=A0.r
 refine wI m5<|wU [21]<|wU [22]<|wO rfl<|gY<|sMp d0 (l5.up 2 rfl) 1 (I b0.heldJob)<|nilO ⟨⟨.inr (cell_up d0 0 rfl (k:=8) tri_pre rfl),dI,dI,dI,dI,dI,dI,dI,trivial⟩,?_⟩
 obtain ⟨b2,c2⟩:=at_some V0 (k:=(b0.heldJob.toNat)) om
 obtain ⟨d2,z7,d1,a8,n5⟩:=Obs.get E2 c2;obtain ⟨b8,e2,c8,d8⟩:=n5.fields;have e8:=hF.j d2 (List.mem_of_getElem? d1)
 refine wY (.pointer (some ⟨p,12+(b0.heldJob.toNat)*5,none⟩)) rfl (fun w _=>Y_idxA (b:=p) (off:=12) b0.heldJob (b0.heldJob.toNat) runUnderlying99 sizeOf98)<|wU [27]<|wO rfl<|gY<|sMp d0 (ptr_up 0 rfl (tri_el (sz:=5) (n0:=12) fR c2)) 1 (.bool b2.running)<|nilO ⟨⟨.inr (cell_up d0 0 rfl (k:=8) tri_pre rfl),dI,dI,dI,dI,dI,dI,dI,trivial⟩,?_⟩
 refine wU [29]<|wN<|jXC 1 rfl<|CB b2.running (fun e1=>jCO 5 rfl<|sAdd (i:Int) 1<|jOI 2 rfl<|⟨i+1,od,alB,(d0.pick 1 rfl),om,(help_skip om W4 (by rw [canHelp_eq p0 d1,show d2.running=false from e2▸Bool.eq_false_iff.2 e1];simp))⟩) fun e1=>jCO 6 rfl<|sMp d0 (ptr_up 0 rfl (tri_post (k:=332) (tri_len (sz:=5) (m:=12) fR V0))) 5 (I F.st.helps)<|sAdd F.st.helps 1<|pu3<|sTpost d0 0 332 5 rfl (I (F.st.helps+1)) [I (F.st.helps+1)] [I F.st.starts,I F.st.commits,I F.st.drops,I F.st.crashes,I F.st.steals,I (F.st.helps+1),I F.st.spills,I F.st.queued,I F.st.held,I F.st.cells] (tri_len (sz:=5) (m:=12) fR V0) sizeOf3 fun _ p5=>jOO 9 rfl ?_
 have u0:=A0.t q0;obtain ⟨g8,q5,r5,s5,t5,H2,I2,u5,v5⟩:=hF.job u0
 have J2:=u0.2.2.1
 have w5:=(p5.picks [8,8,8,8,8,8,8,7])
 have x5:=(w5.merge8)
 have y5:FarmR p (⟨F.cfg,F.ws,F.ar,F.dq,F.q,F.jobs,(⟨F.st.starts,F.st.commits,F.st.drops,F.st.crashes,F.st.steals,(F.st.helps+1),F.st.spills,F.st.queued,F.st.held,F.st.cells⟩:Stt)⟩:FS) ((Tri p 101 (preF F.cfg wa wn wk aa an ak da dn dk q) (xs.flatMap encFJob) [I F.st.starts,I F.st.commits,I F.st.drops,I F.st.crashes,I F.st.steals,I (F.st.helps+1),I F.st.spills,I F.st.queued,I F.st.held,I F.st.cells])++(Wc++(Ac++(Dc++(M4.flatten++(P4.flatten++(Qc++j5.flatten))))))):=⟨_,_,_,_,_,_,_,_,_,_,_,_,_,_,_,_,_,_,_,_,rfl,A1,H1,V2,U2,F3,hQ,E2,V0⟩
 refine cZ (f_micro y5 (choiceI (F.ws.length:Int) c (i:Int)) (by first|omega|(dsimp only;omega)|(simp only [List.length_set];omega)) (by first|omega|(dsimp only;omega)|(simp only [List.length_set];omega)) (by first|omega|(dsimp only;omega)|(simp only [List.length_set];omega)) p0 ⟨u0.1,u0.2.1⟩ q5 r5 s5 ⟨J2,v5⟩ ⟨u5,t5⟩ ⟨H2,I2⟩ om (by first|omega|(dsimp only;omega)|(simp only [List.length_set];omega)) x5.flat1) ?_
 rintro _ _ ⟨_,rfl,f2,z5⟩
 have a6:=z5.unflat1
 obtain ⟨c0,g2⟩:∃z,z=(microF (⟨F.cfg,F.ws,F.ar,F.dq,F.q,F.jobs,(⟨F.st.starts,F.st.commits,F.st.drops,F.st.crashes,F.st.steals,(F.st.helps+1),F.st.spills,F.st.queued,F.st.held,F.st.cells⟩:Stt)⟩:FS) (choiceI (F.ws.length:Int) c (i:Int))).2:=⟨_,rfl⟩;rw [<-g2]
 obtain ⟨f1,h2⟩:∃z,z=(microF (⟨F.cfg,F.ws,F.ar,F.dq,F.q,F.jobs,(⟨F.st.starts,F.st.commits,F.st.drops,F.st.crashes,F.st.steals,(F.st.helps+1),F.st.spills,F.st.queued,F.st.held,F.st.cells⟩:Stt)⟩:FS) (choiceI (F.ws.length:Int) c (i:Int))).1:=⟨_,rfl⟩
 rw [<-h2] at f2
 obtain ⟨N2,R1,Y1,R2,P2,W1,U1,D2,B2,L3,T2,O4,R4,P1,J1,L1,N1,X0,Z0,G1,rfl,H0,C0,E0,N0,P0,G2,R0,E1⟩:=f2
 have b6:Sat W _ ((Tri p 101 (preF f1.cfg N2 R2 P2 R1 W1 U1 Y1 D2 B2 L3) (T2.flatMap encFJob) (encStt f1.st))::P1::J1::L1::X0.flatten::Z0.flatten::N1::G1.flatten::[(w4, .cells #[I 0,I 0,I 0,I 0,I 0,I 0,I 0] 63 (0,0))]::[(r0, .cells (encWkr a0).toArray 129 (0,0))]::H::F0):=Sat.perm a6 (by simp [Value.cells])
 have L4:=H0.ll;have A4:=C0.ll;have F4:=E0.ll;have R3:=N0.1;have T3:=P0.1;have V3:=R0.1
 refine sBK b6 #[I 12,I x,I (choiceI (F.ws.length:Int) c (i:Int)),I 0,I 0,I 0,I 0,I c0.kind,I c0.worker,I c0.from_,I c0.job,I c0.refJob,I c0.refTask,I c0.err] 63 fun i2 _ c6=>jOR 10 rfl<|retT [.slice (At i2 0) 2 2,I 0] ?_
 have d6:=OwnT.blk (enc:=encEvt) (sz:=7) (b:=i2) (c:=#[I 12,I x,I (choiceI (F.ws.length:Int) c (i:Int)),I 0,I 0,I 0,I 0,I c0.kind,I c0.worker,I c0.from_,I c0.job,I c0.refJob,I c0.refTask,I c0.err]) (E:=63) (xs:=[(⟨12,x,(choiceI (F.ws.length:Int) c (i:Int)),0,0,0,0⟩:Evt),c0]) fR 2 rfl rfl rfl om
 have e6:=((c6.picks [8,8,8,8,8,8,8,8]).drops [9,9])
 have f6:=((e6.merge8).pick 1 rfl)
 have he:stepF F x c=(f1,[(⟨12,x,(choiceI (F.ws.length:Int) c (i:Int)),0,0,0,0⟩:Evt),c0],0):=by subst h2;subst g2;exact (step_rest om i0 om om).trans (help_at t0 om W4 (by rw [canHelp_eq p0 d1];simp only [Bool.and_eq_true,decide_eq_true_eq];exact ⟨by assumption,q0,e2▸e1⟩))
 rw [he];exact ⟨_,_,_,_,_,rfl,d6,⟨_,_,_,_,_,_,_,_,_,_,_,_,_,_,_,_,_,_,_,_,rfl,H0,C0,E0,N0,P0,G2,R0,E1⟩,f6⟩
theorem f_restart {p:Nat} {F:FS} {M:Chunk} {F0:List Chunk} (hR:FarmR p F M) {K:Int} (hF:FW F K) (hst:StOk F.st K) (x:Int) (hS:Sat W w (M::H::F0)):
  Calls prog 24 #[Pt p 0,I x] w fun e w'=>∃(az:Option Addr) (nz kz:Nat) (G M':Chunk),e= .returned (.tuple #[.slice az nz kz,I (restartF F x).2.2])/\OwnT encEvt 63 7 az nz kz (restartF F x).2.1 G/\FarmR p (restartF F x).1 M'/\Sat W w' (G::M'::H::F0):=by
 obtain ⟨wa,aa,da,wn,wk,an,ak,dn,dk,q,xs,ap,dp,Wc,Ac,Dc,Qc,J0,K0,R0,rfl,A0,z0,C0,B0,D0,hQ,E0,I0⟩:=hR
 have hS:Sat W _ ((Tri p 101 (preF F.cfg wa wn wk aa an ak da dn dk q) (xs.flatMap encFJob) (encStt F.st))::Wc::Ac::Dc::J0.flatten::K0.flatten::Qc::R0.flatten::H::F0):=Sat.perm hS (by simp [Value.cells])
 have g1:=A0.ll;have T0:=z0.ll;have V0:=C0.ll;have M0:=B0.1;have O0:=D0.1;have Q0:=E0.1
 have L0:=hF.al;have N0:=hF.dl;have P0:=hF.jl;have X0:=hF.n;have W0:=hF.k;have Y0:=hst.a;have Z0:=hst.b;have a1:=hst.c;have b1:=hst.d;have c1:=hst.e;have d1:=hst.f;have e1:=hst.g
 refine callsK 36 func24 rfl<|jCO 10 rfl<|cZ (f_zero om hS) ?_
 rintro _ _ ⟨rfl,a0⟩
 refine pu5<|sD 12 (x<0) (fun e0=>jOR 19 rfl<|retT [nS,I 16]<|(by have f0:=Sat.nilc a0;have g0:=(f0.picks [8,8,8,8,8,8,8,8]);have h0:=((g0.merge8).pick 1 rfl);have he:restartF F x=(F,[],16):=(by unfold restartF;rw [if_pos om]);rw [he];exact ⟨_,_,_,_,_,rfl,(OwnT.nil (enc:=encEvt) (E:=63) (sz:=7) fR),⟨_,_,_,_,_,_,_,_,_,_,_,_,_,_,_,_,_,_,_,_,rfl,A0,z0,C0,B0,D0,hQ,E0,I0⟩,h0⟩)) fun e0=>pu4<|gY<|sMp a0 (ptr_up 0 rfl tri_pre) 8 (.slice wa wn wk)<|jOC 5 rfl<|cD (x>=(wn:Int)) (fun i0=>jCR 8 rfl<|retT [nS,I 16]<|(by have j0:=Sat.nilc a0;have k0:=(j0.picks [8,8,8,8,8,8,8,8]);have l0:=((k0.merge8).pick 1 rfl);have he:restartF F x=(F,[],16):=(by unfold restartF;rw [if_pos om]);rw [he];exact ⟨_,_,_,_,_,rfl,(OwnT.nil (enc:=encEvt) (E:=63) (sz:=7) fR),⟨_,_,_,_,_,_,_,_,_,_,_,_,_,_,_,_,_,_,_,_,rfl,A0,z0,C0,B0,D0,hQ,E0,I0⟩,l0⟩)) fun i0=>jCO 8 rfl<|sMp a0 (ptr_up 0 rfl tri_pre) 8 (.slice wa wn wk)<|pu1<|sIO A0 x (x).toNat fun b0 _ _ c0 m0 _=>?_
 have y0:=hF.w b0 (List.mem_of_getElem? c0);have G0:=y0.h;have H0:=y0.r
 refine pu1<|sMp a0 (m0.up 1 rfl) 0 (I b0.phase)<|jOC 3 rfl<|CN b0.phase 4 (fun n0=>jCR 8 rfl<|retT [nS,I 20]<|(by have o0:=Sat.nilc a0;have p0:=(o0.picks [8,8,8,8,8,8,8,8]);have q0:=((p0.merge8).pick 1 rfl);have he:restartF F x=(F,[],20):=(by unfold restartF wAt;rw [if_neg om,getD_some c0,if_neg om]);rw [he];exact ⟨_,_,_,_,_,rfl,(OwnT.nil (enc:=encEvt) (E:=63) (sz:=7) fR),⟨_,_,_,_,_,_,_,_,_,_,_,_,_,_,_,_,_,_,_,_,rfl,A0,z0,C0,B0,D0,hQ,E0,I0⟩,q0⟩)) fun n0=>jCO 6 rfl ?_
 have r0:=(a0.picks [4,3,3,3])
 refine cZ (f_idle A0 z0 B0 x 0 (by first|omega|(dsimp only;omega)|(simp only [List.length_set];omega)) (by first|omega|(dsimp only;omega)|(simp only [List.length_set];omega)) r0) ?_
 rintro _ _ ⟨_,rfl,s0,t0⟩
 refine jOO 6 rfl<|sBK t0 #[I 11,I x,I 0,I 0,I 0,I 0,I 0] 63 fun d0 _ u0=>jOR 5 rfl<|retT [.slice (At d0 0) 1 1,I 0] ?_
 have v0:=OwnT.blk (enc:=encEvt) (sz:=7) (b:=d0) (c:=#[I 11,I x,I 0,I 0,I 0,I 0,I 0]) (E:=63) (xs:=[(⟨11,x,0,0,0,0,0⟩:Evt)]) fR 1 rfl rfl rfl om
 have w0:=(u0.picks [8,8,8,7,8,8,8,8])
 have x0:=((w0.merge8).pick 1 rfl)
 have he:restartF F x=((⟨F.cfg,(F.ws.set x.toNat ⟨0,0,0,0,0,0,(F.ar.getD x.toNat default).high⟩),F.ar,F.dq,F.q,F.jobs,F.st⟩:FS),[(⟨11,x,0,0,0,0,0⟩:Evt)],0):=by unfold restartF wAt;rw [if_neg om,getD_some c0,if_pos om];rfl
 rw [he];exact ⟨_,_,_,_,_,rfl,v0,⟨_,_,_,_,_,_,_,_,_,_,_,_,_,_,_,_,_,_,_,_,rfl,s0,z0,C0,B0,D0,hQ,E0,I0⟩,x0⟩
end Go.Proofs.YtkadmghedmodbaaGreat

namespace Go.Proofs.YtkadmghedmodbaaGreat
open Go Go.E Go.Proofs.Tryz
set_option linter.all false
set_option maxRecDepth 100000
set_option maxHeartbeats 2000000
variable {W w:World} {H:Chunk} {F:List Chunk}
theorem busy_no {F:FS} {v:Wkr} (h:(v.phase=1\/v.phase=2\/v.phase=3)->∀s,F.jobs[v.heldJob.toNat]?=some s->¬s.running=true) (hj:∃s,F.jobs[v.heldJob.toNat]?=some s):busyW F v=false:=by
  obtain ⟨s,hs⟩:=hj
  unfold busyW jobAt;rw [getD_some hs]
  by_cases hh:(v.phase=1\/v.phase=2\/v.phase=3)
  · rw [Bool.eq_false_iff.2 (h hh s hs)];simp
  · rw [decide_eq_false hh];rfl
theorem f_crash_b {p:Nat} {F:FS} {M:Chunk} {F0:List Chunk} (hR:FarmR p F M) {K:Int} {v0:Wkr} (hF:FW F K) (hst:StOk F.st K) (x:Int) (hx:0<=x/\x<F.ws.length) (hv0:F.ws[x.toNat]?=some v0) (hh:(v0.phase=1\/v0.phase=2\/v0.phase=3)) (hr:∀s,F.jobs[v0.heldJob.toNat]?=some s->s.running=true) (hS:Sat W w (M::H::F0)):
  Calls prog 22 #[Pt p 0,I x] w fun e w'=>∃(az:Option Addr) (nz kz:Nat) (G M':Chunk),e= .returned (.tuple #[.slice az nz kz,I (crashF F x).2.2])/\OwnT encEvt 63 7 az nz kz (crashF F x).2.1 G/\FarmR p (crashF F x).1 M'/\Sat W w' (G::M'::H::F0):=by
 obtain ⟨wa,aa,da,wn,wk,an,ak,dn,dk,q,xs,ap,dp,Wc,Ac,Dc,Qc,P0,D0,O0,rfl,S0,E0,R0,W0,X0,hQ,Q0,N0⟩:=hR
 have hS:Sat W _ ((Tri p 101 (preF F.cfg wa wn wk aa an ak da dn dk q) (xs.flatMap encFJob) (encStt F.st))::Wc::Ac::Dc::P0.flatten::D0.flatten::Qc::O0.flatten::H::F0):=Sat.perm hS (by simp [Value.cells])
 have B2:=S0.ll;have K1:=E0.ll;have P1:=R0.ll;have D1:=W0.1;have F1:=X0.1;have H1:=Q0.1
 have C1:=hF.al;have E1:=hF.dl;have G1:=hF.jl;have S1:=hF.n;have Q1:=hF.k;have T1:=hst.a;have U1:=hst.b;have V1:=hst.c;have W1:=hst.d;have X1:=hst.e;have Y1:=hst.f;have Z1:=hst.g
 have A0:=hF.w v0 (List.mem_of_getElem? hv0);have C0:=A0.h
 obtain ⟨j,hj,ha,B1,N1,L1,M1,R1,s2⟩:=hF.job (A0.t hh);have M0:=hr j hj
 obtain ⟨s4,c0⟩:=at_some N0 (k:=(v0.heldJob.toNat)) om
 obtain ⟨a0,t4,i1,j1,d2⟩:=Obs.get Q0 c0
 obtain rfl:a0=j:=Option.some.inj (i1.symm.trans hj)
 obtain ⟨g0,h0,i0,u4,j0,k0,e2,rfl,rfl,t0,f2,k1,g2⟩:=d2.open ha
 have h2:=(hS.pick 7 rfl)
 have i2:=Sat.openN (A:=[]) (v0.heldJob.toNat) j1 h2
 have j2:Sat W _ (k0::e2::(O0.eraseIdx (v0.heldJob.toNat)).flatten::(Tri p 101 (preF F.cfg wa wn wk aa an ak da dn dk q) (xs.flatMap encFJob) (encStt F.st))::Wc::Ac::Dc::P0.flatten::D0.flatten::Qc::H::F0):=Sat.perm i2 (by simp [Value.cells])
 have U0:=t0.ll;have B0:=congrArg List.length k1;rw [List.length_map] at B0
 have I1:=hv0;have hj:=i1
 refine callsK 125 func22 rfl<|jCO 10 rfl ?_
 have k2:=(j2.pick 3 rfl)
 refine cZ (f_zero om k2) ?_
 rintro _ _ ⟨rfl,p0⟩
 refine pu5<|sD 16 (x<0) (fun l2=>jOR 19 rfl<|retT [nS,I 16]<|(by omega)) fun l2=>pu4<|gY<|sMp p0 (ptr_up 0 rfl tri_pre) 8 (.slice wa wn wk)<|jOC 5 rfl<|cD (x>=(wn:Int)) (fun m2=>jCR 8 rfl<|retT [nS,I 16]<|(by omega)) fun m2=>jCO 7 rfl<|sMp p0 (ptr_up 0 rfl tri_pre) 8 (.slice wa wn wk)<|pu1<|sIO S0 x (x).toNat fun n2 _ _ l1 o2 _=>?_
 obtain rfl:v0=n2:=Option.some.inj (hv0.symm.trans l1)
 have A0:=hF.w v0 (List.mem_of_getElem? l1);have C0:=A0.h;have Y0:=A0.r
 refine sMA p0 (o2.up 4 rfl) 0 (encWkr v0)<|sAlloc p0 zeroValue129 fun l0 _ q2=>sTk q2 0 rfl (encWkr v0) fun _ e0=>gOC e0 10 [0] rfl<|cE v0.phase 4 (fun r2=>jCR 8 rfl<|retT [nS,I 20]<|(by omega)) fun r2=>jCC 4 rfl<|drawE [8,9] [(3,⟨l0,1,none⟩,I v0.heldJob),(7,⟨p,12+(v0.heldJob.toNat)*5+0,none⟩, .bool true),(7,⟨p,12+(v0.heldJob.toNat)*5+1,none⟩, .bool a0.running),(7,⟨p,12+(v0.heldJob.toNat)*5+2,none⟩,I a0.band),(7,⟨p,12+(v0.heldJob.toNat)*5+3,none⟩, .slice g0 h0 i0),(7,⟨p,12+(v0.heldJob.toNat)*5+4,none⟩,Pt j0 0)] [(true,[0,1,2,4,5]),(true,[3]),(true,[6]),(true,[7]),(false,[8]),(false,[9])] rfl kr ⟨cI e0 0, .inr (cell_up e0 1 rfl (k:=0) (tri_el (sz:=5) (n0:=12) fR c0) rfl), .inr (cell_up e0 1 rfl (k:=1) (tri_el (sz:=5) (n0:=12) fR c0) rfl), .inr (cell_up e0 1 rfl (k:=2) (tri_el (sz:=5) (n0:=12) fR c0) rfl), .inr (cell_up e0 1 rfl (k:=3) (tri_el (sz:=5) (n0:=12) fR c0) rfl), .inr (cell_up e0 1 rfl (k:=4) (tri_el (sz:=5) (n0:=12) fR c0) rfl),trivial⟩ ?_
 refine wU [0,1,2,4,5]<|wLd (I v0.heldJob) 0 isAgg3<|wY (.pointer (some ⟨p,12+(v0.heldJob.toNat)*5,none⟩)) rfl (fun w _=>Y_idxA (b:=p) (off:=12) v0.heldJob (v0.heldJob.toNat) runUnderlying99 sizeOf98)<|wY (.agg #[.bool true, .bool a0.running,I a0.band, .slice g0 h0 i0,Pt j0 0]) rfl (fun w hF=>Y_loadF rfl (isAgg98 w) (sizeOf98 w) kr rfl ⟨hF 1 _ _ rfl,hF 2 _ _ rfl,hF 3 _ _ rfl,hF 4 _ _ rfl,hF 5 _ _ rfl,trivial⟩)<|wO rfl<|sAlloc e0.drew zeroValue98 fun u0 _ f0=>nilO ⟨⟨cI f0 1, .inr (cell_up f0 2 rfl (k:=0) (tri_el (sz:=5) (n0:=12) fR c0) rfl), .inr (cell_up f0 2 rfl (k:=1) (tri_el (sz:=5) (n0:=12) fR c0) rfl), .inr (cell_up f0 2 rfl (k:=2) (tri_el (sz:=5) (n0:=12) fR c0) rfl), .inr (cell_up f0 2 rfl (k:=3) (tri_el (sz:=5) (n0:=12) fR c0) rfl), .inr (cell_up f0 2 rfl (k:=4) (tri_el (sz:=5) (n0:=12) fR c0) rfl),trivial⟩,?_⟩
 refine wO rfl<|sTk f0 0 rfl [.bool true, .bool a0.running,I a0.band, .slice g0 h0 i0,Pt j0 0] fun _ m1=>nilO ⟨dA,?_⟩
 refine wN<|gXO m1 4 [701] rfl<|cS (f_holds v0 m1.flat) fun _ w0=>pu1<|sFix 45 _ true (decide_eq_true hh)<|gOC w0 5 [0] rfl<|cT _ M0<|gCO w0 9 [0,1,1] rfl ?_
 have t2:=(w0.pick 4 rfl)
 refine cZ (r_return g2 B1 v0.heldTask v0.attempt om t2.flat1) ?_
 rintro _ _ ⟨q0,rfl,u2,v2⟩
 have m0:=v2.unflat1
 refine jOC 2 rfl<|drawE [8] [(3,⟨p,11,none⟩,Pt q 0),(5,⟨l0,1,none⟩,I v0.heldJob),(5,⟨l0,2,none⟩,I v0.heldTask),(7,⟨u0,2,none⟩,I a0.band)] [(true,[0,1,2,4,6]),(true,[3]),(true,[5]),(true,[7]),(false,[8])] rfl kr ⟨.inr (cell_up m0 3 rfl (k:=11) tri_pre rfl),cI m0 2,cI m0 2,cI m0 1,trivial⟩ ?_
 have w2:=m0.drew
 refine wU [0,1,2,4,6]<|wLd (Pt q 0) 0 isAgg95<|wY (.agg #[I v0.heldJob,I v0.heldTask]) rfl (fun w hF=>Y_loadF rfl (isAgg61 w) (sizeOf61 w) kr rfl ⟨hF 1 _ _ rfl,hF 2 _ _ rfl,trivial⟩)<|wLd (I a0.band) 3 isAgg3<|wO rfl ?_
 have x2:=(w2.pick 11 rfl)
 refine cZ (iq_push hQ (⟨v0.heldJob,v0.heldTask⟩:Ref) a0.band om x2.flat1) ?_
 rintro _ _ ⟨x0,rfl,y2,z2⟩
 have y0:=z2.unflat1
 refine nilO ⟨dA,?_⟩
 refine wN<|jXO 6 rfl<|sMp y0 (ptr_up 4 rfl tri_pre) 10 (.slice da dn dk)<|pu1<|sIO R0 x (x).toNat fun a3 _ _ n1 b3 _=>sMp y0 (b3.up 9 rfl) 0 (Pt a3 0) ?_
 obtain ⟨o1,j5,q1,r1,c3⟩:=Obs.get X0 n1
 have d3:=(y0.pick 11 rfl)
 refine cZ (dq_drain c3 (Sat.flat1 (Sat.openN (A:=[]) x.toNat r1 d3))) ?_
 rintro _ _ ⟨_,z0,_,a1,r0,rfl,b1,f3,g3⟩
 have h3:=g3.unflat2;have H0:=b1.ll
 have i3:=(h3.picks [2,2])
 have j3:=Sat.shutN (d:=r0) (A:=[]) x.toNat r1 i3
 have k3:=Obs.set X0 n1 f3
 refine jOC 10 rfl ?_
 have l3:=(j3.picks [8,4,8])
 have m3:Sat W _ ((k0++q0)::(O0.eraseIdx (v0.heldJob.toNat)).flatten::(D0.set x.toNat r0).flatten::a1::x0::[(u0, .cells #[.bool true, .bool a0.running,I a0.band, .slice g0 h0 i0,Pt j0 0] 98 (0,0))]::[(l0, .cells (encWkr v0).toArray 129 (0,0))]::(Tri p 101 (preF F.cfg wa wn wk aa an ak da dn dk q) (xs.flatMap encFJob) (encStt F.st))::Wc::Ac::Dc::P0.flatten::H::F0):=Sat.perm (show Sat W _ (k0::q0::(O0.eraseIdx (v0.heldJob.toNat)).flatten::(D0.set x.toNat r0).flatten::a1::x0::[(u0, .cells #[.bool true, .bool a0.running,I a0.band, .slice g0 h0 i0,Pt j0 0] 98 (0,0))]::[(l0, .cells (encWkr v0).toArray 129 (0,0))]::(Tri p 101 (preF F.cfg wa wn wk aa an ak da dn dk q) (xs.flatMap encFJob) (encStt F.st))::Wc::Ac::Dc::P0.flatten::H::F0) from l3) (by simp [Value.cells])
 have n3:=Sat.shutN (d:=k0++q0) (A:=[]) (v0.heldJob.toNat) j1 m3
 have o3:=Obs.set Q0 c0 (JobM.mk (s:={a0 with B:=(retB a0.B v0.heldTask v0.attempt)}) ha t0 f2 k1 u2)
 refine loopF [0,1,6,8] (γ:=Nat×QS×Chunk) (fun ⟨i,qi,V0⟩ R=>⟨[(9,I (i:Int))],(O0.set (v0.heldJob.toNat) (k0++q0)).flatten::(D0.set x.toNat r0).flatten::a1::V0::R,z0-i,i<=z0/\(InjR q qi V0)/\(qi=drainQ F.jobs (pushQ F.q (⟨v0.heldJob,v0.heldTask⟩:Ref) a0.band) (o1.l.take i))⟩) (0,(pushQ F.q (⟨v0.heldJob,v0.heldTask⟩:Ref) a0.band),x0) ⟨n3,om,y2,rfl⟩ ?_
 rintro ⟨i,qi,V0⟩ ρ _ ⟨d0,hi,Z0,A1⟩
 refine jCC 9 rfl<|cD ((i:Int)<(z0:Int)) (fun q3=>jCC 4 rfl<|(by obtain ⟨b0,c1,d1,e1,o0,f1,o5⟩:=OwnT.eN b1 i;have g1:=hF.d _ (List.mem_of_getElem? q1) _ (List.mem_of_getElem? e1);have I0:=g1.1;have J0:=g1.2.1;obtain ⟨r3,s3,_,_,_,K0,L0,_,_⟩:=hF.job g1;obtain ⟨s0,s1⟩:=at_some N0 (k:=(b0.job.toNat)) om;obtain ⟨t1,p5,h1,q5,t3⟩:=Obs.get Q0 s1;obtain ⟨r5,s5,u3,t5⟩:=t3.fields;have u5:=hF.j t1 (List.mem_of_getElem? h1);obtain rfl:t1=r3:=Option.some.inj (h1.symm.trans s3);refine drawE [19] [(3,⟨p,11,none⟩,Pt q 0),(7,⟨c1,d1+i*2+0,none⟩,I b0.job),(7,⟨c1,d1+i*2+1,none⟩,I b0.task),(13,⟨c1,d1+i*2+0,none⟩,I b0.job),(18,⟨p,12+(b0.job.toNat)*5+2,none⟩,I s0.band)] [(true,[0,1,2,4,5]),(true,[6]),(true,[8,9,10]),(true,[11]),(true,[12,14,15]),(true,[3]),(true,[7]),(true,[13]),(true,[16]),(true,[17]),(true,[18]),(false,[19])] rfl kr ⟨.inr (cell_up d0 6 rfl (k:=11) tri_pre rfl), .inr ((o0.up 2 rfl).cell d0 (k:=0) rfl), .inr ((o0.up 2 rfl).cell d0 (k:=1) rfl), .inr ((o0.up 2 rfl).cell d0 (k:=0) rfl), .inr (cell_up d0 6 rfl (k:=2) (tri_el (sz:=5) (n0:=12) fR s1) rfl),trivial⟩ ?_;have v3:=d0.drew;refine wU [0,1,2,4,5]<|wI f1<|wU [8,9,10]<|wI f1<|wU [12,14,15]<|wLd (Pt q 0) 0 isAgg95<|wY (.agg #[I b0.job,I b0.task]) rfl (fun w hF=>Y_loadF rfl (isAgg61 w) (sizeOf61 w) kr rfl ⟨hF 1 _ _ rfl,hF 2 _ _ rfl,trivial⟩)<|wLd (I b0.job) 3 isAgg3<|wY (.pointer (some ⟨p,12+(b0.job.toNat)*5,none⟩)) rfl (fun w _=>Y_idxA (b:=p) (off:=12) b0.job (b0.job.toNat) runUnderlying99 sizeOf98)<|wU [17]<|wLd (I s0.band) 4 isAgg3<|wO rfl ?_;have w3:=(v3.pick 3 rfl);refine cZ (iq_push Z0 b0 s0.band om w3.flat1) ?_;rintro _ _ ⟨x3,rfl,y3,z3⟩;have u1:=z3.unflat1;exact nilO ⟨⟨dI,dI,dI, .inr ((o0.up 3 rfl).cell u1 (k:=0) rfl),dI,trivial⟩,(wN<|jXO 4 rfl<|sAdd (i:Int) 1<|jOI 2 rfl<|⟨(i+1,(pushQ qi b0 s0.band),x3),od,alB,(u1.picks [3,3,3]),om,y3,(by rw [drain_take e1,<-A1];unfold pushR;rw [getD_some h1,<-u3])⟩)⟩)) fun q3=>?_
 refine jCO 10 rfl<|sMp d0 (ptr_up 6 rfl tri_pre) 9 (.slice aa an ak)<|pu1<|sIO E0 x (x).toNat fun b4 _ _ v1 c4 _=>sMp d0 (c4.up 8 rfl) 0 (Pt b4 0) ?_
 obtain ⟨w1,z5,x1,y1,d4⟩:=Obs.get W0 v1
 have e4:=(d0.pick 10 rfl)
 refine cZ (ar_reset d4 (Sat.flat1 (Sat.openN (A:=[]) x.toNat y1 e4))) ?_
 rintro _ _ ⟨g4,rfl,h4,i4⟩
 have j4:=i4.unflat1
 have k4:=(j4.picks [1,1])
 have l4:=Sat.shutN (d:=g4) (A:=[]) x.toNat y1 k4
 have z1:=Obs.set W0 v1 h4
 refine jOO 6 rfl ?_
 have m4:=(l4.picks [0,9,9,9])
 refine cZ (f_idle S0 E0 z1 x 4 (by first|omega|(dsimp only;omega)|(simp only [List.length_set];omega)) (by first|omega|(dsimp only;omega)|(simp only [List.length_set];omega)) m4) ?_
 rintro _ _ ⟨_,rfl,n4,a2⟩
 exact jOO 8 rfl<|sMp a2 (ptr_up 0 rfl (tri_post (k:=332) (tri_len (sz:=5) (m:=12) fR N0))) 3 (I F.st.crashes)<|sAdd F.st.crashes 1<|pu3<|sTpost a2 0 332 3 rfl (I (F.st.crashes+1)) [I (F.st.crashes+1)] [I F.st.starts,I F.st.commits,I F.st.drops,I (F.st.crashes+1),I F.st.steals,I F.st.helps,I F.st.spills,I F.st.queued,I F.st.held,I F.st.cells] (tri_len (sz:=5) (m:=12) fR N0) sizeOf3 fun _ b2=>gOO b2 8 [209] rfl<|sBK b2 #[I 10,I x,I 0,I 0,I v0.heldJob,I v0.heldTask,I 0] 63 fun c2 _ o4=>jOR 5 rfl<|retT [.slice (At c2 0) 1 1,I 0]<|(by have p4:=OwnT.blk (enc:=encEvt) (sz:=7) (b:=c2) (c:=#[I 10,I x,I 0,I 0,I v0.heldJob,I v0.heldTask,I 0]) (E:=63) (xs:=[(⟨10,x,0,0,v0.heldJob,v0.heldTask,0⟩:Evt)]) fR 1 rfl rfl rfl om;have q4:=((o4.picks [5,8,7,7,11,8,8,8]).drops [9,9,9]);have r4:=((q4.merge8).pick 1 rfl);have he:crashF F x=((⟨F.cfg,(F.ws.set x.toNat ⟨4,0,0,0,0,0,((F.ar.set x.toNat (resetA w1)).getD x.toNat default).high⟩),(F.ar.set x.toNat (resetA w1)),(F.dq.set x.toNat ({o1 with l:=[]}:DS)),qi,(F.jobs.set (v0.heldJob.toNat) ({a0 with B:=(retB a0.B v0.heldTask v0.attempt)})),(⟨F.st.starts,F.st.commits,F.st.drops,(F.st.crashes+1),F.st.steals,F.st.helps,F.st.spills,F.st.queued,F.st.held,F.st.cells⟩:Stt)⟩:FS),[(⟨10,x,0,0,v0.heldJob,v0.heldTask,0⟩:Evt)],0):=(crash_busy om hv0 hh hj M0 q1 x1).trans (by rw [getD_some (set_at x1),A1,List.take_of_length_le om];rfl);rw [he];exact ⟨_,_,_,_,_,rfl,p4,⟨_,_,_,_,_,_,_,_,_,_,_,_,_,_,_,_,_,_,_,_,rfl,n4,E0,R0,z1,k3,Z0,o3,N0⟩,r4⟩)
theorem f_crash_f {p:Nat} {F:FS} {M:Chunk} {F0:List Chunk} (hR:FarmR p F M) {K:Int} {v0:Wkr} (hF:FW F K) (hst:StOk F.st K) (x:Int) (hx:0<=x/\x<F.ws.length) (hv0:F.ws[x.toNat]?=some v0) (hfr:(v0.phase=1\/v0.phase=2\/v0.phase=3)->∀s,F.jobs[v0.heldJob.toNat]?=some s->¬s.running=true) (hS:Sat W w (M::H::F0)):
  Calls prog 22 #[Pt p 0,I x] w fun e w'=>∃(az:Option Addr) (nz kz:Nat) (G M':Chunk),e= .returned (.tuple #[.slice az nz kz,I (crashF F x).2.2])/\OwnT encEvt 63 7 az nz kz (crashF F x).2.1 G/\FarmR p (crashF F x).1 M'/\Sat W w' (G::M'::H::F0):=by
 obtain ⟨wa,aa,da,wn,wk,an,ak,dn,dk,q,xs,ap,dp,Wc,Ac,Dc,Qc,A1,B1,K1,rfl,J0,C0,G0,H0,I0,hQ,E0,B0⟩:=hR
 have hS:Sat W _ ((Tri p 101 (preF F.cfg wa wn wk aa an ak da dn dk q) (xs.flatMap encFJob) (encStt F.st))::Wc::Ac::Dc::A1.flatten::B1.flatten::Qc::K1.flatten::H::F0):=Sat.perm hS (by simp [Value.cells])
 have Z1:=J0.ll;have M1:=C0.ll;have O1:=G0.ll;have G1:=H0.1;have I1:=I0.1;have J1:=E0.1
 have F1:=hF.al;have H1:=hF.dl;have C1:=hF.jl;have Q1:=hF.n;have P1:=hF.k;have R1:=hst.a;have S1:=hst.b;have T1:=hst.c;have U1:=hst.d;have V1:=hst.e;have W1:=hst.f;have X1:=hst.g
 have A0:=hF.w v0 (List.mem_of_getElem? hv0);have L0:=A0.h
 have E1:∃s,F.jobs[v0.heldJob.toNat]?=some s:=at_some C1 om
 refine callsK 125 func22 rfl<|jCO 10 rfl<|cZ (f_zero om hS) ?_
 rintro _ _ ⟨rfl,j0⟩
 refine pu5<|sD 16 (x<0) (fun w2=>jOR 19 rfl<|retT [nS,I 16]<|(by have x2:=Sat.nilc j0;have y2:=(x2.picks [8,8,8,8,8,8,8,8]);have z2:=((y2.merge8).pick 1 rfl);have he:crashF F x=(F,[],16):=crash_unk om;rw [he];exact ⟨_,_,_,_,_,rfl,(OwnT.nil (enc:=encEvt) (E:=63) (sz:=7) fR),⟨_,_,_,_,_,_,_,_,_,_,_,_,_,_,_,_,_,_,_,_,rfl,J0,C0,G0,H0,I0,hQ,E0,B0⟩,z2⟩)) fun w2=>pu4<|gY<|sMp j0 (ptr_up 0 rfl tri_pre) 8 (.slice wa wn wk)<|jOC 5 rfl<|cD (x>=(wn:Int)) (fun a3=>jCR 8 rfl<|retT [nS,I 16]<|(by have b3:=Sat.nilc j0;have c3:=(b3.picks [8,8,8,8,8,8,8,8]);have d3:=((c3.merge8).pick 1 rfl);have he:crashF F x=(F,[],16):=crash_unk om;rw [he];exact ⟨_,_,_,_,_,rfl,(OwnT.nil (enc:=encEvt) (E:=63) (sz:=7) fR),⟨_,_,_,_,_,_,_,_,_,_,_,_,_,_,_,_,_,_,_,_,rfl,J0,C0,G0,H0,I0,hQ,E0,B0⟩,d3⟩)) fun a3=>jCO 7 rfl<|sMp j0 (ptr_up 0 rfl tri_pre) 8 (.slice wa wn wk)<|pu1<|sIO J0 x (x).toNat fun e3 _ _ i1 f3 _=>?_
 obtain rfl:v0=e3:=Option.some.inj (hv0.symm.trans i1)
 have A0:=hF.w v0 (List.mem_of_getElem? i1);have L0:=A0.h;have D1:=A0.r
 refine sMA j0 (f3.up 1 rfl) 0 (encWkr v0)<|sAlloc j0 zeroValue129 fun p0 _ g3=>sTk g3 0 rfl (encWkr v0) fun _ e0=>gOC e0 10 [0] rfl<|cE v0.phase 4 (fun h3=>jCR 8 rfl<|retT [nS,I 20]<|(by have i3:=Sat.nilc e0;have j3:=((i3.picks [9,9,9,9,9,9,9,9]).dropAt 9 rfl);have k3:=((j3.merge8).pick 1 rfl);have he:crashF F x=(F,[],20):=crash_down om hv0 om;rw [he];exact ⟨_,_,_,_,_,rfl,(OwnT.nil (enc:=encEvt) (E:=63) (sz:=7) fR),⟨_,_,_,_,_,_,_,_,_,_,_,_,_,_,_,_,_,_,_,_,rfl,J0,C0,G0,H0,I0,hQ,E0,B0⟩,k3⟩)) fun h3=>jCC 4 rfl ?_
 obtain ⟨a0,d0⟩:=at_some B0 (k:=(v0.heldJob.toNat)) om
 obtain ⟨l3,z6,j1,a7,m3⟩:=Obs.get E0 d0;obtain ⟨b7,n3,c7,d7⟩:=m3.fields;have e7:=hF.j l3 (List.mem_of_getElem? j1)
 have D0:(v0.phase=1\/v0.phase=2\/v0.phase=3)->¬a0.running=true:=fun h1 h2=>hfr h1 _ j1 (n3▸h2)
 refine drawE [8,9] [(3,⟨p0,1,none⟩,I v0.heldJob),(7,⟨p,12+(v0.heldJob.toNat)*5+0,none⟩, .bool a0.added),(7,⟨p,12+(v0.heldJob.toNat)*5+1,none⟩, .bool a0.running),(7,⟨p,12+(v0.heldJob.toNat)*5+2,none⟩,I a0.band),(7,⟨p,12+(v0.heldJob.toNat)*5+3,none⟩, .slice a0.tasks.a a0.tasks.n a0.tasks.k),(7,⟨p,12+(v0.heldJob.toNat)*5+4,none⟩, .pointer a0.board)] [(true,[0,1,2,4,5]),(true,[3]),(true,[6]),(true,[7]),(false,[8]),(false,[9])] rfl kr ⟨cI e0 0, .inr (cell_up e0 1 rfl (k:=0) (tri_el (sz:=5) (n0:=12) fR d0) rfl), .inr (cell_up e0 1 rfl (k:=1) (tri_el (sz:=5) (n0:=12) fR d0) rfl), .inr (cell_up e0 1 rfl (k:=2) (tri_el (sz:=5) (n0:=12) fR d0) rfl), .inr (cell_up e0 1 rfl (k:=3) (tri_el (sz:=5) (n0:=12) fR d0) rfl), .inr (cell_up e0 1 rfl (k:=4) (tri_el (sz:=5) (n0:=12) fR d0) rfl),trivial⟩<|wU [0,1,2,4,5]<|wLd (I v0.heldJob) 0 isAgg3<|wY (.pointer (some ⟨p,12+(v0.heldJob.toNat)*5,none⟩)) rfl (fun w _=>Y_idxA (b:=p) (off:=12) v0.heldJob (v0.heldJob.toNat) runUnderlying99 sizeOf98)<|wY (.agg (encFJob a0).toArray) rfl (fun w hF=>Y_loadF rfl (isAgg98 w) (sizeOf98 w) kr rfl ⟨hF 1 _ _ rfl,hF 2 _ _ rfl,hF 3 _ _ rfl,hF 4 _ _ rfl,hF 5 _ _ rfl,trivial⟩)<|wO rfl<|sAlloc e0.drew zeroValue98 fun k1 _ h0=>nilO ⟨⟨cI h0 1, .inr (cell_up h0 2 rfl (k:=0) (tri_el (sz:=5) (n0:=12) fR d0) rfl), .inr (cell_up h0 2 rfl (k:=1) (tri_el (sz:=5) (n0:=12) fR d0) rfl), .inr (cell_up h0 2 rfl (k:=2) (tri_el (sz:=5) (n0:=12) fR d0) rfl), .inr (cell_up h0 2 rfl (k:=3) (tri_el (sz:=5) (n0:=12) fR d0) rfl), .inr (cell_up h0 2 rfl (k:=4) (tri_el (sz:=5) (n0:=12) fR d0) rfl),trivial⟩,?_⟩
 refine wO rfl<|sTk h0 0 rfl (encFJob a0) fun _ l1=>nilO ⟨dA,?_⟩
 refine wN<|gXO l1 4 [701] rfl<|cS (f_holds v0 l1.flat) fun _ i0=>pu1<|sD 45 ((v0.phase=1\/v0.phase=2\/v0.phase=3)) (fun m1=>?_) (fun m1=>?_)
 rotate_left
 ·refine jOO 13 rfl<|sMp i0 (ptr_up 2 rfl tri_pre) 10 (.slice da dn dk)<|pu1<|sIO G0 x (x).toNat fun q3 _ _ n1 r3 _=>sMp i0 (r3.up 5 rfl) 0 (Pt q3 0) ?_
  obtain ⟨o1,l7,q1,r1,s3⟩:=Obs.get I0 n1
  have t3:=(i0.pick 7 rfl)
  refine cZ (dq_drain s3 (Sat.flat1 (Sat.openN (A:=[]) x.toNat r1 t3))) ?_
  rintro _ _ ⟨_,q0,_,v3,s1,rfl,r0,w3,x3⟩
  have y3:=x3.unflat2;have N0:=r0.ll
  have z3:=(y3.picks [2,2])
  have a4:=Sat.shutN (d:=s1) (A:=[]) x.toNat r1 z3
  have b4:=Obs.set I0 n1 w3
  refine jOC 10 rfl<|loopF [0,1,6,8] (γ:=Nat×QS×Chunk) (fun ⟨i,qi,K0⟩ R=>⟨[(9,I (i:Int))],(B1.set x.toNat s1).flatten::v3::[(k1, .cells (encFJob a0).toArray 98 (0,0))]::[(p0, .cells (encWkr v0).toArray 129 (0,0))]::(Tri p 101 (preF F.cfg wa wn wk aa an ak da dn dk q) (xs.flatMap encFJob) (encStt F.st))::Wc::Ac::Dc::A1.flatten::K0::R,q0-i,i<=q0/\(InjR q qi K0)/\(qi=drainQ F.jobs F.q (o1.l.take i))⟩) (0,F.q,Qc) ⟨a4,om,hQ,rfl⟩ ?_
  rintro ⟨i,qi,K0⟩ ρ _ ⟨f0,hi,S0,V0⟩
  refine jCC 9 rfl<|cD ((i:Int)<(q0:Int)) (fun c4=>jCC 4 rfl<|(by obtain ⟨b0,s0,t0,u0,k0,w0,q7⟩:=OwnT.eN r0 i;have x0:=hF.d _ (List.mem_of_getElem? q1) _ (List.mem_of_getElem? u0);have O0:=x0.1;have P0:=x0.2.1;obtain ⟨d4,e4,_,_,_,Q0,R0,_,_⟩:=hF.job x0;obtain ⟨m0,t1⟩:=at_some B0 (k:=(b0.job.toNat)) om;obtain ⟨u1,r7,y0,s7,f4⟩:=Obs.get E0 t1;obtain ⟨t7,u7,g4,v7⟩:=f4.fields;have w7:=hF.j u1 (List.mem_of_getElem? y0);obtain rfl:u1=d4:=Option.some.inj (y0.symm.trans e4);refine drawE [19] [(3,⟨p,11,none⟩,Pt q 0),(7,⟨s0,t0+i*2+0,none⟩,I b0.job),(7,⟨s0,t0+i*2+1,none⟩,I b0.task),(13,⟨s0,t0+i*2+0,none⟩,I b0.job),(18,⟨p,12+(b0.job.toNat)*5+2,none⟩,I m0.band)] [(true,[0,1,2,4,5]),(true,[6]),(true,[8,9,10]),(true,[11]),(true,[12,14,15]),(true,[3]),(true,[7]),(true,[13]),(true,[16]),(true,[17]),(true,[18]),(false,[19])] rfl kr ⟨.inr (cell_up f0 4 rfl (k:=11) tri_pre rfl), .inr ((k0.up 1 rfl).cell f0 (k:=0) rfl), .inr ((k0.up 1 rfl).cell f0 (k:=1) rfl), .inr ((k0.up 1 rfl).cell f0 (k:=0) rfl), .inr (cell_up f0 4 rfl (k:=2) (tri_el (sz:=5) (n0:=12) fR t1) rfl),trivial⟩ ?_;have h4:=f0.drew;refine wU [0,1,2,4,5]<|wI w0<|wU [8,9,10]<|wI w0<|wU [12,14,15]<|wLd (Pt q 0) 0 isAgg95<|wY (.agg #[I b0.job,I b0.task]) rfl (fun w hF=>Y_loadF rfl (isAgg61 w) (sizeOf61 w) kr rfl ⟨hF 1 _ _ rfl,hF 2 _ _ rfl,trivial⟩)<|wLd (I b0.job) 3 isAgg3<|wY (.pointer (some ⟨p,12+(b0.job.toNat)*5,none⟩)) rfl (fun w _=>Y_idxA (b:=p) (off:=12) b0.job (b0.job.toNat) runUnderlying99 sizeOf98)<|wU [17]<|wLd (I m0.band) 4 isAgg3<|wO rfl ?_;have i4:=(h4.pick 9 rfl);refine cZ (iq_push S0 b0 m0.band om i4.flat1) ?_;rintro _ _ ⟨j4,rfl,k4,l4⟩;have v1:=l4.unflat1;exact nilO ⟨⟨dI,dI,dI, .inr ((k0.up 2 rfl).cell v1 (k:=0) rfl),dI,trivial⟩,(wN<|jXO 4 rfl<|sAdd (i:Int) 1<|jOI 2 rfl<|⟨(i+1,(pushQ qi b0 m0.band),j4),od,alB,(v1.picks [9,9,9,9,9,9,9,9,9]),om,k4,(by rw [drain_take u0,<-V0];unfold pushR;rw [getD_some y0,<-g4])⟩)⟩)) fun c4=>?_
  refine jCO 10 rfl<|sMp f0 (ptr_up 4 rfl tri_pre) 9 (.slice aa an ak)<|pu1<|sIO C0 x (x).toNat fun n4 _ _ w1 o4 _=>sMp f0 (o4.up 6 rfl) 0 (Pt n4 0) ?_
  obtain ⟨x1,b8,y1,z1,p4⟩:=Obs.get H0 w1
  have q4:=(f0.pick 8 rfl)
  refine cZ (ar_reset p4 (Sat.flat1 (Sat.openN (A:=[]) x.toNat z1 q4))) ?_
  rintro _ _ ⟨s4,rfl,t4,u4⟩
  have v4:=u4.unflat1
  have w4:=(v4.picks [1,1])
  have x4:=Sat.shutN (d:=s4) (A:=[]) x.toNat z1 w4
  have a2:=Obs.set H0 w1 t4
  refine jOO 6 rfl ?_
  have y4:=(x4.picks [0,7,7,7])
  refine cZ (f_idle J0 C0 a2 x 4 (by first|omega|(dsimp only;omega)|(simp only [List.length_set];omega)) (by first|omega|(dsimp only;omega)|(simp only [List.length_set];omega)) y4) ?_
  rintro _ _ ⟨_,rfl,z4,b2⟩
  exact jOO 8 rfl<|sMp b2 (ptr_up 0 rfl (tri_post (k:=332) (tri_len (sz:=5) (m:=12) fR B0))) 3 (I F.st.crashes)<|sAdd F.st.crashes 1<|pu3<|sTpost b2 0 332 3 rfl (I (F.st.crashes+1)) [I (F.st.crashes+1)] [I F.st.starts,I F.st.commits,I F.st.drops,I (F.st.crashes+1),I F.st.steals,I F.st.helps,I F.st.spills,I F.st.queued,I F.st.held,I F.st.cells] (tri_len (sz:=5) (m:=12) fR B0) sizeOf3 fun _ c2=>gOO c2 8 [207] rfl<|sBK c2 #[I 10,I x,I 0,I 0,I v0.heldJob,I v0.heldTask,I 0] 63 fun d2 _ a5=>jOR 5 rfl<|retT [.slice (At d2 0) 1 1,I 0]<|(by have b5:=OwnT.blk (enc:=encEvt) (sz:=7) (b:=d2) (c:=#[I 10,I x,I 0,I 0,I v0.heldJob,I v0.heldTask,I 0]) (E:=63) (xs:=[(⟨10,x,0,0,v0.heldJob,v0.heldTask,0⟩:Evt)]) fR 1 rfl rfl rfl om;have c5:=((a5.picks [11,11,7,7,11,8,8,8]).drops [9,9,9]);have d5:=((c5.merge8).pick 1 rfl);have he:crashF F x=((⟨F.cfg,(F.ws.set x.toNat ⟨4,0,0,0,0,0,((F.ar.set x.toNat (resetA x1)).getD x.toNat default).high⟩),(F.ar.set x.toNat (resetA x1)),(F.dq.set x.toNat ({o1 with l:=[]}:DS)),qi,F.jobs,(⟨F.st.starts,F.st.commits,F.st.drops,(F.st.crashes+1),F.st.steals,F.st.helps,F.st.spills,F.st.queued,F.st.held,F.st.cells⟩:Stt)⟩:FS),[(⟨10,x,0,0,v0.heldJob,v0.heldTask,0⟩:Evt)],0):=(crash_free om hv0 om (busy_no hfr E1) q1 y1).trans (by rw [getD_some (set_at y1),V0,List.take_of_length_le om];rfl);rw [he];exact ⟨_,_,_,_,_,rfl,b5,⟨_,_,_,_,_,_,_,_,_,_,_,_,_,_,_,_,_,_,_,_,rfl,z4,C0,G0,a2,b4,S0,E0,B0⟩,d5⟩)
 refine gOC i0 5 [0] rfl ?_
 have e5:¬(a0.running=true):=D0 m1
 refine cF _ (Bool.eq_false_iff.2 e5)<|jCO 7 rfl<|sMp i0 (ptr_up 2 rfl tri_pre) 10 (.slice da dn dk)<|pu1<|sIO G0 x (x).toNat fun f5 _ _ e2 g5 _=>sMp i0 (g5.up 5 rfl) 0 (Pt f5 0) ?_
 obtain ⟨f2,k8,g2,i2,h5⟩:=Obs.get I0 e2
 have i5:=(i0.pick 7 rfl)
 refine cZ (dq_drain h5 (Sat.flat1 (Sat.openN (A:=[]) x.toNat i2 i5))) ?_
 rintro _ _ ⟨_,z0,_,k5,j2,rfl,a1,l5,m5⟩
 have n5:=m5.unflat2;have U0:=a1.ll
 have o5:=(n5.picks [2,2])
 have p5:=Sat.shutN (d:=j2) (A:=[]) x.toNat i2 o5
 have q5:=Obs.set I0 e2 l5
 refine jOC 10 rfl<|loopF [0,1,6,8] (γ:=Nat×QS×Chunk) (fun ⟨i,qi,K0⟩ R=>⟨[(9,I (i:Int))],(B1.set x.toNat j2).flatten::k5::[(k1, .cells (encFJob a0).toArray 98 (0,0))]::[(p0, .cells (encWkr v0).toArray 129 (0,0))]::(Tri p 101 (preF F.cfg wa wn wk aa an ak da dn dk q) (xs.flatMap encFJob) (encStt F.st))::Wc::Ac::Dc::A1.flatten::K0::R,z0-i,i<=z0/\(InjR q qi K0)/\(qi=drainQ F.jobs F.q (f2.l.take i))⟩) (0,F.q,Qc) ⟨p5,om,hQ,rfl⟩ ?_
 rintro ⟨i,qi,K0⟩ ρ _ ⟨g0,hi,S0,V0⟩
 refine jCC 9 rfl<|cD ((i:Int)<(z0:Int)) (fun r5=>jCC 4 rfl<|(by obtain ⟨c0,b1,c1,d1,l0,e1,p8⟩:=OwnT.eN a1 i;have f1:=hF.d _ (List.mem_of_getElem? g2) _ (List.mem_of_getElem? d1);have W0:=f1.1;have X0:=f1.2.1;obtain ⟨s5,t5,_,_,_,Y0,Z0,_,_⟩:=hF.job f1;obtain ⟨o0,k2⟩:=at_some B0 (k:=(c0.job.toNat)) om;obtain ⟨l2,q8,g1,r8,u5⟩:=Obs.get E0 k2;obtain ⟨s8,t8,v5,u8⟩:=u5.fields;have v8:=hF.j l2 (List.mem_of_getElem? g1);obtain rfl:l2=s5:=Option.some.inj (g1.symm.trans t5);refine drawE [19] [(3,⟨p,11,none⟩,Pt q 0),(7,⟨b1,c1+i*2+0,none⟩,I c0.job),(7,⟨b1,c1+i*2+1,none⟩,I c0.task),(13,⟨b1,c1+i*2+0,none⟩,I c0.job),(18,⟨p,12+(c0.job.toNat)*5+2,none⟩,I o0.band)] [(true,[0,1,2,4,5]),(true,[6]),(true,[8,9,10]),(true,[11]),(true,[12,14,15]),(true,[3]),(true,[7]),(true,[13]),(true,[16]),(true,[17]),(true,[18]),(false,[19])] rfl kr ⟨.inr (cell_up g0 4 rfl (k:=11) tri_pre rfl), .inr ((l0.up 1 rfl).cell g0 (k:=0) rfl), .inr ((l0.up 1 rfl).cell g0 (k:=1) rfl), .inr ((l0.up 1 rfl).cell g0 (k:=0) rfl), .inr (cell_up g0 4 rfl (k:=2) (tri_el (sz:=5) (n0:=12) fR k2) rfl),trivial⟩ ?_;have w5:=g0.drew;refine wU [0,1,2,4,5]<|wI e1<|wU [8,9,10]<|wI e1<|wU [12,14,15]<|wLd (Pt q 0) 0 isAgg95<|wY (.agg #[I c0.job,I c0.task]) rfl (fun w hF=>Y_loadF rfl (isAgg61 w) (sizeOf61 w) kr rfl ⟨hF 1 _ _ rfl,hF 2 _ _ rfl,trivial⟩)<|wLd (I c0.job) 3 isAgg3<|wY (.pointer (some ⟨p,12+(c0.job.toNat)*5,none⟩)) rfl (fun w _=>Y_idxA (b:=p) (off:=12) c0.job (c0.job.toNat) runUnderlying99 sizeOf98)<|wU [17]<|wLd (I o0.band) 4 isAgg3<|wO rfl ?_;have x5:=(w5.pick 9 rfl);refine cZ (iq_push S0 c0 o0.band om x5.flat1) ?_;rintro _ _ ⟨y5,rfl,z5,a6⟩;have m2:=a6.unflat1;exact nilO ⟨⟨dI,dI,dI, .inr ((l0.up 2 rfl).cell m2 (k:=0) rfl),dI,trivial⟩,(wN<|jXO 4 rfl<|sAdd (i:Int) 1<|jOI 2 rfl<|⟨(i+1,(pushQ qi c0 o0.band),y5),od,alB,(m2.picks [9,9,9,9,9,9,9,9,9]),om,z5,(by rw [drain_take d1,<-V0];unfold pushR;rw [getD_some g1,<-v5])⟩)⟩)) fun r5=>?_
 refine jCO 10 rfl<|sMp g0 (ptr_up 4 rfl tri_pre) 9 (.slice aa an ak)<|pu1<|sIO C0 x (x).toNat fun c6 _ _ n2 d6 _=>sMp g0 (d6.up 6 rfl) 0 (Pt c6 0) ?_
 obtain ⟨o2,a9,q2,r2,e6⟩:=Obs.get H0 n2
 have f6:=(g0.pick 8 rfl)
 refine cZ (ar_reset e6 (Sat.flat1 (Sat.openN (A:=[]) x.toNat r2 f6))) ?_
 rintro _ _ ⟨h6,rfl,i6,j6⟩
 have k6:=j6.unflat1
 have l6:=(k6.picks [1,1])
 have m6:=Sat.shutN (d:=h6) (A:=[]) x.toNat r2 l6
 have s2:=Obs.set H0 n2 i6
 refine jOO 6 rfl ?_
 have n6:=(m6.picks [0,7,7,7])
 refine cZ (f_idle J0 C0 s2 x 4 (by first|omega|(dsimp only;omega)|(simp only [List.length_set];omega)) (by first|omega|(dsimp only;omega)|(simp only [List.length_set];omega)) n6) ?_
 rintro _ _ ⟨_,rfl,o6,t2⟩
 exact jOO 8 rfl<|sMp t2 (ptr_up 0 rfl (tri_post (k:=332) (tri_len (sz:=5) (m:=12) fR B0))) 3 (I F.st.crashes)<|sAdd F.st.crashes 1<|pu3<|sTpost t2 0 332 3 rfl (I (F.st.crashes+1)) [I (F.st.crashes+1)] [I F.st.starts,I F.st.commits,I F.st.drops,I (F.st.crashes+1),I F.st.steals,I F.st.helps,I F.st.spills,I F.st.queued,I F.st.held,I F.st.cells] (tri_len (sz:=5) (m:=12) fR B0) sizeOf3 fun _ u2=>gOO u2 8 [207] rfl<|sBK u2 #[I 10,I x,I 0,I 0,I v0.heldJob,I v0.heldTask,I 0] 63 fun v2 _ p6=>jOR 5 rfl<|retT [.slice (At v2 0) 1 1,I 0]<|(by have q6:=OwnT.blk (enc:=encEvt) (sz:=7) (b:=v2) (c:=#[I 10,I x,I 0,I 0,I v0.heldJob,I v0.heldTask,I 0]) (E:=63) (xs:=[(⟨10,x,0,0,v0.heldJob,v0.heldTask,0⟩:Evt)]) fR 1 rfl rfl rfl om;have r6:=((p6.picks [11,11,7,7,11,8,8,8]).drops [9,9,9]);have s6:=((r6.merge8).pick 1 rfl);have he:crashF F x=((⟨F.cfg,(F.ws.set x.toNat ⟨4,0,0,0,0,0,((F.ar.set x.toNat (resetA o2)).getD x.toNat default).high⟩),(F.ar.set x.toNat (resetA o2)),(F.dq.set x.toNat ({f2 with l:=[]}:DS)),qi,F.jobs,(⟨F.st.starts,F.st.commits,F.st.drops,(F.st.crashes+1),F.st.steals,F.st.helps,F.st.spills,F.st.queued,F.st.held,F.st.cells⟩:Stt)⟩:FS),[(⟨10,x,0,0,v0.heldJob,v0.heldTask,0⟩:Evt)],0):=(crash_free om hv0 om (busy_no hfr E1) g2 q2).trans (by rw [getD_some (set_at q2),V0,List.take_of_length_le om];rfl);rw [he];exact ⟨_,_,_,_,_,rfl,q6,⟨_,_,_,_,_,_,_,_,_,_,_,_,_,_,_,_,_,_,_,_,rfl,o6,C0,G0,s2,q5,S0,E0,B0⟩,s6⟩)
theorem f_crash {W w:World} {p:Nat} {F:FS} {M H:Chunk} {F0:List Chunk} (hR:FarmR p F M) {K:Int} (hF:FW F K) (hst:StOk F.st K) (x:Int) (hx:0<=x/\x<F.ws.length) (hS:Sat W w (M::H::F0)):
  Calls prog 22 #[Pt p 0,I x] w fun e w'=>∃(az:Option Addr) (nz kz:Nat) (G M':Chunk),e= .returned (.tuple #[.slice az nz kz,I (crashF F x).2.2])/\OwnT encEvt 63 7 az nz kz (crashF F x).2.1 G/\FarmR p (crashF F x).1 M'/\Sat W w' (G::M'::H::F0):=by
 by_cases hb:busyW F (wAt F x)=true
 · exact (by unfold busyW at hb;obtain ⟨h1,h2⟩:=(Bool.and_eq_true _ _).mp hb;exact f_crash_b hR hF hst x hx (hF.wmem hx) (of_decide_eq_true h1) (fun s hs=>by rw [<-h2];unfold jobAt;rw [getD_some hs]) hS)
 ·exact f_crash_f hR hF hst x hx (hF.wmem hx) (fun h1 s hs h2=>hb (by unfold busyW jobAt;rw [getD_some hs,h2,decide_eq_true h1];rfl)) hS
theorem f_cancel_r {p:Nat} {F:FS} {M:Chunk} {F0:List Chunk} (hR:FarmR p F M) {K:Int} {j:JS} (hF:FW F K) (hst:StOk F.st K) (x:Int) (hx:0<=x/\x<64) (hj:F.jobs[x.toNat]?=some j) (ha:j.added=true) (hrun:j.running=true) (hS:Sat W w (M::H::F0)):
  Calls prog 26 #[Pt p 0,I x] w fun e w'=>∃(az:Option Addr) (nz kz:Nat) (G M':Chunk),e= .returned (.tuple #[.slice az nz kz,I (cancelF F x).2.2])/\OwnT encEvt 63 7 az nz kz (cancelF F x).2.1 G/\FarmR p (cancelF F x).1 M'/\Sat W w' (G::M'::H::F0):=by
 obtain ⟨wa,aa,da,wn,wk,an,ak,dn,dk,q,xs,ap,dp,Wc,Ac,Dc,Qc,B0,C0,E0,rfl,N0,M0,I0,O0,P0,hQ,L0,R0⟩:=hR
 have hS:Sat W _ ((Tri p 101 (preF F.cfg wa wn wk aa an ak da dn dk q) (xs.flatMap encFJob) (encStt F.st))::Wc::Ac::Dc::B0.flatten::C0.flatten::Qc::E0.flatten::H::F0):=Sat.perm hS (by simp [Value.cells])
 have Q1:=N0.ll;have B1:=M0.ll;have F1:=I0.ll;have T0:=O0.1;have W0:=P0.1;have Z0:=L0.1
 have S0:=hF.al;have V0:=hF.dl;have Y0:=hF.jl;have H1:=hF.n;have G1:=hF.k;have I1:=hst.a;have J1:=hst.b;have K1:=hst.c;have L1:=hst.d;have M1:=hst.e;have N1:=hst.f;have O1:=hst.g
 obtain ⟨_,U0,_⟩:=hF.j j (List.mem_of_getElem? hj);obtain ⟨v1,_,C1,D1⟩:=U0 ha
 obtain ⟨h2,g0⟩:=at_some R0 (k:=(x.toNat)) om
 obtain ⟨a0,i2,o0,p0,x0⟩:=Obs.get L0 g0
 obtain rfl:a0=j:=Option.some.inj (o0.symm.trans hj)
 obtain ⟨b0,c0,d0,e0,f0,h0,i0,rfl,rfl,k0,y0,q0,z0⟩:=x0.open ha
 have a1:=(hS.pick 7 rfl)
 have b1:=Sat.openN (A:=[]) (x.toNat) p0 a1
 have c1:Sat W _ (h0::i0::(E0.eraseIdx (x.toNat)).flatten::(Tri p 101 (preF F.cfg wa wn wk aa an ak da dn dk q) (xs.flatMap encFJob) (encStt F.st))::Wc::Ac::Dc::B0.flatten::C0.flatten::Qc::H::F0):=Sat.perm b1 (by simp [Value.cells])
 have K0:=k0.ll;have A0:=congrArg List.length q0;rw [List.length_map] at A0
 have hj:=o0
 refine callsK 68 func26 rfl<|jCO 10 rfl ?_
 have d1:=(c1.pick 3 rfl)
 refine cZ (f_zero om d1) ?_
 rintro _ _ ⟨rfl,l0⟩
 refine pu5<|sD 13 (x<0) (fun e1=>jOR 24 rfl<|retT [nS,I 16]<|(by omega)) fun e1=>pu4<|sD 17 (x>=64) (fun f1=>jOR 20 rfl<|retT [nS,I 16]<|(by omega)) fun f1=>pu4<|gY<|sIdxA (b:=p) (off:=12) x (x.toNat) runUnderlying99 sizeOf98<|pu1<|gY<|sMp l0 (ptr_up 0 rfl (tri_el (sz:=5) (n0:=12) fR g0)) 0 (.bool true)<|jOO 14 rfl<|sIdxA (b:=p) (off:=12) x (x.toNat) runUnderlying99 sizeOf98<|pu1<|sMp l0 (ptr_up 0 rfl (tri_el (sz:=5) (n0:=12) fR g0)) 1 (.bool a0.running)<|jOC 3 rfl<|cF _ (congrArg Bool.not hrun)<|jCO 8 rfl<|sIdxA (b:=p) (off:=12) x (x.toNat) runUnderlying99 sizeOf98<|pu1<|sTel (enc:=encFJob) (sz:=5) l0 fR 0 (x.toNat) 12 1 (⟨true,a0.running,a0.band,⟨b0,c0,d0,e0⟩,some ⟨f0,0,none⟩⟩:FJob) (⟨true,false,a0.band,⟨b0,c0,d0,e0⟩,some ⟨f0,0,none⟩⟩:FJob) g0 (.bool false) [.bool false] sizeOf4 fun _ r0=>jOO 7 rfl<|sMp r0 (ptr_up 0 rfl tri_pre) 11 (Pt q 0)<|pu1 ?_
 have g1:=(r0.pick 9 rfl)
 refine cZ (iq_remove hQ x g1.flat1) ?_
 rintro _ _ ⟨m0,_,rfl,h1,i1⟩
 have j1:=i1.unflat1
 refine jOC 9 rfl ?_
 have k1:=(j1.picks [4,4,4])
 have l1:Sat W _ ((h0++i0)::(E0.eraseIdx (x.toNat)).flatten::m0::(Tri p 101 (preF F.cfg wa wn wk aa an ak da dn dk q) ((xs.set (x.toNat) (⟨true,false,a0.band,⟨b0,c0,d0,e0⟩,some ⟨f0,0,none⟩⟩:FJob)).flatMap encFJob) (encStt F.st))::Wc::Ac::Dc::B0.flatten::C0.flatten::H::F0):=Sat.perm (show Sat W _ (h0::i0::(E0.eraseIdx (x.toNat)).flatten::m0::(Tri p 101 (preF F.cfg wa wn wk aa an ak da dn dk q) ((xs.set (x.toNat) (⟨true,false,a0.band,⟨b0,c0,d0,e0⟩,some ⟨f0,0,none⟩⟩:FJob)).flatMap encFJob) (encStt F.st))::Wc::Ac::Dc::B0.flatten::C0.flatten::H::F0) from k1) (by simp [Value.cells])
 have m1:=Sat.shutN (d:=h0++i0) (A:=[]) (x.toNat) p0 l1
 have n1:=Obs.set3 (p':=(⟨true,false,a0.band,⟨b0,c0,d0,e0⟩,some ⟨f0,0,none⟩⟩:FJob)) L0 g0 (JobM.mk (s:={a0 with running:=false}) ha k0 y0 q0 z0)
 refine loopF [0,1] (γ:=Nat×(List DS)×(List Chunk)) (fun ⟨i,D0,G0⟩ R=>⟨[(6,I (i:Int))],(E0.set (x.toNat) (h0++i0)).flatten::m0::(Tri p 101 (preF F.cfg wa wn wk aa an ak da dn dk q) ((xs.set (x.toNat) (⟨true,false,a0.band,⟨b0,c0,d0,e0⟩,some ⟨f0,0,none⟩⟩:FJob)).flatMap encFJob) (encStt F.st))::Wc::Ac::Dc::B0.flatten::G0.flatten::R,dn-i,i<=dn/\(Obs DqR dp D0 G0)/\(D0=(F.dq.take i).map (rmD x)++F.dq.drop i)⟩) (0,F.dq,C0) ⟨m1,om,P0,by simp⟩ ?_
 rintro ⟨i,D0,G0⟩ ρ _ ⟨j0,hi,H0,Q0⟩
 have X0:=H0.1
 refine jCO 7 rfl<|sMp j0 (ptr_up 2 rfl tri_pre) 10 (.slice da dn dk)<|jOC 4 rfl<|cD ((i:Int)<(dn:Int)) (fun o1=>jCO 8 rfl<|sMp j0 (ptr_up 2 rfl tri_pre) 10 (.slice da dn dk)<|pu1<|sIO I0 (i:Int) i fun q1 _ _ s0 r1 _=>sMp j0 (r1.up 5 rfl) 0 (Pt q1 0)<|pu1<|(by obtain ⟨t0,s2,s1,u0,t1⟩:=Obs.get H0 s0;have u1:=(j0.pick 7 rfl);refine cZ (dq_remove t1 x (Sat.flat1 (Sat.openN (A:=[]) i u0 u1))) ?_;rintro _ _ ⟨v0,_,rfl,w1,x1⟩;have y1:=x1.unflat1;have z1:=(y1.picks [1,1]);have a2:=Sat.shutN (d:=v0) (A:=[]) i u0 z1;exact jOO 5 rfl<|sAdd (i:Int) 1<|jOI 2 rfl<|⟨(i+1,(D0.set i ({t0 with l:=without x t0.l}:DS)),(G0.set i v0)),od,alB,(a2.picks [7,7,7,7,7,7,7]),om,(Obs.set H0 s0 w1),(rm_step Q0 s1)⟩)) fun o1=>?_
 exact jCO 9 rfl<|sBK j0 #[I 2,I 0,I 0,I x,I 0,I 0,I 0] 63 fun w0 _ d2=>jOR 5 rfl<|retT [.slice (At w0 0) 1 1,I 0]<|(by have e2:=OwnT.blk (enc:=encEvt) (sz:=7) (b:=w0) (c:=#[I 2,I 0,I 0,I x,I 0,I 0,I 0]) (E:=63) (xs:=[(⟨2,0,0,x,0,0,0⟩:Evt)]) fR 1 rfl rfl rfl om;have f2:=(d2.picks [1,2,8,8,8,8,8,8]);have g2:=((f2.merge8).pick 1 rfl);have he:cancelF F x=((⟨F.cfg,F.ws,F.ar,D0,({F.q with bs:=F.q.bs.map (without x)}:QS),(F.jobs.set (x.toNat) ({a0 with running:=false})),F.st⟩:FS),[(⟨2,0,0,x,0,0,0⟩:Evt)],0):=(cancel_at om hj ha hrun).trans (by rw [Q0,List.take_of_length_le om,List.drop_of_length_le om,List.append_nil]);rw [he];exact ⟨_,_,_,_,_,rfl,e2,⟨_,_,_,_,_,_,_,_,_,_,_,_,_,_,_,_,_,_,_,_,rfl,N0,M0,I0,O0,H0,h1,n1,(set_len R0)⟩,g2⟩)
theorem f_cancel_n {p:Nat} {F:FS} {M:Chunk} {F0:List Chunk} (hR:FarmR p F M) {K:Int} (hF:FW F K) (hst:StOk F.st K) (x:Int) (hno:0<=x/\x<64->∀s,F.jobs[x.toNat]?=some s->s.added=true->¬s.running=true) (hS:Sat W w (M::H::F0)):
  Calls prog 26 #[Pt p 0,I x] w fun e w'=>∃(az:Option Addr) (nz kz:Nat) (G M':Chunk),e= .returned (.tuple #[.slice az nz kz,I (cancelF F x).2.2])/\OwnT encEvt 63 7 az nz kz (cancelF F x).2.1 G/\FarmR p (cancelF F x).1 M'/\Sat W w' (G::M'::H::F0):=by
 obtain ⟨wa,aa,da,wn,wk,an,ak,dn,dk,q,xs,ap,dp,Wc,Ac,Dc,Qc,I0,J0,Q0,rfl,D0,B0,C0,E0,G0,hQ,A0,H0⟩:=hR
 have hS:Sat W _ ((Tri p 101 (preF F.cfg wa wn wk aa an ak da dn dk q) (xs.flatMap encFJob) (encStt F.st))::Wc::Ac::Dc::I0.flatten::J0.flatten::Qc::Q0.flatten::H::F0):=Sat.perm hS (by simp [Value.cells])
 have l1:=D0.ll;have S0:=B0.ll;have U0:=C0.ll;have L0:=E0.1;have N0:=G0.1;have P0:=A0.1
 have K0:=hF.al;have M0:=hF.dl;have O0:=hF.jl;have W0:=hF.n;have V0:=hF.k;have X0:=hst.a;have Y0:=hst.b;have Z0:=hst.c;have f1:=hst.d;have g1:=hst.e;have i1:=hst.f;have j1:=hst.g
 refine callsK 68 func26 rfl<|jCO 10 rfl<|cZ (f_zero om hS) ?_
 rintro _ _ ⟨rfl,a0⟩
 refine pu5<|sD 13 (x<0) (fun i0=>jOR 24 rfl<|retT [nS,I 16]<|(by have j0:=Sat.nilc a0;have k0:=(j0.picks [8,8,8,8,8,8,8,8]);have l0:=((k0.merge8).pick 1 rfl);have he:cancelF F x=(F,[],16):=cancel_unk om;rw [he];exact ⟨_,_,_,_,_,rfl,(OwnT.nil (enc:=encEvt) (E:=63) (sz:=7) fR),⟨_,_,_,_,_,_,_,_,_,_,_,_,_,_,_,_,_,_,_,_,rfl,D0,B0,C0,E0,G0,hQ,A0,H0⟩,l0⟩)) fun i0=>pu4<|sD 17 (x>=64) (fun m0=>jOR 20 rfl<|retT [nS,I 16]<|(by have o0:=Sat.nilc a0;have p0:=(o0.picks [8,8,8,8,8,8,8,8]);have q0:=((p0.merge8).pick 1 rfl);have he:cancelF F x=(F,[],16):=cancel_unk om;rw [he];exact ⟨_,_,_,_,_,rfl,(OwnT.nil (enc:=encEvt) (E:=63) (sz:=7) fR),⟨_,_,_,_,_,_,_,_,_,_,_,_,_,_,_,_,_,_,_,_,rfl,D0,B0,C0,E0,G0,hQ,A0,H0⟩,q0⟩)) fun m0=>pu4<|gY ?_
 obtain ⟨b0,e0⟩:=at_some H0 (k:=(x.toNat)) om
 obtain ⟨r0,a1,c0,b1,s0⟩:=Obs.get A0 e0;obtain ⟨f0,g0,c1,d1⟩:=s0.fields;have e1:=hF.j r0 (List.mem_of_getElem? c0)
 have z0:b0.added=true->¬b0.running=true:=fun h1 h2=>hno om _ c0 (f0▸h1) (g0▸h2)
 exact sIdxA (b:=p) (off:=12) x (x.toNat) runUnderlying99 sizeOf98<|pu1<|gY<|sMp a0 (ptr_up 0 rfl (tri_el (sz:=5) (n0:=12) fR e0)) 0 (.bool b0.added)<|jOC 4 rfl<|CBn b0.added (fun d0=>jCR 8 rfl<|retT [nS,I 16]<|(by have t0:=Sat.nilc a0;have u0:=(t0.picks [8,8,8,8,8,8,8,8]);have v0:=((u0.merge8).pick 1 rfl);have he:cancelF F x=(F,[],16):=cancel_not c0 (f0▸d0);rw [he];exact ⟨_,_,_,_,_,rfl,(OwnT.nil (enc:=encEvt) (E:=63) (sz:=7) fR),⟨_,_,_,_,_,_,_,_,_,_,_,_,_,_,_,_,_,_,_,_,rfl,D0,B0,C0,E0,G0,hQ,A0,H0⟩,v0⟩)) fun d0=>jCO 9 rfl<|sIdxA (b:=p) (off:=12) x (x.toNat) runUnderlying99 sizeOf98<|pu1<|sMp a0 (ptr_up 0 rfl (tri_el (sz:=5) (n0:=12) fR e0)) 1 (.bool b0.running)<|jOC 3 rfl<|(by have h0:¬(b0.running=true):=z0 d0;exact cT _ (congrArg Bool.not (Bool.eq_false_iff.2 h0))<|jCR 8 rfl<|retT [nS,I 18]<|(by have w0:=Sat.nilc a0;have x0:=(w0.picks [8,8,8,8,8,8,8,8]);have y0:=((x0.merge8).pick 1 rfl);have he:cancelF F x=(F,[],18):=cancel_fin om c0 (f0▸d0) (g0▸h0);rw [he];exact ⟨_,_,_,_,_,rfl,(OwnT.nil (enc:=encEvt) (E:=63) (sz:=7) fR),⟨_,_,_,_,_,_,_,_,_,_,_,_,_,_,_,_,_,_,_,_,rfl,D0,B0,C0,E0,G0,hQ,A0,H0⟩,y0⟩))
theorem f_cancel {W w:World} {p:Nat} {F:FS} {M H:Chunk} {F0:List Chunk} (hR:FarmR p F M) {K:Int} (hF:FW F K) (hst:StOk F.st K) (x:Int) (hS:Sat W w (M::H::F0)):
  Calls prog 26 #[Pt p 0,I x] w fun e w'=>∃(az:Option Addr) (nz kz:Nat) (G M':Chunk),e= .returned (.tuple #[.slice az nz kz,I (cancelF F x).2.2])/\OwnT encEvt 63 7 az nz kz (cancelF F x).2.1 G/\FarmR p (cancelF F x).1 M'/\Sat W w' (G::M'::H::F0):=by
 by_cases hb:0<=x/\x<64/\(jobAt F x).added=true/\(jobAt F x).running=true
 · exact (by obtain ⟨h1,h2,h3,h4⟩:=hb;obtain ⟨j,hj⟩:=at_some hF.jl (k:=x.toNat) om;unfold jobAt at h3 h4;rw [getD_some hj] at h3 h4;exact f_cancel_r hR hF hst x ⟨h1,h2⟩ hj h3 h4 hS)
 ·by_cases h0:0<=x/\x<64
  ·exact f_cancel_n hR hF hst x (fun _ s hs h1 h2=>hb ⟨h0.1,h0.2,by unfold jobAt;rw [getD_some hs];exact ⟨h1,h2⟩⟩) hS
  ·exact f_cancel_n hR hF hst x (fun h1=>absurd h1 h0) hS
end Go.Proofs.YtkadmghedmodbaaGreat
