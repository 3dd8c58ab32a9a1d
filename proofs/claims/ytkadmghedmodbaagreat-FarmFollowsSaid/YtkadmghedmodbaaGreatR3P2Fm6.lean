import Derived.Test.YtkadmghedmodbaaGreatR3P2Iq
set_option linter.all false
namespace Go.Proofs.YtkadmghedmodbaaGreat
open Go Go.E Go.Proofs.Tryz
set_option linter.all false
set_option maxRecDepth 100000
set_option maxHeartbeats 2000000
variable {W w:World} {H:Chunk} {F:List Chunk}
def xZ:FJob:=⟨false,false,0,⟨none,0,0,[]⟩,none⟩
theorem obs_zero:Obs JobM (List.replicate 64 xZ) (List.replicate 64 JS.zero) (List.replicate 64 ([]:Chunk)):=by
  refine ⟨by simp,by simp,?_⟩
  intro i p s c h1 h2 h3
  obtain rfl:=rep_at h1
  obtain rfl:=rep_at h2
  obtain rfl:=rep_at h3
  exact .inl ⟨rfl,rfl,rfl⟩
theorem r26_in (n:Int) (a:Int) (b:Int) (hS:Sat W w (H::F)):
    Ro prog 104 #[.int .i64 n, .int .i64 a, .int .i64 b] (.bool (decide ((a<=n/\n<=b)))) W w (H::F):=by
  exact callsK 15 func104 rfl<|jCO 11 rfl<|SD 10 (n>=a) (fun a0=>jOR 8 rfl<|retT [.bool false]<|⟨rB ((decide_eq_false (by omega)).symm),hS⟩) fun a0=>jOR 8 rfl<|retT [.bool (decide ((n:Int)<=b))]<|⟨rB (by rw [Bool.eq_iff_iff];simp only [decide_eq_true_eq,ge_iff_le];omega),hS⟩
theorem r26_valid (c:Cfg) (hS:Sat W w (H::F)):
  Ro prog 46 #[.agg (encCfg c).toArray] (I (validCfg c)) W w (H::F):=by
 exact callsK 41 func46 rfl<|jCO 2 rfl<|sBx hS (encCfg c) fun _ _ h0=>gOO h0 8 [0] rfl<|cS (r26_in c.workers 1 64 h0.flat) fun _ a0=>pu1<|SD 6 ((1<=c.workers/\c.workers<=64)) (fun j0=>jOR 45 rfl<|retT [I 2]<|⟨congrArg (fun z=>Ending.returned (I z)) (by unfold validCfg;rw [if_neg om]),(a0.dropAt 0 rfl)⟩) fun j0=>gOO a0 2 [0] rfl<|gY<|cS (r26_in c.tileW 1 64 a0.flat) fun _ b0=>pu2<|SD 11 ((1<=c.tileW/\c.tileW<=64)) (fun l0=>jOR 40 rfl<|retT [I 2]<|⟨congrArg (fun z=>Ending.returned (I z)) (by unfold validCfg;rw [if_neg om]),(b0.dropAt 0 rfl)⟩) fun l0=>gOO b0 2 [0] rfl<|gY<|cS (r26_in c.tileH 1 64 b0.flat) fun _ c0=>pu2<|SD 16 ((1<=c.tileH/\c.tileH<=64)) (fun n0=>jOR 35 rfl<|retT [I 2]<|⟨congrArg (fun z=>Ending.returned (I z)) (by unfold validCfg;rw [if_neg om]),(c0.dropAt 0 rfl)⟩) fun n0=>gOO c0 2 [0] rfl<|gY<|cS (r26_in c.arena 0 1048576 c0.flat) fun _ d0=>pu2<|SD 21 ((0<=c.arena/\c.arena<=1048576)) (fun p0=>jOR 30 rfl<|retT [I 2]<|⟨congrArg (fun z=>Ending.returned (I z)) (by unfold validCfg;rw [if_neg om]),(d0.dropAt 0 rfl)⟩) fun p0=>gOO d0 2 [0] rfl<|gY<|cS (r26_in c.deque 1 256 d0.flat) fun _ e0=>pu2<|SD 26 ((1<=c.deque/\c.deque<=256)) (fun r0=>jOR 25 rfl<|retT [I 2]<|⟨congrArg (fun z=>Ending.returned (I z)) (by unfold validCfg;rw [if_neg om]),(e0.dropAt 0 rfl)⟩) fun r0=>gOO e0 2 [0] rfl<|gY<|cS (r26_in c.tasks 1 4096 e0.flat) fun _ f0=>pu2<|SD 31 ((1<=c.tasks/\c.tasks<=4096)) (fun t0=>jOR 20 rfl<|retT [I 2]<|⟨congrArg (fun z=>Ending.returned (I z)) (by unfold validCfg;rw [if_neg om]),(f0.dropAt 0 rfl)⟩) fun t0=>gOO f0 2 [0] rfl<|gY<|cS (r26_in c.cells 1 1048576 f0.flat) fun _ g0=>pu2<|SD 36 ((1<=c.cells/\c.cells<=1048576)) (fun v0=>jOR 15 rfl<|retT [I 2]<|⟨congrArg (fun z=>Ending.returned (I z)) (by unfold validCfg;rw [if_neg om]),(g0.dropAt 0 rfl)⟩) fun v0=>gOO g0 2 [0] rfl<|gY<|cS (r26_in c.jobs 1 64 g0.flat) fun _ i0=>jOC 3 rfl<|cD ((1<=c.jobs/\c.jobs<=64)) (fun x0=>jCR 7 rfl<|retT [I 0]<|⟨congrArg (fun z=>Ending.returned (I z)) (by unfold validCfg;rw [if_pos om]),(i0.dropAt 0 rfl)⟩) fun x0=>jCR 8 rfl<|retT [I 2]<|⟨congrArg (fun z=>Ending.returned (I z)) (by unfold validCfg;rw [if_neg om]),(i0.dropAt 0 rfl)⟩
theorem f_new {cs:List Chunk} (c:Cfg) (hv:validCfg c=0) (hS:Sat W w cs):
  Calls prog 15 #[.agg (encCfg c).toArray] w fun e w'=>∃(p:Nat) (M:Chunk),e= .returned (.tuple #[Pt p 0,I 0])/\FarmR p (newF c) M/\Sat W w' (M::cs):=by
 have M0:=validCfg_zero hv
 refine callsK 70 func15 rfl<|jCO 2 rfl<|sBx hS (encCfg c) fun d0 _ j1=>gOO j1 8 [800] rfl<|cS (r26_valid c j1.flat) fun _ u1=>jOC 9 rfl ?_
 have v1:((validCfg c):Int)=0:=hv
 refine cF _ (bne_eq_false_iff_eq.2 v1)<|jCC 3 rfl<|drawF u1 [3,5] (fb 0 0 0 8<|fb 2 0 0 1<|fn) [1,0,2,3,4,5,6] fun _ w1=>wV 1<|wG 0 8<|wL 8<|wO rfl<|sMake (kl:= .i64) (kc:= .i64) (enc:=encWkr) (sz:=7) (nb:=56) w1 ⟨0,0,0,0,0,0,0⟩ (c.workers).toNat c.workers (om:c.workers=(((c.workers).toNat:Nat):Int)) underlying92 (i:=Tryz.t129) kr fR fun a0 c0 _ x1 k1=>nZ k1 [1]<|wV 1<|wO rfl ?_
 refine sBx k1 [I c.workers,I c.tileW,I c.tileH,I c.arena,I c.deque,I c.tasks,I c.cells,I c.jobs, .slice (At a0 0) ((c.workers).toNat) ((c.workers).toNat),nS,nS, .pointer none, .bool false, .bool false,I 0,nS, .pointer none, .bool false, .bool false,I 0,nS, .pointer none, .bool false, .bool false,I 0,nS, .pointer none, .bool false, .bool false,I 0,nS, .pointer none, .bool false, .bool false,I 0,nS, .pointer none, .bool false, .bool false,I 0,nS, .pointer none, .bool false, .bool false,I 0,nS, .pointer none, .bool false, .bool false,I 0,nS, .pointer none, .bool false, .bool false,I 0,nS, .pointer none, .bool false, .bool false,I 0,nS, .pointer none, .bool false, .bool false,I 0,nS, .pointer none, .bool false, .bool false,I 0,nS, .pointer none, .bool false, .bool false,I 0,nS, .pointer none, .bool false, .bool false,I 0,nS, .pointer none, .bool false, .bool false,I 0,nS, .pointer none, .bool false, .bool false,I 0,nS, .pointer none, .bool false, .bool false,I 0,nS, .pointer none, .bool false, .bool false,I 0,nS, .pointer none, .bool false, .bool false,I 0,nS, .pointer none, .bool false, .bool false,I 0,nS, .pointer none, .bool false, .bool false,I 0,nS, .pointer none, .bool false, .bool false,I 0,nS, .pointer none, .bool false, .bool false,I 0,nS, .pointer none, .bool false, .bool false,I 0,nS, .pointer none, .bool false, .bool false,I 0,nS, .pointer none, .bool false, .bool false,I 0,nS, .pointer none, .bool false, .bool false,I 0,nS, .pointer none, .bool false, .bool false,I 0,nS, .pointer none, .bool false, .bool false,I 0,nS, .pointer none, .bool false, .bool false,I 0,nS, .pointer none, .bool false, .bool false,I 0,nS, .pointer none, .bool false, .bool false,I 0,nS, .pointer none, .bool false, .bool false,I 0,nS, .pointer none, .bool false, .bool false,I 0,nS, .pointer none, .bool false, .bool false,I 0,nS, .pointer none, .bool false, .bool false,I 0,nS, .pointer none, .bool false, .bool false,I 0,nS, .pointer none, .bool false, .bool false,I 0,nS, .pointer none, .bool false, .bool false,I 0,nS, .pointer none, .bool false, .bool false,I 0,nS, .pointer none, .bool false, .bool false,I 0,nS, .pointer none, .bool false, .bool false,I 0,nS, .pointer none, .bool false, .bool false,I 0,nS, .pointer none, .bool false, .bool false,I 0,nS, .pointer none, .bool false, .bool false,I 0,nS, .pointer none, .bool false, .bool false,I 0,nS, .pointer none, .bool false, .bool false,I 0,nS, .pointer none, .bool false, .bool false,I 0,nS, .pointer none, .bool false, .bool false,I 0,nS, .pointer none, .bool false, .bool false,I 0,nS, .pointer none, .bool false, .bool false,I 0,nS, .pointer none, .bool false, .bool false,I 0,nS, .pointer none, .bool false, .bool false,I 0,nS, .pointer none, .bool false, .bool false,I 0,nS, .pointer none, .bool false, .bool false,I 0,nS, .pointer none, .bool false, .bool false,I 0,nS, .pointer none, .bool false, .bool false,I 0,nS, .pointer none, .bool false, .bool false,I 0,nS, .pointer none, .bool false, .bool false,I 0,nS, .pointer none, .bool false, .bool false,I 0,nS, .pointer none, .bool false, .bool false,I 0,nS, .pointer none, .bool false, .bool false,I 0,nS, .pointer none, .bool false, .bool false,I 0,nS, .pointer none, .bool false, .bool false,I 0,nS, .pointer none,I 0,I 0,I 0,I 0,I 0,I 0,I 0,I 0,I 0,I 0] ?_
 intro b0 _ l1
 refine nZ l1 [2]<|wV 1<|wN ?_
 have y1:Sat W _ ((Tri b0 101 [I c.workers,I c.tileW,I c.tileH,I c.arena,I c.deque,I c.tasks,I c.cells,I c.jobs, .slice (At a0 0) ((c.workers).toNat) ((c.workers).toNat),nS,nS, .pointer none] ((List.replicate 64 xZ).flatMap encFJob) [I 0,I 0,I 0,I 0,I 0,I 0,I 0,I 0,I 0,I 0])::c0::[(d0, .cells (encCfg c).toArray 24 (0,0))]::cs):=l1
 refine jXC 8 rfl ?_
 have z1:Sat W _ ((Tri b0 101 [I c.workers,I c.tileW,I c.tileH,I c.arena,I c.deque,I c.tasks,I c.cells,I c.jobs, .slice (At a0 0) ((c.workers).toNat) ((c.workers).toNat),nS,nS, .pointer none] ((List.replicate 64 xZ).flatMap encFJob) [I 0,I 0,I 0,I 0,I 0,I 0,I 0,I 0,I 0,I 0])::c0::[(d0, .cells (encCfg c).toArray 24 (0,0))]::([]:Chunk)::([]:Chunk)::([]:List Chunk).flatten::([]:List Chunk).flatten::cs):=Sat.perm (show Sat W _ ((Tri b0 101 [I c.workers,I c.tileW,I c.tileH,I c.arena,I c.deque,I c.tasks,I c.cells,I c.jobs, .slice (At a0 0) ((c.workers).toNat) ((c.workers).toNat),nS,nS, .pointer none] ((List.replicate 64 xZ).flatMap encFJob) [I 0,I 0,I 0,I 0,I 0,I 0,I 0,I 0,I 0,I 0])::c0::[(d0, .cells (encCfg c).toArray 24 (0,0))]::cs) from y1) (by simp)
 refine loopF [1,5] (γ:=Nat×(Option Addr)×Nat×Nat×Chunk×(List Nat)×(List Chunk)×(Option Addr)×Nat×Nat×Chunk×(List Nat)×(List Chunk)) (fun ⟨i,aa,an,ak,ac,ap,A0,da,dn,dk,dc,dp,B0⟩ R=>⟨[(6,I (i:Int))],(Tri b0 101 [I c.workers,I c.tileW,I c.tileH,I c.arena,I c.deque,I c.tasks,I c.cells,I c.jobs, .slice (At a0 0) ((c.workers).toNat) ((c.workers).toNat), .slice aa an ak, .slice da dn dk, .pointer none] ((List.replicate 64 xZ).flatMap encFJob) [I 0,I 0,I 0,I 0,I 0,I 0,I 0,I 0,I 0,I 0])::c0::[(d0, .cells (encCfg c).toArray 24 (0,0))]::ac::dc::A0.flatten::B0.flatten::R,c.workers.toNat-i,(i:Int)<=c.workers/\OwnT encP 102 1 aa an ak ap ac/\OwnT encP 105 1 da dn dk dp dc/\Obs ArR ap (List.replicate i (⟨c.arena,0,0,[]⟩:AS)) A0/\Obs DqR dp (List.replicate i (⟨c.deque,[]⟩:DS)) B0⟩) (0,none,0,0,[],[],[],none,0,0,[],[],[]) ⟨z1,om,OwnT.nil fR,OwnT.nil fR,Obs.nil _,Obs.nil _⟩ ?_
 rintro ⟨i,aa,an,ak,ac,ap,A0,da,dn,dk,dc,dp,B0⟩ ρ _ ⟨u0,hi,C0,D0,E0,F0⟩
 have J0:=C0.ll;have L0:=D0.ll;have G0:=E0.1;have H0:=F0.1;rw [List.length_replicate] at G0 H0
 refine gCC u0 9 [2] rfl<|CD ((i:Int)<c.workers) (fun a2=>gCO u0 10 [2] rfl<|cZ (r24_new c.tasks om u0)<|(by rintro _ _ ⟨v0,m1,rfl,b2,c2⟩;refine pu5<|sTpre c2 1 11 (Pt v0 0) [Pt v0 0] [I c.workers,I c.tileW,I c.tileH,I c.arena,I c.deque,I c.tasks,I c.cells,I c.jobs, .slice (At a0 0) ((c.workers).toNat) ((c.workers).toNat), .slice aa an ak, .slice da dn dk,Pt v0 0] sizeOf95 fun _ d2=>jOR 10 rfl<|retT [Pt b0 0,I 0] ?_;obtain rfl:i=c.workers.toNat:=(by omega);have e2:=((d2.picks [7,7,7,7,6,6]).dropAt 7 rfl);have f2:Sat W _ (((Tri b0 101 (preF c (At a0 0) ((c.workers).toNat) ((c.workers).toNat) aa an ak da dn dk v0) ((List.replicate 64 xZ).flatMap encFJob) [I 0,I 0,I 0,I 0,I 0,I 0,I 0,I 0,I 0,I 0])++(c0++(ac++(dc++(A0.flatten++(B0.flatten++(m1++(List.replicate 64 ([]:Chunk)).flatten)))))))::cs):=Sat.perm (show Sat W _ ((Tri b0 101 (preF c (At a0 0) ((c.workers).toNat) ((c.workers).toNat) aa an ak da dn dk v0) ((List.replicate 64 xZ).flatMap encFJob) [I 0,I 0,I 0,I 0,I 0,I 0,I 0,I 0,I 0,I 0])::c0::ac::dc::A0.flatten::B0.flatten::m1::cs) from e2) (by simp);exact ⟨_,_,rfl,⟨_,_,_,_,_,_,_,_,_,_,_,_,_,_,_,_,_,_,_,_,rfl,x1,C0,D0,E0,F0,b2,obs_zero,rfl⟩,f2⟩)) fun a2=>?_
 refine gCO u0 8 [2] rfl<|cZ (r22_new c.arena om u0) ?_
 rintro _ _ ⟨h0,e0,rfl,x0,n1⟩
 refine gOO n1 11 [3] rfl<|cZ (r23_new c.deque om n1) ?_
 rintro _ _ ⟨f0,g0,rfl,y0,z0⟩
 refine jOC 7 rfl<|drawP [7,8,14,15,18,21] [(5,⟨b0,9,none⟩, .slice aa an ak),(12,⟨b0,10,none⟩, .slice da dn dk)] (pS [0,1,2,3,4,6,9,10,11,13,5,12]<| .fk 7 14 (.fk 8 14 (.ef 14<| .ef 15<|pS [16,17]<| .ef 18<|pS [19,20]<| .ef 21<| .fin) (.ef 8<| .ef 15<|pS [16,17]<| .ef 18<|pS [19,20]<| .ef 21<| .fin)) (.ef 7<| .ef 8<| .ef 15<|pS [16,17]<| .ef 18<|pS [19,20]<| .ef 21<| .fin)) rfl kr ⟨.inr (cell_up z0 2 rfl (k:=9) tri_pre rfl), .inr (cell_up z0 2 rfl (k:=10) tri_pre rfl),trivial⟩ ?_
 have o1:=z0.drew
 refine qV 10<|qLd (.slice aa an ak) 0 isAgg93<|qLd (.slice da dn dk) 1 isAgg94<|qF ?_ ?_
 rotate_left
 ·refine qO rfl<|sBK o1 #[Pt f0 0] 105 fun _ _ a1=>nilO ⟨⟨.inr (cell_up a1 3 rfl (k:=9) tri_pre rfl), .inr (cell_up a1 3 rfl (k:=10) tri_pre rfl),trivial⟩,?_⟩
  refine qO rfl<|sBK a1 #[Pt h0 0] 102 fun _ _ b1=>nilO ⟨⟨.inr (cell_up b1 4 rfl (k:=9) tri_pre rfl), .inr (cell_up b1 4 rfl (k:=10) tri_pre rfl),trivial⟩,?_⟩
  exact qO rfl<|sApp (nb:=8) b1 C0 7 (RdT.blk (enc:=encP) (sz:=1) (xs:=[h0]) fR 1 0 rfl rfl rfl om) underlying93 (i:=Tryz.t102) kr fR fun i0 j0 c1 _ g2 q1=>nilO ⟨⟨dI, .inr (cell_up q1 4 rfl (k:=10) tri_pre rfl),trivial⟩,(qO rfl<|sApp (nb:=8) q1 D0 8 (RdT.blk (enc:=encP) (sz:=1) (xs:=[f0]) fR 1 1 rfl rfl rfl om) underlying94 (i:=Tryz.t105) kr fR fun o0 p0 d1 _ h2 i2=>nilO ⟨dA,(qV 2<|qO rfl<|sTpre i2 4 9 (.slice i0 (an+1) j0) [.slice i0 (an+1) j0] [I c.workers,I c.tileW,I c.tileH,I c.arena,I c.deque,I c.tasks,I c.cells,I c.jobs, .slice (At a0 0) ((c.workers).toNat) ((c.workers).toNat), .slice i0 (an+1) j0, .slice da dn dk, .pointer none] sizeOf93 fun _ j2=>nilO ⟨dA,(qV 2<|qO rfl<|sTpre j2 4 10 (.slice o0 (dn+1) p0) [.slice o0 (dn+1) p0] [I c.workers,I c.tileW,I c.tileH,I c.arena,I c.deque,I c.tasks,I c.cells,I c.jobs, .slice (At a0 0) ((c.workers).toNat) ((c.workers).toNat), .slice i0 (an+1) j0, .slice o0 (dn+1) p0, .pointer none] sizeOf94 fun _ k2=>nilO ⟨dA,(qN<|jXO 4 rfl<|sAdd (i:Int) 1<|jOI 2 rfl<|(by have l2:=((k2.picks [10,4,10,10,10,10,10,10]).drops [8,8]);have m2:Sat W _ ((Tri b0 101 [I c.workers,I c.tileW,I c.tileH,I c.arena,I c.deque,I c.tasks,I c.cells,I c.jobs, .slice (At a0 0) ((c.workers).toNat) ((c.workers).toNat), .slice i0 (an+1) j0, .slice o0 (dn+1) p0, .pointer none] ((List.replicate 64 xZ).flatMap encFJob) [I 0,I 0,I 0,I 0,I 0,I 0,I 0,I 0,I 0,I 0])::c0::[(d0, .cells (encCfg c).toArray 24 (0,0))]::c1::d1::(A0++[e0]).flatten::(B0++[g0]).flatten::cs):=Sat.perm (show Sat W _ ((Tri b0 101 [I c.workers,I c.tileW,I c.tileH,I c.arena,I c.deque,I c.tasks,I c.cells,I c.jobs, .slice (At a0 0) ((c.workers).toNat) ((c.workers).toNat), .slice i0 (an+1) j0, .slice o0 (dn+1) p0, .pointer none] ((List.replicate 64 xZ).flatMap encFJob) [I 0,I 0,I 0,I 0,I 0,I 0,I 0,I 0,I 0,I 0])::c0::[(d0, .cells (encCfg c).toArray 24 (0,0))]::c1::d1::A0.flatten::e0::B0.flatten::g0::cs) from l2) (by simp);exact ⟨(i+1,i0,(an+1),j0,c1,(ap++[h0]),(A0++[e0]),o0,(dn+1),p0,d1,(dp++[f0]),(B0++[g0])),od,alB,m2,om,g2,h2,(by rw [List.replicate_succ'];exact Obs.snoc E0 x0),(by rw [List.replicate_succ'];exact Obs.snoc F0 y0)⟩))⟩)⟩)⟩)⟩
 refine qO rfl<|sBK o1 #[Pt h0 0] 102 fun _ _ w0=>nilO ⟨⟨.inr (cell_up w0 3 rfl (k:=9) tri_pre rfl), .inr (cell_up w0 3 rfl (k:=10) tri_pre rfl),trivial⟩,?_⟩
 refine qF ?_ ?_
 ·exact qO rfl<|sApp (nb:=8) w0 C0 6 (RdT.blk (enc:=encP) (sz:=1) (xs:=[h0]) fR 1 0 rfl rfl rfl om) underlying93 (i:=Tryz.t102) kr fR fun k0 l0 e1 _ n2 r1=>nilO ⟨⟨dI, .inr (cell_up r1 3 rfl (k:=10) tri_pre rfl),trivial⟩,(qO rfl<|sBK r1 #[Pt f0 0] 105 fun _ _ s1=>nilO ⟨⟨dI, .inr (cell_up s1 4 rfl (k:=10) tri_pre rfl),trivial⟩,(qO rfl<|sApp (nb:=8) s1 D0 8 (RdT.blk (enc:=encP) (sz:=1) (xs:=[f0]) fR 1 0 rfl rfl rfl om) underlying94 (i:=Tryz.t105) kr fR fun q0 r0 f1 _ o2 q2=>nilO ⟨dA,(qV 2<|qO rfl<|sTpre q2 4 9 (.slice k0 (an+1) l0) [.slice k0 (an+1) l0] [I c.workers,I c.tileW,I c.tileH,I c.arena,I c.deque,I c.tasks,I c.cells,I c.jobs, .slice (At a0 0) ((c.workers).toNat) ((c.workers).toNat), .slice k0 (an+1) l0, .slice da dn dk, .pointer none] sizeOf93 fun _ r2=>nilO ⟨dA,(qV 2<|qO rfl<|sTpre r2 4 10 (.slice q0 (dn+1) r0) [.slice q0 (dn+1) r0] [I c.workers,I c.tileW,I c.tileH,I c.arena,I c.deque,I c.tasks,I c.cells,I c.jobs, .slice (At a0 0) ((c.workers).toNat) ((c.workers).toNat), .slice k0 (an+1) l0, .slice q0 (dn+1) r0, .pointer none] sizeOf94 fun _ s2=>nilO ⟨dA,(qN<|jXO 4 rfl<|sAdd (i:Int) 1<|jOI 2 rfl<|(by have t2:=((s2.picks [10,4,10,10,10,10,10,10]).drops [8,8]);have u2:Sat W _ ((Tri b0 101 [I c.workers,I c.tileW,I c.tileH,I c.arena,I c.deque,I c.tasks,I c.cells,I c.jobs, .slice (At a0 0) ((c.workers).toNat) ((c.workers).toNat), .slice k0 (an+1) l0, .slice q0 (dn+1) r0, .pointer none] ((List.replicate 64 xZ).flatMap encFJob) [I 0,I 0,I 0,I 0,I 0,I 0,I 0,I 0,I 0,I 0])::c0::[(d0, .cells (encCfg c).toArray 24 (0,0))]::e1::f1::(A0++[e0]).flatten::(B0++[g0]).flatten::cs):=Sat.perm (show Sat W _ ((Tri b0 101 [I c.workers,I c.tileW,I c.tileH,I c.arena,I c.deque,I c.tasks,I c.cells,I c.jobs, .slice (At a0 0) ((c.workers).toNat) ((c.workers).toNat), .slice k0 (an+1) l0, .slice q0 (dn+1) r0, .pointer none] ((List.replicate 64 xZ).flatMap encFJob) [I 0,I 0,I 0,I 0,I 0,I 0,I 0,I 0,I 0,I 0])::c0::[(d0, .cells (encCfg c).toArray 24 (0,0))]::e1::f1::A0.flatten::e0::B0.flatten::g0::cs) from t2) (by simp);exact ⟨(i+1,k0,(an+1),l0,e1,(ap++[h0]),(A0++[e0]),q0,(dn+1),r0,f1,(dp++[f0]),(B0++[g0])),od,alB,u2,om,n2,o2,(by rw [List.replicate_succ'];exact Obs.snoc E0 x0),(by rw [List.replicate_succ'];exact Obs.snoc F0 y0)⟩))⟩)⟩)⟩)⟩)⟩
 refine qO rfl<|sBK w0 #[Pt f0 0] 105 fun _ _ g1=>nilO ⟨⟨.inr (cell_up g1 4 rfl (k:=9) tri_pre rfl), .inr (cell_up g1 4 rfl (k:=10) tri_pre rfl),trivial⟩,?_⟩
 exact qO rfl<|sApp (nb:=8) g1 C0 7 (RdT.blk (enc:=encP) (sz:=1) (xs:=[h0]) fR 1 1 rfl rfl rfl om) underlying93 (i:=Tryz.t102) kr fR fun m0 n0 h1 _ v2 t1=>nilO ⟨⟨dI, .inr (cell_up t1 4 rfl (k:=10) tri_pre rfl),trivial⟩,(qO rfl<|sApp (nb:=8) t1 D0 8 (RdT.blk (enc:=encP) (sz:=1) (xs:=[f0]) fR 1 0 rfl rfl rfl om) underlying94 (i:=Tryz.t105) kr fR fun s0 t0 i1 _ w2 x2=>nilO ⟨dA,(qV 2<|qO rfl<|sTpre x2 4 9 (.slice m0 (an+1) n0) [.slice m0 (an+1) n0] [I c.workers,I c.tileW,I c.tileH,I c.arena,I c.deque,I c.tasks,I c.cells,I c.jobs, .slice (At a0 0) ((c.workers).toNat) ((c.workers).toNat), .slice m0 (an+1) n0, .slice da dn dk, .pointer none] sizeOf93 fun _ y2=>nilO ⟨dA,(qV 2<|qO rfl<|sTpre y2 4 10 (.slice s0 (dn+1) t0) [.slice s0 (dn+1) t0] [I c.workers,I c.tileW,I c.tileH,I c.arena,I c.deque,I c.tasks,I c.cells,I c.jobs, .slice (At a0 0) ((c.workers).toNat) ((c.workers).toNat), .slice m0 (an+1) n0, .slice s0 (dn+1) t0, .pointer none] sizeOf94 fun _ z2=>nilO ⟨dA,(qN<|jXO 4 rfl<|sAdd (i:Int) 1<|jOI 2 rfl<|(by have a3:=((z2.picks [10,4,10,10,10,10,10,10]).drops [8,8]);have b3:Sat W _ ((Tri b0 101 [I c.workers,I c.tileW,I c.tileH,I c.arena,I c.deque,I c.tasks,I c.cells,I c.jobs, .slice (At a0 0) ((c.workers).toNat) ((c.workers).toNat), .slice m0 (an+1) n0, .slice s0 (dn+1) t0, .pointer none] ((List.replicate 64 xZ).flatMap encFJob) [I 0,I 0,I 0,I 0,I 0,I 0,I 0,I 0,I 0,I 0])::c0::[(d0, .cells (encCfg c).toArray 24 (0,0))]::h1::i1::(A0++[e0]).flatten::(B0++[g0]).flatten::cs):=Sat.perm (show Sat W _ ((Tri b0 101 [I c.workers,I c.tileW,I c.tileH,I c.arena,I c.deque,I c.tasks,I c.cells,I c.jobs, .slice (At a0 0) ((c.workers).toNat) ((c.workers).toNat), .slice m0 (an+1) n0, .slice s0 (dn+1) t0, .pointer none] ((List.replicate 64 xZ).flatMap encFJob) [I 0,I 0,I 0,I 0,I 0,I 0,I 0,I 0,I 0,I 0])::c0::[(d0, .cells (encCfg c).toArray 24 (0,0))]::h1::i1::A0.flatten::e0::B0.flatten::g0::cs) from a3) (by simp);exact ⟨(i+1,m0,(an+1),n0,h1,(ap++[h0]),(A0++[e0]),s0,(dn+1),t0,i1,(dp++[f0]),(B0++[g0])),od,alB,b3,om,v2,w2,(by rw [List.replicate_succ'];exact Obs.snoc E0 x0),(by rw [List.replicate_succ'];exact Obs.snoc F0 y0)⟩))⟩)⟩)⟩)⟩
theorem JobM.none {x:FJob} {s:JS} {c:Chunk} (h:JobM x s c) (ha:s.added=false):c=[]:=by
  rcases h with ⟨_,_,h⟩|⟨h,_⟩
  · exact h
  · rw [ha] at h;cases h
theorem f_add {p:Nat} {F:FS} {M:Chunk} {F0:List Chunk} (hR:FarmR p F M) {K:Int} {j:JS} (hF:FW F K) (hst:StOk F.st K) (x:Int) (al:Option Addr) (nl kl:Nat) (l:List Task) (bd:Int) (hl:RdT encTask 9 [H] al nl kl l) (dl:∀z∈l,Task.Ok [H] z) (hx:0<=x/\x<64) (hj:F.jobs[x.toNat]?=some j) (ha:j.added=false) (hb:0<=bd/\bd<4) (hv:validC l=0) (hsc:∀z∈l,z.scratch<=F.cfg.arena) (hct:0<=F.cfg.tasks/\F.cfg.tasks<=4096) (htk:(l.length:Int)<=F.cfg.tasks-loadL F.jobs) (hS:Sat W w (M::H::F0)):
  Calls prog 20 #[Pt p 0,I x, .slice al nl kl,I bd] w fun e w'=>∃M':Chunk,e= .returned (I 0)/\FarmR p (addF F x l bd) M'/\Sat W w' (M'::H::F0):=by
 have I1:=hl.ll
 obtain ⟨wa,aa,da,wn,wk,an,ak,dn,dk,q,xs,ap,dp,Wc,Ac,Dc,Qc,L0,M0,R0,rfl,V0,T0,U0,Z0,s1,hQ,S0,X0⟩:=hR
 have hS:Sat W _ ((Tri p 101 (preF F.cfg wa wn wk aa an ak da dn dk q) (xs.flatMap encFJob) (encStt F.st))::Wc::Ac::Dc::L0.flatten::M0.flatten::Qc::R0.flatten::H::F0):=Sat.perm hS (by simp [Value.cells])
 have i2:=V0.ll;have L1:=T0.ll;have O1:=U0.ll;have B1:=Z0.1;have E1:=s1.1;have G1:=S0.1
 have A1:=hF.al;have D1:=hF.dl;have F1:=hF.jl;have S1:=hF.n;have P1:=hF.k;have T1:=hst.a;have U1:=hst.b;have V1:=hst.c;have W1:=hst.d;have X1:=hst.e;have Y1:=hst.f;have Z1:=hst.g
 have H1:∀j∈F.jobs,j.tasks.length<=4096:=fun j hj=>(hF.j j hj).n;have Q1:0<=loadL F.jobs:=Int.natCast_nonneg _;have W0:=validC_zero hv;have R1:=W0.2.1;have M1:=hct.1
 refine callsK 120 func20 rfl<|jCO 10 rfl<|cZ (f_zero om hS) ?_
 rintro _ _ ⟨rfl,x0⟩
 refine jOO 9 rfl<|sD 22 (x<0) (fun k1=>jOR 15 rfl<|retT [I 16]<|(by omega)) fun k1=>jOC 6 rfl<|cD (x>=64) (fun l1=>jCR 8 rfl<|retT [I 16]<|(by omega)) fun l1=>jCO 6 rfl ?_
 obtain ⟨h0,i0⟩:=at_some X0 (k:=(x.toNat)) om
 obtain ⟨y0,v3,z0,a1,b1⟩:=Obs.get S0 i0;obtain ⟨m1,w3,x3,y3⟩:=b1.fields;have z3:=hF.j y0 (List.mem_of_getElem? z0)
 obtain rfl:y0=j:=Option.some.inj (z0.symm.trans hj);have J1:¬h0.added=true:=by rw [m1,ha];decide
 have C1:=b1.none ha;subst C1
 refine sIdxA (b:=p) (off:=12) x (x.toNat) runUnderlying99 sizeOf98<|pu1<|sMp x0 (ptr_up 0 rfl (tri_el (sz:=5) (n0:=12) fR i0)) 0 (.bool h0.added)<|jOC 3 rfl ?_
 have n1:¬(h0.added=true):=J1
 refine cF _ (Bool.eq_false_iff.2 n1)<|jCO 5 rfl<|sD 37 (bd<0) (fun o1=>jOR 15 rfl<|retT [I 2]<|(by omega)) fun o1=>jOC 6 rfl<|cD (bd>=4) (fun q1=>jCR 8 rfl<|retT [I 2]<|(by omega)) fun q1=>jCO 6 rfl<|cZ (r25_new al nl kl l (hl.fl 8) (fun z hz=>(dl z hz).of_mem (mF 8)) x0.flat) ?_
 rintro _ _ (⟨r0,rfl,s0⟩|⟨r0,b0,e0,rfl,c1,s0⟩)
 · exact (by have b4:=s0.unflat;exact jOC 14 rfl<|(by have r1:¬(((validC l):Int)=0):=r0;exact cT _ (bne_iff_ne.2 r1)<|jCR 8 rfl<|retT [I (validC l)]<|absurd hv r0))
 refine jOO 22 rfl<|sAlloc s0.unflat1 zeroValue98 fun f0 _ t1=>sTk t1 0 rfl [.bool true, .bool true,I bd,nS,Pt b0 0] fun _ u1=>jOC 9 rfl<|loopF [0,1,2,3,9,11] (γ:=Nat×(List Task)×(Option Addr)×Nat×Nat×Chunk×Chunk) (fun ⟨i,zs,B0,A0,C0,J0,D0⟩ R=>⟨[(12,I (i:Int))],D0::J0::[(f0, .cells #[.bool true, .bool true,I bd, .slice B0 A0 C0,Pt b0 0] 98 (0,0))]::R,nl-i,i<=nl/\(zs.map Task.v=(l.take i).map Task.v)/\(zs.length=i)/\OwnT encTask 51 9 B0 A0 C0 zs J0/\(∀z∈zs,Task.Ok [D0] z)⟩) (0,[],none,0,0,[],[]) ⟨(Sat.nilc (Sat.nilc u1)),om,rfl,rfl,(OwnT.nil (enc:=encTask) (E:=51) (sz:=9) fR),(by intro z hz;cases hz)⟩ ?_
 rintro ⟨i,zs,B0,A0,C0,J0,D0⟩ ρ _ ⟨g0,hi,Y0,r2,K0,O0⟩
 have w1:=K0.ll
 refine jCC 9 rfl<|cD ((i:Int)<(nl:Int)) (fun y1=>?_) (fun y1=>?_)
 ·refine jCC 6 rfl ?_
  obtain ⟨a0,z1,a2,c0,b2,c2⟩:=RdT.eN hl i
  have G0:=hsc a0 (List.mem_of_getElem? c0);have H0:=(dl a0 (List.mem_of_getElem? c0)).deps.len;have I0:=(dl a0 (List.mem_of_getElem? c0)).deps.le;have E0:=asc_len om (taskOK_asc (tasksOK_at W0.2.2 c0))
  refine drawE [] [(4,⟨z1,a2+8,none⟩,I a0.scratch),(9,⟨p,3,none⟩,I F.cfg.arena)] [(true,[0,1]),(true,[2]),(true,[3,5,6,7,8]),(true,[4]),(true,[9]),(true,[10])] rfl kr ⟨.inr ((b2.up 12 rfl).cell g0 (k:=8) rfl), .inr (cell_up g0 4 rfl (k:=3) tri_pre rfl),trivial⟩ ?_
  have d1:=g0.drew
  refine wU [0,1]<|wI c2<|wU [3,5,6,7,8]<|wLd (I a0.scratch) 0 isAgg3<|wLd (I F.cfg.arena) 1 isAgg3<|wU [10]<|wN<|jXC 1 rfl<|cD (a0.scratch>F.cfg.arena) (fun d2=>jCR 12 rfl<|retT [I 12]<|(by omega)) fun d2=>jCO 6 rfl<|sIN hl i fun e2 _ _ d0 f2=>?_
  obtain rfl:a0=e2:=Option.some.inj (c0.symm.trans d0)
  have G0:=hsc a0 (List.mem_of_getElem? d0);have H0:=(dl a0 (List.mem_of_getElem? d0)).deps.len;have I0:=(dl a0 (List.mem_of_getElem? d0)).deps.le;have E0:=asc_len om (taskOK_asc (tasksOK_at W0.2.2 d0))
  refine sMA d1 (f2.up 12 rfl) 0 (encTask a0)<|sAlloc d1 zeroValue51 fun _ _ g2=>sTk g2 0 rfl (encTask a0) fun _ e1=>gOO e1 6 [0] rfl<|sApp (nb:=8) (Sat.nilc e1) (OwnT.nil (enc:=Go.E.encI) (E:=3) (sz:=1) fR) 0 ((dl a0 (List.mem_of_getElem? d0)).deps.up 14 rfl) underlying22 (i:=Tryz.t3) kr fR fun j0 k0 l0 _ j2 k2=>pu1<|tWk k2 1 rfl 6 (.slice j0 (0+a0.deps.n) k0) fun _ f1=>gOO f1 6 [4,901] rfl<|sBK f1 #[I a0.stage,I a0.part,I a0.rectX0,I a0.rectY0,I a0.rectX1,I a0.rectY1, .slice j0 (0+a0.deps.n) k0,I a0.rows,I a0.scratch] 51 fun _ _ l2=>sApp (nb:=88) l2 K0 4 (RdT.blk (enc:=encTask) (sz:=9) (xs:=[(⟨a0.stage,a0.part,a0.rectX0,a0.rectY0,a0.rectX1,a0.rectY1,⟨j0,(0+a0.deps.n),k0,([]++a0.deps.l)⟩,a0.rows,a0.scratch⟩:Task)]) fR 1 0 rfl rfl rfl om) underlying45 (i:=Tryz.t51) kr fR fun m0 o0 t0 _ m2 n2=>pu1<|tWk n2 5 rfl 3 (.slice m0 (A0+1) o0) fun _ o2=>jOO 5 rfl<|sAdd (i:Int) 1<|jOI 2 rfl ?_
  have q2:=(o2.drops [0,1])
  exact ⟨(i+1,(zs++[(⟨a0.stage,a0.part,a0.rectX0,a0.rectY0,a0.rectX1,a0.rectY1,⟨j0,(0+a0.deps.n),k0,([]++a0.deps.l)⟩,a0.rows,a0.scratch⟩:Task)]),m0,(A0+1),o0,t0,(l0++D0)),od,alB,(Sat.perm (cs':=(l0++D0)::(t0::[(f0, .cells #[.bool true, .bool true,I bd, .slice m0 (A0+1) o0,Pt b0 0] 98 (0,0))]::e0::(Tri p 101 (preF F.cfg wa wn wk aa an ak da dn dk q) (xs.flatMap encFJob) (encStt F.st))::Wc::Ac::Dc::L0.flatten::M0.flatten::Qc::R0.flatten::H::F0)) (show Sat W _ (l0::D0::t0::[(f0, .cells #[.bool true, .bool true,I bd, .slice m0 (A0+1) o0,Pt b0 0] 98 (0,0))]::e0::(Tri p 101 (preF F.cfg wa wn wk aa an ak da dn dk q) (xs.flatMap encFJob) (encStt F.st))::Wc::Ac::Dc::L0.flatten::M0.flatten::Qc::R0.flatten::H::F0) from q2) (by simp)),om,(by rw [List.map_append,Y0,take_succ_at c0,List.map_append];rfl),by first|omega|(simp;omega),m2,(by
    intro z hz
    rcases List.mem_append.1 hz with h|h
    ·exact (O0 z h).of_mem mS
    ·simp only [List.mem_singleton] at h;subst h;exact ⟨(j2.rdAt (cs:=[l0]) 0 rfl).of_mem mS⟩)⟩
 refine jCC 7 rfl<|drawE [8] [(6,⟨p,5,none⟩,I F.cfg.tasks)] [(true,[0,1,2,3,4,5,7]),(true,[6]),(false,[8]),(true,[9]),(true,[10])] rfl kr ⟨.inr (cell_up g0 4 rfl (k:=5) tri_pre rfl),trivial⟩ ?_
 have s2:=g0.drew
 refine wU [0,1,2,3,4,5,7]<|wLd (I F.cfg.tasks) 0 isAgg3<|wO rfl ?_
 have t2:=(s2.pick 4 rfl)
 refine cZ (f_load S0 X0 H1 t2) ?_
 rintro _ _ ⟨rfl,g1⟩
 refine nilO ⟨⟨.inr (cell_up g1 0 rfl (k:=5) tri_pre rfl),trivial⟩,?_⟩
 refine wSub F.cfg.tasks (loadL F.jobs)<|wU [10]<|wN<|jXC 1 rfl<|cD ((nl:Int)>(F.cfg.tasks-(loadL F.jobs))) (fun u2=>jCR 7 rfl<|retT [I 13]<|(by omega)) fun u2=>jCC 3 rfl<|drawF g1 [6] (fb 2 3 0 5<|fn) [0,1,3,4,2,5,6] fun _ v2=>wV 4<|wG 0 5<|wY (.pointer (some ⟨p,12+(x.toNat)*5,none⟩)) rfl (fun w _=>Y_idxA (b:=p) (off:=12) x (x.toNat) runUnderlying99 sizeOf98)<|wO rfl<|sTel (enc:=encFJob) (sz:=5) v2 fR 0 (x.toNat) 12 0 h0 (⟨true,true,bd,⟨B0,A0,C0,zs⟩,some ⟨b0,0,none⟩⟩:FJob) i0 (.agg #[.bool true, .bool true,I bd, .slice B0 A0 C0,Pt b0 0]) [.bool true, .bool true,I bd, .slice B0 A0 C0,Pt b0 0] sizeOf98 fun _ w2=>nA<|wN<|jXO 4 rfl ?_
 have x2:=(w2.pick 4 rfl)
 refine cZ (r_ready c1 (new_wf hv) x2.flat1) ?_
 rintro _ _ ⟨_,u0,_,v0,rfl,w0,y2⟩
 have z2:=y2.unflat2;have Q0:=w0.ll
 refine jOC 10 rfl<|loopF [0,1,3,14] (γ:=Nat×QS×Chunk) (fun ⟨i,qi,N0⟩ R=>⟨[(15,I (i:Int))],v0::e0::(Tri p 101 (preF F.cfg wa wn wk aa an ak da dn dk q) ((xs.set (x.toNat) (⟨true,true,bd,⟨B0,A0,C0,zs⟩,some ⟨b0,0,none⟩⟩:FJob)).flatMap encFJob) (encStt F.st))::D0::J0::[(f0, .cells #[.bool true, .bool true,I bd, .slice B0 A0 C0,Pt b0 0] 98 (0,0))]::Wc::Ac::Dc::L0.flatten::M0.flatten::N0::R,u0-i,i<=u0/\(InjR q qi N0)/\(qi=readyQ x bd F.q ((idxOf 2 0 (newB l).st).take i))⟩) (0,F.q,Qc) ⟨z2,om,hQ,rfl⟩ ?_
 rintro ⟨i,qi,N0⟩ ρ _ ⟨p0,hi,v1,x1⟩
 refine jCC 9 rfl<|cD ((i:Int)<(u0:Int)) (fun a3=>jCC 4 rfl<|(by obtain ⟨q0,b3,c3,h1,i1,d3⟩:=RdT.eN w0 i;refine drawE [11] [(3,⟨p,11,none⟩,Pt q 0),(8,⟨b3,c3,none⟩,I q0)] [(true,[0,1,2,4,5,6]),(true,[7]),(true,[10]),(true,[3]),(true,[8]),(true,[9]),(false,[11])] rfl kr ⟨.inr (cell_up p0 2 rfl (k:=11) tri_pre rfl), .inr ((i1.up 0 rfl).cell p0 (k:=0) rfl),trivial⟩ ?_;have e3:=p0.drew;refine wU [0,1,2,4,5,6]<|wI d3<|wU [10]<|wLd (Pt q 0) 0 isAgg95<|wLd (I q0) 1 isAgg3<|wU [9]<|wO rfl ?_;have f3:=(e3.pick 11 rfl);refine cZ (iq_push v1 (⟨x,q0⟩:Ref) bd om f3.flat1) ?_;rintro _ _ ⟨g3,rfl,h3,i3⟩;have j1:=i3.unflat1;exact nilO ⟨⟨dI, .inr ((i1.up 1 rfl).cell j1 (k:=0) rfl),trivial⟩,(wN<|jXO 4 rfl<|sAdd (i:Int) 1<|jOI 2 rfl<|⟨(i+1,(pushQ qi (⟨x,q0⟩:Ref) bd),g3),od,alB,(j1.picks [11,11,11,11,11,11,11,11,11,11,11]),om,h3,(by rw [ready_take h1,<-x1])⟩)⟩)) fun a3=>?_
 refine jCR 11 rfl<|retT [I 0] ?_
 have k3:=(p0.pick 12 rfl)
 have l3:=Sat.openN (A:=[]) (x.toNat) a1 k3
 have m3:=(l3.picks [1,1,3,6,6])
 have n3:Sat W _ (((D0++J0)++e0)::(R0.eraseIdx (x.toNat)).flatten::v0::(Tri p 101 (preF F.cfg wa wn wk aa an ak da dn dk q) ((xs.set (x.toNat) (⟨true,true,bd,⟨B0,A0,C0,zs⟩,some ⟨b0,0,none⟩⟩:FJob)).flatMap encFJob) (encStt F.st))::[(f0, .cells #[.bool true, .bool true,I bd, .slice B0 A0 C0,Pt b0 0] 98 (0,0))]::Wc::Ac::Dc::L0.flatten::M0.flatten::N0::H::F0):=Sat.perm (show Sat W _ (D0::J0::e0::[]::(R0.eraseIdx (x.toNat)).flatten::v0::(Tri p 101 (preF F.cfg wa wn wk aa an ak da dn dk q) ((xs.set (x.toNat) (⟨true,true,bd,⟨B0,A0,C0,zs⟩,some ⟨b0,0,none⟩⟩:FJob)).flatMap encFJob) (encStt F.st))::[(f0, .cells #[.bool true, .bool true,I bd, .slice B0 A0 C0,Pt b0 0] 98 (0,0))]::Wc::Ac::Dc::L0.flatten::M0.flatten::N0::H::F0) from m3) (by simp [Value.cells])
 have o3:=Sat.shutN (d:=(D0++J0)++e0) (A:=[]) (x.toNat) a1 n3
 rw [List.take_of_length_le om] at Y0
 have q3:=Obs.set3 (p':=(⟨true,true,bd,⟨B0,A0,C0,zs⟩,some ⟨b0,0,none⟩⟩:FJob)) S0 i0 (JobM.mk (s:=jobN l bd) (T:=(D0++J0)) rfl ((K0.rdAt (cs:=[D0,J0]) 1 rfl).of_mem (fun p hp=>by simp at hp⊢;exact hp)) (fun z hz=>(O0 z hz).of_mem mS) Y0 c1)
 have r3:=((o3.picks [9,9,9,9,9,9,8]).drops [8,8])
 have s3:=(r3.merge8)
 have he:addF F x l bd=(⟨F.cfg,F.ws,F.ar,F.dq,qi,(F.jobs.set (x.toNat) (jobN l bd)),F.st⟩:FS):=by unfold addF;rw [x1,List.take_of_length_le om]
 exact ⟨_,rfl,by rw [he];exact ⟨_,_,_,_,_,_,_,_,_,_,_,_,_,_,_,_,_,_,_,_,rfl,V0,T0,U0,Z0,s1,v1,q3,(set_len X0)⟩,s3⟩
end Go.Proofs.YtkadmghedmodbaaGreat

namespace Go.Proofs.YtkadmghedmodbaaGreat
open Go Go.E Go.Proofs.Tryz
set_option linter.all false
set_option maxRecDepth 100000
set_option maxHeartbeats 2000000
variable {W w:World} {H:Chunk} {F:List Chunk}
theorem pf_workers {p:Nat} {F:FS} {M:Chunk} {F0:List Chunk} (hR:FarmP p F M) {K:Int} (hF:FI F K) (hS:Sat W w (M::H::F0)):
  Calls prog 84 #[Pt p 0] w fun e w'=>∃(az:Option Addr) (nz kz:Nat) (Z:Chunk),e= .returned (.slice az nz kz)/\OwnT encWkr 129 7 az nz kz F.ws Z/\Sat W w' (Z::M::H::F0):=by
 obtain ⟨wb,wo,wn,wk,q,m,xs,jm,Wc,Qc,Jc,L0,M0,W0,rfl,D0,J0,C0,P0,hQ,hM,Q0⟩:=hR
 have o0:Sat W _ ((Tri p 83 (preP F.cfg wb wo wn wk q m) (([]:List Ref).flatMap encRef) (encStt F.st))::Wc::L0.flatten::M0.flatten::Qc::Jc::W0.flatten::H::F0):=Sat.perm hS (by simp)
 have C1:=D0.ll;have Y0:=core_len J0;have E0:=C0.1;have G0:=P0.1;rw [List.length_map] at E0 G0;have T0:=Q0.l
 have g1:=hF.st.a;have n1:=hF.st.b;have w1:=hF.st.c;have x1:=hF.st.d;have y1:=hF.st.e;have z1:=hF.st.f;have A1:=hF.st.g;have X0:=hF.fw.k;have Z0:=hF.fw.n;have R0:=hF.fw.al;have S0:=hF.fw.dl;have U0:=hF.fw.jl
 refine callsK 54 func84 rfl<|jCO 9 rfl<|cZ (p_empty ⟨om,om⟩ o0) ?_
 rintro _ _ ⟨rfl,n0⟩
 refine jOO 16 rfl<|sMp n0 (ptr_up 0 rfl tri_pre) 8 (.slice (some ⟨wb,wo,none⟩) wn wk)<|jOC 5 rfl<|loopF [0,12] (γ:=Nat×(List Wkr)×SO) (fun ⟨i,zs,t0,q0,A0,B0⟩ R=>⟨[(13,I (i:Int)),(3, .slice t0 q0 A0)],B0::R,wn-i,i<=wn/\(zs=F.ws.take i)/\(zs.length<=i)/\OwnT encWkr 129 7 t0 q0 A0 zs B0⟩) (0,[],none,0,0,[]) ⟨(Sat.nilc n0),om,rfl,(by simp),(OwnT.nil (enc:=encWkr) (E:=129) (sz:=7) fR)⟩ ?_
 rintro ⟨i,zs,t0,q0,A0,B0⟩ ρ _ ⟨i0,hi,hz,D1,p0⟩
 have K0:=p0.ll
 refine jCC 6 rfl<|CD ((i:Int)<(wn:Int)) (fun r0=>jCR 12 rfl<|retT [.slice t0 q0 A0]<|(by have V0:zs=F.ws:=(by rw [hz,List.take_of_length_le om]);have I0:=p0;rw [V0] at I0;have s0:=(i0.picks [7,7,7,7,7,7,7]);exact ⟨_,_,_,_,rfl,I0,((s0.merge7).pick 1 rfl)⟩)) fun r0=>jCO 15 rfl<|sMp i0 (ptr_up 1 rfl tri_pre) 8 (.slice (some ⟨wb,wo,none⟩) wn wk)<|pu1<|sIO D0 (i:Int) i fun f0 _ _ j0 a0 u0=>?_
 obtain ⟨rfl,rfl⟩:=some_addr u0
 obtain ⟨v0,k0,w0,x0,y0,z0,a1⟩:=core_at J0 j0
 refine jOC 3 rfl<|drawF i0 [21,26,28,29] (fq 4 0 (a0.up 2 rfl)<|fq 8 1 (a0.up 2 rfl)<|fq 8 2 (a0.up 2 rfl)<|fq 12 3 (a0.up 2 rfl)<|fq 16 4 (a0.up 2 rfl)<|fq 20 5 (a0.up 2 rfl)<|fq 25 5 (a0.up 2 rfl)<|fn) [0,1,2,3,5,6,7,9,10,11,13,14,15,17,18,19,22,23,24,4,8,12,16,20,25,21,26,27,28,29,30] fun _ b1=>wV 19<|wL 0<|wG 1 2<|wL 3<|wL 4<|wL 5<|wL 6<|wO rfl ?_
 obtain ⟨g0,c1,d1,l0,e1⟩:=Obs.get C0 (map_at' j0)
 have f1:=(b1.pick 3 rfl)
 refine cZ (pa_used e1 (Sat.flat1 (Sat.openN (A:=[]) i l0 f1))) ?_
 rintro _ _ ⟨rfl,h1⟩
 have i1:=h1.unflat1
 have j1:=(i1.picks [1,1])
 have b0:=Sat.shutN (d:=c1) (A:=[]) i l0 j1
 rw [set_same l0] at b0
 refine nilO ⟨⟨.inr ((a0.up 3 rfl).cell b0 (k:=0) rfl), .inr ((a0.up 3 rfl).cell b0 (k:=1) rfl), .inr ((a0.up 3 rfl).cell b0 (k:=2) rfl), .inr ((a0.up 3 rfl).cell b0 (k:=3) rfl), .inr ((a0.up 3 rfl).cell b0 (k:=4) rfl),dI, .inr ((a0.up 3 rfl).cell b0 (k:=5) rfl),trivial⟩,?_⟩
 refine wO rfl ?_
 obtain ⟨h0,k1,l1,m0,m1⟩:=Obs.get C0 (map_at' j0)
 refine cZ (pa_high m1 (Sat.flat1 (Sat.openN (A:=[]) i m0 b0))) ?_
 rintro _ _ ⟨rfl,o1⟩
 have q1:=o1.unflat1
 have r1:=(q1.picks [1,1])
 have c0:=Sat.shutN (d:=k1) (A:=[]) i m0 r1
 rw [set_same m0] at c0
 exact nilO ⟨⟨.inr ((a0.up 3 rfl).cell c0 (k:=0) rfl), .inr ((a0.up 3 rfl).cell c0 (k:=1) rfl), .inr ((a0.up 3 rfl).cell c0 (k:=2) rfl), .inr ((a0.up 3 rfl).cell c0 (k:=3) rfl), .inr ((a0.up 3 rfl).cell c0 (k:=4) rfl),dI,dI,trivial⟩,(wV 1<|wO rfl<|sBK c0 (encWkr {f0 with used:=(g0).used,high:=(h0).high}).toArray 129 fun _ _ d0=>nilO ⟨⟨.inr ((a0.up 4 rfl).cell d0 (k:=0) rfl), .inr ((a0.up 4 rfl).cell d0 (k:=1) rfl), .inr ((a0.up 4 rfl).cell d0 (k:=2) rfl), .inr ((a0.up 4 rfl).cell d0 (k:=3) rfl), .inr ((a0.up 4 rfl).cell d0 (k:=4) rfl),dI,dI,trivial⟩,(wO rfl<|sApp (nb:=56) d0 p0 2 (RdT.blk (enc:=encWkr) (sz:=7) (xs:=[({f0 with used:=(g0).used,high:=(h0).high}:Wkr)]) fR 1 0 rfl rfl rfl om) underlying92 (i:=Tryz.t129) kr fR fun s1 t1 u1 _ v1 e0=>nilO ⟨⟨.inr ((a0.up 4 rfl).cell e0 (k:=0) rfl), .inr ((a0.up 4 rfl).cell e0 (k:=1) rfl), .inr ((a0.up 4 rfl).cell e0 (k:=2) rfl), .inr ((a0.up 4 rfl).cell e0 (k:=3) rfl), .inr ((a0.up 4 rfl).cell e0 (k:=4) rfl),dI,dI,trivial⟩,(wV 1<|wN<|jXO 3 rfl<|sAdd (i:Int) 1<|jOI 2 rfl<|(by have O0:=hF.a.a _ _ _ k0 l1;have N0:=hF.a.a _ _ _ k0 d1;have H0:({f0 with used:=(g0).used,high:=(h0).high}:Wkr)=v0:=wkr_eq w0 x0 y0 z0 a1 N0.u.symm O0.h.symm;exact ⟨(i+1,(zs++[({f0 with used:=(g0).used,high:=(h0).high}:Wkr)]),s1,(q0+1),t1,u1),od,alB,((e0.picks [4,4,4]).dropAt 3 rfl),om,(by rw [H0,hz,take_succ_at k0]),(by first|omega|(simp;omega)),v1⟩))⟩)⟩)⟩
theorem pf_stats {p:Nat} {F:FS} {M:Chunk} {F0:List Chunk} (hR:FarmP p F M) {K:Int} (hF:FI F K) (hsb:F.st.held=0) (hS:Sat W w (M::H::F0)):
  Calls prog 36 #[Pt p 0] w fun e w'=>e= .returned (.agg (encStt (statsF F)).toArray)/\Sat W w' (M::H::F0):=by
 obtain ⟨wb,wo,wn,wk,q,m,xs,jm,Wc,Qc,Jc,J0,K0,R0,rfl,B0,G0,L0,E0,hQ,hM,M0⟩:=hR
 have q0:Sat W _ ((Tri p 83 (preP F.cfg wb wo wn wk q m) (([]:List Ref).flatMap encRef) (encStt F.st))::Wc::J0.flatten::K0.flatten::Qc::Jc::R0.flatten::H::F0):=Sat.perm hS (by simp)
 have w1:=B0.ll;have T0:=core_len G0;have C0:=L0.1;have D0:=E0.1;rw [List.length_map] at C0 D0;have P0:=M0.l
 have X0:=hF.st.a;have Y0:=hF.st.b;have Z0:=hF.st.c;have m1:=hF.st.d;have o1:=hF.st.e;have q1:=hF.st.f;have r1:=hF.st.g;have S0:=hF.fw.k;have V0:=hF.fw.n;have N0:=hF.fw.al;have O0:=hF.fw.dl;have Q0:=hF.fw.jl
 have u1:=hF.q.small hF.fw;have s1:=load_max hF.fw;have t1:0<=totB F.q.bs:=by unfold totB;exact Int.natCast_nonneg _
 refine callsK 50 func36 rfl<|jCO 2 rfl<|sAlloc q0 zeroValue67 fun _ _ r0=>jOO 6 rfl ?_
 have s0:=(r0.pick 1 rfl)
 refine cZ (p_empty ⟨om,om⟩ s0) ?_
 rintro _ _ ⟨rfl,h0⟩
 refine jOO 10 rfl<|sMA h0 (ptr_up 0 rfl (tri_post (k:=11) (tri_len (sz:=2) (m:=11) fR (rfl:([]:List Ref).length=0)))) 0 (encStt F.st)<|sAlloc h0 zeroValue67 fun t0 _ u0=>sTk u0 0 rfl (encStt F.st) fun _ i0=>jOO 7 rfl<|sMp i0 (ptr_up 1 rfl tri_pre) 9 (Pt q 0) ?_
 have v0:=(i0.pick 6 rfl)
 refine cZ (pq_len hQ v0.flat1) ?_
 rintro _ _ ⟨rfl,w0⟩
 refine pu1<|tWk w0.unflat1 1 rfl 7 (I (totB F.q.bs)) fun _ j0=>jOO 8 rfl<|sMp j0 (ptr_up 2 rfl tri_pre) 8 (.slice (some ⟨wb,wo,none⟩) wn wk)<|jOC 5 rfl<|loopF [0,2,3,23] (γ:=Nat×Int×Int) (fun ⟨i,qd,hd⟩ R=>⟨[(24,I (i:Int))],Qc::[(t0, .cells #[I F.st.starts,I F.st.commits,I F.st.drops,I F.st.crashes,I F.st.steals,I F.st.helps,I F.st.spills,I qd,I hd,I F.st.cells] 67 (0,0))]::R,wn-i,i<=wn/\(qd=totB F.q.bs+sumD (F.dq.take i))/\(hd=F.st.held+heldN (F.ws.take i))/\(0<=qd/\qd<=4611686018427387904+256*i)/\(hd<=4611686018427387904+i/\-4611686018427387904<=hd)⟩) (0,(totB F.q.bs),F.st.held) ⟨j0,om,(by simp [sumD]),(by simp [heldN]),om,om⟩ ?_
 rintro ⟨i,qd,hd⟩ ρ _ ⟨a0,hi,I0,H0,W0,U0⟩
 refine jCC 6 rfl<|CD ((i:Int)<(wn:Int)) (fun y0=>gCO a0 8 [1001] rfl<|sTk a0 3 rfl [I F.st.starts,I F.st.commits,I F.st.drops,I F.st.crashes,I F.st.steals,I F.st.helps,I F.st.spills,I qd,I hd,I F.st.cells] fun _ k0=>jOR 3 rfl<|retN (vs:=[.agg #[I F.st.starts,I F.st.commits,I F.st.drops,I F.st.crashes,I F.st.steals,I F.st.helps,I F.st.spills,I qd,I hd,I F.st.cells]]) rfl (.cons (.cell _ _ _ _ kr (lvA k0 3 0 [I F.st.starts,I F.st.commits,I F.st.drops,I F.st.crashes,I F.st.steals,I F.st.helps,I F.st.spills,I qd,I hd,I F.st.cells] (isAgg67 _) (sizeOf67 _) rfl rfl rfl)) .nil)<|(by have z0:=((k0.picks [6,6,6,5]).drops [5,5]);have a1:=(z0.merge7);rw [List.take_of_length_le om] at I0 H0;exact ⟨by rw [I0,H0];rfl,a1⟩)) fun y0=>jCO 15 rfl<|sMp a0 (ptr_up 2 rfl tri_pre) 8 (.slice (some ⟨wb,wo,none⟩) wn wk)<|pu1<|sIO B0 (i:Int) i fun c0 _ _ l0 m0 b1=>?_
 obtain ⟨rfl,rfl⟩:=some_addr b1
 obtain ⟨n0,d0,b2,c2,d2,e2,f2⟩:=core_at G0 l0
 refine jOC 4 rfl<|drawF a0 [6,9] (fb 1 1 7 1<|fq 5 6 (m0.up 4 rfl)<|fn) [0,2,3,4,1,5,6,7,8,9] fun _ c1=>wV 4<|wL 0<|wL 1<|wO rfl ?_
 obtain ⟨b0,d1,o0,e0,p0⟩:=Obs.get E0 (map_at' l0)
 have e1:=(c1.pick 6 rfl)
 have f1:=Sat.openN (A:=[]) i e0 e1
 have A0:=DqP.bd p0
 refine cZ (pd_len p0 f1.flat1) ?_
 rintro _ _ ⟨rfl,g1⟩
 have h1:=g1.unflat1
 have i1:=(h1.picks [1,1])
 have f0:=Sat.shutN (d:=d1) (A:=[]) i e0 i1
 rw [set_same e0] at f0
 refine nZ f0 [2]<|wAdd qd (((b0).l.length:Nat):Int)<|wV 1<|wO rfl<|tWk f0 2 rfl 7 (I (qd+(((b0).l.length:Nat):Int))) fun _ j1=>nA<|wN<|jXO 4 rfl ?_
 have k1:=(j1.pick 5 rfl)
 refine cZ (p_holds (x:=c0) m0 k1) ?_
 rintro _ _ ⟨rfl,g0⟩
 refine jOC 2 rfl<|CD (c0.phase≠0/\c0.phase≠4) (fun l1=>jCO 4 rfl<|sAdd (i:Int) 1<|jOI 2 rfl<|(by have x0:holdsB n0=false:=(by unfold holdsB;exact decide_eq_false om);exact ⟨(i+1,(qd+(((b0).l.length:Nat):Int)),hd),od,alB,(g0.picks [6,1,6,6,6,6]),om,(by rw [sumD_take o0];omega),(by rw [heldN_take d0,x0];simp;omega),om,om⟩)) fun l1=>gCO g0 3 [3] rfl<|sAdd hd 1<|pu1<|tWk g0 3 rfl 8 (I (hd+1)) fun _ n1=>jOO 4 rfl<|sAdd (i:Int) 1<|jOI 2 rfl ?_
 have x0:holdsB n0=true:=by unfold holdsB;exact decide_eq_true (by have:=fun h=>(hF.h.z _ _ d0 h).2.2.2.2;unfold Holds at this;omega)
 exact ⟨(i+1,(qd+(((b0).l.length:Nat):Int)),(hd+1)),od,alB,(n1.picks [6,1,6,6,6,6]),om,(by rw [sumD_take o0];omega),(by rw [heldN_take d0,x0];simp;omega),om,om⟩
def newBV (l:List TaskV):BS:=⟨l.map (·.deps),l.map (fun t=>st0 t.deps),l.map (fun _=>0)⟩
def addV (F:FS) (x:Int) (l:List TaskV) (bd:Int):FS:={F with jobs:=F.jobs.set x.toNat ⟨true,true,bd,l,newBV l⟩,q:=readyQ x bd F.q (idxOf 2 0 (newBV l).st)}
def addedN (F:FS):Nat:=((shapeF F.jobs).filter (·.1)).length
structure FJ (F:FS) (K:Int) (n:Nat):Prop where
  i:FI F K
  t:F12 F
  n:addedN F<=n
  h:F.st.held=0
theorem runK_len_take (jobs:List JS):∀n,n<=jobs.length->((allK n).filter (runJ9 jobs)).length=((jobs.take n).filter (·.running)).length
 |0,_=>rfl
 |n+1,h=>by
  have ih:=runK_len_take jobs n om
  have hj:jobs[n]?=some jobs[n]:=List.getElem?_eq_getElem om
  rw [take_succ_at hj,List.filter_append,List.length_append,<-ih]
  unfold allK
  rw [List.range_succ,List.map_append,List.filter_append,List.length_append]
  congr 1
  simp only [List.map_cons,List.map_nil,List.filter_cons,List.filter_nil]
  have:runJ9 jobs (n:Int)=jobs[n].running:=by unfold runJ9;rw [Int.toNat_natCast,getD_some hj]
  rw [this];split<;>rfl
theorem run_le {F:FS} {K:Int} (h:FW F K):(runK F.jobs).length<=addedN F:=by
 unfold runK
 rw [runK_len_take F.jobs 64 (by rw [h.jl];exact Nat.le_refl _),List.take_of_length_le (by rw [h.jl];exact Nat.le_refl _)]
 unfold addedN shapeF
 rw [List.filter_map,List.length_map]
 have:∀l:List JS,(∀j∈l,j.running=true->j.added=true)->(l.filter (·.running)).length<=(l.filter ((·.1)∘fun j=>(j.added,j.tasks.length))).length:=by
  intro l
  induction l with
  |nil=>intro _;exact Nat.le_refl _
  |cons j l ih=>
   intro hl
   have h1:=ih fun y hy=>hl y (List.mem_cons_of_mem _ hy)
   have h2:=hl j List.mem_cons_self
   simp only [List.filter_cons,Function.comp]
   cases hr:j.running
   ·simp only [Bool.false_eq_true,if_false]
    split
    ·rw [List.length_cons];exact Nat.le_succ_of_le h1
    ·exact h1
   · exact (by have h3:=h2 hr;simp only [h3,if_true,List.length_cons];exact Nat.succ_le_succ h1)
 exact this F.jobs fun j hj=>(h.j j hj).r
theorem FJ.r12 {F:FS} {K:Int} {n:Nat} (h:FJ F K n) (hn:n<=12):(runK F.jobs).length<=12:=Nat.le_trans (run_le h.i.fw) (Nat.le_trans h.n hn)
theorem spill_held {x job band:Int}:∀(l:List Int) {F:FS},(spillF F x job band l).st.held=F.st.held
  |[],_=>rfl
  |t::l,F=>by
    have h:(spill1 F x ⟨job,t⟩ band).st.held=F.st.held:=by unfold spill1;split<;>rfl
    exact (spill_held l).trans h
theorem micro_held {F:FS} {x:Int}:(microF F x).1.st.held=F.st.held:=by
  unfold microF
  simp only
  split
  · rfl
  · split
    · rfl
    · split<;>exact spill_held _
theorem acq_held {F F':FS} {x c:Int} {ev:Evt} (he:acqF F x c=some (F',ev)):F'.st.held=F.st.held:=by
  unfold acqF at he
  split at he
  · obtain ⟨rfl,_⟩:=Prod.mk.inj (Option.some.inj he);rfl
  · split at he
    · obtain ⟨rfl,_⟩:=Prod.mk.inj (Option.some.inj he);rfl
    · unfold stealF at he
      split at he
      · cases he
      · split at he
        · cases he
        · obtain ⟨rfl,_⟩:=Prod.mk.inj (Option.some.inj he);rfl
theorem step_held {F:FS} {x c:Int}:(stepF F x c).1.st.held=F.st.held:=by
  unfold stepF
  split
  · rfl
  · split
    · rfl
    · split
      · split
        · exact micro_held
        · rfl
      · unfold restF
        split
        · rename_i q hq;exact acq_held (ev:=q.2) hq
        · split
          · exact micro_held
          · rfl
theorem ret_held9 {F:FS} {v:Wkr}:(retJ F v).st=F.st:=by unfold retJ;split<;>rfl
theorem crash_held {F:FS} {x:Int}:(crashF F x).1.st.held=F.st.held:=by
  unfold crashF
  split
  · rfl
  · split
    · rfl
    · show (retJ F (wAt F x)).st.held=_;rw [ret_held9]
theorem restart_held {F:FS} {x:Int}:(restartF F x).1.st.held=F.st.held:=by
  unfold restartF
  split
  · rfl
  · split<;>rfl
theorem cancel_held {F:FS} {x:Int}:(cancelF F x).1.st.held=F.st.held:=by
  unfold cancelF
  split
  · rfl
  · split<;>rfl
theorem FJ.op {F G:FS} {K L:Int} {n:Nat} (h:FJ F K n) (hi:FI G L) (hs:shapeF G.jobs=shapeF F.jobs) (hh:G.st.held=F.st.held):FJ G L n:=⟨hi,h.t.of hs,by unfold addedN;rw [hs];exact h.n,hh.trans h.h⟩
theorem FJ.step {F:FS} {K x c:Int} {n:Nat} (h:FJ F K n) (hK:K+1<=4096):FJ (stepF F x c).1 (K+1) n:=h.op (h.i.step hK) (step_ok h.i.fw h.i.st hK).2.2 step_held
theorem FJ.crash {F:FS} {K x:Int} {n:Nat} (h:FJ F K n) (hK:K+1<=4096):FJ (crashF F x).1 (K+1) n:=h.op (h.i.crash hK) (crash_ok h.i.fw h.i.st hK).2.2 crash_held
theorem FJ.restart {F:FS} {K x:Int} {n:Nat} (h:FJ F K n) (hK:K+1<=4096):FJ (restartF F x).1 (K+1) n:=h.op (h.i.restart hK) (restart_ok h.i.fw h.i.st hK).2.2 restart_held
theorem FJ.cancel {F:FS} {K x:Int} {n:Nat} (h:FJ F K n) (hK:K+1<=4096):FJ (cancelF F x).1 (K+1) n:=h.op (h.i.cancel hK) (cancel_ok h.i.fw h.i.st hK).2.2 cancel_held
theorem filter_set {S:List (Bool×Nat)}:∀{k:Nat} {q:Bool×Nat},((S.set k q).filter (·.1)).length<=(S.filter (·.1)).length+1:=by
  induction S with
  |nil=>intro k q;simp
  |cons x S ih=>
    intro k q
    cases k with
    |zero=>simp only [List.set_cons_zero,List.filter_cons];split<;>split<;>(first|omega|(simp only [List.length_cons];omega))
    |succ k=>
      have:=ih (k:=k) (q:=q)
      simp only [List.set_cons_succ,List.filter_cons];split<;>(first|omega|(simp only [List.length_cons];omega))
theorem FJ.add {F:FS} {K x bd:Int} {n:Nat} {l:List Task} {j:JS} (h:FJ F K n) (hx:0<=x/\x<64) (hj:F.jobs[x.toNat]?=some j) (ha:j.added=false) (hb:0<=bd/\bd<4) (hv:validC l=0) (hs:∀z∈l,z.scratch<=F.cfg.arena) (htk:(l.length:Int)<=F.cfg.tasks-loadL F.jobs) (hl:l.length<=12):FJ (addF F x l bd) K (n+1):=by
 have e:shapeF (addF F x l bd).jobs=(shapeF F.jobs).set x.toNat (true,l.length):=by simp only [addF,shapeF,List.map_set,jobN,List.length_map]
 refine ⟨h.i.add hx hj ha hb hv hs htk,?_,?_,h.h⟩
 ·unfold F12;rw [e]
  intro q hq
  rcases List.mem_or_eq_of_mem_set hq with h1|rfl
  ·exact h.t q h1
  ·exact hl
 · exact (by have h1:=filter_set (S:=shapeF F.jobs) (k:=x.toNat) (q:=(true,l.length));have h2:=h.n;unfold addedN at*;rw [e];omega)
theorem FJ.new {c:Cfg} (hv:validCfg c=0):FJ (newF c) 0 0:=by
  refine ⟨FI.new hv,?_,?_,rfl⟩
  · exact (by intro q hq;simp only [newF,shapeF,List.map_replicate] at hq;obtain rfl:=List.eq_of_mem_replicate hq;exact Nat.zero_le _)
  · exact (by have:addedN (newF c)=0:=rfl;rw [this];exact Nat.le_refl _)
theorem FJ.mono {F:FS} {K L:Int} {n m:Nat} (h:FJ F K n) (hk:K<=L) (hL:L<=4096) (hn:n<=m):FJ F L m:=⟨h.i.mono hk hL,h.t,Nat.le_trans h.n hn,h.h⟩
def cfgF (n:Int):Cfg:=⟨n,4,4,1024,2,100,100,8⟩
def saS:Nat->FS
  |0=>addV (newF (cfgF 1)) 0 [⟨0,0,0,0,0,0,[],2,16⟩] 0
  |k+1=>(stepF (saS k) 0 0).1
theorem sa_e0:(stepF (saS 0) 0 0).2=([⟨4,0,0,0,0,0,0⟩],0):=by decide+kernel
theorem sa_e1:(stepF (saS 1) 0 0).2=([⟨6,0,0,0,0,0,0⟩],0):=by decide+kernel
theorem sa_e2:(stepF (saS 2) 0 0).2=([⟨7,0,0,0,0,0,0⟩],0):=by decide+kernel
theorem sa_e3:(stepF (saS 3) 0 0).2=([⟨7,0,0,0,0,0,0⟩],0):=by decide+kernel
theorem sa_e4:(stepF (saS 4) 0 0).2=([⟨8,0,0,0,0,0,0⟩],0):=by decide+kernel
theorem sa_run:runK (saS 5).jobs=[]:=by decide+kernel
theorem sa_st:stateF (saS 5) 0 0=4:=by decide+kernel
theorem eqvn63 (w:World) (a0 a1 a2 a3 a4 a5 a6 b0 b1 b2 b3 b4 b5 b6:Int):∀x y,((do eqGuard .neq 63 x y (.agg #[I a0,I a1,I a2,I a3,I a4,I a5,I a6]) (.agg #[I b0,I b1,I b2,I b3,I b4,I b5,I b6]);binOp .neq 63 (.agg #[I a0,I a1,I a2,I a3,I a4,I a5,I a6]) (.agg #[I b0,I b1,I b2,I b3,I b4,I b5,I b6])):Sem Value).run prog w= .ok (.bool (!((a0==b0)&&(a1==b1)&&(a2==b2)&&(a3==b3)&&(a4==b4)&&(a5==b5)&&(a6==b6)))) w:=by
 intro x y
 simp [go_sem,run_eqGuard_agg,run_neq_struct,run_equalIn_agg]
 by_cases h0:a0=b0<;>by_cases h1:a1=b1<;>by_cases h2:a2=b2<;>by_cases h3:a3=b3<;>by_cases h4:a4=b4<;>by_cases h5:a5=b5<;>by_cases h6:a6=b6<;>simp [*]
theorem eqvn61 (w:World) (a0 a1 b0 b1:Int):∀x y,((do eqGuard .neq 61 x y (.agg #[.int .i64 a0, .int .i64 a1]) (.agg #[.int .i64 b0, .int .i64 b1]);binOp .neq 61 (.agg #[.int .i64 a0, .int .i64 a1]) (.agg #[.int .i64 b0, .int .i64 b1])):Sem Value).run prog w= .ok (.bool (!((a0==b0)&&(a1==b1)))) w:=by
  intro x y
  simp [go_sem,run_eqGuard_agg,run_neq_struct,run_equalIn_agg]
  by_cases h0:a0=b0<;>by_cases h1:a1=b1<;>simp [*]
theorem l27_config {cs:List Chunk} (n:Int) (hS:Sat W w cs):
  Ro prog 98 #[I n] (.agg #[I n,I 4,I 4,I 1024,I 2,I 100,I 100,I 8]) W w cs:=by
 exact callsK 5 func98 rfl<|jCO 2 rfl<|sAlloc hS zeroValue24 fun _ _ b0=>jOO 6 rfl<|sTk b0 0 rfl [I n,I 4,I 4,I 1024,I 2,I 100,I 100,I 8] fun _ a0=>jOR 3 rfl<|retN (vs:=[.agg #[I n,I 4,I 4,I 1024,I 2,I 100,I 100,I 8]]) rfl (.cons (.cell _ _ _ _ kr (lvA a0 0 0 [I n,I 4,I 4,I 1024,I 2,I 100,I 100,I 8] (isAgg24 _) (sizeOf24 _) rfl rfl rfl)) .nil)<|⟨rfl,(a0.dropAt 0 rfl)⟩
theorem l27_sane {cs:List Chunk} (hS:Sat W w cs):
  Ro prog 34 #[] (.bool true) W w cs:=by
 refine callsA 61 func34 rfl<|sR<|pu1<|zS<|cX call98 (l27_config 1 hS) ?_
 rintro _ _ ⟨rfl,r1⟩
 have w0:validCfg (⟨1,4,4,1024,2,100,100,8⟩:Cfg)=0:=by decide
 refine cX call14 (pf_new (⟨1,4,4,1024,2,100,100,8⟩:Cfg) w0 r1) ?_
 rintro _ _ ⟨b0,_,rfl,s1,t1⟩
 have x0:=FJ.new w0
 refine pu5<|zQ<|pu9<|gY<|sBS t1 (encTask {zTask with rows:=2,scratch:=16}).toArray runUnderlying45 sizeOf51 zeroValue51 fun u1 _ v1=>gY ?_
 have w1:=(v1.pick 1 rfl)
 have y0:0<=(0:Int)/\(0:Int)<64:=by decide
 have z0:0<=(0:Int)/\(0:Int)<4:=by decide
 have a1:validC ([(⟨0,0,0,0,0,0,⟨none,0,0,[]⟩,2,16⟩:Task)])=0:=by decide
 have b1:∀z∈[(⟨0,0,0,0,0,0,⟨none,0,0,[]⟩,2,16⟩:Task)],z.scratch<=(newF (⟨1,4,4,1024,2,100,100,8⟩:Cfg)).cfg.arena:=by intro z hz;rcases List.mem_singleton.1 hz with rfl;decide
 have x1:0<=(newF (⟨1,4,4,1024,2,100,100,8⟩:Cfg)).cfg.tasks/\(newF (⟨1,4,4,1024,2,100,100,8⟩:Cfg)).cfg.tasks<=4096:=by decide
 have c1:((([(⟨0,0,0,0,0,0,⟨none,0,0,[]⟩,2,16⟩:Task)]).length:Nat):Int)<=(newF (⟨1,4,4,1024,2,100,100,8⟩:Cfg)).cfg.tasks-loadL (newF (⟨1,4,4,1024,2,100,100,8⟩:Cfg)).jobs:=by decide
 have y1:([(⟨0,0,0,0,0,0,⟨none,0,0,[]⟩,2,16⟩:Task)]).length<=12:=by decide
 have d1:(newF (⟨1,4,4,1024,2,100,100,8⟩:Cfg)).jobs[((0:Int)).toNat]?=some JS.zero:=rfl
 have e1:JS.added JS.zero=false:=rfl
 refine cX call19 (pf_add s1 x0.i 0 (At u1 0) 1 1 ([(⟨0,0,0,0,0,0,⟨none,0,0,[]⟩,2,16⟩:Task)]) 0 (RdT.flat (RdT.blk (enc:=encTask) (sz:=9) (xs:=[(⟨0,0,0,0,0,0,⟨none,0,0,[]⟩,2,16⟩:Task)]) (fun _=>(by rfl)) 1 0 rfl rfl rfl om)) (fun z hz=>by rcases List.mem_singleton.1 hz with rfl;exact ⟨RdT.nil (enc:=Go.E.encI) (sz:=1) fR _⟩) y0 d1 e1 z0 a1 b1 x1 c1 w1.flat1) ?_
 rintro _ _ ⟨z1,rfl,a2,b2⟩
 have c2:=b2.unflat1
 have d2:=x0.add y0 d1 e1 z0 a1 b1 c1 y1
 have e2:FarmP b0 (saS 0) z1:=by skip;exact a2
 have i0:FJ (saS 0) 0 1:=by skip;exact d2
 refine pu2<|nT<|cFf<|kT<|seqE<|sR<|sBS c2 #[I 4,I 6,I 7,I 7,I 8] runUnderlying22 sizeOf3 zeroValue3 fun a0 _ f1=>pu2<|nT<|blockE<|loopN 6<|roundS<|sR<|pu1<|nT<|seqE<|cTt<|kT<|seqE<|blockE<|sR<|stepY (Pt a0 0) rfl rfl (Y_idx (a:=(At a0 0)) (i:=0) (len:=5) (cap:=5) rfl runUnderlying22 sizeOf3 kr kr ⟨_,rfl,add_off _ 0 _,by decide,by decide⟩)<|sL f1 0 0 (I 4) (isAgg3 _)<|pu1<|zS<|pu1 ?_
 have f2:=(f1.pick 1 rfl)
 refine cX call27 (pf_step e2 i0.i 0 0 i0.t om f2.flat1) ?_
 rintro _ _ ⟨_,g2,_,_,h2,rfl,d0,i2,j2⟩
 have j0:=j2.unflat2;have hn_az_38:=d0.len;have hl_az_38:=d0.le
 have k2:=FJ.step (x:=0) (c:=0) i0 om
 have g1:(stepF (saS 0) 0 0).2=([(⟨4,0,0,0,0,0,0⟩:Evt)],0):=sa_e0
 have he_46_c:=congrArg Prod.snd g1;have he_46_l:=congrArg Prod.fst g1;dsimp only at he_46_c he_46_l;rw [he_46_c];rw [he_46_l] at d0 hn_az_38
 obtain rfl:1=g2:=hn_az_38
 have l2:FarmP b0 (saS 1) h2:=by skip;exact i2
 have k0:FJ (saS 1) 1 1:=by skip;exact k2
 refine pu5<|zS<|pu9<|gY<|sIdxO d0 0 0 runUnderlying26 sizeOf63 fun l0 _ _ m2 n2 _=>?_
 have hxl_x_49:l0=(⟨4,0,0,0,0,0,0⟩:Evt):=(Option.some.inj m2).symm
 refine pu1<|gY<|sLp j0 (n2.up 0 rfl) 0 (I l0.kind) (isAgg3 _)<|pu3<|nT ?_
 have o2:(l0.kind:Int)=4:=(by subst hxl_x_49;rfl)
 refine cF _ (bne_eq_false_iff_eq.2 o2)<|skipE<|bN<|tN<|rE<|pu2<|nT<|roundS<|sR<|pu1<|nT<|seqE<|cTt<|kT<|seqE<|blockE<|sR<|stepY (Pt a0 1) rfl rfl (Y_idx (a:=(At a0 0)) (i:=1) (len:=5) (cap:=5) rfl runUnderlying22 sizeOf3 kr kr ⟨_,rfl,add_off _ 0 _,by decide,by decide⟩)<|sL j0 2 1 (I 6) (isAgg3 _)<|pu1<|zS<|pu1 ?_
 have q2:=(j0.pick 1 rfl)
 refine cX call27 (pf_step l2 k0.i 0 0 k0.t om q2.flat1) ?_
 rintro _ _ ⟨_,r2,_,_,s2,rfl,e0,t2,u2⟩
 have m0:=u2.unflat2;have hn_az_60:=e0.len;have hl_az_60:=e0.le
 have v2:=FJ.step (x:=0) (c:=0) k0 om
 have h1:(stepF (saS 1) 0 0).2=([(⟨6,0,0,0,0,0,0⟩:Evt)],0):=sa_e1
 have he_68_c:=congrArg Prod.snd h1;have he_68_l:=congrArg Prod.fst h1;dsimp only at he_68_c he_68_l;rw [he_68_c];rw [he_68_l] at e0 hn_az_60
 obtain rfl:1=r2:=hn_az_60
 have w2:FarmP b0 (saS 2) s2:=by skip;exact t2
 have n0:FJ (saS 2) 2 1:=by skip;exact v2
 refine pu5<|zS<|pu9<|gY<|sIdxO e0 0 0 runUnderlying26 sizeOf63 fun o0 _ _ x2 y2 _=>?_
 have hxl_x_71:o0=(⟨6,0,0,0,0,0,0⟩:Evt):=(Option.some.inj x2).symm
 refine pu1<|gY<|sLp m0 (y2.up 0 rfl) 0 (I o0.kind) (isAgg3 _)<|pu3<|nT ?_
 have z2:(o0.kind:Int)=6:=(by subst hxl_x_71;rfl)
 refine cF _ (bne_eq_false_iff_eq.2 z2)<|skipE<|bN<|tN<|rE<|pu2<|nT<|roundS<|sR<|pu1<|nT<|seqE<|cTt<|kT<|seqE<|blockE<|sR<|stepY (Pt a0 2) rfl rfl (Y_idx (a:=(At a0 0)) (i:=2) (len:=5) (cap:=5) rfl runUnderlying22 sizeOf3 kr kr ⟨_,rfl,add_off _ 0 _,by decide,by decide⟩)<|sL m0 3 2 (I 7) (isAgg3 _)<|pu1<|zS<|pu1 ?_
 have a3:=(m0.pick 1 rfl)
 refine cX call27 (pf_step w2 n0.i 0 0 n0.t om a3.flat1) ?_
 rintro _ _ ⟨_,b3,_,_,c3,rfl,f0,d3,e3⟩
 have p0:=e3.unflat2;have hn_az_82:=f0.len;have hl_az_82:=f0.le
 have f3:=FJ.step (x:=0) (c:=0) n0 om
 have i1:(stepF (saS 2) 0 0).2=([(⟨7,0,0,0,0,0,0⟩:Evt)],0):=sa_e2
 have he_90_c:=congrArg Prod.snd i1;have he_90_l:=congrArg Prod.fst i1;dsimp only at he_90_c he_90_l;rw [he_90_c];rw [he_90_l] at f0 hn_az_82
 obtain rfl:1=b3:=hn_az_82
 have g3:FarmP b0 (saS 3) c3:=by skip;exact d3
 have q0:FJ (saS 3) 3 1:=by skip;exact f3
 refine pu5<|zS<|pu9<|gY<|sIdxO f0 0 0 runUnderlying26 sizeOf63 fun c0 _ _ j1 h3 _=>?_
 have hxl_x_93:c0=(⟨7,0,0,0,0,0,0⟩:Evt):=(Option.some.inj j1).symm
 refine pu1<|gY<|sLp p0 (h3.up 0 rfl) 0 (I c0.kind) (isAgg3 _)<|pu3<|nT ?_
 have k1:(c0.kind:Int)=7:=(by subst hxl_x_93;rfl)
 refine cF _ (bne_eq_false_iff_eq.2 k1)<|skipE<|bN<|tN<|rE<|pu2<|nT<|roundS<|sR<|pu1<|nT<|seqE<|cTt<|kT<|seqE<|blockE<|sR<|stepY (Pt a0 3) rfl rfl (Y_idx (a:=(At a0 0)) (i:=3) (len:=5) (cap:=5) rfl runUnderlying22 sizeOf3 kr kr ⟨_,rfl,add_off _ 0 _,by decide,by decide⟩)<|sL p0 4 3 (I 7) (isAgg3 _)<|pu1<|zS<|pu1 ?_
 have i3:=(p0.pick 1 rfl)
 refine cX call27 (pf_step g3 q0.i 0 0 q0.t om i3.flat1) ?_
 rintro _ _ ⟨_,j3,_,_,k3,rfl,g0,l3,m3⟩
 have r0:=m3.unflat2;have hn_az_104:=g0.len;have hl_az_104:=g0.le
 have n3:=FJ.step (x:=0) (c:=0) q0 om
 have l1:(stepF (saS 3) 0 0).2=([(⟨7,0,0,0,0,0,0⟩:Evt)],0):=sa_e3
 have he_112_c:=congrArg Prod.snd l1;have he_112_l:=congrArg Prod.fst l1;dsimp only at he_112_c he_112_l;rw [he_112_c];rw [he_112_l] at g0 hn_az_104
 obtain rfl:1=j3:=hn_az_104
 have o3:FarmP b0 (saS 4) k3:=by skip;exact l3
 have s0:FJ (saS 4) 4 1:=by skip;exact n3
 refine pu5<|zS<|pu9<|gY<|sIdxO g0 0 0 runUnderlying26 sizeOf63 fun q3 _ _ m1 r3 _=>?_
 obtain rfl:c0=q3:=Option.some.inj (j1.symm.trans m1)
 have hxl_x_93:c0=(⟨7,0,0,0,0,0,0⟩:Evt):=(Option.some.inj m1).symm
 refine pu1<|gY<|sLp r0 (r3.up 0 rfl) 0 (I c0.kind) (isAgg3 _)<|pu3<|nT<|cF _ (bne_eq_false_iff_eq.2 k1)<|skipE<|bN<|tN<|rE<|pu2<|nT<|roundS<|sR<|pu1<|nT<|seqE<|cTt<|kT<|seqE<|blockE<|sR<|stepY (Pt a0 4) rfl rfl (Y_idx (a:=(At a0 0)) (i:=4) (len:=5) (cap:=5) rfl runUnderlying22 sizeOf3 kr kr ⟨_,rfl,add_off _ 0 _,by decide,by decide⟩)<|sL r0 5 4 (I 8) (isAgg3 _)<|pu1<|zS<|pu1 ?_
 have s3:=(r0.pick 1 rfl)
 refine cX call27 (pf_step o3 s0.i 0 0 s0.t om s3.flat1) ?_
 rintro _ _ ⟨_,t3,_,_,u3,rfl,h0,v3,w3⟩
 have n1:=w3.unflat2;have hn_az_125:=h0.len;have hl_az_125:=h0.le
 have x3:=FJ.step (x:=0) (c:=0) s0 om
 have o1:(stepF (saS 4) 0 0).2=([(⟨8,0,0,0,0,0,0⟩:Evt)],0):=sa_e4
 have he_133_c:=congrArg Prod.snd o1;have he_133_l:=congrArg Prod.fst o1;dsimp only at he_133_c he_133_l;rw [he_133_c];rw [he_133_l] at h0 hn_az_125
 obtain rfl:1=t3:=hn_az_125
 have q1:FarmP b0 (saS 5) u3:=by skip;exact v3
 have t0:FJ (saS 5) 5 1:=by skip;exact x3
 refine pu5<|zS<|pu9<|gY<|sIdxO h0 0 0 runUnderlying26 sizeOf63 fun u0 _ _ y3 z3 _=>?_
 have hxl_x_136:u0=(⟨8,0,0,0,0,0,0⟩:Evt):=(Option.some.inj y3).symm
 refine pu1<|gY<|sLp n1 (z3.up 0 rfl) 0 (I u0.kind) (isAgg3 _)<|pu3<|nT ?_
 have a4:(u0.kind:Int)=8:=(by subst hxl_x_136;rfl)
 refine cF _ (bne_eq_false_iff_eq.2 a4)<|skipE<|bN<|tN<|rE<|pu2<|nT<|roundS<|sR<|pu1<|nT<|seqE<|cFf<|exitE<|xB<|tN<|sR<|pu1 ?_
 have b4:=(n1.pick 1 rfl)
 refine cX call88 (pf_jobs q1 t0.i (t0.r12 om) b4.flat1) ?_
 rintro _ _ ⟨_,c4,_,_,rfl,v0,d4⟩
 have e4:=d4.unflat2;have hn_az_147:=v0.len;have hl_az_147:=v0.le
 have f4:runK (saS 5).jobs=([]:List Int):=sa_run
 rw [f4] at v0 hn_az_147
 obtain rfl:0=c4:=hn_az_147
 refine pu4<|gY ?_
 have g4:=(e4.pick 1 rfl)
 refine cX call96 (pf_state q1 t0.i 0 0 g4.flat1) ?_
 rintro _ _ ⟨rfl,h4⟩
 have i4:=h4.unflat1
 rw [show (stateF (saS 5) 0 0)=4 from sa_st]
 exact pu3<|zE<|retT [.bool true]<|⟨rfl,(i4.drops [0,0,0,0,0,0,0,0,0])⟩
end Go.Proofs.YtkadmghedmodbaaGreat
