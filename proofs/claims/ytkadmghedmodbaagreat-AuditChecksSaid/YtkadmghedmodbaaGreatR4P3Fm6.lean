import Derived.Shelf.SortG.Plain
import Derived.Shelf.SortG.SortNone
import Derived.Shelf.SlicesG.CompactI
import Derived.Test.YtkadmghedmodbaaGreatR4P3Fm4
set_option linter.all false
namespace Go.Proofs.YtkadmghedmodbaaGreat
open Go Go.E Go.Proofs.Tryz
set_option linter.all false
set_option maxRecDepth 100000
set_option maxHeartbeats 2000000
variable {W w:World} {H:Chunk} {F:List Chunk}
def xZ:FJob:=⟨false,false,0,⟨none,0,0,[]⟩,none⟩
theorem obs_zero:Obs JobM (List.replicate 64 xZ) (List.replicate 64 JS.zero) (List.replicate 64 ([]:Chunk)):=by
  refine ⟨by simp,by simp,?_⟩
  intro i p s c h1 h2 h3
  obtain rfl:=rep_at h1
  obtain rfl:=rep_at h2
  obtain rfl:=rep_at h3
  exact .inl ⟨rfl,rfl,rfl⟩
theorem r26_in (n:Int) (a:Int) (b:Int) (hS:Sat W w (H::F)):
    Ro prog 104 #[.int .i64 n, .int .i64 a, .int .i64 b] (.bool (decide ((a<=n/\n<=b)))) W w (H::F):=by
  exact callsK 15 func104 rfl<|jCO 11 rfl<|SD 10 (n>=a) (fun a0=>jOR 8 rfl<|retT [.bool false]<|⟨rB ((decide_eq_false (by omega)).symm),hS⟩) fun a0=>jOR 8 rfl<|retT [.bool (decide ((n:Int)<=b))]<|⟨rB (by rw [Bool.eq_iff_iff];simp only [decide_eq_true_eq,ge_iff_le];omega),hS⟩
theorem r26_valid (c:Cfg) (hS:Sat W w (H::F)):
  Ro prog 46 #[.agg (encCfg c).toArray] (I (validCfg c)) W w (H::F):=by
 exact callsK 41 func46 rfl<|jCO 2 rfl<|sBx hS (encCfg c) fun _ _ h0=>gOO h0 8 [0] rfl<|cS (r26_in c.workers 1 64 h0.flat) fun _ a0=>pu1<|SD 6 ((1<=c.workers/\c.workers<=64)) (fun j0=>jOR 45 rfl<|retT [I 2]<|⟨congrArg (fun z=>Ending.returned (I z)) (by unfold validCfg;rw [if_neg om]),(a0.dropAt 0 rfl)⟩) fun j0=>gOO a0 2 [0] rfl<|gY<|cS (r26_in c.tileW 1 64 a0.flat) fun _ b0=>pu2<|SD 11 ((1<=c.tileW/\c.tileW<=64)) (fun l0=>jOR 40 rfl<|retT [I 2]<|⟨congrArg (fun z=>Ending.returned (I z)) (by unfold validCfg;rw [if_neg om]),(b0.dropAt 0 rfl)⟩) fun l0=>gOO b0 2 [0] rfl<|gY<|cS (r26_in c.tileH 1 64 b0.flat) fun _ c0=>pu2<|SD 16 ((1<=c.tileH/\c.tileH<=64)) (fun n0=>jOR 35 rfl<|retT [I 2]<|⟨congrArg (fun z=>Ending.returned (I z)) (by unfold validCfg;rw [if_neg om]),(c0.dropAt 0 rfl)⟩) fun n0=>gOO c0 2 [0] rfl<|gY<|cS (r26_in c.arena 0 1048576 c0.flat) fun _ d0=>pu2<|SD 21 ((0<=c.arena/\c.arena<=1048576)) (fun p0=>jOR 30 rfl<|retT [I 2]<|⟨congrArg (fun z=>Ending.returned (I z)) (by unfold validCfg;rw [if_neg om]),(d0.dropAt 0 rfl)⟩) fun p0=>gOO d0 2 [0] rfl<|gY<|cS (r26_in c.deque 1 256 d0.flat) fun _ e0=>pu2<|SD 26 ((1<=c.deque/\c.deque<=256)) (fun r0=>jOR 25 rfl<|retT [I 2]<|⟨congrArg (fun z=>Ending.returned (I z)) (by unfold validCfg;rw [if_neg om]),(e0.dropAt 0 rfl)⟩) fun r0=>gOO e0 2 [0] rfl<|gY<|cS (r26_in c.tasks 1 4096 e0.flat) fun _ f0=>pu2<|SD 31 ((1<=c.tasks/\c.tasks<=4096)) (fun t0=>jOR 20 rfl<|retT [I 2]<|⟨congrArg (fun z=>Ending.returned (I z)) (by unfold validCfg;rw [if_neg om]),(f0.dropAt 0 rfl)⟩) fun t0=>gOO f0 2 [0] rfl<|gY<|cS (r26_in c.cells 1 1048576 f0.flat) fun _ g0=>pu2<|SD 36 ((1<=c.cells/\c.cells<=1048576)) (fun v0=>jOR 15 rfl<|retT [I 2]<|⟨congrArg (fun z=>Ending.returned (I z)) (by unfold validCfg;rw [if_neg om]),(g0.dropAt 0 rfl)⟩) fun v0=>gOO g0 2 [0] rfl<|gY<|cS (r26_in c.jobs 1 64 g0.flat) fun _ i0=>jOC 3 rfl<|cD ((1<=c.jobs/\c.jobs<=64)) (fun x0=>jCR 7 rfl<|retT [I 0]<|⟨congrArg (fun z=>Ending.returned (I z)) (by unfold validCfg;rw [if_pos om]),(i0.dropAt 0 rfl)⟩) fun x0=>jCR 8 rfl<|retT [I 2]<|⟨congrArg (fun z=>Ending.returned (I z)) (by unfold validCfg;rw [if_neg om]),(i0.dropAt 0 rfl)⟩
theorem f_new {cs:List Chunk} (c:Cfg) (hv:validCfg c=0) (hS:Sat W w cs):
  Calls prog 15 #[.agg (encCfg c).toArray] w fun e w'=>∃(p:Nat) (M:Chunk),e= .returned (.tuple #[Pt p 0,I 0])/\FarmR p (newF c) M/\Sat W w' (M::cs):=by
 have M0:=validCfg_zero hv
 refine callsK 70 func15 rfl<|jCO 2 rfl<|sBx hS (encCfg c) fun d0 _ j1=>gOO j1 8 [800] rfl<|cS (r26_valid c j1.flat) fun _ u1=>jOC 9 rfl ?_
 have v1:((validCfg c):Int)=0:=hv
 refine cF _ (bne_eq_false_iff_eq.2 v1)<|jCC 3 rfl<|drawF u1 [3,5] (fb 0 0 0 8<|fb 2 0 0 1<|fn) [1,0,2,3,4,5,6] fun _ w1=>wV 1<|wG 0 8<|wL 8<|wO rfl<|sMake (kl:= .i64) (kc:= .i64) (enc:=encWkr) (sz:=7) (nb:=56) w1 ⟨0,0,0,0,0,0,0⟩ (c.workers).toNat c.workers (om:c.workers=(((c.workers).toNat:Nat):Int)) underlying92 (i:=Tryz.t129) kr fR fun a0 c0 _ x1 k1=>nZ k1 [1]<|wV 1<|wO rfl ?_
 refine sBx k1 [I c.workers,I c.tileW,I c.tileH,I c.arena,I c.deque,I c.tasks,I c.cells,I c.jobs, .slice (At a0 0) ((c.workers).toNat) ((c.workers).toNat),nS,nS, .pointer none, .bool false, .bool false,I 0,nS, .pointer none, .bool false, .bool false,I 0,nS, .pointer none, .bool false, .bool false,I 0,nS, .pointer none, .bool false, .bool false,I 0,nS, .pointer none, .bool false, .bool false,I 0,nS, .pointer none, .bool false, .bool false,I 0,nS, .pointer none, .bool false, .bool false,I 0,nS, .pointer none, .bool false, .bool false,I 0,nS, .pointer none, .bool false, .bool false,I 0,nS, .pointer none, .bool false, .bool false,I 0,nS, .pointer none, .bool false, .bool false,I 0,nS, .pointer none, .bool false, .bool false,I 0,nS, .pointer none, .bool false, .bool false,I 0,nS, .pointer none, .bool false, .bool false,I 0,nS, .pointer none, .bool false, .bool false,I 0,nS, .pointer none, .bool false, .bool false,I 0,nS, .pointer none, .bool false, .bool false,I 0,nS, .pointer none, .bool false, .bool false,I 0,nS, .pointer none, .bool false, .bool false,I 0,nS, .pointer none, .bool false, .bool false,I 0,nS, .pointer none, .bool false, .bool false,I 0,nS, .pointer none, .bool false, .bool false,I 0,nS, .pointer none, .bool false, .bool false,I 0,nS, .pointer none, .bool false, .bool false,I 0,nS, .pointer none, .bool false, .bool false,I 0,nS, .pointer none, .bool false, .bool false,I 0,nS, .pointer none, .bool false, .bool false,I 0,nS, .pointer none, .bool false, .bool false,I 0,nS, .pointer none, .bool false, .bool false,I 0,nS, .pointer none, .bool false, .bool false,I 0,nS, .pointer none, .bool false, .bool false,I 0,nS, .pointer none, .bool false, .bool false,I 0,nS, .pointer none, .bool false, .bool false,I 0,nS, .pointer none, .bool false, .bool false,I 0,nS, .pointer none, .bool false, .bool false,I 0,nS, .pointer none, .bool false, .bool false,I 0,nS, .pointer none, .bool false, .bool false,I 0,nS, .pointer none, .bool false, .bool false,I 0,nS, .pointer none, .bool false, .bool false,I 0,nS, .pointer none, .bool false, .bool false,I 0,nS, .pointer none, .bool false, .bool false,I 0,nS, .pointer none, .bool false, .bool false,I 0,nS, .pointer none, .bool false, .bool false,I 0,nS, .pointer none, .bool false, .bool false,I 0,nS, .pointer none, .bool false, .bool false,I 0,nS, .pointer none, .bool false, .bool false,I 0,nS, .pointer none, .bool false, .bool false,I 0,nS, .pointer none, .bool false, .bool false,I 0,nS, .pointer none, .bool false, .bool false,I 0,nS, .pointer none, .bool false, .bool false,I 0,nS, .pointer none, .bool false, .bool false,I 0,nS, .pointer none, .bool false, .bool false,I 0,nS, .pointer none, .bool false, .bool false,I 0,nS, .pointer none, .bool false, .bool false,I 0,nS, .pointer none, .bool false, .bool false,I 0,nS, .pointer none, .bool false, .bool false,I 0,nS, .pointer none, .bool false, .bool false,I 0,nS, .pointer none, .bool false, .bool false,I 0,nS, .pointer none, .bool false, .bool false,I 0,nS, .pointer none, .bool false, .bool false,I 0,nS, .pointer none, .bool false, .bool false,I 0,nS, .pointer none, .bool false, .bool false,I 0,nS, .pointer none, .bool false, .bool false,I 0,nS, .pointer none, .bool false, .bool false,I 0,nS, .pointer none,I 0,I 0,I 0,I 0,I 0,I 0,I 0,I 0,I 0,I 0] ?_
 intro b0 _ l1
 refine nZ l1 [2]<|wV 1<|wN ?_
 have y1:Sat W _ ((Tri b0 101 [I c.workers,I c.tileW,I c.tileH,I c.arena,I c.deque,I c.tasks,I c.cells,I c.jobs, .slice (At a0 0) ((c.workers).toNat) ((c.workers).toNat),nS,nS, .pointer none] ((List.replicate 64 xZ).flatMap encFJob) [I 0,I 0,I 0,I 0,I 0,I 0,I 0,I 0,I 0,I 0])::c0::[(d0, .cells (encCfg c).toArray 24 (0,0))]::cs):=l1
 refine jXC 8 rfl ?_
 have z1:Sat W _ ((Tri b0 101 [I c.workers,I c.tileW,I c.tileH,I c.arena,I c.deque,I c.tasks,I c.cells,I c.jobs, .slice (At a0 0) ((c.workers).toNat) ((c.workers).toNat),nS,nS, .pointer none] ((List.replicate 64 xZ).flatMap encFJob) [I 0,I 0,I 0,I 0,I 0,I 0,I 0,I 0,I 0,I 0])::c0::[(d0, .cells (encCfg c).toArray 24 (0,0))]::([]:Chunk)::([]:Chunk)::([]:List Chunk).flatten::([]:List Chunk).flatten::cs):=Sat.perm (show Sat W _ ((Tri b0 101 [I c.workers,I c.tileW,I c.tileH,I c.arena,I c.deque,I c.tasks,I c.cells,I c.jobs, .slice (At a0 0) ((c.workers).toNat) ((c.workers).toNat),nS,nS, .pointer none] ((List.replicate 64 xZ).flatMap encFJob) [I 0,I 0,I 0,I 0,I 0,I 0,I 0,I 0,I 0,I 0])::c0::[(d0, .cells (encCfg c).toArray 24 (0,0))]::cs) from y1) (by simp)
 refine loopF [1,5] (γ:=Nat×(Option Addr)×Nat×Nat×Chunk×(List Nat)×(List Chunk)×(Option Addr)×Nat×Nat×Chunk×(List Nat)×(List Chunk)) (fun ⟨i,aa,an,ak,ac,ap,A0,da,dn,dk,dc,dp,B0⟩ R=>⟨[(6,I (i:Int))],(Tri b0 101 [I c.workers,I c.tileW,I c.tileH,I c.arena,I c.deque,I c.tasks,I c.cells,I c.jobs, .slice (At a0 0) ((c.workers).toNat) ((c.workers).toNat), .slice aa an ak, .slice da dn dk, .pointer none] ((List.replicate 64 xZ).flatMap encFJob) [I 0,I 0,I 0,I 0,I 0,I 0,I 0,I 0,I 0,I 0])::c0::[(d0, .cells (encCfg c).toArray 24 (0,0))]::ac::dc::A0.flatten::B0.flatten::R,c.workers.toNat-i,(i:Int)<=c.workers/\OwnT encP 102 1 aa an ak ap ac/\OwnT encP 105 1 da dn dk dp dc/\Obs ArR ap (List.replicate i (⟨c.arena,0,0,[]⟩:AS)) A0/\Obs DqR dp (List.replicate i (⟨c.deque,[]⟩:DS)) B0⟩) (0,none,0,0,[],[],[],none,0,0,[],[],[]) ⟨z1,om,OwnT.nil fR,OwnT.nil fR,Obs.nil _,Obs.nil _⟩ ?_
 rintro ⟨i,aa,an,ak,ac,ap,A0,da,dn,dk,dc,dp,B0⟩ ρ _ ⟨u0,hi,C0,D0,E0,F0⟩
 have J0:=C0.ll;have L0:=D0.ll;have G0:=E0.1;have H0:=F0.1;rw [List.length_replicate] at G0 H0
 refine gCC u0 9 [2] rfl<|CD ((i:Int)<c.workers) (fun a2=>gCO u0 10 [2] rfl<|cZ (r24_new c.tasks om u0)<|(by rintro _ _ ⟨v0,m1,rfl,b2,c2⟩;refine pu5<|sTpre c2 1 11 (Pt v0 0) [Pt v0 0] [I c.workers,I c.tileW,I c.tileH,I c.arena,I c.deque,I c.tasks,I c.cells,I c.jobs, .slice (At a0 0) ((c.workers).toNat) ((c.workers).toNat), .slice aa an ak, .slice da dn dk,Pt v0 0] sizeOf95 fun _ d2=>jOR 10 rfl<|retT [Pt b0 0,I 0] ?_;obtain rfl:i=c.workers.toNat:=(by omega);have e2:=((d2.picks [7,7,7,7,6,6]).dropAt 7 rfl);have f2:Sat W _ (((Tri b0 101 (preF c (At a0 0) ((c.workers).toNat) ((c.workers).toNat) aa an ak da dn dk v0) ((List.replicate 64 xZ).flatMap encFJob) [I 0,I 0,I 0,I 0,I 0,I 0,I 0,I 0,I 0,I 0])++(c0++(ac++(dc++(A0.flatten++(B0.flatten++(m1++(List.replicate 64 ([]:Chunk)).flatten)))))))::cs):=Sat.perm (show Sat W _ ((Tri b0 101 (preF c (At a0 0) ((c.workers).toNat) ((c.workers).toNat) aa an ak da dn dk v0) ((List.replicate 64 xZ).flatMap encFJob) [I 0,I 0,I 0,I 0,I 0,I 0,I 0,I 0,I 0,I 0])::c0::ac::dc::A0.flatten::B0.flatten::m1::cs) from e2) (by simp);exact ⟨_,_,rfl,⟨_,_,_,_,_,_,_,_,_,_,_,_,_,_,_,_,_,_,_,_,rfl,x1,C0,D0,E0,F0,b2,obs_zero,rfl⟩,f2⟩)) fun a2=>?_
 refine gCO u0 8 [2] rfl<|cZ (r22_new c.arena om u0) ?_
 rintro _ _ ⟨h0,e0,rfl,x0,n1⟩
 refine gOO n1 11 [3] rfl<|cZ (r23_new c.deque om n1) ?_
 rintro _ _ ⟨f0,g0,rfl,y0,z0⟩
 refine jOC 7 rfl<|drawP [7,8,14,15,18,21] [(5,⟨b0,9,none⟩, .slice aa an ak),(12,⟨b0,10,none⟩, .slice da dn dk)] (pS [0,1,2,3,4,6,9,10,11,13,5,12]<| .fk 7 14 (.fk 8 14 (.ef 14<| .ef 15<|pS [16,17]<| .ef 18<|pS [19,20]<| .ef 21<| .fin) (.ef 8<| .ef 15<|pS [16,17]<| .ef 18<|pS [19,20]<| .ef 21<| .fin)) (.ef 7<| .ef 8<| .ef 15<|pS [16,17]<| .ef 18<|pS [19,20]<| .ef 21<| .fin)) rfl kr ⟨.inr (cell_up z0 2 rfl (k:=9) tri_pre rfl), .inr (cell_up z0 2 rfl (k:=10) tri_pre rfl),trivial⟩ ?_
 have o1:=z0.drew
 refine qV 10<|qLd (.slice aa an ak) 0 isAgg93<|qLd (.slice da dn dk) 1 isAgg94<|qF ?_ ?_
 rotate_left
 ·refine qO rfl<|sBK o1 #[Pt f0 0] 105 fun _ _ a1=>nilO ⟨⟨.inr (cell_up a1 3 rfl (k:=9) tri_pre rfl), .inr (cell_up a1 3 rfl (k:=10) tri_pre rfl),trivial⟩,?_⟩
  refine qO rfl<|sBK a1 #[Pt h0 0] 102 fun _ _ b1=>nilO ⟨⟨.inr (cell_up b1 4 rfl (k:=9) tri_pre rfl), .inr (cell_up b1 4 rfl (k:=10) tri_pre rfl),trivial⟩,?_⟩
  exact qO rfl<|sApp (nb:=8) b1 C0 7 (RdT.blk (enc:=encP) (sz:=1) (xs:=[h0]) fR 1 0 rfl rfl rfl om) underlying93 (i:=Tryz.t102) kr fR fun i0 j0 c1 _ g2 q1=>nilO ⟨⟨dI, .inr (cell_up q1 4 rfl (k:=10) tri_pre rfl),trivial⟩,(qO rfl<|sApp (nb:=8) q1 D0 8 (RdT.blk (enc:=encP) (sz:=1) (xs:=[f0]) fR 1 1 rfl rfl rfl om) underlying94 (i:=Tryz.t105) kr fR fun o0 p0 d1 _ h2 i2=>nilO ⟨dA,(qV 2<|qO rfl<|sTpre i2 4 9 (.slice i0 (an+1) j0) [.slice i0 (an+1) j0] [I c.workers,I c.tileW,I c.tileH,I c.arena,I c.deque,I c.tasks,I c.cells,I c.jobs, .slice (At a0 0) ((c.workers).toNat) ((c.workers).toNat), .slice i0 (an+1) j0, .slice da dn dk, .pointer none] sizeOf93 fun _ j2=>nilO ⟨dA,(qV 2<|qO rfl<|sTpre j2 4 10 (.slice o0 (dn+1) p0) [.slice o0 (dn+1) p0] [I c.workers,I c.tileW,I c.tileH,I c.arena,I c.deque,I c.tasks,I c.cells,I c.jobs, .slice (At a0 0) ((c.workers).toNat) ((c.workers).toNat), .slice i0 (an+1) j0, .slice o0 (dn+1) p0, .pointer none] sizeOf94 fun _ k2=>nilO ⟨dA,(qN<|jXO 4 rfl<|sAdd (i:Int) 1<|jOI 2 rfl<|(by have l2:=((k2.picks [10,4,10,10,10,10,10,10]).drops [8,8]);have m2:Sat W _ ((Tri b0 101 [I c.workers,I c.tileW,I c.tileH,I c.arena,I c.deque,I c.tasks,I c.cells,I c.jobs, .slice (At a0 0) ((c.workers).toNat) ((c.workers).toNat), .slice i0 (an+1) j0, .slice o0 (dn+1) p0, .pointer none] ((List.replicate 64 xZ).flatMap encFJob) [I 0,I 0,I 0,I 0,I 0,I 0,I 0,I 0,I 0,I 0])::c0::[(d0, .cells (encCfg c).toArray 24 (0,0))]::c1::d1::(A0++[e0]).flatten::(B0++[g0]).flatten::cs):=Sat.perm (show Sat W _ ((Tri b0 101 [I c.workers,I c.tileW,I c.tileH,I c.arena,I c.deque,I c.tasks,I c.cells,I c.jobs, .slice (At a0 0) ((c.workers).toNat) ((c.workers).toNat), .slice i0 (an+1) j0, .slice o0 (dn+1) p0, .pointer none] ((List.replicate 64 xZ).flatMap encFJob) [I 0,I 0,I 0,I 0,I 0,I 0,I 0,I 0,I 0,I 0])::c0::[(d0, .cells (encCfg c).toArray 24 (0,0))]::c1::d1::A0.flatten::e0::B0.flatten::g0::cs) from l2) (by simp);exact ⟨(i+1,i0,(an+1),j0,c1,(ap++[h0]),(A0++[e0]),o0,(dn+1),p0,d1,(dp++[f0]),(B0++[g0])),od,alB,m2,om,g2,h2,(by rw [List.replicate_succ'];exact Obs.snoc E0 x0),(by rw [List.replicate_succ'];exact Obs.snoc F0 y0)⟩))⟩)⟩)⟩)⟩
 refine qO rfl<|sBK o1 #[Pt h0 0] 102 fun _ _ w0=>nilO ⟨⟨.inr (cell_up w0 3 rfl (k:=9) tri_pre rfl), .inr (cell_up w0 3 rfl (k:=10) tri_pre rfl),trivial⟩,?_⟩
 refine qF ?_ ?_
 ·exact qO rfl<|sApp (nb:=8) w0 C0 6 (RdT.blk (enc:=encP) (sz:=1) (xs:=[h0]) fR 1 0 rfl rfl rfl om) underlying93 (i:=Tryz.t102) kr fR fun k0 l0 e1 _ n2 r1=>nilO ⟨⟨dI, .inr (cell_up r1 3 rfl (k:=10) tri_pre rfl),trivial⟩,(qO rfl<|sBK r1 #[Pt f0 0] 105 fun _ _ s1=>nilO ⟨⟨dI, .inr (cell_up s1 4 rfl (k:=10) tri_pre rfl),trivial⟩,(qO rfl<|sApp (nb:=8) s1 D0 8 (RdT.blk (enc:=encP) (sz:=1) (xs:=[f0]) fR 1 0 rfl rfl rfl om) underlying94 (i:=Tryz.t105) kr fR fun q0 r0 f1 _ o2 q2=>nilO ⟨dA,(qV 2<|qO rfl<|sTpre q2 4 9 (.slice k0 (an+1) l0) [.slice k0 (an+1) l0] [I c.workers,I c.tileW,I c.tileH,I c.arena,I c.deque,I c.tasks,I c.cells,I c.jobs, .slice (At a0 0) ((c.workers).toNat) ((c.workers).toNat), .slice k0 (an+1) l0, .slice da dn dk, .pointer none] sizeOf93 fun _ r2=>nilO ⟨dA,(qV 2<|qO rfl<|sTpre r2 4 10 (.slice q0 (dn+1) r0) [.slice q0 (dn+1) r0] [I c.workers,I c.tileW,I c.tileH,I c.arena,I c.deque,I c.tasks,I c.cells,I c.jobs, .slice (At a0 0) ((c.workers).toNat) ((c.workers).toNat), .slice k0 (an+1) l0, .slice q0 (dn+1) r0, .pointer none] sizeOf94 fun _ s2=>nilO ⟨dA,(qN<|jXO 4 rfl<|sAdd (i:Int) 1<|jOI 2 rfl<|(by have t2:=((s2.picks [10,4,10,10,10,10,10,10]).drops [8,8]);have u2:Sat W _ ((Tri b0 101 [I c.workers,I c.tileW,I c.tileH,I c.arena,I c.deque,I c.tasks,I c.cells,I c.jobs, .slice (At a0 0) ((c.workers).toNat) ((c.workers).toNat), .slice k0 (an+1) l0, .slice q0 (dn+1) r0, .pointer none] ((List.replicate 64 xZ).flatMap encFJob) [I 0,I 0,I 0,I 0,I 0,I 0,I 0,I 0,I 0,I 0])::c0::[(d0, .cells (encCfg c).toArray 24 (0,0))]::e1::f1::(A0++[e0]).flatten::(B0++[g0]).flatten::cs):=Sat.perm (show Sat W _ ((Tri b0 101 [I c.workers,I c.tileW,I c.tileH,I c.arena,I c.deque,I c.tasks,I c.cells,I c.jobs, .slice (At a0 0) ((c.workers).toNat) ((c.workers).toNat), .slice k0 (an+1) l0, .slice q0 (dn+1) r0, .pointer none] ((List.replicate 64 xZ).flatMap encFJob) [I 0,I 0,I 0,I 0,I 0,I 0,I 0,I 0,I 0,I 0])::c0::[(d0, .cells (encCfg c).toArray 24 (0,0))]::e1::f1::A0.flatten::e0::B0.flatten::g0::cs) from t2) (by simp);exact ⟨(i+1,k0,(an+1),l0,e1,(ap++[h0]),(A0++[e0]),q0,(dn+1),r0,f1,(dp++[f0]),(B0++[g0])),od,alB,u2,om,n2,o2,(by rw [List.replicate_succ'];exact Obs.snoc E0 x0),(by rw [List.replicate_succ'];exact Obs.snoc F0 y0)⟩))⟩)⟩)⟩)⟩)⟩
 refine qO rfl<|sBK w0 #[Pt f0 0] 105 fun _ _ g1=>nilO ⟨⟨.inr (cell_up g1 4 rfl (k:=9) tri_pre rfl), .inr (cell_up g1 4 rfl (k:=10) tri_pre rfl),trivial⟩,?_⟩
 exact qO rfl<|sApp (nb:=8) g1 C0 7 (RdT.blk (enc:=encP) (sz:=1) (xs:=[h0]) fR 1 1 rfl rfl rfl om) underlying93 (i:=Tryz.t102) kr fR fun m0 n0 h1 _ v2 t1=>nilO ⟨⟨dI, .inr (cell_up t1 4 rfl (k:=10) tri_pre rfl),trivial⟩,(qO rfl<|sApp (nb:=8) t1 D0 8 (RdT.blk (enc:=encP) (sz:=1) (xs:=[f0]) fR 1 0 rfl rfl rfl om) underlying94 (i:=Tryz.t105) kr fR fun s0 t0 i1 _ w2 x2=>nilO ⟨dA,(qV 2<|qO rfl<|sTpre x2 4 9 (.slice m0 (an+1) n0) [.slice m0 (an+1) n0] [I c.workers,I c.tileW,I c.tileH,I c.arena,I c.deque,I c.tasks,I c.cells,I c.jobs, .slice (At a0 0) ((c.workers).toNat) ((c.workers).toNat), .slice m0 (an+1) n0, .slice da dn dk, .pointer none] sizeOf93 fun _ y2=>nilO ⟨dA,(qV 2<|qO rfl<|sTpre y2 4 10 (.slice s0 (dn+1) t0) [.slice s0 (dn+1) t0] [I c.workers,I c.tileW,I c.tileH,I c.arena,I c.deque,I c.tasks,I c.cells,I c.jobs, .slice (At a0 0) ((c.workers).toNat) ((c.workers).toNat), .slice m0 (an+1) n0, .slice s0 (dn+1) t0, .pointer none] sizeOf94 fun _ z2=>nilO ⟨dA,(qN<|jXO 4 rfl<|sAdd (i:Int) 1<|jOI 2 rfl<|(by have a3:=((z2.picks [10,4,10,10,10,10,10,10]).drops [8,8]);have b3:Sat W _ ((Tri b0 101 [I c.workers,I c.tileW,I c.tileH,I c.arena,I c.deque,I c.tasks,I c.cells,I c.jobs, .slice (At a0 0) ((c.workers).toNat) ((c.workers).toNat), .slice m0 (an+1) n0, .slice s0 (dn+1) t0, .pointer none] ((List.replicate 64 xZ).flatMap encFJob) [I 0,I 0,I 0,I 0,I 0,I 0,I 0,I 0,I 0,I 0])::c0::[(d0, .cells (encCfg c).toArray 24 (0,0))]::h1::i1::(A0++[e0]).flatten::(B0++[g0]).flatten::cs):=Sat.perm (show Sat W _ ((Tri b0 101 [I c.workers,I c.tileW,I c.tileH,I c.arena,I c.deque,I c.tasks,I c.cells,I c.jobs, .slice (At a0 0) ((c.workers).toNat) ((c.workers).toNat), .slice m0 (an+1) n0, .slice s0 (dn+1) t0, .pointer none] ((List.replicate 64 xZ).flatMap encFJob) [I 0,I 0,I 0,I 0,I 0,I 0,I 0,I 0,I 0,I 0])::c0::[(d0, .cells (encCfg c).toArray 24 (0,0))]::h1::i1::A0.flatten::e0::B0.flatten::g0::cs) from a3) (by simp);exact ⟨(i+1,m0,(an+1),n0,h1,(ap++[h0]),(A0++[e0]),s0,(dn+1),t0,i1,(dp++[f0]),(B0++[g0])),od,alB,b3,om,v2,w2,(by rw [List.replicate_succ'];exact Obs.snoc E0 x0),(by rw [List.replicate_succ'];exact Obs.snoc F0 y0)⟩))⟩)⟩)⟩)⟩
theorem JobM.none {x:FJob} {s:JS} {c:Chunk} (h:JobM x s c) (ha:s.added=false):c=[]:=by
  rcases h with ⟨_,_,h⟩|⟨h,_⟩
  · exact h
  · rw [ha] at h;cases h
theorem f_add {p:Nat} {F:FS} {M:Chunk} {F0:List Chunk} (hR:FarmR p F M) {K:Int} {j:JS} (hF:FW F K) (hst:StOk F.st K) (x:Int) (al:Option Addr) (nl kl:Nat) (l:List Task) (bd:Int) (hl:RdT encTask 9 [H] al nl kl l) (dl:∀z∈l,Task.Ok [H] z) (hx:0<=x/\x<64) (hj:F.jobs[x.toNat]?=some j) (ha:j.added=false) (hb:0<=bd/\bd<4) (hv:validC l=0) (hsc:∀z∈l,z.scratch<=F.cfg.arena) (hct:0<=F.cfg.tasks/\F.cfg.tasks<=4096) (htk:(l.length:Int)<=F.cfg.tasks-loadL F.jobs) (hS:Sat W w (M::H::F0)):
  Calls prog 20 #[Pt p 0,I x, .slice al nl kl,I bd] w fun e w'=>∃M':Chunk,e= .returned (I 0)/\FarmR p (addF F x l bd) M'/\Sat W w' (M'::H::F0):=by
 have I1:=hl.ll
 obtain ⟨wa,aa,da,wn,wk,an,ak,dn,dk,q,xs,ap,dp,Wc,Ac,Dc,Qc,L0,M0,R0,rfl,V0,T0,U0,Z0,s1,hQ,S0,X0⟩:=hR
 have hS:Sat W _ ((Tri p 101 (preF F.cfg wa wn wk aa an ak da dn dk q) (xs.flatMap encFJob) (encStt F.st))::Wc::Ac::Dc::L0.flatten::M0.flatten::Qc::R0.flatten::H::F0):=Sat.perm hS (by simp [Value.cells])
 have i2:=V0.ll;have L1:=T0.ll;have O1:=U0.ll;have B1:=Z0.1;have E1:=s1.1;have G1:=S0.1
 have A1:=hF.al;have D1:=hF.dl;have F1:=hF.jl;have S1:=hF.n;have P1:=hF.k;have T1:=hst.a;have U1:=hst.b;have V1:=hst.c;have W1:=hst.d;have X1:=hst.e;have Y1:=hst.f;have Z1:=hst.g
 have H1:∀j∈F.jobs,j.tasks.length<=4096:=fun j hj=>(hF.j j hj).n;have Q1:0<=loadL F.jobs:=Int.natCast_nonneg _;have W0:=validC_zero hv;have R1:=W0.2.1;have M1:=hct.1
 refine callsK 120 func20 rfl<|jCO 10 rfl<|cZ (f_zero om hS) ?_
 rintro _ _ ⟨rfl,x0⟩
 refine jOO 9 rfl<|sD 22 (x<0) (fun k1=>jOR 15 rfl<|retT [I 16]<|(by omega)) fun k1=>jOC 6 rfl<|cD (x>=64) (fun l1=>jCR 8 rfl<|retT [I 16]<|(by omega)) fun l1=>jCO 6 rfl ?_
 obtain ⟨h0,i0⟩:=at_some X0 (k:=(x.toNat)) om
 obtain ⟨y0,v3,z0,a1,b1⟩:=Obs.get S0 i0;obtain ⟨m1,w3,x3,y3⟩:=b1.fields;have z3:=hF.j y0 (List.mem_of_getElem? z0)
 obtain rfl:y0=j:=Option.some.inj (z0.symm.trans hj);have J1:¬h0.added=true:=by rw [m1,ha];decide
 have C1:=b1.none ha;subst C1
 refine sIdxA (b:=p) (off:=12) x (x.toNat) runUnderlying99 sizeOf98<|pu1<|sMp x0 (ptr_up 0 rfl (tri_el (sz:=5) (n0:=12) fR i0)) 0 (.bool h0.added)<|jOC 3 rfl ?_
 have n1:¬(h0.added=true):=J1
 refine cF _ (Bool.eq_false_iff.2 n1)<|jCO 5 rfl<|sD 37 (bd<0) (fun o1=>jOR 15 rfl<|retT [I 2]<|(by omega)) fun o1=>jOC 6 rfl<|cD (bd>=4) (fun q1=>jCR 8 rfl<|retT [I 2]<|(by omega)) fun q1=>jCO 6 rfl<|cZ (r25_new al nl kl l (hl.fl 8) (fun z hz=>(dl z hz).of_mem (mF 8)) x0.flat) ?_
 rintro _ _ (⟨r0,rfl,s0⟩|⟨r0,b0,e0,rfl,c1,s0⟩)
 · exact (by have b4:=s0.unflat;exact jOC 14 rfl<|(by have r1:¬(((validC l):Int)=0):=r0;exact cT _ (bne_iff_ne.2 r1)<|jCR 8 rfl<|retT [I (validC l)]<|absurd hv r0))
 refine jOO 22 rfl<|sAlloc s0.unflat1 zeroValue98 fun f0 _ t1=>sTk t1 0 rfl [.bool true, .bool true,I bd,nS,Pt b0 0] fun _ u1=>jOC 9 rfl<|loopF [0,1,2,3,9,11] (γ:=Nat×(List Task)×(Option Addr)×Nat×Nat×Chunk×Chunk) (fun ⟨i,zs,B0,A0,C0,J0,D0⟩ R=>⟨[(12,I (i:Int))],D0::J0::[(f0, .cells #[.bool true, .bool true,I bd, .slice B0 A0 C0,Pt b0 0] 98 (0,0))]::R,nl-i,i<=nl/\(zs.map Task.v=(l.take i).map Task.v)/\(zs.length=i)/\OwnT encTask 51 9 B0 A0 C0 zs J0/\(∀z∈zs,Task.Ok [D0] z)⟩) (0,[],none,0,0,[],[]) ⟨(Sat.nilc (Sat.nilc u1)),om,rfl,rfl,(OwnT.nil (enc:=encTask) (E:=51) (sz:=9) fR),(by intro z hz;cases hz)⟩ ?_
 rintro ⟨i,zs,B0,A0,C0,J0,D0⟩ ρ _ ⟨g0,hi,Y0,r2,K0,O0⟩
 have w1:=K0.ll
 refine jCC 9 rfl<|cD ((i:Int)<(nl:Int)) (fun y1=>?_) (fun y1=>?_)
 ·refine jCC 6 rfl ?_
  obtain ⟨a0,z1,a2,c0,b2,c2⟩:=RdT.eN hl i
  have G0:=hsc a0 (List.mem_of_getElem? c0);have H0:=(dl a0 (List.mem_of_getElem? c0)).deps.len;have I0:=(dl a0 (List.mem_of_getElem? c0)).deps.le;have E0:=asc_len om (taskOK_asc (tasksOK_at W0.2.2 c0))
  refine drawE [] [(4,⟨z1,a2+8,none⟩,I a0.scratch),(9,⟨p,3,none⟩,I F.cfg.arena)] [(true,[0,1]),(true,[2]),(true,[3,5,6,7,8]),(true,[4]),(true,[9]),(true,[10])] rfl kr ⟨.inr ((b2.up 12 rfl).cell g0 (k:=8) rfl), .inr (cell_up g0 4 rfl (k:=3) tri_pre rfl),trivial⟩ ?_
  have d1:=g0.drew
  refine wU [0,1]<|wI c2<|wU [3,5,6,7,8]<|wLd (I a0.scratch) 0 isAgg3<|wLd (I F.cfg.arena) 1 isAgg3<|wU [10]<|wN<|jXC 1 rfl<|cD (a0.scratch>F.cfg.arena) (fun d2=>jCR 12 rfl<|retT [I 12]<|(by omega)) fun d2=>jCO 6 rfl<|sIN hl i fun e2 _ _ d0 f2=>?_
  obtain rfl:a0=e2:=Option.some.inj (c0.symm.trans d0)
  have G0:=hsc a0 (List.mem_of_getElem? d0);have H0:=(dl a0 (List.mem_of_getElem? d0)).deps.len;have I0:=(dl a0 (List.mem_of_getElem? d0)).deps.le;have E0:=asc_len om (taskOK_asc (tasksOK_at W0.2.2 d0))
  refine sMA d1 (f2.up 12 rfl) 0 (encTask a0)<|sAlloc d1 zeroValue51 fun _ _ g2=>sTk g2 0 rfl (encTask a0) fun _ e1=>gOO e1 6 [0] rfl<|sApp (nb:=8) (Sat.nilc e1) (OwnT.nil (enc:=Go.E.encI) (E:=3) (sz:=1) fR) 0 ((dl a0 (List.mem_of_getElem? d0)).deps.up 14 rfl) underlying22 (i:=Tryz.t3) kr fR fun j0 k0 l0 _ j2 k2=>pu1<|tWk k2 1 rfl 6 (.slice j0 (0+a0.deps.n) k0) fun _ f1=>gOO f1 6 [4,901] rfl<|sBK f1 #[I a0.stage,I a0.part,I a0.rectX0,I a0.rectY0,I a0.rectX1,I a0.rectY1, .slice j0 (0+a0.deps.n) k0,I a0.rows,I a0.scratch] 51 fun _ _ l2=>sApp (nb:=88) l2 K0 4 (RdT.blk (enc:=encTask) (sz:=9) (xs:=[(⟨a0.stage,a0.part,a0.rectX0,a0.rectY0,a0.rectX1,a0.rectY1,⟨j0,(0+a0.deps.n),k0,([]++a0.deps.l)⟩,a0.rows,a0.scratch⟩:Task)]) fR 1 0 rfl rfl rfl om) underlying45 (i:=Tryz.t51) kr fR fun m0 o0 t0 _ m2 n2=>pu1<|tWk n2 5 rfl 3 (.slice m0 (A0+1) o0) fun _ o2=>jOO 5 rfl<|sAdd (i:Int) 1<|jOI 2 rfl ?_
  have q2:=(o2.drops [0,1])
  exact ⟨(i+1,(zs++[(⟨a0.stage,a0.part,a0.rectX0,a0.rectY0,a0.rectX1,a0.rectY1,⟨j0,(0+a0.deps.n),k0,([]++a0.deps.l)⟩,a0.rows,a0.scratch⟩:Task)]),m0,(A0+1),o0,t0,(l0++D0)),od,alB,(Sat.perm (cs':=(l0++D0)::(t0::[(f0, .cells #[.bool true, .bool true,I bd, .slice m0 (A0+1) o0,Pt b0 0] 98 (0,0))]::e0::(Tri p 101 (preF F.cfg wa wn wk aa an ak da dn dk q) (xs.flatMap encFJob) (encStt F.st))::Wc::Ac::Dc::L0.flatten::M0.flatten::Qc::R0.flatten::H::F0)) (show Sat W _ (l0::D0::t0::[(f0, .cells #[.bool true, .bool true,I bd, .slice m0 (A0+1) o0,Pt b0 0] 98 (0,0))]::e0::(Tri p 101 (preF F.cfg wa wn wk aa an ak da dn dk q) (xs.flatMap encFJob) (encStt F.st))::Wc::Ac::Dc::L0.flatten::M0.flatten::Qc::R0.flatten::H::F0) from q2) (by simp)),om,(by rw [List.map_append,Y0,take_succ_at c0,List.map_append];rfl),by first|omega|(simp;omega),m2,(by
    intro z hz
    rcases List.mem_append.1 hz with h|h
    ·exact (O0 z h).of_mem mS
    ·simp only [List.mem_singleton] at h;subst h;exact ⟨(j2.rdAt (cs:=[l0]) 0 rfl).of_mem mS⟩)⟩
 refine jCC 7 rfl<|drawE [8] [(6,⟨p,5,none⟩,I F.cfg.tasks)] [(true,[0,1,2,3,4,5,7]),(true,[6]),(false,[8]),(true,[9]),(true,[10])] rfl kr ⟨.inr (cell_up g0 4 rfl (k:=5) tri_pre rfl),trivial⟩ ?_
 have s2:=g0.drew
 refine wU [0,1,2,3,4,5,7]<|wLd (I F.cfg.tasks) 0 isAgg3<|wO rfl ?_
 have t2:=(s2.pick 4 rfl)
 refine cZ (f_load S0 X0 H1 t2) ?_
 rintro _ _ ⟨rfl,g1⟩
 refine nilO ⟨⟨.inr (cell_up g1 0 rfl (k:=5) tri_pre rfl),trivial⟩,?_⟩
 refine wSub F.cfg.tasks (loadL F.jobs)<|wU [10]<|wN<|jXC 1 rfl<|cD ((nl:Int)>(F.cfg.tasks-(loadL F.jobs))) (fun u2=>jCR 7 rfl<|retT [I 13]<|(by omega)) fun u2=>jCC 3 rfl<|drawF g1 [6] (fb 2 3 0 5<|fn) [0,1,3,4,2,5,6] fun _ v2=>wV 4<|wG 0 5<|wY (.pointer (some ⟨p,12+(x.toNat)*5,none⟩)) rfl (fun w _=>Y_idxA (b:=p) (off:=12) x (x.toNat) runUnderlying99 sizeOf98)<|wO rfl<|sTel (enc:=encFJob) (sz:=5) v2 fR 0 (x.toNat) 12 0 h0 (⟨true,true,bd,⟨B0,A0,C0,zs⟩,some ⟨b0,0,none⟩⟩:FJob) i0 (.agg #[.bool true, .bool true,I bd, .slice B0 A0 C0,Pt b0 0]) [.bool true, .bool true,I bd, .slice B0 A0 C0,Pt b0 0] sizeOf98 fun _ w2=>nA<|wN<|jXO 4 rfl ?_
 have x2:=(w2.pick 4 rfl)
 refine cZ (r_ready c1 (new_wf hv) x2.flat1) ?_
 rintro _ _ ⟨_,u0,_,v0,rfl,w0,y2⟩
 have z2:=y2.unflat2;have Q0:=w0.ll
 refine jOC 10 rfl<|loopF [0,1,3,14] (γ:=Nat×QS×Chunk) (fun ⟨i,qi,N0⟩ R=>⟨[(15,I (i:Int))],v0::e0::(Tri p 101 (preF F.cfg wa wn wk aa an ak da dn dk q) ((xs.set (x.toNat) (⟨true,true,bd,⟨B0,A0,C0,zs⟩,some ⟨b0,0,none⟩⟩:FJob)).flatMap encFJob) (encStt F.st))::D0::J0::[(f0, .cells #[.bool true, .bool true,I bd, .slice B0 A0 C0,Pt b0 0] 98 (0,0))]::Wc::Ac::Dc::L0.flatten::M0.flatten::N0::R,u0-i,i<=u0/\(InjR q qi N0)/\(qi=readyQ x bd F.q ((idxOf 2 0 (newB l).st).take i))⟩) (0,F.q,Qc) ⟨z2,om,hQ,rfl⟩ ?_
 rintro ⟨i,qi,N0⟩ ρ _ ⟨p0,hi,v1,x1⟩
 refine jCC 9 rfl<|cD ((i:Int)<(u0:Int)) (fun a3=>jCC 4 rfl<|(by obtain ⟨q0,b3,c3,h1,i1,d3⟩:=RdT.eN w0 i;refine drawE [11] [(3,⟨p,11,none⟩,Pt q 0),(8,⟨b3,c3,none⟩,I q0)] [(true,[0,1,2,4,5,6]),(true,[7]),(true,[10]),(true,[3]),(true,[8]),(true,[9]),(false,[11])] rfl kr ⟨.inr (cell_up p0 2 rfl (k:=11) tri_pre rfl), .inr ((i1.up 0 rfl).cell p0 (k:=0) rfl),trivial⟩ ?_;have e3:=p0.drew;refine wU [0,1,2,4,5,6]<|wI d3<|wU [10]<|wLd (Pt q 0) 0 isAgg95<|wLd (I q0) 1 isAgg3<|wU [9]<|wO rfl ?_;have f3:=(e3.pick 11 rfl);refine cZ (iq_push v1 (⟨x,q0⟩:Ref) bd om f3.flat1) ?_;rintro _ _ ⟨g3,rfl,h3,i3⟩;have j1:=i3.unflat1;exact nilO ⟨⟨dI, .inr ((i1.up 1 rfl).cell j1 (k:=0) rfl),trivial⟩,(wN<|jXO 4 rfl<|sAdd (i:Int) 1<|jOI 2 rfl<|⟨(i+1,(pushQ qi (⟨x,q0⟩:Ref) bd),g3),od,alB,(j1.picks [11,11,11,11,11,11,11,11,11,11,11]),om,h3,(by rw [ready_take h1,<-x1])⟩)⟩)) fun a3=>?_
 refine jCR 11 rfl<|retT [I 0] ?_
 have k3:=(p0.pick 12 rfl)
 have l3:=Sat.openN (A:=[]) (x.toNat) a1 k3
 have m3:=(l3.picks [1,1,3,6,6])
 have n3:Sat W _ (((D0++J0)++e0)::(R0.eraseIdx (x.toNat)).flatten::v0::(Tri p 101 (preF F.cfg wa wn wk aa an ak da dn dk q) ((xs.set (x.toNat) (⟨true,true,bd,⟨B0,A0,C0,zs⟩,some ⟨b0,0,none⟩⟩:FJob)).flatMap encFJob) (encStt F.st))::[(f0, .cells #[.bool true, .bool true,I bd, .slice B0 A0 C0,Pt b0 0] 98 (0,0))]::Wc::Ac::Dc::L0.flatten::M0.flatten::N0::H::F0):=Sat.perm (show Sat W _ (D0::J0::e0::[]::(R0.eraseIdx (x.toNat)).flatten::v0::(Tri p 101 (preF F.cfg wa wn wk aa an ak da dn dk q) ((xs.set (x.toNat) (⟨true,true,bd,⟨B0,A0,C0,zs⟩,some ⟨b0,0,none⟩⟩:FJob)).flatMap encFJob) (encStt F.st))::[(f0, .cells #[.bool true, .bool true,I bd, .slice B0 A0 C0,Pt b0 0] 98 (0,0))]::Wc::Ac::Dc::L0.flatten::M0.flatten::N0::H::F0) from m3) (by simp [Value.cells])
 have o3:=Sat.shutN (d:=(D0++J0)++e0) (A:=[]) (x.toNat) a1 n3
 rw [List.take_of_length_le om] at Y0
 have q3:=Obs.set3 (p':=(⟨true,true,bd,⟨B0,A0,C0,zs⟩,some ⟨b0,0,none⟩⟩:FJob)) S0 i0 (JobM.mk (s:=jobN l bd) (T:=(D0++J0)) rfl ((K0.rdAt (cs:=[D0,J0]) 1 rfl).of_mem (fun p hp=>by simp at hp⊢;exact hp)) (fun z hz=>(O0 z hz).of_mem mS) Y0 c1)
 have r3:=((o3.picks [9,9,9,9,9,9,8]).drops [8,8])
 have s3:=(r3.merge8)
 have he:addF F x l bd=(⟨F.cfg,F.ws,F.ar,F.dq,qi,(F.jobs.set (x.toNat) (jobN l bd)),F.st⟩:FS):=by unfold addF;rw [x1,List.take_of_length_le om]
 exact ⟨_,rfl,by rw [he];exact ⟨_,_,_,_,_,_,_,_,_,_,_,_,_,_,_,_,_,_,_,_,rfl,V0,T0,U0,Z0,s1,v1,q3,(set_len X0)⟩,s3⟩
end Go.Proofs.YtkadmghedmodbaaGreat

namespace Go.Proofs.YtkadmghedmodbaaGreat
open Go Go.E Go.Proofs.Tryz
set_option linter.all false
set_option maxRecDepth 100000
set_option maxHeartbeats 2000000
variable {W w:World} {H:Chunk} {F:List Chunk}
structure TL where
  l:Sl Task
def encTL (x:TL):List Value:=[.slice x.l.a x.l.n x.l.k]
structure TLV where
  l:List TaskV
  deriving DecidableEq
def TL.v (x:TL):TLV:=⟨x.l.l.map Task.v⟩
structure TL.Ok (cs:List Chunk) (q:TL):Prop where
  l:RdT encTask 9 cs q.l.a q.l.n q.l.k q.l.l
  lD:∀z∈q.l.l,Task.Ok cs z
theorem TL.Ok.of_mem {cs cs':List Chunk} {x:TL} (h:TL.Ok cs x) (hm:∀p∈cs.flatten,p∈cs'.flatten):TL.Ok cs' x:=⟨h.l.of_mem hm,fun y hy=>(h.lD y hy).of_mem hm⟩
theorem tg_config {p:Nat} {a:Option Addr} {n k:Nat} {i:Int} {xs:List Int} (hR:RdT Go.E.encI 1 [H] a n k xs) (hi:0<=i/\i<=n) (hS:Sat W w ([(p, .cells #[.slice a n k,I i] 72 (0,0))]::H::F)):
  Calls prog 12 #[Pt p 0] w fun e w'=>∃(c:Cfg),e= .returned (.agg (encCfg c).toArray)/\(validCfg c=0)/\(c.workers<=4)/\∃i':Int,(0<=i'/\i'<=n)/\Sat W w' ([(p, .cells #[.slice a n k,I i'] 72 (0,0))]::H::F):=by
 have q0:=hR.le
 refine callsK 28 func12 rfl<|jCO 2 rfl<|sAlloc hS zeroValue24 fun _ _ j0=>jOO 5 rfl ?_
 have k0:=(j0.pick 1 rfl)
 refine cZ (tape_next (hR.fl 1) om k0.flat1 4 om) ?_
 rintro _ _ ⟨f0,rfl,_,_,_,l0⟩
 have m0:=l0.unflat1
 refine sAdd 1 f0<|pu1<|cZ (tape_next (hR.fl 1) om m0.flat1 4 om) ?_
 rintro _ _ ⟨g0,rfl,_,_,_,n0⟩
 have o0:=n0.unflat1
 refine sAdd 1 g0<|pu1<|cZ (tape_next (hR.fl 1) om o0.flat1 4 om) ?_
 rintro _ _ ⟨h0,rfl,_,_,_,p0⟩
 refine sAdd 1 h0<|pu1<|sBK p0.unflat1 #[I 4096,I 65536,I 512] 3 fun _ _ r0=>?_
 have s0:=(r0.pick 1 rfl)
 refine cZ (tape_pick (hR.fl 2) om s0.flat1 (RdT.flat (RdT.blk (enc:=Go.E.encI) (sz:=1) (xs:=[4096,65536,512]) (fun _=>(by rfl)) 3 0 rfl rfl rfl om)) om om) ?_
 rintro _ _ ⟨a0,rfl,t0,_,_,u0⟩
 have v0:=u0.unflat1
 have l2:(a0:Int)=4096\/(a0:Int)=65536\/(a0:Int)=512:=by simpa using t0
 refine pu1<|sBK v0 #[I 1,I 2,I 8] 3 fun _ _ w0=>?_
 have x0:=(w0.pick 1 rfl)
 refine cZ (tape_pick (hR.fl 3) om x0.flat1 (RdT.flat (RdT.blk (enc:=Go.E.encI) (sz:=1) (xs:=[1,2,8]) (fun _=>(by rfl)) 3 0 rfl rfl rfl om)) om om) ?_
 rintro _ _ ⟨b0,rfl,y0,_,_,z0⟩
 have a1:=z0.unflat1
 have s2:(b0:Int)=1\/(b0:Int)=2\/(b0:Int)=8:=by simpa using y0
 refine pu1<|sBK a1 #[I 512,I 4096,I 60] 3 fun _ _ b1=>?_
 have c1:=(b1.pick 1 rfl)
 refine cZ (tape_pick (hR.fl 4) om c1.flat1 (RdT.flat (RdT.blk (enc:=Go.E.encI) (sz:=1) (xs:=[512,4096,60]) (fun _=>(by rfl)) 3 0 rfl rfl rfl om)) om om) ?_
 rintro _ _ ⟨c0,rfl,d1,_,_,e1⟩
 have f1:=e1.unflat1
 have y2:(c0:Int)=512\/(c0:Int)=4096\/(c0:Int)=60:=by simpa using d1
 refine pu1<|sBK f1 #[I 20000,I 500] 3 fun _ _ g1=>?_
 have h1:=(g1.pick 1 rfl)
 refine cZ (tape_pick (hR.fl 5) om h1.flat1 (RdT.flat (RdT.blk (enc:=Go.E.encI) (sz:=1) (xs:=[20000,500]) (fun _=>(by rfl)) 2 0 rfl rfl rfl om)) om om) ?_
 rintro _ _ ⟨e0,rfl,i1,_,_,j1⟩
 have k1:=j1.unflat1
 have e3:(e0:Int)=20000\/(e0:Int)=500:=by simpa using i1
 refine pu1<|sBK k1 #[I 8,I 64,I 2] 3 fun _ _ l1=>?_
 have m1:=(l1.pick 1 rfl)
 refine cZ (tape_pick (hR.fl 6) om m1.flat1 (RdT.flat (RdT.blk (enc:=Go.E.encI) (sz:=1) (xs:=[8,64,2]) (fun _=>(by rfl)) 3 0 rfl rfl rfl om)) om om) ?_
 rintro _ _ ⟨d0,rfl,n1,_,_,o1⟩
 have q1:=o1.unflat1
 have k3:(d0:Int)=8\/(d0:Int)=64\/(d0:Int)=2:=by simpa using n1
 refine pu1<|sTk q1 6 rfl [I (1+f0),I (1+g0),I (1+h0),I a0,I b0,I c0,I e0,I d0] fun _ i0=>jOR 3 rfl<|retN (vs:=[.agg #[I (1+f0),I (1+g0),I (1+h0),I a0,I b0,I c0,I e0,I d0]]) rfl (.cons (.cell _ _ _ _ kr (lvA i0 6 0 [I (1+f0),I (1+g0),I (1+h0),I a0,I b0,I c0,I e0,I d0] (isAgg24 _) (sizeOf24 _) rfl rfl rfl)) .nil) ?_
 have hv:validCfg (⟨(1+f0),(1+g0),(1+h0),a0,b0,c0,e0,d0⟩:Cfg)=0:=by unfold validCfg;rw [if_pos (by dsimp only;omega)]
 exact ⟨_,rfl,hv,by dsimp only;omega,_,om,(i0.drops [1,1,1,1,1,1])⟩
inductive Tr (c:Cfg):Nat->List (List Task)->List Evt->FS->Prop
  |nil:Tr c 0 [] [] (newF c)
  |add {K:Nat} {js:List (List Task)} {es:List Evt} {F:FS} (l:List Task) (bd:Int):Tr c K js es F->js.length<4->0<=bd/\bd<4->validC l=0->l.length<=5->(∀z∈l,z.scratch<=512)->
      Tr c (K+1) (js++[l]) (es++[⟨1,0,0,((js.length:Nat):Int),0,0,0⟩]) (addF F ((js.length:Nat):Int) l bd)
  |cancel {K:Nat} {js:List (List Task)} {es:List Evt} {F:FS} (k:Int):Tr c K js es F->Tr c (K+1) js (es++(cancelF F k).2.1) (cancelF F k).1
  |crash {K:Nat} {js:List (List Task)} {es:List Evt} {F:FS} (x:Int):Tr c K js es F->Tr c (K+1) js (es++(crashF F x).2.1) (crashF F x).1
  |restart {K:Nat} {js:List (List Task)} {es:List Evt} {F:FS} (x:Int):Tr c K js es F->Tr c (K+1) js (es++(restartF F x).2.1) (restartF F x).1
  |step {K:Nat} {js:List (List Task)} {es:List Evt} {F:FS} (x y:Int):Tr c K js es F->Tr c (K+1) js (es++(stepF F x y).2.1) (stepF F x y).1
def Same (F G:FS):Prop:=G.cfg=F.cfg/\G.ws.length=F.ws.length
theorem Same.take {F:FS} {x:Int} {r:Ref}:Same F (takeF F x r):=⟨rfl,by simp [takeF]⟩
theorem Same.trans {F G H:FS} (h:Same F G) (k:Same G H):Same F H:=⟨k.1.trans h.1,k.2.trans h.2⟩
theorem spill_same {x job band:Int}:∀(l:List Int) {F:FS},Same F (spillF F x job band l)
  |[],_=>⟨rfl,rfl⟩
  |t::l,F=>by
    have h:Same F (spill1 F x ⟨job,t⟩ band):=by unfold spill1;split<;>exact ⟨rfl,rfl⟩
    exact h.trans (spill_same l)
theorem micro_same {F:FS} {x:Int}:Same F (microF F x).1:=by
  unfold microF
  simp only
  split
  · exact ⟨rfl,by simp⟩
  · split
    · exact ⟨rfl,by simp⟩
    · split<;>exact ⟨(spill_same _).1,(spill_same _).2.trans (by simp)⟩
theorem acq_same {F F':FS} {x c:Int} {ev:Evt} (he:acqF F x c=some (F',ev)):Same F F':=by
  unfold acqF at he
  split at he
  · obtain ⟨rfl,_⟩:=Prod.mk.inj (Option.some.inj he);exact Same.take (F:=popF F x _)
  · split at he
    · obtain ⟨rfl,_⟩:=Prod.mk.inj (Option.some.inj he);exact ⟨rfl,by simp [takeF]⟩
    · unfold stealF at he
      split at he
      · cases he
      · split at he
        · cases he
        · obtain ⟨rfl,_⟩:=Prod.mk.inj (Option.some.inj he);exact ⟨rfl,by simp [takeF,popF]⟩
theorem step_same {F:FS} {x c:Int}:Same F (stepF F x c).1:=by
  unfold stepF
  split
  · exact ⟨rfl,rfl⟩
  · split
    · exact ⟨rfl,rfl⟩
    · split
      · split
        · exact micro_same
        · exact ⟨rfl,by simp [dropF,clearF]⟩
      · unfold restF
        split
        · rename_i q hq;exact acq_same (ev:=q.2) hq
        · split
          · exact Same.trans (G:=helpF F) ⟨rfl,rfl⟩ micro_same
          · exact ⟨rfl,rfl⟩
theorem crash_same {F:FS} {x:Int}:Same F (crashF F x).1:=by
  unfold crashF
  split
  · exact ⟨rfl,rfl⟩
  · split
    · exact ⟨rfl,rfl⟩
    · exact (by have h:Same F (retJ F (wAt F x)):=(by unfold retJ;split<;>exact ⟨rfl,rfl⟩);exact h.trans ⟨rfl,by simp [crashW,clearF,popF]⟩)
theorem restart_same {F:FS} {x:Int}:Same F (restartF F x).1:=by
  unfold restartF
  split
  · exact ⟨rfl,rfl⟩
  · split
    · exact ⟨rfl,by simp [idleF]⟩
    · exact ⟨rfl,rfl⟩
theorem cancel_same {F:FS} {k:Int}:Same F (cancelF F k).1:=by
  unfold cancelF
  split
  · exact ⟨rfl,rfl⟩
  · split<;>exact ⟨rfl,rfl⟩
def totS (S:List (Bool×Nat)):Nat:=(S.map fun q=>if q.1 then q.2 else 0).sum
theorem load_le:∀{l:List JS},(∀j∈l,j.running=true->j.added=true)->loadL l<=((totS (shapeF l):Nat):Int)
  |[],_=>by simp [loadL,totS,shapeF]
  |j::l,h=>by
    have ih:=load_le (l:=l) (fun y hy=>h y (List.mem_cons_of_mem _ hy))
    have h1:=h j List.mem_cons_self
    simp only [loadL,totS,shapeF,List.map_cons,List.filter_cons,List.sum_cons] at ih⊢
    cases hr:j.running
    · simp only [Bool.false_eq_true,if_false];split<;>omega
    · simp only [if_true,h1 hr,List.map_cons,List.sum_cons];omega
theorem tot_set:∀{S:List (Bool×Nat)} {k m n:Nat},S[k]?=some (false,m)->totS (S.set k (true,n))=totS S+n
  |[],_,_,_,h=>by cases h
  |q::S,0,m,n,h=>by
    simp only [List.getElem?_cons_zero,Option.some.injEq] at h
    subst h;simp [totS];omega
  |q::S,k+1,m,n,h=>by
    have ih:=tot_set (S:=S) (k:=k) (m:=m) (n:=n) (by simpa using h)
    simp only [totS,List.set_cons_succ,List.map_cons,List.sum_cons] at ih⊢;omega
structure RecI (c:Cfg) (F:FS) (nj:Nat) (K:Int):Prop where
  fw:FW F K
  st:StOk F.st K
  cf:F.cfg=c
  ws:F.ws.length=c.workers.toNat
  s1:∀k,nj<=k->k<64->∃m,(shapeF F.jobs)[k]?=some (false,m)
  s2:totS (shapeF F.jobs)<=5*nj
  n4:nj<=4
theorem RecI.op {c:Cfg} {F G:FS} {nj:Nat} {K:Int} (h:RecI c F nj K) (ok:FW G (K+1)/\StOk G.st (K+1)/\shapeF G.jobs=shapeF F.jobs) (hs:Same F G):RecI c G nj (K+1):=
  ⟨ok.1,ok.2.1,hs.1.trans h.cf,hs.2.trans h.ws,by rw [ok.2.2];exact h.s1,by rw [ok.2.2];exact h.s2,h.n4⟩
theorem Tr.inv {c:Cfg} {K:Nat} {js:List (List Task)} {es:List Evt} {F:FS} (hv:validCfg c=0) (h:Tr c K js es F):K<=4000->RecI c F js.length (K:Int):=by
 induction h with
 |nil=>
  intro _
  obtain ⟨h1,h2⟩:=newF_ok hv
  refine ⟨h1,h2,rfl,by simp [newF],?_,?_,by simp⟩
  · exact (by intro k _ hk;exact ⟨0,by simp only [newF,shapeF,List.map_replicate,List.getElem?_replicate,if_pos hk];rfl⟩)
  ·simp only [newF,shapeF,List.map_replicate,totS];simp [JS.zero]
 |@add K js es F l bd _ h4 hb hl h5 hs ih=>
  intro hK
  have i:=ih om
  obtain ⟨m,hm⟩:=i.s1 js.length (Nat.le_refl _) om
  have hj:∀j,F.jobs[(js.length:Int).toNat]?=some j->j.added=false:=(by intro j hj;rw [Int.toNat_natCast] at hj;unfold shapeF at hm;rw [List.getElem?_map,hj] at hm;exact (Prod.mk.inj (Option.some.inj hm)).1)
  have a:=add_ok (x:=(js.length:Int)) (bd:=bd) (l:=l) i.fw om hj hb hl
  have e:shapeF (addF F (js.length:Int) l bd).jobs=(shapeF F.jobs).set js.length (true,l.length):=(by simp only [addF,shapeF,List.map_set,Int.toNat_natCast,jobN,List.length_map])
  refine ⟨a.mono om om,i.st.mono om,i.cf,i.ws,?_,?_,by simp;omega⟩
  · exact (by intro k h1 h2;rw [List.length_append,List.length_singleton] at h1;obtain ⟨m2,a0⟩:=i.s1 k om h2;exact ⟨m2,by rw [e,List.getElem?_set,if_neg om];exact a0⟩)
  ·rw [e,tot_set hm,List.length_append,List.length_singleton];have:=i.s2;omega
 |cancel k _ ih=>intro hK;exact (ih om).op (by have:=ih om;exact cancel_ok this.fw this.st om) cancel_same
 |crash x _ ih=>intro hK;exact (ih om).op (by have:=ih om;exact crash_ok this.fw this.st om) crash_same
 |restart x _ ih=>intro hK;exact (ih om).op (by have:=ih om;exact restart_ok this.fw this.st om) restart_same
 |step x y _ ih=>intro hK;exact (ih om).op (by have:=ih om;exact step_ok this.fw this.st om) step_same
theorem RecI.fresh {c:Cfg} {F:FS} {nj:Nat} {K:Int} (h:RecI c F nj K) (hn:nj<4):∃j,F.jobs[(nj:Int).toNat]?=some j/\j.added=false:=by
  obtain ⟨m,hm⟩:=h.s1 nj (Nat.le_refl _) (by omega)
  rw [Int.toNat_natCast]
  unfold shapeF at hm;rw [List.getElem?_map] at hm
  cases hj:F.jobs[nj]? with
  |none=>rw [hj] at hm;cases hm
  |some j=>rw [hj] at hm;exact ⟨j,rfl,(Prod.mk.inj (Option.some.inj hm)).1⟩
theorem RecI.load {c:Cfg} {F:FS} {nj:Nat} {K:Int} (h:RecI c F nj K):loadL F.jobs<=20:=by
  have h1:=load_le (l:=F.jobs) (fun j hj=>(h.fw.j j hj).r)
  have h2:=h.s2
  have h3:=h.n4
  omega
theorem cancel_new {F:FS} {x bd:Int} {l:List Task} (h:F.jobs.length=64) (hx:0<=x/\x<64):(cancelF (addF F x l bd) x).2.1=[⟨2,0,0,x,0,0,0⟩]:=by
  rw [cancel_at (j:=jobN l bd) hx (by show (F.jobs.set x.toNat _)[x.toNat]?=_;rw [List.getElem?_set,if_pos rfl,if_pos (by omega)]) rfl rfl]
theorem cancel_len {F:FS} {k:Int}:(cancelF F k).2.1.length<=1:=by unfold cancelF;split;exact Nat.zero_le _;split<;>simp
theorem restart_len {F:FS} {x:Int}:(restartF F x).2.1.length<=1:=by unfold restartF;split;exact Nat.zero_le _;split<;>simp
theorem crash_len {F:FS} {x:Int}:(crashF F x).2.1.length<=1:=by unfold crashF;split;exact Nat.zero_le _;split<;>simp
theorem step_len {F:FS} {x c:Int}:(stepF F x c).2.1.length<=2:=by
  unfold stepF
  split
  · exact Nat.zero_le _
  · split
    · exact Nat.zero_le _
    · split
      · split<;>simp
      · unfold restF;split;simp;split<;>simp
theorem l31_record {p:Nat} {a:Option Addr} {n k:Nat} {i:Int} {xs:List Int} (hR:RdT Go.E.encI 1 [H] a n k xs) (hi:0<=i/\i<=n) (hS:Sat W w ([(p, .cells #[.slice a n k,I i] 72 (0,0))]::H::F)) (m0:Int) (hm:0<=m0/\m0<=60):
  Calls prog 7 #[Pt p 0,I m0] w fun e w'=>∃(c:Cfg) (aj:Option Addr) (nj:Nat) (kj:Nat) (js:List TL) (cj:Chunk) (Gj:Chunk) (ao:Option Addr) (no:Nat) (ko:Nat) (es:List Evt) (co:Chunk),e= .returned (.tuple #[.agg (encCfg c).toArray, .slice aj nj kj, .slice ao no ko])/\(validCfg c=0)/\(c.workers<=4/\c.arena=4096/\c.tasks=512)/\(OwnT encTL 45 1 aj nj kj js cj)/\(∀z∈js,TL.Ok [Gj] z)/\(OwnT encEvt 63 7 ao no ko es co)/\(∃(K:Nat) (F0:FS),K<=120/\Tr c K (js.map (·.l.l)) es F0)/\∃i':Int,(0<=i'/\i'<=n)/\Sat W w' ([(p, .cells #[.slice a n k,I i'] 72 (0,0))]::cj::Gj::co::H::F):=by
 have X1:=hR.le
 refine callsK 119 func7 rfl<|jCO 2 rfl<|sAlloc hS zeroValue24 fun b0 _ z2=>jOO 7 rfl ?_
 have a3:=(z2.pick 1 rfl)
 refine cZ (tg_config (hR.fl 1) om a3.flat1) ?_
 rintro _ _ ⟨k0,rfl,b3,c3,c1,_,d3⟩
 refine sAlloc (Sat.unflat1 d3) zeroValue24 fun c0 _ f3=>sTk f3 0 rfl (encCfg k0) fun _ g3=>jOO 5 rfl<|tWk g3 0 rfl 3 (I 4096) fun _ h3=>pu1<|tWk h3 0 rfl 5 (I 512) fun i3 j3=>nilO ?_
 obtain ⟨c,hc⟩:∃z:Cfg,z=(⟨k0.workers,k0.tileW,k0.tileH,4096,k0.deque,512,k0.cells,k0.jobs⟩:Cfg):=⟨_,rfl⟩
 have e2:Sat W i3 ([(c0, .cells (encCfg c).toArray 24 (0,0))]::[(p, .cells #[.slice a n k,I c1] 72 (0,0))]::[(b0, .cells #[I 0,I 0,I 0,I 0,I 0,I 0,I 0,I 0] 24 (0,0))]::H::F):=by subst hc;exact j3
 have hv:validCfg c=0:=by have h:=validCfg_zero b3;subst hc;unfold validCfg;rw [if_pos (by dsimp only;omega)]
 have A1:=validCfg_zero hv;have N1:c.workers<=4:=(by subst hc;exact c3);have H1:c.arena=4096:=(by subst hc;rfl);have H0:c.tasks=512:=(by subst hc;rfl)
 refine gXO e2 4 [800] rfl<|cZ (f_new c hv e2) ?_
 rintro _ _ ⟨f2,i1,rfl,k3,l3⟩
 refine jOC 24 rfl ?_
 have m3:=(l3.picks [1,3,3])
 have n3:Sat W _ ([(p, .cells #[.slice a n k,I c1] 72 (0,0))]::[(b0, .cells #[I 0,I 0,I 0,I 0,I 0,I 0,I 0,I 0] 24 (0,0))]::[(c0, .cells (encCfg c).toArray 24 (0,0))]::i1::([]:Chunk)::([]:Chunk)::([]:Chunk)::H::F):=Sat.perm (show Sat W _ ([(p, .cells #[.slice a n k,I c1] 72 (0,0))]::[(b0, .cells #[I 0,I 0,I 0,I 0,I 0,I 0,I 0,I 0] 24 (0,0))]::[(c0, .cells (encCfg c).toArray 24 (0,0))]::i1::H::F) from m3) (by simp)
 refine loopF [0,1,4,7,8] (γ:=Nat×Int×Nat×FS×Chunk×(Option Addr)×Nat×Nat×(List TL)×Chunk×Chunk×(Option Addr)×Nat×Nat×(List Evt)×Chunk) (fun ⟨i,it,K,F0,M0,aj,nj,kj,js,cj,Gj,ao,no,ko,es,co⟩ R=>⟨[(10, .slice aj nj kj),(11, .slice ao no ko),(12,I (i:Int))],[(p, .cells #[.slice a n k,I it] 72 (0,0))]::[(b0, .cells #[I 0,I 0,I 0,I 0,I 0,I 0,I 0,I 0] 24 (0,0))]::[(c0, .cells (encCfg c).toArray 24 (0,0))]::M0::cj::Gj::co::R,m0.toNat-i,i<=m0.toNat/\(0<=it/\it<=n)/\FarmR f2 F0 M0/\OwnT encTL 45 1 aj nj kj js cj/\(∀z∈js,TL.Ok [Gj] z)/\OwnT encEvt 63 7 ao no ko es co/\Tr c K (js.map (·.l.l)) es F0/\K<=2*i/\es.length<=4*i⟩) (0,c1,0,(newF c),i1,none,0,0,[],[],[],none,0,0,[],[]) ⟨n3,om,om,k3,OwnT.nil fR,(fun z hz=>by cases hz),OwnT.nil fR,Tr.nil,om,by simp⟩ ?_
 rintro ⟨i,it,K,F0,M0,aj,nj,kj,js,cj,Gj,ao,no,ko,es,co⟩ ρ _ ⟨j1,hi,W1,D0,A0,B0,Y0,C0,U1,V1⟩
 have G0:=A0.len;have O1:=A0.le;have T1:=Y0.ll;have hI:=C0.inv hv om;rw [List.length_map,G0] at hI;have Y1:=hI.n4;have Z1:=hI.ws
 refine jCO 7 rfl<|SD 28 ((i:Int)<m0) (fun o3=>gOO j1 16 [802] rfl<|sTk j1 1 rfl (encCfg c) fun _ g2=>jOR 5 rfl<|retN (vs:=[.agg (encCfg c).toArray, .slice aj nj kj, .slice ao no ko]) rfl (.cons (.cell _ _ _ _ kr (lvA g2 1 0 (encCfg c) (isAgg24 _) (sizeOf24 _) rfl rfl rfl)) (.cons (.tmp _ _ kr) (.cons (.tmp _ _ kr) .nil)))<|⟨c,_,_,_,js,_,_,_,_,_,es,_,rfl,hv,⟨N1,H1,H0⟩,A0,B0,Y0,⟨K,F0,om,C0⟩,_,om,(g2.drops [1,1,1])⟩) fun o3=>pu1<|gY<|cZ (tape_left (hR.fl 6) om j1.flat1) ?_
 rintro _ _ ⟨r3,rfl,s3⟩
 have d1:=s3.unflat1
 refine jOC 3 rfl ?_
 cases r3
 ·exact gCO d1 11 [802] rfl<|sTk d1 1 rfl (encCfg c) fun _ h2=>jOR 5 rfl<|retN (vs:=[.agg (encCfg c).toArray, .slice aj nj kj, .slice ao no ko]) rfl (.cons (.cell _ _ _ _ kr (lvA h2 1 0 (encCfg c) (isAgg24 _) (sizeOf24 _) rfl rfl rfl)) (.cons (.tmp _ _ kr) (.cons (.tmp _ _ kr) .nil)))<|⟨c,_,_,_,js,_,_,_,_,_,es,_,rfl,hv,⟨N1,H1,H0⟩,A0,B0,Y0,⟨K,F0,om,C0⟩,_,om,(h2.drops [1,1,1])⟩
 refine gCO d1 10 [2] rfl<|cZ (tape_next (hR.fl 6) om d1.flat1 c.workers om) ?_
 rintro _ _ ⟨a0,rfl,_,_,_,u3⟩
 have i2:=u3.unflat1
 refine jOC 8 rfl<|cutF i2 7 [0,1,4,7,8,11,12] (γ:=Int×Nat×FS×Chunk×(Option Addr)×Nat×Nat×(List TL)×Chunk×Chunk×(Option Addr)×Nat×Nat×(List Evt)×Chunk) (fun ⟨B1,K1,F1,M1,E1,L1,J1,C1,G1,D1,al,nl,kl,ls,Gl⟩ R=>⟨[(10, .slice E1 L1 J1),(14, .slice al nl kl)],[(p, .cells #[.slice a n k,I B1] 72 (0,0))]::[(b0, .cells #[I 0,I 0,I 0,I 0,I 0,I 0,I 0,I 0] 24 (0,0))]::[(c0, .cells (encCfg c).toArray 24 (0,0))]::M1::G1::D1::co::Gl::R,0,(0<=B1/\B1<=n)/\FarmR f2 F1 M1/\OwnT encTL 45 1 E1 L1 J1 C1 G1/\(∀z∈C1,TL.Ok [D1] z)/\OwnT encEvt 63 7 al nl kl ls Gl/\Tr c K1 (C1.map (·.l.l)) (es++ls) F1/\K1<=2*i+2/\ls.length<=4⟩) ?_ ?_
 rotate_left
 · exact (by rintro ⟨B1,K1,F1,M1,E1,L1,J1,C1,G1,D1,al,nl,kl,ls,Gl⟩ ρ _ ⟨v3,hit1,hR1,hOj1,hDj1,hOl,hTr1,hKi1,hll⟩;have Q1:=hOl.ll;exact jCO 3 rfl<|sApp (nb:=56) v3 Y0 6 (hOl.rdAt 7 rfl) underlying26 (i:=Tryz.t63) kr fR fun w3 x3 y3 _ z3 a4=>jOO 6 rfl<|sAdd (i:Int) 1<|jOI 2 rfl<|⟨(i+1,B1,K1,F1,M1,E1,L1,J1,C1,G1,D1,w3,(no+nl),x3,(es++ls),y3),od,alB,(a4.dropAt 7 rfl),om,om,hR1,hOj1,hDj1,z3,hTr1,om,by rw [List.length_append];omega⟩)
 refine jCO 3 rfl<|cZ (tape_next (hR.fl 6) om i2.flat1 18 om) ?_
 rintro _ _ ⟨s0,rfl,_,x0,_,c4⟩
 have d0:=c4.unflat1
 refine jOC 10 rfl<|cE s0 0 (fun j2=>?_) (fun j2=>?_)
 ·refine jCC 2 rfl<|cT _ (beq_iff_eq.2 j2)<|jCC 7 rfl<|CD ((nj:Int)<4) (fun d4=>jCI 2 rfl<|(by have e4:=Sat.nilc d0;exact ⟨(x0,K,F0,M0,aj,nj,kj,js,cj,Gj,none,0,0,[],([]:Chunk)),alB,(e4.picks [7,7,7,7,7,7,7]),om,D0,A0,B0,OwnT.nil fR,(by rw [List.append_nil];exact C0),om,(by first|omega|(simp<;>omega))⟩)) fun d4=>jCO 3 rfl<|cZ (tg_tasks (hR.fl 6) om d0.flat1 5 om) ?_
  rintro _ _ ⟨l0,n0,o0,e0,g0,h0,rfl,y0,k1,g4,k2,_,_,_,h4⟩
  have i4:=h4.unflat3
  have Z0:=y0.ll
  refine jOO 10 rfl<|cZ (tape_next (hR.fl 8) om i4.flat1 4 om) ?_
  rintro _ _ ⟨e1,rfl,_,_,_,j4⟩
  have k4:=j4.unflat1
  have l4:=(k4.pick 5 rfl)
  obtain ⟨ib,m4,o4⟩:=hI.fresh om
  have l2:validC e0=0:=validC_ok om om g4.2.2
  have P1:=hI.load;have E0:=hI.cf;have A1:=validCfg_zero hv
  refine cZ (f_add D0 hI.fw hI.st (nj:Int) l0 n0 o0 e0 e1 (RdT.flat (y0.rdAt 1 (by rfl))) (fun z hz=>(k1 z hz).of_mem (mF 2)) om m4 o4 om l2 (fun z hz=>by rw [E0,H1];have:=k2 z hz;omega) (by rw [E0,H0];omega) (by rw [E0,H0];omega) l4.flat1) ?_
  rintro _ _ ⟨l1,rfl,m2,p4⟩
  have q4:=p4.unflat1
  have f1:=Tr.add e0 e1 C0 (by rw [List.length_map];omega) om l2 om k2
  rw [List.length_map,G0] at f1
  have n2:=f1.inv hv om
  refine jOO 7 rfl<|sBK q4 #[I 1,I 0,I 0,I (nj:Int),I 0,I 0,I 0] 63 fun t0 _ r4=>jOO 7 rfl ?_
  have s4:=(r4.pick 2 rfl)
  refine cZ (tape_next (hR.fl 9) om s4.flat1 5 om) ?_
  rintro _ _ ⟨t4,rfl,_,u0,_,u4⟩
  have o2:=u4.unflat1
  refine jOC 3 rfl<|cE t4 4 (fun v4=>?_) (fun v4=>?_)
  rotate_left
  ·refine jCO 5 rfl<|sBK o2 #[.slice l0 n0 o0] 45 fun _ _ w4=>sApp (nb:=24) w4 A0 8 (RdT.blk (enc:=encTL) (sz:=1) (xs:=[(⟨⟨l0,n0,o0,e0⟩⟩:TL)]) fR 1 0 rfl rfl rfl om) underlying25 (i:=Tryz.t45) kr fR fun x4 y4 m1 _ z4 a5=>jOI 3 rfl ?_
   have b5:=OwnT.blk (enc:=encEvt) (sz:=7) (b:=t0) (c:=#[I 1,I 0,I 0,I (nj:Int),I 0,I 0,I 0]) (E:=63) (xs:=[(⟨1,0,0,(nj:Int),0,0,0⟩:Evt)]) fR 1 rfl rfl rfl om
   have c5:=((a5.picks [10,10,7,7,10,8,10,10,9]).dropAt 9 rfl)
   have d5:Sat W _ ([(p, .cells #[.slice a n k,I u0] 72 (0,0))]::[(b0, .cells #[I 0,I 0,I 0,I 0,I 0,I 0,I 0,I 0] 24 (0,0))]::[(c0, .cells (encCfg c).toArray 24 (0,0))]::l1::m1::(g0++(h0++Gj))::co::[(t0, .cells #[I 1,I 0,I 0,I (nj:Int),I 0,I 0,I 0] 63 (0,0))]::H::F):=Sat.perm (show Sat W _ ([(p, .cells #[.slice a n k,I u0] 72 (0,0))]::[(b0, .cells #[I 0,I 0,I 0,I 0,I 0,I 0,I 0,I 0] 24 (0,0))]::[(c0, .cells (encCfg c).toArray 24 (0,0))]::l1::m1::g0::h0::Gj::co::[(t0, .cells #[I 1,I 0,I 0,I (nj:Int),I 0,I 0,I 0] 63 (0,0))]::H::F) from c5) (by simp)
   exact ⟨(u0,K+1,(addF F0 (nj:Int) e0 e1),l1,x4,(nj+1),y4,(js++[(⟨⟨l0,n0,o0,e0⟩⟩:TL)]),m1,(g0++(h0++Gj)),(At t0 0),1,1,[(⟨1,0,0,(nj:Int),0,0,0⟩:Evt)],[(t0, .cells #[I 1,I 0,I 0,I (nj:Int),I 0,I 0,I 0] 63 (0,0))]),alB,d5,om,m2,z4,(by
     intro z hz
     rcases List.mem_append.1 hz with h|h
     ·exact (B0 z h).of_mem mS
     ·rw [List.mem_singleton.1 h];exact ⟨(y0.rdAt (cs:=[g0,h0,Gj]) 0 rfl).of_mem (fun p hp=>by simp at hp⊢;exact hp),fun y hy=>(k1 y hy).of_mem mS⟩),b5,(by rw [List.map_append];exact f1),om,(by first|omega|(simp<;>omega))⟩
  refine jCO 5 rfl ?_
  have e5:=(o2.pick 2 rfl)
  refine cZ (f_cancel m2 n2.fw n2.st (nj:Int) e5.flat1) ?_
  rintro _ _ ⟨_,_,_,_,n1,rfl,q2,f5,g5⟩
  have h5:=g5.unflat2;have Q0:=q2.ll
  have o1:=Tr.cancel (nj:Int) f1
  rw [cancel_new hI.fw.jl om] at o1
  refine jOO 7 rfl<|sBK h5 #[I 2,I 0,I 0,I (nj:Int),I 0,I 0,I 0] 63 fun _ _ i5=>sApp (nb:=56) i5 (OwnT.blk (enc:=encEvt) (sz:=7) (b:=t0) (c:=#[I 1,I 0,I 0,I (nj:Int),I 0,I 0,I 0]) (E:=63) (xs:=[(⟨1,0,0,(nj:Int),0,0,0⟩:Evt)]) fR 1 rfl rfl rfl om) 4 (RdT.blk (enc:=encEvt) (sz:=7) (xs:=[(⟨2,0,0,(nj:Int),0,0,0⟩:Evt)]) fR 1 0 rfl rfl rfl om) underlying26 (i:=Tryz.t63) kr fR fun k5 l5 q1 _ m5 n5=>jOO 6 rfl<|sBK n5 #[.slice l0 n0 o0] 45 fun _ _ o5=>sApp (nb:=24) o5 A0 10 (RdT.blk (enc:=encTL) (sz:=1) (xs:=[(⟨⟨l0,n0,o0,e0⟩⟩:TL)]) fR 1 0 rfl rfl rfl om) underlying25 (i:=Tryz.t45) kr fR fun p5 q5 r1 _ r5 s5=>jOI 3 rfl ?_
  have t5:=((s5.picks [12,12,9,9,12,8,12,12,11]).drops [9,9,9])
  have u5:Sat W _ ([(p, .cells #[.slice a n k,I u0] 72 (0,0))]::[(b0, .cells #[I 0,I 0,I 0,I 0,I 0,I 0,I 0,I 0] 24 (0,0))]::[(c0, .cells (encCfg c).toArray 24 (0,0))]::n1::r1::(g0++(h0++Gj))::co::q1::H::F):=Sat.perm (show Sat W _ ([(p, .cells #[.slice a n k,I u0] 72 (0,0))]::[(b0, .cells #[I 0,I 0,I 0,I 0,I 0,I 0,I 0,I 0] 24 (0,0))]::[(c0, .cells (encCfg c).toArray 24 (0,0))]::n1::r1::g0::h0::Gj::co::q1::H::F) from t5) (by simp)
  exact ⟨(u0,K+1+1,(cancelF (addF F0 (nj:Int) e0 e1) (nj:Int)).1,n1,p5,(nj+1),q5,(js++[(⟨⟨l0,n0,o0,e0⟩⟩:TL)]),r1,(g0++(h0++Gj)),k5,(1+1),l5,([(⟨1,0,0,(nj:Int),0,0,0⟩:Evt)]++[(⟨2,0,0,(nj:Int),0,0,0⟩:Evt)]),q1),alB,u5,om,f5,r5,(by
    intro z hz
    rcases List.mem_append.1 hz with h|h
    ·exact (B0 z h).of_mem mS
    ·rw [List.mem_singleton.1 h];exact ⟨(y0.rdAt (cs:=[g0,h0,Gj]) 0 rfl).of_mem (fun p hp=>by simp at hp⊢;exact hp),fun y hy=>(k1 y hy).of_mem mS⟩),m5,(by rw [List.map_append];rw [List.append_assoc] at o1;exact o1),om,(by first|omega|(simp<;>omega))⟩
 refine jCC 5 rfl<|cE s0 1 (fun v5=>?_) (fun v5=>?_)
 rotate_left
 ·refine jCC 6 rfl<|cE s0 2 (fun w5=>jCO 3 rfl<|(by have x5:=(d0.pick 3 rfl);refine cZ (f_crash D0 hI.fw hI.st a0 (by have:=hI.ws;omega) x5.flat1) ?_;rintro _ _ ⟨y5,z5,a6,b6,c6,rfl,s1,d6,e6⟩;have f6:=e6.unflat2;have S0:=s1.ll;have g6:=Tr.crash a0 C0;have I1:=crash_len (F:=F0) (x:=a0);exact jOI 6 rfl<|⟨(x0,K+1,(crashF F0 a0).1,c6,aj,nj,kj,js,cj,Gj,y5,z5,a6,(crashF F0 a0).2.1,b6),alB,(f6.picks [7,7,7,4,7,7,7]),om,d6,A0,B0,s1,g6,om,(by first|omega|(simp<;>omega))⟩)) fun w5=>?_
  refine jCC 7 rfl<|cE s0 3 (fun r2=>jCC 2 rfl<|cT _ (beq_iff_eq.2 r2)<|jCO 3 rfl<|(by have i6:=(d0.pick 3 rfl);refine cZ (f_restart D0 hI.fw hI.st a0 i6.flat1) ?_;rintro _ _ ⟨j6,k6,l6,m6,n6,rfl,t1,o6,p6⟩;have q6:=p6.unflat2;have T0:=t1.ll;have r6:=Tr.restart a0 C0;have I1:=restart_len (F:=F0) (x:=a0);exact jOI 6 rfl<|⟨(x0,K+1,(restartF F0 a0).1,n6,aj,nj,kj,js,cj,Gj,j6,k6,l6,(restartF F0 a0).2.1,m6),alB,(q6.picks [7,7,7,4,7,7,7]),om,o6,A0,B0,t1,r6,om,(by first|omega|(simp<;>omega))⟩)) fun r2=>?_
  refine jCC 5 rfl<|cE s0 4 (fun t6=>jCO 3 rfl<|(by have u6:=(d0.pick 3 rfl);refine cZ (f_restart D0 hI.fw hI.st a0 u6.flat1) ?_;rintro _ _ ⟨v6,w6,x6,y6,z6,rfl,u1,a7,b7⟩;have c7:=b7.unflat2;have U0:=u1.ll;have d7:=Tr.restart a0 C0;have I1:=restart_len (F:=F0) (x:=a0);exact jOI 6 rfl<|⟨(x0,K+1,(restartF F0 a0).1,z6,aj,nj,kj,js,cj,Gj,v6,w6,x6,(restartF F0 a0).2.1,y6),alB,(c7.picks [7,7,7,4,7,7,7]),om,a7,A0,B0,u1,d7,om,(by first|omega|(simp<;>omega))⟩)) fun t6=>?_
  refine jCC 6 rfl<|CE s0 5 (fun f7=>jCO 4 rfl<|cZ (tape_next (hR.fl 6) om d0.flat1 9 om)<|(by rintro _ _ ⟨z0,rfl,_,g7,_,h7⟩;have i7:=h7.unflat1;have j7:=(i7.pick 3 rfl);refine cZ (f_step D0 hI.fw hI.st a0 z0 j7.flat1) ?_;rintro _ _ ⟨k7,l7,m7,n7,o7,rfl,v1,p7,q7⟩;have r7:=q7.unflat2;have W0:=v1.ll;have s7:=Tr.step a0 z0 C0;have I1:=step_len (F:=F0) (x:=a0) (c:=z0);exact jOI 6 rfl<|⟨(g7,K+1,(stepF F0 a0 z0).1,o7,aj,nj,kj,js,cj,Gj,k7,l7,m7,(stepF F0 a0 z0).2.1,n7),alB,(r7.picks [7,7,7,4,7,7,7]),om,p7,A0,B0,v1,s7,om,(by first|omega|(simp<;>omega))⟩)) fun f7=>?_
  refine jCO 3 rfl<|cZ (tape_next (hR.fl 6) om d0.flat1 3 om) ?_
  rintro _ _ ⟨u7,rfl,_,v7,_,w7⟩
  have s2:=w7.unflat1
  refine jOC 3 rfl<|CE u7 2 (fun x7=>jCI 2 rfl<|(by have y7:=Sat.nilc s2;exact ⟨(v7,K,F0,M0,aj,nj,kj,js,cj,Gj,none,0,0,[],([]:Chunk)),alB,(y7.picks [7,7,7,7,7,7,7]),om,D0,A0,B0,OwnT.nil fR,(by rw [List.append_nil];exact C0),om,(by first|omega|(simp<;>omega))⟩)) fun x7=>jCO 3 rfl<|cZ (tape_next (hR.fl 6) om s2.flat1 4 om) ?_
  rintro _ _ ⟨a1,rfl,_,a8,_,b8⟩
  have c8:=b8.unflat1
  have d8:=(c8.pick 3 rfl)
  refine cZ (f_cancel D0 hI.fw hI.st a1 d8.flat1) ?_
  rintro _ _ ⟨e8,f8,g8,h8,i8,rfl,w1,j8,k8⟩
  have l8:=k8.unflat2;have V0:=w1.ll
  have m8:=Tr.cancel a1 C0
  have I1:=cancel_len (F:=F0) (k:=a1)
  exact jOI 6 rfl<|⟨(a8,K+1,(cancelF F0 a1).1,i8,aj,nj,kj,js,cj,Gj,e8,f8,g8,(cancelF F0 a1).2.1,h8),alB,(l8.picks [7,7,7,4,7,7,7]),om,j8,A0,B0,w1,m8,om,(by first|omega|(simp<;>omega))⟩
 refine jCC 7 rfl<|CD ((nj:Int)<4) (fun o8=>jCI 2 rfl<|(by have p8:=Sat.nilc d0;exact ⟨(x0,K,F0,M0,aj,nj,kj,js,cj,Gj,none,0,0,[],([]:Chunk)),alB,(p8.picks [7,7,7,7,7,7,7]),om,D0,A0,B0,OwnT.nil fR,(by rw [List.append_nil];exact C0),om,(by first|omega|(simp<;>omega))⟩)) fun o8=>jCO 3 rfl<|cZ (tg_tasks (hR.fl 6) om d0.flat1 5 om) ?_
 rintro _ _ ⟨p0,q0,r0,f0,i0,j0,rfl,b1,x1,r8,t2,_,_,_,s8⟩
 have t8:=s8.unflat3
 have X0:=b1.ll
 refine jOO 10 rfl<|cZ (tape_next (hR.fl 8) om t8.flat1 4 om) ?_
 rintro _ _ ⟨g1,rfl,_,_,_,u8⟩
 have v8:=u8.unflat1
 have w8:=(v8.pick 5 rfl)
 obtain ⟨ad,x8,y8⟩:=hI.fresh om
 have u2:validC f0=0:=validC_ok om om r8.2.2
 have P1:=hI.load;have E0:=hI.cf;have A1:=validCfg_zero hv
 refine cZ (f_add D0 hI.fw hI.st (nj:Int) p0 q0 r0 f0 g1 (RdT.flat (b1.rdAt 1 (by rfl))) (fun z hz=>(x1 z hz).of_mem (mF 2)) om x8 y8 om u2 (fun z hz=>by rw [E0,H1];have:=t2 z hz;omega) (by rw [E0,H0];omega) (by rw [E0,H0];omega) w8.flat1) ?_
 rintro _ _ ⟨y1,rfl,v2,z8⟩
 have a9:=z8.unflat1
 have h1:=Tr.add f0 g1 C0 (by rw [List.length_map];omega) om u2 om t2
 rw [List.length_map,G0] at h1
 have w2:=h1.inv hv om
 refine jOO 7 rfl<|sBK a9 #[I 1,I 0,I 0,I (nj:Int),I 0,I 0,I 0] 63 fun v0 _ b9=>jOO 7 rfl ?_
 have c9:=(b9.pick 2 rfl)
 refine cZ (tape_next (hR.fl 9) om c9.flat1 5 om) ?_
 rintro _ _ ⟨d9,rfl,_,w0,_,e9⟩
 have x2:=e9.unflat1
 refine jOC 3 rfl<|cE d9 4 (fun f9=>?_) (fun f9=>?_)
 rotate_left
 ·refine jCO 5 rfl<|sBK x2 #[.slice p0 q0 r0] 45 fun _ _ g9=>sApp (nb:=24) g9 A0 8 (RdT.blk (enc:=encTL) (sz:=1) (xs:=[(⟨⟨p0,q0,r0,f0⟩⟩:TL)]) fR 1 0 rfl rfl rfl om) underlying25 (i:=Tryz.t45) kr fR fun h9 i9 z1 _ j9 k9=>jOI 3 rfl ?_
  have l9:=OwnT.blk (enc:=encEvt) (sz:=7) (b:=v0) (c:=#[I 1,I 0,I 0,I (nj:Int),I 0,I 0,I 0]) (E:=63) (xs:=[(⟨1,0,0,(nj:Int),0,0,0⟩:Evt)]) fR 1 rfl rfl rfl om
  have m9:=((k9.picks [10,10,7,7,10,8,10,10,9]).dropAt 9 rfl)
  have n9:Sat W _ ([(p, .cells #[.slice a n k,I w0] 72 (0,0))]::[(b0, .cells #[I 0,I 0,I 0,I 0,I 0,I 0,I 0,I 0] 24 (0,0))]::[(c0, .cells (encCfg c).toArray 24 (0,0))]::y1::z1::(i0++(j0++Gj))::co::[(v0, .cells #[I 1,I 0,I 0,I (nj:Int),I 0,I 0,I 0] 63 (0,0))]::H::F):=Sat.perm (show Sat W _ ([(p, .cells #[.slice a n k,I w0] 72 (0,0))]::[(b0, .cells #[I 0,I 0,I 0,I 0,I 0,I 0,I 0,I 0] 24 (0,0))]::[(c0, .cells (encCfg c).toArray 24 (0,0))]::y1::z1::i0::j0::Gj::co::[(v0, .cells #[I 1,I 0,I 0,I (nj:Int),I 0,I 0,I 0] 63 (0,0))]::H::F) from m9) (by simp)
  exact ⟨(w0,K+1,(addF F0 (nj:Int) f0 g1),y1,h9,(nj+1),i9,(js++[(⟨⟨p0,q0,r0,f0⟩⟩:TL)]),z1,(i0++(j0++Gj)),(At v0 0),1,1,[(⟨1,0,0,(nj:Int),0,0,0⟩:Evt)],[(v0, .cells #[I 1,I 0,I 0,I (nj:Int),I 0,I 0,I 0] 63 (0,0))]),alB,n9,om,v2,j9,(by
    intro z hz
    rcases List.mem_append.1 hz with h|h
    ·exact (B0 z h).of_mem mS
    ·rw [List.mem_singleton.1 h];exact ⟨(b1.rdAt (cs:=[i0,j0,Gj]) 0 rfl).of_mem (fun p hp=>by simp at hp⊢;exact hp),fun y hy=>(x1 y hy).of_mem mS⟩),l9,(by rw [List.map_append];exact h1),om,(by first|omega|(simp<;>omega))⟩
 refine jCO 5 rfl ?_
 have o9:=(x2.pick 2 rfl)
 refine cZ (f_cancel v2 w2.fw w2.st (nj:Int) o9.flat1) ?_
 rintro _ _ ⟨_,_,_,_,a2,rfl,y2,p9,q9⟩
 have r9:=q9.unflat2;have R0:=y2.ll
 have b2:=Tr.cancel (nj:Int) h1
 rw [cancel_new hI.fw.jl om] at b2
 refine jOO 7 rfl<|sBK r9 #[I 2,I 0,I 0,I (nj:Int),I 0,I 0,I 0] 63 fun _ _ s9=>sApp (nb:=56) s9 (OwnT.blk (enc:=encEvt) (sz:=7) (b:=v0) (c:=#[I 1,I 0,I 0,I (nj:Int),I 0,I 0,I 0]) (E:=63) (xs:=[(⟨1,0,0,(nj:Int),0,0,0⟩:Evt)]) fR 1 rfl rfl rfl om) 4 (RdT.blk (enc:=encEvt) (sz:=7) (xs:=[(⟨2,0,0,(nj:Int),0,0,0⟩:Evt)]) fR 1 0 rfl rfl rfl om) underlying26 (i:=Tryz.t63) kr fR fun u9 v9 c2 _ w9 x9=>jOO 6 rfl<|sBK x9 #[.slice p0 q0 r0] 45 fun _ _ y9=>sApp (nb:=24) y9 A0 10 (RdT.blk (enc:=encTL) (sz:=1) (xs:=[(⟨⟨p0,q0,r0,f0⟩⟩:TL)]) fR 1 0 rfl rfl rfl om) underlying25 (i:=Tryz.t45) kr fR fun z9 aa d2 _ ba ca=>jOI 3 rfl ?_
 have da:=((ca.picks [12,12,9,9,12,8,12,12,11]).drops [9,9,9])
 have ea:Sat W _ ([(p, .cells #[.slice a n k,I w0] 72 (0,0))]::[(b0, .cells #[I 0,I 0,I 0,I 0,I 0,I 0,I 0,I 0] 24 (0,0))]::[(c0, .cells (encCfg c).toArray 24 (0,0))]::a2::d2::(i0++(j0++Gj))::co::c2::H::F):=Sat.perm (show Sat W _ ([(p, .cells #[.slice a n k,I w0] 72 (0,0))]::[(b0, .cells #[I 0,I 0,I 0,I 0,I 0,I 0,I 0,I 0] 24 (0,0))]::[(c0, .cells (encCfg c).toArray 24 (0,0))]::a2::d2::i0::j0::Gj::co::c2::H::F) from da) (by simp)
 exact ⟨(w0,K+1+1,(cancelF (addF F0 (nj:Int) f0 g1) (nj:Int)).1,a2,z9,(nj+1),aa,(js++[(⟨⟨p0,q0,r0,f0⟩⟩:TL)]),d2,(i0++(j0++Gj)),u9,(1+1),v9,([(⟨1,0,0,(nj:Int),0,0,0⟩:Evt)]++[(⟨2,0,0,(nj:Int),0,0,0⟩:Evt)]),c2),alB,ea,om,p9,ba,(by
   intro z hz
   rcases List.mem_append.1 hz with h|h
   ·exact (B0 z h).of_mem mS
   ·rw [List.mem_singleton.1 h];exact ⟨(b1.rdAt (cs:=[i0,j0,Gj]) 0 rfl).of_mem (fun p hp=>by simp at hp⊢;exact hp),fun y hy=>(x1 y hy).of_mem mS⟩),w9,(by rw [List.map_append];rw [List.append_assoc] at b2;exact b2),om,(by first|omega|(simp<;>omega))⟩
end Go.Proofs.YtkadmghedmodbaaGreat

namespace Go.Proofs.YtkadmghedmodbaaGreat
open Go Go.E Go.ChangeShapes Go.WideShapes Go.RowKit
set_option linter.unusedVariables false
set_option linter.unusedSimpArgs false
set_option maxRecDepth 100000
theorem open_Cfg {H:Type} {enc:TypeId×Value->H} {w:World} {n:Nat} {cs:List Value} {y:DataW H×List MemPlace} (h:DataW.trod enc Tryz.prog w 0 (fun _=>true) true n 24 cs=some y):∃t:Cfg,cs=encCfg t/\True:=by
 obtain ⟨ys,n1,_,_,hl,hyl,hf⟩:=DataW.trod_struct Tryz.underlying24 h
 have hl9:cs.length=8:=hl.trans kr
 obtain ⟨c0,c1,c2,c3,c4,c5,c6,c7,rfl⟩:∃c0 c1 c2 c3 c4 c5 c6 c7,cs=[c0,c1,c2,c3,c4,c5,c6,c7]:=by
  rcases cs with _|⟨c0,_|⟨c1,_|⟨c2,_|⟨c3,_|⟨c4,_|⟨c5,_|⟨c6,_|⟨c7,_|⟨_,_⟩⟩⟩⟩⟩⟩⟩⟩⟩<;>first|exact ⟨c0,c1,c2,c3,c4,c5,c6,c7,rfl⟩|(simp at hl9;done)|(simp at hl9;omega)
 have g1:DataW.trod enc Tryz.prog w 0 (fun _=>true) true n1 3 [c0]=ys[0]?:=Eq.mp kr (hf 0 _ rfl)
 obtain ⟨z2,hz3,_,hw4⟩:=DataW.trod_int Tryz.underlying3 (g1.trans (List.getElem?_eq_getElem (by rw [hyl];decide)))
 simp only [List.cons.injEq,and_true] at hz3;subst hz3
 have g5:DataW.trod enc Tryz.prog w 0 (fun _=>true) true n1 3 [c1]=ys[1]?:=Eq.mp kr (hf 1 _ rfl)
 obtain ⟨z6,hz7,_,hw8⟩:=DataW.trod_int Tryz.underlying3 (g5.trans (List.getElem?_eq_getElem (by rw [hyl];decide)))
 simp only [List.cons.injEq,and_true] at hz7;subst hz7
 have g9:DataW.trod enc Tryz.prog w 0 (fun _=>true) true n1 3 [c2]=ys[2]?:=Eq.mp kr (hf 2 _ rfl)
 obtain ⟨z10,hz11,_,hw12⟩:=DataW.trod_int Tryz.underlying3 (g9.trans (List.getElem?_eq_getElem (by rw [hyl];decide)))
 simp only [List.cons.injEq,and_true] at hz11;subst hz11
 have g13:DataW.trod enc Tryz.prog w 0 (fun _=>true) true n1 3 [c3]=ys[3]?:=Eq.mp kr (hf 3 _ rfl)
 obtain ⟨z14,hz15,_,hw16⟩:=DataW.trod_int Tryz.underlying3 (g13.trans (List.getElem?_eq_getElem (by rw [hyl];decide)))
 simp only [List.cons.injEq,and_true] at hz15;subst hz15
 have g17:DataW.trod enc Tryz.prog w 0 (fun _=>true) true n1 3 [c4]=ys[4]?:=Eq.mp kr (hf 4 _ rfl)
 obtain ⟨z18,hz19,_,hw20⟩:=DataW.trod_int Tryz.underlying3 (g17.trans (List.getElem?_eq_getElem (by rw [hyl];decide)))
 simp only [List.cons.injEq,and_true] at hz19;subst hz19
 have g21:DataW.trod enc Tryz.prog w 0 (fun _=>true) true n1 3 [c5]=ys[5]?:=Eq.mp kr (hf 5 _ rfl)
 obtain ⟨z22,hz23,_,hw24⟩:=DataW.trod_int Tryz.underlying3 (g21.trans (List.getElem?_eq_getElem (by rw [hyl];decide)))
 simp only [List.cons.injEq,and_true] at hz23;subst hz23
 have g25:DataW.trod enc Tryz.prog w 0 (fun _=>true) true n1 3 [c6]=ys[6]?:=Eq.mp kr (hf 6 _ rfl)
 obtain ⟨z26,hz27,_,hw28⟩:=DataW.trod_int Tryz.underlying3 (g25.trans (List.getElem?_eq_getElem (by rw [hyl];decide)))
 simp only [List.cons.injEq,and_true] at hz27;subst hz27
 have g29:DataW.trod enc Tryz.prog w 0 (fun _=>true) true n1 3 [c7]=ys[7]?:=Eq.mp kr (hf 7 _ rfl)
 obtain ⟨z30,hz31,_,hw32⟩:=DataW.trod_int Tryz.underlying3 (g29.trans (List.getElem?_eq_getElem (by rw [hyl];decide)))
 simp only [List.cons.injEq,and_true] at hz31;subst hz31
 exact ⟨⟨z2,z6,z10,z14,z18,z22,z26,z30⟩,rfl,trivial⟩
theorem open_Evt {H:Type} {enc:TypeId×Value->H} {w:World} {n:Nat} {cs:List Value} {y:DataW H×List MemPlace} (h:DataW.trod enc Tryz.prog w 0 (fun _=>true) true n 63 cs=some y):∃t:Evt,cs=encEvt t/\True:=by
 obtain ⟨ys,n1,_,_,hl,hyl,hf⟩:=DataW.trod_struct Tryz.underlying63 h
 have hl9:cs.length=7:=hl.trans kr
 obtain ⟨c0,c1,c2,c3,c4,c5,c6,rfl⟩:∃c0 c1 c2 c3 c4 c5 c6,cs=[c0,c1,c2,c3,c4,c5,c6]:=by
  rcases cs with _|⟨c0,_|⟨c1,_|⟨c2,_|⟨c3,_|⟨c4,_|⟨c5,_|⟨c6,_|⟨_,_⟩⟩⟩⟩⟩⟩⟩⟩<;>first|exact ⟨c0,c1,c2,c3,c4,c5,c6,rfl⟩|(simp at hl9;done)|(simp at hl9;omega)
 have g1:DataW.trod enc Tryz.prog w 0 (fun _=>true) true n1 3 [c0]=ys[0]?:=Eq.mp kr (hf 0 _ rfl)
 obtain ⟨z2,hz3,_,hw4⟩:=DataW.trod_int Tryz.underlying3 (g1.trans (List.getElem?_eq_getElem (by rw [hyl];decide)))
 simp only [List.cons.injEq,and_true] at hz3;subst hz3
 have g5:DataW.trod enc Tryz.prog w 0 (fun _=>true) true n1 3 [c1]=ys[1]?:=Eq.mp kr (hf 1 _ rfl)
 obtain ⟨z6,hz7,_,hw8⟩:=DataW.trod_int Tryz.underlying3 (g5.trans (List.getElem?_eq_getElem (by rw [hyl];decide)))
 simp only [List.cons.injEq,and_true] at hz7;subst hz7
 have g9:DataW.trod enc Tryz.prog w 0 (fun _=>true) true n1 3 [c2]=ys[2]?:=Eq.mp kr (hf 2 _ rfl)
 obtain ⟨z10,hz11,_,hw12⟩:=DataW.trod_int Tryz.underlying3 (g9.trans (List.getElem?_eq_getElem (by rw [hyl];decide)))
 simp only [List.cons.injEq,and_true] at hz11;subst hz11
 have g13:DataW.trod enc Tryz.prog w 0 (fun _=>true) true n1 3 [c3]=ys[3]?:=Eq.mp kr (hf 3 _ rfl)
 obtain ⟨z14,hz15,_,hw16⟩:=DataW.trod_int Tryz.underlying3 (g13.trans (List.getElem?_eq_getElem (by rw [hyl];decide)))
 simp only [List.cons.injEq,and_true] at hz15;subst hz15
 have g17:DataW.trod enc Tryz.prog w 0 (fun _=>true) true n1 61 [c4,c5]=ys[4]?:=Eq.mp kr (hf 4 _ rfl)
 obtain ⟨ys18,n19,_,_,_,hyl20,hf21⟩:=DataW.trod_struct Tryz.underlying61 (g17.trans (List.getElem?_eq_getElem (by rw [hyl];decide)))
 have g22:DataW.trod enc Tryz.prog w 0 (fun _=>true) true n19 3 [c4]=ys18[0]?:=Eq.mp kr (hf21 0 _ rfl)
 obtain ⟨z23,hz24,_,hw25⟩:=DataW.trod_int Tryz.underlying3 (g22.trans (List.getElem?_eq_getElem (by rw [hyl20];decide)))
 simp only [List.cons.injEq,and_true] at hz24;subst hz24
 have g26:DataW.trod enc Tryz.prog w 0 (fun _=>true) true n19 3 [c5]=ys18[1]?:=Eq.mp kr (hf21 1 _ rfl)
 obtain ⟨z27,hz28,_,hw29⟩:=DataW.trod_int Tryz.underlying3 (g26.trans (List.getElem?_eq_getElem (by rw [hyl20];decide)))
 simp only [List.cons.injEq,and_true] at hz28;subst hz28
 have g30:DataW.trod enc Tryz.prog w 0 (fun _=>true) true n1 39 [c6]=ys[5]?:=Eq.mp kr (hf 5 _ rfl)
 obtain ⟨z31,hz32,_,hw33⟩:=DataW.trod_int Tryz.underlying39 (g30.trans (List.getElem?_eq_getElem (by rw [hyl];decide)))
 simp only [List.cons.injEq,and_true] at hz32;subst hz32
 exact ⟨⟨z2,z6,z10,z14,z23,z27,z31⟩,rfl,trivial⟩
theorem open_Task {H:Type} {enc:TypeId×Value->H} {w:World} {n:Nat} {cs:List Value} {y:DataW H×List MemPlace} (h:DataW.trod enc Tryz.prog w 0 (fun _=>true) true n 51 cs=some y):∃t:Task,cs=encTask t/\Task.Ok [blocks w] t:=by
 obtain ⟨ys,n1,_,_,hl,hyl,hf⟩:=DataW.trod_struct Tryz.underlying51 h
 have hl9:cs.length=9:=hl.trans kr
 obtain ⟨c0,c1,c2,c3,c4,c5,c6,c7,c8,rfl⟩:∃c0 c1 c2 c3 c4 c5 c6 c7 c8,cs=[c0,c1,c2,c3,c4,c5,c6,c7,c8]:=by
  rcases cs with _|⟨c0,_|⟨c1,_|⟨c2,_|⟨c3,_|⟨c4,_|⟨c5,_|⟨c6,_|⟨c7,_|⟨c8,_|⟨_,_⟩⟩⟩⟩⟩⟩⟩⟩⟩⟩<;>first|exact ⟨c0,c1,c2,c3,c4,c5,c6,c7,c8,rfl⟩|(simp at hl9;done)|(simp at hl9;omega)
 have g1:DataW.trod enc Tryz.prog w 0 (fun _=>true) true n1 3 [c0]=ys[0]?:=Eq.mp kr (hf 0 _ rfl)
 obtain ⟨z2,hz3,_,hw4⟩:=DataW.trod_int Tryz.underlying3 (g1.trans (List.getElem?_eq_getElem (by rw [hyl];decide)))
 simp only [List.cons.injEq,and_true] at hz3;subst hz3
 have g5:DataW.trod enc Tryz.prog w 0 (fun _=>true) true n1 3 [c1]=ys[1]?:=Eq.mp kr (hf 1 _ rfl)
 obtain ⟨z6,hz7,_,hw8⟩:=DataW.trod_int Tryz.underlying3 (g5.trans (List.getElem?_eq_getElem (by rw [hyl];decide)))
 simp only [List.cons.injEq,and_true] at hz7;subst hz7
 have g9:DataW.trod enc Tryz.prog w 0 (fun _=>true) true n1 49 [c2,c3,c4,c5]=ys[2]?:=Eq.mp kr (hf 2 _ rfl)
 obtain ⟨ys10,n11,_,_,_,hyl12,hf13⟩:=DataW.trod_struct Tryz.underlying49 (g9.trans (List.getElem?_eq_getElem (by rw [hyl];decide)))
 have g14:DataW.trod enc Tryz.prog w 0 (fun _=>true) true n11 3 [c2]=ys10[0]?:=Eq.mp kr (hf13 0 _ rfl)
 obtain ⟨z15,hz16,_,hw17⟩:=DataW.trod_int Tryz.underlying3 (g14.trans (List.getElem?_eq_getElem (by rw [hyl12];decide)))
 simp only [List.cons.injEq,and_true] at hz16;subst hz16
 have g18:DataW.trod enc Tryz.prog w 0 (fun _=>true) true n11 3 [c3]=ys10[1]?:=Eq.mp kr (hf13 1 _ rfl)
 obtain ⟨z19,hz20,_,hw21⟩:=DataW.trod_int Tryz.underlying3 (g18.trans (List.getElem?_eq_getElem (by rw [hyl12];decide)))
 simp only [List.cons.injEq,and_true] at hz20;subst hz20
 have g22:DataW.trod enc Tryz.prog w 0 (fun _=>true) true n11 3 [c4]=ys10[2]?:=Eq.mp kr (hf13 2 _ rfl)
 obtain ⟨z23,hz24,_,hw25⟩:=DataW.trod_int Tryz.underlying3 (g22.trans (List.getElem?_eq_getElem (by rw [hyl12];decide)))
 simp only [List.cons.injEq,and_true] at hz24;subst hz24
 have g26:DataW.trod enc Tryz.prog w 0 (fun _=>true) true n11 3 [c5]=ys10[3]?:=Eq.mp kr (hf13 3 _ rfl)
 obtain ⟨z27,hz28,_,hw29⟩:=DataW.trod_int Tryz.underlying3 (g26.trans (List.getElem?_eq_getElem (by rw [hyl12];decide)))
 simp only [List.cons.injEq,and_true] at hz28;subst hz28
 have g30:DataW.trod enc Tryz.prog w 0 (fun _=>true) true n1 22 [c6]=ys[3]?:=Eq.mp kr (hf 3 _ rfl)
 obtain ⟨a31,m32,k33,l34,hz35,hR36⟩:=ints_row Tryz.underlying22 Tryz.underlying3 kr (g30.trans (List.getElem?_eq_getElem (by rw [hyl];decide)))
 simp only [List.cons.injEq,and_true] at hz35;subst hz35
 have g37:DataW.trod enc Tryz.prog w 0 (fun _=>true) true n1 3 [c7]=ys[4]?:=Eq.mp kr (hf 4 _ rfl)
 obtain ⟨z38,hz39,_,hw40⟩:=DataW.trod_int Tryz.underlying3 (g37.trans (List.getElem?_eq_getElem (by rw [hyl];decide)))
 simp only [List.cons.injEq,and_true] at hz39;subst hz39
 have g41:DataW.trod enc Tryz.prog w 0 (fun _=>true) true n1 3 [c8]=ys[5]?:=Eq.mp kr (hf 5 _ rfl)
 obtain ⟨z42,hz43,_,hw44⟩:=DataW.trod_int Tryz.underlying3 (g41.trans (List.getElem?_eq_getElem (by rw [hyl];decide)))
 simp only [List.cons.injEq,and_true] at hz43;subst hz43
 exact ⟨⟨z2,z6,z15,z19,z23,z27,⟨a31,m32,k33,l34⟩,z38,z42⟩,rfl,⟨hR36⟩⟩
theorem open_TL {H:Type} {enc:TypeId×Value->H} {w:World} {n:Nat} {cs:List Value} {y:DataW H×List MemPlace} (h:DataW.trod enc Tryz.prog w 0 (fun _=>true) true n 45 cs=some y):∃t:TL,cs=encTL t/\TL.Ok [blocks w] t:=by
  obtain ⟨a,m,k,l,hz,hR,hQ⟩:=structs_row (en:=encTask) (sz:=9) (fun _=>rfl) (by decide) Tryz.underlying45 (by kernel_rfl) (fun n cs y h=>open_Task h) h
  exact ⟨⟨⟨a,m,k,l⟩⟩,hz,⟨hR,hQ⟩⟩
end Go.Proofs.YtkadmghedmodbaaGreat
