import Derived.Test.YtghcddbhllkbmaaGreatR4P4Tz
namespace Go.Proofs.YtghcddbhllkbmaaGreat
open Go Go.E Go.Proofs.Tryz
set_option linter.all false
set_option maxRecDepth 100000
set_option maxHeartbeats 2000000
variable {W w:World} {H:Chunk} {F:List Chunk}
theorem r20_low (p:Job) (tw:Int) (th:Int) (hp:Job.Ok [H] p) (hb:p.inputs.n<=1000000/\p.stages.n<=1000000/\p.outputs.n<=1000000) (hS:Sat W w (H::F)):
  Calls prog 10 #[.agg (encJob p).toArray,I tw,I th] w fun e w'=>∃(az:Option Addr) (nz kz:Nat) (zs:List Task) (Z G:Chunk),e= .returned (.tuple #[.slice az nz kz,I (lowC p.v tw th)])/\OwnT encTask 47 9 az nz kz zs Z/\(∀z∈zs,Task.Ok [G] z)/\zs.map Task.v=lowV p.v tw th/\Sat W w' (Z::G::H::F):=by
 have F1:=hp.inputs.le;have F0:=hp.inputs.len
 have G1:=hp.stages.le;have D0:=hp.stages.len
 have D1:=hp.outputs.ll
 have u4:p.v.inputs.length=p.inputs.n:=by simp [Job.v,F0]
 have J4:p.v.stages.length=p.stages.n:=by simp [Job.v,D0]
 refine callsK 225 func10 rfl<|jCO 2 rfl<|sBx hS (encJob p) fun i0 _ s2=>gOO s2 9 [400] rfl<|cZ (r20_check p tw th (hp.of_mem (mF 1)) (od) s2.flat) ?_
 rintro _ _ ⟨e4,h0,f4,j0,rfl,i1,g4⟩
 have v0:=g4.unflat1
 have W2:=i1.ll
 refine jOC 16 rfl<|CN (ckC p.v tw th) 0 (fun i4=>jCR 9 rfl<|retT [nS,I (ckC p.v tw th)]<|(by have j4:=(v0.drops [0,0]);have k4:Sat W _ ([]::[]::H::F):=Sat.nilc (Sat.nilc j4);have hk:lowC p.v tw th=(ckC p.v tw th):=(by rw [low_ck,if_neg om]);exact ⟨none,0,0,[],_,_,by rw [hk];rfl,OwnT.nil fR,(fun z hz=>by cases hz),by unfold lowV;rw [if_neg (by rw [hk];omega)];rfl,k4⟩)) fun i4=>jCC 9 rfl<|cD ((ckN p.v tw th)>4096) (fun l4=>jCR 8 rfl<|retT [nS,I 13]<|(by have m4:=(v0.drops [0,0]);have n4:Sat W _ ([]::[]::H::F):=Sat.nilc (Sat.nilc m4);have hk:lowC p.v tw th=13:=(by rw [low_ck,if_pos om,if_neg (by have h:ckN p.v tw th=(layV p.v tw th).total:=(by unfold ckN;rw [if_pos om]);omega)]);exact ⟨none,0,0,[],_,_,by rw [hk];rfl,OwnT.nil fR,(fun z hz=>by cases hz),by unfold lowV;rw [if_neg (by rw [hk];omega)];rfl,n4⟩)) fun l4=>jCC 3 rfl ?_
 have V2:ckC p.v tw th=0:=by omega
 obtain ⟨D4,B4⟩:=ck_zero V2
 obtain ⟨L,hL⟩:∃z:Lay,z=layV p.v tw th:=⟨_,rfl⟩
 have hg:LayG L:=hL▸lay_ok (shp_ok D4) B4
 have I2:L.ni=(p.inputs.n:Int):=by rw [hL,<-u4];rfl
 have I3:L.ss=p.stages.l.map Stage.v:=by rw [hL];rfl
 have H2:L.ss.length=p.stages.n:=by rw [I3,List.length_map];exact D0
 have F4:L.sh=(shpV p.v).1:=by rw [hL];rfl
 have W0:L.tw=tw/\L.th=th:=by rw [hL];exact ⟨rfl,rfl⟩
 have W3:=hg.ni;rw [I2,H2] at W3;have U3:=hg.len;rw [I2,H2] at U3;have Q3:=hg.tl;rw [W0.1,W0.2] at Q3;unfold tileP at Q3;have L4:=hg.totb
 have M4:ckN p.v tw th=L.total:=by unfold ckN;rw [if_pos V2,hL]
 have L2:lowC p.v tw th=0:=by rw [low_ck,if_pos V2,if_pos (by rw [<-hL];omega)]
 have w4:ckS p.v tw th=L.sh:=by unfold ckS;rw [if_pos V2,hL];rfl
 have n0:=i1;rw [w4] at n0;have K4:=n0.len
 refine gCO v0 2 [401] rfl<|cZ (r17_order p (hp.of_mem (mF 2)) (od) v0.flat) ?_
 rintro _ _ ⟨_,j1,_,k0,rfl,k1,o4⟩
 have p4:=o4.unflat1
 have M2:=k1.ll
 refine jOX 6 rfl ?_
 have l1:=k1;rw [show (ordV p.v).1=L.od by rw [hL];rfl] at l1;have I4:=l1.len;have Z3:=hg.ln;rw [H2] at Z3
 refine jXO 5 rfl<|sMake (kl:= .i64) (kc:= .i64) (enc:=encGrp) (sz:=4) (nb:=32) p4 ⟨0,0,0,0⟩ h0 (h0:Int) (rfl:(h0:Int)=(h0:Int)) underlying88 (i:=Tryz.t93) kr fR fun q4 r4 _ s4 t4=>jOC 15 rfl<|loopF [1,2,3,8,11] (γ:=Nat×(List Task)×(Option Addr)×Nat×Nat×Chunk×Chunk×(List Grp)×SO) (fun ⟨i,zs,E2,A0,Q2,T2,R2,gs,H1,O1,N1,E1⟩ R=>⟨[(15,I (i:Int)),(14, .slice E2 A0 Q2),(13, .slice H1 O1 N1)],R2::T2::E1::R,j1-i,i<=j1/\(zs.map Task.v=(L.od.take i).flatMap L.tasks)/\((zs.length:Int)=((L.od.take i).map L.cnt).sum)/\(∀y∈L.od.take i,gs[y.toNat]?=some (grpV L y))/\(gs.length=p.inputs.n+p.stages.n)/\OwnT encTask 47 9 E2 A0 Q2 zs T2/\(∀z∈zs,Task.Ok [R2] z)/\OwnT encGrp 93 4 H1 O1 N1 gs E1⟩) (0,[],none,0,0,[],[],(List.replicate h0 ⟨0,0,0,0⟩),(At q4 0),h0,h0,r4) ⟨(Sat.nilc (Sat.nilc t4)),om,by rfl,(by simp),(by intro y hy;simp at hy),(by simp;omega),(OwnT.nil (enc:=encTask) (E:=47) (sz:=9) fR),(by intro z hz;cases hz),s4⟩ ?_
 rintro ⟨i,zs,E2,A0,Q2,T2,R2,gs,H1,O1,N1,E1⟩ ρ _ ⟨o0,hi,hE,H3,hG,V3,B1,G2,K0⟩
 have N2:=B1.len;have M3:=B1.le
 have N3:=K0.ll
 have N4:=take_sum_le hg i
 refine jCC 9 rfl<|CD ((i:Int)<(j1:Int)) (fun x4=>jCR 13 rfl<|retT [.slice E2 A0 Q2,I 0]<|(by have y4:=((o0.pick 1 rfl).drops [2,2,2,2]);have hz:zs.map Task.v=lowV p.v tw th:=(by unfold lowV;rw [if_pos L2,<-hL];unfold Lay.all;rw [hE,List.take_of_length_le om]);exact ⟨_,_,_,_,_,_,by rw [L2];rfl,B1,G2,hz,y4⟩)) fun x4=>jCO 8 rfl<|sIN l1 i fun b0 _ _ e0 z4=>?_
 have Q0:b0∈L.od:=List.mem_of_getElem? e0;have v4:=hg.rng b0 Q0;rw [I2,H2] at v4;have K1:L.first b0=(A0:Int):=by rw [<-N2,H3];exact (hg.first_at (take_split e0)).1
 have H4:=hg.firstb Q0;have J3:=hg.byt Q0
 refine sMp o0 (z4.up 3 rfl) 0 (I b0)<|gOO o0 11 [5,5] rfl<|sSub b0 (p.inputs.n:Int)<|sII hp.stages (b0-(p.inputs.n:Int)) fun a0 _ _ g0 a5=>?_
 have C0:L.st b0=a0.v:=by unfold Lay.st;rw [I3,I2];exact stg_at (by rw [show (b0-(p.inputs.n:Int)).toNat=(b0-(p.inputs.n:Int)).toNat from rfl];exact map_at (f:=Stage.v) g0)
 have A4:=hg.src Q0 a0.a (by rw [C0];exact a_src _);rw [I2,H2] at A4;rw [C0] at J3;have J2:=J3;unfold bytOK at J2;simp only [Stage.v] at J2
 refine sMA o0 (a5.up 6 rfl) 0 (encStage a0)<|sAlloc o0 zeroValue53 fun p0 _ b5=>sTk b5 0 rfl (encStage a0) fun _ t2=>gOO t2 7 [1800] rfl<|cS (r20_grid a0 e4 h0 f4 L.sh b0 ((hp.stagesD a0 (List.mem_of_getElem? g0)).of_mem (mF 7)) (n0.fl 5) (od) t2.flat) fun _ c5=>jOX 6 rfl ?_
 obtain ⟨m,hm⟩:∃z:Shape,z=L.cut b0:=⟨_,rfl⟩;have Y3:cutV a0.v L.sh b0=m:=(by rw [hm,cut_v C0]);rw [Y3]
 have E3:=hg.fine Q0;rw [<-hm,W0.1,W0.2] at E3;have K3:=hg.cutsz Q0;rw [<-hm] at K3;unfold szP at K3;have X3:=hg.grid Q0;have G4:=hg.cntb Q0
 refine jXO 7 rfl<|cS (r5_count m.w m.h tw th c5.flat) fun _ d5=>jOX 6 rfl ?_
 obtain ⟨nx,X2⟩:∃z,z=colsN m.w m.h tw th:=⟨_,rfl⟩;obtain ⟨ny,Y2⟩:∃z,z=rowsN m.w m.h tw th:=⟨_,rfl⟩;rw [<-X2,<-Y2]
 have E0:L.nx b0=nx:=by unfold Lay.nx;rw [<-hm,W0.1,W0.2,X2]
 have R0:L.ny b0=ny:=by unfold Lay.ny;rw [<-hm,W0.1,W0.2,Y2]
 rw [E0,R0] at X3
 refine jXO 7 rfl<|sMul nx ny<|pu3<|sAlloc d5 zeroValue93 fun q0 _ e5=>sTk e5 0 rfl [I (A0:Int),I (nx*ny),I m.w,I m.h] fun _ w0=>jOC 7 rfl<|cutF w0 0 [1,2,3,8,11,15,14,13,16,17,18,19,20,21,22] (γ:=Int) (fun pt R=>⟨[(23,I pt)],R,0,L.part b0=pt⟩) ?_ ?_
 ·exact gCC w0 7 [1] rfl<|CE a0.kind 4 (fun m1=>jCI 1 rfl<|⟨0,alB,w0,(by unfold Lay.part;rw [C0];exact if_neg m1)⟩) fun m1=>jCI 3 rfl<|⟨1,alB,w0,(by unfold Lay.part;rw [C0];exact if_pos m1)⟩
 rintro pt ρ _ ⟨f5,D2⟩
 refine jCC 7 rfl ?_
 have g5:=(f5.pick 3 rfl)
 refine loopF [1,2,3,8,11,15,13,16,17,18,19,20,21,22,23] (γ:=Nat×(List Task)×(Option Addr)×Nat×Nat×Chunk×Chunk) (fun ⟨k,zt,S2,P1,Z2,F2,L0⟩ R=>⟨[(24,I (k:Int)),(14, .slice S2 P1 Z2)],L0::F2::R,((nx*ny).toNat)-k,k<=(nx*ny).toNat/\(zt.map Task.v=zs.map Task.v++(uptoV k).map (L.tileT b0))/\(zt.length=zs.length+k)/\OwnT encTask 47 9 S2 P1 Z2 zt F2/\(∀z∈zt,Task.Ok [L0] z)⟩) (0,zs,E2,A0,Q2,T2,R2) ⟨(g5.pick 3 rfl),om,(by simp [uptoV]),om,B1,G2⟩ ?_
 rintro ⟨k,zt,S2,P1,Z2,F2,L0⟩ ρ _ ⟨l0,hk,U2,E4,V0,A1⟩
 have O3:=V0.ll
 refine jCO 6 rfl<|sMul nx ny<|jOC 3 rfl<|cD ((k:Int)<(nx*ny)) (fun i5=>?_) (fun i5=>?_)
 rotate_left
 ·refine jCC 7 rfl ?_
  have L3:k=(nx*ny).toNat:=by omega
  have R3:(zt.length:Int)=(zs.length:Int)+nx*ny:=by omega
  refine gCC l0 6 [3] rfl<|CE a0.kind 4 (fun m0=>gCO l0 6 [402] rfl<|sIO K0 b0 (b0).toNat fun j5 _ _ k5 _ l5=>sStF l0 K0 l5 4 (b0).toNat 0 j5 (⟨(A0:Int),(nx*ny),m.w,m.h⟩:Grp) k5 (.agg #[I (A0:Int),I (nx*ny),I m.w,I m.h]) [I (A0:Int),I (nx*ny),I m.w,I m.h] sizeOf93 fun _ m5 n5 o5=>jOO 5 rfl<|sAdd (i:Int) 1<|jOI 2 rfl<|(by have K2:L.cnt b0=nx*ny:=(by unfold Lay.cnt;rw [C0,if_neg (show ¬a0.v.kind=4 from m0),E0,R0]);exact ⟨(i+1,zt,S2,P1,Z2,F2,L0,(gs.set ((b0).toNat) (⟨(A0:Int),(nx*ny),m.w,m.h⟩:Grp)),H1,O1,N1,m5),od,alB,(o5.drops [2,2]),om,(by rw [take_flat (f:=L.tasks) e0,U2,hE,L3];unfold Lay.tasks;rw [C0,if_neg (show ¬a0.v.kind=4 from m0),E0,R0,List.append_nil]),(by rw [sum_take (f:=L.cnt) e0,<-H3,K2];omega),(grp_set hg e0 hG (by unfold grpV;rw [K1,K2,<-hm]) om),(by simp;omega),V0,A1,n5⟩)) fun m0=>gCO l0 5 [3] rfl<|sAlloc l0 zeroValue45 fun _ _ q5=>sTk q5 0 rfl [I 0,I 0,I a0.bins,I 1] fun _ r5=>jOC 3 rfl ?_
  have L1:inP (⟨0,0,a0.bins,1⟩:Rct):=by unfold inP;dsimp only;omega
  obtain ⟨f0,q9,r9,u2,s5,t5⟩:=RdT.elem n0 a0.a
  refine drawF r5 [10,13,16,18,19] (fb 2 0 0 4<|fb 3 4 0 18<|fb 6 4 1 1<|fp 8 (s5.up 7 rfl)<|fb 9 0 0 4<|fb 12 3 1 1<|fb 15 3 0 1<|fn) [0,1,4,5,11,14,2,3,6,7,8,9,12,15,10,13,16,17,18,19,20] fun _ u5=>wV 6<|wG 0 4<|wG 4 18<|wL 22<|wI t5<|wG 23 3<|wG 26 4<|wL 30<|wL 31<|wO rfl<|cS (r20_scratch a0 f0 2 (⟨0,0,a0.bins,1⟩:Rct) ((hp.stagesD a0 (List.mem_of_getElem? g0)).of_mem (mF 9)) u5.flat) fun _ v2=>nZ v2 [0,4,3,3]<|wO rfl<|cZ (r20_upto (nx*ny) (od) v2.flat) ?_
  rintro _ _ ⟨_,_,_,_,rfl,n1,v5⟩
  have w2:=v5.unflat1
  have P0:=n1.len;have W1:=n1.le
  have C4:=P0;rw [upto_len] at C4
  refine nZ w2 [1,5,4]<|wO rfl ?_
  have w5:=Sat.nilc w2
  refine cZ (r20_insert (OwnT.nil (enc:=Go.E.encI) (E:=3) (sz:=1) fR) (ms:=(uptoV (nx*ny).toNat)) (RdT.flat (n1.rdAt 0 (by rfl))) (A0:Int) (by simp [Asc]) (fun x hx=>by have h:=mem_upto.1 hx;omega) om om w5.flat1) ?_
  rintro _ _ ⟨z0,a1,b1,c1,rfl,o1,y5⟩
  have x2:=y5.unflat1;have C2:=o1.ll
  refine nZ x2 [2,6]<|wV 1<|wO rfl<|sBK x2 #[I b0,I 2,I 0,I 0,I a0.bins,I 1, .slice z0 a1 b1,I 1,I (scrV a0.v f0 2 (⟨0,0,a0.bins,1⟩:Rct))] 47 fun _ _ y2=>nZ y2 [3,7]<|wO rfl<|sApp (nb:=88) y2 V0 5 (RdT.blk (enc:=encTask) (sz:=9) (xs:=[(⟨b0,2,0,0,a0.bins,1,⟨z0,a1,b1,(insV (A0:Int) (uptoV (nx*ny).toNat) ([]))⟩,1,(scrV a0.v f0 2 (⟨0,0,a0.bins,1⟩:Rct))⟩:Task)]) fR 1 0 rfl rfl rfl om) underlying33 (i:=Tryz.t47) kr fR fun z5 a6 q1 _ b6 r1=>nZ r1 [3,7]<|wV 1<|wN<|gXO r1 4 [6] rfl<|sAdd (nx*ny) 1<|pu1<|tWk r1 6 rfl 1 (I ((nx*ny)+1)) fun _ z2=>gOO z2 6 [406] rfl<|sIO K0 b0 (b0).toNat fun c6 _ _ d6 _ e6=>sStF z2 K0 e6 8 (b0).toNat 0 c6 (⟨(A0:Int),((nx*ny)+1),m.w,m.h⟩:Grp) d6 (.agg #[I (A0:Int),I ((nx*ny)+1),I m.w,I m.h]) [I (A0:Int),I ((nx*ny)+1),I m.w,I m.h] sizeOf93 fun _ s1 f6 g6=>jOO 5 rfl<|sAdd (i:Int) 1<|jOI 2 rfl ?_
  have K2:L.cnt b0=nx*ny+1:=by unfold Lay.cnt;rw [C0,if_pos (show a0.v.kind=4 from m0),E0,R0]
  have T3:(insV (A0:Int) (uptoV (nx*ny).toNat) ([]))=canonV ((uptoV (nx*ny).toNat).map ((A0:Int)+·)):=insV_canon _ _ []
  have O2:(scrV a0.v f0 2 (⟨0,0,a0.bins,1⟩:Rct))=bytV a0.v f0.h ⟨0,0,a0.bins,1⟩:=by have h:=hg.scr Q0 (p:=2) (r:=⟨0,0,a0.bins,1⟩) (by rw [C0];intro h;have h1:=h.1;simp only [Stage.v] at h1;omega) (by rw [C0];exact .inl ⟨m0, .inr rfl⟩) L1;rw [C0,shp_at' (show L.sh[a0.v.a.toNat]?=some f0 from u2)] at h;exact h
  have P2:Task.v (⟨b0,2,0,0,a0.bins,1,⟨z0,a1,b1,(insV (A0:Int) (uptoV (nx*ny).toNat) ([]))⟩,1,(scrV a0.v f0 2 (⟨0,0,a0.bins,1⟩:Rct))⟩:Task)=L.mergeT b0:=by unfold Lay.mergeT Lay.task;rw [C0,E0,R0,K1,shp_at' (show L.sh[a0.v.a.toNat]?=some f0 from u2),<-T3,if_pos rfl];show _=(⟨_,_,_,_,_,_,_,_,bytV a0.v f0.h ⟨0,0,a0.bins,1⟩⟩:TaskV);rw [<-O2];rfl
  have h6:=(g6.drops [0,1,1,3,3])
  exact ⟨(i+1,(zt++[(⟨b0,2,0,0,a0.bins,1,⟨z0,a1,b1,(insV (A0:Int) (uptoV (nx*ny).toNat) ([]))⟩,1,(scrV a0.v f0 2 (⟨0,0,a0.bins,1⟩:Rct))⟩:Task)]),z5,(P1+1),a6,q1,(c1++L0),(gs.set ((b0).toNat) (⟨(A0:Int),((nx*ny)+1),m.w,m.h⟩:Grp)),H1,O1,N1,s1),od,alB,(Sat.perm (cs':=(c1++L0)::(q1::s1::k0::j0::[(i0, .cells (encJob p).toArray 28 (0,0))]::H::F)) (show Sat W _ (c1::L0::q1::s1::k0::j0::[(i0, .cells (encJob p).toArray 28 (0,0))]::H::F) from h6) (by simp)),om,(by rw [take_flat (f:=L.tasks) e0,List.map_append,U2,hE,L3,List.append_assoc];congr 1;unfold Lay.tasks;rw [C0,if_pos (show a0.v.kind=4 from m0),E0,R0];simp only [List.map_cons,List.map_nil];rw [P2]),(by rw [sum_take (f:=L.cnt) e0,<-H3,K2];rw [List.length_append,List.length_singleton];omega),(grp_set hg e0 hG (by unfold grpV;rw [K1,K2,<-hm]) om),(by simp;omega),b6,(by
    intro z hz
    rcases List.mem_append.1 hz with h|h
    ·exact (A1 z h).of_mem mS
    ·simp only [List.mem_singleton] at h;subst h;exact ⟨(o1.rdAt (cs:=[c1]) 0 rfl).of_mem mS⟩),f6⟩
 refine jCO 11 rfl<|cS (r5_tile m.w m.h tw th (k:Int) E3 ⟨om,by rw [<-X2,<-Y2];omega⟩ l0.flat) fun _ j6=>pu3<|sAlloc j6 zeroValue45 fun k6 _ l6=>sTk l6 0 rfl [I ((tileV m.w m.h tw th (k:Int)).x0),I ((tileV m.w m.h tw th (k:Int)).y0),I ((tileV m.w m.h tw th (k:Int)).x1),I ((tileV m.w m.h tw th (k:Int)).y1)] fun m6 n6=>jOX 2 rfl ?_
 obtain ⟨r,hr⟩:∃z:Rct,z=(tileV m.w m.h tw th (k:Int)):=⟨_,rfl⟩
 have o6:Sat W m6 ([(k6, .cells (encRct r).toArray 45 (0,0))]::L0::F2::[(q0, .cells #[I (A0:Int),I (nx*ny),I m.w,I m.h] 93 (0,0))]::[(p0, .cells (encStage a0).toArray 53 (0,0))]::E1::k0::j0::[(i0, .cells (encJob p).toArray 28 (0,0))]::H::F):=by rw [hr];exact n6
 have L1:inP r:=by rw [hr];exact (tile_in E3 om (by rw [<-X2,<-Y2];omega)).1
 have P3:L.tile b0 (k:Int)=r:=by rw [hr];unfold Lay.tile;rw [<-hm,W0.1,W0.2]
 have F3:=L1;unfold inP at F3
 refine jXC 2 rfl ?_
 obtain ⟨d0,ja,ka,d1,e1,p6⟩:=RdT.elem n0 a0.a
 refine drawG o6 [16,18,19] (fb 2 0 0 4<|fb 4 0 3 1<|fb 6 0 1 1<|fb 8 4 0 18<|fb 11 4 1 1<|fp 13 (e1.up 7 rfl)<|fb 15 0 0 4<|fn) (pS [0,1,3,5,9,10,14,2,4,6,7,8,11,12,13,15]<| .fk 16 18 (pS [17]<| .ef 18<| .ef 19<| .fin) (.ef 16<|pS [17]<| .ef 19<| .fin)) fun _ a3=>qV 7<|qG 0 4<|qL 4<|qL 5<|qSub r.y1 r.y0<|qG 6 18<|qL 24<|qI p6<|qG 25 3<|qG 28 4<|qF ?_ ?_
 ·refine qO rfl<|cS (r20_scratch a0 d0 pt r ((hp.stagesD a0 (List.mem_of_getElem? g0)).of_mem (mF 9)) a3.flat) fun _ b3=>nZ b3 [0,0,0,4]<|qV 1<|qO rfl<|sAlloc b3 zeroValue47 fun t1 _ c3=>nZ c3 [1,1,1,5]<|qO rfl<|sTk c3 0 rfl [I b0,I pt,I r.x0,I r.y0,I r.x1,I r.y1,nS,I (r.y1-r.y0),I (scrV a0.v d0 pt r)] fun _ u1=>nA<|qN<|jXC 1 rfl<|cutF u1 1 [1,2,3,8,11,15,13,16,17,18,19,20,21,22,23,24,14,25,27] (γ:=Int) (fun sc R=>⟨[],[(t1, .cells #[I b0,I pt,I r.x0,I r.y0,I r.x1,I r.y1,nS,I (r.y1-r.y0),I sc] 47 (0,0))]::R,0,sc=bytV a0.v d0.h r⟩) ?_ ?_
  ·exact gCO u1 3 [1805] rfl<|cS (r15_two a0 ((hp.stagesD a0 (List.mem_of_getElem? g0)).of_mem (mF 10)) u1.flat) fun _ v1=>jOC 2 rfl<|CD (a0.kind=6/\¬a0.b=-1) (fun w1=>jCI 1 rfl<|⟨(scrV a0.v d0 pt r),alB,v1,(by have h:=hg.scr Q0 (p:=pt) (r:=r) (by rw [C0];exact fun h=>w1 h) (by rw [<-D2];unfold Lay.part belongP;rw [C0];by_cases h4:a0.v.kind=4<;>simp [h4]) L1;rw [C0,shp_at' (show L.sh[a0.v.a.toNat]?=some d0 from d1)] at h;exact h)⟩) fun w1=>gCO v1 5 [1,1] rfl<|sSub r.x1 r.x0<|sMul 8 (r.x1-r.x0)<|cS (r1_align (8*(r.x1-r.x0)) 16 1099511627776 (od) v1.flat) fun _ q6=>pu4<|tWk q6 0 rfl 8 (I (alnX (8*(r.x1-r.x0)) 16 1099511627776)) fun _ r6=>jOI 1 rfl<|⟨(alnX (8*(r.x1-r.x0)) 16 1099511627776),alB,r6,(by rw [byt_two (show twoP a0.v from w1)];exact aln_ok om om)⟩
  rintro sc ρ _ ⟨d3,O2⟩
  refine gCO d3 8 [409,1805,401] rfl<|cZ (r20_depends p a0 H1 O1 N1 gs tw th r (hp.of_mem (mF 10)) ((hp.stagesD a0 (List.mem_of_getElem? g0)).of_mem (mF 10)) (RdT.flat (K0.rdAt 6 (by rfl))) om (hL▸hg) (hL▸grp_src hg e0 C0 hG) L1 d3.flat) ?_
  rintro _ _ ⟨e3,f3,g3,s6,rfl,f1,t6⟩
  have u6:=t6.unflat1
  have N0:=f1.len;have Q1:=f1.le
  refine pu1<|tWk u6 1 rfl 6 (.slice e3 f3 g3) fun _ r0=>nilO ?_
  have B3:=N0;have I1:=canon_len ((layV p.v tw th).needs a0.v r);have C3:=flat_len2 (s:=a0.v) (r:=r) hg (srcs a0.v) (fun y hy=>by have h:=hg.src Q0 y (C0▸hy);exact h.2.2);have D3:=srcs_len a0.v;rw [<-hL] at B3 I1;have J1:(L.needs a0.v r).length<=40000:=by unfold Lay.needs;omega
  refine jXC 1 rfl<|cutF r0 2 [1,2,3,8,11,15,13,16,17,18,19,20,21,22,23,24,14,27] (γ:=(List Int)×SO) (fun ⟨T0,X0,S0,Z0,Y0⟩ R=>⟨[],Y0::[(t1, .cells #[I b0,I pt,I r.x0,I r.y0,I r.x1,I r.y1, .slice X0 S0 Z0,I (r.y1-r.y0),I sc] 47 (0,0))]::R,0,OwnT Go.E.encI 3 1 X0 S0 Z0 T0 Y0/\T0=canonV (L.needs a0.v r++(if (a0.kind=5/\(k:Int).tmod nx>0) then [(A0:Int)+(k:Int)-1] else []))⟩) ?_ ?_
  ·refine cutF r0 0 [1,2,3,8,11,15,13,16,17,18,19,20,21,22,23,24,14,27] (γ:=Unit) (fun _ R=>⟨[(158, .bool (decide (a0.kind=5/\(k:Int).tmod nx>0)))],R,0,True⟩) ?_ ?_
   ·exact gCO r0 5 [6] rfl<|SE 153 a0.kind 5 (fun v6=>jOI 6 rfl<|⟨(),⟨⟨(mF0 om),trivial⟩,sA⟩,r0,trivial⟩) fun v6=>pu2<|gY<|sRem (k:Int) nx<|jOI 3 rfl<|⟨(),⟨⟨(mB (decide ((((k:Int).tmod nx):Int)>0)) bm),trivial⟩,sA⟩,r0,trivial⟩
   rintro _ ρ _ ⟨z1,_⟩
   refine CD (a0.kind=5/\(k:Int).tmod nx>0) (fun a2=>jCI 1 rfl<|⟨((canonV ((layV p.v tw th).needs a0.v r)),e3,f3,g3,s6),alB,z1,f1,(by rw [hL];simp only [if_neg a2,insV_canon,List.map_cons,List.map_nil,List.append_assoc,List.append_nil,List.nil_append,List.singleton_append,List.cons_append,Int.add_sub_assoc])⟩) fun a2=>gCO z1 4 [1] rfl<|sSub (k:Int) 1<|sBK z1 #[I ((k:Int)-1)] 3 fun _ _ h3=>gOO h3 2 [6] rfl ?_
   have w6:=(h3.pick 1 rfl)
   refine cZ (r20_insert f1 (ms:=([((k:Int)-1)])) (RdT.flat (RdT.blk (enc:=Go.E.encI) (sz:=1) (xs:=[((k:Int)-1)]) (fun _=>(by rfl)) 1 0 rfl rfl rfl om)) (A0:Int) (asc_canon _) (fun x hx=>by rw [List.mem_singleton.1 hx];omega) om om w6.flat1) ?_
   rintro _ _ ⟨i3,j3,k3,x6,rfl,b2,y6⟩
   have z6:=y6.unflat1;have Y1:=b2.ll
   exact pu1<|tWk z6 2 rfl 6 (.slice i3 j3 k3) fun _ a7=>jOI 1 rfl<|⟨((insV (A0:Int) ([((k:Int)-1)]) (canonV ((layV p.v tw th).needs a0.v r))),i3,j3,k3,x6),alB,(a7.dropAt 1 rfl),b2,(by rw [hL];simp only [if_pos a2,insV_canon,List.map_cons,List.map_nil,List.append_assoc,List.append_nil,List.nil_append,List.singleton_append,List.cons_append,Int.add_sub_assoc])⟩
  rintro ⟨T0,X0,S0,Z0,Y0⟩ ρ _ ⟨s0,B0,C1⟩
  refine cutF s0 2 [1,2,3,8,11,15,13,16,17,18,19,20,21,22,23,24,14,27] (γ:=(List Int)×SO) (fun ⟨M0,G0,J0,I0,H0⟩ R=>⟨[],H0::[(t1, .cells #[I b0,I pt,I r.x0,I r.y0,I r.x1,I r.y1, .slice G0 J0 I0,I (r.y1-r.y0),I sc] 47 (0,0))]::R,0,OwnT Go.E.encI 3 1 G0 J0 I0 M0 H0/\M0=canonV (L.needs a0.v r++L.own b0 (k:Int))⟩) ?_ ?_
  rotate_left
  ·rintro ⟨M0,G0,J0,I0,H0⟩ ρ _ ⟨l3,U0,A3⟩
   refine gCO l3 3 [901] rfl<|sBK l3 #[I b0,I pt,I r.x0,I r.y0,I r.x1,I r.y1, .slice G0 J0 I0,I (r.y1-r.y0),I sc] 47 fun _ _ c7=>sApp (nb:=88) c7 V0 5 (RdT.blk (enc:=encTask) (sz:=9) (xs:=[(⟨b0,pt,r.x0,r.y0,r.x1,r.y1,⟨G0,J0,I0,M0⟩,(r.y1-r.y0),sc⟩:Task)]) fR 1 0 rfl rfl rfl om) underlying33 (i:=Tryz.t47) kr fR fun d7 e7 c2 _ f7 g7=>jOO 6 rfl<|sAdd (k:Int) 1<|jOI 2 rfl ?_
   have P2:Task.v (⟨b0,pt,r.x0,r.y0,r.x1,r.y1,⟨G0,J0,I0,M0⟩,(r.y1-r.y0),sc⟩:Task)=L.tileT b0 (k:Int):=by unfold Lay.tileT Lay.task;rw [P3,D2,C0,shp_at' (show L.sh[a0.v.a.toNat]?=some d0 from d1),<-A3,<-O2,if_neg (by rw [<-D2];unfold Lay.part;split<;>decide)];rfl
   have h7:=(g7.drops [0,1,1])
   exact ⟨(k+1,(zt++[(⟨b0,pt,r.x0,r.y0,r.x1,r.y1,⟨G0,J0,I0,M0⟩,(r.y1-r.y0),sc⟩:Task)]),d7,(P1+1),e7,c2,(H0++L0)),od,alB,(Sat.perm (cs':=(H0++L0)::(c2::[(q0, .cells #[I (A0:Int),I (nx*ny),I m.w,I m.h] 93 (0,0))]::[(p0, .cells (encStage a0).toArray 53 (0,0))]::E1::k0::j0::[(i0, .cells (encJob p).toArray 28 (0,0))]::H::F)) (show Sat W _ (H0::L0::c2::[(q0, .cells #[I (A0:Int),I (nx*ny),I m.w,I m.h] 93 (0,0))]::[(p0, .cells (encStage a0).toArray 53 (0,0))]::E1::k0::j0::[(i0, .cells (encJob p).toArray 28 (0,0))]::H::F) from h7) (by simp)),om,(by rw [List.map_append,U2,upto_map_snoc,<-List.append_assoc];simp only [List.map_cons,List.map_nil];rw [P2]),(by simp;omega),f7,(by
     intro z hz
     rcases List.mem_append.1 hz with h|h
     ·exact (A1 z h).of_mem mS
     ·simp only [List.mem_singleton] at h;subst h;exact ⟨(U0.rdAt (cs:=[H0]) 0 rfl).of_mem mS⟩)⟩
  refine cutF s0 0 [1,2,3,8,11,15,13,16,17,18,19,20,21,22,23,24,14,27] (γ:=Unit) (fun _ R=>⟨[(175, .bool (decide (a0.kind=5/\(k:Int)>=nx)))],R,0,True⟩) ?_ ?_
  ·exact gCO s0 5 [6] rfl<|SE 171 a0.kind 5 (fun j7=>jOI 5 rfl<|⟨(),⟨⟨(mF0 om),trivial⟩,sA⟩,s0,trivial⟩) fun j7=>jOI 5 rfl<|⟨(),⟨⟨(mB (decide (((k:Int):Int)>=nx)) bm),trivial⟩,sA⟩,s0,trivial⟩
  rintro _ ρ _ ⟨d2,_⟩
  refine CD (a0.kind=5/\(k:Int)>=nx) (fun e2=>jCI 1 rfl<|(by have M1:L.own b0 (k:Int)=(if (a0.kind=5/\(k:Int).tmod nx>0) then [(A0:Int)+(k:Int)-1] else [])++(if (a0.kind=5/\(k:Int)>=nx) then [(A0:Int)+(k:Int)-nx] else []):=(by unfold Lay.own;rw [C0,E0,K1];exact own_if om);exact ⟨(T0,X0,S0,Z0,Y0),alB,d2,B0,(by rw [M1,C1];simp only [if_neg e2,insV_canon,List.map_cons,List.map_nil,List.append_assoc,List.append_nil,List.nil_append,List.singleton_append,List.cons_append,Int.add_sub_assoc])⟩)) fun e2=>?_
  have S3:S0<=40000+2:=by rw [<-B0.len,C1];exact Nat.le_trans (canon_len _) (by rw [List.length_append];exact Nat.add_le_add J1 (by split<;>simp))
  have G3:=B0.le
  refine gCO d2 5 [1] rfl<|sSub (k:Int) nx<|sBK d2 #[I ((k:Int)-nx)] 3 fun _ _ m3=>gOO m3 2 [6] rfl ?_
  have k7:=(m3.pick 1 rfl)
  refine cZ (r20_insert B0 (ms:=([((k:Int)-nx)])) (RdT.flat (RdT.blk (enc:=Go.E.encI) (sz:=1) (xs:=[((k:Int)-nx)]) (fun _=>(by rfl)) 1 0 rfl rfl rfl om)) (A0:Int) (C1▸asc_canon _) (fun x hx=>by rw [List.mem_singleton.1 hx];omega) om om k7.flat1) ?_
  rintro _ _ ⟨n3,o3,p3,l7,rfl,f2,m7⟩
  have n7:=m7.unflat1;have Z1:=f2.ll
  refine pu1<|tWk n7 2 rfl 6 (.slice n3 o3 p3) fun _ o7=>jOI 1 rfl ?_
  have M1:L.own b0 (k:Int)=(if (a0.kind=5/\(k:Int).tmod nx>0) then [(A0:Int)+(k:Int)-1] else [])++(if (a0.kind=5/\(k:Int)>=nx) then [(A0:Int)+(k:Int)-nx] else []):=by unfold Lay.own;rw [C0,E0,K1];exact own_if om
  exact ⟨((insV (A0:Int) ([((k:Int)-nx)]) T0),n3,o3,p3,l7),alB,(o7.dropAt 1 rfl),f2,(by rw [M1,C1];simp only [if_pos e2,insV_canon,List.map_cons,List.map_nil,List.append_assoc,List.append_nil,List.nil_append,List.singleton_append,List.cons_append,Int.add_sub_assoc])⟩
 refine qO rfl<|sAlloc a3 zeroValue47 fun g2 _ c0=>nilO ⟨⟨cI c0 1,cI c0 1,cI c0 1,cI c0 1,cI c0 1,cI c0 1,cI c0 5,cI c0 5,cI c0 5,cI c0 5,cI c0 5,cI c0 5,cI c0 5,cI c0 5,cI c0 5,cI c0 5,cI c0 5,cI c0 5,cI c0 5,cI c0 5,cI c0 5,cI c0 5,cI c0 5,cI c0 5,cI c0 5, .inr ((e1.up 8 rfl).cell c0 (k:=0) rfl), .inr ((e1.up 8 rfl).cell c0 (k:=1) rfl), .inr ((e1.up 8 rfl).cell c0 (k:=2) rfl),cI c0 1,cI c0 1,cI c0 1,cI c0 1,trivial⟩,?_⟩
 refine qO rfl<|cS (r20_scratch a0 d0 pt r ((hp.stagesD a0 (List.mem_of_getElem? g0)).of_mem (mF 10)) c0.flat) fun _ q3=>nZ q3 [1,1,1,5]<|qV 1<|qO rfl<|sTk q3 0 rfl [I b0,I pt,I r.x0,I r.y0,I r.x1,I r.y1,nS,I (r.y1-r.y0),I (scrV a0.v d0 pt r)] fun _ h2=>nA<|qN<|jXC 1 rfl<|cutF h2 1 [1,2,3,8,11,15,13,16,17,18,19,20,21,22,23,24,14,25,27] (γ:=Int) (fun sc R=>⟨[],[(g2, .cells #[I b0,I pt,I r.x0,I r.y0,I r.x1,I r.y1,nS,I (r.y1-r.y0),I sc] 47 (0,0))]::R,0,sc=bytV a0.v d0.h r⟩) ?_ ?_
 ·exact gCO h2 3 [1805] rfl<|cS (r15_two a0 ((hp.stagesD a0 (List.mem_of_getElem? g0)).of_mem (mF 10)) h2.flat) fun _ i2=>jOC 2 rfl<|CD (a0.kind=6/\¬a0.b=-1) (fun j2=>jCI 1 rfl<|⟨(scrV a0.v d0 pt r),alB,i2,(by have h:=hg.scr Q0 (p:=pt) (r:=r) (by rw [C0];exact fun h=>j2 h) (by rw [<-D2];unfold Lay.part belongP;rw [C0];by_cases h4:a0.v.kind=4<;>simp [h4]) L1;rw [C0,shp_at' (show L.sh[a0.v.a.toNat]?=some d0 from d1)] at h;exact h)⟩) fun j2=>gCO i2 5 [1,1] rfl<|sSub r.x1 r.x0<|sMul 8 (r.x1-r.x0)<|cS (r1_align (8*(r.x1-r.x0)) 16 1099511627776 (od) i2.flat) fun _ q7=>pu4<|tWk q7 0 rfl 8 (I (alnX (8*(r.x1-r.x0)) 16 1099511627776)) fun _ r7=>jOI 1 rfl<|⟨(alnX (8*(r.x1-r.x0)) 16 1099511627776),alB,r7,(by rw [byt_two (show twoP a0.v from j2)];exact aln_ok om om)⟩
 rintro sc ρ _ ⟨r3,O2⟩
 refine gCO r3 8 [409,1805,401] rfl<|cZ (r20_depends p a0 H1 O1 N1 gs tw th r (hp.of_mem (mF 10)) ((hp.stagesD a0 (List.mem_of_getElem? g0)).of_mem (mF 10)) (RdT.flat (K0.rdAt 6 (by rfl))) om (hL▸hg) (hL▸grp_src hg e0 C0 hG) L1 r3.flat) ?_
 rintro _ _ ⟨s3,t3,u3,s7,rfl,g1,t7⟩
 have u7:=t7.unflat1
 have O0:=g1.len;have T1:=g1.le
 refine pu1<|tWk u7 1 rfl 6 (.slice s3 t3 u3) fun _ t0=>nilO ?_
 have B3:=O0;have I1:=canon_len ((layV p.v tw th).needs a0.v r);have C3:=flat_len2 (s:=a0.v) (r:=r) hg (srcs a0.v) (fun y hy=>by have h:=hg.src Q0 y (C0▸hy);exact h.2.2);have D3:=srcs_len a0.v;rw [<-hL] at B3 I1;have J1:(L.needs a0.v r).length<=40000:=by unfold Lay.needs;omega
 refine jXC 1 rfl<|cutF t0 2 [1,2,3,8,11,15,13,16,17,18,19,20,21,22,23,24,14,27] (γ:=(List Int)×SO) (fun ⟨T0,X0,S0,Z0,Y0⟩ R=>⟨[],Y0::[(g2, .cells #[I b0,I pt,I r.x0,I r.y0,I r.x1,I r.y1, .slice X0 S0 Z0,I (r.y1-r.y0),I sc] 47 (0,0))]::R,0,OwnT Go.E.encI 3 1 X0 S0 Z0 T0 Y0/\T0=canonV (L.needs a0.v r++(if (a0.kind=5/\(k:Int).tmod nx>0) then [(A0:Int)+(k:Int)-1] else []))⟩) ?_ ?_
 ·refine cutF t0 0 [1,2,3,8,11,15,13,16,17,18,19,20,21,22,23,24,14,27] (γ:=Unit) (fun _ R=>⟨[(158, .bool (decide (a0.kind=5/\(k:Int).tmod nx>0)))],R,0,True⟩) ?_ ?_
  ·exact gCO t0 5 [6] rfl<|SE 153 a0.kind 5 (fun v7=>jOI 6 rfl<|⟨(),⟨⟨(mF0 om),trivial⟩,sA⟩,t0,trivial⟩) fun v7=>pu2<|gY<|sRem (k:Int) nx<|jOI 3 rfl<|⟨(),⟨⟨(mB (decide ((((k:Int).tmod nx):Int)>0)) bm),trivial⟩,sA⟩,t0,trivial⟩
  rintro _ ρ _ ⟨k2,_⟩
  refine CD (a0.kind=5/\(k:Int).tmod nx>0) (fun l2=>jCI 1 rfl<|⟨((canonV ((layV p.v tw th).needs a0.v r)),s3,t3,u3,s7),alB,k2,g1,(by rw [hL];simp only [if_neg l2,insV_canon,List.map_cons,List.map_nil,List.append_assoc,List.append_nil,List.nil_append,List.singleton_append,List.cons_append,Int.add_sub_assoc])⟩) fun l2=>gCO k2 4 [1] rfl<|sSub (k:Int) 1<|sBK k2 #[I ((k:Int)-1)] 3 fun _ _ v3=>gOO v3 2 [6] rfl ?_
  have w7:=(v3.pick 1 rfl)
  refine cZ (r20_insert g1 (ms:=([((k:Int)-1)])) (RdT.flat (RdT.blk (enc:=Go.E.encI) (sz:=1) (xs:=[((k:Int)-1)]) (fun _=>(by rfl)) 1 0 rfl rfl rfl om)) (A0:Int) (asc_canon _) (fun x hx=>by rw [List.mem_singleton.1 hx];omega) om om w7.flat1) ?_
  rintro _ _ ⟨w3,x3,y3,x7,rfl,m2,y7⟩
  have z7:=y7.unflat1;have A2:=m2.ll
  exact pu1<|tWk z7 2 rfl 6 (.slice w3 x3 y3) fun _ a8=>jOI 1 rfl<|⟨((insV (A0:Int) ([((k:Int)-1)]) (canonV ((layV p.v tw th).needs a0.v r))),w3,x3,y3,x7),alB,(a8.dropAt 1 rfl),m2,(by rw [hL];simp only [if_pos l2,insV_canon,List.map_cons,List.map_nil,List.append_assoc,List.append_nil,List.nil_append,List.singleton_append,List.cons_append,Int.add_sub_assoc])⟩
 rintro ⟨T0,X0,S0,Z0,Y0⟩ ρ _ ⟨u0,B0,C1⟩
 refine cutF u0 2 [1,2,3,8,11,15,13,16,17,18,19,20,21,22,23,24,14,27] (γ:=(List Int)×SO) (fun ⟨M0,G0,J0,I0,H0⟩ R=>⟨[],H0::[(g2, .cells #[I b0,I pt,I r.x0,I r.y0,I r.x1,I r.y1, .slice G0 J0 I0,I (r.y1-r.y0),I sc] 47 (0,0))]::R,0,OwnT Go.E.encI 3 1 G0 J0 I0 M0 H0/\M0=canonV (L.needs a0.v r++L.own b0 (k:Int))⟩) ?_ ?_
 rotate_left
 ·rintro ⟨M0,G0,J0,I0,H0⟩ ρ _ ⟨z3,U0,A3⟩
  refine gCO z3 3 [901] rfl<|sBK z3 #[I b0,I pt,I r.x0,I r.y0,I r.x1,I r.y1, .slice G0 J0 I0,I (r.y1-r.y0),I sc] 47 fun _ _ c8=>sApp (nb:=88) c8 V0 5 (RdT.blk (enc:=encTask) (sz:=9) (xs:=[(⟨b0,pt,r.x0,r.y0,r.x1,r.y1,⟨G0,J0,I0,M0⟩,(r.y1-r.y0),sc⟩:Task)]) fR 1 0 rfl rfl rfl om) underlying33 (i:=Tryz.t47) kr fR fun d8 e8 n2 _ f8 g8=>jOO 6 rfl<|sAdd (k:Int) 1<|jOI 2 rfl ?_
  have P2:Task.v (⟨b0,pt,r.x0,r.y0,r.x1,r.y1,⟨G0,J0,I0,M0⟩,(r.y1-r.y0),sc⟩:Task)=L.tileT b0 (k:Int):=by unfold Lay.tileT Lay.task;rw [P3,D2,C0,shp_at' (show L.sh[a0.v.a.toNat]?=some d0 from d1),<-A3,<-O2,if_neg (by rw [<-D2];unfold Lay.part;split<;>decide)];rfl
  have h8:=(g8.drops [0,1,1])
  exact ⟨(k+1,(zt++[(⟨b0,pt,r.x0,r.y0,r.x1,r.y1,⟨G0,J0,I0,M0⟩,(r.y1-r.y0),sc⟩:Task)]),d8,(P1+1),e8,n2,(H0++L0)),od,alB,(Sat.perm (cs':=(H0++L0)::(n2::[(q0, .cells #[I (A0:Int),I (nx*ny),I m.w,I m.h] 93 (0,0))]::[(p0, .cells (encStage a0).toArray 53 (0,0))]::E1::k0::j0::[(i0, .cells (encJob p).toArray 28 (0,0))]::H::F)) (show Sat W _ (H0::L0::n2::[(q0, .cells #[I (A0:Int),I (nx*ny),I m.w,I m.h] 93 (0,0))]::[(p0, .cells (encStage a0).toArray 53 (0,0))]::E1::k0::j0::[(i0, .cells (encJob p).toArray 28 (0,0))]::H::F) from h8) (by simp)),om,(by rw [List.map_append,U2,upto_map_snoc,<-List.append_assoc];simp only [List.map_cons,List.map_nil];rw [P2]),(by simp;omega),f8,(by
    intro z hz
    rcases List.mem_append.1 hz with h|h
    ·exact (A1 z h).of_mem mS
    ·simp only [List.mem_singleton] at h;subst h;exact ⟨(U0.rdAt (cs:=[H0]) 0 rfl).of_mem mS⟩)⟩
 refine cutF u0 0 [1,2,3,8,11,15,13,16,17,18,19,20,21,22,23,24,14,27] (γ:=Unit) (fun _ R=>⟨[(175, .bool (decide (a0.kind=5/\(k:Int)>=nx)))],R,0,True⟩) ?_ ?_
 ·exact gCO u0 5 [6] rfl<|SE 171 a0.kind 5 (fun j8=>jOI 5 rfl<|⟨(),⟨⟨(mF0 om),trivial⟩,sA⟩,u0,trivial⟩) fun j8=>jOI 5 rfl<|⟨(),⟨⟨(mB (decide (((k:Int):Int)>=nx)) bm),trivial⟩,sA⟩,u0,trivial⟩
 rintro _ ρ _ ⟨o2,_⟩
 refine CD (a0.kind=5/\(k:Int)>=nx) (fun q2=>jCI 1 rfl<|(by have M1:L.own b0 (k:Int)=(if (a0.kind=5/\(k:Int).tmod nx>0) then [(A0:Int)+(k:Int)-1] else [])++(if (a0.kind=5/\(k:Int)>=nx) then [(A0:Int)+(k:Int)-nx] else []):=(by unfold Lay.own;rw [C0,E0,K1];exact own_if om);exact ⟨(T0,X0,S0,Z0,Y0),alB,o2,B0,(by rw [M1,C1];simp only [if_neg q2,insV_canon,List.map_cons,List.map_nil,List.append_assoc,List.append_nil,List.nil_append,List.singleton_append,List.cons_append,Int.add_sub_assoc])⟩)) fun q2=>?_
 have S3:S0<=40000+2:=by rw [<-B0.len,C1];exact Nat.le_trans (canon_len _) (by rw [List.length_append];exact Nat.add_le_add J1 (by split<;>simp))
 have G3:=B0.le
 refine gCO o2 5 [1] rfl<|sSub (k:Int) nx<|sBK o2 #[I ((k:Int)-nx)] 3 fun _ _ a4=>gOO a4 2 [6] rfl ?_
 have k8:=(a4.pick 1 rfl)
 refine cZ (r20_insert B0 (ms:=([((k:Int)-nx)])) (RdT.flat (RdT.blk (enc:=Go.E.encI) (sz:=1) (xs:=[((k:Int)-nx)]) (fun _=>(by rfl)) 1 0 rfl rfl rfl om)) (A0:Int) (C1▸asc_canon _) (fun x hx=>by rw [List.mem_singleton.1 hx];omega) om om k8.flat1) ?_
 rintro _ _ ⟨b4,c4,d4,l8,rfl,r2,m8⟩
 have n8:=m8.unflat1;have B2:=r2.ll
 refine pu1<|tWk n8 2 rfl 6 (.slice b4 c4 d4) fun _ o8=>jOI 1 rfl ?_
 have M1:L.own b0 (k:Int)=(if (a0.kind=5/\(k:Int).tmod nx>0) then [(A0:Int)+(k:Int)-1] else [])++(if (a0.kind=5/\(k:Int)>=nx) then [(A0:Int)+(k:Int)-nx] else []):=by unfold Lay.own;rw [C0,E0,K1];exact own_if om
 exact ⟨((insV (A0:Int) ([((k:Int)-nx)]) T0),b4,c4,d4,l8),alB,(o8.dropAt 1 rfl),r2,(by rw [M1,C1];simp only [if_pos q2,insV_canon,List.map_cons,List.map_nil,List.append_assoc,List.append_nil,List.nil_append,List.singleton_append,List.cons_append,Int.add_sub_assoc])⟩
end Go.Proofs.YtghcddbhllkbmaaGreat
