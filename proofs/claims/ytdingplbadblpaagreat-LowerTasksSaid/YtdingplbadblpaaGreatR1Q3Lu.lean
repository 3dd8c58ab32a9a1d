import Derived.WalkKit
import Derived.Deep.Quiet
import Derived.KernelRfl
import Derived.Laws.BytesString
import Derived.Laws.Shifts
import Derived.Laws.IdiomStrings
import Derived.OpenShut
import Derived.Test.YtdingplbadblpaaGreatProg
import Derived.Shelf.SortG.Plain
import Derived.Shelf.SortG.SortNone
import Derived.Shelf.SlicesG.CompactI
import Derived.Test.YtdingplbadblpaaGreatR1Q3Lf
namespace Go.Proofs.YtdingplbadblpaaGreat
open Go Go.E Go.Proofs.Tryz
set_option linter.all false
set_option maxRecDepth 100000
set_option maxHeartbeats 2000000
variable {W w:World} {H:Chunk} {F:List Chunk}
theorem r20_low (p:Job) (tw:Int) (th:Int) (hp:Job.Ok [H] p) (hb:p.inputs.n<=1000000/\p.stages.n<=1000000/\p.outputs.n<=1000000) (hS:Sat W w (H::F)):
  Calls prog 19 #[.agg (encJob p).toArray,I tw,I th] w fun e w'=>∃(az:Option Addr) (nz kz:Nat) (zs:List Task) (Z G:Chunk),e= .returned (.tuple #[.slice az nz kz,I (lowC p.v tw th)])/\OwnT encTask 46 9 az nz kz zs Z/\(∀z∈zs,Task.Ok [G] z)/\zs.map Task.v=lowV p.v tw th/\Sat W w' (Z::G::H::F):=by
 have hl_p_inputs:=hp.inputs.le;have hn_p_inputs:=hp.inputs.len
 have hl_p_stages:=hp.stages.le;have hn_p_stages:=hp.stages.len
 have hl_p_outputs:=hp.outputs.le;have hn_p_outputs:=hp.outputs.len
 have hpi:p.v.inputs.length=p.inputs.n:=by simp [Job.v,hn_p_inputs]
 have hps:p.v.stages.length=p.stages.n:=by simp [Job.v,hn_p_stages]
 refine callsA 225 func19 rfl ?_
 refine sR ?_
 refine sBox hS (.agg (encJob p).toArray) (encJob p).toArray ?_
 intro e0 _ s3
 refine pu2<|zS ?_
 refine lA s3 0 0 4 (isAgg28 _) (sizeOf28 _) ?_
 refine pu2 ?_
 refine cX call50 (r20_check p tw th ⟨(RdT.flat (hp.inputs.up 1 (by rfl))),(fun z hz=>(hp.inputsD z hz).of_mem (mem_flat1 1 (by rfl))),(RdT.flat (hp.stages.up 1 (by rfl))),(fun z hz=>(hp.stagesD z hz).of_mem (mem_flat1 1 (by rfl))),(RdT.flat (hp.outputs.up 1 (by rfl)))⟩ (od) s3.flat) ?_
 rintro _ _ ⟨o0,j0,p0,m0,rfl,n2,u4⟩
 have o1:=u4.unflat1
 have hn_az_7:=n2.len;have hl_az_7:=n2.le
 refine pu7<|zQ<|pu2<|nT ?_
 refine cN (ckC p.v tw th) 0 (fun v4=>?_) (fun v4=>?_)
 rotate_left
 ·refine sR<|pu3<|zR<|retT [nS,I (ckC p.v tw th)] ?_
  have w4:=(o1.drops [0,0])
  have x4:Sat W _ ([]::[]::H::F):=Sat.nilc (Sat.nilc w4)
  have hk:lowC p.v tw th=(ckC p.v tw th):=by rw [low_ck,if_neg om]
  exact ⟨none,0,0,[],_,_,by rw [hk];rfl,OwnT.nil fR,(fun z hz=>by cases hz),by unfold lowV;rw [if_neg (by rw [hk];omega)];rfl,x4⟩
 refine kT<|seqE<|sR<|pu2<|nT ?_
 refine cD ((ckN p.v tw th)>4096) (fun y4=>?_) (fun y4=>?_)
 ·refine sR<|pu2<|zR<|retT [nS,I 13] ?_
  have z4:=(o1.drops [0,0])
  have a5:Sat W _ ([]::[]::H::F):=Sat.nilc (Sat.nilc z4)
  have hk:lowC p.v tw th=13:=by rw [low_ck,if_pos om,if_neg (by have h:ckN p.v tw th=(layV p.v tw th).total:=(by unfold ckN;rw [if_pos om]);omega)]
  exact ⟨none,0,0,[],_,_,by rw [hk];rfl,OwnT.nil fR,(fun z hz=>by cases hz),by unfold lowV;rw [if_neg (by rw [hk];omega)];rfl,a5⟩
 refine kT<|seqE ?_
 have hk0:ckC p.v tw th=0:=by omega
 obtain ⟨hz0,htp⟩:=ck_zero hk0
 obtain ⟨L,hL⟩:∃z:Lay,z=layV p.v tw th:=⟨_,rfl⟩
 have hg:LayG L:=hL▸lay_ok (shp_ok hz0) htp
 have hLn:L.ni=(p.inputs.n:Int):=by rw [hL,<-hpi];rfl
 have hLs:L.ss=p.stages.l.map Stage.v:=by rw [hL];rfl
 have hLl:L.ss.length=p.stages.n:=by rw [hLs,List.length_map];exact hn_p_stages
 have hLh:L.sh=(shpV p.v).1:=by rw [hL];rfl
 have hLt:L.tw=tw/\L.th=th:=by rw [hL];exact ⟨rfl,rfl⟩
 have hgn:=hg.ni;rw [hLn,hLl] at hgn;have hgl:=hg.len;rw [hLn,hLl] at hgl;have htl:=hg.tl;rw [hLt.1,hLt.2] at htl;unfold tileP at htl;have htb:=hg.totb
 have hto:ckN p.v tw th=L.total:=by unfold ckN;rw [if_pos hk0,hL]
 have hlow:lowC p.v tw th=0:=by rw [low_ck,if_pos hk0,if_pos (by rw [<-hL];omega)]
 have hsh:ckS p.v tw th=L.sh:=by unfold ckS;rw [if_pos hk0,hL];rfl
 have n1:=n2;rw [hsh] at n1;have hsl:=n1.len
 refine rE ?_
 refine lA o1 1 0 4 (isAgg28 _) (sizeOf28 _) ?_
 refine cX call51 (r17_order p ⟨(RdT.flat (hp.inputs.up 2 (by rfl))),(fun z hz=>(hp.inputsD z hz).of_mem (mem_flat1 2 (by rfl))),(RdT.flat (hp.stages.up 2 (by rfl))),(fun z hz=>(hp.stagesD z hz).of_mem (mem_flat1 2 (by rfl))),(RdT.flat (hp.outputs.up 2 (by rfl)))⟩ (od) o1.flat) ?_
 rintro _ _ ⟨s0,q0,t0,n0,rfl,o2,b5⟩
 have c5:=b5.unflat1
 have hn_az_20:=o2.len;have hl_az_20:=o2.le
 refine pu5<|nilO ?_
 have q2:=o2;rw [show (ordV p.v).1=L.od by rw [hL];rfl] at q2;have hol:=q2.len;have hoe:=hg.ln;rw [hLl] at hoe
 refine tN<|sR<|pu2 ?_
 refine sMake (kl:= .i64) (kc:= .i64) (enc:=encGrp) (sz:=4) (nb:=32) c5 ⟨0,0,0,0⟩ j0 (j0:Int) (rfl:(j0:Int)=(j0:Int)) underlying104 (i:=Tryz.t109) kr fR ?_
 intro d5 e5 _ f5 g5
 refine pu1<|zS<|pu1<|zQ<|pu1<|nT<|blockE ?_
 have h5:=Sat.nilc g5
 have i5:=OwnT.nil (enc:=encTask) (E:=46) (sz:=9) fR
 have j5:=Sat.nilc h5
 refine loopA (γ:=Nat×(List Task)×(Option Addr)×Nat×Nat×Chunk×Chunk×(List Grp)×(Option Addr)×Nat×Nat×Chunk) (fun ⟨i,zs,azs,nzs,kzs,czs,Gzs,gs,ags,ngs,kgs,cgs⟩=>[(1,I tw),(2,I th),(3,Pt e0 0),(8, .slice o0 j0 p0),(11, .slice s0 q0 t0),(15,I (i:Int)),(14, .slice azs nzs kzs),(13, .slice ags ngs kgs)]) (fun ⟨i,zs,azs,nzs,kzs,czs,Gzs,gs,ags,ngs,kgs,cgs⟩ w=>Sat W w (Gzs::czs::cgs::n0::m0::[(e0, .cells (encJob p).toArray 28 (0,0))]::H::F)/\i<=q0/\(zs.map Task.v=(L.od.take i).flatMap L.tasks)/\((zs.length:Int)=((L.od.take i).map L.cnt).sum)/\(∀y∈L.od.take i,gs[y.toNat]?=some (grpV L y))/\(gs.length=p.inputs.n+p.stages.n)/\OwnT encTask 46 9 azs nzs kzs zs czs/\(∀z∈zs,Task.Ok [Gzs] z)/\OwnT encGrp 109 4 ags ngs kgs gs cgs) (fun ⟨i,zs,azs,nzs,kzs,czs,Gzs,gs,ags,ngs,kgs,cgs⟩=>q0-i) (0,[],none,0,0,[],[],(List.replicate j0 ⟨0,0,0,0⟩),(At d5 0),j0,j0,e5) ⟨j5,om,by rfl,(by simp),(by intro y hy;simp at hy),(by simp;omega),i5,(by intro z hz;cases hz),f5⟩ ?_
 rintro ⟨i,zs,azs,nzs,kzs,czs,Gzs,gs,ags,ngs,kgs,cgs⟩ ρ _ ⟨g1,hi,hE,hzl,hG,hgl2,hOzs,hDzs,hOgs⟩
 have hn_zs:=hOzs.len;have hl_zs:=hOzs.le
 have hn_gs:=hOgs.len;have hl_gs:=hOgs.le
 have hts:=take_sum_le hg i
 refine seqE<|sR<|pu4<|nT ?_
 refine cD ((i:Int)<(q0:Int)) (fun k5=>?_) (fun k5=>?_)
 rotate_left
 ·refine exitE<|xB<|tN<|sR<|pu3<|zE<|retT [.slice azs nzs kzs,I 0] ?_
  have l5:=((g1.pick 1 rfl).drops [2,2,2,2])
  have hz:zs.map Task.v=lowV p.v tw th:=by unfold lowV;rw [if_pos hlow,<-hL];unfold Lay.all;rw [hE,List.take_of_length_le om]
  exact ⟨_,_,_,_,_,_,by rw [hlow];rfl,hOzs,hDzs,hz,l5⟩
 refine kT<|seqE<|blockE<|sR<|pu2 ?_
 refine sIdx q2 (i:Int) runUnderlying22 sizeOf3 ?_
 intro b0 _ _ u0 m5
 rw [Int.toNat_natCast] at u0
 have hnd:b0∈L.od:=List.mem_of_getElem? u0;have hrn:=hg.rng b0 hnd;rw [hLn,hLl] at hrn;have hfr:L.first b0=(nzs:Int):=by rw [<-hn_zs,hzl];exact (hg.first_at (take_split u0)).1
 have hfb:=hg.firstb hnd;have hbk:=hg.byt hnd
 refine sLp g1 (m5.up 3 rfl) 0 (I b0) (isAgg3 _) ?_
 refine pu1<|zS<|pu1 ?_
 refine sL g1 5 1 (.slice p.stages.a p.stages.n p.stages.k) (isAgg26 _) ?_
 refine pu2 ?_
 refine sL g1 5 0 (.slice p.inputs.a p.inputs.n p.inputs.k) (isAgg25 _) ?_
 refine pu1 ?_
 refine sSub b0 (p.inputs.n:Int) ?_
 refine sIdx hp.stages (b0-(p.inputs.n:Int)) runUnderlying26 sizeOf38 ?_
 intro a0 _ _ d0 n5
 have hst:L.st b0=a0.v:=by unfold Lay.st;rw [hLs,hLn];exact stg_at (by rw [show (b0-(p.inputs.n:Int)).toNat=(b0-(p.inputs.n:Int)).toNat from rfl];exact map_at (f:=Stage.v) d0)
 have hsr:=hg.src hnd a0.a (by rw [hst];exact a_src _);rw [hLn,hLl] at hsr;rw [hst] at hbk;have hbk0:=hbk;unfold bytOK at hbk0;simp only [Stage.v] at hbk0
 refine sLpA g1 (n5.up 6 rfl) 0 (encStage a0) (isAgg38 _) (sizeOf38 _) ?_
 refine sAlloc g1 zeroValue38 ?_
 intro c0 _ o5
 refine sT o5 0 0 (.agg (encStage a0).toArray) (encStage a0) (encStage a0).toArray sizeOf38 ?_
 intro _ t3
 refine zS ?_
 refine lA t3 0 0 18 (isAgg38 _) (sizeOf38 _) ?_
 refine pu2 ?_
 refine cR call52 (r20_grid a0 o0 j0 p0 L.sh b0 ⟨(RdT.flat ((hp.stagesD a0 (List.mem_of_getElem? d0)).weights.up 7 (by rfl))),(RdT.flat ((hp.stagesD a0 (List.mem_of_getElem? d0)).row.up 7 (by rfl))),(RdT.flat ((hp.stagesD a0 (List.mem_of_getElem? d0)).col.up 7 (by rfl))),(RdT.flat ((hp.stagesD a0 (List.mem_of_getElem? d0)).x.up 7 (by rfl))),(fun z hz=>((hp.stagesD a0 (List.mem_of_getElem? d0)).xD z hz).of_mem (mem_flat1 7 (by rfl))),(RdT.flat ((hp.stagesD a0 (List.mem_of_getElem? d0)).y.up 7 (by rfl))),(fun z hz=>((hp.stagesD a0 (List.mem_of_getElem? d0)).yD z hz).of_mem (mem_flat1 7 (by rfl))),(RdT.flat ((hp.stagesD a0 (List.mem_of_getElem? d0)).ops.up 7 (by rfl)))⟩ (RdT.flat (n1.up 5 (by rfl))) (od) t3.flat) ?_
 intro _ p5
 refine pu5<|nilO ?_
 obtain ⟨m,hm⟩:∃z:Shape,z=L.cut b0:=⟨_,rfl⟩;have hmc:cutV a0.v L.sh b0=m:=(by rw [hm,cut_v hst]);rw [hmc]
 have hfi:=hg.fine hnd;rw [<-hm,hLt.1,hLt.2] at hfi;have hcs:=hg.cutsz hnd;rw [<-hm] at hcs;unfold szP at hcs;have hgr:=hg.grid hnd;have hcb:=hg.cntb hnd
 refine tN<|sR<|pu4 ?_
 refine cR call53 (r5_count m.w m.h tw th p5.flat) ?_
 intro _ q5
 refine pu5<|nilO ?_
 obtain ⟨nx,hnx⟩:∃z,z=colsN m.w m.h tw th:=⟨_,rfl⟩;obtain ⟨ny,hny⟩:∃z,z=rowsN m.w m.h tw th:=⟨_,rfl⟩;rw [<-hnx,<-hny]
 have hnx2:L.nx b0=nx:=by unfold Lay.nx;rw [<-hm,hLt.1,hLt.2,hnx]
 have hny2:L.ny b0=ny:=by unfold Lay.ny;rw [<-hm,hLt.1,hLt.2,hny]
 rw [hnx2,hny2] at hgr
 refine tN<|sR<|pu4 ?_
 refine sMul nx ny ?_
 refine pu3 ?_
 refine sAlloc q5 zeroValue109 ?_
 intro i0 _ r5
 refine sT r5 0 0 (.agg #[I (nzs:Int),I (nx*ny),I m.w,I m.h]) [I (nzs:Int),I (nx*ny),I m.w,I m.h] #[I (nzs:Int),I (nx*ny),I m.w,I m.h] sizeOf109 ?_
 intro _ r2
 refine zS<|pu1<|nT ?_
 refine cutA (γ:=Int) (fun pt=>[(1,I tw),(2,I th),(3,Pt e0 0),(8, .slice o0 j0 p0),(11, .slice s0 q0 t0),(15,I (i:Int)),(14, .slice azs nzs kzs),(13, .slice ags ngs kgs),(16,I b0),(17,Pt c0 0),(18,I m.w),(19,I m.h),(20,I nx),(21,I ny),(22,Pt i0 0),(23,I pt)]) (fun pt w=>Sat W w ([(i0, .cells #[I (nzs:Int),I (nx*ny),I m.w,I m.h] 109 (0,0))]::[(c0, .cells (encStage a0).toArray 38 (0,0))]::Gzs::czs::cgs::n0::m0::[(e0, .cells (encJob p).toArray 28 (0,0))]::H::F)/\L.part b0=pt) ?_ ?_
 ·refine sR<|pu1 ?_
  refine sL r2 1 0 (I a0.kind) (isAgg3 _) ?_
  refine pu1<|nT ?_
  refine cE a0.kind 4 (fun s2=>?_) (fun s2=>?_)
  rotate_left
  ·refine kT ?_
   exact ⟨0,alA,r2,(by unfold Lay.part;rw [hst];exact if_neg s2)⟩
  refine rE<|pu1<|nT ?_
  exact ⟨1,alA,r2,(by unfold Lay.part;rw [hst];exact if_pos s2)⟩
 rintro pt ρ _ ⟨s5,hpt⟩
 refine seqE<|sR<|pu1<|nT<|blockE ?_
 have t5:=(s5.pick 3 rfl)
 have u5:=(t5.pick 3 rfl)
 refine loopA (γ:=Nat×(List Task)×(Option Addr)×Nat×Nat×Chunk×Chunk) (fun ⟨k,zt,azt,nzt,kzt,czt,Gzt⟩=>[(1,I tw),(2,I th),(3,Pt e0 0),(8, .slice o0 j0 p0),(11, .slice s0 q0 t0),(15,I (i:Int)),(13, .slice ags ngs kgs),(16,I b0),(17,Pt c0 0),(18,I m.w),(19,I m.h),(20,I nx),(21,I ny),(22,Pt i0 0),(23,I pt),(24,I (k:Int)),(14, .slice azt nzt kzt)]) (fun ⟨k,zt,azt,nzt,kzt,czt,Gzt⟩ w=>Sat W w (Gzt::czt::[(i0, .cells #[I (nzs:Int),I (nx*ny),I m.w,I m.h] 109 (0,0))]::[(c0, .cells (encStage a0).toArray 38 (0,0))]::cgs::n0::m0::[(e0, .cells (encJob p).toArray 28 (0,0))]::H::F)/\k<=(nx*ny).toNat/\(zt.map Task.v=zs.map Task.v++(uptoV k).map (L.tileT b0))/\(zt.length=zs.length+k)/\OwnT encTask 46 9 azt nzt kzt zt czt/\(∀z∈zt,Task.Ok [Gzt] z)) (fun ⟨k,zt,azt,nzt,kzt,czt,Gzt⟩=>((nx*ny).toNat)-k) (0,zs,azs,nzs,kzs,czs,Gzs) ⟨u5,om,(by simp [uptoV]),om,hOzs,hDzs⟩ ?_
 rintro ⟨k,zt,azt,nzt,kzt,czt,Gzt⟩ ρ _ ⟨i1,hk,hE2,hztl,hOzt,hDzt⟩
 have hn_zt:=hOzt.len;have hl_zt:=hOzt.le
 refine seqE<|sR<|pu3 ?_
 refine sMul nx ny ?_
 refine pu1<|nT ?_
 refine cD ((k:Int)<(nx*ny)) (fun v5=>?_) (fun v5=>?_)
 rotate_left
 ·refine exitE<|xB<|tN<|seqE<|seqE ?_
  have hk9:k=(nx*ny).toNat:=by omega
  have hztl2:(zt.length:Int)=(zs.length:Int)+nx*ny:=by omega
  refine rE<|pu1 ?_
  refine sL i1 3 0 (I a0.kind) (isAgg3 _) ?_
  refine pu1<|nT ?_
  refine cE a0.kind 4 (fun j1=>?_) (fun j1=>?_)
  rotate_left
  ·refine kT<|rE<|pu2 ?_
   refine lA i1 2 0 4 (isAgg109 _) (sizeOf109 _) ?_
   refine sIdxO hOgs b0 (b0).toNat runUnderlying104 sizeOf109 ?_
   intro w5 _ _ x5 _ y5
   refine sStF i1 hOgs y5 4 (b0).toNat 0 w5 (⟨(nzs:Int),(nx*ny),m.w,m.h⟩:Grp) x5 (.agg #[I (nzs:Int),I (nx*ny),I m.w,I m.h]) [I (nzs:Int),I (nx*ny),I m.w,I m.h] sizeOf109 ?_
   intro _ z5 a6 b6
   refine nB<|rE<|pu1 ?_
   refine sAdd (i:Int) 1 ?_
   refine pu1<|nT ?_
   have hcn:L.cnt b0=nx*ny:=by unfold Lay.cnt;rw [hst,if_neg (show ¬a0.v.kind=4 from j1),hnx2,hny2]
   exact ⟨(i+1,zt,azt,nzt,kzt,czt,Gzt,(gs.set ((b0).toNat) (⟨(nzs:Int),(nx*ny),m.w,m.h⟩:Grp)),ags,ngs,kgs,z5),od,alA,(b6.drops [2,2]),om,(by rw [take_flat (f:=L.tasks) u0,hE2,hE,hk9];unfold Lay.tasks;rw [hst,if_neg (show ¬a0.v.kind=4 from j1),hnx2,hny2,List.append_nil]),(by rw [sum_take (f:=L.cnt) u0,<-hzl,hcn];omega),(grp_set hg u0 hG (by unfold grpV;rw [hfr,hcn,<-hm]) om),(by simp;omega),hOzt,hDzt,a6⟩
  refine sR<|pu1 ?_
  refine sL i1 3 15 (I a0.bins) (isAgg3 _) ?_
  refine pu1 ?_
  refine sAlloc i1 zeroValue44 ?_
  intro z0 _ d6
  refine sT d6 0 0 (.agg #[I 0,I 0,I a0.bins,I 1]) [I 0,I 0,I a0.bins,I 1] #[I 0,I 0,I a0.bins,I 1] sizeOf44 ?_
  intro _ f0
  refine nT<|seqE ?_
  have hin:inP (⟨0,0,a0.bins,1⟩:Rct):=by unfold inP;dsimp only;omega
  obtain ⟨r0,q1,r1,u3,t2,e6⟩:=RdT.elem n1 a0.a
  refine drawE [10,13,16,18,19] [(2,⟨z0,0,none⟩,I 0),(2,⟨z0,1,none⟩,I 0),(2,⟨z0,2,none⟩,I a0.bins),(2,⟨z0,3,none⟩,I 1),(3,⟨c0,0,none⟩,I a0.kind),(3,⟨c0,1,none⟩,I a0.a),(3,⟨c0,2,none⟩,I a0.b),(3,⟨c0,3,none⟩, .bool a0.barrier),(3,⟨c0,4,none⟩,I a0.edgePolicy),(3,⟨c0,5,none⟩,I a0.edgeFill),(3,⟨c0,6,none⟩,I a0.kW),(3,⟨c0,7,none⟩,I a0.kH),(3,⟨c0,8,none⟩, .slice a0.weights.a a0.weights.n a0.weights.k),(3,⟨c0,9,none⟩, .slice a0.row.a a0.row.n a0.row.k),(3,⟨c0,10,none⟩, .slice a0.col.a a0.col.n a0.col.k),(3,⟨c0,11,none⟩,I a0.shift),(3,⟨c0,12,none⟩,I a0.shift2),(3,⟨c0,13,none⟩, .slice a0.x.a a0.x.n a0.x.k),(3,⟨c0,14,none⟩, .slice a0.y.a a0.y.n a0.y.k),(3,⟨c0,15,none⟩,I a0.bins),(3,⟨c0,16,none⟩, .slice a0.ops.a a0.ops.n a0.ops.k),(3,⟨c0,17,none⟩,I a0.max_),(6,⟨c0,1,none⟩,I a0.a),(8,⟨q1,r1+0,none⟩,I r0.w),(8,⟨q1,r1+1,none⟩,I r0.h),(8,⟨q1,r1+2,none⟩,I r0.max_),(9,⟨z0,0,none⟩,I 0),(9,⟨z0,1,none⟩,I 0),(9,⟨z0,2,none⟩,I a0.bins),(9,⟨z0,3,none⟩,I 1),(12,⟨i0,1,none⟩,I (nx*ny)),(15,⟨i0,0,none⟩,I (nzs:Int))] [(true,[0,1,4,5,11,14]),(true,[2]),(true,[3]),(true,[6]),(true,[7]),(true,[8]),(true,[9]),(true,[12]),(true,[15]),(false,[10]),(false,[13]),(false,[16]),(true,[17]),(false,[18]),(false,[19]),(true,[20])] rfl kr ⟨cI f0 0,cI f0 0,cI f0 0,cI f0 0,cI f0 4,cI f0 4,cI f0 4,cI f0 4,cI f0 4,cI f0 4,cI f0 4,cI f0 4,cI f0 4,cI f0 4,cI f0 4,cI f0 4,cI f0 4,cI f0 4,cI f0 4,cI f0 4,cI f0 4,cI f0 4,cI f0 4, .inr ((t2.up 7 rfl).cell f0 (k:=0) rfl), .inr ((t2.up 7 rfl).cell f0 (k:=1) rfl), .inr ((t2.up 7 rfl).cell f0 (k:=2) rfl),cI f0 0,cI f0 0,cI f0 0,cI f0 0,cI f0 3,cI f0 3,trivial⟩ ?_
  have f6:=f0.drew
  refine wU [0,1,4,5,11,14] ?_
  refine wY (.agg #[I 0,I 0,I a0.bins,I 1]) rfl (fun w hF=>Y_loadF rfl (isAgg44 w) (sizeOf44 w) kr rfl ⟨hF 0 _ _ rfl,hF 1 _ _ rfl,hF 2 _ _ rfl,hF 3 _ _ rfl,trivial⟩) ?_
  refine wY (.agg (encStage a0).toArray) rfl (fun w hF=>Y_loadF rfl (isAgg38 w) (sizeOf38 w) kr rfl ⟨hF 4 _ _ rfl,hF 5 _ _ rfl,hF 6 _ _ rfl,hF 7 _ _ rfl,hF 8 _ _ rfl,hF 9 _ _ rfl,hF 10 _ _ rfl,hF 11 _ _ rfl,hF 12 _ _ rfl,hF 13 _ _ rfl,hF 14 _ _ rfl,hF 15 _ _ rfl,hF 16 _ _ rfl,hF 17 _ _ rfl,hF 18 _ _ rfl,hF 19 _ _ rfl,hF 20 _ _ rfl,hF 21 _ _ rfl,trivial⟩) ?_
  refine wLd (I a0.a) 22 isAgg3 ?_
  refine wY (.pointer (some ⟨q1,r1,none⟩)) rfl (fun w _=>Y_idx (a:=o0) (i:=a0.a) (len:=j0) (cap:=p0) rfl runUnderlying61 sizeOf54 kr kr e6) ?_
  refine wY (.agg #[I r0.w,I r0.h,I r0.max_]) rfl (fun w hF=>Y_loadF rfl (isAgg54 w) (sizeOf54 w) kr rfl ⟨hF 23 _ _ rfl,hF 24 _ _ rfl,hF 25 _ _ rfl,trivial⟩) ?_
  refine wY (.agg #[I 0,I 0,I a0.bins,I 1]) rfl (fun w hF=>Y_loadF rfl (isAgg44 w) (sizeOf44 w) kr rfl ⟨hF 26 _ _ rfl,hF 27 _ _ rfl,hF 28 _ _ rfl,hF 29 _ _ rfl,trivial⟩) ?_
  refine wLd (I (nx*ny)) 30 isAgg3 ?_
  refine wLd (I (nzs:Int)) 31 isAgg3 ?_
  refine wO rfl ?_
  refine cR call27 (r20_scratch a0 r0 2 (⟨0,0,a0.bins,1⟩:Rct) ⟨(RdT.flat ((hp.stagesD a0 (List.mem_of_getElem? d0)).weights.up 9 (by rfl))),(RdT.flat ((hp.stagesD a0 (List.mem_of_getElem? d0)).row.up 9 (by rfl))),(RdT.flat ((hp.stagesD a0 (List.mem_of_getElem? d0)).col.up 9 (by rfl))),(RdT.flat ((hp.stagesD a0 (List.mem_of_getElem? d0)).x.up 9 (by rfl))),(fun z hz=>((hp.stagesD a0 (List.mem_of_getElem? d0)).xD z hz).of_mem (mem_flat1 9 (by rfl))),(RdT.flat ((hp.stagesD a0 (List.mem_of_getElem? d0)).y.up 9 (by rfl))),(fun z hz=>((hp.stagesD a0 (List.mem_of_getElem? d0)).yD z hz).of_mem (mem_flat1 9 (by rfl))),(RdT.flat ((hp.stagesD a0 (List.mem_of_getElem? d0)).ops.up 9 (by rfl)))⟩ f6.flat) ?_
  intro _ a1
  refine nilO ⟨⟨cI a1 0,cI a1 0,cI a1 0,cI a1 0,dI,dI,dI,dI,dI,dI,dI,dI,dI,dI,dI,dI,dI,dI,dI,dI,dI,dI,cI a1 4,dI,dI,dI,dI,dI,dI,dI,cI a1 3,cI a1 3,trivial⟩,?_⟩
  refine wO rfl ?_
  refine cX call59 (r20_upto (nx*ny) (od) a1.flat) ?_
  rintro _ _ ⟨_,_,_,_,rfl,u2,g6⟩
  have e1:=g6.unflat1
  have hn_az_270:=u2.len;have hl_az_270:=u2.le
  have hul:=hn_az_270;rw [upto_len] at hul
  refine nilO ⟨⟨cI e1 1,cI e1 1,cI e1 1,cI e1 1,dI,dI,dI,dI,dI,dI,dI,dI,dI,dI,dI,dI,dI,dI,dI,dI,dI,dI,cI e1 5,dI,dI,dI,dI,dI,dI,dI,dI,cI e1 4,trivial⟩,?_⟩
  refine wO rfl ?_
  have h6:=Sat.nilc e1
  refine cX call58 (r20_insert (OwnT.nil (enc:=Go.E.encI) (E:=3) (sz:=1) fR) (ms:=(uptoV (nx*ny).toNat)) (RdT.flat (u2.rdAt 0 (by rfl))) (nzs:Int) (by simp [Asc]) (fun x hx=>by have h:=mem_upto.1 hx;omega) om om h6.flat1) ?_
  rintro _ _ ⟨s1,t1,u1,v1,rfl,v2,j6⟩
  have k1:=j6.unflat1;have hn_az_280:=v2.len;have hl_az_280:=v2.le
  refine nilO ⟨⟨cI k1 2,cI k1 2,cI k1 2,cI k1 2,dI,dI,dI,dI,dI,dI,dI,dI,dI,dI,dI,dI,dI,dI,dI,dI,dI,dI,cI k1 6,dI,dI,dI,dI,dI,dI,dI,dI,dI,trivial⟩,?_⟩
  refine wU [17] ?_
  refine wO rfl ?_
  refine sBS k1 #[I b0,I 2,I 0,I 0,I a0.bins,I 1, .slice s1 t1 u1,I 1,I (scrV a0.v r0 2 (⟨0,0,a0.bins,1⟩:Rct))] runUnderlying39 sizeOf46 zeroValue46 ?_
  intro _ _ l1
  refine nilO ⟨⟨cI l1 3,cI l1 3,cI l1 3,cI l1 3,dI,dI,dI,dI,dI,dI,dI,dI,dI,dI,dI,dI,dI,dI,dI,dI,dI,dI,cI l1 7,dI,dI,dI,dI,dI,dI,dI,dI,dI,trivial⟩,?_⟩
  refine wO rfl ?_
  refine sApp (nb:=88) l1 hOzt 5 (RdT.blk (enc:=encTask) (sz:=9) (xs:=[(⟨b0,2,0,0,a0.bins,1,⟨s1,t1,u1,(insV (nzs:Int) (uptoV (nx*ny).toNat) ([]))⟩,1,(scrV a0.v r0 2 (⟨0,0,a0.bins,1⟩:Rct))⟩:Task)]) fR 1 0 rfl rfl rfl om) underlying39 (i:=Tryz.t46) kr fR ?_
  intro k6 l6 w2 _ m6 f1
  refine nilO ⟨⟨cI f1 3,cI f1 3,cI f1 3,cI f1 3,dI,dI,dI,dI,dI,dI,dI,dI,dI,dI,dI,dI,dI,dI,dI,dI,dI,dI,cI f1 7,dI,dI,dI,dI,dI,dI,dI,dI,dI,trivial⟩,?_⟩
  refine wU [20] ?_
  refine wN ?_
  refine tN<|rE<|pu1 ?_
  refine sL f1 6 1 (I (nx*ny)) (isAgg3 _) ?_
  refine sAdd (nx*ny) 1 ?_
  refine pu1 ?_
  refine tW f1 6 1 (I ((nx*ny)+1)) sizeOf3 ?_
  intro _ v3
  refine nT<|rE<|pu2 ?_
  refine lA v3 6 0 4 (isAgg109 _) (sizeOf109 _) ?_
  refine sIdxO hOgs b0 (b0).toNat runUnderlying104 sizeOf109 ?_
  intro n6 _ _ o6 _ p6
  refine sStF v3 hOgs p6 8 (b0).toNat 0 n6 (⟨(nzs:Int),((nx*ny)+1),m.w,m.h⟩:Grp) o6 (.agg #[I (nzs:Int),I ((nx*ny)+1),I m.w,I m.h]) [I (nzs:Int),I ((nx*ny)+1),I m.w,I m.h] sizeOf109 ?_
  intro _ x2 q6 r6
  refine nB<|rE<|pu1 ?_
  refine sAdd (i:Int) 1 ?_
  refine pu1<|nT ?_
  have hcn:L.cnt b0=nx*ny+1:=by unfold Lay.cnt;rw [hst,if_pos (show a0.v.kind=4 from j1),hnx2,hny2]
  have hds:(insV (nzs:Int) (uptoV (nx*ny).toNat) ([]))=canonV ((uptoV (nx*ny).toNat).map ((nzs:Int)+·)):=insV_canon _ _ []
  have hsc:(scrV a0.v r0 2 (⟨0,0,a0.bins,1⟩:Rct))=bytV a0.v r0.h ⟨0,0,a0.bins,1⟩:=by have h:=hg.scr hnd (p:=2) (r:=⟨0,0,a0.bins,1⟩) (by rw [hst];intro h;have h1:=h.1;simp only [Stage.v] at h1;omega) (by rw [hst];exact .inl ⟨j1, .inr rfl⟩) hin;rw [hst,shp_at' (show L.sh[a0.v.a.toNat]?=some r0 from u3)] at h;exact h
  have htv:Task.v (⟨b0,2,0,0,a0.bins,1,⟨s1,t1,u1,(insV (nzs:Int) (uptoV (nx*ny).toNat) ([]))⟩,1,(scrV a0.v r0 2 (⟨0,0,a0.bins,1⟩:Rct))⟩:Task)=L.mergeT b0:=by unfold Lay.mergeT Lay.task;rw [hst,hnx2,hny2,hfr,shp_at' (show L.sh[a0.v.a.toNat]?=some r0 from u3),<-hds,if_pos rfl];show _=(⟨_,_,_,_,_,_,_,_,bytV a0.v r0.h ⟨0,0,a0.bins,1⟩⟩:TaskV);rw [<-hsc];rfl
  have s6:=(r6.drops [0,1,1,3,3])
  have t6:=(Sat.perm (cs':=(v1++Gzt)::(w2::x2::n0::m0::[(e0, .cells (encJob p).toArray 28 (0,0))]::H::F)) (show Sat W _ (v1::Gzt::w2::x2::n0::m0::[(e0, .cells (encJob p).toArray 28 (0,0))]::H::F) from s6) (by simp))
  exact ⟨(i+1,(zt++[(⟨b0,2,0,0,a0.bins,1,⟨s1,t1,u1,(insV (nzs:Int) (uptoV (nx*ny).toNat) ([]))⟩,1,(scrV a0.v r0 2 (⟨0,0,a0.bins,1⟩:Rct))⟩:Task)]),k6,(nzt+1),l6,w2,(v1++Gzt),(gs.set ((b0).toNat) (⟨(nzs:Int),((nx*ny)+1),m.w,m.h⟩:Grp)),ags,ngs,kgs,x2),od,alA,t6,om,(by rw [take_flat (f:=L.tasks) u0,List.map_append,hE2,hE,hk9,List.append_assoc];congr 1;unfold Lay.tasks;rw [hst,if_pos (show a0.v.kind=4 from j1),hnx2,hny2];simp only [List.map_cons,List.map_nil];rw [htv]),(by rw [sum_take (f:=L.cnt) u0,<-hzl,hcn];rw [List.length_append,List.length_singleton];omega),(grp_set hg u0 hG (by unfold grpV;rw [hfr,hcn,<-hm]) om),(by simp;omega),m6,(by
    intro z hz
    rcases List.mem_append.1 hz with h|h
    ·exact (hDzt z h).of_mem mS
    ·simp only [List.mem_singleton] at h;subst h;exact ⟨(v2.rdAt (cs:=[v1]) 0 rfl).of_mem mS⟩),q6⟩
 refine kT<|seqE<|blockE<|sR<|pu5 ?_
 refine cR call54 (r5_tile m.w m.h tw th (k:Int) hfi ⟨om,by rw [<-hnx,<-hny];omega⟩ i1.flat) ?_
 intro _ u6
 refine pu3 ?_
 refine sAlloc u6 zeroValue44 ?_
 intro k0 _ v6
 refine sT v6 0 0 (.agg #[I ((tileV m.w m.h tw th (k:Int)).x0),I ((tileV m.w m.h tw th (k:Int)).y0),I ((tileV m.w m.h tw th (k:Int)).x1),I ((tileV m.w m.h tw th (k:Int)).y1)]) [I ((tileV m.w m.h tw th (k:Int)).x0),I ((tileV m.w m.h tw th (k:Int)).y0),I ((tileV m.w m.h tw th (k:Int)).x1),I ((tileV m.w m.h tw th (k:Int)).y1)] #[I ((tileV m.w m.h tw th (k:Int)).x0),I ((tileV m.w m.h tw th (k:Int)).y0),I ((tileV m.w m.h tw th (k:Int)).x1),I ((tileV m.w m.h tw th (k:Int)).y1)] sizeOf44 ?_
 intro w6 x6
 refine pu1<|nilO ?_
 obtain ⟨r,hr⟩:∃z:Rct,z=(tileV m.w m.h tw th (k:Int)):=⟨_,rfl⟩
 have g0:Sat W w6 ([(k0, .cells (encRct r).toArray 44 (0,0))]::Gzt::czt::[(i0, .cells #[I (nzs:Int),I (nx*ny),I m.w,I m.h] 109 (0,0))]::[(c0, .cells (encStage a0).toArray 38 (0,0))]::cgs::n0::m0::[(e0, .cells (encJob p).toArray 28 (0,0))]::H::F):=by rw [hr];exact x6
 have hin:inP r:=by rw [hr];exact (tile_in hfi om (by rw [<-hnx,<-hny];omega)).1
 have hrt:L.tile b0 (k:Int)=r:=by rw [hr];unfold Lay.tile;rw [<-hm,hLt.1,hLt.2]
 have hin0:=hin;unfold inP at hin0
 refine tN<|seqE ?_
 obtain ⟨l0,w1,z1,a2,m1,y6⟩:=RdT.elem n1 a0.a
 refine drawP [16,18,19] [(2,⟨k0,0,none⟩,I r.x0),(2,⟨k0,1,none⟩,I r.y0),(2,⟨k0,2,none⟩,I r.x1),(2,⟨k0,3,none⟩,I r.y1),(4,⟨k0,3,none⟩,I r.y1),(6,⟨k0,1,none⟩,I r.y0),(8,⟨c0,0,none⟩,I a0.kind),(8,⟨c0,1,none⟩,I a0.a),(8,⟨c0,2,none⟩,I a0.b),(8,⟨c0,3,none⟩, .bool a0.barrier),(8,⟨c0,4,none⟩,I a0.edgePolicy),(8,⟨c0,5,none⟩,I a0.edgeFill),(8,⟨c0,6,none⟩,I a0.kW),(8,⟨c0,7,none⟩,I a0.kH),(8,⟨c0,8,none⟩, .slice a0.weights.a a0.weights.n a0.weights.k),(8,⟨c0,9,none⟩, .slice a0.row.a a0.row.n a0.row.k),(8,⟨c0,10,none⟩, .slice a0.col.a a0.col.n a0.col.k),(8,⟨c0,11,none⟩,I a0.shift),(8,⟨c0,12,none⟩,I a0.shift2),(8,⟨c0,13,none⟩, .slice a0.x.a a0.x.n a0.x.k),(8,⟨c0,14,none⟩, .slice a0.y.a a0.y.n a0.y.k),(8,⟨c0,15,none⟩,I a0.bins),(8,⟨c0,16,none⟩, .slice a0.ops.a a0.ops.n a0.ops.k),(8,⟨c0,17,none⟩,I a0.max_),(11,⟨c0,1,none⟩,I a0.a),(13,⟨w1,z1+0,none⟩,I l0.w),(13,⟨w1,z1+1,none⟩,I l0.h),(13,⟨w1,z1+2,none⟩,I l0.max_),(15,⟨k0,0,none⟩,I r.x0),(15,⟨k0,1,none⟩,I r.y0),(15,⟨k0,2,none⟩,I r.x1),(15,⟨k0,3,none⟩,I r.y1)] (Plan.sts [0,1,3,5,9,10,14]<|Plan.sts [2]<|Plan.sts [4]<|Plan.sts [6]<|Plan.sts [7]<|Plan.sts [8]<|Plan.sts [11]<|Plan.sts [12]<|Plan.sts [13]<|Plan.sts [15]<| .fk 16 18 (Plan.sts [17]<| .ef 18<| .ef 19<| .fin) (.ef 16<|Plan.sts [17]<| .ef 19<| .fin)) rfl kr ⟨cI g0 0,cI g0 0,cI g0 0,cI g0 0,cI g0 0,cI g0 0,cI g0 4,cI g0 4,cI g0 4,cI g0 4,cI g0 4,cI g0 4,cI g0 4,cI g0 4,cI g0 4,cI g0 4,cI g0 4,cI g0 4,cI g0 4,cI g0 4,cI g0 4,cI g0 4,cI g0 4,cI g0 4,cI g0 4, .inr ((m1.up 7 rfl).cell g0 (k:=0) rfl), .inr ((m1.up 7 rfl).cell g0 (k:=1) rfl), .inr ((m1.up 7 rfl).cell g0 (k:=2) rfl),cI g0 0,cI g0 0,cI g0 0,cI g0 0,trivial⟩ ?_
 have w3:=g0.drew
 refine qU [0,1,3,5,9,10,14] ?_
 refine qY (.agg (encRct r).toArray) rfl (fun w hF=>Y_loadF rfl (isAgg44 w) (sizeOf44 w) kr rfl ⟨hF 0 _ _ rfl,hF 1 _ _ rfl,hF 2 _ _ rfl,hF 3 _ _ rfl,trivial⟩) ?_
 refine qLd (I r.y1) 4 isAgg3 ?_
 refine qLd (I r.y0) 5 isAgg3 ?_
 refine qSub r.y1 r.y0 ?_
 refine qY (.agg (encStage a0).toArray) rfl (fun w hF=>Y_loadF rfl (isAgg38 w) (sizeOf38 w) kr rfl ⟨hF 6 _ _ rfl,hF 7 _ _ rfl,hF 8 _ _ rfl,hF 9 _ _ rfl,hF 10 _ _ rfl,hF 11 _ _ rfl,hF 12 _ _ rfl,hF 13 _ _ rfl,hF 14 _ _ rfl,hF 15 _ _ rfl,hF 16 _ _ rfl,hF 17 _ _ rfl,hF 18 _ _ rfl,hF 19 _ _ rfl,hF 20 _ _ rfl,hF 21 _ _ rfl,hF 22 _ _ rfl,hF 23 _ _ rfl,trivial⟩) ?_
 refine qLd (I a0.a) 24 isAgg3 ?_
 refine qY (.pointer (some ⟨w1,z1,none⟩)) rfl (fun w _=>Y_idx (a:=o0) (i:=a0.a) (len:=j0) (cap:=p0) rfl runUnderlying61 sizeOf54 kr kr y6) ?_
 refine qY (.agg #[I l0.w,I l0.h,I l0.max_]) rfl (fun w hF=>Y_loadF rfl (isAgg54 w) (sizeOf54 w) kr rfl ⟨hF 25 _ _ rfl,hF 26 _ _ rfl,hF 27 _ _ rfl,trivial⟩) ?_
 refine qY (.agg (encRct r).toArray) rfl (fun w hF=>Y_loadF rfl (isAgg44 w) (sizeOf44 w) kr rfl ⟨hF 28 _ _ rfl,hF 29 _ _ rfl,hF 30 _ _ rfl,hF 31 _ _ rfl,trivial⟩) ?_
 refine qF ?_ ?_
 ·refine qO rfl ?_
  refine cR call27 (r20_scratch a0 l0 pt r ⟨(RdT.flat ((hp.stagesD a0 (List.mem_of_getElem? d0)).weights.up 9 (by rfl))),(RdT.flat ((hp.stagesD a0 (List.mem_of_getElem? d0)).row.up 9 (by rfl))),(RdT.flat ((hp.stagesD a0 (List.mem_of_getElem? d0)).col.up 9 (by rfl))),(RdT.flat ((hp.stagesD a0 (List.mem_of_getElem? d0)).x.up 9 (by rfl))),(fun z hz=>((hp.stagesD a0 (List.mem_of_getElem? d0)).xD z hz).of_mem (mem_flat1 9 (by rfl))),(RdT.flat ((hp.stagesD a0 (List.mem_of_getElem? d0)).y.up 9 (by rfl))),(fun z hz=>((hp.stagesD a0 (List.mem_of_getElem? d0)).yD z hz).of_mem (mem_flat1 9 (by rfl))),(RdT.flat ((hp.stagesD a0 (List.mem_of_getElem? d0)).ops.up 9 (by rfl)))⟩ w3.flat) ?_
  intro _ b1
  refine nilO ⟨⟨cI b1 0,cI b1 0,cI b1 0,cI b1 0,cI b1 0,cI b1 0,dI,dI,dI,dI,dI,dI,dI,dI,dI,dI,dI,dI,dI,dI,dI,dI,dI,dI,cI b1 4,dI,dI,dI,dI,dI,dI,dI,trivial⟩,?_⟩
  refine qU [17] ?_
  refine qO rfl ?_
  refine sAlloc b1 zeroValue46 ?_
  intro v0 _ c1
  refine nilO ⟨⟨cI c1 1,cI c1 1,cI c1 1,cI c1 1,cI c1 1,cI c1 1,dI,dI,dI,dI,dI,dI,dI,dI,dI,dI,dI,dI,dI,dI,dI,dI,dI,dI,cI c1 5,dI,dI,dI,dI,dI,dI,dI,trivial⟩,?_⟩
  refine qO rfl ?_
  refine sT c1 0 0 (.agg #[I b0,I pt,I r.x0,I r.y0,I r.x1,I r.y1,nS,I (r.y1-r.y0),I (scrV a0.v l0 pt r)]) [I b0,I pt,I r.x0,I r.y0,I r.x1,I r.y1,nS,I (r.y1-r.y0),I (scrV a0.v l0 pt r)] #[I b0,I pt,I r.x0,I r.y0,I r.x1,I r.y1,nS,I (r.y1-r.y0),I (scrV a0.v l0 pt r)] sizeOf46 ?_
  intro _ x3
  refine nilO ⟨dA,?_⟩
  refine qN ?_
  refine tN ?_
  refine cutA (γ:=Int) (fun sc=>[(1,I tw),(2,I th),(3,Pt e0 0),(8, .slice o0 j0 p0),(11, .slice s0 q0 t0),(15,I (i:Int)),(13, .slice ags ngs kgs),(16,I b0),(17,Pt c0 0),(18,I m.w),(19,I m.h),(20,I nx),(21,I ny),(22,Pt i0 0),(23,I pt),(24,I (k:Int)),(14, .slice azt nzt kzt),(25,Pt k0 0),(27,Pt v0 0)]) (fun sc w=>Sat W w ([(v0, .cells #[I b0,I pt,I r.x0,I r.y0,I r.x1,I r.y1,nS,I (r.y1-r.y0),I sc] 46 (0,0))]::[(k0, .cells (encRct r).toArray 44 (0,0))]::Gzt::czt::[(i0, .cells #[I (nzs:Int),I (nx*ny),I m.w,I m.h] 109 (0,0))]::[(c0, .cells (encStage a0).toArray 38 (0,0))]::cgs::n0::m0::[(e0, .cells (encJob p).toArray 28 (0,0))]::H::F)/\sc=bytV a0.v l0.h r) ?_ ?_
  ·refine sR ?_
   refine lA x3 5 0 18 (isAgg38 _) (sizeOf38 _) ?_
   refine cR call55 (r15_two a0 ⟨(RdT.flat ((hp.stagesD a0 (List.mem_of_getElem? d0)).weights.up 10 (by rfl))),(RdT.flat ((hp.stagesD a0 (List.mem_of_getElem? d0)).row.up 10 (by rfl))),(RdT.flat ((hp.stagesD a0 (List.mem_of_getElem? d0)).col.up 10 (by rfl))),(RdT.flat ((hp.stagesD a0 (List.mem_of_getElem? d0)).x.up 10 (by rfl))),(fun z hz=>((hp.stagesD a0 (List.mem_of_getElem? d0)).xD z hz).of_mem (mem_flat1 10 (by rfl))),(RdT.flat ((hp.stagesD a0 (List.mem_of_getElem? d0)).y.up 10 (by rfl))),(fun z hz=>((hp.stagesD a0 (List.mem_of_getElem? d0)).yD z hz).of_mem (mem_flat1 10 (by rfl))),(RdT.flat ((hp.stagesD a0 (List.mem_of_getElem? d0)).ops.up 10 (by rfl)))⟩ x3.flat) ?_
   intro _ b2
   refine nT ?_
   refine cD (a0.kind=6/\¬a0.b=-1) (fun y2=>?_) (fun y2=>?_)
   rotate_left
   ·refine kT ?_
    exact ⟨(scrV a0.v l0 pt r),alA,b2,(by have h:=hg.scr hnd (p:=pt) (r:=r) (by rw [hst];exact fun h=>y2 h) (by rw [<-hpt];unfold Lay.part belongP;rw [hst];by_cases h4:a0.v.kind=4<;>simp [h4]) hin;rw [hst,shp_at' (show L.sh[a0.v.a.toNat]?=some l0 from a2)] at h;exact h)⟩
   refine rE<|pu1 ?_
   refine sL b2 1 2 (I r.x1) (isAgg3 _) ?_
   refine pu1 ?_
   refine sL b2 1 0 (I r.x0) (isAgg3 _) ?_
   refine sSub r.x1 r.x0 ?_
   refine sMul 8 (r.x1-r.x0) ?_
   refine cR call56 (r1_align (8*(r.x1-r.x0)) 16 1099511627776 (od) b2.flat) ?_
   intro _ z6
   refine pu4 ?_
   refine tW z6 0 8 (I (alnX (8*(r.x1-r.x0)) 16 1099511627776)) sizeOf3 ?_
   intro _ a7
   refine nT ?_
   exact ⟨(alnX (8*(r.x1-r.x0)) 16 1099511627776),alA,a7,(by rw [byt_two (show twoP a0.v from y2)];exact aln_ok om om)⟩
  rintro sc ρ _ ⟨c2,hsc⟩
  refine sR ?_
  refine lA c2 9 0 4 (isAgg28 _) (sizeOf28 _) ?_
  refine lA c2 5 0 18 (isAgg38 _) (sizeOf38 _) ?_
  refine pu3 ?_
  refine lA c2 1 0 4 (isAgg44 _) (sizeOf44 _) ?_
  refine cX call57 (r20_depends p a0 ags ngs kgs gs tw th r ⟨(RdT.flat (hp.inputs.up 10 (by rfl))),(fun z hz=>(hp.inputsD z hz).of_mem (mem_flat1 10 (by rfl))),(RdT.flat (hp.stages.up 10 (by rfl))),(fun z hz=>(hp.stagesD z hz).of_mem (mem_flat1 10 (by rfl))),(RdT.flat (hp.outputs.up 10 (by rfl)))⟩ ⟨(RdT.flat ((hp.stagesD a0 (List.mem_of_getElem? d0)).weights.up 10 (by rfl))),(RdT.flat ((hp.stagesD a0 (List.mem_of_getElem? d0)).row.up 10 (by rfl))),(RdT.flat ((hp.stagesD a0 (List.mem_of_getElem? d0)).col.up 10 (by rfl))),(RdT.flat ((hp.stagesD a0 (List.mem_of_getElem? d0)).x.up 10 (by rfl))),(fun z hz=>((hp.stagesD a0 (List.mem_of_getElem? d0)).xD z hz).of_mem (mem_flat1 10 (by rfl))),(RdT.flat ((hp.stagesD a0 (List.mem_of_getElem? d0)).y.up 10 (by rfl))),(fun z hz=>((hp.stagesD a0 (List.mem_of_getElem? d0)).yD z hz).of_mem (mem_flat1 10 (by rfl))),(RdT.flat ((hp.stagesD a0 (List.mem_of_getElem? d0)).ops.up 10 (by rfl)))⟩ (RdT.flat (hOgs.rdAt 6 (by rfl))) om (hL▸hg) (hL▸grp_src hg u0 hst hG) hin c2.flat) ?_
  rintro _ _ ⟨d2,e2,f2,y3,rfl,g2,b7⟩
  have c7:=b7.unflat1
  have hn_az_109:=g2.len;have hl_az_109:=g2.le
  refine pu1 ?_
  refine tW c7 1 6 (.slice d2 e2 f2) sizeOf22 ?_
  intro _ z2
  refine nilO ?_
  have hdl:=hn_az_109;have hdl2:=canon_len ((layV p.v tw th).needs a0.v r);have hdl3:=flat_len2 (s:=a0.v) (r:=r) hg (srcs a0.v) (fun y hy=>by have h:=hg.src hnd y (hst▸hy);exact h.2.2);have hdl4:=srcs_len a0.v;rw [<-hL] at hdl hdl2;have hdl5:(L.needs a0.v r).length<=40000:=by unfold Lay.needs;omega
  refine tN ?_
  refine cutA (γ:=(List Int)×(Option Addr)×Nat×Nat×Chunk) (fun ⟨ds1,da1,dn1,dk1,dc1⟩=>[(1,I tw),(2,I th),(3,Pt e0 0),(8, .slice o0 j0 p0),(11, .slice s0 q0 t0),(15,I (i:Int)),(13, .slice ags ngs kgs),(16,I b0),(17,Pt c0 0),(18,I m.w),(19,I m.h),(20,I nx),(21,I ny),(22,Pt i0 0),(23,I pt),(24,I (k:Int)),(14, .slice azt nzt kzt),(27,Pt v0 0)]) (fun ⟨ds1,da1,dn1,dk1,dc1⟩ w=>Sat W w (dc1::[(v0, .cells #[I b0,I pt,I r.x0,I r.y0,I r.x1,I r.y1, .slice da1 dn1 dk1,I (r.y1-r.y0),I sc] 46 (0,0))]::[(k0, .cells (encRct r).toArray 44 (0,0))]::Gzt::czt::[(i0, .cells #[I (nzs:Int),I (nx*ny),I m.w,I m.h] 109 (0,0))]::[(c0, .cells (encStage a0).toArray 38 (0,0))]::cgs::n0::m0::[(e0, .cells (encJob p).toArray 28 (0,0))]::H::F)/\OwnT Go.E.encI 3 1 da1 dn1 dk1 ds1 dc1/\ds1=canonV (L.needs a0.v r++(if (a0.kind=5/\(k:Int).tmod nx>0) then [(nzs:Int)+(k:Int)-1] else []))) ?_ ?_
  ·refine cutA (γ:=Unit) (fun _=>[(1,I tw),(2,I th),(3,Pt e0 0),(8, .slice o0 j0 p0),(11, .slice s0 q0 t0),(15,I (i:Int)),(13, .slice ags ngs kgs),(16,I b0),(17,Pt c0 0),(18,I m.w),(19,I m.h),(20,I nx),(21,I ny),(22,Pt i0 0),(23,I pt),(24,I (k:Int)),(14, .slice azt nzt kzt),(27,Pt v0 0),(158, .bool (decide (a0.kind=5/\(k:Int).tmod nx>0)))]) (fun _ w=>Sat W w (y3::[(v0, .cells #[I b0,I pt,I r.x0,I r.y0,I r.x1,I r.y1, .slice d2 e2 f2,I (r.y1-r.y0),I sc] 46 (0,0))]::[(k0, .cells (encRct r).toArray 44 (0,0))]::Gzt::czt::[(i0, .cells #[I (nzs:Int),I (nx*ny),I m.w,I m.h] 109 (0,0))]::[(c0, .cells (encStage a0).toArray 38 (0,0))]::cgs::n0::m0::[(e0, .cells (encJob p).toArray 28 (0,0))]::H::F)) ?_ ?_
   ·refine rE<|pu1 ?_
    refine sL z2 6 0 (I a0.kind) (isAgg3 _) ?_
    refine pu2 ?_
    refine sE 153 a0.kind 5 (fun d7=>?_) (fun d7=>?_)
    rotate_left
    ·refine pu5<|nT ?_
     exact ⟨(),⟨kr,kr,kr,kr,kr,kr,kr,kr,kr,kr,kr,kr,kr,kr,kr,kr,kr,kr,(Eq.trans (b:= .bool false) kr (congrArg Value.bool (decide_eq_false (p:=a0.kind=5/\(k:Int).tmod nx>0) om).symm)),trivial⟩,z2⟩
    refine pu2<|gY ?_
    refine sRem (k:Int) nx ?_
    refine pu2<|nT ?_
    exact ⟨(),⟨kr,kr,kr,kr,kr,kr,kr,kr,kr,kr,kr,kr,kr,kr,kr,kr,kr,kr,(Eq.trans (b:= .bool (decide ((((k:Int).tmod nx):Int)>0))) kr (congrArg Value.bool bm)),trivial⟩,z2⟩
   rintro _ ρ _ a3
   refine cD (a0.kind=5/\(k:Int).tmod nx>0) (fun b3=>?_) (fun b3=>?_)
   rotate_left
   ·refine kT ?_
    exact ⟨((canonV ((layV p.v tw th).needs a0.v r)),d2,e2,f2,y3),alA,a3,g2,(by rw [hL];simp only [if_neg b3,insV_canon,List.map_cons,List.map_nil,List.append_assoc,List.append_nil,List.nil_append,List.singleton_append,List.cons_append,Int.add_sub_assoc])⟩
   refine rE<|pu1 ?_
   refine sL a3 1 6 (.slice d2 e2 f2) (isAgg22 _) ?_
   refine pu1 ?_
   refine sSub (k:Int) 1 ?_
   refine sBS a3 #[I ((k:Int)-1)] runUnderlying22 sizeOf3 zeroValue3 ?_
   intro _ _ z3
   refine pu1 ?_
   refine sL z3 6 0 (I (nzs:Int)) (isAgg3 _) ?_
   have e7:=(z3.pick 1 rfl)
   refine cX call58 (r20_insert g2 (ms:=([((k:Int)-1)])) (RdT.flat (RdT.blk (enc:=Go.E.encI) (sz:=1) (xs:=[((k:Int)-1)]) (fun _=>(by rfl)) 1 0 rfl rfl rfl om)) (nzs:Int) (asc_canon _) (fun x hx=>by rw [List.mem_singleton.1 hx];omega) om om e7.flat1) ?_
   rintro _ _ ⟨a4,b4,c4,f7,rfl,c3,g7⟩
   have h7:=g7.unflat1;have hn_az_127:=c3.len;have hl_az_127:=c3.le
   refine pu1 ?_
   refine tW h7 2 6 (.slice a4 b4 c4) sizeOf22 ?_
   intro _ i7
   refine nT ?_
   exact ⟨((insV (nzs:Int) ([((k:Int)-1)]) (canonV ((layV p.v tw th).needs a0.v r))),a4,b4,c4,f7),alA,(i7.dropAt 1 rfl),c3,(by rw [hL];simp only [if_pos b3,insV_canon,List.map_cons,List.map_nil,List.append_assoc,List.append_nil,List.nil_append,List.singleton_append,List.cons_append,Int.add_sub_assoc])⟩
  rintro ⟨ds1,da1,dn1,dk1,dc1⟩ ρ _ ⟨d3,hOds1,hd1⟩
  refine cutA (γ:=(List Int)×(Option Addr)×Nat×Nat×Chunk) (fun ⟨ds2,da2,dn2,dk2,dc2⟩=>[(1,I tw),(2,I th),(3,Pt e0 0),(8, .slice o0 j0 p0),(11, .slice s0 q0 t0),(15,I (i:Int)),(13, .slice ags ngs kgs),(16,I b0),(17,Pt c0 0),(18,I m.w),(19,I m.h),(20,I nx),(21,I ny),(22,Pt i0 0),(23,I pt),(24,I (k:Int)),(14, .slice azt nzt kzt),(27,Pt v0 0)]) (fun ⟨ds2,da2,dn2,dk2,dc2⟩ w=>Sat W w (dc2::[(v0, .cells #[I b0,I pt,I r.x0,I r.y0,I r.x1,I r.y1, .slice da2 dn2 dk2,I (r.y1-r.y0),I sc] 46 (0,0))]::[(k0, .cells (encRct r).toArray 44 (0,0))]::Gzt::czt::[(i0, .cells #[I (nzs:Int),I (nx*ny),I m.w,I m.h] 109 (0,0))]::[(c0, .cells (encStage a0).toArray 38 (0,0))]::cgs::n0::m0::[(e0, .cells (encJob p).toArray 28 (0,0))]::H::F)/\OwnT Go.E.encI 3 1 da2 dn2 dk2 ds2 dc2/\ds2=canonV (L.needs a0.v r++L.own b0 (k:Int))) ?_ ?_
  rotate_left
  ·rintro ⟨ds2,da2,dn2,dk2,dc2⟩ ρ _ ⟨d4,hOds2,hd2⟩
   refine rE<|pu1 ?_
   refine lA d4 1 0 9 (isAgg46 _) (sizeOf46 _) ?_
   refine sBS d4 #[I b0,I pt,I r.x0,I r.y0,I r.x1,I r.y1, .slice da2 dn2 dk2,I (r.y1-r.y0),I sc] runUnderlying39 sizeOf46 zeroValue46 ?_
   intro _ _ k7
   refine sApp (nb:=88) k7 hOzt 5 (RdT.blk (enc:=encTask) (sz:=9) (xs:=[(⟨b0,pt,r.x0,r.y0,r.x1,r.y1,⟨da2,dn2,dk2,ds2⟩,(r.y1-r.y0),sc⟩:Task)]) fR 1 0 rfl rfl rfl om) underlying39 (i:=Tryz.t46) kr fR ?_
   intro l7 m7 e3 _ n7 o7
   refine pu1<|nB<|rE<|pu1 ?_
   refine sAdd (k:Int) 1 ?_
   refine pu1<|nT ?_
   have htv:Task.v (⟨b0,pt,r.x0,r.y0,r.x1,r.y1,⟨da2,dn2,dk2,ds2⟩,(r.y1-r.y0),sc⟩:Task)=L.tileT b0 (k:Int):=by unfold Lay.tileT Lay.task;rw [hrt,hpt,hst,shp_at' (show L.sh[a0.v.a.toNat]?=some l0 from a2),<-hd2,<-hsc,if_neg (by rw [<-hpt];unfold Lay.part;split<;>decide)];rfl
   have p7:=(o7.drops [0,1,1])
   exact ⟨(k+1,(zt++[(⟨b0,pt,r.x0,r.y0,r.x1,r.y1,⟨da2,dn2,dk2,ds2⟩,(r.y1-r.y0),sc⟩:Task)]),l7,(nzt+1),m7,e3,(dc2++Gzt)),od,alA,(Sat.perm (cs':=(dc2++Gzt)::(e3::[(i0, .cells #[I (nzs:Int),I (nx*ny),I m.w,I m.h] 109 (0,0))]::[(c0, .cells (encStage a0).toArray 38 (0,0))]::cgs::n0::m0::[(e0, .cells (encJob p).toArray 28 (0,0))]::H::F)) (show Sat W _ (dc2::Gzt::e3::[(i0, .cells #[I (nzs:Int),I (nx*ny),I m.w,I m.h] 109 (0,0))]::[(c0, .cells (encStage a0).toArray 38 (0,0))]::cgs::n0::m0::[(e0, .cells (encJob p).toArray 28 (0,0))]::H::F) from p7) (by simp)),om,(by rw [List.map_append,hE2,upto_map_snoc,<-List.append_assoc];simp only [List.map_cons,List.map_nil];rw [htv]),(by simp;omega),n7,(by
     intro z hz
     rcases List.mem_append.1 hz with h|h
     ·exact (hDzt z h).of_mem mS
     ·simp only [List.mem_singleton] at h;subst h;exact ⟨(hOds2.rdAt (cs:=[dc2]) 0 rfl).of_mem mS⟩)⟩
  refine cutA (γ:=Unit) (fun _=>[(1,I tw),(2,I th),(3,Pt e0 0),(8, .slice o0 j0 p0),(11, .slice s0 q0 t0),(15,I (i:Int)),(13, .slice ags ngs kgs),(16,I b0),(17,Pt c0 0),(18,I m.w),(19,I m.h),(20,I nx),(21,I ny),(22,Pt i0 0),(23,I pt),(24,I (k:Int)),(14, .slice azt nzt kzt),(27,Pt v0 0),(175, .bool (decide (a0.kind=5/\(k:Int)>=nx)))]) (fun _ w=>Sat W w (dc1::[(v0, .cells #[I b0,I pt,I r.x0,I r.y0,I r.x1,I r.y1, .slice da1 dn1 dk1,I (r.y1-r.y0),I sc] 46 (0,0))]::[(k0, .cells (encRct r).toArray 44 (0,0))]::Gzt::czt::[(i0, .cells #[I (nzs:Int),I (nx*ny),I m.w,I m.h] 109 (0,0))]::[(c0, .cells (encStage a0).toArray 38 (0,0))]::cgs::n0::m0::[(e0, .cells (encJob p).toArray 28 (0,0))]::H::F)) ?_ ?_
  ·refine rE<|pu1 ?_
   refine sL d3 6 0 (I a0.kind) (isAgg3 _) ?_
   refine pu2 ?_
   refine sE 171 a0.kind 5 (fun r7=>?_) (fun r7=>?_)
   rotate_left
   ·refine pu4<|nT ?_
    exact ⟨(),⟨kr,kr,kr,kr,kr,kr,kr,kr,kr,kr,kr,kr,kr,kr,kr,kr,kr,kr,(Eq.trans (b:= .bool false) kr (congrArg Value.bool (decide_eq_false (p:=a0.kind=5/\(k:Int)>=nx) om).symm)),trivial⟩,d3⟩
   refine pu4<|nT ?_
   exact ⟨(),⟨kr,kr,kr,kr,kr,kr,kr,kr,kr,kr,kr,kr,kr,kr,kr,kr,kr,kr,(Eq.trans (b:= .bool (decide (((k:Int):Int)>=nx))) kr (congrArg Value.bool bm)),trivial⟩,d3⟩
  rintro _ ρ _ f3
  refine cD (a0.kind=5/\(k:Int)>=nx) (fun g3=>?_) (fun g3=>?_)
  rotate_left
  ·refine kT ?_
   have how:L.own b0 (k:Int)=(if (a0.kind=5/\(k:Int).tmod nx>0) then [(nzs:Int)+(k:Int)-1] else [])++(if (a0.kind=5/\(k:Int)>=nx) then [(nzs:Int)+(k:Int)-nx] else []):=by unfold Lay.own;rw [hst,hnx2,hfr];exact own_if om
   exact ⟨(ds1,da1,dn1,dk1,dc1),alA,f3,hOds1,(by rw [how,hd1];simp only [if_neg g3,insV_canon,List.map_cons,List.map_nil,List.append_assoc,List.append_nil,List.nil_append,List.singleton_append,List.cons_append,Int.add_sub_assoc])⟩
  have hdb:dn1<=40000+2:=by rw [<-hOds1.len,hd1];exact Nat.le_trans (canon_len _) (by rw [List.length_append];exact Nat.add_le_add hdl5 (by split<;>simp))
  have hll1:=hOds1.le
  refine rE<|pu1 ?_
  refine sL f3 1 6 (.slice da1 dn1 dk1) (isAgg22 _) ?_
  refine pu2 ?_
  refine sSub (k:Int) nx ?_
  refine sBS f3 #[I ((k:Int)-nx)] runUnderlying22 sizeOf3 zeroValue3 ?_
  intro _ _ e4
  refine pu1 ?_
  refine sL e4 6 0 (I (nzs:Int)) (isAgg3 _) ?_
  have s7:=(e4.pick 1 rfl)
  refine cX call58 (r20_insert hOds1 (ms:=([((k:Int)-nx)])) (RdT.flat (RdT.blk (enc:=Go.E.encI) (sz:=1) (xs:=[((k:Int)-nx)]) (fun _=>(by rfl)) 1 0 rfl rfl rfl om)) (nzs:Int) (hd1▸asc_canon _) (fun x hx=>by rw [List.mem_singleton.1 hx];omega) om om s7.flat1) ?_
  rintro _ _ ⟨f4,g4,i4,t7,rfl,h3,u7⟩
  have v7:=u7.unflat1;have hn_az_148:=h3.len;have hl_az_148:=h3.le
  refine pu1 ?_
  refine tW v7 2 6 (.slice f4 g4 i4) sizeOf22 ?_
  intro _ w7
  refine nT ?_
  have how:L.own b0 (k:Int)=(if (a0.kind=5/\(k:Int).tmod nx>0) then [(nzs:Int)+(k:Int)-1] else [])++(if (a0.kind=5/\(k:Int)>=nx) then [(nzs:Int)+(k:Int)-nx] else []):=by unfold Lay.own;rw [hst,hnx2,hfr];exact own_if om
  exact ⟨((insV (nzs:Int) ([((k:Int)-nx)]) ds1),f4,g4,i4,t7),alA,(w7.dropAt 1 rfl),h3,(by rw [how,hd1];simp only [if_pos g3,insV_canon,List.map_cons,List.map_nil,List.append_assoc,List.append_nil,List.nil_append,List.singleton_append,List.cons_append,Int.add_sub_assoc])⟩
 refine qO rfl ?_
 refine sAlloc w3 zeroValue46 ?_
 intro w0 _ h0
 refine nilO ⟨⟨cI h0 1,cI h0 1,cI h0 1,cI h0 1,cI h0 1,cI h0 1,cI h0 5,cI h0 5,cI h0 5,cI h0 5,cI h0 5,cI h0 5,cI h0 5,cI h0 5,cI h0 5,cI h0 5,cI h0 5,cI h0 5,cI h0 5,cI h0 5,cI h0 5,cI h0 5,cI h0 5,cI h0 5,cI h0 5, .inr ((m1.up 8 rfl).cell h0 (k:=0) rfl), .inr ((m1.up 8 rfl).cell h0 (k:=1) rfl), .inr ((m1.up 8 rfl).cell h0 (k:=2) rfl),cI h0 1,cI h0 1,cI h0 1,cI h0 1,trivial⟩,?_⟩
 refine qO rfl ?_
 refine cR call27 (r20_scratch a0 l0 pt r ⟨(RdT.flat ((hp.stagesD a0 (List.mem_of_getElem? d0)).weights.up 10 (by rfl))),(RdT.flat ((hp.stagesD a0 (List.mem_of_getElem? d0)).row.up 10 (by rfl))),(RdT.flat ((hp.stagesD a0 (List.mem_of_getElem? d0)).col.up 10 (by rfl))),(RdT.flat ((hp.stagesD a0 (List.mem_of_getElem? d0)).x.up 10 (by rfl))),(fun z hz=>((hp.stagesD a0 (List.mem_of_getElem? d0)).xD z hz).of_mem (mem_flat1 10 (by rfl))),(RdT.flat ((hp.stagesD a0 (List.mem_of_getElem? d0)).y.up 10 (by rfl))),(fun z hz=>((hp.stagesD a0 (List.mem_of_getElem? d0)).yD z hz).of_mem (mem_flat1 10 (by rfl))),(RdT.flat ((hp.stagesD a0 (List.mem_of_getElem? d0)).ops.up 10 (by rfl)))⟩ h0.flat) ?_
 intro _ d1
 refine nilO ⟨⟨cI d1 1,cI d1 1,cI d1 1,cI d1 1,cI d1 1,cI d1 1,dI,dI,dI,dI,dI,dI,dI,dI,dI,dI,dI,dI,dI,dI,dI,dI,dI,dI,cI d1 5,dI,dI,dI,dI,dI,dI,dI,trivial⟩,?_⟩
 refine qU [17] ?_
 refine qO rfl ?_
 refine sT d1 0 0 (.agg #[I b0,I pt,I r.x0,I r.y0,I r.x1,I r.y1,nS,I (r.y1-r.y0),I (scrV a0.v l0 pt r)]) [I b0,I pt,I r.x0,I r.y0,I r.x1,I r.y1,nS,I (r.y1-r.y0),I (scrV a0.v l0 pt r)] #[I b0,I pt,I r.x0,I r.y0,I r.x1,I r.y1,nS,I (r.y1-r.y0),I (scrV a0.v l0 pt r)] sizeOf46 ?_
 intro _ j4
 refine nilO ⟨dA,?_⟩
 refine qN ?_
 refine tN ?_
 refine cutA (γ:=Int) (fun sc=>[(1,I tw),(2,I th),(3,Pt e0 0),(8, .slice o0 j0 p0),(11, .slice s0 q0 t0),(15,I (i:Int)),(13, .slice ags ngs kgs),(16,I b0),(17,Pt c0 0),(18,I m.w),(19,I m.h),(20,I nx),(21,I ny),(22,Pt i0 0),(23,I pt),(24,I (k:Int)),(14, .slice azt nzt kzt),(25,Pt k0 0),(27,Pt w0 0)]) (fun sc w=>Sat W w ([(w0, .cells #[I b0,I pt,I r.x0,I r.y0,I r.x1,I r.y1,nS,I (r.y1-r.y0),I sc] 46 (0,0))]::[(k0, .cells (encRct r).toArray 44 (0,0))]::Gzt::czt::[(i0, .cells #[I (nzs:Int),I (nx*ny),I m.w,I m.h] 109 (0,0))]::[(c0, .cells (encStage a0).toArray 38 (0,0))]::cgs::n0::m0::[(e0, .cells (encJob p).toArray 28 (0,0))]::H::F)/\sc=bytV a0.v l0.h r) ?_ ?_
 ·refine sR ?_
  refine lA j4 5 0 18 (isAgg38 _) (sizeOf38 _) ?_
  refine cR call55 (r15_two a0 ⟨(RdT.flat ((hp.stagesD a0 (List.mem_of_getElem? d0)).weights.up 10 (by rfl))),(RdT.flat ((hp.stagesD a0 (List.mem_of_getElem? d0)).row.up 10 (by rfl))),(RdT.flat ((hp.stagesD a0 (List.mem_of_getElem? d0)).col.up 10 (by rfl))),(RdT.flat ((hp.stagesD a0 (List.mem_of_getElem? d0)).x.up 10 (by rfl))),(fun z hz=>((hp.stagesD a0 (List.mem_of_getElem? d0)).xD z hz).of_mem (mem_flat1 10 (by rfl))),(RdT.flat ((hp.stagesD a0 (List.mem_of_getElem? d0)).y.up 10 (by rfl))),(fun z hz=>((hp.stagesD a0 (List.mem_of_getElem? d0)).yD z hz).of_mem (mem_flat1 10 (by rfl))),(RdT.flat ((hp.stagesD a0 (List.mem_of_getElem? d0)).ops.up 10 (by rfl)))⟩ j4.flat) ?_
  intro _ h2
  refine nT ?_
  refine cD (a0.kind=6/\¬a0.b=-1) (fun i3=>?_) (fun i3=>?_)
  rotate_left
  ·refine kT ?_
   exact ⟨(scrV a0.v l0 pt r),alA,h2,(by have h:=hg.scr hnd (p:=pt) (r:=r) (by rw [hst];exact fun h=>i3 h) (by rw [<-hpt];unfold Lay.part belongP;rw [hst];by_cases h4:a0.v.kind=4<;>simp [h4]) hin;rw [hst,shp_at' (show L.sh[a0.v.a.toNat]?=some l0 from a2)] at h;exact h)⟩
  refine rE<|pu1 ?_
  refine sL h2 1 2 (I r.x1) (isAgg3 _) ?_
  refine pu1 ?_
  refine sL h2 1 0 (I r.x0) (isAgg3 _) ?_
  refine sSub r.x1 r.x0 ?_
  refine sMul 8 (r.x1-r.x0) ?_
  refine cR call56 (r1_align (8*(r.x1-r.x0)) 16 1099511627776 (od) h2.flat) ?_
  intro _ y7
  refine pu4 ?_
  refine tW y7 0 8 (I (alnX (8*(r.x1-r.x0)) 16 1099511627776)) sizeOf3 ?_
  intro _ z7
  refine nT ?_
  exact ⟨(alnX (8*(r.x1-r.x0)) 16 1099511627776),alA,z7,(by rw [byt_two (show twoP a0.v from i3)];exact aln_ok om om)⟩
 rintro sc ρ _ ⟨i2,hsc⟩
 refine sR ?_
 refine lA i2 9 0 4 (isAgg28 _) (sizeOf28 _) ?_
 refine lA i2 5 0 18 (isAgg38 _) (sizeOf38 _) ?_
 refine pu3 ?_
 refine lA i2 1 0 4 (isAgg44 _) (sizeOf44 _) ?_
 refine cX call57 (r20_depends p a0 ags ngs kgs gs tw th r ⟨(RdT.flat (hp.inputs.up 10 (by rfl))),(fun z hz=>(hp.inputsD z hz).of_mem (mem_flat1 10 (by rfl))),(RdT.flat (hp.stages.up 10 (by rfl))),(fun z hz=>(hp.stagesD z hz).of_mem (mem_flat1 10 (by rfl))),(RdT.flat (hp.outputs.up 10 (by rfl)))⟩ ⟨(RdT.flat ((hp.stagesD a0 (List.mem_of_getElem? d0)).weights.up 10 (by rfl))),(RdT.flat ((hp.stagesD a0 (List.mem_of_getElem? d0)).row.up 10 (by rfl))),(RdT.flat ((hp.stagesD a0 (List.mem_of_getElem? d0)).col.up 10 (by rfl))),(RdT.flat ((hp.stagesD a0 (List.mem_of_getElem? d0)).x.up 10 (by rfl))),(fun z hz=>((hp.stagesD a0 (List.mem_of_getElem? d0)).xD z hz).of_mem (mem_flat1 10 (by rfl))),(RdT.flat ((hp.stagesD a0 (List.mem_of_getElem? d0)).y.up 10 (by rfl))),(fun z hz=>((hp.stagesD a0 (List.mem_of_getElem? d0)).yD z hz).of_mem (mem_flat1 10 (by rfl))),(RdT.flat ((hp.stagesD a0 (List.mem_of_getElem? d0)).ops.up 10 (by rfl)))⟩ (RdT.flat (hOgs.rdAt 6 (by rfl))) om (hL▸hg) (hL▸grp_src hg u0 hst hG) hin i2.flat) ?_
 rintro _ _ ⟨j2,k2,l2,k4,rfl,m2,a8⟩
 have b8:=a8.unflat1
 have hn_az_191:=m2.len;have hl_az_191:=m2.le
 refine pu1 ?_
 refine tW b8 1 6 (.slice j2 k2 l2) sizeOf22 ?_
 intro _ j3
 refine nilO ?_
 have hdl:=hn_az_191;have hdl2:=canon_len ((layV p.v tw th).needs a0.v r);have hdl3:=flat_len2 (s:=a0.v) (r:=r) hg (srcs a0.v) (fun y hy=>by have h:=hg.src hnd y (hst▸hy);exact h.2.2);have hdl4:=srcs_len a0.v;rw [<-hL] at hdl hdl2;have hdl5:(L.needs a0.v r).length<=40000:=by unfold Lay.needs;omega
 refine tN ?_
 refine cutA (γ:=(List Int)×(Option Addr)×Nat×Nat×Chunk) (fun ⟨ds1,da1,dn1,dk1,dc1⟩=>[(1,I tw),(2,I th),(3,Pt e0 0),(8, .slice o0 j0 p0),(11, .slice s0 q0 t0),(15,I (i:Int)),(13, .slice ags ngs kgs),(16,I b0),(17,Pt c0 0),(18,I m.w),(19,I m.h),(20,I nx),(21,I ny),(22,Pt i0 0),(23,I pt),(24,I (k:Int)),(14, .slice azt nzt kzt),(27,Pt w0 0)]) (fun ⟨ds1,da1,dn1,dk1,dc1⟩ w=>Sat W w (dc1::[(w0, .cells #[I b0,I pt,I r.x0,I r.y0,I r.x1,I r.y1, .slice da1 dn1 dk1,I (r.y1-r.y0),I sc] 46 (0,0))]::[(k0, .cells (encRct r).toArray 44 (0,0))]::Gzt::czt::[(i0, .cells #[I (nzs:Int),I (nx*ny),I m.w,I m.h] 109 (0,0))]::[(c0, .cells (encStage a0).toArray 38 (0,0))]::cgs::n0::m0::[(e0, .cells (encJob p).toArray 28 (0,0))]::H::F)/\OwnT Go.E.encI 3 1 da1 dn1 dk1 ds1 dc1/\ds1=canonV (L.needs a0.v r++(if (a0.kind=5/\(k:Int).tmod nx>0) then [(nzs:Int)+(k:Int)-1] else []))) ?_ ?_
 ·refine cutA (γ:=Unit) (fun _=>[(1,I tw),(2,I th),(3,Pt e0 0),(8, .slice o0 j0 p0),(11, .slice s0 q0 t0),(15,I (i:Int)),(13, .slice ags ngs kgs),(16,I b0),(17,Pt c0 0),(18,I m.w),(19,I m.h),(20,I nx),(21,I ny),(22,Pt i0 0),(23,I pt),(24,I (k:Int)),(14, .slice azt nzt kzt),(27,Pt w0 0),(158, .bool (decide (a0.kind=5/\(k:Int).tmod nx>0)))]) (fun _ w=>Sat W w (k4::[(w0, .cells #[I b0,I pt,I r.x0,I r.y0,I r.x1,I r.y1, .slice j2 k2 l2,I (r.y1-r.y0),I sc] 46 (0,0))]::[(k0, .cells (encRct r).toArray 44 (0,0))]::Gzt::czt::[(i0, .cells #[I (nzs:Int),I (nx*ny),I m.w,I m.h] 109 (0,0))]::[(c0, .cells (encStage a0).toArray 38 (0,0))]::cgs::n0::m0::[(e0, .cells (encJob p).toArray 28 (0,0))]::H::F)) ?_ ?_
  ·refine rE<|pu1 ?_
   refine sL j3 6 0 (I a0.kind) (isAgg3 _) ?_
   refine pu2 ?_
   refine sE 153 a0.kind 5 (fun c8=>?_) (fun c8=>?_)
   rotate_left
   ·refine pu5<|nT ?_
    exact ⟨(),⟨kr,kr,kr,kr,kr,kr,kr,kr,kr,kr,kr,kr,kr,kr,kr,kr,kr,kr,(Eq.trans (b:= .bool false) kr (congrArg Value.bool (decide_eq_false (p:=a0.kind=5/\(k:Int).tmod nx>0) om).symm)),trivial⟩,j3⟩
   refine pu2<|gY ?_
   refine sRem (k:Int) nx ?_
   refine pu2<|nT ?_
   exact ⟨(),⟨kr,kr,kr,kr,kr,kr,kr,kr,kr,kr,kr,kr,kr,kr,kr,kr,kr,kr,(Eq.trans (b:= .bool (decide ((((k:Int).tmod nx):Int)>0))) kr (congrArg Value.bool bm)),trivial⟩,j3⟩
  rintro _ ρ _ k3
  refine cD (a0.kind=5/\(k:Int).tmod nx>0) (fun l3=>?_) (fun l3=>?_)
  rotate_left
  ·refine kT ?_
   exact ⟨((canonV ((layV p.v tw th).needs a0.v r)),j2,k2,l2,k4),alA,k3,m2,(by rw [hL];simp only [if_neg l3,insV_canon,List.map_cons,List.map_nil,List.append_assoc,List.append_nil,List.nil_append,List.singleton_append,List.cons_append,Int.add_sub_assoc])⟩
  refine rE<|pu1 ?_
  refine sL k3 1 6 (.slice j2 k2 l2) (isAgg22 _) ?_
  refine pu1 ?_
  refine sSub (k:Int) 1 ?_
  refine sBS k3 #[I ((k:Int)-1)] runUnderlying22 sizeOf3 zeroValue3 ?_
  intro _ _ l4
  refine pu1 ?_
  refine sL l4 6 0 (I (nzs:Int)) (isAgg3 _) ?_
  have d8:=(l4.pick 1 rfl)
  refine cX call58 (r20_insert m2 (ms:=([((k:Int)-1)])) (RdT.flat (RdT.blk (enc:=Go.E.encI) (sz:=1) (xs:=[((k:Int)-1)]) (fun _=>(by rfl)) 1 0 rfl rfl rfl om)) (nzs:Int) (asc_canon _) (fun x hx=>by rw [List.mem_singleton.1 hx];omega) om om d8.flat1) ?_
  rintro _ _ ⟨m4,n4,o4,e8,rfl,m3,f8⟩
  have g8:=f8.unflat1;have hn_az_209:=m3.len;have hl_az_209:=m3.le
  refine pu1 ?_
  refine tW g8 2 6 (.slice m4 n4 o4) sizeOf22 ?_
  intro _ h8
  refine nT ?_
  exact ⟨((insV (nzs:Int) ([((k:Int)-1)]) (canonV ((layV p.v tw th).needs a0.v r))),m4,n4,o4,e8),alA,(h8.dropAt 1 rfl),m3,(by rw [hL];simp only [if_pos l3,insV_canon,List.map_cons,List.map_nil,List.append_assoc,List.append_nil,List.nil_append,List.singleton_append,List.cons_append,Int.add_sub_assoc])⟩
 rintro ⟨ds1,da1,dn1,dk1,dc1⟩ ρ _ ⟨n3,hOds1,hd1⟩
 refine cutA (γ:=(List Int)×(Option Addr)×Nat×Nat×Chunk) (fun ⟨ds2,da2,dn2,dk2,dc2⟩=>[(1,I tw),(2,I th),(3,Pt e0 0),(8, .slice o0 j0 p0),(11, .slice s0 q0 t0),(15,I (i:Int)),(13, .slice ags ngs kgs),(16,I b0),(17,Pt c0 0),(18,I m.w),(19,I m.h),(20,I nx),(21,I ny),(22,Pt i0 0),(23,I pt),(24,I (k:Int)),(14, .slice azt nzt kzt),(27,Pt w0 0)]) (fun ⟨ds2,da2,dn2,dk2,dc2⟩ w=>Sat W w (dc2::[(w0, .cells #[I b0,I pt,I r.x0,I r.y0,I r.x1,I r.y1, .slice da2 dn2 dk2,I (r.y1-r.y0),I sc] 46 (0,0))]::[(k0, .cells (encRct r).toArray 44 (0,0))]::Gzt::czt::[(i0, .cells #[I (nzs:Int),I (nx*ny),I m.w,I m.h] 109 (0,0))]::[(c0, .cells (encStage a0).toArray 38 (0,0))]::cgs::n0::m0::[(e0, .cells (encJob p).toArray 28 (0,0))]::H::F)/\OwnT Go.E.encI 3 1 da2 dn2 dk2 ds2 dc2/\ds2=canonV (L.needs a0.v r++L.own b0 (k:Int))) ?_ ?_
 rotate_left
 ·rintro ⟨ds2,da2,dn2,dk2,dc2⟩ ρ _ ⟨p4,hOds2,hd2⟩
  refine rE<|pu1 ?_
  refine lA p4 1 0 9 (isAgg46 _) (sizeOf46 _) ?_
  refine sBS p4 #[I b0,I pt,I r.x0,I r.y0,I r.x1,I r.y1, .slice da2 dn2 dk2,I (r.y1-r.y0),I sc] runUnderlying39 sizeOf46 zeroValue46 ?_
  intro _ _ j8
  refine sApp (nb:=88) j8 hOzt 5 (RdT.blk (enc:=encTask) (sz:=9) (xs:=[(⟨b0,pt,r.x0,r.y0,r.x1,r.y1,⟨da2,dn2,dk2,ds2⟩,(r.y1-r.y0),sc⟩:Task)]) fR 1 0 rfl rfl rfl om) underlying39 (i:=Tryz.t46) kr fR ?_
  intro k8 l8 o3 _ m8 n8
  refine pu1<|nB<|rE<|pu1 ?_
  refine sAdd (k:Int) 1 ?_
  refine pu1<|nT ?_
  have htv:Task.v (⟨b0,pt,r.x0,r.y0,r.x1,r.y1,⟨da2,dn2,dk2,ds2⟩,(r.y1-r.y0),sc⟩:Task)=L.tileT b0 (k:Int):=by unfold Lay.tileT Lay.task;rw [hrt,hpt,hst,shp_at' (show L.sh[a0.v.a.toNat]?=some l0 from a2),<-hd2,<-hsc,if_neg (by rw [<-hpt];unfold Lay.part;split<;>decide)];rfl
  have o8:=(n8.drops [0,1,1])
  exact ⟨(k+1,(zt++[(⟨b0,pt,r.x0,r.y0,r.x1,r.y1,⟨da2,dn2,dk2,ds2⟩,(r.y1-r.y0),sc⟩:Task)]),k8,(nzt+1),l8,o3,(dc2++Gzt)),od,alA,(Sat.perm (cs':=(dc2++Gzt)::(o3::[(i0, .cells #[I (nzs:Int),I (nx*ny),I m.w,I m.h] 109 (0,0))]::[(c0, .cells (encStage a0).toArray 38 (0,0))]::cgs::n0::m0::[(e0, .cells (encJob p).toArray 28 (0,0))]::H::F)) (show Sat W _ (dc2::Gzt::o3::[(i0, .cells #[I (nzs:Int),I (nx*ny),I m.w,I m.h] 109 (0,0))]::[(c0, .cells (encStage a0).toArray 38 (0,0))]::cgs::n0::m0::[(e0, .cells (encJob p).toArray 28 (0,0))]::H::F) from o8) (by simp)),om,(by rw [List.map_append,hE2,upto_map_snoc,<-List.append_assoc];simp only [List.map_cons,List.map_nil];rw [htv]),(by simp;omega),m8,(by
    intro z hz
    rcases List.mem_append.1 hz with h|h
    ·exact (hDzt z h).of_mem mS
    ·simp only [List.mem_singleton] at h;subst h;exact ⟨(hOds2.rdAt (cs:=[dc2]) 0 rfl).of_mem mS⟩)⟩
 refine cutA (γ:=Unit) (fun _=>[(1,I tw),(2,I th),(3,Pt e0 0),(8, .slice o0 j0 p0),(11, .slice s0 q0 t0),(15,I (i:Int)),(13, .slice ags ngs kgs),(16,I b0),(17,Pt c0 0),(18,I m.w),(19,I m.h),(20,I nx),(21,I ny),(22,Pt i0 0),(23,I pt),(24,I (k:Int)),(14, .slice azt nzt kzt),(27,Pt w0 0),(175, .bool (decide (a0.kind=5/\(k:Int)>=nx)))]) (fun _ w=>Sat W w (dc1::[(w0, .cells #[I b0,I pt,I r.x0,I r.y0,I r.x1,I r.y1, .slice da1 dn1 dk1,I (r.y1-r.y0),I sc] 46 (0,0))]::[(k0, .cells (encRct r).toArray 44 (0,0))]::Gzt::czt::[(i0, .cells #[I (nzs:Int),I (nx*ny),I m.w,I m.h] 109 (0,0))]::[(c0, .cells (encStage a0).toArray 38 (0,0))]::cgs::n0::m0::[(e0, .cells (encJob p).toArray 28 (0,0))]::H::F)) ?_ ?_
 ·refine rE<|pu1 ?_
  refine sL n3 6 0 (I a0.kind) (isAgg3 _) ?_
  refine pu2 ?_
  refine sE 171 a0.kind 5 (fun q8=>?_) (fun q8=>?_)
  rotate_left
  ·refine pu4<|nT ?_
   exact ⟨(),⟨kr,kr,kr,kr,kr,kr,kr,kr,kr,kr,kr,kr,kr,kr,kr,kr,kr,kr,(Eq.trans (b:= .bool false) kr (congrArg Value.bool (decide_eq_false (p:=a0.kind=5/\(k:Int)>=nx) om).symm)),trivial⟩,n3⟩
  refine pu4<|nT ?_
  exact ⟨(),⟨kr,kr,kr,kr,kr,kr,kr,kr,kr,kr,kr,kr,kr,kr,kr,kr,kr,kr,(Eq.trans (b:= .bool (decide (((k:Int):Int)>=nx))) kr (congrArg Value.bool bm)),trivial⟩,n3⟩
 rintro _ ρ _ p3
 refine cD (a0.kind=5/\(k:Int)>=nx) (fun q3=>?_) (fun q3=>?_)
 rotate_left
 ·refine kT ?_
  have how:L.own b0 (k:Int)=(if (a0.kind=5/\(k:Int).tmod nx>0) then [(nzs:Int)+(k:Int)-1] else [])++(if (a0.kind=5/\(k:Int)>=nx) then [(nzs:Int)+(k:Int)-nx] else []):=by unfold Lay.own;rw [hst,hnx2,hfr];exact own_if om
  exact ⟨(ds1,da1,dn1,dk1,dc1),alA,p3,hOds1,(by rw [how,hd1];simp only [if_neg q3,insV_canon,List.map_cons,List.map_nil,List.append_assoc,List.append_nil,List.nil_append,List.singleton_append,List.cons_append,Int.add_sub_assoc])⟩
 have hdb:dn1<=40000+2:=by rw [<-hOds1.len,hd1];exact Nat.le_trans (canon_len _) (by rw [List.length_append];exact Nat.add_le_add hdl5 (by split<;>simp))
 have hll1:=hOds1.le
 refine rE<|pu1 ?_
 refine sL p3 1 6 (.slice da1 dn1 dk1) (isAgg22 _) ?_
 refine pu2 ?_
 refine sSub (k:Int) nx ?_
 refine sBS p3 #[I ((k:Int)-nx)] runUnderlying22 sizeOf3 zeroValue3 ?_
 intro _ _ q4
 refine pu1 ?_
 refine sL q4 6 0 (I (nzs:Int)) (isAgg3 _) ?_
 have r8:=(q4.pick 1 rfl)
 refine cX call58 (r20_insert hOds1 (ms:=([((k:Int)-nx)])) (RdT.flat (RdT.blk (enc:=Go.E.encI) (sz:=1) (xs:=[((k:Int)-nx)]) (fun _=>(by rfl)) 1 0 rfl rfl rfl om)) (nzs:Int) (hd1▸asc_canon _) (fun x hx=>by rw [List.mem_singleton.1 hx];omega) om om r8.flat1) ?_
 rintro _ _ ⟨r4,s4,t4,s8,rfl,r3,t8⟩
 have u8:=t8.unflat1;have hn_az_230:=r3.len;have hl_az_230:=r3.le
 refine pu1 ?_
 refine tW u8 2 6 (.slice r4 s4 t4) sizeOf22 ?_
 intro _ v8
 refine nT ?_
 have how:L.own b0 (k:Int)=(if (a0.kind=5/\(k:Int).tmod nx>0) then [(nzs:Int)+(k:Int)-1] else [])++(if (a0.kind=5/\(k:Int)>=nx) then [(nzs:Int)+(k:Int)-nx] else []):=by unfold Lay.own;rw [hst,hnx2,hfr];exact own_if om
 exact ⟨((insV (nzs:Int) ([((k:Int)-nx)]) ds1),r4,s4,t4,s8),alA,(v8.dropAt 1 rfl),r3,(by rw [how,hd1];simp only [if_pos q3,insV_canon,List.map_cons,List.map_nil,List.append_assoc,List.append_nil,List.nil_append,List.singleton_append,List.cons_append,Int.add_sub_assoc])⟩
theorem r20_cells (p:Job) (tw:Int) (th:Int) (hp:Job.Ok [H] p) (hb:p.inputs.n<=1000000/\p.stages.n<=1000000/\p.outputs.n<=1000000) (hS:Sat W w (H::F)):
  Calls prog 21 #[.agg (encJob p).toArray,I tw,I th] w fun e w'=>e= .returned (.tuple #[I (celV p.v tw th),I (lowC p.v tw th)])/\Sat W w' (H::F):=by
 have hl_p_inputs:=hp.inputs.le;have hn_p_inputs:=hp.inputs.len
 have hl_p_stages:=hp.stages.le;have hn_p_stages:=hp.stages.len
 have hl_p_outputs:=hp.outputs.le;have hn_p_outputs:=hp.outputs.len
 have hpi:p.v.inputs.length=p.inputs.n:=by simp [Job.v,hn_p_inputs]
 have hps:p.v.stages.length=p.stages.n:=by simp [Job.v,hn_p_stages]
 refine callsA 91 func21 rfl<|sR<|sBox hS (.agg (encJob p).toArray) (encJob p).toArray fun j0 _ u0=>pu2<|zS<|lA u0 0 0 4 (isAgg28 _) (sizeOf28 _)<|pu2<|cX call50 (r20_check p tw th ⟨(RdT.flat (hp.inputs.up 1 (by rfl))),(fun z hz=>(hp.inputsD z hz).of_mem (mem_flat1 1 (by rfl))),(RdT.flat (hp.stages.up 1 (by rfl))),(fun z hz=>(hp.stagesD z hz).of_mem (mem_flat1 1 (by rfl))),(RdT.flat (hp.outputs.up 1 (by rfl)))⟩ (od) u0.flat) ?_
 rintro _ _ ⟨f0,d0,g0,v0,rfl,r0,d1⟩
 have s0:=d1.unflat1
 have hn_az_7:=r0.len;have hl_az_7:=r0.le
 refine pu7<|zQ<|pu2<|nT<|cN (ckC p.v tw th) 0 (fun e1=>?_) (fun e1=>?_)
 rotate_left
 ·refine sR<|pu3<|zR<|retT [I 0,I (ckC p.v tw th)] ?_
  have f1:=(s0.drops [0,0])
  have hk:lowC p.v tw th=(ckC p.v tw th):=by rw [low_ck,if_neg om]
  exact ⟨by unfold celV;rw [if_neg (by rw [hk];omega),hk];rfl,f1⟩
 refine kT<|seqE<|sR<|pu2<|nT<|cD ((ckN p.v tw th)>4096) (fun g1=>?_) (fun g1=>?_)
 ·refine sR<|pu2<|zR<|retT [I 0,I 13] ?_
  have h1:=(s0.drops [0,0])
  have hk:lowC p.v tw th=13:=by rw [low_ck,if_pos om,if_neg (by have h:ckN p.v tw th=(layV p.v tw th).total:=(by unfold ckN;rw [if_pos om]);omega)]
  exact ⟨by unfold celV;rw [if_neg (by rw [hk];omega),hk];rfl,h1⟩
 refine kT<|seqE ?_
 have hk0:ckC p.v tw th=0:=by omega
 obtain ⟨hz0,htp⟩:=ck_zero hk0
 obtain ⟨L,hL⟩:∃z:Lay,z=layV p.v tw th:=⟨_,rfl⟩
 have hg:LayG L:=hL▸lay_ok (shp_ok hz0) htp
 have hLn:L.ni=(p.inputs.n:Int):=by rw [hL,<-hpi];rfl
 have hLs:L.ss=p.stages.l.map Stage.v:=by rw [hL];rfl
 have hLl:L.ss.length=p.stages.n:=by rw [hLs,List.length_map];exact hn_p_stages
 have hLh:L.sh=(shpV p.v).1:=by rw [hL];rfl
 have hLt:L.tw=tw/\L.th=th:=by rw [hL];exact ⟨rfl,rfl⟩
 have hgn:=hg.ni;rw [hLn,hLl] at hgn;have hgl:=hg.len;rw [hLn,hLl] at hgl;have htl:=hg.tl;rw [hLt.1,hLt.2] at htl;unfold tileP at htl;have htb:=hg.totb
 have hto:ckN p.v tw th=L.total:=by unfold ckN;rw [if_pos hk0,hL]
 have hlow:lowC p.v tw th=0:=by rw [low_ck,if_pos hk0,if_pos (by rw [<-hL];omega)]
 have hsh:ckS p.v tw th=L.sh:=by unfold ckS;rw [if_pos hk0,hL];rfl
 have k0:=r0;rw [hsh] at k0;have hsl:=k0.len
 refine rE<|pu1<|zQ<|pu1<|nT<|blockE<|loopA (γ:=Nat×Int) (fun ⟨i,c1⟩=>[(1,I tw),(2,I th),(3,Pt j0 0),(8, .slice f0 d0 g0),(12,I (i:Int)),(11,I c1)]) (fun ⟨i,c1⟩ w=>Sat W w (v0::[(j0, .cells (encJob p).toArray 28 (0,0))]::H::F)/\i<=d0/\(c1=((L.sh.take i).map fun m=>m.w*m.h).sum)) (fun ⟨i,c1⟩=>d0-i) (0,0) ⟨s0,om,(by simp)⟩ ?_
 rintro ⟨i,c1⟩ ρ _ ⟨l0,hi,hE⟩
 refine seqE<|sR<|pu4<|nT<|cD ((i:Int)<(d0:Int)) (fun i1=>?_) (fun i1=>?_)
 ·refine kT<|seqE<|blockE ?_
  obtain ⟨c0,m0,n0,t0,w0,x0⟩:=RdT.elem k0 (i:Int)
  rw [Int.toNat_natCast] at t0
  have hsz:=sh_bd hg t0;unfold szP at hsz;have hcs:=cellsum_le hg i om;have hmw:=mul_bd (a:=c0.w) (b:=c0.h) (A:=128) (B:=128) om om
  refine drawE [] [(5,⟨m0,n0+0,none⟩,I c0.w),(10,⟨m0,n0+1,none⟩,I c0.h)] [(true,[0,1,2]),(true,[3]),(true,[4,6,7]),(true,[8]),(true,[9]),(true,[5]),(true,[10]),(true,[11]),(true,[12]),(true,[13])] rfl kr ⟨.inr ((w0.up 0 rfl).cell l0 (k:=0) rfl), .inr ((w0.up 0 rfl).cell l0 (k:=1) rfl),trivial⟩ ?_
  have j1:=l0.drew
  exact wU [0,1,2]<|wY (.pointer (some ⟨m0,n0,none⟩)) rfl (fun w _=>Y_idx (a:=f0) (i:=(i:Int)) (len:=d0) (cap:=g0) rfl runUnderlying61 sizeOf54 kr kr x0)<|wU [4,6,7]<|wY (.pointer (some ⟨m0,n0,none⟩)) rfl (fun w _=>Y_idx (a:=f0) (i:=(i:Int)) (len:=d0) (cap:=g0) rfl runUnderlying61 sizeOf54 kr kr x0)<|wU [9]<|wLd (I c0.w) 0 isAgg3<|wLd (I c0.h) 1 isAgg3<|wMul c0.w c0.h<|wAdd c1 (c0.w*c0.h)<|wU [13]<|wN<|bN<|tN<|rE<|pu1<|sAdd (i:Int) 1<|pu1<|nT<|⟨(i+1,(c1+(c0.w*c0.h))),od,alA,j1,om,(by rw [List.take_add_one,t0,Option.toList_some,List.map_append,List.sum_append,<-hE];simp)⟩
 refine exitE<|xB<|tN<|seqE<|sR<|pu1<|nT<|blockE<|loopA (γ:=Nat×Int) (fun ⟨j,c2⟩=>[(1,I tw),(2,I th),(3,Pt j0 0),(8, .slice f0 d0 g0),(13,I (j:Int)),(11,I c2)]) (fun ⟨j,c2⟩ w=>Sat W w (v0::[(j0, .cells (encJob p).toArray 28 (0,0))]::H::F)/\j<=p.stages.n/\(c2=c1+((ixs L j).map (histC L)).sum)) (fun ⟨j,c2⟩=>p.stages.n-j) (0,c1) ⟨l0,om,(by simp [ixs])⟩ ?_
 rintro ⟨j,c2⟩ ρ _ ⟨h0,hj,hE2⟩
 have hcs9:=cellsum_le hg i om;have hcb0:=ixs_bd (L:=L) (f:=histC L) (B:=2097152) j (fun k hk=>by have h:=hist_bd hg (hg.ix (i:=k) om);omega)
 refine seqE<|sR<|pu2<|sL h0 1 1 (.slice p.stages.a p.stages.n p.stages.k) (isAgg26 _)<|pu2<|nT<|cD ((j:Int)<(p.stages.n:Int)) (fun k1=>?_) (fun k1=>?_)
 rotate_left
 ·refine exitE<|xB<|tN<|sR<|pu3<|zE<|retT [I c2,I 0] ?_
  have l1:=(h0.drops [0,0])
  have hz:c2=celV p.v tw th:=by unfold celV;rw [if_pos hlow,<-hL,<-hg.cells_ix,hE2,hE,List.take_of_length_le om,hLl,show j=p.stages.n by omega]
  exact ⟨by rw [hlow,<-hz];rfl,l1⟩
 refine kT<|seqE<|blockE<|sR<|pu1<|sL h0 1 1 (.slice p.stages.a p.stages.n p.stages.k) (isAgg26 _)<|pu1<|sIdx hp.stages (j:Int) runUnderlying26 sizeOf38 fun b0 _ _ y0 m1=>?_
 rw [Int.toNat_natCast] at y0
 have hnd:((p.inputs.n:Int)+(j:Int))∈L.od:=hLn▸hg.ix (i:=j) om
 have hst:L.st ((p.inputs.n:Int)+(j:Int))=b0.v:=by unfold Lay.st;rw [hLs,hLn];exact stg_at (by rw [show (((p.inputs.n:Int)+(j:Int))-(p.inputs.n:Int)).toNat=j by omega];exact map_at (f:=Stage.v) y0)
 have hsr:=hg.src hnd b0.a (by rw [hst];exact a_src _);rw [hLn,hLl] at hsr;have hbk:=hg.byt hnd;rw [hst] at hbk;unfold bytOK at hbk;simp only [Stage.v] at hbk;have hhb:=hist_bd hg hnd;have hgr:=hg.grid hnd;have hcb:=hg.cntb hnd
 refine sLpA h0 (m1.up 2 rfl) 0 (encStage b0) (isAgg38 _) (sizeOf38 _)<|sAlloc h0 zeroValue38 fun z0 _ n1=>?_
 refine sT n1 0 0 (.agg (encStage b0).toArray) (encStage b0) (encStage b0).toArray sizeOf38 fun _ e0=>zS<|pu1<|sL e0 0 0 (I b0.kind) (isAgg3 _)<|pu1<|nT<|cE b0.kind 4 (fun i0=>?_) (fun i0=>?_)
 rotate_left
 ·refine skipE<|bN<|tN<|rE<|pu1<|sAdd (j:Int) 1<|pu1<|nT ?_
  exact ⟨(j+1,c2),od,alA,(e0.dropAt 0 rfl),om,(by rw [ixs_sum,hLn,show histC L ((p.inputs.n:Int)+(j:Int))=0 from by unfold histC;rw [hst,if_neg (show ¬b0.v.kind=4 from i0)],hE2];omega)⟩
 refine seqE ?_
 obtain ⟨a0,o0,p0,q1,a1,b1⟩:=RdT.elem k0 b0.a
 refine drawE [14] [(2,⟨z0,1,none⟩,I b0.a),(5,⟨o0,p0+0,none⟩,I a0.w),(8,⟨z0,1,none⟩,I b0.a),(11,⟨o0,p0+1,none⟩,I a0.h)] [(true,[0,1,6,7,12,13]),(true,[2]),(true,[3]),(true,[4]),(true,[5]),(true,[8]),(true,[9]),(true,[10]),(true,[11]),(false,[14]),(true,[15]),(true,[16]),(true,[17]),(true,[18,19])] rfl kr ⟨cI e0 0, .inr ((a1.up 1 rfl).cell e0 (k:=0) rfl),cI e0 0, .inr ((a1.up 1 rfl).cell e0 (k:=1) rfl),trivial⟩ ?_
 have r1:=e0.drew
 refine wU [0,1,6,7,12,13]<|wLd (I b0.a) 0 isAgg3<|wY (.pointer (some ⟨o0,p0,none⟩)) rfl (fun w _=>Y_idx (a:=f0) (i:=b0.a) (len:=d0) (cap:=g0) rfl runUnderlying61 sizeOf54 kr kr b1)<|wU [4]<|wLd (I a0.w) 1 isAgg3<|wLd (I b0.a) 2 isAgg3<|wY (.pointer (some ⟨o0,p0,none⟩)) rfl (fun w _=>Y_idx (a:=f0) (i:=b0.a) (len:=d0) (cap:=g0) rfl runUnderlying61 sizeOf54 kr kr b1)<|wU [10]<|wLd (I a0.h) 3 isAgg3<|wO rfl<|cR call53 (r5_count a0.w a0.h tw th r1.flat) fun _ q0=>nilO ⟨⟨cI q0 0,dI,cI q0 0,dI,trivial⟩,?_⟩
 refine wU [15]<|wU [16]<|wU [17]<|wU [18,19]<|wN ?_
 have hcu:L.cut ((p.inputs.n:Int)+(j:Int))=a0:=by rw [cut_v hst];unfold cutV;rw [if_pos (show b0.v.kind=4 from i0)];exact shp_at' q1
 have hnx2:L.nx ((p.inputs.n:Int)+(j:Int))=colsN a0.w a0.h tw th:=by unfold Lay.nx;rw [hcu,hLt.1,hLt.2]
 have hny2:L.ny ((p.inputs.n:Int)+(j:Int))=rowsN a0.w a0.h tw th:=by unfold Lay.ny;rw [hcu,hLt.1,hLt.2]
 rw [hnx2,hny2] at hgr;have hmq:=mul_bd (a:=colsN a0.w a0.h tw th*rowsN a0.w a0.h tw th) (b:=b0.bins) (A:=16384) (B:=128) om om
 have hhc:histC L ((p.inputs.n:Int)+(j:Int))=colsN a0.w a0.h tw th*rowsN a0.w a0.h tw th*b0.bins:=by unfold histC Lay.cnt;rw [hst,if_pos (show b0.v.kind=4 from i0),if_pos (show b0.v.kind=4 from i0),hnx2,hny2,Int.add_sub_cancel,Int.mul_comm];rfl
 exact tN<|rE<|pu3<|sMul (colsN a0.w a0.h tw th) (rowsN a0.w a0.h tw th)<|pu1<|sL q0 0 15 (I b0.bins) (isAgg3 _)<|sMul ((colsN a0.w a0.h tw th)*(rowsN a0.w a0.h tw th)) b0.bins<|sAdd c2 (((colsN a0.w a0.h tw th)*(rowsN a0.w a0.h tw th))*b0.bins)<|pu1<|nB<|rE<|pu1<|sAdd (j:Int) 1<|pu1<|nT<|⟨(j+1,(c2+(((colsN a0.w a0.h tw th)*(rowsN a0.w a0.h tw th))*b0.bins))),od,alA,(q0.dropAt 0 rfl),om,(by rw [ixs_sum,hLn,hhc,hE2];omega)⟩
end Go.Proofs.YtdingplbadblpaaGreat

namespace Go.Proofs.YtdingplbadblpaaGreat
open Go Go.E Go.Proofs.Tryz
set_option linter.all false
set_option maxRecDepth 100000
set_option maxHeartbeats 2000000
variable {W w:World} {H:Chunk} {F:List Chunk}
def blurV:JobV:=⟨[⟨4,4,9,List.replicate 16 0⟩],[⟨6,0,-1,false,0,0,0,0,[],[],[],0,0,[],[],0,[⟨0,0⟩],9⟩,⟨1,1,-1,false,0,0,3,3,List.replicate 9 0,[],[],0,0,[],[],0,[],9⟩],[2],0⟩
theorem bl1:lowC blurV 2 2=0:=by decide+kernel
theorem bl2:(lowV blurV 2 2).length=8:=by decide+kernel
theorem bl4:(lowV blurV 2 2)[7]?.map (fun z=>(z.deps.length,z.rows,z.scratch))=some (4,2,128):=by decide+kernel
theorem bl3:celV blurV 2 2=48:=by decide+kernel
theorem bl5:scrV (stgAt blurV.stages 0 0) ⟨4,4,9⟩ 0 ⟨0,0,2,2⟩=16:=by decide+kernel
theorem l20_blur {F:List Chunk} (hS:Sat W w F):
  Calls prog 48 #[] w fun e w'=>∃(q:Job) (G:Chunk),e= .returned (.agg (encJob q).toArray)/\Job.Ok [G] q/\q.v=blurV/\(q.inputs.n=1/\q.stages.n=2/\q.outputs.n=1)/\Sat W w' (G::F):=by
 refine callsA 18 func48 rfl<|sR<|sAlloc hS zeroValue28 fun _ _ l0=>zS<|sMake (kl:= .i64) (kc:= .i64) (enc:=Go.E.encI) (sz:=1) (nb:=8) l0 0 16 16 (rfl:(16:Int)=((16:Nat):Int)) underlying22 (i:=Tryz.t3) kr fR fun b0 g0 _ m0 n0=>pu1<|sAlloc n0 zeroValue87 fun _ _ o0=>?_
 refine sT o0 0 0 (.agg #[I 4,I 4,I 9, .slice (At b0 0) 16 16]) [I 4,I 4,I 9, .slice (At b0 0) 16 16] #[I 4,I 4,I 9, .slice (At b0 0) 16 16] sizeOf87 fun _ p0=>zS<|pu1<|sBS p0 #[I 0,I 0] runUnderlying36 sizeOf92 zeroValue92 fun a0 _ q0=>pu1<|sAlloc q0 zeroValue38 fun _ _ r0=>?_
 refine sT r0 0 0 (.agg #[I 6,I 0,I (-1), .bool false,I 0,I 0,I 0,I 0,nS,nS,nS,I 0,I 0,nS,nS,I 0, .slice (At a0 0) 1 1,I 9]) [I 6,I 0,I (-1), .bool false,I 0,I 0,I 0,I 0,nS,nS,nS,I 0,I 0,nS,nS,I 0, .slice (At a0 0) 1 1,I 9] #[I 6,I 0,I (-1), .bool false,I 0,I 0,I 0,I 0,nS,nS,nS,I 0,I 0,nS,nS,I 0, .slice (At a0 0) 1 1,I 9] sizeOf38 fun _ s0=>zS<|sMake (kl:= .i64) (kc:= .i64) (enc:=Go.E.encI) (sz:=1) (nb:=8) s0 0 9 9 (rfl:(9:Int)=((9:Nat):Int)) underlying22 (i:=Tryz.t3) kr fR fun c0 h0 _ t0 u0=>pu1<|sAlloc u0 zeroValue38 fun _ _ v0=>?_
 refine sT v0 0 0 (.agg #[I 1,I 1,I (-1), .bool false,I 0,I 0,I 3,I 3, .slice (At c0 0) 9 9,nS,nS,I 0,I 0,nS,nS,I 0,nS,I 9]) [I 1,I 1,I (-1), .bool false,I 0,I 0,I 3,I 3, .slice (At c0 0) 9 9,nS,nS,I 0,I 0,nS,nS,I 0,nS,I 9] #[I 1,I 1,I (-1), .bool false,I 0,I 0,I 3,I 3, .slice (At c0 0) 9 9,nS,nS,I 0,I 0,nS,nS,I 0,nS,I 9] sizeOf38 fun _ j0=>zS<|lA j0 4 0 4 (isAgg87 _) (sizeOf87 _)<|sBS j0 #[I 4,I 4,I 9, .slice (At b0 0) 16 16] runUnderlying25 sizeOf87 zeroValue87 fun d0 _ i0=>lA i0 3 0 18 (isAgg38 _) (sizeOf38 _)<|lA i0 1 0 18 (isAgg38 _) (sizeOf38 _) ?_
 refine sBS i0 #[I 6,I 0,I (-1), .bool false,I 0,I 0,I 0,I 0,nS,nS,nS,I 0,I 0,nS,nS,I 0, .slice (At a0 0) 1 1,I 9,I 1,I 1,I (-1), .bool false,I 0,I 0,I 3,I 3, .slice (At c0 0) 9 9,nS,nS,I 0,I 0,nS,nS,I 0,nS,I 9] runUnderlying26 sizeOf38 zeroValue38 fun e0 _ w0=>sBS w0 #[I 2] runUnderlying22 sizeOf3 zeroValue3 fun f0 _ x0=>pu1<|sT x0 9 0 (.agg #[.slice (At d0 0) 1 1, .slice (At e0 0) 2 2, .slice (At f0 0) 1 1,I 0]) [.slice (At d0 0) 1 1, .slice (At e0 0) 2 2, .slice (At f0 0) 1 1,I 0] #[.slice (At d0 0) 1 1, .slice (At e0 0) 2 2, .slice (At f0 0) 1 1,I 0] sizeOf28 fun _ k0=>?_
 refine zE<|retN (vs:=[.agg #[.slice (At d0 0) 1 1, .slice (At e0 0) 2 2, .slice (At f0 0) 1 1,I 0]]) rfl (.cons (.cell _ _ _ _ kr (lvA k0 9 0 [.slice (At d0 0) 1 1, .slice (At e0 0) 2 2, .slice (At f0 0) 1 1,I 0] (isAgg28 _) (sizeOf28 _) rfl rfl rfl)) .nil) ?_
 have y0:=((k0.picks [6,8,2,3,4]).drops [5,6,6,6])
 have z0:Sat W _ (([(d0, .cells #[I 4,I 4,I 9, .slice (At b0 0) 16 16] 87 (0,0))]++[(e0, .cells #[I 6,I 0,I (-1), .bool false,I 0,I 0,I 0,I 0,nS,nS,nS,I 0,I 0,nS,nS,I 0, .slice (At a0 0) 1 1,I 9,I 1,I 1,I (-1), .bool false,I 0,I 0,I 3,I 3, .slice (At c0 0) 9 9,nS,nS,I 0,I 0,nS,nS,I 0,nS,I 9] 38 (0,0))]++[(f0, .cells #[I 2] 3 (0,0))]++g0++[(a0, .cells #[I 0,I 0] 92 (0,0))]++h0)::F):=Sat.perm (show Sat W _ ([(d0, .cells #[I 4,I 4,I 9, .slice (At b0 0) 16 16] 87 (0,0))]::[(e0, .cells #[I 6,I 0,I (-1), .bool false,I 0,I 0,I 0,I 0,nS,nS,nS,I 0,I 0,nS,nS,I 0, .slice (At a0 0) 1 1,I 9,I 1,I 1,I (-1), .bool false,I 0,I 0,I 3,I 3, .slice (At c0 0) 9 9,nS,nS,I 0,I 0,nS,nS,I 0,nS,I 9] 38 (0,0))]::[(f0, .cells #[I 2] 3 (0,0))]::g0::[(a0, .cells #[I 0,I 0] 92 (0,0))]::h0::F) from y0) (by simp)
 refine ⟨(⟨⟨(At d0 0),1,1,[(⟨4,4,9,⟨(At b0 0),16,16,(List.replicate 16 0)⟩⟩:Plane)]⟩,⟨(At e0 0),2,2,[(⟨6,0,-1,false,0,0,0,0,⟨none,0,0,[]⟩,⟨none,0,0,[]⟩,⟨none,0,0,[]⟩,0,0,⟨none,0,0,[]⟩,⟨none,0,0,[]⟩,0,⟨(At a0 0),1,1,[(⟨0,0⟩:POp)]⟩,9⟩:Stage),(⟨1,1,-1,false,0,0,3,3,⟨(At c0 0),9,9,(List.replicate 9 0)⟩,⟨none,0,0,[]⟩,⟨none,0,0,[]⟩,0,0,⟨none,0,0,[]⟩,⟨none,0,0,[]⟩,0,⟨none,0,0,[]⟩,9⟩:Stage)]⟩,⟨(At f0 0),1,1,[2]⟩,0⟩:Job),([(d0, .cells #[I 4,I 4,I 9, .slice (At b0 0) 16 16] 87 (0,0))]++[(e0, .cells #[I 6,I 0,I (-1), .bool false,I 0,I 0,I 0,I 0,nS,nS,nS,I 0,I 0,nS,nS,I 0, .slice (At a0 0) 1 1,I 9,I 1,I 1,I (-1), .bool false,I 0,I 0,I 3,I 3, .slice (At c0 0) 9 9,nS,nS,I 0,I 0,nS,nS,I 0,nS,I 9] 38 (0,0))]++[(f0, .cells #[I 2] 3 (0,0))]++g0++[(a0, .cells #[I 0,I 0] 92 (0,0))]++h0),rfl,⟨((RdT.blk (cs:=[[(d0, .cells #[I 4,I 4,I 9, .slice (At b0 0) 16 16] 87 (0,0))]]) (enc:=encPlane) (sz:=4) (xs:=[(⟨4,4,9,⟨(At b0 0),16,16,(List.replicate 16 0)⟩⟩:Plane)]) fR 1 0 rfl rfl rfl om)).of_mem mS,?_,((RdT.blk (cs:=[[(e0, .cells #[I 6,I 0,I (-1), .bool false,I 0,I 0,I 0,I 0,nS,nS,nS,I 0,I 0,nS,nS,I 0, .slice (At a0 0) 1 1,I 9,I 1,I 1,I (-1), .bool false,I 0,I 0,I 3,I 3, .slice (At c0 0) 9 9,nS,nS,I 0,I 0,nS,nS,I 0,nS,I 9] 38 (0,0))]]) (enc:=encStage) (sz:=18) (xs:=[(⟨6,0,-1,false,0,0,0,0,⟨none,0,0,[]⟩,⟨none,0,0,[]⟩,⟨none,0,0,[]⟩,0,0,⟨none,0,0,[]⟩,⟨none,0,0,[]⟩,0,⟨(At a0 0),1,1,[(⟨0,0⟩:POp)]⟩,9⟩:Stage),(⟨1,1,-1,false,0,0,3,3,⟨(At c0 0),9,9,(List.replicate 9 0)⟩,⟨none,0,0,[]⟩,⟨none,0,0,[]⟩,0,0,⟨none,0,0,[]⟩,⟨none,0,0,[]⟩,0,⟨none,0,0,[]⟩,9⟩:Stage)]) fR 2 0 rfl rfl rfl om)).of_mem mS,?_,((RdT.blk (cs:=[[(f0, .cells #[I 2] 3 (0,0))]]) (enc:=Go.E.encI) (sz:=1) (xs:=[2]) fR 1 0 rfl rfl rfl om)).of_mem mS⟩,by rfl,⟨rfl,rfl,rfl⟩,z0⟩
 ·intro z hz;rw [List.mem_singleton.1 hz];exact ⟨((m0.rdAt (cs:=[g0]) 0 rfl)).of_mem mS⟩
 ·intro z hz;rcases List.mem_cons.1 hz with rfl|hz
  ·exact ⟨RdT.nil (enc:=Go.E.encI) (sz:=1) fR _,RdT.nil (enc:=Go.E.encI) (sz:=1) fR _,RdT.nil (enc:=Go.E.encI) (sz:=1) fR _,RdT.nil (enc:=encTap) (sz:=2) fR _,(fun z hz=>by cases hz),RdT.nil (enc:=encTap) (sz:=2) fR _,(fun z hz=>by cases hz),((RdT.blk (cs:=[[(a0, .cells #[I 0,I 0] 92 (0,0))]]) (enc:=encPOp) (sz:=2) (xs:=[(⟨0,0⟩:POp)]) fR 1 0 rfl rfl rfl om)).of_mem mS⟩
  ·rw [List.mem_singleton.1 hz];exact ⟨((t0.rdAt (cs:=[h0]) 0 rfl)).of_mem mS,RdT.nil (enc:=Go.E.encI) (sz:=1) fR _,RdT.nil (enc:=Go.E.encI) (sz:=1) fR _,RdT.nil (enc:=encTap) (sz:=2) fR _,(fun z hz=>by cases hz),RdT.nil (enc:=encTap) (sz:=2) fR _,(fun z hz=>by cases hz),RdT.nil (enc:=encPOp) (sz:=2) fR _⟩
theorem l20_sane (hS:Sat W w (H::F)):
  Ro prog 17 #[] (.bool true) W w (H::F):=by
 refine callsA 62 func17 rfl<|sR<|pu1<|zS<|cX call48 (l20_blur hS) ?_
 rintro _ _ ⟨q0,_,rfl,e0,f0,⟨_,_,_⟩,u0⟩
 refine cX call16 (p20_low (F:=[]) q0 2 2 ⟨(RdT.flat (e0.inputs.up 0 (by rfl))),(fun z hz=>(e0.inputsD z hz).of_mem (mem_flat1 0 (by rfl))),(RdT.flat (e0.stages.up 0 (by rfl))),(fun z hz=>(e0.stagesD z hz).of_mem (mem_flat1 0 (by rfl))),(RdT.flat (e0.outputs.up 0 (by rfl)))⟩ om u0.flat) ?_
 rintro _ _ ⟨_,r0,_,l0,_,_,rfl,g0,m0,i0,v0⟩
 have w0:=v0.unflat2;have hn_az_13:=g0.len;have hl_az_13:=g0.le
 have b2:r0=8:=by have h:=congrArg List.length i0;rw [f0,bl2,List.length_map] at h;omega
 refine pu5<|zS<|cX call48 (l20_blur w0) ?_
 rintro _ _ ⟨n0,_,rfl,h0,s0,⟨_,_,_⟩,x0⟩
 refine cX call20 (p20_cells (F:=[]) n0 2 2 ⟨(RdT.flat (h0.inputs.up 0 (by rfl))),(fun z hz=>(h0.inputsD z hz).of_mem (mem_flat1 0 (by rfl))),(RdT.flat (h0.stages.up 0 (by rfl))),(fun z hz=>(h0.stagesD z hz).of_mem (mem_flat1 0 (by rfl))),(RdT.flat (h0.outputs.up 0 (by rfl)))⟩ om x0.flat) ?_
 rintro _ _ ⟨rfl,y0⟩
 have j0:=y0.unflat
 refine pu5<|zS<|pu3 ?_
 have z0:((lowC q0.v 2 2):Int)=0:=by rw [f0];exact bl1
 refine sFix 17 _ true (beq_iff_eq.2 z0)<|pu5 ?_
 have a1:((r0:Int):Int)=8:=by omega
 refine sFix 22 _ true (beq_iff_eq.2 a1)<|pu1<|gY<|sIdxO g0 7 7 runUnderlying39 sizeOf46 fun a0 _ _ k0 b1 _=>?_
 have hx4:=bl4;rw [<-f0,<-i0,List.getElem?_map,show l0[7]?=some a0 from k0] at hx4;simp only [Option.map_some,Option.some.injEq,Prod.mk.injEq] at hx4;obtain ⟨hy1,hy2,hy3⟩:=hx4;simp only [Task.v] at hy1 hy2 hy3;have hdl:=(m0 a0 (List.mem_of_getElem? k0)).deps.len
 refine pu1<|gY<|sLp j0 (b1.up 1 rfl) 6 (.slice a0.deps.a a0.deps.n a0.deps.k) (isAgg22 _)<|pu4 ?_
 have c1:((a0.deps.n:Int):Int)=4:=by omega
 refine sFix 30 _ true (beq_iff_eq.2 c1)<|pu1<|gY<|sIdxO g0 7 7 runUnderlying39 sizeOf46 fun d1 _ _ o0 e1 _=>?_
 obtain rfl:a0=d1:=Option.some.inj (k0.symm.trans o0)
 have hx4:=bl4;rw [<-f0,<-i0,List.getElem?_map,show l0[7]?=some a0 from o0] at hx4;simp only [Option.map_some,Option.some.injEq,Prod.mk.injEq] at hx4;obtain ⟨hy1,hy2,hy3⟩:=hx4;simp only [Task.v] at hy1 hy2 hy3;have hdl:=(m0 a0 (List.mem_of_getElem? o0)).deps.len
 refine pu1<|gY<|sLp j0 (e1.up 1 rfl) 7 (I a0.rows) (isAgg3 _)<|pu3 ?_
 have f1:(a0.rows:Int)=2:=by omega
 refine sFix 37 _ true (beq_iff_eq.2 f1)<|pu1<|gY<|sIdxO g0 7 7 runUnderlying39 sizeOf46 fun g1 _ _ p0 h1 _=>?_
 obtain rfl:a0=g1:=Option.some.inj (k0.symm.trans p0)
 have hx4:=bl4;rw [<-f0,<-i0,List.getElem?_map,show l0[7]?=some a0 from p0] at hx4;simp only [Option.map_some,Option.some.injEq,Prod.mk.injEq] at hx4;obtain ⟨hy1,hy2,hy3⟩:=hx4;simp only [Task.v] at hy1 hy2 hy3;have hdl:=(m0 a0 (List.mem_of_getElem? p0)).deps.len
 refine pu1<|gY<|sLp j0 (h1.up 1 rfl) 8 (I a0.scratch) (isAgg3 _)<|pu3 ?_
 have i1:(a0.scratch:Int)=128:=by omega
 refine sFix 44 _ true (beq_iff_eq.2 i1)<|pu4 ?_
 have j1:((lowC n0.v 2 2):Int)=0:=by rw [s0];exact bl1
 refine sFix 48 _ true (beq_iff_eq.2 j1)<|pu4 ?_
 have k1:((celV n0.v 2 2):Int)=48:=by rw [s0];exact bl3
 refine sFix 52 _ true (beq_iff_eq.2 k1)<|gY<|cX call48 (l20_blur j0) ?_
 rintro _ _ ⟨l1,_,rfl,c0,m1,⟨_,_,_⟩,t0⟩
 refine pu1<|gY<|sIdx c0.stages 0 runUnderlying26 sizeOf38 fun b0 _ _ d0 n1=>?_
 have hx5:b0.v=stgAt blurV.stages 0 0:=by rw [<-m1];unfold stgAt Job.v;simp [List.getElem?_map,show l1.stages.l[0]?=some b0 from d0]
 refine gY<|sLpA t0 (n1.up 0 rfl) 0 (encStage b0) (isAgg38 _) (sizeOf38 _)<|pu2<|gY ?_
 refine cR call26 (p20_scratch b0 (⟨4,4,9⟩:Shape) 0 (⟨0,0,2,2⟩:Rct) ⟨(RdT.flat ((c0.stagesD b0 (List.mem_of_getElem? d0)).weights.up 0 (by rfl))),(RdT.flat ((c0.stagesD b0 (List.mem_of_getElem? d0)).row.up 0 (by rfl))),(RdT.flat ((c0.stagesD b0 (List.mem_of_getElem? d0)).col.up 0 (by rfl))),(RdT.flat ((c0.stagesD b0 (List.mem_of_getElem? d0)).x.up 0 (by rfl))),(fun z hz=>((c0.stagesD b0 (List.mem_of_getElem? d0)).xD z hz).of_mem (mem_flat1 0 (by rfl))),(RdT.flat ((c0.stagesD b0 (List.mem_of_getElem? d0)).y.up 0 (by rfl))),(fun z hz=>((c0.stagesD b0 (List.mem_of_getElem? d0)).yD z hz).of_mem (mem_flat1 0 (by rfl))),(RdT.flat ((c0.stagesD b0 (List.mem_of_getElem? d0)).ops.up 0 (by rfl)))⟩ t0.flat) ?_
 intro _ o1
 exact pu3<|zE<|retT [.bool (((scrV b0.v (⟨4,4,9⟩:Shape) 0 (⟨0,0,2,2⟩:Rct)):Int)==16)]<|⟨by rw [hx5,bl5];rfl,(o1.drops [0,0,0,0,0])⟩
theorem same_at {x y:List Task} {i:Nat} {a b:Task} (h:x.map Task.v=y.map Task.v) (ha:x[i]?=some a) (hb:y[i]?=some b):a.stage=b.stage/\a.part=b.part/\a.rectX0=b.rectX0/\a.rectY0=b.rectY0/\a.rectX1=b.rectX1/\a.rectY1=b.rectY1/\a.deps.l=b.deps.l/\a.rows=b.rows/\a.scratch=b.scratch:=by
  have h1:=map_at (f:=Task.v) ha
  rw [h,map_at (f:=Task.v) hb] at h1
  have h2:=Option.some.inj h1
  simp only [Task.v,TaskV.mk.injEq] at h2
  obtain ⟨h1,h2,h3,h4,h5,h6,h7,h8,h9⟩:=h2
  exact ⟨h1.symm,h2.symm,h3.symm,h4.symm,h5.symm,h6.symm,h7.symm,h8.symm,h9.symm⟩
theorem r20_same (ax:Option Addr) (nx kx:Nat) (x:List Task) (ay:Option Addr) (ny ky:Nat) (y:List Task) (hx:RdT encTask 9 [H] ax nx kx x) (dx:∀z∈x,Task.Ok [H] z) (hy:RdT encTask 9 [H] ay ny ky y) (dy:∀z∈y,Task.Ok [H] z) (he:x.map Task.v=y.map Task.v) (hS:Sat W w (H::F)):
  Ro prog 22 #[.slice ax nx kx, .slice ay ny ky] (.bool true) W w (H::F):=by
 have hl_x:=hx.le;have hn_x:=hx.len
 have hl_y:=hy.le;have hn_y:=hy.len
 have hln:=congrArg List.length he;rw [List.length_map,List.length_map] at hln
 refine callsA 123 func22 rfl<|sR<|pu1<|zQ<|pu5<|nT ?_
 have d1:((nx:Int):Int)=(ny:Int):=by omega
 refine cF _ (bne_eq_false_iff_eq.2 d1)<|kT<|seqE<|sR<|pu1<|nT<|blockE<|loopA (γ:=Nat) (fun i=>[(0, .slice ax nx kx),(1, .slice ay ny ky),(5,I (i:Int))]) (fun i w=>Sat W w (H::F)/\i<=nx) (fun i=>nx-i) 0 ⟨hS,om⟩ ?_
 rintro i ρ _ ⟨c0,hi⟩
 refine seqE<|sR<|pu4<|nT<|cD ((i:Int)<(nx:Int)) (fun e1=>?_) (fun e1=>?_)
 rotate_left
 ·exact exitE<|xB<|tN<|sR<|pu1<|zE<|retT [.bool true]<|⟨rfl,c0⟩
 refine kT<|seqE<|blockE<|seqE<|seqE ?_
 obtain ⟨a0,d0,e0,k0,h0,l0⟩:=RdT.elem hx (i:Int)
 rw [Int.toNat_natCast] at k0
 have hq_x_5:=(dx a0 (List.mem_of_getElem? k0)).deps.len;have hqe_x_5:=(dx a0 (List.mem_of_getElem? k0)).deps.le
 obtain ⟨b0,f0,g0,p0,i0,m0⟩:=RdT.elem hy (i:Int)
 rw [Int.toNat_natCast] at p0
 have hq_x_11:=(dy b0 (List.mem_of_getElem? p0)).deps.len;have hqe_x_11:=(dy b0 (List.mem_of_getElem? p0)).deps.le
 have hv:=same_at he k0 p0;obtain ⟨v1,v2,v3,v4,v5,v6,v7,v8,v9⟩:=hv
 have v7n:=congrArg List.length v7
 have f1:(a0.stage:Int)=b0.stage:=by omega
 have g1:(a0.part:Int)=b0.part:=by omega
 have h1:(a0.rectX0:Int)=b0.rectX0/\(a0.rectY0:Int)=b0.rectY0/\(a0.rectX1:Int)=b0.rectX1/\(a0.rectY1:Int)=b0.rectY1:=⟨om,om,om,om⟩
 have i1:(a0.rows:Int)=b0.rows:=by omega
 have j1:(a0.scratch:Int)=b0.scratch:=by omega
 refine drawE [] [(4,⟨d0,e0+0,none⟩,I a0.stage),(9,⟨f0,g0+0,none⟩,I b0.stage),(16,⟨d0,e0+1,none⟩,I a0.part),(21,⟨f0,g0+1,none⟩,I b0.part),(29,⟨d0,e0+2+0,none⟩,I a0.rectX0),(29,⟨d0,e0+2+1,none⟩,I a0.rectY0),(29,⟨d0,e0+2+2,none⟩,I a0.rectX1),(29,⟨d0,e0+2+3,none⟩,I a0.rectY1),(34,⟨f0,g0+2+0,none⟩,I b0.rectX0),(34,⟨f0,g0+2+1,none⟩,I b0.rectY0),(34,⟨f0,g0+2+2,none⟩,I b0.rectX1),(34,⟨f0,g0+2+3,none⟩,I b0.rectY1),(42,⟨d0,e0+7,none⟩,I a0.rows),(47,⟨f0,g0+7,none⟩,I b0.rows),(55,⟨d0,e0+8,none⟩,I a0.scratch),(60,⟨f0,g0+8,none⟩,I b0.scratch),(68,⟨d0,e0+6,none⟩, .slice a0.deps.a a0.deps.n a0.deps.k),(74,⟨f0,g0+6,none⟩, .slice b0.deps.a b0.deps.n b0.deps.k)] [(true,[0,1]),(true,[2]),(true,[3,5,6]),(true,[7]),(true,[8]),(true,[4]),(true,[9]),(true,[10,11]),(true,[12,13]),(true,[14]),(true,[15,17,18]),(true,[19]),(true,[20]),(true,[16]),(true,[21]),(true,[22,23,24]),(true,[25,26]),(true,[27]),(true,[28,30,31]),(true,[32]),(true,[33]),(true,[29]),(true,[34]),(true,[35]),(true,[36,37]),(true,[38,39]),(true,[40]),(true,[41,43,44]),(true,[45]),(true,[46]),(true,[42]),(true,[47]),(true,[48,49,50]),(true,[51,52]),(true,[53]),(true,[54,56,57]),(true,[58]),(true,[59]),(true,[55]),(true,[60]),(true,[61,62,63]),(true,[64,65]),(true,[66]),(true,[67,70,71]),(true,[72]),(true,[73]),(true,[68]),(true,[69]),(true,[74]),(true,[75,76,77])] rfl kr ⟨.inr ((h0.up 0 rfl).cell c0 (k:=0) rfl), .inr ((i0.up 0 rfl).cell c0 (k:=0) rfl), .inr ((h0.up 0 rfl).cell c0 (k:=1) rfl), .inr ((i0.up 0 rfl).cell c0 (k:=1) rfl), .inr ((h0.up 0 rfl).cell c0 (k:=2) rfl), .inr ((h0.up 0 rfl).cell c0 (k:=3) rfl), .inr ((h0.up 0 rfl).cell c0 (k:=4) rfl), .inr ((h0.up 0 rfl).cell c0 (k:=5) rfl), .inr ((i0.up 0 rfl).cell c0 (k:=2) rfl), .inr ((i0.up 0 rfl).cell c0 (k:=3) rfl), .inr ((i0.up 0 rfl).cell c0 (k:=4) rfl), .inr ((i0.up 0 rfl).cell c0 (k:=5) rfl), .inr ((h0.up 0 rfl).cell c0 (k:=7) rfl), .inr ((i0.up 0 rfl).cell c0 (k:=7) rfl), .inr ((h0.up 0 rfl).cell c0 (k:=8) rfl), .inr ((i0.up 0 rfl).cell c0 (k:=8) rfl), .inr ((h0.up 0 rfl).cell c0 (k:=6) rfl), .inr ((i0.up 0 rfl).cell c0 (k:=6) rfl),trivial⟩ ?_
 have k1:=c0.drew
 refine wU [0,1]<|wY (.pointer (some ⟨d0,e0,none⟩)) rfl (fun w _=>Y_idx (a:=ax) (i:=(i:Int)) (len:=nx) (cap:=kx) rfl runUnderlying39 sizeOf46 kr kr l0)<|wU [3,5,6]<|wY (.pointer (some ⟨f0,g0,none⟩)) rfl (fun w _=>Y_idx (a:=ay) (i:=(i:Int)) (len:=ny) (cap:=ky) rfl runUnderlying39 sizeOf46 kr kr m0)<|wU [8]<|wLd (I a0.stage) 0 isAgg3<|wLd (I b0.stage) 1 isAgg3<|wU [10,11]<|wFix 29 _ false (bne_eq_false_iff_eq.2 f1)<|wU [12,13]<|wY (.pointer (some ⟨d0,e0,none⟩)) rfl (fun w _=>Y_idx (a:=ax) (i:=(i:Int)) (len:=nx) (cap:=kx) rfl runUnderlying39 sizeOf46 kr kr l0)<|wU [15,17,18] ?_
 refine wY (.pointer (some ⟨f0,g0,none⟩)) rfl (fun w _=>Y_idx (a:=ay) (i:=(i:Int)) (len:=ny) (cap:=ky) rfl runUnderlying39 sizeOf46 kr kr m0)<|wU [20]<|wLd (I a0.part) 2 isAgg3<|wLd (I b0.part) 3 isAgg3<|wU [22,23,24]<|wFix 42 _ false (bne_eq_false_iff_eq.2 g1)<|wU [25,26]<|wY (.pointer (some ⟨d0,e0,none⟩)) rfl (fun w _=>Y_idx (a:=ax) (i:=(i:Int)) (len:=nx) (cap:=kx) rfl runUnderlying39 sizeOf46 kr kr l0)<|wU [28,30,31]<|wY (.pointer (some ⟨f0,g0,none⟩)) rfl (fun w _=>Y_idx (a:=ay) (i:=(i:Int)) (len:=ny) (cap:=ky) rfl runUnderlying39 sizeOf46 kr kr m0)<|wU [33] ?_
 refine wY (.agg #[I a0.rectX0,I a0.rectY0,I a0.rectX1,I a0.rectY1]) rfl (fun w hF=>Y_loadF rfl (isAgg44 w) (sizeOf44 w) kr rfl ⟨hF 4 _ _ rfl,hF 5 _ _ rfl,hF 6 _ _ rfl,hF 7 _ _ rfl,trivial⟩)<|wY (.agg #[I b0.rectX0,I b0.rectY0,I b0.rectX1,I b0.rectY1]) rfl (fun w hF=>Y_loadF rfl (isAgg44 w) (sizeOf44 w) kr rfl ⟨hF 8 _ _ rfl,hF 9 _ _ rfl,hF 10 _ _ rfl,hF 11 _ _ rfl,trivial⟩)<|wY (.bool (!(((a0.rectX0:Int)==b0.rectX0)&&((a0.rectY0:Int)==b0.rectY0)&&((a0.rectX1:Int)==b0.rectX1)&&((a0.rectY1:Int)==b0.rectY1)))) rfl (fun w _=>Y_eqS rfl kr kr (eqvn44 _ a0.rectX0 a0.rectY0 a0.rectX1 a0.rectY1 b0.rectX0 b0.rectY0 b0.rectX1 b0.rectY1)) ?_
 refine wU [36,37]<|wFix 55 _ false (congrArg Bool.not (show (((a0.rectX0:Int)==b0.rectX0)&&((a0.rectY0:Int)==b0.rectY0)&&((a0.rectX1:Int)==b0.rectX1)&&((a0.rectY1:Int)==b0.rectY1))=true from by simpa [and_assoc] using h1)) ?_
 refine wU [38,39]<|wY (.pointer (some ⟨d0,e0,none⟩)) rfl (fun w _=>Y_idx (a:=ax) (i:=(i:Int)) (len:=nx) (cap:=kx) rfl runUnderlying39 sizeOf46 kr kr l0)<|wU [41,43,44]<|wY (.pointer (some ⟨f0,g0,none⟩)) rfl (fun w _=>Y_idx (a:=ay) (i:=(i:Int)) (len:=ny) (cap:=ky) rfl runUnderlying39 sizeOf46 kr kr m0)<|wU [46]<|wLd (I a0.rows) 12 isAgg3<|wLd (I b0.rows) 13 isAgg3<|wU [48,49,50]<|wFix 68 _ false (bne_eq_false_iff_eq.2 i1)<|wU [51,52]<|wY (.pointer (some ⟨d0,e0,none⟩)) rfl (fun w _=>Y_idx (a:=ax) (i:=(i:Int)) (len:=nx) (cap:=kx) rfl runUnderlying39 sizeOf46 kr kr l0)<|wU [54,56,57] ?_
 refine wY (.pointer (some ⟨f0,g0,none⟩)) rfl (fun w _=>Y_idx (a:=ay) (i:=(i:Int)) (len:=ny) (cap:=ky) rfl runUnderlying39 sizeOf46 kr kr m0)<|wU [59]<|wLd (I a0.scratch) 14 isAgg3<|wLd (I b0.scratch) 15 isAgg3<|wU [61,62,63]<|wFix 81 _ false (bne_eq_false_iff_eq.2 j1)<|wU [64,65]<|wY (.pointer (some ⟨d0,e0,none⟩)) rfl (fun w _=>Y_idx (a:=ax) (i:=(i:Int)) (len:=nx) (cap:=kx) rfl runUnderlying39 sizeOf46 kr kr l0)<|wU [67,70,71]<|wY (.pointer (some ⟨f0,g0,none⟩)) rfl (fun w _=>Y_idx (a:=ay) (i:=(i:Int)) (len:=ny) (cap:=ky) rfl runUnderlying39 sizeOf46 kr kr m0)<|wU [73] ?_
 refine wLd (.slice a0.deps.a a0.deps.n a0.deps.k) 16 isAgg22<|wU [69]<|wLd (.slice b0.deps.a b0.deps.n b0.deps.k) 17 isAgg22<|wU [75,76,77]<|wN<|tN ?_
 have l1:((a0.deps.n:Int):Int)=(b0.deps.n:Int):=by omega
 refine cF _ (bne_eq_false_iff_eq.2 l1)<|kS<|pu1<|nT<|blockE<|loopA (γ:=Nat) (fun k=>[(0, .slice ax nx kx),(1, .slice ay ny ky),(5,I (i:Int)),(6,I (k:Int))]) (fun k w=>Sat W w (H::F)/\k<=a0.deps.n) (fun k=>a0.deps.n-k) 0 ⟨k1,om⟩ ?_
 rintro k ρ _ ⟨j0,hk⟩
 refine seqE<|sR<|pu3<|sIdx hx (i:Int) runUnderlying39 sizeOf46 fun m1 _ _ q0 n1=>?_
 rw [Int.toNat_natCast] at q0
 obtain rfl:a0=m1:=Option.some.inj (k0.symm.trans q0)
 have hq_x_5:=(dx a0 (List.mem_of_getElem? q0)).deps.len;have hqe_x_5:=(dx a0 (List.mem_of_getElem? q0)).deps.le
 refine pu1<|sLp j0 (n1.up 0 rfl) 6 (.slice a0.deps.a a0.deps.n a0.deps.k) (isAgg22 _)<|pu2<|nT<|cD ((k:Int)<(a0.deps.n:Int)) (fun o1=>?_) (fun o1=>?_)
 rotate_left
 ·exact exitE<|xB<|bN<|tN<|rE<|pu1<|sAdd (i:Int) 1<|pu1<|nT<|⟨i+1,od,alA,j0,om⟩
 refine kT<|seqE<|blockE<|seqE ?_
 obtain ⟨q1,t0,u0,n0,r1,s1⟩:=RdT.elem hx (i:Int)
 rw [Int.toNat_natCast] at n0
 obtain rfl:a0=q1:=Option.some.inj (k0.symm.trans n0)
 have hq_x_5:=(dx a0 (List.mem_of_getElem? n0)).deps.len;have hqe_x_5:=(dx a0 (List.mem_of_getElem? n0)).deps.le
 obtain ⟨t1,v0,w0,o0,u1,w1⟩:=RdT.elem hy (i:Int)
 rw [Int.toNat_natCast] at o0
 obtain rfl:b0=t1:=Option.some.inj (p0.symm.trans o0)
 have hq_x_11:=(dy b0 (List.mem_of_getElem? o0)).deps.len;have hqe_x_11:=(dy b0 (List.mem_of_getElem? o0)).deps.le
 have hv:=same_at he n0 o0;obtain ⟨v1,v2,v3,v4,v5,v6,v7,v8,v9⟩:=hv
 have v7n:=congrArg List.length v7
 obtain ⟨r0,x0,y0,z0,x1,y1⟩:=RdT.elem (dx a0 (List.mem_of_getElem? n0)).deps (k:Int)
 rw [Int.toNat_natCast] at z0
 obtain ⟨s0,a1,b1,c1,z1,a2⟩:=RdT.elem (dy b0 (List.mem_of_getElem? o0)).deps (k:Int)
 rw [Int.toNat_natCast] at c1
 have hdd:r0=s0:=by have h:=z0;rw [v7,c1] at h;exact (Option.some.inj h).symm
 refine drawE [] [(4,⟨t0,u0+6,none⟩, .slice a0.deps.a a0.deps.n a0.deps.k),(7,⟨x0,y0,none⟩,I r0),(12,⟨v0,w0+6,none⟩, .slice b0.deps.a b0.deps.n b0.deps.k),(15,⟨a1,b1,none⟩,I s0)] [(true,[0,1]),(true,[2]),(true,[3,5,8,9]),(true,[10]),(true,[11,13]),(true,[4]),(true,[6]),(true,[7]),(true,[12]),(true,[14]),(true,[15]),(true,[16])] rfl kr ⟨.inr ((r1.up 0 rfl).cell j0 (k:=6) rfl), .inr ((x1.up 0 rfl).cell j0 (k:=0) rfl), .inr ((u1.up 0 rfl).cell j0 (k:=6) rfl), .inr ((z1.up 0 rfl).cell j0 (k:=0) rfl),trivial⟩ ?_
 have b2:=j0.drew
 refine wU [0,1]<|wY (.pointer (some ⟨t0,u0,none⟩)) rfl (fun w _=>Y_idx (a:=ax) (i:=(i:Int)) (len:=nx) (cap:=kx) rfl runUnderlying39 sizeOf46 kr kr s1)<|wU [3,5,8,9]<|wY (.pointer (some ⟨v0,w0,none⟩)) rfl (fun w _=>Y_idx (a:=ay) (i:=(i:Int)) (len:=ny) (cap:=ky) rfl runUnderlying39 sizeOf46 kr kr w1)<|wU [11,13]<|wLd (.slice a0.deps.a a0.deps.n a0.deps.k) 0 isAgg22<|wY (.pointer (some ⟨x0,y0,none⟩)) rfl (fun w _=>Y_idx (a:=a0.deps.a) (i:=(k:Int)) (len:=a0.deps.n) (cap:=a0.deps.k) rfl runUnderlying22 sizeOf3 kr kr y1)<|wLd (I r0) 1 isAgg3<|wLd (.slice b0.deps.a b0.deps.n b0.deps.k) 2 isAgg22 ?_
 refine wY (.pointer (some ⟨a1,b1,none⟩)) rfl (fun w _=>Y_idx (a:=b0.deps.a) (i:=(k:Int)) (len:=b0.deps.n) (cap:=b0.deps.k) rfl runUnderlying22 sizeOf3 kr kr a2)<|wLd (I s0) 3 isAgg3<|wU [16]<|wN<|tN ?_
 have c2:(r0:Int)=s0:=by omega
 exact cF _ (bne_eq_false_iff_eq.2 c2)<|skipE<|bN<|tN<|rE<|pu1<|sAdd (k:Int) 1<|pu1<|nT<|⟨k+1,od,alA,b2,om⟩
end Go.Proofs.YtdingplbadblpaaGreat
