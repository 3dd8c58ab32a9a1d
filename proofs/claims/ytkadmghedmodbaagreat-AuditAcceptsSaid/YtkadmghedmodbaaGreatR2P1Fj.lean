import Derived.Laws.IdiomRangeMap
import Derived.Test.YtkadmghedmodbaaGreatR2P1Pd
import Derived.Test.YtkadmghedmodbaaGreatR2P1Fi
set_option linter.all false
namespace Go.Proofs.YtkadmghedmodbaaGreat
open Go Go.E Go.Proofs.Tryz
set_option linter.all false
set_option maxRecDepth 100000
set_option maxHeartbeats 2000000
variable {W w:World} {H:Chunk} {F:List Chunk}
def taskAt (F:FS) (v:Wkr):TaskV:=(jobAt F v.heldJob).tasks.getD v.heldTask.toNat default
structure AOk (F:FS) (v:Wkr) (a:AS):Prop where
  u:v.used=a.used
  h:v.high=a.high
  c:a.cap=F.cfg.arena
  b:0<=a.used/\a.used<=a.high/\a.high<=a.cap
  z:v.phase=0\/v.phase=1\/v.phase=4->a.used=0/\a.marks=[]
  m:v.phase=2\/v.phase=3->a.marks=[0]/\a.used=(taskAt F v).scratch
  r1:v.phase=1->v.row=0
  r2:v.phase=2->v.row<(taskAt F v).rows
  r3:v.phase=3->v.row=(taskAt F v).rows
structure AI (F:FS):Prop where
  a:∀(k:Nat) v a,F.ws[k]?=some v->F.ar[k]?=some a->AOk F v a
  t:∀j∈F.jobs,∀t∈j.tasks,0<=t.scratch/\t.scratch<=F.cfg.arena/\1<=t.rows/\t.rows<=128/\t.deps.length<=4096
  n:0<=F.cfg.arena/\F.cfg.arena<=1048576
def SameT (F G:FS):Prop:=G.cfg=F.cfg/\G.jobs.map (·.tasks)=F.jobs.map (·.tasks)
theorem SameT.trans {F G H:FS} (h:SameT F G) (k:SameT G H):SameT F H:=⟨k.1.trans h.1,k.2.trans h.2⟩
theorem jobAt_tasks {F:FS} {k:Int}:(jobAt F k).tasks=(F.jobs.map (·.tasks)).getD k.toNat []:=by
  unfold jobAt
  rw [List.getD_eq_getElem?_getD,List.getD_eq_getElem?_getD,List.getElem?_map]
  cases F.jobs[k.toNat]?<;>rfl
theorem SameT.task {F G:FS} (h:SameT F G) (v:Wkr):taskAt G v=taskAt F v:=by unfold taskAt;rw [jobAt_tasks,jobAt_tasks,h.2]
theorem AOk.same {F G:FS} {v:Wkr} {a:AS} (h:AOk F v a) (hs:SameT F G):AOk G v a:=
  ⟨h.u,h.h,h.c.trans (by rw [hs.1]),h.b,h.z,by rw [hs.task];exact h.m,h.r1,by rw [hs.task];exact h.r2,by rw [hs.task];exact h.r3⟩
theorem map_mem {F G:FS} (h:SameT F G) {P:TaskV->Prop} (hp:∀j∈F.jobs,∀t∈j.tasks,P t):∀j∈G.jobs,∀t∈j.tasks,P t:=by
  intro j hj t ht
  have h1:j.tasks∈G.jobs.map (·.tasks):=List.mem_map.2 ⟨j,hj,rfl⟩
  rw [h.2] at h1
  obtain ⟨j2,h2,h3⟩:=List.mem_map.1 h1
  exact hp j2 h2 t (by rw [h3];exact ht)
theorem AI.same {F G:FS} (h:AI F) (hs:SameT F G) (hw:G.ws=F.ws) (ha:G.ar=F.ar):AI G:=
  ⟨fun k v a hv h2=>(h.a k v a (by rw [<-hw];exact hv) (by rw [<-ha];exact h2)).same hs,by rw [hs.1];exact map_mem hs h.t,by rw [hs.1];exact h.n⟩
theorem AI.upd {F G:FS} {x:Nat} {v':Wkr} {a':AS} (h:AI F) (hl:F.ar.length=F.ws.length) (hs:SameT F G) (hw:G.ws=F.ws.set x v') (ha:G.ar=F.ar.set x a') (hv:∀v a,F.ws[x]?=some v->F.ar[x]?=some a->AOk F v a->AOk F v' a'):AI G:=by
 refine ⟨?_,by rw [hs.1];exact map_mem hs h.t,by rw [hs.1];exact h.n⟩
 intro k v a hk a0
 rw [hw] at hk;rw [ha] at a0
 rcases set_at' hk with ⟨rfl,rfl⟩|⟨e,hk⟩
 ·have b0:x<F.ws.length:=by have:=(List.getElem?_eq_some_iff.1 hk).1;simpa using this
  rcases set_at' a0 with ⟨_,rfl⟩|⟨e2,_⟩
  ·exact (hv _ _ (List.getElem?_eq_getElem b0) (List.getElem?_eq_getElem om) (h.a x _ _ (List.getElem?_eq_getElem b0) (List.getElem?_eq_getElem om))).same hs
  ·exact absurd rfl e2
 ·rcases set_at' a0 with ⟨e2,_⟩|⟨_,a0⟩
  ·exact absurd e2 e
  ·exact (h.a k v a hk a0).same hs
theorem tsk_set {jobs:List JS} {k:Nat} {j':JS} (h:∀j,jobs[k]?=some j->j'.tasks=j.tasks):(jobs.set k j').map (·.tasks)=jobs.map (·.tasks):=by
  rw [List.map_set]
  cases hj:jobs[k]? with
  |none=>rw [List.set_eq_of_length_le];rw [List.length_map];exact List.getElem?_eq_none_iff.1 hj
  |some j=>exact set_same (by rw [List.getElem?_map,hj,h j hj];rfl)
theorem tsk_jobAt {F:FS} {k:Int} {j:JS} (h:F.jobs[k.toNat]?=some j):(jobAt F k).tasks=j.tasks:=by unfold jobAt;rw [getD_some h]
theorem take_T {F:FS} {x:Int} {r:Ref}:SameT F (takeF F x r):=⟨rfl,tsk_set fun j hj=>by dsimp only;exact tsk_jobAt hj⟩
theorem spill_T {x job band:Int}:∀(l:List Int) {F:FS},SameT F (spillF F x job band l)/\(spillF F x job band l).ws=F.ws/\(spillF F x job band l).ar=F.ar/\(spillF F x job band l).jobs=F.jobs
  |[],_=>⟨⟨rfl,rfl⟩,rfl,rfl,rfl⟩
  |t::l,F=>by
    have h:SameT F (spill1 F x ⟨job,t⟩ band)/\(spill1 F x ⟨job,t⟩ band).ws=F.ws/\(spill1 F x ⟨job,t⟩ band).ar=F.ar/\(spill1 F x ⟨job,t⟩ band).jobs=F.jobs:=by unfold spill1;split<;>exact ⟨⟨rfl,rfl⟩,rfl,rfl,rfl⟩
    have ih:=spill_T (x:=x) (job:=job) (band:=band) l (F:=spill1 F x ⟨job,t⟩ band)
    exact ⟨h.1.trans ih.1,ih.2.1.trans h.2.1,ih.2.2.1.trans h.2.2.1,ih.2.2.2.trans h.2.2.2⟩
theorem ai_take {F F1:FS} {x:Int} {r:Ref} (h:AI F) (hl:F.ar.length=F.ws.length) (hT:SameT F F1) (hw:F1.ws=F.ws) (ha:F1.ar=F.ar) (hv:∀v,F.ws[x.toNat]?=some v->v.phase=0\/v.phase=4):AI (takeF F1 x r):=by
 by_cases hx:x.toNat<F.ws.length
 ·have a0:F.ar[x.toNat]?=some (F.ar.getD x.toNat default):=by rw [List.getD_eq_getElem?_getD,List.getElem?_eq_getElem om];rfl
  exact h.upd (G:=takeF F1 x r) (x:=x.toNat) (v':=⟨1,r.job,r.task,(startB (jobAt F1 r.job).B r.task).2.1,0,0,(F1.ar.getD x.toNat default).high⟩) (a':=F.ar.getD x.toNat default) hl (hT.trans take_T) (by unfold takeF;rw [hw]) (by rw [set_same a0];exact ha) fun v a h1 h2 h3=>(by rw [a0] at h2;obtain rfl:=Option.some.inj h2;have hz:=h3.z (by have:=hv v h1;omega);refine ⟨hz.1.symm,by rw [ha],h3.c,h3.b,fun _=>hz,fun k=>by dsimp only at k;omega,fun _=>rfl,fun k=>by dsimp only at k;omega,fun k=>by dsimp only at k;omega⟩)
 · exact (by have h1:takeF F1 x r={takeF F1 x r with ws:=F.ws}:=(by unfold takeF;rw [hw,List.set_eq_of_length_le om]);have h2:SameT F1 (takeF F1 x r):=take_T;rw [h1];exact h.same (hT.trans ⟨h2.1,h2.2⟩) rfl ha)
theorem align0:alignI 0 16=0:=by decide
theorem ai_micro {F:FS} {K x:Int} {v:Wkr} {j:JS} (hF:FW F K) (h:AI F) (hx:0<=x/\x<(F.ws.length:Int)) (hv:F.ws[x.toNat]?=some v) (hh:Holds v) (hj:F.jobs[v.heldJob.toNat]?=some j):
  AI (microF F x).1:=by
 have c0:=hF.al
 have b0:F.ar[x.toNat]?=some (F.ar.getD x.toNat default):=by rw [List.getD_eq_getElem?_getD,List.getElem?_eq_getElem om];rfl
 have hA:=h.a _ _ _ hv b0
 have hr:=hF.w v (List.mem_of_getElem? hv)
 have g0:=hr.t hh
 obtain ⟨j2,f0,ha,hB,hd,o0,p0,hn,ht⟩:=hF.job g0
 rw [show (⟨v.heldJob,v.heldTask⟩:Ref).job=v.heldJob from rfl,hj] at f0;obtain rfl:=Option.some.inj f0
 have e:jobAt F v.heldJob=j:=getD_some hj
 have h0:taskAt F v=j.tasks.getD v.heldTask.toNat default:=by unfold taskAt;rw [e]
 have n0:taskAt F v∈j.tasks:=(by rw [h0];have:v.heldTask.toNat<j.tasks.length:=(by have:=g0.2.2.1;dsimp only at this ht;omega);rw [List.getD_eq_getElem?_getD,List.getElem?_eq_getElem this];exact List.getElem_mem this)
 have r0:=h.t j (List.mem_of_getElem? hj) _ n0
 have q0:=h.n
 unfold microF
 simp only [getD_some hv,e,<-h0]
 split
 ·rename_i p1
  obtain ⟨z1,z2⟩:=hA.z (.inr (.inl p1))
  have k0:markA (F.ar.getD x.toNat default)={F.ar.getD x.toNat default with marks:=[0]}:=(by have l0:(F.ar.getD x.toNat default).marks++[(F.ar.getD x.toNat default).used]=[0]:=(by rw [z2,z1];rfl);unfold markA;rw [if_neg (by rw [z2];decide),l0])
  refine h.upd (x:=x.toNat) c0 ⟨rfl,rfl⟩ rfl rfl fun v0 a0 h1 h2 h3=>?_
  rw [b0] at h2;obtain rfl:=Option.some.inj h2
  rw [hv] at h1;obtain rfl:=Option.some.inj h1
  have hb:=hA.b
  have hc:=hA.c
  rw [k0]
  split
  ·rename_i hs
   have j0:allocC {F.ar.getD x.toNat default with marks:=[0]} (taskAt F v).scratch 16=0:=(by unfold allocC;dsimp only;rw [z1,align0,if_neg om,if_pos om])
   have d0:allocA {F.ar.getD x.toNat default with marks:=[0]} (taskAt F v).scratch 16={F.ar.getD x.toNat default with marks:=[0],used:=0+(taskAt F v).scratch,high:=max (F.ar.getD x.toNat default).high (0+(taskAt F v).scratch)}:=(by unfold allocA;rw [if_pos j0];dsimp only;rw [z1,align0])
   rw [d0]
   refine ⟨rfl,rfl,hc,by dsimp only;omega,fun k=>by dsimp only at k;omega,fun _=>⟨rfl,?_⟩,fun k=>by dsimp only at k;omega,fun _=>?_,fun k=>by dsimp only at k;omega⟩
   ·show 0+(taskAt F v).scratch=(taskAt F v).scratch;omega
   ·show v.row<(taskAt F v).rows;rw [hA.r1 p1];omega
  ·rename_i hs
   refine ⟨rfl,rfl,hc,hb,fun k=>by dsimp only at k;omega,fun _=>⟨rfl,?_⟩,fun k=>by dsimp only at k;omega,fun _=>?_,fun k=>by dsimp only at k;omega⟩
   ·show (F.ar.getD x.toNat default).used=(taskAt F v).scratch;omega
   ·show v.row<(taskAt F v).rows;rw [hA.r1 p1];omega
 ·split
  ·rename_i p2
   have hm:=hA.m (.inl p2)
   have m0:=hA.r2 p2
   refine h.upd (x:=x.toNat) (a':=F.ar.getD x.toNat default) c0 ⟨rfl,rfl⟩ rfl (by rw [set_same b0]) fun v0 a0 h1 h2 h3=>?_
   rw [b0] at h2;obtain rfl:=Option.some.inj h2
   refine ⟨hA.u,hA.h,hA.c,hA.b,fun k=>?_,fun _=>hm,fun k=>?_,fun k=>?_,fun k=>?_⟩
   ·dsimp only at k;split at k<;>omega
   ·dsimp only at k;split at k<;>omega
   · exact (by show v.row+1<(taskAt F v).rows;dsimp only at k;split at k<;>omega)
   · exact (by show v.row+1=(taskAt F v).rows;dsimp only at k;split at k<;>omega)
  ·have p3:v.phase=3:=by unfold Holds at hh;omega
   have hm:=hA.m (.inr p3)
   have e0:relA (F.ar.getD x.toNat default)={F.ar.getD x.toNat default with used:=0,marks:=[]}:=(by unfold relA;rw [hm.1];rfl)
   have i0:∀G:FS,SameT F G->G.ws=F.ws.set x.toNat ⟨0,0,0,0,0,0,(relA (F.ar.getD x.toNat default)).high⟩->G.ar=F.ar.set x.toNat (relA (F.ar.getD x.toNat default))->AI G:=(by intro G hT hw ha2;refine h.upd (x:=x.toNat) c0 hT hw ha2 fun v0 a0 h1 h2 h3=>?_;have hb:=hA.b;rw [e0];exact ⟨rfl,rfl,hA.c,by dsimp only;omega,fun _=>⟨rfl,rfl⟩,fun k=>by dsimp only at k;omega,fun k=>by dsimp only at k;omega,fun k=>by dsimp only at k;omega,fun k=>by dsimp only at k;omega⟩)
   have hs:=spill_T (x:=x) (job:=v.heldJob) (band:=j.band) (comB j.B v.heldTask v.attempt).2 (F:={F with jobs:=F.jobs.set v.heldJob.toNat {j with B:=(comB j.B v.heldTask v.attempt).1},ar:=F.ar.set x.toNat (relA (F.ar.getD x.toNat default)),ws:=F.ws.set x.toNat ⟨0,0,0,0,0,0,(relA (F.ar.getD x.toNat default)).high⟩,st:={F.st with commits:=F.st.commits+1}})
   split
   ·exact i0 _ ⟨hs.1.1,tsk_set fun j3 h3=>(by rw [hj] at h3;rw [<-Option.some.inj h3])⟩ hs.2.1 hs.2.2.1
   ·exact i0 _ ⟨hs.1.1,(by rw [hs.1.2];exact tsk_set fun j3 h3=>by rw [hj] at h3;rw [<-Option.some.inj h3])⟩ hs.2.1 hs.2.2.1
theorem ai_clear {F:FS} {K x ph:Int} {s:Stt} (hF:FW F K) (h:AI F) (hx:0<=x/\x<(F.ws.length:Int)) (hp:ph=0\/ph=4):AI (clearF F x ph s):=by
  exact h.upd (x:=x.toNat) hF.al ⟨rfl,rfl⟩ rfl rfl fun v a h1 h2 h3=>(by have e:arAt F x=a:=getD_some h2;rw [e];have hb:=h3.b;exact ⟨rfl,rfl,h3.c,by dsimp only [resetA];omega,fun _=>⟨rfl,rfl⟩,fun k=>by dsimp only at k;omega,fun k=>by dsimp only at k;omega,fun k=>by dsimp only at k;omega,fun k=>by dsimp only at k;omega⟩)
theorem ai_idle {F:FS} {K x:Int} (hF:FW F K) (h:AI F) (hx:0<=x/\x<(F.ws.length:Int)) (hp:(wAt F x).phase=4):AI (idleF F x 0):=by
 have b0:=hF.al
 have a0:F.ar[x.toNat]?=some (F.ar.getD x.toNat default):=by rw [List.getD_eq_getElem?_getD,List.getElem?_eq_getElem om];rfl
 exact h.upd (x:=x.toNat) (a':=F.ar.getD x.toNat default) b0 ⟨rfl,rfl⟩ rfl (by rw [set_same a0];rfl) fun v a h1 h2 h3=>(by rw [a0] at h2;obtain rfl:=Option.some.inj h2;have e:wAt F x=v:=getD_some h1;rw [e] at hp;have hz:=h3.z (.inr (.inr hp));exact ⟨hz.1.symm,rfl,h3.c,h3.b,fun _=>hz,fun k=>by dsimp only at k;omega,fun k=>by dsimp only at k;omega,fun k=>by dsimp only at k;omega,fun k=>by dsimp only at k;omega⟩)
theorem ret_T {F:FS} {v:Wkr}:SameT F (retJ F v)/\(retJ F v).ws=F.ws/\(retJ F v).ar=F.ar:=by
  unfold retJ
  split
  · exact ⟨⟨rfl,tsk_set fun j hj=>by dsimp only;exact tsk_jobAt hj⟩,rfl,rfl⟩
  · exact ⟨⟨rfl,rfl⟩,rfl,rfl⟩
theorem ai_crash {F:FS} {K x:Int} {v:Wkr} (hF:FW F K) (h:AI F) (hx:0<=x/\x<(F.ws.length:Int)):AI (crashW (retJ F v) x):=by
 obtain ⟨hT,hw,ha⟩:=ret_T (F:=F) (v:=v)
 have e:arAt (retJ F v) x=arAt F x:=by unfold arAt;rw [ha]
 refine h.upd (x:=x.toNat) (v':=⟨4,0,0,0,0,0,(arAt F x).high⟩) (a':=resetA (arAt F x)) hF.al (hT.trans ⟨rfl,rfl⟩) ?_ ?_ ?_
 ·show (retJ F v).ws.set x.toNat ⟨4,0,0,0,0,0,(arAt (retJ F v) x).high⟩=_;rw [hw,e]
 ·show (retJ F v).ar.set x.toNat (resetA (arAt (retJ F v) x))=_;rw [ha,e]
 intro v a h1 h2 h3
 have e:arAt F x=a:=getD_some h2
 rw [e]
 have hb:=h3.b
 exact ⟨rfl,rfl,h3.c,by dsimp only [resetA];omega,fun _=>⟨rfl,rfl⟩,fun k=>by dsimp only at k;omega,fun k=>by dsimp only at k;omega,fun k=>by dsimp only at k;omega,fun k=>by dsimp only at k;omega⟩
theorem ai_cancel {F:FS} {k:Int} (h:AI F):AI (cancelW F k):=
  h.same ⟨rfl,tsk_set fun j hj=>by dsimp only;exact tsk_jobAt hj⟩ rfl rfl
theorem ai_add {F:FS} {K x bd:Int} {l:List Task} {j:JS} (hF:FW F K) (hH:HI F) (h:AI F) (hx:0<=x) (hj:F.jobs[x.toNat]?=some j) (ha:j.added=false) (hv:validC l=0) (hs:∀z∈l,z.scratch<=F.cfg.arena):AI (addF F x l bd):=by
 refine ⟨?_,?_,h.n⟩
 ·intro k v a h1 h2
  have h3:AOk F v a:=h.a k v a h1 h2
  have hk:Holds v->taskAt (addF F x l bd) v=taskAt F v:=by
   intro hh
   obtain ⟨j2,g1,g2,_⟩:=hH.h k v h1 hh
   unfold taskAt jobAt addF
   dsimp only
   rw [List.getD_eq_getElem?_getD,List.getD_eq_getElem?_getD,List.getElem?_set,if_neg]
   ·rw [<-List.getD_eq_getElem?_getD,<-List.getD_eq_getElem?_getD]
   ·intro e;rw [e,g1] at hj;rw [Option.some.inj hj,ha] at g2;cases g2
  exact ⟨h3.u,h3.h,h3.c,h3.b,h3.z,fun k=>by rw [hk (by unfold Holds;omega)];exact h3.m k,h3.r1,fun k=>by rw [hk (by unfold Holds;omega)];exact h3.r2 k,fun k=>by rw [hk (by unfold Holds;omega)];exact h3.r3 k⟩
 · exact mem_set' h.t fun t ht=>(by obtain ⟨z,hz,rfl⟩:=List.mem_map.1 ht;obtain ⟨i,hi⟩:=List.getElem?_of_mem hz;have h1:=tasksOK_at (validC_zero hv).2.2 hi;have a0:=h1;unfold taskOK at h1;have h2:=of_decide_eq_true ((Bool.and_eq_true _ _).mp h1).1;have h3:=asc_len om (taskOK_asc a0);have h4:=(validC_zero hv).2.1;have h5:=(List.getElem?_eq_some_iff.1 hi).1;exact ⟨h2.2,hs z hz,h2.1.1,h2.1.2,by show z.deps.l.length<=4096;omega⟩)
theorem ai_new {c:Cfg} (hv:validCfg c=0):AI (newF c):=by
  have h:=validCfg_zero hv
  refine ⟨?_,?_,h.2.2.2.1⟩
  · exact (by intro k v a h1 h2;obtain rfl:=rep_at h1;obtain rfl:=rep_at h2;exact ⟨rfl,rfl,rfl,⟨Int.le_refl 0,Int.le_refl 0,h.2.2.2.1.1⟩,fun _=>⟨rfl,rfl⟩,fun k=>by dsimp only at k;omega,fun k=>by dsimp only at k;omega,fun k=>by dsimp only at k;omega,fun k=>by dsimp only at k;omega⟩)
  · intro j hj t ht
    obtain rfl:=List.eq_of_mem_replicate hj
    cases ht
structure FI (F:FS) (K:Int):Prop where
  fw:FW F K
  st:StOk F.st K
  q:QI F
  h:HI F
  a:AI F
theorem FI.mono {F:FS} {K L:Int} (h:FI F K) (hk:K<=L) (hL:L<=4096):FI F L:=⟨h.fw.mono hk hL,h.st.mono hk,h.q,h.h,h.a⟩
theorem FI.new {c:Cfg} (hv:validCfg c=0):FI (newF c) 0:=by
  have h1:=newF_ok hv
  have h2:=inv_new (c:=c) (by have:=validCfg_zero hv;omega)
  exact ⟨h1.1,h1.2,h2.1,h2.2,ai_new hv⟩
theorem FI.idle {F:FS} {K x:Int} {v:Wkr} (h:FI F K) (hv:F.ws[x.toNat]?=some v) (hn:¬Holds v):v.phase=0\/v.phase=4:=(h.h.z _ v hv hn).2.2.2.2
theorem FI.add {F:FS} {K x bd:Int} {l:List Task} {j:JS} (h:FI F K) (hx:0<=x/\x<64) (hj:F.jobs[x.toNat]?=some j) (ha:j.added=false) (hb:0<=bd/\bd<4) (hv:validC l=0) (hs:∀z∈l,z.scratch<=F.cfg.arena) (htk:(l.length:Int)<=F.cfg.tasks-loadL F.jobs):FI (addF F x l bd) K:=by
  have h1:=add_ok (l:=l) h.fw hx (fun j2 h2=>by rw [hj] at h2;rw [<-Option.some.inj h2];exact ha) hb hv
  have h2:=inv_add h.fw h.q h.h htk hx.1 hb hj ha
  exact ⟨h1,h.st,h2.1,h2.2,ai_add h.fw h.h h.a hx.1 hj ha hv hs⟩
theorem FI.acq {F F':FS} {K x c:Int} {ev:Evt} (h:FI F K) (hx:0<=x/\x<(F.ws.length:Int)) (hn:¬Holds (wAt F x)) (he:acqF F x c=some (F',ev)):QI F'/\HI F'/\AI F':=by
 have hv:=h.fw.wmem hx
 have h1:=inv_acq h.fw h.q h.h hx (fun v k=>by rw [hv] at k;rw [<-Option.some.inj k];exact hn) he
 refine ⟨h1.1,h1.2.1,?_⟩
 have a0:∀v,F.ws[x.toNat]?=some v->v.phase=0\/v.phase=4:=fun v k=>h.idle k (by rw [hv] at k;rw [<-Option.some.inj k];exact hn)
 unfold acqF at he
 split at he
 · exact (by obtain ⟨rfl,_⟩:=Prod.mk.inj (Option.some.inj he);exact ai_take (F1:=popF F x _) h.a h.fw.al ⟨rfl,rfl⟩ rfl rfl a0)
 ·split at he
  · exact (by rename_i r bs hq;obtain ⟨rfl,_⟩:=Prod.mk.inj (Option.some.inj he);exact ai_take (F1:={F with q:={F.q with bs:=bs}}) h.a h.fw.al ⟨rfl,rfl⟩ rfl rfl a0)
  ·unfold stealF at he
   split at he
   ·cases he
   ·split at he
    ·cases he
    · exact (by rename_i i hi _ r hr;obtain ⟨rfl,_⟩:=Prod.mk.inj (Option.some.inj he);exact (ai_take (F1:=popF F (chF F c i) (dqAt F (chF F c i)).l.tail) (r:=r) h.a h.fw.al ⟨rfl,rfl⟩ rfl rfl a0).same ⟨rfl,rfl⟩ rfl rfl)
theorem FI.micro {F:FS} {K x:Int} (h:FI F K) (hK:K+1<=4096) (hx:0<=x/\x<(F.ws.length:Int)) (hb:busyW F (wAt F x)=true):QI (microF F x).1/\HI (microF F x).1/\AI (microF F x).1:=by
  unfold busyW at hb
  obtain ⟨h1,h2⟩:=(Bool.and_eq_true _ _).mp hb
  have hh:Holds (wAt F x):=(of_decide_eq_true h1:_\/_\/_)
  have hv:=h.fw.wmem hx
  obtain ⟨j,hj,_,_⟩:=h.h.h _ _ hv hh
  have a0:j.running=true:=by unfold jobAt at h2;rw [getD_some hj] at h2;exact h2
  obtain ⟨g1,g2⟩:=inv_micro h.fw hK h.q h.h hx hv hh hj a0
  exact ⟨g1,g2,ai_micro h.fw h.a hx hv hh hj⟩
theorem FI.help {F:FS} {K:Int} (h:FI F K):QI (helpF F)/\HI (helpF F)/\AI (helpF F):=
  ⟨⟨h.q.c,h.q.q4,h.q.cap,h.q.ld⟩,⟨h.h.h,h.h.d,h.h.z⟩,h.a.same ⟨rfl,rfl⟩ rfl rfl⟩
theorem FI.step {F:FS} {K x c:Int} (h:FI F K) (hK:K+1<=4096):FI (stepF F x c).1 (K+1):=by
 obtain ⟨k1,k2,_⟩:=step_ok (x:=x) (c:=c) h.fw h.st hK
 have h3:QI (stepF F x c).1/\HI (stepF F x c).1/\AI (stepF F x c).1:=by
  unfold stepF
  split
  ·exact ⟨h.q,h.h,h.a⟩
  ·rename_i hx
   have hx:=Classical.not_not.1 hx
   split
   ·exact ⟨h.q,h.h,h.a⟩
   ·split
    ·rename_i hh
     split
     · exact (by rename_i hr;exact h.micro hK hx (by unfold busyW;rw [hr,decide_eq_true hh];rfl))
     · exact (by have g:=inv_drop (F:=F) (x:=x) (s:={F.st with drops:=F.st.drops+1}) h.q h.h (.inl (rfl:(0:Int)=0));exact ⟨g.1,g.2,ai_clear h.fw h.a hx (.inl rfl)⟩)
    ·rename_i hh
     unfold restF
     split
     · exact (by rename_i q hq;exact h.acq hx hh (ev:=q.2) hq)
     ·split
      ·rename_i i hi
       have h2:=(first_some hi).2.2
       unfold canHelp at h2
       have h4:=((Bool.and_eq_true _ _).mp h2).2
       have hb:=chF_bd (F:=F) (c:=c) (i:=i) h.fw.n.1
       have hF:FI (helpF F) (K+1):=by
        have:=h.help
        refine ⟨(h.fw.mono om hK).ss,?_,this.1,this.2.1,this.2.2⟩
        obtain ⟨_,_,_,_,_,_,_⟩:=h.st
        constructor<;>(simp only [helpF];omega)
       have c0:FI (helpF F) K\/True:= .inr trivial
       have hw:FW (helpF F) K:=h.fw.ss
       unfold busyW at h4
       obtain ⟨a1,a2⟩:=(Bool.and_eq_true _ _).mp h4
       have a0:Holds (wAt F (chF F c i)):=(of_decide_eq_true a1:_\/_\/_)
       have hv:=h.fw.wmem hb
       obtain ⟨j,hj,_,_⟩:=h.h.h _ _ hv a0
       have b0:j.running=true:=by unfold jobAt at a2;rw [getD_some hj] at a2;exact a2
       obtain ⟨g1,g2⟩:=inv_micro (F:=helpF F) hw hK hF.q hF.h hb hv a0 hj b0
       exact ⟨g1,g2,ai_micro (F:=helpF F) hw hF.a hb hv a0 hj⟩
      ·exact ⟨h.q,h.h,h.a⟩
 exact ⟨k1,k2,h3.1,h3.2.1,h3.2.2⟩
theorem FI.crash {F:FS} {K x:Int} (h:FI F K) (hK:K+1<=4096):FI (crashF F x).1 (K+1):=by
  obtain ⟨k1,k2,_⟩:=crash_ok (x:=x) h.fw h.st hK
  have h3:QI (crashF F x).1/\HI (crashF F x).1/\AI (crashF F x).1:=by
    unfold crashF
    split
    · exact ⟨h.q,h.h,h.a⟩
    · rename_i hx
      have hx:=Classical.not_not.1 hx
      split
      · exact ⟨h.q,h.h,h.a⟩
      · exact (by have g:=inv_crash h.fw h.q h.h hx (h.fw.wmem hx);exact ⟨g.1,g.2,ai_crash h.fw h.a hx⟩)
  exact ⟨k1,k2,h3.1,h3.2.1,h3.2.2⟩
theorem FI.restart {F:FS} {K x:Int} (h:FI F K) (hK:K+1<=4096):FI (restartF F x).1 (K+1):=by
  obtain ⟨k1,k2,_⟩:=restart_ok (x:=x) h.fw h.st hK
  have h3:QI (restartF F x).1/\HI (restartF F x).1/\AI (restartF F x).1:=by
    unfold restartF
    split
    · exact ⟨h.q,h.h,h.a⟩
    · rename_i hx
      have hx:=Classical.not_not.1 hx
      split
      · exact (by rename_i h4;have g:=inv_idle (F:=F) (x:=x) h.q h.h;exact ⟨g.1,g.2,ai_idle h.fw h.a hx h4⟩)
      · exact ⟨h.q,h.h,h.a⟩
  exact ⟨k1,k2,h3.1,h3.2.1,h3.2.2⟩
theorem FI.cancel {F:FS} {K k:Int} (h:FI F K) (hK:K+1<=4096):FI (cancelF F k).1 (K+1):=by
 obtain ⟨k1,k2,_⟩:=cancel_ok (k:=k) h.fw h.st hK
 have h3:QI (cancelF F k).1/\HI (cancelF F k).1/\AI (cancelF F k).1:=by
  unfold cancelF
  split
  ·exact ⟨h.q,h.h,h.a⟩
  ·rename_i hk
   split
   ·exact ⟨h.q,h.h,h.a⟩
   ·have hj:F.jobs[k.toNat]?=some (jobAt F k):=(by unfold jobAt;have h1:k.toNat<F.jobs.length:=(by rw [h.fw.jl];omega);rw [List.getD_eq_getElem?_getD,List.getElem?_eq_getElem h1];rfl)
    have g:=inv_cancel (F:=F) (k:=k) h.q h.h om hj
    exact ⟨g.1,g.2,ai_cancel h.a⟩
 exact ⟨k1,k2,h3.1,h3.2.1,h3.2.2⟩
theorem FI.rel {F:FS} {K x:Int} (h:FI F K) (hx:0<=x/\x<(F.ws.length:Int)) {v:Wkr} {a:AS} (hv:F.ws[x.toNat]?=some v) (ha:F.ar[x.toNat]?=some a) (hp:v.phase=3):relA a=resetA a:=by
  have:=(h.a.a _ _ _ hv ha).m (.inr hp)
  unfold relA resetA;rw [this.1];rfl
theorem held_lt {B:BS} {K i a:Int} (hW:BWf B K) (h:heldC B i a=0):doneOf B<(B.deps.length:Int):=by
  have hz:=heldC_zero h
  have h1:doneOf B<=(B.deps.length:Int):=(by unfold doneOf;have:=List.length_filter_le (fun x=>decide (x=4)) B.st;rw [hW.ls] at this;omega)
  by_cases e:doneOf B=(B.deps.length:Int)
  · exact (by exfalso;unfold doneOf at e;have h2:(B.st.filter fun x=>decide (x=4)).length=B.st.length:=(by rw [hW.ls];omega);have h3:=filter_allX h2;have hi:=stAt_in hz.2.1 (by decide);rw [stAt_nat _ hi.1] at hz;have:=h3 _ (getD_mem (s:=B.st) (q:=i.toNat) (by omega));omega)
  · omega
end Go.Proofs.YtkadmghedmodbaaGreat
namespace Go.E
theorem partAddr_zero {a:Option Addr} {n sz:Nat} (h:∀q,a=some q->∃b off,q=⟨b,off,none⟩):partAddr a n 0 sz=a:=by
  unfold partAddr
  split
  · rfl
  · cases a with
    |none=>rfl
    |some q=>
      obtain ⟨b,off,rfl⟩:=h q rfl
      simp only [Option.map_some,Nat.zero_mul,add_off];rfl
theorem OwnS.cut {E:TypeId} {a:Option Addr} {len cap i sz:Nat} {l:List Value} {c:Chunk} (h:OwnS E sz a len cap l c) (h1:i<=len):
  OwnS E sz (partAddr a i 0 sz) i i (l.take (i*sz)) c:=by
 obtain ⟨hl,hr⟩:=h
 have c0:i*sz<=len*sz:=Nat.mul_le_mul_right _ h1
 refine ⟨by simp;omega,?_⟩
 rcases hr with ⟨rfl,rfl,rfl,rfl⟩|⟨b,a0,b0,rfl,rfl,h2,h3,h4,h5⟩
 · exact (by left;obtain rfl:i=0:=(by omega);exact ⟨by rw [partAddr_zero (fun q h=>by cases h)],rfl,rfl,rfl⟩)
 · exact (by right;have hc:i*sz<=cap*sz:=Nat.mul_le_mul_right _ om;exact ⟨b,a0,b0,partAddr_zero (fun q h=>⟨b,a0,(Option.some.inj h).symm⟩),rfl,Nat.le_refl _,om,om,(by rw [<-h5,List.take_take,Nat.min_eq_left c0])⟩)
theorem OwnT.cut {α:Type} {enc:α->List Value} {E sz:Nat} {a:Option Addr} {len cap i:Nat} {xs:List α} {c:Chunk} (h:OwnT enc E sz a len cap xs c) (h1:i<=len):
    OwnT enc E sz (partAddr a i 0 sz) i i (xs.take i) c:=by
  exact ⟨by simp [h.1];omega,h.2.1,(by rw [<-flatMap_take h.2.1];exact h.2.2.cut h1)⟩
end Go.E
namespace Go.E
section
variable {P:Program} {n:Nat} {ρ:Env} {W w:World} {cs:List Chunk} {ops:Array Oper} {rest:List Oper} {N:Env->World->Prop} {o:Oper}
theorem run_getM {b:Nat} {es:Array MapEntry} {k:Nat} (h:w.heap[b]?=some (.map es k)):(getObj b).run P w= .ok (.map es k) w:=by simp [getObj,Sem.run,h]
theorem run_setM {b:Nat} {es:Array MapEntry} {k:Nat} (ob:Obj) (h:w.heap[b]?=some (.map es k)):(setObj b ob).run P w= .ok () {w with heap:=w.heap.setIfInBounds b ob}:=by simp [setObj,Sem.run,h]
end
end Go.E
namespace Go.E
def keyI (k:Int):Value:= .int .i64 k
def kvE (e:MapEntry):Value×Value:=(e.key,e.val)
def kvQ (q:Int×Value):Value×Value:=(keyI q.1,q.2)
def MapI (b:Nat) (ks:List (Int×Value)) (c:Chunk):Prop:=∃(es:Array MapEntry) (clock:Nat),c=[(b, .map es clock)]/\es.toList.map kvE=ks.map kvQ/\(es.toList.map (·.born)).Nodup/\∀e∈es.toList,e.born<clock
def iget (ks:List (Int×Value)) (k:Int):Option Value:=(ks.find? fun q=>q.1==k).map (·.2)
theorem find_int {kd:IntKind} (k:Int):∀(es:List MapEntry) (ks:List (Int×Value)) (i:Nat),es.map kvE=ks.map kvQ->∃r,Instr.findNow (.int kd) (I k) es i=some r/\r.map (·.2)=iget ks k
 |[],ks,i,h=>by
  have:ks=[]:=by cases ks with|nil=>rfl|cons=>simp at h
  subst this;exact ⟨none,rfl,rfl⟩
 |e::es,ks,i,h=>by
  cases ks with
  |nil=>simp at h
  |cons q ks=>
   simp only [List.map_cons,List.cons.injEq] at h
   obtain ⟨h1,h2⟩:=h
   have hk:e.key=I q.1:=congrArg Prod.fst h1
   have hv:e.val=q.2:=congrArg Prod.snd h1
   unfold Instr.findNow
   rw [hk]
   by_cases e1:k=q.1
   · exact (by subst e1;exact ⟨some (i,e.val),by simp [Instr.sameNow],(by simp [iget,hv])⟩)
   · exact (by obtain ⟨r,hr,hr2⟩:=find_int k es ks (i+1) h2;have e2:(k==q.1)=false:=(by simpa using e1);have e3:(q.1==k)=false:=(by simpa using fun h=>e1 h.symm);refine ⟨r,by simp only [Instr.sameNow,if_true,e2];exact hr,?_⟩;rw [hr2];unfold iget;rw [List.find?_cons,e3])
section
variable {P:Program} {n:Nat} {ρ:Env} {W w:World} {cs:List Chunk} {ops:Array Oper} {rest:List Oper} {N:Env->World->Prop} {o:Oper}
theorem run_findI {K:TypeId} {kd:IntKind} (hK:∀w,(underlying K).run P w= .ok (.int kd) w) (k:Int) (es:List MapEntry) (ks:List (Int×Value)) (h:es.map kvE=ks.map kvQ):
    ∃r,(Instr.findKey K (keyI k) es).run P w= .ok r w/\r.map (·.2)=iget ks k:=by
  obtain ⟨r,h1,h2⟩:=find_int (kd:=kd) k es ks 0 h
  exact ⟨r,(by unfold Instr.findKey;simp only [Sem.run_bind,hK,Result.andThen];unfold keyI;rw [h1];rfl),h2⟩
theorem run_checkI {K:TypeId} {kd:IntKind} (hK:∀w,(underlying K).run P w= .ok (.int kd) w) (b:Bool) (k:Int):(Instr.checkKey b 10000 K (keyI k)).run P w= .ok () w:=by
  rw [show (10000:Nat)=9999+1 from rfl]
  unfold Instr.checkKey
  simp only [Sem.run_bind,hK,Result.andThen,keyI]
  rfl
theorem Sat.objAt {b:Nat} {o1:Obj} (h:Sat W w cs) (i:Nat) (hi:cs[i]?=some [(b,o1)]) (ob:Obj):Sat W {w with heap:=w.heap.setIfInBounds b ob} (cs.set i [(b,ob)]):=by
 refine h.set i hi fun h=>⟨h.os,h.tape,h.output,?_,?_⟩
 · exact (by have:=h.nd;simp only [List.flatten_cons,List.singleton_append,List.map_cons] at this⊢;exact this)
 ·intro p hp
  simp only [List.flatten_cons,List.singleton_append,List.mem_cons] at hp
  have hb:=h.heap (b:=b) (o:=o1) (by simp)
  rcases hp with rfl|hp
  · exact (by show (w.heap.setIfInBounds b ob)[b]?=some ob;have hl:=(Array.getElem?_eq_some_iff.1 hb).1;simp [hl])
  · exact (by have hn:=h.nd;simp only [List.flatten_cons,List.singleton_append,List.map_cons,List.nodup_cons] at hn;have a0:p.1≠b:=fun e=>hn.1 (List.mem_map.2 ⟨p,hp,e⟩);show (w.heap.setIfInBounds b ob)[p.1]?=some p.2;rw [Array.getElem?_setIfInBounds_ne (fun e=>a0 e.symm)];exact h.all p (by simp only [List.flatten_cons,List.singleton_append,List.mem_cons];exact .inr hp))
theorem Y_iget {t K E:TypeId} {kd:IntKind} {x ix:Operand} {b:Nat} {ks:List (Int×Value)} {c:Chunk} {k:Int} {z v:Value} (hS:Sat W w cs) (j:Nat) (hM:MapI b ks c) (hv:(iget ks k).getD z=v)
  (hu:∀w,(underlying t).run P w= .ok (.map K E) w) (hK:∀w,(underlying K).run P w= .ok (.int kd) w) (hz:∀w,(zeroValue E).run P w= .ok z w) (hj:cs[j]?=some c:=by rfl)
  (ho:o.op= .lookup t x ix false:=by rfl) (hx:ev ρ x= .map (some b):=by kernel_rfl) (hi:ev ρ ix=I k:=by kernel_rfl):Yields P ρ o v w:=by
 obtain ⟨es,a0,rfl,hk,_,_⟩:=hM
 have hb:=hS.at j hj
 obtain ⟨r,hr,d0⟩:=run_findI (w:=w) hK k es.toList ks hk
 have b0:=run_checkI (w:=w) hK es.isEmpty k
 have c0:ev ρ ix=keyI k:=hi
 unfold Yields execOp
 rw [ho]
 simp only [Instr.lookup,hx,c0,Sem.run_bind,hu,Result.andThen,run_getM hb,b0,hr,Sem.run_pure]
 rw [<-d0] at hv
 cases r with
 |none=>simp at hv;subst hv;simp [hz]
 |some q=>simp at hv;subst hv;simp
theorem sIAdd {t K E:TypeId} {kd:IntKind} {x ix y:Operand} {b:Nat} {ks:List (Int×Value)} {c:Chunk} {k:Int} {v:Value} (hS:Sat W w cs) (j:Nat) (hM:MapI b ks c) (hno:iget ks k=none)
  (hu:∀w,(underlying t).run P w= .ok (.map K E) w) (hK:∀w,(underlying K).run P w= .ok (.int kd) w) (h:∀c' w',MapI b (ks++[(k,v)]) c'->Sat W w' (cs.set j c')->OpsE P n ops rest N ρ w') (hj:cs[j]?=some c:=by rfl)
  (ho:o.op= .mapUpdate t x ix y:=by rfl) (hg:o.guard=none:=by rfl) (hd:o.dst=none:=by rfl) (hx:ev ρ x= .map (some b):=by kernel_rfl) (hi:ev ρ ix=I k:=by kernel_rfl) (hy:ev ρ y=v:=by kernel_rfl):OpsE P n ops (o::rest) N ρ w:=by
 obtain ⟨es,a0,rfl,hk,hn,b0⟩:=hM
 have hb:=hS.at j hj
 obtain ⟨r,hr,c0⟩:=run_findI (w:=w) hK k es.toList ks hk
 have d0:=run_checkI (w:=w) hK false k
 have e0:ev ρ ix=keyI k:=hi
 rw [hno] at c0
 obtain rfl:r=none:=by cases r with|none=>rfl|some=>cases c0
 refine stepSkip (w':={w with heap:=w.heap.setIfInBounds b (.map (es.push {key:=keyI k,val:=v,born:=a0}) (a0+1))}) hg (by rw [hd];rfl) ?_ ?_
 · exact (by unfold execOp;rw [ho];simp [Instr.mapUpdate,hx,e0,hy,hu,run_getM hb,d0,hr,run_setM _ hb])
 ·rw [hd]
  refine h [(b, .map (es.push {key:=keyI k,val:=v,born:=a0}) (a0+1))] _ ⟨_,_,rfl,?_,?_,?_⟩ (hS.objAt j hj _)
  ·rw [Array.toList_push,List.map_append,List.map_append,hk];rfl
  · exact (by rw [Array.toList_push,List.map_append,List.nodup_append];refine ⟨hn,by simp,?_⟩;intro a ha b' hb';obtain ⟨e,he,rfl⟩:=List.mem_map.1 ha;obtain rfl:b'=a0:=(by simpa using hb');have:=b0 e he;omega)
  ·intro e he
   simp only [Array.toList_push,List.mem_append,List.mem_singleton] at he
   rcases he with he|rfl
   ·have:=b0 e he;omega
   ·show a0<a0+1;omega
theorem sMakeMapI {t:TypeId} (hS:Sat W w cs) (h:∀b c w',MapI b [] c->Sat W w' (c::cs)->OpsE P n ops rest N (put ρ o.dst (.map (some b))) w')
    (ho:o.op= .makeMap t none:=by rfl) (hg:o.guard=none:=by rfl) (hd:dstOK n o.dst=true:=by rfl):OpsE P n ops (o::rest) N ρ w:=by
  exact stepRun (v:= .map (some w.heap.size)) (w':=w.alloc (.map #[] 0)) hg hd (by unfold execOp;rw [ho];simp [Instr.makeMap]) (h _ [(w.heap.size, .map #[] 0)] _ ⟨#[],0,rfl,rfl,by simp,by simp⟩ (hS.alloc _))
def RngI (it b:Nat) (ks rest:List (Int×Value)) (lst:Option (Int×Value)) (cm ci:Chunk):Prop:=∃(es:Array MapEntry) (clock:Nat) (seen:Array Nat),cm=[(b, .map es clock)]/\es.toList.map kvE=ks.map kvQ/\(es.toList.map (·.born)).Nodup/\(∀e∈es.toList,e.born<clock)/\
  ci=[(it, .mapIter (some b) clock seen clock)]/\(leftOf es seen).toList.map kvE=rest.map kvQ/\∀q,lst=some q->∃e∈es.toList,kvE e=kvQ q/\seen.back?=some e.born
theorem RngI.map {it b:Nat} {ks rest:List (Int×Value)} {lst:Option (Int×Value)} {cm ci:Chunk} (h:RngI it b ks rest lst cm ci):MapI b ks cm:=by
  obtain ⟨es,a0,b0,h1,h2,h3,h4,_⟩:=h;exact ⟨es,a0,h1,h2,h3,h4⟩
theorem sRangeI {t K E:TypeId} {x:Operand} {b:Nat} {ks:List (Int×Value)} {c:Chunk} (hS:Sat W w cs) (j:Nat) (hM:MapI b ks c) (hu:∀w,(underlying t).run P w= .ok (.map K E) w)
  (h:∀it ci w',RngI it b ks ks none c ci->Sat W w' (ci::cs)->OpsE P n ops rest N (put ρ o.dst (Pt it 0)) w') (hj:cs[j]?=some c:=by rfl)
  (ho:o.op= .range t x:=by rfl) (hg:o.guard=none:=by rfl) (hd:dstOK n o.dst=true:=by rfl) (hx:ev ρ x= .map (some b):=by kernel_rfl):OpsE P n ops (o::rest) N ρ w:=by
 obtain ⟨es,a0,rfl,hk,hn,b0⟩:=hM
 have hb:=hS.at j hj
 refine stepRun (v:= .pointer (some ⟨w.heap.size,0,none⟩)) (w':=w.alloc (.mapIter (some b) a0 #[] a0)) hg hd ?_ (h _ [(w.heap.size, .mapIter (some b) a0 #[] a0)] _ ⟨es,a0,#[],rfl,hk,hn,b0,rfl,?_,fun q hq=>by cases hq⟩ (hS.alloc _))
 · exact (by unfold execOp;rw [ho];simp [Instr.range,hx,hu,run_getM hb,newObj,Sem.run])
 · exact (by have:leftOf es #[]=es:=(by unfold leftOf;rw [Array.filter_eq_self];intro a _;simp);rw [this];exact hk)
theorem filter_born {L:List MapEntry} {l1 l2:List MapEntry} {e:MapEntry} (hn:(L.map (·.born)).Nodup) (h:L=l1++e::l2):L.filter (fun x=>!(x.born==e.born))=l1++l2:=by
 subst h
 rw [List.map_append,List.map_cons,List.nodup_append] at hn
 obtain ⟨_,h2,h3⟩:=hn
 rw [List.nodup_cons] at h2
 rw [List.filter_append,List.filter_cons]
 simp only [beq_self_eq_true,Bool.not_true,Bool.false_eq_true,if_false]
 rw [List.filter_eq_self.2,List.filter_eq_self.2]
 · exact (by intro x hx;have:x.born≠e.born:=fun q=>h2.1 (by rw [<-q];exact List.mem_map.2 ⟨x,hx,rfl⟩);simpa using this)
 · exact (by intro x hx;have:x.born≠e.born:=h3 _ (List.mem_map.2 ⟨x,hx,rfl⟩) _ List.mem_cons_self;simpa using this)
theorem left_push {es:Array MapEntry} {seen:Array Nat} {b:Nat}:(leftOf es (seen.push b)).toList=(leftOf es seen).toList.filter (fun x=>!(x.born==b)):=by
  unfold leftOf
  rw [Array.toList_filter,Array.toList_filter,List.filter_filter]
  congr 1
  funext x
  rw [contains_push]
  cases seen.contains x.born<;>cases x.born==b<;>rfl
theorem sNextI {x:Operand} {it b:Nat} {ks rs:List (Int×Value)} {lst:Option (Int×Value)} {cm ci:Chunk} (hS:Sat W w cs) (i j:Nat) (hR:RngI it b ks rs lst cm ci)
  (hno:rs=[]->OpsE P n ops rest N (put ρ o.dst (.tuple #[.bool false])) w)
  (hyes:∀l1 q l2 ci' w',rs=l1++q::l2->RngI it b ks (l1++l2) (some q) cm ci'->Sat W w' (cs.set j ci')->OpsE P n ops rest N (put ρ o.dst (.tuple #[.bool true,I q.1,q.2])) w')
  (hi:cs[i]?=some cm:=by rfl) (hj:cs[j]?=some ci:=by rfl) (ho:o.op= .next x false:=by rfl) (hg:o.guard=none:=by rfl) (hd:dstOK n o.dst=true:=by rfl) (hx:ev ρ x=Pt it 0:=by kernel_rfl):OpsE P n ops (o::rest) N ρ w:=by
 obtain ⟨es,clock,seen,rfl,hk,hn,hb2,rfl,hl,hlst⟩:=hR
 have hb:=hS.at i hi
 have hit:=hS.at j hj
 have hget:(getObj it).run P w= .ok (.mapIter (some b) clock seen clock) w:=by simp [getObj,Sem.run,hit]
 have hgetb:(getObj b).run P w= .ok (.map es clock) w:=by simp [getObj,Sem.run,hb]
 have htest:=next_test_false seen es clock clock hb2 (Nat.le_refl _)
 have hmem:∀x∈(leftOf es seen).toList,x.born<clock:=fun x hx=>hb2 x (mem_left hx).1
 have hrun:∀w',(execOp (ev ρ) o).run P w=w'↔((Instr.next (ev ρ x) false o.type).run P w).andThen (fun v w=> .ok (.value v) w)=w':=by
  intro w';unfold execOp;rw [ho];simp [Sem.run_bind]
 have e1:(leftOf es seen).filter (fun x=>decide (x.born<clock))=leftOf es seen:=Array.filter_eq_self.2 (fun x hx=>by simpa using hmem x (by simpa using hx))
 have e2:(leftOf es seen).filter (fun x=>decide (x.born>=clock))=#[]:=by
  rw [Array.filter_eq_empty_iff]
  intro x hx
  have:=hmem x (by simpa using hx)
  simp;omega
 by_cases h0:(leftOf es seen).size=0
 ·have hL:leftOf es seen=#[]:=Array.eq_empty_of_size_eq_zero h0
  have hr0:rs=[]:=by rw [hL] at hl;cases rs with|nil=>rfl|cons=>simp at hl
  refine stepRun (v:= .tuple #[.bool false]) (w':=w) hg hd ?_ (hno hr0)
  rw [hrun,hx]
  have hLf:Array.filter (fun e=>!seen.contains e.born) es=leftOf es seen:=rfl
  simp only [Instr.next,Sem.run_bind,hget,hgetb,Result.andThen,htest,Bool.false_eq_true,if_false,hLf,e1,e2,hL]
  simp [choose,Sem.run,Question.forced]
 ·have hne:(leftOf es seen).isEmpty=false:=by simp [Array.isEmpty,h0]
  have hch:∃(q:Nat) (w1:World),q<(leftOf es seen).size/\(w1=w\/w1=w.drew)/\(choose (Question.mapNext (leftOf es seen).size)).run P w= .ok q w1:=by
   by_cases hf:(leftOf es seen).size<=1
   ·exact ⟨0,w,om, .inl rfl,by simp [choose,Sem.run,Question.forced,hf]⟩
   ·exact ⟨_,w.drew,Nat.mod_lt _ om, .inr rfl,by
     simp only [choose,Sem.run,Question.forced,decide_eq_true_eq,hf,if_false,Question.cut]
     rfl⟩
  obtain ⟨q,w1,hq,hw1,hchr⟩:=hch
  have hS1:Sat W w1 cs:=by rcases hw1 with rfl|rfl;exact hS;exact hS.drew
  have hit1:=hS1.at j hj
  have hset:∀ob,(setObj it ob).run P w1= .ok () {w1 with heap:=w1.heap.setIfInBounds it ob}:=fun ob=>by simp [setObj,Sem.run,hit1]
  have hqL:q<(leftOf es seen).toList.length:=by simpa using hq
  have hl12:(leftOf es seen).toList=(leftOf es seen).toList.take q++(leftOf es seen)[q]::(leftOf es seen).toList.drop (q+1):=by
   have h1:=List.drop_eq_getElem_cons hqL
   rw [Array.getElem_toList] at h1
   rw [<-h1];exact (List.take_append_drop _ _).symm
  have hgetq:(leftOf es seen)[q]?=some (leftOf es seen)[q]:=Array.getElem?_eq_getElem hq
  generalize (leftOf es seen)[q]=e at hl12 hgetq
  generalize (leftOf es seen).toList.take q=l1 at hl12
  generalize (leftOf es seen).toList.drop (q+1)=l2 at hl12
  have heL:e∈(leftOf es seen).toList:=by rw [hl12];simp
  have hel:=mem_left heL
  obtain ⟨m1,m2',hm,hm1,hm2⟩:=List.map_eq_append_iff.1 (hl.symm.trans (by rw [hl12,List.map_append]))
  obtain ⟨qq,m2,rfl,hqq,hm3⟩:=List.map_eq_cons_iff.1 (by rw [hm2,List.map_cons])
  have hk1:e.key=I qq.1:=(congrArg Prod.fst hqq).symm
  have hk2:e.val=qq.2:=(congrArg Prod.snd hqq).symm
  refine stepRun (v:= .tuple #[.bool true,I qq.1,qq.2]) (w':={w1 with heap:=w1.heap.setIfInBounds it (.mapIter (some b) clock (seen.push e.born) clock)}) hg hd ?_ (hyes m1 qq m2 [(it, .mapIter (some b) clock (seen.push e.born) clock)] _ hm ⟨es,clock,seen.push e.born,rfl,hk,hn,hb2,rfl,?_,?_⟩ (hS1.objAt j hj _))
  ·rw [hrun,hx]
   have hLf:Array.filter (fun e=>!seen.contains e.born) es=leftOf es seen:=rfl
   simp only [Instr.next,Sem.run_bind,hget,hgetb,Result.andThen,htest,Bool.false_eq_true,if_false,hLf,e1,e2,Array.append_empty,hne,Array.empty_append,Array.size_map,hchr,Array.getElem?_map,hgetq,Option.map_some,hset,Sem.run_pure,hk1,hk2]
  ·rw [left_push,filter_born ?_ hl12,List.map_append,List.map_append,hm1,hm3]
   have:((leftOf es seen).toList.map (·.born)).Nodup:=by
    unfold leftOf;rw [Array.toList_filter]
    exact hn.sublist (List.filter_sublist.map _)
   exact this
  ·intro q' hq'
   cases hq'
   exact ⟨e,hel.1,hqq.symm,by simp⟩
theorem sEntryI {x:Operand} {it b:Nat} {ks rs:List (Int×Value)} {q:Int×Value} {cm ci:Chunk} (hS:Sat W w cs) (i j:Nat) (hR:RngI it b ks rs (some q) cm ci)
  (h:OpsE P n ops rest N (put ρ o.dst (.tuple #[I q.1,q.2])) w)
  (hi:cs[i]?=some cm:=by rfl) (hj:cs[j]?=some ci:=by rfl) (ho:o.op= .entry x:=by rfl) (hg:o.guard=none:=by rfl) (hd:dstOK n o.dst=true:=by rfl) (hx:ev ρ x=Pt it 0:=by kernel_rfl):OpsE P n ops (o::rest) N ρ w:=by
 obtain ⟨es,a0,f0,rfl,hk,hn,k0,rfl,hl,e0⟩:=hR
 obtain ⟨e,he,g0,b0⟩:=e0 q rfl
 have hb:=hS.at i hi
 have h0:=hS.at j hj
 have d0:(getObj it).run P w= .ok (.mapIter (some b) a0 f0 a0) w:=by simp [getObj,Sem.run,h0]
 have c0:(getObj b).run P w= .ok (.map es a0) w:=by simp [getObj,Sem.run,hb]
 have hf:es.find? (·.born==e.born)=some e:=by rw [<-Array.find?_toList];exact find_born e es.toList hn he
 have i0:e.key=I q.1:=congrArg Prod.fst g0
 have j0:e.val=q.2:=congrArg Prod.snd g0
 exact stepRun (v:= .tuple #[I q.1,q.2]) (w':=w) hg hd (by unfold execOp;rw [ho];simp [Instr.entry,hx,d0,c0,b0,hf,i0,j0]) h
end
end Go.E

namespace Go.Proofs.YtkadmghedmodbaaGreat
open Go Go.E Go.Proofs.Tryz
set_option linter.all false
set_option maxRecDepth 100000
set_option maxHeartbeats 2000000
variable {W w:World} {H:Chunk} {F:List Chunk}
theorem b_entry {p:Nat} {a:Option Addr} {n k:Nat} {es:List BEnt} {c:Chunk} {d:Int} (hO:OwnT encBEnt 175 4 a n k es c) (i:Int) (hS:Sat W w ([(p, .cells #[.slice a n k,I d] 172 (0,0))]::c::F)):
  Calls prog 170 #[Pt p 0,I i] w fun e w'=>Sat W w' ([(p, .cells #[.slice a n k,I d] 172 (0,0))]::c::F)/\((¬(0<=i/\i<n)/\e= .returned (.pointer none))\/((0<=i/\i<n)/\∃(x:BEnt) (b o:Nat),e= .returned (.pointer (some ⟨b,o+i.toNat*4,none⟩))/\es[i.toNat]?=some x/\a=some ⟨b,o,none⟩)):=by
 have g0:=hO.ll
 exact callsK 26 func170 rfl<|jCO 15 rfl<|sD 11 (i<0) (fun a0=>jOR 18 rfl<|retT [.pointer none]<|⟨hS, .inl ⟨om,rfl⟩⟩) fun a0=>gOC hS 10 [0] rfl<|cD (i>=(n:Int)) (fun b0=>jCR 7 rfl<|retT [.pointer none]<|⟨hS, .inl ⟨om,rfl⟩⟩) fun b0=>gCO hS 9 [0] rfl<|sIO hO i (i).toNat fun _ c0 d0 e0 _ f0=>jOR 4 rfl<|retT [.pointer (some ⟨c0,d0+(i).toNat*4,none⟩)]<|⟨hS, .inr ⟨om,_,_,_,rfl,e0,f0⟩⟩
theorem b_held {p:Nat} {a:Option Addr} {n k:Nat} {es:List BEnt} {c:Chunk} {d:Int} (hO:OwnT encBEnt 175 4 a n k es c) (i m:Int) (hS:Sat W w ([(p, .cells #[.slice a n k,I d] 172 (0,0))]::c::F)):
  Calls prog 111 #[Pt p 0,I i,I m] w fun e w'=>Sat W w' ([(p, .cells #[.slice a n k,I d] 172 (0,0))]::c::F)/\((¬(0<=i/\i<n)/\e= .returned (.tuple #[.pointer none,I 16]))\/((0<=i/\i<n)/\∃x:BEnt,es[i.toNat]?=some x/\¬(x.state=3/\x.attempt=m)/\e= .returned (.tuple #[.pointer none,I 20]))\/((0<=i/\i<n)/\∃(x:BEnt) (b o:Nat),e= .returned (.tuple #[.pointer (some ⟨b,o+i.toNat*4,none⟩),I 0])/\es[i.toNat]?=some x/\a=some ⟨b,o,none⟩/\x.state=3/\x.attempt=m)):=by
 have l0:=hO.ll
 refine callsK 28 func111 rfl<|jCO 10 rfl ?_
 have g0:=(hS.picks [1,1])
 refine cZ (b_entry hO i g0) ?_
 rintro _ _ ⟨a0,(⟨b0,rfl⟩|⟨b0,c0,h0,i0,rfl,d0,e0⟩)⟩
 ·exact jOR 19 rfl<|retT [.pointer none,I 16]<|⟨a0, .inl ⟨b0,rfl⟩⟩
 have f0:=OwnT.ptr hO e0 d0
 exact jOO 19 rfl<|sMp a0 (f0.up 1 rfl) 0 (I c0.state)<|pu2<|SN 19 c0.state 3 (fun j0=>jOR 18 rfl<|retT [.pointer none,I 20]<|⟨a0, .inr (.inl ⟨b0,_,d0,om,rfl⟩)⟩) fun j0=>pu3<|gY<|sMp a0 (f0.up 1 rfl) 1 (I c0.attempt)<|jOC 5 rfl<|CN c0.attempt m (fun k0=>jCR 8 rfl<|retT [.pointer none,I 20]<|⟨a0, .inr (.inl ⟨b0,_,d0,om,rfl⟩)⟩) fun k0=>jCR 10 rfl<|retT [.pointer (some ⟨h0,i0+i.toNat*4,none⟩),I 0]<|⟨a0, .inr (.inr ⟨b0,_,_,_,rfl,d0,e0,om⟩)⟩
theorem b_start {p:Nat} {B:BS} {K:Int} {M:Chunk} (hB:BoardR p B M) (hW:BWf B K) (i:Int) (hS:Sat W w (M::H::F)):
  Calls prog 176 #[Pt p 0,I i] w fun e w'=>∃M':Chunk,e= .returned (.tuple #[I (startB B i).2.1,I (startB B i).2.2])/\BoardR p ((startB B i).1) M'/\Sat W w' (M'::H::F):=by
 obtain ⟨a,n,k,es,c,G,rfl,hO,hD,hE⟩:=hB
 have hS:Sat W _ ([(p, .cells #[.slice a n k,I (doneOf B)] 172 (0,0))]::c::G::H::F):=Sat.perm hS (by simp)
 have x0:=hO.ll;have v0:=entsOf_len hE;have t0:=hW.ls;have u0:=hW.la;have y0:=hW.n0
 refine callsK 24 func176 rfl<|jCO 10 rfl ?_
 have h0:=(hS.picks [1,1])
 refine cZ (b_entry hO i h0) ?_
 rintro _ _ ⟨c0,(⟨i0,rfl⟩|⟨i0,a0,_,_,rfl,b0,d0⟩)⟩
 · exact jOR 19 rfl<|retT [I 0,I 16]<|(by have j0:Sat W _ (([(p, .cells #[.slice a n k,I (doneOf B)] 172 (0,0))]++(c++G))::H::F):=Sat.perm c0 (by simp);have s0:¬inB B i:=(by unfold inB;omega);have he:startB B i=(B,0,16):=(by unfold startB;rw [if_neg s0]);exact ⟨_,by rw [he];rfl,by rw [he];exact ⟨_,_,_,es,c,G,rfl,hO,hD,hE⟩,j0⟩)
 have k0:=OwnT.ptr hO d0 b0
 refine jOO 19 rfl<|sMp c0 (k0.up 1 rfl) 0 (I a0.state)<|jOC 3 rfl<|CN a0.state 2 (fun l0=>jCR 8 rfl<|retT [I 0,I 20]<|(by have o0:=entAt hE b0;have r0:inB B i:=(by unfold inB;omega);have m0:Sat W _ (([(p, .cells #[.slice a n k,I (doneOf B)] 172 (0,0))]++(c++G))::H::F):=Sat.perm c0 (by simp);have he:startB B i=(B,0,20):=(by unfold startB;rw [if_pos r0,if_neg (by rw [stAt_nat _ om];omega)]);exact ⟨_,by rw [he];rfl,by rw [he];exact ⟨_,_,_,es,c,G,rfl,hO,hD,hE⟩,m0⟩)) fun l0=>jCO 7 rfl<|sStF c0 hO d0 1 i.toNat 0 a0 (⟨3,a0.attempt,a0.pending,a0.next⟩:BEnt) b0 (I 3) [I 3] sizeOf3 fun _ e0 f0 g0=>jOO 7 rfl<|sMp g0 ((OwnT.ptr f0 d0 (set_at (y:=(⟨3,a0.attempt,a0.pending,a0.next⟩:BEnt)) b0)).up 1 rfl) 1 (I a0.attempt)<|jOR 5 rfl<|retT [I a0.attempt,I 0] ?_
 have o0:=entAt hE b0
 have r0:inB B i:=by unfold inB;omega
 have q0:Sat W _ (([(p, .cells #[.slice a n k,I (doneOf B)] 172 (0,0))]++(e0++G))::H::F):=Sat.perm g0 (by simp)
 have he:startB B i=(⟨B.deps,B.st.set i.toNat 3,B.att⟩,B.att.getD i.toNat 0,0):=by unfold startB;rw [if_pos r0,if_pos (by rw [stAt_nat _ om];omega)]
 have p0:=ents_state (x':=(⟨3,a0.attempt,a0.pending,a0.next⟩:BEnt)) (y:=3) t0 u0 hE b0 om om rfl o0.2.2.1 rfl rfl
 rw [set_self] at p0
 refine ⟨_,by rw [he];exact congrArg (fun z=>Ending.returned (.tuple #[I z,I 0])) o0.2.2.1,by rw [he];exact ⟨_,_,_,_,e0,G,by rw [p0.2],f0,ok_set hD b0 rfl,p0.1⟩,q0⟩
theorem b_return {p:Nat} {B:BS} {K:Int} {M:Chunk} (hB:BoardR p B M) (hW:BWf B K) (i:Int) (m:Int) (hK:K<=4611686018427387904) (hS:Sat W w (M::H::F)):
  Calls prog 63 #[Pt p 0,I i,I m] w fun e w'=>∃M':Chunk,e= .returned (I (heldC B i m))/\BoardR p (retB B i m) M'/\Sat W w' (M'::H::F):=by
 obtain ⟨a,n,k,es,c,G,rfl,hO,hD,hE⟩:=hB
 have hS:Sat W _ ([(p, .cells #[.slice a n k,I (doneOf B)] 172 (0,0))]::c::G::H::F):=Sat.perm hS (by simp)
 have C0:=hO.ll;have A0:=entsOf_len hE;have x0:=hW.ls;have y0:=hW.la;have D0:=hW.n0
 refine callsK 29 func63 rfl<|jCO 10 rfl ?_
 have k0:=(hS.picks [1,1])
 refine cZ (b_held hO i m k0) ?_
 rintro _ _ ⟨d0,(⟨e0,rfl⟩|⟨e0,a0,b0,l0,rfl⟩|⟨e0,a0,_,_,rfl,b0,c0,l0⟩)⟩
 · exact jOR 23 rfl<|retT [I 16]<|(by have m0:Sat W _ (([(p, .cells #[.slice a n k,I (doneOf B)] 172 (0,0))]++(c++G))::H::F):=Sat.perm d0 (by simp);have w0:¬inB B i:=(by unfold inB;omega);have he:heldC B i m=16:=(by unfold heldC;rw [if_neg w0]);have hr:retB B i m=B:=(by unfold retB;rw [he,if_neg (by decide)]);exact ⟨_,by rw [he];rfl,by rw [hr];exact ⟨_,_,_,es,c,G,rfl,hO,hD,hE⟩,m0⟩)
 · exact jOR 23 rfl<|retT [I 20]<|(by have t0:=entAt hE b0;have p0:inB B i:=(by unfold inB;omega);have o0:Sat W _ (([(p, .cells #[.slice a n k,I (doneOf B)] 172 (0,0))]++(c++G))::H::F):=Sat.perm d0 (by simp);have he:heldC B i m=20:=(by unfold heldC;rw [if_pos p0,if_neg (by rw [stAt_nat _ om];omega)]);have hr:retB B i m=B:=(by unfold retB;rw [he,if_neg (by decide)]);exact ⟨_,by rw [he];rfl,by rw [hr];exact ⟨_,_,_,es,c,G,rfl,hO,hD,hE⟩,o0⟩)
 have v0:=OwnT.ptr hO c0 b0
 refine jOO 22 rfl<|sStF d0 hO c0 1 i.toNat 0 a0 (⟨2,a0.attempt,a0.pending,a0.next⟩:BEnt) b0 (I 2) [I 2] sizeOf3 fun _ _ f0 g0=>jOC 3 rfl ?_
 have u0:=entAt hE b0;have z0:=hW.att _ (getD_mem (q:=i.toNat) (s:=B.att) om)
 refine jCO 4 rfl ?_
 have h0:=set_at (y:=(⟨2,a0.attempt,a0.pending,a0.next⟩:BEnt)) b0
 refine sMp g0 ((OwnT.ptr f0 c0 h0).up 1 rfl) 1 (I a0.attempt)<|sAdd a0.attempt 1<|pu2<|sStF g0 f0 c0 1 i.toNat 1 (⟨2,a0.attempt,a0.pending,a0.next⟩:BEnt) (⟨2,(a0.attempt+1),a0.pending,a0.next⟩:BEnt) h0 (I (a0.attempt+1)) [I (a0.attempt+1)] sizeOf3 fun _ i0 j0 q0=>?_
 rw [List.set_set] at j0
 refine jOR 8 rfl<|retT [I 0] ?_
 have t0:=entAt hE b0
 have p0:inB B i:=by unfold inB;omega
 have r0:Sat W _ (([(p, .cells #[.slice a n k,I (doneOf B)] 172 (0,0))]++(i0++G))::H::F):=Sat.perm q0 (by simp)
 have he:heldC B i m=0:=by unfold heldC;rw [if_pos p0,if_pos (by rw [stAt_nat _ om];omega)]
 have hr:retB B i m=⟨B.deps,B.st.set i.toNat 2,B.att.set i.toNat (m+1)⟩:=by unfold retB;rw [if_pos he]
 have s0:=ents_state (x':=(⟨2,(a0.attempt+1),a0.pending,a0.next⟩:BEnt)) (y:=2) (z:=m+1) x0 y0 hE b0 om om rfl (by dsimp only;omega) rfl rfl
 exact ⟨_,by rw [he];rfl,by rw [hr];exact ⟨_,_,_,_,i0,G,by rw [s0.2],j0,ok_set hD b0 rfl,s0.1⟩,r0⟩
theorem b_done {p:Nat} {B:BS} {K:Int} {M:Chunk} (hB:BoardR p B M) (hW:BWf B K) (hS:Sat W w (M::H::F)):
  Calls prog 116 #[Pt p 0] w fun e w'=>e= .returned (I (doneOf B))/\Sat W w' (M::H::F):=by
 obtain ⟨a,n,k,es,c,G,rfl,hO,hD,hE⟩:=hB
 have hS:Sat W _ ([(p, .cells #[.slice a n k,I (doneOf B)] 172 (0,0))]::c::G::H::F):=Sat.perm hS (by simp)
 have d0:=hO.ll;have b0:=entsOf_len hE;have e0:=hW.ls;have f0:=hW.la;have g0:=hW.n0
 exact callsK 9 func116 rfl<|gCR hS 25 [0] rfl<|retT [I (doneOf B)]<|(by have a0:Sat W _ (([(p, .cells #[.slice a n k,I (doneOf B)] 172 (0,0))]++(c++G))::H::F):=Sat.perm hS (by simp);exact ⟨rfl,a0⟩)
theorem b_total {p:Nat} {B:BS} {K:Int} {M:Chunk} (hB:BoardR p B M) (hW:BWf B K) (hS:Sat W w (M::H::F)):
  Calls prog 117 #[Pt p 0] w fun e w'=>e= .returned (I (B.deps.length:Int))/\Sat W w' (M::H::F):=by
 obtain ⟨a,n,k,es,c,G,rfl,hO,hD,hE⟩:=hB
 have hS:Sat W _ ([(p, .cells #[.slice a n k,I (doneOf B)] 172 (0,0))]::c::G::H::F):=Sat.perm hS (by simp)
 have d0:=hO.ll;have b0:=entsOf_len hE;have e0:=hW.ls;have f0:=hW.la;have g0:=hW.n0
 exact callsK 10 func117 rfl<|gCR hS 26 [0] rfl<|retT [I (n:Int)]<|(by have a0:Sat W _ (([(p, .cells #[.slice a n k,I (doneOf B)] 172 (0,0))]++(c++G))::H::F):=Sat.perm hS (by simp);exact ⟨by rw [show B.deps.length=n by omega];rfl,a0⟩)
theorem b_done_nil {cs:List Chunk} (hS:Sat W w cs):
    Ro prog 116 #[.pointer none] (.int .i64 0) W w cs:=by
  exact callsK 9 func116 rfl<|jCR 20 rfl<|retT [.int .i64 0]<|⟨rfl,hS⟩
theorem b_total_nil {cs:List Chunk} (hS:Sat W w cs):
    Ro prog 117 #[.pointer none] (.int .i64 0) W w cs:=by
  exact callsK 10 func117 rfl<|jCR 20 rfl<|retT [.int .i64 0]<|⟨rfl,hS⟩
theorem s_nan (x:Int) (hS:Sat W w (H::F)):
    Ro prog 208 #[.int .i64 x] (.bool false) W w (H::F):=by
  exact callsK 6 func208 rfl<|jCR 14 rfl<|retT [.bool ((x:Int)!=x)]<|⟨rB (by simp),hS⟩
theorem s_less (x:Int) (y:Int) (hS:Sat W w (H::F)):
    Ro prog 196 #[.int .i64 x, .int .i64 y] (.bool (decide (x<y))) W w (H::F):=by
  exact callsK 17 func196 rfl<|jCO 8 rfl<|cS (s_nan x hS.flat) fun b0 a0=>jOR 14 rfl<|retT [.bool (decide (x<y))]<|⟨rfl,a0⟩
theorem s_len64 {cs:List Chunk} (x:Int) (hx:0<=x/\x<18446744073709551616) (hS:Sat W w cs):
  Calls prog 200 #[.int .u64 x] w fun e w'=>∃r:Int,e= .returned (I r)/\(0<=r/\r<=400)/\Sat W w' cs:=by
 refine callsK 25 func200 rfl<|jCC 12 rfl<|CD (x>=4294967296) (fun i0=>jCC 9 rfl<|CD (x>=65536) (fun j0=>jCC 9 rfl<|CD (x>=256) (fun k0=>jCO 6 rfl<|stepY (.int .u8 (x%256)) rfl rfl (Y_conv (k:= .u64) (a:=x) underlying231 underlying5 (wrap_u8 _) rfl kr)<|sStrIdx (k:= .u8) (x%256) underlying9 fun a0 _=>stepY (I a0) rfl rfl (Y_conv (k:= .u8) (a:=a0) underlying5 underlying3 (wrapIn_i64 _ om) rfl kr)<|sAdd 0 a0<|jOR 4 rfl<|retT [I (0+a0)]<|⟨_,rfl,om,hS⟩) fun k0=>jCO 3 rfl<|stepY (.int .u64 (x/256)) rfl rfl (Y_shr .u64 .u64 x 8 256 rfl kr kr (by decide) (by decide))<|jOO 13 rfl<|stepY (.int .u8 ((x/256)%256)) rfl rfl (Y_conv (k:= .u64) (a:=(x/256)) underlying231 underlying5 (wrap_u8 _) rfl kr)<|sStrIdx (k:= .u8) ((x/256)%256) underlying9 fun b0 _=>stepY (I b0) rfl rfl (Y_conv (k:= .u8) (a:=b0) underlying5 underlying3 (wrapIn_i64 _ om) rfl kr)<|sAdd 8 b0<|jOR 4 rfl<|retT [I (8+b0)]<|⟨_,rfl,om,hS⟩) fun j0=>jCO 3 rfl<|stepY (.int .u64 (x/65536)) rfl rfl (Y_shr .u64 .u64 x 16 65536 rfl kr kr (by decide) (by decide))<|jOC 16 rfl<|CD ((x/65536)>=256) (fun l0=>jCO 6 rfl<|stepY (.int .u8 ((x/65536)%256)) rfl rfl (Y_conv (k:= .u64) (a:=(x/65536)) underlying231 underlying5 (wrap_u8 _) rfl kr)<|sStrIdx (k:= .u8) ((x/65536)%256) underlying9 fun c0 _=>stepY (I c0) rfl rfl (Y_conv (k:= .u8) (a:=c0) underlying5 underlying3 (wrapIn_i64 _ om) rfl kr)<|sAdd 16 c0<|jOR 4 rfl<|retT [I (16+c0)]<|⟨_,rfl,om,hS⟩) fun l0=>jCO 3 rfl<|stepY (.int .u64 ((x/65536)/256)) rfl rfl (Y_shr .u64 .u64 (x/65536) 8 256 rfl kr kr (by decide) (by decide))<|jOO 13 rfl<|stepY (.int .u8 (((x/65536)/256)%256)) rfl rfl (Y_conv (k:= .u64) (a:=((x/65536)/256)) underlying231 underlying5 (wrap_u8 _) rfl kr)<|sStrIdx (k:= .u8) (((x/65536)/256)%256) underlying9 fun d0 _=>stepY (I d0) rfl rfl (Y_conv (k:= .u8) (a:=d0) underlying5 underlying3 (wrapIn_i64 _ om) rfl kr)<|sAdd 24 d0<|jOR 4 rfl<|retT [I (24+d0)]<|⟨_,rfl,om,hS⟩) fun i0=>?_
 exact jCO 3 rfl<|stepY (.int .u64 (x/4294967296)) rfl rfl (Y_shr .u64 .u64 x 32 4294967296 rfl kr kr (by decide) (by decide))<|jOC 14 rfl<|CD ((x/4294967296)>=65536) (fun m0=>jCC 9 rfl<|CD ((x/4294967296)>=256) (fun n0=>jCO 6 rfl<|stepY (.int .u8 ((x/4294967296)%256)) rfl rfl (Y_conv (k:= .u64) (a:=(x/4294967296)) underlying231 underlying5 (wrap_u8 _) rfl kr)<|sStrIdx (k:= .u8) ((x/4294967296)%256) underlying9 fun e0 _=>stepY (I e0) rfl rfl (Y_conv (k:= .u8) (a:=e0) underlying5 underlying3 (wrapIn_i64 _ om) rfl kr)<|sAdd 32 e0<|jOR 4 rfl<|retT [I (32+e0)]<|⟨_,rfl,om,hS⟩) fun n0=>jCO 3 rfl<|stepY (.int .u64 ((x/4294967296)/256)) rfl rfl (Y_shr .u64 .u64 (x/4294967296) 8 256 rfl kr kr (by decide) (by decide))<|jOO 13 rfl<|stepY (.int .u8 (((x/4294967296)/256)%256)) rfl rfl (Y_conv (k:= .u64) (a:=((x/4294967296)/256)) underlying231 underlying5 (wrap_u8 _) rfl kr)<|sStrIdx (k:= .u8) (((x/4294967296)/256)%256) underlying9 fun f0 _=>stepY (I f0) rfl rfl (Y_conv (k:= .u8) (a:=f0) underlying5 underlying3 (wrapIn_i64 _ om) rfl kr)<|sAdd 40 f0<|jOR 4 rfl<|retT [I (40+f0)]<|⟨_,rfl,om,hS⟩) fun m0=>jCO 3 rfl<|stepY (.int .u64 ((x/4294967296)/65536)) rfl rfl (Y_shr .u64 .u64 (x/4294967296) 16 65536 rfl kr kr (by decide) (by decide))<|jOC 16 rfl<|CD (((x/4294967296)/65536)>=256) (fun o0=>jCO 6 rfl<|stepY (.int .u8 (((x/4294967296)/65536)%256)) rfl rfl (Y_conv (k:= .u64) (a:=((x/4294967296)/65536)) underlying231 underlying5 (wrap_u8 _) rfl kr)<|sStrIdx (k:= .u8) (((x/4294967296)/65536)%256) underlying9 fun g0 _=>stepY (I g0) rfl rfl (Y_conv (k:= .u8) (a:=g0) underlying5 underlying3 (wrapIn_i64 _ om) rfl kr)<|sAdd 48 g0<|jOR 4 rfl<|retT [I (48+g0)]<|⟨_,rfl,om,hS⟩) fun o0=>jCO 3 rfl<|stepY (.int .u64 (((x/4294967296)/65536)/256)) rfl rfl (Y_shr .u64 .u64 ((x/4294967296)/65536) 8 256 rfl kr kr (by decide) (by decide))<|jOO 13 rfl<|stepY (.int .u8 ((((x/4294967296)/65536)/256)%256)) rfl rfl (Y_conv (k:= .u64) (a:=(((x/4294967296)/65536)/256)) underlying231 underlying5 (wrap_u8 _) rfl kr)<|sStrIdx (k:= .u8) ((((x/4294967296)/65536)/256)%256) underlying9 fun h0 _=>stepY (I h0) rfl rfl (Y_conv (k:= .u8) (a:=h0) underlying5 underlying3 (wrapIn_i64 _ om) rfl kr)<|sAdd 56 h0<|jOR 4 rfl<|retT [I (56+h0)]<|⟨_,rfl,om,hS⟩
theorem s_len {cs:List Chunk} (x:Int) (hx:0<=x/\x<18446744073709551616) (hS:Sat W w cs):
    Calls prog 181 #[.int .u64 x] w fun e w'=>∃r:Int,e= .returned (.int .i64 r)/\(0<=r/\r<=400)/\Sat W w' cs:=by
  refine callsK 8 func181 rfl<|jCO 12 rfl<|cZ (s_len64 x (by omega) hS) ?_
  rintro _ d0 ⟨c0,rfl,b0,a0⟩
  exact jOR 4 rfl<|retT [.int .i64 c0]<|⟨_,rfl,by omega,a0⟩
theorem s_ins (ax:Option Addr) (nx kx:Nat) (x:List Int) (a:Int) (b:Int) (hx:RdT Go.E.encI 1 [H] ax nx kx x) (hs:∀(q:Nat) (u v:Int),x[q]?=some u->x[q+1]?=some v->u<=v) (hab:a=0/\b=nx) (hS:Sat W w (H::F)):
  Ro prog 190 #[.slice ax nx kx,I a,I b] (.tuple #[]) W w (H::F):=by
 have p0:=hx.ll
 obtain ⟨rfl,rfl⟩:=hab
 refine callsK 49 func190 rfl<|jCC 8 rfl<|loopF [0,1,2] (γ:=Nat) (fun j R=>⟨[(6,I (j:Int))],R,(max nx 1)-j,j<=max nx 1/\(1<=j)⟩) 1 ⟨hS,om,om⟩ ?_
 rintro j ρ _ ⟨a0,hj,u0⟩
 refine jCC 8 rfl<|CD ((j:Int)<(nx:Int)) (fun f0=>jCR 4 rfl<|ret0n rfl<|⟨rfl,a0⟩) fun f0=>jCC 11 rfl<|loopM 1<|roundK<|jCC 2 rfl<|bC (((j:Int):Int)>0) (fun d0=>drawF a0 [13] (fn) [0,1,2,3,4,5,6,8,9,10,11,7,12,13,14] fun _ g0=>wV 4<|wFix 19 _ false (decide_eq_false d0)<|wV 9<|wO rfl<|pu1<|nA<|wV 1<|wN<|jXO 10 rfl<|sAdd (j:Int) 1<|jOI 2 rfl<|⟨j+1,od,alB,g0,om,om⟩) fun d0=>?_
 obtain ⟨b0,q0,r0,e0,h0,i0⟩:=RdT.eN hx j
 obtain ⟨c0,s0,t0,j0,k0,l0⟩:=RdT.elem hx ((j:Int)-1)
 refine drawF a0 [13] (fq 7 0 (h0.up 0 rfl)<|fq 12 0 (k0.up 0 rfl)<|fn) [0,1,2,3,4,5,6,8,9,10,11,7,12,13,14] fun _ m0=>wV 4<|wFix 19 _ true (decide_eq_true d0)<|wV 2<|wI i0<|wV 2<|wSub (j:Int) 1<|wI l0<|wL 0<|wL 1<|wO rfl<|gY<|cS (s_less b0 c0 m0.flat) fun _ n0=>nA<|wV 1<|wN<|jXC 1 rfl ?_
 have o0:¬((b0:Int)<c0):=by have h:=hs (j-1) c0 b0 (by rw [show j-1=((j:Int)-1).toNat by omega];exact j0) (by rw [show j-1+1=j by omega];exact e0);omega
 exact cF _ (decide_eq_false o0)<|jCO 8 rfl<|sAdd (j:Int) 1<|jOI 2 rfl<|⟨j+1,od,alB,n0,om,om⟩
theorem s_pdq (ax:Option Addr) (nx kx:Nat) (x:List Int) (a:Int) (b:Int) (m:Int) (hx:RdT Go.E.encI 1 [H] ax nx kx x) (hs:∀(q:Nat) (u v:Int),x[q]?=some u->x[q+1]?=some v->u<=v) (hab:a=0/\b=nx) (hn:nx<=12) (hS:Sat W w (H::F)):
  Ro prog 180 #[.slice ax nx kx,I a,I b,I m] (.tuple #[]) W w (H::F):=by
 have c0:=hx.ll
 refine callsK 134 func180 rfl<|jCC 11 rfl<|loopM 1<|roundK<|jCO 5 rfl<|sSub b a<|jOC 10 rfl ?_
 have a0:((b-a):Int)<=12:=by omega
 exact cT _ (decide_eq_true a0)<|jCO 5 rfl<|cS (s_ins ax nx kx x a b (hx.fl 0) hs om hS.flat) fun _ b0=>jOR 7 rfl<|ret0 rfl<|⟨rfl,b0⟩
theorem s_sort (ax:Option Addr) (nx kx:Nat) (x:List Int) (hx:RdT Go.E.encI 1 [H] ax nx kx x) (hs:∀(q:Nat) (u v:Int),x[q]?=some u->x[q+1]?=some v->u<=v) (hn:nx<=12) (hS:Sat W w (H::F)):
  Ro prog 142 #[.slice ax nx kx] (.tuple #[]) W w (H::F):=by
 have d0:=hx.ll
 refine callsK 11 func142 rfl<|jCO 11 rfl<|stepY (.int .u64 ((nx:Int)%18446744073709551616)) rfl rfl (Y_conv (k:= .i64) (a:=(nx:Int)) underlying3 underlying215 (wrap_u64 _) rfl kr)<|cZ (s_len ((nx:Int)%18446744073709551616) om hS) ?_
 rintro _ _ ⟨a0,rfl,_,b0⟩
 exact cS (s_pdq ax nx kx x 0 (nx:Int) a0 (hx.fl 0) hs om om b0.flat) fun _ c0=>nilO<|ret0n rfl<|⟨rfl,c0⟩
theorem b_ready {p:Nat} {B:BS} {K:Int} {M:Chunk} (hB:BoardR p B M) (hW:BWf B K) (hS:Sat W w (M::H::F)):
  Calls prog 54 #[Pt p 0] w fun e w'=>∃(az:Option Addr) (nz kz:Nat) (Z M':Chunk),e= .returned (.slice az nz kz)/\RdT Go.E.encI 1 [Z] az nz kz (idxOf 2 0 B.st)/\BoardR p B M'/\Sat W w' (Z::M'::H::F):=by
 obtain ⟨a,n,k,es,c,G,rfl,hO,hD,hE⟩:=hB
 have hS:Sat W _ ([(p, .cells #[.slice a n k,I (doneOf B)] 172 (0,0))]::c::G::H::F):=Sat.perm hS (by simp)
 have A0:=hO.ll;have y0:=entsOf_len hE;have B0:=hW.ls;have C0:=hW.la;have D0:=hW.n0
 refine callsK 27 func54 rfl<|gCC hS 32 [0] rfl<|loopF [11,12] (γ:=Nat×(List Int)×SO) (fun ⟨i,zs,t0,l0,u0,f0⟩ R=>⟨[(13,I (i:Int)),(3, .slice t0 l0 u0)],f0::R,n-i,i<=n/\(zs=idxOf 2 0 (B.st.take i))/\(zs.length<=i)/\OwnT Go.E.encI 3 1 t0 l0 u0 zs f0⟩) (0,[],none,0,0,[]) ⟨(Sat.nilc hS),om,rfl,by simp,(OwnT.nil (enc:=Go.E.encI) (E:=3) (sz:=1) fR)⟩ ?_
 rintro ⟨i,zs,t0,l0,u0,f0⟩ ρ _ ⟨a0,hi,hz,E0,e0⟩
 have v0:=e0.ll
 exact jCC 6 rfl<|CD ((i:Int)<(n:Int)) (fun g0=>jCR 12 rfl<|retT [.slice t0 l0 u0]<|(by have h0:Sat W _ (f0::([(p, .cells #[.slice a n k,I (doneOf B)] 172 (0,0))]++(c++G))::H::F):=Sat.perm a0 (by simp);have x0:zs=idxOf 2 0 B.st:=(by rw [hz,List.take_of_length_le om]);have w0:=(e0.rdAt (cs:=[f0]) 0 rfl);rw [x0] at w0;exact ⟨_,_,_,_,_,rfl,w0,⟨_,_,_,es,c,G,rfl,hO,hD,hE⟩,h0⟩)) fun g0=>jCO 7 rfl<|sIO hO (i:Int) i fun b0 _ _ d0 i0 _=>sMA a0 (i0.up 2 rfl) 0 (encBEnt b0)<|sAlloc a0 zeroValue175 fun _ _ j0=>pu1<|sTk j0 0 rfl (encBEnt b0) fun _ c0=>gOC c0 9 [0] rfl<|CE b0.state 2 (fun k0=>jCO 4 rfl<|sAdd (i:Int) 1<|jOI 2 rfl<|⟨(i+1,zs,t0,l0,u0,f0),od,alB,(c0.dropAt 0 rfl),om,(idx_n hz om (by have h:=(entAt hE d0).2.1;omega)),(by first|omega|(simp;omega)),e0⟩) fun k0=>jCO 3 rfl<|sBK c0 #[I (i:Int)] 3 fun _ _ m0=>sApp (nb:=8) m0 e0 2 (RdT.blk (enc:=Go.E.encI) (sz:=1) (xs:=[(i:Int)]) fR 1 0 rfl rfl rfl om) underlying22 (i:=Tryz.t3) kr fR fun o0 p0 q0 _ r0 s0=>jOO 5 rfl<|sAdd (i:Int) 1<|jOI 2 rfl<|⟨(i+1,(zs++[(i:Int)]),o0,(l0+1),p0,q0),od,alB,(s0.drops [0,0]),om,(idx_y hz om (by have h:=(entAt hE d0).2.1;omega)),(by first|omega|(simp;omega)),r0⟩
theorem com_start {es:List BEnt} {B:BS} {K:Int} {i:Nat} {x x':BEnt} (hW:BWf B K) (h:es.map BEnt.v=entsOf B) (hx:es[i]?=some x) (h1:x'.state=4) (h2:x'.attempt=x.attempt) (h3:x'.pending=x.pending) (h4:x'.next=x.next):
  (es.set i x').map BEnt.v=(List.range B.deps.length).map (entC B (B.st.set i 4) ((nextOf 0 B.deps i).take 0)):=by
 obtain ⟨hi,e1,e2,e3,e4⟩:=entAt h hx
 have a0:=hW.ls
 refine ents_set (f:=entV B) h (fun q hq b0=>?_) (fun _=>?_)
 ·simp only [entV,entC,List.take_zero,List.not_mem_nil,if_false,getD_set];rw [if_neg om]
 ·simp only [BEnt.v,entC,List.take_zero,List.not_mem_nil,if_false,getD_set,h1,h2,h3,h4,e2,e3,e4];rw [if_pos ⟨trivial,om⟩]
theorem pend_get {es:List BEnt} {B:BS} {K:Int} {i j:Nat} {z:Int} {y:BEnt} (hW:BWf B K) (hi:i<B.deps.length) (h3:B.st.getD i 0=3)
  (h:es.map BEnt.v=(List.range B.deps.length).map (entC B (B.st.set i 4) ((nextOf 0 B.deps i).take j))) (hz:(nextOf 0 B.deps i)[j]?=some z) (hy:es[z.toNat]?=some y):0<=y.pending-1/\y.pending<=4096:=by
 have h1:=(com_step (y':=⟨if y.pending-1=0 then 2 else y.state,y.attempt,y.pending-1,y.next⟩) hW hi h3 h hz hy rfl rfl rfl rfl).2
 obtain ⟨q,b0,hq,a0⟩:=nx_mem.1 (List.mem_of_getElem? hz)
 have hd:B.deps[z.toNat]?=some (B.deps.getD z.toNat []):=by simp [List.getD_eq_getElem?_getD,show z.toNat<B.deps.length by omega]
 have h4:=asc_len om (hW.asc _ _ hd)
 have h5:pendOf (B.st.set i 4) (B.deps.getD z.toNat [])<=((B.deps.getD z.toNat []).length:Nat):=by unfold pendOf;have:=List.length_filter_le (fun x=>decide (stAt (B.st.set i 4) x≠4)) (B.deps.getD z.toNat []);omega
 have h6:0<=pendOf (B.st.set i 4) (B.deps.getD z.toNat []):=by unfold pendOf;omega
 have:=hW.n0
 omega
theorem b_commit {p:Nat} {B:BS} {K:Int} {M:Chunk} (hB:BoardR p B M) (hW:BWf B K) (i:Int) (m:Int) (hn12:B.deps.length<=12) (hS:Sat W w (M::H::F)):
  Calls prog 174 #[Pt p 0,I i,I m] w fun e w'=>∃(az:Option Addr) (nz kz:Nat) (Z M':Chunk),e= .returned (.tuple #[.slice az nz kz,I (heldC B i m)])/\RdT Go.E.encI 1 [Z] az nz kz ((comB B i m).2)/\BoardR p (comB B i m).1 M'/\Sat W w' (Z::M'::H::F):=by
 obtain ⟨a,n,k,es,c,G,rfl,hO,hD,hE⟩:=hB
 have hS:Sat W _ ([(p, .cells #[.slice a n k,I (doneOf B)] 172 (0,0))]::c::G::H::F):=Sat.perm hS (by simp)
 have b1:=hO.ll;have Z0:=entsOf_len hE;have d1:=hW.ls;have l1:=hW.la;have x1:=hW.n0
 refine callsK 72 func174 rfl<|jCO 11 rfl ?_
 have v0:=(hS.picks [1,1])
 refine cZ (b_held hO i m v0) ?_
 rintro _ _ ⟨g0,(⟨l0,rfl⟩|⟨l0,b0,d0,w0,rfl⟩|⟨l0,b0,_,_,rfl,d0,h0,w0⟩)⟩
 · exact jOR 24 rfl<|retT [nS,I 16]<|(by have V0:¬inB B i:=(by unfold inB;omega);have he:heldC B i m=16:=(by unfold heldC;rw [if_neg V0]);have hr:comB B i m=(B,[]):=(by unfold comB;rw [he,if_neg (by decide)]);have x0:Sat W _ (([]:Chunk)::([(p, .cells #[.slice a n k,I (doneOf B)] 172 (0,0))]++(c++G))::H::F):=Sat.perm g0 (by simp);exact ⟨_,_,_,[],_,by rw [he];rfl,by rw [hr];exact rN,by rw [hr];exact ⟨_,_,_,es,c,G,rfl,hO,hD,hE⟩,x0⟩)
 · exact jOR 24 rfl<|retT [nS,I 20]<|(by have L0:=entAt hE d0;have M0:inB B i:=(by unfold inB;omega);have he:heldC B i m=20:=(by unfold heldC;rw [if_pos M0,if_neg (by rw [stAt_nat _ om];omega)]);have hr:comB B i m=(B,[]):=(by unfold comB;rw [he,if_neg (by decide)]);have y0:Sat W _ (([]:Chunk)::([(p, .cells #[.slice a n k,I (doneOf B)] 172 (0,0))]++(c++G))::H::F):=Sat.perm g0 (by simp);exact ⟨_,_,_,[],_,by rw [he];rfl,by rw [hr];exact rN,by rw [hr];exact ⟨_,_,_,es,c,G,rfl,hO,hD,hE⟩,y0⟩)
 have a2:=OwnT.ptr hO h0 d0
 refine jOC 18 rfl ?_
 have L0:=entAt hE d0;have M0:inB B i:=by unfold inB;omega
 have A0:B.st.getD i.toNat 0=3:=by omega
 have G0:i.toNat<B.deps.length:=by omega
 have D0:=hD b0 (List.mem_of_getElem? d0);have y1:=D0.next.ll
 have K0:=nx_asc (i:=(i.toNat:Int)) (D:=B.deps) (k:=0) (a:=-1) om;have O0:=asc_len om K0;rw [Nat.zero_add] at K0 O0
 have Y0:0<=doneOf B/\doneOf B<=4096:=by unfold doneOf;have:=List.length_filter_le (fun x=>decide (x=(4:Int))) B.st;omega
 refine jCO 4 rfl<|sStF g0 hO h0 1 i.toNat 0 b0 (⟨4,b0.attempt,b0.pending,b0.next⟩:BEnt) d0 (I 4) [I 4] sizeOf3 fun _ z0 m0 o0=>gOO o0 8 [0] rfl<|sAdd (doneOf B) 1<|pu2<|sT o0 0 1 (I ((doneOf B)+1)) [I ((doneOf B)+1)] #[.slice a n k,I ((doneOf B)+1)] sizeOf3 fun _ p0=>jOO 13 rfl<|sMp p0 ((OwnT.ptr m0 h0 (set_at (y:=(⟨4,b0.attempt,b0.pending,b0.next⟩:BEnt)) d0)).up 1 rfl) 3 (.slice b0.next.a b0.next.n b0.next.k)<|jOC 5 rfl<|loopF [37,38,0] (γ:=Nat×(List BEnt)×Chunk×(List Int)×SO) (fun ⟨j,C0,c1,zs,az,nz,kz,cz⟩ R=>⟨[(39,I (j:Int)),(10, .slice az nz kz)],cz::[(p, .cells #[.slice a n k,I (doneOf B+1)] 172 (0,0))]::c1::R,b0.next.n-j,j<=b0.next.n/\OwnT encBEnt 175 4 a n k C0 c1/\(∀z∈C0,BEnt.Ok [G] z)/\C0.map BEnt.v=(List.range B.deps.length).map (entC B (B.st.set i.toNat 4) ((nextOf 0 B.deps i.toNat).take j))/\OwnT Go.E.encI 3 1 az nz kz zs cz/\zs=((nextOf 0 B.deps i.toNat).take j).filter (fun z=>decide (pendOf (B.st.set i.toNat 4) (B.deps.getD z.toNat [])=0))⟩) (0,(es.set i.toNat (⟨4,b0.attempt,b0.pending,b0.next⟩:BEnt)),z0,[],none,0,0,[]) ⟨(Sat.nilc p0),om,m0,(ok_set hD d0 rfl),(com_start hW hE d0 rfl rfl rfl rfl),OwnT.nil fR,(by simp)⟩ ?_
 rintro ⟨j,C0,c1,zs,az,nz,kz,cz⟩ ρ _ ⟨f0,hj,H0,J0,F0,B0,hz⟩
 refine jCC 6 rfl<|CD ((j:Int)<(b0.next.n:Int)) (fun e1=>jCC 6 rfl<|(by have N0:=B0.len;have U0:=B0.le;have W0:zs.length<=12:=(by rw [hz];have h1:=List.length_filter_le (fun z=>decide (pendOf (B.st.set i.toNat 4) (B.deps.getD z.toNat [])=0)) ((nextOf 0 B.deps i.toNat).take j);simp only [List.length_take] at h1;omega);refine jCO 2 rfl<|cS (s_sort az nz kz zs (RdT.flat (B0.rdAt 0 (by rfl))) (by rw [hz];exact asc_sorted (asc_filter (Int.le_refl _) (asc_pre (m:=(nextOf 0 B.deps i.toNat).drop j) (by rw [List.take_append_drop];exact K0)))) om f0.flat) fun _ f1=>jOR 10 rfl<|retT [.slice az nz kz,I 0] ?_;have he:heldC B i m=0:=(by unfold heldC;rw [if_pos M0,if_pos (by rw [stAt_nat _ om];omega)]);have hr:comB B i m=(⟨B.deps,markB (B.st.set i.toNat 4) B.deps,B.att⟩,rdyB (B.st.set i.toNat 4) B.deps):=(by unfold comB;rw [if_pos he]);have I0:(nextOf 0 B.deps i.toNat).take j=(nextOf 0 B.deps i.toNat):=List.take_of_length_le (by rw [<-L0.2.2.2.2];omega);rw [I0] at F0 hz;rw [com_rdy hW G0 A0] at hz;have R0:=com_ents hW G0 A0 F0;have g1:Sat W _ (cz::([(p, .cells #[.slice a n k,I (doneOf B+1)] 172 (0,0))]++(c1++G))::H::F):=Sat.perm f1 (by simp);have Q0:=B0.rdAt (cs:=[cz]) 0 rfl;rw [hz] at Q0;exact ⟨_,_,_,cz,_,by rw [he];rfl,by rw [hr];exact Q0,by rw [hr];exact ⟨_,_,_,C0,c1,G,by rw [com_done hW G0 A0],H0,J0,R0⟩,g1⟩)) fun e1=>?_
 refine jCO 6 rfl<|sIN D0.next j fun c0 _ _ q0 i1=>sMp f0 (i1.up 3 rfl) 0 (I c0)<|jOC 4 rfl ?_
 have E0:=q0;rw [L0.2.2.2.2] at E0
 have C1:=asc_mem K0 c0 (List.mem_of_getElem? E0)
 have P0:=congrArg List.length F0;simp only [List.length_map,List.length_range] at P0
 have T0:=H0.ll;have U0:=B0.le;have N0:=B0.len
 have X0:zs.length<=4096:=by rw [hz];have h1:=List.length_filter_le (fun z=>decide (pendOf (B.st.set i.toNat 4) (B.deps.getD z.toNat [])=0)) ((nextOf 0 B.deps i.toNat).take j);simp only [List.length_take] at h1;omega
 exact gCO f0 6 [1] rfl<|sIO H0 c0 (c0).toNat fun a0 _ _ e0 j1 i0=>jOC 4 rfl<|(by have B1:=pend_get hW G0 A0 F0 E0 e0;have A1:=(J0 a0 (List.mem_of_getElem? e0)).next;exact jCO 4 rfl<|sMp f0 (j1.up 2 rfl) 2 (I a0.pending)<|sSub a0.pending 1<|pu2<|sStF f0 H0 i0 2 (c0).toNat 2 a0 (⟨a0.state,a0.attempt,(a0.pending-1),a0.next⟩:BEnt) e0 (I (a0.pending-1)) [I (a0.pending-1)] sizeOf3 fun _ k1 j0 k0=>jOO 7 rfl<|(by have r0:=set_at (y:=(⟨a0.state,a0.attempt,(a0.pending-1),a0.next⟩:BEnt)) e0;exact sMp k0 ((OwnT.ptr j0 i0 r0).up 2 rfl) 2 (I (a0.pending-1))<|jOC 3 rfl<|CE (a0.pending-1) 0 (fun m1=>jCO 4 rfl<|sAdd (j:Int) 1<|jOI 2 rfl<|(by have s0:=com_step (y':=(⟨a0.state,a0.attempt,(a0.pending-1),a0.next⟩:BEnt)) hW G0 A0 F0 E0 e0 rfl rfl rfl (by dsimp only;rw [if_neg om]);exact ⟨(j+1,(C0.set ((c0).toNat) (⟨a0.state,a0.attempt,(a0.pending-1),a0.next⟩:BEnt)),k1,zs,az,nz,kz,cz),od,alB,k0,om,j0,(ok_set J0 e0 rfl),s0.1,B0,(by rw [take_succ_at E0,List.filter_append,<-hz];simp only [List.filter_cons,List.filter_nil,s0.2];rw [if_neg (by simp;omega)];simp)⟩)) fun m1=>jCO 5 rfl<|sStF k0 j0 i0 2 (c0).toNat 0 (⟨a0.state,a0.attempt,(a0.pending-1),a0.next⟩:BEnt) (⟨2,a0.attempt,(a0.pending-1),a0.next⟩:BEnt) r0 (I 2) [I 2] sizeOf3 fun _ n1 t0 o1=>(by rw [List.set_set] at t0;exact jOO 5 rfl<|sBK o1 #[I c0] 3 fun _ _ q1=>sApp (nb:=8) q1 B0 1 (RdT.blk (enc:=Go.E.encI) (sz:=1) (xs:=[c0]) fR 1 0 rfl rfl rfl om) underlying22 (i:=Tryz.t3) kr fR fun r1 s1 t1 _ u1 v1=>jOO 5 rfl<|sAdd (j:Int) 1<|jOI 2 rfl<|(by have w1:=(v1.dropAt 0 rfl);have u0:=com_step (y':=(⟨2,a0.attempt,(a0.pending-1),a0.next⟩:BEnt)) hW G0 A0 F0 E0 e0 rfl rfl rfl (by dsimp only;rw [if_pos om]);exact ⟨(j+1,(C0.set ((c0).toNat) (⟨2,a0.attempt,(a0.pending-1),a0.next⟩:BEnt)),n1,(zs++[c0]),r1,(nz+1),s1,t1),od,alB,w1,om,t0,(ok_set J0 e0 rfl),u0.1,u1,(by rw [take_succ_at E0,List.filter_append,<-hz];simp only [List.filter_cons,List.filter_nil,u0.2];rw [if_pos (by simp;omega)])⟩))))
end Go.Proofs.YtkadmghedmodbaaGreat
