import Derived.Test.YtkadmghedmodbaaGreatR2P1Bd3
namespace Go.Proofs.YtkadmghedmodbaaGreat
open Go Go.E Go.Proofs.Tryz
set_option linter.all false
set_option maxRecDepth 100000
set_option maxHeartbeats 2000000
variable {W w:World} {H:Chunk} {F:List Chunk}
theorem len_le {L M:List Ref}:(∀r,L.count r<=M.count r)->L.length<=M.length:=by
  induction L generalizing M with
  |nil=>intro _;exact Nat.zero_le _
  |cons x L ih=>
    intro h
    have hx:x∈M:=(by have:=h x;rw [List.count_cons_self] at this;exact List.count_pos_iff.1 (by omega))
    have h1:=ih (M:=M.erase x) (fun r=>by
      have h2:=h r
      rw [List.count_cons] at h2
      rw [List.count_erase]
      split at h2<;>split<;>simp_all<;>omega)
    rw [List.length_erase_of_mem hx] at h1
    have h3:0<M.length:=List.length_pos_of_mem hx
    simp only [List.length_cons];omega
def cDq (l:List DS) (r:Ref):Nat:=(l.map fun d=>d.l.count r).sum
def cQ (bs:List (List Ref)) (r:Ref):Nat:=(bs.map fun l=>l.count r).sum
def eq1 (a b:Ref):Nat:=if a=b then 1 else 0
theorem cD_set:∀{l:List DS} {k:Nat} {d d':DS} {r:Ref},l[k]?=some d->cDq (l.set k d') r+d.l.count r=cDq l r+d'.l.count r
  |[],_,_,_,_,h=>by cases h
  |x::l,0,d,d',r,h=>by
    obtain rfl:x=d:=by simpa using h
    simp only [cDq,List.set_cons_zero,List.map_cons,List.sum_cons];omega
  |x::l,k+1,d,d',r,h=>by
    have ih:=cD_set (l:=l) (k:=k) (d:=d) (d':=d') (r:=r) (by simpa using h)
    simp only [cDq,List.set_cons_succ,List.map_cons,List.sum_cons] at ih⊢;omega
theorem count1_ {a r:Ref}:List.count r [a]=eq1 a r:=by
  unfold eq1
  rw [List.count_cons,List.count_nil]
  by_cases h:a=r<;>simp [h]
theorem cQ_push:∀{bs:List (List Ref)} {b:Nat} {a r:Ref},b<bs.length->cQ (pushB bs b a) r=cQ bs r+eq1 a r
  |[],_,_,_,h=>by simp at h
  |l::t,0,a,r,_=>by simp only [pushB,cQ,List.map_cons,List.sum_cons,List.count_append,count1_];omega
  |l::t,b+1,a,r,h=>by
    have ih:=cQ_push (bs:=t) (b:=b) (a:=a) (r:=r) (by simpa using h)
    simp only [pushB,cQ,List.map_cons,List.sum_cons] at ih⊢;omega
theorem cQ_pop:∀{bs bs':List (List Ref)} {a r:Ref},popB bs=some (a,bs')->cQ bs r=cQ bs' r+eq1 a r
 |[],_,_,_,h=>by cases h
 |[]::t,bs',a,r,h=>by
  unfold popB at h
  cases hp:popB t with
  |none=>rw [hp] at h;cases h
  |some q=>
   rw [hp] at h;obtain ⟨rfl,rfl⟩:=Prod.mk.inj (Option.some.inj h)
   have ih:=cQ_pop (bs:=t) (bs':=q.2) (a:=q.1) (r:=r) hp
   simp only [cQ,List.map_cons,List.sum_cons,List.count_nil] at ih⊢;omega
 |(x::l)::t,bs',a,r,h=>by
  unfold popB at h;obtain ⟨rfl,rfl⟩:=Prod.mk.inj (Option.some.inj h)
  simp only [cQ,List.map_cons,List.sum_cons,List.count_cons,eq1]
  by_cases h:x=r<;>simp [h]<;>omega
theorem cQ_none:∀{bs:List (List Ref)} {r:Ref},popB bs=none->cQ bs r=0
  |[],_,_=>rfl
  |[]::t,r,h=>by
    unfold popB at h
    cases hp:popB t with
    |none=>have:=cQ_none (r:=r) hp;simp only [cQ,List.map_cons,List.sum_cons,List.count_nil] at this⊢;omega
    |some q=>rw [hp] at h;cases h
  |(x::l)::t,r,h=>by cases h
theorem push_len:∀{bs:List (List Ref)} {b:Nat} {a:Ref},(pushB bs b a).length=bs.length
  |[],_,_=>rfl
  |_::_,0,_=>rfl
  |l::t,b+1,a=>by simp only [pushB,List.length_cons,push_len (bs:=t)]
theorem push_tot:∀{bs:List (List Ref)} {b:Nat} {a:Ref},b<bs.length->totB (pushB bs b a)=totB bs+1
  |[],_,_,h=>by simp at h
  |l::t,0,a,_=>by simp only [totB,pushB,List.map_cons,List.sum_cons,List.length_append,List.length_singleton];omega
  |l::t,b+1,a,h=>by
    have ih:=push_tot (bs:=t) (b:=b) (a:=a) (by simpa using h)
    simp only [totB,pushB,List.map_cons,List.sum_cons] at ih⊢;omega
theorem pop_len:∀{bs bs':List (List Ref)} {a:Ref},popB bs=some (a,bs')->bs'.length=bs.length
  |[],_,_,h=>by cases h
  |[]::t,bs',a,h=>by
    unfold popB at h
    cases hp:popB t with
    |none=>rw [hp] at h;cases h
    |some q=>rw [hp] at h;obtain ⟨rfl,rfl⟩:=Prod.mk.inj (Option.some.inj h);simp [pop_len (bs:=t) (bs':=q.2) (a:=q.1) hp]
  |(x::l)::t,bs',a,h=>by unfold popB at h;obtain ⟨rfl,rfl⟩:=Prod.mk.inj (Option.some.inj h);rfl
theorem cQ_pushQ {q:QS} {a r:Ref} {b:Int} (hb:0<=b/\b<4) (h4:q.bs.length=4) (hc:totB q.bs<q.cap):cQ (pushQ q a b).bs r=cQ q.bs r+eq1 a r/\(pushQ q a b).bs.length=4/\(pushQ q a b).cap=q.cap/\totB (pushQ q a b).bs=totB q.bs+1:=by
  have h:pushCQ q=0:=by unfold pushCQ;rw [if_neg (by omega)]
  unfold pushQ;rw [if_pos h]
  exact ⟨cQ_push (by omega),by rw [push_len];exact h4,rfl,push_tot (by omega)⟩
def rdyJ (jobs:List JS) (r:Ref):Bool:=decide (0<=r.job)&&((jobs.getD r.job.toNat default).running&&decide (stAt (jobs.getD r.job.toNat default).B.st r.task=2))
def cnt (F:FS) (r:Ref):Nat:=cDq F.dq r+cQ F.q.bs r
def Holds (v:Wkr):Prop:=v.phase=1\/v.phase=2\/v.phase=3
structure QI (F:FS):Prop where
  c:∀r,cnt F r=(rdyJ F.jobs r).toNat
  q4:F.q.bs.length=4
  cap:F.q.cap=F.cfg.tasks
  ld:loadL F.jobs<=F.cfg.tasks
structure HI (F:FS):Prop where
  h:∀(x:Nat) v,F.ws[x]?=some v->Holds v->∃j,F.jobs[v.heldJob.toNat]?=some j/\j.added=true/\heldC j.B v.heldTask v.attempt=0
  d:∀(x y:Nat) v u,F.ws[x]?=some v->F.ws[y]?=some u->x≠y->Holds v->Holds u->¬(v.heldJob=u.heldJob/\v.heldTask=u.heldTask)
  z:∀(x:Nat) v,F.ws[x]?=some v->¬Holds v->v.heldJob=0/\v.heldTask=0/\v.attempt=0/\v.row=0/\(v.phase=0\/v.phase=4)
theorem set_at' {α:Type} {l:List α} {k y:Nat} {x v:α} (h:(l.set k x)[y]?=some v):(k=y/\v=x)\/(k≠y/\l[y]?=some v):=by
  rw [List.getElem?_set] at h
  by_cases e:k=y
  · rw [if_pos e] at h
    split at h
    · exact .inl ⟨e,(Option.some.inj h).symm⟩
    · cases h
  · rw [if_neg e] at h;exact .inr ⟨e,h⟩
theorem HI.upd {F F':FS} (h:HI F) {x:Nat} {v':Wkr} (hw:F'.ws=F.ws.set x v')
  (ha:∀(y:Nat) v,x≠y->F.ws[y]?=some v->Holds v->∃j,F'.jobs[v.heldJob.toNat]?=some j/\j.added=true/\heldC j.B v.heldTask v.attempt=0)
  (hb:Holds v'->(∃j,F'.jobs[v'.heldJob.toNat]?=some j/\j.added=true/\heldC j.B v'.heldTask v'.attempt=0)/\∀(y:Nat) v,x≠y->F.ws[y]?=some v->Holds v->¬(v.heldJob=v'.heldJob/\v.heldTask=v'.heldTask))
  (hc:¬Holds v'->v'.heldJob=0/\v'.heldTask=0/\v'.attempt=0/\v'.row=0/\(v'.phase=0\/v'.phase=4)):HI F':=by
 refine ⟨?_,?_,?_⟩
 ·intro y v hy hv
  rw [hw] at hy
  rcases set_at' hy with ⟨_,rfl⟩|⟨e,hy⟩
  ·exact (hb hv).1
  ·exact ha y v e hy hv
 ·intro y z v u hy hz e hv hu
  rw [hw] at hy hz
  rcases set_at' hy with ⟨e1,e3⟩|⟨e1,b0⟩
  ·rcases set_at' hz with ⟨e2,_⟩|⟨e2,a0⟩
   ·exact absurd (e1.symm.trans e2) e
   ·subst e3;intro k;exact (hb hv).2 z u e2 a0 hu ⟨k.1.symm,k.2.symm⟩
  ·rcases set_at' hz with ⟨e2,e4⟩|⟨e2,a0⟩
   ·subst e4;exact (hb hu).2 y v e1 b0 hv
   ·exact h.d y z v u b0 a0 e hv hu
 ·intro y v hy hv
  rw [hw] at hy
  rcases set_at' hy with ⟨_,rfl⟩|⟨e,hy⟩
  ·exact hc hv
  ·exact h.z y v hy hv
theorem rdy_set {jobs:List JS} {k:Int} {j':JS} {r:Ref} (hk:0<=k) (hl:k.toNat<jobs.length):rdyJ (jobs.set k.toNat j') r=if r.job=k then (j'.running&&decide (stAt j'.B.st r.task=2)) else rdyJ jobs r:=by
  unfold rdyJ
  by_cases e:r.job=k
  · rw [if_pos e,e,getD_some (set_at (y:=j') (List.getElem?_eq_getElem hl)),decide_eq_true hk];rfl
  · rw [if_neg e]
    by_cases h0:0<=r.job
    · have h1:(jobs.set k.toNat j').getD r.job.toNat default=jobs.getD r.job.toNat default:=(by rw [List.getD_eq_getElem?_getD,List.getD_eq_getElem?_getD,List.getElem?_set,if_neg (by omega)])
      rw [h1]
    · rw [decide_eq_false h0];rfl
theorem rdy_at {jobs:List JS} {r:Ref} {j:JS} (h0:0<=r.job) (hj:jobs[r.job.toNat]?=some j):rdyJ jobs r=(j.running&&decide (stAt j.B.st r.task=2)):=by
  unfold rdyJ;rw [getD_some hj,decide_eq_true h0];rfl
theorem rdy_some {jobs:List JS} {r:Ref} (h:rdyJ jobs r=true):0<=r.job/\∃j,jobs[r.job.toNat]?=some j/\j.running=true/\stAt j.B.st r.task=2:=by
  unfold rdyJ at h
  obtain ⟨h1,h2⟩:=(Bool.and_eq_true _ _).mp h
  obtain ⟨h3,h4⟩:=(Bool.and_eq_true _ _).mp h2
  refine ⟨of_decide_eq_true h1,?_⟩
  cases hj:jobs[r.job.toNat]? with
  |none=>
    rw [List.getD_eq_getElem?_getD,hj] at h3
    cases h3
  |some j=>rw [getD_some hj] at h3 h4;exact ⟨j,rfl,h3,of_decide_eq_true h4⟩
theorem stAt_in {s:List Int} {x y:Int} (h:stAt s x=y) (hy:y≠0):0<=x/\x<(s.length:Int):=by
  unfold stAt at h
  split at h
  · rename_i h0
    refine ⟨h0,?_⟩
    apply Classical.byContradiction
    intro hn
    have:s.getD x.toNat 0=0:=by rw [List.getD_eq_getElem?_getD,List.getElem?_eq_none (by omega)];rfl
    omega
  · omega
theorem count_idx {y z:Int}:∀{s:List Int} {k:Nat},(idxOf y k s).count z=if (k:Int)<=z/\z<((k+s.length:Nat):Int)/\s.getD (z-k).toNat 0=y then 1 else 0
  |[],k=>by rw [if_neg (by simp only [List.length_nil];omega)];rfl
  |x::s,k=>by
    have ih:=count_idx (y:=y) (z:=z) (s:=s) (k:=k+1)
    simp only [idxOf,List.count_append,ih,List.length_cons]
    by_cases hz:z=(k:Int)
    · have h1:(z-(k:Int)).toNat=0:=by omega
      rw [if_neg (show ¬(((k+1:Nat):Int)<=z/\_) from fun h=>by omega)]
      by_cases hx:x=y
      · rw [if_pos hx,if_pos ⟨by omega,by omega,by rw [h1];exact hx⟩,hz];simp
      · rw [if_neg hx,if_neg (by rw [h1];exact fun h=>hx h.2.2)];simp
    · have h2:(if x=y then [((k:Nat):Int)] else []).count z=0:=by
        split
        · rw [List.count_cons,List.count_nil];simp;omega
        · rfl
      rw [h2,Nat.zero_add]
      by_cases hk:((k+1:Nat):Int)<=z
      · have h3:(z-(k:Int)).toNat=(z-((k+1:Nat):Int)).toNat+1:=by omega
        rw [h3]
        simp only [List.getD_cons_succ]
        by_cases h4:((k+1:Nat):Int)<=z/\z<((k+1+s.length:Nat):Int)/\s.getD (z-((k+1:Nat):Int)).toNat 0=y
        · rw [if_pos h4,if_pos ⟨by omega,by have:=h4.2.1;omega,h4.2.2⟩]
        · rw [if_neg h4,if_neg (fun h=>h4 ⟨hk,by have:=h.2.1;omega,h.2.2⟩)]
      · rw [if_neg (fun h=>hk h.1),if_neg (fun h=>by omega)]
theorem count_two {s:List Int} {z:Int}:(idxOf 2 0 s).count z=if stAt s z=2 then 1 else 0:=by
  rw [count_idx]
  by_cases h:stAt s z=2
  · exact (by have h1:=stAt_in h (by decide);have h2:s.getD (z-((0:Nat):Int)).toNat 0=2:=(by rw [stAt_nat _ h1.1] at h;simpa using h);rw [if_pos h,if_pos ⟨by omega,by omega,h2⟩])
  · exact (by rw [if_neg h,if_neg];intro k;apply h;rw [stAt_nat _ (by omega)];simpa using k.2.2)
theorem count_fr {p:Nat→Bool} {t:Int}:∀{n:Nat},(((List.range n).filter p).map fun (q:Nat)=>(q:Int)).count t=if 0≤t∧t<(n:Int)∧p t.toNat=true then 1 else 0
  |0=>by rw [if_neg (by omega)];rfl
  |n+1=>by
    rw [List.range_succ,List.filter_append,List.map_append,List.count_append,count_fr (n:=n)]
    by_cases ht:t=(n:Int)
    · have h1:t.toNat=n:=by omega
      rw [if_neg (fun h=>by omega)]
      by_cases hp:p n=true
      · rw [if_pos ⟨by omega,by omega,by rw [h1];exact hp⟩,ht];simp [hp]
      · rw [if_neg (by rw [h1];exact fun h=>hp h.2.2)];simp [hp]
    · have h2:(List.map (fun (q:Nat)=>(q:Int)) (List.filter p [n])).count t=0:=by
        by_cases hp:p n=true
        · simp [hp];rw [List.count_cons,List.count_nil];simp;omega
        · simp [hp]
      rw [h2,Nat.add_zero]
      by_cases h3:0≤t∧t<(n:Int)∧p t.toNat=true
      · rw [if_pos h3,if_pos ⟨h3.1,by omega,h3.2.2⟩]
      · rw [if_neg h3,if_neg (fun h=>h3 ⟨h.1,by omega,h.2.2⟩)]
theorem count_rdy {s:List Int} {D:List (List Int)} {t:Int}:(rdyB s D).count t=if 0<=t/\t<(D.length:Int)/\condB s D t.toNat=true then 1 else 0:=count_fr
theorem mark_at {s:List Int} {D:List (List Int)} {t:Int} (hl:s.length=D.length):stAt (markB s D) t=if 0<=t/\t<(D.length:Int)/\condB s D t.toNat=true then 2 else stAt s t:=by
 by_cases h0:0<=t
 ·rw [stAt_nat _ h0,stAt_nat _ h0]
  by_cases h1:t.toNat<D.length
  ·unfold markB
   rw [getD_range h1]
   by_cases h2:condB s D t.toNat=true
   ·rw [if_pos h2,if_pos ⟨h0,om,h2⟩]
   ·rw [if_neg h2,if_neg (fun h=>h2 h.2.2)]
  ·rw [if_neg (fun h=>h1 om)]
   have h3:(markB s D).length=D.length:=by simp [markB]
   rw [List.getD_eq_getElem?_getD,List.getD_eq_getElem?_getD,List.getElem?_eq_none om,List.getElem?_eq_none om]
 ·rw [if_neg (fun h=>h0 h.1)];unfold stAt;rw [if_neg h0,if_neg h0]
theorem cond_one {s:List Int} {D:List (List Int)} {t:Int} (h0:0<=t) (h:condB s D t.toNat=true):stAt s t=1:=by
  unfold condB at h
  rw [stAt_nat _ h0]
  exact of_decide_eq_true ((Bool.and_eq_true _ _).mp h).1
theorem cmap {job:Int} {r:Ref}:∀{l:List Int},(l.map fun t=>(⟨job,t⟩:Ref)).count r=if r.job=job then l.count r.task else 0
  |[]=>by split<;>rfl
  |t::l=>by
    rw [List.map_cons,List.count_cons,cmap (l:=l),List.count_cons]
    by_cases h1:r.job=job
    · rw [if_pos h1,if_pos h1]
      congr 1
      cases r;simp only at h1;subst h1;simp
    · exact (by rw [if_neg h1,if_neg h1];have h2:((⟨job,t⟩:Ref)==r)=false:=(by rw [beq_eq_false_iff_ne];intro h;exact h1 (by rw [<-h]));rw [h2];rfl)
def runR:Nat->List JS->List Ref
  |_,[]=>[]
  |k,j::l=>(if j.running then (List.range j.tasks.length).map (fun (t:Nat)=>(⟨(k:Int),(t:Int)⟩:Ref)) else [])++runR (k+1) l
theorem loadL_cons {j:JS} {l:List JS}:loadL (j::l)=(if j.running then (j.tasks.length:Int) else 0)+loadL l:=by
  unfold loadL
  cases h:j.running<;>simp [h]
theorem runR_len:∀{l:List JS} {k:Nat},(((runR k l).length:Nat):Int)=loadL l
  |[],_=>rfl
  |j::l,k=>by
    have ih:=runR_len (l:=l) (k:=k+1)
    rw [loadL_cons,<-ih]
    simp only [runR,List.length_append]
    cases j.running<;>simp
theorem runR_mem:∀{l:List JS} {k i:Nat} {j:JS} {t:Int},l[i]?=some j->j.running=true->0<=t->t<(j.tasks.length:Int)->(⟨((k+i:Nat):Int),t⟩:Ref)∈runR k l
 |[],_,_,_,_,h,_,_,_=>by cases h
 |x::l,k,0,j,t,h,ha,h0,h1=>by
  obtain rfl:x=j:=by simpa using h
  unfold runR
  apply List.mem_append_left
  rw [if_pos ha]
  exact List.mem_map.2 ⟨t.toNat,List.mem_range.2 om,by rw [show (t.toNat:Int)=t by omega];rfl⟩
 |x::l,k,i+1,j,t,h,ha,h0,h1=>by
  have ih:=runR_mem (l:=l) (k:=k+1) (i:=i) (j:=j) (t:=t) (by simpa using h) ha h0 h1
  unfold runR
  apply List.mem_append_right
  rw [show k+(i+1)=k+1+i by omega];exact ih
theorem load_set:∀{l:List JS} {k:Nat} {j j':JS},l[k]?=some j->j'.tasks.length=j.tasks.length->(j'.running=true->j.running=true)->loadL (l.set k j')<=loadL l
  |[],_,_,_,h,_,_=>by cases h
  |x::l,0,j,j',h,ht,hr=>by
    obtain rfl:x=j:=by simpa using h
    rw [List.set_cons_zero,loadL_cons,loadL_cons,ht]
    cases h1:j'.running with
    |true=>rw [hr h1];exact Int.le_refl _
    |false=>simp only [Bool.false_eq_true,if_false];split<;>omega
  |x::l,k+1,j,j',h,ht,hr=>by
    have ih:=load_set (l:=l) (k:=k) (j:=j) (j':=j') (by simpa using h) ht hr
    rw [List.set_cons_succ,loadL_cons,loadL_cons];omega
theorem load_new:∀{l:List JS} {k:Nat} {j j':JS},l[k]?=some j->j.running=false->loadL (l.set k j')=loadL l+if j'.running then (j'.tasks.length:Int) else 0
  |[],_,_,_,h,_=>by cases h
  |x::l,0,j,j',h,hr=>by
    obtain rfl:x=j:=by simpa using h
    rw [List.set_cons_zero,loadL_cons,loadL_cons,hr];simp [Int.add_comm]
  |x::l,k+1,j,j',h,hr=>by
    have ih:=load_new (l:=l) (k:=k) (j:=j) (j':=j') (by simpa using h) hr
    rw [List.set_cons_succ,loadL_cons,loadL_cons];omega
theorem few_run {jobs:List JS} {L:List Ref} (h1:∀r,L.count r<=1) (h2:∀r∈L,0<=r.job/\∃j,jobs[r.job.toNat]?=some j/\j.running=true/\0<=r.task/\r.task<(j.tasks.length:Int)):(L.length:Int)<=loadL jobs:=by
 rw [<-runR_len (k:=0)]
 have:L.length<=(runR 0 jobs).length:=by
  apply len_le
  intro r
  by_cases hr:r∈L
  · exact (by obtain ⟨h0,j,hj,a0,b0,c0⟩:=h2 r hr;have hm:=runR_mem (k:=0) (t:=r.task) hj a0 b0 c0;rw [show (⟨((0+r.job.toNat:Nat):Int),r.task⟩:Ref)=r by cases r;simp only at h0⊢;congr 1;omega] at hm;have:=List.count_pos_iff.2 hm;have:=h1 r;omega)
  ·rw [List.count_eq_zero.2 hr];exact Nat.zero_le _
 omega
theorem rdy_run {F:FS} {K:Int} (hF:FW F K) {r:Ref} (h:rdyJ F.jobs r=true):0<=r.job/\∃j,F.jobs[r.job.toNat]?=some j/\j.running=true/\0<=r.task/\r.task<(j.tasks.length:Int):=by
  obtain ⟨h0,j,hj,a0,b0⟩:=rdy_some h
  have hJ:=hF.j j (List.mem_of_getElem? hj)
  obtain ⟨hW,hd,_,_⟩:=hJ.b (hJ.r a0)
  have hi:=stAt_in b0 (by decide)
  rw [hW.ls,hd] at hi
  exact ⟨h0,j,hj,a0,hi.1,hi.2⟩
theorem QI.rdy {F:FS} (h:QI F) {r:Ref} (hr:0<cnt F r):rdyJ F.jobs r=true:=by
  have h1:=h.c r
  cases h2:rdyJ F.jobs r with
  |true=>rfl
  |false=>rw [h2] at h1;simp at h1;omega
theorem QI.one {F:FS} (h:QI F) (r:Ref):cnt F r<=1:=by rw [h.c r];cases rdyJ F.jobs r<;>simp
theorem flat_q {bs:List (List Ref)} {r:Ref}:bs.flatten.count r=cQ bs r:=by rw [List.count_flatten];rfl
theorem tot_flat {bs:List (List Ref)}:totB bs=(bs.flatten.length:Int):=by unfold totB;rw [List.length_flatten]
theorem QI.few {F:FS} {K:Int} (h:QI F) (hF:FW F K) {L:List Ref} (hL:∀r,L.count r<=cnt F r):(L.length:Int)<=loadL F.jobs:=by
  exact few_run (fun r=>Nat.le_trans (hL r) (h.one r)) fun r hr=>(by have:=List.count_pos_iff.2 hr;exact rdy_run hF (h.rdy (by have:=hL r;omega)))
theorem QI.small {F:FS} {K:Int} (h:QI F) (hF:FW F K):totB F.q.bs<=loadL F.jobs:=by
  rw [tot_flat]
  exact h.few hF (fun r=>by rw [flat_q];unfold cnt;omega)
theorem ref_ext {a b:Ref} (h1:a.job=b.job) (h2:a.task=b.task):a=b:=by cases a;cases b;simp only at h1 h2;subst h1;subst h2;rfl
theorem heldC_of {B:BS} {i a:Int} (h1:inB B i) (h2:stAt B.st i=3) (h3:B.att.getD i.toNat 0=a):heldC B i a=0:=by unfold heldC;rw [if_pos h1,if_pos ⟨h2,h3⟩]
theorem heldC_keep {B B':BS} {i a:Int} (h:heldC B i a=0) (hd:B'.deps=B.deps) (hs:stAt B'.st i=stAt B.st i) (ha:B'.att.getD i.toNat 0=B.att.getD i.toNat 0):heldC B' i a=0:=by
  obtain ⟨h1,h2,h3⟩:=heldC_zero h
  exact heldC_of (by unfold inB at*;rw [hd];exact h1) (hs.trans h2) (ha.trans h3)
theorem HI.others {F F':FS} (h:HI F) {x k:Nat} {j j':JS} (hj:F.jobs[k]?=some j) (hjobs:F'.jobs=F.jobs.set k j') (hadd:j.added=true->j'.added=true)
  (hkeep:∀(y:Nat) v,x≠y->F.ws[y]?=some v->Holds v->v.heldJob.toNat=k->heldC j.B v.heldTask v.attempt=0->heldC j'.B v.heldTask v.attempt=0):
  ∀(y:Nat) v,x≠y->F.ws[y]?=some v->Holds v->∃j,F'.jobs[v.heldJob.toNat]?=some j/\j.added=true/\heldC j.B v.heldTask v.attempt=0:=by
 intro y v hx hy hv
 obtain ⟨j2,h1,h2,h3⟩:=h.h y v hy hv
 rw [hjobs,List.getElem?_set]
 by_cases e:k=v.heldJob.toNat
 · exact (by have hl:=(List.getElem?_eq_some_iff.1 hj).1;rw [if_pos e,if_pos hl];rw [<-e,hj] at h1;obtain rfl:=Option.some.inj h1;exact ⟨j',rfl,hadd h2,hkeep y v hx hy hv e.symm h3⟩)
 ·rw [if_neg e];exact ⟨j2,h1,h2,h3⟩
theorem HI.same {F:FS} (h:HI F) {x:Nat}:∀(y:Nat) v,x≠y->F.ws[y]?=some v->Holds v->∃j,F.jobs[v.heldJob.toNat]?=some j/\j.added=true/\heldC j.B v.heldTask v.attempt=0:=fun y v _ hy hv=>h.h y v hy hv
theorem start_eq {B:BS} {t:Int} (hl:B.st.length=B.deps.length) (h:stAt B.st t=2):startB B t=(⟨B.deps,B.st.set t.toNat 3,B.att⟩,B.att.getD t.toNat 0,0):=by
  have h1:=stAt_in h (by decide)
  unfold startB;rw [if_pos (show inB B t from ⟨h1.1,by rw [<-hl];exact h1.2⟩),if_pos h]
theorem stAt_other {s:List Int} {t x y:Int} (ht:0<=t) (h:x≠t):stAt (s.set t.toNat y) x=stAt s x:=by
  rw [stAt_set,if_neg (fun k=>h (by omega))]
theorem stAt_self {s:List Int} {t y:Int} (ht:0<=t/\t<(s.length:Int)):stAt (s.set t.toNat y) t=y:=by
  rw [stAt_set,if_pos ⟨by omega,by omega⟩]
theorem inv_take {F F1:FS} {K x:Int} {r0:Ref} (hF:FW F K) (q:QI F) (h:HI F) (hv:∀v,F.ws[x.toNat]?=some v->¬Holds v)
  (hc:∀r,cnt F r=cnt F1 r+eq1 r0 r) (hj:F1.jobs=F.jobs) (hw:F1.ws=F.ws) (hq:F1.q.bs.length=4/\F1.q.cap=F.cfg.tasks) (hcf:F1.cfg=F.cfg):
  QI (takeF F1 x r0)/\HI (takeF F1 x r0)/\∃j,F.jobs[r0.job.toNat]?=some j/\0<=r0.job/\j.running=true/\j.added=true/\stAt j.B.st r0.task=2/\BWf j.B K/\takeF F1 x r0={F1 with ws:=F.ws.set x.toNat ⟨1,r0.job,r0.task,j.B.att.getD r0.task.toNat 0,0,0,(F1.ar.getD x.toNat default).high⟩,jobs:=F.jobs.set r0.job.toNat {j with B:=⟨j.B.deps,j.B.st.set r0.task.toNat 3,j.B.att⟩},st:={F1.st with starts:=F1.st.starts+1}}:=by
 have hr:rdyJ F.jobs r0=true:=by
  have h1:=hc r0
  have h2:=q.c r0
  cases hr:rdyJ F.jobs r0 with
  |true=>rfl
  |false=>rw [hr] at h2;simp [eq1] at h1 h2;omega
 obtain ⟨h0,j,a0,b0,d0⟩:=rdy_some hr
 have hJ:=hF.j j (List.mem_of_getElem? a0)
 have ha:=hJ.r b0
 obtain ⟨hW,hd,hb⟩:=hJ.b ha
 have c0:=stAt_in d0 (by decide)
 have hs:=start_eq hW.ls d0
 have e:jobAt F1 r0.job=j:=by unfold jobAt;rw [hj];exact getD_some a0
 have hl:=(List.getElem?_eq_some_iff.1 a0).1
 have eT:takeF F1 x r0={F1 with ws:=F.ws.set x.toNat ⟨1,r0.job,r0.task,j.B.att.getD r0.task.toNat 0,0,0,(F1.ar.getD x.toNat default).high⟩,jobs:=F.jobs.set r0.job.toNat {j with B:=⟨j.B.deps,j.B.st.set r0.task.toNat 3,j.B.att⟩},st:={F1.st with starts:=F1.st.starts+1}}:=(by unfold takeF;rw [e,hs,hj,hw])
 refine ⟨?_,?_,j,a0,h0,b0,ha,d0,hW,eT⟩
 ·rw [eT]
  refine ⟨?_,hq.1,hq.2.trans (congrArg Cfg.tasks hcf.symm),?_⟩
  rotate_left
  · exact (by show loadL (F.jobs.set r0.job.toNat _)<=F1.cfg.tasks;rw [hcf];exact Int.le_trans (load_set a0 rfl (fun h=>h)) q.ld)
  intro r
  show cnt F1 r=(rdyJ (F.jobs.set r0.job.toNat _) r).toNat
  rw [rdy_set h0 hl]
  have h1:=hc r
  have h2:=q.c r
  by_cases e1:r.job=r0.job
  ·rw [if_pos e1]
   rw [rdy_at om (by rw [e1];exact a0),b0] at h2
   dsimp only
   rw [b0]
   by_cases e2:r.task=r0.task
   · exact (by have e3:r0=r:=ref_ext e1.symm e2.symm;subst e3;rw [stAt_self c0];rw [d0] at h2;simp [eq1] at h1 h2⊢;omega)
   · exact (by rw [stAt_other c0.1 e2];have e3:eq1 r0 r=0:=(by unfold eq1;rw [if_neg (fun k=>e2 (by rw [k]))]);omega)
  · exact (by rw [if_neg e1];have e3:eq1 r0 r=0:=(by unfold eq1;rw [if_neg (fun k=>e1 (by rw [k]))]);omega)
 ·refine h.upd (x:=x.toNat) (v':=⟨1,r0.job,r0.task,j.B.att.getD r0.task.toNat 0,0,0,(F1.ar.getD x.toNat default).high⟩) (by rw [eT]) ?_ ?_ (fun k=>absurd (.inl rfl) k)
  · exact h.others (k:=r0.job.toNat) (j':={j with B:=⟨j.B.deps,j.B.st.set r0.task.toNat 3,j.B.att⟩}) a0 (by rw [eT]) (fun h=>h) fun y v hy f0 hh hk e0=>(by have h3:=(heldC_zero e0).2.1;have h4:v.heldTask≠r0.task:=(by intro k;rw [k] at h3;omega);exact heldC_keep e0 rfl (stAt_other c0.1 h4) rfl)
  ·intro _
   refine ⟨⟨{j with B:=⟨j.B.deps,j.B.st.set r0.task.toNat 3,j.B.att⟩},?_,ha,?_⟩,?_⟩
   ·rw [eT];exact set_at a0
   ·exact heldC_of (B:=⟨j.B.deps,j.B.st.set r0.task.toNat 3,j.B.att⟩) ⟨c0.1,by rw [<-hW.ls];exact c0.2⟩ (stAt_self c0) rfl
   · exact (by intro y v hy f0 hh hk;obtain ⟨j2,h1,h2,h3⟩:=h.h y v f0 hh;have k1:v.heldJob=r0.job:=hk.1;have k2:v.heldTask=r0.task:=hk.2;rw [k1,a0] at h1;obtain rfl:=Option.some.inj h1;have h4:=(heldC_zero h3).2.1;rw [k2] at h4;omega)
theorem cnt_dq {F:FS} {k:Nat} {d d':DS} {r:Ref} (h:F.dq[k]?=some d):cnt {F with dq:=F.dq.set k d'} r+d.l.count r=cnt F r+d'.l.count r:=by
  have:=cD_set (d':=d') (r:=r) h
  unfold cnt;dsimp only;omega
theorem last_count {l:List Ref} {a r:Ref} (h:l.getLast?=some a):l.count r=l.dropLast.count r+eq1 a r:=by
  have h1:l=l.dropLast++[a]:=by
    cases l with
    |nil=>cases h
    |cons x l=>
      have h2:(x::l).getLast (by simp)=a:=by rw [List.getLast?_eq_some_getLast (by simp)] at h;exact Option.some.inj h
      rw [<-h2];exact (List.dropLast_concat_getLast (by simp)).symm
  have h2:l.count r=(l.dropLast++[a]).count r:=by rw [<-h1]
  rw [h2,List.count_append,count1_]
theorem head_count {l:List Ref} {a r:Ref} (h:l.head?=some a):l.count r=l.tail.count r+eq1 a r:=by
  cases l with
  |nil=>cases h
  |cons x l=>
    obtain rfl:=Option.some.inj h
    have:List.count r (x::l)=List.count r [x]+List.count r l:=by rw [<-List.count_append];rfl
    rw [this,count1_,List.tail_cons];omega
theorem dq_some {F:FS} {K x:Int} (hF:FW F K) (hx:0<=x/\x<(F.ws.length:Int)):F.dq[x.toNat]?=some (dqAt F x):=by
  unfold dqAt
  have h1:x.toNat<F.dq.length:=by rw [hF.dl];omega
  rw [List.getD_eq_getElem?_getD,List.getElem?_eq_getElem h1];rfl
theorem cnt_pop {F:FS} {x:Int} {d:DS} {l:List Ref} {a r:Ref} (hd:F.dq[x.toNat]?=some d) (h:∀r,d.l.count r=l.count r+eq1 a r):cnt F r=cnt {F with dq:=F.dq.set x.toNat {d with l:=l}} r+eq1 a r:=by
  have h1:=cnt_dq (d':={d with l:=l}) (r:=r) hd
  have h2:=h r
  dsimp only at h1;omega
theorem inv_acq {F F':FS} {K x c:Int} {ev:Evt} (hF:FW F K) (q:QI F) (h:HI F) (hx:0<=x/\x<(F.ws.length:Int)) (hv:∀v,F.ws[x.toNat]?=some v->¬Holds v) (he:acqF F x c=some (F',ev)):
  QI F'/\HI F'/\∃(r0:Ref) (j:JS),F.jobs[r0.job.toNat]?=some j/\0<=r0.job/\j.running=true/\j.added=true/\stAt j.B.st r0.task=2/\BWf j.B K/\(∃hh:Int,F'.ws=F.ws.set x.toNat ⟨1,r0.job,r0.task,j.B.att.getD r0.task.toNat 0,0,0,hh⟩)/\F'.jobs=F.jobs.set r0.job.toNat {j with B:=⟨j.B.deps,j.B.st.set r0.task.toNat 3,j.B.att⟩}/\
   (ev=⟨3,x,0,0,r0.job,r0.task,0⟩\/ev=⟨4,x,0,0,r0.job,r0.task,0⟩\/∃f:Int,0<=f/\f<(F.ws.length:Int)/\f≠x/\ev=⟨5,x,f,0,r0.job,r0.task,0⟩):=by
 unfold acqF at he
 split at he
 · exact (by rename_i r hr;obtain ⟨rfl,rfl⟩:=Prod.mk.inj (Option.some.inj he);obtain ⟨a1,a2,j,b1,b2,b3,b4,b5,b6,b7⟩:=inv_take (F1:=popF F x (dqAt F x).l.dropLast) (x:=x) (r0:=r) hF q h hv (fun y=>cnt_pop (dq_some hF hx) (fun r=>last_count hr)) rfl rfl ⟨q.q4,q.cap⟩ rfl;exact ⟨a1,a2,r,j,b1,b2,b3,b4,b5,b6,⟨_,by rw [b7]⟩,by rw [b7], .inl rfl⟩)
 ·rename_i hlast
  split at he
  · exact (by rename_i r bs hq;obtain ⟨rfl,rfl⟩:=Prod.mk.inj (Option.some.inj he);obtain ⟨a1,a2,j,b1,b2,b3,b4,b5,b6,b7⟩:=inv_take (F1:={F with q:={F.q with bs:=bs}}) (x:=x) (r0:=r) hF q h hv (fun y=>by have:=cQ_pop (r:=y) hq;unfold cnt;dsimp only;omega) rfl rfl ⟨by rw [show ({F with q:={F.q with bs:=bs}}:FS).q.bs=bs from rfl,pop_len hq];exact q.q4,q.cap⟩ rfl;exact ⟨a1,a2,r,j,b1,b2,b3,b4,b5,b6,⟨_,by rw [b7]⟩,by rw [b7], .inr (.inl rfl)⟩)
  ·unfold stealF at he
   split at he
   ·cases he
   ·rename_i i hi
    split at he
    ·cases he
    ·rename_i r hr
     obtain ⟨rfl,rfl⟩:=Prod.mk.inj (Option.some.inj he)
     have hb:=chF_bd (F:=F) (c:=c) (i:=i) hF.n.1
     obtain ⟨a1,a2,j,b1,b2,b3,b4,b5,b6,b7⟩:=inv_take (F1:=popF F (chF F c i) (dqAt F (chF F c i)).l.tail) (x:=x) (r0:=r) hF q h hv (fun y=>cnt_pop (dq_some hF hb) (fun r=>head_count hr)) rfl rfl ⟨q.q4,q.cap⟩ rfl
     refine ⟨⟨a1.c,a1.q4,a1.cap,a1.ld⟩,⟨a2.h,a2.d,a2.z⟩,r,j,b1,b2,b3,b4,b5,b6,⟨((popF F (chF F c i) (dqAt F (chF F c i)).l.tail).ar.getD x.toNat default).high,?_⟩,?_, .inr (.inr ⟨chF F c i,hb.1,hb.2,?_,rfl⟩)⟩
     ·show (takeF _ x r).ws=_;rw [b7]
     ·show (takeF _ x r).jobs=_;rw [b7]
     · exact (by intro hxe;rw [hxe] at hr;have:(dqAt F x).l=[]:=List.getLast?_eq_none_iff.1 hlast;rw [this] at hr;cases hr)
theorem spill_cnt {x job band K C:Int} (hb:0<=band/\band<4) (l:List Int):∀{F:FS},FW F K->(0<=x/\x<(F.ws.length:Int))->F.q.bs.length=4->F.q.cap=C->totB F.q.bs+l.length<=C->(∀t∈l,RefOk (shapeF F.jobs) ⟨job,t⟩)->
  (∀r,cnt (spillF F x job band l) r=cnt F r+(l.map fun t=>(⟨job,t⟩:Ref)).count r)/\(spillF F x job band l).q.bs.length=4/\(spillF F x job band l).q.cap=C:=by
 induction l with
 |nil=>intro F _ _ h4 hc _ _;exact ⟨fun r=>by simp only [spillF,List.foldl_nil,List.map_nil,List.count_nil,Nat.add_zero],h4,hc⟩
 |cons t l ih=>
  intro F hF hx h4 hc ht hr
  have h0:=hr t List.mem_cons_self
  simp only [List.length_cons] at ht
  have hd:=dq_some hF hx
  have h1:FW (spill1 F x ⟨job,t⟩ band) K/\(spill1 F x ⟨job,t⟩ band).jobs=F.jobs/\(spill1 F x ⟨job,t⟩ band).ws=F.ws/\(∀r,cnt (spill1 F x ⟨job,t⟩ band) r=cnt F r+eq1 ⟨job,t⟩ r)/\(spill1 F x ⟨job,t⟩ band).q.bs.length=4/\(spill1 F x ⟨job,t⟩ band).q.cap=C/\totB (spill1 F x ⟨job,t⟩ band).q.bs<=totB F.q.bs+1:=by
   unfold spill1
   split
   · exact (by rename_i hp;refine ⟨hF.sd (pushD_mem h0 (hF.dr x)),rfl,rfl,?_,h4,hc,by dsimp only;omega⟩;intro r;have h2:=cnt_dq (d':=pushD (dqAt F x) ⟨job,t⟩) (r:=r) hd;have h3:(pushD (dqAt F x) ⟨job,t⟩).l=(dqAt F x).l++[⟨job,t⟩]:=(by unfold pushD;rw [if_pos (show pushC (dqAt F x)=0 from hp)]);rw [h3,List.count_append,count1_] at h2;show cnt {F with dq:=F.dq.set x.toNat (pushD (dqAt F x) ⟨job,t⟩)} r=_;omega)
   · exact (by obtain ⟨_,g2,g3,g4⟩:=cQ_pushQ (a:=(⟨job,t⟩:Ref)) (r:=⟨0,0⟩) hb h4 om;refine ⟨(hF.sq (pushQ_mem h0 hF.q)).ss,rfl,rfl,?_,g2,g3.trans hc,by dsimp only;omega⟩;intro r;have:=(cQ_pushQ (a:=(⟨job,t⟩:Ref)) (r:=r) hb h4 om).1;unfold cnt;dsimp only;omega)
  obtain ⟨a1,a2,a3,a4,a5,a6,a7⟩:=h1
  obtain ⟨b1,b2,b3⟩:=ih a1 (by rw [a3];exact hx) a5 a6 om (by rw [a2];exact fun t ht=>hr t (List.mem_cons_of_mem _ ht))
  have a0:spillF F x job band (t::l)=spillF (spill1 F x ⟨job,t⟩ band) x job band l:=by unfold spillF;rw [List.foldl_cons]
  rw [a0]
  refine ⟨?_,b2,b3⟩
  intro r
  rw [b1,a4,List.map_cons]
  have:List.count r ((⟨job,t⟩:Ref)::l.map fun t=>(⟨job,t⟩:Ref))=List.count r [(⟨job,t⟩:Ref)]+List.count r (l.map fun t=>(⟨job,t⟩:Ref)):=by rw [<-List.count_append];rfl
  rw [this,count1_];omega
theorem com_eq {B:BS} {i a:Int} (h:heldC B i a=0):comB B i a=(⟨B.deps,markB (B.st.set i.toNat 4) B.deps,B.att⟩,rdyB (B.st.set i.toNat 4) B.deps):=by unfold comB;rw [if_pos h]
theorem com_two {B:BS} {i z:Int} (hl:B.st.length=B.deps.length) (hi:stAt B.st i=3):
  (if stAt (markB (B.st.set i.toNat 4) B.deps) z=2 then 1 else 0)=(if stAt B.st z=2 then 1 else 0)+(rdyB (B.st.set i.toNat 4) B.deps).count z:=by
 have a0:=stAt_in hi (by decide)
 rw [mark_at (by rw [List.length_set];exact hl),count_rdy]
 by_cases h:0<=z/\z<(B.deps.length:Int)/\condB (B.st.set i.toNat 4) B.deps z.toNat=true
 · exact (by rw [if_pos h,if_pos h];have h1:=cond_one h.1 h.2.2;have h2:z≠i:=(by intro k;subst k;rw [stAt_self a0] at h1;omega);rw [stAt_other a0.1 h2] at h1;rw [if_pos rfl,if_neg om])
 ·rw [if_neg h,if_neg h]
  by_cases h2:z=i
  ·subst h2;rw [stAt_self a0,hi];rfl
  ·rw [stAt_other a0.1 h2];rfl
theorem com_held {B:BS} {i a t b:Int} (hl:B.st.length=B.deps.length) (h:heldC B i a=0) (ht:heldC B t b=0) (hne:t≠i):heldC (comB B i a).1 t b=0:=by
  rw [com_eq h]
  have hi:=(heldC_zero h).2.1
  have h3:=(heldC_zero ht).2.1
  have a0:=stAt_in hi (by decide)
  refine heldC_keep ht rfl ?_ rfl
  dsimp only
  rw [mark_at (by rw [List.length_set];exact hl),if_neg,stAt_other a0.1 hne]
  intro k
  have h1:=cond_one k.1 k.2.2
  rw [stAt_other a0.1 hne,h3] at h1;omega
theorem filter_allX {s:List Int} (h:(s.filter fun x=>decide (x=4)).length=s.length):∀x∈s,x=4:=by
  induction s with
  |nil=>intro x hx;cases hx
  |cons y s ih=>
    have h1:=List.length_filter_le (fun x:Int=>decide (x=4)) s
    rw [List.filter_cons] at h
    split at h
    · rename_i h2
      intro x hx
      rcases List.mem_cons.1 hx with rfl|hx
      · simpa using h2
      · exact ih (by simpa using h) x hx
    · rw [List.length_cons] at h;omega
theorem done_none {B:BS} {K:Int} (hW:BWf B K) (hd:doneOf B=(B.deps.length:Int)) (z:Int):stAt B.st z≠2:=by
  intro h
  have a0:=hW.ls
  unfold doneOf at hd
  have h4:=filter_allX (s:=B.st) (by omega)
  have h1:=stAt_in h (by decide)
  rw [stAt_nat _ h1.1] at h
  have:=h4 _ (getD_mem (s:=B.st) (q:=z.toNat) (by omega));omega
theorem toNat_dec {b:Bool} {p:Prop} [Decidable p]:(b&&decide p).toNat=if b=true then (if p then 1 else 0) else 0:=by
  cases b<;>by_cases h:p<;>simp [h]
theorem spill_cfg {x job band:Int}:∀(l:List Int) {F:FS},(spillF F x job band l).cfg=F.cfg
  |[],_=>rfl
  |t::l,F=>by
    have h:(spill1 F x ⟨job,t⟩ band).cfg=F.cfg:=by unfold spill1;split<;>rfl
    exact (spill_cfg l).trans h
theorem inv_micro {F:FS} {K x:Int} {v:Wkr} {j:JS} (hF:FW F K) (hK:K+1<=4096) (q:QI F) (h:HI F) (hx:0<=x/\x<(F.ws.length:Int)) (hv:F.ws[x.toNat]?=some v) (hh:Holds v) (hj:F.jobs[v.heldJob.toNat]?=some j) (hrun:j.running=true):
  QI (microF F x).1/\HI (microF F x).1:=by
 have hw:=hF.w v (List.mem_of_getElem? hv)
 obtain ⟨j2,c1,c2,c3⟩:=h.h _ v hv hh
 rw [hj] at c1;obtain rfl:=Option.some.inj c1
 have hJ:=hF.j j (List.mem_of_getElem? hj)
 obtain ⟨hW,hd,hb⟩:=hJ.b c2
 have e:jobAt F v.heldJob=j:=getD_some hj
 have i0:=fun k (hk:Holds v)=>h.h k v
 unfold microF
 simp only [getD_some hv,e]
 by_cases p1:v.phase=1
 · exact (by rw [if_pos p1];refine ⟨⟨q.c,q.q4,q.cap,q.ld⟩,h.upd (x:=x.toNat) rfl h.same (fun _=>⟨⟨j,hj,c2,c3⟩,?_⟩) (fun k=>absurd (.inr (.inl rfl)) k)⟩;intro y u hy hu b0 k;exact h.d _ _ v u hv hu hy hh b0 ⟨k.1.symm,k.2.symm⟩)
 ·rw [if_neg p1]
  by_cases p2:v.phase=2
  · exact (by rw [if_pos p2];refine ⟨⟨q.c,q.q4,q.cap,q.ld⟩,h.upd (x:=x.toNat) rfl h.same (fun _=>⟨⟨j,hj,c2,c3⟩,?_⟩) (fun k=>absurd (by unfold Holds;dsimp only;split<;>omega) k)⟩;intro y u hy hu b0 k;exact h.d _ _ v u hv hu hy hh b0 ⟨k.1.symm,k.2.symm⟩)
  ·rw [if_neg p2]
   have hz:=heldC_zero c3
   have hm:=hF.mono (L:=K+1) om hK
   have k2:=hw.h
   have hO:JobOk (K+1) {j with B:=(comB j.B v.heldTask v.attempt).1}:=⟨hJ.n,fun _=>⟨(com_wf hW).mono om,by rw [com_deps];exact hd,hb⟩,fun _=>c2⟩
   have f0:=(((hm.sj (k:=v.heldJob.toNat) (j':={j with B:=(comB j.B v.heldTask v.attempt).1}) hj rfl rfl hO).sa (k:=x.toNat) (a:=relA (F.ar.getD x.toNat default))).sw (k:=x.toNat) (v:=⟨0,0,0,0,0,0,(relA (F.ar.getD x.toNat default)).high⟩) ⟨⟨Int.le_refl 0,show (0:Int)<64 by decide⟩,⟨Int.le_refl 0,hm.k.1⟩,fun h=>by dsimp only at h;omega⟩).ss (s:={F.st with commits:=F.st.commits+1})
   have j0:=shape_set (j':={j with B:=(comB j.B v.heldTask v.attempt).1}) hj rfl rfl
   have m0:=q.small hF
   have l0:=com_len (B:=j.B) (i:=v.heldTask) (a:=v.attempt)
   have hr:=hw.t hh
   have c0:∀t∈(comB j.B v.heldTask v.attempt).2,RefOk (shapeF (F.jobs.set v.heldJob.toNat {j with B:=(comB j.B v.heldTask v.attempt).1})) ⟨v.heldJob,t⟩:=(by intro t ht2;have h3:=com_in ht2;rw [j0];obtain ⟨_,_,_,m,d0,_⟩:=hr;refine ⟨k2.1,k2.2,h3.1,m,d0,?_⟩;unfold shapeF at d0;rw [List.getElem?_map,hj] at d0;have:=(Prod.mk.inj (Option.some.inj d0)).2;dsimp only at this⊢;omega)
   have g0:=(List.getElem?_eq_some_iff.1 hj).1
   have a0:∀r,cnt F r+((comB j.B v.heldTask v.attempt).2.map fun t=>(⟨v.heldJob,t⟩:Ref)).count r=if r.job=v.heldJob then (if stAt (comB j.B v.heldTask v.attempt).1.st r.task=2 then 1 else 0) else (rdyJ F.jobs r).toNat:=by
    intro r
    rw [q.c r,cmap]
    by_cases e1:r.job=v.heldJob
    · exact (by rw [if_pos e1,if_pos e1,rdy_at om (by rw [e1];exact hj),toNat_dec,if_pos hrun,com_eq c3];exact (com_two hW.ls hz.2.1).symm)
    ·rw [if_neg e1,if_neg e1,Nat.add_zero]
   have e0:totB F.q.bs+(((comB j.B v.heldTask v.attempt).2.length:Nat):Int)<=F.cfg.tasks:=by
    have h1:((F.q.bs.flatten++(comB j.B v.heldTask v.attempt).2.map fun t=>(⟨v.heldJob,t⟩:Ref)).length:Int)<=loadL F.jobs:=by
     refine few_run (fun r=>?_) (fun r hr=>?_)
     ·rw [List.count_append,flat_q]
      have h2:=a0 r
      have h3:(rdyJ F.jobs r).toNat<=1:=by cases rdyJ F.jobs r<;>simp
      unfold cnt at h2
      split at h2
      ·split at h2<;>omega
      ·omega
     ·rcases List.mem_append.1 hr with hr|hr
      · exact (by have:=List.count_pos_iff.2 hr;rw [flat_q] at this;exact rdy_run hF (q.rdy (by unfold cnt;omega)))
      · exact (by obtain ⟨t,ht,rfl⟩:=List.mem_map.1 hr;have h3:=com_in ht;rw [hd] at h3;exact ⟨k2.1,j,hj,hrun,h3⟩)
    rw [List.length_append,List.length_map] at h1
    have:=q.ld
    rw [tot_flat];omega
   obtain ⟨g1,g2,g3⟩:=spill_cnt (x:=x) (job:=v.heldJob) hb (comB j.B v.heldTask v.attempt).2 f0 (by simp only [List.length_set];exact hx) q.q4 q.cap e0 c0
   obtain ⟨_,s2,s3,_,_⟩:=spill_ok (x:=x) (job:=v.heldJob) (band:=j.band) (comB j.B v.heldTask v.attempt).2 f0 c0
   have hH:∀F':FS,F'.ws=F.ws.set x.toNat ⟨0,0,0,0,0,0,(relA (F.ar.getD x.toNat default)).high⟩->(∃j',F'.jobs=F.jobs.set v.heldJob.toNat j'/\j'.added=true/\j'.B=(comB j.B v.heldTask v.attempt).1)->HI F':=(by rintro F' hw' ⟨j',hj',ha',hB'⟩;refine h.upd (x:=x.toNat) hw' ?_ (fun k=>by unfold Holds at k;dsimp only at k;omega) (fun _=>⟨rfl,rfl,rfl,rfl, .inl rfl⟩);refine h.others hj hj' (fun _=>ha') fun y u hy hu b0 hk k0=>?_;rw [hB'];have h0:u.heldTask≠v.heldTask:=(by intro k;have:=hF.w u (List.mem_of_getElem? hu);exact h.d _ _ v u hv hu hy hh b0 ⟨by have:=this.h;omega,k.symm⟩);exact com_held hW.ls c3 k0 h0)
   split
   ·rename_i hdone
    refine ⟨⟨?_,g2,?_,?_⟩,hH _ s3 ⟨_,rfl,c2,rfl⟩⟩
    rotate_left
    · exact (by rw [g3];try dsimp only;rw [spill_cfg])
    · exact (by show loadL (F.jobs.set v.heldJob.toNat _)<=(spillF _ x v.heldJob j.band (comB j.B v.heldTask v.attempt).2).cfg.tasks;rw [spill_cfg];exact Int.le_trans (load_set hj rfl (fun h=>by cases h)) q.ld)
    intro r
    show cnt (spillF _ x v.heldJob j.band (comB j.B v.heldTask v.attempt).2) r=(rdyJ (F.jobs.set v.heldJob.toNat _) r).toNat
    rw [g1 r,rdy_set k2.1 g0]
    show cnt F r+_=_
    rw [a0 r]
    by_cases e1:r.job=v.heldJob
    ·rw [if_pos e1,if_pos e1,if_neg (done_none (com_wf hW) (by rw [com_deps,hd];exact hdone) _)];rfl
    ·rw [if_neg e1,if_neg e1]
   ·refine ⟨⟨?_,g2,?_,?_⟩,hH _ s3 ⟨_,s2,c2,rfl⟩⟩
    rotate_left
    · exact (by rw [g3];try dsimp only;rw [spill_cfg])
    ·rw [s2,spill_cfg];exact Int.le_trans (load_set hj rfl (fun h=>h)) q.ld
    intro r
    rw [g1 r,s2,rdy_set k2.1 g0]
    show cnt F r+_=_
    rw [a0 r]
    by_cases e1:r.job=v.heldJob
    · exact (by rw [if_pos e1,if_pos e1];dsimp only;rw [toNat_dec,if_pos hrun])
    ·rw [if_neg e1,if_neg e1]
theorem inv_drop {F:FS} {x ph:Int} {s:Stt} (q:QI F) (h:HI F) (hp:ph=0\/ph=4):QI (clearF F x ph s)/\HI (clearF F x ph s):=by
  refine ⟨⟨q.c,q.q4,q.cap,q.ld⟩,h.upd (x:=x.toNat) (v':=⟨ph,0,0,0,0,0,(arAt F x).high⟩) rfl h.same (fun k=>by unfold Holds at k;dsimp only at k;omega) (fun _=>⟨rfl,rfl,rfl,rfl,hp⟩)⟩
theorem cD_ge:∀{l:List DS} {k:Nat} {d:DS} {r:Ref},l[k]?=some d->d.l.count r<=cDq l r
  |[],_,_,_,h=>by cases h
  |x::l,0,d,r,h=>by
    obtain rfl:x=d:=by simpa using h
    simp only [cDq,List.map_cons,List.sum_cons];omega
  |x::l,k+1,d,r,h=>by
    have ih:=cD_ge (l:=l) (k:=k) (d:=d) (r:=r) (by simpa using h)
    simp only [cDq,List.map_cons,List.sum_cons] at ih⊢;omega
theorem drain_cnt {jobs:List JS} {C:Int} (l:List Ref):∀{q:QS},q.bs.length=4->q.cap=C->totB q.bs+l.length<=C->(∀r∈l,0<=(jobs.getD r.job.toNat default).band/\(jobs.getD r.job.toNat default).band<4)->
  (∀r,cQ (drainQ jobs q l).bs r=cQ q.bs r+l.count r)/\(drainQ jobs q l).bs.length=4/\(drainQ jobs q l).cap=C:=by
 induction l with
 |nil=>intro q h4 hc _ _;exact ⟨fun r=>by simp only [drainQ,List.foldl_nil,List.count_nil,Nat.add_zero],h4,hc⟩
 |cons t l ih=>
  intro q h4 hc ht hb
  simp only [List.length_cons] at ht
  have a0:=hb t List.mem_cons_self
  have h1:=fun r=>cQ_pushQ (a:=t) (r:=r) a0 h4 om
  have e:drainQ jobs q (t::l)=drainQ jobs (pushQ q t (jobs.getD t.job.toNat default).band) l:=by unfold drainQ;rw [List.foldl_cons];rfl
  rw [e]
  obtain ⟨b1,b2,b3⟩:=ih (q:=pushQ q t (jobs.getD t.job.toNat default).band) (h1 t).2.1 ((h1 t).2.2.1.trans hc) (by have:=(h1 t).2.2.2;omega) (fun r hr=>hb r (List.mem_cons_of_mem _ hr))
  refine ⟨?_,b2,b3⟩
  intro r
  rw [b1,(h1 r).1]
  have:List.count r (t::l)=List.count r [t]+List.count r l:=by rw [<-List.count_append];rfl
  rw [this,count1_];omega
theorem idx_le {y:Int}:∀{s:List Int} {k:Nat},(idxOf y k s).length<=s.length
  |[],_=>Nat.le_refl _
  |x::s,k=>by
    have:=idx_le (y:=y) (s:=s) (k:=k+1)
    simp only [idxOf,List.length_append,List.length_cons]
    split<;>simp<;>omega
theorem ready_cnt {x bd C:Int} (hb:0<=bd/\bd<4) (l:List Int):∀{q:QS},q.bs.length=4->q.cap=C->totB q.bs+l.length<=C->
  (∀r,cQ (readyQ x bd q l).bs r=cQ q.bs r+(l.map fun t=>(⟨x,t⟩:Ref)).count r)/\(readyQ x bd q l).bs.length=4/\(readyQ x bd q l).cap=C:=by
 induction l with
 |nil=>intro q h4 hc _;exact ⟨fun r=>by simp only [readyQ,List.foldl_nil,List.map_nil,List.count_nil,Nat.add_zero],h4,hc⟩
 |cons t l ih=>
  intro q h4 hc ht
  simp only [List.length_cons] at ht
  have h1:=fun r=>cQ_pushQ (a:=(⟨x,t⟩:Ref)) (r:=r) hb h4 om
  have e:readyQ x bd q (t::l)=readyQ x bd (pushQ q ⟨x,t⟩ bd) l:=by unfold readyQ;rw [List.foldl_cons]
  rw [e]
  obtain ⟨b1,b2,b3⟩:=ih (q:=pushQ q ⟨x,t⟩ bd) (h1 ⟨x,t⟩).2.1 ((h1 ⟨x,t⟩).2.2.1.trans hc) (by have:=(h1 ⟨x,t⟩).2.2.2;omega)
  refine ⟨?_,b2,b3⟩
  intro r
  rw [b1,(h1 r).1,List.map_cons]
  have:List.count r ((⟨x,t⟩:Ref)::l.map fun t=>(⟨x,t⟩:Ref))=List.count r [(⟨x,t⟩:Ref)]+List.count r (l.map fun t=>(⟨x,t⟩:Ref)):=by rw [<-List.count_append];rfl
  rw [this,count1_];omega
theorem ret_eq {B:BS} {i a:Int} (h:heldC B i a=0):retB B i a=⟨B.deps,B.st.set i.toNat 2,B.att.set i.toNat (a+1)⟩:=by unfold retB;rw [if_pos h]
theorem ret_held {B:BS} {i a t b:Int} (h:heldC B i a=0) (ht:heldC B t b=0) (hne:t≠i):heldC (retB B i a) t b=0:=by
  rw [ret_eq h]
  have hi:=heldC_zero h
  have h3:=heldC_zero ht
  have a0:0<=i:=hi.1.1
  have b0:0<=t:=h3.1.1
  exact heldC_keep ht rfl (stAt_other a0 hne)<|(by dsimp only;rw [getD_set,if_neg (by omega)])
theorem retJ_no {F:FS} {v:Wkr} (h:busyW F v=false):retJ F v=F:=by unfold retJ;rw [if_neg (by rw [h];decide)]
theorem inv_crash {F:FS} {K x:Int} {v:Wkr} (hF:FW F K) (q:QI F) (h:HI F) (hx:0<=x/\x<(F.ws.length:Int)) (hv:F.ws[x.toNat]?=some v):
  QI (crashW (retJ F v) x)/\HI (crashW (retJ F v) x):=by
 have hd:=dq_some hF hx
 have k0:=q.cap
 have s0:=q.ld
 have o0:totB F.q.bs+(dqAt F x).l.length<=F.cfg.tasks:=by
  have h1:=q.few hF (L:=F.q.bs.flatten++(dqAt F x).l) (fun r=>by
   rw [List.count_append,flat_q]
   have:=cD_ge (r:=r) hd
   unfold cnt;omega)
  rw [List.length_append] at h1
  rw [tot_flat];omega
 have b0:∀r∈(dqAt F x).l,0<=(F.jobs.getD r.job.toNat default).band/\(F.jobs.getD r.job.toNat default).band<4:=(by intro r hr;obtain ⟨j,hj,_,_,_,b1,b2,_,_⟩:=hF.job (hF.dr x r hr);rw [getD_some hj];exact ⟨b1,b2⟩)
 cases hb:busyW F v with
 |false=>
  rw [retJ_no hb]
  obtain ⟨d1,d2,d3⟩:=drain_cnt (jobs:=F.jobs) (dqAt F x).l q.q4 q.cap om b0
  refine ⟨⟨?_,d2,d3,q.ld⟩,h.upd (x:=x.toNat) (v':=⟨4,0,0,0,0,0,(arAt F x).high⟩) rfl h.same (fun k=>by unfold Holds at k;dsimp only at k;omega) (fun _=>⟨rfl,rfl,rfl,rfl, .inr rfl⟩)⟩
  intro r
  rw [<-show rdyJ F.jobs r=rdyJ (crashW F x).jobs r from rfl,<-q.c r]
  have h1:=cnt_dq (d':=⟨(dqAt F x).cap,[]⟩) (r:=r) hd
  have h2:=d1 r
  show cDq (F.dq.set x.toNat ⟨(dqAt F x).cap,[]⟩) r+cQ (drainQ F.jobs F.q (dqAt F x).l).bs r=cnt F r
  unfold cnt at h1⊢;simp only [List.count_nil] at h1;omega
 |true=>
  unfold busyW at hb
  obtain ⟨f0,d0⟩:=(Bool.and_eq_true _ _).mp hb
  have hh:Holds v:=(of_decide_eq_true f0:v.phase=1\/v.phase=2\/v.phase=3)
  have hw:=hF.w v (List.mem_of_getElem? hv)
  obtain ⟨j,hj,ha,hz⟩:=h.h _ v hv hh
  have a0:j.running=true:=by unfold jobAt at d0;rw [getD_some hj] at d0;exact d0
  have e:jobAt F v.heldJob=j:=getD_some hj
  have hJ:=hF.j j (List.mem_of_getElem? hj)
  obtain ⟨hW,l0,g0⟩:=hJ.b ha
  have eR:retJ F v={F with jobs:=F.jobs.set v.heldJob.toNat {j with B:=retB j.B v.heldTask v.attempt},q:=pushQ F.q ⟨v.heldJob,v.heldTask⟩ j.band}:=(by unfold retJ;rw [if_pos (by unfold busyW;rw [f0,d0];rfl),e])
  have e0:=heldC_zero hz
  have i0:=stAt_in e0.2.1 (by decide)
  have p0:=(List.getElem?_eq_some_iff.1 hj).1
  have k2:=hw.h
  have j0:totB F.q.bs+(dqAt F x).l.length+1<=F.cfg.tasks:=by
   have h1:((F.q.bs.flatten++(dqAt F x).l++[(⟨v.heldJob,v.heldTask⟩:Ref)]).length:Int)<=loadL F.jobs:=by
    refine few_run (fun r=>?_) (fun r hr=>?_)
    ·rw [List.count_append,List.count_append,flat_q,count1_]
     have h2:=cD_ge (r:=r) hd
     have h3:=q.one r
     have h4:=q.c r
     unfold cnt at h3 h4
     unfold eq1
     split
     · exact (by rename_i e1;rw [<-e1,rdy_at (r:=⟨v.heldJob,v.heldTask⟩) k2.1 hj,a0,e0.2.1] at h4;rw [<-e1] at h2 h3⊢;simp at h4;omega)
     ·omega
    ·rcases List.mem_append.1 hr with hr|hr
     · exact (by have:=List.count_pos_iff.2 hr;rw [List.count_append,flat_q] at this;have h2:=cD_ge (r:=r) hd;exact rdy_run hF (q.rdy (by unfold cnt;omega)))
     · exact (by obtain rfl:=List.mem_singleton.1 hr;have n0:stAt j.B.st v.heldTask=3:=e0.2.1;have h0:=stAt_in n0 (by decide);rw [hW.ls,l0] at h0;exact ⟨k2.1,j,hj,a0,h0⟩)
   rw [List.length_append,List.length_append,List.length_singleton] at h1
   rw [tot_flat];omega
  have p:=fun r=>cQ_pushQ (a:=(⟨v.heldJob,v.heldTask⟩:Ref)) (r:=r) g0 q.q4 om
  have c0:∀r∈(dqAt F x).l,0<=((F.jobs.set v.heldJob.toNat {j with B:=retB j.B v.heldTask v.attempt}).getD r.job.toNat default).band/\((F.jobs.set v.heldJob.toNat {j with B:=retB j.B v.heldTask v.attempt}).getD r.job.toNat default).band<4:=by
   intro r hr
   by_cases e1:v.heldJob.toNat=r.job.toNat
   ·rw [<-e1,getD_some (set_at hj)];exact g0
   · exact (by have h1:=b0 r hr;rw [List.getD_eq_getElem?_getD] at h1⊢;rw [List.getElem?_set,if_neg e1];exact h1)
  obtain ⟨d1,d2,d3⟩:=drain_cnt (jobs:=F.jobs.set v.heldJob.toNat {j with B:=retB j.B v.heldTask v.attempt}) (dqAt F x).l (p ⟨0,0⟩).2.1 ((p ⟨0,0⟩).2.2.1.trans q.cap) (by have:=(p ⟨0,0⟩).2.2.2;omega) c0
  rw [eR]
  refine ⟨⟨?_,d2,d3,Int.le_trans (load_set hj rfl (fun h=>h)) q.ld⟩,h.upd (x:=x.toNat) (v':=⟨4,0,0,0,0,0,(arAt F x).high⟩) rfl ?_ (fun k=>by unfold Holds at k;dsimp only at k;omega) (fun _=>⟨rfl,rfl,rfl,rfl, .inr rfl⟩)⟩
  ·intro r
   show cDq (F.dq.set x.toNat ⟨(dqAt F x).cap,[]⟩) r+cQ (drainQ (F.jobs.set v.heldJob.toNat {j with B:=retB j.B v.heldTask v.attempt}) (pushQ F.q ⟨v.heldJob,v.heldTask⟩ j.band) (dqAt F x).l).bs r=(rdyJ (F.jobs.set v.heldJob.toNat {j with B:=retB j.B v.heldTask v.attempt}) r).toNat
   rw [rdy_set k2.1 p0]
   have h1:=cnt_dq (d':=⟨(dqAt F x).cap,[]⟩) (r:=r) hd
   have h2:=d1 r
   have h3:=(p r).1
   have h4:=q.c r
   unfold cnt at h1 h4;simp only [List.count_nil] at h1
   by_cases e1:r.job=v.heldJob
   ·rw [if_pos e1]
    dsimp only
    rw [toNat_dec,if_pos a0,show (retB j.B v.heldTask v.attempt).st=j.B.st.set v.heldTask.toNat 2 by rw [ret_eq hz]]
    rw [rdy_at om (by rw [e1];exact hj),toNat_dec,if_pos a0] at h4
    by_cases e2:r.task=v.heldTask
    · exact (by rw [e2,stAt_self i0,if_pos rfl];rw [e2,e0.2.1] at h4;have e3:eq1 ⟨v.heldJob,v.heldTask⟩ r=1:=(by unfold eq1;rw [if_pos (ref_ext e1.symm e2.symm)]);simp at h4;omega)
    · exact (by rw [stAt_other i0.1 e2];have e3:eq1 ⟨v.heldJob,v.heldTask⟩ r=0:=(by unfold eq1;rw [if_neg (fun k=>e2 (by rw [<-k]))]);omega)
   · exact (by rw [if_neg e1];have e3:eq1 ⟨v.heldJob,v.heldTask⟩ r=0:=(by unfold eq1;rw [if_neg (fun k=>e1 (by rw [<-k]))]);omega)
  ·exact h.others hj (j':={j with B:=retB j.B v.heldTask v.attempt}) rfl (fun h=>h) fun y u hy hu m0 hk r0=>(by have q0:u.heldTask≠v.heldTask:=(by intro k;have:=hF.w u (List.mem_of_getElem? hu);exact h.d _ _ v u hv hu hy hh m0 ⟨by have:=this.h;omega,k.symm⟩);exact ret_held hz r0 q0)
theorem cD_rm {k : Int} {r : Ref} : ∀ {l : List DS}, cDq (l.map (rmD k)) r = if r.job = k then 0 else cDq l r
  | [] => by split <;> rfl
  | d :: l => by
    have ih := cD_rm (k := k) (r := r) (l := l)
    simp only [cDq, List.map_cons, List.sum_cons] at ih ⊢
    rw [ih]
    have h1 : (rmD k d).l.count r = if r.job = k then 0 else d.l.count r := by
      unfold rmD without
      by_cases e : r.job = k
      · rw [if_pos e, List.count_eq_zero]
        intro h; have := (List.mem_filter.1 h).2; simp [e] at this
      · rw [if_neg e, List.count_filter (by simpa using e)]
    rw [h1]; split <;> omega
theorem cQ_rm {k : Int} {r : Ref} : ∀ {l : List (List Ref)}, cQ (l.map (without k)) r = if r.job = k then 0 else cQ l r
  | [] => by split <;> rfl
  | d :: l => by
    have ih := cQ_rm (k := k) (r := r) (l := l)
    simp only [cQ, List.map_cons, List.sum_cons] at ih ⊢
    rw [ih]
    have h1 : (without k d).count r = if r.job = k then 0 else d.count r := by
      unfold without
      by_cases e : r.job = k
      · rw [if_pos e, List.count_eq_zero]
        intro h; have := (List.mem_filter.1 h).2; simp [e] at this
      · rw [if_neg e, List.count_filter (by simpa using e)]
    rw [h1]; split <;> omega
theorem HI.jb {F F':FS} (h:HI F) (hw:F'.ws=F.ws) (ha:∀(y:Nat) v,F.ws.length≠y->F.ws[y]?=some v->Holds v->∃j,F'.jobs[v.heldJob.toNat]?=some j/\j.added=true/\heldC j.B v.heldTask v.attempt=0):HI F':=
  ⟨fun y v hy hv=>by rw [hw] at hy;exact ha y v (by have:=(List.getElem?_eq_some_iff.1 hy).1;omega) hy hv,by rw [hw];exact h.d,by rw [hw];exact h.z⟩
theorem inv_cancel {F:FS} {k:Int} {j:JS} (q:QI F) (h:HI F) (hk:0<=k) (hj:F.jobs[k.toNat]?=some j):QI (cancelW F k)/\HI (cancelW F k):=by
 have e:jobAt F k=j:=getD_some hj
 have hl:=(List.getElem?_eq_some_iff.1 hj).1
 refine ⟨⟨?_,by simp only [cancelW,List.length_map];exact q.q4,q.cap,Int.le_trans (load_set hj (by rw [e]) (fun h=>by cases h)) q.ld⟩,h.jb rfl ?_⟩
 ·intro r
  show cDq (F.dq.map (rmD k)) r+cQ (F.q.bs.map (without k)) r=(rdyJ (F.jobs.set k.toNat _) r).toNat
  rw [cD_rm,cQ_rm,rdy_set hk hl]
  by_cases e1:r.job=k
  ·rw [if_pos e1,if_pos e1,if_pos e1];rfl
  ·rw [if_neg e1,if_neg e1,if_neg e1];exact q.c r
 ·refine h.others hj (j':={j with running:=false}) (by unfold cancelW;rw [e]) (fun h=>h) (fun y v _ _ _ _ hz=>hz)
theorem inv_add {F:FS} {K x bd:Int} {l:List Task} {j:JS} (hF:FW F K) (q:QI F) (h:HI F) (htk:(l.length:Int)<=F.cfg.tasks-loadL F.jobs) (hx:0<=x) (hb:0<=bd/\bd<4) (hj:F.jobs[x.toNat]?=some j) (ha:j.added=false):QI (addF F x l bd)/\HI (addF F x l bd):=by
 have hl:=(List.getElem?_eq_some_iff.1 hj).1
 have c0:=q.small hF
 have h3:=idx_le (y:=2) (s:=(newB l).st) (k:=0)
 have h4:(newB l).st.length=l.length:=by simp [newB]
 obtain ⟨r1,r2,r3⟩:=ready_cnt (x:=x) hb (idxOf 2 0 (newB l).st) q.q4 q.cap om
 have b0:j.running=false:=by
  cases hr:j.running with
  |false=>rfl
  |true=>have:=(hF.j j (List.mem_of_getElem? hj)).r hr;rw [ha] at this;cases this
 have a0:loadL (F.jobs.set x.toNat (jobN l bd))<=F.cfg.tasks:=(by rw [load_new hj b0];simp only [jobN,List.length_map,if_true];omega)
 refine ⟨⟨?_,r2,r3,a0⟩,h.jb rfl ?_⟩
 ·intro r
  show cDq F.dq r+cQ (readyQ x bd F.q (idxOf 2 0 (newB l).st)).bs r=(rdyJ (F.jobs.set x.toNat (jobN l bd)) r).toNat
  rw [r1,rdy_set hx hl,cmap]
  have h6:=q.c r
  unfold cnt at h6
  by_cases e1:r.job=x
  ·rw [if_pos e1,if_pos e1,toNat_dec,if_pos (show (jobN l bd).running=true from rfl),count_two]
   have hr:j.running=false:=by
    cases hr:j.running with
    |false=>rfl
    |true=>have:=(hF.j j (List.mem_of_getElem? hj)).r hr;rw [ha] at this;cases this
   rw [rdy_at om (by rw [e1];exact hj),hr] at h6
   simp at h6
   show _=if stAt (newB l).st r.task=2 then 1 else 0
   omega
  ·rw [if_neg e1,if_neg e1];omega
 ·intro y v _ hy hv
  obtain ⟨j2,a1,a2,a3⟩:=h.h y v hy hv
  refine ⟨j2,?_,a2,a3⟩
  show (F.jobs.set x.toNat _)[_]?=_
  rw [List.getElem?_set,if_neg]
  ·exact a1
  ·intro k;rw [<-k,hj] at a1;obtain rfl:=Option.some.inj a1;rw [ha] at a2;cases a2
theorem inv_idle {F:FS} {x:Int} (q:QI F) (h:HI F):QI (idleF F x 0)/\HI (idleF F x 0):=
  ⟨⟨q.c,q.q4,q.cap,q.ld⟩,h.upd (x:=x.toNat) (v':=⟨0,0,0,0,0,0,(F.ar.getD x.toNat default).high⟩) rfl h.same (fun k=>by unfold Holds at k;dsimp only at k;omega) (fun _=>⟨rfl,rfl,rfl,rfl, .inl rfl⟩)⟩
theorem inv_new {c : Cfg} (hc : 0 <= c.tasks) : QI (newF c) /\ HI (newF c) := by
  refine ⟨⟨?_, rfl, rfl, by have : loadL (newF c).jobs = 0 := rfl
                            rw [this]; exact hc⟩, ⟨?_, ?_, ?_⟩⟩
  · intro r
    have h1 : rdyJ (newF c).jobs r = false := by
      unfold rdyJ newF
      dsimp only
      have : (List.replicate 64 JS.zero).getD r.job.toNat default = JS.zero := by
        rw [List.getD_eq_getElem?_getD, List.getElem?_replicate]; split <;> rfl
      rw [this]; simp [JS.zero]
    rw [h1]
    have h2 : cDq (newF c).dq r = 0 := by
      unfold cDq newF; simp
    unfold cnt; rw [h2]; simp [newF, cQ]
  · intro x v hv hh
    obtain rfl := rep_at hv
    unfold Holds at hh; dsimp only at hh; omega
  · intro x y v u hv _ _ hh
    obtain rfl := rep_at hv
    unfold Holds at hh; dsimp only at hh; omega
  · intro x v hv _
    obtain rfl := rep_at hv
    exact ⟨rfl, rfl, rfl, rfl, .inl rfl⟩
end Go.Proofs.YtkadmghedmodbaaGreat
