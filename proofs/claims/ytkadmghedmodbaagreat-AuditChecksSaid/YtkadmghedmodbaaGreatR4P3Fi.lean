import Derived.Laws.IdiomRangeMap
import Derived.Test.YtkadmghedmodbaaGreatR4P3Bd3
set_option linter.all false
namespace Go.Proofs.YtkadmghedmodbaaGreat
open Go Go.E Go.Proofs.Tryz
set_option linter.all false
set_option maxRecDepth 100000
set_option maxHeartbeats 2000000
variable {W w:World} {H:Chunk} {F:List Chunk}
theorem len_le {L M:List Ref}:(∀r,L.count r<=M.count r)->L.length<=M.length:=by
  induction L generalizing M with
  |nil=>intro _;exact Nat.zero_le _
  |cons x L ih=>
    intro h
    have hx:x∈M:=(by have:=h x;rw [List.count_cons_self] at this;exact List.count_pos_iff.1 (by omega))
    have h1:=ih (M:=M.erase x) (fun r=>by
      have h2:=h r
      rw [List.count_cons] at h2
      rw [List.count_erase]
      split at h2<;>split<;>simp_all<;>omega)
    rw [List.length_erase_of_mem hx] at h1
    have h3:0<M.length:=List.length_pos_of_mem hx
    simp only [List.length_cons];omega
def cDq (l:List DS) (r:Ref):Nat:=(l.map fun d=>d.l.count r).sum
def cQ (bs:List (List Ref)) (r:Ref):Nat:=(bs.map fun l=>l.count r).sum
def eq1 (a b:Ref):Nat:=if a=b then 1 else 0
theorem cD_set:∀{l:List DS} {k:Nat} {d d':DS} {r:Ref},l[k]?=some d->cDq (l.set k d') r+d.l.count r=cDq l r+d'.l.count r
  |[],_,_,_,_,h=>by cases h
  |x::l,0,d,d',r,h=>by
    obtain rfl:x=d:=by simpa using h
    simp only [cDq,List.set_cons_zero,List.map_cons,List.sum_cons];omega
  |x::l,k+1,d,d',r,h=>by
    have ih:=cD_set (l:=l) (k:=k) (d:=d) (d':=d') (r:=r) (by simpa using h)
    simp only [cDq,List.set_cons_succ,List.map_cons,List.sum_cons] at ih⊢;omega
theorem count1_ {a r:Ref}:List.count r [a]=eq1 a r:=by
  unfold eq1
  rw [List.count_cons,List.count_nil]
  by_cases h:a=r<;>simp [h]
theorem cQ_push:∀{bs:List (List Ref)} {b:Nat} {a r:Ref},b<bs.length->cQ (pushB bs b a) r=cQ bs r+eq1 a r
  |[],_,_,_,h=>by simp at h
  |l::t,0,a,r,_=>by simp only [pushB,cQ,List.map_cons,List.sum_cons,List.count_append,count1_];omega
  |l::t,b+1,a,r,h=>by
    have ih:=cQ_push (bs:=t) (b:=b) (a:=a) (r:=r) (by simpa using h)
    simp only [pushB,cQ,List.map_cons,List.sum_cons] at ih⊢;omega
theorem cQ_pop:∀{bs bs':List (List Ref)} {a r:Ref},popB bs=some (a,bs')->cQ bs r=cQ bs' r+eq1 a r
 |[],_,_,_,h=>by cases h
 |[]::t,bs',a,r,h=>by
  unfold popB at h
  cases hp:popB t with
  |none=>rw [hp] at h;cases h
  |some q=>
   rw [hp] at h;obtain ⟨rfl,rfl⟩:=Prod.mk.inj (Option.some.inj h)
   have ih:=cQ_pop (bs:=t) (bs':=q.2) (a:=q.1) (r:=r) hp
   simp only [cQ,List.map_cons,List.sum_cons,List.count_nil] at ih⊢;omega
 |(x::l)::t,bs',a,r,h=>by
  unfold popB at h;obtain ⟨rfl,rfl⟩:=Prod.mk.inj (Option.some.inj h)
  simp only [cQ,List.map_cons,List.sum_cons,List.count_cons,eq1]
  by_cases h:x=r<;>simp [h]<;>omega
theorem push_len:∀{bs:List (List Ref)} {b:Nat} {a:Ref},(pushB bs b a).length=bs.length
  |[],_,_=>rfl
  |_::_,0,_=>rfl
  |l::t,b+1,a=>by simp only [pushB,List.length_cons,push_len (bs:=t)]
theorem push_tot:∀{bs:List (List Ref)} {b:Nat} {a:Ref},b<bs.length->totB (pushB bs b a)=totB bs+1
  |[],_,_,h=>by simp at h
  |l::t,0,a,_=>by simp only [totB,pushB,List.map_cons,List.sum_cons,List.length_append,List.length_singleton];omega
  |l::t,b+1,a,h=>by
    have ih:=push_tot (bs:=t) (b:=b) (a:=a) (by simpa using h)
    simp only [totB,pushB,List.map_cons,List.sum_cons] at ih⊢;omega
theorem pop_len:∀{bs bs':List (List Ref)} {a:Ref},popB bs=some (a,bs')->bs'.length=bs.length
  |[],_,_,h=>by cases h
  |[]::t,bs',a,h=>by
    unfold popB at h
    cases hp:popB t with
    |none=>rw [hp] at h;cases h
    |some q=>rw [hp] at h;obtain ⟨rfl,rfl⟩:=Prod.mk.inj (Option.some.inj h);simp [pop_len (bs:=t) (bs':=q.2) (a:=q.1) hp]
  |(x::l)::t,bs',a,h=>by unfold popB at h;obtain ⟨rfl,rfl⟩:=Prod.mk.inj (Option.some.inj h);rfl
theorem cQ_pushQ {q:QS} {a r:Ref} {b:Int} (hb:0<=b/\b<4) (h4:q.bs.length=4) (hc:totB q.bs<q.cap):cQ (pushQ q a b).bs r=cQ q.bs r+eq1 a r/\(pushQ q a b).bs.length=4/\(pushQ q a b).cap=q.cap/\totB (pushQ q a b).bs=totB q.bs+1:=by
  have h:pushCQ q=0:=by unfold pushCQ;rw [if_neg (by omega)]
  unfold pushQ;rw [if_pos h]
  exact ⟨cQ_push (by omega),by rw [push_len];exact h4,rfl,push_tot (by omega)⟩
def rdyJ (jobs:List JS) (r:Ref):Bool:=decide (0<=r.job)&&((jobs.getD r.job.toNat default).running&&decide (stAt (jobs.getD r.job.toNat default).B.st r.task=2))
def cnt (F:FS) (r:Ref):Nat:=cDq F.dq r+cQ F.q.bs r
def Holds (v:Wkr):Prop:=v.phase=1\/v.phase=2\/v.phase=3
structure QI (F:FS):Prop where
  c:∀r,cnt F r=(rdyJ F.jobs r).toNat
  q4:F.q.bs.length=4
  cap:F.q.cap=F.cfg.tasks
  ld:loadL F.jobs<=F.cfg.tasks
structure HI (F:FS):Prop where
  h:∀(x:Nat) v,F.ws[x]?=some v->Holds v->∃j,F.jobs[v.heldJob.toNat]?=some j/\j.added=true/\heldC j.B v.heldTask v.attempt=0
  d:∀(x y:Nat) v u,F.ws[x]?=some v->F.ws[y]?=some u->x≠y->Holds v->Holds u->¬(v.heldJob=u.heldJob/\v.heldTask=u.heldTask)
  z:∀(x:Nat) v,F.ws[x]?=some v->¬Holds v->v.heldJob=0/\v.heldTask=0/\v.attempt=0/\v.row=0/\(v.phase=0\/v.phase=4)
theorem set_at' {α:Type} {l:List α} {k y:Nat} {x v:α} (h:(l.set k x)[y]?=some v):(k=y/\v=x)\/(k≠y/\l[y]?=some v):=by
  rw [List.getElem?_set] at h
  by_cases e:k=y
  · rw [if_pos e] at h
    split at h
    · exact .inl ⟨e,(Option.some.inj h).symm⟩
    · cases h
  · rw [if_neg e] at h;exact .inr ⟨e,h⟩
theorem HI.upd {F F':FS} (h:HI F) {x:Nat} {v':Wkr} (hw:F'.ws=F.ws.set x v')
  (ha:∀(y:Nat) v,x≠y->F.ws[y]?=some v->Holds v->∃j,F'.jobs[v.heldJob.toNat]?=some j/\j.added=true/\heldC j.B v.heldTask v.attempt=0)
  (hb:Holds v'->(∃j,F'.jobs[v'.heldJob.toNat]?=some j/\j.added=true/\heldC j.B v'.heldTask v'.attempt=0)/\∀(y:Nat) v,x≠y->F.ws[y]?=some v->Holds v->¬(v.heldJob=v'.heldJob/\v.heldTask=v'.heldTask))
  (hc:¬Holds v'->v'.heldJob=0/\v'.heldTask=0/\v'.attempt=0/\v'.row=0/\(v'.phase=0\/v'.phase=4)):HI F':=by
 refine ⟨?_,?_,?_⟩
 ·intro y v hy hv
  rw [hw] at hy
  rcases set_at' hy with ⟨_,rfl⟩|⟨e,hy⟩
  ·exact (hb hv).1
  ·exact ha y v e hy hv
 ·intro y z v u hy hz e hv hu
  rw [hw] at hy hz
  rcases set_at' hy with ⟨e1,e3⟩|⟨e1,b0⟩
  ·rcases set_at' hz with ⟨e2,_⟩|⟨e2,a0⟩
   ·exact absurd (e1.symm.trans e2) e
   ·subst e3;intro k;exact (hb hv).2 z u e2 a0 hu ⟨k.1.symm,k.2.symm⟩
  ·rcases set_at' hz with ⟨e2,e4⟩|⟨e2,a0⟩
   ·subst e4;exact (hb hu).2 y v e1 b0 hv
   ·exact h.d y z v u b0 a0 e hv hu
 ·intro y v hy hv
  rw [hw] at hy
  rcases set_at' hy with ⟨_,rfl⟩|⟨e,hy⟩
  ·exact hc hv
  ·exact h.z y v hy hv
theorem rdy_set {jobs:List JS} {k:Int} {j':JS} {r:Ref} (hk:0<=k) (hl:k.toNat<jobs.length):rdyJ (jobs.set k.toNat j') r=if r.job=k then (j'.running&&decide (stAt j'.B.st r.task=2)) else rdyJ jobs r:=by
  unfold rdyJ
  by_cases e:r.job=k
  · rw [if_pos e,e,getD_some (set_at (y:=j') (List.getElem?_eq_getElem hl)),decide_eq_true hk];rfl
  · rw [if_neg e]
    by_cases h0:0<=r.job
    · have h1:(jobs.set k.toNat j').getD r.job.toNat default=jobs.getD r.job.toNat default:=(by rw [List.getD_eq_getElem?_getD,List.getD_eq_getElem?_getD,List.getElem?_set,if_neg (by omega)])
      rw [h1]
    · rw [decide_eq_false h0];rfl
theorem rdy_at {jobs:List JS} {r:Ref} {j:JS} (h0:0<=r.job) (hj:jobs[r.job.toNat]?=some j):rdyJ jobs r=(j.running&&decide (stAt j.B.st r.task=2)):=by
  unfold rdyJ;rw [getD_some hj,decide_eq_true h0];rfl
theorem rdy_some {jobs:List JS} {r:Ref} (h:rdyJ jobs r=true):0<=r.job/\∃j,jobs[r.job.toNat]?=some j/\j.running=true/\stAt j.B.st r.task=2:=by
  unfold rdyJ at h
  obtain ⟨h1,h2⟩:=(Bool.and_eq_true _ _).mp h
  obtain ⟨h3,h4⟩:=(Bool.and_eq_true _ _).mp h2
  refine ⟨of_decide_eq_true h1,?_⟩
  cases hj:jobs[r.job.toNat]? with
  |none=>
    rw [List.getD_eq_getElem?_getD,hj] at h3
    cases h3
  |some j=>rw [getD_some hj] at h3 h4;exact ⟨j,rfl,h3,of_decide_eq_true h4⟩
theorem stAt_in {s:List Int} {x y:Int} (h:stAt s x=y) (hy:y≠0):0<=x/\x<(s.length:Int):=by
  unfold stAt at h
  split at h
  · rename_i h0
    refine ⟨h0,?_⟩
    apply Classical.byContradiction
    intro hn
    have:s.getD x.toNat 0=0:=by rw [List.getD_eq_getElem?_getD,List.getElem?_eq_none (by omega)];rfl
    omega
  · omega
theorem count_idx {y z:Int}:∀{s:List Int} {k:Nat},(idxOf y k s).count z=if (k:Int)<=z/\z<((k+s.length:Nat):Int)/\s.getD (z-k).toNat 0=y then 1 else 0
  |[],k=>by rw [if_neg (by simp only [List.length_nil];omega)];rfl
  |x::s,k=>by
    have ih:=count_idx (y:=y) (z:=z) (s:=s) (k:=k+1)
    simp only [idxOf,List.count_append,ih,List.length_cons]
    by_cases hz:z=(k:Int)
    · have h1:(z-(k:Int)).toNat=0:=by omega
      rw [if_neg (show ¬(((k+1:Nat):Int)<=z/\_) from fun h=>by omega)]
      by_cases hx:x=y
      · rw [if_pos hx,if_pos ⟨by omega,by omega,by rw [h1];exact hx⟩,hz];simp
      · rw [if_neg hx,if_neg (by rw [h1];exact fun h=>hx h.2.2)];simp
    · have h2:(if x=y then [((k:Nat):Int)] else []).count z=0:=by
        split
        · rw [List.count_cons,List.count_nil];simp;omega
        · rfl
      rw [h2,Nat.zero_add]
      by_cases hk:((k+1:Nat):Int)<=z
      · have h3:(z-(k:Int)).toNat=(z-((k+1:Nat):Int)).toNat+1:=by omega
        rw [h3]
        simp only [List.getD_cons_succ]
        by_cases h4:((k+1:Nat):Int)<=z/\z<((k+1+s.length:Nat):Int)/\s.getD (z-((k+1:Nat):Int)).toNat 0=y
        · rw [if_pos h4,if_pos ⟨by omega,by have:=h4.2.1;omega,h4.2.2⟩]
        · rw [if_neg h4,if_neg (fun h=>h4 ⟨hk,by have:=h.2.1;omega,h.2.2⟩)]
      · rw [if_neg (fun h=>hk h.1),if_neg (fun h=>by omega)]
theorem count_two {s:List Int} {z:Int}:(idxOf 2 0 s).count z=if stAt s z=2 then 1 else 0:=by
  rw [count_idx]
  by_cases h:stAt s z=2
  · exact (by have h1:=stAt_in h (by decide);have h2:s.getD (z-((0:Nat):Int)).toNat 0=2:=(by rw [stAt_nat _ h1.1] at h;simpa using h);rw [if_pos h,if_pos ⟨by omega,by omega,h2⟩])
  · exact (by rw [if_neg h,if_neg];intro k;apply h;rw [stAt_nat _ (by omega)];simpa using k.2.2)
theorem count_fr {p:Nat→Bool} {t:Int}:∀{n:Nat},(((List.range n).filter p).map fun (q:Nat)=>(q:Int)).count t=if 0≤t∧t<(n:Int)∧p t.toNat=true then 1 else 0
  |0=>by rw [if_neg (by omega)];rfl
  |n+1=>by
    rw [List.range_succ,List.filter_append,List.map_append,List.count_append,count_fr (n:=n)]
    by_cases ht:t=(n:Int)
    · have h1:t.toNat=n:=by omega
      rw [if_neg (fun h=>by omega)]
      by_cases hp:p n=true
      · rw [if_pos ⟨by omega,by omega,by rw [h1];exact hp⟩,ht];simp [hp]
      · rw [if_neg (by rw [h1];exact fun h=>hp h.2.2)];simp [hp]
    · have h2:(List.map (fun (q:Nat)=>(q:Int)) (List.filter p [n])).count t=0:=by
        by_cases hp:p n=true
        · simp [hp];rw [List.count_cons,List.count_nil];simp;omega
        · simp [hp]
      rw [h2,Nat.add_zero]
      by_cases h3:0≤t∧t<(n:Int)∧p t.toNat=true
      · rw [if_pos h3,if_pos ⟨h3.1,by omega,h3.2.2⟩]
      · rw [if_neg h3,if_neg (fun h=>h3 ⟨h.1,by omega,h.2.2⟩)]
theorem count_rdy {s:List Int} {D:List (List Int)} {t:Int}:(rdyB s D).count t=if 0<=t/\t<(D.length:Int)/\condB s D t.toNat=true then 1 else 0:=count_fr
theorem mark_at {s:List Int} {D:List (List Int)} {t:Int} (hl:s.length=D.length):stAt (markB s D) t=if 0<=t/\t<(D.length:Int)/\condB s D t.toNat=true then 2 else stAt s t:=by
 by_cases h0:0<=t
 ·rw [stAt_nat _ h0,stAt_nat _ h0]
  by_cases h1:t.toNat<D.length
  ·unfold markB
   rw [getD_range h1]
   by_cases h2:condB s D t.toNat=true
   ·rw [if_pos h2,if_pos ⟨h0,om,h2⟩]
   ·rw [if_neg h2,if_neg (fun h=>h2 h.2.2)]
  ·rw [if_neg (fun h=>h1 om)]
   have h3:(markB s D).length=D.length:=by simp [markB]
   rw [List.getD_eq_getElem?_getD,List.getD_eq_getElem?_getD,List.getElem?_eq_none om,List.getElem?_eq_none om]
 ·rw [if_neg (fun h=>h0 h.1)];unfold stAt;rw [if_neg h0,if_neg h0]
theorem cond_one {s:List Int} {D:List (List Int)} {t:Int} (h0:0<=t) (h:condB s D t.toNat=true):stAt s t=1:=by
  unfold condB at h
  rw [stAt_nat _ h0]
  exact of_decide_eq_true ((Bool.and_eq_true _ _).mp h).1
theorem cmap {job:Int} {r:Ref}:∀{l:List Int},(l.map fun t=>(⟨job,t⟩:Ref)).count r=if r.job=job then l.count r.task else 0
  |[]=>by split<;>rfl
  |t::l=>by
    rw [List.map_cons,List.count_cons,cmap (l:=l),List.count_cons]
    by_cases h1:r.job=job
    · rw [if_pos h1,if_pos h1]
      congr 1
      cases r;simp only at h1;subst h1;simp
    · exact (by rw [if_neg h1,if_neg h1];have h2:((⟨job,t⟩:Ref)==r)=false:=(by rw [beq_eq_false_iff_ne];intro h;exact h1 (by rw [<-h]));rw [h2];rfl)
def runR:Nat->List JS->List Ref
  |_,[]=>[]
  |k,j::l=>(if j.running then (List.range j.tasks.length).map (fun (t:Nat)=>(⟨(k:Int),(t:Int)⟩:Ref)) else [])++runR (k+1) l
theorem loadL_cons {j:JS} {l:List JS}:loadL (j::l)=(if j.running then (j.tasks.length:Int) else 0)+loadL l:=by
  unfold loadL
  cases h:j.running<;>simp [h]
theorem runR_len:∀{l:List JS} {k:Nat},(((runR k l).length:Nat):Int)=loadL l
  |[],_=>rfl
  |j::l,k=>by
    have ih:=runR_len (l:=l) (k:=k+1)
    rw [loadL_cons,<-ih]
    simp only [runR,List.length_append]
    cases j.running<;>simp
theorem runR_mem:∀{l:List JS} {k i:Nat} {j:JS} {t:Int},l[i]?=some j->j.running=true->0<=t->t<(j.tasks.length:Int)->(⟨((k+i:Nat):Int),t⟩:Ref)∈runR k l
 |[],_,_,_,_,h,_,_,_=>by cases h
 |x::l,k,0,j,t,h,ha,h0,h1=>by
  obtain rfl:x=j:=by simpa using h
  unfold runR
  apply List.mem_append_left
  rw [if_pos ha]
  exact List.mem_map.2 ⟨t.toNat,List.mem_range.2 om,by rw [show (t.toNat:Int)=t by omega];rfl⟩
 |x::l,k,i+1,j,t,h,ha,h0,h1=>by
  have ih:=runR_mem (l:=l) (k:=k+1) (i:=i) (j:=j) (t:=t) (by simpa using h) ha h0 h1
  unfold runR
  apply List.mem_append_right
  rw [show k+(i+1)=k+1+i by omega];exact ih
theorem load_set:∀{l:List JS} {k:Nat} {j j':JS},l[k]?=some j->j'.tasks.length=j.tasks.length->(j'.running=true->j.running=true)->loadL (l.set k j')<=loadL l
  |[],_,_,_,h,_,_=>by cases h
  |x::l,0,j,j',h,ht,hr=>by
    obtain rfl:x=j:=by simpa using h
    rw [List.set_cons_zero,loadL_cons,loadL_cons,ht]
    cases h1:j'.running with
    |true=>rw [hr h1];exact Int.le_refl _
    |false=>simp only [Bool.false_eq_true,if_false];split<;>omega
  |x::l,k+1,j,j',h,ht,hr=>by
    have ih:=load_set (l:=l) (k:=k) (j:=j) (j':=j') (by simpa using h) ht hr
    rw [List.set_cons_succ,loadL_cons,loadL_cons];omega
theorem load_new:∀{l:List JS} {k:Nat} {j j':JS},l[k]?=some j->j.running=false->loadL (l.set k j')=loadL l+if j'.running then (j'.tasks.length:Int) else 0
  |[],_,_,_,h,_=>by cases h
  |x::l,0,j,j',h,hr=>by
    obtain rfl:x=j:=by simpa using h
    rw [List.set_cons_zero,loadL_cons,loadL_cons,hr];simp [Int.add_comm]
  |x::l,k+1,j,j',h,hr=>by
    have ih:=load_new (l:=l) (k:=k) (j:=j) (j':=j') (by simpa using h) hr
    rw [List.set_cons_succ,loadL_cons,loadL_cons];omega
theorem few_run {jobs:List JS} {L:List Ref} (h1:∀r,L.count r<=1) (h2:∀r∈L,0<=r.job/\∃j,jobs[r.job.toNat]?=some j/\j.running=true/\0<=r.task/\r.task<(j.tasks.length:Int)):(L.length:Int)<=loadL jobs:=by
 rw [<-runR_len (k:=0)]
 have:L.length<=(runR 0 jobs).length:=by
  apply len_le
  intro r
  by_cases hr:r∈L
  · exact (by obtain ⟨h0,j,hj,a0,b0,c0⟩:=h2 r hr;have hm:=runR_mem (k:=0) (t:=r.task) hj a0 b0 c0;rw [show (⟨((0+r.job.toNat:Nat):Int),r.task⟩:Ref)=r by cases r;simp only at h0⊢;congr 1;omega] at hm;have:=List.count_pos_iff.2 hm;have:=h1 r;omega)
  ·rw [List.count_eq_zero.2 hr];exact Nat.zero_le _
 omega
theorem rdy_run {F:FS} {K:Int} (hF:FW F K) {r:Ref} (h:rdyJ F.jobs r=true):0<=r.job/\∃j,F.jobs[r.job.toNat]?=some j/\j.running=true/\0<=r.task/\r.task<(j.tasks.length:Int):=by
  obtain ⟨h0,j,hj,a0,b0⟩:=rdy_some h
  have hJ:=hF.j j (List.mem_of_getElem? hj)
  obtain ⟨hW,hd,_,_⟩:=hJ.b (hJ.r a0)
  have hi:=stAt_in b0 (by decide)
  rw [hW.ls,hd] at hi
  exact ⟨h0,j,hj,a0,hi.1,hi.2⟩
theorem QI.rdy {F:FS} (h:QI F) {r:Ref} (hr:0<cnt F r):rdyJ F.jobs r=true:=by
  have h1:=h.c r
  cases h2:rdyJ F.jobs r with
  |true=>rfl
  |false=>rw [h2] at h1;simp at h1;omega
theorem QI.one {F:FS} (h:QI F) (r:Ref):cnt F r<=1:=by rw [h.c r];cases rdyJ F.jobs r<;>simp
theorem flat_q {bs:List (List Ref)} {r:Ref}:bs.flatten.count r=cQ bs r:=by rw [List.count_flatten];rfl
theorem tot_flat {bs:List (List Ref)}:totB bs=(bs.flatten.length:Int):=by unfold totB;rw [List.length_flatten]
theorem QI.few {F:FS} {K:Int} (h:QI F) (hF:FW F K) {L:List Ref} (hL:∀r,L.count r<=cnt F r):(L.length:Int)<=loadL F.jobs:=by
  exact few_run (fun r=>Nat.le_trans (hL r) (h.one r)) fun r hr=>(by have:=List.count_pos_iff.2 hr;exact rdy_run hF (h.rdy (by have:=hL r;omega)))
theorem QI.small {F:FS} {K:Int} (h:QI F) (hF:FW F K):totB F.q.bs<=loadL F.jobs:=by
  rw [tot_flat]
  exact h.few hF (fun r=>by rw [flat_q];unfold cnt;omega)
theorem ref_ext {a b:Ref} (h1:a.job=b.job) (h2:a.task=b.task):a=b:=by cases a;cases b;simp only at h1 h2;subst h1;subst h2;rfl
theorem heldC_of {B:BS} {i a:Int} (h1:inB B i) (h2:stAt B.st i=3) (h3:B.att.getD i.toNat 0=a):heldC B i a=0:=by unfold heldC;rw [if_pos h1,if_pos ⟨h2,h3⟩]
theorem heldC_keep {B B':BS} {i a:Int} (h:heldC B i a=0) (hd:B'.deps=B.deps) (hs:stAt B'.st i=stAt B.st i) (ha:B'.att.getD i.toNat 0=B.att.getD i.toNat 0):heldC B' i a=0:=by
  obtain ⟨h1,h2,h3⟩:=heldC_zero h
  exact heldC_of (by unfold inB at*;rw [hd];exact h1) (hs.trans h2) (ha.trans h3)
theorem HI.others {F F':FS} (h:HI F) {x k:Nat} {j j':JS} (hj:F.jobs[k]?=some j) (hjobs:F'.jobs=F.jobs.set k j') (hadd:j.added=true->j'.added=true)
  (hkeep:∀(y:Nat) v,x≠y->F.ws[y]?=some v->Holds v->v.heldJob.toNat=k->heldC j.B v.heldTask v.attempt=0->heldC j'.B v.heldTask v.attempt=0):
  ∀(y:Nat) v,x≠y->F.ws[y]?=some v->Holds v->∃j,F'.jobs[v.heldJob.toNat]?=some j/\j.added=true/\heldC j.B v.heldTask v.attempt=0:=by
 intro y v hx hy hv
 obtain ⟨j2,h1,h2,h3⟩:=h.h y v hy hv
 rw [hjobs,List.getElem?_set]
 by_cases e:k=v.heldJob.toNat
 · exact (by have hl:=(List.getElem?_eq_some_iff.1 hj).1;rw [if_pos e,if_pos hl];rw [<-e,hj] at h1;obtain rfl:=Option.some.inj h1;exact ⟨j',rfl,hadd h2,hkeep y v hx hy hv e.symm h3⟩)
 ·rw [if_neg e];exact ⟨j2,h1,h2,h3⟩
theorem HI.same {F:FS} (h:HI F) {x:Nat}:∀(y:Nat) v,x≠y->F.ws[y]?=some v->Holds v->∃j,F.jobs[v.heldJob.toNat]?=some j/\j.added=true/\heldC j.B v.heldTask v.attempt=0:=fun y v _ hy hv=>h.h y v hy hv
theorem start_eq {B:BS} {t:Int} (hl:B.st.length=B.deps.length) (h:stAt B.st t=2):startB B t=(⟨B.deps,B.st.set t.toNat 3,B.att⟩,B.att.getD t.toNat 0,0):=by
  have h1:=stAt_in h (by decide)
  unfold startB;rw [if_pos (show inB B t from ⟨h1.1,by rw [<-hl];exact h1.2⟩),if_pos h]
theorem stAt_other {s:List Int} {t x y:Int} (ht:0<=t) (h:x≠t):stAt (s.set t.toNat y) x=stAt s x:=by
  rw [stAt_set,if_neg (fun k=>h (by omega))]
theorem stAt_self {s:List Int} {t y:Int} (ht:0<=t/\t<(s.length:Int)):stAt (s.set t.toNat y) t=y:=by
  rw [stAt_set,if_pos ⟨by omega,by omega⟩]
theorem inv_take {F F1:FS} {K x:Int} {r0:Ref} (hF:FW F K) (q:QI F) (h:HI F) (hv:∀v,F.ws[x.toNat]?=some v->¬Holds v)
  (hc:∀r,cnt F r=cnt F1 r+eq1 r0 r) (hj:F1.jobs=F.jobs) (hw:F1.ws=F.ws) (hq:F1.q.bs.length=4/\F1.q.cap=F.cfg.tasks) (hcf:F1.cfg=F.cfg):
  QI (takeF F1 x r0)/\HI (takeF F1 x r0)/\∃j,F.jobs[r0.job.toNat]?=some j/\0<=r0.job/\j.running=true/\j.added=true/\stAt j.B.st r0.task=2/\BWf j.B K/\takeF F1 x r0={F1 with ws:=F.ws.set x.toNat ⟨1,r0.job,r0.task,j.B.att.getD r0.task.toNat 0,0,0,(F1.ar.getD x.toNat default).high⟩,jobs:=F.jobs.set r0.job.toNat {j with B:=⟨j.B.deps,j.B.st.set r0.task.toNat 3,j.B.att⟩},st:={F1.st with starts:=F1.st.starts+1}}:=by
 have hr:rdyJ F.jobs r0=true:=by
  have h1:=hc r0
  have h2:=q.c r0
  cases hr:rdyJ F.jobs r0 with
  |true=>rfl
  |false=>rw [hr] at h2;simp [eq1] at h1 h2;omega
 obtain ⟨h0,j,a0,b0,d0⟩:=rdy_some hr
 have hJ:=hF.j j (List.mem_of_getElem? a0)
 have ha:=hJ.r b0
 obtain ⟨hW,hd,hb⟩:=hJ.b ha
 have c0:=stAt_in d0 (by decide)
 have hs:=start_eq hW.ls d0
 have e:jobAt F1 r0.job=j:=by unfold jobAt;rw [hj];exact getD_some a0
 have hl:=(List.getElem?_eq_some_iff.1 a0).1
 have eT:takeF F1 x r0={F1 with ws:=F.ws.set x.toNat ⟨1,r0.job,r0.task,j.B.att.getD r0.task.toNat 0,0,0,(F1.ar.getD x.toNat default).high⟩,jobs:=F.jobs.set r0.job.toNat {j with B:=⟨j.B.deps,j.B.st.set r0.task.toNat 3,j.B.att⟩},st:={F1.st with starts:=F1.st.starts+1}}:=(by unfold takeF;rw [e,hs,hj,hw])
 refine ⟨?_,?_,j,a0,h0,b0,ha,d0,hW,eT⟩
 ·rw [eT]
  refine ⟨?_,hq.1,hq.2.trans (congrArg Cfg.tasks hcf.symm),?_⟩
  rotate_left
  · exact (by show loadL (F.jobs.set r0.job.toNat _)<=F1.cfg.tasks;rw [hcf];exact Int.le_trans (load_set a0 rfl (fun h=>h)) q.ld)
  intro r
  show cnt F1 r=(rdyJ (F.jobs.set r0.job.toNat _) r).toNat
  rw [rdy_set h0 hl]
  have h1:=hc r
  have h2:=q.c r
  by_cases e1:r.job=r0.job
  ·rw [if_pos e1]
   rw [rdy_at om (by rw [e1];exact a0),b0] at h2
   dsimp only
   rw [b0]
   by_cases e2:r.task=r0.task
   · exact (by have e3:r0=r:=ref_ext e1.symm e2.symm;subst e3;rw [stAt_self c0];rw [d0] at h2;simp [eq1] at h1 h2⊢;omega)
   · exact (by rw [stAt_other c0.1 e2];have e3:eq1 r0 r=0:=(by unfold eq1;rw [if_neg (fun k=>e2 (by rw [k]))]);omega)
  · exact (by rw [if_neg e1];have e3:eq1 r0 r=0:=(by unfold eq1;rw [if_neg (fun k=>e1 (by rw [k]))]);omega)
 ·refine h.upd (x:=x.toNat) (v':=⟨1,r0.job,r0.task,j.B.att.getD r0.task.toNat 0,0,0,(F1.ar.getD x.toNat default).high⟩) (by rw [eT]) ?_ ?_ (fun k=>absurd (.inl rfl) k)
  · exact h.others (k:=r0.job.toNat) (j':={j with B:=⟨j.B.deps,j.B.st.set r0.task.toNat 3,j.B.att⟩}) a0 (by rw [eT]) (fun h=>h) fun y v hy f0 hh hk e0=>(by have h3:=(heldC_zero e0).2.1;have h4:v.heldTask≠r0.task:=(by intro k;rw [k] at h3;omega);exact heldC_keep e0 rfl (stAt_other c0.1 h4) rfl)
  ·intro _
   refine ⟨⟨{j with B:=⟨j.B.deps,j.B.st.set r0.task.toNat 3,j.B.att⟩},?_,ha,?_⟩,?_⟩
   ·rw [eT];exact set_at a0
   ·exact heldC_of (B:=⟨j.B.deps,j.B.st.set r0.task.toNat 3,j.B.att⟩) ⟨c0.1,by rw [<-hW.ls];exact c0.2⟩ (stAt_self c0) rfl
   · exact (by intro y v hy f0 hh hk;obtain ⟨j2,h1,h2,h3⟩:=h.h y v f0 hh;have k1:v.heldJob=r0.job:=hk.1;have k2:v.heldTask=r0.task:=hk.2;rw [k1,a0] at h1;obtain rfl:=Option.some.inj h1;have h4:=(heldC_zero h3).2.1;rw [k2] at h4;omega)
theorem cnt_dq {F:FS} {k:Nat} {d d':DS} {r:Ref} (h:F.dq[k]?=some d):cnt {F with dq:=F.dq.set k d'} r+d.l.count r=cnt F r+d'.l.count r:=by
  have:=cD_set (d':=d') (r:=r) h
  unfold cnt;dsimp only;omega
theorem last_count {l:List Ref} {a r:Ref} (h:l.getLast?=some a):l.count r=l.dropLast.count r+eq1 a r:=by
  have h1:l=l.dropLast++[a]:=by
    cases l with
    |nil=>cases h
    |cons x l=>
      have h2:(x::l).getLast (by simp)=a:=by rw [List.getLast?_eq_some_getLast (by simp)] at h;exact Option.some.inj h
      rw [<-h2];exact (List.dropLast_concat_getLast (by simp)).symm
  have h2:l.count r=(l.dropLast++[a]).count r:=by rw [<-h1]
  rw [h2,List.count_append,count1_]
theorem head_count {l:List Ref} {a r:Ref} (h:l.head?=some a):l.count r=l.tail.count r+eq1 a r:=by
  cases l with
  |nil=>cases h
  |cons x l=>
    obtain rfl:=Option.some.inj h
    have:List.count r (x::l)=List.count r [x]+List.count r l:=by rw [<-List.count_append];rfl
    rw [this,count1_,List.tail_cons];omega
theorem dq_some {F:FS} {K x:Int} (hF:FW F K) (hx:0<=x/\x<(F.ws.length:Int)):F.dq[x.toNat]?=some (dqAt F x):=by
  unfold dqAt
  have h1:x.toNat<F.dq.length:=by rw [hF.dl];omega
  rw [List.getD_eq_getElem?_getD,List.getElem?_eq_getElem h1];rfl
theorem cnt_pop {F:FS} {x:Int} {d:DS} {l:List Ref} {a r:Ref} (hd:F.dq[x.toNat]?=some d) (h:∀r,d.l.count r=l.count r+eq1 a r):cnt F r=cnt {F with dq:=F.dq.set x.toNat {d with l:=l}} r+eq1 a r:=by
  have h1:=cnt_dq (d':={d with l:=l}) (r:=r) hd
  have h2:=h r
  dsimp only at h1;omega
theorem inv_acq {F F':FS} {K x c:Int} {ev:Evt} (hF:FW F K) (q:QI F) (h:HI F) (hx:0<=x/\x<(F.ws.length:Int)) (hv:∀v,F.ws[x.toNat]?=some v->¬Holds v) (he:acqF F x c=some (F',ev)):
  QI F'/\HI F'/\∃(r0:Ref) (j:JS),F.jobs[r0.job.toNat]?=some j/\0<=r0.job/\j.running=true/\j.added=true/\stAt j.B.st r0.task=2/\BWf j.B K/\(∃hh:Int,F'.ws=F.ws.set x.toNat ⟨1,r0.job,r0.task,j.B.att.getD r0.task.toNat 0,0,0,hh⟩)/\F'.jobs=F.jobs.set r0.job.toNat {j with B:=⟨j.B.deps,j.B.st.set r0.task.toNat 3,j.B.att⟩}/\
   (ev=⟨3,x,0,0,r0.job,r0.task,0⟩\/ev=⟨4,x,0,0,r0.job,r0.task,0⟩\/∃f:Int,0<=f/\f<(F.ws.length:Int)/\f≠x/\ev=⟨5,x,f,0,r0.job,r0.task,0⟩):=by
 unfold acqF at he
 split at he
 · exact (by rename_i r hr;obtain ⟨rfl,rfl⟩:=Prod.mk.inj (Option.some.inj he);obtain ⟨a1,a2,j,b1,b2,b3,b4,b5,b6,b7⟩:=inv_take (F1:=popF F x (dqAt F x).l.dropLast) (x:=x) (r0:=r) hF q h hv (fun y=>cnt_pop (dq_some hF hx) (fun r=>last_count hr)) rfl rfl ⟨q.q4,q.cap⟩ rfl;exact ⟨a1,a2,r,j,b1,b2,b3,b4,b5,b6,⟨_,by rw [b7]⟩,by rw [b7], .inl rfl⟩)
 ·rename_i hlast
  split at he
  · exact (by rename_i r bs hq;obtain ⟨rfl,rfl⟩:=Prod.mk.inj (Option.some.inj he);obtain ⟨a1,a2,j,b1,b2,b3,b4,b5,b6,b7⟩:=inv_take (F1:={F with q:={F.q with bs:=bs}}) (x:=x) (r0:=r) hF q h hv (fun y=>by have:=cQ_pop (r:=y) hq;unfold cnt;dsimp only;omega) rfl rfl ⟨by rw [show ({F with q:={F.q with bs:=bs}}:FS).q.bs=bs from rfl,pop_len hq];exact q.q4,q.cap⟩ rfl;exact ⟨a1,a2,r,j,b1,b2,b3,b4,b5,b6,⟨_,by rw [b7]⟩,by rw [b7], .inr (.inl rfl)⟩)
  ·unfold stealF at he
   split at he
   ·cases he
   ·rename_i i hi
    split at he
    ·cases he
    ·rename_i r hr
     obtain ⟨rfl,rfl⟩:=Prod.mk.inj (Option.some.inj he)
     have hb:=chF_bd (F:=F) (c:=c) (i:=i) hF.n.1
     obtain ⟨a1,a2,j,b1,b2,b3,b4,b5,b6,b7⟩:=inv_take (F1:=popF F (chF F c i) (dqAt F (chF F c i)).l.tail) (x:=x) (r0:=r) hF q h hv (fun y=>cnt_pop (dq_some hF hb) (fun r=>head_count hr)) rfl rfl ⟨q.q4,q.cap⟩ rfl
     refine ⟨⟨a1.c,a1.q4,a1.cap,a1.ld⟩,⟨a2.h,a2.d,a2.z⟩,r,j,b1,b2,b3,b4,b5,b6,⟨((popF F (chF F c i) (dqAt F (chF F c i)).l.tail).ar.getD x.toNat default).high,?_⟩,?_, .inr (.inr ⟨chF F c i,hb.1,hb.2,?_,rfl⟩)⟩
     ·show (takeF _ x r).ws=_;rw [b7]
     ·show (takeF _ x r).jobs=_;rw [b7]
     · exact (by intro hxe;rw [hxe] at hr;have:(dqAt F x).l=[]:=List.getLast?_eq_none_iff.1 hlast;rw [this] at hr;cases hr)
theorem spill_cnt {x job band K C:Int} (hb:0<=band/\band<4) (l:List Int):∀{F:FS},FW F K->(0<=x/\x<(F.ws.length:Int))->F.q.bs.length=4->F.q.cap=C->totB F.q.bs+l.length<=C->(∀t∈l,RefOk (shapeF F.jobs) ⟨job,t⟩)->
  (∀r,cnt (spillF F x job band l) r=cnt F r+(l.map fun t=>(⟨job,t⟩:Ref)).count r)/\(spillF F x job band l).q.bs.length=4/\(spillF F x job band l).q.cap=C:=by
 induction l with
 |nil=>intro F _ _ h4 hc _ _;exact ⟨fun r=>by simp only [spillF,List.foldl_nil,List.map_nil,List.count_nil,Nat.add_zero],h4,hc⟩
 |cons t l ih=>
  intro F hF hx h4 hc ht hr
  have h0:=hr t List.mem_cons_self
  simp only [List.length_cons] at ht
  have hd:=dq_some hF hx
  have h1:FW (spill1 F x ⟨job,t⟩ band) K/\(spill1 F x ⟨job,t⟩ band).jobs=F.jobs/\(spill1 F x ⟨job,t⟩ band).ws=F.ws/\(∀r,cnt (spill1 F x ⟨job,t⟩ band) r=cnt F r+eq1 ⟨job,t⟩ r)/\(spill1 F x ⟨job,t⟩ band).q.bs.length=4/\(spill1 F x ⟨job,t⟩ band).q.cap=C/\totB (spill1 F x ⟨job,t⟩ band).q.bs<=totB F.q.bs+1:=by
   unfold spill1
   split
   · exact (by rename_i hp;refine ⟨hF.sd (pushD_mem h0 (hF.dr x)),rfl,rfl,?_,h4,hc,by dsimp only;omega⟩;intro r;have h2:=cnt_dq (d':=pushD (dqAt F x) ⟨job,t⟩) (r:=r) hd;have h3:(pushD (dqAt F x) ⟨job,t⟩).l=(dqAt F x).l++[⟨job,t⟩]:=(by unfold pushD;rw [if_pos (show pushC (dqAt F x)=0 from hp)]);rw [h3,List.count_append,count1_] at h2;show cnt {F with dq:=F.dq.set x.toNat (pushD (dqAt F x) ⟨job,t⟩)} r=_;omega)
   · exact (by obtain ⟨_,g2,g3,g4⟩:=cQ_pushQ (a:=(⟨job,t⟩:Ref)) (r:=⟨0,0⟩) hb h4 om;refine ⟨(hF.sq (pushQ_mem h0 hF.q)).ss,rfl,rfl,?_,g2,g3.trans hc,by dsimp only;omega⟩;intro r;have:=(cQ_pushQ (a:=(⟨job,t⟩:Ref)) (r:=r) hb h4 om).1;unfold cnt;dsimp only;omega)
  obtain ⟨a1,a2,a3,a4,a5,a6,a7⟩:=h1
  obtain ⟨b1,b2,b3⟩:=ih a1 (by rw [a3];exact hx) a5 a6 om (by rw [a2];exact fun t ht=>hr t (List.mem_cons_of_mem _ ht))
  have a0:spillF F x job band (t::l)=spillF (spill1 F x ⟨job,t⟩ band) x job band l:=by unfold spillF;rw [List.foldl_cons]
  rw [a0]
  refine ⟨?_,b2,b3⟩
  intro r
  rw [b1,a4,List.map_cons]
  have:List.count r ((⟨job,t⟩:Ref)::l.map fun t=>(⟨job,t⟩:Ref))=List.count r [(⟨job,t⟩:Ref)]+List.count r (l.map fun t=>(⟨job,t⟩:Ref)):=by rw [<-List.count_append];rfl
  rw [this,count1_];omega
theorem com_eq {B:BS} {i a:Int} (h:heldC B i a=0):comB B i a=(⟨B.deps,markB (B.st.set i.toNat 4) B.deps,B.att⟩,rdyB (B.st.set i.toNat 4) B.deps):=by unfold comB;rw [if_pos h]
theorem com_two {B:BS} {i z:Int} (hl:B.st.length=B.deps.length) (hi:stAt B.st i=3):
  (if stAt (markB (B.st.set i.toNat 4) B.deps) z=2 then 1 else 0)=(if stAt B.st z=2 then 1 else 0)+(rdyB (B.st.set i.toNat 4) B.deps).count z:=by
 have a0:=stAt_in hi (by decide)
 rw [mark_at (by rw [List.length_set];exact hl),count_rdy]
 by_cases h:0<=z/\z<(B.deps.length:Int)/\condB (B.st.set i.toNat 4) B.deps z.toNat=true
 · exact (by rw [if_pos h,if_pos h];have h1:=cond_one h.1 h.2.2;have h2:z≠i:=(by intro k;subst k;rw [stAt_self a0] at h1;omega);rw [stAt_other a0.1 h2] at h1;rw [if_pos rfl,if_neg om])
 ·rw [if_neg h,if_neg h]
  by_cases h2:z=i
  ·subst h2;rw [stAt_self a0,hi];rfl
  ·rw [stAt_other a0.1 h2];rfl
theorem com_held {B:BS} {i a t b:Int} (hl:B.st.length=B.deps.length) (h:heldC B i a=0) (ht:heldC B t b=0) (hne:t≠i):heldC (comB B i a).1 t b=0:=by
  rw [com_eq h]
  have hi:=(heldC_zero h).2.1
  have h3:=(heldC_zero ht).2.1
  have a0:=stAt_in hi (by decide)
  refine heldC_keep ht rfl ?_ rfl
  dsimp only
  rw [mark_at (by rw [List.length_set];exact hl),if_neg,stAt_other a0.1 hne]
  intro k
  have h1:=cond_one k.1 k.2.2
  rw [stAt_other a0.1 hne,h3] at h1;omega
theorem filter_allX {s:List Int} (h:(s.filter fun x=>decide (x=4)).length=s.length):∀x∈s,x=4:=by
  induction s with
  |nil=>intro x hx;cases hx
  |cons y s ih=>
    have h1:=List.length_filter_le (fun x:Int=>decide (x=4)) s
    rw [List.filter_cons] at h
    split at h
    · rename_i h2
      intro x hx
      rcases List.mem_cons.1 hx with rfl|hx
      · simpa using h2
      · exact ih (by simpa using h) x hx
    · rw [List.length_cons] at h;omega
theorem done_none {B:BS} {K:Int} (hW:BWf B K) (hd:doneOf B=(B.deps.length:Int)) (z:Int):stAt B.st z≠2:=by
  intro h
  have a0:=hW.ls
  unfold doneOf at hd
  have h4:=filter_allX (s:=B.st) (by omega)
  have h1:=stAt_in h (by decide)
  rw [stAt_nat _ h1.1] at h
  have:=h4 _ (getD_mem (s:=B.st) (q:=z.toNat) (by omega));omega
theorem toNat_dec {b:Bool} {p:Prop} [Decidable p]:(b&&decide p).toNat=if b=true then (if p then 1 else 0) else 0:=by
  cases b<;>by_cases h:p<;>simp [h]
theorem spill_cfg {x job band:Int}:∀(l:List Int) {F:FS},(spillF F x job band l).cfg=F.cfg
  |[],_=>rfl
  |t::l,F=>by
    have h:(spill1 F x ⟨job,t⟩ band).cfg=F.cfg:=by unfold spill1;split<;>rfl
    exact (spill_cfg l).trans h
theorem inv_micro {F:FS} {K x:Int} {v:Wkr} {j:JS} (hF:FW F K) (hK:K+1<=4096) (q:QI F) (h:HI F) (hx:0<=x/\x<(F.ws.length:Int)) (hv:F.ws[x.toNat]?=some v) (hh:Holds v) (hj:F.jobs[v.heldJob.toNat]?=some j) (hrun:j.running=true):
  QI (microF F x).1/\HI (microF F x).1:=by
 have hw:=hF.w v (List.mem_of_getElem? hv)
 obtain ⟨j2,c1,c2,c3⟩:=h.h _ v hv hh
 rw [hj] at c1;obtain rfl:=Option.some.inj c1
 have hJ:=hF.j j (List.mem_of_getElem? hj)
 obtain ⟨hW,hd,hb⟩:=hJ.b c2
 have e:jobAt F v.heldJob=j:=getD_some hj
 have i0:=fun k (hk:Holds v)=>h.h k v
 unfold microF
 simp only [getD_some hv,e]
 by_cases p1:v.phase=1
 · exact (by rw [if_pos p1];refine ⟨⟨q.c,q.q4,q.cap,q.ld⟩,h.upd (x:=x.toNat) rfl h.same (fun _=>⟨⟨j,hj,c2,c3⟩,?_⟩) (fun k=>absurd (.inr (.inl rfl)) k)⟩;intro y u hy hu b0 k;exact h.d _ _ v u hv hu hy hh b0 ⟨k.1.symm,k.2.symm⟩)
 ·rw [if_neg p1]
  by_cases p2:v.phase=2
  · exact (by rw [if_pos p2];refine ⟨⟨q.c,q.q4,q.cap,q.ld⟩,h.upd (x:=x.toNat) rfl h.same (fun _=>⟨⟨j,hj,c2,c3⟩,?_⟩) (fun k=>absurd (by unfold Holds;dsimp only;split<;>omega) k)⟩;intro y u hy hu b0 k;exact h.d _ _ v u hv hu hy hh b0 ⟨k.1.symm,k.2.symm⟩)
  ·rw [if_neg p2]
   have hz:=heldC_zero c3
   have hm:=hF.mono (L:=K+1) om hK
   have k2:=hw.h
   have hO:JobOk (K+1) {j with B:=(comB j.B v.heldTask v.attempt).1}:=⟨hJ.n,fun _=>⟨(com_wf hW).mono om,by rw [com_deps];exact hd,hb⟩,fun _=>c2⟩
   have f0:=(((hm.sj (k:=v.heldJob.toNat) (j':={j with B:=(comB j.B v.heldTask v.attempt).1}) hj rfl rfl hO).sa (k:=x.toNat) (a:=relA (F.ar.getD x.toNat default))).sw (k:=x.toNat) (v:=⟨0,0,0,0,0,0,(relA (F.ar.getD x.toNat default)).high⟩) ⟨⟨Int.le_refl 0,show (0:Int)<64 by decide⟩,⟨Int.le_refl 0,hm.k.1⟩,fun h=>by dsimp only at h;omega⟩).ss (s:={F.st with commits:=F.st.commits+1})
   have j0:=shape_set (j':={j with B:=(comB j.B v.heldTask v.attempt).1}) hj rfl rfl
   have m0:=q.small hF
   have l0:=com_len (B:=j.B) (i:=v.heldTask) (a:=v.attempt)
   have hr:=hw.t hh
   have c0:∀t∈(comB j.B v.heldTask v.attempt).2,RefOk (shapeF (F.jobs.set v.heldJob.toNat {j with B:=(comB j.B v.heldTask v.attempt).1})) ⟨v.heldJob,t⟩:=(by intro t ht2;have h3:=com_in ht2;rw [j0];obtain ⟨_,_,_,m,d0,_⟩:=hr;refine ⟨k2.1,k2.2,h3.1,m,d0,?_⟩;unfold shapeF at d0;rw [List.getElem?_map,hj] at d0;have:=(Prod.mk.inj (Option.some.inj d0)).2;dsimp only at this⊢;omega)
   have g0:=(List.getElem?_eq_some_iff.1 hj).1
   have a0:∀r,cnt F r+((comB j.B v.heldTask v.attempt).2.map fun t=>(⟨v.heldJob,t⟩:Ref)).count r=if r.job=v.heldJob then (if stAt (comB j.B v.heldTask v.attempt).1.st r.task=2 then 1 else 0) else (rdyJ F.jobs r).toNat:=by
    intro r
    rw [q.c r,cmap]
    by_cases e1:r.job=v.heldJob
    · exact (by rw [if_pos e1,if_pos e1,rdy_at om (by rw [e1];exact hj),toNat_dec,if_pos hrun,com_eq c3];exact (com_two hW.ls hz.2.1).symm)
    ·rw [if_neg e1,if_neg e1,Nat.add_zero]
   have e0:totB F.q.bs+(((comB j.B v.heldTask v.attempt).2.length:Nat):Int)<=F.cfg.tasks:=by
    have h1:((F.q.bs.flatten++(comB j.B v.heldTask v.attempt).2.map fun t=>(⟨v.heldJob,t⟩:Ref)).length:Int)<=loadL F.jobs:=by
     refine few_run (fun r=>?_) (fun r hr=>?_)
     ·rw [List.count_append,flat_q]
      have h2:=a0 r
      have h3:(rdyJ F.jobs r).toNat<=1:=by cases rdyJ F.jobs r<;>simp
      unfold cnt at h2
      split at h2
      ·split at h2<;>omega
      ·omega
     ·rcases List.mem_append.1 hr with hr|hr
      · exact (by have:=List.count_pos_iff.2 hr;rw [flat_q] at this;exact rdy_run hF (q.rdy (by unfold cnt;omega)))
      · exact (by obtain ⟨t,ht,rfl⟩:=List.mem_map.1 hr;have h3:=com_in ht;rw [hd] at h3;exact ⟨k2.1,j,hj,hrun,h3⟩)
    rw [List.length_append,List.length_map] at h1
    have:=q.ld
    rw [tot_flat];omega
   obtain ⟨g1,g2,g3⟩:=spill_cnt (x:=x) (job:=v.heldJob) hb (comB j.B v.heldTask v.attempt).2 f0 (by simp only [List.length_set];exact hx) q.q4 q.cap e0 c0
   obtain ⟨_,s2,s3,_,_⟩:=spill_ok (x:=x) (job:=v.heldJob) (band:=j.band) (comB j.B v.heldTask v.attempt).2 f0 c0
   have hH:∀F':FS,F'.ws=F.ws.set x.toNat ⟨0,0,0,0,0,0,(relA (F.ar.getD x.toNat default)).high⟩->(∃j',F'.jobs=F.jobs.set v.heldJob.toNat j'/\j'.added=true/\j'.B=(comB j.B v.heldTask v.attempt).1)->HI F':=(by rintro F' hw' ⟨j',hj',ha',hB'⟩;refine h.upd (x:=x.toNat) hw' ?_ (fun k=>by unfold Holds at k;dsimp only at k;omega) (fun _=>⟨rfl,rfl,rfl,rfl, .inl rfl⟩);refine h.others hj hj' (fun _=>ha') fun y u hy hu b0 hk k0=>?_;rw [hB'];have h0:u.heldTask≠v.heldTask:=(by intro k;have:=hF.w u (List.mem_of_getElem? hu);exact h.d _ _ v u hv hu hy hh b0 ⟨by have:=this.h;omega,k.symm⟩);exact com_held hW.ls c3 k0 h0)
   split
   ·rename_i hdone
    refine ⟨⟨?_,g2,?_,?_⟩,hH _ s3 ⟨_,rfl,c2,rfl⟩⟩
    rotate_left
    · exact (by rw [g3];try dsimp only;rw [spill_cfg])
    · exact (by show loadL (F.jobs.set v.heldJob.toNat _)<=(spillF _ x v.heldJob j.band (comB j.B v.heldTask v.attempt).2).cfg.tasks;rw [spill_cfg];exact Int.le_trans (load_set hj rfl (fun h=>by cases h)) q.ld)
    intro r
    show cnt (spillF _ x v.heldJob j.band (comB j.B v.heldTask v.attempt).2) r=(rdyJ (F.jobs.set v.heldJob.toNat _) r).toNat
    rw [g1 r,rdy_set k2.1 g0]
    show cnt F r+_=_
    rw [a0 r]
    by_cases e1:r.job=v.heldJob
    ·rw [if_pos e1,if_pos e1,if_neg (done_none (com_wf hW) (by rw [com_deps,hd];exact hdone) _)];rfl
    ·rw [if_neg e1,if_neg e1]
   ·refine ⟨⟨?_,g2,?_,?_⟩,hH _ s3 ⟨_,s2,c2,rfl⟩⟩
    rotate_left
    · exact (by rw [g3];try dsimp only;rw [spill_cfg])
    ·rw [s2,spill_cfg];exact Int.le_trans (load_set hj rfl (fun h=>h)) q.ld
    intro r
    rw [g1 r,s2,rdy_set k2.1 g0]
    show cnt F r+_=_
    rw [a0 r]
    by_cases e1:r.job=v.heldJob
    · exact (by rw [if_pos e1,if_pos e1];dsimp only;rw [toNat_dec,if_pos hrun])
    ·rw [if_neg e1,if_neg e1]
theorem inv_drop {F:FS} {x ph:Int} {s:Stt} (q:QI F) (h:HI F) (hp:ph=0\/ph=4):QI (clearF F x ph s)/\HI (clearF F x ph s):=by
  refine ⟨⟨q.c,q.q4,q.cap,q.ld⟩,h.upd (x:=x.toNat) (v':=⟨ph,0,0,0,0,0,(arAt F x).high⟩) rfl h.same (fun k=>by unfold Holds at k;dsimp only at k;omega) (fun _=>⟨rfl,rfl,rfl,rfl,hp⟩)⟩
theorem cD_ge:∀{l:List DS} {k:Nat} {d:DS} {r:Ref},l[k]?=some d->d.l.count r<=cDq l r
  |[],_,_,_,h=>by cases h
  |x::l,0,d,r,h=>by
    obtain rfl:x=d:=by simpa using h
    simp only [cDq,List.map_cons,List.sum_cons];omega
  |x::l,k+1,d,r,h=>by
    have ih:=cD_ge (l:=l) (k:=k) (d:=d) (r:=r) (by simpa using h)
    simp only [cDq,List.map_cons,List.sum_cons] at ih⊢;omega
theorem drain_cnt {jobs:List JS} {C:Int} (l:List Ref):∀{q:QS},q.bs.length=4->q.cap=C->totB q.bs+l.length<=C->(∀r∈l,0<=(jobs.getD r.job.toNat default).band/\(jobs.getD r.job.toNat default).band<4)->
  (∀r,cQ (drainQ jobs q l).bs r=cQ q.bs r+l.count r)/\(drainQ jobs q l).bs.length=4/\(drainQ jobs q l).cap=C:=by
 induction l with
 |nil=>intro q h4 hc _ _;exact ⟨fun r=>by simp only [drainQ,List.foldl_nil,List.count_nil,Nat.add_zero],h4,hc⟩
 |cons t l ih=>
  intro q h4 hc ht hb
  simp only [List.length_cons] at ht
  have a0:=hb t List.mem_cons_self
  have h1:=fun r=>cQ_pushQ (a:=t) (r:=r) a0 h4 om
  have e:drainQ jobs q (t::l)=drainQ jobs (pushQ q t (jobs.getD t.job.toNat default).band) l:=by unfold drainQ;rw [List.foldl_cons];rfl
  rw [e]
  obtain ⟨b1,b2,b3⟩:=ih (q:=pushQ q t (jobs.getD t.job.toNat default).band) (h1 t).2.1 ((h1 t).2.2.1.trans hc) (by have:=(h1 t).2.2.2;omega) (fun r hr=>hb r (List.mem_cons_of_mem _ hr))
  refine ⟨?_,b2,b3⟩
  intro r
  rw [b1,(h1 r).1]
  have:List.count r (t::l)=List.count r [t]+List.count r l:=by rw [<-List.count_append];rfl
  rw [this,count1_];omega
theorem idx_le {y:Int}:∀{s:List Int} {k:Nat},(idxOf y k s).length<=s.length
  |[],_=>Nat.le_refl _
  |x::s,k=>by
    have:=idx_le (y:=y) (s:=s) (k:=k+1)
    simp only [idxOf,List.length_append,List.length_cons]
    split<;>simp<;>omega
theorem ready_cnt {x bd C:Int} (hb:0<=bd/\bd<4) (l:List Int):∀{q:QS},q.bs.length=4->q.cap=C->totB q.bs+l.length<=C->
  (∀r,cQ (readyQ x bd q l).bs r=cQ q.bs r+(l.map fun t=>(⟨x,t⟩:Ref)).count r)/\(readyQ x bd q l).bs.length=4/\(readyQ x bd q l).cap=C:=by
 induction l with
 |nil=>intro q h4 hc _;exact ⟨fun r=>by simp only [readyQ,List.foldl_nil,List.map_nil,List.count_nil,Nat.add_zero],h4,hc⟩
 |cons t l ih=>
  intro q h4 hc ht
  simp only [List.length_cons] at ht
  have h1:=fun r=>cQ_pushQ (a:=(⟨x,t⟩:Ref)) (r:=r) hb h4 om
  have e:readyQ x bd q (t::l)=readyQ x bd (pushQ q ⟨x,t⟩ bd) l:=by unfold readyQ;rw [List.foldl_cons]
  rw [e]
  obtain ⟨b1,b2,b3⟩:=ih (q:=pushQ q ⟨x,t⟩ bd) (h1 ⟨x,t⟩).2.1 ((h1 ⟨x,t⟩).2.2.1.trans hc) (by have:=(h1 ⟨x,t⟩).2.2.2;omega)
  refine ⟨?_,b2,b3⟩
  intro r
  rw [b1,(h1 r).1,List.map_cons]
  have:List.count r ((⟨x,t⟩:Ref)::l.map fun t=>(⟨x,t⟩:Ref))=List.count r [(⟨x,t⟩:Ref)]+List.count r (l.map fun t=>(⟨x,t⟩:Ref)):=by rw [<-List.count_append];rfl
  rw [this,count1_];omega
theorem ret_eq {B:BS} {i a:Int} (h:heldC B i a=0):retB B i a=⟨B.deps,B.st.set i.toNat 2,B.att.set i.toNat (a+1)⟩:=by unfold retB;rw [if_pos h]
theorem ret_held {B:BS} {i a t b:Int} (h:heldC B i a=0) (ht:heldC B t b=0) (hne:t≠i):heldC (retB B i a) t b=0:=by
  rw [ret_eq h]
  have hi:=heldC_zero h
  have h3:=heldC_zero ht
  have a0:0<=i:=hi.1.1
  have b0:0<=t:=h3.1.1
  exact heldC_keep ht rfl (stAt_other a0 hne)<|(by dsimp only;rw [getD_set,if_neg (by omega)])
theorem retJ_no {F:FS} {v:Wkr} (h:busyW F v=false):retJ F v=F:=by unfold retJ;rw [if_neg (by rw [h];decide)]
theorem inv_crash {F:FS} {K x:Int} {v:Wkr} (hF:FW F K) (q:QI F) (h:HI F) (hx:0<=x/\x<(F.ws.length:Int)) (hv:F.ws[x.toNat]?=some v):
  QI (crashW (retJ F v) x)/\HI (crashW (retJ F v) x):=by
 have hd:=dq_some hF hx
 have k0:=q.cap
 have s0:=q.ld
 have o0:totB F.q.bs+(dqAt F x).l.length<=F.cfg.tasks:=by
  have h1:=q.few hF (L:=F.q.bs.flatten++(dqAt F x).l) (fun r=>by
   rw [List.count_append,flat_q]
   have:=cD_ge (r:=r) hd
   unfold cnt;omega)
  rw [List.length_append] at h1
  rw [tot_flat];omega
 have b0:∀r∈(dqAt F x).l,0<=(F.jobs.getD r.job.toNat default).band/\(F.jobs.getD r.job.toNat default).band<4:=(by intro r hr;obtain ⟨j,hj,_,_,_,b1,b2,_,_⟩:=hF.job (hF.dr x r hr);rw [getD_some hj];exact ⟨b1,b2⟩)
 cases hb:busyW F v with
 |false=>
  rw [retJ_no hb]
  obtain ⟨d1,d2,d3⟩:=drain_cnt (jobs:=F.jobs) (dqAt F x).l q.q4 q.cap om b0
  refine ⟨⟨?_,d2,d3,q.ld⟩,h.upd (x:=x.toNat) (v':=⟨4,0,0,0,0,0,(arAt F x).high⟩) rfl h.same (fun k=>by unfold Holds at k;dsimp only at k;omega) (fun _=>⟨rfl,rfl,rfl,rfl, .inr rfl⟩)⟩
  intro r
  rw [<-show rdyJ F.jobs r=rdyJ (crashW F x).jobs r from rfl,<-q.c r]
  have h1:=cnt_dq (d':=⟨(dqAt F x).cap,[]⟩) (r:=r) hd
  have h2:=d1 r
  show cDq (F.dq.set x.toNat ⟨(dqAt F x).cap,[]⟩) r+cQ (drainQ F.jobs F.q (dqAt F x).l).bs r=cnt F r
  unfold cnt at h1⊢;simp only [List.count_nil] at h1;omega
 |true=>
  unfold busyW at hb
  obtain ⟨f0,d0⟩:=(Bool.and_eq_true _ _).mp hb
  have hh:Holds v:=(of_decide_eq_true f0:v.phase=1\/v.phase=2\/v.phase=3)
  have hw:=hF.w v (List.mem_of_getElem? hv)
  obtain ⟨j,hj,ha,hz⟩:=h.h _ v hv hh
  have a0:j.running=true:=by unfold jobAt at d0;rw [getD_some hj] at d0;exact d0
  have e:jobAt F v.heldJob=j:=getD_some hj
  have hJ:=hF.j j (List.mem_of_getElem? hj)
  obtain ⟨hW,l0,g0⟩:=hJ.b ha
  have eR:retJ F v={F with jobs:=F.jobs.set v.heldJob.toNat {j with B:=retB j.B v.heldTask v.attempt},q:=pushQ F.q ⟨v.heldJob,v.heldTask⟩ j.band}:=(by unfold retJ;rw [if_pos (by unfold busyW;rw [f0,d0];rfl),e])
  have e0:=heldC_zero hz
  have i0:=stAt_in e0.2.1 (by decide)
  have p0:=(List.getElem?_eq_some_iff.1 hj).1
  have k2:=hw.h
  have j0:totB F.q.bs+(dqAt F x).l.length+1<=F.cfg.tasks:=by
   have h1:((F.q.bs.flatten++(dqAt F x).l++[(⟨v.heldJob,v.heldTask⟩:Ref)]).length:Int)<=loadL F.jobs:=by
    refine few_run (fun r=>?_) (fun r hr=>?_)
    ·rw [List.count_append,List.count_append,flat_q,count1_]
     have h2:=cD_ge (r:=r) hd
     have h3:=q.one r
     have h4:=q.c r
     unfold cnt at h3 h4
     unfold eq1
     split
     · exact (by rename_i e1;rw [<-e1,rdy_at (r:=⟨v.heldJob,v.heldTask⟩) k2.1 hj,a0,e0.2.1] at h4;rw [<-e1] at h2 h3⊢;simp at h4;omega)
     ·omega
    ·rcases List.mem_append.1 hr with hr|hr
     · exact (by have:=List.count_pos_iff.2 hr;rw [List.count_append,flat_q] at this;have h2:=cD_ge (r:=r) hd;exact rdy_run hF (q.rdy (by unfold cnt;omega)))
     · exact (by obtain rfl:=List.mem_singleton.1 hr;have n0:stAt j.B.st v.heldTask=3:=e0.2.1;have h0:=stAt_in n0 (by decide);rw [hW.ls,l0] at h0;exact ⟨k2.1,j,hj,a0,h0⟩)
   rw [List.length_append,List.length_append,List.length_singleton] at h1
   rw [tot_flat];omega
  have p:=fun r=>cQ_pushQ (a:=(⟨v.heldJob,v.heldTask⟩:Ref)) (r:=r) g0 q.q4 om
  have c0:∀r∈(dqAt F x).l,0<=((F.jobs.set v.heldJob.toNat {j with B:=retB j.B v.heldTask v.attempt}).getD r.job.toNat default).band/\((F.jobs.set v.heldJob.toNat {j with B:=retB j.B v.heldTask v.attempt}).getD r.job.toNat default).band<4:=by
   intro r hr
   by_cases e1:v.heldJob.toNat=r.job.toNat
   ·rw [<-e1,getD_some (set_at hj)];exact g0
   · exact (by have h1:=b0 r hr;rw [List.getD_eq_getElem?_getD] at h1⊢;rw [List.getElem?_set,if_neg e1];exact h1)
  obtain ⟨d1,d2,d3⟩:=drain_cnt (jobs:=F.jobs.set v.heldJob.toNat {j with B:=retB j.B v.heldTask v.attempt}) (dqAt F x).l (p ⟨0,0⟩).2.1 ((p ⟨0,0⟩).2.2.1.trans q.cap) (by have:=(p ⟨0,0⟩).2.2.2;omega) c0
  rw [eR]
  refine ⟨⟨?_,d2,d3,Int.le_trans (load_set hj rfl (fun h=>h)) q.ld⟩,h.upd (x:=x.toNat) (v':=⟨4,0,0,0,0,0,(arAt F x).high⟩) rfl ?_ (fun k=>by unfold Holds at k;dsimp only at k;omega) (fun _=>⟨rfl,rfl,rfl,rfl, .inr rfl⟩)⟩
  ·intro r
   show cDq (F.dq.set x.toNat ⟨(dqAt F x).cap,[]⟩) r+cQ (drainQ (F.jobs.set v.heldJob.toNat {j with B:=retB j.B v.heldTask v.attempt}) (pushQ F.q ⟨v.heldJob,v.heldTask⟩ j.band) (dqAt F x).l).bs r=(rdyJ (F.jobs.set v.heldJob.toNat {j with B:=retB j.B v.heldTask v.attempt}) r).toNat
   rw [rdy_set k2.1 p0]
   have h1:=cnt_dq (d':=⟨(dqAt F x).cap,[]⟩) (r:=r) hd
   have h2:=d1 r
   have h3:=(p r).1
   have h4:=q.c r
   unfold cnt at h1 h4;simp only [List.count_nil] at h1
   by_cases e1:r.job=v.heldJob
   ·rw [if_pos e1]
    dsimp only
    rw [toNat_dec,if_pos a0,show (retB j.B v.heldTask v.attempt).st=j.B.st.set v.heldTask.toNat 2 by rw [ret_eq hz]]
    rw [rdy_at om (by rw [e1];exact hj),toNat_dec,if_pos a0] at h4
    by_cases e2:r.task=v.heldTask
    · exact (by rw [e2,stAt_self i0,if_pos rfl];rw [e2,e0.2.1] at h4;have e3:eq1 ⟨v.heldJob,v.heldTask⟩ r=1:=(by unfold eq1;rw [if_pos (ref_ext e1.symm e2.symm)]);simp at h4;omega)
    · exact (by rw [stAt_other i0.1 e2];have e3:eq1 ⟨v.heldJob,v.heldTask⟩ r=0:=(by unfold eq1;rw [if_neg (fun k=>e2 (by rw [<-k]))]);omega)
   · exact (by rw [if_neg e1];have e3:eq1 ⟨v.heldJob,v.heldTask⟩ r=0:=(by unfold eq1;rw [if_neg (fun k=>e1 (by rw [<-k]))]);omega)
  ·exact h.others hj (j':={j with B:=retB j.B v.heldTask v.attempt}) rfl (fun h=>h) fun y u hy hu m0 hk r0=>(by have q0:u.heldTask≠v.heldTask:=(by intro k;have:=hF.w u (List.mem_of_getElem? hu);exact h.d _ _ v u hv hu hy hh m0 ⟨by have:=this.h;omega,k.symm⟩);exact ret_held hz r0 q0)
theorem cD_rm {k : Int} {r : Ref} : ∀ {l : List DS}, cDq (l.map (rmD k)) r = if r.job = k then 0 else cDq l r
  | [] => by split <;> rfl
  | d :: l => by
    have ih := cD_rm (k := k) (r := r) (l := l)
    simp only [cDq, List.map_cons, List.sum_cons] at ih ⊢
    rw [ih]
    have h1 : (rmD k d).l.count r = if r.job = k then 0 else d.l.count r := by
      unfold rmD without
      by_cases e : r.job = k
      · rw [if_pos e, List.count_eq_zero]
        intro h; have := (List.mem_filter.1 h).2; simp [e] at this
      · rw [if_neg e, List.count_filter (by simpa using e)]
    rw [h1]; split <;> omega
theorem cQ_rm {k : Int} {r : Ref} : ∀ {l : List (List Ref)}, cQ (l.map (without k)) r = if r.job = k then 0 else cQ l r
  | [] => by split <;> rfl
  | d :: l => by
    have ih := cQ_rm (k := k) (r := r) (l := l)
    simp only [cQ, List.map_cons, List.sum_cons] at ih ⊢
    rw [ih]
    have h1 : (without k d).count r = if r.job = k then 0 else d.count r := by
      unfold without
      by_cases e : r.job = k
      · rw [if_pos e, List.count_eq_zero]
        intro h; have := (List.mem_filter.1 h).2; simp [e] at this
      · rw [if_neg e, List.count_filter (by simpa using e)]
    rw [h1]; split <;> omega
theorem HI.jb {F F':FS} (h:HI F) (hw:F'.ws=F.ws) (ha:∀(y:Nat) v,F.ws.length≠y->F.ws[y]?=some v->Holds v->∃j,F'.jobs[v.heldJob.toNat]?=some j/\j.added=true/\heldC j.B v.heldTask v.attempt=0):HI F':=
  ⟨fun y v hy hv=>by rw [hw] at hy;exact ha y v (by have:=(List.getElem?_eq_some_iff.1 hy).1;omega) hy hv,by rw [hw];exact h.d,by rw [hw];exact h.z⟩
theorem inv_cancel {F:FS} {k:Int} {j:JS} (q:QI F) (h:HI F) (hk:0<=k) (hj:F.jobs[k.toNat]?=some j):QI (cancelW F k)/\HI (cancelW F k):=by
 have e:jobAt F k=j:=getD_some hj
 have hl:=(List.getElem?_eq_some_iff.1 hj).1
 refine ⟨⟨?_,by simp only [cancelW,List.length_map];exact q.q4,q.cap,Int.le_trans (load_set hj (by rw [e]) (fun h=>by cases h)) q.ld⟩,h.jb rfl ?_⟩
 ·intro r
  show cDq (F.dq.map (rmD k)) r+cQ (F.q.bs.map (without k)) r=(rdyJ (F.jobs.set k.toNat _) r).toNat
  rw [cD_rm,cQ_rm,rdy_set hk hl]
  by_cases e1:r.job=k
  ·rw [if_pos e1,if_pos e1,if_pos e1];rfl
  ·rw [if_neg e1,if_neg e1,if_neg e1];exact q.c r
 ·refine h.others hj (j':={j with running:=false}) (by unfold cancelW;rw [e]) (fun h=>h) (fun y v _ _ _ _ hz=>hz)
theorem inv_add {F:FS} {K x bd:Int} {l:List Task} {j:JS} (hF:FW F K) (q:QI F) (h:HI F) (htk:(l.length:Int)<=F.cfg.tasks-loadL F.jobs) (hx:0<=x) (hb:0<=bd/\bd<4) (hj:F.jobs[x.toNat]?=some j) (ha:j.added=false):QI (addF F x l bd)/\HI (addF F x l bd):=by
 have hl:=(List.getElem?_eq_some_iff.1 hj).1
 have c0:=q.small hF
 have h3:=idx_le (y:=2) (s:=(newB l).st) (k:=0)
 have h4:(newB l).st.length=l.length:=by simp [newB]
 obtain ⟨r1,r2,r3⟩:=ready_cnt (x:=x) hb (idxOf 2 0 (newB l).st) q.q4 q.cap om
 have b0:j.running=false:=by
  cases hr:j.running with
  |false=>rfl
  |true=>have:=(hF.j j (List.mem_of_getElem? hj)).r hr;rw [ha] at this;cases this
 have a0:loadL (F.jobs.set x.toNat (jobN l bd))<=F.cfg.tasks:=(by rw [load_new hj b0];simp only [jobN,List.length_map,if_true];omega)
 refine ⟨⟨?_,r2,r3,a0⟩,h.jb rfl ?_⟩
 ·intro r
  show cDq F.dq r+cQ (readyQ x bd F.q (idxOf 2 0 (newB l).st)).bs r=(rdyJ (F.jobs.set x.toNat (jobN l bd)) r).toNat
  rw [r1,rdy_set hx hl,cmap]
  have h6:=q.c r
  unfold cnt at h6
  by_cases e1:r.job=x
  ·rw [if_pos e1,if_pos e1,toNat_dec,if_pos (show (jobN l bd).running=true from rfl),count_two]
   have hr:j.running=false:=by
    cases hr:j.running with
    |false=>rfl
    |true=>have:=(hF.j j (List.mem_of_getElem? hj)).r hr;rw [ha] at this;cases this
   rw [rdy_at om (by rw [e1];exact hj),hr] at h6
   simp at h6
   show _=if stAt (newB l).st r.task=2 then 1 else 0
   omega
  ·rw [if_neg e1,if_neg e1];omega
 ·intro y v _ hy hv
  obtain ⟨j2,a1,a2,a3⟩:=h.h y v hy hv
  refine ⟨j2,?_,a2,a3⟩
  show (F.jobs.set x.toNat _)[_]?=_
  rw [List.getElem?_set,if_neg]
  ·exact a1
  ·intro k;rw [<-k,hj] at a1;obtain rfl:=Option.some.inj a1;rw [ha] at a2;cases a2
theorem inv_idle {F:FS} {x:Int} (q:QI F) (h:HI F):QI (idleF F x 0)/\HI (idleF F x 0):=
  ⟨⟨q.c,q.q4,q.cap,q.ld⟩,h.upd (x:=x.toNat) (v':=⟨0,0,0,0,0,0,(F.ar.getD x.toNat default).high⟩) rfl h.same (fun k=>by unfold Holds at k;dsimp only at k;omega) (fun _=>⟨rfl,rfl,rfl,rfl, .inl rfl⟩)⟩
theorem inv_new {c : Cfg} (hc : 0 <= c.tasks) : QI (newF c) /\ HI (newF c) := by
  refine ⟨⟨?_, rfl, rfl, by have : loadL (newF c).jobs = 0 := rfl
                            rw [this]; exact hc⟩, ⟨?_, ?_, ?_⟩⟩
  · intro r
    have h1 : rdyJ (newF c).jobs r = false := by
      unfold rdyJ newF
      dsimp only
      have : (List.replicate 64 JS.zero).getD r.job.toNat default = JS.zero := by
        rw [List.getD_eq_getElem?_getD, List.getElem?_replicate]; split <;> rfl
      rw [this]; simp [JS.zero]
    rw [h1]
    have h2 : cDq (newF c).dq r = 0 := by
      unfold cDq newF; simp
    unfold cnt; rw [h2]; simp [newF, cQ]
  · intro x v hv hh
    obtain rfl := rep_at hv
    unfold Holds at hh; dsimp only at hh; omega
  · intro x y v u hv _ _ hh
    obtain rfl := rep_at hv
    unfold Holds at hh; dsimp only at hh; omega
  · intro x v hv _
    obtain rfl := rep_at hv
    exact ⟨rfl, rfl, rfl, rfl, .inl rfl⟩
end Go.Proofs.YtkadmghedmodbaaGreat

namespace Go.Proofs.YtkadmghedmodbaaGreat
open Go Go.E Go.Proofs.Tryz
set_option linter.all false
set_option maxRecDepth 100000
set_option maxHeartbeats 2000000
variable {W w:World} {H:Chunk} {F:List Chunk}
def taskAt (F:FS) (v:Wkr):TaskV:=(jobAt F v.heldJob).tasks.getD v.heldTask.toNat default
structure AOk (F:FS) (v:Wkr) (a:AS):Prop where
  u:v.used=a.used
  h:v.high=a.high
  c:a.cap=F.cfg.arena
  b:0<=a.used/\a.used<=a.high/\a.high<=a.cap
  z:v.phase=0\/v.phase=1\/v.phase=4->a.used=0/\a.marks=[]
  m:v.phase=2\/v.phase=3->a.marks=[0]/\a.used=(taskAt F v).scratch
  r1:v.phase=1->v.row=0
  r2:v.phase=2->v.row<(taskAt F v).rows
  r3:v.phase=3->v.row=(taskAt F v).rows
structure AI (F:FS):Prop where
  a:∀(k:Nat) v a,F.ws[k]?=some v->F.ar[k]?=some a->AOk F v a
  t:∀j∈F.jobs,∀t∈j.tasks,0<=t.scratch/\t.scratch<=F.cfg.arena/\1<=t.rows/\t.rows<=128/\t.deps.length<=4096
  n:0<=F.cfg.arena/\F.cfg.arena<=1048576
def SameT (F G:FS):Prop:=G.cfg=F.cfg/\G.jobs.map (·.tasks)=F.jobs.map (·.tasks)
theorem SameT.trans {F G H:FS} (h:SameT F G) (k:SameT G H):SameT F H:=⟨k.1.trans h.1,k.2.trans h.2⟩
theorem jobAt_tasks {F:FS} {k:Int}:(jobAt F k).tasks=(F.jobs.map (·.tasks)).getD k.toNat []:=by
  unfold jobAt
  rw [List.getD_eq_getElem?_getD,List.getD_eq_getElem?_getD,List.getElem?_map]
  cases F.jobs[k.toNat]?<;>rfl
theorem SameT.task {F G:FS} (h:SameT F G) (v:Wkr):taskAt G v=taskAt F v:=by unfold taskAt;rw [jobAt_tasks,jobAt_tasks,h.2]
theorem AOk.same {F G:FS} {v:Wkr} {a:AS} (h:AOk F v a) (hs:SameT F G):AOk G v a:=
  ⟨h.u,h.h,h.c.trans (by rw [hs.1]),h.b,h.z,by rw [hs.task];exact h.m,h.r1,by rw [hs.task];exact h.r2,by rw [hs.task];exact h.r3⟩
theorem map_mem {F G:FS} (h:SameT F G) {P:TaskV->Prop} (hp:∀j∈F.jobs,∀t∈j.tasks,P t):∀j∈G.jobs,∀t∈j.tasks,P t:=by
  intro j hj t ht
  have h1:j.tasks∈G.jobs.map (·.tasks):=List.mem_map.2 ⟨j,hj,rfl⟩
  rw [h.2] at h1
  obtain ⟨j2,h2,h3⟩:=List.mem_map.1 h1
  exact hp j2 h2 t (by rw [h3];exact ht)
theorem AI.same {F G:FS} (h:AI F) (hs:SameT F G) (hw:G.ws=F.ws) (ha:G.ar=F.ar):AI G:=
  ⟨fun k v a hv h2=>(h.a k v a (by rw [<-hw];exact hv) (by rw [<-ha];exact h2)).same hs,by rw [hs.1];exact map_mem hs h.t,by rw [hs.1];exact h.n⟩
theorem AI.upd {F G:FS} {x:Nat} {v':Wkr} {a':AS} (h:AI F) (hl:F.ar.length=F.ws.length) (hs:SameT F G) (hw:G.ws=F.ws.set x v') (ha:G.ar=F.ar.set x a') (hv:∀v a,F.ws[x]?=some v->F.ar[x]?=some a->AOk F v a->AOk F v' a'):AI G:=by
 refine ⟨?_,by rw [hs.1];exact map_mem hs h.t,by rw [hs.1];exact h.n⟩
 intro k v a hk a0
 rw [hw] at hk;rw [ha] at a0
 rcases set_at' hk with ⟨rfl,rfl⟩|⟨e,hk⟩
 ·have b0:x<F.ws.length:=by have:=(List.getElem?_eq_some_iff.1 hk).1;simpa using this
  rcases set_at' a0 with ⟨_,rfl⟩|⟨e2,_⟩
  ·exact (hv _ _ (List.getElem?_eq_getElem b0) (List.getElem?_eq_getElem om) (h.a x _ _ (List.getElem?_eq_getElem b0) (List.getElem?_eq_getElem om))).same hs
  ·exact absurd rfl e2
 ·rcases set_at' a0 with ⟨e2,_⟩|⟨_,a0⟩
  ·exact absurd e2 e
  ·exact (h.a k v a hk a0).same hs
theorem tsk_set {jobs:List JS} {k:Nat} {j':JS} (h:∀j,jobs[k]?=some j->j'.tasks=j.tasks):(jobs.set k j').map (·.tasks)=jobs.map (·.tasks):=by
  rw [List.map_set]
  cases hj:jobs[k]? with
  |none=>rw [List.set_eq_of_length_le];rw [List.length_map];exact List.getElem?_eq_none_iff.1 hj
  |some j=>exact set_same (by rw [List.getElem?_map,hj,h j hj];rfl)
theorem tsk_jobAt {F:FS} {k:Int} {j:JS} (h:F.jobs[k.toNat]?=some j):(jobAt F k).tasks=j.tasks:=by unfold jobAt;rw [getD_some h]
theorem take_T {F:FS} {x:Int} {r:Ref}:SameT F (takeF F x r):=⟨rfl,tsk_set fun j hj=>by dsimp only;exact tsk_jobAt hj⟩
theorem spill_T {x job band:Int}:∀(l:List Int) {F:FS},SameT F (spillF F x job band l)/\(spillF F x job band l).ws=F.ws/\(spillF F x job band l).ar=F.ar/\(spillF F x job band l).jobs=F.jobs
  |[],_=>⟨⟨rfl,rfl⟩,rfl,rfl,rfl⟩
  |t::l,F=>by
    have h:SameT F (spill1 F x ⟨job,t⟩ band)/\(spill1 F x ⟨job,t⟩ band).ws=F.ws/\(spill1 F x ⟨job,t⟩ band).ar=F.ar/\(spill1 F x ⟨job,t⟩ band).jobs=F.jobs:=by unfold spill1;split<;>exact ⟨⟨rfl,rfl⟩,rfl,rfl,rfl⟩
    have ih:=spill_T (x:=x) (job:=job) (band:=band) l (F:=spill1 F x ⟨job,t⟩ band)
    exact ⟨h.1.trans ih.1,ih.2.1.trans h.2.1,ih.2.2.1.trans h.2.2.1,ih.2.2.2.trans h.2.2.2⟩
theorem ai_take {F F1:FS} {x:Int} {r:Ref} (h:AI F) (hl:F.ar.length=F.ws.length) (hT:SameT F F1) (hw:F1.ws=F.ws) (ha:F1.ar=F.ar) (hv:∀v,F.ws[x.toNat]?=some v->v.phase=0\/v.phase=4):AI (takeF F1 x r):=by
 by_cases hx:x.toNat<F.ws.length
 ·have a0:F.ar[x.toNat]?=some (F.ar.getD x.toNat default):=by rw [List.getD_eq_getElem?_getD,List.getElem?_eq_getElem om];rfl
  exact h.upd (G:=takeF F1 x r) (x:=x.toNat) (v':=⟨1,r.job,r.task,(startB (jobAt F1 r.job).B r.task).2.1,0,0,(F1.ar.getD x.toNat default).high⟩) (a':=F.ar.getD x.toNat default) hl (hT.trans take_T) (by unfold takeF;rw [hw]) (by rw [set_same a0];exact ha) fun v a h1 h2 h3=>(by rw [a0] at h2;obtain rfl:=Option.some.inj h2;have hz:=h3.z (by have:=hv v h1;omega);refine ⟨hz.1.symm,by rw [ha],h3.c,h3.b,fun _=>hz,fun k=>by dsimp only at k;omega,fun _=>rfl,fun k=>by dsimp only at k;omega,fun k=>by dsimp only at k;omega⟩)
 · exact (by have h1:takeF F1 x r={takeF F1 x r with ws:=F.ws}:=(by unfold takeF;rw [hw,List.set_eq_of_length_le om]);have h2:SameT F1 (takeF F1 x r):=take_T;rw [h1];exact h.same (hT.trans ⟨h2.1,h2.2⟩) rfl ha)
theorem align0:alignI 0 16=0:=by decide
theorem ai_micro {F:FS} {K x:Int} {v:Wkr} {j:JS} (hF:FW F K) (h:AI F) (hx:0<=x/\x<(F.ws.length:Int)) (hv:F.ws[x.toNat]?=some v) (hh:Holds v) (hj:F.jobs[v.heldJob.toNat]?=some j):
  AI (microF F x).1:=by
 have c0:=hF.al
 have b0:F.ar[x.toNat]?=some (F.ar.getD x.toNat default):=by rw [List.getD_eq_getElem?_getD,List.getElem?_eq_getElem om];rfl
 have hA:=h.a _ _ _ hv b0
 have hr:=hF.w v (List.mem_of_getElem? hv)
 have g0:=hr.t hh
 obtain ⟨j2,f0,ha,hB,hd,o0,p0,hn,ht⟩:=hF.job g0
 rw [show (⟨v.heldJob,v.heldTask⟩:Ref).job=v.heldJob from rfl,hj] at f0;obtain rfl:=Option.some.inj f0
 have e:jobAt F v.heldJob=j:=getD_some hj
 have h0:taskAt F v=j.tasks.getD v.heldTask.toNat default:=by unfold taskAt;rw [e]
 have n0:taskAt F v∈j.tasks:=(by rw [h0];have:v.heldTask.toNat<j.tasks.length:=(by have:=g0.2.2.1;dsimp only at this ht;omega);rw [List.getD_eq_getElem?_getD,List.getElem?_eq_getElem this];exact List.getElem_mem this)
 have r0:=h.t j (List.mem_of_getElem? hj) _ n0
 have q0:=h.n
 unfold microF
 simp only [getD_some hv,e,<-h0]
 split
 ·rename_i p1
  obtain ⟨z1,z2⟩:=hA.z (.inr (.inl p1))
  have k0:markA (F.ar.getD x.toNat default)={F.ar.getD x.toNat default with marks:=[0]}:=(by have l0:(F.ar.getD x.toNat default).marks++[(F.ar.getD x.toNat default).used]=[0]:=(by rw [z2,z1];rfl);unfold markA;rw [if_neg (by rw [z2];decide),l0])
  refine h.upd (x:=x.toNat) c0 ⟨rfl,rfl⟩ rfl rfl fun v0 a0 h1 h2 h3=>?_
  rw [b0] at h2;obtain rfl:=Option.some.inj h2
  rw [hv] at h1;obtain rfl:=Option.some.inj h1
  have hb:=hA.b
  have hc:=hA.c
  rw [k0]
  split
  ·rename_i hs
   have j0:allocC {F.ar.getD x.toNat default with marks:=[0]} (taskAt F v).scratch 16=0:=(by unfold allocC;dsimp only;rw [z1,align0,if_neg om,if_pos om])
   have d0:allocA {F.ar.getD x.toNat default with marks:=[0]} (taskAt F v).scratch 16={F.ar.getD x.toNat default with marks:=[0],used:=0+(taskAt F v).scratch,high:=max (F.ar.getD x.toNat default).high (0+(taskAt F v).scratch)}:=(by unfold allocA;rw [if_pos j0];dsimp only;rw [z1,align0])
   rw [d0]
   refine ⟨rfl,rfl,hc,by dsimp only;omega,fun k=>by dsimp only at k;omega,fun _=>⟨rfl,?_⟩,fun k=>by dsimp only at k;omega,fun _=>?_,fun k=>by dsimp only at k;omega⟩
   ·show 0+(taskAt F v).scratch=(taskAt F v).scratch;omega
   ·show v.row<(taskAt F v).rows;rw [hA.r1 p1];omega
  ·rename_i hs
   refine ⟨rfl,rfl,hc,hb,fun k=>by dsimp only at k;omega,fun _=>⟨rfl,?_⟩,fun k=>by dsimp only at k;omega,fun _=>?_,fun k=>by dsimp only at k;omega⟩
   ·show (F.ar.getD x.toNat default).used=(taskAt F v).scratch;omega
   ·show v.row<(taskAt F v).rows;rw [hA.r1 p1];omega
 ·split
  ·rename_i p2
   have hm:=hA.m (.inl p2)
   have m0:=hA.r2 p2
   refine h.upd (x:=x.toNat) (a':=F.ar.getD x.toNat default) c0 ⟨rfl,rfl⟩ rfl (by rw [set_same b0]) fun v0 a0 h1 h2 h3=>?_
   rw [b0] at h2;obtain rfl:=Option.some.inj h2
   refine ⟨hA.u,hA.h,hA.c,hA.b,fun k=>?_,fun _=>hm,fun k=>?_,fun k=>?_,fun k=>?_⟩
   ·dsimp only at k;split at k<;>omega
   ·dsimp only at k;split at k<;>omega
   · exact (by show v.row+1<(taskAt F v).rows;dsimp only at k;split at k<;>omega)
   · exact (by show v.row+1=(taskAt F v).rows;dsimp only at k;split at k<;>omega)
  ·have p3:v.phase=3:=by unfold Holds at hh;omega
   have hm:=hA.m (.inr p3)
   have e0:relA (F.ar.getD x.toNat default)={F.ar.getD x.toNat default with used:=0,marks:=[]}:=(by unfold relA;rw [hm.1];rfl)
   have i0:∀G:FS,SameT F G->G.ws=F.ws.set x.toNat ⟨0,0,0,0,0,0,(relA (F.ar.getD x.toNat default)).high⟩->G.ar=F.ar.set x.toNat (relA (F.ar.getD x.toNat default))->AI G:=(by intro G hT hw ha2;refine h.upd (x:=x.toNat) c0 hT hw ha2 fun v0 a0 h1 h2 h3=>?_;have hb:=hA.b;rw [e0];exact ⟨rfl,rfl,hA.c,by dsimp only;omega,fun _=>⟨rfl,rfl⟩,fun k=>by dsimp only at k;omega,fun k=>by dsimp only at k;omega,fun k=>by dsimp only at k;omega,fun k=>by dsimp only at k;omega⟩)
   have hs:=spill_T (x:=x) (job:=v.heldJob) (band:=j.band) (comB j.B v.heldTask v.attempt).2 (F:={F with jobs:=F.jobs.set v.heldJob.toNat {j with B:=(comB j.B v.heldTask v.attempt).1},ar:=F.ar.set x.toNat (relA (F.ar.getD x.toNat default)),ws:=F.ws.set x.toNat ⟨0,0,0,0,0,0,(relA (F.ar.getD x.toNat default)).high⟩,st:={F.st with commits:=F.st.commits+1}})
   split
   ·exact i0 _ ⟨hs.1.1,tsk_set fun j3 h3=>(by rw [hj] at h3;rw [<-Option.some.inj h3])⟩ hs.2.1 hs.2.2.1
   ·exact i0 _ ⟨hs.1.1,(by rw [hs.1.2];exact tsk_set fun j3 h3=>by rw [hj] at h3;rw [<-Option.some.inj h3])⟩ hs.2.1 hs.2.2.1
theorem ai_clear {F:FS} {K x ph:Int} {s:Stt} (hF:FW F K) (h:AI F) (hx:0<=x/\x<(F.ws.length:Int)) (hp:ph=0\/ph=4):AI (clearF F x ph s):=by
  exact h.upd (x:=x.toNat) hF.al ⟨rfl,rfl⟩ rfl rfl fun v a h1 h2 h3=>(by have e:arAt F x=a:=getD_some h2;rw [e];have hb:=h3.b;exact ⟨rfl,rfl,h3.c,by dsimp only [resetA];omega,fun _=>⟨rfl,rfl⟩,fun k=>by dsimp only at k;omega,fun k=>by dsimp only at k;omega,fun k=>by dsimp only at k;omega,fun k=>by dsimp only at k;omega⟩)
theorem ai_idle {F:FS} {K x:Int} (hF:FW F K) (h:AI F) (hx:0<=x/\x<(F.ws.length:Int)) (hp:(wAt F x).phase=4):AI (idleF F x 0):=by
 have b0:=hF.al
 have a0:F.ar[x.toNat]?=some (F.ar.getD x.toNat default):=by rw [List.getD_eq_getElem?_getD,List.getElem?_eq_getElem om];rfl
 exact h.upd (x:=x.toNat) (a':=F.ar.getD x.toNat default) b0 ⟨rfl,rfl⟩ rfl (by rw [set_same a0];rfl) fun v a h1 h2 h3=>(by rw [a0] at h2;obtain rfl:=Option.some.inj h2;have e:wAt F x=v:=getD_some h1;rw [e] at hp;have hz:=h3.z (.inr (.inr hp));exact ⟨hz.1.symm,rfl,h3.c,h3.b,fun _=>hz,fun k=>by dsimp only at k;omega,fun k=>by dsimp only at k;omega,fun k=>by dsimp only at k;omega,fun k=>by dsimp only at k;omega⟩)
theorem ret_T {F:FS} {v:Wkr}:SameT F (retJ F v)/\(retJ F v).ws=F.ws/\(retJ F v).ar=F.ar:=by
  unfold retJ
  split
  · exact ⟨⟨rfl,tsk_set fun j hj=>by dsimp only;exact tsk_jobAt hj⟩,rfl,rfl⟩
  · exact ⟨⟨rfl,rfl⟩,rfl,rfl⟩
theorem ai_crash {F:FS} {K x:Int} {v:Wkr} (hF:FW F K) (h:AI F) (hx:0<=x/\x<(F.ws.length:Int)):AI (crashW (retJ F v) x):=by
 obtain ⟨hT,hw,ha⟩:=ret_T (F:=F) (v:=v)
 have e:arAt (retJ F v) x=arAt F x:=by unfold arAt;rw [ha]
 refine h.upd (x:=x.toNat) (v':=⟨4,0,0,0,0,0,(arAt F x).high⟩) (a':=resetA (arAt F x)) hF.al (hT.trans ⟨rfl,rfl⟩) ?_ ?_ ?_
 ·show (retJ F v).ws.set x.toNat ⟨4,0,0,0,0,0,(arAt (retJ F v) x).high⟩=_;rw [hw,e]
 ·show (retJ F v).ar.set x.toNat (resetA (arAt (retJ F v) x))=_;rw [ha,e]
 intro v a h1 h2 h3
 have e:arAt F x=a:=getD_some h2
 rw [e]
 have hb:=h3.b
 exact ⟨rfl,rfl,h3.c,by dsimp only [resetA];omega,fun _=>⟨rfl,rfl⟩,fun k=>by dsimp only at k;omega,fun k=>by dsimp only at k;omega,fun k=>by dsimp only at k;omega,fun k=>by dsimp only at k;omega⟩
theorem ai_cancel {F:FS} {k:Int} (h:AI F):AI (cancelW F k):=
  h.same ⟨rfl,tsk_set fun j hj=>by dsimp only;exact tsk_jobAt hj⟩ rfl rfl
theorem ai_add {F:FS} {K x bd:Int} {l:List Task} {j:JS} (hF:FW F K) (hH:HI F) (h:AI F) (hx:0<=x) (hj:F.jobs[x.toNat]?=some j) (ha:j.added=false) (hv:validC l=0) (hs:∀z∈l,z.scratch<=F.cfg.arena):AI (addF F x l bd):=by
 refine ⟨?_,?_,h.n⟩
 ·intro k v a h1 h2
  have h3:AOk F v a:=h.a k v a h1 h2
  have hk:Holds v->taskAt (addF F x l bd) v=taskAt F v:=by
   intro hh
   obtain ⟨j2,g1,g2,_⟩:=hH.h k v h1 hh
   unfold taskAt jobAt addF
   dsimp only
   rw [List.getD_eq_getElem?_getD,List.getD_eq_getElem?_getD,List.getElem?_set,if_neg]
   ·rw [<-List.getD_eq_getElem?_getD,<-List.getD_eq_getElem?_getD]
   ·intro e;rw [e,g1] at hj;rw [Option.some.inj hj,ha] at g2;cases g2
  exact ⟨h3.u,h3.h,h3.c,h3.b,h3.z,fun k=>by rw [hk (by unfold Holds;omega)];exact h3.m k,h3.r1,fun k=>by rw [hk (by unfold Holds;omega)];exact h3.r2 k,fun k=>by rw [hk (by unfold Holds;omega)];exact h3.r3 k⟩
 · exact mem_set' h.t fun t ht=>(by obtain ⟨z,hz,rfl⟩:=List.mem_map.1 ht;obtain ⟨i,hi⟩:=List.getElem?_of_mem hz;have h1:=tasksOK_at (validC_zero hv).2.2 hi;have a0:=h1;unfold taskOK at h1;have h2:=of_decide_eq_true ((Bool.and_eq_true _ _).mp h1).1;have h3:=asc_len om (taskOK_asc a0);have h4:=(validC_zero hv).2.1;have h5:=(List.getElem?_eq_some_iff.1 hi).1;exact ⟨h2.2,hs z hz,h2.1.1,h2.1.2,by show z.deps.l.length<=4096;omega⟩)
theorem ai_new {c:Cfg} (hv:validCfg c=0):AI (newF c):=by
  have h:=validCfg_zero hv
  refine ⟨?_,?_,h.2.2.2.1⟩
  · exact (by intro k v a h1 h2;obtain rfl:=rep_at h1;obtain rfl:=rep_at h2;exact ⟨rfl,rfl,rfl,⟨Int.le_refl 0,Int.le_refl 0,h.2.2.2.1.1⟩,fun _=>⟨rfl,rfl⟩,fun k=>by dsimp only at k;omega,fun k=>by dsimp only at k;omega,fun k=>by dsimp only at k;omega,fun k=>by dsimp only at k;omega⟩)
  · intro j hj t ht
    obtain rfl:=List.eq_of_mem_replicate hj
    cases ht
structure FI (F:FS) (K:Int):Prop where
  fw:FW F K
  st:StOk F.st K
  q:QI F
  h:HI F
  a:AI F
theorem FI.mono {F:FS} {K L:Int} (h:FI F K) (hk:K<=L) (hL:L<=4096):FI F L:=⟨h.fw.mono hk hL,h.st.mono hk,h.q,h.h,h.a⟩
theorem FI.new {c:Cfg} (hv:validCfg c=0):FI (newF c) 0:=by
  have h1:=newF_ok hv
  have h2:=inv_new (c:=c) (by have:=validCfg_zero hv;omega)
  exact ⟨h1.1,h1.2,h2.1,h2.2,ai_new hv⟩
theorem FI.idle {F:FS} {K x:Int} {v:Wkr} (h:FI F K) (hv:F.ws[x.toNat]?=some v) (hn:¬Holds v):v.phase=0\/v.phase=4:=(h.h.z _ v hv hn).2.2.2.2
theorem FI.add {F:FS} {K x bd:Int} {l:List Task} {j:JS} (h:FI F K) (hx:0<=x/\x<64) (hj:F.jobs[x.toNat]?=some j) (ha:j.added=false) (hb:0<=bd/\bd<4) (hv:validC l=0) (hs:∀z∈l,z.scratch<=F.cfg.arena) (htk:(l.length:Int)<=F.cfg.tasks-loadL F.jobs):FI (addF F x l bd) K:=by
  have h1:=add_ok (l:=l) h.fw hx (fun j2 h2=>by rw [hj] at h2;rw [<-Option.some.inj h2];exact ha) hb hv
  have h2:=inv_add h.fw h.q h.h htk hx.1 hb hj ha
  exact ⟨h1,h.st,h2.1,h2.2,ai_add h.fw h.h h.a hx.1 hj ha hv hs⟩
theorem FI.acq {F F':FS} {K x c:Int} {ev:Evt} (h:FI F K) (hx:0<=x/\x<(F.ws.length:Int)) (hn:¬Holds (wAt F x)) (he:acqF F x c=some (F',ev)):QI F'/\HI F'/\AI F':=by
 have hv:=h.fw.wmem hx
 have h1:=inv_acq h.fw h.q h.h hx (fun v k=>by rw [hv] at k;rw [<-Option.some.inj k];exact hn) he
 refine ⟨h1.1,h1.2.1,?_⟩
 have a0:∀v,F.ws[x.toNat]?=some v->v.phase=0\/v.phase=4:=fun v k=>h.idle k (by rw [hv] at k;rw [<-Option.some.inj k];exact hn)
 unfold acqF at he
 split at he
 · exact (by obtain ⟨rfl,_⟩:=Prod.mk.inj (Option.some.inj he);exact ai_take (F1:=popF F x _) h.a h.fw.al ⟨rfl,rfl⟩ rfl rfl a0)
 ·split at he
  · exact (by rename_i r bs hq;obtain ⟨rfl,_⟩:=Prod.mk.inj (Option.some.inj he);exact ai_take (F1:={F with q:={F.q with bs:=bs}}) h.a h.fw.al ⟨rfl,rfl⟩ rfl rfl a0)
  ·unfold stealF at he
   split at he
   ·cases he
   ·split at he
    ·cases he
    · exact (by rename_i i hi _ r hr;obtain ⟨rfl,_⟩:=Prod.mk.inj (Option.some.inj he);exact (ai_take (F1:=popF F (chF F c i) (dqAt F (chF F c i)).l.tail) (r:=r) h.a h.fw.al ⟨rfl,rfl⟩ rfl rfl a0).same ⟨rfl,rfl⟩ rfl rfl)
theorem FI.micro {F:FS} {K x:Int} (h:FI F K) (hK:K+1<=4096) (hx:0<=x/\x<(F.ws.length:Int)) (hb:busyW F (wAt F x)=true):QI (microF F x).1/\HI (microF F x).1/\AI (microF F x).1:=by
  unfold busyW at hb
  obtain ⟨h1,h2⟩:=(Bool.and_eq_true _ _).mp hb
  have hh:Holds (wAt F x):=(of_decide_eq_true h1:_\/_\/_)
  have hv:=h.fw.wmem hx
  obtain ⟨j,hj,_,_⟩:=h.h.h _ _ hv hh
  have a0:j.running=true:=by unfold jobAt at h2;rw [getD_some hj] at h2;exact h2
  obtain ⟨g1,g2⟩:=inv_micro h.fw hK h.q h.h hx hv hh hj a0
  exact ⟨g1,g2,ai_micro h.fw h.a hx hv hh hj⟩
theorem FI.help {F:FS} {K:Int} (h:FI F K):QI (helpF F)/\HI (helpF F)/\AI (helpF F):=
  ⟨⟨h.q.c,h.q.q4,h.q.cap,h.q.ld⟩,⟨h.h.h,h.h.d,h.h.z⟩,h.a.same ⟨rfl,rfl⟩ rfl rfl⟩
theorem FI.step {F:FS} {K x c:Int} (h:FI F K) (hK:K+1<=4096):FI (stepF F x c).1 (K+1):=by
 obtain ⟨k1,k2,_⟩:=step_ok (x:=x) (c:=c) h.fw h.st hK
 have h3:QI (stepF F x c).1/\HI (stepF F x c).1/\AI (stepF F x c).1:=by
  unfold stepF
  split
  ·exact ⟨h.q,h.h,h.a⟩
  ·rename_i hx
   have hx:=Classical.not_not.1 hx
   split
   ·exact ⟨h.q,h.h,h.a⟩
   ·split
    ·rename_i hh
     split
     · exact (by rename_i hr;exact h.micro hK hx (by unfold busyW;rw [hr,decide_eq_true hh];rfl))
     · exact (by have g:=inv_drop (F:=F) (x:=x) (s:={F.st with drops:=F.st.drops+1}) h.q h.h (.inl (rfl:(0:Int)=0));exact ⟨g.1,g.2,ai_clear h.fw h.a hx (.inl rfl)⟩)
    ·rename_i hh
     unfold restF
     split
     · exact (by rename_i q hq;exact h.acq hx hh (ev:=q.2) hq)
     ·split
      ·rename_i i hi
       have h2:=(first_some hi).2.2
       unfold canHelp at h2
       have h4:=((Bool.and_eq_true _ _).mp h2).2
       have hb:=chF_bd (F:=F) (c:=c) (i:=i) h.fw.n.1
       have hF:FI (helpF F) (K+1):=by
        have:=h.help
        refine ⟨(h.fw.mono om hK).ss,?_,this.1,this.2.1,this.2.2⟩
        obtain ⟨_,_,_,_,_,_,_⟩:=h.st
        constructor<;>(simp only [helpF];omega)
       have c0:FI (helpF F) K\/True:= .inr trivial
       have hw:FW (helpF F) K:=h.fw.ss
       unfold busyW at h4
       obtain ⟨a1,a2⟩:=(Bool.and_eq_true _ _).mp h4
       have a0:Holds (wAt F (chF F c i)):=(of_decide_eq_true a1:_\/_\/_)
       have hv:=h.fw.wmem hb
       obtain ⟨j,hj,_,_⟩:=h.h.h _ _ hv a0
       have b0:j.running=true:=by unfold jobAt at a2;rw [getD_some hj] at a2;exact a2
       obtain ⟨g1,g2⟩:=inv_micro (F:=helpF F) hw hK hF.q hF.h hb hv a0 hj b0
       exact ⟨g1,g2,ai_micro (F:=helpF F) hw hF.a hb hv a0 hj⟩
      ·exact ⟨h.q,h.h,h.a⟩
 exact ⟨k1,k2,h3.1,h3.2.1,h3.2.2⟩
theorem FI.crash {F:FS} {K x:Int} (h:FI F K) (hK:K+1<=4096):FI (crashF F x).1 (K+1):=by
  obtain ⟨k1,k2,_⟩:=crash_ok (x:=x) h.fw h.st hK
  have h3:QI (crashF F x).1/\HI (crashF F x).1/\AI (crashF F x).1:=by
    unfold crashF
    split
    · exact ⟨h.q,h.h,h.a⟩
    · rename_i hx
      have hx:=Classical.not_not.1 hx
      split
      · exact ⟨h.q,h.h,h.a⟩
      · exact (by have g:=inv_crash h.fw h.q h.h hx (h.fw.wmem hx);exact ⟨g.1,g.2,ai_crash h.fw h.a hx⟩)
  exact ⟨k1,k2,h3.1,h3.2.1,h3.2.2⟩
theorem FI.restart {F:FS} {K x:Int} (h:FI F K) (hK:K+1<=4096):FI (restartF F x).1 (K+1):=by
  obtain ⟨k1,k2,_⟩:=restart_ok (x:=x) h.fw h.st hK
  have h3:QI (restartF F x).1/\HI (restartF F x).1/\AI (restartF F x).1:=by
    unfold restartF
    split
    · exact ⟨h.q,h.h,h.a⟩
    · rename_i hx
      have hx:=Classical.not_not.1 hx
      split
      · exact (by rename_i h4;have g:=inv_idle (F:=F) (x:=x) h.q h.h;exact ⟨g.1,g.2,ai_idle h.fw h.a hx h4⟩)
      · exact ⟨h.q,h.h,h.a⟩
  exact ⟨k1,k2,h3.1,h3.2.1,h3.2.2⟩
theorem FI.cancel {F:FS} {K k:Int} (h:FI F K) (hK:K+1<=4096):FI (cancelF F k).1 (K+1):=by
 obtain ⟨k1,k2,_⟩:=cancel_ok (k:=k) h.fw h.st hK
 have h3:QI (cancelF F k).1/\HI (cancelF F k).1/\AI (cancelF F k).1:=by
  unfold cancelF
  split
  ·exact ⟨h.q,h.h,h.a⟩
  ·rename_i hk
   split
   ·exact ⟨h.q,h.h,h.a⟩
   ·have hj:F.jobs[k.toNat]?=some (jobAt F k):=(by unfold jobAt;have h1:k.toNat<F.jobs.length:=(by rw [h.fw.jl];omega);rw [List.getD_eq_getElem?_getD,List.getElem?_eq_getElem h1];rfl)
    have g:=inv_cancel (F:=F) (k:=k) h.q h.h om hj
    exact ⟨g.1,g.2,ai_cancel h.a⟩
 exact ⟨k1,k2,h3.1,h3.2.1,h3.2.2⟩
end Go.Proofs.YtkadmghedmodbaaGreat
namespace Go.E
theorem Sat.unflat4 {W w:World} {c d e f:Chunk} {cs:List Chunk} (h:Sat W w [c,d,e,f,cs.flatten]):Sat W w (c::d::e::f::cs):=h.perm (by simp)
theorem partAddr_zero {a:Option Addr} {n sz:Nat} (h:∀q,a=some q->∃b off,q=⟨b,off,none⟩):partAddr a n 0 sz=a:=by
  unfold partAddr
  split
  · rfl
  · cases a with
    |none=>rfl
    |some q=>
      obtain ⟨b,off,rfl⟩:=h q rfl
      simp only [Option.map_some,Nat.zero_mul,add_off];rfl
theorem OwnS.cut {E:TypeId} {a:Option Addr} {len cap i sz:Nat} {l:List Value} {c:Chunk} (h:OwnS E sz a len cap l c) (h1:i<=len):
  OwnS E sz (partAddr a i 0 sz) i i (l.take (i*sz)) c:=by
 obtain ⟨hl,hr⟩:=h
 have c0:i*sz<=len*sz:=Nat.mul_le_mul_right _ h1
 refine ⟨by simp;omega,?_⟩
 rcases hr with ⟨rfl,rfl,rfl,rfl⟩|⟨b,a0,b0,rfl,rfl,h2,h3,h4,h5⟩
 · exact (by left;obtain rfl:i=0:=(by omega);exact ⟨by rw [partAddr_zero (fun q h=>by cases h)],rfl,rfl,rfl⟩)
 · exact (by right;have hc:i*sz<=cap*sz:=Nat.mul_le_mul_right _ om;exact ⟨b,a0,b0,partAddr_zero (fun q h=>⟨b,a0,(Option.some.inj h).symm⟩),rfl,Nat.le_refl _,om,om,(by rw [<-h5,List.take_take,Nat.min_eq_left c0])⟩)
theorem OwnT.cut {α:Type} {enc:α->List Value} {E sz:Nat} {a:Option Addr} {len cap i:Nat} {xs:List α} {c:Chunk} (h:OwnT enc E sz a len cap xs c) (h1:i<=len):
    OwnT enc E sz (partAddr a i 0 sz) i i (xs.take i) c:=by
  exact ⟨by simp [h.1];omega,h.2.1,(by rw [<-flatMap_take h.2.1];exact h.2.2.cut h1)⟩
theorem run_bounds3 {P:Program} {w:World} {len cap n:Nat} {k k':IntKind} {i:Int} (h0:0<=i) (hn:i.toNat=n) (h2:n<=cap):(Instr.sliceBounds true len cap none (some (.int k i)) (some (.int k' i))).run P w= .ok (0,n,n) w:=by
  subst hn
  have e1:(0<=i/\i<=(cap:Int)):=⟨h0,by omega⟩
  have e2:(0<=i/\i<=(i.toNat:Int)):=⟨h0,by omega⟩
  simp only [Instr.sliceBounds,Instr.sliceBound,asIntOf]
  simp only [Sem.run_bind,Sem.run_pure,Result.andThen,if_pos e1,if_pos e2]
theorem Y_sl3 {P:Program} {ρ:Env} {o:Oper} {w:World} (hi:Int) (n:Nat) {t E:TypeId} {x:Operand} {lo hi' mx:Option Operand} {a:Option Addr} {len cap sz:Nat} (hu:∀w,(underlying t).run P w= .ok (.slice E) w)
  (hsz:∀w,(sizeOf E).run P w= .ok sz w) (h0:0<=hi) (hn:hi.toNat=n) (h2:n<=cap)
  (ho:o.op= .slice t x lo hi' mx:=by rfl) (hlo:lo=none:=by rfl) (hx:ev ρ x= .slice a len cap:=by kernel_rfl)
  (e1:hi'.map (ev ρ)=some (I hi):=by kernel_rfl) (e2:mx.map (ev ρ)=some (I hi):=by kernel_rfl):Yields P ρ o (.slice (partAddr a n 0 sz) n n) w:=by
 unfold Yields execOp
 rw [ho,hlo]
 simp [Instr.sliceAt,hu,Instr.slice,hx,e1,e2,run_bounds3 h0 hn h2,hsz,partAddr]
end Go.E
namespace Go.E
section
variable {P:Program} {n:Nat} {ρ:Env} {W w:World} {cs:List Chunk} {ops:Array Oper} {rest:List Oper} {N:Env->World->Prop} {o:Oper}
end
end Go.E
namespace Go.E
def keyI (k:Int):Value:= .int .i64 k
def kvE (e:MapEntry):Value×Value:=(e.key,e.val)
def kvQ (q:Int×Value):Value×Value:=(keyI q.1,q.2)
def MapI (b:Nat) (ks:List (Int×Value)) (c:Chunk):Prop:=∃(es:Array MapEntry) (clock:Nat),c=[(b, .map es clock)]/\es.toList.map kvE=ks.map kvQ/\(es.toList.map (·.born)).Nodup/\∀e∈es.toList,e.born<clock
def iget (ks:List (Int×Value)) (k:Int):Option Value:=(ks.find? fun q=>q.1==k).map (·.2)
section
variable {P:Program} {n:Nat} {ρ:Env} {W w:World} {cs:List Chunk} {ops:Array Oper} {rest:List Oper} {N:Env->World->Prop} {o:Oper}
def RngI (it b:Nat) (ks rest:List (Int×Value)) (lst:Option (Int×Value)) (cm ci:Chunk):Prop:=∃(es:Array MapEntry) (clock:Nat) (seen:Array Nat),cm=[(b, .map es clock)]/\es.toList.map kvE=ks.map kvQ/\(es.toList.map (·.born)).Nodup/\(∀e∈es.toList,e.born<clock)/\
  ci=[(it, .mapIter (some b) clock seen clock)]/\(leftOf es seen).toList.map kvE=rest.map kvQ/\∀q,lst=some q->∃e∈es.toList,kvE e=kvQ q/\seen.back?=some e.born
theorem RngI.map {it b:Nat} {ks rest:List (Int×Value)} {lst:Option (Int×Value)} {cm ci:Chunk} (h:RngI it b ks rest lst cm ci):MapI b ks cm:=by
  obtain ⟨es,a0,b0,h1,h2,h3,h4,_⟩:=h;exact ⟨es,a0,h1,h2,h3,h4⟩
end
end Go.E
namespace Go.Proofs.YtkadmghedmodbaaGreat
open Go Go.E Go.Proofs.Tryz
set_option linter.all false
set_option maxRecDepth 100000
set_option maxHeartbeats 2000000
variable {W w:World} {H:Chunk} {F:List Chunk}
theorem b_entry {p:Nat} {a:Option Addr} {n k:Nat} {es:List BEnt} {c:Chunk} {d:Int} (hO:OwnT encBEnt 175 4 a n k es c) (i:Int) (hS:Sat W w ([(p, .cells #[.slice a n k,I d] 172 (0,0))]::c::F)):
  Calls prog 170 #[Pt p 0,I i] w fun e w'=>Sat W w' ([(p, .cells #[.slice a n k,I d] 172 (0,0))]::c::F)/\((¬(0<=i/\i<n)/\e= .returned (.pointer none))\/((0<=i/\i<n)/\∃(x:BEnt) (b o:Nat),e= .returned (.pointer (some ⟨b,o+i.toNat*4,none⟩))/\es[i.toNat]?=some x/\a=some ⟨b,o,none⟩)):=by
 have g0:=hO.ll
 exact callsK 26 func170 rfl<|jCO 15 rfl<|sD 11 (i<0) (fun a0=>jOR 18 rfl<|retT [.pointer none]<|⟨hS, .inl ⟨om,rfl⟩⟩) fun a0=>gOC hS 10 [0] rfl<|cD (i>=(n:Int)) (fun b0=>jCR 7 rfl<|retT [.pointer none]<|⟨hS, .inl ⟨om,rfl⟩⟩) fun b0=>gCO hS 9 [0] rfl<|sIO hO i (i).toNat fun _ c0 d0 e0 _ f0=>jOR 4 rfl<|retT [.pointer (some ⟨c0,d0+(i).toNat*4,none⟩)]<|⟨hS, .inr ⟨om,_,_,_,rfl,e0,f0⟩⟩
theorem b_held {p:Nat} {a:Option Addr} {n k:Nat} {es:List BEnt} {c:Chunk} {d:Int} (hO:OwnT encBEnt 175 4 a n k es c) (i m:Int) (hS:Sat W w ([(p, .cells #[.slice a n k,I d] 172 (0,0))]::c::F)):
  Calls prog 111 #[Pt p 0,I i,I m] w fun e w'=>Sat W w' ([(p, .cells #[.slice a n k,I d] 172 (0,0))]::c::F)/\((¬(0<=i/\i<n)/\e= .returned (.tuple #[.pointer none,I 16]))\/((0<=i/\i<n)/\∃x:BEnt,es[i.toNat]?=some x/\¬(x.state=3/\x.attempt=m)/\e= .returned (.tuple #[.pointer none,I 20]))\/((0<=i/\i<n)/\∃(x:BEnt) (b o:Nat),e= .returned (.tuple #[.pointer (some ⟨b,o+i.toNat*4,none⟩),I 0])/\es[i.toNat]?=some x/\a=some ⟨b,o,none⟩/\x.state=3/\x.attempt=m)):=by
 have l0:=hO.ll
 refine callsK 28 func111 rfl<|jCO 10 rfl ?_
 have g0:=(hS.picks [1,1])
 refine cZ (b_entry hO i g0) ?_
 rintro _ _ ⟨a0,(⟨b0,rfl⟩|⟨b0,c0,h0,i0,rfl,d0,e0⟩)⟩
 ·exact jOR 19 rfl<|retT [.pointer none,I 16]<|⟨a0, .inl ⟨b0,rfl⟩⟩
 have f0:=OwnT.ptr hO e0 d0
 exact jOO 19 rfl<|sMp a0 (f0.up 1 rfl) 0 (I c0.state)<|pu2<|SN 19 c0.state 3 (fun j0=>jOR 18 rfl<|retT [.pointer none,I 20]<|⟨a0, .inr (.inl ⟨b0,_,d0,om,rfl⟩)⟩) fun j0=>pu3<|gY<|sMp a0 (f0.up 1 rfl) 1 (I c0.attempt)<|jOC 5 rfl<|CN c0.attempt m (fun k0=>jCR 8 rfl<|retT [.pointer none,I 20]<|⟨a0, .inr (.inl ⟨b0,_,d0,om,rfl⟩)⟩) fun k0=>jCR 10 rfl<|retT [.pointer (some ⟨h0,i0+i.toNat*4,none⟩),I 0]<|⟨a0, .inr (.inr ⟨b0,_,_,_,rfl,d0,e0,om⟩)⟩
theorem b_start {p:Nat} {B:BS} {K:Int} {M:Chunk} (hB:BoardR p B M) (hW:BWf B K) (i:Int) (hS:Sat W w (M::H::F)):
  Calls prog 176 #[Pt p 0,I i] w fun e w'=>∃M':Chunk,e= .returned (.tuple #[I (startB B i).2.1,I (startB B i).2.2])/\BoardR p ((startB B i).1) M'/\Sat W w' (M'::H::F):=by
 obtain ⟨a,n,k,es,c,G,rfl,hO,hD,hE⟩:=hB
 have hS:Sat W _ ([(p, .cells #[.slice a n k,I (doneOf B)] 172 (0,0))]::c::G::H::F):=Sat.perm hS (by simp)
 have x0:=hO.ll;have v0:=entsOf_len hE;have t0:=hW.ls;have u0:=hW.la;have y0:=hW.n0
 refine callsK 24 func176 rfl<|jCO 10 rfl ?_
 have h0:=(hS.picks [1,1])
 refine cZ (b_entry hO i h0) ?_
 rintro _ _ ⟨c0,(⟨i0,rfl⟩|⟨i0,a0,_,_,rfl,b0,d0⟩)⟩
 · exact jOR 19 rfl<|retT [I 0,I 16]<|(by have j0:Sat W _ (([(p, .cells #[.slice a n k,I (doneOf B)] 172 (0,0))]++(c++G))::H::F):=Sat.perm c0 (by simp);have s0:¬inB B i:=(by unfold inB;omega);have he:startB B i=(B,0,16):=(by unfold startB;rw [if_neg s0]);exact ⟨_,by rw [he];rfl,by rw [he];exact ⟨_,_,_,es,c,G,rfl,hO,hD,hE⟩,j0⟩)
 have k0:=OwnT.ptr hO d0 b0
 refine jOO 19 rfl<|sMp c0 (k0.up 1 rfl) 0 (I a0.state)<|jOC 3 rfl<|CN a0.state 2 (fun l0=>jCR 8 rfl<|retT [I 0,I 20]<|(by have o0:=entAt hE b0;have r0:inB B i:=(by unfold inB;omega);have m0:Sat W _ (([(p, .cells #[.slice a n k,I (doneOf B)] 172 (0,0))]++(c++G))::H::F):=Sat.perm c0 (by simp);have he:startB B i=(B,0,20):=(by unfold startB;rw [if_pos r0,if_neg (by rw [stAt_nat _ om];omega)]);exact ⟨_,by rw [he];rfl,by rw [he];exact ⟨_,_,_,es,c,G,rfl,hO,hD,hE⟩,m0⟩)) fun l0=>jCO 7 rfl<|sStF c0 hO d0 1 i.toNat 0 a0 (⟨3,a0.attempt,a0.pending,a0.next⟩:BEnt) b0 (I 3) [I 3] sizeOf3 fun _ e0 f0 g0=>jOO 7 rfl<|sMp g0 ((OwnT.ptr f0 d0 (set_at (y:=(⟨3,a0.attempt,a0.pending,a0.next⟩:BEnt)) b0)).up 1 rfl) 1 (I a0.attempt)<|jOR 5 rfl<|retT [I a0.attempt,I 0] ?_
 have o0:=entAt hE b0
 have r0:inB B i:=by unfold inB;omega
 have q0:Sat W _ (([(p, .cells #[.slice a n k,I (doneOf B)] 172 (0,0))]++(e0++G))::H::F):=Sat.perm g0 (by simp)
 have he:startB B i=(⟨B.deps,B.st.set i.toNat 3,B.att⟩,B.att.getD i.toNat 0,0):=by unfold startB;rw [if_pos r0,if_pos (by rw [stAt_nat _ om];omega)]
 have p0:=ents_state (x':=(⟨3,a0.attempt,a0.pending,a0.next⟩:BEnt)) (y:=3) t0 u0 hE b0 om om rfl o0.2.2.1 rfl rfl
 rw [set_self] at p0
 refine ⟨_,by rw [he];exact congrArg (fun z=>Ending.returned (.tuple #[I z,I 0])) o0.2.2.1,by rw [he];exact ⟨_,_,_,_,e0,G,by rw [p0.2],f0,ok_set hD b0 rfl,p0.1⟩,q0⟩
theorem b_return {p:Nat} {B:BS} {K:Int} {M:Chunk} (hB:BoardR p B M) (hW:BWf B K) (i:Int) (m:Int) (hK:K<=4611686018427387904) (hS:Sat W w (M::H::F)):
  Calls prog 63 #[Pt p 0,I i,I m] w fun e w'=>∃M':Chunk,e= .returned (I (heldC B i m))/\BoardR p (retB B i m) M'/\Sat W w' (M'::H::F):=by
 obtain ⟨a,n,k,es,c,G,rfl,hO,hD,hE⟩:=hB
 have hS:Sat W _ ([(p, .cells #[.slice a n k,I (doneOf B)] 172 (0,0))]::c::G::H::F):=Sat.perm hS (by simp)
 have C0:=hO.ll;have A0:=entsOf_len hE;have x0:=hW.ls;have y0:=hW.la;have D0:=hW.n0
 refine callsK 29 func63 rfl<|jCO 10 rfl ?_
 have k0:=(hS.picks [1,1])
 refine cZ (b_held hO i m k0) ?_
 rintro _ _ ⟨d0,(⟨e0,rfl⟩|⟨e0,a0,b0,l0,rfl⟩|⟨e0,a0,_,_,rfl,b0,c0,l0⟩)⟩
 · exact jOR 23 rfl<|retT [I 16]<|(by have m0:Sat W _ (([(p, .cells #[.slice a n k,I (doneOf B)] 172 (0,0))]++(c++G))::H::F):=Sat.perm d0 (by simp);have w0:¬inB B i:=(by unfold inB;omega);have he:heldC B i m=16:=(by unfold heldC;rw [if_neg w0]);have hr:retB B i m=B:=(by unfold retB;rw [he,if_neg (by decide)]);exact ⟨_,by rw [he];rfl,by rw [hr];exact ⟨_,_,_,es,c,G,rfl,hO,hD,hE⟩,m0⟩)
 · exact jOR 23 rfl<|retT [I 20]<|(by have t0:=entAt hE b0;have p0:inB B i:=(by unfold inB;omega);have o0:Sat W _ (([(p, .cells #[.slice a n k,I (doneOf B)] 172 (0,0))]++(c++G))::H::F):=Sat.perm d0 (by simp);have he:heldC B i m=20:=(by unfold heldC;rw [if_pos p0,if_neg (by rw [stAt_nat _ om];omega)]);have hr:retB B i m=B:=(by unfold retB;rw [he,if_neg (by decide)]);exact ⟨_,by rw [he];rfl,by rw [hr];exact ⟨_,_,_,es,c,G,rfl,hO,hD,hE⟩,o0⟩)
 have v0:=OwnT.ptr hO c0 b0
 refine jOO 22 rfl<|sStF d0 hO c0 1 i.toNat 0 a0 (⟨2,a0.attempt,a0.pending,a0.next⟩:BEnt) b0 (I 2) [I 2] sizeOf3 fun _ _ f0 g0=>jOC 3 rfl ?_
 have u0:=entAt hE b0;have z0:=hW.att _ (getD_mem (q:=i.toNat) (s:=B.att) om)
 refine jCO 4 rfl ?_
 have h0:=set_at (y:=(⟨2,a0.attempt,a0.pending,a0.next⟩:BEnt)) b0
 refine sMp g0 ((OwnT.ptr f0 c0 h0).up 1 rfl) 1 (I a0.attempt)<|sAdd a0.attempt 1<|pu2<|sStF g0 f0 c0 1 i.toNat 1 (⟨2,a0.attempt,a0.pending,a0.next⟩:BEnt) (⟨2,(a0.attempt+1),a0.pending,a0.next⟩:BEnt) h0 (I (a0.attempt+1)) [I (a0.attempt+1)] sizeOf3 fun _ i0 j0 q0=>?_
 rw [List.set_set] at j0
 refine jOR 8 rfl<|retT [I 0] ?_
 have t0:=entAt hE b0
 have p0:inB B i:=by unfold inB;omega
 have r0:Sat W _ (([(p, .cells #[.slice a n k,I (doneOf B)] 172 (0,0))]++(i0++G))::H::F):=Sat.perm q0 (by simp)
 have he:heldC B i m=0:=by unfold heldC;rw [if_pos p0,if_pos (by rw [stAt_nat _ om];omega)]
 have hr:retB B i m=⟨B.deps,B.st.set i.toNat 2,B.att.set i.toNat (m+1)⟩:=by unfold retB;rw [if_pos he]
 have s0:=ents_state (x':=(⟨2,(a0.attempt+1),a0.pending,a0.next⟩:BEnt)) (y:=2) (z:=m+1) x0 y0 hE b0 om om rfl (by dsimp only;omega) rfl rfl
 exact ⟨_,by rw [he];rfl,by rw [hr];exact ⟨_,_,_,_,i0,G,by rw [s0.2],j0,ok_set hD b0 rfl,s0.1⟩,r0⟩
theorem b_done {p:Nat} {B:BS} {K:Int} {M:Chunk} (hB:BoardR p B M) (hW:BWf B K) (hS:Sat W w (M::H::F)):
  Calls prog 116 #[Pt p 0] w fun e w'=>e= .returned (I (doneOf B))/\Sat W w' (M::H::F):=by
 obtain ⟨a,n,k,es,c,G,rfl,hO,hD,hE⟩:=hB
 have hS:Sat W _ ([(p, .cells #[.slice a n k,I (doneOf B)] 172 (0,0))]::c::G::H::F):=Sat.perm hS (by simp)
 have d0:=hO.ll;have b0:=entsOf_len hE;have e0:=hW.ls;have f0:=hW.la;have g0:=hW.n0
 exact callsK 9 func116 rfl<|gCR hS 25 [0] rfl<|retT [I (doneOf B)]<|(by have a0:Sat W _ (([(p, .cells #[.slice a n k,I (doneOf B)] 172 (0,0))]++(c++G))::H::F):=Sat.perm hS (by simp);exact ⟨rfl,a0⟩)
theorem b_total {p:Nat} {B:BS} {K:Int} {M:Chunk} (hB:BoardR p B M) (hW:BWf B K) (hS:Sat W w (M::H::F)):
  Calls prog 117 #[Pt p 0] w fun e w'=>e= .returned (I (B.deps.length:Int))/\Sat W w' (M::H::F):=by
 obtain ⟨a,n,k,es,c,G,rfl,hO,hD,hE⟩:=hB
 have hS:Sat W _ ([(p, .cells #[.slice a n k,I (doneOf B)] 172 (0,0))]::c::G::H::F):=Sat.perm hS (by simp)
 have d0:=hO.ll;have b0:=entsOf_len hE;have e0:=hW.ls;have f0:=hW.la;have g0:=hW.n0
 exact callsK 10 func117 rfl<|gCR hS 26 [0] rfl<|retT [I (n:Int)]<|(by have a0:Sat W _ (([(p, .cells #[.slice a n k,I (doneOf B)] 172 (0,0))]++(c++G))::H::F):=Sat.perm hS (by simp);exact ⟨by rw [show B.deps.length=n by omega];rfl,a0⟩)
theorem b_done_nil {cs:List Chunk} (hS:Sat W w cs):
    Ro prog 116 #[.pointer none] (.int .i64 0) W w cs:=by
  exact callsK 9 func116 rfl<|jCR 20 rfl<|retT [.int .i64 0]<|⟨rfl,hS⟩
theorem b_total_nil {cs:List Chunk} (hS:Sat W w cs):
    Ro prog 117 #[.pointer none] (.int .i64 0) W w cs:=by
  exact callsK 10 func117 rfl<|jCR 20 rfl<|retT [.int .i64 0]<|⟨rfl,hS⟩
theorem b_ready {p:Nat} {B:BS} {K:Int} {M:Chunk} (hB:BoardR p B M) (hW:BWf B K) (hS:Sat W w (M::H::F)):
  Calls prog 54 #[Pt p 0] w fun e w'=>∃(az:Option Addr) (nz kz:Nat) (Z M':Chunk),e= .returned (.slice az nz kz)/\RdT Go.E.encI 1 [Z] az nz kz (idxOf 2 0 B.st)/\BoardR p B M'/\Sat W w' (Z::M'::H::F):=by
 obtain ⟨a,n,k,es,c,G,rfl,hO,hD,hE⟩:=hB
 have hS:Sat W _ ([(p, .cells #[.slice a n k,I (doneOf B)] 172 (0,0))]::c::G::H::F):=Sat.perm hS (by simp)
 have A0:=hO.ll;have y0:=entsOf_len hE;have B0:=hW.ls;have C0:=hW.la;have D0:=hW.n0
 refine callsK 27 func54 rfl<|gCC hS 32 [0] rfl<|loopF [11,12] (γ:=Nat×(List Int)×SO) (fun ⟨i,zs,t0,l0,u0,f0⟩ R=>⟨[(13,I (i:Int)),(3, .slice t0 l0 u0)],f0::R,n-i,i<=n/\(zs=idxOf 2 0 (B.st.take i))/\(zs.length<=i)/\OwnT Go.E.encI 3 1 t0 l0 u0 zs f0⟩) (0,[],none,0,0,[]) ⟨(Sat.nilc hS),om,rfl,by simp,(OwnT.nil (enc:=Go.E.encI) (E:=3) (sz:=1) fR)⟩ ?_
 rintro ⟨i,zs,t0,l0,u0,f0⟩ ρ _ ⟨a0,hi,hz,E0,e0⟩
 have v0:=e0.ll
 exact jCC 6 rfl<|CD ((i:Int)<(n:Int)) (fun g0=>jCR 12 rfl<|retT [.slice t0 l0 u0]<|(by have h0:Sat W _ (f0::([(p, .cells #[.slice a n k,I (doneOf B)] 172 (0,0))]++(c++G))::H::F):=Sat.perm a0 (by simp);have x0:zs=idxOf 2 0 B.st:=(by rw [hz,List.take_of_length_le om]);have w0:=(e0.rdAt (cs:=[f0]) 0 rfl);rw [x0] at w0;exact ⟨_,_,_,_,_,rfl,w0,⟨_,_,_,es,c,G,rfl,hO,hD,hE⟩,h0⟩)) fun g0=>jCO 7 rfl<|sIO hO (i:Int) i fun b0 _ _ d0 i0 _=>sMA a0 (i0.up 2 rfl) 0 (encBEnt b0)<|sAlloc a0 zeroValue175 fun _ _ j0=>pu1<|sTk j0 0 rfl (encBEnt b0) fun _ c0=>gOC c0 9 [0] rfl<|CE b0.state 2 (fun k0=>jCO 4 rfl<|sAdd (i:Int) 1<|jOI 2 rfl<|⟨(i+1,zs,t0,l0,u0,f0),od,alB,(c0.dropAt 0 rfl),om,(idx_n hz om (by have h:=(entAt hE d0).2.1;omega)),(by first|omega|(simp;omega)),e0⟩) fun k0=>jCO 3 rfl<|sBK c0 #[I (i:Int)] 3 fun _ _ m0=>sApp (nb:=8) m0 e0 2 (RdT.blk (enc:=Go.E.encI) (sz:=1) (xs:=[(i:Int)]) fR 1 0 rfl rfl rfl om) underlying22 (i:=Tryz.t3) kr fR fun o0 p0 q0 _ r0 s0=>jOO 5 rfl<|sAdd (i:Int) 1<|jOI 2 rfl<|⟨(i+1,(zs++[(i:Int)]),o0,(l0+1),p0,q0),od,alB,(s0.drops [0,0]),om,(idx_y hz om (by have h:=(entAt hE d0).2.1;omega)),(by first|omega|(simp;omega)),r0⟩
theorem com_start {es:List BEnt} {B:BS} {K:Int} {i:Nat} {x x':BEnt} (hW:BWf B K) (h:es.map BEnt.v=entsOf B) (hx:es[i]?=some x) (h1:x'.state=4) (h2:x'.attempt=x.attempt) (h3:x'.pending=x.pending) (h4:x'.next=x.next):
  (es.set i x').map BEnt.v=(List.range B.deps.length).map (entC B (B.st.set i 4) ((nextOf 0 B.deps i).take 0)):=by
 obtain ⟨hi,e1,e2,e3,e4⟩:=entAt h hx
 have a0:=hW.ls
 refine ents_set (f:=entV B) h (fun q hq b0=>?_) (fun _=>?_)
 ·simp only [entV,entC,List.take_zero,List.not_mem_nil,if_false,getD_set];rw [if_neg om]
 ·simp only [BEnt.v,entC,List.take_zero,List.not_mem_nil,if_false,getD_set,h1,h2,h3,h4,e2,e3,e4];rw [if_pos ⟨trivial,om⟩]
theorem pend_get {es:List BEnt} {B:BS} {K:Int} {i j:Nat} {z:Int} {y:BEnt} (hW:BWf B K) (hi:i<B.deps.length) (h3:B.st.getD i 0=3)
  (h:es.map BEnt.v=(List.range B.deps.length).map (entC B (B.st.set i 4) ((nextOf 0 B.deps i).take j))) (hz:(nextOf 0 B.deps i)[j]?=some z) (hy:es[z.toNat]?=some y):0<=y.pending-1/\y.pending<=4096:=by
 have h1:=(com_step (y':=⟨if y.pending-1=0 then 2 else y.state,y.attempt,y.pending-1,y.next⟩) hW hi h3 h hz hy rfl rfl rfl rfl).2
 obtain ⟨q,b0,hq,a0⟩:=nx_mem.1 (List.mem_of_getElem? hz)
 have hd:B.deps[z.toNat]?=some (B.deps.getD z.toNat []):=by simp [List.getD_eq_getElem?_getD,show z.toNat<B.deps.length by omega]
 have h4:=asc_len om (hW.asc _ _ hd)
 have h5:pendOf (B.st.set i 4) (B.deps.getD z.toNat [])<=((B.deps.getD z.toNat []).length:Nat):=by unfold pendOf;have:=List.length_filter_le (fun x=>decide (stAt (B.st.set i 4) x≠4)) (B.deps.getD z.toNat []);omega
 have h6:0<=pendOf (B.st.set i 4) (B.deps.getD z.toNat []):=by unfold pendOf;omega
 have:=hW.n0
 omega
end Go.Proofs.YtkadmghedmodbaaGreat
