import Derived.Test.YtkadmghedmodbaaGreatR4P3Au2
set_option linter.all false
namespace Go.Proofs.YtkadmghedmodbaaGreat
open Go Go.E Go.Proofs.Tryz
set_option linter.all false
set_option maxRecDepth 100000
set_option maxHeartbeats 2000000
variable {W w:World} {H:Chunk} {F:List Chunk}
def helpM (jobs:List JA) (ws:List Wk) (rd:Int) (v:Wk) (f:Int) (l:List Evt):Bool:=
  decide (v.phase=0)&&(busyM jobs (ws.getD f.toNat default)&&(decide (¬rd>0)&&(match l.head? with|none=>false|some n=>decide ((n.kind=6\/n.kind=7\/n.kind=8)/\n.worker=f))))
def evK (off:List TL) (m:MS) (k:Nat) (v:Wk) (e:Evt) (l:List Evt):Option MS:=
  if e.kind=1 then submitM off m e
  else if e.kind=2 then cancelM m e.job
  else if e.kind=3\/e.kind=4 then takeM m k v ⟨e.refJob,e.refTask⟩
  else if e.kind=5 then (if anotherE m.ws.length e=true then takeM m k v ⟨e.refJob,e.refTask⟩ else none)
  else if e.kind=6\/e.kind=7\/e.kind=8 then (if busyM m.jobs v=true then microM m k v e else none)
  else if e.kind=9 then dropM m k v ⟨e.refJob,e.refTask⟩
  else if e.kind=10 then crashM m k v ⟨e.refJob,e.refTask⟩
  else if e.kind=11 then (if v.phase=4 then some {m with ws:=m.ws.set k {v with phase:=0}} else none)
  else if e.kind=12 then (if anotherE m.ws.length e=true/\helpM m.jobs m.ws m.rd v e.from_ l=true then some m else none)
  else if e.kind=13 then (if v.phase=0/\m.rd=0/\¬m.ws.any (busyM m.jobs)=true then some m else none)
  else none
def eventM (off:List TL) (m:MS) (e:Evt) (l:List Evt):Option MS:=
  if e=namedE e/\0<=e.worker/\e.worker<((m.ws.length:Nat):Int) then evK off m e.worker.toNat (m.ws.getD e.worker.toNat default) e l else none
theorem ev_in {off:List TL} {m:MS} {e:Evt} {l:List Evt} {v:Wk} (h1:e=namedE e) (h2:0<=e.worker/\e.worker<(m.ws.length:Int)) (hv:m.ws[e.worker.toNat]?=some v):eventM off m e l=evK off m e.worker.toNat v e l:=by
  unfold eventM;rw [if_pos ⟨h1,h2⟩,getD_some hv]
theorem ev_out {off:List TL} {m:MS} {e:Evt} {l:List Evt} (h:¬(e=namedE e/\0<=e.worker/\e.worker<(m.ws.length:Int))):eventM off m e l=none:=by unfold eventM;rw [if_neg h]
theorem evt_ext {a b:Evt} (h:a.kind=b.kind/\a.worker=b.worker/\a.from_=b.from_/\a.job=b.job/\a.refJob=b.refJob/\a.refTask=b.refTask/\a.err=b.err):a=b:=by
  cases a;cases b;simp only at h;obtain ⟨rfl,rfl,rfl,rfl,rfl,rfl,rfl⟩:=h;rfl
theorem evt_eqs {a b:Evt} (h:a=b):a.kind=b.kind/\a.worker=b.worker/\a.from_=b.from_/\a.job=b.job/\a.refJob=b.refJob/\a.refTask=b.refTask/\a.err=b.err:=by subst h;exact ⟨rfl,rfl,rfl,rfl,rfl,rfl,rfl⟩
section
variable {off:List TL} {m:MS} {k:Nat} {v:Wk} {e:Evt} {l:List Evt}
theorem evK_1 (h:e.kind=1):evK off m k v e l=submitM off m e:=by unfold evK;rw [if_pos h]
theorem evK_2 (h:e.kind=2):evK off m k v e l=cancelM m e.job:=by unfold evK;rw [if_neg (by omega),if_pos h]
theorem evK_3 (h:e.kind=3\/e.kind=4):evK off m k v e l=takeM m k v ⟨e.refJob,e.refTask⟩:=by unfold evK;rw [if_neg (by omega),if_neg (by omega),if_pos h]
theorem evK_5 (h:e.kind=5):evK off m k v e l=(if anotherE m.ws.length e=true then takeM m k v ⟨e.refJob,e.refTask⟩ else none):=by unfold evK;rw [if_neg (by omega),if_neg (by omega),if_neg (by omega),if_pos h]
theorem evK_6 (h:e.kind=6\/e.kind=7\/e.kind=8):evK off m k v e l=(if busyM m.jobs v=true then microM m k v e else none):=by unfold evK;rw [if_neg (by omega),if_neg (by omega),if_neg (by omega),if_neg (by omega),if_pos h]
theorem evK_9 (h:e.kind=9):evK off m k v e l=dropM m k v ⟨e.refJob,e.refTask⟩:=by unfold evK;rw [if_neg (by omega),if_neg (by omega),if_neg (by omega),if_neg (by omega),if_neg (by omega),if_pos h]
theorem evK_10 (h:e.kind=10):evK off m k v e l=crashM m k v ⟨e.refJob,e.refTask⟩:=by unfold evK;rw [if_neg (by omega),if_neg (by omega),if_neg (by omega),if_neg (by omega),if_neg (by omega),if_neg (by omega),if_pos h]
theorem evK_11 (h:e.kind=11):evK off m k v e l=(if v.phase=4 then some {m with ws:=m.ws.set k {v with phase:=0}} else none):=by unfold evK;rw [if_neg (by omega),if_neg (by omega),if_neg (by omega),if_neg (by omega),if_neg (by omega),if_neg (by omega),if_neg (by omega),if_pos h]
theorem evK_12 (h:e.kind=12):evK off m k v e l=(if anotherE m.ws.length e=true/\helpM m.jobs m.ws m.rd v e.from_ l=true then some m else none):=by unfold evK;rw [if_neg (by omega),if_neg (by omega),if_neg (by omega),if_neg (by omega),if_neg (by omega),if_neg (by omega),if_neg (by omega),if_neg (by omega),if_pos h]
theorem evK_13 (h:e.kind=13):evK off m k v e l=(if v.phase=0/\m.rd=0/\¬m.ws.any (busyM m.jobs)=true then some m else none):=by unfold evK;rw [if_neg (by omega),if_neg (by omega),if_neg (by omega),if_neg (by omega),if_neg (by omega),if_neg (by omega),if_neg (by omega),if_neg (by omega),if_neg (by omega),if_pos h]
theorem evK_no (h:¬(1<=e.kind/\e.kind<=13)):evK off m k v e l=none:=by unfold evK;rw [if_neg (by omega),if_neg (by omega),if_neg (by omega),if_neg (by omega),if_neg (by omega),if_neg (by omega),if_neg (by omega),if_neg (by omega),if_neg (by omega),if_neg (by omega)]
end
structure MW (m:MS) (K:Int):Prop where
  j:∀j∈m.jobs,JW K j
  s:∀j∈m.jobs,j.T.length<=4096
  w:∀v∈m.ws,(0<=v.row/\v.row<=K)/\(v.phase≠0/\v.phase≠4->∃s B,m.jobs[v.heldJob.toNat]?=some s/\0<=v.heldJob/\v.heldJob<((m.jobs.length:Nat):Int)/\s.B=some B/\0<=v.heldTask/\v.heldTask<((s.T.length:Nat):Int))
  r:-(4096*K)<=m.rd/\m.rd<=4096*K
  l:((m.jobs.length:Nat):Int)<=K
  k:0<=K/\K<=200000
theorem JW.mono {j:JA} {K L:Int} (h:JW K j) (hk:K<=L):JW L j:=fun B hB=>⟨(h B hB).1.mono hk,(h B hB).2⟩
theorem MW.held {m:MS} {K:Int} {v:Wk} (h:MW m K) (hv:v∈m.ws) (hh:v.phase≠0/\v.phase≠4):∃s B,m.jobs[v.heldJob.toNat]?=some s/\0<=v.heldJob/\v.heldJob<(m.jobs.length:Int)/\s.B=some B/\True/\True/\BWf B K/\B.deps.length=s.T.length:=by
  obtain ⟨s,B,h1,h2,h3,h4,_,_⟩:=(h.w v hv).2 hh
  have h5:=h.j s (List.mem_of_getElem? h1) B h4
  exact ⟨s,B,h1,h2,h3,h4,trivial,trivial,h5.1,h5.2⟩
theorem MW.task {m:MS} {K:Int} {v:Wk} (h:MW m K) (hv:v∈m.ws) (hh:busyM m.jobs v=true):∀s,m.jobs[v.heldJob.toNat]?=some s->0<=v.heldTask/\v.heldTask<(s.T.length:Int):=by
  intro s hs
  unfold busyM at hh
  obtain ⟨s2,B,h1,_,_,_,h5,h6⟩:=(h.w v hv).2 (of_decide_eq_true ((Bool.and_eq_true _ _).mp hh).1)
  rw [hs] at h1;obtain rfl:=Option.some.inj h1
  exact ⟨h5,h6⟩
theorem MW.mono {m:MS} {K L:Int} (h:MW m K) (hk:K<=L) (hL:L<=200000):MW m L:=
  ⟨fun j hj=>(h.j j hj).mono hk,h.s,fun v hv=>⟨by have:=(h.w v hv).1;omega,(h.w v hv).2⟩,by have:=h.r;omega,by have:=h.l;omega,by have:=h.k;omega⟩
theorem MW.sw {m:MS} {K:Int} (h:MW m K) {k:Nat} {v:Wk} (hv:(0<=v.row/\v.row<=K)/\(v.phase≠0/\v.phase≠4->∃s B,m.jobs[v.heldJob.toNat]?=some s/\0<=v.heldJob/\v.heldJob<(m.jobs.length:Int)/\s.B=some B/\0<=v.heldTask/\v.heldTask<(s.T.length:Int))):MW {m with ws:=m.ws.set k v} K:=
  ⟨h.j,h.s,mem_set' h.w hv,h.r,h.l,h.k⟩
theorem MW.sr {m:MS} {K:Int} (h:MW m K) {r:Int} (hr:-(4096*K)<=r/\r<=4096*K):MW {m with rd:=r} K:=⟨h.j,h.s,h.w,hr,h.l,h.k⟩
theorem MW.sj {m:MS} {K:Int} (h:MW m K) {n:Nat} {s s':JA} (hs:m.jobs[n]?=some s) (hT:s'.T=s.T) (hB:s.B.isSome=true->s'.B.isSome=true) (hW:JW K s'):MW {m with jobs:=m.jobs.set n s'} K:=by
 refine ⟨mem_set' h.j hW,mem_set' h.s (by rw [hT];exact h.s s (List.mem_of_getElem? hs)),?_,h.r,by simp only [List.length_set];exact h.l,h.k⟩
 intro v hv
 refine ⟨(h.w v hv).1,fun hh=>?_⟩
 obtain ⟨t,B,h1,h2,h3,h4,h5,h6⟩:=(h.w v hv).2 hh
 dsimp only
 rw [List.getElem?_set,List.length_set]
 by_cases e:n=v.heldJob.toNat
 ·have h7:n<m.jobs.length:=(List.getElem?_eq_some_iff.1 hs).1
  rw [if_pos e,if_pos h7]
  rw [<-e,hs] at h1;obtain rfl:=Option.some.inj h1
  cases hB':s'.B with
  |none=>have:=hB (by rw [h4];rfl);rw [hB'] at this;cases this
  |some B'=>exact ⟨s',B',rfl,h2,h3,hB',h5,by rw [hT];exact h6⟩
 ·rw [if_neg e];exact ⟨t,B,h1,h2,h3,h4,h5,h6⟩
theorem jobA_at {m:MS} {n:Int} {s:JA} (h:m.jobs[n.toNat]?=some s):jobA m n=s:=getD_some h
theorem startB_in {B:BS} {i:Int} (h:(startB B i).2.2=0):0<=i/\i<(B.deps.length:Int):=by
  unfold startB at h
  split at h
  · rename_i hi;exact hi
  · cases h
theorem take_ok {m m':MS} {K:Int} {k:Nat} {v:Wk} {r:Ref} (h:MW m K) (hK:K+1<=200000) (he:takeM m k v r=some m'):MW m' (K+1)/\m'.ws.length=m.ws.length:=by
  have hm:=h.mono (L:=K+1) (by omega) hK
  unfold takeM at he
  split at he
  · cases he
  · rename_i hc
    obtain ⟨s,B,hs,h1,h2,hB,_,_,hW,hl⟩:=runsM_some (Classical.not_not.1 hc).2 h.j
    rw [jobA_at hs,hB] at he
    dsimp only at he
    split at he
    · cases he
    · rename_i hz
      obtain rfl:=Option.some.inj he
      have h3:=startB_in (Classical.not_not.1 hz)
      have hr:=h.r;have hk:=h.k
      have a:=(hm.sj (s':={s with B:=some (startB B r.task).1}) hs rfl (fun _=>rfl) (fun B' hB'=>by
        obtain rfl:=Option.some.inj hB';exact ⟨(start_wf hW).mono (by omega),by rw [start_deps];exact hl⟩)).sw (k:=k) (v:=⟨1,r.job,r.task,(startB B r.task).2.1,0⟩) ⟨⟨Int.le_refl 0,hm.k.1⟩,fun _=>⟨{s with B:=some (startB B r.task).1},(startB B r.task).1,set_at hs,h1,by simp only [List.length_set];exact h2,rfl,h3.1,by dsimp only;omega⟩⟩
      exact ⟨a.sr (r:=m.rd-1) (by omega),by simp⟩
theorem micro_okM {m m':MS} {K:Int} {k:Nat} {v:Wk} {e:Evt} (h:MW m K) (hK:K+1<=200000) (hv:m.ws[k]?=some v) (hb:busyM m.jobs v=true) (he:microM m k v e=some m'):MW m' (K+1)/\m'.ws.length=m.ws.length:=by
  have hm:=h.mono (L:=K+1) (by omega) hK
  have hmv:=List.mem_of_getElem? hv
  have hw:=hm.w v hmv
  have hw0:=h.w v hmv
  have hb':=hb
  unfold busyM at hb'
  obtain ⟨hb1,hb2⟩:=(Bool.and_eq_true _ _).mp hb'
  obtain ⟨s,B,hs,h1,h2,hB,_,_,hW,hl⟩:=runsM_some hb2 h.j
  have hh:=hw.2 (of_decide_eq_true hb1)
  unfold microM at he
  rw [jobA_at hs,hB] at he
  dsimp only at he
  split at he
  · obtain rfl:=Option.some.inj he;exact ⟨hm.sw ⟨hw.1,fun _=>hh⟩,by simp⟩
  · split at he
    · obtain rfl:=Option.some.inj he
      exact ⟨hm.sw ⟨by have:=hw0.1;dsimp only;omega,fun _=>hh⟩,by simp⟩
    · split at he
      · split at he
        · cases he
        · obtain rfl:=Option.some.inj he
          have hr:=h.r;have hk:=h.k
          have hc:=com_len (B:=B) (i:=v.heldTask) (a:=v.attempt)
          have hn:=hW.n0
          have a:=(hm.sj (s':={s with B:=some (comB B v.heldTask v.attempt).1}) hs rfl (fun _=>rfl) (fun B' hB'=>by
            obtain rfl:=Option.some.inj hB';exact ⟨(com_wf hW).mono (by omega),by rw [com_deps];exact hl⟩)).sw (k:=k) (v:=⟨0,0,0,0,0⟩) ⟨⟨Int.le_refl 0,hm.k.1⟩,fun h=>absurd rfl h.1⟩
          exact ⟨a.sr (r:=m.rd+(((comB B v.heldTask v.attempt).2.length:Nat):Int)) (by omega),by simp⟩
      · cases he
theorem drop_ok {m m':MS} {K:Int} {k:Nat} {v:Wk} {r:Ref} (h:MW m K) (he:dropM m k v r=some m'):MW m' K/\m'.ws.length=m.ws.length:=by
  unfold dropM at he
  split at he
  · obtain rfl:=Option.some.inj he;exact ⟨h.sw ⟨⟨Int.le_refl 0,h.k.1⟩,fun h=>absurd rfl h.1⟩,by simp⟩
  · cases he
theorem crash_okM {m m':MS} {K:Int} {k:Nat} {v:Wk} {r:Ref} (h:MW m K) (hK:K+1<=200000) (he:crashM m k v r=some m'):MW m' (K+1)/\m'.ws.length=m.ws.length:=by
  have hm:=h.mono (L:=K+1) (by omega) hK
  unfold crashM at he
  split at he
  · cases he
  · rename_i hc
    split at he
    · rename_i hb
      unfold busyM at hb
      obtain ⟨s,B,hs,h1,h2,hB,_,_,hW,hl⟩:=runsM_some ((Bool.and_eq_true _ _).mp hb).2 h.j
      have e:v.heldJob=r.job:=by
        apply Classical.byContradiction;intro hne;exact hc (.inr fun h=>hne h.1)
      rw [e] at hs
      rw [jobA_at hs,hB] at he
      dsimp only at he
      split at he
      · cases he
      · obtain rfl:=Option.some.inj he
        have hr:=h.r;have hk:=h.k
        have a:=(hm.sj (s':={s with B:=some (retB B r.task v.attempt)}) hs rfl (fun _=>rfl) (fun B' hB'=>by
          obtain rfl:=Option.some.inj hB';exact ⟨ret_wf hW,by rw [ret_deps];exact hl⟩)).sw (k:=k) (v:=⟨4,0,0,0,0⟩) ⟨⟨Int.le_refl 0,hm.k.1⟩,fun h=>absurd rfl h.2⟩
        exact ⟨a.sr (r:=m.rd+1) (by omega),by simp⟩
    · obtain rfl:=Option.some.inj he;exact ⟨hm.sw ⟨⟨Int.le_refl 0,hm.k.1⟩,fun h=>absurd rfl h.2⟩,by simp⟩
theorem cancel_okM {m m':MS} {K n:Int} (h:MW m K) (hK:K+1<=200000) (he:cancelM m n=some m'):MW m' (K+1)/\m'.ws.length=m.ws.length:=by
 have hm:=h.mono (L:=K+1) om hK
 unfold cancelM at he
 split at he
 · exact (by rename_i hr;obtain ⟨s,B,hs,h1,h2,hB,_,_,hW,hl⟩:=runsM_some hr h.j;rw [jobA_at hs,hB] at he;dsimp only at he;obtain rfl:=Option.some.inj he;have hr:=h.r;have hk:=h.k;have h3:=idx_le (y:=2) (s:=B.st) (k:=0);have h4:=hW.ls;have h5:=hW.n0;exact ⟨((hm.sj (s':={s with x:=true}) hs rfl (fun h=>h) (hm.j s (List.mem_of_getElem? hs))).sr (r:=m.rd-(((idxOf 2 0 B.st).length:Nat):Int)) om),rfl⟩)
 ·cases he
theorem MW.add {m:MS} {K:Int} (h:MW m K) (hK:K+1<=200000) {s:JA} {r:Int} (hW:JW (K+1) s) (hs:s.T.length<=4096) (hr:-(4096*(K+1))<=r/\r<=4096*(K+1)):MW {m with jobs:=m.jobs++[s],rd:=r} (K+1):=by
 have hm:=h.mono (L:=K+1) om hK
 refine ⟨?_,?_,?_,hr,by simp only [List.length_append,List.length_singleton];have:=h.l;omega,hm.k⟩
 ·intro j hj;rcases List.mem_append.1 hj with hj|hj
  ·exact hm.j j hj
  ·rw [List.mem_singleton.1 hj];exact hW
 ·intro j hj;rcases List.mem_append.1 hj with hj|hj
  ·exact h.s j hj
  ·rw [List.mem_singleton.1 hj];exact hs
 · exact (by intro v hv;refine ⟨(hm.w v hv).1,fun hh=>?_⟩;obtain ⟨t,B,h1,h2,h3,h4,h5,h6⟩:=(hm.w v hv).2 hh;exact ⟨t,B,by dsimp only;rw [List.getElem?_append_left om];exact h1,h2,by simp only [List.length_append,List.length_singleton];omega,h4,h5,h6⟩)
theorem submit_ok {off:List TL} {m m':MS} {K:Int} {e:Evt} (h:MW m K) (hK:K+1<=200000) (he:submitM off m e=some m'):MW m' (K+1)/\m'.ws.length=m.ws.length:=by
 have hr:=h.r;have hk:=h.k
 unfold submitM at he
 split at he
 ·cases he
 ·split at he
  · exact (by obtain rfl:=Option.some.inj he;exact ⟨h.add hK (s:=⟨[],none,false⟩) (r:=m.rd) (fun B hB=>by cases hB) (by simp) om,rfl⟩)
  ·split at he
   ·cases he
   ·rename_i T hT
    split at he
    ·cases he
    · exact (by rename_i hv;have hv:=Classical.not_not.1 hv;obtain rfl:=Option.some.inj he;have hz:=validC_zero hv;have h3:=idx_le (y:=2) (s:=(newB T.l.l).st) (k:=0);have h4:(newB T.l.l).st.length=T.l.l.length:=(by simp [newB]);refine ⟨h.add hK (s:=⟨T.l.l,some (newB T.l.l),false⟩) (fun B hB=>?_) hz.2.1 om,rfl⟩;obtain rfl:=Option.some.inj hB;exact ⟨(new_wf hv).mono om,by simp [newB]⟩)
theorem event_ok {off:List TL} {m m':MS} {K:Int} {e:Evt} {l:List Evt} (h:MW m K) (hK:K+1<=200000) (he:eventM off m e l=some m'):MW m' (K+1)/\m'.ws.length=m.ws.length:=by
 have hm:=h.mono (L:=K+1) om hK
 unfold eventM at he
 split at he
 ·rename_i hc
  have hv:m.ws[e.worker.toNat]?=some (m.ws.getD e.worker.toNat default):=(by have h1:e.worker.toNat<m.ws.length:=(by omega);rw [List.getD_eq_getElem?_getD,List.getElem?_eq_getElem h1];rfl)
  generalize m.ws.getD e.worker.toNat default=v at he hv
  by_cases h1:e.kind=1
  ·rw [evK_1 h1] at he;exact submit_ok h hK he
  by_cases h2:e.kind=2
  ·rw [evK_2 h2] at he;exact cancel_okM h hK he
  by_cases h3:e.kind=3\/e.kind=4
  ·rw [evK_3 h3] at he;exact take_ok h hK he
  by_cases h5:e.kind=5
  ·rw [evK_5 h5] at he
   split at he
   ·exact take_ok h hK he
   ·cases he
  by_cases h6:e.kind=6\/e.kind=7\/e.kind=8
  ·rw [evK_6 h6] at he
   split at he
   ·rename_i hb;exact micro_okM h hK hv hb he
   ·cases he
  refine bD (e.kind=9) (fun h9=>(by rw [evK_9 h9] at he;obtain ⟨h1,h2⟩:=drop_ok h he;exact ⟨h1.mono om hK,h2⟩)) fun h9=>?_
  by_cases a0:e.kind=10
  ·rw [evK_10 a0] at he;exact crash_okM h hK he
  by_cases b0:e.kind=11
  ·rw [evK_11 b0] at he
   split at he
   · exact (by obtain rfl:=Option.some.inj he;exact ⟨hm.sw ⟨(hm.w v (List.mem_of_getElem? hv)).1,fun h=>absurd rfl h.1⟩,by simp⟩)
   ·cases he
  by_cases c0:e.kind=12
  ·rw [evK_12 c0] at he
   split at he
   ·obtain rfl:=Option.some.inj he;exact ⟨hm,rfl⟩
   ·cases he
  by_cases d0:e.kind=13
  ·rw [evK_13 d0] at he
   split at he
   ·obtain rfl:=Option.some.inj he;exact ⟨hm,rfl⟩
   ·cases he
  rw [evK_no om] at he;cases he
 ·cases he
def runM (off:List TL):MS->List Evt->Nat->Int×Bool
  |_,[],i=>(((i:Nat):Int),true)
  |m,e::l,i=>match eventM off m e l with
    |none=>(((i:Nat):Int),false)
    |some m'=>runM off m' l (i+1)
def startM (c:Cfg):MS:=⟨List.replicate c.workers.toNat ⟨0,0,0,0,0⟩,[],0⟩
def checkM (off:List TL) (c:Cfg) (l:List Evt):Int×Bool:=if validCfg c=0 then runM off (startM c) l 0 else (0,false)
theorem run_no {off:List TL} {m:MS} {l:List Evt} {i:Nat} {e:Evt} (h:l[i]?=some e) (he:eventM off m e (l.drop (i+1))=none):runM off m (l.drop i) i=((i:Int),false):=by
  have hi:=(List.getElem?_eq_some_iff.1 h).1
  have h1:l.drop i=l[i]::l.drop (i+1):=List.drop_eq_getElem_cons hi
  have h2:l[i]=e:=(List.getElem?_eq_some_iff.1 h).2
  rw [h1,h2,runM,he]
theorem run_yes {off:List TL} {m m':MS} {l:List Evt} {i:Nat} {e:Evt} (h:l[i]?=some e) (he:eventM off m e (l.drop (i+1))=some m'):runM off m (l.drop i) i=runM off m' (l.drop (i+1)) (i+1):=by
  have hi:=(List.getElem?_eq_some_iff.1 h).1
  have h1:l.drop i=l[i]::l.drop (i+1):=List.drop_eq_getElem_cons hi
  have h2:l[i]=e:=(List.getElem?_eq_some_iff.1 h).2
  rw [h1,h2,runM,he]
theorem startM_ok (c:Cfg):MW (startM c) 0:=by
  refine ⟨(fun j hj=>by cases hj),(fun j hj=>by cases hj),?_,by simp [startM],by simp [startM],by omega⟩
  intro v hv
  obtain rfl:=List.eq_of_mem_replicate hv
  exact ⟨⟨Int.le_refl 0,Int.le_refl 0⟩,fun h=>absurd rfl h.1⟩
theorem am_drop {W w:World} {p wb wo:Nat} {H:Chunk} {oa ja:Option Addr} {on ok wn wk jn jk:Nat} {rd:Int} {ws:List Wk} {jobs:List JA} {ps:List Nat} {Wc Jc:Chunk} {jcs F:List Chunk} {K:Int} (hOw:OwnT encWk 200 5 (some ⟨wb,wo,none⟩) wn wk ws Wc) (hOj:OwnT encP 217 1 ja jn jk ps Jc) (hJs:Obs (JobA H) ps jobs jcs) (hJW:∀j∈jobs,JW K j) {off:List TL} (hof:RdT encTL 1 [H] oa on ok off) (dof:∀z∈off,TL.Ok [H] z) (hrd:-1000000000<=rd/\rd<=1000000000) (hK:K<=1000000000) (k:Nat) (v:Wk) (hv:ws[k]?=some v) (r:Ref) (hheld:(v.phase≠0/\v.phase≠4)->∃s B,jobs[v.heldJob.toNat]?=some s/\0<=v.heldJob/\v.heldJob<(jobs.length:Int)/\s.B=some B/\True/\True/\BWf B K/\B.deps.length=s.T.length) (hS:Sat W w ([(p, .cells #[.slice oa on ok, .slice (some ⟨wb,wo,none⟩) wn wk, .slice ja jn jk,I rd] 147 (0,0))]::Wc::Jc::jcs.flatten::H::F)):
  Calls prog 156 #[Pt p 0, .pointer (some ⟨wb,wo+k*5,none⟩), .agg #[I r.job,I r.task]] w fun e w'=>(dropM (⟨ws,jobs,rd⟩:MS) k v r=none/\e= .returned (.bool false)/\Sat W w' (H::F))\/(∃(m':MS) (M':Chunk),dropM (⟨ws,jobs,rd⟩:MS) k v r=some m'/\e= .returned (.bool true)/\MachR p wb wo H off m' M'/\Sat W w' (M'::H::F)):=by
 by_cases h:(v.phase≠0/\v.phase≠4)/\v.heldJob=r.job/\v.heldTask=r.task
 ·exact am_drop_y hOw hOj hJs hJW hof dof hrd hK k v hv r h.1 h.2 (h.2.1▸hheld h.1) hS
 ·exact am_drop_n hOw hOj hJs hJW hof dof hrd hK k v hv r h hS
theorem am_help {p wb wo:Nat} {H:Chunk} {oa ja:Option Addr} {on ok wn wk jn jk:Nat} {rd:Int} {ws:List Wk} {jobs:List JA} {ps:List Nat} {Wc Jc:Chunk} {jcs F:List Chunk} {K:Int} (hOw:OwnT encWk 200 5 (some ⟨wb,wo,none⟩) wn wk ws Wc) (hOj:OwnT encP 217 1 ja jn jk ps Jc) (hJs:Obs (JobA H) ps jobs jcs) (hJW:∀j∈jobs,JW K j) (k:Nat) (v:Wk) (hv:ws[k]?=some v) (f:Int) (hf:0<=f/\f<ws.length) (al:Option Addr) (nl kl:Nat) (l:List Evt) (hl:RdT encEvt 7 [H] al nl kl l) (hS:Sat W w ([(p, .cells #[.slice oa on ok, .slice (some ⟨wb,wo,none⟩) wn wk, .slice ja jn jk,I rd] 147 (0,0))]::Wc::Jc::jcs.flatten::H::F)):
  Calls prog 158 #[Pt p 0, .pointer (some ⟨wb,wo+k*5,none⟩),I f, .slice al nl kl] w fun e w'=>e= .returned (.bool (helpM jobs ws rd v f l))/\Sat W w' ([(p, .cells #[.slice oa on ok, .slice (some ⟨wb,wo,none⟩) wn wk, .slice ja jn jk,I rd] 147 (0,0))]::Wc::Jc::jcs.flatten::H::F):=by
 have x0:=hOw.ll;have u0:=hOj.ll;have v0:=hJs.1
 have j0:=OwnT.ptr hOw rfl hv
 have r0:=hl.ll
 refine callsK 51 func158 rfl<|jCO 11 rfl<|sMp hS (j0.up 1 rfl) 0 (I v.phase)<|pu2<|SN 15 v.phase 0 (fun k0=>jOR 32 rfl<|retT [.bool false]<|⟨rB (by unfold helpM;rw [decide_eq_false om];rfl),hS⟩) fun k0=>gOO hS 6 [0] rfl<|gY<|sIO hOw f (f).toNat fun g0 _ _ b0 _ l0=>?_
 obtain ⟨rfl,rfl⟩:=some_addr l0
 refine gY ?_
 have m0:=(hS.picks [4,4,4,4,4])
 refine cZ (am_busy hOw hOj hJs hJW ((f).toNat) g0 b0 m0) ?_
 rintro _ _ ⟨rfl,e0⟩
 refine pu3<|SBn 26 (busyM jobs g0) (fun c0=>jOR 21 rfl<|retT [.bool false]<|⟨rB (by unfold helpM;rw [decide_eq_true om,getD_some b0,Bool.eq_false_iff.2 c0];rfl),e0⟩) fun c0=>gOO e0 7 [0] rfl<|sD 33 (rd>0) (fun n0=>jOR 14 rfl<|retT [.bool false]<|⟨rB (by unfold helpM;rw [decide_eq_true om,getD_some b0,c0];rw [decide_eq_false om];rfl),e0⟩) fun n0=>jOC 6 rfl<|cE (nl:Int) 0 (fun o0=>jCR 7 rfl<|retT [.bool false]<|⟨rB (by unfold helpM;rw [decide_eq_true om,getD_some b0,c0];rw [decide_eq_true om];rw [List.length_eq_zero_iff.1 (show l.length=0 by omega)];rfl),e0⟩) fun o0=>jCO 5 rfl<|sII hl 0 fun a0 _ _ f0 p0=>sMA e0 (p0.up 4 rfl) 0 (encEvt a0)<|sAlloc e0 zeroValue63 fun _ _ q0=>sTk q0 0 rfl (encEvt a0) fun _ d0=>gOC d0 17 [0] rfl<|cE a0.kind 6 (fun h0=>jCC 2 rfl<|cT _ (beq_iff_eq.2 h0)<|gCR d0 12 [0] rfl<|retT [.bool ((a0.worker:Int)==f)]<|(by exact ⟨rB (by unfold helpM;rw [decide_eq_true om,getD_some b0,c0];rw [decide_eq_true om];rw [show l.head?=some a0 from by rw [List.head?_eq_getElem?];exact f0];simp only [Bool.true_and];rw [Bool.eq_iff_iff];simp only [decide_eq_true_eq,beq_iff_eq];omega),(d0.dropAt 0 rfl)⟩)) fun h0=>?_
 refine jCC 6 rfl<|cE a0.kind 7 (fun i0=>jCC 2 rfl<|cT _ (beq_iff_eq.2 i0)<|gCR d0 12 [0] rfl<|retT [.bool ((a0.worker:Int)==f)]<|(by exact ⟨rB (by unfold helpM;rw [decide_eq_true om,getD_some b0,c0];rw [decide_eq_true om];rw [show l.head?=some a0 from by rw [List.head?_eq_getElem?];exact f0];simp only [Bool.true_and];rw [Bool.eq_iff_iff];simp only [decide_eq_true_eq,beq_iff_eq];omega),(d0.dropAt 0 rfl)⟩)) fun i0=>?_
 refine jCC 5 rfl<|CE a0.kind 8 (fun t0=>jCR 9 rfl<|retT [.bool false]<|(by exact ⟨rB (by unfold helpM;rw [decide_eq_true om,getD_some b0,c0];rw [decide_eq_true om];rw [show l.head?=some a0 from by rw [List.head?_eq_getElem?];exact f0];simp only [Bool.true_and];exact (decide_eq_false om).symm),(d0.dropAt 0 rfl)⟩)) fun t0=>?_
 refine gCR d0 12 [0] rfl<|retT [.bool ((a0.worker:Int)==f)] ?_
 exact ⟨rB (by unfold helpM;rw [decide_eq_true om,getD_some b0,c0];rw [decide_eq_true om];rw [show l.head?=some a0 from by rw [List.head?_eq_getElem?];exact f0];simp only [Bool.true_and];rw [Bool.eq_iff_iff];simp only [decide_eq_true_eq,beq_iff_eq];omega),(d0.dropAt 0 rfl)⟩
theorem another_bd {n:Nat} {e:Evt} (h:anotherE n e=true):0<=e.from_/\e.from_<(n:Int):=by
  unfold anotherE at h;have:=of_decide_eq_true h;exact ⟨this.1,this.2.1⟩
theorem am_event {p wb wo:Nat} {H:Chunk} {off:List TL} {m:MS} {M:Chunk} {F:List Chunk} {K:Int} (hM:MachR p wb wo H off m M) (hMW:MW m K) (ev:Evt) (al:Option Addr) (nl kl:Nat) (l:List Evt) (hl:RdT encEvt 7 [H] al nl kl l) (hS:Sat W w (M::H::F)):
  Calls prog 99 #[Pt p 0, .agg (encEvt ev).toArray, .slice al nl kl] w fun e w'=>(eventM off m ev l=none/\e= .returned (.bool false)/\Sat W w' (H::F))\/(∃(m':MS) (M':Chunk),eventM off m ev l=some m'/\e= .returned (.bool true)/\MachR p wb wo H off m' M'/\Sat W w' (M'::H::F)):=by
 obtain ⟨ws,A0,rd⟩:=m
 obtain ⟨oa,ja,on,ok,wn,wk,jn,jk,ps,Wc,Jc,J0,rfl,B0,C0,D0,G0,F0⟩:=hM
 have hS:Sat W w ([(p, .cells #[.slice oa on ok, .slice (some ⟨wb,wo,none⟩) wn wk, .slice ja jn jk,I rd] 147 (0,0))]::Wc::Jc::J0.flatten::H::F):=Sat.perm hS (by simp)
 have E0:∀j∈A0,JW K j:=hMW.j;have L0:=hMW.r;have R0:=hMW.k;have K0:=hMW.l;dsimp only at L0 K0 B0 C0 D0;have I0:-1000000000<=rd/\rd<=1000000000:=by omega
 have H0:K<=1000000000:=by omega
 have T0:=B0.ll;have P0:=C0.ll;have Q0:=D0.1
 have N0:=hl.ll
 refine callsK 136 func99 rfl<|jCO 2 rfl<|sBx hS (encEvt ev) fun _ _ n3=>jOC 5 rfl<|drawG n3 [2,6,11,15] (fb 0 0 0 7<|fb 1 0 0 7<|fn) (pS [0,1]<| .ef 2<|pS [3,4,5]<| .ef 6<|pS [7,8,9,10,12,13,14]<| .fk 11 15 (.ef 15<|pS [16,17,18]<| .fin) (pS [16]<| .ef 11<|pS [17,18]<| .fin)) fun _ o3=>qG 0 7<|qG 7 7<|qO rfl<|cS (au_named ev o3.flat) fun _ h0=>nZ h0 [0]<|qY (.bool (!(((ev.kind:Int)==((namedE ev).kind))&&((ev.worker:Int)==((namedE ev).worker))&&((ev.from_:Int)==((namedE ev).from_))&&((ev.job:Int)==((namedE ev).job))&&((ev.refJob:Int)==((namedE ev).refJob))&&((ev.refTask:Int)==((namedE ev).refTask))&&((ev.err:Int)==((namedE ev).err))))) rfl (fun w _=>Y_eqS rfl kr kr (eqvn63 _ ev.kind ev.worker ev.from_ ev.job ev.refJob ev.refTask ev.err ((namedE ev).kind) ((namedE ev).worker) ((namedE ev).from_) ((namedE ev).job) ((namedE ev).refJob) ((namedE ev).refTask) ((namedE ev).err)))<|qV 1 ?_
 by_cases a0:(ev.kind:Int)=((namedE ev).kind)/\(ev.worker:Int)=((namedE ev).worker)/\(ev.from_:Int)=((namedE ev).from_)/\(ev.job:Int)=((namedE ev).job)/\(ev.refJob:Int)=((namedE ev).refJob)/\(ev.refTask:Int)=((namedE ev).refTask)/\(ev.err:Int)=((namedE ev).err)
 rotate_left
 ·refine qFix 12 _ true (congrArg Bool.not (show (((ev.kind:Int)==((namedE ev).kind))&&((ev.worker:Int)==((namedE ev).worker))&&((ev.from_:Int)==((namedE ev).from_))&&((ev.job:Int)==((namedE ev).job))&&((ev.refJob:Int)==((namedE ev).refJob))&&((ev.refTask:Int)==((namedE ev).refTask))&&((ev.err:Int)==((namedE ev).err)))=false from by rw [<-Bool.not_eq_true];intro h_;exact a0 (by simpa [and_assoc] using h_)))<|qV 1<|qO rfl<|pu1<|nZ h0 [0]<|qV 1<|qV 1<|qV 1<|qV 1<|qV 1<|qV 1<|qV 1<|qF ?_ ?_
  ·exact qO rfl<|pu1<|nZ h0 [0]<|qO rfl<|pu1<|nZ h0 [0]<|qV 1<|qV 1<|qV 1<|qN<|jXR 9 rfl<|retT [.bool false]<| .inl ⟨ev_out (fun h=>a0 (evt_eqs h.1)),rfl,(h0.drops [0,0,0,0,0])⟩
  exact qO rfl<|pu1<|nZ h0 [0]<|qV 1<|qO rfl<|pu1<|nZ h0 [0]<|qV 1<|qV 1<|qN<|jXR 9 rfl<|retT [.bool false]<| .inl ⟨ev_out (fun h=>a0 (evt_eqs h.1)),rfl,(h0.drops [0,0,0,0,0])⟩
 refine qFix 12 _ false (congrArg Bool.not (show (((ev.kind:Int)==((namedE ev).kind))&&((ev.worker:Int)==((namedE ev).worker))&&((ev.from_:Int)==((namedE ev).from_))&&((ev.job:Int)==((namedE ev).job))&&((ev.refJob:Int)==((namedE ev).refJob))&&((ev.refTask:Int)==((namedE ev).refTask))&&((ev.err:Int)==((namedE ev).err)))=true from by simpa [and_assoc] using a0))<|qV 1<|qO rfl<|gY<|sM h0 0 1 (I ev.worker)<|nZ h0 [0]<|qV 1<|qV 1<|qV 1 ?_
 by_cases y2:(ev.worker:Int)<0
 ·refine qFix 17 _ true (decide_eq_true y2)<|qV 1<|qV 1<|qV 1<|qV 1<|qF ?_ ?_
  ·exact qO rfl<|pu1<|nZ h0 [0]<|qO rfl<|pu1<|nZ h0 [0]<|qV 1<|qV 1<|qV 1<|qN<|jXR 9 rfl<|retT [.bool false]<| .inl ⟨ev_out (fun h=>by have h2:=h.2;dsimp only at h2;omega),rfl,(h0.drops [0,0,0,0,0])⟩
  exact qO rfl<|pu1<|nZ h0 [0]<|qV 1<|qO rfl<|pu1<|nZ h0 [0]<|qV 1<|qV 1<|qN<|jXR 9 rfl<|retT [.bool false]<| .inl ⟨ev_out (fun h=>by have h2:=h.2;dsimp only at h2;omega),rfl,(h0.drops [0,0,0,0,0])⟩
 refine qFix 17 _ false (decide_eq_false y2)<|qV 1<|qV 1<|qV 1<|qV 1<|qF ?_ ?_
 ·refine qO rfl<|gY<|sM h0 0 1 (I ev.worker)<|nZ h0 [0]<|qO rfl<|gY<|sM h0 1 1 (.slice (some ⟨wb,wo,none⟩) wn wk)<|nZ h0 [0]<|qV 1<|qV 1<|qV 1<|qN<|jXC 1 rfl<|cD (ev.worker>=(wn:Int)) (fun u3=>jCR 7 rfl<|retT [.bool false]<| .inl ⟨ev_out (fun h=>by have h2:=h.2;dsimp only at h2;omega),rfl,(h0.drops [0,0,0,0,0])⟩) fun u3=>jCC 3 rfl ?_
  obtain ⟨d0,ha,ia,b0,z2,w3,x3⟩:=OwnT.elem B0 ev.worker
  obtain ⟨rfl,rfl⟩:=some_addr x3
  refine drawF h0 [] (fb 3 1 1 1<|fb 5 0 1 1<|fn) [0,1,2,4,3,5,6,7] fun _ f0=>wV 4<|wL 0<|wL 1<|wI w3<|wV 1<|wN<|gXC f0 15 [0] rfl<|cE ev.kind 1 (fun y3=>?_) (fun y3=>?_)
  ·refine gCO f0 4 [700] rfl ?_
   have z3:=(f0.picks [5,5,5,5,5])
   refine cZ (am_submit B0 C0 D0 E0 G0 F0 I0 H0 ev om z3) ?_
   rintro _ _ (⟨w0,rfl,x0⟩|⟨_,_,w0,rfl,a4,x0⟩)
   ·exact jOR 6 rfl<|retT [.bool false]<| .inl ⟨(ev_in (m:=(⟨ws,A0,rd⟩:MS)) (evt_ext a0) (by dsimp only;omega) b0).trans ((evK_1 om).trans (w0)),rfl,(x0.dropAt 1 rfl)⟩
   exact jOR 6 rfl<|retT [.bool true]<| .inr ⟨_,_,(ev_in (m:=(⟨ws,A0,rd⟩:MS)) (evt_ext a0) (by dsimp only;omega) b0).trans ((evK_1 om).trans (w0)),rfl,a4,(x0.dropAt 2 rfl)⟩
  refine jCC 6 rfl<|cE ev.kind 2 (fun d4=>?_) (fun d4=>?_)
  ·refine gCO f0 5 [0] rfl ?_
   have e4:=(f0.picks [5,5,5,5,5])
   refine cZ (am_cancel B0 C0 D0 E0 G0 F0 I0 H0 ev.job e4) ?_
   rintro _ _ (⟨y0,rfl,z0⟩|⟨_,_,y0,rfl,f4,z0⟩)
   ·exact jOR 6 rfl<|retT [.bool false]<| .inl ⟨(ev_in (m:=(⟨ws,A0,rd⟩:MS)) (evt_ext a0) (by dsimp only;omega) b0).trans ((evK_2 om).trans (y0)),rfl,(z0.dropAt 1 rfl)⟩
   exact jOR 6 rfl<|retT [.bool true]<| .inr ⟨_,_,(ev_in (m:=(⟨ws,A0,rd⟩:MS)) (evt_ext a0) (by dsimp only;omega) b0).trans ((evK_2 om).trans (y0)),rfl,f4,(z0.dropAt 2 rfl)⟩
  refine jCC 7 rfl<|cE ev.kind 3 (fun a3=>?_) (fun a3=>?_)
  ·refine jCC 2 rfl<|cT _ (beq_iff_eq.2 a3)<|gCO f0 6 [200] rfl ?_
   have i4:=(f0.picks [5,5,5,5,5])
   refine cZ (am_take B0 C0 D0 E0 G0 F0 I0 H0 ((ev.worker).toNat) d0 b0 (⟨ev.refJob,ev.refTask⟩:Ref) i4) ?_
   rintro _ _ (⟨a1,rfl,b1⟩|⟨_,_,a1,rfl,j4,b1⟩)
   ·exact jOR 6 rfl<|retT [.bool false]<| .inl ⟨(ev_in (m:=(⟨ws,A0,rd⟩:MS)) (evt_ext a0) (by dsimp only;omega) b0).trans ((evK_3 om).trans (a1)),rfl,(b1.dropAt 1 rfl)⟩
   exact jOR 6 rfl<|retT [.bool true]<| .inr ⟨_,_,(ev_in (m:=(⟨ws,A0,rd⟩:MS)) (evt_ext a0) (by dsimp only;omega) b0).trans ((evK_3 om).trans (a1)),rfl,j4,(b1.dropAt 2 rfl)⟩
  refine jCC 5 rfl<|cE ev.kind 4 (fun m4=>?_) (fun m4=>?_)
  ·refine gCO f0 6 [200] rfl ?_
   have n4:=(f0.picks [5,5,5,5,5])
   refine cZ (am_take B0 C0 D0 E0 G0 F0 I0 H0 ((ev.worker).toNat) d0 b0 (⟨ev.refJob,ev.refTask⟩:Ref) n4) ?_
   rintro _ _ (⟨c1,rfl,d1⟩|⟨_,_,c1,rfl,o4,d1⟩)
   ·exact jOR 6 rfl<|retT [.bool false]<| .inl ⟨(ev_in (m:=(⟨ws,A0,rd⟩:MS)) (evt_ext a0) (by dsimp only;omega) b0).trans ((evK_3 om).trans (c1)),rfl,(d1.dropAt 1 rfl)⟩
   exact jOR 6 rfl<|retT [.bool true]<| .inr ⟨_,_,(ev_in (m:=(⟨ws,A0,rd⟩:MS)) (evt_ext a0) (by dsimp only;omega) b0).trans ((evK_3 om).trans (c1)),rfl,o4,(d1.dropAt 2 rfl)⟩
  refine jCC 6 rfl<|cE ev.kind 5 (fun r4=>?_) (fun r4=>?_)
  ·refine gCO f0 4 [700] rfl ?_
   have s4:=(f0.picks [5,5,5,5,5])
   refine cZ (am_another B0 C0 D0 E0 ev s4) ?_
   rintro _ _ ⟨rfl,e1⟩
   refine pu1<|SB 60 (anotherE ws.length ev) (fun o0=>jOR 12 rfl<|retT [.bool false]<| .inl ⟨(ev_in (m:=(⟨ws,A0,rd⟩:MS)) (evt_ext a0) (by dsimp only;omega) b0).trans ((evK_5 om).trans (if_neg o0)),rfl,(e1.drops [0,0,0,0,1])⟩) fun o0=>gOO e1 4 [205] rfl<|gY ?_
   have u4:=(e1.picks [4,4,4,4,4])
   refine cZ (am_take B0 C0 D0 E0 G0 F0 I0 H0 ((ev.worker).toNat) d0 b0 (⟨ev.refJob,ev.refTask⟩:Ref) u4) ?_
   rintro _ _ (⟨f1,rfl,g1⟩|⟨_,_,f1,rfl,v4,g1⟩)
   ·exact jOR 7 rfl<|retT [.bool false]<| .inl ⟨(ev_in (m:=(⟨ws,A0,rd⟩:MS)) (evt_ext a0) (by dsimp only;omega) b0).trans ((evK_5 om).trans ((if_pos o0).trans f1)),rfl,(g1.dropAt 1 rfl)⟩
   exact jOR 7 rfl<|retT [.bool true]<| .inr ⟨_,_,(ev_in (m:=(⟨ws,A0,rd⟩:MS)) (evt_ext a0) (by dsimp only;omega) b0).trans ((evK_5 om).trans ((if_pos o0).trans f1)),rfl,v4,(g1.dropAt 2 rfl)⟩
  refine jCC 7 rfl<|cE ev.kind 6 (fun b3=>?_) (fun b3=>?_)
  ·refine jCC 2 rfl<|cT _ (beq_iff_eq.2 b3)<|jCO 4 rfl ?_
   have y4:=(f0.picks [5,5,5,5,5])
   refine cZ (am_busy B0 C0 D0 E0 ((ev.worker).toNat) d0 b0 y4) ?_
   rintro _ _ ⟨rfl,i1⟩
   refine pu1<|SB 74 (busyM A0 d0) (fun i0=>jOR 11 rfl<|retT [.bool false]<| .inl ⟨(ev_in (m:=(⟨ws,A0,rd⟩:MS)) (evt_ext a0) (by dsimp only;omega) b0).trans ((evK_6 om).trans (if_neg i0)),rfl,(i1.drops [0,0,0,0,1])⟩) fun i0=>gOO i1 3 [705] rfl<|gY ?_
   have a5:=(i1.picks [4,4,4,4,4])
   refine cZ (am_micro B0 C0 D0 E0 G0 F0 I0 H0 ((ev.worker).toNat) d0 b0 ev i0 (by have h:=(hMW.w _ (List.mem_of_getElem? b0)).1;omega) (hMW.task (List.mem_of_getElem? b0) i0) hMW.s a5) ?_
   rintro _ _ (⟨j1,rfl,k1⟩|⟨_,_,j1,rfl,b5,k1⟩)
   ·exact jOR 7 rfl<|retT [.bool false]<| .inl ⟨(ev_in (m:=(⟨ws,A0,rd⟩:MS)) (evt_ext a0) (by dsimp only;omega) b0).trans ((evK_6 om).trans ((if_pos i0).trans j1)),rfl,(k1.dropAt 1 rfl)⟩
   exact jOR 7 rfl<|retT [.bool true]<| .inr ⟨_,_,(ev_in (m:=(⟨ws,A0,rd⟩:MS)) (evt_ext a0) (by dsimp only;omega) b0).trans ((evK_6 om).trans ((if_pos i0).trans j1)),rfl,b5,(k1.dropAt 2 rfl)⟩
  refine jCC 6 rfl<|cE ev.kind 7 (fun c3=>?_) (fun c3=>?_)
  ·refine jCC 2 rfl<|cT _ (beq_iff_eq.2 c3)<|jCO 4 rfl ?_
   have e5:=(f0.picks [5,5,5,5,5])
   refine cZ (am_busy B0 C0 D0 E0 ((ev.worker).toNat) d0 b0 e5) ?_
   rintro _ _ ⟨rfl,l1⟩
   refine pu1<|SB 74 (busyM A0 d0) (fun j0=>jOR 11 rfl<|retT [.bool false]<| .inl ⟨(ev_in (m:=(⟨ws,A0,rd⟩:MS)) (evt_ext a0) (by dsimp only;omega) b0).trans ((evK_6 om).trans (if_neg j0)),rfl,(l1.drops [0,0,0,0,1])⟩) fun j0=>gOO l1 3 [705] rfl<|gY ?_
   have g5:=(l1.picks [4,4,4,4,4])
   refine cZ (am_micro B0 C0 D0 E0 G0 F0 I0 H0 ((ev.worker).toNat) d0 b0 ev j0 (by have h:=(hMW.w _ (List.mem_of_getElem? b0)).1;omega) (hMW.task (List.mem_of_getElem? b0) j0) hMW.s g5) ?_
   rintro _ _ (⟨m1,rfl,n1⟩|⟨_,_,m1,rfl,h5,n1⟩)
   ·exact jOR 7 rfl<|retT [.bool false]<| .inl ⟨(ev_in (m:=(⟨ws,A0,rd⟩:MS)) (evt_ext a0) (by dsimp only;omega) b0).trans ((evK_6 om).trans ((if_pos j0).trans m1)),rfl,(n1.dropAt 1 rfl)⟩
   exact jOR 7 rfl<|retT [.bool true]<| .inr ⟨_,_,(ev_in (m:=(⟨ws,A0,rd⟩:MS)) (evt_ext a0) (by dsimp only;omega) b0).trans ((evK_6 om).trans ((if_pos j0).trans m1)),rfl,h5,(n1.dropAt 2 rfl)⟩
  refine jCC 5 rfl<|cE ev.kind 8 (fun k5=>?_) (fun k5=>?_)
  ·refine jCO 4 rfl ?_
   have l5:=(f0.picks [5,5,5,5,5])
   refine cZ (am_busy B0 C0 D0 E0 ((ev.worker).toNat) d0 b0 l5) ?_
   rintro _ _ ⟨rfl,o1⟩
   refine pu1<|SB 74 (busyM A0 d0) (fun k0=>jOR 11 rfl<|retT [.bool false]<| .inl ⟨(ev_in (m:=(⟨ws,A0,rd⟩:MS)) (evt_ext a0) (by dsimp only;omega) b0).trans ((evK_6 om).trans (if_neg k0)),rfl,(o1.drops [0,0,0,0,1])⟩) fun k0=>gOO o1 3 [705] rfl<|gY ?_
   have n5:=(o1.picks [4,4,4,4,4])
   refine cZ (am_micro B0 C0 D0 E0 G0 F0 I0 H0 ((ev.worker).toNat) d0 b0 ev k0 (by have h:=(hMW.w _ (List.mem_of_getElem? b0)).1;omega) (hMW.task (List.mem_of_getElem? b0) k0) hMW.s n5) ?_
   rintro _ _ (⟨q1,rfl,r1⟩|⟨_,_,q1,rfl,o5,r1⟩)
   ·exact jOR 7 rfl<|retT [.bool false]<| .inl ⟨(ev_in (m:=(⟨ws,A0,rd⟩:MS)) (evt_ext a0) (by dsimp only;omega) b0).trans ((evK_6 om).trans ((if_pos k0).trans q1)),rfl,(r1.dropAt 1 rfl)⟩
   exact jOR 7 rfl<|retT [.bool true]<| .inr ⟨_,_,(ev_in (m:=(⟨ws,A0,rd⟩:MS)) (evt_ext a0) (by dsimp only;omega) b0).trans ((evK_6 om).trans ((if_pos k0).trans q1)),rfl,o5,(r1.dropAt 2 rfl)⟩
  refine jCC 6 rfl<|cE ev.kind 9 (fun r5=>?_) (fun r5=>?_)
  ·refine gCO f0 6 [200] rfl ?_
   have s5:=(f0.picks [5,5,5,5,5])
   refine cZ (am_drop B0 C0 D0 E0 G0 F0 I0 H0 ((ev.worker).toNat) d0 b0 (⟨ev.refJob,ev.refTask⟩:Ref) (fun h=>hMW.held (List.mem_of_getElem? b0) h) s5) ?_
   rintro _ _ (⟨s1,rfl,t1⟩|⟨_,_,s1,rfl,t5,t1⟩)
   ·exact jOR 6 rfl<|retT [.bool false]<| .inl ⟨(ev_in (m:=(⟨ws,A0,rd⟩:MS)) (evt_ext a0) (by dsimp only;omega) b0).trans ((evK_9 om).trans (s1)),rfl,(t1.dropAt 1 rfl)⟩
   exact jOR 6 rfl<|retT [.bool true]<| .inr ⟨_,_,(ev_in (m:=(⟨ws,A0,rd⟩:MS)) (evt_ext a0) (by dsimp only;omega) b0).trans ((evK_9 om).trans (s1)),rfl,t5,(t1.dropAt 2 rfl)⟩
  refine jCC 6 rfl<|cE ev.kind 10 (fun w5=>?_) (fun w5=>?_)
  ·refine gCO f0 6 [200] rfl ?_
   have x5:=(f0.picks [5,5,5,5,5])
   refine cZ (am_crash B0 C0 D0 E0 G0 F0 I0 H0 ((ev.worker).toNat) d0 b0 (⟨ev.refJob,ev.refTask⟩:Ref) x5) ?_
   rintro _ _ (⟨u1,rfl,v1⟩|⟨_,_,u1,rfl,y5,v1⟩)
   ·exact jOR 6 rfl<|retT [.bool false]<| .inl ⟨(ev_in (m:=(⟨ws,A0,rd⟩:MS)) (evt_ext a0) (by dsimp only;omega) b0).trans ((evK_10 om).trans (u1)),rfl,(v1.dropAt 1 rfl)⟩
   exact jOR 6 rfl<|retT [.bool true]<| .inr ⟨_,_,(ev_in (m:=(⟨ws,A0,rd⟩:MS)) (evt_ext a0) (by dsimp only;omega) b0).trans ((evK_10 om).trans (u1)),rfl,y5,(v1.dropAt 2 rfl)⟩
  refine jCC 6 rfl<|cE ev.kind 11 (fun b6=>jCO 6 rfl<|sMp f0 (z2.up 2 rfl) 0 (I d0.phase)<|jOC 3 rfl<|CN d0.phase 4 (fun c6=>jCR 9 rfl<|retT [.bool false]<| .inl ⟨(ev_in (m:=(⟨ws,A0,rd⟩:MS)) (evt_ext a0) (by dsimp only;omega) b0).trans ((evK_11 om).trans (if_neg om)),rfl,(f0.drops [0,0,0,0,0])⟩) fun c6=>jCO 7 rfl<|sStF f0 B0 rfl 2 (ev.worker).toNat 0 d0 (⟨0,d0.heldJob,d0.heldTask,d0.attempt,d0.row⟩:Wk) b0 (I 0) [I 0] sizeOf3 fun _ d3 e6 f6=>jOR 10 rfl<|retT [.bool true]<|(by have g6:=(f6.dropAt 0 rfl);have h6:Sat W _ (([(p, .cells #[.slice oa on ok, .slice (some ⟨wb,wo,none⟩) wn wk, .slice ja jn jk,I rd] 147 (0,0))]++(d3++(Jc++J0.flatten)))::H::F):=Sat.perm (show Sat W _ ([(p, .cells #[.slice oa on ok, .slice (some ⟨wb,wo,none⟩) wn wk, .slice ja jn jk,I rd] 147 (0,0))]::d3::Jc::J0.flatten::H::F) from g6) (by simp);exact .inr ⟨⟨(ws.set ((ev.worker).toNat) (⟨0,d0.heldJob,d0.heldTask,d0.attempt,d0.row⟩:Wk)),A0,rd⟩,_,(ev_in (m:=(⟨ws,A0,rd⟩:MS)) (evt_ext a0) (by dsimp only;omega) b0).trans ((evK_11 om).trans (if_pos om)),rfl,⟨_,_,_,_,_,_,_,_,_,_,_,_,rfl,e6,C0,D0,G0,F0⟩,h6⟩)) fun b6=>jCC 6 rfl<|cE ev.kind 12 (fun i6=>gCO f0 4 [700] rfl<|(by have j6:=(f0.picks [5,5,5,5,5]);refine cZ (am_another B0 C0 D0 E0 ev j6) ?_;rintro _ _ ⟨rfl,w1⟩;refine pu1<|SB 109 (anotherE ws.length ev) (fun p0=>jOR 13 rfl<|retT [.bool false]<| .inl ⟨(ev_in (m:=(⟨ws,A0,rd⟩:MS)) (evt_ext a0) (by dsimp only;omega) b0).trans ((evK_12 om).trans (if_neg (fun h=>p0 h.1))),rfl,(w1.drops [0,0,0,0,1])⟩) fun p0=>gOO w1 5 [5] rfl<|gY ?_;have l6:=(w1.picks [4,4,4,4,4]);have M0:=another_bd p0;refine cZ (am_help B0 C0 D0 E0 ((ev.worker).toNat) d0 b0 ev.from_ om _ _ _ _ hl l6) ?_;rintro _ _ ⟨rfl,e3⟩;exact jOR 7 rfl<|retT [.bool (helpM A0 ws rd d0 ev.from_ l)]<|bC ((helpM A0 ws rd d0 ev.from_ l)=true) (fun q0=>(by rw [show (helpM A0 ws rd d0 ev.from_ l)=false from (Bool.eq_false_iff.2 q0)];exact .inl ⟨(ev_in (m:=(⟨ws,A0,rd⟩:MS)) (evt_ext a0) (by dsimp only;omega) b0).trans ((evK_12 om).trans (if_neg (fun h=>q0 h.2))),rfl,(e3.drops [0,0,0,0,1])⟩)) fun q0=>(by rw [show (helpM A0 ws rd d0 ev.from_ l)=true from q0];have n6:=(e3.dropAt 5 rfl);have o6:Sat W _ (([(p, .cells #[.slice oa on ok, .slice (some ⟨wb,wo,none⟩) wn wk, .slice ja jn jk,I rd] 147 (0,0))]++(Wc++(Jc++J0.flatten)))::H::F):=Sat.perm (show Sat W _ ([(p, .cells #[.slice oa on ok, .slice (some ⟨wb,wo,none⟩) wn wk, .slice ja jn jk,I rd] 147 (0,0))]::Wc::Jc::J0.flatten::H::F) from n6) (by simp);exact .inr ⟨⟨ws,A0,rd⟩,_,(ev_in (m:=(⟨ws,A0,rd⟩:MS)) (evt_ext a0) (by dsimp only;omega) b0).trans ((evK_12 om).trans (if_pos ⟨p0,q0⟩)),rfl,⟨_,_,_,_,_,_,_,_,_,_,_,_,rfl,B0,C0,D0,G0,F0⟩,o6⟩))) fun i6=>?_
  refine jCC 6 rfl<|CE ev.kind 13 (fun p6=>jCR 9 rfl<|retT [.bool false]<| .inl ⟨(ev_in (m:=(⟨ws,A0,rd⟩:MS)) (evt_ext a0) (by dsimp only;omega) b0).trans (evK_no om),rfl,(f0.drops [0,0,0,0,0])⟩) fun p6=>jCO 5 rfl<|sMp f0 (z2.up 2 rfl) 0 (I d0.phase)<|pu2<|SE 124 d0.phase 0 (fun r6=>jOR 17 rfl<|retT [.bool false]<| .inl ⟨(ev_in (m:=(⟨ws,A0,rd⟩:MS)) (evt_ext a0) (by dsimp only;omega) b0).trans ((evK_13 om).trans (if_neg (fun h=>by have h1:=h.1;have h2:=h.2.1;dsimp only at h2;omega))),rfl,(f0.drops [0,0,0,0,0])⟩) fun r6=>gOO f0 7 [1] rfl<|SE 131 rd 0 (fun t6=>jOR 10 rfl<|retT [.bool false]<| .inl ⟨(ev_in (m:=(⟨ws,A0,rd⟩:MS)) (evt_ext a0) (by dsimp only;omega) b0).trans ((evK_13 om).trans (if_neg (fun h=>by have h1:=h.1;have h2:=h.2.1;dsimp only at h2;omega))),rfl,(f0.drops [0,0,0,0,0])⟩) fun t6=>pu1<|gY ?_
  have v6:=(f0.picks [5,5,5,5,5])
  refine cZ (am_any B0 C0 D0 E0 v6) ?_
  rintro _ _ ⟨rfl,f3⟩
  exact jOR 8 rfl<|retT [.bool (!(ws.any (busyM A0)))]<|bD ((ws.any (busyM A0))=true) (fun r0=>(by rw [show (!(ws.any (busyM A0)))=false from (congrArg Bool.not r0)];exact .inl ⟨(ev_in (m:=(⟨ws,A0,rd⟩:MS)) (evt_ext a0) (by dsimp only;omega) b0).trans ((evK_13 om).trans (if_neg (fun h=>h.2.2 r0))),rfl,(f3.drops [0,0,0,0,1])⟩)) fun r0=>(by rw [show (!(ws.any (busyM A0)))=true from (congrArg Bool.not (Bool.eq_false_iff.2 r0))];have x6:=(f3.dropAt 5 rfl);have y6:Sat W _ (([(p, .cells #[.slice oa on ok, .slice (some ⟨wb,wo,none⟩) wn wk, .slice ja jn jk,I rd] 147 (0,0))]++(Wc++(Jc++J0.flatten)))::H::F):=Sat.perm (show Sat W _ ([(p, .cells #[.slice oa on ok, .slice (some ⟨wb,wo,none⟩) wn wk, .slice ja jn jk,I rd] 147 (0,0))]::Wc::Jc::J0.flatten::H::F) from x6) (by simp);exact .inr ⟨⟨ws,A0,rd⟩,_,(ev_in (m:=(⟨ws,A0,rd⟩:MS)) (evt_ext a0) (by dsimp only;omega) b0).trans ((evK_13 om).trans (if_pos ⟨om,by dsimp only;omega,r0⟩)),rfl,⟨_,_,_,_,_,_,_,_,_,_,_,_,rfl,B0,C0,D0,G0,F0⟩,y6⟩)
 refine qO rfl<|gY<|sM h0 1 1 (.slice (some ⟨wb,wo,none⟩) wn wk)<|nZ h0 [0]<|qV 1<|qO rfl<|gY<|sM h0 0 1 (I ev.worker)<|nZ h0 [0]<|qV 1<|qV 1<|qN<|jXC 1 rfl<|cD (ev.worker>=(wn:Int)) (fun z6=>jCR 7 rfl<|retT [.bool false]<| .inl ⟨ev_out (fun h=>by have h2:=h.2;dsimp only at h2;omega),rfl,(h0.drops [0,0,0,0,0])⟩) fun z6=>jCC 3 rfl ?_
 obtain ⟨e0,zb,ac,c0,g3,b7,c7⟩:=OwnT.elem B0 ev.worker
 obtain ⟨rfl,rfl⟩:=some_addr c7
 refine drawF h0 [] (fb 3 1 1 1<|fb 5 0 1 1<|fn) [0,1,2,4,3,5,6,7] fun _ g0=>wV 4<|wL 0<|wL 1<|wI b7<|wV 1<|wN<|gXC g0 15 [0] rfl<|cE ev.kind 1 (fun d7=>?_) (fun d7=>?_)
 ·refine gCO g0 4 [700] rfl ?_
  have e7:=(g0.picks [5,5,5,5,5])
  refine cZ (am_submit B0 C0 D0 E0 G0 F0 I0 H0 ev om e7) ?_
  rintro _ _ (⟨x1,rfl,y1⟩|⟨_,_,x1,rfl,f7,y1⟩)
  ·exact jOR 6 rfl<|retT [.bool false]<| .inl ⟨(ev_in (m:=(⟨ws,A0,rd⟩:MS)) (evt_ext a0) (by dsimp only;omega) c0).trans ((evK_1 om).trans (x1)),rfl,(y1.dropAt 1 rfl)⟩
  exact jOR 6 rfl<|retT [.bool true]<| .inr ⟨_,_,(ev_in (m:=(⟨ws,A0,rd⟩:MS)) (evt_ext a0) (by dsimp only;omega) c0).trans ((evK_1 om).trans (x1)),rfl,f7,(y1.dropAt 2 rfl)⟩
 refine jCC 6 rfl<|cE ev.kind 2 (fun i7=>?_) (fun i7=>?_)
 ·refine gCO g0 5 [0] rfl ?_
  have j7:=(g0.picks [5,5,5,5,5])
  refine cZ (am_cancel B0 C0 D0 E0 G0 F0 I0 H0 ev.job j7) ?_
  rintro _ _ (⟨z1,rfl,a2⟩|⟨_,_,z1,rfl,k7,a2⟩)
  ·exact jOR 6 rfl<|retT [.bool false]<| .inl ⟨(ev_in (m:=(⟨ws,A0,rd⟩:MS)) (evt_ext a0) (by dsimp only;omega) c0).trans ((evK_2 om).trans (z1)),rfl,(a2.dropAt 1 rfl)⟩
  exact jOR 6 rfl<|retT [.bool true]<| .inr ⟨_,_,(ev_in (m:=(⟨ws,A0,rd⟩:MS)) (evt_ext a0) (by dsimp only;omega) c0).trans ((evK_2 om).trans (z1)),rfl,k7,(a2.dropAt 2 rfl)⟩
 refine jCC 7 rfl<|cE ev.kind 3 (fun h3=>?_) (fun h3=>?_)
 ·refine jCC 2 rfl<|cT _ (beq_iff_eq.2 h3)<|gCO g0 6 [200] rfl ?_
  have n7:=(g0.picks [5,5,5,5,5])
  refine cZ (am_take B0 C0 D0 E0 G0 F0 I0 H0 ((ev.worker).toNat) e0 c0 (⟨ev.refJob,ev.refTask⟩:Ref) n7) ?_
  rintro _ _ (⟨b2,rfl,c2⟩|⟨_,_,b2,rfl,o7,c2⟩)
  ·exact jOR 6 rfl<|retT [.bool false]<| .inl ⟨(ev_in (m:=(⟨ws,A0,rd⟩:MS)) (evt_ext a0) (by dsimp only;omega) c0).trans ((evK_3 om).trans (b2)),rfl,(c2.dropAt 1 rfl)⟩
  exact jOR 6 rfl<|retT [.bool true]<| .inr ⟨_,_,(ev_in (m:=(⟨ws,A0,rd⟩:MS)) (evt_ext a0) (by dsimp only;omega) c0).trans ((evK_3 om).trans (b2)),rfl,o7,(c2.dropAt 2 rfl)⟩
 refine jCC 5 rfl<|cE ev.kind 4 (fun r7=>?_) (fun r7=>?_)
 ·refine gCO g0 6 [200] rfl ?_
  have s7:=(g0.picks [5,5,5,5,5])
  refine cZ (am_take B0 C0 D0 E0 G0 F0 I0 H0 ((ev.worker).toNat) e0 c0 (⟨ev.refJob,ev.refTask⟩:Ref) s7) ?_
  rintro _ _ (⟨d2,rfl,e2⟩|⟨_,_,d2,rfl,t7,e2⟩)
  ·exact jOR 6 rfl<|retT [.bool false]<| .inl ⟨(ev_in (m:=(⟨ws,A0,rd⟩:MS)) (evt_ext a0) (by dsimp only;omega) c0).trans ((evK_3 om).trans (d2)),rfl,(e2.dropAt 1 rfl)⟩
  exact jOR 6 rfl<|retT [.bool true]<| .inr ⟨_,_,(ev_in (m:=(⟨ws,A0,rd⟩:MS)) (evt_ext a0) (by dsimp only;omega) c0).trans ((evK_3 om).trans (d2)),rfl,t7,(e2.dropAt 2 rfl)⟩
 refine jCC 6 rfl<|cE ev.kind 5 (fun w7=>?_) (fun w7=>?_)
 ·refine gCO g0 4 [700] rfl ?_
  have x7:=(g0.picks [5,5,5,5,5])
  refine cZ (am_another B0 C0 D0 E0 ev x7) ?_
  rintro _ _ ⟨rfl,f2⟩
  refine pu1<|SB 60 (anotherE ws.length ev) (fun s0=>jOR 12 rfl<|retT [.bool false]<| .inl ⟨(ev_in (m:=(⟨ws,A0,rd⟩:MS)) (evt_ext a0) (by dsimp only;omega) c0).trans ((evK_5 om).trans (if_neg s0)),rfl,(f2.drops [0,0,0,0,1])⟩) fun s0=>gOO f2 4 [205] rfl<|gY ?_
  have z7:=(f2.picks [4,4,4,4,4])
  refine cZ (am_take B0 C0 D0 E0 G0 F0 I0 H0 ((ev.worker).toNat) e0 c0 (⟨ev.refJob,ev.refTask⟩:Ref) z7) ?_
  rintro _ _ (⟨g2,rfl,i2⟩|⟨_,_,g2,rfl,a8,i2⟩)
  ·exact jOR 7 rfl<|retT [.bool false]<| .inl ⟨(ev_in (m:=(⟨ws,A0,rd⟩:MS)) (evt_ext a0) (by dsimp only;omega) c0).trans ((evK_5 om).trans ((if_pos s0).trans g2)),rfl,(i2.dropAt 1 rfl)⟩
  exact jOR 7 rfl<|retT [.bool true]<| .inr ⟨_,_,(ev_in (m:=(⟨ws,A0,rd⟩:MS)) (evt_ext a0) (by dsimp only;omega) c0).trans ((evK_5 om).trans ((if_pos s0).trans g2)),rfl,a8,(i2.dropAt 2 rfl)⟩
 refine jCC 7 rfl<|cE ev.kind 6 (fun i3=>?_) (fun i3=>?_)
 ·refine jCC 2 rfl<|cT _ (beq_iff_eq.2 i3)<|jCO 4 rfl ?_
  have d8:=(g0.picks [5,5,5,5,5])
  refine cZ (am_busy B0 C0 D0 E0 ((ev.worker).toNat) e0 c0 d8) ?_
  rintro _ _ ⟨rfl,j2⟩
  refine pu1<|SB 74 (busyM A0 e0) (fun l0=>jOR 11 rfl<|retT [.bool false]<| .inl ⟨(ev_in (m:=(⟨ws,A0,rd⟩:MS)) (evt_ext a0) (by dsimp only;omega) c0).trans ((evK_6 om).trans (if_neg l0)),rfl,(j2.drops [0,0,0,0,1])⟩) fun l0=>gOO j2 3 [705] rfl<|gY ?_
  have f8:=(j2.picks [4,4,4,4,4])
  refine cZ (am_micro B0 C0 D0 E0 G0 F0 I0 H0 ((ev.worker).toNat) e0 c0 ev l0 (by have h:=(hMW.w _ (List.mem_of_getElem? c0)).1;omega) (hMW.task (List.mem_of_getElem? c0) l0) hMW.s f8) ?_
  rintro _ _ (⟨k2,rfl,l2⟩|⟨_,_,k2,rfl,g8,l2⟩)
  ·exact jOR 7 rfl<|retT [.bool false]<| .inl ⟨(ev_in (m:=(⟨ws,A0,rd⟩:MS)) (evt_ext a0) (by dsimp only;omega) c0).trans ((evK_6 om).trans ((if_pos l0).trans k2)),rfl,(l2.dropAt 1 rfl)⟩
  exact jOR 7 rfl<|retT [.bool true]<| .inr ⟨_,_,(ev_in (m:=(⟨ws,A0,rd⟩:MS)) (evt_ext a0) (by dsimp only;omega) c0).trans ((evK_6 om).trans ((if_pos l0).trans k2)),rfl,g8,(l2.dropAt 2 rfl)⟩
 refine jCC 6 rfl<|cE ev.kind 7 (fun j3=>?_) (fun j3=>?_)
 ·refine jCC 2 rfl<|cT _ (beq_iff_eq.2 j3)<|jCO 4 rfl ?_
  have j8:=(g0.picks [5,5,5,5,5])
  refine cZ (am_busy B0 C0 D0 E0 ((ev.worker).toNat) e0 c0 j8) ?_
  rintro _ _ ⟨rfl,m2⟩
  refine pu1<|SB 74 (busyM A0 e0) (fun m0=>jOR 11 rfl<|retT [.bool false]<| .inl ⟨(ev_in (m:=(⟨ws,A0,rd⟩:MS)) (evt_ext a0) (by dsimp only;omega) c0).trans ((evK_6 om).trans (if_neg m0)),rfl,(m2.drops [0,0,0,0,1])⟩) fun m0=>gOO m2 3 [705] rfl<|gY ?_
  have l8:=(m2.picks [4,4,4,4,4])
  refine cZ (am_micro B0 C0 D0 E0 G0 F0 I0 H0 ((ev.worker).toNat) e0 c0 ev m0 (by have h:=(hMW.w _ (List.mem_of_getElem? c0)).1;omega) (hMW.task (List.mem_of_getElem? c0) m0) hMW.s l8) ?_
  rintro _ _ (⟨n2,rfl,o2⟩|⟨_,_,n2,rfl,m8,o2⟩)
  ·exact jOR 7 rfl<|retT [.bool false]<| .inl ⟨(ev_in (m:=(⟨ws,A0,rd⟩:MS)) (evt_ext a0) (by dsimp only;omega) c0).trans ((evK_6 om).trans ((if_pos m0).trans n2)),rfl,(o2.dropAt 1 rfl)⟩
  exact jOR 7 rfl<|retT [.bool true]<| .inr ⟨_,_,(ev_in (m:=(⟨ws,A0,rd⟩:MS)) (evt_ext a0) (by dsimp only;omega) c0).trans ((evK_6 om).trans ((if_pos m0).trans n2)),rfl,m8,(o2.dropAt 2 rfl)⟩
 refine jCC 5 rfl<|cE ev.kind 8 (fun p8=>?_) (fun p8=>?_)
 ·refine jCO 4 rfl ?_
  have q8:=(g0.picks [5,5,5,5,5])
  refine cZ (am_busy B0 C0 D0 E0 ((ev.worker).toNat) e0 c0 q8) ?_
  rintro _ _ ⟨rfl,q2⟩
  refine pu1<|SB 74 (busyM A0 e0) (fun n0=>jOR 11 rfl<|retT [.bool false]<| .inl ⟨(ev_in (m:=(⟨ws,A0,rd⟩:MS)) (evt_ext a0) (by dsimp only;omega) c0).trans ((evK_6 om).trans (if_neg n0)),rfl,(q2.drops [0,0,0,0,1])⟩) fun n0=>gOO q2 3 [705] rfl<|gY ?_
  have s8:=(q2.picks [4,4,4,4,4])
  refine cZ (am_micro B0 C0 D0 E0 G0 F0 I0 H0 ((ev.worker).toNat) e0 c0 ev n0 (by have h:=(hMW.w _ (List.mem_of_getElem? c0)).1;omega) (hMW.task (List.mem_of_getElem? c0) n0) hMW.s s8) ?_
  rintro _ _ (⟨r2,rfl,s2⟩|⟨_,_,r2,rfl,t8,s2⟩)
  ·exact jOR 7 rfl<|retT [.bool false]<| .inl ⟨(ev_in (m:=(⟨ws,A0,rd⟩:MS)) (evt_ext a0) (by dsimp only;omega) c0).trans ((evK_6 om).trans ((if_pos n0).trans r2)),rfl,(s2.dropAt 1 rfl)⟩
  exact jOR 7 rfl<|retT [.bool true]<| .inr ⟨_,_,(ev_in (m:=(⟨ws,A0,rd⟩:MS)) (evt_ext a0) (by dsimp only;omega) c0).trans ((evK_6 om).trans ((if_pos n0).trans r2)),rfl,t8,(s2.dropAt 2 rfl)⟩
 refine jCC 6 rfl<|cE ev.kind 9 (fun w8=>?_) (fun w8=>?_)
 ·refine gCO g0 6 [200] rfl ?_
  have x8:=(g0.picks [5,5,5,5,5])
  refine cZ (am_drop B0 C0 D0 E0 G0 F0 I0 H0 ((ev.worker).toNat) e0 c0 (⟨ev.refJob,ev.refTask⟩:Ref) (fun h=>hMW.held (List.mem_of_getElem? c0) h) x8) ?_
  rintro _ _ (⟨t2,rfl,u2⟩|⟨_,_,t2,rfl,y8,u2⟩)
  ·exact jOR 6 rfl<|retT [.bool false]<| .inl ⟨(ev_in (m:=(⟨ws,A0,rd⟩:MS)) (evt_ext a0) (by dsimp only;omega) c0).trans ((evK_9 om).trans (t2)),rfl,(u2.dropAt 1 rfl)⟩
  exact jOR 6 rfl<|retT [.bool true]<| .inr ⟨_,_,(ev_in (m:=(⟨ws,A0,rd⟩:MS)) (evt_ext a0) (by dsimp only;omega) c0).trans ((evK_9 om).trans (t2)),rfl,y8,(u2.dropAt 2 rfl)⟩
 refine jCC 6 rfl<|cE ev.kind 10 (fun b9=>?_) (fun b9=>?_)
 ·refine gCO g0 6 [200] rfl ?_
  have c9:=(g0.picks [5,5,5,5,5])
  refine cZ (am_crash B0 C0 D0 E0 G0 F0 I0 H0 ((ev.worker).toNat) e0 c0 (⟨ev.refJob,ev.refTask⟩:Ref) c9) ?_
  rintro _ _ (⟨v2,rfl,w2⟩|⟨_,_,v2,rfl,d9,w2⟩)
  ·exact jOR 6 rfl<|retT [.bool false]<| .inl ⟨(ev_in (m:=(⟨ws,A0,rd⟩:MS)) (evt_ext a0) (by dsimp only;omega) c0).trans ((evK_10 om).trans (v2)),rfl,(w2.dropAt 1 rfl)⟩
  exact jOR 6 rfl<|retT [.bool true]<| .inr ⟨_,_,(ev_in (m:=(⟨ws,A0,rd⟩:MS)) (evt_ext a0) (by dsimp only;omega) c0).trans ((evK_10 om).trans (v2)),rfl,d9,(w2.dropAt 2 rfl)⟩
 refine jCC 6 rfl<|cE ev.kind 11 (fun g9=>jCO 6 rfl<|sMp g0 (g3.up 2 rfl) 0 (I e0.phase)<|jOC 3 rfl<|CN e0.phase 4 (fun h9=>jCR 9 rfl<|retT [.bool false]<| .inl ⟨(ev_in (m:=(⟨ws,A0,rd⟩:MS)) (evt_ext a0) (by dsimp only;omega) c0).trans ((evK_11 om).trans (if_neg om)),rfl,(g0.drops [0,0,0,0,0])⟩) fun h9=>jCO 7 rfl<|sStF g0 B0 rfl 2 (ev.worker).toNat 0 e0 (⟨0,e0.heldJob,e0.heldTask,e0.attempt,e0.row⟩:Wk) c0 (I 0) [I 0] sizeOf3 fun _ k3 j9 k9=>jOR 10 rfl<|retT [.bool true]<|(by have l9:=(k9.dropAt 0 rfl);have m9:Sat W _ (([(p, .cells #[.slice oa on ok, .slice (some ⟨wb,wo,none⟩) wn wk, .slice ja jn jk,I rd] 147 (0,0))]++(k3++(Jc++J0.flatten)))::H::F):=Sat.perm (show Sat W _ ([(p, .cells #[.slice oa on ok, .slice (some ⟨wb,wo,none⟩) wn wk, .slice ja jn jk,I rd] 147 (0,0))]::k3::Jc::J0.flatten::H::F) from l9) (by simp);exact .inr ⟨⟨(ws.set ((ev.worker).toNat) (⟨0,e0.heldJob,e0.heldTask,e0.attempt,e0.row⟩:Wk)),A0,rd⟩,_,(ev_in (m:=(⟨ws,A0,rd⟩:MS)) (evt_ext a0) (by dsimp only;omega) c0).trans ((evK_11 om).trans (if_pos om)),rfl,⟨_,_,_,_,_,_,_,_,_,_,_,_,rfl,j9,C0,D0,G0,F0⟩,m9⟩)) fun g9=>jCC 6 rfl<|cE ev.kind 12 (fun n9=>gCO g0 4 [700] rfl<|(by have o9:=(g0.picks [5,5,5,5,5]);refine cZ (am_another B0 C0 D0 E0 ev o9) ?_;rintro _ _ ⟨rfl,x2⟩;refine pu1<|SB 109 (anotherE ws.length ev) (fun t0=>jOR 13 rfl<|retT [.bool false]<| .inl ⟨(ev_in (m:=(⟨ws,A0,rd⟩:MS)) (evt_ext a0) (by dsimp only;omega) c0).trans ((evK_12 om).trans (if_neg (fun h=>t0 h.1))),rfl,(x2.drops [0,0,0,0,1])⟩) fun t0=>gOO x2 5 [5] rfl<|gY ?_;have q9:=(x2.picks [4,4,4,4,4]);have M0:=another_bd t0;refine cZ (am_help B0 C0 D0 E0 ((ev.worker).toNat) e0 c0 ev.from_ om _ _ _ _ hl q9) ?_;rintro _ _ ⟨rfl,l3⟩;exact jOR 7 rfl<|retT [.bool (helpM A0 ws rd e0 ev.from_ l)]<|bC ((helpM A0 ws rd e0 ev.from_ l)=true) (fun u0=>(by rw [show (helpM A0 ws rd e0 ev.from_ l)=false from (Bool.eq_false_iff.2 u0)];exact .inl ⟨(ev_in (m:=(⟨ws,A0,rd⟩:MS)) (evt_ext a0) (by dsimp only;omega) c0).trans ((evK_12 om).trans (if_neg (fun h=>u0 h.2))),rfl,(l3.drops [0,0,0,0,1])⟩)) fun u0=>(by rw [show (helpM A0 ws rd e0 ev.from_ l)=true from u0];have s9:=(l3.dropAt 5 rfl);have t9:Sat W _ (([(p, .cells #[.slice oa on ok, .slice (some ⟨wb,wo,none⟩) wn wk, .slice ja jn jk,I rd] 147 (0,0))]++(Wc++(Jc++J0.flatten)))::H::F):=Sat.perm (show Sat W _ ([(p, .cells #[.slice oa on ok, .slice (some ⟨wb,wo,none⟩) wn wk, .slice ja jn jk,I rd] 147 (0,0))]::Wc::Jc::J0.flatten::H::F) from s9) (by simp);exact .inr ⟨⟨ws,A0,rd⟩,_,(ev_in (m:=(⟨ws,A0,rd⟩:MS)) (evt_ext a0) (by dsimp only;omega) c0).trans ((evK_12 om).trans (if_pos ⟨t0,u0⟩)),rfl,⟨_,_,_,_,_,_,_,_,_,_,_,_,rfl,B0,C0,D0,G0,F0⟩,t9⟩))) fun n9=>?_
 refine jCC 6 rfl<|CE ev.kind 13 (fun u9=>jCR 9 rfl<|retT [.bool false]<| .inl ⟨(ev_in (m:=(⟨ws,A0,rd⟩:MS)) (evt_ext a0) (by dsimp only;omega) c0).trans (evK_no om),rfl,(g0.drops [0,0,0,0,0])⟩) fun u9=>jCO 5 rfl<|sMp g0 (g3.up 2 rfl) 0 (I e0.phase)<|pu2<|SE 124 e0.phase 0 (fun w9=>jOR 17 rfl<|retT [.bool false]<| .inl ⟨(ev_in (m:=(⟨ws,A0,rd⟩:MS)) (evt_ext a0) (by dsimp only;omega) c0).trans ((evK_13 om).trans (if_neg (fun h=>by have h1:=h.1;have h2:=h.2.1;dsimp only at h2;omega))),rfl,(g0.drops [0,0,0,0,0])⟩) fun w9=>gOO g0 7 [1] rfl<|SE 131 rd 0 (fun y9=>jOR 10 rfl<|retT [.bool false]<| .inl ⟨(ev_in (m:=(⟨ws,A0,rd⟩:MS)) (evt_ext a0) (by dsimp only;omega) c0).trans ((evK_13 om).trans (if_neg (fun h=>by have h1:=h.1;have h2:=h.2.1;dsimp only at h2;omega))),rfl,(g0.drops [0,0,0,0,0])⟩) fun y9=>pu1<|gY ?_
 have aa:=(g0.picks [5,5,5,5,5])
 refine cZ (am_any B0 C0 D0 E0 aa) ?_
 rintro _ _ ⟨rfl,m3⟩
 exact jOR 8 rfl<|retT [.bool (!(ws.any (busyM A0)))]<|bD ((ws.any (busyM A0))=true) (fun v0=>(by rw [show (!(ws.any (busyM A0)))=false from (congrArg Bool.not v0)];exact .inl ⟨(ev_in (m:=(⟨ws,A0,rd⟩:MS)) (evt_ext a0) (by dsimp only;omega) c0).trans ((evK_13 om).trans (if_neg (fun h=>h.2.2 v0))),rfl,(m3.drops [0,0,0,0,1])⟩)) fun v0=>(by rw [show (!(ws.any (busyM A0)))=true from (congrArg Bool.not (Bool.eq_false_iff.2 v0))];have ca:=(m3.dropAt 5 rfl);have da:Sat W _ (([(p, .cells #[.slice oa on ok, .slice (some ⟨wb,wo,none⟩) wn wk, .slice ja jn jk,I rd] 147 (0,0))]++(Wc++(Jc++J0.flatten)))::H::F):=Sat.perm (show Sat W _ ([(p, .cells #[.slice oa on ok, .slice (some ⟨wb,wo,none⟩) wn wk, .slice ja jn jk,I rd] 147 (0,0))]::Wc::Jc::J0.flatten::H::F) from ca) (by simp);exact .inr ⟨⟨ws,A0,rd⟩,_,(ev_in (m:=(⟨ws,A0,rd⟩:MS)) (evt_ext a0) (by dsimp only;omega) c0).trans ((evK_13 om).trans (if_pos ⟨om,by dsimp only;omega,v0⟩)),rfl,⟨_,_,_,_,_,_,_,_,_,_,_,_,rfl,B0,C0,D0,G0,F0⟩,da⟩)
end Go.Proofs.YtkadmghedmodbaaGreat

namespace Go.Proofs.YtkadmghedmodbaaGreat
open Go Go.E Go.Proofs.Tryz
set_option linter.all false
set_option maxRecDepth 100000
set_option maxHeartbeats 2000000
variable {W w:World} {H:Chunk} {F:List Chunk}
theorem au_check (c:Cfg) (ao:Option Addr) (no ko:Nat) (o:List TL) (al:Option Addr) (nl kl:Nat) (l:List Evt) (ho:RdT encTL 1 [H] ao no ko o) (do_:∀z∈o,TL.Ok [H] z) (hl:RdT encEvt 7 [H] al nl kl l) (hlb:l.length<=100000) (hS:Sat W w (H::F)):
  Ro prog 35 #[.agg (encCfg c).toArray, .slice ao no ko, .slice al nl kl] (.tuple #[I ((checkM o c l).1), .bool ((checkM o c l).2)]) W w (H::F):=by
 have G0:=ho.ll
 have F0:=hl.ll
 refine callsK 39 func35 rfl<|jCO 2 rfl<|sBx hS (encCfg c) fun k0 _ l0=>gOO l0 8 [800] rfl<|cS (ad_valid c l0.flat) fun _ d0=>jOC 3 rfl<|CN (validCfg c) 0 (fun e0=>jCR 8 rfl<|retT [I 0, .bool false]<|(by have m0:=(d0.dropAt 0 rfl);have C0:checkM o c l=(0,false):=(by unfold checkM;rw [if_neg e0]);rw [C0];exact ⟨rfl,m0⟩)) fun e0=>jCC 3 rfl ?_
 have A0:validCfg c=0:=e0;have H0:=validCfg_zero A0
 refine gCO d0 4 [0] rfl<|sMake (kl:= .i64) (kc:= .i64) (enc:=encWk) (sz:=5) (nb:=40) d0 ⟨0,0,0,0,0⟩ (c.workers).toNat c.workers (om:c.workers=(((c.workers).toNat:Nat):Int)) underlying144 (i:=Tryz.t200) kr fR fun a0 f0 _ n0 o0=>pu1<|sBx o0 [.slice ao no ko, .slice (At a0 0) ((c.workers).toNat) ((c.workers).toNat),nS,I 0] fun b0 _ p0=>jOC 12 rfl ?_
 have q0:Sat W _ (([(b0, .cells #[.slice ao no ko, .slice (At a0 0) ((c.workers).toNat) ((c.workers).toNat),nS,I 0] 147 (0,0))]++(f0++(([]:Chunk)++([]:List Chunk).flatten)))::[(k0, .cells (encCfg c).toArray 24 (0,0))]::H::F):=Sat.perm (show Sat W _ ([(b0, .cells #[.slice ao no ko, .slice (At a0 0) ((c.workers).toNat) ((c.workers).toNat),nS,I 0] 147 (0,0))]::f0::[(k0, .cells (encCfg c).toArray 24 (0,0))]::H::F) from p0) (by simp)
 refine loopF [2,8,20,21] (γ:=Nat×MS×Chunk) (fun ⟨i,m,M⟩ R=>⟨[(22,I (i:Int))],M::R,nl-i,i<=nl/\MachR b0 a0 0 H o m M/\MW m (i:Int)/\checkM o c l=runM o m (l.drop i) i⟩) (0,(startM c),([(b0, .cells #[.slice ao no ko, .slice (At a0 0) ((c.workers).toNat) ((c.workers).toNat),nS,I 0] 147 (0,0))]++(f0++(([]:Chunk)++([]:List Chunk).flatten)))) ⟨q0,om,⟨_,none,_,_,_,_,0,0,[],_,[],[],rfl,n0,OwnT.nil fR,Obs.nil _,ho,do_⟩,(startM_ok c),(by unfold checkM;rw [if_pos A0];rfl)⟩ ?_
 rintro ⟨i,m,M⟩ ρ _ ⟨g0,hi,hM,D0,B0⟩
 refine jCC 6 rfl<|CD ((i:Int)<(nl:Int)) (fun r0=>jCR 14 rfl<|retT [I (nl:Int), .bool true]<|(by have s0:=(g0.drops [0,0]);obtain rfl:i=nl:=(by omega);have C0:checkM o c l=((i:Int),true):=B0.trans (by rw [List.drop_of_length_le om];rfl);rw [C0];exact ⟨rfl,s0⟩)) fun r0=>jCO 7 rfl<|sIN hl i fun h0 _ _ i0 t0=>sMA g0 (t0.up 2 rfl) 0 (encEvt h0)<|sAlloc g0 zeroValue63 fun _ _ u0=>pu1<|sTk u0 0 rfl (encEvt h0) fun _ v0=>jOC 3 rfl<|drawF v0 [6] (fb 1 0 0 7<|fn) [0,2,3,4,5,1,6,7] fun _ w0=>wV 3<|wAdd (i:Int) 1 ?_
 have x0:=hl.part (lo:=(((i:Int)+1)).toNat) (hi:=nl) om om
 refine wY (.slice (partAddr al kl ((((i:Int)+1)).toNat) 7) (nl-((((i:Int)+1)).toNat)) (kl-((((i:Int)+1)).toNat))) rfl (fun w _=>Y_sl (a:=al) (len:=nl) (cap:=kl) (some ((i:Int)+1)) none ((((i:Int)+1)).toNat) nl runUnderlying26 sizeOf63 ⟨om,om⟩ rfl om om)<|wG 0 7<|wO rfl ?_
 have y0:=(w0.picks [3,2])
 have z0:((l.drop ((((i:Int)+1)).toNat)).take (nl-((((i:Int)+1)).toNat)))=l.drop (i+1):=by rw [List.take_of_length_le (by rw [List.length_drop];omega)];congr 1<;>omega
 have E0:=x0;rw [z0] at E0
 refine cZ (am_event hM D0 h0 _ _ _ _ E0 y0) ?_
 rintro _ _ (⟨c0,rfl,j0⟩|⟨a1,b1,c0,rfl,c1,j0⟩)
 ·exact nA<|wV 1<|wN<|jXR 15 rfl<|retT [I (i:Int), .bool false]<|(by have d1:=(j0.drops [1,1]);have C0:checkM o c l=((i:Int),false):=B0.trans (run_no i0 c0);rw [C0];exact ⟨rfl,d1⟩)
 exact nA<|wV 1<|wN<|jXO 6 rfl<|sAdd (i:Int) 1<|jOI 2 rfl<|⟨(i+1,a1,b1),od,alB,((j0.picks [3,1]).dropAt 3 rfl),om,c1,(event_ok D0 om c0).1,(B0.trans (run_yes i0 c0))⟩
def count1 (s:Stt) (e:Evt):Stt:=
  if e.kind=3\/e.kind=4 then {s with starts:=s.starts+1} else if e.kind=5 then {s with starts:=s.starts+1,steals:=s.steals+1}
  else if e.kind=8 then {s with commits:=s.commits+1} else if e.kind=9 then {s with drops:=s.drops+1}
  else if e.kind=10 then {s with crashes:=s.crashes+1} else if e.kind=12 then {s with helps:=s.helps+1} else s
def countE (l:List Evt):Stt:=l.foldl count1 ⟨0,0,0,0,0,0,0,0,0,0⟩
theorem count_take {l:List Evt} {i:Nat} {e:Evt} (h:l[i]?=some e):countE (l.take (i+1))=count1 (countE (l.take i)) e:=by
  unfold countE;rw [take_succ_at h,List.foldl_append];rfl
def CntOk (s:Stt) (n:Nat):Prop:=(0<=s.starts/\s.starts<=n)/\(0<=s.commits/\s.commits<=n)/\(0<=s.drops/\s.drops<=n)/\(0<=s.crashes/\s.crashes<=n)/\(0<=s.steals/\s.steals<=n)/\(0<=s.helps/\s.helps<=n)
theorem CntOk.step {s:Stt} {n:Nat} {e:Evt} (h:CntOk s n):CntOk (count1 s e) (n+1):=by
  unfold CntOk at*
  unfold count1
  split
  · dsimp only;omega
  · split
    · dsimp only;omega
    · split
      · dsimp only;omega
      · split
        · dsimp only;omega
        · split
          · dsimp only;omega
          · split
            · dsimp only;omega
            · omega
theorem count_ok {l:List Evt}:∀{i:Nat},CntOk (countE (l.take i)) i
  |0=>by unfold CntOk countE;simp
  |i+1=>by
    by_cases h:i<l.length
    · rw [count_take (List.getElem?_eq_getElem h)];exact count_ok.step
    · exact (by rw [List.take_of_length_le (by omega)];have:=count_ok (l:=l) (i:=i);rw [List.take_of_length_le (by omega)] at this;unfold CntOk at*;omega)
theorem au_count (al:Option Addr) (nl kl:Nat) (l:List Evt) (hl:RdT encEvt 7 [H] al nl kl l) (hlb:l.length<=100000) (hS:Sat W w (H::F)):
  Ro prog 37 #[.slice al nl kl] (.agg #[I ((countE l).starts),I ((countE l).commits),I ((countE l).drops),I ((countE l).crashes),I ((countE l).steals),I ((countE l).helps),I ((countE l).spills),I ((countE l).queued),I ((countE l).held),I ((countE l).cells)]) W w (H::F):=by
 have B0:=hl.ll
 refine callsK 57 func37 rfl<|jCO 2 rfl<|sAlloc hS zeroValue67 fun _ _ h0=>jOO 4 rfl<|sAlloc h0 zeroValue67 fun i0 _ j0=>jOC 11 rfl<|loopF [2,3,6,7] (γ:=Nat×Stt) (fun ⟨i,s⟩ R=>⟨[(8,I (i:Int))],[(i0, .cells (encStt s).toArray 67 (0,0))]::R,nl-i,i<=nl/\s=countE (l.take i)/\CntOk s i⟩) (0,⟨0,0,0,0,0,0,0,0,0,0⟩) ⟨j0,om,rfl,(by unfold CntOk;simp)⟩ ?_
 rintro ⟨i,s⟩ ρ _ ⟨d0,hi,hs,C0⟩
 unfold CntOk at C0
 refine jCC 6 rfl<|CD ((i:Int)<(nl:Int)) (fun k0=>gCO d0 8 [1000] rfl<|sTk d0 1 rfl (encStt s) fun _ e0=>jOR 3 rfl<|retN (vs:=[.agg (encStt s).toArray]) rfl (.cons (.cell _ _ _ _ kr (lvA e0 1 0 (encStt s) (isAgg67 _) (sizeOf67 _) rfl rfl rfl)) .nil)<|(by have l0:=(e0.drops [0,0]);rw [List.take_of_length_le om] at hs;subst hs;exact ⟨rfl,l0⟩)) fun k0=>jCO 6 rfl<|sIN hl i fun b0 _ _ c0 m0=>sMA d0 (m0.up 2 rfl) 0 (encEvt b0)<|sAlloc d0 zeroValue63 fun _ _ n0=>sTk n0 0 rfl (encEvt b0) fun _ a0=>gOC a0 16 [0] rfl<|cE b0.kind 3 (fun f0=>jCC 2 rfl<|cT _ (beq_iff_eq.2 f0)<|gCO a0 3 [1] rfl<|sAdd s.starts 1<|pu1<|tWk a0 1 rfl 0 (I (s.starts+1)) fun _ o0=>jOO 5 rfl<|sAdd (i:Int) 1<|jOI 2 rfl<|(by have p0:=(o0.dropAt 0 rfl);have A0:countE (l.take (i+1))=(⟨(s.starts+1),s.commits,s.drops,s.crashes,s.steals,s.helps,s.spills,s.queued,s.held,s.cells⟩:Stt):=(by rw [count_take c0,<-hs];unfold count1;rw [if_pos om]);exact ⟨(i+1,(⟨(s.starts+1),s.commits,s.drops,s.crashes,s.steals,s.helps,s.spills,s.queued,s.held,s.cells⟩:Stt)),od,alB,p0,om,A0.symm,(by rw [<-A0];exact count_ok)⟩)) fun f0=>?_
 refine jCC 5 rfl<|cE b0.kind 4 (fun q0=>gCO a0 3 [1] rfl<|sAdd s.starts 1<|pu1<|tWk a0 1 rfl 0 (I (s.starts+1)) fun _ r0=>jOO 5 rfl<|sAdd (i:Int) 1<|jOI 2 rfl<|(by have s0:=(r0.dropAt 0 rfl);have A0:countE (l.take (i+1))=(⟨(s.starts+1),s.commits,s.drops,s.crashes,s.steals,s.helps,s.spills,s.queued,s.held,s.cells⟩:Stt):=(by rw [count_take c0,<-hs];unfold count1;rw [if_pos om]);exact ⟨(i+1,(⟨(s.starts+1),s.commits,s.drops,s.crashes,s.steals,s.helps,s.spills,s.queued,s.held,s.cells⟩:Stt)),od,alB,s0,om,A0.symm,(by rw [<-A0];exact count_ok)⟩)) fun q0=>jCC 6 rfl<|cE b0.kind 5 (fun t0=>gCO a0 4 [1] rfl<|sAdd s.starts 1<|pu1<|tWk a0 1 rfl 0 (I (s.starts+1)) fun _ g0=>gOO g0 5 [1] rfl<|sAdd s.steals 1<|pu1<|tWk g0 1 rfl 4 (I (s.steals+1)) fun _ u0=>jOO 5 rfl<|sAdd (i:Int) 1<|jOI 2 rfl<|(by have v0:=(u0.dropAt 0 rfl);have A0:countE (l.take (i+1))=(⟨(s.starts+1),s.commits,s.drops,s.crashes,(s.steals+1),s.helps,s.spills,s.queued,s.held,s.cells⟩:Stt):=(by rw [count_take c0,<-hs];unfold count1;rw [if_neg om,if_pos om]);exact ⟨(i+1,(⟨(s.starts+1),s.commits,s.drops,s.crashes,(s.steals+1),s.helps,s.spills,s.queued,s.held,s.cells⟩:Stt)),od,alB,v0,om,A0.symm,(by rw [<-A0];exact count_ok)⟩)) fun t0=>?_
 refine jCC 6 rfl<|cE b0.kind 8 (fun w0=>gCO a0 3 [1] rfl<|sAdd s.commits 1<|pu1<|tWk a0 1 rfl 1 (I (s.commits+1)) fun _ x0=>jOO 5 rfl<|sAdd (i:Int) 1<|jOI 2 rfl<|(by have y0:=(x0.dropAt 0 rfl);have A0:countE (l.take (i+1))=(⟨s.starts,(s.commits+1),s.drops,s.crashes,s.steals,s.helps,s.spills,s.queued,s.held,s.cells⟩:Stt):=(by rw [count_take c0,<-hs];unfold count1;rw [if_neg om,if_neg om,if_pos om]);exact ⟨(i+1,(⟨s.starts,(s.commits+1),s.drops,s.crashes,s.steals,s.helps,s.spills,s.queued,s.held,s.cells⟩:Stt)),od,alB,y0,om,A0.symm,(by rw [<-A0];exact count_ok)⟩)) fun w0=>jCC 6 rfl<|cE b0.kind 9 (fun z0=>gCO a0 3 [1] rfl<|sAdd s.drops 1<|pu1<|tWk a0 1 rfl 2 (I (s.drops+1)) fun _ a1=>jOO 5 rfl<|sAdd (i:Int) 1<|jOI 2 rfl<|(by have b1:=(a1.dropAt 0 rfl);have A0:countE (l.take (i+1))=(⟨s.starts,s.commits,(s.drops+1),s.crashes,s.steals,s.helps,s.spills,s.queued,s.held,s.cells⟩:Stt):=(by rw [count_take c0,<-hs];unfold count1;rw [if_neg om,if_neg om,if_neg om,if_pos om]);exact ⟨(i+1,(⟨s.starts,s.commits,(s.drops+1),s.crashes,s.steals,s.helps,s.spills,s.queued,s.held,s.cells⟩:Stt)),od,alB,b1,om,A0.symm,(by rw [<-A0];exact count_ok)⟩)) fun z0=>?_
 refine jCC 6 rfl<|cE b0.kind 10 (fun c1=>gCO a0 3 [1] rfl<|sAdd s.crashes 1<|pu1<|tWk a0 1 rfl 3 (I (s.crashes+1)) fun _ d1=>jOO 5 rfl<|sAdd (i:Int) 1<|jOI 2 rfl<|(by have e1:=(d1.dropAt 0 rfl);have A0:countE (l.take (i+1))=(⟨s.starts,s.commits,s.drops,(s.crashes+1),s.steals,s.helps,s.spills,s.queued,s.held,s.cells⟩:Stt):=(by rw [count_take c0,<-hs];unfold count1;rw [if_neg om,if_neg om,if_neg om,if_neg om,if_pos om]);exact ⟨(i+1,(⟨s.starts,s.commits,s.drops,(s.crashes+1),s.steals,s.helps,s.spills,s.queued,s.held,s.cells⟩:Stt)),od,alB,e1,om,A0.symm,(by rw [<-A0];exact count_ok)⟩)) fun c1=>jCC 6 rfl<|CE b0.kind 12 (fun f1=>jCO 5 rfl<|sAdd (i:Int) 1<|jOI 2 rfl<|(by have g1:=(a0.dropAt 0 rfl);have A0:countE (l.take (i+1))=s:=(by rw [count_take c0,<-hs];unfold count1;rw [if_neg om,if_neg om,if_neg om,if_neg om,if_neg om,if_neg om]);exact ⟨(i+1,s),od,alB,g1,om,A0.symm,(by rw [<-A0];exact count_ok)⟩)) fun f1=>gCO a0 3 [1] rfl<|sAdd s.helps 1<|pu1<|tWk a0 1 rfl 5 (I (s.helps+1)) fun _ h1=>jOO 5 rfl<|sAdd (i:Int) 1<|jOI 2 rfl ?_
 have i1:=(h1.dropAt 0 rfl)
 have A0:countE (l.take (i+1))=(⟨s.starts,s.commits,s.drops,s.crashes,s.steals,(s.helps+1),s.spills,s.queued,s.held,s.cells⟩:Stt):=by rw [count_take c0,<-hs];unfold count1;rw [if_neg om,if_neg om,if_neg om,if_neg om,if_neg om,if_pos om]
 exact ⟨(i+1,(⟨s.starts,s.commits,s.drops,s.crashes,s.steals,(s.helps+1),s.spills,s.queued,s.held,s.cells⟩:Stt)),od,alB,i1,om,A0.symm,(by rw [<-A0];exact count_ok)⟩
end Go.Proofs.YtkadmghedmodbaaGreat
