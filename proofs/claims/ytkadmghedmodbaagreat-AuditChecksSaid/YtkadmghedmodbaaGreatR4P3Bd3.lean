import Derived.Test.YtkadmghedmodbaaGreatR4P3Ab
set_option linter.all false
namespace Go.Proofs.YtkadmghedmodbaaGreat
open Go Go.E Go.Proofs.Tryz
set_option linter.all false
set_option maxRecDepth 100000
set_option maxHeartbeats 2000000
variable {W w:World} {H:Chunk} {F:List Chunk}
def inB (B:BS) (i:Int):Prop:=0<=i/\i<((B.deps.length:Nat):Int)
instance (B:BS) (i:Int):Decidable (inB B i):=inferInstanceAs (Decidable (_/\_))
def startB (B:BS) (i:Int):BS×Int×Int:=if inB B i then (if stAt B.st i=2 then (⟨B.deps,B.st.set i.toNat 3,B.att⟩,B.att.getD i.toNat 0,0) else (B,0,20)) else (B,0,16)
def heldC (B:BS) (i a:Int):Int:=if inB B i then (if stAt B.st i=3/\B.att.getD i.toNat 0=a then 0 else 20) else 16
def retB (B:BS) (i a:Int):BS:=if heldC B i a=0 then ⟨B.deps,B.st.set i.toNat 2,B.att.set i.toNat (a+1)⟩ else B
def condB (s:List Int) (D:List (List Int)) (q:Nat):Bool:=decide (s.getD q 0=1)&&!openB s (D.getD q [])
def rdyB (s:List Int) (D:List (List Int)):List Int:=((List.range D.length).filter (condB s D)).map fun (q:Nat)=>(q:Int)
def markB (s:List Int) (D:List (List Int)):List Int:=(List.range D.length).map fun q=>if condB s D q then 2 else s.getD q 0
def comB (B:BS) (i a:Int):BS×List Int:=if heldC B i a=0 then (⟨B.deps,markB (B.st.set i.toNat 4) B.deps,B.att⟩,rdyB (B.st.set i.toNat 4) B.deps) else (B,[])
def idxOf (y:Int):Nat->List Int->List Int
  |_,[]=>[]
  |k,x::l=>(if x=y then [((k:Nat):Int)] else [])++idxOf y (k+1) l
structure BWf (B:BS) (K:Int):Prop where
  ls:B.st.length=B.deps.length
  la:B.att.length=B.deps.length
  n0:B.deps.length<=4096
  asc:∀(k:Nat) d,B.deps[k]?=some d->ascFrom k (-1) d=true
  st:∀x∈B.st,1<=x/\x<=4
  wait:∀(k:Nat) d,B.deps[k]?=some d->(B.st.getD k 0=1↔openB B.st d=true)
  att:∀x∈B.att,0<=x/\x<=K
theorem getD_mem {s:List Int} {q:Nat} (h:q<s.length):s.getD q 0∈s:=by simp [List.getD_eq_getElem?_getD,h]
theorem stAt_nat (s:List Int) {i:Int} (h:0<=i):stAt s i=s.getD i.toNat 0:=by unfold stAt;rw [if_pos h]
theorem getD_set {s:List Int} {k q:Nat} {y:Int}:(s.set k y).getD q 0=if k=q/\k<s.length then y else s.getD q 0:=by
  rw [List.getD_eq_getElem?_getD,List.getD_eq_getElem?_getD,List.getElem?_set]
  by_cases h:k=q
  · subst h
    by_cases h2:k<s.length
    · simp [h2]
    · simp [h2]
  · simp [h]
theorem stAt_set {s:List Int} {k:Nat} {y x:Int}:stAt (s.set k y) x=if x=(k:Nat)/\k<s.length then y else stAt s x:=by
  unfold stAt
  by_cases h:0<=x
  · rw [if_pos h,if_pos h,getD_set]
    by_cases h2:x=(k:Nat)
    · subst h2;simp
    · rw [if_neg (by omega),if_neg (by omega)]
  · rw [if_neg h,if_neg h,if_neg (by omega)]
theorem four_same {s:List Int} {k:Nat} {y:Int} (h:s.getD k 0≠4) (hy:y≠4) (x:Int):stAt (s.set k y) x≠4↔stAt s x≠4:=by
  rw [stAt_set]
  split
  · exact (by rename_i h2;have h3:stAt s x=s.getD k 0:=(by rw [h2.1,stAt_nat _ (by omega)];simp);rw [h3];exact ⟨fun _=>h,fun _=>hy⟩)
  · exact Iff.rfl
theorem pend_same {s t:List Int} {d:List Int} (h:∀x∈d,(stAt s x≠4↔stAt t x≠4)):pendOf s d=pendOf t d:=by
  unfold pendOf
  congr 2
  apply List.filter_congr
  intro x hx
  exact decide_eq_decide.2 (h x hx)
theorem open_same {s t:List Int} {d:List Int} (h:∀x∈d,(stAt s x≠4↔stAt t x≠4)):openB s d=openB t d:=by
  unfold openB
  rw [Bool.eq_iff_iff,List.any_eq_true,List.any_eq_true]
  constructor
  · rintro ⟨x,hx,h2⟩;exact ⟨x,hx,by simpa using (h x hx).1 (by simpa using h2)⟩
  · rintro ⟨x,hx,h2⟩;exact ⟨x,hx,by simpa using (h x hx).2 (by simpa using h2)⟩
theorem pend_open {s d:List Int}:pendOf s d=0↔openB s d=false:=by
  unfold pendOf openB
  rw [List.any_eq_false]
  constructor
  · exact (by intro h x hx;have h2:(d.filter fun x=>decide (stAt s x≠4))=[]:=List.eq_nil_of_length_eq_zero (by omega);rw [List.filter_eq_nil_iff] at h2;exact h2 x hx)
  · exact (by intro h;rw [List.filter_eq_nil_iff.2 h];rfl)
theorem count_set {s:List Int} {k:Nat} {y:Int}:∀(h:k<s.length),((s.set k y).filter fun x=>decide (x=4)).length+(if s.getD k 0=4 then 1 else 0)=(s.filter fun x=>decide (x=4)).length+(if y=4 then 1 else 0):=by
 induction s generalizing k with
 |nil=>intro h;simp at h
 |cons x s ih=>
  intro h
  cases k with
  |zero=>
   simp only [List.set_cons_zero,List.filter_cons,List.getD_cons_zero,decide_eq_true_eq]
   split<;>split<;>simp_all<;>omega
  |succ k=>
   have h2:=ih (k:=k) (by simpa using h)
   simp only [List.set_cons_succ,List.filter_cons,List.getD_cons_succ,decide_eq_true_eq]
   by_cases hx:x=4
   ·rw [if_pos hx,if_pos hx];simp only [List.length_cons];omega
   ·rw [if_neg hx,if_neg hx];exact h2
theorem entsOf_len {es:List BEnt} {B:BS} (h:es.map BEnt.v=entsOf B):es.length=B.deps.length:=by
  have:=congrArg List.length h
  simpa [entsOf] using this
theorem entAt {es:List BEnt} {B:BS} {i:Nat} {x:BEnt} (h:es.map BEnt.v=entsOf B) (hx:es[i]?=some x):i<B.deps.length/\x.state=B.st.getD i 0/\x.attempt=B.att.getD i 0/\x.pending=pendOf B.st (B.deps.getD i [])/\x.next.l=nextOf 0 B.deps i:=by
  obtain ⟨h1,h2⟩:=ent_at h hx
  have e:=congrArg BEntV.state h2;have e2:=congrArg BEntV.attempt h2;have e3:=congrArg BEntV.pending h2;have e4:=congrArg BEntV.next h2
  exact ⟨h1,e,e2,e3,e4⟩
theorem ents_state {es:List BEnt} {B:BS} {i:Nat} {x x':BEnt} {y z:Int} (hl:B.st.length=B.deps.length) (hl2:B.att.length=B.deps.length) (h:es.map BEnt.v=entsOf B) (hx:es[i]?=some x) (h0:x.state≠4) (hy:y≠4)
  (h1:x'.state=y) (h2:x'.attempt=z) (h3:x'.pending=x.pending) (h4:x'.next=x.next):(es.set i x').map BEnt.v=entsOf ⟨B.deps,B.st.set i y,B.att.set i z⟩/\doneOf ⟨B.deps,B.st.set i y,B.att.set i z⟩=doneOf B:=by
 obtain ⟨hi,e1,e2,e3,e4⟩:=entAt h hx
 have f4:∀x,stAt (B.st.set i y) x≠4↔stAt B.st x≠4:=four_same (by rw [<-e1];exact h0) hy
 constructor
 ·unfold entsOf
  refine ents_set h (fun q hq a0=>?_) (fun _=>?_)
  · exact (by simp only [entV,getD_set,pend_same (fun x _=>f4 x)];rw [if_neg om,if_neg om])
  · exact (by simp only [BEnt.v,entV,getD_set,pend_same (fun x _=>f4 x),h1,h2,h3,h4,e3,e4];rw [if_pos ⟨trivial,om⟩,if_pos ⟨trivial,om⟩])
 · exact (by unfold doneOf;have:=count_set (s:=B.st) (k:=i) (y:=y) om;rw [if_neg (by rw [<-e1];exact h0),if_neg hy] at this;simp only;omega)
theorem set_self {s:List Int} {i:Nat}:s.set i (s.getD i 0)=s:=by
  apply List.ext_getElem?
  intro q
  rw [List.getElem?_set]
  by_cases h:i=q
  · subst h
    by_cases h2:i<s.length
    · simp [h2,List.getD_eq_getElem?_getD]
    · simp [h2]
  · rw [if_neg h]
theorem ok_set {es:List BEnt} {G:Chunk} {i:Nat} {x x':BEnt} (h:∀z∈es,BEnt.Ok [G] z) (hx:es[i]?=some x) (hn:x'.next=x.next):∀z∈es.set i x',BEnt.Ok [G] z:=by
  intro z hz
  rcases List.mem_or_eq_of_mem_set hz with h1|rfl
  · exact h z h1
  · exact ⟨by rw [hn];exact (h x (List.mem_of_getElem? hx)).next⟩
theorem BWf.mono {B:BS} {K L:Int} (h:BWf B K) (hk:K<=L):BWf B L:=⟨h.ls,h.la,h.n0,h.asc,h.st,h.wait,fun x hx=>by have:=h.att x hx;omega⟩
theorem wf_state {B:BS} {K L:Int} {i:Nat} {y z:Int} (h:BWf B K) (hi:i<B.deps.length) (h0:B.st.getD i 0≠4) (h1:B.st.getD i 0≠1) (hy:2<=y/\y<=3) (hz:0<=z/\z<=L) (hk:K<=L):BWf ⟨B.deps,B.st.set i y,B.att.set i z⟩ L:=by
 refine ⟨by simp [h.ls],by simp [h.la],h.n0,h.asc,fun x hx=>?_,fun k d hd=>?_,fun x hx=>?_⟩
 ·rcases List.mem_or_eq_of_mem_set hx with h2|rfl
  ·exact h.st x h2
  ·omega
 ·have hw:=h.wait k d hd
  simp only at hd⊢
  rw [open_same (fun x _=>four_same h0 (by omega:y≠4) x),<-hw,getD_set]
  split
  ·rename_i h2;obtain ⟨rfl,_⟩:=h2;omega
  ·exact Iff.rfl
 ·rcases List.mem_or_eq_of_mem_set hx with h2|rfl
  ·have:=h.att x h2;omega
  ·omega
theorem start_wf {B:BS} {K:Int} {i:Int} (h:BWf B K):BWf (startB B i).1 K:=by
  unfold startB
  split
  · rename_i hi
    split
    · exact (by rename_i h2;rw [stAt_nat _ hi.1] at h2;have a0:i.toNat<B.deps.length:=(by have h8:=hi.1;have h9:=hi.2;omega);have h3:=wf_state (i:=i.toNat) (y:=3) (z:=B.att.getD i.toNat 0) h a0 (by omega) (by omega) (by omega) (L:=K) (h.att _ (getD_mem (by rw [h.la];exact a0))) (Int.le_refl _);rw [set_self] at h3;exact h3)
    · exact h
  · exact h
theorem heldC_zero {B:BS} {i a:Int} (h:heldC B i a=0):inB B i/\stAt B.st i=3/\B.att.getD i.toNat 0=a:=by
  unfold heldC at h
  split at h
  · split at h
    · rename_i h1 h2;exact ⟨h1,h2⟩
    · omega
  · omega
theorem ret_wf {B:BS} {K:Int} {i a:Int} (h:BWf B K):BWf (retB B i a) (K+1):=by
  unfold retB
  split
  · exact (by rename_i h0;obtain ⟨hi,h1,h2⟩:=heldC_zero h0;rw [stAt_nat _ hi.1] at h1;have a0:i.toNat<B.deps.length:=(by have h8:=hi.1;have h9:=hi.2;omega);have h3:=h.att (B.att.getD i.toNat 0) (getD_mem (by rw [h.la];exact a0));exact wf_state h a0 (by omega) (by omega) (by omega) (by omega) (by omega))
  · exact h.mono (by omega)
theorem getD_range {n q:Nat} {f:Nat->Int} (h:q<n):((List.range n).map f).getD q 0=f q:=by rw [List.getD_eq_getElem?_getD,map_range_at h];rfl
theorem mark_four {s:List Int} {D:List (List Int)} (hl:s.length=D.length) (x:Int):stAt (markB s D) x≠4↔stAt s x≠4:=by
 unfold stAt
 by_cases h:0<=x
 ·rw [if_pos h,if_pos h]
  by_cases h2:x.toNat<D.length
  ·unfold markB
   rw [getD_range h2]
   split
   · exact (by rename_i h3;simp only [condB,Bool.and_eq_true,decide_eq_true_eq] at h3;rw [h3.1];simp)
   ·exact Iff.rfl
  ·have e1:(markB s D).getD x.toNat 0=0:=by rw [List.getD_eq_getElem?_getD,List.getElem?_eq_none (by simp [markB];omega)];rfl
   have e2:s.getD x.toNat 0=0:=by rw [List.getD_eq_getElem?_getD,List.getElem?_eq_none om];rfl
   rw [e1,e2]
 ·rw [if_neg h,if_neg h]
theorem com_wf {B:BS} {K:Int} {i a:Int} (h:BWf B K):BWf (comB B i a).1 K:=by
 unfold comB
 split
 ·rename_i h0
  obtain ⟨hi,h1,h2⟩:=heldC_zero h0
  rw [stAt_nat _ hi.1] at h1
  have e0:i.toNat<B.deps.length:=by have h8:=hi.1;have h9:=hi.2;omega
  have d0:(B.st.set i.toNat 4).length=B.deps.length:=by rw [List.length_set];exact h.ls
  refine ⟨by simp [markB],h.la,h.n0,h.asc,fun x hx=>?_,fun k d hd=>?_,h.att⟩
  ·simp only [markB,List.mem_map,List.mem_range] at hx
   obtain ⟨q,hq,rfl⟩:=hx
   split
   ·omega
   ·rw [getD_set]
    split
    ·omega
    ·exact h.st _ (getD_mem (by rw [h.ls];exact hq))
  ·have hk:k<B.deps.length:=(List.getElem?_eq_some_iff.1 hd).1
   simp only
   rw [open_same (fun x _=>mark_four d0 x)]
   unfold markB
   rw [getD_range hk]
   have b0:B.deps.getD k []=d:=by rw [List.getD_eq_getElem?_getD,hd];rfl
   have hw:=h.wait k d hd
   have a0:openB (B.st.set i.toNat 4) d=true->openB B.st d=true:=by
    unfold openB
    rw [List.any_eq_true,List.any_eq_true]
    rintro ⟨x,hx,h3⟩
    refine ⟨x,hx,?_⟩
    rw [decide_eq_true_eq,stAt_set] at h3
    rw [decide_eq_true_eq]
    split at h3
    ·omega
    ·exact h3
   by_cases hc:condB (B.st.set i.toNat 4) B.deps k=true
   · exact (by rw [if_pos hc];simp only [condB,Bool.and_eq_true,Bool.not_eq_true',b0] at hc;rw [hc.2];simp)
   ·rw [if_neg hc]
    constructor
    · exact (by intro h3;have c0:decide ((B.st.set i.toNat 4).getD k 0=1)=true:=decide_eq_true h3;simp only [condB,c0,b0,Bool.true_and,Bool.not_eq_true',Bool.not_eq_false] at hc;exact hc)
    ·intro h3
     have h4:=hw.2 (a0 h3)
     rw [getD_set,if_neg ?_]
     ·exact h4
     ·rintro ⟨rfl,_⟩;omega
 ·exact h
theorem new_wf {l:List Task} (h:validC l=0):BWf (newB l) 0:=by
 obtain ⟨h1,h2,h3⟩:=validC_zero h
 refine ⟨by simp [newB],by simp [newB],by simp [newB];omega,fun k d hd=>?_,fun x hx=>?_,fun k d hd=>?_,fun x hx=>?_⟩
 · exact (by simp only [newB,List.getElem?_map,Option.map_eq_some_iff] at hd;obtain ⟨t,ht,rfl⟩:=hd;exact taskOK_asc (tasksOK_at h3 ht))
 · exact (by simp only [newB,List.mem_map] at hx;obtain ⟨t,_,rfl⟩:=hx;simp only [st0];split<;>omega)
 ·simp only [newB,List.getElem?_map,Option.map_eq_some_iff] at hd
  obtain ⟨t,ht,rfl⟩:=hd
  have hk:k<l.length:=(List.getElem?_eq_some_iff.1 ht).1
  have e1:(newB l).st.getD k 0=st0 t.deps.l:=by simp [newB,List.getD_eq_getElem?_getD,ht]
  have e3:∀x,stAt (newB l).st x≠4:=by
   intro x
   unfold stAt
   split
   ·simp only [newB]
    rw [List.getD_eq_getElem?_getD,List.getElem?_map]
    cases l[x.toNat]? with
    |none=>simp
    |some t=>simp [st0];split<;>omega
   ·omega
  rw [e1]
  unfold openB st0
  cases hdl:t.deps.l with
  |nil=>simp
  |cons y ys=>simp [e3 y]
 · exact (by simp only [newB,List.mem_map] at hx;obtain ⟨t,_,rfl⟩:=hx;omega)
theorem idx_app (y:Int) (k:Nat) (l:List Int) (x:Int):idxOf y k (l++[x])=idxOf y k l++(if x=y then [((k+l.length:Nat):Int)] else []):=by
  induction l generalizing k with
  |nil=>simp [idxOf]
  |cons z l ih=>simp only [List.cons_append,idxOf,ih,List.append_assoc,List.length_cons];congr 4;simp;omega
theorem take_getD {s:List Int} {i:Nat} (h:i<s.length):s.take (i+1)=s.take i++[s.getD i 0]:=by
  rw [take_succ_at (x:=s.getD i 0)];simp [List.getD_eq_getElem?_getD,h]
theorem idx_y {y:Int} {s zs:List Int} {i:Nat} (hz:zs=idxOf y 0 (s.take i)) (hi:i<s.length) (h:s.getD i 0=y):zs++[(i:Int)]=idxOf y 0 (s.take (i+1)):=by
  rw [take_getD hi,idx_app,if_pos h,<-hz,List.length_take,Nat.min_eq_left (by omega),Nat.zero_add]
theorem idx_n {y:Int} {s zs:List Int} {i:Nat} (hz:zs=idxOf y 0 (s.take i)) (hi:i<s.length) (h:s.getD i 0≠y):zs=idxOf y 0 (s.take (i+1)):=by
  rw [take_getD hi,idx_app,if_neg h,<-hz,List.append_nil]
theorem idx_len {y:Int}:∀(k:Nat) (s:List Int),(idxOf y k s).length=(s.filter fun x=>decide (x=y)).length
  |_,[]=>rfl
  |k,x::s=>by
    simp only [idxOf,List.length_append,idx_len (k+1) s,List.filter_cons,decide_eq_true_eq]
    split<;>simp<;>omega
def entC (B:BS) (s nx:List Int) (q:Nat):BEntV:=
  if (q:Int)∈nx then ⟨if pendOf s (B.deps.getD q [])=0 then 2 else s.getD q 0,B.att.getD q 0,pendOf s (B.deps.getD q []),nextOf 0 B.deps q⟩ else ⟨s.getD q 0,B.att.getD q 0,pendOf B.st (B.deps.getD q []),nextOf 0 B.deps q⟩
theorem nx_mem {k:Nat} {i z:Int}:∀{D:List (List Int)},z∈nextOf k D i↔∃q:Nat,z=(k+q:Nat)/\q<D.length/\i∈D.getD q []
  |[]=>by simp [nextOf]
  |d::D=>by
    simp only [nextOf,List.mem_append,nx_mem (k:=k+1) (D:=D)]
    constructor
    · rintro (h|⟨q,rfl,h1,h2⟩)
      · split at h
        · rename_i h2;simp at h;exact ⟨0,by simp [h],by simp,by simpa using h2⟩
        · cases h
      · exact ⟨q+1,by omega,by simp;omega,by simpa using h2⟩
    · rintro ⟨q,rfl,h1,h2⟩
      cases q with
      |zero=>left;simp at h2;rw [if_pos h2];simp
      |succ q=>right;exact ⟨q,by omega,by simpa using h1,by simpa using h2⟩
theorem nx_asc {i:Int}:∀{D:List (List Int)} {k:Nat} {a:Int},a<k->ascFrom ((k+D.length:Nat):Int) a (nextOf k D i)=true
  |[],_,_,_=>rfl
  |d::D,k,a,h=>by
    simp only [nextOf]
    split
    · exact (by simp only [List.cons_append,List.nil_append,ascFrom,Bool.and_eq_true,decide_eq_true_eq,List.length_cons];exact ⟨⟨h,by omega⟩,(by have:=nx_asc (i:=i) (D:=D) (k:=k+1) (a:=k) (by omega);rw [show k+(D.length+1)=k+1+D.length by omega];exact this)⟩)
    · rw [List.nil_append,List.length_cons,show k+(D.length+1)=k+1+D.length by omega];exact nx_asc (by omega)
theorem asc_notin {i a x:Int} {l:List Int} {j:Nat} (h:ascFrom i a l=true) (hx:l[j]?=some x):x∉l.take j:=by
 intro a0
 have h5:ascFrom i a (l.take (j+1))=true:=by rw [<-List.take_append_drop (j+1) l] at h;exact asc_pre h
 rw [asc_take hx,Bool.and_eq_true] at h5
 have h6:∀(l:List Int) (a:Int),ascFrom i a l=true->∀y∈l,y<=lastD a l:=by
  intro l
  induction l with
  |nil=>intro _ _ y hy;cases hy
  |cons z l ih=>
   intro a ha y hy
   simp only [ascFrom,Bool.and_eq_true,decide_eq_true_eq] at ha
   rcases List.mem_cons.1 hy with rfl|hy
   ·exact asc_last ha.2
   ·exact ih z ha.2 y hy
 have h7:=h6 _ _ h5.1 x a0
 have h8:=h5.2
 simp at h8
 omega
theorem pend_cons (s:List Int) (x:Int) (l:List Int):pendOf s (x::l)=(if stAt s x≠4 then 1 else 0)+pendOf s l:=by
  unfold pendOf
  rw [List.filter_cons]
  by_cases h:stAt s x≠4
  · rw [if_pos (by simpa using h),if_pos h];simp;omega
  · rw [if_neg (by simpa using h),if_neg h];simp
theorem pend_dec {s:List Int} {i:Nat} {b:Int} (h3:s.getD i 0≠4) (hi:i<s.length):∀{d:List Int} {a:Int},ascFrom b a d=true->pendOf (s.set i 4) d+(if (i:Int)∈d then 1 else 0)=pendOf s d
 |[],_,_=>by simp [pendOf]
 |x::d,a,h=>by
  simp only [ascFrom,Bool.and_eq_true,decide_eq_true_eq] at h
  have ih:=pend_dec h3 hi h.2
  have hm:=asc_mem h.2
  by_cases e:x=(i:Nat)
  · exact (by have hn:(i:Int)∉d:=fun hin=>(by have:=hm _ hin;omega);rw [if_neg hn] at ih;have h4:stAt s x≠4:=(by rw [e,stAt_nat _ om];simpa using h3);have hx4:stAt (s.set i 4) x=4:=(by rw [stAt_set,if_pos ⟨e,hi⟩]);rw [pend_cons,pend_cons,hx4,if_pos h4,if_neg (by decide),if_pos (by rw [e];exact List.mem_cons_self ..)];omega)
  ·have hxs:stAt (s.set i 4) x=stAt s x:=by rw [stAt_set,if_neg (fun h=>e h.1)]
   rw [pend_cons,pend_cons,hxs]
   generalize (if stAt s x≠4 then (1:Int) else 0)=c
   by_cases h5:(i:Int)∈d
   ·rw [if_pos (List.mem_cons_of_mem _ h5)];rw [if_pos h5] at ih;omega
   ·rw [if_neg (by simp only [List.mem_cons,not_or];exact ⟨fun h=>e h.symm,h5⟩)];rw [if_neg h5] at ih;omega
theorem com_step {es:List BEnt} {B:BS} {K:Int} {i j:Nat} {z:Int} {y y':BEnt} (hW:BWf B K) (hi:i<B.deps.length) (h3:B.st.getD i 0=3)
  (h:es.map BEnt.v=(List.range B.deps.length).map (entC B (B.st.set i 4) ((nextOf 0 B.deps i).take j))) (hz:(nextOf 0 B.deps i)[j]?=some z) (hy:es[z.toNat]?=some y)
  (h1:y'.pending=y.pending-1) (h2:y'.attempt=y.attempt) (h4:y'.next=y.next) (h5:y'.state=if y.pending-1=0 then 2 else y.state):
  (es.set z.toNat y').map BEnt.v=(List.range B.deps.length).map (entC B (B.st.set i 4) ((nextOf 0 B.deps i).take (j+1)))/\(pendOf (B.st.set i 4) (B.deps.getD z.toNat [])=y.pending-1):=by
 obtain ⟨q,g0,hq,c0⟩:=nx_mem.1 (List.mem_of_getElem? hz)
 have e0:z.toNat=q:=by omega
 have b0:(q:Int)=z:=by omega
 have d0:z∉(nextOf 0 B.deps i).take j:=asc_notin (nx_asc (a:=-1) om) hz
 have h0:=(ent_at h hy).2
 rw [e0] at h0⊢
 simp only [entC,b0,if_neg d0] at h0
 have e1:=congrArg BEntV.state h0;have e2:=congrArg BEntV.attempt h0;have e3:=congrArg BEntV.pending h0;have e4:=congrArg BEntV.next h0
 simp only [BEnt.v] at e1 e2 e3 e4
 have hd:B.deps[q]?=some (B.deps.getD q []):=by simp [List.getD_eq_getElem?_getD,hq]
 have hp:=pend_dec (s:=B.st) (i:=i) om (by rw [hW.ls];exact hi) (hW.asc q _ hd)
 rw [if_pos c0] at hp
 have a0:pendOf (B.st.set i 4) (B.deps.getD q [])=y.pending-1:=by omega
 refine ⟨ents_set h (fun r hr f0=>?_) (fun _=>?_),a0⟩
 · exact (by simp only [entC,take_succ_at hz,List.mem_append,List.mem_singleton];have:¬(r:Int)=z:=(by omega);simp only [this,or_false])
 ·simp only [entC,take_succ_at hz,List.mem_append,List.mem_singleton,b0,or_true,if_true,BEnt.v,h1,h2,h4,h5,a0,e1,e2,e4]
theorem cond_iff {B:BS} {K:Int} {i q:Nat} (hW:BWf B K) (hi:i<B.deps.length) (h3:B.st.getD i 0=3) (hq:q<B.deps.length):
  condB (B.st.set i 4) B.deps q=true↔((q:Int)∈nextOf 0 B.deps i/\pendOf (B.st.set i 4) (B.deps.getD q [])=0):=by
 have hd:B.deps[q]?=some (B.deps.getD q []):=by simp [List.getD_eq_getElem?_getD,hq]
 have d0:=hW.ls
 have a0:(q:Int)∈nextOf 0 B.deps i↔(i:Int)∈B.deps.getD q []:=by
  rw [nx_mem]
  constructor
  · exact (by rintro ⟨r,hr,_,h⟩;obtain rfl:q=r:=(by omega);exact h)
  ·intro h;exact ⟨q,om,hq,h⟩
 have hw:=hW.wait q _ hd
 simp only [condB,Bool.and_eq_true,decide_eq_true_eq,Bool.not_eq_true',a0]
 rw [pend_open]
 constructor
 ·rintro ⟨h1,h2⟩
  refine ⟨?_,h2⟩
  by_cases b0:(i:Int)∈B.deps.getD q []
  ·exact b0
  · exact (by exfalso;have c0:i≠q:=(by rintro rfl;rw [getD_set,if_pos ⟨rfl,om⟩] at h1;omega);rw [getD_set,if_neg (fun h=>c0 h.1)] at h1;have h4:=hw.1 h1;have he:∀x∈B.deps.getD q [],(stAt B.st x≠4↔stAt (B.st.set i 4) x≠4):=(by intro x hx;rw [stAt_set,if_neg];rintro ⟨rfl,_⟩;exact b0 hx);rw [open_same he] at h4;rw [h2] at h4;cases h4)
 · exact (by rintro ⟨h1,h2⟩;exact ⟨(by have e0:=asc_mem (hW.asc q _ hd) _ h1;rw [getD_set,if_neg (fun h=>by omega)];exact hw.2<|(by unfold openB;rw [List.any_eq_true];exact ⟨_,h1,by rw [decide_eq_true_eq,stAt_nat _ om];simp only [Int.toNat_natCast];omega⟩)),h2⟩)
theorem com_ents {es:List BEnt} {B:BS} {K:Int} {i:Nat} (hW:BWf B K) (hi:i<B.deps.length) (h3:B.st.getD i 0=3)
  (h:es.map BEnt.v=(List.range B.deps.length).map (entC B (B.st.set i 4) (nextOf 0 B.deps i))):es.map BEnt.v=entsOf ⟨B.deps,markB (B.st.set i 4) B.deps,B.att⟩:=by
 rw [h]
 unfold entsOf
 apply map_range
 intro q hq
 have hc:=cond_iff hW hi h3 hq
 have c0:(B.st.set i 4).length=B.deps.length:=by rw [List.length_set];exact hW.ls
 have hd:B.deps[q]?=some (B.deps.getD q []):=by simp [List.getD_eq_getElem?_getD,hq]
 have e0:pendOf (markB (B.st.set i 4) B.deps) (B.deps.getD q [])=pendOf (B.st.set i 4) (B.deps.getD q []):=pend_same (fun x _=>mark_four c0 x)
 have d0:(markB (B.st.set i 4) B.deps).getD q 0=if condB (B.st.set i 4) B.deps q then 2 else (B.st.set i 4).getD q 0:=getD_range hq
 simp only [entV,e0,d0]
 by_cases a0:(q:Int)∈nextOf 0 B.deps i
 ·rw [entC,if_pos a0]
  by_cases hp:pendOf (B.st.set i 4) (B.deps.getD q [])=0
  ·rw [if_pos hp,if_pos (hc.2 ⟨a0,hp⟩)]
  ·rw [if_neg hp,if_neg (fun h=>hp (hc.1 h).2)]
 · exact (by rw [entC,if_neg a0,if_neg (fun h=>a0 (hc.1 h).1)];have b0:(i:Int)∉B.deps.getD q []:=fun h=>a0 (nx_mem.2 ⟨q,om,hq,h⟩);have hp:=pend_dec (s:=B.st) (i:=i) om (by rw [hW.ls];exact hi) (hW.asc q _ hd);rw [if_neg b0,Int.add_zero] at hp;rw [hp])
theorem nextOf_range (i:Int):∀(k:Nat) (D:List (List Int)),nextOf k D i=((List.range D.length).filter fun q=>decide (i∈D.getD q [])).map fun (q:Nat)=>((k+q:Nat):Int)
 |_,[]=>rfl
 |k,d::D=>by
  have e:((List.range D.length).filter ((fun q=>decide (i∈(d::D).getD q []))∘Nat.succ))=(List.range D.length).filter fun q=>decide (i∈D.getD q []):=rfl
  rw [nextOf,nextOf_range i (k+1) D,List.length_cons,List.range_succ_eq_map,List.filter_cons,List.filter_map,e]
  have e2:∀l:List Nat,(l.map Nat.succ).map (fun q:Nat=>((k+q:Nat):Int))=l.map fun (q:Nat)=>((k+1+q:Nat):Int):=(by intro l;rw [List.map_map];apply List.map_congr_left;intro q _;simp only [Function.comp];omega)
  by_cases h:i∈d
  ·rw [if_pos h,if_pos (by simpa using h),List.map_cons,e2];rfl
  ·rw [if_neg h,if_neg (by simpa using h),e2];rfl
theorem com_rdy {B:BS} {K:Int} {i:Nat} (hW:BWf B K) (hi:i<B.deps.length) (h3:B.st.getD i 0=3):
  (nextOf 0 B.deps i).filter (fun z=>decide (pendOf (B.st.set i 4) (B.deps.getD z.toNat [])=0))=rdyB (B.st.set i 4) B.deps:=by
 rw [nextOf_range,List.filter_map]
 unfold rdyB
 simp only [Nat.zero_add]
 rw [List.filter_filter]
 congr 1
 apply List.filter_congr
 intro q hq
 have hc:=cond_iff hW hi h3 (List.mem_range.1 hq)
 rw [Bool.eq_iff_iff,hc]
 simp only [Function.comp,Bool.and_eq_true,decide_eq_true_eq,Int.toNat_natCast]
 have a0:(q:Int)∈nextOf 0 B.deps i↔(i:Int)∈B.deps.getD q []:=by
  rw [nx_mem]
  constructor
  · exact (by rintro ⟨r,hr,_,h⟩;obtain rfl:q=r:=(by omega);exact h)
  ·intro h;exact ⟨q,om,List.mem_range.1 hq,h⟩
 rw [a0]
 constructor
 ·rintro ⟨h1,h2⟩;exact ⟨h2,h1⟩
 ·rintro ⟨h1,h2⟩;exact ⟨h2,h1⟩
theorem com_done {B:BS} {K:Int} {i:Nat} (hW:BWf B K) (hi:i<B.deps.length) (h3:B.st.getD i 0=3):doneOf ⟨B.deps,markB (B.st.set i 4) B.deps,B.att⟩=doneOf B+1:=by
 unfold doneOf
 have b0:(B.st.set i 4).length=B.deps.length:=by rw [List.length_set];exact hW.ls
 have h1:((markB (B.st.set i 4) B.deps).filter fun x=>decide (x=4)).length=((B.st.set i 4).filter fun x=>decide (x=4)).length:=by
  have e:B.st.set i 4=(List.range B.deps.length).map fun q=>(B.st.set i 4).getD q 0:=by
   apply List.ext_getElem?
   intro q
   by_cases hq:q<B.deps.length
   · exact (by rw [map_range_at hq,List.getD_eq_getElem?_getD];have:q<(B.st.set i 4).length:=(by omega);simp only [List.getElem?_eq_getElem this,Option.getD_some])
   ·rw [List.getElem?_eq_none om,List.getElem?_eq_none (by simp;omega)]
  have e2:markB (B.st.set i 4) B.deps=(List.range B.deps.length).map fun q=>if condB (B.st.set i 4) B.deps q then 2 else (B.st.set i 4).getD q 0:=rfl
  generalize hs:B.st.set i 4=s at*
  rw [e2]
  conv=>rhs;rw [e]
  rw [List.filter_map,List.filter_map,List.length_map,List.length_map]
  congr 1
  apply List.filter_congr
  intro q _
  simp only [Function.comp]
  by_cases hc:condB s B.deps q=true
  · exact (by have a0:=hc;simp only [condB,Bool.and_eq_true,decide_eq_true_eq] at a0;simp only [hc,if_true,a0.1];rfl)
  ·simp only [hc,if_false];rfl
 rw [h1]
 have h2:=count_set (s:=B.st) (k:=i) (y:=4) (by rw [hW.ls];exact hi)
 rw [if_neg om,if_pos rfl] at h2
 omega
theorem asc_sorted {i a:Int} {l:List Int} (h:ascFrom i a l=true):∀(q:Nat) (u v:Int),l[q]?=some u->l[q+1]?=some v->u<=v:=by
  induction l generalizing a with
  |nil=>intro q u v h1;simp at h1
  |cons x l ih=>
    simp only [ascFrom,Bool.and_eq_true,decide_eq_true_eq] at h
    intro q u v h1 h2
    cases q with
    |zero=>
      simp at h1;subst h1
      have:=asc_mem h.2 v (List.mem_of_getElem? (by simpa using h2));omega
    |succ q=>exact ih h.2 q u v (by simpa using h1) (by simpa using h2)
theorem asc_filter {i:Int} {p:Int->Bool}:∀{l:List Int} {a b:Int},b<=a->ascFrom i a l=true->ascFrom i b (l.filter p)=true
  |[],_,_,_,_=>rfl
  |x::l,a,b,hab,h=>by
    simp only [ascFrom,Bool.and_eq_true,decide_eq_true_eq] at h
    rw [List.filter_cons]
    split
    · exact (by simp only [ascFrom,Bool.and_eq_true,decide_eq_true_eq];exact ⟨⟨by omega,h.1.2⟩,asc_filter (Int.le_refl _) h.2⟩)
    · exact asc_filter (by omega) h.2
end Go.Proofs.YtkadmghedmodbaaGreat
namespace Go.E
def Tri (p:Nat) (E:TypeId) (pre mid post:List Value):Chunk:=[(p, .cells (pre++(mid++post)).toArray E (0,0))]
section
variable {p:Nat} {E:TypeId} {pre mid post:List Value}
theorem tri_at {off:Nat} {l:List Value} (h:((pre++(mid++post)).drop off).take l.length=l):PtR [Tri p E pre mid post] p off l:=
  ⟨(pre++(mid++post)).toArray,E,(0,0),by simp [Tri],by simpa using h⟩
theorem tri_pre:PtR [Tri p E pre mid post] p 0 pre:=tri_at (by simp)
theorem tri_post {k:Nat} (hk:pre.length+mid.length=k):PtR [Tri p E pre mid post] p k post:=tri_at (by
  subst hk
  rw [<-List.append_assoc,<-List.length_append,List.drop_left,List.take_length])
theorem cell_up {W w:World} {cs:List Chunk} {c:Chunk} {b off k:Nat} {l:List Value} {v:Value} (hS:Sat W w cs) (i:Nat) (hi:cs[i]?=some c) (h:PtR [c] b off l) (hk:l[k]?=some v):w.cell? ⟨b,off+k,none⟩=some v:=(h.up i hi).cell hS hk
theorem ptr_up {cs:List Chunk} {c:Chunk} {b off:Nat} {l:List Value} (i:Nat) (hi:cs[i]?=some c) (h:PtR [c] b off l):PtR cs b off l:=h.up i hi
theorem tri_el {α:Type} {enc:α->List Value} {sz k n0:Nat} {xs:List α} {x:α} (he:∀x,(enc x).length=sz) (hx:xs[k]?=some x) (h0:pre.length=n0:=by rfl):PtR [Tri p E pre (xs.flatMap enc) post] p (n0+k*sz) (enc x):=tri_at (by
 subst h0
 have hk:k<xs.length:=(List.getElem?_eq_some_iff.1 hx).1
 have h1:=flatMap_at he xs k x hx
 have h2:(k+1)*sz<=xs.length*sz:=Nat.mul_le_mul_right _ hk
 rw [Nat.add_mul,Nat.one_mul] at h2
 rw [List.drop_append,Nat.add_sub_cancel_left,List.drop_eq_nil_of_le (by omega:pre.length<=pre.length+k*sz),List.nil_append,he,List.drop_append_of_le_length (by rw [flatMap_len he];omega),List.take_append_of_le_length (by rw [List.length_drop,flatMap_len he];omega)]
 exact h1)
end
theorem wr_left {A B vs:List Value} {o:Nat} (h:o+vs.length<=A.length):wr (A++B).toArray o vs=(wrL A o vs++B).toArray:=by
  simp only [wr,wrL]
  rw [List.take_append_of_le_length (by omega),List.drop_append_of_le_length (by omega)]
  simp
theorem wrL_left {A B vs:List Value} {o:Nat} (h:o+vs.length<=A.length):wrL (A++B) o vs=wrL A o vs++B:=by
  simp only [wrL]
  rw [List.take_append_of_le_length (by omega),List.drop_append_of_le_length (by omega)]
  simp
theorem wrL_right {A B vs:List Value} {o:Nat}:wrL (A++B) (A.length+o) vs=A++wrL B o vs:=by
  simp only [wrL]
  rw [List.take_length_add_append,Nat.add_assoc,List.drop_length_add_append]
  simp
theorem wr_right {A B vs:List Value} {o:Nat}:wr (A++B).toArray (A.length+o) vs=(A++wrL B o vs).toArray:=by
  have h:wr (A++B).toArray (A.length+o) vs=(wrL (A++B) (A.length+o) vs).toArray:=rfl
  rw [h,wrL_right]
theorem at_some {α:Type} {xs:List α} {n k:Nat} (h:xs.length=n) (hk:k<n):∃x,xs[k]?=some x:=⟨xs[k]'(by omega),by simp [show k<xs.length by omega]⟩
theorem set_len {α:Type} {xs:List α} {n k:Nat} {x:α} (h:xs.length=n):(xs.set k x).length=n:=by simp [h]
theorem tri_len {α:Type} {enc:α->List Value} {sz n m k:Nat} {xs:List α} {pre:List Value} (he:∀x,(enc x).length=sz) (hl:xs.length=n) (h0:pre.length=m:=by rfl) (hk:m+n*sz=k:=by rfl):pre.length+(xs.flatMap enc).length=k:=by rw [flatMap_len he,hl,h0,hk]
section
variable {P:Program} {W w:World} {cs:List Chunk} {ρ:Env} {o:Oper} {ops:Array Oper} {rest:List Oper} {n:Nat} {N:Env->World->Prop}
theorem Y_idxA (i:Int) (k:Nat) {t E:TypeId} {x y:Operand} {m sz b off:Nat} (hu:∀w,(underlying t).run P w= .ok (.array m E) w) (hsz:∀w,(sizeOf E).run P w= .ok sz w)
    (h0:0<=i:=by omega) (h1:i<m:=by omega) (ho:o.op= .indexAddr t x y:=by rfl) (hx:ev ρ x= .pointer (some ⟨b,off,none⟩):=by kernel_rfl) (hy:ev ρ y= .int .i64 i:=by kernel_rfl) (hk:i.toNat=k:=by first|rfl|omega):Yields P ρ o (.pointer (some ⟨b,off+k*sz,none⟩)) w:=by
  subst hk
  unfold Yields execOp
  rw [ho]
  simp [Instr.indexAt,hx,hy,asIntOf,hu,hsz,Instr.sureAddr,h0,h1,Addr.add]
theorem sIdxA (i:Int) (k:Nat) {t E:TypeId} {x y:Operand} {m sz b off:Nat} (hu:∀w,(underlying t).run P w= .ok (.array m E) w) (hsz:∀w,(sizeOf E).run P w= .ok sz w)
    (h:OpsE P n ops rest N (put ρ o.dst (.pointer (some ⟨b,off+k*sz,none⟩))) w) (h0:0<=i:=by omega) (h1:i<m:=by omega)
    (ho:o.op= .indexAddr t x y:=by rfl) (hg:o.guard=none:=by rfl) (hd:dstOK n o.dst=true:=by rfl) (hx:ev ρ x= .pointer (some ⟨b,off,none⟩):=by kernel_rfl) (hy:ev ρ y= .int .i64 i:=by kernel_rfl) (hk:i.toNat=k:=by first|rfl|omega):OpsE P n ops (o::rest) N ρ w:=
  stepY _ hg hd (Y_idxA i k hu hsz h0 h1 ho hx hy hk) h
theorem sTpre (hS:Sat W w cs) (i off:Nat) (v:Value) (vs pre':List Value) {t:TypeId} {x y:Operand} {b k:Nat} {E:TypeId} {pre mid post:List Value} (hsz:∀w,(sizeOf t).run P w= .ok k w)
  (h:∀w',Sat W w' (cs.set i (Tri b E pre' mid post))->OpsE P n ops rest N ρ w')
  (ho:o.op= .store t x y:=by rfl) (hg:o.guard=none:=by rfl) (hd:o.dst=none:=by rfl) (hi:cs[i]?=some (Tri b E pre mid post):=by rfl)
  (hx:ev ρ x= .pointer (some ⟨b,off,none⟩):=by kernel_rfl) (hy:ev ρ y=v:=by kernel_rfl) (hv:v.cells.toList=vs:=by kernel_rfl) (hk:vs.length=k:=by kernel_rfl)
  (h1:vs.all (·.oneCell')=true:=by kernel_rfl) (hfit:Nat.ble (off+vs.length) pre.length=true:=by kernel_rfl) (hw:wrL pre off vs=pre':=by kernel_rfl):OpsE P n ops (o::rest) N ρ w:=by
 have hf:=Nat.le_of_ble_eq_true hfit
 refine stepStore ho hg hd hsz hx hy hv hk (fun u hu=>List.all_eq_true.1 h1 u hu) hS i hi (by simp;omega) _ (wr_left hf) ?_
 intro w' hS'
 rw [hw] at hS'
 exact h w' hS'
theorem sTel {α:Type} {enc:α->List Value} {sz:Nat} {xs:List α} (hS:Sat W w cs) (he:∀x,(enc x).length=sz) (j i n0 k:Nat) (x x':α) (hx:xs[i]?=some x) (v:Value) (vs:List Value) {t:TypeId} {px py:Operand} {b q:Nat} {E:TypeId} {pre post:List Value} (hsz:∀w,(sizeOf t).run P w= .ok q w)
  (h:∀w',Sat W w' (cs.set j (Tri b E pre ((xs.set i x').flatMap enc) post))->OpsE P n ops rest N ρ w')
  (ho:o.op= .store t px py:=by rfl) (hg:o.guard=none:=by rfl) (hd:o.dst=none:=by rfl) (hj:cs[j]?=some (Tri b E pre (xs.flatMap enc) post):=by rfl) (h0:pre.length=n0:=by rfl)
  (hp:ev ρ px= .pointer (some ⟨b,n0+i*sz+k,none⟩):=by kernel_rfl) (hv:ev ρ py=v:=by kernel_rfl) (hvs:v.cells.toList=vs:=by kernel_rfl) (hk:vs.length=q:=by kernel_rfl) (h1:vs.all (·.oneCell')=true:=by kernel_rfl)
  (hw:wrL (enc x) k vs=enc x':=by kernel_rfl) (hle:Nat.ble (k+vs.length) sz=true:=by kernel_rfl):OpsE P n ops (o::rest) N ρ w:=by
 have a0:=Nat.le_of_ble_eq_true hle
 have c0:i<xs.length:=(List.getElem?_eq_some_iff.1 hx).1
 have d0:(i+1)*sz<=xs.length*sz:=Nat.mul_le_mul_right _ c0
 rw [Nat.add_mul,Nat.one_mul] at d0
 have e0:=flatMap_len he xs
 exact stepStore ho hg hd hsz hp hv hvs hk (fun u hu=>List.all_eq_true.1 h1 u hu) hS j hj (by simp only [List.size_toArray,List.length_append];omega) _ (by rw [<-h0,Nat.add_assoc,wr_right,wrL_left om]) fun w' b0=>(by rw [wrL_flat he a0 xs i x x' hx hw] at b0;exact h w' b0)
theorem sTpost {t:TypeId} {x y:Operand} {b k:Nat} {E:TypeId} {pre mid post:List Value} (hS:Sat W w cs) (i d off:Nat) (hi:cs[i]?=some (Tri b E pre mid post)) (v:Value) (vs post':List Value) (hl:pre.length+mid.length=d) (hsz:∀w,(sizeOf t).run P w= .ok k w)
  (h:∀w',Sat W w' (cs.set i (Tri b E pre mid post'))->OpsE P n ops rest N ρ w')
  (ho:o.op= .store t x y:=by rfl) (hg:o.guard=none:=by rfl) (hd:o.dst=none:=by rfl)
  (hx:ev ρ x= .pointer (some ⟨b,d+off,none⟩):=by kernel_rfl) (hy:ev ρ y=v:=by kernel_rfl) (hv:v.cells.toList=vs:=by kernel_rfl) (hk:vs.length=k:=by kernel_rfl)
  (h1:vs.all (·.oneCell')=true:=by kernel_rfl) (hfit:Nat.ble (off+vs.length) post.length=true:=by kernel_rfl) (hw:wrL post off vs=post':=by kernel_rfl):OpsE P n ops (o::rest) N ρ w:=by
 have hf:=Nat.le_of_ble_eq_true hfit
 exact stepStore ho hg hd hsz hx hy hv hk (fun u hu=>List.all_eq_true.1 h1 u hu) hS i hi (by simp only [List.size_toArray,List.length_append];omega) _ (by rw [<-hl,Nat.add_assoc,wr_right,wrL_right,hw]) fun w' a0=>h w' a0
end
def Obs {π σ:Type} (R:π->σ->Chunk->Prop) (ps:List π) (ss:List σ) (cs:List Chunk):Prop:=
  ps.length=ss.length/\cs.length=ss.length/\∀(i:Nat) p s c,ps[i]?=some p->ss[i]?=some s->cs[i]?=some c->R p s c
theorem Obs.get {π σ:Type} {R:π->σ->Chunk->Prop} {ps:List π} {ss:List σ} {cs:List Chunk} (h:Obs R ps ss cs) {i:Nat} {p:π} (hp:ps[i]?=some p):∃s c,ss[i]?=some s/\cs[i]?=some c/\R p s c:=by
  have hi:i<ps.length:=(List.getElem?_eq_some_iff.1 hp).1
  have h1:=h.1;have h2:=h.2.1
  have e1:ss[i]?=some (ss[i]'(by omega)):=by simp [show i<ss.length by omega]
  have e2:cs[i]?=some (cs[i]'(by omega)):=by simp [show i<cs.length by omega]
  exact ⟨_,_,e1,e2,h.2.2 i p _ _ hp e1 e2⟩
theorem Obs.set {π σ:Type} {R:π->σ->Chunk->Prop} {ps:List π} {ss:List σ} {cs:List Chunk} (h:Obs R ps ss cs) {i:Nat} {p:π} {s:σ} {c:Chunk} (hp:ps[i]?=some p) (hR:R p s c):Obs R ps (ss.set i s) (cs.set i c):=by
  refine ⟨by simp [h.1],by simp [h.2.1],fun j q t d hq ht hd=>?_⟩
  by_cases a0:i=j
  · subst a0
    rw [hp] at hq;cases hq
    rw [List.getElem?_set] at ht hd
    simp only [if_true] at ht hd
    split at ht
    · cases ht
      split at hd
      · cases hd;exact hR
      · cases hd
    · cases ht
  · exact (by rw [List.getElem?_set_ne a0] at ht hd;exact h.2.2 j q t d hq ht hd)
theorem Obs.set3 {π σ:Type} {R:π->σ->Chunk->Prop} {ps:List π} {ss:List σ} {cs:List Chunk} (h:Obs R ps ss cs) {i:Nat} {p p':π} {s:σ} {c:Chunk} (_hp:ps[i]?=some p) (hR:R p' s c):Obs R (ps.set i p') (ss.set i s) (cs.set i c):=by
  refine ⟨by simp [h.1],by simp [h.2.1],fun j q t d hq ht hd=>?_⟩
  by_cases a0:i=j
  · subst a0
    rw [List.getElem?_set] at hq ht hd
    simp only [if_true] at hq ht hd
    split at ht
    · cases ht
      split at hd
      · cases hd
        split at hq
        · cases hq;exact hR
        · cases hq
      · cases hd
    · cases ht
  · exact (by rw [List.getElem?_set_ne a0] at hq ht hd;exact h.2.2 j q t d hq ht hd)
theorem getD_some {α:Type} {xs:List α} {k:Nat} {x d:α} (h:xs[k]?=some x):xs.getD k d=x:=by rw [List.getD_eq_getElem?_getD,h];rfl
theorem Obs.snoc {π σ:Type} {R:π->σ->Chunk->Prop} {ps:List π} {ss:List σ} {cs:List Chunk} (h:Obs R ps ss cs) {p:π} {s:σ} {c:Chunk} (hR:R p s c):Obs R (ps++[p]) (ss++[s]) (cs++[c]):=by
 have h1:=h.1;have h2:=h.2.1
 refine ⟨by simp [h1],by simp [h2],fun j q t d hq ht hd=>?_⟩
 by_cases hj:j<ss.length
 · exact (by rw [List.getElem?_append_left om] at hq ht hd;exact h.2.2 j q t d hq ht hd)
 · exact (by have a0:j=ss.length:=(by have:=(List.getElem?_eq_some_iff.1 ht).1;simp at this;omega);rw [List.getElem?_append_right om] at hq ht hd;rw [show j-ps.length=0 by omega] at hq;rw [show j-ss.length=0 by omega] at ht;rw [show j-cs.length=0 by omega] at hd;simp at hq ht hd;subst hq ht hd;exact hR)
theorem Obs.nil {π σ:Type} (R:π->σ->Chunk->Prop):Obs R [] [] []:=⟨rfl,rfl,fun i p s c h=>by simp at h⟩
theorem set_same {α:Type} {xs:List α} {k:Nat} {x:α} (h:xs[k]?=some x):xs.set k x=xs:=by
  apply List.ext_getElem?
  intro i
  rw [List.getElem?_set]
  split
  · rename_i h1;subst h1;rw [h];rw [if_pos (List.getElem?_eq_some_iff.1 h).1]
  · rfl
end Go.E

namespace Go.Proofs.YtkadmghedmodbaaGreat
open Go Go.E Go.Proofs.Tryz
set_option linter.all false
set_option maxRecDepth 100000
set_option maxHeartbeats 2000000
variable {W w:World} {H:Chunk} {F:List Chunk}
theorem getD_at {s:List Int} {i:Nat} {x:Int} (h:s[i]?=some x):s.getD i 0=x:=by rw [List.getD_eq_getElem?_getD,h];rfl
structure Wkr where
  phase:Int
  heldJob:Int
  heldTask:Int
  attempt:Int
  row:Int
  used:Int
  high:Int
  deriving DecidableEq
def encWkr (x:Wkr):List Value:=[.int .i64 x.phase, .int .i64 x.heldJob, .int .i64 x.heldTask, .int .i64 x.attempt, .int .i64 x.row, .int .i64 x.used, .int .i64 x.high]
structure Cfg where
  workers:Int
  tileW:Int
  tileH:Int
  arena:Int
  deque:Int
  tasks:Int
  cells:Int
  jobs:Int
  deriving DecidableEq
def encCfg (x:Cfg):List Value:=[.int .i64 x.workers, .int .i64 x.tileW, .int .i64 x.tileH, .int .i64 x.arena, .int .i64 x.deque, .int .i64 x.tasks, .int .i64 x.cells, .int .i64 x.jobs]
structure Stt where
  starts:Int
  commits:Int
  drops:Int
  crashes:Int
  steals:Int
  helps:Int
  spills:Int
  queued:Int
  held:Int
  cells:Int
  deriving DecidableEq
def encStt (x:Stt):List Value:=[.int .i64 x.starts, .int .i64 x.commits, .int .i64 x.drops, .int .i64 x.crashes, .int .i64 x.steals, .int .i64 x.helps, .int .i64 x.spills, .int .i64 x.queued, .int .i64 x.held, .int .i64 x.cells]
structure Evt where
  kind:Int
  worker:Int
  from_:Int
  job:Int
  refJob:Int
  refTask:Int
  err:Int
  deriving DecidableEq
def encEvt (x:Evt):List Value:=[.int .i64 x.kind, .int .i64 x.worker, .int .i64 x.from_, .int .i64 x.job, .int .i64 x.refJob, .int .i64 x.refTask, .int .i64 x.err]
structure AS where
  cap:Int
  used:Int
  high:Int
  marks:List Int
def ceilD (a b:Int):Int:=if a.tmod b>0 then a.tdiv b+1 else a.tdiv b
def alignI (u a:Int):Int:=ceilD u a*a
structure AS.Wf (S:AS):Prop where
  c:0<=S.cap/\S.cap<=1048576
  u:0<=S.used/\S.used<=S.cap
  h:S.used<=S.high/\S.high<=S.cap
  m:∀x∈S.marks,0<=x/\x<=S.high
def markA (S:AS):AS:=if 1024<=S.marks.length then S else {S with marks:=S.marks++[S.used]}
def allocC (S:AS) (n a:Int):Int:=if ¬((1<=n/\n<=1048576)/\(1<=a/\a<=4096)) then 2 else if alignI S.used a<=S.cap/\n<=S.cap-alignI S.used a then 0 else 19
def allocA (S:AS) (n a:Int):AS:=if allocC S n a=0 then {S with used:=alignI S.used a+n,high:=max S.high (alignI S.used a+n)} else S
def relA (S:AS):AS:=match S.marks.getLast? with|none=>S|some x=>{S with used:=x,marks:=S.marks.dropLast}
def resetA (S:AS):AS:={S with used:=0,marks:=[]}
theorem ceilD_bd {u a:Int} (h:0<=u/\u<=1048576) (ha:1<=a/\a<=4096):0<=u.tdiv a/\u.tdiv a<=1048576/\0<=u.tmod a/\0<=ceilD u a/\ceilD u a<=1048577:=by
  have h1:u.tdiv a=u/a:=Int.tdiv_eq_ediv_of_nonneg h.1
  have h2:u.tmod a=u%a:=Int.tmod_eq_emod_of_nonneg h.1
  have h3:0<=u/a:=Int.ediv_nonneg h.1 (by omega)
  have h4:u/a<=u:=Int.ediv_le_self _ h.1
  have h5:0<=u%a:=Int.emod_nonneg _ (by omega)
  unfold ceilD
  rw [h1,h2]
  refine ⟨h3,by omega,h5,?_,?_⟩<;>split<;>omega
theorem align_nn {u a:Int} (h:0<=u/\u<=1048576) (ha:1<=a/\a<=4096):0<=alignI u a:=Int.mul_nonneg (ceilD_bd h ha).2.2.2.1 (by omega)
theorem mul_lim {c a l:Int} (hc:0<=c) (ha:1<=a) (hl:0<=l):c<=l.tdiv a↔c*a<=l:=by
  rw [Int.tdiv_eq_ediv_of_nonneg hl];exact Int.le_ediv_iff_mul_le (by omega)
structure DS where
  cap:Int
  l:List Ref
def pushC (S:DS):Int:=if S.cap<=((S.l.length:Nat):Int) then 19 else 0
def pushD (S:DS) (r:Ref):DS:=if pushC S=0 then {S with l:=S.l++[r]} else S
def without (j:Int) (l:List Ref):List Ref:=l.filter (fun r=>decide (r.job≠j))
structure DS.Wf (S:DS):Prop where
  c:1<=S.cap/\S.cap<=256
  n:((S.l.length:Nat):Int)<=S.cap
theorem without_len (j:Int) (l:List Ref):(without j l).length<=l.length:=List.length_filter_le _ l
theorem without_y {j:Int} {l:List Ref} {i:Nat} {x:Ref} {zs:List Ref} (hz:zs=without j (l.take i)) (hx:l[i]?=some x) (h:x.job≠j):zs++[x]=without j (l.take (i+1)):=by
  rw [take_succ_at hx];unfold without at*;rw [List.filter_append,<-hz];simp [h]
theorem without_n {j:Int} {l:List Ref} {i:Nat} {x:Ref} {zs:List Ref} (hz:zs=without j (l.take i)) (hx:l[i]?=some x) (h:x.job=j):zs=without j (l.take (i+1)):=by
  rw [take_succ_at hx];unfold without at*;rw [List.filter_append,<-hz];simp [h]
structure QS where
  cap:Int
  bs:List (List Ref)
def totB (bs:List (List Ref)):Int:=(((bs.map List.length).sum:Nat):Int)
def pushCQ (S:QS):Int:=if S.cap<=totB S.bs then 19 else 0
def pushB:List (List Ref)->Nat->Ref->List (List Ref)
  |[],_,_=>[]
  |l::t,0,r=>(l++[r])::t
  |l::t,i+1,r=>l::pushB t i r
def pushQ (S:QS) (r:Ref) (b:Int):QS:=if pushCQ S=0 then {S with bs:=pushB S.bs b.toNat r} else S
def popB:List (List Ref)->Option (Ref×List (List Ref))
  |[]=>none
  |[]::t=>(popB t).map fun q=>(q.1,[]::q.2)
  |(x::l)::t=>some (x,l::t)
theorem popB_nil {l:List Ref} (h:l.length=0) (t:List (List Ref)):popB (l::t)=(popB t).map fun q=>(q.1,l::q.2):=by
  obtain rfl:=List.length_eq_zero_iff.1 h;rfl
theorem popB_at {l:List Ref} {x:Ref} (h:l[0]?=some x) (t:List (List Ref)):popB (l::t)=some (x,l.tail::t):=by
  cases l with
  |nil=>cases h
  |cons y l=>cases h;rfl
theorem tail_part {l:List Ref} {n:Nat} (h:l.length=n):[]++(l.drop 1).take (n-1)=l.tail:=by
  rw [List.nil_append,List.take_of_length_le (by simp;omega),List.drop_one]
structure JS where
  added:Bool
  running:Bool
  band:Int
  tasks:List TaskV
  B:BS
def JS.zero:JS:=⟨false,false,0,[],⟨[],[],[]⟩⟩
instance:Inhabited JS:=⟨JS.zero⟩
instance:Inhabited AS:=⟨⟨0,0,0,[]⟩⟩
instance:Inhabited DS:=⟨⟨0,[]⟩⟩
instance:Inhabited Wkr:=⟨⟨0,0,0,0,0,0,0⟩⟩
structure FS where
  cfg:Cfg
  ws:List Wkr
  ar:List AS
  dq:List DS
  q:QS
  jobs:List JS
  st:Stt
def jobAt (F:FS) (i:Int):JS:=F.jobs.getD i.toNat default
def idleF (F:FS) (x ph:Int):FS:={F with ws:=F.ws.set x.toNat ⟨ph,0,0,0,0,0,(F.ar.getD x.toNat default).high⟩}
def takeF (F:FS) (x:Int) (r:Ref):FS:=
  {F with ws:=F.ws.set x.toNat ⟨1,r.job,r.task,(startB (jobAt F r.job).B r.task).2.1,0,0,(F.ar.getD x.toNat default).high⟩,jobs:=F.jobs.set r.job.toNat {jobAt F r.job with B:=(startB (jobAt F r.job).B r.task).1},st:={F.st with starts:=F.st.starts+1}}
def loadL (l:List JS):Int:=(((l.filter (·.running)).map (·.tasks.length)).sum:Nat)
theorem loadL_take {l:List JS} {i:Nat} {s:JS} (h:l[i]?=some s):loadL (l.take (i+1))=loadL (l.take i)+if s.running then (s.tasks.length:Int) else 0:=by
  unfold loadL
  rw [take_succ_at h,List.filter_append,List.map_append,List.sum_append]
  cases hr:s.running<;>simp [hr]
def choiceI (n c i:Int):Int:=((if c.tmod n<0 then c.tmod n+n else c.tmod n)+i).tmod n
theorem choice_bd {n c i:Int} (hn:0<n) (hi:0<=i):0<=choiceI n c i/\choiceI n c i<n:=by
  unfold choiceI
  have h1:-n<c.tmod n:=Int.lt_tmod_of_pos _ hn
  have h2:c.tmod n<n:=Int.tmod_lt_of_pos _ hn
  split
  · exact ⟨Int.tmod_nonneg _ (by omega),Int.tmod_lt_of_pos _ hn⟩
  · exact ⟨Int.tmod_nonneg _ (by omega),Int.tmod_lt_of_pos _ hn⟩
instance:Inhabited TaskV:=⟨⟨0,0,0,0,0,0,[],0,0⟩⟩
def evt (k x:Int):Evt:=⟨k,x,0,0,0,0,0⟩
def spill1 (F:FS) (x:Int) (r:Ref) (band:Int):FS:=
  if pushC (F.dq.getD x.toNat default)=0 then {F with dq:=F.dq.set x.toNat (pushD (F.dq.getD x.toNat default) r)}
  else {F with q:=pushQ F.q r band,st:={F.st with spills:=F.st.spills+1}}
def spillF (F:FS) (x job band:Int) (l:List Int):FS:=l.foldl (fun F t=>spill1 F x ⟨job,t⟩ band) F
theorem spill_take {F:FS} {x job band:Int} {l:List Int} {i:Nat} {t:Int} (h:l[i]?=some t):spillF F x job band (l.take (i+1))=spill1 (spillF F x job band (l.take i)) x ⟨job,t⟩ band:=by
  unfold spillF
  rw [take_succ_at h,List.foldl_append];rfl
def microF (F:FS) (x:Int):FS×Evt:=
  let wk:=F.ws.getD x.toNat default
  let j:=jobAt F wk.heldJob
  let t:=j.tasks.getD wk.heldTask.toNat default
  let a:=F.ar.getD x.toNat default
  if wk.phase=1 then
    let a2:=if t.scratch>0 then allocA (markA a) t.scratch 16 else markA a
    ({F with ar:=F.ar.set x.toNat a2,ws:=F.ws.set x.toNat {wk with phase:=2,used:=a2.used,high:=a2.high}},evt 6 x)
  else if wk.phase=2 then
    ({F with ws:=F.ws.set x.toNat {wk with phase:=if wk.row+1=t.rows then 3 else 2,row:=wk.row+1}},evt 7 x)
  else
    let B:=comB j.B wk.heldTask wk.attempt
    let F1:FS:={F with jobs:=F.jobs.set wk.heldJob.toNat {j with B:=B.1},ar:=F.ar.set x.toNat (relA a),ws:=F.ws.set x.toNat ⟨0,0,0,0,0,0,(relA a).high⟩,st:={F.st with commits:=F.st.commits+1}}
    let F2:=spillF F1 x wk.heldJob j.band B.2
    (if doneOf B.1=j.tasks.length then {F2 with jobs:=F.jobs.set wk.heldJob.toNat {j with B:=B.1,running:=false}} else F2,⟨8,x,0,0,wk.heldJob,wk.heldTask,0⟩)
theorem com_len {B:BS} {i a:Int}:(comB B i a).2.length<=B.deps.length:=by
  unfold comB
  split
  · unfold rdyB;rw [List.length_map];exact Nat.le_trans (List.length_filter_le _ _) (by simp)
  · simp
def firstI (p:Nat->Bool):Nat->Nat->Option Nat
  |0,_=>none
  |n+1,i=>if p i then some i else firstI p n (i+1)
theorem first_hit {p:Nat->Bool} {n i:Nat} (h:i<n) (hp:p i=true):firstI p (n-i) i=some i:=by
  obtain ⟨m,hm⟩:∃m,n-i=m+1:=⟨n-i-1,by omega⟩
  rw [hm];unfold firstI;rw [if_pos hp]
theorem first_skip {p:Nat->Bool} {n i:Nat} (h:i<n) (hp:p i=false):firstI p (n-i) i=firstI p (n-(i+1)) (i+1):=by
  obtain ⟨m,hm⟩:∃m,n-i=m+1:=⟨n-i-1,by omega⟩
  have h2:n-(i+1)=m:=by omega
  rw [hm,h2,firstI,if_neg (by simp [hp])]
theorem first_end {p:Nat->Bool} {n i:Nat} (h:n<=i):firstI p (n-i) i=none:=by
  have h2:n-i=0:=by omega
  rw [h2];rfl
def dqAt (F:FS) (x:Int):DS:=F.dq.getD x.toNat default
def chF (F:FS) (c:Int) (i:Nat):Int:=choiceI ((F.ws.length:Nat):Int) c ((i:Nat):Int)
def canSteal (F:FS) (c:Int) (i:Nat):Bool:=!(dqAt F (chF F c i)).l.isEmpty
def popF (F:FS) (x:Int) (l:List Ref):FS:={F with dq:=F.dq.set x.toNat {dqAt F x with l:=l}}
def stealE (F:FS) (x v:Int) (r:Ref):FS×Evt:=
  let F1:=takeF (popF F v (dqAt F v).l.tail) x r
  ({F1 with st:={F1.st with steals:=F1.st.steals+1}},⟨5,x,v,0,r.job,r.task,0⟩)
def stealF (F:FS) (x c:Int):Option (FS×Evt):=
  match firstI (canSteal F c) F.ws.length 0 with
  |none=>none
  |some i=>match (dqAt F (chF F c i)).l.head? with
    |none=>none
    |some r=>some (stealE F x (chF F c i) r)
def acqF (F:FS) (x c:Int):Option (FS×Evt):=
  match (dqAt F x).l.getLast? with
  |some r=>some (takeF (popF F x (dqAt F x).l.dropLast) x r,⟨3,x,0,0,r.job,r.task,0⟩)
  |none=>match popB F.q.bs with
    |some (r,bs)=>some (takeF {F with q:={F.q with bs:=bs}} x r,⟨4,x,0,0,r.job,r.task,0⟩)
    |none=>stealF F x c
theorem acq_own {F:FS} {x c:Int} {d:DS} {r:Ref} (hd:F.dq[x.toNat]?=some d) (hr:d.l.getLast?=some r):
    acqF F x c=some (takeF {F with dq:=F.dq.set x.toNat {d with l:=d.l.dropLast}} x r,⟨3,x,0,0,r.job,r.task,0⟩):=by
  unfold acqF popF dqAt;simp only [getD_some hd,hr]
theorem acq_inj {F:FS} {x c:Int} {d:DS} {r:Ref} {bs:List (List Ref)} (hd:F.dq[x.toNat]?=some d) (h0:d.l=[]) (hq:popB F.q.bs=some (r,bs)):
    acqF F x c=some (takeF {F with q:={F.q with bs:=bs}} x r,⟨4,x,0,0,r.job,r.task,0⟩):=by
  unfold acqF dqAt;simp only [getD_some hd,h0,List.getLast?_nil,hq]
theorem acq_rest {F:FS} {x c:Int} {d:DS} (hd:F.dq[x.toNat]?=some d) (h0:d.l=[]) (hq:popB F.q.bs=none):acqF F x c=stealF F x c:=by
  unfold acqF dqAt;simp only [getD_some hd,h0,List.getLast?_nil,hq]
theorem steal_at {F:FS} {x c:Int} {i:Nat} {d:DS} {r:Ref} (hi:i<F.ws.length) (hf:firstI (canSteal F c) F.ws.length 0=firstI (canSteal F c) (F.ws.length-i) i) (hd:F.dq[(chF F c i).toNat]?=some d) (hr:d.l.head?=some r):
  stealF F x c=some ({takeF {F with dq:=F.dq.set (chF F c i).toNat {d with l:=d.l.tail}} x r with st:={(takeF {F with dq:=F.dq.set (chF F c i).toNat {d with l:=d.l.tail}} x r).st with steals:=(takeF {F with dq:=F.dq.set (chF F c i).toNat {d with l:=d.l.tail}} x r).st.steals+1}},⟨5,x,chF F c i,0,r.job,r.task,0⟩):=by
 have h1:canSteal F c i=true:=by unfold canSteal dqAt;rw [getD_some hd];cases h:d.l with|nil=>rw [h] at hr;cases hr|cons y l=>rfl
 have e:dqAt F (chF F c i)=d:=getD_some hd
 unfold stealF;rw [hf,first_hit hi h1];simp only [e,hr,stealE,popF]
theorem steal_skip {F:FS} {c:Int} {i:Nat} {d:DS} (hi:i<F.ws.length) (hf:firstI (canSteal F c) F.ws.length 0=firstI (canSteal F c) (F.ws.length-i) i) (hd:F.dq[(chF F c i).toNat]?=some d) (h0:d.l=[]):
    firstI (canSteal F c) F.ws.length 0=firstI (canSteal F c) (F.ws.length-(i+1)) (i+1):=by
  rw [hf];apply first_skip hi;unfold canSteal dqAt;rw [getD_some hd,h0];rfl
theorem steal_end {F:FS} {x c:Int} {i:Nat} (hi:F.ws.length<=i) (hf:firstI (canSteal F c) F.ws.length 0=firstI (canSteal F c) (F.ws.length-i) i):stealF F x c=none:=by
  unfold stealF;rw [hf,first_end hi]
def shapeF (l:List JS):List (Bool×Nat):=l.map fun j=>(j.added,j.tasks.length)
def RefOk (S:List (Bool×Nat)) (r:Ref):Prop:=0<=r.job/\r.job<64/\0<=r.task/\∃n,S[r.job.toNat]?=some (true,n)/\r.task<((n:Nat):Int)
structure JobOk (K:Int) (j:JS):Prop where
  n:j.tasks.length<=4096
  b:j.added=true->BWf j.B K/\j.B.deps.length=j.tasks.length/\0<=j.band/\j.band<4
  r:j.running=true->j.added=true
structure WOk (S:List (Bool×Nat)) (K:Int) (v:Wkr):Prop where
  h:0<=v.heldJob/\v.heldJob<64
  r:0<=v.row/\v.row<=K
  t:v.phase=1\/v.phase=2\/v.phase=3->RefOk S ⟨v.heldJob,v.heldTask⟩
structure FW (F:FS) (K:Int):Prop where
  n:1<=F.ws.length/\F.ws.length<=64
  al:F.ar.length=F.ws.length
  dl:F.dq.length=F.ws.length
  jl:F.jobs.length=64
  k:0<=K/\K<=4096
  j:∀j∈F.jobs,JobOk K j
  w:∀v∈F.ws,WOk (shapeF F.jobs) K v
  d:∀d∈F.dq,∀r∈d.l,RefOk (shapeF F.jobs) r
  q:∀l∈F.q.bs,∀r∈l,RefOk (shapeF F.jobs) r
structure StOk (s:Stt) (K:Int):Prop where
  a:0<=s.starts/\s.starts<=K
  b:0<=s.commits/\s.commits<=K
  c:0<=s.drops/\s.drops<=K
  d:0<=s.crashes/\s.crashes<=K
  e:0<=s.steals/\s.steals<=K
  f:0<=s.helps/\s.helps<=K
  g:0<=s.spills/\s.spills<=4096*K
theorem StOk.mono {s:Stt} {K L:Int} (h:StOk s K) (hk:K<=L):StOk s L:=by
  obtain ⟨a,b,c,d,e,f,g⟩:=h;constructor<;>omega
theorem FW.job {F:FS} {K:Int} {r:Ref} (h:FW F K) (hr:RefOk (shapeF F.jobs) r):∃j,F.jobs[r.job.toNat]?=some j/\j.added=true/\BWf j.B K/\j.B.deps.length=j.tasks.length/\0<=j.band/\j.band<4/\j.tasks.length<=4096/\r.task<(j.tasks.length:Int):=by
 obtain ⟨_,_,_,n,hn,ht⟩:=hr
 unfold shapeF at hn;rw [List.getElem?_map] at hn
 cases hj:F.jobs[r.job.toNat]? with
 |none=>rw [hj] at hn;cases hn
 |some j=>
  rw [hj] at hn;obtain ⟨ha,hl⟩:=Prod.mk.inj (Option.some.inj hn)
  obtain ⟨h1,h2,h3,h4⟩:=(h.j j (List.mem_of_getElem? hj)).b ha
  exact ⟨j,rfl,ha,h1,h2,h3,h4,(h.j j (List.mem_of_getElem? hj)).n,by rw [hl];exact ht⟩
theorem FW.mono {F:FS} {K L:Int} (h:FW F K) (hk:K<=L) (hL:L<=4096):FW F L:=
  ⟨h.n,h.al,h.dl,h.jl,⟨by have:=h.k;omega,hL⟩,fun j hj=>⟨(h.j j hj).n,fun ha=>⟨((h.j j hj).b ha).1.mono hk,((h.j j hj).b ha).2⟩,(h.j j hj).r⟩,fun v hv=>⟨(h.w v hv).h,by have:=(h.w v hv).r;omega,(h.w v hv).t⟩,h.d,h.q⟩
theorem mem_set' {α:Type} {P:α->Prop} {l:List α} {k:Nat} {x:α} (h:∀y∈l,P y) (hx:P x):∀y∈l.set k x,P y:=by
  intro y hy
  rcases List.mem_or_eq_of_mem_set hy with h1|rfl
  · exact h y h1
  · exact hx
theorem FW.sd {F:FS} {K:Int} (h:FW F K) {k:Nat} {d:DS} (hd:∀r∈d.l,RefOk (shapeF F.jobs) r):FW {F with dq:=F.dq.set k d} K:=
  ⟨h.n,h.al,by simp only [List.length_set];exact h.dl,h.jl,h.k,h.j,h.w,mem_set' h.d hd,h.q⟩
theorem FW.sq {F:FS} {K:Int} (h:FW F K) {q:QS} (hq:∀l∈q.bs,∀r∈l,RefOk (shapeF F.jobs) r):FW {F with q:=q} K:=
  ⟨h.n,h.al,h.dl,h.jl,h.k,h.j,h.w,h.d,hq⟩
theorem FW.sa {F:FS} {K:Int} (h:FW F K) {k:Nat} {a:AS}:FW {F with ar:=F.ar.set k a} K:=
  ⟨h.n,by simp only [List.length_set];exact h.al,h.dl,h.jl,h.k,h.j,h.w,h.d,h.q⟩
theorem FW.sw {F:FS} {K:Int} (h:FW F K) {k:Nat} {v:Wkr} (hv:WOk (shapeF F.jobs) K v):FW {F with ws:=F.ws.set k v} K:=
  ⟨by simp only [List.length_set];exact h.n,by simp only [List.length_set];exact h.al,by simp only [List.length_set];exact h.dl,h.jl,h.k,h.j,mem_set' h.w hv,h.d,h.q⟩
theorem FW.ss {F:FS} {K:Int} (h:FW F K) {s:Stt}:FW {F with st:=s} K:=⟨h.n,h.al,h.dl,h.jl,h.k,h.j,h.w,h.d,h.q⟩
theorem shape_set {l:List JS} {k:Nat} {j j':JS} (hj:l[k]?=some j) (ha:j'.added=j.added) (hn:j'.tasks.length=j.tasks.length):shapeF (l.set k j')=shapeF l:=by
  unfold shapeF
  rw [List.map_set,ha,hn]
  apply set_same
  rw [List.getElem?_map,hj];rfl
theorem FW.sj {F:FS} {K:Int} (h:FW F K) {k:Nat} {j j':JS} (hj:F.jobs[k]?=some j) (ha:j'.added=j.added) (hn:j'.tasks.length=j.tasks.length) (hk:JobOk K j'):FW {F with jobs:=F.jobs.set k j'} K:=by
  have e:=shape_set hj ha hn
  refine ⟨h.n,h.al,h.dl,?_,h.k,mem_set' h.j hk,?_,?_,?_⟩
  · simp only [List.length_set];exact h.jl
  · show ∀v∈F.ws,WOk (shapeF (F.jobs.set k j')) K v;rw [e];exact h.w
  · show ∀d∈F.dq,∀r∈d.l,RefOk (shapeF (F.jobs.set k j')) r;rw [e];exact h.d
  · show ∀l∈F.q.bs,∀r∈l,RefOk (shapeF (F.jobs.set k j')) r;rw [e];exact h.q
theorem popB_mem:∀{bs bs':List (List Ref)} {r:Ref},popB bs=some (r,bs')->(∃l∈bs,r∈l)/\∀l∈bs',∃m∈bs,∀y∈l,y∈m
 |[],_,_,h=>by cases h
 |[]::t,bs',r,h=>by
  unfold popB at h
  cases hp:popB t with
  |none=>rw [hp] at h;cases h
  |some q=>
   rw [hp] at h;obtain ⟨rfl,rfl⟩:=Prod.mk.inj (Option.some.inj h)
   obtain ⟨⟨l,hl,hr⟩,h2⟩:=popB_mem (r:=q.1) (bs':=q.2) hp
   refine ⟨⟨l,List.mem_cons_of_mem _ hl,hr⟩,?_⟩
   intro l hl
   rcases List.mem_cons.1 hl with rfl|hl
   ·exact ⟨[],List.mem_cons_self,fun y hy=>hy⟩
   ·obtain ⟨m,hm,h3⟩:=h2 l hl;exact ⟨m,List.mem_cons_of_mem _ hm,h3⟩
 |(x::l)::t,bs',r,h=>by
  unfold popB at h;obtain ⟨rfl,rfl⟩:=Prod.mk.inj (Option.some.inj h)
  refine ⟨⟨_,List.mem_cons_self,List.mem_cons_self⟩,?_⟩
  intro m hm
  rcases List.mem_cons.1 hm with rfl|hm
  ·exact ⟨_,List.mem_cons_self,fun y hy=>List.mem_cons_of_mem _ hy⟩
  ·exact ⟨m,List.mem_cons_of_mem _ hm,fun y hy=>hy⟩
theorem pushB_mem {P:Ref->Prop} {r:Ref} (hr:P r):∀{bs:List (List Ref)} {b:Nat},(∀l∈bs,∀y∈l,P y)->∀l∈pushB bs b r,∀y∈l,P y
  |[],_,h=>fun l hl=>by cases hl
  |l::t,0,h=>by
    intro m hm y hy
    rcases List.mem_cons.1 hm with rfl|hm
    · rcases List.mem_append.1 hy with hy|hy
      · exact h l List.mem_cons_self y hy
      · rw [List.mem_singleton.1 hy];exact hr
    · exact h m (List.mem_cons_of_mem _ hm) y hy
  |l::t,b+1,h=>by
    intro m hm y hy
    rcases List.mem_cons.1 hm with rfl|hm
    · exact h m List.mem_cons_self y hy
    · exact pushB_mem hr (bs:=t) (b:=b) (fun l hl=>h l (List.mem_cons_of_mem _ hl)) m hm y hy
theorem pushQ_mem {P:Ref->Prop} {r:Ref} {S:QS} {b:Int} (hr:P r) (h:∀l∈S.bs,∀y∈l,P y):∀l∈(pushQ S r b).bs,∀y∈l,P y:=by
  unfold pushQ
  split
  · exact pushB_mem hr h
  · exact h
theorem pushD_mem {P:Ref->Prop} {r:Ref} {S:DS} (hr:P r) (h:∀y∈S.l,P y):∀y∈(pushD S r).l,P y:=by
  unfold pushD
  split
  · intro y hy
    rcases List.mem_append.1 hy with hy|hy
    · exact h y hy
    · rw [List.mem_singleton.1 hy];exact hr
  · exact h
theorem getD_or {α:Type} [Inhabited α] (l:List α) (k:Nat):l.getD k default∈l\/l.getD k default=default:=by
  rw [List.getD_eq_getElem?_getD]
  cases h:l[k]? with
  |none=>exact .inr rfl
  |some x=>exact .inl (List.mem_of_getElem? h)
theorem FW.dr {F:FS} {K:Int} (h:FW F K) (x:Int):∀r∈(dqAt F x).l,RefOk (shapeF F.jobs) r:=by
  unfold dqAt
  rcases getD_or F.dq x.toNat with h1|h1
  · exact h.d _ h1
  · rw [h1];intro r hr;cases hr
theorem FW.pop {F:FS} {K:Int} (h:FW F K) (x:Int) {l:List Ref} (hl:∀r∈l,r∈(dqAt F x).l):FW (popF F x l) K:=h.sd (d:={dqAt F x with l:=l}) fun r hr=>h.dr x r (hl r hr)
theorem start_deps {B:BS} {i:Int}:(startB B i).1.deps=B.deps:=by
  unfold startB
  split
  · split<;>rfl
  · rfl
theorem ret_deps {B:BS} {i a:Int}:(retB B i a).deps=B.deps:=by unfold retB;split<;>rfl
theorem com_deps {B:BS} {i a:Int}:(comB B i a).1.deps=B.deps:=by unfold comB;split<;>rfl
theorem com_in {B:BS} {i a t:Int} (h:t∈(comB B i a).2):0<=t/\t<(B.deps.length:Int):=by
  unfold comB at h
  split at h
  · exact (by unfold rdyB at h;obtain ⟨q,hq,rfl⟩:=List.mem_map.1 h;have:=List.mem_range.1 (List.mem_filter.1 hq).1;omega)
  · cases h
theorem FW.take {F:FS} {K:Int} {x:Int} {r:Ref} (h:FW F K) (hr:RefOk (shapeF F.jobs) r):FW (takeF F x r) K:=by
  obtain ⟨j,hj,ha,hB,hd,a0,b0,hn,ht⟩:=h.job hr
  have e:jobAt F r.job=j:=getD_some hj
  have h1:=h.sw (k:=x.toNat) (v:=⟨1,r.job,r.task,(startB j.B r.task).2.1,0,0,(F.ar.getD x.toNat default).high⟩) ⟨⟨hr.1,hr.2.1⟩,⟨Int.le_refl 0,h.k.1⟩,fun _=>hr⟩
  have h2:=h1.sj (k:=r.job.toNat) (j:=j) (j':={j with B:=(startB j.B r.task).1}) hj rfl rfl ⟨hn,fun _=>⟨start_wf hB,by rw [start_deps];exact hd,a0,b0⟩,fun _=>ha⟩
  have h3:=h2.ss (s:={F.st with starts:=F.st.starts+1})
  unfold takeF;rw [e];exact h3
theorem take_shape {F:FS} {x:Int} {r:Ref} (hr:RefOk (shapeF F.jobs) r):shapeF (takeF F x r).jobs=shapeF F.jobs:=by
  obtain ⟨h1,h2,_,n,hn,_⟩:=hr
  unfold shapeF at hn;rw [List.getElem?_map] at hn
  cases hj:F.jobs[r.job.toNat]? with
  |none=>rw [hj] at hn;cases hn
  |some j=>
    have e:jobAt F r.job=j:=getD_some hj
    show shapeF (F.jobs.set r.job.toNat {jobAt F r.job with B:=_})=_
    exact shape_set (j:=j) hj (by rw [e]) (by rw [e])
theorem StOk.take {F:FS} {K:Int} {x:Int} {r:Ref} (h:StOk F.st K):StOk (takeF F x r).st (K+1):=by
  obtain ⟨a,b,c,d,e,f,g⟩:=h
  constructor<;>(simp only [takeF];omega)
theorem acq_ok {F F':FS} {K x c:Int} {ev:Evt} (h:FW F K) (hs:StOk F.st K) (he:acqF F x c=some (F',ev)):FW F' K/\StOk F'.st (K+1)/\shapeF F'.jobs=shapeF F.jobs:=by
 unfold acqF at he
 split at he
 · exact (by rename_i r hr;obtain ⟨rfl,_⟩:=Prod.mk.inj (Option.some.inj he);have hm:=h.dr x r (List.mem_of_getLast? hr);exact ⟨(h.pop x fun y hy=>(List.dropLast_sublist _).subset hy).take hm,StOk.take (F:=popF F x (dqAt F x).l.dropLast) hs,take_shape (F:=popF F x (dqAt F x).l.dropLast) hm⟩)
 ·split at he
  · exact (by rename_i r bs hq;obtain ⟨rfl,_⟩:=Prod.mk.inj (Option.some.inj he);obtain ⟨⟨l,hl,hr⟩,h2⟩:=popB_mem hq;have hm:=h.q l hl r hr;refine ⟨(h.sq (q:={F.q with bs:=bs}) fun l hl y hy=>?_).take hm,StOk.take (F:={F with q:={F.q with bs:=bs}}) hs,take_shape (F:={F with q:={F.q with bs:=bs}}) hm⟩;obtain ⟨m,a0,h3⟩:=h2 l hl;exact h.q m a0 y (h3 y hy))
  ·unfold stealF at he
   split at he
   ·cases he
   ·rename_i i hi
    split at he
    ·cases he
    ·rename_i r hr
     obtain ⟨rfl,_⟩:=Prod.mk.inj (Option.some.inj he)
     have hm:=h.dr (chF F c i) r (List.mem_of_head? hr)
     refine ⟨((h.pop (chF F c i) fun y hy=>List.mem_of_mem_tail hy).take (x:=x) hm).ss,?_,take_shape (F:=popF F (chF F c i) (dqAt F (chF F c i)).l.tail) (x:=x) hm⟩
     obtain ⟨a,b,c,d,e,f,g⟩:=hs
     constructor<;>(simp only [stealE,takeF,popF];omega)
theorem spill_ok {K x job band : Int} : ∀ (l : List Int) {F : FS}, FW F K -> (∀ t ∈ l, RefOk (shapeF F.jobs) ⟨job, t⟩) ->
  FW (spillF F x job band l) K /\ (spillF F x job band l).jobs = F.jobs /\ (spillF F x job band l).ws = F.ws /\ (spillF F x job band l).ar = F.ar /\ ∃ n : Nat, n <= l.length /\ (spillF F x job band l).st = { F.st with spills := F.st.spills + n }
 | [], F, h, _ => ⟨h, rfl, rfl, rfl, 0, Nat.le_refl _, by simp [spillF]⟩
 | t :: l, F, h, hr => by
  have h0 := hr t List.mem_cons_self
  have h1 : FW (spill1 F x ⟨job, t⟩ band) K /\ (spill1 F x ⟨job, t⟩ band).jobs = F.jobs /\ (spill1 F x ⟨job, t⟩ band).ws = F.ws /\ (spill1 F x ⟨job, t⟩ band).ar = F.ar /\ ∃ n : Nat, n <= 1 /\ (spill1 F x ⟨job, t⟩ band).st = { F.st with spills := F.st.spills + n } := by
   unfold spill1
   split
   ·exact ⟨h.sd (pushD_mem h0 (h.dr x)), rfl, rfl, rfl, 0, om, by simp⟩
   ·exact ⟨(h.sq (pushQ_mem h0 h.q)).ss, rfl, rfl, rfl, 1, om, rfl⟩
  obtain ⟨hF, hj, hw, ha, n, hn, b0⟩ := h1
  obtain ⟨gF, gj, gw, ga, m, hm, a0⟩ := spill_ok l hF (by rw [hj]; exact fun t ht => hr t (List.mem_cons_of_mem _ ht))
  exact ⟨gF, gj.trans hj, gw.trans hw, ga.trans ha, n + m, by simp only [List.length_cons]; omega, (by show (spillF (spill1 F x ⟨job, t⟩ band) x job band l).st = _; rw [a0, b0]; simp only [Int.natCast_add, Int.add_assoc])⟩
theorem micro_ok {F:FS} {K x:Int} {v:Wkr} (h:FW F K) (hK:K+1<=4096) (hv:F.ws[x.toNat]?=some v) (hh:v.phase=1\/v.phase=2\/v.phase=3):
  FW (microF F x).1 (K+1)/\(∃a b:Nat,a<=1/\b<=4096/\(microF F x).1.st={F.st with commits:=F.st.commits+a,spills:=F.st.spills+b})/\shapeF (microF F x).1.jobs=shapeF F.jobs:=by
 have hw:=h.w v (List.mem_of_getElem? hv)
 have hm:=h.mono (L:=K+1) om hK
 have hr:=hw.t hh
 obtain ⟨j,hj,ha,hB,hd,c0,d0,hn,ht⟩:=h.job hr
 have hj:F.jobs[v.heldJob.toNat]?=some j:=hj
 have e:jobAt F v.heldJob=j:=getD_some hj
 have k1:=hw.r;have k2:=hw.h
 unfold microF
 simp only [getD_some hv,e]
 split
 ·exact ⟨(hm.sa.sw ⟨k2,by dsimp only;omega,fun _=>hr⟩),⟨0,0,om,om,by simp⟩,rfl⟩
 ·split
  ·exact ⟨hm.sw ⟨k2,by dsimp only;omega,fun _=>hr⟩,⟨0,0,om,om,by simp⟩,rfl⟩
  ·have hO:JobOk (K+1) {j with B:=(comB j.B v.heldTask v.attempt).1}:=⟨hn,fun _=>⟨(com_wf hB).mono om,by rw [com_deps];exact hd,c0,d0⟩,fun _=>ha⟩
   have g0:JobOk (K+1) {j with B:=(comB j.B v.heldTask v.attempt).1,running:=false}:=⟨hn,fun _=>⟨(com_wf hB).mono om,by rw [com_deps];exact hd,c0,d0⟩,fun h=>by cases h⟩
   have f0:=(((hm.sj (k:=v.heldJob.toNat) (j':={j with B:=(comB j.B v.heldTask v.attempt).1}) hj rfl rfl hO).sa (k:=x.toNat) (a:=relA (F.ar.getD x.toNat default))).sw (k:=x.toNat) (v:=⟨0,0,0,0,0,0,(relA (F.ar.getD x.toNat default)).high⟩) ⟨⟨Int.le_refl 0,show (0:Int)<64 by decide⟩,⟨Int.le_refl 0,by dsimp only;omega⟩,fun h=>by dsimp only at h;omega⟩).ss (s:={F.st with commits:=F.st.commits+1})
   have e0:=shape_set (j':={j with B:=(comB j.B v.heldTask v.attempt).1}) hj rfl rfl
   obtain ⟨gF,gj,gw,ga,n,i0,b0⟩:=spill_ok (x:=x) (job:=v.heldJob) (band:=j.band) (comB j.B v.heldTask v.attempt).2 f0 (by
    intro t h0
    have h3:=com_in h0
    dsimp only;rw [e0]
    obtain ⟨_,_,_,m,a0,_⟩:=hr
    refine ⟨k2.1,k2.2,h3.1,m,a0,?_⟩
    unfold shapeF at a0;rw [List.getElem?_map,hj] at a0
    have:=(Prod.mk.inj (Option.some.inj a0)).2
    dsimp only at this⊢;omega)
   have hc:=com_len (B:=j.B) (i:=v.heldTask) (a:=v.attempt)
   split
   ·exact ⟨(by have h4:=gF.sj (k:=v.heldJob.toNat) (j:={j with B:=(comB j.B v.heldTask v.attempt).1}) (j':={j with B:=(comB j.B v.heldTask v.attempt).1,running:=false}) (by rw [gj];dsimp only;exact set_at hj) rfl rfl g0;rw [gj] at h4;dsimp only at h4;rw [List.set_set] at h4;exact h4),⟨1,n,om,om,b0⟩,shape_set hj rfl rfl⟩
   ·exact ⟨gF,⟨1,n,om,om,b0⟩,by rw [gj];exact e0⟩
theorem micro_st {F:FS} {K:Int} {a b:Nat} {s:Stt} (hs:StOk F.st K) (h1:a<=1) (h2:b<=4096) (h:s={F.st with commits:=F.st.commits+a,spills:=F.st.spills+b}):StOk s (K+1):=by
  rw [h]
  obtain ⟨a,b,c,d,e,f,g⟩:=hs
  constructor<;>(dsimp only;omega)
def wAt (F:FS) (x:Int):Wkr:=F.ws.getD x.toNat default
def arAt (F:FS) (x:Int):AS:=F.ar.getD x.toNat default
def clearF (F:FS) (x ph:Int) (s:Stt):FS:={F with ar:=F.ar.set x.toNat (resetA (arAt F x)),ws:=F.ws.set x.toNat ⟨ph,0,0,0,0,0,(arAt F x).high⟩,st:=s}
def dropF (F:FS) (x:Int):FS:=clearF F x 0 {F.st with drops:=F.st.drops+1}
def busyW (F:FS) (v:Wkr):Bool:=decide (v.phase=1\/v.phase=2\/v.phase=3)&&(jobAt F v.heldJob).running
def canHelp (F:FS) (x c:Int) (i:Nat):Bool:=decide (chF F c i≠x)&&busyW F (wAt F (chF F c i))
def helpF (F:FS):FS:={F with st:={F.st with helps:=F.st.helps+1}}
def restF (F:FS) (x c:Int):FS×List Evt×Int:=
  match acqF F x c with
  |some q=>(q.1,[q.2],0)
  |none=>match firstI (canHelp F x c) F.ws.length 0 with
    |some i=>((microF (helpF F) (chF F c i)).1,[⟨12,x,chF F c i,0,0,0,0⟩,(microF (helpF F) (chF F c i)).2],0)
    |none=>(F,[evt 13 x],0)
def stepF (F:FS) (x c:Int):FS×List Evt×Int:=
  if ¬(0<=x/\x<((F.ws.length:Nat):Int)) then (F,[],16)
  else if (wAt F x).phase=4 then (F,[],20)
  else if (wAt F x).phase=1\/(wAt F x).phase=2\/(wAt F x).phase=3 then
    if (jobAt F (wAt F x).heldJob).running=true then ((microF F x).1,[(microF F x).2],0)
    else (dropF F x,[⟨9,x,0,0,(wAt F x).heldJob,(wAt F x).heldTask,0⟩],0)
  else restF F x c
theorem help_at {F:FS} {x c:Int} {i:Nat} (ha:acqF F x c=none) (hi:i<F.ws.length) (hf:firstI (canHelp F x c) F.ws.length 0=firstI (canHelp F x c) (F.ws.length-i) i) (hp:canHelp F x c i=true):
    restF F x c=((microF (helpF F) (chF F c i)).1,[⟨12,x,chF F c i,0,0,0,0⟩,(microF (helpF F) (chF F c i)).2],0):=by
  unfold restF;simp only [ha,hf,first_hit hi hp]
theorem help_skip {F:FS} {x c:Int} {i:Nat} (hi:i<F.ws.length) (hf:firstI (canHelp F x c) F.ws.length 0=firstI (canHelp F x c) (F.ws.length-i) i) (hp:canHelp F x c i=false):
    firstI (canHelp F x c) F.ws.length 0=firstI (canHelp F x c) (F.ws.length-(i+1)) (i+1):=by rw [hf];exact first_skip hi hp
theorem help_end {F:FS} {x c:Int} {i:Nat} (ha:acqF F x c=none) (hi:F.ws.length<=i) (hf:firstI (canHelp F x c) F.ws.length 0=firstI (canHelp F x c) (F.ws.length-i) i):restF F x c=(F,[evt 13 x],0):=by
  unfold restF;simp only [ha,hf,first_end hi]
theorem canHelp_eq {F:FS} {x c:Int} {i:Nat} {v:Wkr} {j:JS} (hv:F.ws[(chF F c i).toNat]?=some v) (hj:F.jobs[v.heldJob.toNat]?=some j):
    canHelp F x c i=(decide (chF F c i≠x)&&(decide (v.phase=1\/v.phase=2\/v.phase=3)&&j.running)):=by
  unfold canHelp busyW wAt jobAt;rw [getD_some hv,getD_some hj]
theorem FW.clear {F:FS} {K x ph:Int} {s:Stt} (h:FW F K) (hp:ph=0\/ph=4):FW (clearF F x ph s) K:=
  ((h.sa (k:=x.toNat) (a:=resetA (arAt F x))).sw (k:=x.toNat) (v:=⟨ph,0,0,0,0,0,(arAt F x).high⟩) ⟨⟨Int.le_refl 0,show (0:Int)<64 by decide⟩,⟨Int.le_refl 0,h.k.1⟩,fun h=>by dsimp only at h;omega⟩).ss
theorem FW.wmem {F:FS} {K x:Int} (h:FW F K) (hx:0<=x/\x<(F.ws.length:Int)):F.ws[x.toNat]?=some (wAt F x):=by
  unfold wAt
  rw [List.getD_eq_getElem?_getD]
  have:x.toNat<F.ws.length:=by omega
  rw [List.getElem?_eq_getElem this];rfl
theorem chF_bd {F:FS} {c:Int} {i:Nat} (hn:1<=F.ws.length):0<=chF F c i/\chF F c i<(F.ws.length:Int):=choice_bd (by omega) (by omega)
theorem first_some {p:Nat->Bool}:∀{n i k:Nat},firstI p n i=some k->i<=k/\k<i+n/\p k=true
  |0,_,_,h=>by cases h
  |n+1,i,k,h=>by
    unfold firstI at h
    split at h
    · rename_i hp;obtain rfl:=Option.some.inj h;exact ⟨Nat.le_refl _,by omega,hp⟩
    · have:=first_some h;exact ⟨by omega,by omega,this.2.2⟩
theorem step_ok {F:FS} {K x c:Int} (h:FW F K) (hs:StOk F.st K) (hK:K+1<=4096):FW (stepF F x c).1 (K+1)/\StOk (stepF F x c).1.st (K+1)/\shapeF (stepF F x c).1.jobs=shapeF F.jobs:=by
 have hm:=h.mono (L:=K+1) om hK
 have a0:=hs.mono (L:=K+1) om
 unfold stepF
 split
 ·exact ⟨hm,a0,rfl⟩
 ·rename_i hx
  have hx:=Classical.not_not.1 hx
  have hv:=h.wmem hx
  split
  ·exact ⟨hm,a0,rfl⟩
  ·split
   ·rename_i hh
    split
    · exact (by obtain ⟨h1,⟨a,b,ha,hb,h2⟩,h3⟩:=micro_ok h hK hv hh;exact ⟨h1,micro_st hs ha hb h2,h3⟩)
    ·refine ⟨(hm.clear (.inl rfl)),?_,rfl⟩
     obtain ⟨a,b,c,d,e,f,g⟩:=hs
     constructor<;>(simp only [dropF,clearF];omega)
   ·unfold restF
    split
    · exact (by rename_i q hq;obtain ⟨h1,h2,h3⟩:=acq_ok h hs hq;exact ⟨h1.mono om hK,h2,h3⟩)
    ·split
     ·rename_i i hi
      have h2:=(first_some hi).2.2
      unfold canHelp at h2
      obtain ⟨h3,h4⟩:=(Bool.and_eq_true _ _).mp h2
      unfold busyW at h4
      obtain ⟨h5,h6⟩:=(Bool.and_eq_true _ _).mp h4
      have hb:=chF_bd (F:=F) (c:=c) (i:=i) h.n.1
      have hF:FW (helpF F) K:=h.ss
      obtain ⟨g1,⟨a,b,ha,hb,g2⟩,g3⟩:=micro_ok (x:=chF F c i) hF hK (h.wmem hb) (of_decide_eq_true h5)
      refine ⟨g1,?_,g3⟩
      dsimp only;rw [g2]
      obtain ⟨_,_,_,_,_,_,_⟩:=hs
      constructor<;>(simp only [helpF];omega)
     ·exact ⟨hm,a0,rfl⟩
def retJ (F:FS) (v:Wkr):FS:=if busyW F v=true then {F with jobs:=F.jobs.set v.heldJob.toNat {jobAt F v.heldJob with B:=retB (jobAt F v.heldJob).B v.heldTask v.attempt},q:=pushQ F.q ⟨v.heldJob,v.heldTask⟩ (jobAt F v.heldJob).band} else F
def pushR (jobs:List JS) (q:QS) (r:Ref):QS:=pushQ q r (jobs.getD r.job.toNat default).band
def drainQ (jobs:List JS) (q:QS) (l:List Ref):QS:=l.foldl (pushR jobs) q
theorem drain_take {jobs:List JS} {q:QS} {l:List Ref} {i:Nat} {r:Ref} (h:l[i]?=some r):drainQ jobs q (l.take (i+1))=pushR jobs (drainQ jobs q (l.take i)) r:=by
  unfold drainQ;rw [take_succ_at h,List.foldl_append];rfl
def crashW (F:FS) (x:Int):FS:=
  let F1:=popF F x []
  clearF {F1 with q:=drainQ F1.jobs F1.q (dqAt F x).l} x 4 {F.st with crashes:=F.st.crashes+1}
def crashF (F:FS) (x:Int):FS×List Evt×Int:=
  if ¬(0<=x/\x<((F.ws.length:Nat):Int)) then (F,[],16)
  else if (wAt F x).phase=4 then (F,[],20)
  else (crashW (retJ F (wAt F x)) x,[⟨10,x,0,0,(wAt F x).heldJob,(wAt F x).heldTask,0⟩],0)
def restartF (F:FS) (x:Int):FS×List Evt×Int:=
  if ¬(0<=x/\x<((F.ws.length:Nat):Int)) then (F,[],16)
  else if (wAt F x).phase=4 then (idleF F x 0,[evt 11 x],0)
  else (F,[],20)
def rmD (k:Int) (d:DS):DS:={d with l:=without k d.l}
def cancelW (F:FS) (k:Int):FS:={F with jobs:=F.jobs.set k.toNat {jobAt F k with running:=false},q:={F.q with bs:=F.q.bs.map (without k)},dq:=F.dq.map (rmD k)}
def cancelF (F:FS) (k:Int):FS×List Evt×Int:=
  if ¬(0<=k/\k<64)\/(jobAt F k).added=false then (F,[],16)
  else if (jobAt F k).running=false then (F,[],18)
  else (cancelW F k,[⟨2,0,0,k,0,0,0⟩],0)
theorem drain_mem {P:Ref->Prop} {jobs:List JS}:∀(l:List Ref) {q:QS},(∀r∈l,P r)->(∀m∈q.bs,∀y∈m,P y)->∀m∈(drainQ jobs q l).bs,∀y∈m,P y
  |[],_,_,h=>h
  |r::l,q,hl,h=>drain_mem l (q:=pushR jobs q r) (fun y hy=>hl y (List.mem_cons_of_mem _ hy)) (pushQ_mem (hl r List.mem_cons_self) h)
theorem FW.ret {F:FS} {K:Int} {v:Wkr} (h:FW F K) (hK:K+1<=4096) (hv:v∈F.ws):FW (retJ F v) (K+1)/\shapeF (retJ F v).jobs=shapeF F.jobs/\(retJ F v).ws=F.ws/\(retJ F v).ar=F.ar/\(retJ F v).dq=F.dq/\(retJ F v).st=F.st:=by
 have hm:=h.mono (L:=K+1) om hK
 unfold retJ
 split
 ·rename_i hb
  unfold busyW at hb
  obtain ⟨h5,h6⟩:=(Bool.and_eq_true _ _).mp hb
  have hr:=(h.w v hv).t (of_decide_eq_true h5)
  obtain ⟨j,hj,ha,hB,hd,b0,c0,hn,ht⟩:=h.job hr
  have e:jobAt F v.heldJob=j:=getD_some hj
  rw [e]
  have hO:JobOk (K+1) {j with B:=retB j.B v.heldTask v.attempt}:=⟨hn,fun _=>⟨ret_wf hB,by rw [ret_deps];exact hd,b0,c0⟩,fun _=>ha⟩
  have a0:=shape_set (j':={j with B:=retB j.B v.heldTask v.attempt}) hj rfl rfl
  have h1:=hm.sj (j':={j with B:=retB j.B v.heldTask v.attempt}) hj rfl rfl hO
  have h2:=h1.sq (q:=pushQ F.q ⟨v.heldJob,v.heldTask⟩ j.band) (by
   show ∀l∈_,∀r∈l,RefOk (shapeF (F.jobs.set v.heldJob.toNat _)) r
   rw [a0];exact pushQ_mem hr h.q)
  exact ⟨h2,a0,rfl,rfl,rfl,rfl⟩
 ·exact ⟨hm,rfl,rfl,rfl,rfl,rfl⟩
theorem FW.crash {F:FS} {K x:Int} (h:FW F K):FW (crashW F x) K:=
  ((h.pop x (l:=[]) (fun r hr=>by cases hr)).sq (drain_mem _ (h.dr x) h.q)).clear (.inr rfl)
theorem crash_ok {F:FS} {K x:Int} (h:FW F K) (hs:StOk F.st K) (hK:K+1<=4096):FW (crashF F x).1 (K+1)/\StOk (crashF F x).1.st (K+1)/\shapeF (crashF F x).1.jobs=shapeF F.jobs:=by
 have hm:=h.mono (L:=K+1) om hK
 have a0:=hs.mono (L:=K+1) om
 unfold crashF
 split
 ·exact ⟨hm,a0,rfl⟩
 ·rename_i hx
  have hv:=h.wmem (Classical.not_not.1 hx)
  split
  ·exact ⟨hm,a0,rfl⟩
  ·obtain ⟨h1,h2,h3,h4,h5,h6⟩:=h.ret hK (List.mem_of_getElem? hv)
   refine ⟨h1.crash,?_,h2⟩
   show StOk {(retJ F (wAt F x)).st with crashes:=(retJ F (wAt F x)).st.crashes+1} (K+1)
   rw [h6]
   obtain ⟨_,_,_,_,_,_,_⟩:=hs
   constructor<;>(dsimp only;omega)
theorem restart_ok {F:FS} {K x:Int} (h:FW F K) (hs:StOk F.st K) (hK:K+1<=4096):FW (restartF F x).1 (K+1)/\StOk (restartF F x).1.st (K+1)/\shapeF (restartF F x).1.jobs=shapeF F.jobs:=by
  have hm:=h.mono (L:=K+1) (by omega) hK
  have a0:=hs.mono (L:=K+1) (by omega)
  unfold restartF
  split
  · exact ⟨hm,a0,rfl⟩
  · split
    · exact ⟨hm.sw ⟨⟨Int.le_refl 0,show (0:Int)<64 by decide⟩,⟨Int.le_refl 0,hm.k.1⟩,fun h=>by dsimp only at h;omega⟩,a0,rfl⟩
    · exact ⟨hm,a0,rfl⟩
theorem cancel_ok {F:FS} {K k:Int} (h:FW F K) (hs:StOk F.st K) (hK:K+1<=4096):FW (cancelF F k).1 (K+1)/\StOk (cancelF F k).1.st (K+1)/\shapeF (cancelF F k).1.jobs=shapeF F.jobs:=by
 have hm:=h.mono (L:=K+1) om hK
 have hs':=hs.mono (L:=K+1) om
 unfold cancelF
 split
 ·exact ⟨hm,hs',rfl⟩
 ·rename_i hk
  split
  ·exact ⟨hm,hs',rfl⟩
  ·have hj:F.jobs[k.toNat]?=some (jobAt F k):=by
    unfold jobAt
    have h1:k.toNat<F.jobs.length:=by rw [h.jl];omega
    rw [List.getD_eq_getElem?_getD,List.getElem?_eq_getElem h1];rfl
   have hO:=hm.j _ (List.mem_of_getElem? hj)
   have h1:=hm.sj (j':={jobAt F k with running:=false}) hj rfl rfl ⟨hO.n,hO.b,fun h=>by cases h⟩
   have hsh:=shape_set (j':={jobAt F k with running:=false}) hj rfl rfl
   have hsub:∀(l:List Ref) (y:Ref),y∈without k l->y∈l:=fun l y hy=>(List.mem_filter.1 hy).1
   have h2:=h1.sq (q:={F.q with bs:=F.q.bs.map (without k)}) (by
    intro l hl r hr
    obtain ⟨m,hm2,rfl⟩:=List.mem_map.1 hl
    show RefOk (shapeF (F.jobs.set k.toNat _)) r
    rw [hsh];exact h.q m hm2 r (hsub m r hr))
   refine ⟨⟨h2.n,h2.al,by simp only [List.length_map,cancelW];exact h2.dl,h2.jl,h2.k,h2.j,h2.w,?_,h2.q⟩,hs',hsh⟩
   intro d hd r hr
   obtain ⟨m,hm2,rfl⟩:=List.mem_map.1 hd
   show RefOk (shapeF (F.jobs.set k.toNat _)) r
   rw [hsh];exact h.d m hm2 r (hsub m.l r hr)
theorem step_unk {F:FS} {x c:Int} (h:¬(0<=x/\x<(F.ws.length:Int))):stepF F x c=(F,[],16):=by unfold stepF;rw [if_pos h]
theorem step_down {F:FS} {x c:Int} {v:Wkr} (h:0<=x/\x<(F.ws.length:Int)) (hv:F.ws[x.toNat]?=some v) (h4:v.phase=4):stepF F x c=(F,[],20):=by
  unfold stepF wAt;rw [if_neg (fun k=>k h),getD_some hv,if_pos h4]
theorem step_micro {F:FS} {x c:Int} {v:Wkr} {j:JS} (h:0<=x/\x<(F.ws.length:Int)) (hv:F.ws[x.toNat]?=some v) (hh:v.phase=1\/v.phase=2\/v.phase=3) (hj:F.jobs[v.heldJob.toNat]?=some j) (hr:j.running=true):stepF F x c=((microF F x).1,[(microF F x).2],0):=by
  unfold stepF wAt jobAt;rw [if_neg (fun k=>k h),getD_some hv,if_neg (by omega),if_pos hh,getD_some hj,if_pos hr]
theorem step_drop {F:FS} {x c:Int} {v:Wkr} {j:JS} (h:0<=x/\x<(F.ws.length:Int)) (hv:F.ws[x.toNat]?=some v) (hh:v.phase=1\/v.phase=2\/v.phase=3) (hj:F.jobs[v.heldJob.toNat]?=some j) (hr:¬j.running=true):stepF F x c=(dropF F x,[⟨9,x,0,0,v.heldJob,v.heldTask,0⟩],0):=by
  unfold stepF wAt jobAt;rw [if_neg (fun k=>k h),getD_some hv,if_neg (by omega),if_pos hh,getD_some hj,if_neg hr]
theorem step_rest {F:FS} {x c:Int} {v:Wkr} (h:0<=x/\x<(F.ws.length:Int)) (hv:F.ws[x.toNat]?=some v) (h4:¬v.phase=4) (hh:¬(v.phase=1\/v.phase=2\/v.phase=3)):stepF F x c=restF F x c:=by
  unfold stepF wAt;rw [if_neg (fun k=>k h),getD_some hv,if_neg h4,if_neg hh]
theorem rest_acq {F F':FS} {x c:Int} {ev:Evt} (h:acqF F x c=some (F',ev)):restF F x c=(F',[ev],0):=by unfold restF;simp only [h]
theorem drain_set {jobs:List JS} {k:Nat} {j:JS} {B:BS} {q:QS} {l:List Ref} (hj:jobs[k]?=some j):drainQ (jobs.set k {j with B:=B}) q l=drainQ jobs q l:=by
  have h:pushR (jobs.set k {j with B:=B})=pushR jobs:=by
    funext q r
    unfold pushR
    congr 1
    rw [List.getD_eq_getElem?_getD,List.getD_eq_getElem?_getD,List.getElem?_set]
    by_cases e:k=r.job.toNat
    · exact (by have h1:k<jobs.length:=(List.getElem?_eq_some_iff.1 hj).1;rw [if_pos e,if_pos h1,<-e,hj];rfl)
    · rw [if_neg e]
  unfold drainQ;rw [h]
theorem crash_unk {F:FS} {x:Int} (h:¬(0<=x/\x<(F.ws.length:Int))):crashF F x=(F,[],16):=by unfold crashF;rw [if_pos h]
theorem crash_down {F:FS} {x:Int} {v:Wkr} (h:0<=x/\x<(F.ws.length:Int)) (hv:F.ws[x.toNat]?=some v) (h4:v.phase=4):crashF F x=(F,[],20):=by
  unfold crashF wAt;rw [if_neg (fun k=>k h),getD_some hv,if_pos h4]
theorem crash_at {F:FS} {x:Int} {v:Wkr} (h:0<=x/\x<(F.ws.length:Int)) (hv:F.ws[x.toNat]?=some v) (h4:¬v.phase=4):crashF F x=(crashW (retJ F v) x,[⟨10,x,0,0,v.heldJob,v.heldTask,0⟩],0):=by
  unfold crashF wAt;rw [if_neg (fun k=>k h),getD_some hv,if_neg h4]
theorem crash_busy {F:FS} {x:Int} {v:Wkr} {j:JS} {d:DS} {a:AS} (h:0<=x/\x<(F.ws.length:Int)) (hv:F.ws[x.toNat]?=some v) (hh:v.phase=1\/v.phase=2\/v.phase=3)
  (hj:F.jobs[v.heldJob.toNat]?=some j) (hr:j.running=true) (hd:F.dq[x.toNat]?=some d) (ha:F.ar[x.toNat]?=some a):crashF F x=
  (⟨F.cfg,F.ws.set x.toNat ⟨4,0,0,0,0,0,a.high⟩,F.ar.set x.toNat (resetA a),F.dq.set x.toNat {d with l:=[]},drainQ F.jobs (pushQ F.q ⟨v.heldJob,v.heldTask⟩ j.band) d.l,F.jobs.set v.heldJob.toNat {j with B:=retB j.B v.heldTask v.attempt},{F.st with crashes:=F.st.crashes+1}⟩,[⟨10,x,0,0,v.heldJob,v.heldTask,0⟩],0):=by
 rw [crash_at h hv om]
 have e:jobAt F v.heldJob=j:=getD_some hj
 have hb:busyW F v=true:=by unfold busyW;rw [e,hr,decide_eq_true hh];rfl
 have e1:retJ F v={F with jobs:=F.jobs.set v.heldJob.toNat {j with B:=retB j.B v.heldTask v.attempt},q:=pushQ F.q ⟨v.heldJob,v.heldTask⟩ j.band}:=by unfold retJ;rw [if_pos hb,e]
 rw [e1]
 have e2:F.dq.getD x.toNat default=d:=getD_some hd
 have e3:F.ar.getD x.toNat default=a:=getD_some ha
 unfold crashW clearF popF dqAt arAt
 simp only [e2,e3,drain_set hj]
theorem crash_free {F:FS} {x:Int} {v:Wkr} {d:DS} {a:AS} (h:0<=x/\x<(F.ws.length:Int)) (hv:F.ws[x.toNat]?=some v) (h4:¬v.phase=4) (hb:busyW F v=false)
  (hd:F.dq[x.toNat]?=some d) (ha:F.ar[x.toNat]?=some a):crashF F x=
  (⟨F.cfg,F.ws.set x.toNat ⟨4,0,0,0,0,0,a.high⟩,F.ar.set x.toNat (resetA a),F.dq.set x.toNat {d with l:=[]},drainQ F.jobs F.q d.l,F.jobs,{F.st with crashes:=F.st.crashes+1}⟩,[⟨10,x,0,0,v.heldJob,v.heldTask,0⟩],0):=by
 rw [crash_at h hv h4]
 have e1:retJ F v=F:=by unfold retJ;rw [if_neg (by rw [hb];decide)]
 rw [e1]
 have e2:F.dq.getD x.toNat default=d:=getD_some hd
 have e3:F.ar.getD x.toNat default=a:=getD_some ha
 unfold crashW clearF popF dqAt arAt
 simp only [e2,e3]
theorem rm_step {l dqi:List DS} {k:Int} {i:Nat} {s:DS} (h:dqi=(l.take i).map (rmD k)++l.drop i) (hs:dqi[i]?=some s):dqi.set i {s with l:=without k s.l}=(l.take (i+1)).map (rmD k)++l.drop (i+1):=by
 have a0:dqi.length=l.length:=by rw [h];simp;omega
 have hi:i<l.length:=by have:=(List.getElem?_eq_some_iff.1 hs).1;omega
 have h1:l.drop i=l[i]::l.drop (i+1):=List.drop_eq_getElem_cons hi
 have h2:((l.take i).map (rmD k)).length=i:=by simp;omega
 rw [h1] at h
 have h3:s=l[i]:=(by rw [h,List.getElem?_append_right om,h2,Nat.sub_self] at hs;exact (Option.some.inj hs).symm)
 rw [h,List.set_append_right _ _ om,h2,Nat.sub_self,List.set_cons_zero,h3,take_succ_at (List.getElem?_eq_getElem hi),List.map_append,List.append_assoc]
 rfl
theorem cancel_unk {F:FS} {k:Int} (h:¬(0<=k/\k<64)):cancelF F k=(F,[],16):=by unfold cancelF;rw [if_pos (.inl h)]
theorem cancel_not {F:FS} {k:Int} {j:JS} (hj:F.jobs[k.toNat]?=some j) (ha:¬j.added=true):cancelF F k=(F,[],16):=by
  unfold cancelF jobAt;rw [getD_some hj,if_pos (.inr (Bool.eq_false_iff.2 ha))]
theorem cancel_fin {F:FS} {k:Int} {j:JS} (h:0<=k/\k<64) (hj:F.jobs[k.toNat]?=some j) (ha:j.added=true) (hr:¬j.running=true):cancelF F k=(F,[],18):=by
  unfold cancelF jobAt;rw [getD_some hj,if_neg (by rw [ha];simp [h]),if_pos (Bool.eq_false_iff.2 hr)]
theorem cancel_at {F:FS} {k:Int} {j:JS} (h:0<=k/\k<64) (hj:F.jobs[k.toNat]?=some j) (ha:j.added=true) (hr:j.running=true):cancelF F k=(⟨F.cfg,F.ws,F.ar,F.dq.map (rmD k),{F.q with bs:=F.q.bs.map (without k)},F.jobs.set k.toNat {j with running:=false},F.st⟩,[⟨2,0,0,k,0,0,0⟩],0):=by
  unfold cancelF cancelW jobAt;rw [getD_some hj,if_neg (by rw [ha];simp [h]),if_neg (by rw [hr];decide)]
def validCfg (c:Cfg):Int:=if (1<=c.workers/\c.workers<=64)/\(1<=c.tileW/\c.tileW<=64)/\(1<=c.tileH/\c.tileH<=64)/\(0<=c.arena/\c.arena<=1048576)/\(1<=c.deque/\c.deque<=256)/\(1<=c.tasks/\c.tasks<=4096)/\(1<=c.cells/\c.cells<=1048576)/\(1<=c.jobs/\c.jobs<=64) then 0 else 2
theorem validCfg_zero {c:Cfg} (h:validCfg c=0):(1<=c.workers/\c.workers<=64)/\(1<=c.tileW/\c.tileW<=64)/\(1<=c.tileH/\c.tileH<=64)/\(0<=c.arena/\c.arena<=1048576)/\(1<=c.deque/\c.deque<=256)/\(1<=c.tasks/\c.tasks<=4096)/\(1<=c.cells/\c.cells<=1048576)/\(1<=c.jobs/\c.jobs<=64):=by
  unfold validCfg at h
  split at h
  · assumption
  · omega
def newF (c:Cfg):FS:=⟨c,List.replicate c.workers.toNat ⟨0,0,0,0,0,0,0⟩,List.replicate c.workers.toNat ⟨c.arena,0,0,[]⟩,List.replicate c.workers.toNat ⟨c.deque,[]⟩,⟨c.tasks,[[],[],[],[]]⟩,List.replicate 64 JS.zero,⟨0,0,0,0,0,0,0,0,0,0⟩⟩
theorem rep_at {α:Type} {n i:Nat} {a x:α} (h:(List.replicate n a)[i]?=some x):x=a:=by
  rw [List.getElem?_replicate] at h
  split at h
  · exact (Option.some.inj h).symm
  · cases h
theorem newF_ok {c:Cfg} (h:validCfg c=0):FW (newF c) 0/\StOk (newF c).st 0:=by
 obtain ⟨h1,_⟩:=validCfg_zero h
 refine ⟨⟨?_,?_,?_,?_,⟨by decide,by decide⟩,?_,?_,?_,?_⟩,?_⟩
 ·simp only [newF,List.length_replicate];omega
 ·simp only [newF,List.length_replicate]
 ·simp only [newF,List.length_replicate]
 ·simp only [newF,List.length_replicate]
 · exact (by intro j hj;obtain rfl:=List.eq_of_mem_replicate hj;exact ⟨by simp [JS.zero],(fun h=>by cases h),(fun h=>by cases h)⟩)
 · exact (by intro v hv;obtain rfl:=List.eq_of_mem_replicate hv;exact ⟨⟨Int.le_refl 0,show (0:Int)<64 by decide⟩,⟨Int.le_refl 0,Int.le_refl 0⟩,fun h=>by dsimp only at h;omega⟩)
 · exact (by intro d hd;obtain rfl:=List.eq_of_mem_replicate hd;intro r hr;cases hr)
 · exact (by intro l hl r hr;simp only [newF] at hl;simp at hl;subst hl;cases hr)
 ·constructor<;>(simp only [newF];decide)
def readyQ (x bd:Int) (q:QS) (l:List Int):QS:=l.foldl (fun q t=>pushQ q ⟨x,t⟩ bd) q
theorem ready_take {x bd:Int} {q:QS} {l:List Int} {i:Nat} {t:Int} (h:l[i]?=some t):readyQ x bd q (l.take (i+1))=pushQ (readyQ x bd q (l.take i)) ⟨x,t⟩ bd:=by
  unfold readyQ;rw [take_succ_at h,List.foldl_append];rfl
def jobN (l:List Task) (bd:Int):JS:=⟨true,true,bd,l.map Task.v,newB l⟩
def addF (F:FS) (x:Int) (l:List Task) (bd:Int):FS:={F with jobs:=F.jobs.set x.toNat (jobN l bd),q:=readyQ x bd F.q (idxOf 2 0 (newB l).st)}
theorem ready_mem {P:Ref->Prop} {x bd:Int}:∀(l:List Int) {q:QS},(∀t∈l,P ⟨x,t⟩)->(∀m∈q.bs,∀y∈m,P y)->∀m∈(readyQ x bd q l).bs,∀y∈m,P y
  |[],_,_,h=>h
  |t::l,q,hl,h=>ready_mem l (q:=pushQ q ⟨x,t⟩ bd) (fun y hy=>hl y (List.mem_cons_of_mem _ hy)) (pushQ_mem (hl t List.mem_cons_self) h)
theorem idx_in' {y:Int}:∀{s:List Int} {k:Nat} {z:Int},z∈idxOf y k s->(k:Int)<=z/\z<((k+s.length:Nat):Int)
  |[],_,_,h=>by cases h
  |x::s,k,z,h=>by
    unfold idxOf at h
    rcases List.mem_append.1 h with h|h
    · split at h
      · rw [List.mem_singleton.1 h];simp only [List.length_cons];omega
      · cases h
    · exact (by have:=idx_in' h;simp only [List.length_cons];omega)
theorem shape_add {l:List JS} {k:Nat} {j':JS} {r:Ref} (hj:∀j,l[k]?=some j->j.added=false) (h:RefOk (shapeF l) r):RefOk (shapeF (l.set k j')) r:=by
  obtain ⟨h1,h2,h3,n,hn,h4⟩:=h
  refine ⟨h1,h2,h3,n,?_,h4⟩
  unfold shapeF at*
  rw [List.map_set,List.getElem?_set]
  by_cases e:k=r.job.toNat
  · rw [List.getElem?_map] at hn
    cases hq:l[r.job.toNat]? with
    |none=>rw [hq] at hn;cases hn
    |some j=>rw [hq] at hn;have:=hj j (by rw [e];exact hq);have h5:=(Prod.mk.inj (Option.some.inj hn)).1;rw [this] at h5;cases h5
  · rw [if_neg e];exact hn
theorem add_ok {F:FS} {K x bd:Int} {l:List Task} (h:FW F K) (hx:0<=x/\x<64) (hj:∀j,F.jobs[x.toNat]?=some j->j.added=false) (hb:0<=bd/\bd<4) (hv:validC l=0):FW (addF F x l bd) K:=by
 have hW:=new_wf hv
 have hz:=validC_zero hv
 have hO:JobOk K (jobN l bd):=⟨by simp only [jobN,List.length_map];have:=hz.2.1;omega,fun _=>⟨hW.mono h.k.1,by simp [jobN,newB],hb⟩,fun _=>rfl⟩
 have hm:∀r,RefOk (shapeF F.jobs) r->RefOk (shapeF (F.jobs.set x.toNat (jobN l bd))) r:=fun r hr=>shape_add hj hr
 refine ⟨h.n,h.al,h.dl,by simp only [addF,List.length_set];exact h.jl,h.k,mem_set' h.j hO,?_,?_,?_⟩
 ·intro v hv;have:=h.w v hv;exact ⟨this.h,this.r,fun k=>hm _ (this.t k)⟩
 ·intro d hd r hr;exact hm _ (h.d d hd r hr)
 ·refine ready_mem _ ?_ (fun m a0 y hy=>hm _ (h.q m a0 y hy))
  intro t ht
  have h1:=idx_in' ht
  have h2:(newB l).st.length=l.length:=by simp [newB]
  refine ⟨hx.1,hx.2,by dsimp only;omega,l.length,?_,by dsimp only;omega⟩
  show ((F.jobs.set x.toNat (jobN l bd)).map (fun j=>(j.added,j.tasks.length)))[x.toNat]?=_
  have h3:x.toNat<F.jobs.length:=by rw [h.jl];omega
  rw [List.getElem?_map,List.getElem?_set,if_pos rfl,if_pos h3]
  simp [jobN]
end Go.Proofs.YtkadmghedmodbaaGreat

namespace Go.Proofs.YtkadmghedmodbaaGreat
open Go Go.E Go.Proofs.Tryz
set_option linter.all false
set_option maxRecDepth 100000
set_option maxHeartbeats 2000000
variable {W w:World} {H:Chunk} {F:List Chunk}
theorem mod_inj {t a b n:Nat} (ha:a<n) (hb:b<n) (ht:t<n) (h:(t+a)%n=(t+b)%n):a=b:=by
  have f:∀x,x<n->(t+x)%n=if t+x<n then t+x else t+x-n:=by
    intro x hx
    split
    · rename_i h1;exact Nat.mod_eq_of_lt h1
    · rename_i h1;rw [Nat.mod_eq_sub_mod (by omega),Nat.mod_eq_of_lt (by omega)]
  rw [f a ha,f b hb] at h
  split at h<;>split at h<;>omega
def Ring (r:List Ref) (t:Nat) (l:List Ref):Prop:=t<r.length/\l.length<=r.length/\∀i,i<l.length->r[(t+i)%r.length]?=l[i]?
theorem Ring.at {r:List Ref} {t i:Nat} {l:List Ref} {x:Ref} (h:Ring r t l) (hi:i<l.length) (hx:r[(t+i)%r.length]?=some x):l[i]?=some x:=(h.2.2 i hi).symm.trans hx
theorem Ring.push {r:List Ref} {t:Nat} {l:List Ref} {x:Ref} (h:Ring r t l) (hl:l.length<r.length):Ring (r.set ((t+l.length)%r.length) x) t (l++[x]):=by
 refine ⟨by rw [List.length_set];exact h.1,by rw [List.length_set,List.length_append,List.length_singleton];omega,?_⟩
 intro i hi
 rw [List.length_append,List.length_singleton] at hi
 rw [List.length_set,List.getElem?_set]
 by_cases e:i=l.length
 · exact (by subst e;rw [if_pos rfl,if_pos (Nat.mod_lt _ om),List.getElem?_append_right (Nat.le_refl _),Nat.sub_self];rfl)
 · exact (by rw [if_neg (fun q=>e (mod_inj om om h.1 q.symm)),List.getElem?_append_left om];exact h.2.2 i om)
theorem Ring.pop {r:List Ref} {t:Nat} {l:List Ref} (h:Ring r t l):Ring r t l.dropLast:=by
  refine ⟨h.1,by rw [List.length_dropLast];have:=h.2.1;omega,?_⟩
  intro i hi
  rw [List.length_dropLast] at hi
  rw [List.dropLast_eq_take,List.getElem?_take,if_pos hi]
  exact h.2.2 i (by omega)
theorem Ring.nil {r:List Ref} {t:Nat} (h:t<r.length):Ring r t []:=⟨h,Nat.zero_le _,fun i hi=>absurd hi (Nat.not_lt_zero i)⟩
def RemI (r:List Ref) (t:Nat) (l:List Ref) (j:Int) (i:Nat):Prop:=t<r.length/\l.length<=r.length/\(∀q,q<(without j (l.take i)).length->r[(t+q)%r.length]?=(without j (l.take i))[q]?)/\∀q,i<=q->q<l.length->r[(t+q)%r.length]?=l[q]?
theorem Ring.rem {r:List Ref} {t:Nat} {l:List Ref} {j:Int} (h:Ring r t l):RemI r t l j 0:=⟨h.1,h.2.1,fun q hq=>by simp [without] at hq,fun q _ hq=>h.2.2 q hq⟩
theorem RemI.at {r:List Ref} {t i:Nat} {l:List Ref} {j:Int} {x:Ref} (h:RemI r t l j i) (hi:i<l.length) (hx:r[(t+i)%r.length]?=some x):l[i]?=some x:=(h.2.2.2 i (Nat.le_refl _) hi).symm.trans hx
theorem without_snoc {l:List Ref} {i:Nat} {j:Int} {x:Ref} (h:l[i]?=some x) (hj:x.job≠j):without j (l.take (i+1))=without j (l.take i)++[x]:=(without_y rfl h hj).symm
theorem without_same {l:List Ref} {i:Nat} {j:Int} {x:Ref} (h:l[i]?=some x) (hj:x.job=j):without j (l.take (i+1))=without j (l.take i):=(without_n rfl h hj).symm
theorem RemI.keep {r:List Ref} {t i:Nat} {l:List Ref} {j:Int} {x:Ref} (h:RemI r t l j i) (hx:l[i]?=some x) (hj:x.job≠j):RemI (r.set ((t+(without j (l.take i)).length)%r.length) x) t l j (i+1):=by
 obtain ⟨h1,h2,h3,h4⟩:=h
 have hi:=(List.getElem?_eq_some_iff.1 hx).1
 have hk:(without j (l.take i)).length<=i:=by have:=without_len j (l.take i);rw [List.length_take] at this;omega
 refine ⟨by rw [List.length_set];exact h1,by rw [List.length_set];exact h2,?_,?_⟩
 ·rw [without_snoc hx hj]
  intro q hq
  rw [List.length_append,List.length_singleton] at hq
  rw [List.length_set,List.getElem?_set]
  by_cases e:q=(without j (l.take i)).length
  · exact (by subst e;rw [if_pos rfl,if_pos (Nat.mod_lt _ om),List.getElem?_append_right (Nat.le_refl _),Nat.sub_self];rfl)
  · exact (by rw [if_neg (fun z=>e (mod_inj om om h1 z.symm)),List.getElem?_append_left om];exact h3 q om)
 · exact (by intro q hq hl;rw [List.length_set,List.getElem?_set,if_neg (fun z=>by have:=mod_inj om om h1 z;omega)];exact h4 q om hl)
theorem RemI.drop {r:List Ref} {t i:Nat} {l:List Ref} {j:Int} {x:Ref} (h:RemI r t l j i) (hx:l[i]?=some x) (hj:x.job=j):RemI r t l j (i+1):=by
  obtain ⟨h1,h2,h3,h4⟩:=h
  exact ⟨h1,h2,by rw [without_same hx hj];exact h3,fun q hq hl=>h4 q (by omega) hl⟩
end Go.Proofs.YtkadmghedmodbaaGreat
