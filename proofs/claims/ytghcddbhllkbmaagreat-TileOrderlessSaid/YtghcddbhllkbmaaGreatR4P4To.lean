import Derived.Test.YtghcddbhllkbmaaGreatR4P4TGen
import Derived.Test.YtghcddbhllkbmaaGreatR4P4Rv
import Derived.Test.YtghcddbhllkbmaaGreatR4P4Lu
namespace Go.Proofs.YtghcddbhllkbmaaGreat
open Go Go.E Go.Proofs.Tryz
set_option linter.all false
set_option maxRecDepth 100000
set_option maxHeartbeats 2000000
variable {W w:World} {H:Chunk} {F:List Chunk}
theorem ord_outs {I:List PlaneV} {S:List StageV} {O:List Int} {p:Int} (h1:chkCode ⟨I,S,O,p⟩=0) (h2:chkCode (jobOf I S p)=0):ordV ⟨I,S,O,p⟩=ordV (jobOf I S p):=by
  unfold ordV
  rw [if_pos h1,if_pos h2];rfl
theorem good_chk {I:List PlaneV} {S:List StageV} {O:List Int} {p:Int} (h:Good I S p) (h1:1<=S.length) (hO:1<=O.length/\O.length<=2) (hr:inR ((I.length:Nat)+(S.length:Nat)) O=true):chkCode ⟨I,S,O,p⟩=0:=by
  unfold chkCode
  dsimp only
  have hn:=h.ni;have hs:=h.ns;have hp:=h.pr
  rw [if_pos (by omega),if_pos hp,if_pos,if_pos hr]
  rw [List.all_eq_true]
  intro s a0
  obtain ⟨m,hm⟩:=List.getElem?_of_mem a0
  unfold inR
  rw [List.all_eq_true]
  intro x hx
  have:=h.od m s hm x hx
  have b0:m<S.length:=(List.getElem?_eq_some_iff.1 hm).1
  exact decide_eq_true (by omega)
theorem shp_outs {I:List PlaneV} {S:List StageV} {O:List Int} {p:Int} {l:List Shape} (h:Good I S p) (hr:runS (I.map shpOf) S=some l) (h1:1<=S.length) (hO:1<=O.length/\O.length<=2) (hi:inR ((I.length:Nat)+(S.length:Nat)) O=true):shpV ⟨I,S,O,p⟩=(l,0,0):=by
  have c1:=good_chk h h1 hO hi
  have c2:=good_chk (O:=[0]) h h1 (by simp) (by unfold inR;simp;have:=h.ni;omega)
  have e:=(shp_run h h1).1 l hr
  have eo:=ord_outs c1 c2
  unfold shpV at e⊢
  rw [eo]
  exact e
theorem runS_pre:∀(S:List StageV) (out l:List Shape),runS out S=some l->∃z,l=out++z
  |[],out,l,h=>by simp only [runS,Option.some.injEq] at h;exact ⟨[],by simp [h]⟩
  |s::S,out,l,h=>by
    rw [runS] at h
    split at h
    · exact (by obtain ⟨z,hz⟩:=runS_pre S _ l h;exact ⟨_,by rw [hz,List.append_assoc]⟩)
    · cases h
theorem runS_len:∀(S:List StageV) (out l:List Shape),runS out S=some l->l.length=out.length+S.length
  |[],out,l,h=>by simp only [runS,Option.some.injEq] at h;subst h;simp
  |s::S,out,l,h=>by
    rw [runS] at h
    split at h
    · rw [runS_len S _ l h];simp;omega
    · cases h
theorem runS_at:∀(S:List StageV) (out l:List Shape) (m:Nat) (s:StageV),runS out S=some l->S[m]?=some s->∃cur z,cur.length=out.length+m/\l=cur++z/\(stOf cur s).2=0/\l[out.length+m]?=some (stOf cur s).1
 |s::S,out,l,0,t,h,hm=>by
  obtain rfl:s=t:=by simpa using hm
  rw [runS] at h
  split at h
  · exact (by rename_i hc;obtain ⟨z,hz⟩:=runS_pre S _ l h;refine ⟨out,(stOf out s).1::z,rfl,by rw [hz,List.append_assoc];rfl,hc,?_⟩;rw [hz,List.append_assoc,Nat.add_zero,List.getElem?_append_right (Nat.le_refl _),Nat.sub_self];rfl)
  ·cases h
 |s::S,out,l,m+1,t,h,hm=>by
  rw [runS] at h
  split at h
  · exact (by obtain ⟨cur,z,h1,h2,h3,h4⟩:=runS_at S _ l m t h (by simpa using hm);rw [List.length_append,List.length_singleton] at h1 h4;exact ⟨cur,z,om,h2,h3,by rw [show out.length+(m+1)=out.length+1+m by omega];exact h4⟩)
  ·cases h
theorem runsIn {I:List PlaneV} {S:List StageV} {l:List Shape} {i:Nat} {z:PlaneV} {x:Shape} (hr:runS (I.map shpOf) S=some l) (hz:I[i]?=some z) (hx:l[i]?=some x):x=shpOf z:=by
  obtain ⟨y,rfl⟩:=runS_pre _ _ _ hr
  have hi:=(List.getElem?_eq_some_iff.1 hz).1
  rw [List.getElem?_append_left (by rw [List.length_map];exact hi),List.getElem?_map,hz] at hx
  exact (Option.some.inj hx).symm
theorem run_st {I:List PlaneV} {S:List StageV} {p:Int} {l:List Shape} {m k:Nat} {s:StageV} {x:Shape} (h:Good I S p) (hr:runS (I.map shpOf) S=some l) (hs:S[m]?=some s) (hx:l[k]?=some x) (hk:k=I.length+m):ofV s (shpAt l s.a) (if twoP s then shpAt l s.b else ⟨0,0,0⟩)=(x,0):=by
 subst hk
 obtain ⟨a0,z,h1,h2,h3,h4⟩:=runS_at S _ l m s hr hs
 rw [List.length_map] at h1 h4
 rw [hx] at h4
 have ha:=h.od m s hs s.a (by unfold srcs;split<;>simp)
 have e1:shpAt l s.a=shpAt a0 s.a:=by rw [h2];exact shpAt_app ha.1 om
 have e2:(if twoP s then shpAt l s.b else ⟨0,0,0⟩)=(if twoP s then shpAt a0 s.b else ⟨0,0,0⟩):=by
  by_cases ht:twoP s
  · exact (by rw [if_pos ht,if_pos ht,h2];have hb:=h.od m s hs s.b (by unfold srcs;rw [if_pos ht];simp);exact shpAt_app hb.1 om)
  ·rw [if_neg ht,if_neg ht]
 rw [e1,e2]
 show stOf a0 s=_
 rw [Option.some.inj h4,<-h3]
theorem of_small {q:StageV} {s t x:Shape} (h:ofV q s t=(x,0)) (hs:s.w*s.h<=128) (hx:q.x.length<=6) (hy:q.y.length<=6):x.w*x.h<=128:=by
 have hk:∀z,kernelV q s t=(z,0)->z.w*z.h<=128:=by
  intro z hz
  unfold kernelV at hz
  by_cases h1:q.kind=1
  ·rw [if_pos h1] at hz;rw [<-(Prod.mk.inj hz).1];exact hs
  rw [if_neg h1] at hz
  by_cases h2:q.kind=2
  ·rw [if_pos h2] at hz;rw [<-(Prod.mk.inj hz).1];exact hs
  rw [if_neg h2] at hz
  refine bD (q.kind=3) (fun h3=>(by rw [if_pos h3] at hz;rw [<-(Prod.mk.inj hz).1];have:=mul_bd (a:=(q.x.length:Int)) (b:=q.y.length) (A:=6) (B:=6) om om;dsimp only;omega)) fun h3=>?_
  rw [if_neg h3] at hz
  by_cases h4:q.kind=4
  ·rw [if_pos h4] at hz
   split at hz
   ·rw [<-(Prod.mk.inj hz).1];dsimp only;omega
   ·exact absurd (Prod.mk.inj hz).2 om
  rw [if_neg h4] at hz
  by_cases h5:q.kind=5
  ·rw [if_pos h5] at hz
   split at hz<;>(rw [<-(Prod.mk.inj hz).1];exact hs)
  rw [if_neg h5] at hz
  split at hz
  ·split at hz<;>(rw [<-(Prod.mk.inj hz).1];exact hs)
  ·rw [<-(Prod.mk.inj hz).1];exact hs
 unfold ofV at h
 split at h
 ·split at h
  ·split at h
   ·split at h
    ·rename_i h0;exact hk x (by rw [<-(Prod.mk.inj h).1,<-h0])
    ·rename_i h0;exact absurd (Prod.mk.inj h).2 h0
   ·exact absurd (Prod.mk.inj h).2 om
  ·exact absurd (Prod.mk.inj h).2 om
 ·exact absurd (Prod.mk.inj h).2 om
theorem made_small {I:List PlaneV} {S:List StageV} {p:Int} {l:List Shape} (h:Good I S p) (hr:runS (I.map shpOf) S=some l) (hI:∀z∈I,z.pix.length<=64) (hS:∀s∈S,s.x.length<=6/\s.y.length<=6):
  ∀(b k:Nat),k<=b->∀x:Shape,l[k]?=some x->x.w*x.h<=128:=by
 intro b
 induction b with
 |zero=>
  intro k hk x hx
  have h1:=h.ni
  obtain ⟨z,hz⟩:∃z,I[k]?=some z:=⟨_,List.getElem?_eq_getElem om⟩
  rw [runsIn hr hz hx]
  have hp:=List.all_eq_true.1 h.pl z (List.mem_of_getElem? hz)
  unfold planeOK at hp
  rw [Bool.and_eq_true] at hp
  have h2:=(of_decide_eq_true hp.1).2
  have:=hI z (List.mem_of_getElem? hz)
  show z.w*z.h<=128
  omega
 |succ b ih=>
  intro k b0 x hx
  by_cases hk:k<I.length
  · exact (by obtain ⟨z,hz⟩:∃z,I[k]?=some z:=⟨_,List.getElem?_eq_getElem hk⟩;rw [runsIn hr hz hx];have hp:=List.all_eq_true.1 h.pl z (List.mem_of_getElem? hz);unfold planeOK at hp;rw [Bool.and_eq_true] at hp;have h2:=(of_decide_eq_true hp.1).2;have:=hI z (List.mem_of_getElem? hz);show z.w*z.h<=128;omega)
  · exact (by have hl:=runS_len S _ l hr;rw [List.length_map] at hl;have c0:=(List.getElem?_eq_some_iff.1 hx).1;obtain ⟨s,hs⟩:∃s,S[k-I.length]?=some s:=⟨_,List.getElem?_eq_getElem om⟩;have ho:=run_st h hr hs hx om;have ha:=h.od _ s hs s.a (by unfold srcs;split<;>simp);have a0:=hS s (List.mem_of_getElem? hs);obtain ⟨y,hy⟩:∃y,l[s.a.toNat]?=some y:=⟨_,List.getElem?_eq_getElem om⟩;have hi:=ih s.a.toNat om y hy;refine of_small ho ?_ a0.1 a0.2;have e:shpAt l s.a=y:=(by unfold shpAt;rw [hy];rfl);rw [e];exact hi)
theorem ceil_le {a b:Int} (ha:1<=a) (hb:1<=b):ceilV a b<=a:=by
  unfold ceilV
  rw [if_pos (by omega)]
  have h1:=Int.emod_def a b
  have h2:=Int.emod_nonneg a (show b≠0 by omega)
  have h4:0<=a/b:=Int.ediv_nonneg (by omega) (by omega)
  have h5:a/b<=b*(a/b):=(by have:=Int.mul_le_mul_of_nonneg_right hb h4;omega)
  split<;>omega
theorem made_cnt {L:Lay} (g:LayG L) (hs:∀x:Int,0<=x->x<L.ni+(L.ss.length:Int)->(shpAt L.sh x).w*(shpAt L.sh x).h<=128) {n:Int} (hn:n∈L.od):L.cnt n<=129:=by
 have hf:=g.fine hn
 have hc:(L.cut n).w*(L.cut n).h<=128:=by
  unfold Lay.cut
  have hr:=g.rng n hn
  have a0:=g.ni
  split
  ·have:=g.src hn _ (a_src _);exact hs _ this.1 this.2.1
  ·exact hs _ om hr.2
 have hg:=g.grid hn
 have h1:L.nx n<=(L.cut n).w:=by unfold Lay.nx colsN;rw [if_pos hf];exact ceil_le hf.1.1 hf.2.2.1.1
 have h2:L.ny n<=(L.cut n).h:=by unfold Lay.ny rowsN;rw [if_pos hf];exact ceil_le hf.2.1.1 hf.2.2.2.1
 have h3:L.nx n*L.ny n<=(L.cut n).w*(L.cut n).h:=Int.mul_le_mul h1 h2 om (by have:=hf.1.1;omega)
 unfold Lay.cnt
 split<;>omega
theorem sum_le {f:Int->Int} {c:Int}:∀l:List Int,(∀x∈l,f x<=c)->(l.map f).sum<=c*l.length
  |[],_=>by simp
  |x::l,h=>by
    have h1:=sum_le l (fun y hy=>h y (by simp [hy]))
    have h2:=h x (by simp)
    simp only [List.map_cons,List.sum_cons,List.length_cons]
    rw [show c*((l.length+1:Nat):Int)=c*l.length+c by push_cast;rw [Int.mul_add,Int.mul_one]]
    omega
structure MadeL (j:JobV) (tw th:Int):Prop where
  z:lowC j tw th=0
  v:lowV j tw th=(layV j tw th).all
  g:LayG (layV j tw th)
  c:∀n∈(layV j tw th).od,(layV j tw th).cnt n<=129
  s:j.stages.length<=4/\1<=j.stages.length
  t:(layV j tw th).total<=516
theorem made_low {j:JobV} {l:List Shape} (h:Good j.inputs j.stages j.priority) (hr:runS (j.inputs.map shpOf) j.stages=some l) (hI:∀z∈j.inputs,z.pix.length<=64) (hS:∀s∈j.stages,s.x.length<=6/\s.y.length<=6)
  (h1:1<=j.stages.length/\j.stages.length<=4) (hO:1<=j.outputs.length/\j.outputs.length<=2) (hi:inR ((j.inputs.length:Nat)+(j.stages.length:Nat)) j.outputs=true) {tw th:Int} (ht:tileP tw th):MadeL j tw th:=by
 have hv:shpV j=(l,0,0):=shp_outs h hr h1.1 hO hi
 have hg:LayG (layV j tw th):=lay_ok (shp_ok (by rw [hv])) ht
 have b0:=runS_len j.stages _ l hr
 rw [List.length_map] at b0
 have hc:∀n∈(layV j tw th).od,(layV j tw th).cnt n<=129:=(by intro n hn;refine made_cnt hg ?_ hn;intro x h0 h2;have c0:x<(j.inputs.length:Int)+j.stages.length:=h2;obtain ⟨y,hy⟩:∃y,l[x.toNat]?=some y:=⟨_,List.getElem?_eq_getElem om⟩;have e:shpAt (layV j tw th).sh x=y:=(by unfold shpAt layV;dsimp only;rw [hv];dsimp only;rw [hy];rfl);rw [e];exact made_small h hr hI hS x.toNat x.toNat (Nat.le_refl _) y hy)
 have a0:(layV j tw th).total<=516:=(by have h2:=sum_le (layV j tw th).od hc;have h3:(layV j tw th).od.length=j.stages.length:=hg.ln;unfold Lay.total;omega)
 have hz:lowC j tw th=0:=by unfold lowC;rw [if_pos (by rw [hv]),if_pos ht,if_pos om]
 exact ⟨hz,by unfold lowV;rw [if_pos hz],hg,hc,⟨h1.2,h1.1⟩,a0⟩
theorem flat_at {α:Type} {f:Int->List α}:∀(l:List Int) (i:Nat) (z:α),(l.flatMap f)[i]?=some z->∃p x q j,l=p++x::q/\(f x)[j]?=some z/\i=(p.flatMap f).length+j
  |[],i,z,h=>by simp at h
  |x::l,i,z,h=>by
    rw [List.flatMap_cons] at h
    by_cases hi:i<(f x).length
    · exact (by rw [List.getElem?_append_left hi] at h;exact ⟨[],x,l,i,rfl,h,by simp⟩)
    · exact (by rw [List.getElem?_append_right (by omega)] at h;obtain ⟨p,y,q,j,e,hz,hj⟩:=flat_at l _ z h;exact ⟨x::p,y,q,j,by rw [e];rfl,hz,by rw [List.flatMap_cons,List.length_append];omega⟩)
theorem flat_get {α:Type} {f:Int->List α} {p q:List Int} {x:Int} {j:Nat} {z:α} (h:(f x)[j]?=some z):((p++x::q).flatMap f)[(p.flatMap f).length+j]?=some z:=by
  rw [List.flatMap_append,List.getElem?_append_right (by omega),List.flatMap_cons,List.getElem?_append_left (by have:=(List.getElem?_eq_some_iff.1 h).1;omega)]
  rw [show (p.flatMap f).length+j-(p.flatMap f).length=j by omega];exact h
section
variable {L:Lay} (g:LayG L)
include g
theorem pre_len {p q:List Int} {x:Int} (e:L.od=p++x::q):((p.flatMap L.tasks).length:Int)=L.first x:=by
  rw [tasks_sum g p (fun y hy=>by rw [e];simp [hy]),(g.first_at e).1]
theorem all_at {i:Nat} {z:TaskV} (h:L.all[i]?=some z):∃n j,n∈L.od/\(L.tasks n)[j]?=some z/\(i:Int)=L.first n+(j:Nat):=by
  obtain ⟨p,x,q,j,e,hz,hj⟩:=flat_at _ _ _ h
  exact ⟨x,j,by rw [e];simp,hz,(by have:=pre_len g e;omega)⟩
theorem at_all {n:Int} {j:Nat} {z:TaskV} (hn:n∈L.od) (h:(L.tasks n)[j]?=some z):L.all[(L.first n+(j:Nat)).toNat]?=some z:=by
  obtain ⟨p,q,e⟩:=List.append_of_mem hn
  have hp:=pre_len g e
  have hf:=flat_get (f:=L.tasks) (p:=p) (q:=q) h
  rw [<-e] at hf
  rw [show (L.first n+(j:Int)).toNat=(p.flatMap L.tasks).length+j by omega]
  exact hf
theorem tasks_at {n:Int} {j:Nat} {z:TaskV} (hn:n∈L.od) (h:(L.tasks n)[j]?=some z):((j:Int)<L.nx n*L.ny n/\z=L.tileT n j)\/((L.st n).kind=4/\(j:Int)=L.nx n*L.ny n/\z=L.mergeT n):=by
 have hg:=(g.grid hn).2.2
 unfold Lay.tasks at h
 by_cases hj:j<(L.nx n*L.ny n).toNat
 ·rw [List.getElem?_append_left (by rw [List.length_map,upto_len];exact hj)] at h
  left
  refine ⟨om,?_⟩
  rw [List.getElem?_map] at h
  have hu:(uptoV (L.nx n*L.ny n).toNat)[j]?=some (j:Int):=by unfold uptoV;rw [List.getElem?_map,List.getElem?_range hj];rfl
  rw [hu] at h
  exact (Option.some.inj h).symm
 ·rw [List.getElem?_append_right (by rw [List.length_map,upto_len];omega),List.length_map,upto_len] at h
  by_cases hk:(L.st n).kind=4
  · exact (by rw [if_pos hk] at h;have hl:=(List.getElem?_eq_some_iff.1 h).1;simp only [List.length_singleton] at hl;have e:j-(L.nx n*L.ny n).toNat=0:=(by omega);rw [e] at h;exact .inr ⟨hk,om,(Option.some.inj h).symm⟩)
  ·rw [if_neg hk] at h;simp at h
theorem at_tasks {n:Int} {j:Int} (hn:n∈L.od) (h0:0<=j) (h:j<L.cnt n):∃z,(L.tasks n)[j.toNat]?=some z/\z.stage=n:=by
  have hl:=tasks_len g hn
  obtain ⟨z,hz⟩:∃z,(L.tasks n)[j.toNat]?=some z:=⟨_,List.getElem?_eq_getElem (by omega)⟩
  refine ⟨z,hz,?_⟩
  rcases tasks_at g hn hz with ⟨_,rfl⟩|⟨_,_,rfl⟩<;>rfl
theorem stage_at {n k:Int} {z:TaskV} (hn:n∈L.od) (h0:0<=k) (h:k<L.cnt n) (hz:L.all[(L.first n+k).toNat]?=some z):z.stage=n:=by
  obtain ⟨y,hy,hs⟩:=at_tasks g hn h0 h
  have:=at_all g hn hy
  rw [show (k.toNat:Int)=k by omega,hz] at this
  rw [Option.some.inj this];exact hs
theorem dep_src {s:StageV} {r:Rct} {x d:Int} (hx:x<L.ni\/x∈L.od) (h:d∈L.srcDeps s r x):x∈L.od/\∃k,0<=k/\k<L.cnt x/\d=L.first x+k:=by
 unfold Lay.srcDeps at h
 split at h
 ·simp at h
 rename_i hni
 have a0:x∈L.od:=by rcases hx with h1|h1;exact absurd h1 hni;exact h1
 refine ⟨a0,?_⟩
 have d0:=g.cntb a0
 split at h
 · exact (by obtain ⟨k,hk,rfl⟩:=List.mem_map.1 h;rw [mem_upto] at hk;exact ⟨k,hk.1,om,rfl⟩)
 split at h
 · exact (by simp only [List.mem_singleton] at h;exact ⟨L.cnt x-1,om,om,om⟩)
 rename_i hk4
 obtain ⟨k,hk,rfl⟩:=List.mem_map.1 h
 have hk:=(List.mem_filter.1 hk).1
 rw [mem_upto] at hk
 refine ⟨k,hk.1,?_,rfl⟩
 have e0:=(g.grid a0).2.2
 have b0:L.nx x=colsN (shpAt L.sh x).w (shpAt L.sh x).h L.tw L.th:=by unfold Lay.nx Lay.cut;rw [if_neg hk4]
 have c0:L.ny x=rowsN (shpAt L.sh x).w (shpAt L.sh x).h L.tw L.th:=by unfold Lay.ny Lay.cut;rw [if_neg hk4]
 unfold Lay.cnt
 rw [if_neg hk4]
 unfold tilN at hk
 rw [<-b0,<-c0] at hk
 omega
theorem src_first {n y:Int} (hn:n∈L.od) (hy:y∈srcs (L.st n)) (hyo:y∈L.od):L.first y+L.cnt y<=L.first n:=by
  obtain ⟨p,q,e⟩:=List.append_of_mem hn
  have hb:=g.bef p n q e y hy
  have a0:y∈p:=by
    rcases hb.2 with h|h
    · have:=g.rng y hyo;omega
    · exact h
  obtain ⟨p1,p2,e1⟩:=List.append_of_mem a0
  have e2:L.od=p1++y::(p2++n::q):=by rw [e,e1];simp
  rw [(g.first_at e).1,(g.first_at e2).1,e1]
  have b0:0<=(p2.map L.cnt).sum:=sum_nn _ (fun x hx=>by have:=g.cntb (show x∈L.od by rw [e,e1];simp [hx]);omega)
  simp only [List.map_append,List.map_cons,List.sum_append,List.sum_cons]
  omega
end
section
variable {L:Lay} (g:LayG L)
include g
theorem all_st {i:Nat} {z:TaskV} (h:L.all[i]?=some z):z.stage∈L.od/\∃j:Nat,(L.tasks z.stage)[j]?=some z/\(i:Int)=L.first z.stage+(j:Nat):=by
  obtain ⟨n,j,hn,hz,hi⟩:=all_at g h
  have e:z.stage=n:=by rcases tasks_at g hn hz with ⟨_,rfl⟩|⟨_,_,rfl⟩<;>rfl
  rw [e];exact ⟨hn,j,hz,hi⟩
theorem all_get {n k:Int} (hn:n∈L.od) (h0:0<=k) (h:k<L.cnt n):∃y,L.all[(L.first n+k).toNat]?=some y/\y.stage=n:=by
  obtain ⟨y,hy,hs⟩:=at_tasks g hn h0 h
  exact ⟨y,(by have:=at_all g hn hy;rw [show (k.toNat:Int)=k by omega] at this;exact this),hs⟩
theorem needs_src {n d:Int} (hn:n∈L.od) {r:Rct} (h:d∈L.needs (L.st n) r):∃y k,y∈srcs (L.st n)/\y∈L.od/\0<=k/\k<L.cnt y/\d=L.first y+k:=by
  unfold Lay.needs at h
  obtain ⟨y,hy,hd⟩:=List.mem_flatMap.1 h
  obtain ⟨a0,k,h1,h2,h3⟩:=dep_src g (g.src hn y hy).2.2 hd
  exact ⟨y,k,hy,a0,h1,h2,h3⟩
theorem own_at {n j d:Int} (hn:n∈L.od) (hj:0<=j/\j<L.nx n*L.ny n) (h:d∈L.own n j):(L.st n).kind=5/\∃k,0<=k/\k<j/\d=L.first n+k:=by
 unfold Lay.own at h
 split at h
 ·rename_i h5
  refine ⟨h5,?_⟩
  have hg:=(g.grid hn).1
  rcases List.mem_append.1 h with h|h
  ·split at h
   ·rename_i hm
    have a0:0<j:=by
     rcases Int.lt_or_eq_of_le hj.1 with h0|h0
     ·exact h0
     ·rw [<-h0] at hm;simp at hm
    simp only [List.mem_singleton] at h
    exact ⟨j-1,om,om,om⟩
   ·simp at h
  ·split at h
   · exact (by simp only [List.mem_singleton] at h;exact ⟨j-L.nx n,om,om,om⟩)
   ·simp at h
 ·simp at h
theorem dep_ok {i:Nat} {z:TaskV} {d:Int} (h:L.all[i]?=some z) (hd:d∈z.deps):
  (0<=d/\d<(i:Int))/\∃y,L.all[d.toNat]?=some y/\((y.stage=z.stage/\((L.st z.stage).kind=5\/z.part=2))\/y.stage=(L.st z.stage).a\/((L.st z.stage).kind=6/\y.stage=(L.st z.stage).b)):=by
 obtain ⟨hn,j,hz,hi⟩:=all_st g h
 generalize z.stage=n at hn hz hi⊢
 have e0:=g.firstb hn
 have f0:=(g.grid hn).2.2
 rcases tasks_at g hn hz with ⟨hj,rfl⟩|⟨h4,hj,rfl⟩
 ·have b0:d∈L.needs (L.st n) (L.tile n j)++L.own n j:=mem_canon.1 hd
  rcases List.mem_append.1 b0 with h1|h1
  ·obtain ⟨y,k,hy,c0,h0,hk,rfl⟩:=needs_src g hn h1
   have hs:=src_first g hn hy c0
   have hb:=g.firstb c0
   obtain ⟨t,ht,a0⟩:=all_get g c0 h0 hk
   refine ⟨om,t,ht,?_⟩
   rw [a0]
   unfold srcs at hy
   split at hy
   ·rename_i h2
    simp only [List.mem_cons,List.not_mem_nil,or_false] at hy
    rcases hy with e|e
    ·exact .inr (.inl e)
    ·exact .inr (.inr ⟨h2.1,e⟩)
   · exact (by simp only [List.mem_singleton] at hy;exact .inr (.inl hy))
  · exact (by obtain ⟨h5,k,h0,hk,rfl⟩:=own_at g hn ⟨om,hj⟩ h1;have d0:L.cnt n=L.nx n*L.ny n:=(by unfold Lay.cnt;rw [if_neg om]);obtain ⟨t,ht,a0⟩:=all_get g hn h0 om;exact ⟨om,t,ht, .inl ⟨a0, .inl h5⟩⟩)
 · exact (by have b0:d∈(uptoV (L.nx n*L.ny n).toNat).map (L.first n+·):=mem_canon.1 hd;obtain ⟨k,hk,rfl⟩:=List.mem_map.1 b0;rw [mem_upto] at hk;have d0:L.cnt n=L.nx n*L.ny n+1:=(by unfold Lay.cnt;rw [if_pos h4]);obtain ⟨t,ht,a0⟩:=all_get g hn hk.1 om;exact ⟨om,t,ht, .inl ⟨a0, .inr rfl⟩⟩)
theorem dep_asc {i:Nat} {z:TaskV} (h:L.all[i]?=some z):Asc z.deps:=by
  obtain ⟨hn,j,hz,hi⟩:=all_st g h
  rcases tasks_at g hn hz with ⟨_,e⟩|⟨_,_,e⟩<;>(rw [e];exact asc_canon _)
end
section
variable {L:Lay} (g:LayG L)
include g
end
section
variable {j:JobV} {p q:PlaneV} {s:StageV} (hj:j.inputs=[p,q]) (hs:j.stages=[s]) (hz:(shpV j).2.2=0)
include hj hs hz
variable (ha:s.a=0) (hb:twoP s->s.b=1)
include ha hb
variable {tw th:Int}
end
theorem of_k {s:StageV} {x y:Shape} (h:(ofV s x y).2=0):(ofV s x y).1=(kernelV s x y).1/\(kernelV s x y).2=0:=by
  unfold ofV at h⊢
  by_cases h1:fieldsP s
  · rw [if_pos h1] at h⊢
    by_cases h2:szP x/\(¬twoP s\/szP y)
    · rw [if_pos h2] at h⊢
      by_cases h3:¬(s.kind=1\/s.kind=2\/s.kind=3)\/edgeP s x.max_
      · rw [if_pos h3] at h⊢
        by_cases h4:(kernelV s x y).2=0
        · rw [if_pos h4];exact ⟨rfl,h4⟩
        · rw [if_neg h4] at h;exact absurd h h4
      · rw [if_neg h3] at h;exact absurd h (by decide)
    · rw [if_neg h2] at h;exact absurd h (by decide)
  · rw [if_neg h1] at h;exact absurd h (by decide)
section
variable (s:StageV) (p q:PlaneV) (tw th:Int)
end
section
variable {s:StageV} {p q own:PlaneV} {tw th i:Int} {l:List (List Int)} (hp:planeOK p=true) (hq:twoP s->planeOK q=true) (h:(ofV s (shpOf p) (shpOf q)).2=0)
include hp hq h
end
section
variable {s:StageV} {p q own:PlaneV} {tw th i:Int} {l:List (List Int)} (hp:planeOK p=true) (hq:twoP s->planeOK q=true) (h:(ofV s (shpOf p) (shpOf q)).2=0) (hk:s.kind=4)
include hp hq h hk
theorem hist_bins:(1<=s.bins/\s.bins<=128)/\(stgT s p q).1=(histT p s.bins).1:=by
  have hv:=(of_k h).2
  refine ⟨?_,by unfold stgT;rw [if_pos ⟨hp,hq⟩,if_pos h,if_pos hk]⟩
  unfold kernelV at hv
  rw [if_neg (by omega),if_neg (by omega),if_neg (by omega),if_pos hk] at hv
  by_cases hb:1<=s.bins/\s.bins<=128
  · exact hb
  · rw [if_neg hb] at hv;simp at hv
theorem hist_cmp {part:Int} (hpt:part=1\/part=2):cmpC s part p q own=0:=by
  unfold cmpC
  rw [if_pos,h]
  exact ⟨.inl ⟨hk,hpt⟩,hp,hq,fun h5=>by omega⟩
end
section
variable {s:StageV} {p q own:PlaneV} {tw th:Int} {l:List (List Int)} (hp:planeOK p=true) (hq:twoP s->planeOK q=true) (h:(ofV s (shpOf p) (shpOf q)).2=0)
include hp hq h
end
theorem okT_congr {c:Int} {p p':PlaneV} (h:c=0->p=p'):okT c p=okT c p':=by
  unfold okT
  by_cases hc:c=0
  · rw [if_pos hc,if_pos hc,h hc]
  · rw [if_neg hc,if_neg hc]
theorem edgC_rIn {p:PlaneV} {pol fill c w h:Int} {r:Rct} (h0:edgC p pol fill c w h r=0):c=0/\rIn r w h:=by
  unfold edgC at h0
  split at h0
  · split at h0
    · split at h0
      · rename_i a b;exact ⟨a,b⟩
      · omega
    · rename_i a;exact absurd h0 a
  · omega
theorem taps_tapP {l:List TapV} {n:Int} (h:tapsCode l n=0):l.all tapP=true:=by
  have hk:=(taps_ok h).2
  rw [List.all_eq_true]
  intro t ht
  have:=hk t ht
  unfold tapP
  rw [decide_eq_true_eq]
  omega
theorem conv_sz {mx kw kh:Int} {ws:List Int} {sh out:Int} (h:convCode mx kw kh ws sh out=0):(1<=kw/\kw<=9)/\(1<=kh/\kh<=9)/\(ws.length:Int)=kw*kh:=by
  unfold convCode at h
  split at h
  · rename_i a;exact a
  · omega
theorem sep_sz {mx:Int} {row col:List Int} {sh sh2 out:Int} (h:sepCode mx row col sh sh2 out=0):(1<=(row.length:Int)/\(row.length:Int)<=9)/\1<=(col.length:Int)/\(col.length:Int)<=9:=by
  unfold sepCode at h
  split at h
  · rename_i a;exact a
  · omega
theorem res_taps {w h mx:Int} {x y:List TapV} {s s2 out:Int} (h0:resCode w h mx x y s s2 out=0):tapsCode x w=0/\tapsCode y h=0:=by
  unfold resCode at h0
  split at h0
  · rename_i a
    split at h0
    · rename_i b;exact ⟨a,b⟩
    · rename_i b;exact absurd h0 b
  · rename_i a;exact absurd h0 a
theorem acc_of {s:StageV} {x y:Shape} (h:(ofV s x y).2=0):accV s:=by
 have hk:=(of_k h).2
 have hf:fieldsP s:=by
  unfold ofV at h
  by_cases h1:fieldsP s
  ·exact h1
  ·rw [if_neg h1] at h;exact absurd h (by decide)
 unfold kernelV at hk
 by_cases h1:s.kind=1
 · exact (by rw [if_pos h1] at hk;have:=conv_sz hk;exact (acc1 hf h1).2 ⟨this.1,this.2.1⟩)
 ·rw [if_neg h1] at hk
  by_cases h2:s.kind=2
  · exact (by rw [if_pos h2] at hk;have:=sep_sz hk;exact (acc2 hf h2).2 ⟨this.1,this.2⟩)
  ·rw [if_neg h2] at hk
   by_cases h3:s.kind=3
   · exact (by rw [if_pos h3] at hk;have:=res_taps hk;exact (acc3 hf h3).2 ⟨taps_tapP this.1,taps_tapP this.2⟩)
   ·exact acc0 hf h1 h2 h3
theorem recS_congr {p p':PlaneV} {x y:Int} {i j:Nat} (h:∀a b:Nat,a<i->b<j->pixAt p (x+a) (y+b)=pixAt p' (x+a) (y+b)):recS p x y i j=recS p' x y i j:=by
  unfold recS
  exact sumN_congr _ (fun a ha=>(by unfold colS;exact sumN_congr _ (fun b hb=>h a b ha hb)))
section
variable {s:StageV} {p p' q q' own own':PlaneV} {r:Rct} (hp:planeOK p=true) (hp':planeOK p'=true) (hs:shpOf p'=shpOf p)
include hp hp' hs
theorem part_agr {bins:Int} (hg:∀x y,inR2 r x y->pixAt p x y=pixAt p' x y):partV p bins r=partV p' bins r/\partC p bins r=partC p' bins r:=by
 have hw:p'.w=p.w:=congrArg Shape.w hs
 have hh:p'.h=p.h:=congrArg Shape.h hs
 have hm:p'.max_=p.max_:=congrArg Shape.max_ hs
 have hC:partC p bins r=partC p' bins r:=by unfold partC;rw [hp,hp',hw,hh]
 refine ⟨?_,hC⟩
 unfold partV
 rw [<-hC]
 by_cases h0:partC p bins r=0
 ·rw [if_pos h0,if_pos h0]
  have hr:rIn r p.w p.h:=by
   unfold partC at h0
   rw [if_pos hp] at h0
   split at h0
   ·split at h0
    ·rename_i a;exact a
    ·omega
   ·omega
  have hA:=arN_eq hr
  unfold rIn at hr
  unfold cntV
  rw [hm,grid_congr (w:=r.x1-r.x0) (n:=areaN r) (f:=fun i j=>pixAt p (r.x0+i) (r.y0+j)) (g:=fun i j=>pixAt p' (r.x0+i) (r.y0+j)) (fun k hk=>by
   have h:=tile_ix (nx:=r.x1-r.x0) (ny:=r.y1-r.y0) (i:=(k:Int)) om om om
   exact hg _ _ (by unfold inR2;omega))]
 ·rw [if_neg h0,if_neg h0]
variable (hq:twoP s->planeOK q=true/\planeOK q'=true/\shpOf q'=shpOf q)
include hq
theorem cmpC_agr {part:Int} (ho:s.kind=5->planeOK own'=planeOK own/\own'.w=own.w/\own'.h=own.h) (h:(ofV s (shpOf p) (shpOf q)).2=0):cmpC s part p q own=cmpC s part p' q' own':=by
 have hw:p'.w=p.w:=congrArg Shape.w hs
 have hh:p'.h=p.h:=congrArg Shape.h hs
 have e:ofV s (shpOf p') (shpOf q')=ofV s (shpOf p) (shpOf q):=by
  rw [hs]
  by_cases h2:twoP s
  ·rw [(hq h2).2.2]
  ·exact of_any h2
 unfold cmpC
 rw [e,hw,hh]
 have hi:(belongP s.kind part/\planeOK p=true/\(twoP s->planeOK q=true)/\(s.kind=5->planeOK own=true/\own.w=p.w/\own.h=p.h))↔(belongP s.kind part/\planeOK p'=true/\(twoP s->planeOK q'=true)/\(s.kind=5->planeOK own'=true/\own'.w=p.w/\own'.h=p.h)):=by
  constructor
  ·rintro ⟨a,_,_,d⟩;exact ⟨a,hp',fun h2=>(hq h2).2.1,fun h5=>by obtain ⟨e1,e2,e3⟩:=ho h5;rw [e1,e2,e3];exact d h5⟩
  ·rintro ⟨a,_,_,d⟩;exact ⟨a,hp,fun h2=>(hq h2).1,fun h5=>by obtain ⟨e1,e2,e3⟩:=ho h5;rw [<-e1,<-e2,<-e3];exact d h5⟩
 by_cases hc:belongP s.kind part/\planeOK p=true/\(twoP s->planeOK q=true)/\(s.kind=5->planeOK own=true/\own.w=p.w/\own.h=p.h)
 ·rw [if_pos hc,if_pos (hi.1 hc)]
 ·rw [if_neg hc,if_neg (fun z=>hc (hi.2 z))]
variable (h:(ofV s (shpOf p) (shpOf q)).2=0) (hg:AgrP s p p' r) (hgq:twoP s->∀x y,inR2 r x y->pixAt q x y=pixAt q' x y)
include h hg hgq
theorem ker_agr:kerT s p q r=kerT s p' q' r:=by
 have hw:p'.w=p.w:=congrArg Shape.w hs
 have hh:p'.h=p.h:=congrArg Shape.h hs
 have hm:p'.max_=p.max_:=congrArg Shape.max_ hs
 have ha:=acc_of h
 have hk:=(of_k h).2
 have e0:=(plane_sz hp).1
 unfold sizeP at e0
 have hE:∀{pol fill c w h:Int} {r:Rct},edgC p' pol fill c w h r=edgC p pol fill c w h r:=fun {pol fill c w h r}=>by unfold edgC;rw [hp,hp',hm]
 unfold kernelV at hk
 unfold kerT
 by_cases h1:s.kind=1
 · exact (by rw [if_pos h1,if_pos h1];rw [if_pos h1] at hk;have hz:=conv_sz hk;unfold convT;rw [hE,hm,hw,hh];exact okT_congr fun h0=>(by have hr:=(edgC_rIn h0).2;have a0:=hr;unfold rIn at a0;exact mk_congr hr fun x y hi=>conv_agr hw hh ha (by unfold lenP;omega) (by unfold lenP;omega) hg h1 hz.2.2 om hi))
 ·rw [if_neg h1,if_neg h1]
  rw [if_neg h1] at hk
  by_cases h2:s.kind=2
  · exact (by rw [if_pos h2,if_pos h2];unfold sepT;rw [hE,hm,hw,hh];exact okT_congr fun h0=>(by have hr:=(edgC_rIn h0).2;have a0:=hr;unfold rIn at a0;exact mk_congr hr fun x y hi=>sep_agr hw hh ha (by unfold lenP;omega) (by unfold lenP;omega) hg h2 hi))
  ·rw [if_neg h2,if_neg h2]
   rw [if_neg h2] at hk
   by_cases h3:s.kind=3
   · exact (by rw [if_pos h3,if_pos h3];rw [if_pos h3] at hk;have ht:=res_taps hk;have hx:=tapsCode_len ht.1;have hy:=tapsCode_len ht.2;unfold resT;rw [hE,hm,hw,hh];exact okT_congr fun h0=>(by have hr:=(edgC_rIn h0).2;have a0:=hr;unfold rIn at a0;exact mk_congr hr fun x y hi=>res_agr hw hh ha (by unfold lenP;omega) (by unfold lenP;omega) hg h3 hi om om))
   ·rw [if_neg h3,if_neg h3]
    by_cases d0:3<s.kind
    ·have f0:(decide (twoP s)=true->planeOK q=true)↔(decide (twoP s)=true->planeOK q'=true):=⟨fun _ z=>(hq (of_decide_eq_true z)).2.1,fun _ z=>(hq (of_decide_eq_true z)).1⟩
     by_cases c0:twoP s
     ·have b0:=hq c0
      have qw:q'.w=q.w:=congrArg Shape.w b0.2.2
      have qh:q'.h=q.h:=congrArg Shape.h b0.2.2
      have qm:q'.max_=q.max_:=congrArg Shape.max_ b0.2.2
      unfold pwT
      rw [hp,hp',b0.1,b0.2.1,hm,hw,hh,qw,qh,qm]
      refine okT_congr fun h0=>?_
      have hr:rIn r p.w p.h:=by
       split at h0
       ·split at h0
        ·split at h0
         ·rename_i a;exact a.2
         ·omega
        ·rename_i a;exact absurd h0 a
       ·omega
      have a0:=hr;unfold rIn at a0
      exact mk_congr hr fun x y hi=>(by unfold pwX;rw [own_agr hw hh ha (by unfold lenP;omega) (by unfold lenP;omega) hg d0 hr hi,hgq c0 x y hi])
     ·rw [decide_eq_false c0,pwT_any (q:=q) (u:=q')]
      unfold pwT
      rw [hp,hp',hm,hw,hh]
      simp only [Bool.false_eq_true,false_implies,and_true,true_and,if_true]
      refine okT_congr fun h0=>?_
      have hr:rIn r p.w p.h:=by
       split at h0
       ·split at h0
        ·rename_i a;exact a
        ·omega
       ·rename_i a;exact absurd h0 a
      have a0:=hr;unfold rIn at a0
      exact mk_congr hr fun x y hi=>(by unfold pwX;rw [own_agr hw hh ha (by unfold lenP;omega) (by unfold lenP;omega) hg d0 hr hi])
    · exact (by exfalso;have hf:=ha.1;unfold fieldsP at hf;omega)
variable (ho:s.kind=5->planeOK own'=planeOK own/\own'.w=own.w/\own'.h=own.h/\leftV own' r=leftV own r/\topV own' r=topV own r/\atV own' (r.x0-1) (r.y0-1)=atV own (r.x0-1) (r.y0-1))
include ho
theorem til_agr:tilT s p q own r=tilT s p' q' own' r:=by
 have hw:p'.w=p.w:=congrArg Shape.w hs
 have hh:p'.h=p.h:=congrArg Shape.h hs
 have hm:p'.max_=p.max_:=congrArg Shape.max_ hs
 unfold tilT
 by_cases h5:s.kind=5
 ·rw [if_pos h5,if_pos h5]
  obtain ⟨_,_,_,e1,e2,e3⟩:=ho h5
  unfold sumT
  rw [e1,e2,e3,hw,hh]
  by_cases hr:rIn r p.w p.h
  · exact (by rw [if_pos hr,if_pos hr];have ha:=acc_of h;have b0:=(plane_sz hp).1;unfold sizeP at b0;have a0:=hr;unfold rIn at a0;have hA:=arN_eq hr;have hL:itgL p (leftV own r) (topV own r) (atV own (r.x0-1) (r.y0-1)) r=itgL p' (leftV own r) (topV own r) (atV own (r.x0-1) (r.y0-1)) r:=(by unfold itgL;refine grid_congr fun k hk=>?_;have hx:=tile_ix (nx:=r.x1-r.x0) (ny:=r.y1-r.y0) (i:=(k:Int)) om om om;unfold itgX;rw [recS_congr fun a b h1 h2=>own_agr hw hh ha (by unfold lenP;omega) (by unfold lenP;omega) hg om hr (by unfold inR2;omega)]);unfold itgT itgC;rw [hL,hp,hp',hw,hh,hm])
  ·rw [if_neg hr,if_neg hr]
 · exact (by rw [if_neg h5,if_neg h5];exact ker_agr hp hp' hs hq h hg hgq)
theorem cmp_agr {part:Int} {l:List (List Int)} (hr:s.kind=4->part=1->rIn r p.w p.h):cmpT s part r p q own l=cmpT s part r p' q' own' l:=by
 have hw:p'.w=p.w:=congrArg Shape.w hs
 have hh:p'.h=p.h:=congrArg Shape.h hs
 have hc:=cmpC_agr (part:=part) hp hp' hs hq (fun h5=>⟨(ho h5).1,(ho h5).2.1,(ho h5).2.2.1⟩) h
 unfold cmpT
 rw [hc]
 by_cases h0:cmpC s part p' q' own'=0
 ·rw [if_pos h0,if_pos h0]
  by_cases h1:part=1
  ·rw [if_pos h1,if_pos h1]
   have h4:s.kind=4:=by
    by_cases h4:s.kind=4
    ·exact h4
    ·exfalso
     unfold cmpC at h0
     split at h0
     ·rename_i a;have:=a.1;unfold belongP at this;omega
     ·omega
   have a0:=hr h4 h1
   have c0:=(plane_sz hp).1
   unfold sizeP at c0
   have b0:=a0;unfold rIn at b0
   have e:=part_agr (bins:=s.bins) hp hp' hs (r:=r) (fun x y hi=>own_agr hw hh (acc_of h) (by unfold lenP;omega) (by unfold lenP;omega) hg om a0 hi)
   rw [e.1,e.2]
  ·rw [if_neg h1,if_neg h1,til_agr hp hp' hs hq h hg hgq ho]
 ·rw [if_neg h0,if_neg h0]
end
theorem plAt_set {l:List PlaneV} {n m:Int} {v:PlaneV} (h:n.toNat≠m.toNat):plAt (l.set n.toNat v) m=plAt l m:=by
  unfold plAt;rw [List.getElem?_set,if_neg h]
theorem plAt_set_self {l:List PlaneV} {n:Int} {v:PlaneV} (h:n.toNat<l.length):plAt (l.set n.toNat v) n=v:=by
  unfold plAt;rw [List.getElem?_set,if_pos rfl,if_pos h];rfl
theorem meanG_keep {ni:Int} {ss:List StageV} {m:Int} (hm:0<=m):∀(l:List Int) (out:List PlaneV),(∀n∈l,0<=n/\n≠m)->plAt (meanG ni ss l out) m=plAt out m
  |[],_,_=>rfl
  |n::l,out,h=>by
    have h0:=h n (List.mem_cons_self ..)
    rw [show meanG ni ss (n::l) out=meanG ni ss l (out.set n.toNat (meanS ni ss n out).1) from rfl,meanG_keep hm l _ (fun x hx=>h x (List.mem_cons_of_mem _ hx)),plAt_set (by omega)]
structure NodeP (j:JobV) (n:Int):Prop where
  pa:planeOK (plAt (meanV j) (stgAt j.stages j.inputs.length n).a)=true
  pb:twoP (stgAt j.stages j.inputs.length n)->planeOK (plAt (meanV j) (stgAt j.stages j.inputs.length n).b)=true
  of:(ofV (stgAt j.stages j.inputs.length n) (shpOf (plAt (meanV j) (stgAt j.stages j.inputs.length n).a)) (shpOf (plAt (meanV j) (stgAt j.stages j.inputs.length n).b))).2=0
  eq:plAt (meanV j) n=(stgT (stgAt j.stages j.inputs.length n) (plAt (meanV j) (stgAt j.stages j.inputs.length n).a) (plAt (meanV j) (stgAt j.stages j.inputs.length n).b)).1
  sa:shpAt (shpV j).1 (stgAt j.stages j.inputs.length n).a=shpOf (plAt (meanV j) (stgAt j.stages j.inputs.length n).a)
  sn:shpAt (shpV j).1 n=shpOf (plAt (meanV j) n)
  ok:planeOK (plAt (meanV j) n)=true
theorem node_ok {j:JobV} (hz:(shpV j).2.2=0) {n:Int} (hn:n∈(ordV j).1):NodeP j n:=by
 have ho:=shp_ok hz
 have hm:=mean_ok hz
 have hr:=ho.rng n hn
 obtain ⟨p,q,e⟩:=List.append_of_mem hn
 have hb:=ho.bef p n q e
 have f0:=ho.nd
 rw [e,List.nodup_append,List.nodup_cons] at f0
 have g0:∀x,x∈p\/x∈q->(j.inputs.length:Int)<=x/\x<(j.inputs.length:Int)+j.stages.length:=fun x hx=>ho.rng x (by rw [e];rcases hx with hx|hx<;>simp [hx])
 obtain ⟨s,hs⟩:∃z,z=stgAt j.stages j.inputs.length n:=⟨_,rfl⟩
 have c0:∀y∈srcs s,(0<=y/\y<(j.inputs.length:Int)+j.stages.length)/\y≠n/\∀x∈q,x≠y:=fun y hy=>by
  rw [hs] at hy
  have h:=hb y hy
  rcases h.2 with h1|h1
  ·exact ⟨⟨h.1,om⟩,om,fun x hx=>by have:=g0 x (.inr hx);omega⟩
  ·have h2:=g0 y (.inl h1)
   refine ⟨om,fun e=>?_,fun x hx e=>?_⟩
   ·subst e;exact f0.2.2 _ h1 _ (List.mem_cons_self ..) rfl
   ·subst e;exact f0.2.2 _ h1 _ (List.mem_cons_of_mem _ hx) rfl
 have hM:meanV j=meanG j.inputs.length j.stages (ordV j).1 (meanI j):=if_pos hz
 obtain ⟨O,hO⟩:∃z,z=meanG j.inputs.length j.stages p (meanI j):=⟨_,rfl⟩
 have i0:meanV j=meanG j.inputs.length j.stages q (O.set n.toNat (meanS j.inputs.length j.stages n O).1):=(by rw [hM,e,hO];unfold meanG;rw [List.foldl_append];rfl)
 have n0:O.length=j.inputs.length+j.stages.length:=(by have h:=(mean_at hz p.length (by rw [e];simp)).len;rw [e,List.take_left] at h;rw [hO];exact h)
 have m0:plAt (meanV j) n=(meanS j.inputs.length j.stages n O).1:=(by rw [i0,meanG_keep om q _ (fun x hx=>⟨by have:=g0 x (.inr hx);omega,fun (e:x=n)=>f0.2.1.1 (e▸hx)⟩),plAt_set_self om])
 have l0:∀y∈srcs s,plAt (meanV j) y=plAt O y:=fun y hy=>by
  have h:=c0 y hy
  rw [i0,meanG_keep h.1.1 q _ (fun x hx=>⟨by have:=g0 x (.inr hx);omega,h.2.2 x hx⟩),plAt_set om]
 have ha:=c0 _ (srcs_a s)
 have b0:=hm.2 s.a ha.1.1 ha.1.2
 have e0:=hm.2 n om om
 have a0:=ho.fit n hn
 unfold FitP shpStep at a0
 rw [<-hs] at a0
 have k0:(ofV s (shpOf (plAt (meanV j) s.a)) (shpOf (plAt (meanV j) s.b))).2=0:=by
  by_cases h2:twoP s
  · exact (by have d0:=c0 _ (srcs_b h2);have h0:=hm.2 s.b d0.1.1 d0.1.2;rw [if_pos h2] at a0;rw [b0.2,h0.2];exact congrArg Prod.snd a0)
  · exact (by rw [if_neg h2] at a0;rw [b0.2,of_any (u:=⟨0,0,0⟩) h2];exact congrArg Prod.snd a0)
 have j0:plAt (meanV j) n=(stgT s (plAt (meanV j) s.a) (plAt (meanV j) s.b)).1:=by
  rw [m0]
  unfold meanS
  rw [<-hs,l0 _ (srcs_a s),<-stgT_if (q:=plAt (meanV j) s.b)]
  unfold srcB
  by_cases h2:twoP s
  ·rw [if_pos h2,if_pos h2,l0 _ (srcs_b h2)]
  ·rw [if_neg h2,if_neg h2]
 rw [hs] at b0 k0 j0
 exact ⟨b0.1,fun h2=>by have d0:=c0 _ (srcs_b (by rw [hs];exact h2));rw [hs] at d0;exact (hm.2 _ d0.1.1 d0.1.2).1,k0,j0,b0.2.symm,e0.2.symm,e0.1⟩
def NearP (W own:PlaneV) (r:Rct):Prop:=leftV own r=leftV W r/\topV own r=topV W r/\atV own (r.x0-1) (r.y0-1)=atV W (r.x0-1) (r.y0-1)
def maskP (W:PlaneV) (nx tw th i:Int):PlaneV:=⟨W.w,W.h,W.max_,gridN W.w (fun x y=>if tixV nx tw th x y<i then pixAt W x y else 0) W.pix.length⟩
theorem mask_asm {W:PlaneV} (hl:(W.pix.length:Int)=W.w*W.h) (nx tw th i:Int):AsmP W (maskP W nx tw th i) nx tw th i:=
  ⟨rfl,by unfold maskP;dsimp only;rw [grid_len];exact hl,fun x y hx hy=>pixAt_grid hl hx hy⟩
theorem near_mask {W:PlaneV} {tw th i:Int} (hW:planeOK W=true) (hf:fineP W.w W.h tw th) (hi:0<=i/\i<colsN W.w W.h tw th*rowsN W.w W.h tw th):NearP W (maskP W (colsN W.w W.h tw th) tw th i) (tileV W.w W.h tw th i):=by
 have hb:=cols_bd hf
 have hix:=tile_ix hb.1.1 hi.1 hi.2
 have i0:=tile_in hf hi.1 hi.2
 have a0:=i0.1
 unfold inP at a0
 have m0:=hf
 unfold fineP at m0
 have hA:=mask_asm (plane_sz hW).2.1 (colsN W.w W.h tw th) tw th i
 have g0:(maskP W (colsN W.w W.h tw th) tw th i).w=W.w/\(maskP W (colsN W.w W.h tw th) tw th i).h=W.h:=⟨rfl,rfl⟩
 obtain ⟨M,hM⟩:∃z,z=maskP W (colsN W.w W.h tw th) tw th i:=⟨_,rfl⟩
 obtain ⟨nx,l0⟩:∃z,z=colsN W.w W.h tw th:=⟨_,rfl⟩
 obtain ⟨cx,d0⟩:∃z,z=i%colsN W.w W.h tw th:=⟨_,rfl⟩
 obtain ⟨cy,e0⟩:∃z,z=i/colsN W.w W.h tw th:=⟨_,rfl⟩
 obtain ⟨r,hr⟩:∃z,z=tileV W.w W.h tw th i:=⟨_,rfl⟩
 have n0:r.x0=cx*tw:=by rw [hr,d0];rfl
 have p0:r.y0=cy*th:=by rw [hr,e0];rfl
 have o0:r.x1<=cx*tw+tw:=by rw [hr,d0];exact Int.min_le_left _ _
 have q0:r.y1<=cy*th+th:=by rw [hr,e0];exact Int.min_le_left _ _
 rw [<-hr] at i0 a0⊢
 rw [<-hM] at hA g0⊢
 rw [<-l0] at hA
 rw [<-d0,<-e0,<-l0] at hix
 have f0:∀y,r.y0<=y->y<r.y1->y/th=cy:=fun y h1 h2=>ediv_eq om om om
 have c0:∀x,r.x0<=x->x<r.x1->x/tw=cx:=fun x h1 h2=>ediv_eq om om om
 have j0:0<r.x0->(r.x0-1)/tw=cx-1:=fun h0=>ediv_eq om (by rw [Int.sub_mul,Int.one_mul];omega) (by rw [Int.sub_mul,Int.one_mul];omega)
 have k0:0<r.y0->(r.y0-1)/th=cy-1:=fun h0=>ediv_eq om (by rw [Int.sub_mul,Int.one_mul];omega) (by rw [Int.sub_mul,Int.one_mul];omega)
 have b0:∀x y:Int,x<W.w->y<W.h->(x<0\/y<0\/tixV nx tw th x y<i)->atV M x y=atV W x y:=fun x y hx hy h=>by
  unfold atV
  rw [g0.1,g0.2]
  by_cases h0:x<0\/y<0\/W.w<=x\/W.h<=y
  ·rw [if_pos h0,if_pos h0]
  ·rw [if_neg h0,if_neg h0,hA.pix x y om om,if_pos om]
 refine ⟨?_,?_,?_⟩
 ·unfold leftV
  refine List.map_congr_left fun k hk=>?_
  have hk:=List.mem_range.1 hk
  refine b0 _ _ om om ?_
  by_cases h0:0<r.x0
  ·exact .inr (.inr (by unfold tixV;rw [f0 _ om om,j0 h0];omega))
  ·exact .inl om
 ·unfold topV
  refine List.map_congr_left fun k hk=>?_
  have hk:=List.mem_range.1 hk
  refine b0 _ _ om om ?_
  by_cases h0:0<r.y0
  ·exact .inr (.inr (by unfold tixV;rw [c0 _ om om,k0 h0,Int.sub_mul,Int.one_mul];omega))
  ·exact .inr (.inl om)
 ·refine b0 _ _ om om ?_
  by_cases h0:0<r.x0
  ·by_cases h3:0<r.y0
   ·exact .inr (.inr (by unfold tixV;rw [j0 h0,k0 h3,Int.sub_mul,Int.one_mul];omega))
   ·exact .inr (.inl om)
  ·exact .inl om
def cutP (W:PlaneV) (r:Rct):List Int:=gridN (r.x1-r.x0) (fun i j=>pixAt W (r.x0+i) (r.y0+j)) (areaN r)
theorem tile_rIn {w h tw th i:Int} (hf:fineP w h tw th) (hi:0<=i/\i<colsN w h tw th*rowsN w h tw th):rIn (tileV w h tw th i) w h:=by
  have h:=tile_in hf hi.1 hi.2
  have h0:=h.1
  unfold inP at h0;unfold rIn;omega
section
variable {s:StageV} {p p' q q' own:PlaneV} {tw th i:Int} {l:List (List Int)} (hp:planeOK p=true) (hq:twoP s->planeOK q=true) (h:(ofV s (shpOf p) (shpOf q)).2=0)
  (hp':planeOK p'=true) (hs:shpOf p'=shpOf p) (hq':twoP s->planeOK q'=true/\shpOf q'=shpOf q)
include hp hq h hp' hs hq'
theorem hist_right (hk:s.kind=4) (hf:fineP p.w p.h tw th) (hi:0<=i/\i<colsN p.w p.h tw th*rowsN p.w p.h tw th) (hg:AgrP s p p' (tileV p.w p.h tw th i)):
  cmpT s 1 (tileV p.w p.h tw th i) p' q' own l=(partV p s.bins (tileV p.w p.h tw th i),0):=by
 have h2:¬twoP s:=fun h2=>by unfold twoP at h2;omega
 have hb:=hist_bins hp hq h hk
 have a0:=tile_rIn hf hi
 have b0:partC p s.bins (tileV p.w p.h tw th i)=0:=by unfold partC;rw [if_pos hp,if_pos hb.1,if_pos a0]
 rw [<-cmp_agr (q:=q) (own:=own) hp hp' hs (fun e=>absurd e h2) h hg (fun e=>absurd e h2) (fun e=>by omega) (fun _ _=>a0),cmp_1 (hist_cmp hp hq h hk (.inl rfl)) rfl,b0]
theorem til_right {W:PlaneV} (hW:W=(stgT s p q).1) (hk:¬s.kind=4) (hf:fineP W.w W.h tw th) (hi:0<=i/\i<colsN W.w W.h tw th*rowsN W.w W.h tw th) (hg:AgrP s p p' (tileV W.w W.h tw th i))
  (hgq:twoP s->∀x y,inR2 (tileV W.w W.h tw th i) x y->pixAt q x y=pixAt q' x y) (ho:s.kind=5->planeOK own=true/\shpOf own=shpOf W/\NearP W own (tileV W.w W.h tw th i)):
  cmpT s 0 (tileV W.w W.h tw th i) p' q' own l=(cutP W (tileV W.w W.h tw th i),0):=by
 have c0:=stg_ok hp hq h
 rw [<-hW] at c0
 have e0:=near_mask c0.2.1 hf hi
 have p0:=plane_sz c0.2.1
 have hA:=mask_asm p0.2.1 (colsN W.w W.h tw th) tw th i
 obtain ⟨M,hM⟩:∃z,z=maskP W (colsN W.w W.h tw th) tw th i:=⟨_,rfl⟩
 rw [<-hM] at e0 hA
 obtain ⟨r,hr⟩:∃z,z=tileV W.w W.h tw th i:=⟨_,rfl⟩
 have g0:=asm_step (tw:=tw) (th:=th) (i:=i) (own:=M) hp hq h hk (by rw [<-hW];exact hf) (by rw [<-hW];exact hA) (by rw [<-hW];exact hi)
 rw [<-hW] at g0
 have b0:=tile_rIn hf hi
 have h0:∀x y,0<=x/\x<W.w->0<=y/\y<W.h->(inR2 (tileV W.w W.h tw th i) x y↔tixV (colsN W.w W.h tw th) tw th x y=i):=fun x y=>tix_in hf hi
 rw [<-hr] at e0 hg hgq ho g0 b0 h0⊢
 have d0:=hA.ok c0.2.1
 have ew:M.w=W.w:=congrArg Shape.w hA.shp
 have eh:M.h=W.h:=congrArg Shape.h hA.shp
 have hC:cmpC s 0 p q M=0:=(by unfold cmpC;rw [if_pos,h];refine ⟨.inr ⟨hk,rfl⟩,hp,hq,fun h5=>⟨d0,?_⟩⟩;have hv:=of_k h;have k0:(kernelV s (shpOf p) (shpOf q)).1.w=p.w/\(kernelV s (shpOf p) (shpOf q)).1.h=p.h:=(by unfold kernelV;rw [if_neg om,if_neg om,if_neg om,if_neg hk,if_pos h5];split<;>exact ⟨rfl,rfl⟩);rw [<-hv.1] at k0;have e3:=congrArg Shape.w c0.2.2;have e4:=congrArg Shape.h c0.2.2;have f3:W.w=p.w:=e3.trans k0.1;have f4:W.h=p.h:=e4.trans k0.2;omega)
 have i0:s.kind=5->planeOK own=planeOK M/\own.w=M.w/\own.h=M.h/\leftV own r=leftV M r/\topV own r=topV M r/\atV own (r.x0-1) (r.y0-1)=atV M (r.x0-1) (r.y0-1):=fun h5=>by
  obtain ⟨a,b,c⟩:=ho h5
  have e1:=congrArg Shape.w b
  refine ⟨by rw [a,d0],e1.trans ew.symm,(congrArg Shape.h b).trans eh.symm,c.1.trans e0.1.symm,c.2.1.trans e0.2.1.symm,c.2.2.trans e0.2.2.symm⟩
 rw [<-cmp_agr (q:=q) (own:=M) hp hp' hs (fun e=>⟨hq e,hq' e⟩) h hg hgq i0 (fun h4=>absurd h4 hk),cmp_0 hC (by decide) (by decide),if_pos g0.1]
 have a0:=g0.2.1
 have n0:(((tilT s p q M r).1.pix.length:Nat):Int)=(r.x1-r.x0)*(r.y1-r.y0):=by
  unfold putC at a0
  split at a0
  ·split at a0
   ·rename_i a;exact a.2
   ·omega
  ·omega
 have l0:=arN_eq b0
 have f0:=b0;unfold rIn at f0
 congr 1
 refine getD_ext (by unfold cutP;rw [grid_len];omega) fun k q0=>?_
 have hx:=tile_ix (nx:=r.x1-r.x0) (ny:=r.y1-r.y0) (i:=(k:Int)) om om om
 obtain ⟨a,ha⟩:∃z,z=(k:Int)%(r.x1-r.x0):=⟨_,rfl⟩
 obtain ⟨b,hb⟩:∃z,z=(k:Int)/(r.x1-r.x0):=⟨_,rfl⟩
 rw [<-ha,<-hb] at hx
 have m0:inR2 r (r.x0+a) (r.y0+b):=by unfold inR2;omega
 have j0:=g0.2.2.pix (r.x0+a) (r.y0+b) om om
 rw [if_pos (by have:=(h0 (r.x0+a) (r.y0+b) om om).1 m0;omega)] at j0
 have o0:(putT M 0 r (tilT s p q M r).1.pix).1=⟨M.w,M.h,M.max_,putL M r (tilT s p q M r).1.pix⟩:=by unfold putT;rw [okT_0 a0]
 rw [o0,put_at hA.len om om,if_pos m0,show r.y0+b-r.y0=b by omega,show r.x0+a-r.x0=a by omega,show (b*(r.x1-r.x0)+a).toNat=k by omega] at j0
 rw [j0]
 unfold cutP
 rw [List.getD_eq_getElem?_getD,grid_at om,<-ha,<-hb]
 rfl
end
theorem ceil_cov {a b x:Int} (ha:1<=a/\a<=128) (hb:1<=b) (hx:0<=x/\x<a):0<=x/b/\x/b<ceilV a b:=by
  refine ⟨Int.ediv_nonneg hx.1 (by omega),?_⟩
  have h0:=ceil_bd ha hb
  by_cases h:x/b<ceilV a b
  · exact h
  · exact (by exfalso;have h1:ceilV a b*b<=x/b*b:=Int.mul_le_mul_of_nonneg_right (by omega) (by omega);have h2:x/b*b<=x:=Int.ediv_mul_le x (by omega);have h3:a<=ceilV a b*b:=ceil_ge (by omega) hb;omega)
theorem tix_rng {w h tw th x y:Int} (hf:fineP w h tw th) (hx:0<=x/\x<w) (hy:0<=y/\y<h):
  0<=tixV (colsN w h tw th) tw th x y/\tixV (colsN w h tw th) tw th x y<colsN w h tw th*rowsN w h tw th/\tixV (colsN w h tw th) tw th x y%colsN w h tw th=x/tw/\tixV (colsN w h tw th) tw th x y/colsN w h tw th=y/th:=by
 have hb:=cols_bd hf
 have a0:=hf
 unfold fineP at a0
 have h1:=ceil_cov a0.1 a0.2.2.1.1 hx
 have h2:=ceil_cov a0.2.1 a0.2.2.2.1 hy
 have e1:colsN w h tw th=ceilV w tw:=by unfold colsN;rw [if_pos hf]
 have e2:rowsN w h tw th=ceilV h th:=by unfold rowsN;rw [if_pos hf]
 obtain ⟨nx,c0⟩:∃z,z=colsN w h tw th:=⟨_,rfl⟩
 obtain ⟨ny,d0⟩:∃z,z=rowsN w h tw th:=⟨_,rfl⟩
 rw [<-e1] at h1;rw [<-e2] at h2
 rw [<-c0] at h1 hb⊢;rw [<-d0] at h2 hb⊢
 obtain ⟨a,ha⟩:∃z,z=x/tw:=⟨_,rfl⟩
 obtain ⟨b,b0⟩:∃z,z=y/th:=⟨_,rfl⟩
 unfold tixV
 rw [<-ha] at h1⊢;rw [<-b0] at h2⊢
 have h3:b*nx<=(ny-1)*nx:=Int.mul_le_mul_of_nonneg_right om om
 have h4:0<=b*nx:=Int.mul_nonneg om om
 rw [Int.sub_mul,Int.one_mul,Int.mul_comm ny nx] at h3
 refine ⟨om,om,?_,?_⟩
 ·rw [Int.add_comm,Int.add_mul_emod_self_right];exact Int.emod_eq_of_lt h1.1 h1.2
 ·rw [Int.add_comm,Int.add_mul_ediv_right _ _ om,Int.ediv_eq_zero_of_lt h1.1 h1.2];omega
theorem ok_fineA {p:PlaneV} (hp:planeOK p=true) {tw th:Int} (ht:tileP tw th):fineP p.w p.h tw th:=by
  have h:=(plane_sz hp).1
  unfold sizeP at h;unfold tileP at ht;unfold fineP
  omega
theorem tile_getA {L:Lay} {n:Int} {j:Nat} (h:(j:Int)<L.nx n*L.ny n):(L.tasks n)[j]?=some (L.tileT n j):=by
  unfold Lay.tasks
  rw [List.getElem?_append_left (by rw [List.length_map,upto_len];omega),List.getElem?_map]
  unfold uptoV
  rw [List.getElem?_map,List.getElem?_range (by omega)];rfl
structure OI (j:JobV) (tw th:Int) (D:List Bool) (R:List (List Int)) (PL:List PlaneV):Prop where
  dl:D.length=(layV j tw th).all.length
  rl:R.length=(layV j tw th).all.length
  pl:PL.length=j.inputs.length+j.stages.length
  cl:∀(i:Nat) (z:TaskV) (d:Int),(layV j tw th).all[i]?=some z->D[i]?=some true->d∈z.deps->D[d.toNat]?=some true
  inp:∀m:Int,0<=m->m<(j.inputs.length:Int)->plAt PL m=plAt (meanV j) m
  ok:∀n∈(layV j tw th).od,planeOK (plAt PL n)=true/\shpOf (plAt PL n)=shpOf (plAt (meanV j) n)
  til:∀n∈(layV j tw th).od,¬((layV j tw th).st n).kind=4->∀k:Int,0<=k->k<(layV j tw th).nx n*(layV j tw th).ny n->D[((layV j tw th).first n+k).toNat]?=some true->∀x y,inR2 ((layV j tw th).tile n k) x y->pixAt (plAt PL n) x y=pixAt (plAt (meanV j) n) x y
  mrg:∀n∈(layV j tw th).od,((layV j tw th).st n).kind=4->D[((layV j tw th).first n+(layV j tw th).nx n*(layV j tw th).ny n).toNat]?=some true->plAt PL n=plAt (meanV j) n
  prt:∀n∈(layV j tw th).od,((layV j tw th).st n).kind=4->∀k:Int,0<=k->k<(layV j tw th).nx n*(layV j tw th).ny n->D[((layV j tw th).first n+k).toNat]?=some true->R[((layV j tw th).first n+k).toNat]?=some (partV (plAt (meanV j) ((layV j tw th).st n).a) ((layV j tw th).st n).bins ((layV j tw th).tile n k))
theorem cut_f {j:JobV} (hz:(shpV j).2.2=0) {tw th n:Int} (hn:n∈(layV j tw th).od):(layV j tw th).cut n=if ((layV j tw th).st n).kind=4 then shpOf (plAt (meanV j) ((layV j tw th).st n).a) else shpOf (plAt (meanV j) n):=by
  have h:=node_ok hz hn
  unfold Lay.cut
  by_cases h4:((layV j tw th).st n).kind=4
  · rw [if_pos h4,if_pos h4];exact h.sa
  · rw [if_neg h4,if_neg h4];exact h.sn
theorem cnt_4 {L:Lay} {n:Int} (h:(L.st n).kind=4):L.cnt n=L.nx n*L.ny n+1:=if_pos h
theorem cnt_0 {L:Lay} {n:Int} (h:¬(L.st n).kind=4):L.cnt n=L.nx n*L.ny n:=if_neg h
theorem cut_eq {j:JobV} {tw th n:Int} {W:PlaneV} (h:(layV j tw th).cut n=shpOf W):(layV j tw th).nx n*(layV j tw th).ny n=colsN W.w W.h tw th*rowsN W.w W.h tw th/\∀q,(layV j tw th).tile n q=tileV W.w W.h tw th q:=by
  unfold Lay.nx Lay.ny Lay.tile;rw [h];exact ⟨rfl,fun _=>rfl⟩
theorem tile_f {j:JobV} (hz:(shpV j).2.2=0) {tw th n:Int} (hn:n∈(layV j tw th).od) (h4:¬((layV j tw th).st n).kind=4):(layV j tw th).nx n*(layV j tw th).ny n=colsN (plAt (meanV j) n).w (plAt (meanV j) n).h tw th*rowsN (plAt (meanV j) n).w (plAt (meanV j) n).h tw th/\∀q,(layV j tw th).tile n q=tileV (plAt (meanV j) n).w (plAt (meanV j) n).h tw th q:=cut_eq (W:=plAt (meanV j) n) ((cut_f (tw:=tw) (th:=th) hz hn).trans (if_neg h4))
theorem part_f {j:JobV} (hz:(shpV j).2.2=0) {tw th n:Int} (hn:n∈(layV j tw th).od) (h4:((layV j tw th).st n).kind=4):(layV j tw th).nx n*(layV j tw th).ny n=colsN (plAt (meanV j) ((layV j tw th).st n).a).w (plAt (meanV j) ((layV j tw th).st n).a).h tw th*rowsN (plAt (meanV j) ((layV j tw th).st n).a).w (plAt (meanV j) ((layV j tw th).st n).a).h tw th/\∀q,(layV j tw th).tile n q=tileV (plAt (meanV j) ((layV j tw th).st n).a).w (plAt (meanV j) ((layV j tw th).st n).a).h tw th q:=cut_eq (W:=plAt (meanV j) ((layV j tw th).st n).a) ((cut_f (tw:=tw) (th:=th) hz hn).trans (if_pos h4))
section
variable {j:JobV} (hz:(shpV j).2.2=0) {tw th:Int} (htp:tileP tw th) {D:List Bool} {R:List (List Int)} {PL:List PlaneV} (hO:OI j tw th D R PL)
include hz htp hO
theorem src_agr {n y:Int} {r:Rct} (hn:n∈(layV j tw th).od) (hy:y∈srcs ((layV j tw th).st n)) (hd:∀d∈(layV j tw th).srcDeps ((layV j tw th).st n) r y,D[d.toNat]?=some true):
  AgrP ((layV j tw th).st n) (plAt (meanV j) y) (plAt PL y) r:=by
 have g:=lay_ok (shp_ok hz) htp
 have hs:=(g.src hn y hy).2.2
 intro cx c0 cy d0
 by_cases hi:y<(j.inputs.length:Int)
 ·rw [hO.inp y (by have:=(g.src hn y hy).1;omega) hi]
 ·have a0:y∈(layV j tw th).od:=by
   rcases hs with h|h
   ·exact absurd h hi
   ·exact h
  have e0:=node_ok hz a0
  have f0:=need_mem c0
  have g0:=need_mem d0
  have k0:=(g.grid a0).2.2
  have hf:=g.firstb a0
  unfold Lay.srcDeps at hd
  rw [if_neg (show ¬y<(layV j tw th).ni from hi)] at hd
  by_cases h4:((layV j tw th).st y).kind=4
  ·have hc:=cnt_4 (L:=layV j tw th) h4
   have hm:D[((layV j tw th).first y+(layV j tw th).nx y*(layV j tw th).ny y).toNat]?=some true:=by
    by_cases hb:((layV j tw th).st n).barrier=true
    · exact (by rw [if_pos hb] at hd;exact hd _ (List.mem_map.2 ⟨(layV j tw th).nx y*(layV j tw th).ny y,mem_upto.2 ⟨om,by rw [hc];omega⟩,rfl⟩))
    · exact (by rw [if_neg hb,if_pos h4] at hd;have:=hd _ (List.mem_singleton.2 rfl);rw [hc] at this;rw [show (layV j tw th).first y+(layV j tw th).nx y*(layV j tw th).ny y=(layV j tw th).first y+((layV j tw th).nx y*(layV j tw th).ny y+1)-1 by omega];exact this)
   rw [hO.mrg y a0 h4 hm]
  ·have ec:(layV j tw th).cut y=shpOf (plAt (meanV j) y):=by rw [cut_f hz a0,if_neg h4]
   have b0:=ok_fineA e0.ok htp
   have ht:=tix_rng b0 f0 g0
   obtain ⟨q,hq⟩:∃z,z=tixV (colsN (plAt (meanV j) y).w (plAt (meanV j) y).h tw th) tw th cx cy:=⟨_,rfl⟩
   rw [<-hq] at ht
   have en:(layV j tw th).nx y*(layV j tw th).ny y=colsN (plAt (meanV j) y).w (plAt (meanV j) y).h tw th*rowsN (plAt (meanV j) y).w (plAt (meanV j) y).h tw th:=by unfold Lay.nx Lay.ny;rw [ec];rfl
   have et:(layV j tw th).tile y q=tileV (plAt (meanV j) y).w (plAt (meanV j) y).h tw th q:=by unfold Lay.tile;rw [ec];rfl
   have j0:inR2 ((layV j tw th).tile y q) cx cy:=by rw [et];exact (tix_in b0 ⟨ht.1,ht.2.1⟩ f0 g0).2 hq.symm
   have hc:=cnt_0 (L:=layV j tw th) h4
   refine (hO.til y a0 h4 q ht.1 (by rw [en];exact ht.2.1) (hd _ ?_) cx cy j0).symm
   by_cases hb:((layV j tw th).st n).barrier=true
   · exact (by rw [if_pos hb];exact List.mem_map.2 ⟨q,mem_upto.2 ⟨ht.1,by rw [hc,en];omega⟩,rfl⟩)
   · exact (by rw [if_neg hb,if_neg h4];exact List.mem_map.2 ⟨q,(by rw [show shpAt (layV j tw th).sh y=shpOf (plAt (meanV j) y) from e0.sn];unfold tilesV;rw [List.mem_filter];exact ⟨mem_upto.2 ⟨ht.1,(by have h0:=ht.2.1;unfold tilN;show q<((colsN (plAt (meanV j) y).w (plAt (meanV j) y).h tw th*rowsN (plAt (meanV j) y).w (plAt (meanV j) y).h tw th).toNat:Int);omega)⟩,(by have i0:=b0;unfold fineP at i0;show (someV _ (q%colsN (plAt (meanV j) y).w (plAt (meanV j) y).h tw th*tw) ((q%colsN (plAt (meanV j) y).w (plAt (meanV j) y).h tw th+1)*tw)&&someV _ (q/colsN (plAt (meanV j) y).w (plAt (meanV j) y).h tw th*th) ((q/colsN (plAt (meanV j) y).w (plAt (meanV j) y).h tw th+1)*th))=true;rw [ht.2.2.1,ht.2.2.2,Bool.and_eq_true];unfold someV;rw [List.any_eq_true,List.any_eq_true];have m1:=Int.mul_ediv_add_emod cx tw;have m2:=Int.emod_nonneg cx (by omega:tw≠0);have m3:=Int.emod_lt_of_pos cx (by omega:0<tw);have m4:=Int.mul_ediv_add_emod cy th;have m5:=Int.emod_nonneg cy (by omega:th≠0);have m6:=Int.emod_lt_of_pos cy (by omega:0<th);rw [Int.mul_comm] at m1 m4;exact ⟨⟨cx,c0,decide_eq_true (by rw [Int.add_mul,Int.one_mul];omega)⟩,⟨cy,d0,decide_eq_true (by rw [Int.add_mul,Int.one_mul];omega)⟩⟩)⟩),rfl⟩)
end
section
variable {j:JobV} (hz:(shpV j).2.2=0) {tw th:Int} (htp:tileP tw th) {D:List Bool} {R:List (List Int)} {PL:List PlaneV} (hO:OI j tw th D R PL)
include hz htp hO
theorem near_full {n k:Int} (hn:n∈(layV j tw th).od) (h5:((layV j tw th).st n).kind=5) (hk:0<=k/\k<(layV j tw th).nx n*(layV j tw th).ny n) (hd:∀d∈((layV j tw th).tileT n k).deps,D[d.toNat]?=some true):
  NearP (plAt (meanV j) n) (plAt PL n) ((layV j tw th).tile n k):=by
 have g:=lay_ok (shp_ok hz) htp
 have E0:=node_ok hz hn
 have v0:=hO.ok n hn
 have ec:(layV j tw th).cut n=shpOf (plAt (meanV j) n):=by rw [cut_f hz hn,if_neg om]
 obtain ⟨W,hW⟩:∃z,z=plAt (meanV j) n:=⟨_,rfl⟩
 obtain ⟨P,hP⟩:∃z,z=plAt PL n:=⟨_,rfl⟩
 have d0:(layV j tw th).nx n=colsN W.w W.h tw th:=by unfold Lay.nx;rw [ec,hW];rfl
 have en:(layV j tw th).nx n*(layV j tw th).ny n=colsN W.w W.h tw th*rowsN W.w W.h tw th:=by unfold Lay.nx Lay.ny;rw [ec,hW];rfl
 have et:∀q,(layV j tw th).tile n q=tileV W.w W.h tw th q:=fun q=>by unfold Lay.tile;rw [ec,hW];rfl
 have l0:planeOK W=true:=by rw [hW];exact E0.ok
 have hf:fineP W.w W.h tw th:=ok_fineA l0 htp
 have hi:0<=k/\k<colsN W.w W.h tw th*rowsN W.w W.h tw th:=by rw [<-en];exact hk
 have C0:=(g.firstb hn).1
 have k0:∀d∈(layV j tw th).own n k,D[d.toNat]?=some true:=fun d h=>hd d (by show d∈canonV _;rw [mem_canon];exact List.mem_append_right _ h)
 have g0:∀q,0<=q->q<colsN W.w W.h tw th*rowsN W.w W.h tw th->D[((layV j tw th).first n+q).toNat]?=some true->∀x y,inR2 (tileV W.w W.h tw th q) x y->pixAt P x y=pixAt W x y:=fun q h0 h1 h2 x y h3=>by
  rw [hP,hW];exact hO.til n hn om q h0 (by rw [en];exact h1) h2 x y (by rw [et];exact h3)
 have hb:=cols_bd hf
 have hix:=tile_ix hb.1.1 hi.1 hi.2
 have s0:=tile_in hf hi.1 hi.2
 have i0:=s0.1
 unfold inP at i0
 have B0:=hf
 unfold fineP at B0
 have w0:P.w=W.w/\P.h=W.h:=by rw [hP,hW];exact ⟨congrArg Shape.w v0.2,congrArg Shape.h v0.2⟩
 have a0:0<k%colsN W.w W.h tw th->D[((layV j tw th).first n+(k-1)).toNat]?=some true:=fun h=>by
  have:=k0 ((layV j tw th).first n+k-1) (by unfold Lay.own;rw [if_pos h5,if_pos (by rw [d0];exact h)];simp)
  rw [show (layV j tw th).first n+(k-1)=(layV j tw th).first n+k-1 by omega];exact this
 have r0:colsN W.w W.h tw th<=k->D[((layV j tw th).first n+(k-colsN W.w W.h tw th)).toNat]?=some true:=fun h=>by
  have:=k0 ((layV j tw th).first n+k-(layV j tw th).nx n) (by unfold Lay.own;rw [if_pos h5,if_pos (show (layV j tw th).nx n<=k by rw [d0];exact h)];simp)
  rw [d0] at this
  rw [show (layV j tw th).first n+(k-colsN W.w W.h tw th)=(layV j tw th).first n+k-colsN W.w W.h tw th by omega];exact this
 have e0:0<k%colsN W.w W.h tw th->colsN W.w W.h tw th<=k->D[((layV j tw th).first n+(k-1-colsN W.w W.h tw th)).toNat]?=some true:=fun h1 h2=>by
  have D0:colsN W.w W.h tw th<=k-1:=by
   by_cases h3:k=colsN W.w W.h tw th
   ·rw [h3,Int.emod_self] at h1;omega
   ·omega
  have ha:=at_all g hn (tile_getA (L:=layV j tw th) (n:=n) (j:=(k-1).toNat) (by rw [en];omega))
  rw [show (((k-1).toNat:Nat):Int)=k-1 by omega] at ha
  have:=hO.cl _ _ ((layV j tw th).first n+(k-1)-(layV j tw th).nx n) ha (a0 h1) (by show _∈canonV _;rw [mem_canon];refine List.mem_append_right _ ?_;unfold Lay.own;rw [if_pos h5,if_pos (show (layV j tw th).nx n<=k-1 by rw [d0];exact D0)];simp)
  rw [d0] at this
  rw [show (layV j tw th).first n+(k-1-colsN W.w W.h tw th)=(layV j tw th).first n+(k-1)-colsN W.w W.h tw th by omega];exact this
 rw [<-hW,<-hP,et]
 obtain ⟨nx,j0⟩:∃z,z=colsN W.w W.h tw th:=⟨_,rfl⟩
 obtain ⟨cx,f0⟩:∃z,z=k%colsN W.w W.h tw th:=⟨_,rfl⟩
 obtain ⟨cy,o0⟩:∃z,z=k/colsN W.w W.h tw th:=⟨_,rfl⟩
 obtain ⟨r,hr⟩:∃z,z=tileV W.w W.h tw th k:=⟨_,rfl⟩
 have z0:r.x0=cx*tw:=by rw [hr,f0];rfl
 have A0:r.y0=cy*th:=by rw [hr,o0];rfl
 have F0:r.x1<=cx*tw+tw:=by rw [hr,f0];exact Int.min_le_left _ _
 have G0:r.y1<=cy*th+th:=by rw [hr,o0];exact Int.min_le_left _ _
 rw [<-hr] at s0 i0⊢
 rw [<-f0,<-o0] at hix
 rw [<-f0] at a0 e0
 have H0:k=cy*nx+cx:=by rw [j0];exact hix.2.2.2
 have p0:∀y,r.y0<=y->y<r.y1->y/th=cy:=fun y h1 h2=>ediv_eq om om om
 have n0:∀x,r.x0<=x->x<r.x1->x/tw=cx:=fun x h1 h2=>ediv_eq om om om
 have t0:0<r.x0->(r.x0-1)/tw=cx-1:=fun h0=>ediv_eq om (by rw [Int.sub_mul,Int.one_mul];omega) (by rw [Int.sub_mul,Int.one_mul];omega)
 have u0:0<r.y0->(r.y0-1)/th=cy-1:=fun h0=>ediv_eq om (by rw [Int.sub_mul,Int.one_mul];omega) (by rw [Int.sub_mul,Int.one_mul];omega)
 have b0:0<r.x0->0<cx:=fun h=>by
  by_cases h1:cx=0
  ·rw [z0,h1,Int.zero_mul] at h;omega
  ·omega
 have c0:0<r.y0->nx<=k:=fun h=>by
  have h1:1<=cy:=by
   by_cases h1:cy=0
   ·rw [A0,h1,Int.zero_mul] at h;omega
   ·omega
  have:=Int.mul_le_mul_of_nonneg_right h1 (show 0<=nx by rw [j0];omega)
  omega
 have m0:∀x y:Int,x<W.w->y<W.h->(x<0\/y<0\/∃q,0<=q/\q<colsN W.w W.h tw th*rowsN W.w W.h tw th/\tixV nx tw th x y=q/\D[((layV j tw th).first n+q).toNat]?=some true)->atV P x y=atV W x y:=fun x y hx hy h=>by
  unfold atV
  rw [w0.1,w0.2]
  by_cases h0:x<0\/y<0\/W.w<=x\/W.h<=y
  ·rw [if_pos h0,if_pos h0]
  ·rw [if_neg h0,if_neg h0]
   rcases h with h|h|⟨q,q0,q1,q2,q3⟩
   ·omega
   ·omega
   ·exact g0 q q0 q1 q3 x y ((tix_in hf ⟨q0,q1⟩ om om).2 (by rw [<-j0];exact q2))
 refine ⟨?_,?_,?_⟩
 ·unfold leftV
  refine List.map_congr_left fun m hm=>?_
  have hm:=List.mem_range.1 hm
  refine m0 _ _ om om ?_
  by_cases h0:0<r.x0
  ·refine .inr (.inr ⟨k-1,?_,om,?_,a0 (b0 h0)⟩)
   ·have:=b0 h0;have h2:0<=cy*nx:=Int.mul_nonneg om (by rw [j0];omega);omega
   ·unfold tixV;rw [p0 _ om om,t0 h0];omega
  ·exact .inl om
 ·unfold topV
  refine List.map_congr_left fun m hm=>?_
  have hm:=List.mem_range.1 hm
  refine m0 _ _ om om ?_
  by_cases h0:0<r.y0
  ·exact .inr (.inr ⟨k-colsN W.w W.h tw th,by have:=c0 h0;omega,om,(by unfold tixV;rw [n0 _ om om,u0 h0,Int.sub_mul,Int.one_mul];omega),r0 (by have:=c0 h0;omega)⟩)
  ·exact .inr (.inl om)
 ·refine m0 _ _ om om ?_
  by_cases h0:0<r.x0
  ·by_cases h3:0<r.y0
   ·refine .inr (.inr ⟨k-1-colsN W.w W.h tw th,?_,om,?_,e0 (b0 h0) (by have:=c0 h3;omega)⟩)
    ·have h1:=b0 h0
     have h2:=c0 h3
     by_cases h4:k=nx
     ·rw [h4,j0,Int.emod_self] at f0;omega
     ·omega
    ·unfold tixV;rw [t0 h0,u0 h3,Int.sub_mul,Int.one_mul];omega
   ·exact .inr (.inl om)
  ·exact .inl om
theorem ord_tile {n k:Int} (hn:n∈(layV j tw th).od) (h4:¬((layV j tw th).st n).kind=4) (hk:0<=k/\k<(layV j tw th).nx n*(layV j tw th).ny n) (hd:∀d∈((layV j tw th).tileT n k).deps,D[d.toNat]?=some true) {q':PlaneV} (hq:twoP ((layV j tw th).st n)->q'=plAt PL ((layV j tw th).st n).b) {l:List (List Int)}:
  cmpT ((layV j tw th).st n) 0 ((layV j tw th).tile n k) (plAt PL ((layV j tw th).st n).a) q' (plAt PL n) l=(cutP (plAt (meanV j) n) ((layV j tw th).tile n k),0):=by
 have g:=lay_ok (shp_ok hz) htp
 have a0:=node_ok hz hn
 obtain ⟨en,l0⟩:=tile_f (tw:=tw) (th:=th) hz hn h4;have et:=l0 k
 have e0:∀y∈srcs ((layV j tw th).st n),∀d∈(layV j tw th).srcDeps ((layV j tw th).st n) ((layV j tw th).tile n k) y,D[d.toNat]?=some true:=fun y hy d h=>hd d (by
  show d∈canonV _;rw [mem_canon];exact List.mem_append_left _ (List.mem_flatMap.2 ⟨y,hy,h⟩))
 have c0:∀y∈srcs ((layV j tw th).st n),planeOK (plAt (meanV j) y)=true->planeOK (plAt PL y)=true/\shpOf (plAt PL y)=shpOf (plAt (meanV j) y):=fun y hy m0=>by
  rcases (g.src hn y hy).2.2 with h|h
  ·rw [hO.inp y (g.src hn y hy).1 h];exact ⟨m0,rfl⟩
  ·exact hO.ok y h
 have ha:=srcs_a ((layV j tw th).st n)
 have hg:=src_agr hz htp hO hn ha (e0 _ ha)
 have f0:=c0 _ ha a0.pa
 have k0:=ok_fineA a0.ok htp
 rw [en] at hk
 have b0:((layV j tw th).st n).kind=5->NearP (plAt (meanV j) n) (plAt PL n) ((layV j tw th).tile n k):=fun h5=>near_full hz htp hO hn h5 (by rw [en];exact hk) hd
 rw [et] at hg b0⊢
 refine til_right (q:=plAt (meanV j) ((layV j tw th).st n).b) a0.pa a0.pb a0.of f0.1 f0.2 (fun h2=>?_) a0.eq h4 k0 hk hg (fun h2 x y hi=>?_) (fun h5=>⟨(hO.ok n hn).1,(hO.ok n hn).2,b0 h5⟩)
 ·rw [hq h2];exact c0 _ (srcs_b h2) (a0.pb h2)
 ·rw [hq h2]
  have hb:=srcs_b h2
  have g0:=c0 _ hb (a0.pb h2)
  have i0:=src_agr hz htp hO hn hb (e0 _ hb)
  rw [et] at i0
  have hr:=tile_rIn k0 hk
  have n0:=(plane_sz (p:=plAt (meanV j) ((layV j tw th).st n).b) (a0.pb h2)).1
  have h6:((layV j tw th).st n).kind=6:=by unfold twoP at h2;exact h2.1
  have j0:=(stg_ok a0.pa a0.pb a0.of).2.2
  have hv:=of_k a0.of
  have d0:=hv.2
  have h0:(plAt (meanV j) n).w=(plAt (meanV j) ((layV j tw th).st n).b).w/\(plAt (meanV j) n).h=(plAt (meanV j) ((layV j tw th).st n).b).h:=by
   rw [<-a0.eq,hv.1] at j0
   have e1:=congrArg Shape.w j0
   have e2:=congrArg Shape.h j0
   unfold kernelV at e1 e2 d0
   have k1:¬(stgAt j.stages j.inputs.length n).kind=1:=fun e=>by have:(stgAt j.stages j.inputs.length n).kind=6:=h6;omega
   have k2:¬(stgAt j.stages j.inputs.length n).kind=2:=fun e=>by have:(stgAt j.stages j.inputs.length n).kind=6:=h6;omega
   have k3:¬(stgAt j.stages j.inputs.length n).kind=3:=fun e=>by have:(stgAt j.stages j.inputs.length n).kind=6:=h6;omega
   have k4:¬(stgAt j.stages j.inputs.length n).kind=4:=h4
   have k5:¬(stgAt j.stages j.inputs.length n).kind=5:=fun e=>by have:(stgAt j.stages j.inputs.length n).kind=6:=h6;omega
   rw [if_neg k1,if_neg k2,if_neg k3,if_neg k4,if_neg k5] at e1 e2 d0
   split at d0
   ·rename_i hp0
    rw [if_pos hp0] at e1 e2
    split at d0
    ·exact absurd d0 (by simp)
    ·rename_i h7
     rw [if_neg h7] at e1 e2
     have h8:(shpOf (plAt (meanV j) (stgAt j.stages j.inputs.length n).a)).w=(shpOf (plAt (meanV j) (stgAt j.stages j.inputs.length n).b)).w/\(shpOf (plAt (meanV j) (stgAt j.stages j.inputs.length n).a)).h=(shpOf (plAt (meanV j) (stgAt j.stages j.inputs.length n).b)).h:=by
      by_cases h8:(shpOf (plAt (meanV j) (stgAt j.stages j.inputs.length n).a)).w=(shpOf (plAt (meanV j) (stgAt j.stages j.inputs.length n).b)).w/\(shpOf (plAt (meanV j) (stgAt j.stages j.inputs.length n).a)).h=(shpOf (plAt (meanV j) (stgAt j.stages j.inputs.length n).b)).h
      ·exact h8
      ·exact absurd ⟨h2,h8⟩ h7
     exact ⟨e1.trans h8.1,e2.trans h8.2⟩
   ·rename_i hp0;exact absurd d0 hp0
  rw [h0.1,h0.2] at hr
  rw [h0.1,h0.2] at i0 hi
  have o0:=hr
  unfold rIn at o0
  unfold sizeP at n0
  exact own_agr (s:=(layV j tw th).st n) (p:=plAt (meanV j) ((layV j tw th).st n).b) (p':=plAt PL ((layV j tw th).st n).b) (congrArg Shape.w g0.2) (congrArg Shape.h g0.2) (acc_of a0.of) (by unfold lenP;omega) (by unfold lenP;omega) i0 (show 3<((layV j tw th).st n).kind by omega) hr hi
end
theorem cells_leA {w h tw th:Int} (hf:fineP w h tw th):colsN w h tw th*rowsN w h tw th<=w*h:=by
  have hc:=cols_bd hf
  unfold colsN rowsN at hc⊢
  rw [if_pos hf,if_pos hf] at hc⊢
  have a0:=hf;unfold fineP at a0
  exact Int.mul_le_mul (ceil_le a0.1.1 a0.2.2.1.1) (ceil_le a0.2.1.1 a0.2.2.2.1) (by omega) (by omega)
theorem cut_len {W:PlaneV} {r:Rct} {w h:Int} (hr:rIn r w h):(((cutP W r).length:Nat):Int)=(r.x1-r.x0)*(r.y1-r.y0):=by
  have:=arN_eq hr;unfold cutP;rw [grid_len];omega
theorem cut_at {W:PlaneV} {r:Rct} {w h x y:Int} (hr:rIn r w h) (hi:inR2 r x y):(cutP W r).getD ((y-r.y0)*(r.x1-r.x0)+(x-r.x0)).toNat 0=pixAt W x y:=by
  exact (mk_get (r:=r) (mx:=0) (f:=pixAt W) hr hi)
theorem put_tile {P W:PlaneV} {r:Rct} (hP:planeOK P=true) (hW:planeOK W=true) (hs:shpOf P=shpOf W) (hr:rIn r W.w W.h):
  (putT P 0 r (cutP W r)).2=0/\planeOK (putT P 0 r (cutP W r)).1=true/\shpOf (putT P 0 r (cutP W r)).1=shpOf W/\∀x y,0<=x/\x<W.w->0<=y/\y<W.h->pixAt (putT P 0 r (cutP W r)).1 x y=if inR2 r x y then pixAt W x y else pixAt P x y:=by
 have ew:P.w=W.w:=congrArg Shape.w hs
 have eh:P.h=W.h:=congrArg Shape.h hs
 have em:P.max_=W.max_:=congrArg Shape.max_ hs
 have hl:=(plane_sz hP)
 have a0:∀z∈cutP W r,0<=z/\z<=P.max_:=fun z hz=>by
  unfold cutP gridN at hz
  obtain ⟨k,_,rfl⟩:=List.mem_map.1 hz
  rw [em];exact pixAt_bd hW _ _
 have hC:putC P 0 r (cutP W r)=0:=(by unfold putC;rw [if_pos ⟨hP, .inl rfl⟩,if_pos ⟨by rw [ew,eh];exact hr,cut_len hr⟩,if_pos];unfold inM;rw [List.all_eq_true];exact fun z hz=>decide_eq_true (a0 z hz))
 have e:putT P 0 r (cutP W r)=(⟨P.w,P.h,P.max_,putL P r (cutP W r)⟩,0):=by unfold putT;rw [okT_0 hC]
 rw [e]
 refine ⟨rfl,plane_mk hl.1 (by dsimp only;rw [put_len];exact hl.2.1) (fun z hz=>?_),by unfold shpOf;dsimp only;rw [ew,eh,em],fun x y hx hy=>?_⟩
 ·dsimp only at hz⊢
  unfold putL gridN at hz
  obtain ⟨k,_,rfl⟩:=List.mem_map.1 hz
  dsimp only
  split
  · exact (by rename_i hi;rw [cut_at hr hi,em];exact pixAt_bd hW _ _)
  ·exact pixAt_bd hP _ _
 ·dsimp only
  rw [put_at hl.2.1 om om]
  by_cases hi:inR2 r x y
  ·rw [if_pos hi,if_pos hi,cut_at hr hi]
  ·rw [if_neg hi,if_neg hi]
theorem put_whole {P W:PlaneV} (hP:planeOK P=true) (hW:planeOK W=true) (hs:shpOf P=shpOf W):putT P 2 ⟨0,0,W.w,W.h⟩ W.pix=(W,0):=by
 have ew:P.w=W.w:=congrArg Shape.w hs
 have eh:P.h=W.h:=congrArg Shape.h hs
 have em:P.max_=W.max_:=congrArg Shape.max_ hs
 have hl:=plane_sz hP
 have hw:=plane_sz hW
 have a0:=hw.1;unfold sizeP at a0
 have hC:putC P 2 ⟨0,0,W.w,W.h⟩ W.pix=0:=(by unfold putC;rw [if_pos ⟨hP, .inr rfl⟩,if_pos ⟨by unfold rIn;dsimp only;omega,by dsimp only;rw [hw.2.1];congr 1<;>omega⟩,if_pos];unfold inM;rw [List.all_eq_true];exact fun z hz=>decide_eq_true (by rw [em];exact hw.2.2 z hz))
 unfold putT
 rw [okT_0 hC]
 congr 1
 exact plane_ext (by unfold shpOf;dsimp only;rw [ew,eh,em]) (by dsimp only;rw [put_len];exact hl.2.1) hw.2.1 (by dsimp only;omega) (fun x y hx hy=>(by dsimp only at hx hy;rw [put_at hl.2.1 hx hy,if_pos (by unfold inR2;dsimp only;omega)];unfold pixAt;congr 1;dsimp only;rw [show y-0=y by omega,show x-0=x by omega,show W.w-0=W.w by omega]))
section
variable {j:JobV} (hz:(shpV j).2.2=0) {tw th:Int} (htp:tileP tw th) {D:List Bool} {R:List (List Int)} {PL:List PlaneV} (hO:OI j tw th D R PL)
include hz htp hO
theorem src_ok {n y:Int} (hn:n∈(layV j tw th).od) (hy:y∈srcs ((layV j tw th).st n)) (hpo:planeOK (plAt (meanV j) y)=true):planeOK (plAt PL y)=true/\shpOf (plAt PL y)=shpOf (plAt (meanV j) y):=by
  have g:=lay_ok (shp_ok hz) htp
  rcases (g.src hn y hy).2.2 with h|h
  · rw [hO.inp y (g.src hn y hy).1 h];exact ⟨hpo,rfl⟩
  · exact hO.ok y h
theorem ord_hist {n k:Int} (hn:n∈(layV j tw th).od) (h4:((layV j tw th).st n).kind=4) (hk:0<=k/\k<(layV j tw th).nx n*(layV j tw th).ny n) (hd:∀d∈((layV j tw th).tileT n k).deps,D[d.toNat]?=some true) {q' own:PlaneV} {l:List (List Int)}:
  cmpT ((layV j tw th).st n) 1 ((layV j tw th).tile n k) (plAt PL ((layV j tw th).st n).a) q' own l=(partV (plAt (meanV j) ((layV j tw th).st n).a) ((layV j tw th).st n).bins ((layV j tw th).tile n k),0):=by
 have a0:=node_ok hz hn
 have h2:¬twoP ((layV j tw th).st n):=fun h2=>by unfold twoP at h2;omega
 obtain ⟨en,c0⟩:=part_f (tw:=tw) (th:=th) hz hn h4;have et:=c0 k
 have ha:=srcs_a ((layV j tw th).st n)
 have hg:=src_agr hz htp hO hn ha (r:=(layV j tw th).tile n k) (fun d h=>hd d (by show d∈canonV _;rw [mem_canon];exact List.mem_append_left _ (List.mem_flatMap.2 ⟨_,ha,h⟩)))
 have b0:=src_ok hz htp hO hn ha a0.pa
 rw [en] at hk
 rw [et] at hg⊢
 exact hist_right (q:=plAt (meanV j) ((layV j tw th).st n).b) a0.pa (fun e=>absurd e h2) a0.of b0.1 b0.2 (fun e=>absurd e h2) h4 (ok_fineA a0.pa htp) hk hg
theorem ord_merge {n:Int} (hn:n∈(layV j tw th).od) (h4:((layV j tw th).st n).kind=4) {q' own:PlaneV} {l:List (List Int)}
  (hl:l=(List.range ((layV j tw th).nx n*(layV j tw th).ny n).toNat).map fun (k:Nat)=>partV (plAt (meanV j) ((layV j tw th).st n).a) ((layV j tw th).st n).bins ((layV j tw th).tile n (k:Int))):
  cmpT ((layV j tw th).st n) 2 ⟨0,0,((layV j tw th).st n).bins,1⟩ (plAt PL ((layV j tw th).st n).a) q' own l=((plAt (meanV j) n).pix,0)/\(plAt (meanV j) n).w=((layV j tw th).st n).bins/\(plAt (meanV j) n).h=1:=by
 have g:=lay_ok (shp_ok hz) htp
 have b0:=node_ok hz hn
 have h2:¬twoP ((layV j tw th).st n):=fun h2=>by unfold twoP at h2;omega
 obtain ⟨P,hP⟩:∃z,z=plAt (meanV j) ((layV j tw th).st n).a:=⟨_,rfl⟩
 obtain ⟨Q,hQ⟩:∃z,z=plAt (meanV j) ((layV j tw th).st n).b:=⟨_,rfl⟩
 obtain ⟨s,hs⟩:∃z,z=(layV j tw th).st n:=⟨_,rfl⟩
 have ec:(layV j tw th).cut n=shpOf P:=by rw [cut_f hz hn,if_pos h4,hP]
 have en:(layV j tw th).nx n*(layV j tw th).ny n=colsN P.w P.h tw th*rowsN P.w P.h tw th:=by unfold Lay.nx Lay.ny;rw [ec];rfl
 have et:∀k:Int,(layV j tw th).tile n k=tileV P.w P.h tw th k:=fun k=>by unfold Lay.tile;rw [ec];rfl
 have a0:planeOK P=true:=by rw [hP];exact b0.pa
 have e0:(ofV s (shpOf P) (shpOf Q)).2=0:=by rw [hs,hP,hQ];exact b0.of
 have f0:plAt (meanV j) n=(stgT s P Q).1:=by rw [hs,hP,hQ];exact b0.eq
 have d0:=src_ok hz htp hO hn (srcs_a _) b0.pa
 rw [show plAt (meanV j) ((layV j tw th).st n).a=P from hP.symm] at d0
 rw [<-hs] at h2 h4 hl hP⊢
 rw [<-hP] at hl
 have hb:=hist_bins a0 (fun e=>absurd e h2) e0 h4
 have hf:=ok_fineA a0 htp
 have i0:=cells_leA hf
 have h0:=(plane_sz a0).1
 unfold sizeP at h0
 have g0:=(g.grid hn).2.2
 simp only [et] at hl
 rw [en] at hl g0
 have hm:=hist_merge a0 hb.1 hf (n:=(colsN P.w P.h tw th*rowsN P.w P.h tw th).toNat) om om hl
 have c0:(ofV s (shpOf (plAt PL s.a)) (shpOf q')).2=0:=by rw [show shpOf (plAt PL s.a)=shpOf P by rw [hs];exact d0.2,of_any (u:=shpOf Q) h2];exact e0
 have hw:=hist_whole a0 hb.1
 rw [cmp_2 (hist_cmp (p:=plAt PL s.a) (q:=q') (by rw [hs];exact d0.1) (fun e=>absurd e h2) c0 h4 (.inr rfl)) rfl,mrgB_eq,if_pos hm.1,if_pos hm.2.1,hm.2.2,f0,hb.2]
 exact ⟨rfl,congrArg Shape.w hw.2.2,congrArg Shape.h hw.2.2⟩
end
theorem idx_inj {L:Lay} (g:LayG L) {n m k q:Int} (hn:n∈L.od) (hm:m∈L.od) (h0:0<=k) (h1:k<L.cnt n) (q0:0<=q) (q1:q<L.cnt m) (e:(L.first n+k).toNat=(L.first m+q).toNat):n=m/\k=q:=by
  obtain ⟨y,hy,hs⟩:=all_get g hn h0 h1
  rw [e] at hy
  have e2:n=m:=hs.symm.trans (stage_at g hm q0 q1 hy)
  subst e2
  have:=(g.firstb hn).1
  exact ⟨rfl,by omega⟩
theorem idx_ne {L:Lay} (g:LayG L) {n m k q:Int} (hn:n∈L.od) (h0:0<=k) (h1:k<L.cnt n) (hm:m∈L.od) (q0:0<=q) (q1:q<L.cnt m) (h:¬(m=n/\q=k)):(L.first n+k).toNat≠(L.first m+q).toNat:=fun e=>by
  have:=idx_inj g hn hm h0 h1 q0 q1 e
  exact h ⟨this.1.symm,this.2.symm⟩
theorem set_tr {D:List Bool} {i m:Nat} (h:(D.set i true)[m]?=some true) (hne:i≠m):D[m]?=some true:=by
  rwa [List.getElem?_set,if_neg hne] at h
theorem tr_set {D:List Bool} {i m:Nat} (h:D[m]?=some true):(D.set i true)[m]?=some true:=by
  rw [List.getElem?_set]
  have:=(List.getElem?_eq_some_iff.1 h).1
  split
  · rename_i e;rw [if_pos (by omega)]
  · exact h
def ptsV (ts:List TaskV) (R:List (List Int)) (ds:List Int):List (List Int):=ds.flatMap fun d=>if (ts[d.toNat]?.map TaskV.part)=some 1 then [R.getD d.toNat []] else []
theorem pts_map {ts:List TaskV} {R:List (List Int)} {f:Int->List Int}:∀ds:List Int,(∀d∈ds,(ts[d.toNat]?.map TaskV.part)=some 1/\R.getD d.toNat []=f d)->ptsV ts R ds=ds.map f
  |[],_=>rfl
  |d::ds,h=>by
    have h1:=h d (List.mem_cons_self ..)
    have h2:=pts_map ds (fun x hx=>h x (List.mem_cons_of_mem _ hx))
    unfold ptsV at h2⊢
    rw [List.flatMap_cons,if_pos h1.1,h1.2,h2];rfl
theorem merge_getA {L:Lay} {n:Int} (h:(L.st n).kind=4):(L.tasks n)[(L.nx n*L.ny n).toNat]?=some (L.mergeT n):=by
  unfold Lay.tasks
  rw [List.getElem?_append_right (by rw [List.length_map,upto_len];omega),List.length_map,upto_len,if_pos h,Nat.sub_self];rfl
theorem upto_asc {a:Int} {n:Nat}:Asc ((uptoV n).map (a+·)):=by
  unfold Asc uptoV
  rw [List.map_map,List.pairwise_map]
  refine List.Pairwise.imp ?_ List.pairwise_lt_range
  intro x y h
  simp only [Function.comp];omega
section
variable {j:JobV} (hz:(shpV j).2.2=0) {tw th:Int} (htp:tileP tw th) {D:List Bool} {R:List (List Int)} {PL:List PlaneV} (hO:OI j tw th D R PL)
include hz htp hO
theorem oi_cl {i:Nat} {z:TaskV} (hzi:(layV j tw th).all[i]?=some z) (hd:∀d∈z.deps,D[d.toNat]?=some true):
    ∀(a:Nat) (u:TaskV) (d:Int),(layV j tw th).all[a]?=some u->(D.set i true)[a]?=some true->d∈u.deps->(D.set i true)[d.toNat]?=some true:=fun a u d h1 h2 h3=>by
  by_cases e:i=a
  · subst e;rw [hzi] at h1;obtain rfl:=Option.some.inj h1;exact tr_set (hd d h3)
  · exact tr_set (hO.cl a u d h1 (set_tr h2 e) h3)
theorem oi_tile {n k:Int} {l:List Int} {Q:PlaneV} (hn:n∈(layV j tw th).od) (h4:¬((layV j tw th).st n).kind=4) (hk:0<=k/\k<(layV j tw th).nx n*(layV j tw th).ny n) (hd:∀d∈((layV j tw th).tileT n k).deps,D[d.toNat]?=some true)
  (hQ:planeOK Q=true) (hs:shpOf Q=shpOf (plAt (meanV j) n)) (hp:∀x y,inR2 ((layV j tw th).tile n k) x y->pixAt Q x y=pixAt (plAt (meanV j) n) x y) (hp2:∀x y,0<=x/\x<(plAt (meanV j) n).w->0<=y/\y<(plAt (meanV j) n).h->¬inR2 ((layV j tw th).tile n k) x y->pixAt Q x y=pixAt (plAt PL n) x y):
  OI j tw th (D.set ((layV j tw th).first n+k).toNat true) (R.set ((layV j tw th).first n+k).toNat l) (PL.set n.toNat Q):=by
 have g:=lay_ok (shp_ok hz) htp
 have hr:=g.rng n hn
 have p0:(j.inputs.length:Int)<=n/\n<(j.inputs.length:Int)+j.stages.length:=hr
 have n0:=cnt_0 (L:=layV j tw th) h4
 have f0:=at_all g hn (tile_getA (L:=layV j tw th) (n:=n) (j:=k.toNat) om)
 rw [show (k.toNat:Int)=k by omega] at f0
 have l0:=hO.pl
 have c0:plAt (PL.set n.toNat Q) n=Q:=plAt_set_self om
 have b0:∀m:Int,0<=m->m≠n->plAt (PL.set n.toNat Q) m=plAt PL m:=fun m h0 h=>plAt_set om
 have e0:∀m∈(layV j tw th).od,0<=m:=fun m hm=>by have:=g.rng m hm;have:=g.ni;omega
 refine ⟨by rw [List.length_set];exact hO.dl,by rw [List.length_set];exact hO.rl,by rw [List.length_set];exact l0,oi_cl hz htp hO f0 hd,fun m h0 h1=>?_,fun m hm=>?_,fun m hm a0 q q0 q1 hD x y hi=>?_,fun m hm a0 hD=>?_,fun m hm a0 q q0 q1 hD=>?_⟩
 ·rw [b0 m h0 om];exact hO.inp m h0 h1
 ·by_cases e:m=n
  ·subst e;rw [c0];exact ⟨hQ,hs⟩
  ·rw [b0 m (e0 m hm) e];exact hO.ok m hm
 ·have m0:=cnt_0 a0
  by_cases e:m=n
  ·subst e
   rw [c0]
   by_cases d0:inR2 ((layV j tw th).tile m k) x y
   ·exact hp x y d0
   · exact (by have k0:=node_ok hz hm;have hf:=ok_fineA k0.ok htp;obtain ⟨en,i0⟩:=tile_f (tw:=tw) (th:=th) hz hm h4;have et:=i0 q;have g0:=tile_rIn hf ⟨q0,by rw [<-en];exact q1⟩;rw [<-et] at g0;have j0:=hi;unfold rIn at g0;unfold inR2 at j0;rw [hp2 x y om om d0];exact hO.til m hm a0 q q0 q1 (set_tr hD (idx_ne g hn hk.1 om hm q0 om (fun e2=>by rw [e2.2] at hi;exact d0 hi))) x y hi)
  · exact (by rw [b0 m (e0 m hm) e];exact hO.til m hm a0 q q0 q1 (set_tr hD (idx_ne g hn hk.1 om hm q0 om (fun e2=>e e2.1))) x y hi)
 · exact (by have e:m≠n:=fun e=>h4 (e▸a0);have o0:=(g.grid hm).2.2;rw [b0 m (e0 m hm) e];exact hO.mrg m hm a0 (set_tr hD (idx_ne g hn hk.1 om hm om (by rw [cnt_4 a0];omega) (fun e2=>e e2.1))))
 · exact (by have e:m≠n:=fun e=>h4 (e▸a0);have hx:=idx_ne g hn hk.1 om hm q0 (by rw [cnt_4 a0];omega) (fun e2=>e e2.1);rw [List.getElem?_set,if_neg hx];exact hO.prt m hm a0 q q0 q1 (set_tr hD hx))
theorem oi_part {n k:Int} (hn:n∈(layV j tw th).od) (h4:((layV j tw th).st n).kind=4) (hk:0<=k/\k<(layV j tw th).nx n*(layV j tw th).ny n) (hd:∀d∈((layV j tw th).tileT n k).deps,D[d.toNat]?=some true):
  OI j tw th (D.set ((layV j tw th).first n+k).toNat true) (R.set ((layV j tw th).first n+k).toNat (partV (plAt (meanV j) ((layV j tw th).st n).a) ((layV j tw th).st n).bins ((layV j tw th).tile n k))) PL:=by
 have g:=lay_ok (shp_ok hz) htp
 have d0:=cnt_4 h4
 have b0:=at_all g hn (tile_getA (L:=layV j tw th) (n:=n) (j:=k.toNat) om)
 rw [show (k.toNat:Int)=k by omega] at b0
 have c0:=(List.getElem?_eq_some_iff.1 b0).1
 refine ⟨by rw [List.length_set];exact hO.dl,by rw [List.length_set];exact hO.rl,hO.pl,oi_cl hz htp hO b0 hd,hO.inp,hO.ok,fun m hm a0 q q0 q1 hD=>?_,fun m hm a0 hD=>?_,fun m hm a0 q q0 q1 hD=>?_⟩
 ·exact hO.til m hm a0 q q0 q1 (set_tr hD (idx_ne g hn hk.1 om hm q0 (by rw [cnt_0 a0];exact q1) (fun e2=>a0 (e2.1▸h4))))
 · exact (by have e0:=(g.grid hm).2.2;exact hO.mrg m hm a0 (set_tr hD (idx_ne g hn hk.1 om hm om (by rw [cnt_4 a0];omega) (fun e2=>by obtain ⟨rfl,e3⟩:=e2;omega))))
 ·by_cases e:m=n/\q=k
  · exact (by obtain ⟨rfl,rfl⟩:=e;rw [List.getElem?_set,if_pos rfl,if_pos (by rw [hO.rl];exact c0)])
  · exact (by have hx:=idx_ne g hn hk.1 om hm q0 (by rw [cnt_4 a0];omega) e;rw [List.getElem?_set,if_neg hx];exact hO.prt m hm a0 q q0 q1 (set_tr hD hx))
theorem oi_merge {n:Int} {l:List Int} (hn:n∈(layV j tw th).od) (h4:((layV j tw th).st n).kind=4) (hd:∀d∈((layV j tw th).mergeT n).deps,D[d.toNat]?=some true):
  OI j tw th (D.set ((layV j tw th).first n+(layV j tw th).nx n*(layV j tw th).ny n).toNat true) (R.set ((layV j tw th).first n+(layV j tw th).nx n*(layV j tw th).ny n).toNat l) (PL.set n.toNat (plAt (meanV j) n)):=by
 have g:=lay_ok (shp_ok hz) htp
 have k0:(j.inputs.length:Int)<=n/\n<(j.inputs.length:Int)+j.stages.length:=g.rng n hn
 have g0:=cnt_4 h4
 have i0:=(g.grid hn).2.2
 have e0:=at_all g hn (merge_getA (L:=layV j tw th) h4)
 rw [show ((((layV j tw th).nx n*(layV j tw th).ny n).toNat:Nat):Int)=(layV j tw th).nx n*(layV j tw th).ny n by omega] at e0
 have f0:=hO.pl
 have c0:plAt (PL.set n.toNat (plAt (meanV j) n)) n=plAt (meanV j) n:=plAt_set_self om
 have b0:∀m:Int,0<=m->m≠n->plAt (PL.set n.toNat (plAt (meanV j) n)) m=plAt PL m:=fun m h0 h=>plAt_set om
 have d0:∀m∈(layV j tw th).od,0<=m:=fun m hm=>by have:=g.rng m hm;have:=g.ni;omega
 refine ⟨by rw [List.length_set];exact hO.dl,by rw [List.length_set];exact hO.rl,by rw [List.length_set];exact f0,oi_cl hz htp hO e0 hd,fun m h0 h1=>?_,fun m hm=>?_,fun m hm a0 q q0 q1 hD=>?_,fun m hm a0 hD=>?_,fun m hm a0 q q0 q1 hD=>?_⟩
 ·rw [b0 m h0 om];exact hO.inp m h0 h1
 ·by_cases e:m=n
  ·subst e;rw [c0];exact ⟨(node_ok hz hm).ok,rfl⟩
  ·rw [b0 m (d0 m hm) e];exact hO.ok m hm
 · exact (by have e:m≠n:=fun e=>a0 (e▸h4);rw [b0 m (d0 m hm) e];exact hO.til m hm a0 q q0 q1 (set_tr hD (idx_ne g hn om om hm q0 (by rw [cnt_0 a0];exact q1) (fun e2=>e e2.1))))
 ·by_cases e:m=n
  ·subst e;exact c0
  · exact (by have j0:=(g.grid hm).2.2;rw [b0 m (d0 m hm) e];exact hO.mrg m hm a0 (set_tr hD (idx_ne g hn om om hm om (by rw [cnt_4 a0];omega) (fun e2=>e e2.1))))
 · exact (by have hx:=idx_ne (k:=(layV j tw th).nx n*(layV j tw th).ny n) g hn om om hm q0 (by rw [cnt_4 a0];omega) (fun e2=>by obtain ⟨rfl,e3⟩:=e2;omega);rw [List.getElem?_set,if_neg hx];exact hO.prt m hm a0 q q0 q1 (set_tr hD hx))
end
section
variable {j:JobV} (hz:(shpV j).2.2=0) {tw th:Int} (htp:tileP tw th) {D:List Bool} {R:List (List Int)} {PL:List PlaneV} (hO:OI j tw th D R PL)
include hz htp hO
theorem ord_step {i:Nat} {z:TaskV} (hzi:(layV j tw th).all[i]?=some z) (hd:∀d∈z.deps,D[d.toNat]?=some true) {q':PlaneV} (hq:twoP ((layV j tw th).st z.stage)->q'=plAt PL ((layV j tw th).st z.stage).b) {l:List Int} {c:Int}
  (hv:(l,c)=cmpT ((layV j tw th).st z.stage) z.part ⟨z.rectX0,z.rectY0,z.rectX1,z.rectY1⟩ (plAt PL ((layV j tw th).st z.stage).a) q' (plAt PL z.stage) (ptsV (layV j tw th).all R z.deps)):
  c=0/\(z.part=1->OI j tw th (D.set i true) (R.set i l) PL)/\(¬z.part=1->∀(Q:PlaneV) (e:Int),(Q,e)=putT (plAt PL z.stage) z.part ⟨z.rectX0,z.rectY0,z.rectX1,z.rectY1⟩ l->e=0/\OI j tw th (D.set i true) (R.set i l) (PL.set z.stage.toNat Q)):=by
 have g:=lay_ok (shp_ok hz) htp
 obtain ⟨n,k,hn,hk,hi⟩:=all_at g hzi
 have m0:=(g.grid hn).2.2
 have d0:=node_ok hz hn
 rcases tasks_at g hn hk with ⟨a0,rfl⟩|⟨h4,n0,rfl⟩
 ·have ei:i=((layV j tw th).first n+(k:Int)).toNat:=by omega
  have es:((layV j tw th).tileT n k).stage=n:=rfl
  have er:(⟨((layV j tw th).tileT n k).rectX0,((layV j tw th).tileT n k).rectY0,((layV j tw th).tileT n k).rectX1,((layV j tw th).tileT n k).rectY1⟩:Rct)=(layV j tw th).tile n k:=rfl
  rw [es] at hq hv⊢
  rw [er] at hv⊢
  by_cases h4:((layV j tw th).st n).kind=4
  · exact (by have ep:((layV j tw th).tileT n k).part=1:=(by show (layV j tw th).part n=1;unfold Lay.part;rw [if_pos h4]);rw [ep] at hv⊢;rw [ord_hist hz htp hO hn h4 ⟨om,a0⟩ hd] at hv;obtain ⟨rfl,rfl⟩:=Prod.mk.inj hv;exact ⟨rfl,fun _=>(by rw [ei];exact oi_part hz htp hO hn h4 ⟨om,a0⟩ hd),fun h=>absurd rfl h⟩)
  ·have ep:((layV j tw th).tileT n k).part=0:=by show (layV j tw th).part n=0;unfold Lay.part;rw [if_neg h4]
   rw [ep] at hv⊢
   rw [ord_tile hz htp hO hn h4 ⟨om,a0⟩ hd hq] at hv
   obtain ⟨rfl,rfl⟩:=Prod.mk.inj hv
   refine ⟨rfl,fun h=>absurd h (by decide),fun _ Q e hQ=>?_⟩
   obtain ⟨en,i0⟩:=tile_f (tw:=tw) (th:=th) hz hn h4;have et:=i0 k
   have e0:=tile_rIn (i:=(k:Int)) (ok_fineA d0.ok htp) ⟨om,by rw [<-en];exact a0⟩
   rw [<-et] at e0
   have b0:=hO.ok n hn
   have hp:=put_tile b0.1 d0.ok b0.2 e0
   rw [<-hQ] at hp
   refine ⟨hp.1,?_⟩
   rw [ei]
   refine oi_tile hz htp hO hn h4 ⟨om,a0⟩ hd hp.2.1 hp.2.2.1 (fun x y h=>?_) (fun x y hx hy h=>?_)
   · exact (by have h0:=h;have h1:=e0;unfold rIn at h1;unfold inR2 at h0;have:=hp.2.2.2 x y om om;rw [if_pos h] at this;exact this)
   · exact (by have:=hp.2.2.2 x y hx hy;rw [if_neg h] at this;exact this)
 ·have ei:i=((layV j tw th).first n+(layV j tw th).nx n*(layV j tw th).ny n).toNat:=by omega
  have es:((layV j tw th).mergeT n).stage=n:=rfl
  have ep:((layV j tw th).mergeT n).part=2:=rfl
  have er:(⟨((layV j tw th).mergeT n).rectX0,((layV j tw th).mergeT n).rectY0,((layV j tw th).mergeT n).rectX1,((layV j tw th).mergeT n).rectY1⟩:Rct)=⟨0,0,((layV j tw th).st n).bins,1⟩:=rfl
  have ed:((layV j tw th).mergeT n).deps=(uptoV ((layV j tw th).nx n*(layV j tw th).ny n).toNat).map ((layV j tw th).first n+·):=canon_asc upto_asc
  rw [es] at hq hv⊢
  rw [ep,er] at hv⊢
  have l0:=cnt_4 (L:=layV j tw th) h4
  have k0:ptsV (layV j tw th).all R ((layV j tw th).mergeT n).deps=(List.range ((layV j tw th).nx n*(layV j tw th).ny n).toNat).map fun (k:Nat)=>partV (plAt (meanV j) ((layV j tw th).st n).a) ((layV j tw th).st n).bins ((layV j tw th).tile n (k:Int)):=by
   rw [pts_map (f:=fun d=>partV (plAt (meanV j) ((layV j tw th).st n).a) ((layV j tw th).st n).bins ((layV j tw th).tile n (d-(layV j tw th).first n))) _ (fun d c0=>?_),ed,List.map_map]
   · exact (by unfold uptoV;rw [List.map_map];exact List.map_congr_left fun k _=>(by simp only [Function.comp];rw [show (layV j tw th).first n+(k:Int)-(layV j tw th).first n=(k:Int) by omega]))
   ·have j0:=hd d c0
    rw [ed] at c0
    obtain ⟨q,g0,rfl⟩:=List.mem_map.1 c0
    rw [mem_upto] at g0
    have f0:=at_all g hn (tile_getA (L:=layV j tw th) (n:=n) (j:=q.toNat) om)
    rw [show (q.toNat:Int)=q by omega] at f0
    refine ⟨?_,?_⟩
    · exact (by rw [f0];show some ((layV j tw th).part n)=some 1;unfold Lay.part;rw [if_pos h4])
    ·rw [List.getD_eq_getElem?_getD,hO.prt n hn h4 q g0.1 om j0,show (layV j tw th).first n+q-(layV j tw th).first n=q by omega];rfl
  have hm:=ord_merge hz htp hO hn h4 (q':=q') (own:=plAt PL n) k0
  rw [hm.1] at hv
  obtain ⟨rfl,rfl⟩:=Prod.mk.inj hv
  refine ⟨rfl,fun h=>absurd h (by decide),fun _ Q e hQ=>?_⟩
  have b0:=hO.ok n hn
  have hp:=put_whole b0.1 d0.ok b0.2
  rw [hm.2.1,hm.2.2] at hp
  rw [hp] at hQ
  obtain ⟨rfl,rfl⟩:=Prod.mk.inj hQ
  exact ⟨rfl,(by rw [ei];exact oi_merge hz htp hO hn h4 hd)⟩
theorem ord_end (hD:∀m:Nat,m<D.length->D[m]?=some true):PL=meanV j:=by
 have g:=lay_ok (shp_ok hz) htp
 have c0:=(mean_ok hz).1
 have a0:∀n k:Int,n∈(layV j tw th).od->0<=k->k<(layV j tw th).cnt n->D[((layV j tw th).first n+k).toNat]?=some true:=fun n k hn h0 h1=>by
  obtain ⟨y,hy,_⟩:=all_get g hn h0 h1
  exact hD _ (by rw [hO.dl];exact (List.getElem?_eq_some_iff.1 hy).1)
 have e0:∀m:Int,0<=m->m<(j.inputs.length:Int)+j.stages.length->plAt PL m=plAt (meanV j) m:=fun m h0 h1=>by
  by_cases hi:m<(j.inputs.length:Int)
  ·exact hO.inp m h0 hi
  ·have hm:m∈(layV j tw th).od:=g.every m (show (j.inputs.length:Int)<=m by omega) h1
   have g0:=(g.grid hm).2.2
   by_cases h4:((layV j tw th).st m).kind=4
   ·exact hO.mrg m hm h4 (a0 m _ hm om (by unfold Lay.cnt;rw [if_pos h4];omega))
   · exact (by have d0:=node_ok hz hm;have b0:=hO.ok m hm;have hf:=ok_fineA d0.ok htp;have ew:(plAt PL m).w=(plAt (meanV j) m).w:=congrArg Shape.w b0.2;have eh:(plAt PL m).h=(plAt (meanV j) m).h:=congrArg Shape.h b0.2;have f0:=(plane_sz d0.ok).1;unfold sizeP at f0;obtain ⟨en,et⟩:=tile_f (tw:=tw) (th:=th) hz hm h4;exact plane_ext b0.2 (plane_sz b0.1).2.1 (plane_sz d0.ok).2.1 om (fun x y hx hy=>(by rw [ew] at hx;rw [eh] at hy;have ht:=tix_rng hf hx hy;exact hO.til m hm h4 _ ht.1 (by rw [en];exact ht.2.1) (a0 m _ hm ht.1 (by unfold Lay.cnt;rw [if_neg h4,en];exact ht.2.1)) x y<|(by rw [et];exact (tix_in hf ⟨ht.1,ht.2.1⟩ hx hy).2 rfl))))
 refine List.ext_getElem? fun m=>?_
 by_cases hm:m<j.inputs.length+j.stages.length
 ·have h:=e0 (m:Int) om om
  unfold plAt at h
  rw [Int.toNat_natCast,List.getElem?_eq_getElem (by rw [hO.pl];exact hm),List.getElem?_eq_getElem (by rw [c0];exact hm)] at h
  rw [List.getElem?_eq_getElem (by rw [hO.pl];exact hm),List.getElem?_eq_getElem (by rw [c0];exact hm)]
  exact congrArg some h
 ·rw [List.getElem?_eq_none (by rw [hO.pl];omega),List.getElem?_eq_none (by rw [c0];omega)]
end
theorem add_emodA {a b n:Int}:(a+b%n)%n=(a+b)%n:=by rw [Int.add_emod,Int.emod_emod_of_dvd _ (Int.dvd_refl n),<-Int.add_emod]
theorem rep_tr {n m:Nat} (h:(List.replicate n false)[m]?=some true):False:=by
  rw [List.getElem?_replicate] at h
  split at h<;>simp at h
theorem mean_inp {j:JobV} (hz:(shpV j).2.2=0) {m:Int} (h0:0<=m) (h1:m<(j.inputs.length:Int)):plAt (meanV j) m=plAt j.inputs m:=by
  have ho:=shp_ok hz
  have hM:meanV j=meanG j.inputs.length j.stages (ordV j).1 (meanI j):=if_pos hz
  rw [hM,meanG_keep h0 _ _ (fun x hx=>by have:=ho.rng x hx;omega)]
  unfold meanI plAt
  rw [List.getElem?_append_left (by omega)]
def zeroQ (W:PlaneV):PlaneV:=⟨W.w,W.h,W.max_,List.replicate (W.w*W.h).toNat 0⟩
def iniP (j:JobV):List PlaneV:=j.inputs++((meanV j).drop j.inputs.length).map zeroQ
theorem ord_start {j:JobV} (hz:(shpV j).2.2=0) {tw th:Int} {N:Nat} (hN:N=(layV j tw th).all.length) (htp:tileP tw th) {PL:List PlaneV} (hP:PL=iniP j):OI j tw th (List.replicate N false) (List.replicate N []) PL:=by
 have g:=lay_ok (shp_ok hz) htp
 have b0:=(mean_ok hz).1
 subst hN hP
 refine ⟨List.length_replicate,List.length_replicate,by unfold iniP;rw [List.length_append,List.length_map,List.length_drop,b0];omega,fun i z d _ h=>(rep_tr h).elim,fun m h0 h1=>?_,fun n hn=>?_,fun n _ _ k _ _ h=>(rep_tr h).elim,fun n _ _ h=>(rep_tr h).elim,fun n _ _ k _ _ h=>(rep_tr h).elim⟩
 · exact (by rw [mean_inp hz h0 h1];unfold iniP plAt;rw [List.getElem?_append_left om])
 ·have hr:(j.inputs.length:Int)<=n/\n<(j.inputs.length:Int)+j.stages.length:=g.rng n hn
  have c0:=node_ok hz hn
  have e:plAt (iniP j) n=zeroQ (plAt (meanV j) n):=(by unfold iniP plAt;rw [List.getElem?_append_right om,List.getElem?_map,List.getElem?_drop,show j.inputs.length+(n.toNat-j.inputs.length)=n.toNat by omega,List.getElem?_eq_getElem om];rfl)
  rw [e]
  have hs:=(plane_sz c0.ok).1
  have d0:=hs
  unfold sizeP at d0
  have hm:=Int.mul_nonneg (show 0<=(plAt (meanV j) n).w by omega) (show 0<=(plAt (meanV j) n).h by omega)
  exact ⟨plane_mk hs (by unfold zeroQ;dsimp only;rw [List.length_replicate];omega) (fun z a0=>(by unfold zeroQ at a0⊢;dsimp only at a0⊢;rw [(List.mem_replicate.1 a0).2];omega)),rfl⟩
def rdyB (ts:List TaskV) (D:List Bool) (n:Nat):Bool:=!(D.getD n false)&&(ts[n]?.elim true fun z=>z.deps.all fun d=>D.getD d.toNat false)
theorem dn_at {D:List Bool} {n:Nat} {b:Bool} (h:D[n]?=some b):D.getD n false=b:=by rw [List.getD_eq_getElem?_getD,h];rfl
theorem rdy_deps {ts:List TaskV} {D:List Bool} {n:Nat} {z:TaskV} (h:rdyB ts D n=true) (hz:ts[n]?=some z):D.getD n false=false/\∀d∈z.deps,D[d.toNat]?=some true:=by
  unfold rdyB at h
  rw [hz] at h
  simp only [Bool.and_eq_true,Bool.not_eq_true',Option.elim_some,List.all_eq_true] at h
  refine ⟨h.1,fun d hd=>?_⟩
  have h2:=h.2 d hd
  rw [List.getD_eq_getElem?_getD] at h2
  cases h3:D[d.toNat]? with
  |none=>rw [h3] at h2;cases h2
  |some b=>rw [h3] at h2;cases b with
    |true=>rfl
    |false=>cases h2
theorem rdy_ex {L:Lay} (g:LayG L) {D:List Bool} (hl:D.length=L.all.length):∀n:Nat,D[n]?=some false->∃m,m<D.length/\rdyB L.all D m=true:=by
 intro n
 induction n using Nat.strongRecOn with
 |ind n ih=>
  intro h
  have hn:=(List.getElem?_eq_some_iff.1 h).1
  obtain ⟨z,hz⟩:∃z,L.all[n]?=some z:=⟨_,List.getElem?_eq_getElem om⟩
  by_cases hr:rdyB L.all D n=true
  ·exact ⟨n,hn,hr⟩
  ·unfold rdyB at hr
   rw [hz,dn_at h] at hr
   simp only [Bool.not_false,Bool.true_and,Option.elim_some,List.all_eq_true] at hr
   obtain ⟨d,hd⟩:=Classical.not_forall.1 hr
   obtain ⟨hd,hb⟩:=Classical.not_imp.1 hd
   have ho:=(dep_ok g hz hd).1
   have a0:D[d.toNat]?=some false:=by
    rw [List.getD_eq_getElem?_getD] at hb
    rw [List.getElem?_eq_getElem om] at hb⊢
    cases h3:D[d.toNat]'om with
    |true=>rw [h3] at hb;exact absurd rfl hb
    |false=>rfl
   exact ih d.toNat om a0
def nxtV (ts:List TaskV) (D:List Bool) (f:Int):Int:=match (List.range ts.length).find? fun (i:Nat)=>rdyB ts D ((f+(i:Int))%(ts.length:Int)).toNat with
  |some i=>(f+(i:Int))%(ts.length:Int)
  |none=>-1
def noR (ts:List TaskV) (D:List Bool) (f:Int) (n:Nat):Prop:=∀i,i<n->rdyB ts D ((f+(i:Int))%(ts.length:Int)).toNat=false
theorem nxt_hit {ts:List TaskV} {D:List Bool} {f:Int} {n:Nat} (h:noR ts D f n) (hn:n<ts.length) (hr:rdyB ts D ((f+(n:Int))%(ts.length:Int)).toNat=true):nxtV ts D f=(f+(n:Int))%(ts.length:Int):=by
  have e:((List.range ts.length).find? fun (i:Nat)=>rdyB ts D ((f+(i:Int))%(ts.length:Int)).toNat)=some n:=List.find?_range_eq_some.2 ⟨hr,List.mem_range.2 hn,fun j hj=>by rw [h j hj];rfl⟩
  unfold nxtV
  rw [e]
theorem nxt_none {ts:List TaskV} {D:List Bool} {f:Int} {n:Nat} (h:noR ts D f n) (hn:ts.length<=n):nxtV ts D f=-1:=by
  unfold nxtV
  rw [List.find?_eq_none.2 fun i hi=>by rw [h i (by have:=List.mem_range.1 hi;omega)];simp]
theorem nxt_ok {L:Lay} (g:LayG L) {D:List Bool} (hl:D.length=L.all.length) {f:Int} {n:Nat} (hn:D[n]?=some false):(0<=nxtV L.all D f/\nxtV L.all D f<(L.all.length:Int))/\rdyB L.all D (nxtV L.all D f).toNat=true:=by
 have b0:=(List.getElem?_eq_some_iff.1 hn).1
 have a0:∀a:Int,0<=a%(L.all.length:Int)/\a%(L.all.length:Int)<(L.all.length:Int):=fun a=>⟨Int.emod_nonneg _ om,Int.emod_lt_of_pos _ om⟩
 unfold nxtV
 cases h:(List.range L.all.length).find? fun (i:Nat)=>rdyB L.all D ((f+(i:Int))%(L.all.length:Int)).toNat with
 |some i=>exact ⟨a0 _,(List.find?_range_eq_some.1 h).1⟩
 |none=>
  exfalso
  obtain ⟨m,hm,hr⟩:=rdy_ex g hl n hn
  rw [hl] at hm
  have h1:=a0 ((m:Int)-f)
  have h2:=List.find?_eq_none.1 h ((((m:Int)-f)%(L.all.length:Int)).toNat) (List.mem_range.2 om)
  rw [show (((((m:Int)-f)%(L.all.length:Int)).toNat:Nat):Int)=((m:Int)-f)%(L.all.length:Int) by omega,add_emodA,show f+((m:Int)-f)=(m:Int) by omega,Int.emod_eq_of_lt om om,Int.toNat_natCast] at h2
  exact h2 hr
def cntB (D:List Bool):Nat:=D.countP id
theorem cntB_set:∀{D:List Bool} {i:Nat},D[i]?=some false->cntB (D.set i true)=cntB D+1
  |[],i,h=>by simp at h
  |b::D,0,h=>by
    simp only [List.getElem?_cons_zero,Option.some.injEq] at h;subst h
    unfold cntB;rw [List.set_cons_zero,List.countP_cons,List.countP_cons];simp
  |b::D,i+1,h=>by
    rw [List.getElem?_cons_succ] at h
    have:=cntB_set h
    unfold cntB at this⊢
    rw [List.set_cons_succ,List.countP_cons,List.countP_cons,this];omega
theorem cntB_all {D:List Bool} (h:cntB D=D.length):∀m:Nat,m<D.length->D[m]?=some true:=fun m hm=>by
  have:=List.countP_eq_length.1 h (D[m]) (List.getElem_mem hm)
  rw [List.getElem?_eq_getElem hm];exact congrArg some this
theorem cntB_ex {D:List Bool} (h:cntB D<D.length):∃m:Nat,D[m]?=some false:=by
  apply Classical.byContradiction
  intro hn
  refine absurd (List.countP_eq_length.2 fun b hb=>?_) (show ¬D.countP id=D.length by unfold cntB at h;omega)
  obtain ⟨m,hm⟩:=List.getElem?_of_mem hb
  cases b with
  |true=>rfl
  |false=>exact absurd ⟨m,hm⟩ hn
theorem cntB_rep (n:Nat):cntB (List.replicate n false)=0:=by unfold cntB;rw [List.countP_replicate];simp
theorem noR.zero {ts:List TaskV} {D:List Bool} {f:Int}:noR ts D f 0:=fun i h=>absurd h (by omega)
theorem noR.succ {ts:List TaskV} {D:List Bool} {f:Int} {n:Nat} (h:noR ts D f n) (hr:rdyB ts D ((f+(n:Int))%(ts.length:Int)).toNat=false):noR ts D f (n+1):=fun i hi=>by
  by_cases e:i=n
  · subst e;exact hr
  · exact h i (by omega)
def rdS (D:List Bool) (n:Int) (l:List Int):Bool:=!(D.getD n.toNat false)&&l.all fun d=>D.getD d.toNat false
theorem rdS_zero {D:List Bool} {n:Int} {b:Bool} {l:List Int} (h:D[n.toNat]?=some b):(!b)=rdS D n (l.take 0):=by
  unfold rdS;rw [dn_at h];simp
theorem rdS_step {D:List Bool} {n d:Int} {l:List Int} {i:Nat} (h:l[i]?=some d):rdS D n (l.take (i+1))=(rdS D n (l.take i)&&D.getD d.toNat false):=by
  unfold rdS;rw [take_succ_at h,List.all_append];simp [Bool.and_assoc]
theorem rdS_end {tasks:List Task} {D:List Bool} {n m:Int} {x:Task} {i:Nat} (hx:tasks[n.toNat]?=some x) (he:m=n) (hi:x.deps.l.length<=i):rdyB (tasks.map Task.v) D m.toNat=rdS D n (x.deps.l.take i):=by
  subst he
  unfold rdyB rdS
  rw [map_at (f:=Task.v) hx,List.take_of_length_le hi];rfl
theorem all_lenA {L:Lay} (g:LayG L):(L.all.length:Int)=L.total:=by
  unfold Lay.all Lay.total;exact tasks_sum g L.od (fun y hy=>hy)
theorem asc_le:∀{l:List Int} {a b:Int},Asc l->a<=b->(∀x∈l,a<=x/\x<b)->(l.length:Int)<=b-a
  |[],a,b,_,h,_=>by simp;omega
  |x::l,a,b,h,hab,hb=>by
    have h1:=List.pairwise_cons.1 h
    have hx:=hb x (List.mem_cons_self ..)
    have:=asc_le (l:=l) (a:=x+1) (b:=b) h1.2 (by omega) (fun y hy=>⟨by have:=h1.1 y hy;omega,(hb y (List.mem_cons_of_mem _ hy)).2⟩)
    rw [List.length_cons];omega
theorem st_at {q:Job} {tw th n k:Int} {s:Stage} (hk:k=n-(q.inputs.l.length:Int)) (h:q.stages.l[k.toNat]?=some s):(layV q.v tw th).st n=s.v:=by
  show stgAt (q.stages.l.map Stage.v) (((q.inputs.l.map Plane.v).length:Nat):Int) n=s.v
  unfold stgAt
  rw [List.length_map,<-hk,map_at (f:=Stage.v) h];rfl
theorem pl_map {zs:List Plane} {i:Int} {p:Plane} (h:zs[i.toNat]?=some p):plAt (zs.map Plane.v) i=p.v:=by
  unfold plAt;rw [map_at (f:=Plane.v) h];rfl
theorem lowc_z {j:JobV} {tw th:Int} (h:lowC j tw th=0):(shpV j).2.2=0:=by
  unfold lowC at h
  by_cases h0:(shpV j).2.2=0
  · exact h0
  · rw [if_neg h0] at h;exact h
theorem ini_zero {q:Job} {n:Nat} {zs:List Plane} (hz:zs=q.inputs.l) (hn:q.inputs.l.length=n):zs.map Plane.v=(iniP q.v).take n:=by
  unfold iniP
  rw [List.take_append_of_le_length (by show n<=(q.inputs.l.map Plane.v).length;rw [List.length_map];omega),List.take_of_length_le (by show (q.inputs.l.map Plane.v).length<=n;rw [List.length_map];omega),hz];rfl
theorem ini_succ {q:Job} {i:Nat} {xs zs:List Plane} {x y:Plane} (hE:zs.map Plane.v=(iniP q.v).take i) (hw:xs.map Plane.v=meanV q.v) (hx:xs[i]?=some x) (hi:q.inputs.l.length<=i) (hy:y.v=zeroQ x.v):(zs++[y]).map Plane.v=(iniP q.v).take (i+1):=by
 have h:=map_at (f:=Plane.v) hx
 rw [hw] at h
 have hl:(q.v.inputs).length=q.inputs.l.length:=by show (q.inputs.l.map Plane.v).length=_;rw [List.length_map]
 rw [List.map_append,hE,take_succ_at (x:=zeroQ x.v) (by
  unfold iniP
  rw [List.getElem?_append_right om,List.getElem?_map,List.getElem?_drop,show q.v.inputs.length+(i-q.v.inputs.length)=i by omega,h];rfl),List.map_cons,List.map_nil,hy]
theorem ini_len {q:Job} (hz:(shpV q.v).2.2=0) {n:Nat} (hn:(meanV q.v).length<=n):(iniP q.v).take n=iniP q.v:=by
  exact List.take_of_length_le<|(by unfold iniP;have:=(mean_ok hz).1;rw [List.length_append,List.length_map,List.length_drop];omega)
theorem pts_step {ts:List TaskV} {R:List (List Int)} {ds:List Int} {d:Int} {i:Nat} (h:ds[i]?=some d):ptsV ts R (ds.take (i+1))=ptsV ts R (ds.take i)++if (ts[d.toNat]?.map TaskV.part)=some 1 then [R.getD d.toNat []] else []:=by
  unfold ptsV;rw [take_succ_at h,List.flatMap_append];simp
theorem l21_next (atk:Option Addr) (ntk ktk:Nat) (tk:List Task) (adn:Option Addr) (ndn kdn:Nat) (dn:List Bool) (fr:Int) (htk:RdT encTask 9 [H] atk ntk ktk tk) (dtk:∀z∈tk,Task.Ok [H] z) (hdn:RdT encKB 1 [H] adn ndn kdn dn) (hld:tk.length=dn.length/\tk.length<=1000) (hfr:0<=fr/\fr<=1000) (hdp:∀z∈tk,∀d∈z.deps.l,0<=d/\d<(dn.length:Int)) (hS:Sat W w (H::F)):
  Ro prog 13 #[.slice atk ntk ktk, .slice adn ndn kdn,I fr] (I (nxtV (tk.map Task.v) dn fr)) W w (H::F):=by
 have x0:=htk.ll
 have w0:=hdn.ll
 have z0:(((tk.map Task.v).length:Nat):Int)=(ntk:Int):=by rw [List.length_map];omega
 refine callsK 54 func13 rfl<|jCC 12 rfl<|loopF [0,1,2] (γ:=Nat) (fun i R=>⟨[(7,I (i:Int))],R,ntk-i,i<=ntk/\(noR (tk.map Task.v) dn fr i)⟩) 0 ⟨hS,om,noR.zero⟩ ?_
 rintro i ρ _ ⟨b0,hi,hN⟩
 refine jCC 9 rfl<|CD ((i:Int)<(ntk:Int)) (fun h0=>jCR 11 rfl<|retT [I (-1)]<|⟨congrArg (fun z=>Ending.returned (I z)) (nxt_none hN om).symm,b0⟩) fun h0=>jCO 8 rfl<|sAdd fr (i:Int)<|pu2<|sRem (fr+(i:Int)) (ntk:Int)<|jOC 4 rfl ?_
 have v0:((fr+(i:Int)).tmod (ntk:Int))=(fr+(i:Int))%(((tk.map Task.v).length:Nat):Int):=by rw [z0];exact Int.tmod_eq_emod_of_nonneg om
 have B0:=Int.emod_nonneg (fr+(i:Int)) (show (((tk.map Task.v).length:Nat):Int)≠0 by omega);have C0:=Int.emod_lt_of_pos (fr+(i:Int)) (show 0<(((tk.map Task.v).length:Nat):Int) by omega)
 refine jCO 3 rfl<|sII hdn ((fr+(i:Int)).tmod (ntk:Int)) fun c0 _ _ i0 j0=>sMp b0 (j0.up 0 rfl) 0 (.bool c0)<|jOC 6 rfl ?_
 obtain ⟨x,hx⟩:∃x,tk[(((fr+(i:Int)).tmod (ntk:Int))).toNat]?=some x:=⟨_,List.getElem?_eq_getElem om⟩
 have y0:=dtk x (List.mem_of_getElem? hx);have F0:=y0.deps.ll;have A0:=hdp x (List.mem_of_getElem? hx)
 refine jCC 5 rfl<|loopF [0,1,2,7,8] (γ:=Nat×Bool) (fun ⟨d,rd⟩ R=>⟨[(10,I (d:Int)),(9, .bool rd)],R,x.deps.n-d,d<=x.deps.n/\(rd=rdS dn (((fr+(i:Int)).tmod (ntk:Int))) (x.deps.l.take d))⟩) (0,(!c0)) ⟨b0,om,(rdS_zero i0)⟩ ?_
 rintro ⟨d,rd⟩ ρ _ ⟨a0,hd,hR⟩
 refine jCO 6 rfl<|sII htk ((fr+(i:Int)).tmod (ntk:Int)) fun k0 _ _ l0 m0=>?_
 obtain rfl:x=k0:=Option.some.inj (hx.symm.trans l0)
 refine pu1<|sMp a0 (m0.up 0 rfl) 6 (.slice x.deps.a x.deps.n x.deps.k)<|jOC 4 rfl<|CD ((d:Int)<(x.deps.n:Int)) (fun n0=>jCC 10 rfl<|CB rd (fun o0=>jCO 5 rfl<|sAdd (i:Int) 1<|jOI 2 rfl<|⟨i+1,od,alB,a0,om,(hN.succ ((rdS_end hx (v0.symm) (show x.deps.l.length<=d by omega)).trans (hR.symm.trans (by first|assumption|exact Bool.eq_false_iff.2 ‹_›))))⟩) fun o0=>jCR 12 rfl<|retT [I ((fr+(i:Int)).tmod (ntk:Int))]<|⟨congrArg (fun z=>Ending.returned (I z)) (v0.trans (nxt_hit hN om ((rdS_end hx (v0.symm) (show x.deps.l.length<=d by omega)).trans (hR.symm.trans (by first|assumption|exact Bool.eq_false_iff.2 ‹_›)))).symm),a0⟩) fun n0=>jCC 4 rfl ?_
 obtain ⟨y,hy⟩:∃y,x.deps.l[d]?=some y:=⟨_,List.getElem?_eq_getElem om⟩
 have D0:=A0 y (List.mem_of_getElem? hy)
 refine jCO 3 rfl<|SB 39 rd (fun p0=>jOO 18 rfl<|sAdd (d:Int) 1<|jOI 2 rfl<|⟨(d+1,false),od,alB,a0,om,(by rw [rdS_step hy,<-hR];first|(rw [show rd=true by assumption,dn_at d0];rfl)|(rw [show rd=false from Bool.eq_false_iff.2 ‹_›];rfl))⟩) fun p0=>pu3<|gY<|sII htk ((fr+(i:Int)).tmod (ntk:Int)) fun q0 _ _ e0 r0=>?_
 obtain rfl:x=q0:=Option.some.inj (hx.symm.trans e0)
 refine pu1<|gY<|sMp a0 (r0.up 0 rfl) 6 (.slice x.deps.a x.deps.n x.deps.k)<|pu1<|gY<|sII (dtk x (List.mem_of_getElem? e0)).deps (d:Int) fun s0 _ _ f0 t0=>?_
 rw [Int.toNat_natCast] at f0
 obtain rfl:y=s0:=Option.some.inj (hy.symm.trans f0)
 exact gY<|sMp a0 (t0.up 0 rfl) 0 (I y)<|gY<|sII hdn y fun g0 _ _ d0 u0=>gY<|sMp a0 (u0.up 0 rfl) 0 (.bool g0)<|jOO 7 rfl<|sAdd (d:Int) 1<|jOI 2 rfl<|⟨(d+1,g0),od,alB,a0,om,(by rw [rdS_step hy,<-hR];first|(rw [show rd=true by assumption,dn_at d0];rfl)|(rw [show rd=false from Bool.eq_false_iff.2 ‹_›];rfl))⟩
theorem l21_orderless (W w:World) (H:Chunk) (F:List Chunk) (t:Option Addr) (nt kt:Nat) (xt:List Int) (ht:RdT Go.E.encI 1 [H] t nt kt xt) (hS:Sat W w (H::F)):
  Calls prog 3 #[.slice t nt kt] w fun e w'=>e= .returned (.bool true)/\Sat W w' (H::F):=by
 have Y3:=ht.le
 refine callsK 219 func3 rfl<|jCO 8 rfl<|cZ (tape_new t nt kt hS) ?_
 rintro _ _ ⟨m0,rfl,u4⟩
 have ha:=ht.le
 refine jOO 6 rfl<|cZ (tg_job (ht.fl 0) om u4.flat1 3 om) ?_
 rintro _ _ ⟨a0,v4,rfl,c1,w4,x4,y4,_,_,z4⟩
 have a5:=z4.unflat2
 obtain ⟨R1,l0,O3⟩:=x4
 have A4:=(c1).stages.len;have H3:=(c1).inputs.len;have Z3:=(c1).outputs.len;have S2:=y4;have H2:=w4
 have hb:a0.inputs.n<=1000000/\a0.stages.n<=1000000/\a0.outputs.n<=1000000:=by have h1:=R1.ni;have h2:=R1.ns;rw [List.length_map] at h1 h2;omega
 have J3:=H2.2.1.1
 refine sAlloc a5 zeroValue28 fun q0 _ b5=>sTk b5 0 rfl (encJob a0) fun _ g3=>gOO g3 5 [400] rfl<|cZ (r18_of a0 (c1.of_mem (mF 2)) (od) g3.flat) ?_
 rintro _ _ ⟨c5,b2,d5,c2,i3,r0,rfl,d2,e5,j3,f5⟩
 have g5:=f5.unflat1
 have U1:=d2.ll
 refine jOC 8 rfl<|drawF g5 [2,5,7] (fb 0 1 0 4<|fn) [1,4,0,2,3,5,6,7,8,9,10,11,12] fun _ i5=>wV 2<|wG 0 4<|wO rfl ?_
 have j5:=(i5.pick 2 rfl)
 refine cZ (tape_next (ht.fl 3) om j5.flat1 4 om) ?_
 rintro _ _ ⟨j0,rfl,_,_,_,k5⟩
 have k3:=k5.unflat1
 refine nZ k3 [2]<|wAdd 1 j0<|wO rfl<|cZ (tape_next (ht.fl 3) om k3.flat1 4 om) ?_
 rintro _ _ ⟨k0,rfl,_,t1,_,l5⟩
 have l3:=l5.unflat1
 refine nZ l3 [2]<|wAdd 1 k0<|wO rfl<|cZ (r20_low (F:=[]) a0 (1+j0) (1+k0) (c1.of_mem (mF 3)) om l3.flat) ?_
 rintro _ _ ⟨m5,f0,n5,d0,n0,o0,rfl,u1,d1,o5,p5⟩
 have q5:=p5.unflat2;have V1:=u1.ll
 have J1:MadeL a0.v (1+j0) (1+k0):=made_low R1 O3 (fun z hz=>by obtain ⟨y,hy,rfl⟩:=List.mem_map.1 hz;exact (H2.1.2 y hy).1.1) (fun z hz=>by obtain ⟨y,hy,rfl⟩:=List.mem_map.1 hz;have h:=H2.2.1.2 y hy;unfold stageB at h;simp only [Stage.v,List.length_map];omega) (by show 1<=(a0.stages.l.map Stage.v).length/\(a0.stages.l.map Stage.v).length<=4;rw [List.length_map];omega) S2.2.1 S2.2.2 (show tileP _ _ by unfold tileP;omega)
 have U0:(shpV a0.v).2.2=0:=lowc_z J1.z
 have T3:i3=0:=(congrArg Prod.snd j3).trans U0
 have N1:c2.map Plane.v=meanV a0.v:=congrArg Prod.fst j3
 have P2:tileP (1+j0) (1+k0):=by unfold tileP;omega
 have M1:d0.map Task.v=(layV a0.v (1+j0) (1+k0)).all:=by rw [o5];exact J1.v
 have M0:LayG (layV a0.v (1+j0) (1+k0)):=J1.g
 have W3:d0.length=(layV a0.v (1+j0) (1+k0)).all.length/\d0.length<=516/\1<=d0.length:=(by have h1:=all_lenA M0;have h3:=J1.t;rw [<-M1,List.length_map] at h1;have h4:=M0.ln;have h5:=J1.s;have h0:(layV a0.v (1+j0) (1+k0)).ss.length=a0.v.stages.length:=rfl;obtain ⟨x,hx⟩:∃x,x∈(layV a0.v (1+j0) (1+k0)).od:=⟨(layV a0.v (1+j0) (1+k0)).od[0]'om,List.getElem_mem _⟩;have h7:=M0.firstb hx;have h8:=M0.cntb hx;refine ⟨by rw [<-M1,List.length_map],om,om⟩)
 have C4:c2.length=a0.inputs.l.length+a0.stages.l.length:=by have h:=congrArg List.length N1;rw [List.length_map,(mean_ok U0).1] at h;rw [h];show (a0.inputs.l.map Plane.v).length+(a0.stages.l.map Stage.v).length=_;rw [List.length_map,List.length_map]
 have Q2:∀z∈d0,∀d∈z.deps.l,0<=d/\d<(d0.length:Int):=fun z hz d hd=>by obtain ⟨i,hi⟩:=List.getElem?_of_mem hz;have h:=(dep_ok M0 (i:=i) (z:=z.v) (by rw [<-M1];exact map_at (f:=Task.v) hi) (d:=d) hd).1;have h2:=(List.getElem?_eq_some_iff.1 hi).1;omega
 have G3:=R1.ni;have L2:=R1.ns;rw [List.length_map] at G3 L2
 refine nA<|wV 1<|wV 1<|wV 1<|wV 2<|wN<|jXO 7 rfl<|SN 48 i3 0 (fun r5=>jOR 13 rfl<|retT [.bool false]<|(by first|omega)) fun r5=>jOC 5 rfl ?_
 have s5:((lowC a0.v (1+j0) (1+k0)):Int)=0:=J1.z
 refine cF _ (bne_eq_false_iff_eq.2 s5)<|jCO 4 rfl<|sBK q5 #[] 38 fun t5 _ m3=>gOO m3 2 [5] rfl<|sApp (nb:=48) m3 (OwnT.blk (enc:=encPlane) (sz:=4) (b:=t5) (c:=#[]) (E:=38) (xs:=[]) fR 0 rfl rfl rfl om) 0 (c1.inputs.up 6 rfl) underlying25 (i:=Tryz.t38) kr fR fun v5 w5 x5 _ y5 n3=>gOC n3 13 [5] rfl<|loopF [3,4,5,7] (γ:=Nat×(List Plane)×(Option Addr)×Nat×Nat×Chunk×Chunk) (fun ⟨i,ys,A2,D1,D2,B2,H0⟩ R=>⟨[(10,I (i:Int)),(9, .slice A2 D1 D2)],H0::B2::R,b2-i,i<=b2/\(ys.map Plane.v=(iniP a0.v).take i)/\(a0.inputs.l.length<=i)/\(D1<=i)/\OwnT encPlane 38 4 A2 D1 D2 ys B2/\(∀z∈ys,Plane.Ok [H0] z)/\Job.Ok [H0] a0⟩) (a0.inputs.n,([]++a0.inputs.l),v5,(0+a0.inputs.n),w5,x5,v4) ⟨(n3.pick 6 rfl),om,(ini_zero (by first|rfl|simp) om),om,om,y5,(fun z hz=>(c1).inputsD z (by simpa using hz)),c1⟩ ?_
 rintro ⟨i,ys,A2,D1,D2,B2,H0⟩ ρ _ ⟨o3,hi,hE,X3,D4,Q0,Y0,J0⟩
 have X2:=Q0.ll
 refine jCC 9 rfl<|cD ((i:Int)<(b2:Int)) (fun a6=>?_) (fun a6=>?_)
 ·refine jCC 5 rfl ?_
  obtain ⟨c0,za,ab,e2,n1,s2⟩:=RdT.eN d2 i
  have G0:c0.v=plAt (meanV a0.v) ((i:Int)):=by rw [<-N1];exact (pl_map (i:=(i:Int)) e2).symm
  refine drawG o3 [15,19,20] (fq 4 0 (n1.up 5 rfl)<|fq 9 1 (n1.up 5 rfl)<|fq 14 2 (n1.up 5 rfl)<|fn) (pS [0,1,2,3,5,6,7,8,10,11,12,13,4,9,14]<| .fk 15 19 (pS [16,17,18]<| .ef 19<| .ef 20<|pS [21]<| .fin) (.ef 15<|pS [16,17,18]<| .ef 20<|pS [21]<| .fin)) fun _ p3=>qV 2<|qI s2<|qV 3<|qI s2<|qV 3<|qI s2<|qV 1<|qL 0<|qL 1<|qL 2<|qF ?_ ?_
  ·refine qO rfl<|cZ (r4_new c0.w c0.h c0.max_ ((plane_sz (p:=c0.v) (by rw [G0];exact ((mean_ok U0).2 _ om (by show _<(((a0.inputs.l.map Plane.v).length:Nat):Int)+(((a0.stages.l.map Stage.v).length:Nat):Int);rw [List.length_map,List.length_map];omega)).1)).1) p3.flat) ?_
   rintro _ _ ⟨f2,g2,i2,t2,rfl,u2,b6⟩
   have c6:=b6.unflat1;have W1:=u2.ll
   refine nA<|qV 1<|qV 1<|qV 1<|qO rfl<|sAlloc c6 zeroValue38 fun _ _ d6=>nA<|qO rfl<|sTk d6 0 rfl [I c0.w,I c0.h,I c0.max_, .slice f2 g2 i2] fun _ q3=>nA<|qV 1<|qN<|gXO q3 4 [400] rfl<|sBK q3 #[I c0.w,I c0.h,I c0.max_, .slice f2 g2 i2] 38 fun _ _ e6=>sApp (nb:=48) e6 Q0 4 (RdT.blk (enc:=encPlane) (sz:=4) (xs:=[(⟨c0.w,c0.h,c0.max_,⟨f2,g2,i2,(List.replicate (c0.w*c0.h).toNat 0)⟩⟩:Plane)]) fR 1 0 rfl rfl rfl om) underlying25 (i:=Tryz.t38) kr fR fun f6 g6 v2 _ h6 i6=>jOO 6 rfl<|sAdd (i:Int) 1<|jOI 2 rfl ?_
   have j6:=(i6.drops [0,0])
   exact ⟨(i+1,(ys++[(⟨c0.w,c0.h,c0.max_,⟨f2,g2,i2,(List.replicate (c0.w*c0.h).toNat 0)⟩⟩:Plane)]),f6,(D1+1),g6,v2,(t2++H0)),od,alB,(Sat.perm (cs':=(t2++H0)::(v2::n0::o0::[(m0, .cells #[.slice t nt kt,I t1] 78 (0,0))]::r0::[(q0, .cells (encJob a0).toArray 28 (0,0))]::H::F)) (show Sat W _ (t2::H0::v2::n0::o0::[(m0, .cells #[.slice t nt kt,I t1] 78 (0,0))]::r0::[(q0, .cells (encJob a0).toArray 28 (0,0))]::H::F) from j6) (by simp)),om,(ini_succ hE N1 e2 om (by rfl)),om,om,h6,(by
     intro z hz
     rcases List.mem_append.1 hz with h|h
     ·exact (Y0 z h).of_mem mS
     ·simp only [List.mem_singleton] at h;subst h;exact ⟨(u2.rd mS)⟩),(J0.of_mem mS)⟩
  refine qO rfl<|sAlloc p3 zeroValue38 fun _ _ j2=>nilO ⟨⟨.inr ((n1.up 6 rfl).cell j2 (k:=0) rfl), .inr ((n1.up 6 rfl).cell j2 (k:=1) rfl), .inr ((n1.up 6 rfl).cell j2 (k:=2) rfl),trivial⟩,?_⟩
  refine qO rfl<|cZ (r4_new c0.w c0.h c0.max_ ((plane_sz (p:=c0.v) (by rw [G0];exact ((mean_ok U0).2 _ om (by show _<(((a0.inputs.l.map Plane.v).length:Nat):Int)+(((a0.stages.l.map Stage.v).length:Nat):Int);rw [List.length_map,List.length_map];omega)).1)).1) j2.flat) ?_
  rintro _ _ ⟨k2,l2,m2,w2,rfl,x2,l6⟩
  have m6:=l6.unflat1;have K1:=x2.ll
  refine nA<|qV 1<|qV 1<|qV 1<|qO rfl<|sTk m6 1 rfl [I c0.w,I c0.h,I c0.max_, .slice k2 l2 m2] fun _ r3=>nA<|qV 1<|qN<|gXO r3 4 [401] rfl<|sBK r3 #[I c0.w,I c0.h,I c0.max_, .slice k2 l2 m2] 38 fun _ _ n6=>sApp (nb:=48) n6 Q0 4 (RdT.blk (enc:=encPlane) (sz:=4) (xs:=[(⟨c0.w,c0.h,c0.max_,⟨k2,l2,m2,(List.replicate (c0.w*c0.h).toNat 0)⟩⟩:Plane)]) fR 1 0 rfl rfl rfl om) underlying25 (i:=Tryz.t38) kr fR fun o6 p6 y2 _ q6 r6=>jOO 6 rfl<|sAdd (i:Int) 1<|jOI 2 rfl ?_
  have s6:=(r6.drops [0,1])
  exact ⟨(i+1,(ys++[(⟨c0.w,c0.h,c0.max_,⟨k2,l2,m2,(List.replicate (c0.w*c0.h).toNat 0)⟩⟩:Plane)]),o6,(D1+1),p6,y2,(w2++H0)),od,alB,(Sat.perm (cs':=(w2++H0)::(y2::n0::o0::[(m0, .cells #[.slice t nt kt,I t1] 78 (0,0))]::r0::[(q0, .cells (encJob a0).toArray 28 (0,0))]::H::F)) (show Sat W _ (w2::H0::y2::n0::o0::[(m0, .cells #[.slice t nt kt,I t1] 78 (0,0))]::r0::[(q0, .cells (encJob a0).toArray 28 (0,0))]::H::F) from s6) (by simp)),om,(ini_succ hE N1 e2 om (by rfl)),om,om,q6,(by
    intro z hz
    rcases List.mem_append.1 hz with h|h
    ·exact (Y0 z h).of_mem mS
    ·simp only [List.mem_singleton] at h;subst h;exact ⟨(x2.rd mS)⟩),(J0.of_mem mS)⟩
 refine jCO 9 rfl<|sMake (kl:= .i64) (kc:= .i64) (enc:=encKB) (sz:=1) (nb:=1) o3 false f0 (f0:Int) (rfl:(f0:Int)=(f0:Int)) underlying41 (i:=Tryz.t4) kr fR fun u6 v6 _ w6 x6=>jOO 7 rfl<|sMake (kl:= .i64) (kc:= .i64) (enc:=encIL) (sz:=1) (nb:=24) x6 ⟨⟨none,0,0,[]⟩⟩ f0 (f0:Int) (rfl:(f0:Int)=(f0:Int)) underlying42 (i:=Tryz.t22) kr fR fun y6 z6 _ a7 b7=>jOC 5 rfl ?_
 have c7:=Sat.nilc b7
 have K3:ys.map Plane.v=iniP a0.v:=by rw [hE];exact ini_len U0 (by rw [<-N1,List.length_map];omega)
 refine jCC 5 rfl ?_
 have d7:=(c7.pick 4 rfl)
 refine loopF [3,4,5,7] (γ:=Nat×Int×(List Plane)×(Option Addr)×Nat×Nat×Chunk×Chunk×(List Bool)×(Option Addr)×Nat×Nat×Chunk×(List IL)×(Option Addr)×Nat×Nat×Chunk×Chunk) (fun ⟨n,C2,zs,W0,E1,A1,G1,D0,ds,V0,B1,Z0,E2,rs,F1,P1,O1,F2,E0⟩ R=>⟨[(15,I (n:Int)),(9, .slice W0 E1 A1),(13, .slice V0 B1 Z0),(14, .slice F1 P1 O1)],D0::G1::E0::F2::E2::n0::o0::[(m0, .cells #[.slice t nt kt,I C2] 78 (0,0))]::R,f0-n,n<=f0/\(0<=C2/\C2<=nt)/\OwnT encPlane 38 4 W0 E1 A1 zs G1/\(∀z∈zs,Plane.Ok [D0] z)/\OwnT encKB 4 1 V0 B1 Z0 ds E2/\Job.Ok [D0] a0/\OwnT encIL 22 1 F1 P1 O1 rs F2/\(∀z∈rs,IL.Ok [E0] z)/\OI a0.v (1+j0) (1+k0) ds (rs.map fun z=>z.l.l) (zs.map Plane.v)/\(cntB ds=n)⟩) (0,t1,ys,A2,D1,D2,B2,H0,(List.replicate f0 false),(At u6 0),f0,f0,v6,(List.replicate f0 ⟨⟨none,0,0,[]⟩⟩),(At y6 0),f0,f0,z6,[]) ⟨(d7.pick 4 rfl),om,om,Q0,Y0,w6,J0,a7,(fun z hz=>by rw [(List.mem_replicate.1 hz).2];exact ⟨rN⟩),(by rw [List.map_replicate];exact ord_start U0 om P2 K3),(cntB_rep _)⟩ ?_
 rintro ⟨n,C2,zs,W0,E1,A1,G1,D0,ds,V0,B1,Z0,E2,rs,F1,P1,O1,F2,E0⟩ ρ _ ⟨s3,hn,E3,B0,C0,O0,F0,I0,N0,T0,Q3⟩
 have W2:=I0.ll;have R3:=T0.dl;have C3:=T0.rl;rw [List.length_map] at C3
 have Y2:=B0.ll
 have U2:=O0.ll
 refine jCC 9 rfl<|CD ((n:Int)<(f0:Int)) (fun f7=>jCO 9 rfl<|cS (r18_same W0 E1 A1 zs c5 b2 d5 c2 (RdT.flat (B0.rdAt 1 (by rfl))) (fun z hz=>(C0 z hz).of_mem (mF 0)) (d2.fl 8) (fun z hz=>(e5 z hz).of_mem (mF 8)) s3.flat) fun _ g7=>pu1<|(by have i7:zs.map Plane.v=c2.map Plane.v:=((ord_end U0 P2 T0 (cntB_all om)).trans N1.symm);exact sFix 216 _ true (decide_eq_true i7)<|gY<|cS (l21_sane g7.flat) fun _ j7=>jOR 5 rfl<|retT [.bool true]<|⟨rfl,(j7.drops [0,0,0,0,0,0,0,0,0,0])⟩)) fun f7=>jCO 11 rfl ?_
 have l7:=(s3.pick 7 rfl)
 refine cZ (tape_next (ht.fl 9) om l7.flat1 (f0:Int) om) ?_
 rintro _ _ ⟨g0,rfl,_,s0,_,m7⟩
 refine cS (l21_next m5 f0 n5 d0 V0 B1 Z0 ds g0 (RdT.flat (u1.rdAt 6 (by rfl))) (fun z hz=>(d1 z hz).of_mem (mF 7)) (RdT.flat (O0.rdAt 5 (by rfl))) ⟨by have h:=T0.dl;omega,om⟩ om (fun z hz d hd=>by have h:=Q2 z hz d hd;have h2:=T0.dl;omega) (Sat.flat (Sat.unflat1 m7))) fun _ t3=>jOC 5 rfl ?_
 obtain ⟨mx,F3⟩:=cntB_ex (D:=ds) om
 have I2:=nxt_ok M0 T0.dl (f:=g0) F3;rw [<-M1] at I2;have I3:((d0.map Task.v).length:Int)=(f0:Int):=by rw [List.length_map];omega
 rw [I3] at I2
 refine jCC 5 rfl ?_
 have o7:¬(((nxtV (d0.map Task.v) ds g0):Int)<0):=by omega
 refine cF _ (decide_eq_false o7)<|jCO 6 rfl<|sIO u1 (nxtV (d0.map Task.v) ds g0) ((nxtV (d0.map Task.v) ds g0)).toNat fun b0 _ _ w0 p7 _=>?_
 have O2:(layV a0.v (1+j0) (1+k0)).all[((nxtV (d0.map Task.v) ds g0)).toNat]?=some b0.v:=by rw [<-M1];exact map_at (f:=Task.v) w0
 have V3:=(d1 b0 (List.mem_of_getElem? w0)).deps.len;have U3:=(d1 b0 (List.mem_of_getElem? w0)).deps.le;have R2:=Q2 b0 (List.mem_of_getElem? w0)
 have D3:=asc_le (dep_asc M0 O2) om R2;simp only [Task.v] at D3
 have A3:=rdy_deps I2.2 (map_at (f:=Task.v) w0);have Z2:=(all_st M0 O2).1;have N3:=M0.rng _ Z2;have M2:=M0.src Z2
 have H3:(layV a0.v (1+j0) (1+k0)).ni=(a0.inputs.l.length:Int)/\(layV a0.v (1+j0) (1+k0)).ss.length=a0.stages.l.length:=⟨by show (((a0.inputs.l.map Plane.v).length:Nat):Int)=_;rw [List.length_map],by show (a0.stages.l.map Stage.v).length=_;rw [List.length_map]⟩;simp only [Task.v] at N3
 have J2:=T0.pl;rw [List.length_map,show a0.v.inputs.length=a0.inputs.l.length from List.length_map ..,show a0.v.stages.length=a0.stages.l.length from List.length_map ..] at J2
 refine sMA t3 (p7.up 6 rfl) 0 (encTask b0)<|sAlloc t3 zeroValue47 fun o1 _ q7=>sTk q7 0 rfl (encTask b0) fun _ z2=>gOO z2 11 [10,0,10] rfl<|sSub b0.stage (a0.inputs.n:Int)<|sII F0.stages (b0.stage-(a0.inputs.n:Int)) fun e0 _ _ u3 r7=>?_
 have N2:(layV a0.v (1+j0) (1+k0)).st b0.v.stage=e0.v:=st_at (by simp only [Task.v];omega) u3
 rw [N2] at M2;have P3:=M2 _ (srcs_a _);have K2:twoP e0.v->0<=e0.b/\e0.b<(zs.length:Int):=fun h=>by have h2:=M2 _ (srcs_b h);simp only [Stage.v] at h2;omega
 simp only [Stage.v] at P3
 refine sMA z2 (r7.up 2 rfl) 0 (encStage e0)<|sAlloc z2 zeroValue53 fun r1 _ s7=>sTk s7 0 rfl (encStage e0) fun _ t7=>jOO 5 rfl<|sAlloc t7 zeroValue38 fun k1 _ u7=>sTk u7 0 rfl [I 0,I 0,I 0,nS] fun _ e1=>jOC 2 rfl<|cutF e1 1 [3,4,5,7,15,9,13,14,16,17,18,19] (γ:=Plane) (fun q1 R=>⟨[],[(k1, .cells (encPlane q1).toArray 38 (0,0))]::R,0,Plane.Ok [D0] q1/\(twoP e0.v->q1.v=plAt (zs.map Plane.v) e0.v.b)⟩) ?_ ?_
 ·exact gCO e1 6 [1] rfl<|SD 127 (e0.b>=0) (fun v7=>jOI 8 rfl<|⟨zP,alB,e1,⟨rN⟩,(fun h=>by have h3:=K2 h;unfold twoP at h;simp only [Stage.v] at h;omega)⟩) fun v7=>gOC e1 6 [1] rfl<|CE e0.kind 6 (fun w7=>jCI 1 rfl<|⟨zP,alB,e1,⟨rN⟩,(fun h=>by have h3:=K2 h;unfold twoP at h;simp only [Stage.v] at h;omega)⟩) fun w7=>(by have S3:=K2 (by unfold twoP;simp only [Stage.v];omega);exact gCO e1 4 [1] rfl<|sIO B0 e0.b (e0.b).toNat fun n2 _ _ a3 x7 _=>(by have Y1:plAt (zs.map Plane.v) (e0.b)=n2.v:=pl_map a3;exact sMA e1 (x7.up 5 rfl) 0 (encPlane n2)<|sTk e1 0 rfl (encPlane n2) fun _ y7=>jOI 1 rfl<|⟨n2,alB,y7,(C0 _ (List.mem_of_getElem? a3)),(fun _=>(pl_map a3).symm)⟩))
 rintro q1 ρ _ ⟨z7,L3,M3⟩
 refine jCC 12 rfl<|loopF [3,4,5,7,15,9,13,14,16,17,18,19] (γ:=Nat×(List IL)×SO) (fun ⟨m,ps,Q1,C1,Z1,L0⟩ R=>⟨[(21,I (m:Int)),(20, .slice Q1 C1 Z1)],L0::R,b0.deps.n-m,m<=b0.deps.n/\((ps.map fun z=>z.l.l)=ptsV (d0.map Task.v) (rs.map fun z=>z.l.l) (b0.deps.l.take m))/\(C1<=m)/\OwnT encIL 22 1 Q1 C1 Z1 ps L0/\(∀z∈ps,IL.Ok [E0] z)⟩) (0,[],none,0,0,[]) ⟨(Sat.nilc z7),om,(by rfl),om,(OwnT.nil (enc:=encIL) (E:=22) (sz:=1) fR),(fun z hz=>by cases hz)⟩ ?_
 rintro ⟨m,ps,Q1,C1,Z1,L0⟩ ρ _ ⟨x0,hm,hE,B4,P0,X0⟩
 have V2:=P0.ll
 refine gCC x0 10 [3] rfl<|cD ((m:Int)<(b0.deps.n:Int)) (fun c8=>gCO x0 10 [3] rfl<|sII (d1 b0 (List.mem_of_getElem? w0)).deps (m:Int) fun f1 _ _ v1 d8=>(by rw [Int.toNat_natCast] at v1;have H1:=R2 f1 (List.mem_of_getElem? v1);refine sMp x0 (d8.up 11 rfl) 0 (I f1)<|sIO u1 f1 (f1).toNat fun s1 _ _ v3 e8 _=>pu1<|sMp x0 (e8.up 10 rfl) 1 (I s1.part)<|jOC 3 rfl<|CE s1.part 1 (fun f8=>jCO 5 rfl<|sAdd (m:Int) 1<|jOI 2 rfl<|⟨(m+1,ps,Q1,C1,Z1,L0),od,alB,x0,om,(by rw [pts_step v1,<-hE,map_at (f:=Task.v) v3];rw [if_neg (show ¬Option.map TaskV.part (some s1.v)=some 1 from fun h=>by have h2:s1.part=1:=Option.some.inj h;omega),List.append_nil]),om,P0,X0⟩) fun f8=>gCO x0 6 [3] rfl<|sII (d1 b0 (List.mem_of_getElem? w0)).deps (m:Int) fun g8 _ _ w3 i8=>?_;rw [Int.toNat_natCast] at w3;obtain rfl:f1=g8:=Option.some.inj (v1.symm.trans w3);refine sMp x0 (i8.up 11 rfl) 0 (I f1)<|sIO I0 f1 (f1).toNat fun g1 _ _ x3 j8 _=>sMp x0 (j8.up 8 rfl) 0 (.slice g1.l.a g1.l.n g1.l.k)<|sBK x0 #[.slice g1.l.a g1.l.n g1.l.k] 22 fun _ _ k8=>sApp (nb:=24) k8 P0 1 (RdT.blk (enc:=encIL) (sz:=1) (xs:=[(⟨g1.l⟩:IL)]) fR 1 0 rfl rfl rfl om) underlying42 (i:=Tryz.t22) kr fR fun l8 m8 n8 _ o8 p8=>jOO 6 rfl<|sAdd (m:Int) 1<|jOI 2 rfl ?_;exact ⟨(m+1,(ps++[(⟨g1.l⟩:IL)]),l8,(C1+1),m8,n8),od,alB,(p8.dropAt 0 rfl),om,(by rw [pts_step v1,<-hE,map_at (f:=Task.v) v3];rw [if_pos (show Option.map TaskV.part (some s1.v)=some 1 from congrArg some (show s1.part=1 by omega)),List.map_append,List.getD_eq_getElem?_getD,map_at (f:=fun z=>z.l.l) x3];rfl),om,o8,(fun z hz=>(List.mem_append.1 hz).elim (X0 z) (fun h=>by rw [List.mem_singleton.1 h];exact N0 _ (List.mem_of_getElem? x3)))⟩)) fun c8=>?_
 refine jCC 6 rfl ?_
 have B3:(ps.map fun z=>z.l.l)=ptsV (layV a0.v (1+j0) (1+k0)).all (rs.map fun z=>z.l.l) b0.v.deps:=by rw [hE,M1,List.take_of_length_le om];rfl
 obtain ⟨o2,gd,jd,y3,r8,s8,kd⟩:=OwnT.elem B0 e0.a
 have K0:plAt (zs.map Plane.v) (e0.a)=o2.v:=pl_map y3
 obtain ⟨i0,ld,md,l1,t8,u8,nd⟩:=OwnT.elem B0 b0.stage
 have A0:plAt (zs.map Plane.v) (b0.stage)=i0.v:=pl_map l1
 refine drawF x0 [14] (fb 0 2 0 18<|fb 1 3 0 9<|fb 4 2 1 1<|fp 6 (r8.up 6 rfl)<|fb 7 1 0 4<|fb 10 3 0 1<|fp 12 (t8.up 6 rfl)<|fn) [2,3,8,9,13,0,1,4,5,6,7,10,11,12,14,15,16,17,18,19] fun _ v8=>wV 5<|wG 0 18<|wG 18 9<|wL 27<|wI s8<|wG 28 4<|wG 32 4<|wL 36<|wI u8<|wG 37 4<|wO rfl<|cZ (p21_compute e0 b0 o2 q1 i0 Q1 C1 Z1 ps ((F0.stagesD e0 (List.mem_of_getElem? u3)).of_mem (mF 5)) ⟨(RdT.flat ((d1 b0 (List.mem_of_getElem? w0)).deps.up 11 (by rfl)))⟩ ⟨(RdT.flat ((C0 o2 (List.mem_of_getElem? y3)).pix.up 5 (by rfl)))⟩ ⟨(L3.pix.fl 5)⟩ ⟨(RdT.flat ((C0 i0 (List.mem_of_getElem? l1)).pix.up 5 (by rfl)))⟩ (RdT.flat (P0.rdAt 0 (by rfl))) (fun z hz=>(X0 z hz).of_mem (mF 7)) v8.flat) ?_
 rintro _ _ ⟨z0,a1,b1,y0,z3,t0,rfl,m1,w8,x8⟩
 have a4:=x8.unflat1
 have L1:=m1.ll
 have X1:=ord_step U0 P2 T0 O2 A3.2 (q':=if twoP e0.v then q1.v else zPl) (by rw [N2];intro h;rw [if_pos h];exact M3 h) (l:=y0) (c:=z3) (by rw [N2,<-B3,show plAt (zs.map Plane.v) e0.v.a=o2.v from K0,show plAt (zs.map Plane.v) b0.v.stage=i0.v from A0];exact w8)
 have G2:ds[((nxtV (d0.map Task.v) ds g0)).toNat]?=some false:=by rw [List.getElem?_eq_getElem om];have h:=A3.1;rw [List.getD_eq_getElem?_getD,List.getElem?_eq_getElem om] at h;exact congrArg some h
 refine nZ a4 [3,4]<|wV 1<|wV 1<|wV 1<|wV 2<|wN<|jXC 8 rfl<|CN z3 0 (fun y8=>jCR 12 rfl<|retT [.bool false]<|(by first|omega)) fun y8=>?_
 refine jCO 9 rfl<|sIO O0 (nxtV (d0.map Task.v) ds g0) ((nxtV (d0.map Task.v) ds g0)).toNat fun z8 _ _ b4 _ c4=>sStF a4 O0 c4 10 ((nxtV (d0.map Task.v) ds g0)).toNat 0 z8 true b4 (.bool true) [.bool true] sizeOf4 fun _ u0 q2 a9=>sIO I0 (nxtV (d0.map Task.v) ds g0) ((nxtV (d0.map Task.v) ds g0)).toNat fun b9 _ _ d4 _ e4=>sStF a9 I0 e4 9 ((nxtV (d0.map Task.v) ds g0)).toNat 0 b9 (⟨⟨z0,a1,b1,y0⟩⟩:IL) d4 (.slice z0 a1 b1) [.slice z0 a1 b1] sizeOf22 fun _ v0 r2 b3=>gOC b3 9 [4] rfl<|cN b0.part 1 (fun c9=>jCO 5 rfl<|sAdd (n:Int) 1<|jOI 2 rfl<|(by have d9:=(b3.picks [8,1]);have e9:Sat W _ ((t0++E0)::L0::[(k1, .cells (encPlane q1).toArray 38 (0,0))]::[(r1, .cells (encStage e0).toArray 53 (0,0))]::[(o1, .cells (encTask b0).toArray 47 (0,0))]::[(m0, .cells #[.slice t nt kt,I s0] 78 (0,0))]::D0::G1::v0::u0::n0::o0::r0::[(q0, .cells (encJob a0).toArray 28 (0,0))]::H::F):=Sat.perm (show Sat W _ (t0::E0::L0::[(k1, .cells (encPlane q1).toArray 38 (0,0))]::[(r1, .cells (encStage e0).toArray 53 (0,0))]::[(o1, .cells (encTask b0).toArray 47 (0,0))]::[(m0, .cells #[.slice t nt kt,I s0] 78 (0,0))]::D0::G1::v0::u0::n0::o0::r0::[(q0, .cells (encJob a0).toArray 28 (0,0))]::H::F) from d9) (by simp [Value.cells]);exact ⟨(n+1,s0,zs,W0,E1,A1,G1,D0,(ds.set (((nxtV (d0.map Task.v) ds g0)).toNat) true),V0,B1,Z0,u0,(rs.set (((nxtV (d0.map Task.v) ds g0)).toNat) (⟨⟨z0,a1,b1,y0⟩⟩:IL)),F1,P1,O1,v0,(t0++E0)),od,alB,((e9.picks [11,11,11,11,4,11,11]).drops [7,7,7,7]),om,om,B0,C0,q2,F0,r2,(mem_set (fun z hz=>(N0 z hz).of_mem mS) ⟨m1.of_mem mS⟩),(by rw [List.map_set];exact X1.2.1 (by simp only [Task.v];omega)),(by rw [cntB_set G2];omega)⟩)) fun c9=>?_
 refine jCC 1 rfl ?_
 have g9:=set_at (y:=true) b4
 have zd:=OwnT.ptr q2 c4 g9
 have h9:=set_at (y:=(⟨⟨z0,a1,b1,y0⟩⟩:IL)) d4
 have ae:=OwnT.ptr r2 e4 h9
 obtain ⟨i9,be,ce,f4,w1,j9,de⟩:=OwnT.elem B0 b0.stage
 obtain rfl:i0=i9:=Option.some.inj (l1.symm.trans f4)
 have A0:plAt (zs.map Plane.v) (b0.stage)=i0.v:=pl_map f4
 refine drawG b3 [7,11,12] (fb 2 4 0 1<|fp 4 (w1.up 7 rfl)<|fb 5 4 0 9<|fn) (pS [0,1,6,2,3,4,5]<| .fk 7 11 (pS [8,9,10]<| .ef 11<| .ef 12<|pS [13]<| .fin) (.ef 7<|pS [8,9,10]<| .ef 12<|pS [13]<| .fin)) fun _ g4=>qV 3<|qL 0<|qI j9<|qG 1 4<|qG 5 9<|qF ?_ ?_
 ·refine qO rfl<|cZ (p21_put i0 b0 z0 a1 b1 y0 ⟨(RdT.flat ((C0 i0 (List.mem_of_getElem? l1)).pix.up 6 (by rfl)))⟩ ⟨(RdT.flat ((d1 b0 (List.mem_of_getElem? w0)).deps.up 12 (by rfl)))⟩ (m1.fl 0) g4.flat) ?_
  rintro _ _ ⟨i1,i4,x1,rfl,c3,k9,l9⟩
  have j4:=l9.unflat1
  have R0:=c3.pix.ll
  have k4:(i1.v,i4)=putT (plAt (zs.map Plane.v) b0.v.stage) b0.v.part ⟨b0.v.rectX0,b0.v.rectY0,b0.v.rectX1,b0.v.rectY1⟩ y0:=by rw [show plAt (zs.map Plane.v) b0.v.stage=i0.v from A0];exact k9
  have fe:=(X1.2.2 (show ¬b0.part=1 by omega) _ _ k4).1
  refine nZ j4 [5]<|qV 1<|qV 1<|qV 1<|qO rfl<|sAlloc j4 zeroValue38 fun l4 _ m4=>nZ m4 [6]<|qO rfl<|sTk m4 0 rfl (encPlane i1) fun _ n4=>nA<|qV 1<|qN<|jXC 8 rfl<|CN i4 0 (fun m9=>jCR 12 rfl<|retT [.bool false]<|(by first|omega)) fun m9=>gCO n4 7 [6,400] rfl<|sIO B0 b0.stage (b0.stage).toNat fun n9 _ _ d3 _ o9=>?_
  obtain rfl:i0=n9:=Option.some.inj (l1.symm.trans d3)
  have A0:plAt (zs.map Plane.v) (b0.stage)=i0.v:=pl_map d3
  exact sStF n4 B0 o9 9 (b0.stage).toNat 0 i0 i1 d3 (.agg (encPlane i1).toArray) (encPlane i1) sizeOf38 fun _ y1 p9 q9=>jOO 5 rfl<|sAdd (n:Int) 1<|jOI 2 rfl<|(by have r9:=(q9.picks [10,3]);have s9:Sat W _ ((t0++E0)::[(l4, .cells (encPlane i1).toArray 38 (0,0))]::x1::L0::[(k1, .cells (encPlane q1).toArray 38 (0,0))]::[(r1, .cells (encStage e0).toArray 53 (0,0))]::[(o1, .cells (encTask b0).toArray 47 (0,0))]::[(m0, .cells #[.slice t nt kt,I s0] 78 (0,0))]::D0::y1::v0::u0::n0::o0::r0::[(q0, .cells (encJob a0).toArray 28 (0,0))]::H::F):=Sat.perm (show Sat W _ (t0::E0::[(l4, .cells (encPlane i1).toArray 38 (0,0))]::x1::L0::[(k1, .cells (encPlane q1).toArray 38 (0,0))]::[(r1, .cells (encStage e0).toArray 53 (0,0))]::[(o1, .cells (encTask b0).toArray 47 (0,0))]::[(m0, .cells #[.slice t nt kt,I s0] 78 (0,0))]::D0::y1::v0::u0::n0::o0::r0::[(q0, .cells (encJob a0).toArray 28 (0,0))]::H::F) from r9) (by simp [Value.cells]);have t9:=((s9.picks [13,13,13,13,4,13,13,8]).drops [8,8,8,8,8]);exact ⟨(n+1,s0,(zs.set ((b0.stage).toNat) i1),W0,E1,A1,y1,(x1++D0),(ds.set (((nxtV (d0.map Task.v) ds g0)).toNat) true),V0,B1,Z0,u0,(rs.set (((nxtV (d0.map Task.v) ds g0)).toNat) (⟨⟨z0,a1,b1,y0⟩⟩:IL)),F1,P1,O1,v0,(t0++E0)),od,alB,(Sat.perm (cs':=(x1++D0)::(y1::(t0++E0)::v0::u0::n0::o0::[(m0, .cells #[.slice t nt kt,I s0] 78 (0,0))]::r0::[(q0, .cells (encJob a0).toArray 28 (0,0))]::H::F)) (show Sat W _ (x1::D0::y1::(t0++E0)::v0::u0::n0::o0::[(m0, .cells #[.slice t nt kt,I s0] 78 (0,0))]::r0::[(q0, .cells (encJob a0).toArray 28 (0,0))]::H::F) from t9) (by simp)),om,om,p9,(mem_set (fun z hz=>(C0 z hz).of_mem mS) (c3.of_mem mS)),q2,(F0.of_mem mS),r2,(mem_set (fun z hz=>(N0 z hz).of_mem mS) ⟨m1.of_mem mS⟩),(by rw [List.map_set,List.map_set];exact (X1.2.2 (by simp only [Task.v];omega) _ _ k4).2),(by rw [cntB_set G2];omega)⟩)
 refine qO rfl<|sAlloc g4 zeroValue38 fun o4 _ p0=>nilO ⟨⟨cI p0 5, .inr ((w1.up 8 rfl).cell p0 (k:=0) rfl), .inr ((w1.up 8 rfl).cell p0 (k:=1) rfl), .inr ((w1.up 8 rfl).cell p0 (k:=2) rfl), .inr ((w1.up 8 rfl).cell p0 (k:=3) rfl),cI p0 5,cI p0 5,cI p0 5,cI p0 5,cI p0 5,cI p0 5,cI p0 5,cI p0 5,cI p0 5,trivial⟩,?_⟩
 refine qO rfl<|cZ (p21_put i0 b0 z0 a1 b1 y0 ⟨(RdT.flat ((C0 i0 (List.mem_of_getElem? l1)).pix.up 7 (by rfl)))⟩ ⟨(RdT.flat ((d1 b0 (List.mem_of_getElem? w0)).deps.up 13 (by rfl)))⟩ (m1.fl 1) p0.flat) ?_
 rintro _ _ ⟨j1,p4,z1,rfl,e3,v9,w9⟩
 have q4:=w9.unflat1
 have S0:=e3.pix.ll
 have r4:(j1.v,p4)=putT (plAt (zs.map Plane.v) b0.v.stage) b0.v.part ⟨b0.v.rectX0,b0.v.rectY0,b0.v.rectX1,b0.v.rectY1⟩ y0:=by rw [show plAt (zs.map Plane.v) b0.v.stage=i0.v from A0];exact v9
 have pe:=(X1.2.2 (show ¬b0.part=1 by omega) _ _ r4).1
 refine nZ q4 [6]<|qV 1<|qV 1<|qV 1<|qO rfl<|sTk q4 1 rfl (encPlane j1) fun _ s4=>nA<|qV 1<|qN<|jXC 8 rfl<|CN p4 0 (fun x9=>jCR 12 rfl<|retT [.bool false]<|(by first|omega)) fun x9=>gCO s4 7 [6,401] rfl<|sIO B0 b0.stage (b0.stage).toNat fun y9 _ _ f3 _ z9=>?_
 obtain rfl:i0=y9:=Option.some.inj (l1.symm.trans f3)
 have A0:plAt (zs.map Plane.v) (b0.stage)=i0.v:=pl_map f3
 exact sStF s4 B0 z9 9 (b0.stage).toNat 0 i0 j1 f3 (.agg (encPlane j1).toArray) (encPlane j1) sizeOf38 fun _ a2 aa ba=>jOO 5 rfl<|sAdd (n:Int) 1<|jOI 2 rfl<|(by have ca:=(ba.picks [10,3]);have da:Sat W _ ((t0++E0)::z1::[(o4, .cells (encPlane j1).toArray 38 (0,0))]::L0::[(k1, .cells (encPlane q1).toArray 38 (0,0))]::[(r1, .cells (encStage e0).toArray 53 (0,0))]::[(o1, .cells (encTask b0).toArray 47 (0,0))]::[(m0, .cells #[.slice t nt kt,I s0] 78 (0,0))]::D0::a2::v0::u0::n0::o0::r0::[(q0, .cells (encJob a0).toArray 28 (0,0))]::H::F):=Sat.perm (show Sat W _ (t0::E0::z1::[(o4, .cells (encPlane j1).toArray 38 (0,0))]::L0::[(k1, .cells (encPlane q1).toArray 38 (0,0))]::[(r1, .cells (encStage e0).toArray 53 (0,0))]::[(o1, .cells (encTask b0).toArray 47 (0,0))]::[(m0, .cells #[.slice t nt kt,I s0] 78 (0,0))]::D0::a2::v0::u0::n0::o0::r0::[(q0, .cells (encJob a0).toArray 28 (0,0))]::H::F) from ca) (by simp [Value.cells]);have ea:=((da.picks [13,13,13,13,4,13,13,7]).drops [8,8,8,8,8]);exact ⟨(n+1,s0,(zs.set ((b0.stage).toNat) j1),W0,E1,A1,a2,(z1++D0),(ds.set (((nxtV (d0.map Task.v) ds g0)).toNat) true),V0,B1,Z0,u0,(rs.set (((nxtV (d0.map Task.v) ds g0)).toNat) (⟨⟨z0,a1,b1,y0⟩⟩:IL)),F1,P1,O1,v0,(t0++E0)),od,alB,(Sat.perm (cs':=(z1++D0)::(a2::(t0++E0)::v0::u0::n0::o0::[(m0, .cells #[.slice t nt kt,I s0] 78 (0,0))]::r0::[(q0, .cells (encJob a0).toArray 28 (0,0))]::H::F)) (show Sat W _ (z1::D0::a2::(t0++E0)::v0::u0::n0::o0::[(m0, .cells #[.slice t nt kt,I s0] 78 (0,0))]::r0::[(q0, .cells (encJob a0).toArray 28 (0,0))]::H::F) from ea) (by simp)),om,om,aa,(mem_set (fun z hz=>(C0 z hz).of_mem mS) (e3.of_mem mS)),q2,(F0.of_mem mS),r2,(mem_set (fun z hz=>(N0 z hz).of_mem mS) ⟨m1.of_mem mS⟩),(by rw [List.map_set,List.map_set];exact (X1.2.2 (by simp only [Task.v];omega) _ _ r4).2),(by rw [cntB_set G2];omega)⟩)
end Go.Proofs.YtghcddbhllkbmaaGreat
