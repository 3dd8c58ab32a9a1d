import Derived.WalkKit
import Derived.Deep.Quiet
import Derived.KernelRfl
import Derived.Laws.BytesString
import Derived.Laws.Shifts
import Derived.Laws.IdiomStrings
import Derived.OpenShut
import Derived.Test.YtghcddbhllkbmaaGreatProg
import Derived.Laws.IdiomRangeMap
import Derived.Test.YtghcddbhllkbmaaGreatR3P3Rv
import Derived.Test.YtghcddbhllkbmaaGreatR3P3Lu
namespace Go.Proofs.YtghcddbhllkbmaaGreat
open Go Go.E Go.Proofs.Tryz
set_option linter.all false
set_option maxRecDepth 100000
set_option maxHeartbeats 2000000
variable {W w:World} {H:Chunk} {F:List Chunk}
theorem ceil_le {a b:Int} (ha:1<=a) (hb:1<=b):ceilV a b<=a:=by
  unfold ceilV
  rw [if_pos (by omega)]
  have h1:=Int.emod_def a b
  have h2:=Int.emod_nonneg a (show b≠0 by omega)
  have h4:0<=a/b:=Int.ediv_nonneg (by omega) (by omega)
  have h5:a/b<=b*(a/b):=(by have:=Int.mul_le_mul_of_nonneg_right hb h4;omega)
  split<;>omega
theorem flat_at {α:Type} {f:Int->List α}:∀(l:List Int) (i:Nat) (z:α),(l.flatMap f)[i]?=some z->∃p x q j,l=p++x::q/\(f x)[j]?=some z/\i=(p.flatMap f).length+j
  |[],i,z,h=>by simp at h
  |x::l,i,z,h=>by
    rw [List.flatMap_cons] at h
    by_cases hi:i<(f x).length
    · exact (by rw [List.getElem?_append_left hi] at h;exact ⟨[],x,l,i,rfl,h,by simp⟩)
    · exact (by rw [List.getElem?_append_right (by omega)] at h;obtain ⟨p,y,q,j,e,hz,hj⟩:=flat_at l _ z h;exact ⟨x::p,y,q,j,by rw [e];rfl,hz,by rw [List.flatMap_cons,List.length_append];omega⟩)
theorem flat_get {α:Type} {f:Int->List α} {p q:List Int} {x:Int} {j:Nat} {z:α} (h:(f x)[j]?=some z):((p++x::q).flatMap f)[(p.flatMap f).length+j]?=some z:=by
  rw [List.flatMap_append,List.getElem?_append_right (by omega),List.flatMap_cons,List.getElem?_append_left (by have:=(List.getElem?_eq_some_iff.1 h).1;omega)]
  rw [show (p.flatMap f).length+j-(p.flatMap f).length=j by omega];exact h
section
variable {L:Lay} (g:LayG L)
include g
theorem pre_len {p q:List Int} {x:Int} (e:L.od=p++x::q):((p.flatMap L.tasks).length:Int)=L.first x:=by
  rw [tasks_sum g p (fun y hy=>by rw [e];simp [hy]),(g.first_at e).1]
theorem all_at {i:Nat} {z:TaskV} (h:L.all[i]?=some z):∃n j,n∈L.od/\(L.tasks n)[j]?=some z/\(i:Int)=L.first n+(j:Nat):=by
  obtain ⟨p,x,q,j,e,hz,hj⟩:=flat_at _ _ _ h
  exact ⟨x,j,by rw [e];simp,hz,(by have:=pre_len g e;omega)⟩
theorem at_all {n:Int} {j:Nat} {z:TaskV} (hn:n∈L.od) (h:(L.tasks n)[j]?=some z):L.all[(L.first n+(j:Nat)).toNat]?=some z:=by
  obtain ⟨p,q,e⟩:=List.append_of_mem hn
  have hp:=pre_len g e
  have hf:=flat_get (f:=L.tasks) (p:=p) (q:=q) h
  rw [<-e] at hf
  rw [show (L.first n+(j:Int)).toNat=(p.flatMap L.tasks).length+j by omega]
  exact hf
theorem tasks_at {n:Int} {j:Nat} {z:TaskV} (hn:n∈L.od) (h:(L.tasks n)[j]?=some z):((j:Int)<L.nx n*L.ny n/\z=L.tileT n j)\/((L.st n).kind=4/\(j:Int)=L.nx n*L.ny n/\z=L.mergeT n):=by
 have hg:=(g.grid hn).2.2
 unfold Lay.tasks at h
 by_cases hj:j<(L.nx n*L.ny n).toNat
 ·rw [List.getElem?_append_left (by rw [List.length_map,upto_len];exact hj)] at h
  left
  refine ⟨om,?_⟩
  rw [List.getElem?_map] at h
  have hu:(uptoV (L.nx n*L.ny n).toNat)[j]?=some (j:Int):=by unfold uptoV;rw [List.getElem?_map,List.getElem?_range hj];rfl
  rw [hu] at h
  exact (Option.some.inj h).symm
 ·rw [List.getElem?_append_right (by rw [List.length_map,upto_len];omega),List.length_map,upto_len] at h
  by_cases hk:(L.st n).kind=4
  · exact (by rw [if_pos hk] at h;have hl:=(List.getElem?_eq_some_iff.1 h).1;simp only [List.length_singleton] at hl;have e:j-(L.nx n*L.ny n).toNat=0:=(by omega);rw [e] at h;exact .inr ⟨hk,om,(Option.some.inj h).symm⟩)
  ·rw [if_neg hk] at h;simp at h
theorem at_tasks {n:Int} {j:Int} (hn:n∈L.od) (h0:0<=j) (h:j<L.cnt n):∃z,(L.tasks n)[j.toNat]?=some z/\z.stage=n:=by
  have hl:=tasks_len g hn
  obtain ⟨z,hz⟩:∃z,(L.tasks n)[j.toNat]?=some z:=⟨_,List.getElem?_eq_getElem (by omega)⟩
  refine ⟨z,hz,?_⟩
  rcases tasks_at g hn hz with ⟨_,rfl⟩|⟨_,_,rfl⟩<;>rfl
theorem dep_src {s:StageV} {r:Rct} {x d:Int} (hx:x<L.ni\/x∈L.od) (h:d∈L.srcDeps s r x):x∈L.od/\∃k,0<=k/\k<L.cnt x/\d=L.first x+k:=by
 unfold Lay.srcDeps at h
 split at h
 ·simp at h
 rename_i hni
 have a0:x∈L.od:=by rcases hx with h1|h1;exact absurd h1 hni;exact h1
 refine ⟨a0,?_⟩
 have d0:=g.cntb a0
 split at h
 · exact (by obtain ⟨k,hk,rfl⟩:=List.mem_map.1 h;rw [mem_upto] at hk;exact ⟨k,hk.1,om,rfl⟩)
 split at h
 · exact (by simp only [List.mem_singleton] at h;exact ⟨L.cnt x-1,om,om,om⟩)
 rename_i hk4
 obtain ⟨k,hk,rfl⟩:=List.mem_map.1 h
 have hk:=(List.mem_filter.1 hk).1
 rw [mem_upto] at hk
 refine ⟨k,hk.1,?_,rfl⟩
 have e0:=(g.grid a0).2.2
 have b0:L.nx x=colsN (shpAt L.sh x).w (shpAt L.sh x).h L.tw L.th:=by unfold Lay.nx Lay.cut;rw [if_neg hk4]
 have c0:L.ny x=rowsN (shpAt L.sh x).w (shpAt L.sh x).h L.tw L.th:=by unfold Lay.ny Lay.cut;rw [if_neg hk4]
 unfold Lay.cnt
 rw [if_neg hk4]
 unfold tilN at hk
 rw [<-b0,<-c0] at hk
 omega
theorem src_first {n y:Int} (hn:n∈L.od) (hy:y∈srcs (L.st n)) (hyo:y∈L.od):L.first y+L.cnt y<=L.first n:=by
  obtain ⟨p,q,e⟩:=List.append_of_mem hn
  have hb:=g.bef p n q e y hy
  have a0:y∈p:=by
    rcases hb.2 with h|h
    · have:=g.rng y hyo;omega
    · exact h
  obtain ⟨p1,p2,e1⟩:=List.append_of_mem a0
  have e2:L.od=p1++y::(p2++n::q):=by rw [e,e1];simp
  rw [(g.first_at e).1,(g.first_at e2).1,e1]
  have b0:0<=(p2.map L.cnt).sum:=sum_nn _ (fun x hx=>by have:=g.cntb (show x∈L.od by rw [e,e1];simp [hx]);omega)
  simp only [List.map_append,List.map_cons,List.sum_append,List.sum_cons]
  omega
end
section
variable {L:Lay} (g:LayG L)
include g
theorem all_st {i:Nat} {z:TaskV} (h:L.all[i]?=some z):z.stage∈L.od/\∃j:Nat,(L.tasks z.stage)[j]?=some z/\(i:Int)=L.first z.stage+(j:Nat):=by
  obtain ⟨n,j,hn,hz,hi⟩:=all_at g h
  have e:z.stage=n:=by rcases tasks_at g hn hz with ⟨_,rfl⟩|⟨_,_,rfl⟩<;>rfl
  rw [e];exact ⟨hn,j,hz,hi⟩
theorem all_get {n k:Int} (hn:n∈L.od) (h0:0<=k) (h:k<L.cnt n):∃y,L.all[(L.first n+k).toNat]?=some y/\y.stage=n:=by
  obtain ⟨y,hy,hs⟩:=at_tasks g hn h0 h
  exact ⟨y,(by have:=at_all g hn hy;rw [show (k.toNat:Int)=k by omega] at this;exact this),hs⟩
theorem needs_src {n d:Int} (hn:n∈L.od) {r:Rct} (h:d∈L.needs (L.st n) r):∃y k,y∈srcs (L.st n)/\y∈L.od/\0<=k/\k<L.cnt y/\d=L.first y+k:=by
  unfold Lay.needs at h
  obtain ⟨y,hy,hd⟩:=List.mem_flatMap.1 h
  obtain ⟨a0,k,h1,h2,h3⟩:=dep_src g (g.src hn y hy).2.2 hd
  exact ⟨y,k,hy,a0,h1,h2,h3⟩
theorem own_at {n j d:Int} (hn:n∈L.od) (hj:0<=j/\j<L.nx n*L.ny n) (h:d∈L.own n j):(L.st n).kind=5/\∃k,0<=k/\k<j/\d=L.first n+k:=by
 unfold Lay.own at h
 split at h
 ·rename_i h5
  refine ⟨h5,?_⟩
  have hg:=(g.grid hn).1
  rcases List.mem_append.1 h with h|h
  ·split at h
   ·rename_i hm
    have a0:0<j:=by
     rcases Int.lt_or_eq_of_le hj.1 with h0|h0
     ·exact h0
     ·rw [<-h0] at hm;simp at hm
    simp only [List.mem_singleton] at h
    exact ⟨j-1,om,om,om⟩
   ·simp at h
  ·split at h
   · exact (by simp only [List.mem_singleton] at h;exact ⟨j-L.nx n,om,om,om⟩)
   ·simp at h
 ·simp at h
theorem dep_ok {i:Nat} {z:TaskV} {d:Int} (h:L.all[i]?=some z) (hd:d∈z.deps):
  (0<=d/\d<(i:Int))/\∃y,L.all[d.toNat]?=some y/\((y.stage=z.stage/\((L.st z.stage).kind=5\/z.part=2))\/y.stage=(L.st z.stage).a\/((L.st z.stage).kind=6/\y.stage=(L.st z.stage).b)):=by
 obtain ⟨hn,j,hz,hi⟩:=all_st g h
 generalize z.stage=n at hn hz hi⊢
 have e0:=g.firstb hn
 have f0:=(g.grid hn).2.2
 rcases tasks_at g hn hz with ⟨hj,rfl⟩|⟨h4,hj,rfl⟩
 ·have b0:d∈L.needs (L.st n) (L.tile n j)++L.own n j:=mem_canon.1 hd
  rcases List.mem_append.1 b0 with h1|h1
  ·obtain ⟨y,k,hy,c0,h0,hk,rfl⟩:=needs_src g hn h1
   have hs:=src_first g hn hy c0
   have hb:=g.firstb c0
   obtain ⟨t,ht,a0⟩:=all_get g c0 h0 hk
   refine ⟨om,t,ht,?_⟩
   rw [a0]
   unfold srcs at hy
   split at hy
   ·rename_i h2
    simp only [List.mem_cons,List.not_mem_nil,or_false] at hy
    rcases hy with e|e
    ·exact .inr (.inl e)
    ·exact .inr (.inr ⟨h2.1,e⟩)
   · exact (by simp only [List.mem_singleton] at hy;exact .inr (.inl hy))
  · exact (by obtain ⟨h5,k,h0,hk,rfl⟩:=own_at g hn ⟨om,hj⟩ h1;have d0:L.cnt n=L.nx n*L.ny n:=(by unfold Lay.cnt;rw [if_neg om]);obtain ⟨t,ht,a0⟩:=all_get g hn h0 om;exact ⟨om,t,ht, .inl ⟨a0, .inl h5⟩⟩)
 · exact (by have b0:d∈(uptoV (L.nx n*L.ny n).toNat).map (L.first n+·):=mem_canon.1 hd;obtain ⟨k,hk,rfl⟩:=List.mem_map.1 b0;rw [mem_upto] at hk;have d0:L.cnt n=L.nx n*L.ny n+1:=(by unfold Lay.cnt;rw [if_pos h4]);obtain ⟨t,ht,a0⟩:=all_get g hn hk.1 om;exact ⟨om,t,ht, .inl ⟨a0, .inr rfl⟩⟩)
end
section
variable {L:Lay} (g:LayG L)
include g
end
section
variable {j:JobV} {p q:PlaneV} {s:StageV} (hj:j.inputs=[p,q]) (hs:j.stages=[s]) (hz:(shpV j).2.2=0)
include hj hs hz
variable (ha:s.a=0) (hb:twoP s->s.b=1)
include ha hb
variable {tw th:Int}
end
theorem of_k {s:StageV} {x y:Shape} (h:(ofV s x y).2=0):(ofV s x y).1=(kernelV s x y).1/\(kernelV s x y).2=0:=by
  unfold ofV at h⊢
  by_cases h1:fieldsP s
  · rw [if_pos h1] at h⊢
    by_cases h2:szP x/\(¬twoP s\/szP y)
    · rw [if_pos h2] at h⊢
      by_cases h3:¬(s.kind=1\/s.kind=2\/s.kind=3)\/edgeP s x.max_
      · rw [if_pos h3] at h⊢
        by_cases h4:(kernelV s x y).2=0
        · rw [if_pos h4];exact ⟨rfl,h4⟩
        · rw [if_neg h4] at h;exact absurd h h4
      · rw [if_neg h3] at h;exact absurd h (by decide)
    · rw [if_neg h2] at h;exact absurd h (by decide)
  · rw [if_neg h1] at h;exact absurd h (by decide)
section
variable (s:StageV) (p q:PlaneV) (tw th:Int)
end
section
variable {s:StageV} {p q own:PlaneV} {tw th i:Int} {l:List (List Int)} (hp:planeOK p=true) (hq:twoP s->planeOK q=true) (h:(ofV s (shpOf p) (shpOf q)).2=0)
include hp hq h
end
section
variable {s:StageV} {p q own:PlaneV} {tw th i:Int} {l:List (List Int)} (hp:planeOK p=true) (hq:twoP s->planeOK q=true) (h:(ofV s (shpOf p) (shpOf q)).2=0) (hk:s.kind=4)
include hp hq h hk
theorem hist_bins:(1<=s.bins/\s.bins<=128)/\(stgT s p q).1=(histT p s.bins).1:=by
  have hv:=(of_k h).2
  refine ⟨?_,by unfold stgT;rw [if_pos ⟨hp,hq⟩,if_pos h,if_pos hk]⟩
  unfold kernelV at hv
  rw [if_neg (by omega),if_neg (by omega),if_neg (by omega),if_pos hk] at hv
  by_cases hb:1<=s.bins/\s.bins<=128
  · exact hb
  · rw [if_neg hb] at hv;simp at hv
theorem hist_cmp {part:Int} (hpt:part=1\/part=2):cmpC s part p q own=0:=by
  unfold cmpC
  rw [if_pos,h]
  exact ⟨.inl ⟨hk,hpt⟩,hp,hq,fun h5=>by omega⟩
end
section
variable {s:StageV} {p q own:PlaneV} {tw th:Int} {l:List (List Int)} (hp:planeOK p=true) (hq:twoP s->planeOK q=true) (h:(ofV s (shpOf p) (shpOf q)).2=0)
include hp hq h
end
theorem okT_congr {c:Int} {p p':PlaneV} (h:c=0->p=p'):okT c p=okT c p':=by
  unfold okT
  by_cases hc:c=0
  · rw [if_pos hc,if_pos hc,h hc]
  · rw [if_neg hc,if_neg hc]
theorem edgC_rIn {p:PlaneV} {pol fill c w h:Int} {r:Rct} (h0:edgC p pol fill c w h r=0):c=0/\rIn r w h:=by
  unfold edgC at h0
  split at h0
  · split at h0
    · split at h0
      · rename_i a b;exact ⟨a,b⟩
      · omega
    · rename_i a;exact absurd h0 a
  · omega
theorem taps_tapP {l:List TapV} {n:Int} (h:tapsCode l n=0):l.all tapP=true:=by
  have hk:=(taps_ok h).2
  rw [List.all_eq_true]
  intro t ht
  have:=hk t ht
  unfold tapP
  rw [decide_eq_true_eq]
  omega
theorem conv_sz {mx kw kh:Int} {ws:List Int} {sh out:Int} (h:convCode mx kw kh ws sh out=0):(1<=kw/\kw<=9)/\(1<=kh/\kh<=9)/\(ws.length:Int)=kw*kh:=by
  unfold convCode at h
  split at h
  · rename_i a;exact a
  · omega
theorem sep_sz {mx:Int} {row col:List Int} {sh sh2 out:Int} (h:sepCode mx row col sh sh2 out=0):(1<=(row.length:Int)/\(row.length:Int)<=9)/\1<=(col.length:Int)/\(col.length:Int)<=9:=by
  unfold sepCode at h
  split at h
  · rename_i a;exact a
  · omega
theorem res_taps {w h mx:Int} {x y:List TapV} {s s2 out:Int} (h0:resCode w h mx x y s s2 out=0):tapsCode x w=0/\tapsCode y h=0:=by
  unfold resCode at h0
  split at h0
  · rename_i a
    split at h0
    · rename_i b;exact ⟨a,b⟩
    · rename_i b;exact absurd h0 b
  · rename_i a;exact absurd h0 a
theorem acc_of {s:StageV} {x y:Shape} (h:(ofV s x y).2=0):accV s:=by
 have hk:=(of_k h).2
 have hf:fieldsP s:=by
  unfold ofV at h
  by_cases h1:fieldsP s
  ·exact h1
  ·rw [if_neg h1] at h;exact absurd h (by decide)
 unfold kernelV at hk
 by_cases h1:s.kind=1
 · exact (by rw [if_pos h1] at hk;have:=conv_sz hk;exact (acc1 hf h1).2 ⟨this.1,this.2.1⟩)
 ·rw [if_neg h1] at hk
  by_cases h2:s.kind=2
  · exact (by rw [if_pos h2] at hk;have:=sep_sz hk;exact (acc2 hf h2).2 ⟨this.1,this.2⟩)
  ·rw [if_neg h2] at hk
   by_cases h3:s.kind=3
   · exact (by rw [if_pos h3] at hk;have:=res_taps hk;exact (acc3 hf h3).2 ⟨taps_tapP this.1,taps_tapP this.2⟩)
   ·exact acc0 hf h1 h2 h3
theorem recS_congr {p p':PlaneV} {x y:Int} {i j:Nat} (h:∀a b:Nat,a<i->b<j->pixAt p (x+a) (y+b)=pixAt p' (x+a) (y+b)):recS p x y i j=recS p' x y i j:=by
  unfold recS
  exact sumN_congr _ (fun a ha=>(by unfold colS;exact sumN_congr _ (fun b hb=>h a b ha hb)))
section
variable {s:StageV} {p p' q q' own own':PlaneV} {r:Rct} (hp:planeOK p=true) (hp':planeOK p'=true) (hs:shpOf p'=shpOf p)
include hp hp' hs
theorem part_agr {bins:Int} (hg:∀x y,inR2 r x y->pixAt p x y=pixAt p' x y):partV p bins r=partV p' bins r/\partC p bins r=partC p' bins r:=by
 have hw:p'.w=p.w:=congrArg Shape.w hs
 have hh:p'.h=p.h:=congrArg Shape.h hs
 have hm:p'.max_=p.max_:=congrArg Shape.max_ hs
 have hC:partC p bins r=partC p' bins r:=by unfold partC;rw [hp,hp',hw,hh]
 refine ⟨?_,hC⟩
 unfold partV
 rw [<-hC]
 by_cases h0:partC p bins r=0
 ·rw [if_pos h0,if_pos h0]
  have hr:rIn r p.w p.h:=by
   unfold partC at h0
   rw [if_pos hp] at h0
   split at h0
   ·split at h0
    ·rename_i a;exact a
    ·omega
   ·omega
  have hA:=arN_eq hr
  unfold rIn at hr
  unfold cntV
  rw [hm,grid_congr (w:=r.x1-r.x0) (n:=areaN r) (f:=fun i j=>pixAt p (r.x0+i) (r.y0+j)) (g:=fun i j=>pixAt p' (r.x0+i) (r.y0+j)) (fun k hk=>by
   have h:=tile_ix (nx:=r.x1-r.x0) (ny:=r.y1-r.y0) (i:=(k:Int)) om om om
   exact hg _ _ (by unfold inR2;omega))]
 ·rw [if_neg h0,if_neg h0]
variable (hq:twoP s->planeOK q=true/\planeOK q'=true/\shpOf q'=shpOf q)
include hq
theorem cmpC_agr {part:Int} (ho:s.kind=5->planeOK own'=planeOK own/\own'.w=own.w/\own'.h=own.h) (h:(ofV s (shpOf p) (shpOf q)).2=0):cmpC s part p q own=cmpC s part p' q' own':=by
 have hw:p'.w=p.w:=congrArg Shape.w hs
 have hh:p'.h=p.h:=congrArg Shape.h hs
 have e:ofV s (shpOf p') (shpOf q')=ofV s (shpOf p) (shpOf q):=by
  rw [hs]
  by_cases h2:twoP s
  ·rw [(hq h2).2.2]
  ·exact of_any h2
 unfold cmpC
 rw [e,hw,hh]
 have hi:(belongP s.kind part/\planeOK p=true/\(twoP s->planeOK q=true)/\(s.kind=5->planeOK own=true/\own.w=p.w/\own.h=p.h))↔(belongP s.kind part/\planeOK p'=true/\(twoP s->planeOK q'=true)/\(s.kind=5->planeOK own'=true/\own'.w=p.w/\own'.h=p.h)):=by
  constructor
  ·rintro ⟨a,_,_,d⟩;exact ⟨a,hp',fun h2=>(hq h2).2.1,fun h5=>by obtain ⟨e1,e2,e3⟩:=ho h5;rw [e1,e2,e3];exact d h5⟩
  ·rintro ⟨a,_,_,d⟩;exact ⟨a,hp,fun h2=>(hq h2).1,fun h5=>by obtain ⟨e1,e2,e3⟩:=ho h5;rw [<-e1,<-e2,<-e3];exact d h5⟩
 by_cases hc:belongP s.kind part/\planeOK p=true/\(twoP s->planeOK q=true)/\(s.kind=5->planeOK own=true/\own.w=p.w/\own.h=p.h)
 ·rw [if_pos hc,if_pos (hi.1 hc)]
 ·rw [if_neg hc,if_neg (fun z=>hc (hi.2 z))]
variable (h:(ofV s (shpOf p) (shpOf q)).2=0) (hg:AgrP s p p' r) (hgq:twoP s->∀x y,inR2 r x y->pixAt q x y=pixAt q' x y)
include h hg hgq
theorem ker_agr:kerT s p q r=kerT s p' q' r:=by
 have hw:p'.w=p.w:=congrArg Shape.w hs
 have hh:p'.h=p.h:=congrArg Shape.h hs
 have hm:p'.max_=p.max_:=congrArg Shape.max_ hs
 have ha:=acc_of h
 have hk:=(of_k h).2
 have e0:=(plane_sz hp).1
 unfold sizeP at e0
 have hE:∀{pol fill c w h:Int} {r:Rct},edgC p' pol fill c w h r=edgC p pol fill c w h r:=fun {pol fill c w h r}=>by unfold edgC;rw [hp,hp',hm]
 unfold kernelV at hk
 unfold kerT
 by_cases h1:s.kind=1
 · exact (by rw [if_pos h1,if_pos h1];rw [if_pos h1] at hk;have hz:=conv_sz hk;unfold convT;rw [hE,hm,hw,hh];exact okT_congr fun h0=>(by have hr:=(edgC_rIn h0).2;have a0:=hr;unfold rIn at a0;exact mk_congr hr fun x y hi=>conv_agr hw hh ha (by unfold lenP;omega) (by unfold lenP;omega) hg h1 hz.2.2 om hi))
 ·rw [if_neg h1,if_neg h1]
  rw [if_neg h1] at hk
  by_cases h2:s.kind=2
  · exact (by rw [if_pos h2,if_pos h2];unfold sepT;rw [hE,hm,hw,hh];exact okT_congr fun h0=>(by have hr:=(edgC_rIn h0).2;have a0:=hr;unfold rIn at a0;exact mk_congr hr fun x y hi=>sep_agr hw hh ha (by unfold lenP;omega) (by unfold lenP;omega) hg h2 hi))
  ·rw [if_neg h2,if_neg h2]
   rw [if_neg h2] at hk
   by_cases h3:s.kind=3
   · exact (by rw [if_pos h3,if_pos h3];rw [if_pos h3] at hk;have ht:=res_taps hk;have hx:=tapsCode_len ht.1;have hy:=tapsCode_len ht.2;unfold resT;rw [hE,hm,hw,hh];exact okT_congr fun h0=>(by have hr:=(edgC_rIn h0).2;have a0:=hr;unfold rIn at a0;exact mk_congr hr fun x y hi=>res_agr hw hh ha (by unfold lenP;omega) (by unfold lenP;omega) hg h3 hi om om))
   ·rw [if_neg h3,if_neg h3]
    by_cases d0:3<s.kind
    ·have f0:(decide (twoP s)=true->planeOK q=true)↔(decide (twoP s)=true->planeOK q'=true):=⟨fun _ z=>(hq (of_decide_eq_true z)).2.1,fun _ z=>(hq (of_decide_eq_true z)).1⟩
     by_cases c0:twoP s
     ·have b0:=hq c0
      have qw:q'.w=q.w:=congrArg Shape.w b0.2.2
      have qh:q'.h=q.h:=congrArg Shape.h b0.2.2
      have qm:q'.max_=q.max_:=congrArg Shape.max_ b0.2.2
      unfold pwT
      rw [hp,hp',b0.1,b0.2.1,hm,hw,hh,qw,qh,qm]
      refine okT_congr fun h0=>?_
      have hr:rIn r p.w p.h:=by
       split at h0
       ·split at h0
        ·split at h0
         ·rename_i a;exact a.2
         ·omega
        ·rename_i a;exact absurd h0 a
       ·omega
      have a0:=hr;unfold rIn at a0
      exact mk_congr hr fun x y hi=>(by unfold pwX;rw [own_agr hw hh ha (by unfold lenP;omega) (by unfold lenP;omega) hg d0 hr hi,hgq c0 x y hi])
     ·rw [decide_eq_false c0,pwT_any (q:=q) (u:=q')]
      unfold pwT
      rw [hp,hp',hm,hw,hh]
      simp only [Bool.false_eq_true,false_implies,and_true,true_and,if_true]
      refine okT_congr fun h0=>?_
      have hr:rIn r p.w p.h:=by
       split at h0
       ·split at h0
        ·rename_i a;exact a
        ·omega
       ·rename_i a;exact absurd h0 a
      have a0:=hr;unfold rIn at a0
      exact mk_congr hr fun x y hi=>(by unfold pwX;rw [own_agr hw hh ha (by unfold lenP;omega) (by unfold lenP;omega) hg d0 hr hi])
    · exact (by exfalso;have hf:=ha.1;unfold fieldsP at hf;omega)
variable (ho:s.kind=5->planeOK own'=planeOK own/\own'.w=own.w/\own'.h=own.h/\leftV own' r=leftV own r/\topV own' r=topV own r/\atV own' (r.x0-1) (r.y0-1)=atV own (r.x0-1) (r.y0-1))
include ho
theorem til_agr:tilT s p q own r=tilT s p' q' own' r:=by
 have hw:p'.w=p.w:=congrArg Shape.w hs
 have hh:p'.h=p.h:=congrArg Shape.h hs
 have hm:p'.max_=p.max_:=congrArg Shape.max_ hs
 unfold tilT
 by_cases h5:s.kind=5
 ·rw [if_pos h5,if_pos h5]
  obtain ⟨_,_,_,e1,e2,e3⟩:=ho h5
  unfold sumT
  rw [e1,e2,e3,hw,hh]
  by_cases hr:rIn r p.w p.h
  · exact (by rw [if_pos hr,if_pos hr];have ha:=acc_of h;have b0:=(plane_sz hp).1;unfold sizeP at b0;have a0:=hr;unfold rIn at a0;have hA:=arN_eq hr;have hL:itgL p (leftV own r) (topV own r) (atV own (r.x0-1) (r.y0-1)) r=itgL p' (leftV own r) (topV own r) (atV own (r.x0-1) (r.y0-1)) r:=(by unfold itgL;refine grid_congr fun k hk=>?_;have hx:=tile_ix (nx:=r.x1-r.x0) (ny:=r.y1-r.y0) (i:=(k:Int)) om om om;unfold itgX;rw [recS_congr fun a b h1 h2=>own_agr hw hh ha (by unfold lenP;omega) (by unfold lenP;omega) hg om hr (by unfold inR2;omega)]);unfold itgT itgC;rw [hL,hp,hp',hw,hh,hm])
  ·rw [if_neg hr,if_neg hr]
 · exact (by rw [if_neg h5,if_neg h5];exact ker_agr hp hp' hs hq h hg hgq)
theorem cmp_agr {part:Int} {l:List (List Int)} (hr:s.kind=4->part=1->rIn r p.w p.h):cmpT s part r p q own l=cmpT s part r p' q' own' l:=by
 have hw:p'.w=p.w:=congrArg Shape.w hs
 have hh:p'.h=p.h:=congrArg Shape.h hs
 have hc:=cmpC_agr (part:=part) hp hp' hs hq (fun h5=>⟨(ho h5).1,(ho h5).2.1,(ho h5).2.2.1⟩) h
 unfold cmpT
 rw [hc]
 by_cases h0:cmpC s part p' q' own'=0
 ·rw [if_pos h0,if_pos h0]
  by_cases h1:part=1
  ·rw [if_pos h1,if_pos h1]
   have h4:s.kind=4:=by
    by_cases h4:s.kind=4
    ·exact h4
    ·exfalso
     unfold cmpC at h0
     split at h0
     ·rename_i a;have:=a.1;unfold belongP at this;omega
     ·omega
   have a0:=hr h4 h1
   have c0:=(plane_sz hp).1
   unfold sizeP at c0
   have b0:=a0;unfold rIn at b0
   have e:=part_agr (bins:=s.bins) hp hp' hs (r:=r) (fun x y hi=>own_agr hw hh (acc_of h) (by unfold lenP;omega) (by unfold lenP;omega) hg om a0 hi)
   rw [e.1,e.2]
  ·rw [if_neg h1,if_neg h1,til_agr hp hp' hs hq h hg hgq ho]
 ·rw [if_neg h0,if_neg h0]
end
theorem plAt_set {l:List PlaneV} {n m:Int} {v:PlaneV} (h:n.toNat≠m.toNat):plAt (l.set n.toNat v) m=plAt l m:=by
  unfold plAt;rw [List.getElem?_set,if_neg h]
theorem plAt_set_self {l:List PlaneV} {n:Int} {v:PlaneV} (h:n.toNat<l.length):plAt (l.set n.toNat v) n=v:=by
  unfold plAt;rw [List.getElem?_set,if_pos rfl,if_pos h];rfl
theorem meanG_keep {ni:Int} {ss:List StageV} {m:Int} (hm:0<=m):∀(l:List Int) (out:List PlaneV),(∀n∈l,0<=n/\n≠m)->plAt (meanG ni ss l out) m=plAt out m
  |[],_,_=>rfl
  |n::l,out,h=>by
    have h0:=h n (List.mem_cons_self ..)
    rw [show meanG ni ss (n::l) out=meanG ni ss l (out.set n.toNat (meanS ni ss n out).1) from rfl,meanG_keep hm l _ (fun x hx=>h x (List.mem_cons_of_mem _ hx)),plAt_set (by omega)]
structure NodeP (j:JobV) (n:Int):Prop where
  pa:planeOK (plAt (meanV j) (stgAt j.stages j.inputs.length n).a)=true
  pb:twoP (stgAt j.stages j.inputs.length n)->planeOK (plAt (meanV j) (stgAt j.stages j.inputs.length n).b)=true
  of:(ofV (stgAt j.stages j.inputs.length n) (shpOf (plAt (meanV j) (stgAt j.stages j.inputs.length n).a)) (shpOf (plAt (meanV j) (stgAt j.stages j.inputs.length n).b))).2=0
  eq:plAt (meanV j) n=(stgT (stgAt j.stages j.inputs.length n) (plAt (meanV j) (stgAt j.stages j.inputs.length n).a) (plAt (meanV j) (stgAt j.stages j.inputs.length n).b)).1
  sa:shpAt (shpV j).1 (stgAt j.stages j.inputs.length n).a=shpOf (plAt (meanV j) (stgAt j.stages j.inputs.length n).a)
  sn:shpAt (shpV j).1 n=shpOf (plAt (meanV j) n)
  ok:planeOK (plAt (meanV j) n)=true
theorem node_ok {j:JobV} (hz:(shpV j).2.2=0) {n:Int} (hn:n∈(ordV j).1):NodeP j n:=by
 have ho:=shp_ok hz
 have hm:=mean_ok hz
 have hr:=ho.rng n hn
 obtain ⟨p,q,e⟩:=List.append_of_mem hn
 have hb:=ho.bef p n q e
 have f0:=ho.nd
 rw [e,List.nodup_append,List.nodup_cons] at f0
 have g0:∀x,x∈p\/x∈q->(j.inputs.length:Int)<=x/\x<(j.inputs.length:Int)+j.stages.length:=fun x hx=>ho.rng x (by rw [e];rcases hx with hx|hx<;>simp [hx])
 obtain ⟨s,hs⟩:∃z,z=stgAt j.stages j.inputs.length n:=⟨_,rfl⟩
 have c0:∀y∈srcs s,(0<=y/\y<(j.inputs.length:Int)+j.stages.length)/\y≠n/\∀x∈q,x≠y:=fun y hy=>by
  rw [hs] at hy
  have h:=hb y hy
  rcases h.2 with h1|h1
  ·exact ⟨⟨h.1,om⟩,om,fun x hx=>by have:=g0 x (.inr hx);omega⟩
  ·have h2:=g0 y (.inl h1)
   refine ⟨om,fun e=>?_,fun x hx e=>?_⟩
   ·subst e;exact f0.2.2 _ h1 _ (List.mem_cons_self ..) rfl
   ·subst e;exact f0.2.2 _ h1 _ (List.mem_cons_of_mem _ hx) rfl
 have hM:meanV j=meanG j.inputs.length j.stages (ordV j).1 (meanI j):=if_pos hz
 obtain ⟨O,hO⟩:∃z,z=meanG j.inputs.length j.stages p (meanI j):=⟨_,rfl⟩
 have i0:meanV j=meanG j.inputs.length j.stages q (O.set n.toNat (meanS j.inputs.length j.stages n O).1):=(by rw [hM,e,hO];unfold meanG;rw [List.foldl_append];rfl)
 have n0:O.length=j.inputs.length+j.stages.length:=(by have h:=(mean_at hz p.length (by rw [e];simp)).len;rw [e,List.take_left] at h;rw [hO];exact h)
 have m0:plAt (meanV j) n=(meanS j.inputs.length j.stages n O).1:=(by rw [i0,meanG_keep om q _ (fun x hx=>⟨by have:=g0 x (.inr hx);omega,fun (e:x=n)=>f0.2.1.1 (e▸hx)⟩),plAt_set_self om])
 have l0:∀y∈srcs s,plAt (meanV j) y=plAt O y:=fun y hy=>by
  have h:=c0 y hy
  rw [i0,meanG_keep h.1.1 q _ (fun x hx=>⟨by have:=g0 x (.inr hx);omega,h.2.2 x hx⟩),plAt_set om]
 have ha:=c0 _ (srcs_a s)
 have b0:=hm.2 s.a ha.1.1 ha.1.2
 have e0:=hm.2 n om om
 have a0:=ho.fit n hn
 unfold FitP shpStep at a0
 rw [<-hs] at a0
 have k0:(ofV s (shpOf (plAt (meanV j) s.a)) (shpOf (plAt (meanV j) s.b))).2=0:=by
  by_cases h2:twoP s
  · exact (by have d0:=c0 _ (srcs_b h2);have h0:=hm.2 s.b d0.1.1 d0.1.2;rw [if_pos h2] at a0;rw [b0.2,h0.2];exact congrArg Prod.snd a0)
  · exact (by rw [if_neg h2] at a0;rw [b0.2,of_any (u:=⟨0,0,0⟩) h2];exact congrArg Prod.snd a0)
 have j0:plAt (meanV j) n=(stgT s (plAt (meanV j) s.a) (plAt (meanV j) s.b)).1:=by
  rw [m0]
  unfold meanS
  rw [<-hs,l0 _ (srcs_a s),<-stgT_if (q:=plAt (meanV j) s.b)]
  unfold srcB
  by_cases h2:twoP s
  ·rw [if_pos h2,if_pos h2,l0 _ (srcs_b h2)]
  ·rw [if_neg h2,if_neg h2]
 rw [hs] at b0 k0 j0
 exact ⟨b0.1,fun h2=>by have d0:=c0 _ (srcs_b (by rw [hs];exact h2));rw [hs] at d0;exact (hm.2 _ d0.1.1 d0.1.2).1,k0,j0,b0.2.symm,e0.2.symm,e0.1⟩
def NearP (W own:PlaneV) (r:Rct):Prop:=leftV own r=leftV W r/\topV own r=topV W r/\atV own (r.x0-1) (r.y0-1)=atV W (r.x0-1) (r.y0-1)
def maskP (W:PlaneV) (nx tw th i:Int):PlaneV:=⟨W.w,W.h,W.max_,gridN W.w (fun x y=>if tixV nx tw th x y<i then pixAt W x y else 0) W.pix.length⟩
theorem mask_asm {W:PlaneV} (hl:(W.pix.length:Int)=W.w*W.h) (nx tw th i:Int):AsmP W (maskP W nx tw th i) nx tw th i:=
  ⟨rfl,by unfold maskP;dsimp only;rw [grid_len];exact hl,fun x y hx hy=>pixAt_grid hl hx hy⟩
theorem near_mask {W:PlaneV} {tw th i:Int} (hW:planeOK W=true) (hf:fineP W.w W.h tw th) (hi:0<=i/\i<colsN W.w W.h tw th*rowsN W.w W.h tw th):NearP W (maskP W (colsN W.w W.h tw th) tw th i) (tileV W.w W.h tw th i):=by
 have hb:=cols_bd hf
 have hix:=tile_ix hb.1.1 hi.1 hi.2
 have i0:=tile_in hf hi.1 hi.2
 have a0:=i0.1
 unfold inP at a0
 have m0:=hf
 unfold fineP at m0
 have hA:=mask_asm (plane_sz hW).2.1 (colsN W.w W.h tw th) tw th i
 have g0:(maskP W (colsN W.w W.h tw th) tw th i).w=W.w/\(maskP W (colsN W.w W.h tw th) tw th i).h=W.h:=⟨rfl,rfl⟩
 obtain ⟨M,hM⟩:∃z,z=maskP W (colsN W.w W.h tw th) tw th i:=⟨_,rfl⟩
 obtain ⟨nx,l0⟩:∃z,z=colsN W.w W.h tw th:=⟨_,rfl⟩
 obtain ⟨cx,d0⟩:∃z,z=i%colsN W.w W.h tw th:=⟨_,rfl⟩
 obtain ⟨cy,e0⟩:∃z,z=i/colsN W.w W.h tw th:=⟨_,rfl⟩
 obtain ⟨r,hr⟩:∃z,z=tileV W.w W.h tw th i:=⟨_,rfl⟩
 have n0:r.x0=cx*tw:=by rw [hr,d0];rfl
 have p0:r.y0=cy*th:=by rw [hr,e0];rfl
 have o0:r.x1<=cx*tw+tw:=by rw [hr,d0];exact Int.min_le_left _ _
 have q0:r.y1<=cy*th+th:=by rw [hr,e0];exact Int.min_le_left _ _
 rw [<-hr] at i0 a0⊢
 rw [<-hM] at hA g0⊢
 rw [<-l0] at hA
 rw [<-d0,<-e0,<-l0] at hix
 have f0:∀y,r.y0<=y->y<r.y1->y/th=cy:=fun y h1 h2=>ediv_eq om om om
 have c0:∀x,r.x0<=x->x<r.x1->x/tw=cx:=fun x h1 h2=>ediv_eq om om om
 have j0:0<r.x0->(r.x0-1)/tw=cx-1:=fun h0=>ediv_eq om (by rw [Int.sub_mul,Int.one_mul];omega) (by rw [Int.sub_mul,Int.one_mul];omega)
 have k0:0<r.y0->(r.y0-1)/th=cy-1:=fun h0=>ediv_eq om (by rw [Int.sub_mul,Int.one_mul];omega) (by rw [Int.sub_mul,Int.one_mul];omega)
 have b0:∀x y:Int,x<W.w->y<W.h->(x<0\/y<0\/tixV nx tw th x y<i)->atV M x y=atV W x y:=fun x y hx hy h=>by
  unfold atV
  rw [g0.1,g0.2]
  by_cases h0:x<0\/y<0\/W.w<=x\/W.h<=y
  ·rw [if_pos h0,if_pos h0]
  ·rw [if_neg h0,if_neg h0,hA.pix x y om om,if_pos om]
 refine ⟨?_,?_,?_⟩
 ·unfold leftV
  refine List.map_congr_left fun k hk=>?_
  have hk:=List.mem_range.1 hk
  refine b0 _ _ om om ?_
  by_cases h0:0<r.x0
  ·exact .inr (.inr (by unfold tixV;rw [f0 _ om om,j0 h0];omega))
  ·exact .inl om
 ·unfold topV
  refine List.map_congr_left fun k hk=>?_
  have hk:=List.mem_range.1 hk
  refine b0 _ _ om om ?_
  by_cases h0:0<r.y0
  ·exact .inr (.inr (by unfold tixV;rw [c0 _ om om,k0 h0,Int.sub_mul,Int.one_mul];omega))
  ·exact .inr (.inl om)
 ·refine b0 _ _ om om ?_
  by_cases h0:0<r.x0
  ·by_cases h3:0<r.y0
   ·exact .inr (.inr (by unfold tixV;rw [j0 h0,k0 h3,Int.sub_mul,Int.one_mul];omega))
   ·exact .inr (.inl om)
  ·exact .inl om
def cutP (W:PlaneV) (r:Rct):List Int:=gridN (r.x1-r.x0) (fun i j=>pixAt W (r.x0+i) (r.y0+j)) (areaN r)
theorem tile_rIn {w h tw th i:Int} (hf:fineP w h tw th) (hi:0<=i/\i<colsN w h tw th*rowsN w h tw th):rIn (tileV w h tw th i) w h:=by
  have h:=tile_in hf hi.1 hi.2
  have h0:=h.1
  unfold inP at h0;unfold rIn;omega
section
variable {s:StageV} {p p' q q' own:PlaneV} {tw th i:Int} {l:List (List Int)} (hp:planeOK p=true) (hq:twoP s->planeOK q=true) (h:(ofV s (shpOf p) (shpOf q)).2=0)
  (hp':planeOK p'=true) (hs:shpOf p'=shpOf p) (hq':twoP s->planeOK q'=true/\shpOf q'=shpOf q)
include hp hq h hp' hs hq'
theorem hist_right (hk:s.kind=4) (hf:fineP p.w p.h tw th) (hi:0<=i/\i<colsN p.w p.h tw th*rowsN p.w p.h tw th) (hg:AgrP s p p' (tileV p.w p.h tw th i)):
  cmpT s 1 (tileV p.w p.h tw th i) p' q' own l=(partV p s.bins (tileV p.w p.h tw th i),0):=by
 have h2:¬twoP s:=fun h2=>by unfold twoP at h2;omega
 have hb:=hist_bins hp hq h hk
 have a0:=tile_rIn hf hi
 have b0:partC p s.bins (tileV p.w p.h tw th i)=0:=by unfold partC;rw [if_pos hp,if_pos hb.1,if_pos a0]
 rw [<-cmp_agr (q:=q) (own:=own) hp hp' hs (fun e=>absurd e h2) h hg (fun e=>absurd e h2) (fun e=>by omega) (fun _ _=>a0),cmp_1 (hist_cmp hp hq h hk (.inl rfl)) rfl,b0]
theorem til_right {W:PlaneV} (hW:W=(stgT s p q).1) (hk:¬s.kind=4) (hf:fineP W.w W.h tw th) (hi:0<=i/\i<colsN W.w W.h tw th*rowsN W.w W.h tw th) (hg:AgrP s p p' (tileV W.w W.h tw th i))
  (hgq:twoP s->∀x y,inR2 (tileV W.w W.h tw th i) x y->pixAt q x y=pixAt q' x y) (ho:s.kind=5->planeOK own=true/\shpOf own=shpOf W/\NearP W own (tileV W.w W.h tw th i)):
  cmpT s 0 (tileV W.w W.h tw th i) p' q' own l=(cutP W (tileV W.w W.h tw th i),0):=by
 have c0:=stg_ok hp hq h
 rw [<-hW] at c0
 have e0:=near_mask c0.2.1 hf hi
 have p0:=plane_sz c0.2.1
 have hA:=mask_asm p0.2.1 (colsN W.w W.h tw th) tw th i
 obtain ⟨M,hM⟩:∃z,z=maskP W (colsN W.w W.h tw th) tw th i:=⟨_,rfl⟩
 rw [<-hM] at e0 hA
 obtain ⟨r,hr⟩:∃z,z=tileV W.w W.h tw th i:=⟨_,rfl⟩
 have g0:=asm_step (tw:=tw) (th:=th) (i:=i) (own:=M) hp hq h hk (by rw [<-hW];exact hf) (by rw [<-hW];exact hA) (by rw [<-hW];exact hi)
 rw [<-hW] at g0
 have b0:=tile_rIn hf hi
 have h0:∀x y,0<=x/\x<W.w->0<=y/\y<W.h->(inR2 (tileV W.w W.h tw th i) x y↔tixV (colsN W.w W.h tw th) tw th x y=i):=fun x y=>tix_in hf hi
 rw [<-hr] at e0 hg hgq ho g0 b0 h0⊢
 have d0:=hA.ok c0.2.1
 have ew:M.w=W.w:=congrArg Shape.w hA.shp
 have eh:M.h=W.h:=congrArg Shape.h hA.shp
 have hC:cmpC s 0 p q M=0:=(by unfold cmpC;rw [if_pos,h];refine ⟨.inr ⟨hk,rfl⟩,hp,hq,fun h5=>⟨d0,?_⟩⟩;have hv:=of_k h;have k0:(kernelV s (shpOf p) (shpOf q)).1.w=p.w/\(kernelV s (shpOf p) (shpOf q)).1.h=p.h:=(by unfold kernelV;rw [if_neg om,if_neg om,if_neg om,if_neg hk,if_pos h5];split<;>exact ⟨rfl,rfl⟩);rw [<-hv.1] at k0;have e3:=congrArg Shape.w c0.2.2;have e4:=congrArg Shape.h c0.2.2;have f3:W.w=p.w:=e3.trans k0.1;have f4:W.h=p.h:=e4.trans k0.2;omega)
 have i0:s.kind=5->planeOK own=planeOK M/\own.w=M.w/\own.h=M.h/\leftV own r=leftV M r/\topV own r=topV M r/\atV own (r.x0-1) (r.y0-1)=atV M (r.x0-1) (r.y0-1):=fun h5=>by
  obtain ⟨a,b,c⟩:=ho h5
  have e1:=congrArg Shape.w b
  refine ⟨by rw [a,d0],e1.trans ew.symm,(congrArg Shape.h b).trans eh.symm,c.1.trans e0.1.symm,c.2.1.trans e0.2.1.symm,c.2.2.trans e0.2.2.symm⟩
 rw [<-cmp_agr (q:=q) (own:=M) hp hp' hs (fun e=>⟨hq e,hq' e⟩) h hg hgq i0 (fun h4=>absurd h4 hk),cmp_0 hC (by decide) (by decide),if_pos g0.1]
 have a0:=g0.2.1
 have n0:(((tilT s p q M r).1.pix.length:Nat):Int)=(r.x1-r.x0)*(r.y1-r.y0):=by
  unfold putC at a0
  split at a0
  ·split at a0
   ·rename_i a;exact a.2
   ·omega
  ·omega
 have l0:=arN_eq b0
 have f0:=b0;unfold rIn at f0
 congr 1
 refine getD_ext (by unfold cutP;rw [grid_len];omega) fun k q0=>?_
 have hx:=tile_ix (nx:=r.x1-r.x0) (ny:=r.y1-r.y0) (i:=(k:Int)) om om om
 obtain ⟨a,ha⟩:∃z,z=(k:Int)%(r.x1-r.x0):=⟨_,rfl⟩
 obtain ⟨b,hb⟩:∃z,z=(k:Int)/(r.x1-r.x0):=⟨_,rfl⟩
 rw [<-ha,<-hb] at hx
 have m0:inR2 r (r.x0+a) (r.y0+b):=by unfold inR2;omega
 have j0:=g0.2.2.pix (r.x0+a) (r.y0+b) om om
 rw [if_pos (by have:=(h0 (r.x0+a) (r.y0+b) om om).1 m0;omega)] at j0
 have o0:(putT M 0 r (tilT s p q M r).1.pix).1=⟨M.w,M.h,M.max_,putL M r (tilT s p q M r).1.pix⟩:=by unfold putT;rw [okT_0 a0]
 rw [o0,put_at hA.len om om,if_pos m0,show r.y0+b-r.y0=b by omega,show r.x0+a-r.x0=a by omega,show (b*(r.x1-r.x0)+a).toNat=k by omega] at j0
 rw [j0]
 unfold cutP
 rw [List.getD_eq_getElem?_getD,grid_at om,<-ha,<-hb]
 rfl
end
theorem ceil_cov {a b x:Int} (ha:1<=a/\a<=128) (hb:1<=b) (hx:0<=x/\x<a):0<=x/b/\x/b<ceilV a b:=by
  refine ⟨Int.ediv_nonneg hx.1 (by omega),?_⟩
  have h0:=ceil_bd ha hb
  by_cases h:x/b<ceilV a b
  · exact h
  · exact (by exfalso;have h1:ceilV a b*b<=x/b*b:=Int.mul_le_mul_of_nonneg_right (by omega) (by omega);have h2:x/b*b<=x:=Int.ediv_mul_le x (by omega);have h3:a<=ceilV a b*b:=ceil_ge (by omega) hb;omega)
theorem tix_rng {w h tw th x y:Int} (hf:fineP w h tw th) (hx:0<=x/\x<w) (hy:0<=y/\y<h):
  0<=tixV (colsN w h tw th) tw th x y/\tixV (colsN w h tw th) tw th x y<colsN w h tw th*rowsN w h tw th/\tixV (colsN w h tw th) tw th x y%colsN w h tw th=x/tw/\tixV (colsN w h tw th) tw th x y/colsN w h tw th=y/th:=by
 have hb:=cols_bd hf
 have a0:=hf
 unfold fineP at a0
 have h1:=ceil_cov a0.1 a0.2.2.1.1 hx
 have h2:=ceil_cov a0.2.1 a0.2.2.2.1 hy
 have e1:colsN w h tw th=ceilV w tw:=by unfold colsN;rw [if_pos hf]
 have e2:rowsN w h tw th=ceilV h th:=by unfold rowsN;rw [if_pos hf]
 obtain ⟨nx,c0⟩:∃z,z=colsN w h tw th:=⟨_,rfl⟩
 obtain ⟨ny,d0⟩:∃z,z=rowsN w h tw th:=⟨_,rfl⟩
 rw [<-e1] at h1;rw [<-e2] at h2
 rw [<-c0] at h1 hb⊢;rw [<-d0] at h2 hb⊢
 obtain ⟨a,ha⟩:∃z,z=x/tw:=⟨_,rfl⟩
 obtain ⟨b,b0⟩:∃z,z=y/th:=⟨_,rfl⟩
 unfold tixV
 rw [<-ha] at h1⊢;rw [<-b0] at h2⊢
 have h3:b*nx<=(ny-1)*nx:=Int.mul_le_mul_of_nonneg_right om om
 have h4:0<=b*nx:=Int.mul_nonneg om om
 rw [Int.sub_mul,Int.one_mul,Int.mul_comm ny nx] at h3
 refine ⟨om,om,?_,?_⟩
 ·rw [Int.add_comm,Int.add_mul_emod_self_right];exact Int.emod_eq_of_lt h1.1 h1.2
 ·rw [Int.add_comm,Int.add_mul_ediv_right _ _ om,Int.ediv_eq_zero_of_lt h1.1 h1.2];omega
theorem okT_inj {e:Int} {A B:PlaneV} (h:okT e A=(B,0)):A=B:=by
  unfold okT at h
  by_cases he:e=0
  · rw [if_pos he] at h;exact congrArg Prod.fst h
  · rw [if_neg he] at h;exact absurd (congrArg Prod.snd h) he
def copyP (c:StageV) (m:Int):Prop:=c.kind=6/\c.a=0/\c.b=-1/\c.ops=[⟨0,0⟩]/\c.max_=m
theorem copy_res {c:StageV} {p q:PlaneV} (hc:copyP c p.max_) (hp:planeOK p=true) (h:(ofV c (shpOf p) (shpOf q)).2=0):(stgT c p q).1=p:=by
 obtain ⟨h6,_,hb,a0,hm⟩:=hc
 have h2:¬twoP c:=fun h2=>by unfold twoP at h2;omega
 have g0:=stg_ok hp (fun e=>absurd e h2) h
 have hv:=of_k h
 have d0:(ofV c (shpOf p) (shpOf q)).1=shpOf p:=by
  rw [hv.1]
  have hk:=hv.2
  unfold kernelV at hk⊢
  rw [if_neg om,if_neg om,if_neg om,if_neg om,if_neg om] at hk⊢
  by_cases h3:pwCode c.ops (decide (c.kind=6/\¬c.b=-1)) (shpOf p).max_ (shpOf q).max_ c.max_=0
  ·rw [if_pos h3,if_neg (fun h4=>by omega),hm];rfl
  ·rw [if_neg h3] at hk;exact absurd hk h3
 have hs:=plane_sz hp
 have c0:=hs.1;unfold sizeP at c0
 have hr:rIn ⟨0,0,p.w,p.h⟩ p.w p.h:=by unfold rIn;dsimp only;omega
 have e0:(stgT c p q).1=mkPl ⟨0,0,p.w,p.h⟩ c.max_ (pwX p q false c.ops c.max_):=(by obtain ⟨X,_,h4,h5⟩:=ker_all hp (fun e=>absurd e h2) h ⟨om,om⟩;rw [d0] at h4 h5;have h6:=h5 ⟨0,0,p.w,p.h⟩ hr;rw [h4];unfold kerT at h6;rw [if_neg om,if_neg om,if_neg om,decide_eq_false h2] at h6;unfold pwT at h6;exact (okT_inj h6).symm)
 rw [e0]
 exact plane_ext (by unfold shpOf mkPl;dsimp only;rw [hm];congr 1<;>omega) (by rw [mk_len];have:=arN_eq hr;dsimp only [mkPl] at this⊢;omega) hs.2.1 (by unfold mkPl;dsimp only;omega) (fun x y hx hy=>(by unfold mkPl at hx hy;dsimp only at hx hy;rw [mk_at ⟨om,om⟩ om om];have f0:=pixAt_bd hp x y;unfold pwX runV;rw [a0,if_neg (by decide)];have b0:rnGo (pixAt p x y) 0 [⟨0,0⟩] []=some [pixAt p x y]:=(by unfold rnGo;rw [if_pos (by unfold appOK appV accP;dsimp only;rw [if_pos rfl];exact ⟨fun e=>by omega,om⟩)];unfold rnGo appV;dsimp only;rw [if_pos rfl];rfl);rw [b0];show clampV (pixAt p x y) c.max_=pixAt p x y;unfold clampV;rw [hm,if_neg om,if_neg om]))
theorem ok_fineA {p:PlaneV} (hp:planeOK p=true) {tw th:Int} (ht:tileP tw th):fineP p.w p.h tw th:=by
  have h:=(plane_sz hp).1
  unfold sizeP at h;unfold tileP at ht;unfold fineP
  omega
theorem tile_getA {L:Lay} {n:Int} {j:Nat} (h:(j:Int)<L.nx n*L.ny n):(L.tasks n)[j]?=some (L.tileT n j):=by
  unfold Lay.tasks
  rw [List.getElem?_append_left (by rw [List.length_map,upto_len];omega),List.getElem?_map]
  unfold uptoV
  rw [List.getElem?_map,List.getElem?_range (by omega)];rfl
section
variable {j:JobV} {p:PlaneV} {c s:StageV} {tw th:Int} (hj:j.inputs=[p]) (hs:j.stages=[c,s]) (hz:(shpV j).2.2=0) (hc:copyP c p.max_) (hsa:s.a=1) (hsb:s.b=-1)
include hj hs hz hc hsa hsb
theorem two_od:(ordV j).1=[1,2]:=by
 have ho:=shp_ok hz
 have hl:=ho.ln
 rw [hs] at hl
 obtain ⟨x,y,e⟩:∃x y,(ordV j).1=[x,y]:=by
  generalize (ordV j).1=l at hl
  match l,hl with
  |[x,y],_=>exact ⟨x,y,rfl⟩
 have hx:=ho.rng x (by rw [e];simp)
 have hy:=ho.rng y (by rw [e];simp)
 have a0:=ho.nd
 rw [e] at a0
 have b0:x≠y:=by simpa using a0
 rw [hj,hs] at hx hy
 simp only [List.length_cons,List.length_nil] at hx hy
 have hb:=ho.bef [] x [y] (by rw [e];rfl)
 have h1:x=1:=by
  by_cases h1:x=1
  ·exact h1
  · exact (by exfalso;have h2:x=2:=(by omega);subst h2;have e2:stgAt j.stages (j.inputs.length:Nat) 2=s:=(by rw [hs,hj];rfl);have h3:=hb s.a (by rw [e2];exact srcs_a s);rw [hsa,hj] at h3;simp at h3)
 subst h1
 rw [e,show y=2 by omega]
theorem two_st:stgAt j.stages (j.inputs.length:Nat) 1=c/\stgAt j.stages (j.inputs.length:Nat) 2=s:=by rw [hs,hj];exact ⟨rfl,rfl⟩
theorem two_pl:plAt (meanV j) 0=p/\plAt (meanV j) 1=p:=by
  have ho:=two_od hj hs hz hc hsa hsb
  have d0:=two_st hj hs hz hc hsa hsb
  have h0:plAt (meanV j) 0=p:=(by have e:meanV j=meanG j.inputs.length j.stages (ordV j).1 (meanI j):=if_pos hz;rw [e,meanG_keep (by omega) _ _ (fun n hn=>by rw [ho] at hn;simp only [List.mem_cons,List.not_mem_nil,or_false] at hn;omega)];unfold meanI plAt;rw [hj];rfl)
  exact ⟨h0,(by have hn:=node_ok hz (n:=1) (by rw [ho];simp);have a0:=hn.eq;have c0:=hn.pa;have b0:=hn.of;rw [d0.1,hc.2.1,h0] at a0 c0 b0;rw [a0];exact copy_res hc c0 b0)⟩
theorem two_node:planeOK p=true/\(ofV s (shpOf p) (shpOf (plAt (meanV j) (-1)))).2=0/\plAt (meanV j) 2=(stgT s p (plAt (meanV j) (-1))).1/\shpAt (shpV j).1 1=shpOf p/\shpAt (shpV j).1 2=shpOf (plAt (meanV j) 2)/\planeOK (plAt (meanV j) 2)=true:=by
  have ho:=two_od hj hs hz hc hsa hsb
  have a0:=two_st hj hs hz hc hsa hsb
  have hp:=two_pl hj hs hz hc hsa hsb
  have h1:=node_ok hz (n:=1) (by rw [ho];simp)
  have h2:=node_ok hz (n:=2) (by rw [ho];simp)
  have a:=h2.pa;have b:=h2.of;have d:=h2.eq;have e:=h1.sn;have f:=h2.sn
  rw [a0.2,hsa,hp.2] at a
  rw [a0.2,hsa,hsb,hp.2] at b d
  rw [hp.2] at e
  exact ⟨a,b,d,e,f,h2.ok⟩
variable (htp:tileP tw th)
include htp
theorem two_lay:(layV j tw th).st 1=c/\(layV j tw th).st 2=s/\(layV j tw th).cut 1=shpOf p/\(layV j tw th).cut 2=(if s.kind=4 then shpOf p else shpOf (plAt (meanV j) 2))/\(layV j tw th).first 1=0/\(layV j tw th).od=[1,2]/\(layV j tw th).ni=1:=by
 have ho:=two_od hj hs hz hc hsa hsb
 have a0:=two_st hj hs hz hc hsa hsb
 have hn:=two_node hj hs hz hc hsa hsb
 have e1:(layV j tw th).st 1=c:=a0.1
 have e2:(layV j tw th).st 2=s:=a0.2
 refine ⟨e1,e2,?_,?_,?_,ho,by show (j.inputs.length:Int)=1;rw [hj];rfl⟩
 ·unfold Lay.cut;rw [e1,if_neg (by have:=hc.1;omega)];exact hn.2.2.2.1
 ·unfold Lay.cut;rw [e2]
  by_cases h4:s.kind=4
  ·rw [if_pos h4,if_pos h4,hsa];exact hn.2.2.2.1
  ·rw [if_neg h4,if_neg h4];exact hn.2.2.2.2.1
 ·unfold Lay.first;rw [show (layV j tw th).od=[1,2] from ho];unfold firstG;rw [if_pos rfl]
theorem two_task {i:Nat} {t:TaskV} (h:(layV j tw th).all[i]?=some t) (h2:t.stage=2) (h3:¬t.part=2):∃k:Int,0<=k/\k<(layV j tw th).nx 2*(layV j tw th).ny 2/\t=(layV j tw th).tileT 2 k:=by
  have g:=lay_ok (shp_ok hz) htp
  obtain ⟨hm,m,a0,_⟩:=all_st g h
  rw [h2] at hm a0
  rcases tasks_at g hm a0 with ⟨a,rfl⟩|⟨_,_,rfl⟩
  · exact ⟨m,by omega,a,rfl⟩
  · exact absurd rfl h3
theorem two_dep {k x y:Int} (hk:0<=k/\k<(layV j tw th).nx 2*(layV j tw th).ny 2) (hx:x∈colsV s p.w ((layV j tw th).tile 2 k).x0 ((layV j tw th).tile 2 k).x1) (hy:y∈rowsV s p.h ((layV j tw th).tile 2 k).y0 ((layV j tw th).tile 2 k).y1):
  ∃d∈((layV j tw th).tileT 2 k).deps,∃u,0<=d/\(layV j tw th).all[d.toNat]?=some u/\u.stage=1/\inR2 ⟨u.rectX0,u.rectY0,u.rectX1,u.rectY1⟩ x y:=by
 have hl:=two_lay hj hs hz hc hsa hsb htp
 have hn:=two_node hj hs hz hc hsa hsb
 have g:=lay_ok (shp_ok hz) htp
 have b0:=need_mem hx
 have c0:=need_mem hy
 have hf:=(ok_fineA hn.1 htp)
 have ht:=tix_rng hf b0 c0
 obtain ⟨q,hq⟩:∃z,z=tixV (colsN p.w p.h tw th) tw th x y:=⟨_,rfl⟩
 rw [<-hq] at ht
 have en:(layV j tw th).nx 1*(layV j tw th).ny 1=colsN p.w p.h tw th*rowsN p.w p.h tw th:=by unfold Lay.nx Lay.ny;rw [hl.2.2.1];rfl
 have et:(layV j tw th).tile 1 q=tileV p.w p.h tw th q:=by unfold Lay.tile;rw [hl.2.2.1];rfl
 have e0:inR2 ((layV j tw th).tile 1 q) x y:=by rw [et];exact (tix_in hf ⟨ht.1,ht.2.1⟩ b0 c0).2 hq.symm
 have a0:(layV j tw th).cnt 1=(layV j tw th).nx 1*(layV j tw th).ny 1:=by unfold Lay.cnt;rw [hl.1,if_neg (by have:=hc.1;omega)]
 have h2:¬twoP s:=fun h2=>by unfold twoP at h2;omega
 refine ⟨q,?_,(layV j tw th).tileT 1 q,ht.1,?_,rfl,e0⟩
 ·show q∈canonV _
  rw [mem_canon]
  refine List.mem_append_left _ ?_
  unfold Lay.needs
  rw [hl.2.1]
  have es:srcs s=[1]:=by unfold srcs;rw [if_neg h2,hsa]
  rw [es]
  simp only [List.flatMap_cons,List.flatMap_nil,List.append_nil]
  unfold Lay.srcDeps
  rw [if_neg (by rw [hl.2.2.2.2.2.2];omega),hl.2.2.2.2.1,hl.1,if_neg (show ¬c.kind=4 by have:=hc.1;omega),show shpAt (layV j tw th).sh 1=shpOf p from hn.2.2.2.1]
  by_cases hb:s.barrier=true
  · exact (by rw [if_pos hb];exact List.mem_map.2 ⟨q,mem_upto.2 ⟨ht.1,by rw [a0,en];omega⟩,om⟩)
  · exact (by rw [if_neg hb];exact List.mem_map.2 ⟨q,(by unfold tilesV;rw [List.mem_filter];exact ⟨mem_upto.2 ⟨ht.1,(by have h0:=ht.2.1;unfold tilN;show q<((colsN p.w p.h tw th*rowsN p.w p.h tw th).toNat:Int);omega)⟩,(by have d0:=hf;unfold fineP at d0;show (someV _ (q%colsN p.w p.h tw th*tw) ((q%colsN p.w p.h tw th+1)*tw)&&someV _ (q/colsN p.w p.h tw th*th) ((q/colsN p.w p.h tw th+1)*th))=true;rw [ht.2.2.1,ht.2.2.2,Bool.and_eq_true];unfold someV;rw [List.any_eq_true,List.any_eq_true];have m1:=Int.mul_ediv_add_emod x tw;have m2:=Int.emod_nonneg x (by omega:tw≠0);have m3:=Int.emod_lt_of_pos x (by omega:0<tw);have m4:=Int.mul_ediv_add_emod y th;have m5:=Int.emod_nonneg y (by omega:th≠0);have m6:=Int.emod_lt_of_pos y (by omega:0<th);rw [Int.mul_comm] at m1 m4;exact ⟨⟨x,hx,decide_eq_true (by rw [Int.add_mul,Int.one_mul];omega)⟩,⟨y,hy,decide_eq_true (by rw [Int.add_mul,Int.one_mul];omega)⟩⟩)⟩),om⟩)
 · exact (by have h5:=at_all g (n:=1) (j:=q.toNat) (by rw [hl.2.2.2.2.2.1];simp) (tile_getA (by rw [en];omega));rw [hl.2.2.2.2.1] at h5;rw [show (q.toNat:Int)=q by omega] at h5;rw [show (0+q).toNat=q.toNat by omega] at h5;exact h5)
theorem two_same {k:Int} (hk:0<=k/\k<(layV j tw th).nx 2*(layV j tw th).ny 2) {p' q':PlaneV} {l:List (List Int)} (hp':planeOK p'=true) (hsh:shpOf p'=shpOf p)
  (h:∀x y,0<=x/\x<p.w->0<=y/\y<p.h->(∃d∈((layV j tw th).tileT 2 k).deps,∃u,0<=d/\(layV j tw th).all[d.toNat]?=some u/\u.stage=1/\inR2 ⟨u.rectX0,u.rectY0,u.rectX1,u.rectY1⟩ x y)->pixAt p x y=pixAt p' x y):
  cmpT s ((layV j tw th).part 2) ((layV j tw th).tile 2 k) p' q' (plAt (meanV j) 2) l=(if s.kind=4 then partV p s.bins ((layV j tw th).tile 2 k) else cutP (plAt (meanV j) 2) ((layV j tw th).tile 2 k),0):=by
 have hl:=two_lay hj hs hz hc hsa hsb htp
 have hn:=two_node hj hs hz hc hsa hsb
 have h2:¬twoP s:=fun h2=>by unfold twoP at h2;omega
 have hg:AgrP s p p' ((layV j tw th).tile 2 k):=fun x hx y hy=>h x y (need_mem hx) (need_mem hy) (two_dep hj hs hz hc hsa hsb htp hk hx hy)
 have a0:(layV j tw th).part 2=if s.kind=4 then 1 else 0:=by unfold Lay.part;rw [hl.2.1]
 rw [a0]
 by_cases h4:s.kind=4
 · exact (by have ec:(layV j tw th).cut 2=shpOf p:=(by rw [hl.2.2.2.1,if_pos h4]);have et:(layV j tw th).tile 2 k=tileV p.w p.h tw th k:=(by unfold Lay.tile;rw [ec];rfl);have en:(layV j tw th).nx 2*(layV j tw th).ny 2=colsN p.w p.h tw th*rowsN p.w p.h tw th:=(by unfold Lay.nx Lay.ny;rw [ec];rfl);rw [if_pos h4,if_pos h4];rw [et] at hg⊢;rw [en] at hk;exact hist_right (q:=plAt (meanV j) (-1)) hn.1 (fun e=>absurd e h2) hn.2.1 hp' hsh (fun e=>absurd e h2) h4 (ok_fineA hn.1 htp) hk hg)
 · exact (by have ec:(layV j tw th).cut 2=shpOf (plAt (meanV j) 2):=(by rw [hl.2.2.2.1,if_neg h4]);have et:(layV j tw th).tile 2 k=tileV (plAt (meanV j) 2).w (plAt (meanV j) 2).h tw th k:=(by unfold Lay.tile;rw [ec];rfl);have en:(layV j tw th).nx 2*(layV j tw th).ny 2=colsN (plAt (meanV j) 2).w (plAt (meanV j) 2).h tw th*rowsN (plAt (meanV j) 2).w (plAt (meanV j) 2).h tw th:=(by unfold Lay.nx Lay.ny;rw [ec];rfl);rw [if_neg h4,if_neg h4];rw [et] at hg⊢;rw [en] at hk;exact til_right (q:=plAt (meanV j) (-1)) hn.1 (fun e=>absurd e h2) hn.2.1 hp' hsh (fun e=>absurd e h2) hn.2.2.1 h4 (ok_fineA hn.2.2.2.2.2 htp) hk hg (fun e=>absurd e h2) (fun _=>⟨hn.2.2.2.2.2,rfl,rfl,rfl,rfl⟩))
end
theorem all_lenA {L:Lay} (g:LayG L):(L.all.length:Int)=L.total:=by
  unfold Lay.all Lay.total;exact tasks_sum g L.od (fun y hy=>hy)
def insB (ts:List TaskV) (x y d:Int):Bool:=match ts[d.toNat]? with
  |some u=>decide (u.stage=1/\rvP ⟨u.rectX0,u.rectY0,u.rectX1,u.rectY1⟩/\inR2 ⟨u.rectX0,u.rectY0,u.rectX1,u.rectY1⟩ x y)
  |none=>false
def insL (ts:List TaskV) (ds:List Int) (x y:Int):Bool:=ds.any (insB ts x y)
theorem insB_at {ts:List TaskV} {x y d:Int} {u:TaskV} (h:ts[d.toNat]?=some u):insB ts x y d=decide (u.stage=1/\rvP ⟨u.rectX0,u.rectY0,u.rectX1,u.rectY1⟩/\inR2 ⟨u.rectX0,u.rectY0,u.rectX1,u.rectY1⟩ x y):=by
  unfold insB;rw [h]
theorem insL_step {ts:List TaskV} {ds:List Int} {x y d:Int} {i:Nat} (h:ds[i]?=some d):insL ts (ds.take (i+1)) x y=(insL ts (ds.take i) x y||insB ts x y d):=by
  unfold insL;rw [take_succ_at h,List.any_append];simp
structure KpN (ts:List TaskV) (ds:List Int) (w mx:Int) (pl:List Int) (n:Nat) (zs:List Int):Prop where
  len:zs.length=pl.length
  bd:∀z∈zs,0<=z/\z<=mx
  at_:∀m:Nat,(insL ts ds ((m:Int)%w) ((m:Int)/w)=true\/n<=m)->zs[m]?=pl[m]?
theorem KpN.start {ts:List TaskV} {ds:List Int} {p:PlaneV} (hp:planeOK p=true):KpN ts ds p.w p.max_ p.pix 0 p.pix:=⟨rfl,(plane_sz hp).2.2,fun _ _=>rfl⟩
theorem KpN.keep {ts:List TaskV} {ds:List Int} {w mx:Int} {pl zs:List Int} {n:Nat} (h:KpN ts ds w mx pl n zs) (hi:insL ts ds ((n:Int)%w) ((n:Int)/w)=true):KpN ts ds w mx pl (n+1) zs:=
  ⟨h.len,h.bd,fun m hm=>by
    rcases hm with hm|hm
    · exact h.at_ m (.inl hm)
    · exact h.at_ m (.inr (by omega))⟩
theorem KpN.put {ts:List TaskV} {ds:List Int} {w mx v:Int} {pl zs:List Int} {n:Nat} (h:KpN ts ds w mx pl n zs) (hi:insL ts ds ((n:Int)%w) ((n:Int)/w)=false) (hv:0<=v/\v<=mx):KpN ts ds w mx pl (n+1) (zs.set n v):=by
  refine ⟨by rw [List.length_set];exact h.len,fun z hz=>?_,fun m hm=>?_⟩
  · rcases List.mem_or_eq_of_mem_set hz with hz|rfl
    · exact h.bd z hz
    · exact hv
  · have a0:n≠m:=fun e=>by
      subst e
      rcases hm with hm|hm
      · rw [hi] at hm;cases hm
      · omega
    rw [List.getElem?_set_ne a0]
    rcases hm with hm|hm
    · exact h.at_ m (.inl hm)
    · exact h.at_ m (.inr (by omega))
theorem KpN.plane {ts:List TaskV} {ds:List Int} {p:PlaneV} {n:Nat} {zs:List Int} (hp:planeOK p=true) (h:KpN ts ds p.w p.max_ p.pix n zs):planeOK ⟨p.w,p.h,p.max_,zs⟩=true:=by
  have hs:=plane_sz hp
  exact plane_mk hs.1 (by dsimp only;rw [h.len];exact hs.2.1) h.bd
theorem KpN.pix {ts:List TaskV} {ds:List Int} {p:PlaneV} {n:Nat} {zs:List Int} (hp:planeOK p=true) (h:KpN ts ds p.w p.max_ p.pix n zs) {x y:Int} (hx:0<=x/\x<p.w) (hy:0<=y/\y<p.h) (hi:insL ts ds x y=true):pixAt p x y=pixAt ⟨p.w,p.h,p.max_,zs⟩ x y:=by
 have h0:0<=y*p.w:=Int.mul_nonneg hy.1 om
 have e1:(((y*p.w+x).toNat:Nat):Int)%p.w=x:=by rw [Int.toNat_of_nonneg om,Int.add_comm,Int.add_mul_emod_self_right];exact Int.emod_eq_of_lt hx.1 hx.2
 have e2:(((y*p.w+x).toNat:Nat):Int)/p.w=y:=by rw [Int.toNat_of_nonneg om,Int.add_comm,Int.add_mul_ediv_right _ _ om,Int.ediv_eq_zero_of_lt hx.1 hx.2];omega
 have h2:=h.at_ (y*p.w+x).toNat (.inl (by rw [e1,e2];exact hi))
 unfold pixAt
 dsimp only
 rw [List.getD_eq_getElem?_getD,List.getD_eq_getElem?_getD,h2]
section
variable {j:JobV} {p:PlaneV} {c s:StageV} {tw th:Int} (hj:j.inputs=[p]) (hs:j.stages=[c,s]) (hz:(shpV j).2.2=0) (hc:copyP c p.max_) (hsa:s.a=1) (hsb:s.b=-1) (htp:tileP tw th)
include hj hs hz hc hsa hsb htp
theorem two_ins {k x y:Int} (h:∃d∈((layV j tw th).tileT 2 k).deps,∃u,0<=d/\(layV j tw th).all[d.toNat]?=some u/\u.stage=1/\inR2 ⟨u.rectX0,u.rectY0,u.rectX1,u.rectY1⟩ x y):insL (layV j tw th).all ((layV j tw th).tileT 2 k).deps x y=true:=by
 obtain ⟨d,hd,u,_,hu,h1,hi⟩:=h
 have hl:=two_lay hj hs hz hc hsa hsb htp
 have hn:=two_node hj hs hz hc hsa hsb
 have g:=lay_ok (shp_ok hz) htp
 unfold insL
 rw [List.any_eq_true]
 refine ⟨d,hd,?_⟩
 unfold insB
 rw [hu]
 obtain ⟨hm,m,a0,_⟩:=all_st g hu
 rw [h1] at hm a0
 have hf:=ok_fineA hn.1 htp
 rcases tasks_at g hm a0 with ⟨a,rfl⟩|⟨h4,_,_⟩
 · exact (by have en:(layV j tw th).nx 1*(layV j tw th).ny 1=colsN p.w p.h tw th*rowsN p.w p.h tw th:=(by unfold Lay.nx Lay.ny;rw [hl.2.2.1];rfl);have et:(layV j tw th).tile 1 m=tileV p.w p.h tw th m:=(by unfold Lay.tile;rw [hl.2.2.1];rfl);have hr:=tile_rIn hf (i:=m) ⟨om,by rw [<-en];exact a⟩;have b0:=(plane_sz hn.1).1;unfold sizeP at b0;rw [<-et] at hr;unfold rIn at hr;exact decide_eq_true ⟨rfl,by unfold rvP cooP;show _;dsimp only [Lay.tileT,Lay.task];omega,hi⟩)
 ·exfalso;rw [hl.1] at h4;have:=hc.1;omega
theorem two_final {i:Nat} {t:TaskV} (h:(layV j tw th).all[i]?=some t) (h2:t.stage=2) (h3:¬t.part=2) {n:Nat} {zs:List Int} (hK:KpN (layV j tw th).all t.deps p.w p.max_ p.pix n zs) {q q':PlaneV} {l:List (List Int)}:
  (cmpT s t.part ⟨t.rectX0,t.rectY0,t.rectX1,t.rectY1⟩ p q (plAt (meanV j) 2) l).2=0/\cmpT s t.part ⟨t.rectX0,t.rectY0,t.rectX1,t.rectY1⟩ ⟨p.w,p.h,p.max_,zs⟩ q' (plAt (meanV j) 2) l=cmpT s t.part ⟨t.rectX0,t.rectY0,t.rectX1,t.rectY1⟩ p q (plAt (meanV j) 2) l:=by
 obtain ⟨k,a0,b0,rfl⟩:=two_task hj hs hz hc hsa hsb htp h h2 h3
 have hn:=two_node hj hs hz hc hsa hsb
 have a:=two_same hj hs hz hc hsa hsb htp ⟨a0,b0⟩ (q':=q) (l:=l) hn.1 rfl (fun x y _ _ _=>rfl)
 exact ⟨(congrArg Prod.snd a:_),(two_same hj hs hz hc hsa hsb htp ⟨a0,b0⟩ (q':=q') (l:=l) (hK.plane hn.1) rfl (fun x y hx hy hd=>hK.pix hn.1 hx hy (two_ins hj hs hz hc hsa hsb htp hd))).trans a.symm⟩
end
section
variable {j:JobV} {p:PlaneV} {c s:StageV} {tw th:Int} (hj:j.inputs=[p]) (hs:j.stages=[c,s]) (hc:copyP c p.max_) (hsa:s.a=1) (hsb:s.b=-1) (htp:tileP tw th)
include hj hs hc hsa hsb htp
theorem two_tot (hz:(shpV j).2.2=0) (hp:p.w*p.h<=100) (hx:s.x.length<=10/\s.y.length<=10):2<=(layV j tw th).total/\(layV j tw th).total<=1000:=by
 have hl:=two_lay hj hs hz hc hsa hsb htp
 have hn:=two_node hj hs hz hc hsa hsb
 have g:=lay_ok (shp_ok hz) htp
 have g1:=(g.grid (x:=1) (by rw [hl.2.2.2.2.2.1];simp)).2.2.1
 have g2:=(g.grid (x:=2) (by rw [hl.2.2.2.2.2.1];simp)).2.2.1
 have a0:∀{w h:Int},fineP w h tw th->colsN w h tw th*rowsN w h tw th<=w*h:=fun {w h} hf=>by
  have hc:=cols_bd hf
  unfold colsN rowsN at hc⊢
  rw [if_pos hf,if_pos hf] at hc⊢
  have b0:=hf;unfold fineP at b0
  exact Int.mul_le_mul (ceil_le b0.1.1 b0.2.2.1.1) (ceil_le b0.2.1.1 b0.2.2.2.1) om om
 have d0:=ok_fineA hn.1 htp
 have e0:=ok_fineA hn.2.2.2.2.2 htp
 have e1:(layV j tw th).nx 1*(layV j tw th).ny 1<=100:=(by have:(layV j tw th).nx 1*(layV j tw th).ny 1=colsN p.w p.h tw th*rowsN p.w p.h tw th:=(by unfold Lay.nx Lay.ny;rw [hl.2.2.1];rfl);have:=a0 d0;omega)
 have e2:(layV j tw th).nx 2*(layV j tw th).ny 2<=100:=by
  by_cases h4:s.kind=4
  · exact (by have:(layV j tw th).nx 2*(layV j tw th).ny 2=colsN p.w p.h tw th*rowsN p.w p.h tw th:=(by unfold Lay.nx Lay.ny;rw [hl.2.2.2.1,if_pos h4];rfl);have:=a0 d0;omega)
  ·have e:(layV j tw th).nx 2*(layV j tw th).ny 2=colsN (plAt (meanV j) 2).w (plAt (meanV j) 2).h tw th*rowsN (plAt (meanV j) 2).w (plAt (meanV j) 2).h tw th:=by unfold Lay.nx Lay.ny;rw [hl.2.2.2.1,if_neg h4];rfl
   have hb:=a0 e0
   have c0:=(stg_ok hn.1 (fun e=>by unfold twoP at e;omega) hn.2.1).2.2
   rw [<-hn.2.2.1,(of_k hn.2.1).1] at c0
   have hk:=(of_k hn.2.1).2
   have ew:(plAt (meanV j) 2).w=(kernelV s (shpOf p) (shpOf (plAt (meanV j) (-1)))).1.w:=congrArg Shape.w c0
   have eh:(plAt (meanV j) 2).h=(kernelV s (shpOf p) (shpOf (plAt (meanV j) (-1)))).1.h:=congrArg Shape.h c0
   by_cases h3:s.kind=3
   · exact (by unfold kernelV at ew eh;rw [if_neg om,if_neg om,if_pos h3] at ew eh;have f1:(plAt (meanV j) 2).w=(s.x.length:Int):=ew;have f2:(plAt (meanV j) 2).h=(s.y.length:Int):=eh;have:=Int.mul_le_mul (show (plAt (meanV j) 2).w<=10 by omega) (show (plAt (meanV j) 2).h<=10 by omega) om om;omega)
   ·have f:(kernelV s (shpOf p) (shpOf (plAt (meanV j) (-1)))).1.w=p.w/\(kernelV s (shpOf p) (shpOf (plAt (meanV j) (-1)))).1.h=p.h:=by
     unfold kernelV
     by_cases h1:s.kind=1
     ·rw [if_pos h1];exact ⟨rfl,rfl⟩
     ·rw [if_neg h1]
      by_cases h5:s.kind=2
      ·rw [if_pos h5];exact ⟨rfl,rfl⟩
      ·rw [if_neg h5,if_neg h3,if_neg h4]
       split
       ·split<;>exact ⟨rfl,rfl⟩
       ·split
        ·split<;>exact ⟨rfl,rfl⟩
        ·exact ⟨rfl,rfl⟩
    rw [ew,eh,f.1,f.2] at hb
    rw [ew,eh,f.1,f.2] at e
    omega
 unfold Lay.total
 rw [hl.2.2.2.2.2.1]
 simp only [List.map_cons,List.map_nil,List.sum_cons,List.sum_nil]
 unfold Lay.cnt
 rw [hl.1,hl.2.1,if_neg (show ¬c.kind=4 by have:=hc.1;omega)]
 split<;>omega
theorem two_low (hp:p.w*p.h<=100) (hx:s.x.length<=10/\s.y.length<=10):lowC j tw th=(shpV j).2.2:=by
  unfold lowC
  by_cases hz:(shpV j).2.2=0
  · exact (by have h:=two_tot hj hs hc hsa hsb htp hz hp hx;rw [if_pos hz,if_pos htp,if_pos (by omega),hz])
  · rw [if_neg hz]
end
theorem r4_copyO (p:Plane) (hp:Plane.Ok [H] p) (hb:p.pix.n<=100000) (hS:Sat W w (H::F)):
  Calls prog 29 #[.agg (encPlane p).toArray] w fun e w'=>∃(az:Option Addr) (nz kz:Nat) (C:Chunk),e= .returned (.agg #[I p.w,I p.h,I p.max_, .slice az nz kz])/\OwnT Go.E.encI 3 1 az nz kz p.pix.l C/\Sat W w' (C::H::F):=by
 have g0:=hp.pix.ll
 exact callsK 8 func29 rfl<|jCO 2 rfl<|sBx hS (encPlane p) fun _ _ f0=>sAlloc f0 zeroValue38 fun _ _ c0=>gOO c0 6 [1] rfl<|sApp (nb:=8) (Sat.nilc c0) (OwnT.nil (enc:=Go.E.encI) (E:=3) (sz:=1) fR) 0 (hp.pix.up 3 rfl) underlying22 (i:=Tryz.t3) kr fR fun a0 b0 _ _ i0 j0=>pu1<|tWk j0 2 rfl 3 (.slice a0 (0+p.pix.n) b0) fun _ d0=>gOO d0 5 [402] rfl<|sTk d0 1 rfl [I p.w,I p.h,I p.max_, .slice a0 (0+p.pix.n) b0] fun _ e0=>jOR 3 rfl<|retN (vs:=[.agg #[I p.w,I p.h,I p.max_, .slice a0 (0+p.pix.n) b0]]) rfl (.cons (.cell _ _ _ _ kr (lvA e0 1 0 [I p.w,I p.h,I p.max_, .slice a0 (0+p.pix.n) b0] (isAgg38 _) (sizeOf38 _) rfl rfl rfl)) .nil)<|⟨a0,(0+p.pix.n),b0,_,rfl,by have h:=i0;rw [List.nil_append] at h;exact h,(e0.drops [1,1])⟩
theorem r2_contains (a:Rct) (x:Int) (y:Int) (hS:Sat W w (H::F)):
  Ro prog 30 #[.agg (encRct a).toArray,I x,I y] (.bool (decide ((rvP a/\inR2 a x y)))) W w (H::F):=by
 exact callsK 33 func30 rfl<|jCO 2 rfl<|sBx hS (encRct a) fun _ _ b0=>gOO b0 6 [400] rfl<|cS (r2_valid a b0.flat) fun _ a0=>pu1<|SD 9 (rvP a) (fun c0=>jOR 27 rfl<|retT [.bool false]<|⟨rB (by rw [Bool.eq_iff_iff];unfold inR2;simp only [decide_eq_true_eq,Bool.false_eq_true,false_iff,true_iff,iff_false,iff_true]<;>first|omega|(simp_all;try omega)),(a0.dropAt 0 rfl)⟩) fun c0=>gOO a0 6 [0] rfl<|SD 15 (x>=a.x0) (fun e0=>jOR 21 rfl<|retT [.bool false]<|⟨rB (by rw [Bool.eq_iff_iff];unfold inR2;simp only [decide_eq_true_eq,Bool.false_eq_true,false_iff,true_iff,iff_false,iff_true]<;>first|omega|(simp_all;try omega)),(a0.dropAt 0 rfl)⟩) fun e0=>gOO a0 6 [0] rfl<|SD 21 (x<a.x1) (fun g0=>jOR 15 rfl<|retT [.bool false]<|⟨rB (by rw [Bool.eq_iff_iff];unfold inR2;simp only [decide_eq_true_eq,Bool.false_eq_true,false_iff,true_iff,iff_false,iff_true]<;>first|omega|(simp_all;try omega)),(a0.dropAt 0 rfl)⟩) fun g0=>gOO a0 6 [0] rfl<|SD 27 (y>=a.y0) (fun i0=>jOR 9 rfl<|retT [.bool false]<|⟨rB (by rw [Bool.eq_iff_iff];unfold inR2;simp only [decide_eq_true_eq,Bool.false_eq_true,false_iff,true_iff,iff_false,iff_true]<;>first|omega|(simp_all;try omega)),(a0.dropAt 0 rfl)⟩) fun i0=>gOR a0 9 [0] rfl<|retT [.bool (decide (y<a.y1))]<|⟨rB (by rw [Bool.eq_iff_iff];unfold inR2;simp only [decide_eq_true_eq,Bool.false_eq_true,false_iff,true_iff,iff_false,iff_true]<;>first|omega|(simp_all;try omega)),(a0.dropAt 0 rfl)⟩
theorem l21_depends (W w:World) (H:Chunk) (F:List Chunk) (t:Option Addr) (nt kt:Nat) (xt:List Int) (ht:RdT Go.E.encI 1 [H] t nt kt xt) (hS:Sat W w (H::F)):
  Calls prog 6 #[.slice t nt kt] w fun e w'=>e= .returned (.bool true)/\Sat W w' (H::F):=by
 have Y1:=ht.le
 refine callsK 191 func6 rfl<|jCO 8 rfl<|cZ (tape_new t nt kt hS) ?_
 rintro _ _ ⟨s1,rfl,u2⟩
 have l7:=ht.le
 refine jOO 6 rfl<|cZ (tg_plane (ht.fl 0) om u2.flat1) ?_
 rintro _ _ ⟨b0,u0,rfl,t1,v0,_,_,v2⟩
 refine sAlloc (Sat.unflat2 v2) zeroValue38 fun x2 _ y2=>sTk y2 0 rfl (encPlane b0) fun _ z2=>jOO 5 rfl<|sBK z2 #[I 0,I 0] 75 fun e0 _ u1=>gOO u1 3 [1] rfl<|sAlloc u1 zeroValue53 fun _ _ a3=>sTk a3 0 rfl (encStage {zStage with kind:=6,b:=-1,ops:=⟨(At e0 0),1,1,[]⟩,max_:=b0.max_}) fun _ v1=>jOC 3 rfl ?_
 have w1:=(plane_sz v0.2.2.1).1;unfold sizeP at w1;simp only [Plane.v] at w1
 refine gCO v1 3 [402] rfl<|cS (r17_of b0 ⟨(t1.pix.fl 4)⟩ v1.flat) fun _ b3=>?_
 have w7:szP (⟨b0.w,b0.h,b0.max_⟩:Shape):=by have h:=(plane_sz v0.2.2.1).1;unfold sizeP at h;simp only [Plane.v] at h;unfold szP;dsimp only;omega
 have c3:=(b3.pick 3 rfl)
 refine cZ (tg_stage (ht.fl 4) om c3.flat1 1 (⟨b0.w,b0.h,b0.max_⟩:Shape) (-1) ‹_› (by unfold numB;omega)) ?_
 rintro _ _ ⟨a0,w0,rfl,d3,e3,f3,g3,_,h3⟩
 refine sAlloc (Sat.unflat2 h3) zeroValue53 fun j3 _ k3=>sTk k3 0 rfl (encStage a0) fun _ x1=>gOO x1 5 [405] rfl<|sBK x1 (encPlane b0).toArray 38 fun j0 _ y1=>gOO y1 2 [1804,1801] rfl<|sBK y1 #[I 6,I 0,I (-1), .bool false,I 0,I 0,I 0,I 0,nS,nS,nS,I 0,I 0,nS,nS,I 0, .slice (At e0 0) 1 1,I b0.max_,I a0.kind,I a0.a,I a0.b, .bool a0.barrier,I a0.edgePolicy,I a0.edgeFill,I a0.kW,I a0.kH, .slice a0.weights.a a0.weights.n a0.weights.k, .slice a0.row.a a0.row.n a0.row.k, .slice a0.col.a a0.col.n a0.col.k,I a0.shift,I a0.shift2, .slice a0.x.a a0.x.n a0.x.k, .slice a0.y.a a0.y.n a0.y.k,I a0.bins, .slice a0.ops.a a0.ops.n a0.ops.k,I a0.max_] 53 fun k0 _ l3=>sBK l3 #[I 2] 3 fun l0 _ m3=>pu1<|sAlloc m3 zeroValue28 fun n3 _ o3=>sTk o3 0 rfl [.slice (At j0 0) 1 1, .slice (At k0 0) 2 2, .slice (At l0 0) 1 1,I 0] fun _ p3=>jOC 3 rfl ?_
 have q3:=((p3.picks [9,1,6,7,10,10,6,7,8]).dropAt 10 rfl)
 have r3:=q3.merge6
 have s3:=(r3.pick 1 rfl)
 obtain ⟨j1,Jc,c1,I1,D1,E1,U1,N0,K0,Q0⟩:∃(j1:Job) (Jc:Chunk) (c1:Stage),Sat W _ ([(s1, .cells #[.slice t nt kt,I g3] 78 (0,0))]::Jc::[(n3, .cells (encJob j1).toArray 28 (0,0))]::[(x2, .cells (encPlane b0).toArray 38 (0,0))]::[(j3, .cells (encStage a0).toArray 53 (0,0))]::H::F)/\Job.Ok [Jc] j1/\j1.v=⟨[b0.v],[c1.v,a0.v],[2],0⟩/\(j1.inputs.n=1/\j1.stages.n=2/\j1.outputs.n=1)/\copyP c1.v b0.v.max_/\Plane.Ok [Jc] b0/\Stage.Ok [Jc] a0:=by
  have K0:Plane.Ok [([(j0, .cells (encPlane b0).toArray 38 (0,0))]++([(k0, .cells #[I 6,I 0,I (-1), .bool false,I 0,I 0,I 0,I 0,nS,nS,nS,I 0,I 0,nS,nS,I 0, .slice (At e0 0) 1 1,I b0.max_,I a0.kind,I a0.a,I a0.b, .bool a0.barrier,I a0.edgePolicy,I a0.edgeFill,I a0.kW,I a0.kH, .slice a0.weights.a a0.weights.n a0.weights.k, .slice a0.row.a a0.row.n a0.row.k, .slice a0.col.a a0.col.n a0.col.k,I a0.shift,I a0.shift2, .slice a0.x.a a0.x.n a0.x.k, .slice a0.y.a a0.y.n a0.y.k,I a0.bins, .slice a0.ops.a a0.ops.n a0.ops.k,I a0.max_] 53 (0,0))]++([(l0, .cells #[I 2] 3 (0,0))]++([(e0, .cells #[I 0,I 0] 75 (0,0))]++(u0++w0)))))] b0:=t1.of_mem mS
  have Q0:Stage.Ok [([(j0, .cells (encPlane b0).toArray 38 (0,0))]++([(k0, .cells #[I 6,I 0,I (-1), .bool false,I 0,I 0,I 0,I 0,nS,nS,nS,I 0,I 0,nS,nS,I 0, .slice (At e0 0) 1 1,I b0.max_,I a0.kind,I a0.a,I a0.b, .bool a0.barrier,I a0.edgePolicy,I a0.edgeFill,I a0.kW,I a0.kH, .slice a0.weights.a a0.weights.n a0.weights.k, .slice a0.row.a a0.row.n a0.row.k, .slice a0.col.a a0.col.n a0.col.k,I a0.shift,I a0.shift2, .slice a0.x.a a0.x.n a0.x.k, .slice a0.y.a a0.y.n a0.y.k,I a0.bins, .slice a0.ops.a a0.ops.n a0.ops.k,I a0.max_] 53 (0,0))]++([(l0, .cells #[I 2] 3 (0,0))]++([(e0, .cells #[I 0,I 0] 75 (0,0))]++(u0++w0)))))] a0:=d3.of_mem mS
  have J1:Stage.Ok [([(j0, .cells (encPlane b0).toArray 38 (0,0))]++([(k0, .cells #[I 6,I 0,I (-1), .bool false,I 0,I 0,I 0,I 0,nS,nS,nS,I 0,I 0,nS,nS,I 0, .slice (At e0 0) 1 1,I b0.max_,I a0.kind,I a0.a,I a0.b, .bool a0.barrier,I a0.edgePolicy,I a0.edgeFill,I a0.kW,I a0.kH, .slice a0.weights.a a0.weights.n a0.weights.k, .slice a0.row.a a0.row.n a0.row.k, .slice a0.col.a a0.col.n a0.col.k,I a0.shift,I a0.shift2, .slice a0.x.a a0.x.n a0.x.k, .slice a0.y.a a0.y.n a0.y.k,I a0.bins, .slice a0.ops.a a0.ops.n a0.ops.k,I a0.max_] 53 (0,0))]++([(l0, .cells #[I 2] 3 (0,0))]++([(e0, .cells #[I 0,I 0] 75 (0,0))]++(u0++w0)))))] (⟨6,0,-1,false,0,0,0,0,⟨none,0,0,[]⟩,⟨none,0,0,[]⟩,⟨none,0,0,[]⟩,0,0,⟨none,0,0,[]⟩,⟨none,0,0,[]⟩,0,⟨some ⟨e0,0,none⟩,1,1,[⟨0,0⟩]⟩,b0.max_⟩:Stage):={zStage_ok with ops:=((RdT.blk (enc:=encPOp) (sz:=2) (xs:=[⟨0,0⟩]) (fun _=>(by rfl)) 1 0 rfl rfl rfl om:RdT encPOp 2 [[(e0, .cells #[I 0,I 0] 75 (0,0))]] (At e0 0) 1 1 [⟨0,0⟩]).of_mem mS)}
  refine ⟨(⟨⟨some ⟨j0,0,none⟩,1,1,[b0]⟩,⟨some ⟨k0,0,none⟩,2,2,[(⟨6,0,-1,false,0,0,0,0,⟨none,0,0,[]⟩,⟨none,0,0,[]⟩,⟨none,0,0,[]⟩,0,0,⟨none,0,0,[]⟩,⟨none,0,0,[]⟩,0,⟨some ⟨e0,0,none⟩,1,1,[⟨0,0⟩]⟩,b0.max_⟩:Stage),a0]⟩,⟨some ⟨l0,0,none⟩,1,1,[2]⟩,0⟩:Job),([(j0, .cells (encPlane b0).toArray 38 (0,0))]++([(k0, .cells #[I 6,I 0,I (-1), .bool false,I 0,I 0,I 0,I 0,nS,nS,nS,I 0,I 0,nS,nS,I 0, .slice (At e0 0) 1 1,I b0.max_,I a0.kind,I a0.a,I a0.b, .bool a0.barrier,I a0.edgePolicy,I a0.edgeFill,I a0.kW,I a0.kH, .slice a0.weights.a a0.weights.n a0.weights.k, .slice a0.row.a a0.row.n a0.row.k, .slice a0.col.a a0.col.n a0.col.k,I a0.shift,I a0.shift2, .slice a0.x.a a0.x.n a0.x.k, .slice a0.y.a a0.y.n a0.y.k,I a0.bins, .slice a0.ops.a a0.ops.n a0.ops.k,I a0.max_] 53 (0,0))]++([(l0, .cells #[I 2] 3 (0,0))]++([(e0, .cells #[I 0,I 0] 75 (0,0))]++(u0++w0))))),(⟨6,0,-1,false,0,0,0,0,⟨none,0,0,[]⟩,⟨none,0,0,[]⟩,⟨none,0,0,[]⟩,0,0,⟨none,0,0,[]⟩,⟨none,0,0,[]⟩,0,⟨some ⟨e0,0,none⟩,1,1,[⟨0,0⟩]⟩,b0.max_⟩:Stage),s3,⟨((RdT.blk (enc:=encPlane) (sz:=4) (xs:=[b0]) (fun _=>(by rfl)) 1 0 rfl rfl rfl om:RdT encPlane 4 [[(j0, .cells (encPlane b0).toArray 38 (0,0))]] (At j0 0) 1 1 [b0]).of_mem mS),?_,((RdT.blk (enc:=encStage) (sz:=18) (xs:=[(⟨6,0,-1,false,0,0,0,0,⟨none,0,0,[]⟩,⟨none,0,0,[]⟩,⟨none,0,0,[]⟩,0,0,⟨none,0,0,[]⟩,⟨none,0,0,[]⟩,0,⟨some ⟨e0,0,none⟩,1,1,[⟨0,0⟩]⟩,b0.max_⟩:Stage),a0]) (fun _=>(by rfl)) 2 0 rfl rfl rfl om:RdT encStage 18 [[(k0, .cells #[I 6,I 0,I (-1), .bool false,I 0,I 0,I 0,I 0,nS,nS,nS,I 0,I 0,nS,nS,I 0, .slice (At e0 0) 1 1,I b0.max_,I a0.kind,I a0.a,I a0.b, .bool a0.barrier,I a0.edgePolicy,I a0.edgeFill,I a0.kW,I a0.kH, .slice a0.weights.a a0.weights.n a0.weights.k, .slice a0.row.a a0.row.n a0.row.k, .slice a0.col.a a0.col.n a0.col.k,I a0.shift,I a0.shift2, .slice a0.x.a a0.x.n a0.x.k, .slice a0.y.a a0.y.n a0.y.k,I a0.bins, .slice a0.ops.a a0.ops.n a0.ops.k,I a0.max_] 53 (0,0))]] (At k0 0) 2 2 [(⟨6,0,-1,false,0,0,0,0,⟨none,0,0,[]⟩,⟨none,0,0,[]⟩,⟨none,0,0,[]⟩,0,0,⟨none,0,0,[]⟩,⟨none,0,0,[]⟩,0,⟨some ⟨e0,0,none⟩,1,1,[⟨0,0⟩]⟩,b0.max_⟩:Stage),a0]).of_mem mS),?_,((RdT.blk (enc:=Go.E.encI) (sz:=1) (xs:=[2]) (fun _=>(by rfl)) 1 0 rfl rfl rfl om:RdT Go.E.encI 1 [[(l0, .cells #[I 2] 3 (0,0))]] (At l0 0) 1 1 [2]).of_mem mS)⟩,by rfl,⟨rfl,rfl,rfl⟩,⟨rfl,rfl,rfl,rfl,rfl⟩,K0,Q0⟩
  ·intro z hz;rw [List.mem_singleton.1 hz];exact K0
  ·intro z hz;simp only [List.mem_cons,List.not_mem_nil,or_false] at hz;rcases hz with rfl|rfl
   ·exact J1
   ·exact Q0
 refine drawF I1 [2,5,7] (fb 0 2 0 4<|fn) [1,4,0,2,3,5,6,7,8,9,10,11,12] fun _ t3=>wV 2<|wG 0 4<|wO rfl<|cZ (tape_next (ht.fl 4) om t3.flat1 3 om) ?_
 rintro _ _ ⟨f0,rfl,_,_,_,u3⟩
 have z1:=u3.unflat1
 refine nZ z1 [2]<|wAdd 1 f0<|wO rfl<|cZ (tape_next (ht.fl 4) om z1.flat1 3 om) ?_
 rintro _ _ ⟨g0,rfl,_,_,_,v3⟩
 have a2:=v3.unflat1
 refine nZ a2 [2]<|wAdd 1 g0<|wO rfl<|cZ (r20_low (F:=[]) j1 (1+f0) (1+g0) (D1.of_mem (mF 1)) om a2.flat) ?_
 rintro _ _ ⟨_,w3,_,a1,_,_,rfl,i0,q0,x3,y3⟩
 have b2:=y3.unflat2;have P0:=i0.len;have O0:=i0.le
 refine nA<|wV 1<|wV 1<|wV 1<|wV 2<|wN<|gXO b2 4 [404] rfl<|cZ (r18_of j1 (D1.of_mem (mF 3)) (od) b2.flat) ?_
 rintro _ _ ⟨_,_,_,c2,r0,_,rfl,x0,d2,e2,z3⟩
 have b1:=z3.unflat1
 have G0:=x0.ll
 refine jOC 9 rfl ?_
 have hj:j1.v.inputs=[b0.v]:=by rw [E1]
 have hs:j1.v.stages=[c1.v,a0.v]:=by rw [E1]
 have W0:=f3
 have R0:a0.v.a=1:=W0.1
 have S0:a0.v.b=-1:=by simp only [Stage.v];omega
 have T0:tileP (1+f0) (1+g0):=by unfold tileP;omega
 have K1:r0=(shpV j1.v).2.2:=congrArg Prod.snd e2
 have G1:b0.v.w*b0.v.h<=100:=by have h:=v0;have h2:=mul_bd (a:=b0.w) (b:=b0.h) (A:=6) (B:=5) om om;simp only [Plane.v];omega
 have H1:a0.v.x.length<=10/\a0.v.y.length<=10:=by have h:=e3;unfold stageB at h;simp only [Stage.v,List.length_map];omega
 have X1:lowC j1.v (1+f0) (1+g0)=r0:=by rw [K1];exact two_low hj hs N0 R0 S0 T0 G1 H1
 refine jCO 4 rfl<|SN 60 (lowC j1.v (1+f0) (1+g0)) 0 (fun a4=>jOO 12 rfl<|(by have b4:((lowC j1.v (1+f0) (1+g0)):Int)=r0:=(by omega);exact sFix 67 _ true (beq_iff_eq.2 b4)<|gY<|cS (l21_sane b1.flat) fun _ c4=>jOR 6 rfl<|retT [.bool true]<|⟨rfl,(c4.drops [0,0,0,0,0,0,0,0])⟩)) fun a4=>jOC 5 rfl<|CN r0 0 (fun e4=>jCO 6 rfl<|(by have f4:((lowC j1.v (1+f0) (1+g0)):Int)=r0:=(by omega);exact sFix 67 _ true (beq_iff_eq.2 f4)<|gY<|cS (l21_sane b1.flat) fun _ g4=>jOR 6 rfl<|retT [.bool true]<|⟨rfl,(g4.drops [0,0,0,0,0,0,0,0])⟩)) fun e4=>jCC 3 rfl ?_
 have L0:(shpV j1.v).2.2=0:=by omega
 have N1:lowC j1.v (1+f0) (1+g0)=0:=by omega
 have M1:=two_node hj hs L0 N0 R0 S0
 have R1:=two_tot hj hs N0 R0 S0 T0 L0 G1 H1
 have Z0:a1.map Task.v=(layV j1.v (1+f0) (1+g0)).all:=by rw [x3];unfold lowV;rw [if_pos N1]
 have C1:=lay_ok (shp_ok L0) T0
 have P1:=v0.2.2.2.1;have Q1:=K0.pix.len
 have W1:2<=a1.length/\a1.length<=1000:=by have h:=all_lenA C1;rw [<-Z0,List.length_map] at h;omega
 have O1:=i0.len
 have B1:c2.map Plane.v=meanV j1.v:=congrArg Prod.fst e2
 have Z1:c2.length=3:=by have h:=congrArg List.length B1;rw [List.length_map] at h;have h2:=(mean_ok L0).1;rw [hj,hs] at h2;simp only [List.length_cons,List.length_nil] at h2;omega
 refine jCO 4 rfl ?_
 have i4:=(b1.pick 3 rfl)
 refine cZ (tape_next (ht.fl 7) om i4.flat1 (w3:Int) om) ?_
 rintro _ _ ⟨h0,rfl,_,j4,_,k4⟩
 have p0:=k4.unflat1
 refine jOO 8 rfl<|sIO i0 h0 (h0).toNat fun c0 _ _ m0 l4 _=>?_
 have X0:(layV j1.v (1+f0) (1+g0)).all[(h0).toNat]?=some c0.v:=by rw [<-Z0];exact map_at (f:=Task.v) m0
 have T1:=(q0 c0 (List.mem_of_getElem? m0)).deps.len;have S1:=(q0 c0 (List.mem_of_getElem? m0)).deps.le
 refine pu1<|sMp p0 (l4.up 2 rfl) 0 (I c0.stage)<|pu2<|SN 80 c0.stage 2 (fun m4=>jOO 12 rfl<|cS (l21_sane p0.flat) fun _ n4=>jOR 5 rfl<|retT [.bool true]<|⟨rfl,(n4.drops [0,0,0,0,0,0,0,0])⟩) fun m4=>pu2<|gY<|sIO i0 h0 (h0).toNat fun p4 _ _ d1 q4 _=>?_
 obtain rfl:c0=p4:=Option.some.inj (m0.symm.trans d1)
 refine pu1<|gY<|sMp p0 (q4.up 2 rfl) 1 (I c0.part)<|jOC 4 rfl<|cE c0.part 2 (fun r4=>jCO 2 rfl<|cS (l21_sane p0.flat) fun _ s4=>jOR 5 rfl<|retT [.bool true]<|⟨rfl,(s4.drops [0,0,0,0,0,0,0,0])⟩) fun r4=>gCO p0 5 [406] rfl<|cZ (r4_copyO b0 ⟨(K0.pix.fl 4)⟩ om p0.flat) ?_
 rintro _ _ ⟨f2,g2,i2,u4,rfl,e1,v4⟩
 have w4:=v4.unflat1;have H0:=e1.len;have F0:=e1.le
 refine sAlloc w4 zeroValue38 fun x4 _ y4=>sTk y4 0 rfl [I b0.w,I b0.h,I b0.max_, .slice f2 g2 i2] fun _ z4=>jOC 9 rfl<|loopF [3,4,6,8,10,12,13] (γ:=Nat×Int×(List Int)×SO) (fun ⟨n,U0,zs,D0,C0,M0,V0⟩ R=>⟨[(14,I (n:Int))],V0::[(x4, .cells #[I b0.w,I b0.h,I b0.max_, .slice D0 C0 M0] 38 (0,0))]::[(s1, .cells #[.slice t nt kt,I U0] 78 (0,0))]::R,b0.pix.n-n,n<=b0.pix.n/\(KpN (layV j1.v (1+f0) (1+g0)).all c0.deps.l b0.w b0.max_ b0.pix.l n zs)/\(0<=U0/\U0<=nt)/\OwnT Go.E.encI 3 1 D0 C0 M0 zs V0⟩) (0,j4,b0.pix.l,f2,g2,i2,u4) ⟨(z4.pick 1 rfl),om,(KpN.start M1.1),om,e1⟩ ?_
 rintro ⟨n,U0,zs,D0,C0,M0,V0⟩ ρ _ ⟨f1,hn,hK,L1,B0⟩
 have F1:=B0.ll
 have V1:=hK.len;have A1:(n:Int).tmod b0.w=(n:Int)%b0.w:=Int.tmod_eq_emod_of_nonneg om;have Y0:(n:Int).tdiv b0.w=(n:Int)/b0.w:=Int.tdiv_eq_ediv_of_nonneg om
 refine gCC f1 10 [1] rfl<|cD ((n:Int)<(C0:Int)) (fun b5=>?_) (fun b5=>?_)
 rotate_left
 ·refine jCC 6 rfl ?_
  obtain ⟨c5,p9,q9,d5,e5,f5,r9⟩:=OwnT.elem i0 h0
  obtain rfl:c0=c5:=Option.some.inj (m0.symm.trans d5)
  obtain ⟨n0,s9,t9,y0,g5,h5⟩:=RdT.elem x0 2
  have A0:n0.v=plAt (meanV j1.v) 2:=by have h:=map_at (f:=Plane.v) y0;rw [B1] at h;exact (congrArg (fun o=>Option.getD o zPl) h).symm
  refine drawF f1 [10] (fb 0 9 0 18<|fp 4 (e5.up 4 rfl)<|fb 5 8 0 4<|fp 9 (g5.up 3 rfl)<|fn) [1,2,3,6,7,8,0,4,5,9,10,11,12,13,14,15] fun _ i5=>wV 2<|wI f5<|wV 2<|wI h5<|wG 0 18<|wG 18 9<|wG 27 4<|wG 31 4<|wO rfl<|cZ (p21_compute a0 c0 b0 (⟨0,0,0,⟨none,0,0,[]⟩⟩:Plane) n0 none 0 0 ([]) (Q0.of_mem (mF 6)) ⟨(RdT.flat ((q0 c0 (List.mem_of_getElem? d1)).deps.up 5 (by rfl)))⟩ ⟨(K0.pix.fl 6)⟩ ⟨(RdT.nil (enc:=Go.E.encI) (sz:=1) fR _)⟩ ⟨(RdT.flat ((d2 n0 (List.mem_of_getElem? y0)).pix.up 3 (by rfl)))⟩ (RdT.nil (enc:=encIL) (sz:=1) fR _) (fun z hz=>by cases hz) i5.flat) ?_
  rintro _ _ ⟨j5,k5,l5,g1,i1,_,rfl,k1,j2,m5⟩
  have n5:=m5.unflat1
  have I0:=k1.ll
  have o5:i1=0:=by have h:=congrArg Prod.snd j2;rw [A0] at h;exact h.trans (two_final hj hs L0 N0 R0 S0 T0 X0 (show c0.v.stage=2 by simp only [Task.v];omega) (show ¬c0.v.part=2 by simp only [Task.v];omega) hK (q':=zPl)).1
  refine nA<|wV 1<|wV 1<|wV 1<|wV 2<|wN<|jXC 2 rfl ?_
  obtain ⟨p5,w9,x9,q5,r5,s5,y9⟩:=OwnT.elem i0 h0
  obtain rfl:c0=p5:=Option.some.inj (m0.symm.trans q5)
  obtain ⟨t5,z9,aa,k2,u5,v5⟩:=RdT.elem x0 2
  obtain rfl:n0=t5:=Option.some.inj (y0.symm.trans k2)
  have A0:n0.v=plAt (meanV j1.v) 2:=by have h:=map_at (f:=Plane.v) k2;rw [B1] at h;exact (congrArg (fun o=>Option.getD o zPl) h).symm
  refine drawF n5 [10] (fb 0 10 0 18<|fp 4 (r5.up 5 rfl)<|fb 5 2 0 4<|fp 9 (u5.up 4 rfl)<|fn) [1,2,3,6,7,8,0,4,5,9,10,11,12,13,14,15] fun _ w5=>wV 2<|wI s5<|wV 2<|wI v5<|wG 0 18<|wG 18 9<|wG 27 4<|wG 31 4<|wO rfl<|cZ (p21_compute a0 c0 (⟨b0.w,b0.h,b0.max_,⟨D0,C0,M0,zs⟩⟩:Plane) (⟨0,0,0,⟨none,0,0,[]⟩⟩:Plane) n0 none 0 0 ([]) (Q0.of_mem (mF 7)) ⟨(RdT.flat ((q0 c0 (List.mem_of_getElem? d1)).deps.up 6 (by rfl)))⟩ ⟨(RdT.flat (B0.rdAt 1 (by rfl)))⟩ ⟨(RdT.nil (enc:=Go.E.encI) (sz:=1) fR _)⟩ ⟨(RdT.flat ((d2 n0 (List.mem_of_getElem? y0)).pix.up 4 (by rfl)))⟩ (RdT.nil (enc:=encIL) (sz:=1) fR _) (fun z hz=>by cases hz) w5.flat) ?_
  rintro _ _ ⟨x5,y5,z5,l1,m1,_,rfl,n1,a6,b6⟩
  have c6:=b6.unflat1
  have J0:=n1.ll
  have l2:(l1,m1)=(g1,i1):=by have h1:=j2;have h2:=a6;rw [A0] at h1 h2;rw [h1,h2];exact (two_final hj hs L0 N0 R0 S0 T0 X0 (show c0.v.stage=2 by simp only [Task.v];omega) (show ¬c0.v.part=2 by simp only [Task.v];omega) hK).2
  have da:m1=0:=(congrArg Prod.snd l2).trans o5
  exact nA<|wV 1<|wV 1<|wV 1<|wV 2<|wN<|jXO 6 rfl<|SE 179 i1 0 (fun d6=>jOR 15 rfl<|retT [.bool false]<|(by first|omega)) fun d6=>pu4<|SE 183 m1 0 (fun e6=>jOR 11 rfl<|retT [.bool false]<|(by first|omega)) fun e6=>pu2<|gY<|cS (r4_same j5 k5 l5 g1 x5 y5 z5 l1 (k1.fl 1) (n1.fl 0) c6.flat) fun _ f6=>pu2<|(by have g6:g1=l1:=(congrArg Prod.fst l2).symm;exact sFix 188 _ true (decide_eq_true g6)<|gY<|cS (l21_sane f6.flat) fun _ h6=>jOR 5 rfl<|retT [.bool true]<|⟨rfl,(h6.drops [0,0,0,0,0,0,0,0,0,0,0,0])⟩)
 refine jCC 16 rfl<|loopF [3,4,6,8,10,12,13,14] (γ:=Nat×Bool) (fun ⟨d,rd⟩ R=>⟨[(16,I (d:Int)),(15, .bool rd)],R,c0.deps.n-d,d<=c0.deps.n/\(rd=insL (layV j1.v (1+f0) (1+g0)).all (c0.deps.l.take d) ((n:Int)%b0.w) ((n:Int)/b0.w))⟩) (0,false) ⟨f1,om,(by simp [insL])⟩ ?_
 rintro ⟨d,rd⟩ ρ _ ⟨o0,hd,hR⟩
 refine jCO 6 rfl<|sIO i0 h0 (h0).toNat fun j6 _ _ k6 l6 _=>?_
 obtain rfl:c0=j6:=Option.some.inj (m0.symm.trans k6)
 refine pu1<|sMp o0 (l6.up 4 rfl) 6 (.slice c0.deps.a c0.deps.n c0.deps.k)<|jOC 4 rfl<|CD ((d:Int)<(c0.deps.n:Int)) (fun m6=>jCC 11 rfl<|cBn rd (fun n6=>jCO 5 rfl<|sAdd (n:Int) 1<|jOI 2 rfl<|⟨(n+1,U0,zs,D0,C0,M0,V0),od,alB,o0,om,(hK.keep (by have h:=hR;rw [List.take_of_length_le (show c0.deps.l.length<=d by omega)] at h;rw [<-h];first|assumption|exact Bool.eq_false_iff.2 ‹_›)),om,B0⟩) fun n6=>(by obtain ⟨o6,ka,la,m2,p6,n2,q6⟩:=OwnT.eN B0 n;refine drawF o0 [7,9] (fb 1 1 3 1<|fb 5 8 2 1<|fn) [0,2,3,4,1,5,6,7,8,9] fun _ r6=>wV 4<|wL 0<|wL 1<|wAdd b0.max_ 1<|wO rfl ?_;have s6:=(r6.pick 2 rfl);refine cZ (tape_next (ht.fl 9) om s6.flat1 (b0.max_+1) om) ?_;rintro _ _ ⟨z0,rfl,_,t6,_,u6⟩;have o2:=u6.unflat1;exact nZ o2 [2,8]<|wI n2<|wO rfl<|sStF o2 B0 q6 1 n 0 o6 z0 m2 (I z0) [I z0] sizeOf3 fun _ v6 w6 x6=>nA<|wN<|jXO 4 rfl<|sAdd (n:Int) 1<|jOI 2 rfl<|⟨(n+1,t6,(zs.set n z0),D0,C0,M0,v6),od,alB,(x6.picks [2,2]),om,(hK.put (by have h:=hR;rw [List.take_of_length_le (show c0.deps.l.length<=d by omega)] at h;rw [<-h];first|assumption|exact Bool.eq_false_iff.2 ‹_›) om),om,w6⟩)) fun m6=>?_
 refine jCO 9 rfl<|sIO i0 h0 (h0).toNat fun z6 _ _ q2 a7 _=>?_
 obtain rfl:c0=z6:=Option.some.inj (m0.symm.trans q2)
 refine pu1<|sMp o0 (a7.up 4 rfl) 6 (.slice c0.deps.a c0.deps.n c0.deps.k)<|pu1<|sII (q0 c0 (List.mem_of_getElem? q2)).deps (d:Int) fun s0 _ _ t0 b7=>?_
 rw [Int.toNat_natCast] at t0
 have E0:=(dep_ok C1 X0 (d:=s0) (List.mem_of_getElem? t0)).1
 refine sMp o0 (b7.up 5 rfl) 0 (I s0)<|sIO i0 s0 (s0).toNat fun d0 _ _ c7 d7 _=>?_
 have o1:(layV j1.v (1+f0) (1+g0)).all[(s0).toNat]?=some d0.v:=by rw [<-Z0];exact map_at (f:=Task.v) c7
 refine sMA o0 (d7.up 4 rfl) 0 (encTask d0)<|sAlloc o0 zeroValue47 fun _ _ e7=>sTk e7 0 rfl (encTask d0) fun _ q1=>jOC 2 rfl<|bD (rd=true) (fun r1=>drawF q1 [16] (fn) [0,1,2,3,4,5,6,8,9,12,13,7,10,11,14,15,16,17,18,19] fun _ f7=>wV 2<|wFix 120 _ true r1<|wV 14<|wO rfl<|pu1<|nA<|wV 3<|wN<|jXO 4 rfl<|sAdd (d:Int) 1<|jOI 2 rfl<|⟨(d+1,true),od,alB,(f7.dropAt 0 rfl),om,(by rw [insL_step t0,<-hR,insB_at o1,<-A1,<-Y0];first|(rw [show rd=true by assumption];rfl)|(rw [show rd=false from Bool.eq_false_iff.2 ‹_›];first|exact (decide_eq_false (fun h=>absurd (show d0.stage=1 from h.1) ‹_›)).symm|exact decide_eq_decide.2 ⟨fun h=>⟨(by assumption:d0.stage=1),h.1,h.2⟩,fun h=>h.2⟩))⟩) fun r1=>bC ((d0.stage:Int)=1) (fun r2=>drawF q1 [16] (fb 3 0 0 1<|fn) [0,1,2,3,4,5,6,8,9,12,13,7,10,11,14,15,16,17,18,19] fun _ s2=>wV 2<|wFix 120 _ false (Bool.eq_false_iff.2 r1)<|wV 1<|wL 0<|wV 2<|wFix 124 _ false (beq_eq_false_iff_ne.2 r2)<|wV 10<|wO rfl<|pu1<|nZ s2 [0]<|wV 3<|wN<|jXO 4 rfl<|sAdd (d:Int) 1<|jOI 2 rfl<|⟨(d+1,false),od,alB,(s2.dropAt 0 rfl),om,(by rw [insL_step t0,<-hR,insB_at o1,<-A1,<-Y0];first|(rw [show rd=true by assumption];rfl)|(rw [show rd=false from Bool.eq_false_iff.2 ‹_›];first|exact (decide_eq_false (fun h=>absurd (show d0.stage=1 from h.1) ‹_›)).symm|exact decide_eq_decide.2 ⟨fun h=>⟨(by assumption:d0.stage=1),h.1,h.2⟩,fun h=>h.2⟩))⟩) fun r2=>?_
 exact drawF q1 [16] (fb 3 0 0 1<|fb 7 0 2 4<|fb 10 9 0 1<|fb 14 9 0 1<|fn) [0,1,2,3,4,5,6,8,9,12,13,7,10,11,14,15,16,17,18,19] fun _ i7=>wV 2<|wFix 120 _ false (Bool.eq_false_iff.2 r1)<|wV 1<|wL 0<|wV 2<|wFix 124 _ true (beq_iff_eq.2 r2)<|wV 5<|wG 1 4<|wL 5<|wRem (n:Int) b0.w<|wL 6<|wQuo (n:Int) b0.w<|wO rfl<|gY<|cS (r2_contains (⟨d0.rectX0,d0.rectY0,d0.rectX1,d0.rectY1⟩:Rct) ((n:Int).tmod b0.w) ((n:Int).tdiv b0.w) i7.flat) fun _ t2=>nZ t2 [0,9,9]<|wV 3<|wN<|jXO 4 rfl<|sAdd (d:Int) 1<|jOI 2 rfl<|⟨(d+1,decide ((rvP (⟨d0.rectX0,d0.rectY0,d0.rectX1,d0.rectY1⟩:Rct)/\inR2 (⟨d0.rectX0,d0.rectY0,d0.rectX1,d0.rectY1⟩:Rct) ((n:Int).tmod b0.w) ((n:Int).tdiv b0.w)))),od,alB,(t2.dropAt 0 rfl),om,(by rw [insL_step t0,<-hR,insB_at o1,<-A1,<-Y0];first|(rw [show rd=true by assumption];rfl)|(rw [show rd=false from Bool.eq_false_iff.2 ‹_›];first|exact (decide_eq_false (fun h=>absurd (show d0.stage=1 from h.1) ‹_›)).symm|exact decide_eq_decide.2 ⟨fun h=>⟨(by assumption:d0.stage=1),h.1,h.2⟩,fun h=>h.2⟩))⟩
end Go.Proofs.YtghcddbhllkbmaaGreat
