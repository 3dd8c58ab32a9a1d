import Derived.WalkKit
import Derived.Deep.Quiet
import Derived.KernelRfl
import Derived.Laws.BytesString
import Derived.Laws.Shifts
import Derived.Laws.IdiomStrings
import Derived.OpenShut
import Derived.Test.YtdingplbadblpaaGreatProg
import Derived.Shelf.SortG.Plain
import Derived.Shelf.SortG.SortNone
import Derived.Shelf.SlicesG.CompactI
import Derived.Test.YtdingplbadblpaaGreatR3Q3Lc
namespace Go.Proofs.YtdingplbadblpaaGreat
open Go Go.E Go.Proofs.Tryz
set_option linter.all false
set_option maxRecDepth 100000
set_option maxHeartbeats 2000000
variable {W w:World} {H:Chunk} {F:List Chunk}
structure LayM where
  jobInputs:Sl Plane
  jobStages:Sl Stage
  jobOutputs:Sl Int
  jobPriority:Int
  tw:Int
  th:Int
  order:Sl Int
  shapes:Sl Shape
  first:Sl Int
  count:Sl Int
def encLayM (x:LayM):List Value:=[.slice x.jobInputs.a x.jobInputs.n x.jobInputs.k, .slice x.jobStages.a x.jobStages.n x.jobStages.k, .slice x.jobOutputs.a x.jobOutputs.n x.jobOutputs.k, .int .i64 x.jobPriority, .int .i64 x.tw, .int .i64 x.th, .slice x.order.a x.order.n x.order.k, .slice x.shapes.a x.shapes.n x.shapes.k, .slice x.first.a x.first.n x.first.k, .slice x.count.a x.count.n x.count.k]
structure LayMV where
  jobInputs:List PlaneV
  jobStages:List StageV
  jobOutputs:List Int
  jobPriority:Int
  tw:Int
  th:Int
  order:List Int
  shapes:List Shape
  first:List Int
  count:List Int
  deriving DecidableEq
def LayM.v (x:LayM):LayMV:=⟨x.jobInputs.l.map Plane.v,x.jobStages.l.map Stage.v,x.jobOutputs.l,x.jobPriority,x.tw,x.th,x.order.l,x.shapes.l,x.first.l,x.count.l⟩
structure LayM.Ok (cs:List Chunk) (q:LayM):Prop where
  jobInputs:RdT encPlane 4 cs q.jobInputs.a q.jobInputs.n q.jobInputs.k q.jobInputs.l
  jobInputsD:∀z∈q.jobInputs.l,Plane.Ok cs z
  jobStages:RdT encStage 18 cs q.jobStages.a q.jobStages.n q.jobStages.k q.jobStages.l
  jobStagesD:∀z∈q.jobStages.l,Stage.Ok cs z
  jobOutputs:RdT Go.E.encI 1 cs q.jobOutputs.a q.jobOutputs.n q.jobOutputs.k q.jobOutputs.l
  order:RdT Go.E.encI 1 cs q.order.a q.order.n q.order.k q.order.l
  shapes:RdT encShape 3 cs q.shapes.a q.shapes.n q.shapes.k q.shapes.l
  first:RdT Go.E.encI 1 cs q.first.a q.first.n q.first.k q.first.l
  count:RdT Go.E.encI 1 cs q.count.a q.count.n q.count.k q.count.l
theorem LayM.Ok.of_mem {cs cs':List Chunk} {x:LayM} (h:LayM.Ok cs x) (hm:∀p∈cs.flatten,p∈cs'.flatten):LayM.Ok cs' x:=⟨h.jobInputs.of_mem hm,fun y hy=>(h.jobInputsD y hy).of_mem hm,h.jobStages.of_mem hm,fun y hy=>(h.jobStagesD y hy).of_mem hm,h.jobOutputs.of_mem hm,h.order.of_mem hm,h.shapes.of_mem hm,h.first.of_mem hm,h.count.of_mem hm⟩
def BefG (ni:Int) (D:List (List Int)) (out:List Int):Prop:=∀pre x post,out=pre++x::post->∀s,D[(x-ni).toNat]?=some s->∀y∈s,y<ni\/y∈pre
theorem BefG.nil {ni:Int} {D:List (List Int)}:BefG ni D []:=by
  intro pre x post h;cases pre<;>simp at h
theorem BefG.add {ni:Int} {D:List (List Int)} {out:List Int} {k:Nat} (h:BefG ni D out) (hc:canG ni D out k):BefG ni D (out++[ni+(k:Int)]):=by
 intro pre x post e s hs y hy
 rcases List.append_eq_append_iff.1 e with ⟨z,h1,h2⟩|⟨z,h1,h2⟩
 ·cases z with
  |nil=>
   simp at h1 h2
   obtain ⟨s2,hs2,_,h4⟩:=hc
   rw [<-h2.1,show (ni+(k:Int)-ni).toNat=k by omega,hs2] at hs
   obtain rfl:=Option.some.inj hs
   rw [h1];exact h4 y hy
  |cons a z=>simp at h2
 ·cases z with
  |nil=>
   simp at h1 h2
   obtain ⟨s2,hs2,_,h4⟩:=hc
   rw [h2.1,show (ni+(k:Int)-ni).toNat=k by omega,hs2] at hs
   obtain rfl:=Option.some.inj hs
   rw [<-h1];exact h4 y hy
  |cons a z=>
   simp at h2
   obtain ⟨rfl,h3⟩:=h2
   exact h pre x z h1 s hs y hy
theorem list_bef {ni:Int} (hni:0<=ni) {D:List (List Int)}:∀(k:Nat) {out:List Int},BefG ni D out->BefG ni D (listG ni D k out)
  |0,out,h=>h
  |k+1,out,h=>by
    unfold listG
    rcases pick0 hni (out:=out) (D:=D) with h1|⟨m,h1,h2,_⟩
    · rw [if_pos h1.1];exact h
    · rw [if_neg (by omega),h1]
      exact list_bef hni k (h.add h2)
theorem OutG.every {ni:Int} {D:List (List Int)} {out:List Int} (h:OutG ni D out) (hl:out.length=D.length) {x:Int} (h1:ni<=x) (h2:x<ni+(D.length:Int)):x∈out:=by
  by_cases hx:x∈out
  · exact hx
  · exfalso
    have h3:OutG ni D (x::out):=⟨fun y hy=>by
      rcases List.mem_cons.1 hy with e|hy
      · rw [e];exact ⟨h1,h2⟩
      · exact h.r y hy,List.nodup_cons.2 ⟨hx,h.d⟩⟩
    have:=h3.len
    rw [List.length_cons] at this;omega
theorem stg_at {ss:List StageV} {ni:Int} {x:Int} {s:StageV} (h:ss[(x-ni).toNat]?=some s):stgAt ss ni x=s:=by unfold stgAt;rw [h];rfl
theorem a_src (s:StageV):s.a∈srcs s:=by unfold srcs;split<;>simp
theorem b_src {s:StageV} (h:twoP s):s.b∈srcs s:=by unfold srcs;rw [if_pos h];simp
def FitP (ni:Int) (ss:List StageV) (sh:List Shape) (x:Int):Prop:=shpStep ni ss x sh=(shpAt sh x,0)
theorem shpAt_set {sh:List Shape} {n y:Int} {v:Shape} (h:n.toNat≠y.toNat):shpAt (sh.set n.toNat v) y=shpAt sh y:=by
  unfold shpAt;rw [List.getElem?_set,if_neg h]
theorem shpStep_congr {ni n:Int} {ss:List StageV} {sh sh':List Shape} (h:∀y∈srcs (stgAt ss ni n),shpAt sh' y=shpAt sh y):shpStep ni ss n sh'=shpStep ni ss n sh:=by
  unfold shpStep
  rw [h _ (a_src _)]
  split
  · rename_i ht;rw [h _ (b_src ht)]
  · rfl
theorem shpStep_sz {ni n:Int} {ss:List StageV} {sh:List Shape} (h:(shpStep ni ss n sh).2=0):szP (shpStep ni ss n sh).1:=ofV_sz h
theorem shpGo_ok {ni:Int} {ss:List StageV}:∀(l pre:List Int) (out:List Shape),(pre++l).Nodup->(∀x∈pre++l,ni<=x/\x<out.length)->0<=ni->
  (∀p x q,pre++l=p++x::q->∀y∈srcs (stgAt ss ni x),0<=y/\(y<ni\/y∈p))->(∀x∈pre,szP (shpAt out x)/\FitP ni ss out x)->(shpGo ni ss l out).2.2=0->
  (shpGo ni ss l out).1.length=out.length/\(∀x∈pre++l,szP (shpAt (shpGo ni ss l out).1 x)/\FitP ni ss (shpGo ni ss l out).1 x)/\∀x,0<=x->x<ni->shpAt (shpGo ni ss l out).1 x=shpAt out x
 |[],pre,out,_,_,_,_,hp,_=>⟨rfl,by simpa [shpGo] using hp,fun _ _ _=>rfl⟩
 |n::l,pre,out,hd,hr,hn,hb,hp,h=>by
  unfold shpGo at h⊢
  split at h
  ·rename_i hs
   rw [if_pos hs]
   have hrn:=hr n (by simp)
   have hnd:n∉pre:=by
    intro hm
    have:=(List.nodup_append.1 hd).2.2 n hm n (by simp)
    exact this rfl
   have hk:∀y:Int,0<=y->(y<ni\/y∈pre)->shpAt (out.set n.toNat (shpStep ni ss n out).1) y=shpAt out y:=by
    intro y h0 hy
    refine shpAt_set ?_
    rcases hy with hy|hy
    ·omega
    ·have:=hr y (by simp [hy])
     have:y≠n:=fun e=>hnd (e▸hy)
     omega
   have hself:shpAt (out.set n.toNat (shpStep ni ss n out).1) n=(shpStep ni ss n out).1:=by
    unfold shpAt;rw [List.getElem?_set,if_pos rfl,if_pos om];rfl
   have e:pre++[n]++l=pre++n::l:=by simp
   have ih:=shpGo_ok (ni:=ni) (ss:=ss) l (pre++[n]) (out.set n.toNat (shpStep ni ss n out).1) (by rw [e];exact hd) (by rw [e,List.length_set];exact hr) hn (by rw [e];exact hb) (by
    intro x hx
    rcases List.mem_append.1 hx with hx|hx
    ·have h1:=hp x hx
     have hx0:=hr x (by simp [hx])
     obtain ⟨p,q,hpq⟩:=List.append_of_mem hx
     have hsrc:=hb p x (q++n::l) (by rw [hpq];simp)
     refine ⟨by rw [hk x om (.inr hx)];exact h1.1,?_⟩
     unfold FitP
     rw [hk x om (.inr hx),shpStep_congr (sh:=out) (fun y hy=>by
      have:=hsrc y hy
      exact hk y this.1 (this.2.imp id (fun h=>by rw [hpq];simp [h])))]
     exact h1.2
    ·simp only [List.mem_singleton] at hx
     subst hx
     have hsrc:=hb pre x l rfl
     refine ⟨by rw [hself];exact shpStep_sz hs,?_⟩
     unfold FitP
     rw [hself,shpStep_congr (sh:=out) (fun y hy=>hk y (hsrc y hy).1 (hsrc y hy).2)]
     exact Prod.ext rfl hs) h
   rw [e,List.length_set] at ih
   exact ⟨ih.1,ih.2.1,fun x h0 hx=>by rw [ih.2.2 x h0 hx];exact hk x h0 (.inl hx)⟩
  ·rename_i hs;exact absurd h hs
structure ShpOK (j:JobV):Prop where
  ch:chkCode j=0
  od:(ordV j).2=0
  nn:1<=j.inputs.length/\1<=j.stages.length/\j.inputs.length+j.stages.length<=16
  rng:∀x∈(ordV j).1,(j.inputs.length:Int)<=x/\x<(j.inputs.length:Int)+j.stages.length
  nd:(ordV j).1.Nodup
  ln:(ordV j).1.length=j.stages.length
  every:∀x:Int,(j.inputs.length:Int)<=x->x<(j.inputs.length:Int)+j.stages.length->x∈(ordV j).1
  bef:∀p x q,(ordV j).1=p++x::q->∀y∈srcs (stgAt j.stages j.inputs.length x),0<=y/\(y<(j.inputs.length:Int)\/y∈p)
  len:(shpV j).1.length=j.inputs.length+j.stages.length
  sz:∀x:Int,0<=x->x<(j.inputs.length:Int)+j.stages.length->szP (shpAt (shpV j).1 x)
  fit:∀x∈(ordV j).1,FitP j.inputs.length j.stages (shpV j).1 x
theorem shp_ok {j:JobV} (h:(shpV j).2.2=0):ShpOK j:=by
 unfold shpV at h
 split at h
 ·rename_i ho
  split at h
  ·rename_i hp
   have hc:=ordV_chk ho
   have hl:=ord_list hc
   have hn:=chk_len hc
   have heq:(ordV j).1=listV j/\(listV j).length=j.stages.length:=by
    have h1:=hl.1
    split at h1
    ·rw [h1] at ho;simp at ho
    ·rename_i h2
     have h3:=hl.2.len
     rw [List.length_map] at h3
     exact ⟨by rw [h1],om⟩
   have hout:OutG j.inputs.length (j.stages.map srcs) (ordV j).1:=by rw [heq.1];exact hl.2
   have hrng:=hout.r
   rw [List.length_map] at hrng
   have hbef:BefG j.inputs.length (j.stages.map srcs) (ordV j).1:=by rw [heq.1];exact list_bef om _ BefG.nil
   have hstg:∀x:Int,(j.inputs.length:Int)<=x->x<(j.inputs.length:Int)+j.stages.length->∃s,j.stages[(x-(j.inputs.length:Int)).toNat]?=some s/\stgAt j.stages j.inputs.length x=s:=by
    intro x h1 h2
    have hlt:(x-(j.inputs.length:Int)).toNat<j.stages.length:=by omega
    exact ⟨_,List.getElem?_eq_getElem hlt,stg_at (List.getElem?_eq_getElem hlt)⟩
   have hbef2:∀p x q,(ordV j).1=p++x::q->∀y∈srcs (stgAt j.stages j.inputs.length x),0<=y/\(y<(j.inputs.length:Int)\/y∈p):=by
    intro p x q e y hy
    have hx:=hrng x (by rw [e];simp)
    obtain ⟨s,hs,he⟩:=hstg x hx.1 hx.2
    rw [he] at hy
    refine ⟨(chk_srcs hc (s:=s) (List.mem_of_getElem? hs) y hy).1,?_⟩
    exact hbef p x q e (srcs s) (by rw [List.getElem?_map,hs];rfl) y hy
   have hlen0:(j.inputs.map shpOf++List.replicate j.stages.length (⟨0,0,0⟩:Shape)).length=j.inputs.length+j.stages.length:=by simp
   have hgo:=shpGo_ok (ni:=j.inputs.length) (ss:=j.stages) (ordV j).1 [] (j.inputs.map shpOf++List.replicate j.stages.length ⟨0,0,0⟩) (by simpa using hout.d) (by rw [hlen0];intro x hx;have:=hrng x (by simpa using hx);omega) om (by simpa using hbef2) (by intro x hx;cases hx) h
   have hsh:(shpV j).1=(shpGo j.inputs.length j.stages (ordV j).1 (j.inputs.map shpOf++List.replicate j.stages.length ⟨0,0,0⟩)).1:=by
    unfold shpV;rw [if_pos ho,if_pos hp]
   rw [<-hsh,hlen0] at hgo
   have hev:∀x:Int,(j.inputs.length:Int)<=x->x<(j.inputs.length:Int)+j.stages.length->x∈(ordV j).1:=fun x h1 h2=>hout.every (by rw [List.length_map,heq.1];exact heq.2) h1 (by rw [List.length_map];exact h2)
   refine ⟨hc,ho,hn,hrng,hout.d,by rw [heq.1];exact heq.2,hev,hbef2,hgo.1,?_,fun x hx=>(hgo.2.1 x (by simpa using hx)).2⟩
   intro x h0 hx
   by_cases hi:x<(j.inputs.length:Int)
   ·rw [hgo.2.2 x h0 hi]
    have hlt:x.toNat<j.inputs.length:=by omega
    have hpl:=List.all_eq_true.1 hp (j.inputs[x.toNat]) (List.getElem_mem _)
    unfold shpAt
    rw [List.getElem?_append_left (by simp;omega),List.getElem?_map,List.getElem?_eq_getElem hlt]
    unfold planeOK at hpl
    simp only [Bool.and_eq_true,decide_eq_true_eq] at hpl
    have:=hpl.1.1
    unfold sizeP at this
    show szP (shpOf _)
    unfold szP shpOf
    dsimp only
    omega
   ·exact (hgo.2.1 x (by simpa using hev x om hx)).1
  ·simp at h
 ·rename_i ho;exact absurd h ho
theorem sorted_at {zs:List Int} (h:zs.Pairwise (·<=·)) {i j:Nat} {x y:Int} (hi:zs[i]?=some x) (hj:zs[j]?=some y) (hij:i<=j):x<=y:=by
  by_cases e:i=j
  · subst e;rw [hi] at hj;have:=Option.some.inj hj;omega
  · obtain ⟨h1,e1⟩:=List.getElem?_eq_some_iff.1 hi
    obtain ⟨h2,e2⟩:=List.getElem?_eq_some_iff.1 hj
    have:=List.pairwise_iff_getElem.1 h i j h1 h2 (by omega)
    rw [e1,e2] at this;exact this
theorem comp_spec {zs:List Int} (h:zs.Pairwise (·<=·)):∀m,m<=zs.length->Asc (Go.Lib.compactUpTo zs.toArray m)/\∀x,x∈Go.Lib.compactUpTo zs.toArray m↔∃j,j<m/\zs[j]?=some x
 |0,_=>⟨by simp [Go.Lib.compactUpTo,Asc],fun x=>by simp [Go.Lib.compactUpTo]⟩
 |m+1,hm=>by
  obtain ⟨h1,h2⟩:=comp_spec h m om
  have hlt:m<zs.length:=by omega
  have hd:zs.toArray[m]! =zs[m]:=by simp [hlt]
  have hz:zs[m]?=some zs[m]:=List.getElem?_eq_getElem hlt
  rw [Go.Lib.compactUpTo_succ,hd]
  by_cases hk:Go.Lib.keeps zs.toArray m=true
  ·rw [if_pos hk]
   constructor
   ·refine List.pairwise_append.2 ⟨h1,by simp,?_⟩
    intro x hx y hy
    simp only [List.mem_singleton] at hy
    subst hy
    obtain ⟨j,hj,hjx⟩:=(h2 x).1 hx
    have hp:m-1<zs.length:=by omega
    have hz1:zs[m-1]?=some zs[m-1]:=List.getElem?_eq_getElem hp
    have ha:=sorted_at h hjx hz1 om
    have hb:=sorted_at h hz1 hz om
    unfold Go.Lib.keeps at hk
    have hk2:=of_decide_eq_true hk
    have hd1:zs.toArray[m-1]! =zs[m-1]:=by simp [hp]
    rw [hd,hd1] at hk2
    omega
   ·intro x
    rw [List.mem_append,h2,List.mem_singleton]
    constructor
    ·rintro (⟨j,hj,hjx⟩|rfl)
     ·exact ⟨j,om,hjx⟩
     ·exact ⟨m,om,hz⟩
    ·rintro ⟨j,hj,hjx⟩
     by_cases e:j=m
     ·subst e;rw [hz] at hjx;exact .inr (Option.some.inj hjx).symm
     ·exact .inl ⟨j,om,hjx⟩
  ·rw [if_neg hk,List.append_nil]
   refine ⟨h1,fun x=>?_⟩
   rw [h2]
   constructor
   ·rintro ⟨j,hj,hjx⟩;exact ⟨j,om,hjx⟩
   ·rintro ⟨j,hj,hjx⟩
    by_cases e:j=m
    ·subst e
     unfold Go.Lib.keeps at hk
     have hk2:¬(j=0\/zs.toArray[j]!≠zs.toArray[j-1]!):=fun hh=>hk (decide_eq_true hh)
     have hp:j-1<zs.length:=by omega
     have hd1:zs.toArray[j-1]! =zs[j-1]:=by simp [hp]
     rw [hd,hd1] at hk2
     have hj0:j≠0:=fun e=>hk2 (.inl e)
     have he:zs[j]=zs[j-1]:=Decidable.of_not_not (fun e=>hk2 (.inr e))
     refine ⟨j-1,om,?_⟩
     rw [List.getElem?_eq_getElem hp,<-he,<-hz];exact hjx
    ·exact ⟨j,om,hjx⟩
theorem canon_sort (l:List Int):Go.Lib.compact (l.mergeSort fun x y=>decide (x<=y))=canonV l:=by
 have hs:(l.mergeSort fun x y=>decide (x<=y)).Pairwise (·<=·):=by
  have:=List.pairwise_mergeSort (le:=fun x y:Int=>decide (x<=y)) (fun a b c h1 h2=>decide_eq_true (Int.le_trans (of_decide_eq_true h1) (of_decide_eq_true h2))) (fun a b=>by simp;omega) l
  exact this.imp (fun h=>of_decide_eq_true h)
 have h:=comp_spec hs _ (Nat.le_refl _)
 refine asc_ext h.1 (asc_canon l) (fun x=>?_)
 unfold Go.Lib.compact
 rw [h.2,mem_canon,<-List.mem_mergeSort (le:=fun x y:Int=>decide (x<=y))]
 constructor
 ·rintro ⟨j,_,hj⟩;exact List.mem_of_getElem? hj
 ·intro hx
  obtain ⟨j,hj⟩:=List.getElem?_of_mem hx
  exact ⟨j,(List.getElem?_eq_some_iff.1 hj).1,hj⟩
structure LayG (L:Lay):Prop where
  ni:1<=L.ni/\L.ni+(L.ss.length:Int)<=16
  rng:∀x∈L.od,L.ni<=x/\x<L.ni+(L.ss.length:Int)
  every:∀x:Int,L.ni<=x->x<L.ni+(L.ss.length:Int)->x∈L.od
  nd:L.od.Nodup
  ln:L.od.length=L.ss.length
  bef:∀p x q,L.od=p++x::q->∀y∈srcs (L.st x),0<=y/\(y<L.ni\/y∈p)
  len:(L.sh.length:Int)=L.ni+(L.ss.length:Int)
  sz:∀x:Int,0<=x->x<L.ni+(L.ss.length:Int)->szP (shpAt L.sh x)
  fit:∀x∈L.od,FitP L.ni L.ss L.sh x
  tl:tileP L.tw L.th
theorem lay_ok {j:JobV} {tw th:Int} (h:ShpOK j) (ht:tileP tw th):LayG (layV j tw th):=
  ⟨by have:=h.nn;simp only [layV];omega,h.rng,h.every,h.nd,h.ln,h.bef,by have:=h.len;simp only [layV];omega,h.sz,h.fit,ht⟩
section
variable {L:Lay} (g:LayG L)
include g
theorem LayG.src {x:Int} (hx:x∈L.od):∀y∈srcs (L.st x),0<=y/\y<L.ni+(L.ss.length:Int)/\(y<L.ni\/y∈L.od):=by
  obtain ⟨p,q,e⟩:=List.append_of_mem hx
  intro y hy
  have h:=g.bef p x q e y hy
  rcases h.2 with h2|h2
  · exact ⟨h.1,by omega, .inl h2⟩
  · have hm:y∈L.od:=by rw [e];simp [h2]
    have:=g.rng y hm
    exact ⟨h.1,this.2, .inr hm⟩
theorem LayG.cutsz {x:Int} (hx:x∈L.od):szP (L.cut x):=by
  unfold Lay.cut
  split
  · have:=g.src hx _ (a_src _);exact g.sz _ this.1 this.2.1
  · have:=g.rng x hx;have:=g.ni;exact g.sz _ (by omega) (by omega)
theorem LayG.fine {x:Int} (hx:x∈L.od):fineP (L.cut x).w (L.cut x).h L.tw L.th:=by
  have h:=g.cutsz hx
  have ht:=g.tl
  unfold szP at h;unfold tileP at ht
  unfold fineP
  omega
theorem LayG.byt {x:Int} (hx:x∈L.od):bytOK (L.st x):=by
  have h:=g.fit x hx
  unfold FitP shpStep at h
  exact of_bytOK (congrArg Prod.snd h)
theorem LayG.grid {x:Int} (hx:x∈L.od):(1<=L.nx x/\L.nx x<=128)/\(1<=L.ny x/\L.ny x<=128)/\1<=L.nx x*L.ny x/\L.nx x*L.ny x<=16384:=by
  have h:=cols_bd (g.fine hx)
  unfold Lay.nx Lay.ny
  refine ⟨h.1,h.2,?_,?_⟩
  · have:=Int.mul_le_mul h.1.1 h.2.1 (by omega) (by omega);omega
  · have:=Int.mul_le_mul h.1.2 h.2.2 (by omega) (by omega);omega
theorem LayG.cntb {x:Int} (hx:x∈L.od):1<=L.cnt x/\L.cnt x<=16385:=by
  have h:=(g.grid hx).2.2
  unfold Lay.cnt
  split<;>omega
end
theorem firstG_pre {f:Int->Int} {x:Int}:∀(p q:List Int),x∉p->firstG f (p++x::q) x=(p.map f).sum
  |[],q,_=>by simp [firstG]
  |y::p,q,h=>by
    have hy:y≠x:=fun e=>h (by simp [e])
    rw [List.cons_append,firstG,if_neg hy,firstG_pre p q (fun hm=>h (by simp [hm]))]
    simp
theorem sum_nn {f:Int->Int}:∀(l:List Int),(∀x∈l,0<=f x)->0<=(l.map f).sum
  |[],_=>by simp
  |y::l,h=>by
    have:=sum_nn l (fun x hx=>h x (by simp [hx]))
    have:=h y (by simp)
    simp;omega
theorem LayG.first_at {L:Lay} (g:LayG L) {p q:List Int} {x:Int} (e:L.od=p++x::q):L.first x=(p.map L.cnt).sum/\x∉p:=by
  have hn:=g.nd
  rw [e] at hn
  have hx:x∉p:=fun hm=>(List.nodup_append.1 hn).2.2 x hm x (by simp) rfl
  refine ⟨?_,hx⟩
  unfold Lay.first
  rw [e,firstG_pre p q hx]
theorem LayG.firstb {L:Lay} (g:LayG L) {x:Int} (hx:x∈L.od):0<=L.first x/\L.first x+L.cnt x<=L.total:=by
  obtain ⟨p,q,e⟩:=List.append_of_mem hx
  obtain ⟨h1,h2⟩:=g.first_at e
  have hp:=sum_nn (f:=L.cnt) p (fun y hy=>by have:=g.cntb (x:=y) (by rw [e];simp [hy]);omega)
  have hq:=sum_nn (f:=L.cnt) q (fun y hy=>by have:=g.cntb (x:=y) (by rw [e];simp [hy]);omega)
  refine ⟨by omega,?_⟩
  have ht:L.total=(p.map L.cnt).sum+(L.cnt x+(q.map L.cnt).sum):=by unfold Lay.total;rw [e];simp
  omega
theorem LayG.totb {L:Lay} (g:LayG L):0<=L.total/\L.total<=262160:=by
  have h:∀l:List Int,(∀x∈l,x∈L.od)->(l.map L.cnt).sum<=16385*l.length:=by
    intro l
    induction l with
    |nil=>intro _;simp
    |cons y l ih=>intro hm;have h1:=ih (fun x hx=>hm x (by simp [hx]));have h2:=g.cntb (hm y (by simp));simp only [List.map_cons,List.sum_cons,List.length_cons];push_cast;omega
  have h1:=h L.od (fun _ hx=>hx)
  have h2:=sum_nn (f:=L.cnt) L.od (fun y hy=>by have:=g.cntb hy;omega)
  have h3:=g.ln;have h4:=g.ni
  unfold Lay.total
  constructor
  · exact h2
  · have:(L.od.length:Int)<=15:=by omega
    omega
theorem til_len {s:StageV} {w h tw th:Int} {r:Rct}:(tilesV s w h tw th r).length<=16384:=by
  unfold tilesV
  refine Nat.le_trans (List.length_filter_le _ _) ?_
  rw [upto_len]
  unfold tilN
  by_cases hf:fineP w h tw th
  · have hb:=cols_bd hf
    have:=mul_bd (a:=colsN w h tw th) (b:=rowsN w h tw th) (A:=128) (B:=128) (by omega) (by omega)
    omega
  · rw [(cols_no hf).1];simp
theorem srcDeps_len {L:Lay} (g:LayG L) {s:StageV} {r:Rct} {x:Int} (hx:x<L.ni\/x∈L.od):(L.srcDeps s r x).length<=16385:=by
  unfold Lay.srcDeps
  split
  · simp
  · rename_i h0
    have hm:x∈L.od:=by rcases hx with h|h;exact absurd h h0;exact h
    split
    · rw [List.length_map,upto_len];have:=g.cntb hm;omega
    · split
      · simp
      · rw [List.length_map];exact Nat.le_trans til_len (by omega)
theorem flat_len2 {L:Lay} (g:LayG L) {s:StageV} {r:Rct}:∀l:List Int,(∀x∈l,x<L.ni\/x∈L.od)->(l.flatMap (L.srcDeps s r)).length<=16385*l.length
  |[],_=>by simp
  |x::l,h=>by
    rw [List.flatMap_cons,List.length_append,List.length_cons]
    have h1:=srcDeps_len (s:=s) (r:=r) g (h x (by simp))
    have h2:=flat_len2 (s:=s) (r:=r) g l (fun y hy=>h y (by simp [hy]))
    omega
def btwV (a b:Int):List Int:=(uptoV (b-a).toNat).map (a+·)
theorem btw_len (a b:Int):(btwV a b).length=(b-a).toNat:=by unfold btwV;rw [List.length_map,upto_len]
theorem upto_map_at (k:Nat) (a:Int):(uptoV (k+1)).map (a+·)=(uptoV k).map (a+·)++[a+(k:Int)]:=upto_map_snoc k _
theorem take_flat {α:Type} {l:List Int} {i:Nat} {x:Int} {f:Int->List α} (h:l[i]?=some x):(l.take (i+1)).flatMap f=(l.take i).flatMap f++f x:=by
  rw [List.take_add_one,h,Option.toList_some,List.flatMap_append];simp
def LayM.L (x:LayM):Lay:=⟨(x.jobInputs.n:Int),x.jobStages.l.map Stage.v,x.shapes.l,x.order.l,x.tw,x.th⟩
def LayW (x:LayM):Prop:=∀n∈x.L.od,x.first.l[n.toNat]?=some (x.L.first n)/\x.count.l[n.toNat]?=some (x.L.cnt n)
theorem lay_st {x:LayM} {n:Int} {q:Stage} (h:x.jobStages.l[(n-(x.jobInputs.n:Int)).toNat]?=some q):x.L.st n=q.v:=stg_at (map_at (f:=Stage.v) h)
theorem shp_at' {l:List Shape} {i:Int} {m:Shape} (h:l[i.toNat]?=some m):shpAt l i=m:=by unfold shpAt;rw [h];rfl
theorem p20_inputs {b:Nat} {x:LayM} (hx:LayM.Ok [H] x) (hS:Sat W w ([(b, .cells (encLayM x).toArray 97 (0,0))]::H::F)):
  Calls prog 100 #[Pt b 0] w fun e w'=>e= .returned (I (x.jobInputs.n:Int))/\Sat W w' ([(b, .cells (encLayM x).toArray 97 (0,0))]::H::F):=by
 have hl_x_jobInputs:=hx.jobInputs.le;have hn_x_jobInputs:=hx.jobInputs.len
 have hl_x_jobStages:=hx.jobStages.le;have hn_x_jobStages:=hx.jobStages.len
 have hl_x_jobOutputs:=hx.jobOutputs.le;have hn_x_jobOutputs:=hx.jobOutputs.len
 have hl_x_order:=hx.order.le;have hn_x_order:=hx.order.len
 have hl_x_shapes:=hx.shapes.le;have hn_x_shapes:=hx.shapes.len
 have hl_x_first:=hx.first.le;have hn_x_first:=hx.first.len
 have hl_x_count:=hx.count.le;have hn_x_count:=hx.count.len
 exact callsA 9 func100 rfl<|sR<|pu1<|zS<|pu4<|sL hS 0 0 (.slice x.jobInputs.a x.jobInputs.n x.jobInputs.k) (isAgg25 _)<|pu2<|zE<|retT [I (x.jobInputs.n:Int)]<|⟨rfl,hS⟩
theorem p20_stage {b:Nat} {x:LayM} (hx:LayM.Ok [H] x) (nd:Int) (hn:(x.jobInputs.n:Int)<=nd/\nd<(x.jobInputs.n:Int)+(x.jobStages.n:Int)) (hb:x.jobInputs.n<=1000/\x.jobStages.n<=1000) (hS:Sat W w ([(b, .cells (encLayM x).toArray 97 (0,0))]::H::F)):
  Calls prog 60 #[Pt b 0,I nd] w fun e w'=>∃q:Stage,e= .returned (.agg (encStage q).toArray)/\x.jobStages.l[(nd-(x.jobInputs.n:Int)).toNat]?=some q/\Sat W w' ([(b, .cells (encLayM x).toArray 97 (0,0))]::H::F):=by
 have hl_x_jobInputs:=hx.jobInputs.le;have hn_x_jobInputs:=hx.jobInputs.len
 have hl_x_jobStages:=hx.jobStages.le;have hn_x_jobStages:=hx.jobStages.len
 have hl_x_jobOutputs:=hx.jobOutputs.le;have hn_x_jobOutputs:=hx.jobOutputs.len
 have hl_x_order:=hx.order.le;have hn_x_order:=hx.order.len
 have hl_x_shapes:=hx.shapes.le;have hn_x_shapes:=hx.shapes.len
 have hl_x_first:=hx.first.le;have hn_x_first:=hx.first.len
 have hl_x_count:=hx.count.le;have hn_x_count:=hx.count.len
 refine callsA 16 func60 rfl<|sR<|sAlloc hS zeroValue38 fun _ _ c0=>nT<|seqE ?_
 obtain ⟨a0,e0,f0,h0,b0,i0⟩:=RdT.elem hx.jobStages (nd-(x.jobInputs.n:Int))
 refine drawE [7,11] [(4,⟨b,1,none⟩, .slice x.jobStages.a x.jobStages.n x.jobStages.k),(10,⟨e0,f0+0,none⟩,I a0.kind),(10,⟨e0,f0+1,none⟩,I a0.a),(10,⟨e0,f0+2,none⟩,I a0.b),(10,⟨e0,f0+3,none⟩, .bool a0.barrier),(10,⟨e0,f0+4,none⟩,I a0.edgePolicy),(10,⟨e0,f0+5,none⟩,I a0.edgeFill),(10,⟨e0,f0+6,none⟩,I a0.kW),(10,⟨e0,f0+7,none⟩,I a0.kH),(10,⟨e0,f0+8,none⟩, .slice a0.weights.a a0.weights.n a0.weights.k),(10,⟨e0,f0+9,none⟩, .slice a0.row.a a0.row.n a0.row.k),(10,⟨e0,f0+10,none⟩, .slice a0.col.a a0.col.n a0.col.k),(10,⟨e0,f0+11,none⟩,I a0.shift),(10,⟨e0,f0+12,none⟩,I a0.shift2),(10,⟨e0,f0+13,none⟩, .slice a0.x.a a0.x.n a0.x.k),(10,⟨e0,f0+14,none⟩, .slice a0.y.a a0.y.n a0.y.k),(10,⟨e0,f0+15,none⟩,I a0.bins),(10,⟨e0,f0+16,none⟩, .slice a0.ops.a a0.ops.n a0.ops.k),(10,⟨e0,f0+17,none⟩,I a0.max_)] [(true,[0,1,2,3,5,6]),(true,[4]),(false,[7]),(true,[8]),(true,[9]),(true,[10]),(false,[11])] rfl kr ⟨cI c0 1, .inr ((b0.up 2 rfl).cell c0 (k:=0) rfl), .inr ((b0.up 2 rfl).cell c0 (k:=1) rfl), .inr ((b0.up 2 rfl).cell c0 (k:=2) rfl), .inr ((b0.up 2 rfl).cell c0 (k:=3) rfl), .inr ((b0.up 2 rfl).cell c0 (k:=4) rfl), .inr ((b0.up 2 rfl).cell c0 (k:=5) rfl), .inr ((b0.up 2 rfl).cell c0 (k:=6) rfl), .inr ((b0.up 2 rfl).cell c0 (k:=7) rfl), .inr ((b0.up 2 rfl).cell c0 (k:=8) rfl), .inr ((b0.up 2 rfl).cell c0 (k:=9) rfl), .inr ((b0.up 2 rfl).cell c0 (k:=10) rfl), .inr ((b0.up 2 rfl).cell c0 (k:=11) rfl), .inr ((b0.up 2 rfl).cell c0 (k:=12) rfl), .inr ((b0.up 2 rfl).cell c0 (k:=13) rfl), .inr ((b0.up 2 rfl).cell c0 (k:=14) rfl), .inr ((b0.up 2 rfl).cell c0 (k:=15) rfl), .inr ((b0.up 2 rfl).cell c0 (k:=16) rfl), .inr ((b0.up 2 rfl).cell c0 (k:=17) rfl),trivial⟩ ?_
 have j0:=c0.drew
 refine wU [0,1,2,3,5,6]<|wLd (.slice x.jobStages.a x.jobStages.n x.jobStages.k) 0 isAgg26<|wO rfl ?_
 have k0:=(j0.pick 1 rfl)
 refine cX call100 (p20_inputs (hx.of_mem (mem_flat1 1 (by rfl))) k0.flat1) ?_
 rintro _ _ ⟨rfl,l0⟩
 have d0:=l0.unflat1
 refine nilO ⟨⟨cI d0 0, .inr ((b0.up 2 rfl).cell d0 (k:=0) rfl), .inr ((b0.up 2 rfl).cell d0 (k:=1) rfl), .inr ((b0.up 2 rfl).cell d0 (k:=2) rfl), .inr ((b0.up 2 rfl).cell d0 (k:=3) rfl), .inr ((b0.up 2 rfl).cell d0 (k:=4) rfl), .inr ((b0.up 2 rfl).cell d0 (k:=5) rfl), .inr ((b0.up 2 rfl).cell d0 (k:=6) rfl), .inr ((b0.up 2 rfl).cell d0 (k:=7) rfl), .inr ((b0.up 2 rfl).cell d0 (k:=8) rfl), .inr ((b0.up 2 rfl).cell d0 (k:=9) rfl), .inr ((b0.up 2 rfl).cell d0 (k:=10) rfl), .inr ((b0.up 2 rfl).cell d0 (k:=11) rfl), .inr ((b0.up 2 rfl).cell d0 (k:=12) rfl), .inr ((b0.up 2 rfl).cell d0 (k:=13) rfl), .inr ((b0.up 2 rfl).cell d0 (k:=14) rfl), .inr ((b0.up 2 rfl).cell d0 (k:=15) rfl), .inr ((b0.up 2 rfl).cell d0 (k:=16) rfl), .inr ((b0.up 2 rfl).cell d0 (k:=17) rfl),trivial⟩,?_⟩
 refine wSub nd (x.jobInputs.n:Int)<|wY (.pointer (some ⟨e0,f0,none⟩)) rfl (fun w _=>Y_idx (a:=x.jobStages.a) (i:=(nd-(x.jobInputs.n:Int))) (len:=x.jobStages.n) (cap:=x.jobStages.k) rfl runUnderlying26 sizeOf38 kr kr i0)<|wY (.agg (encStage a0).toArray) rfl (fun w hF=>Y_loadF rfl (isAgg38 w) (sizeOf38 w) kr rfl ⟨hF 1 _ _ rfl,hF 2 _ _ rfl,hF 3 _ _ rfl,hF 4 _ _ rfl,hF 5 _ _ rfl,hF 6 _ _ rfl,hF 7 _ _ rfl,hF 8 _ _ rfl,hF 9 _ _ rfl,hF 10 _ _ rfl,hF 11 _ _ rfl,hF 12 _ _ rfl,hF 13 _ _ rfl,hF 14 _ _ rfl,hF 15 _ _ rfl,hF 16 _ _ rfl,hF 17 _ _ rfl,hF 18 _ _ rfl,trivial⟩)<|wO rfl ?_
 refine sT d0 1 0 (.agg (encStage a0).toArray) (encStage a0) (encStage a0).toArray sizeOf38 fun _ g0=>nilO ⟨dA,?_⟩
 exact wN<|tN<|retE<|retN (vs:=[.agg (encStage a0).toArray]) rfl (.cons (.cell _ _ _ _ kr (lvA g0 1 0 (encStage a0) (isAgg38 _) (sizeOf38 _) rfl rfl rfl)) .nil)<|⟨a0,rfl,h0,(g0.dropAt 1 rfl)⟩
theorem p20_cut {b:Nat} {x:LayM} (hx:LayM.Ok [H] x) (nd:Int) (hg:LayG x.L) (hx2:x.jobStages.n=x.jobStages.l.length) (hnd:nd∈x.L.od) (hS:Sat W w ([(b, .cells (encLayM x).toArray 97 (0,0))]::H::F)):
  Calls prog 87 #[Pt b 0,I nd] w fun e w'=>e= .returned (.agg #[I ((x.L.cut nd).w),I ((x.L.cut nd).h),I ((x.L.cut nd).max_)])/\Sat W w' ([(b, .cells (encLayM x).toArray 97 (0,0))]::H::F):=by
 have hl_x_jobInputs:=hx.jobInputs.le;have hn_x_jobInputs:=hx.jobInputs.len
 have hl_x_jobStages:=hx.jobStages.le;have hn_x_jobStages:=hx.jobStages.len
 have hl_x_jobOutputs:=hx.jobOutputs.le;have hn_x_jobOutputs:=hx.jobOutputs.len
 have hl_x_order:=hx.order.le;have hn_x_order:=hx.order.len
 have hl_x_shapes:=hx.shapes.le;have hn_x_shapes:=hx.shapes.len
 have hl_x_first:=hx.first.le;have hn_x_first:=hx.first.len
 have hl_x_count:=hx.count.le;have hn_x_count:=hx.count.len
 have hgn:1<=(x.jobInputs.n:Int)/\(x.jobInputs.n:Int)+(x.jobStages.n:Int)<=16:=by have h:=hg.ni;simp only [LayM.L,List.length_map] at h;omega
 have hgs:(x.shapes.n:Int)=(x.jobInputs.n:Int)+(x.jobStages.n:Int):=by have h:=hg.len;simp only [LayM.L,List.length_map] at h;omega
 have htl:tileP x.tw x.th:=hg.tl;unfold tileP at htl
 have hr_hnd:(x.jobInputs.n:Int)<=nd/\nd<(x.jobInputs.n:Int)+(x.jobStages.n:Int):=by have h:=hg.rng nd hnd;simp only [LayM.L,List.length_map] at h;omega
 refine callsA 27 func87 rfl<|sR<|sAlloc hS zeroValue54 fun _ _ l0=>zS<|pu2 ?_
 have m0:=(l0.pick 1 rfl)
 refine cX call60 (p20_stage (hx.of_mem (mem_flat1 1 (by rfl))) nd om om m0.flat1) ?_
 rintro _ _ ⟨c0,rfl,i0,n0⟩
 have o0:=n0.unflat1
 have hok_q_8:=hx.jobStagesD c0 (List.mem_of_getElem? i0);have hst_q_8:=lay_st i0
 refine sAlloc o0 zeroValue38 fun p0 _ q0=>?_
 refine sT q0 0 0 (.agg (encStage c0).toArray) (encStage c0) (encStage c0).toArray sizeOf38 fun _ d0=>nilO ?_
 have hsr:=hg.src hnd c0.a (by rw [hst_q_8];exact a_src _);simp only [LayM.L,List.length_map] at hsr
 refine tN<|seqE<|sR<|pu1<|sL d0 0 0 (I c0.kind) (isAgg3 _)<|pu1<|nT<|cE c0.kind 4 (fun g0=>?_) (fun g0=>?_)
 rotate_left
 ·refine kS<|pu3<|sL d0 1 7 (.slice x.shapes.a x.shapes.n x.shapes.k) (isAgg61 _)<|pu1<|sIdx hx.shapes nd runUnderlying61 sizeOf54 fun b0 _ _ r0 s0=>sLpA d0 (s0.up 3 rfl) 0 [I b0.w,I b0.h,I b0.max_] (isAgg54 _) (sizeOf54 _)<|sT d0 2 0 (.agg #[I b0.w,I b0.h,I b0.max_]) [I b0.w,I b0.h,I b0.max_] #[I b0.w,I b0.h,I b0.max_] sizeOf54 fun _ j0=>zE<|retN (vs:=[.agg #[I b0.w,I b0.h,I b0.max_]]) rfl (.cons (.cell _ _ _ _ kr (lvA j0 2 0 [I b0.w,I b0.h,I b0.max_] (isAgg54 _) (sizeOf54 _) rfl rfl rfl)) .nil) ?_
  have t0:=(j0.drops [0,1])
  have hcut:x.L.cut nd=b0:=by unfold Lay.cut;rw [hst_q_8,if_neg (show ¬c0.v.kind=4 from g0)];exact shp_at' r0
  exact ⟨by rw [hcut];rfl,t0⟩
 refine seqE ?_
 obtain ⟨a0,e0,f0,u0,h0,v0⟩:=RdT.elem hx.shapes c0.a
 refine drawE [8] [(3,⟨b,7,none⟩, .slice x.shapes.a x.shapes.n x.shapes.k),(5,⟨p0,1,none⟩,I c0.a),(7,⟨e0,f0+0,none⟩,I a0.w),(7,⟨e0,f0+1,none⟩,I a0.h),(7,⟨e0,f0+2,none⟩,I a0.max_)] [(true,[0,1,2,4]),(true,[3]),(true,[5]),(true,[6]),(true,[7]),(false,[8])] rfl kr ⟨cI d0 1,cI d0 0, .inr ((h0.up 3 rfl).cell d0 (k:=0) rfl), .inr ((h0.up 3 rfl).cell d0 (k:=1) rfl), .inr ((h0.up 3 rfl).cell d0 (k:=2) rfl),trivial⟩ ?_
 have w0:=d0.drew
 refine wU [0,1,2,4]<|wLd (.slice x.shapes.a x.shapes.n x.shapes.k) 0 isAgg61<|wLd (I c0.a) 1 isAgg3<|wY (.pointer (some ⟨e0,f0,none⟩)) rfl (fun w _=>Y_idx (a:=x.shapes.a) (i:=c0.a) (len:=x.shapes.n) (cap:=x.shapes.k) rfl runUnderlying61 sizeOf54 kr kr v0)<|wY (.agg #[I a0.w,I a0.h,I a0.max_]) rfl (fun w hF=>Y_loadF rfl (isAgg54 w) (sizeOf54 w) kr rfl ⟨hF 2 _ _ rfl,hF 3 _ _ rfl,hF 4 _ _ rfl,trivial⟩)<|wO rfl<|sT w0 2 0 (.agg #[I a0.w,I a0.h,I a0.max_]) [I a0.w,I a0.h,I a0.max_] #[I a0.w,I a0.h,I a0.max_] sizeOf54 fun _ k0=>nilO ⟨dA,?_⟩
 refine wN<|tN<|retE<|tK<|retN (vs:=[.agg #[I a0.w,I a0.h,I a0.max_]]) rfl (.cons (.cell _ _ _ _ kr (lvA k0 2 0 [I a0.w,I a0.h,I a0.max_] (isAgg54 _) (sizeOf54 _) rfl rfl rfl)) .nil) ?_
 have x0:=(k0.drops [0,1])
 have hcut:x.L.cut nd=a0:=by unfold Lay.cut;rw [hst_q_8,if_pos (show c0.v.kind=4 from g0)];exact shp_at' u0
 exact ⟨by rw [hcut];rfl,x0⟩
theorem p20_between {a:Option Addr} {n k:Nat} {xs:List Int} {c:Chunk} (fr up:Int) (hO:OwnT Go.E.encI 3 1 a n k xs c) (hb:n<=1000000/\-1000000<=fr/\up<=1000000) (hS:Sat W w (c::F)):
  Calls prog 92 #[.slice a n k,I fr,I up] w fun e w'=>∃(az:Option Addr) (nz kz:Nat) (Z:Chunk),e= .returned (.slice az nz kz)/\OwnT Go.E.encI 3 1 az nz kz (xs++btwV fr up) Z/\Sat W w' (Z::F):=by
 have hl0:=hO.le;have hn0:=hO.len
 refine callsA 19 func92 rfl<|sR<|pu1<|zQ<|pu2<|nT<|blockE<|loopA (γ:=Nat×Int×(List Int)×(Option Addr)×Nat×Nat×Chunk) (fun ⟨i,cur,zs,azs,nzs,kzs,czs⟩=>[(2,I up),(7,I cur),(0, .slice azs nzs kzs)]) (fun ⟨i,cur,zs,azs,nzs,kzs,czs⟩ w=>Sat W w (czs::F)/\i<=(up-fr).toNat/\(cur=fr+(i:Int))/\(zs=xs++(uptoV i).map (fr+·))/\OwnT Go.E.encI 3 1 azs nzs kzs zs czs) (fun ⟨i,cur,zs,azs,nzs,kzs,czs⟩=>((up-fr).toNat)-i) (0,fr,xs,a,n,k,c) ⟨hS,om,om,(by simp [uptoV]),hO⟩ ?_
 rintro ⟨i,cur,zs,azs,nzs,kzs,czs⟩ ρ _ ⟨a0,hi,hcu,hE,hOzs⟩
 have hn_zs:=hOzs.len;have hl_zs:=hOzs.le
 refine seqE<|sR<|pu3<|nT<|cD (cur<up) (fun b0=>?_) (fun b0=>?_)
 rotate_left
 ·refine exitE<|xB<|tN<|sR<|pu2<|zE<|retT [.slice azs nzs kzs] ?_
  have hz:zs=xs++btwV fr up:=by unfold btwV;rw [hE,show i=(up-fr).toNat by omega]
  exact ⟨_,_,_,_,rfl,by rw [<-hz];exact hOzs,a0⟩
 refine kT<|seqE<|blockE ?_
 have hzl:zs.length=n+i:=by rw [hE];simp [upto_len];omega
 exact rE<|pu2<|sBS a0 #[I cur] runUnderlying22 sizeOf3 zeroValue3 fun _ _ c0=>sApp (nb:=8) c0 hOzs 1 (RdT.blk (enc:=Go.E.encI) (sz:=1) (xs:=[cur]) fR 1 0 rfl rfl rfl om) underlying22 (i:=Tryz.t3) kr fR fun d0 e0 f0 _ g0 h0=>pu1<|nB<|rE<|pu1<|sAdd cur 1<|pu1<|nT<|⟨(i+1,(cur+1),(zs++[cur]),d0,(nzs+1),e0,f0),od,alA,(h0.dropAt 0 rfl),om,om,(by rw [upto_map_at,<-List.append_assoc,<-hE,hcu]),g0⟩
theorem til_b (w h tw th:Int):(tilN w h tw th:Int)<=16384:=by
  unfold tilN
  by_cases hf:fineP w h tw th
  · have hb:=cols_bd hf
    have:=mul_bd (a:=colsN w h tw th) (b:=rowsN w h tw th) (A:=128) (B:=128) (by omega) (by omega)
    omega
  · rw [(cols_no hf).1];simp
theorem p20_needs {b:Nat} {x:LayM} (hx:LayM.Ok [H] x) {q:Stage} (hq:Stage.Ok [H] q) (r:Rct) (hg:LayG x.L) (hx2:x.jobStages.n=x.jobStages.l.length) (hW:LayW x) (hsrc:∀y∈srcs q.v,0<=y/\y<x.L.ni+(x.L.ss.length:Int)/\(y<x.L.ni\/y∈x.L.od)) (hS:Sat W w ([(b, .cells (encLayM x).toArray 97 (0,0))]::H::F)):
  Calls prog 90 #[Pt b 0, .agg (encStage q).toArray, .agg (encRct r).toArray] w fun e w'=>∃(az:Option Addr) (nz kz:Nat) (Z:Chunk),e= .returned (.slice az nz kz)/\OwnT Go.E.encI 3 1 az nz kz (x.L.needs q.v r) Z/\Sat W w' (Z::[(b, .cells (encLayM x).toArray 97 (0,0))]::H::F):=by
 have hl_x_jobInputs:=hx.jobInputs.le;have hn_x_jobInputs:=hx.jobInputs.len
 have hl_x_jobStages:=hx.jobStages.le;have hn_x_jobStages:=hx.jobStages.len
 have hl_x_jobOutputs:=hx.jobOutputs.le;have hn_x_jobOutputs:=hx.jobOutputs.len
 have hl_x_order:=hx.order.le;have hn_x_order:=hx.order.len
 have hl_x_shapes:=hx.shapes.le;have hn_x_shapes:=hx.shapes.len
 have hl_x_first:=hx.first.le;have hn_x_first:=hx.first.len
 have hl_x_count:=hx.count.le;have hn_x_count:=hx.count.len
 have hgn:1<=(x.jobInputs.n:Int)/\(x.jobInputs.n:Int)+(x.jobStages.n:Int)<=16:=by have h:=hg.ni;simp only [LayM.L,List.length_map] at h;omega
 have hgs:(x.shapes.n:Int)=(x.jobInputs.n:Int)+(x.jobStages.n:Int):=by have h:=hg.len;simp only [LayM.L,List.length_map] at h;omega
 have htl:tileP x.tw x.th:=hg.tl;unfold tileP at htl
 have hl_q_weights:=hq.weights.le;have hn_q_weights:=hq.weights.len
 have hl_q_row:=hq.row.le;have hn_q_row:=hq.row.len
 have hl_q_col:=hq.col.le;have hn_q_col:=hq.col.len
 have hl_q_x:=hq.x.le;have hn_q_x:=hq.x.len
 have hl_q_y:=hq.y.le;have hn_q_y:=hq.y.len
 have hl_q_ops:=hq.ops.le;have hn_q_ops:=hq.ops.len
 have hsr:∀y∈srcs q.v,0<=y/\y<(x.jobInputs.n:Int)+(x.jobStages.n:Int)/\(y<(x.jobInputs.n:Int)\/y∈x.L.od):=fun y hy=>by have h:=hsrc y hy;simp only [LayM.L,List.length_map] at h⊢;rw [hx2];exact h
 refine callsA 102 func90 rfl<|sR<|sBox hS (.agg (encStage q).toArray) (encStage q).toArray fun e0 _ m1=>sBox m1 (.agg (encRct r).toArray) (encRct r).toArray fun g0 _ b1=>pu1<|zS<|pu1<|zQ<|lA b1 1 0 18 (isAgg38 _) (sizeOf38 _)<|cX call127 (p15_sources q ⟨(RdT.flat (hq.weights.up 3 (by rfl))),(RdT.flat (hq.row.up 3 (by rfl))),(RdT.flat (hq.col.up 3 (by rfl))),(RdT.flat (hq.x.up 3 (by rfl))),(fun z hz=>(hq.xD z hz).of_mem (mem_flat1 3 (by rfl))),(RdT.flat (hq.y.up 3 (by rfl))),(fun z hz=>(hq.yD z hz).of_mem (mem_flat1 3 (by rfl))),(RdT.flat (hq.ops.up 3 (by rfl)))⟩ b1.flat) ?_
 rintro _ _ ⟨c1,j0,d1,e1,rfl,s0,n1⟩
 have o1:=n1.unflat1
 have hn_az_10:=s0.len;have hl_az_10:=s0.le
 have s3:1<=(srcs q.v).length/\(srcs q.v).length<=2:=srcs_len _
 refine pu2<|nT<|blockE ?_
 have q1:=Sat.nilc o1
 refine loopA (γ:=Nat×(List Int)×(Option Addr)×Nat×Nat×Chunk) (fun ⟨i,zs,azs,nzs,kzs,czs⟩=>[(0,Pt b 0),(4,Pt e0 0),(5,Pt g0 0),(16, .slice c1 j0 d1),(17,I (j0:Int)),(18,I (i:Int)),(7, .slice azs nzs kzs)]) (fun ⟨i,zs,azs,nzs,kzs,czs⟩ w=>Sat W w (czs::e1::[(g0, .cells (encRct r).toArray 44 (0,0))]::[(e0, .cells (encStage q).toArray 38 (0,0))]::[(b, .cells (encLayM x).toArray 97 (0,0))]::H::F)/\i<=j0/\(zs=((srcs q.v).take i).flatMap (x.L.srcDeps q.v r))/\OwnT Go.E.encI 3 1 azs nzs kzs zs czs) (fun ⟨i,zs,azs,nzs,kzs,czs⟩=>j0-i) (0,[],none,0,0,[]) ⟨q1,om,by rfl,(OwnT.nil (enc:=Go.E.encI) (E:=3) (sz:=1) fR)⟩ ?_
 rintro ⟨i,zs,azs,nzs,kzs,czs⟩ ρ _ ⟨t0,hi,hE,hOzs⟩
 have hn_zs:=hOzs.len;have hl_zs:=hOzs.le
 refine sR<|pu1<|nT<|seqE<|cD ((i:Int)<(j0:Int)) (fun s1=>?_) (fun s1=>?_)
 rotate_left
 ·refine exitE<|xB<|tN<|sR<|pu2<|zE<|retT [.slice azs nzs kzs] ?_
  have t1:=(t0.drops [1,1,1])
  have hz:zs=x.L.needs q.v r:=by unfold Lay.needs;rw [hE,List.take_of_length_le om]
  exact ⟨_,_,_,_,rfl,by rw [<-hz];exact hOzs,t1⟩
 refine kT<|seqE<|blockE<|sR<|sIdxO s0 (i:Int) i runUnderlying22 sizeOf3 fun b0 _ _ k0 u1 _=>?_
 have hs_x_21:=hsr b0 (List.mem_of_getElem? k0)
 refine sLp t0 (u1.up 1 rfl) 0 (I b0) (isAgg3 _)<|pu1<|zQ<|pu2 ?_
 have v1:=(t0.pick 4 rfl)
 refine cX call100 (p20_inputs (hx.of_mem (mem_flat1 4 (by rfl))) v1.flat1) ?_
 rintro _ _ ⟨rfl,w1⟩
 have h0:=w1.unflat1
 refine pu1<|nT<|cD (b0<(x.jobInputs.n:Int)) (fun l0=>?_) (fun l0=>?_)
 ·refine exitE<|thenK_x<|blockK_x<|tN<|rE<|sAdd (i:Int) 1<|pu1<|nT ?_
  exact ⟨(i+1,zs,azs,nzs,kzs,czs),od,alA,(h0.picks [4,4,4,4]),om,(by rw [take_flat (f:=(x.L.srcDeps q.v r)) k0,<-hE,show (x.L.srcDeps q.v r) b0=[] from by unfold Lay.srcDeps;rw [if_pos (show b0<x.L.ni from l0)],List.append_nil]),hOzs⟩
 refine kT<|seqE ?_
 have hmem:b0∈x.L.od:=hs_x_21.2.2.resolve_left om
 have hr_hmem:(x.jobInputs.n:Int)<=b0/\b0<(x.jobInputs.n:Int)+(x.jobStages.n:Int):=by have h:=hg.rng b0 hmem;simp only [LayM.L,List.length_map] at h;omega
 have hb1:=(List.getElem?_eq_some_iff.1 (hW b0 hmem).1).1;have hb2:=(List.getElem?_eq_some_iff.1 (hW b0 hmem).2).1
 have hfb:=hg.firstb hmem;have hcb:=hg.cntb hmem;have htb:=hg.totb
 obtain ⟨d0,n0,o0,a2,f1,g1⟩:=RdT.elem hx.first b0
 have hf_x_33:x.L.first b0=d0:=Option.some.inj ((hW b0 hmem).1.symm.trans a2)
 obtain ⟨f0,h1,i1,b2,c2,d2⟩:=RdT.elem hx.count b0
 have hf_x_39:x.L.cnt b0=f0:=Option.some.inj ((hW b0 hmem).2.symm.trans b2)
 refine drawE [] [(3,⟨b,8,none⟩, .slice x.first.a x.first.n x.first.k),(6,⟨n0,o0,none⟩,I d0),(10,⟨b,8,none⟩, .slice x.first.a x.first.n x.first.k),(13,⟨n0,o0,none⟩,I d0),(17,⟨b,9,none⟩, .slice x.count.a x.count.n x.count.k),(20,⟨h1,i1,none⟩,I f0)] [(true,[0,1,2,4,7,8,9,11,14,15,16,18]),(true,[3]),(true,[5]),(true,[6]),(true,[22]),(true,[10]),(true,[12]),(true,[13]),(true,[17]),(true,[19]),(true,[20]),(true,[21]),(true,[23])] rfl kr ⟨cI h0 0, .inr ((f1.up 5 rfl).cell h0 (k:=0) rfl),cI h0 0, .inr ((f1.up 5 rfl).cell h0 (k:=0) rfl),cI h0 0, .inr ((c2.up 5 rfl).cell h0 (k:=0) rfl),trivial⟩ ?_
 have u0:=h0.drew
 refine wU [0,1,2,4,7,8,9,11,14,15,16,18]<|wLd (.slice x.first.a x.first.n x.first.k) 0 isAgg22<|wY (.pointer (some ⟨n0,o0,none⟩)) rfl (fun w _=>Y_idx (a:=x.first.a) (i:=b0) (len:=x.first.n) (cap:=x.first.k) rfl runUnderlying22 sizeOf3 kr kr g1)<|wLd (I d0) 1 isAgg3<|wU [22]<|wLd (.slice x.first.a x.first.n x.first.k) 2 isAgg22<|wY (.pointer (some ⟨n0,o0,none⟩)) rfl (fun w _=>Y_idx (a:=x.first.a) (i:=b0) (len:=x.first.n) (cap:=x.first.k) rfl runUnderlying22 sizeOf3 kr kr g1)<|wLd (I d0) 3 isAgg3<|wLd (.slice x.count.a x.count.n x.count.k) 4 isAgg22 ?_
 refine wY (.pointer (some ⟨h1,i1,none⟩)) rfl (fun w _=>Y_idx (a:=x.count.a) (i:=b0) (len:=x.count.n) (cap:=x.count.k) rfl runUnderlying22 sizeOf3 kr kr d2)<|wLd (I f0) 5 isAgg3<|wAdd d0 f0<|wU [23]<|wN<|tN<|blockE<|sR<|pu1<|sL u0 4 3 (.bool q.barrier) (isAgg4 _)<|pu1<|nT<|cB q.barrier (fun p0=>?_) (fun p0=>?_)
 ·have hzl:zs.length<=40000:=by rw [hE];have h:=flat_len2 (s:=q.v) (r:=r) hg ((srcs q.v).take i) (fun y hy=>(hsr y (List.mem_of_mem_take hy)).2.2);have h2:((srcs q.v).take i).length<=2:=(by rw [List.length_take];have:=srcs_len q.v;omega);omega
  refine rE<|pu3 ?_
  have e2:=(u0.pick 1 rfl)
  refine cX call92 (p20_between d0 (d0+f0) hOzs om e2) ?_
  rintro _ _ ⟨f2,g2,i2,j2,rfl,v0,k2⟩
  have hn_az_51:=v0.len;have hl_az_51:=v0.le;simp only [List.length_append,List.length_nil,btw_len] at hn_az_51
  refine pu1<|nilO<|bN<|bN<|tN<|rE<|sAdd (i:Int) 1<|pu1<|nT ?_
  have hdp:(x.L.srcDeps q.v r) b0=btwV d0 (d0+f0):=by unfold Lay.srcDeps btwV;rw [if_neg (show ¬b0<x.L.ni from l0),if_pos (show q.v.barrier=true from p0),hf_x_33,hf_x_39,show (d0+f0-d0)=f0 by omega]
  exact ⟨(i+1,(zs++btwV d0 (d0+f0)),f2,g2,i2,j2),od,alA,(k2.picks [4,4,4,3]),om,(by rw [take_flat (f:=(x.L.srcDeps q.v r)) k0,<-hE,hdp]),v0⟩
 refine sR<|pu2<|cX call60 (p20_stage (hx.of_mem (mem_flat1 4 (by rfl))) b0 om om u0.flat1) ?_
 rintro _ _ ⟨j1,rfl,k1,m2⟩
 have q0:=m2.unflat1
 have hok_q_60:=hx.jobStagesD j1 (List.mem_of_getElem? k1);have hst_q_60:=lay_st k1
 refine pu3<|nT<|cE j1.kind 4 (fun w0=>?_) (fun w0=>?_)
 ·have hzl:zs.length<=40000:=by rw [hE];have h:=flat_len2 (s:=q.v) (r:=r) hg ((srcs q.v).take i) (fun y hy=>(hsr y (List.mem_of_mem_take hy)).2.2);have h2:((srcs q.v).take i).length<=2:=(by rw [List.length_take];have:=srcs_len q.v;omega);omega
  refine rE<|pu2<|sSub (d0+f0) 1<|sBS q0 #[I ((d0+f0)-1)] runUnderlying22 sizeOf3 zeroValue3 fun _ _ n2=>sApp (nb:=8) n2 hOzs 2 (RdT.blk (enc:=Go.E.encI) (sz:=1) (xs:=[((d0+f0)-1)]) fR 1 0 rfl rfl rfl om) underlying22 (i:=Tryz.t3) kr fR fun o2 q2 r2 _ s2 t2=>pu1<|nilO<|bN<|bN<|tN<|rE<|sAdd (i:Int) 1<|pu1<|nT ?_
  have hdp:(x.L.srcDeps q.v r) b0=[d0+f0-1]:=by unfold Lay.srcDeps;rw [if_neg (show ¬b0<x.L.ni from l0),if_neg (show ¬q.v.barrier=true from p0),if_pos (show (x.L.st b0).kind=4 by rw [hst_q_60];exact w0),hf_x_33,hf_x_39]
  exact ⟨(i+1,(zs++[((d0+f0)-1)]),o2,(nzs+1),q2,r2),od,alA,((t2.picks [5,5,5,5]).dropAt 4 rfl),om,(by rw [take_flat (f:=(x.L.srcDeps q.v r)) k0,<-hE,hdp]),s2⟩
 refine sR<|pu3<|sL q0 0 7 (.slice x.shapes.a x.shapes.n x.shapes.k) (isAgg61 _)<|pu1<|sIdx hx.shapes b0 runUnderlying61 sizeOf54 fun a0 _ _ v2 w2=>sLpA q0 (w2.up 5 rfl) 0 [I a0.w,I a0.h,I a0.max_] (isAgg54 _) (sizeOf54 _)<|sAlloc q0 zeroValue54 fun z0 _ x2=>?_
 refine sT x2 0 0 (.agg #[I a0.w,I a0.h,I a0.max_]) [I a0.w,I a0.h,I a0.max_] #[I a0.w,I a0.h,I a0.max_] sizeOf54 fun _ c0=>nT<|seqE ?_
 refine drawE [14] [(0,⟨e0,0,none⟩,I q.kind),(0,⟨e0,1,none⟩,I q.a),(0,⟨e0,2,none⟩,I q.b),(0,⟨e0,3,none⟩, .bool q.barrier),(0,⟨e0,4,none⟩,I q.edgePolicy),(0,⟨e0,5,none⟩,I q.edgeFill),(0,⟨e0,6,none⟩,I q.kW),(0,⟨e0,7,none⟩,I q.kH),(0,⟨e0,8,none⟩, .slice q.weights.a q.weights.n q.weights.k),(0,⟨e0,9,none⟩, .slice q.row.a q.row.n q.row.k),(0,⟨e0,10,none⟩, .slice q.col.a q.col.n q.col.k),(0,⟨e0,11,none⟩,I q.shift),(0,⟨e0,12,none⟩,I q.shift2),(0,⟨e0,13,none⟩, .slice q.x.a q.x.n q.x.k),(0,⟨e0,14,none⟩, .slice q.y.a q.y.n q.y.k),(0,⟨e0,15,none⟩,I q.bins),(0,⟨e0,16,none⟩, .slice q.ops.a q.ops.n q.ops.k),(0,⟨e0,17,none⟩,I q.max_),(2,⟨z0,0,none⟩,I a0.w),(4,⟨z0,1,none⟩,I a0.h),(8,⟨b,4,none⟩,I x.tw),(12,⟨b,5,none⟩,I x.th),(13,⟨g0,0,none⟩,I r.x0),(13,⟨g0,1,none⟩,I r.y0),(13,⟨g0,2,none⟩,I r.x1),(13,⟨g0,3,none⟩,I r.y1)] [(true,[1,3,5,6,7,9,10,11,16]),(true,[0]),(true,[2]),(true,[4]),(true,[8]),(true,[12]),(true,[13]),(false,[14]),(true,[15])] rfl kr ⟨cI c0 5,cI c0 5,cI c0 5,cI c0 5,cI c0 5,cI c0 5,cI c0 5,cI c0 5,cI c0 5,cI c0 5,cI c0 5,cI c0 5,cI c0 5,cI c0 5,cI c0 5,cI c0 5,cI c0 5,cI c0 5,cI c0 0,cI c0 0,cI c0 1,cI c0 1,cI c0 4,cI c0 4,cI c0 4,cI c0 4,trivial⟩ ?_
 have y2:=c0.drew
 refine wU [1,3,5,6,7,9,10,11,16]<|wY (.agg (encStage q).toArray) rfl (fun w hF=>Y_loadF rfl (isAgg38 w) (sizeOf38 w) kr rfl ⟨hF 0 _ _ rfl,hF 1 _ _ rfl,hF 2 _ _ rfl,hF 3 _ _ rfl,hF 4 _ _ rfl,hF 5 _ _ rfl,hF 6 _ _ rfl,hF 7 _ _ rfl,hF 8 _ _ rfl,hF 9 _ _ rfl,hF 10 _ _ rfl,hF 11 _ _ rfl,hF 12 _ _ rfl,hF 13 _ _ rfl,hF 14 _ _ rfl,hF 15 _ _ rfl,hF 16 _ _ rfl,hF 17 _ _ rfl,trivial⟩)<|wLd (I a0.w) 18 isAgg3<|wLd (I a0.h) 19 isAgg3<|wLd (I x.tw) 20 isAgg3<|wLd (I x.th) 21 isAgg3<|wY (.agg (encRct r).toArray) rfl (fun w hF=>Y_loadF rfl (isAgg44 w) (sizeOf44 w) kr rfl ⟨hF 22 _ _ rfl,hF 23 _ _ rfl,hF 24 _ _ rfl,hF 25 _ _ rfl,trivial⟩)<|wO rfl ?_
 refine cX call133 (p16_tiles q a0.w a0.h x.tw x.th r ⟨(RdT.flat (hq.weights.up 6 (by rfl))),(RdT.flat (hq.row.up 6 (by rfl))),(RdT.flat (hq.col.up 6 (by rfl))),(RdT.flat (hq.x.up 6 (by rfl))),(fun z hz=>(hq.xD z hz).of_mem (mem_flat1 6 (by rfl))),(RdT.flat (hq.y.up 6 (by rfl))),(fun z hz=>(hq.yD z hz).of_mem (mem_flat1 6 (by rfl))),(RdT.flat (hq.ops.up 6 (by rfl)))⟩ y2.flat) ?_
 rintro _ _ ⟨z2,m0,a3,b3,rfl,r0,c3⟩
 have d3:=c3.unflat1
 have hn_az_87:=r0.len;have hl_az_87:=r0.le
 refine nilO ⟨dA,?_⟩
 refine wU [15]<|wN ?_
 have hzl:zs.length<=40000:=by rw [hE];have h:=flat_len2 (s:=q.v) (r:=r) hg ((srcs q.v).take i) (fun y hy=>(hsr y (List.mem_of_mem_take hy)).2.2);have h2:((srcs q.v).take i).length<=2:=(by rw [List.length_take];have:=srcs_len q.v;omega);omega
 have htl2:=til_len (s:=q.v) (w:=a0.w) (h:=a0.h) (tw:=x.tw) (th:=x.th) (r:=r);have htn:=(r0).len
 refine tN<|blockE ?_
 have e3:=(d3.pick 3 rfl)
 refine loopA (γ:=Nat×(List Int)×(Option Addr)×Nat×Nat×Chunk) (fun ⟨j,zt,azt,nzt,kzt,czt⟩=>[(0,Pt b 0),(4,Pt e0 0),(5,Pt g0 0),(16, .slice c1 j0 d1),(17,I (j0:Int)),(18,I (i:Int)),(10,I d0),(69, .slice z2 m0 a3),(70,I (m0:Int)),(71,I (j:Int)),(7, .slice azt nzt kzt)]) (fun ⟨j,zt,azt,nzt,kzt,czt⟩ w=>Sat W w (czt::b3::[(z0, .cells #[I a0.w,I a0.h,I a0.max_] 54 (0,0))]::[(b, .cells (encLayM x).toArray 97 (0,0))]::e1::[(g0, .cells (encRct r).toArray 44 (0,0))]::[(e0, .cells (encStage q).toArray 38 (0,0))]::H::F)/\j<=m0/\(zt=zs++((tilesV q.v a0.w a0.h x.tw x.th r).take j).map (d0+·))/\OwnT Go.E.encI 3 1 azt nzt kzt zt czt) (fun ⟨j,zt,azt,nzt,kzt,czt⟩=>m0-j) (0,zs,azs,nzs,kzs,czs) ⟨e3,om,by simp,hOzs⟩ ?_
 rintro ⟨j,zt,azt,nzt,kzt,czt⟩ ρ _ ⟨a1,hj,hE2,hOzt⟩
 have hn_zt:=hOzt.len;have hl_zt:=hOzt.le
 refine sR<|pu1<|nT<|seqE<|cD ((j:Int)<(m0:Int)) (fun f3=>?_) (fun f3=>?_)
 rotate_left
 ·refine exitE<|xB<|bN<|bN<|tN<|rE<|sAdd (i:Int) 1<|pu1<|nT ?_
  have hdp:(x.L.srcDeps q.v r) b0=(tilesV q.v a0.w a0.h x.tw x.th r).map (d0+·):=by unfold Lay.srcDeps;rw [if_neg (show ¬b0<x.L.ni from l0),if_neg (show ¬q.v.barrier=true from p0),if_neg (show ¬(x.L.st b0).kind=4 by rw [hst_q_60];exact w0),hf_x_33,show shpAt x.L.sh b0=a0 from shp_at' v2];rfl
  exact ⟨(i+1,zt,azt,nzt,kzt,czt),od,alA,((a1.picks [6,6,6,3]).drops [4,4]),om,(by rw [take_flat (f:=(x.L.srcDeps q.v r)) k0,<-hE,hdp,hE2,List.take_of_length_le om]),hOzt⟩
 refine kT<|seqE<|blockE<|sR<|sIdxO r0 (j:Int) j runUnderlying22 sizeOf3 fun i0 _ _ l1 h3 _=>sLp a1 (h3.up 1 rfl) 0 (I i0) (isAgg3 _)<|pu1<|nT ?_
 have hzt:zt.length<=zs.length+j:=by rw [hE2];simp;omega
 have hty:0<=i0/\i0<16384:=by have h:=mem_upto.1 (List.mem_filter.1 (List.mem_of_getElem? (show (tilesV q.v a0.w a0.h x.tw x.th r)[j]?=some i0 from l1))).1;have:=til_b a0.w a0.h x.tw x.th;omega
 exact rE<|pu3<|sAdd d0 i0<|sBS a1 #[I (d0+i0)] runUnderlying22 sizeOf3 zeroValue3 fun _ _ i3=>sApp (nb:=8) i3 hOzt 1 (RdT.blk (enc:=Go.E.encI) (sz:=1) (xs:=[(d0+i0)]) fR 1 0 rfl rfl rfl om) underlying22 (i:=Tryz.t3) kr fR fun j3 k3 l3 _ m3 n3=>pu1<|nB<|rE<|sAdd (j:Int) 1<|pu1<|nT<|⟨(j+1,(zt++[(d0+i0)]),j3,(nzt+1),k3,l3),od,alA,(n3.dropAt 0 rfl),om,(by rw [take_succ_at l1,List.map_append,<-List.append_assoc,<-hE2];rfl),m3⟩
end Go.Proofs.YtdingplbadblpaaGreat

namespace Go.Proofs.YtdingplbadblpaaGreat
open Go.Shelf
def Tryz.laySort_ren:Go.Shelf.Ren:=⟨fun|53=>134|64=>164|63=>163|78=>196|79=>197|70=>187|71=>188|72=>189|73=>190|74=>191|75=>192|59=>193|76=>194|77=>195|88=>215|89=>216|90=>217|91=>218|92=>219|68=>220|96=>226|n=>n,fun|22=>22|23=>3|3=>3|51=>160|0=>0|67=>201|69=>159|4=>4|61=>196|60=>195|44=>113|5=>5|9=>9|75=>215|79=>219|83=>223|84=>105|n=>n,fun|n=>n⟩
theorem Tryz.laySort:Go.Proofs.SlLaysN.n53 Tryz.prog Tryz.laySort_ren:={
  mixed:=by kernel_rfl
  f53:=⟨Tryz.f134.name,by decide,Tryz.func134.trans (congrArg some (by kernel_rfl))⟩
  f59:=⟨Tryz.f193.name,by decide,Tryz.func193.trans (congrArg some (by kernel_rfl))⟩
  f63:=⟨Tryz.f163.name,by decide,Tryz.func163.trans (congrArg some (by kernel_rfl))⟩
  f64:=Tryz.func164.trans (congrArg some (by kernel_rfl))
  f68:=⟨Tryz.f220.name,by decide,Tryz.func220.trans (congrArg some (by kernel_rfl))⟩
  f70:=⟨Tryz.f187.name,by decide,Tryz.func187.trans (congrArg some (by kernel_rfl))⟩
  f71:=⟨Tryz.f188.name,by decide,Tryz.func188.trans (congrArg some (by kernel_rfl))⟩
  f72:=⟨Tryz.f189.name,by decide,Tryz.func189.trans (congrArg some (by kernel_rfl))⟩
  f73:=⟨Tryz.f190.name,by decide,Tryz.func190.trans (congrArg some (by kernel_rfl))⟩
  f74:=⟨Tryz.f191.name,by decide,Tryz.func191.trans (congrArg some (by kernel_rfl))⟩
  f75:=⟨Tryz.f192.name,by decide,Tryz.func192.trans (congrArg some (by kernel_rfl))⟩
  f76:=⟨Tryz.f194.name,by decide,Tryz.func194.trans (congrArg some (by kernel_rfl))⟩
  f77:=⟨Tryz.f195.name,by decide,Tryz.func195.trans (congrArg some (by kernel_rfl))⟩
  f78:=Tryz.func196.trans (congrArg some (by kernel_rfl))
  f79:=Tryz.func197.trans (congrArg some (by kernel_rfl))
  f88:=⟨Tryz.f215.name,by decide,Tryz.func215.trans (congrArg some (by kernel_rfl))⟩
  f89:=Tryz.func216.trans (congrArg some (by kernel_rfl))
  f90:=Tryz.func217.trans (congrArg some (by kernel_rfl))
  f91:=⟨Tryz.f218.name,by decide,Tryz.func218.trans (congrArg some (by kernel_rfl))⟩
  f92:=⟨Tryz.f219.name,by decide,Tryz.func219.trans (congrArg some (by kernel_rfl))⟩
  f96:=⟨Tryz.f226.name,by decide,Tryz.func226.trans (congrArg some (by kernel_rfl))⟩
  t0:=Tryz.underlying0
  a0:=Tryz.isAgg0
  z0:=Tryz.sizeOf0
  v0:=Tryz.zeroValue0
  t3:=Tryz.underlying3
  a3:=Tryz.isAgg3
  z3:=Tryz.sizeOf3
  v3:=Tryz.zeroValue3
  t4:=Tryz.underlying4
  a4:=Tryz.isAgg4
  z4:=Tryz.sizeOf4
  v4:=Tryz.zeroValue4
  t5:=Tryz.underlying5
  a5:=Tryz.isAgg5
  z5:=Tryz.sizeOf5
  v5:=Tryz.zeroValue5
  t9:=Tryz.underlying9
  a9:=Tryz.isAgg9
  z9:=Tryz.sizeOf9
  v9:=Tryz.zeroValue9
  t22:=Tryz.underlying22
  a22:=Tryz.isAgg22
  z22:=Tryz.sizeOf22
  v22:=Tryz.zeroValue22
  t23:=Tryz.underlying3
  a23:=Tryz.isAgg3
  z23:=Tryz.sizeOf3
  v23:=Tryz.zeroValue3
  t44:=Tryz.underlying113
  a44:=Tryz.isAgg113
  z44:=Tryz.sizeOf113
  v44:=Tryz.zeroValue113
  t51:=Tryz.underlying160
  a51:=Tryz.isAgg160
  z51:=Tryz.sizeOf160
  v51:=Tryz.zeroValue160
  t60:=Tryz.underlying195
  a60:=Tryz.isAgg195
  z60:=Tryz.sizeOf195
  v60:=Tryz.zeroValue195
  t61:=Tryz.underlying196
  a61:=Tryz.isAgg196
  z61:=Tryz.sizeOf196
  v61:=Tryz.zeroValue196
  t67:=Tryz.underlying201
  a67:=Tryz.isAgg201
  z67:=Tryz.sizeOf201
  v67:=Tryz.zeroValue201
  t69:=Tryz.underlying159
  a69:=Tryz.isAgg159
  z69:=Tryz.sizeOf159
  v69:=Tryz.zeroValue159
  t75:=Tryz.underlying215
  a75:=Tryz.isAgg215
  z75:=Tryz.sizeOf215
  v75:=Tryz.zeroValue215
  t79:=Tryz.underlying219
  a79:=Tryz.isAgg219
  z79:=Tryz.sizeOf219
  v79:=Tryz.zeroValue219
  t83:=Tryz.underlying223
  a83:=Tryz.isAgg223
  z83:=Tryz.sizeOf223
  v83:=Tryz.zeroValue223
  t84:=Tryz.underlying105
  a84:=Tryz.isAgg105
  z84:=Tryz.sizeOf105
  v84:=Tryz.zeroValue105}
def Tryz.layComp_ren:Go.Shelf.Ren:=⟨fun|43=>135|n=>n,fun|22=>22|23=>3|3=>3|4=>4|0=>0|n=>n,fun|n=>n⟩
theorem Tryz.layComp:Go.Proofs.SlLaysN.n43 Tryz.prog Tryz.layComp_ren:={
  mixed:=by kernel_rfl
  f43:=⟨Tryz.f135.name,by decide,Tryz.func135.trans (congrArg some (by kernel_rfl))⟩
  t0:=Tryz.underlying0
  a0:=Tryz.isAgg0
  z0:=Tryz.sizeOf0
  v0:=Tryz.zeroValue0
  t3:=Tryz.underlying3
  a3:=Tryz.isAgg3
  z3:=Tryz.sizeOf3
  v3:=Tryz.zeroValue3
  t4:=Tryz.underlying4
  a4:=Tryz.isAgg4
  z4:=Tryz.sizeOf4
  v4:=Tryz.zeroValue4
  t22:=Tryz.underlying22
  a22:=Tryz.isAgg22
  z22:=Tryz.sizeOf22
  v22:=Tryz.zeroValue22
  t23:=Tryz.underlying3
  a23:=Tryz.isAgg3
  z23:=Tryz.sizeOf3
  v23:=Tryz.zeroValue3
  i23:=by kernel_rfl}
end Go.Proofs.YtdingplbadblpaaGreat
