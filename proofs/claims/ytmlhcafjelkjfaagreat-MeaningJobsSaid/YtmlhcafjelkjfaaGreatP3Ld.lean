import Derived.Test.YtmlhcafjelkjfaaGreatP3Ab
import Derived.WalkKit
import Derived.Deep.Quiet
import Derived.KernelRfl
import Derived.Laws.BytesString
import Derived.Laws.Shifts
import Derived.Laws.IdiomStrings
import Derived.Test.YtmlhcafjelkjfaaGreatProg
import Derived.Test.YtmlhcafjelkjfaaGreatP3Tq
import Derived.Test.YtmlhcafjelkjfaaGreatP3Good
namespace Go.Proofs.YtmlhcafjelkjfaaGreat
open Go Go.E Go.Proofs.Tryz
set_option linter.all false
set_option maxRecDepth 100000
set_option maxHeartbeats 2000000
variable {W w:World} {H:Chunk} {F:List Chunk}
def BefG (ni:Int) (D:List (List Int)) (out:List Int):Prop:=∀pre x post,out=pre++x::post->∀s,D[(x-ni).toNat]?=some s->∀y∈s,y<ni\/y∈pre
theorem BefG.nil {ni:Int} {D:List (List Int)}:BefG ni D []:=by
  intro pre x post h;cases pre<;>simp at h
theorem BefG.add {ni:Int} {D:List (List Int)} {out:List Int} {k:Nat} (h:BefG ni D out) (hc:canG ni D out k):BefG ni D (out++[ni+(k:Int)]):=by
 intro pre x post e s hs y hy
 rcases List.append_eq_append_iff.1 e with ⟨z,h1,h2⟩|⟨z,h1,h2⟩
 ·cases z with
  |nil=>
   simp at h1 h2
   obtain ⟨s2,hs2,_,h4⟩:=hc
   rw [<-h2.1,show (ni+(k:Int)-ni).toNat=k by omega,hs2] at hs
   obtain rfl:=Option.some.inj hs
   rw [h1];exact h4 y hy
  |cons a z=>simp at h2
 ·cases z with
  |nil=>
   simp at h1 h2
   obtain ⟨s2,hs2,_,h4⟩:=hc
   rw [h2.1,show (ni+(k:Int)-ni).toNat=k by omega,hs2] at hs
   obtain rfl:=Option.some.inj hs
   rw [<-h1];exact h4 y hy
  |cons a z=>
   simp at h2
   obtain ⟨rfl,h3⟩:=h2
   exact h pre x z h1 s hs y hy
theorem list_bef {ni:Int} (hni:0<=ni) {D:List (List Int)}:∀(k:Nat) {out:List Int},BefG ni D out->BefG ni D (listG ni D k out)
  |0,out,h=>h
  |k+1,out,h=>by
    unfold listG
    rcases pick0 hni (out:=out) (D:=D) with h1|⟨m,h1,h2,_⟩
    · rw [if_pos h1.1];exact h
    · rw [if_neg (by omega),h1]
      exact list_bef hni k (h.add h2)
theorem OutG.every {ni:Int} {D:List (List Int)} {out:List Int} (h:OutG ni D out) (hl:out.length=D.length) {x:Int} (h1:ni<=x) (h2:x<ni+(D.length:Int)):x∈out:=by
  by_cases hx:x∈out
  · exact hx
  · exfalso
    have h3:OutG ni D (x::out):=⟨fun y hy=>by
      rcases List.mem_cons.1 hy with e|hy
      · rw [e];exact ⟨h1,h2⟩
      · exact h.r y hy,List.nodup_cons.2 ⟨hx,h.d⟩⟩
    have:=h3.len
    rw [List.length_cons] at this;omega
theorem stg_at {ss:List StageV} {ni:Int} {x:Int} {s:StageV} (h:ss[(x-ni).toNat]?=some s):stgAt ss ni x=s:=by unfold stgAt;rw [h];rfl
theorem a_src (s:StageV):s.a∈srcs s:=by unfold srcs;split<;>simp
theorem b_src {s:StageV} (h:twoP s):s.b∈srcs s:=by unfold srcs;rw [if_pos h];simp
def FitP (ni:Int) (ss:List StageV) (sh:List Shape) (x:Int):Prop:=shpStep ni ss x sh=(shpAt sh x,0)
theorem shpAt_set {sh:List Shape} {n y:Int} {v:Shape} (h:n.toNat≠y.toNat):shpAt (sh.set n.toNat v) y=shpAt sh y:=by
  unfold shpAt;rw [List.getElem?_set,if_neg h]
theorem shpStep_congr {ni n:Int} {ss:List StageV} {sh sh':List Shape} (h:∀y∈srcs (stgAt ss ni n),shpAt sh' y=shpAt sh y):shpStep ni ss n sh'=shpStep ni ss n sh:=by
  unfold shpStep
  rw [h _ (a_src _)]
  split
  · rename_i ht;rw [h _ (b_src ht)]
  · rfl
theorem shpStep_sz {ni n:Int} {ss:List StageV} {sh:List Shape} (h:(shpStep ni ss n sh).2=0):szP (shpStep ni ss n sh).1:=ofV_sz h
theorem shpGo_ok {ni:Int} {ss:List StageV}:∀(l pre:List Int) (out:List Shape),(pre++l).Nodup->(∀x∈pre++l,ni<=x/\x<out.length)->0<=ni->
  (∀p x q,pre++l=p++x::q->∀y∈srcs (stgAt ss ni x),0<=y/\(y<ni\/y∈p))->(∀x∈pre,szP (shpAt out x)/\FitP ni ss out x)->(shpGo ni ss l out).2.2=0->
  (shpGo ni ss l out).1.length=out.length/\(∀x∈pre++l,szP (shpAt (shpGo ni ss l out).1 x)/\FitP ni ss (shpGo ni ss l out).1 x)/\∀x,0<=x->x<ni->shpAt (shpGo ni ss l out).1 x=shpAt out x
 |[],pre,out,_,_,_,_,hp,_=>⟨rfl,by simpa [shpGo] using hp,fun _ _ _=>rfl⟩
 |n::l,pre,out,hd,hr,hn,hb,hp,h=>by
  unfold shpGo at h⊢
  split at h
  ·rename_i hs
   rw [if_pos hs]
   have hrn:=hr n (by simp)
   have hnd:n∉pre:=by
    intro hm
    have:=(List.nodup_append.1 hd).2.2 n hm n (by simp)
    exact this rfl
   have hk:∀y:Int,0<=y->(y<ni\/y∈pre)->shpAt (out.set n.toNat (shpStep ni ss n out).1) y=shpAt out y:=by
    intro y h0 hy
    refine shpAt_set ?_
    rcases hy with hy|hy
    ·omega
    ·have:=hr y (by simp [hy])
     have:y≠n:=fun e=>hnd (e▸hy)
     omega
   have hself:shpAt (out.set n.toNat (shpStep ni ss n out).1) n=(shpStep ni ss n out).1:=by
    unfold shpAt;rw [List.getElem?_set,if_pos rfl,if_pos om];rfl
   have e:pre++[n]++l=pre++n::l:=by simp
   have ih:=shpGo_ok (ni:=ni) (ss:=ss) l (pre++[n]) (out.set n.toNat (shpStep ni ss n out).1) (by rw [e];exact hd) (by rw [e,List.length_set];exact hr) hn (by rw [e];exact hb) (by
    intro x hx
    rcases List.mem_append.1 hx with hx|hx
    ·have h1:=hp x hx
     have hx0:=hr x (by simp [hx])
     obtain ⟨p,q,hpq⟩:=List.append_of_mem hx
     have hsrc:=hb p x (q++n::l) (by rw [hpq];simp)
     refine ⟨by rw [hk x om (.inr hx)];exact h1.1,?_⟩
     unfold FitP
     rw [hk x om (.inr hx),shpStep_congr (sh:=out) (fun y hy=>by
      have:=hsrc y hy
      exact hk y this.1 (this.2.imp id (fun h=>by rw [hpq];simp [h])))]
     exact h1.2
    ·simp only [List.mem_singleton] at hx
     subst hx
     have hsrc:=hb pre x l rfl
     refine ⟨by rw [hself];exact shpStep_sz hs,?_⟩
     unfold FitP
     rw [hself,shpStep_congr (sh:=out) (fun y hy=>hk y (hsrc y hy).1 (hsrc y hy).2)]
     exact Prod.ext rfl hs) h
   rw [e,List.length_set] at ih
   exact ⟨ih.1,ih.2.1,fun x h0 hx=>by rw [ih.2.2 x h0 hx];exact hk x h0 (.inl hx)⟩
  ·rename_i hs;exact absurd h hs
structure ShpOK (j:JobV):Prop where
  ch:chkCode j=0
  od:(ordV j).2=0
  nn:1<=j.inputs.length/\1<=j.stages.length/\j.inputs.length+j.stages.length<=16
  rng:∀x∈(ordV j).1,(j.inputs.length:Int)<=x/\x<(j.inputs.length:Int)+j.stages.length
  nd:(ordV j).1.Nodup
  ln:(ordV j).1.length=j.stages.length
  every:∀x:Int,(j.inputs.length:Int)<=x->x<(j.inputs.length:Int)+j.stages.length->x∈(ordV j).1
  bef:∀p x q,(ordV j).1=p++x::q->∀y∈srcs (stgAt j.stages j.inputs.length x),0<=y/\(y<(j.inputs.length:Int)\/y∈p)
  len:(shpV j).1.length=j.inputs.length+j.stages.length
  sz:∀x:Int,0<=x->x<(j.inputs.length:Int)+j.stages.length->szP (shpAt (shpV j).1 x)
  fit:∀x∈(ordV j).1,FitP j.inputs.length j.stages (shpV j).1 x
theorem shp_ok {j:JobV} (h:(shpV j).2.2=0):ShpOK j:=by
 unfold shpV at h
 split at h
 ·rename_i ho
  split at h
  ·rename_i hp
   have hc:=ordV_chk ho
   have hl:=ord_list hc
   have hn:=chk_len hc
   have heq:(ordV j).1=listV j/\(listV j).length=j.stages.length:=by
    have h1:=hl.1
    split at h1
    ·rw [h1] at ho;simp at ho
    ·rename_i h2
     have h3:=hl.2.len
     rw [List.length_map] at h3
     exact ⟨by rw [h1],om⟩
   have hout:OutG j.inputs.length (j.stages.map srcs) (ordV j).1:=by rw [heq.1];exact hl.2
   have hrng:=hout.r
   rw [List.length_map] at hrng
   have hbef:BefG j.inputs.length (j.stages.map srcs) (ordV j).1:=by rw [heq.1];exact list_bef om _ BefG.nil
   have hstg:∀x:Int,(j.inputs.length:Int)<=x->x<(j.inputs.length:Int)+j.stages.length->∃s,j.stages[(x-(j.inputs.length:Int)).toNat]?=some s/\stgAt j.stages j.inputs.length x=s:=by
    intro x h1 h2
    have hlt:(x-(j.inputs.length:Int)).toNat<j.stages.length:=by omega
    exact ⟨_,List.getElem?_eq_getElem hlt,stg_at (List.getElem?_eq_getElem hlt)⟩
   have hbef2:∀p x q,(ordV j).1=p++x::q->∀y∈srcs (stgAt j.stages j.inputs.length x),0<=y/\(y<(j.inputs.length:Int)\/y∈p):=by
    intro p x q e y hy
    have hx:=hrng x (by rw [e];simp)
    obtain ⟨s,hs,he⟩:=hstg x hx.1 hx.2
    rw [he] at hy
    refine ⟨(chk_srcs hc (s:=s) (List.mem_of_getElem? hs) y hy).1,?_⟩
    exact hbef p x q e (srcs s) (by rw [List.getElem?_map,hs];rfl) y hy
   have hlen0:(j.inputs.map shpOf++List.replicate j.stages.length (⟨0,0,0⟩:Shape)).length=j.inputs.length+j.stages.length:=by simp
   have hgo:=shpGo_ok (ni:=j.inputs.length) (ss:=j.stages) (ordV j).1 [] (j.inputs.map shpOf++List.replicate j.stages.length ⟨0,0,0⟩) (by simpa using hout.d) (by rw [hlen0];intro x hx;have:=hrng x (by simpa using hx);omega) om (by simpa using hbef2) (by intro x hx;cases hx) h
   have hsh:(shpV j).1=(shpGo j.inputs.length j.stages (ordV j).1 (j.inputs.map shpOf++List.replicate j.stages.length ⟨0,0,0⟩)).1:=by
    unfold shpV;rw [if_pos ho,if_pos hp]
   rw [<-hsh,hlen0] at hgo
   have hev:∀x:Int,(j.inputs.length:Int)<=x->x<(j.inputs.length:Int)+j.stages.length->x∈(ordV j).1:=fun x h1 h2=>hout.every (by rw [List.length_map,heq.1];exact heq.2) h1 (by rw [List.length_map];exact h2)
   refine ⟨hc,ho,hn,hrng,hout.d,by rw [heq.1];exact heq.2,hev,hbef2,hgo.1,?_,fun x hx=>(hgo.2.1 x (by simpa using hx)).2⟩
   intro x h0 hx
   by_cases hi:x<(j.inputs.length:Int)
   ·rw [hgo.2.2 x h0 hi]
    have hlt:x.toNat<j.inputs.length:=by omega
    have hpl:=List.all_eq_true.1 hp (j.inputs[x.toNat]) (List.getElem_mem _)
    unfold shpAt
    rw [List.getElem?_append_left (by simp;omega),List.getElem?_map,List.getElem?_eq_getElem hlt]
    unfold planeOK at hpl
    simp only [Bool.and_eq_true,decide_eq_true_eq] at hpl
    have:=hpl.1.1
    unfold sizeP at this
    show szP (shpOf _)
    unfold szP shpOf
    dsimp only
    omega
   ·exact (hgo.2.1 x (by simpa using hev x om hx)).1
  ·simp at h
 ·rename_i ho;exact absurd h ho
structure LayG (L:Lay):Prop where
  ni:1<=L.ni/\L.ni+(L.ss.length:Int)<=16
  rng:∀x∈L.od,L.ni<=x/\x<L.ni+(L.ss.length:Int)
  every:∀x:Int,L.ni<=x->x<L.ni+(L.ss.length:Int)->x∈L.od
  nd:L.od.Nodup
  ln:L.od.length=L.ss.length
  bef:∀p x q,L.od=p++x::q->∀y∈srcs (L.st x),0<=y/\(y<L.ni\/y∈p)
  len:(L.sh.length:Int)=L.ni+(L.ss.length:Int)
  sz:∀x:Int,0<=x->x<L.ni+(L.ss.length:Int)->szP (shpAt L.sh x)
  fit:∀x∈L.od,FitP L.ni L.ss L.sh x
  tl:tileP L.tw L.th
section
variable {L:Lay} (g:LayG L)
include g
theorem LayG.byt {x:Int} (hx:x∈L.od):bytOK (L.st x):=by
  have h:=g.fit x hx
  unfold FitP shpStep at h
  exact of_bytOK (congrArg Prod.snd h)
end
theorem take_split {l:List Int} {i:Nat} {x:Int} (h:l[i]?=some x):l=l.take i++x::l.drop (i+1):=by
  obtain ⟨hl,e⟩:=List.getElem?_eq_some_iff.1 h
  conv=>lhs;rw [<-List.take_append_drop i l,List.drop_eq_getElem_cons hl,e]
def plAt (l:List PlaneV) (i:Int):PlaneV:=l[i.toNat]?.getD zPl
def srcB (s:StageV) (l:List PlaneV):PlaneV:=if twoP s then plAt l s.b else zPl
def meanS (ni:Int) (ss:List StageV) (n:Int) (out:List PlaneV):PlaneV×Int:=stgT (stgAt ss ni n) (plAt out (stgAt ss ni n).a) (srcB (stgAt ss ni n) out)
def meanG (ni:Int) (ss:List StageV) (l:List Int) (out:List PlaneV):List PlaneV:=l.foldl (fun out n=>out.set n.toNat (meanS ni ss n out).1) out
def meanI (j:JobV):List PlaneV:=j.inputs++List.replicate j.stages.length zPl
def meanV (j:JobV):List PlaneV:=if (shpV j).2.2=0 then meanG j.inputs.length j.stages (ordV j).1 (meanI j) else []
theorem meanG_succ {ni:Int} {ss:List StageV} {l:List Int} {out:List PlaneV} {i:Nat} {n:Int} (h:l[i]?=some n):meanG ni ss (l.take (i+1)) out=(meanG ni ss (l.take i) out).set n.toNat (meanS ni ss n (meanG ni ss (l.take i) out)).1:=by
  unfold meanG;rw [List.take_add_one,h,Option.toList_some,List.foldl_append];rfl
theorem shpGo_keep {ni:Int} {ss:List StageV} {x:Int} (h0:0<=x):∀(l:List Int) (out:List Shape),(∀n∈l,0<=n/\n≠x)->(shpGo ni ss l out).2.2=0->shpAt (shpGo ni ss l out).1 x=shpAt out x
  |[],out,_,_=>rfl
  |n::l,out,h,hz=>by
    unfold shpGo at hz⊢
    split at hz
    · rename_i hs
      rw [if_pos hs,shpGo_keep h0 l _ (fun m hm=>h m (by simp [hm])) hz]
      have hn:=h n (by simp)
      unfold shpAt
      rw [List.getElem?_set_ne (by omega)]
    · rename_i hs;exact absurd hz hs
theorem shp_in {j:JobV} (h:(shpV j).2.2=0) {i:Nat} {p:PlaneV} (hp:j.inputs[i]?=some p):planeOK p=true/\shpAt (shpV j).1 i=shpOf p:=by
  have ho:=shp_ok h
  have hi:i<j.inputs.length:=(List.getElem?_eq_some_iff.1 hp).1
  unfold shpV at h⊢
  rw [if_pos ho.od] at h⊢
  split at h
  · rename_i ha
    rw [if_pos ha,shpGo_keep (by omega) _ _ (fun n hn=>by have:=ho.rng n hn;omega) h]
    refine ⟨List.all_eq_true.1 ha p (List.mem_of_getElem? hp),?_⟩
    unfold shpAt
    rw [List.getElem?_append_left (by rw [List.length_map];omega),List.getElem?_map,show (i:Int).toNat=i by omega,hp];rfl
  · simp at h
structure MI (j:JobV) (i:Nat) (out:List PlaneV):Prop where
  len:out.length=j.inputs.length+j.stages.length
  ok:∀n:Int,0<=n->(n<(j.inputs.length:Int)\/n∈(ordV j).1.take i)->planeOK (plAt out n)=true/\shpOf (plAt out n)=shpAt (shpV j).1 n
theorem MI.start {j:JobV} (h:(shpV j).2.2=0):MI j 0 (meanI j):=by
  refine ⟨by simp [meanI],fun n h0 hn=>?_⟩
  rcases hn with hn|hn
  · have hg:j.inputs[n.toNat]?=some (j.inputs[n.toNat]'(by omega)):=List.getElem?_eq_getElem (by omega)
    have e:plAt (meanI j) n=j.inputs[n.toNat]'(by omega):=by unfold plAt meanI;rw [List.getElem?_append_left (by omega),hg];rfl
    have hs:=shp_in h hg
    rw [e]
    exact ⟨hs.1,by rw [<-hs.2,show (n.toNat:Int)=n by omega]⟩
  · simp at hn
theorem MI.step {j:JobV} {i:Nat} {out:List PlaneV} {n:Int} (h:(shpV j).2.2=0) (m:MI j i out) (hn:(ordV j).1[i]?=some n):
  (meanS j.inputs.length j.stages n out).2=0/\planeOK (meanS j.inputs.length j.stages n out).1=true/\MI j (i+1) (out.set n.toNat (meanS j.inputs.length j.stages n out).1):=by
 have ho:=shp_ok h
 have hm:=List.mem_of_getElem? hn
 have hr:=ho.rng n hm
 have hsp:=take_split hn
 have hb:=ho.bef _ _ _ hsp
 have hf:=ho.fit n hm
 unfold FitP shpStep at hf
 have ha:=hb (stgAt j.stages j.inputs.length n).a (a_src _)
 have hpa:=m.ok _ ha.1 ha.2
 have hq:(twoP (stgAt j.stages j.inputs.length n)->planeOK (srcB (stgAt j.stages j.inputs.length n) out)=true)/\shpOf (srcB (stgAt j.stages j.inputs.length n) out)=(if twoP (stgAt j.stages j.inputs.length n) then shpAt (shpV j).1 (stgAt j.stages j.inputs.length n).b else ⟨0,0,0⟩):=by
  unfold srcB
  by_cases ht:twoP (stgAt j.stages j.inputs.length n)
  ·have hbb:=hb (stgAt j.stages j.inputs.length n).b (by unfold srcs;rw [if_pos ht];simp)
   have hpb:=m.ok _ hbb.1 hbb.2
   rw [if_pos ht,if_pos ht]
   exact ⟨fun _=>hpb.1,hpb.2⟩
  ·rw [if_neg ht,if_neg ht]
   exact ⟨fun h=>absurd h ht,rfl⟩
 rw [<-hpa.2,<-hq.2] at hf
 have hs:=stg_ok hpa.1 hq.1 (by rw [hf])
 rw [hf] at hs
 refine ⟨hs.1,hs.2.1,⟨by rw [List.length_set];exact m.len,fun k h0 hk=>?_⟩⟩
 have hl:=m.len
 by_cases e:k=n
 ·subst e
  have e2:plAt (out.set k.toNat (meanS j.inputs.length j.stages k out).1) k=(meanS j.inputs.length j.stages k out).1:=by unfold plAt;rw [List.getElem?_set,if_pos rfl,if_pos om];rfl
  rw [e2];exact hs.2
 ·have e2:plAt (out.set n.toNat (meanS j.inputs.length j.stages n out).1) k=plAt out k:=by unfold plAt;rw [List.getElem?_set_ne om]
  rw [e2]
  refine m.ok k h0 ?_
  rcases hk with hk|hk
  ·exact .inl hk
  ·rw [List.take_add_one,hn,Option.toList_some] at hk
   rcases List.mem_append.1 hk with hk|hk
   ·exact .inr hk
   ·exact absurd (List.mem_singleton.1 hk) e
theorem mean_at {j:JobV} (h:(shpV j).2.2=0):∀i:Nat,i<=(ordV j).1.length->MI j i (meanG j.inputs.length j.stages ((ordV j).1.take i) (meanI j))
  |0,_=>MI.start h
  |i+1,hi=>by
    have hn:(ordV j).1[i]?=some ((ordV j).1[i]'(by omega)):=List.getElem?_eq_getElem (by omega)
    rw [meanG_succ hn]
    exact ((mean_at h i (by omega)).step h hn).2.2
theorem mean_ok {j:JobV} (h:(shpV j).2.2=0):(meanV j).length=j.inputs.length+j.stages.length/\∀n:Int,0<=n->n<(j.inputs.length:Int)+j.stages.length->planeOK (plAt (meanV j) n)=true/\shpOf (plAt (meanV j) n)=shpAt (shpV j).1 n:=by
  have ho:=shp_ok h
  have hm:=mean_at h (ordV j).1.length (Nat.le_refl _)
  rw [List.take_of_length_le (Nat.le_refl _)] at hm
  have e:meanV j=meanG j.inputs.length j.stages (ordV j).1 (meanI j):=if_pos h
  rw [e]
  refine ⟨hm.len,fun n h0 h1=>hm.ok n h0 ?_⟩
  by_cases hn:n<(j.inputs.length:Int)
  · exact .inl hn
  · rw [List.take_of_length_le (Nat.le_refl _)];exact .inr (ho.every n (by omega) h1)
def outV (j:JobV):List PlaneV:=if (shpV j).2.2=0 then j.outputs.map (plAt (meanV j)) else []
def kerT (s:StageV) (p q:PlaneV) (r:Rct):PlaneV×Int:=
  if s.kind=1 then convT p s.edgePolicy s.edgeFill s.kW s.kH s.weights s.shift s.max_ r
  else if s.kind=2 then sepT p s.edgePolicy s.edgeFill s.row s.col s.shift s.shift2 s.max_ r
  else if s.kind=3 then resT p s.edgePolicy s.edgeFill s.x s.y s.shift s.shift2 s.max_ r
  else pwT p q (decide (twoP s)) s.ops s.max_ r
def mrgN (l:List (List Int)):Int:=((l[0]?.getD []).length:Int)
def inR2 (r:Rct) (x y:Int):Prop:=(r.x0<=x/\x<r.x1)/\r.y0<=y/\y<r.y1
instance (r:Rct) (x y:Int):Decidable (inR2 r x y):=by unfold inR2;infer_instance
def putL (own:PlaneV) (r:Rct) (pix:List Int):List Int:=gridN own.w (fun x y=>if inR2 r x y then pix.getD ((y-r.y0)*(r.x1-r.x0)+(x-r.x0)).toNat 0 else pixAt own x y) own.pix.length
theorem put_len (own:PlaneV) (r:Rct) (pix:List Int):(putL own r pix).length=own.pix.length:=grid_len _ _ _
theorem pixAt_grid {w h mx:Int} {f:Int->Int->Int} {n:Nat} (hn:(n:Int)=w*h) {x y:Int} (hx:0<=x/\x<w) (hy:0<=y/\y<h):pixAt ⟨w,h,mx,gridN w f n⟩ x y=f x y:=by
  have h1:=grid_ix (nx:=w) (i:=y) (j:=x) hx
  have h2:y*w+x<w*h:=by
    have:=Int.mul_le_mul_of_nonneg_right (show y+1<=h by omega) (show 0<=w by omega)
    rw [Int.add_mul,Int.one_mul,Int.mul_comm h] at this
    omega
  have h0:0<=y*w:=Int.mul_nonneg hy.1 (by omega)
  unfold pixAt
  dsimp only
  rw [List.getD_eq_getElem?_getD,grid_at (by omega),show (((y*w+x).toNat:Nat):Int)=y*w+x by omega,h1.1,h1.2];rfl
theorem put_at {own:PlaneV} {r:Rct} {pix:List Int} (hl:(own.pix.length:Int)=own.w*own.h) {x y:Int} (hx:0<=x/\x<own.w) (hy:0<=y/\y<own.h):
    pixAt ⟨own.w,own.h,own.max_,putL own r pix⟩ x y=if inR2 r x y then pix.getD ((y-r.y0)*(r.x1-r.x0)+(x-r.x0)).toNat 0 else pixAt own x y:=pixAt_grid hl hx hy
def tixV (nx tw th x y:Int):Int:=y/th*nx+x/tw
theorem tix_in {w h tw th i x y:Int} (hf:fineP w h tw th) (hi:0<=i/\i<colsN w h tw th*rowsN w h tw th) (hx:0<=x/\x<w) (hy:0<=y/\y<h):inR2 (tileV w h tw th i) x y↔tixV (colsN w h tw th) tw th x y=i:=by
 have hb:=cols_bd hf
 have hix:=tile_ix hb.1.1 hi.1 hi.2
 have hf0:=hf
 unfold fineP at hf0
 have dx:=Int.emod_def x tw;have dx1:=Int.emod_nonneg x (show tw≠0 by omega);have dx2:=Int.emod_lt_of_pos x (show 0<tw by omega)
 have dy:=Int.emod_def y th;have dy1:=Int.emod_nonneg y (show th≠0 by omega);have dy2:=Int.emod_lt_of_pos y (show 0<th by omega)
 have hxc:0<=x/tw/\x/tw<colsN w h tw th:=by
  refine ⟨Int.ediv_nonneg hx.1 om,?_⟩
  have hge:=ceil_ge (a:=w) (b:=tw) om om
  have hc:colsN w h tw th=ceilV w tw:=by unfold colsN;rw [if_pos hf]
  rw [hc]
  exact Int.ediv_lt_of_lt_mul om om
 have hq:=grid_ix (nx:=colsN w h tw th) (i:=y/th) (j:=x/tw) hxc
 unfold tixV
 constructor
 ·intro hin
  unfold inR2 tileV at hin
  dsimp only at hin
  have e1:x/tw=i%colsN w h tw th:=by
   have l1:i%colsN w h tw th<=x/tw:=(Int.le_ediv_iff_mul_le om).2 hin.1.1
   have l2:x/tw<i%colsN w h tw th+1:=Int.ediv_lt_of_lt_mul om (by rw [Int.add_mul,Int.one_mul];omega)
   omega
  have e2:y/th=i/colsN w h tw th:=by
   have l1:i/colsN w h tw th<=y/th:=(Int.le_ediv_iff_mul_le om).2 hin.2.1
   have l2:y/th<i/colsN w h tw th+1:=Int.ediv_lt_of_lt_mul om (by rw [Int.add_mul,Int.one_mul];omega)
   omega
  rw [e1,e2];exact hix.2.2.2.symm
 ·intro e
  have e1:i%colsN w h tw th=x/tw:=by rw [<-e];exact hq.1
  have e2:i/colsN w h tw th=y/th:=by rw [<-e];exact hq.2
  unfold inR2 tileV
  dsimp only
  rw [e1,e2,Int.mul_comm (x/tw),Int.mul_comm (y/th)]
  omega
structure AsmP (W own:PlaneV) (nx tw th:Int) (i:Int):Prop where
  shp:shpOf own=shpOf W
  len:(own.pix.length:Int)=own.w*own.h
  pix:∀x y,0<=x/\x<W.w->0<=y/\y<W.h->pixAt own x y=if tixV nx tw th x y<i then pixAt W x y else 0
theorem AsmP.start {W:PlaneV} {nx tw th:Int} {n:Nat} (hn:(n:Int)=W.w*W.h) (h0:0<=nx/\1<=tw/\1<=th):AsmP W ⟨W.w,W.h,W.max_,List.replicate n 0⟩ nx tw th 0:=by
 refine ⟨rfl,by dsimp only;rw [List.length_replicate];exact hn,fun x y hx hy=>?_⟩
 have h1:0<=tixV nx tw th x y:=by
  unfold tixV
  have a:=Int.mul_nonneg (Int.ediv_nonneg hy.1 (show 0<=th by omega)) h0.1
  have b:=Int.ediv_nonneg hx.1 (show 0<=tw by omega)
  omega
 rw [if_neg om]
 unfold pixAt
 dsimp only
 rw [List.getD_eq_getElem?_getD]
 cases e:(List.replicate n (0:Int))[(y*W.w+x).toNat]? with
 |none=>rfl
 |some z=>exact List.eq_of_mem_replicate (List.mem_of_getElem? e)
section
variable {W own:PlaneV} {tw th i:Int} (hf:fineP W.w W.h tw th) (h:AsmP W own (colsN W.w W.h tw th) tw th i)
include hf h
theorem AsmP.put (hi:0<=i/\i<colsN W.w W.h tw th*rowsN W.w W.h tw th) {pix:List Int}
  (hp:∀x y,inR2 (tileV W.w W.h tw th i) x y->pix.getD ((y-(tileV W.w W.h tw th i).y0)*((tileV W.w W.h tw th i).x1-(tileV W.w W.h tw th i).x0)+(x-(tileV W.w W.h tw th i).x0)).toNat 0=pixAt W x y):
  AsmP W ⟨own.w,own.h,own.max_,putL own (tileV W.w W.h tw th i) pix⟩ (colsN W.w W.h tw th) tw th (i+1):=by
 have e1:own.w=W.w:=congrArg Shape.w h.shp
 have e2:own.h=W.h:=congrArg Shape.h h.shp
 refine ⟨h.shp,by dsimp only;rw [put_len];exact h.len,fun x y hx hy=>?_⟩
 rw [put_at h.len (by rw [e1];exact hx) (by rw [e2];exact hy)]
 have ht:=tix_in hf hi hx hy
 by_cases hin:inR2 (tileV W.w W.h tw th i) x y
 ·rw [if_pos hin,hp x y hin,if_pos (by have:=ht.1 hin;omega)]
 ·rw [if_neg hin,h.pix x y hx hy]
  have hne:¬tixV (colsN W.w W.h tw th) tw th x y=i:=fun e=>hin (ht.2 e)
  by_cases hl:tixV (colsN W.w W.h tw th) tw th x y<i
  ·rw [if_pos hl,if_pos om]
  ·rw [if_neg hl,if_neg om]
end
theorem AsmP.ok {W own:PlaneV} {nx tw th i:Int} (h:AsmP W own nx tw th i) (hW:planeOK W=true):planeOK own=true:=by
 have e1:own.w=W.w:=congrArg Shape.w h.shp
 have e2:own.h=W.h:=congrArg Shape.h h.shp
 have e3:own.max_=W.max_:=congrArg Shape.max_ h.shp
 have hs:=(plane_sz hW).1
 have hs0:=hs;unfold sizeP at hs0
 refine plane_mk (by rw [e1,e2,e3];exact hs) h.len (fun z hz=>?_)
 obtain ⟨n,hn⟩:=List.getElem?_of_mem hz
 have hl:n<own.pix.length:=(List.getElem?_eq_some_iff.1 hn).1
 have hlen:=h.len
 rw [e1,e2] at hlen
 have hix:=tile_ix (nx:=W.w) (ny:=W.h) (i:=(n:Int)) om om om
 have hp:=h.pix ((n:Int)%W.w) ((n:Int)/W.w) hix.1 ⟨hix.2.1,hix.2.2.1⟩
 have hz2:pixAt own ((n:Int)%W.w) ((n:Int)/W.w)=z:=by
  unfold pixAt
  rw [e1,show ((n:Int)/W.w*W.w+(n:Int)%W.w).toNat=n by omega,List.getD_eq_getElem?_getD,hn];rfl
 rw [hz2] at hp
 rw [e3,hp]
 split
 ·exact pixAt_bd hW _ _
 ·omega
def AgrP (s:StageV) (p p':PlaneV) (r:Rct):Prop:=∀c∈colsV s p.w r.x0 r.x1,∀d∈rowsV s p.h r.y0 r.y1,pixAt p c d=pixAt p' c d
section
variable {s:StageV} {p p':PlaneV} {r:Rct} (hw:p'.w=p.w) (hh:p'.h=p.h) (ha:accV s) (hx:lenP p.w r.x0 r.x1) (hy:lenP p.h r.y0 r.y1) (hg:AgrP s p p' r)
include hw hh ha hx hy hg
end
end Go.Proofs.YtmlhcafjelkjfaaGreat
