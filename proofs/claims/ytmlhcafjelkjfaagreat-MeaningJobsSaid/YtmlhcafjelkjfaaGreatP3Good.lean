import Derived.Test.YtmlhcafjelkjfaaGreatP3Ab
import Derived.WalkKit
import Derived.Deep.Quiet
import Derived.KernelRfl
import Derived.Laws.BytesString
import Derived.Laws.Shifts
import Derived.Laws.IdiomStrings
import Derived.Test.YtmlhcafjelkjfaaGreatProg
import Derived.Test.YtmlhcafjelkjfaaGreatP3Tm
namespace Go.Proofs.YtmlhcafjelkjfaaGreat
open Go Go.E Go.Proofs.Tryz
set_option linter.all false
set_option maxRecDepth 100000
set_option maxHeartbeats 2000000
variable {W w:World} {H:Chunk} {F:List Chunk}
theorem tapsCode_side {l:List TapV} {n:Int} (h:tapsCode l n=0):1<=(l.length:Int)/\(l.length:Int)<=128:=by
  unfold tapsCode at h
  split at h
  · omega
  · omega
theorem ofV_sz {q:StageV} {s t:Shape} (h:(ofV q s t).2=0):szP (ofV q s t).1:=by
 unfold ofV at h⊢
 split at h
 ·rename_i h1
  rw [if_pos h1]
  split at h
  ·rename_i h2
   rw [if_pos h2]
   split at h
   ·rename_i h3
    rw [if_pos h3]
    split at h
    ·rename_i h4
     rw [if_pos h4]
     have hs:=h2.1
     unfold szP at hs
     clear h h1 h2 h3
     unfold kernelV at h4⊢
     split at h4
     ·rename_i k;rw [if_pos k];unfold convCode at h4;unfold szP
      (repeat' split at h4)<;>first|(dsimp only;omega)|(exfalso;simp at h4;done)|(exfalso;omega)
     ·rename_i k1;rw [if_neg k1]
      split at h4
      ·rename_i k;rw [if_pos k];unfold sepCode at h4;unfold szP
       (repeat' split at h4)<;>first|(dsimp only;omega)|(exfalso;simp at h4;done)|(exfalso;omega)
      ·rename_i k2;rw [if_neg k2]
       split at h4
       ·rename_i k;rw [if_pos k];unfold resCode at h4;unfold szP
        split at h4
        ·rename_i e1;split at h4
         ·rename_i e2
          have l1:=tapsCode_side e1;have l2:=tapsCode_side e2
          (repeat' split at h4)<;>first|(dsimp only;omega)|(exfalso;simp at h4;done)|(exfalso;omega)
         ·rename_i e2;exact absurd h4 e2
        ·rename_i e1;exact absurd h4 e1
       ·rename_i k3;rw [if_neg k3]
        split at h4
        ·rename_i k;rw [if_pos k];unfold szP
         split at h4
         ·rename_i k5;rw [if_pos k5];have:=mul_bd (a:=s.w-1) (b:=s.h-1) (A:=s.w-1) (B:=s.h-1) om om
          have e:(s.w-1)*(s.h-1)=s.w*s.h-s.w-s.h+1:=by rw [Int.sub_mul,Int.mul_sub];omega
          dsimp only;omega
         ·exfalso;simp at h4
        ·rename_i k4;rw [if_neg k4]
         split at h4
         ·rename_i k;rw [if_pos k];unfold szP
          split at h4
          ·rename_i k5;rw [if_pos k5];have h6:=of_decide_eq_true k5;have h7:mostV s.w s.h s.max_=s.w*s.h*s.max_:=by unfold mostV;rw [if_pos k5]
           have h8:0<s.w*s.h:=Int.mul_pos om om
           have h9:0<s.w*s.h*s.max_:=Int.mul_pos h8 om
           dsimp only;rw [h7];omega
          ·exfalso;simp at h4
         ·rename_i k5;rw [if_neg k5];unfold szP
          split at h4
          ·rename_i k6;rw [if_pos k6];unfold pwCode at k6
           split at h4
           ·exfalso;simp at h4
           ·rename_i k7;rw [if_neg k7]
            split at k6
            ·split at k6
             ·dsimp only;omega
             ·exfalso;omega
            ·exfalso;rename_i k8;exact k8 k6
          ·rename_i k6;exact absurd h4 k6
    ·rename_i h4;exact absurd h h4
   ·exfalso;simp at h
  ·exfalso;simp at h
 ·exfalso;simp at h
def upFrom:Int->Nat->List Int
  |_,0=>[]
  |k,n+1=>k::upFrom (k+1) n
theorem mem_upFrom:∀{n:Nat} {k x:Int},x∈upFrom k n↔k<=x/\x<k+n
  |0,k,x=>by simp [upFrom];try omega
  |n+1,k,x=>by
    simp only [upFrom,List.mem_cons,mem_upFrom (n:=n)]
    omega
theorem upFrom_snoc:∀{n:Nat} {k:Int},upFrom k n++[k+n]=upFrom k (n+1)
  |0,k=>by simp [upFrom]
  |n+1,k=>by
    have h:=upFrom_snoc (n:=n) (k:=k+1)
    rw [upFrom,List.cons_append,upFrom]
    congr 1
    rw [<-h]
    congr 2
    omega
def ordered (ni:Int) (S:List StageV):Prop:=∀(m:Nat) (s:StageV),S[m]?=some s->∀x∈srcs s,0<=x/\x<ni+m
theorem pick_up {ni:Int} {S:List StageV} (ho:ordered ni S) {m:Nat} (hm:m<S.length):∀(d i:Nat),i+d=m->ordPick ni (upFrom ni m) (S.drop i) i=ni+m
 |0,i,h=>by
  have hi:i<S.length:=by omega
  rw [List.drop_eq_getElem_cons hi,ordPick,if_pos]
  ·omega
  ·have h1:¬(ni+(i:Int))∈upFrom ni m:=by rw [mem_upFrom];omega
   have h2:ordOK ni (upFrom ni m) S[i]=true:=by
    unfold ordOK
    rw [List.all_eq_true]
    intro x hx
    have:=ho i S[i] (List.getElem?_eq_getElem hi) x hx
    refine decide_eq_true ?_
    rw [mem_upFrom]
    omega
   simp [h1,h2]
 |d+1,i,h=>by
  have hi:i<S.length:=by omega
  have ih:=pick_up ho hm d (i+1) om
  rw [List.drop_eq_getElem_cons hi,ordPick,if_neg]
  ·exact ih
  ·have h1:(ni+(i:Int))∈upFrom ni m:=by rw [mem_upFrom];omega
   simp [h1]
theorem ordGo_up {ni:Int} {S:List StageV} (hn:0<=ni) (ho:ordered ni S):∀(k m:Nat),m+k=S.length->ordGo ni S k (upFrom ni m)=some (upFrom ni S.length)
  |0,m,h=>by rw [ordGo,<-h];rfl
  |k+1,m,h=>by
    have hp:=pick_up ho (show m<S.length by omega) m 0 (by omega)
    rw [List.drop_zero] at hp
    have hp2:ordPick ni (upFrom ni m) S 0=ni+m:=hp
    rw [ordGo,hp2,if_neg (by omega),upFrom_snoc]
    exact ordGo_up hn ho k (m+1) (by omega)
def stOf (out:List Shape) (s:StageV):Shape×Int:=ofV s (shpAt out s.a) (if twoP s then shpAt out s.b else ⟨0,0,0⟩)
def runS:List Shape->List StageV->Option (List Shape)
  |out,[]=>some out
  |out,s::l=>if (stOf out s).2=0 then runS (out++[(stOf out s).1]) l else none
theorem runS_app:∀(S T:List StageV) (out l:List Shape),runS out S=some l->runS out (S++T)=runS l T
  |[],T,out,l,h=>by simp only [runS,Option.some.injEq] at h;subst h;rfl
  |s::S,T,out,l,h=>by
    rw [List.cons_append,runS]
    rw [runS] at h
    split at h
    · rename_i hc
      rw [if_pos hc]
      exact runS_app S T _ l h
    · cases h
theorem runS_sz:∀(S:List StageV) (out l:List Shape),(∀x∈out,szP x)->runS out S=some l->(∀x∈l,szP x)/\l.length=out.length+S.length
  |[],out,l,ho,h=>by simp only [runS,Option.some.injEq] at h;subst h;exact ⟨ho,by simp⟩
  |s::S,out,l,ho,h=>by
    rw [runS] at h
    split at h
    · rename_i hc
      have h2:=runS_sz S _ l (fun x hx=>by
        rcases List.mem_append.1 hx with h1|h1
        · exact ho x h1
        · simp only [List.mem_singleton] at h1;rw [h1];exact ofV_sz hc) h
      refine ⟨h2.1,?_⟩
      rw [h2.2];simp;omega
    · cases h
theorem shpAt_app {out z:List Shape} {i:Int} (h0:0<=i) (h:i<out.length):shpAt (out++z) i=shpAt out i:=by
  unfold shpAt
  rw [List.getElem?_append_left (by omega)]
theorem shpGo_run {ni:Nat} {S:List StageV} (ho:ordered ni S):∀(T:List StageV) (m:Nat) (cur:List Shape),S.drop m=T->cur.length=ni+m->
  (∀l,runS cur T=some l->shpGo ni S (upFrom (ni+m) T.length) (cur++List.replicate T.length ⟨0,0,0⟩)=(l,0,0))/\
  (runS cur T=none->(shpGo ni S (upFrom (ni+m) T.length) (cur++List.replicate T.length ⟨0,0,0⟩)).2.2≠0)
 |[],m,cur,hd,hc=>by
  refine ⟨fun l h=>?_,fun h=>by cases h⟩
  simp only [runS,Option.some.injEq] at h
  subst h
  simp [upFrom,shpGo]
 |s::T,m,cur,hd,hc=>by
  have hm:m<S.length:=by
   have:=congrArg List.length hd
   simp at this;omega
  have hs:S[m]?=some s:=by
   rw [List.drop_eq_getElem_cons hm] at hd
   rw [List.getElem?_eq_getElem hm]
   exact congrArg some (List.cons.inj hd).1
  have hT:S.drop (m+1)=T:=by
   rw [List.drop_eq_getElem_cons hm] at hd
   exact (List.cons.inj hd).2
  have hsrc:=ho m s hs
  have ha:0<=s.a/\s.a<(ni:Int)+m:=hsrc s.a (by unfold srcs;split<;>simp)
  have hb:twoP s->0<=s.b/\s.b<(ni:Int)+m:=fun h=>hsrc s.b (by unfold srcs;rw [if_pos h];simp)
  have hstg:stgAt S ni ((ni:Int)+m)=s:=by
   unfold stgAt
   rw [show ((ni:Int)+m-ni).toNat=m by omega,hs];rfl
  have hst:shpStep ni S ((ni:Int)+m) (cur++List.replicate (T.length+1) ⟨0,0,0⟩)=stOf cur s:=by
   unfold shpStep stOf
   rw [hstg,shpAt_app ha.1 om]
   by_cases h:twoP s
   ·rw [if_pos h,if_pos h,shpAt_app (hb h).1 (by have:=(hb h).2;omega)]
   ·rw [if_neg h,if_neg h]
  simp only [List.length_cons,upFrom,shpGo,hst]
  by_cases hok:(stOf cur s).2=0
  ·rw [if_pos hok]
   have hset:(cur++List.replicate (T.length+1) (⟨0,0,0⟩:Shape)).set ((ni:Int)+m).toNat (stOf cur s).1=(cur++[(stOf cur s).1])++List.replicate T.length ⟨0,0,0⟩:=by
    rw [List.set_append_right _ _ om,show ((ni:Int)+m).toNat-cur.length=0 by omega,List.replicate_succ,List.set_cons_zero]
    simp
   rw [hset]
   have ih:=shpGo_run ho T (m+1) (cur++[(stOf cur s).1]) hT (by simp;omega)
   rw [show ((ni:Int)+((m+1:Nat):Int))=(ni:Int)+m+1 by omega] at ih
   refine ⟨fun l h=>ih.1 l ?_,fun h=>ih.2 ?_⟩
   ·rw [runS,if_pos hok] at h;exact h
   ·rw [runS,if_pos hok] at h;exact h
  ·rw [if_neg hok]
   refine ⟨fun l h=>?_,fun _=>hok⟩
   rw [runS,if_neg hok] at h;cases h
def jobOf (I:List PlaneV) (S:List StageV) (p:Int):JobV:=⟨I,S,[0],p⟩
structure Good (I:List PlaneV) (S:List StageV) (p:Int):Prop where
  pl:I.all planeOK=true
  ni:1<=I.length/\I.length<=2
  ns:S.length<=8
  pr:0<=p/\p<4
  od:ordered I.length S
theorem shp_run {I:List PlaneV} {S:List StageV} {p:Int} (h:Good I S p) (h1:1<=S.length):
  (∀l,runS (I.map shpOf) S=some l->shpV (jobOf I S p)=(l,0,0))/\(runS (I.map shpOf) S=none->(shpV (jobOf I S p)).2.2≠0):=by
 have hchk:chkCode (jobOf I S p)=0:=by
  unfold chkCode jobOf
  dsimp only
  have hn:=h.ni;have hs:=h.ns;have hp:=h.pr
  rw [if_pos (by simp only [List.length_singleton];omega),if_pos hp,if_pos,if_pos]
  ·unfold inR;simp;omega
  ·rw [List.all_eq_true]
   intro s hs2
   obtain ⟨m,hm⟩:=List.getElem?_of_mem hs2
   unfold inR
   rw [List.all_eq_true]
   intro x hx
   have:=h.od m s hm x hx
   have hml:m<S.length:=(List.getElem?_eq_some_iff.1 hm).1
   exact decide_eq_true om
 have hord:ordV (jobOf I S p)=(upFrom I.length S.length,0):=by
  unfold ordV
  rw [if_pos hchk]
  have:=ordGo_up (ni:=I.length) om h.od S.length 0 om
  dsimp only [jobOf]
  rw [show ([]:List Int)=upFrom I.length 0 from rfl,this]
 have hr:=shpGo_run (ni:=I.length) h.od S 0 (I.map shpOf) (by simp) (by simp)
 have hv:shpV (jobOf I S p)=shpGo I.length S (upFrom I.length S.length) (I.map shpOf++List.replicate S.length ⟨0,0,0⟩):=by
  unfold shpV
  rw [hord,if_pos rfl]
  show (if I.all planeOK=true then _ else _)=_
  rw [if_pos h.pl];rfl
 rw [hv]
 simpa using hr
theorem shpOf_sz {I:List PlaneV} (h:I.all planeOK=true):∀x∈I.map shpOf,szP x:=by
  intro x hx
  obtain ⟨q,hq,rfl⟩:=List.mem_map.1 hx
  have h1:=List.all_eq_true.1 h q hq
  unfold planeOK at h1
  rw [Bool.and_eq_true] at h1
  have h2:=(of_decide_eq_true h1.1).1
  unfold sizeP at h2
  unfold szP shpOf
  exact h2
def safe (a:Int):StageV:=⟨6,a,-1,false,0,0,0,0,[],[],[],0,0,[],[],0,[⟨0,0⟩],255⟩
theorem ofV_safe {a:Int} {s:Shape} (hs:szP s):(ofV (safe a) s ⟨0,0,0⟩).2=0:=by
 have hf:fieldsP (safe a):=by unfold fieldsP safe;simp
 have ht:¬twoP (safe a):=by unfold twoP safe;simp
 have hso:=hs
 unfold szP at hs
 have hops:opsCode (safe a).ops false=0/\opsCode (safe a).ops true=0:=by constructor<;>rfl
 have hacc:nextOK ⟨0,0⟩ (ivX ⟨0,0⟩ []) (ivY ⟨0,0⟩ []) s.max_ 1:=by
  unfold nextOK nextB nextV
  rw [if_neg (by decide),if_pos rfl]
  refine ⟨rfl,by dsimp only;omega,by dsimp only;omega⟩
 have hiv:(ivRes (safe a).ops s.max_ 1).2.2=0:=by
  unfold ivRes
  rw [if_pos hops.2,if_pos om]
  have:ivGo s.max_ 1 (safe a).ops []=some ([]++[nextV ⟨0,0⟩ (ivX ⟨0,0⟩ []) (ivY ⟨0,0⟩ []) s.max_ 1]):=by
   show ivGo s.max_ 1 [⟨0,0⟩] []=_
   rw [ivGo,if_pos hacc];rfl
  rw [this]
 have hpw:pwCode (safe a).ops (decide ((safe a).kind=6/\¬(safe a).b=-1)) s.max_ 0 (safe a).max_=0:=by
  have hd:decide ((safe a).kind=6/\¬(safe a).b=-1)=false:=decide_eq_false (by unfold safe;simp)
  rw [hd];unfold pwCode
  rw [if_pos hops.1,if_pos (by unfold safe;simp)]
  simpa using hiv
 have hk:(kernelV (safe a) s ⟨0,0,0⟩).2=0:=by
  unfold kernelV
  rw [if_neg (by unfold safe;simp),if_neg (by unfold safe;simp),if_neg (by unfold safe;simp),if_neg (by unfold safe;simp),if_neg (by unfold safe;simp),if_pos hpw,if_neg (by unfold safe;simp)]
 unfold ofV
 rw [if_pos hf,if_pos ⟨hso, .inl ht⟩,if_pos (.inl (by unfold safe;simp)),if_pos hk]
theorem shpAt_sz {out:List Shape} {i:Int} (h:∀x∈out,szP x) (h0:0<=i) (h1:i<out.length):szP (shpAt out i):=by
  have hi:i.toNat<out.length:=by omega
  unfold shpAt
  rw [List.getElem?_eq_getElem hi]
  exact h _ (List.getElem_mem hi)
theorem ordered_snoc {ni:Int} {S:List StageV} {s:StageV} (h:ordered ni S) (hs:∀x∈srcs s,0<=x/\x<ni+S.length):ordered ni (S++[s]):=by
  intro m t ht
  by_cases hm:m<S.length
  · rw [List.getElem?_append_left hm] at ht
    exact h m t ht
  · rw [List.getElem?_append_right (by omega)] at ht
    have hm2:m-S.length=0:=by
      by_cases h0:m-S.length=0
      · exact h0
      · rw [List.getElem?_eq_none (by simp;omega)] at ht;cases ht
    rw [hm2] at ht
    simp at ht
    subst ht
    intro x hx
    have:=hs x hx
    omega
theorem Good.snoc {I:List PlaneV} {S:List StageV} {p:Int} {s:StageV} (h:Good I S p) (hl:S.length+1<=8) (hs:∀x∈srcs s,0<=x/\x<(I.length:Int)+S.length):Good I (S++[s]) p:=
  ⟨h.pl,h.ni,by simp;omega,h.pr,ordered_snoc h.od hs⟩
theorem good_safe {I:List PlaneV} {S:List StageV} {p:Int} {l:List Shape} {a:Int} (h:Good I S p) (hr:runS (I.map shpOf) S=some l) (ha:0<=a/\a<(I.length:Int)+S.length):∃l',runS (I.map shpOf) (S++[safe a])=some l':=by
  have h2:=runS_sz S _ l (shpOf_sz h.pl) hr
  rw [runS_app S [safe a] _ l hr,runS]
  have hst:(stOf l (safe a)).2=0:=by
    unfold stOf
    rw [if_neg (by unfold twoP safe;simp)]
    refine ofV_safe (shpAt_sz h2.1 ha.1 ?_)
    show a<_
    have:=h2.2
    simp at this
    omega
  rw [if_pos hst]
  exact ⟨_,rfl⟩
end Go.Proofs.YtmlhcafjelkjfaaGreat
