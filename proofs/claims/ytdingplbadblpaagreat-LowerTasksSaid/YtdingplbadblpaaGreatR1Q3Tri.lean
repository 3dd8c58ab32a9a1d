import Derived.WalkKit
import Derived.Deep.Quiet
import Derived.KernelRfl
import Derived.Laws.BytesString
import Derived.Laws.Shifts
import Derived.Laws.IdiomStrings
import Derived.OpenShut
import Derived.Test.YtdingplbadblpaaGreatProg
import Derived.Test.YtdingplbadblpaaGreatR1Q3CkS
namespace Go.E
def Tri (p:Nat) (E:TypeId) (pre mid post:List Value):Chunk:=[(p, .cells (pre++(mid++post)).toArray E (0,0))]
section
variable {p:Nat} {E:TypeId} {pre mid post:List Value}
theorem tri_at {off:Nat} {l:List Value} (h:((pre++(mid++post)).drop off).take l.length=l):PtR [Tri p E pre mid post] p off l:=
  ⟨(pre++(mid++post)).toArray,E,(0,0),by simp [Tri],by simpa using h⟩
theorem ptr_up {cs:List Chunk} {c:Chunk} {b off:Nat} {l:List Value} (i:Nat) (hi:cs[i]?=some c) (h:PtR [c] b off l):PtR cs b off l:=h.up i hi
theorem tri_el {α:Type} {enc:α->List Value} {sz k n0:Nat} {xs:List α} {x:α} (he:∀x,(enc x).length=sz) (hx:xs[k]?=some x) (h0:pre.length=n0:=by rfl):PtR [Tri p E pre (xs.flatMap enc) post] p (n0+k*sz) (enc x):=tri_at (by
  subst h0
  have hk:k<xs.length:=(List.getElem?_eq_some_iff.1 hx).1
  have h1:=flatMap_at he xs k x hx
  have h2:(k+1)*sz<=xs.length*sz:=Nat.mul_le_mul_right _ hk
  rw [Nat.add_mul,Nat.one_mul] at h2
  rw [List.drop_append,Nat.add_sub_cancel_left,List.drop_eq_nil_of_le (by omega:pre.length<=pre.length+k*sz),List.nil_append,he,List.drop_append_of_le_length (by rw [flatMap_len he];omega),List.take_append_of_le_length (by rw [List.length_drop,flatMap_len he];omega)]
  exact h1)
end
theorem wrL_left {A B vs:List Value} {o:Nat} (h:o+vs.length<=A.length):wrL (A++B) o vs=wrL A o vs++B:=by
  simp only [wrL]
  rw [List.take_append_of_le_length (by omega),List.drop_append_of_le_length (by omega)]
  simp
theorem wrL_right {A B vs:List Value} {o:Nat}:wrL (A++B) (A.length+o) vs=A++wrL B o vs:=by
  simp only [wrL]
  rw [List.take_length_add_append,Nat.add_assoc,List.drop_length_add_append]
  simp
theorem wr_right {A B vs:List Value} {o:Nat}:wr (A++B).toArray (A.length+o) vs=(A++wrL B o vs).toArray:=by
  have h:wr (A++B).toArray (A.length+o) vs=(wrL (A++B) (A.length+o) vs).toArray:=rfl
  rw [h,wrL_right]
theorem at_some {α:Type} {xs:List α} {n k:Nat} (h:xs.length=n) (hk:k<n):∃x,xs[k]?=some x:=⟨xs[k]'(by omega),by simp [show k<xs.length by omega]⟩
section
variable {P:Program} {W w:World} {cs:List Chunk} {ρ:Env} {o:Oper} {ops:Array Oper} {rest:List Oper} {n:Nat} {N:Env->World->Prop}
theorem Y_idxA (i:Int) (k:Nat) {t E:TypeId} {x y:Operand} {m sz b off:Nat} (hu:∀w,(underlying t).run P w= .ok (.array m E) w) (hsz:∀w,(sizeOf E).run P w= .ok sz w)
    (h0:0<=i:=by omega) (h1:i<m:=by omega) (ho:o.op= .indexAddr t x y:=by rfl) (hx:ev ρ x= .pointer (some ⟨b,off,none⟩):=by kernel_rfl) (hy:ev ρ y= .int .i64 i:=by kernel_rfl) (hk:i.toNat=k:=by first|rfl|omega):Yields P ρ o (.pointer (some ⟨b,off+k*sz,none⟩)) w:=by
  subst hk
  unfold Yields execOp
  rw [ho]
  simp [Instr.indexAt,hx,hy,asIntOf,hu,hsz,Instr.sureAddr,h0,h1,Addr.add]
theorem sIdxA (i:Int) (k:Nat) {t E:TypeId} {x y:Operand} {m sz b off:Nat} (hu:∀w,(underlying t).run P w= .ok (.array m E) w) (hsz:∀w,(sizeOf E).run P w= .ok sz w)
    (h:OpsE P n ops rest N (put ρ o.dst (.pointer (some ⟨b,off+k*sz,none⟩))) w) (h0:0<=i:=by omega) (h1:i<m:=by omega)
    (ho:o.op= .indexAddr t x y:=by rfl) (hg:o.guard=none:=by rfl) (hd:dstOK n o.dst=true:=by rfl) (hx:ev ρ x= .pointer (some ⟨b,off,none⟩):=by kernel_rfl) (hy:ev ρ y= .int .i64 i:=by kernel_rfl) (hk:i.toNat=k:=by first|rfl|omega):OpsE P n ops (o::rest) N ρ w:=
  stepY _ hg hd (Y_idxA i k hu hsz h0 h1 ho hx hy hk) h
theorem sTel {α:Type} {enc:α->List Value} {sz:Nat} {xs:List α} (hS:Sat W w cs) (he:∀x,(enc x).length=sz) (j i n0 k:Nat) (x x':α) (hx:xs[i]?=some x) (v:Value) (vs:List Value) {t:TypeId} {px py:Operand} {b q:Nat} {E:TypeId} {pre post:List Value} (hsz:∀w,(sizeOf t).run P w= .ok q w)
    (h:∀w',Sat W w' (cs.set j (Tri b E pre ((xs.set i x').flatMap enc) post))->OpsE P n ops rest N ρ w')
    (ho:o.op= .store t px py:=by rfl) (hg:o.guard=none:=by rfl) (hd:o.dst=none:=by rfl) (hj:cs[j]?=some (Tri b E pre (xs.flatMap enc) post):=by rfl) (h0:pre.length=n0:=by rfl)
    (hp:ev ρ px= .pointer (some ⟨b,n0+i*sz+k,none⟩):=by kernel_rfl) (hv:ev ρ py=v:=by kernel_rfl) (hvs:v.cells.toList=vs:=by kernel_rfl) (hk:vs.length=q:=by kernel_rfl) (h1:vs.all (·.oneCell')=true:=by kernel_rfl)
    (hw:wrL (enc x) k vs=enc x':=by kernel_rfl) (hle:Nat.ble (k+vs.length) sz=true:=by kernel_rfl):OpsE P n ops (o::rest) N ρ w:=by
  have hle':=Nat.le_of_ble_eq_true hle
  have hil:i<xs.length:=(List.getElem?_eq_some_iff.1 hx).1
  have hms:(i+1)*sz<=xs.length*sz:=Nat.mul_le_mul_right _ hil
  rw [Nat.add_mul,Nat.one_mul] at hms
  have hfl:=flatMap_len he xs
  refine stepStore ho hg hd hsz hp hv hvs hk (fun u hu=>List.all_eq_true.1 h1 u hu) hS j hj (by simp only [List.size_toArray,List.length_append];omega) _ (by rw [<-h0,Nat.add_assoc,wr_right,wrL_left (by omega)]) ?_
  intro w' hS'
  rw [wrL_flat he hle' xs i x x' hx hw] at hS'
  exact h w' hS'
end
def Obs {π σ:Type} (R:π->σ->Chunk->Prop) (ps:List π) (ss:List σ) (cs:List Chunk):Prop:=
  ps.length=ss.length/\cs.length=ss.length/\∀(i:Nat) p s c,ps[i]?=some p->ss[i]?=some s->cs[i]?=some c->R p s c
theorem Obs.get {π σ:Type} {R:π->σ->Chunk->Prop} {ps:List π} {ss:List σ} {cs:List Chunk} (h:Obs R ps ss cs) {i:Nat} {p:π} (hp:ps[i]?=some p):∃s c,ss[i]?=some s/\cs[i]?=some c/\R p s c:=by
  have hi:i<ps.length:=(List.getElem?_eq_some_iff.1 hp).1
  have h1:=h.1;have h2:=h.2.1
  have e1:ss[i]?=some (ss[i]'(by omega)):=by simp [show i<ss.length by omega]
  have e2:cs[i]?=some (cs[i]'(by omega)):=by simp [show i<cs.length by omega]
  exact ⟨_,_,e1,e2,h.2.2 i p _ _ hp e1 e2⟩
theorem Obs.set {π σ:Type} {R:π->σ->Chunk->Prop} {ps:List π} {ss:List σ} {cs:List Chunk} (h:Obs R ps ss cs) {i:Nat} {p:π} {s:σ} {c:Chunk} (hp:ps[i]?=some p) (hR:R p s c):Obs R ps (ss.set i s) (cs.set i c):=by
  refine ⟨by simp [h.1],by simp [h.2.1],fun j q t d hq ht hd=>?_⟩
  by_cases hij:i=j
  · subst hij
    rw [hp] at hq;cases hq
    rw [List.getElem?_set] at ht hd
    simp only [if_true] at ht hd
    split at ht
    · cases ht
      split at hd
      · cases hd;exact hR
      · cases hd
    · cases ht
  · rw [List.getElem?_set_ne hij] at ht hd
    exact h.2.2 j q t d hq ht hd
theorem Obs.snoc {π σ:Type} {R:π->σ->Chunk->Prop} {ps:List π} {ss:List σ} {cs:List Chunk} (h:Obs R ps ss cs) {p:π} {s:σ} {c:Chunk} (hR:R p s c):Obs R (ps++[p]) (ss++[s]) (cs++[c]):=by
  have h1:=h.1;have h2:=h.2.1
  refine ⟨by simp [h1],by simp [h2],fun j q t d hq ht hd=>?_⟩
  by_cases hj:j<ss.length
  · rw [List.getElem?_append_left (by omega)] at hq ht hd
    exact h.2.2 j q t d hq ht hd
  · have hjl:j=ss.length:=by
      have:=(List.getElem?_eq_some_iff.1 ht).1
      simp at this;omega
    rw [List.getElem?_append_right (by omega)] at hq ht hd
    rw [show j-ps.length=0 by omega] at hq
    rw [show j-ss.length=0 by omega] at ht
    rw [show j-cs.length=0 by omega] at hd
    simp at hq ht hd
    subst hq ht hd
    exact hR
theorem Obs.nil {π σ:Type} (R:π->σ->Chunk->Prop):Obs R [] [] []:=⟨rfl,rfl,fun i p s c h=>by simp at h⟩
end Go.E

namespace Go.Proofs.YtdingplbadblpaaGreat
open Go Go.E Go.Proofs.Tryz
set_option linter.all false
set_option maxRecDepth 100000
set_option maxHeartbeats 2000000
variable {W w:World} {H:Chunk} {F:List Chunk}
def okG (ni:Int) (out:List Int) (s:List Int):Bool:=s.all fun x=>decide (x<ni\/x∈out)
def pickG (ni:Int) (out:List Int):List (List Int)->Int->Int
  |[],_=>-1
  |s::l,i=>if (decide (¬(ni+i)∈out)&&okG ni out s)=true then ni+i else pickG ni out l (i+1)
def goG (ni:Int) (D:List (List Int)):Nat->List Int->Option (List Int)
  |0,out=>some out
  |k+1,out=>if pickG ni out D 0<0 then none else goG ni D k (out++[pickG ni out D 0])
def canG (ni:Int) (D:List (List Int)) (out:List Int) (i:Nat):Prop:=∃s,D[i]?=some s/\¬(ni+((i:Nat):Int))∈out/\∀x∈s,x<ni\/x∈out
theorem ok_iff {ni:Int} {out s:List Int}:okG ni out s=true↔∀x∈s,x<ni\/x∈out:=by
  unfold okG;rw [List.all_eq_true];simp only [decide_eq_true_eq]
theorem pick_spec {ni : Int} (hni : 0 <= ni) {out : List Int} {D : List (List Int)} : ∀ (l : List (List Int)) (i : Nat), D.drop i = l ->
  (pickG ni out l (i : Int) < 0 /\ ∀ k, i <= k -> ¬ canG ni D out k) \/ (∃ k : Nat, i <= k /\ pickG ni out l (i : Int) = ni + (k : Int) /\ canG ni D out k /\ ∀ m, i <= m -> m < k -> ¬ canG ni D out m)
 | [], i, h => by
  left
  refine ⟨by unfold pickG; omega, ?_⟩
  rintro k hk ⟨s, hs, _⟩
  have h1 := (List.getElem?_eq_some_iff.1 hs).1
  have h2 := congrArg List.length h
  rw [List.length_drop] at h2
  simp only [List.length_nil] at h2; omega
 | s :: l, i, h => by
  have hs : D[i]? = some s := by
   have h1 := congrArg (fun x => x[0]?) h
   simpa [List.getElem?_drop] using h1
  have hl : D.drop (i + 1) = l := by
   have h1 := congrArg List.tail h
   simpa [List.tail_drop] using h1
  unfold pickG
  by_cases hc : (decide (¬ (ni + (i : Int)) ∈ out) && okG ni out s) = true
  ·right
   rw [if_pos hc]
   rw [Bool.and_eq_true, decide_eq_true_eq, ok_iff] at hc
   exact ⟨i, Nat.le_refl _, rfl, ⟨s, hs, hc.1, hc.2⟩, fun m h1 h2 => by omega⟩
  ·rw [if_neg hc]
   have hno : ¬ canG ni D out i := by
    rintro ⟨s', hs', h1, h2⟩
    rw [hs] at hs'; obtain rfl := Option.some.inj hs'
    apply hc
    rw [Bool.and_eq_true, decide_eq_true_eq, ok_iff]; exact ⟨h1, h2⟩
   have ih := pick_spec hni (out := out) (D := D) l (i + 1) hl
   rw [show (((i + 1 : Nat)) : Int) = (i : Int) + 1 by omega] at ih
   rcases ih with ⟨h1, h2⟩ | ⟨k, h1, h2, h3, h4⟩
   ·left
    refine ⟨h1, fun k hk => ?_⟩
    by_cases e : k = i
    ·rw [e]; exact hno
    ·exact h2 k om
   ·right
    refine ⟨k, om, h2, h3, fun m hm1 hm2 => ?_⟩
    by_cases e : m = i
    ·rw [e]; exact hno
    ·exact h4 m om hm2
theorem pick0 {ni:Int} (hni:0<=ni) {out:List Int} {D:List (List Int)}:
    (pickG ni out D 0<0/\∀k,¬canG ni D out k)\/(∃k:Nat,pickG ni out D 0=ni+(k:Int)/\canG ni D out k/\∀m,m<k->¬canG ni D out m):=by
  rcases pick_spec hni (out:=out) D 0 rfl with ⟨h1,h2⟩|⟨k,_,h2,h3,h4⟩
  · exact .inl ⟨h1,fun k=>h2 k (Nat.zero_le _)⟩
  · exact .inr ⟨k,h2,h3,fun m hm=>h4 m (Nat.zero_le _) hm⟩
def listG (ni:Int) (D:List (List Int)):Nat->List Int->List Int
  |0,out=>out
  |k+1,out=>if pickG ni out D 0<0 then out else listG ni D k (out++[pickG ni out D 0])
structure OutG (ni:Int) (D:List (List Int)) (out:List Int):Prop where
  r:∀x∈out,ni<=x/\x<ni+((D.length:Nat):Int)
  d:out.Nodup
theorem OutG.nil {ni:Int} {D:List (List Int)}:OutG ni D []:=⟨(fun x hx=>by cases hx),List.nodup_nil⟩
theorem OutG.add {ni:Int} {D:List (List Int)} {out:List Int} {k:Nat} (h:OutG ni D out) (hc:canG ni D out k):OutG ni D (out++[ni+(k:Int)]):=by
  obtain ⟨s,hs,h1,_⟩:=hc
  have hk:=(List.getElem?_eq_some_iff.1 hs).1
  refine ⟨fun x hx=>?_,?_⟩
  · rcases List.mem_append.1 hx with h2|h2
    · exact h.r x h2
    · rw [List.mem_singleton.1 h2];omega
  · rw [List.nodup_append]
    refine ⟨h.d,by simp,?_⟩
    intro a ha b hb
    rw [List.mem_singleton.1 hb]
    rintro rfl;exact h1 ha
theorem nodup_le {n:Nat}:∀{m:Nat} {l:List Nat},l.Nodup->(∀x∈l,x<n)->l.length=m->m<=n:=by
 induction n with
 |zero=>
  intro m l _ h2 h3
  cases l with
  |nil=>simp at h3;omega
  |cons x l=>have:=h2 x List.mem_cons_self;omega
 |succ n ih=>
  intro m l h1 h2 h3
  have h4:=ih (m:=(l.filter (fun x=>decide (x≠n))).length) (l:=l.filter (fun x=>decide (x≠n))) (h1.filter _) (fun x hx=>by
   have:=List.mem_filter.1 hx
   have h5:=h2 x this.1
   have h6:=of_decide_eq_true this.2
   omega) rfl
  have h5:l.length<=(l.filter (fun x=>decide (x≠n))).length+1:=by
   clear h2 h3 h4 ih
   induction l with
   |nil=>simp
   |cons y l ih2=>
    rw [List.nodup_cons] at h1
    rw [List.filter_cons]
    by_cases e:y=n
    ·subst e
     rw [if_neg (by simp)]
     have h7:l.filter (fun x=>decide (x≠y))=l:=by
      rw [List.filter_eq_self]
      intro z hz
      refine decide_eq_true ?_
      rintro rfl;exact h1.1 hz
     rw [h7];simp
    ·rw [if_pos (by simpa using e)]
     have:=ih2 h1.2
     simp only [List.length_cons];omega
  omega
theorem OutG.len {ni:Int} {D:List (List Int)} {out:List Int} (h:OutG ni D out):out.length<=D.length:=by
  have h1:(out.map fun x=>(x-ni).toNat).Nodup:=by
    rw [List.nodup_iff_pairwise_ne,List.pairwise_map]
    refine (List.nodup_iff_pairwise_ne.1 h.d).imp_of_mem ?_
    intro a b ha hb hab
    have:=h.r a ha;have:=h.r b hb;omega
  have:=nodup_le (n:=D.length) h1 (fun x hx=>by
    obtain ⟨y,hy,rfl⟩:=List.mem_map.1 hx
    have:=h.r y hy;omega) (List.length_map _)
  omega
theorem go_list {ni : Int} (hni : 0 <= ni) {D : List (List Int)} : ∀ (k : Nat) {out : List Int}, OutG ni D out -> out.length + k = D.length ->
  ((goG ni D k out = some (listG ni D (k + 1) out) /\ (listG ni D (k + 1) out).length = D.length) \/ (goG ni D k out = none /\ (listG ni D (k + 1) out).length < D.length)) /\ OutG ni D (listG ni D (k + 1) out)
 | 0, out, h, hl => by
  have e : listG ni D 1 out = out := by
   unfold listG
   split
   ·rfl
   ·rename_i hp
    rcases pick0 hni (out := out) (D := D) with h1 | ⟨k, h1, h2, _⟩
    ·exact absurd h1.1 hp
    ·have := (h.add h2).len
     rw [List.length_append, List.length_singleton] at this; omega
  rw [e]
  exact ⟨.inl ⟨rfl, om⟩, h⟩
 | k + 1, out, h, hl => by
  unfold goG listG
  rcases pick0 hni (out := out) (D := D) with h1 | ⟨m, h1, h2, _⟩
  ·rw [if_pos h1.1, if_pos h1.1]
   exact ⟨.inr ⟨rfl, om⟩, h⟩
  ·rw [if_neg om, if_neg om, h1]
   exact go_list hni k (h.add h2) (by rw [List.length_append, List.length_singleton]; omega)
theorem pick_ord {ni:Int} {out:List Int}:∀(ss:List StageV) (i:Int),ordPick ni out ss i=pickG ni out (ss.map srcs) i
  |[],_=>rfl
  |s::l,i=>by
    unfold ordPick
    rw [List.map_cons]
    unfold pickG
    rw [pick_ord l (i+1)];rfl
theorem go_ord {ni:Int} {ss:List StageV}:∀(k:Nat) (out:List Int),ordGo ni ss k out=goG ni (ss.map srcs) k out
  |0,_=>rfl
  |k+1,out=>by
    unfold ordGo goG
    rw [pick_ord,go_ord k]
def listV (j:JobV):List Int:=listG j.inputs.length (j.stages.map srcs) (j.stages.length+1) []
theorem ord_list {j:JobV} (h:chkCode j=0):(ordV j=if (listV j).length<j.stages.length then ([],7) else (listV j,0))/\OutG j.inputs.length (j.stages.map srcs) (listV j):=by
  have h1:=go_list (ni:=j.inputs.length) (by omega) (D:=j.stages.map srcs) j.stages.length OutG.nil (by simp)
  refine ⟨?_,h1.2⟩
  unfold ordV
  rw [if_pos h,go_ord]
  rcases h1.1 with ⟨h2,h3⟩|⟨h2,h3⟩
  · rw [h2,if_neg (by unfold listV;rw [h3,List.length_map];omega)];rfl
  · rw [h2,if_pos (by unfold listV;rw [List.length_map] at h3;omega)]
def limC (j:JobV):Int:=if 1<=j.inputs.length/\1<=j.stages.length/\j.inputs.length+j.stages.length<=16/\1<=j.outputs.length/\j.outputs.length<=16 then (if 0<=j.priority/\j.priority<4 then 0 else 2) else 5
def namC (j:JobV):Int:=if j.stages.all (fun s=>inR (j.inputs.length+j.stages.length) (srcs s))=true then (if inR (j.inputs.length+j.stages.length) j.outputs=true then 0 else 6) else 6
theorem chk_lim {j:JobV}:chkCode j=if limC j=0 then namC j else limC j:=by
  unfold chkCode limC namC
  split
  · split
    · rfl
    · rfl
  · rfl
def KN (ni:Nat) (out:List Int) (ks:List Bool):Prop:=ks.length=16/\∀x:Nat,x<16->(ks[x]?=some true↔(x<ni\/((x:Nat):Int)∈out))
theorem KN.at {ni:Nat} {out:List Int} {ks:List Bool} {x:Nat} {y:Int} {b:Bool} (h:KN ni out ks) (hx:ks[x]?=some b) (hy:y=(x:Int)):b=true↔(y<(ni:Int)\/y∈out):=by
  subst hy
  have h1:=(List.getElem?_eq_some_iff.1 hx).1
  have h2:=h.2 x (by rw [<-h.1];exact h1)
  rw [hx] at h2
  simp only [Option.some.injEq] at h2
  rw [h2]
  exact ⟨fun h=>h.elim (fun h=> .inl (by omega)) .inr,fun h=>h.elim (fun h=> .inl (by omega)) .inr⟩
theorem KN.nil:KN 0 [] (List.replicate 16 false):=by
  refine ⟨rfl,fun x hx=>?_⟩
  rw [List.getElem?_replicate,if_pos hx];simp
theorem KN.set {ni:Nat} {out:List Int} {ks:List Bool} {k:Nat} (h:KN ni out ks) (hk:k<16):(ks.set k true).length=16/\∀x:Nat,x<16->((ks.set k true)[x]?=some true↔(x=k\/x<ni\/(x:Int)∈out)):=by
  refine ⟨by rw [List.length_set];exact h.1,fun x hx=>?_⟩
  rw [List.getElem?_set]
  by_cases e:k=x
  · rw [if_pos e,if_pos (by rw [h.1];omega)];exact ⟨fun _=> .inl e.symm,fun _=>rfl⟩
  · rw [if_neg e,h.2 x hx]
    exact ⟨fun a=> .inr a,fun a=>a.resolve_left (fun q=>e q.symm)⟩
theorem KN.inp {i:Nat} {ks:List Bool} (h:KN i [] ks) (hi:i<16):KN (i+1) [] (ks.set i true):=by
  have h1:=h.set hi
  refine ⟨h1.1,fun x hx=>?_⟩
  rw [h1.2 x hx];simp;omega
theorem KN.add {ni:Nat} {out:List Int} {ks:List Bool} {y:Int} (h:KN ni out ks) (hy:0<=y/\y<16):KN ni (out++[y]) (ks.set y.toNat true):=by
  have h1:=h.set (k:=y.toNat) (by omega)
  refine ⟨h1.1,fun x hx=>?_⟩
  rw [h1.2 x hx,List.mem_append,List.mem_singleton]
  constructor
  · rintro (h|h|h)
    · exact .inr (.inr (by omega))
    · exact .inl h
    · exact .inr (.inl h)
  · rintro (h|h|h)
    · exact .inr (.inl h)
    · exact .inr (.inr h)
    · exact .inl (by omega)
def possB (ni:Nat) (out:List Int) (s:StageV) (i:Nat):Bool:=decide (¬(((ni:Nat):Int)+((i:Nat):Int))∈out)&&ordOK ni out s
theorem poss_no1 {ni:Nat} {out:List Int} {s:StageV} {i:Nat} (h:((ni:Int)+(i:Int))∈out):possB ni out s i=false:=by unfold possB;rw [decide_eq_false (by simpa using h)];rfl
theorem poss_no2 {ni:Nat} {out:List Int} {s:StageV} {i k:Nat} {x:Int} (hx:(srcs s)[k]?=some x) (h:¬(x<(ni:Int)\/x∈out)):possB ni out s i=false:=by
  unfold possB ordOK
  rw [all_false_at hx (decide_eq_false h),Bool.and_false]
theorem poss_yes {ni:Nat} {out:List Int} {s:StageV} {i:Nat} (h1:¬((ni:Int)+(i:Int))∈out) (h2:ordOK ni out s=true):possB ni out s i=true:=by unfold possB;rw [h2,decide_eq_true h1];rfl
theorem pick_no {ni:Nat} {out:List Int} {ss:List StageV} {j:Nat} {s:StageV} (hs:ss[j]?=some s) (h:¬possB ni out s j=true):ordPick ni out (ss.drop j) (j:Int)=ordPick ni out (ss.drop (j+1)) ((j:Int)+1):=by
  rw [drop_at hs,ordPick,if_neg (show ¬(decide _&&ordOK _ _ _)=true from h)]
theorem pick_yes {ni:Nat} {out:List Int} {ss:List StageV} {j:Nat} {s:StageV} (hs:ss[j]?=some s) (h:possB ni out s j=true):ordPick ni out (ss.drop j) (j:Int)=(ni:Int)+(j:Int):=by
  rw [drop_at hs,ordPick,if_pos (show (decide _&&ordOK _ _ _)=true from h)]
theorem OutG.snoc {ni:Int} {D:List (List Int)} {out:List Int} (hni:0<=ni) (h:OutG ni D out) (hp:¬pickG ni out D 0<0):OutG ni D (out++[pickG ni out D 0]):=by
  rcases pick0 hni (out:=out) (D:=D) with h1|⟨k,h1,h2,_⟩
  · exact absurd h1.1 hp
  · rw [h1];exact h.add h2
theorem p17_limits (p:Job) (hp:Job.Ok [H] p) (hb:p.inputs.n<=1000000/\p.stages.n<=1000000/\p.outputs.n<=1000000) (hS:Sat W w (H::F)):
  Ro prog 129 #[.agg (encJob p).toArray] (I (limC p.v)) W w (H::F):=by
 have hl_p_inputs:=hp.inputs.le;have hn_p_inputs:=hp.inputs.len
 have hl_p_stages:=hp.stages.le;have hn_p_stages:=hp.stages.len
 have hl_p_outputs:=hp.outputs.le;have hn_p_outputs:=hp.outputs.len
 have hmi:(p.inputs.l.map Plane.v).length=p.inputs.n:=by simp [hn_p_inputs]
 have hms:(p.stages.l.map Stage.v).length=p.stages.n:=by simp [hn_p_stages]
 refine callsA 41 func129 rfl<|sR<|sBox hS (.agg (encJob p).toArray) (encJob p).toArray fun c0 _ b0=>pu1<|nT<|seqE<|drawE [] [(1,⟨c0,0,none⟩, .slice p.inputs.a p.inputs.n p.inputs.k),(4,⟨c0,1,none⟩, .slice p.stages.a p.stages.n p.stages.k),(7,⟨c0,2,none⟩, .slice p.outputs.a p.outputs.n p.outputs.k)] [(true,[0,3,6]),(true,[1]),(true,[2,9]),(true,[4]),(true,[5,10]),(true,[7]),(true,[8,11])] rfl kr ⟨cI b0 0,cI b0 0,cI b0 0,trivial⟩ ?_
 have a0:=b0.drew
 refine wU [0,3,6]<|wLd (.slice p.inputs.a p.inputs.n p.inputs.k) 0 isAgg25<|wU [2,9]<|wLd (.slice p.stages.a p.stages.n p.stages.k) 1 isAgg26<|wU [5,10]<|wLd (.slice p.outputs.a p.outputs.n p.outputs.k) 2 isAgg22<|wU [8,11]<|wN<|tN<|seqE<|sR<|pu3<|sE 17 (p.inputs.n:Int) 0 (fun d0=>?_) (fun d0=>?_)
 ·refine pu9<|zC<|pu1<|zR<|retT [I 5] ?_
  have e0:=(a0.dropAt 0 rfl)
  have hk:limC p.v=5:=by unfold limC;rw [if_neg (by simp only [Job.v];omega)]
  exact ⟨by rw [hk];rfl,e0⟩
 refine pu4<|sE 21 (p.stages.n:Int) 0 (fun f0=>?_) (fun f0=>?_)
 ·refine pu5<|zC<|pu1<|zR<|retT [I 5] ?_
  have g0:=(a0.dropAt 0 rfl)
  have hk:limC p.v=5:=by unfold limC;rw [if_neg (by simp only [Job.v];omega)]
  exact ⟨by rw [hk];rfl,g0⟩
 refine pu2<|gY<|sAdd (p.inputs.n:Int) (p.stages.n:Int)<|pu2<|nT<|cD (((p.inputs.n:Int)+(p.stages.n:Int))>16) (fun h0=>?_) (fun h0=>?_)
 ·refine sR<|pu1<|zR<|retT [I 5] ?_
  have i0:=(a0.dropAt 0 rfl)
  have hk:limC p.v=5:=by unfold limC;rw [if_neg (by simp only [Job.v];omega)]
  exact ⟨by rw [hk];rfl,i0⟩
 refine kT<|seqE<|sR<|pu3<|sE 29 (p.outputs.n:Int) 0 (fun j0=>?_) (fun j0=>?_)
 ·refine pu3<|zC<|pu1<|zR<|retT [I 5] ?_
  have k0:=(a0.dropAt 0 rfl)
  have hk:limC p.v=5:=by unfold limC;rw [if_neg (by simp only [Job.v];omega)]
  exact ⟨by rw [hk];rfl,k0⟩
 refine pu3<|nT<|cD ((p.outputs.n:Int)>16) (fun l0=>?_) (fun l0=>?_)
 ·refine sR<|pu1<|zR<|retT [I 5] ?_
  have m0:=(a0.dropAt 0 rfl)
  have hk:limC p.v=5:=by unfold limC;rw [if_neg (by simp only [Job.v];omega)]
  exact ⟨by rw [hk];rfl,m0⟩
 refine kT<|seqE<|sR<|pu1<|sL a0 0 3 (I p.priority) (isAgg3 _)<|pu2<|sD 36 (p.priority<0) (fun n0=>?_) (fun n0=>?_)
 ·refine pu4<|zC<|pu1<|zR<|retT [I 2] ?_
  have o0:=(a0.dropAt 0 rfl)
  have hk:limC p.v=2:=by unfold limC;rw [if_pos (by simp only [Job.v];omega),if_neg (by simp only [Job.v];omega)]
  exact ⟨by rw [hk];rfl,o0⟩
 refine pu1<|gY<|sL a0 0 3 (I p.priority) (isAgg3 _)<|pu2<|nT<|cD (p.priority>=4) (fun p0=>?_) (fun p0=>?_)
 ·refine sR<|pu1<|zR<|retT [I 2] ?_
  have q0:=(a0.dropAt 0 rfl)
  have hk:limC p.v=2:=by unfold limC;rw [if_pos (by simp only [Job.v];omega),if_neg (by simp only [Job.v];omega)]
  exact ⟨by rw [hk];rfl,q0⟩
 refine kS<|pu1<|zE<|retT [I 0] ?_
 have r0:=(a0.dropAt 0 rfl)
 have hk:limC p.v=0:=by unfold limC;rw [if_pos (by simp only [Job.v];omega),if_pos (by simp only [Job.v];omega)]
 exact ⟨by rw [hk];rfl,r0⟩
theorem p17_names (p:Job) (hp:Job.Ok [H] p) (hb:p.inputs.n<=1000000/\p.stages.n<=1000000/\p.outputs.n<=1000000) (hS:Sat W w (H::F)):
  Ro prog 130 #[.agg (encJob p).toArray] (I (namC p.v)) W w (H::F):=by
 have hl_p_inputs:=hp.inputs.le;have hn_p_inputs:=hp.inputs.len
 have hl_p_stages:=hp.stages.le;have hn_p_stages:=hp.stages.len
 have hl_p_outputs:=hp.outputs.le;have hn_p_outputs:=hp.outputs.len
 have hmi:(p.inputs.l.map Plane.v).length=p.inputs.n:=by simp [hn_p_inputs]
 have hms:(p.stages.l.map Stage.v).length=p.stages.n:=by simp [hn_p_stages]
 refine callsA 55 func130 rfl<|sR<|sBox hS (.agg (encJob p).toArray) (encJob p).toArray fun c0 _ g0=>pu1<|zS<|pu1<|sL g0 0 0 (.slice p.inputs.a p.inputs.n p.inputs.k) (isAgg25 _)<|pu2<|sL g0 0 1 (.slice p.stages.a p.stages.n p.stages.k) (isAgg26 _)<|pu1<|sAdd (p.inputs.n:Int) (p.stages.n:Int)<|pu1<|zQ<|pu1<|sL g0 0 1 (.slice p.stages.a p.stages.n p.stages.k) (isAgg26 _)<|pu2<|nT<|blockE ?_
 refine loopA (γ:=Nat) (fun i=>[(1,Pt c0 0),(3,I ((p.inputs.n:Int)+(p.stages.n:Int))),(18, .slice p.stages.a p.stages.n p.stages.k),(19,I (p.stages.n:Int)),(20,I (i:Int))]) (fun i w=>Sat W w ([(c0, .cells (encJob p).toArray 28 (0,0))]::H::F)/\i<=p.stages.n/\(((p.stages.l.map Stage.v).take i).all (fun s=>inR ((p.inputs.l.map Plane.v).length+(p.stages.l.map Stage.v).length:Int) (srcs s))=true)) (fun i=>p.stages.n-i) 0 ⟨g0,om,by rfl⟩ ?_
 rintro i ρ _ ⟨h0,hi,hE⟩
 refine sR<|pu1<|nT<|seqE<|cD ((i:Int)<(p.stages.n:Int)) (fun o0=>?_) (fun o0=>?_)
 rotate_left
 ·refine exitE<|xB<|tN<|seqE<|seqE ?_
  have hst:(p.stages.l.map Stage.v).all (fun s=>inR ((p.inputs.l.map Plane.v).length+(p.stages.l.map Stage.v).length:Int) (srcs s))=true:=all_of_take hE om
  refine rE<|pu1<|sL h0 0 2 (.slice p.outputs.a p.outputs.n p.outputs.k) (isAgg22 _)<|pu2<|nT<|blockE<|loopA (γ:=Nat) (fun m=>[(3,I ((p.inputs.n:Int)+(p.stages.n:Int))),(41, .slice p.outputs.a p.outputs.n p.outputs.k),(42,I (p.outputs.n:Int)),(43,I (m:Int))]) (fun m w=>Sat W w ([(c0, .cells (encJob p).toArray 28 (0,0))]::H::F)/\m<=p.outputs.n/\(inR ((p.inputs.l.map Plane.v).length+(p.stages.l.map Stage.v).length:Int) (p.outputs.l.take m)=true)) (fun m=>p.outputs.n-m) 0 ⟨h0,om,by rfl⟩ ?_
  rintro m ρ _ ⟨d0,hm,hF⟩
  refine sR<|pu1<|nT<|seqE<|cD ((m:Int)<(p.outputs.n:Int)) (fun p0=>?_) (fun p0=>?_)
  rotate_left
  ·refine exitE<|xB<|tN<|sR<|pu1<|zE<|retT [I 0] ?_
   have q0:=(d0.dropAt 0 rfl)
   have ho:=all_of_take hF om
   have hk:namC p.v=0:=by unfold namC;rw [if_pos (by exact hst),if_pos (by exact ho)]
   exact ⟨by rw [hk];rfl,q0⟩
  refine kT<|seqE<|blockE<|sR<|sIdx hp.outputs (m:Int) runUnderlying22 sizeOf3 fun j0 _ _ i0 r0=>?_
  rw [Int.toNat_natCast] at i0
  refine sLp d0 (r0.up 1 rfl) 0 (I j0) (isAgg3 _)<|pu1<|zS<|pu3<|sD 49 (j0<0) (fun s0=>?_) (fun s0=>?_)
  ·refine pu4<|zC<|pu1<|zB<|tR<|tK<|retT [I 6] ?_
   have t0:=(d0.dropAt 0 rfl)
   have ho:=all_false_at (p:=fun x=>decide (0<=x/\x<((p.inputs.l.map Plane.v).length+(p.stages.l.map Stage.v).length:Int))) i0 (decide_eq_false om)
   have hk:namC p.v=6:=by unfold namC;rw [if_pos (by exact hst),if_neg (by exact fun h=>Bool.false_ne_true (ho.symm.trans h))]
   exact ⟨by rw [hk];rfl,t0⟩
  refine pu4<|nT<|cD (j0>=((p.inputs.n:Int)+(p.stages.n:Int))) (fun u0=>?_) (fun u0=>?_)
  rotate_left
  ·exact skipE<|bN<|tN<|rE<|sAdd (m:Int) 1<|pu1<|nT<|⟨m+1,od,alA,d0,om,all_succ hF i0 (decide_eq_true om)⟩
  refine sR<|pu1<|zB<|tR<|tK<|retT [I 6] ?_
  have v0:=(d0.dropAt 0 rfl)
  have ho:=all_false_at (p:=fun x=>decide (0<=x/\x<((p.inputs.l.map Plane.v).length+(p.stages.l.map Stage.v).length:Int))) i0 (decide_eq_false om)
  have hk:namC p.v=6:=by unfold namC;rw [if_pos (by exact hst),if_neg (by exact fun h=>Bool.false_ne_true (ho.symm.trans h))]
  exact ⟨by rw [hk];rfl,v0⟩
 refine kT<|seqE<|blockE<|sR<|sIdx hp.stages (i:Int) runUnderlying26 sizeOf38 fun a0 _ _ b0 w0=>?_
 rw [Int.toNat_natCast] at b0
 refine sLpA h0 (w0.up 1 rfl) 0 (encStage a0) (isAgg38 _) (sizeOf38 _)<|sAlloc h0 zeroValue38 fun x0 _ y0=>?_
 refine sT y0 0 0 (.agg (encStage a0).toArray) (encStage a0) (encStage a0).toArray sizeOf38 fun _ n0=>zS<|lA n0 0 0 18 (isAgg38 _) (sizeOf38 _) ?_
 refine cX call127 (p15_sources a0 ⟨(RdT.flat ((hp.stagesD a0 (List.mem_of_getElem? b0)).weights.up 2 (by rfl))),(RdT.flat ((hp.stagesD a0 (List.mem_of_getElem? b0)).row.up 2 (by rfl))),(RdT.flat ((hp.stagesD a0 (List.mem_of_getElem? b0)).col.up 2 (by rfl))),(RdT.flat ((hp.stagesD a0 (List.mem_of_getElem? b0)).x.up 2 (by rfl))),(fun z hz=>((hp.stagesD a0 (List.mem_of_getElem? b0)).xD z hz).of_mem (mem_flat1 2 (by rfl))),(RdT.flat ((hp.stagesD a0 (List.mem_of_getElem? b0)).y.up 2 (by rfl))),(fun z hz=>((hp.stagesD a0 (List.mem_of_getElem? b0)).yD z hz).of_mem (mem_flat1 2 (by rfl))),(RdT.flat ((hp.stagesD a0 (List.mem_of_getElem? b0)).ops.up 2 (by rfl)))⟩ n0.flat) ?_
 rintro _ _ ⟨z0,e0,a1,b1,rfl,k0,c1⟩
 have d1:=c1.unflat1
 have hn_az_20:=k0.len;have hl_az_20:=k0.le
 have w1:1<=(srcs a0.v).length/\(srcs a0.v).length<=2:=srcs_len _
 refine pu2<|nT<|blockE<|loopA (γ:=Nat) (fun k=>[(1,Pt c0 0),(3,I ((p.inputs.n:Int)+(p.stages.n:Int))),(18, .slice p.stages.a p.stages.n p.stages.k),(19,I (p.stages.n:Int)),(20,I (i:Int)),(25, .slice z0 e0 a1),(26,I (e0:Int)),(27,I (k:Int))]) (fun k w=>Sat W w (b1::[(x0, .cells (encStage a0).toArray 38 (0,0))]::[(c0, .cells (encJob p).toArray 28 (0,0))]::H::F)/\k<=e0/\(inR ((p.inputs.l.map Plane.v).length+(p.stages.l.map Stage.v).length:Int) ((srcs a0.v).take k)=true)) (fun k=>e0-k) 0 ⟨d1,om,by rfl⟩ ?_
 rintro k ρ _ ⟨f0,hk,hK⟩
 refine sR<|pu1<|nT<|seqE<|cD ((k:Int)<(e0:Int)) (fun e1=>?_) (fun e1=>?_)
 rotate_left
 ·exact exitE<|xB<|bN<|tN<|rE<|sAdd (i:Int) 1<|pu1<|nT<|⟨i+1,od,alA,(f0.drops [0,0]),om,all_succ hE (map_at (f:=Stage.v) b0) (show inR _ (srcs a0.v)=true from all_of_take hK om)⟩
 refine kT<|seqE<|blockE<|sR<|sIdxO k0 (k:Int) k runUnderlying22 sizeOf3 fun l0 _ _ m0 g1 _=>sLp f0 (g1.up 0 rfl) 0 (I l0) (isAgg3 _)<|pu1<|zS<|pu3<|sD 33 (l0<0) (fun h1=>?_) (fun h1=>?_)
 ·refine pu4<|zC<|pu1<|zB<|tR<|bR<|tK<|tR<|tK<|retT [I 6] ?_
  have i1:=(f0.drops [0,0,0])
  have hs1:=all_false_at (p:=fun x=>decide (0<=x/\x<((p.inputs.l.map Plane.v).length+(p.stages.l.map Stage.v).length:Int))) m0 (decide_eq_false om)
  have hs2:=all_false_at (p:=fun s=>inR ((p.inputs.l.map Plane.v).length+(p.stages.l.map Stage.v).length:Int) (srcs s)) (map_at (f:=Stage.v) b0) hs1
  have hk:namC p.v=6:=by unfold namC;rw [if_neg (by exact fun h=>Bool.false_ne_true (hs2.symm.trans h))]
  exact ⟨by rw [hk];rfl,i1⟩
 refine pu4<|nT<|cD (l0>=((p.inputs.n:Int)+(p.stages.n:Int))) (fun j1=>?_) (fun j1=>?_)
 rotate_left
 ·exact skipE<|bN<|tN<|rE<|sAdd (k:Int) 1<|pu1<|nT<|⟨k+1,od,alA,f0,om,all_succ hK m0 (decide_eq_true om)⟩
 refine sR<|pu1<|zB<|tR<|bR<|tK<|tR<|tK<|retT [I 6] ?_
 have k1:=(f0.drops [0,0,0])
 have hs1:=all_false_at (p:=fun x=>decide (0<=x/\x<((p.inputs.l.map Plane.v).length+(p.stages.l.map Stage.v).length:Int))) m0 (decide_eq_false om)
 have hs2:=all_false_at (p:=fun s=>inR ((p.inputs.l.map Plane.v).length+(p.stages.l.map Stage.v).length:Int) (srcs s)) (map_at (f:=Stage.v) b0) hs1
 have hk:namC p.v=6:=by unfold namC;rw [if_neg (by exact fun h=>Bool.false_ne_true (hs2.symm.trans h))]
 exact ⟨by rw [hk];rfl,k1⟩
theorem p17_possible {bk bi bj:Nat} {p:Job} {ks:List Bool} {out:List Int} {i:Nat} {q:Stage} (hp:Job.Ok [H] p) (hK:KN p.inputs.n out ks) (hq:p.stages.l[i]?=some q) (hb:p.inputs.n+p.stages.n<=16) (hsr:∀x∈srcs q.v,0<=x/\x<16) (hS:Sat W w ((Tri bk 178 [] (ks.flatMap encKB) [])::[(bi, .cells #[I (p.inputs.n:Int)] 3 (0,0))]::[(bj, .cells (encJob p).toArray 28 (0,0))]::H::F)):
  Calls prog 160 #[I (i:Int),Pt bk 0,Pt bi 0,Pt bj 0] w fun e w'=>e= .returned (.bool (possB p.inputs.n out q.v i))/\Sat W w' ((Tri bk 178 [] (ks.flatMap encKB) [])::[(bi, .cells #[I (p.inputs.n:Int)] 3 (0,0))]::[(bj, .cells (encJob p).toArray 28 (0,0))]::H::F):=by
 have hk16:=hK.1;have hqr:=(List.getElem?_eq_some_iff.1 hq).1;have hsl:=srcs_len q.v
 have hl_p_inputs:=hp.inputs.le;have hn_p_inputs:=hp.inputs.len
 have hl_p_stages:=hp.stages.le;have hn_p_stages:=hp.stages.len
 have hl_p_outputs:=hp.outputs.le;have hn_p_outputs:=hp.outputs.len
 refine callsA 29 func160 rfl<|sR<|pu1<|zQ<|sL hS 1 0 (I (p.inputs.n:Int)) (isAgg3 _)<|pu1<|sAdd (p.inputs.n:Int) (i:Int) ?_
 obtain ⟨k0,e0⟩:=at_some hk16 (k:=(((p.inputs.n:Int)+(i:Int)).toNat)) om
 refine sIdxA (b:=bk) (off:=0) ((p.inputs.n:Int)+(i:Int)) (((p.inputs.n:Int)+(i:Int)).toNat) runUnderlying178 sizeOf4<|sLp hS (ptr_up 0 rfl (tri_el (sz:=1) (n0:=0) fR e0)) 0 (.bool k0) (isAgg4 _)<|nT<|cB k0 (fun f0=>?_) (fun f0=>?_)
 ·refine sR<|pu1<|zR<|retT [.bool false] ?_
  have he:possB p.inputs.n out q.v i=false:=poss_no1 (((hK.at e0 om).1 f0).resolve_left om)
  exact ⟨by rw [he];rfl,hS⟩
 refine kT<|seqE<|seqE ?_
 have hnk:=f0
 refine rE<|pu1<|sL hS 2 1 (.slice p.stages.a p.stages.n p.stages.k) (isAgg26 _)<|pu1<|sIdx hp.stages (i:Int) runUnderlying26 sizeOf38 fun m0 _ _ a0 o0=>?_
 rw [Int.toNat_natCast] at a0
 obtain rfl:q=m0:=Option.some.inj (hq.symm.trans a0)
 refine sLpA hS (o0.up 3 rfl) 0 (encStage q) (isAgg38 _) (sizeOf38 _) ?_
 refine cX call127 (p15_sources q ⟨(RdT.flat ((hp.stagesD q (List.mem_of_getElem? a0)).weights.up 3 (by rfl))),(RdT.flat ((hp.stagesD q (List.mem_of_getElem? a0)).row.up 3 (by rfl))),(RdT.flat ((hp.stagesD q (List.mem_of_getElem? a0)).col.up 3 (by rfl))),(RdT.flat ((hp.stagesD q (List.mem_of_getElem? a0)).x.up 3 (by rfl))),(fun z hz=>((hp.stagesD q (List.mem_of_getElem? a0)).xD z hz).of_mem (mem_flat1 3 (by rfl))),(RdT.flat ((hp.stagesD q (List.mem_of_getElem? a0)).y.up 3 (by rfl))),(fun z hz=>((hp.stagesD q (List.mem_of_getElem? a0)).yD z hz).of_mem (mem_flat1 3 (by rfl))),(RdT.flat ((hp.stagesD q (List.mem_of_getElem? a0)).ops.up 3 (by rfl)))⟩ hS.flat) ?_
 rintro _ _ ⟨p0,b0,q0,r0,rfl,g0,s0⟩
 have t0:=s0.unflat1
 have hn_az_12:=g0.len;have hl_az_12:=g0.le
 have b1:1<=(srcs q.v).length/\(srcs q.v).length<=2:=srcs_len _
 refine pu2<|nT<|blockE<|loopA (γ:=Nat) (fun k=>[(1,Pt bk 0),(18, .slice p0 b0 q0),(19,I (b0:Int)),(20,I (k:Int))]) (fun k w=>Sat W w (r0::(Tri bk 178 [] (ks.flatMap encKB) [])::[(bi, .cells #[I (p.inputs.n:Int)] 3 (0,0))]::[(bj, .cells (encJob p).toArray 28 (0,0))]::H::F)/\k<=b0/\(((srcs q.v).take k).all (fun x=>decide (x<(p.inputs.n:Int)\/x∈out))=true)) (fun k=>b0-k) 0 ⟨t0,om,by rfl⟩ ?_
 rintro k ρ _ ⟨c0,hk,hE⟩
 refine sR<|pu1<|nT<|seqE<|cD ((k:Int)<(b0:Int)) (fun u0=>?_) (fun u0=>?_)
 rotate_left
 ·refine exitE<|xB<|tN<|sR<|pu1<|zE<|retT [.bool true] ?_
  have v0:=(c0.dropAt 0 rfl)
  have he:possB p.inputs.n out q.v i=true:=poss_yes (fun h=>hnk ((hK.at e0 om).2 (.inr h))) (all_of_take hE om)
  exact ⟨by rw [he];rfl,v0⟩
 refine kT<|seqE<|blockE<|sR<|sIdxO g0 (k:Int) k runUnderlying22 sizeOf3 fun d0 _ _ h0 w0 _=>?_
 have hsb_x_21:=hsr d0 (List.mem_of_getElem? h0)
 refine sLp c0 (w0.up 0 rfl) 0 (I d0) (isAgg3 _)<|pu1<|zS<|pu1 ?_
 obtain ⟨l0,i0⟩:=at_some hk16 (k:=(d0.toNat)) om
 refine sIdxA (b:=bk) (off:=0) d0 (d0.toNat) runUnderlying178 sizeOf4<|sLp c0 (ptr_up 1 rfl (tri_el (sz:=1) (n0:=0) fR i0)) 0 (.bool l0) (isAgg4 _)<|pu1<|nT<|cBn l0 (fun j0=>?_) (fun j0=>?_)
 ·exact skipE<|bN<|tN<|rE<|sAdd (k:Int) 1<|pu1<|nT<|⟨k+1,od,alA,c0,om,all_succ hE h0 (decide_eq_true ((hK.at i0 om).1 j0))⟩
 refine sR<|pu1<|zB<|tR<|tK<|retT [.bool false] ?_
 have x0:=(c0.dropAt 0 rfl)
 have he:possB p.inputs.n out q.v i=false:=poss_no2 h0 (fun h=>j0 ((hK.at i0 om).2 h))
 exact ⟨by rw [he];rfl,x0⟩
theorem p17_list (p:Job) (hp:Job.Ok [H] p) (hb:p.inputs.n+p.stages.n<=16) (hsr:∀z∈p.stages.l,∀x∈srcs z.v,0<=x/\x<((p.inputs.n+p.stages.n:Nat):Int)) (hS:Sat W w (H::F)):
  Calls prog 131 #[.agg (encJob p).toArray] w fun e w'=>∃(az:Option Addr) (nz kz:Nat) (G:Chunk),e= .returned (.slice az nz kz)/\OwnT Go.E.encI 3 1 az nz kz (listV p.v) G/\Sat W w' (G::H::F):=by
 have hl_p_inputs:=hp.inputs.le;have hn_p_inputs:=hp.inputs.len
 have hl_p_stages:=hp.stages.le;have hn_p_stages:=hp.stages.len
 have hl_p_outputs:=hp.outputs.le;have hn_p_outputs:=hp.outputs.len
 have hmi:(p.inputs.l.map Plane.v).length=p.inputs.n:=by simp [hn_p_inputs]
 have hms:(p.stages.l.map Stage.v).length=p.stages.n:=by simp [hn_p_stages]
 have hsrc:∀z∈p.stages.l,∀x∈srcs z.v,0<=x/\x<16:=fun z hz x hx=>by have h:=hsr z hz x hx;omega
 refine callsA 43 func131 rfl<|sR<|sBox hS (.agg (encJob p).toArray) (encJob p).toArray fun b0 _ m0=>pu1<|zS<|sAlloc m0 zeroValue178 fun a0 _ n0=>nilO ?_
 have g0:Sat W _ ((Tri a0 178 [] ((List.replicate 16 false).flatMap encKB) [])::[(b0, .cells (encJob p).toArray 28 (0,0))]::H::F):=n0
 refine tN<|sR<|pu1<|sL g0 1 0 (.slice p.inputs.a p.inputs.n p.inputs.k) (isAgg25 _)<|pu1<|sAlloc g0 zeroValue3 fun c0 _ o0=>?_
 refine sT o0 0 0 (I (p.inputs.n:Int)) [I (p.inputs.n:Int)] #[I (p.inputs.n:Int)] sizeOf3 fun _ h0=>zQ<|sL h0 0 0 (I (p.inputs.n:Int)) (isAgg3 _)<|pu1<|nT<|blockE<|loopA (γ:=Nat×(List Bool)) (fun ⟨i,ks⟩=>[(1,Pt b0 0),(3,Pt a0 0),(4,Pt c0 0),(13,I (p.inputs.n:Int)),(14,I (i:Int))]) (fun ⟨i,ks⟩ w=>Sat W w ([(c0, .cells #[I (p.inputs.n:Int)] 3 (0,0))]::(Tri a0 178 [] (ks.flatMap encKB) [])::[(b0, .cells (encJob p).toArray 28 (0,0))]::H::F)/\i<=p.inputs.n/\(KN i [] ks)) (fun ⟨i,ks⟩=>p.inputs.n-i) (0,(List.replicate 16 false)) ⟨h0,om,KN.nil⟩ ?_
 rintro ⟨i,ks⟩ ρ _ ⟨i0,hi,hKi⟩
 have hk16:=hKi.1
 refine sR<|pu1<|nT<|seqE<|cD ((i:Int)<(p.inputs.n:Int)) (fun p0=>?_) (fun p0=>?_)
 ·refine kT<|seqE<|blockE<|sR<|pu2<|nT<|rE<|pu1 ?_
  obtain ⟨q0,r0⟩:=at_some hKi.1 (k:=i) om
  exact sIdxA (b:=a0) (off:=0) (i:Int) i runUnderlying178 sizeOf4<|sTel (enc:=encKB) (sz:=1) i0 fR 1 i 0 0 q0 true r0 (.bool true) [.bool true] sizeOf4 fun _ s0=>nB<|rE<|sAdd (i:Int) 1<|pu1<|nT<|⟨(i+1,(ks.set i true)),od,alA,s0,om,(hKi.inp om)⟩
 refine exitE<|xB<|tN<|sR<|pu2<|nilO ?_
 have hK0:KN p.inputs.n [] ks:=by rw [show p.inputs.n=i by omega];exact hKi
 refine tN<|sR<|pu1<|nT<|blockE ?_
 have t0:=Sat.nilc i0
 have u0:=OwnT.nil (enc:=Go.E.encI) (E:=3) (sz:=1) fR
 have v0:=(t0.picks [2,1])
 refine loopA (γ:=(List Int)×(Option Addr)×Nat×Nat×Chunk×(List Bool)) (fun ⟨zs,az,nz,kz,cz,kt⟩=>[(1,Pt b0 0),(3,Pt a0 0),(4,Pt c0 0),(6, .func (.func 160) #[] #[Pt a0 0,Pt c0 0,Pt b0 0]),(7, .slice az nz kz)]) (fun ⟨zs,az,nz,kz,cz,kt⟩ w=>Sat W w (cz::(Tri a0 178 [] (kt.flatMap encKB) [])::[(c0, .cells #[I (p.inputs.n:Int)] 3 (0,0))]::[(b0, .cells (encJob p).toArray 28 (0,0))]::H::F)/\OwnT Go.E.encI 3 1 az nz kz zs cz/\KN p.inputs.n zs kt/\OutG (p.inputs.n:Int) ((p.stages.l.map Stage.v).map srcs) zs/\listG (p.inputs.n:Int) ((p.stages.l.map Stage.v).map srcs) (p.stages.n+1) []=listG (p.inputs.n:Int) ((p.stages.l.map Stage.v).map srcs) (p.stages.n+1-zs.length) zs) (fun ⟨zs,az,nz,kz,cz,kt⟩=>(p.stages.n-zs.length)) ([],none,0,0,[],ks) ⟨v0,u0,hK0,OutG.nil,rfl⟩ ?_
 rintro ⟨zs,az,nz,kz,cz,kt⟩ ρ _ ⟨j0,hOz,hKt,hOut,hLi⟩
 have hnz:=hOz.len;have hlz:=hOz.le;have hol:=hOut.len;rw [List.length_map] at hol;have hk16:=hKt.1
 refine blockE<|sR<|pu1<|zQ<|pu1<|sL j0 3 1 (.slice p.stages.a p.stages.n p.stages.k) (isAgg26 _)<|pu2<|nT<|blockE ?_
 refine loopA (γ:=Nat) (fun j=>[(1,Pt b0 0),(3,Pt a0 0),(4,Pt c0 0),(6, .func (.func 160) #[] #[Pt a0 0,Pt c0 0,Pt b0 0]),(7, .slice az nz kz),(23,I (p.stages.n:Int)),(24,I (j:Int)),(8,I (-1))]) (fun j w=>Sat W w (cz::(Tri a0 178 [] (kt.flatMap encKB) [])::[(c0, .cells #[I (p.inputs.n:Int)] 3 (0,0))]::[(b0, .cells (encJob p).toArray 28 (0,0))]::H::F)/\j<=p.stages.n/\(ordPick (p.inputs.n:Int) zs ((p.stages.l.map Stage.v).drop 0) ((0:Nat):Int)=ordPick (p.inputs.n:Int) zs ((p.stages.l.map Stage.v).drop j) (j:Int))) (fun j=>p.stages.n-j) 0 ⟨j0,om,by rfl⟩ ?_
 rintro j ρ _ ⟨k0,hj,hP⟩
 refine sR<|pu1<|nT<|seqE<|cD ((j:Int)<(p.stages.n:Int)) (fun w0=>?_) (fun w0=>?_)
 rotate_left
 ·refine exitE<|xB<|tN<|seqE<|sR<|pu2<|zC<|pu2<|zE<|tR<|tR<|retT [.slice az nz kz] ?_
  have hpk:pickG (p.inputs.n:Int) zs ((p.stages.l.map Stage.v).map srcs) 0=-1:=by rw [<-pick_ord,<-List.drop_zero (l:=(p.stages.l.map Stage.v))];exact (show ordPick _ _ _ ((0:Nat):Int)=_ from hP.trans (by rw [List.drop_of_length_le om];rfl))
  have hfin:listV p.v=zs:=by
   unfold listV
   show listG ((p.inputs.l.map Plane.v).length:Nat) ((p.stages.l.map Stage.v).map srcs) ((p.stages.l.map Stage.v).length+1) []=_
   rw [hmi,hms,hLi,show p.stages.n+1-zs.length=(p.stages.n-zs.length)+1 by omega,listG,if_pos (by rw [hpk];omega)]
  have x0:=(k0.drops [1,1,1])
  have hl:zs=listV p.v:=(by rw [hfin])
  have hrd:=hOz
  rw [hl] at hrd
  exact ⟨_,_,_,_,rfl,hrd,x0⟩
 refine kT<|seqE<|blockE<|sR<|pu2<|zS<|pu2 ?_
 have y0:=(k0.picks [3,3,3])
 obtain ⟨l0,d0⟩:∃z,p.stages.l[j]?=some z:=⟨_,List.getElem?_eq_getElem (show j<p.stages.l.length by omega)⟩
 refine cXc #[Pt a0 0,Pt c0 0,Pt b0 0] call160 (p17_possible ⟨(RdT.flat (hp.inputs.up 1 (by rfl))),(fun z hz=>(hp.inputsD z hz).of_mem (mem_flat1 1 (by rfl))),(RdT.flat (hp.stages.up 1 (by rfl))),(fun z hz=>(hp.stagesD z hz).of_mem (mem_flat1 1 (by rfl))),(RdT.flat (hp.outputs.up 1 (by rfl)))⟩ hKt d0 om (hsrc l0 (List.mem_of_getElem? d0)) (Sat.flat3 y0)) ?_
 rintro _ _ ⟨rfl,z0⟩
 have e0:=Sat.unflatc z0
 refine nT<|cB (possB p.inputs.n zs l0.v j) (fun f0=>?_) (fun f0=>?_)
 rotate_left
 ·exact skipE<|bN<|tN<|rE<|sAdd (j:Int) 1<|pu1<|nT<|⟨j+1,od,alA,(e0.pick 3 rfl),om,(hP.trans (pick_no (map_at (f:=Stage.v) d0) f0))⟩
 refine sR<|sL e0 1 0 (I (p.inputs.n:Int)) (isAgg3 _)<|pu1<|sAdd (p.inputs.n:Int) (j:Int)<|pu1<|nT<|exitE<|blockK_y rfl<|xB<|tN<|seqE<|sR<|pu2<|nT<|cD (((p.inputs.n:Int)+(j:Int))<0) (fun b1=>?_) (fun b1=>?_)
 ·refine sR<|pu2<|zE<|tR<|tR<|retT [.slice az nz kz] ?_
  have hpk:pickG (p.inputs.n:Int) zs ((p.stages.l.map Stage.v).map srcs) 0=-1:=by rw [<-pick_ord,<-List.drop_zero (l:=(p.stages.l.map Stage.v))];exact (show ordPick _ _ _ ((0:Nat):Int)=_ from hP.trans (by rw [List.drop_of_length_le om];rfl))
  have hfin:listV p.v=zs:=by
   unfold listV
   show listG ((p.inputs.l.map Plane.v).length:Nat) ((p.stages.l.map Stage.v).map srcs) ((p.stages.l.map Stage.v).length+1) []=_
   rw [hmi,hms,hLi,show p.stages.n+1-zs.length=(p.stages.n-zs.length)+1 by omega,listG,if_pos (by rw [hpk];omega)]
  have c1:=(e0.drops [0,0,0])
  have hl:zs=listV p.v:=(by rw [hfin])
  have hrd:=hOz
  rw [hl] at hrd
  exact ⟨_,_,_,_,rfl,hrd,c1⟩
 refine kS<|pu1 ?_
 obtain ⟨d1,e1⟩:=at_some hKt.1 (k:=(((p.inputs.n:Int)+(j:Int)).toNat)) om
 refine sIdxA (b:=a0) (off:=0) ((p.inputs.n:Int)+(j:Int)) (((p.inputs.n:Int)+(j:Int)).toNat) runUnderlying178 sizeOf4<|sTel (enc:=encKB) (sz:=1) e0 fR 0 (((p.inputs.n:Int)+(j:Int)).toNat) 0 0 d1 true e1 (.bool true) [.bool true] sizeOf4 fun _ f1=>nT<|rE<|pu2<|sBS f1 #[I ((p.inputs.n:Int)+(j:Int))] runUnderlying22 sizeOf3 zeroValue3 fun _ _ g1=>sApp (nb:=8) g1 hOz 4 (RdT.blk (enc:=Go.E.encI) (sz:=1) (xs:=[((p.inputs.n:Int)+(j:Int))]) fR 1 0 rfl rfl rfl om) underlying22 (i:=Tryz.t3) kr fR fun h1 i1 j1 _ k1 l1=>pu1<|nB ?_
 have m1:=((l1.pick 4 rfl).dropAt 1 rfl)
 have hpk:pickG (p.inputs.n:Int) zs ((p.stages.l.map Stage.v).map srcs) 0=((p.inputs.n:Int)+(j:Int)):=by rw [<-pick_ord,<-List.drop_zero (l:=(p.stages.l.map Stage.v))];exact (show ordPick _ _ _ ((0:Nat):Int)=_ from hP.trans (pick_yes (map_at (f:=Stage.v) d0) f0))
 have hsn:=OutG.snoc om hOut (by rw [hpk];omega);rw [hpk] at hsn;have hsl:=hsn.len;rw [List.length_map,List.length_append,List.length_singleton] at hsl
 exact ⟨((zs++[((p.inputs.n:Int)+(j:Int))]),h1,(nz+1),i1,j1,(kt.set (((p.inputs.n:Int)+(j:Int)).toNat) true)),(by dsimp only;rw [List.length_append,List.length_singleton];omega),alA,m1,k1,(hKt.add om),hsn,(by rw [hLi,show p.stages.n+1-zs.length=(p.stages.n+1-(zs.length+1))+1 by omega,listG,if_neg (by rw [hpk];omega),hpk,List.length_append,List.length_singleton])⟩
theorem chk_len {j:JobV} (h:chkCode j=0):1<=j.inputs.length/\1<=j.stages.length/\j.inputs.length+j.stages.length<=16:=by
  unfold chkCode at h
  split at h
  · rename_i hx;omega
  · cases h
theorem chk_srcs {j:JobV} (h:chkCode j=0) {s:StageV} (hs:s∈j.stages):∀x∈srcs s,0<=x/\x<(j.inputs.length:Int)+(j.stages.length:Int):=by
  have h1:=chk_src h hs
  intro x hx
  unfold srcs at hx
  split at hx
  · rename_i ht
    have:=h1.2 ht
    simp only [List.mem_cons,List.not_mem_nil,or_false] at hx
    rcases hx with rfl|rfl<;>omega
  · simp only [List.mem_singleton] at hx;subst hx;omega
theorem p17_order (p:Job) (hp:Job.Ok [H] p) (hb:p.inputs.n<=1000000/\p.stages.n<=1000000/\p.outputs.n<=1000000) (hS:Sat W w (H::F)):
  Calls prog 86 #[.agg (encJob p).toArray] w fun e w'=>∃(az:Option Addr) (nz kz:Nat) (G:Chunk),e= .returned (.tuple #[.slice az nz kz,I ((ordV p.v).2)])/\OwnT Go.E.encI 3 1 az nz kz ((ordV p.v).1) G/\Sat W w' (G::H::F):=by
 have hl_p_inputs:=hp.inputs.le;have hn_p_inputs:=hp.inputs.len
 have hl_p_stages:=hp.stages.le;have hn_p_stages:=hp.stages.len
 have hl_p_outputs:=hp.outputs.le;have hn_p_outputs:=hp.outputs.len
 have hmi:(p.inputs.l.map Plane.v).length=p.inputs.n:=by simp [hn_p_inputs]
 have hms:(p.stages.l.map Stage.v).length=p.stages.n:=by simp [hn_p_stages]
 refine callsA 26 func86 rfl<|sR<|sBox hS (.agg (encJob p).toArray) (encJob p).toArray fun _ _ g0=>pu2<|zQ<|lA g0 0 0 4 (isAgg28 _) (sizeOf28 _)<|cR call129 (p17_limits p ⟨(RdT.flat (hp.inputs.up 1 (by rfl))),(fun z hz=>(hp.inputsD z hz).of_mem (mem_flat1 1 (by rfl))),(RdT.flat (hp.stages.up 1 (by rfl))),(fun z hz=>(hp.stagesD z hz).of_mem (mem_flat1 1 (by rfl))),(RdT.flat (hp.outputs.up 1 (by rfl)))⟩ (od) g0.flat) fun _ b0=>pu1<|zS<|pu2<|nT<|cN (limC p.v) 0 (fun a0=>?_) (fun a0=>?_)
 rotate_left
 ·refine sR<|pu3<|zR<|retT [nS,I (limC p.v)] ?_
  have hch:chkCode p.v=limC p.v:=by rw [chk_lim,if_neg a0]
  have hk:ordV p.v=([],limC p.v):=by unfold ordV;rw [if_neg (by rw [hch];exact a0),hch]
  have i0:=(b0.dropAt 0 rfl)
  have j0:Sat W _ ([]::H::F):=Sat.nilc i0
  have hl:([]:List Int)=(ordV p.v).1:=(by rw [hk])
  have hrd:=OwnT.nil (enc:=Go.E.encI) (E:=3) (sz:=1) fR
  rw [hl] at hrd
  exact ⟨_,_,_,_,(by rw [hk];rfl),hrd,j0⟩
 refine kT<|seqE<|sR<|lA b0 0 0 4 (isAgg28 _) (sizeOf28 _)<|cR call130 (p17_names p ⟨(RdT.flat (hp.inputs.up 1 (by rfl))),(fun z hz=>(hp.inputsD z hz).of_mem (mem_flat1 1 (by rfl))),(RdT.flat (hp.stages.up 1 (by rfl))),(fun z hz=>(hp.stagesD z hz).of_mem (mem_flat1 1 (by rfl))),(RdT.flat (hp.outputs.up 1 (by rfl)))⟩ (od) b0.flat) fun _ c0=>pu1<|zS<|pu2<|nT<|cN (namC p.v) 0 (fun d0=>?_) (fun d0=>?_)
 rotate_left
 ·refine sR<|pu3<|zR<|retT [nS,I (namC p.v)] ?_
  have hch:chkCode p.v=namC p.v:=by rw [chk_lim,if_pos a0]
  have hk:ordV p.v=([],namC p.v):=by unfold ordV;rw [if_neg (by rw [hch];exact d0),hch]
  have k0:=(c0.dropAt 0 rfl)
  have l0:Sat W _ ([]::H::F):=Sat.nilc k0
  have hl:([]:List Int)=(ordV p.v).1:=(by rw [hk])
  have hrd:=OwnT.nil (enc:=Go.E.encI) (E:=3) (sz:=1) fR
  rw [hl] at hrd
  exact ⟨_,_,_,_,(by rw [hk];rfl),hrd,l0⟩
 refine kT<|seqE ?_
 have hch:chkCode p.v=0:=by rw [chk_lim,if_pos a0];exact d0
 have hol:=ord_list hch;have hlb:=chk_len hch;have hlb2:p.inputs.n+p.stages.n<=16:=(by have h:=hlb;simp only [Job.v] at h;omega)
 have hsr:∀z∈p.stages.l,∀x∈srcs z.v,0<=x/\x<((p.inputs.n+p.stages.n:Nat):Int):=fun z hz x hx=>by have h:=chk_srcs hch (s:=z.v) (List.mem_map_of_mem hz) x hx;simp only [Job.v] at h;omega
 refine rE<|lA c0 0 0 4 (isAgg28 _) (sizeOf28 _)<|cX call131 (p17_list p ⟨(RdT.flat (hp.inputs.up 1 (by rfl))),(fun z hz=>(hp.inputsD z hz).of_mem (mem_flat1 1 (by rfl))),(RdT.flat (hp.stages.up 1 (by rfl))),(fun z hz=>(hp.stagesD z hz).of_mem (mem_flat1 1 (by rfl))),(RdT.flat (hp.outputs.up 1 (by rfl)))⟩ hlb2 hsr c0.flat) ?_
 rintro _ _ ⟨m0,h0,n0,_,rfl,e0,o0⟩
 have f0:=o0.unflat1
 have hn_az_15:=e0.len;have hl_az_15:=e0.le
 refine pu1<|zQ<|pu3<|sL f0 1 1 (.slice p.stages.a p.stages.n p.stages.k) (isAgg26 _)<|pu2<|nT<|cD ((h0:Int)<(p.stages.n:Int)) (fun p0=>?_) (fun p0=>?_)
 rotate_left
 ·refine kS<|pu3<|zE<|retT [.slice m0 h0 n0,I 0] ?_
  have hk:ordV p.v=(listV p.v,0):=by rw [hol.1,if_neg (by rw [show p.v.stages.length=p.stages.n from hms];omega)]
  have q0:=(f0.dropAt 1 rfl)
  have hl:(listV p.v)=(ordV p.v).1:=(by rw [hk])
  have hrd:=e0
  rw [hl] at hrd
  exact ⟨_,_,_,_,(by rw [hk];rfl),hrd,q0⟩
 refine sR<|pu2<|zR<|retT [nS,I 7] ?_
 have hk:ordV p.v=([],7):=by rw [hol.1,if_pos (by rw [show p.v.stages.length=p.stages.n from hms];omega)]
 have r0:=(f0.drops [0,0])
 have s0:Sat W _ ([]::H::F):=Sat.nilc r0
 have hl:([]:List Int)=(ordV p.v).1:=(by rw [hk])
 have hrd:=OwnT.nil (enc:=Go.E.encI) (E:=3) (sz:=1) fR
 rw [hl] at hrd
 exact ⟨_,_,_,_,(by rw [hk];rfl),hrd,s0⟩
end Go.Proofs.YtdingplbadblpaaGreat

namespace Go.Proofs.YtdingplbadblpaaGreat
open Go Go.E Go.Proofs.Tryz
set_option linter.all false
set_option maxRecDepth 100000
set_option maxHeartbeats 2000000
variable {W w:World} {H:Chunk} {F:List Chunk}
theorem srcs_two {s:StageV}:(srcs s).length=2↔twoP s:=by
  unfold srcs
  by_cases h:twoP s
  · rw [if_pos h];simp [h]
  · rw [if_neg h];simp [h]
theorem p17_shapes (p : Job) (hp : Job.Ok [H] p) (hb : p.inputs.n <= 1000000 /\ p.stages.n <= 1000000 /\ p.outputs.n <= 1000000) (hS : Sat W w (H :: F)) :
  Calls prog 82 #[.agg (encJob p).toArray] w fun e w' => ∃ (az : Option Addr) (nz kz : Nat) (G : Chunk), e = .returned (.tuple #[.slice az nz kz, I ((shpV p.v).2.1), I ((shpV p.v).2.2)]) /\ OwnT encShape 54 3 az nz kz ((shpV p.v).1) G /\ Sat W w' (G :: H :: F) := by
 have hl_p_inputs := hp.inputs.le; have hn_p_inputs := hp.inputs.len
 have hl_p_stages := hp.stages.le; have hn_p_stages := hp.stages.len
 have hl_p_outputs := hp.outputs.le; have hn_p_outputs := hp.outputs.len
 have hmi : (p.inputs.l.map Plane.v).length = p.inputs.n := by simp [hn_p_inputs]
 have hms : (p.stages.l.map Stage.v).length = p.stages.n := by simp [hn_p_stages]
 refine callsA 103 func82 rfl <| sR <| sBox hS (.agg (encJob p).toArray) (encJob p).toArray fun m0 _ v0 => pu3 <| zS <| lA v0 0 0 4 (isAgg28 _) (sizeOf28 _) <| cX call86 (p17_order p ⟨(RdT.flat (hp.inputs.up 1 (by rfl))), (fun z hz => (hp.inputsD z hz).of_mem (mem_flat1 1 (by rfl))), (RdT.flat (hp.stages.up 1 (by rfl))), (fun z hz => (hp.stagesD z hz).of_mem (mem_flat1 1 (by rfl))), (RdT.flat (hp.outputs.up 1 (by rfl)))⟩ (od) v0.flat) ?_
 rintro _ _ ⟨w0, h0, x0, y0, rfl, q0, e1⟩
 have n0 := e1.unflat1
 have hn_az_7 := q0.len; have hl_az_7 := q0.le
 refine pu5 <| zQ <| pu2 <| nT <| cN ((ordV p.v).2) 0 (fun f1 => ?_) (fun f1 => ?_)
 rotate_left
 ·refine sR <| pu4 <| zR <| retT [nS, I 0, I ((ordV p.v).2)] ?_
  have hk : shpV p.v = ([], 0, (ordV p.v).2) := by unfold shpV; rw [if_neg ‹_›]
  have g1 := (n0.drops [0, 0])
  have h1 : Sat W _ ([] :: H :: F) := Sat.nilc g1
  have hl : ([] : List Shape) = (shpV p.v).1 := (by rw [hk])
  have hrd := OwnT.nil (enc := encShape) (E := 54) (sz := 3) fR
  rw [hl] at hrd
  exact ⟨_, _, _, _, (by rw [hk]; rfl), hrd, h1⟩
 refine kS <| pu1 <| sL n0 1 0 (.slice p.inputs.a p.inputs.n p.inputs.k) (isAgg25 _) <| pu2 <| zS <| pu2 <| sL n0 1 1 (.slice p.stages.a p.stages.n p.stages.k) (isAgg26 _) <| pu1 <| sAdd (p.inputs.n : Int) (p.stages.n : Int) <| sMake (kl := .i64) (kc := .i64) (enc := encShape) (sz := 3) (nb := 24) n0 ⟨0, 0, 0⟩ (((p.inputs.n : Int) + (p.stages.n : Int))).toNat ((p.inputs.n : Int) + (p.stages.n : Int)) (om : ((p.inputs.n : Int) + (p.stages.n : Int)) = (((((p.inputs.n : Int) + (p.stages.n : Int))).toNat : Nat) : Int)) underlying61 (i := Tryz.t54) kr fR fun i1 j1 _ k1 z0 => pu1 <| zQ <| pu1 <| sL z0 2 0 (.slice p.inputs.a p.inputs.n p.inputs.k) (isAgg25 _) <| pu2 <| nT <| blockE ?_
 refine loopA (γ := Nat × (List Shape) × (Option Addr) × Nat × Nat × Chunk) (fun ⟨i, zs, azs, nzs, kzs, czs⟩ => [(1, Pt m0 0), (5, .slice w0 h0 x0), (7, I (p.inputs.n : Int)), (36, .slice p.inputs.a p.inputs.n p.inputs.k), (37, I (p.inputs.n : Int)), (38, I (i : Int)), (8, .slice azs nzs kzs)]) (fun ⟨i, zs, azs, nzs, kzs, czs⟩ w => Sat W w (czs :: y0 :: [(m0, .cells (encJob p).toArray 28 (0, 0))] :: H :: F) /\ i <= p.inputs.n /\ (zs = ((p.inputs.l.map Plane.v).take i).map shpOf ++ List.replicate (p.inputs.n + p.stages.n - i) ⟨0, 0, 0⟩) /\ (((p.inputs.l.map Plane.v).take i).all planeOK = true) /\ (zs.length = p.inputs.n + p.stages.n) /\ OwnT encShape 54 3 azs nzs kzs zs czs) (fun ⟨i, zs, azs, nzs, kzs, czs⟩ => p.inputs.n - i) (0, (List.replicate (((p.inputs.n : Int) + (p.stages.n : Int))).toNat ⟨0, 0, 0⟩), (At i1 0), (((p.inputs.n : Int) + (p.stages.n : Int))).toNat, (((p.inputs.n : Int) + (p.stages.n : Int))).toNat, j1) ⟨z0, om, by simp; omega, by rfl, by simp; omega, k1⟩ ?_
 rintro ⟨i, zs, azs, nzs, kzs, czs⟩ ρ _ ⟨r0, hi, hZ, hV, hzl, hOzs⟩
 have hn_zs := hOzs.len; have hl_zs := hOzs.le
 refine sR <| pu1 <| nT <| seqE <| cD ((i : Int) < (p.inputs.n : Int)) (fun l1 => ?_) (fun l1 => ?_)
 ·refine kT <| seqE <| blockE <| sR <| pu1 <| sIdx hp.inputs (i : Int) runUnderlying25 sizeOf87 fun f0 _ _ i0 m1 => ?_
  rw [Int.toNat_natCast] at i0
  refine sLpA r0 (m1.up 3 rfl) 0 (encPlane f0) (isAgg87 _) (sizeOf87 _) <| sAlloc r0 zeroValue87 fun _ _ n1 => pu1 ?_
  refine sT n1 0 0 (.agg (encPlane f0).toArray) (encPlane f0) (encPlane f0).toArray sizeOf87 fun _ a1 => zQ <| lA a1 0 0 4 (isAgg87 _) (sizeOf87 _) <| cR call126 (p4_valid f0 ⟨(RdT.flat ((hp.inputsD f0 (List.mem_of_getElem? i0)).pix.up 4 (by rfl)))⟩ a1.flat) fun _ j0 => pu1 <| nT <| cBn (planeOK f0.v) (fun o1 => ?_) (fun o1 => ?_)
  rotate_left
  ·refine sR <| pu4 <| zE <| tR <| tK <| tR <| tK <| retT [nS, I (i : Int), I 1] ?_
   have hbad : (p.inputs.l.map Plane.v).all planeOK = false := all_false_at (map_at (f := Plane.v) i0) (by simpa using (by assumption : ¬ planeOK f0.v = true))
   have htw : ((p.inputs.l.map Plane.v).takeWhile planeOK).length = i := takeWhile_at hV (map_at (f := Plane.v) i0) (by simpa using (by assumption : ¬ planeOK f0.v = true))
   have hk : shpV p.v = ([], (i : Int), 1) := by unfold shpV; rw [if_pos ‹_›, if_neg (by exact fun h => Bool.false_ne_true (hbad.symm.trans h))]; exact congrArg (fun n : Nat => (([] : List Shape), (n : Int), (1 : Int))) htw
   have q1 := (j0.drops [0, 0, 0, 0])
   have r1 : Sat W _ ([] :: H :: F) := Sat.nilc q1
   have hl : ([] : List Shape) = (shpV p.v).1 := (by rw [hk])
   have hrd := OwnT.nil (enc := encShape) (E := 54) (sz := 3) fR
   rw [hl] at hrd
   exact ⟨_, _, _, _, (by rw [hk]; rfl), hrd, r1⟩
  refine kT <| rE <| pu3 <| sL j0 0 0 (I f0.w) (isAgg3 _) <| pu1 <| sL j0 0 1 (I f0.h) (isAgg3 _) <| pu1 <| sL j0 0 2 (I f0.max_) (isAgg3 _) <| pu1 <| sIdxO hOzs (i : Int) i runUnderlying61 sizeOf54 fun s1 _ _ t1 _ u1 => sStF j0 hOzs u1 1 i 0 s1 (⟨f0.w, f0.h, f0.max_⟩ : Shape) t1 (.agg #[I f0.w, I f0.h, I f0.max_]) [I f0.w, I f0.h, I f0.max_] sizeOf54 fun _ v1 w1 x1 => nB <| rE <| sAdd (i : Int) 1 <| pu1 <| nT ?_
  exact ⟨(i + 1, (zs.set i (⟨f0.w, f0.h, f0.max_⟩ : Shape)), azs, nzs, kzs, v1), od, alA, (x1.dropAt 0 rfl), om, by rw [hZ]; exact set_rep (f := shpOf) (map_at (f := Plane.v) i0) om, all_succ hV (map_at (f := Plane.v) i0) ‹_›, by simp; omega, w1⟩
 refine exitE <| xB <| tN <| seqE <| seqE ?_
 have hall : (p.inputs.l.map Plane.v).all planeOK = true := all_of_take hV (by simp; omega)
 have hzs : zs = (p.inputs.l.map Plane.v).map shpOf ++ List.replicate p.stages.n ⟨0, 0, 0⟩ := by rw [hZ, List.take_of_length_le (by simp; omega)]; congr 2; omega
 have hordr := ordV_range (j := p.v) om; have hchk := ordV_chk (j := p.v) om
 refine rE <| pu3 <| nT <| blockE ?_
 refine loopA (γ := Nat × (List Shape) × (Option Addr) × Nat × Nat × Chunk) (fun ⟨i, ys, ays, nys, kys, cys⟩ => [(1, Pt m0 0), (7, I (p.inputs.n : Int)), (58, .slice w0 h0 x0), (59, I (h0 : Int)), (60, I (i : Int)), (8, .slice ays nys kys)]) (fun ⟨i, ys, ays, nys, kys, cys⟩ w => Sat W w (cys :: y0 :: [(m0, .cells (encJob p).toArray 28 (0, 0))] :: H :: F) /\ i <= h0 /\ (shpGo (p.inputs.n : Int) (p.stages.l.map Stage.v) ((ordV p.v).1) zs = shpGo (p.inputs.n : Int) (p.stages.l.map Stage.v) (((ordV p.v).1).drop i) ys) /\ (ys.length = p.inputs.n + p.stages.n) /\ OwnT encShape 54 3 ays nys kys ys cys) (fun ⟨i, ys, ays, nys, kys, cys⟩ => h0 - i) (0, zs, azs, nzs, kzs, czs) ⟨r0, om, by rfl, by rw [hzs]; simp; omega, hOzs⟩ ?_
 rintro ⟨i, ys, ays, nys, kys, cys⟩ ρ _ ⟨k0, hi, hS2, hyl, hOys⟩
 have hn_ys := hOys.len; have hl_ys := hOys.le
 refine sR <| pu1 <| nT <| seqE <| cD ((i : Int) < (h0 : Int)) (fun z1 => ?_) (fun z1 => ?_)
 rotate_left
 ·refine exitE <| xB <| tN <| sR <| pu4 <| zE <| retT [.slice ays nys kys, I 0, I 0] ?_
  have hk0 : shpV p.v = shpGo (p.inputs.n : Int) (p.stages.l.map Stage.v) ((ordV p.v).1) zs := by unfold shpV; rw [if_pos ‹_›, if_pos (by exact hall)]; rw [hzs, <- hms, <- hmi]; rfl
  have hk : shpV p.v = (ys, 0, 0) := by rw [hk0, hS2, List.drop_of_length_le om]; rfl
  have a2 := (k0.drops [1, 1])
  have hl : ys = (shpV p.v).1 := (by rw [hk])
  have hrd := hOys
  rw [hl] at hrd
  exact ⟨_, _, _, _, (by rw [hk]; rfl), hrd, a2⟩
 refine kT <| seqE <| blockE <| sR <| sIdxO q0 (i : Int) i runUnderlying22 sizeOf3 fun e0 _ _ l0 b2 _ => ?_
 have hox_x_51 : (p.inputs.n : Int) <= e0 /\ e0 < (p.inputs.n : Int) + (p.stages.n : Int) := by have h := hordr e0 (List.mem_of_getElem? l0); simp only [Job.v] at h; omega
 refine sLp k0 (b2.up 1 rfl) 0 (I e0) (isAgg3 _) <| pu1 <| zS <| pu1 <| sL k0 2 1 (.slice p.stages.a p.stages.n p.stages.k) (isAgg26 _) <| pu2 <| sSub e0 (p.inputs.n : Int) <| sIdx hp.stages (e0 - (p.inputs.n : Int)) runUnderlying26 sizeOf38 fun a0 _ _ d0 c2 => ?_
 obtain ⟨hsa, hsb⟩ := chk_src hchk (s := a0.v) (List.mem_map_of_mem (List.mem_of_getElem? d0))
 have hsa2 : 0 <= a0.a /\ a0.a < (p.inputs.n : Int) + (p.stages.n : Int) := by simp only [Job.v, Stage.v] at hsa; omega
 refine sLpA k0 (c2.up 3 rfl) 0 (encStage a0) (isAgg38 _) (sizeOf38 _) <| sAlloc k0 zeroValue38 fun _ _ d2 => ?_
 refine sT d2 0 0 (.agg (encStage a0).toArray) (encStage a0) (encStage a0).toArray sizeOf38 fun _ s0 => zS <| pu2 <| sL s0 0 1 (I a0.a) (isAgg3 _) <| sIdxO hOys a0.a (a0.a).toNat runUnderlying61 sizeOf54 fun b0 _ _ o0 e2 _ => sLpA s0 (e2.up 1 rfl) 0 [I b0.w, I b0.h, I b0.max_] (isAgg54 _) (sizeOf54 _) <| pu1 <| sAlloc s0 zeroValue54 fun _ _ f2 => sAlloc f2 zeroValue54 fun _ _ g2 => ?_
 refine sT g2 1 0 (.agg #[I b0.w, I b0.h, I b0.max_]) [I b0.w, I b0.h, I b0.max_] #[I b0.w, I b0.h, I b0.max_] sizeOf54 fun _ i2 => sT i2 0 0 (.agg #[I 0, I 0, I 0]) [I 0, I 0, I 0] #[I 0, I 0, I 0] sizeOf54 fun _ b1 => zQ <| lA b1 2 0 18 (isAgg38 _) (sizeOf38 _) ?_
 refine cX call127 (p15_sources a0 ⟨(RdT.flat ((hp.stagesD a0 (List.mem_of_getElem? d0)).weights.up 6 (by rfl))), (RdT.flat ((hp.stagesD a0 (List.mem_of_getElem? d0)).row.up 6 (by rfl))), (RdT.flat ((hp.stagesD a0 (List.mem_of_getElem? d0)).col.up 6 (by rfl))), (RdT.flat ((hp.stagesD a0 (List.mem_of_getElem? d0)).x.up 6 (by rfl))), (fun z hz => ((hp.stagesD a0 (List.mem_of_getElem? d0)).xD z hz).of_mem (mem_flat1 6 (by rfl))), (RdT.flat ((hp.stagesD a0 (List.mem_of_getElem? d0)).y.up 6 (by rfl))), (fun z hz => ((hp.stagesD a0 (List.mem_of_getElem? d0)).yD z hz).of_mem (mem_flat1 6 (by rfl))), (RdT.flat ((hp.stagesD a0 (List.mem_of_getElem? d0)).ops.up 6 (by rfl)))⟩ b1.flat) ?_
 rintro _ _ ⟨_, j2, _, _, rfl, c1, k2⟩
 have g0 := k2.unflat1
 have hn_az_86 := c1.len; have hl_az_86 := c1.le
 have w4 : 1 <= (srcs a0.v).length /\ (srcs a0.v).length <= 2 := srcs_len _
 refine pu2 <| nT <| cE (j2 : Int) 2 (fun l2 => ?_) (fun l2 => ?_)
 rotate_left
 ·refine kT <| seqE ?_
  have htw : ¬ twoP a0.v := fun h => by have h2 := srcs_two.2 h; omega
  refine rE <| lA g0 3 0 18 (isAgg38 _) (sizeOf38 _) <| lA g0 2 0 3 (isAgg54 _) (sizeOf54 _) <| lA g0 1 0 3 (isAgg54 _) (sizeOf54 _) ?_
  refine cR call65 (p15_of a0 b0 (⟨0, 0, 0⟩ : Shape) ⟨(RdT.flat ((hp.stagesD a0 (List.mem_of_getElem? d0)).weights.up 7 (by rfl))), (RdT.flat ((hp.stagesD a0 (List.mem_of_getElem? d0)).row.up 7 (by rfl))), (RdT.flat ((hp.stagesD a0 (List.mem_of_getElem? d0)).col.up 7 (by rfl))), (RdT.flat ((hp.stagesD a0 (List.mem_of_getElem? d0)).x.up 7 (by rfl))), (fun z hz => ((hp.stagesD a0 (List.mem_of_getElem? d0)).xD z hz).of_mem (mem_flat1 7 (by rfl))), (RdT.flat ((hp.stagesD a0 (List.mem_of_getElem? d0)).y.up 7 (by rfl))), (fun z hz => ((hp.stagesD a0 (List.mem_of_getElem? d0)).yD z hz).of_mem (mem_flat1 7 (by rfl))), (RdT.flat ((hp.stagesD a0 (List.mem_of_getElem? d0)).ops.up 7 (by rfl)))⟩ g0.flat) ?_
  intro _ m2
  refine pu3 <| sAlloc m2 zeroValue54 fun _ _ n2 => ?_
  refine sT n2 0 0 (.agg #[I ((ofV a0.v b0 (⟨0, 0, 0⟩ : Shape)).1.w), I ((ofV a0.v b0 (⟨0, 0, 0⟩ : Shape)).1.h), I ((ofV a0.v b0 (⟨0, 0, 0⟩ : Shape)).1.max_)]) [I ((ofV a0.v b0 (⟨0, 0, 0⟩ : Shape)).1.w), I ((ofV a0.v b0 (⟨0, 0, 0⟩ : Shape)).1.h), I ((ofV a0.v b0 (⟨0, 0, 0⟩ : Shape)).1.max_)] #[I ((ofV a0.v b0 (⟨0, 0, 0⟩ : Shape)).1.w), I ((ofV a0.v b0 (⟨0, 0, 0⟩ : Shape)).1.h), I ((ofV a0.v b0 (⟨0, 0, 0⟩ : Shape)).1.max_)] sizeOf54 fun _ t0 => pu1 <| zQ <| pu2 <| nT <| cN ((ofV a0.v b0 (⟨0, 0, 0⟩ : Shape)).2) 0 (fun o2 => ?_) (fun o2 => ?_)
  rotate_left
  ·refine sR <| pu5 <| zE <| tR <| tK <| tR <| tK <| retT [nS, I e0, I ((ofV a0.v b0 (⟨0, 0, 0⟩ : Shape)).2)] ?_
   have hk0 : shpV p.v = shpGo (p.inputs.n : Int) (p.stages.l.map Stage.v) ((ordV p.v).1) zs := by unfold shpV; rw [if_pos ‹_›, if_pos (by exact hall)]; rw [hzs, <- hms, <- hmi]; rfl
   have hstg : stgAt (p.stages.l.map Stage.v) (p.inputs.n : Int) e0 = a0.v := by unfold stgAt; rw [map_at (f := Stage.v) d0]; rfl
   have hsa3 : shpAt ys a0.v.a = b0 := by unfold shpAt; rw [show ys[a0.v.a.toNat]? = some b0 from o0]; rfl
   have hsb3 : (if twoP a0.v then shpAt ys a0.v.b else ⟨0, 0, 0⟩) = (⟨0, 0, 0⟩ : Shape) := by rw [if_neg htw]
   have hst : shpStep (p.inputs.n : Int) (p.stages.l.map Stage.v) e0 ys = ofV a0.v b0 (⟨0, 0, 0⟩ : Shape) := by unfold shpStep; rw [hstg, hsa3, hsb3]
   have hk : shpV p.v = ([], e0, (ofV a0.v b0 (⟨0, 0, 0⟩ : Shape)).2) := by rw [hk0, hS2, drop_at l0, shpGo, hst, if_neg ‹_›]
   have q2 := (t0.drops [0, 0, 0, 0, 0, 0, 0, 0])
   have r2 : Sat W _ ([] :: H :: F) := Sat.nilc q2
   have hl : ([] : List Shape) = (shpV p.v).1 := (by rw [hk])
   have hrd := OwnT.nil (enc := encShape) (E := 54) (sz := 3) fR
   rw [hl] at hrd
   exact ⟨_, _, _, _, (by rw [hk]; rfl), hrd, r2⟩
  refine kT <| rE <| pu2 <| lA t0 0 0 3 (isAgg54 _) (sizeOf54 _) <| sIdxO hOys e0 (e0).toNat runUnderlying61 sizeOf54 fun s2 _ _ t2 _ u2 => sStF t0 hOys u2 5 (e0).toNat 0 s2 (⟨(ofV a0.v b0 (⟨0, 0, 0⟩ : Shape)).1.w, (ofV a0.v b0 (⟨0, 0, 0⟩ : Shape)).1.h, (ofV a0.v b0 (⟨0, 0, 0⟩ : Shape)).1.max_⟩ : Shape) t2 (.agg #[I ((ofV a0.v b0 (⟨0, 0, 0⟩ : Shape)).1.w), I ((ofV a0.v b0 (⟨0, 0, 0⟩ : Shape)).1.h), I ((ofV a0.v b0 (⟨0, 0, 0⟩ : Shape)).1.max_)]) [I ((ofV a0.v b0 (⟨0, 0, 0⟩ : Shape)).1.w), I ((ofV a0.v b0 (⟨0, 0, 0⟩ : Shape)).1.h), I ((ofV a0.v b0 (⟨0, 0, 0⟩ : Shape)).1.max_)] sizeOf54 fun _ v2 w2 x2 => nB <| rE <| sAdd (i : Int) 1 <| pu1 <| nT ?_
  have hstg : stgAt (p.stages.l.map Stage.v) (p.inputs.n : Int) e0 = a0.v := by unfold stgAt; rw [map_at (f := Stage.v) d0]; rfl
  have hsa3 : shpAt ys a0.v.a = b0 := by unfold shpAt; rw [show ys[a0.v.a.toNat]? = some b0 from o0]; rfl
  have hsb3 : (if twoP a0.v then shpAt ys a0.v.b else ⟨0, 0, 0⟩) = (⟨0, 0, 0⟩ : Shape) := by rw [if_neg htw]
  have hst : shpStep (p.inputs.n : Int) (p.stages.l.map Stage.v) e0 ys = ofV a0.v b0 (⟨0, 0, 0⟩ : Shape) := by unfold shpStep; rw [hstg, hsa3, hsb3]
  exact ⟨(i + 1, (ys.set ((e0).toNat) (⟨(ofV a0.v b0 (⟨0, 0, 0⟩ : Shape)).1.w, (ofV a0.v b0 (⟨0, 0, 0⟩ : Shape)).1.h, (ofV a0.v b0 (⟨0, 0, 0⟩ : Shape)).1.max_⟩ : Shape)), ays, nys, kys, v2), od, alA, (x2.drops [0, 0, 0, 0, 0]), om, by rw [hS2, drop_at l0, shpGo, hst, if_pos ‹_›], by simp; omega, w2⟩
 have htw : twoP a0.v := srcs_two.1 om
 have hsb2 : 0 <= a0.b /\ a0.b < (p.inputs.n : Int) + (p.stages.n : Int) := by have h2 := hsb htw; simp only [Job.v, Stage.v] at h2; omega
 refine rE <| pu2 <| sL g0 3 2 (I a0.b) (isAgg3 _) <| sIdxO hOys a0.b (a0.b).toNat runUnderlying61 sizeOf54 fun c0 _ _ d1 z2 _ => sLpA g0 (z2.up 4 rfl) 0 [I c0.w, I c0.h, I c0.max_] (isAgg54 _) (sizeOf54 _) <| sT g0 1 0 (.agg #[I c0.w, I c0.h, I c0.max_]) [I c0.w, I c0.h, I c0.max_] #[I c0.w, I c0.h, I c0.max_] sizeOf54 fun _ p0 => zS <| lA p0 3 0 18 (isAgg38 _) (sizeOf38 _) <| lA p0 2 0 3 (isAgg54 _) (sizeOf54 _) <| lA p0 1 0 3 (isAgg54 _) (sizeOf54 _) ?_
 refine cR call65 (p15_of a0 b0 c0 ⟨(RdT.flat ((hp.stagesD a0 (List.mem_of_getElem? d0)).weights.up 7 (by rfl))), (RdT.flat ((hp.stagesD a0 (List.mem_of_getElem? d0)).row.up 7 (by rfl))), (RdT.flat ((hp.stagesD a0 (List.mem_of_getElem? d0)).col.up 7 (by rfl))), (RdT.flat ((hp.stagesD a0 (List.mem_of_getElem? d0)).x.up 7 (by rfl))), (fun z hz => ((hp.stagesD a0 (List.mem_of_getElem? d0)).xD z hz).of_mem (mem_flat1 7 (by rfl))), (RdT.flat ((hp.stagesD a0 (List.mem_of_getElem? d0)).y.up 7 (by rfl))), (fun z hz => ((hp.stagesD a0 (List.mem_of_getElem? d0)).yD z hz).of_mem (mem_flat1 7 (by rfl))), (RdT.flat ((hp.stagesD a0 (List.mem_of_getElem? d0)).ops.up 7 (by rfl)))⟩ p0.flat) fun _ a3 => ?_
 refine pu3 <| sAlloc a3 zeroValue54 fun _ _ b3 => ?_
 refine sT b3 0 0 (.agg #[I ((ofV a0.v b0 c0).1.w), I ((ofV a0.v b0 c0).1.h), I ((ofV a0.v b0 c0).1.max_)]) [I ((ofV a0.v b0 c0).1.w), I ((ofV a0.v b0 c0).1.h), I ((ofV a0.v b0 c0).1.max_)] #[I ((ofV a0.v b0 c0).1.w), I ((ofV a0.v b0 c0).1.h), I ((ofV a0.v b0 c0).1.max_)] sizeOf54 fun _ u0 => pu1 <| zQ <| pu2 <| nT <| cN ((ofV a0.v b0 c0).2) 0 (fun c3 => ?_) (fun c3 => ?_)
 rotate_left
 ·refine sR <| pu5 <| zE <| tR <| tK <| tR <| tK <| retT [nS, I e0, I ((ofV a0.v b0 c0).2)] ?_
  have hk0 : shpV p.v = shpGo (p.inputs.n : Int) (p.stages.l.map Stage.v) ((ordV p.v).1) zs := by unfold shpV; rw [if_pos ‹_›, if_pos (by exact hall)]; rw [hzs, <- hms, <- hmi]; rfl
  have hstg : stgAt (p.stages.l.map Stage.v) (p.inputs.n : Int) e0 = a0.v := by unfold stgAt; rw [map_at (f := Stage.v) d0]; rfl
  have hsa3 : shpAt ys a0.v.a = b0 := by unfold shpAt; rw [show ys[a0.v.a.toNat]? = some b0 from o0]; rfl
  have hsb3 : (if twoP a0.v then shpAt ys a0.v.b else ⟨0, 0, 0⟩) = c0 := by rw [if_pos htw]; unfold shpAt; rw [show ys[a0.v.b.toNat]? = some c0 from d1]; rfl
  have hst : shpStep (p.inputs.n : Int) (p.stages.l.map Stage.v) e0 ys = ofV a0.v b0 c0 := by unfold shpStep; rw [hstg, hsa3, hsb3]
  have hk : shpV p.v = ([], e0, (ofV a0.v b0 c0).2) := by rw [hk0, hS2, drop_at l0, shpGo, hst, if_neg ‹_›]
  have d3 := (u0.drops [0, 0, 0, 0, 0, 0, 0, 0])
  have e3 : Sat W _ ([] :: H :: F) := Sat.nilc d3
  have hl : ([] : List Shape) = (shpV p.v).1 := (by rw [hk])
  have hrd := OwnT.nil (enc := encShape) (E := 54) (sz := 3) fR
  rw [hl] at hrd
  exact ⟨_, _, _, _, (by rw [hk]; rfl), hrd, e3⟩
 refine kT <| rE <| pu2 <| lA u0 0 0 3 (isAgg54 _) (sizeOf54 _) <| sIdxO hOys e0 (e0).toNat runUnderlying61 sizeOf54 fun f3 _ _ g3 _ h3 => sStF u0 hOys h3 5 (e0).toNat 0 f3 (⟨(ofV a0.v b0 c0).1.w, (ofV a0.v b0 c0).1.h, (ofV a0.v b0 c0).1.max_⟩ : Shape) g3 (.agg #[I ((ofV a0.v b0 c0).1.w), I ((ofV a0.v b0 c0).1.h), I ((ofV a0.v b0 c0).1.max_)]) [I ((ofV a0.v b0 c0).1.w), I ((ofV a0.v b0 c0).1.h), I ((ofV a0.v b0 c0).1.max_)] sizeOf54 fun _ i3 j3 k3 => nB <| rE <| sAdd (i : Int) 1 <| pu1 <| nT ?_
 have hstg : stgAt (p.stages.l.map Stage.v) (p.inputs.n : Int) e0 = a0.v := by unfold stgAt; rw [map_at (f := Stage.v) d0]; rfl
 have hsa3 : shpAt ys a0.v.a = b0 := by unfold shpAt; rw [show ys[a0.v.a.toNat]? = some b0 from o0]; rfl
 have hsb3 : (if twoP a0.v then shpAt ys a0.v.b else ⟨0, 0, 0⟩) = c0 := by rw [if_pos htw]; unfold shpAt; rw [show ys[a0.v.b.toNat]? = some c0 from d1]; rfl
 have hst : shpStep (p.inputs.n : Int) (p.stages.l.map Stage.v) e0 ys = ofV a0.v b0 c0 := by unfold shpStep; rw [hstg, hsa3, hsb3]
 exact ⟨(i + 1, (ys.set ((e0).toNat) (⟨(ofV a0.v b0 c0).1.w, (ofV a0.v b0 c0).1.h, (ofV a0.v b0 c0).1.max_⟩ : Shape)), ays, nys, kys, i3), od, alA, (k3.drops [0, 0, 0, 0, 0]), om, by rw [hS2, drop_at l0, shpGo, hst, if_pos ‹_›], by simp; omega, j3⟩
theorem tape_new {cs:List Chunk} (a:Option Addr) (n k:Nat) (hS:Sat W w cs):
    Calls prog 11 #[.slice a n k] w fun e w'=>∃p:Nat,e= .returned (.pointer (some ⟨p,0,none⟩))/\Sat W w' ([(p, .cells #[.slice a n k, .int .i64 0] 85 (0,0))]::cs):=by
  refine callsA 6 func11 rfl ?_
  refine seqE<|rE<|pu1<|nilO<|tN<|seqE<|rE<|pu2 ?_
  refine sBox hS (.agg #[.slice a n k, .int .i64 0]) #[.slice a n k, .int .i64 0] ?_
  intro b_1 w_2 hS_3
  refine pu1<|nilO<|tN<|retE<|retT [.pointer (some ⟨b_1,0,none⟩)]<|?_
  exact ⟨_,rfl,hS_3⟩
theorem tmod_bd (v n:Int) (h:0<n):-n<v.tmod n/\v.tmod n<n:=by
  have h1:=Int.tmod_lt_of_pos v h
  have h2:=Int.lt_tmod_of_pos v h
  omega
theorem mod_ok {cs:List Chunk} (v n:Int) (hn:0<n) (hn2:n<=4611686018427387904) (hS:Sat W w cs):
  Calls prog 15 #[I v,I n] w fun e w'=>∃r:Int,e= .returned (I r)/\(0<=r/\r<n)/\Sat W w' cs:=by
 have hm:=tmod_bd v n hn
 refine callsA 15 func15 rfl<|sR<|pu1<|zS<|pu2<|sRem v n<|pu1<|zQ<|pu2<|nT<|cD ((v.tmod n)<0) (fun a0=>?_) (fun a0=>?_)
 rotate_left
 ·exact kS<|pu2<|zE<|retT [I (v.tmod n)]<|⟨_,rfl,om,hS⟩
 exact rE<|pu2<|sAdd (v.tmod n) n<|pu1<|zS<|pu2<|zE<|retT [I ((v.tmod n)+n)]<|⟨_,rfl,om,hS⟩
theorem tape_next {p:Nat} {a:Option Addr} {n k:Nat} {i:Int} {xs:List Int} (hR:RdT Go.E.encI 1 [H] a n k xs) (hi:0<=i/\i<=n) (hS:Sat W w ([(p, .cells #[.slice a n k,I i] 85 (0,0))]::H::F)) (m:Int) (hm:m<=4611686018427387904):
  Calls prog 13 #[Pt p 0,I m] w fun e w'=>∃r:Int,e= .returned (I r)/\(0<=r/\(r<m\/r=0))/\∃i':Int,(0<=i'/\i'<=n)/\Sat W w' ([(p, .cells #[.slice a n k,I i'] 85 (0,0))]::H::F):=by
 have hle:=hR.le
 refine callsA 39 func13 rfl<|sR<|pu1<|nT<|seqE<|seqE ?_
 by_cases e0:(m:Int)<1
 ·refine drawE [] [] [(true,[0,1,2]),(true,[3,4,5,7,8,9,6,10,11,12,13])] rfl kr trivial ?_
  have h0:=hS.drew
  exact wU [0,1,2]<|wFix 7 _ true (decide_eq_true e0)<|wU [3,4,5,7,8,9,6,10,11,12,13]<|wN<|tN<|cTt<|sR<|pu1<|zR<|retT [I 0]<|⟨_,rfl,om,_,om,h0⟩
 refine drawE [] [(6,⟨p,1,none⟩,I i),(10,⟨p,0,none⟩, .slice a n k)] [(true,[0,1,2]),(true,[3,4,5,7,8,9]),(true,[6]),(true,[10]),(true,[11,12,13])] rfl kr ⟨cI hS 0,cI hS 0,trivial⟩ ?_
 have b0:=hS.drew
 refine wU [0,1,2]<|wFix 7 _ false (decide_eq_false e0)<|wU [3,4,5,7,8,9]<|wLd (I i) 0 isAgg3<|wLd (.slice a n k) 1 isAgg22<|wU [11,12,13]<|wN<|tN<|cD (i>=(n:Int)) (fun i0=>?_) (fun i0=>?_)
 ·exact sR<|pu1<|zR<|retT [I 0]<|⟨_,rfl,om,_,om,b0⟩
 refine kS<|pu3<|sL b0 0 1 (I i) (isAgg3 _)<|sAdd i 1<|pu2<|sT b0 0 1 (I (i+1)) [I (i+1)] #[.slice a n k,I (i+1)] sizeOf3 fun _ a0=>nT<|seqE ?_
 obtain ⟨c0,f0,g0,o0,j0,k0⟩:=RdT.elem hR ((i+1)-1)
 refine drawE [12] [(3,⟨p,0,none⟩, .slice a n k),(7,⟨p,1,none⟩,I (i+1)),(10,⟨f0,g0,none⟩,I c0)] [(true,[0,1,2,4,5,6,11]),(true,[3]),(true,[7]),(true,[8]),(true,[9]),(true,[10]),(false,[12]),(true,[13])] rfl kr ⟨cI a0 0,cI a0 0, .inr ((j0.up 1 rfl).cell a0 (k:=0) rfl),trivial⟩ ?_
 have l0:=a0.drew
 refine wU [0,1,2,4,5,6,11]<|wLd (.slice a n k) 0 isAgg22<|wLd (I (i+1)) 1 isAgg3<|wSub (i+1) 1<|wY (.pointer (some ⟨f0,g0,none⟩)) rfl (fun w _=>Y_idx (a:=a) (i:=((i+1)-1)) (len:=n) (cap:=k) rfl runUnderlying22 sizeOf3 kr kr k0)<|wLd (I c0) 2 isAgg3<|wO rfl<|cX call15 (mod_ok c0 m om om l0) ?_
 rintro _ _ ⟨m0,rfl,_,d0⟩
 refine nilO ⟨⟨cI d0 0,cI d0 0,dI,trivial⟩,?_⟩
 exact wU [13]<|wN<|tN<|retE<|retT [I m0]<|⟨_,rfl,om,_,om,d0⟩
theorem tape_pick {p:Nat} {a:Option Addr} {n k:Nat} {i:Int} {xs:List Int} (hR:RdT Go.E.encI 1 [H] a n k xs) (hi:0<=i/\i<=n) (hS:Sat W w ([(p, .cells #[.slice a n k,I i] 85 (0,0))]::H::F)) {b:Option Addr} {m cap:Nat} {l:List Int} (hL:RdT Go.E.encI 1 [H] b m cap l) (h0:0<m) (hm:m<=1000000):
  Calls prog 38 #[Pt p 0, .slice b m cap] w fun e w'=>∃x:Int,e= .returned (I x)/\x∈l/\∃i':Int,(0<=i'/\i'<=n)/\Sat W w' ([(p, .cells #[.slice a n k,I i'] 85 (0,0))]::H::F):=by
 have hle:=hR.le
 refine callsA 12 func38 rfl<|sR<|pu1<|zS<|pu4<|cX call13 (tape_next (RdT.flat (hR.up 0 (by rfl))) om hS.flat1 (m:Int) om) ?_
 rintro _ _ ⟨c0,rfl,_,_,_,d0⟩
 have a0:=d0.unflat1
 exact sIdx hL c0 runUnderlying22 sizeOf3 fun b0 _ _ e0 f0=>sLp a0 (f0.up 1 rfl) 0 (I b0) (isAgg3 _)<|pu1<|zE<|retT [I b0]<|⟨_,rfl,List.mem_of_getElem? e0,_,om,a0⟩
end Go.Proofs.YtdingplbadblpaaGreat
