import Derived.Test.YtmlhcafjelkjfaaGreatP3Ab
import Derived.WalkKit
import Derived.Deep.Quiet
import Derived.KernelRfl
import Derived.Laws.BytesString
import Derived.Laws.Shifts
import Derived.Laws.IdiomStrings
import Derived.Test.YtmlhcafjelkjfaaGreatP3Api
namespace Go.E
def Tri (p:Nat) (E:TypeId) (pre mid post:List Value):Chunk:=[(p, .cells (pre++(mid++post)).toArray E (0,0))]
section
variable {p:Nat} {E:TypeId} {pre mid post:List Value}
theorem tri_at {off:Nat} {l:List Value} (h:((pre++(mid++post)).drop off).take l.length=l):PtR [Tri p E pre mid post] p off l:=
  ⟨(pre++(mid++post)).toArray,E,(0,0),by simp [Tri],by simpa using h⟩
theorem ptr_up {cs:List Chunk} {c:Chunk} {b off:Nat} {l:List Value} (i:Nat) (hi:cs[i]?=some c) (h:PtR [c] b off l):PtR cs b off l:=h.up i hi
theorem tri_el {α:Type} {enc:α->List Value} {sz k n0:Nat} {xs:List α} {x:α} (he:∀x,(enc x).length=sz) (hx:xs[k]?=some x) (h0:pre.length=n0:=by rfl):PtR [Tri p E pre (xs.flatMap enc) post] p (n0+k*sz) (enc x):=tri_at (by
  subst h0
  have hk:k<xs.length:=(List.getElem?_eq_some_iff.1 hx).1
  have h1:=flatMap_at he xs k x hx
  have h2:(k+1)*sz<=xs.length*sz:=Nat.mul_le_mul_right _ hk
  rw [Nat.add_mul,Nat.one_mul] at h2
  rw [List.drop_append,Nat.add_sub_cancel_left,List.drop_eq_nil_of_le (by omega:pre.length<=pre.length+k*sz),List.nil_append,he,List.drop_append_of_le_length (by rw [flatMap_len he];omega),List.take_append_of_le_length (by rw [List.length_drop,flatMap_len he];omega)]
  exact h1)
end
theorem wrL_left {A B vs:List Value} {o:Nat} (h:o+vs.length<=A.length):wrL (A++B) o vs=wrL A o vs++B:=by
  simp only [wrL]
  rw [List.take_append_of_le_length (by omega),List.drop_append_of_le_length (by omega)]
  simp
theorem wrL_right {A B vs:List Value} {o:Nat}:wrL (A++B) (A.length+o) vs=A++wrL B o vs:=by
  simp only [wrL]
  rw [List.take_length_add_append,Nat.add_assoc,List.drop_length_add_append]
  simp
theorem wr_right {A B vs:List Value} {o:Nat}:wr (A++B).toArray (A.length+o) vs=(A++wrL B o vs).toArray:=by
  have h:wr (A++B).toArray (A.length+o) vs=(wrL (A++B) (A.length+o) vs).toArray:=rfl
  rw [h,wrL_right]
theorem at_some {α:Type} {xs:List α} {n k:Nat} (h:xs.length=n) (hk:k<n):∃x,xs[k]?=some x:=⟨xs[k]'(by omega),by simp [show k<xs.length by omega]⟩
section
variable {P:Program} {W w:World} {cs:List Chunk} {ρ:Env} {o:Oper} {ops:Array Oper} {rest:List Oper} {n:Nat} {N:Env->World->Prop}
theorem Y_idxA (i:Int) (k:Nat) {t E:TypeId} {x y:Operand} {m sz b off:Nat} (hu:∀w,(underlying t).run P w= .ok (.array m E) w) (hsz:∀w,(sizeOf E).run P w= .ok sz w)
    (h0:0<=i:=by omega) (h1:i<m:=by omega) (ho:o.op= .indexAddr t x y:=by rfl) (hx:ev ρ x= .pointer (some ⟨b,off,none⟩):=by kernel_rfl) (hy:ev ρ y= .int .i64 i:=by kernel_rfl) (hk:i.toNat=k:=by first|rfl|omega):Yields P ρ o (.pointer (some ⟨b,off+k*sz,none⟩)) w:=by
  subst hk
  unfold Yields execOp
  rw [ho]
  simp [Instr.indexAt,hx,hy,asIntOf,hu,hsz,Instr.sureAddr,h0,h1,Addr.add]
theorem sIdxA (i:Int) (k:Nat) {t E:TypeId} {x y:Operand} {m sz b off:Nat} (hu:∀w,(underlying t).run P w= .ok (.array m E) w) (hsz:∀w,(sizeOf E).run P w= .ok sz w)
    (h:OpsE P n ops rest N (put ρ o.dst (.pointer (some ⟨b,off+k*sz,none⟩))) w) (h0:0<=i:=by omega) (h1:i<m:=by omega)
    (ho:o.op= .indexAddr t x y:=by rfl) (hg:o.guard=none:=by rfl) (hd:dstOK n o.dst=true:=by rfl) (hx:ev ρ x= .pointer (some ⟨b,off,none⟩):=by kernel_rfl) (hy:ev ρ y= .int .i64 i:=by kernel_rfl) (hk:i.toNat=k:=by first|rfl|omega):OpsE P n ops (o::rest) N ρ w:=
  stepY _ hg hd (Y_idxA i k hu hsz h0 h1 ho hx hy hk) h
theorem sTel {α:Type} {enc:α->List Value} {sz:Nat} {xs:List α} (hS:Sat W w cs) (he:∀x,(enc x).length=sz) (j i n0 k:Nat) (x x':α) (hx:xs[i]?=some x) (v:Value) (vs:List Value) {t:TypeId} {px py:Operand} {b q:Nat} {E:TypeId} {pre post:List Value} (hsz:∀w,(sizeOf t).run P w= .ok q w)
    (h:∀w',Sat W w' (cs.set j (Tri b E pre ((xs.set i x').flatMap enc) post))->OpsE P n ops rest N ρ w')
    (ho:o.op= .store t px py:=by rfl) (hg:o.guard=none:=by rfl) (hd:o.dst=none:=by rfl) (hj:cs[j]?=some (Tri b E pre (xs.flatMap enc) post):=by rfl) (h0:pre.length=n0:=by rfl)
    (hp:ev ρ px= .pointer (some ⟨b,n0+i*sz+k,none⟩):=by kernel_rfl) (hv:ev ρ py=v:=by kernel_rfl) (hvs:v.cells.toList=vs:=by kernel_rfl) (hk:vs.length=q:=by kernel_rfl) (h1:vs.all (·.oneCell')=true:=by kernel_rfl)
    (hw:wrL (enc x) k vs=enc x':=by kernel_rfl) (hle:Nat.ble (k+vs.length) sz=true:=by kernel_rfl):OpsE P n ops (o::rest) N ρ w:=by
  have hle':=Nat.le_of_ble_eq_true hle
  have hil:i<xs.length:=(List.getElem?_eq_some_iff.1 hx).1
  have hms:(i+1)*sz<=xs.length*sz:=Nat.mul_le_mul_right _ hil
  rw [Nat.add_mul,Nat.one_mul] at hms
  have hfl:=flatMap_len he xs
  refine stepStore ho hg hd hsz hp hv hvs hk (fun u hu=>List.all_eq_true.1 h1 u hu) hS j hj (by simp only [List.size_toArray,List.length_append];omega) _ (by rw [<-h0,Nat.add_assoc,wr_right,wrL_left (by omega)]) ?_
  intro w' hS'
  rw [wrL_flat he hle' xs i x x' hx hw] at hS'
  exact h w' hS'
end
def Obs {π σ:Type} (R:π->σ->Chunk->Prop) (ps:List π) (ss:List σ) (cs:List Chunk):Prop:=
  ps.length=ss.length/\cs.length=ss.length/\∀(i:Nat) p s c,ps[i]?=some p->ss[i]?=some s->cs[i]?=some c->R p s c
theorem Obs.get {π σ:Type} {R:π->σ->Chunk->Prop} {ps:List π} {ss:List σ} {cs:List Chunk} (h:Obs R ps ss cs) {i:Nat} {p:π} (hp:ps[i]?=some p):∃s c,ss[i]?=some s/\cs[i]?=some c/\R p s c:=by
  have hi:i<ps.length:=(List.getElem?_eq_some_iff.1 hp).1
  have h1:=h.1;have h2:=h.2.1
  have e1:ss[i]?=some (ss[i]'(by omega)):=by simp [show i<ss.length by omega]
  have e2:cs[i]?=some (cs[i]'(by omega)):=by simp [show i<cs.length by omega]
  exact ⟨_,_,e1,e2,h.2.2 i p _ _ hp e1 e2⟩
theorem Obs.set {π σ:Type} {R:π->σ->Chunk->Prop} {ps:List π} {ss:List σ} {cs:List Chunk} (h:Obs R ps ss cs) {i:Nat} {p:π} {s:σ} {c:Chunk} (hp:ps[i]?=some p) (hR:R p s c):Obs R ps (ss.set i s) (cs.set i c):=by
  refine ⟨by simp [h.1],by simp [h.2.1],fun j q t d hq ht hd=>?_⟩
  by_cases hij:i=j
  · subst hij
    rw [hp] at hq;cases hq
    rw [List.getElem?_set] at ht hd
    simp only [if_true] at ht hd
    split at ht
    · cases ht
      split at hd
      · cases hd;exact hR
      · cases hd
    · cases ht
  · rw [List.getElem?_set_ne hij] at ht hd
    exact h.2.2 j q t d hq ht hd
theorem Obs.snoc {π σ:Type} {R:π->σ->Chunk->Prop} {ps:List π} {ss:List σ} {cs:List Chunk} (h:Obs R ps ss cs) {p:π} {s:σ} {c:Chunk} (hR:R p s c):Obs R (ps++[p]) (ss++[s]) (cs++[c]):=by
  have h1:=h.1;have h2:=h.2.1
  refine ⟨by simp [h1],by simp [h2],fun j q t d hq ht hd=>?_⟩
  by_cases hj:j<ss.length
  · rw [List.getElem?_append_left (by omega)] at hq ht hd
    exact h.2.2 j q t d hq ht hd
  · have hjl:j=ss.length:=by
      have:=(List.getElem?_eq_some_iff.1 ht).1
      simp at this;omega
    rw [List.getElem?_append_right (by omega)] at hq ht hd
    rw [show j-ps.length=0 by omega] at hq
    rw [show j-ss.length=0 by omega] at ht
    rw [show j-cs.length=0 by omega] at hd
    simp at hq ht hd
    subst hq ht hd
    exact hR
theorem Obs.nil {π σ:Type} (R:π->σ->Chunk->Prop):Obs R [] [] []:=⟨rfl,rfl,fun i p s c h=>by simp at h⟩
end Go.E
