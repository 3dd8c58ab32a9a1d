import Derived.Test.YtmlhcafjelkjfaaGreatP4Ab
import Derived.WalkKit
import Derived.Deep.Quiet
import Derived.KernelRfl
import Derived.Laws.BytesString
import Derived.Laws.Shifts
import Derived.Laws.IdiomStrings
import Derived.Test.YtmlhcafjelkjfaaGreatProg
import Derived.Test.YtmlhcafjelkjfaaGreatP4La
namespace Go.Proofs.YtmlhcafjelkjfaaGreat
open Go Go.E Go.Proofs.Tryz
set_option linter.all false
set_option maxRecDepth 100000
set_option maxHeartbeats 2000000
variable {W w:World} {H:Chunk} {F:List Chunk}
theorem tapsCode_side {l:List TapV} {n:Int} (h:tapsCode l n=0):1<=(l.length:Int)/\(l.length:Int)<=128:=by
  unfold tapsCode at h
  split at h
  · omega
  · omega
theorem ofV_sz {q:StageV} {s t:Shape} (h:(ofV q s t).2=0):szP (ofV q s t).1:=by
 unfold ofV at h⊢
 split at h
 ·rename_i h1
  rw [if_pos h1]
  split at h
  ·rename_i h2
   rw [if_pos h2]
   split at h
   ·rename_i h3
    rw [if_pos h3]
    split at h
    ·rename_i h4
     rw [if_pos h4]
     have hs:=h2.1
     unfold szP at hs
     clear h h1 h2 h3
     unfold kernelV at h4⊢
     split at h4
     ·rename_i k;rw [if_pos k];unfold convCode at h4;unfold szP
      (repeat' split at h4)<;>first|(dsimp only;omega)|(exfalso;simp at h4;done)|(exfalso;omega)
     ·rename_i k1;rw [if_neg k1]
      split at h4
      ·rename_i k;rw [if_pos k];unfold sepCode at h4;unfold szP
       (repeat' split at h4)<;>first|(dsimp only;omega)|(exfalso;simp at h4;done)|(exfalso;omega)
      ·rename_i k2;rw [if_neg k2]
       split at h4
       ·rename_i k;rw [if_pos k];unfold resCode at h4;unfold szP
        split at h4
        ·rename_i e1;split at h4
         ·rename_i e2
          have l1:=tapsCode_side e1;have l2:=tapsCode_side e2
          (repeat' split at h4)<;>first|(dsimp only;omega)|(exfalso;simp at h4;done)|(exfalso;omega)
         ·rename_i e2;exact absurd h4 e2
        ·rename_i e1;exact absurd h4 e1
       ·rename_i k3;rw [if_neg k3]
        split at h4
        ·rename_i k;rw [if_pos k];unfold szP
         split at h4
         ·rename_i k5;rw [if_pos k5];have:=mul_bd (a:=s.w-1) (b:=s.h-1) (A:=s.w-1) (B:=s.h-1) om om
          have e:(s.w-1)*(s.h-1)=s.w*s.h-s.w-s.h+1:=by rw [Int.sub_mul,Int.mul_sub];omega
          dsimp only;omega
         ·exfalso;simp at h4
        ·rename_i k4;rw [if_neg k4]
         split at h4
         ·rename_i k;rw [if_pos k];unfold szP
          split at h4
          ·rename_i k5;rw [if_pos k5];have h6:=of_decide_eq_true k5;have h7:mostV s.w s.h s.max_=s.w*s.h*s.max_:=by unfold mostV;rw [if_pos k5]
           have h8:0<s.w*s.h:=Int.mul_pos om om
           have h9:0<s.w*s.h*s.max_:=Int.mul_pos h8 om
           dsimp only;rw [h7];omega
          ·exfalso;simp at h4
         ·rename_i k5;rw [if_neg k5];unfold szP
          split at h4
          ·rename_i k6;rw [if_pos k6];unfold pwCode at k6
           split at h4
           ·exfalso;simp at h4
           ·rename_i k7;rw [if_neg k7]
            split at k6
            ·split at k6
             ·dsimp only;omega
             ·exfalso;omega
            ·exfalso;rename_i k8;exact k8 k6
          ·rename_i k6;exact absurd h4 k6
    ·rename_i h4;exact absurd h h4
   ·exfalso;simp at h
  ·exfalso;simp at h
 ·exfalso;simp at h
def ordered (ni:Int) (S:List StageV):Prop:=∀(m:Nat) (s:StageV),S[m]?=some s->∀x∈srcs s,0<=x/\x<ni+m
structure Good (I:List PlaneV) (S:List StageV) (p:Int):Prop where
  pl:I.all planeOK=true
  ni:1<=I.length/\I.length<=2
  ns:S.length<=8
  pr:0<=p/\p<4
  od:ordered I.length S
theorem ordered_snoc {ni:Int} {S:List StageV} {s:StageV} (h:ordered ni S) (hs:∀x∈srcs s,0<=x/\x<ni+S.length):ordered ni (S++[s]):=by
  intro m t ht
  by_cases hm:m<S.length
  · rw [List.getElem?_append_left hm] at ht
    exact h m t ht
  · rw [List.getElem?_append_right (by omega)] at ht
    have hm2:m-S.length=0:=by
      by_cases h0:m-S.length=0
      · exact h0
      · rw [List.getElem?_eq_none (by simp;omega)] at ht;cases ht
    rw [hm2] at ht
    simp at ht
    subst ht
    intro x hx
    have:=hs x hx
    omega
theorem Good.snoc {I:List PlaneV} {S:List StageV} {p:Int} {s:StageV} (h:Good I S p) (hl:S.length+1<=8) (hs:∀x∈srcs s,0<=x/\x<(I.length:Int)+S.length):Good I (S++[s]) p:=
  ⟨h.pl,h.ni,by simp;omega,h.pr,ordered_snoc h.od hs⟩
end Go.Proofs.YtmlhcafjelkjfaaGreat
