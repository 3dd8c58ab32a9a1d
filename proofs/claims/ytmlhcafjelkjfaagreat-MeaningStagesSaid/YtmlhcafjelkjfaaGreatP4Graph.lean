import Derived.Test.YtmlhcafjelkjfaaGreatP4Ab
import Derived.WalkKit
import Derived.Deep.Quiet
import Derived.KernelRfl
import Derived.Laws.BytesString
import Derived.Laws.Shifts
import Derived.Laws.IdiomStrings
import Derived.Test.YtmlhcafjelkjfaaGreatProg
import Derived.Test.YtmlhcafjelkjfaaGreatP4RefS
namespace Go.Proofs.YtmlhcafjelkjfaaGreat
open Go Go.E Go.Proofs.Tryz
set_option linter.all false
set_option maxRecDepth 100000
set_option maxHeartbeats 2000000
variable {W w:World} {H:Chunk} {F:List Chunk}
def srcs (s:StageV):List Int:=if twoP s then [s.a,s.b] else [s.a]
theorem srcs_len (s:StageV):1<=(srcs s).length/\(srcs s).length<=2:=by unfold srcs;split<;>simp
def inR (n:Int) (l:List Int):Bool:=l.all fun x=>decide (0<=x/\x<n)
def chkCode (j:JobV):Int:=
  if 1<=j.inputs.length/\1<=j.stages.length/\j.inputs.length+j.stages.length<=16/\1<=j.outputs.length/\j.outputs.length<=16 then (if 0<=j.priority/\j.priority<4 then
    (if j.stages.all (fun s=>inR (j.inputs.length+j.stages.length) (srcs s))=true then (if inR (j.inputs.length+j.stages.length) j.outputs=true then 0 else 6) else 6) else 2) else 5
def ordOK (ni:Int) (out:List Int) (s:StageV):Bool:=(srcs s).all fun x=>decide (x<ni\/x∈out)
def ordPick (ni:Int) (out:List Int):List StageV->Int->Int
  |[],_=>-1
  |s::l,i=>if (decide (¬(ni+i)∈out)&&ordOK ni out s)=true then ni+i else ordPick ni out l (i+1)
def ordGo (ni:Int) (ss:List StageV):Nat->List Int->Option (List Int)
  |0,out=>some out
  |k+1,out=>if ordPick ni out ss 0<0 then none else ordGo ni ss k (out++[ordPick ni out ss 0])
def ordV (j:JobV):List Int×Int:=if chkCode j=0 then (match ordGo j.inputs.length j.stages j.stages.length [] with|some l=>(l,0)|none=>([],7)) else ([],chkCode j)
theorem ordPick_range {ni:Int} {out:List Int} {n:Nat}:∀(l:List StageV) (i:Nat),i+l.length=n->0<=ordPick ni out l i->ni<=ordPick ni out l i/\ordPick ni out l i<ni+n
  |[],i,_,h=>by simp [ordPick] at h
  |s::l,i,hl,h=>by
    unfold ordPick at h⊢
    simp only [List.length_cons] at hl
    split
    · omega
    · rename_i hc
      rw [if_neg hc] at h
      exact ordPick_range l (i+1) (by omega) h
theorem ordGo_range {ni:Int} {ss:List StageV}:∀(k:Nat) (out l:List Int),(∀x∈out,ni<=x/\x<ni+ss.length)->ordGo ni ss k out=some l->∀x∈l,ni<=x/\x<ni+ss.length
 |0,out,l,ho,h=>by simp only [ordGo,Option.some.injEq] at h;subst h;exact ho
 |k+1,out,l,ho,h=>by
  unfold ordGo at h
  split at h
  ·cases h
  ·refine ordGo_range k _ l (fun x hx=>?_) h
   rcases List.mem_append.1 hx with h1|h1
   ·exact ho x h1
   ·simp only [List.mem_singleton] at h1
    subst h1
    have h2:(0:Int)<=ordPick ni out ss ((0:Nat):Int):=by have e:((0:Nat):Int)=0:=rfl;rw [e];omega
    exact ordPick_range ss 0 om h2
theorem ordV_range {j:JobV} (h:(ordV j).2=0):∀x∈(ordV j).1,(j.inputs.length:Int)<=x/\x<j.inputs.length+j.stages.length:=by
  unfold ordV at*
  split at h
  · rename_i hc
    rw [if_pos hc]
    split at h
    · rename_i l hl
      exact ordGo_range _ _ _ (fun x hx=>by cases hx) hl
    · simp at h
  · rename_i hc
    exact absurd h hc
theorem ordV_chk {j:JobV} (h:(ordV j).2=0):chkCode j=0:=by
  unfold ordV at h
  split at h
  · assumption
  · exact h
def shpOf (p:PlaneV):Shape:=⟨p.w,p.h,p.max_⟩
def shpAt (l:List Shape) (i:Int):Shape:=l[i.toNat]?.getD ⟨0,0,0⟩
def stgAt (ss:List StageV) (ni n:Int):StageV:=ss[(n-ni).toNat]?.getD ⟨0,0,0,false,0,0,0,0,[],[],[],0,0,[],[],0,[],0⟩
def shpStep (ni:Int) (ss:List StageV) (n:Int) (out:List Shape):Shape×Int:=
  ofV (stgAt ss ni n) (shpAt out (stgAt ss ni n).a) (if twoP (stgAt ss ni n) then shpAt out (stgAt ss ni n).b else ⟨0,0,0⟩)
def shpGo (ni:Int) (ss:List StageV):List Int->List Shape->List Shape×Int×Int
  |[],out=>(out,0,0)
  |n::l,out=>if (shpStep ni ss n out).2=0 then shpGo ni ss l (out.set n.toNat (shpStep ni ss n out).1) else ([],n,(shpStep ni ss n out).2)
def shpV (j:JobV):List Shape×Int×Int:=
  if (ordV j).2=0 then (if j.inputs.all planeOK=true then shpGo j.inputs.length j.stages (ordV j).1 (j.inputs.map shpOf++List.replicate j.stages.length ⟨0,0,0⟩) else ([],(j.inputs.takeWhile planeOK).length,1)) else ([],0,(ordV j).2)
theorem takeWhile_at {α:Type} {p:α->Bool}:∀{l:List α} {i:Nat} {x:α},(l.take i).all p=true->l[i]?=some x->p x=false->(l.takeWhile p).length=i
  |[],i,x,_,h,_=>by simp at h
  |y::l,0,x,_,h,e=>by simp at h;subst h;simp [e]
  |y::l,i+1,x,h0,h,e=>by
    simp only [List.take_succ_cons,List.all_cons,Bool.and_eq_true] at h0
    rw [List.takeWhile_cons,if_pos h0.1]
    simp only [List.length_cons]
    rw [takeWhile_at h0.2 (by simpa using h) e]
theorem chk_src {j:JobV} (h:chkCode j=0) {s:StageV} (hs:s∈j.stages):(0<=s.a/\s.a<j.inputs.length+j.stages.length)/\(twoP s->0<=s.b/\s.b<j.inputs.length+j.stages.length):=by
  unfold chkCode at h
  split at h
  · split at h
    · split at h
      · rename_i hall
        have h1:=List.all_eq_true.1 hall s hs
        have h2:=fun x hx=>of_decide_eq_true (List.all_eq_true.1 h1 x hx)
        constructor
        · exact h2 s.a (by unfold srcs;split<;>simp)
        · intro ht;exact h2 s.b (by unfold srcs;rw [if_pos ht];simp)
      · omega
    · omega
  · omega
theorem r17_of (p:Plane) (hp:Plane.Ok [H] p) (hS:Sat W w (H::F)):
  Ro prog 25 #[.agg (encPlane p).toArray] (.agg #[I p.w,I p.h,I p.max_]) W w (H::F):=by
 have hl_p_pix:=hp.pix.le;have hn_p_pix:=hp.pix.len
 refine callsA 10 func25 rfl<|sR<|sBox hS (.agg (encPlane p).toArray) (encPlane p).toArray fun _ _ c0=>sAlloc c0 zeroValue65 fun _ _ a0=>zS<|pu1<|sL a0 1 0 (I p.w) (isAgg3 _)<|pu1<|sL a0 1 1 (I p.h) (isAgg3 _)<|pu1<|sL a0 1 2 (I p.max_) (isAgg3 _)<|pu1 ?_
 exact sT a0 0 0 (.agg #[I p.w,I p.h,I p.max_]) [I p.w,I p.h,I p.max_] #[I p.w,I p.h,I p.max_] sizeOf65 fun _ b0=>zE<|retN (vs:=[.agg #[I p.w,I p.h,I p.max_]]) rfl (.cons (.cell _ _ _ _ kr (lvA b0 0 0 [I p.w,I p.h,I p.max_] (isAgg65 _) (sizeOf65 _) rfl rfl rfl)) .nil)<|⟨rfl,(b0.drops [0,0])⟩
end Go.Proofs.YtmlhcafjelkjfaaGreat
namespace Go.E
section
variable {P:Program} {ρ:Env} {w:World} {o:Oper}
theorem Y_shrS {t u:TypeId} {x y:Operand} {k':IntKind} (a s:Int) (ho:o.op= .binOp .shr t x y u) (hx:ev ρ x= .int .i64 a) (hy:ev ρ y= .int k' s) (hs:0<=s/\s<=60):
    Yields P ρ o (.int .i64 (a/2^s.toNat)) w:=by
  have h1:min s.toNat IntKind.i64.bits=s.toNat:=by simp [IntKind.bits];omega
  exact Y_shr .i64 k' a s _ ho hx hy hs.1 (by rw [h1])
end
end Go.E
namespace Go.E
theorem Sat.flat3 {W w:World} {c d e:Chunk} {cs:List Chunk} (h:Sat W w (c::d::e::cs)):Sat W w [c,d,e,cs.flatten]:=h.perm (by simp)
def encKB (x:Bool):List Value:=[.bool x]
end Go.E
