import Derived.Test.YtmlhcafjelkjfaaP1Ab
import Derived.WalkKit
import Derived.Deep.Quiet
import Derived.KernelRfl
import Derived.Laws.BytesString
import Derived.Laws.Shifts
import Derived.Laws.IdiomStrings
import Derived.Test.YtmlhcafjelkjfaaProg
import Derived.Test.YtmlhcafjelkjfaaP1Api
namespace Go.Proofs.Ytmlhcafjelkjfaa
open Go Go.E Go.Proofs.Try
set_option linter.all false
set_option maxRecDepth 100000
set_option maxHeartbeats 2000000
variable {W w:World} {H:Chunk} {F:List Chunk}
def twoP (s:StageV):Prop:=s.kind=6/\¬s.b=-1
instance (s:StageV):Decidable (twoP s):=by unfold twoP;infer_instance
def szP (s:Shape):Prop:=1<=s.w/\s.w<=128/\1<=s.h/\s.h<=128/\s.w*s.h<=4096/\1<=s.max_/\s.max_<=4294967296
instance (s:Shape):Decidable (szP s):=by unfold szP;infer_instance
def kernelV (q:StageV) (s t:Shape):Shape×Int:=
  if q.kind=1 then (⟨s.w,s.h,q.max_⟩,convCode s.max_ q.kW q.kH q.weights q.shift q.max_)
  else if q.kind=2 then (⟨s.w,s.h,q.max_⟩,sepCode s.max_ q.row q.col q.shift q.shift2 q.max_)
  else if q.kind=3 then (⟨q.x.length,q.y.length,q.max_⟩,resCode s.w s.h s.max_ q.x q.y q.shift q.shift2 q.max_)
  else if q.kind=4 then (if 1<=q.bins/\q.bins<=128 then (⟨q.bins,1,s.w*s.h⟩,0) else (⟨s.w,s.h,q.max_⟩,9))
  else if q.kind=5 then (if mostOK s.w s.h s.max_=true then (⟨s.w,s.h,mostV s.w s.h s.max_⟩,0) else (⟨s.w,s.h,q.max_⟩,11))
  else if pwCode q.ops (decide (q.kind=6/\¬q.b=-1)) s.max_ t.max_ q.max_=0 then (if (q.kind=6/\¬q.b=-1)/\¬(s.w=t.w/\s.h=t.h) then (⟨s.w,s.h,q.max_⟩,8) else (⟨s.w,s.h,q.max_⟩,0))
  else (⟨s.w,s.h,q.max_⟩,pwCode q.ops (decide (q.kind=6/\¬q.b=-1)) s.max_ t.max_ q.max_)
def edgeP (q:StageV) (m:Int):Prop:=(q.edgePolicy=3/\0<=q.edgeFill/\q.edgeFill<=m)\/(0<=q.edgePolicy/\q.edgePolicy<3/\q.edgeFill=0)
instance (q:StageV) (m:Int):Decidable (edgeP q m):=by unfold edgeP;infer_instance
def ofV (q:StageV) (s t:Shape):Shape×Int:=
  if fieldsP q then (if szP s/\(¬twoP q\/szP t) then (if ¬(q.kind=1\/q.kind=2\/q.kind=3)\/edgeP q s.max_ then (if (kernelV q s t).2=0 then ((kernelV q s t).1,0) else (⟨0,0,0⟩,(kernelV q s t).2)) else (⟨0,0,0⟩,1)) else (⟨0,0,0⟩,2)) else (⟨0,0,0⟩,1)
def srcs (s:StageV):List Int:=if twoP s then [s.a,s.b] else [s.a]
theorem srcs_len (s:StageV):1<=(srcs s).length/\(srcs s).length<=2:=by unfold srcs;split<;>simp
def shpOf (p:PlaneV):Shape:=⟨p.w,p.h,p.max_⟩
def shpAt (l:List Shape) (i:Int):Shape:=l[i.toNat]?.getD ⟨0,0,0⟩
def stgAt (ss:List StageV) (ni n:Int):StageV:=ss[(n-ni).toNat]?.getD ⟨0,0,0,false,0,0,0,0,[],[],[],0,0,[],[],0,[],0⟩
def shpStep (ni:Int) (ss:List StageV) (n:Int) (out:List Shape):Shape×Int:=
  ofV (stgAt ss ni n) (shpAt out (stgAt ss ni n).a) (if twoP (stgAt ss ni n) then shpAt out (stgAt ss ni n).b else ⟨0,0,0⟩)
end Go.Proofs.Ytmlhcafjelkjfaa
namespace Go.E
section
variable {P:Program} {ρ:Env} {w:World} {o:Oper}
theorem Y_shrS {t u:TypeId} {x y:Operand} {k':IntKind} (a s:Int) (ho:o.op= .binOp .shr t x y u) (hx:ev ρ x= .int .i64 a) (hy:ev ρ y= .int k' s) (hs:0<=s/\s<=60):
    Yields P ρ o (.int .i64 (a/2^s.toNat)) w:=by
  have h1:min s.toNat IntKind.i64.bits=s.toNat:=by simp [IntKind.bits];omega
  exact Y_shr .i64 k' a s _ ho hx hy hs.1 (by rw [h1])
end
end Go.E
namespace Go.E
end Go.E
