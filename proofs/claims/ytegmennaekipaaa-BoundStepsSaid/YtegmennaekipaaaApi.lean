import Derived.Test.YtegmennaekipaaaShort
import Derived.Test.YtegmennaekipaaaProg
namespace Go.Proofs.Ytegmennaekipaaa
open Go Go.E
set_option linter.unusedVariables false
set_option linter.unusedSimpArgs false
set_option linter.unnecessarySimpa false
set_option maxRecDepth 100000
set_option maxHeartbeats 2000000
variable {W w : World} {H : Chunk} {F : List Chunk}

/-- A slice: its header and what it holds. -/
structure Sl (α : Type) where
  a : Option Addr
  n : Nat
  k : Nat
  l : List α
structure Ref where
  job : Int
  task : Int
  deriving DecidableEq
def encRef (x : Ref) : List Value := [.int .i64 x.job, .int .i64 x.task]
structure Task where
  stage : Int
  part : Int
  rectX0 : Int
  rectY0 : Int
  rectX1 : Int
  rectY1 : Int
  deps : Sl Int
  rows : Int
  scratch : Int
def encTask (x : Task) : List Value := [.int .i64 x.stage, .int .i64 x.part, .int .i64 x.rectX0, .int .i64 x.rectY0, .int .i64 x.rectX1, .int .i64 x.rectY1, .slice x.deps.a x.deps.n x.deps.k, .int .i64 x.rows, .int .i64 x.scratch]
structure TaskV where
  stage : Int
  part : Int
  rectX0 : Int
  rectY0 : Int
  rectX1 : Int
  rectY1 : Int
  deps : List Int
  rows : Int
  scratch : Int
  deriving DecidableEq
def Task.v (x : Task) : TaskV := ⟨x.stage, x.part, x.rectX0, x.rectY0, x.rectX1, x.rectY1, x.deps.l, x.rows, x.scratch⟩
structure Task.Ok (cs : List Chunk) (q : Task) : Prop where
  deps : RdT encI 1 cs q.deps.a q.deps.n q.deps.k q.deps.l
theorem Task.Ok.of_mem {cs cs' : List Chunk} {x : Task} (h : Task.Ok cs x) (hm : ∀ p ∈ cs.flatten, p ∈ cs'.flatten) : Task.Ok cs' x := ⟨h.deps.of_mem hm⟩
end Go.Proofs.Ytegmennaekipaaa
