import Derived.Test.YtcddcpaodcjecaaBits
import Derived.Test.YtcddcpaodcjecaaProg
namespace Go.Proofs.Ytcddcpaodcjecaa
open Go Go.E
set_option linter.unusedVariables false
set_option linter.unusedSimpArgs false
set_option linter.unnecessarySimpa false
set_option maxRecDepth 100000
set_option maxHeartbeats 2000000

/-- A slice: its header and what it holds. -/
-- squeezed
structure Sl (α : Type) where
  a : Option Addr
  n : Nat
  k : Nat
  l : List α
structure Tap where
  first : Int
  weights : Sl Int
def encTap (x : Tap) : List Value := [.int .i64 x.first, .slice x.weights.a x.weights.n x.weights.k]
structure TapV where
  first : Int
  weights : List Int
  deriving DecidableEq
def Tap.v (x : Tap) : TapV := ⟨x.first, x.weights.l⟩
structure Tap.Ok (cs : List Chunk) (q : Tap) : Prop where
  weights : RdT encI 1 cs q.weights.a q.weights.n q.weights.k q.weights.l
theorem Tap.Ok.of_mem {cs cs' : List Chunk} {x : Tap} (h : Tap.Ok cs x) (hm : ∀ p ∈ cs.flatten, p ∈ cs'.flatten) : Tap.Ok cs' x := ⟨h.weights.of_mem hm⟩
structure POp where
  code : Int
  arg : Int
  deriving DecidableEq
def encPOp (x : POp) : List Value := [.int .i64 x.code, .int .i64 x.arg]
structure Plane where
  w : Int
  h : Int
  max_ : Int
  pix : Sl Int
def encPlane (x : Plane) : List Value := [.int .i64 x.w, .int .i64 x.h, .int .i64 x.max_, .slice x.pix.a x.pix.n x.pix.k]
structure PlaneV where
  w : Int
  h : Int
  max_ : Int
  pix : List Int
  deriving DecidableEq
def Plane.v (x : Plane) : PlaneV := ⟨x.w, x.h, x.max_, x.pix.l⟩
structure Plane.Ok (cs : List Chunk) (q : Plane) : Prop where
  pix : RdT encI 1 cs q.pix.a q.pix.n q.pix.k q.pix.l
theorem Plane.Ok.of_mem {cs cs' : List Chunk} {x : Plane} (h : Plane.Ok cs x) (hm : ∀ p ∈ cs.flatten, p ∈ cs'.flatten) : Plane.Ok cs' x := ⟨h.pix.of_mem hm⟩
structure Stage where
  kind : Int
  a : Int
  b : Int
  barrier : Bool
  edgePolicy : Int
  edgeFill : Int
  kW : Int
  kH : Int
  weights : Sl Int
  row : Sl Int
  col : Sl Int
  shift : Int
  shift2 : Int
  x : Sl Tap
  y : Sl Tap
  bins : Int
  ops : Sl POp
  max_ : Int
def encStage (x : Stage) : List Value := [.int .i64 x.kind, .int .i64 x.a, .int .i64 x.b, .bool x.barrier, .int .i64 x.edgePolicy, .int .i64 x.edgeFill, .int .i64 x.kW, .int .i64 x.kH, .slice x.weights.a x.weights.n x.weights.k, .slice x.row.a x.row.n x.row.k, .slice x.col.a x.col.n x.col.k, .int .i64 x.shift, .int .i64 x.shift2, .slice x.x.a x.x.n x.x.k, .slice x.y.a x.y.n x.y.k, .int .i64 x.bins, .slice x.ops.a x.ops.n x.ops.k, .int .i64 x.max_]
structure StageV where
  kind : Int
  a : Int
  b : Int
  barrier : Bool
  edgePolicy : Int
  edgeFill : Int
  kW : Int
  kH : Int
  weights : List Int
  row : List Int
  col : List Int
  shift : Int
  shift2 : Int
  x : List TapV
  y : List TapV
  bins : Int
  ops : List POp
  max_ : Int
  deriving DecidableEq
def Stage.v (x : Stage) : StageV := ⟨x.kind, x.a, x.b, x.barrier, x.edgePolicy, x.edgeFill, x.kW, x.kH, x.weights.l, x.row.l, x.col.l, x.shift, x.shift2, x.x.l.map Tap.v, x.y.l.map Tap.v, x.bins, x.ops.l, x.max_⟩
structure Stage.Ok (cs : List Chunk) (q : Stage) : Prop where
  weights : RdT encI 1 cs q.weights.a q.weights.n q.weights.k q.weights.l
  row : RdT encI 1 cs q.row.a q.row.n q.row.k q.row.l
  col : RdT encI 1 cs q.col.a q.col.n q.col.k q.col.l
  x : RdT encTap 2 cs q.x.a q.x.n q.x.k q.x.l
  xD : ∀ z ∈ q.x.l, Tap.Ok cs z
  y : RdT encTap 2 cs q.y.a q.y.n q.y.k q.y.l
  yD : ∀ z ∈ q.y.l, Tap.Ok cs z
  ops : RdT encPOp 2 cs q.ops.a q.ops.n q.ops.k q.ops.l
theorem Stage.Ok.of_mem {cs cs' : List Chunk} {x : Stage} (h : Stage.Ok cs x) (hm : ∀ p ∈ cs.flatten, p ∈ cs'.flatten) : Stage.Ok cs' x := ⟨h.weights.of_mem hm, h.row.of_mem hm, h.col.of_mem hm, h.x.of_mem hm, fun y hy => (h.xD y hy).of_mem hm, h.y.of_mem hm, fun y hy => (h.yD y hy).of_mem hm, h.ops.of_mem hm⟩
structure Job where
  inputs : Sl Plane
  stages : Sl Stage
  outputs : Sl Int
  priority : Int
def encJob (x : Job) : List Value := [.slice x.inputs.a x.inputs.n x.inputs.k, .slice x.stages.a x.stages.n x.stages.k, .slice x.outputs.a x.outputs.n x.outputs.k, .int .i64 x.priority]
structure JobV where
  inputs : List PlaneV
  stages : List StageV
  outputs : List Int
  priority : Int
  deriving DecidableEq
def Job.v (x : Job) : JobV := ⟨x.inputs.l.map Plane.v, x.stages.l.map Stage.v, x.outputs.l, x.priority⟩
structure Job.Ok (cs : List Chunk) (q : Job) : Prop where
  inputs : RdT encPlane 4 cs q.inputs.a q.inputs.n q.inputs.k q.inputs.l
  inputsD : ∀ z ∈ q.inputs.l, Plane.Ok cs z
  stages : RdT encStage 18 cs q.stages.a q.stages.n q.stages.k q.stages.l
  stagesD : ∀ z ∈ q.stages.l, Stage.Ok cs z
  outputs : RdT encI 1 cs q.outputs.a q.outputs.n q.outputs.k q.outputs.l
theorem Job.Ok.of_mem {cs cs' : List Chunk} {x : Job} (h : Job.Ok cs x) (hm : ∀ p ∈ cs.flatten, p ∈ cs'.flatten) : Job.Ok cs' x := ⟨h.inputs.of_mem hm, fun y hy => (h.inputsD y hy).of_mem hm, h.stages.of_mem hm, fun y hy => (h.stagesD y hy).of_mem hm, h.outputs.of_mem hm⟩
structure Shape where
  w : Int
  h : Int
  max_ : Int
  deriving DecidableEq
def encShape (x : Shape) : List Value := [.int .i64 x.w, .int .i64 x.h, .int .i64 x.max_]
end Go.Proofs.Ytcddcpaodcjecaa
