import Derived.WalkKit
import Derived.Deep.Quiet
import Derived.KernelRfl
import Derived.Laws.BytesString
import Derived.Laws.Shifts
import Derived.Laws.IdiomStrings
import Derived.OpenShut
import Derived.Test.YtdingplbadblpaaGreatProg
import Derived.Test.YtdingplbadblpaaGreatR3Q3Short
namespace Go.E
set_option linter.all false
abbrev nS:Value:= .slice none 0 0
theorem rB {a b:Bool} (h:a=b):Ending.returned (.bool a)= .returned (.bool b):=congrArg (fun b=>Ending.returned (.bool b)) h
theorem bq {a b:Bool} (h:a=b:=by first|rfl|(rw [Bool.eq_iff_iff];simp only [decide_eq_true_eq,beq_iff_eq,bne_iff_ne,ne_eq,Bool.not_eq_true',decide_eq_false_iff_not,true_iff,false_iff,iff_true,iff_false,Bool.false_eq_true,Bool.and_eq_true,Bool.or_eq_true,gt_iff_lt,ge_iff_le]<;>omega)|(rw [Bool.eq_iff_iff];simp [*]<;>omega)|(simp_all;done)):a=b:=h
theorem bs {a b:Bool} (h:a=b:=by rw [Bool.eq_iff_iff];simp_all):a=b:=h
theorem bm {a b:Bool} (h:a=b:=by rw [Bool.eq_iff_iff];simp only [decide_eq_true_eq,beq_iff_eq,bne_iff_ne,ne_eq,Bool.not_eq_true',decide_eq_false_iff_not,gt_iff_lt,ge_iff_le,Bool.and_eq_true,Bool.or_eq_true,Bool.not_eq_eq_eq_not,Bool.not_true,Bool.and_eq_false_imp,beq_eq_false_iff_ne]<;>omega):a=b:=h
section
variable {P:Program} {n:Nat} {ρ:Env} {W w:World} {cs:List Chunk} {ops:Array Oper} {rest:List Oper} {N:Env->World->Prop} {K:Exit->Env->World->Prop}
theorem cI {A:Prop} {b off:Nat} {c:Array Value} {E:TypeId} {f:Nat×Nat} {v:Value} (h:Sat W w cs) (i:Nat) (hi:cs[i]?=some [(b, .cells c E f)]:=by rfl) (hv:c[off]?=some v:=by rfl):A\/w.cell? ⟨b,off,none⟩=some v:= .inr (h.cell i hi hv)
theorem zS {K2:Exit->Env->World->Prop} {id:Nat} {l:List Oper} {y:Code} (h:OpsE P n l.toArray l (thenK (CodeE P n y K) K .normal) ρ w):OpsE P n ops [] (thenK (CodeE P n (.seq (.region id l.toArray false) y) K) K2 .normal) ρ w:=nT (sR h)
theorem zE {K2:Exit->Env->World->Prop} (h:K .ret ρ w):OpsE P n ops [] (thenK (CodeE P n .ret K) K2 .normal) ρ w:=nT (retE h)
theorem zR {N2:Env->World->Prop} {K2:Exit->Env->World->Prop} (h:K .ret ρ w):OpsE P n ops [] (thenK (CodeE P n .ret (thenK N2 K)) K2 .normal) ρ w:=nT (retE (thenK_r h))
theorem zB {N2:Env->World->Prop} {id:Nat} {K2:Exit->Env->World->Prop} (h:K .ret ρ w):OpsE P n ops [] (thenK (CodeE P n .ret (blockK id (thenK N2 K))) K2 .normal) ρ w:=nT (retE (blockK_r (thenK_r h)))
theorem zQ {K2:Exit->Env->World->Prop} {id:Nat} {l:List Oper} {y z:Code} (h:OpsE P n l.toArray l (thenK (CodeE P n y (thenK (CodeE P n z K) K)) (thenK (CodeE P n z K) K) .normal) ρ w):OpsE P n ops [] (thenK (CodeE P n (.seq (.seq (.region id l.toArray false) y) z) K) K2 .normal) ρ w:=nT (seqE (sR h))
theorem zC {K2:Exit->Env->World->Prop} {id:Nat} {l:List Oper} {c:Operand} {y z:Code} (h:OpsE P n l.toArray l (thenK (CodeE P n y K) K .normal) ρ w) (hc:ev ρ c= .bool true:=by kernel_rfl):OpsE P n ops [] (thenK (CodeE P n (.cond c (.seq (.region id l.toArray false) y) z) K) K2 .normal) ρ w:=nT (cTt (sR h) hc)
theorem kS {id:Nat} {l:List Oper} {y:Code} {K2:Exit->Env->World->Prop} (h:OpsE P n l.toArray l (thenK (CodeE P n y K) K .normal) ρ w):CodeE P n .skip (thenK (CodeE P n (.seq (.region id l.toArray false) y) K) K2) ρ w:=kT (sR h)
theorem rE {id:Nat} {l:List Oper} (h:OpsE P n l.toArray l (K .normal) ρ w):CodeE P n (.region id l.toArray false) K ρ w:=regionE h
theorem tN {N:Env->World->Prop} (h:N ρ w):thenK N K .normal ρ w:=h
theorem tK {N:Env->World->Prop} (h:K .ret ρ w):thenK N K .ret ρ w:=h
theorem bR {id:Nat} (h:K .ret ρ w):blockK id K .ret ρ w:=h
theorem bN {id:Nat} (h:K .normal ρ w):blockK id K .normal ρ w:=h
end
end Go.E

namespace Go.Proofs.YtdingplbadblpaaGreat
open Go Go.E Go.Proofs.Tryz
set_option linter.all false
set_option maxRecDepth 100000
set_option maxHeartbeats 2000000
variable {W w:World} {H:Chunk} {F:List Chunk}
structure Sl (α:Type) where
  a:Option Addr
  n:Nat
  k:Nat
  l:List α
structure Tap where
  first:Int
  weights:Sl Int
def encTap (x:Tap):List Value:=[.int .i64 x.first, .slice x.weights.a x.weights.n x.weights.k]
structure TapV where
  first:Int
  weights:List Int
  deriving DecidableEq
def Tap.v (x:Tap):TapV:=⟨x.first,x.weights.l⟩
structure Tap.Ok (cs:List Chunk) (q:Tap):Prop where
  weights:RdT Go.E.encI 1 cs q.weights.a q.weights.n q.weights.k q.weights.l
theorem Tap.Ok.of_mem {cs cs':List Chunk} {x:Tap} (h:Tap.Ok cs x) (hm:∀p∈cs.flatten,p∈cs'.flatten):Tap.Ok cs' x:=⟨h.weights.of_mem hm⟩
structure POp where
  code:Int
  arg:Int
  deriving DecidableEq
def encPOp (x:POp):List Value:=[.int .i64 x.code, .int .i64 x.arg]
structure Plane where
  w:Int
  h:Int
  max_:Int
  pix:Sl Int
def encPlane (x:Plane):List Value:=[.int .i64 x.w, .int .i64 x.h, .int .i64 x.max_, .slice x.pix.a x.pix.n x.pix.k]
structure PlaneV where
  w:Int
  h:Int
  max_:Int
  pix:List Int
  deriving DecidableEq
def Plane.v (x:Plane):PlaneV:=⟨x.w,x.h,x.max_,x.pix.l⟩
structure Plane.Ok (cs:List Chunk) (q:Plane):Prop where
  pix:RdT Go.E.encI 1 cs q.pix.a q.pix.n q.pix.k q.pix.l
theorem Plane.Ok.of_mem {cs cs':List Chunk} {x:Plane} (h:Plane.Ok cs x) (hm:∀p∈cs.flatten,p∈cs'.flatten):Plane.Ok cs' x:=⟨h.pix.of_mem hm⟩
structure Stage where
  kind:Int
  a:Int
  b:Int
  barrier:Bool
  edgePolicy:Int
  edgeFill:Int
  kW:Int
  kH:Int
  weights:Sl Int
  row:Sl Int
  col:Sl Int
  shift:Int
  shift2:Int
  x:Sl Tap
  y:Sl Tap
  bins:Int
  ops:Sl POp
  max_:Int
def encStage (x:Stage):List Value:=[.int .i64 x.kind, .int .i64 x.a, .int .i64 x.b, .bool x.barrier, .int .i64 x.edgePolicy, .int .i64 x.edgeFill, .int .i64 x.kW, .int .i64 x.kH, .slice x.weights.a x.weights.n x.weights.k, .slice x.row.a x.row.n x.row.k, .slice x.col.a x.col.n x.col.k, .int .i64 x.shift, .int .i64 x.shift2, .slice x.x.a x.x.n x.x.k, .slice x.y.a x.y.n x.y.k, .int .i64 x.bins, .slice x.ops.a x.ops.n x.ops.k, .int .i64 x.max_]
structure StageV where
  kind:Int
  a:Int
  b:Int
  barrier:Bool
  edgePolicy:Int
  edgeFill:Int
  kW:Int
  kH:Int
  weights:List Int
  row:List Int
  col:List Int
  shift:Int
  shift2:Int
  x:List TapV
  y:List TapV
  bins:Int
  ops:List POp
  max_:Int
  deriving DecidableEq
def Stage.v (x:Stage):StageV:=⟨x.kind,x.a,x.b,x.barrier,x.edgePolicy,x.edgeFill,x.kW,x.kH,x.weights.l,x.row.l,x.col.l,x.shift,x.shift2,x.x.l.map Tap.v,x.y.l.map Tap.v,x.bins,x.ops.l,x.max_⟩
structure Stage.Ok (cs:List Chunk) (q:Stage):Prop where
  weights:RdT Go.E.encI 1 cs q.weights.a q.weights.n q.weights.k q.weights.l
  row:RdT Go.E.encI 1 cs q.row.a q.row.n q.row.k q.row.l
  col:RdT Go.E.encI 1 cs q.col.a q.col.n q.col.k q.col.l
  x:RdT encTap 2 cs q.x.a q.x.n q.x.k q.x.l
  xD:∀z∈q.x.l,Tap.Ok cs z
  y:RdT encTap 2 cs q.y.a q.y.n q.y.k q.y.l
  yD:∀z∈q.y.l,Tap.Ok cs z
  ops:RdT encPOp 2 cs q.ops.a q.ops.n q.ops.k q.ops.l
theorem Stage.Ok.of_mem {cs cs':List Chunk} {x:Stage} (h:Stage.Ok cs x) (hm:∀p∈cs.flatten,p∈cs'.flatten):Stage.Ok cs' x:=⟨h.weights.of_mem hm,h.row.of_mem hm,h.col.of_mem hm,h.x.of_mem hm,fun y hy=>(h.xD y hy).of_mem hm,h.y.of_mem hm,fun y hy=>(h.yD y hy).of_mem hm,h.ops.of_mem hm⟩
structure Job where
  inputs:Sl Plane
  stages:Sl Stage
  outputs:Sl Int
  priority:Int
def encJob (x:Job):List Value:=[.slice x.inputs.a x.inputs.n x.inputs.k, .slice x.stages.a x.stages.n x.stages.k, .slice x.outputs.a x.outputs.n x.outputs.k, .int .i64 x.priority]
structure JobV where
  inputs:List PlaneV
  stages:List StageV
  outputs:List Int
  priority:Int
  deriving DecidableEq
def Job.v (x:Job):JobV:=⟨x.inputs.l.map Plane.v,x.stages.l.map Stage.v,x.outputs.l,x.priority⟩
structure Job.Ok (cs:List Chunk) (q:Job):Prop where
  inputs:RdT encPlane 4 cs q.inputs.a q.inputs.n q.inputs.k q.inputs.l
  inputsD:∀z∈q.inputs.l,Plane.Ok cs z
  stages:RdT encStage 18 cs q.stages.a q.stages.n q.stages.k q.stages.l
  stagesD:∀z∈q.stages.l,Stage.Ok cs z
  outputs:RdT Go.E.encI 1 cs q.outputs.a q.outputs.n q.outputs.k q.outputs.l
theorem Job.Ok.of_mem {cs cs':List Chunk} {x:Job} (h:Job.Ok cs x) (hm:∀p∈cs.flatten,p∈cs'.flatten):Job.Ok cs' x:=⟨h.inputs.of_mem hm,fun y hy=>(h.inputsD y hy).of_mem hm,h.stages.of_mem hm,fun y hy=>(h.stagesD y hy).of_mem hm,h.outputs.of_mem hm⟩
structure Shape where
  w:Int
  h:Int
  max_:Int
  deriving DecidableEq
def encShape (x:Shape):List Value:=[.int .i64 x.w, .int .i64 x.h, .int .i64 x.max_]
structure Task where
  stage:Int
  part:Int
  rectX0:Int
  rectY0:Int
  rectX1:Int
  rectY1:Int
  deps:Sl Int
  rows:Int
  scratch:Int
def encTask (x:Task):List Value:=[.int .i64 x.stage, .int .i64 x.part, .int .i64 x.rectX0, .int .i64 x.rectY0, .int .i64 x.rectX1, .int .i64 x.rectY1, .slice x.deps.a x.deps.n x.deps.k, .int .i64 x.rows, .int .i64 x.scratch]
structure TaskV where
  stage:Int
  part:Int
  rectX0:Int
  rectY0:Int
  rectX1:Int
  rectY1:Int
  deps:List Int
  rows:Int
  scratch:Int
  deriving DecidableEq
def Task.v (x:Task):TaskV:=⟨x.stage,x.part,x.rectX0,x.rectY0,x.rectX1,x.rectY1,x.deps.l,x.rows,x.scratch⟩
structure Task.Ok (cs:List Chunk) (q:Task):Prop where
  deps:RdT Go.E.encI 1 cs q.deps.a q.deps.n q.deps.k q.deps.l
theorem Task.Ok.of_mem {cs cs':List Chunk} {x:Task} (h:Task.Ok cs x) (hm:∀p∈cs.flatten,p∈cs'.flatten):Task.Ok cs' x:=⟨h.deps.of_mem hm⟩
def be8 (n:Int):List Int:=[n%18446744073709551616/72057594037927936%256,n%18446744073709551616/281474976710656%256,n%18446744073709551616/1099511627776%256,n%18446744073709551616/4294967296%256,n%18446744073709551616/16777216%256,n%18446744073709551616/65536%256,n%18446744073709551616/256%256,n%18446744073709551616/1%256]
theorem be8_len (n:Int):(be8 n).length=8:=rfl
theorem be8_bytes (n:Int):Bytes (be8 n):=by
  intro b hb
  simp only [be8,List.mem_cons,List.not_mem_nil,or_false] at hb
  rcases hb with rfl|rfl|rfl|rfl|rfl|rfl|rfl|rfl<;>omega
def bytesOf (l:List Int):List Int:=l.flatMap be8
theorem bytesOf_app (a b:List Int):bytesOf (a++b)=bytesOf a++bytesOf b:=by simp [bytesOf]
theorem bytesOf_cons (a:Int) (b:List Int):bytesOf (a::b)=be8 a++bytesOf b:=by simp [bytesOf]
theorem bytesOf_len (l:List Int):(bytesOf l).length=8*l.length:=by
  induction l with
  |nil=>rfl
  |cons x l ih=>rw [bytesOf_cons];simp [ih,be8_len];omega
theorem bytesOf_bytes (l:List Int):Bytes (bytesOf l):=by
  intro b hb
  obtain ⟨n,_,h⟩:=List.mem_flatMap.1 hb
  exact be8_bytes n b h
theorem Bytes.app {a b:List Int} (ha:Bytes a) (hb:Bytes b):Bytes (a++b):=by
  intro x hx
  rcases List.mem_append.1 hx with h|h
  · exact ha x h
  · exact hb x h
def nInts (l:List Int):List Int:=(l.length:Int)::l
def nTap (t:TapV):List Int:=t.first::nInts t.weights
def nTaps (l:List TapV):List Int:=(l.length:Int)::l.flatMap nTap
def nOp (p:POp):List Int:=[p.code,p.arg]
def nOps (l:List POp):List Int:=(l.length:Int)::l.flatMap nOp
def nBool (b:Bool):Int:=if b then 1 else 0
def nStage (s:StageV):List Int:=
  [s.kind,s.a,s.b,nBool s.barrier,s.edgePolicy,s.edgeFill,s.kW,s.kH]++(nInts s.weights++(nInts s.row++(nInts s.col++([s.shift,s.shift2]++(nTaps s.x++(nTaps s.y++([s.bins]++(nOps s.ops++[s.max_]))))))))
def nPlane (p:PlaneV):List Int:=[p.w,p.h,p.max_]++nInts p.pix
def nJob (j:JobV):List Int:=[j.priority,(j.inputs.length:Int)]++(j.inputs.flatMap nPlane++(((j.stages.length:Int)::j.stages.flatMap nStage)++nInts j.outputs))
structure Wr where
  bs:List Int
  full:Bool
def Wr.one (s:Wr) (n:Int):Wr:=if s.full=true\/262144<s.bs.length+8 then ⟨s.bs,true⟩ else ⟨s.bs++be8 n,false⟩
def Wr.put (s:Wr) (l:List Int):Wr:=l.foldl Wr.one s
theorem flat_one (l:List Int):l.flatMap (fun x=>[x])=l:=by induction l with|nil=>rfl|cons x l ih=>simp
end Go.Proofs.YtdingplbadblpaaGreat

namespace Go.Proofs.YtdingplbadblpaaGreat
open Go Go.E Go.Proofs.Tryz
set_option linter.all false
set_option maxRecDepth 100000
set_option maxHeartbeats 2000000
variable {W w:World} {H:Chunk} {F:List Chunk}
theorem flat_step {α:Type} {f:α->List Int} {l:List α} {i:Nat} {x:α} (hx:l[i]?=some x):(l.take (i+1)).flatMap f=(l.take i).flatMap f++f x:=by
  rw [List.take_add_one,hx,Option.toList_some,List.flatMap_append];simp
theorem flat_le {α:Type} {f:α->List Int} {l:List α} {i:Nat} {x:α} (hx:l[i]?=some x):((l.take i).flatMap f).length+(f x).length<=(l.flatMap f).length:=by
  have h:=congrArg List.length (flat_step (f:=f) hx)
  have h2:l.flatMap f=(l.take (i+1)).flatMap f++(l.drop (i+1)).flatMap f:=by rw [<-List.flatMap_append,List.take_append_drop]
  have h3:=congrArg List.length h2
  simp only [List.length_append] at h h3
  omega
theorem flat_all {α:Type} {f:α->List Int} {l:List α} {i:Nat} (hi:i=l.length):(l.take i).flatMap f=l.flatMap f:=by subst hi;rw [List.take_length]
def Enc (bs L:List Int):Prop:=bs=[84,70,1]++bytesOf L\/(262144<bs.length/\bs.length<=3+8*L.length)
theorem Enc.app {bs L:List Int} (h:Enc bs L) (M:List Int):Enc (bs++bytesOf M) (L++M):=by
  rcases h with h|⟨h1,h2⟩
  · left;rw [h,bytesOf_app];simp
  · right;simp only [List.length_append,bytesOf_len];omega
theorem Enc.more {bs L:List Int} (h:262144<bs.length) (h2:bs.length<=3+8*L.length):Enc bs L:= .inr ⟨h,h2⟩
theorem Enc.le {bs L:List Int} (h:Enc bs L):bs.length<=3+8*L.length:=by
  rcases h with h|h
  · rw [h];simp [bytesOf_len];omega
  · exact h.2
theorem nTap_len (t:Tap):(nTap t.v).length=2+t.weights.l.length:=by simp [nTap,nInts,Tap.v];omega
theorem nPlane_len (t:Plane):(nPlane t.v).length=4+t.pix.l.length:=by simp [nPlane,nInts,Plane.v];omega
theorem nOps_len (l:List POp):(l.flatMap nOp).length=2*l.length:=by
  induction l with
  |nil=>rfl
  |cons x l ih=>simp [nOp,ih];omega
theorem nStage_len (q:Stage):(nStage q.v).length=16+q.weights.l.length+q.row.l.length+q.col.l.length+(nTaps (q.x.l.map Tap.v)).length+(nTaps (q.y.l.map Tap.v)).length+(q.ops.l.flatMap nOp).length:=by
  simp only [nStage,nInts,nOps,Stage.v,List.length_append,List.length_cons,List.length_nil];omega
theorem nJob_len (j:Job):(nJob j.v).length=4+(j.inputs.l.flatMap (fun x=>nPlane x.v)).length+(j.stages.l.flatMap (fun x=>nStage x.v)).length+j.outputs.l.length:=by
  simp only [nJob,nInts,Job.v,List.length_append,List.length_cons,List.length_nil,List.flatMap_map];omega
theorem flat_take_le {α:Type} {f:α->List Int} (l:List α) (i:Nat):((l.take i).flatMap f).length<=(l.flatMap f).length:=by
  conv=>rhs;rw [<-List.take_append_drop i l,List.flatMap_append,List.length_append]
  omega
theorem bytesOf_one (x:Int):bytesOf [x]=be8 x:=by simp [bytesOf]
theorem ref_put (W w:World) (H:Chunk) (F:List Chunk) (a:Option Addr) (n k:Nat) (c:Chunk) (bs:List Int) (hO:OwnT encB 5 1 a n k bs c) (x:Int) (hb:n+8<=1099511627776) (hS:Sat W w (c::H::F)):
  Calls prog 83 #[.slice a n k,I x] w fun e w'=>∃(a':Option Addr) (n' k':Nat) (c':Chunk),e= .returned (.slice a' n' k')/\n'=n+8/\OwnT encB 5 1 a' n' k' (bs++bytesOf ([x])) c'/\Sat W w' (c'::H::F):=by
 have hbl:=hO.len
 refine callsA 22 func83 rfl<|sR<|pu1<|zS<|pu1<|stepY (.int .u64 (x%18446744073709551616)) rfl rfl (Y_conv (k:= .i64) (a:=x) underlying3 underlying159 (wrap_u64 _) rfl kr)<|pu1<|zQ<|pu1<|nT<|blockE<|loopN 9<|roundS<|seqE<|sR<|pu2<|nT<|cTt<|kT<|seqE<|blockE<|rE<|pu3<|stepY (.int .u64 56) rfl rfl (Y_conv (k:= .i64) (a:=56) underlying3 underlying160 (by decide) rfl kr)<|stepY (.int .u64 ((x%18446744073709551616)/72057594037927936)) rfl rfl (Y_shr .u64 .u64 (x%18446744073709551616) 56 72057594037927936 rfl kr kr (by decide) (by decide)) ?_
 refine stepY (.int .u8 (((x%18446744073709551616)/72057594037927936)%256)) rfl rfl (Y_conv (k:= .u64) (a:=((x%18446744073709551616)/72057594037927936)) underlying159 underlying5 (wrap_u8 _) rfl kr)<|sBS hS #[.int .u8 (((x%18446744073709551616)/72057594037927936)%256)] runUnderlying74 sizeOf5 zeroValue5 fun _ _ b0=>sApp (nb:=1) b0 hO 1 (RdT.blk (enc:=encB) (sz:=1) (xs:=[(((x%18446744073709551616)/72057594037927936)%256)]) fR 1 0 rfl rfl rfl om) underlying74 (i:=Tryz.t5) kr fR fun _ _ _ _ c0 d0=>pu1<|nB<|rE<|pu3<|nT<|roundS<|seqE<|sR<|pu2<|nT<|cTt<|kT<|seqE<|blockE<|rE<|pu3 ?_
 refine stepY (.int .u64 48) rfl rfl (Y_conv (k:= .i64) (a:=48) underlying3 underlying160 (by decide) rfl kr)<|stepY (.int .u64 ((x%18446744073709551616)/281474976710656)) rfl rfl (Y_shr .u64 .u64 (x%18446744073709551616) 48 281474976710656 rfl kr kr (by decide) (by decide))<|stepY (.int .u8 (((x%18446744073709551616)/281474976710656)%256)) rfl rfl (Y_conv (k:= .u64) (a:=((x%18446744073709551616)/281474976710656)) underlying159 underlying5 (wrap_u8 _) rfl kr)<|sBS d0 #[.int .u8 (((x%18446744073709551616)/281474976710656)%256)] runUnderlying74 sizeOf5 zeroValue5 fun _ _ e0=>?_
 refine sApp (nb:=1) e0 c0 2 (RdT.blk (enc:=encB) (sz:=1) (xs:=[(((x%18446744073709551616)/281474976710656)%256)]) fR 1 0 rfl rfl rfl om) underlying74 (i:=Tryz.t5) kr fR fun _ _ _ _ f0 g0=>pu1<|nB<|rE<|pu3<|nT<|roundS<|seqE<|sR<|pu2<|nT<|cTt<|kT<|seqE<|blockE<|rE<|pu3<|stepY (.int .u64 40) rfl rfl (Y_conv (k:= .i64) (a:=40) underlying3 underlying160 (by decide) rfl kr)<|stepY (.int .u64 ((x%18446744073709551616)/1099511627776)) rfl rfl (Y_shr .u64 .u64 (x%18446744073709551616) 40 1099511627776 rfl kr kr (by decide) (by decide)) ?_
 refine stepY (.int .u8 (((x%18446744073709551616)/1099511627776)%256)) rfl rfl (Y_conv (k:= .u64) (a:=((x%18446744073709551616)/1099511627776)) underlying159 underlying5 (wrap_u8 _) rfl kr)<|sBS g0 #[.int .u8 (((x%18446744073709551616)/1099511627776)%256)] runUnderlying74 sizeOf5 zeroValue5 fun _ _ h0=>sApp (nb:=1) h0 f0 3 (RdT.blk (enc:=encB) (sz:=1) (xs:=[(((x%18446744073709551616)/1099511627776)%256)]) fR 1 0 rfl rfl rfl om) underlying74 (i:=Tryz.t5) kr fR fun _ _ _ _ i0 j0=>pu1<|nB<|rE<|pu3<|nT<|roundS<|seqE<|sR<|pu2<|nT<|cTt<|kT<|seqE<|blockE<|rE<|pu3 ?_
 refine stepY (.int .u64 32) rfl rfl (Y_conv (k:= .i64) (a:=32) underlying3 underlying160 (by decide) rfl kr)<|stepY (.int .u64 ((x%18446744073709551616)/4294967296)) rfl rfl (Y_shr .u64 .u64 (x%18446744073709551616) 32 4294967296 rfl kr kr (by decide) (by decide))<|stepY (.int .u8 (((x%18446744073709551616)/4294967296)%256)) rfl rfl (Y_conv (k:= .u64) (a:=((x%18446744073709551616)/4294967296)) underlying159 underlying5 (wrap_u8 _) rfl kr)<|sBS j0 #[.int .u8 (((x%18446744073709551616)/4294967296)%256)] runUnderlying74 sizeOf5 zeroValue5 fun _ _ k0=>?_
 refine sApp (nb:=1) k0 i0 4 (RdT.blk (enc:=encB) (sz:=1) (xs:=[(((x%18446744073709551616)/4294967296)%256)]) fR 1 0 rfl rfl rfl om) underlying74 (i:=Tryz.t5) kr fR fun _ _ _ _ l0 m0=>pu1<|nB<|rE<|pu3<|nT<|roundS<|seqE<|sR<|pu2<|nT<|cTt<|kT<|seqE<|blockE<|rE<|pu3<|stepY (.int .u64 24) rfl rfl (Y_conv (k:= .i64) (a:=24) underlying3 underlying160 (by decide) rfl kr)<|stepY (.int .u64 ((x%18446744073709551616)/16777216)) rfl rfl (Y_shr .u64 .u64 (x%18446744073709551616) 24 16777216 rfl kr kr (by decide) (by decide)) ?_
 refine stepY (.int .u8 (((x%18446744073709551616)/16777216)%256)) rfl rfl (Y_conv (k:= .u64) (a:=((x%18446744073709551616)/16777216)) underlying159 underlying5 (wrap_u8 _) rfl kr)<|sBS m0 #[.int .u8 (((x%18446744073709551616)/16777216)%256)] runUnderlying74 sizeOf5 zeroValue5 fun _ _ n0=>sApp (nb:=1) n0 l0 5 (RdT.blk (enc:=encB) (sz:=1) (xs:=[(((x%18446744073709551616)/16777216)%256)]) fR 1 0 rfl rfl rfl om) underlying74 (i:=Tryz.t5) kr fR fun _ _ _ _ o0 p0=>pu1<|nB<|rE<|pu3<|nT<|roundS<|seqE<|sR<|pu2<|nT<|cTt<|kT<|seqE<|blockE<|rE<|pu3 ?_
 refine stepY (.int .u64 16) rfl rfl (Y_conv (k:= .i64) (a:=16) underlying3 underlying160 (by decide) rfl kr)<|stepY (.int .u64 ((x%18446744073709551616)/65536)) rfl rfl (Y_shr .u64 .u64 (x%18446744073709551616) 16 65536 rfl kr kr (by decide) (by decide))<|stepY (.int .u8 (((x%18446744073709551616)/65536)%256)) rfl rfl (Y_conv (k:= .u64) (a:=((x%18446744073709551616)/65536)) underlying159 underlying5 (wrap_u8 _) rfl kr)<|sBS p0 #[.int .u8 (((x%18446744073709551616)/65536)%256)] runUnderlying74 sizeOf5 zeroValue5 fun _ _ q0=>?_
 refine sApp (nb:=1) q0 o0 6 (RdT.blk (enc:=encB) (sz:=1) (xs:=[(((x%18446744073709551616)/65536)%256)]) fR 1 0 rfl rfl rfl om) underlying74 (i:=Tryz.t5) kr fR fun _ _ _ _ r0 s0=>pu1<|nB<|rE<|pu3<|nT<|roundS<|seqE<|sR<|pu2<|nT<|cTt<|kT<|seqE<|blockE<|rE<|pu3<|stepY (.int .u64 8) rfl rfl (Y_conv (k:= .i64) (a:=8) underlying3 underlying160 (by decide) rfl kr)<|stepY (.int .u64 ((x%18446744073709551616)/256)) rfl rfl (Y_shr .u64 .u64 (x%18446744073709551616) 8 256 rfl kr kr (by decide) (by decide)) ?_
 refine stepY (.int .u8 (((x%18446744073709551616)/256)%256)) rfl rfl (Y_conv (k:= .u64) (a:=((x%18446744073709551616)/256)) underlying159 underlying5 (wrap_u8 _) rfl kr)<|sBS s0 #[.int .u8 (((x%18446744073709551616)/256)%256)] runUnderlying74 sizeOf5 zeroValue5 fun _ _ t0=>sApp (nb:=1) t0 r0 7 (RdT.blk (enc:=encB) (sz:=1) (xs:=[(((x%18446744073709551616)/256)%256)]) fR 1 0 rfl rfl rfl om) underlying74 (i:=Tryz.t5) kr fR fun _ _ _ _ u0 v0=>pu1<|nB<|rE<|pu3<|nT<|roundS<|seqE<|sR<|pu2<|nT<|cTt<|kT<|seqE<|blockE<|rE<|pu3 ?_
 refine stepY (.int .u64 0) rfl rfl (Y_conv (k:= .i64) (a:=0) underlying3 underlying160 (by decide) rfl kr)<|stepY (.int .u64 ((x%18446744073709551616)/1)) rfl rfl (Y_shr .u64 .u64 (x%18446744073709551616) 0 1 rfl kr kr (by decide) (by decide))<|stepY (.int .u8 (((x%18446744073709551616)/1)%256)) rfl rfl (Y_conv (k:= .u64) (a:=((x%18446744073709551616)/1)) underlying159 underlying5 (wrap_u8 _) rfl kr)<|sBS v0 #[.int .u8 (((x%18446744073709551616)/1)%256)] runUnderlying74 sizeOf5 zeroValue5 fun _ _ w0=>?_
 refine sApp (nb:=1) w0 u0 8 (RdT.blk (enc:=encB) (sz:=1) (xs:=[(((x%18446744073709551616)/1)%256)]) fR 1 0 rfl rfl rfl om) underlying74 (i:=Tryz.t5) kr fR fun a0 x0 _ _ y0 z0=>pu1<|nB<|rE<|pu3<|nT<|roundS<|seqE<|sR<|pu2<|nT<|cFf<|exitE<|xB<|tN<|sR<|pu2<|zE<|retT [.slice a0 ((((((((n+1)+1)+1)+1)+1)+1)+1)+1) x0] ?_
 have a1:=(z0.drops [0,0,0,0,0,0,0,0])
 refine ⟨a0,_,_,_,rfl,rfl,?_,a1⟩
 have e:=y0
 rw [bytesOf_one];simpa only [be8,List.append_assoc,List.cons_append,List.nil_append] using e
theorem ref_puts (W w:World) (H:Chunk) (F:List Chunk) (a:Option Addr) (n k:Nat) (c:Chunk) (bs:List Int) (hO:OwnT encB 5 1 a n k bs c) (la:Option Addr) (ln lk:Nat) (l:List Int) (hR:RdT Go.E.encI 1 [H] la ln lk l) (hb:n+8*(ln+1)<=1099511627776) (hS:Sat W w (c::H::F)):
  Calls prog 84 #[.slice a n k, .slice la ln lk] w fun e w'=>∃(a':Option Addr) (n' k':Nat) (c':Chunk),e= .returned (.slice a' n' k')/\n'=n+8*(ln+1)/\OwnT encB 5 1 a' n' k' (bs++bytesOf (nInts l)) c'/\Sat W w' (c'::H::F):=by
 have hbl:=hO.len
 have hle:=hR.le;have hll:=hR.len
 refine callsA 23 func84 rfl<|sR<|pu1<|zS<|pu3 ?_
 have i0:=(hS.picks [1,1])
 refine sF #[.slice a n k,I (ln:Int)] call83 (Calls.mono (ref_put W _ _ _ _ _ _ _ _ hO (ln:Int) om i0) ?_)
 rintro _ _ ⟨j0,f0,k0,l0,rfl,_,b0,m0⟩
 refine ⟨_,rfl,?_⟩
 generalize n0:bs++bytesOf ([(ln:Int)])=g0 at b0
 have z0:=b0.len
 refine pu1<|zQ<|pu1<|nT<|blockE<|loopA (γ:=Nat×(Option Addr)×Nat×Nat×Chunk×(List Int)) (fun ⟨i,a',n',k',c',bs'⟩=>[(1, .slice la ln lk),(0, .slice a' n' k'),(5,I (i:Int))]) (fun ⟨i,a',n',k',c',bs'⟩ w=>Sat W w (c'::H::F)/\i<=ln/\bs'=g0++bytesOf ((l.take i).flatMap (fun x=>[x]))/\OwnT encB 5 1 a' n' k' bs' c'/\bs'.length=n'/\n'=f0+8*((l.take i).flatMap (fun x=>[x])).length) (fun ⟨i,a',n',k',c',bs'⟩=>ln-i) (0,j0,f0,k0,l0,g0) ⟨m0,Nat.zero_le _,by simp [bytesOf],b0,b0.len,by simp⟩ ?_
 rintro ⟨i,a',n',k',c',bs'⟩ ρ _ ⟨e0,hi,hp,hO',hbl',hn'⟩
 refine seqE<|sR<|pu4<|nT<|cD ((i:Int)<(ln:Int)) (fun o0=>?_) (fun o0=>?_)
 rotate_left
 ·refine exitE<|xB<|tN<|sR<|pu2<|zE<|retT [.slice a' n' k'] ?_
  have hfin:=flat_all (f:=(fun x=>[x])) (l:=l) (i:=i) om
  rw [hfin] at hp hn'
  subst n0
  have hM:bs'=bs++bytesOf (nInts l):=by rw [hp];rw [flat_one,<-hll];simp [nInts,bytesOf]
  subst hM
  have hnn:n'=n+8*(ln+1):=by rw [flat_one] at hn';omega
  exact ⟨_,_,_,_,rfl,hnn,hO',e0⟩
 refine kT<|seqE<|blockE ?_
 have htk:((l.take i).flatMap (fun x=>[x])).length=i:=by rw [flat_one];simp;omega
 refine rE<|pu3<|sIdx hR (i:Int) runUnderlying22 sizeOf3 fun a0 _ _ c0 p0=>?_
 rw [Int.toNat_natCast] at c0
 have hfl_x_16:=flat_le (f:=(fun x=>[x])) c0
 have hlx_x_16:[a0].length=1:=rfl
 refine sLp e0 (p0.up 1 rfl) 0 (I a0) (isAgg3 _) ?_
 have q0:=(e0.picks [1,1])
 refine sF #[.slice a' n' k',I a0] call83 (Calls.mono (ref_put W _ _ _ _ _ _ _ _ hO' a0 om q0) ?_)
 rintro _ _ ⟨r0,s0,t0,u0,rfl,_,d0,v0⟩
 refine ⟨_,rfl,?_⟩
 generalize w0:bs'++bytesOf ([a0])=h0 at d0
 have f1:=d0.len
 refine pu1<|nB<|rE<|pu1<|sAdd (i:Int) 1<|pu1<|nT ?_
 have hstep:h0=bs'++bytesOf ((fun x=>[x]) a0):=by subst w0;first|rfl|(simp only [bytesOf_one,bytesOf_app,bytesOf_cons,nTap,nOp,nPlane,nInts,List.append_assoc,List.cons_append,List.nil_append];done)|(simp [bytesOf,nTap,nOp,nPlane,nInts,Plane.v,Tap.v];done)
 have hfs:=congrArg List.length (flat_step (f:=(fun x=>[x])) c0)
 rw [List.length_append] at hfs
 have hlb:=congrArg List.length hstep;rw [List.length_append,bytesOf_len] at hlb
 exact ⟨(i+1,r0,s0,t0,u0,h0),by dsimp only;omega,alA,v0,om,by rw [hstep,hp,flat_step c0,bytesOf_app,List.append_assoc],d0,d0.len,om⟩
theorem ref_taps (W w:World) (H:Chunk) (F:List Chunk) (a:Option Addr) (n k:Nat) (c:Chunk) (bs:List Int) (hO:OwnT encB 5 1 a n k bs c) (la:Option Addr) (ln lk:Nat) (l:List Tap) (hR:RdT encTap 2 [H] la ln lk l) (hD:∀z∈l,Tap.Ok [H] z) (hb:n+8*(nTaps (l.map Tap.v)).length<=1099511627776) (hS:Sat W w (c::H::F)):
  Calls prog 128 #[.slice a n k, .slice la ln lk] w fun e w'=>∃(a':Option Addr) (n' k':Nat) (c':Chunk),e= .returned (.slice a' n' k')/\n'=n+8*(nTaps (l.map Tap.v)).length/\OwnT encB 5 1 a' n' k' (bs++bytesOf (nTaps (l.map Tap.v))) c'/\Sat W w' (c'::H::F):=by
 have hbl:=hO.len
 have hle:=hR.le;have hll:=hR.len
 have hnt:(nTaps (l.map Tap.v)).length=1+(l.flatMap (fun x=>nTap x.v)).length:=by simp [nTaps,List.flatMap_map];omega
 refine callsA 30 func128 rfl<|sR<|pu1<|zS<|pu3 ?_
 have o0:=(hS.picks [1,1])
 refine sF #[.slice a n k,I (ln:Int)] call83 (Calls.mono (ref_put W _ _ _ _ _ _ _ _ hO (ln:Int) om o0) ?_)
 rintro _ _ ⟨p0,j0,q0,r0,rfl,_,c0,s0⟩
 refine ⟨_,rfl,?_⟩
 generalize t0:bs++bytesOf ([(ln:Int)])=k0 at c0
 have l1:=c0.len
 refine pu1<|zQ<|pu1<|nT<|blockE<|loopA (γ:=Nat×(Option Addr)×Nat×Nat×Chunk×(List Int)) (fun ⟨i,a',n',k',c',bs'⟩=>[(1, .slice la ln lk),(0, .slice a' n' k'),(5,I (i:Int))]) (fun ⟨i,a',n',k',c',bs'⟩ w=>Sat W w (c'::H::F)/\i<=ln/\bs'=k0++bytesOf ((l.take i).flatMap (fun x=>nTap x.v))/\OwnT encB 5 1 a' n' k' bs' c'/\bs'.length=n'/\n'=j0+8*((l.take i).flatMap (fun x=>nTap x.v)).length) (fun ⟨i,a',n',k',c',bs'⟩=>ln-i) (0,p0,j0,q0,r0,k0) ⟨s0,Nat.zero_le _,by simp [bytesOf],c0,c0.len,by simp⟩ ?_
 rintro ⟨i,a',n',k',c',bs'⟩ ρ _ ⟨d0,hi,hp,hO',hbl',hn'⟩
 refine seqE<|sR<|pu4<|nT<|cD ((i:Int)<(ln:Int)) (fun u0=>?_) (fun u0=>?_)
 rotate_left
 ·refine exitE<|xB<|tN<|sR<|pu2<|zE<|retT [.slice a' n' k'] ?_
  have hfin:=flat_all (f:=(fun x=>nTap x.v)) (l:=l) (i:=i) om
  rw [hfin] at hp hn'
  subst t0
  have hM:bs'=bs++bytesOf (nTaps (l.map Tap.v)):=by rw [hp];rw [<-hll];simp [nTaps,bytesOf,List.flatMap_map]
  subst hM
  have hnn:n'=n+8*(nTaps (l.map Tap.v)).length:=by omega
  exact ⟨_,_,_,_,rfl,hnn,hO',d0⟩
 refine kT<|seqE<|blockE ?_
 obtain ⟨a0,e0,f0,b0,h0,l0⟩:=RdT.elem hR (i:Int)
 rw [Int.toNat_natCast] at b0
 have hl_x_16_weights:=(hD a0 (List.mem_of_getElem? b0)).weights.len
 have hfl_x_16:=flat_le (f:=(fun x=>nTap x.v)) b0
 have hlx_x_16:(nTap a0.v).length=2+a0.weights.l.length:=nTap_len a0
 refine drawE [6,12] [(5,⟨e0,f0+0,none⟩,I a0.first),(11,⟨e0,f0+1,none⟩, .slice a0.weights.a a0.weights.n a0.weights.k)] [(true,[0,1,2]),(true,[3]),(true,[4,7,8]),(true,[9]),(true,[10]),(true,[5]),(true,[11]),(false,[6]),(false,[12]),(true,[13])] rfl kr ⟨.inr ((h0.up 1 rfl).cell d0 (k:=0) rfl), .inr ((h0.up 1 rfl).cell d0 (k:=1) rfl),trivial⟩ ?_
 have v0:=d0.drew
 refine wU [0,1,2]<|wY (.pointer (some ⟨e0,f0,none⟩)) rfl (fun w _=>Y_idx (a:=la) (i:=(i:Int)) (len:=ln) (cap:=lk) rfl runUnderlying35 sizeOf123 kr kr l0)<|wU [4,7,8]<|wY (.pointer (some ⟨e0,f0,none⟩)) rfl (fun w _=>Y_idx (a:=la) (i:=(i:Int)) (len:=ln) (cap:=lk) rfl runUnderlying35 sizeOf123 kr kr l0)<|wU [10]<|wLd (I a0.first) 0 isAgg3<|wLd (.slice a0.weights.a a0.weights.n a0.weights.k) 1 isAgg22<|wO rfl ?_
 have w0:=(v0.picks [1,1])
 refine sF #[.slice a' n' k',I a0.first] call83 (Calls.mono (ref_put W _ _ _ _ _ _ _ _ hO' a0.first om w0) ?_)
 rintro _ _ ⟨x0,y0,z0,_,rfl,_,i0,m0⟩
 refine ⟨_,rfl,?_⟩
 generalize a1:bs'++bytesOf ([a0.first])=b1 at i0
 have r1:=i0.len
 refine nilO ⟨⟨dI, .inr ((h0.up 1 rfl).cell m0 (k:=1) rfl),trivial⟩,?_⟩
 refine wO rfl ?_
 have c1:=(m0.picks [1,1])
 refine sF #[.slice x0 y0 z0, .slice a0.weights.a a0.weights.n a0.weights.k] call84 (Calls.mono (ref_puts W _ _ _ _ _ _ _ _ i0 _ _ _ _ (hD a0 (List.mem_of_getElem? b0)).weights om c1) ?_)
 rintro _ _ ⟨d1,e1,f1,g1,rfl,_,g0,h1⟩
 refine ⟨_,rfl,?_⟩
 generalize i1:b1++bytesOf (nInts a0.weights.l)=n0 at g0
 have u1:=g0.len
 refine nilO ⟨dA,?_⟩
 refine wU [13]<|wN<|bN<|tN<|rE<|pu1<|sAdd (i:Int) 1<|pu1<|nT ?_
 have hstep:n0=bs'++bytesOf ((fun x=>nTap x.v) a0):=by subst i1;subst a1;first|rfl|(simp only [bytesOf_one,bytesOf_app,bytesOf_cons,nTap,nOp,nPlane,nInts,List.append_assoc,List.cons_append,List.nil_append];done)|(simp [bytesOf,nTap,nOp,nPlane,nInts,Plane.v,Tap.v];done)
 have hfs:=congrArg List.length (flat_step (f:=(fun x=>nTap x.v)) b0)
 rw [List.length_append] at hfs
 have hlb:=congrArg List.length hstep;rw [List.length_append,bytesOf_len] at hlb
 exact ⟨(i+1,d1,e1,f1,g1,n0),by dsimp only;omega,alA,h1,om,by rw [hstep,hp,flat_step b0,bytesOf_app,List.append_assoc],g0,g0.len,om⟩
theorem ref_stage (W w:World) (H:Chunk) (F:List Chunk) (a:Option Addr) (n k:Nat) (c:Chunk) (bs:List Int) (hO:OwnT encB 5 1 a n k bs c) (q:Stage) (hq:Stage.Ok [H] q) (hb:n+8*(nStage q.v).length<=1099511627776) (hS:Sat W w (c::H::F)):
  Calls prog 85 #[.slice a n k, .agg (encStage q).toArray] w fun e w'=>∃(a':Option Addr) (n' k':Nat) (c':Chunk),e= .returned (.slice a' n' k')/\n'=n+8*(nStage q.v).length/\OwnT encB 5 1 a' n' k' (bs++bytesOf (nStage q.v)) c'/\Sat W w' (c'::H::F):=by
 have hbl:=hO.len
 have hl_weights:=hq.weights.len;have hk_weights:=hq.weights.le
 have hl_row:=hq.row.len;have hk_row:=hq.row.le
 have hl_col:=hq.col.len;have hk_col:=hq.col.le
 have hl_x:=hq.x.len;have hk_x:=hq.x.le
 have hl_y:=hq.y.len;have hk_y:=hq.y.le
 have hl_ops:=hq.ops.len;have hk_ops:=hq.ops.le
 have hnS:=nStage_len q
 rw [hl_weights,hl_row,hl_col] at hnS
 have hop:(q.ops.l.flatMap nOp).length=2*q.ops.n:=by rw [<-hl_ops];exact nOps_len _
 refine callsA 96 func85 rfl<|sR<|sBox hS (.agg (encStage q).toArray) (encStage q).toArray fun b0 _ n0=>pu1<|zS<|pu1<|nT<|cutA (γ:=Int) (fun bv=>[(0, .slice a n k),(3,Pt b0 0),(5,I bv)]) (fun bv w=>Sat W w ([(b0, .cells (encStage q).toArray 38 (0,0))]::c::H::F)/\bv=nBool q.barrier) ?_ ?_
 ·refine sR<|pu1<|sL n0 0 3 (.bool q.barrier) (isAgg4 _)<|nT<|cB q.barrier (fun o0=>?_) (fun o0=>?_)
  rotate_left
  ·refine kT ?_
   exact ⟨0,alA,n0,by simp [nBool,o0]⟩
  refine rE<|pu1<|nT ?_
  exact ⟨1,alA,n0,by simp [nBool,o0]⟩
 rintro bv ρ _ ⟨d0,hbv⟩
 refine seqE<|sR<|pu1<|sL d0 0 0 (I q.kind) (isAgg3 _)<|pu1<|sL d0 0 1 (I q.a) (isAgg3 _)<|pu1<|sL d0 0 2 (I q.b) (isAgg3 _)<|pu3<|sL d0 0 4 (I q.edgePolicy) (isAgg3 _)<|pu2<|sL d0 0 5 (I q.edgeFill) (isAgg3 _)<|pu1<|sL d0 0 6 (I q.kW) (isAgg3 _)<|pu1<|sL d0 0 7 (I q.kH) (isAgg3 _)<|sBS d0 #[I q.kind,I q.a,I q.b,I bv,I q.edgePolicy,I q.edgeFill,I q.kW,I q.kH] runUnderlying22 sizeOf3 zeroValue3 fun a0 _ m1=>pu2<|nT<|blockE<|loopN 9<|roundS<|sR<|pu1<|nT<|seqE<|cTt<|kT<|seqE<|blockE<|sR ?_
 refine stepY (Pt a0 0) rfl rfl (Y_idx (a:=(At a0 0)) (i:=0) (len:=8) (cap:=8) rfl runUnderlying22 sizeOf3 kr kr ⟨_,rfl,add_off _ 0 _,by decide,by decide⟩) ?_
 refine sL m1 0 0 (I q.kind) (isAgg3 _)<|pu1<|nT<|rE<|pu2 ?_
 have d2:=(m1.picks [0,2])
 refine sF #[.slice a n k,I q.kind] call83 (Calls.mono (ref_put W _ _ _ _ _ _ _ _ hO q.kind om d2) ?_)
 rintro _ _ ⟨e2,f2,g2,_,rfl,_,p0,n1⟩
 refine ⟨_,rfl,?_⟩
 generalize h2:bs++bytesOf ([q.kind])=i2 at p0
 have i7:=p0.len
 refine pu1<|nB<|rE<|pu2<|nT<|roundS<|sR<|pu1<|nT<|seqE<|cTt<|kT<|seqE<|blockE<|sR<|stepY (Pt a0 1) rfl rfl (Y_idx (a:=(At a0 0)) (i:=1) (len:=8) (cap:=8) rfl runUnderlying22 sizeOf3 kr kr ⟨_,rfl,add_off _ 0 _,by decide,by decide⟩) ?_
 refine sL n1 1 1 (I q.a) (isAgg3 _)<|pu1<|nT<|rE<|pu2 ?_
 have j2:=(n1.picks [1,1])
 refine sF #[.slice e2 f2 g2,I q.a] call83 (Calls.mono (ref_put W _ _ _ _ _ _ _ _ p0 q.a om j2) ?_)
 rintro _ _ ⟨k2,l2,m2,_,rfl,_,q0,o1⟩
 refine ⟨_,rfl,?_⟩
 generalize n2:i2++bytesOf ([q.a])=o2 at q0
 have m7:=q0.len
 refine pu1<|nB<|rE<|pu2<|nT<|roundS<|sR<|pu1<|nT<|seqE<|cTt<|kT<|seqE<|blockE<|sR<|stepY (Pt a0 2) rfl rfl (Y_idx (a:=(At a0 0)) (i:=2) (len:=8) (cap:=8) rfl runUnderlying22 sizeOf3 kr kr ⟨_,rfl,add_off _ 0 _,by decide,by decide⟩) ?_
 refine sL o1 1 2 (I q.b) (isAgg3 _)<|pu1<|nT<|rE<|pu2 ?_
 have q2:=(o1.picks [1,1])
 refine sF #[.slice k2 l2 m2,I q.b] call83 (Calls.mono (ref_put W _ _ _ _ _ _ _ _ q0 q.b om q2) ?_)
 rintro _ _ ⟨r2,s2,t2,_,rfl,_,r0,q1⟩
 refine ⟨_,rfl,?_⟩
 generalize u2:o2++bytesOf ([q.b])=v2 at r0
 have q7:=r0.len
 refine pu1<|nB<|rE<|pu2<|nT<|roundS<|sR<|pu1<|nT<|seqE<|cTt<|kT<|seqE<|blockE<|sR<|stepY (Pt a0 3) rfl rfl (Y_idx (a:=(At a0 0)) (i:=3) (len:=8) (cap:=8) rfl runUnderlying22 sizeOf3 kr kr ⟨_,rfl,add_off _ 0 _,by decide,by decide⟩) ?_
 refine sL q1 1 3 (I bv) (isAgg3 _)<|pu1<|nT<|rE<|pu2 ?_
 have w2:=(q1.picks [1,1])
 refine sF #[.slice r2 s2 t2,I bv] call83 (Calls.mono (ref_put W _ _ _ _ _ _ _ _ r0 bv om w2) ?_)
 rintro _ _ ⟨x2,y2,z2,_,rfl,_,s0,r1⟩
 refine ⟨_,rfl,?_⟩
 generalize a3:v2++bytesOf ([bv])=b3 at s0
 have u7:=s0.len
 refine pu1<|nB<|rE<|pu2<|nT<|roundS<|sR<|pu1<|nT<|seqE<|cTt<|kT<|seqE<|blockE<|sR<|stepY (Pt a0 4) rfl rfl (Y_idx (a:=(At a0 0)) (i:=4) (len:=8) (cap:=8) rfl runUnderlying22 sizeOf3 kr kr ⟨_,rfl,add_off _ 0 _,by decide,by decide⟩) ?_
 refine sL r1 1 4 (I q.edgePolicy) (isAgg3 _)<|pu1<|nT<|rE<|pu2 ?_
 have c3:=(r1.picks [1,1])
 refine sF #[.slice x2 y2 z2,I q.edgePolicy] call83 (Calls.mono (ref_put W _ _ _ _ _ _ _ _ s0 q.edgePolicy om c3) ?_)
 rintro _ _ ⟨d3,e3,f3,_,rfl,_,t0,s1⟩
 refine ⟨_,rfl,?_⟩
 generalize g3:b3++bytesOf ([q.edgePolicy])=h3 at t0
 have y7:=t0.len
 refine pu1<|nB<|rE<|pu2<|nT<|roundS<|sR<|pu1<|nT<|seqE<|cTt<|kT<|seqE<|blockE<|sR<|stepY (Pt a0 5) rfl rfl (Y_idx (a:=(At a0 0)) (i:=5) (len:=8) (cap:=8) rfl runUnderlying22 sizeOf3 kr kr ⟨_,rfl,add_off _ 0 _,by decide,by decide⟩) ?_
 refine sL s1 1 5 (I q.edgeFill) (isAgg3 _)<|pu1<|nT<|rE<|pu2 ?_
 have i3:=(s1.picks [1,1])
 refine sF #[.slice d3 e3 f3,I q.edgeFill] call83 (Calls.mono (ref_put W _ _ _ _ _ _ _ _ t0 q.edgeFill om i3) ?_)
 rintro _ _ ⟨j3,k3,l3,_,rfl,_,u0,t1⟩
 refine ⟨_,rfl,?_⟩
 generalize m3:h3++bytesOf ([q.edgeFill])=n3 at u0
 have c8:=u0.len
 refine pu1<|nB<|rE<|pu2<|nT<|roundS<|sR<|pu1<|nT<|seqE<|cTt<|kT<|seqE<|blockE<|sR<|stepY (Pt a0 6) rfl rfl (Y_idx (a:=(At a0 0)) (i:=6) (len:=8) (cap:=8) rfl runUnderlying22 sizeOf3 kr kr ⟨_,rfl,add_off _ 0 _,by decide,by decide⟩) ?_
 refine sL t1 1 6 (I q.kW) (isAgg3 _)<|pu1<|nT<|rE<|pu2 ?_
 have o3:=(t1.picks [1,1])
 refine sF #[.slice j3 k3 l3,I q.kW] call83 (Calls.mono (ref_put W _ _ _ _ _ _ _ _ u0 q.kW om o3) ?_)
 rintro _ _ ⟨p3,q3,r3,_,rfl,_,v0,u1⟩
 refine ⟨_,rfl,?_⟩
 generalize s3:n3++bytesOf ([q.kW])=t3 at v0
 have g8:=v0.len
 refine pu1<|nB<|rE<|pu2<|nT<|roundS<|sR<|pu1<|nT<|seqE<|cTt<|kT<|seqE<|blockE<|sR<|stepY (Pt a0 7) rfl rfl (Y_idx (a:=(At a0 0)) (i:=7) (len:=8) (cap:=8) rfl runUnderlying22 sizeOf3 kr kr ⟨_,rfl,add_off _ 0 _,by decide,by decide⟩) ?_
 refine sL u1 1 7 (I q.kH) (isAgg3 _)<|pu1<|nT<|rE<|pu2 ?_
 have u3:=(u1.picks [1,1])
 refine sF #[.slice p3 q3 r3,I q.kH] call83 (Calls.mono (ref_put W _ _ _ _ _ _ _ _ v0 q.kH om u3) ?_)
 rintro _ _ ⟨v3,w3,x3,_,rfl,_,w0,f0⟩
 refine ⟨_,rfl,?_⟩
 generalize y3:t3++bytesOf ([q.kH])=z3 at w0
 have k8:=w0.len
 refine pu1<|nB<|rE<|pu2<|nT<|roundS<|sR<|pu1<|nT<|seqE<|cFf<|exitE<|xB<|tN<|seqE<|drawE [3,6,9] [(2,⟨b0,8,none⟩, .slice q.weights.a q.weights.n q.weights.k),(5,⟨b0,9,none⟩, .slice q.row.a q.row.n q.row.k),(8,⟨b0,10,none⟩, .slice q.col.a q.col.n q.col.k)] [(true,[0,1,4,7]),(true,[2]),(true,[5]),(true,[8]),(false,[3]),(false,[6]),(false,[9]),(true,[10])] rfl kr ⟨cI f0 2,cI f0 2,cI f0 2,trivial⟩ ?_
 have a4:=f0.drew
 refine wU [0,1,4,7]<|wLd (.slice q.weights.a q.weights.n q.weights.k) 0 isAgg22<|wLd (.slice q.row.a q.row.n q.row.k) 1 isAgg22<|wLd (.slice q.col.a q.col.n q.col.k) 2 isAgg22<|wO rfl ?_
 have b4:=(a4.picks [3,1])
 refine sF #[.slice v3 w3 x3, .slice q.weights.a q.weights.n q.weights.k] call84 (Calls.mono (ref_puts W _ _ _ _ _ _ _ _ w0 _ _ _ _ hq.weights om b4) ?_)
 rintro _ _ ⟨c4,d4,e4,_,rfl,_,x0,y0⟩
 refine ⟨_,rfl,?_⟩
 generalize f4:z3++bytesOf (nInts q.weights.l)=g4 at x0
 have o8:=x0.len
 refine nilO ⟨⟨dI,cI y0 3,cI y0 3,trivial⟩,?_⟩
 refine wO rfl ?_
 have h4:=(y0.picks [1,1])
 refine sF #[.slice c4 d4 e4, .slice q.row.a q.row.n q.row.k] call84 (Calls.mono (ref_puts W _ _ _ _ _ _ _ _ x0 _ _ _ _ hq.row om h4) ?_)
 rintro _ _ ⟨i4,j4,k4,_,rfl,_,z0,v1⟩
 refine ⟨_,rfl,?_⟩
 generalize l4:g4++bytesOf (nInts q.row.l)=m4 at z0
 have s8:=z0.len
 refine nilO ⟨⟨dI,dI,cI v1 3,trivial⟩,?_⟩
 refine wO rfl ?_
 have n4:=(v1.picks [1,1])
 refine sF #[.slice i4 j4 k4, .slice q.col.a q.col.n q.col.k] call84 (Calls.mono (ref_puts W _ _ _ _ _ _ _ _ z0 _ _ _ _ hq.col om n4) ?_)
 rintro _ _ ⟨o4,p4,q4,_,rfl,_,a1,b1⟩
 refine ⟨_,rfl,?_⟩
 generalize r4:m4++bytesOf (nInts q.col.l)=s4 at a1
 have w8:=a1.len
 refine nilO ⟨dA,?_⟩
 refine wU [10]<|wN<|tN<|seqE<|drawE [3,6] [(2,⟨b0,11,none⟩,I q.shift),(5,⟨b0,12,none⟩,I q.shift2)] [(true,[0,1,4]),(true,[2]),(true,[5]),(false,[3]),(false,[6]),(true,[7])] rfl kr ⟨cI b1 3,cI b1 3,trivial⟩ ?_
 have t4:=b1.drew
 refine wU [0,1,4]<|wLd (I q.shift) 0 isAgg3<|wLd (I q.shift2) 1 isAgg3<|wO rfl ?_
 have u4:=(t4.picks [1,1])
 refine sF #[.slice o4 p4 q4,I q.shift] call83 (Calls.mono (ref_put W _ _ _ _ _ _ _ _ a1 q.shift om u4) ?_)
 rintro _ _ ⟨v4,w4,x4,_,rfl,_,c1,w1⟩
 refine ⟨_,rfl,?_⟩
 generalize y4:s4++bytesOf ([q.shift])=z4 at c1
 have a9:=c1.len
 refine nilO ⟨⟨dI,cI w1 3,trivial⟩,?_⟩
 refine wO rfl ?_
 have a5:=(w1.picks [1,1])
 refine sF #[.slice v4 w4 x4,I q.shift2] call83 (Calls.mono (ref_put W _ _ _ _ _ _ _ _ c1 q.shift2 om a5) ?_)
 rintro _ _ ⟨b5,c5,d5,_,rfl,_,d1,g0⟩
 refine ⟨_,rfl,?_⟩
 generalize e5:z4++bytesOf ([q.shift2])=f5 at d1
 have e9:=d1.len
 refine nilO ⟨dA,?_⟩
 refine wU [7]<|wN<|tN<|seqE<|drawE [3,6,9] [(2,⟨b0,13,none⟩, .slice q.x.a q.x.n q.x.k),(5,⟨b0,14,none⟩, .slice q.y.a q.y.n q.y.k),(8,⟨b0,15,none⟩,I q.bins)] [(true,[0,1,4,7]),(true,[2]),(true,[5]),(true,[8]),(false,[3]),(false,[6]),(false,[9]),(true,[10])] rfl kr ⟨cI g0 3,cI g0 3,cI g0 3,trivial⟩ ?_
 have g5:=g0.drew
 refine wU [0,1,4,7]<|wLd (.slice q.x.a q.x.n q.x.k) 0 isAgg35<|wLd (.slice q.y.a q.y.n q.y.k) 1 isAgg35<|wLd (I q.bins) 2 isAgg3<|wO rfl ?_
 have h5:=(g5.picks [1,1])
 refine sF #[.slice b5 c5 d5, .slice q.x.a q.x.n q.x.k] call128 (Calls.mono (ref_taps W _ _ _ _ _ _ _ _ d1 _ _ _ _ hq.x hq.xD om h5) ?_)
 rintro _ _ ⟨i5,j5,k5,_,rfl,_,e1,f1⟩
 refine ⟨_,rfl,?_⟩
 generalize l5:f5++bytesOf (nTaps (q.x.l.map Tap.v))=m5 at e1
 have i9:=e1.len
 refine nilO ⟨⟨dI,cI f1 3,cI f1 3,trivial⟩,?_⟩
 refine wO rfl ?_
 have n5:=(f1.picks [1,1])
 refine sF #[.slice i5 j5 k5, .slice q.y.a q.y.n q.y.k] call128 (Calls.mono (ref_taps W _ _ _ _ _ _ _ _ e1 _ _ _ _ hq.y hq.yD om n5) ?_)
 rintro _ _ ⟨o5,p5,q5,_,rfl,_,g1,x1⟩
 refine ⟨_,rfl,?_⟩
 generalize r5:m5++bytesOf (nTaps (q.y.l.map Tap.v))=s5 at g1
 have m9:=g1.len
 refine nilO ⟨⟨dI,dI,cI x1 3,trivial⟩,?_⟩
 refine wO rfl ?_
 have t5:=(x1.picks [1,1])
 refine sF #[.slice o5 p5 q5,I q.bins] call83 (Calls.mono (ref_put W _ _ _ _ _ _ _ _ g1 q.bins om t5) ?_)
 rintro _ _ ⟨u5,v5,w5,_,rfl,_,h1,y1⟩
 refine ⟨_,rfl,?_⟩
 generalize x5:s5++bytesOf ([q.bins])=y5 at h1
 have q9:=h1.len
 refine nilO ⟨dA,?_⟩
 refine wU [10]<|wN<|tN<|sR<|pu2<|sL y1 3 16 (.slice q.ops.a q.ops.n q.ops.k) (isAgg36 _)<|pu1 ?_
 have z5:=(y1.picks [1,1])
 refine sF #[.slice u5 v5 w5,I (q.ops.n:Int)] call83 (Calls.mono (ref_put W _ _ _ _ _ _ _ _ h1 (q.ops.n:Int) om z5) ?_)
 rintro _ _ ⟨a6,z1,b6,c6,rfl,_,h0,d6⟩
 refine ⟨_,rfl,?_⟩
 generalize e6:y5++bytesOf ([(q.ops.n:Int)])=a2 at h0
 have t9:=h0.len
 refine pu1<|zQ<|pu1<|nT<|blockE ?_
 have f6:=((d6.picks [3,1]).dropAt 3 rfl)
 refine loopA (γ:=Nat×(Option Addr)×Nat×Nat×Chunk×(List Int)) (fun ⟨i,a',n',k',c',bs'⟩=>[(3,Pt b0 0),(0, .slice a' n' k'),(8,I (i:Int))]) (fun ⟨i,a',n',k',c',bs'⟩ w=>Sat W w (c'::[(b0, .cells (encStage q).toArray 38 (0,0))]::H::F)/\i<=q.ops.n/\bs'=a2++bytesOf ((q.ops.l.take i).flatMap nOp)/\OwnT encB 5 1 a' n' k' bs' c'/\bs'.length=n'/\n'=z1+8*((q.ops.l.take i).flatMap nOp).length) (fun ⟨i,a',n',k',c',bs'⟩=>q.ops.n-i) (0,a6,z1,b6,c6,a2) ⟨f6,Nat.zero_le _,by simp [bytesOf],h0,h0.len,by simp⟩ ?_
 rintro ⟨i,a',n',k',c',bs'⟩ ρ _ ⟨e0,hi,hp,hO',hbl',hn'⟩
 refine seqE<|sR<|pu2<|sL e0 1 16 (.slice q.ops.a q.ops.n q.ops.k) (isAgg36 _)<|pu2<|nT<|cD ((i:Int)<(q.ops.n:Int)) (fun g6=>?_) (fun g6=>?_)
 rotate_left
 ·refine exitE<|xB<|tN<|seqE ?_
  have hfin:=flat_all (f:=nOp) (l:=q.ops.l) (i:=i) om
  rw [hfin] at hp hn'
  refine rE<|pu2<|sL e0 1 17 (I q.max_) (isAgg3 _) ?_
  have h6:=(e0.picks [1,1])
  refine sF #[.slice a' n' k',I q.max_] call83 (Calls.mono (ref_put W _ _ _ _ _ _ _ _ hO' q.max_ om h6) ?_)
  rintro _ _ ⟨i6,j6,k6,_,rfl,_,i1,l6⟩
  refine ⟨_,rfl,?_⟩
  generalize m6:bs'++bytesOf ([q.max_])=n6 at i1
  have y9:=i1.len
  refine pu1<|zE<|retT [.slice i6 j6 k6] ?_
  have o6:=(l6.dropAt 1 rfl)
  have hM:n6=bs++bytesOf (nStage q.v):=by
   subst hbv
   subst m6;rw [hp]
   subst e6;subst x5;subst r5;subst l5;subst e5;subst y4;subst r4;subst l4;subst f4;subst y3;subst s3;subst m3;subst g3;subst a3;subst u2;subst n2;subst h2;simp [nStage,Stage.v,nTaps,nInts,nOps,bytesOf_app,bytesOf_cons,<-hl_ops,List.append_assoc,bytesOf]
  have hO9:=i1
  rw [hM] at hO9
  exact ⟨_,_,_,_,rfl,om,hO9,o6⟩
 refine kT<|seqE<|blockE ?_
 obtain ⟨c0,i0,j0,k0,j1,b2⟩:=RdT.elem hq.ops (i:Int)
 rw [Int.toNat_natCast] at k0
 have hfl_x_221:=flat_le (f:=nOp) k0
 have hlx_x_221:(nOp c0).length=2:=rfl
 refine drawE [7,14] [(2,⟨b0,16,none⟩, .slice q.ops.a q.ops.n q.ops.k),(6,⟨i0,j0+0,none⟩,I c0.code),(9,⟨b0,16,none⟩, .slice q.ops.a q.ops.n q.ops.k),(13,⟨i0,j0+1,none⟩,I c0.arg)] [(true,[0,1,3,8,10]),(true,[2]),(true,[4]),(true,[5]),(true,[6]),(true,[9]),(true,[11]),(true,[12]),(true,[13]),(false,[7]),(false,[14]),(true,[15])] rfl kr ⟨cI e0 1, .inr ((j1.up 2 rfl).cell e0 (k:=0) rfl),cI e0 1, .inr ((j1.up 2 rfl).cell e0 (k:=1) rfl),trivial⟩ ?_
 have p6:=e0.drew
 refine wU [0,1,3,8,10]<|wLd (.slice q.ops.a q.ops.n q.ops.k) 0 isAgg36<|wY (.pointer (some ⟨i0,j0,none⟩)) rfl (fun w _=>Y_idx (a:=q.ops.a) (i:=(i:Int)) (len:=q.ops.n) (cap:=q.ops.k) rfl runUnderlying36 sizeOf92 kr kr b2)<|wU [5]<|wLd (I c0.code) 1 isAgg3<|wLd (.slice q.ops.a q.ops.n q.ops.k) 2 isAgg36<|wY (.pointer (some ⟨i0,j0,none⟩)) rfl (fun w _=>Y_idx (a:=q.ops.a) (i:=(i:Int)) (len:=q.ops.n) (cap:=q.ops.k) rfl runUnderlying36 sizeOf92 kr kr b2)<|wU [12]<|wLd (I c0.arg) 3 isAgg3<|wO rfl ?_
 have q6:=(p6.picks [1,1])
 refine sF #[.slice a' n' k',I c0.code] call83 (Calls.mono (ref_put W _ _ _ _ _ _ _ _ hO' c0.code om q6) ?_)
 rintro _ _ ⟨r6,s6,t6,_,rfl,_,k1,l0⟩
 refine ⟨_,rfl,?_⟩
 generalize u6:bs'++bytesOf ([c0.code])=v6 at k1
 have ca:=k1.len
 refine nilO ⟨⟨cI l0 1,dI,cI l0 1, .inr ((j1.up 2 rfl).cell l0 (k:=1) rfl),trivial⟩,?_⟩
 refine wO rfl ?_
 have w6:=(l0.picks [1,1])
 refine sF #[.slice r6 s6 t6,I c0.arg] call83 (Calls.mono (ref_put W _ _ _ _ _ _ _ _ k1 c0.arg om w6) ?_)
 rintro _ _ ⟨x6,y6,z6,a7,rfl,_,m0,l1⟩
 refine ⟨_,rfl,?_⟩
 generalize b7:v6++bytesOf ([c0.arg])=c2 at m0
 have fa:=m0.len
 refine nilO ⟨⟨cI l1 1,dI,cI l1 1,dI,trivial⟩,?_⟩
 refine wU [15]<|wN<|bN<|tN<|rE<|pu1<|sAdd (i:Int) 1<|pu1<|nT ?_
 have hstep:c2=bs'++bytesOf (nOp c0):=by subst b7;subst u6;first|rfl|(simp only [bytesOf_one,bytesOf_app,bytesOf_cons,nTap,nOp,nPlane,nInts,List.append_assoc,List.cons_append,List.nil_append];done)|(simp [bytesOf,nTap,nOp,nPlane,nInts,Plane.v,Tap.v];done)
 have hfs:=congrArg List.length (flat_step (f:=nOp) k0)
 rw [List.length_append] at hfs
 have hlb:=congrArg List.length hstep;rw [List.length_append,bytesOf_len] at hlb
 exact ⟨(i+1,x6,y6,z6,a7,c2),by dsimp only;omega,alA,l1,om,by rw [hstep,hp,flat_step k0,bytesOf_app,List.append_assoc],m0,m0.len,om⟩
theorem ref_encode (W w:World) (H:Chunk) (F:List Chunk) (j:Job) (hj:Job.Ok [H] j) (hb:(nJob j.v).length<=1000000000) (hS:Sat W w (H::F)):
  Calls prog 41 #[.agg (encJob j).toArray] w fun e w'=>(3+8*(nJob j.v).length<=262144/\∃(a:Option Addr) (n k:Nat) (c:Chunk),e= .returned (.tuple #[.slice a n k,I 0])/\OwnT encB 5 1 a n k ([84,70,1]++bytesOf (nJob j.v)) c/\Sat W w' (c::H::F))\/(262144<3+8*(nJob j.v).length/\e= .returned (.tuple #[nS,I 5])/\Sat W w' (H::F)):=by
 have hl_inputs:=hj.inputs.len;have hk_inputs:=hj.inputs.le
 have hl_stages:=hj.stages.len;have hk_stages:=hj.stages.le
 have hl_outputs:=hj.outputs.len;have hk_outputs:=hj.outputs.le
 have hnJ:=nJob_len j
 rw [hl_outputs] at hnJ
 refine callsA 79 func41 rfl<|sR<|sBox hS (.agg (encJob j).toArray) (encJob j).toArray fun d0 _ j1=>pu2<|zS<|sBS j1 #[.int .u8 84, .int .u8 70, .int .u8 1] runUnderlying74 sizeOf5 zeroValue5 fun u0 _ v0=>pu1<|sL v0 1 3 (I j.priority) (isAgg3 _) ?_
 have k1:=OwnT.blk (enc:=encB) (sz:=1) (b:=u0) (c:=#[.int .u8 84, .int .u8 70, .int .u8 1]) (E:=5) (xs:=[84,70,1]) fR 3 rfl rfl rfl om
 have l1:=(v0.picks [1,1])
 refine sF #[.slice (At u0 0) 3 3,I j.priority] call83 (Calls.mono (ref_put W _ _ _ _ _ _ _ _ k1 j.priority om l1) ?_)
 rintro _ _ ⟨m1,n1,o1,_,rfl,_,p0,w0⟩
 refine ⟨_,rfl,?_⟩
 generalize q1:([84,70,1])++bytesOf ([j.priority])=r1 at p0
 have o4:=p0.len
 refine pu1<|zS<|pu2<|sL w0 1 0 (.slice j.inputs.a j.inputs.n j.inputs.k) (isAgg25 _)<|pu1 ?_
 have s1:=(w0.picks [1,1])
 refine sF #[.slice m1 n1 o1,I (j.inputs.n:Int)] call83 (Calls.mono (ref_put W _ _ _ _ _ _ _ _ p0 (j.inputs.n:Int) om s1) ?_)
 rintro _ _ ⟨t1,u1,v1,w1,rfl,_,j0,x1⟩
 refine ⟨_,rfl,?_⟩
 generalize y1:r1++bytesOf ([(j.inputs.n:Int)])=x0 at j0
 have r4:=j0.len
 refine pu1<|nilO ?_
 have z1:Enc x0 [j.priority,(j.inputs.n:Int)]:= .inl (by subst y1;subst q1;simp [bytesOf])
 refine tN<|cutA (γ:=(Option Addr)×Nat×Nat×Chunk×(List Int)) (fun ⟨a4,n4,k4,c4,bs4⟩=>[(1,Pt d0 0),(4, .slice a4 n4 k4)]) (fun ⟨a4,n4,k4,c4,bs4⟩ w=>Sat W w (c4::[(d0, .cells (encJob j).toArray 28 (0,0))]::H::F)/\Enc bs4 ([j.priority,(j.inputs.n:Int)]++j.inputs.l.flatMap (fun x=>nPlane x.v))/\OwnT encB 5 1 a4 n4 k4 bs4 c4/\bs4.length=n4/\n4<=8000000003) ?_ ?_
 ·refine sR<|pu1<|nT<|blockE<|loopA (γ:=Nat×(Option Addr)×Nat×Nat×Chunk×(List Int)) (fun ⟨i,a',n',k',c',bs'⟩=>[(1,Pt d0 0),(4, .slice a' n' k'),(5,I (i:Int))]) (fun ⟨i,a',n',k',c',bs'⟩ w=>Sat W w (c'::[(d0, .cells (encJob j).toArray 28 (0,0))]::H::F)/\i<=j.inputs.n/\Enc bs' ([j.priority,(j.inputs.n:Int)]++(j.inputs.l.take i).flatMap (fun x=>nPlane x.v))/\OwnT encB 5 1 a' n' k' bs' c'/\bs'.length=n') (fun ⟨i,a',n',k',c',bs'⟩=>j.inputs.n-i) (0,t1,u1,v1,w1,x0) ⟨x1,Nat.zero_le _,by simpa using z1,j0,j0.len⟩ ?_
  rintro ⟨i,a',n',k',c',bs'⟩ ρ _ ⟨e0,hi,hp,hO',hbl'⟩
  refine seqE<|sR<|pu2<|sL e0 1 0 (.slice j.inputs.a j.inputs.n j.inputs.k) (isAgg25 _)<|pu3<|sD 22 ((i:Int)<(j.inputs.n:Int)) (fun a2=>?_) (fun a2=>?_)
  rotate_left
  ·refine pu4<|nT<|cFf<|exitE<|xB<|tN ?_
   have hEz:Enc bs' ([j.priority,(j.inputs.n:Int)]++j.inputs.l.flatMap (fun x=>nPlane x.v)):=by
    by_cases hi2:i=j.inputs.n
    ·rwa [flat_all om] at hp
    ·refine Enc.more om (Nat.le_trans hp.le ?_)
     simp only [List.length_append]
     have:=flat_take_le (f:=(fun x=>nPlane x.v)) j.inputs.l i
     omega
   exact ⟨(a',n',k',c',bs'),alA,e0,hEz,hO',hbl',by have h1:=hEz.le;simp only [List.length_append,List.length_cons,List.length_nil] at h1;omega⟩
  refine pu4<|nT<|cD ((n':Int)<=262144) (fun b2=>?_) (fun b2=>?_)
  rotate_left
  ·refine exitE<|xB<|tN ?_
   have hEz:Enc bs' ([j.priority,(j.inputs.n:Int)]++j.inputs.l.flatMap (fun x=>nPlane x.v)):=by
    by_cases hi2:i=j.inputs.n
    ·rwa [flat_all om] at hp
    ·refine Enc.more om (Nat.le_trans hp.le ?_)
     simp only [List.length_append]
     have:=flat_take_le (f:=(fun x=>nPlane x.v)) j.inputs.l i
     omega
   exact ⟨(a',n',k',c',bs'),alA,e0,hEz,hO',hbl',by have h1:=hEz.le;simp only [List.length_append,List.length_cons,List.length_nil] at h1;omega⟩
  refine kT<|seqE<|blockE<|sR<|pu1<|sL e0 1 0 (.slice j.inputs.a j.inputs.n j.inputs.k) (isAgg25 _)<|pu1<|sIdx hj.inputs (i:Int) runUnderlying25 sizeOf87 fun a0 _ _ g0 c2=>?_
  rw [Int.toNat_natCast] at g0
  have hl_x_37_pix:=(hj.inputsD a0 (List.mem_of_getElem? g0)).pix.len
  have hfl:=flat_le (f:=(fun x=>nPlane x.v)) g0
  have hpl:=nPlane_len a0
  have hEle:=hp.le
  simp only [List.length_append,List.length_cons,List.length_nil] at hEle
  refine sLpA e0 (c2.up 2 rfl) 0 (encPlane a0) (isAgg87 _) (sizeOf87 _)<|sAlloc e0 zeroValue87 fun k0 _ d2=>?_
  refine sT d2 0 0 (.agg (encPlane a0).toArray) (encPlane a0) (encPlane a0).toArray sizeOf87 fun _ h0=>nT<|drawE [3,6,9,12] [(2,⟨k0,0,none⟩,I a0.w),(5,⟨k0,1,none⟩,I a0.h),(8,⟨k0,2,none⟩,I a0.max_),(11,⟨k0,3,none⟩, .slice a0.pix.a a0.pix.n a0.pix.k)] [(true,[0,1,4,7,10]),(true,[2]),(true,[5]),(true,[8]),(true,[11]),(false,[3]),(false,[6]),(false,[9]),(false,[12]),(true,[13])] rfl kr ⟨cI h0 0,cI h0 0,cI h0 0,cI h0 0,trivial⟩ ?_
  have e2:=h0.drew
  refine wU [0,1,4,7,10]<|wLd (I a0.w) 0 isAgg3<|wLd (I a0.h) 1 isAgg3<|wLd (I a0.max_) 2 isAgg3<|wLd (.slice a0.pix.a a0.pix.n a0.pix.k) 3 isAgg22<|wO rfl ?_
  have f2:=(e2.picks [0,1])
  refine sF #[.slice a' n' k',I a0.w] call83 (Calls.mono (ref_put W _ _ _ _ _ _ _ _ hO' a0.w om f2) ?_)
  rintro _ _ ⟨g2,h2,i2,_,rfl,_,q0,l0⟩
  refine ⟨_,rfl,?_⟩
  generalize j2:bs'++bytesOf ([a0.w])=k2 at q0
  have a5:=q0.len
  refine nilO ⟨⟨dI,cI l0 1,cI l0 1,cI l0 1,trivial⟩,?_⟩
  refine wO rfl ?_
  have l2:=(l0.picks [1,1])
  refine sF #[.slice g2 h2 i2,I a0.h] call83 (Calls.mono (ref_put W _ _ _ _ _ _ _ _ q0 a0.h om l2) ?_)
  rintro _ _ ⟨m2,n2,o2,_,rfl,_,r0,s0⟩
  refine ⟨_,rfl,?_⟩
  generalize q2:k2++bytesOf ([a0.h])=r2 at r0
  have e5:=r0.len
  refine nilO ⟨⟨dI,dI,cI s0 1,cI s0 1,trivial⟩,?_⟩
  refine wO rfl ?_
  have s2:=(s0.picks [1,1])
  refine sF #[.slice m2 n2 o2,I a0.max_] call83 (Calls.mono (ref_put W _ _ _ _ _ _ _ _ r0 a0.max_ om s2) ?_)
  rintro _ _ ⟨t2,u2,v2,_,rfl,_,t0,y0⟩
  refine ⟨_,rfl,?_⟩
  generalize w2:r2++bytesOf ([a0.max_])=x2 at t0
  have i5:=t0.len
  refine nilO ⟨⟨dI,dI,dI,cI y0 1,trivial⟩,?_⟩
  refine wO rfl ?_
  have y2:=(y0.picks [3,1])
  refine sF #[.slice t2 u2 v2, .slice a0.pix.a a0.pix.n a0.pix.k] call84 (Calls.mono (ref_puts W _ _ _ _ _ _ _ _ t0 _ _ _ _ (hj.inputsD a0 (List.mem_of_getElem? g0)).pix om y2) ?_)
  rintro _ _ ⟨z2,a3,b3,c3,rfl,_,m0,d3⟩
  refine ⟨_,rfl,?_⟩
  generalize e3:x2++bytesOf (nInts a0.pix.l)=z0 at m0
  have l5:=m0.len
  refine nilO ⟨dA,?_⟩
  refine wU [13]<|wN<|bN<|tN<|rE<|pu1<|sAdd (i:Int) 1<|pu1<|nT ?_
  have f3:=((d3.picks [3,1]).dropAt 3 rfl)
  have hstep:z0=bs'++bytesOf ((fun x=>nPlane x.v) a0):=by subst e3;subst w2;subst q2;subst j2;first|rfl|(simp only [bytesOf_one,bytesOf_app,bytesOf_cons,nTap,nOp,nPlane,nInts,List.append_assoc,List.cons_append,List.nil_append];done)|(simp [bytesOf,nTap,nOp,nPlane,nInts,Plane.v,Tap.v];done)
  have hEn:=hp.app ((fun x=>nPlane x.v) a0)
  rw [<-hstep,List.append_assoc,<-flat_step (f:=(fun x=>nPlane x.v)) g0] at hEn
  exact ⟨(i+1,z2,a3,b3,c3,z0),by dsimp only;omega,alA,f3,om,hEn,m0,m0.len⟩
 rintro ⟨a4,n4,k4,c4,bs4⟩ ρ _ ⟨a1,hE4,hO4,hbl4,hle4⟩
 refine sR<|pu2<|sL a1 1 1 (.slice j.stages.a j.stages.n j.stages.k) (isAgg26 _)<|pu1 ?_
 have g3:=(a1.picks [1,1])
 refine sF #[.slice a4 n4 k4,I (j.stages.n:Int)] call83 (Calls.mono (ref_put W _ _ _ _ _ _ _ _ hO4 (j.stages.n:Int) om g3) ?_)
 rintro _ _ ⟨h3,i3,j3,k3,rfl,_,n0,l3⟩
 refine ⟨_,rfl,?_⟩
 generalize m3:bs4++bytesOf ([(j.stages.n:Int)])=b1 at n0
 have p5:=n0.len
 refine pu1<|nilO ?_
 have n3:Enc b1 (([j.priority,(j.inputs.n:Int)]++j.inputs.l.flatMap (fun x=>nPlane x.v))++[(j.stages.n:Int)]):=by have e:=hE4.app [(j.stages.n:Int)];subst m3;exact e
 refine tN<|cutA (γ:=(Option Addr)×Nat×Nat×Chunk×(List Int)) (fun ⟨a10,n10,k10,c10,bs10⟩=>[(1,Pt d0 0),(4, .slice a10 n10 k10)]) (fun ⟨a10,n10,k10,c10,bs10⟩ w=>Sat W w (c10::[(d0, .cells (encJob j).toArray 28 (0,0))]::H::F)/\Enc bs10 ((([j.priority,(j.inputs.n:Int)]++j.inputs.l.flatMap (fun x=>nPlane x.v))++[(j.stages.n:Int)])++j.stages.l.flatMap (fun x=>nStage x.v))/\OwnT encB 5 1 a10 n10 k10 bs10 c10/\bs10.length=n10/\n10<=8000000003) ?_ ?_
 rotate_left
 ·rintro ⟨a10,n10,k10,c10,bs10⟩ ρ _ ⟨c1,hE10,hO10,hbl10,hle10⟩
  refine sR<|pu2<|sL c1 1 2 (.slice j.outputs.a j.outputs.n j.outputs.k) (isAgg22 _) ?_
  have o3:=(c1.picks [2,1])
  refine sF #[.slice a10 n10 k10, .slice j.outputs.a j.outputs.n j.outputs.k] call84 (Calls.mono (ref_puts W _ _ _ _ _ _ _ _ hO10 _ _ _ _ hj.outputs om o3) ?_)
  rintro _ _ ⟨p3,d1,q3,_,rfl,_,i0,e1⟩
  refine ⟨_,rfl,?_⟩
  generalize f1:bs10++bytesOf (nInts j.outputs.l)=g1 at i0
  have u5:=i0.len
  refine pu1<|zQ<|pu3<|nT<|cD ((d1:Int)>262144) (fun r3=>?_) (fun r3=>?_)
  ·refine sR<|pu2<|zR<|retT [nS,I 5] ?_
   have hEf:Enc g1 (nJob j.v):=by
    have e:=hE10.app (nInts j.outputs.l)
    rw [show (((([j.priority,(j.inputs.n:Int)]++j.inputs.l.flatMap (fun x=>nPlane x.v))++[(j.stages.n:Int)])++j.stages.l.flatMap (fun x=>nStage x.v))++nInts j.outputs.l)=nJob j.v from by simp only [nJob,nInts,Job.v,List.length_map,List.flatMap_map,hl_inputs,hl_stages,List.append_assoc,List.cons_append,List.nil_append]] at e
    subst f1;exact e
   have hlf:=i0.len
   have s3:=(e1.drops [0,1])
   refine .inr ⟨by have:=hEf.le;omega,rfl,s3⟩
  refine kS<|pu3<|zE<|retT [.slice p3 d1 q3,I 0] ?_
  have hEf:Enc g1 (nJob j.v):=by
   have e:=hE10.app (nInts j.outputs.l)
   rw [show (((([j.priority,(j.inputs.n:Int)]++j.inputs.l.flatMap (fun x=>nPlane x.v))++[(j.stages.n:Int)])++j.stages.l.flatMap (fun x=>nStage x.v))++nInts j.outputs.l)=nJob j.v from by simp only [nJob,nInts,Job.v,List.length_map,List.flatMap_map,hl_inputs,hl_stages,List.append_assoc,List.cons_append,List.nil_append]] at e
   subst f1;exact e
  have hlf:=i0.len
  have t3:=(e1.dropAt 2 rfl)
  rcases hEf with hEf|hEf
  ·have hll:=congrArg List.length hEf;simp only [List.length_append,bytesOf_len,List.length_cons,List.length_nil] at hll
   have hO9:=i0;rw [hEf] at hO9
   exact .inl ⟨om,_,_,_,_,rfl,hO9,t3⟩
  ·exact absurd hEf.1 om
 refine sR<|pu1<|nT<|blockE<|loopA (γ:=Nat×(Option Addr)×Nat×Nat×Chunk×(List Int)) (fun ⟨i,a',n',k',c',bs'⟩=>[(1,Pt d0 0),(4, .slice a' n' k'),(7,I (i:Int))]) (fun ⟨i,a',n',k',c',bs'⟩ w=>Sat W w (c'::[(d0, .cells (encJob j).toArray 28 (0,0))]::H::F)/\i<=j.stages.n/\Enc bs' ((([j.priority,(j.inputs.n:Int)]++j.inputs.l.flatMap (fun x=>nPlane x.v))++[(j.stages.n:Int)])++(j.stages.l.take i).flatMap (fun x=>nStage x.v))/\OwnT encB 5 1 a' n' k' bs' c'/\bs'.length=n') (fun ⟨i,a',n',k',c',bs'⟩=>j.stages.n-i) (0,h3,i3,j3,k3,b1) ⟨l3,Nat.zero_le _,by simpa using n3,n0,n0.len⟩ ?_
 rintro ⟨i,a',n',k',c',bs'⟩ ρ _ ⟨f0,hi,hp,hO',hbl'⟩
 refine seqE<|sR<|pu2<|sL f0 1 1 (.slice j.stages.a j.stages.n j.stages.k) (isAgg26 _)<|pu3<|sD 57 ((i:Int)<(j.stages.n:Int)) (fun u3=>?_) (fun u3=>?_)
 rotate_left
 ·refine pu4<|nT<|cFf<|exitE<|xB<|tN ?_
  have hEz:Enc bs' ((([j.priority,(j.inputs.n:Int)]++j.inputs.l.flatMap (fun x=>nPlane x.v))++[(j.stages.n:Int)])++j.stages.l.flatMap (fun x=>nStage x.v)):=by
   by_cases hi2:i=j.stages.n
   ·rwa [flat_all om] at hp
   ·refine Enc.more om (Nat.le_trans hp.le ?_)
    simp only [List.length_append]
    have:=flat_take_le (f:=(fun x=>nStage x.v)) j.stages.l i
    omega
  exact ⟨(a',n',k',c',bs'),alA,f0,hEz,hO',hbl',by have h1:=hEz.le;simp only [List.length_append,List.length_cons,List.length_nil] at h1;omega⟩
 refine pu4<|nT<|cD ((n':Int)<=262144) (fun v3=>?_) (fun v3=>?_)
 rotate_left
 ·refine exitE<|xB<|tN ?_
  have hEz:Enc bs' ((([j.priority,(j.inputs.n:Int)]++j.inputs.l.flatMap (fun x=>nPlane x.v))++[(j.stages.n:Int)])++j.stages.l.flatMap (fun x=>nStage x.v)):=by
   by_cases hi2:i=j.stages.n
   ·rwa [flat_all om] at hp
   ·refine Enc.more om (Nat.le_trans hp.le ?_)
    simp only [List.length_append]
    have:=flat_take_le (f:=(fun x=>nStage x.v)) j.stages.l i
    omega
  exact ⟨(a',n',k',c',bs'),alA,f0,hEz,hO',hbl',by have h1:=hEz.le;simp only [List.length_append,List.length_cons,List.length_nil] at h1;omega⟩
 refine kT<|seqE<|blockE<|rE<|pu2<|sL f0 1 1 (.slice j.stages.a j.stages.n j.stages.k) (isAgg26 _)<|pu1<|sIdx hj.stages (i:Int) runUnderlying26 sizeOf38 fun b0 _ _ c0 w3=>?_
 rw [Int.toNat_natCast] at c0
 have hl_x_116_weights:=(hj.stagesD b0 (List.mem_of_getElem? c0)).weights.len
 have hl_x_116_row:=(hj.stagesD b0 (List.mem_of_getElem? c0)).row.len
 have hl_x_116_col:=(hj.stagesD b0 (List.mem_of_getElem? c0)).col.len
 have hl_x_116_x:=(hj.stagesD b0 (List.mem_of_getElem? c0)).x.len
 have hl_x_116_y:=(hj.stagesD b0 (List.mem_of_getElem? c0)).y.len
 have hl_x_116_ops:=(hj.stagesD b0 (List.mem_of_getElem? c0)).ops.len
 have hfl:=flat_le (f:=(fun x=>nStage x.v)) c0
 have hEle:=hp.le
 simp only [List.length_append,List.length_cons,List.length_nil] at hEle
 refine sLpA f0 (w3.up 2 rfl) 0 (encStage b0) (isAgg38 _) (sizeOf38 _) ?_
 have x3:=(f0.picks [2,1])
 refine sF #[.slice a' n' k', .agg (encStage b0).toArray] call85 (Calls.mono (ref_stage W _ _ _ _ _ _ _ _ hO' b0 (hj.stagesD b0 (List.mem_of_getElem? c0)) om x3) ?_)
 rintro _ _ ⟨y3,z3,b4,d4,rfl,_,o0,e4⟩
 refine ⟨_,rfl,?_⟩
 generalize f4:bs'++bytesOf (nStage b0.v)=i1 at o0
 have a6:=o0.len
 refine pu1<|nB<|rE<|pu1<|sAdd (i:Int) 1<|pu1<|nT ?_
 have g4:=(e4.picks [2,1])
 have hstep:i1=bs'++bytesOf ((fun x=>nStage x.v) b0):=by subst f4;first|rfl|(simp only [bytesOf_one,bytesOf_app,bytesOf_cons,nTap,nOp,nPlane,nInts,List.append_assoc,List.cons_append,List.nil_append];done)|(simp [bytesOf,nTap,nOp,nPlane,nInts,Plane.v,Tap.v];done)
 have hEn:=hp.app ((fun x=>nStage x.v) b0)
 rw [<-hstep,List.append_assoc,<-flat_step (f:=(fun x=>nStage x.v)) c0] at hEn
 exact ⟨(i+1,y3,z3,b4,d4,i1),by dsimp only;omega,alA,g4,om,hEn,o0,o0.len⟩
end Go.Proofs.YtdingplbadblpaaGreat

namespace Go.Proofs.YtdingplbadblpaaGreat
open Go Go.E Go.Proofs.Tryz
set_option linter.all false
set_option maxRecDepth 100000
set_option maxHeartbeats 2000000
variable {W w:World} {H:Chunk} {F:List Chunk}
def WfI (x:Int):Prop:=-9223372036854775808<=x/\x<=9223372036854775807
structure Got {α:Type} (enc:α->List Int) (wf:α->Prop) (r0:List Int) (b0:Bool) (v:α) (r1:List Int) (b1:Bool):Prop where
  snd:b1=false->b0=false/\wf v/\r0=bytesOf (enc v)++r1
  cmp:b0=false->∀v0 r,wf v0->r0=bytesOf (enc v0)++r->b1=false
  len:r1.length<=r0.length
  byt:Bytes r0->Bytes r1
def Pf {α:Type} (enc:α->List Int) (wf:α->Prop):Prop:=∀v v' r r',wf v->wf v'->bytesOf (enc v)++r=bytesOf (enc v')++r'->v=v'/\r=r'
theorem be8_inj {x y:Int} (hx:WfI x) (hy:WfI y) (h:be8 x=be8 y):x=y:=by
  simp only [be8,List.cons.injEq,and_true] at h
  unfold WfI at hx hy
  omega
theorem be8_pf {x y:Int} {r r':List Int} (hx:WfI x) (hy:WfI y) (h:be8 x++r=be8 y++r'):x=y/\r=r':=by
  have:=List.append_inj h (by simp [be8_len])
  exact ⟨be8_inj hx hy this.1,this.2⟩
def encN (x:Int):List Int:=[x]
theorem bytes_encN (x:Int):bytesOf (encN x)=be8 x:=by simp [bytesOf,encN]
theorem pfI:Pf encN WfI:=by
  intro v v' r r' h h' e
  rw [bytes_encN,bytes_encN] at e
  exact be8_pf h h' e
def encP {α β:Type} (f:α->List Int) (g:β->List Int) (p:α×β):List Int:=f p.1++g p.2
def wfP {α β:Type} (f:α->Prop) (g:β->Prop) (p:α×β):Prop:=f p.1/\g p.2
theorem Pf.pair {α β:Type} {f:α->List Int} {g:β->List Int} {wf:α->Prop} {wg:β->Prop} (hf:Pf f wf) (hg:Pf g wg):Pf (encP f g) (wfP wf wg):=by
  intro ⟨a,b⟩ ⟨a',b'⟩ r r' h h' e
  simp only [encP,bytesOf_app,List.append_assoc] at e
  obtain ⟨rfl,e2⟩:=hf _ _ _ _ h.1 h'.1 e
  obtain ⟨rfl,e3⟩:=hg _ _ _ _ h.2 h'.2 e2
  exact ⟨rfl,e3⟩
theorem Got.pair {α β:Type} {f:α->List Int} {g:β->List Int} {wf:α->Prop} {wg:β->Prop} {r0 r1 r2:List Int} {b0 b1 b2:Bool} {a:α} {b:β} (hf:Pf f wf) (hA:Got f wf r0 b0 a r1 b1) (hB:Got g wg r1 b1 b r2 b2):
  Got (encP f g) (wfP wf wg) r0 b0 (a,b) r2 b2:=by
 refine ⟨fun h=>?_,fun h v0 r hw he=>?_,Nat.le_trans hB.len hA.len,fun h=>hB.byt (hA.byt h)⟩
 ·obtain ⟨h1,hw,e⟩:=hB.snd h
  obtain ⟨h2,hw2,e2⟩:=hA.snd h1
  exact ⟨h2,⟨hw2,hw⟩,by simp only [encP,bytesOf_app,List.append_assoc];rw [e2,e]⟩
 ·simp only [encP,bytesOf_app,List.append_assoc] at he
  have h1:=hA.cmp h v0.1 _ hw.1 he
  obtain ⟨_,hwa,e2⟩:=hA.snd h1
  rw [he] at e2
  obtain ⟨_,e3⟩:=hf _ _ _ _ hw.1 hwa e2
  exact hB.cmp h1 v0.2 r hw.2 e3.symm
theorem Got.map {α β:Type} {f:α->List Int} {g:β->List Int} {wf:α->Prop} {wg:β->Prop} {r0 r1:List Int} {b0 b1:Bool} {a:α} (φ:α->β) (hA:Got f wf r0 b0 a r1 b1) (he:∀a,wf a->g (φ a)=f a) (hw:∀a,wf a->wg (φ a)) (hs:∀b,wg b->∃a,wf a/\φ a=b):
    Got g wg r0 b0 (φ a) r1 b1:=by
  refine ⟨fun h=>?_,fun h v0 r hw0 e=>?_,hA.len,hA.byt⟩
  · obtain ⟨h1,h2,h3⟩:=hA.snd h
    exact ⟨h1,hw _ h2,by rw [he _ h2];exact h3⟩
  · obtain ⟨a0,h1,rfl⟩:=hs _ hw0
    exact hA.cmp h a0 r h1 (by rw [he _ h1] at e;exact e)
theorem Pf.map {α β:Type} {f:α->List Int} {g:β->List Int} {wf:α->Prop} {wg:β->Prop} (φ:α->β) (hf:Pf f wf) (he:∀a,wf a->g (φ a)=f a) (hs:∀b,wg b->∃a,wf a/\φ a=b):Pf g wg:=by
  intro v v' r r' h h' e
  obtain ⟨a,ha,rfl⟩:=hs _ h
  obtain ⟨a',ha',rfl⟩:=hs _ h'
  rw [he _ ha,he _ ha'] at e
  obtain ⟨rfl,e2⟩:=hf _ _ _ _ ha ha' e
  exact ⟨rfl,e2⟩
def wfN {α:Type} (wf:α->Prop) (i:Nat) (l:List α):Prop:=l.length=i/\∀x∈l,wf x
def encF {α:Type} (f:α->List Int) (l:List α):List Int:=l.flatMap f
theorem Pf.listN {α:Type} {f:α->List Int} {wf:α->Prop} (hf:Pf f wf) (n:Nat):Pf (encF f) (wfN wf n):=by
 induction n with
 |zero=>
  intro v v' r r' h h' e
  have h1:=List.eq_nil_of_length_eq_zero h.1
  have h2:=List.eq_nil_of_length_eq_zero h'.1
  subst h1;subst h2
  exact ⟨rfl,by simpa [encF,bytesOf] using e⟩
 |succ n ih=>
  intro v v' r r' h h' e
  cases v with
  |nil=>have:=h.1;simp at this
  |cons x v=>
   cases v' with
   |nil=>have:=h'.1;simp at this
   |cons x' v'=>
    simp only [encF,List.flatMap_cons,bytesOf_app,List.append_assoc] at e
    obtain ⟨rfl,e2⟩:=hf _ _ _ _ (h.2 x (by simp)) (h'.2 x' (by simp)) e
    obtain ⟨rfl,e3⟩:=ih v v' r r' ⟨by have:=h.1;simp at this;exact this,fun y hy=>h.2 y (by simp [hy])⟩ ⟨by have:=h'.1;simp at this;exact this,fun y hy=>h'.2 y (by simp [hy])⟩ e2
    exact ⟨rfl,e3⟩
theorem Got.none {α:Type} {f:α->List Int} {wf:α->Prop} (r:List Int) (b:Bool):Got (encF f) (wfN wf 0) r b [] r b:=
  ⟨fun h=>⟨h,⟨rfl,fun _ hx=>by cases hx⟩,rfl⟩,fun h _ _ _ _=>h,Nat.le_refl _,fun h=>h⟩
theorem Got.snoc {α:Type} {f:α->List Int} {wf:α->Prop} {i:Nat} {r0 r1 r2:List Int} {b0 b1 b2:Bool} {l:List α} {x:α} (hf:Pf f wf) (hA:Got (encF f) (wfN wf i) r0 b0 l r1 b1) (hB:Got f wf r1 b1 x r2 b2):
  Got (encF f) (wfN wf (i+1)) r0 b0 (l++[x]) r2 b2:=by
 refine (Got.pair (hf.listN i) hA hB).map (g:=encF f) (wg:=wfN wf (i+1)) (fun p=>p.1++[p.2]) (fun a _=>by simp [encF,encP]) (fun a ha=>?_) (fun l hl=>?_)
 ·refine ⟨by simp [ha.1.1],fun y hy=>?_⟩
  rcases List.mem_append.1 hy with h|h
  ·exact ha.1.2 y h
  ·simp at h;subst h;exact ha.2
 ·have hne:l≠[]:=by intro h;subst h;have:=hl.1;simp at this
  refine ⟨(l.dropLast,l.getLast hne),⟨⟨by simp [hl.1],fun y hy=>hl.2 y (List.dropLast_subset l hy)⟩,hl.2 _ (List.getLast_mem hne)⟩,List.dropLast_concat_getLast hne⟩
theorem Got.stop {α:Type} {f:α->List Int} {wf:α->Prop} {i n:Nat} {r0 r1:List Int} {b0:Bool} {l:List α} (hA:Got (encF f) (wfN wf i) r0 b0 l r1 true) (hi:i<=n) (v:List α):Got (encF f) (wfN wf n) r0 b0 v r1 true:=by
  refine ⟨(fun h=>nomatch h),(fun h v0 r hw he=>?_),hA.len,hA.byt⟩
  refine hA.cmp h (v0.take i) (bytesOf (encF f (v0.drop i))++r) ⟨by simp [hw.1];omega,fun x hx=>hw.2 x (List.mem_of_mem_take hx)⟩ ?_
  rw [<-List.append_assoc,<-bytesOf_app,he]
  congr 2
  simp only [encF]
  rw [<-List.flatMap_append,List.take_append_drop]
theorem Got.dead {α:Type} {f:α->List Int} {wf:α->Prop} (r:List Int) (v:α):Got f wf r true v r true:=
  ⟨(fun h=>nomatch h),(fun h=>nomatch h),Nat.le_refl _,fun h=>h⟩
theorem Got.any {α:Type} {f:α->List Int} {wf:α->Prop} {r0 r1:List Int} {b0:Bool} {v:α} (h:Got f wf r0 b0 v r1 true) (v':α):Got f wf r0 b0 v' r1 true:=
  ⟨(fun h=>nomatch h),h.cmp,h.len,h.byt⟩
structure GotC (size:Nat) (r0:List Int) (b0:Bool) (n:Int) (r1:List Int) (b1:Bool):Prop where
  snd:b1=false->b0=false/\r0=be8 n++r1
  cmp:b0=false->∀(n0:Nat) r,WfI n0->r0=be8 n0++r->n0*(8*size)<=r.length->b1=false
  len:r1.length<=r0.length
  byt:Bytes r0->Bytes r1
  rng:0<=n/\8*n<=r1.length/\WfI n
def encL {α:Type} (f:α->List Int) (l:List α):List Int:=(l.length:Int)::l.flatMap f
def wfL {α:Type} (wf:α->Prop) (l:List α):Prop:=WfI l.length/\∀x∈l,wf x
theorem Pf.list {α:Type} {f:α->List Int} {wf:α->Prop} (hf:Pf f wf):Pf (encL f) (wfL wf):=by
  intro v v' r r' h h' e
  simp only [encL,bytesOf_cons,List.append_assoc] at e
  obtain ⟨e1,e2⟩:=be8_pf h.1 h'.1 e
  exact hf.listN v.length _ _ _ _ ⟨rfl,h.2⟩ ⟨by omega,h'.2⟩ e2
theorem flat_ge {α:Type} {f:α->List Int} {size:Nat} (hs:∀x,size<=(f x).length) (l:List α):l.length*size<=(l.flatMap f).length:=by
  induction l with
  |nil=>simp
  |cons x l ih=>have:=hs x;simp only [List.flatMap_cons,List.length_append,List.length_cons,Nat.add_mul,Nat.one_mul];omega
theorem Got.list {α:Type} {f:α->List Int} {wf:α->Prop} {size:Nat} {r0 rc r1:List Int} {b0 bc b1:Bool} {n:Int} {l:List α} (hs:∀x,size<=(f x).length) (hC:GotC size r0 b0 n rc bc) (hA:Got (encF f) (wfN wf n.toNat) rc bc l r1 b1):
  Got (encL f) (wfL wf) r0 b0 l r1 b1:=by
 refine ⟨fun h=>?_,fun h v0 r hw he=>?_,Nat.le_trans hA.len hC.len,fun h=>hA.byt (hC.byt h)⟩
 ·obtain ⟨h1,⟨h2,h3⟩,e⟩:=hA.snd h
  obtain ⟨h4,e2⟩:=hC.snd h1
  have hn:(l.length:Int)=n:=by have:=hC.rng;omega
  refine ⟨h4,⟨by rw [hn];exact hC.rng.2.2,h3⟩,?_⟩
  rw [encL,bytesOf_cons,hn,List.append_assoc,e2,e];rfl
 ·simp only [encL,bytesOf_cons,List.append_assoc] at he
  have hl:=flat_ge hs v0
  have h1:=hC.cmp h v0.length _ hw.1 he (by
   rw [List.length_append,bytesOf_len]
   have:v0.length*(8*size)=8*(v0.length*size):=by rw [Nat.mul_left_comm]
   omega)
  obtain ⟨_,e2⟩:=hC.snd h1
  rw [he] at e2
  obtain ⟨e3,e4⟩:=be8_pf hw.1 hC.rng.2.2 e2
  exact hA.cmp h1 v0 r ⟨om,hw.2⟩ e4.symm
theorem take8 {l:List Int} {x0 x1 x2 x3 x4 x5 x6 x7:Int} (h0:l[0]?=some x0) (h1:l[1]?=some x1) (h2:l[2]?=some x2) (h3:l[3]?=some x3) (h4:l[4]?=some x4) (h5:l[5]?=some x5) (h6:l[6]?=some x6) (h7:l[7]?=some x7):
    l=[x0,x1,x2,x3,x4,x5,x6,x7]++l.drop 8:=by
  match l with
  |[]=>simp at h0
  |[_]=>simp at h1
  |[_,_]=>simp at h2
  |[_,_,_]=>simp at h3
  |[_,_,_,_]=>simp at h4
  |[_,_,_,_,_]=>simp at h5
  |[_,_,_,_,_,_]=>simp at h6
  |[_,_,_,_,_,_,_]=>simp at h7
  |a::b::c::d::e::f::g::h::l=>simp at h0 h1 h2 h3 h4 h5 h6 h7;simp [*]
theorem dec8 {x0 x1 x2 x3 x4 x5 x6 x7:Int} (h0:0<=x0/\x0<256) (h1:0<=x1/\x1<256) (h2:0<=x2/\x2<256) (h3:0<=x3/\x3<256) (h4:0<=x4/\x4<256) (h5:0<=x5/\x5<256) (h6:0<=x6/\x6<256) (h7:0<=x7/\x7<256) (E:Int)
  (hE:E=x0*72057594037927936+x1*281474976710656+x2*1099511627776+x3*4294967296+x4*16777216+x5*65536+x6*256+x7):be8 (IntKind.i64.wrap E)=[x0,x1,x2,x3,x4,x5,x6,x7]/\WfI (IntKind.i64.wrap E):=by
 have hm:IntKind.i64.wrap E%18446744073709551616=E:=by
  simp only [IntKind.wrap,IntKind.bits,IntKind.signed];simp;split<;>omega
 have hw:WfI (IntKind.i64.wrap E):=by
  unfold WfI;simp only [IntKind.wrap,IntKind.bits,IntKind.signed];simp;split<;>omega
 refine ⟨?_,hw⟩
 simp only [be8,hm,List.cons.injEq,and_true]
 refine ⟨?_,?_,?_,?_,?_,?_,?_,?_⟩<;>omega
theorem GotC.bad {size:Nat} {r r1:List Int} {b b1:Bool} {v:Int} (hG:Got encN WfI r b v r1 b1) (h:v<0\/(r1.length:Int)<v*((8*size:Nat):Int)):GotC size r b 0 r1 true:=by
  refine ⟨(fun h=>nomatch h),(fun hb n0 r2 hw he hle=>?_),hG.len,hG.byt,⟨by omega,by omega,by unfold WfI;omega⟩⟩
  have h1:=hG.cmp hb n0 r2 hw (by rw [bytes_encN];exact he)
  obtain ⟨_,hwv,e2⟩:=hG.snd h1
  rw [bytes_encN,he] at e2
  obtain ⟨rfl,rfl⟩:=be8_pf hw hwv e2
  rcases h with h|h
  · omega
  · have:((n0*(8*size):Nat):Int)<=r2.length:=by exact_mod_cast hle
    rw [Int.natCast_mul] at this
    omega
theorem GotC.good {size:Nat} {r r1:List Int} {b b1:Bool} {v:Int} (hG:Got encN WfI r b v r1 b1) (hw:WfI v) (h0:0<=v) (h8:8*v<=r1.length):GotC size r b v r1 b1:=by
  refine ⟨fun h=>?_,fun hb n0 r2 hw he hle=>?_,hG.len,hG.byt,⟨h0,h8,hw⟩⟩
  · obtain ⟨h1,_,e⟩:=hG.snd h
    exact ⟨h1,by rw [bytes_encN] at e;exact e⟩
  · exact hG.cmp hb n0 r2 hw (by rw [bytes_encN];exact he)
theorem Got.fail {r:List Int} {b:Bool} (v:Int) (h:b=true\/r.length<8):Got encN WfI r b v r true:=by
  refine ⟨(fun h=>nomatch h),(fun hb v0 r2 _ he=>?_),Nat.le_refl _,fun h=>h⟩
  rcases h with h|h
  · rw [h] at hb;exact hb
  · rw [he,bytes_encN] at h;simp [be8_len] at h;omega
theorem Got.read {r:List Int} {v:Int} {l:List Int} (hl:r=l++r.drop 8) (hv:be8 v=l) (hw:WfI v):Got encN WfI r false v (r.drop 8) false:=by
  refine ⟨fun _=>⟨rfl,hw,by rw [bytes_encN,hv];exact hl⟩,fun _ _ _ _ _=>rfl,by simp,fun h x hx=>h x (List.mem_of_mem_drop hx)⟩
def RdrR (T:Nat) (H:Chunk) (p:Nat) (r:List Int) (b:Bool) (fp:Chunk):Prop:=∃(a:Option Addr) (n k:Nat),fp=[(p,Obj.cells #[.slice a n k, .bool b] T (0,0))]/\RdT encB 1 [H] a n k r/\Bytes r/\r.length<=262144
theorem nInts_enc (l:List Int):nInts l=encL encN l:=by
  simp only [nInts,encL]
  rw [show l.flatMap encN=l from flat_one l]
def wfTap (t:TapV):Prop:=WfI t.first/\wfL WfI t.weights
def wfOp (p:POp):Prop:=WfI p.code/\WfI p.arg
theorem pfN:Pf (encL encN) (wfL WfI):=pfI.list
theorem Got.tap {r0 r1 r2:List Int} {b0 b1 b2:Bool} {v:Int} {l:List Int} (hA:Got encN WfI r0 b0 v r1 b1) (hB:Got (encL encN) (wfL WfI) r1 b1 l r2 b2):Got nTap wfTap r0 b0 ⟨v,l⟩ r2 b2:=
  (Got.pair pfI hA hB).map (fun p=>(⟨p.1,p.2⟩:TapV)) (fun a _=>by simp [nTap,nInts_enc,encP,encN]) (fun a h=>h) (fun b h=>⟨(b.first,b.weights),h,rfl⟩)
theorem pfTap:Pf nTap wfTap:=(pfI.pair pfN).map (fun p=>(⟨p.1,p.2⟩:TapV)) (fun a _=>by simp [nTap,nInts_enc,encP,encN]) (fun b h=>⟨(b.first,b.weights),h,rfl⟩)
theorem Got.op {r0 r1 r2:List Int} {b0 b1 b2:Bool} {v u:Int} (hA:Got encN WfI r0 b0 v r1 b1) (hB:Got encN WfI r1 b1 u r2 b2):Got nOp wfOp r0 b0 ⟨v,u⟩ r2 b2:=
  (Got.pair pfI hA hB).map (fun p=>(⟨p.1,p.2⟩:POp)) (fun a _=>by simp [nOp,encP,encN]) (fun a h=>h) (fun b h=>⟨(b.code,b.arg),h,rfl⟩)
theorem pfOp:Pf nOp wfOp:=(pfI.pair pfI).map (fun p=>(⟨p.1,p.2⟩:POp)) (fun a _=>by simp [nOp,encP,encN]) (fun b h=>⟨(b.code,b.arg),h,rfl⟩)
theorem nTap_ge (t:TapV):2<=(nTap t).length:=by simp [nTap,nInts]
theorem nOp_ge (t:POp):2<=(nOp t).length:=by simp [nOp]
theorem encN_ge (t:Int):1<=(encN t).length:=by simp [encN]
def encBo (b:Bool):List Int:=[nBool b]
def wfBo (_:Bool):Prop:=True
theorem nBool_wf (b:Bool):WfI (nBool b):=by cases b<;>simp [nBool,WfI]
theorem nBool_inj {b c:Bool} (h:nBool b=nBool c):b=c:=by cases b<;>cases c<;>simp [nBool] at h⊢
theorem bytes_encBo (b:Bool):bytesOf (encBo b)=be8 (nBool b):=by simp [bytesOf,encBo]
theorem pfBo:Pf encBo wfBo:=by
  intro v v' r r' _ _ e
  rw [bytes_encBo,bytes_encBo] at e
  obtain ⟨h1,h2⟩:=be8_pf (nBool_wf v) (nBool_wf v') e
  exact ⟨nBool_inj h1,h2⟩
theorem Got.bool {r0 r1:List Int} {b0 b1:Bool} {n:Int} (v:Bool) (h:Got encN WfI r0 b0 n r1 b1) (hn:n=nBool v):Got encBo wfBo r0 b0 v r1 b1:=by
  subst hn
  refine ⟨fun hb=>?_,fun hb v0 r _ he=>h.cmp hb (nBool v0) r (nBool_wf v0) (by rw [bytes_encN,<-bytes_encBo];exact he),h.len,h.byt⟩
  obtain ⟨h1,_,h3⟩:=h.snd hb
  exact ⟨h1,trivial,by rw [bytes_encBo,<-bytes_encN];exact h3⟩
theorem Got.boolbad {r0 r1:List Int} {b0 b1:Bool} {n:Int} (v:Bool) (h:Got encN WfI r0 b0 n r1 b1) (h0:n≠0) (h1:n≠1):Got encBo wfBo r0 b0 v r1 true:=by
  refine ⟨(fun h=>nomatch h),fun hb v0 r _ he=>?_,h.len,h.byt⟩
  rw [bytes_encBo] at he
  have hb1:=h.cmp hb (nBool v0) r (nBool_wf v0) (by rw [bytes_encN];exact he)
  obtain ⟨_,hw,h3⟩:=h.snd hb1
  rw [bytes_encN,he] at h3
  obtain ⟨e,_⟩:=be8_pf (nBool_wf v0) hw h3
  cases v0<;>simp [nBool] at e<;>omega
theorem nPlane_ge (t:PlaneV):4<=(nPlane t).length:=by simp [nPlane,nInts]
theorem nStage_ge (t:StageV):18<=(nStage t).length:=by simp [nStage,nInts,nTaps,nOps];omega
def wfPlane (s:PlaneV):Prop:=WfI s.w/\WfI s.h/\WfI s.max_/\(wfL WfI) s.pix
theorem Got.plane {r0 r1 r2 r3 r4:List Int} {b0 b1 b2 b3 b4:Bool} {v0:Int} {v1:Int} {v2:Int} {v3:List Int} (h0:Got encN WfI r0 b0 v0 r1 b1) (h1:Got encN WfI r1 b1 v1 r2 b2) (h2:Got encN WfI r2 b2 v2 r3 b3) (h3:Got (encL encN) (wfL WfI) r3 b3 v3 r4 b4):Got nPlane wfPlane r0 b0 ⟨v0,v1,v2,v3⟩ r4 b4:=by
  have H:=Got.map (g:=nPlane) (wg:=wfPlane) (fun p:(Int)×(Int)×(Int)×(List Int)=>(⟨p.1,p.2.1,p.2.2.1,p.2.2.2⟩:PlaneV)) (Got.pair pfI h0 (Got.pair pfI h1 (Got.pair pfI h2 h3))) (fun p _=>by simp [nPlane,nInts_enc,encP,encN,encBo,encL,nTaps,nOps]) (fun p h=>h) (fun s h=>⟨(s.w,s.h,s.max_,s.pix),h,rfl⟩)
  exact H
theorem pfPlane:Pf nPlane wfPlane:=Pf.map (g:=nPlane) (wg:=wfPlane) (fun p:(Int)×(Int)×(Int)×(List Int)=>(⟨p.1,p.2.1,p.2.2.1,p.2.2.2⟩:PlaneV)) (Pf.pair pfI (Pf.pair pfI (Pf.pair pfI pfN))) (fun p _=>by simp [nPlane,nInts_enc,encP,encN,encBo,encL,nTaps,nOps]) (fun s h=>⟨(s.w,s.h,s.max_,s.pix),h,rfl⟩)
def wfStage (s:StageV):Prop:=WfI s.kind/\WfI s.a/\WfI s.b/\wfBo s.barrier/\WfI s.edgePolicy/\WfI s.edgeFill/\WfI s.kW/\WfI s.kH/\(wfL WfI) s.weights/\(wfL WfI) s.row/\(wfL WfI) s.col/\WfI s.shift/\WfI s.shift2/\(wfL wfTap) s.x/\(wfL wfTap) s.y/\WfI s.bins/\(wfL wfOp) s.ops/\WfI s.max_
theorem Got.stage {r0 r1 r2 r3 r4 r5 r6 r7 r8 r9 r10 r11 r12 r13 r14 r15 r16 r17 r18:List Int} {b0 b1 b2 b3 b4 b5 b6 b7 b8 b9 b10 b11 b12 b13 b14 b15 b16 b17 b18:Bool} {v0:Int} {v1:Int} {v2:Int} {v3:Bool} {v4:Int} {v5:Int} {v6:Int} {v7:Int} {v8:List Int} {v9:List Int} {v10:List Int} {v11:Int} {v12:Int} {v13:List TapV} {v14:List TapV} {v15:Int} {v16:List POp} {v17:Int} (h0:Got encN WfI r0 b0 v0 r1 b1) (h1:Got encN WfI r1 b1 v1 r2 b2) (h2:Got encN WfI r2 b2 v2 r3 b3) (h3:Got encBo wfBo r3 b3 v3 r4 b4) (h4:Got encN WfI r4 b4 v4 r5 b5) (h5:Got encN WfI r5 b5 v5 r6 b6) (h6:Got encN WfI r6 b6 v6 r7 b7) (h7:Got encN WfI r7 b7 v7 r8 b8) (h8:Got (encL encN) (wfL WfI) r8 b8 v8 r9 b9) (h9:Got (encL encN) (wfL WfI) r9 b9 v9 r10 b10) (h10:Got (encL encN) (wfL WfI) r10 b10 v10 r11 b11) (h11:Got encN WfI r11 b11 v11 r12 b12) (h12:Got encN WfI r12 b12 v12 r13 b13) (h13:Got (encL nTap) (wfL wfTap) r13 b13 v13 r14 b14) (h14:Got (encL nTap) (wfL wfTap) r14 b14 v14 r15 b15) (h15:Got encN WfI r15 b15 v15 r16 b16) (h16:Got (encL nOp) (wfL wfOp) r16 b16 v16 r17 b17) (h17:Got encN WfI r17 b17 v17 r18 b18):Got nStage wfStage r0 b0 ⟨v0,v1,v2,v3,v4,v5,v6,v7,v8,v9,v10,v11,v12,v13,v14,v15,v16,v17⟩ r18 b18:=by
 have H:=Got.map (g:=nStage) (wg:=wfStage) (fun p:(Int)×(Int)×(Int)×(Bool)×(Int)×(Int)×(Int)×(Int)×(List Int)×(List Int)×(List Int)×(Int)×(Int)×(List TapV)×(List TapV)×(Int)×(List POp)×(Int)=>(⟨p.1,p.2.1,p.2.2.1,p.2.2.2.1,p.2.2.2.2.1,p.2.2.2.2.2.1,p.2.2.2.2.2.2.1,p.2.2.2.2.2.2.2.1,p.2.2.2.2.2.2.2.2.1,p.2.2.2.2.2.2.2.2.2.1,p.2.2.2.2.2.2.2.2.2.2.1,p.2.2.2.2.2.2.2.2.2.2.2.1,p.2.2.2.2.2.2.2.2.2.2.2.2.1,p.2.2.2.2.2.2.2.2.2.2.2.2.2.1,p.2.2.2.2.2.2.2.2.2.2.2.2.2.2.1,p.2.2.2.2.2.2.2.2.2.2.2.2.2.2.2.1,p.2.2.2.2.2.2.2.2.2.2.2.2.2.2.2.2.1,p.2.2.2.2.2.2.2.2.2.2.2.2.2.2.2.2.2⟩:StageV)) (Got.pair pfI h0 (Got.pair pfI h1 (Got.pair pfI h2 (Got.pair pfBo h3 (Got.pair pfI h4 (Got.pair pfI h5 (Got.pair pfI h6 (Got.pair pfI h7 (Got.pair pfN h8 (Got.pair pfN h9 (Got.pair pfN h10 (Got.pair pfI h11 (Got.pair pfI h12 (Got.pair pfTap.list h13 (Got.pair pfTap.list h14 (Got.pair pfI h15 (Got.pair pfOp.list h16 h17))))))))))))))))) (fun p _=>by simp [nStage,nInts_enc,encP,encN,encBo,encL,nTaps,nOps]) (fun p h=>h) (fun s h=>⟨(s.kind,s.a,s.b,s.barrier,s.edgePolicy,s.edgeFill,s.kW,s.kH,s.weights,s.row,s.col,s.shift,s.shift2,s.x,s.y,s.bins,s.ops,s.max_),h,rfl⟩)
 exact H
theorem pfStage:Pf nStage wfStage:=Pf.map (g:=nStage) (wg:=wfStage) (fun p:(Int)×(Int)×(Int)×(Bool)×(Int)×(Int)×(Int)×(Int)×(List Int)×(List Int)×(List Int)×(Int)×(Int)×(List TapV)×(List TapV)×(Int)×(List POp)×(Int)=>(⟨p.1,p.2.1,p.2.2.1,p.2.2.2.1,p.2.2.2.2.1,p.2.2.2.2.2.1,p.2.2.2.2.2.2.1,p.2.2.2.2.2.2.2.1,p.2.2.2.2.2.2.2.2.1,p.2.2.2.2.2.2.2.2.2.1,p.2.2.2.2.2.2.2.2.2.2.1,p.2.2.2.2.2.2.2.2.2.2.2.1,p.2.2.2.2.2.2.2.2.2.2.2.2.1,p.2.2.2.2.2.2.2.2.2.2.2.2.2.1,p.2.2.2.2.2.2.2.2.2.2.2.2.2.2.1,p.2.2.2.2.2.2.2.2.2.2.2.2.2.2.2.1,p.2.2.2.2.2.2.2.2.2.2.2.2.2.2.2.2.1,p.2.2.2.2.2.2.2.2.2.2.2.2.2.2.2.2.2⟩:StageV)) (Pf.pair pfI (Pf.pair pfI (Pf.pair pfI (Pf.pair pfBo (Pf.pair pfI (Pf.pair pfI (Pf.pair pfI (Pf.pair pfI (Pf.pair pfN (Pf.pair pfN (Pf.pair pfN (Pf.pair pfI (Pf.pair pfI (Pf.pair pfTap.list (Pf.pair pfTap.list (Pf.pair pfI (Pf.pair pfOp.list pfI))))))))))))))))) (fun p _=>by simp [nStage,nInts_enc,encP,encN,encBo,encL,nTaps,nOps]) (fun s h=>⟨(s.kind,s.a,s.b,s.barrier,s.edgePolicy,s.edgeFill,s.kW,s.kH,s.weights,s.row,s.col,s.shift,s.shift2,s.x,s.y,s.bins,s.ops,s.max_),h,rfl⟩)
def wfJob (s:JobV):Prop:=WfI s.priority/\(wfL wfPlane) s.inputs/\(wfL wfStage) s.stages/\(wfL WfI) s.outputs
theorem Got.job {r0 r1 r2 r3 r4:List Int} {b0 b1 b2 b3 b4:Bool} {v0:Int} {v1:List PlaneV} {v2:List StageV} {v3:List Int} (h0:Got encN WfI r0 b0 v0 r1 b1) (h1:Got (encL nPlane) (wfL wfPlane) r1 b1 v1 r2 b2) (h2:Got (encL nStage) (wfL wfStage) r2 b2 v2 r3 b3) (h3:Got (encL encN) (wfL WfI) r3 b3 v3 r4 b4):Got nJob wfJob r0 b0 ⟨v1,v2,v3,v0⟩ r4 b4:=by
 have H:=Got.map (g:=nJob) (wg:=wfJob) (fun p:(Int)×(List PlaneV)×(List StageV)×(List Int)=>(⟨p.2.1,p.2.2.1,p.2.2.2,p.1⟩:JobV)) (Got.pair pfI h0 (Got.pair pfPlane.list h1 (Got.pair pfStage.list h2 h3))) (fun p _=>by simp [nJob,nInts_enc,encP,encN,encBo,encL,nTaps,nOps]) (fun p h=>h) (fun s h=>⟨(s.priority,s.inputs,s.stages,s.outputs),h,rfl⟩)
 exact H
theorem pfJob:Pf nJob wfJob:=Pf.map (g:=nJob) (wg:=wfJob) (fun p:(Int)×(List PlaneV)×(List StageV)×(List Int)=>(⟨p.2.1,p.2.2.1,p.2.2.2,p.1⟩:JobV)) (Pf.pair pfI (Pf.pair pfPlane.list (Pf.pair pfStage.list pfN))) (fun p _=>by simp [nJob,nInts_enc,encP,encN,encBo,encL,nTaps,nOps]) (fun s h=>⟨(s.priority,s.inputs,s.stages,s.outputs),h,rfl⟩)
end Go.Proofs.YtdingplbadblpaaGreat
