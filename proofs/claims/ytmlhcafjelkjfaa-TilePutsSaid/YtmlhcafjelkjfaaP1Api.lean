import Derived.WalkKit
import Derived.Deep.Quiet
import Derived.KernelRfl
import Derived.Laws.BytesString
import Derived.Laws.Shifts
import Derived.Laws.IdiomStrings
import Derived.Test.YtmlhcafjelkjfaaProg
import Derived.Test.YtmlhcafjelkjfaaP1Ab
namespace Go.Proofs.Ytmlhcafjelkjfaa
open Go Go.E Go.Proofs.Try
set_option linter.all false
set_option maxRecDepth 100000
set_option maxHeartbeats 2000000
variable {W w:World} {H:Chunk} {F:List Chunk}
structure Sl (α:Type) where
  a:Option Addr
  n:Nat
  k:Nat
  l:List α
structure Tap where
  first:Int
  weights:Sl Int
def encTap (x:Tap):List Value:=[.int .i64 x.first, .slice x.weights.a x.weights.n x.weights.k]
structure TapV where
  first:Int
  weights:List Int
  deriving DecidableEq
def Tap.v (x:Tap):TapV:=⟨x.first,x.weights.l⟩
structure Tap.Ok (cs:List Chunk) (q:Tap):Prop where
  weights:RdT Go.E.encI 1 cs q.weights.a q.weights.n q.weights.k q.weights.l
theorem Tap.Ok.of_mem {cs cs':List Chunk} {x:Tap} (h:Tap.Ok cs x) (hm:∀p∈cs.flatten,p∈cs'.flatten):Tap.Ok cs' x:=⟨h.weights.of_mem hm⟩
structure POp where
  code:Int
  arg:Int
  deriving DecidableEq
def encPOp (x:POp):List Value:=[.int .i64 x.code, .int .i64 x.arg]
structure Plane where
  w:Int
  h:Int
  max_:Int
  pix:Sl Int
def encPlane (x:Plane):List Value:=[.int .i64 x.w, .int .i64 x.h, .int .i64 x.max_, .slice x.pix.a x.pix.n x.pix.k]
structure PlaneV where
  w:Int
  h:Int
  max_:Int
  pix:List Int
  deriving DecidableEq
def Plane.v (x:Plane):PlaneV:=⟨x.w,x.h,x.max_,x.pix.l⟩
structure Plane.Ok (cs:List Chunk) (q:Plane):Prop where
  pix:RdT Go.E.encI 1 cs q.pix.a q.pix.n q.pix.k q.pix.l
theorem Plane.Ok.of_mem {cs cs':List Chunk} {x:Plane} (h:Plane.Ok cs x) (hm:∀p∈cs.flatten,p∈cs'.flatten):Plane.Ok cs' x:=⟨h.pix.of_mem hm⟩
structure Stage where
  kind:Int
  a:Int
  b:Int
  barrier:Bool
  edgePolicy:Int
  edgeFill:Int
  kW:Int
  kH:Int
  weights:Sl Int
  row:Sl Int
  col:Sl Int
  shift:Int
  shift2:Int
  x:Sl Tap
  y:Sl Tap
  bins:Int
  ops:Sl POp
  max_:Int
def encStage (x:Stage):List Value:=[.int .i64 x.kind, .int .i64 x.a, .int .i64 x.b, .bool x.barrier, .int .i64 x.edgePolicy, .int .i64 x.edgeFill, .int .i64 x.kW, .int .i64 x.kH, .slice x.weights.a x.weights.n x.weights.k, .slice x.row.a x.row.n x.row.k, .slice x.col.a x.col.n x.col.k, .int .i64 x.shift, .int .i64 x.shift2, .slice x.x.a x.x.n x.x.k, .slice x.y.a x.y.n x.y.k, .int .i64 x.bins, .slice x.ops.a x.ops.n x.ops.k, .int .i64 x.max_]
structure StageV where
  kind:Int
  a:Int
  b:Int
  barrier:Bool
  edgePolicy:Int
  edgeFill:Int
  kW:Int
  kH:Int
  weights:List Int
  row:List Int
  col:List Int
  shift:Int
  shift2:Int
  x:List TapV
  y:List TapV
  bins:Int
  ops:List POp
  max_:Int
  deriving DecidableEq
def Stage.v (x:Stage):StageV:=⟨x.kind,x.a,x.b,x.barrier,x.edgePolicy,x.edgeFill,x.kW,x.kH,x.weights.l,x.row.l,x.col.l,x.shift,x.shift2,x.x.l.map Tap.v,x.y.l.map Tap.v,x.bins,x.ops.l,x.max_⟩
structure Stage.Ok (cs:List Chunk) (q:Stage):Prop where
  weights:RdT Go.E.encI 1 cs q.weights.a q.weights.n q.weights.k q.weights.l
  row:RdT Go.E.encI 1 cs q.row.a q.row.n q.row.k q.row.l
  col:RdT Go.E.encI 1 cs q.col.a q.col.n q.col.k q.col.l
  x:RdT encTap 2 cs q.x.a q.x.n q.x.k q.x.l
  xD:∀z∈q.x.l,Tap.Ok cs z
  y:RdT encTap 2 cs q.y.a q.y.n q.y.k q.y.l
  yD:∀z∈q.y.l,Tap.Ok cs z
  ops:RdT encPOp 2 cs q.ops.a q.ops.n q.ops.k q.ops.l
theorem Stage.Ok.of_mem {cs cs':List Chunk} {x:Stage} (h:Stage.Ok cs x) (hm:∀p∈cs.flatten,p∈cs'.flatten):Stage.Ok cs' x:=⟨h.weights.of_mem hm,h.row.of_mem hm,h.col.of_mem hm,h.x.of_mem hm,fun y hy=>(h.xD y hy).of_mem hm,h.y.of_mem hm,fun y hy=>(h.yD y hy).of_mem hm,h.ops.of_mem hm⟩
abbrev zStage:Stage:=⟨0,0,0,false,0,0,0,0,⟨none,0,0,[]⟩,⟨none,0,0,[]⟩,⟨none,0,0,[]⟩,0,0,⟨none,0,0,[]⟩,⟨none,0,0,[]⟩,0,⟨none,0,0,[]⟩,0⟩
structure Job where
  inputs:Sl Plane
  stages:Sl Stage
  outputs:Sl Int
  priority:Int
structure JobV where
  inputs:List PlaneV
  stages:List StageV
  outputs:List Int
  priority:Int
  deriving DecidableEq
def Job.v (x:Job):JobV:=⟨x.inputs.l.map Plane.v,x.stages.l.map Stage.v,x.outputs.l,x.priority⟩
structure Job.Ok (cs:List Chunk) (q:Job):Prop where
  inputs:RdT encPlane 4 cs q.inputs.a q.inputs.n q.inputs.k q.inputs.l
  inputsD:∀z∈q.inputs.l,Plane.Ok cs z
  stages:RdT encStage 18 cs q.stages.a q.stages.n q.stages.k q.stages.l
  stagesD:∀z∈q.stages.l,Stage.Ok cs z
  outputs:RdT Go.E.encI 1 cs q.outputs.a q.outputs.n q.outputs.k q.outputs.l
theorem Job.Ok.of_mem {cs cs':List Chunk} {x:Job} (h:Job.Ok cs x) (hm:∀p∈cs.flatten,p∈cs'.flatten):Job.Ok cs' x:=⟨h.inputs.of_mem hm,fun y hy=>(h.inputsD y hy).of_mem hm,h.stages.of_mem hm,fun y hy=>(h.stagesD y hy).of_mem hm,h.outputs.of_mem hm⟩
structure Shape where
  w:Int
  h:Int
  max_:Int
  deriving DecidableEq
structure Task where
  stage:Int
  part:Int
  rectX0:Int
  rectY0:Int
  rectX1:Int
  rectY1:Int
  deps:Sl Int
  rows:Int
  scratch:Int
def encTask (x:Task):List Value:=[.int .i64 x.stage, .int .i64 x.part, .int .i64 x.rectX0, .int .i64 x.rectY0, .int .i64 x.rectX1, .int .i64 x.rectY1, .slice x.deps.a x.deps.n x.deps.k, .int .i64 x.rows, .int .i64 x.scratch]
structure TaskV where
  stage:Int
  part:Int
  rectX0:Int
  rectY0:Int
  rectX1:Int
  rectY1:Int
  deps:List Int
  rows:Int
  scratch:Int
  deriving DecidableEq
def Task.v (x:Task):TaskV:=⟨x.stage,x.part,x.rectX0,x.rectY0,x.rectX1,x.rectY1,x.deps.l,x.rows,x.scratch⟩
structure Task.Ok (cs:List Chunk) (q:Task):Prop where
  deps:RdT Go.E.encI 1 cs q.deps.a q.deps.n q.deps.k q.deps.l
theorem Task.Ok.of_mem {cs cs':List Chunk} {x:Task} (h:Task.Ok cs x) (hm:∀p∈cs.flatten,p∈cs'.flatten):Task.Ok cs' x:=⟨h.deps.of_mem hm⟩
def be8 (n:Int):List Int:=[n%18446744073709551616/72057594037927936%256,n%18446744073709551616/281474976710656%256,n%18446744073709551616/1099511627776%256,n%18446744073709551616/4294967296%256,n%18446744073709551616/16777216%256,n%18446744073709551616/65536%256,n%18446744073709551616/256%256,n%18446744073709551616/1%256]
theorem be8_len (n:Int):(be8 n).length=8:=rfl
def bytesOf (l:List Int):List Int:=l.flatMap be8
theorem bytesOf_app (a b:List Int):bytesOf (a++b)=bytesOf a++bytesOf b:=by simp [bytesOf]
theorem bytesOf_cons (a:Int) (b:List Int):bytesOf (a::b)=be8 a++bytesOf b:=by simp [bytesOf]
theorem bytesOf_len (l:List Int):(bytesOf l).length=8*l.length:=by
  induction l with
  |nil=>rfl
  |cons x l ih=>rw [bytesOf_cons];simp [ih,be8_len];omega
def nInts (l:List Int):List Int:=(l.length:Int)::l
def nTap (t:TapV):List Int:=t.first::nInts t.weights
def nTaps (l:List TapV):List Int:=(l.length:Int)::l.flatMap nTap
def nOp (p:POp):List Int:=[p.code,p.arg]
def nOps (l:List POp):List Int:=(l.length:Int)::l.flatMap nOp
def nBool (b:Bool):Int:=if b then 1 else 0
def nStage (s:StageV):List Int:=
  [s.kind,s.a,s.b,nBool s.barrier,s.edgePolicy,s.edgeFill,s.kW,s.kH]++(nInts s.weights++(nInts s.row++(nInts s.col++([s.shift,s.shift2]++(nTaps s.x++(nTaps s.y++([s.bins]++(nOps s.ops++[s.max_]))))))))
structure Wr where
  bs:List Int
  full:Bool
def Wr.one (s:Wr) (n:Int):Wr:=if s.full=true\/262144<s.bs.length+8 then ⟨s.bs,true⟩ else ⟨s.bs++be8 n,false⟩
def Wr.put (s:Wr) (l:List Int):Wr:=l.foldl Wr.one s
theorem flat_one (l:List Int):l.flatMap (fun x=>[x])=l:=by induction l with|nil=>rfl|cons x l ih=>simp
def Enc (bs L:List Int):Prop:=bs=[84,70,1]++bytesOf L\/(262144<bs.length/\bs.length<=3+8*L.length)
theorem Enc.le {bs L:List Int} (h:Enc bs L):bs.length<=3+8*L.length:=by
  rcases h with h|h
  · rw [h];simp [bytesOf_len];omega
  · exact h.2
def WfI (x:Int):Prop:=-9223372036854775808<=x/\x<=9223372036854775807
structure Got {α:Type} (enc:α->List Int) (wf:α->Prop) (r0:List Int) (b0:Bool) (v:α) (r1:List Int) (b1:Bool):Prop where
  snd:b1=false->b0=false/\wf v/\r0=bytesOf (enc v)++r1
  cmp:b0=false->∀v0 r,wf v0->r0=bytesOf (enc v0)++r->b1=false
  len:r1.length<=r0.length
  byt:Bytes r0->Bytes r1
def Pf {α:Type} (enc:α->List Int) (wf:α->Prop):Prop:=∀v v' r r',wf v->wf v'->bytesOf (enc v)++r=bytesOf (enc v')++r'->v=v'/\r=r'
theorem be8_inj {x y:Int} (hx:WfI x) (hy:WfI y) (h:be8 x=be8 y):x=y:=by
  simp only [be8,List.cons.injEq,and_true] at h
  unfold WfI at hx hy
  omega
theorem be8_pf {x y:Int} {r r':List Int} (hx:WfI x) (hy:WfI y) (h:be8 x++r=be8 y++r'):x=y/\r=r':=by
  have:=List.append_inj h (by simp [be8_len])
  exact ⟨be8_inj hx hy this.1,this.2⟩
def encN (x:Int):List Int:=[x]
theorem bytes_encN (x:Int):bytesOf (encN x)=be8 x:=by simp [bytesOf,encN]
theorem pfI:Pf encN WfI:=by
  intro v v' r r' h h' e
  rw [bytes_encN,bytes_encN] at e
  exact be8_pf h h' e
def encP {α β:Type} (f:α->List Int) (g:β->List Int) (p:α×β):List Int:=f p.1++g p.2
def wfP {α β:Type} (f:α->Prop) (g:β->Prop) (p:α×β):Prop:=f p.1/\g p.2
theorem Pf.pair {α β:Type} {f:α->List Int} {g:β->List Int} {wf:α->Prop} {wg:β->Prop} (hf:Pf f wf) (hg:Pf g wg):Pf (encP f g) (wfP wf wg):=by
  intro ⟨a,b⟩ ⟨a',b'⟩ r r' h h' e
  simp only [encP,bytesOf_app,List.append_assoc] at e
  obtain ⟨rfl,e2⟩:=hf _ _ _ _ h.1 h'.1 e
  obtain ⟨rfl,e3⟩:=hg _ _ _ _ h.2 h'.2 e2
  exact ⟨rfl,e3⟩
theorem Got.pair {α β:Type} {f:α->List Int} {g:β->List Int} {wf:α->Prop} {wg:β->Prop} {r0 r1 r2:List Int} {b0 b1 b2:Bool} {a:α} {b:β} (hf:Pf f wf) (hA:Got f wf r0 b0 a r1 b1) (hB:Got g wg r1 b1 b r2 b2):
  Got (encP f g) (wfP wf wg) r0 b0 (a,b) r2 b2:=by
 refine ⟨fun h=>?_,fun h v0 r hw he=>?_,Nat.le_trans hB.len hA.len,fun h=>hB.byt (hA.byt h)⟩
 ·obtain ⟨h1,hw,e⟩:=hB.snd h
  obtain ⟨h2,hw2,e2⟩:=hA.snd h1
  exact ⟨h2,⟨hw2,hw⟩,by simp only [encP,bytesOf_app,List.append_assoc];rw [e2,e]⟩
 ·simp only [encP,bytesOf_app,List.append_assoc] at he
  have h1:=hA.cmp h v0.1 _ hw.1 he
  obtain ⟨_,hwa,e2⟩:=hA.snd h1
  rw [he] at e2
  obtain ⟨_,e3⟩:=hf _ _ _ _ hw.1 hwa e2
  exact hB.cmp h1 v0.2 r hw.2 e3.symm
theorem Got.map {α β:Type} {f:α->List Int} {g:β->List Int} {wf:α->Prop} {wg:β->Prop} {r0 r1:List Int} {b0 b1:Bool} {a:α} (φ:α->β) (hA:Got f wf r0 b0 a r1 b1) (he:∀a,wf a->g (φ a)=f a) (hw:∀a,wf a->wg (φ a)) (hs:∀b,wg b->∃a,wf a/\φ a=b):
    Got g wg r0 b0 (φ a) r1 b1:=by
  refine ⟨fun h=>?_,fun h v0 r hw0 e=>?_,hA.len,hA.byt⟩
  · obtain ⟨h1,h2,h3⟩:=hA.snd h
    exact ⟨h1,hw _ h2,by rw [he _ h2];exact h3⟩
  · obtain ⟨a0,h1,rfl⟩:=hs _ hw0
    exact hA.cmp h a0 r h1 (by rw [he _ h1] at e;exact e)
theorem Pf.map {α β:Type} {f:α->List Int} {g:β->List Int} {wf:α->Prop} {wg:β->Prop} (φ:α->β) (hf:Pf f wf) (he:∀a,wf a->g (φ a)=f a) (hs:∀b,wg b->∃a,wf a/\φ a=b):Pf g wg:=by
  intro v v' r r' h h' e
  obtain ⟨a,ha,rfl⟩:=hs _ h
  obtain ⟨a',ha',rfl⟩:=hs _ h'
  rw [he _ ha,he _ ha'] at e
  obtain ⟨rfl,e2⟩:=hf _ _ _ _ ha ha' e
  exact ⟨rfl,e2⟩
def wfN {α:Type} (wf:α->Prop) (i:Nat) (l:List α):Prop:=l.length=i/\∀x∈l,wf x
def encF {α:Type} (f:α->List Int) (l:List α):List Int:=l.flatMap f
theorem Pf.listN {α:Type} {f:α->List Int} {wf:α->Prop} (hf:Pf f wf) (n:Nat):Pf (encF f) (wfN wf n):=by
 induction n with
 |zero=>
  intro v v' r r' h h' e
  have h1:=List.eq_nil_of_length_eq_zero h.1
  have h2:=List.eq_nil_of_length_eq_zero h'.1
  subst h1;subst h2
  exact ⟨rfl,by simpa [encF,bytesOf] using e⟩
 |succ n ih=>
  intro v v' r r' h h' e
  cases v with
  |nil=>have:=h.1;simp at this
  |cons x v=>
   cases v' with
   |nil=>have:=h'.1;simp at this
   |cons x' v'=>
    simp only [encF,List.flatMap_cons,bytesOf_app,List.append_assoc] at e
    obtain ⟨rfl,e2⟩:=hf _ _ _ _ (h.2 x (by simp)) (h'.2 x' (by simp)) e
    obtain ⟨rfl,e3⟩:=ih v v' r r' ⟨by have:=h.1;simp at this;exact this,fun y hy=>h.2 y (by simp [hy])⟩ ⟨by have:=h'.1;simp at this;exact this,fun y hy=>h'.2 y (by simp [hy])⟩ e2
    exact ⟨rfl,e3⟩
theorem Got.any {α:Type} {f:α->List Int} {wf:α->Prop} {r0 r1:List Int} {b0:Bool} {v:α} (h:Got f wf r0 b0 v r1 true) (v':α):Got f wf r0 b0 v' r1 true:=
  ⟨(fun h=>nomatch h),h.cmp,h.len,h.byt⟩
structure GotC (size:Nat) (r0:List Int) (b0:Bool) (n:Int) (r1:List Int) (b1:Bool):Prop where
  snd:b1=false->b0=false/\r0=be8 n++r1
  cmp:b0=false->∀(n0:Nat) r,WfI n0->r0=be8 n0++r->n0*(8*size)<=r.length->b1=false
  len:r1.length<=r0.length
  byt:Bytes r0->Bytes r1
  rng:0<=n/\8*n<=r1.length/\WfI n
def encL {α:Type} (f:α->List Int) (l:List α):List Int:=(l.length:Int)::l.flatMap f
def wfL {α:Type} (wf:α->Prop) (l:List α):Prop:=WfI l.length/\∀x∈l,wf x
theorem Pf.list {α:Type} {f:α->List Int} {wf:α->Prop} (hf:Pf f wf):Pf (encL f) (wfL wf):=by
  intro v v' r r' h h' e
  simp only [encL,bytesOf_cons,List.append_assoc] at e
  obtain ⟨e1,e2⟩:=be8_pf h.1 h'.1 e
  exact hf.listN v.length _ _ _ _ ⟨rfl,h.2⟩ ⟨by omega,h'.2⟩ e2
theorem flat_ge {α:Type} {f:α->List Int} {size:Nat} (hs:∀x,size<=(f x).length) (l:List α):l.length*size<=(l.flatMap f).length:=by
  induction l with
  |nil=>simp
  |cons x l ih=>have:=hs x;simp only [List.flatMap_cons,List.length_append,List.length_cons,Nat.add_mul,Nat.one_mul];omega
theorem Got.list {α:Type} {f:α->List Int} {wf:α->Prop} {size:Nat} {r0 rc r1:List Int} {b0 bc b1:Bool} {n:Int} {l:List α} (hs:∀x,size<=(f x).length) (hC:GotC size r0 b0 n rc bc) (hA:Got (encF f) (wfN wf n.toNat) rc bc l r1 b1):
  Got (encL f) (wfL wf) r0 b0 l r1 b1:=by
 refine ⟨fun h=>?_,fun h v0 r hw he=>?_,Nat.le_trans hA.len hC.len,fun h=>hA.byt (hC.byt h)⟩
 ·obtain ⟨h1,⟨h2,h3⟩,e⟩:=hA.snd h
  obtain ⟨h4,e2⟩:=hC.snd h1
  have hn:(l.length:Int)=n:=by have:=hC.rng;omega
  refine ⟨h4,⟨by rw [hn];exact hC.rng.2.2,h3⟩,?_⟩
  rw [encL,bytesOf_cons,hn,List.append_assoc,e2,e];rfl
 ·simp only [encL,bytesOf_cons,List.append_assoc] at he
  have hl:=flat_ge hs v0
  have h1:=hC.cmp h v0.length _ hw.1 he (by
   rw [List.length_append,bytesOf_len]
   have:v0.length*(8*size)=8*(v0.length*size):=by rw [Nat.mul_left_comm]
   omega)
  obtain ⟨_,e2⟩:=hC.snd h1
  rw [he] at e2
  obtain ⟨e3,e4⟩:=be8_pf hw.1 hC.rng.2.2 e2
  exact hA.cmp h1 v0 r ⟨om,hw.2⟩ e4.symm
theorem nInts_enc (l:List Int):nInts l=encL encN l:=by
  simp only [nInts,encL]
  rw [show l.flatMap encN=l from flat_one l]
def wfTap (t:TapV):Prop:=WfI t.first/\wfL WfI t.weights
def wfOp (p:POp):Prop:=WfI p.code/\WfI p.arg
theorem pfN:Pf (encL encN) (wfL WfI):=pfI.list
theorem pfTap:Pf nTap wfTap:=(pfI.pair pfN).map (fun p=>(⟨p.1,p.2⟩:TapV)) (fun a _=>by simp [nTap,nInts_enc,encP,encN]) (fun b h=>⟨(b.first,b.weights),h,rfl⟩)
theorem Got.op {r0 r1 r2:List Int} {b0 b1 b2:Bool} {v u:Int} (hA:Got encN WfI r0 b0 v r1 b1) (hB:Got encN WfI r1 b1 u r2 b2):Got nOp wfOp r0 b0 ⟨v,u⟩ r2 b2:=
  (Got.pair pfI hA hB).map (fun p=>(⟨p.1,p.2⟩:POp)) (fun a _=>by simp [nOp,encP,encN]) (fun a h=>h) (fun b h=>⟨(b.code,b.arg),h,rfl⟩)
theorem pfOp:Pf nOp wfOp:=(pfI.pair pfI).map (fun p=>(⟨p.1,p.2⟩:POp)) (fun a _=>by simp [nOp,encP,encN]) (fun b h=>⟨(b.code,b.arg),h,rfl⟩)
def encBo (b:Bool):List Int:=[nBool b]
def wfBo (_:Bool):Prop:=True
theorem nBool_wf (b:Bool):WfI (nBool b):=by cases b<;>simp [nBool,WfI]
theorem nBool_inj {b c:Bool} (h:nBool b=nBool c):b=c:=by cases b<;>cases c<;>simp [nBool] at h⊢
theorem bytes_encBo (b:Bool):bytesOf (encBo b)=be8 (nBool b):=by simp [bytesOf,encBo]
theorem pfBo:Pf encBo wfBo:=by
  intro v v' r r' _ _ e
  rw [bytes_encBo,bytes_encBo] at e
  obtain ⟨h1,h2⟩:=be8_pf (nBool_wf v) (nBool_wf v') e
  exact ⟨nBool_inj h1,h2⟩
theorem Got.bool {r0 r1:List Int} {b0 b1:Bool} {n:Int} (v:Bool) (h:Got encN WfI r0 b0 n r1 b1) (hn:n=nBool v):Got encBo wfBo r0 b0 v r1 b1:=by
  subst hn
  refine ⟨fun hb=>?_,fun hb v0 r _ he=>h.cmp hb (nBool v0) r (nBool_wf v0) (by rw [bytes_encN,<-bytes_encBo];exact he),h.len,h.byt⟩
  obtain ⟨h1,_,h3⟩:=h.snd hb
  exact ⟨h1,trivial,by rw [bytes_encBo,<-bytes_encN];exact h3⟩
def wfStage (s:StageV):Prop:=WfI s.kind/\WfI s.a/\WfI s.b/\wfBo s.barrier/\WfI s.edgePolicy/\WfI s.edgeFill/\WfI s.kW/\WfI s.kH/\(wfL WfI) s.weights/\(wfL WfI) s.row/\(wfL WfI) s.col/\WfI s.shift/\WfI s.shift2/\(wfL wfTap) s.x/\(wfL wfTap) s.y/\WfI s.bins/\(wfL wfOp) s.ops/\WfI s.max_
theorem Got.stage {r0 r1 r2 r3 r4 r5 r6 r7 r8 r9 r10 r11 r12 r13 r14 r15 r16 r17 r18:List Int} {b0 b1 b2 b3 b4 b5 b6 b7 b8 b9 b10 b11 b12 b13 b14 b15 b16 b17 b18:Bool} {v0:Int} {v1:Int} {v2:Int} {v3:Bool} {v4:Int} {v5:Int} {v6:Int} {v7:Int} {v8:List Int} {v9:List Int} {v10:List Int} {v11:Int} {v12:Int} {v13:List TapV} {v14:List TapV} {v15:Int} {v16:List POp} {v17:Int} (h0:Got encN WfI r0 b0 v0 r1 b1) (h1:Got encN WfI r1 b1 v1 r2 b2) (h2:Got encN WfI r2 b2 v2 r3 b3) (h3:Got encBo wfBo r3 b3 v3 r4 b4) (h4:Got encN WfI r4 b4 v4 r5 b5) (h5:Got encN WfI r5 b5 v5 r6 b6) (h6:Got encN WfI r6 b6 v6 r7 b7) (h7:Got encN WfI r7 b7 v7 r8 b8) (h8:Got (encL encN) (wfL WfI) r8 b8 v8 r9 b9) (h9:Got (encL encN) (wfL WfI) r9 b9 v9 r10 b10) (h10:Got (encL encN) (wfL WfI) r10 b10 v10 r11 b11) (h11:Got encN WfI r11 b11 v11 r12 b12) (h12:Got encN WfI r12 b12 v12 r13 b13) (h13:Got (encL nTap) (wfL wfTap) r13 b13 v13 r14 b14) (h14:Got (encL nTap) (wfL wfTap) r14 b14 v14 r15 b15) (h15:Got encN WfI r15 b15 v15 r16 b16) (h16:Got (encL nOp) (wfL wfOp) r16 b16 v16 r17 b17) (h17:Got encN WfI r17 b17 v17 r18 b18):Got nStage wfStage r0 b0 ⟨v0,v1,v2,v3,v4,v5,v6,v7,v8,v9,v10,v11,v12,v13,v14,v15,v16,v17⟩ r18 b18:=by
 have H:=Got.map (g:=nStage) (wg:=wfStage) (fun p:(Int)×(Int)×(Int)×(Bool)×(Int)×(Int)×(Int)×(Int)×(List Int)×(List Int)×(List Int)×(Int)×(Int)×(List TapV)×(List TapV)×(Int)×(List POp)×(Int)=>(⟨p.1,p.2.1,p.2.2.1,p.2.2.2.1,p.2.2.2.2.1,p.2.2.2.2.2.1,p.2.2.2.2.2.2.1,p.2.2.2.2.2.2.2.1,p.2.2.2.2.2.2.2.2.1,p.2.2.2.2.2.2.2.2.2.1,p.2.2.2.2.2.2.2.2.2.2.1,p.2.2.2.2.2.2.2.2.2.2.2.1,p.2.2.2.2.2.2.2.2.2.2.2.2.1,p.2.2.2.2.2.2.2.2.2.2.2.2.2.1,p.2.2.2.2.2.2.2.2.2.2.2.2.2.2.1,p.2.2.2.2.2.2.2.2.2.2.2.2.2.2.2.1,p.2.2.2.2.2.2.2.2.2.2.2.2.2.2.2.2.1,p.2.2.2.2.2.2.2.2.2.2.2.2.2.2.2.2.2⟩:StageV)) (Got.pair pfI h0 (Got.pair pfI h1 (Got.pair pfI h2 (Got.pair pfBo h3 (Got.pair pfI h4 (Got.pair pfI h5 (Got.pair pfI h6 (Got.pair pfI h7 (Got.pair pfN h8 (Got.pair pfN h9 (Got.pair pfN h10 (Got.pair pfI h11 (Got.pair pfI h12 (Got.pair pfTap.list h13 (Got.pair pfTap.list h14 (Got.pair pfI h15 (Got.pair pfOp.list h16 h17))))))))))))))))) (fun p _=>by simp [nStage,nInts_enc,encP,encN,encBo,encL,nTaps,nOps]) (fun p h=>h) (fun s h=>⟨(s.kind,s.a,s.b,s.barrier,s.edgePolicy,s.edgeFill,s.kW,s.kH,s.weights,s.row,s.col,s.shift,s.shift2,s.x,s.y,s.bins,s.ops,s.max_),h,rfl⟩)
 exact H
theorem r4_same (ax:Option Addr) (nx kx:Nat) (x:List Int) (ay:Option Addr) (ny ky:Nat) (y:List Int) (hx:RdT Go.E.encI 1 [H] ax nx kx x) (hy:RdT Go.E.encI 1 [H] ay ny ky y) (hS:Sat W w (H::F)):
  Ro prog 29 #[.slice ax nx kx, .slice ay ny ky] (.bool (decide (x=y))) W w (H::F):=by
 have hl_x:=hx.le;have hn_x:=hx.len
 have hl_y:=hy.le;have hn_y:=hy.len
 refine callsA 26 func29 rfl<|sR<|pu1<|zQ<|pu5<|nT<|cN (nx:Int) (ny:Int) (fun k0=>?_) (fun k0=>?_)
 rotate_left
 ·refine sR<|pu1<|zR<|retT [.bool false] ?_
  exact ⟨by rw [decide_eq_false (fun h=>by have:=congrArg List.length h;omega)];rfl,hS⟩
 refine kT<|seqE<|sR<|pu1<|nT<|blockE<|loopA (γ:=Nat) (fun i=>[(0, .slice ax nx kx),(1, .slice ay ny ky),(5,I (i:Int))]) (fun i w=>Sat W w (H::F)/\i<=nx/\(x.take i=y.take i)) (fun i=>nx-i) 0 ⟨hS,om,by simp⟩ ?_
 rintro i ρ _ ⟨a0,hi,hE⟩
 refine seqE<|sR<|pu4<|nT<|cD ((i:Int)<(nx:Int)) (fun l0=>?_) (fun l0=>?_)
 rotate_left
 ·exact exitE<|xB<|tN<|sR<|pu1<|zE<|retT [.bool true]<|⟨by rw [decide_eq_true (eq_of_take hE om om)];rfl,a0⟩
 refine kT<|seqE<|blockE<|seqE ?_
 obtain ⟨b0,f0,g0,c0,m0,n0⟩:=RdT.elem hx (i:Int)
 rw [Int.toNat_natCast] at c0
 obtain ⟨d0,h0,i0,e0,o0,p0⟩:=RdT.elem hy (i:Int)
 rw [Int.toNat_natCast] at e0
 refine drawE [] [(3,⟨f0,g0,none⟩,I b0),(7,⟨h0,i0,none⟩,I d0)] [(true,[0,1]),(true,[2]),(true,[4,5]),(true,[6]),(true,[3]),(true,[7]),(true,[8])] rfl kr ⟨.inr ((m0.up 0 rfl).cell a0 (k:=0) rfl), .inr ((o0.up 0 rfl).cell a0 (k:=0) rfl),trivial⟩ ?_
 have j0:=a0.drew
 refine wU [0,1]<|wY (.pointer (some ⟨f0,g0,none⟩)) rfl (fun w _=>Y_idx (a:=ax) (i:=(i:Int)) (len:=nx) (cap:=kx) rfl runUnderlying22 sizeOf3 kr kr n0)<|wU [4,5]<|wY (.pointer (some ⟨h0,i0,none⟩)) rfl (fun w _=>Y_idx (a:=ay) (i:=(i:Int)) (len:=ny) (cap:=ky) rfl runUnderlying22 sizeOf3 kr kr p0)<|wLd (I b0) 0 isAgg3<|wLd (I d0) 1 isAgg3<|wU [8]<|wN<|tN<|cN b0 d0 (fun q0=>?_) (fun q0=>?_)
 rotate_left
 ·exact sR<|pu1<|zB<|tR<|tK<|retT [.bool false]<|⟨by rw [decide_eq_false (ne_of_at c0 e0 om)];rfl,j0⟩
 exact skipE<|bN<|tN<|rE<|pu1<|sAdd (i:Int) 1<|pu1<|nT<|⟨i+1,od,alA,j0,om,take_eq_succ hE c0 e0 om⟩
theorem r4_equal (p : Plane) (q : Plane) (hp : Plane.Ok [H] p) (hq : Plane.Ok [H] q) (hS : Sat W w (H :: F)) :
  Ro prog 13 #[.agg (encPlane p).toArray, .agg (encPlane q).toArray] (.bool (decide (p.v = q.v))) W w (H :: F) := by
 have hl_p_pix := hp.pix.le; have hn_p_pix := hp.pix.len
 have hl_q_pix := hq.pix.le; have hn_q_pix := hq.pix.len
 refine callsA 31 func13 rfl <| sR <| sBox hS (.agg (encPlane p).toArray) (encPlane p).toArray fun _ _ b0 => sBox b0 (.agg (encPlane q).toArray) (encPlane q).toArray fun _ _ a0 => pu1 <| zS <| pu1 <| sL a0 1 0 (I p.w) (isAgg3 _) <| pu1 <| sL a0 0 0 (I q.w) (isAgg3 _) <| pu2 <| sE 10 p.w q.w (fun c0 => ?_) (fun c0 => ?_)
 rotate_left
 ·refine pu16 <| pu5 <| zE <| retT [.bool false] ?_
  have d0 := (a0.drops [0, 0])
  refine ⟨rB ?_, d0⟩
  first | (rw [Bool.eq_iff_iff]; simp [Plane.v, *]; done) | (simp [Plane.v, *]; done) | (exact (decide_eq_false (fun h => by simp_all [Plane.v])).symm) | (exact (decide_eq_true (by simp_all [Plane.v])).symm)
 refine pu1 <| gY <| sL a0 1 1 (I p.h) (isAgg3 _) <| pu1 <| gY <| sL a0 0 1 (I q.h) (isAgg3 _) <| pu3 <| sE 17 p.h q.h (fun e0 => ?_) (fun e0 => ?_)
 rotate_left
 ·refine pu14 <| zE <| retT [.bool false] ?_
  have f0 := (a0.drops [0, 0])
  refine ⟨rB ?_, f0⟩
  first | (rw [Bool.eq_iff_iff]; simp [Plane.v, *]; done) | (simp [Plane.v, *]; done) | (exact (decide_eq_false (fun h => by simp_all [Plane.v])).symm) | (exact (decide_eq_true (by simp_all [Plane.v])).symm)
 refine pu1 <| gY <| sL a0 1 2 (I p.max_) (isAgg3 _) <| pu1 <| gY <| sL a0 0 2 (I q.max_) (isAgg3 _) <| pu3 <| sE 24 p.max_ q.max_ (fun g0 => ?_) (fun g0 => ?_)
 rotate_left
 ·refine pu7 <| zE <| retT [.bool false] ?_
  have h0 := (a0.drops [0, 0])
  refine ⟨rB ?_, h0⟩
  first | (rw [Bool.eq_iff_iff]; simp [Plane.v, *]; done) | (simp [Plane.v, *]; done) | (exact (decide_eq_false (fun h => by simp_all [Plane.v])).symm) | (exact (decide_eq_true (by simp_all [Plane.v])).symm)
 refine pu1 <| gY <| sL a0 1 3 (.slice p.pix.a p.pix.n p.pix.k) (isAgg22 _) <| pu1 <| gY <| sL a0 0 3 (.slice q.pix.a q.pix.n q.pix.k) (isAgg22 _) <| gY <| cR call29 (r4_same p.pix.a p.pix.n p.pix.k p.pix.l q.pix.a q.pix.n q.pix.k q.pix.l (RdT.flat (hp.pix.up 2 (by rfl))) (RdT.flat (hq.pix.up 2 (by rfl))) a0.flat) fun _ i0 => pu2 <| zE <| retT [.bool (decide (p.pix.l = q.pix.l))] ?_
 have j0 := (i0.drops [0, 0])
 refine ⟨rB ?_, j0⟩
 first | (rw [Bool.eq_iff_iff]; simp [Plane.v, *]; done) | (simp [Plane.v, *]; done) | (exact (decide_eq_false (fun h => by simp_all [Plane.v])).symm) | (exact (decide_eq_true (by simp_all [Plane.v])).symm)
theorem eqve55 (w:World) (a0 a1 b0 b1:Int):∀x y,((do eqGuard .eql 55 x y (.agg #[.int .i64 a0, .int .i64 a1]) (.agg #[.int .i64 b0, .int .i64 b1]);binOp .eql 55 (.agg #[.int .i64 a0, .int .i64 a1]) (.agg #[.int .i64 b0, .int .i64 b1])):Sem Value).run prog w= .ok (.bool ((a0==b0)&&(a1==b1))) w:=by
  intro x y
  simp [go_sem,run_eqGuard_agg,run_eql_struct,run_equalIn_agg]
  by_cases h0:a0=b0<;>by_cases h1:a1=b1<;>simp [*]
structure Edge where
  policy:Int
  fill:Int
  deriving DecidableEq
theorem r4_size (w0:Int) (h0:Int) (m0:Int) (hS:Sat W w (H::F)):
  Ro prog 36 #[I w0,I h0,I m0] (.bool (decide ((1:Int)<=w0/\w0<=(128:Int)/\(1:Int)<=h0/\h0<=(128:Int)/\w0*h0<=(4096:Int)/\(1:Int)<=m0/\m0<=(4294967296:Int)))) W w (H::F):=by
 refine callsA 35 func36 rfl<|sR<|pu1<|zS<|pu3<|sD 9 (w0>=1) (fun a0=>?_) (fun a0=>?_)
 rotate_left
 ·exact pu16<|pu10<|zE<|retT [.bool false]<|⟨rB bq,hS⟩
 refine pu4<|sD 13 (w0<=128) (fun b0=>?_) (fun b0=>?_)
 rotate_left
 ·exact pu16<|pu6<|zE<|retT [.bool false]<|⟨rB bq,hS⟩
 refine pu4<|sD 17 (h0>=1) (fun c0=>?_) (fun c0=>?_)
 rotate_left
 ·exact pu16<|pu2<|zE<|retT [.bool false]<|⟨rB bq,hS⟩
 refine pu4<|sD 21 (h0<=128) (fun d0=>?_) (fun d0=>?_)
 rotate_left
 ·exact pu14<|zE<|retT [.bool false]<|⟨rB bq,hS⟩
 refine pu2<|gY ?_
 have hwh:=mul_bd (a:=w0) (b:=h0) (A:=128) (B:=128) om om
 refine sMul w0 h0<|pu3<|sD 27 ((w0*h0)<=4096) (fun e0=>?_) (fun e0=>?_)
 rotate_left
 ·exact pu8<|zE<|retT [.bool false]<|⟨rB bq,hS⟩
 refine pu4<|sD 31 (m0>=1) (fun f0=>?_) (fun f0=>?_)
 rotate_left
 ·exact pu4<|zE<|retT [.bool false]<|⟨rB bq,hS⟩
 exact pu4<|zE<|retT [.bool (decide ((m0:Int)<=4294967296))]<|⟨rB bq,hS⟩
def sizeP (w h m:Int):Prop:=1<=w/\w<=128/\1<=h/\h<=128/\w*h<=4096/\1<=m/\m<=4294967296
instance (w h m:Int):Decidable (sizeP w h m):=by unfold sizeP;infer_instance
def areW (l:List Int):Bool:=l.all fun n=>decide (-32767<=n/\n<=32767)
def pixOK (m:Int) (l:List Int):Bool:=l.all fun n=>decide (0<=n/\n<=m)
def planeOK (p:PlaneV):Bool:=decide (sizeP p.w p.h p.max_/\(p.pix.length:Int)=p.w*p.h)&&pixOK p.max_ p.pix
theorem planeOK_t {p:PlaneV} (h:sizeP p.w p.h p.max_/\(p.pix.length:Int)=p.w*p.h) (h2:pixOK p.max_ p.pix=true):planeOK p=true:=by simp [planeOK,h,h2]
theorem planeOK_f1 {p:PlaneV} (h:¬(sizeP p.w p.h p.max_/\(p.pix.length:Int)=p.w*p.h)):planeOK p=false:=by simp [planeOK];intro h1 h2;exact absurd ⟨h1,h2⟩ h
theorem planeOK_f2 {p:PlaneV} (h:pixOK p.max_ p.pix=false):planeOK p=false:=by simp [planeOK,h]
theorem r4_valid (p:Plane) (hp:Plane.Ok [H] p) (hS:Sat W w (H::F)):
  Ro prog 24 #[.agg (encPlane p).toArray] (.bool (planeOK p.v)) W w (H::F):=by
 have hl_p_pix:=hp.pix.le;have hn_p_pix:=hp.pix.len
 refine callsA 46 func24 rfl<|sR<|sBox hS (.agg (encPlane p).toArray) (encPlane p).toArray fun c0 _ g0=>pu1<|zQ<|pu1<|sL g0 0 0 (I p.w) (isAgg3 _)<|pu1<|sL g0 0 1 (I p.h) (isAgg3 _)<|pu1<|sL g0 0 2 (I p.max_) (isAgg3 _)<|cR call36 (r4_size p.w p.h p.max_ g0.flat) fun _ d0=>pu2<|sDn 12 ((1:Int)<=p.w/\p.w<=(128:Int)/\(1:Int)<=p.h/\p.h<=(128:Int)/\p.w*p.h<=(4096:Int)/\(1:Int)<=p.max_/\p.max_<=(4294967296:Int)) (fun m0=>?_) (fun m0=>?_)
 rotate_left
 ·refine pu10<|zC<|pu1<|zR<|retT [.bool false] ?_
  have n0:=(d0.dropAt 0 rfl)
  refine ⟨rB ?_,n0⟩
  exact (planeOK_f1 (p:=p.v) (by simp only [Plane.v,sizeP];omega)).symm
 refine pu1<|gY<|sL d0 0 3 (.slice p.pix.a p.pix.n p.pix.k) (isAgg22 _)<|pu2<|gY<|sL d0 0 0 (I p.w) (isAgg3 _)<|pu1<|gY<|sL d0 0 1 (I p.h) (isAgg3 _)<|gY ?_
 have hwh:=mul_bd (a:=p.w) (b:=p.h) (A:=128) (B:=128) om om
 refine sMul p.w p.h<|pu2<|nT<|cN (p.pix.n:Int) (p.w*p.h) (fun o0=>?_) (fun o0=>?_)
 rotate_left
 ·refine sR<|pu1<|zR<|retT [.bool false] ?_
  have p0:=(d0.dropAt 0 rfl)
  refine ⟨rB ?_,p0⟩
  exact (planeOK_f1 (p:=p.v) (by simp only [Plane.v,sizeP];omega)).symm
 refine kT<|seqE<|sR<|pu1<|nT<|blockE<|loopA (γ:=Nat) (fun i=>[(1,Pt c0 0),(3,I (i:Int))]) (fun i w=>Sat W w ([(c0, .cells (encPlane p).toArray 28 (0,0))]::H::F)/\i<=p.pix.n/\(pixOK p.max_ (p.pix.l.take i)=true)) (fun i=>p.pix.n-i) 0 ⟨d0,om,by rfl⟩ ?_
 rintro i ρ _ ⟨a0,hi,hE⟩
 refine seqE<|sR<|pu2<|sL a0 0 3 (.slice p.pix.a p.pix.n p.pix.k) (isAgg22 _)<|pu2<|nT<|cD ((i:Int)<(p.pix.n:Int)) (fun q0=>?_) (fun q0=>?_)
 rotate_left
 ·refine exitE<|xB<|tN<|sR<|pu1<|zE<|retT [.bool true] ?_
  have r0:=(a0.dropAt 0 rfl)
  refine ⟨rB ?_,r0⟩
  exact (planeOK_t (p:=p.v) (by simp only [Plane.v,sizeP];omega) (all_of_take hE (by simp only [Plane.v];omega))).symm
 refine kT<|seqE<|blockE<|seqE ?_
 obtain ⟨b0,e0,f0,h0,i0,j0⟩:=RdT.elem hp.pix (i:Int)
 rw [Int.toNat_natCast] at h0
 by_cases k0:(b0:Int)<0
 ·refine drawE [] [(1,⟨c0,3,none⟩, .slice p.pix.a p.pix.n p.pix.k),(4,⟨e0,f0,none⟩,I b0)] [(true,[0,2]),(true,[1]),(true,[3]),(true,[4]),(true,[5,6]),(true,[7,9,12,8,10,11,13,14,15])] rfl kr ⟨cI a0 0, .inr ((i0.up 1 rfl).cell a0 (k:=0) rfl),trivial⟩ ?_
  have s0:=a0.drew
  refine wU [0,2]<|wLd (.slice p.pix.a p.pix.n p.pix.k) 0 isAgg22<|wY (.pointer (some ⟨e0,f0,none⟩)) rfl (fun w _=>Y_idx (a:=p.pix.a) (i:=(i:Int)) (len:=p.pix.n) (cap:=p.pix.k) rfl runUnderlying22 sizeOf3 kr kr j0)<|wLd (I b0) 1 isAgg3<|wU [5,6]<|wFix 36 _ true (decide_eq_true k0)<|wU [7,9,12,8,10,11,13,14,15]<|wN<|tN<|cTt<|sR<|pu1<|zB<|tR<|tK<|retT [.bool false] ?_
  have t0:=(s0.dropAt 0 rfl)
  refine ⟨rB ?_,t0⟩
  exact (planeOK_f2 (p:=p.v) (all_false_at h0 (decide_eq_false (by simp only [Plane.v];omega)))).symm
 refine drawE [] [(1,⟨c0,3,none⟩, .slice p.pix.a p.pix.n p.pix.k),(4,⟨e0,f0,none⟩,I b0),(8,⟨c0,3,none⟩, .slice p.pix.a p.pix.n p.pix.k),(11,⟨e0,f0,none⟩,I b0),(13,⟨c0,2,none⟩,I p.max_)] [(true,[0,2]),(true,[1]),(true,[3]),(true,[4]),(true,[5,6]),(true,[7,9,12]),(true,[8]),(true,[10]),(true,[11]),(true,[13]),(true,[14,15])] rfl kr ⟨cI a0 0, .inr ((i0.up 1 rfl).cell a0 (k:=0) rfl),cI a0 0, .inr ((i0.up 1 rfl).cell a0 (k:=0) rfl),cI a0 0,trivial⟩ ?_
 have l0:=a0.drew
 refine wU [0,2]<|wLd (.slice p.pix.a p.pix.n p.pix.k) 0 isAgg22<|wY (.pointer (some ⟨e0,f0,none⟩)) rfl (fun w _=>Y_idx (a:=p.pix.a) (i:=(i:Int)) (len:=p.pix.n) (cap:=p.pix.k) rfl runUnderlying22 sizeOf3 kr kr j0)<|wLd (I b0) 1 isAgg3<|wU [5,6]<|wFix 36 _ false (decide_eq_false k0)<|wU [7,9,12]<|wLd (.slice p.pix.a p.pix.n p.pix.k) 2 isAgg22<|wY (.pointer (some ⟨e0,f0,none⟩)) rfl (fun w _=>Y_idx (a:=p.pix.a) (i:=(i:Int)) (len:=p.pix.n) (cap:=p.pix.k) rfl runUnderlying22 sizeOf3 kr kr j0)<|wLd (I b0) 3 isAgg3<|wLd (I p.max_) 4 isAgg3<|wU [14,15]<|wN<|tN<|cD (b0>p.max_) (fun u0=>?_) (fun u0=>?_)
 rotate_left
 ·exact skipE<|bN<|tN<|rE<|pu1<|sAdd (i:Int) 1<|pu1<|nT<|⟨i+1,od,alA,l0,om,all_succ hE h0 (decide_eq_true om)⟩
 refine sR<|pu1<|zB<|tR<|tK<|retT [.bool false] ?_
 have v0:=(l0.dropAt 0 rfl)
 refine ⟨rB ?_,v0⟩
 exact (planeOK_f2 (p:=p.v) (all_false_at h0 (decide_eq_false (by simp only [Plane.v];omega)))).symm
def wCode (l:List Int):Int:=if l.length=0\/81<l.length then 9 else if areW l=true then 0 else 10
def accP (x:Int):Prop:=-17592186044416<=x/\x<=17592186044416
instance (x:Int):Decidable (accP x):=by unfold accP;infer_instance
def sumLo (l:List Int) (lo hi:Int):Int:=(l.map fun w=>min (w*lo) (w*hi)).sum
def sumHi (l:List Int) (lo hi:Int):Int:=(l.map fun w=>max (w*lo) (w*hi)).sum
def bndOK (l:List Int) (lo hi:Int):Bool:=decide (wCode l=0/\lo<=hi/\-68719476736<=lo/\hi<=68719476736/\accP (sumLo l lo hi)/\accP (sumHi l lo hi))
def bndLo (l:List Int) (lo hi:Int):Int:=if bndOK l lo hi=true then sumLo l lo hi else 0
def bndHi (l:List Int) (lo hi:Int):Int:=if bndOK l lo hi=true then sumHi l lo hi else 0
theorem wCode_len {l:List Int} (h:wCode l=0):0<l.length/\l.length<=81/\areW l=true:=by
  unfold wCode at h
  split at h
  · omega
  · split at h
    · refine ⟨by omega,by omega,by assumption⟩
    · omega
theorem areW_at {l:List Int} (h:areW l=true) {i:Nat} {x:Int} (hx:l[i]?=some x):-32767<=x/\x<=32767:=by
  have:=List.all_eq_true.1 h x (List.mem_of_getElem? hx)
  simpa using this
theorem sum_at {f:Int->Int} {l:List Int} {i:Nat} {x:Int} (hx:l[i]?=some x):((l.take (i+1)).map f).sum=((l.take i).map f).sum+f x:=by
  rw [take_succ_at hx];simp
theorem bnd_ret {l:List Int} {lo hi a b:Int} {i:Nat} (hw:wCode l=0) (h1:lo<=hi) (h2:-68719476736<=lo/\hi<=68719476736) (ha:a=sumLo (l.take i) lo hi) (hb:b=sumHi (l.take i) lo hi) (hi':l.length<=i) (ca:accP a) (cb:accP b):bndOK l lo hi=true/\bndLo l lo hi=a/\bndHi l lo hi=b:=by
  rw [List.take_of_length_le hi'] at ha hb
  have h:bndOK l lo hi=true:=by unfold bndOK;exact decide_eq_true ⟨hw,h1,h2.1,h2.2,by rw [<-ha];exact ca,by rw [<-hb];exact cb⟩
  exact ⟨h,by unfold bndLo;rw [if_pos h,ha],by unfold bndHi;rw [if_pos h,hb]⟩
theorem bnd_bad {l:List Int} {lo hi:Int} (h:¬(wCode l=0/\lo<=hi/\-68719476736<=lo/\hi<=68719476736/\accP (sumLo l lo hi)/\accP (sumHi l lo hi))):bndOK l lo hi=false/\bndLo l lo hi=0/\bndHi l lo hi=0:=by
  have h:bndOK l lo hi=false:=by unfold bndOK;exact decide_eq_false h
  exact ⟨h,by unfold bndLo;rw [h];rfl,by unfold bndHi;rw [h];rfl⟩
theorem bnd_bad2 {l:List Int} {lo hi a b:Int} {i:Nat} (ha:a=sumLo (l.take i) lo hi) (hb:b=sumHi (l.take i) lo hi) (hi':l.length<=i) (h:¬(accP a/\accP b)):bndOK l lo hi=false/\bndLo l lo hi=0/\bndHi l lo hi=0:=by
  rw [List.take_of_length_le hi'] at ha hb
  exact bnd_bad fun h2=>h ⟨by rw [ha];exact h2.2.2.2.2.1,by rw [hb];exact h2.2.2.2.2.2⟩
def shiftV (a s:Int):Int:=if accP a/\0<=s/\s<=24 then (if s=0 then a else (a+2^(s-1).toNat)/2^s.toNat) else 0
def mulOK (a b l:Int):Bool:=decide (0<=a/\0<=b/\0<=l/\a*b<=l)
def mulV (a b l:Int):Int:=if mulOK a b l=true then a*b else 0
theorem mul_t {a b l:Int} (h:0<=a/\0<=b/\0<=l/\a*b<=l):mulOK a b l=true/\mulV a b l=a*b:=by
  have:mulOK a b l=true:=decide_eq_true h
  exact ⟨this,by unfold mulV;rw [if_pos this]⟩
theorem mul_f {a b l:Int} (h:¬(0<=a/\0<=b/\0<=l/\a*b<=l)):mulOK a b l=false/\mulV a b l=0:=by
  have:mulOK a b l=false:=decide_eq_false h
  exact ⟨this,by unfold mulV;rw [this];rfl⟩
theorem mul_le_of {a b l:Int} (ha:0<=a) (hb:0<=b) (hl:0<=l) (h:b=0\/(0<b/\a<=l.tdiv b)):0<=a*b/\a*b<=l:=by
  refine ⟨Int.mul_nonneg ha hb,?_⟩
  rcases h with rfl|⟨h1,h2⟩
  · simpa using hl
  · rw [Int.tdiv_eq_ediv_of_nonneg hl] at h2
    exact (Int.le_ediv_iff_mul_le h1).1 h2
theorem mul_gt_of {a b l:Int} (hl:0<=l) (hb:0<b) (h:l.tdiv b<a):l<a*b:=by
  rw [Int.tdiv_eq_ediv_of_nonneg hl] at h
  have:=mt (Int.le_ediv_iff_mul_le hb (a:=a) (b:=l)).2
  omega
def mostOK (w h m:Int):Bool:=decide (1<=w/\1<=h/\1<=m/\w*h<=4294967296/\w*h*m<=4294967296)
def mostV (w h m:Int):Int:=if mostOK w h m=true then w*h*m else 0
theorem most_f {w h m:Int} (x:¬(1<=w/\1<=h/\1<=m/\w*h<=4294967296/\w*h*m<=4294967296)):mostOK w h m=false/\mostV w h m=0:=by
  have:mostOK w h m=false:=decide_eq_false x
  exact ⟨this,by unfold mostV;rw [this];rfl⟩
def fieldsP (s:StageV):Prop:=¬(¬((1<=s.kind/\s.kind<=6)/\(s.kind=6\/s.b=-1)))/\¬(¬(s.kind=1\/s.kind=2\/s.kind=3)/\¬(s.edgePolicy=0/\s.edgeFill=0))/\¬(¬s.kind=1/\¬(s.kW=0/\s.kH=0/\s.weights.length=0))/\¬(¬s.kind=2/\¬(s.row.length=0/\s.col.length=0))/\¬(¬s.kind=3/\¬(s.x.length=0/\s.y.length=0))/\¬(¬(s.kind=1\/s.kind=2\/s.kind=3)/\¬s.shift=0)/\¬((¬s.kind=2/\¬s.kind=3)/\¬s.shift2=0)/\¬(¬s.kind=4/\¬s.bins=0)/\¬(¬s.kind=6/\¬s.ops.length=0)/\¬((s.kind=4\/s.kind=5)/\¬s.max_=0)
instance (s:StageV):Decidable (fieldsP s):=by unfold fieldsP;infer_instance
def tapC (f:Int) (ws:List Int):Int:=if ws.length=0\/8<ws.length then 9 else if areW ws=true then (if-128<=f/\f<=256 then 0 else 2) else 10
def tapCode (t:TapV):Int:=tapC t.first t.weights
def firstErr {α:Type} (f:α->Int):List α->Int
  |[]=>0
  |x::l=>if f x=0 then firstErr f l else f x
theorem firstErr_app {α:Type} (f:α->Int) (l m:List α) (h:l.all (fun x=>decide (f x=0))=true):firstErr f (l++m)=firstErr f m:=by
  induction l with
  |nil=>rfl
  |cons x l ih=>
    simp only [List.all_cons,Bool.and_eq_true,decide_eq_true_eq] at h
    simp only [List.cons_append,firstErr,if_pos h.1]
    exact ih h.2
theorem firstErr_at {α:Type} {f:α->Int} {l:List α} {i:Nat} {x:α} (h:(l.take i).all (fun x=>decide (f x=0))=true) (hx:l[i]?=some x) (e:f x≠0):firstErr f l=f x:=by
  have e1:l=l.take i++l.drop i:=(List.take_append_drop i l).symm
  rw [e1,firstErr_app f _ _ h,drop_at hx,firstErr,if_neg e]
theorem firstErr_none {α:Type} {f:α->Int} {l:List α} {i:Nat} (h:(l.take i).all (fun x=>decide (f x=0))=true) (h1:l.length<=i):firstErr f l=0:=by
  rw [List.take_of_length_le h1] at h
  have:=firstErr_app f l [] h
  simpa [firstErr] using this
def tapsCode (l:List TapV) (n:Int):Int:=if (1<=n/\n<=128)/\1<=(l.length:Int)/\(l.length:Int)<=128 then firstErr tapCode l else 8
def convCode (mx kw kh:Int) (ws:List Int) (sh out:Int):Int:=
  if (1<=kw/\kw<=9)/\(1<=kh/\kh<=9)/\(ws.length:Int)=kw*kh then (if areW ws=true/\0<=sh/\sh<=24 then (if (1<=mx/\mx<=4294967296)/\1<=out/\out<=4294967296 then (if bndOK ws 0 mx=true then 0 else 11) else 2) else 10) else 9
def sepCode (mx:Int) (row col:List Int) (sh sh2 out:Int):Int:=
  if (1<=(row.length:Int)/\(row.length:Int)<=9)/\1<=(col.length:Int)/\(col.length:Int)<=9 then (if areW row=true/\areW col=true/\(0<=sh/\sh<=24)/\0<=sh2/\sh2<=24 then (if (1<=mx/\mx<=4294967296)/\1<=out/\out<=4294967296 then (if bndOK row 0 mx=true then (if bndOK col (shiftV (bndLo row 0 mx) sh) (shiftV (bndHi row 0 mx) sh)=true then 0 else 11) else 11) else 2) else 10) else 9
def spLo (mx s:Int) (t:TapV):Int:=shiftV (bndLo t.weights 0 mx) s
def spHi (mx s:Int) (t:TapV):Int:=shiftV (bndHi t.weights 0 mx) s
def runLo (f:TapV->Int):List TapV->Int
  |[]=>0
  |t::l=>l.foldl (fun m t=>min m (f t)) (f t)
def runHi (f:TapV->Int):List TapV->Int
  |[]=>0
  |t::l=>l.foldl (fun m t=>max m (f t)) (f t)
theorem runLo_one (f:TapV->Int) {l:List TapV} {x:TapV} (h:l[0]?=some x):runLo f (l.take 1)=f x:=by
  match l with
  |[]=>simp at h
  |y::l=>simp at h;subst h;simp [runLo]
theorem runHi_one (f:TapV->Int) {l:List TapV} {x:TapV} (h:l[0]?=some x):runHi f (l.take 1)=f x:=by
  match l with
  |[]=>simp at h
  |y::l=>simp at h;subst h;simp [runHi]
theorem runLo_at (f:TapV->Int) {l:List TapV} {i:Nat} {x:TapV} (h:l[i]?=some x) (hi:0<i):runLo f (l.take (i+1))=min (runLo f (l.take i)) (f x):=by
  rw [take_succ_at h]
  match l,i with
  |[],_=>simp at h
  |y::l,i+1=>simp [runLo,List.foldl_append]
theorem runHi_at (f:TapV->Int) {l:List TapV} {i:Nat} {x:TapV} (h:l[i]?=some x) (hi:0<i):runHi f (l.take (i+1))=max (runHi f (l.take i)) (f x):=by
  rw [take_succ_at h]
  match l,i with
  |[],_=>simp at h
  |y::l,i+1=>simp [runHi,List.foldl_append]
def resCode (w h mx:Int) (x y:List TapV) (s s2 out:Int):Int:=
  if tapsCode x w=0 then (if tapsCode y h=0 then (if (x.length:Int)*(y.length:Int)<=4096 then (if (0<=s/\s<=24)/\0<=s2/\s2<=24 then (if (1<=mx/\mx<=4294967296)/\1<=out/\out<=4294967296 then
    (if x.all (fun t=>bndOK t.weights 0 mx)=true then (if y.all (fun t=>bndOK t.weights (runLo (spLo mx s) x) (runHi (spHi mx s) x))=true then 0 else 11) else 11) else 2) else 10) else 8) else tapsCode y h) else tapsCode x w
theorem tapsCode_len {l:List TapV} {n:Int} (h:tapsCode l n=0):1<=l.length/\l.length<=128:=by
  unfold tapsCode at h
  split at h
  · omega
  · omega
structure Sp where
  lo:Int
  hi:Int
  deriving DecidableEq
def encSp (x:Sp):List Value:=[.int .i64 x.lo, .int .i64 x.hi]
def takesV (c:Int):Int:=if c<=2 then 0 else if 10<=c then 1 else 2
theorem takesV_bd (c:Int):0<=takesV c/\takesV c<=2:=by unfold takesV;(repeat' split)<;>omega
def argP (o:POp):Prop:=(o.code=2/\-4294967296<=o.arg/\o.arg<=4294967296)\/(o.code=10/\0<=o.arg/\o.arg<=24)\/(¬o.code=2/\¬o.code=10/\o.arg=0)
instance (o:POp):Decidable (argP o):=by unfold argP;infer_instance
def opBad (two:Bool) (o:POp) (h:Int):Prop:=o.code<0\/11<o.code\/(o.code=1/\two=false)\/h<takesV o.code
instance (two:Bool) (o:POp) (h:Int):Decidable (opBad two o h):=by unfold opBad;infer_instance
def opsGo (two:Bool):List POp->Int->Int
  |[],h=>if h=1 then 0 else 1
  |o::l,h=>if opBad two o h then 1 else if argP o then opsGo two l (h+(1-takesV o.code)) else 10
def opsCode (l:List POp) (two:Bool):Int:=if l.length=0\/32<l.length then 9 else opsGo two l 0
def timesOK (a b:Int):Bool:=decide (-17592186044416<=a*b/\a*b<=17592186044416)
def timesV (a b:Int):Int:=if timesOK a b=true then a*b else 0
theorem times_t {a b x y:Int} (hx:x=a\/x=-a) (hy:y=b\/y=-b) (hx0:0<=x) (hy0:0<=y) (h:y=0\/(0<y/\x<=(17592186044416:Int).tdiv y)):timesOK a b=true/\timesV a b=a*b/\-17592186044416<=a*b/\a*b<=17592186044416:=by
  have h1:=mul_le_of hx0 hy0 (l:=17592186044416) (by omega) h
  have h2:=abs_mul_le hx hy hx0 hy0 h1.2
  have h3:timesOK a b=true:=decide_eq_true h2
  exact ⟨h3,by unfold timesV;rw [if_pos h3],h2⟩
theorem times_f {a b x y:Int} (hx:x=a\/x=-a) (hy:y=b\/y=-b) (h:0<y/\(17592186044416:Int).tdiv y<x):timesOK a b=false/\timesV a b=0:=by
  have h1:=mul_gt_of (l:=17592186044416) (by omega) h.1 h.2
  have h3:timesOK a b=false:=decide_eq_false (abs_mul_gt hx hy h1)
  exact ⟨h3,by unfold timesV;rw [h3];rfl⟩
def accS (x:Sp):Prop:=(-17592186044416<=x.lo/\x.lo<=17592186044416)/\-17592186044416<=x.hi/\x.hi<=17592186044416
def prodLo (x y:Sp):Int:=min (min (min (timesV x.lo y.lo) (timesV x.lo y.hi)) (timesV x.hi y.lo)) (timesV x.hi y.hi)
def prodHi (x y:Sp):Int:=max (max (max (timesV x.lo y.lo) (timesV x.lo y.hi)) (timesV x.hi y.lo)) (timesV x.hi y.hi)
def prodOK (x y:Sp):Bool:=timesOK x.lo y.lo&&timesOK x.lo y.hi&&timesOK x.hi y.lo&&timesOK x.hi y.hi
def nextV (o:POp) (x y:Sp) (a b:Int):Sp:=
  if o.code=0 then ⟨0,a⟩ else if o.code=1 then ⟨0,b⟩ else if o.code=2 then ⟨o.arg,o.arg⟩ else if o.code=3 then ⟨x.lo+y.lo,x.hi+y.hi⟩ else if o.code=4 then ⟨x.lo-y.hi,x.hi-y.lo⟩
  else if o.code=5 then ⟨prodLo x y,prodHi x y⟩ else if o.code=6 then ⟨min x.lo y.lo,min x.hi y.hi⟩ else if o.code=7 then ⟨max x.lo y.lo,max x.hi y.hi⟩ else if o.code=8 then ⟨0,max (x.hi-y.lo) (y.hi-x.lo)⟩
  else if o.code=9 then ⟨-(max (x.lo.natAbs:Int) x.hi.natAbs),max (x.lo.natAbs:Int) x.hi.natAbs⟩ else if o.code=10 then ⟨shiftV x.lo o.arg,shiftV x.hi o.arg⟩ else ⟨0,max (x.lo.natAbs:Int) x.hi.natAbs⟩
def nextB (o:POp) (x y:Sp):Bool:=if o.code=5 then prodOK x y else true
def nextOK (o:POp) (x y:Sp) (a b:Int):Prop:=nextB o x y=true/\(-17592186044416<=(nextV o x y a b).lo/\(nextV o x y a b).lo<=17592186044416)/\-17592186044416<=(nextV o x y a b).hi/\(nextV o x y a b).hi<=17592186044416
instance (o:POp) (x y:Sp) (a b:Int):Decidable (nextOK o x y a b):=by unfold nextOK;infer_instance
theorem opsGo_zero {two:Bool} {o:POp} {l:List POp} {h:Int} (e:opsGo two (o::l) h=0):¬opBad two o h/\argP o/\opsGo two l (h+(1-takesV o.code))=0:=by
  unfold opsGo at e
  split at e
  · omega
  · split at e
    · exact ⟨by assumption,by assumption,e⟩
    · omega
theorem opsCode_go {l:List POp} {two:Bool} (h:opsCode l two=0):opsGo two l 0=0/\0<l.length/\l.length<=32:=by
  unfold opsCode at h
  split at h
  · omega
  · exact ⟨h,by omega,by omega⟩
def ivY (o:POp) (st:List Sp):Sp:=if takesV o.code=2 then st[st.length-1]?.getD (⟨0,0⟩:Sp) else ⟨0,0⟩
def ivX (o:POp) (st:List Sp):Sp:=if 0<takesV o.code then st[st.length-(takesV o.code).toNat]?.getD (⟨0,0⟩:Sp) else ⟨0,0⟩
def ivGo (a b:Int):List POp->List Sp->Option (List Sp)
  |[],st=>some st
  |o::l,st=>if nextOK o (ivX o st) (ivY o st) a b then ivGo a b l (st.take (st.length-(takesV o.code).toNat)++[nextV o (ivX o st) (ivY o st) a b]) else none
def ivRes (l:List POp) (a b:Int):Int×Int×Int:=
  if opsCode l true=0 then (if (1<=a/\a<=4294967296)/\1<=b/\b<=4294967296 then (match ivGo a b l [] with|some st=>((st[0]?.getD (⟨0,0⟩:Sp)).lo,(st[0]?.getD (⟨0,0⟩:Sp)).hi,0)|none=>(0,0,11)) else (0,0,2)) else (0,0,opsCode l true)
def pwCode (l:List POp) (two:Bool) (a b out:Int):Int:=if opsCode l two=0 then (if 1<=out/\out<=4294967296 then (ivRes l a (if two=true then b else 1)).2.2 else 2) else opsCode l two
end Go.Proofs.Ytmlhcafjelkjfaa
