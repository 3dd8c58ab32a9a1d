import Derived.WalkKit
import Derived.Deep.Quiet
import Derived.KernelRfl
import Derived.Laws.BytesString
import Derived.Laws.Shifts
import Derived.Laws.IdiomStrings
import Derived.Test.YtmlhcafjelkjfaaGreatProg
import Derived.Test.YtmlhcafjelkjfaaGreatP3Ab
namespace Go.Proofs.YtmlhcafjelkjfaaGreat
open Go Go.E Go.Proofs.Tryz
set_option linter.all false
set_option maxRecDepth 100000
set_option maxHeartbeats 2000000
variable {W w:World} {H:Chunk} {F:List Chunk}
structure Sl (α:Type) where
  a:Option Addr
  n:Nat
  k:Nat
  l:List α
structure Tap where
  first:Int
  weights:Sl Int
def encTap (x:Tap):List Value:=[.int .i64 x.first, .slice x.weights.a x.weights.n x.weights.k]
structure TapV where
  first:Int
  weights:List Int
  deriving DecidableEq
def Tap.v (x:Tap):TapV:=⟨x.first,x.weights.l⟩
structure Tap.Ok (cs:List Chunk) (q:Tap):Prop where
  weights:RdT Go.E.encI 1 cs q.weights.a q.weights.n q.weights.k q.weights.l
theorem Tap.Ok.of_mem {cs cs':List Chunk} {x:Tap} (h:Tap.Ok cs x) (hm:∀p∈cs.flatten,p∈cs'.flatten):Tap.Ok cs' x:=⟨h.weights.of_mem hm⟩
structure POp where
  code:Int
  arg:Int
  deriving DecidableEq
def encPOp (x:POp):List Value:=[.int .i64 x.code, .int .i64 x.arg]
structure Plane where
  w:Int
  h:Int
  max_:Int
  pix:Sl Int
def encPlane (x:Plane):List Value:=[.int .i64 x.w, .int .i64 x.h, .int .i64 x.max_, .slice x.pix.a x.pix.n x.pix.k]
structure PlaneV where
  w:Int
  h:Int
  max_:Int
  pix:List Int
  deriving DecidableEq
def Plane.v (x:Plane):PlaneV:=⟨x.w,x.h,x.max_,x.pix.l⟩
structure Plane.Ok (cs:List Chunk) (q:Plane):Prop where
  pix:RdT Go.E.encI 1 cs q.pix.a q.pix.n q.pix.k q.pix.l
theorem Plane.Ok.of_mem {cs cs':List Chunk} {x:Plane} (h:Plane.Ok cs x) (hm:∀p∈cs.flatten,p∈cs'.flatten):Plane.Ok cs' x:=⟨h.pix.of_mem hm⟩
structure Stage where
  kind:Int
  a:Int
  b:Int
  barrier:Bool
  edgePolicy:Int
  edgeFill:Int
  kW:Int
  kH:Int
  weights:Sl Int
  row:Sl Int
  col:Sl Int
  shift:Int
  shift2:Int
  x:Sl Tap
  y:Sl Tap
  bins:Int
  ops:Sl POp
  max_:Int
def encStage (x:Stage):List Value:=[.int .i64 x.kind, .int .i64 x.a, .int .i64 x.b, .bool x.barrier, .int .i64 x.edgePolicy, .int .i64 x.edgeFill, .int .i64 x.kW, .int .i64 x.kH, .slice x.weights.a x.weights.n x.weights.k, .slice x.row.a x.row.n x.row.k, .slice x.col.a x.col.n x.col.k, .int .i64 x.shift, .int .i64 x.shift2, .slice x.x.a x.x.n x.x.k, .slice x.y.a x.y.n x.y.k, .int .i64 x.bins, .slice x.ops.a x.ops.n x.ops.k, .int .i64 x.max_]
structure StageV where
  kind:Int
  a:Int
  b:Int
  barrier:Bool
  edgePolicy:Int
  edgeFill:Int
  kW:Int
  kH:Int
  weights:List Int
  row:List Int
  col:List Int
  shift:Int
  shift2:Int
  x:List TapV
  y:List TapV
  bins:Int
  ops:List POp
  max_:Int
  deriving DecidableEq
def Stage.v (x:Stage):StageV:=⟨x.kind,x.a,x.b,x.barrier,x.edgePolicy,x.edgeFill,x.kW,x.kH,x.weights.l,x.row.l,x.col.l,x.shift,x.shift2,x.x.l.map Tap.v,x.y.l.map Tap.v,x.bins,x.ops.l,x.max_⟩
structure Stage.Ok (cs:List Chunk) (q:Stage):Prop where
  weights:RdT Go.E.encI 1 cs q.weights.a q.weights.n q.weights.k q.weights.l
  row:RdT Go.E.encI 1 cs q.row.a q.row.n q.row.k q.row.l
  col:RdT Go.E.encI 1 cs q.col.a q.col.n q.col.k q.col.l
  x:RdT encTap 2 cs q.x.a q.x.n q.x.k q.x.l
  xD:∀z∈q.x.l,Tap.Ok cs z
  y:RdT encTap 2 cs q.y.a q.y.n q.y.k q.y.l
  yD:∀z∈q.y.l,Tap.Ok cs z
  ops:RdT encPOp 2 cs q.ops.a q.ops.n q.ops.k q.ops.l
theorem Stage.Ok.of_mem {cs cs':List Chunk} {x:Stage} (h:Stage.Ok cs x) (hm:∀p∈cs.flatten,p∈cs'.flatten):Stage.Ok cs' x:=⟨h.weights.of_mem hm,h.row.of_mem hm,h.col.of_mem hm,h.x.of_mem hm,fun y hy=>(h.xD y hy).of_mem hm,h.y.of_mem hm,fun y hy=>(h.yD y hy).of_mem hm,h.ops.of_mem hm⟩
abbrev zStage:Stage:=⟨0,0,0,false,0,0,0,0,⟨none,0,0,[]⟩,⟨none,0,0,[]⟩,⟨none,0,0,[]⟩,0,0,⟨none,0,0,[]⟩,⟨none,0,0,[]⟩,0,⟨none,0,0,[]⟩,0⟩
structure Job where
  inputs:Sl Plane
  stages:Sl Stage
  outputs:Sl Int
  priority:Int
def encJob (x:Job):List Value:=[.slice x.inputs.a x.inputs.n x.inputs.k, .slice x.stages.a x.stages.n x.stages.k, .slice x.outputs.a x.outputs.n x.outputs.k, .int .i64 x.priority]
structure JobV where
  inputs:List PlaneV
  stages:List StageV
  outputs:List Int
  priority:Int
  deriving DecidableEq
def Job.v (x:Job):JobV:=⟨x.inputs.l.map Plane.v,x.stages.l.map Stage.v,x.outputs.l,x.priority⟩
structure Job.Ok (cs:List Chunk) (q:Job):Prop where
  inputs:RdT encPlane 4 cs q.inputs.a q.inputs.n q.inputs.k q.inputs.l
  inputsD:∀z∈q.inputs.l,Plane.Ok cs z
  stages:RdT encStage 18 cs q.stages.a q.stages.n q.stages.k q.stages.l
  stagesD:∀z∈q.stages.l,Stage.Ok cs z
  outputs:RdT Go.E.encI 1 cs q.outputs.a q.outputs.n q.outputs.k q.outputs.l
theorem Job.Ok.of_mem {cs cs':List Chunk} {x:Job} (h:Job.Ok cs x) (hm:∀p∈cs.flatten,p∈cs'.flatten):Job.Ok cs' x:=⟨h.inputs.of_mem hm,fun y hy=>(h.inputsD y hy).of_mem hm,h.stages.of_mem hm,fun y hy=>(h.stagesD y hy).of_mem hm,h.outputs.of_mem hm⟩
structure Shape where
  w:Int
  h:Int
  max_:Int
  deriving DecidableEq
def encShape (x:Shape):List Value:=[.int .i64 x.w, .int .i64 x.h, .int .i64 x.max_]
structure Task where
  stage:Int
  part:Int
  rectX0:Int
  rectY0:Int
  rectX1:Int
  rectY1:Int
  deps:Sl Int
  rows:Int
  scratch:Int
structure TaskV where
  stage:Int
  part:Int
  rectX0:Int
  rectY0:Int
  rectX1:Int
  rectY1:Int
  deps:List Int
  rows:Int
  scratch:Int
  deriving DecidableEq
def Task.v (x:Task):TaskV:=⟨x.stage,x.part,x.rectX0,x.rectY0,x.rectX1,x.rectY1,x.deps.l,x.rows,x.scratch⟩
structure Task.Ok (cs:List Chunk) (q:Task):Prop where
  deps:RdT Go.E.encI 1 cs q.deps.a q.deps.n q.deps.k q.deps.l
theorem Task.Ok.of_mem {cs cs':List Chunk} {x:Task} (h:Task.Ok cs x) (hm:∀p∈cs.flatten,p∈cs'.flatten):Task.Ok cs' x:=⟨h.deps.of_mem hm⟩
def be8 (n:Int):List Int:=[n%18446744073709551616/72057594037927936%256,n%18446744073709551616/281474976710656%256,n%18446744073709551616/1099511627776%256,n%18446744073709551616/4294967296%256,n%18446744073709551616/16777216%256,n%18446744073709551616/65536%256,n%18446744073709551616/256%256,n%18446744073709551616/1%256]
theorem be8_len (n:Int):(be8 n).length=8:=rfl
def bytesOf (l:List Int):List Int:=l.flatMap be8
theorem bytesOf_app (a b:List Int):bytesOf (a++b)=bytesOf a++bytesOf b:=by simp [bytesOf]
theorem bytesOf_cons (a:Int) (b:List Int):bytesOf (a::b)=be8 a++bytesOf b:=by simp [bytesOf]
theorem bytesOf_len (l:List Int):(bytesOf l).length=8*l.length:=by
  induction l with
  |nil=>rfl
  |cons x l ih=>rw [bytesOf_cons];simp [ih,be8_len];omega
def nInts (l:List Int):List Int:=(l.length:Int)::l
def nTap (t:TapV):List Int:=t.first::nInts t.weights
def nTaps (l:List TapV):List Int:=(l.length:Int)::l.flatMap nTap
def nOp (p:POp):List Int:=[p.code,p.arg]
def nOps (l:List POp):List Int:=(l.length:Int)::l.flatMap nOp
def nBool (b:Bool):Int:=if b then 1 else 0
def nStage (s:StageV):List Int:=
  [s.kind,s.a,s.b,nBool s.barrier,s.edgePolicy,s.edgeFill,s.kW,s.kH]++(nInts s.weights++(nInts s.row++(nInts s.col++([s.shift,s.shift2]++(nTaps s.x++(nTaps s.y++([s.bins]++(nOps s.ops++[s.max_]))))))))
structure Wr where
  bs:List Int
  full:Bool
def Wr.one (s:Wr) (n:Int):Wr:=if s.full=true\/262144<s.bs.length+8 then ⟨s.bs,true⟩ else ⟨s.bs++be8 n,false⟩
def Wr.put (s:Wr) (l:List Int):Wr:=l.foldl Wr.one s
theorem flat_one (l:List Int):l.flatMap (fun x=>[x])=l:=by induction l with|nil=>rfl|cons x l ih=>simp
def Enc (bs L:List Int):Prop:=bs=[84,70,1]++bytesOf L\/(262144<bs.length/\bs.length<=3+8*L.length)
theorem Enc.le {bs L:List Int} (h:Enc bs L):bs.length<=3+8*L.length:=by
  rcases h with h|h
  · rw [h];simp [bytesOf_len];omega
  · exact h.2
def WfI (x:Int):Prop:=-9223372036854775808<=x/\x<=9223372036854775807
structure Got {α:Type} (enc:α->List Int) (wf:α->Prop) (r0:List Int) (b0:Bool) (v:α) (r1:List Int) (b1:Bool):Prop where
  snd:b1=false->b0=false/\wf v/\r0=bytesOf (enc v)++r1
  cmp:b0=false->∀v0 r,wf v0->r0=bytesOf (enc v0)++r->b1=false
  len:r1.length<=r0.length
  byt:Bytes r0->Bytes r1
def Pf {α:Type} (enc:α->List Int) (wf:α->Prop):Prop:=∀v v' r r',wf v->wf v'->bytesOf (enc v)++r=bytesOf (enc v')++r'->v=v'/\r=r'
theorem be8_inj {x y:Int} (hx:WfI x) (hy:WfI y) (h:be8 x=be8 y):x=y:=by
  simp only [be8,List.cons.injEq,and_true] at h
  unfold WfI at hx hy
  omega
theorem be8_pf {x y:Int} {r r':List Int} (hx:WfI x) (hy:WfI y) (h:be8 x++r=be8 y++r'):x=y/\r=r':=by
  have:=List.append_inj h (by simp [be8_len])
  exact ⟨be8_inj hx hy this.1,this.2⟩
def encN (x:Int):List Int:=[x]
theorem bytes_encN (x:Int):bytesOf (encN x)=be8 x:=by simp [bytesOf,encN]
theorem pfI:Pf encN WfI:=by
  intro v v' r r' h h' e
  rw [bytes_encN,bytes_encN] at e
  exact be8_pf h h' e
def encP {α β:Type} (f:α->List Int) (g:β->List Int) (p:α×β):List Int:=f p.1++g p.2
def wfP {α β:Type} (f:α->Prop) (g:β->Prop) (p:α×β):Prop:=f p.1/\g p.2
theorem Pf.pair {α β:Type} {f:α->List Int} {g:β->List Int} {wf:α->Prop} {wg:β->Prop} (hf:Pf f wf) (hg:Pf g wg):Pf (encP f g) (wfP wf wg):=by
  intro ⟨a,b⟩ ⟨a',b'⟩ r r' h h' e
  simp only [encP,bytesOf_app,List.append_assoc] at e
  obtain ⟨rfl,e2⟩:=hf _ _ _ _ h.1 h'.1 e
  obtain ⟨rfl,e3⟩:=hg _ _ _ _ h.2 h'.2 e2
  exact ⟨rfl,e3⟩
theorem Got.pair {α β:Type} {f:α->List Int} {g:β->List Int} {wf:α->Prop} {wg:β->Prop} {r0 r1 r2:List Int} {b0 b1 b2:Bool} {a:α} {b:β} (hf:Pf f wf) (hA:Got f wf r0 b0 a r1 b1) (hB:Got g wg r1 b1 b r2 b2):
  Got (encP f g) (wfP wf wg) r0 b0 (a,b) r2 b2:=by
 refine ⟨fun h=>?_,fun h v0 r hw he=>?_,Nat.le_trans hB.len hA.len,fun h=>hB.byt (hA.byt h)⟩
 ·obtain ⟨h1,hw,e⟩:=hB.snd h
  obtain ⟨h2,hw2,e2⟩:=hA.snd h1
  exact ⟨h2,⟨hw2,hw⟩,by simp only [encP,bytesOf_app,List.append_assoc];rw [e2,e]⟩
 ·simp only [encP,bytesOf_app,List.append_assoc] at he
  have h1:=hA.cmp h v0.1 _ hw.1 he
  obtain ⟨_,hwa,e2⟩:=hA.snd h1
  rw [he] at e2
  obtain ⟨_,e3⟩:=hf _ _ _ _ hw.1 hwa e2
  exact hB.cmp h1 v0.2 r hw.2 e3.symm
theorem Got.map {α β:Type} {f:α->List Int} {g:β->List Int} {wf:α->Prop} {wg:β->Prop} {r0 r1:List Int} {b0 b1:Bool} {a:α} (φ:α->β) (hA:Got f wf r0 b0 a r1 b1) (he:∀a,wf a->g (φ a)=f a) (hw:∀a,wf a->wg (φ a)) (hs:∀b,wg b->∃a,wf a/\φ a=b):
    Got g wg r0 b0 (φ a) r1 b1:=by
  refine ⟨fun h=>?_,fun h v0 r hw0 e=>?_,hA.len,hA.byt⟩
  · obtain ⟨h1,h2,h3⟩:=hA.snd h
    exact ⟨h1,hw _ h2,by rw [he _ h2];exact h3⟩
  · obtain ⟨a0,h1,rfl⟩:=hs _ hw0
    exact hA.cmp h a0 r h1 (by rw [he _ h1] at e;exact e)
theorem Pf.map {α β:Type} {f:α->List Int} {g:β->List Int} {wf:α->Prop} {wg:β->Prop} (φ:α->β) (hf:Pf f wf) (he:∀a,wf a->g (φ a)=f a) (hs:∀b,wg b->∃a,wf a/\φ a=b):Pf g wg:=by
  intro v v' r r' h h' e
  obtain ⟨a,ha,rfl⟩:=hs _ h
  obtain ⟨a',ha',rfl⟩:=hs _ h'
  rw [he _ ha,he _ ha'] at e
  obtain ⟨rfl,e2⟩:=hf _ _ _ _ ha ha' e
  exact ⟨rfl,e2⟩
def wfN {α:Type} (wf:α->Prop) (i:Nat) (l:List α):Prop:=l.length=i/\∀x∈l,wf x
def encF {α:Type} (f:α->List Int) (l:List α):List Int:=l.flatMap f
theorem Pf.listN {α:Type} {f:α->List Int} {wf:α->Prop} (hf:Pf f wf) (n:Nat):Pf (encF f) (wfN wf n):=by
 induction n with
 |zero=>
  intro v v' r r' h h' e
  have h1:=List.eq_nil_of_length_eq_zero h.1
  have h2:=List.eq_nil_of_length_eq_zero h'.1
  subst h1;subst h2
  exact ⟨rfl,by simpa [encF,bytesOf] using e⟩
 |succ n ih=>
  intro v v' r r' h h' e
  cases v with
  |nil=>have:=h.1;simp at this
  |cons x v=>
   cases v' with
   |nil=>have:=h'.1;simp at this
   |cons x' v'=>
    simp only [encF,List.flatMap_cons,bytesOf_app,List.append_assoc] at e
    obtain ⟨rfl,e2⟩:=hf _ _ _ _ (h.2 x (by simp)) (h'.2 x' (by simp)) e
    obtain ⟨rfl,e3⟩:=ih v v' r r' ⟨by have:=h.1;simp at this;exact this,fun y hy=>h.2 y (by simp [hy])⟩ ⟨by have:=h'.1;simp at this;exact this,fun y hy=>h'.2 y (by simp [hy])⟩ e2
    exact ⟨rfl,e3⟩
theorem Got.snoc {α:Type} {f:α->List Int} {wf:α->Prop} {i:Nat} {r0 r1 r2:List Int} {b0 b1 b2:Bool} {l:List α} {x:α} (hf:Pf f wf) (hA:Got (encF f) (wfN wf i) r0 b0 l r1 b1) (hB:Got f wf r1 b1 x r2 b2):
  Got (encF f) (wfN wf (i+1)) r0 b0 (l++[x]) r2 b2:=by
 refine (Got.pair (hf.listN i) hA hB).map (g:=encF f) (wg:=wfN wf (i+1)) (fun p=>p.1++[p.2]) (fun a _=>by simp [encF,encP]) (fun a ha=>?_) (fun l hl=>?_)
 ·refine ⟨by simp [ha.1.1],fun y hy=>?_⟩
  rcases List.mem_append.1 hy with h|h
  ·exact ha.1.2 y h
  ·simp at h;subst h;exact ha.2
 ·have hne:l≠[]:=by intro h;subst h;have:=hl.1;simp at this
  refine ⟨(l.dropLast,l.getLast hne),⟨⟨by simp [hl.1],fun y hy=>hl.2 y (List.dropLast_subset l hy)⟩,hl.2 _ (List.getLast_mem hne)⟩,List.dropLast_concat_getLast hne⟩
theorem Got.any {α:Type} {f:α->List Int} {wf:α->Prop} {r0 r1:List Int} {b0:Bool} {v:α} (h:Got f wf r0 b0 v r1 true) (v':α):Got f wf r0 b0 v' r1 true:=
  ⟨(fun h=>nomatch h),h.cmp,h.len,h.byt⟩
structure GotC (size:Nat) (r0:List Int) (b0:Bool) (n:Int) (r1:List Int) (b1:Bool):Prop where
  snd:b1=false->b0=false/\r0=be8 n++r1
  cmp:b0=false->∀(n0:Nat) r,WfI n0->r0=be8 n0++r->n0*(8*size)<=r.length->b1=false
  len:r1.length<=r0.length
  byt:Bytes r0->Bytes r1
  rng:0<=n/\8*n<=r1.length/\WfI n
def encL {α:Type} (f:α->List Int) (l:List α):List Int:=(l.length:Int)::l.flatMap f
def wfL {α:Type} (wf:α->Prop) (l:List α):Prop:=WfI l.length/\∀x∈l,wf x
theorem Pf.list {α:Type} {f:α->List Int} {wf:α->Prop} (hf:Pf f wf):Pf (encL f) (wfL wf):=by
  intro v v' r r' h h' e
  simp only [encL,bytesOf_cons,List.append_assoc] at e
  obtain ⟨e1,e2⟩:=be8_pf h.1 h'.1 e
  exact hf.listN v.length _ _ _ _ ⟨rfl,h.2⟩ ⟨by omega,h'.2⟩ e2
theorem flat_ge {α:Type} {f:α->List Int} {size:Nat} (hs:∀x,size<=(f x).length) (l:List α):l.length*size<=(l.flatMap f).length:=by
  induction l with
  |nil=>simp
  |cons x l ih=>have:=hs x;simp only [List.flatMap_cons,List.length_append,List.length_cons,Nat.add_mul,Nat.one_mul];omega
theorem Got.list {α:Type} {f:α->List Int} {wf:α->Prop} {size:Nat} {r0 rc r1:List Int} {b0 bc b1:Bool} {n:Int} {l:List α} (hs:∀x,size<=(f x).length) (hC:GotC size r0 b0 n rc bc) (hA:Got (encF f) (wfN wf n.toNat) rc bc l r1 b1):
  Got (encL f) (wfL wf) r0 b0 l r1 b1:=by
 refine ⟨fun h=>?_,fun h v0 r hw he=>?_,Nat.le_trans hA.len hC.len,fun h=>hA.byt (hC.byt h)⟩
 ·obtain ⟨h1,⟨h2,h3⟩,e⟩:=hA.snd h
  obtain ⟨h4,e2⟩:=hC.snd h1
  have hn:(l.length:Int)=n:=by have:=hC.rng;omega
  refine ⟨h4,⟨by rw [hn];exact hC.rng.2.2,h3⟩,?_⟩
  rw [encL,bytesOf_cons,hn,List.append_assoc,e2,e];rfl
 ·simp only [encL,bytesOf_cons,List.append_assoc] at he
  have hl:=flat_ge hs v0
  have h1:=hC.cmp h v0.length _ hw.1 he (by
   rw [List.length_append,bytesOf_len]
   have:v0.length*(8*size)=8*(v0.length*size):=by rw [Nat.mul_left_comm]
   omega)
  obtain ⟨_,e2⟩:=hC.snd h1
  rw [he] at e2
  obtain ⟨e3,e4⟩:=be8_pf hw.1 hC.rng.2.2 e2
  exact hA.cmp h1 v0 r ⟨om,hw.2⟩ e4.symm
theorem nInts_enc (l:List Int):nInts l=encL encN l:=by
  simp only [nInts,encL]
  rw [show l.flatMap encN=l from flat_one l]
def wfTap (t:TapV):Prop:=WfI t.first/\wfL WfI t.weights
def wfOp (p:POp):Prop:=WfI p.code/\WfI p.arg
theorem pfN:Pf (encL encN) (wfL WfI):=pfI.list
theorem pfTap:Pf nTap wfTap:=(pfI.pair pfN).map (fun p=>(⟨p.1,p.2⟩:TapV)) (fun a _=>by simp [nTap,nInts_enc,encP,encN]) (fun b h=>⟨(b.first,b.weights),h,rfl⟩)
theorem Got.op {r0 r1 r2:List Int} {b0 b1 b2:Bool} {v u:Int} (hA:Got encN WfI r0 b0 v r1 b1) (hB:Got encN WfI r1 b1 u r2 b2):Got nOp wfOp r0 b0 ⟨v,u⟩ r2 b2:=
  (Got.pair pfI hA hB).map (fun p=>(⟨p.1,p.2⟩:POp)) (fun a _=>by simp [nOp,encP,encN]) (fun a h=>h) (fun b h=>⟨(b.code,b.arg),h,rfl⟩)
theorem pfOp:Pf nOp wfOp:=(pfI.pair pfI).map (fun p=>(⟨p.1,p.2⟩:POp)) (fun a _=>by simp [nOp,encP,encN]) (fun b h=>⟨(b.code,b.arg),h,rfl⟩)
def encBo (b:Bool):List Int:=[nBool b]
def wfBo (_:Bool):Prop:=True
theorem nBool_wf (b:Bool):WfI (nBool b):=by cases b<;>simp [nBool,WfI]
theorem nBool_inj {b c:Bool} (h:nBool b=nBool c):b=c:=by cases b<;>cases c<;>simp [nBool] at h⊢
theorem bytes_encBo (b:Bool):bytesOf (encBo b)=be8 (nBool b):=by simp [bytesOf,encBo]
theorem pfBo:Pf encBo wfBo:=by
  intro v v' r r' _ _ e
  rw [bytes_encBo,bytes_encBo] at e
  obtain ⟨h1,h2⟩:=be8_pf (nBool_wf v) (nBool_wf v') e
  exact ⟨nBool_inj h1,h2⟩
theorem Got.bool {r0 r1:List Int} {b0 b1:Bool} {n:Int} (v:Bool) (h:Got encN WfI r0 b0 n r1 b1) (hn:n=nBool v):Got encBo wfBo r0 b0 v r1 b1:=by
  subst hn
  refine ⟨fun hb=>?_,fun hb v0 r _ he=>h.cmp hb (nBool v0) r (nBool_wf v0) (by rw [bytes_encN,<-bytes_encBo];exact he),h.len,h.byt⟩
  obtain ⟨h1,_,h3⟩:=h.snd hb
  exact ⟨h1,trivial,by rw [bytes_encBo,<-bytes_encN];exact h3⟩
def wfStage (s:StageV):Prop:=WfI s.kind/\WfI s.a/\WfI s.b/\wfBo s.barrier/\WfI s.edgePolicy/\WfI s.edgeFill/\WfI s.kW/\WfI s.kH/\(wfL WfI) s.weights/\(wfL WfI) s.row/\(wfL WfI) s.col/\WfI s.shift/\WfI s.shift2/\(wfL wfTap) s.x/\(wfL wfTap) s.y/\WfI s.bins/\(wfL wfOp) s.ops/\WfI s.max_
theorem Got.stage {r0 r1 r2 r3 r4 r5 r6 r7 r8 r9 r10 r11 r12 r13 r14 r15 r16 r17 r18:List Int} {b0 b1 b2 b3 b4 b5 b6 b7 b8 b9 b10 b11 b12 b13 b14 b15 b16 b17 b18:Bool} {v0:Int} {v1:Int} {v2:Int} {v3:Bool} {v4:Int} {v5:Int} {v6:Int} {v7:Int} {v8:List Int} {v9:List Int} {v10:List Int} {v11:Int} {v12:Int} {v13:List TapV} {v14:List TapV} {v15:Int} {v16:List POp} {v17:Int} (h0:Got encN WfI r0 b0 v0 r1 b1) (h1:Got encN WfI r1 b1 v1 r2 b2) (h2:Got encN WfI r2 b2 v2 r3 b3) (h3:Got encBo wfBo r3 b3 v3 r4 b4) (h4:Got encN WfI r4 b4 v4 r5 b5) (h5:Got encN WfI r5 b5 v5 r6 b6) (h6:Got encN WfI r6 b6 v6 r7 b7) (h7:Got encN WfI r7 b7 v7 r8 b8) (h8:Got (encL encN) (wfL WfI) r8 b8 v8 r9 b9) (h9:Got (encL encN) (wfL WfI) r9 b9 v9 r10 b10) (h10:Got (encL encN) (wfL WfI) r10 b10 v10 r11 b11) (h11:Got encN WfI r11 b11 v11 r12 b12) (h12:Got encN WfI r12 b12 v12 r13 b13) (h13:Got (encL nTap) (wfL wfTap) r13 b13 v13 r14 b14) (h14:Got (encL nTap) (wfL wfTap) r14 b14 v14 r15 b15) (h15:Got encN WfI r15 b15 v15 r16 b16) (h16:Got (encL nOp) (wfL wfOp) r16 b16 v16 r17 b17) (h17:Got encN WfI r17 b17 v17 r18 b18):Got nStage wfStage r0 b0 ⟨v0,v1,v2,v3,v4,v5,v6,v7,v8,v9,v10,v11,v12,v13,v14,v15,v16,v17⟩ r18 b18:=by
 have H:=Got.map (g:=nStage) (wg:=wfStage) (fun p:(Int)×(Int)×(Int)×(Bool)×(Int)×(Int)×(Int)×(Int)×(List Int)×(List Int)×(List Int)×(Int)×(Int)×(List TapV)×(List TapV)×(Int)×(List POp)×(Int)=>(⟨p.1,p.2.1,p.2.2.1,p.2.2.2.1,p.2.2.2.2.1,p.2.2.2.2.2.1,p.2.2.2.2.2.2.1,p.2.2.2.2.2.2.2.1,p.2.2.2.2.2.2.2.2.1,p.2.2.2.2.2.2.2.2.2.1,p.2.2.2.2.2.2.2.2.2.2.1,p.2.2.2.2.2.2.2.2.2.2.2.1,p.2.2.2.2.2.2.2.2.2.2.2.2.1,p.2.2.2.2.2.2.2.2.2.2.2.2.2.1,p.2.2.2.2.2.2.2.2.2.2.2.2.2.2.1,p.2.2.2.2.2.2.2.2.2.2.2.2.2.2.2.1,p.2.2.2.2.2.2.2.2.2.2.2.2.2.2.2.2.1,p.2.2.2.2.2.2.2.2.2.2.2.2.2.2.2.2.2⟩:StageV)) (Got.pair pfI h0 (Got.pair pfI h1 (Got.pair pfI h2 (Got.pair pfBo h3 (Got.pair pfI h4 (Got.pair pfI h5 (Got.pair pfI h6 (Got.pair pfI h7 (Got.pair pfN h8 (Got.pair pfN h9 (Got.pair pfN h10 (Got.pair pfI h11 (Got.pair pfI h12 (Got.pair pfTap.list h13 (Got.pair pfTap.list h14 (Got.pair pfI h15 (Got.pair pfOp.list h16 h17))))))))))))))))) (fun p _=>by simp [nStage,nInts_enc,encP,encN,encBo,encL,nTaps,nOps]) (fun p h=>h) (fun s h=>⟨(s.kind,s.a,s.b,s.barrier,s.edgePolicy,s.edgeFill,s.kW,s.kH,s.weights,s.row,s.col,s.shift,s.shift2,s.x,s.y,s.bins,s.ops,s.max_),h,rfl⟩)
 exact H
theorem r4_same (ax:Option Addr) (nx kx:Nat) (x:List Int) (ay:Option Addr) (ny ky:Nat) (y:List Int) (hx:RdT Go.E.encI 1 [H] ax nx kx x) (hy:RdT Go.E.encI 1 [H] ay ny ky y) (hS:Sat W w (H::F)):
  Ro prog 31 #[.slice ax nx kx, .slice ay ny ky] (.bool (decide (x=y))) W w (H::F):=by
 have hl_x:=hx.le;have hn_x:=hx.len
 have hl_y:=hy.le;have hn_y:=hy.len
 refine callsA 26 func31 rfl<|sR<|pu1<|zQ<|pu5<|nT<|cN (nx:Int) (ny:Int) (fun k0=>?_) (fun k0=>?_)
 rotate_left
 ·refine sR<|pu1<|zR<|retT [.bool false] ?_
  exact ⟨by rw [decide_eq_false (fun h=>by have:=congrArg List.length h;omega)];rfl,hS⟩
 refine kT<|seqE<|sR<|pu1<|nT<|blockE<|loopA (γ:=Nat) (fun i=>[(0, .slice ax nx kx),(1, .slice ay ny ky),(5,I (i:Int))]) (fun i w=>Sat W w (H::F)/\i<=nx/\(x.take i=y.take i)) (fun i=>nx-i) 0 ⟨hS,om,by simp⟩ ?_
 rintro i ρ _ ⟨a0,hi,hE⟩
 refine seqE<|sR<|pu4<|nT<|cD ((i:Int)<(nx:Int)) (fun l0=>?_) (fun l0=>?_)
 rotate_left
 ·exact exitE<|xB<|tN<|sR<|pu1<|zE<|retT [.bool true]<|⟨by rw [decide_eq_true (eq_of_take hE om om)];rfl,a0⟩
 refine kT<|seqE<|blockE<|seqE ?_
 obtain ⟨b0,f0,g0,c0,m0,n0⟩:=RdT.elem hx (i:Int)
 rw [Int.toNat_natCast] at c0
 obtain ⟨d0,h0,i0,e0,o0,p0⟩:=RdT.elem hy (i:Int)
 rw [Int.toNat_natCast] at e0
 refine drawE [] [(3,⟨f0,g0,none⟩,I b0),(7,⟨h0,i0,none⟩,I d0)] [(true,[0,1]),(true,[2]),(true,[4,5]),(true,[6]),(true,[3]),(true,[7]),(true,[8])] rfl kr ⟨.inr ((m0.up 0 rfl).cell a0 (k:=0) rfl), .inr ((o0.up 0 rfl).cell a0 (k:=0) rfl),trivial⟩ ?_
 have j0:=a0.drew
 refine wU [0,1]<|wY (.pointer (some ⟨f0,g0,none⟩)) rfl (fun w _=>Y_idx (a:=ax) (i:=(i:Int)) (len:=nx) (cap:=kx) rfl runUnderlying22 sizeOf3 kr kr n0)<|wU [4,5]<|wY (.pointer (some ⟨h0,i0,none⟩)) rfl (fun w _=>Y_idx (a:=ay) (i:=(i:Int)) (len:=ny) (cap:=ky) rfl runUnderlying22 sizeOf3 kr kr p0)<|wLd (I b0) 0 isAgg3<|wLd (I d0) 1 isAgg3<|wU [8]<|wN<|tN<|cN b0 d0 (fun q0=>?_) (fun q0=>?_)
 rotate_left
 ·exact sR<|pu1<|zB<|tR<|tK<|retT [.bool false]<|⟨by rw [decide_eq_false (ne_of_at c0 e0 om)];rfl,j0⟩
 exact skipE<|bN<|tN<|rE<|pu1<|sAdd (i:Int) 1<|pu1<|nT<|⟨i+1,od,alA,j0,om,take_eq_succ hE c0 e0 om⟩
theorem r4_equal (p : Plane) (q : Plane) (hp : Plane.Ok [H] p) (hq : Plane.Ok [H] q) (hS : Sat W w (H :: F)) :
  Ro prog 32 #[.agg (encPlane p).toArray, .agg (encPlane q).toArray] (.bool (decide (p.v = q.v))) W w (H :: F) := by
 have hl_p_pix := hp.pix.le; have hn_p_pix := hp.pix.len
 have hl_q_pix := hq.pix.le; have hn_q_pix := hq.pix.len
 refine callsA 31 func32 rfl <| sR <| sBox hS (.agg (encPlane p).toArray) (encPlane p).toArray fun _ _ b0 => sBox b0 (.agg (encPlane q).toArray) (encPlane q).toArray fun _ _ a0 => pu1 <| zS <| pu1 <| sL a0 1 0 (I p.w) (isAgg3 _) <| pu1 <| sL a0 0 0 (I q.w) (isAgg3 _) <| pu2 <| sE 10 p.w q.w (fun c0 => ?_) (fun c0 => ?_)
 rotate_left
 ·refine pu16 <| pu5 <| zE <| retT [.bool false] ?_
  have d0 := (a0.drops [0, 0])
  refine ⟨rB ?_, d0⟩
  first | (rw [Bool.eq_iff_iff]; simp [Plane.v, *]; done) | (simp [Plane.v, *]; done) | (exact (decide_eq_false (fun h => by simp_all [Plane.v])).symm) | (exact (decide_eq_true (by simp_all [Plane.v])).symm)
 refine pu1 <| gY <| sL a0 1 1 (I p.h) (isAgg3 _) <| pu1 <| gY <| sL a0 0 1 (I q.h) (isAgg3 _) <| pu3 <| sE 17 p.h q.h (fun e0 => ?_) (fun e0 => ?_)
 rotate_left
 ·refine pu14 <| zE <| retT [.bool false] ?_
  have f0 := (a0.drops [0, 0])
  refine ⟨rB ?_, f0⟩
  first | (rw [Bool.eq_iff_iff]; simp [Plane.v, *]; done) | (simp [Plane.v, *]; done) | (exact (decide_eq_false (fun h => by simp_all [Plane.v])).symm) | (exact (decide_eq_true (by simp_all [Plane.v])).symm)
 refine pu1 <| gY <| sL a0 1 2 (I p.max_) (isAgg3 _) <| pu1 <| gY <| sL a0 0 2 (I q.max_) (isAgg3 _) <| pu3 <| sE 24 p.max_ q.max_ (fun g0 => ?_) (fun g0 => ?_)
 rotate_left
 ·refine pu7 <| zE <| retT [.bool false] ?_
  have h0 := (a0.drops [0, 0])
  refine ⟨rB ?_, h0⟩
  first | (rw [Bool.eq_iff_iff]; simp [Plane.v, *]; done) | (simp [Plane.v, *]; done) | (exact (decide_eq_false (fun h => by simp_all [Plane.v])).symm) | (exact (decide_eq_true (by simp_all [Plane.v])).symm)
 refine pu1 <| gY <| sL a0 1 3 (.slice p.pix.a p.pix.n p.pix.k) (isAgg22 _) <| pu1 <| gY <| sL a0 0 3 (.slice q.pix.a q.pix.n q.pix.k) (isAgg22 _) <| gY <| cR call31 (r4_same p.pix.a p.pix.n p.pix.k p.pix.l q.pix.a q.pix.n q.pix.k q.pix.l (RdT.flat (hp.pix.up 2 (by rfl))) (RdT.flat (hq.pix.up 2 (by rfl))) a0.flat) fun _ i0 => pu2 <| zE <| retT [.bool (decide (p.pix.l = q.pix.l))] ?_
 have j0 := (i0.drops [0, 0])
 refine ⟨rB ?_, j0⟩
 first | (rw [Bool.eq_iff_iff]; simp [Plane.v, *]; done) | (simp [Plane.v, *]; done) | (exact (decide_eq_false (fun h => by simp_all [Plane.v])).symm) | (exact (decide_eq_true (by simp_all [Plane.v])).symm)
theorem eqvn49 (w:World) (a0 a1 b0 b1:Int):∀x y,((do eqGuard .neq 49 x y (.agg #[.int .i64 a0, .int .i64 a1]) (.agg #[.int .i64 b0, .int .i64 b1]);binOp .neq 49 (.agg #[.int .i64 a0, .int .i64 a1]) (.agg #[.int .i64 b0, .int .i64 b1])):Sem Value).run prog w= .ok (.bool (!((a0==b0)&&(a1==b1)))) w:=by
  intro x y
  simp [go_sem,run_eqGuard_agg,run_neq_struct,run_equalIn_agg]
  by_cases h0:a0=b0<;>by_cases h1:a1=b1<;>simp [*]
theorem eqve49 (w:World) (a0 a1 b0 b1:Int):∀x y,((do eqGuard .eql 49 x y (.agg #[.int .i64 a0, .int .i64 a1]) (.agg #[.int .i64 b0, .int .i64 b1]);binOp .eql 49 (.agg #[.int .i64 a0, .int .i64 a1]) (.agg #[.int .i64 b0, .int .i64 b1])):Sem Value).run prog w= .ok (.bool ((a0==b0)&&(a1==b1))) w:=by
  intro x y
  simp [go_sem,run_eqGuard_agg,run_eql_struct,run_equalIn_agg]
  by_cases h0:a0=b0<;>by_cases h1:a1=b1<;>simp [*]
end Go.Proofs.YtmlhcafjelkjfaaGreat
