import Derived.Test.YtkadmghedmodbaaGreatR4P3Fm6
set_option linter.all false
namespace Go.Proofs.YtkadmghedmodbaaGreat
open Go Go.E Go.Proofs.Tryz
set_option linter.all false
set_option maxRecDepth 100000
set_option maxHeartbeats 2000000
variable {W w:World} {H:Chunk} {F:List Chunk}
structure Wk where
  phase:Int
  heldJob:Int
  heldTask:Int
  attempt:Int
  row:Int
  deriving DecidableEq
def encWk (x:Wk):List Value:=[.int .i64 x.phase, .int .i64 x.heldJob, .int .i64 x.heldTask, .int .i64 x.attempt, .int .i64 x.row]
structure JA where
  T:List Task
  B:Option BS
  x:Bool
instance:Inhabited JA:=⟨⟨[],none,false⟩⟩
instance:Inhabited Wk:=⟨⟨0,0,0,0,0⟩⟩
structure MS where
  ws:List Wk
  jobs:List JA
  rd:Int
def JobA (H:Chunk) (p:Nat) (s:JA) (c:Chunk):Prop:=∃(ta:Option Addr) (tn tk:Nat) (b:Option Addr) (M:Chunk),
  c=[(p, .cells #[.slice ta tn tk, .pointer b, .bool s.x] 219 (0,0))]++M/\RdT encTask 9 [H] ta tn tk s.T/\(∀z∈s.T,Task.Ok [H] z)/\
  ((s.B=none/\b=none/\M=[])\/(∃(B:BS) (q:Nat),s.B=some B/\b=some ⟨q,0,none⟩/\BoardR q B M))
def runJ (s:JA):Bool:=!s.x&&(match s.B with|none=>false|some B=>decide (doneOf B<((B.deps.length:Nat):Int)))
def runsM (jobs:List JA) (n:Int):Bool:=decide (0<=n/\n<((jobs.length:Nat):Int))&&runJ (jobs.getD n.toNat default)
def busyM (jobs:List JA) (v:Wk):Bool:=decide (v.phase≠0/\v.phase≠4)&&runsM jobs v.heldJob
def JW (K:Int) (j:JA):Prop:=∀B,j.B=some B->BWf B K/\B.deps.length=j.T.length
def namedE (e:Evt):Evt:=
  if e.kind=1 then ⟨e.kind,0,0,e.job,0,0,e.err⟩ else if e.kind=2 then ⟨e.kind,0,0,e.job,0,0,0⟩
  else if e.kind=3\/e.kind=4\/e.kind=8\/e.kind=9\/e.kind=10 then ⟨e.kind,e.worker,0,0,e.refJob,e.refTask,0⟩
  else if e.kind=5 then ⟨e.kind,e.worker,e.from_,0,e.refJob,e.refTask,0⟩
  else if e.kind=12 then ⟨e.kind,e.worker,e.from_,0,0,0,0⟩
  else if e.kind=6\/e.kind=7\/e.kind=11\/e.kind=13 then ⟨e.kind,e.worker,0,0,0,0,0⟩
  else ⟨e.kind,0,0,0,0,0,0⟩
def anotherE (n:Nat) (e:Evt):Bool:=decide (0<=e.from_/\e.from_<((n:Nat):Int)/\e.from_≠e.worker)
theorem any_take {ws:List Wk} {f:Wk->Bool} {i:Nat} {x:Wk} (hx:ws[i]?=some x) (h:(ws.take i).any f=false) (hf:f x=false):(ws.take (i+1)).any f=false:=by
  rw [take_succ_at hx,List.any_append,h];simp [hf]
theorem any_hit {ws:List Wk} {f:Wk->Bool} {i:Nat} {x:Wk} (hx:ws[i]?=some x) (hf:f x=true):ws.any f=true:=List.any_eq_true.2 ⟨x,List.mem_of_getElem? hx,hf⟩
theorem ad_within (n:Int) (a:Int) (b:Int) (hS:Sat W w (H::F)):
    Ro prog 103 #[.int .i64 n, .int .i64 a, .int .i64 b] (.bool (decide ((a<=n/\n<=b)))) W w (H::F):=by
  exact callsK 15 func103 rfl<|jCO 11 rfl<|SD 10 (n>=a) (fun a0=>jOR 8 rfl<|retT [.bool false]<|⟨rB ((decide_eq_false (by omega)).symm),hS⟩) fun a0=>jOR 8 rfl<|retT [.bool (decide ((n:Int)<=b))]<|⟨rB (by rw [Bool.eq_iff_iff];simp only [decide_eq_true_eq,ge_iff_le];omega),hS⟩
theorem ad_valid (c:Cfg) (hS:Sat W w (H::F)):
  Ro prog 42 #[.agg (encCfg c).toArray] (I (validCfg c)) W w (H::F):=by
 refine callsA 44 func42 rfl<|sR<|sBx hS (encCfg c) fun _ _ h0=>pu1<|zS<|pu1<|sM h0 0 0 (I c.workers)<|cS (ad_within c.workers 1 64 h0.flat) fun _ a0=>pu1<|SD 7 ((1<=c.workers/\c.workers<=64)) (fun j0=>pu16<|pu16<|pu3<|zQ<|pu2<|zC<|pu1<|zR<|retT [I 2]<|⟨congrArg (fun z=>Ending.returned (I z)) (by unfold validCfg;rw [if_neg om]),(a0.dropAt 0 rfl)⟩) fun j0=>pu1<|gY<|sM a0 0 1 (I c.tileW)<|gY<|cS (ad_within c.tileW 1 64 a0.flat) fun _ b0=>pu2<|SD 12 ((1<=c.tileW/\c.tileW<=64)) (fun l0=>pu16<|pu14<|zQ<|pu2<|zC<|pu1<|zR<|retT [I 2]<|⟨congrArg (fun z=>Ending.returned (I z)) (by unfold validCfg;rw [if_neg om]),(b0.dropAt 0 rfl)⟩) fun l0=>pu1<|gY<|sM b0 0 2 (I c.tileH)<|gY<|cS (ad_within c.tileH 1 64 b0.flat) fun _ c0=>pu2<|SD 17 ((1<=c.tileH/\c.tileH<=64)) (fun n0=>pu16<|pu9<|zQ<|pu2<|zC<|pu1<|zR<|retT [I 2]<|⟨congrArg (fun z=>Ending.returned (I z)) (by unfold validCfg;rw [if_neg om]),(c0.dropAt 0 rfl)⟩) fun n0=>pu1<|gY<|sM c0 0 3 (I c.arena)<|gY<|cS (ad_within c.arena 0 1048576 c0.flat) fun _ d0=>pu2<|SD 22 ((0<=c.arena/\c.arena<=1048576)) (fun p0=>pu16<|pu4<|zQ<|pu2<|zC<|pu1<|zR<|retT [I 2]<|⟨congrArg (fun z=>Ending.returned (I z)) (by unfold validCfg;rw [if_neg om]),(d0.dropAt 0 rfl)⟩) fun p0=>pu1<|gY<|sM d0 0 4 (I c.deque)<|gY<|cS (ad_within c.deque 1 256 d0.flat) fun _ e0=>pu2<|SD 27 ((1<=c.deque/\c.deque<=256)) (fun r0=>pu15<|zQ<|pu2<|zC<|pu1<|zR<|retT [I 2]<|⟨congrArg (fun z=>Ending.returned (I z)) (by unfold validCfg;rw [if_neg om]),(e0.dropAt 0 rfl)⟩) fun r0=>?_
 exact pu1<|gY<|sM e0 0 5 (I c.tasks)<|gY<|cS (ad_within c.tasks 1 4096 e0.flat) fun _ f0=>pu2<|SD 32 ((1<=c.tasks/\c.tasks<=4096)) (fun t0=>pu10<|zQ<|pu2<|zC<|pu1<|zR<|retT [I 2]<|⟨congrArg (fun z=>Ending.returned (I z)) (by unfold validCfg;rw [if_neg om]),(f0.dropAt 0 rfl)⟩) fun t0=>pu1<|gY<|sM f0 0 6 (I c.cells)<|gY<|cS (ad_within c.cells 1 1048576 f0.flat) fun _ g0=>pu2<|SD 37 ((1<=c.cells/\c.cells<=1048576)) (fun v0=>pu5<|zQ<|pu2<|zC<|pu1<|zR<|retT [I 2]<|⟨congrArg (fun z=>Ending.returned (I z)) (by unfold validCfg;rw [if_neg om]),(g0.dropAt 0 rfl)⟩) fun v0=>pu1<|gY<|sM g0 0 7 (I c.jobs)<|gY<|cS (ad_within c.jobs 1 64 g0.flat) fun _ i0=>pu2<|zQ<|pu2<|nT<|CDn ((1<=c.jobs/\c.jobs<=64)) (fun x0=>sR<|pu1<|zR<|retT [I 2]<|⟨congrArg (fun z=>Ending.returned (I z)) (by unfold validCfg;rw [if_neg om]),(i0.dropAt 0 rfl)⟩) fun x0=>kS<|pu1<|zE<|retT [I 0]<|⟨congrArg (fun z=>Ending.returned (I z)) (by unfold validCfg;rw [if_pos om]),(i0.dropAt 0 rfl)⟩
theorem au_named (e:Evt) (hS:Sat W w (H::F)):
  Ro prog 149 #[.agg (encEvt e).toArray] (.agg #[I ((namedE e).kind),I ((namedE e).worker),I ((namedE e).from_),I ((namedE e).job),I ((namedE e).refJob),I ((namedE e).refTask),I ((namedE e).err)]) W w (H::F):=by
 refine callsK 62 func149 rfl<|jCO 2 rfl<|sBx hS (encEvt e) fun _ _ u1=>sAlloc u1 zeroValue63 fun _ _ b0=>gOO b0 7 [1] rfl<|sAlloc b0 zeroValue63 fun _ _ v1=>sTk v1 0 rfl [I e.kind,I 0,I 0,I 0,I 0,I 0,I 0] fun _ a0=>gOC a0 16 [2] rfl<|cE e.kind 1 (fun w1=>drawF a0 [5,7] (fb 1 2 3 1<|fb 3 2 6 1<|fn) [0,2,1,4,3,5,6,7] fun _ x1=>wV 2<|wL 0<|wV 1<|wL 1<|wO rfl<|tWk x1 0 rfl 3 (I e.job) fun _ c0=>nZ c0 [2]<|wV 1<|wO rfl<|tWk c0 0 rfl 6 (I e.err) fun _ d0=>nA<|wN<|gXO d0 5 [700] rfl<|sTk d0 1 rfl [I e.kind,I 0,I 0,I e.job,I 0,I 0,I e.err] fun _ e0=>jOR 3 rfl<|retN (vs:=[.agg #[I e.kind,I 0,I 0,I e.job,I 0,I 0,I e.err]]) rfl (.cons (.cell _ _ _ _ kr (lvA e0 1 0 [I e.kind,I 0,I 0,I e.job,I 0,I 0,I e.err] (isAgg63 _) (sizeOf63 _) rfl rfl rfl)) .nil)<|(by have y1:=(e0.drops [0,0,0]);have he:namedE e=(⟨e.kind,0,0,e.job,0,0,e.err⟩:Evt):=(by unfold namedE;first|(rw [if_pos om])|(rw [if_neg om,if_pos om])|(rw [if_neg om,if_neg om,if_pos om])|(rw [if_neg om,if_neg om,if_neg om,if_pos om])|(rw [if_neg om,if_neg om,if_neg om,if_neg om,if_pos om])|(rw [if_neg om,if_neg om,if_neg om,if_neg om,if_neg om,if_pos om])|(rw [if_neg om,if_neg om,if_neg om,if_neg om,if_neg om,if_neg om]));exact ⟨by rw [he];rfl,y1⟩)) fun w1=>?_
 refine jCC 6 rfl<|cE e.kind 2 (fun z1=>gCO a0 4 [2] rfl<|tWk a0 0 rfl 3 (I e.job) fun _ f0=>gOO f0 6 [700] rfl<|sTk f0 1 rfl [I e.kind,I 0,I 0,I e.job,I 0,I 0,I 0] fun _ g0=>jOR 3 rfl<|retN (vs:=[.agg #[I e.kind,I 0,I 0,I e.job,I 0,I 0,I 0]]) rfl (.cons (.cell _ _ _ _ kr (lvA g0 1 0 [I e.kind,I 0,I 0,I e.job,I 0,I 0,I 0] (isAgg63 _) (sizeOf63 _) rfl rfl rfl)) .nil)<|(by have a2:=(g0.drops [0,0,0]);have he:namedE e=(⟨e.kind,0,0,e.job,0,0,0⟩:Evt):=(by unfold namedE;first|(rw [if_pos om])|(rw [if_neg om,if_pos om])|(rw [if_neg om,if_neg om,if_pos om])|(rw [if_neg om,if_neg om,if_neg om,if_pos om])|(rw [if_neg om,if_neg om,if_neg om,if_neg om,if_pos om])|(rw [if_neg om,if_neg om,if_neg om,if_neg om,if_neg om,if_pos om])|(rw [if_neg om,if_neg om,if_neg om,if_neg om,if_neg om,if_neg om]));exact ⟨by rw [he];rfl,a2⟩)) fun z1=>?_
 refine jCC 7 rfl<|cE e.kind 3 (fun h0=>jCC 2 rfl<|cT _ (beq_iff_eq.2 h0)<|drawF a0 [5,7] (fb 1 2 1 1<|fb 3 2 4 2<|fn) [0,2,1,4,3,5,6,7] fun _ b2=>wV 2<|wL 0<|wV 1<|wG 1 2<|wO rfl<|tWk b2 0 rfl 1 (I e.worker) fun _ i0=>nZ i0 [2]<|wV 1<|wO rfl<|tWk i0 0 rfl 4 (.agg #[I e.refJob,I e.refTask]) fun _ j0=>nA<|wN<|gXO j0 5 [700] rfl<|sTk j0 1 rfl [I e.kind,I e.worker,I 0,I 0,I e.refJob,I e.refTask,I 0] fun _ k0=>jOR 3 rfl<|retN (vs:=[.agg #[I e.kind,I e.worker,I 0,I 0,I e.refJob,I e.refTask,I 0]]) rfl (.cons (.cell _ _ _ _ kr (lvA k0 1 0 [I e.kind,I e.worker,I 0,I 0,I e.refJob,I e.refTask,I 0] (isAgg63 _) (sizeOf63 _) rfl rfl rfl)) .nil)<|(by have c2:=(k0.drops [0,0,0]);have he:namedE e=(⟨e.kind,e.worker,0,0,e.refJob,e.refTask,0⟩:Evt):=(by unfold namedE;first|(rw [if_pos om])|(rw [if_neg om,if_pos om])|(rw [if_neg om,if_neg om,if_pos om])|(rw [if_neg om,if_neg om,if_neg om,if_pos om])|(rw [if_neg om,if_neg om,if_neg om,if_neg om,if_pos om])|(rw [if_neg om,if_neg om,if_neg om,if_neg om,if_neg om,if_pos om])|(rw [if_neg om,if_neg om,if_neg om,if_neg om,if_neg om,if_neg om]));exact ⟨by rw [he];rfl,c2⟩)) fun h0=>?_
 refine jCC 6 rfl<|cE e.kind 4 (fun l0=>jCC 2 rfl<|cT _ (beq_iff_eq.2 l0)<|drawF a0 [5,7] (fb 1 2 1 1<|fb 3 2 4 2<|fn) [0,2,1,4,3,5,6,7] fun _ d2=>wV 2<|wL 0<|wV 1<|wG 1 2<|wO rfl<|tWk d2 0 rfl 1 (I e.worker) fun _ m0=>nZ m0 [2]<|wV 1<|wO rfl<|tWk m0 0 rfl 4 (.agg #[I e.refJob,I e.refTask]) fun _ n0=>nA<|wN<|gXO n0 5 [700] rfl<|sTk n0 1 rfl [I e.kind,I e.worker,I 0,I 0,I e.refJob,I e.refTask,I 0] fun _ o0=>jOR 3 rfl<|retN (vs:=[.agg #[I e.kind,I e.worker,I 0,I 0,I e.refJob,I e.refTask,I 0]]) rfl (.cons (.cell _ _ _ _ kr (lvA o0 1 0 [I e.kind,I e.worker,I 0,I 0,I e.refJob,I e.refTask,I 0] (isAgg63 _) (sizeOf63 _) rfl rfl rfl)) .nil)<|(by have e2:=(o0.drops [0,0,0]);have he:namedE e=(⟨e.kind,e.worker,0,0,e.refJob,e.refTask,0⟩:Evt):=(by unfold namedE;first|(rw [if_pos om])|(rw [if_neg om,if_pos om])|(rw [if_neg om,if_neg om,if_pos om])|(rw [if_neg om,if_neg om,if_neg om,if_pos om])|(rw [if_neg om,if_neg om,if_neg om,if_neg om,if_pos om])|(rw [if_neg om,if_neg om,if_neg om,if_neg om,if_neg om,if_pos om])|(rw [if_neg om,if_neg om,if_neg om,if_neg om,if_neg om,if_neg om]));exact ⟨by rw [he];rfl,e2⟩)) fun l0=>?_
 refine jCC 6 rfl<|cE e.kind 8 (fun p0=>jCC 2 rfl<|cT _ (beq_iff_eq.2 p0)<|drawF a0 [5,7] (fb 1 2 1 1<|fb 3 2 4 2<|fn) [0,2,1,4,3,5,6,7] fun _ f2=>wV 2<|wL 0<|wV 1<|wG 1 2<|wO rfl<|tWk f2 0 rfl 1 (I e.worker) fun _ q0=>nZ q0 [2]<|wV 1<|wO rfl<|tWk q0 0 rfl 4 (.agg #[I e.refJob,I e.refTask]) fun _ r0=>nA<|wN<|gXO r0 5 [700] rfl<|sTk r0 1 rfl [I e.kind,I e.worker,I 0,I 0,I e.refJob,I e.refTask,I 0] fun _ s0=>jOR 3 rfl<|retN (vs:=[.agg #[I e.kind,I e.worker,I 0,I 0,I e.refJob,I e.refTask,I 0]]) rfl (.cons (.cell _ _ _ _ kr (lvA s0 1 0 [I e.kind,I e.worker,I 0,I 0,I e.refJob,I e.refTask,I 0] (isAgg63 _) (sizeOf63 _) rfl rfl rfl)) .nil)<|(by have g2:=(s0.drops [0,0,0]);have he:namedE e=(⟨e.kind,e.worker,0,0,e.refJob,e.refTask,0⟩:Evt):=(by unfold namedE;first|(rw [if_pos om])|(rw [if_neg om,if_pos om])|(rw [if_neg om,if_neg om,if_pos om])|(rw [if_neg om,if_neg om,if_neg om,if_pos om])|(rw [if_neg om,if_neg om,if_neg om,if_neg om,if_pos om])|(rw [if_neg om,if_neg om,if_neg om,if_neg om,if_neg om,if_pos om])|(rw [if_neg om,if_neg om,if_neg om,if_neg om,if_neg om,if_neg om]));exact ⟨by rw [he];rfl,g2⟩)) fun p0=>?_
 refine jCC 6 rfl<|cE e.kind 9 (fun t0=>jCC 2 rfl<|cT _ (beq_iff_eq.2 t0)<|drawF a0 [5,7] (fb 1 2 1 1<|fb 3 2 4 2<|fn) [0,2,1,4,3,5,6,7] fun _ h2=>wV 2<|wL 0<|wV 1<|wG 1 2<|wO rfl<|tWk h2 0 rfl 1 (I e.worker) fun _ u0=>nZ u0 [2]<|wV 1<|wO rfl<|tWk u0 0 rfl 4 (.agg #[I e.refJob,I e.refTask]) fun _ v0=>nA<|wN<|gXO v0 5 [700] rfl<|sTk v0 1 rfl [I e.kind,I e.worker,I 0,I 0,I e.refJob,I e.refTask,I 0] fun _ w0=>jOR 3 rfl<|retN (vs:=[.agg #[I e.kind,I e.worker,I 0,I 0,I e.refJob,I e.refTask,I 0]]) rfl (.cons (.cell _ _ _ _ kr (lvA w0 1 0 [I e.kind,I e.worker,I 0,I 0,I e.refJob,I e.refTask,I 0] (isAgg63 _) (sizeOf63 _) rfl rfl rfl)) .nil)<|(by have i2:=(w0.drops [0,0,0]);have he:namedE e=(⟨e.kind,e.worker,0,0,e.refJob,e.refTask,0⟩:Evt):=(by unfold namedE;first|(rw [if_pos om])|(rw [if_neg om,if_pos om])|(rw [if_neg om,if_neg om,if_pos om])|(rw [if_neg om,if_neg om,if_neg om,if_pos om])|(rw [if_neg om,if_neg om,if_neg om,if_neg om,if_pos om])|(rw [if_neg om,if_neg om,if_neg om,if_neg om,if_neg om,if_pos om])|(rw [if_neg om,if_neg om,if_neg om,if_neg om,if_neg om,if_neg om]));exact ⟨by rw [he];rfl,i2⟩)) fun t0=>?_
 refine jCC 5 rfl<|cE e.kind 10 (fun j2=>drawF a0 [5,7] (fb 1 2 1 1<|fb 3 2 4 2<|fn) [0,2,1,4,3,5,6,7] fun _ k2=>wV 2<|wL 0<|wV 1<|wG 1 2<|wO rfl<|tWk k2 0 rfl 1 (I e.worker) fun _ x0=>nZ x0 [2]<|wV 1<|wO rfl<|tWk x0 0 rfl 4 (.agg #[I e.refJob,I e.refTask]) fun _ y0=>nA<|wN<|gXO y0 5 [700] rfl<|sTk y0 1 rfl [I e.kind,I e.worker,I 0,I 0,I e.refJob,I e.refTask,I 0] fun _ z0=>jOR 3 rfl<|retN (vs:=[.agg #[I e.kind,I e.worker,I 0,I 0,I e.refJob,I e.refTask,I 0]]) rfl (.cons (.cell _ _ _ _ kr (lvA z0 1 0 [I e.kind,I e.worker,I 0,I 0,I e.refJob,I e.refTask,I 0] (isAgg63 _) (sizeOf63 _) rfl rfl rfl)) .nil)<|(by have l2:=(z0.drops [0,0,0]);have he:namedE e=(⟨e.kind,e.worker,0,0,e.refJob,e.refTask,0⟩:Evt):=(by unfold namedE;first|(rw [if_pos om])|(rw [if_neg om,if_pos om])|(rw [if_neg om,if_neg om,if_pos om])|(rw [if_neg om,if_neg om,if_neg om,if_pos om])|(rw [if_neg om,if_neg om,if_neg om,if_neg om,if_pos om])|(rw [if_neg om,if_neg om,if_neg om,if_neg om,if_neg om,if_pos om])|(rw [if_neg om,if_neg om,if_neg om,if_neg om,if_neg om,if_neg om]));exact ⟨by rw [he];rfl,l2⟩)) fun j2=>?_
 refine jCC 6 rfl<|cE e.kind 5 (fun m2=>drawF a0 [7,9,11] (fb 1 2 1 1<|fb 3 2 2 1<|fb 5 2 4 2<|fn) [0,2,4,1,6,3,5,7,8,9,10,11] fun _ n2=>wV 3<|wL 0<|wV 1<|wL 1<|wG 2 2<|wO rfl<|tWk n2 0 rfl 1 (I e.worker) fun _ a1=>nZ a1 [2,2]<|wV 1<|wO rfl<|tWk a1 0 rfl 2 (I e.from_) fun _ b1=>nZ b1 [2]<|wV 1<|wO rfl<|tWk b1 0 rfl 4 (.agg #[I e.refJob,I e.refTask]) fun _ c1=>nA<|wN<|gXO c1 5 [700] rfl<|sTk c1 1 rfl [I e.kind,I e.worker,I e.from_,I 0,I e.refJob,I e.refTask,I 0] fun _ d1=>jOR 3 rfl<|retN (vs:=[.agg #[I e.kind,I e.worker,I e.from_,I 0,I e.refJob,I e.refTask,I 0]]) rfl (.cons (.cell _ _ _ _ kr (lvA d1 1 0 [I e.kind,I e.worker,I e.from_,I 0,I e.refJob,I e.refTask,I 0] (isAgg63 _) (sizeOf63 _) rfl rfl rfl)) .nil)<|(by have o2:=(d1.drops [0,0,0]);have he:namedE e=(⟨e.kind,e.worker,e.from_,0,e.refJob,e.refTask,0⟩:Evt):=(by unfold namedE;first|(rw [if_pos om])|(rw [if_neg om,if_pos om])|(rw [if_neg om,if_neg om,if_pos om])|(rw [if_neg om,if_neg om,if_neg om,if_pos om])|(rw [if_neg om,if_neg om,if_neg om,if_neg om,if_pos om])|(rw [if_neg om,if_neg om,if_neg om,if_neg om,if_neg om,if_pos om])|(rw [if_neg om,if_neg om,if_neg om,if_neg om,if_neg om,if_neg om]));exact ⟨by rw [he];rfl,o2⟩)) fun m2=>?_
 refine jCC 6 rfl<|cE e.kind 12 (fun q2=>drawF a0 [5,7] (fb 1 2 1 1<|fb 3 2 2 1<|fn) [0,2,1,4,3,5,6,7] fun _ r2=>wV 2<|wL 0<|wV 1<|wL 1<|wO rfl<|tWk r2 0 rfl 1 (I e.worker) fun _ e1=>nZ e1 [2]<|wV 1<|wO rfl<|tWk e1 0 rfl 2 (I e.from_) fun _ f1=>nA<|wN<|gXO f1 5 [700] rfl<|sTk f1 1 rfl [I e.kind,I e.worker,I e.from_,I 0,I 0,I 0,I 0] fun _ g1=>jOR 3 rfl<|retN (vs:=[.agg #[I e.kind,I e.worker,I e.from_,I 0,I 0,I 0,I 0]]) rfl (.cons (.cell _ _ _ _ kr (lvA g1 1 0 [I e.kind,I e.worker,I e.from_,I 0,I 0,I 0,I 0] (isAgg63 _) (sizeOf63 _) rfl rfl rfl)) .nil)<|(by have s2:=(g1.drops [0,0,0]);have he:namedE e=(⟨e.kind,e.worker,e.from_,0,0,0,0⟩:Evt):=(by unfold namedE;first|(rw [if_pos om])|(rw [if_neg om,if_pos om])|(rw [if_neg om,if_neg om,if_pos om])|(rw [if_neg om,if_neg om,if_neg om,if_pos om])|(rw [if_neg om,if_neg om,if_neg om,if_neg om,if_pos om])|(rw [if_neg om,if_neg om,if_neg om,if_neg om,if_neg om,if_pos om])|(rw [if_neg om,if_neg om,if_neg om,if_neg om,if_neg om,if_neg om]));exact ⟨by rw [he];rfl,s2⟩)) fun q2=>?_
 refine jCC 7 rfl<|cE e.kind 6 (fun h1=>jCC 2 rfl<|cT _ (beq_iff_eq.2 h1)<|gCO a0 4 [2] rfl<|tWk a0 0 rfl 1 (I e.worker) fun _ i1=>gOO i1 6 [700] rfl<|sTk i1 1 rfl [I e.kind,I e.worker,I 0,I 0,I 0,I 0,I 0] fun _ j1=>jOR 3 rfl<|retN (vs:=[.agg #[I e.kind,I e.worker,I 0,I 0,I 0,I 0,I 0]]) rfl (.cons (.cell _ _ _ _ kr (lvA j1 1 0 [I e.kind,I e.worker,I 0,I 0,I 0,I 0,I 0] (isAgg63 _) (sizeOf63 _) rfl rfl rfl)) .nil)<|(by have t2:=(j1.drops [0,0,0]);have he:namedE e=(⟨e.kind,e.worker,0,0,0,0,0⟩:Evt):=(by unfold namedE;first|(rw [if_pos om])|(rw [if_neg om,if_pos om])|(rw [if_neg om,if_neg om,if_pos om])|(rw [if_neg om,if_neg om,if_neg om,if_pos om])|(rw [if_neg om,if_neg om,if_neg om,if_neg om,if_pos om])|(rw [if_neg om,if_neg om,if_neg om,if_neg om,if_neg om,if_pos om])|(rw [if_neg om,if_neg om,if_neg om,if_neg om,if_neg om,if_neg om]));exact ⟨by rw [he];rfl,t2⟩)) fun h1=>?_
 refine jCC 6 rfl<|cE e.kind 7 (fun k1=>jCC 2 rfl<|cT _ (beq_iff_eq.2 k1)<|gCO a0 4 [2] rfl<|tWk a0 0 rfl 1 (I e.worker) fun _ l1=>gOO l1 6 [700] rfl<|sTk l1 1 rfl [I e.kind,I e.worker,I 0,I 0,I 0,I 0,I 0] fun _ m1=>jOR 3 rfl<|retN (vs:=[.agg #[I e.kind,I e.worker,I 0,I 0,I 0,I 0,I 0]]) rfl (.cons (.cell _ _ _ _ kr (lvA m1 1 0 [I e.kind,I e.worker,I 0,I 0,I 0,I 0,I 0] (isAgg63 _) (sizeOf63 _) rfl rfl rfl)) .nil)<|(by have u2:=(m1.drops [0,0,0]);have he:namedE e=(⟨e.kind,e.worker,0,0,0,0,0⟩:Evt):=(by unfold namedE;first|(rw [if_pos om])|(rw [if_neg om,if_pos om])|(rw [if_neg om,if_neg om,if_pos om])|(rw [if_neg om,if_neg om,if_neg om,if_pos om])|(rw [if_neg om,if_neg om,if_neg om,if_neg om,if_pos om])|(rw [if_neg om,if_neg om,if_neg om,if_neg om,if_neg om,if_pos om])|(rw [if_neg om,if_neg om,if_neg om,if_neg om,if_neg om,if_neg om]));exact ⟨by rw [he];rfl,u2⟩)) fun k1=>?_
 refine jCC 6 rfl<|cE e.kind 11 (fun n1=>jCC 2 rfl<|cT _ (beq_iff_eq.2 n1)<|gCO a0 4 [2] rfl<|tWk a0 0 rfl 1 (I e.worker) fun _ o1=>gOO o1 6 [700] rfl<|sTk o1 1 rfl [I e.kind,I e.worker,I 0,I 0,I 0,I 0,I 0] fun _ q1=>jOR 3 rfl<|retN (vs:=[.agg #[I e.kind,I e.worker,I 0,I 0,I 0,I 0,I 0]]) rfl (.cons (.cell _ _ _ _ kr (lvA q1 1 0 [I e.kind,I e.worker,I 0,I 0,I 0,I 0,I 0] (isAgg63 _) (sizeOf63 _) rfl rfl rfl)) .nil)<|(by have v2:=(q1.drops [0,0,0]);have he:namedE e=(⟨e.kind,e.worker,0,0,0,0,0⟩:Evt):=(by unfold namedE;first|(rw [if_pos om])|(rw [if_neg om,if_pos om])|(rw [if_neg om,if_neg om,if_pos om])|(rw [if_neg om,if_neg om,if_neg om,if_pos om])|(rw [if_neg om,if_neg om,if_neg om,if_neg om,if_pos om])|(rw [if_neg om,if_neg om,if_neg om,if_neg om,if_neg om,if_pos om])|(rw [if_neg om,if_neg om,if_neg om,if_neg om,if_neg om,if_neg om]));exact ⟨by rw [he];rfl,v2⟩)) fun n1=>?_
 refine jCC 5 rfl<|CE e.kind 13 (fun w2=>gCO a0 6 [700] rfl<|sTk a0 1 rfl [I e.kind,I 0,I 0,I 0,I 0,I 0,I 0] fun _ r1=>jOR 3 rfl<|retN (vs:=[.agg #[I e.kind,I 0,I 0,I 0,I 0,I 0,I 0]]) rfl (.cons (.cell _ _ _ _ kr (lvA r1 1 0 [I e.kind,I 0,I 0,I 0,I 0,I 0,I 0] (isAgg63 _) (sizeOf63 _) rfl rfl rfl)) .nil)<|(by have x2:=(r1.drops [0,0,0]);have he:namedE e=(⟨e.kind,0,0,0,0,0,0⟩:Evt):=(by unfold namedE;first|(rw [if_pos om])|(rw [if_neg om,if_pos om])|(rw [if_neg om,if_neg om,if_pos om])|(rw [if_neg om,if_neg om,if_neg om,if_pos om])|(rw [if_neg om,if_neg om,if_neg om,if_neg om,if_pos om])|(rw [if_neg om,if_neg om,if_neg om,if_neg om,if_neg om,if_pos om])|(rw [if_neg om,if_neg om,if_neg om,if_neg om,if_neg om,if_neg om]));exact ⟨by rw [he];rfl,x2⟩)) fun w2=>gCO a0 4 [2] rfl<|tWk a0 0 rfl 1 (I e.worker) fun _ s1=>gOO s1 6 [700] rfl<|sTk s1 1 rfl [I e.kind,I e.worker,I 0,I 0,I 0,I 0,I 0] fun _ t1=>jOR 3 rfl<|retN (vs:=[.agg #[I e.kind,I e.worker,I 0,I 0,I 0,I 0,I 0]]) rfl (.cons (.cell _ _ _ _ kr (lvA t1 1 0 [I e.kind,I e.worker,I 0,I 0,I 0,I 0,I 0] (isAgg63 _) (sizeOf63 _) rfl rfl rfl)) .nil) ?_
 have y2:=(t1.drops [0,0,0])
 have he:namedE e=(⟨e.kind,e.worker,0,0,0,0,0⟩:Evt):=by unfold namedE;first|(rw [if_pos om])|(rw [if_neg om,if_pos om])|(rw [if_neg om,if_neg om,if_pos om])|(rw [if_neg om,if_neg om,if_neg om,if_pos om])|(rw [if_neg om,if_neg om,if_neg om,if_neg om,if_pos om])|(rw [if_neg om,if_neg om,if_neg om,if_neg om,if_neg om,if_pos om])|(rw [if_neg om,if_neg om,if_neg om,if_neg om,if_neg om,if_neg om])
 exact ⟨by rw [he];rfl,y2⟩
theorem aj_run_n {p:Nat} {H:Chunk} {s:JA} {c:Chunk} {F:List Chunk} {K:Int} (hJ:JobA H p s c) (hW:JW K s) (h0:s.B=none) (hS:Sat W w (c::F)):
  Calls prog 202 #[Pt p 0] w fun e w'=>e= .returned (.bool (runJ s))/\Sat W w' (c::F):=by
 obtain ⟨ta,tn,tk,b,M,rfl,hT,hD,f0⟩:=hJ
 obtain ⟨rfl,rfl⟩:b=none/\M=[]:=by
  rcases f0 with ⟨_,h1,h2⟩|⟨B,q,h1,_⟩
  ·exact ⟨h1,h2⟩
  ·rw [h0] at h1;cases h1
 have hS:Sat W w ([(p, .cells #[.slice ta tn tk, .pointer none, .bool s.x] 219 (0,0))]::F):=Sat.perm hS (by simp)
 refine callsK 21 func202 rfl<|jCC 6 rfl<|bD (s.x=true) (fun a0=>drawF hS [10,15] (fb 3 0 2 1<|fn) [0,1,2,3,4,5,6,7,8,11,12,13,9,14,10,15,16,17,18] fun _ b0=>wV 3<|wL 0<|wV 2<|wFix 8 _ false (congrArg Bool.not a0)<|wV 8<|wO rfl<|pu1<|nZ b0 [0]<|wO rfl<|pu1<|nZ b0 [0]<|wV 3<|wN<|jXR 2 rfl<|retT [.bool false]<|⟨rB (by unfold runJ;rw [a0,h0];rfl),Sat.perm b0 (by simp)⟩) fun a0=>drawF hS [10,15] (fb 3 0 2 1<|fb 9 0 1 1<|fb 14 0 1 1<|fn) [0,1,2,3,4,5,6,7,8,11,12,13,9,14,10,15,16,17,18] fun _ e0=>wV 3<|wL 0<|wV 2<|wFix 8 _ true (congrArg Bool.not (Bool.eq_false_iff.2 a0))<|wV 6<|wL 1<|wL 2<|wO rfl<|gY<|cZ (b_done_nil e0) ?_
 rintro _ _ ⟨rfl,c0⟩
 refine nZ c0 [0,0]<|wO rfl<|gY<|cZ (b_total_nil c0) ?_
 rintro _ _ ⟨rfl,d0⟩
 exact nZ d0 [0]<|wV 1<|wV 2<|wN<|jXR 2 rfl<|retT [.bool false]<|⟨rB (by unfold runJ;rw [Bool.eq_false_iff.2 a0,h0];rfl),Sat.perm d0 (by simp)⟩
theorem aj_run_s {p:Nat} {H:Chunk} {s:JA} {c:Chunk} {F:List Chunk} {K:Int} {B:BS} (hJ:JobA H p s c) (hW:JW K s) (h0:s.B=some B) (hS:Sat W w (c::F)):
  Calls prog 202 #[Pt p 0] w fun e w'=>e= .returned (.bool (runJ s))/\Sat W w' (c::F):=by
 obtain ⟨ta,tn,tk,b,M,rfl,hT,hD,j0⟩:=hJ
 obtain ⟨q,rfl,l0⟩:∃q,b=some ⟨q,0,none⟩/\BoardR q B M:=by
  rcases j0 with ⟨h1,_⟩|⟨B2,q,h1,h2,h3⟩
  ·rw [h0] at h1;cases h1
  ·rw [h0] at h1;obtain rfl:=Option.some.inj h1;exact ⟨q,h2,h3⟩
 have hS:Sat W w ([(p, .cells #[.slice ta tn tk,Pt q 0, .bool s.x] 219 (0,0))]::M::F):=Sat.perm hS (by simp);have k0:=(hW B h0).1
 refine callsK 21 func202 rfl<|jCC 6 rfl<|bD (s.x=true) (fun a0=>drawF hS [10,15] (fb 3 0 2 1<|fn) [0,1,2,3,4,5,6,7,8,11,12,13,9,14,10,15,16,17,18] fun _ b0=>wV 3<|wL 0<|wV 2<|wFix 8 _ false (congrArg Bool.not a0)<|wV 8<|wO rfl<|pu1<|nZ b0 [0]<|wO rfl<|pu1<|nZ b0 [0]<|wV 3<|wN<|jXR 2 rfl<|retT [.bool false]<|⟨rB (by unfold runJ;rw [a0,h0];rfl),Sat.perm (show Sat W _ ([(p, .cells #[.slice ta tn tk,Pt q 0, .bool s.x] 219 (0,0))]::M::F) from b0) (by simp)⟩) fun a0=>drawF hS [10,15] (fb 3 0 2 1<|fb 9 0 1 1<|fb 14 0 1 1<|fn) [0,1,2,3,4,5,6,7,8,11,12,13,9,14,10,15,16,17,18] fun _ e0=>wV 3<|wL 0<|wV 2<|wFix 8 _ true (congrArg Bool.not (Bool.eq_false_iff.2 a0))<|wV 6<|wL 1<|wL 2<|wO rfl<|gY ?_
 have f0:=(e0.pick 1 rfl)
 refine cZ (b_done l0 k0 f0.flat1) ?_
 rintro _ _ ⟨rfl,g0⟩
 have c0:=g0.unflat1
 refine nZ c0 [1,1]<|wO rfl<|gY<|cZ (b_total l0 k0 c0.flat1) ?_
 rintro _ _ ⟨rfl,i0⟩
 have d0:=i0.unflat1
 exact nZ d0 [1]<|wV 1<|wV 2<|wN<|jXR 2 rfl<|retT [.bool (decide ((doneOf B)<(B.deps.length:Int)))]<|⟨rB (by unfold runJ;rw [Bool.eq_false_iff.2 a0,h0];simp),Sat.perm (show Sat W _ ([(p, .cells #[.slice ta tn tk,Pt q 0, .bool s.x] 219 (0,0))]::M::F) from (d0.pick 1 rfl)) (by simp)⟩
theorem aj_run {W w:World} {p:Nat} {H:Chunk} {s:JA} {c:Chunk} {F:List Chunk} {K:Int} (hJ:JobA H p s c) (hW:JW K s) (hS:Sat W w (c::F)):
    Calls prog 202 #[.pointer (some ⟨p,0,none⟩)] w fun e w'=>e= .returned (.bool (runJ s))/\Sat W w' (c::F):=by
  cases h:s.B with
  |none=>exact aj_run_n hJ hW h hS
  |some B=>exact aj_run_s hJ hW h hS
theorem am_job {p wb wo:Nat} {H:Chunk} {oa ja:Option Addr} {on ok wn wk jn jk:Nat} {rd:Int} {ws:List Wk} {jobs:List JA} {ps:List Nat} {Wc Jc:Chunk} {jcs F:List Chunk} {K:Int} (hOw:OwnT encWk 200 5 (some ⟨wb,wo,none⟩) wn wk ws Wc) (hOj:OwnT encP 217 1 ja jn jk ps Jc) (hJs:Obs (JobA H) ps jobs jcs) (hJW:∀j∈jobs,JW K j) (x:Int) (hS:Sat W w ([(p, .cells #[.slice oa on ok, .slice (some ⟨wb,wo,none⟩) wn wk, .slice ja jn jk,I rd] 147 (0,0))]::Wc::Jc::jcs.flatten::H::F)):
  Calls prog 201 #[Pt p 0,I x] w fun e w'=>(¬(0<=x/\x<(jobs.length:Int))/\e= .returned (.pointer none)/\Sat W w' ([(p, .cells #[.slice oa on ok, .slice (some ⟨wb,wo,none⟩) wn wk, .slice ja jn jk,I rd] 147 (0,0))]::Wc::Jc::jcs.flatten::H::F))\/(∃q:Nat,(0<=x/\x<(jobs.length:Int))/\ps[x.toNat]?=some q/\e= .returned (Pt q 0)/\Sat W w' ([(p, .cells #[.slice oa on ok, .slice (some ⟨wb,wo,none⟩) wn wk, .slice ja jn jk,I rd] 147 (0,0))]::Wc::Jc::jcs.flatten::H::F)):=by
 have j0:=hOw.ll;have g0:=hOj.ll;have h0:=hJs.1
 exact callsK 23 func201 rfl<|jCO 11 rfl<|sD 7 (x<0) (fun b0=>jOR 18 rfl<|retT [.pointer none]<| .inl ⟨om,rfl,hS⟩) fun b0=>gOC hS 10 [0] rfl<|cD (x>=(jn:Int)) (fun c0=>jCR 7 rfl<|retT [.pointer none]<| .inl ⟨om,rfl,hS⟩) fun c0=>gCO hS 9 [0] rfl<|sIO hOj x (x).toNat fun a0 _ _ d0 e0 _=>sMp hS (e0.up 2 rfl) 0 (Pt a0 0)<|jOR 4 rfl<|retT [Pt a0 0]<| .inr ⟨_,om,d0,rfl,hS⟩
theorem am_runs {p wb wo:Nat} {H:Chunk} {oa ja:Option Addr} {on ok wn wk jn jk:Nat} {rd:Int} {ws:List Wk} {jobs:List JA} {ps:List Nat} {Wc Jc:Chunk} {jcs F:List Chunk} {K:Int} (hOw:OwnT encWk 200 5 (some ⟨wb,wo,none⟩) wn wk ws Wc) (hOj:OwnT encP 217 1 ja jn jk ps Jc) (hJs:Obs (JobA H) ps jobs jcs) (hJW:∀j∈jobs,JW K j) (x:Int) (hS:Sat W w ([(p, .cells #[.slice oa on ok, .slice (some ⟨wb,wo,none⟩) wn wk, .slice ja jn jk,I rd] 147 (0,0))]::Wc::Jc::jcs.flatten::H::F)):
  Calls prog 183 #[Pt p 0,I x] w fun e w'=>e= .returned (.bool (runsM jobs x))/\Sat W w' ([(p, .cells #[.slice oa on ok, .slice (some ⟨wb,wo,none⟩) wn wk, .slice ja jn jk,I rd] 147 (0,0))]::Wc::Jc::jcs.flatten::H::F):=by
 have q0:=hOw.ll;have n0:=hOj.ll;have o0:=hJs.1
 refine callsK 15 func183 rfl<|jCO 9 rfl ?_
 have f0:=(hS.picks [4,4,4,4,4])
 refine cZ (am_job hOw hOj hJs hJW x f0) ?_
 rintro _ _ (⟨a0,rfl,b0⟩|⟨_,a0,g0,rfl,b0⟩)
 ·exact jOR 15 rfl<|retT [.bool false]<|⟨rB (by unfold runsM;rw [decide_eq_false a0];rfl),b0⟩
 refine jOO 9 rfl<|gY ?_
 obtain ⟨h0,i0,d0,c0,j0⟩:=Obs.get hJs g0
 have k0:=(b0.pick 3 rfl)
 refine cZ (aj_run j0 (hJW _ (List.mem_of_getElem? d0)) (Sat.openN (A:=[]) (x.toNat) c0 k0)) ?_
 rintro _ _ ⟨rfl,m0⟩
 have e0:=Sat.shutN (d:=i0) (A:=[]) (x.toNat) c0 m0;rw [set_same c0] at e0
 exact jOR 5 rfl<|retT [.bool (runJ h0)]<|⟨rB (by unfold runsM;rw [decide_eq_true a0,getD_some d0];simp),(e0.picks [3,3,3])⟩
theorem aw_holds {wb wo:Nat} {wn wk:Nat} {ws:List Wk} {Wc:Chunk} {F:List Chunk} (hOw:OwnT encWk 200 5 (some ⟨wb,wo,none⟩) wn wk ws Wc) (k:Nat) (v:Wk) (hv:ws[k]?=some v) (hS:Sat W w (Wc::F)):
  Calls prog 184 #[.pointer (some ⟨wb,wo+k*5,none⟩)] w fun e w'=>e= .returned (.bool (decide (v.phase≠0/\v.phase≠4)))/\Sat W w' (Wc::F):=by
 have a0:=OwnT.ptr hOw rfl hv
 exact callsK 15 func184 rfl<|jCO 10 rfl<|sMp hS (a0.up 0 rfl) 0 (I v.phase)<|pu2<|sN 8 v.phase 0 (fun b0=>jOR 10 rfl<|retT [.bool false]<|⟨rB ((decide_eq_false om).symm),hS⟩) fun b0=>pu3<|gY<|sMp hS (a0.up 0 rfl) 0 (I v.phase)<|jOR 6 rfl<|retT [.bool ((v.phase:Int)!=4)]<|⟨rB (by rw [Bool.eq_iff_iff];simp only [decide_eq_true_eq,bne_iff_ne,ne_eq];omega),hS⟩
theorem am_busy {p wb wo:Nat} {H:Chunk} {oa ja:Option Addr} {on ok wn wk jn jk:Nat} {rd:Int} {ws:List Wk} {jobs:List JA} {ps:List Nat} {Wc Jc:Chunk} {jcs F:List Chunk} {K:Int} (hOw:OwnT encWk 200 5 (some ⟨wb,wo,none⟩) wn wk ws Wc) (hOj:OwnT encP 217 1 ja jn jk ps Jc) (hJs:Obs (JobA H) ps jobs jcs) (hJW:∀j∈jobs,JW K j) (k:Nat) (v:Wk) (hv:ws[k]?=some v) (hS:Sat W w ([(p, .cells #[.slice oa on ok, .slice (some ⟨wb,wo,none⟩) wn wk, .slice ja jn jk,I rd] 147 (0,0))]::Wc::Jc::jcs.flatten::H::F)):
  Calls prog 154 #[Pt p 0, .pointer (some ⟨wb,wo+k*5,none⟩)] w fun e w'=>e= .returned (.bool (busyM jobs v))/\Sat W w' ([(p, .cells #[.slice oa on ok, .slice (some ⟨wb,wo,none⟩) wn wk, .slice ja jn jk,I rd] 147 (0,0))]::Wc::Jc::jcs.flatten::H::F):=by
 have k0:=hOw.ll;have h0:=hOj.ll;have i0:=hJs.1
 have c0:=OwnT.ptr hOw rfl hv
 refine callsK 16 func154 rfl<|jCO 8 rfl ?_
 have d0:=(hS.pick 1 rfl)
 refine cZ (aw_holds hOw k v hv d0) ?_
 rintro _ _ ⟨rfl,a0⟩
 refine pu1<|SD 7 ((v.phase≠0/\v.phase≠4)) (fun b0=>jOR 12 rfl<|retT [.bool false]<|⟨rB (by unfold busyM;rw [decide_eq_false b0];rfl),(a0.pick 1 rfl)⟩) fun b0=>pu5<|gY<|sMp a0 (c0.up 0 rfl) 1 (I v.heldJob)<|gY ?_
 have f0:=(a0.picks [4,4,4,3,4])
 refine cZ (am_runs hOw hOj hJs hJW v.heldJob f0) ?_
 rintro _ _ ⟨rfl,g0⟩
 exact jOR 5 rfl<|retT [.bool (runsM jobs v.heldJob)]<|⟨rB (by unfold busyM;rw [decide_eq_true b0];simp),g0⟩
theorem am_another {p wb wo:Nat} {H:Chunk} {oa ja:Option Addr} {on ok wn wk jn jk:Nat} {rd:Int} {ws:List Wk} {jobs:List JA} {ps:List Nat} {Wc Jc:Chunk} {jcs F:List Chunk} {K:Int} (hOw:OwnT encWk 200 5 (some ⟨wb,wo,none⟩) wn wk ws Wc) (hOj:OwnT encP 217 1 ja jn jk ps Jc) (hJs:Obs (JobA H) ps jobs jcs) (hJW:∀j∈jobs,JW K j) (ev:Evt) (hS:Sat W w ([(p, .cells #[.slice oa on ok, .slice (some ⟨wb,wo,none⟩) wn wk, .slice ja jn jk,I rd] 147 (0,0))]::Wc::Jc::jcs.flatten::H::F)):
  Calls prog 153 #[Pt p 0, .agg (encEvt ev).toArray] w fun e w'=>e= .returned (.bool (anotherE ws.length ev))/\Sat W w' ([(p, .cells #[.slice oa on ok, .slice (some ⟨wb,wo,none⟩) wn wk, .slice ja jn jk,I rd] 147 (0,0))]::Wc::Jc::jcs.flatten::H::F):=by
 have k0:=hOw.ll;have g0:=hOj.ll;have i0:=hJs.1
 exact callsK 25 func153 rfl<|jCO 2 rfl<|sBx hS (encEvt ev) fun _ _ a0=>jOC 4 rfl<|bC ((ev.from_:Int)>=0) (fun b0=>drawF a0 [] (fb 1 0 2 1<|fn) [0,1,2,3,4,6,7,8,5,9,10,11,12,13,14,16,15,17,18,19,20] fun _ d0=>wV 1<|wL 0<|wV 2<|wFix 8 _ false (decide_eq_false b0)<|wV 17<|wN<|jXR 2 rfl<|retT [.bool false]<|⟨rB (by unfold anotherE;exact (decide_eq_false om).symm),(d0.dropAt 0 rfl)⟩) fun b0=>bC ((ev.from_:Int)<(wn:Int)) (fun c0=>drawF a0 [] (fb 1 0 2 1<|fb 5 0 2 1<|fb 9 1 1 1<|fn) [0,1,2,3,4,6,7,8,5,9,10,11,12,13,14,16,15,17,18,19,20] fun _ f0=>wV 1<|wL 0<|wV 2<|wFix 8 _ true (decide_eq_true b0)<|wV 4<|wL 1<|wL 2<|wV 4<|wFix 18 _ false (decide_eq_false c0)<|wV 7<|wN<|jXR 2 rfl<|retT [.bool false]<|⟨rB (by unfold anotherE;exact (decide_eq_false om).symm),(f0.dropAt 0 rfl)⟩) fun c0=>drawF a0 [] (fb 1 0 2 1<|fb 5 0 2 1<|fb 9 1 1 1<|fb 15 0 2 1<|fb 17 0 1 1<|fn) [0,1,2,3,4,6,7,8,5,9,10,11,12,13,14,16,15,17,18,19,20] fun _ h0=>wV 1<|wL 0<|wV 2<|wFix 8 _ true (decide_eq_true b0)<|wV 4<|wL 1<|wL 2<|wV 4<|wFix 18 _ true (decide_eq_true c0)<|wV 2<|wL 3<|wL 4<|wV 3<|wN<|jXR 2 rfl<|retT [.bool ((ev.from_:Int)!=ev.worker)]<|⟨rB (by unfold anotherE;exact (by rw [Bool.eq_iff_iff];simp only [decide_eq_true_eq,bne_iff_ne,ne_eq];omega)),(h0.dropAt 0 rfl)⟩
theorem am_any {p wb wo:Nat} {H:Chunk} {oa ja:Option Addr} {on ok wn wk jn jk:Nat} {rd:Int} {ws:List Wk} {jobs:List JA} {ps:List Nat} {Wc Jc:Chunk} {jcs F:List Chunk} {K:Int} (hOw:OwnT encWk 200 5 (some ⟨wb,wo,none⟩) wn wk ws Wc) (hOj:OwnT encP 217 1 ja jn jk ps Jc) (hJs:Obs (JobA H) ps jobs jcs) (hJW:∀j∈jobs,JW K j) (hS:Sat W w ([(p, .cells #[.slice oa on ok, .slice (some ⟨wb,wo,none⟩) wn wk, .slice ja jn jk,I rd] 147 (0,0))]::Wc::Jc::jcs.flatten::H::F)):
  Calls prog 159 #[Pt p 0] w fun e w'=>e= .returned (.bool (ws.any (busyM jobs)))/\Sat W w' ([(p, .cells #[.slice oa on ok, .slice (some ⟨wb,wo,none⟩) wn wk, .slice ja jn jk,I rd] 147 (0,0))]::Wc::Jc::jcs.flatten::H::F):=by
 have n0:=hOw.ll;have k0:=hOj.ll;have l0:=hJs.1
 refine callsK 21 func159 rfl<|gCC hS 17 [0] rfl<|loopF [0,8] (γ:=Nat) (fun i R=>⟨[(9,I (i:Int))],R,wn-i,i<=wn/\((ws.take i).any (busyM jobs)=false)⟩) 0 ⟨hS,om,rfl⟩ ?_
 rintro i ρ _ ⟨a0,hi,i0⟩
 refine jCC 6 rfl<|CD ((i:Int)<(wn:Int)) (fun f0=>jCR 11 rfl<|retT [.bool false]<|⟨rB (by rw [<-i0,List.take_of_length_le om]),a0⟩) fun f0=>gCO a0 18 [0] rfl<|sIO hOw (i:Int) i fun d0 _ _ b0 _ g0=>?_
 obtain ⟨rfl,rfl⟩:=some_addr g0
 have h0:=(a0.picks [4,4,4,4,4])
 refine cZ (am_busy hOw hOj hJs hJW i d0 b0 h0) ?_
 rintro _ _ ⟨rfl,e0⟩
 exact jOC 2 rfl<|cB (busyM jobs d0) (fun c0=>jCR 11 rfl<|retT [.bool true]<|⟨rB ((any_hit b0 c0).symm),e0⟩) fun c0=>jCO 4 rfl<|sAdd (i:Int) 1<|jOI 2 rfl<|⟨i+1,od,alB,e0,om,(any_take b0 i0 (Bool.eq_false_iff.2 c0))⟩
end Go.Proofs.YtkadmghedmodbaaGreat

namespace Go.Proofs.YtkadmghedmodbaaGreat
open Go.Shelf
def Tryz.laySort_ren:Go.Shelf.Ren:=⟨fun|53=>142|64=>181|63=>180|78=>199|79=>200|70=>190|71=>191|72=>192|73=>193|74=>194|75=>195|59=>196|76=>197|77=>198|88=>203|89=>204|90=>205|91=>206|92=>207|68=>208|96=>209|n=>n,fun|22=>22|23=>3|3=>3|51=>215|0=>0|67=>229|69=>231|4=>4|61=>222|60=>221|44=>64|5=>5|9=>9|75=>233|79=>73|83=>238|84=>239|n=>n,fun|n=>n⟩
theorem Tryz.laySort:Go.Proofs.SlLaysN.n53 Tryz.prog Tryz.laySort_ren:={
  mixed:=by kernel_rfl
  f53:=⟨Tryz.f142.name,by decide,Tryz.func142.trans (congrArg some (by kernel_rfl))⟩
  f59:=⟨Tryz.f196.name,by decide,Tryz.func196.trans (congrArg some (by kernel_rfl))⟩
  f63:=⟨Tryz.f180.name,by decide,Tryz.func180.trans (congrArg some (by kernel_rfl))⟩
  f64:=Tryz.func181.trans (congrArg some (by kernel_rfl))
  f68:=⟨Tryz.f208.name,by decide,Tryz.func208.trans (congrArg some (by kernel_rfl))⟩
  f70:=⟨Tryz.f190.name,by decide,Tryz.func190.trans (congrArg some (by kernel_rfl))⟩
  f71:=⟨Tryz.f191.name,by decide,Tryz.func191.trans (congrArg some (by kernel_rfl))⟩
  f72:=⟨Tryz.f192.name,by decide,Tryz.func192.trans (congrArg some (by kernel_rfl))⟩
  f73:=⟨Tryz.f193.name,by decide,Tryz.func193.trans (congrArg some (by kernel_rfl))⟩
  f74:=⟨Tryz.f194.name,by decide,Tryz.func194.trans (congrArg some (by kernel_rfl))⟩
  f75:=⟨Tryz.f195.name,by decide,Tryz.func195.trans (congrArg some (by kernel_rfl))⟩
  f76:=⟨Tryz.f197.name,by decide,Tryz.func197.trans (congrArg some (by kernel_rfl))⟩
  f77:=⟨Tryz.f198.name,by decide,Tryz.func198.trans (congrArg some (by kernel_rfl))⟩
  f78:=Tryz.func199.trans (congrArg some (by kernel_rfl))
  f79:=Tryz.func200.trans (congrArg some (by kernel_rfl))
  f88:=⟨Tryz.f203.name,by decide,Tryz.func203.trans (congrArg some (by kernel_rfl))⟩
  f89:=Tryz.func204.trans (congrArg some (by kernel_rfl))
  f90:=Tryz.func205.trans (congrArg some (by kernel_rfl))
  f91:=⟨Tryz.f206.name,by decide,Tryz.func206.trans (congrArg some (by kernel_rfl))⟩
  f92:=⟨Tryz.f207.name,by decide,Tryz.func207.trans (congrArg some (by kernel_rfl))⟩
  f96:=⟨Tryz.f209.name,by decide,Tryz.func209.trans (congrArg some (by kernel_rfl))⟩
  t0:=Tryz.underlying0
  a0:=Tryz.isAgg0
  z0:=Tryz.sizeOf0
  v0:=Tryz.zeroValue0
  t3:=Tryz.underlying3
  a3:=Tryz.isAgg3
  z3:=Tryz.sizeOf3
  v3:=Tryz.zeroValue3
  t4:=Tryz.underlying4
  a4:=Tryz.isAgg4
  z4:=Tryz.sizeOf4
  v4:=Tryz.zeroValue4
  t5:=Tryz.underlying5
  a5:=Tryz.isAgg5
  z5:=Tryz.sizeOf5
  v5:=Tryz.zeroValue5
  t9:=Tryz.underlying9
  a9:=Tryz.isAgg9
  z9:=Tryz.sizeOf9
  v9:=Tryz.zeroValue9
  t22:=Tryz.underlying22
  a22:=Tryz.isAgg22
  z22:=Tryz.sizeOf22
  v22:=Tryz.zeroValue22
  t23:=Tryz.underlying3
  a23:=Tryz.isAgg3
  z23:=Tryz.sizeOf3
  v23:=Tryz.zeroValue3
  t44:=Tryz.underlying64
  a44:=Tryz.isAgg64
  z44:=Tryz.sizeOf64
  v44:=Tryz.zeroValue64
  t51:=Tryz.underlying215
  a51:=Tryz.isAgg215
  z51:=Tryz.sizeOf215
  v51:=Tryz.zeroValue215
  t60:=Tryz.underlying221
  a60:=Tryz.isAgg221
  z60:=Tryz.sizeOf221
  v60:=Tryz.zeroValue221
  t61:=Tryz.underlying222
  a61:=Tryz.isAgg222
  z61:=Tryz.sizeOf222
  v61:=Tryz.zeroValue222
  t67:=Tryz.underlying229
  a67:=Tryz.isAgg229
  z67:=Tryz.sizeOf229
  v67:=Tryz.zeroValue229
  t69:=Tryz.underlying231
  a69:=Tryz.isAgg231
  z69:=Tryz.sizeOf231
  v69:=Tryz.zeroValue231
  t75:=Tryz.underlying233
  a75:=Tryz.isAgg233
  z75:=Tryz.sizeOf233
  v75:=Tryz.zeroValue233
  t79:=Tryz.underlying73
  a79:=Tryz.isAgg73
  z79:=Tryz.sizeOf73
  v79:=Tryz.zeroValue73
  t83:=Tryz.underlying238
  a83:=Tryz.isAgg238
  z83:=Tryz.sizeOf238
  v83:=Tryz.zeroValue238
  t84:=Tryz.underlying239
  a84:=Tryz.isAgg239
  z84:=Tryz.sizeOf239
  v84:=Tryz.zeroValue239}
end Go.Proofs.YtkadmghedmodbaaGreat
namespace Go.E
open Go.Shelf Go.RowKit Go.Sort Go.Proofs
set_option linter.unusedVariables false
set_option linter.unusedSimpArgs false
section
variable {P:Program} {ρ:Ren} {W w:World} {cs:List Chunk} {E:TypeId} {a:Option Addr} {n k:Nat} {xs:List Int} {c:Chunk}
theorem putCells_list {off:Nat} {zs:List Int} {cur:Array Value} (hf:off+zs.length<=cur.size):((putCells (Value.int .i64) off zs.toArray cur).toList.drop off).take zs.length=zs.flatMap Go.E.encI:=by
 have hm:∀l:List Int,l.flatMap Go.E.encI=l.map (Value.int .i64):=by
  intro l
  induction l with
  |nil=>rfl
  |cons x l ih=>rw [List.flatMap_cons,ih];rfl
 rw [hm]
 apply List.ext_getElem?
 intro j
 by_cases hj:j<zs.length
 ·rw [List.getElem?_take,if_pos hj,List.getElem?_drop]
  have a0:off+j<cur.size:=by omega
  simp only [putCells,Array.toList_mapIdx,List.getElem?_mapIdx,List.getElem?_map,Array.getElem?_toList]
  rw [Array.getElem?_eq_getElem a0,List.getElem?_eq_getElem hj]
  simp only [Option.map_some,Option.some.injEq]
  rw [if_pos (by constructor<;>simp<;>omega),show off+j-off=j by omega]
  simp [hj]
 ·rw [List.getElem?_take,if_neg hj,List.getElem?_eq_none (by simp;omega)]
theorem putCells_size {off:Nat} {zs:List Int} {cur:Array Value}:(putCells (Value.int .i64) off zs.toArray cur).size=cur.size:=by simp [putCells]
theorem sat_putRow {b off:Nat} {cur:Array Value} {q:Nat} {zs:List Int} {os:Array Obj} (hS:Sat W w ([(b, .cells cur E (0,0))]::cs)):
  Sat W (grow (putRow (Value.int .i64) (Go.Sort.ahead w q) b off zs.toArray) os) ([(b, .cells (putCells (Value.int .i64) off zs.toArray cur) E (0,0))]::cs):=by
 have hb:w.heap[b]?=some (.cells cur E (0,0)):=hS.heap (by simp)
 have b0:b<w.heap.size:=(Array.getElem?_eq_some_iff.1 hb).1
 refine ⟨hS.os,hS.tape,hS.output,hS.nd,?_⟩
 intro p hp
 have a0:∀j,j<w.heap.size->(grow (putRow (Value.int .i64) (Go.Sort.ahead w q) b off zs.toArray) os).heap[j]?=(w.heap.modify b (onCells (putCells (Value.int .i64) off zs.toArray)))[j]?:=(by intro j hj;rw [heap_grow_old _ _ (by rw [size_putRow];exact hj)];rfl)
 simp only [List.flatten_cons,List.cons_append,List.nil_append,List.mem_cons] at hp
 rcases hp with rfl|hp
 ·rw [a0 b b0,Array.getElem?_modify,if_pos rfl,hb];rfl
 · exact (by have h0:=hS.all p (by simp [hp]);have c0:p.1<w.heap.size:=(Array.getElem?_eq_some_iff.1 h0).1;have d0:b≠p.1:=(by intro e;have:=hS.nd;simp only [List.flatten_cons,List.cons_append,List.nil_append,List.map_cons,List.nodup_cons,List.mem_map,not_exists] at this;exact this.1 p ⟨hp,e.symm⟩);rw [a0 p.1 c0,Array.getElem?_modify,if_neg d0];exact h0)
theorem holds_of {b off:Nat} {cur:Array Value} {zs:List Int} (hS:Sat W w ([(b, .cells cur E (0,0))]::cs)) (h:(cur.toList.drop off).take zs.length=zs.flatMap Go.E.encI):Holds (Value.int .i64) w b off zs.toArray:=by
 have hb:w.heap[b]?=some (.cells cur E (0,0)):=hS.heap (by simp)
 have hm:∀l:List Int,l.flatMap Go.E.encI=l.map (Value.int .i64):=by
  intro l
  induction l with
  |nil=>rfl
  |cons x l ih=>rw [List.flatMap_cons,ih];rfl
 intro j hj
 have a0:j<zs.length:=by simpa using hj
 have b0:=congrArg (·[j]?) h
 simp only [hm,List.getElem?_take,if_pos a0,List.getElem?_drop,List.getElem?_map,List.getElem?_eq_getElem a0,Option.map_some] at b0
 constructor
 · exact (by simp only [World.cell?,hb,Option.isSome_none,Bool.false_eq_true,if_false];have:cur[off+j]?=some (Value.int .i64 zs[j]):=(by rw [<-Array.getElem?_toList];exact b0);rw [this];simp [a0])
 ·simp [World.frozen?,hb]
theorem own_sort (L:Go.Proofs.SlLaysN.n53 P ρ) (hO:OwnT Go.E.encI E 1 a n k xs c) (hS:Sat W w (c::cs)) (hn:n<4611686018427387904):
    Calls P (ρ.f 53) #[.slice a n k] w fun e w'=>∃c':Chunk,e= .returned (.tuple #[])/\OwnT Go.E.encI E 1 a n k (xs.mergeSort fun x y=>decide (x<=y)) c'/\Sat W w' (c'::cs):=by
  obtain ⟨h1,h2,h3,h4⟩:=hO
  by_cases h0:n=0
  · subst h0
    have hx:xs=[]:=List.eq_nil_of_length_eq_zero h1
    subst hx
    refine (AnyG.slices_Sort_int_none L a k w).mono ?_
    rintro e w' ⟨rfl,rfl⟩
    have e:([]:List Int).mergeSort (fun x y=>decide (x<=y))=[]:=List.eq_nil_of_length_eq_zero (List.length_mergeSort _)
    exact ⟨c,rfl,by rw [e];exact ⟨h1,h2,h3,h4⟩,hS⟩
  · rcases h4 with ⟨_,h5,_⟩|⟨b,off,cur,rfl,rfl,h5,h6,h7,h8⟩
    · exact absurd h5 h0
    · have hb:w.heap[b]?=some (.cells cur E (0,0)):=hS.heap (by simp)
      have hbl:b<w.heap.size:=(Array.getElem?_eq_some_iff.1 hb).1
      subst h1
      rw [Nat.mul_one] at h8 h7
      refine (AnyG.slices_Sort_int L b off k xs w (holds_of hS h8) hbl hn).mono ?_
      rintro e w' ⟨rfl,q,os,rfl⟩
      have hl:(xs.mergeSort fun x y=>decide (x<=y)).length=xs.length:=List.length_mergeSort _
      refine ⟨_,rfl,⟨hl,h2,by rw [flatMap_len h2,hl], .inr ⟨b,off,_,rfl,rfl,h5,h6,by rw [putCells_size,Nat.mul_one];exact h7,?_⟩⟩,sat_putRow hS⟩
      rw [Nat.mul_one,<-hl]
      exact putCells_list (by rw [hl];omega)
end
end Go.E
namespace Go.Proofs.YtkadmghedmodbaaGreat
open Go Go.E Go.Proofs.Tryz
set_option linter.all false
set_option maxRecDepth 100000
set_option maxHeartbeats 2000000
variable {W w:World} {H:Chunk} {F:List Chunk}
theorem pair_of {l:List Int} (h:∀(q:Nat) (u v:Int),l[q]?=some u->l[q+1]?=some v->u<=v):l.Pairwise fun a b=>decide (a<=b)=true:=by
 induction l with
 |nil=>exact List.Pairwise.nil
 |cons x l ih=>
  have h2:∀(q:Nat) (u v:Int),l[q]?=some u->l[q+1]?=some v->u<=v:=fun q u v a b=>h (q+1) u v (by simpa using a) (by simpa using b)
  have ih:=ih h2
  refine List.Pairwise.cons (fun y hy=>?_) ih
  have h0:∀y,l[0]?=some y->x<=y:=fun y hy=>h 0 x y rfl (by simpa using hy)
  cases l with
  |nil=>cases hy
  |cons z l=>
   have hz:=h0 z rfl
   rcases List.mem_cons.1 hy with rfl|hy
   ·exact decide_eq_true hz
   ·have:=of_decide_eq_true (List.rel_of_pairwise_cons ih hy);exact decide_eq_true om
theorem b_commit_g {p:Nat} {B:BS} {K:Int} {M:Chunk} (hB:BoardR p B M) (hW:BWf B K) (i:Int) (m:Int) (hS:Sat W w (M::H::F)):
  Calls prog 174 #[Pt p 0,I i,I m] w fun e w'=>∃(az:Option Addr) (nz kz:Nat) (Z M':Chunk),e= .returned (.tuple #[.slice az nz kz,I (heldC B i m)])/\RdT Go.E.encI 1 [Z] az nz kz ((comB B i m).2)/\BoardR p (comB B i m).1 M'/\Sat W w' (Z::M'::H::F):=by
 obtain ⟨a,n,k,es,c,G,rfl,hO,hD,hE⟩:=hB
 have hS:Sat W _ ([(p, .cells #[.slice a n k,I (doneOf B)] 172 (0,0))]::c::G::H::F):=Sat.perm hS (by simp)
 have e1:=hO.ll;have b1:=entsOf_len hE;have n1:=hW.ls;have z1:=hW.la;have A1:=hW.n0
 refine callsK 72 func174 rfl<|jCO 11 rfl ?_
 have w0:=(hS.picks [1,1])
 refine cZ (b_held hO i m w0) ?_
 rintro _ _ ⟨g0,(⟨m0,rfl⟩|⟨m0,b0,d0,x0,rfl⟩|⟨m0,b0,_,_,rfl,d0,h0,x0⟩)⟩
 · exact jOR 24 rfl<|retT [nS,I 16]<|(by have W0:¬inB B i:=(by unfold inB;omega);have he:heldC B i m=16:=(by unfold heldC;rw [if_neg W0]);have hr:comB B i m=(B,[]):=(by unfold comB;rw [he,if_neg (by decide)]);have y0:Sat W _ (([]:Chunk)::([(p, .cells #[.slice a n k,I (doneOf B)] 172 (0,0))]++(c++G))::H::F):=Sat.perm g0 (by simp);exact ⟨_,_,_,[],_,by rw [he];rfl,by rw [hr];exact rN,by rw [hr];exact ⟨_,_,_,es,c,G,rfl,hO,hD,hE⟩,y0⟩)
 · exact jOR 24 rfl<|retT [nS,I 20]<|(by have M0:=entAt hE d0;have N0:inB B i:=(by unfold inB;omega);have he:heldC B i m=20:=(by unfold heldC;rw [if_pos N0,if_neg (by rw [stAt_nat _ om];omega)]);have hr:comB B i m=(B,[]):=(by unfold comB;rw [he,if_neg (by decide)]);have z0:Sat W _ (([]:Chunk)::([(p, .cells #[.slice a n k,I (doneOf B)] 172 (0,0))]++(c++G))::H::F):=Sat.perm g0 (by simp);exact ⟨_,_,_,[],_,by rw [he];rfl,by rw [hr];exact rN,by rw [hr];exact ⟨_,_,_,es,c,G,rfl,hO,hD,hE⟩,z0⟩)
 have c2:=OwnT.ptr hO h0 d0
 refine jOC 18 rfl ?_
 have M0:=entAt hE d0;have N0:inB B i:=by unfold inB;omega
 have A0:B.st.getD i.toNat 0=3:=by omega
 have G0:i.toNat<B.deps.length:=by omega
 have D0:=hD b0 (List.mem_of_getElem? d0);have B1:=D0.next.ll
 have L0:=nx_asc (i:=(i.toNat:Int)) (D:=B.deps) (k:=0) (a:=-1) om;have P0:=asc_len om L0;rw [Nat.zero_add] at L0 P0
 have Z0:0<=doneOf B/\doneOf B<=4096:=by unfold doneOf;have:=List.length_filter_le (fun x=>decide (x=(4:Int))) B.st;omega
 refine jCO 4 rfl<|sStF g0 hO h0 1 i.toNat 0 b0 (⟨4,b0.attempt,b0.pending,b0.next⟩:BEnt) d0 (I 4) [I 4] sizeOf3 fun _ a1 o0 p0=>gOO p0 8 [0] rfl<|sAdd (doneOf B) 1<|pu2<|sT p0 0 1 (I ((doneOf B)+1)) [I ((doneOf B)+1)] #[.slice a n k,I ((doneOf B)+1)] sizeOf3 fun _ q0=>jOO 13 rfl<|sMp q0 ((OwnT.ptr o0 h0 (set_at (y:=(⟨4,b0.attempt,b0.pending,b0.next⟩:BEnt)) d0)).up 1 rfl) 3 (.slice b0.next.a b0.next.n b0.next.k)<|jOC 5 rfl<|loopF [37,38,0] (γ:=Nat×(List BEnt)×Chunk×(List Int)×SO) (fun ⟨j,B0,c1,zs,az,nz,kz,cz⟩ R=>⟨[(39,I (j:Int)),(10, .slice az nz kz)],cz::[(p, .cells #[.slice a n k,I (doneOf B+1)] 172 (0,0))]::c1::R,b0.next.n-j,j<=b0.next.n/\OwnT encBEnt 175 4 a n k B0 c1/\(∀z∈B0,BEnt.Ok [G] z)/\B0.map BEnt.v=(List.range B.deps.length).map (entC B (B.st.set i.toNat 4) ((nextOf 0 B.deps i.toNat).take j))/\OwnT Go.E.encI 3 1 az nz kz zs cz/\zs=((nextOf 0 B.deps i.toNat).take j).filter (fun z=>decide (pendOf (B.st.set i.toNat 4) (B.deps.getD z.toNat [])=0))⟩) (0,(es.set i.toNat (⟨4,b0.attempt,b0.pending,b0.next⟩:BEnt)),a1,[],none,0,0,[]) ⟨(Sat.nilc q0),om,o0,(ok_set hD d0 rfl),(com_start hW hE d0 rfl rfl rfl rfl),OwnT.nil fR,(by simp)⟩ ?_
 rintro ⟨j,B0,c1,zs,az,nz,kz,cz⟩ ρ _ ⟨f0,hj,H0,K0,F0,C0,hz⟩
 refine jCC 6 rfl<|CD ((j:Int)<(b0.next.n:Int)) (fun f1=>jCC 6 rfl<|(by have O0:=C0.len;have V0:=C0.le;have X0:zs.length<=4096:=(by rw [hz];have h1:=List.length_filter_le (fun z=>decide (pendOf (B.st.set i.toNat 4) (B.deps.getD z.toNat [])=0)) ((nextOf 0 B.deps i.toNat).take j);simp only [List.length_take] at h1;omega);refine jCO 2 rfl ?_;have J0:(zs.mergeSort fun x y=>decide (x<=y))=zs:=List.mergeSort_of_pairwise (pair_of (by rw [hz];exact asc_sorted (asc_filter (Int.le_refl _) (asc_pre (m:=(nextOf 0 B.deps i.toNat).drop j) (by rw [List.take_append_drop];exact L0)))));refine cZ (Go.E.own_sort Tryz.laySort C0 f0 om) ?_;rintro _ _ ⟨i0,rfl,g1,i1⟩;refine jOR 10 rfl<|retT [.slice az nz kz,I 0] ?_;have he:heldC B i m=0:=(by unfold heldC;rw [if_pos N0,if_pos (by rw [stAt_nat _ om];omega)]);have hr:comB B i m=(⟨B.deps,markB (B.st.set i.toNat 4) B.deps,B.att⟩,rdyB (B.st.set i.toNat 4) B.deps):=(by unfold comB;rw [if_pos he]);have I0:(nextOf 0 B.deps i.toNat).take j=(nextOf 0 B.deps i.toNat):=List.take_of_length_le (by rw [<-M0.2.2.2.2];omega);rw [I0] at F0 hz;rw [com_rdy hW G0 A0] at hz;have S0:=com_ents hW G0 A0 F0;have j1:Sat W _ (i0::([(p, .cells #[.slice a n k,I (doneOf B+1)] 172 (0,0))]++(c1++G))::H::F):=Sat.perm i1 (by simp);have R0:=g1.rdAt (cs:=[i0]) 0 rfl;rw [J0,hz] at R0;exact ⟨_,_,_,i0,_,by rw [he];rfl,by rw [hr];exact R0,by rw [hr];exact ⟨_,_,_,B0,c1,G,by rw [com_done hW G0 A0],H0,K0,S0⟩,j1⟩)) fun f1=>?_
 refine jCO 6 rfl<|sIN D0.next j fun c0 _ _ r0 k1=>sMp f0 (k1.up 3 rfl) 0 (I c0)<|jOC 4 rfl ?_
 have E0:=r0;rw [M0.2.2.2.2] at E0
 have F1:=asc_mem L0 c0 (List.mem_of_getElem? E0)
 have Q0:=congrArg List.length F0;simp only [List.length_map,List.length_range] at Q0
 have U0:=H0.ll;have V0:=C0.le;have O0:=C0.len
 have Y0:zs.length<=4096:=by rw [hz];have h1:=List.length_filter_le (fun z=>decide (pendOf (B.st.set i.toNat 4) (B.deps.getD z.toNat [])=0)) ((nextOf 0 B.deps i.toNat).take j);simp only [List.length_take] at h1;omega
 exact gCO f0 6 [1] rfl<|sIO H0 c0 (c0).toNat fun a0 _ _ e0 l1 j0=>jOC 4 rfl<|(by have E1:=pend_get hW G0 A0 F0 E0 e0;have D1:=(K0 a0 (List.mem_of_getElem? e0)).next;exact jCO 4 rfl<|sMp f0 (l1.up 2 rfl) 2 (I a0.pending)<|sSub a0.pending 1<|pu2<|sStF f0 H0 j0 2 (c0).toNat 2 a0 (⟨a0.state,a0.attempt,(a0.pending-1),a0.next⟩:BEnt) e0 (I (a0.pending-1)) [I (a0.pending-1)] sizeOf3 fun _ m1 k0 l0=>jOO 7 rfl<|(by have s0:=set_at (y:=(⟨a0.state,a0.attempt,(a0.pending-1),a0.next⟩:BEnt)) e0;exact sMp l0 ((OwnT.ptr k0 j0 s0).up 2 rfl) 2 (I (a0.pending-1))<|jOC 3 rfl<|CE (a0.pending-1) 0 (fun o1=>jCO 4 rfl<|sAdd (j:Int) 1<|jOI 2 rfl<|(by have t0:=com_step (y':=(⟨a0.state,a0.attempt,(a0.pending-1),a0.next⟩:BEnt)) hW G0 A0 F0 E0 e0 rfl rfl rfl (by dsimp only;rw [if_neg om]);exact ⟨(j+1,(B0.set ((c0).toNat) (⟨a0.state,a0.attempt,(a0.pending-1),a0.next⟩:BEnt)),m1,zs,az,nz,kz,cz),od,alB,l0,om,k0,(ok_set K0 e0 rfl),t0.1,C0,(by rw [take_succ_at E0,List.filter_append,<-hz];simp only [List.filter_cons,List.filter_nil,t0.2];rw [if_neg (by simp;omega)];simp)⟩)) fun o1=>jCO 5 rfl<|sStF l0 k0 j0 2 (c0).toNat 0 (⟨a0.state,a0.attempt,(a0.pending-1),a0.next⟩:BEnt) (⟨2,a0.attempt,(a0.pending-1),a0.next⟩:BEnt) s0 (I 2) [I 2] sizeOf3 fun _ q1 u0 r1=>(by rw [List.set_set] at u0;exact jOO 5 rfl<|sBK r1 #[I c0] 3 fun _ _ s1=>sApp (nb:=8) s1 C0 1 (RdT.blk (enc:=Go.E.encI) (sz:=1) (xs:=[c0]) fR 1 0 rfl rfl rfl om) underlying22 (i:=Tryz.t3) kr fR fun t1 u1 v1 _ w1 x1=>jOO 5 rfl<|sAdd (j:Int) 1<|jOI 2 rfl<|(by have y1:=(x1.dropAt 0 rfl);have v0:=com_step (y':=(⟨2,a0.attempt,(a0.pending-1),a0.next⟩:BEnt)) hW G0 A0 F0 E0 e0 rfl rfl rfl (by dsimp only;rw [if_pos om]);exact ⟨(j+1,(B0.set ((c0).toNat) (⟨2,a0.attempt,(a0.pending-1),a0.next⟩:BEnt)),q1,(zs++[c0]),t1,(nz+1),u1,v1),od,alB,y1,om,u0,(ok_set K0 e0 rfl),v0.1,w1,(by rw [take_succ_at E0,List.filter_append,<-hz];simp only [List.filter_cons,List.filter_nil,v0.2];rw [if_pos (by simp;omega)])⟩))))
end Go.Proofs.YtkadmghedmodbaaGreat
