import Derived.Test.YtkadmghedmodbaaGreatR2P1Pf5
set_option linter.all false
namespace Go.Proofs.YtkadmghedmodbaaGreat
open Go Go.E Go.Proofs.Tryz
set_option linter.all false
set_option maxRecDepth 100000
set_option maxHeartbeats 2000000
variable {W w:World} {H:Chunk} {F:List Chunk}
structure TL where
  l:Sl Task
def encTL (x:TL):List Value:=[.slice x.l.a x.l.n x.l.k]
structure TLV where
  l:List TaskV
  deriving DecidableEq
def TL.v (x:TL):TLV:=⟨x.l.l.map Task.v⟩
structure TL.Ok (cs:List Chunk) (q:TL):Prop where
  l:RdT encTask 9 cs q.l.a q.l.n q.l.k q.l.l
  lD:∀z∈q.l.l,Task.Ok cs z
theorem TL.Ok.of_mem {cs cs':List Chunk} {x:TL} (h:TL.Ok cs x) (hm:∀p∈cs.flatten,p∈cs'.flatten):TL.Ok cs' x:=⟨h.l.of_mem hm,fun y hy=>(h.lD y hy).of_mem hm⟩
theorem tg_config {p:Nat} {a:Option Addr} {n k:Nat} {i:Int} {xs:List Int} (hR:RdT Go.E.encI 1 [H] a n k xs) (hi:0<=i/\i<=n) (hS:Sat W w ([(p, .cells #[.slice a n k,I i] 72 (0,0))]::H::F)):
  Calls prog 12 #[Pt p 0] w fun e w'=>∃(c:Cfg),e= .returned (.agg (encCfg c).toArray)/\(validCfg c=0)/\(c.workers<=4)/\∃i':Int,(0<=i'/\i'<=n)/\Sat W w' ([(p, .cells #[.slice a n k,I i'] 72 (0,0))]::H::F):=by
 have q0:=hR.le
 refine callsK 28 func12 rfl<|jCO 2 rfl<|sAlloc hS zeroValue24 fun _ _ j0=>jOO 5 rfl ?_
 have k0:=(j0.pick 1 rfl)
 refine cZ (tape_next (hR.fl 1) om k0.flat1 4 om) ?_
 rintro _ _ ⟨f0,rfl,_,_,_,l0⟩
 have m0:=l0.unflat1
 refine sAdd 1 f0<|pu1<|cZ (tape_next (hR.fl 1) om m0.flat1 4 om) ?_
 rintro _ _ ⟨g0,rfl,_,_,_,n0⟩
 have o0:=n0.unflat1
 refine sAdd 1 g0<|pu1<|cZ (tape_next (hR.fl 1) om o0.flat1 4 om) ?_
 rintro _ _ ⟨h0,rfl,_,_,_,p0⟩
 refine sAdd 1 h0<|pu1<|sBK p0.unflat1 #[I 4096,I 65536,I 512] 3 fun _ _ r0=>?_
 have s0:=(r0.pick 1 rfl)
 refine cZ (tape_pick (hR.fl 2) om s0.flat1 (RdT.flat (RdT.blk (enc:=Go.E.encI) (sz:=1) (xs:=[4096,65536,512]) (fun _=>(by rfl)) 3 0 rfl rfl rfl om)) om om) ?_
 rintro _ _ ⟨a0,rfl,t0,_,_,u0⟩
 have v0:=u0.unflat1
 have l2:(a0:Int)=4096\/(a0:Int)=65536\/(a0:Int)=512:=by simpa using t0
 refine pu1<|sBK v0 #[I 1,I 2,I 8] 3 fun _ _ w0=>?_
 have x0:=(w0.pick 1 rfl)
 refine cZ (tape_pick (hR.fl 3) om x0.flat1 (RdT.flat (RdT.blk (enc:=Go.E.encI) (sz:=1) (xs:=[1,2,8]) (fun _=>(by rfl)) 3 0 rfl rfl rfl om)) om om) ?_
 rintro _ _ ⟨b0,rfl,y0,_,_,z0⟩
 have a1:=z0.unflat1
 have s2:(b0:Int)=1\/(b0:Int)=2\/(b0:Int)=8:=by simpa using y0
 refine pu1<|sBK a1 #[I 512,I 4096,I 60] 3 fun _ _ b1=>?_
 have c1:=(b1.pick 1 rfl)
 refine cZ (tape_pick (hR.fl 4) om c1.flat1 (RdT.flat (RdT.blk (enc:=Go.E.encI) (sz:=1) (xs:=[512,4096,60]) (fun _=>(by rfl)) 3 0 rfl rfl rfl om)) om om) ?_
 rintro _ _ ⟨c0,rfl,d1,_,_,e1⟩
 have f1:=e1.unflat1
 have y2:(c0:Int)=512\/(c0:Int)=4096\/(c0:Int)=60:=by simpa using d1
 refine pu1<|sBK f1 #[I 20000,I 500] 3 fun _ _ g1=>?_
 have h1:=(g1.pick 1 rfl)
 refine cZ (tape_pick (hR.fl 5) om h1.flat1 (RdT.flat (RdT.blk (enc:=Go.E.encI) (sz:=1) (xs:=[20000,500]) (fun _=>(by rfl)) 2 0 rfl rfl rfl om)) om om) ?_
 rintro _ _ ⟨e0,rfl,i1,_,_,j1⟩
 have k1:=j1.unflat1
 have e3:(e0:Int)=20000\/(e0:Int)=500:=by simpa using i1
 refine pu1<|sBK k1 #[I 8,I 64,I 2] 3 fun _ _ l1=>?_
 have m1:=(l1.pick 1 rfl)
 refine cZ (tape_pick (hR.fl 6) om m1.flat1 (RdT.flat (RdT.blk (enc:=Go.E.encI) (sz:=1) (xs:=[8,64,2]) (fun _=>(by rfl)) 3 0 rfl rfl rfl om)) om om) ?_
 rintro _ _ ⟨d0,rfl,n1,_,_,o1⟩
 have q1:=o1.unflat1
 have k3:(d0:Int)=8\/(d0:Int)=64\/(d0:Int)=2:=by simpa using n1
 refine pu1<|sTk q1 6 rfl [I (1+f0),I (1+g0),I (1+h0),I a0,I b0,I c0,I e0,I d0] fun _ i0=>jOR 3 rfl<|retN (vs:=[.agg #[I (1+f0),I (1+g0),I (1+h0),I a0,I b0,I c0,I e0,I d0]]) rfl (.cons (.cell _ _ _ _ kr (lvA i0 6 0 [I (1+f0),I (1+g0),I (1+h0),I a0,I b0,I c0,I e0,I d0] (isAgg24 _) (sizeOf24 _) rfl rfl rfl)) .nil) ?_
 have hv:validCfg (⟨(1+f0),(1+g0),(1+h0),a0,b0,c0,e0,d0⟩:Cfg)=0:=by unfold validCfg;rw [if_pos (by dsimp only;omega)]
 exact ⟨_,rfl,hv,by dsimp only;omega,_,om,(i0.drops [1,1,1,1,1,1])⟩
inductive Tr (c:Cfg):Nat->List (List Task)->List Evt->FS->Prop
  |nil:Tr c 0 [] [] (newF c)
  |add {K:Nat} {js:List (List Task)} {es:List Evt} {F:FS} (l:List Task) (bd:Int):Tr c K js es F->js.length<4->0<=bd/\bd<4->validC l=0->l.length<=5->(∀z∈l,z.scratch<=512)->
      Tr c (K+1) (js++[l]) (es++[⟨1,0,0,((js.length:Nat):Int),0,0,0⟩]) (addF F ((js.length:Nat):Int) l bd)
  |cancel {K:Nat} {js:List (List Task)} {es:List Evt} {F:FS} (k:Int):Tr c K js es F->Tr c (K+1) js (es++(cancelF F k).2.1) (cancelF F k).1
  |crash {K:Nat} {js:List (List Task)} {es:List Evt} {F:FS} (x:Int):Tr c K js es F->Tr c (K+1) js (es++(crashF F x).2.1) (crashF F x).1
  |restart {K:Nat} {js:List (List Task)} {es:List Evt} {F:FS} (x:Int):Tr c K js es F->Tr c (K+1) js (es++(restartF F x).2.1) (restartF F x).1
  |step {K:Nat} {js:List (List Task)} {es:List Evt} {F:FS} (x y:Int):Tr c K js es F->Tr c (K+1) js (es++(stepF F x y).2.1) (stepF F x y).1
def Same (F G:FS):Prop:=G.cfg=F.cfg/\G.ws.length=F.ws.length
theorem Same.take {F:FS} {x:Int} {r:Ref}:Same F (takeF F x r):=⟨rfl,by simp [takeF]⟩
theorem Same.trans {F G H:FS} (h:Same F G) (k:Same G H):Same F H:=⟨k.1.trans h.1,k.2.trans h.2⟩
theorem spill_same {x job band:Int}:∀(l:List Int) {F:FS},Same F (spillF F x job band l)
  |[],_=>⟨rfl,rfl⟩
  |t::l,F=>by
    have h:Same F (spill1 F x ⟨job,t⟩ band):=by unfold spill1;split<;>exact ⟨rfl,rfl⟩
    exact h.trans (spill_same l)
theorem micro_same {F:FS} {x:Int}:Same F (microF F x).1:=by
  unfold microF
  simp only
  split
  · exact ⟨rfl,by simp⟩
  · split
    · exact ⟨rfl,by simp⟩
    · split<;>exact ⟨(spill_same _).1,(spill_same _).2.trans (by simp)⟩
theorem acq_same {F F':FS} {x c:Int} {ev:Evt} (he:acqF F x c=some (F',ev)):Same F F':=by
  unfold acqF at he
  split at he
  · obtain ⟨rfl,_⟩:=Prod.mk.inj (Option.some.inj he);exact Same.take (F:=popF F x _)
  · split at he
    · obtain ⟨rfl,_⟩:=Prod.mk.inj (Option.some.inj he);exact ⟨rfl,by simp [takeF]⟩
    · unfold stealF at he
      split at he
      · cases he
      · split at he
        · cases he
        · obtain ⟨rfl,_⟩:=Prod.mk.inj (Option.some.inj he);exact ⟨rfl,by simp [takeF,popF]⟩
theorem step_same {F:FS} {x c:Int}:Same F (stepF F x c).1:=by
  unfold stepF
  split
  · exact ⟨rfl,rfl⟩
  · split
    · exact ⟨rfl,rfl⟩
    · split
      · split
        · exact micro_same
        · exact ⟨rfl,by simp [dropF,clearF]⟩
      · unfold restF
        split
        · rename_i q hq;exact acq_same (ev:=q.2) hq
        · split
          · exact Same.trans (G:=helpF F) ⟨rfl,rfl⟩ micro_same
          · exact ⟨rfl,rfl⟩
theorem crash_same {F:FS} {x:Int}:Same F (crashF F x).1:=by
  unfold crashF
  split
  · exact ⟨rfl,rfl⟩
  · split
    · exact ⟨rfl,rfl⟩
    · exact (by have h:Same F (retJ F (wAt F x)):=(by unfold retJ;split<;>exact ⟨rfl,rfl⟩);exact h.trans ⟨rfl,by simp [crashW,clearF,popF]⟩)
theorem restart_same {F:FS} {x:Int}:Same F (restartF F x).1:=by
  unfold restartF
  split
  · exact ⟨rfl,rfl⟩
  · split
    · exact ⟨rfl,by simp [idleF]⟩
    · exact ⟨rfl,rfl⟩
theorem cancel_same {F:FS} {k:Int}:Same F (cancelF F k).1:=by
  unfold cancelF
  split
  · exact ⟨rfl,rfl⟩
  · split<;>exact ⟨rfl,rfl⟩
def totS (S:List (Bool×Nat)):Nat:=(S.map fun q=>if q.1 then q.2 else 0).sum
theorem load_le:∀{l:List JS},(∀j∈l,j.running=true->j.added=true)->loadL l<=((totS (shapeF l):Nat):Int)
  |[],_=>by simp [loadL,totS,shapeF]
  |j::l,h=>by
    have ih:=load_le (l:=l) (fun y hy=>h y (List.mem_cons_of_mem _ hy))
    have h1:=h j List.mem_cons_self
    simp only [loadL,totS,shapeF,List.map_cons,List.filter_cons,List.sum_cons] at ih⊢
    cases hr:j.running
    · simp only [Bool.false_eq_true,if_false];split<;>omega
    · simp only [if_true,h1 hr,List.map_cons,List.sum_cons];omega
theorem tot_set:∀{S:List (Bool×Nat)} {k m n:Nat},S[k]?=some (false,m)->totS (S.set k (true,n))=totS S+n
  |[],_,_,_,h=>by cases h
  |q::S,0,m,n,h=>by
    simp only [List.getElem?_cons_zero,Option.some.injEq] at h
    subst h;simp [totS];omega
  |q::S,k+1,m,n,h=>by
    have ih:=tot_set (S:=S) (k:=k) (m:=m) (n:=n) (by simpa using h)
    simp only [totS,List.set_cons_succ,List.map_cons,List.sum_cons] at ih⊢;omega
structure RecI (c:Cfg) (F:FS) (nj:Nat) (K:Int):Prop where
  fw:FW F K
  st:StOk F.st K
  cf:F.cfg=c
  ws:F.ws.length=c.workers.toNat
  s1:∀k,nj<=k->k<64->∃m,(shapeF F.jobs)[k]?=some (false,m)
  s2:totS (shapeF F.jobs)<=5*nj
  n4:nj<=4
theorem RecI.op {c:Cfg} {F G:FS} {nj:Nat} {K:Int} (h:RecI c F nj K) (ok:FW G (K+1)/\StOk G.st (K+1)/\shapeF G.jobs=shapeF F.jobs) (hs:Same F G):RecI c G nj (K+1):=
  ⟨ok.1,ok.2.1,hs.1.trans h.cf,hs.2.trans h.ws,by rw [ok.2.2];exact h.s1,by rw [ok.2.2];exact h.s2,h.n4⟩
theorem Tr.inv {c:Cfg} {K:Nat} {js:List (List Task)} {es:List Evt} {F:FS} (hv:validCfg c=0) (h:Tr c K js es F):K<=4000->RecI c F js.length (K:Int):=by
 induction h with
 |nil=>
  intro _
  obtain ⟨h1,h2⟩:=newF_ok hv
  refine ⟨h1,h2,rfl,by simp [newF],?_,?_,by simp⟩
  · exact (by intro k _ hk;exact ⟨0,by simp only [newF,shapeF,List.map_replicate,List.getElem?_replicate,if_pos hk];rfl⟩)
  ·simp only [newF,shapeF,List.map_replicate,totS];simp [JS.zero]
 |@add K js es F l bd _ h4 hb hl h5 hs ih=>
  intro hK
  have i:=ih om
  obtain ⟨m,hm⟩:=i.s1 js.length (Nat.le_refl _) om
  have hj:∀j,F.jobs[(js.length:Int).toNat]?=some j->j.added=false:=(by intro j hj;rw [Int.toNat_natCast] at hj;unfold shapeF at hm;rw [List.getElem?_map,hj] at hm;exact (Prod.mk.inj (Option.some.inj hm)).1)
  have a:=add_ok (x:=(js.length:Int)) (bd:=bd) (l:=l) i.fw om hj hb hl
  have e:shapeF (addF F (js.length:Int) l bd).jobs=(shapeF F.jobs).set js.length (true,l.length):=(by simp only [addF,shapeF,List.map_set,Int.toNat_natCast,jobN,List.length_map])
  refine ⟨a.mono om om,i.st.mono om,i.cf,i.ws,?_,?_,by simp;omega⟩
  · exact (by intro k h1 h2;rw [List.length_append,List.length_singleton] at h1;obtain ⟨m2,a0⟩:=i.s1 k om h2;exact ⟨m2,by rw [e,List.getElem?_set,if_neg om];exact a0⟩)
  ·rw [e,tot_set hm,List.length_append,List.length_singleton];have:=i.s2;omega
 |cancel k _ ih=>intro hK;exact (ih om).op (by have:=ih om;exact cancel_ok this.fw this.st om) cancel_same
 |crash x _ ih=>intro hK;exact (ih om).op (by have:=ih om;exact crash_ok this.fw this.st om) crash_same
 |restart x _ ih=>intro hK;exact (ih om).op (by have:=ih om;exact restart_ok this.fw this.st om) restart_same
 |step x y _ ih=>intro hK;exact (ih om).op (by have:=ih om;exact step_ok this.fw this.st om) step_same
theorem RecI.fresh {c:Cfg} {F:FS} {nj:Nat} {K:Int} (h:RecI c F nj K) (hn:nj<4):∃j,F.jobs[(nj:Int).toNat]?=some j/\j.added=false:=by
  obtain ⟨m,hm⟩:=h.s1 nj (Nat.le_refl _) (by omega)
  rw [Int.toNat_natCast]
  unfold shapeF at hm;rw [List.getElem?_map] at hm
  cases hj:F.jobs[nj]? with
  |none=>rw [hj] at hm;cases hm
  |some j=>rw [hj] at hm;exact ⟨j,rfl,(Prod.mk.inj (Option.some.inj hm)).1⟩
theorem RecI.load {c:Cfg} {F:FS} {nj:Nat} {K:Int} (h:RecI c F nj K):loadL F.jobs<=20:=by
  have h1:=load_le (l:=F.jobs) (fun j hj=>(h.fw.j j hj).r)
  have h2:=h.s2
  have h3:=h.n4
  omega
theorem cancel_len {F:FS} {k:Int}:(cancelF F k).2.1.length<=1:=by unfold cancelF;split;exact Nat.zero_le _;split<;>simp
theorem restart_len {F:FS} {x:Int}:(restartF F x).2.1.length<=1:=by unfold restartF;split;exact Nat.zero_le _;split<;>simp
theorem crash_len {F:FS} {x:Int}:(crashF F x).2.1.length<=1:=by unfold crashF;split;exact Nat.zero_le _;split<;>simp
theorem step_len {F:FS} {x c:Int}:(stepF F x c).2.1.length<=2:=by
  unfold stepF
  split
  · exact Nat.zero_le _
  · split
    · exact Nat.zero_le _
    · split
      · split<;>simp
      · unfold restF;split;simp;split<;>simp
end Go.Proofs.YtkadmghedmodbaaGreat

namespace Go.Proofs.YtkadmghedmodbaaGreat
open Go Go.E Go.Proofs.Tryz
set_option linter.all false
set_option maxRecDepth 100000
set_option maxHeartbeats 2000000
variable {W w:World} {H:Chunk} {F:List Chunk}
structure Wk where
  phase:Int
  heldJob:Int
  heldTask:Int
  attempt:Int
  row:Int
  deriving DecidableEq
def encWk (x:Wk):List Value:=[.int .i64 x.phase, .int .i64 x.heldJob, .int .i64 x.heldTask, .int .i64 x.attempt, .int .i64 x.row]
structure JA where
  T:List Task
  B:Option BS
  x:Bool
instance:Inhabited JA:=⟨⟨[],none,false⟩⟩
instance:Inhabited Wk:=⟨⟨0,0,0,0,0⟩⟩
structure MS where
  ws:List Wk
  jobs:List JA
  rd:Int
def JobA (H:Chunk) (p:Nat) (s:JA) (c:Chunk):Prop:=∃(ta:Option Addr) (tn tk:Nat) (b:Option Addr) (M:Chunk),
  c=[(p, .cells #[.slice ta tn tk, .pointer b, .bool s.x] 219 (0,0))]++M/\RdT encTask 9 [H] ta tn tk s.T/\(∀z∈s.T,Task.Ok [H] z)/\
  ((s.B=none/\b=none/\M=[])\/(∃(B:BS) (q:Nat),s.B=some B/\b=some ⟨q,0,none⟩/\BoardR q B M))
def runJ (s:JA):Bool:=!s.x&&(match s.B with|none=>false|some B=>decide (doneOf B<((B.deps.length:Nat):Int)))
def runsM (jobs:List JA) (n:Int):Bool:=decide (0<=n/\n<((jobs.length:Nat):Int))&&runJ (jobs.getD n.toNat default)
def busyM (jobs:List JA) (v:Wk):Bool:=decide (v.phase≠0/\v.phase≠4)&&runsM jobs v.heldJob
def JW (K:Int) (j:JA):Prop:=∀B,j.B=some B->BWf B K/\B.deps.length=j.T.length
def namedE (e:Evt):Evt:=
  if e.kind=1 then ⟨e.kind,0,0,e.job,0,0,e.err⟩ else if e.kind=2 then ⟨e.kind,0,0,e.job,0,0,0⟩
  else if e.kind=3\/e.kind=4\/e.kind=8\/e.kind=9\/e.kind=10 then ⟨e.kind,e.worker,0,0,e.refJob,e.refTask,0⟩
  else if e.kind=5 then ⟨e.kind,e.worker,e.from_,0,e.refJob,e.refTask,0⟩
  else if e.kind=12 then ⟨e.kind,e.worker,e.from_,0,0,0,0⟩
  else if e.kind=6\/e.kind=7\/e.kind=11\/e.kind=13 then ⟨e.kind,e.worker,0,0,0,0,0⟩
  else ⟨e.kind,0,0,0,0,0,0⟩
def anotherE (n:Nat) (e:Evt):Bool:=decide (0<=e.from_/\e.from_<((n:Nat):Int)/\e.from_≠e.worker)
theorem any_take {ws:List Wk} {f:Wk->Bool} {i:Nat} {x:Wk} (hx:ws[i]?=some x) (h:(ws.take i).any f=false) (hf:f x=false):(ws.take (i+1)).any f=false:=by
  rw [take_succ_at hx,List.any_append,h];simp [hf]
theorem any_hit {ws:List Wk} {f:Wk->Bool} {i:Nat} {x:Wk} (hx:ws[i]?=some x) (hf:f x=true):ws.any f=true:=List.any_eq_true.2 ⟨x,List.mem_of_getElem? hx,hf⟩
theorem ad_within (n:Int) (a:Int) (b:Int) (hS:Sat W w (H::F)):
    Ro prog 103 #[.int .i64 n, .int .i64 a, .int .i64 b] (.bool (decide ((a<=n/\n<=b)))) W w (H::F):=by
  exact callsK 15 func103 rfl<|jCO 11 rfl<|SD 10 (n>=a) (fun a0=>jOR 8 rfl<|retT [.bool false]<|⟨rB ((decide_eq_false (by omega)).symm),hS⟩) fun a0=>jOR 8 rfl<|retT [.bool (decide ((n:Int)<=b))]<|⟨rB (by rw [Bool.eq_iff_iff];simp only [decide_eq_true_eq,ge_iff_le];omega),hS⟩
theorem ad_valid (c:Cfg) (hS:Sat W w (H::F)):
  Ro prog 42 #[.agg (encCfg c).toArray] (I (validCfg c)) W w (H::F):=by
 refine callsA 44 func42 rfl<|sR<|sBx hS (encCfg c) fun _ _ h0=>pu1<|zS<|pu1<|sM h0 0 0 (I c.workers)<|cS (ad_within c.workers 1 64 h0.flat) fun _ a0=>pu1<|SD 7 ((1<=c.workers/\c.workers<=64)) (fun j0=>pu16<|pu16<|pu3<|zQ<|pu2<|zC<|pu1<|zR<|retT [I 2]<|⟨congrArg (fun z=>Ending.returned (I z)) (by unfold validCfg;rw [if_neg om]),(a0.dropAt 0 rfl)⟩) fun j0=>pu1<|gY<|sM a0 0 1 (I c.tileW)<|gY<|cS (ad_within c.tileW 1 64 a0.flat) fun _ b0=>pu2<|SD 12 ((1<=c.tileW/\c.tileW<=64)) (fun l0=>pu16<|pu14<|zQ<|pu2<|zC<|pu1<|zR<|retT [I 2]<|⟨congrArg (fun z=>Ending.returned (I z)) (by unfold validCfg;rw [if_neg om]),(b0.dropAt 0 rfl)⟩) fun l0=>pu1<|gY<|sM b0 0 2 (I c.tileH)<|gY<|cS (ad_within c.tileH 1 64 b0.flat) fun _ c0=>pu2<|SD 17 ((1<=c.tileH/\c.tileH<=64)) (fun n0=>pu16<|pu9<|zQ<|pu2<|zC<|pu1<|zR<|retT [I 2]<|⟨congrArg (fun z=>Ending.returned (I z)) (by unfold validCfg;rw [if_neg om]),(c0.dropAt 0 rfl)⟩) fun n0=>pu1<|gY<|sM c0 0 3 (I c.arena)<|gY<|cS (ad_within c.arena 0 1048576 c0.flat) fun _ d0=>pu2<|SD 22 ((0<=c.arena/\c.arena<=1048576)) (fun p0=>pu16<|pu4<|zQ<|pu2<|zC<|pu1<|zR<|retT [I 2]<|⟨congrArg (fun z=>Ending.returned (I z)) (by unfold validCfg;rw [if_neg om]),(d0.dropAt 0 rfl)⟩) fun p0=>pu1<|gY<|sM d0 0 4 (I c.deque)<|gY<|cS (ad_within c.deque 1 256 d0.flat) fun _ e0=>pu2<|SD 27 ((1<=c.deque/\c.deque<=256)) (fun r0=>pu15<|zQ<|pu2<|zC<|pu1<|zR<|retT [I 2]<|⟨congrArg (fun z=>Ending.returned (I z)) (by unfold validCfg;rw [if_neg om]),(e0.dropAt 0 rfl)⟩) fun r0=>?_
 exact pu1<|gY<|sM e0 0 5 (I c.tasks)<|gY<|cS (ad_within c.tasks 1 4096 e0.flat) fun _ f0=>pu2<|SD 32 ((1<=c.tasks/\c.tasks<=4096)) (fun t0=>pu10<|zQ<|pu2<|zC<|pu1<|zR<|retT [I 2]<|⟨congrArg (fun z=>Ending.returned (I z)) (by unfold validCfg;rw [if_neg om]),(f0.dropAt 0 rfl)⟩) fun t0=>pu1<|gY<|sM f0 0 6 (I c.cells)<|gY<|cS (ad_within c.cells 1 1048576 f0.flat) fun _ g0=>pu2<|SD 37 ((1<=c.cells/\c.cells<=1048576)) (fun v0=>pu5<|zQ<|pu2<|zC<|pu1<|zR<|retT [I 2]<|⟨congrArg (fun z=>Ending.returned (I z)) (by unfold validCfg;rw [if_neg om]),(g0.dropAt 0 rfl)⟩) fun v0=>pu1<|gY<|sM g0 0 7 (I c.jobs)<|gY<|cS (ad_within c.jobs 1 64 g0.flat) fun _ i0=>pu2<|zQ<|pu2<|nT<|CDn ((1<=c.jobs/\c.jobs<=64)) (fun x0=>sR<|pu1<|zR<|retT [I 2]<|⟨congrArg (fun z=>Ending.returned (I z)) (by unfold validCfg;rw [if_neg om]),(i0.dropAt 0 rfl)⟩) fun x0=>kS<|pu1<|zE<|retT [I 0]<|⟨congrArg (fun z=>Ending.returned (I z)) (by unfold validCfg;rw [if_pos om]),(i0.dropAt 0 rfl)⟩
theorem au_named (e:Evt) (hS:Sat W w (H::F)):
  Ro prog 149 #[.agg (encEvt e).toArray] (.agg #[I ((namedE e).kind),I ((namedE e).worker),I ((namedE e).from_),I ((namedE e).job),I ((namedE e).refJob),I ((namedE e).refTask),I ((namedE e).err)]) W w (H::F):=by
 refine callsK 62 func149 rfl<|jCO 2 rfl<|sBx hS (encEvt e) fun _ _ u1=>sAlloc u1 zeroValue63 fun _ _ b0=>gOO b0 7 [1] rfl<|sAlloc b0 zeroValue63 fun _ _ v1=>sTk v1 0 rfl [I e.kind,I 0,I 0,I 0,I 0,I 0,I 0] fun _ a0=>gOC a0 16 [2] rfl<|cE e.kind 1 (fun w1=>drawF a0 [5,7] (fb 1 2 3 1<|fb 3 2 6 1<|fn) [0,2,1,4,3,5,6,7] fun _ x1=>wV 2<|wL 0<|wV 1<|wL 1<|wO rfl<|tWk x1 0 rfl 3 (I e.job) fun _ c0=>nZ c0 [2]<|wV 1<|wO rfl<|tWk c0 0 rfl 6 (I e.err) fun _ d0=>nA<|wN<|gXO d0 5 [700] rfl<|sTk d0 1 rfl [I e.kind,I 0,I 0,I e.job,I 0,I 0,I e.err] fun _ e0=>jOR 3 rfl<|retN (vs:=[.agg #[I e.kind,I 0,I 0,I e.job,I 0,I 0,I e.err]]) rfl (.cons (.cell _ _ _ _ kr (lvA e0 1 0 [I e.kind,I 0,I 0,I e.job,I 0,I 0,I e.err] (isAgg63 _) (sizeOf63 _) rfl rfl rfl)) .nil)<|(by have y1:=(e0.drops [0,0,0]);have he:namedE e=(⟨e.kind,0,0,e.job,0,0,e.err⟩:Evt):=(by unfold namedE;first|(rw [if_pos om])|(rw [if_neg om,if_pos om])|(rw [if_neg om,if_neg om,if_pos om])|(rw [if_neg om,if_neg om,if_neg om,if_pos om])|(rw [if_neg om,if_neg om,if_neg om,if_neg om,if_pos om])|(rw [if_neg om,if_neg om,if_neg om,if_neg om,if_neg om,if_pos om])|(rw [if_neg om,if_neg om,if_neg om,if_neg om,if_neg om,if_neg om]));exact ⟨by rw [he];rfl,y1⟩)) fun w1=>?_
 refine jCC 6 rfl<|cE e.kind 2 (fun z1=>gCO a0 4 [2] rfl<|tWk a0 0 rfl 3 (I e.job) fun _ f0=>gOO f0 6 [700] rfl<|sTk f0 1 rfl [I e.kind,I 0,I 0,I e.job,I 0,I 0,I 0] fun _ g0=>jOR 3 rfl<|retN (vs:=[.agg #[I e.kind,I 0,I 0,I e.job,I 0,I 0,I 0]]) rfl (.cons (.cell _ _ _ _ kr (lvA g0 1 0 [I e.kind,I 0,I 0,I e.job,I 0,I 0,I 0] (isAgg63 _) (sizeOf63 _) rfl rfl rfl)) .nil)<|(by have a2:=(g0.drops [0,0,0]);have he:namedE e=(⟨e.kind,0,0,e.job,0,0,0⟩:Evt):=(by unfold namedE;first|(rw [if_pos om])|(rw [if_neg om,if_pos om])|(rw [if_neg om,if_neg om,if_pos om])|(rw [if_neg om,if_neg om,if_neg om,if_pos om])|(rw [if_neg om,if_neg om,if_neg om,if_neg om,if_pos om])|(rw [if_neg om,if_neg om,if_neg om,if_neg om,if_neg om,if_pos om])|(rw [if_neg om,if_neg om,if_neg om,if_neg om,if_neg om,if_neg om]));exact ⟨by rw [he];rfl,a2⟩)) fun z1=>?_
 refine jCC 7 rfl<|cE e.kind 3 (fun h0=>jCC 2 rfl<|cT _ (beq_iff_eq.2 h0)<|drawF a0 [5,7] (fb 1 2 1 1<|fb 3 2 4 2<|fn) [0,2,1,4,3,5,6,7] fun _ b2=>wV 2<|wL 0<|wV 1<|wG 1 2<|wO rfl<|tWk b2 0 rfl 1 (I e.worker) fun _ i0=>nZ i0 [2]<|wV 1<|wO rfl<|tWk i0 0 rfl 4 (.agg #[I e.refJob,I e.refTask]) fun _ j0=>nA<|wN<|gXO j0 5 [700] rfl<|sTk j0 1 rfl (encEvt {e with from_:=0,job:=0,err:=0}) fun _ k0=>jOR 3 rfl<|retN (vs:=[.agg (encEvt {e with from_:=0,job:=0,err:=0}).toArray]) rfl (.cons (.cell _ _ _ _ kr (lvA k0 1 0 (encEvt {e with from_:=0,job:=0,err:=0}) (isAgg63 _) (sizeOf63 _) rfl rfl rfl)) .nil)<|(by have c2:=(k0.drops [0,0,0]);have he:namedE e=(⟨e.kind,e.worker,0,0,e.refJob,e.refTask,0⟩:Evt):=(by unfold namedE;first|(rw [if_pos om])|(rw [if_neg om,if_pos om])|(rw [if_neg om,if_neg om,if_pos om])|(rw [if_neg om,if_neg om,if_neg om,if_pos om])|(rw [if_neg om,if_neg om,if_neg om,if_neg om,if_pos om])|(rw [if_neg om,if_neg om,if_neg om,if_neg om,if_neg om,if_pos om])|(rw [if_neg om,if_neg om,if_neg om,if_neg om,if_neg om,if_neg om]));exact ⟨by rw [he];rfl,c2⟩)) fun h0=>?_
 refine jCC 6 rfl<|cE e.kind 4 (fun l0=>jCC 2 rfl<|cT _ (beq_iff_eq.2 l0)<|drawF a0 [5,7] (fb 1 2 1 1<|fb 3 2 4 2<|fn) [0,2,1,4,3,5,6,7] fun _ d2=>wV 2<|wL 0<|wV 1<|wG 1 2<|wO rfl<|tWk d2 0 rfl 1 (I e.worker) fun _ m0=>nZ m0 [2]<|wV 1<|wO rfl<|tWk m0 0 rfl 4 (.agg #[I e.refJob,I e.refTask]) fun _ n0=>nA<|wN<|gXO n0 5 [700] rfl<|sTk n0 1 rfl (encEvt {e with from_:=0,job:=0,err:=0}) fun _ o0=>jOR 3 rfl<|retN (vs:=[.agg (encEvt {e with from_:=0,job:=0,err:=0}).toArray]) rfl (.cons (.cell _ _ _ _ kr (lvA o0 1 0 (encEvt {e with from_:=0,job:=0,err:=0}) (isAgg63 _) (sizeOf63 _) rfl rfl rfl)) .nil)<|(by have e2:=(o0.drops [0,0,0]);have he:namedE e=(⟨e.kind,e.worker,0,0,e.refJob,e.refTask,0⟩:Evt):=(by unfold namedE;first|(rw [if_pos om])|(rw [if_neg om,if_pos om])|(rw [if_neg om,if_neg om,if_pos om])|(rw [if_neg om,if_neg om,if_neg om,if_pos om])|(rw [if_neg om,if_neg om,if_neg om,if_neg om,if_pos om])|(rw [if_neg om,if_neg om,if_neg om,if_neg om,if_neg om,if_pos om])|(rw [if_neg om,if_neg om,if_neg om,if_neg om,if_neg om,if_neg om]));exact ⟨by rw [he];rfl,e2⟩)) fun l0=>?_
 refine jCC 6 rfl<|cE e.kind 8 (fun p0=>jCC 2 rfl<|cT _ (beq_iff_eq.2 p0)<|drawF a0 [5,7] (fb 1 2 1 1<|fb 3 2 4 2<|fn) [0,2,1,4,3,5,6,7] fun _ f2=>wV 2<|wL 0<|wV 1<|wG 1 2<|wO rfl<|tWk f2 0 rfl 1 (I e.worker) fun _ q0=>nZ q0 [2]<|wV 1<|wO rfl<|tWk q0 0 rfl 4 (.agg #[I e.refJob,I e.refTask]) fun _ r0=>nA<|wN<|gXO r0 5 [700] rfl<|sTk r0 1 rfl (encEvt {e with from_:=0,job:=0,err:=0}) fun _ s0=>jOR 3 rfl<|retN (vs:=[.agg (encEvt {e with from_:=0,job:=0,err:=0}).toArray]) rfl (.cons (.cell _ _ _ _ kr (lvA s0 1 0 (encEvt {e with from_:=0,job:=0,err:=0}) (isAgg63 _) (sizeOf63 _) rfl rfl rfl)) .nil)<|(by have g2:=(s0.drops [0,0,0]);have he:namedE e=(⟨e.kind,e.worker,0,0,e.refJob,e.refTask,0⟩:Evt):=(by unfold namedE;first|(rw [if_pos om])|(rw [if_neg om,if_pos om])|(rw [if_neg om,if_neg om,if_pos om])|(rw [if_neg om,if_neg om,if_neg om,if_pos om])|(rw [if_neg om,if_neg om,if_neg om,if_neg om,if_pos om])|(rw [if_neg om,if_neg om,if_neg om,if_neg om,if_neg om,if_pos om])|(rw [if_neg om,if_neg om,if_neg om,if_neg om,if_neg om,if_neg om]));exact ⟨by rw [he];rfl,g2⟩)) fun p0=>?_
 refine jCC 6 rfl<|cE e.kind 9 (fun t0=>jCC 2 rfl<|cT _ (beq_iff_eq.2 t0)<|drawF a0 [5,7] (fb 1 2 1 1<|fb 3 2 4 2<|fn) [0,2,1,4,3,5,6,7] fun _ h2=>wV 2<|wL 0<|wV 1<|wG 1 2<|wO rfl<|tWk h2 0 rfl 1 (I e.worker) fun _ u0=>nZ u0 [2]<|wV 1<|wO rfl<|tWk u0 0 rfl 4 (.agg #[I e.refJob,I e.refTask]) fun _ v0=>nA<|wN<|gXO v0 5 [700] rfl<|sTk v0 1 rfl (encEvt {e with from_:=0,job:=0,err:=0}) fun _ w0=>jOR 3 rfl<|retN (vs:=[.agg (encEvt {e with from_:=0,job:=0,err:=0}).toArray]) rfl (.cons (.cell _ _ _ _ kr (lvA w0 1 0 (encEvt {e with from_:=0,job:=0,err:=0}) (isAgg63 _) (sizeOf63 _) rfl rfl rfl)) .nil)<|(by have i2:=(w0.drops [0,0,0]);have he:namedE e=(⟨e.kind,e.worker,0,0,e.refJob,e.refTask,0⟩:Evt):=(by unfold namedE;first|(rw [if_pos om])|(rw [if_neg om,if_pos om])|(rw [if_neg om,if_neg om,if_pos om])|(rw [if_neg om,if_neg om,if_neg om,if_pos om])|(rw [if_neg om,if_neg om,if_neg om,if_neg om,if_pos om])|(rw [if_neg om,if_neg om,if_neg om,if_neg om,if_neg om,if_pos om])|(rw [if_neg om,if_neg om,if_neg om,if_neg om,if_neg om,if_neg om]));exact ⟨by rw [he];rfl,i2⟩)) fun t0=>?_
 refine jCC 5 rfl<|cE e.kind 10 (fun j2=>drawF a0 [5,7] (fb 1 2 1 1<|fb 3 2 4 2<|fn) [0,2,1,4,3,5,6,7] fun _ k2=>wV 2<|wL 0<|wV 1<|wG 1 2<|wO rfl<|tWk k2 0 rfl 1 (I e.worker) fun _ x0=>nZ x0 [2]<|wV 1<|wO rfl<|tWk x0 0 rfl 4 (.agg #[I e.refJob,I e.refTask]) fun _ y0=>nA<|wN<|gXO y0 5 [700] rfl<|sTk y0 1 rfl (encEvt {e with from_:=0,job:=0,err:=0}) fun _ z0=>jOR 3 rfl<|retN (vs:=[.agg (encEvt {e with from_:=0,job:=0,err:=0}).toArray]) rfl (.cons (.cell _ _ _ _ kr (lvA z0 1 0 (encEvt {e with from_:=0,job:=0,err:=0}) (isAgg63 _) (sizeOf63 _) rfl rfl rfl)) .nil)<|(by have l2:=(z0.drops [0,0,0]);have he:namedE e=(⟨e.kind,e.worker,0,0,e.refJob,e.refTask,0⟩:Evt):=(by unfold namedE;first|(rw [if_pos om])|(rw [if_neg om,if_pos om])|(rw [if_neg om,if_neg om,if_pos om])|(rw [if_neg om,if_neg om,if_neg om,if_pos om])|(rw [if_neg om,if_neg om,if_neg om,if_neg om,if_pos om])|(rw [if_neg om,if_neg om,if_neg om,if_neg om,if_neg om,if_pos om])|(rw [if_neg om,if_neg om,if_neg om,if_neg om,if_neg om,if_neg om]));exact ⟨by rw [he];rfl,l2⟩)) fun j2=>?_
 refine jCC 6 rfl<|cE e.kind 5 (fun m2=>drawF a0 [7,9,11] (fb 1 2 1 1<|fb 3 2 2 1<|fb 5 2 4 2<|fn) [0,2,4,1,6,3,5,7,8,9,10,11] fun _ n2=>wV 3<|wL 0<|wV 1<|wL 1<|wG 2 2<|wO rfl<|tWk n2 0 rfl 1 (I e.worker) fun _ a1=>nZ a1 [2,2]<|wV 1<|wO rfl<|tWk a1 0 rfl 2 (I e.from_) fun _ b1=>nZ b1 [2]<|wV 1<|wO rfl<|tWk b1 0 rfl 4 (.agg #[I e.refJob,I e.refTask]) fun _ c1=>nA<|wN<|gXO c1 5 [700] rfl<|sTk c1 1 rfl (encEvt {e with job:=0,err:=0}) fun _ d1=>jOR 3 rfl<|retN (vs:=[.agg (encEvt {e with job:=0,err:=0}).toArray]) rfl (.cons (.cell _ _ _ _ kr (lvA d1 1 0 (encEvt {e with job:=0,err:=0}) (isAgg63 _) (sizeOf63 _) rfl rfl rfl)) .nil)<|(by have o2:=(d1.drops [0,0,0]);have he:namedE e=(⟨e.kind,e.worker,e.from_,0,e.refJob,e.refTask,0⟩:Evt):=(by unfold namedE;first|(rw [if_pos om])|(rw [if_neg om,if_pos om])|(rw [if_neg om,if_neg om,if_pos om])|(rw [if_neg om,if_neg om,if_neg om,if_pos om])|(rw [if_neg om,if_neg om,if_neg om,if_neg om,if_pos om])|(rw [if_neg om,if_neg om,if_neg om,if_neg om,if_neg om,if_pos om])|(rw [if_neg om,if_neg om,if_neg om,if_neg om,if_neg om,if_neg om]));exact ⟨by rw [he];rfl,o2⟩)) fun m2=>?_
 refine jCC 6 rfl<|cE e.kind 12 (fun q2=>drawF a0 [5,7] (fb 1 2 1 1<|fb 3 2 2 1<|fn) [0,2,1,4,3,5,6,7] fun _ r2=>wV 2<|wL 0<|wV 1<|wL 1<|wO rfl<|tWk r2 0 rfl 1 (I e.worker) fun _ e1=>nZ e1 [2]<|wV 1<|wO rfl<|tWk e1 0 rfl 2 (I e.from_) fun _ f1=>nA<|wN<|gXO f1 5 [700] rfl<|sTk f1 1 rfl [I e.kind,I e.worker,I e.from_,I 0,I 0,I 0,I 0] fun _ g1=>jOR 3 rfl<|retN (vs:=[.agg #[I e.kind,I e.worker,I e.from_,I 0,I 0,I 0,I 0]]) rfl (.cons (.cell _ _ _ _ kr (lvA g1 1 0 [I e.kind,I e.worker,I e.from_,I 0,I 0,I 0,I 0] (isAgg63 _) (sizeOf63 _) rfl rfl rfl)) .nil)<|(by have s2:=(g1.drops [0,0,0]);have he:namedE e=(⟨e.kind,e.worker,e.from_,0,0,0,0⟩:Evt):=(by unfold namedE;first|(rw [if_pos om])|(rw [if_neg om,if_pos om])|(rw [if_neg om,if_neg om,if_pos om])|(rw [if_neg om,if_neg om,if_neg om,if_pos om])|(rw [if_neg om,if_neg om,if_neg om,if_neg om,if_pos om])|(rw [if_neg om,if_neg om,if_neg om,if_neg om,if_neg om,if_pos om])|(rw [if_neg om,if_neg om,if_neg om,if_neg om,if_neg om,if_neg om]));exact ⟨by rw [he];rfl,s2⟩)) fun q2=>?_
 refine jCC 7 rfl<|cE e.kind 6 (fun h1=>jCC 2 rfl<|cT _ (beq_iff_eq.2 h1)<|gCO a0 4 [2] rfl<|tWk a0 0 rfl 1 (I e.worker) fun _ i1=>gOO i1 6 [700] rfl<|sTk i1 1 rfl [I e.kind,I e.worker,I 0,I 0,I 0,I 0,I 0] fun _ j1=>jOR 3 rfl<|retN (vs:=[.agg #[I e.kind,I e.worker,I 0,I 0,I 0,I 0,I 0]]) rfl (.cons (.cell _ _ _ _ kr (lvA j1 1 0 [I e.kind,I e.worker,I 0,I 0,I 0,I 0,I 0] (isAgg63 _) (sizeOf63 _) rfl rfl rfl)) .nil)<|(by have t2:=(j1.drops [0,0,0]);have he:namedE e=(⟨e.kind,e.worker,0,0,0,0,0⟩:Evt):=(by unfold namedE;first|(rw [if_pos om])|(rw [if_neg om,if_pos om])|(rw [if_neg om,if_neg om,if_pos om])|(rw [if_neg om,if_neg om,if_neg om,if_pos om])|(rw [if_neg om,if_neg om,if_neg om,if_neg om,if_pos om])|(rw [if_neg om,if_neg om,if_neg om,if_neg om,if_neg om,if_pos om])|(rw [if_neg om,if_neg om,if_neg om,if_neg om,if_neg om,if_neg om]));exact ⟨by rw [he];rfl,t2⟩)) fun h1=>?_
 refine jCC 6 rfl<|cE e.kind 7 (fun k1=>jCC 2 rfl<|cT _ (beq_iff_eq.2 k1)<|gCO a0 4 [2] rfl<|tWk a0 0 rfl 1 (I e.worker) fun _ l1=>gOO l1 6 [700] rfl<|sTk l1 1 rfl [I e.kind,I e.worker,I 0,I 0,I 0,I 0,I 0] fun _ m1=>jOR 3 rfl<|retN (vs:=[.agg #[I e.kind,I e.worker,I 0,I 0,I 0,I 0,I 0]]) rfl (.cons (.cell _ _ _ _ kr (lvA m1 1 0 [I e.kind,I e.worker,I 0,I 0,I 0,I 0,I 0] (isAgg63 _) (sizeOf63 _) rfl rfl rfl)) .nil)<|(by have u2:=(m1.drops [0,0,0]);have he:namedE e=(⟨e.kind,e.worker,0,0,0,0,0⟩:Evt):=(by unfold namedE;first|(rw [if_pos om])|(rw [if_neg om,if_pos om])|(rw [if_neg om,if_neg om,if_pos om])|(rw [if_neg om,if_neg om,if_neg om,if_pos om])|(rw [if_neg om,if_neg om,if_neg om,if_neg om,if_pos om])|(rw [if_neg om,if_neg om,if_neg om,if_neg om,if_neg om,if_pos om])|(rw [if_neg om,if_neg om,if_neg om,if_neg om,if_neg om,if_neg om]));exact ⟨by rw [he];rfl,u2⟩)) fun k1=>?_
 refine jCC 6 rfl<|cE e.kind 11 (fun n1=>jCC 2 rfl<|cT _ (beq_iff_eq.2 n1)<|gCO a0 4 [2] rfl<|tWk a0 0 rfl 1 (I e.worker) fun _ o1=>gOO o1 6 [700] rfl<|sTk o1 1 rfl [I e.kind,I e.worker,I 0,I 0,I 0,I 0,I 0] fun _ q1=>jOR 3 rfl<|retN (vs:=[.agg #[I e.kind,I e.worker,I 0,I 0,I 0,I 0,I 0]]) rfl (.cons (.cell _ _ _ _ kr (lvA q1 1 0 [I e.kind,I e.worker,I 0,I 0,I 0,I 0,I 0] (isAgg63 _) (sizeOf63 _) rfl rfl rfl)) .nil)<|(by have v2:=(q1.drops [0,0,0]);have he:namedE e=(⟨e.kind,e.worker,0,0,0,0,0⟩:Evt):=(by unfold namedE;first|(rw [if_pos om])|(rw [if_neg om,if_pos om])|(rw [if_neg om,if_neg om,if_pos om])|(rw [if_neg om,if_neg om,if_neg om,if_pos om])|(rw [if_neg om,if_neg om,if_neg om,if_neg om,if_pos om])|(rw [if_neg om,if_neg om,if_neg om,if_neg om,if_neg om,if_pos om])|(rw [if_neg om,if_neg om,if_neg om,if_neg om,if_neg om,if_neg om]));exact ⟨by rw [he];rfl,v2⟩)) fun n1=>?_
 refine jCC 5 rfl<|CE e.kind 13 (fun w2=>gCO a0 6 [700] rfl<|sTk a0 1 rfl [I e.kind,I 0,I 0,I 0,I 0,I 0,I 0] fun _ r1=>jOR 3 rfl<|retN (vs:=[.agg #[I e.kind,I 0,I 0,I 0,I 0,I 0,I 0]]) rfl (.cons (.cell _ _ _ _ kr (lvA r1 1 0 [I e.kind,I 0,I 0,I 0,I 0,I 0,I 0] (isAgg63 _) (sizeOf63 _) rfl rfl rfl)) .nil)<|(by have x2:=(r1.drops [0,0,0]);have he:namedE e=(⟨e.kind,0,0,0,0,0,0⟩:Evt):=(by unfold namedE;first|(rw [if_pos om])|(rw [if_neg om,if_pos om])|(rw [if_neg om,if_neg om,if_pos om])|(rw [if_neg om,if_neg om,if_neg om,if_pos om])|(rw [if_neg om,if_neg om,if_neg om,if_neg om,if_pos om])|(rw [if_neg om,if_neg om,if_neg om,if_neg om,if_neg om,if_pos om])|(rw [if_neg om,if_neg om,if_neg om,if_neg om,if_neg om,if_neg om]));exact ⟨by rw [he];rfl,x2⟩)) fun w2=>gCO a0 4 [2] rfl<|tWk a0 0 rfl 1 (I e.worker) fun _ s1=>gOO s1 6 [700] rfl<|sTk s1 1 rfl [I e.kind,I e.worker,I 0,I 0,I 0,I 0,I 0] fun _ t1=>jOR 3 rfl<|retN (vs:=[.agg #[I e.kind,I e.worker,I 0,I 0,I 0,I 0,I 0]]) rfl (.cons (.cell _ _ _ _ kr (lvA t1 1 0 [I e.kind,I e.worker,I 0,I 0,I 0,I 0,I 0] (isAgg63 _) (sizeOf63 _) rfl rfl rfl)) .nil) ?_
 have y2:=(t1.drops [0,0,0])
 have he:namedE e=(⟨e.kind,e.worker,0,0,0,0,0⟩:Evt):=by unfold namedE;first|(rw [if_pos om])|(rw [if_neg om,if_pos om])|(rw [if_neg om,if_neg om,if_pos om])|(rw [if_neg om,if_neg om,if_neg om,if_pos om])|(rw [if_neg om,if_neg om,if_neg om,if_neg om,if_pos om])|(rw [if_neg om,if_neg om,if_neg om,if_neg om,if_neg om,if_pos om])|(rw [if_neg om,if_neg om,if_neg om,if_neg om,if_neg om,if_neg om])
 exact ⟨by rw [he];rfl,y2⟩
theorem aj_run_n {p:Nat} {H:Chunk} {s:JA} {c:Chunk} {F:List Chunk} {K:Int} (hJ:JobA H p s c) (hW:JW K s) (h0:s.B=none) (hS:Sat W w (c::F)):
  Calls prog 202 #[Pt p 0] w fun e w'=>e= .returned (.bool (runJ s))/\Sat W w' (c::F):=by
 obtain ⟨ta,tn,tk,b,M,rfl,hT,hD,f0⟩:=hJ
 obtain ⟨rfl,rfl⟩:b=none/\M=[]:=by
  rcases f0 with ⟨_,h1,h2⟩|⟨B,q,h1,_⟩
  ·exact ⟨h1,h2⟩
  ·rw [h0] at h1;cases h1
 have hS:Sat W w ([(p, .cells #[.slice ta tn tk, .pointer none, .bool s.x] 219 (0,0))]::F):=Sat.perm hS (by simp)
 refine callsK 21 func202 rfl<|jCC 6 rfl<|bD (s.x=true) (fun a0=>drawF hS [10,15] (fb 3 0 2 1<|fn) [0,1,2,3,4,5,6,7,8,11,12,13,9,14,10,15,16,17,18] fun _ b0=>wV 3<|wL 0<|wV 2<|wFix 8 _ false (congrArg Bool.not a0)<|wV 8<|wO rfl<|pu1<|nZ b0 [0]<|wO rfl<|pu1<|nZ b0 [0]<|wV 3<|wN<|jXR 2 rfl<|retT [.bool false]<|⟨rB (by unfold runJ;rw [a0,h0];rfl),Sat.perm b0 (by simp)⟩) fun a0=>drawF hS [10,15] (fb 3 0 2 1<|fb 9 0 1 1<|fb 14 0 1 1<|fn) [0,1,2,3,4,5,6,7,8,11,12,13,9,14,10,15,16,17,18] fun _ e0=>wV 3<|wL 0<|wV 2<|wFix 8 _ true (congrArg Bool.not (Bool.eq_false_iff.2 a0))<|wV 6<|wL 1<|wL 2<|wO rfl<|gY<|cZ (b_done_nil e0) ?_
 rintro _ _ ⟨rfl,c0⟩
 refine nZ c0 [0,0]<|wO rfl<|gY<|cZ (b_total_nil c0) ?_
 rintro _ _ ⟨rfl,d0⟩
 exact nZ d0 [0]<|wV 1<|wV 2<|wN<|jXR 2 rfl<|retT [.bool false]<|⟨rB (by unfold runJ;rw [Bool.eq_false_iff.2 a0,h0];rfl),Sat.perm d0 (by simp)⟩
theorem aj_run_s {p:Nat} {H:Chunk} {s:JA} {c:Chunk} {F:List Chunk} {K:Int} {B:BS} (hJ:JobA H p s c) (hW:JW K s) (h0:s.B=some B) (hS:Sat W w (c::F)):
  Calls prog 202 #[Pt p 0] w fun e w'=>e= .returned (.bool (runJ s))/\Sat W w' (c::F):=by
 obtain ⟨ta,tn,tk,b,M,rfl,hT,hD,j0⟩:=hJ
 obtain ⟨q,rfl,l0⟩:∃q,b=some ⟨q,0,none⟩/\BoardR q B M:=by
  rcases j0 with ⟨h1,_⟩|⟨B2,q,h1,h2,h3⟩
  ·rw [h0] at h1;cases h1
  ·rw [h0] at h1;obtain rfl:=Option.some.inj h1;exact ⟨q,h2,h3⟩
 have hS:Sat W w ([(p, .cells #[.slice ta tn tk,Pt q 0, .bool s.x] 219 (0,0))]::M::F):=Sat.perm hS (by simp);have k0:=(hW B h0).1
 refine callsK 21 func202 rfl<|jCC 6 rfl<|bD (s.x=true) (fun a0=>drawF hS [10,15] (fb 3 0 2 1<|fn) [0,1,2,3,4,5,6,7,8,11,12,13,9,14,10,15,16,17,18] fun _ b0=>wV 3<|wL 0<|wV 2<|wFix 8 _ false (congrArg Bool.not a0)<|wV 8<|wO rfl<|pu1<|nZ b0 [0]<|wO rfl<|pu1<|nZ b0 [0]<|wV 3<|wN<|jXR 2 rfl<|retT [.bool false]<|⟨rB (by unfold runJ;rw [a0,h0];rfl),Sat.perm (show Sat W _ ([(p, .cells #[.slice ta tn tk,Pt q 0, .bool s.x] 219 (0,0))]::M::F) from b0) (by simp)⟩) fun a0=>drawF hS [10,15] (fb 3 0 2 1<|fb 9 0 1 1<|fb 14 0 1 1<|fn) [0,1,2,3,4,5,6,7,8,11,12,13,9,14,10,15,16,17,18] fun _ e0=>wV 3<|wL 0<|wV 2<|wFix 8 _ true (congrArg Bool.not (Bool.eq_false_iff.2 a0))<|wV 6<|wL 1<|wL 2<|wO rfl<|gY ?_
 have f0:=(e0.pick 1 rfl)
 refine cZ (b_done l0 k0 f0.flat1) ?_
 rintro _ _ ⟨rfl,g0⟩
 have c0:=g0.unflat1
 refine nZ c0 [1,1]<|wO rfl<|gY<|cZ (b_total l0 k0 c0.flat1) ?_
 rintro _ _ ⟨rfl,i0⟩
 have d0:=i0.unflat1
 exact nZ d0 [1]<|wV 1<|wV 2<|wN<|jXR 2 rfl<|retT [.bool (decide ((doneOf B)<(B.deps.length:Int)))]<|⟨rB (by unfold runJ;rw [Bool.eq_false_iff.2 a0,h0];simp),Sat.perm (show Sat W _ ([(p, .cells #[.slice ta tn tk,Pt q 0, .bool s.x] 219 (0,0))]::M::F) from (d0.pick 1 rfl)) (by simp)⟩
theorem aj_run {W w:World} {p:Nat} {H:Chunk} {s:JA} {c:Chunk} {F:List Chunk} {K:Int} (hJ:JobA H p s c) (hW:JW K s) (hS:Sat W w (c::F)):
    Calls prog 202 #[.pointer (some ⟨p,0,none⟩)] w fun e w'=>e= .returned (.bool (runJ s))/\Sat W w' (c::F):=by
  cases h:s.B with
  |none=>exact aj_run_n hJ hW h hS
  |some B=>exact aj_run_s hJ hW h hS
theorem am_job {p wb wo:Nat} {H:Chunk} {oa ja:Option Addr} {on ok wn wk jn jk:Nat} {rd:Int} {ws:List Wk} {jobs:List JA} {ps:List Nat} {Wc Jc:Chunk} {jcs F:List Chunk} {K:Int} (hOw:OwnT encWk 200 5 (some ⟨wb,wo,none⟩) wn wk ws Wc) (hOj:OwnT encP 217 1 ja jn jk ps Jc) (hJs:Obs (JobA H) ps jobs jcs) (hJW:∀j∈jobs,JW K j) (x:Int) (hS:Sat W w ([(p, .cells #[.slice oa on ok, .slice (some ⟨wb,wo,none⟩) wn wk, .slice ja jn jk,I rd] 147 (0,0))]::Wc::Jc::jcs.flatten::H::F)):
  Calls prog 201 #[Pt p 0,I x] w fun e w'=>(¬(0<=x/\x<(jobs.length:Int))/\e= .returned (.pointer none)/\Sat W w' ([(p, .cells #[.slice oa on ok, .slice (some ⟨wb,wo,none⟩) wn wk, .slice ja jn jk,I rd] 147 (0,0))]::Wc::Jc::jcs.flatten::H::F))\/(∃q:Nat,(0<=x/\x<(jobs.length:Int))/\ps[x.toNat]?=some q/\e= .returned (Pt q 0)/\Sat W w' ([(p, .cells #[.slice oa on ok, .slice (some ⟨wb,wo,none⟩) wn wk, .slice ja jn jk,I rd] 147 (0,0))]::Wc::Jc::jcs.flatten::H::F)):=by
 have j0:=hOw.ll;have g0:=hOj.ll;have h0:=hJs.1
 exact callsK 23 func201 rfl<|jCO 11 rfl<|sD 7 (x<0) (fun b0=>jOR 18 rfl<|retT [.pointer none]<| .inl ⟨om,rfl,hS⟩) fun b0=>gOC hS 10 [0] rfl<|cD (x>=(jn:Int)) (fun c0=>jCR 7 rfl<|retT [.pointer none]<| .inl ⟨om,rfl,hS⟩) fun c0=>gCO hS 9 [0] rfl<|sIO hOj x (x).toNat fun a0 _ _ d0 e0 _=>sMp hS (e0.up 2 rfl) 0 (Pt a0 0)<|jOR 4 rfl<|retT [Pt a0 0]<| .inr ⟨_,om,d0,rfl,hS⟩
theorem am_runs {p wb wo:Nat} {H:Chunk} {oa ja:Option Addr} {on ok wn wk jn jk:Nat} {rd:Int} {ws:List Wk} {jobs:List JA} {ps:List Nat} {Wc Jc:Chunk} {jcs F:List Chunk} {K:Int} (hOw:OwnT encWk 200 5 (some ⟨wb,wo,none⟩) wn wk ws Wc) (hOj:OwnT encP 217 1 ja jn jk ps Jc) (hJs:Obs (JobA H) ps jobs jcs) (hJW:∀j∈jobs,JW K j) (x:Int) (hS:Sat W w ([(p, .cells #[.slice oa on ok, .slice (some ⟨wb,wo,none⟩) wn wk, .slice ja jn jk,I rd] 147 (0,0))]::Wc::Jc::jcs.flatten::H::F)):
  Calls prog 183 #[Pt p 0,I x] w fun e w'=>e= .returned (.bool (runsM jobs x))/\Sat W w' ([(p, .cells #[.slice oa on ok, .slice (some ⟨wb,wo,none⟩) wn wk, .slice ja jn jk,I rd] 147 (0,0))]::Wc::Jc::jcs.flatten::H::F):=by
 have q0:=hOw.ll;have n0:=hOj.ll;have o0:=hJs.1
 refine callsK 15 func183 rfl<|jCO 9 rfl ?_
 have f0:=(hS.picks [4,4,4,4,4])
 refine cZ (am_job hOw hOj hJs hJW x f0) ?_
 rintro _ _ (⟨a0,rfl,b0⟩|⟨_,a0,g0,rfl,b0⟩)
 ·exact jOR 15 rfl<|retT [.bool false]<|⟨rB (by unfold runsM;rw [decide_eq_false a0];rfl),b0⟩
 refine jOO 9 rfl<|gY ?_
 obtain ⟨h0,i0,d0,c0,j0⟩:=Obs.get hJs g0
 have k0:=(b0.pick 3 rfl)
 refine cZ (aj_run j0 (hJW _ (List.mem_of_getElem? d0)) (Sat.openN (A:=[]) (x.toNat) c0 k0)) ?_
 rintro _ _ ⟨rfl,m0⟩
 have e0:=Sat.shutN (d:=i0) (A:=[]) (x.toNat) c0 m0;rw [set_same c0] at e0
 exact jOR 5 rfl<|retT [.bool (runJ h0)]<|⟨rB (by unfold runsM;rw [decide_eq_true a0,getD_some d0];simp),(e0.picks [3,3,3])⟩
theorem aw_holds {wb wo:Nat} {wn wk:Nat} {ws:List Wk} {Wc:Chunk} {F:List Chunk} (hOw:OwnT encWk 200 5 (some ⟨wb,wo,none⟩) wn wk ws Wc) (k:Nat) (v:Wk) (hv:ws[k]?=some v) (hS:Sat W w (Wc::F)):
  Calls prog 184 #[.pointer (some ⟨wb,wo+k*5,none⟩)] w fun e w'=>e= .returned (.bool (decide (v.phase≠0/\v.phase≠4)))/\Sat W w' (Wc::F):=by
 have a0:=OwnT.ptr hOw rfl hv
 exact callsK 15 func184 rfl<|jCO 10 rfl<|sMp hS (a0.up 0 rfl) 0 (I v.phase)<|pu2<|sN 8 v.phase 0 (fun b0=>jOR 10 rfl<|retT [.bool false]<|⟨rB ((decide_eq_false om).symm),hS⟩) fun b0=>pu3<|gY<|sMp hS (a0.up 0 rfl) 0 (I v.phase)<|jOR 6 rfl<|retT [.bool ((v.phase:Int)!=4)]<|⟨rB (by rw [Bool.eq_iff_iff];simp only [decide_eq_true_eq,bne_iff_ne,ne_eq];omega),hS⟩
theorem am_busy {p wb wo:Nat} {H:Chunk} {oa ja:Option Addr} {on ok wn wk jn jk:Nat} {rd:Int} {ws:List Wk} {jobs:List JA} {ps:List Nat} {Wc Jc:Chunk} {jcs F:List Chunk} {K:Int} (hOw:OwnT encWk 200 5 (some ⟨wb,wo,none⟩) wn wk ws Wc) (hOj:OwnT encP 217 1 ja jn jk ps Jc) (hJs:Obs (JobA H) ps jobs jcs) (hJW:∀j∈jobs,JW K j) (k:Nat) (v:Wk) (hv:ws[k]?=some v) (hS:Sat W w ([(p, .cells #[.slice oa on ok, .slice (some ⟨wb,wo,none⟩) wn wk, .slice ja jn jk,I rd] 147 (0,0))]::Wc::Jc::jcs.flatten::H::F)):
  Calls prog 154 #[Pt p 0, .pointer (some ⟨wb,wo+k*5,none⟩)] w fun e w'=>e= .returned (.bool (busyM jobs v))/\Sat W w' ([(p, .cells #[.slice oa on ok, .slice (some ⟨wb,wo,none⟩) wn wk, .slice ja jn jk,I rd] 147 (0,0))]::Wc::Jc::jcs.flatten::H::F):=by
 have k0:=hOw.ll;have h0:=hOj.ll;have i0:=hJs.1
 have c0:=OwnT.ptr hOw rfl hv
 refine callsK 16 func154 rfl<|jCO 8 rfl ?_
 have d0:=(hS.pick 1 rfl)
 refine cZ (aw_holds hOw k v hv d0) ?_
 rintro _ _ ⟨rfl,a0⟩
 refine pu1<|SD 7 ((v.phase≠0/\v.phase≠4)) (fun b0=>jOR 12 rfl<|retT [.bool false]<|⟨rB (by unfold busyM;rw [decide_eq_false b0];rfl),(a0.pick 1 rfl)⟩) fun b0=>pu5<|gY<|sMp a0 (c0.up 0 rfl) 1 (I v.heldJob)<|gY ?_
 have f0:=(a0.picks [4,4,4,3,4])
 refine cZ (am_runs hOw hOj hJs hJW v.heldJob f0) ?_
 rintro _ _ ⟨rfl,g0⟩
 exact jOR 5 rfl<|retT [.bool (runsM jobs v.heldJob)]<|⟨rB (by unfold busyM;rw [decide_eq_true b0];simp),g0⟩
theorem am_another {p wb wo:Nat} {H:Chunk} {oa ja:Option Addr} {on ok wn wk jn jk:Nat} {rd:Int} {ws:List Wk} {jobs:List JA} {ps:List Nat} {Wc Jc:Chunk} {jcs F:List Chunk} {K:Int} (hOw:OwnT encWk 200 5 (some ⟨wb,wo,none⟩) wn wk ws Wc) (hOj:OwnT encP 217 1 ja jn jk ps Jc) (hJs:Obs (JobA H) ps jobs jcs) (hJW:∀j∈jobs,JW K j) (ev:Evt) (hS:Sat W w ([(p, .cells #[.slice oa on ok, .slice (some ⟨wb,wo,none⟩) wn wk, .slice ja jn jk,I rd] 147 (0,0))]::Wc::Jc::jcs.flatten::H::F)):
  Calls prog 153 #[Pt p 0, .agg (encEvt ev).toArray] w fun e w'=>e= .returned (.bool (anotherE ws.length ev))/\Sat W w' ([(p, .cells #[.slice oa on ok, .slice (some ⟨wb,wo,none⟩) wn wk, .slice ja jn jk,I rd] 147 (0,0))]::Wc::Jc::jcs.flatten::H::F):=by
 have k0:=hOw.ll;have g0:=hOj.ll;have i0:=hJs.1
 exact callsK 25 func153 rfl<|jCO 2 rfl<|sBx hS (encEvt ev) fun _ _ a0=>jOC 4 rfl<|bC ((ev.from_:Int)>=0) (fun b0=>drawF a0 [] (fb 1 0 2 1<|fn) [0,1,2,3,4,6,7,8,5,9,10,11,12,13,14,16,15,17,18,19,20] fun _ d0=>wV 1<|wL 0<|wV 2<|wFix 8 _ false (decide_eq_false b0)<|wV 17<|wN<|jXR 2 rfl<|retT [.bool false]<|⟨rB (by unfold anotherE;exact (decide_eq_false om).symm),(d0.dropAt 0 rfl)⟩) fun b0=>bC ((ev.from_:Int)<(wn:Int)) (fun c0=>drawF a0 [] (fb 1 0 2 1<|fb 5 0 2 1<|fb 9 1 1 1<|fn) [0,1,2,3,4,6,7,8,5,9,10,11,12,13,14,16,15,17,18,19,20] fun _ f0=>wV 1<|wL 0<|wV 2<|wFix 8 _ true (decide_eq_true b0)<|wV 4<|wL 1<|wL 2<|wV 4<|wFix 18 _ false (decide_eq_false c0)<|wV 7<|wN<|jXR 2 rfl<|retT [.bool false]<|⟨rB (by unfold anotherE;exact (decide_eq_false om).symm),(f0.dropAt 0 rfl)⟩) fun c0=>drawF a0 [] (fb 1 0 2 1<|fb 5 0 2 1<|fb 9 1 1 1<|fb 15 0 2 1<|fb 17 0 1 1<|fn) [0,1,2,3,4,6,7,8,5,9,10,11,12,13,14,16,15,17,18,19,20] fun _ h0=>wV 1<|wL 0<|wV 2<|wFix 8 _ true (decide_eq_true b0)<|wV 4<|wL 1<|wL 2<|wV 4<|wFix 18 _ true (decide_eq_true c0)<|wV 2<|wL 3<|wL 4<|wV 3<|wN<|jXR 2 rfl<|retT [.bool ((ev.from_:Int)!=ev.worker)]<|⟨rB (by unfold anotherE;exact (by rw [Bool.eq_iff_iff];simp only [decide_eq_true_eq,bne_iff_ne,ne_eq];omega)),(h0.dropAt 0 rfl)⟩
theorem am_any {p wb wo:Nat} {H:Chunk} {oa ja:Option Addr} {on ok wn wk jn jk:Nat} {rd:Int} {ws:List Wk} {jobs:List JA} {ps:List Nat} {Wc Jc:Chunk} {jcs F:List Chunk} {K:Int} (hOw:OwnT encWk 200 5 (some ⟨wb,wo,none⟩) wn wk ws Wc) (hOj:OwnT encP 217 1 ja jn jk ps Jc) (hJs:Obs (JobA H) ps jobs jcs) (hJW:∀j∈jobs,JW K j) (hS:Sat W w ([(p, .cells #[.slice oa on ok, .slice (some ⟨wb,wo,none⟩) wn wk, .slice ja jn jk,I rd] 147 (0,0))]::Wc::Jc::jcs.flatten::H::F)):
  Calls prog 159 #[Pt p 0] w fun e w'=>e= .returned (.bool (ws.any (busyM jobs)))/\Sat W w' ([(p, .cells #[.slice oa on ok, .slice (some ⟨wb,wo,none⟩) wn wk, .slice ja jn jk,I rd] 147 (0,0))]::Wc::Jc::jcs.flatten::H::F):=by
 have n0:=hOw.ll;have k0:=hOj.ll;have l0:=hJs.1
 refine callsK 21 func159 rfl<|gCC hS 17 [0] rfl<|loopF [0,8] (γ:=Nat) (fun i R=>⟨[(9,I (i:Int))],R,wn-i,i<=wn/\((ws.take i).any (busyM jobs)=false)⟩) 0 ⟨hS,om,rfl⟩ ?_
 rintro i ρ _ ⟨a0,hi,i0⟩
 refine jCC 6 rfl<|CD ((i:Int)<(wn:Int)) (fun f0=>jCR 11 rfl<|retT [.bool false]<|⟨rB (by rw [<-i0,List.take_of_length_le om]),a0⟩) fun f0=>gCO a0 18 [0] rfl<|sIO hOw (i:Int) i fun d0 _ _ b0 _ g0=>?_
 obtain ⟨rfl,rfl⟩:=some_addr g0
 have h0:=(a0.picks [4,4,4,4,4])
 refine cZ (am_busy hOw hOj hJs hJW i d0 b0 h0) ?_
 rintro _ _ ⟨rfl,e0⟩
 exact jOC 2 rfl<|cB (busyM jobs d0) (fun c0=>jCR 11 rfl<|retT [.bool true]<|⟨rB ((any_hit b0 c0).symm),e0⟩) fun c0=>jCO 4 rfl<|sAdd (i:Int) 1<|jOI 2 rfl<|⟨i+1,od,alB,e0,om,(any_take b0 i0 (Bool.eq_false_iff.2 c0))⟩
end Go.Proofs.YtkadmghedmodbaaGreat
