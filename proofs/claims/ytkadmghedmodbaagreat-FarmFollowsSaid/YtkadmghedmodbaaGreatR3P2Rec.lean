import Derived.Test.YtkadmghedmodbaaGreatR3P2Fm4
import Derived.Test.YtkadmghedmodbaaGreatR3P2Fm6
set_option linter.all false
namespace Go.Proofs.YtkadmghedmodbaaGreat
open Go Go.E Go.Proofs.Tryz
set_option linter.all false
set_option maxRecDepth 100000
set_option maxHeartbeats 2000000
variable {W w:World} {H:Chunk} {F:List Chunk}
structure TL where
  l:Sl Task
structure TLV where
  l:List TaskV
  deriving DecidableEq
def TL.v (x:TL):TLV:=⟨x.l.l.map Task.v⟩
structure TL.Ok (cs:List Chunk) (q:TL):Prop where
  l:RdT encTask 9 cs q.l.a q.l.n q.l.k q.l.l
  lD:∀z∈q.l.l,Task.Ok cs z
theorem TL.Ok.of_mem {cs cs':List Chunk} {x:TL} (h:TL.Ok cs x) (hm:∀p∈cs.flatten,p∈cs'.flatten):TL.Ok cs' x:=⟨h.l.of_mem hm,fun y hy=>(h.lD y hy).of_mem hm⟩
theorem tg_config {p:Nat} {a:Option Addr} {n k:Nat} {i:Int} {xs:List Int} (hR:RdT Go.E.encI 1 [H] a n k xs) (hi:0<=i/\i<=n) (hS:Sat W w ([(p, .cells #[.slice a n k,I i] 72 (0,0))]::H::F)):
  Calls prog 12 #[Pt p 0] w fun e w'=>∃(c:Cfg),e= .returned (.agg (encCfg c).toArray)/\(validCfg c=0)/\(c.workers<=4)/\∃i':Int,(0<=i'/\i'<=n)/\Sat W w' ([(p, .cells #[.slice a n k,I i'] 72 (0,0))]::H::F):=by
 have q0:=hR.le
 refine callsK 28 func12 rfl<|jCO 2 rfl<|sAlloc hS zeroValue24 fun _ _ j0=>jOO 5 rfl ?_
 have k0:=(j0.pick 1 rfl)
 refine cZ (tape_next (hR.fl 1) om k0.flat1 4 om) ?_
 rintro _ _ ⟨f0,rfl,_,_,_,l0⟩
 have m0:=l0.unflat1
 refine sAdd 1 f0<|pu1<|cZ (tape_next (hR.fl 1) om m0.flat1 4 om) ?_
 rintro _ _ ⟨g0,rfl,_,_,_,n0⟩
 have o0:=n0.unflat1
 refine sAdd 1 g0<|pu1<|cZ (tape_next (hR.fl 1) om o0.flat1 4 om) ?_
 rintro _ _ ⟨h0,rfl,_,_,_,p0⟩
 refine sAdd 1 h0<|pu1<|sBK p0.unflat1 #[I 4096,I 65536,I 512] 3 fun _ _ r0=>?_
 have s0:=(r0.pick 1 rfl)
 refine cZ (tape_pick (hR.fl 2) om s0.flat1 (RdT.flat (RdT.blk (enc:=Go.E.encI) (sz:=1) (xs:=[4096,65536,512]) (fun _=>(by rfl)) 3 0 rfl rfl rfl om)) om om) ?_
 rintro _ _ ⟨a0,rfl,t0,_,_,u0⟩
 have v0:=u0.unflat1
 have l2:(a0:Int)=4096\/(a0:Int)=65536\/(a0:Int)=512:=by simpa using t0
 refine pu1<|sBK v0 #[I 1,I 2,I 8] 3 fun _ _ w0=>?_
 have x0:=(w0.pick 1 rfl)
 refine cZ (tape_pick (hR.fl 3) om x0.flat1 (RdT.flat (RdT.blk (enc:=Go.E.encI) (sz:=1) (xs:=[1,2,8]) (fun _=>(by rfl)) 3 0 rfl rfl rfl om)) om om) ?_
 rintro _ _ ⟨b0,rfl,y0,_,_,z0⟩
 have a1:=z0.unflat1
 have s2:(b0:Int)=1\/(b0:Int)=2\/(b0:Int)=8:=by simpa using y0
 refine pu1<|sBK a1 #[I 512,I 4096,I 60] 3 fun _ _ b1=>?_
 have c1:=(b1.pick 1 rfl)
 refine cZ (tape_pick (hR.fl 4) om c1.flat1 (RdT.flat (RdT.blk (enc:=Go.E.encI) (sz:=1) (xs:=[512,4096,60]) (fun _=>(by rfl)) 3 0 rfl rfl rfl om)) om om) ?_
 rintro _ _ ⟨c0,rfl,d1,_,_,e1⟩
 have f1:=e1.unflat1
 have y2:(c0:Int)=512\/(c0:Int)=4096\/(c0:Int)=60:=by simpa using d1
 refine pu1<|sBK f1 #[I 20000,I 500] 3 fun _ _ g1=>?_
 have h1:=(g1.pick 1 rfl)
 refine cZ (tape_pick (hR.fl 5) om h1.flat1 (RdT.flat (RdT.blk (enc:=Go.E.encI) (sz:=1) (xs:=[20000,500]) (fun _=>(by rfl)) 2 0 rfl rfl rfl om)) om om) ?_
 rintro _ _ ⟨e0,rfl,i1,_,_,j1⟩
 have k1:=j1.unflat1
 have e3:(e0:Int)=20000\/(e0:Int)=500:=by simpa using i1
 refine pu1<|sBK k1 #[I 8,I 64,I 2] 3 fun _ _ l1=>?_
 have m1:=(l1.pick 1 rfl)
 refine cZ (tape_pick (hR.fl 6) om m1.flat1 (RdT.flat (RdT.blk (enc:=Go.E.encI) (sz:=1) (xs:=[8,64,2]) (fun _=>(by rfl)) 3 0 rfl rfl rfl om)) om om) ?_
 rintro _ _ ⟨d0,rfl,n1,_,_,o1⟩
 have q1:=o1.unflat1
 have k3:(d0:Int)=8\/(d0:Int)=64\/(d0:Int)=2:=by simpa using n1
 refine pu1<|sTk q1 6 rfl [I (1+f0),I (1+g0),I (1+h0),I a0,I b0,I c0,I e0,I d0] fun _ i0=>jOR 3 rfl<|retN (vs:=[.agg #[I (1+f0),I (1+g0),I (1+h0),I a0,I b0,I c0,I e0,I d0]]) rfl (.cons (.cell _ _ _ _ kr (lvA i0 6 0 [I (1+f0),I (1+g0),I (1+h0),I a0,I b0,I c0,I e0,I d0] (isAgg24 _) (sizeOf24 _) rfl rfl rfl)) .nil) ?_
 have hv:validCfg (⟨(1+f0),(1+g0),(1+h0),a0,b0,c0,e0,d0⟩:Cfg)=0:=by unfold validCfg;rw [if_pos (by dsimp only;omega)]
 exact ⟨_,rfl,hv,by dsimp only;omega,_,om,(i0.drops [1,1,1,1,1,1])⟩
inductive Tr (c:Cfg):Nat->List (List Task)->List Evt->FS->Prop
  |nil:Tr c 0 [] [] (newF c)
  |add {K:Nat} {js:List (List Task)} {es:List Evt} {F:FS} (l:List Task) (bd:Int):Tr c K js es F->js.length<4->0<=bd/\bd<4->validC l=0->l.length<=5->(∀z∈l,z.scratch<=512)->
      Tr c (K+1) (js++[l]) (es++[⟨1,0,0,((js.length:Nat):Int),0,0,0⟩]) (addF F ((js.length:Nat):Int) l bd)
  |cancel {K:Nat} {js:List (List Task)} {es:List Evt} {F:FS} (k:Int):Tr c K js es F->Tr c (K+1) js (es++(cancelF F k).2.1) (cancelF F k).1
  |crash {K:Nat} {js:List (List Task)} {es:List Evt} {F:FS} (x:Int):Tr c K js es F->Tr c (K+1) js (es++(crashF F x).2.1) (crashF F x).1
  |restart {K:Nat} {js:List (List Task)} {es:List Evt} {F:FS} (x:Int):Tr c K js es F->Tr c (K+1) js (es++(restartF F x).2.1) (restartF F x).1
  |step {K:Nat} {js:List (List Task)} {es:List Evt} {F:FS} (x y:Int):Tr c K js es F->Tr c (K+1) js (es++(stepF F x y).2.1) (stepF F x y).1
def Same (F G:FS):Prop:=G.cfg=F.cfg/\G.ws.length=F.ws.length
theorem Same.take {F:FS} {x:Int} {r:Ref}:Same F (takeF F x r):=⟨rfl,by simp [takeF]⟩
theorem Same.trans {F G H:FS} (h:Same F G) (k:Same G H):Same F H:=⟨k.1.trans h.1,k.2.trans h.2⟩
theorem spill_same {x job band:Int}:∀(l:List Int) {F:FS},Same F (spillF F x job band l)
  |[],_=>⟨rfl,rfl⟩
  |t::l,F=>by
    have h:Same F (spill1 F x ⟨job,t⟩ band):=by unfold spill1;split<;>exact ⟨rfl,rfl⟩
    exact h.trans (spill_same l)
theorem micro_same {F:FS} {x:Int}:Same F (microF F x).1:=by
  unfold microF
  simp only
  split
  · exact ⟨rfl,by simp⟩
  · split
    · exact ⟨rfl,by simp⟩
    · split<;>exact ⟨(spill_same _).1,(spill_same _).2.trans (by simp)⟩
theorem acq_same {F F':FS} {x c:Int} {ev:Evt} (he:acqF F x c=some (F',ev)):Same F F':=by
  unfold acqF at he
  split at he
  · obtain ⟨rfl,_⟩:=Prod.mk.inj (Option.some.inj he);exact Same.take (F:=popF F x _)
  · split at he
    · obtain ⟨rfl,_⟩:=Prod.mk.inj (Option.some.inj he);exact ⟨rfl,by simp [takeF]⟩
    · unfold stealF at he
      split at he
      · cases he
      · split at he
        · cases he
        · obtain ⟨rfl,_⟩:=Prod.mk.inj (Option.some.inj he);exact ⟨rfl,by simp [takeF,popF]⟩
theorem step_same {F:FS} {x c:Int}:Same F (stepF F x c).1:=by
  unfold stepF
  split
  · exact ⟨rfl,rfl⟩
  · split
    · exact ⟨rfl,rfl⟩
    · split
      · split
        · exact micro_same
        · exact ⟨rfl,by simp [dropF,clearF]⟩
      · unfold restF
        split
        · rename_i q hq;exact acq_same (ev:=q.2) hq
        · split
          · exact Same.trans (G:=helpF F) ⟨rfl,rfl⟩ micro_same
          · exact ⟨rfl,rfl⟩
theorem crash_same {F:FS} {x:Int}:Same F (crashF F x).1:=by
  unfold crashF
  split
  · exact ⟨rfl,rfl⟩
  · split
    · exact ⟨rfl,rfl⟩
    · exact (by have h:Same F (retJ F (wAt F x)):=(by unfold retJ;split<;>exact ⟨rfl,rfl⟩);exact h.trans ⟨rfl,by simp [crashW,clearF,popF]⟩)
theorem restart_same {F:FS} {x:Int}:Same F (restartF F x).1:=by
  unfold restartF
  split
  · exact ⟨rfl,rfl⟩
  · split
    · exact ⟨rfl,by simp [idleF]⟩
    · exact ⟨rfl,rfl⟩
theorem cancel_same {F:FS} {k:Int}:Same F (cancelF F k).1:=by
  unfold cancelF
  split
  · exact ⟨rfl,rfl⟩
  · split<;>exact ⟨rfl,rfl⟩
def totS (S:List (Bool×Nat)):Nat:=(S.map fun q=>if q.1 then q.2 else 0).sum
theorem load_le:∀{l:List JS},(∀j∈l,j.running=true->j.added=true)->loadL l<=((totS (shapeF l):Nat):Int)
  |[],_=>by simp [loadL,totS,shapeF]
  |j::l,h=>by
    have ih:=load_le (l:=l) (fun y hy=>h y (List.mem_cons_of_mem _ hy))
    have h1:=h j List.mem_cons_self
    simp only [loadL,totS,shapeF,List.map_cons,List.filter_cons,List.sum_cons] at ih⊢
    cases hr:j.running
    · simp only [Bool.false_eq_true,if_false];split<;>omega
    · simp only [if_true,h1 hr,List.map_cons,List.sum_cons];omega
theorem tot_set:∀{S:List (Bool×Nat)} {k m n:Nat},S[k]?=some (false,m)->totS (S.set k (true,n))=totS S+n
  |[],_,_,_,h=>by cases h
  |q::S,0,m,n,h=>by
    simp only [List.getElem?_cons_zero,Option.some.injEq] at h
    subst h;simp [totS];omega
  |q::S,k+1,m,n,h=>by
    have ih:=tot_set (S:=S) (k:=k) (m:=m) (n:=n) (by simpa using h)
    simp only [totS,List.set_cons_succ,List.map_cons,List.sum_cons] at ih⊢;omega
structure RecI (c:Cfg) (F:FS) (nj:Nat) (K:Int):Prop where
  fw:FW F K
  st:StOk F.st K
  cf:F.cfg=c
  ws:F.ws.length=c.workers.toNat
  s1:∀k,nj<=k->k<64->∃m,(shapeF F.jobs)[k]?=some (false,m)
  s2:totS (shapeF F.jobs)<=5*nj
  n4:nj<=4
theorem RecI.op {c:Cfg} {F G:FS} {nj:Nat} {K:Int} (h:RecI c F nj K) (ok:FW G (K+1)/\StOk G.st (K+1)/\shapeF G.jobs=shapeF F.jobs) (hs:Same F G):RecI c G nj (K+1):=
  ⟨ok.1,ok.2.1,hs.1.trans h.cf,hs.2.trans h.ws,by rw [ok.2.2];exact h.s1,by rw [ok.2.2];exact h.s2,h.n4⟩
theorem Tr.inv {c:Cfg} {K:Nat} {js:List (List Task)} {es:List Evt} {F:FS} (hv:validCfg c=0) (h:Tr c K js es F):K<=4000->RecI c F js.length (K:Int):=by
 induction h with
 |nil=>
  intro _
  obtain ⟨h1,h2⟩:=newF_ok hv
  refine ⟨h1,h2,rfl,by simp [newF],?_,?_,by simp⟩
  · exact (by intro k _ hk;exact ⟨0,by simp only [newF,shapeF,List.map_replicate,List.getElem?_replicate,if_pos hk];rfl⟩)
  ·simp only [newF,shapeF,List.map_replicate,totS];simp [JS.zero]
 |@add K js es F l bd _ h4 hb hl h5 hs ih=>
  intro hK
  have i:=ih om
  obtain ⟨m,hm⟩:=i.s1 js.length (Nat.le_refl _) om
  have hj:∀j,F.jobs[(js.length:Int).toNat]?=some j->j.added=false:=(by intro j hj;rw [Int.toNat_natCast] at hj;unfold shapeF at hm;rw [List.getElem?_map,hj] at hm;exact (Prod.mk.inj (Option.some.inj hm)).1)
  have a:=add_ok (x:=(js.length:Int)) (bd:=bd) (l:=l) i.fw om hj hb hl
  have e:shapeF (addF F (js.length:Int) l bd).jobs=(shapeF F.jobs).set js.length (true,l.length):=(by simp only [addF,shapeF,List.map_set,Int.toNat_natCast,jobN,List.length_map])
  refine ⟨a.mono om om,i.st.mono om,i.cf,i.ws,?_,?_,by simp;omega⟩
  · exact (by intro k h1 h2;rw [List.length_append,List.length_singleton] at h1;obtain ⟨m2,a0⟩:=i.s1 k om h2;exact ⟨m2,by rw [e,List.getElem?_set,if_neg om];exact a0⟩)
  ·rw [e,tot_set hm,List.length_append,List.length_singleton];have:=i.s2;omega
 |cancel k _ ih=>intro hK;exact (ih om).op (by have:=ih om;exact cancel_ok this.fw this.st om) cancel_same
 |crash x _ ih=>intro hK;exact (ih om).op (by have:=ih om;exact crash_ok this.fw this.st om) crash_same
 |restart x _ ih=>intro hK;exact (ih om).op (by have:=ih om;exact restart_ok this.fw this.st om) restart_same
 |step x y _ ih=>intro hK;exact (ih om).op (by have:=ih om;exact step_ok this.fw this.st om) step_same
theorem RecI.fresh {c:Cfg} {F:FS} {nj:Nat} {K:Int} (h:RecI c F nj K) (hn:nj<4):∃j,F.jobs[(nj:Int).toNat]?=some j/\j.added=false:=by
  obtain ⟨m,hm⟩:=h.s1 nj (Nat.le_refl _) (by omega)
  rw [Int.toNat_natCast]
  unfold shapeF at hm;rw [List.getElem?_map] at hm
  cases hj:F.jobs[nj]? with
  |none=>rw [hj] at hm;cases hm
  |some j=>rw [hj] at hm;exact ⟨j,rfl,(Prod.mk.inj (Option.some.inj hm)).1⟩
theorem RecI.load {c:Cfg} {F:FS} {nj:Nat} {K:Int} (h:RecI c F nj K):loadL F.jobs<=20:=by
  have h1:=load_le (l:=F.jobs) (fun j hj=>(h.fw.j j hj).r)
  have h2:=h.s2
  have h3:=h.n4
  omega
def DI (F:FS):Prop:=∀d∈F.dq,((d.l.length:Nat):Int)<=d.cap/\d.cap=F.cfg.deque
theorem DI.at {F:FS} {x:Int} (h:DI F) (hx:x.toNat<F.dq.length):(((dqAt F x).l.length:Nat):Int)<=(dqAt F x).cap/\(dqAt F x).cap=F.cfg.deque:=by
  have:dqAt F x∈F.dq:=by unfold dqAt;rw [List.getD_eq_getElem?_getD,List.getElem?_eq_getElem hx];exact List.getElem_mem hx
  exact h _ this
theorem DI.set {F G:FS} {k:Nat} {d:DS} (h:DI F) (hc:G.cfg=F.cfg) (hd:G.dq=F.dq.set k d) (hk:k<F.dq.length->(d.l.length:Int)<=d.cap/\d.cap=F.cfg.deque):DI G:=by
  intro e he
  rw [hd] at he;rw [hc]
  by_cases hl:k<F.dq.length
  · rcases List.mem_or_eq_of_mem_set he with h1|rfl
    · exact h e h1
    · exact hk hl
  · rw [List.set_eq_of_length_le (by omega)] at he;exact h e he
theorem DI.keep {F G:FS} (h:DI F) (hc:G.cfg=F.cfg) (hd:G.dq=F.dq):DI G:=by unfold DI;rw [hd,hc];exact h
theorem DI.pop {F:FS} {x:Int} {l:List Ref} (h:DI F) (hl:l.length<=(dqAt F x).l.length):DI (popF F x l):=h.set rfl rfl fun k=>by
  have:=h.at k
  exact ⟨by show (l.length:Int)<=_;have:=this.1;show (l.length:Int)<=(dqAt F x).cap;omega,this.2⟩
theorem DI.spill1 {F:FS} {x:Int} {r:Ref} {b:Int} (h:DI F):DI (spill1 F x r b):=by
  unfold Go.Proofs.YtkadmghedmodbaaGreat.spill1
  split
  · rename_i hp
    refine h.set rfl rfl fun k=>?_
    have h1:=h.at k
    have e:F.dq.getD x.toNat default=dqAt F x:=rfl
    rw [e] at hp⊢
    unfold pushD;rw [if_pos hp]
    unfold pushC at hp
    split at hp
    · cases hp
    · exact ⟨by simp only [List.length_append,List.length_singleton];omega,h1.2⟩
  · exact h.keep rfl rfl
theorem DI.spill {x job band:Int}:∀(l:List Int) {F:FS},DI F->DI (spillF F x job band l)
  |[],_,h=>h
  |t::l,F,h=>DI.spill l (F:=Go.Proofs.YtkadmghedmodbaaGreat.spill1 F x ⟨job,t⟩ band) h.spill1
theorem DI.micro {F:FS} {x:Int} (h:DI F):DI (microF F x).1:=by
  unfold microF
  simp only
  split
  · exact h.keep rfl rfl
  · split
    · exact h.keep rfl rfl
    · split
      · refine DI.spill _ ?_;exact h.keep rfl rfl
      · refine DI.spill _ ?_;exact h.keep rfl rfl
theorem DI.take {F:FS} {x:Int} {r:Ref} (h:DI F):DI (takeF F x r):=h.keep rfl rfl
theorem DI.acq {F F':FS} {x c:Int} {ev:Evt} (h:DI F) (he:acqF F x c=some (F',ev)):DI F':=by
  unfold acqF at he
  split at he
  · obtain ⟨rfl,_⟩:=Prod.mk.inj (Option.some.inj he);exact (h.pop (by simp)).take
  · split at he
    · obtain ⟨rfl,_⟩:=Prod.mk.inj (Option.some.inj he);exact DI.take (h.keep rfl rfl)
    · unfold stealF at he
      split at he
      · cases he
      · split at he
        · cases he
        · obtain ⟨rfl,_⟩:=Prod.mk.inj (Option.some.inj he);exact DI.keep (F:=popF F (chF F c _) (dqAt F (chF F c _)).l.tail) (h.pop (by simp)) rfl rfl
theorem DI.step {F:FS} {x c:Int} (h:DI F):DI (stepF F x c).1:=by
  unfold stepF
  split
  · exact h
  · split
    · exact h
    · split
      · split
        · exact h.micro
        · exact h.keep rfl rfl
      · unfold restF
        split
        · rename_i q hq;exact h.acq (ev:=q.2) hq
        · split
          · exact DI.micro (h.keep rfl rfl)
          · exact h
theorem DI.crash {F:FS} {x:Int} (h:DI F):DI (crashF F x).1:=by
  unfold crashF
  split
  · exact h
  · split
    · exact h
    · exact (by have h1:DI (retJ F (wAt F x)):=(by unfold retJ;split<;>exact h.keep rfl rfl);exact DI.keep (F:=popF (retJ F (wAt F x)) x []) (h1.pop (Nat.zero_le _)) rfl rfl)
theorem DI.restart {F:FS} {x:Int} (h:DI F):DI (restartF F x).1:=by
  unfold restartF
  split
  · exact h
  · split
    · exact h.keep rfl rfl
    · exact h
theorem DI.cancel {F:FS} {k:Int} (h:DI F):DI (cancelF F k).1:=by
  unfold cancelF
  split
  · exact h
  · split
    · exact h
    · exact (by intro d hd;obtain ⟨e,he,rfl⟩:=List.mem_map.1 (show d∈F.dq.map (rmD k) from hd);have h1:=h e he;exact ⟨by have:=without_len k e.l;show ((_:Nat):Int)<=e.cap;have:=h1.1;simp only [rmD];omega,h1.2⟩)
structure PJ (c:Cfg) (F:FS) (K:Int) (n:Nat):Prop where
  j:FJ F K n
  cf:F.cfg=c
  ws:F.ws.length=c.workers.toNat
  dq:DI F
  s1:∀k,n<=k->k<64->∃m,(shapeF F.jobs)[k]?=some (false,m)
  s0:∀k,k<n->∃m,(shapeF F.jobs)[k]?=some (true,m)
  s2:totS (shapeF F.jobs)<=8*n
theorem PJ.op {c:Cfg} {F G:FS} {K L:Int} {n:Nat} (h:PJ c F K n) (hj:FJ G L n) (hs:Same F G) (hd:DI G) (e:shapeF G.jobs=shapeF F.jobs):PJ c G L n:=
  ⟨hj,hs.1.trans h.cf,hs.2.trans h.ws,hd,by rw [e];exact h.s1,by rw [e];exact h.s0,by rw [e];exact h.s2⟩
theorem PJ.mono {c:Cfg} {F:FS} {K L:Int} {n:Nat} (h:PJ c F K n) (hk:K<=L) (hL:L<=4096):PJ c F L n:=⟨h.j.mono hk hL (Nat.le_refl _),h.cf,h.ws,h.dq,h.s1,h.s0,h.s2⟩
theorem PJ.step {c:Cfg} {F:FS} {K:Int} {n:Nat} (x y:Int) (h:PJ c F K n) (hK:K+1<=4096):PJ c (stepF F x y).1 (K+1) n:=h.op (h.j.step hK) step_same h.dq.step (step_ok h.j.i.fw h.j.i.st hK).2.2
theorem PJ.crash {c:Cfg} {F:FS} {K:Int} {n:Nat} (x:Int) (h:PJ c F K n) (hK:K+1<=4096):PJ c (crashF F x).1 (K+1) n:=h.op (h.j.crash hK) crash_same h.dq.crash (crash_ok h.j.i.fw h.j.i.st hK).2.2
theorem PJ.restart {c:Cfg} {F:FS} {K:Int} {n:Nat} (x:Int) (h:PJ c F K n) (hK:K+1<=4096):PJ c (restartF F x).1 (K+1) n:=h.op (h.j.restart hK) restart_same h.dq.restart (restart_ok h.j.i.fw h.j.i.st hK).2.2
theorem PJ.cancel {c:Cfg} {F:FS} {K:Int} {n:Nat} (x:Int) (h:PJ c F K n) (hK:K+1<=4096):PJ c (cancelF F x).1 (K+1) n:=h.op (h.j.cancel hK) cancel_same h.dq.cancel (cancel_ok h.j.i.fw h.j.i.st hK).2.2
theorem PJ.new {c:Cfg} (hv:validCfg c=0):PJ c (newF c) 0 0:=by
  refine ⟨FJ.new hv,rfl,by simp [newF],?_,?_,?_,?_⟩
  · exact (by intro d hd;simp only [newF] at hd;obtain rfl:=List.eq_of_mem_replicate hd;have:=validCfg_zero hv;exact ⟨by show (0:Int)<=c.deque;omega,rfl⟩)
  · exact (by intro k _ hk;exact ⟨0,by simp only [newF,shapeF,List.map_replicate,List.getElem?_replicate,if_pos hk];rfl⟩)
  · intro k hk;omega
  · simp only [newF,shapeF,List.map_replicate,totS];simp [JS.zero]
theorem PJ.fresh {c:Cfg} {F:FS} {K:Int} {n:Nat} (h:PJ c F K n) (hn:n<64):∃j,F.jobs[(n:Int).toNat]?=some j/\j.added=false:=by
  obtain ⟨m,hm⟩:=h.s1 n (Nat.le_refl _) hn
  rw [Int.toNat_natCast]
  unfold shapeF at hm;rw [List.getElem?_map] at hm
  cases hj:F.jobs[n]? with
  |none=>rw [hj] at hm;cases hm
  |some j=>rw [hj] at hm;exact ⟨j,rfl,(Prod.mk.inj (Option.some.inj hm)).1⟩
theorem PJ.load {c:Cfg} {F:FS} {K:Int} {n:Nat} (h:PJ c F K n):loadL F.jobs<=8*(n:Int):=by
  have h1:=load_le (l:=F.jobs) (fun j hj=>(h.j.i.fw.j j hj).r)
  have h2:=h.s2
  omega
theorem PJ.add {c:Cfg} {F:FS} {K bd:Int} {n:Nat} {l:List Task} (h:PJ c F K n) (hn:n<8) (hb:0<=bd/\bd<4) (hv:validC l=0) (hs:∀z∈l,z.scratch<=F.cfg.arena) (hc:64<=c.tasks) (hl:l.length<=8):PJ c (addF F (n:Int) l bd) K (n+1):=by
 obtain ⟨j,hj,ha⟩:=h.fresh om
 have b0:=h.load
 obtain ⟨m,hm⟩:=h.s1 n (Nat.le_refl _) om
 have e:shapeF (addF F (n:Int) l bd).jobs=(shapeF F.jobs).set n (true,l.length):=(by simp only [addF,shapeF,List.map_set,Int.toNat_natCast,jobN,List.length_map])
 have hL:(shapeF F.jobs).length=64:=by unfold shapeF;rw [List.length_map];exact h.j.i.fw.jl
 refine ⟨h.j.add om hj ha hb hv hs (by rw [h.cf];omega) om,h.cf,h.ws,h.dq.keep rfl rfl,?_,?_,?_⟩
 · exact (by intro k h1 h2;obtain ⟨m2,a0⟩:=h.s1 k om h2;exact ⟨m2,by rw [e,List.getElem?_set,if_neg om];exact a0⟩)
 ·intro k hk
  by_cases h1:k=n
  ·subst h1;exact ⟨l.length,by rw [e,List.getElem?_set,if_pos rfl,if_pos om]⟩
  · exact (by obtain ⟨m2,a0⟩:=h.s0 k om;exact ⟨m2,by rw [e,List.getElem?_set,if_neg om];exact a0⟩)
 ·rw [e,tot_set hm];have:=h.s2;omega
theorem jobM_zero {x:FJob} {s:JS} {c:Chunk} (h:JobM x s c) (ha:s.added=false):x=⟨false,false,0,⟨none,0,0,[]⟩,none⟩:=by
  rcases h with ⟨_,h,_⟩|⟨h,_⟩
  · exact h
  · rw [ha] at h;cases h
theorem allK_step {p:Int->Bool} {i:Nat}:(allK (i+1)).filter p=(allK i).filter p++if p (i:Int)=true then [(i:Int)] else []:=by
  unfold allK
  rw [List.range_succ,List.map_append,List.filter_append]
  congr 1
  simp only [List.map_cons,List.map_nil,List.filter_cons,List.filter_nil]
theorem runJ_at {jobs:List JS} {i:Nat} {j:JS} (h:jobs[i]?=some j):runJ9 jobs (i:Int)=j.running:=by unfold runJ9;rw [Int.toNat_natCast,getD_some h]
theorem f_workers {p:Nat} {F:FS} {M:Chunk} {F0:List Chunk} (hR:FarmR p F M) {K:Int} (hF:FI F K) (hS:Sat W w (M::H::F0)):
  Calls prog 85 #[Pt p 0] w fun e w'=>∃(az:Option Addr) (nz kz:Nat) (Z:Chunk),e= .returned (.slice az nz kz)/\OwnT encWkr 129 7 az nz kz (F.ws) Z/\Sat W w' (Z::M::H::F0):=by
 obtain ⟨wa,aa,da,wn,wk,an,ak,dn,dk,q,xs,ap,dp,Wc,Ac,Dc,Qc,j0,k0,u0,rfl,b0,c0,i0,l0,m0,hQ,n0,D0⟩:=hR
 have hS:Sat W _ ((Tri p 101 (preF F.cfg wa wn wk aa an ak da dn dk q) (xs.flatMap encFJob) (encStt F.st))::Wc::Ac::Dc::j0.flatten::k0.flatten::Qc::u0.flatten::H::F0):=Sat.perm hS (by simp [Value.cells])
 have C0:=b0.ll;have x0:=c0.ll;have z0:=i0.ll;have p0:=l0.1;have r0:=m0.1;have t0:=n0.1
 have v0:=hF.fw.k;have A0:=hF.fw.n;have o0:=hF.fw.al;have q0:=hF.fw.dl;have s0:=hF.fw.jl
 refine callsK 10 func85 rfl<|jCO 9 rfl<|cZ (f_zero om hS) ?_
 rintro _ _ ⟨rfl,a0⟩
 exact jOO 10 rfl<|sMp a0 (ptr_up 0 rfl tri_pre) 8 (.slice wa wn wk)<|sApp (nb:=56) (Sat.nilc a0) (OwnT.nil (enc:=encWkr) (E:=129) (sz:=7) fR) 0 (b0.rdAt 2 rfl) underlying92 (i:=Tryz.t129) kr fR fun d0 e0 _ _ f0 g0=>jOR 4 rfl<|retT [.slice d0 (0+wn) e0]<|(by have h0:=(g0.picks [8,8,8,8,8,8,8,8]);exact ⟨_,_,_,_,rfl,(by rw [<-List.nil_append F.ws];exact f0),((h0.merge8).pick 1 rfl)⟩)
theorem f_jobs {p:Nat} {F:FS} {M:Chunk} {F0:List Chunk} (hR:FarmR p F M) {K:Int} (hF:FI F K) (hS:Sat W w (M::H::F0)):
  Calls prog 89 #[Pt p 0] w fun e w'=>∃(az:Option Addr) (nz kz:Nat) (Z:Chunk),e= .returned (.slice az nz kz)/\OwnT Go.E.encI 3 1 az nz kz (runK F.jobs) Z/\Sat W w' (Z::M::H::F0):=by
 obtain ⟨wa,aa,da,wn,wk,an,ak,dn,dk,q,xs,ap,dp,Wc,Ac,Dc,Qc,D0,E0,P0,rfl,B0,z0,A0,G0,H0,hQ,y0,O0⟩:=hR
 have hS:Sat W _ ((Tri p 101 (preF F.cfg wa wn wk aa an ak da dn dk q) (xs.flatMap encFJob) (encStt F.st))::Wc::Ac::Dc::D0.flatten::E0.flatten::Qc::P0.flatten::H::F0):=Sat.perm hS (by simp [Value.cells])
 have X0:=B0.ll;have S0:=z0.ll;have U0:=A0.ll;have J0:=G0.1;have L0:=H0.1;have N0:=y0.1
 have Q0:=hF.fw.k;have V0:=hF.fw.n;have I0:=hF.fw.al;have K0:=hF.fw.dl;have M0:=hF.fw.jl
 refine callsK 26 func89 rfl<|jCC 17 rfl<|loopF [0] (γ:=Nat×(List Int)×SO) (fun ⟨i,zs,o0,i0,q0,x0⟩ R=>⟨[(4,I (i:Int)),(3, .slice o0 i0 q0)],x0::R,64-i,i<=64/\(zs=(allK i).filter (runJ9 F.jobs))/\(zs.length<=i)/\OwnT Go.E.encI 3 1 o0 i0 q0 zs x0⟩) (0,[],none,0,0,[]) ⟨(Sat.nilc hS),om,rfl,(by simp),(OwnT.nil (enc:=Go.E.encI) (E:=3) (sz:=1) fR)⟩ ?_
 rintro ⟨i,zs,o0,i0,q0,x0⟩ ρ _ ⟨j0,hi,hz,Y0,h0⟩
 have C0:=h0.ll
 refine jCO 4 rfl ?_
 have k0:=(j0.pick 1 rfl)
 refine cZ (f_zero om k0) ?_
 rintro _ _ ⟨rfl,a0⟩
 refine jOC 7 rfl<|CD ((i:Int)<64) (fun l0=>jCR 12 rfl<|retT [.slice o0 i0 q0]<|(by have m0:=(a0.picks [8,8,8,8,8,8,8,7]);exact ⟨_,_,_,_,rfl,(by rw [show runK F.jobs=zs from by rw [hz,show i=64 by omega];rfl];exact h0),((m0.merge8).pick 1 rfl)⟩)) fun l0=>jCO 10 rfl ?_
 obtain ⟨c0,d0⟩:=at_some O0 (k:=i) om
 obtain ⟨e0,a1,f0,b1,p0⟩:=Obs.get y0 d0;obtain ⟨c1,g0,d1,e1⟩:=p0.fields
 exact sIdxA (b:=p) (off:=12) (i:Int) i runUnderlying99 sizeOf98<|pu1<|sMp a0 (ptr_up 0 rfl (tri_el (sz:=5) (n0:=12) fR d0)) 1 (.bool c0.running)<|jOC 2 rfl<|CB c0.running (fun b0=>jCO 5 rfl<|sAdd (i:Int) 1<|jOI 2 rfl<|⟨(i+1,zs,o0,i0,q0,x0),od,alB,(a0.pick 1 rfl),om,(by rw [allK_step,runJ_at f0,show e0.running=false from g0▸Bool.eq_false_iff.2 b0,<-hz];simp),(by first|omega|(simp;omega)),h0⟩) fun b0=>jCO 3 rfl<|sBK a0 #[I (i:Int)] 3 fun _ _ r0=>sApp (nb:=8) r0 h0 2 (RdT.blk (enc:=Go.E.encI) (sz:=1) (xs:=[(i:Int)]) fR 1 0 rfl rfl rfl om) underlying22 (i:=Tryz.t3) kr fR fun s0 t0 u0 _ v0 w0=>jOO 6 rfl<|sAdd (i:Int) 1<|jOI 2 rfl<|⟨(i+1,(zs++[(i:Int)]),s0,(i0+1),t0,u0),od,alB,((w0.pick 2 rfl).dropAt 1 rfl),om,(by rw [allK_step,runJ_at f0,show e0.running=true from g0▸b0,<-hz];simp),(by first|omega|(simp;omega)),v0⟩
theorem r_has_nil {cs:List Chunk} (i:Int) (hS:Sat W w cs):
    Ro prog 171 #[.pointer none, .int .i64 i] (.bool false) W w cs:=by
  exact callsK 20 func171 rfl<|jCR 26 rfl<|retT [.bool false]<|⟨rfl,hS⟩
theorem r_state_nil {cs:List Chunk} (i:Int) (hS:Sat W w cs):
    Ro prog 148 #[.pointer none, .int .i64 i] (.int .i64 0) W w cs:=by
  refine callsK 16 func148 rfl<|jCO 10 rfl<|cZ (r_has_nil i hS) ?_
  rintro _ b0 ⟨rfl,a0⟩
  exact jOR 11 rfl<|retT [.int .i64 0]<|⟨rfl,a0⟩
theorem f_state_o {p:Nat} {F:FS} {M:Chunk} {F0:List Chunk} (hR:FarmR p F M) {K:Int} (hF:FI F K) (x:Int) (t:Int) (hk:¬(0<=x/\x<64)) (hS:Sat W w (M::H::F0)):
  Calls prog 97 #[Pt p 0,I x,I t] w fun e w'=>e= .returned (I (stateF F x t))/\Sat W w' (M::H::F0):=by
 obtain ⟨wa,aa,da,wn,wk,an,ak,dn,dk,q,xs,ap,dp,Wc,Ac,Dc,Qc,g0,h0,r0,rfl,f0,c0,e0,i0,j0,hQ,k0,A0⟩:=hR
 have hS:Sat W _ ((Tri p 101 (preF F.cfg wa wn wk aa an ak da dn dk q) (xs.flatMap encFJob) (encStt F.st))::Wc::Ac::Dc::g0.flatten::h0.flatten::Qc::r0.flatten::H::F0):=Sat.perm hS (by simp [Value.cells])
 have z0:=f0.ll;have u0:=c0.ll;have w0:=e0.ll;have m0:=i0.1;have o0:=j0.1;have q0:=k0.1
 have s0:=hF.fw.k;have x0:=hF.fw.n;have l0:=hF.fw.al;have n0:=hF.fw.dl;have p0:=hF.fw.jl
 refine callsK 26 func97 rfl<|jCO 9 rfl<|cZ (f_zero om hS) ?_
 rintro _ _ ⟨rfl,a0⟩
 exact pu5<|sD 13 (x<0) (fun b0=>jOR 13 rfl<|retT [I 0]<|⟨congrArg (fun z=>Ending.returned (I z)) ((state_no (fun h=>hk ⟨h.1,h.2.1⟩)).symm),(a0.merge8)⟩) fun b0=>jOC 5 rfl<|(by have d0:(x:Int)>=64:=om;exact cT _ (decide_eq_true d0)<|jCR 7 rfl<|retT [I 0]<|⟨congrArg (fun z=>Ending.returned (I z)) ((state_no (fun h=>hk ⟨h.1,h.2.1⟩)).symm),(a0.merge8)⟩)
theorem f_state_n {p:Nat} {F:FS} {M:Chunk} {F0:List Chunk} (hR:FarmR p F M) {K:Int} (hF:FI F K) {j:JS} (x:Int) (t:Int) (hx:0<=x/\x<64) (hj:F.jobs[x.toNat]?=some j) (ha:j.added=false) (hS:Sat W w (M::H::F0)):
  Calls prog 97 #[Pt p 0,I x,I t] w fun e w'=>e= .returned (I (stateF F x t))/\Sat W w' (M::H::F0):=by
 obtain ⟨wa,aa,da,wn,wk,an,ak,dn,dk,q,xs,ap,dp,Wc,Ac,Dc,Qc,r0,s0,C0,rfl,q0,j0,l0,t0,u0,hQ,h0,B0⟩:=hR
 have hS:Sat W _ ((Tri p 101 (preF F.cfg wa wn wk aa an ak da dn dk q) (xs.flatMap encFJob) (encStt F.st))::Wc::Ac::Dc::r0.flatten::s0.flatten::Qc::C0.flatten::H::F0):=Sat.perm hS (by simp [Value.cells])
 have L0:=q0.ll;have G0:=j0.ll;have I0:=l0.ll;have w0:=t0.1;have y0:=u0.1;have A0:=h0.1
 have D0:=hF.fw.k;have J0:=hF.fw.n;have v0:=hF.fw.al;have x0:=hF.fw.dl;have z0:=hF.fw.jl
 obtain ⟨m0,b0⟩:=at_some B0 (k:=(x.toNat)) om
 obtain ⟨c0,o0,d0,p0,e0⟩:=Obs.get h0 b0
 obtain rfl:c0=j:=Option.some.inj (d0.symm.trans hj)
 have f0:=jobM_zero e0 ha;subst f0
 refine callsK 26 func97 rfl<|jCO 9 rfl<|cZ (f_zero om hS) ?_
 rintro _ _ ⟨rfl,a0⟩
 refine pu5<|sD 13 (x<0) (fun g0=>jOR 13 rfl<|retT [I 0]<|⟨congrArg (fun z=>Ending.returned (I z)) ((state_no (F:=F) (x:=x) (by rw [getD_some hj,ha];simp)).symm),(a0.merge8)⟩) fun g0=>jOC 5 rfl<|cD (x>=64) (fun i0=>jCR 7 rfl<|retT [I 0]<|⟨congrArg (fun z=>Ending.returned (I z)) ((state_no (F:=F) (x:=x) (by rw [getD_some hj,ha];simp)).symm),(a0.merge8)⟩) fun i0=>jCO 8 rfl<|sIdxA (b:=p) (off:=12) x (x.toNat) runUnderlying99 sizeOf98<|pu1<|sMp a0 (ptr_up 0 rfl (tri_el (sz:=5) (n0:=12) fR b0)) 4 (.pointer none)<|pu1<|cZ (r_state_nil t a0) ?_
 rintro _ _ ⟨rfl,k0⟩
 exact jOR 4 rfl<|retT [I 0]<|⟨congrArg (fun z=>Ending.returned (I z)) ((state_no (F:=F) (x:=x) (by rw [getD_some hj,ha];simp)).symm),(k0.merge8)⟩
theorem f_state_1 {p:Nat} {F:FS} {M:Chunk} {F0:List Chunk} (hR:FarmR p F M) {K:Int} (hF:FI F K) {j:JS} (x:Int) (t:Int) (hx:0<=x/\x<64) (hj:F.jobs[x.toNat]?=some j) (ha:j.added=true) (hS:Sat W w (M::H::F0)):
  Calls prog 97 #[Pt p 0,I x,I t] w fun e w'=>e= .returned (I (stateF F x t))/\Sat W w' (M::H::F0):=by
 obtain ⟨wa,aa,da,wn,wk,an,ak,dn,dk,q,xs,ap,dp,Wc,Ac,Dc,Qc,B0,C0,G0,rfl,K0,I0,J0,M0,O0,hQ,H0,X0⟩:=hR
 have hS:Sat W _ ((Tri p 101 (preF F.cfg wa wn wk aa an ak da dn dk q) (xs.flatMap encFJob) (encStt F.st))::Wc::Ac::Dc::B0.flatten::C0.flatten::Qc::G0.flatten::H::F0):=Sat.perm hS (by simp [Value.cells])
 have n1:=K0.ll;have a1:=I0.ll;have R0:=J0.len;have k1:=J0.le;have Q0:=M0.1;have T0:=O0.1;have W0:=H0.1
 have Y0:=hF.fw.k;have l1:=hF.fw.n;have P0:=hF.fw.al;have S0:=hF.fw.dl;have U0:=hF.fw.jl
 have L0:=hF.fw.j j (List.mem_of_getElem? hj);obtain ⟨N0,R0,i1,j1⟩:=L0.b ha;have V0:=L0.n
 obtain ⟨b1,d0⟩:=at_some X0 (k:=(x.toNat)) om
 obtain ⟨e0,c1,i0,c0,j0⟩:=Obs.get H0 d0
 obtain rfl:e0=j:=Option.some.inj (i0.symm.trans hj)
 obtain ⟨d1,e1,f1,g1,k0,a0,b0,rfl,rfl,f0,h1,l0,m0⟩:=j0.open ha
 have o0:=(hS.pick 7 rfl)
 have p0:=Sat.openN (A:=[]) (x.toNat) c0 o0
 have q0:Sat W _ (a0::b0::(G0.eraseIdx (x.toNat)).flatten::(Tri p 101 (preF F.cfg wa wn wk aa an ak da dn dk q) (xs.flatMap encFJob) (encStt F.st))::Wc::Ac::Dc::B0.flatten::C0.flatten::Qc::H::F0):=Sat.perm p0 (by simp [Value.cells])
 have E0:=f0.ll;have A0:=congrArg List.length l0;rw [List.length_map] at A0
 refine callsK 26 func97 rfl<|jCO 9 rfl ?_
 have r0:=(q0.pick 3 rfl)
 refine cZ (f_zero om r0) ?_
 rintro _ _ ⟨rfl,g0⟩
 refine pu5<|sD 13 (x<0) (fun s0=>jOR 13 rfl<|retT [I 0]<|(by omega)) fun s0=>jOC 5 rfl<|cD (x>=64) (fun t0=>jCR 7 rfl<|retT [I 0]<|(by omega)) fun t0=>jCO 8 rfl<|sIdxA (b:=p) (off:=12) x (x.toNat) runUnderlying99 sizeOf98<|pu1<|sMp g0 (ptr_up 0 rfl (tri_el (sz:=5) (n0:=12) fR d0)) 4 (Pt k0 0)<|pu1 ?_
 have u0:=(g0.pick 2 rfl)
 refine cZ (r_state m0 N0 t u0.flat1) ?_
 rintro _ _ ⟨rfl,v0⟩
 have w0:=v0.unflat1
 exact jOR 4 rfl<|retT [I (stAt e0.B.st t)]<|(by have x0:=(w0.picks [3,1,3]);have y0:Sat W _ ((a0++b0)::(G0.eraseIdx (x.toNat)).flatten::(Tri p 101 (preF F.cfg wa wn wk aa an ak da dn dk q) (xs.flatMap encFJob) (encStt F.st))::Wc::Ac::Dc::B0.flatten::C0.flatten::Qc::H::F0):=Sat.perm (show Sat W _ (a0::b0::(G0.eraseIdx (x.toNat)).flatten::(Tri p 101 (preF F.cfg wa wn wk aa an ak da dn dk q) (xs.flatMap encFJob) (encStt F.st))::Wc::Ac::Dc::B0.flatten::C0.flatten::Qc::H::F0) from x0) (by simp [Value.cells]);have h0:=Sat.shutN (d:=a0++b0) (A:=[]) (x.toNat) c0 y0;rw [set_same c0] at h0;have z0:=(h0.picks [7,7,7,7,7,7,7]);exact ⟨congrArg (fun z=>Ending.returned (I z)) ((state_at hx hj ha).symm),(z0.merge8)⟩)
theorem f_state {W w:World} {p:Nat} {F:FS} {M H:Chunk} {F0:List Chunk} (hR:FarmR p F M) {K:Int} (hF:FI F K) (x t:Int) (hS:Sat W w (M::H::F0)):
    Calls prog 97 #[.pointer (some ⟨p,0,none⟩), .int .i64 x, .int .i64 t] w fun e w'=>e= .returned (.int .i64 (stateF F x t))/\Sat W w' (M::H::F0):=by
  by_cases hx:0<=x/\x<64
  · obtain ⟨j,hj⟩:=at_some hF.fw.jl (k:=x.toNat) (by omega)
    cases ha:j.added
    · exact f_state_n hR hF x t hx hj ha hS
    · exact f_state_1 hR hF x t hx hj ha hS
  · exact f_state_o hR hF x t hx hS
theorem f_tasks_o {p:Nat} {F:FS} {M:Chunk} {F0:List Chunk} (hR:FarmR p F M) {K:Int} (hF:FI F K) (x:Int) (hk:¬(0<=x/\x<64)) (hS:Sat W w (M::H::F0)):
  Calls prog 33 #[Pt p 0,I x] w fun e w'=>∃(az:Option Addr) (nz kz:Nat) (zs:List Task) (C G:Chunk),e= .returned (.slice az nz kz)/\OwnT encTask 51 9 az nz kz zs C/\(∀z∈zs,Task.Ok [G] z)/\zs.map Task.v=tasksF F x/\Sat W w' (C::G::M::H::F0):=by
 obtain ⟨wa,aa,da,wn,wk,an,ak,dn,dk,q,xs,ap,dp,Wc,Ac,Dc,Qc,g0,h0,r0,rfl,f0,c0,d0,i0,j0,hQ,k0,A0⟩:=hR
 have hS:Sat W _ ((Tri p 101 (preF F.cfg wa wn wk aa an ak da dn dk q) (xs.flatMap encFJob) (encStt F.st))::Wc::Ac::Dc::g0.flatten::h0.flatten::Qc::r0.flatten::H::F0):=Sat.perm hS (by simp [Value.cells])
 have z0:=f0.ll;have u0:=c0.ll;have w0:=d0.ll;have m0:=i0.1;have o0:=j0.1;have q0:=k0.1
 have s0:=hF.fw.k;have x0:=hF.fw.n;have l0:=hF.fw.al;have n0:=hF.fw.dl;have p0:=hF.fw.jl
 refine callsK 49 func33 rfl<|jCO 14 rfl<|cZ (f_zero om hS) ?_
 rintro _ _ ⟨rfl,a0⟩
 exact pu5<|sD 14 (x<0) (fun b0=>jOR 13 rfl<|retT [nS]<|⟨_,_,_,[],_,_,rfl,OwnT.nil fR,(fun z hz=>by cases hz),(tasks_no (F:=F) (x:=x) (fun h=>hk ⟨h.1,h.2.1⟩)).symm,(Sat.nilc (Sat.nilc (a0.merge8)))⟩) fun b0=>jOC 5 rfl<|(by have e0:(x:Int)>=64:=om;exact cT _ (decide_eq_true e0)<|jCR 7 rfl<|retT [nS]<|⟨_,_,_,[],_,_,rfl,OwnT.nil fR,(fun z hz=>by cases hz),(tasks_no (F:=F) (x:=x) (fun h=>hk ⟨h.1,h.2.1⟩)).symm,(Sat.nilc (Sat.nilc (a0.merge8)))⟩)
theorem f_tasks_n {p:Nat} {F:FS} {M:Chunk} {F0:List Chunk} (hR:FarmR p F M) {K:Int} (hF:FI F K) {j:JS} (x:Int) (hx:0<=x/\x<64) (hj:F.jobs[x.toNat]?=some j) (ha:j.added=false) (hS:Sat W w (M::H::F0)):
  Calls prog 33 #[Pt p 0,I x] w fun e w'=>∃(az:Option Addr) (nz kz:Nat) (zs:List Task) (C G:Chunk),e= .returned (.slice az nz kz)/\OwnT encTask 51 9 az nz kz zs C/\(∀z∈zs,Task.Ok [G] z)/\zs.map Task.v=tasksF F x/\Sat W w' (C::G::M::H::F0):=by
 obtain ⟨wa,aa,da,wn,wk,an,ak,dn,dk,q,xs,ap,dp,Wc,Ac,Dc,Qc,m0,o0,B0,rfl,l0,i0,k0,s0,t0,hQ,h0,A0⟩:=hR
 have hS:Sat W _ ((Tri p 101 (preF F.cfg wa wn wk aa an ak da dn dk q) (xs.flatMap encFJob) (encStt F.st))::Wc::Ac::Dc::m0.flatten::o0.flatten::Qc::B0.flatten::H::F0):=Sat.perm hS (by simp [Value.cells])
 have K0:=l0.ll;have E0:=i0.ll;have H0:=k0.ll;have v0:=s0.1;have x0:=t0.1;have z0:=h0.1
 have C0:=hF.fw.k;have I0:=hF.fw.n;have u0:=hF.fw.al;have w0:=hF.fw.dl;have y0:=hF.fw.jl
 obtain ⟨p0,b0⟩:=at_some A0 (k:=(x.toNat)) om
 obtain ⟨c0,q0,d0,r0,e0⟩:=Obs.get h0 b0
 obtain rfl:c0=j:=Option.some.inj (d0.symm.trans hj)
 have f0:=jobM_zero e0 ha;subst f0
 refine callsA 49 func33 rfl<|sR<|pu1<|zS<|pu1<|zQ<|pu1<|cZ (f_zero om hS) ?_
 rintro _ _ ⟨rfl,a0⟩
 exact pu5<|sD 14 (x<0) (fun g0=>pu3<|zC<|pu1<|zR<|retT [nS]<|⟨_,_,_,[],_,_,rfl,OwnT.nil fR,(fun z hz=>by cases hz),(tasks_no (F:=F) (x:=x) (by rw [getD_some hj,ha];simp)).symm,(Sat.nilc (Sat.nilc (a0.merge8)))⟩) fun g0=>pu3<|nT<|cD (x>=64) (fun j0=>sR<|pu1<|zR<|retT [nS]<|⟨_,_,_,[],_,_,rfl,OwnT.nil fR,(fun z hz=>by cases hz),(tasks_no (F:=F) (x:=x) (by rw [getD_some hj,ha];simp)).symm,(Sat.nilc (Sat.nilc (a0.merge8)))⟩) fun j0=>kT<|seqE<|sR<|pu1<|nT<|blockE<|loopN 1<|roundS<|seqE<|sR<|pu5<|sIdxA (b:=p) (off:=12) x (x.toNat) runUnderlying99 sizeOf98<|pu1<|sMp a0 (ptr_up 0 rfl (tri_el (sz:=5) (n0:=12) fR b0)) 3 (nS)<|pu2<|nT<|cFf<|exitE<|xB<|tN<|sR<|pu2<|zE<|retT [nS]<|⟨_,_,_,[],_,_,rfl,OwnT.nil fR,(fun z hz=>by cases hz),(tasks_no (F:=F) (x:=x) (by rw [getD_some hj,ha];simp)).symm,(Sat.nilc (Sat.nilc (a0.merge8)))⟩
theorem f_tasks_1 {p:Nat} {F:FS} {M:Chunk} {F0:List Chunk} (hR:FarmR p F M) {K:Int} (hF:FI F K) {j:JS} (x:Int) (hx:0<=x/\x<64) (hj:F.jobs[x.toNat]?=some j) (ha:j.added=true) (hS:Sat W w (M::H::F0)):
  Calls prog 33 #[Pt p 0,I x] w fun e w'=>∃(az:Option Addr) (nz kz:Nat) (zs:List Task) (C G:Chunk),e= .returned (.slice az nz kz)/\OwnT encTask 51 9 az nz kz zs C/\(∀z∈zs,Task.Ok [G] z)/\zs.map Task.v=tasksF F x/\Sat W w' (C::G::M::H::F0):=by
 obtain ⟨wa,aa,da,wn,wk,an,ak,dn,dk,q,xs,ap,dp,Wc,Ac,Dc,Qc,G0,I0,M0,rfl,W0,U0,V0,Z0,g1,hQ,T0,E1⟩:=hR
 have hS:Sat W _ ((Tri p 101 (preF F.cfg wa wn wk aa an ak da dn dk q) (xs.flatMap encFJob) (encStt F.st))::Wc::Ac::Dc::G0.flatten::I0.flatten::Qc::M0.flatten::H::F0):=Sat.perm hS (by simp [Value.cells])
 have O1:=W0.ll;have I1:=U0.ll;have r1:=V0.len;have L1:=V0.le;have i1:=Z0.1;have A1:=g1.1;have D1:=T0.1
 have G1:=hF.fw.k;have M1:=hF.fw.n;have h1:=hF.fw.al;have s1:=hF.fw.dl;have B1:=hF.fw.jl
 have X0:=hF.fw.j j (List.mem_of_getElem? hj);obtain ⟨F1,r1,J1,K1⟩:=X0.b ha;have C1:=X0.n
 obtain ⟨c2,i0⟩:=at_some E1 (k:=(x.toNat)) om
 obtain ⟨v0,d2,w0,j0,x0⟩:=Obs.get T0 i0
 obtain rfl:v0=j:=Option.some.inj (w0.symm.trans hj)
 obtain ⟨p0,c0,q0,y0,e2,d0,e0,rfl,rfl,k0,l0,m0,f2⟩:=x0.open ha
 have z0:=(hS.pick 7 rfl)
 have a1:=Sat.openN (A:=[]) (x.toNat) j0 z0
 have b1:Sat W _ (d0::e0::(M0.eraseIdx (x.toNat)).flatten::(Tri p 101 (preF F.cfg wa wn wk aa an ak da dn dk q) (xs.flatMap encFJob) (encStt F.st))::Wc::Ac::Dc::G0.flatten::I0.flatten::Qc::H::F0):=Sat.perm a1 (by simp [Value.cells])
 have Q0:=k0.ll;have B0:=congrArg List.length m0;rw [List.length_map] at B0
 refine callsK 49 func33 rfl<|jCO 14 rfl ?_
 have c1:=(b1.pick 3 rfl)
 refine cZ (f_zero om c1) ?_
 rintro _ _ ⟨rfl,d1⟩
 refine pu5<|sD 14 (x<0) (fun e1=>jOR 13 rfl<|retT [nS]<|(by omega)) fun e1=>jOC 5 rfl<|cD (x>=64) (fun f1=>jCR 7 rfl<|retT [nS]<|(by omega)) fun f1=>jCC 9 rfl<|loopF [0,1] (γ:=Nat×(List Task)×(Option Addr)×Nat×Nat×Chunk×Chunk) (fun ⟨i,zs,O0,N0,R0,H0,C0⟩ R=>⟨[(6,I (i:Int)),(5, .slice O0 N0 R0)],C0::H0::R,c0-i,i<=c0/\(zs.map Task.v=(y0.take i).map Task.v)/\(zs.length=i)/\OwnT encTask 51 9 O0 N0 R0 zs H0/\(∀z∈zs,Task.Ok [C0] z)⟩) (0,[],none,0,0,[],[]) ⟨(Sat.nilc (Sat.nilc d1)),om,rfl,rfl,(OwnT.nil (enc:=encTask) (E:=51) (sz:=9) fR),(by intro z hz;cases hz)⟩ ?_
 rintro ⟨i,zs,O0,N0,R0,H0,C0⟩ ρ _ ⟨f0,hi,S0,P1,D0,J0⟩
 have Y0:=D0.ll
 refine jCO 8 rfl<|sIdxA (b:=p) (off:=12) x (x.toNat) runUnderlying99 sizeOf98<|pu1<|sMp f0 (ptr_up 2 rfl (tri_el (sz:=5) (n0:=12) fR i0)) 3 (.slice p0 c0 q0)<|jOC 4 rfl<|CD ((i:Int)<(c0:Int)) (fun j1=>jCR 12 rfl<|retT [.slice O0 N0 R0]<|(by have k1:=(f0.picks [5,5,5]);have l1:Sat W _ ((d0++e0)::(M0.eraseIdx (x.toNat)).flatten::C0::H0::(Tri p 101 (preF F.cfg wa wn wk aa an ak da dn dk q) (xs.flatMap encFJob) (encStt F.st))::Wc::Ac::Dc::G0.flatten::I0.flatten::Qc::H::F0):=Sat.perm (show Sat W _ (d0::e0::(M0.eraseIdx (x.toNat)).flatten::C0::H0::(Tri p 101 (preF F.cfg wa wn wk aa an ak da dn dk q) (xs.flatMap encFJob) (encStt F.st))::Wc::Ac::Dc::G0.flatten::I0.flatten::Qc::H::F0) from k1) (by simp [Value.cells]);have r0:=Sat.shutN (d:=d0++e0) (A:=[]) (x.toNat) j0 l1;rw [set_same j0] at r0;have m1:=(r0.picks [2,1,9,9,9,9,9,9,9]);have n1:=((m1.merge8).picks [2,2]);rw [List.take_of_length_le om] at S0;exact ⟨_,_,_,_,_,_,rfl,D0,J0,S0.trans (m0.trans (tasks_at hx hj ha).symm),n1⟩)) fun j1=>jCO 10 rfl<|sIdxA (b:=p) (off:=12) x (x.toNat) runUnderlying99 sizeOf98<|pu1<|sMp f0 (ptr_up 2 rfl (tri_el (sz:=5) (n0:=12) fR i0)) 3 (.slice p0 c0 q0)<|pu1<|sIN k0 i fun a0 _ _ b0 o1=>?_
 have K0:=(l0 a0 (List.mem_of_getElem? b0)).deps.len;have L0:=(l0 a0 (List.mem_of_getElem? b0)).deps.le;have A0:=(hF.a.t _ (List.mem_of_getElem? hj) a0.v (by rw [<-m0];exact List.mem_map.2 ⟨a0,(List.mem_of_getElem? b0),rfl⟩)).2.2.2.2;have E0:a0.deps.l.length<=4096:=A0
 refine sMA f0 (o1.up 3 rfl) 0 (encTask a0)<|sAlloc f0 zeroValue51 fun _ _ q1=>sTk q1 0 rfl (encTask a0) fun _ s0=>gOO s0 6 [0] rfl<|sApp (nb:=8) (Sat.nilc s0) (OwnT.nil (enc:=Go.E.encI) (E:=3) (sz:=1) fR) 0 ((l0 a0 (List.mem_of_getElem? b0)).deps.up 5 rfl) underlying22 (i:=Tryz.t3) kr fR fun g0 h0 o0 _ t1 u1=>pu1<|tWk u1 1 rfl 6 (.slice g0 (0+a0.deps.n) h0) fun _ t0=>gOO t0 5 [901] rfl<|sBK t0 #[I a0.stage,I a0.part,I a0.rectX0,I a0.rectY0,I a0.rectX1,I a0.rectY1, .slice g0 (0+a0.deps.n) h0,I a0.rows,I a0.scratch] 51 fun _ _ v1=>sApp (nb:=88) v1 D0 4 (RdT.blk (enc:=encTask) (sz:=9) (xs:=[(⟨a0.stage,a0.part,a0.rectX0,a0.rectY0,a0.rectX1,a0.rectY1,⟨g0,(0+a0.deps.n),h0,([]++a0.deps.l)⟩,a0.rows,a0.scratch⟩:Task)]) fR 1 0 rfl rfl rfl om) underlying45 (i:=Tryz.t51) kr fR fun w1 x1 u0 _ y1 z1=>jOO 6 rfl<|sAdd (i:Int) 1<|jOI 2 rfl ?_
 have a2:=(z1.drops [0,1])
 exact ⟨(i+1,(zs++[(⟨a0.stage,a0.part,a0.rectX0,a0.rectY0,a0.rectX1,a0.rectY1,⟨g0,(0+a0.deps.n),h0,([]++a0.deps.l)⟩,a0.rows,a0.scratch⟩:Task)]),w1,(N0+1),x1,u0,(o0++C0)),od,alB,(Sat.perm (cs':=(o0++C0)::(u0::(Tri p 101 (preF F.cfg wa wn wk aa an ak da dn dk q) (xs.flatMap encFJob) (encStt F.st))::d0::e0::(M0.eraseIdx (x.toNat)).flatten::Wc::Ac::Dc::G0.flatten::I0.flatten::Qc::H::F0)) a2 (by simp)),om,(by rw [List.map_append,S0,take_succ_at b0,List.map_append];rfl),by first|omega|(simp;omega),y1,(by
   intro z hz
   rcases List.mem_append.1 hz with h|h
   ·exact (J0 z h).of_mem mS
   ·simp only [List.mem_singleton] at h;subst h;exact ⟨(t1.rdAt (cs:=[o0]) 0 rfl).of_mem mS⟩)⟩
theorem f_tasks {W w:World} {p:Nat} {F:FS} {M H:Chunk} {F0:List Chunk} (hR:FarmR p F M) {K:Int} (hF:FI F K) (x:Int) (hS:Sat W w (M::H::F0)):
  Calls prog 33 #[Pt p 0,I x] w fun e w'=>∃(az:Option Addr) (nz kz:Nat) (zs:List Task) (C G:Chunk),e= .returned (.slice az nz kz)/\OwnT encTask 51 9 az nz kz zs C/\(∀z∈zs,Task.Ok [G] z)/\zs.map Task.v=tasksF F x/\Sat W w' (C::G::M::H::F0):=by
 by_cases hx:0<=x/\x<64
 ·obtain ⟨j,hj⟩:=at_some hF.fw.jl (k:=x.toNat) om
  cases ha:j.added
  ·exact f_tasks_n hR hF x hx hj ha hS
  ·exact f_tasks_1 hR hF x hx hj ha hS
 ·exact f_tasks_o hR hF x hx hS
end Go.Proofs.YtkadmghedmodbaaGreat

namespace Go.Proofs.YtkadmghedmodbaaGreat
open Go Go.E Go.Proofs.Tryz
set_option linter.all false
set_option maxRecDepth 100000
set_option maxHeartbeats 2000000
variable {W w:World} {H:Chunk} {F:List Chunk}
def addC (F:FS) (x:Int) (l:List Task) (bd:Int):Int:=
  if ¬(0<=x/\x<64) then 16 else if (jobAt F x).added=true then 18 else if ¬(0<=bd/\bd<4) then 2 else if validC l≠0 then validC l
  else if ¬(∀z∈l,z.scratch<=F.cfg.arena) then 12 else if F.cfg.tasks-loadL F.jobs<((l.length:Nat):Int) then 13 else 0
section
variable {F:FS} {x bd:Int} {l:List Task}
theorem addC_16 (h:¬(0<=x/\x<64)):addC F x l bd=16:=by unfold addC;rw [if_pos h]
theorem addC_18 (h:0<=x/\x<64) (ha:(jobAt F x).added=true):addC F x l bd=18:=by unfold addC;rw [if_neg (fun k=>k h),if_pos ha]
theorem addC_2 (h:0<=x/\x<64) (ha:¬(jobAt F x).added=true) (hb:¬(0<=bd/\bd<4)):addC F x l bd=2:=by unfold addC;rw [if_neg (fun k=>k h),if_neg ha,if_pos hb]
theorem addC_v (h:0<=x/\x<64) (ha:¬(jobAt F x).added=true) (hb:0<=bd/\bd<4) (hv:¬validC l=0):addC F x l bd=validC l:=by unfold addC;rw [if_neg (fun k=>k h),if_neg ha,if_neg (fun k=>k hb),if_pos hv]
theorem addC_12 (h:0<=x/\x<64) (ha:¬(jobAt F x).added=true) (hb:0<=bd/\bd<4) (hv:validC l=0) {z:Task} (hz:z∈l) (hs:F.cfg.arena<z.scratch):addC F x l bd=12:=by
  unfold addC;rw [if_neg (fun k=>k h),if_neg ha,if_neg (fun k=>k hb),if_neg (fun k=>k hv),if_pos (fun k=>by have:=k z hz;omega)]
theorem addC_13 (h:0<=x/\x<64) (ha:¬(jobAt F x).added=true) (hb:0<=bd/\bd<4) (hv:validC l=0) (hs:∀z∈l,z.scratch<=F.cfg.arena) (hl:F.cfg.tasks-loadL F.jobs<(l.length:Int)):addC F x l bd=13:=by
  unfold addC;rw [if_neg (fun k=>k h),if_neg ha,if_neg (fun k=>k hb),if_neg (fun k=>k hv),if_neg (fun k=>k hs),if_pos hl]
theorem addC_0 (h:0<=x/\x<64) (ha:¬(jobAt F x).added=true) (hb:0<=bd/\bd<4) (hv:validC l=0) (hs:∀z∈l,z.scratch<=F.cfg.arena) (hl:¬F.cfg.tasks-loadL F.jobs<(l.length:Int)):addC F x l bd=0:=by
  unfold addC;rw [if_neg (fun k=>k h),if_neg ha,if_neg (fun k=>k hb),if_neg (fun k=>k hv),if_neg (fun k=>k hs),if_neg hl]
theorem addC_zero (h0:addC F x l bd=0):(0<=x/\x<64)/\(jobAt F x).added=false/\(0<=bd/\bd<4)/\validC l=0/\(∀z∈l,z.scratch<=F.cfg.arena)/\(l.length:Int)<=F.cfg.tasks-loadL F.jobs:=by
 unfold addC at h0
 split at h0
 ·cases h0
 ·rename_i h
  split at h0
  ·cases h0
  ·rename_i ha
   split at h0
   ·cases h0
   ·rename_i hb
    split at h0
    ·rename_i hv;exact absurd h0 hv
    ·rename_i hv
     split at h0
     ·cases h0
     ·rename_i hs
      split at h0
      ·cases h0
      ·exact ⟨Classical.not_not.1 h,Bool.eq_false_iff.2 ha,Classical.not_not.1 hb,Classical.not_not.1 hv,Classical.not_not.1 hs,om⟩
end
theorem pf_new_no {cs:List Chunk} (c:Cfg) (hv:¬validCfg c=0) (hS:Sat W w cs):
  Calls prog 14 #[.agg (encCfg c).toArray] w fun e w'=>e= .returned (.tuple #[.pointer none,I (validCfg c)])/\Sat W w' cs:=by
 exact callsK 66 func14 rfl<|jCO 2 rfl<|sBx hS (encCfg c) fun _ _ a0=>gOO a0 8 [800] rfl<|cS (p_valid c a0.flat) fun _ b0=>jOC 9 rfl<|(by have c0:¬(((validCfg c):Int)=0):=hv;exact cT _ (bne_iff_ne.2 c0)<|jCR 9 rfl<|retT [.pointer none,I (validCfg c)]<|⟨rfl,(b0.dropAt 0 rfl)⟩)
theorem pf_add_o {p:Nat} {F:FS} {M:Chunk} {F0:List Chunk} (hR:FarmP p F M) {K:Int} (hF:FI F K) (x:Int) (al:Option Addr) (nl kl:Nat) (l:List Task) (bd:Int) (hl:RdT encTask 9 [H] al nl kl l) (dl:∀z∈l,Task.Ok [H] z) (hk:¬(0<=x/\x<64)) (hne:¬addC F x l bd=0) (hct:0<=F.cfg.tasks/\F.cfg.tasks<=4096) (hS:Sat W w (M::H::F0)):
  Calls prog 19 #[Pt p 0,I x, .slice al nl kl,I bd] w fun e w'=>e= .returned (I (addC F x l bd))/\Sat W w' (M::H::F0):=by
 have o0:=hl.ll
 obtain ⟨wb,wo,wn,wk,q,m,xs,jm,Wc,Qc,Jc,h0,i0,p0,rfl,g0,m0,j0,k0,hQ,hM,l0⟩:=hR
 have b0:Sat W _ ((Tri p 83 (preP F.cfg wb wo wn wk q m) (([]:List Ref).flatMap encRef) (encStt F.st))::Wc::h0.flatten::i0.flatten::Qc::Jc::p0.flatten::H::F0):=Sat.perm hS (by simp)
 have C0:=g0.ll;have q0:=core_len m0;have d0:=j0.1;have f0:=k0.1;rw [List.length_map] at d0 f0;have n0:=l0.l
 have t0:=hF.st.a;have u0:=hF.st.b;have v0:=hF.st.c;have w0:=hF.st.d;have x0:=hF.st.e;have y0:=hF.st.f;have z0:=hF.st.g;have s0:=hF.fw.n;have r0:0<=loadL F.jobs:=Int.natCast_nonneg _;have A0:=load_max hF.fw
 refine callsK 98 func19 rfl<|jCO 9 rfl<|cZ (p_empty ⟨om,om⟩ b0) ?_
 rintro _ _ ⟨rfl,a0⟩
 exact jOO 11 rfl<|sD 19 (x<0) (fun c0=>jOR 13 rfl<|retT [I 16]<|⟨congrArg (fun z=>Ending.returned (I z)) (addC_16 om).symm,(a0.merge7)⟩) fun c0=>jOC 5 rfl<|(by have e0:(x:Int)>=64:=om;exact cT _ (decide_eq_true e0)<|jCR 7 rfl<|retT [I 16]<|⟨congrArg (fun z=>Ending.returned (I z)) (addC_16 om).symm,(a0.merge7)⟩)
theorem pf_add_1 {p:Nat} {F:FS} {M:Chunk} {F0:List Chunk} (hR:FarmP p F M) {K:Int} (hF:FI F K) {j:JS} (x:Int) (al:Option Addr) (nl kl:Nat) (l:List Task) (bd:Int) (hl:RdT encTask 9 [H] al nl kl l) (dl:∀z∈l,Task.Ok [H] z) (hx:0<=x/\x<64) (hj:F.jobs[x.toNat]?=some j) (ha:j.added=true) (hne:¬addC F x l bd=0) (hct:0<=F.cfg.tasks/\F.cfg.tasks<=4096) (hS:Sat W w (M::H::F0)):
  Calls prog 19 #[Pt p 0,I x, .slice al nl kl,I bd] w fun e w'=>e= .returned (I (addC F x l bd))/\Sat W w' (M::H::F0):=by
 have N0:=hl.ll
 obtain ⟨wb,wo,wn,wk,q,m,xs,jm,Wc,Qc,Jc,H0,I0,O0,rfl,G0,L0,J0,K0,hQ,hM,E0⟩:=hR
 have g0:Sat W _ ((Tri p 83 (preP F.cfg wb wo wn wk q m) (([]:List Ref).flatMap encRef) (encStt F.st))::Wc::H0.flatten::I0.flatten::Qc::Jc::O0.flatten::H::F0):=Sat.perm hS (by simp)
 have h1:=G0.ll;have P0:=core_len L0;have C0:=J0.1;have D0:=K0.1;rw [List.length_map] at C0 D0;have M0:=E0.l
 have S0:=hF.st.a;have T0:=hF.st.b;have U0:=hF.st.c;have V0:=hF.st.d;have W0:=hF.st.e;have X0:=hF.st.f;have Y0:=hF.st.g;have R0:=hF.fw.n;have Q0:0<=loadL F.jobs:=Int.natCast_nonneg _;have Z0:=load_max hF.fw
 obtain ⟨c0,d0,a1,b1,a0,h0,i0⟩:=JobsP.get E0 (k:=x) ⟨om,om⟩ hj ha
 obtain ⟨j0,k0,l0,c1,m0,n0,o0,rfl,e0,d1,p0,e1,_,f1⟩:=h0.open
 have q0:=(g0.pick 6 rfl)
 have r0:=Sat.openN (A:=[]) c0 a0 q0
 have s0:=r0.split3
 have B0:=e0.ll;have z0:=congrArg List.length p0;rw [List.length_map] at z0
 refine callsK 98 func19 rfl<|jCO 9 rfl ?_
 have t0:=(s0.pick 4 rfl)
 refine cZ (p_empty ⟨om,om⟩ t0) ?_
 rintro _ _ ⟨rfl,b0⟩
 exact jOO 11 rfl<|sD 19 (x<0) (fun u0=>jOR 13 rfl<|retT [I 16]<|(by omega)) fun u0=>jOC 5 rfl<|cD (x>=64) (fun v0=>jCR 7 rfl<|retT [I 16]<|(by omega)) fun v0=>jCO 8 rfl<|sMp b0 (ptr_up 0 rfl tri_pre) 10 (.map (some m))<|pu1<|stepY (Pt d0 0) rfl rfl (Y_iget (k:=x) b0 9 hM (by rw [i0];rfl) runUnderlying80 runUnderlying3 zeroValue110)<|jOR 11 rfl<|retT [I 18]<|(by have w0:=(b0.picks [4,4,4,4]);have x0:=w0.merge3;have f0:=Sat.shutN (d:=([(d0, .cells #[.slice j0 k0 l0,I j.band,Pt m0 0, .bool (canc j)] 117 (0,0))]++(n0++o0))) (A:=[]) c0 a0 x0;rw [set_same a0] at f0;have y0:=(f0.picks [6,6,6,6,6,6]);exact ⟨congrArg (fun z=>Ending.returned (I z)) (addC_18 hx (by unfold jobAt;rw [getD_some hj,ha])).symm,(y0.merge7)⟩)
theorem pf_add_n {p:Nat} {F:FS} {M:Chunk} {F0:List Chunk} (hR:FarmP p F M) {K:Int} (hF:FI F K) {j:JS} (x:Int) (al:Option Addr) (nl kl:Nat) (l:List Task) (bd:Int) (hl:RdT encTask 9 [H] al nl kl l) (dl:∀z∈l,Task.Ok [H] z) (hx:0<=x/\x<64) (hj:F.jobs[x.toNat]?=some j) (ha:j.added=false) (hne:¬addC F x l bd=0) (hct:0<=F.cfg.tasks/\F.cfg.tasks<=4096) (hS:Sat W w (M::H::F0)):
  Calls prog 19 #[Pt p 0,I x, .slice al nl kl,I bd] w fun e w'=>e= .returned (I (addC F x l bd))/\Sat W w' (M::H::F0):=by
 have J0:=hl.ll
 obtain ⟨wb,wo,wn,wk,q,m,xs,jm,Wc,Qc,Jc,B0,C0,H0,rfl,r0,G0,D0,E0,hQ,hM,p0⟩:=hR
 have j0:Sat W _ ((Tri p 83 (preP F.cfg wb wo wn wk q m) (([]:List Ref).flatMap encRef) (encStt F.st))::Wc::B0.flatten::C0.flatten::Qc::Jc::H0.flatten::H::F0):=Sat.perm hS (by simp)
 have Y0:=r0.ll;have L0:=core_len G0;have u0:=D0.1;have A0:=E0.1;rw [List.length_map] at u0 A0;have I0:=p0.l
 have P0:=hF.st.a;have Q0:=hF.st.b;have R0:=hF.st.c;have S0:=hF.st.d;have T0:=hF.st.e;have U0:=hF.st.f;have V0:=hF.st.g;have O0:=hF.fw.n;have M0:0<=loadL F.jobs:=Int.natCast_nonneg _;have W0:=load_max hF.fw
 have hg:=JobsP.no p0 (k:=x) (fun h=>by rw [getD_some hj,ha] at h;exact absurd h.2.2 (by decide));have l0:¬(jobAt F x).added=true:=by unfold jobAt;rw [getD_some hj,ha];decide
 refine callsK 98 func19 rfl<|jCO 9 rfl<|cZ (p_empty ⟨om,om⟩ j0) ?_
 rintro _ _ ⟨rfl,a0⟩
 refine jOO 11 rfl<|sD 19 (x<0) (fun k0=>jOR 13 rfl<|retT [I 16]<|⟨congrArg (fun z=>Ending.returned (I z)) (addC_16 om).symm,(a0.merge7)⟩) fun k0=>jOC 5 rfl<|cD (x>=64) (fun m0=>jCR 7 rfl<|retT [I 16]<|⟨congrArg (fun z=>Ending.returned (I z)) (addC_16 om).symm,(a0.merge7)⟩) fun m0=>jCO 8 rfl<|sMp a0 (ptr_up 0 rfl tri_pre) 10 (.map (some m))<|pu1<|stepY (.pointer none) rfl rfl (Y_iget (k:=x) a0 5 hM (by rw [hg];rfl) runUnderlying80 runUnderlying3 zeroValue110)<|jOO 12 rfl<|sD 32 (bd<0) (fun o0=>jOR 13 rfl<|retT [I 2]<|⟨congrArg (fun z=>Ending.returned (I z)) (addC_2 om l0 om).symm,(a0.merge7)⟩) fun o0=>jOC 5 rfl<|cD (bd>=4) (fun q0=>jCR 7 rfl<|retT [I 2]<|⟨congrArg (fun z=>Ending.returned (I z)) (addC_2 om l0 om).symm,(a0.merge7)⟩) fun q0=>jCO 5 rfl<|cZ (b_new al nl kl l (hl.fl 7) (fun z hz=>(dl z hz).of_mem (mF 7)) a0.flat) ?_
 rintro _ _ (⟨b0,rfl,e0⟩|⟨b0,_,_,rfl,_,e0⟩)
 · exact (by have s0:=e0.unflat;exact jOC 14 rfl<|(by have t0:¬(((validC l):Int)=0):=b0;exact cT _ (bne_iff_ne.2 t0)<|jCR 8 rfl<|retT [I (validC l)]<|⟨congrArg (fun z=>Ending.returned (I z)) (addC_v om l0 om b0).symm,(s0.merge7)⟩))
 have v0:=e0.unflat1
 refine jOC 26 rfl ?_
 have K0:=validC_zero b0;have N0:=K0.2.1
 refine loopF [0,1,2,3,9,44,45] (γ:=Nat) (fun i R=>⟨[(46,I (i:Int))],R,nl-i,i<=nl/\(∀z∈l.take i,z.scratch<=F.cfg.arena)⟩) 0 ⟨v0,om,(by intro z hz;simp at hz)⟩ ?_
 rintro i ρ _ ⟨d0,hi,n0⟩
 refine jCC 6 rfl<|CD ((i:Int)<(nl:Int)) (fun w0=>jCC 7 rfl<|drawE [3] [(9,⟨p,5,none⟩,I F.cfg.tasks)] [(true,[0,1,2,5,6,7,8]),(true,[9]),(false,[3]),(true,[4]),(true,[10])] rfl kr ⟨.inr (cell_up d0 1 rfl (k:=5) tri_pre rfl),trivial⟩<|(by have x0:=d0.drew;refine wU [0,1,2,5,6,7,8]<|wLd (I F.cfg.tasks) 0 isAgg3<|wO rfl ?_;have y0:=(x0.picks [7,7,7,7,7,7,7]);have z0:=(y0.merge7);have a1:FarmP p F ((Tri p 83 (preP F.cfg wb wo wn wk q m) (([]:List Ref).flatMap encRef) (encStt F.st))++(Wc++(B0.flatten++(C0.flatten++(Qc++(Jc++H0.flatten)))))):=⟨_,_,_,_,_,_,_,_,_,_,_,_,_,_,rfl,r0,G0,D0,E0,hQ,hM,p0⟩;refine cZ (pf_load a1 hF z0.flat1) ?_;rintro _ _ ⟨rfl,b1⟩;have c1:=b1.unflat1;have h0:=c1.split7;exact nilO ⟨⟨.inr (cell_up h0 0 rfl (k:=5) tri_pre rfl),trivial⟩,(wAdd (nl:Int) (loadL F.jobs)<|wU [10]<|wN<|jXC 1 rfl<|(by have d1:(((nl:Int)+(loadL F.jobs)):Int)>F.cfg.tasks:=(by have h9:F.cfg.tasks-loadL F.jobs<(l.length:Int):=Classical.byContradiction fun h=>hne (addC_0 om l0 om b0 (by rw [List.take_of_length_le om] at n0;exact n0) h);omega);exact cT _ (decide_eq_true d1)<|jCR 7 rfl<|retT [I 13]<|(by have e1:=(h0.dropAt 7 rfl);exact ⟨congrArg (fun z=>Ending.returned (I z)) (addC_13 om l0 om b0 (by rw [List.take_of_length_le om] at n0;exact n0) om).symm,(e1.merge7)⟩)))⟩)) fun w0=>?_
 exact jCO 6 rfl<|sIN hl i fun c0 _ _ f0 g1=>sMA d0 (g1.up 8 rfl) 0 (encTask c0)<|sAlloc d0 zeroValue51 fun h1 _ i1=>sTk i1 0 rfl (encTask c0) fun _ g0=>jOC 3 rfl<|drawE [] [(1,⟨h1,8,none⟩,I c0.scratch),(6,⟨p,3,none⟩,I F.cfg.arena)] [(true,[0,2,3,4,5]),(true,[1]),(true,[6]),(true,[7])] rfl kr ⟨cI g0 0, .inr (cell_up g0 2 rfl (k:=3) tri_pre rfl),trivial⟩<|(by have i0:=g0.drew;exact wU [0,2,3,4,5]<|wLd (I c0.scratch) 0 isAgg3<|wLd (I F.cfg.arena) 1 isAgg3<|wU [7]<|wN<|jXC 1 rfl<|cD (c0.scratch>F.cfg.arena) (fun j1=>jCR 11 rfl<|retT [I 12]<|(by have k1:=(i0.drops [0,0]);exact ⟨congrArg (fun z=>Ending.returned (I z)) (addC_12 om l0 om b0 (List.mem_of_getElem? f0) om).symm,(k1.merge7)⟩)) fun j1=>jCO 4 rfl<|sAdd (i:Int) 1<|jOI 2 rfl<|⟨i+1,od,alB,(i0.dropAt 0 rfl),om,(by rw [take_succ_at f0];intro z hz;rcases List.mem_append.1 hz with h|h;exact n0 z h;rw [List.mem_singleton.1 h];omega)⟩)
theorem pf_add_no {W w:World} {p:Nat} {F:FS} {M H:Chunk} {F0:List Chunk} (hR:FarmP p F M) {K:Int} (hF:FI F K) (x:Int) (al:Option Addr) (nl kl:Nat) (l:List Task) (bd:Int) (hl:RdT encTask 9 [H] al nl kl l) (dl:∀z∈l,Task.Ok [H] z) (hne:¬addC F x l bd=0) (hct:0<=F.cfg.tasks/\F.cfg.tasks<=4096) (hS:Sat W w (M::H::F0)):
  Calls prog 19 #[Pt p 0,I x, .slice al nl kl,I bd] w fun e w'=>e= .returned (I (addC F x l bd))/\Sat W w' (M::H::F0):=by
 by_cases hx:0<=x/\x<64
 ·obtain ⟨j,hj⟩:=at_some hF.fw.jl (k:=x.toNat) om
  cases ha:j.added
  ·exact pf_add_n hR hF x al nl kl l bd hl dl hx hj ha hne hct hS
  ·exact pf_add_1 hR hF x al nl kl l bd hl dl hx hj ha hne hct hS
 ·exact pf_add_o hR hF x al nl kl l bd hl dl hx hne hct hS
end Go.Proofs.YtkadmghedmodbaaGreat

namespace Go.Proofs.YtkadmghedmodbaaGreat
open Go Go.E Go.Proofs.Tryz
set_option linter.all false
set_option maxRecDepth 100000
set_option maxHeartbeats 2000000
variable {W w:World} {H:Chunk} {F:List Chunk}
theorem DqR.bd {p:Nat} {S:DS} {M:Chunk} (h:DqR p S M):S.l.length<=256:=by
  obtain ⟨_,_,_,_,_,_,hW⟩:=h
  have:=hW.c;have:=hW.n;omega
theorem held_yes {l:List Wkr} {i:Nat} {v:Wkr} (h:l[i]?=some v) (hp:v.phase=1\/v.phase=2\/v.phase=3):heldN (l.take (i+1))=heldN (l.take i)+1:=by
  rw [heldN_take h,show holdsB v=true from decide_eq_true hp];rfl
theorem held_no {l:List Wkr} {i:Nat} {v:Wkr} (h:l[i]?=some v) (hp:¬(v.phase=1\/v.phase=2\/v.phase=3)):heldN (l.take (i+1))=heldN (l.take i):=by
  rw [heldN_take h,show holdsB v=false from decide_eq_false hp];simp
theorem dq_list {p:Nat} {S:DS} {M:Chunk} (hR:DqR p S M) (hS:Sat W w (M::H::F)):
  Calls prog 144 #[Pt p 0] w fun e w'=>∃(az:Option Addr) (nz kz:Nat) (Z:Chunk),e= .returned (.slice az nz kz)/\OwnT encRef 61 2 az nz kz (S.l) Z/\Sat W w' (Z::M::H::F):=by
 obtain ⟨a,n,k,c,rfl,hO,hW⟩:=hR
 have hS:Sat W _ ([(p, .cells #[I S.cap, .slice a n k] 166 (0,0))]::c::H::F):=Sat.perm hS (by simp)
 have hn:=hO.ll;have a0:=hW.c;have b0:=hW.n
 exact callsK 10 func144 rfl<|gCO hS 21 [0] rfl<|sApp (nb:=16) (Sat.nilc hS) (OwnT.nil (enc:=encRef) (E:=61) (sz:=2) fR) 0 (hO.rdAt 2 rfl) underlying125 (i:=Tryz.t61) kr fR fun c0 d0 _ _ e0 f0=>jOR 4 rfl<|retT [.slice c0 (0+n) d0]<|(by have g0:=(f0.picks [2,2]);exact ⟨_,_,_,_,rfl,by rw [<-List.nil_append S.l];exact e0,((g0.merge2).pick 1 rfl)⟩)
theorem iq_list0 {p:Nat} {S:QS} {M:Chunk} (hR:InjR p S M) (hS:Sat W w (M::H::F)):
  Calls prog 146 #[Pt p 0,I 0] w fun e w'=>∃(az:Option Addr) (nz kz:Nat) (Z:Chunk),e= .returned (.slice az nz kz)/\OwnT encRef 61 2 az nz kz (bandQ S 0) Z/\Sat W w' (Z::M::H::F):=by
 obtain ⟨a0,n0,k0,l0,c0,a1,n1,k1,l1,c1,a2,n2,k2,l2,c2,a3,n3,k3,l3,c3,rfl,b0,d0,j0,m0,hb,w0,x0⟩:=hR
 have hS:Sat W _ ([(p, .cells #[I S.cap, .slice a0 n0 k0, .slice a1 n1 k1, .slice a2 n2 k2, .slice a3 n3 k3] 168 (0,0))]::c0::c1::c2::c3::H::F):=Sat.perm hS (by simp)
 have ht:totB S.bs=n0+n1+n2+n3:=by rw [hb];unfold totB;simp [b0.len,d0.len,j0.len,m0.len];omega
 have s0:=b0.ll;have t0:=d0.ll;have u0:=j0.ll;have v0:=m0.ll
 exact callsK 22 func146 rfl<|gCO hS 31 [0] rfl<|sApp (nb:=16) (Sat.nilc hS) (OwnT.nil (enc:=encRef) (E:=61) (sz:=2) fR) 0 (b0.rdAt 2 rfl) underlying125 (i:=Tryz.t61) kr fR fun e0 f0 _ _ g0 h0=>jOR 4 rfl<|retT [.slice e0 (0+n0) f0]<|(by have i0:=(h0.picks [5,5,5,5,5]);exact ⟨_,_,_,_,rfl,by unfold bandQ;rw [if_pos (by decide),hb];exact g0,((i0.merge5).pick 1 rfl)⟩)
theorem iq_list1 {p:Nat} {S:QS} {M:Chunk} (hR:InjR p S M) (hS:Sat W w (M::H::F)):
  Calls prog 146 #[Pt p 0,I 1] w fun e w'=>∃(az:Option Addr) (nz kz:Nat) (Z:Chunk),e= .returned (.slice az nz kz)/\OwnT encRef 61 2 az nz kz (bandQ S 1) Z/\Sat W w' (Z::M::H::F):=by
 obtain ⟨a0,n0,k0,l0,c0,a1,n1,k1,l1,c1,a2,n2,k2,l2,c2,a3,n3,k3,l3,c3,rfl,d0,b0,j0,m0,hb,w0,x0⟩:=hR
 have hS:Sat W _ ([(p, .cells #[I S.cap, .slice a0 n0 k0, .slice a1 n1 k1, .slice a2 n2 k2, .slice a3 n3 k3] 168 (0,0))]::c0::c1::c2::c3::H::F):=Sat.perm hS (by simp)
 have ht:totB S.bs=n0+n1+n2+n3:=by rw [hb];unfold totB;simp [d0.len,b0.len,j0.len,m0.len];omega
 have s0:=d0.ll;have t0:=b0.ll;have u0:=j0.ll;have v0:=m0.ll
 exact callsK 22 func146 rfl<|gCO hS 31 [0] rfl<|sApp (nb:=16) (Sat.nilc hS) (OwnT.nil (enc:=encRef) (E:=61) (sz:=2) fR) 0 (b0.rdAt 3 rfl) underlying125 (i:=Tryz.t61) kr fR fun e0 f0 _ _ g0 h0=>jOR 4 rfl<|retT [.slice e0 (0+n1) f0]<|(by have i0:=(h0.picks [5,5,5,5,5]);exact ⟨_,_,_,_,rfl,by unfold bandQ;rw [if_pos (by decide),hb];exact g0,((i0.merge5).pick 1 rfl)⟩)
theorem iq_list2 {p:Nat} {S:QS} {M:Chunk} (hR:InjR p S M) (hS:Sat W w (M::H::F)):
  Calls prog 146 #[Pt p 0,I 2] w fun e w'=>∃(az:Option Addr) (nz kz:Nat) (Z:Chunk),e= .returned (.slice az nz kz)/\OwnT encRef 61 2 az nz kz (bandQ S 2) Z/\Sat W w' (Z::M::H::F):=by
 obtain ⟨a0,n0,k0,l0,c0,a1,n1,k1,l1,c1,a2,n2,k2,l2,c2,a3,n3,k3,l3,c3,rfl,d0,j0,b0,m0,hb,w0,x0⟩:=hR
 have hS:Sat W _ ([(p, .cells #[I S.cap, .slice a0 n0 k0, .slice a1 n1 k1, .slice a2 n2 k2, .slice a3 n3 k3] 168 (0,0))]::c0::c1::c2::c3::H::F):=Sat.perm hS (by simp)
 have ht:totB S.bs=n0+n1+n2+n3:=by rw [hb];unfold totB;simp [d0.len,j0.len,b0.len,m0.len];omega
 have s0:=d0.ll;have t0:=j0.ll;have u0:=b0.ll;have v0:=m0.ll
 exact callsK 22 func146 rfl<|gCO hS 31 [0] rfl<|sApp (nb:=16) (Sat.nilc hS) (OwnT.nil (enc:=encRef) (E:=61) (sz:=2) fR) 0 (b0.rdAt 4 rfl) underlying125 (i:=Tryz.t61) kr fR fun e0 f0 _ _ g0 h0=>jOR 4 rfl<|retT [.slice e0 (0+n2) f0]<|(by have i0:=(h0.picks [5,5,5,5,5]);exact ⟨_,_,_,_,rfl,by unfold bandQ;rw [if_pos (by decide),hb];exact g0,((i0.merge5).pick 1 rfl)⟩)
theorem iq_list3 {p:Nat} {S:QS} {M:Chunk} (hR:InjR p S M) (hS:Sat W w (M::H::F)):
  Calls prog 146 #[Pt p 0,I 3] w fun e w'=>∃(az:Option Addr) (nz kz:Nat) (Z:Chunk),e= .returned (.slice az nz kz)/\OwnT encRef 61 2 az nz kz (bandQ S 3) Z/\Sat W w' (Z::M::H::F):=by
 obtain ⟨a0,n0,k0,l0,c0,a1,n1,k1,l1,c1,a2,n2,k2,l2,c2,a3,n3,k3,l3,c3,rfl,d0,j0,m0,b0,hb,w0,x0⟩:=hR
 have hS:Sat W _ ([(p, .cells #[I S.cap, .slice a0 n0 k0, .slice a1 n1 k1, .slice a2 n2 k2, .slice a3 n3 k3] 168 (0,0))]::c0::c1::c2::c3::H::F):=Sat.perm hS (by simp)
 have ht:totB S.bs=n0+n1+n2+n3:=by rw [hb];unfold totB;simp [d0.len,j0.len,m0.len,b0.len];omega
 have s0:=d0.ll;have t0:=j0.ll;have u0:=m0.ll;have v0:=b0.ll
 exact callsK 22 func146 rfl<|gCO hS 31 [0] rfl<|sApp (nb:=16) (Sat.nilc hS) (OwnT.nil (enc:=encRef) (E:=61) (sz:=2) fR) 0 (b0.rdAt 5 rfl) underlying125 (i:=Tryz.t61) kr fR fun e0 f0 _ _ g0 h0=>jOR 4 rfl<|retT [.slice e0 (0+n3) f0]<|(by have i0:=(h0.picks [5,5,5,5,5]);exact ⟨_,_,_,_,rfl,by unfold bandQ;rw [if_pos (by decide),hb];exact g0,((i0.merge5).pick 1 rfl)⟩)
theorem iq_listx {p:Nat} {S:QS} {M:Chunk} (b:Int) (hb:¬(0<=b/\b<4)) (hS:Sat W w (M::H::F)):
  Calls prog 146 #[Pt p 0,I b] w fun e w'=>∃(az:Option Addr) (nz kz:Nat) (Z:Chunk),e= .returned (.slice az nz kz)/\OwnT encRef 61 2 az nz kz (bandQ S b) Z/\Sat W w' (Z::M::H::F):=by
 exact callsK 22 func146 rfl<|jCO 15 rfl<|sD 11 (b<0) (fun a0=>jOR 13 rfl<|retT [nS]<|⟨_,_,_,_,rfl,by unfold bandQ;rw [if_neg hb];exact OwnT.nil fR,(Sat.nilc hS)⟩) fun a0=>jOC 5 rfl<|(by have c0:(b:Int)>=4:=om;exact cT _ (decide_eq_true c0)<|jCR 7 rfl<|retT [nS]<|⟨_,_,_,_,rfl,by unfold bandQ;rw [if_neg hb];exact OwnT.nil fR,(Sat.nilc hS)⟩)
theorem iq_list {W w:World} {p:Nat} {S:QS} {M H:Chunk} {F:List Chunk} (hR:InjR p S M) (b:Int) (hS:Sat W w (M::H::F)):
    Calls prog 146 #[.pointer (some ⟨p,0,none⟩), .int .i64 b] w fun e w'=>∃(az:Option Addr) (nz kz:Nat) (Z:Chunk),e= .returned (.slice az nz kz)/\OwnT encRef 61 2 az nz kz (bandQ S b) Z/\Sat W w' (Z::M::H::F):=by
  by_cases hb:0<=b/\b<4
  · rcases (by omega:b=0\/b=1\/b=2\/b=3) with rfl|rfl|rfl|rfl
    · exact iq_list0 hR hS
    · exact iq_list1 hR hS
    · exact iq_list2 hR hS
    · exact iq_list3 hR hS
  · exact iq_listx b hb hS
theorem f_deque {p:Nat} {F:FS} {M:Chunk} {F0:List Chunk} (hR:FarmR p F M) {K:Int} (hF:FI F K) (x:Int) (hS:Sat W w (M::H::F0)):
  Calls prog 93 #[Pt p 0,I x] w fun e w'=>∃(az:Option Addr) (nz kz:Nat) (Z:Chunk),e= .returned (.slice az nz kz)/\OwnT encRef 61 2 az nz kz (dequeF F x) Z/\Sat W w' (Z::M::H::F0):=by
 obtain ⟨wa,aa,da,wn,wk,an,ak,dn,dk,q,xs,ap,dp,Wc,Ac,Dc,Qc,G0,H0,Q0,rfl,E0,D0,B0,I0,C0,hQ,J0,Z0⟩:=hR
 have hS:Sat W _ ((Tri p 101 (preF F.cfg wa wn wk aa an ak da dn dk q) (xs.flatMap encFJob) (encStt F.st))::Wc::Ac::Dc::G0.flatten::H0.flatten::Qc::Q0.flatten::H::F0):=Sat.perm hS (by simp [Value.cells])
 have Y0:=E0.ll;have T0:=D0.ll;have V0:=B0.ll;have L0:=I0.1;have N0:=C0.1;have P0:=J0.1
 have R0:=hF.fw.k;have W0:=hF.fw.n;have K0:=hF.fw.al;have M0:=hF.fw.dl;have O0:=hF.fw.jl
 refine callsK 28 func93 rfl<|jCO 9 rfl<|cZ (f_zero om hS) ?_
 rintro _ _ ⟨rfl,a0⟩
 refine pu5<|sD 11 (x<0) (fun f0=>jOR 18 rfl<|retT [nS]<|(by have g0:=Sat.nilc a0;have h0:=(g0.picks [8,8,8,8,8,8,8,8]);exact ⟨_,_,_,_,rfl,(by unfold dequeF;rw [if_neg om];exact (OwnT.nil (enc:=encRef) (E:=61) (sz:=2) fR)),((h0.merge8).pick 1 rfl)⟩)) fun f0=>pu4<|gY<|sMp a0 (ptr_up 0 rfl tri_pre) 8 (.slice wa wn wk)<|jOC 5 rfl<|cD (x>=(wn:Int)) (fun j0=>jCR 7 rfl<|retT [nS]<|(by have k0:=Sat.nilc a0;have l0:=(k0.picks [8,8,8,8,8,8,8,8]);exact ⟨_,_,_,_,rfl,(by unfold dequeF;rw [if_neg om];exact (OwnT.nil (enc:=encRef) (E:=61) (sz:=2) fR)),((l0.merge8).pick 1 rfl)⟩)) fun j0=>jCO 7 rfl<|sMp a0 (ptr_up 0 rfl tri_pre) 10 (.slice da dn dk)<|pu1<|sIO B0 x (x).toNat fun n0 _ _ o0 p0 _=>sMp a0 (p0.up 3 rfl) 0 (Pt n0 0) ?_
 obtain ⟨g1,q0,r0,b0,d0⟩:=Obs.get C0 o0
 have s0:=(a0.pick 5 rfl)
 have t0:=Sat.openN (A:=[]) x.toNat b0 s0
 have i0:=DqR.bd d0
 refine cZ (dq_list d0 t0.flat1) ?_
 rintro _ _ ⟨u0,v0,w0,_,rfl,c0,x0⟩
 have y0:=x0.unflat2;have A0:=c0.ll
 have z0:=(y0.picks [2,2])
 have e0:=Sat.shutN (d:=q0) (A:=[]) x.toNat b0 z0
 rw [set_same b0] at e0
 exact jOR 4 rfl<|retT [.slice u0 v0 w0]<|(by have a1:=(e0.picks [8,8,2,8,8,8,8,8]);exact ⟨_,_,_,_,rfl,(by unfold dequeF dqAt;rw [if_pos om,getD_some r0];exact c0),((a1.merge8).pick 1 rfl)⟩)
theorem f_queue {p:Nat} {F:FS} {M:Chunk} {F0:List Chunk} (hR:FarmR p F M) {K:Int} (hF:FI F K) (b:Int) (hS:Sat W w (M::H::F0)):
  Calls prog 95 #[Pt p 0,I b] w fun e w'=>∃(az:Option Addr) (nz kz:Nat) (Z:Chunk),e= .returned (.slice az nz kz)/\OwnT encRef 61 2 az nz kz (bandQ F.q b) Z/\Sat W w' (Z::M::H::F0):=by
 obtain ⟨wa,aa,da,wn,wk,an,ak,dn,dk,q,xs,ap,dp,Wc,Ac,Dc,Qc,o0,p0,z0,rfl,n0,l0,m0,q0,r0,hQ,s0,J0⟩:=hR
 have hS:Sat W _ ((Tri p 101 (preF F.cfg wa wn wk aa an ak da dn dk q) (xs.flatMap encFJob) (encStt F.st))::Wc::Ac::Dc::o0.flatten::p0.flatten::Qc::z0.flatten::H::F0):=Sat.perm hS (by simp [Value.cells])
 have I0:=n0.ll;have C0:=l0.ll;have E0:=m0.ll;have u0:=q0.1;have w0:=r0.1;have y0:=s0.1
 have A0:=hF.fw.k;have G0:=hF.fw.n;have t0:=hF.fw.al;have v0:=hF.fw.dl;have x0:=hF.fw.jl
 refine callsK 13 func95 rfl<|jCO 9 rfl<|cZ (f_zero om hS) ?_
 rintro _ _ ⟨rfl,b0⟩
 refine jOO 10 rfl<|sMp b0 (ptr_up 0 rfl tri_pre) 11 (Pt q 0)<|pu1 ?_
 have c0:=(b0.pick 6 rfl)
 refine cZ (iq_list hQ b c0.flat1) ?_
 rintro _ _ ⟨d0,e0,f0,_,rfl,a0,g0⟩
 have h0:=g0.unflat2;have k0:=a0.ll
 exact jOR 4 rfl<|retT [.slice d0 e0 f0]<|(by have i0:=(h0.picks [8,2,8,8,8,8,8,8]);exact ⟨_,_,_,_,rfl,(by skip;exact a0),((i0.merge8).pick 1 rfl)⟩)
theorem f_stats {p:Nat} {F:FS} {M:Chunk} {F0:List Chunk} (hR:FarmR p F M) {K:Int} (hF:FI F K) (hsb:F.st.held=0) (hS:Sat W w (M::H::F0)):
  Calls prog 90 #[Pt p 0] w fun e w'=>e= .returned (.agg (encStt (statsF F)).toArray)/\Sat W w' (M::H::F0):=by
 obtain ⟨wa,aa,da,wn,wk,an,ak,dn,dk,q,xs,ap,dp,Wc,Ac,Dc,Qc,H0,I0,S0,rfl,B0,D0,A0,J0,C0,hQ,K0,R0⟩:=hR
 have hS:Sat W _ ((Tri p 101 (preF F.cfg wa wn wk aa an ak da dn dk q) (xs.flatMap encFJob) (encStt F.st))::Wc::Ac::Dc::H0.flatten::I0.flatten::Qc::S0.flatten::H::F0):=Sat.perm hS (by simp [Value.cells])
 have u1:=B0.ll;have V0:=D0.ll;have X0:=A0.ll;have M0:=J0.1;have O0:=C0.1;have Q0:=K0.1
 have T0:=hF.fw.k;have Z0:=hF.fw.n;have L0:=hF.fw.al;have N0:=hF.fw.dl;have P0:=hF.fw.jl
 have s1:=hF.q.small hF.fw;have q1:=load_max hF.fw;have r1:0<=totB F.q.bs:=by unfold totB;exact Int.natCast_nonneg _
 refine callsK 52 func90 rfl<|jCO 2 rfl<|sAlloc hS zeroValue67 fun _ _ t0=>jOO 6 rfl ?_
 have u0:=(t0.pick 1 rfl)
 refine cZ (f_zero om u0) ?_
 rintro _ _ ⟨rfl,i0⟩
 refine jOO 10 rfl<|sMA i0 (ptr_up 0 rfl (tri_post (k:=332) (tri_len (sz:=5) (m:=12) fR R0))) 0 (encStt F.st)<|sAlloc i0 zeroValue67 fun j0 _ v0=>sTk v0 0 rfl (encStt F.st) fun _ k0=>jOO 7 rfl<|sMp k0 (ptr_up 1 rfl tri_pre) 11 (Pt q 0) ?_
 have w0:=(k0.pick 8 rfl)
 refine cZ (iq_len hQ w0.flat1) ?_
 rintro _ _ ⟨rfl,x0⟩
 refine pu1<|tWk x0.unflat1 1 rfl 7 (I (totB F.q.bs)) fun _ z0=>jOC 9 rfl<|loopF [0,2,3] (γ:=Nat×Int×Int) (fun ⟨i,qd,hd⟩ R=>⟨[(4,I (i:Int))],Qc::[(j0, .cells #[I F.st.starts,I F.st.commits,I F.st.drops,I F.st.crashes,I F.st.steals,I F.st.helps,I F.st.spills,I qd,I hd,I F.st.cells] 67 (0,0))]::R,wn-i,i<=wn/\(qd=totB F.q.bs+sumD (F.dq.take i))/\(hd=F.st.held+heldN (F.ws.take i))/\(0<=qd/\qd<=4611686018427387904+256*i)/\(hd<=4611686018427387904+i/\-4611686018427387904<=hd)⟩) (0,(totB F.q.bs),F.st.held) ⟨z0,om,(by simp [sumD]),(by simp [heldN]),om,om⟩ ?_
 rintro ⟨i,qd,hd⟩ ρ _ ⟨a0,hi,G0,E0,n1,Y0⟩
 refine jCO 7 rfl<|sMp a0 (ptr_up 2 rfl tri_pre) 8 (.slice wa wn wk)<|jOC 4 rfl<|CD ((i:Int)<(wn:Int)) (fun a1=>gCO a0 8 [1001] rfl<|sTk a0 3 rfl [I F.st.starts,I F.st.commits,I F.st.drops,I F.st.crashes,I F.st.steals,I F.st.helps,I F.st.spills,I qd,I hd,I F.st.cells] fun _ l0=>jOR 3 rfl<|retN (vs:=[.agg #[I F.st.starts,I F.st.commits,I F.st.drops,I F.st.crashes,I F.st.steals,I F.st.helps,I F.st.spills,I qd,I hd,I F.st.cells]]) rfl (.cons (.cell _ _ _ _ kr (lvA l0 3 0 [I F.st.starts,I F.st.commits,I F.st.drops,I F.st.crashes,I F.st.steals,I F.st.helps,I F.st.spills,I qd,I hd,I F.st.cells] (isAgg67 _) (sizeOf67 _) rfl rfl rfl)) .nil)<|(by have b1:=((l0.picks [8,8,8,8,8,7]).drops [7,7]);have c1:=(b1.merge8);rw [List.take_of_length_le om] at G0 E0;exact ⟨by rw [G0,E0];rfl,c1⟩)) fun a1=>jCC 5 rfl ?_
 obtain ⟨m0,d1,e1,n0,o0,p0,a2⟩:=OwnT.eN A0 i
 refine drawE [9,12] [(1,⟨j0,7,none⟩,I qd),(5,⟨p,10,none⟩, .slice da dn dk),(8,⟨d1,e1+i*1,none⟩,Pt m0 0)] [(true,[0,2,3,4,6]),(true,[1]),(true,[5]),(true,[7]),(true,[8]),(false,[9]),(true,[10]),(true,[11]),(false,[12])] rfl kr ⟨cI a0 1, .inr (cell_up a0 2 rfl (k:=10) tri_pre rfl), .inr ((o0.up 6 rfl).cell a0 (k:=0) rfl),trivial⟩ ?_
 have f1:=a0.drew
 refine wU [0,2,3,4,6]<|wLd (I qd) 0 isAgg3<|wLd (.slice da dn dk) 1 isAgg94<|wI p0<|wLd (Pt m0 0) 2 isAgg105<|wO rfl ?_
 obtain ⟨c0,g1,q0,e0,r0⟩:=Obs.get C0 n0
 have h1:=(f1.pick 8 rfl)
 have i1:=Sat.openN (A:=[]) i e0 h1
 have y0:=DqR.bd r0
 refine cZ (dq_len r0 i1.flat1) ?_
 rintro _ _ ⟨rfl,j1⟩
 have k1:=j1.unflat1
 have l1:=(k1.picks [1,1])
 have d0:=Sat.shutN (d:=g1) (A:=[]) i e0 l1
 rw [set_same e0] at d0
 exact nilO ⟨⟨cI d0 2, .inr (cell_up d0 3 rfl (k:=10) tri_pre rfl),dI,trivial⟩,(wAdd qd (((c0).l.length:Nat):Int)<|wU [11]<|wO rfl<|tWk d0 2 rfl 7 (I (qd+(((c0).l.length:Nat):Int))) fun _ f0=>nilO ⟨dA,(wN<|jXO 6 rfl<|sMp f0 (ptr_up 3 rfl tri_pre) 8 (.slice wa wn wk)<|pu1<|sIO B0 (i:Int) i fun b0 _ _ s0 m1 _=>sMA f0 (m1.up 5 rfl) 0 (encWkr b0)<|cS (f_holds b0 f0.flat) fun _ g0=>jOC 2 rfl<|CD ((b0.phase=1\/b0.phase=2\/b0.phase=3)) (fun h0=>jCO 5 rfl<|sAdd (i:Int) 1<|jOI 2 rfl<|⟨(i+1,(qd+(((c0).l.length:Nat):Int)),hd),od,alB,(g0.picks [8,8,8,8,8,8,8,8]),om,(by rw [sumD_take q0];omega),(by rw [held_no s0 h0];omega),om,om⟩) fun h0=>gCO g0 3 [2] rfl<|sAdd hd 1<|pu1<|tWk g0 2 rfl 8 (I (hd+1)) fun _ o1=>jOO 5 rfl<|sAdd (i:Int) 1<|jOI 2 rfl<|⟨(i+1,(qd+(((c0).l.length:Nat):Int)),(hd+1)),od,alB,(o1.picks [8,8,8,8,8,8,8,8]),om,(by rw [sumD_take q0];omega),(by rw [held_yes s0 h0];omega),om,om⟩)⟩)⟩
theorem f_new_no {cs:List Chunk} (c:Cfg) (hv:¬validCfg c=0) (hS:Sat W w cs):
  Calls prog 15 #[.agg (encCfg c).toArray] w fun e w'=>e= .returned (.tuple #[.pointer none,I (validCfg c)])/\Sat W w' cs:=by
 exact callsK 70 func15 rfl<|jCO 2 rfl<|sBx hS (encCfg c) fun _ _ a0=>gOO a0 8 [800] rfl<|cS (r26_valid c a0.flat) fun _ b0=>jOC 9 rfl<|(by have c0:¬(((validCfg c):Int)=0):=hv;exact cT _ (bne_iff_ne.2 c0)<|jCR 9 rfl<|retT [.pointer none,I (validCfg c)]<|⟨rfl,(b0.dropAt 0 rfl)⟩)
theorem f_add_no {p:Nat} {F:FS} {M:Chunk} {F0:List Chunk} (hR:FarmR p F M) {K:Int} (hF:FI F K) (x:Int) (al:Option Addr) (nl kl:Nat) (l:List Task) (bd:Int) (hl:RdT encTask 9 [H] al nl kl l) (dl:∀z∈l,Task.Ok [H] z) (hne:¬addC F x l bd=0) (hct:0<=F.cfg.tasks/\F.cfg.tasks<=4096) (hS:Sat W w (M::H::F0)):
  Calls prog 20 #[Pt p 0,I x, .slice al nl kl,I bd] w fun e w'=>e= .returned (I (addC F x l bd))/\Sat W w' (M::H::F0):=by
 have n1:=hl.ll
 obtain ⟨wa,aa,da,wn,wk,an,ak,dn,dk,q,xs,ap,dp,Wc,Ac,Dc,Qc,I0,L0,P0,rfl,T0,R0,S0,W0,X0,hQ,N0,V0⟩:=hR
 have hS:Sat W _ ((Tri p 101 (preF F.cfg wa wn wk aa an ak da dn dk q) (xs.flatMap encFJob) (encStt F.st))::Wc::Ac::Dc::I0.flatten::L0.flatten::Qc::P0.flatten::H::F0):=Sat.perm hS (by simp [Value.cells])
 have H1:=T0.ll;have z1:=R0.ll;have B1:=S0.ll;have Z0:=W0.1;have f1:=X0.1;have j1:=N0.1
 have s1:=hF.fw.k;have E1:=hF.fw.n;have Y0:=hF.fw.al;have b1:=hF.fw.dl;have h1:=hF.fw.jl
 have m1:∀j∈F.jobs,j.tasks.length<=4096:=fun j hj=>(hF.fw.j j hj).n;have C1:0<=loadL F.jobs:=Int.natCast_nonneg _;have F1:=load_max hF.fw
 refine callsK 120 func20 rfl<|jCO 10 rfl<|cZ (f_zero om hS) ?_
 rintro _ _ ⟨rfl,c0⟩
 refine jOO 9 rfl<|sD 22 (x<0) (fun y0=>jOR 15 rfl<|retT [I 16]<|⟨congrArg (fun z=>Ending.returned (I z)) (addC_16 om).symm,(c0.merge8)⟩) fun y0=>jOC 6 rfl<|cD (x>=64) (fun a1=>jCR 8 rfl<|retT [I 16]<|⟨congrArg (fun z=>Ending.returned (I z)) (addC_16 om).symm,(c0.merge8)⟩) fun a1=>jCO 6 rfl ?_
 obtain ⟨o0,t0⟩:=at_some V0 (k:=(x.toNat)) om
 obtain ⟨w2,x2,c1,y2,d1⟩:=Obs.get N0 t0;obtain ⟨e1,z2,a3,b3⟩:=d1.fields
 have G0:(jobAt F x).added=o0.added:=by unfold jobAt;rw [getD_some c1,e1]
 refine sIdxA (b:=p) (off:=12) x (x.toNat) runUnderlying99 sizeOf98<|pu1<|sMp c0 (ptr_up 0 rfl (tri_el (sz:=5) (n0:=12) fR t0)) 0 (.bool o0.added)<|jOC 3 rfl<|cB o0.added (fun e0=>jCR 8 rfl<|retT [I 18]<|⟨congrArg (fun z=>Ending.returned (I z)) (addC_18 om (by rw [G0];exact e0)).symm,(c0.merge8)⟩) fun e0=>jCO 5 rfl<|sD 37 (bd<0) (fun g1=>jOR 15 rfl<|retT [I 2]<|⟨congrArg (fun z=>Ending.returned (I z)) (addC_2 om (by rw [G0];exact e0) om).symm,(c0.merge8)⟩) fun g1=>jOC 6 rfl<|cD (bd>=4) (fun i1=>jCR 8 rfl<|retT [I 2]<|⟨congrArg (fun z=>Ending.returned (I z)) (addC_2 om (by rw [G0];exact e0) om).symm,(c0.merge8)⟩) fun i1=>jCO 6 rfl<|cZ (r25_new al nl kl l (hl.fl 8) (fun z hz=>(dl z hz).of_mem (mF 8)) c0.flat) ?_
 rintro _ _ (⟨b0,rfl,p0⟩|⟨b0,h0,u0,rfl,_,p0⟩)
 · exact (by have k1:=p0.unflat;exact jOC 14 rfl<|(by have l1:¬(((validC l):Int)=0):=b0;exact cT _ (bne_iff_ne.2 l1)<|jCR 8 rfl<|retT [I (validC l)]<|⟨congrArg (fun z=>Ending.returned (I z)) (addC_v om (by rw [G0];exact e0) om b0).symm,(k1.merge8)⟩))
 refine jOO 22 rfl<|sAlloc p0.unflat1 zeroValue98 fun q0 _ o1=>sTk o1 0 rfl [.bool true, .bool true,I bd,nS,Pt h0 0] fun _ q1=>nilO ?_
 have r1:=validC_zero b0;have D1:=r1.2.1;have O0:¬(jobAt F x).added=true:=(by rw [G0];exact e0)
 refine jXC 8 rfl<|loopF [0,1,2,3,9,11] (γ:=Nat×(List Task)×(Option Addr)×Nat×Nat×Chunk×Chunk) (fun ⟨i,zs,J0,C0,Q0,K0,D0⟩ R=>⟨[(12,I (i:Int))],D0::K0::[(q0, .cells #[.bool true, .bool true,I bd, .slice J0 C0 Q0,Pt h0 0] 98 (0,0))]::R,nl-i,i<=nl/\(∀z∈l.take i,z.scratch<=F.cfg.arena)/\(zs.length=i)/\OwnT encTask 51 9 J0 C0 Q0 zs K0/\(∀z∈zs,Task.Ok [D0] z)⟩) (0,[],none,0,0,[],[]) ⟨(Sat.nilc (Sat.nilc q1)),om,(by intro z hz;simp at hz),rfl,(OwnT.nil (enc:=encTask) (E:=51) (sz:=9) fR),(by intro z hz;cases hz)⟩ ?_
 rintro ⟨i,zs,J0,C0,Q0,K0,D0⟩ ρ _ ⟨g0,hi,H0,I1,E0,M0⟩
 have U0:=E0.ll
 refine jCC 9 rfl<|CD ((i:Int)<(nl:Int)) (fun u1=>jCC 7 rfl<|drawE [8] [(6,⟨p,5,none⟩,I F.cfg.tasks)] [(true,[0,1,2,3,4,5,7]),(true,[6]),(false,[8]),(true,[9]),(true,[10])] rfl kr ⟨.inr (cell_up g0 4 rfl (k:=5) tri_pre rfl),trivial⟩<|(by have v1:=g0.drew;refine wU [0,1,2,3,4,5,7]<|wLd (I F.cfg.tasks) 0 isAgg3<|wO rfl ?_;have w1:=(v1.pick 4 rfl);refine cZ (f_load N0 V0 m1 w1) ?_;rintro _ _ ⟨rfl,v0⟩;exact nilO ⟨⟨.inr (cell_up v0 0 rfl (k:=5) tri_pre rfl),trivial⟩,(wSub F.cfg.tasks (loadL F.jobs)<|wU [10]<|wN<|jXC 1 rfl<|(by have x1:((nl:Int):Int)>(F.cfg.tasks-(loadL F.jobs)):=(by have h9:F.cfg.tasks-loadL F.jobs<(l.length:Int):=Classical.byContradiction fun h=>hne (addC_0 om O0 om b0 (by rw [List.take_of_length_le om] at H0;exact H0) h);omega);exact cT _ (decide_eq_true x1)<|jCR 7 rfl<|retT [I 13]<|(by have y1:=(v0.drops [1,1,1,1]);exact ⟨congrArg (fun z=>Ending.returned (I z)) (addC_13 om O0 om b0 (by rw [List.take_of_length_le om] at H0;exact H0) om).symm,(y1.merge8)⟩)))⟩)) fun u1=>?_
 refine jCC 6 rfl ?_
 obtain ⟨a0,a2,b2,d0,c2,d2⟩:=RdT.eN hl i
 have A0:=(dl a0 (List.mem_of_getElem? d0)).deps.len;have B0:=(dl a0 (List.mem_of_getElem? d0)).deps.le;have z0:=asc_len om (taskOK_asc (tasksOK_at (validC_zero b0).2.2 d0))
 refine drawE [] [(4,⟨a2,b2+8,none⟩,I a0.scratch),(9,⟨p,3,none⟩,I F.cfg.arena)] [(true,[0,1]),(true,[2]),(true,[3,5,6,7,8]),(true,[4]),(true,[9]),(true,[10])] rfl kr ⟨.inr ((c2.up 12 rfl).cell g0 (k:=8) rfl), .inr (cell_up g0 4 rfl (k:=3) tri_pre rfl),trivial⟩ ?_
 have r0:=g0.drew
 refine wU [0,1]<|wI d2<|wU [3,5,6,7,8]<|wLd (I a0.scratch) 0 isAgg3<|wLd (I F.cfg.arena) 1 isAgg3<|wU [10]<|wN<|jXC 1 rfl<|cD (a0.scratch>F.cfg.arena) (fun e2=>jCR 12 rfl<|retT [I 12]<|(by have f2:=(r0.drops [0,0,0,0]);exact ⟨congrArg (fun z=>Ending.returned (I z)) (addC_12 om O0 om b0 (List.mem_of_getElem? d0) om).symm,(f2.merge8)⟩)) fun e2=>jCO 6 rfl<|sIN hl i fun h2 _ _ f0 i2=>?_
 obtain rfl:a0=h2:=Option.some.inj (d0.symm.trans f0)
 have A0:=(dl a0 (List.mem_of_getElem? f0)).deps.len;have B0:=(dl a0 (List.mem_of_getElem? f0)).deps.le;have z0:=asc_len om (taskOK_asc (tasksOK_at (validC_zero b0).2.2 f0))
 refine sMA r0 (i2.up 12 rfl) 0 (encTask a0)<|sAlloc r0 zeroValue51 fun _ _ j2=>sTk j2 0 rfl (encTask a0) fun _ w0=>gOO w0 6 [0] rfl<|sApp (nb:=8) (Sat.nilc w0) (OwnT.nil (enc:=Go.E.encI) (E:=3) (sz:=1) fR) 0 ((dl a0 (List.mem_of_getElem? f0)).deps.up 14 rfl) underlying22 (i:=Tryz.t3) kr fR fun i0 j0 k0 _ m2 n2=>pu1<|tWk n2 1 rfl 6 (.slice i0 (0+a0.deps.n) j0) fun _ x0=>gOO x0 6 [4,901] rfl<|sBK x0 #[I a0.stage,I a0.part,I a0.rectX0,I a0.rectY0,I a0.rectX1,I a0.rectY1, .slice i0 (0+a0.deps.n) j0,I a0.rows,I a0.scratch] 51 fun _ _ o2=>sApp (nb:=88) o2 E0 4 (RdT.blk (enc:=encTask) (sz:=9) (xs:=[(⟨a0.stage,a0.part,a0.rectX0,a0.rectY0,a0.rectX1,a0.rectY1,⟨i0,(0+a0.deps.n),j0,([]++a0.deps.l)⟩,a0.rows,a0.scratch⟩:Task)]) fR 1 0 rfl rfl rfl om) underlying45 (i:=Tryz.t51) kr fR fun l0 m0 s0 _ q2 r2=>pu1<|tWk r2 5 rfl 3 (.slice l0 (C0+1) m0) fun _ s2=>jOO 5 rfl<|sAdd (i:Int) 1<|jOI 2 rfl ?_
 have t2:=(s2.drops [0,1])
 exact ⟨(i+1,(zs++[(⟨a0.stage,a0.part,a0.rectX0,a0.rectY0,a0.rectX1,a0.rectY1,⟨i0,(0+a0.deps.n),j0,([]++a0.deps.l)⟩,a0.rows,a0.scratch⟩:Task)]),l0,(C0+1),m0,s0,(k0++D0)),od,alB,(Sat.perm (cs':=(k0++D0)::(s0::[(q0, .cells #[.bool true, .bool true,I bd, .slice l0 (C0+1) m0,Pt h0 0] 98 (0,0))]::u0::(Tri p 101 (preF F.cfg wa wn wk aa an ak da dn dk q) (xs.flatMap encFJob) (encStt F.st))::Wc::Ac::Dc::I0.flatten::L0.flatten::Qc::P0.flatten::H::F0)) (show Sat W _ (k0::D0::s0::[(q0, .cells #[.bool true, .bool true,I bd, .slice l0 (C0+1) m0,Pt h0 0] 98 (0,0))]::u0::(Tri p 101 (preF F.cfg wa wn wk aa an ak da dn dk q) (xs.flatMap encFJob) (encStt F.st))::Wc::Ac::Dc::I0.flatten::L0.flatten::Qc::P0.flatten::H::F0) from t2) (by simp)),om,(by rw [take_succ_at d0];intro z hz;rcases List.mem_append.1 hz with h|h;exact H0 z h;rw [List.mem_singleton.1 h];omega),by first|omega|(simp;omega),q2,(by
   intro z hz
   rcases List.mem_append.1 hz with h|h
   ·exact (M0 z h).of_mem mS
   ·simp only [List.mem_singleton] at h;subst h;exact ⟨(m2.rdAt (cs:=[k0]) 0 rfl).of_mem mS⟩)⟩
theorem tg_spoilc {p:Nat} {a:Option Addr} {n k:Nat} {i:Int} {xs:List Int} (hR:RdT Go.E.encI 1 [H] a n k xs) (hi:0<=i/\i<=n) (hS:Sat W w ([(p, .cells #[.slice a n k,I i] 72 (0,0))]::H::F)) (c:Cfg) (hc:1<=c.workers/\c.workers<=4):
  Calls prog 9 #[Pt p 0, .agg (encCfg c).toArray] w fun e w'=>∃(c2:Cfg),e= .returned (.agg (encCfg c2).toArray)/\(-1<=c2.workers/\c2.workers<=1048577)/\∃i':Int,(0<=i'/\i'<=n)/\Sat W w' ([(p, .cells #[.slice a n k,I i'] 72 (0,0))]::H::F):=by
 have hle:=hR.le
 refine callsK 29 func9 rfl<|jCO 2 rfl<|sBox hS (.agg (encCfg c).toArray) (encCfg c).toArray fun d0 _ w0=>sAlloc w0 zeroValue24 fun _ _ x0=>jOO 4 rfl<|sBS x0 #[I 0,I 1,I (-1),I 64,I 65,I 256,I 257,I 1048576,I 1048577,I 4096,I 4097] runUnderlying22 sizeOf3 zeroValue3 fun y0 _ z0=>pu1 ?_
 have a1:=(z0.pick 3 rfl)
 refine cX call13 (tape_next (RdT.flat (hR.up 3 (by rfl))) om a1.flat1 11 om) ?_
 rintro _ _ ⟨b1,rfl,_,_,_,c1⟩
 have f0:=c1.unflat1
 refine sIdx (RdT.blk (cs:=[[(y0, .cells #[I 0,I 1,I (-1),I 64,I 65,I 256,I 257,I 1048576,I 1048577,I 4096,I 4097] 3 (0,0))]]) (enc:=Go.E.encI) (sz:=1) (xs:=[0,1,-1,64,65,256,257,1048576,1048577,4096,4097]) fR 11 0 rfl rfl rfl om) b1 runUnderlying22 sizeOf3 fun a0 _ _ d1 e1=>?_
 have hb_x_18:-1<=a0/\a0<=1048577:=by have h9_:=List.mem_of_getElem? d1;simp only [List.mem_cons,List.not_mem_nil,or_false] at h9_;omega
 refine sLp f0 (e1.up 1 rfl) 0 (I a0) (isAgg3 _)<|jOO 13 rfl<|sBS f0 #[Pt d0 0,Pt d0 1,Pt d0 2,Pt d0 3,Pt d0 4,Pt d0 5,Pt d0 6,Pt d0 7] runUnderlying74 sizeOf73 zeroValue73 fun b0 _ f1=>jOO 7 rfl ?_
 have g1:=(f1.pick 1 rfl)
 refine cX call13 (tape_next (RdT.flat (hR.up 4 (by rfl))) om g1.flat1 8 om) ?_
 rintro _ _ ⟨e0,rfl,_,_,_,h1⟩
 have c0:=h1.unflat1
 rcases (by omega:e0=0\/e0=1\/e0=2\/e0=3\/e0=4\/e0=5\/e0=6\/e0=7) with h8_|h8_|h8_|h8_|h8_|h8_|h8_|h8_
 ·rw [h8_]
  refine stepY (Pt b0 0) rfl rfl (Y_idx (a:=(At b0 0)) (i:=0) (len:=8) (cap:=8) rfl runUnderlying74 sizeOf73 kr kr ⟨_,rfl,add_off _ 0 _,by decide,by decide⟩)<|gOO c0 3 [1] rfl<|tW c0 4 0 (I a0) sizeOf3 fun _ g0=>gOO g0 5 [804] rfl<|sTl g0 3 (encCfg {c with workers:=a0}) sizeOf24 fun _ h0=>jOR 3 rfl<|retN (vs:=[.agg (encCfg {c with workers:=a0}).toArray]) rfl (.cons (.cell _ _ _ _ kr (lvA h0 3 0 (encCfg {c with workers:=a0}) (isAgg24 _) (sizeOf24 _) rfl rfl rfl)) .nil) ?_
  exact ⟨({c with workers:=a0}:Cfg),rfl,by (dsimp only;omega),_,om,(h0.drops [1,1,1,1])⟩
 ·rw [h8_]
  refine stepY (Pt b0 1) rfl rfl (Y_idx (a:=(At b0 0)) (i:=1) (len:=8) (cap:=8) rfl runUnderlying74 sizeOf73 kr kr ⟨_,rfl,add_off _ 0 _,by decide,by decide⟩)<|gOO c0 3 [1] rfl<|tW c0 4 1 (I a0) sizeOf3 fun _ i0=>gOO i0 5 [804] rfl<|sTl i0 3 (encCfg {c with tileW:=a0}) sizeOf24 fun _ j0=>jOR 3 rfl<|retN (vs:=[.agg (encCfg {c with tileW:=a0}).toArray]) rfl (.cons (.cell _ _ _ _ kr (lvA j0 3 0 (encCfg {c with tileW:=a0}) (isAgg24 _) (sizeOf24 _) rfl rfl rfl)) .nil) ?_
  exact ⟨({c with tileW:=a0}:Cfg),rfl,by (dsimp only;omega),_,om,(j0.drops [1,1,1,1])⟩
 ·rw [h8_]
  refine stepY (Pt b0 2) rfl rfl (Y_idx (a:=(At b0 0)) (i:=2) (len:=8) (cap:=8) rfl runUnderlying74 sizeOf73 kr kr ⟨_,rfl,add_off _ 0 _,by decide,by decide⟩)<|gOO c0 3 [1] rfl<|tW c0 4 2 (I a0) sizeOf3 fun _ k0=>gOO k0 5 [804] rfl<|sTl k0 3 (encCfg {c with tileH:=a0}) sizeOf24 fun _ l0=>jOR 3 rfl<|retN (vs:=[.agg (encCfg {c with tileH:=a0}).toArray]) rfl (.cons (.cell _ _ _ _ kr (lvA l0 3 0 (encCfg {c with tileH:=a0}) (isAgg24 _) (sizeOf24 _) rfl rfl rfl)) .nil) ?_
  exact ⟨({c with tileH:=a0}:Cfg),rfl,by (dsimp only;omega),_,om,(l0.drops [1,1,1,1])⟩
 ·rw [h8_]
  refine stepY (Pt b0 3) rfl rfl (Y_idx (a:=(At b0 0)) (i:=3) (len:=8) (cap:=8) rfl runUnderlying74 sizeOf73 kr kr ⟨_,rfl,add_off _ 0 _,by decide,by decide⟩)<|gOO c0 3 [1] rfl<|tW c0 4 3 (I a0) sizeOf3 fun _ m0=>gOO m0 5 [804] rfl<|sTl m0 3 (encCfg {c with arena:=a0}) sizeOf24 fun _ n0=>jOR 3 rfl<|retN (vs:=[.agg (encCfg {c with arena:=a0}).toArray]) rfl (.cons (.cell _ _ _ _ kr (lvA n0 3 0 (encCfg {c with arena:=a0}) (isAgg24 _) (sizeOf24 _) rfl rfl rfl)) .nil) ?_
  exact ⟨({c with arena:=a0}:Cfg),rfl,by (dsimp only;omega),_,om,(n0.drops [1,1,1,1])⟩
 ·rw [h8_]
  refine stepY (Pt b0 4) rfl rfl (Y_idx (a:=(At b0 0)) (i:=4) (len:=8) (cap:=8) rfl runUnderlying74 sizeOf73 kr kr ⟨_,rfl,add_off _ 0 _,by decide,by decide⟩)<|gOO c0 3 [1] rfl<|tW c0 4 4 (I a0) sizeOf3 fun _ o0=>gOO o0 5 [804] rfl<|sTl o0 3 (encCfg {c with deque:=a0}) sizeOf24 fun _ p0=>jOR 3 rfl<|retN (vs:=[.agg (encCfg {c with deque:=a0}).toArray]) rfl (.cons (.cell _ _ _ _ kr (lvA p0 3 0 (encCfg {c with deque:=a0}) (isAgg24 _) (sizeOf24 _) rfl rfl rfl)) .nil) ?_
  exact ⟨({c with deque:=a0}:Cfg),rfl,by (dsimp only;omega),_,om,(p0.drops [1,1,1,1])⟩
 ·rw [h8_]
  refine stepY (Pt b0 5) rfl rfl (Y_idx (a:=(At b0 0)) (i:=5) (len:=8) (cap:=8) rfl runUnderlying74 sizeOf73 kr kr ⟨_,rfl,add_off _ 0 _,by decide,by decide⟩)<|gOO c0 3 [1] rfl<|tW c0 4 5 (I a0) sizeOf3 fun _ q0=>gOO q0 5 [804] rfl<|sTl q0 3 (encCfg {c with tasks:=a0}) sizeOf24 fun _ r0=>jOR 3 rfl<|retN (vs:=[.agg (encCfg {c with tasks:=a0}).toArray]) rfl (.cons (.cell _ _ _ _ kr (lvA r0 3 0 (encCfg {c with tasks:=a0}) (isAgg24 _) (sizeOf24 _) rfl rfl rfl)) .nil) ?_
  exact ⟨({c with tasks:=a0}:Cfg),rfl,by (dsimp only;omega),_,om,(r0.drops [1,1,1,1])⟩
 ·rw [h8_]
  refine stepY (Pt b0 6) rfl rfl (Y_idx (a:=(At b0 0)) (i:=6) (len:=8) (cap:=8) rfl runUnderlying74 sizeOf73 kr kr ⟨_,rfl,add_off _ 0 _,by decide,by decide⟩)<|gOO c0 3 [1] rfl<|tW c0 4 6 (I a0) sizeOf3 fun _ s0=>gOO s0 5 [804] rfl<|sTl s0 3 (encCfg {c with cells:=a0}) sizeOf24 fun _ t0=>jOR 3 rfl<|retN (vs:=[.agg (encCfg {c with cells:=a0}).toArray]) rfl (.cons (.cell _ _ _ _ kr (lvA t0 3 0 (encCfg {c with cells:=a0}) (isAgg24 _) (sizeOf24 _) rfl rfl rfl)) .nil) ?_
  exact ⟨({c with cells:=a0}:Cfg),rfl,by (dsimp only;omega),_,om,(t0.drops [1,1,1,1])⟩
 rw [h8_]
 refine stepY (Pt b0 7) rfl rfl (Y_idx (a:=(At b0 0)) (i:=7) (len:=8) (cap:=8) rfl runUnderlying74 sizeOf73 kr kr ⟨_,rfl,add_off _ 0 _,by decide,by decide⟩)<|gOO c0 3 [1] rfl<|tW c0 4 7 (I a0) sizeOf3 fun _ u0=>gOO u0 5 [804] rfl<|sTl u0 3 (encCfg {c with jobs:=a0}) sizeOf24 fun _ v0=>jOR 3 rfl<|retN (vs:=[.agg (encCfg {c with jobs:=a0}).toArray]) rfl (.cons (.cell _ _ _ _ kr (lvA v0 3 0 (encCfg {c with jobs:=a0}) (isAgg24 _) (sizeOf24 _) rfl rfl rfl)) .nil) ?_
 exact ⟨({c with jobs:=a0}:Cfg),rfl,by (dsimp only;omega),_,om,(v0.drops [1,1,1,1])⟩
end Go.Proofs.YtkadmghedmodbaaGreat
