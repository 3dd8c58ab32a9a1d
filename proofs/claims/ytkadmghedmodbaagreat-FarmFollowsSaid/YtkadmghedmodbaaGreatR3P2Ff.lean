import Derived.Test.YtkadmghedmodbaaGreatR3P2Rec
set_option linter.all false
namespace Go.Proofs.YtkadmghedmodbaaGreat
open Go Go.E Go.Proofs.Tryz
set_option linter.all false
set_option maxRecDepth 100000
set_option maxHeartbeats 2000000
variable {W w:World} {H:Chunk} {F:List Chunk}
def J5 (m:Int) (F:FS):Prop:=∀(k:Nat) (q:Bool×Nat),(shapeF F.jobs)[k]?=some q->q.1=true->k<=3\/((k:Nat):Int)=m
theorem J5.op {m:Int} {F G:FS} (h:J5 m F) (e:shapeF G.jobs=shapeF F.jobs):J5 m G:=by unfold J5;rw [e];exact h
theorem one_true:∀(S:List (Bool×Nat)) (m:Int),(∀(k:Nat) (q:Bool×Nat),S[k]?=some q->q.1=true->(k:Int)=m)->(S.filter (·.1)).length<=1
  |[],_,_=>Nat.zero_le _
  |x::S,m,h=>by
    have ih:=one_true S (m-1) fun k q hk hq=>by have:=h (k+1) q (by simpa using hk) hq;omega
    rw [List.filter_cons]
    split
    · rename_i hx
      have h0:=h 0 x rfl hx
      have:S.filter (·.1)=[]:=List.filter_eq_nil_iff.2 fun q hq=>by
        obtain ⟨k,hk⟩:=List.getElem?_of_mem hq
        intro h2
        have:=h (k+1) q (by simpa using hk) h2;omega
      rw [this];exact Nat.le_refl _
    · exact ih
theorem J5.le {m:Int} {F:FS} (h:J5 m F):addedN F<=5:=by
  unfold addedN
  rw [<-List.take_append_drop 4 (shapeF F.jobs),List.filter_append,List.length_append]
  have h1:(((shapeF F.jobs).take 4).filter (·.1)).length<=4:=Nat.le_trans (List.length_filter_le _ _) (by rw [List.length_take];omega)
  have h2:=one_true ((shapeF F.jobs).drop 4) (m-4) fun k q hk hq=>by
    rw [List.getElem?_drop] at hk
    rcases h (4+k) q hk hq with h3|h3<;>omega
  omega
theorem J5.add {m:Int} {F:FS} {x bd:Int} {l:List Task} (h:J5 m F) (hx:0<=x/\(x<=3\/x=m)):J5 m (addF F x l bd):=by
  have e:shapeF (addF F x l bd).jobs=(shapeF F.jobs).set x.toNat (true,l.length):=by simp only [addF,shapeF,List.map_set,jobN,List.length_map]
  unfold J5;rw [e]
  intro k q hk hq
  rw [List.getElem?_set] at hk
  split at hk
  · rename_i e;subst e;omega
  · exact h k q hk hq
theorem J5.new (m:Int) (c:Cfg):J5 m (newF c):=fun k q hk hq=>by
  simp only [newF,shapeF,List.map_replicate] at hk
  have:=List.eq_of_mem_replicate (List.mem_of_getElem? hk)
  subst this;cases hq
theorem FJ.n5 {m K:Int} {F:FS} {n:Nat} (h:FJ F K n) (h5:J5 m F):FJ F K 5:=⟨h.i,h.t,h5.le,h.h⟩
theorem J5.step {m K x c:Int} {F:FS} {n:Nat} (h:J5 m F) (j:FJ F K n) (hK:K+1<=4096):J5 m (stepF F x c).1:=h.op (step_ok j.i.fw j.i.st hK).2.2
theorem J5.crash {m K x:Int} {F:FS} {n:Nat} (h:J5 m F) (j:FJ F K n) (hK:K+1<=4096):J5 m (crashF F x).1:=h.op (crash_ok j.i.fw j.i.st hK).2.2
theorem J5.restart {m K x:Int} {F:FS} {n:Nat} (h:J5 m F) (j:FJ F K n) (hK:K+1<=4096):J5 m (restartF F x).1:=h.op (restart_ok j.i.fw j.i.st hK).2.2
theorem J5.cancel {m K x:Int} {F:FS} {n:Nat} (h:J5 m F) (j:FJ F K n) (hK:K+1<=4096):J5 m (cancelF F x).1:=h.op (cancel_ok j.i.fw j.i.st hK).2.2
theorem eqvn129 (w:World) (a0 a1 a2 a3 a4 a5 a6 b0 b1 b2 b3 b4 b5 b6:Int):∀x y,((do eqGuard .neq 129 x y (.agg #[I a0,I a1,I a2,I a3,I a4,I a5,I a6]) (.agg #[I b0,I b1,I b2,I b3,I b4,I b5,I b6]);binOp .neq 129 (.agg #[I a0,I a1,I a2,I a3,I a4,I a5,I a6]) (.agg #[I b0,I b1,I b2,I b3,I b4,I b5,I b6])):Sem Value).run prog w= .ok (.bool (!((a0==b0)&&(a1==b1)&&(a2==b2)&&(a3==b3)&&(a4==b4)&&(a5==b5)&&(a6==b6)))) w:=by
 intro x y
 simp [go_sem,run_eqGuard_agg,run_neq_struct,run_equalIn_agg]
 by_cases h0:a0=b0<;>by_cases h1:a1=b1<;>by_cases h2:a2=b2<;>by_cases h3:a3=b3<;>by_cases h4:a4=b4<;>by_cases h5:a5=b5<;>by_cases h6:a6=b6<;>simp [*]
theorem eqvn67 (w:World) (a0 a1 a2 a3 a4 a5 a6 a7 a8 a9 b0 b1 b2 b3 b4 b5 b6 b7 b8 b9:Int):∀x y,((do eqGuard .neq 67 x y (.agg #[I a0,I a1,I a2,I a3,I a4,I a5,I a6,I a7,I a8,I a9]) (.agg #[I b0,I b1,I b2,I b3,I b4,I b5,I b6,I b7,I b8,I b9]);binOp .neq 67 (.agg #[I a0,I a1,I a2,I a3,I a4,I a5,I a6,I a7,I a8,I a9]) (.agg #[I b0,I b1,I b2,I b3,I b4,I b5,I b6,I b7,I b8,I b9])):Sem Value).run prog w= .ok (.bool (!((a0==b0)&&(a1==b1)&&(a2==b2)&&(a3==b3)&&(a4==b4)&&(a5==b5)&&(a6==b6)&&(a7==b7)&&(a8==b8)&&(a9==b9)))) w:=by
 intro x y
 simp [go_sem,run_eqGuard_agg,run_neq_struct,run_equalIn_agg]
 by_cases h0:a0=b0<;>by_cases h1:a1=b1<;>by_cases h2:a2=b2<;>by_cases h3:a3=b3<;>by_cases h4:a4=b4<;>by_cases h5:a5=b5<;>by_cases h6:a6=b6<;>by_cases h7:a7=b7<;>by_cases h8:a8=b8<;>by_cases h9:a9=b9<;>simp [*]
theorem eqvn49 (w:World) (a0 a1 a2 a3 b0 b1 b2 b3:Int):∀x y,((do eqGuard .neq 49 x y (.agg #[.int .i64 a0, .int .i64 a1, .int .i64 a2, .int .i64 a3]) (.agg #[.int .i64 b0, .int .i64 b1, .int .i64 b2, .int .i64 b3]);binOp .neq 49 (.agg #[.int .i64 a0, .int .i64 a1, .int .i64 a2, .int .i64 a3]) (.agg #[.int .i64 b0, .int .i64 b1, .int .i64 b2, .int .i64 b3])):Sem Value).run prog w= .ok (.bool (!((a0==b0)&&(a1==b1)&&(a2==b2)&&(a3==b3)))) w:=by
  intro x y
  simp [go_sem,run_eqGuard_agg,run_neq_struct,run_equalIn_agg]
  by_cases h0:a0=b0<;>by_cases h1:a1=b1<;>by_cases h2:a2=b2<;>by_cases h3:a3=b3<;>simp [*]
theorem pf_empty_nil {cs:List Chunk} (hS:Sat W w cs):
    Ro prog 50 #[.pointer none] (.bool true) W w cs:=by
  exact callsK 13 func50 rfl<|jCR 21 rfl<|retT [.bool true]<|⟨rfl,hS⟩
theorem pf_worker_nil {cs:List Chunk} (x0:Int) (hS:Sat W w cs):
    Ro prog 61 #[.pointer none, .int .i64 x0] (.bool false) W w cs:=by
  exact callsK 20 func61 rfl<|jCR 26 rfl<|retT [.bool false]<|⟨rfl,hS⟩
theorem pf_workers_nil {cs:List Chunk} (hS:Sat W w cs):
    Ro prog 84 #[.pointer none] (nS) W w cs:=by
  refine callsK 54 func84 rfl<|jCO 9 rfl<|cZ (pf_empty_nil hS) ?_
  rintro _ b0 ⟨rfl,a0⟩
  exact jOR 10 rfl<|retT [nS]<|⟨rfl,a0⟩
theorem pf_jobs_nil {cs:List Chunk} (hS:Sat W w cs):
    Ro prog 88 #[.pointer none] (nS) W w cs:=by
  refine callsK 27 func88 rfl<|jCO 9 rfl<|cZ (pf_empty_nil hS) ?_
  rintro _ b0 ⟨rfl,a0⟩
  exact jOR 10 rfl<|retT [nS]<|⟨rfl,a0⟩
theorem pf_stats_nil {cs:List Chunk} (hS:Sat W w cs):
    Ro prog 36 #[.pointer none] (.agg (encStt zStt).toArray) W w cs:=by
  refine callsK 50 func36 rfl<|jCO 2 rfl<|sAlloc hS zeroValue67 fun d0 e0 b0=>jOO 6 rfl<|cZ (pf_empty_nil b0) ?_
  rintro _ f0 ⟨rfl,c0⟩
  exact jOO 6 rfl<|sTk c0 0 rfl (encStt zStt) fun g0 a0=>jOR 4 rfl<|retN (vs:=[.agg (encStt zStt).toArray]) rfl (.cons (.cell _ _ _ _ (by kernel_rfl) (lvA a0 0 0 (encStt zStt) (isAgg67 _) (sizeOf67 _) rfl rfl rfl)) .nil)<|⟨rfl,(a0.dropAt 0 rfl)⟩
theorem pf_deque_nil {cs:List Chunk} (x0:Int) (hS:Sat W w cs):
    Ro prog 92 #[.pointer none, .int .i64 x0] (nS) W w cs:=by
  refine callsK 18 func92 rfl<|jCO 10 rfl<|cZ (pf_worker_nil x0 hS) ?_
  rintro _ b0 ⟨rfl,a0⟩
  exact jOR 11 rfl<|retT [nS]<|⟨rfl,a0⟩
theorem pf_queue_nil {cs:List Chunk} (x0:Int) (hS:Sat W w cs):
    Ro prog 94 #[.pointer none, .int .i64 x0] (nS) W w cs:=by
  refine callsK 13 func94 rfl<|jCO 9 rfl<|cZ (pf_empty_nil hS) ?_
  rintro _ b0 ⟨rfl,a0⟩
  exact jOR 10 rfl<|retT [nS]<|⟨rfl,a0⟩
theorem pf_state_nil {cs:List Chunk} (x0:Int) (x1:Int) (hS:Sat W w cs):
    Ro prog 96 #[.pointer none, .int .i64 x0, .int .i64 x1] (.int .i64 0) W w cs:=by
  refine callsK 29 func96 rfl<|jCO 9 rfl<|cZ (pf_empty_nil hS) ?_
  rintro _ b0 ⟨rfl,a0⟩
  exact jOR 19 rfl<|retT [.int .i64 0]<|⟨rfl,a0⟩
theorem pf_tasks_nil {cs:List Chunk} (x0:Int) (hS:Sat W w cs):
    Ro prog 32 #[.pointer none, .int .i64 x0] (nS) W w cs:=by
  refine callsK 26 func32 rfl<|jCO 9 rfl<|cZ (pf_empty_nil hS) ?_
  rintro _ b0 ⟨rfl,a0⟩
  exact jOR 19 rfl<|retT [nS]<|⟨rfl,a0⟩
theorem pf_add_nil {cs:List Chunk} (x0:Int) (x1:Option Addr) (nx1 kx1:Nat) (x2:Int) (hS:Sat W w cs):
    Ro prog 19 #[.pointer none, .int .i64 x0, .slice x1 nx1 kx1, .int .i64 x2] (.int .i64 20) W w cs:=by
  refine callsK 98 func19 rfl<|jCO 9 rfl<|cZ (pf_empty_nil hS) ?_
  rintro _ b0 ⟨rfl,a0⟩
  exact jOR 10 rfl<|retT [.int .i64 20]<|⟨rfl,a0⟩
theorem pf_step_nil {cs:List Chunk} (x0:Int) (x1:Int) (hS:Sat W w cs):
    Ro prog 27 #[.pointer none, .int .i64 x0, .int .i64 x1] (.tuple #[nS, .int .i64 16]) W w cs:=by
  refine callsK 101 func27 rfl<|jCO 11 rfl<|cZ (pf_worker_nil x0 hS) ?_
  rintro _ b0 ⟨rfl,a0⟩
  exact jOR 12 rfl<|retT [nS, .int .i64 16]<|⟨rfl,a0⟩
theorem pf_crash_nil {cs:List Chunk} (x0:Int) (hS:Sat W w cs):
    Ro prog 21 #[.pointer none, .int .i64 x0] (.tuple #[nS, .int .i64 16]) W w cs:=by
  refine callsK 103 func21 rfl<|jCO 11 rfl<|cZ (pf_worker_nil x0 hS) ?_
  rintro _ b0 ⟨rfl,a0⟩
  exact jOR 12 rfl<|retT [nS, .int .i64 16]<|⟨rfl,a0⟩
theorem pf_restart_nil {cs:List Chunk} (x0:Int) (hS:Sat W w cs):
    Ro prog 23 #[.pointer none, .int .i64 x0] (.tuple #[nS, .int .i64 16]) W w cs:=by
  refine callsK 27 func23 rfl<|jCO 11 rfl<|cZ (pf_worker_nil x0 hS) ?_
  rintro _ b0 ⟨rfl,a0⟩
  exact jOR 12 rfl<|retT [nS, .int .i64 16]<|⟨rfl,a0⟩
theorem pf_cancel_nil {cs:List Chunk} (x0:Int) (hS:Sat W w cs):
    Ro prog 25 #[.pointer none, .int .i64 x0] (.tuple #[nS, .int .i64 16]) W w cs:=by
  refine callsK 59 func25 rfl<|jCO 10 rfl<|cZ (pf_empty_nil hS) ?_
  rintro _ b0 ⟨rfl,a0⟩
  exact jOR 20 rfl<|retT [nS, .int .i64 16]<|⟨rfl,a0⟩
theorem f_zero_nil {cs:List Chunk} (hS:Sat W w cs):
    Ro prog 56 #[.pointer none] (.bool true) W w cs:=by
  exact callsK 13 func56 rfl<|jCR 21 rfl<|retT [.bool true]<|⟨rfl,hS⟩
theorem f_workers_nil {cs:List Chunk} (hS:Sat W w cs):
    Ro prog 85 #[.pointer none] (nS) W w cs:=by
  refine callsK 10 func85 rfl<|jCO 9 rfl<|cZ (f_zero_nil hS) ?_
  rintro _ b0 ⟨rfl,a0⟩
  exact jOR 10 rfl<|retT [nS]<|⟨rfl,a0⟩
theorem f_jobs_nil {cs:List Chunk} (hS:Sat W w cs):
    Ro prog 89 #[.pointer none] (nS) W w cs:=by
  refine callsK 26 func89 rfl<|jCC 17 rfl<|loopM 1<|roundK<|jCO 4 rfl<|cZ (f_zero_nil hS) ?_
  rintro _ b0 ⟨rfl,a0⟩
  exact jOR 20 rfl<|retT [nS]<|⟨rfl,a0⟩
theorem f_stats_nil {cs:List Chunk} (hS:Sat W w cs):
    Ro prog 90 #[.pointer none] (.agg (encStt zStt).toArray) W w cs:=by
  refine callsK 52 func90 rfl<|jCO 2 rfl<|sAlloc hS zeroValue67 fun d0 e0 b0=>jOO 6 rfl<|cZ (f_zero_nil b0) ?_
  rintro _ f0 ⟨rfl,c0⟩
  exact jOO 6 rfl<|sTk c0 0 rfl (encStt zStt) fun g0 a0=>jOR 4 rfl<|retN (vs:=[.agg (encStt zStt).toArray]) rfl (.cons (.cell _ _ _ _ (by kernel_rfl) (lvA a0 0 0 (encStt zStt) (isAgg67 _) (sizeOf67 _) rfl rfl rfl)) .nil)<|⟨rfl,(a0.dropAt 0 rfl)⟩
theorem f_deque_nil {cs:List Chunk} (x0:Int) (hS:Sat W w cs):
    Ro prog 93 #[.pointer none, .int .i64 x0] (nS) W w cs:=by
  refine callsK 28 func93 rfl<|jCO 9 rfl<|cZ (f_zero_nil hS) ?_
  rintro _ b0 ⟨rfl,a0⟩
  exact jOR 23 rfl<|retT [nS]<|⟨rfl,a0⟩
theorem f_queue_nil {cs:List Chunk} (x0:Int) (hS:Sat W w cs):
    Ro prog 95 #[.pointer none, .int .i64 x0] (nS) W w cs:=by
  refine callsK 13 func95 rfl<|jCO 9 rfl<|cZ (f_zero_nil hS) ?_
  rintro _ b0 ⟨rfl,a0⟩
  exact jOR 10 rfl<|retT [nS]<|⟨rfl,a0⟩
theorem f_state_nil {cs:List Chunk} (x0:Int) (x1:Int) (hS:Sat W w cs):
    Ro prog 97 #[.pointer none, .int .i64 x0, .int .i64 x1] (.int .i64 0) W w cs:=by
  refine callsK 26 func97 rfl<|jCO 9 rfl<|cZ (f_zero_nil hS) ?_
  rintro _ b0 ⟨rfl,a0⟩
  exact jOR 18 rfl<|retT [.int .i64 0]<|⟨rfl,a0⟩
theorem f_tasks_nil {cs:List Chunk} (x0:Int) (hS:Sat W w cs):
    Ro prog 33 #[.pointer none, .int .i64 x0] (nS) W w cs:=by
  refine callsK 49 func33 rfl<|jCO 14 rfl<|cZ (f_zero_nil hS) ?_
  rintro _ b0 ⟨rfl,a0⟩
  exact jOR 18 rfl<|retT [nS]<|⟨rfl,a0⟩
theorem f_add_nil {cs:List Chunk} (x0:Int) (x1:Option Addr) (nx1 kx1:Nat) (x2:Int) (hS:Sat W w cs):
    Ro prog 20 #[.pointer none, .int .i64 x0, .slice x1 nx1 kx1, .int .i64 x2] (.int .i64 20) W w cs:=by
  refine callsK 120 func20 rfl<|jCO 10 rfl<|cZ (f_zero_nil hS) ?_
  rintro _ b0 ⟨rfl,a0⟩
  exact jOR 12 rfl<|retT [.int .i64 20]<|⟨rfl,a0⟩
theorem f_step_nil {cs:List Chunk} (x0:Int) (x1:Int) (hS:Sat W w cs):
    Ro prog 28 #[.pointer none, .int .i64 x0, .int .i64 x1] (.tuple #[nS, .int .i64 16]) W w cs:=by
  refine callsK 155 func28 rfl<|jCO 10 rfl<|cZ (f_zero_nil hS) ?_
  rintro _ b0 ⟨rfl,a0⟩
  exact jOR 24 rfl<|retT [nS, .int .i64 16]<|⟨rfl,a0⟩
theorem f_crash_nil {cs:List Chunk} (x0:Int) (hS:Sat W w cs):
    Ro prog 22 #[.pointer none, .int .i64 x0] (.tuple #[nS, .int .i64 16]) W w cs:=by
  refine callsK 125 func22 rfl<|jCO 10 rfl<|cZ (f_zero_nil hS) ?_
  rintro _ b0 ⟨rfl,a0⟩
  exact jOR 24 rfl<|retT [nS, .int .i64 16]<|⟨rfl,a0⟩
theorem f_restart_nil {cs:List Chunk} (x0:Int) (hS:Sat W w cs):
    Ro prog 24 #[.pointer none, .int .i64 x0] (.tuple #[nS, .int .i64 16]) W w cs:=by
  refine callsK 36 func24 rfl<|jCO 10 rfl<|cZ (f_zero_nil hS) ?_
  rintro _ b0 ⟨rfl,a0⟩
  exact jOR 24 rfl<|retT [nS, .int .i64 16]<|⟨rfl,a0⟩
theorem f_cancel_nil {cs:List Chunk} (x0:Int) (hS:Sat W w cs):
    Ro prog 26 #[.pointer none, .int .i64 x0] (.tuple #[nS, .int .i64 16]) W w cs:=by
  refine callsK 68 func26 rfl<|jCO 10 rfl<|cZ (f_zero_nil hS) ?_
  rintro _ b0 ⟨rfl,a0⟩
  exact jOR 29 rfl<|retT [nS, .int .i64 16]<|⟨rfl,a0⟩
theorem r27_same (ax:Option Addr) (nx kx:Nat) (x:List Evt) (ay:Option Addr) (ny ky:Nat) (y:List Evt) (hx:RdT encEvt 7 [H] ax nx kx x) (hy:RdT encEvt 7 [H] ay ny ky y) (hxy:x=y) (hS:Sat W w (H::F)):
  Ro prog 29 #[.slice ax nx kx, .slice ay ny ky] (.bool true) W w (H::F):=by
 have n0:=hx.ll
 have s0:=hy.ll
 refine callsK 26 func29 rfl<|jCC 15 rfl ?_
 have f0:((nx:Int):Int)=(ny:Int):=(by have:=congrArg List.length hxy;omega)
 refine cF _ (bne_eq_false_iff_eq.2 f0)<|jCC 9 rfl<|loopF [0,1] (γ:=Nat) (fun i R=>⟨[(5,I (i:Int))],R,nx-i,i<=nx⟩) 0 ⟨hS,om⟩ ?_
 rintro i ρ _ ⟨c0,hi⟩
 refine jCC 9 rfl<|CD ((i:Int)<(nx:Int)) (fun g0=>jCR 11 rfl<|retT [.bool true]<|⟨rfl,c0⟩) fun g0=>jCC 5 rfl ?_
 obtain ⟨a0,o0,p0,d0,h0,i0⟩:=RdT.eN hx i
 obtain ⟨b0,q0,r0,e0,j0,k0⟩:=RdT.eN hy i
 exact drawF c0 [] (fp 3 (h0.up 0 rfl)<|fp 7 (j0.up 0 rfl)<|fn) [0,1,2,4,5,6,3,7,8] fun _ l0=>wV 2<|wI i0<|wV 2<|wI k0<|wG 0 7<|wG 7 7<|wY (.bool (!(((a0.kind:Int)==b0.kind)&&((a0.worker:Int)==b0.worker)&&((a0.from_:Int)==b0.from_)&&((a0.job:Int)==b0.job)&&((a0.refJob:Int)==b0.refJob)&&((a0.refTask:Int)==b0.refTask)&&((a0.err:Int)==b0.err)))) rfl (fun w _=>Y_eqS rfl kr kr (eqvn63 _ a0.kind a0.worker a0.from_ a0.job a0.refJob a0.refTask a0.err b0.kind b0.worker b0.from_ b0.job b0.refJob b0.refTask b0.err))<|wN<|jXC 1 rfl<|(by have m0:(a0.kind:Int)=b0.kind/\(a0.worker:Int)=b0.worker/\(a0.from_:Int)=b0.from_/\(a0.job:Int)=b0.job/\(a0.refJob:Int)=b0.refJob/\(a0.refTask:Int)=b0.refTask/\(a0.err:Int)=b0.err:=(by have h:some a0=some b0:=(by rw [<-d0,<-e0,hxy]);obtain rfl:=Option.some.inj h;exact ⟨rfl,rfl,rfl,rfl,rfl,rfl,rfl⟩);exact cF _ (congrArg Bool.not (show (((a0.kind:Int)==b0.kind)&&((a0.worker:Int)==b0.worker)&&((a0.from_:Int)==b0.from_)&&((a0.job:Int)==b0.job)&&((a0.refJob:Int)==b0.refJob)&&((a0.refTask:Int)==b0.refTask)&&((a0.err:Int)==b0.err))=true from by simpa [and_assoc] using m0))<|jCO 5 rfl<|sAdd (i:Int) 1<|jOI 2 rfl<|⟨i+1,od,alB,l0,om⟩)
theorem r27_samew (ax:Option Addr) (nx kx:Nat) (x:List Wkr) (ay:Option Addr) (ny ky:Nat) (y:List Wkr) (hx:RdT encWkr 7 [H] ax nx kx x) (hy:RdT encWkr 7 [H] ay ny ky y) (hxy:x=y) (hS:Sat W w (H::F)):
  Ro prog 86 #[.slice ax nx kx, .slice ay ny ky] (.bool true) W w (H::F):=by
 have n0:=hx.ll
 have s0:=hy.ll
 refine callsK 26 func86 rfl<|jCC 15 rfl ?_
 have f0:((nx:Int):Int)=(ny:Int):=(by have:=congrArg List.length hxy;omega)
 refine cF _ (bne_eq_false_iff_eq.2 f0)<|jCC 9 rfl<|loopF [0,1] (γ:=Nat) (fun i R=>⟨[(5,I (i:Int))],R,nx-i,i<=nx⟩) 0 ⟨hS,om⟩ ?_
 rintro i ρ _ ⟨c0,hi⟩
 refine jCC 9 rfl<|CD ((i:Int)<(nx:Int)) (fun g0=>jCR 11 rfl<|retT [.bool true]<|⟨rfl,c0⟩) fun g0=>jCC 5 rfl ?_
 obtain ⟨a0,o0,p0,d0,h0,i0⟩:=RdT.eN hx i
 obtain ⟨b0,q0,r0,e0,j0,k0⟩:=RdT.eN hy i
 exact drawF c0 [] (fp 3 (h0.up 0 rfl)<|fp 7 (j0.up 0 rfl)<|fn) [0,1,2,4,5,6,3,7,8] fun _ l0=>wV 2<|wI i0<|wV 2<|wI k0<|wG 0 7<|wG 7 7<|wY (.bool (!(((a0.phase:Int)==b0.phase)&&((a0.heldJob:Int)==b0.heldJob)&&((a0.heldTask:Int)==b0.heldTask)&&((a0.attempt:Int)==b0.attempt)&&((a0.row:Int)==b0.row)&&((a0.used:Int)==b0.used)&&((a0.high:Int)==b0.high)))) rfl (fun w _=>Y_eqS rfl kr kr (eqvn129 _ a0.phase a0.heldJob a0.heldTask a0.attempt a0.row a0.used a0.high b0.phase b0.heldJob b0.heldTask b0.attempt b0.row b0.used b0.high))<|wN<|jXC 1 rfl<|(by have m0:(a0.phase:Int)=b0.phase/\(a0.heldJob:Int)=b0.heldJob/\(a0.heldTask:Int)=b0.heldTask/\(a0.attempt:Int)=b0.attempt/\(a0.row:Int)=b0.row/\(a0.used:Int)=b0.used/\(a0.high:Int)=b0.high:=(by have h:some a0=some b0:=(by rw [<-d0,<-e0,hxy]);obtain rfl:=Option.some.inj h;exact ⟨rfl,rfl,rfl,rfl,rfl,rfl,rfl⟩);exact cF _ (congrArg Bool.not (show (((a0.phase:Int)==b0.phase)&&((a0.heldJob:Int)==b0.heldJob)&&((a0.heldTask:Int)==b0.heldTask)&&((a0.attempt:Int)==b0.attempt)&&((a0.row:Int)==b0.row)&&((a0.used:Int)==b0.used)&&((a0.high:Int)==b0.high))=true from by simpa [and_assoc] using m0))<|jCO 5 rfl<|sAdd (i:Int) 1<|jOI 2 rfl<|⟨i+1,od,alB,l0,om⟩)
theorem r23_same (ax:Option Addr) (nx kx:Nat) (x:List Ref) (ay:Option Addr) (ny ky:Nat) (y:List Ref) (hx:RdT encRef 2 [H] ax nx kx x) (hy:RdT encRef 2 [H] ay ny ky y) (hxy:x=y) (hS:Sat W w (H::F)):
  Ro prog 91 #[.slice ax nx kx, .slice ay ny ky] (.bool true) W w (H::F):=by
 have n0:=hx.ll
 have s0:=hy.ll
 refine callsK 26 func91 rfl<|jCC 15 rfl ?_
 have f0:((nx:Int):Int)=(ny:Int):=(by have:=congrArg List.length hxy;omega)
 refine cF _ (bne_eq_false_iff_eq.2 f0)<|jCC 9 rfl<|loopF [0,1] (γ:=Nat) (fun i R=>⟨[(5,I (i:Int))],R,nx-i,i<=nx⟩) 0 ⟨hS,om⟩ ?_
 rintro i ρ _ ⟨c0,hi⟩
 refine jCC 9 rfl<|CD ((i:Int)<(nx:Int)) (fun g0=>jCR 11 rfl<|retT [.bool true]<|⟨rfl,c0⟩) fun g0=>jCC 5 rfl ?_
 obtain ⟨a0,o0,p0,d0,h0,i0⟩:=RdT.eN hx i
 obtain ⟨b0,q0,r0,e0,j0,k0⟩:=RdT.eN hy i
 exact drawF c0 [] (fp 3 (h0.up 0 rfl)<|fp 7 (j0.up 0 rfl)<|fn) [0,1,2,4,5,6,3,7,8] fun _ l0=>wV 2<|wI i0<|wV 2<|wI k0<|wG 0 2<|wG 2 2<|wY (.bool (!(((a0.job:Int)==b0.job)&&((a0.task:Int)==b0.task)))) rfl (fun w _=>Y_eqS rfl kr kr (eqvn61 _ a0.job a0.task b0.job b0.task))<|wN<|jXC 1 rfl<|(by have m0:(a0.job:Int)=b0.job/\(a0.task:Int)=b0.task:=(by have h:some a0=some b0:=(by rw [<-d0,<-e0,hxy]);obtain rfl:=Option.some.inj h;exact ⟨rfl,rfl⟩);exact cF _ (congrArg Bool.not (show (((a0.job:Int)==b0.job)&&((a0.task:Int)==b0.task))=true from by simpa using m0))<|jCO 5 rfl<|sAdd (i:Int) 1<|jOI 2 rfl<|⟨i+1,od,alB,l0,om⟩)
theorem r20_same (ax:Option Addr) (nx kx:Nat) (x:List Task) (ay:Option Addr) (ny ky:Nat) (y:List Task) (hx:RdT encTask 9 [H] ax nx kx x) (dx:∀z∈x,Task.Ok [H] z) (hy:RdT encTask 9 [H] ay ny ky y) (dy:∀z∈y,Task.Ok [H] z) (hxy:x.map Task.v=y.map Task.v) (hS:Sat W w (H::F)):
  Ro prog 31 #[.slice ax nx kx, .slice ay ny ky] (.bool true) W w (H::F):=by
 have H0:=hx.ll
 have I0:=hy.ll
 refine callsK 123 func31 rfl<|jCC 15 rfl ?_
 have p0:((nx:Int):Int)=(ny:Int):=(by have:=congrArg List.length hxy;rw [List.length_map,List.length_map] at this;omega)
 refine cF _ (bne_eq_false_iff_eq.2 p0)<|jCC 9 rfl<|loopF [0,1] (γ:=Nat) (fun i R=>⟨[(5,I (i:Int))],R,nx-i,i<=nx⟩) 0 ⟨hS,om⟩ ?_
 rintro i ρ _ ⟨m0,hi⟩
 refine jCC 9 rfl<|CD ((i:Int)<(nx:Int)) (fun q0=>jCR 11 rfl<|retT [.bool true]<|⟨rfl,m0⟩) fun q0=>jCC 6 rfl ?_
 obtain ⟨a0,r1,s1,e0,c0,f0⟩:=RdT.eN hx i
 have D0:=(dx a0 (List.mem_of_getElem? e0)).deps.len;have C0:=(dx a0 (List.mem_of_getElem? e0)).deps.le
 obtain ⟨b0,t1,u1,j0,d0,g0⟩:=RdT.eN hy i
 have A0:a0.v=b0.v:=(by have h:=congrArg (·[i]?) hxy;simp only [List.getElem?_map] at h;rw [e0,j0] at h;exact Option.some.inj h)
 have G0:=(dy b0 (List.mem_of_getElem? j0)).deps.len;have F0:=(dy b0 (List.mem_of_getElem? j0)).deps.le;have B0:a0.deps.l=b0.deps.l:=congrArg TaskV.deps A0;have E0:=congrArg List.length B0
 have r0:(a0.stage:Int)=b0.stage:=((congrArg TaskV.stage A0))
 have s0:(a0.part:Int)=b0.part:=((congrArg TaskV.part A0))
 have t0:(a0.rectX0:Int)=b0.rectX0/\(a0.rectY0:Int)=b0.rectY0/\(a0.rectX1:Int)=b0.rectX1/\(a0.rectY1:Int)=b0.rectY1:=(⟨(congrArg TaskV.rectX0 A0),(congrArg TaskV.rectY0 A0),(congrArg TaskV.rectX1 A0),(congrArg TaskV.rectY1 A0)⟩)
 have u0:(a0.rows:Int)=b0.rows:=((congrArg TaskV.rows A0))
 have v0:(a0.scratch:Int)=b0.scratch:=((congrArg TaskV.scratch A0))
 refine drawF m0 [] (fq 4 0 (c0.up 0 rfl)<|fq 9 0 (d0.up 0 rfl)<|fq 16 1 (c0.up 0 rfl)<|fq 21 1 (d0.up 0 rfl)<|fq 29 2 (c0.up 0 rfl)<|fq 29 3 (c0.up 0 rfl)<|fq 29 4 (c0.up 0 rfl)<|fq 29 5 (c0.up 0 rfl)<|fq 34 2 (d0.up 0 rfl)<|fq 34 3 (d0.up 0 rfl)<|fq 34 4 (d0.up 0 rfl)<|fq 34 5 (d0.up 0 rfl)<|fq 42 7 (c0.up 0 rfl)<|fq 47 7 (d0.up 0 rfl)<|fq 55 8 (c0.up 0 rfl)<|fq 60 8 (d0.up 0 rfl)<|fq 68 6 (c0.up 0 rfl)<|fq 74 6 (d0.up 0 rfl)<|fn) [0,1,2,3,5,6,7,8,4,9,10,11,12,13,14,15,17,18,19,20,16,21,22,23,24,25,26,27,28,30,31,32,33,29,34,35,36,37,38,39,40,41,43,44,45,46,42,47,48,49,50,51,52,53,54,56,57,58,59,55,60,61,62,63,64,65,66,67,70,71,72,73,68,69,74,75,76,77] fun _ w0=>wV 2<|wI f0<|wV 3<|wI g0<|wV 1<|wL 0<|wL 1<|wV 2<|wFix 29 _ false (bne_eq_false_iff_eq.2 r0)<|wV 2<|wI f0<|wV 3<|wI g0<|wV 1<|wL 2<|wL 3<|wV 3<|wFix 42 _ false (bne_eq_false_iff_eq.2 s0)<|wV 2<|wI f0<|wV 3<|wI g0<|wV 1<|wG 4 4<|wG 8 4<|wY (.bool (!(((a0.rectX0:Int)==b0.rectX0)&&((a0.rectY0:Int)==b0.rectY0)&&((a0.rectX1:Int)==b0.rectX1)&&((a0.rectY1:Int)==b0.rectY1)))) rfl (fun w _=>Y_eqS rfl kr kr (eqvn49 _ a0.rectX0 a0.rectY0 a0.rectX1 a0.rectY1 b0.rectX0 b0.rectY0 b0.rectX1 b0.rectY1))<|wV 2<|wFix 55 _ false (congrArg Bool.not (show (((a0.rectX0:Int)==b0.rectX0)&&((a0.rectY0:Int)==b0.rectY0)&&((a0.rectX1:Int)==b0.rectX1)&&((a0.rectY1:Int)==b0.rectY1))=true from by simpa [and_assoc] using t0)) ?_
 refine wV 2<|wI f0<|wV 3<|wI g0<|wV 1<|wL 12<|wL 13<|wV 3<|wFix 68 _ false (bne_eq_false_iff_eq.2 u0)<|wV 2<|wI f0<|wV 3<|wI g0<|wV 1<|wL 14<|wL 15<|wV 3<|wFix 81 _ false (bne_eq_false_iff_eq.2 v0)<|wV 2<|wI f0<|wV 3<|wI g0<|wV 1<|wL 16<|wV 1<|wL 17<|wV 3<|wN<|jXC 1 rfl ?_
 have x0:((a0.deps.n:Int):Int)=(b0.deps.n:Int):=om
 refine cF _ (bne_eq_false_iff_eq.2 x0)<|jCC 8 rfl<|loopF [0,1,5] (γ:=Nat) (fun d R=>⟨[(6,I (d:Int))],R,a0.deps.n-d,d<=a0.deps.n⟩) 0 ⟨w0,om⟩ ?_
 rintro d ρ _ ⟨l0,hd⟩
 refine jCO 6 rfl<|sIN hx i fun y0 _ _ k0 z0=>?_
 obtain rfl:a0=y0:=Option.some.inj (e0.symm.trans k0)
 have D0:=(dx a0 (List.mem_of_getElem? k0)).deps.len;have C0:=(dx a0 (List.mem_of_getElem? k0)).deps.le
 refine pu1<|sMp l0 (z0.up 0 rfl) 6 (.slice a0.deps.a a0.deps.n a0.deps.k)<|jOC 4 rfl<|CD ((d:Int)<(a0.deps.n:Int)) (fun a1=>jCO 8 rfl<|sAdd (i:Int) 1<|jOI 2 rfl<|⟨i+1,od,alB,l0,om⟩) fun a1=>jCC 5 rfl ?_
 obtain ⟨b1,y1,z1,h0,c1,d1⟩:=RdT.eN hx i
 obtain rfl:a0=b1:=Option.some.inj (e0.symm.trans h0)
 have D0:=(dx a0 (List.mem_of_getElem? h0)).deps.len;have C0:=(dx a0 (List.mem_of_getElem? h0)).deps.le
 obtain ⟨e1,a2,b2,i0,f1,g1⟩:=RdT.eN hy i
 obtain rfl:b0=e1:=Option.some.inj (j0.symm.trans i0)
 have A0:a0.v=b0.v:=(by have h:=congrArg (·[i]?) hxy;simp only [List.getElem?_map] at h;rw [h0,i0] at h;exact Option.some.inj h)
 have G0:=(dy b0 (List.mem_of_getElem? i0)).deps.len;have F0:=(dy b0 (List.mem_of_getElem? i0)).deps.le;have B0:a0.deps.l=b0.deps.l:=congrArg TaskV.deps A0;have E0:=congrArg List.length B0
 obtain ⟨h1,c2,d2,n0,i1,j1⟩:=RdT.elem (dx a0 (List.mem_of_getElem? h0)).deps (d:Int)
 rw [Int.toNat_natCast] at n0
 obtain ⟨k1,e2,f2,o0,l1,m1⟩:=RdT.elem (dy b0 (List.mem_of_getElem? i0)).deps (d:Int)
 rw [Int.toNat_natCast] at o0
 exact drawF l0 [] (fq 4 6 (c1.up 0 rfl)<|fq 7 0 (i1.up 0 rfl)<|fq 12 6 (f1.up 0 rfl)<|fq 15 0 (l1.up 0 rfl)<|fn) [0,1,2,3,5,8,9,10,11,13,4,6,7,12,14,15,16] fun _ n1=>wV 2<|wI d1<|wV 4<|wI g1<|wV 2<|wL 0<|wI j1<|wL 1<|wL 2<|wI m1<|wL 3<|wV 1<|wN<|jXC 1 rfl<|cN h1 k1 (fun o1=>jCO 5 rfl<|sAdd (d:Int) 1<|jOI 2 rfl<|⟨d+1,od,alB,n1,om⟩) fun o1=>jCR 15 rfl<|retT [.bool false]<|(by exfalso;have h9:=n0;rw [B0,o0] at h9;have h8:=Option.some.inj h9;omega)
theorem f_crash_o {p:Nat} {F:FS} {M:Chunk} {F0:List Chunk} (hR:FarmR p F M) {K:Int} (hF:FI F K) (x:Int) (hk:¬(0<=x/\x<(F.ws.length:Int))) (hS:Sat W w (M::H::F0)):
  Calls prog 22 #[Pt p 0,I x] w fun e w'=>e= .returned (.tuple #[nS,I 16])/\Sat W w' (M::H::F0):=by
 obtain ⟨wa,aa,da,wn,wk,an,ak,dn,dk,q,xs,ap,dp,Wc,Ac,Dc,Qc,g0,h0,r0,rfl,f0,c0,e0,i0,j0,hQ,k0,A0⟩:=hR
 have hS:Sat W _ ((Tri p 101 (preF F.cfg wa wn wk aa an ak da dn dk q) (xs.flatMap encFJob) (encStt F.st))::Wc::Ac::Dc::g0.flatten::h0.flatten::Qc::r0.flatten::H::F0):=Sat.perm hS (by simp [Value.cells])
 have z0:=f0.ll;have u0:=c0.ll;have w0:=e0.ll;have m0:=i0.1;have o0:=j0.1;have q0:=k0.1
 have s0:=hF.fw.k;have x0:=hF.fw.n;have l0:=hF.fw.al;have n0:=hF.fw.dl;have p0:=hF.fw.jl
 refine callsK 125 func22 rfl<|jCO 10 rfl<|cZ (f_zero om hS) ?_
 rintro _ _ ⟨rfl,a0⟩
 exact pu5<|sD 16 (x<0) (fun b0=>jOR 19 rfl<|retT [nS,I 16]<|⟨rfl,(a0.merge8)⟩) fun b0=>pu4<|gY<|sMp a0 (ptr_up 0 rfl tri_pre) 8 (.slice wa wn wk)<|jOC 5 rfl<|(by have d0:(x:Int)>=(wn:Int):=om;exact cT _ (decide_eq_true d0)<|jCR 8 rfl<|retT [nS,I 16]<|⟨rfl,(a0.merge8)⟩)
theorem f_crash_a {W w:World} {p:Nat} {F:FS} {M H:Chunk} {F0:List Chunk} (hR:FarmR p F M) {K:Int} (hF:FI F K) (x:Int) (hS:Sat W w (M::H::F0)):
  Calls prog 22 #[Pt p 0,I x] w fun e w'=>∃(az:Option Addr) (nz kz:Nat) (Z M':Chunk),e= .returned (.tuple #[.slice az nz kz,I (crashF F x).2.2])/\OwnT encEvt 63 7 az nz kz (crashF F x).2.1 Z/\FarmR p (crashF F x).1 M'/\Sat W w' (Z::M'::H::F0):=by
 by_cases hx:0<=x/\x<(F.ws.length:Int)
 ·exact f_crash hR hF.fw hF.st x hx hS
 · exact (by have e0:crashF F x=(F,[],16):=(by unfold crashF;rw [if_pos hx]);rw [e0];exact (f_crash_o hR hF x hx hS).mono fun e w' h=>⟨none,0,0,[],M,h.1,OwnT.nil fR,hR,Sat.nilc h.2⟩)
theorem l27_same {H:Chunk} {F0:List Chunk} (c:Cfg) (hc:-1<=c.workers/\c.workers<=5) {pa pb:Nat} {F:FS} {K:Int} {M N:Chunk} (hR:FarmP pa F M) (hN:FarmR pb F N) (hJ:FJ F K 5) (hS:Sat W w (M::N::H::F0)):
  Calls prog 30 #[Pt pa 0,Pt pb 0, .agg (encCfg c).toArray] w fun e w'=>e= .returned (.bool true)/\Sat W w' (M::N::H::F0):=by
 refine callsK 79 func30 rfl<|jCO 2 rfl<|sBx hS (encCfg c) fun _ _ o0=>jOO 6 rfl ?_
 have p0:=(o0.pick 1 rfl)
 refine cZ (pf_workers hR hJ.i p0.flat1) ?_
 rintro _ _ ⟨q0,r0,s0,_,rfl,b0,t0⟩
 have u0:=t0.unflat2;have T0:=b0.ll
 refine pu1 ?_
 have v0:=(u0.pick 3 rfl)
 refine cZ (f_workers hN hJ.i v0.flat1) ?_
 rintro _ _ ⟨w0,x0,y0,_,rfl,c0,z0⟩
 have a1:=z0.unflat2;have M0:=c0.ll
 refine jOO 9 rfl<|cS (r27_samew q0 r0 s0 (F.ws) w0 x0 y0 (F.ws) (RdT.flat (b0.rdAt 2 (by rfl))) (RdT.flat (c0.rdAt 0 (by rfl))) rfl a1.flat) fun _ b1=>pu3<|gY ?_
 have c1:=(b1.pick 3 rfl)
 refine cZ (pf_jobs hR hJ.i (hJ.r12 om) c1.flat1) ?_
 rintro _ _ ⟨d1,e1,f1,_,rfl,d0,g1⟩
 have h1:=g1.unflat2;have N0:=d0.ll
 refine pu1<|gY ?_
 have i1:=(h1.pick 3 rfl)
 refine cZ (f_jobs hN hJ.i i1.flat1) ?_
 rintro _ _ ⟨j1,k1,l1,_,rfl,e0,m1⟩
 have n1:=m1.unflat2;have O0:=e0.ll
 refine gY<|cS (r4_same d1 e1 f1 (runK F.jobs) j1 k1 l1 (runK F.jobs) (RdT.flat (d0.rdAt 2 (by rfl))) (RdT.flat (e0.rdAt 0 (by rfl))) n1.flat) fun _ o1=>pu3 ?_
 have q1:(runK F.jobs)=(runK F.jobs):=rfl
 refine sFix 29 _ false (congrArg Bool.not (decide_eq_true q1))<|pu1<|gY ?_
 have r1:=(o1.pick 3 rfl)
 refine cZ (pf_stats hR hJ.i hJ.h r1.flat1) ?_
 rintro _ _ ⟨rfl,s1⟩
 have t1:=s1.unflat1
 obtain ⟨a0,k0⟩:∃z,z=statsF F:=⟨_,rfl⟩;rw [<-k0]
 refine pu1<|gY ?_
 have u1:=(t1.pick 2 rfl)
 refine cZ (f_stats hN hJ.i hJ.h u1.flat1) ?_
 rintro _ _ ⟨rfl,v1⟩
 have w1:=v1.unflat1;rw [<-k0]
 refine gY<|stepY (.bool (!(((a0.starts:Int)==a0.starts)&&((a0.commits:Int)==a0.commits)&&((a0.drops:Int)==a0.drops)&&((a0.crashes:Int)==a0.crashes)&&((a0.steals:Int)==a0.steals)&&((a0.helps:Int)==a0.helps)&&((a0.spills:Int)==a0.spills)&&((a0.queued:Int)==a0.queued)&&((a0.held:Int)==a0.held)&&((a0.cells:Int)==a0.cells)))) rfl rfl (Y_eqS rfl kr kr (eqvn67 _ a0.starts a0.commits a0.drops a0.crashes a0.steals a0.helps a0.spills a0.queued a0.held a0.cells a0.starts a0.commits a0.drops a0.crashes a0.steals a0.helps a0.spills a0.queued a0.held a0.cells))<|jOC 3 rfl ?_
 have x1:(a0.starts:Int)=a0.starts/\(a0.commits:Int)=a0.commits/\(a0.drops:Int)=a0.drops/\(a0.crashes:Int)=a0.crashes/\(a0.steals:Int)=a0.steals/\(a0.helps:Int)=a0.helps/\(a0.spills:Int)=a0.spills/\(a0.queued:Int)=a0.queued/\(a0.held:Int)=a0.held/\(a0.cells:Int)=a0.cells:=⟨rfl,rfl,rfl,rfl,rfl,rfl,rfl,rfl,rfl,rfl⟩
 refine cF _ (congrArg Bool.not (show (((a0.starts:Int)==a0.starts)&&((a0.commits:Int)==a0.commits)&&((a0.drops:Int)==a0.drops)&&((a0.crashes:Int)==a0.crashes)&&((a0.steals:Int)==a0.steals)&&((a0.helps:Int)==a0.helps)&&((a0.spills:Int)==a0.spills)&&((a0.queued:Int)==a0.queued)&&((a0.held:Int)==a0.held)&&((a0.cells:Int)==a0.cells))=true from by simpa [and_assoc] using x1))<|jCC 9 rfl<|loopF [0,1,5] (γ:=Int) (fun v9 R=>⟨[(9,I v9)],R,((c.workers+1)+1-v9).toNat,-1<=v9/\v9<=(c.workers+1)⟩) (-1) ⟨((w1.picks [1,6]).drops [3,3,3,3]),om⟩ ?_
 rintro v9 ρ _ ⟨f0,X0⟩
 refine gCC f0 9 [0] rfl<|cD (v9<=c.workers) (fun z1=>jCO 8 rfl<|(by have a2:=(f0.pick 1 rfl);refine cZ (pf_deque hR hJ.i v9 a2.flat1) ?_;rintro _ _ ⟨b2,c2,d2,_,rfl,g0,e2⟩;have f2:=e2.unflat2;have P0:=g0.ll;refine pu2 ?_;have g2:=(f2.pick 3 rfl);refine cZ (f_deque hN hJ.i v9 g2.flat1) ?_;rintro _ _ ⟨h2,i2,j2,_,rfl,h0,k2⟩;have l2:=k2.unflat2;have Q0:=h0.ll;exact cS (r23_same b2 c2 d2 (dequeF F v9) h2 i2 j2 (dequeF F v9) (RdT.flat (g0.rdAt 2 (by rfl))) (RdT.flat (h0.rdAt 0 (by rfl))) rfl l2.flat) fun _ m2=>jOO 9 rfl<|sAdd v9 1<|jOI 2 rfl<|⟨v9+1,od,alB,((m2.picks [3,4]).drops [2,3]),om⟩)) fun z1=>?_
 refine jCC 12 rfl<|loopF [0,1] (γ:=Int) (fun A0 R=>⟨[(10,I A0)],R,(4+1-A0).toNat,0<=A0/\A0<=4⟩) 0 ⟨f0,om⟩ ?_
 rintro A0 ρ _ ⟨l0,U0⟩
 refine jCC 7 rfl<|cD (A0<4) (fun o2=>jCO 8 rfl<|(by have q2:=(l0.pick 1 rfl);refine cZ (pf_queue hR hJ.i A0 q2.flat1) ?_;rintro _ _ ⟨r2,s2,t2,_,rfl,i0,u2⟩;have v2:=u2.unflat2;have R0:=i0.ll;refine pu2 ?_;have w2:=(v2.pick 3 rfl);refine cZ (f_queue hN hJ.i A0 w2.flat1) ?_;rintro _ _ ⟨x2,y2,z2,_,rfl,j0,a3⟩;have b3:=a3.unflat2;have E0:=j0.ll;exact cS (r23_same r2 s2 t2 (bandQ F.q A0) x2 y2 z2 (bandQ F.q A0) (RdT.flat (i0.rdAt 2 (by rfl))) (RdT.flat (j0.rdAt 0 (by rfl))) rfl b3.flat) fun _ c3=>jOO 9 rfl<|sAdd A0 1<|jOI 2 rfl<|⟨A0+1,od,alB,((c3.picks [3,4]).drops [2,3]),om⟩)) fun o2=>?_
 refine jCC 12 rfl<|loopF [0,1] (γ:=Int) (fun B0 R=>⟨[(11,I B0)],R,(4+1-B0).toNat,0<=B0/\B0<=4⟩) 0 ⟨l0,om⟩ ?_
 rintro B0 ρ _ ⟨m0,V0⟩
 refine jCC 7 rfl<|CD (B0<4) (fun e3=>jCR 11 rfl<|retT [.bool true]<|⟨rfl,(m0.dropAt 0 rfl)⟩) fun e3=>jCC 10 rfl<|loopF [0,1,11] (γ:=Int) (fun C0 R=>⟨[(12,I C0)],R,(9+1-C0).toNat,0<=C0/\C0<=9⟩) 0 ⟨m0,om⟩ ?_
 rintro C0 ρ _ ⟨n0,W0⟩
 refine jCC 7 rfl<|CD (C0<9) (fun g3=>jCO 8 rfl<|sAdd B0 1<|jOI 2 rfl<|⟨B0+1,od,alB,n0,om⟩) fun g3=>jCO 9 rfl ?_
 have h3:=(n0.pick 1 rfl)
 refine cZ (pf_state hR hJ.i B0 C0 h3.flat1) ?_
 rintro _ _ ⟨rfl,i3⟩
 have j3:=i3.unflat1
 refine pu3 ?_
 have k3:=(j3.pick 2 rfl)
 refine cZ (f_state hN hJ.i B0 C0 k3.flat1) ?_
 rintro _ _ ⟨rfl,l3⟩
 have m3:=l3.unflat1
 exact jOC 3 rfl<|(by have n3:((stateF F B0 C0):Int)=(stateF F B0 C0):=rfl;exact cF _ (bne_eq_false_iff_eq.2 n3)<|jCO 5 rfl<|sAdd C0 1<|jOI 2 rfl<|⟨C0+1,od,alB,(m3.picks [1,2]),om⟩)
theorem l27_same_nil {H:Chunk} {F0:List Chunk} (c:Cfg) (hc:-1<=c.workers/\c.workers<=5) (hS:Sat W w (H::F0)):
  Calls prog 30 #[.pointer none, .pointer none, .agg (encCfg c).toArray] w fun e w'=>e= .returned (.bool true)/\Sat W w' (H::F0):=by
 refine callsK 79 func30 rfl<|jCO 2 rfl<|sBx hS (encCfg c) fun _ _ e0=>jOO 6 rfl<|cZ (pf_workers_nil e0) ?_
 rintro _ _ ⟨rfl,f0⟩
 refine pu1<|cZ (f_workers_nil f0) ?_
 rintro _ _ ⟨rfl,g0⟩
 refine jOO 9 rfl<|cS (r27_samew none 0 0 ([]) none 0 0 ([]) (rN) (rN) rfl g0.flat) fun _ h0=>pu3<|gY<|cZ (pf_jobs_nil h0) ?_
 rintro _ _ ⟨rfl,i0⟩
 refine pu1<|gY<|cZ (f_jobs_nil i0) ?_
 rintro _ _ ⟨rfl,j0⟩
 refine gY<|cS (r4_same none 0 0 ([]) none 0 0 ([]) (rN) (rN) j0.flat) fun _ k0=>pu3 ?_
 have l0:([]:List Int)=([]:List Int):=rfl
 refine sFix 29 _ false (congrArg Bool.not (decide_eq_true l0))<|pu1<|gY<|cZ (pf_stats_nil k0) ?_
 rintro _ _ ⟨rfl,m0⟩
 refine pu1<|gY<|cZ (f_stats_nil m0) ?_
 rintro _ _ ⟨rfl,n0⟩
 refine gY<|stepY (.bool (!(((0:Int)==0)&&((0:Int)==0)&&((0:Int)==0)&&((0:Int)==0)&&((0:Int)==0)&&((0:Int)==0)&&((0:Int)==0)&&((0:Int)==0)&&((0:Int)==0)&&((0:Int)==0)))) rfl rfl (Y_eqS rfl kr kr (eqvn67 _ 0 0 0 0 0 0 0 0 0 0 0 0 0 0 0 0 0 0 0 0))<|jOC 3 rfl ?_
 have o0:(0:Int)=0/\(0:Int)=0/\(0:Int)=0/\(0:Int)=0/\(0:Int)=0/\(0:Int)=0/\(0:Int)=0/\(0:Int)=0/\(0:Int)=0/\(0:Int)=0:=⟨rfl,rfl,rfl,rfl,rfl,rfl,rfl,rfl,rfl,rfl⟩
 refine cF _ (congrArg Bool.not (show (((0:Int)==0)&&((0:Int)==0)&&((0:Int)==0)&&((0:Int)==0)&&((0:Int)==0)&&((0:Int)==0)&&((0:Int)==0)&&((0:Int)==0)&&((0:Int)==0)&&((0:Int)==0))=true from by simpa [and_assoc] using o0))<|jCC 9 rfl<|loopF [0,1,5] (γ:=Int) (fun v9 R=>⟨[(9,I v9)],R,((c.workers+1)+1-v9).toNat,-1<=v9/\v9<=(c.workers+1)⟩) (-1) ⟨n0,om⟩ ?_
 rintro v9 ρ _ ⟨a0,G0⟩
 refine gCC a0 9 [0] rfl<|cD (v9<=c.workers) (fun p0=>jCO 8 rfl<|cZ (pf_deque_nil v9 a0)<|(by rintro _ _ ⟨rfl,q0⟩;refine pu2<|cZ (f_deque_nil v9 q0) ?_;rintro _ _ ⟨rfl,r0⟩;exact cS (r23_same none 0 0 ([]) none 0 0 ([]) (rN) (rN) rfl r0.flat) fun _ s0=>jOO 9 rfl<|sAdd v9 1<|jOI 2 rfl<|⟨v9+1,od,alB,s0,om⟩)) fun p0=>?_
 refine jCC 12 rfl<|loopF [0,1] (γ:=Int) (fun y0 R=>⟨[(10,I y0)],R,(4+1-y0).toNat,0<=y0/\y0<=4⟩) 0 ⟨a0,om⟩ ?_
 rintro y0 ρ _ ⟨b0,C0⟩
 refine jCC 7 rfl<|cD (y0<4) (fun t0=>jCO 8 rfl<|cZ (pf_queue_nil y0 b0)<|(by rintro _ _ ⟨rfl,u0⟩;refine pu2<|cZ (f_queue_nil y0 u0) ?_;rintro _ _ ⟨rfl,v0⟩;exact cS (r23_same none 0 0 ([]) none 0 0 ([]) (rN) (rN) rfl v0.flat) fun _ w0=>jOO 9 rfl<|sAdd y0 1<|jOI 2 rfl<|⟨y0+1,od,alB,w0,om⟩)) fun t0=>?_
 refine jCC 12 rfl<|loopF [0,1] (γ:=Int) (fun A0 R=>⟨[(11,I A0)],R,(4+1-A0).toNat,0<=A0/\A0<=4⟩) 0 ⟨b0,om⟩ ?_
 rintro A0 ρ _ ⟨c0,D0⟩
 refine jCC 7 rfl<|CD (A0<4) (fun x0=>jCR 11 rfl<|retT [.bool true]<|⟨rfl,(c0.dropAt 0 rfl)⟩) fun x0=>jCC 10 rfl<|loopF [0,1,11] (γ:=Int) (fun B0 R=>⟨[(12,I B0)],R,(9+1-B0).toNat,0<=B0/\B0<=9⟩) 0 ⟨c0,om⟩ ?_
 rintro B0 ρ _ ⟨d0,E0⟩
 refine jCC 7 rfl<|CD (B0<9) (fun z0=>jCO 8 rfl<|sAdd A0 1<|jOI 2 rfl<|⟨A0+1,od,alB,d0,om⟩) fun z0=>jCO 9 rfl<|cZ (pf_state_nil A0 B0 d0) ?_
 rintro _ _ ⟨rfl,a1⟩
 refine pu3<|cZ (f_state_nil A0 B0 a1) ?_
 rintro _ _ ⟨rfl,b1⟩
 exact jOO 9 rfl<|sAdd B0 1<|jOI 2 rfl<|⟨B0+1,od,alB,b1,om⟩
end Go.Proofs.YtkadmghedmodbaaGreat

namespace Go.Proofs.YtkadmghedmodbaaGreat
open Go Go.E Go.Proofs.Tryz
set_option linter.all false
set_option maxRecDepth 100000
set_option maxHeartbeats 2000000
variable {W w:World} {H:Chunk} {F:List Chunk}
theorem l27_follows (W w:World) (H:Chunk) (F:List Chunk) (t:Option Addr) (nt kt:Nat) (xt:List Int) (wk:Int) (choice:Int) (number:Int) (band:Int) (ht:RdT Go.E.encI 1 [H] t nt kt xt) (_hwk:-9223372036854775808<=wk/\wk<=9223372036854775807) (_hchoice:-9223372036854775808<=choice/\choice<=9223372036854775807) (_hnumber:-9223372036854775808<=number/\number<=9223372036854775807) (_hband:-9223372036854775808<=band/\band<=9223372036854775807) (hS:Sat W w (H::F)):
  Calls prog 4 #[.slice t nt kt,I wk,I choice,I number,I band] w fun e w'=>e= .returned (.bool true)/\Sat W w' (H::F):=by
 have O2:=ht.le
 refine callsK 201 func4 rfl<|jCO 8 rfl<|cZ (tape_new t nt kt hS) ?_
 rintro _ _ ⟨a0,rfl,u5⟩
 have tj:=ht.le
 refine jOO 6 rfl<|cZ (tg_config (ht.fl 0) om u5.flat1) ?_
 rintro _ _ ⟨b1,rfl,v5,_,_,_,w5⟩
 refine sAlloc (Sat.unflat1 w5) zeroValue24 fun b0 _ y5=>sTk y5 0 rfl (encCfg b1) fun _ n2=>nilO ?_
 have N2:=validCfg_zero v5
 refine jXC 1 rfl<|cutF n2 2 [1,2,3,4,11,12] (γ:=Int×Cfg) (fun ⟨X0,c1⟩ R=>⟨[],[(a0, .cells #[.slice t nt kt,I X0] 72 (0,0))]::[(b0, .cells (encCfg c1).toArray 24 (0,0))]::R,0,(0<=X0/\X0<=nt)/\-1<=c1.workers/\c1.workers<=1048577⟩) ?_ ?_
 · exact jCO 3 rfl<|(by have z5:=(n2.pick 1 rfl);refine cZ (tape_next (ht.fl 1) om z5.flat1 10 om) ?_;rintro _ _ ⟨a6,rfl,_,b6,_,c6⟩;have d1:=c6.unflat1;refine jOC 3 rfl<|CE a6 9 (fun d6=>jCI 1 rfl<|⟨(b6,b1),alB,d1,om,om⟩) fun d6=>gCO d1 3 [801] rfl<|cZ (tg_spoilc (ht.fl 1) om d1.flat1 b1 om) ?_;rintro _ _ ⟨c2_29,rfl,_,e6,_,f6⟩;exact sTk (Sat.unflat1 f6) 1 rfl (encCfg c2_29) fun _ h6=>jOI 1 rfl<|⟨(e6,c2_29),alB,h6,om,om⟩)
 rintro ⟨X0,c1⟩ ρ _ ⟨o2,J2,Q2⟩
 refine gCO o2 4 [1] rfl<|stepY (I (min c1.workers 5)) rfl rfl (Y_min2 c1.workers 5 rfl rfl kr kr)<|pu1<|tWk o2 1 rfl 0 (I (min c1.workers 5)) fun i6 j6=>nilO ?_
 obtain ⟨c,hc⟩:∃z:Cfg,z=(⟨(min c1.workers 5),c1.tileW,c1.tileH,c1.arena,c1.deque,c1.tasks,c1.cells,c1.jobs⟩:Cfg):=⟨_,rfl⟩
 have e1:Sat W i6 ([(a0, .cells #[.slice t nt kt,I X0] 72 (0,0))]::[(b0, .cells (encCfg c).toArray 24 (0,0))]::H::F):=by subst hc;exact j6
 have H2:-1<=c.workers/\c.workers<=5:=by subst hc;dsimp only;omega
 refine gXO e1 4 [801] rfl ?_
 rcases Classical.em (validCfg c=0) with f1|q2
 rotate_left
 ·refine cZ (pf_new_no c q2 e1) ?_
  rintro _ _ ⟨rfl,r2⟩
  refine gOO r2 10 [801] rfl<|cZ (f_new_no c q2 r2) ?_
  rintro _ _ ⟨rfl,k6⟩
  refine jOO 14 rfl ?_
  have l6:((validCfg c):Int)=(validCfg c):=rfl
  refine sFix 54 _ false (bne_eq_false_iff_eq.2 l6)<|jOC 18 rfl<|loopF [1,2,3,4,11,12,13,15] (γ:=Nat×Int) (fun ⟨i,it⟩ R=>⟨[(17,I (i:Int))],[(a0, .cells #[.slice t nt kt,I it] 72 (0,0))]::R,80-i,i<=80/\(0<=it/\it<=nt)⟩) (0,X0) ⟨k6,om,om⟩ ?_
  rintro ⟨i,it⟩ ρ _ ⟨s2,hi,I2⟩
  refine jCO 6 rfl<|SD 63 ((i:Int)<80) (fun m6=>jOO 13 rfl<|cZ (l27_sane s2)<|(by rintro _ _ ⟨rfl,n6⟩;exact jOR 4 rfl<|retT [.bool true]<|⟨rfl,(n6.drops [0,0])⟩)) fun m6=>pu1<|gY<|cZ (tape_left (ht.fl 1) om s2.flat1) ?_
  rintro _ _ ⟨p6,rfl,q6⟩
  have g1:=q6.unflat1
  refine jOC 3 rfl ?_
  cases p6
  · exact jCO 8 rfl<|cZ (l27_sane g1)<|(by rintro _ _ ⟨rfl,r6⟩;exact jOR 4 rfl<|retT [.bool true]<|⟨rfl,(r6.drops [0,0])⟩)
  refine gCO g1 10 [1] rfl<|sAdd c.workers 1<|cZ (tape_next (ht.fl 1) om g1.flat1 (c.workers+1) om) ?_
  rintro _ _ ⟨t6,rfl,_,_,_,u6⟩
  have v6:=u6.unflat1
  refine pu1<|cZ (tape_next (ht.fl 1) om v6.flat1 9 om) ?_
  rintro _ _ ⟨t2,rfl,_,_,_,w6⟩
  have x6:=w6.unflat1
  refine sSub t2 2<|jOO 7 rfl<|cZ (tape_next (ht.fl 1) om x6.flat1 4 om) ?_
  rintro _ _ ⟨y6,rfl,_,_,_,z6⟩
  have a7:=z6.unflat1
  refine pu1<|cZ (tape_next (ht.fl 1) om a7.flat1 4 om) ?_
  rintro _ _ ⟨b7,rfl,_,_,_,c7⟩
  have u2:=c7.unflat1
  refine jOC 4 rfl<|cutF u2 1 [1,2,3,4,11,12,13,15,17] (γ:=Int×Int×Int×Int×Int) (fun ⟨U0,vi,vv,vj,vm⟩ R=>⟨[(18,I vi),(19,I vv),(20,I vj),(21,I vm)],[(a0, .cells #[.slice t nt kt,I U0] 72 (0,0))]::R,0,(0<=U0/\U0<=nt)/\((0<=vj/\vj<=3)\/vj=number)⟩) ?_ ?_
  · exact jCO 3 rfl<|cZ (tape_next (ht.fl 1) om u2.flat1 20 om)<|(by rintro _ _ ⟨d7,rfl,_,v2,_,e7⟩;have w2:=e7.unflat1;exact jOC 3 rfl<|CE d7 19 (fun f7=>jCI 1 rfl<|⟨(v2,t6,(t2-2),y6,b7),alB,w2,om,(by first|exact .inr rfl|exact .inl om)⟩) fun f7=>jCI 10 rfl<|⟨(v2,wk,choice,number,band),alB,w2,om,(by first|exact .inr rfl|exact .inl om)⟩)
  rintro ⟨U0,vi,vv,vj,vm⟩ ρ _ ⟨x2,D2,M2⟩
  refine jCC 12 rfl<|cutF x2 1 [1,2,3,4,11,12,13,15,17,20,22,23] (γ:=Int×Int) (fun ⟨L0,p⟩ R=>⟨[(24,I p),(25,I p)],[(a0, .cells #[.slice t nt kt,I L0] 72 (0,0))]::R,0,(0<=L0/\L0<=nt)⟩) ?_ ?_
  rotate_left
  · exact (by rintro ⟨L0,p⟩ ρ _ ⟨g7,hit1⟩;refine jCO 6 rfl ?_;have h7:(p:Int)=p:=rfl;refine sFix 177 _ false (bne_eq_false_iff_eq.2 h7)<|pu2<|gY<|cS (r27_same none 0 0 ([]) none 0 0 ([]) (rN) (rN) rfl g7.flat) fun _ y2=>gOO y2 6 [801] rfl<|gY<|cZ (l27_same_nil c H2 y2.flat) ?_;rintro _ _ ⟨rfl,i7⟩;refine pu5<|gY<|cZ (pf_tasks_nil vj i7.unflat) ?_;rintro _ _ ⟨rfl,k7⟩;refine pu2<|gY<|cZ (f_tasks_nil vj k7) ?_;rintro _ _ ⟨rfl,l7⟩;exact gY<|cS (r20_same none 0 0 ([]) none 0 0 ([]) (rN) (fun z hz=>by cases hz) (rN) (fun z hz=>by cases hz) rfl l7.flat) fun _ m7=>jOO 10 rfl<|sAdd (i:Int) 1<|jOI 2 rfl<|⟨(i+1,L0),od,alB,m7,om,om⟩)
  refine jCO 3 rfl<|cZ (tape_next (ht.fl 1) om x2.flat1 20 om) ?_
  rintro _ _ ⟨i0,rfl,_,u0,_,n7⟩
  have c0:=n7.unflat1
  refine jOC 10 rfl<|cE i0 0 (fun z2=>?_) (fun z2=>?_)
  ·refine jCC 2 rfl<|cT _ (beq_iff_eq.2 z2)<|jCO 3 rfl<|cZ (tg_tasks (ht.fl 1) om c0.flat1 8 om) ?_
   rintro _ _ ⟨h1,i1,j1,a3,o7,b3,rfl,k0,k1,_,_,_,_,_,p7⟩
   have c3:=p7.unflat3
   have B2:=k0.ll
   refine jOC 3 rfl<|cutF c3 4 [1,2,3,4,11,12,13,15,17,20,21,22,23,26] (γ:=Int×(List Task)×Chunk) (fun ⟨B0,ls,C3⟩ R=>⟨[],[(a0, .cells #[.slice t nt kt,I B0] 72 (0,0))]::[(b0, .cells (encCfg c).toArray 24 (0,0))]::C3::b3::R,0,(0<=B0/\B0<=nt)/\OwnT encTask 51 9 h1 i1 j1 ls C3/\(∀z∈ls,Task.Ok [b3] z)/\ls.length<=8⟩) ?_ ?_
   rotate_left
   · exact (by rintro ⟨B0,ls,C3⟩ ρ _ ⟨q7,V0,J0,I0,E2⟩;refine jCO 5 rfl<|cZ (pf_add_nil vj h1 i1 j1 vm q7) ?_;rintro _ _ ⟨rfl,r7⟩;refine pu4<|cZ (f_add_nil vj h1 i1 j1 vm r7) ?_;rintro _ _ ⟨rfl,s7⟩;exact jOI 4 rfl<|⟨(B0,20),alB,(s7.drops [2,2]),om⟩)
   refine jCO 3 rfl<|cZ (tape_next (ht.fl 3) om c3.flat1 8 om) ?_
   rintro _ _ ⟨u7,rfl,_,v7,_,w7⟩
   have d3:=w7.unflat1
   refine jOC 3 rfl<|CE u7 7 (fun x7=>jCI 1 rfl<|⟨(v7,a3,o7),alB,(d3.picks [3,1]),om,k0,k1,(by first|omega|(simp;omega))⟩) fun x7=>jCO 3 rfl<|sBK d3 #[I (-1),I 70000,I 4097] 3 fun _ _ z7=>?_
   have a8:=(z7.pick 1 rfl)
   refine cZ (tape_pick (ht.fl 4) om a8.flat1 (RdT.flat (RdT.blk (enc:=Go.E.encI) (sz:=1) (xs:=[-1,70000,4097]) (fun _=>(by rfl)) 3 0 rfl rfl rfl om)) om om) ?_
   rintro _ _ ⟨d0,rfl,b8,c8,_,d8⟩
   have e8:=d8.unflat1
   have mm:(d0:Int)=(-1)\/(d0:Int)=70000\/(d0:Int)=4097:=by simpa using b8
   exact sIO k0 0 0 fun v0 _ _ e3 _ f8=>pu1<|sStF e8 k0 f8 2 0 8 v0 ({v0 with scratch:=d0}:Task) e3 (I d0) [I d0] sizeOf3 fun _ g8 h8 i8=>jOI 1 rfl<|⟨(c8,(a3.set 0 ({v0 with scratch:=d0}:Task)),g8),alB,((i8.picks [4,1]).dropAt 2 rfl),om,h8,(fun z hz=>(List.mem_or_eq_of_mem_set hz).elim (k1 z) (fun h=>by rw [h];exact ⟨(k1 v0 (List.mem_of_getElem? e3)).deps⟩)),(by first|omega|(simp;omega))⟩
  refine jCC 5 rfl<|cE i0 1 (fun k8=>?_) (fun k8=>?_)
  rotate_left
  ·refine jCC 6 rfl<|cE i0 2 (fun l8=>jCO 4 rfl<|cZ (pf_crash_nil vi c0)<|(by rintro _ _ ⟨rfl,m8⟩;refine jOO 10 rfl<|cZ (f_crash_nil vi m8) ?_;rintro _ _ ⟨rfl,n8⟩;exact jOI 7 rfl<|⟨(u0,16),alB,n8,om⟩)) fun l8=>?_
   refine jCC 7 rfl<|cE i0 3 (fun f3=>jCC 2 rfl<|cT _ (beq_iff_eq.2 f3)<|jCO 4 rfl<|cZ (pf_restart_nil vi c0)<|(by rintro _ _ ⟨rfl,o8⟩;refine jOO 10 rfl<|cZ (f_restart_nil vi o8) ?_;rintro _ _ ⟨rfl,p8⟩;exact jOI 7 rfl<|⟨(u0,16),alB,p8,om⟩)) fun f3=>?_
   refine jCC 5 rfl<|cE i0 4 (fun q8=>jCO 4 rfl<|cZ (pf_restart_nil vi c0)<|(by rintro _ _ ⟨rfl,r8⟩;refine jOO 10 rfl<|cZ (f_restart_nil vi r8) ?_;rintro _ _ ⟨rfl,s8⟩;exact jOI 7 rfl<|⟨(u0,16),alB,s8,om⟩)) fun q8=>?_
   refine jCC 6 rfl<|CE i0 5 (fun t8=>jCO 5 rfl<|cZ (pf_step_nil vi vv c0)<|(by rintro _ _ ⟨rfl,u8⟩;refine jOO 11 rfl<|cZ (f_step_nil vi vv u8) ?_;rintro _ _ ⟨rfl,v8⟩;exact jOI 7 rfl<|⟨(u0,16),alB,v8,om⟩)) fun t8=>?_
   refine jCO 3 rfl<|cZ (tape_next (ht.fl 1) om c0.flat1 3 om) ?_
   rintro _ _ ⟨w8,rfl,_,g3,_,x8⟩
   have h3:=x8.unflat1
   refine jOC 3 rfl<|CE w8 2 (fun y8=>jCI 2 rfl<|⟨(g3,0),alB,h3,om⟩) fun y8=>jCO 4 rfl<|cZ (pf_cancel_nil vj h3) ?_
   rintro _ _ ⟨rfl,z8⟩
   refine jOO 10 rfl<|cZ (f_cancel_nil vj z8) ?_
   rintro _ _ ⟨rfl,a9⟩
   exact jOI 7 rfl<|⟨(g3,16),alB,a9,om⟩
  refine jCO 3 rfl<|cZ (tg_tasks (ht.fl 1) om c0.flat1 8 om) ?_
  rintro _ _ ⟨l1,m1,n1,i3,b9,j3,rfl,l0,o1,_,_,_,_,_,c9⟩
  have k3:=c9.unflat3
  have C2:=l0.ll
  refine jOC 3 rfl<|cutF k3 4 [1,2,3,4,11,12,13,15,17,20,21,22,23,26] (γ:=Int×(List Task)×Chunk) (fun ⟨B0,ls,C3⟩ R=>⟨[],[(a0, .cells #[.slice t nt kt,I B0] 72 (0,0))]::[(b0, .cells (encCfg c).toArray 24 (0,0))]::C3::j3::R,0,(0<=B0/\B0<=nt)/\OwnT encTask 51 9 l1 m1 n1 ls C3/\(∀z∈ls,Task.Ok [j3] z)/\ls.length<=8⟩) ?_ ?_
  rotate_left
  · exact (by rintro ⟨B0,ls,C3⟩ ρ _ ⟨d9,V0,J0,I0,E2⟩;refine jCO 5 rfl<|cZ (pf_add_nil vj l1 m1 n1 vm d9) ?_;rintro _ _ ⟨rfl,e9⟩;refine pu4<|cZ (f_add_nil vj l1 m1 n1 vm e9) ?_;rintro _ _ ⟨rfl,f9⟩;exact jOI 4 rfl<|⟨(B0,20),alB,(f9.drops [2,2]),om⟩)
  refine jCO 3 rfl<|cZ (tape_next (ht.fl 3) om k3.flat1 8 om) ?_
  rintro _ _ ⟨h9,rfl,_,i9,_,j9⟩
  have l3:=j9.unflat1
  refine jOC 3 rfl<|CE h9 7 (fun k9=>jCI 1 rfl<|⟨(i9,i3,b9),alB,(l3.picks [3,1]),om,l0,o1,(by first|omega|(simp;omega))⟩) fun k9=>jCO 3 rfl<|sBK l3 #[I (-1),I 70000,I 4097] 3 fun _ _ m9=>?_
  have n9:=(m9.pick 1 rfl)
  refine cZ (tape_pick (ht.fl 4) om n9.flat1 (RdT.flat (RdT.blk (enc:=Go.E.encI) (sz:=1) (xs:=[-1,70000,4097]) (fun _=>(by rfl)) 3 0 rfl rfl rfl om)) om om) ?_
  rintro _ _ ⟨e0,rfl,o9,p9,_,q9⟩
  have r9:=q9.unflat1
  have zn:(e0:Int)=(-1)\/(e0:Int)=70000\/(e0:Int)=4097:=by simpa using o9
  exact sIO l0 0 0 fun w0 _ _ m3 _ s9=>pu1<|sStF r9 l0 s9 2 0 8 w0 ({w0 with scratch:=e0}:Task) m3 (I e0) [I e0] sizeOf3 fun _ t9 u9 v9=>jOI 1 rfl<|⟨(p9,(i3.set 0 ({w0 with scratch:=e0}:Task)),t9),alB,((v9.picks [4,1]).dropAt 2 rfl),om,u9,(fun z hz=>(List.mem_or_eq_of_mem_set hz).elim (o1 z) (fun h=>by rw [h];exact ⟨(o1 w0 (List.mem_of_getElem? m3)).deps⟩)),(by first|omega|(simp;omega))⟩
 have n3:validCfg c=0:=f1
 refine cZ (pf_new c n3 e1) ?_
 rintro _ _ ⟨o3,x9,rfl,y9,q3⟩
 have z9:=FJ.new n3
 have P2:=validCfg_zero f1;have C0:0<=c.tasks/\c.tasks<=4096:=by omega
 refine gOO q3 10 [802] rfl<|cZ (f_new c f1 q3) ?_
 rintro _ _ ⟨r3,aa,rfl,ba,ca⟩
 refine jOC 32 rfl<|loopF [1,2,3,4,11,12,13,15] (γ:=Nat×Int×FS×Chunk×Chunk) (fun ⟨i,it,F0,M0,N0⟩ R=>⟨[(17,I (i:Int))],[(a0, .cells #[.slice t nt kt,I it] 72 (0,0))]::[(b0, .cells (encCfg c).toArray 24 (0,0))]::M0::N0::R,80-i,i<=80/\(0<=it/\it<=nt)/\FarmP o3 F0 M0/\FarmR r3 F0 N0/\FJ F0 (i:Int) 5/\J5 number F0/\F0.cfg=c⟩) (0,X0,(newF c),x9,aa) ⟨(ca.picks [1,3,3]),om,om,y9,ba,(z9.mono om om om),(J5.new _ _),rfl⟩ ?_
 rintro ⟨i,it,F0,M0,N0⟩ ρ _ ⟨s3,hi,I2,H0,G0,A0,O0,K0⟩
 have C0:0<=F0.cfg.tasks/\F0.cfg.tasks<=4096:=by rw [K0];omega
 refine jCO 6 rfl<|SD 63 ((i:Int)<80) (fun ea=>jOO 13 rfl<|cZ (l27_sane s3)<|(by rintro _ _ ⟨rfl,fa⟩;exact jOR 4 rfl<|retT [.bool true]<|⟨rfl,(fa.drops [0,0,0,0])⟩)) fun ea=>pu1<|gY<|cZ (tape_left (ht.fl 3) om s3.flat1) ?_
 rintro _ _ ⟨ha,rfl,ia⟩
 have q1:=ia.unflat1
 refine jOC 3 rfl ?_
 cases ha
 · exact jCO 8 rfl<|cZ (l27_sane q1)<|(by rintro _ _ ⟨rfl,ja⟩;exact jOR 4 rfl<|retT [.bool true]<|⟨rfl,(ja.drops [0,0,0,0])⟩)
 refine gCO q1 10 [1] rfl<|sAdd c.workers 1<|cZ (tape_next (ht.fl 3) om q1.flat1 (c.workers+1) om) ?_
 rintro _ _ ⟨la,rfl,_,_,_,ma⟩
 have na:=ma.unflat1
 refine pu1<|cZ (tape_next (ht.fl 3) om na.flat1 9 om) ?_
 rintro _ _ ⟨t3,rfl,_,_,_,oa⟩
 have pa:=oa.unflat1
 refine sSub t3 2<|jOO 7 rfl<|cZ (tape_next (ht.fl 3) om pa.flat1 4 om) ?_
 rintro _ _ ⟨qa,rfl,_,_,_,ra⟩
 have sa:=ra.unflat1
 refine pu1<|cZ (tape_next (ht.fl 3) om sa.flat1 4 om) ?_
 rintro _ _ ⟨ta,rfl,_,_,_,ua⟩
 have u3:=ua.unflat1
 refine jOC 4 rfl<|cutF u3 1 [1,2,3,4,11,12,13,15,17] (γ:=Int×Int×Int×Int×Int) (fun ⟨U0,vi,vv,vj,vm⟩ R=>⟨[(18,I vi),(19,I vv),(20,I vj),(21,I vm)],[(a0, .cells #[.slice t nt kt,I U0] 72 (0,0))]::R,0,(0<=U0/\U0<=nt)/\((0<=vj/\vj<=3)\/vj=number)⟩) ?_ ?_
 · exact jCO 3 rfl<|cZ (tape_next (ht.fl 3) om u3.flat1 20 om)<|(by rintro _ _ ⟨va,rfl,_,v3,_,wa⟩;have w3:=wa.unflat1;exact jOC 3 rfl<|CE va 19 (fun xa=>jCI 1 rfl<|⟨(v3,la,(t3-2),qa,ta),alB,w3,om,(by first|exact .inr rfl|exact .inl om)⟩) fun xa=>jCI 10 rfl<|⟨(v3,wk,choice,number,band),alB,w3,om,(by first|exact .inr rfl|exact .inl om)⟩)
 rintro ⟨U0,vi,vv,vj,vm⟩ ρ _ ⟨x3,D2,M2⟩
 refine jCC 12 rfl<|cutF x3 4 [1,2,3,4,11,12,13,15,17,20] (γ:=Int×Int×FS×Chunk×Chunk×(List Evt)×(Option Addr)×Nat×Nat×Chunk×SO) (fun ⟨L0,p,F1,M1,N1,zs,ax,nx,kx,Zx,ay,ny,ky,Zy⟩ R=>⟨[(24,I p),(25,I p),(22, .slice ax nx kx),(23, .slice ay ny ky)],[(a0, .cells #[.slice t nt kt,I L0] 72 (0,0))]::[(b0, .cells (encCfg c).toArray 24 (0,0))]::M1::N1::Zx::Zy::R,0,(0<=L0/\L0<=nt)/\FarmP o3 F1 M1/\FarmR r3 F1 N1/\FJ F1 ((i:Int)+1) 5/\J5 number F1/\F1.cfg=c/\OwnT encEvt 63 7 ax nx kx zs Zx/\OwnT encEvt 63 7 ay ny ky zs Zy⟩) ?_ ?_
 rotate_left
 · exact (by rintro ⟨L0,p,F1,M1,N1,zs,ax,nx,kx,Zx,ay,ny,ky,Zy⟩ ρ _ ⟨ya,hit1,hR1,hN1,hJ1,hJ51,hcf1,hOx,hOy⟩;refine jCC 1 rfl ?_;have K2:=hOx.len;have L2:=hOy.len;have F2:=hOx.le;have G2:=hOy.le;refine jCO 5 rfl ?_;have za:(p:Int)=p:=rfl;refine sFix 177 _ false (bne_eq_false_iff_eq.2 za)<|pu2<|gY<|cS (r27_same ax nx kx zs ay ny ky zs (RdT.flat (hOx.rdAt 4 (by rfl))) (RdT.flat (hOy.rdAt 5 (by rfl))) rfl ya.flat) fun _ y3=>gOO y3 6 [801] rfl<|gY ?_;have ab:=(y3.picks [3,3]);refine cZ (l27_same c H2 hR1 hN1 hJ1 ab.flat2) ?_;rintro _ _ ⟨rfl,bb⟩;have cb:=bb.unflat2;refine pu5<|gY<|cZ (pf_tasks hR1 hJ1.i vj cb.flat1) ?_;rintro _ _ ⟨db,eb,gb,hb,_,_,rfl,r1,ib,jb,kb⟩;have lb:=kb.unflat3;have X1:=r1.ll;refine pu2<|gY ?_;have mb:=(lb.pick 3 rfl);refine cZ (f_tasks hN1 hJ1.i vj mb.flat1) ?_;rintro _ _ ⟨nb,ob,pb,z3,_,_,rfl,s1,qb,a4,rb⟩;have sb:=rb.unflat3;have Y1:=s1.ll;have W0:z3.length=(tasksF F1 vj).length:=(by rw [<-a4,List.length_map]);exact gY<|cS (r20_same db eb gb hb nb ob pb z3 (RdT.flat (r1.rdAt 3 (by rfl))) (fun z hz=>(ib z hz).of_mem (mF 4)) (RdT.flat (s1.rdAt 0 (by rfl))) (fun z hz=>(qb z hz).of_mem (mF 1)) (jb.trans a4.symm) sb.flat) fun _ tb=>jOO 10 rfl<|sAdd (i:Int) 1<|jOI 2 rfl<|⟨(i+1,L0,F1,M1,N1),od,alB,((tb.picks [5,7,7]).drops [3,3,4,4,4,4]),om,om,hR1,hN1,(hJ1.mono om om om),hJ51,hcf1⟩)
 refine jCO 3 rfl<|cZ (tape_next (ht.fl 3) om x3.flat1 20 om) ?_
 rintro _ _ ⟨j0,rfl,_,x0,_,vb⟩
 have f0:=vb.unflat1
 refine jOC 10 rfl<|cE j0 0 (fun b4=>?_) (fun b4=>?_)
 ·refine jCC 2 rfl<|cT _ (beq_iff_eq.2 b4)<|jCO 3 rfl<|cZ (tg_tasks (ht.fl 3) om f0.flat1 8 om) ?_
  rintro _ _ ⟨m0,n0,o0,c4,wb,d4,rfl,p0,t1,_,_,_,_,_,xb⟩
  have e4:=xb.unflat3
  have Z1:=p0.ll
  refine jOC 3 rfl<|cutF e4 6 [1,2,3,4,11,12,13,15,17,20,21,22,23,26] (γ:=Int×(List Task)×Chunk) (fun ⟨B0,ls,C3⟩ R=>⟨[],[(a0, .cells #[.slice t nt kt,I B0] 72 (0,0))]::[(b0, .cells (encCfg c).toArray 24 (0,0))]::M0::N0::C3::d4::R,0,(0<=B0/\B0<=nt)/\OwnT encTask 51 9 m0 n0 o0 ls C3/\(∀z∈ls,Task.Ok [d4] z)/\ls.length<=8⟩) ?_ ?_
  · exact jCO 3 rfl<|cZ (tape_next (ht.fl 5) om e4.flat1 8 om)<|(by rintro _ _ ⟨yb,rfl,_,zb,_,ac⟩;have f4:=ac.unflat1;refine jOC 3 rfl<|CE yb 7 (fun bc=>jCI 1 rfl<|⟨(zb,c4,wb),alB,(f4.picks [5,5,5,3]),om,p0,t1,(by first|omega|(simp;omega))⟩) fun bc=>jCO 3 rfl<|sBK f4 #[I (-1),I 70000,I 4097] 3 fun _ _ dc=>?_;have ec:=(dc.pick 1 rfl);refine cZ (tape_pick (ht.fl 6) om ec.flat1 (RdT.flat (RdT.blk (enc:=Go.E.encI) (sz:=1) (xs:=[-1,70000,4097]) (fun _=>(by rfl)) 3 0 rfl rfl rfl om)) om om) ?_;rintro _ _ ⟨g0,rfl,fc,gc,_,ic⟩;have jc:=ic.unflat1;have lq:(g0:Int)=(-1)\/(g0:Int)=70000\/(g0:Int)=4097:=(by simpa using fc);exact sIO p0 0 0 fun y0 _ _ g4 _ kc=>pu1<|sStF jc p0 kc 2 0 8 y0 ({y0 with scratch:=g0}:Task) g4 (I g0) [I g0] sizeOf3 fun _ lc mc nc=>jOI 1 rfl<|⟨(gc,(c4.set 0 ({y0 with scratch:=g0}:Task)),lc),alB,((nc.picks [6,6,6,3]).dropAt 4 rfl),om,mc,(fun z hz=>(List.mem_or_eq_of_mem_set hz).elim (t1 z) (fun h=>by rw [h];exact ⟨(t1 y0 (List.mem_of_getElem? g4)).deps⟩)),(by first|omega|(simp;omega))⟩)
  rintro ⟨B0,ls,C3⟩ ρ _ ⟨pc,V0,J0,I0,E2⟩
  refine jCO 5 rfl ?_
  have h4:=(pc.pick 2 rfl)
  refine bC (addC F0 vj ls vm=0) (fun i4=>cZ (pf_add_no H0 A0.i vj m0 n0 o0 ls vm (RdT.flat (J0.rdAt 3 (by rfl))) (fun z hz=>(I0 z hz).of_mem (mF 4)) i4 C0 h4.flat1)<|(by rintro _ _ ⟨rfl,rc⟩;have sc:=rc.unflat1;refine pu4 ?_;have tc:=(sc.pick 3 rfl);refine cZ (f_add_no G0 A0.i vj m0 n0 o0 ls vm (RdT.flat (J0.rdAt 3 (by rfl))) (fun z hz=>(I0 z hz).of_mem (mF 4)) i4 C0 tc.flat1) ?_;rintro _ _ ⟨rfl,uc⟩;have vc:=uc.unflat1;exact jOI 4 rfl<|(by have wc:=((vc.picks [1,3,3]).drops [4,4]);have xc:Sat W _ ([(a0, .cells #[.slice t nt kt,I B0] 72 (0,0))]::[(b0, .cells (encCfg c).toArray 24 (0,0))]::M0::N0::([]:Chunk)::([]:Chunk)::H::F):=Sat.perm (show Sat W _ ([(a0, .cells #[.slice t nt kt,I B0] 72 (0,0))]::[(b0, .cells (encCfg c).toArray 24 (0,0))]::M0::N0::H::F) from wc) (by simp);exact ⟨(B0,(addC F0 vj ls vm),F0,M0,N0,[],none,0,0,([]:Chunk),none,0,0,([]:Chunk)),alB,xc,om,H0,G0,(A0.mono om om om),O0,K0,OwnT.nil fR,OwnT.nil fR⟩))) fun qc=>?_
  obtain ⟨j4,yc,k4,l4,m4,n4⟩:=addC_zero qc
  obtain ⟨u1,v1⟩:=at_some A0.i.fw.jl (k:=(vj).toNat) om
  have o4:JS.added u1=false:=by have h:=yc;unfold jobAt at h;rwa [getD_some v1] at h
  have q4:0<=vj/\vj<64:=j4
  have r4:0<=vm/\vm<4:=k4
  have s4:validC ls=0:=l4
  have t4:∀z∈ls,z.scratch<=F0.cfg.arena:=m4
  have zc:0<=F0.cfg.tasks/\F0.cfg.tasks<=4096:=C0
  have u4:(ls.length:Int)<=F0.cfg.tasks-loadL F0.jobs:=n4
  have ad:ls.length<=12:=by omega
  have v4:F0.jobs[(vj).toNat]?=some u1:=v1
  have w4:JS.added u1=false:=o4
  refine cZ (pf_add H0 A0.i vj m0 n0 o0 ls vm (RdT.flat (J0.rdAt 3 (by rfl))) (fun z hz=>(I0 z hz).of_mem (mF 4)) q4 v4 w4 r4 s4 t4 zc u4 h4.flat1) ?_
  rintro _ _ ⟨w1,rfl,cd,dd⟩
  have ed:=dd.unflat1
  have fd:=A0.add q4 v4 w4 r4 s4 t4 u4 ad
  have D0:=O0.add (x:=vj) (l:=ls) (bd:=vm) om;have gd:=fd.n5 D0
  refine pu4 ?_
  have hd:=(ed.pick 3 rfl)
  refine cZ (f_add G0 A0.i.fw A0.i.st vj m0 n0 o0 ls vm (RdT.flat (J0.rdAt 3 (by rfl))) (fun z hz=>(I0 z hz).of_mem (mF 4)) j4 v1 o4 k4 l4 m4 C0 n4 hd.flat1) ?_
  rintro _ _ ⟨x1,rfl,jd,kd⟩
  have ld:=kd.unflat1
  exact jOI 4 rfl<|(by have md:=((ld.picks [1,3,3]).drops [4,4]);have nd:Sat W _ ([(a0, .cells #[.slice t nt kt,I B0] 72 (0,0))]::[(b0, .cells (encCfg c).toArray 24 (0,0))]::w1::x1::([]:Chunk)::([]:Chunk)::H::F):=Sat.perm (show Sat W _ ([(a0, .cells #[.slice t nt kt,I B0] 72 (0,0))]::[(b0, .cells (encCfg c).toArray 24 (0,0))]::w1::x1::H::F) from md) (by simp);exact ⟨(B0,0,(addF F0 vj ls vm),w1,x1,[],none,0,0,([]:Chunk),none,0,0,([]:Chunk)),alB,nd,om,cd,jd,(gd.mono om om om),D0,K0,OwnT.nil fR,OwnT.nil fR⟩)
 refine jCC 5 rfl<|cE j0 1 (fun pd=>?_) (fun pd=>?_)
 ·refine jCO 3 rfl<|cZ (tg_tasks (ht.fl 3) om f0.flat1 8 om) ?_
  rintro _ _ ⟨q0,r0,s0,x4,qd,y4,rfl,t0,y1,_,_,_,_,_,rd⟩
  have z4:=rd.unflat3
  have A2:=t0.ll
  refine jOC 3 rfl<|cutF z4 6 [1,2,3,4,11,12,13,15,17,20,21,22,23,26] (γ:=Int×(List Task)×Chunk) (fun ⟨B0,ls,C3⟩ R=>⟨[],[(a0, .cells #[.slice t nt kt,I B0] 72 (0,0))]::[(b0, .cells (encCfg c).toArray 24 (0,0))]::M0::N0::C3::y4::R,0,(0<=B0/\B0<=nt)/\OwnT encTask 51 9 q0 r0 s0 ls C3/\(∀z∈ls,Task.Ok [y4] z)/\ls.length<=8⟩) ?_ ?_
  · exact jCO 3 rfl<|cZ (tape_next (ht.fl 5) om z4.flat1 8 om)<|(by rintro _ _ ⟨sd,rfl,_,td,_,ud⟩;have a5:=ud.unflat1;refine jOC 3 rfl<|CE sd 7 (fun vd=>jCI 1 rfl<|⟨(td,x4,qd),alB,(a5.picks [5,5,5,3]),om,t0,y1,(by first|omega|(simp;omega))⟩) fun vd=>jCO 3 rfl<|sBK a5 #[I (-1),I 70000,I 4097] 3 fun _ _ xd=>?_;have yd:=(xd.pick 1 rfl);refine cZ (tape_pick (ht.fl 6) om yd.flat1 (RdT.flat (RdT.blk (enc:=Go.E.encI) (sz:=1) (xs:=[-1,70000,4097]) (fun _=>(by rfl)) 3 0 rfl rfl rfl om)) om om) ?_;rintro _ _ ⟨h0,rfl,zd,ae,_,be⟩;have ce:=be.unflat1;have ir:(h0:Int)=(-1)\/(h0:Int)=70000\/(h0:Int)=4097:=(by simpa using zd);exact sIO t0 0 0 fun z0 _ _ b5 _ de=>pu1<|sStF ce t0 de 2 0 8 z0 ({z0 with scratch:=h0}:Task) b5 (I h0) [I h0] sizeOf3 fun _ ee fe ge=>jOI 1 rfl<|⟨(ae,(x4.set 0 ({z0 with scratch:=h0}:Task)),ee),alB,((ge.picks [6,6,6,3]).dropAt 4 rfl),om,fe,(fun z hz=>(List.mem_or_eq_of_mem_set hz).elim (y1 z) (fun h=>by rw [h];exact ⟨(y1 z0 (List.mem_of_getElem? b5)).deps⟩)),(by first|omega|(simp;omega))⟩)
  rintro ⟨B0,ls,C3⟩ ρ _ ⟨ie,V0,J0,I0,E2⟩
  refine jCO 5 rfl ?_
  have c5:=(ie.pick 2 rfl)
  refine bC (addC F0 vj ls vm=0) (fun d5=>cZ (pf_add_no H0 A0.i vj q0 r0 s0 ls vm (RdT.flat (J0.rdAt 3 (by rfl))) (fun z hz=>(I0 z hz).of_mem (mF 4)) d5 C0 c5.flat1)<|(by rintro _ _ ⟨rfl,ke⟩;have me:=ke.unflat1;refine pu4 ?_;have ne:=(me.pick 3 rfl);refine cZ (f_add_no G0 A0.i vj q0 r0 s0 ls vm (RdT.flat (J0.rdAt 3 (by rfl))) (fun z hz=>(I0 z hz).of_mem (mF 4)) d5 C0 ne.flat1) ?_;rintro _ _ ⟨rfl,oe⟩;have pe:=oe.unflat1;exact jOI 4 rfl<|(by have qe:=((pe.picks [1,3,3]).drops [4,4]);have re:Sat W _ ([(a0, .cells #[.slice t nt kt,I B0] 72 (0,0))]::[(b0, .cells (encCfg c).toArray 24 (0,0))]::M0::N0::([]:Chunk)::([]:Chunk)::H::F):=Sat.perm (show Sat W _ ([(a0, .cells #[.slice t nt kt,I B0] 72 (0,0))]::[(b0, .cells (encCfg c).toArray 24 (0,0))]::M0::N0::H::F) from qe) (by simp);exact ⟨(B0,(addC F0 vj ls vm),F0,M0,N0,[],none,0,0,([]:Chunk),none,0,0,([]:Chunk)),alB,re,om,H0,G0,(A0.mono om om om),O0,K0,OwnT.nil fR,OwnT.nil fR⟩))) fun je=>?_
  obtain ⟨e5,se,f5,g5,h5,i5⟩:=addC_zero je
  obtain ⟨z1,a2⟩:=at_some A0.i.fw.jl (k:=(vj).toNat) om
  have j5:JS.added z1=false:=by have h:=se;unfold jobAt at h;rwa [getD_some a2] at h
  have k5:0<=vj/\vj<64:=e5
  have l5:0<=vm/\vm<4:=f5
  have m5:validC ls=0:=g5
  have o5:∀z∈ls,z.scratch<=F0.cfg.arena:=h5
  have te:0<=F0.cfg.tasks/\F0.cfg.tasks<=4096:=C0
  have p5:(ls.length:Int)<=F0.cfg.tasks-loadL F0.jobs:=i5
  have ue:ls.length<=12:=by omega
  have q5:F0.jobs[(vj).toNat]?=some z1:=a2
  have r5:JS.added z1=false:=j5
  refine cZ (pf_add H0 A0.i vj q0 r0 s0 ls vm (RdT.flat (J0.rdAt 3 (by rfl))) (fun z hz=>(I0 z hz).of_mem (mF 4)) k5 q5 r5 l5 m5 o5 te p5 c5.flat1) ?_
  rintro _ _ ⟨b2,rfl,ve,we⟩
  have xe:=we.unflat1
  have ye:=A0.add k5 q5 r5 l5 m5 o5 p5 ue
  have E0:=O0.add (x:=vj) (l:=ls) (bd:=vm) om;have ze:=ye.n5 E0
  refine pu4 ?_
  have af:=(xe.pick 3 rfl)
  refine cZ (f_add G0 A0.i.fw A0.i.st vj q0 r0 s0 ls vm (RdT.flat (J0.rdAt 3 (by rfl))) (fun z hz=>(I0 z hz).of_mem (mF 4)) e5 a2 j5 f5 g5 h5 C0 i5 af.flat1) ?_
  rintro _ _ ⟨c2,rfl,bf,cf⟩
  have df:=cf.unflat1
  exact jOI 4 rfl<|(by have ef:=((df.picks [1,3,3]).drops [4,4]);have ff:Sat W _ ([(a0, .cells #[.slice t nt kt,I B0] 72 (0,0))]::[(b0, .cells (encCfg c).toArray 24 (0,0))]::b2::c2::([]:Chunk)::([]:Chunk)::H::F):=Sat.perm (show Sat W _ ([(a0, .cells #[.slice t nt kt,I B0] 72 (0,0))]::[(b0, .cells (encCfg c).toArray 24 (0,0))]::b2::c2::H::F) from ef) (by simp);exact ⟨(B0,0,(addF F0 vj ls vm),b2,c2,[],none,0,0,([]:Chunk),none,0,0,([]:Chunk)),alB,ff,om,ve,bf,(ze.mono om om om),E0,K0,OwnT.nil fR,OwnT.nil fR⟩)
 refine jCC 6 rfl<|cE j0 2 (fun gf=>jCO 4 rfl<|(by have hf:=(f0.pick 2 rfl);refine cZ (pf_crash H0 A0.i vi hf.flat1) ?_;rintro _ _ ⟨jf,kf,lf,mf,nf,rfl,d2,pf,qf⟩;have rf:=qf.unflat2;have L1:=d2.ll;have sf:=FJ.crash (x:=vi) A0 om;have P0:=O0.crash (x:=vi) A0 om;have tf:(crashF F0 vi).1.cfg=c:=crash_same.1.trans K0;refine jOO 10 rfl ?_;have uf:=(rf.pick 4 rfl);refine cZ (f_crash_a G0 A0.i vi uf.flat1) ?_;rintro _ _ ⟨vf,wf,xf,yf,zf,rfl,e2,ag,bg⟩;have cg:=bg.unflat2;have O1:=e2.ll;exact jOI 7 rfl<|⟨(x0,((crashF F0 vi).2.2),(crashF F0 vi).1,nf,zf,(crashF F0 vi).2.1,jf,kf,lf,mf,vf,wf,xf,yf),alB,(cg.picks [2,2,3,5,5]),om,pf,ag,(sf.mono om om om),P0,tf,d2,e2⟩)) fun gf=>?_
 refine jCC 7 rfl<|cE j0 3 (fun s5=>jCC 2 rfl<|cT _ (beq_iff_eq.2 s5)<|jCO 4 rfl<|(by have eg:=(f0.pick 2 rfl);refine cZ (pf_restart H0 A0.i vi eg.flat1) ?_;rintro _ _ ⟨fg,gg,hg,ig,jg,rfl,f2,kg,lg⟩;have mg:=lg.unflat2;have P1:=f2.ll;have ng:=FJ.restart (x:=vi) A0 om;have Q0:=O0.restart (x:=vi) A0 om;have og:(restartF F0 vi).1.cfg=c:=restart_same.1.trans K0;refine jOO 10 rfl ?_;have pg:=(mg.pick 4 rfl);refine cZ (f_restart G0 A0.i.fw A0.i.st vi pg.flat1) ?_;rintro _ _ ⟨qg,rg,sg,tg,ug,rfl,g2,vg,wg⟩;have xg:=wg.unflat2;have Q1:=g2.ll;exact jOI 7 rfl<|⟨(x0,((restartF F0 vi).2.2),(restartF F0 vi).1,jg,ug,(restartF F0 vi).2.1,fg,gg,hg,ig,qg,rg,sg,tg),alB,(xg.picks [2,2,3,5,5]),om,kg,vg,(ng.mono om om om),Q0,og,f2,g2⟩)) fun s5=>?_
 refine jCC 5 rfl<|cE j0 4 (fun zg=>jCO 4 rfl<|(by have ah:=(f0.pick 2 rfl);refine cZ (pf_restart H0 A0.i vi ah.flat1) ?_;rintro _ _ ⟨bh,ch,dh,eh,fh,rfl,h2,gh,hh⟩;have ih:=hh.unflat2;have R1:=h2.ll;have jh:=FJ.restart (x:=vi) A0 om;have R0:=O0.restart (x:=vi) A0 om;have kh:(restartF F0 vi).1.cfg=c:=restart_same.1.trans K0;refine jOO 10 rfl ?_;have lh:=(ih.pick 4 rfl);refine cZ (f_restart G0 A0.i.fw A0.i.st vi lh.flat1) ?_;rintro _ _ ⟨mh,nh,oh,ph,qh,rfl,i2,rh,sh⟩;have th:=sh.unflat2;have S1:=i2.ll;exact jOI 7 rfl<|⟨(x0,((restartF F0 vi).2.2),(restartF F0 vi).1,fh,qh,(restartF F0 vi).2.1,bh,ch,dh,eh,mh,nh,oh,ph),alB,(th.picks [2,2,3,5,5]),om,gh,rh,(jh.mono om om om),R0,kh,h2,i2⟩)) fun zg=>?_
 refine jCC 6 rfl<|CE j0 5 (fun vh=>jCO 5 rfl<|(by have wh:=(f0.pick 2 rfl);refine cZ (pf_step H0 A0.i vi vv A0.t om wh.flat1) ?_;rintro _ _ ⟨xh,yh,zh,ai,bi,rfl,j2,ci,di⟩;have ei:=di.unflat2;have V1:=j2.ll;have fi:=FJ.step (x:=vi) (c:=vv) A0 om;have T0:=O0.step (x:=vi) (c:=vv) A0 om;have gi:(stepF F0 vi vv).1.cfg=c:=step_same.1.trans K0;refine jOO 11 rfl ?_;have ii:=(ei.pick 4 rfl);refine cZ (f_step G0 A0.i.fw A0.i.st vi vv ii.flat1) ?_;rintro _ _ ⟨ji,ki,li,mi,ni,rfl,k2,oi,pi⟩;have qi:=pi.unflat2;have W1:=k2.ll;exact jOI 7 rfl<|⟨(x0,((stepF F0 vi vv).2.2),(stepF F0 vi vv).1,bi,ni,(stepF F0 vi vv).2.1,xh,yh,zh,ai,ji,ki,li,mi),alB,(qi.picks [2,2,3,5,5]),om,ci,oi,(fi.mono om om om),T0,gi,j2,k2⟩)) fun vh=>?_
 refine jCO 3 rfl<|cZ (tape_next (ht.fl 3) om f0.flat1 3 om) ?_
 rintro _ _ ⟨si,rfl,_,a1,_,ti⟩
 have t5:=ti.unflat1
 refine jOC 3 rfl<|CE si 2 (fun ui=>jCI 2 rfl<|(by have wi:Sat W _ ([(a0, .cells #[.slice t nt kt,I a1] 72 (0,0))]::[(b0, .cells (encCfg c).toArray 24 (0,0))]::M0::N0::([]:Chunk)::([]:Chunk)::H::F):=Sat.perm (show Sat W _ ([(a0, .cells #[.slice t nt kt,I a1] 72 (0,0))]::[(b0, .cells (encCfg c).toArray 24 (0,0))]::M0::N0::H::F) from t5) (by simp);exact ⟨(a1,0,F0,M0,N0,[],none,0,0,([]:Chunk),none,0,0,([]:Chunk)),alB,wi,om,H0,G0,(A0.mono om om om),O0,K0,OwnT.nil fR,OwnT.nil fR⟩)) fun ui=>jCO 4 rfl ?_
 have xi:=(t5.pick 2 rfl)
 refine cZ (pf_cancel H0 A0.i vj xi.flat1) ?_
 rintro _ _ ⟨yi,zi,aj,bj,cj,rfl,l2,dj,ej⟩
 have fj:=ej.unflat2;have T1:=l2.ll
 have gj:=FJ.cancel (x:=vj) A0 om
 have S0:=O0.cancel (x:=vj) A0 om;have hj:(cancelF F0 vj).1.cfg=c:=cancel_same.1.trans K0
 refine jOO 10 rfl ?_
 have ij:=(fj.pick 4 rfl)
 refine cZ (f_cancel G0 A0.i.fw A0.i.st vj ij.flat1) ?_
 rintro _ _ ⟨jj,kj,lj,mj,nj,rfl,m2,oj,pj⟩
 have qj:=pj.unflat2;have U1:=m2.ll
 exact jOI 7 rfl<|⟨(a1,((cancelF F0 vj).2.2),(cancelF F0 vj).1,cj,nj,(cancelF F0 vj).2.1,yi,zi,aj,bj,jj,kj,lj,mj),alB,(qj.picks [2,2,3,5,5]),om,dj,oj,(gj.mono om om om),S0,hj,l2,m2⟩
end Go.Proofs.YtkadmghedmodbaaGreat
