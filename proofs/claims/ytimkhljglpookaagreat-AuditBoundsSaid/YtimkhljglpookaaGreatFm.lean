import Derived.Test.YtimkhljglpookaaGreatIq
import Derived.Test.YtimkhljglpookaaGreatTri
namespace Go.Proofs.YtimkhljglpookaaGreat
open Go Go.E
set_option linter.unusedVariables false
set_option linter.unusedSimpArgs false
set_option linter.unnecessarySimpa false
set_option maxRecDepth 100000
set_option maxHeartbeats 2000000
variable {W w : World} {H : Chunk} {F : List Chunk}
structure Wkr where
  phase : Int
  heldJob : Int
  heldTask : Int
  attempt : Int
  row : Int
  used : Int
  high : Int
  deriving DecidableEq
def encWkr (x : Wkr) : List Value := [.int .i64 x.phase, .int .i64 x.heldJob, .int .i64 x.heldTask, .int .i64 x.attempt, .int .i64 x.row, .int .i64 x.used, .int .i64 x.high]
structure Cfg where
  workers : Int
  tileW : Int
  tileH : Int
  arena : Int
  deque : Int
  tasks : Int
  cells : Int
  jobs : Int
  deriving DecidableEq
def encCfg (x : Cfg) : List Value := [.int .i64 x.workers, .int .i64 x.tileW, .int .i64 x.tileH, .int .i64 x.arena, .int .i64 x.deque, .int .i64 x.tasks, .int .i64 x.cells, .int .i64 x.jobs]
structure Stt where
  starts : Int
  commits : Int
  drops : Int
  crashes : Int
  steals : Int
  helps : Int
  spills : Int
  queued : Int
  held : Int
  cells : Int
  deriving DecidableEq
def encStt (x : Stt) : List Value := [.int .i64 x.starts, .int .i64 x.commits, .int .i64 x.drops, .int .i64 x.crashes, .int .i64 x.steals, .int .i64 x.helps, .int .i64 x.spills, .int .i64 x.queued, .int .i64 x.held, .int .i64 x.cells]
structure Evt where
  kind : Int
  worker : Int
  from_ : Int
  job : Int
  refJob : Int
  refTask : Int
  err : Int
  deriving DecidableEq
def encEvt (x : Evt) : List Value := [.int .i64 x.kind, .int .i64 x.worker, .int .i64 x.from_, .int .i64 x.job, .int .i64 x.refJob, .int .i64 x.refTask, .int .i64 x.err]
structure FJob where
  added : Bool
  running : Bool
  band : Int
  tasks : Sl Task
  board : Option Addr
def encFJob (x : FJob) : List Value := [.bool x.added, .bool x.running, .int .i64 x.band, .slice x.tasks.a x.tasks.n x.tasks.k, .pointer x.board]
structure FJobV where
  added : Bool
  running : Bool
  band : Int
  tasks : List TaskV
  board : Option Addr
  deriving DecidableEq
def FJob.v (x : FJob) : FJobV := ⟨x.added, x.running, x.band, x.tasks.l.map Task.v, x.board⟩
structure FJob.Ok (cs : List Chunk) (q : FJob) : Prop where
  tasks : RdT encTask 9 cs q.tasks.a q.tasks.n q.tasks.k q.tasks.l
  tasksD : ∀ z ∈ q.tasks.l, Task.Ok cs z
theorem FJob.Ok.of_mem {cs cs' : List Chunk} {x : FJob} (h : FJob.Ok cs x) (hm : ∀ p ∈ cs.flatten, p ∈ cs'.flatten) : FJob.Ok cs' x := ⟨h.tasks.of_mem hm, fun y hy => (h.tasksD y hy).of_mem hm⟩

/-! ### the reference's farm: its state and its memory -/
def encP (x : Nat) : List Value := [.pointer (some ⟨x, 0, none⟩)]
structure JS where
  added : Bool
  running : Bool
  band : Int
  tasks : List TaskV
  B : BS
def JS.zero : JS := ⟨false, false, 0, [], ⟨[], [], []⟩⟩
instance : Inhabited JS := ⟨JS.zero⟩
instance : Inhabited AS := ⟨⟨0, 0, 0, []⟩⟩
instance : Inhabited DS := ⟨⟨0, []⟩⟩
instance : Inhabited Wkr := ⟨⟨0, 0, 0, 0, 0, 0, 0⟩⟩
structure FS where
  cfg : Cfg
  ws : List Wkr
  ar : List AS
  dq : List DS
  q : QS
  jobs : List JS
  st : Stt
def JobM (x : FJob) (s : JS) (c : Chunk) : Prop :=
  (s = JS.zero ∧ x = ⟨false, false, 0, ⟨none, 0, 0, []⟩, none⟩ ∧ c = []) ∨
  (s.added = true ∧ ∃ (ta : Option Addr) (tn tk : Nat) (tl : List Task) (b : Nat) (T M : Chunk), x = ⟨true, s.running, s.band, ⟨ta, tn, tk, tl⟩, some ⟨b, 0, none⟩⟩ ∧ c = T ++ M ∧ RdT encTask 9 [T] ta tn tk tl ∧ (∀ z ∈ tl, Task.Ok [T] z) ∧ tl.map Task.v = s.tasks ∧ RefR b s.B M)
theorem JobM.open {x : FJob} {s : JS} {c : Chunk} (h : JobM x s c) (ha : s.added = true) : ∃ (ta : Option Addr) (tn tk : Nat) (tl : List Task) (b : Nat) (T M : Chunk), x = ⟨true, s.running, s.band, ⟨ta, tn, tk, tl⟩, some ⟨b, 0, none⟩⟩ ∧ c = T ++ M ∧ RdT encTask 9 [T] ta tn tk tl ∧ (∀ z ∈ tl, Task.Ok [T] z) ∧ tl.map Task.v = s.tasks ∧ RefR b s.B M := by
  rcases h with ⟨rfl, _⟩ | h
  · cases ha
  · exact h.2
theorem JobM.mk {s : JS} {ta : Option Addr} {tn tk : Nat} {tl : List Task} {b : Nat} {T M : Chunk} (ha : s.added = true) (hT : RdT encTask 9 [T] ta tn tk tl) (hD : ∀ z ∈ tl, Task.Ok [T] z) (hV : tl.map Task.v = s.tasks) (hB : RefR b s.B M) : JobM ⟨true, s.running, s.band, ⟨ta, tn, tk, tl⟩, some ⟨b, 0, none⟩⟩ s (T ++ M) :=
  .inr ⟨ha, _, _, _, _, _, _, _, rfl, rfl, hT, hD, hV, hB⟩
def preF (c : Cfg) (wa : Option Addr) (wn wk : Nat) (aa : Option Addr) (an ak : Nat) (da : Option Addr) (dn dk : Nat) (q : Nat) : List Value := [.int .i64 c.workers, .int .i64 c.tileW, .int .i64 c.tileH, .int .i64 c.arena, .int .i64 c.deque, .int .i64 c.tasks, .int .i64 c.cells, .int .i64 c.jobs, .slice wa wn wk, .slice aa an ak, .slice da dn dk, .pointer (some ⟨q, 0, none⟩)]
/-- The farm's memory as one piece. -/
def FarmR (p : Nat) (F : FS) (M : Chunk) : Prop := ∃ (wa aa da : Option Addr) (wn wk an ak dn dk q : Nat) (xs : List FJob) (ap dp : List Nat) (Wc Ac Dc Qc : Chunk) (acs dcs jcs : List Chunk),
  M = Tri p 86 (preF F.cfg wa wn wk aa an ak da dn dk q) (xs.flatMap encFJob) (encStt F.st) ++ (Wc ++ (Ac ++ (Dc ++ (acs.flatten ++ (dcs.flatten ++ (Qc ++ jcs.flatten)))))) ∧
  OwnT encWkr 101 7 wa wn wk F.ws Wc ∧ OwnT encP 87 1 aa an ak ap Ac ∧ OwnT encP 90 1 da dn dk dp Dc ∧ Obs ArR ap F.ar acs ∧ Obs DqR dp F.dq dcs ∧ InjR q F.q Qc ∧ Obs JobM xs F.jobs jcs ∧ xs.length = 64
def jobAt (F : FS) (i : Int) : JS := F.jobs.getD i.toNat default
def idleF (F : FS) (x ph : Int) : FS := { F with ws := F.ws.set x.toNat ⟨ph, 0, 0, 0, 0, 0, (F.ar.getD x.toNat default).high⟩ }
def takeF (F : FS) (x : Int) (r : Ref) : FS :=
  { F with ws := F.ws.set x.toNat ⟨1, r.job, r.task, (startB (jobAt F r.job).B r.task).2.1, 0, 0, (F.ar.getD x.toNat default).high⟩, jobs := F.jobs.set r.job.toNat { jobAt F r.job with B := (startB (jobAt F r.job).B r.task).1 }, st := { F.st with starts := F.st.starts + 1 } }
def loadL (l : List JS) : Int := (((l.filter (·.running)).map (·.tasks.length)).sum : Nat)
theorem loadL_take {l : List JS} {i : Nat} {s : JS} (h : l[i]? = some s) : loadL (l.take (i + 1)) = loadL (l.take i) + if s.running then ((s.tasks.length : Nat) : Int) else 0 := by
  unfold loadL
  rw [take_succ_at h, List.filter_append, List.map_append, List.sum_append]
  cases hr : s.running <;> simp [hr]
theorem JobM.fields {x : FJob} {s : JS} {c : Chunk} (h : JobM x s c) : x.added = s.added ∧ x.running = s.running ∧ x.band = s.band ∧ x.tasks.n = s.tasks.length := by
  rcases h with ⟨rfl, rfl, _⟩ | ⟨ha, ta, tn, tk, tl, b, T, M, rfl, _, hT, _, hV, _⟩
  · exact ⟨rfl, rfl, rfl, rfl⟩
  · refine ⟨ha.symm, rfl, rfl, ?_⟩
    have h1 := congrArg List.length hV
    rw [List.length_map] at h1
    rw [← h1]; exact hT.len.symm
def choiceI (n c i : Int) : Int := ((if c.tmod n < 0 then c.tmod n + n else c.tmod n) + i).tmod n
theorem choice_bd {n c i : Int} (hn : 0 < n) (hi : 0 ≤ i) : 0 ≤ choiceI n c i ∧ choiceI n c i < n := by
  unfold choiceI
  have h1 : -n < c.tmod n := Int.lt_tmod_of_pos _ hn
  have h2 : c.tmod n < n := Int.tmod_lt_of_pos _ hn
  split
  · exact ⟨Int.tmod_nonneg _ (by omega), Int.tmod_lt_of_pos _ hn⟩
  · exact ⟨Int.tmod_nonneg _ (by omega), Int.tmod_lt_of_pos _ hn⟩
theorem f_idle {p q : Nat} {c : Cfg} {wa aa da : Option Addr} {wn wk an ak dn dk : Nat} {mid post : List Value} {ws : List Wkr} {ap : List Nat} {ar : List AS} {Wc Ac : Chunk} {acs F0 : List Chunk} (hOw : OwnT encWkr 101 7 wa wn wk ws Wc) (hOa : OwnT encP 87 1 aa an ak ap Ac) (hAs : Obs ArR ap ar acs) (x ph : Int) (hx : 0 ≤ x ∧ x < ws.length) (hal_ : ar.length = ws.length) (hS : Sat W w ((Tri p 86 (preF c wa wn wk aa an ak da dn dk q) mid post) :: Wc :: Ac :: acs.flatten :: F0)) :
    Calls Tryz.prog 46 #[.pointer (some ⟨p, 0, none⟩), .int .i64 x, .int .i64 ph] w fun e w' => ∃ Wc' : Chunk, e = .returned (.tuple #[]) ∧ OwnT encWkr 101 7 wa wn wk (ws.set x.toNat ⟨ph, 0, 0, 0, 0, 0, (ar.getD x.toNat default).high⟩) Wc' ∧ Sat W w' ((Tri p 86 (preF c wa wn wk aa an ak da dn dk q) mid post) :: Wc' :: Ac :: acs.flatten :: F0) := by
  have hwl := hOw.len; have hwk := hOw.le; have hal := hOa.len; have hak := hOa.le; have has1 := hAs.1
  refine callsA 22 Tryz.func46 rfl ?_
  obtain ⟨x_1, b_2, o_3, hx_4, hp_5, hq_6, ha_7⟩ := OwnT.elem hOa x
  obtain ⟨x_8, b_9, o_10, hx_11, hp_12, hq_13, ha_14⟩ := OwnT.elem hOw x
  refine drawE [13, 16] [(3, ⟨p, 8, none⟩, .slice wa wn wk), (9, ⟨p, 9, none⟩, .slice aa an ak), (12, ⟨b_2, o_3 + (x).toNat * 1, none⟩, .pointer (some ⟨x_1, 0, none⟩))] [(true, [0, 1, 2, 4, 5, 6, 7, 8, 10]), (true, [3]), (true, [9]), (true, [11]), (true, [12]), (false, [13]), (true, [14]), (true, [15]), (false, [16])] rfl (by kernel_rfl) ⟨.inr (cell_up hS 0 rfl (k := 8) tri_pre rfl), .inr (cell_up hS 0 rfl (k := 9) tri_pre rfl), .inr ((hp_5.up 2 rfl).cell hS (k := 0) rfl), trivial⟩ ?_
  have hS_15 := hS.drew
  refine wU [0, 1, 2, 4, 5, 6, 7, 8, 10] ?_
  refine wLd (.slice wa wn wk) 0 Tryz.isAgg77 ?_
  refine wLd (.slice aa an ak) 1 Tryz.isAgg78 ?_
  refine wY (.pointer (some ⟨b_2, o_3 + (x).toNat * 1, none⟩)) rfl (fun w _ => Y_idx (a := aa) (i := x) (len := an) (cap := ak) rfl Tryz.runUnderlying78 Tryz.sizeOf87 (by kernel_rfl) (by kernel_rfl) hq_6) ?_
  refine wLd (.pointer (some ⟨x_1, 0, none⟩)) 2 Tryz.isAgg87 ?_
  refine wO rfl ?_
  obtain ⟨s_16, c_17, hs_18, hc_19, hR_20⟩ := Obs.get hAs hx_4
  have hS_22 := (hS_15.pick 3 rfl)
  have hS_21 := Sat.openN (A := []) x.toNat hc_19 hS_22
  refine cX Tryz.call69 (ar_high hR_20  (Sat.flat1 hS_21)) ?_
  rintro _ w_23 ⟨rfl, hS_24⟩
  have hS_25 := Sat.unflat1 hS_24
  have hS_26 := ((hS_25.pick 1 rfl).pick 1 rfl)
  have hS_27 := Sat.shutN (d := c_17) (A := []) x.toNat hc_19 hS_26
  rw [set_same hc_19] at hS_27
  refine nilO ⟨⟨.inr (cell_up hS_27 1 rfl (k := 8) tri_pre rfl), .inr (cell_up hS_27 1 rfl (k := 9) tri_pre rfl), .inl (by kernel_rfl), trivial⟩, ?_⟩
  refine wU [14] ?_
  refine wY (.pointer (some ⟨b_9, o_10 + (x).toNat * 7, none⟩)) rfl (fun w _ => Y_idx (a := wa) (i := x) (len := wn) (cap := wk) rfl Tryz.runUnderlying77 Tryz.sizeOf101 (by kernel_rfl) (by kernel_rfl) hq_13) ?_
  refine wO rfl ?_
  refine sStF hS_27 hOw ha_14 2 (x).toNat 0 x_8 (⟨ph, 0, 0, 0, 0, 0, (s_16).high⟩ : Wkr) hx_11 (.agg #[.int .i64 ph, .int .i64 0, .int .i64 0, .int .i64 0, .int .i64 0, .int .i64 0, .int .i64 ((s_16).high)]) [.int .i64 ph, .int .i64 0, .int .i64 0, .int .i64 0, .int .i64 0, .int .i64 0, .int .i64 ((s_16).high)] Tryz.sizeOf101 ?_
  intro w_28 c_30 hO_31 hS_29
  refine nilO ⟨⟨.inl (by kernel_rfl), .inl (by kernel_rfl), .inl (by kernel_rfl), trivial⟩, ?_⟩
  refine wN ?_
  refine ret0n rfl <| ?_
  have hS_32 := (((hS_29.pick 3 rfl).pick 3 rfl).pick 3 rfl)
  exact ⟨_, rfl, by rw [getD_some hs_18]; exact hO_31, hS_32⟩
theorem f_take {p : Nat} {F : FS} {M : Chunk} {F0 : List Chunk} (hR : FarmR p F M) {j : JS} {K : Int} (x : Int) (r : Ref) (hx : 0 ≤ x ∧ x < F.ws.length) (hal_ : F.ar.length = F.ws.length) (hr : 0 ≤ r.job ∧ r.job < 64) (hj : F.jobs[r.job.toNat]? = some j) (ha : j.added = true) (hBW : BWf j.B K) (hst : 0 ≤ F.st.starts ∧ F.st.starts < 4611686018427387904) (hS : Sat W w (M :: H :: F0)) :
    Calls Tryz.prog 78 #[.pointer (some ⟨p, 0, none⟩), .int .i64 x, .agg #[.int .i64 r.job, .int .i64 r.task]] w fun e w' => ∃ M' : Chunk, e = .returned (.tuple #[]) ∧ FarmR p (takeF F x r) M' ∧ Sat W w' (M' :: H :: F0) := by
  obtain ⟨wa, aa, da, wn, wk, an, ak, dn, dk, q, xs, ap, dp, Wc, Ac, Dc, Qc, acs, dcs, jcs, rfl, hOw, hOa, hOd, hAs, hDs, hQ, hJs, hxl⟩ := hR
  have hS : Sat W _ ((Tri p 86 (preF F.cfg wa wn wk aa an ak da dn dk q) (xs.flatMap encFJob) (encStt F.st)) :: Wc :: Ac :: Dc :: acs.flatten :: dcs.flatten :: Qc :: jcs.flatten :: H :: F0) := Sat.perm hS (by simp)
  have hwl := hOw.len; have hwk := hOw.le; have hal := hOa.len; have hak := hOa.le; have hdl := hOd.len; have hdk := hOd.le; have has1 := hAs.1; have hds1 := hDs.1; have hjs1 := hJs.1
  obtain ⟨x_1, hx_2⟩ := at_some hxl (k := (r.job.toNat)) (by omega)
  obtain ⟨s_3, c_4, hs_5, hc_6, hJ_7⟩ := Obs.get hJs hx_2
  obtain rfl : s_3 = j := Option.some.inj (hs_5.symm.trans hj)
  obtain ⟨ta_7, tn_7, tk_7, tl_7, b_7, T_7, Mb_7, rfl, rfl, hT_7, hD_7, hV_7, hB_7⟩ := hJ_7.open ha
  have hS_8 := (hS.pick 7 rfl)
  have hS_9 := Sat.openN (A := []) (r.job.toNat) hc_6 hS_8
  have hS_10 : Sat W _ (T_7 :: Mb_7 :: (jcs.eraseIdx (r.job.toNat)).flatten :: (Tri p 86 (preF F.cfg wa wn wk aa an ak da dn dk q) (xs.flatMap encFJob) (encStt F.st)) :: Wc :: Ac :: Dc :: acs.flatten :: dcs.flatten :: Qc :: H :: F0) := Sat.perm hS_9 (by simp)
  have hn_ta_7 := hT_7.len; have hl_ta_7 := hT_7.le; have hm_ta_7 := congrArg List.length hV_7; rw [List.length_map] at hm_ta_7
  refine callsA 48 Tryz.func78 rfl ?_
  refine seqE <| regionE ?_
  refine sBox hS_10 (.agg #[.int .i64 r.job, .int .i64 r.task]) #[.int .i64 r.job, .int .i64 r.task] ?_
  intro b_11 w_12 hS_13
  refine nilO <| thenK_n <| seqE ?_
  refine drawE [10] [(2, ⟨b_11, 0, none⟩, .int .i64 r.job), (7, ⟨p, 12 + (r.job.toNat) * 5 + 4, none⟩, .pointer (some ⟨b_7, 0, none⟩)), (9, ⟨b_11, 1, none⟩, .int .i64 r.task)] [(true, [0, 1, 3, 4, 8]), (true, [2]), (true, [5]), (true, [6]), (true, [7]), (true, [9]), (false, [10]), (true, [11]), (true, [12]), (true, [13]), (true, [14, 15])] rfl (by kernel_rfl) ⟨.inr (hS_13.cell 0 rfl rfl), .inr (cell_up hS_13 4 rfl (k := 4) (tri_el (sz := 5) (n0 := 12) (fun _ => rfl) hx_2) rfl), .inr (hS_13.cell 0 rfl rfl), trivial⟩ ?_
  have hS_14 := hS_13.drew
  refine wU [0, 1, 3, 4, 8] ?_
  refine wLd (.int .i64 r.job) 0 Tryz.isAgg3 ?_
  refine wY (.pointer (some ⟨p, 12 + (r.job.toNat) * 5, none⟩)) rfl (fun w _ => Y_idxA (b := p) (off := 12) r.job (r.job.toNat) Tryz.runUnderlying84 Tryz.sizeOf83) ?_
  refine wU [6] ?_
  refine wLd (.pointer (some ⟨b_7, 0, none⟩)) 1 Tryz.isAgg81 ?_
  refine wLd (.int .i64 r.task) 2 Tryz.isAgg3 ?_
  refine wO rfl ?_
  have hS_15 := (hS_14.pick 2 rfl)
  refine cX Tryz.call102 (r_start hB_7 hBW r.task (Sat.flat1 hS_15)) ?_
  rintro _ w_16 ⟨M_19, rfl, hB_20, hS_17⟩
  have hS_18 := Sat.unflat1 hS_17
  refine nilO ⟨⟨.inr (hS_18.cell 1 rfl rfl), .inl (by kernel_rfl), .inl (by kernel_rfl), trivial⟩, ?_⟩
  refine wU [11] <| wU [12] <| wU [13] <| wU [14, 15] ?_
  refine wN ?_
  refine thenK_n <| seqE ?_
  obtain ⟨x_21, b_22, o_23, hx_24, hp_25, hq_26, ha_27⟩ := OwnT.elem hOa x
  obtain ⟨x_28, b_29, o_30, hx_31, hp_32, hq_33, ha_34⟩ := OwnT.elem hOw x
  refine drawE [14, 17] [(3, ⟨p, 8, none⟩, .slice wa wn wk), (5, ⟨b_11, 0, none⟩, .int .i64 r.job), (5, ⟨b_11, 1, none⟩, .int .i64 r.task), (10, ⟨p, 9, none⟩, .slice aa an ak), (13, ⟨b_22, o_23 + (x).toNat * 1, none⟩, .pointer (some ⟨x_21, 0, none⟩))] [(true, [0, 1, 2, 4, 6, 7, 8, 9, 11]), (true, [3]), (true, [5]), (true, [10]), (true, [12]), (true, [13]), (false, [14]), (true, [15]), (true, [16]), (false, [17])] rfl (by kernel_rfl) ⟨.inr (cell_up hS_18 4 rfl (k := 8) tri_pre rfl), .inr (hS_18.cell 1 rfl rfl), .inr (hS_18.cell 1 rfl rfl), .inr (cell_up hS_18 4 rfl (k := 9) tri_pre rfl), .inr ((hp_25.up 6 rfl).cell hS_18 (k := 0) rfl), trivial⟩ ?_
  have hS_35 := hS_18.drew
  refine wU [0, 1, 2, 4, 6, 7, 8, 9, 11] ?_
  refine wLd (.slice wa wn wk) 0 Tryz.isAgg77 ?_
  refine wY (.agg #[.int .i64 r.job, .int .i64 r.task]) rfl (fun w hF => Y_loadF rfl (Tryz.isAgg40 w) (Tryz.sizeOf40 w) (by kernel_rfl) rfl ⟨hF 1 _ _ rfl, hF 2 _ _ rfl, trivial⟩) ?_
  refine wLd (.slice aa an ak) 3 Tryz.isAgg78 ?_
  refine wY (.pointer (some ⟨b_22, o_23 + (x).toNat * 1, none⟩)) rfl (fun w _ => Y_idx (a := aa) (i := x) (len := an) (cap := ak) rfl Tryz.runUnderlying78 Tryz.sizeOf87 (by kernel_rfl) (by kernel_rfl) hq_26) ?_
  refine wLd (.pointer (some ⟨x_21, 0, none⟩)) 4 Tryz.isAgg87 ?_
  refine wO rfl ?_
  obtain ⟨s_36, c_37, hs_38, hc_39, hR_40⟩ := Obs.get hAs hx_24
  have hS_42 := (hS_35.pick 8 rfl)
  have hS_41 := Sat.openN (A := []) x.toNat hc_39 hS_42
  refine cX Tryz.call69 (ar_high hR_40  (Sat.flat1 hS_41)) ?_
  rintro _ w_43 ⟨rfl, hS_44⟩
  have hS_45 := Sat.unflat1 hS_44
  have hS_46 := ((hS_45.pick 1 rfl).pick 1 rfl)
  have hS_47 := Sat.shutN (d := c_37) (A := []) x.toNat hc_39 hS_46
  rw [set_same hc_39] at hS_47
  refine nilO ⟨⟨.inr (cell_up hS_47 5 rfl (k := 8) tri_pre rfl), .inr (hS_47.cell 2 rfl rfl), .inr (hS_47.cell 2 rfl rfl), .inr (cell_up hS_47 5 rfl (k := 9) tri_pre rfl), .inl (by kernel_rfl), trivial⟩, ?_⟩
  refine wU [15] ?_
  refine wY (.pointer (some ⟨b_29, o_30 + (x).toNat * 7, none⟩)) rfl (fun w _ => Y_idx (a := wa) (i := x) (len := wn) (cap := wk) rfl Tryz.runUnderlying77 Tryz.sizeOf101 (by kernel_rfl) (by kernel_rfl) hq_33) ?_
  refine wO rfl ?_
  refine sStF hS_47 hOw ha_34 6 (x).toNat 0 x_28 (⟨1, r.job, r.task, (startB s_3.B r.task).2.1, 0, 0, (s_36).high⟩ : Wkr) hx_31 (.agg #[.int .i64 1, .int .i64 r.job, .int .i64 r.task, .int .i64 ((startB s_3.B r.task).2.1), .int .i64 0, .int .i64 0, .int .i64 ((s_36).high)]) [.int .i64 1, .int .i64 r.job, .int .i64 r.task, .int .i64 ((startB s_3.B r.task).2.1), .int .i64 0, .int .i64 0, .int .i64 ((s_36).high)] Tryz.sizeOf101 ?_
  intro w_48 c_50 hO_51 hS_49
  refine nilO ⟨⟨.inl (by kernel_rfl), .inl (by kernel_rfl), .inl (by kernel_rfl), .inl (by kernel_rfl), .inl (by kernel_rfl), trivial⟩, ?_⟩
  refine wN ?_
  refine thenK_n <| regionE <| pu4 ?_
  refine sLp hS_49 (ptr_up 5 rfl (tri_post (k := 332) (tri_len (sz := 5) (m := 12) (fun _ => rfl) hxl))) 0 (.int .i64 F.st.starts) (Tryz.isAgg3 _) ?_
  refine sAdd F.st.starts 1 ?_
  refine pu3 ?_
  refine sTpost hS_49 5 332 0 rfl (.int .i64 (F.st.starts + 1)) [.int .i64 (F.st.starts + 1)] [.int .i64 (F.st.starts + 1), .int .i64 F.st.commits, .int .i64 F.st.drops, .int .i64 F.st.crashes, .int .i64 F.st.steals, .int .i64 F.st.helps, .int .i64 F.st.spills, .int .i64 F.st.queued, .int .i64 F.st.held, .int .i64 F.st.cells] (tri_len (sz := 5) (m := 12) (fun _ => rfl) hxl) Tryz.sizeOf3 ?_
  intro w_52 hS_53
  refine nilO ?_
  refine ret0n rfl <| ?_
  have hS_54 := (((hS_53.pick 4 rfl).pick 2 rfl).pick 4 rfl)
  have hS_55 : Sat W _ ((T_7 ++ M_19) :: (jcs.eraseIdx (r.job.toNat)).flatten :: acs.flatten :: [(b_11, .cells #[.int .i64 r.job, .int .i64 r.task] 40 (0, 0))] :: (Tri p 86 (preF F.cfg wa wn wk aa an ak da dn dk q) (xs.flatMap encFJob) [.int .i64 (F.st.starts + 1), .int .i64 F.st.commits, .int .i64 F.st.drops, .int .i64 F.st.crashes, .int .i64 F.st.steals, .int .i64 F.st.helps, .int .i64 F.st.spills, .int .i64 F.st.queued, .int .i64 F.st.held, .int .i64 F.st.cells]) :: c_50 :: Ac :: Dc :: dcs.flatten :: Qc :: H :: F0) := Sat.perm (show Sat W _ (T_7 :: M_19 :: (jcs.eraseIdx (r.job.toNat)).flatten :: acs.flatten :: [(b_11, .cells #[.int .i64 r.job, .int .i64 r.task] 40 (0, 0))] :: (Tri p 86 (preF F.cfg wa wn wk aa an ak da dn dk q) (xs.flatMap encFJob) [.int .i64 (F.st.starts + 1), .int .i64 F.st.commits, .int .i64 F.st.drops, .int .i64 F.st.crashes, .int .i64 F.st.steals, .int .i64 F.st.helps, .int .i64 F.st.spills, .int .i64 F.st.queued, .int .i64 F.st.held, .int .i64 F.st.cells]) :: c_50 :: Ac :: Dc :: dcs.flatten :: Qc :: H :: F0) from hS_54) (by simp)
  have hS_56 := Sat.shutN (d := T_7 ++ M_19) (A := []) (r.job.toNat) hc_6 hS_55
  have hL_57 := Obs.set hJs hx_2 (JobM.mk (s := { s_3 with B := (startB s_3.B r.task).1 }) ha hT_7 hD_7 hV_7 hB_20)
  have hS_58 : Sat W _ (c_50 :: Ac :: Dc :: acs.flatten :: dcs.flatten :: Qc :: (jcs.set (r.job.toNat) (T_7 ++ M_19)).flatten :: [(b_11, .cells #[.int .i64 r.job, .int .i64 r.task] 40 (0, 0))] :: (Tri p 86 (preF F.cfg wa wn wk aa an ak da dn dk q) (xs.flatMap encFJob) [.int .i64 (F.st.starts + 1), .int .i64 F.st.commits, .int .i64 F.st.drops, .int .i64 F.st.crashes, .int .i64 F.st.steals, .int .i64 F.st.helps, .int .i64 F.st.spills, .int .i64 F.st.queued, .int .i64 F.st.held, .int .i64 F.st.cells]) :: H :: F0) := ((((((hS_56.pick 8 rfl).pick 8 rfl).pick 3 rfl).pick 8 rfl).pick 8 rfl).pick 8 rfl)
  have hS_59 := ((hS_58.pick 8 rfl).dropAt 8 rfl)
  have hS_60 : Sat W _ (((Tri p 86 (preF F.cfg wa wn wk aa an ak da dn dk q) (xs.flatMap encFJob) [.int .i64 (F.st.starts + 1), .int .i64 F.st.commits, .int .i64 F.st.drops, .int .i64 F.st.crashes, .int .i64 F.st.steals, .int .i64 F.st.helps, .int .i64 F.st.spills, .int .i64 F.st.queued, .int .i64 F.st.held, .int .i64 F.st.cells]) ++ (c_50 ++ (Ac ++ (Dc ++ (acs.flatten ++ (dcs.flatten ++ (Qc ++ (jcs.set (r.job.toNat) (T_7 ++ M_19)).flatten))))))) :: H :: F0) := Sat.perm (show Sat W _ ((Tri p 86 (preF F.cfg wa wn wk aa an ak da dn dk q) (xs.flatMap encFJob) [.int .i64 (F.st.starts + 1), .int .i64 F.st.commits, .int .i64 F.st.drops, .int .i64 F.st.crashes, .int .i64 F.st.steals, .int .i64 F.st.helps, .int .i64 F.st.spills, .int .i64 F.st.queued, .int .i64 F.st.held, .int .i64 F.st.cells]) :: c_50 :: Ac :: Dc :: acs.flatten :: dcs.flatten :: Qc :: (jcs.set (r.job.toNat) (T_7 ++ M_19)).flatten :: H :: F0) from hS_59) (by simp)
  have he : takeF F x r = (⟨F.cfg, (F.ws.set ((x).toNat) (⟨1, r.job, r.task, (startB s_3.B r.task).2.1, 0, 0, (s_36).high⟩ : Wkr)), F.ar, F.dq, F.q, (F.jobs.set (r.job.toNat) ({ s_3 with B := (startB s_3.B r.task).1 })), (⟨(F.st.starts + 1), F.st.commits, F.st.drops, F.st.crashes, F.st.steals, F.st.helps, F.st.spills, F.st.queued, F.st.held, F.st.cells⟩ : Stt)⟩ : FS) := by unfold takeF jobAt; rw [getD_some hs_5, getD_some hs_38]
  exact ⟨_, rfl, by rw [he]; exact ⟨_, _, _, _, _, _, _, _, _, _, _, _, _, _, _, _, _, _, _, _, rfl, hO_51, hOa, hOd, hAs, hDs, hQ, hL_57, hxl⟩, hS_60⟩
theorem f_zero {p q : Nat} {c : Cfg} {wa aa da : Option Addr} {wn wk an ak dn dk : Nat} {mid post : List Value} {F0 : List Chunk} (h0 : 0 < wn ∧ wn ≤ 64) (hS : Sat W w ((Tri p 86 (preF c wa wn wk aa an ak da dn dk q) mid post) :: F0)) :
    Calls Tryz.prog 35 #[.pointer (some ⟨p, 0, none⟩)] w fun e w' => e = .returned (.bool false) ∧ Sat W w' ((Tri p 86 (preF c wa wn wk aa an ak da dn dk q) mid post) :: F0) := by
  refine callsA 13 Tryz.func35 rfl ?_
  refine seqE <| regionE <| pu1 <| nilO <| thenK_n <| seqE <| regionE <| pu6 <| gY ?_
  refine sLp hS (ptr_up 0 rfl tri_pre) 8 (.slice wa wn wk) (Tryz.isAgg77 _) ?_
  refine pu4 <| nilO <| thenK_n <| retE <| retT [.bool ((((wn : Nat) : Int) : Int) == 0)] <| ?_
  exact ⟨congrArg (fun b => Ending.returned (.bool b)) (by simp; omega), hS⟩
theorem f_choice {p q : Nat} {c : Cfg} {wa aa da : Option Addr} {wn wk an ak dn dk : Nat} {mid post : List Value} {F0 : List Chunk} (x i : Int) (n : Nat) (hn : n = wn) (h0 : 0 < wn ∧ wn ≤ 64) (hi : 0 ≤ i ∧ i ≤ 64) (hS : Sat W w ((Tri p 86 (preF c wa wn wk aa an ak da dn dk q) mid post) :: F0)) :
    Calls Tryz.prog 49 #[.pointer (some ⟨p, 0, none⟩), .int .i64 x, .int .i64 i] w fun e w' => e = .returned (.int .i64 (choiceI n x i)) ∧ Sat W w' ((Tri p 86 (preF c wa wn wk aa an ak da dn dk q) mid post) :: F0) := by
  have hq1 : -((wn : Nat) : Int) < x.tmod wn := Int.lt_tmod_of_pos _ (by omega); have hq2 : x.tmod wn < ((wn : Nat) : Int) := Int.tmod_lt_of_pos _ (by omega)
  refine callsA 27 Tryz.func49 rfl ?_
  refine seqE <| regionE <| pu1 <| nilO <| thenK_n <| seqE <| regionE <| pu3 ?_
  refine sLp hS (ptr_up 0 rfl tri_pre) 8 (.slice wa wn wk) (Tryz.isAgg77 _) ?_
  refine pu2 <| nilO <| thenK_n <| seqE <| regionE <| pu2 ?_
  refine sRem x ((wn : Nat) : Int) ?_
  refine pu1 <| nilO <| thenK_n <| seqE <| seqE <| regionE <| pu2 <| nilO <| thenK_n <| ?_
  refine cD ((x.tmod ((wn : Nat) : Int)) < 0) (fun hc_1 => ?_) (fun hc_1 => ?_)
  rotate_left
  · refine skipE <| thenK_n <| seqE <| regionE <| pu2 ?_
    refine sAdd (x.tmod ((wn : Nat) : Int)) i ?_
    refine pu1 ?_
    refine sRem ((x.tmod ((wn : Nat) : Int)) + i) ((wn : Nat) : Int) ?_
    refine pu1 <| nilO <| thenK_n <| retE <| retT [.int .i64 (((x.tmod ((wn : Nat) : Int)) + i).tmod ((wn : Nat) : Int))] <| ?_
    exact ⟨congrArg (fun z => Ending.returned (.int .i64 z)) (by unfold choiceI; rw [hn]; first | rw [if_pos (by omega)] | rw [if_neg (by omega)]), hS⟩
  refine regionE <| pu2 ?_
  refine sAdd (x.tmod ((wn : Nat) : Int)) ((wn : Nat) : Int) ?_
  refine pu1 <| nilO <| thenK_n <| seqE <| regionE <| pu2 ?_
  refine sAdd ((x.tmod ((wn : Nat) : Int)) + ((wn : Nat) : Int)) i ?_
  refine pu1 ?_
  refine sRem (((x.tmod ((wn : Nat) : Int)) + ((wn : Nat) : Int)) + i) ((wn : Nat) : Int) ?_
  refine pu1 <| nilO <| thenK_n <| retE <| retT [.int .i64 ((((x.tmod ((wn : Nat) : Int)) + ((wn : Nat) : Int)) + i).tmod ((wn : Nat) : Int))] <| ?_
  exact ⟨congrArg (fun z => Ending.returned (.int .i64 z)) (by unfold choiceI; rw [hn]; first | rw [if_pos (by omega)] | rw [if_neg (by omega)]), hS⟩
theorem f_load {p q : Nat} {c : Cfg} {wa aa da : Option Addr} {wn wk an ak dn dk : Nat} {post : List Value} {F0 : List Chunk} {xs : List FJob} {jobs : List JS} {jcs : List Chunk} (hJs : Obs JobM xs jobs jcs) (hxl : xs.length = 64) (hjt : ∀ j ∈ jobs, j.tasks.length ≤ 4096) (hS : Sat W w ((Tri p 86 (preF c wa wn wk aa an ak da dn dk q) (xs.flatMap encFJob) post) :: F0)) :
    Calls Tryz.prog 37 #[.pointer (some ⟨p, 0, none⟩)] w fun e w' => e = .returned (.int .i64 (loadL jobs)) ∧ Sat W w' ((Tri p 86 (preF c wa wn wk aa an ak da dn dk q) (xs.flatMap encFJob) post) :: F0) := by
  have hjs1 := hJs.1
  refine callsA 27 Tryz.func37 rfl ?_
  refine seqE <| regionE <| pu1 <| nilO <| thenK_n <| seqE <| regionE <| pu1 <| nilO <| thenK_n <| seqE <| seqE <| regionE <| pu1 <| nilO <| thenK_n <| blockE ?_
  refine loopA (γ := Nat × Int) (fun ⟨i, ln⟩ => [(0, .pointer (some ⟨p, 0, none⟩)), (4, .int .i64 ((i : Nat) : Int)), (3, .int .i64 ln)]) (fun ⟨i, ln⟩ w => Sat W w ((Tri p 86 (preF c wa wn wk aa an ak da dn dk q) (xs.flatMap encFJob) post) :: F0) ∧ i ≤ 64 ∧ (ln = loadL (jobs.take i)) ∧ (0 ≤ ln ∧ ln ≤ 4096 * i)) (fun ⟨i, ln⟩ => 64 - i) (0, 0) ⟨hS, by omega, by simp [loadL], by omega⟩ ?_
  rintro ⟨i, ln⟩ ρ w_1 ⟨hS_2, hi, hln, hlb⟩
  refine seqE <| seqE <| regionE <| pu2 <| nilO <| thenK_n <| ?_
  refine cD (((i : Nat) : Int) < 64) (fun hc_3 => ?_) (fun hc_3 => ?_)
  rotate_left
  · refine exitE <| thenK_x <| thenK_x <| blockK_x <| thenK_n <| seqE <| regionE <| pu2 <| nilO <| thenK_n <| retE <| retT [.int .i64 ln] <| ?_
    exact ⟨congrArg (fun z => Ending.returned (.int .i64 z)) (by rw [hln, List.take_of_length_le (by omega)]), hS_2⟩
  refine skipE <| thenK_n <| seqE <| blockE <| seqE <| regionE <| pu4 ?_
  obtain ⟨x_4, hx_5⟩ := at_some hxl (k := i) (by omega)
  obtain ⟨s_6, cs_6, hss_6, hcs_6, hJs_6⟩ := Obs.get hJs hx_5; obtain ⟨has_6, hrs_6, hbs_6, hns_6⟩ := hJs_6.fields
  have hts_6 := hjt s_6 (List.mem_of_getElem? hss_6); rw [← hns_6] at hts_6
  refine sIdxA (b := p) (off := 12) ((i : Nat) : Int) i Tryz.runUnderlying84 Tryz.sizeOf83 ?_
  refine pu1 ?_
  refine sLp hS_2 (ptr_up 0 rfl (tri_el (sz := 5) (n0 := 12) (fun _ => rfl) hx_5)) 1 (.bool x_4.running) (Tryz.isAgg4 _) ?_
  refine nilO <| thenK_n <| ?_
  refine cB x_4.running (fun hc_7 => ?_) (fun hc_7 => ?_)
  rotate_left
  · refine skipE <| blockK_n <| thenK_n <| regionE <| pu1 ?_
    refine sAdd ((i : Nat) : Int) 1 ?_
    refine pu1 <| nilO <| thenK_n <| ?_
    exact ⟨(i + 1, ln), by first | omega | (dsimp only; omega), alA, hS_2, by omega, (by rw [loadL_take hss_6, ← hln, ← hrs_6, ← hns_6]; simp [hc_7]), by first | omega | (dsimp only; omega)⟩
  refine regionE <| pu5 ?_
  refine sIdxA (b := p) (off := 12) ((i : Nat) : Int) i Tryz.runUnderlying84 Tryz.sizeOf83 ?_
  refine pu1 ?_
  refine sLp hS_2 (ptr_up 0 rfl (tri_el (sz := 5) (n0 := 12) (fun _ => rfl) hx_5)) 3 (.slice x_4.tasks.a x_4.tasks.n x_4.tasks.k) (Tryz.isAgg45 _) ?_
  refine pu1 ?_
  refine sAdd ln ((x_4.tasks.n : Nat) : Int) ?_
  refine pu1 <| nilO <| blockK_n <| thenK_n <| regionE <| pu1 ?_
  refine sAdd ((i : Nat) : Int) 1 ?_
  refine pu1 <| nilO <| thenK_n <| ?_
  exact ⟨(i + 1, (ln + ((x_4.tasks.n : Nat) : Int))), by first | omega | (dsimp only; omega), alA, hS_2, by omega, (by rw [loadL_take hss_6, ← hln, ← hrs_6, ← hns_6]; simp [hc_7]), by first | omega | (dsimp only; omega)⟩
end Go.Proofs.YtimkhljglpookaaGreat
