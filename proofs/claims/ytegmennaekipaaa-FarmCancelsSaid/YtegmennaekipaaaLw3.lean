import Derived.Test.YtegmennaekipaaaLwf
import Derived.Test.YtegmennaekipaaaTks
namespace Go.Proofs.Ytegmennaekipaaa
open Go Go.E
set_option linter.unusedVariables false
set_option linter.unusedSimpArgs false
set_option linter.unnecessarySimpa false
set_option maxRecDepth 100000
set_option maxHeartbeats 2000000
variable {W w : World} {H : Chunk} {F : List Chunk}
/-- The configuration and the number of workers do not change. -/
def Same (F G : FS) : Prop := G.cfg = F.cfg ∧ G.ws.length = F.ws.length
theorem Same.take {F : FS} {x : Int} {r : Ref} : Same F (takeF F x r) := ⟨rfl, by simp [takeF]⟩
theorem Same.trans {F G H : FS} (h : Same F G) (k : Same G H) : Same F H := ⟨k.1.trans h.1, k.2.trans h.2⟩
theorem spill_same {x job band : Int} : ∀ (l : List Int) {F : FS}, Same F (spillF F x job band l)
  | [], _ => ⟨rfl, rfl⟩
  | t :: l, F => by
    have h : Same F (spill1 F x ⟨job, t⟩ band) := by unfold spill1; split <;> exact ⟨rfl, rfl⟩
    exact h.trans (spill_same l)
theorem micro_same {F : FS} {x : Int} : Same F (microF F x).1 := by
  unfold microF
  simp only
  split
  · exact ⟨rfl, by simp⟩
  · split
    · exact ⟨rfl, by simp⟩
    · split <;> exact ⟨(spill_same _).1, (spill_same _).2.trans (by simp)⟩
theorem acq_same {F F' : FS} {x c : Int} {ev : Evt} (he : acqF F x c = some (F', ev)) : Same F F' := by
  unfold acqF at he
  split at he
  · obtain ⟨rfl, _⟩ := Prod.mk.inj (Option.some.inj he); exact Same.take (F := popF F x _)
  · split at he
    · obtain ⟨rfl, _⟩ := Prod.mk.inj (Option.some.inj he); exact ⟨rfl, by simp [takeF]⟩
    · unfold stealF at he
      split at he
      · cases he
      · split at he
        · cases he
        · obtain ⟨rfl, _⟩ := Prod.mk.inj (Option.some.inj he); exact ⟨rfl, by simp [takeF, popF]⟩
theorem step_same {F : FS} {x c : Int} : Same F (stepF F x c).1 := by
  unfold stepF
  split
  · exact ⟨rfl, rfl⟩
  · split
    · exact ⟨rfl, rfl⟩
    · split
      · split
        · exact micro_same
        · exact ⟨rfl, by simp [dropF, clearF]⟩
      · unfold restF
        split
        · rename_i q hq; exact acq_same (ev := q.2) hq
        · split
          · exact Same.trans (G := helpF F) ⟨rfl, rfl⟩ micro_same
          · exact ⟨rfl, rfl⟩
theorem crash_same {F : FS} {x : Int} : Same F (crashF F x).1 := by
  unfold crashF
  split
  · exact ⟨rfl, rfl⟩
  · split
    · exact ⟨rfl, rfl⟩
    · have h : Same F (retJ F (wAt F x)) := by unfold retJ; split <;> exact ⟨rfl, rfl⟩
      exact h.trans ⟨rfl, by simp [crashW, clearF, popF]⟩
theorem restart_same {F : FS} {x : Int} : Same F (restartF F x).1 := by
  unfold restartF
  split
  · exact ⟨rfl, rfl⟩
  · split
    · exact ⟨rfl, by simp [idleF]⟩
    · exact ⟨rfl, rfl⟩
theorem cancel_same {F : FS} {k : Int} : Same F (cancelF F k).1 := by
  unfold cancelF
  split
  · exact ⟨rfl, rfl⟩
  · split <;> exact ⟨rfl, rfl⟩
def totS (S : List (Bool × Nat)) : Nat := (S.map fun q => if q.1 then q.2 else 0).sum
theorem load_le : ∀ {l : List JS}, (∀ j ∈ l, j.running = true → j.added = true) → loadL l ≤ ((totS (shapeF l) : Nat) : Int)
  | [], _ => by simp [loadL, totS, shapeF]
  | j :: l, h => by
    have ih := load_le (l := l) (fun y hy => h y (List.mem_cons_of_mem _ hy))
    have h1 := h j List.mem_cons_self
    simp only [loadL, totS, shapeF, List.map_cons, List.filter_cons, List.sum_cons] at ih ⊢
    cases hr : j.running
    · simp only [Bool.false_eq_true, if_false]; split <;> omega
    · simp only [if_true, h1 hr, List.map_cons, List.sum_cons]; omega
theorem tot_set : ∀ {S : List (Bool × Nat)} {k m n : Nat}, S[k]? = some (false, m) → totS (S.set k (true, n)) = totS S + n
  | [], _, _, _, h => by cases h
  | q :: S, 0, m, n, h => by
    simp only [List.getElem?_cons_zero, Option.some.injEq] at h
    subst h; simp [totS]; omega
  | q :: S, k + 1, m, n, h => by
    have ih := tot_set (S := S) (k := k) (m := m) (n := n) (by simpa using h)
    simp only [totS, List.set_cons_succ, List.map_cons, List.sum_cons] at ih ⊢; omega
/-! ### a farm that is played on: the configuration, the deques' limits, which jobs were added -/
def DI (F : FS) : Prop := ∀ d ∈ F.dq, ((d.l.length : Nat) : Int) ≤ d.cap ∧ d.cap = F.cfg.deque
theorem DI.at {F : FS} {x : Int} (h : DI F) (hx : x.toNat < F.dq.length) : (((dqAt F x).l.length : Nat) : Int) ≤ (dqAt F x).cap ∧ (dqAt F x).cap = F.cfg.deque := by
  have : dqAt F x ∈ F.dq := by unfold dqAt; rw [List.getD_eq_getElem?_getD, List.getElem?_eq_getElem hx]; exact List.getElem_mem hx
  exact h _ this
theorem DI.set {F G : FS} {k : Nat} {d : DS} (h : DI F) (hc : G.cfg = F.cfg) (hd : G.dq = F.dq.set k d) (hk : k < F.dq.length → ((d.l.length : Nat) : Int) ≤ d.cap ∧ d.cap = F.cfg.deque) : DI G := by
  intro e he
  rw [hd] at he; rw [hc]
  by_cases hl : k < F.dq.length
  · rcases List.mem_or_eq_of_mem_set he with h1 | rfl
    · exact h e h1
    · exact hk hl
  · rw [List.set_eq_of_length_le (by omega)] at he; exact h e he
theorem DI.keep {F G : FS} (h : DI F) (hc : G.cfg = F.cfg) (hd : G.dq = F.dq) : DI G := by unfold DI; rw [hd, hc]; exact h
theorem DI.pop {F : FS} {x : Int} {l : List Ref} (h : DI F) (hl : l.length ≤ (dqAt F x).l.length) : DI (popF F x l) := h.set rfl rfl fun k => by
  have := h.at k
  exact ⟨by show ((l.length : Nat) : Int) ≤ _; have := this.1; show ((l.length : Nat) : Int) ≤ (dqAt F x).cap; omega, this.2⟩
theorem DI.spill1 {F : FS} {x : Int} {r : Ref} {b : Int} (h : DI F) : DI (spill1 F x r b) := by
  unfold Go.Proofs.Ytegmennaekipaaa.spill1
  split
  · rename_i hp
    refine h.set rfl rfl fun k => ?_
    have h1 := h.at k
    have e : F.dq.getD x.toNat default = dqAt F x := rfl
    rw [e] at hp ⊢
    unfold pushD; rw [if_pos hp]
    unfold pushC at hp
    split at hp
    · cases hp
    · exact ⟨by simp only [List.length_append, List.length_singleton]; omega, h1.2⟩
  · exact h.keep rfl rfl
theorem DI.spill {x job band : Int} : ∀ (l : List Int) {F : FS}, DI F → DI (spillF F x job band l)
  | [], _, h => h
  | t :: l, F, h => DI.spill l (F := Go.Proofs.Ytegmennaekipaaa.spill1 F x ⟨job, t⟩ band) h.spill1
theorem DI.micro {F : FS} {x : Int} (h : DI F) : DI (microF F x).1 := by
  unfold microF
  simp only
  split
  · exact h.keep rfl rfl
  · split
    · exact h.keep rfl rfl
    · split
      · refine DI.spill _ ?_; exact h.keep rfl rfl
      · refine DI.spill _ ?_; exact h.keep rfl rfl
theorem DI.take {F : FS} {x : Int} {r : Ref} (h : DI F) : DI (takeF F x r) := h.keep rfl rfl
theorem DI.acq {F F' : FS} {x c : Int} {ev : Evt} (h : DI F) (he : acqF F x c = some (F', ev)) : DI F' := by
  unfold acqF at he
  split at he
  · obtain ⟨rfl, _⟩ := Prod.mk.inj (Option.some.inj he); exact (h.pop (by simp)).take
  · split at he
    · obtain ⟨rfl, _⟩ := Prod.mk.inj (Option.some.inj he); exact DI.take (h.keep rfl rfl)
    · unfold stealF at he
      split at he
      · cases he
      · split at he
        · cases he
        · obtain ⟨rfl, _⟩ := Prod.mk.inj (Option.some.inj he); exact DI.keep (F := popF F (chF F c _) (dqAt F (chF F c _)).l.tail) (h.pop (by simp)) rfl rfl
theorem DI.step {F : FS} {x c : Int} (h : DI F) : DI (stepF F x c).1 := by
  unfold stepF
  split
  · exact h
  · split
    · exact h
    · split
      · split
        · exact h.micro
        · exact h.keep rfl rfl
      · unfold restF
        split
        · rename_i q hq; exact h.acq (ev := q.2) hq
        · split
          · exact DI.micro (h.keep rfl rfl)
          · exact h
theorem DI.crash {F : FS} {x : Int} (h : DI F) : DI (crashF F x).1 := by
  unfold crashF
  split
  · exact h
  · split
    · exact h
    · have h1 : DI (retJ F (wAt F x)) := by unfold retJ; split <;> exact h.keep rfl rfl
      exact DI.keep (F := popF (retJ F (wAt F x)) x []) (h1.pop (Nat.zero_le _)) rfl rfl
theorem DI.restart {F : FS} {x : Int} (h : DI F) : DI (restartF F x).1 := by
  unfold restartF
  split
  · exact h
  · split
    · exact h.keep rfl rfl
    · exact h
theorem DI.cancel {F : FS} {k : Int} (h : DI F) : DI (cancelF F k).1 := by
  unfold cancelF
  split
  · exact h
  · split
    · exact h
    · intro d hd
      obtain ⟨e, he, rfl⟩ := List.mem_map.1 (show d ∈ F.dq.map (rmD k) from hd)
      have h1 := h e he
      exact ⟨by have := without_len k e.l; show ((_ : Nat) : Int) ≤ e.cap; have := h1.1; simp only [rmD]; omega, h1.2⟩
/-- After K calls on a farm of this configuration, with n jobs. -/
structure PJ (c : Cfg) (F : FS) (K : Int) (n : Nat) : Prop where
  j : FJ F K n
  cf : F.cfg = c
  ws : F.ws.length = c.workers.toNat
  dq : DI F
  s1 : ∀ k, n ≤ k → k < 64 → ∃ m, (shapeF F.jobs)[k]? = some (false, m)
  s0 : ∀ k, k < n → ∃ m, (shapeF F.jobs)[k]? = some (true, m)
  s2 : totS (shapeF F.jobs) ≤ 8 * n
theorem PJ.op {c : Cfg} {F G : FS} {K L : Int} {n : Nat} (h : PJ c F K n) (hj : FJ G L n) (hs : Same F G) (hd : DI G) (e : shapeF G.jobs = shapeF F.jobs) : PJ c G L n :=
  ⟨hj, hs.1.trans h.cf, hs.2.trans h.ws, hd, by rw [e]; exact h.s1, by rw [e]; exact h.s0, by rw [e]; exact h.s2⟩
theorem PJ.mono {c : Cfg} {F : FS} {K L : Int} {n : Nat} (h : PJ c F K n) (hk : K ≤ L) (hL : L ≤ 4096) : PJ c F L n := ⟨h.j.mono hk hL (Nat.le_refl _), h.cf, h.ws, h.dq, h.s1, h.s0, h.s2⟩
theorem PJ.step {c : Cfg} {F : FS} {K : Int} {n : Nat} (x y : Int) (h : PJ c F K n) (hK : K + 1 ≤ 4096) : PJ c (stepF F x y).1 (K + 1) n := h.op (h.j.step hK) step_same h.dq.step (step_ok h.j.i.fw h.j.i.st hK).2.2
theorem PJ.crash {c : Cfg} {F : FS} {K : Int} {n : Nat} (x : Int) (h : PJ c F K n) (hK : K + 1 ≤ 4096) : PJ c (crashF F x).1 (K + 1) n := h.op (h.j.crash hK) crash_same h.dq.crash (crash_ok h.j.i.fw h.j.i.st hK).2.2
theorem PJ.restart {c : Cfg} {F : FS} {K : Int} {n : Nat} (x : Int) (h : PJ c F K n) (hK : K + 1 ≤ 4096) : PJ c (restartF F x).1 (K + 1) n := h.op (h.j.restart hK) restart_same h.dq.restart (restart_ok h.j.i.fw h.j.i.st hK).2.2
theorem PJ.cancel {c : Cfg} {F : FS} {K : Int} {n : Nat} (x : Int) (h : PJ c F K n) (hK : K + 1 ≤ 4096) : PJ c (cancelF F x).1 (K + 1) n := h.op (h.j.cancel hK) cancel_same h.dq.cancel (cancel_ok h.j.i.fw h.j.i.st hK).2.2
theorem PJ.new {c : Cfg} (hv : validCfg c = 0) : PJ c (newF c) 0 0 := by
  refine ⟨FJ.new hv, rfl, by simp [newF], ?_, ?_, ?_, ?_⟩
  · intro d hd
    simp only [newF] at hd
    obtain rfl := List.eq_of_mem_replicate hd
    have := validCfg_zero hv
    exact ⟨by show (0 : Int) ≤ c.deque; omega, rfl⟩
  · intro k _ hk
    exact ⟨0, by simp only [newF, shapeF, List.map_replicate, List.getElem?_replicate, if_pos hk]; rfl⟩
  · intro k hk; omega
  · simp only [newF, shapeF, List.map_replicate, totS]; simp [JS.zero]
theorem PJ.fresh {c : Cfg} {F : FS} {K : Int} {n : Nat} (h : PJ c F K n) (hn : n < 64) : ∃ j, F.jobs[((n : Nat) : Int).toNat]? = some j ∧ j.added = false := by
  obtain ⟨m, hm⟩ := h.s1 n (Nat.le_refl _) hn
  rw [Int.toNat_natCast]
  unfold shapeF at hm; rw [List.getElem?_map] at hm
  cases hj : F.jobs[n]? with
  | none => rw [hj] at hm; cases hm
  | some j => rw [hj] at hm; exact ⟨j, rfl, (Prod.mk.inj (Option.some.inj hm)).1⟩
theorem PJ.load {c : Cfg} {F : FS} {K : Int} {n : Nat} (h : PJ c F K n) : loadL F.jobs ≤ 8 * ((n : Nat) : Int) := by
  have h1 := load_le (l := F.jobs) (fun j hj => (h.j.i.fw.j j hj).r)
  have h2 := h.s2
  omega
theorem PJ.add {c : Cfg} {F : FS} {K bd : Int} {n : Nat} {l : List Task} (h : PJ c F K n) (hn : n < 8) (hb : 0 ≤ bd ∧ bd < 4) (hv : validC l = 0) (hs : ∀ z ∈ l, z.scratch ≤ F.cfg.arena) (hc : 64 ≤ c.tasks) (hl : l.length ≤ 8) : PJ c (addF F ((n : Nat) : Int) l bd) K (n + 1) := by
  obtain ⟨j, hj, ha⟩ := h.fresh (by omega)
  have hld := h.load
  obtain ⟨m, hm⟩ := h.s1 n (Nat.le_refl _) (by omega)
  have e : shapeF (addF F ((n : Nat) : Int) l bd).jobs = (shapeF F.jobs).set n (true, l.length) := by
    simp only [addF, shapeF, List.map_set, Int.toNat_natCast, jobN, List.length_map]
  have hL : (shapeF F.jobs).length = 64 := by unfold shapeF; rw [List.length_map]; exact h.j.i.fw.jl
  refine ⟨h.j.add (by omega) hj ha hb hv hs (by rw [h.cf]; omega) (by omega), h.cf, h.ws, h.dq.keep rfl rfl, ?_, ?_, ?_⟩
  · intro k h1 h2
    obtain ⟨m2, hm2⟩ := h.s1 k (by omega) h2
    exact ⟨m2, by rw [e, List.getElem?_set, if_neg (by omega)]; exact hm2⟩
  · intro k hk
    by_cases h1 : k = n
    · subst h1; exact ⟨l.length, by rw [e, List.getElem?_set, if_pos rfl, if_pos (by omega)]⟩
    · obtain ⟨m2, hm2⟩ := h.s0 k (by omega)
      exact ⟨m2, by rw [e, List.getElem?_set, if_neg (by omega)]; exact hm2⟩
  · rw [e, tot_set hm]; have := h.s2; omega
theorem tg_config {p : Nat} {a : Option Addr} {n k : Nat} {i : Int} {xs : List Int} (hR : RdT encI 1 [H] a n k xs) (hi : 0 ≤ i ∧ i ≤ n) (hS : Sat W w ([(p, .cells #[.slice a n k, .int .i64 i] 71 (0, 0))] :: H :: F))  :
    Calls Try.prog 69 #[.pointer (some ⟨p, 0, none⟩)] w fun e w' => ∃ (c : Cfg), e = .returned (.agg (encCfg c).toArray) ∧ (validCfg c = 0) ∧ (c.workers ≤ 4) ∧ ∃ i' : Int, (0 ≤ i' ∧ i' ≤ n) ∧ Sat W w' ([(p, .cells #[.slice a n k, .int .i64 i'] 71 (0, 0))] :: H :: F) := by
  have hle := hR.le
  refine callsA 28 Try.func69 rfl ?_
  refine seqE <| regionE ?_
  refine sAlloc hS Try.zeroValue41 ?_
  intro b_1 w_2 hS_3
  refine nilO <| thenK_n <| seqE <| regionE <| pu1 ?_
  have hS_4 := (hS_3.pick 1 rfl)
  refine cX Try.call35 (tape_next (RdT.flat (hR.up 1 (by rfl))) (by omega) (Sat.flat1 hS_4) 4 (by omega)) ?_
  rintro _ w_5 ⟨r_7, rfl, hr_8, i_9, hi_10, hS_6⟩
  have hS_11 := Sat.unflat1 hS_6
  refine sAdd 1 r_7 ?_
  refine pu1 ?_
  refine cX Try.call35 (tape_next (RdT.flat (hR.up 1 (by rfl))) (by omega) (Sat.flat1 hS_11) 4 (by omega)) ?_
  rintro _ w_12 ⟨r_14, rfl, hr_15, i_16, hi_17, hS_13⟩
  have hS_18 := Sat.unflat1 hS_13
  refine sAdd 1 r_14 ?_
  refine pu1 ?_
  refine cX Try.call35 (tape_next (RdT.flat (hR.up 1 (by rfl))) (by omega) (Sat.flat1 hS_18) 4 (by omega)) ?_
  rintro _ w_19 ⟨r_21, rfl, hr_22, i_23, hi_24, hS_20⟩
  have hS_25 := Sat.unflat1 hS_20
  refine sAdd 1 r_21 ?_
  refine pu1 ?_
  refine sBS hS_25 #[.int .i64 4096, .int .i64 65536, .int .i64 512] Try.runUnderlying22 Try.sizeOf3 Try.zeroValue3 ?_
  intro b_26 w_27 hS_28
  have hS_29 := (hS_28.pick 1 rfl)
  refine cX Try.call39 (tape_pick (RdT.flat (hR.up 2 (by rfl))) (by omega) (Sat.flat1 hS_29) (RdT.flat (RdT.blk (enc := encI) (sz := 1) (xs := [4096, 65536, 512]) (fun _ => (by rfl)) 3 0 rfl rfl rfl (by omega))) (by omega) (by omega)) ?_
  rintro _ w_30 ⟨x_32, rfl, hx_33, i_34, hi_35, hS_31⟩
  have hS_36 := Sat.unflat1 hS_31
  have hx_37 : (x_32 : Int) = 4096 ∨ (x_32 : Int) = 65536 ∨ (x_32 : Int) = 512 := by simpa using hx_33
  refine pu1 ?_
  refine sBS hS_36 #[.int .i64 1, .int .i64 2, .int .i64 8] Try.runUnderlying22 Try.sizeOf3 Try.zeroValue3 ?_
  intro b_38 w_39 hS_40
  have hS_41 := (hS_40.pick 1 rfl)
  refine cX Try.call39 (tape_pick (RdT.flat (hR.up 3 (by rfl))) (by omega) (Sat.flat1 hS_41) (RdT.flat (RdT.blk (enc := encI) (sz := 1) (xs := [1, 2, 8]) (fun _ => (by rfl)) 3 0 rfl rfl rfl (by omega))) (by omega) (by omega)) ?_
  rintro _ w_42 ⟨x_44, rfl, hx_45, i_46, hi_47, hS_43⟩
  have hS_48 := Sat.unflat1 hS_43
  have hx_49 : (x_44 : Int) = 1 ∨ (x_44 : Int) = 2 ∨ (x_44 : Int) = 8 := by simpa using hx_45
  refine pu1 ?_
  refine sBS hS_48 #[.int .i64 512, .int .i64 4096, .int .i64 60] Try.runUnderlying22 Try.sizeOf3 Try.zeroValue3 ?_
  intro b_50 w_51 hS_52
  have hS_53 := (hS_52.pick 1 rfl)
  refine cX Try.call39 (tape_pick (RdT.flat (hR.up 4 (by rfl))) (by omega) (Sat.flat1 hS_53) (RdT.flat (RdT.blk (enc := encI) (sz := 1) (xs := [512, 4096, 60]) (fun _ => (by rfl)) 3 0 rfl rfl rfl (by omega))) (by omega) (by omega)) ?_
  rintro _ w_54 ⟨x_56, rfl, hx_57, i_58, hi_59, hS_55⟩
  have hS_60 := Sat.unflat1 hS_55
  have hx_61 : (x_56 : Int) = 512 ∨ (x_56 : Int) = 4096 ∨ (x_56 : Int) = 60 := by simpa using hx_57
  refine pu1 ?_
  refine sBS hS_60 #[.int .i64 20000, .int .i64 500] Try.runUnderlying22 Try.sizeOf3 Try.zeroValue3 ?_
  intro b_62 w_63 hS_64
  have hS_65 := (hS_64.pick 1 rfl)
  refine cX Try.call39 (tape_pick (RdT.flat (hR.up 5 (by rfl))) (by omega) (Sat.flat1 hS_65) (RdT.flat (RdT.blk (enc := encI) (sz := 1) (xs := [20000, 500]) (fun _ => (by rfl)) 2 0 rfl rfl rfl (by omega))) (by omega) (by omega)) ?_
  rintro _ w_66 ⟨x_68, rfl, hx_69, i_70, hi_71, hS_67⟩
  have hS_72 := Sat.unflat1 hS_67
  have hx_73 : (x_68 : Int) = 20000 ∨ (x_68 : Int) = 500 := by simpa using hx_69
  refine pu1 ?_
  refine sBS hS_72 #[.int .i64 8, .int .i64 64, .int .i64 2] Try.runUnderlying22 Try.sizeOf3 Try.zeroValue3 ?_
  intro b_74 w_75 hS_76
  have hS_77 := (hS_76.pick 1 rfl)
  refine cX Try.call39 (tape_pick (RdT.flat (hR.up 6 (by rfl))) (by omega) (Sat.flat1 hS_77) (RdT.flat (RdT.blk (enc := encI) (sz := 1) (xs := [8, 64, 2]) (fun _ => (by rfl)) 3 0 rfl rfl rfl (by omega))) (by omega) (by omega)) ?_
  rintro _ w_78 ⟨x_80, rfl, hx_81, i_82, hi_83, hS_79⟩
  have hS_84 := Sat.unflat1 hS_79
  have hx_85 : (x_80 : Int) = 8 ∨ (x_80 : Int) = 64 ∨ (x_80 : Int) = 2 := by simpa using hx_81
  refine pu1 ?_
  refine sT hS_84 6 0 (.agg #[.int .i64 (1 + r_7), .int .i64 (1 + r_14), .int .i64 (1 + r_21), .int .i64 x_32, .int .i64 x_44, .int .i64 x_56, .int .i64 x_68, .int .i64 x_80]) [.int .i64 (1 + r_7), .int .i64 (1 + r_14), .int .i64 (1 + r_21), .int .i64 x_32, .int .i64 x_44, .int .i64 x_56, .int .i64 x_68, .int .i64 x_80] #[.int .i64 (1 + r_7), .int .i64 (1 + r_14), .int .i64 (1 + r_21), .int .i64 x_32, .int .i64 x_44, .int .i64 x_56, .int .i64 x_68, .int .i64 x_80] Try.sizeOf41 ?_
  intro w_86 hS_87
  refine nilO <| thenK_n <| retE <| retN (vs := [.agg #[.int .i64 (1 + r_7), .int .i64 (1 + r_14), .int .i64 (1 + r_21), .int .i64 x_32, .int .i64 x_44, .int .i64 x_56, .int .i64 x_68, .int .i64 x_80]]) rfl (.cons (.cell _ _ _ _ (by kernel_rfl) (lvA hS_87 6 0 [.int .i64 (1 + r_7), .int .i64 (1 + r_14), .int .i64 (1 + r_21), .int .i64 x_32, .int .i64 x_44, .int .i64 x_56, .int .i64 x_68, .int .i64 x_80] (Try.isAgg41 _) (Try.sizeOf41 _) rfl rfl rfl)) .nil) <| ?_
  have hv : validCfg (⟨(1 + r_7), (1 + r_14), (1 + r_21), x_32, x_44, x_56, x_68, x_80⟩ : Cfg) = 0 := by unfold validCfg; rw [if_pos (by dsimp only; omega)]
  have hS_88 : Sat W _ ([(p, .cells #[.slice a n k, .int .i64 i_82] 71 (0, 0))] :: H :: F) := ((((((hS_87.dropAt 1 rfl).dropAt 1 rfl).dropAt 1 rfl).dropAt 1 rfl).dropAt 1 rfl).dropAt 1 rfl)
  exact ⟨_, rfl, hv, by dsimp only; omega, _, by omega, hS_88⟩
theorem l27_play {p : Nat} {a : Option Addr} {n k : Nat} {i : Int} {xs : List Int} (hR : RdT encI 1 [H] a n k xs) (hi : 0 ≤ i ∧ i ≤ n) (hS : Sat W w ([(p, .cells #[.slice a n k, .int .i64 i] 71 (0, 0))] :: H :: F)) (m0 : Int) (hm : 0 ≤ m0 ∧ m0 ≤ 60) :
    Calls Try.prog 33 #[.pointer (some ⟨p, 0, none⟩), .int .i64 m0] w fun e w' => ∃ (c : Cfg) (pf : Nat) (F1 : FS) (M1 : Chunk) (nj : Nat), e = .returned (.tuple #[.pointer (some ⟨pf, 0, none⟩), .agg (encCfg c).toArray]) ∧ (validCfg c = 0) ∧ (c.workers ≤ 4 ∧ c.arena = 4096 ∧ c.tasks = 512) ∧ (FarmP pf F1 M1) ∧ (PJ c F1 m0 nj) ∧ (1 ≤ nj ∧ nj ≤ 3) ∧ ∃ i' : Int, (0 ≤ i' ∧ i' ≤ n) ∧ Sat W w' ([(p, .cells #[.slice a n k, .int .i64 i'] 71 (0, 0))] :: M1 :: H :: F) := by
  have hle := hR.le
  refine callsA 82 Try.func33 rfl ?_
  refine seqE <| regionE <| pu1 ?_
  refine sAlloc hS Try.zeroValue41 ?_
  intro b_1 w_2 hS_3
  refine nilO <| thenK_n <| seqE <| regionE <| pu1 ?_
  have hS_4 := (hS_3.pick 1 rfl)
  refine cX Try.call69 (tg_config (RdT.flat (hR.up 1 (by rfl))) (by omega) (Sat.flat1 hS_4) ) ?_
  rintro _ w_5 ⟨c_7, rfl, hv_8, hw_9, i_10, hi_11, hS_6⟩
  have hS_12 := Sat.unflat1 hS_6
  refine sAlloc hS_12 Try.zeroValue41 ?_
  intro b_13 w_14 hS_15
  refine sT hS_15 0 0 (.agg (encCfg c_7).toArray) (encCfg c_7) (encCfg c_7).toArray Try.sizeOf41 ?_
  intro w_16 hS_17
  refine nilO <| thenK_n <| seqE <| regionE <| pu1 ?_
  refine tW hS_17 0 3 (.int .i64 4096) Try.sizeOf3 ?_
  intro w_18 hS_19
  refine pu1 ?_
  refine tW hS_19 0 5 (.int .i64 512) Try.sizeOf3 ?_
  intro w_20 hS_21
  refine nilO ?_
  obtain ⟨c, hc⟩ : ∃ z : Cfg, z = (⟨c_7.workers, c_7.tileW, c_7.tileH, 4096, c_7.deque, 512, c_7.cells, c_7.jobs⟩ : Cfg) := ⟨_, rfl⟩
  have hS_22 : Sat W w_20 ([(b_13, .cells (encCfg c).toArray 41 (0, 0))] :: [(p, .cells #[.slice a n k, .int .i64 i_10] 71 (0, 0))] :: [(b_1, .cells #[.int .i64 0, .int .i64 0, .int .i64 0, .int .i64 0, .int .i64 0, .int .i64 0, .int .i64 0, .int .i64 0] 41 (0, 0))] :: H :: F) := by subst hc; exact hS_21
  have hv : validCfg c = 0 := by have h := validCfg_zero hv_8; subst hc; unfold validCfg; rw [if_pos (by dsimp only; omega)]
  have hvc0 := validCfg_zero hv; have hw4 : c.workers ≤ 4 := (by subst hc; exact hw_9); have hc4 : c.arena = 4096 := (by subst hc; rfl); have hc5 : c.tasks = 512 := (by subst hc; rfl)
  refine thenK_n <| seqE <| regionE ?_
  refine lA hS_22 0 0 8 (Try.isAgg41 _) (Try.sizeOf41 _) ?_
  have hv_28 : validCfg c = 0 := hv
  refine cX Try.call19 (pf_new c hv_28 hS_22) ?_
  rintro _ w_23 ⟨p_25, M_26, rfl, hR_27, hS_24⟩
  have hJ_29 := FJ.new hv_28
  refine pu5 <| nilO <| thenK_n <| seqE <| seqE <| regionE <| pu2 <| nilO <| thenK_n <| cFf <| skipE <| thenK_n <| seqE <| regionE <| pu1 ?_
  have hS_30 := (hS_24.pick 2 rfl)
  refine cX Try.call35 (tape_next (RdT.flat (hR.up 3 (by rfl))) (by omega) (Sat.flat1 hS_30) 3 (by omega)) ?_
  rintro _ w_31 ⟨r_33, rfl, hr_34, i_35, hi_36, hS_32⟩
  have hS_37 := Sat.unflat1 hS_32
  refine sAdd 1 r_33 ?_
  refine pu1 <| nilO <| thenK_n <| seqE <| seqE <| regionE <| pu1 <| nilO <| thenK_n <| blockE ?_
  have hS_38 := (((hS_37.pick 2 rfl).pick 3 rfl).pick 2 rfl)
  refine loopA (γ := Nat × Int × FS × Chunk) (fun ⟨i, it, F1, M1⟩ => [(0, .pointer (some ⟨p, 0, none⟩)), (1, .int .i64 m0), (5, .pointer (some ⟨b_1, 0, none⟩)), (6, .pointer (some ⟨b_13, 0, none⟩)), (7, .pointer (some ⟨p_25, 0, none⟩)), (9, .int .i64 (1 + r_33)), (10, .int .i64 ((i : Nat) : Int))]) (fun ⟨i, it, F1, M1⟩ w => Sat W w ([(p, .cells #[.slice a n k, .int .i64 it] 71 (0, 0))] :: [(b_1, .cells #[.int .i64 0, .int .i64 0, .int .i64 0, .int .i64 0, .int .i64 0, .int .i64 0, .int .i64 0, .int .i64 0] 41 (0, 0))] :: [(b_13, .cells (encCfg c).toArray 41 (0, 0))] :: M1 :: H :: F) ∧ i ≤ ((1 + r_33)).toNat ∧ (0 ≤ it ∧ it ≤ n) ∧ FarmP p_25 F1 M1 ∧ PJ c F1 0 i) (fun ⟨i, it, F1, M1⟩ => ((1 + r_33)).toNat - i) (0, i_35, (newF c), M_26) ⟨hS_38, by omega, by omega, hR_27, PJ.new hv⟩ ?_
  rintro ⟨i, it, F1, M1⟩ ρ w_39 ⟨hS_40, hi, hit, hFR, hPJ⟩
  refine seqE <| seqE <| regionE <| pu3 <| nilO <| thenK_n <| ?_
  refine cD (((i : Nat) : Int) < (1 + r_33)) (fun hc_41 => ?_) (fun hc_41 => ?_)
  · refine skipE <| thenK_n <| seqE <| blockE <| regionE <| pu3 ?_
    refine cX Try.call12 (tg_tasks (RdT.flat (hR.up 3 (by rfl))) (by omega) (Sat.flat1 hS_40) 8 (by omega)) ?_
    rintro _ w_42 ⟨az_44, nz_45, kz_46, zs_47, C_48, G_49, rfl, hO_50, hD_51, hV_52, hW_53, i_54, hi_55, hS_43⟩
    have hS_56 := Sat.unflat3 hS_43
    have hn_zs_47 := hO_50.len; have hl_zs_47 := hO_50.le
    refine pu1 ?_
    refine cX Try.call35 (tape_next (RdT.flat (hR.up 5 (by rfl))) (by omega) (Sat.flat1 hS_56) 4 (by omega)) ?_
    rintro _ w_57 ⟨r_59, rfl, hr_60, i_61, hi_62, hS_58⟩
    have hS_63 := Sat.unflat1 hS_58
    have hS_64 := (hS_63.pick 5 rfl)
    obtain ⟨j_71, hj_72, ha_73⟩ := hPJ.fresh (by omega)
    have hvl_74 : validC zs_47 = 0 := validC_ok (by omega) (by omega) hV_52.2.2
    have hld := hPJ.load; have hcf := hPJ.cf
    have p_75 : 0 ≤ ((i : Nat) : Int) ∧ ((i : Nat) : Int) < 64 := by omega
    have p_78 : 0 ≤ r_59 ∧ r_59 < 4 := by omega
    have p_79 : validC zs_47 = 0 := hvl_74
    have p_80 : ∀ z ∈ zs_47, z.scratch ≤ F1.cfg.arena := (fun z hz => by rw [hcf, hc4]; have := hW_53 z hz; omega)
    have p_81 : 0 ≤ F1.cfg.tasks ∧ F1.cfg.tasks ≤ 4096 := by rw [hcf, hc5]; omega
    have p_82 : ((zs_47.length : Nat) : Int) ≤ F1.cfg.tasks - loadL F1.jobs := by rw [hcf, hc5]; omega
    have p_83 : zs_47.length ≤ 12 := by omega
    have p_76 : F1.jobs[(((i : Nat) : Int)).toNat]? = some j_71 := hj_72
    have p_77 : JS.added j_71 = false := ha_73
    refine cX Try.call21 (pf_add hFR hPJ.j.i ((i : Nat) : Int) az_44 nz_45 kz_46 zs_47 r_59 (RdT.flat (hO_50.rdAt 1 (by rfl))) (fun z hz => (hD_51 z hz).of_mem (mem_flat1 2 (by rfl))) p_75 p_76 p_77 p_78 p_79 p_80 p_81 p_82  (Sat.flat1 hS_64)) ?_
    rintro _ w_65 ⟨M_68, rfl, hR_69, hS_66⟩
    have hS_67 := Sat.unflat1 hS_66
    have hJ_70 := hPJ.j.add p_75 p_76 p_77 p_78 p_79 p_80 p_82 p_83
    have hPJ_84 := hPJ.add (bd := r_59) (by omega) (by omega) hvl_74 (fun z hz => by rw [hcf, hc4]; have := hW_53 z hz; omega) (by omega) (by omega)
    refine nilO <| blockK_n <| thenK_n <| regionE <| pu1 ?_
    refine sAdd ((i : Nat) : Int) 1 ?_
    refine pu1 <| nilO <| thenK_n <| ?_
    have hS_85 := (((((hS_67.pick 5 rfl).pick 5 rfl).pick 3 rfl).dropAt 4 rfl).dropAt 4 rfl)
    exact ⟨(i + 1, i_61, (addF F1 ((i : Nat) : Int) zs_47 r_59), M_68), by first | omega | (dsimp only; omega), alA, hS_85, by omega, by omega, hR_69, hPJ_84⟩
  refine exitE <| thenK_x <| thenK_x <| blockK_x <| thenK_n <| seqE <| seqE <| regionE <| pu1 <| nilO <| thenK_n <| blockE ?_
  refine loopA (γ := Nat × Int × FS × Chunk) (fun ⟨u, iu, F2, M2⟩ => [(0, .pointer (some ⟨p, 0, none⟩)), (1, .int .i64 m0), (5, .pointer (some ⟨b_1, 0, none⟩)), (6, .pointer (some ⟨b_13, 0, none⟩)), (7, .pointer (some ⟨p_25, 0, none⟩)), (11, .int .i64 ((u : Nat) : Int))]) (fun ⟨u, iu, F2, M2⟩ w => Sat W w ([(p, .cells #[.slice a n k, .int .i64 iu] 71 (0, 0))] :: [(b_1, .cells #[.int .i64 0, .int .i64 0, .int .i64 0, .int .i64 0, .int .i64 0, .int .i64 0, .int .i64 0, .int .i64 0] 41 (0, 0))] :: [(b_13, .cells (encCfg c).toArray 41 (0, 0))] :: M2 :: H :: F) ∧ u ≤ m0.toNat ∧ (0 ≤ iu ∧ iu ≤ n) ∧ FarmP p_25 F2 M2 ∧ PJ c F2 ((u : Nat) : Int) i) (fun ⟨u, iu, F2, M2⟩ => m0.toNat - u) (0, it, F1, M1) ⟨hS_40, by omega, by omega, hFR, hPJ⟩ ?_
  rintro ⟨u, iu, F2, M2⟩ ρ w_86 ⟨hS_87, hk, hiu, hFR2, hPJ2⟩
  refine seqE <| seqE <| regionE <| pu4 ?_
  refine sD 43 (((u : Nat) : Int) < m0) (fun hc_88 => ?_) (fun hc_88 => ?_)
  rotate_left
  · refine pu3 <| nilO <| thenK_n <| cFf <| exitE <| thenK_x <| thenK_x <| blockK_x <| thenK_n <| seqE ?_
    refine drawE [3] [(1, ⟨b_13, 0, none⟩, .int .i64 c.workers), (1, ⟨b_13, 1, none⟩, .int .i64 c.tileW), (1, ⟨b_13, 2, none⟩, .int .i64 c.tileH), (1, ⟨b_13, 3, none⟩, .int .i64 c.arena), (1, ⟨b_13, 4, none⟩, .int .i64 c.deque), (1, ⟨b_13, 5, none⟩, .int .i64 c.tasks), (1, ⟨b_13, 6, none⟩, .int .i64 c.cells), (1, ⟨b_13, 7, none⟩, .int .i64 c.jobs)] [(true, [0, 2]), (true, [1]), (false, [3])] rfl (by kernel_rfl) ⟨.inr (hS_87.cell 2 rfl rfl), .inr (hS_87.cell 2 rfl rfl), .inr (hS_87.cell 2 rfl rfl), .inr (hS_87.cell 2 rfl rfl), .inr (hS_87.cell 2 rfl rfl), .inr (hS_87.cell 2 rfl rfl), .inr (hS_87.cell 2 rfl rfl), .inr (hS_87.cell 2 rfl rfl), trivial⟩ ?_
    have hS_207 := hS_87.drew
    refine wU [0, 2] ?_
    refine wY (.agg (encCfg c).toArray) rfl (fun w hF => Y_loadF rfl (Try.isAgg41 w) (Try.sizeOf41 w) (by kernel_rfl) rfl ⟨hF 0 _ _ rfl, hF 1 _ _ rfl, hF 2 _ _ rfl, hF 3 _ _ rfl, hF 4 _ _ rfl, hF 5 _ _ rfl, hF 6 _ _ rfl, hF 7 _ _ rfl, trivial⟩) ?_
    refine wO rfl ?_
    refine sT hS_207 1 0 (.agg (encCfg c).toArray) (encCfg c) (encCfg c).toArray Try.sizeOf41 ?_
    intro w_208 hS_209
    refine nilO ⟨⟨.inl (by kernel_rfl), .inl (by kernel_rfl), .inl (by kernel_rfl), .inl (by kernel_rfl), .inl (by kernel_rfl), .inl (by kernel_rfl), .inl (by kernel_rfl), .inl (by kernel_rfl), trivial⟩, ?_⟩
    refine wN ?_
    refine thenK_n <| retE <| retN (vs := [.pointer (some ⟨p_25, 0, none⟩), .agg (encCfg c).toArray]) rfl (.cons (.tmp _ _ (by kernel_rfl)) (.cons (.cell _ _ _ _ (by kernel_rfl) (lvA hS_209 1 0 (encCfg c) (Try.isAgg41 _) (Try.sizeOf41 _) rfl rfl rfl)) .nil)) <| ?_
    have hS_210 := ((hS_209.dropAt 1 rfl).dropAt 1 rfl)
    exact ⟨c, _, F2, M2, i, rfl, hv, ⟨hw4, hc4, hc5⟩, hFR2, (hPJ2.mono (by omega) (by omega)), by omega, _, by omega, hS_210⟩
  refine pu1 <| gY ?_
  refine cX Try.call70 (tape_left (RdT.flat (hR.up 3 (by rfl))) (by omega) (Sat.flat1 hS_87)) ?_
  rintro _ w_89 ⟨v_91, rfl, hS_90⟩
  have hS_92 := Sat.unflat1 hS_90
  refine pu1 <| nilO <| thenK_n <| ?_
  cases v_91
  · refine cFf <| exitE <| thenK_x <| thenK_x <| blockK_x <| thenK_n <| seqE ?_
    refine drawE [3] [(1, ⟨b_13, 0, none⟩, .int .i64 c.workers), (1, ⟨b_13, 1, none⟩, .int .i64 c.tileW), (1, ⟨b_13, 2, none⟩, .int .i64 c.tileH), (1, ⟨b_13, 3, none⟩, .int .i64 c.arena), (1, ⟨b_13, 4, none⟩, .int .i64 c.deque), (1, ⟨b_13, 5, none⟩, .int .i64 c.tasks), (1, ⟨b_13, 6, none⟩, .int .i64 c.cells), (1, ⟨b_13, 7, none⟩, .int .i64 c.jobs)] [(true, [0, 2]), (true, [1]), (false, [3])] rfl (by kernel_rfl) ⟨.inr (hS_92.cell 2 rfl rfl), .inr (hS_92.cell 2 rfl rfl), .inr (hS_92.cell 2 rfl rfl), .inr (hS_92.cell 2 rfl rfl), .inr (hS_92.cell 2 rfl rfl), .inr (hS_92.cell 2 rfl rfl), .inr (hS_92.cell 2 rfl rfl), .inr (hS_92.cell 2 rfl rfl), trivial⟩ ?_
    have hS_93 := hS_92.drew
    refine wU [0, 2] ?_
    refine wY (.agg (encCfg c).toArray) rfl (fun w hF => Y_loadF rfl (Try.isAgg41 w) (Try.sizeOf41 w) (by kernel_rfl) rfl ⟨hF 0 _ _ rfl, hF 1 _ _ rfl, hF 2 _ _ rfl, hF 3 _ _ rfl, hF 4 _ _ rfl, hF 5 _ _ rfl, hF 6 _ _ rfl, hF 7 _ _ rfl, trivial⟩) ?_
    refine wO rfl ?_
    refine sT hS_93 1 0 (.agg (encCfg c).toArray) (encCfg c) (encCfg c).toArray Try.sizeOf41 ?_
    intro w_94 hS_95
    refine nilO ⟨⟨.inl (by kernel_rfl), .inl (by kernel_rfl), .inl (by kernel_rfl), .inl (by kernel_rfl), .inl (by kernel_rfl), .inl (by kernel_rfl), .inl (by kernel_rfl), .inl (by kernel_rfl), trivial⟩, ?_⟩
    refine wN ?_
    refine thenK_n <| retE <| retN (vs := [.pointer (some ⟨p_25, 0, none⟩), .agg (encCfg c).toArray]) rfl (.cons (.tmp _ _ (by kernel_rfl)) (.cons (.cell _ _ _ _ (by kernel_rfl) (lvA hS_95 1 0 (encCfg c) (Try.isAgg41 _) (Try.sizeOf41 _) rfl rfl rfl)) .nil)) <| ?_
    have hS_96 := ((hS_95.dropAt 1 rfl).dropAt 1 rfl)
    exact ⟨c, _, F2, M2, i, rfl, hv, ⟨hw4, hc4, hc5⟩, hFR2, (hPJ2.mono (by omega) (by omega)), by omega, _, by omega, hS_96⟩
  refine cTt <| skipE <| thenK_n <| seqE <| blockE <| seqE <| regionE <| pu2 ?_
  refine sL hS_92 2 0 (.int .i64 c.workers) (Try.isAgg3 _) ?_
  refine cX Try.call35 (tape_next (RdT.flat (hR.up 3 (by rfl))) (by omega) (Sat.flat1 hS_92) c.workers (by omega)) ?_
  rintro _ w_97 ⟨r_99, rfl, hr_100, i_101, hi_102, hS_98⟩
  have hS_103 := Sat.unflat1 hS_98
  refine pu1 <| nilO <| thenK_n <| seqE <| regionE <| pu1 ?_
  refine cX Try.call35 (tape_next (RdT.flat (hR.up 3 (by rfl))) (by omega) (Sat.flat1 hS_103) 16 (by omega)) ?_
  rintro _ w_104 ⟨r_106, rfl, hr_107, i_108, hi_109, hS_105⟩
  have hS_110 := Sat.unflat1 hS_105
  refine nilO <| thenK_n <| blockE <| seqE <| regionE <| pu2 <| nilO <| thenK_n <| ?_
  refine cE r_106 0 (fun hc_111 => ?_) (fun hc_111 => ?_)
  · refine regionE <| pu2 ?_
    have hS_112 := (hS_110.pick 3 rfl)
    refine cX Try.call31 (pf_crash hFR2 hPJ2.j.i r_99  (Sat.flat1 hS_112)) ?_
    rintro _ w_113 ⟨az_116, nz_117, kz_118, Z_119, M_120, rfl, hO_121, hR_122, hS_114⟩
    have hS_115 := Sat.unflat2 hS_114; have hn_az_116 := hO_121.len; have hl_az_116 := hO_121.le
    have hJ_123 := FJ.crash (x := r_99) hPJ2.j (by omega)
    have hPJ_124 := PJ.crash r_99 hPJ2 (by omega)
    refine nilO <| blockK_n <| blockK_n <| thenK_n <| regionE <| pu1 ?_
    refine sAdd ((u : Nat) : Int) 1 ?_
    refine pu1 <| nilO <| thenK_n <| ?_
    have hS_125 := ((((hS_115.pick 4 rfl).pick 4 rfl).pick 4 rfl).dropAt 3 rfl)
    exact ⟨(u + 1, i_108, (crashF F2 r_99).1, M_120), by first | omega | (dsimp only; omega), alA, hS_125, by omega, by omega, hR_122, (hPJ_124.mono (by omega) (by omega))⟩
  refine seqE <| seqE <| regionE <| pu2 <| nilO <| thenK_n <| ?_
  refine cE r_106 1 (fun hc_126 => ?_) (fun hc_126 => ?_)
  · refine skipE <| thenK_n <| ?_
    refine cT _ (beq_iff_eq.2 hc_126) ?_
    refine regionE <| pu2 ?_
    have hS_127 := (hS_110.pick 3 rfl)
    refine cX Try.call32 (pf_restart hFR2 hPJ2.j.i r_99  (Sat.flat1 hS_127)) ?_
    rintro _ w_128 ⟨az_131, nz_132, kz_133, Z_134, M_135, rfl, hO_136, hR_137, hS_129⟩
    have hS_130 := Sat.unflat2 hS_129; have hn_az_131 := hO_136.len; have hl_az_131 := hO_136.le
    have hJ_138 := FJ.restart (x := r_99) hPJ2.j (by omega)
    have hPJ_139 := PJ.restart r_99 hPJ2 (by omega)
    refine nilO <| blockK_n <| blockK_n <| thenK_n <| regionE <| pu1 ?_
    refine sAdd ((u : Nat) : Int) 1 ?_
    refine pu1 <| nilO <| thenK_n <| ?_
    have hS_140 := ((((hS_130.pick 4 rfl).pick 4 rfl).pick 4 rfl).dropAt 3 rfl)
    exact ⟨(u + 1, i_108, (restartF F2 r_99).1, M_135), by first | omega | (dsimp only; omega), alA, hS_140, by omega, by omega, hR_137, (hPJ_139.mono (by omega) (by omega))⟩
  refine regionE <| pu2 <| nilO <| thenK_n <| ?_
  refine cE r_106 2 (fun hc_141 => ?_) (fun hc_141 => ?_)
  · refine regionE <| pu2 ?_
    have hS_142 := (hS_110.pick 3 rfl)
    refine cX Try.call32 (pf_restart hFR2 hPJ2.j.i r_99  (Sat.flat1 hS_142)) ?_
    rintro _ w_143 ⟨az_146, nz_147, kz_148, Z_149, M_150, rfl, hO_151, hR_152, hS_144⟩
    have hS_145 := Sat.unflat2 hS_144; have hn_az_146 := hO_151.len; have hl_az_146 := hO_151.le
    have hJ_153 := FJ.restart (x := r_99) hPJ2.j (by omega)
    have hPJ_154 := PJ.restart r_99 hPJ2 (by omega)
    refine nilO <| blockK_n <| blockK_n <| thenK_n <| regionE <| pu1 ?_
    refine sAdd ((u : Nat) : Int) 1 ?_
    refine pu1 <| nilO <| thenK_n <| ?_
    have hS_155 := ((((hS_145.pick 4 rfl).pick 4 rfl).pick 4 rfl).dropAt 3 rfl)
    exact ⟨(u + 1, i_108, (restartF F2 r_99).1, M_150), by first | omega | (dsimp only; omega), alA, hS_155, by omega, by omega, hR_152, (hPJ_154.mono (by omega) (by omega))⟩
  refine seqE <| regionE <| pu2 <| nilO <| thenK_n <| ?_
  refine cE r_106 3 (fun hc_156 => ?_) (fun hc_156 => ?_)
  rotate_left
  · refine regionE <| pu3 ?_
    refine cX Try.call35 (tape_next (RdT.flat (hR.up 3 (by rfl))) (by omega) (Sat.flat1 hS_110) 9 (by omega)) ?_
    rintro _ w_186 ⟨r_188, rfl, hr_189, i_190, hi_191, hS_187⟩
    have hS_192 := Sat.unflat1 hS_187
    have hS_193 := (hS_192.pick 3 rfl)
    refine cX Try.call23 (pf_step hFR2 hPJ2.j.i r_99 r_188 hPJ2.j.t (by omega) (Sat.flat1 hS_193)) ?_
    rintro _ w_194 ⟨az_197, nz_198, kz_199, Z_200, M_201, rfl, hO_202, hR_203, hS_195⟩
    have hS_196 := Sat.unflat2 hS_195; have hn_az_197 := hO_202.len; have hl_az_197 := hO_202.le
    have hJ_204 := FJ.step (x := r_99) (c := r_188) hPJ2.j (by omega)
    have hPJ_205 := PJ.step r_99 r_188 hPJ2 (by omega)
    refine nilO <| blockK_n <| blockK_n <| thenK_n <| regionE <| pu1 ?_
    refine sAdd ((u : Nat) : Int) 1 ?_
    refine pu1 <| nilO <| thenK_n <| ?_
    have hS_206 := ((((hS_196.pick 4 rfl).pick 4 rfl).pick 4 rfl).dropAt 3 rfl)
    exact ⟨(u + 1, i_190, (stepF F2 r_99 r_188).1, M_201), by first | omega | (dsimp only; omega), alA, hS_206, by omega, by omega, hR_203, (hPJ_205.mono (by omega) (by omega))⟩
  refine seqE <| regionE <| pu1 ?_
  refine cX Try.call35 (tape_next (RdT.flat (hR.up 3 (by rfl))) (by omega) (Sat.flat1 hS_110) 4 (by omega)) ?_
  rintro _ w_157 ⟨r_159, rfl, hr_160, i_161, hi_162, hS_158⟩
  have hS_163 := Sat.unflat1 hS_158
  refine pu1 <| nilO <| thenK_n <| ?_
  refine cE r_159 3 (fun hc_164 => ?_) (fun hc_164 => ?_)
  rotate_left
  · refine skipE <| blockK_n <| blockK_n <| thenK_n <| regionE <| pu1 ?_
    refine sAdd ((u : Nat) : Int) 1 ?_
    refine pu1 <| nilO <| thenK_n <| ?_
    exact ⟨(u + 1, i_161, F2, M2), by first | omega | (dsimp only; omega), alA, hS_163, by omega, by omega, hFR2, (hPJ2.mono (by omega) (by omega))⟩
  refine regionE <| pu2 ?_
  refine cX Try.call35 (tape_next (RdT.flat (hR.up 3 (by rfl))) (by omega) (Sat.flat1 hS_163) 3 (by omega)) ?_
  rintro _ w_165 ⟨r_167, rfl, hr_168, i_169, hi_170, hS_166⟩
  have hS_171 := Sat.unflat1 hS_166
  have hS_172 := (hS_171.pick 3 rfl)
  refine cX Try.call34 (pf_cancel hFR2 hPJ2.j.i r_167  (Sat.flat1 hS_172)) ?_
  rintro _ w_173 ⟨az_176, nz_177, kz_178, Z_179, M_180, rfl, hO_181, hR_182, hS_174⟩
  have hS_175 := Sat.unflat2 hS_174; have hn_az_176 := hO_181.len; have hl_az_176 := hO_181.le
  have hJ_183 := FJ.cancel (x := r_167) hPJ2.j (by omega)
  have hPJ_184 := PJ.cancel r_167 hPJ2 (by omega)
  refine nilO <| blockK_n <| blockK_n <| thenK_n <| regionE <| pu1 ?_
  refine sAdd ((u : Nat) : Int) 1 ?_
  refine pu1 <| nilO <| thenK_n <| ?_
  have hS_185 := ((((hS_175.pick 4 rfl).pick 4 rfl).pick 4 rfl).dropAt 3 rfl)
  exact ⟨(u + 1, i_169, (cancelF F2 r_167).1, M_180), by first | omega | (dsimp only; omega), alA, hS_185, by omega, by omega, hR_182, (hPJ_184.mono (by omega) (by omega))⟩
end Go.Proofs.Ytegmennaekipaaa
