import Derived.Test.YtimkhljglpookaaGreatFm7
import Derived.Test.YtimkhljglpookaaGreatTks
namespace Go.Proofs.YtimkhljglpookaaGreat
open Go Go.E
set_option linter.unusedVariables false
set_option linter.unusedSimpArgs false
set_option linter.unnecessarySimpa false
set_option maxRecDepth 100000
set_option maxHeartbeats 2000000
variable {W w : World} {H : Chunk} {F : List Chunk}
structure TL where
  l : Sl Task
def encTL (x : TL) : List Value := [.slice x.l.a x.l.n x.l.k]
structure TLV where
  l : List TaskV
  deriving DecidableEq
def TL.v (x : TL) : TLV := ⟨x.l.l.map Task.v⟩
structure TL.Ok (cs : List Chunk) (q : TL) : Prop where
  l : RdT encTask 9 cs q.l.a q.l.n q.l.k q.l.l
  lD : ∀ z ∈ q.l.l, Task.Ok cs z
theorem TL.Ok.of_mem {cs cs' : List Chunk} {x : TL} (h : TL.Ok cs x) (hm : ∀ p ∈ cs.flatten, p ∈ cs'.flatten) : TL.Ok cs' x := ⟨h.l.of_mem hm, fun y hy => (h.lD y hy).of_mem hm⟩
theorem tg_config {p : Nat} {a : Option Addr} {n k : Nat} {i : Int} {xs : List Int} (hR : RdT encI 1 [H] a n k xs) (hi : 0 ≤ i ∧ i ≤ n) (hS : Sat W w ([(p, .cells #[.slice a n k, .int .i64 i] 57 (0, 0))] :: H :: F))  :
    Calls Tryz.prog 16 #[.pointer (some ⟨p, 0, none⟩)] w fun e w' => ∃ (c : Cfg), e = .returned (.agg (encCfg c).toArray) ∧ (validCfg c = 0) ∧ (c.workers ≤ 4) ∧ ∃ i' : Int, (0 ≤ i' ∧ i' ≤ n) ∧ Sat W w' ([(p, .cells #[.slice a n k, .int .i64 i'] 57 (0, 0))] :: H :: F) := by
  have hle := hR.le
  refine callsA 28 Tryz.func16 rfl ?_
  refine seqE <| regionE ?_
  refine sAlloc hS Tryz.zeroValue24 ?_
  intro b_1 w_2 hS_3
  refine nilO <| thenK_n <| seqE <| regionE <| pu1 ?_
  have hS_4 := (hS_3.pick 1 rfl)
  refine cX Tryz.call12 (tape_next (RdT.flat (hR.up 1 (by rfl))) (by omega) (Sat.flat1 hS_4) 4 (by omega)) ?_
  rintro _ w_5 ⟨r_7, rfl, hr_8, i_9, hi_10, hS_6⟩
  have hS_11 := Sat.unflat1 hS_6
  refine sAdd 1 r_7 ?_
  refine pu1 ?_
  refine cX Tryz.call12 (tape_next (RdT.flat (hR.up 1 (by rfl))) (by omega) (Sat.flat1 hS_11) 4 (by omega)) ?_
  rintro _ w_12 ⟨r_14, rfl, hr_15, i_16, hi_17, hS_13⟩
  have hS_18 := Sat.unflat1 hS_13
  refine sAdd 1 r_14 ?_
  refine pu1 ?_
  refine cX Tryz.call12 (tape_next (RdT.flat (hR.up 1 (by rfl))) (by omega) (Sat.flat1 hS_18) 4 (by omega)) ?_
  rintro _ w_19 ⟨r_21, rfl, hr_22, i_23, hi_24, hS_20⟩
  have hS_25 := Sat.unflat1 hS_20
  refine sAdd 1 r_21 ?_
  refine pu1 ?_
  refine sBS hS_25 #[.int .i64 4096, .int .i64 65536, .int .i64 512] Tryz.runUnderlying22 Tryz.sizeOf3 Tryz.zeroValue3 ?_
  intro b_26 w_27 hS_28
  have hS_29 := (hS_28.pick 1 rfl)
  refine cX Tryz.call30 (tape_pick (RdT.flat (hR.up 2 (by rfl))) (by omega) (Sat.flat1 hS_29) (RdT.flat (RdT.blk (enc := encI) (sz := 1) (xs := [4096, 65536, 512]) (fun _ => (by rfl)) 3 0 rfl rfl rfl (by omega))) (by omega) (by omega)) ?_
  rintro _ w_30 ⟨x_32, rfl, hx_33, i_34, hi_35, hS_31⟩
  have hS_36 := Sat.unflat1 hS_31
  have hx_37 : (x_32 : Int) = 4096 ∨ (x_32 : Int) = 65536 ∨ (x_32 : Int) = 512 := by simpa using hx_33
  refine pu1 ?_
  refine sBS hS_36 #[.int .i64 1, .int .i64 2, .int .i64 8] Tryz.runUnderlying22 Tryz.sizeOf3 Tryz.zeroValue3 ?_
  intro b_38 w_39 hS_40
  have hS_41 := (hS_40.pick 1 rfl)
  refine cX Tryz.call30 (tape_pick (RdT.flat (hR.up 3 (by rfl))) (by omega) (Sat.flat1 hS_41) (RdT.flat (RdT.blk (enc := encI) (sz := 1) (xs := [1, 2, 8]) (fun _ => (by rfl)) 3 0 rfl rfl rfl (by omega))) (by omega) (by omega)) ?_
  rintro _ w_42 ⟨x_44, rfl, hx_45, i_46, hi_47, hS_43⟩
  have hS_48 := Sat.unflat1 hS_43
  have hx_49 : (x_44 : Int) = 1 ∨ (x_44 : Int) = 2 ∨ (x_44 : Int) = 8 := by simpa using hx_45
  refine pu1 ?_
  refine sBS hS_48 #[.int .i64 512, .int .i64 4096, .int .i64 60] Tryz.runUnderlying22 Tryz.sizeOf3 Tryz.zeroValue3 ?_
  intro b_50 w_51 hS_52
  have hS_53 := (hS_52.pick 1 rfl)
  refine cX Tryz.call30 (tape_pick (RdT.flat (hR.up 4 (by rfl))) (by omega) (Sat.flat1 hS_53) (RdT.flat (RdT.blk (enc := encI) (sz := 1) (xs := [512, 4096, 60]) (fun _ => (by rfl)) 3 0 rfl rfl rfl (by omega))) (by omega) (by omega)) ?_
  rintro _ w_54 ⟨x_56, rfl, hx_57, i_58, hi_59, hS_55⟩
  have hS_60 := Sat.unflat1 hS_55
  have hx_61 : (x_56 : Int) = 512 ∨ (x_56 : Int) = 4096 ∨ (x_56 : Int) = 60 := by simpa using hx_57
  refine pu1 ?_
  refine sBS hS_60 #[.int .i64 20000, .int .i64 500] Tryz.runUnderlying22 Tryz.sizeOf3 Tryz.zeroValue3 ?_
  intro b_62 w_63 hS_64
  have hS_65 := (hS_64.pick 1 rfl)
  refine cX Tryz.call30 (tape_pick (RdT.flat (hR.up 5 (by rfl))) (by omega) (Sat.flat1 hS_65) (RdT.flat (RdT.blk (enc := encI) (sz := 1) (xs := [20000, 500]) (fun _ => (by rfl)) 2 0 rfl rfl rfl (by omega))) (by omega) (by omega)) ?_
  rintro _ w_66 ⟨x_68, rfl, hx_69, i_70, hi_71, hS_67⟩
  have hS_72 := Sat.unflat1 hS_67
  have hx_73 : (x_68 : Int) = 20000 ∨ (x_68 : Int) = 500 := by simpa using hx_69
  refine pu1 ?_
  refine sBS hS_72 #[.int .i64 8, .int .i64 64, .int .i64 2] Tryz.runUnderlying22 Tryz.sizeOf3 Tryz.zeroValue3 ?_
  intro b_74 w_75 hS_76
  have hS_77 := (hS_76.pick 1 rfl)
  refine cX Tryz.call30 (tape_pick (RdT.flat (hR.up 6 (by rfl))) (by omega) (Sat.flat1 hS_77) (RdT.flat (RdT.blk (enc := encI) (sz := 1) (xs := [8, 64, 2]) (fun _ => (by rfl)) 3 0 rfl rfl rfl (by omega))) (by omega) (by omega)) ?_
  rintro _ w_78 ⟨x_80, rfl, hx_81, i_82, hi_83, hS_79⟩
  have hS_84 := Sat.unflat1 hS_79
  have hx_85 : (x_80 : Int) = 8 ∨ (x_80 : Int) = 64 ∨ (x_80 : Int) = 2 := by simpa using hx_81
  refine pu1 ?_
  refine sT hS_84 6 0 (.agg #[.int .i64 (1 + r_7), .int .i64 (1 + r_14), .int .i64 (1 + r_21), .int .i64 x_32, .int .i64 x_44, .int .i64 x_56, .int .i64 x_68, .int .i64 x_80]) [.int .i64 (1 + r_7), .int .i64 (1 + r_14), .int .i64 (1 + r_21), .int .i64 x_32, .int .i64 x_44, .int .i64 x_56, .int .i64 x_68, .int .i64 x_80] #[.int .i64 (1 + r_7), .int .i64 (1 + r_14), .int .i64 (1 + r_21), .int .i64 x_32, .int .i64 x_44, .int .i64 x_56, .int .i64 x_68, .int .i64 x_80] Tryz.sizeOf24 ?_
  intro w_86 hS_87
  refine nilO <| thenK_n <| retE <| retN (vs := [.agg #[.int .i64 (1 + r_7), .int .i64 (1 + r_14), .int .i64 (1 + r_21), .int .i64 x_32, .int .i64 x_44, .int .i64 x_56, .int .i64 x_68, .int .i64 x_80]]) rfl (.cons (.cell _ _ _ _ (by kernel_rfl) (lvA hS_87 6 0 [.int .i64 (1 + r_7), .int .i64 (1 + r_14), .int .i64 (1 + r_21), .int .i64 x_32, .int .i64 x_44, .int .i64 x_56, .int .i64 x_68, .int .i64 x_80] (Tryz.isAgg24 _) (Tryz.sizeOf24 _) rfl rfl rfl)) .nil) <| ?_
  have hv : validCfg (⟨(1 + r_7), (1 + r_14), (1 + r_21), x_32, x_44, x_56, x_68, x_80⟩ : Cfg) = 0 := by unfold validCfg; rw [if_pos (by dsimp only; omega)]
  have hS_88 : Sat W _ ([(p, .cells #[.slice a n k, .int .i64 i_82] 57 (0, 0))] :: H :: F) := ((((((hS_87.dropAt 1 rfl).dropAt 1 rfl).dropAt 1 rfl).dropAt 1 rfl).dropAt 1 rfl).dropAt 1 rfl)
  exact ⟨_, rfl, hv, by dsimp only; omega, _, by omega, hS_88⟩

/-! ### histories: what a recorded farm has gone through -/
/-- After K calls: the jobs' tasks, the events, the farm. -/
inductive Tr (c : Cfg) : Nat → List (List Task) → List Evt → FS → Prop
  | nil : Tr c 0 [] [] (newF c)
  | add {K : Nat} {js : List (List Task)} {es : List Evt} {F : FS} (l : List Task) (bd : Int) : Tr c K js es F → js.length < 4 → 0 ≤ bd ∧ bd < 4 → validC l = 0 → l.length ≤ 5 → (∀ z ∈ l, z.scratch ≤ 512) →
      Tr c (K + 1) (js ++ [l]) (es ++ [⟨1, 0, 0, ((js.length : Nat) : Int), 0, 0, 0⟩]) (addF F ((js.length : Nat) : Int) l bd)
  | cancel {K : Nat} {js : List (List Task)} {es : List Evt} {F : FS} (k : Int) : Tr c K js es F → Tr c (K + 1) js (es ++ (cancelF F k).2.1) (cancelF F k).1
  | crash {K : Nat} {js : List (List Task)} {es : List Evt} {F : FS} (x : Int) : Tr c K js es F → Tr c (K + 1) js (es ++ (crashF F x).2.1) (crashF F x).1
  | restart {K : Nat} {js : List (List Task)} {es : List Evt} {F : FS} (x : Int) : Tr c K js es F → Tr c (K + 1) js (es ++ (restartF F x).2.1) (restartF F x).1
  | step {K : Nat} {js : List (List Task)} {es : List Evt} {F : FS} (x y : Int) : Tr c K js es F → Tr c (K + 1) js (es ++ (stepF F x y).2.1) (stepF F x y).1
/-- The configuration and the number of workers do not change. -/
def Same (F G : FS) : Prop := G.cfg = F.cfg ∧ G.ws.length = F.ws.length
theorem Same.take {F : FS} {x : Int} {r : Ref} : Same F (takeF F x r) := ⟨rfl, by simp [takeF]⟩
theorem Same.trans {F G H : FS} (h : Same F G) (k : Same G H) : Same F H := ⟨k.1.trans h.1, k.2.trans h.2⟩
theorem spill_same {x job band : Int} : ∀ (l : List Int) {F : FS}, Same F (spillF F x job band l)
  | [], _ => ⟨rfl, rfl⟩
  | t :: l, F => by
    have h : Same F (spill1 F x ⟨job, t⟩ band) := by unfold spill1; split <;> exact ⟨rfl, rfl⟩
    exact h.trans (spill_same l)
theorem micro_same {F : FS} {x : Int} : Same F (microF F x).1 := by
  unfold microF
  simp only
  split
  · exact ⟨rfl, by simp⟩
  · split
    · exact ⟨rfl, by simp⟩
    · split <;> exact ⟨(spill_same _).1, (spill_same _).2.trans (by simp)⟩
theorem acq_same {F F' : FS} {x c : Int} {ev : Evt} (he : acqF F x c = some (F', ev)) : Same F F' := by
  unfold acqF at he
  split at he
  · obtain ⟨rfl, _⟩ := Prod.mk.inj (Option.some.inj he); exact Same.take (F := popF F x _)
  · split at he
    · obtain ⟨rfl, _⟩ := Prod.mk.inj (Option.some.inj he); exact ⟨rfl, by simp [takeF]⟩
    · unfold stealF at he
      split at he
      · cases he
      · split at he
        · cases he
        · obtain ⟨rfl, _⟩ := Prod.mk.inj (Option.some.inj he); exact ⟨rfl, by simp [takeF, popF]⟩
theorem step_same {F : FS} {x c : Int} : Same F (stepF F x c).1 := by
  unfold stepF
  split
  · exact ⟨rfl, rfl⟩
  · split
    · exact ⟨rfl, rfl⟩
    · split
      · split
        · exact micro_same
        · exact ⟨rfl, by simp [dropF, clearF]⟩
      · unfold restF
        split
        · rename_i q hq; exact acq_same (ev := q.2) hq
        · split
          · exact Same.trans (G := helpF F) ⟨rfl, rfl⟩ micro_same
          · exact ⟨rfl, rfl⟩
theorem crash_same {F : FS} {x : Int} : Same F (crashF F x).1 := by
  unfold crashF
  split
  · exact ⟨rfl, rfl⟩
  · split
    · exact ⟨rfl, rfl⟩
    · have h : Same F (retJ F (wAt F x)) := by unfold retJ; split <;> exact ⟨rfl, rfl⟩
      exact h.trans ⟨rfl, by simp [crashW, clearF, popF]⟩
theorem restart_same {F : FS} {x : Int} : Same F (restartF F x).1 := by
  unfold restartF
  split
  · exact ⟨rfl, rfl⟩
  · split
    · exact ⟨rfl, by simp [idleF]⟩
    · exact ⟨rfl, rfl⟩
theorem cancel_same {F : FS} {k : Int} : Same F (cancelF F k).1 := by
  unfold cancelF
  split
  · exact ⟨rfl, rfl⟩
  · split <;> exact ⟨rfl, rfl⟩
def totS (S : List (Bool × Nat)) : Nat := (S.map fun q => if q.1 then q.2 else 0).sum
theorem load_le : ∀ {l : List JS}, (∀ j ∈ l, j.running = true → j.added = true) → loadL l ≤ ((totS (shapeF l) : Nat) : Int)
  | [], _ => by simp [loadL, totS, shapeF]
  | j :: l, h => by
    have ih := load_le (l := l) (fun y hy => h y (List.mem_cons_of_mem _ hy))
    have h1 := h j List.mem_cons_self
    simp only [loadL, totS, shapeF, List.map_cons, List.filter_cons, List.sum_cons] at ih ⊢
    cases hr : j.running
    · simp only [Bool.false_eq_true, if_false]; split <;> omega
    · simp only [if_true, h1 hr, List.map_cons, List.sum_cons]; omega
theorem tot_set : ∀ {S : List (Bool × Nat)} {k m n : Nat}, S[k]? = some (false, m) → totS (S.set k (true, n)) = totS S + n
  | [], _, _, _, h => by cases h
  | q :: S, 0, m, n, h => by
    simp only [List.getElem?_cons_zero, Option.some.injEq] at h
    subst h; simp [totS]; omega
  | q :: S, k + 1, m, n, h => by
    have ih := tot_set (S := S) (k := k) (m := m) (n := n) (by simpa using h)
    simp only [totS, List.set_cons_succ, List.map_cons, List.sum_cons] at ih ⊢; omega
structure RecI (c : Cfg) (F : FS) (nj : Nat) (K : Int) : Prop where
  fw : FW F K
  st : StOk F.st K
  cf : F.cfg = c
  ws : F.ws.length = c.workers.toNat
  s1 : ∀ k, nj ≤ k → k < 64 → ∃ m, (shapeF F.jobs)[k]? = some (false, m)
  s2 : totS (shapeF F.jobs) ≤ 5 * nj
  n4 : nj ≤ 4
theorem RecI.op {c : Cfg} {F G : FS} {nj : Nat} {K : Int} (h : RecI c F nj K) (ok : FW G (K + 1) ∧ StOk G.st (K + 1) ∧ shapeF G.jobs = shapeF F.jobs) (hs : Same F G) : RecI c G nj (K + 1) :=
  ⟨ok.1, ok.2.1, hs.1.trans h.cf, hs.2.trans h.ws, by rw [ok.2.2]; exact h.s1, by rw [ok.2.2]; exact h.s2, h.n4⟩
theorem Tr.inv {c : Cfg} {K : Nat} {js : List (List Task)} {es : List Evt} {F : FS} (hv : validCfg c = 0) (h : Tr c K js es F) : K ≤ 4000 → RecI c F js.length ((K : Nat) : Int) := by
  induction h with
  | nil =>
    intro _
    obtain ⟨h1, h2⟩ := newF_ok hv
    refine ⟨h1, h2, rfl, by simp [newF], ?_, ?_, by simp⟩
    · intro k _ hk
      exact ⟨0, by simp only [newF, shapeF, List.map_replicate, List.getElem?_replicate, if_pos hk]; rfl⟩
    · simp only [newF, shapeF, List.map_replicate, totS]; simp [JS.zero]
  | @add K js es F l bd _ h4 hb hl h5 hs ih =>
    intro hK
    have i := ih (by omega)
    obtain ⟨m, hm⟩ := i.s1 js.length (Nat.le_refl _) (by omega)
    have hj : ∀ j, F.jobs[((js.length : Nat) : Int).toNat]? = some j → j.added = false := by
      intro j hj
      rw [Int.toNat_natCast] at hj
      unfold shapeF at hm; rw [List.getElem?_map, hj] at hm
      exact (Prod.mk.inj (Option.some.inj hm)).1
    have a := add_ok (x := ((js.length : Nat) : Int)) (bd := bd) (l := l) i.fw (by omega) hj hb hl
    have e : shapeF (addF F ((js.length : Nat) : Int) l bd).jobs = (shapeF F.jobs).set js.length (true, l.length) := by
      simp only [addF, shapeF, List.map_set, Int.toNat_natCast, jobN, List.length_map]
    refine ⟨a.mono (by omega) (by omega), i.st.mono (by omega), i.cf, i.ws, ?_, ?_, by simp; omega⟩
    · intro k h1 h2
      rw [List.length_append, List.length_singleton] at h1
      obtain ⟨m2, hm2⟩ := i.s1 k (by omega) h2
      exact ⟨m2, by rw [e, List.getElem?_set, if_neg (by omega)]; exact hm2⟩
    · rw [e, tot_set hm, List.length_append, List.length_singleton]; have := i.s2; omega
  | cancel k _ ih => intro hK; exact (ih (by omega)).op (by have := ih (by omega); exact cancel_ok this.fw this.st (by omega)) cancel_same
  | crash x _ ih => intro hK; exact (ih (by omega)).op (by have := ih (by omega); exact crash_ok this.fw this.st (by omega)) crash_same
  | restart x _ ih => intro hK; exact (ih (by omega)).op (by have := ih (by omega); exact restart_ok this.fw this.st (by omega)) restart_same
  | step x y _ ih => intro hK; exact (ih (by omega)).op (by have := ih (by omega); exact step_ok this.fw this.st (by omega)) step_same
theorem RecI.fresh {c : Cfg} {F : FS} {nj : Nat} {K : Int} (h : RecI c F nj K) (hn : nj < 4) : ∃ j, F.jobs[((nj : Nat) : Int).toNat]? = some j ∧ j.added = false := by
  obtain ⟨m, hm⟩ := h.s1 nj (Nat.le_refl _) (by omega)
  rw [Int.toNat_natCast]
  unfold shapeF at hm; rw [List.getElem?_map] at hm
  cases hj : F.jobs[nj]? with
  | none => rw [hj] at hm; cases hm
  | some j => rw [hj] at hm; exact ⟨j, rfl, (Prod.mk.inj (Option.some.inj hm)).1⟩
theorem RecI.load {c : Cfg} {F : FS} {nj : Nat} {K : Int} (h : RecI c F nj K) : loadL F.jobs ≤ 20 := by
  have h1 := load_le (l := F.jobs) (fun j hj => (h.fw.j j hj).r)
  have h2 := h.s2
  have h3 := h.n4
  omega
theorem cancel_new {F : FS} {x bd : Int} {l : List Task} (h : F.jobs.length = 64) (hx : 0 ≤ x ∧ x < 64) : (cancelF (addF F x l bd) x).2.1 = [⟨2, 0, 0, x, 0, 0, 0⟩] := by
  rw [cancel_at (j := jobN l bd) hx (by show (F.jobs.set x.toNat _)[x.toNat]? = _; rw [List.getElem?_set, if_pos rfl, if_pos (by omega)]) rfl rfl]
theorem cancel_len {F : FS} {k : Int} : (cancelF F k).2.1.length ≤ 1 := by unfold cancelF; split; exact Nat.zero_le _; split <;> simp
theorem restart_len {F : FS} {x : Int} : (restartF F x).2.1.length ≤ 1 := by unfold restartF; split; exact Nat.zero_le _; split <;> simp
theorem crash_len {F : FS} {x : Int} : (crashF F x).2.1.length ≤ 1 := by unfold crashF; split; exact Nat.zero_le _; split <;> simp
theorem step_len {F : FS} {x c : Int} : (stepF F x c).2.1.length ≤ 2 := by
  unfold stepF
  split
  · exact Nat.zero_le _
  · split
    · exact Nat.zero_le _
    · split
      · split <;> simp
      · unfold restF; split; simp; split <;> simp
theorem l31_record {p : Nat} {a : Option Addr} {n k : Nat} {i : Int} {xs : List Int} (hR : RdT encI 1 [H] a n k xs) (hi : 0 ≤ i ∧ i ≤ n) (hS : Sat W w ([(p, .cells #[.slice a n k, .int .i64 i] 57 (0, 0))] :: H :: F)) (m0 : Int) (hm : 0 ≤ m0 ∧ m0 ≤ 60) :
    Calls Tryz.prog 7 #[.pointer (some ⟨p, 0, none⟩), .int .i64 m0] w fun e w' => ∃ (c : Cfg) (aj : Option Addr) (nj : Nat) (kj : Nat) (js : List TL) (cj : Chunk) (Gj : Chunk) (ao : Option Addr) (no : Nat) (ko : Nat) (es : List Evt) (co : Chunk), e = .returned (.tuple #[.agg (encCfg c).toArray, .slice aj nj kj, .slice ao no ko]) ∧ (validCfg c = 0) ∧ (c.workers ≤ 4 ∧ c.arena = 4096 ∧ c.tasks = 512) ∧ (OwnT encTL 45 1 aj nj kj js cj) ∧ (∀ z ∈ js, TL.Ok [Gj] z) ∧ (OwnT encEvt 43 7 ao no ko es co) ∧ (∃ (K : Nat) (F0 : FS), K ≤ 120 ∧ Tr c K (js.map (·.l.l)) es F0) ∧ ∃ i' : Int, (0 ≤ i' ∧ i' ≤ n) ∧ Sat W w' ([(p, .cells #[.slice a n k, .int .i64 i'] 57 (0, 0))] :: cj :: Gj :: co :: H :: F) := by
  have hle := hR.le
  refine callsA 119 Tryz.func7 rfl ?_
  refine seqE <| regionE ?_
  refine sAlloc hS Tryz.zeroValue24 ?_
  intro b_1 w_2 hS_3
  refine pu2 <| nilO <| thenK_n <| seqE <| regionE <| pu1 ?_
  have hS_4 := (hS_3.pick 1 rfl)
  refine cX Tryz.call16 (tg_config (RdT.flat (hR.up 1 (by rfl))) (by omega) (Sat.flat1 hS_4) ) ?_
  rintro _ w_5 ⟨c_7, rfl, hv_8, hw_9, i_10, hi_11, hS_6⟩
  have hS_12 := Sat.unflat1 hS_6
  refine sAlloc hS_12 Tryz.zeroValue24 ?_
  intro b_13 w_14 hS_15
  refine sT hS_15 0 0 (.agg (encCfg c_7).toArray) (encCfg c_7) (encCfg c_7).toArray Tryz.sizeOf24 ?_
  intro w_16 hS_17
  refine nilO <| thenK_n <| seqE <| regionE <| pu1 ?_
  refine tW hS_17 0 3 (.int .i64 4096) Tryz.sizeOf3 ?_
  intro w_18 hS_19
  refine pu1 ?_
  refine tW hS_19 0 5 (.int .i64 512) Tryz.sizeOf3 ?_
  intro w_20 hS_21
  refine nilO ?_
  obtain ⟨c, hc⟩ : ∃ z : Cfg, z = (⟨c_7.workers, c_7.tileW, c_7.tileH, 4096, c_7.deque, 512, c_7.cells, c_7.jobs⟩ : Cfg) := ⟨_, rfl⟩
  have hS_22 : Sat W w_20 ([(b_13, .cells (encCfg c).toArray 24 (0, 0))] :: [(p, .cells #[.slice a n k, .int .i64 i_10] 57 (0, 0))] :: [(b_1, .cells #[.int .i64 0, .int .i64 0, .int .i64 0, .int .i64 0, .int .i64 0, .int .i64 0, .int .i64 0, .int .i64 0] 24 (0, 0))] :: H :: F) := by subst hc; exact hS_21
  have hv : validCfg c = 0 := by have h := validCfg_zero hv_8; subst hc; unfold validCfg; rw [if_pos (by dsimp only; omega)]
  have hvc0 := validCfg_zero hv; have hw4 : c.workers ≤ 4 := (by subst hc; exact hw_9); have hc4 : c.arena = 4096 := (by subst hc; rfl); have hc5 : c.tasks = 512 := (by subst hc; rfl)
  refine thenK_n <| seqE <| regionE ?_
  refine lA hS_22 0 0 8 (Tryz.isAgg24 _) (Tryz.sizeOf24 _) ?_
  refine cX Tryz.call17 (f_new c hv hS_22) ?_
  rintro _ w_23 ⟨pf_25, M_26, rfl, hR_27, hS_24⟩
  refine pu5 <| nilO <| thenK_n <| seqE <| regionE <| pu1 <| nilO <| thenK_n <| seqE <| regionE <| pu1 <| nilO <| thenK_n <| seqE <| seqE <| regionE <| pu1 <| nilO <| thenK_n <| blockE ?_
  have hS_28 := (((hS_24.pick 1 rfl).pick 3 rfl).pick 3 rfl)
  have hS_29 : Sat W _ ([(p, .cells #[.slice a n k, .int .i64 i_10] 57 (0, 0))] :: [(b_1, .cells #[.int .i64 0, .int .i64 0, .int .i64 0, .int .i64 0, .int .i64 0, .int .i64 0, .int .i64 0, .int .i64 0] 24 (0, 0))] :: [(b_13, .cells (encCfg c).toArray 24 (0, 0))] :: M_26 :: ([] : Chunk) :: ([] : Chunk) :: ([] : Chunk) :: H :: F) := Sat.perm (show Sat W _ ([(p, .cells #[.slice a n k, .int .i64 i_10] 57 (0, 0))] :: [(b_1, .cells #[.int .i64 0, .int .i64 0, .int .i64 0, .int .i64 0, .int .i64 0, .int .i64 0, .int .i64 0, .int .i64 0] 24 (0, 0))] :: [(b_13, .cells (encCfg c).toArray 24 (0, 0))] :: M_26 :: H :: F) from hS_28) (by simp)
  refine loopA (γ := Nat × Int × Nat × FS × Chunk × (Option Addr) × Nat × Nat × (List TL) × Chunk × Chunk × (Option Addr) × Nat × Nat × (List Evt) × Chunk) (fun ⟨i, it, K, F0, M0, aj, nj, kj, js, cj, Gj, ao, no, ko, es, co⟩ => [(0, .pointer (some ⟨p, 0, none⟩)), (1, .int .i64 m0), (4, .pointer (some ⟨b_1, 0, none⟩)), (7, .pointer (some ⟨b_13, 0, none⟩)), (8, .pointer (some ⟨pf_25, 0, none⟩)), (10, .slice aj nj kj), (11, .slice ao no ko), (12, .int .i64 ((i : Nat) : Int))]) (fun ⟨i, it, K, F0, M0, aj, nj, kj, js, cj, Gj, ao, no, ko, es, co⟩ w => Sat W w ([(p, .cells #[.slice a n k, .int .i64 it] 57 (0, 0))] :: [(b_1, .cells #[.int .i64 0, .int .i64 0, .int .i64 0, .int .i64 0, .int .i64 0, .int .i64 0, .int .i64 0, .int .i64 0] 24 (0, 0))] :: [(b_13, .cells (encCfg c).toArray 24 (0, 0))] :: M0 :: cj :: Gj :: co :: H :: F) ∧ i ≤ m0.toNat ∧ (0 ≤ it ∧ it ≤ n) ∧ FarmR pf_25 F0 M0 ∧ OwnT encTL 45 1 aj nj kj js cj ∧ (∀ z ∈ js, TL.Ok [Gj] z) ∧ OwnT encEvt 43 7 ao no ko es co ∧ Tr c K (js.map (·.l.l)) es F0 ∧ K ≤ 2 * i ∧ es.length ≤ 4 * i) (fun ⟨i, it, K, F0, M0, aj, nj, kj, js, cj, Gj, ao, no, ko, es, co⟩ => m0.toNat - i) (0, i_10, 0, (newF c), M_26, none, 0, 0, [], [], [], none, 0, 0, [], []) ⟨hS_29, by omega, by omega, hR_27, OwnT.nil (fun _ => rfl), (fun z hz => by cases hz), OwnT.nil (fun _ => rfl), Tr.nil, by omega, by simp⟩ ?_
  rintro ⟨i, it, K, F0, M0, aj, nj, kj, js, cj, Gj, ao, no, ko, es, co⟩ ρ w_30 ⟨hS_31, hi, hit, hFR, hOj, hDj, hOe, hTr, hKi, hel⟩
  have hjl_ := hOj.len; have hjk_ := hOj.le; have hol_ := hOe.len; have hok_ := hOe.le; have hI := hTr.inv hv (by omega); rw [List.length_map, hjl_] at hI; have hnj := hI.n4; have hws := hI.ws
  refine seqE <| seqE <| regionE <| pu4 ?_
  refine sD 28 (((i : Nat) : Int) < m0) (fun hc_32 => ?_) (fun hc_32 => ?_)
  rotate_left
  · refine pu3 <| nilO <| thenK_n <| cFf <| exitE <| thenK_x <| thenK_x <| blockK_x <| thenK_n <| seqE <| regionE ?_
    refine lA hS_31 2 0 8 (Tryz.isAgg24 _) (Tryz.sizeOf24 _) ?_
    refine pu2 ?_
    refine sT hS_31 1 0 (.agg (encCfg c).toArray) (encCfg c) (encCfg c).toArray Tryz.sizeOf24 ?_
    intro w_360 hS_361
    refine pu2 <| nilO <| thenK_n <| retE <| retN (vs := [.agg (encCfg c).toArray, .slice aj nj kj, .slice ao no ko]) rfl (.cons (.cell _ _ _ _ (by kernel_rfl) (lvA hS_361 1 0 (encCfg c) (Tryz.isAgg24 _) (Tryz.sizeOf24 _) rfl rfl rfl)) (.cons (.tmp _ _ (by kernel_rfl)) (.cons (.tmp _ _ (by kernel_rfl)) .nil))) <| ?_
    have hS_362 := (((hS_361.dropAt 1 rfl).dropAt 1 rfl).dropAt 1 rfl)
    exact ⟨c, _, _, _, js, _, _, _, _, _, es, _, rfl, hv, ⟨hw4, hc4, hc5⟩, hOj, hDj, hOe, ⟨K, F0, by omega, hTr⟩, _, by omega, hS_362⟩
  refine pu1 <| gY ?_
  refine cX Tryz.call18 (tape_left (RdT.flat (hR.up 6 (by rfl))) (by omega) (Sat.flat1 hS_31)) ?_
  rintro _ w_33 ⟨v_35, rfl, hS_34⟩
  have hS_36 := Sat.unflat1 hS_34
  refine pu1 <| nilO <| thenK_n <| ?_
  cases v_35
  · refine cFf <| exitE <| thenK_x <| thenK_x <| blockK_x <| thenK_n <| seqE <| regionE ?_
    refine lA hS_36 2 0 8 (Tryz.isAgg24 _) (Tryz.sizeOf24 _) ?_
    refine pu2 ?_
    refine sT hS_36 1 0 (.agg (encCfg c).toArray) (encCfg c) (encCfg c).toArray Tryz.sizeOf24 ?_
    intro w_37 hS_38
    refine pu2 <| nilO <| thenK_n <| retE <| retN (vs := [.agg (encCfg c).toArray, .slice aj nj kj, .slice ao no ko]) rfl (.cons (.cell _ _ _ _ (by kernel_rfl) (lvA hS_38 1 0 (encCfg c) (Tryz.isAgg24 _) (Tryz.sizeOf24 _) rfl rfl rfl)) (.cons (.tmp _ _ (by kernel_rfl)) (.cons (.tmp _ _ (by kernel_rfl)) .nil))) <| ?_
    have hS_39 := (((hS_38.dropAt 1 rfl).dropAt 1 rfl).dropAt 1 rfl)
    exact ⟨c, _, _, _, js, _, _, _, _, _, es, _, rfl, hv, ⟨hw4, hc4, hc5⟩, hOj, hDj, hOe, ⟨K, F0, by omega, hTr⟩, _, by omega, hS_39⟩
  refine cTt <| skipE <| thenK_n <| seqE <| blockE <| seqE <| regionE <| pu2 ?_
  refine sL hS_36 2 0 (.int .i64 c.workers) (Tryz.isAgg3 _) ?_
  refine cX Tryz.call12 (tape_next (RdT.flat (hR.up 6 (by rfl))) (by omega) (Sat.flat1 hS_36) c.workers (by omega)) ?_
  rintro _ w_40 ⟨r_42, rfl, hr_43, i_44, hi_45, hS_41⟩
  have hS_46 := Sat.unflat1 hS_41
  refine pu1 <| nilO <| thenK_n <| seqE <| regionE <| pu1 <| nilO <| thenK_n <| ?_
  refine cutA (γ := Int × Nat × FS × Chunk × (Option Addr) × Nat × Nat × (List TL) × Chunk × Chunk × (Option Addr) × Nat × Nat × (List Evt) × Chunk) (fun ⟨it1, K1, F1, M1, aj1, nj1, kj1, js1, cj1, Gj1, al, nl, kl, ls, Gl⟩ => [(0, .pointer (some ⟨p, 0, none⟩)), (1, .int .i64 m0), (4, .pointer (some ⟨b_1, 0, none⟩)), (7, .pointer (some ⟨b_13, 0, none⟩)), (8, .pointer (some ⟨pf_25, 0, none⟩)), (10, .slice aj1 nj1 kj1), (11, .slice ao no ko), (12, .int .i64 ((i : Nat) : Int)), (14, .slice al nl kl)]) (fun ⟨it1, K1, F1, M1, aj1, nj1, kj1, js1, cj1, Gj1, al, nl, kl, ls, Gl⟩ w => Sat W w ([(p, .cells #[.slice a n k, .int .i64 it1] 57 (0, 0))] :: [(b_1, .cells #[.int .i64 0, .int .i64 0, .int .i64 0, .int .i64 0, .int .i64 0, .int .i64 0, .int .i64 0, .int .i64 0] 24 (0, 0))] :: [(b_13, .cells (encCfg c).toArray 24 (0, 0))] :: M1 :: cj1 :: Gj1 :: co :: Gl :: H :: F) ∧ (0 ≤ it1 ∧ it1 ≤ n) ∧ FarmR pf_25 F1 M1 ∧ OwnT encTL 45 1 aj1 nj1 kj1 js1 cj1 ∧ (∀ z ∈ js1, TL.Ok [Gj1] z) ∧ OwnT encEvt 43 7 al nl kl ls Gl ∧ Tr c K1 (js1.map (·.l.l)) (es ++ ls) F1 ∧ K1 ≤ 2 * i + 2 ∧ ls.length ≤ 4) ?_ ?_
  rotate_left
  · rintro ⟨it1, K1, F1, M1, aj1, nj1, kj1, js1, cj1, Gj1, al, nl, kl, ls, Gl⟩ ρ w_351 ⟨hS_352, hit1, hR1, hOj1, hDj1, hOl, hTr1, hKi1, hll⟩
    have hlx_ := hOl.len; have hly_ := hOl.le
    refine regionE <| pu2 ?_
    refine sApp (nb := 56) hS_352 hOe 6 (hOl.rdAt 7 rfl) Tryz.underlying26 (i := Tryz.t43) (by kernel_rfl) (fun _ => rfl) ?_
    intro a_353 cap_354 c_355 w_356 hO_357 hS_358
    refine pu1 <| nilO <| blockK_n <| thenK_n <| regionE <| pu1 ?_
    refine sAdd ((i : Nat) : Int) 1 ?_
    refine pu1 <| nilO <| thenK_n <| ?_
    have hS_359 := (hS_358.dropAt 7 rfl)
    exact ⟨(i + 1, it1, K1, F1, M1, aj1, nj1, kj1, js1, cj1, Gj1, a_353, (no + nl), cap_354, (es ++ ls), c_355), by first | omega | (dsimp only; omega), alA, hS_359, by omega, by omega, hR1, hOj1, hDj1, hO_357, hTr1, by omega, by rw [List.length_append]; omega⟩
  refine seqE <| regionE <| pu1 ?_
  refine cX Tryz.call12 (tape_next (RdT.flat (hR.up 6 (by rfl))) (by omega) (Sat.flat1 hS_46) 18 (by omega)) ?_
  rintro _ w_47 ⟨r_49, rfl, hr_50, i_51, hi_52, hS_48⟩
  have hS_53 := Sat.unflat1 hS_48
  refine nilO <| thenK_n <| blockE <| seqE <| seqE <| regionE <| pu2 <| nilO <| thenK_n <| ?_
  refine cE r_49 0 (fun hc_54 => ?_) (fun hc_54 => ?_)
  · refine skipE <| thenK_n <| ?_
    refine cT _ (beq_iff_eq.2 hc_54) ?_
    refine seqE <| regionE <| pu3 <| nilO <| thenK_n <| ?_
    refine cD (((nj : Nat) : Int) < 4) (fun hc_55 => ?_) (fun hc_55 => ?_)
    rotate_left
    · refine skipE <| blockK_n <| thenK_n <| ?_
      have hS_150 := Sat.nilc hS_53
      have hS_151 : Sat W _ ([(b_1, .cells #[.int .i64 0, .int .i64 0, .int .i64 0, .int .i64 0, .int .i64 0, .int .i64 0, .int .i64 0, .int .i64 0] 24 (0, 0))] :: [(b_13, .cells (encCfg c).toArray 24 (0, 0))] :: M0 :: cj :: Gj :: co :: ([] : Chunk) :: [(p, .cells #[.slice a n k, .int .i64 i_51] 57 (0, 0))] :: H :: F) := ((((((hS_150.pick 7 rfl).pick 7 rfl).pick 7 rfl).pick 7 rfl).pick 7 rfl).pick 7 rfl)
      have hS_152 := (hS_151.pick 7 rfl)
      exact ⟨(i_51, K, F0, M0, aj, nj, kj, js, cj, Gj, none, 0, 0, [], ([] : Chunk)), alA, hS_152, by omega, hFR, hOj, hDj, OwnT.nil (fun _ => rfl), (by rw [List.append_nil]; exact hTr), by omega, (by first | omega | (simp <;> omega))⟩
    refine seqE <| regionE <| pu1 ?_
    refine cX Tryz.call19 (tg_tasks (RdT.flat (hR.up 6 (by rfl))) (by omega) (Sat.flat1 hS_53) 5 (by omega)) ?_
    rintro _ w_56 ⟨az_58, nz_59, kz_60, zs_61, C_62, G_63, rfl, hO_64, hD_65, hV_66, hW_67, i_68, hi_69, hS_57⟩
    have hS_70 := Sat.unflat3 hS_57
    have hn_zs_61 := hO_64.len; have hl_zs_61 := hO_64.le
    refine pu1 <| nilO <| thenK_n <| seqE <| regionE <| pu5 ?_
    refine cX Tryz.call12 (tape_next (RdT.flat (hR.up 8 (by rfl))) (by omega) (Sat.flat1 hS_70) 4 (by omega)) ?_
    rintro _ w_71 ⟨r_73, rfl, hr_74, i_75, hi_76, hS_72⟩
    have hS_77 := Sat.unflat1 hS_72
    have hS_78 := (hS_77.pick 5 rfl)
    obtain ⟨j_79, hj_80, ha_81⟩ := hI.fresh (by omega)
    have hvl_82 : validC zs_61 = 0 := validC_ok (by omega) (by omega) hV_66.2.2
    have hld := hI.load; have hcf := hI.cf; have hvc0 := validCfg_zero hv
    refine cX Tryz.call20 (f_add hFR hI.fw hI.st ((nj : Nat) : Int) az_58 nz_59 kz_60 zs_61 r_73 (RdT.flat (hO_64.rdAt 1 (by rfl))) (fun z hz => (hD_65 z hz).of_mem (mem_flat1 2 (by rfl))) (by omega) hj_80 ha_81 (by omega) hvl_82 (fun z hz => by rw [hcf, hc4]; have := hW_67 z hz; omega) (by rw [hcf, hc5]; omega) (by rw [hcf, hc5]; omega) (Sat.flat1 hS_78)) ?_
    rintro _ w_83 ⟨M_86, rfl, hR_87, hS_84⟩
    have hS_85 := Sat.unflat1 hS_84
    have hTr_88 := Tr.add zs_61 r_73 hTr (by rw [List.length_map]; omega) (by omega) hvl_82 (by omega) hW_67
    rw [List.length_map, hjl_] at hTr_88
    have hI_89 := hTr_88.inv hv (by omega)
    refine nilO <| thenK_n <| seqE <| regionE <| pu3 ?_
    refine sBS hS_85 #[.int .i64 1, .int .i64 0, .int .i64 0, .int .i64 ((nj : Nat) : Int), .int .i64 0, .int .i64 0, .int .i64 0] Tryz.runUnderlying26 Tryz.sizeOf43 Tryz.zeroValue43 ?_
    intro b_90 w_91 hS_92
    refine pu1 <| nilO <| thenK_n <| seqE <| seqE <| regionE <| pu1 ?_
    have hS_93 := (hS_92.pick 2 rfl)
    refine cX Tryz.call12 (tape_next (RdT.flat (hR.up 9 (by rfl))) (by omega) (Sat.flat1 hS_93) 5 (by omega)) ?_
    rintro _ w_94 ⟨r_96, rfl, hr_97, i_98, hi_99, hS_95⟩
    have hS_100 := Sat.unflat1 hS_95
    refine pu1 <| nilO <| thenK_n <| ?_
    refine cE r_96 4 (fun hc_101 => ?_) (fun hc_101 => ?_)
    rotate_left
    · refine skipE <| thenK_n <| regionE <| pu2 ?_
      refine sBS hS_100 #[.slice az_58 nz_59 kz_60] Tryz.runUnderlying25 Tryz.sizeOf45 Tryz.zeroValue45 ?_
      intro b_137 w_138 hS_139
      refine sApp (nb := 24) hS_139 hOj 8 (RdT.blk (enc := encTL) (sz := 1) (xs := [(⟨⟨az_58, nz_59, kz_60, zs_61⟩⟩ : TL)]) (fun _ => rfl) 1 0 rfl rfl rfl (by omega)) Tryz.underlying25 (i := Tryz.t45) (by kernel_rfl) (fun _ => rfl) ?_
      intro a_140 cap_141 c_142 w_143 hO_144 hS_145
      refine pu1 <| nilO <| blockK_n <| thenK_n <| ?_
      have hO_146 := OwnT.blk (enc := encEvt) (sz := 7) (b := b_90) (c := #[.int .i64 1, .int .i64 0, .int .i64 0, .int .i64 ((nj : Nat) : Int), .int .i64 0, .int .i64 0, .int .i64 0]) (E := 43) (xs := [(⟨1, 0, 0, ((nj : Nat) : Int), 0, 0, 0⟩ : Evt)]) (fun _ => rfl) 1 rfl rfl rfl (by omega)
      have hS_147 : Sat W _ (M_86 :: c_142 :: C_62 :: G_63 :: Gj :: co :: [(b_137, .cells #[.slice az_58 nz_59 kz_60] 45 (0, 0))] :: [(p, .cells #[.slice a n k, .int .i64 i_98] 57 (0, 0))] :: [(b_90, .cells #[.int .i64 1, .int .i64 0, .int .i64 0, .int .i64 ((nj : Nat) : Int), .int .i64 0, .int .i64 0, .int .i64 0] 43 (0, 0))] :: [(b_1, .cells #[.int .i64 0, .int .i64 0, .int .i64 0, .int .i64 0, .int .i64 0, .int .i64 0, .int .i64 0, .int .i64 0] 24 (0, 0))] :: [(b_13, .cells (encCfg c).toArray 24 (0, 0))] :: H :: F) := ((((((hS_145.pick 10 rfl).pick 10 rfl).pick 7 rfl).pick 7 rfl).pick 10 rfl).pick 8 rfl)
      have hS_148 := ((((hS_147.pick 10 rfl).pick 10 rfl).pick 9 rfl).dropAt 9 rfl)
      have hS_149 : Sat W _ ([(p, .cells #[.slice a n k, .int .i64 i_98] 57 (0, 0))] :: [(b_1, .cells #[.int .i64 0, .int .i64 0, .int .i64 0, .int .i64 0, .int .i64 0, .int .i64 0, .int .i64 0, .int .i64 0] 24 (0, 0))] :: [(b_13, .cells (encCfg c).toArray 24 (0, 0))] :: M_86 :: c_142 :: (C_62 ++ (G_63 ++ Gj)) :: co :: [(b_90, .cells #[.int .i64 1, .int .i64 0, .int .i64 0, .int .i64 ((nj : Nat) : Int), .int .i64 0, .int .i64 0, .int .i64 0] 43 (0, 0))] :: H :: F) := Sat.perm (show Sat W _ ([(p, .cells #[.slice a n k, .int .i64 i_98] 57 (0, 0))] :: [(b_1, .cells #[.int .i64 0, .int .i64 0, .int .i64 0, .int .i64 0, .int .i64 0, .int .i64 0, .int .i64 0, .int .i64 0] 24 (0, 0))] :: [(b_13, .cells (encCfg c).toArray 24 (0, 0))] :: M_86 :: c_142 :: C_62 :: G_63 :: Gj :: co :: [(b_90, .cells #[.int .i64 1, .int .i64 0, .int .i64 0, .int .i64 ((nj : Nat) : Int), .int .i64 0, .int .i64 0, .int .i64 0] 43 (0, 0))] :: H :: F) from hS_148) (by simp)
      exact ⟨(i_98, K + 1, (addF F0 ((nj : Nat) : Int) zs_61 r_73), M_86, a_140, (nj + 1), cap_141, (js ++ [(⟨⟨az_58, nz_59, kz_60, zs_61⟩⟩ : TL)]), c_142, (C_62 ++ (G_63 ++ Gj)), (some ⟨b_90, 0, none⟩), 1, 1, [(⟨1, 0, 0, ((nj : Nat) : Int), 0, 0, 0⟩ : Evt)], [(b_90, .cells #[.int .i64 1, .int .i64 0, .int .i64 0, .int .i64 ((nj : Nat) : Int), .int .i64 0, .int .i64 0, .int .i64 0] 43 (0, 0))]), alA, hS_149, by omega, hR_87, hO_144, (by
          intro z hz
          rcases List.mem_append.1 hz with h | h
          · exact (hDj z h).of_mem (fun p hp => by simp at hp ⊢; simp [hp])
          · rw [List.mem_singleton.1 h]; exact ⟨(hO_64.rdAt (cs := [C_62, G_63, Gj]) 0 rfl).of_mem (fun p hp => by simp at hp ⊢; exact hp), fun y hy => (hD_65 y hy).of_mem (fun p hp => by simp at hp ⊢; simp [hp])⟩), hO_146, (by rw [List.map_append]; exact hTr_88), by omega, (by first | omega | (simp <;> omega))⟩
    refine seqE <| regionE <| pu3 ?_
    have hS_102 := (hS_100.pick 2 rfl)
    refine cX Tryz.call21 (f_cancel hR_87 hI_89.fw hI_89.st ((nj : Nat) : Int) (Sat.flat1 hS_102)) ?_
    rintro _ w_103 ⟨az_106, nz_107, kz_108, G_109, M_110, rfl, hO_111, hR_112, hS_104⟩
    have hS_105 := Sat.unflat2 hS_104; have hn_az_106 := hO_111.len; have hl_az_106 := hO_111.le
    have hTr_113 := Tr.cancel ((nj : Nat) : Int) hTr_88
    rw [cancel_new hI.fw.jl (by omega)] at hTr_113
    refine nilO <| thenK_n <| regionE <| pu4 ?_
    refine sBS hS_105 #[.int .i64 2, .int .i64 0, .int .i64 0, .int .i64 ((nj : Nat) : Int), .int .i64 0, .int .i64 0, .int .i64 0] Tryz.runUnderlying26 Tryz.sizeOf43 Tryz.zeroValue43 ?_
    intro b_114 w_115 hS_116
    have hO_117 := OwnT.blk (enc := encEvt) (sz := 7) (b := b_90) (c := #[.int .i64 1, .int .i64 0, .int .i64 0, .int .i64 ((nj : Nat) : Int), .int .i64 0, .int .i64 0, .int .i64 0]) (E := 43) (xs := [(⟨1, 0, 0, ((nj : Nat) : Int), 0, 0, 0⟩ : Evt)]) (fun _ => rfl) 1 rfl rfl rfl (by omega)
    refine sApp (nb := 56) hS_116 hO_117 4 (RdT.blk (enc := encEvt) (sz := 7) (xs := [(⟨2, 0, 0, ((nj : Nat) : Int), 0, 0, 0⟩ : Evt)]) (fun _ => rfl) 1 0 rfl rfl rfl (by omega)) Tryz.underlying26 (i := Tryz.t43) (by kernel_rfl) (fun _ => rfl) ?_
    intro a_118 cap_119 c_120 w_121 hO_122 hS_123
    refine pu1 <| nilO <| thenK_n <| regionE <| pu2 ?_
    refine sBS hS_123 #[.slice az_58 nz_59 kz_60] Tryz.runUnderlying25 Tryz.sizeOf45 Tryz.zeroValue45 ?_
    intro b_124 w_125 hS_126
    refine sApp (nb := 24) hS_126 hOj 10 (RdT.blk (enc := encTL) (sz := 1) (xs := [(⟨⟨az_58, nz_59, kz_60, zs_61⟩⟩ : TL)]) (fun _ => rfl) 1 0 rfl rfl rfl (by omega)) Tryz.underlying25 (i := Tryz.t45) (by kernel_rfl) (fun _ => rfl) ?_
    intro a_127 cap_128 c_129 w_130 hO_131 hS_132
    refine pu1 <| nilO <| blockK_n <| thenK_n <| ?_
    have hS_133 : Sat W _ (M_110 :: c_129 :: C_62 :: G_63 :: Gj :: co :: [(b_124, .cells #[.slice az_58 nz_59 kz_60] 45 (0, 0))] :: [(b_114, .cells #[.int .i64 2, .int .i64 0, .int .i64 0, .int .i64 ((nj : Nat) : Int), .int .i64 0, .int .i64 0, .int .i64 0] 43 (0, 0))] :: G_109 :: [(p, .cells #[.slice a n k, .int .i64 i_98] 57 (0, 0))] :: c_120 :: [(b_1, .cells #[.int .i64 0, .int .i64 0, .int .i64 0, .int .i64 0, .int .i64 0, .int .i64 0, .int .i64 0, .int .i64 0] 24 (0, 0))] :: [(b_13, .cells (encCfg c).toArray 24 (0, 0))] :: H :: F) := ((((((hS_132.pick 12 rfl).pick 12 rfl).pick 9 rfl).pick 9 rfl).pick 12 rfl).pick 8 rfl)
    have hS_134 : Sat W _ ([(p, .cells #[.slice a n k, .int .i64 i_98] 57 (0, 0))] :: [(b_1, .cells #[.int .i64 0, .int .i64 0, .int .i64 0, .int .i64 0, .int .i64 0, .int .i64 0, .int .i64 0, .int .i64 0] 24 (0, 0))] :: [(b_13, .cells (encCfg c).toArray 24 (0, 0))] :: M_110 :: c_129 :: C_62 :: G_63 :: Gj :: co :: c_120 :: H :: F) := ((((((hS_133.pick 12 rfl).pick 12 rfl).pick 11 rfl).dropAt 9 rfl).dropAt 9 rfl).dropAt 9 rfl)
    have hS_136 : Sat W _ ([(p, .cells #[.slice a n k, .int .i64 i_98] 57 (0, 0))] :: [(b_1, .cells #[.int .i64 0, .int .i64 0, .int .i64 0, .int .i64 0, .int .i64 0, .int .i64 0, .int .i64 0, .int .i64 0] 24 (0, 0))] :: [(b_13, .cells (encCfg c).toArray 24 (0, 0))] :: M_110 :: c_129 :: (C_62 ++ (G_63 ++ Gj)) :: co :: c_120 :: H :: F) := Sat.perm (show Sat W _ ([(p, .cells #[.slice a n k, .int .i64 i_98] 57 (0, 0))] :: [(b_1, .cells #[.int .i64 0, .int .i64 0, .int .i64 0, .int .i64 0, .int .i64 0, .int .i64 0, .int .i64 0, .int .i64 0] 24 (0, 0))] :: [(b_13, .cells (encCfg c).toArray 24 (0, 0))] :: M_110 :: c_129 :: C_62 :: G_63 :: Gj :: co :: c_120 :: H :: F) from hS_134) (by simp)
    exact ⟨(i_98, K + 1 + 1, (cancelF (addF F0 ((nj : Nat) : Int) zs_61 r_73) ((nj : Nat) : Int)).1, M_110, a_127, (nj + 1), cap_128, (js ++ [(⟨⟨az_58, nz_59, kz_60, zs_61⟩⟩ : TL)]), c_129, (C_62 ++ (G_63 ++ Gj)), a_118, (1 + 1), cap_119, ([(⟨1, 0, 0, ((nj : Nat) : Int), 0, 0, 0⟩ : Evt)] ++ [(⟨2, 0, 0, ((nj : Nat) : Int), 0, 0, 0⟩ : Evt)]), c_120), alA, hS_136, by omega, hR_112, hO_131, (by
        intro z hz
        rcases List.mem_append.1 hz with h | h
        · exact (hDj z h).of_mem (fun p hp => by simp at hp ⊢; simp [hp])
        · rw [List.mem_singleton.1 h]; exact ⟨(hO_64.rdAt (cs := [C_62, G_63, Gj]) 0 rfl).of_mem (fun p hp => by simp at hp ⊢; exact hp), fun y hy => (hD_65 y hy).of_mem (fun p hp => by simp at hp ⊢; simp [hp])⟩), hO_122, (by rw [List.map_append]; rw [List.append_assoc] at hTr_113; exact hTr_113), by omega, (by first | omega | (simp <;> omega))⟩
  refine regionE <| pu2 <| nilO <| thenK_n <| ?_
  refine cE r_49 1 (fun hc_153 => ?_) (fun hc_153 => ?_)
  rotate_left
  · refine seqE <| regionE <| pu2 <| nilO <| thenK_n <| ?_
    refine cE r_49 2 (fun hc_252 => ?_) (fun hc_252 => ?_)
    · refine regionE <| pu2 ?_
      have hS_253 := (hS_53.pick 3 rfl)
      refine cX Tryz.call22 (f_crash hFR hI.fw hI.st r_42 (by have := hI.ws; omega) (Sat.flat1 hS_253)) ?_
      rintro _ w_254 ⟨az_257, nz_258, kz_259, G_260, M_261, rfl, hO_262, hR_263, hS_255⟩
      have hS_256 := Sat.unflat2 hS_255; have hn_az_257 := hO_262.len; have hl_az_257 := hO_262.le
      have hTr_264 := Tr.crash r_42 hTr
      have hlc := crash_len (F := F0) (x := r_42)
      refine pu4 <| nilO <| blockK_n <| thenK_n <| ?_
      have hS_265 : Sat W _ ([(b_1, .cells #[.int .i64 0, .int .i64 0, .int .i64 0, .int .i64 0, .int .i64 0, .int .i64 0, .int .i64 0, .int .i64 0] 24 (0, 0))] :: [(b_13, .cells (encCfg c).toArray 24 (0, 0))] :: M_261 :: cj :: Gj :: co :: G_260 :: [(p, .cells #[.slice a n k, .int .i64 i_51] 57 (0, 0))] :: H :: F) := ((((((hS_256.pick 7 rfl).pick 7 rfl).pick 7 rfl).pick 4 rfl).pick 7 rfl).pick 7 rfl)
      have hS_266 := (hS_265.pick 7 rfl)
      exact ⟨(i_51, K + 1, (crashF F0 r_42).1, M_261, aj, nj, kj, js, cj, Gj, az_257, nz_258, kz_259, (crashF F0 r_42).2.1, G_260), alA, hS_266, by omega, hR_263, hOj, hDj, hO_262, hTr_264, by omega, (by first | omega | (simp <;> omega))⟩
    refine seqE <| seqE <| regionE <| pu2 <| nilO <| thenK_n <| ?_
    refine cE r_49 3 (fun hc_267 => ?_) (fun hc_267 => ?_)
    · refine skipE <| thenK_n <| ?_
      refine cT _ (beq_iff_eq.2 hc_267) ?_
      refine regionE <| pu2 ?_
      have hS_268 := (hS_53.pick 3 rfl)
      refine cX Tryz.call23 (f_restart hFR hI.fw hI.st r_42 (Sat.flat1 hS_268)) ?_
      rintro _ w_269 ⟨az_272, nz_273, kz_274, G_275, M_276, rfl, hO_277, hR_278, hS_270⟩
      have hS_271 := Sat.unflat2 hS_270; have hn_az_272 := hO_277.len; have hl_az_272 := hO_277.le
      have hTr_279 := Tr.restart r_42 hTr
      have hlc := restart_len (F := F0) (x := r_42)
      refine pu4 <| nilO <| blockK_n <| thenK_n <| ?_
      have hS_280 : Sat W _ ([(b_1, .cells #[.int .i64 0, .int .i64 0, .int .i64 0, .int .i64 0, .int .i64 0, .int .i64 0, .int .i64 0, .int .i64 0] 24 (0, 0))] :: [(b_13, .cells (encCfg c).toArray 24 (0, 0))] :: M_276 :: cj :: Gj :: co :: G_275 :: [(p, .cells #[.slice a n k, .int .i64 i_51] 57 (0, 0))] :: H :: F) := ((((((hS_271.pick 7 rfl).pick 7 rfl).pick 7 rfl).pick 4 rfl).pick 7 rfl).pick 7 rfl)
      have hS_281 := (hS_280.pick 7 rfl)
      exact ⟨(i_51, K + 1, (restartF F0 r_42).1, M_276, aj, nj, kj, js, cj, Gj, az_272, nz_273, kz_274, (restartF F0 r_42).2.1, G_275), alA, hS_281, by omega, hR_278, hOj, hDj, hO_277, hTr_279, by omega, (by first | omega | (simp <;> omega))⟩
    refine regionE <| pu2 <| nilO <| thenK_n <| ?_
    refine cE r_49 4 (fun hc_282 => ?_) (fun hc_282 => ?_)
    · refine regionE <| pu2 ?_
      have hS_283 := (hS_53.pick 3 rfl)
      refine cX Tryz.call23 (f_restart hFR hI.fw hI.st r_42 (Sat.flat1 hS_283)) ?_
      rintro _ w_284 ⟨az_287, nz_288, kz_289, G_290, M_291, rfl, hO_292, hR_293, hS_285⟩
      have hS_286 := Sat.unflat2 hS_285; have hn_az_287 := hO_292.len; have hl_az_287 := hO_292.le
      have hTr_294 := Tr.restart r_42 hTr
      have hlc := restart_len (F := F0) (x := r_42)
      refine pu4 <| nilO <| blockK_n <| thenK_n <| ?_
      have hS_295 : Sat W _ ([(b_1, .cells #[.int .i64 0, .int .i64 0, .int .i64 0, .int .i64 0, .int .i64 0, .int .i64 0, .int .i64 0, .int .i64 0] 24 (0, 0))] :: [(b_13, .cells (encCfg c).toArray 24 (0, 0))] :: M_291 :: cj :: Gj :: co :: G_290 :: [(p, .cells #[.slice a n k, .int .i64 i_51] 57 (0, 0))] :: H :: F) := ((((((hS_286.pick 7 rfl).pick 7 rfl).pick 7 rfl).pick 4 rfl).pick 7 rfl).pick 7 rfl)
      have hS_296 := (hS_295.pick 7 rfl)
      exact ⟨(i_51, K + 1, (restartF F0 r_42).1, M_291, aj, nj, kj, js, cj, Gj, az_287, nz_288, kz_289, (restartF F0 r_42).2.1, G_290), alA, hS_296, by omega, hR_293, hOj, hDj, hO_292, hTr_294, by omega, (by first | omega | (simp <;> omega))⟩
    refine seqE <| regionE <| pu2 <| nilO <| thenK_n <| ?_
    refine cE r_49 5 (fun hc_297 => ?_) (fun hc_297 => ?_)
    rotate_left
    · refine regionE <| pu3 ?_
      refine cX Tryz.call12 (tape_next (RdT.flat (hR.up 6 (by rfl))) (by omega) (Sat.flat1 hS_53) 9 (by omega)) ?_
      rintro _ w_330 ⟨r_332, rfl, hr_333, i_334, hi_335, hS_331⟩
      have hS_336 := Sat.unflat1 hS_331
      have hS_337 := (hS_336.pick 3 rfl)
      refine cX Tryz.call24 (f_step hFR hI.fw hI.st r_42 r_332 (Sat.flat1 hS_337)) ?_
      rintro _ w_338 ⟨az_341, nz_342, kz_343, G_344, M_345, rfl, hO_346, hR_347, hS_339⟩
      have hS_340 := Sat.unflat2 hS_339; have hn_az_341 := hO_346.len; have hl_az_341 := hO_346.le
      have hTr_348 := Tr.step r_42 r_332 hTr
      have hlc := step_len (F := F0) (x := r_42) (c := r_332)
      refine pu4 <| nilO <| blockK_n <| thenK_n <| ?_
      have hS_349 : Sat W _ ([(b_1, .cells #[.int .i64 0, .int .i64 0, .int .i64 0, .int .i64 0, .int .i64 0, .int .i64 0, .int .i64 0, .int .i64 0] 24 (0, 0))] :: [(b_13, .cells (encCfg c).toArray 24 (0, 0))] :: M_345 :: cj :: Gj :: co :: G_344 :: [(p, .cells #[.slice a n k, .int .i64 i_334] 57 (0, 0))] :: H :: F) := ((((((hS_340.pick 7 rfl).pick 7 rfl).pick 7 rfl).pick 4 rfl).pick 7 rfl).pick 7 rfl)
      have hS_350 := (hS_349.pick 7 rfl)
      exact ⟨(i_334, K + 1, (stepF F0 r_42 r_332).1, M_345, aj, nj, kj, js, cj, Gj, az_341, nz_342, kz_343, (stepF F0 r_42 r_332).2.1, G_344), alA, hS_350, by omega, hR_347, hOj, hDj, hO_346, hTr_348, by omega, (by first | omega | (simp <;> omega))⟩
    refine seqE <| regionE <| pu1 ?_
    refine cX Tryz.call12 (tape_next (RdT.flat (hR.up 6 (by rfl))) (by omega) (Sat.flat1 hS_53) 3 (by omega)) ?_
    rintro _ w_298 ⟨r_300, rfl, hr_301, i_302, hi_303, hS_299⟩
    have hS_304 := Sat.unflat1 hS_299
    refine pu1 <| nilO <| thenK_n <| ?_
    refine cE r_300 2 (fun hc_305 => ?_) (fun hc_305 => ?_)
    rotate_left
    · refine skipE <| blockK_n <| thenK_n <| ?_
      have hS_327 := Sat.nilc hS_304
      have hS_328 : Sat W _ ([(b_1, .cells #[.int .i64 0, .int .i64 0, .int .i64 0, .int .i64 0, .int .i64 0, .int .i64 0, .int .i64 0, .int .i64 0] 24 (0, 0))] :: [(b_13, .cells (encCfg c).toArray 24 (0, 0))] :: M0 :: cj :: Gj :: co :: ([] : Chunk) :: [(p, .cells #[.slice a n k, .int .i64 i_302] 57 (0, 0))] :: H :: F) := ((((((hS_327.pick 7 rfl).pick 7 rfl).pick 7 rfl).pick 7 rfl).pick 7 rfl).pick 7 rfl)
      have hS_329 := (hS_328.pick 7 rfl)
      exact ⟨(i_302, K, F0, M0, aj, nj, kj, js, cj, Gj, none, 0, 0, [], ([] : Chunk)), alA, hS_329, by omega, hFR, hOj, hDj, OwnT.nil (fun _ => rfl), (by rw [List.append_nil]; exact hTr), by omega, (by first | omega | (simp <;> omega))⟩
    refine regionE <| pu2 ?_
    refine cX Tryz.call12 (tape_next (RdT.flat (hR.up 6 (by rfl))) (by omega) (Sat.flat1 hS_304) 4 (by omega)) ?_
    rintro _ w_306 ⟨r_308, rfl, hr_309, i_310, hi_311, hS_307⟩
    have hS_312 := Sat.unflat1 hS_307
    have hS_313 := (hS_312.pick 3 rfl)
    refine cX Tryz.call21 (f_cancel hFR hI.fw hI.st r_308 (Sat.flat1 hS_313)) ?_
    rintro _ w_314 ⟨az_317, nz_318, kz_319, G_320, M_321, rfl, hO_322, hR_323, hS_315⟩
    have hS_316 := Sat.unflat2 hS_315; have hn_az_317 := hO_322.len; have hl_az_317 := hO_322.le
    have hTr_324 := Tr.cancel r_308 hTr
    have hlc := cancel_len (F := F0) (k := r_308)
    refine pu4 <| nilO <| blockK_n <| thenK_n <| ?_
    have hS_325 : Sat W _ ([(b_1, .cells #[.int .i64 0, .int .i64 0, .int .i64 0, .int .i64 0, .int .i64 0, .int .i64 0, .int .i64 0, .int .i64 0] 24 (0, 0))] :: [(b_13, .cells (encCfg c).toArray 24 (0, 0))] :: M_321 :: cj :: Gj :: co :: G_320 :: [(p, .cells #[.slice a n k, .int .i64 i_310] 57 (0, 0))] :: H :: F) := ((((((hS_316.pick 7 rfl).pick 7 rfl).pick 7 rfl).pick 4 rfl).pick 7 rfl).pick 7 rfl)
    have hS_326 := (hS_325.pick 7 rfl)
    exact ⟨(i_310, K + 1, (cancelF F0 r_308).1, M_321, aj, nj, kj, js, cj, Gj, az_317, nz_318, kz_319, (cancelF F0 r_308).2.1, G_320), alA, hS_326, by omega, hR_323, hOj, hDj, hO_322, hTr_324, by omega, (by first | omega | (simp <;> omega))⟩
  refine seqE <| regionE <| pu3 <| nilO <| thenK_n <| ?_
  refine cD (((nj : Nat) : Int) < 4) (fun hc_154 => ?_) (fun hc_154 => ?_)
  rotate_left
  · refine skipE <| blockK_n <| thenK_n <| ?_
    have hS_249 := Sat.nilc hS_53
    have hS_250 : Sat W _ ([(b_1, .cells #[.int .i64 0, .int .i64 0, .int .i64 0, .int .i64 0, .int .i64 0, .int .i64 0, .int .i64 0, .int .i64 0] 24 (0, 0))] :: [(b_13, .cells (encCfg c).toArray 24 (0, 0))] :: M0 :: cj :: Gj :: co :: ([] : Chunk) :: [(p, .cells #[.slice a n k, .int .i64 i_51] 57 (0, 0))] :: H :: F) := ((((((hS_249.pick 7 rfl).pick 7 rfl).pick 7 rfl).pick 7 rfl).pick 7 rfl).pick 7 rfl)
    have hS_251 := (hS_250.pick 7 rfl)
    exact ⟨(i_51, K, F0, M0, aj, nj, kj, js, cj, Gj, none, 0, 0, [], ([] : Chunk)), alA, hS_251, by omega, hFR, hOj, hDj, OwnT.nil (fun _ => rfl), (by rw [List.append_nil]; exact hTr), by omega, (by first | omega | (simp <;> omega))⟩
  refine seqE <| regionE <| pu1 ?_
  refine cX Tryz.call19 (tg_tasks (RdT.flat (hR.up 6 (by rfl))) (by omega) (Sat.flat1 hS_53) 5 (by omega)) ?_
  rintro _ w_155 ⟨az_157, nz_158, kz_159, zs_160, C_161, G_162, rfl, hO_163, hD_164, hV_165, hW_166, i_167, hi_168, hS_156⟩
  have hS_169 := Sat.unflat3 hS_156
  have hn_zs_160 := hO_163.len; have hl_zs_160 := hO_163.le
  refine pu1 <| nilO <| thenK_n <| seqE <| regionE <| pu5 ?_
  refine cX Tryz.call12 (tape_next (RdT.flat (hR.up 8 (by rfl))) (by omega) (Sat.flat1 hS_169) 4 (by omega)) ?_
  rintro _ w_170 ⟨r_172, rfl, hr_173, i_174, hi_175, hS_171⟩
  have hS_176 := Sat.unflat1 hS_171
  have hS_177 := (hS_176.pick 5 rfl)
  obtain ⟨j_178, hj_179, ha_180⟩ := hI.fresh (by omega)
  have hvl_181 : validC zs_160 = 0 := validC_ok (by omega) (by omega) hV_165.2.2
  have hld := hI.load; have hcf := hI.cf; have hvc0 := validCfg_zero hv
  refine cX Tryz.call20 (f_add hFR hI.fw hI.st ((nj : Nat) : Int) az_157 nz_158 kz_159 zs_160 r_172 (RdT.flat (hO_163.rdAt 1 (by rfl))) (fun z hz => (hD_164 z hz).of_mem (mem_flat1 2 (by rfl))) (by omega) hj_179 ha_180 (by omega) hvl_181 (fun z hz => by rw [hcf, hc4]; have := hW_166 z hz; omega) (by rw [hcf, hc5]; omega) (by rw [hcf, hc5]; omega) (Sat.flat1 hS_177)) ?_
  rintro _ w_182 ⟨M_185, rfl, hR_186, hS_183⟩
  have hS_184 := Sat.unflat1 hS_183
  have hTr_187 := Tr.add zs_160 r_172 hTr (by rw [List.length_map]; omega) (by omega) hvl_181 (by omega) hW_166
  rw [List.length_map, hjl_] at hTr_187
  have hI_188 := hTr_187.inv hv (by omega)
  refine nilO <| thenK_n <| seqE <| regionE <| pu3 ?_
  refine sBS hS_184 #[.int .i64 1, .int .i64 0, .int .i64 0, .int .i64 ((nj : Nat) : Int), .int .i64 0, .int .i64 0, .int .i64 0] Tryz.runUnderlying26 Tryz.sizeOf43 Tryz.zeroValue43 ?_
  intro b_189 w_190 hS_191
  refine pu1 <| nilO <| thenK_n <| seqE <| seqE <| regionE <| pu1 ?_
  have hS_192 := (hS_191.pick 2 rfl)
  refine cX Tryz.call12 (tape_next (RdT.flat (hR.up 9 (by rfl))) (by omega) (Sat.flat1 hS_192) 5 (by omega)) ?_
  rintro _ w_193 ⟨r_195, rfl, hr_196, i_197, hi_198, hS_194⟩
  have hS_199 := Sat.unflat1 hS_194
  refine pu1 <| nilO <| thenK_n <| ?_
  refine cE r_195 4 (fun hc_200 => ?_) (fun hc_200 => ?_)
  rotate_left
  · refine skipE <| thenK_n <| regionE <| pu2 ?_
    refine sBS hS_199 #[.slice az_157 nz_158 kz_159] Tryz.runUnderlying25 Tryz.sizeOf45 Tryz.zeroValue45 ?_
    intro b_236 w_237 hS_238
    refine sApp (nb := 24) hS_238 hOj 8 (RdT.blk (enc := encTL) (sz := 1) (xs := [(⟨⟨az_157, nz_158, kz_159, zs_160⟩⟩ : TL)]) (fun _ => rfl) 1 0 rfl rfl rfl (by omega)) Tryz.underlying25 (i := Tryz.t45) (by kernel_rfl) (fun _ => rfl) ?_
    intro a_239 cap_240 c_241 w_242 hO_243 hS_244
    refine pu1 <| nilO <| blockK_n <| thenK_n <| ?_
    have hO_245 := OwnT.blk (enc := encEvt) (sz := 7) (b := b_189) (c := #[.int .i64 1, .int .i64 0, .int .i64 0, .int .i64 ((nj : Nat) : Int), .int .i64 0, .int .i64 0, .int .i64 0]) (E := 43) (xs := [(⟨1, 0, 0, ((nj : Nat) : Int), 0, 0, 0⟩ : Evt)]) (fun _ => rfl) 1 rfl rfl rfl (by omega)
    have hS_246 : Sat W _ (M_185 :: c_241 :: C_161 :: G_162 :: Gj :: co :: [(b_236, .cells #[.slice az_157 nz_158 kz_159] 45 (0, 0))] :: [(p, .cells #[.slice a n k, .int .i64 i_197] 57 (0, 0))] :: [(b_189, .cells #[.int .i64 1, .int .i64 0, .int .i64 0, .int .i64 ((nj : Nat) : Int), .int .i64 0, .int .i64 0, .int .i64 0] 43 (0, 0))] :: [(b_1, .cells #[.int .i64 0, .int .i64 0, .int .i64 0, .int .i64 0, .int .i64 0, .int .i64 0, .int .i64 0, .int .i64 0] 24 (0, 0))] :: [(b_13, .cells (encCfg c).toArray 24 (0, 0))] :: H :: F) := ((((((hS_244.pick 10 rfl).pick 10 rfl).pick 7 rfl).pick 7 rfl).pick 10 rfl).pick 8 rfl)
    have hS_247 := ((((hS_246.pick 10 rfl).pick 10 rfl).pick 9 rfl).dropAt 9 rfl)
    have hS_248 : Sat W _ ([(p, .cells #[.slice a n k, .int .i64 i_197] 57 (0, 0))] :: [(b_1, .cells #[.int .i64 0, .int .i64 0, .int .i64 0, .int .i64 0, .int .i64 0, .int .i64 0, .int .i64 0, .int .i64 0] 24 (0, 0))] :: [(b_13, .cells (encCfg c).toArray 24 (0, 0))] :: M_185 :: c_241 :: (C_161 ++ (G_162 ++ Gj)) :: co :: [(b_189, .cells #[.int .i64 1, .int .i64 0, .int .i64 0, .int .i64 ((nj : Nat) : Int), .int .i64 0, .int .i64 0, .int .i64 0] 43 (0, 0))] :: H :: F) := Sat.perm (show Sat W _ ([(p, .cells #[.slice a n k, .int .i64 i_197] 57 (0, 0))] :: [(b_1, .cells #[.int .i64 0, .int .i64 0, .int .i64 0, .int .i64 0, .int .i64 0, .int .i64 0, .int .i64 0, .int .i64 0] 24 (0, 0))] :: [(b_13, .cells (encCfg c).toArray 24 (0, 0))] :: M_185 :: c_241 :: C_161 :: G_162 :: Gj :: co :: [(b_189, .cells #[.int .i64 1, .int .i64 0, .int .i64 0, .int .i64 ((nj : Nat) : Int), .int .i64 0, .int .i64 0, .int .i64 0] 43 (0, 0))] :: H :: F) from hS_247) (by simp)
    exact ⟨(i_197, K + 1, (addF F0 ((nj : Nat) : Int) zs_160 r_172), M_185, a_239, (nj + 1), cap_240, (js ++ [(⟨⟨az_157, nz_158, kz_159, zs_160⟩⟩ : TL)]), c_241, (C_161 ++ (G_162 ++ Gj)), (some ⟨b_189, 0, none⟩), 1, 1, [(⟨1, 0, 0, ((nj : Nat) : Int), 0, 0, 0⟩ : Evt)], [(b_189, .cells #[.int .i64 1, .int .i64 0, .int .i64 0, .int .i64 ((nj : Nat) : Int), .int .i64 0, .int .i64 0, .int .i64 0] 43 (0, 0))]), alA, hS_248, by omega, hR_186, hO_243, (by
        intro z hz
        rcases List.mem_append.1 hz with h | h
        · exact (hDj z h).of_mem (fun p hp => by simp at hp ⊢; simp [hp])
        · rw [List.mem_singleton.1 h]; exact ⟨(hO_163.rdAt (cs := [C_161, G_162, Gj]) 0 rfl).of_mem (fun p hp => by simp at hp ⊢; exact hp), fun y hy => (hD_164 y hy).of_mem (fun p hp => by simp at hp ⊢; simp [hp])⟩), hO_245, (by rw [List.map_append]; exact hTr_187), by omega, (by first | omega | (simp <;> omega))⟩
  refine seqE <| regionE <| pu3 ?_
  have hS_201 := (hS_199.pick 2 rfl)
  refine cX Tryz.call21 (f_cancel hR_186 hI_188.fw hI_188.st ((nj : Nat) : Int) (Sat.flat1 hS_201)) ?_
  rintro _ w_202 ⟨az_205, nz_206, kz_207, G_208, M_209, rfl, hO_210, hR_211, hS_203⟩
  have hS_204 := Sat.unflat2 hS_203; have hn_az_205 := hO_210.len; have hl_az_205 := hO_210.le
  have hTr_212 := Tr.cancel ((nj : Nat) : Int) hTr_187
  rw [cancel_new hI.fw.jl (by omega)] at hTr_212
  refine nilO <| thenK_n <| regionE <| pu4 ?_
  refine sBS hS_204 #[.int .i64 2, .int .i64 0, .int .i64 0, .int .i64 ((nj : Nat) : Int), .int .i64 0, .int .i64 0, .int .i64 0] Tryz.runUnderlying26 Tryz.sizeOf43 Tryz.zeroValue43 ?_
  intro b_213 w_214 hS_215
  have hO_216 := OwnT.blk (enc := encEvt) (sz := 7) (b := b_189) (c := #[.int .i64 1, .int .i64 0, .int .i64 0, .int .i64 ((nj : Nat) : Int), .int .i64 0, .int .i64 0, .int .i64 0]) (E := 43) (xs := [(⟨1, 0, 0, ((nj : Nat) : Int), 0, 0, 0⟩ : Evt)]) (fun _ => rfl) 1 rfl rfl rfl (by omega)
  refine sApp (nb := 56) hS_215 hO_216 4 (RdT.blk (enc := encEvt) (sz := 7) (xs := [(⟨2, 0, 0, ((nj : Nat) : Int), 0, 0, 0⟩ : Evt)]) (fun _ => rfl) 1 0 rfl rfl rfl (by omega)) Tryz.underlying26 (i := Tryz.t43) (by kernel_rfl) (fun _ => rfl) ?_
  intro a_217 cap_218 c_219 w_220 hO_221 hS_222
  refine pu1 <| nilO <| thenK_n <| regionE <| pu2 ?_
  refine sBS hS_222 #[.slice az_157 nz_158 kz_159] Tryz.runUnderlying25 Tryz.sizeOf45 Tryz.zeroValue45 ?_
  intro b_223 w_224 hS_225
  refine sApp (nb := 24) hS_225 hOj 10 (RdT.blk (enc := encTL) (sz := 1) (xs := [(⟨⟨az_157, nz_158, kz_159, zs_160⟩⟩ : TL)]) (fun _ => rfl) 1 0 rfl rfl rfl (by omega)) Tryz.underlying25 (i := Tryz.t45) (by kernel_rfl) (fun _ => rfl) ?_
  intro a_226 cap_227 c_228 w_229 hO_230 hS_231
  refine pu1 <| nilO <| blockK_n <| thenK_n <| ?_
  have hS_232 : Sat W _ (M_209 :: c_228 :: C_161 :: G_162 :: Gj :: co :: [(b_223, .cells #[.slice az_157 nz_158 kz_159] 45 (0, 0))] :: [(b_213, .cells #[.int .i64 2, .int .i64 0, .int .i64 0, .int .i64 ((nj : Nat) : Int), .int .i64 0, .int .i64 0, .int .i64 0] 43 (0, 0))] :: G_208 :: [(p, .cells #[.slice a n k, .int .i64 i_197] 57 (0, 0))] :: c_219 :: [(b_1, .cells #[.int .i64 0, .int .i64 0, .int .i64 0, .int .i64 0, .int .i64 0, .int .i64 0, .int .i64 0, .int .i64 0] 24 (0, 0))] :: [(b_13, .cells (encCfg c).toArray 24 (0, 0))] :: H :: F) := ((((((hS_231.pick 12 rfl).pick 12 rfl).pick 9 rfl).pick 9 rfl).pick 12 rfl).pick 8 rfl)
  have hS_233 : Sat W _ ([(p, .cells #[.slice a n k, .int .i64 i_197] 57 (0, 0))] :: [(b_1, .cells #[.int .i64 0, .int .i64 0, .int .i64 0, .int .i64 0, .int .i64 0, .int .i64 0, .int .i64 0, .int .i64 0] 24 (0, 0))] :: [(b_13, .cells (encCfg c).toArray 24 (0, 0))] :: M_209 :: c_228 :: C_161 :: G_162 :: Gj :: co :: c_219 :: H :: F) := ((((((hS_232.pick 12 rfl).pick 12 rfl).pick 11 rfl).dropAt 9 rfl).dropAt 9 rfl).dropAt 9 rfl)
  have hS_235 : Sat W _ ([(p, .cells #[.slice a n k, .int .i64 i_197] 57 (0, 0))] :: [(b_1, .cells #[.int .i64 0, .int .i64 0, .int .i64 0, .int .i64 0, .int .i64 0, .int .i64 0, .int .i64 0, .int .i64 0] 24 (0, 0))] :: [(b_13, .cells (encCfg c).toArray 24 (0, 0))] :: M_209 :: c_228 :: (C_161 ++ (G_162 ++ Gj)) :: co :: c_219 :: H :: F) := Sat.perm (show Sat W _ ([(p, .cells #[.slice a n k, .int .i64 i_197] 57 (0, 0))] :: [(b_1, .cells #[.int .i64 0, .int .i64 0, .int .i64 0, .int .i64 0, .int .i64 0, .int .i64 0, .int .i64 0, .int .i64 0] 24 (0, 0))] :: [(b_13, .cells (encCfg c).toArray 24 (0, 0))] :: M_209 :: c_228 :: C_161 :: G_162 :: Gj :: co :: c_219 :: H :: F) from hS_233) (by simp)
  exact ⟨(i_197, K + 1 + 1, (cancelF (addF F0 ((nj : Nat) : Int) zs_160 r_172) ((nj : Nat) : Int)).1, M_209, a_226, (nj + 1), cap_227, (js ++ [(⟨⟨az_157, nz_158, kz_159, zs_160⟩⟩ : TL)]), c_228, (C_161 ++ (G_162 ++ Gj)), a_217, (1 + 1), cap_218, ([(⟨1, 0, 0, ((nj : Nat) : Int), 0, 0, 0⟩ : Evt)] ++ [(⟨2, 0, 0, ((nj : Nat) : Int), 0, 0, 0⟩ : Evt)]), c_219), alA, hS_235, by omega, hR_211, hO_230, (by
      intro z hz
      rcases List.mem_append.1 hz with h | h
      · exact (hDj z h).of_mem (fun p hp => by simp at hp ⊢; simp [hp])
      · rw [List.mem_singleton.1 h]; exact ⟨(hO_163.rdAt (cs := [C_161, G_162, Gj]) 0 rfl).of_mem (fun p hp => by simp at hp ⊢; exact hp), fun y hy => (hD_164 y hy).of_mem (fun p hp => by simp at hp ⊢; simp [hp])⟩), hO_221, (by rw [List.map_append]; rw [List.append_assoc] at hTr_212; exact hTr_212), by omega, (by first | omega | (simp <;> omega))⟩
end Go.Proofs.YtimkhljglpookaaGreat
