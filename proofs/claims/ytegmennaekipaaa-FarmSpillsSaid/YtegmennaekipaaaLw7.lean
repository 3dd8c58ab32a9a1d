import Derived.Test.YtegmennaekipaaaLwf
namespace Go.Proofs.Ytegmennaekipaaa
open Go Go.E
set_option linter.unusedVariables false
set_option linter.unusedSimpArgs false
set_option linter.unnecessarySimpa false
set_option maxRecDepth 100000
set_option maxHeartbeats 2000000
variable {W w : World} {H : Chunk} {F : List Chunk}
def tk1 : TaskV := ⟨0, 0, 0, 0, 0, 0, [], 1, 0⟩
def singleV (n : Nat) : List TaskV := List.replicate n tk1 ++ [⟨0, 0, 0, 0, 0, 0, allK n, 1, 0⟩]
def fanV (n : Nat) : List TaskV := tk1 :: List.replicate n ⟨0, 0, 0, 0, 0, 0, [0], 1, 0⟩
def taskOKV (i : Int) (t : TaskV) : Bool := decide ((1 ≤ t.rows ∧ t.rows ≤ 128) ∧ 0 ≤ t.scratch) && ascFrom i (-1) t.deps
def tasksOKV : Int → List TaskV → Bool
  | _, [] => true
  | i, t :: l => taskOKV i t && tasksOKV (i + 1) l
def validV (l : List TaskV) : Int := if l.length = 0 ∨ 4096 < l.length then 5 else if tasksOKV 0 l then 0 else 1
theorem valid_v (l : List Task) : validC l = validV (l.map Task.v) := by
  have h : ∀ (l : List Task) (i : Int), tasksOK i l = tasksOKV i (l.map Task.v) := by
    intro l
    induction l with
    | nil => intro i; rfl
    | cons t l ih => intro i; rw [List.map_cons]; unfold tasksOK tasksOKV; rw [ih]; rfl
  unfold validC validV; rw [h, List.length_map]
theorem scr_v {l : List Task} {n : Int} (h : ∀ z ∈ l.map Task.v, z.scratch ≤ n) : ∀ z ∈ l, z.scratch ≤ n := fun z hz => h z.v (List.mem_map.2 ⟨z, hz, rfl⟩)
theorem len_v {l : List Task} {m : List TaskV} (h : l.map Task.v = m) : l.length = m.length := by rw [← h, List.length_map]
/-- The configuration and the number of workers do not change. -/
def Same (F G : FS) : Prop := G.cfg = F.cfg ∧ G.ws.length = F.ws.length
theorem Same.take {F : FS} {x : Int} {r : Ref} : Same F (takeF F x r) := ⟨rfl, by simp [takeF]⟩
theorem Same.trans {F G H : FS} (h : Same F G) (k : Same G H) : Same F H := ⟨k.1.trans h.1, k.2.trans h.2⟩
theorem spill_same {x job band : Int} : ∀ (l : List Int) {F : FS}, Same F (spillF F x job band l)
  | [], _ => ⟨rfl, rfl⟩
  | t :: l, F => by
    have h : Same F (spill1 F x ⟨job, t⟩ band) := by unfold spill1; split <;> exact ⟨rfl, rfl⟩
    exact h.trans (spill_same l)
theorem micro_same {F : FS} {x : Int} : Same F (microF F x).1 := by
  unfold microF
  simp only
  split
  · exact ⟨rfl, by simp⟩
  · split
    · exact ⟨rfl, by simp⟩
    · split <;> exact ⟨(spill_same _).1, (spill_same _).2.trans (by simp)⟩
theorem acq_same {F F' : FS} {x c : Int} {ev : Evt} (he : acqF F x c = some (F', ev)) : Same F F' := by
  unfold acqF at he
  split at he
  · obtain ⟨rfl, _⟩ := Prod.mk.inj (Option.some.inj he); exact Same.take (F := popF F x _)
  · split at he
    · obtain ⟨rfl, _⟩ := Prod.mk.inj (Option.some.inj he); exact ⟨rfl, by simp [takeF]⟩
    · unfold stealF at he
      split at he
      · cases he
      · split at he
        · cases he
        · obtain ⟨rfl, _⟩ := Prod.mk.inj (Option.some.inj he); exact ⟨rfl, by simp [takeF, popF]⟩
theorem step_same {F : FS} {x c : Int} : Same F (stepF F x c).1 := by
  unfold stepF
  split
  · exact ⟨rfl, rfl⟩
  · split
    · exact ⟨rfl, rfl⟩
    · split
      · split
        · exact micro_same
        · exact ⟨rfl, by simp [dropF, clearF]⟩
      · unfold restF
        split
        · rename_i q hq; exact acq_same (ev := q.2) hq
        · split
          · exact Same.trans (G := helpF F) ⟨rfl, rfl⟩ micro_same
          · exact ⟨rfl, rfl⟩
theorem crash_same {F : FS} {x : Int} : Same F (crashF F x).1 := by
  unfold crashF
  split
  · exact ⟨rfl, rfl⟩
  · split
    · exact ⟨rfl, rfl⟩
    · have h : Same F (retJ F (wAt F x)) := by unfold retJ; split <;> exact ⟨rfl, rfl⟩
      exact h.trans ⟨rfl, by simp [crashW, clearF, popF]⟩
theorem restart_same {F : FS} {x : Int} : Same F (restartF F x).1 := by
  unfold restartF
  split
  · exact ⟨rfl, rfl⟩
  · split
    · exact ⟨rfl, by simp [idleF]⟩
    · exact ⟨rfl, rfl⟩
theorem cancel_same {F : FS} {k : Int} : Same F (cancelF F k).1 := by
  unfold cancelF
  split
  · exact ⟨rfl, rfl⟩
  · split <;> exact ⟨rfl, rfl⟩
/-! FarmSpills: m tasks behind the first, deques for s -/
def spS (m : Nat) (s : Int) : Nat → FS
  | 0 => addV (newF ⟨3, 4, 4, 1024, s, 100, 100, 8⟩) 0 (fanV m) 2
  | k + 1 => (stepF (spS m s k) 1 0).1
def refs (k : Int) (n : Nat) : List Ref := (List.range n).map fun i => (⟨0, k + ((i : Nat) : Int)⟩ : Ref)
def spEv (m : Nat) (s : Int) : List Evt × Int := if min (m : Int) s < m then ([⟨4, 2, 0, 0, 0, 1 + min (m : Int) s, 0⟩], 0) else ([⟨5, 2, 1, 0, 0, 1, 0⟩], 0)
def spOK (m : Nat) (s : Int) : Bool := decide (dequeF (spS m s 4) 1 = refs 1 (min (m : Int) s).toNat) && decide (bandQ (spS m s 4).q 2 = refs (1 + min (m : Int) s) ((m : Int) - min (m : Int) s).toNat) && decide ((statsF (spS m s 4)).spills = (m : Int) - min (m : Int) s) &&
  decide ((stepF (spS m s 4) 2 0).2 = spEv m s) && decide ((stepF (spS m s 4) 2 1).2 = spEv m s) && decide ((stepF (spS m s 4) 2 2).2 = spEv m s)
theorem sp_all : ∀ (a : Fin 6) (b : Fin 4), spOK (a.val + 1) ((b.val : Int) + 1) = true := by decide +kernel
theorem sp_ok {m : Nat} {s : Int} (hm : 1 ≤ m ∧ m ≤ 6) (hs : 1 ≤ s ∧ s ≤ 4) : dequeF (spS m s 4) 1 = refs 1 (min (m : Int) s).toNat ∧ bandQ (spS m s 4).q 2 = refs (1 + min (m : Int) s) ((m : Int) - min (m : Int) s).toNat ∧ (statsF (spS m s 4)).spills = (m : Int) - min (m : Int) s ∧ ∀ r : Int, 0 ≤ r ∧ r < 3 → (stepF (spS m s 4) 2 r).2 = spEv m s := by
  have h := sp_all ⟨m - 1, by omega⟩ ⟨(s - 1).toNat, by omega⟩
  dsimp only at h
  rw [show m - 1 + 1 = m by omega, show (((s - 1).toNat : Nat) : Int) + 1 = s by omega] at h
  unfold spOK at h
  simp only [Bool.and_eq_true, decide_eq_true_eq] at h
  obtain ⟨⟨⟨⟨⟨h1, h2⟩, h3⟩, h4⟩, h5⟩, h6⟩ := h
  exact ⟨h1, h2, h3, fun r hr => three (P := fun r => (stepF (spS m s 4) 2 r).2 = spEv m s) h4 h5 h6 hr⟩
theorem sp_len (m : Nat) (s : Int) : ∀ k, (spS m s k).ws.length = 3
  | 0 => rfl
  | k + 1 => by unfold spS; rw [step_same.2]; exact sp_len m s k
theorem refs_len {k : Int} {n : Nat} : (refs k n).length = n := by unfold refs; simp
theorem refs_at {k : Int} {n i : Nat} {x : Ref} (h : (refs k n)[i]? = some x) : x.job = 0 ∧ x.task = k + ((i : Nat) : Int) := by
  unfold refs at h
  rw [List.getElem?_map] at h
  cases hr : (List.range n)[i]? with
  | none => rw [hr] at h; cases h
  | some y =>
    rw [hr] at h
    obtain ⟨h3, h4⟩ := List.getElem?_eq_some_iff.1 hr
    rw [List.getElem_range] at h4
    obtain rfl := Option.some.inj h
    exact ⟨rfl, by rw [h4]⟩
theorem fan_step (i : Nat) : fanV (i + 1) = fanV i ++ [⟨0, 0, 0, 0, 0, 0, [0], 1, 0⟩] := by unfold fanV; rw [List.replicate_succ']; rfl
theorem fan_valid {m : Nat} (hm : 1 ≤ m ∧ m ≤ 6) : validV (fanV m) = 0 ∧ (fanV m).length ≤ 7 ∧ ∀ z ∈ fanV m, z.scratch ≤ 1024 := by
  have h : ∀ a : Fin 6, validV (fanV (a.val + 1)) = 0 ∧ (fanV (a.val + 1)).length ≤ 7 ∧ ∀ z ∈ fanV (a.val + 1), z.scratch ≤ 1024 := by decide
  have := h ⟨m - 1, by omega⟩
  dsimp only at this
  rw [show m - 1 + 1 = m by omega] at this; exact this
theorem fan_one (m : Int) : [tk1] = fanV 0 := rfl
theorem sp_last {m : Nat} {s c : Int} (hm : 1 ≤ m ∧ m ≤ 6) (hs : 1 ≤ s ∧ s ≤ 4) : ∃ k f t : Int, (stepF (spS m s 4) 2 c).2 = ([⟨k, 2, f, 0, 0, t, 0⟩], 0) ∧ ((min (m : Int) s < m ∧ k = 4 ∧ f = 0 ∧ t = 1 + min (m : Int) s) ∨ (¬ min (m : Int) s < m ∧ k = 5 ∧ f = 1 ∧ t = 1)) := by
  rw [step_norm (by rw [sp_len]; decide), sp_len, (sp_ok hm hs).2.2.2 _ (norm_bd (n := 3) (by decide))]
  unfold spEv
  by_cases h : min (m : Int) s < m
  · exact ⟨4, 0, 1 + min (m : Int) s, by rw [if_pos h], .inl ⟨h, rfl, rfl, rfl⟩⟩
  · exact ⟨5, 1, 1, by rw [if_neg h], .inr ⟨h, rfl, rfl, rfl⟩⟩
set_option maxHeartbeats 6000000
theorem l27_fan {cs : List Chunk} (m : Int) (hm : 1 ≤ m ∧ m ≤ 6) (hS : Sat W w cs) :
    Calls Try.prog 25 #[.int .i64 m] w fun e w' => ∃ (az : Option Addr) (nz kz : Nat) (zs : List Task) (C G : Chunk), e = .returned (.slice az nz kz) ∧ OwnT encTask 31 9 az nz kz zs C ∧ (∀ z ∈ zs, Task.Ok [G] z) ∧ zs.map Task.v = fanV m.toNat ∧ Sat W w' (C :: G :: cs) := by
  refine callsA 18 Try.func25 rfl ?_
  refine seqE <| regionE <| pu1 <| nilO <| thenK_n <| seqE <| regionE <| pu1 ?_
  refine sBS hS #[.int .i64 0, .int .i64 0, .int .i64 0, .int .i64 0, .int .i64 0, .int .i64 0, .slice none 0 0, .int .i64 1, .int .i64 0] Try.runUnderlying23 Try.sizeOf31 Try.zeroValue31 ?_
  intro b_1 w_2 hS_3
  refine pu1 <| nilO ?_
  have hS_4 := Sat.nilc hS_3
  refine thenK_n <| seqE <| seqE <| regionE <| pu1 <| nilO <| thenK_n <| blockE ?_
  have hO_5 := OwnT.blk (enc := encTask) (sz := 9) (b := b_1) (c := #[.int .i64 0, .int .i64 0, .int .i64 0, .int .i64 0, .int .i64 0, .int .i64 0, .slice none 0 0, .int .i64 1, .int .i64 0]) (E := 31) (xs := [(⟨0, 0, 0, 0, 0, 0, ⟨none, 0, 0, []⟩, 1, 0⟩ : Task)]) (fun _ => rfl) 1 rfl rfl rfl (by omega)
  have hS_6 := (hS_4.pick 1 rfl)
  have hS_7 := (hS_6.pick 1 rfl)
  refine loopA (γ := Nat × (List Task) × (Option Addr) × Nat × Nat × Chunk × Chunk) (fun ⟨i, zs, azs, nzs, kzs, czs, Gzs⟩ => [(0, .int .i64 m), (4, .int .i64 ((i : Nat) : Int)), (3, .slice azs nzs kzs)]) (fun ⟨i, zs, azs, nzs, kzs, czs, Gzs⟩ w => Sat W w (Gzs :: czs :: cs) ∧ i ≤ m.toNat ∧ (zs.map Task.v = fanV i) ∧ (zs.length = i + 1) ∧ OwnT encTask 31 9 azs nzs kzs zs czs ∧ (∀ z ∈ zs, Task.Ok [Gzs] z)) (fun ⟨i, zs, azs, nzs, kzs, czs, Gzs⟩ => m.toNat - i) (0, [(⟨0, 0, 0, 0, 0, 0, ⟨none, 0, 0, []⟩, 1, 0⟩ : Task)], (some ⟨b_1, 0, none⟩), 1, 1, [(b_1, .cells #[.int .i64 0, .int .i64 0, .int .i64 0, .int .i64 0, .int .i64 0, .int .i64 0, .slice none 0 0, .int .i64 1, .int .i64 0] 31 (0, 0))], []) ⟨hS_7, by omega, rfl, rfl, hO_5, (fun z hz => by rcases List.mem_singleton.1 hz with rfl; exact ⟨RdT.nil (enc := encI) (sz := 1) (fun _ => rfl) _⟩)⟩ ?_
  rintro ⟨i, zs, azs, nzs, kzs, czs, Gzs⟩ ρ w_8 ⟨hS_9, hi, hV, hzl, hOzs, hDzs⟩
  have hn_zs := hOzs.len; have hl_zs := hOzs.le
  refine seqE <| seqE <| regionE <| pu3 <| nilO <| thenK_n <| ?_
  refine cD (((i : Nat) : Int) < m) (fun hc_10 => ?_) (fun hc_10 => ?_)
  rotate_left
  · refine exitE <| thenK_x <| thenK_x <| blockK_x <| thenK_n <| seqE <| regionE <| pu2 <| nilO <| thenK_n <| retE <| retT [.slice azs nzs kzs] <| ?_
    have hS_25 := (hS_9.pick 1 rfl)
    exact ⟨_, _, _, _, _, _, rfl, hOzs, hDzs, by rw [hV, show m.toNat = i by omega], hS_25⟩
  refine skipE <| thenK_n <| seqE <| blockE <| regionE <| pu1 ?_
  refine sBS hS_9 #[.int .i64 0] Try.runUnderlying22 Try.sizeOf3 Try.zeroValue3 ?_
  intro b_11 w_12 hS_13
  refine pu1 ?_
  refine sBS hS_13 #[.int .i64 0, .int .i64 0, .int .i64 0, .int .i64 0, .int .i64 0, .int .i64 0, .slice (some ⟨b_11, 0, none⟩) 1 1, .int .i64 1, .int .i64 0] Try.runUnderlying23 Try.sizeOf31 Try.zeroValue31 ?_
  intro b_14 w_15 hS_16
  refine sApp (nb := 88) hS_16 hOzs 3 (RdT.blk (enc := encTask) (sz := 9) (xs := [(⟨0, 0, 0, 0, 0, 0, ⟨(some ⟨b_11, 0, none⟩), 1, 1, [0]⟩, 1, 0⟩ : Task)]) (fun _ => rfl) 1 0 rfl rfl rfl (by omega)) Try.underlying23 (i := Try.t31) (by kernel_rfl) (fun _ => rfl) ?_
  intro a_17 cap_18 c_19 w_20 hO_21 hS_22
  refine pu1 <| nilO <| blockK_n <| thenK_n <| regionE <| pu1 ?_
  refine sAdd ((i : Nat) : Int) 1 ?_
  refine pu1 <| nilO <| thenK_n <| ?_
  have hS_23 := (hS_22.dropAt 0 rfl)
  have hS_24 := (Sat.perm (cs' := ([(b_11, .cells #[.int .i64 0] 3 (0, 0))] ++ Gzs) :: (c_19 :: cs)) hS_23 (by simp))
  exact ⟨(i + 1, (zs ++ [(⟨0, 0, 0, 0, 0, 0, ⟨(some ⟨b_11, 0, none⟩), 1, 1, [0]⟩, 1, 0⟩ : Task)]), a_17, (nzs + 1), cap_18, c_19, ([(b_11, .cells #[.int .i64 0] 3 (0, 0))] ++ Gzs)), by first | omega | (dsimp only; omega), alA, hS_24, by omega, (by rw [List.map_append, hV, fan_step]; rfl), by simp; omega, hO_21, (by
      intro z hz
      rcases List.mem_append.1 hz with h | h
      · exact (hDzs z h).of_mem (fun p hp => by simp at hp ⊢; simp [hp])
      · simp only [List.mem_singleton] at h; subst h; exact ⟨RdT.of_mem (cs := [[(b_11, Obj.cells #[.int .i64 0] 3 (0, 0))]]) (RdT.blk (enc := encI) (sz := 1) (xs := [0]) (fun _ => rfl) 1 0 rfl rfl rfl (by omega)) (fun p hp => by simp at hp ⊢; simp [hp])⟩)⟩
theorem l27_spills (W w : World) (H : Chunk) (F : List Chunk) (n : Int) (size : Int) (choice : Int) (_hn : -9223372036854775808 ≤ n ∧ n ≤ 9223372036854775807) (_hsize : -9223372036854775808 ≤ size ∧ size ≤ 9223372036854775807) (_hchoice : -9223372036854775808 ≤ choice ∧ choice ≤ 9223372036854775807) (hS : Sat W w (H :: F)) :
    Calls Try.prog 5 #[.int .i64 n, .int .i64 size, .int .i64 choice] w fun e w' => e = .returned (.bool true) ∧ Sat W w' (H :: F) := by
  refine callsA 146 Try.func5 rfl ?_
  refine seqE <| regionE <| pu1 <| nilO <| thenK_n <| seqE <| regionE <| pu1 ?_
  refine cX Try.call18 (mod_ok n 6 (by omega) (by omega) hS) ?_
  rintro _ w_1 ⟨r_3, rfl, hr_4, hS_2⟩
  refine sAdd 1 r_3 ?_
  refine pu1 <| nilO ?_
  obtain ⟨mn, hmn⟩ : ∃ n : Nat, (1 + r_3) = ((n : Nat) : Int) := ⟨((1 + r_3)).toNat, by omega⟩; rw [hmn]; have hm6 : 1 ≤ mn ∧ mn ≤ 6 := (by omega); have hfv := fan_valid hm6
  refine thenK_n <| seqE <| regionE ?_
  refine cX Try.call20 (l27_config 3 hS_2) ?_
  rintro _ w_5 ⟨rfl, hS_6⟩
  refine sAlloc hS_6 Try.zeroValue41 ?_
  intro b_7 w_8 hS_9
  refine sT hS_9 0 0 (.agg #[.int .i64 3, .int .i64 4, .int .i64 4, .int .i64 1024, .int .i64 2, .int .i64 100, .int .i64 100, .int .i64 8]) [.int .i64 3, .int .i64 4, .int .i64 4, .int .i64 1024, .int .i64 2, .int .i64 100, .int .i64 100, .int .i64 8] #[.int .i64 3, .int .i64 4, .int .i64 4, .int .i64 1024, .int .i64 2, .int .i64 100, .int .i64 100, .int .i64 8] Try.sizeOf41 ?_
  intro w_10 hS_11
  refine nilO <| thenK_n <| seqE <| regionE <| pu1 ?_
  refine cX Try.call18 (mod_ok size 4 (by omega) (by omega) hS_11) ?_
  rintro _ w_12 ⟨r_14, rfl, hr_15, hS_13⟩
  refine sAdd 1 r_14 ?_
  refine pu1 ?_
  refine tW hS_13 0 4 (.int .i64 (1 + r_14)) Try.sizeOf3 ?_
  intro w_16 hS_17
  refine nilO ?_
  have hs4 : 1 ≤ (1 + r_14) ∧ (1 + r_14) ≤ 4 := (by omega); obtain ⟨hsp1, hsp2, hsp3, _⟩ := sp_ok hm6 hs4
  refine thenK_n <| seqE <| regionE ?_
  refine lA hS_17 0 0 8 (Try.isAgg41 _) (Try.sizeOf41 _) ?_
  have hv_23 : validCfg (⟨3, 4, 4, 1024, (1 + r_14), 100, 100, 8⟩ : Cfg) = 0 := by unfold validCfg; rw [if_pos (by dsimp only; omega)]
  refine cX Try.call19 (pf_new (⟨3, 4, 4, 1024, (1 + r_14), 100, 100, 8⟩ : Cfg) hv_23 hS_17) ?_
  rintro _ w_18 ⟨p_20, M_21, rfl, hR_22, hS_19⟩
  have hJ_24 := FJ.new hv_23
  refine pu5 <| nilO <| thenK_n <| seqE <| seqE <| regionE <| pu9 <| gY ?_
  refine cX Try.call25 (l27_fan ((mn : Nat) : Int) (by omega) hS_19) ?_
  rintro _ w_25 ⟨az_27, nz_28, kz_29, zs_30, C_31, G_32, rfl, hO_33, hD_34, hV_35, hS_26⟩
  have hn_az_27 := hO_33.len; have hl_az_27 := hO_33.le; rw [Int.toNat_natCast] at hV_35
  refine gY ?_
  have hS_36 := (hS_26.pick 2 rfl)
  have p_43 : 0 ≤ (0 : Int) ∧ (0 : Int) < 64 := by decide
  have p_46 : 0 ≤ (2 : Int) ∧ (2 : Int) < 4 := by decide
  have p_47 : validC zs_30 = 0 := by rw [valid_v, hV_35]; exact hfv.1
  have p_48 : ∀ z ∈ zs_30, z.scratch ≤ (newF (⟨3, 4, 4, 1024, (1 + r_14), 100, 100, 8⟩ : Cfg)).cfg.arena := scr_v (n := 1024) (by rw [hV_35]; exact hfv.2.2)
  have p_49 : 0 ≤ (newF (⟨3, 4, 4, 1024, (1 + r_14), 100, 100, 8⟩ : Cfg)).cfg.tasks ∧ (newF (⟨3, 4, 4, 1024, (1 + r_14), 100, 100, 8⟩ : Cfg)).cfg.tasks ≤ 4096 := by show (0 : Int) ≤ 100 ∧ (100 : Int) ≤ 4096; decide
  have p_50 : ((zs_30.length : Nat) : Int) ≤ (newF (⟨3, 4, 4, 1024, (1 + r_14), 100, 100, 8⟩ : Cfg)).cfg.tasks - loadL (newF (⟨3, 4, 4, 1024, (1 + r_14), 100, 100, 8⟩ : Cfg)).jobs := by rw [len_v hV_35, load_new0]; show _ ≤ (100 : Int) - 0; have := hfv.2.1; omega
  have p_51 : zs_30.length ≤ 12 := by rw [len_v hV_35]; exact Nat.le_trans hfv.2.1 (by decide)
  have p_44 : (newF (⟨3, 4, 4, 1024, (1 + r_14), 100, 100, 8⟩ : Cfg)).jobs[((0 : Int)).toNat]? = some JS.zero := rfl
  have p_45 : JS.added JS.zero = false := rfl
  refine cX Try.call21 (pf_add hR_22 hJ_24.i 0 az_27 nz_28 kz_29 zs_30 2 (RdT.flat (hO_33.rdAt 0 (by rfl))) (fun z hz => (hD_34 z hz).of_mem (mem_flat1 1 (by rfl))) p_43 p_44 p_45 p_46 p_47 p_48 p_49 p_50  (Sat.flat1 hS_36)) ?_
  rintro _ w_37 ⟨M_40, rfl, hR_41, hS_38⟩
  have hS_39 := Sat.unflat1 hS_38
  have hJ_42 := hJ_24.add p_43 p_44 p_45 p_46 p_47 p_48 p_50 p_51
  have hR_52 : FarmP p_20 (spS mn (1 + r_14) 0) M_40 := by rw [show spS mn (1 + r_14) 0 = addF (newF (⟨3, 4, 4, 1024, (1 + r_14), 100, 100, 8⟩ : Cfg)) 0 zs_30 2 from by rw [addF_v, hV_35]; rfl]; exact hR_41
  have hJ_53 : FJ (spS mn (1 + r_14) 0) 0 1 := by rw [show spS mn (1 + r_14) 0 = addF (newF (⟨3, 4, 4, 1024, (1 + r_14), 100, 100, 8⟩ : Cfg)) 0 zs_30 2 from by rw [addF_v, hV_35]; rfl]; exact hJ_42
  refine pu2 <| nilO <| thenK_n <| cFf <| skipE <| thenK_n <| seqE <| seqE <| regionE <| pu1 <| nilO <| thenK_n <| blockE ?_
  refine loopN 5 ?_
  refine roundS ?_
  refine seqE <| seqE <| regionE <| pu2 <| nilO <| thenK_n <| cTt <| skipE <| thenK_n <| seqE <| blockE <| regionE <| pu1 ?_
  refine cX Try.call23 (pf_step hR_52 hJ_53.i 1 0 hJ_53.t (by omega) (Sat.flat1 hS_39)) ?_
  rintro _ w_54 ⟨az_57, nz_58, kz_59, Z_60, M_61, rfl, hO_62, hR_63, hS_55⟩
  have hS_56 := Sat.unflat2 hS_55; have hn_az_57 := hO_62.len; have hl_az_57 := hO_62.le
  have hJ_64 := FJ.step (x := 1) (c := 0) hJ_53 (by omega)
  have hS_65 := hS_56.dropAt 0 rfl
  have hR_66 : FarmP p_20 (spS mn (1 + r_14) 1) M_61 := by skip; exact hR_63
  have hJ_67 : FJ (spS mn (1 + r_14) 1) 1 1 := by skip; exact hJ_64
  refine nilO <| blockK_n <| thenK_n <| regionE <| pu3 <| nilO <| thenK_n <| ?_
  refine roundS ?_
  refine seqE <| seqE <| regionE <| pu2 <| nilO <| thenK_n <| cTt <| skipE <| thenK_n <| seqE <| blockE <| regionE <| pu1 ?_
  refine cX Try.call23 (pf_step hR_66 hJ_67.i 1 0 hJ_67.t (by omega) (Sat.flat1 hS_65)) ?_
  rintro _ w_68 ⟨az_71, nz_72, kz_73, Z_74, M_75, rfl, hO_76, hR_77, hS_69⟩
  have hS_70 := Sat.unflat2 hS_69; have hn_az_71 := hO_76.len; have hl_az_71 := hO_76.le
  have hJ_78 := FJ.step (x := 1) (c := 0) hJ_67 (by omega)
  have hS_79 := hS_70.dropAt 0 rfl
  have hR_80 : FarmP p_20 (spS mn (1 + r_14) 2) M_75 := by skip; exact hR_77
  have hJ_81 : FJ (spS mn (1 + r_14) 2) 2 1 := by skip; exact hJ_78
  refine nilO <| blockK_n <| thenK_n <| regionE <| pu3 <| nilO <| thenK_n <| ?_
  refine roundS ?_
  refine seqE <| seqE <| regionE <| pu2 <| nilO <| thenK_n <| cTt <| skipE <| thenK_n <| seqE <| blockE <| regionE <| pu1 ?_
  refine cX Try.call23 (pf_step hR_80 hJ_81.i 1 0 hJ_81.t (by omega) (Sat.flat1 hS_79)) ?_
  rintro _ w_82 ⟨az_85, nz_86, kz_87, Z_88, M_89, rfl, hO_90, hR_91, hS_83⟩
  have hS_84 := Sat.unflat2 hS_83; have hn_az_85 := hO_90.len; have hl_az_85 := hO_90.le
  have hJ_92 := FJ.step (x := 1) (c := 0) hJ_81 (by omega)
  have hS_93 := hS_84.dropAt 0 rfl
  have hR_94 : FarmP p_20 (spS mn (1 + r_14) 3) M_89 := by skip; exact hR_91
  have hJ_95 : FJ (spS mn (1 + r_14) 3) 3 1 := by skip; exact hJ_92
  refine nilO <| blockK_n <| thenK_n <| regionE <| pu3 <| nilO <| thenK_n <| ?_
  refine roundS ?_
  refine seqE <| seqE <| regionE <| pu2 <| nilO <| thenK_n <| cTt <| skipE <| thenK_n <| seqE <| blockE <| regionE <| pu1 ?_
  refine cX Try.call23 (pf_step hR_94 hJ_95.i 1 0 hJ_95.t (by omega) (Sat.flat1 hS_93)) ?_
  rintro _ w_96 ⟨az_99, nz_100, kz_101, Z_102, M_103, rfl, hO_104, hR_105, hS_97⟩
  have hS_98 := Sat.unflat2 hS_97; have hn_az_99 := hO_104.len; have hl_az_99 := hO_104.le
  have hJ_106 := FJ.step (x := 1) (c := 0) hJ_95 (by omega)
  have hS_107 := hS_98.dropAt 0 rfl
  have hR_108 : FarmP p_20 (spS mn (1 + r_14) 4) M_103 := by skip; exact hR_105
  have hJ_109 : FJ (spS mn (1 + r_14) 4) 4 1 := by skip; exact hJ_106
  refine nilO <| blockK_n <| thenK_n <| regionE <| pu3 <| nilO <| thenK_n <| ?_
  refine roundS ?_
  refine seqE <| seqE <| regionE <| pu2 <| nilO <| thenK_n <| cFf <| exitE <| thenK_x <| thenK_x <| blockK_x <| thenK_n <| seqE <| regionE <| pu1 ?_
  refine cX Try.call26 (pf_deque hR_108 hJ_109.i 1  (Sat.flat1 hS_107)) ?_
  rintro _ w_110 ⟨az_113, nz_114, kz_115, Z_116, rfl, hO_117, hS_111⟩
  have hS_112 := Sat.unflat2 hS_111; have hn_az_113 := hO_117.len; have hl_az_113 := hO_117.le
  refine pu1 ?_
  have hS_118 := (hS_112.pick 1 rfl)
  refine cX Try.call27 (pf_queue hR_108 hJ_109.i 2  (Sat.flat1 hS_118)) ?_
  rintro _ w_119 ⟨az_122, nz_123, kz_124, Z_125, rfl, hO_126, hS_120⟩
  have hS_121 := Sat.unflat2 hS_120; have hn_az_122 := hO_126.len; have hl_az_122 := hO_126.le
  refine pu2 <| nilO ?_
  have hO_127 : OwnT encRef 48 2 az_113 nz_114 kz_115 (refs 1 (min ((mn : Nat) : Int) (1 + r_14)).toNat) Z_116 := by rw [← hsp1]; exact hO_117
  have hnn_az_113 := hO_127.len; rw [refs_len] at hnn_az_113
  have hO_128 : OwnT encRef 48 2 az_122 nz_123 kz_124 (refs (1 + min ((mn : Nat) : Int) (1 + r_14)) (((mn : Nat) : Int) - min ((mn : Nat) : Int) (1 + r_14)).toNat) Z_125 := by rw [← hsp2]; exact hO_126
  have hnn_az_122 := hO_128.len; rw [refs_len] at hnn_az_122
  refine thenK_n <| seqE <| regionE <| pu2 ?_
  refine sL hS_121 5 4 (.int .i64 (1 + r_14)) (Try.isAgg3 _) ?_
  refine stepY (.int .i64 (min ((mn : Nat) : Int) (1 + r_14))) rfl rfl (Y_min2 ((mn : Nat) : Int) (1 + r_14) rfl rfl (by kernel_rfl) (by kernel_rfl)) ?_
  refine pu1 <| nilO <| thenK_n <| seqE <| seqE <| regionE <| pu5 ?_
  refine sN 63 ((nz_114 : Nat) : Int) (min ((mn : Nat) : Int) (1 + r_14)) (fun hc_129 => ?_) (fun hc_129 => ?_)
  rotate_left
  · refine pu16 <| nilO <| thenK_n <| cTt <| seqE <| regionE <| pu1 <| nilO <| thenK_n <| retE <| thenK_r <| retT [.bool false] <| ?_
    first | omega
  refine pu4 <| gY ?_
  refine sSub ((mn : Nat) : Int) (min ((mn : Nat) : Int) (1 + r_14)) ?_
  refine pu3 ?_
  refine sN 71 ((nz_123 : Nat) : Int) (((mn : Nat) : Int) - (min ((mn : Nat) : Int) (1 + r_14))) (fun hc_130 => ?_) (fun hc_130 => ?_)
  rotate_left
  · refine pu8 <| nilO <| thenK_n <| cTt <| seqE <| regionE <| pu1 <| nilO <| thenK_n <| retE <| thenK_r <| retT [.bool false] <| ?_
    first | omega
  refine pu1 <| gY ?_
  have hS_131 := (hS_121.pick 1 rfl)
  refine cX Try.call28 (pf_stats hR_108 hJ_109.i hJ_109.h (Sat.flat1 hS_131)) ?_
  rintro _ w_132 ⟨rfl, hS_133⟩
  have hS_134 := Sat.unflat1 hS_133
  obtain ⟨s_135, hs_136⟩ : ∃ z, z = statsF (spS mn (1 + r_14) 4) := ⟨_, rfl⟩; rw [← hs_136]
  have h9s_135 : (s_135.spills : Int) = _ := (congrArg Stt.spills hs_136).trans hsp3
  refine pu3 <| gY ?_
  refine sSub ((mn : Nat) : Int) (min ((mn : Nat) : Int) (1 + r_14)) ?_
  refine pu2 <| nilO <| thenK_n <| ?_
  refine cN s_135.spills (((mn : Nat) : Int) - (min ((mn : Nat) : Int) (1 + r_14))) (fun hc_137 => ?_) (fun hc_137 => ?_)
  rotate_left
  · refine seqE <| regionE <| pu1 <| nilO <| thenK_n <| retE <| thenK_r <| retT [.bool false] <| ?_
    first | omega
  refine skipE <| thenK_n <| seqE <| seqE <| regionE <| pu1 <| nilO <| thenK_n <| blockE ?_
  refine loopA (γ := Nat) (fun i => [(2, .int .i64 choice), (7, .int .i64 ((mn : Nat) : Int)), (9, .pointer (some ⟨p_20, 0, none⟩)), (12, .slice az_113 nz_114 kz_115), (13, .slice az_122 nz_123 kz_124), (14, .int .i64 (min ((mn : Nat) : Int) (1 + r_14))), (15, .int .i64 ((i : Nat) : Int))]) (fun i w => Sat W w (M_103 :: Z_125 :: Z_116 :: C_31 :: G_32 :: [(b_7, .cells #[.int .i64 3, .int .i64 4, .int .i64 4, .int .i64 1024, .int .i64 (1 + r_14), .int .i64 100, .int .i64 100, .int .i64 8] 41 (0, 0))] :: H :: F) ∧ i ≤ (min ((mn : Nat) : Int) (1 + r_14)).toNat) (fun i => ((min ((mn : Nat) : Int) (1 + r_14)).toNat) - i) 0 ⟨hS_134, by omega⟩ ?_
  rintro i ρ w_138 ⟨hS_139, hi⟩
  refine seqE <| seqE <| regionE <| pu3 <| nilO <| thenK_n <| ?_
  refine cD (((i : Nat) : Int) < (min ((mn : Nat) : Int) (1 + r_14))) (fun hc_140 => ?_) (fun hc_140 => ?_)
  · refine skipE <| thenK_n <| seqE <| blockE <| seqE <| regionE <| pu2 ?_
    refine sIdxO hO_127 ((i : Nat) : Int) i Try.runUnderlying52 Try.sizeOf48 ?_
    intro x_141 b_142 o_143 hx_144 hp_145 hq_146
    have hrf_x_141 := refs_at hx_144
    refine sLpA hS_139 (hp_145.up 2 rfl) 0 [.int .i64 x_141.job, .int .i64 x_141.task] (Try.isAgg48 _) (Try.sizeOf48 _) ?_
    refine pu1 ?_
    refine sAdd 1 ((i : Nat) : Int) ?_
    refine pu1 ?_
    refine stepY (.bool (!(((x_141.job : Int) == 0) && ((x_141.task : Int) == (1 + ((i : Nat) : Int)))))) rfl rfl (Y_eqS rfl (by kernel_rfl) (by kernel_rfl) (eqvn48 _ x_141.job x_141.task 0 (1 + ((i : Nat) : Int)))) ?_
    refine nilO <| thenK_n <| ?_
    rcases Classical.em ((x_141.job : Int) = 0 ∧ (x_141.task : Int) = (1 + ((i : Nat) : Int))) with hc_147 | hc_147
    rotate_left
    · refine cT _ (congrArg Bool.not (show (((x_141.job : Int) == 0) && ((x_141.task : Int) == (1 + ((i : Nat) : Int)))) = false from by simpa using hc_147)) ?_
      refine seqE <| regionE <| pu1 <| nilO <| thenK_n <| retE <| blockK_r <| thenK_r <| thenK_r <| blockK_r <| thenK_r <| retT [.bool false] <| ?_
      first | omega
    refine cF _ (congrArg Bool.not (show (((x_141.job : Int) == 0) && ((x_141.task : Int) == (1 + ((i : Nat) : Int)))) = true from by simpa using hc_147)) ?_
    refine skipE <| blockK_n <| thenK_n <| regionE <| pu1 ?_
    refine sAdd ((i : Nat) : Int) 1 ?_
    refine pu1 <| nilO <| thenK_n <| ?_
    exact ⟨i + 1, by first | omega | (dsimp only; omega), alA, hS_139, by omega⟩
  refine exitE <| thenK_x <| thenK_x <| blockK_x <| thenK_n <| seqE <| seqE <| regionE <| pu1 <| nilO <| thenK_n <| blockE ?_
  refine loopA (γ := Nat) (fun i => [(2, .int .i64 choice), (7, .int .i64 ((mn : Nat) : Int)), (9, .pointer (some ⟨p_20, 0, none⟩)), (13, .slice az_122 nz_123 kz_124), (14, .int .i64 (min ((mn : Nat) : Int) (1 + r_14))), (16, .int .i64 ((i : Nat) : Int))]) (fun i w => Sat W w (M_103 :: Z_125 :: Z_116 :: C_31 :: G_32 :: [(b_7, .cells #[.int .i64 3, .int .i64 4, .int .i64 4, .int .i64 1024, .int .i64 (1 + r_14), .int .i64 100, .int .i64 100, .int .i64 8] 41 (0, 0))] :: H :: F) ∧ i ≤ (((mn : Nat) : Int) - min ((mn : Nat) : Int) (1 + r_14)).toNat) (fun i => ((((mn : Nat) : Int) - min ((mn : Nat) : Int) (1 + r_14)).toNat) - i) 0 ⟨hS_139, by omega⟩ ?_
  rintro i ρ w_148 ⟨hS_149, hi⟩
  refine seqE <| seqE <| regionE <| pu3 ?_
  refine sSub ((mn : Nat) : Int) (min ((mn : Nat) : Int) (1 + r_14)) ?_
  refine pu1 <| nilO <| thenK_n <| ?_
  refine cD (((i : Nat) : Int) < (((mn : Nat) : Int) - (min ((mn : Nat) : Int) (1 + r_14)))) (fun hc_150 => ?_) (fun hc_150 => ?_)
  · refine skipE <| thenK_n <| seqE <| blockE <| seqE <| regionE <| pu2 ?_
    refine sIdxO hO_128 ((i : Nat) : Int) i Try.runUnderlying52 Try.sizeOf48 ?_
    intro x_151 b_152 o_153 hx_154 hp_155 hq_156
    have hrf_x_151 := refs_at hx_154
    refine sLpA hS_149 (hp_155.up 1 rfl) 0 [.int .i64 x_151.job, .int .i64 x_151.task] (Try.isAgg48 _) (Try.sizeOf48 _) ?_
    refine pu1 ?_
    refine sAdd 1 (min ((mn : Nat) : Int) (1 + r_14)) ?_
    refine pu1 ?_
    refine sAdd (1 + (min ((mn : Nat) : Int) (1 + r_14))) ((i : Nat) : Int) ?_
    refine pu1 ?_
    refine stepY (.bool (!(((x_151.job : Int) == 0) && ((x_151.task : Int) == ((1 + (min ((mn : Nat) : Int) (1 + r_14))) + ((i : Nat) : Int)))))) rfl rfl (Y_eqS rfl (by kernel_rfl) (by kernel_rfl) (eqvn48 _ x_151.job x_151.task 0 ((1 + (min ((mn : Nat) : Int) (1 + r_14))) + ((i : Nat) : Int)))) ?_
    refine nilO <| thenK_n <| ?_
    rcases Classical.em ((x_151.job : Int) = 0 ∧ (x_151.task : Int) = ((1 + (min ((mn : Nat) : Int) (1 + r_14))) + ((i : Nat) : Int))) with hc_157 | hc_157
    rotate_left
    · refine cT _ (congrArg Bool.not (show (((x_151.job : Int) == 0) && ((x_151.task : Int) == ((1 + (min ((mn : Nat) : Int) (1 + r_14))) + ((i : Nat) : Int)))) = false from by simpa using hc_157)) ?_
      refine seqE <| regionE <| pu1 <| nilO <| thenK_n <| retE <| blockK_r <| thenK_r <| thenK_r <| blockK_r <| thenK_r <| retT [.bool false] <| ?_
      first | omega
    refine cF _ (congrArg Bool.not (show (((x_151.job : Int) == 0) && ((x_151.task : Int) == ((1 + (min ((mn : Nat) : Int) (1 + r_14))) + ((i : Nat) : Int)))) = true from by simpa using hc_157)) ?_
    refine skipE <| blockK_n <| thenK_n <| regionE <| pu1 ?_
    refine sAdd ((i : Nat) : Int) 1 ?_
    refine pu1 <| nilO <| thenK_n <| ?_
    exact ⟨i + 1, by first | omega | (dsimp only; omega), alA, hS_149, by omega⟩
  refine exitE <| thenK_x <| thenK_x <| blockK_x <| thenK_n <| seqE <| regionE <| pu2 ?_
  refine cX Try.call23 (pf_step hR_108 hJ_109.i 2 choice hJ_109.t (by omega) (Sat.flat1 hS_149)) ?_
  rintro _ w_158 ⟨az_161, nz_162, kz_163, Z_164, M_165, rfl, hO_166, hR_167, hS_159⟩
  have hS_160 := Sat.unflat2 hS_159; have hn_az_161 := hO_166.len; have hl_az_161 := hO_166.le
  have hJ_168 := FJ.step (x := 2) (c := choice) hJ_109 (by omega)
  obtain ⟨k9, f9, t9, he9, hl9⟩ := sp_last (c := choice) hm6 hs4
  have he_169 : (stepF (spS mn (1 + r_14) 4) 2 choice).2 = ([(⟨k9, 2, f9, 0, 0, t9, 0⟩ : Evt)], 0) := he9
  have he_169_c := congrArg Prod.snd he_169; have he_169_l := congrArg Prod.fst he_169; dsimp only at he_169_c he_169_l; rw [he_169_c]; rw [he_169_l] at hO_166 hn_az_161
  obtain rfl : 1 = nz_162 := hn_az_161
  refine pu5 <| nilO <| thenK_n <| seqE <| seqE <| regionE <| pu7 <| nilO <| thenK_n <| cFf <| skipE <| thenK_n <| seqE <| seqE <| regionE <| pu3 <| nilO <| thenK_n <| ?_
  refine cD (((mn : Nat) : Int) > (min ((mn : Nat) : Int) (1 + r_14))) (fun hc_170 => ?_) (fun hc_170 => ?_)
  rotate_left
  · refine skipE <| thenK_n <| seqE <| regionE <| pu1 ?_
    refine sIdxO hO_166 0 0 Try.runUnderlying44 Try.sizeOf50 ?_
    intro x_188 b_189 o_190 hx_191 hp_192 hq_193
    have hxl_x_188 : x_188 = (⟨k9, 2, f9, 0, 0, t9, 0⟩ : Evt) := (Option.some.inj hx_191).symm
    have hxk_x_188 : x_188.kind = k9 ∧ x_188.worker = 2 ∧ x_188.from_ = f9 ∧ x_188.job = 0 ∧ x_188.refJob = 0 ∧ x_188.refTask = t9 ∧ x_188.err = 0 := by rw [show x_188 = (⟨k9, 2, f9, 0, 0, t9, 0⟩ : Evt) from (Option.some.inj hx_191).symm]; exact ⟨rfl, rfl, rfl, rfl, rfl, rfl, rfl⟩
    refine sLpA hS_160 (hp_192.up 0 rfl) 0 (encEvt x_188) (Try.isAgg50 _) (Try.sizeOf50 _) ?_
    refine pu2 ?_
    refine stepY (.bool (((x_188.kind : Int) == 5) && ((x_188.worker : Int) == 2) && ((x_188.from_ : Int) == 1) && ((x_188.job : Int) == 0) && ((x_188.refJob : Int) == 0) && ((x_188.refTask : Int) == 1) && ((x_188.err : Int) == 0))) rfl rfl (Y_eqS rfl (by kernel_rfl) (by kernel_rfl) (eqve50 _ x_188.kind x_188.worker x_188.from_ x_188.job x_188.refJob x_188.refTask x_188.err 5 2 1 0 0 1 0)) ?_
    refine pu1 ?_
    rcases Classical.em ((x_188.kind : Int) = 5 ∧ (x_188.worker : Int) = 2 ∧ (x_188.from_ : Int) = 1 ∧ (x_188.job : Int) = 0 ∧ (x_188.refJob : Int) = 0 ∧ (x_188.refTask : Int) = 1 ∧ (x_188.err : Int) = 0) with hc_194 | hc_194
    rotate_left
    · refine sFix 143 _ false (show (((x_188.kind : Int) == 5) && ((x_188.worker : Int) == 2) && ((x_188.from_ : Int) == 1) && ((x_188.job : Int) == 0) && ((x_188.refJob : Int) == 0) && ((x_188.refTask : Int) == 1) && ((x_188.err : Int) == 0)) = false from by rw [← Bool.not_eq_true]; intro h_; exact hc_194 (by simpa [and_assoc] using h_)) ?_
      refine pu3 <| nilO <| thenK_n <| retE <| retT [.bool false] <| ?_
      first | omega
    refine sFix 143 _ true (show (((x_188.kind : Int) == 5) && ((x_188.worker : Int) == 2) && ((x_188.from_ : Int) == 1) && ((x_188.job : Int) == 0) && ((x_188.refJob : Int) == 0) && ((x_188.refTask : Int) == 1) && ((x_188.err : Int) == 0)) = true from by simpa [and_assoc] using hc_194) ?_
    refine gY ?_
    refine cX Try.call24 (l27_sane hS_160) ?_
    rintro _ w_195 ⟨rfl, hS_196⟩
    refine pu2 <| nilO <| thenK_n <| retE <| retT [.bool true] <| ?_
    have hS_197 := (hS_196.pick 7 rfl)
    have hS_198 := hS_197.dropAt 1 rfl
    have hS_199 := hS_198.dropAt 1 rfl
    have hS_200 := hS_199.dropAt 1 rfl
    have hS_201 := hS_200.dropAt 1 rfl
    have hS_202 := hS_201.dropAt 1 rfl
    have hS_203 := hS_202.dropAt 1 rfl
    have hS_204 := hS_203.dropAt 1 rfl
    exact ⟨rfl, hS_204⟩
  refine seqE <| regionE <| pu1 ?_
  refine sIdxO hO_166 0 0 Try.runUnderlying44 Try.sizeOf50 ?_
  intro x_171 b_172 o_173 hx_174 hp_175 hq_176
  have hxl_x_171 : x_171 = (⟨k9, 2, f9, 0, 0, t9, 0⟩ : Evt) := (Option.some.inj hx_174).symm
  have hxk_x_171 : x_171.kind = k9 ∧ x_171.worker = 2 ∧ x_171.from_ = f9 ∧ x_171.job = 0 ∧ x_171.refJob = 0 ∧ x_171.refTask = t9 ∧ x_171.err = 0 := by rw [show x_171 = (⟨k9, 2, f9, 0, 0, t9, 0⟩ : Evt) from (Option.some.inj hx_174).symm]; exact ⟨rfl, rfl, rfl, rfl, rfl, rfl, rfl⟩
  refine sLpA hS_160 (hp_175.up 0 rfl) 0 (encEvt x_171) (Try.isAgg50 _) (Try.sizeOf50 _) ?_
  refine pu1 ?_
  refine sAdd 1 (min ((mn : Nat) : Int) (1 + r_14)) ?_
  refine pu2 ?_
  refine stepY (.bool (((x_171.kind : Int) == 4) && ((x_171.worker : Int) == 2) && ((x_171.from_ : Int) == 0) && ((x_171.job : Int) == 0) && ((x_171.refJob : Int) == 0) && ((x_171.refTask : Int) == (1 + (min ((mn : Nat) : Int) (1 + r_14)))) && ((x_171.err : Int) == 0))) rfl rfl (Y_eqS rfl (by kernel_rfl) (by kernel_rfl) (eqve50 _ x_171.kind x_171.worker x_171.from_ x_171.job x_171.refJob x_171.refTask x_171.err 4 2 0 0 0 (1 + (min ((mn : Nat) : Int) (1 + r_14))) 0)) ?_
  refine pu1 ?_
  rcases Classical.em ((x_171.kind : Int) = 4 ∧ (x_171.worker : Int) = 2 ∧ (x_171.from_ : Int) = 0 ∧ (x_171.job : Int) = 0 ∧ (x_171.refJob : Int) = 0 ∧ (x_171.refTask : Int) = (1 + (min ((mn : Nat) : Int) (1 + r_14))) ∧ (x_171.err : Int) = 0) with hc_177 | hc_177
  rotate_left
  · refine sFix 134 _ false (show (((x_171.kind : Int) == 4) && ((x_171.worker : Int) == 2) && ((x_171.from_ : Int) == 0) && ((x_171.job : Int) == 0) && ((x_171.refJob : Int) == 0) && ((x_171.refTask : Int) == (1 + (min ((mn : Nat) : Int) (1 + r_14)))) && ((x_171.err : Int) == 0)) = false from by rw [← Bool.not_eq_true]; intro h_; exact hc_177 (by simpa [and_assoc] using h_)) ?_
    refine pu3 <| nilO <| thenK_n <| retE <| thenK_r <| retT [.bool false] <| ?_
    first | omega
  refine sFix 134 _ true (show (((x_171.kind : Int) == 4) && ((x_171.worker : Int) == 2) && ((x_171.from_ : Int) == 0) && ((x_171.job : Int) == 0) && ((x_171.refJob : Int) == 0) && ((x_171.refTask : Int) == (1 + (min ((mn : Nat) : Int) (1 + r_14)))) && ((x_171.err : Int) == 0)) = true from by simpa [and_assoc] using hc_177) ?_
  refine gY ?_
  refine cX Try.call24 (l27_sane hS_160) ?_
  rintro _ w_178 ⟨rfl, hS_179⟩
  refine pu2 <| nilO <| thenK_n <| retE <| thenK_r <| retT [.bool true] <| ?_
  have hS_180 := (hS_179.pick 7 rfl)
  have hS_181 := hS_180.dropAt 1 rfl
  have hS_182 := hS_181.dropAt 1 rfl
  have hS_183 := hS_182.dropAt 1 rfl
  have hS_184 := hS_183.dropAt 1 rfl
  have hS_185 := hS_184.dropAt 1 rfl
  have hS_186 := hS_185.dropAt 1 rfl
  have hS_187 := hS_186.dropAt 1 rfl
  exact ⟨rfl, hS_187⟩
end Go.Proofs.Ytegmennaekipaaa
