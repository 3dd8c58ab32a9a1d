import Derived.Test.YtegmennaekipaaaLw1
namespace Go.Proofs.Ytegmennaekipaaa
open Go Go.E
set_option linter.unusedVariables false
set_option linter.unusedSimpArgs false
set_option linter.unnecessarySimpa false
set_option maxRecDepth 100000
set_option maxHeartbeats 2000000
variable {W w : World} {H : Chunk} {F : List Chunk}
/-- The configuration and the number of workers do not change. -/
def Same (F G : FS) : Prop := G.cfg = F.cfg ∧ G.ws.length = F.ws.length
theorem Same.take {F : FS} {x : Int} {r : Ref} : Same F (takeF F x r) := ⟨rfl, by simp [takeF]⟩
theorem Same.trans {F G H : FS} (h : Same F G) (k : Same G H) : Same F H := ⟨k.1.trans h.1, k.2.trans h.2⟩
theorem spill_same {x job band : Int} : ∀ (l : List Int) {F : FS}, Same F (spillF F x job band l)
  | [], _ => ⟨rfl, rfl⟩
  | t :: l, F => by
    have h : Same F (spill1 F x ⟨job, t⟩ band) := by unfold spill1; split <;> exact ⟨rfl, rfl⟩
    exact h.trans (spill_same l)
theorem micro_same {F : FS} {x : Int} : Same F (microF F x).1 := by
  unfold microF
  simp only
  split
  · exact ⟨rfl, by simp⟩
  · split
    · exact ⟨rfl, by simp⟩
    · split <;> exact ⟨(spill_same _).1, (spill_same _).2.trans (by simp)⟩
theorem acq_same {F F' : FS} {x c : Int} {ev : Evt} (he : acqF F x c = some (F', ev)) : Same F F' := by
  unfold acqF at he
  split at he
  · obtain ⟨rfl, _⟩ := Prod.mk.inj (Option.some.inj he); exact Same.take (F := popF F x _)
  · split at he
    · obtain ⟨rfl, _⟩ := Prod.mk.inj (Option.some.inj he); exact ⟨rfl, by simp [takeF]⟩
    · unfold stealF at he
      split at he
      · cases he
      · split at he
        · cases he
        · obtain ⟨rfl, _⟩ := Prod.mk.inj (Option.some.inj he); exact ⟨rfl, by simp [takeF, popF]⟩
theorem step_same {F : FS} {x c : Int} : Same F (stepF F x c).1 := by
  unfold stepF
  split
  · exact ⟨rfl, rfl⟩
  · split
    · exact ⟨rfl, rfl⟩
    · split
      · split
        · exact micro_same
        · exact ⟨rfl, by simp [dropF, clearF]⟩
      · unfold restF
        split
        · rename_i q hq; exact acq_same (ev := q.2) hq
        · split
          · exact Same.trans (G := helpF F) ⟨rfl, rfl⟩ micro_same
          · exact ⟨rfl, rfl⟩
theorem crash_same {F : FS} {x : Int} : Same F (crashF F x).1 := by
  unfold crashF
  split
  · exact ⟨rfl, rfl⟩
  · split
    · exact ⟨rfl, rfl⟩
    · have h : Same F (retJ F (wAt F x)) := by unfold retJ; split <;> exact ⟨rfl, rfl⟩
      exact h.trans ⟨rfl, by simp [crashW, clearF, popF]⟩
theorem restart_same {F : FS} {x : Int} : Same F (restartF F x).1 := by
  unfold restartF
  split
  · exact ⟨rfl, rfl⟩
  · split
    · exact ⟨rfl, by simp [idleF]⟩
    · exact ⟨rfl, rfl⟩
theorem cancel_same {F : FS} {k : Int} : Same F (cancelF F k).1 := by
  unfold cancelF
  split
  · exact ⟨rfl, rfl⟩
  · split <;> exact ⟨rfl, rfl⟩
theorem cr_len (m : Nat) (r : Int) : ∀ k, (crS m r k).ws.length = 2
  | 0 => rfl
  | k + 1 => by
    have ih := cr_len m r k
    unfold crS
    split
    · rw [step_same.2]; exact ih
    · split
      · rw [crash_same.2]; exact ih
      · split
        · rw [step_same.2]; exact ih
        · rw [restart_same.2]; exact ih
theorem cr_e5 {r : Int} : 0 ≤ r ∧ r < 2 → (crashF (crS 1 r 5) 0).2 = ([⟨10, 0, 0, 0, 0, 1, 0⟩], 0) ∧ (crashF (crS 2 r 5) 0).2 = ([⟨10, 0, 0, 0, 0, 2, 0⟩], 0) := two (P := fun r => (crashF (crS 1 r 5) 0).2 = ([⟨10, 0, 0, 0, 0, 1, 0⟩], 0) ∧ (crashF (crS 2 r 5) 0).2 = ([⟨10, 0, 0, 0, 0, 2, 0⟩], 0)) (by decide +kernel) (by decide +kernel)
theorem cr_p6 {r : Int} : 0 ≤ r ∧ r < 2 → (wAt (crS 1 r 6) 0).phase = 4 ∧ (wAt (crS 2 r 6) 0).phase = 4 := two (P := fun r => (wAt (crS 1 r 6) 0).phase = 4 ∧ (wAt (crS 2 r 6) 0).phase = 4) (by decide +kernel) (by decide +kernel)
theorem cr_q6 {r : Int} : 0 ≤ r ∧ r < 2 → bandQ (crS 1 r 6).q 1 = [⟨1, 0⟩, ⟨0, 1⟩] ∧ bandQ (crS 2 r 6).q 1 = [⟨1, 0⟩, ⟨0, 2⟩, ⟨0, 1⟩] := two (P := fun r => bandQ (crS 1 r 6).q 1 = [⟨1, 0⟩, ⟨0, 1⟩] ∧ bandQ (crS 2 r 6).q 1 = [⟨1, 0⟩, ⟨0, 2⟩, ⟨0, 1⟩]) (by decide +kernel) (by decide +kernel)
theorem cr_d6 {r : Int} : 0 ≤ r ∧ r < 2 → dequeF (crS 1 r 6) 0 = [] ∧ dequeF (crS 2 r 6) 0 = [] := two (P := fun r => dequeF (crS 1 r 6) 0 = [] ∧ dequeF (crS 2 r 6) 0 = []) (by decide +kernel) (by decide +kernel)
theorem cr_w11 {r : Int} : 0 ≤ r ∧ r < 2 → (crS 1 r 11).ws = [⟨4, 0, 0, 0, 0, 0, 0⟩, ⟨1, 1, 1, 0, 0, 0, 0⟩] ∧ (crS 2 r 11).ws = [⟨4, 0, 0, 0, 0, 0, 0⟩, ⟨1, 1, 1, 0, 0, 0, 0⟩] := two (P := fun r => (crS 1 r 11).ws = [⟨4, 0, 0, 0, 0, 0, 0⟩, ⟨1, 1, 1, 0, 0, 0, 0⟩] ∧ (crS 2 r 11).ws = [⟨4, 0, 0, 0, 0, 0, 0⟩, ⟨1, 1, 1, 0, 0, 0, 0⟩]) (by decide +kernel) (by decide +kernel)
theorem cr_r11 {r : Int} : 0 ≤ r ∧ r < 2 → (restartF (crS 1 r 11) 0).2 = ([⟨11, 0, 0, 0, 0, 0, 0⟩], 0) ∧ (restartF (crS 2 r 11) 0).2 = ([⟨11, 0, 0, 0, 0, 0, 0⟩], 0) := two (P := fun r => (restartF (crS 1 r 11) 0).2 = ([⟨11, 0, 0, 0, 0, 0, 0⟩], 0) ∧ (restartF (crS 2 r 11) 0).2 = ([⟨11, 0, 0, 0, 0, 0, 0⟩], 0)) (by decide +kernel) (by decide +kernel)
theorem cr_p12 {r : Int} : 0 ≤ r ∧ r < 2 → (wAt (crS 1 r 12) 0).phase = 0 ∧ (wAt (crS 2 r 12) 0).phase = 0 := two (P := fun r => (wAt (crS 1 r 12) 0).phase = 0 ∧ (wAt (crS 2 r 12) 0).phase = 0) (by decide +kernel) (by decide +kernel)
theorem re_live {F : FS} {x : Int} (hx : 0 ≤ x ∧ x < ((F.ws.length : Nat) : Int)) (h : (wAt F x).phase ≠ 4) : restartF F x = (F, [], 20) := by
  unfold restartF; rw [if_neg (fun k => k hx), if_neg h]
/-! FarmSpills: m tasks behind the first, deques for s -/
def spS (m : Nat) (s : Int) : Nat → FS
  | 0 => addV (newF ⟨3, 4, 4, 1024, s, 100, 100, 8⟩) 0 (fanV m) 2
  | k + 1 => (stepF (spS m s k) 1 0).1
def refs (k : Int) (n : Nat) : List Ref := (List.range n).map fun i => (⟨0, k + ((i : Nat) : Int)⟩ : Ref)
def spEv (m : Nat) (s : Int) : List Evt × Int := if min (m : Int) s < m then ([⟨4, 2, 0, 0, 0, 1 + min (m : Int) s, 0⟩], 0) else ([⟨5, 2, 1, 0, 0, 1, 0⟩], 0)
def spOK (m : Nat) (s : Int) : Bool := decide (dequeF (spS m s 4) 1 = refs 1 (min (m : Int) s).toNat) && decide (bandQ (spS m s 4).q 2 = refs (1 + min (m : Int) s) ((m : Int) - min (m : Int) s).toNat) && decide ((statsF (spS m s 4)).spills = (m : Int) - min (m : Int) s) &&
  decide ((stepF (spS m s 4) 2 0).2 = spEv m s) && decide ((stepF (spS m s 4) 2 1).2 = spEv m s) && decide ((stepF (spS m s 4) 2 2).2 = spEv m s)
theorem sp_all : ∀ (a : Fin 6) (b : Fin 4), spOK (a.val + 1) ((b.val : Int) + 1) = true := by decide +kernel
theorem sp_ok {m : Nat} {s : Int} (hm : 1 ≤ m ∧ m ≤ 6) (hs : 1 ≤ s ∧ s ≤ 4) : dequeF (spS m s 4) 1 = refs 1 (min (m : Int) s).toNat ∧ bandQ (spS m s 4).q 2 = refs (1 + min (m : Int) s) ((m : Int) - min (m : Int) s).toNat ∧ (statsF (spS m s 4)).spills = (m : Int) - min (m : Int) s ∧ ∀ r : Int, 0 ≤ r ∧ r < 3 → (stepF (spS m s 4) 2 r).2 = spEv m s := by
  have h := sp_all ⟨m - 1, by omega⟩ ⟨(s - 1).toNat, by omega⟩
  dsimp only at h
  rw [show m - 1 + 1 = m by omega, show (((s - 1).toNat : Nat) : Int) + 1 = s by omega] at h
  unfold spOK at h
  simp only [Bool.and_eq_true, decide_eq_true_eq] at h
  obtain ⟨⟨⟨⟨⟨h1, h2⟩, h3⟩, h4⟩, h5⟩, h6⟩ := h
  exact ⟨h1, h2, h3, fun r hr => three (P := fun r => (stepF (spS m s 4) 2 r).2 = spEv m s) h4 h5 h6 hr⟩
theorem sp_len (m : Nat) (s : Int) : ∀ k, (spS m s k).ws.length = 3
  | 0 => rfl
  | k + 1 => by unfold spS; rw [step_same.2]; exact sp_len m s k
theorem refs_len {k : Int} {n : Nat} : (refs k n).length = n := by unfold refs; simp
theorem refs_at {k : Int} {n i : Nat} {x : Ref} (h : (refs k n)[i]? = some x) : x.job = 0 ∧ x.task = k + ((i : Nat) : Int) := by
  unfold refs at h
  rw [List.getElem?_map] at h
  cases hr : (List.range n)[i]? with
  | none => rw [hr] at h; cases h
  | some y =>
    rw [hr] at h
    obtain ⟨h3, h4⟩ := List.getElem?_eq_some_iff.1 hr
    rw [List.getElem_range] at h4
    obtain rfl := Option.some.inj h
    exact ⟨rfl, by rw [h4]⟩
theorem fan_step (i : Nat) : fanV (i + 1) = fanV i ++ [⟨0, 0, 0, 0, 0, 0, [0], 1, 0⟩] := by unfold fanV; rw [List.replicate_succ']; rfl
theorem fan_valid {m : Nat} (hm : 1 ≤ m ∧ m ≤ 6) : validV (fanV m) = 0 ∧ (fanV m).length ≤ 7 ∧ ∀ z ∈ fanV m, z.scratch ≤ 1024 := by
  have h : ∀ a : Fin 6, validV (fanV (a.val + 1)) = 0 ∧ (fanV (a.val + 1)).length ≤ 7 ∧ ∀ z ∈ fanV (a.val + 1), z.scratch ≤ 1024 := by decide
  have := h ⟨m - 1, by omega⟩
  dsimp only at this
  rw [show m - 1 + 1 = m by omega] at this; exact this
set_option maxHeartbeats 6000000
theorem l27_crashes (W w : World) (H : Chunk) (F : List Chunk) (n : Int) (choice : Int) (_hn : -9223372036854775808 ≤ n ∧ n ≤ 9223372036854775807) (_hchoice : -9223372036854775808 ≤ choice ∧ choice ≤ 9223372036854775807) (hS : Sat W w (H :: F)) :
    Calls Try.prog 7 #[.int .i64 n, .int .i64 choice] w fun e w' => e = .returned (.bool true) ∧ Sat W w' (H :: F) := by
  obtain ⟨r, hrr⟩ : ∃ r, r = normC 2 choice := ⟨_, rfl⟩; have hr : 0 ≤ r ∧ r < 2 := by rw [hrr]; exact norm_bd (by decide)
  refine callsA 195 Try.func7 rfl ?_
  refine seqE <| regionE <| pu1 <| nilO <| thenK_n <| seqE <| regionE <| pu1 ?_
  refine cX Try.call18 (mod_ok n 2 (by omega) (by omega) hS) ?_
  rintro _ w_1 ⟨r_3, rfl, hr_4, hS_2⟩
  rcases (by omega : r_3 = 0 ∨ r_3 = 1) with rfl | rfl
  · refine pu2 <| nilO <| thenK_n <| seqE <| regionE ?_
    refine cX Try.call20 (l27_config 2 hS_2) ?_
    rintro _ w_5 ⟨rfl, hS_6⟩
    have hv_12 : validCfg (⟨2, 4, 4, 1024, 2, 100, 100, 8⟩ : Cfg) = 0 := by decide
    refine cX Try.call19 (pf_new (⟨2, 4, 4, 1024, 2, 100, 100, 8⟩ : Cfg) hv_12 hS_6) ?_
    rintro _ w_7 ⟨p_9, M_10, rfl, hR_11, hS_8⟩
    have hJ_13 := FJ.new hv_12
    refine pu5 <| nilO <| thenK_n <| seqE <| seqE <| regionE <| pu9 <| gY ?_
    refine cX Try.call25 (l27_fan1 hS_8) ?_
    rintro _ w_14 ⟨az_16, nz_17, kz_18, zs_19, C_20, G_21, rfl, hO_22, hD_23, hV_24, hS_15⟩
    have hn_az_16 := hO_22.len; have hl_az_16 := hO_22.le
    refine gY ?_
    have hS_25 := (hS_15.pick 2 rfl)
    have p_32 : 0 ≤ (0 : Int) ∧ (0 : Int) < 64 := by decide
    have p_35 : 0 ≤ (1 : Int) ∧ (1 : Int) < 4 := by decide
    have p_36 : validC zs_19 = 0 := by rw [valid_v, hV_24]; decide
    have p_37 : ∀ z ∈ zs_19, z.scratch ≤ (newF (⟨2, 4, 4, 1024, 2, 100, 100, 8⟩ : Cfg)).cfg.arena := scr_v (n := 1024) (by rw [hV_24]; decide)
    have p_38 : 0 ≤ (newF (⟨2, 4, 4, 1024, 2, 100, 100, 8⟩ : Cfg)).cfg.tasks ∧ (newF (⟨2, 4, 4, 1024, 2, 100, 100, 8⟩ : Cfg)).cfg.tasks ≤ 4096 := by show (0 : Int) ≤ 100 ∧ (100 : Int) ≤ 4096; decide
    have p_39 : ((zs_19.length : Nat) : Int) ≤ (newF (⟨2, 4, 4, 1024, 2, 100, 100, 8⟩ : Cfg)).cfg.tasks - loadL (newF (⟨2, 4, 4, 1024, 2, 100, 100, 8⟩ : Cfg)).jobs := by rw [len_v hV_24]; decide
    have p_40 : zs_19.length ≤ 12 := by rw [len_v hV_24]; decide
    have p_33 : (newF (⟨2, 4, 4, 1024, 2, 100, 100, 8⟩ : Cfg)).jobs[((0 : Int)).toNat]? = some JS.zero := rfl
    have p_34 : JS.added JS.zero = false := rfl
    refine cX Try.call21 (pf_add hR_11 hJ_13.i 0 az_16 nz_17 kz_18 zs_19 1 (RdT.flat (hO_22.rdAt 0 (by rfl))) (fun z hz => (hD_23 z hz).of_mem (mem_flat1 1 (by rfl))) p_32 p_33 p_34 p_35 p_36 p_37 p_38 p_39  (Sat.flat1 hS_25)) ?_
    rintro _ w_26 ⟨M_29, rfl, hR_30, hS_27⟩
    have hS_28 := Sat.unflat1 hS_27
    have hJ_31 := hJ_13.add p_32 p_33 p_34 p_35 p_36 p_37 p_39 p_40
    have hR_41 : FarmP p_9 (addV (newF (cfgF 2)) 0 (fanV 1) 1) M_29 := by rw [show addV (newF (cfgF 2)) 0 (fanV 1) 1 = addF (newF (⟨2, 4, 4, 1024, 2, 100, 100, 8⟩ : Cfg)) 0 zs_19 1 from by rw [addF_v, hV_24]; rfl]; exact hR_30
    have hJ_42 : FJ (addV (newF (cfgF 2)) 0 (fanV 1) 1) 0 1 := by rw [show addV (newF (cfgF 2)) 0 (fanV 1) 1 = addF (newF (⟨2, 4, 4, 1024, 2, 100, 100, 8⟩ : Cfg)) 0 zs_19 1 from by rw [addF_v, hV_24]; rfl]; exact hJ_31
    refine pu4 <| gY ?_
    refine cX Try.call22 (l27_single1 hS_28) ?_
    rintro _ w_43 ⟨az_45, nz_46, kz_47, zs_48, C_49, G_50, rfl, hO_51, hD_52, hV_53, hS_44⟩
    have hn_az_45 := hO_51.len; have hl_az_45 := hO_51.le
    refine gY ?_
    have hS_54 := (hS_44.pick 2 rfl)
    have p_61 : 0 ≤ (1 : Int) ∧ (1 : Int) < 64 := by decide
    have p_64 : 0 ≤ (1 : Int) ∧ (1 : Int) < 4 := by decide
    have p_65 : validC zs_48 = 0 := by rw [valid_v, hV_53]; decide
    have p_66 : ∀ z ∈ zs_48, z.scratch ≤ (addV (newF (cfgF 2)) 0 (fanV 1) 1).cfg.arena := scr_v (n := 1024) (by rw [hV_53]; decide)
    have p_67 : 0 ≤ (addV (newF (cfgF 2)) 0 (fanV 1) 1).cfg.tasks ∧ (addV (newF (cfgF 2)) 0 (fanV 1) 1).cfg.tasks ≤ 4096 := by show (0 : Int) ≤ 100 ∧ (100 : Int) ≤ 4096; decide
    have p_68 : ((zs_48.length : Nat) : Int) ≤ (addV (newF (cfgF 2)) 0 (fanV 1) 1).cfg.tasks - loadL (addV (newF (cfgF 2)) 0 (fanV 1) 1).jobs := by rw [len_v hV_53, show loadL (addV (newF (cfgF 2)) 0 (fanV 1) 1).jobs = 0 + (((fanV 1).length : Nat) : Int) from (load_new (j := JS.zero) rfl rfl).trans (by rw [load_new0]; rfl)]; show _ ≤ (100 : Int) - _; decide
    have p_69 : zs_48.length ≤ 12 := by rw [len_v hV_53]; decide
    have p_62 : (addV (newF (cfgF 2)) 0 (fanV 1) 1).jobs[((1 : Int)).toNat]? = some JS.zero := rfl
    have p_63 : JS.added JS.zero = false := rfl
    refine cX Try.call21 (pf_add hR_41 hJ_42.i 1 az_45 nz_46 kz_47 zs_48 1 (RdT.flat (hO_51.rdAt 0 (by rfl))) (fun z hz => (hD_52 z hz).of_mem (mem_flat1 1 (by rfl))) p_61 p_62 p_63 p_64 p_65 p_66 p_67 p_68  (Sat.flat1 hS_54)) ?_
    rintro _ w_55 ⟨M_58, rfl, hR_59, hS_56⟩
    have hS_57 := Sat.unflat1 hS_56
    have hJ_60 := hJ_42.add p_61 p_62 p_63 p_64 p_65 p_66 p_68 p_69
    have hR_70 : FarmP p_9 (crS 1 r 0) M_58 := by rw [show crS 1 r 0 = addF (addV (newF (cfgF 2)) 0 (fanV 1) 1) 1 zs_48 1 from by rw [addF_v, hV_53]; rfl]; exact hR_59
    have hJ_71 : FJ (crS 1 r 0) 0 2 := by rw [show crS 1 r 0 = addF (addV (newF (cfgF 2)) 0 (fanV 1) 1) 1 zs_48 1 from by rw [addF_v, hV_53]; rfl]; exact hJ_60
    refine pu2 <| nilO <| thenK_n <| cFf <| skipE <| thenK_n <| seqE <| seqE <| regionE <| pu1 <| nilO <| thenK_n <| blockE ?_
    refine loopN 6 ?_
    refine roundS ?_
    refine seqE <| seqE <| regionE <| pu2 <| nilO <| thenK_n <| cTt <| skipE <| thenK_n <| seqE <| blockE <| regionE <| pu2 ?_
    refine cX Try.call23 (pf_step hR_70 hJ_71.i 0 choice hJ_71.t (by omega) (Sat.flat1 hS_57)) ?_
    rintro _ w_72 ⟨az_75, nz_76, kz_77, Z_78, M_79, rfl, hO_80, hR_81, hS_73⟩
    have hS_74 := Sat.unflat2 hS_73; have hn_az_75 := hO_80.len; have hl_az_75 := hO_80.le
    have hJ_82 := FJ.step (x := 0) (c := choice) hJ_71 (by omega)
    have hst_0 : stepF (crS 1 r 0) 0 choice = stepF (crS 1 r 0) 0 r := by rw [step_norm (by rw [cr_len]; decide), cr_len, hrr]
    have hS_83 := hS_74.dropAt 0 rfl
    have hR_84 : FarmP p_9 (crS 1 r 1) M_79 := by rw [show crS 1 r 1 = (stepF (crS 1 r 0) 0 r).1 from rfl, ← hst_0]; exact hR_81
    have hJ_85 : FJ (crS 1 r 1) 1 2 := by rw [show crS 1 r 1 = (stepF (crS 1 r 0) 0 r).1 from rfl, ← hst_0]; exact hJ_82
    refine nilO <| blockK_n <| thenK_n <| regionE <| pu3 <| nilO <| thenK_n <| ?_
    refine roundS ?_
    refine seqE <| seqE <| regionE <| pu2 <| nilO <| thenK_n <| cTt <| skipE <| thenK_n <| seqE <| blockE <| regionE <| pu2 ?_
    refine cX Try.call23 (pf_step hR_84 hJ_85.i 0 choice hJ_85.t (by omega) (Sat.flat1 hS_83)) ?_
    rintro _ w_86 ⟨az_89, nz_90, kz_91, Z_92, M_93, rfl, hO_94, hR_95, hS_87⟩
    have hS_88 := Sat.unflat2 hS_87; have hn_az_89 := hO_94.len; have hl_az_89 := hO_94.le
    have hJ_96 := FJ.step (x := 0) (c := choice) hJ_85 (by omega)
    have hst_1 : stepF (crS 1 r 1) 0 choice = stepF (crS 1 r 1) 0 r := by rw [step_norm (by rw [cr_len]; decide), cr_len, hrr]
    have hS_97 := hS_88.dropAt 0 rfl
    have hR_98 : FarmP p_9 (crS 1 r 2) M_93 := by rw [show crS 1 r 2 = (stepF (crS 1 r 1) 0 r).1 from rfl, ← hst_1]; exact hR_95
    have hJ_99 : FJ (crS 1 r 2) 2 2 := by rw [show crS 1 r 2 = (stepF (crS 1 r 1) 0 r).1 from rfl, ← hst_1]; exact hJ_96
    refine nilO <| blockK_n <| thenK_n <| regionE <| pu3 <| nilO <| thenK_n <| ?_
    refine roundS ?_
    refine seqE <| seqE <| regionE <| pu2 <| nilO <| thenK_n <| cTt <| skipE <| thenK_n <| seqE <| blockE <| regionE <| pu2 ?_
    refine cX Try.call23 (pf_step hR_98 hJ_99.i 0 choice hJ_99.t (by omega) (Sat.flat1 hS_97)) ?_
    rintro _ w_100 ⟨az_103, nz_104, kz_105, Z_106, M_107, rfl, hO_108, hR_109, hS_101⟩
    have hS_102 := Sat.unflat2 hS_101; have hn_az_103 := hO_108.len; have hl_az_103 := hO_108.le
    have hJ_110 := FJ.step (x := 0) (c := choice) hJ_99 (by omega)
    have hst_2 : stepF (crS 1 r 2) 0 choice = stepF (crS 1 r 2) 0 r := by rw [step_norm (by rw [cr_len]; decide), cr_len, hrr]
    have hS_111 := hS_102.dropAt 0 rfl
    have hR_112 : FarmP p_9 (crS 1 r 3) M_107 := by rw [show crS 1 r 3 = (stepF (crS 1 r 2) 0 r).1 from rfl, ← hst_2]; exact hR_109
    have hJ_113 : FJ (crS 1 r 3) 3 2 := by rw [show crS 1 r 3 = (stepF (crS 1 r 2) 0 r).1 from rfl, ← hst_2]; exact hJ_110
    refine nilO <| blockK_n <| thenK_n <| regionE <| pu3 <| nilO <| thenK_n <| ?_
    refine roundS ?_
    refine seqE <| seqE <| regionE <| pu2 <| nilO <| thenK_n <| cTt <| skipE <| thenK_n <| seqE <| blockE <| regionE <| pu2 ?_
    refine cX Try.call23 (pf_step hR_112 hJ_113.i 0 choice hJ_113.t (by omega) (Sat.flat1 hS_111)) ?_
    rintro _ w_114 ⟨az_117, nz_118, kz_119, Z_120, M_121, rfl, hO_122, hR_123, hS_115⟩
    have hS_116 := Sat.unflat2 hS_115; have hn_az_117 := hO_122.len; have hl_az_117 := hO_122.le
    have hJ_124 := FJ.step (x := 0) (c := choice) hJ_113 (by omega)
    have hst_3 : stepF (crS 1 r 3) 0 choice = stepF (crS 1 r 3) 0 r := by rw [step_norm (by rw [cr_len]; decide), cr_len, hrr]
    have hS_125 := hS_116.dropAt 0 rfl
    have hR_126 : FarmP p_9 (crS 1 r 4) M_121 := by rw [show crS 1 r 4 = (stepF (crS 1 r 3) 0 r).1 from rfl, ← hst_3]; exact hR_123
    have hJ_127 : FJ (crS 1 r 4) 4 2 := by rw [show crS 1 r 4 = (stepF (crS 1 r 3) 0 r).1 from rfl, ← hst_3]; exact hJ_124
    refine nilO <| blockK_n <| thenK_n <| regionE <| pu3 <| nilO <| thenK_n <| ?_
    refine roundS ?_
    refine seqE <| seqE <| regionE <| pu2 <| nilO <| thenK_n <| cTt <| skipE <| thenK_n <| seqE <| blockE <| regionE <| pu2 ?_
    refine cX Try.call23 (pf_step hR_126 hJ_127.i 0 choice hJ_127.t (by omega) (Sat.flat1 hS_125)) ?_
    rintro _ w_128 ⟨az_131, nz_132, kz_133, Z_134, M_135, rfl, hO_136, hR_137, hS_129⟩
    have hS_130 := Sat.unflat2 hS_129; have hn_az_131 := hO_136.len; have hl_az_131 := hO_136.le
    have hJ_138 := FJ.step (x := 0) (c := choice) hJ_127 (by omega)
    have hst_4 : stepF (crS 1 r 4) 0 choice = stepF (crS 1 r 4) 0 r := by rw [step_norm (by rw [cr_len]; decide), cr_len, hrr]
    have hS_139 := hS_130.dropAt 0 rfl
    have hR_140 : FarmP p_9 (crS 1 r 5) M_135 := by rw [show crS 1 r 5 = (stepF (crS 1 r 4) 0 r).1 from rfl, ← hst_4]; exact hR_137
    have hJ_141 : FJ (crS 1 r 5) 5 2 := by rw [show crS 1 r 5 = (stepF (crS 1 r 4) 0 r).1 from rfl, ← hst_4]; exact hJ_138
    refine nilO <| blockK_n <| thenK_n <| regionE <| pu3 <| nilO <| thenK_n <| ?_
    refine roundS ?_
    refine seqE <| seqE <| regionE <| pu2 <| nilO <| thenK_n <| cFf <| exitE <| thenK_x <| thenK_x <| blockK_x <| thenK_n <| seqE <| regionE <| pu1 ?_
    refine cX Try.call31 (pf_crash hR_140 hJ_141.i 0  (Sat.flat1 hS_139)) ?_
    rintro _ w_142 ⟨az_145, nz_146, kz_147, Z_148, M_149, rfl, hO_150, hR_151, hS_143⟩
    have hS_144 := Sat.unflat2 hS_143; have hn_az_145 := hO_150.len; have hl_az_145 := hO_150.le
    have hJ_152 := FJ.crash (x := 0) hJ_141 (by omega)
    have he_153 : (crashF (crS 1 r 5) 0).2 = ([(⟨10, 0, 0, 0, 0, 1, 0⟩ : Evt)], 0) := (cr_e5 hr).1
    have he_153_c := congrArg Prod.snd he_153; have he_153_l := congrArg Prod.fst he_153; dsimp only at he_153_c he_153_l; rw [he_153_c]; rw [he_153_l] at hO_150 hn_az_145
    obtain rfl : 1 = nz_146 := hn_az_145
    have hR_154 : FarmP p_9 (crS 1 r 6) M_149 := by skip; exact hR_151
    have hJ_155 : FJ (crS 1 r 6) 6 2 := by skip; exact hJ_152
    refine pu5 <| nilO <| thenK_n <| seqE <| regionE <| pu1 ?_
    have hS_156 := (hS_144.pick 1 rfl)
    refine cX Try.call31 (pf_crash hR_154 hJ_155.i 0  (Sat.flat1 hS_156)) ?_
    rintro _ w_157 ⟨az_160, nz_161, kz_162, Z_163, M_164, rfl, hO_165, hR_166, hS_158⟩
    have hS_159 := Sat.unflat2 hS_158; have hn_az_160 := hO_165.len; have hl_az_160 := hO_165.le
    have hJ_167 := FJ.crash (x := 0) hJ_155 (by omega)
    have hcd : crashF (crS 1 r 6) 0 = (crS 1 r 6, [], 20) := cr_down (by rw [cr_len]; decide) (cr_p6 hr).1
    have he_168 : (crashF (crS 1 r 6) 0).2 = (([] : List Evt), 20) := (by rw [hcd])
    have he_168_c := congrArg Prod.snd he_168; have he_168_l := congrArg Prod.fst he_168; dsimp only at he_168_c he_168_l; rw [he_168_c]; rw [he_168_l] at hO_165 hn_az_160
    obtain rfl : 0 = nz_161 := hn_az_160
    have hR_169 : FarmP p_9 (crS 1 r 6) M_164 := by rw [show crS 1 r 6 = (crashF (crS 1 r 6) 0).1 from by rw [hcd]]; exact hR_166
    have hJ_170 : FJ (crS 1 r 6) 7 2 := by rw [show crS 1 r 6 = (crashF (crS 1 r 6) 0).1 from by rw [hcd]]; exact hJ_167
    refine pu5 <| nilO <| thenK_n <| seqE <| regionE <| pu2 ?_
    have hS_171 := (hS_159.pick 1 rfl)
    refine cX Try.call23 (pf_step hR_169 hJ_170.i 0 choice hJ_170.t (by omega) (Sat.flat1 hS_171)) ?_
    rintro _ w_172 ⟨az_175, nz_176, kz_177, Z_178, M_179, rfl, hO_180, hR_181, hS_173⟩
    have hS_174 := Sat.unflat2 hS_173; have hn_az_175 := hO_180.len; have hl_az_175 := hO_180.le
    have hJ_182 := FJ.step (x := 0) (c := choice) hJ_170 (by omega)
    have hsd : stepF (crS 1 r 6) 0 choice = (crS 1 r 6, [], 20) := st_down (by rw [cr_len]; decide) (cr_p6 hr).1
    have he_183 : (stepF (crS 1 r 6) 0 choice).2 = (([] : List Evt), 20) := (by rw [hsd])
    have he_183_c := congrArg Prod.snd he_183; have he_183_l := congrArg Prod.fst he_183; dsimp only at he_183_c he_183_l; rw [he_183_c]; rw [he_183_l] at hO_180 hn_az_175
    obtain rfl : 0 = nz_176 := hn_az_175
    have hR_184 : FarmP p_9 (crS 1 r 6) M_179 := by rw [show crS 1 r 6 = (stepF (crS 1 r 6) 0 choice).1 from by rw [hsd]]; exact hR_181
    have hJ_185 : FJ (crS 1 r 6) 8 2 := by rw [show crS 1 r 6 = (stepF (crS 1 r 6) 0 choice).1 from by rw [hsd]]; exact hJ_182
    refine pu5 <| nilO <| thenK_n <| seqE <| regionE <| pu1 ?_
    have hS_186 := (hS_174.pick 1 rfl)
    refine cX Try.call27 (pf_queue hR_184 hJ_185.i 1  (Sat.flat1 hS_186)) ?_
    rintro _ w_187 ⟨az_190, nz_191, kz_192, Z_193, rfl, hO_194, hS_188⟩
    have hS_189 := Sat.unflat2 hS_188; have hn_az_190 := hO_194.len; have hl_az_190 := hO_194.le
    have he_195 : bandQ (crS 1 r 6).q 1 = [(⟨1, 0⟩ : Ref), (⟨0, 1⟩ : Ref)] := (cr_q6 hr).1
    rw [he_195] at hO_194 hn_az_190
    obtain rfl : 2 = nz_191 := hn_az_190
    refine pu1 <| nilO <| thenK_n <| seqE <| seqE <| regionE <| pu9 <| gY ?_
    refine sIdxO hO_150 0 0 Try.runUnderlying44 Try.sizeOf50 ?_
    intro x_196 b_197 o_198 hx_199 hp_200 hq_201
    have hxl_x_196 : x_196 = (⟨10, 0, 0, 0, 0, 1, 0⟩ : Evt) := (Option.some.inj hx_199).symm
    refine gY ?_
    refine sLpA hS_189 (hp_200.up 4 rfl) 0 (encEvt x_196) (Try.isAgg50 _) (Try.sizeOf50 _) ?_
    refine pu3 <| gY ?_
    refine stepY (.bool (!(((x_196.kind : Int) == 10) && ((x_196.worker : Int) == 0) && ((x_196.from_ : Int) == 0) && ((x_196.job : Int) == 0) && ((x_196.refJob : Int) == 0) && ((x_196.refTask : Int) == 1) && ((x_196.err : Int) == 0)))) rfl rfl (Y_eqS rfl (by kernel_rfl) (by kernel_rfl) (eqvn50 _ x_196.kind x_196.worker x_196.from_ x_196.job x_196.refJob x_196.refTask x_196.err 10 0 0 0 0 1 0)) ?_
    refine pu2 ?_
    have hc_202 : (x_196.kind : Int) = 10 ∧ (x_196.worker : Int) = 0 ∧ (x_196.from_ : Int) = 0 ∧ (x_196.job : Int) = 0 ∧ (x_196.refJob : Int) = 0 ∧ (x_196.refTask : Int) = 1 ∧ (x_196.err : Int) = 0 := (by subst hxl_x_196; exact ⟨rfl, rfl, rfl, rfl, rfl, rfl, rfl⟩)
    refine sFix 90 _ false (congrArg Bool.not (show (((x_196.kind : Int) == 10) && ((x_196.worker : Int) == 0) && ((x_196.from_ : Int) == 0) && ((x_196.job : Int) == 0) && ((x_196.refJob : Int) == 0) && ((x_196.refTask : Int) == 1) && ((x_196.err : Int) == 0)) = true from by simpa [and_assoc] using hc_202)) ?_
    refine pu9 <| gY ?_
    have hS_203 := (hS_189.pick 1 rfl)
    refine cX Try.call26 (pf_deque hR_184 hJ_185.i 0  (Sat.flat1 hS_203)) ?_
    rintro _ w_204 ⟨az_207, nz_208, kz_209, Z_210, rfl, hO_211, hS_205⟩
    have hS_206 := Sat.unflat2 hS_205; have hn_az_207 := hO_211.len; have hl_az_207 := hO_211.le
    have he_212 : dequeF (crS 1 r 6) 0 = ([] : List Ref) := (cr_d6 hr).1
    rw [he_212] at hO_211 hn_az_207
    obtain rfl : 0 = nz_208 := hn_az_207
    refine pu10 <| nilO <| thenK_n <| cFf <| skipE <| thenK_n <| seqE <| seqE <| regionE <| pu1 ?_
    refine sIdxO hO_194 0 0 Try.runUnderlying52 Try.sizeOf48 ?_
    intro x_213 b_214 o_215 hx_216 hp_217 hq_218
    have hxl_x_213 : x_213 = (⟨1, 0⟩ : Ref) := (Option.some.inj hx_216).symm
    refine sLpA hS_206 (hp_217.up 2 rfl) 0 [.int .i64 x_213.job, .int .i64 x_213.task] (Try.isAgg48 _) (Try.sizeOf48 _) ?_
    refine pu1 ?_
    refine stepY (.bool (!(((x_213.job : Int) == 1) && ((x_213.task : Int) == 0)))) rfl rfl (Y_eqS rfl (by kernel_rfl) (by kernel_rfl) (eqvn48 _ x_213.job x_213.task 1 0)) ?_
    refine pu1 ?_
    have hc_219 : (x_213.job : Int) = 1 ∧ (x_213.task : Int) = 0 := (by subst hxl_x_213; exact ⟨rfl, rfl⟩)
    refine sFix 116 _ false (congrArg Bool.not (show (((x_213.job : Int) == 1) && ((x_213.task : Int) == 0)) = true from by simpa using hc_219)) ?_
    refine pu1 <| gY ?_
    refine sIdxO hO_194 1 1 Try.runUnderlying52 Try.sizeOf48 ?_
    intro x_220 b_221 o_222 hx_223 hp_224 hq_225
    have hxl_x_220 : x_220 = (⟨0, 1⟩ : Ref) := (Option.some.inj hx_223).symm
    refine gY ?_
    refine sLpA hS_206 (hp_224.up 2 rfl) 0 [.int .i64 x_220.job, .int .i64 x_220.task] (Try.isAgg48 _) (Try.sizeOf48 _) ?_
    refine pu2 <| gY ?_
    refine stepY (.bool (!(((x_220.job : Int) == 0) && ((x_220.task : Int) == 1)))) rfl rfl (Y_eqS rfl (by kernel_rfl) (by kernel_rfl) (eqvn48 _ x_220.job x_220.task 0 1)) ?_
    refine pu2 ?_
    have hc_226 : (x_220.job : Int) = 0 ∧ (x_220.task : Int) = 1 := (by subst hxl_x_220; exact ⟨rfl, rfl⟩)
    refine sFix 124 _ false (congrArg Bool.not (show (((x_220.job : Int) == 0) && ((x_220.task : Int) == 1)) = true from by simpa using hc_226)) ?_
    refine pu10 <| nilO <| thenK_n <| cFf <| skipE <| thenK_n <| seqE <| seqE <| regionE <| pu1 <| nilO <| thenK_n <| blockE ?_
    refine loopN 6 ?_
    refine roundS ?_
    refine seqE <| seqE <| regionE <| pu2 <| nilO <| thenK_n <| cTt <| skipE <| thenK_n <| seqE <| blockE <| regionE <| pu2 ?_
    have hS_227 := (hS_206.pick 1 rfl)
    refine cX Try.call23 (pf_step hR_184 hJ_185.i 1 choice hJ_185.t (by omega) (Sat.flat1 hS_227)) ?_
    rintro _ w_228 ⟨az_231, nz_232, kz_233, Z_234, M_235, rfl, hO_236, hR_237, hS_229⟩
    have hS_230 := Sat.unflat2 hS_229; have hn_az_231 := hO_236.len; have hl_az_231 := hO_236.le
    have hJ_238 := FJ.step (x := 1) (c := choice) hJ_185 (by omega)
    have hst_8 : stepF (crS 1 r 6) 1 choice = stepF (crS 1 r 6) 1 r := by rw [step_norm (by rw [cr_len]; decide), cr_len, hrr]
    have hS_239 := hS_230.dropAt 0 rfl
    have hR_240 : FarmP p_9 (crS 1 r 7) M_235 := by rw [show crS 1 r 7 = (stepF (crS 1 r 6) 1 r).1 from rfl, ← hst_8]; exact hR_237
    have hJ_241 : FJ (crS 1 r 7) 9 2 := by rw [show crS 1 r 7 = (stepF (crS 1 r 6) 1 r).1 from rfl, ← hst_8]; exact hJ_238
    refine nilO <| blockK_n <| thenK_n <| regionE <| pu3 <| nilO <| thenK_n <| ?_
    refine roundS ?_
    refine seqE <| seqE <| regionE <| pu2 <| nilO <| thenK_n <| cTt <| skipE <| thenK_n <| seqE <| blockE <| regionE <| pu2 ?_
    refine cX Try.call23 (pf_step hR_240 hJ_241.i 1 choice hJ_241.t (by omega) (Sat.flat1 hS_239)) ?_
    rintro _ w_242 ⟨az_245, nz_246, kz_247, Z_248, M_249, rfl, hO_250, hR_251, hS_243⟩
    have hS_244 := Sat.unflat2 hS_243; have hn_az_245 := hO_250.len; have hl_az_245 := hO_250.le
    have hJ_252 := FJ.step (x := 1) (c := choice) hJ_241 (by omega)
    have hst_9 : stepF (crS 1 r 7) 1 choice = stepF (crS 1 r 7) 1 r := by rw [step_norm (by rw [cr_len]; decide), cr_len, hrr]
    have hS_253 := hS_244.dropAt 0 rfl
    have hR_254 : FarmP p_9 (crS 1 r 8) M_249 := by rw [show crS 1 r 8 = (stepF (crS 1 r 7) 1 r).1 from rfl, ← hst_9]; exact hR_251
    have hJ_255 : FJ (crS 1 r 8) 10 2 := by rw [show crS 1 r 8 = (stepF (crS 1 r 7) 1 r).1 from rfl, ← hst_9]; exact hJ_252
    refine nilO <| blockK_n <| thenK_n <| regionE <| pu3 <| nilO <| thenK_n <| ?_
    refine roundS ?_
    refine seqE <| seqE <| regionE <| pu2 <| nilO <| thenK_n <| cTt <| skipE <| thenK_n <| seqE <| blockE <| regionE <| pu2 ?_
    refine cX Try.call23 (pf_step hR_254 hJ_255.i 1 choice hJ_255.t (by omega) (Sat.flat1 hS_253)) ?_
    rintro _ w_256 ⟨az_259, nz_260, kz_261, Z_262, M_263, rfl, hO_264, hR_265, hS_257⟩
    have hS_258 := Sat.unflat2 hS_257; have hn_az_259 := hO_264.len; have hl_az_259 := hO_264.le
    have hJ_266 := FJ.step (x := 1) (c := choice) hJ_255 (by omega)
    have hst_10 : stepF (crS 1 r 8) 1 choice = stepF (crS 1 r 8) 1 r := by rw [step_norm (by rw [cr_len]; decide), cr_len, hrr]
    have hS_267 := hS_258.dropAt 0 rfl
    have hR_268 : FarmP p_9 (crS 1 r 9) M_263 := by rw [show crS 1 r 9 = (stepF (crS 1 r 8) 1 r).1 from rfl, ← hst_10]; exact hR_265
    have hJ_269 : FJ (crS 1 r 9) 11 2 := by rw [show crS 1 r 9 = (stepF (crS 1 r 8) 1 r).1 from rfl, ← hst_10]; exact hJ_266
    refine nilO <| blockK_n <| thenK_n <| regionE <| pu3 <| nilO <| thenK_n <| ?_
    refine roundS ?_
    refine seqE <| seqE <| regionE <| pu2 <| nilO <| thenK_n <| cTt <| skipE <| thenK_n <| seqE <| blockE <| regionE <| pu2 ?_
    refine cX Try.call23 (pf_step hR_268 hJ_269.i 1 choice hJ_269.t (by omega) (Sat.flat1 hS_267)) ?_
    rintro _ w_270 ⟨az_273, nz_274, kz_275, Z_276, M_277, rfl, hO_278, hR_279, hS_271⟩
    have hS_272 := Sat.unflat2 hS_271; have hn_az_273 := hO_278.len; have hl_az_273 := hO_278.le
    have hJ_280 := FJ.step (x := 1) (c := choice) hJ_269 (by omega)
    have hst_11 : stepF (crS 1 r 9) 1 choice = stepF (crS 1 r 9) 1 r := by rw [step_norm (by rw [cr_len]; decide), cr_len, hrr]
    have hS_281 := hS_272.dropAt 0 rfl
    have hR_282 : FarmP p_9 (crS 1 r 10) M_277 := by rw [show crS 1 r 10 = (stepF (crS 1 r 9) 1 r).1 from rfl, ← hst_11]; exact hR_279
    have hJ_283 : FJ (crS 1 r 10) 12 2 := by rw [show crS 1 r 10 = (stepF (crS 1 r 9) 1 r).1 from rfl, ← hst_11]; exact hJ_280
    refine nilO <| blockK_n <| thenK_n <| regionE <| pu3 <| nilO <| thenK_n <| ?_
    refine roundS ?_
    refine seqE <| seqE <| regionE <| pu2 <| nilO <| thenK_n <| cTt <| skipE <| thenK_n <| seqE <| blockE <| regionE <| pu2 ?_
    refine cX Try.call23 (pf_step hR_282 hJ_283.i 1 choice hJ_283.t (by omega) (Sat.flat1 hS_281)) ?_
    rintro _ w_284 ⟨az_287, nz_288, kz_289, Z_290, M_291, rfl, hO_292, hR_293, hS_285⟩
    have hS_286 := Sat.unflat2 hS_285; have hn_az_287 := hO_292.len; have hl_az_287 := hO_292.le
    have hJ_294 := FJ.step (x := 1) (c := choice) hJ_283 (by omega)
    have hst_12 : stepF (crS 1 r 10) 1 choice = stepF (crS 1 r 10) 1 r := by rw [step_norm (by rw [cr_len]; decide), cr_len, hrr]
    have hS_295 := hS_286.dropAt 0 rfl
    have hR_296 : FarmP p_9 (crS 1 r 11) M_291 := by rw [show crS 1 r 11 = (stepF (crS 1 r 10) 1 r).1 from rfl, ← hst_12]; exact hR_293
    have hJ_297 : FJ (crS 1 r 11) 13 2 := by rw [show crS 1 r 11 = (stepF (crS 1 r 10) 1 r).1 from rfl, ← hst_12]; exact hJ_294
    refine nilO <| blockK_n <| thenK_n <| regionE <| pu3 <| nilO <| thenK_n <| ?_
    refine roundS ?_
    refine seqE <| seqE <| regionE <| pu2 <| nilO <| thenK_n <| cFf <| exitE <| thenK_x <| thenK_x <| blockK_x <| thenK_n <| seqE <| regionE <| pu1 ?_
    refine cX Try.call29 (pf_workers hR_296 hJ_297.i   (Sat.flat1 hS_295)) ?_
    rintro _ w_298 ⟨az_301, nz_302, kz_303, Z_304, rfl, hO_305, hS_299⟩
    have hS_300 := Sat.unflat2 hS_299; have hn_az_301 := hO_305.len; have hl_az_301 := hO_305.le
    have he_306 : (crS 1 r 11).ws = [(⟨4, 0, 0, 0, 0, 0, 0⟩ : Wkr), (⟨1, 1, 1, 0, 0, 0, 0⟩ : Wkr)] := (cr_w11 hr).1
    rw [he_306] at hO_305 hn_az_301
    obtain rfl : 2 = nz_302 := hn_az_301
    refine pu1 <| nilO <| thenK_n <| seqE <| regionE <| pu1 ?_
    have hS_307 := (hS_300.pick 1 rfl)
    refine cX Try.call32 (pf_restart hR_296 hJ_297.i 0  (Sat.flat1 hS_307)) ?_
    rintro _ w_308 ⟨az_311, nz_312, kz_313, Z_314, M_315, rfl, hO_316, hR_317, hS_309⟩
    have hS_310 := Sat.unflat2 hS_309; have hn_az_311 := hO_316.len; have hl_az_311 := hO_316.le
    have hJ_318 := FJ.restart (x := 0) hJ_297 (by omega)
    have he_319 : (restartF (crS 1 r 11) 0).2 = ([(⟨11, 0, 0, 0, 0, 0, 0⟩ : Evt)], 0) := (cr_r11 hr).1
    have he_319_c := congrArg Prod.snd he_319; have he_319_l := congrArg Prod.fst he_319; dsimp only at he_319_c he_319_l; rw [he_319_c]; rw [he_319_l] at hO_316 hn_az_311
    obtain rfl : 1 = nz_312 := hn_az_311
    have hR_320 : FarmP p_9 (crS 1 r 12) M_315 := by skip; exact hR_317
    have hJ_321 : FJ (crS 1 r 12) 14 2 := by skip; exact hJ_318
    refine pu5 <| nilO <| thenK_n <| seqE <| regionE <| pu1 ?_
    have hS_322 := (hS_310.pick 1 rfl)
    refine cX Try.call32 (pf_restart hR_320 hJ_321.i 0  (Sat.flat1 hS_322)) ?_
    rintro _ w_323 ⟨az_326, nz_327, kz_328, Z_329, M_330, rfl, hO_331, hR_332, hS_324⟩
    have hS_325 := Sat.unflat2 hS_324; have hn_az_326 := hO_331.len; have hl_az_326 := hO_331.le
    have hJ_333 := FJ.restart (x := 0) hJ_321 (by omega)
    have hrd : restartF (crS 1 r 12) 0 = (crS 1 r 12, [], 20) := re_live (by rw [cr_len]; decide) (by rw [(cr_p12 hr).1]; decide)
    have he_334 : (restartF (crS 1 r 12) 0).2 = (([] : List Evt), 20) := (by rw [hrd])
    have he_334_c := congrArg Prod.snd he_334; have he_334_l := congrArg Prod.fst he_334; dsimp only at he_334_c he_334_l; rw [he_334_c]; rw [he_334_l] at hO_331 hn_az_326
    obtain rfl : 0 = nz_327 := hn_az_326
    have hR_335 : FarmP p_9 (crS 1 r 12) M_330 := by rw [show crS 1 r 12 = (restartF (crS 1 r 12) 0).1 from by rw [hrd]]; exact hR_332
    have hJ_336 : FJ (crS 1 r 12) 15 2 := by rw [show crS 1 r 12 = (restartF (crS 1 r 12) 0).1 from by rw [hrd]]; exact hJ_333
    refine pu5 <| nilO <| thenK_n <| seqE <| regionE <| pu5 <| gY ?_
    refine sIdxO hO_305 1 1 Try.runUnderlying57 Try.sizeOf61 ?_
    intro x_337 b_338 o_339 hx_340 hp_341 hq_342
    have hxl_x_337 : x_337 = (⟨1, 1, 1, 0, 0, 0, 0⟩ : Wkr) := (Option.some.inj hx_340).symm
    refine pu1 <| gY ?_
    refine sLp hS_325 (hp_341.up 3 rfl) 0 (.int .i64 x_337.phase) (Try.isAgg3 _) ?_
    refine pu3 ?_
    have hc_343 : (x_337.phase : Int) = 1 := (by subst hxl_x_337; rfl)
    refine sFix 164 _ true (beq_iff_eq.2 hc_343) ?_
    refine pu1 <| gY ?_
    refine sIdxO hO_305 1 1 Try.runUnderlying57 Try.sizeOf61 ?_
    intro x_344 b_345 o_346 hx_347 hp_348 hq_349
    obtain rfl : x_337 = x_344 := Option.some.inj (hx_340.symm.trans hx_347)
    have hxl_x_337 : x_337 = (⟨1, 1, 1, 0, 0, 0, 0⟩ : Wkr) := (Option.some.inj hx_347).symm
    refine pu1 <| gY ?_
    refine sLpA hS_325 (hp_348.up 3 rfl) 1 [.int .i64 x_337.heldJob, .int .i64 x_337.heldTask] (Try.isAgg48 _) (Try.sizeOf48 _) ?_
    refine pu1 <| gY ?_
    refine stepY (.bool (((x_337.heldJob : Int) == 1) && ((x_337.heldTask : Int) == 1))) rfl rfl (Y_eqS rfl (by kernel_rfl) (by kernel_rfl) (eqve48 _ x_337.heldJob x_337.heldTask 1 1)) ?_
    refine pu2 ?_
    have hc_350 : (x_337.heldJob : Int) = 1 ∧ (x_337.heldTask : Int) = 1 := (by subst hxl_x_337; exact ⟨rfl, rfl⟩)
    refine sFix 172 _ true (show (((x_337.heldJob : Int) == 1) && ((x_337.heldTask : Int) == 1)) = true from by simpa using hc_350) ?_
    refine pu10 <| gY ?_
    refine sIdxO hO_316 0 0 Try.runUnderlying44 Try.sizeOf50 ?_
    intro x_351 b_352 o_353 hx_354 hp_355 hq_356
    have hxl_x_351 : x_351 = (⟨11, 0, 0, 0, 0, 0, 0⟩ : Evt) := (Option.some.inj hx_354).symm
    refine gY ?_
    refine sLpA hS_325 (hp_355.up 2 rfl) 0 (encEvt x_351) (Try.isAgg50 _) (Try.sizeOf50 _) ?_
    refine pu1 <| gY ?_
    refine stepY (.bool (((x_351.kind : Int) == 11) && ((x_351.worker : Int) == 0) && ((x_351.from_ : Int) == 0) && ((x_351.job : Int) == 0) && ((x_351.refJob : Int) == 0) && ((x_351.refTask : Int) == 0) && ((x_351.err : Int) == 0))) rfl rfl (Y_eqS rfl (by kernel_rfl) (by kernel_rfl) (eqve50 _ x_351.kind x_351.worker x_351.from_ x_351.job x_351.refJob x_351.refTask x_351.err 11 0 0 0 0 0 0)) ?_
    refine pu2 ?_
    have hc_357 : (x_351.kind : Int) = 11 ∧ (x_351.worker : Int) = 0 ∧ (x_351.from_ : Int) = 0 ∧ (x_351.job : Int) = 0 ∧ (x_351.refJob : Int) = 0 ∧ (x_351.refTask : Int) = 0 ∧ (x_351.err : Int) = 0 := (by subst hxl_x_351; exact ⟨rfl, rfl, rfl, rfl, rfl, rfl, rfl⟩)
    refine sFix 188 _ true (show (((x_351.kind : Int) == 11) && ((x_351.worker : Int) == 0) && ((x_351.from_ : Int) == 0) && ((x_351.job : Int) == 0) && ((x_351.refJob : Int) == 0) && ((x_351.refTask : Int) == 0) && ((x_351.err : Int) == 0)) = true from by simpa [and_assoc] using hc_357) ?_
    refine pu4 <| gY ?_
    refine cX Try.call24 (l27_sane hS_325) ?_
    rintro _ w_358 ⟨rfl, hS_359⟩
    refine pu2 <| nilO <| thenK_n <| retE <| retT [.bool true] <| ?_
    have hS_360 := (hS_359.pick 13 rfl)
    have hS_361 := hS_360.dropAt 1 rfl
    have hS_362 := hS_361.dropAt 1 rfl
    have hS_363 := hS_362.dropAt 1 rfl
    have hS_364 := hS_363.dropAt 1 rfl
    have hS_365 := hS_364.dropAt 1 rfl
    have hS_366 := hS_365.dropAt 1 rfl
    have hS_367 := hS_366.dropAt 1 rfl
    have hS_368 := hS_367.dropAt 1 rfl
    have hS_369 := hS_368.dropAt 1 rfl
    have hS_370 := hS_369.dropAt 1 rfl
    have hS_371 := hS_370.dropAt 1 rfl
    have hS_372 := hS_371.dropAt 1 rfl
    have hS_373 := hS_372.dropAt 1 rfl
    exact ⟨rfl, hS_373⟩
  refine pu2 <| nilO <| thenK_n <| seqE <| regionE ?_
  refine cX Try.call20 (l27_config 2 hS_2) ?_
  rintro _ w_374 ⟨rfl, hS_375⟩
  have hv_381 : validCfg (⟨2, 4, 4, 1024, 2, 100, 100, 8⟩ : Cfg) = 0 := by decide
  refine cX Try.call19 (pf_new (⟨2, 4, 4, 1024, 2, 100, 100, 8⟩ : Cfg) hv_381 hS_375) ?_
  rintro _ w_376 ⟨p_378, M_379, rfl, hR_380, hS_377⟩
  have hJ_382 := FJ.new hv_381
  refine pu5 <| nilO <| thenK_n <| seqE <| seqE <| regionE <| pu9 <| gY ?_
  refine cX Try.call25 (l27_fan2 hS_377) ?_
  rintro _ w_383 ⟨az_385, nz_386, kz_387, zs_388, C_389, G_390, rfl, hO_391, hD_392, hV_393, hS_384⟩
  have hn_az_385 := hO_391.len; have hl_az_385 := hO_391.le
  refine gY ?_
  have hS_394 := (hS_384.pick 2 rfl)
  have p_401 : 0 ≤ (0 : Int) ∧ (0 : Int) < 64 := by decide
  have p_404 : 0 ≤ (1 : Int) ∧ (1 : Int) < 4 := by decide
  have p_405 : validC zs_388 = 0 := by rw [valid_v, hV_393]; decide
  have p_406 : ∀ z ∈ zs_388, z.scratch ≤ (newF (⟨2, 4, 4, 1024, 2, 100, 100, 8⟩ : Cfg)).cfg.arena := scr_v (n := 1024) (by rw [hV_393]; decide)
  have p_407 : 0 ≤ (newF (⟨2, 4, 4, 1024, 2, 100, 100, 8⟩ : Cfg)).cfg.tasks ∧ (newF (⟨2, 4, 4, 1024, 2, 100, 100, 8⟩ : Cfg)).cfg.tasks ≤ 4096 := by show (0 : Int) ≤ 100 ∧ (100 : Int) ≤ 4096; decide
  have p_408 : ((zs_388.length : Nat) : Int) ≤ (newF (⟨2, 4, 4, 1024, 2, 100, 100, 8⟩ : Cfg)).cfg.tasks - loadL (newF (⟨2, 4, 4, 1024, 2, 100, 100, 8⟩ : Cfg)).jobs := by rw [len_v hV_393]; decide
  have p_409 : zs_388.length ≤ 12 := by rw [len_v hV_393]; decide
  have p_402 : (newF (⟨2, 4, 4, 1024, 2, 100, 100, 8⟩ : Cfg)).jobs[((0 : Int)).toNat]? = some JS.zero := rfl
  have p_403 : JS.added JS.zero = false := rfl
  refine cX Try.call21 (pf_add hR_380 hJ_382.i 0 az_385 nz_386 kz_387 zs_388 1 (RdT.flat (hO_391.rdAt 0 (by rfl))) (fun z hz => (hD_392 z hz).of_mem (mem_flat1 1 (by rfl))) p_401 p_402 p_403 p_404 p_405 p_406 p_407 p_408  (Sat.flat1 hS_394)) ?_
  rintro _ w_395 ⟨M_398, rfl, hR_399, hS_396⟩
  have hS_397 := Sat.unflat1 hS_396
  have hJ_400 := hJ_382.add p_401 p_402 p_403 p_404 p_405 p_406 p_408 p_409
  have hR_410 : FarmP p_378 (addV (newF (cfgF 2)) 0 (fanV 2) 1) M_398 := by rw [show addV (newF (cfgF 2)) 0 (fanV 2) 1 = addF (newF (⟨2, 4, 4, 1024, 2, 100, 100, 8⟩ : Cfg)) 0 zs_388 1 from by rw [addF_v, hV_393]; rfl]; exact hR_399
  have hJ_411 : FJ (addV (newF (cfgF 2)) 0 (fanV 2) 1) 0 1 := by rw [show addV (newF (cfgF 2)) 0 (fanV 2) 1 = addF (newF (⟨2, 4, 4, 1024, 2, 100, 100, 8⟩ : Cfg)) 0 zs_388 1 from by rw [addF_v, hV_393]; rfl]; exact hJ_400
  refine pu4 <| gY ?_
  refine cX Try.call22 (l27_single1 hS_397) ?_
  rintro _ w_412 ⟨az_414, nz_415, kz_416, zs_417, C_418, G_419, rfl, hO_420, hD_421, hV_422, hS_413⟩
  have hn_az_414 := hO_420.len; have hl_az_414 := hO_420.le
  refine gY ?_
  have hS_423 := (hS_413.pick 2 rfl)
  have p_430 : 0 ≤ (1 : Int) ∧ (1 : Int) < 64 := by decide
  have p_433 : 0 ≤ (1 : Int) ∧ (1 : Int) < 4 := by decide
  have p_434 : validC zs_417 = 0 := by rw [valid_v, hV_422]; decide
  have p_435 : ∀ z ∈ zs_417, z.scratch ≤ (addV (newF (cfgF 2)) 0 (fanV 2) 1).cfg.arena := scr_v (n := 1024) (by rw [hV_422]; decide)
  have p_436 : 0 ≤ (addV (newF (cfgF 2)) 0 (fanV 2) 1).cfg.tasks ∧ (addV (newF (cfgF 2)) 0 (fanV 2) 1).cfg.tasks ≤ 4096 := by show (0 : Int) ≤ 100 ∧ (100 : Int) ≤ 4096; decide
  have p_437 : ((zs_417.length : Nat) : Int) ≤ (addV (newF (cfgF 2)) 0 (fanV 2) 1).cfg.tasks - loadL (addV (newF (cfgF 2)) 0 (fanV 2) 1).jobs := by rw [len_v hV_422, show loadL (addV (newF (cfgF 2)) 0 (fanV 2) 1).jobs = 0 + (((fanV 2).length : Nat) : Int) from (load_new (j := JS.zero) rfl rfl).trans (by rw [load_new0]; rfl)]; show _ ≤ (100 : Int) - _; decide
  have p_438 : zs_417.length ≤ 12 := by rw [len_v hV_422]; decide
  have p_431 : (addV (newF (cfgF 2)) 0 (fanV 2) 1).jobs[((1 : Int)).toNat]? = some JS.zero := rfl
  have p_432 : JS.added JS.zero = false := rfl
  refine cX Try.call21 (pf_add hR_410 hJ_411.i 1 az_414 nz_415 kz_416 zs_417 1 (RdT.flat (hO_420.rdAt 0 (by rfl))) (fun z hz => (hD_421 z hz).of_mem (mem_flat1 1 (by rfl))) p_430 p_431 p_432 p_433 p_434 p_435 p_436 p_437  (Sat.flat1 hS_423)) ?_
  rintro _ w_424 ⟨M_427, rfl, hR_428, hS_425⟩
  have hS_426 := Sat.unflat1 hS_425
  have hJ_429 := hJ_411.add p_430 p_431 p_432 p_433 p_434 p_435 p_437 p_438
  have hR_439 : FarmP p_378 (crS 2 r 0) M_427 := by rw [show crS 2 r 0 = addF (addV (newF (cfgF 2)) 0 (fanV 2) 1) 1 zs_417 1 from by rw [addF_v, hV_422]; rfl]; exact hR_428
  have hJ_440 : FJ (crS 2 r 0) 0 2 := by rw [show crS 2 r 0 = addF (addV (newF (cfgF 2)) 0 (fanV 2) 1) 1 zs_417 1 from by rw [addF_v, hV_422]; rfl]; exact hJ_429
  refine pu2 <| nilO <| thenK_n <| cFf <| skipE <| thenK_n <| seqE <| seqE <| regionE <| pu1 <| nilO <| thenK_n <| blockE ?_
  refine loopN 6 ?_
  refine roundS ?_
  refine seqE <| seqE <| regionE <| pu2 <| nilO <| thenK_n <| cTt <| skipE <| thenK_n <| seqE <| blockE <| regionE <| pu2 ?_
  refine cX Try.call23 (pf_step hR_439 hJ_440.i 0 choice hJ_440.t (by omega) (Sat.flat1 hS_426)) ?_
  rintro _ w_441 ⟨az_444, nz_445, kz_446, Z_447, M_448, rfl, hO_449, hR_450, hS_442⟩
  have hS_443 := Sat.unflat2 hS_442; have hn_az_444 := hO_449.len; have hl_az_444 := hO_449.le
  have hJ_451 := FJ.step (x := 0) (c := choice) hJ_440 (by omega)
  have hst_0 : stepF (crS 2 r 0) 0 choice = stepF (crS 2 r 0) 0 r := by rw [step_norm (by rw [cr_len]; decide), cr_len, hrr]
  have hS_452 := hS_443.dropAt 0 rfl
  have hR_453 : FarmP p_378 (crS 2 r 1) M_448 := by rw [show crS 2 r 1 = (stepF (crS 2 r 0) 0 r).1 from rfl, ← hst_0]; exact hR_450
  have hJ_454 : FJ (crS 2 r 1) 1 2 := by rw [show crS 2 r 1 = (stepF (crS 2 r 0) 0 r).1 from rfl, ← hst_0]; exact hJ_451
  refine nilO <| blockK_n <| thenK_n <| regionE <| pu3 <| nilO <| thenK_n <| ?_
  refine roundS ?_
  refine seqE <| seqE <| regionE <| pu2 <| nilO <| thenK_n <| cTt <| skipE <| thenK_n <| seqE <| blockE <| regionE <| pu2 ?_
  refine cX Try.call23 (pf_step hR_453 hJ_454.i 0 choice hJ_454.t (by omega) (Sat.flat1 hS_452)) ?_
  rintro _ w_455 ⟨az_458, nz_459, kz_460, Z_461, M_462, rfl, hO_463, hR_464, hS_456⟩
  have hS_457 := Sat.unflat2 hS_456; have hn_az_458 := hO_463.len; have hl_az_458 := hO_463.le
  have hJ_465 := FJ.step (x := 0) (c := choice) hJ_454 (by omega)
  have hst_1 : stepF (crS 2 r 1) 0 choice = stepF (crS 2 r 1) 0 r := by rw [step_norm (by rw [cr_len]; decide), cr_len, hrr]
  have hS_466 := hS_457.dropAt 0 rfl
  have hR_467 : FarmP p_378 (crS 2 r 2) M_462 := by rw [show crS 2 r 2 = (stepF (crS 2 r 1) 0 r).1 from rfl, ← hst_1]; exact hR_464
  have hJ_468 : FJ (crS 2 r 2) 2 2 := by rw [show crS 2 r 2 = (stepF (crS 2 r 1) 0 r).1 from rfl, ← hst_1]; exact hJ_465
  refine nilO <| blockK_n <| thenK_n <| regionE <| pu3 <| nilO <| thenK_n <| ?_
  refine roundS ?_
  refine seqE <| seqE <| regionE <| pu2 <| nilO <| thenK_n <| cTt <| skipE <| thenK_n <| seqE <| blockE <| regionE <| pu2 ?_
  refine cX Try.call23 (pf_step hR_467 hJ_468.i 0 choice hJ_468.t (by omega) (Sat.flat1 hS_466)) ?_
  rintro _ w_469 ⟨az_472, nz_473, kz_474, Z_475, M_476, rfl, hO_477, hR_478, hS_470⟩
  have hS_471 := Sat.unflat2 hS_470; have hn_az_472 := hO_477.len; have hl_az_472 := hO_477.le
  have hJ_479 := FJ.step (x := 0) (c := choice) hJ_468 (by omega)
  have hst_2 : stepF (crS 2 r 2) 0 choice = stepF (crS 2 r 2) 0 r := by rw [step_norm (by rw [cr_len]; decide), cr_len, hrr]
  have hS_480 := hS_471.dropAt 0 rfl
  have hR_481 : FarmP p_378 (crS 2 r 3) M_476 := by rw [show crS 2 r 3 = (stepF (crS 2 r 2) 0 r).1 from rfl, ← hst_2]; exact hR_478
  have hJ_482 : FJ (crS 2 r 3) 3 2 := by rw [show crS 2 r 3 = (stepF (crS 2 r 2) 0 r).1 from rfl, ← hst_2]; exact hJ_479
  refine nilO <| blockK_n <| thenK_n <| regionE <| pu3 <| nilO <| thenK_n <| ?_
  refine roundS ?_
  refine seqE <| seqE <| regionE <| pu2 <| nilO <| thenK_n <| cTt <| skipE <| thenK_n <| seqE <| blockE <| regionE <| pu2 ?_
  refine cX Try.call23 (pf_step hR_481 hJ_482.i 0 choice hJ_482.t (by omega) (Sat.flat1 hS_480)) ?_
  rintro _ w_483 ⟨az_486, nz_487, kz_488, Z_489, M_490, rfl, hO_491, hR_492, hS_484⟩
  have hS_485 := Sat.unflat2 hS_484; have hn_az_486 := hO_491.len; have hl_az_486 := hO_491.le
  have hJ_493 := FJ.step (x := 0) (c := choice) hJ_482 (by omega)
  have hst_3 : stepF (crS 2 r 3) 0 choice = stepF (crS 2 r 3) 0 r := by rw [step_norm (by rw [cr_len]; decide), cr_len, hrr]
  have hS_494 := hS_485.dropAt 0 rfl
  have hR_495 : FarmP p_378 (crS 2 r 4) M_490 := by rw [show crS 2 r 4 = (stepF (crS 2 r 3) 0 r).1 from rfl, ← hst_3]; exact hR_492
  have hJ_496 : FJ (crS 2 r 4) 4 2 := by rw [show crS 2 r 4 = (stepF (crS 2 r 3) 0 r).1 from rfl, ← hst_3]; exact hJ_493
  refine nilO <| blockK_n <| thenK_n <| regionE <| pu3 <| nilO <| thenK_n <| ?_
  refine roundS ?_
  refine seqE <| seqE <| regionE <| pu2 <| nilO <| thenK_n <| cTt <| skipE <| thenK_n <| seqE <| blockE <| regionE <| pu2 ?_
  refine cX Try.call23 (pf_step hR_495 hJ_496.i 0 choice hJ_496.t (by omega) (Sat.flat1 hS_494)) ?_
  rintro _ w_497 ⟨az_500, nz_501, kz_502, Z_503, M_504, rfl, hO_505, hR_506, hS_498⟩
  have hS_499 := Sat.unflat2 hS_498; have hn_az_500 := hO_505.len; have hl_az_500 := hO_505.le
  have hJ_507 := FJ.step (x := 0) (c := choice) hJ_496 (by omega)
  have hst_4 : stepF (crS 2 r 4) 0 choice = stepF (crS 2 r 4) 0 r := by rw [step_norm (by rw [cr_len]; decide), cr_len, hrr]
  have hS_508 := hS_499.dropAt 0 rfl
  have hR_509 : FarmP p_378 (crS 2 r 5) M_504 := by rw [show crS 2 r 5 = (stepF (crS 2 r 4) 0 r).1 from rfl, ← hst_4]; exact hR_506
  have hJ_510 : FJ (crS 2 r 5) 5 2 := by rw [show crS 2 r 5 = (stepF (crS 2 r 4) 0 r).1 from rfl, ← hst_4]; exact hJ_507
  refine nilO <| blockK_n <| thenK_n <| regionE <| pu3 <| nilO <| thenK_n <| ?_
  refine roundS ?_
  refine seqE <| seqE <| regionE <| pu2 <| nilO <| thenK_n <| cFf <| exitE <| thenK_x <| thenK_x <| blockK_x <| thenK_n <| seqE <| regionE <| pu1 ?_
  refine cX Try.call31 (pf_crash hR_509 hJ_510.i 0  (Sat.flat1 hS_508)) ?_
  rintro _ w_511 ⟨az_514, nz_515, kz_516, Z_517, M_518, rfl, hO_519, hR_520, hS_512⟩
  have hS_513 := Sat.unflat2 hS_512; have hn_az_514 := hO_519.len; have hl_az_514 := hO_519.le
  have hJ_521 := FJ.crash (x := 0) hJ_510 (by omega)
  have he_522 : (crashF (crS 2 r 5) 0).2 = ([(⟨10, 0, 0, 0, 0, 2, 0⟩ : Evt)], 0) := (cr_e5 hr).2
  have he_522_c := congrArg Prod.snd he_522; have he_522_l := congrArg Prod.fst he_522; dsimp only at he_522_c he_522_l; rw [he_522_c]; rw [he_522_l] at hO_519 hn_az_514
  obtain rfl : 1 = nz_515 := hn_az_514
  have hR_523 : FarmP p_378 (crS 2 r 6) M_518 := by skip; exact hR_520
  have hJ_524 : FJ (crS 2 r 6) 6 2 := by skip; exact hJ_521
  refine pu5 <| nilO <| thenK_n <| seqE <| regionE <| pu1 ?_
  have hS_525 := (hS_513.pick 1 rfl)
  refine cX Try.call31 (pf_crash hR_523 hJ_524.i 0  (Sat.flat1 hS_525)) ?_
  rintro _ w_526 ⟨az_529, nz_530, kz_531, Z_532, M_533, rfl, hO_534, hR_535, hS_527⟩
  have hS_528 := Sat.unflat2 hS_527; have hn_az_529 := hO_534.len; have hl_az_529 := hO_534.le
  have hJ_536 := FJ.crash (x := 0) hJ_524 (by omega)
  have hcd : crashF (crS 2 r 6) 0 = (crS 2 r 6, [], 20) := cr_down (by rw [cr_len]; decide) (cr_p6 hr).2
  have he_537 : (crashF (crS 2 r 6) 0).2 = (([] : List Evt), 20) := (by rw [hcd])
  have he_537_c := congrArg Prod.snd he_537; have he_537_l := congrArg Prod.fst he_537; dsimp only at he_537_c he_537_l; rw [he_537_c]; rw [he_537_l] at hO_534 hn_az_529
  obtain rfl : 0 = nz_530 := hn_az_529
  have hR_538 : FarmP p_378 (crS 2 r 6) M_533 := by rw [show crS 2 r 6 = (crashF (crS 2 r 6) 0).1 from by rw [hcd]]; exact hR_535
  have hJ_539 : FJ (crS 2 r 6) 7 2 := by rw [show crS 2 r 6 = (crashF (crS 2 r 6) 0).1 from by rw [hcd]]; exact hJ_536
  refine pu5 <| nilO <| thenK_n <| seqE <| regionE <| pu2 ?_
  have hS_540 := (hS_528.pick 1 rfl)
  refine cX Try.call23 (pf_step hR_538 hJ_539.i 0 choice hJ_539.t (by omega) (Sat.flat1 hS_540)) ?_
  rintro _ w_541 ⟨az_544, nz_545, kz_546, Z_547, M_548, rfl, hO_549, hR_550, hS_542⟩
  have hS_543 := Sat.unflat2 hS_542; have hn_az_544 := hO_549.len; have hl_az_544 := hO_549.le
  have hJ_551 := FJ.step (x := 0) (c := choice) hJ_539 (by omega)
  have hsd : stepF (crS 2 r 6) 0 choice = (crS 2 r 6, [], 20) := st_down (by rw [cr_len]; decide) (cr_p6 hr).2
  have he_552 : (stepF (crS 2 r 6) 0 choice).2 = (([] : List Evt), 20) := (by rw [hsd])
  have he_552_c := congrArg Prod.snd he_552; have he_552_l := congrArg Prod.fst he_552; dsimp only at he_552_c he_552_l; rw [he_552_c]; rw [he_552_l] at hO_549 hn_az_544
  obtain rfl : 0 = nz_545 := hn_az_544
  have hR_553 : FarmP p_378 (crS 2 r 6) M_548 := by rw [show crS 2 r 6 = (stepF (crS 2 r 6) 0 choice).1 from by rw [hsd]]; exact hR_550
  have hJ_554 : FJ (crS 2 r 6) 8 2 := by rw [show crS 2 r 6 = (stepF (crS 2 r 6) 0 choice).1 from by rw [hsd]]; exact hJ_551
  refine pu5 <| nilO <| thenK_n <| seqE <| regionE <| pu1 ?_
  have hS_555 := (hS_543.pick 1 rfl)
  refine cX Try.call27 (pf_queue hR_553 hJ_554.i 1  (Sat.flat1 hS_555)) ?_
  rintro _ w_556 ⟨az_559, nz_560, kz_561, Z_562, rfl, hO_563, hS_557⟩
  have hS_558 := Sat.unflat2 hS_557; have hn_az_559 := hO_563.len; have hl_az_559 := hO_563.le
  have he_564 : bandQ (crS 2 r 6).q 1 = [(⟨1, 0⟩ : Ref), (⟨0, 2⟩ : Ref), (⟨0, 1⟩ : Ref)] := (cr_q6 hr).2
  rw [he_564] at hO_563 hn_az_559
  obtain rfl : 3 = nz_560 := hn_az_559
  refine pu1 <| nilO <| thenK_n <| seqE <| seqE <| regionE <| pu9 <| gY ?_
  refine sIdxO hO_519 0 0 Try.runUnderlying44 Try.sizeOf50 ?_
  intro x_565 b_566 o_567 hx_568 hp_569 hq_570
  have hxl_x_565 : x_565 = (⟨10, 0, 0, 0, 0, 2, 0⟩ : Evt) := (Option.some.inj hx_568).symm
  refine gY ?_
  refine sLpA hS_558 (hp_569.up 4 rfl) 0 (encEvt x_565) (Try.isAgg50 _) (Try.sizeOf50 _) ?_
  refine pu3 <| gY ?_
  refine stepY (.bool (!(((x_565.kind : Int) == 10) && ((x_565.worker : Int) == 0) && ((x_565.from_ : Int) == 0) && ((x_565.job : Int) == 0) && ((x_565.refJob : Int) == 0) && ((x_565.refTask : Int) == 2) && ((x_565.err : Int) == 0)))) rfl rfl (Y_eqS rfl (by kernel_rfl) (by kernel_rfl) (eqvn50 _ x_565.kind x_565.worker x_565.from_ x_565.job x_565.refJob x_565.refTask x_565.err 10 0 0 0 0 2 0)) ?_
  refine pu2 ?_
  have hc_571 : (x_565.kind : Int) = 10 ∧ (x_565.worker : Int) = 0 ∧ (x_565.from_ : Int) = 0 ∧ (x_565.job : Int) = 0 ∧ (x_565.refJob : Int) = 0 ∧ (x_565.refTask : Int) = 2 ∧ (x_565.err : Int) = 0 := (by subst hxl_x_565; exact ⟨rfl, rfl, rfl, rfl, rfl, rfl, rfl⟩)
  refine sFix 90 _ false (congrArg Bool.not (show (((x_565.kind : Int) == 10) && ((x_565.worker : Int) == 0) && ((x_565.from_ : Int) == 0) && ((x_565.job : Int) == 0) && ((x_565.refJob : Int) == 0) && ((x_565.refTask : Int) == 2) && ((x_565.err : Int) == 0)) = true from by simpa [and_assoc] using hc_571)) ?_
  refine pu9 <| gY ?_
  have hS_572 := (hS_558.pick 1 rfl)
  refine cX Try.call26 (pf_deque hR_553 hJ_554.i 0  (Sat.flat1 hS_572)) ?_
  rintro _ w_573 ⟨az_576, nz_577, kz_578, Z_579, rfl, hO_580, hS_574⟩
  have hS_575 := Sat.unflat2 hS_574; have hn_az_576 := hO_580.len; have hl_az_576 := hO_580.le
  have he_581 : dequeF (crS 2 r 6) 0 = ([] : List Ref) := (cr_d6 hr).2
  rw [he_581] at hO_580 hn_az_576
  obtain rfl : 0 = nz_577 := hn_az_576
  refine pu10 <| nilO <| thenK_n <| cFf <| skipE <| thenK_n <| seqE <| seqE <| regionE <| pu1 ?_
  refine sIdxO hO_563 0 0 Try.runUnderlying52 Try.sizeOf48 ?_
  intro x_582 b_583 o_584 hx_585 hp_586 hq_587
  have hxl_x_582 : x_582 = (⟨1, 0⟩ : Ref) := (Option.some.inj hx_585).symm
  refine sLpA hS_575 (hp_586.up 2 rfl) 0 [.int .i64 x_582.job, .int .i64 x_582.task] (Try.isAgg48 _) (Try.sizeOf48 _) ?_
  refine pu1 ?_
  refine stepY (.bool (!(((x_582.job : Int) == 1) && ((x_582.task : Int) == 0)))) rfl rfl (Y_eqS rfl (by kernel_rfl) (by kernel_rfl) (eqvn48 _ x_582.job x_582.task 1 0)) ?_
  refine pu1 ?_
  have hc_588 : (x_582.job : Int) = 1 ∧ (x_582.task : Int) = 0 := (by subst hxl_x_582; exact ⟨rfl, rfl⟩)
  refine sFix 116 _ false (congrArg Bool.not (show (((x_582.job : Int) == 1) && ((x_582.task : Int) == 0)) = true from by simpa using hc_588)) ?_
  refine pu1 <| gY ?_
  refine sIdxO hO_563 1 1 Try.runUnderlying52 Try.sizeOf48 ?_
  intro x_589 b_590 o_591 hx_592 hp_593 hq_594
  have hxl_x_589 : x_589 = (⟨0, 2⟩ : Ref) := (Option.some.inj hx_592).symm
  refine gY ?_
  refine sLpA hS_575 (hp_593.up 2 rfl) 0 [.int .i64 x_589.job, .int .i64 x_589.task] (Try.isAgg48 _) (Try.sizeOf48 _) ?_
  refine pu2 <| gY ?_
  refine stepY (.bool (!(((x_589.job : Int) == 0) && ((x_589.task : Int) == 2)))) rfl rfl (Y_eqS rfl (by kernel_rfl) (by kernel_rfl) (eqvn48 _ x_589.job x_589.task 0 2)) ?_
  refine pu2 ?_
  have hc_595 : (x_589.job : Int) = 0 ∧ (x_589.task : Int) = 2 := (by subst hxl_x_589; exact ⟨rfl, rfl⟩)
  refine sFix 124 _ false (congrArg Bool.not (show (((x_589.job : Int) == 0) && ((x_589.task : Int) == 2)) = true from by simpa using hc_595)) ?_
  refine pu4 <| gY ?_
  refine sIdxO hO_563 2 2 Try.runUnderlying52 Try.sizeOf48 ?_
  intro x_596 b_597 o_598 hx_599 hp_600 hq_601
  have hxl_x_596 : x_596 = (⟨0, 1⟩ : Ref) := (Option.some.inj hx_599).symm
  refine gY ?_
  refine sLpA hS_575 (hp_600.up 2 rfl) 0 [.int .i64 x_596.job, .int .i64 x_596.task] (Try.isAgg48 _) (Try.sizeOf48 _) ?_
  refine pu1 <| gY ?_
  refine stepY (.bool (!(((x_596.job : Int) == 0) && ((x_596.task : Int) == 1)))) rfl rfl (Y_eqS rfl (by kernel_rfl) (by kernel_rfl) (eqvn48 _ x_596.job x_596.task 0 1)) ?_
  refine pu2 <| nilO <| thenK_n <| ?_
  have hc_602 : (x_596.job : Int) = 0 ∧ (x_596.task : Int) = 1 := (by subst hxl_x_596; exact ⟨rfl, rfl⟩)
  refine cF _ (congrArg Bool.not (show (((x_596.job : Int) == 0) && ((x_596.task : Int) == 1)) = true from by simpa using hc_602)) ?_
  refine skipE <| thenK_n <| seqE <| seqE <| regionE <| pu1 <| nilO <| thenK_n <| blockE ?_
  refine loopN 6 ?_
  refine roundS ?_
  refine seqE <| seqE <| regionE <| pu2 <| nilO <| thenK_n <| cTt <| skipE <| thenK_n <| seqE <| blockE <| regionE <| pu2 ?_
  have hS_603 := (hS_575.pick 1 rfl)
  refine cX Try.call23 (pf_step hR_553 hJ_554.i 1 choice hJ_554.t (by omega) (Sat.flat1 hS_603)) ?_
  rintro _ w_604 ⟨az_607, nz_608, kz_609, Z_610, M_611, rfl, hO_612, hR_613, hS_605⟩
  have hS_606 := Sat.unflat2 hS_605; have hn_az_607 := hO_612.len; have hl_az_607 := hO_612.le
  have hJ_614 := FJ.step (x := 1) (c := choice) hJ_554 (by omega)
  have hst_8 : stepF (crS 2 r 6) 1 choice = stepF (crS 2 r 6) 1 r := by rw [step_norm (by rw [cr_len]; decide), cr_len, hrr]
  have hS_615 := hS_606.dropAt 0 rfl
  have hR_616 : FarmP p_378 (crS 2 r 7) M_611 := by rw [show crS 2 r 7 = (stepF (crS 2 r 6) 1 r).1 from rfl, ← hst_8]; exact hR_613
  have hJ_617 : FJ (crS 2 r 7) 9 2 := by rw [show crS 2 r 7 = (stepF (crS 2 r 6) 1 r).1 from rfl, ← hst_8]; exact hJ_614
  refine nilO <| blockK_n <| thenK_n <| regionE <| pu3 <| nilO <| thenK_n <| ?_
  refine roundS ?_
  refine seqE <| seqE <| regionE <| pu2 <| nilO <| thenK_n <| cTt <| skipE <| thenK_n <| seqE <| blockE <| regionE <| pu2 ?_
  refine cX Try.call23 (pf_step hR_616 hJ_617.i 1 choice hJ_617.t (by omega) (Sat.flat1 hS_615)) ?_
  rintro _ w_618 ⟨az_621, nz_622, kz_623, Z_624, M_625, rfl, hO_626, hR_627, hS_619⟩
  have hS_620 := Sat.unflat2 hS_619; have hn_az_621 := hO_626.len; have hl_az_621 := hO_626.le
  have hJ_628 := FJ.step (x := 1) (c := choice) hJ_617 (by omega)
  have hst_9 : stepF (crS 2 r 7) 1 choice = stepF (crS 2 r 7) 1 r := by rw [step_norm (by rw [cr_len]; decide), cr_len, hrr]
  have hS_629 := hS_620.dropAt 0 rfl
  have hR_630 : FarmP p_378 (crS 2 r 8) M_625 := by rw [show crS 2 r 8 = (stepF (crS 2 r 7) 1 r).1 from rfl, ← hst_9]; exact hR_627
  have hJ_631 : FJ (crS 2 r 8) 10 2 := by rw [show crS 2 r 8 = (stepF (crS 2 r 7) 1 r).1 from rfl, ← hst_9]; exact hJ_628
  refine nilO <| blockK_n <| thenK_n <| regionE <| pu3 <| nilO <| thenK_n <| ?_
  refine roundS ?_
  refine seqE <| seqE <| regionE <| pu2 <| nilO <| thenK_n <| cTt <| skipE <| thenK_n <| seqE <| blockE <| regionE <| pu2 ?_
  refine cX Try.call23 (pf_step hR_630 hJ_631.i 1 choice hJ_631.t (by omega) (Sat.flat1 hS_629)) ?_
  rintro _ w_632 ⟨az_635, nz_636, kz_637, Z_638, M_639, rfl, hO_640, hR_641, hS_633⟩
  have hS_634 := Sat.unflat2 hS_633; have hn_az_635 := hO_640.len; have hl_az_635 := hO_640.le
  have hJ_642 := FJ.step (x := 1) (c := choice) hJ_631 (by omega)
  have hst_10 : stepF (crS 2 r 8) 1 choice = stepF (crS 2 r 8) 1 r := by rw [step_norm (by rw [cr_len]; decide), cr_len, hrr]
  have hS_643 := hS_634.dropAt 0 rfl
  have hR_644 : FarmP p_378 (crS 2 r 9) M_639 := by rw [show crS 2 r 9 = (stepF (crS 2 r 8) 1 r).1 from rfl, ← hst_10]; exact hR_641
  have hJ_645 : FJ (crS 2 r 9) 11 2 := by rw [show crS 2 r 9 = (stepF (crS 2 r 8) 1 r).1 from rfl, ← hst_10]; exact hJ_642
  refine nilO <| blockK_n <| thenK_n <| regionE <| pu3 <| nilO <| thenK_n <| ?_
  refine roundS ?_
  refine seqE <| seqE <| regionE <| pu2 <| nilO <| thenK_n <| cTt <| skipE <| thenK_n <| seqE <| blockE <| regionE <| pu2 ?_
  refine cX Try.call23 (pf_step hR_644 hJ_645.i 1 choice hJ_645.t (by omega) (Sat.flat1 hS_643)) ?_
  rintro _ w_646 ⟨az_649, nz_650, kz_651, Z_652, M_653, rfl, hO_654, hR_655, hS_647⟩
  have hS_648 := Sat.unflat2 hS_647; have hn_az_649 := hO_654.len; have hl_az_649 := hO_654.le
  have hJ_656 := FJ.step (x := 1) (c := choice) hJ_645 (by omega)
  have hst_11 : stepF (crS 2 r 9) 1 choice = stepF (crS 2 r 9) 1 r := by rw [step_norm (by rw [cr_len]; decide), cr_len, hrr]
  have hS_657 := hS_648.dropAt 0 rfl
  have hR_658 : FarmP p_378 (crS 2 r 10) M_653 := by rw [show crS 2 r 10 = (stepF (crS 2 r 9) 1 r).1 from rfl, ← hst_11]; exact hR_655
  have hJ_659 : FJ (crS 2 r 10) 12 2 := by rw [show crS 2 r 10 = (stepF (crS 2 r 9) 1 r).1 from rfl, ← hst_11]; exact hJ_656
  refine nilO <| blockK_n <| thenK_n <| regionE <| pu3 <| nilO <| thenK_n <| ?_
  refine roundS ?_
  refine seqE <| seqE <| regionE <| pu2 <| nilO <| thenK_n <| cTt <| skipE <| thenK_n <| seqE <| blockE <| regionE <| pu2 ?_
  refine cX Try.call23 (pf_step hR_658 hJ_659.i 1 choice hJ_659.t (by omega) (Sat.flat1 hS_657)) ?_
  rintro _ w_660 ⟨az_663, nz_664, kz_665, Z_666, M_667, rfl, hO_668, hR_669, hS_661⟩
  have hS_662 := Sat.unflat2 hS_661; have hn_az_663 := hO_668.len; have hl_az_663 := hO_668.le
  have hJ_670 := FJ.step (x := 1) (c := choice) hJ_659 (by omega)
  have hst_12 : stepF (crS 2 r 10) 1 choice = stepF (crS 2 r 10) 1 r := by rw [step_norm (by rw [cr_len]; decide), cr_len, hrr]
  have hS_671 := hS_662.dropAt 0 rfl
  have hR_672 : FarmP p_378 (crS 2 r 11) M_667 := by rw [show crS 2 r 11 = (stepF (crS 2 r 10) 1 r).1 from rfl, ← hst_12]; exact hR_669
  have hJ_673 : FJ (crS 2 r 11) 13 2 := by rw [show crS 2 r 11 = (stepF (crS 2 r 10) 1 r).1 from rfl, ← hst_12]; exact hJ_670
  refine nilO <| blockK_n <| thenK_n <| regionE <| pu3 <| nilO <| thenK_n <| ?_
  refine roundS ?_
  refine seqE <| seqE <| regionE <| pu2 <| nilO <| thenK_n <| cFf <| exitE <| thenK_x <| thenK_x <| blockK_x <| thenK_n <| seqE <| regionE <| pu1 ?_
  refine cX Try.call29 (pf_workers hR_672 hJ_673.i   (Sat.flat1 hS_671)) ?_
  rintro _ w_674 ⟨az_677, nz_678, kz_679, Z_680, rfl, hO_681, hS_675⟩
  have hS_676 := Sat.unflat2 hS_675; have hn_az_677 := hO_681.len; have hl_az_677 := hO_681.le
  have he_682 : (crS 2 r 11).ws = [(⟨4, 0, 0, 0, 0, 0, 0⟩ : Wkr), (⟨1, 1, 1, 0, 0, 0, 0⟩ : Wkr)] := (cr_w11 hr).2
  rw [he_682] at hO_681 hn_az_677
  obtain rfl : 2 = nz_678 := hn_az_677
  refine pu1 <| nilO <| thenK_n <| seqE <| regionE <| pu1 ?_
  have hS_683 := (hS_676.pick 1 rfl)
  refine cX Try.call32 (pf_restart hR_672 hJ_673.i 0  (Sat.flat1 hS_683)) ?_
  rintro _ w_684 ⟨az_687, nz_688, kz_689, Z_690, M_691, rfl, hO_692, hR_693, hS_685⟩
  have hS_686 := Sat.unflat2 hS_685; have hn_az_687 := hO_692.len; have hl_az_687 := hO_692.le
  have hJ_694 := FJ.restart (x := 0) hJ_673 (by omega)
  have he_695 : (restartF (crS 2 r 11) 0).2 = ([(⟨11, 0, 0, 0, 0, 0, 0⟩ : Evt)], 0) := (cr_r11 hr).2
  have he_695_c := congrArg Prod.snd he_695; have he_695_l := congrArg Prod.fst he_695; dsimp only at he_695_c he_695_l; rw [he_695_c]; rw [he_695_l] at hO_692 hn_az_687
  obtain rfl : 1 = nz_688 := hn_az_687
  have hR_696 : FarmP p_378 (crS 2 r 12) M_691 := by skip; exact hR_693
  have hJ_697 : FJ (crS 2 r 12) 14 2 := by skip; exact hJ_694
  refine pu5 <| nilO <| thenK_n <| seqE <| regionE <| pu1 ?_
  have hS_698 := (hS_686.pick 1 rfl)
  refine cX Try.call32 (pf_restart hR_696 hJ_697.i 0  (Sat.flat1 hS_698)) ?_
  rintro _ w_699 ⟨az_702, nz_703, kz_704, Z_705, M_706, rfl, hO_707, hR_708, hS_700⟩
  have hS_701 := Sat.unflat2 hS_700; have hn_az_702 := hO_707.len; have hl_az_702 := hO_707.le
  have hJ_709 := FJ.restart (x := 0) hJ_697 (by omega)
  have hrd : restartF (crS 2 r 12) 0 = (crS 2 r 12, [], 20) := re_live (by rw [cr_len]; decide) (by rw [(cr_p12 hr).2]; decide)
  have he_710 : (restartF (crS 2 r 12) 0).2 = (([] : List Evt), 20) := (by rw [hrd])
  have he_710_c := congrArg Prod.snd he_710; have he_710_l := congrArg Prod.fst he_710; dsimp only at he_710_c he_710_l; rw [he_710_c]; rw [he_710_l] at hO_707 hn_az_702
  obtain rfl : 0 = nz_703 := hn_az_702
  have hR_711 : FarmP p_378 (crS 2 r 12) M_706 := by rw [show crS 2 r 12 = (restartF (crS 2 r 12) 0).1 from by rw [hrd]]; exact hR_708
  have hJ_712 : FJ (crS 2 r 12) 15 2 := by rw [show crS 2 r 12 = (restartF (crS 2 r 12) 0).1 from by rw [hrd]]; exact hJ_709
  refine pu5 <| nilO <| thenK_n <| seqE <| regionE <| pu5 <| gY ?_
  refine sIdxO hO_681 1 1 Try.runUnderlying57 Try.sizeOf61 ?_
  intro x_713 b_714 o_715 hx_716 hp_717 hq_718
  have hxl_x_713 : x_713 = (⟨1, 1, 1, 0, 0, 0, 0⟩ : Wkr) := (Option.some.inj hx_716).symm
  refine pu1 <| gY ?_
  refine sLp hS_701 (hp_717.up 3 rfl) 0 (.int .i64 x_713.phase) (Try.isAgg3 _) ?_
  refine pu3 ?_
  have hc_719 : (x_713.phase : Int) = 1 := (by subst hxl_x_713; rfl)
  refine sFix 164 _ true (beq_iff_eq.2 hc_719) ?_
  refine pu1 <| gY ?_
  refine sIdxO hO_681 1 1 Try.runUnderlying57 Try.sizeOf61 ?_
  intro x_720 b_721 o_722 hx_723 hp_724 hq_725
  obtain rfl : x_713 = x_720 := Option.some.inj (hx_716.symm.trans hx_723)
  have hxl_x_713 : x_713 = (⟨1, 1, 1, 0, 0, 0, 0⟩ : Wkr) := (Option.some.inj hx_723).symm
  refine pu1 <| gY ?_
  refine sLpA hS_701 (hp_724.up 3 rfl) 1 [.int .i64 x_713.heldJob, .int .i64 x_713.heldTask] (Try.isAgg48 _) (Try.sizeOf48 _) ?_
  refine pu1 <| gY ?_
  refine stepY (.bool (((x_713.heldJob : Int) == 1) && ((x_713.heldTask : Int) == 1))) rfl rfl (Y_eqS rfl (by kernel_rfl) (by kernel_rfl) (eqve48 _ x_713.heldJob x_713.heldTask 1 1)) ?_
  refine pu2 ?_
  have hc_726 : (x_713.heldJob : Int) = 1 ∧ (x_713.heldTask : Int) = 1 := (by subst hxl_x_713; exact ⟨rfl, rfl⟩)
  refine sFix 172 _ true (show (((x_713.heldJob : Int) == 1) && ((x_713.heldTask : Int) == 1)) = true from by simpa using hc_726) ?_
  refine pu10 <| gY ?_
  refine sIdxO hO_692 0 0 Try.runUnderlying44 Try.sizeOf50 ?_
  intro x_727 b_728 o_729 hx_730 hp_731 hq_732
  have hxl_x_727 : x_727 = (⟨11, 0, 0, 0, 0, 0, 0⟩ : Evt) := (Option.some.inj hx_730).symm
  refine gY ?_
  refine sLpA hS_701 (hp_731.up 2 rfl) 0 (encEvt x_727) (Try.isAgg50 _) (Try.sizeOf50 _) ?_
  refine pu1 <| gY ?_
  refine stepY (.bool (((x_727.kind : Int) == 11) && ((x_727.worker : Int) == 0) && ((x_727.from_ : Int) == 0) && ((x_727.job : Int) == 0) && ((x_727.refJob : Int) == 0) && ((x_727.refTask : Int) == 0) && ((x_727.err : Int) == 0))) rfl rfl (Y_eqS rfl (by kernel_rfl) (by kernel_rfl) (eqve50 _ x_727.kind x_727.worker x_727.from_ x_727.job x_727.refJob x_727.refTask x_727.err 11 0 0 0 0 0 0)) ?_
  refine pu2 ?_
  have hc_733 : (x_727.kind : Int) = 11 ∧ (x_727.worker : Int) = 0 ∧ (x_727.from_ : Int) = 0 ∧ (x_727.job : Int) = 0 ∧ (x_727.refJob : Int) = 0 ∧ (x_727.refTask : Int) = 0 ∧ (x_727.err : Int) = 0 := (by subst hxl_x_727; exact ⟨rfl, rfl, rfl, rfl, rfl, rfl, rfl⟩)
  refine sFix 188 _ true (show (((x_727.kind : Int) == 11) && ((x_727.worker : Int) == 0) && ((x_727.from_ : Int) == 0) && ((x_727.job : Int) == 0) && ((x_727.refJob : Int) == 0) && ((x_727.refTask : Int) == 0) && ((x_727.err : Int) == 0)) = true from by simpa [and_assoc] using hc_733) ?_
  refine pu4 <| gY ?_
  refine cX Try.call24 (l27_sane hS_701) ?_
  rintro _ w_734 ⟨rfl, hS_735⟩
  refine pu2 <| nilO <| thenK_n <| retE <| retT [.bool true] <| ?_
  have hS_736 := (hS_735.pick 13 rfl)
  have hS_737 := hS_736.dropAt 1 rfl
  have hS_738 := hS_737.dropAt 1 rfl
  have hS_739 := hS_738.dropAt 1 rfl
  have hS_740 := hS_739.dropAt 1 rfl
  have hS_741 := hS_740.dropAt 1 rfl
  have hS_742 := hS_741.dropAt 1 rfl
  have hS_743 := hS_742.dropAt 1 rfl
  have hS_744 := hS_743.dropAt 1 rfl
  have hS_745 := hS_744.dropAt 1 rfl
  have hS_746 := hS_745.dropAt 1 rfl
  have hS_747 := hS_746.dropAt 1 rfl
  have hS_748 := hS_747.dropAt 1 rfl
  have hS_749 := hS_748.dropAt 1 rfl
  exact ⟨rfl, hS_749⟩
end Go.Proofs.Ytegmennaekipaaa
