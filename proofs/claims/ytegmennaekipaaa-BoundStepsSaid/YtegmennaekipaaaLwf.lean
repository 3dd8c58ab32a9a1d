import Derived.Test.YtegmennaekipaaaPfl
namespace Go.Proofs.Ytegmennaekipaaa
open Go Go.E
set_option linter.unusedVariables false
set_option linter.unusedSimpArgs false
set_option linter.unnecessarySimpa false
set_option maxRecDepth 100000
set_option maxHeartbeats 2000000
variable {W w : World} {H : Chunk} {F : List Chunk}
/-! ### the farms of the laws, as values -/
def cfgF (n : Int) : Cfg := ⟨n, 4, 4, 1024, 2, 100, 100, 8⟩
def saS : Nat → FS
  | 0 => addV (newF (cfgF 1)) 0 [⟨0, 0, 0, 0, 0, 0, [], 2, 16⟩] 0
  | k + 1 => (stepF (saS k) 0 0).1
theorem sa_e0 : (stepF (saS 0) 0 0).2 = ([⟨4, 0, 0, 0, 0, 0, 0⟩], 0) := by decide +kernel
theorem sa_e1 : (stepF (saS 1) 0 0).2 = ([⟨6, 0, 0, 0, 0, 0, 0⟩], 0) := by decide +kernel
theorem sa_e2 : (stepF (saS 2) 0 0).2 = ([⟨7, 0, 0, 0, 0, 0, 0⟩], 0) := by decide +kernel
theorem sa_e3 : (stepF (saS 3) 0 0).2 = ([⟨7, 0, 0, 0, 0, 0, 0⟩], 0) := by decide +kernel
theorem sa_e4 : (stepF (saS 4) 0 0).2 = ([⟨8, 0, 0, 0, 0, 0, 0⟩], 0) := by decide +kernel
theorem sa_run : runK (saS 5).jobs = [] := by decide +kernel
theorem sa_st : stateF (saS 5) 0 0 = 4 := by decide +kernel
theorem load_new0 (c : Cfg) : loadL (newF c).jobs = 0 := rfl
/-- FarmHelps: r is the choice, from 0 to 2. -/
def hpS (r : Int) : Nat → FS
  | 0 => addV (newF (cfgF 3)) 0 [⟨0, 0, 0, 0, 0, 0, [], 1, 32⟩] 0
  | 1 => (stepF (hpS r 0) 1 0).1
  | k + 2 => (stepF (hpS r (k + 1)) 2 r).1
theorem three {P : Int → Prop} (h0 : P 0) (h1 : P 1) (h2 : P 2) {r : Int} (h : 0 ≤ r ∧ r < 3) : P r := by
  rcases (by omega : r = 0 ∨ r = 1 ∨ r = 2) with rfl | rfl | rfl <;> assumption
theorem hp_e0 (r : Int) : (stepF (hpS r 0) 1 0).2 = ([⟨4, 1, 0, 0, 0, 0, 0⟩], 0) := by
  show (stepF (hpS 0 0) 1 0).2 = _; decide +kernel
theorem hp_e1 {r : Int} : 0 ≤ r ∧ r < 3 → (stepF (hpS r 1) 2 r).2 = ([⟨12, 2, 1, 0, 0, 0, 0⟩, ⟨6, 1, 0, 0, 0, 0, 0⟩], 0) := three (P := fun r => (stepF (hpS r 1) 2 r).2 = _) (by decide +kernel) (by decide +kernel) (by decide +kernel)
theorem hp_e2 {r : Int} : 0 ≤ r ∧ r < 3 → (stepF (hpS r 2) 2 r).2 = ([⟨12, 2, 1, 0, 0, 0, 0⟩, ⟨7, 1, 0, 0, 0, 0, 0⟩], 0) := three (P := fun r => (stepF (hpS r 2) 2 r).2 = _) (by decide +kernel) (by decide +kernel) (by decide +kernel)
theorem hp_e3 {r : Int} : 0 ≤ r ∧ r < 3 → (stepF (hpS r 3) 2 r).2 = ([⟨12, 2, 1, 0, 0, 0, 0⟩, ⟨8, 1, 0, 0, 0, 0, 0⟩], 0) := three (P := fun r => (stepF (hpS r 3) 2 r).2 = _) (by decide +kernel) (by decide +kernel) (by decide +kernel)
theorem hp_e4 {r : Int} : 0 ≤ r ∧ r < 3 → (stepF (hpS r 4) 2 r).2 = ([⟨13, 2, 0, 0, 0, 0, 0⟩], 0) := three (P := fun r => (stepF (hpS r 4) 2 r).2 = _) (by decide +kernel) (by decide +kernel) (by decide +kernel)
theorem hp_run {r : Int} : 0 ≤ r ∧ r < 3 → runK (hpS r 5).jobs = [] := three (P := fun r => runK (hpS r 5).jobs = []) (by decide +kernel) (by decide +kernel) (by decide +kernel)
theorem hp_ws {r : Int} : 0 ≤ r ∧ r < 3 → (hpS r 5).ws = [⟨0, 0, 0, 0, 0, 0, 0⟩, ⟨0, 0, 0, 0, 0, 0, 32⟩, ⟨0, 0, 0, 0, 0, 0, 0⟩] := three (P := fun r => (hpS r 5).ws = _) (by decide +kernel) (by decide +kernel) (by decide +kernel)
theorem hp_helps {r : Int} : 0 ≤ r ∧ r < 3 → (statsF (hpS r 5)).helps = 3 := three (P := fun r => (statsF (hpS r 5)).helps = 3) (by decide +kernel) (by decide +kernel) (by decide +kernel)
theorem eqvn50 (w : World) (a0 a1 a2 a3 a4 a5 a6 b0 b1 b2 b3 b4 b5 b6 : Int) : ∀ x y, ((do eqGuard .neq 50 x y (.agg #[.int .i64 a0, .int .i64 a1, .int .i64 a2, .int .i64 a3, .int .i64 a4, .int .i64 a5, .int .i64 a6]) (.agg #[.int .i64 b0, .int .i64 b1, .int .i64 b2, .int .i64 b3, .int .i64 b4, .int .i64 b5, .int .i64 b6]); binOp .neq 50 (.agg #[.int .i64 a0, .int .i64 a1, .int .i64 a2, .int .i64 a3, .int .i64 a4, .int .i64 a5, .int .i64 a6]) (.agg #[.int .i64 b0, .int .i64 b1, .int .i64 b2, .int .i64 b3, .int .i64 b4, .int .i64 b5, .int .i64 b6])) : Sem Value).run Try.prog w = .ok (.bool (!((a0 == b0) && (a1 == b1) && (a2 == b2) && (a3 == b3) && (a4 == b4) && (a5 == b5) && (a6 == b6)))) w := by
  intro x y
  simp [go_sem, run_eqGuard_agg, run_neq_struct, run_equalIn_agg]
  by_cases h0 : a0 = b0 <;> by_cases h1 : a1 = b1 <;> by_cases h2 : a2 = b2 <;> by_cases h3 : a3 = b3 <;> by_cases h4 : a4 = b4 <;> by_cases h5 : a5 = b5 <;> by_cases h6 : a6 = b6 <;> simp [*]
theorem eqve50 (w : World) (a0 a1 a2 a3 a4 a5 a6 b0 b1 b2 b3 b4 b5 b6 : Int) : ∀ x y, ((do eqGuard .eql 50 x y (.agg #[.int .i64 a0, .int .i64 a1, .int .i64 a2, .int .i64 a3, .int .i64 a4, .int .i64 a5, .int .i64 a6]) (.agg #[.int .i64 b0, .int .i64 b1, .int .i64 b2, .int .i64 b3, .int .i64 b4, .int .i64 b5, .int .i64 b6]); binOp .eql 50 (.agg #[.int .i64 a0, .int .i64 a1, .int .i64 a2, .int .i64 a3, .int .i64 a4, .int .i64 a5, .int .i64 a6]) (.agg #[.int .i64 b0, .int .i64 b1, .int .i64 b2, .int .i64 b3, .int .i64 b4, .int .i64 b5, .int .i64 b6])) : Sem Value).run Try.prog w = .ok (.bool ((a0 == b0) && (a1 == b1) && (a2 == b2) && (a3 == b3) && (a4 == b4) && (a5 == b5) && (a6 == b6))) w := by
  intro x y
  simp [go_sem, run_eqGuard_agg, run_eql_struct, run_equalIn_agg]
  by_cases h0 : a0 = b0 <;> by_cases h1 : a1 = b1 <;> by_cases h2 : a2 = b2 <;> by_cases h3 : a3 = b3 <;> by_cases h4 : a4 = b4 <;> by_cases h5 : a5 = b5 <;> by_cases h6 : a6 = b6 <;> simp [*]
theorem eqvn48 (w : World) (a0 a1 b0 b1 : Int) : ∀ x y, ((do eqGuard .neq 48 x y (.agg #[.int .i64 a0, .int .i64 a1]) (.agg #[.int .i64 b0, .int .i64 b1]); binOp .neq 48 (.agg #[.int .i64 a0, .int .i64 a1]) (.agg #[.int .i64 b0, .int .i64 b1])) : Sem Value).run Try.prog w = .ok (.bool (!((a0 == b0) && (a1 == b1)))) w := by
  intro x y
  simp [go_sem, run_eqGuard_agg, run_neq_struct, run_equalIn_agg]
  by_cases h0 : a0 = b0 <;> by_cases h1 : a1 = b1 <;> simp [*]
theorem eqve48 (w : World) (a0 a1 b0 b1 : Int) : ∀ x y, ((do eqGuard .eql 48 x y (.agg #[.int .i64 a0, .int .i64 a1]) (.agg #[.int .i64 b0, .int .i64 b1]); binOp .eql 48 (.agg #[.int .i64 a0, .int .i64 a1]) (.agg #[.int .i64 b0, .int .i64 b1])) : Sem Value).run Try.prog w = .ok (.bool ((a0 == b0) && (a1 == b1))) w := by
  intro x y
  simp [go_sem, run_eqGuard_agg, run_eql_struct, run_equalIn_agg]
  by_cases h0 : a0 = b0 <;> by_cases h1 : a1 = b1 <;> simp [*]
theorem l27_config {cs : List Chunk} (n : Int) (hS : Sat W w cs) :
    Ro Try.prog 20 #[.int .i64 n] (.agg #[.int .i64 n, .int .i64 4, .int .i64 4, .int .i64 1024, .int .i64 2, .int .i64 100, .int .i64 100, .int .i64 8]) W w cs := by
  refine callsA 5 Try.func20 rfl ?_
  refine seqE <| regionE ?_
  refine sAlloc hS Try.zeroValue41 ?_
  intro b_1 w_2 hS_3
  refine nilO <| thenK_n <| seqE <| regionE <| pu2 ?_
  refine sT hS_3 0 0 (.agg #[.int .i64 n, .int .i64 4, .int .i64 4, .int .i64 1024, .int .i64 2, .int .i64 100, .int .i64 100, .int .i64 8]) [.int .i64 n, .int .i64 4, .int .i64 4, .int .i64 1024, .int .i64 2, .int .i64 100, .int .i64 100, .int .i64 8] #[.int .i64 n, .int .i64 4, .int .i64 4, .int .i64 1024, .int .i64 2, .int .i64 100, .int .i64 100, .int .i64 8] Try.sizeOf41 ?_
  intro w_4 hS_5
  refine nilO <| thenK_n <| retE <| retN (vs := [.agg #[.int .i64 n, .int .i64 4, .int .i64 4, .int .i64 1024, .int .i64 2, .int .i64 100, .int .i64 100, .int .i64 8]]) rfl (.cons (.cell _ _ _ _ (by kernel_rfl) (lvA hS_5 0 0 [.int .i64 n, .int .i64 4, .int .i64 4, .int .i64 1024, .int .i64 2, .int .i64 100, .int .i64 100, .int .i64 8] (Try.isAgg41 _) (Try.sizeOf41 _) rfl rfl rfl)) .nil) <| ?_
  have hS_6 := (hS_5.dropAt 0 rfl)
  exact ⟨rfl, hS_6⟩
theorem l27_sane {cs : List Chunk} (hS : Sat W w cs) :
    Ro Try.prog 24 #[] (.bool true) W w cs := by
  refine callsA 61 Try.func24 rfl ?_
  refine seqE <| regionE <| pu1 <| nilO <| thenK_n <| seqE <| regionE ?_
  refine cX Try.call20 (l27_config 1 hS) ?_
  rintro _ w_1 ⟨rfl, hS_2⟩
  have hv_8 : validCfg (⟨1, 4, 4, 1024, 2, 100, 100, 8⟩ : Cfg) = 0 := by decide
  refine cX Try.call19 (pf_new (⟨1, 4, 4, 1024, 2, 100, 100, 8⟩ : Cfg) hv_8 hS_2) ?_
  rintro _ w_3 ⟨p_5, M_6, rfl, hR_7, hS_4⟩
  have hJ_9 := FJ.new hv_8
  refine pu5 <| nilO <| thenK_n <| seqE <| seqE <| regionE <| pu9 <| gY ?_
  refine sBS hS_4 #[.int .i64 0, .int .i64 0, .int .i64 0, .int .i64 0, .int .i64 0, .int .i64 0, .slice none 0 0, .int .i64 2, .int .i64 16] Try.runUnderlying23 Try.sizeOf31 Try.zeroValue31 ?_
  intro b_10 w_11 hS_12
  refine gY ?_
  have hS_13 := (hS_12.pick 1 rfl)
  have p_20 : 0 ≤ (0 : Int) ∧ (0 : Int) < 64 := by decide
  have p_23 : 0 ≤ (0 : Int) ∧ (0 : Int) < 4 := by decide
  have p_24 : validC ([(⟨0, 0, 0, 0, 0, 0, ⟨none, 0, 0, []⟩, 2, 16⟩ : Task)]) = 0 := by decide
  have p_25 : ∀ z ∈ [(⟨0, 0, 0, 0, 0, 0, ⟨none, 0, 0, []⟩, 2, 16⟩ : Task)], z.scratch ≤ (newF (⟨1, 4, 4, 1024, 2, 100, 100, 8⟩ : Cfg)).cfg.arena := by intro z hz; rcases List.mem_singleton.1 hz with rfl; decide
  have p_26 : 0 ≤ (newF (⟨1, 4, 4, 1024, 2, 100, 100, 8⟩ : Cfg)).cfg.tasks ∧ (newF (⟨1, 4, 4, 1024, 2, 100, 100, 8⟩ : Cfg)).cfg.tasks ≤ 4096 := by decide
  have p_27 : ((([(⟨0, 0, 0, 0, 0, 0, ⟨none, 0, 0, []⟩, 2, 16⟩ : Task)]).length : Nat) : Int) ≤ (newF (⟨1, 4, 4, 1024, 2, 100, 100, 8⟩ : Cfg)).cfg.tasks - loadL (newF (⟨1, 4, 4, 1024, 2, 100, 100, 8⟩ : Cfg)).jobs := by decide
  have p_28 : ([(⟨0, 0, 0, 0, 0, 0, ⟨none, 0, 0, []⟩, 2, 16⟩ : Task)]).length ≤ 12 := by decide
  have p_21 : (newF (⟨1, 4, 4, 1024, 2, 100, 100, 8⟩ : Cfg)).jobs[((0 : Int)).toNat]? = some JS.zero := rfl
  have p_22 : JS.added JS.zero = false := rfl
  refine cX Try.call21 (pf_add hR_7 hJ_9.i 0 (some ⟨b_10, 0, none⟩) 1 1 ([(⟨0, 0, 0, 0, 0, 0, ⟨none, 0, 0, []⟩, 2, 16⟩ : Task)]) 0 (RdT.flat (RdT.blk (enc := encTask) (sz := 9) (xs := [(⟨0, 0, 0, 0, 0, 0, ⟨none, 0, 0, []⟩, 2, 16⟩ : Task)]) (fun _ => (by rfl)) 1 0 rfl rfl rfl (by omega))) (fun z hz => by rcases List.mem_singleton.1 hz with rfl; exact ⟨RdT.nil (enc := encI) (sz := 1) (fun _ => rfl) _⟩) p_20 p_21 p_22 p_23 p_24 p_25 p_26 p_27  (Sat.flat1 hS_13)) ?_
  rintro _ w_14 ⟨M_17, rfl, hR_18, hS_15⟩
  have hS_16 := Sat.unflat1 hS_15
  have hJ_19 := hJ_9.add p_20 p_21 p_22 p_23 p_24 p_25 p_27 p_28
  have hR_29 : FarmP p_5 (saS 0) M_17 := by skip; exact hR_18
  have hJ_30 : FJ (saS 0) 0 1 := by skip; exact hJ_19
  refine pu2 <| nilO <| thenK_n <| cFf <| skipE <| thenK_n <| seqE <| seqE <| regionE ?_
  refine sBS hS_16 #[.int .i64 4, .int .i64 6, .int .i64 7, .int .i64 7, .int .i64 8] Try.runUnderlying22 Try.sizeOf3 Try.zeroValue3 ?_
  intro b_31 w_32 hS_33
  refine pu2 <| nilO <| thenK_n <| blockE ?_
  refine loopN 6 ?_
  refine roundS ?_
  refine seqE <| regionE <| pu1 <| nilO <| thenK_n <| seqE <| cTt <| skipE <| thenK_n <| seqE <| blockE <| seqE <| regionE ?_
  refine stepY (.pointer (some ⟨b_31, 0, none⟩)) rfl rfl (Y_idx (a := (some ⟨b_31, 0, none⟩)) (i := 0) (len := 5) (cap := 5) rfl Try.runUnderlying22 Try.sizeOf3 (by kernel_rfl) (by kernel_rfl) ⟨_, rfl, add_off _ 0 _, by decide, by decide⟩) ?_
  refine sL hS_33 0 0 (.int .i64 4) (Try.isAgg3 _) ?_
  refine pu1 <| nilO <| thenK_n <| seqE <| regionE <| pu1 ?_
  have hS_34 := (hS_33.pick 1 rfl)
  refine cX Try.call23 (pf_step hR_29 hJ_30.i 0 0 hJ_30.t (by omega) (Sat.flat1 hS_34)) ?_
  rintro _ w_35 ⟨az_38, nz_39, kz_40, Z_41, M_42, rfl, hO_43, hR_44, hS_36⟩
  have hS_37 := Sat.unflat2 hS_36; have hn_az_38 := hO_43.len; have hl_az_38 := hO_43.le
  have hJ_45 := FJ.step (x := 0) (c := 0) hJ_30 (by omega)
  have he_46 : (stepF (saS 0) 0 0).2 = ([(⟨4, 0, 0, 0, 0, 0, 0⟩ : Evt)], 0) := sa_e0
  have he_46_c := congrArg Prod.snd he_46; have he_46_l := congrArg Prod.fst he_46; dsimp only at he_46_c he_46_l; rw [he_46_c]; rw [he_46_l] at hO_43 hn_az_38
  obtain rfl : 1 = nz_39 := hn_az_38
  have hR_47 : FarmP p_5 (saS 1) M_42 := by skip; exact hR_44
  have hJ_48 : FJ (saS 1) 1 1 := by skip; exact hJ_45
  refine pu5 <| nilO <| thenK_n <| seqE <| regionE <| pu9 <| gY ?_
  refine sIdxO hO_43 0 0 Try.runUnderlying44 Try.sizeOf50 ?_
  intro x_49 b_50 o_51 hx_52 hp_53 hq_54
  have hxl_x_49 : x_49 = (⟨4, 0, 0, 0, 0, 0, 0⟩ : Evt) := (Option.some.inj hx_52).symm
  refine pu1 <| gY ?_
  refine sLp hS_37 (hp_53.up 0 rfl) 0 (.int .i64 x_49.kind) (Try.isAgg3 _) ?_
  refine pu3 <| nilO <| thenK_n <| ?_
  have hc_55 : (x_49.kind : Int) = 4 := (by subst hxl_x_49; rfl)
  refine cF _ (bne_eq_false_iff_eq.2 hc_55) ?_
  refine skipE <| blockK_n <| thenK_n <| regionE <| pu2 <| nilO <| thenK_n <| ?_
  refine roundS ?_
  refine seqE <| regionE <| pu1 <| nilO <| thenK_n <| seqE <| cTt <| skipE <| thenK_n <| seqE <| blockE <| seqE <| regionE ?_
  refine stepY (.pointer (some ⟨b_31, 1, none⟩)) rfl rfl (Y_idx (a := (some ⟨b_31, 0, none⟩)) (i := 1) (len := 5) (cap := 5) rfl Try.runUnderlying22 Try.sizeOf3 (by kernel_rfl) (by kernel_rfl) ⟨_, rfl, add_off _ 0 _, by decide, by decide⟩) ?_
  refine sL hS_37 2 1 (.int .i64 6) (Try.isAgg3 _) ?_
  refine pu1 <| nilO <| thenK_n <| seqE <| regionE <| pu1 ?_
  have hS_56 := (hS_37.pick 1 rfl)
  refine cX Try.call23 (pf_step hR_47 hJ_48.i 0 0 hJ_48.t (by omega) (Sat.flat1 hS_56)) ?_
  rintro _ w_57 ⟨az_60, nz_61, kz_62, Z_63, M_64, rfl, hO_65, hR_66, hS_58⟩
  have hS_59 := Sat.unflat2 hS_58; have hn_az_60 := hO_65.len; have hl_az_60 := hO_65.le
  have hJ_67 := FJ.step (x := 0) (c := 0) hJ_48 (by omega)
  have he_68 : (stepF (saS 1) 0 0).2 = ([(⟨6, 0, 0, 0, 0, 0, 0⟩ : Evt)], 0) := sa_e1
  have he_68_c := congrArg Prod.snd he_68; have he_68_l := congrArg Prod.fst he_68; dsimp only at he_68_c he_68_l; rw [he_68_c]; rw [he_68_l] at hO_65 hn_az_60
  obtain rfl : 1 = nz_61 := hn_az_60
  have hR_69 : FarmP p_5 (saS 2) M_64 := by skip; exact hR_66
  have hJ_70 : FJ (saS 2) 2 1 := by skip; exact hJ_67
  refine pu5 <| nilO <| thenK_n <| seqE <| regionE <| pu9 <| gY ?_
  refine sIdxO hO_65 0 0 Try.runUnderlying44 Try.sizeOf50 ?_
  intro x_71 b_72 o_73 hx_74 hp_75 hq_76
  have hxl_x_71 : x_71 = (⟨6, 0, 0, 0, 0, 0, 0⟩ : Evt) := (Option.some.inj hx_74).symm
  refine pu1 <| gY ?_
  refine sLp hS_59 (hp_75.up 0 rfl) 0 (.int .i64 x_71.kind) (Try.isAgg3 _) ?_
  refine pu3 <| nilO <| thenK_n <| ?_
  have hc_77 : (x_71.kind : Int) = 6 := (by subst hxl_x_71; rfl)
  refine cF _ (bne_eq_false_iff_eq.2 hc_77) ?_
  refine skipE <| blockK_n <| thenK_n <| regionE <| pu2 <| nilO <| thenK_n <| ?_
  refine roundS ?_
  refine seqE <| regionE <| pu1 <| nilO <| thenK_n <| seqE <| cTt <| skipE <| thenK_n <| seqE <| blockE <| seqE <| regionE ?_
  refine stepY (.pointer (some ⟨b_31, 2, none⟩)) rfl rfl (Y_idx (a := (some ⟨b_31, 0, none⟩)) (i := 2) (len := 5) (cap := 5) rfl Try.runUnderlying22 Try.sizeOf3 (by kernel_rfl) (by kernel_rfl) ⟨_, rfl, add_off _ 0 _, by decide, by decide⟩) ?_
  refine sL hS_59 3 2 (.int .i64 7) (Try.isAgg3 _) ?_
  refine pu1 <| nilO <| thenK_n <| seqE <| regionE <| pu1 ?_
  have hS_78 := (hS_59.pick 1 rfl)
  refine cX Try.call23 (pf_step hR_69 hJ_70.i 0 0 hJ_70.t (by omega) (Sat.flat1 hS_78)) ?_
  rintro _ w_79 ⟨az_82, nz_83, kz_84, Z_85, M_86, rfl, hO_87, hR_88, hS_80⟩
  have hS_81 := Sat.unflat2 hS_80; have hn_az_82 := hO_87.len; have hl_az_82 := hO_87.le
  have hJ_89 := FJ.step (x := 0) (c := 0) hJ_70 (by omega)
  have he_90 : (stepF (saS 2) 0 0).2 = ([(⟨7, 0, 0, 0, 0, 0, 0⟩ : Evt)], 0) := sa_e2
  have he_90_c := congrArg Prod.snd he_90; have he_90_l := congrArg Prod.fst he_90; dsimp only at he_90_c he_90_l; rw [he_90_c]; rw [he_90_l] at hO_87 hn_az_82
  obtain rfl : 1 = nz_83 := hn_az_82
  have hR_91 : FarmP p_5 (saS 3) M_86 := by skip; exact hR_88
  have hJ_92 : FJ (saS 3) 3 1 := by skip; exact hJ_89
  refine pu5 <| nilO <| thenK_n <| seqE <| regionE <| pu9 <| gY ?_
  refine sIdxO hO_87 0 0 Try.runUnderlying44 Try.sizeOf50 ?_
  intro x_93 b_94 o_95 hx_96 hp_97 hq_98
  have hxl_x_93 : x_93 = (⟨7, 0, 0, 0, 0, 0, 0⟩ : Evt) := (Option.some.inj hx_96).symm
  refine pu1 <| gY ?_
  refine sLp hS_81 (hp_97.up 0 rfl) 0 (.int .i64 x_93.kind) (Try.isAgg3 _) ?_
  refine pu3 <| nilO <| thenK_n <| ?_
  have hc_99 : (x_93.kind : Int) = 7 := (by subst hxl_x_93; rfl)
  refine cF _ (bne_eq_false_iff_eq.2 hc_99) ?_
  refine skipE <| blockK_n <| thenK_n <| regionE <| pu2 <| nilO <| thenK_n <| ?_
  refine roundS ?_
  refine seqE <| regionE <| pu1 <| nilO <| thenK_n <| seqE <| cTt <| skipE <| thenK_n <| seqE <| blockE <| seqE <| regionE ?_
  refine stepY (.pointer (some ⟨b_31, 3, none⟩)) rfl rfl (Y_idx (a := (some ⟨b_31, 0, none⟩)) (i := 3) (len := 5) (cap := 5) rfl Try.runUnderlying22 Try.sizeOf3 (by kernel_rfl) (by kernel_rfl) ⟨_, rfl, add_off _ 0 _, by decide, by decide⟩) ?_
  refine sL hS_81 4 3 (.int .i64 7) (Try.isAgg3 _) ?_
  refine pu1 <| nilO <| thenK_n <| seqE <| regionE <| pu1 ?_
  have hS_100 := (hS_81.pick 1 rfl)
  refine cX Try.call23 (pf_step hR_91 hJ_92.i 0 0 hJ_92.t (by omega) (Sat.flat1 hS_100)) ?_
  rintro _ w_101 ⟨az_104, nz_105, kz_106, Z_107, M_108, rfl, hO_109, hR_110, hS_102⟩
  have hS_103 := Sat.unflat2 hS_102; have hn_az_104 := hO_109.len; have hl_az_104 := hO_109.le
  have hJ_111 := FJ.step (x := 0) (c := 0) hJ_92 (by omega)
  have he_112 : (stepF (saS 3) 0 0).2 = ([(⟨7, 0, 0, 0, 0, 0, 0⟩ : Evt)], 0) := sa_e3
  have he_112_c := congrArg Prod.snd he_112; have he_112_l := congrArg Prod.fst he_112; dsimp only at he_112_c he_112_l; rw [he_112_c]; rw [he_112_l] at hO_109 hn_az_104
  obtain rfl : 1 = nz_105 := hn_az_104
  have hR_113 : FarmP p_5 (saS 4) M_108 := by skip; exact hR_110
  have hJ_114 : FJ (saS 4) 4 1 := by skip; exact hJ_111
  refine pu5 <| nilO <| thenK_n <| seqE <| regionE <| pu9 <| gY ?_
  refine sIdxO hO_109 0 0 Try.runUnderlying44 Try.sizeOf50 ?_
  intro x_115 b_116 o_117 hx_118 hp_119 hq_120
  obtain rfl : x_93 = x_115 := Option.some.inj (hx_96.symm.trans hx_118)
  have hxl_x_93 : x_93 = (⟨7, 0, 0, 0, 0, 0, 0⟩ : Evt) := (Option.some.inj hx_118).symm
  refine pu1 <| gY ?_
  refine sLp hS_103 (hp_119.up 0 rfl) 0 (.int .i64 x_93.kind) (Try.isAgg3 _) ?_
  refine pu3 <| nilO <| thenK_n <| ?_
  refine cF _ (bne_eq_false_iff_eq.2 hc_99) ?_
  refine skipE <| blockK_n <| thenK_n <| regionE <| pu2 <| nilO <| thenK_n <| ?_
  refine roundS ?_
  refine seqE <| regionE <| pu1 <| nilO <| thenK_n <| seqE <| cTt <| skipE <| thenK_n <| seqE <| blockE <| seqE <| regionE ?_
  refine stepY (.pointer (some ⟨b_31, 4, none⟩)) rfl rfl (Y_idx (a := (some ⟨b_31, 0, none⟩)) (i := 4) (len := 5) (cap := 5) rfl Try.runUnderlying22 Try.sizeOf3 (by kernel_rfl) (by kernel_rfl) ⟨_, rfl, add_off _ 0 _, by decide, by decide⟩) ?_
  refine sL hS_103 5 4 (.int .i64 8) (Try.isAgg3 _) ?_
  refine pu1 <| nilO <| thenK_n <| seqE <| regionE <| pu1 ?_
  have hS_121 := (hS_103.pick 1 rfl)
  refine cX Try.call23 (pf_step hR_113 hJ_114.i 0 0 hJ_114.t (by omega) (Sat.flat1 hS_121)) ?_
  rintro _ w_122 ⟨az_125, nz_126, kz_127, Z_128, M_129, rfl, hO_130, hR_131, hS_123⟩
  have hS_124 := Sat.unflat2 hS_123; have hn_az_125 := hO_130.len; have hl_az_125 := hO_130.le
  have hJ_132 := FJ.step (x := 0) (c := 0) hJ_114 (by omega)
  have he_133 : (stepF (saS 4) 0 0).2 = ([(⟨8, 0, 0, 0, 0, 0, 0⟩ : Evt)], 0) := sa_e4
  have he_133_c := congrArg Prod.snd he_133; have he_133_l := congrArg Prod.fst he_133; dsimp only at he_133_c he_133_l; rw [he_133_c]; rw [he_133_l] at hO_130 hn_az_125
  obtain rfl : 1 = nz_126 := hn_az_125
  have hR_134 : FarmP p_5 (saS 5) M_129 := by skip; exact hR_131
  have hJ_135 : FJ (saS 5) 5 1 := by skip; exact hJ_132
  refine pu5 <| nilO <| thenK_n <| seqE <| regionE <| pu9 <| gY ?_
  refine sIdxO hO_130 0 0 Try.runUnderlying44 Try.sizeOf50 ?_
  intro x_136 b_137 o_138 hx_139 hp_140 hq_141
  have hxl_x_136 : x_136 = (⟨8, 0, 0, 0, 0, 0, 0⟩ : Evt) := (Option.some.inj hx_139).symm
  refine pu1 <| gY ?_
  refine sLp hS_124 (hp_140.up 0 rfl) 0 (.int .i64 x_136.kind) (Try.isAgg3 _) ?_
  refine pu3 <| nilO <| thenK_n <| ?_
  have hc_142 : (x_136.kind : Int) = 8 := (by subst hxl_x_136; rfl)
  refine cF _ (bne_eq_false_iff_eq.2 hc_142) ?_
  refine skipE <| blockK_n <| thenK_n <| regionE <| pu2 <| nilO <| thenK_n <| ?_
  refine roundS ?_
  refine seqE <| regionE <| pu1 <| nilO <| thenK_n <| seqE <| cFf <| exitE <| thenK_x <| thenK_x <| blockK_x <| thenK_n <| seqE <| regionE <| pu1 ?_
  have hS_143 := (hS_124.pick 1 rfl)
  refine cX Try.call30 (pf_jobs hR_134 hJ_135.i  (hJ_135.r12 (by omega)) (Sat.flat1 hS_143)) ?_
  rintro _ w_144 ⟨az_147, nz_148, kz_149, Z_150, rfl, hO_151, hS_145⟩
  have hS_146 := Sat.unflat2 hS_145; have hn_az_147 := hO_151.len; have hl_az_147 := hO_151.le
  have he_152 : runK (saS 5).jobs = ([] : List Int) := sa_run
  rw [he_152] at hO_151 hn_az_147
  obtain rfl : 0 = nz_148 := hn_az_147
  refine pu4 <| gY ?_
  have hS_153 := (hS_146.pick 1 rfl)
  refine cX Try.call37 (pf_state hR_134 hJ_135.i 0 0 (Sat.flat1 hS_153)) ?_
  rintro _ w_154 ⟨rfl, hS_155⟩
  have hS_156 := Sat.unflat1 hS_155
  rw [show (stateF (saS 5) 0 0) = 4 from sa_st]
  refine pu3 <| nilO <| thenK_n <| retE <| retT [.bool true] <| ?_
  have hS_157 : Sat W _ (Z_41 :: [(b_31, .cells #[.int .i64 4, .int .i64 6, .int .i64 7, .int .i64 7, .int .i64 8] 3 (0, 0))] :: [(b_10, .cells #[.int .i64 0, .int .i64 0, .int .i64 0, .int .i64 0, .int .i64 0, .int .i64 0, .slice none 0 0, .int .i64 2, .int .i64 16] 31 (0, 0))] :: cs) := ((((((hS_156.dropAt 0 rfl).dropAt 0 rfl).dropAt 0 rfl).dropAt 0 rfl).dropAt 0 rfl).dropAt 0 rfl)
  have hS_158 := (((hS_157.dropAt 0 rfl).dropAt 0 rfl).dropAt 0 rfl)
  exact ⟨rfl, hS_158⟩
end Go.Proofs.Ytegmennaekipaaa
