import Derived.Test.YtegmennaekipaaaLwf
namespace Go.Proofs.Ytegmennaekipaaa
open Go Go.E
set_option linter.unusedVariables false
set_option linter.unusedSimpArgs false
set_option linter.unnecessarySimpa false
set_option maxRecDepth 100000
set_option maxHeartbeats 2000000
variable {W w : World} {H : Chunk} {F : List Chunk}
def tk1 : TaskV := ⟨0, 0, 0, 0, 0, 0, [], 1, 0⟩
def singleV (n : Nat) : List TaskV := List.replicate n tk1 ++ [⟨0, 0, 0, 0, 0, 0, allK n, 1, 0⟩]
def fanV (n : Nat) : List TaskV := tk1 :: List.replicate n ⟨0, 0, 0, 0, 0, 0, [0], 1, 0⟩
def taskOKV (i : Int) (t : TaskV) : Bool := decide ((1 ≤ t.rows ∧ t.rows ≤ 128) ∧ 0 ≤ t.scratch) && ascFrom i (-1) t.deps
def tasksOKV : Int → List TaskV → Bool
  | _, [] => true
  | i, t :: l => taskOKV i t && tasksOKV (i + 1) l
def validV (l : List TaskV) : Int := if l.length = 0 ∨ 4096 < l.length then 5 else if tasksOKV 0 l then 0 else 1
theorem valid_v (l : List Task) : validC l = validV (l.map Task.v) := by
  have h : ∀ (l : List Task) (i : Int), tasksOK i l = tasksOKV i (l.map Task.v) := by
    intro l
    induction l with
    | nil => intro i; rfl
    | cons t l ih => intro i; rw [List.map_cons]; unfold tasksOK tasksOKV; rw [ih]; rfl
  unfold validC validV; rw [h, List.length_map]
theorem scr_v {l : List Task} {n : Int} (h : ∀ z ∈ l.map Task.v, z.scratch ≤ n) : ∀ z ∈ l, z.scratch ≤ n := fun z hz => h z.v (List.mem_map.2 ⟨z, hz, rfl⟩)
theorem len_v {l : List Task} {m : List TaskV} (h : l.map Task.v = m) : l.length = m.length := by rw [← h, List.length_map]
/-! FarmPriorities: x, y the bands, m the tasks of a band -/
def prS (x y : Int) (m : Nat) : Nat → FS
  | 0 => addV (addV (newF (cfgF 4)) 0 (singleV m) x) 1 (singleV m) y
  | k + 1 => (stepF (prS x y m k) (k : Int) 0).1
def prOK (x y : Int) (m w : Nat) : Bool :=
  let f : Int := if y < x then 1 else 0
  decide ((stepF (prS x y m w) (w : Int) 0).2 = ([⟨4, (w : Int), 0, 0, if m ≤ w then 1 - f else f, if m ≤ w then (w : Int) - m else w, 0⟩], 0))
theorem pr_all : ∀ (a b : Fin 4) (m : Fin 3) (w : Fin 4), w.val < 2 * (m.val + 1) → prOK (a.val : Int) (b.val : Int) (m.val + 1) w.val = true := by decide +kernel
theorem pr_ev {x y : Int} {m w : Nat} (hx : 0 ≤ x ∧ x < 4) (hy : 0 ≤ y ∧ y < 4) (hm : 1 ≤ m ∧ m ≤ 3) (hw : w < 2 * m ∧ w < 4) {f : Int} (hf : f = if y < x then 1 else 0) :
    (stepF (prS x y m w) (w : Int) 0).2 = ([⟨4, (w : Int), 0, 0, if m ≤ w then 1 - f else f, if m ≤ w then (w : Int) - m else w, 0⟩], 0) := by
  have h := pr_all ⟨x.toNat, by omega⟩ ⟨y.toNat, by omega⟩ ⟨m - 1, by omega⟩ ⟨w, by omega⟩ (by show w < 2 * (m - 1 + 1); omega)
  have e1 : ((x.toNat : Nat) : Int) = x := by omega
  have e2 : ((y.toNat : Nat) : Int) = y := by omega
  have e3 : m - 1 + 1 = m := by omega
  dsimp only at h
  rw [e1, e2, e3] at h
  subst hf
  exact of_decide_eq_true h
/-! FarmCrashes: m tasks behind the first, r the choice -/
def crS (m : Nat) (r : Int) : Nat → FS
  | 0 => addV (addV (newF (cfgF 2)) 0 (fanV m) 1) 1 (singleV 1) 1
  | k + 1 => if k < 5 then (stepF (crS m r k) 0 r).1 else if k = 5 then (crashF (crS m r k) 0).1 else if k < 11 then (stepF (crS m r k) 1 r).1 else (restartF (crS m r k) 0).1
theorem two {P : Int → Prop} (h0 : P 0) (h1 : P 1) {r : Int} (h : 0 ≤ r ∧ r < 2) : P r := by
  rcases (by omega : r = 0 ∨ r = 1) with rfl | rfl <;> assumption
theorem cr_down {F : FS} {x : Int} (hx : 0 ≤ x ∧ x < ((F.ws.length : Nat) : Int)) (h : (wAt F x).phase = 4) : crashF F x = (F, [], 20) := by
  unfold crashF; rw [if_neg (fun k => k hx), if_pos h]
theorem st_down {F : FS} {x c : Int} (hx : 0 ≤ x ∧ x < ((F.ws.length : Nat) : Int)) (h : (wAt F x).phase = 4) : stepF F x c = (F, [], 20) := by
  unfold stepF; rw [if_neg (fun k => k hx), if_pos h]
theorem hp_len1 {r : Int} : 0 ≤ r ∧ r < 3 → (hpS r 1).ws.length = 3 := three (P := fun r => (hpS r 1).ws.length = 3) (by decide +kernel) (by decide +kernel) (by decide +kernel)
theorem hp_len2 {r : Int} : 0 ≤ r ∧ r < 3 → (hpS r 2).ws.length = 3 := three (P := fun r => (hpS r 2).ws.length = 3) (by decide +kernel) (by decide +kernel) (by decide +kernel)
theorem hp_len3 {r : Int} : 0 ≤ r ∧ r < 3 → (hpS r 3).ws.length = 3 := three (P := fun r => (hpS r 3).ws.length = 3) (by decide +kernel) (by decide +kernel) (by decide +kernel)
theorem hp_len4 {r : Int} : 0 ≤ r ∧ r < 3 → (hpS r 4).ws.length = 3 := three (P := fun r => (hpS r 4).ws.length = 3) (by decide +kernel) (by decide +kernel) (by decide +kernel)
theorem l27_helps (W w : World) (H : Chunk) (F : List Chunk) (choice : Int) (_hchoice : -9223372036854775808 ≤ choice ∧ choice ≤ 9223372036854775807) (hS : Sat W w (H :: F)) :
    Calls Try.prog 6 #[.int .i64 choice] w fun e w' => e = .returned (.bool true) ∧ Sat W w' (H :: F) := by
  obtain ⟨r, hrr⟩ : ∃ r, r = normC 3 choice := ⟨_, rfl⟩; have hr : 0 ≤ r ∧ r < 3 := by rw [hrr]; exact norm_bd (by decide)
  refine callsA 137 Try.func6 rfl ?_
  refine seqE <| regionE <| pu1 <| nilO <| thenK_n <| seqE <| regionE ?_
  refine cX Try.call20 (l27_config 3 hS) ?_
  rintro _ w_1 ⟨rfl, hS_2⟩
  have hv_8 : validCfg (⟨3, 4, 4, 1024, 2, 100, 100, 8⟩ : Cfg) = 0 := by decide
  refine cX Try.call19 (pf_new (⟨3, 4, 4, 1024, 2, 100, 100, 8⟩ : Cfg) hv_8 hS_2) ?_
  rintro _ w_3 ⟨p_5, M_6, rfl, hR_7, hS_4⟩
  have hJ_9 := FJ.new hv_8
  refine pu5 <| nilO <| thenK_n <| seqE <| seqE <| regionE <| pu9 <| gY ?_
  refine sBS hS_4 #[.int .i64 0, .int .i64 0, .int .i64 0, .int .i64 0, .int .i64 0, .int .i64 0, .slice none 0 0, .int .i64 1, .int .i64 32] Try.runUnderlying23 Try.sizeOf31 Try.zeroValue31 ?_
  intro b_10 w_11 hS_12
  refine gY ?_
  have hS_13 := (hS_12.pick 1 rfl)
  have p_20 : 0 ≤ (0 : Int) ∧ (0 : Int) < 64 := by decide
  have p_23 : 0 ≤ (0 : Int) ∧ (0 : Int) < 4 := by decide
  have p_24 : validC ([(⟨0, 0, 0, 0, 0, 0, ⟨none, 0, 0, []⟩, 1, 32⟩ : Task)]) = 0 := by decide
  have p_25 : ∀ z ∈ [(⟨0, 0, 0, 0, 0, 0, ⟨none, 0, 0, []⟩, 1, 32⟩ : Task)], z.scratch ≤ (newF (⟨3, 4, 4, 1024, 2, 100, 100, 8⟩ : Cfg)).cfg.arena := by intro z hz; rcases List.mem_singleton.1 hz with rfl; decide
  have p_26 : 0 ≤ (newF (⟨3, 4, 4, 1024, 2, 100, 100, 8⟩ : Cfg)).cfg.tasks ∧ (newF (⟨3, 4, 4, 1024, 2, 100, 100, 8⟩ : Cfg)).cfg.tasks ≤ 4096 := by decide
  have p_27 : ((([(⟨0, 0, 0, 0, 0, 0, ⟨none, 0, 0, []⟩, 1, 32⟩ : Task)]).length : Nat) : Int) ≤ (newF (⟨3, 4, 4, 1024, 2, 100, 100, 8⟩ : Cfg)).cfg.tasks - loadL (newF (⟨3, 4, 4, 1024, 2, 100, 100, 8⟩ : Cfg)).jobs := by decide
  have p_28 : ([(⟨0, 0, 0, 0, 0, 0, ⟨none, 0, 0, []⟩, 1, 32⟩ : Task)]).length ≤ 12 := by decide
  have p_21 : (newF (⟨3, 4, 4, 1024, 2, 100, 100, 8⟩ : Cfg)).jobs[((0 : Int)).toNat]? = some JS.zero := rfl
  have p_22 : JS.added JS.zero = false := rfl
  refine cX Try.call21 (pf_add hR_7 hJ_9.i 0 (some ⟨b_10, 0, none⟩) 1 1 ([(⟨0, 0, 0, 0, 0, 0, ⟨none, 0, 0, []⟩, 1, 32⟩ : Task)]) 0 (RdT.flat (RdT.blk (enc := encTask) (sz := 9) (xs := [(⟨0, 0, 0, 0, 0, 0, ⟨none, 0, 0, []⟩, 1, 32⟩ : Task)]) (fun _ => (by rfl)) 1 0 rfl rfl rfl (by omega))) (fun z hz => by rcases List.mem_singleton.1 hz with rfl; exact ⟨RdT.nil (enc := encI) (sz := 1) (fun _ => rfl) _⟩) p_20 p_21 p_22 p_23 p_24 p_25 p_26 p_27  (Sat.flat1 hS_13)) ?_
  rintro _ w_14 ⟨M_17, rfl, hR_18, hS_15⟩
  have hS_16 := Sat.unflat1 hS_15
  have hJ_19 := hJ_9.add p_20 p_21 p_22 p_23 p_24 p_25 p_27 p_28
  have hR_29 : FarmP p_5 (hpS r 0) M_17 := by skip; exact hR_18
  have hJ_30 : FJ (hpS r 0) 0 1 := by skip; exact hJ_19
  refine pu2 <| nilO <| thenK_n <| cFf <| skipE <| thenK_n <| seqE <| seqE <| regionE <| pu1 ?_
  refine cX Try.call23 (pf_step hR_29 hJ_30.i 1 0 hJ_30.t (by omega) (Sat.flat1 hS_16)) ?_
  rintro _ w_31 ⟨az_34, nz_35, kz_36, Z_37, M_38, rfl, hO_39, hR_40, hS_32⟩
  have hS_33 := Sat.unflat2 hS_32; have hn_az_34 := hO_39.len; have hl_az_34 := hO_39.le
  have hJ_41 := FJ.step (x := 1) (c := 0) hJ_30 (by omega)
  have he_42 : (stepF (hpS r 0) 1 0).2 = ([(⟨4, 1, 0, 0, 0, 0, 0⟩ : Evt)], 0) := (hp_e0 r)
  have he_42_c := congrArg Prod.snd he_42; have he_42_l := congrArg Prod.fst he_42; dsimp only at he_42_c he_42_l; rw [he_42_c]; rw [he_42_l] at hO_39 hn_az_34
  obtain rfl : 1 = nz_35 := hn_az_34
  have hR_43 : FarmP p_5 (hpS r 1) M_38 := by skip; exact hR_40
  have hJ_44 : FJ (hpS r 1) 1 1 := by skip; exact hJ_41
  refine pu5 <| nilO <| thenK_n <| seqE <| regionE <| pu2 <| nilO <| thenK_n <| cFf <| skipE <| thenK_n <| seqE <| seqE <| regionE ?_
  refine sBS hS_33 #[.int .i64 6, .int .i64 7, .int .i64 8] Try.runUnderlying22 Try.sizeOf3 Try.zeroValue3 ?_
  intro b_45 w_46 hS_47
  refine pu2 <| nilO <| thenK_n <| blockE ?_
  refine loopN 4 ?_
  refine roundS ?_
  refine seqE <| regionE <| pu1 <| nilO <| thenK_n <| seqE <| cTt <| skipE <| thenK_n <| seqE <| blockE <| seqE <| regionE ?_
  refine stepY (.pointer (some ⟨b_45, 0, none⟩)) rfl rfl (Y_idx (a := (some ⟨b_45, 0, none⟩)) (i := 0) (len := 3) (cap := 3) rfl Try.runUnderlying22 Try.sizeOf3 (by kernel_rfl) (by kernel_rfl) ⟨_, rfl, add_off _ 0 _, by decide, by decide⟩) ?_
  refine sL hS_47 0 0 (.int .i64 6) (Try.isAgg3 _) ?_
  refine pu1 <| nilO <| thenK_n <| seqE <| regionE <| pu2 ?_
  have hS_48 := (hS_47.pick 2 rfl)
  refine cX Try.call23 (pf_step hR_43 hJ_44.i 2 choice hJ_44.t (by omega) (Sat.flat1 hS_48)) ?_
  rintro _ w_49 ⟨az_52, nz_53, kz_54, Z_55, M_56, rfl, hO_57, hR_58, hS_50⟩
  have hS_51 := Sat.unflat2 hS_50; have hn_az_52 := hO_57.len; have hl_az_52 := hO_57.le
  have hJ_59 := FJ.step (x := 2) (c := choice) hJ_44 (by omega)
  have hst_1 : stepF (hpS r 1) 2 choice = stepF (hpS r 1) 2 r := by rw [step_norm (by rw [hp_len1 hr]; decide), hp_len1 hr, hrr]
  have he_60 : (stepF (hpS r 1) 2 choice).2 = ([(⟨12, 2, 1, 0, 0, 0, 0⟩ : Evt), (⟨6, 1, 0, 0, 0, 0, 0⟩ : Evt)], 0) := by rw [hst_1]; exact hp_e1 hr
  have he_60_c := congrArg Prod.snd he_60; have he_60_l := congrArg Prod.fst he_60; dsimp only at he_60_c he_60_l; rw [he_60_c]; rw [he_60_l] at hO_57 hn_az_52
  obtain rfl : 2 = nz_53 := hn_az_52
  have hR_61 : FarmP p_5 (hpS r 2) M_56 := by rw [show hpS r 2 = (stepF (hpS r 1) 2 r).1 from rfl, ← hst_1]; exact hR_58
  have hJ_62 : FJ (hpS r 2) 2 1 := by rw [show hpS r 2 = (stepF (hpS r 1) 2 r).1 from rfl, ← hst_1]; exact hJ_59
  refine pu5 <| nilO <| thenK_n <| seqE <| regionE <| pu9 <| gY ?_
  refine sIdxO hO_57 0 0 Try.runUnderlying44 Try.sizeOf50 ?_
  intro x_63 b_64 o_65 hx_66 hp_67 hq_68
  have hxl_x_63 : x_63 = (⟨12, 2, 1, 0, 0, 0, 0⟩ : Evt) := (Option.some.inj hx_66).symm
  refine gY ?_
  refine sLpA hS_51 (hp_67.up 0 rfl) 0 (encEvt x_63) (Try.isAgg50 _) (Try.sizeOf50 _) ?_
  refine pu1 <| gY ?_
  refine stepY (.bool (!(((x_63.kind : Int) == 12) && ((x_63.worker : Int) == 2) && ((x_63.from_ : Int) == 1) && ((x_63.job : Int) == 0) && ((x_63.refJob : Int) == 0) && ((x_63.refTask : Int) == 0) && ((x_63.err : Int) == 0)))) rfl rfl (Y_eqS rfl (by kernel_rfl) (by kernel_rfl) (eqvn50 _ x_63.kind x_63.worker x_63.from_ x_63.job x_63.refJob x_63.refTask x_63.err 12 2 1 0 0 0 0)) ?_
  refine pu2 ?_
  have hc_69 : (x_63.kind : Int) = 12 ∧ (x_63.worker : Int) = 2 ∧ (x_63.from_ : Int) = 1 ∧ (x_63.job : Int) = 0 ∧ (x_63.refJob : Int) = 0 ∧ (x_63.refTask : Int) = 0 ∧ (x_63.err : Int) = 0 := (by subst hxl_x_63; exact ⟨rfl, rfl, rfl, rfl, rfl, rfl, rfl⟩)
  refine sFix 65 _ false (congrArg Bool.not (show (((x_63.kind : Int) == 12) && ((x_63.worker : Int) == 2) && ((x_63.from_ : Int) == 1) && ((x_63.job : Int) == 0) && ((x_63.refJob : Int) == 0) && ((x_63.refTask : Int) == 0) && ((x_63.err : Int) == 0)) = true from by simpa [and_assoc] using hc_69)) ?_
  refine pu1 <| gY ?_
  refine sIdxO hO_57 1 1 Try.runUnderlying44 Try.sizeOf50 ?_
  intro x_70 b_71 o_72 hx_73 hp_74 hq_75
  have hxl_x_70 : x_70 = (⟨6, 1, 0, 0, 0, 0, 0⟩ : Evt) := (Option.some.inj hx_73).symm
  refine pu1 <| gY ?_
  refine sLp hS_51 (hp_74.up 0 rfl) 0 (.int .i64 x_70.kind) (Try.isAgg3 _) ?_
  refine pu4 ?_
  have hc_76 : (x_70.kind : Int) = 6 := (by subst hxl_x_70; rfl)
  refine sFix 73 _ false (bne_eq_false_iff_eq.2 hc_76) ?_
  refine pu1 <| gY ?_
  refine sIdxO hO_57 1 1 Try.runUnderlying44 Try.sizeOf50 ?_
  intro x_77 b_78 o_79 hx_80 hp_81 hq_82
  obtain rfl : x_70 = x_77 := Option.some.inj (hx_73.symm.trans hx_80)
  have hxl_x_70 : x_70 = (⟨6, 1, 0, 0, 0, 0, 0⟩ : Evt) := (Option.some.inj hx_80).symm
  refine pu1 <| gY ?_
  refine sLp hS_51 (hp_81.up 0 rfl) 1 (.int .i64 x_70.worker) (Try.isAgg3 _) ?_
  refine pu2 <| nilO <| thenK_n <| ?_
  have hc_83 : (x_70.worker : Int) = 1 := (by subst hxl_x_70; rfl)
  refine cF _ (bne_eq_false_iff_eq.2 hc_83) ?_
  refine skipE <| blockK_n <| thenK_n <| regionE <| pu2 <| nilO <| thenK_n <| ?_
  refine roundS ?_
  refine seqE <| regionE <| pu1 <| nilO <| thenK_n <| seqE <| cTt <| skipE <| thenK_n <| seqE <| blockE <| seqE <| regionE ?_
  refine stepY (.pointer (some ⟨b_45, 1, none⟩)) rfl rfl (Y_idx (a := (some ⟨b_45, 0, none⟩)) (i := 1) (len := 3) (cap := 3) rfl Try.runUnderlying22 Try.sizeOf3 (by kernel_rfl) (by kernel_rfl) ⟨_, rfl, add_off _ 0 _, by decide, by decide⟩) ?_
  refine sL hS_51 2 1 (.int .i64 7) (Try.isAgg3 _) ?_
  refine pu1 <| nilO <| thenK_n <| seqE <| regionE <| pu2 ?_
  have hS_84 := (hS_51.pick 1 rfl)
  refine cX Try.call23 (pf_step hR_61 hJ_62.i 2 choice hJ_62.t (by omega) (Sat.flat1 hS_84)) ?_
  rintro _ w_85 ⟨az_88, nz_89, kz_90, Z_91, M_92, rfl, hO_93, hR_94, hS_86⟩
  have hS_87 := Sat.unflat2 hS_86; have hn_az_88 := hO_93.len; have hl_az_88 := hO_93.le
  have hJ_95 := FJ.step (x := 2) (c := choice) hJ_62 (by omega)
  have hst_2 : stepF (hpS r 2) 2 choice = stepF (hpS r 2) 2 r := by rw [step_norm (by rw [hp_len2 hr]; decide), hp_len2 hr, hrr]
  have he_96 : (stepF (hpS r 2) 2 choice).2 = ([(⟨12, 2, 1, 0, 0, 0, 0⟩ : Evt), (⟨7, 1, 0, 0, 0, 0, 0⟩ : Evt)], 0) := by rw [hst_2]; exact hp_e2 hr
  have he_96_c := congrArg Prod.snd he_96; have he_96_l := congrArg Prod.fst he_96; dsimp only at he_96_c he_96_l; rw [he_96_c]; rw [he_96_l] at hO_93 hn_az_88
  obtain rfl : 2 = nz_89 := hn_az_88
  have hR_97 : FarmP p_5 (hpS r 3) M_92 := by rw [show hpS r 3 = (stepF (hpS r 2) 2 r).1 from rfl, ← hst_2]; exact hR_94
  have hJ_98 : FJ (hpS r 3) 3 1 := by rw [show hpS r 3 = (stepF (hpS r 2) 2 r).1 from rfl, ← hst_2]; exact hJ_95
  refine pu5 <| nilO <| thenK_n <| seqE <| regionE <| pu9 <| gY ?_
  refine sIdxO hO_93 0 0 Try.runUnderlying44 Try.sizeOf50 ?_
  intro x_99 b_100 o_101 hx_102 hp_103 hq_104
  have hxl_x_99 : x_99 = (⟨12, 2, 1, 0, 0, 0, 0⟩ : Evt) := (Option.some.inj hx_102).symm
  refine gY ?_
  refine sLpA hS_87 (hp_103.up 0 rfl) 0 (encEvt x_99) (Try.isAgg50 _) (Try.sizeOf50 _) ?_
  refine pu1 <| gY ?_
  refine stepY (.bool (!(((x_99.kind : Int) == 12) && ((x_99.worker : Int) == 2) && ((x_99.from_ : Int) == 1) && ((x_99.job : Int) == 0) && ((x_99.refJob : Int) == 0) && ((x_99.refTask : Int) == 0) && ((x_99.err : Int) == 0)))) rfl rfl (Y_eqS rfl (by kernel_rfl) (by kernel_rfl) (eqvn50 _ x_99.kind x_99.worker x_99.from_ x_99.job x_99.refJob x_99.refTask x_99.err 12 2 1 0 0 0 0)) ?_
  refine pu2 ?_
  have hc_105 : (x_99.kind : Int) = 12 ∧ (x_99.worker : Int) = 2 ∧ (x_99.from_ : Int) = 1 ∧ (x_99.job : Int) = 0 ∧ (x_99.refJob : Int) = 0 ∧ (x_99.refTask : Int) = 0 ∧ (x_99.err : Int) = 0 := (by subst hxl_x_99; exact ⟨rfl, rfl, rfl, rfl, rfl, rfl, rfl⟩)
  refine sFix 65 _ false (congrArg Bool.not (show (((x_99.kind : Int) == 12) && ((x_99.worker : Int) == 2) && ((x_99.from_ : Int) == 1) && ((x_99.job : Int) == 0) && ((x_99.refJob : Int) == 0) && ((x_99.refTask : Int) == 0) && ((x_99.err : Int) == 0)) = true from by simpa [and_assoc] using hc_105)) ?_
  refine pu1 <| gY ?_
  refine sIdxO hO_93 1 1 Try.runUnderlying44 Try.sizeOf50 ?_
  intro x_106 b_107 o_108 hx_109 hp_110 hq_111
  have hxl_x_106 : x_106 = (⟨7, 1, 0, 0, 0, 0, 0⟩ : Evt) := (Option.some.inj hx_109).symm
  refine pu1 <| gY ?_
  refine sLp hS_87 (hp_110.up 0 rfl) 0 (.int .i64 x_106.kind) (Try.isAgg3 _) ?_
  refine pu4 ?_
  have hc_112 : (x_106.kind : Int) = 7 := (by subst hxl_x_106; rfl)
  refine sFix 73 _ false (bne_eq_false_iff_eq.2 hc_112) ?_
  refine pu1 <| gY ?_
  refine sIdxO hO_93 1 1 Try.runUnderlying44 Try.sizeOf50 ?_
  intro x_113 b_114 o_115 hx_116 hp_117 hq_118
  obtain rfl : x_106 = x_113 := Option.some.inj (hx_109.symm.trans hx_116)
  have hxl_x_106 : x_106 = (⟨7, 1, 0, 0, 0, 0, 0⟩ : Evt) := (Option.some.inj hx_116).symm
  refine pu1 <| gY ?_
  refine sLp hS_87 (hp_117.up 0 rfl) 1 (.int .i64 x_106.worker) (Try.isAgg3 _) ?_
  refine pu2 <| nilO <| thenK_n <| ?_
  have hc_119 : (x_106.worker : Int) = 1 := (by subst hxl_x_106; rfl)
  refine cF _ (bne_eq_false_iff_eq.2 hc_119) ?_
  refine skipE <| blockK_n <| thenK_n <| regionE <| pu2 <| nilO <| thenK_n <| ?_
  refine roundS ?_
  refine seqE <| regionE <| pu1 <| nilO <| thenK_n <| seqE <| cTt <| skipE <| thenK_n <| seqE <| blockE <| seqE <| regionE ?_
  refine stepY (.pointer (some ⟨b_45, 2, none⟩)) rfl rfl (Y_idx (a := (some ⟨b_45, 0, none⟩)) (i := 2) (len := 3) (cap := 3) rfl Try.runUnderlying22 Try.sizeOf3 (by kernel_rfl) (by kernel_rfl) ⟨_, rfl, add_off _ 0 _, by decide, by decide⟩) ?_
  refine sL hS_87 3 2 (.int .i64 8) (Try.isAgg3 _) ?_
  refine pu1 <| nilO <| thenK_n <| seqE <| regionE <| pu2 ?_
  have hS_120 := (hS_87.pick 1 rfl)
  refine cX Try.call23 (pf_step hR_97 hJ_98.i 2 choice hJ_98.t (by omega) (Sat.flat1 hS_120)) ?_
  rintro _ w_121 ⟨az_124, nz_125, kz_126, Z_127, M_128, rfl, hO_129, hR_130, hS_122⟩
  have hS_123 := Sat.unflat2 hS_122; have hn_az_124 := hO_129.len; have hl_az_124 := hO_129.le
  have hJ_131 := FJ.step (x := 2) (c := choice) hJ_98 (by omega)
  have hst_3 : stepF (hpS r 3) 2 choice = stepF (hpS r 3) 2 r := by rw [step_norm (by rw [hp_len3 hr]; decide), hp_len3 hr, hrr]
  have he_132 : (stepF (hpS r 3) 2 choice).2 = ([(⟨12, 2, 1, 0, 0, 0, 0⟩ : Evt), (⟨8, 1, 0, 0, 0, 0, 0⟩ : Evt)], 0) := by rw [hst_3]; exact hp_e3 hr
  have he_132_c := congrArg Prod.snd he_132; have he_132_l := congrArg Prod.fst he_132; dsimp only at he_132_c he_132_l; rw [he_132_c]; rw [he_132_l] at hO_129 hn_az_124
  obtain rfl : 2 = nz_125 := hn_az_124
  have hR_133 : FarmP p_5 (hpS r 4) M_128 := by rw [show hpS r 4 = (stepF (hpS r 3) 2 r).1 from rfl, ← hst_3]; exact hR_130
  have hJ_134 : FJ (hpS r 4) 4 1 := by rw [show hpS r 4 = (stepF (hpS r 3) 2 r).1 from rfl, ← hst_3]; exact hJ_131
  refine pu5 <| nilO <| thenK_n <| seqE <| regionE <| pu9 <| gY ?_
  refine sIdxO hO_129 0 0 Try.runUnderlying44 Try.sizeOf50 ?_
  intro x_135 b_136 o_137 hx_138 hp_139 hq_140
  have hxl_x_135 : x_135 = (⟨12, 2, 1, 0, 0, 0, 0⟩ : Evt) := (Option.some.inj hx_138).symm
  refine gY ?_
  refine sLpA hS_123 (hp_139.up 0 rfl) 0 (encEvt x_135) (Try.isAgg50 _) (Try.sizeOf50 _) ?_
  refine pu1 <| gY ?_
  refine stepY (.bool (!(((x_135.kind : Int) == 12) && ((x_135.worker : Int) == 2) && ((x_135.from_ : Int) == 1) && ((x_135.job : Int) == 0) && ((x_135.refJob : Int) == 0) && ((x_135.refTask : Int) == 0) && ((x_135.err : Int) == 0)))) rfl rfl (Y_eqS rfl (by kernel_rfl) (by kernel_rfl) (eqvn50 _ x_135.kind x_135.worker x_135.from_ x_135.job x_135.refJob x_135.refTask x_135.err 12 2 1 0 0 0 0)) ?_
  refine pu2 ?_
  have hc_141 : (x_135.kind : Int) = 12 ∧ (x_135.worker : Int) = 2 ∧ (x_135.from_ : Int) = 1 ∧ (x_135.job : Int) = 0 ∧ (x_135.refJob : Int) = 0 ∧ (x_135.refTask : Int) = 0 ∧ (x_135.err : Int) = 0 := (by subst hxl_x_135; exact ⟨rfl, rfl, rfl, rfl, rfl, rfl, rfl⟩)
  refine sFix 65 _ false (congrArg Bool.not (show (((x_135.kind : Int) == 12) && ((x_135.worker : Int) == 2) && ((x_135.from_ : Int) == 1) && ((x_135.job : Int) == 0) && ((x_135.refJob : Int) == 0) && ((x_135.refTask : Int) == 0) && ((x_135.err : Int) == 0)) = true from by simpa [and_assoc] using hc_141)) ?_
  refine pu1 <| gY ?_
  refine sIdxO hO_129 1 1 Try.runUnderlying44 Try.sizeOf50 ?_
  intro x_142 b_143 o_144 hx_145 hp_146 hq_147
  have hxl_x_142 : x_142 = (⟨8, 1, 0, 0, 0, 0, 0⟩ : Evt) := (Option.some.inj hx_145).symm
  refine pu1 <| gY ?_
  refine sLp hS_123 (hp_146.up 0 rfl) 0 (.int .i64 x_142.kind) (Try.isAgg3 _) ?_
  refine pu4 ?_
  have hc_148 : (x_142.kind : Int) = 8 := (by subst hxl_x_142; rfl)
  refine sFix 73 _ false (bne_eq_false_iff_eq.2 hc_148) ?_
  refine pu1 <| gY ?_
  refine sIdxO hO_129 1 1 Try.runUnderlying44 Try.sizeOf50 ?_
  intro x_149 b_150 o_151 hx_152 hp_153 hq_154
  obtain rfl : x_142 = x_149 := Option.some.inj (hx_145.symm.trans hx_152)
  have hxl_x_142 : x_142 = (⟨8, 1, 0, 0, 0, 0, 0⟩ : Evt) := (Option.some.inj hx_152).symm
  refine pu1 <| gY ?_
  refine sLp hS_123 (hp_153.up 0 rfl) 1 (.int .i64 x_142.worker) (Try.isAgg3 _) ?_
  refine pu2 <| nilO <| thenK_n <| ?_
  have hc_155 : (x_142.worker : Int) = 1 := (by subst hxl_x_142; rfl)
  refine cF _ (bne_eq_false_iff_eq.2 hc_155) ?_
  refine skipE <| blockK_n <| thenK_n <| regionE <| pu2 <| nilO <| thenK_n <| ?_
  refine roundS ?_
  refine seqE <| regionE <| pu1 <| nilO <| thenK_n <| seqE <| cFf <| exitE <| thenK_x <| thenK_x <| blockK_x <| thenK_n <| seqE <| regionE <| pu2 ?_
  have hS_156 := (hS_123.pick 1 rfl)
  refine cX Try.call23 (pf_step hR_133 hJ_134.i 2 choice hJ_134.t (by omega) (Sat.flat1 hS_156)) ?_
  rintro _ w_157 ⟨az_160, nz_161, kz_162, Z_163, M_164, rfl, hO_165, hR_166, hS_158⟩
  have hS_159 := Sat.unflat2 hS_158; have hn_az_160 := hO_165.len; have hl_az_160 := hO_165.le
  have hJ_167 := FJ.step (x := 2) (c := choice) hJ_134 (by omega)
  have hst_4 : stepF (hpS r 4) 2 choice = stepF (hpS r 4) 2 r := by rw [step_norm (by rw [hp_len4 hr]; decide), hp_len4 hr, hrr]
  have he_168 : (stepF (hpS r 4) 2 choice).2 = ([(⟨13, 2, 0, 0, 0, 0, 0⟩ : Evt)], 0) := by rw [hst_4]; exact hp_e4 hr
  have he_168_c := congrArg Prod.snd he_168; have he_168_l := congrArg Prod.fst he_168; dsimp only at he_168_c he_168_l; rw [he_168_c]; rw [he_168_l] at hO_165 hn_az_160
  obtain rfl : 1 = nz_161 := hn_az_160
  have hR_169 : FarmP p_5 (hpS r 5) M_164 := by rw [show hpS r 5 = (stepF (hpS r 4) 2 r).1 from rfl, ← hst_4]; exact hR_166
  have hJ_170 : FJ (hpS r 5) 5 1 := by rw [show hpS r 5 = (stepF (hpS r 4) 2 r).1 from rfl, ← hst_4]; exact hJ_167
  refine pu5 <| nilO <| thenK_n <| seqE <| regionE <| pu1 ?_
  have hS_171 := (hS_159.pick 1 rfl)
  refine cX Try.call29 (pf_workers hR_169 hJ_170.i   (Sat.flat1 hS_171)) ?_
  rintro _ w_172 ⟨az_175, nz_176, kz_177, Z_178, rfl, hO_179, hS_173⟩
  have hS_174 := Sat.unflat2 hS_173; have hn_az_175 := hO_179.len; have hl_az_175 := hO_179.le
  have he_180 : (hpS r 5).ws = [(⟨0, 0, 0, 0, 0, 0, 0⟩ : Wkr), (⟨0, 0, 0, 0, 0, 0, 32⟩ : Wkr), (⟨0, 0, 0, 0, 0, 0, 0⟩ : Wkr)] := (hp_ws hr)
  rw [he_180] at hO_179 hn_az_175
  obtain rfl : 3 = nz_176 := hn_az_175
  refine pu1 <| nilO <| thenK_n <| seqE <| regionE <| pu9 <| gY ?_
  refine sIdxO hO_165 0 0 Try.runUnderlying44 Try.sizeOf50 ?_
  intro x_181 b_182 o_183 hx_184 hp_185 hq_186
  have hxl_x_181 : x_181 = (⟨13, 2, 0, 0, 0, 0, 0⟩ : Evt) := (Option.some.inj hx_184).symm
  refine pu1 <| gY ?_
  refine sLp hS_174 (hp_185.up 2 rfl) 0 (.int .i64 x_181.kind) (Try.isAgg3 _) ?_
  refine pu3 ?_
  have hc_187 : (x_181.kind : Int) = 13 := (by subst hxl_x_181; rfl)
  refine sFix 103 _ true (beq_iff_eq.2 hc_187) ?_
  refine pu1 <| gY ?_
  have hS_188 := (hS_174.pick 1 rfl)
  refine cX Try.call30 (pf_jobs hR_169 hJ_170.i  (hJ_170.r12 (by omega)) (Sat.flat1 hS_188)) ?_
  rintro _ w_189 ⟨az_192, nz_193, kz_194, Z_195, rfl, hO_196, hS_190⟩
  have hS_191 := Sat.unflat2 hS_190; have hn_az_192 := hO_196.len; have hl_az_192 := hO_196.le
  have he_197 : runK (hpS r 5).jobs = ([] : List Int) := (hp_run hr)
  rw [he_197] at hO_196 hn_az_192
  obtain rfl : 0 = nz_193 := hn_az_192
  refine pu10 <| gY ?_
  refine sIdxO hO_179 1 1 Try.runUnderlying57 Try.sizeOf61 ?_
  intro x_198 b_199 o_200 hx_201 hp_202 hq_203
  have hxl_x_198 : x_198 = (⟨0, 0, 0, 0, 0, 0, 32⟩ : Wkr) := (Option.some.inj hx_201).symm
  refine pu1 <| gY ?_
  refine sLp hS_191 (hp_202.up 2 rfl) 6 (.int .i64 x_198.high) (Try.isAgg3 _) ?_
  refine pu3 ?_
  have hc_204 : (x_198.high : Int) = 32 := (by subst hxl_x_198; rfl)
  refine sFix 121 _ true (beq_iff_eq.2 hc_204) ?_
  refine pu1 <| gY ?_
  refine sIdxO hO_179 1 1 Try.runUnderlying57 Try.sizeOf61 ?_
  intro x_205 b_206 o_207 hx_208 hp_209 hq_210
  obtain rfl : x_198 = x_205 := Option.some.inj (hx_201.symm.trans hx_208)
  have hxl_x_198 : x_198 = (⟨0, 0, 0, 0, 0, 0, 32⟩ : Wkr) := (Option.some.inj hx_208).symm
  refine pu1 <| gY ?_
  refine sLp hS_191 (hp_209.up 2 rfl) 5 (.int .i64 x_198.used) (Try.isAgg3 _) ?_
  refine pu3 ?_
  have hc_211 : (x_198.used : Int) = 0 := (by subst hxl_x_198; rfl)
  refine sFix 128 _ true (beq_iff_eq.2 hc_211) ?_
  refine pu1 <| gY ?_
  have hS_212 := (hS_191.pick 1 rfl)
  refine cX Try.call28 (pf_stats hR_169 hJ_170.i hJ_170.h (Sat.flat1 hS_212)) ?_
  rintro _ w_213 ⟨rfl, hS_214⟩
  have hS_215 := Sat.unflat1 hS_214
  obtain ⟨s_216, hs_217⟩ : ∃ z, z = statsF (hpS r 5) := ⟨_, rfl⟩; rw [← hs_217]
  have h9s_216 : (s_216.helps : Int) = 3 := by rw [hs_217]; exact hp_helps hr
  refine pu4 ?_
  refine sFix 134 _ true (beq_iff_eq.2 h9s_216) ?_
  refine gY ?_
  refine cX Try.call24 (l27_sane hS_215) ?_
  rintro _ w_218 ⟨rfl, hS_219⟩
  refine pu2 <| nilO <| thenK_n <| retE <| retT [.bool true] <| ?_
  have hS_220 := (hS_219.pick 10 rfl)
  have hS_221 := hS_220.dropAt 1 rfl
  have hS_222 := hS_221.dropAt 1 rfl
  have hS_223 := hS_222.dropAt 1 rfl
  have hS_224 := hS_223.dropAt 1 rfl
  have hS_225 := hS_224.dropAt 1 rfl
  have hS_226 := hS_225.dropAt 1 rfl
  have hS_227 := hS_226.dropAt 1 rfl
  have hS_228 := hS_227.dropAt 1 rfl
  have hS_229 := hS_228.dropAt 1 rfl
  have hS_230 := hS_229.dropAt 1 rfl
  exact ⟨rfl, hS_230⟩
theorem l27_single1 {cs : List Chunk} (hS : Sat W w cs) :
    Calls Try.prog 22 #[.int .i64 1] w fun e w' => ∃ (az : Option Addr) (nz kz : Nat) (zs : List Task) (C G : Chunk), e = .returned (.slice az nz kz) ∧ OwnT encTask 31 9 az nz kz zs C ∧ (∀ z ∈ zs, Task.Ok [G] z) ∧ zs.map Task.v = singleV 1 ∧ Sat W w' (C :: G :: cs) := by
  refine callsA 26 Try.func22 rfl ?_
  refine seqE <| regionE <| pu1 <| nilO <| thenK_n <| seqE <| regionE <| pu1 <| nilO <| thenK_n <| seqE <| regionE <| pu1 ?_
  refine sAlloc hS Try.zeroValue31 ?_
  intro b_1 w_2 hS_3
  refine sT hS_3 0 0 (.agg #[.int .i64 0, .int .i64 0, .int .i64 0, .int .i64 0, .int .i64 0, .int .i64 0, .slice none 0 0, .int .i64 1, .int .i64 0]) [.int .i64 0, .int .i64 0, .int .i64 0, .int .i64 0, .int .i64 0, .int .i64 0, .slice none 0 0, .int .i64 1, .int .i64 0] #[.int .i64 0, .int .i64 0, .int .i64 0, .int .i64 0, .int .i64 0, .int .i64 0, .slice none 0 0, .int .i64 1, .int .i64 0] Try.sizeOf31 ?_
  intro w_4 hS_5
  refine nilO <| thenK_n <| seqE <| seqE <| regionE <| pu1 <| nilO <| thenK_n <| blockE ?_
  refine loopN 2 ?_
  refine roundS ?_
  refine seqE <| seqE <| regionE <| pu3 <| nilO <| thenK_n <| cTt <| skipE <| thenK_n <| seqE <| blockE <| seqE <| regionE <| pu2 ?_
  refine sBS hS_5 #[.int .i64 0, .int .i64 0, .int .i64 0, .int .i64 0, .int .i64 0, .int .i64 0, .slice none 0 0, .int .i64 1, .int .i64 0] Try.runUnderlying23 Try.sizeOf31 Try.zeroValue31 ?_
  intro b_6 w_7 hS_8
  have hS_9 := Sat.nilc hS_8
  have hO_10 := OwnT.nil (enc := encTask) (E := 31) (sz := 9) (fun _ => rfl)
  refine sApp (nb := 88) hS_9 hO_10 0 (RdT.blk (enc := encTask) (sz := 9) (xs := [(⟨0, 0, 0, 0, 0, 0, ⟨none, 0, 0, []⟩, 1, 0⟩ : Task)]) (fun _ => rfl) 1 1 rfl rfl rfl (by omega)) Try.underlying23 (i := Try.t31) (by kernel_rfl) (fun _ => rfl) ?_
  intro a_11 cap_12 c_13 w_14 hO_15 hS_16
  refine pu1 <| nilO <| thenK_n <| regionE <| pu1 ?_
  refine sL hS_16 2 6 (.slice none 0 0) (Try.isAgg22 _) ?_
  refine pu1 ?_
  refine sBS hS_16 #[.int .i64 0] Try.runUnderlying22 Try.sizeOf3 Try.zeroValue3 ?_
  intro b_17 w_18 hS_19
  have hS_20 := Sat.nilc hS_19
  have hO_21 := OwnT.nil (enc := encI) (E := 3) (sz := 1) (fun _ => rfl)
  refine sApp (nb := 8) hS_20 hO_21 0 (RdT.blk (enc := encI) (sz := 1) (xs := [0]) (fun _ => rfl) 1 1 rfl rfl rfl (by omega)) Try.underlying22 (i := Try.t3) (by kernel_rfl) (fun _ => rfl) ?_
  intro a_22 cap_23 c_24 w_25 hO_26 hS_27
  refine pu1 ?_
  refine tW hS_27 4 6 (.slice a_22 (0 + 1) cap_23) Try.sizeOf22 ?_
  intro w_28 hS_29
  refine nilO <| blockK_n <| thenK_n <| regionE <| pu3 <| nilO <| thenK_n <| ?_
  refine roundS ?_
  refine seqE <| seqE <| regionE <| pu3 <| nilO <| thenK_n <| cFf <| exitE <| thenK_x <| thenK_x <| blockK_x <| thenK_n <| seqE <| regionE <| pu1 ?_
  refine lA hS_29 4 0 9 (Try.isAgg31 _) (Try.sizeOf31 _) ?_
  refine sBS hS_29 #[.int .i64 0, .int .i64 0, .int .i64 0, .int .i64 0, .int .i64 0, .int .i64 0, .slice a_22 (0 + 1) cap_23, .int .i64 1, .int .i64 0] Try.runUnderlying23 Try.sizeOf31 Try.zeroValue31 ?_
  intro b_30 w_31 hS_32
  refine sApp (nb := 88) hS_32 hO_15 3 (RdT.blk (enc := encTask) (sz := 9) (xs := [(⟨0, 0, 0, 0, 0, 0, ⟨a_22, (0 + 1), cap_23, ([] ++ [0])⟩, 1, 0⟩ : Task)]) (fun _ => rfl) 1 0 rfl rfl rfl (by omega)) Try.underlying23 (i := Try.t31) (by kernel_rfl) (fun _ => rfl) ?_
  intro a_33 cap_34 c_35 w_36 hO_37 hS_38
  refine pu1 <| nilO <| thenK_n <| retE <| retT [.slice a_33 ((0 + 1) + 1) cap_34] <| ?_
  have hS_39 := (((((hS_38.pick 3 rfl).dropAt 1 rfl).dropAt 2 rfl).dropAt 2 rfl).dropAt 2 rfl)
  exact ⟨_, _, _, _, _, _, rfl, hO_37, (by
      intro z hz
      simp only [List.mem_append, List.mem_singleton, List.not_mem_nil, false_or] at hz
      rcases hz with rfl | rfl
      iterate 1 exact ⟨RdT.nil (enc := encI) (sz := 1) (fun _ => rfl) _⟩
      exact ⟨hO_26.rdAt (cs := [c_24]) 0 rfl⟩), rfl, hS_39⟩
theorem l27_single2 {cs : List Chunk} (hS : Sat W w cs) :
    Calls Try.prog 22 #[.int .i64 2] w fun e w' => ∃ (az : Option Addr) (nz kz : Nat) (zs : List Task) (C G : Chunk), e = .returned (.slice az nz kz) ∧ OwnT encTask 31 9 az nz kz zs C ∧ (∀ z ∈ zs, Task.Ok [G] z) ∧ zs.map Task.v = singleV 2 ∧ Sat W w' (C :: G :: cs) := by
  refine callsA 26 Try.func22 rfl ?_
  refine seqE <| regionE <| pu1 <| nilO <| thenK_n <| seqE <| regionE <| pu1 <| nilO <| thenK_n <| seqE <| regionE <| pu1 ?_
  refine sAlloc hS Try.zeroValue31 ?_
  intro b_1 w_2 hS_3
  refine sT hS_3 0 0 (.agg #[.int .i64 0, .int .i64 0, .int .i64 0, .int .i64 0, .int .i64 0, .int .i64 0, .slice none 0 0, .int .i64 1, .int .i64 0]) [.int .i64 0, .int .i64 0, .int .i64 0, .int .i64 0, .int .i64 0, .int .i64 0, .slice none 0 0, .int .i64 1, .int .i64 0] #[.int .i64 0, .int .i64 0, .int .i64 0, .int .i64 0, .int .i64 0, .int .i64 0, .slice none 0 0, .int .i64 1, .int .i64 0] Try.sizeOf31 ?_
  intro w_4 hS_5
  refine nilO <| thenK_n <| seqE <| seqE <| regionE <| pu1 <| nilO <| thenK_n <| blockE ?_
  refine loopN 3 ?_
  refine roundS ?_
  refine seqE <| seqE <| regionE <| pu3 <| nilO <| thenK_n <| cTt <| skipE <| thenK_n <| seqE <| blockE <| seqE <| regionE <| pu2 ?_
  refine sBS hS_5 #[.int .i64 0, .int .i64 0, .int .i64 0, .int .i64 0, .int .i64 0, .int .i64 0, .slice none 0 0, .int .i64 1, .int .i64 0] Try.runUnderlying23 Try.sizeOf31 Try.zeroValue31 ?_
  intro b_6 w_7 hS_8
  have hS_9 := Sat.nilc hS_8
  have hO_10 := OwnT.nil (enc := encTask) (E := 31) (sz := 9) (fun _ => rfl)
  refine sApp (nb := 88) hS_9 hO_10 0 (RdT.blk (enc := encTask) (sz := 9) (xs := [(⟨0, 0, 0, 0, 0, 0, ⟨none, 0, 0, []⟩, 1, 0⟩ : Task)]) (fun _ => rfl) 1 1 rfl rfl rfl (by omega)) Try.underlying23 (i := Try.t31) (by kernel_rfl) (fun _ => rfl) ?_
  intro a_11 cap_12 c_13 w_14 hO_15 hS_16
  refine pu1 <| nilO <| thenK_n <| regionE <| pu1 ?_
  refine sL hS_16 2 6 (.slice none 0 0) (Try.isAgg22 _) ?_
  refine pu1 ?_
  refine sBS hS_16 #[.int .i64 0] Try.runUnderlying22 Try.sizeOf3 Try.zeroValue3 ?_
  intro b_17 w_18 hS_19
  have hS_20 := Sat.nilc hS_19
  have hO_21 := OwnT.nil (enc := encI) (E := 3) (sz := 1) (fun _ => rfl)
  refine sApp (nb := 8) hS_20 hO_21 0 (RdT.blk (enc := encI) (sz := 1) (xs := [0]) (fun _ => rfl) 1 1 rfl rfl rfl (by omega)) Try.underlying22 (i := Try.t3) (by kernel_rfl) (fun _ => rfl) ?_
  intro a_22 cap_23 c_24 w_25 hO_26 hS_27
  refine pu1 ?_
  refine tW hS_27 4 6 (.slice a_22 (0 + 1) cap_23) Try.sizeOf22 ?_
  intro w_28 hS_29
  refine nilO <| blockK_n <| thenK_n <| regionE <| pu3 <| nilO <| thenK_n <| ?_
  refine roundS ?_
  refine seqE <| seqE <| regionE <| pu3 <| nilO <| thenK_n <| cTt <| skipE <| thenK_n <| seqE <| blockE <| seqE <| regionE <| pu2 ?_
  refine sBS hS_29 #[.int .i64 0, .int .i64 0, .int .i64 0, .int .i64 0, .int .i64 0, .int .i64 0, .slice none 0 0, .int .i64 1, .int .i64 0] Try.runUnderlying23 Try.sizeOf31 Try.zeroValue31 ?_
  intro b_30 w_31 hS_32
  refine sApp (nb := 88) hS_32 hO_15 3 (RdT.blk (enc := encTask) (sz := 9) (xs := [(⟨0, 0, 0, 0, 0, 0, ⟨none, 0, 0, []⟩, 1, 0⟩ : Task)]) (fun _ => rfl) 1 0 rfl rfl rfl (by omega)) Try.underlying23 (i := Try.t31) (by kernel_rfl) (fun _ => rfl) ?_
  intro a_33 cap_34 c_35 w_36 hO_37 hS_38
  refine pu1 <| nilO <| thenK_n <| regionE <| pu1 ?_
  refine sL hS_38 5 6 (.slice a_22 (0 + 1) cap_23) (Try.isAgg22 _) ?_
  refine pu1 ?_
  refine sBS hS_38 #[.int .i64 1] Try.runUnderlying22 Try.sizeOf3 Try.zeroValue3 ?_
  intro b_39 w_40 hS_41
  refine sApp (nb := 8) hS_41 hO_26 2 (RdT.blk (enc := encI) (sz := 1) (xs := [1]) (fun _ => rfl) 1 0 rfl rfl rfl (by omega)) Try.underlying22 (i := Try.t3) (by kernel_rfl) (fun _ => rfl) ?_
  intro a_42 cap_43 c_44 w_45 hO_46 hS_47
  refine pu1 ?_
  refine tW hS_47 6 6 (.slice a_42 ((0 + 1) + 1) cap_43) Try.sizeOf22 ?_
  intro w_48 hS_49
  refine nilO <| blockK_n <| thenK_n <| regionE <| pu3 <| nilO <| thenK_n <| ?_
  refine roundS ?_
  refine seqE <| seqE <| regionE <| pu3 <| nilO <| thenK_n <| cFf <| exitE <| thenK_x <| thenK_x <| blockK_x <| thenK_n <| seqE <| regionE <| pu1 ?_
  refine lA hS_49 6 0 9 (Try.isAgg31 _) (Try.sizeOf31 _) ?_
  refine sBS hS_49 #[.int .i64 0, .int .i64 0, .int .i64 0, .int .i64 0, .int .i64 0, .int .i64 0, .slice a_42 ((0 + 1) + 1) cap_43, .int .i64 1, .int .i64 0] Try.runUnderlying23 Try.sizeOf31 Try.zeroValue31 ?_
  intro b_50 w_51 hS_52
  refine sApp (nb := 88) hS_52 hO_37 5 (RdT.blk (enc := encTask) (sz := 9) (xs := [(⟨0, 0, 0, 0, 0, 0, ⟨a_42, ((0 + 1) + 1), cap_43, (([] ++ [0]) ++ [1])⟩, 1, 0⟩ : Task)]) (fun _ => rfl) 1 0 rfl rfl rfl (by omega)) Try.underlying23 (i := Try.t31) (by kernel_rfl) (fun _ => rfl) ?_
  intro a_53 cap_54 c_55 w_56 hO_57 hS_58
  refine pu1 <| nilO <| thenK_n <| retE <| retT [.slice a_53 (((0 + 1) + 1) + 1) cap_54] <| ?_
  have hS_59 : Sat W _ (c_55 :: c_44 :: [(b_1, .cells #[.int .i64 0, .int .i64 0, .int .i64 0, .int .i64 0, .int .i64 0, .int .i64 0, .slice a_42 ((0 + 1) + 1) cap_43, .int .i64 1, .int .i64 0] 31 (0, 0))] :: cs) := ((((((hS_58.pick 5 rfl).dropAt 1 rfl).dropAt 1 rfl).dropAt 1 rfl).dropAt 2 rfl).dropAt 2 rfl)
  have hS_60 := (hS_59.dropAt 2 rfl)
  exact ⟨_, _, _, _, _, _, rfl, hO_57, (by
      intro z hz
      simp only [List.mem_append, List.mem_singleton, List.not_mem_nil, false_or] at hz
      rcases hz with (rfl | rfl) | rfl
      iterate 2 exact ⟨RdT.nil (enc := encI) (sz := 1) (fun _ => rfl) _⟩
      exact ⟨hO_46.rdAt (cs := [c_44]) 0 rfl⟩), rfl, hS_60⟩
theorem l27_single3 {cs : List Chunk} (hS : Sat W w cs) :
    Calls Try.prog 22 #[.int .i64 3] w fun e w' => ∃ (az : Option Addr) (nz kz : Nat) (zs : List Task) (C G : Chunk), e = .returned (.slice az nz kz) ∧ OwnT encTask 31 9 az nz kz zs C ∧ (∀ z ∈ zs, Task.Ok [G] z) ∧ zs.map Task.v = singleV 3 ∧ Sat W w' (C :: G :: cs) := by
  refine callsA 26 Try.func22 rfl ?_
  refine seqE <| regionE <| pu1 <| nilO <| thenK_n <| seqE <| regionE <| pu1 <| nilO <| thenK_n <| seqE <| regionE <| pu1 ?_
  refine sAlloc hS Try.zeroValue31 ?_
  intro b_1 w_2 hS_3
  refine sT hS_3 0 0 (.agg #[.int .i64 0, .int .i64 0, .int .i64 0, .int .i64 0, .int .i64 0, .int .i64 0, .slice none 0 0, .int .i64 1, .int .i64 0]) [.int .i64 0, .int .i64 0, .int .i64 0, .int .i64 0, .int .i64 0, .int .i64 0, .slice none 0 0, .int .i64 1, .int .i64 0] #[.int .i64 0, .int .i64 0, .int .i64 0, .int .i64 0, .int .i64 0, .int .i64 0, .slice none 0 0, .int .i64 1, .int .i64 0] Try.sizeOf31 ?_
  intro w_4 hS_5
  refine nilO <| thenK_n <| seqE <| seqE <| regionE <| pu1 <| nilO <| thenK_n <| blockE ?_
  refine loopN 4 ?_
  refine roundS ?_
  refine seqE <| seqE <| regionE <| pu3 <| nilO <| thenK_n <| cTt <| skipE <| thenK_n <| seqE <| blockE <| seqE <| regionE <| pu2 ?_
  refine sBS hS_5 #[.int .i64 0, .int .i64 0, .int .i64 0, .int .i64 0, .int .i64 0, .int .i64 0, .slice none 0 0, .int .i64 1, .int .i64 0] Try.runUnderlying23 Try.sizeOf31 Try.zeroValue31 ?_
  intro b_6 w_7 hS_8
  have hS_9 := Sat.nilc hS_8
  have hO_10 := OwnT.nil (enc := encTask) (E := 31) (sz := 9) (fun _ => rfl)
  refine sApp (nb := 88) hS_9 hO_10 0 (RdT.blk (enc := encTask) (sz := 9) (xs := [(⟨0, 0, 0, 0, 0, 0, ⟨none, 0, 0, []⟩, 1, 0⟩ : Task)]) (fun _ => rfl) 1 1 rfl rfl rfl (by omega)) Try.underlying23 (i := Try.t31) (by kernel_rfl) (fun _ => rfl) ?_
  intro a_11 cap_12 c_13 w_14 hO_15 hS_16
  refine pu1 <| nilO <| thenK_n <| regionE <| pu1 ?_
  refine sL hS_16 2 6 (.slice none 0 0) (Try.isAgg22 _) ?_
  refine pu1 ?_
  refine sBS hS_16 #[.int .i64 0] Try.runUnderlying22 Try.sizeOf3 Try.zeroValue3 ?_
  intro b_17 w_18 hS_19
  have hS_20 := Sat.nilc hS_19
  have hO_21 := OwnT.nil (enc := encI) (E := 3) (sz := 1) (fun _ => rfl)
  refine sApp (nb := 8) hS_20 hO_21 0 (RdT.blk (enc := encI) (sz := 1) (xs := [0]) (fun _ => rfl) 1 1 rfl rfl rfl (by omega)) Try.underlying22 (i := Try.t3) (by kernel_rfl) (fun _ => rfl) ?_
  intro a_22 cap_23 c_24 w_25 hO_26 hS_27
  refine pu1 ?_
  refine tW hS_27 4 6 (.slice a_22 (0 + 1) cap_23) Try.sizeOf22 ?_
  intro w_28 hS_29
  refine nilO <| blockK_n <| thenK_n <| regionE <| pu3 <| nilO <| thenK_n <| ?_
  refine roundS ?_
  refine seqE <| seqE <| regionE <| pu3 <| nilO <| thenK_n <| cTt <| skipE <| thenK_n <| seqE <| blockE <| seqE <| regionE <| pu2 ?_
  refine sBS hS_29 #[.int .i64 0, .int .i64 0, .int .i64 0, .int .i64 0, .int .i64 0, .int .i64 0, .slice none 0 0, .int .i64 1, .int .i64 0] Try.runUnderlying23 Try.sizeOf31 Try.zeroValue31 ?_
  intro b_30 w_31 hS_32
  refine sApp (nb := 88) hS_32 hO_15 3 (RdT.blk (enc := encTask) (sz := 9) (xs := [(⟨0, 0, 0, 0, 0, 0, ⟨none, 0, 0, []⟩, 1, 0⟩ : Task)]) (fun _ => rfl) 1 0 rfl rfl rfl (by omega)) Try.underlying23 (i := Try.t31) (by kernel_rfl) (fun _ => rfl) ?_
  intro a_33 cap_34 c_35 w_36 hO_37 hS_38
  refine pu1 <| nilO <| thenK_n <| regionE <| pu1 ?_
  refine sL hS_38 5 6 (.slice a_22 (0 + 1) cap_23) (Try.isAgg22 _) ?_
  refine pu1 ?_
  refine sBS hS_38 #[.int .i64 1] Try.runUnderlying22 Try.sizeOf3 Try.zeroValue3 ?_
  intro b_39 w_40 hS_41
  refine sApp (nb := 8) hS_41 hO_26 2 (RdT.blk (enc := encI) (sz := 1) (xs := [1]) (fun _ => rfl) 1 0 rfl rfl rfl (by omega)) Try.underlying22 (i := Try.t3) (by kernel_rfl) (fun _ => rfl) ?_
  intro a_42 cap_43 c_44 w_45 hO_46 hS_47
  refine pu1 ?_
  refine tW hS_47 6 6 (.slice a_42 ((0 + 1) + 1) cap_43) Try.sizeOf22 ?_
  intro w_48 hS_49
  refine nilO <| blockK_n <| thenK_n <| regionE <| pu3 <| nilO <| thenK_n <| ?_
  refine roundS ?_
  refine seqE <| seqE <| regionE <| pu3 <| nilO <| thenK_n <| cTt <| skipE <| thenK_n <| seqE <| blockE <| seqE <| regionE <| pu2 ?_
  refine sBS hS_49 #[.int .i64 0, .int .i64 0, .int .i64 0, .int .i64 0, .int .i64 0, .int .i64 0, .slice none 0 0, .int .i64 1, .int .i64 0] Try.runUnderlying23 Try.sizeOf31 Try.zeroValue31 ?_
  intro b_50 w_51 hS_52
  refine sApp (nb := 88) hS_52 hO_37 5 (RdT.blk (enc := encTask) (sz := 9) (xs := [(⟨0, 0, 0, 0, 0, 0, ⟨none, 0, 0, []⟩, 1, 0⟩ : Task)]) (fun _ => rfl) 1 0 rfl rfl rfl (by omega)) Try.underlying23 (i := Try.t31) (by kernel_rfl) (fun _ => rfl) ?_
  intro a_53 cap_54 c_55 w_56 hO_57 hS_58
  refine pu1 <| nilO <| thenK_n <| regionE <| pu1 ?_
  refine sL hS_58 7 6 (.slice a_42 ((0 + 1) + 1) cap_43) (Try.isAgg22 _) ?_
  refine pu1 ?_
  refine sBS hS_58 #[.int .i64 2] Try.runUnderlying22 Try.sizeOf3 Try.zeroValue3 ?_
  intro b_59 w_60 hS_61
  refine sApp (nb := 8) hS_61 hO_46 4 (RdT.blk (enc := encI) (sz := 1) (xs := [2]) (fun _ => rfl) 1 0 rfl rfl rfl (by omega)) Try.underlying22 (i := Try.t3) (by kernel_rfl) (fun _ => rfl) ?_
  intro a_62 cap_63 c_64 w_65 hO_66 hS_67
  refine pu1 ?_
  refine tW hS_67 8 6 (.slice a_62 (((0 + 1) + 1) + 1) cap_63) Try.sizeOf22 ?_
  intro w_68 hS_69
  refine nilO <| blockK_n <| thenK_n <| regionE <| pu3 <| nilO <| thenK_n <| ?_
  refine roundS ?_
  refine seqE <| seqE <| regionE <| pu3 <| nilO <| thenK_n <| cFf <| exitE <| thenK_x <| thenK_x <| blockK_x <| thenK_n <| seqE <| regionE <| pu1 ?_
  refine lA hS_69 8 0 9 (Try.isAgg31 _) (Try.sizeOf31 _) ?_
  refine sBS hS_69 #[.int .i64 0, .int .i64 0, .int .i64 0, .int .i64 0, .int .i64 0, .int .i64 0, .slice a_62 (((0 + 1) + 1) + 1) cap_63, .int .i64 1, .int .i64 0] Try.runUnderlying23 Try.sizeOf31 Try.zeroValue31 ?_
  intro b_70 w_71 hS_72
  refine sApp (nb := 88) hS_72 hO_57 7 (RdT.blk (enc := encTask) (sz := 9) (xs := [(⟨0, 0, 0, 0, 0, 0, ⟨a_62, (((0 + 1) + 1) + 1), cap_63, ((([] ++ [0]) ++ [1]) ++ [2])⟩, 1, 0⟩ : Task)]) (fun _ => rfl) 1 0 rfl rfl rfl (by omega)) Try.underlying23 (i := Try.t31) (by kernel_rfl) (fun _ => rfl) ?_
  intro a_73 cap_74 c_75 w_76 hO_77 hS_78
  refine pu1 <| nilO <| thenK_n <| retE <| retT [.slice a_73 ((((0 + 1) + 1) + 1) + 1) cap_74] <| ?_
  have hS_79 : Sat W _ (c_75 :: c_64 :: [(b_17, .cells #[.int .i64 0] 3 (0, 0))] :: [(b_6, .cells #[.int .i64 0, .int .i64 0, .int .i64 0, .int .i64 0, .int .i64 0, .int .i64 0, .slice none 0 0, .int .i64 1, .int .i64 0] 31 (0, 0))] :: [(b_1, .cells #[.int .i64 0, .int .i64 0, .int .i64 0, .int .i64 0, .int .i64 0, .int .i64 0, .slice a_62 (((0 + 1) + 1) + 1) cap_63, .int .i64 1, .int .i64 0] 31 (0, 0))] :: cs) := ((((((hS_78.pick 7 rfl).dropAt 1 rfl).dropAt 1 rfl).dropAt 1 rfl).dropAt 1 rfl).dropAt 1 rfl)
  have hS_80 := (((hS_79.dropAt 2 rfl).dropAt 2 rfl).dropAt 2 rfl)
  exact ⟨_, _, _, _, _, _, rfl, hO_77, (by
      intro z hz
      simp only [List.mem_append, List.mem_singleton, List.not_mem_nil, false_or] at hz
      rcases hz with ((rfl | rfl) | rfl) | rfl
      iterate 3 exact ⟨RdT.nil (enc := encI) (sz := 1) (fun _ => rfl) _⟩
      exact ⟨hO_66.rdAt (cs := [c_64]) 0 rfl⟩), rfl, hS_80⟩
theorem l27_fan1 {cs : List Chunk} (hS : Sat W w cs) :
    Calls Try.prog 25 #[.int .i64 1] w fun e w' => ∃ (az : Option Addr) (nz kz : Nat) (zs : List Task) (C G : Chunk), e = .returned (.slice az nz kz) ∧ OwnT encTask 31 9 az nz kz zs C ∧ (∀ z ∈ zs, Task.Ok [G] z) ∧ zs.map Task.v = fanV 1 ∧ Sat W w' (C :: G :: cs) := by
  refine callsA 18 Try.func25 rfl ?_
  refine seqE <| regionE <| pu1 <| nilO <| thenK_n <| seqE <| regionE <| pu1 ?_
  refine sBS hS #[.int .i64 0, .int .i64 0, .int .i64 0, .int .i64 0, .int .i64 0, .int .i64 0, .slice none 0 0, .int .i64 1, .int .i64 0] Try.runUnderlying23 Try.sizeOf31 Try.zeroValue31 ?_
  intro b_1 w_2 hS_3
  refine pu1 <| nilO <| thenK_n <| seqE <| seqE <| regionE <| pu1 <| nilO <| thenK_n <| blockE ?_
  refine loopN 2 ?_
  refine roundS ?_
  refine seqE <| seqE <| regionE <| pu3 <| nilO <| thenK_n <| cTt <| skipE <| thenK_n <| seqE <| blockE <| regionE <| pu1 ?_
  refine sBS hS_3 #[.int .i64 0] Try.runUnderlying22 Try.sizeOf3 Try.zeroValue3 ?_
  intro b_4 w_5 hS_6
  refine pu1 ?_
  refine sBS hS_6 #[.int .i64 0, .int .i64 0, .int .i64 0, .int .i64 0, .int .i64 0, .int .i64 0, .slice (some ⟨b_4, 0, none⟩) 1 1, .int .i64 1, .int .i64 0] Try.runUnderlying23 Try.sizeOf31 Try.zeroValue31 ?_
  intro b_7 w_8 hS_9
  have hO_10 := OwnT.blk (enc := encTask) (sz := 9) (b := b_1) (c := #[.int .i64 0, .int .i64 0, .int .i64 0, .int .i64 0, .int .i64 0, .int .i64 0, .slice none 0 0, .int .i64 1, .int .i64 0]) (E := 31) (xs := [(⟨0, 0, 0, 0, 0, 0, ⟨none, 0, 0, []⟩, 1, 0⟩ : Task)]) (fun _ => rfl) 1 rfl rfl rfl (by omega)
  refine sApp (nb := 88) hS_9 hO_10 2 (RdT.blk (enc := encTask) (sz := 9) (xs := [(⟨0, 0, 0, 0, 0, 0, ⟨(some ⟨b_4, 0, none⟩), 1, 1, [0]⟩, 1, 0⟩ : Task)]) (fun _ => rfl) 1 0 rfl rfl rfl (by omega)) Try.underlying23 (i := Try.t31) (by kernel_rfl) (fun _ => rfl) ?_
  intro a_11 cap_12 c_13 w_14 hO_15 hS_16
  refine pu1 <| nilO <| blockK_n <| thenK_n <| regionE <| pu3 <| nilO <| thenK_n <| ?_
  refine roundS ?_
  refine seqE <| seqE <| regionE <| pu3 <| nilO <| thenK_n <| cFf <| exitE <| thenK_x <| thenK_x <| blockK_x <| thenK_n <| seqE <| regionE <| pu2 <| nilO <| thenK_n <| retE <| retT [.slice a_11 (1 + 1) cap_12] <| ?_
  have hS_17 := ((hS_16.pick 2 rfl).dropAt 1 rfl)
  have hS_18 : Sat W _ (c_13 :: [(b_4, Obj.cells #[.int .i64 0] 3 (0, 0))] :: cs) := Sat.perm hS_17 (by simp)
  exact ⟨_, _, _, _, _, [(b_4, Obj.cells #[.int .i64 0] 3 (0, 0))], rfl, hO_15, (by
      intro z hz
      simp only [List.mem_append, List.mem_singleton, List.not_mem_nil, false_or] at hz
      rcases hz with rfl | rfl
      · exact ⟨RdT.nil (enc := encI) (sz := 1) (fun _ => rfl) _⟩
      · exact ⟨RdT.of_mem (cs := [[(b_4, Obj.cells #[.int .i64 0] 3 (0, 0))]]) (RdT.blk (enc := encI) (sz := 1) (xs := [0]) (fun _ => rfl) 1 0 rfl rfl rfl (by omega)) (fun p hp => by simp at hp ⊢; simp [hp])⟩), rfl, hS_18⟩
theorem l27_fan2 {cs : List Chunk} (hS : Sat W w cs) :
    Calls Try.prog 25 #[.int .i64 2] w fun e w' => ∃ (az : Option Addr) (nz kz : Nat) (zs : List Task) (C G : Chunk), e = .returned (.slice az nz kz) ∧ OwnT encTask 31 9 az nz kz zs C ∧ (∀ z ∈ zs, Task.Ok [G] z) ∧ zs.map Task.v = fanV 2 ∧ Sat W w' (C :: G :: cs) := by
  refine callsA 18 Try.func25 rfl ?_
  refine seqE <| regionE <| pu1 <| nilO <| thenK_n <| seqE <| regionE <| pu1 ?_
  refine sBS hS #[.int .i64 0, .int .i64 0, .int .i64 0, .int .i64 0, .int .i64 0, .int .i64 0, .slice none 0 0, .int .i64 1, .int .i64 0] Try.runUnderlying23 Try.sizeOf31 Try.zeroValue31 ?_
  intro b_1 w_2 hS_3
  refine pu1 <| nilO <| thenK_n <| seqE <| seqE <| regionE <| pu1 <| nilO <| thenK_n <| blockE ?_
  refine loopN 3 ?_
  refine roundS ?_
  refine seqE <| seqE <| regionE <| pu3 <| nilO <| thenK_n <| cTt <| skipE <| thenK_n <| seqE <| blockE <| regionE <| pu1 ?_
  refine sBS hS_3 #[.int .i64 0] Try.runUnderlying22 Try.sizeOf3 Try.zeroValue3 ?_
  intro b_4 w_5 hS_6
  refine pu1 ?_
  refine sBS hS_6 #[.int .i64 0, .int .i64 0, .int .i64 0, .int .i64 0, .int .i64 0, .int .i64 0, .slice (some ⟨b_4, 0, none⟩) 1 1, .int .i64 1, .int .i64 0] Try.runUnderlying23 Try.sizeOf31 Try.zeroValue31 ?_
  intro b_7 w_8 hS_9
  have hO_10 := OwnT.blk (enc := encTask) (sz := 9) (b := b_1) (c := #[.int .i64 0, .int .i64 0, .int .i64 0, .int .i64 0, .int .i64 0, .int .i64 0, .slice none 0 0, .int .i64 1, .int .i64 0]) (E := 31) (xs := [(⟨0, 0, 0, 0, 0, 0, ⟨none, 0, 0, []⟩, 1, 0⟩ : Task)]) (fun _ => rfl) 1 rfl rfl rfl (by omega)
  refine sApp (nb := 88) hS_9 hO_10 2 (RdT.blk (enc := encTask) (sz := 9) (xs := [(⟨0, 0, 0, 0, 0, 0, ⟨(some ⟨b_4, 0, none⟩), 1, 1, [0]⟩, 1, 0⟩ : Task)]) (fun _ => rfl) 1 0 rfl rfl rfl (by omega)) Try.underlying23 (i := Try.t31) (by kernel_rfl) (fun _ => rfl) ?_
  intro a_11 cap_12 c_13 w_14 hO_15 hS_16
  refine pu1 <| nilO <| blockK_n <| thenK_n <| regionE <| pu3 <| nilO <| thenK_n <| ?_
  refine roundS ?_
  refine seqE <| seqE <| regionE <| pu3 <| nilO <| thenK_n <| cTt <| skipE <| thenK_n <| seqE <| blockE <| regionE <| pu1 ?_
  refine sBS hS_16 #[.int .i64 0] Try.runUnderlying22 Try.sizeOf3 Try.zeroValue3 ?_
  intro b_17 w_18 hS_19
  refine pu1 ?_
  refine sBS hS_19 #[.int .i64 0, .int .i64 0, .int .i64 0, .int .i64 0, .int .i64 0, .int .i64 0, .slice (some ⟨b_17, 0, none⟩) 1 1, .int .i64 1, .int .i64 0] Try.runUnderlying23 Try.sizeOf31 Try.zeroValue31 ?_
  intro b_20 w_21 hS_22
  refine sApp (nb := 88) hS_22 hO_15 4 (RdT.blk (enc := encTask) (sz := 9) (xs := [(⟨0, 0, 0, 0, 0, 0, ⟨(some ⟨b_17, 0, none⟩), 1, 1, [0]⟩, 1, 0⟩ : Task)]) (fun _ => rfl) 1 0 rfl rfl rfl (by omega)) Try.underlying23 (i := Try.t31) (by kernel_rfl) (fun _ => rfl) ?_
  intro a_23 cap_24 c_25 w_26 hO_27 hS_28
  refine pu1 <| nilO <| blockK_n <| thenK_n <| regionE <| pu3 <| nilO <| thenK_n <| ?_
  refine roundS ?_
  refine seqE <| seqE <| regionE <| pu3 <| nilO <| thenK_n <| cFf <| exitE <| thenK_x <| thenK_x <| blockK_x <| thenK_n <| seqE <| regionE <| pu2 <| nilO <| thenK_n <| retE <| retT [.slice a_23 ((1 + 1) + 1) cap_24] <| ?_
  have hS_29 := (((hS_28.pick 4 rfl).dropAt 1 rfl).dropAt 2 rfl)
  have hS_30 : Sat W _ (c_25 :: ([(b_17, Obj.cells #[.int .i64 0] 3 (0, 0))] ++ [(b_4, Obj.cells #[.int .i64 0] 3 (0, 0))]) :: cs) := Sat.perm hS_29 (by simp)
  exact ⟨_, _, _, _, _, ([(b_17, Obj.cells #[.int .i64 0] 3 (0, 0))] ++ [(b_4, Obj.cells #[.int .i64 0] 3 (0, 0))]), rfl, hO_27, (by
      intro z hz
      simp only [List.mem_append, List.mem_singleton, List.not_mem_nil, false_or] at hz
      rcases hz with (rfl | rfl) | rfl
      · exact ⟨RdT.nil (enc := encI) (sz := 1) (fun _ => rfl) _⟩
      · exact ⟨RdT.of_mem (cs := [[(b_4, Obj.cells #[.int .i64 0] 3 (0, 0))]]) (RdT.blk (enc := encI) (sz := 1) (xs := [0]) (fun _ => rfl) 1 0 rfl rfl rfl (by omega)) (fun p hp => by simp at hp ⊢; simp [hp])⟩
      · exact ⟨RdT.of_mem (cs := [[(b_17, Obj.cells #[.int .i64 0] 3 (0, 0))]]) (RdT.blk (enc := encI) (sz := 1) (xs := [0]) (fun _ => rfl) 1 0 rfl rfl rfl (by omega)) (fun p hp => by simp at hp ⊢; simp [hp])⟩), rfl, hS_30⟩
theorem l27_priorities (W w : World) (H : Chunk) (F : List Chunk) (a : Int) (b : Int) (n : Int) (_ha : -9223372036854775808 ≤ a ∧ a ≤ 9223372036854775807) (_hb : -9223372036854775808 ≤ b ∧ b ≤ 9223372036854775807) (_hn : -9223372036854775808 ≤ n ∧ n ≤ 9223372036854775807) (hS : Sat W w (H :: F)) :
    Calls Try.prog 4 #[.int .i64 a, .int .i64 b, .int .i64 n] w fun e w' => e = .returned (.bool true) ∧ Sat W w' (H :: F) := by
  refine callsA 99 Try.func4 rfl ?_
  refine seqE <| regionE <| pu1 <| nilO <| thenK_n <| seqE <| regionE <| pu1 ?_
  refine cX Try.call18 (mod_ok a 4 (by omega) (by omega) hS) ?_
  rintro _ w_1 ⟨r_3, rfl, hr_4, hS_2⟩
  refine pu1 ?_
  refine cX Try.call18 (mod_ok b 4 (by omega) (by omega) hS_2) ?_
  rintro _ w_5 ⟨r_7, rfl, hr_8, hS_6⟩
  refine pu1 ?_
  refine cX Try.call18 (mod_ok n 3 (by omega) (by omega) hS_6) ?_
  rintro _ w_9 ⟨r_11, rfl, hr_12, hS_10⟩
  rcases (by omega : r_11 = 0 ∨ r_11 = 1 ∨ r_11 = 2) with rfl | rfl | rfl
  · refine pu4 <| nilO <| thenK_n <| seqE <| regionE ?_
    refine cX Try.call20 (l27_config 4 hS_10) ?_
    rintro _ w_13 ⟨rfl, hS_14⟩
    have hv_20 : validCfg (⟨4, 4, 4, 1024, 2, 100, 100, 8⟩ : Cfg) = 0 := by decide
    refine cX Try.call19 (pf_new (⟨4, 4, 4, 1024, 2, 100, 100, 8⟩ : Cfg) hv_20 hS_14) ?_
    rintro _ w_15 ⟨p_17, M_18, rfl, hR_19, hS_16⟩
    have hJ_21 := FJ.new hv_20
    refine pu5 <| nilO <| thenK_n <| seqE <| seqE <| regionE <| pu9 <| gY ?_
    refine cX Try.call22 (l27_single1 hS_16) ?_
    rintro _ w_22 ⟨az_24, nz_25, kz_26, zs_27, C_28, G_29, rfl, hO_30, hD_31, hV_32, hS_23⟩
    have hn_az_24 := hO_30.len; have hl_az_24 := hO_30.le
    refine pu1 <| gY ?_
    have hS_33 := (hS_23.pick 2 rfl)
    have p_40 : 0 ≤ (0 : Int) ∧ (0 : Int) < 64 := by decide
    have p_43 : 0 ≤ r_3 ∧ r_3 < 4 := by omega
    have p_44 : validC zs_27 = 0 := by rw [valid_v, hV_32]; decide
    have p_45 : ∀ z ∈ zs_27, z.scratch ≤ (newF (⟨4, 4, 4, 1024, 2, 100, 100, 8⟩ : Cfg)).cfg.arena := scr_v (n := 1024) (by rw [hV_32]; decide)
    have p_46 : 0 ≤ (newF (⟨4, 4, 4, 1024, 2, 100, 100, 8⟩ : Cfg)).cfg.tasks ∧ (newF (⟨4, 4, 4, 1024, 2, 100, 100, 8⟩ : Cfg)).cfg.tasks ≤ 4096 := by show (0 : Int) ≤ 100 ∧ (100 : Int) ≤ 4096; decide
    have p_47 : ((zs_27.length : Nat) : Int) ≤ (newF (⟨4, 4, 4, 1024, 2, 100, 100, 8⟩ : Cfg)).cfg.tasks - loadL (newF (⟨4, 4, 4, 1024, 2, 100, 100, 8⟩ : Cfg)).jobs := by rw [len_v hV_32]; decide
    have p_48 : zs_27.length ≤ 12 := by rw [len_v hV_32]; decide
    have p_41 : (newF (⟨4, 4, 4, 1024, 2, 100, 100, 8⟩ : Cfg)).jobs[((0 : Int)).toNat]? = some JS.zero := rfl
    have p_42 : JS.added JS.zero = false := rfl
    refine cX Try.call21 (pf_add hR_19 hJ_21.i 0 az_24 nz_25 kz_26 zs_27 r_3 (RdT.flat (hO_30.rdAt 0 (by rfl))) (fun z hz => (hD_31 z hz).of_mem (mem_flat1 1 (by rfl))) p_40 p_41 p_42 p_43 p_44 p_45 p_46 p_47  (Sat.flat1 hS_33)) ?_
    rintro _ w_34 ⟨M_37, rfl, hR_38, hS_35⟩
    have hS_36 := Sat.unflat1 hS_35
    have hJ_39 := hJ_21.add p_40 p_41 p_42 p_43 p_44 p_45 p_47 p_48
    have hR_49 : FarmP p_17 (addV (newF (cfgF 4)) 0 (singleV 1) r_3) M_37 := by rw [show addV (newF (cfgF 4)) 0 (singleV 1) r_3 = addF (newF (⟨4, 4, 4, 1024, 2, 100, 100, 8⟩ : Cfg)) 0 zs_27 r_3 from by rw [addF_v, hV_32]; rfl]; exact hR_38
    have hJ_50 : FJ (addV (newF (cfgF 4)) 0 (singleV 1) r_3) 0 1 := by rw [show addV (newF (cfgF 4)) 0 (singleV 1) r_3 = addF (newF (⟨4, 4, 4, 1024, 2, 100, 100, 8⟩ : Cfg)) 0 zs_27 r_3 from by rw [addF_v, hV_32]; rfl]; exact hJ_39
    refine pu5 <| gY ?_
    refine cX Try.call22 (l27_single1 hS_36) ?_
    rintro _ w_51 ⟨az_53, nz_54, kz_55, zs_56, C_57, G_58, rfl, hO_59, hD_60, hV_61, hS_52⟩
    have hn_az_53 := hO_59.len; have hl_az_53 := hO_59.le
    refine pu1 <| gY ?_
    have hS_62 := (hS_52.pick 2 rfl)
    have p_69 : 0 ≤ (1 : Int) ∧ (1 : Int) < 64 := by decide
    have p_72 : 0 ≤ r_7 ∧ r_7 < 4 := by omega
    have p_73 : validC zs_56 = 0 := by rw [valid_v, hV_61]; decide
    have p_74 : ∀ z ∈ zs_56, z.scratch ≤ (addV (newF (cfgF 4)) 0 (singleV 1) r_3).cfg.arena := scr_v (n := 1024) (by rw [hV_61]; decide)
    have p_75 : 0 ≤ (addV (newF (cfgF 4)) 0 (singleV 1) r_3).cfg.tasks ∧ (addV (newF (cfgF 4)) 0 (singleV 1) r_3).cfg.tasks ≤ 4096 := by show (0 : Int) ≤ 100 ∧ (100 : Int) ≤ 4096; decide
    have p_76 : ((zs_56.length : Nat) : Int) ≤ (addV (newF (cfgF 4)) 0 (singleV 1) r_3).cfg.tasks - loadL (addV (newF (cfgF 4)) 0 (singleV 1) r_3).jobs := by rw [len_v hV_61, show loadL (addV (newF (cfgF 4)) 0 (singleV 1) r_3).jobs = 0 + (((singleV 1).length : Nat) : Int) from (load_new (j := JS.zero) rfl rfl).trans (by rw [load_new0]; rfl)]; show _ ≤ (100 : Int) - _; decide
    have p_77 : zs_56.length ≤ 12 := by rw [len_v hV_61]; decide
    have p_70 : (addV (newF (cfgF 4)) 0 (singleV 1) r_3).jobs[((1 : Int)).toNat]? = some JS.zero := rfl
    have p_71 : JS.added JS.zero = false := rfl
    refine cX Try.call21 (pf_add hR_49 hJ_50.i 1 az_53 nz_54 kz_55 zs_56 r_7 (RdT.flat (hO_59.rdAt 0 (by rfl))) (fun z hz => (hD_60 z hz).of_mem (mem_flat1 1 (by rfl))) p_69 p_70 p_71 p_72 p_73 p_74 p_75 p_76  (Sat.flat1 hS_62)) ?_
    rintro _ w_63 ⟨M_66, rfl, hR_67, hS_64⟩
    have hS_65 := Sat.unflat1 hS_64
    have hJ_68 := hJ_50.add p_69 p_70 p_71 p_72 p_73 p_74 p_76 p_77
    have hR_78 : FarmP p_17 (prS r_3 r_7 1 0) M_66 := by rw [show prS r_3 r_7 1 0 = addF (addV (newF (cfgF 4)) 0 (singleV 1) r_3) 1 zs_56 r_7 from by rw [addF_v, hV_61]; rfl]; exact hR_67
    have hJ_79 : FJ (prS r_3 r_7 1 0) 0 2 := by rw [show prS r_3 r_7 1 0 = addF (addV (newF (cfgF 4)) 0 (singleV 1) r_3) 1 zs_56 r_7 from by rw [addF_v, hV_61]; rfl]; exact hJ_68
    refine pu2 <| nilO <| thenK_n <| cFf <| skipE <| thenK_n <| seqE <| regionE <| pu1 <| nilO <| thenK_n <| seqE <| seqE <| regionE <| pu3 <| nilO <| thenK_n <| ?_
    refine cD (r_7 < r_3) (fun hc_80 => ?_) (fun hc_80 => ?_)
    · refine regionE <| pu1 <| nilO <| thenK_n <| seqE <| seqE <| regionE <| pu1 <| nilO <| thenK_n <| blockE ?_
      refine loopN 5 ?_
      refine roundS ?_
      refine seqE <| seqE <| regionE <| pu8 <| nilO <| thenK_n <| cTt <| skipE <| thenK_n <| seqE <| blockE <| seqE <| regionE <| pu2 ?_
      refine cX Try.call23 (pf_step hR_78 hJ_79.i 0 0 hJ_79.t (by omega) (Sat.flat1 hS_65)) ?_
      rintro _ w_81 ⟨az_84, nz_85, kz_86, Z_87, M_88, rfl, hO_89, hR_90, hS_82⟩
      have hS_83 := Sat.unflat2 hS_82; have hn_az_84 := hO_89.len; have hl_az_84 := hO_89.le
      have hJ_91 := FJ.step (x := 0) (c := 0) hJ_79 (by omega)
      have he_92 : (stepF (prS r_3 r_7 1 0) 0 0).2 = ([(⟨4, 0, 0, 0, 1, 0, 0⟩ : Evt)], 0) := (pr_ev (x := r_3) (y := r_7) (m := 1) (w := 0) (by omega) (by omega) (by decide) (by decide) (f := 1) (by rw [if_pos hc_80]))
      have he_92_c := congrArg Prod.snd he_92; have he_92_l := congrArg Prod.fst he_92; dsimp only at he_92_c he_92_l; rw [he_92_c]; rw [he_92_l] at hO_89 hn_az_84
      obtain rfl : 1 = nz_85 := hn_az_84
      have hR_93 : FarmP p_17 (prS r_3 r_7 1 1) M_88 := by skip; exact hR_90
      have hJ_94 : FJ (prS r_3 r_7 1 1) 1 2 := by skip; exact hJ_91
      refine pu5 <| nilO <| thenK_n <| seqE <| regionE <| pu3 ?_
      refine sAlloc hS_83 Try.zeroValue48 ?_
      intro b_95 w_96 hS_97
      refine sT hS_97 0 0 (.agg #[.int .i64 1, .int .i64 0]) [.int .i64 1, .int .i64 0] #[.int .i64 1, .int .i64 0] Try.sizeOf48 ?_
      intro w_98 hS_99
      refine nilO <| thenK_n <| seqE <| seqE <| regionE <| pu3 <| nilO <| thenK_n <| cFf <| skipE <| thenK_n <| seqE ?_
      obtain ⟨x_100, b_101, o_102, hx_103, hp_104, hq_105, ha_106⟩ := OwnT.elem hO_89 0
      change _[0]? = _ at hx_103; change PtR _ _ (_ + 0 * _) _ at hp_104; change ElemAt _ _ _ _ _ (_ + 0 * _) at hq_105
      have hxl_x_100 : x_100 = (⟨4, 0, 0, 0, 1, 0, 0⟩ : Evt) := (Option.some.inj hx_103).symm
      refine drawE [] [(10, ⟨b_101, o_102 + 0 * 7 + 0, none⟩, .int .i64 x_100.kind), (10, ⟨b_101, o_102 + 0 * 7 + 1, none⟩, .int .i64 x_100.worker), (10, ⟨b_101, o_102 + 0 * 7 + 2, none⟩, .int .i64 x_100.from_), (10, ⟨b_101, o_102 + 0 * 7 + 3, none⟩, .int .i64 x_100.job), (10, ⟨b_101, o_102 + 0 * 7 + 4, none⟩, .int .i64 x_100.refJob), (10, ⟨b_101, o_102 + 0 * 7 + 5, none⟩, .int .i64 x_100.refTask), (10, ⟨b_101, o_102 + 0 * 7 + 6, none⟩, .int .i64 x_100.err), (12, ⟨b_95, 0, none⟩, .int .i64 1), (12, ⟨b_95, 1, none⟩, .int .i64 0)] [(true, [0, 1, 2, 3, 4, 5, 6, 7, 8]), (true, [9]), (true, [11]), (true, [10]), (true, [12]), (true, [13]), (true, [14]), (true, [15])] rfl (by kernel_rfl) ⟨.inr ((hp_104.up 1 rfl).cell hS_99 (k := 0) rfl), .inr ((hp_104.up 1 rfl).cell hS_99 (k := 1) rfl), .inr ((hp_104.up 1 rfl).cell hS_99 (k := 2) rfl), .inr ((hp_104.up 1 rfl).cell hS_99 (k := 3) rfl), .inr ((hp_104.up 1 rfl).cell hS_99 (k := 4) rfl), .inr ((hp_104.up 1 rfl).cell hS_99 (k := 5) rfl), .inr ((hp_104.up 1 rfl).cell hS_99 (k := 6) rfl), .inr (hS_99.cell 0 rfl rfl), .inr (hS_99.cell 0 rfl rfl), trivial⟩ ?_
      have hS_107 := hS_99.drew
      refine wU [0, 1, 2, 3, 4, 5, 6, 7, 8] ?_
      refine wY (.pointer (some ⟨b_101, o_102 + 0 * 7, none⟩)) rfl (fun w _ => Y_idx (a := az_84) (i := 0) (len := 1) (cap := kz_86) rfl Try.runUnderlying44 Try.sizeOf50 (by kernel_rfl) (by kernel_rfl) hq_105) ?_
      refine wU [11] ?_
      refine wY (.agg (encEvt x_100).toArray) rfl (fun w hF => Y_loadF rfl (Try.isAgg50 w) (Try.sizeOf50 w) (by kernel_rfl) rfl ⟨hF 0 _ _ rfl, hF 1 _ _ rfl, hF 2 _ _ rfl, hF 3 _ _ rfl, hF 4 _ _ rfl, hF 5 _ _ rfl, hF 6 _ _ rfl, trivial⟩) ?_
      refine wY (.agg #[.int .i64 1, .int .i64 0]) rfl (fun w hF => Y_loadF rfl (Try.isAgg48 w) (Try.sizeOf48 w) (by kernel_rfl) rfl ⟨hF 7 _ _ rfl, hF 8 _ _ rfl, trivial⟩) ?_
      refine wU [13] ?_
      refine wY (.bool (!(((x_100.kind : Int) == 4) && ((x_100.worker : Int) == 0) && ((x_100.from_ : Int) == 0) && ((x_100.job : Int) == 0) && ((x_100.refJob : Int) == 1) && ((x_100.refTask : Int) == 0) && ((x_100.err : Int) == 0)))) rfl (fun w _ => Y_eqS rfl (by kernel_rfl) (by kernel_rfl) (eqvn50 _ x_100.kind x_100.worker x_100.from_ x_100.job x_100.refJob x_100.refTask x_100.err 4 0 0 0 1 0 0)) ?_
      refine wU [15] ?_
      refine wN ?_
      refine thenK_n <| ?_
      have hc_108 : (x_100.kind : Int) = 4 ∧ (x_100.worker : Int) = 0 ∧ (x_100.from_ : Int) = 0 ∧ (x_100.job : Int) = 0 ∧ (x_100.refJob : Int) = 1 ∧ (x_100.refTask : Int) = 0 ∧ (x_100.err : Int) = 0 := (by subst hxl_x_100; exact ⟨rfl, rfl, rfl, rfl, rfl, rfl, rfl⟩)
      refine cF _ (congrArg Bool.not (show (((x_100.kind : Int) == 4) && ((x_100.worker : Int) == 0) && ((x_100.from_ : Int) == 0) && ((x_100.job : Int) == 0) && ((x_100.refJob : Int) == 1) && ((x_100.refTask : Int) == 0) && ((x_100.err : Int) == 0)) = true from by simpa [and_assoc] using hc_108)) ?_
      refine skipE <| blockK_n <| thenK_n <| regionE <| pu3 <| nilO <| thenK_n <| ?_
      refine roundS ?_
      refine seqE <| seqE <| regionE <| pu8 <| nilO <| thenK_n <| cTt <| skipE <| thenK_n <| seqE <| blockE <| seqE <| regionE <| pu2 ?_
      have hS_109 := (hS_107.pick 2 rfl)
      refine cX Try.call23 (pf_step hR_93 hJ_94.i 1 0 hJ_94.t (by omega) (Sat.flat1 hS_109)) ?_
      rintro _ w_110 ⟨az_113, nz_114, kz_115, Z_116, M_117, rfl, hO_118, hR_119, hS_111⟩
      have hS_112 := Sat.unflat2 hS_111; have hn_az_113 := hO_118.len; have hl_az_113 := hO_118.le
      have hJ_120 := FJ.step (x := 1) (c := 0) hJ_94 (by omega)
      have he_121 : (stepF (prS r_3 r_7 1 1) 1 0).2 = ([(⟨4, 1, 0, 0, 0, 0, 0⟩ : Evt)], 0) := (pr_ev (x := r_3) (y := r_7) (m := 1) (w := 1) (by omega) (by omega) (by decide) (by decide) (f := 1) (by rw [if_pos hc_80]))
      have he_121_c := congrArg Prod.snd he_121; have he_121_l := congrArg Prod.fst he_121; dsimp only at he_121_c he_121_l; rw [he_121_c]; rw [he_121_l] at hO_118 hn_az_113
      obtain rfl : 1 = nz_114 := hn_az_113
      have hR_122 : FarmP p_17 (prS r_3 r_7 1 2) M_117 := by skip; exact hR_119
      have hJ_123 : FJ (prS r_3 r_7 1 2) 2 2 := by skip; exact hJ_120
      refine pu5 <| nilO <| thenK_n <| seqE <| regionE <| pu3 ?_
      refine sAlloc hS_112 Try.zeroValue48 ?_
      intro b_124 w_125 hS_126
      refine sT hS_126 0 0 (.agg #[.int .i64 1, .int .i64 1]) [.int .i64 1, .int .i64 1] #[.int .i64 1, .int .i64 1] Try.sizeOf48 ?_
      intro w_127 hS_128
      refine nilO <| thenK_n <| seqE <| seqE <| regionE <| pu3 <| nilO <| thenK_n <| cTt <| regionE <| pu6 ?_
      refine sT hS_128 0 0 (.agg #[.int .i64 0, .int .i64 0]) [.int .i64 0, .int .i64 0] #[.int .i64 0, .int .i64 0] Try.sizeOf48 ?_
      intro w_129 hS_130
      refine nilO <| thenK_n <| seqE ?_
      obtain ⟨x_131, b_132, o_133, hx_134, hp_135, hq_136, ha_137⟩ := OwnT.elem hO_118 0
      change _[0]? = _ at hx_134; change PtR _ _ (_ + 0 * _) _ at hp_135; change ElemAt _ _ _ _ _ (_ + 0 * _) at hq_136
      have hxl_x_131 : x_131 = (⟨4, 1, 0, 0, 0, 0, 0⟩ : Evt) := (Option.some.inj hx_134).symm
      refine drawE [] [(10, ⟨b_132, o_133 + 0 * 7 + 0, none⟩, .int .i64 x_131.kind), (10, ⟨b_132, o_133 + 0 * 7 + 1, none⟩, .int .i64 x_131.worker), (10, ⟨b_132, o_133 + 0 * 7 + 2, none⟩, .int .i64 x_131.from_), (10, ⟨b_132, o_133 + 0 * 7 + 3, none⟩, .int .i64 x_131.job), (10, ⟨b_132, o_133 + 0 * 7 + 4, none⟩, .int .i64 x_131.refJob), (10, ⟨b_132, o_133 + 0 * 7 + 5, none⟩, .int .i64 x_131.refTask), (10, ⟨b_132, o_133 + 0 * 7 + 6, none⟩, .int .i64 x_131.err), (12, ⟨b_124, 0, none⟩, .int .i64 0), (12, ⟨b_124, 1, none⟩, .int .i64 0)] [(true, [0, 1, 2, 3, 4, 5, 6, 7, 8]), (true, [9]), (true, [11]), (true, [10]), (true, [12]), (true, [13]), (true, [14]), (true, [15])] rfl (by kernel_rfl) ⟨.inr ((hp_135.up 1 rfl).cell hS_130 (k := 0) rfl), .inr ((hp_135.up 1 rfl).cell hS_130 (k := 1) rfl), .inr ((hp_135.up 1 rfl).cell hS_130 (k := 2) rfl), .inr ((hp_135.up 1 rfl).cell hS_130 (k := 3) rfl), .inr ((hp_135.up 1 rfl).cell hS_130 (k := 4) rfl), .inr ((hp_135.up 1 rfl).cell hS_130 (k := 5) rfl), .inr ((hp_135.up 1 rfl).cell hS_130 (k := 6) rfl), .inr (hS_130.cell 0 rfl rfl), .inr (hS_130.cell 0 rfl rfl), trivial⟩ ?_
      have hS_138 := hS_130.drew
      refine wU [0, 1, 2, 3, 4, 5, 6, 7, 8] ?_
      refine wY (.pointer (some ⟨b_132, o_133 + 0 * 7, none⟩)) rfl (fun w _ => Y_idx (a := az_113) (i := 0) (len := 1) (cap := kz_115) rfl Try.runUnderlying44 Try.sizeOf50 (by kernel_rfl) (by kernel_rfl) hq_136) ?_
      refine wU [11] ?_
      refine wY (.agg (encEvt x_131).toArray) rfl (fun w hF => Y_loadF rfl (Try.isAgg50 w) (Try.sizeOf50 w) (by kernel_rfl) rfl ⟨hF 0 _ _ rfl, hF 1 _ _ rfl, hF 2 _ _ rfl, hF 3 _ _ rfl, hF 4 _ _ rfl, hF 5 _ _ rfl, hF 6 _ _ rfl, trivial⟩) ?_
      refine wY (.agg #[.int .i64 0, .int .i64 0]) rfl (fun w hF => Y_loadF rfl (Try.isAgg48 w) (Try.sizeOf48 w) (by kernel_rfl) rfl ⟨hF 7 _ _ rfl, hF 8 _ _ rfl, trivial⟩) ?_
      refine wU [13] ?_
      refine wY (.bool (!(((x_131.kind : Int) == 4) && ((x_131.worker : Int) == 1) && ((x_131.from_ : Int) == 0) && ((x_131.job : Int) == 0) && ((x_131.refJob : Int) == 0) && ((x_131.refTask : Int) == 0) && ((x_131.err : Int) == 0)))) rfl (fun w _ => Y_eqS rfl (by kernel_rfl) (by kernel_rfl) (eqvn50 _ x_131.kind x_131.worker x_131.from_ x_131.job x_131.refJob x_131.refTask x_131.err 4 1 0 0 0 0 0)) ?_
      refine wU [15] ?_
      refine wN ?_
      refine thenK_n <| ?_
      have hc_139 : (x_131.kind : Int) = 4 ∧ (x_131.worker : Int) = 1 ∧ (x_131.from_ : Int) = 0 ∧ (x_131.job : Int) = 0 ∧ (x_131.refJob : Int) = 0 ∧ (x_131.refTask : Int) = 0 ∧ (x_131.err : Int) = 0 := (by subst hxl_x_131; exact ⟨rfl, rfl, rfl, rfl, rfl, rfl, rfl⟩)
      refine cF _ (congrArg Bool.not (show (((x_131.kind : Int) == 4) && ((x_131.worker : Int) == 1) && ((x_131.from_ : Int) == 0) && ((x_131.job : Int) == 0) && ((x_131.refJob : Int) == 0) && ((x_131.refTask : Int) == 0) && ((x_131.err : Int) == 0)) = true from by simpa [and_assoc] using hc_139)) ?_
      refine skipE <| blockK_n <| thenK_n <| regionE <| pu3 <| nilO <| thenK_n <| ?_
      refine roundS ?_
      refine seqE <| seqE <| regionE <| pu8 <| nilO <| thenK_n <| cFf <| exitE <| thenK_x <| thenK_x <| blockK_x <| thenK_n <| seqE <| regionE ?_
      refine cX Try.call24 (l27_sane hS_138) ?_
      rintro _ w_140 ⟨rfl, hS_141⟩
      refine pu1 <| nilO <| thenK_n <| retE <| retT [.bool true] <| ?_
      have hS_142 := (hS_141.pick 9 rfl)
      have hS_143 := hS_142.dropAt 1 rfl
      have hS_144 := hS_143.dropAt 1 rfl
      have hS_145 := hS_144.dropAt 1 rfl
      have hS_146 := hS_145.dropAt 1 rfl
      have hS_147 := hS_146.dropAt 1 rfl
      have hS_148 := hS_147.dropAt 1 rfl
      have hS_149 := hS_148.dropAt 1 rfl
      have hS_150 := hS_149.dropAt 1 rfl
      have hS_151 := hS_150.dropAt 1 rfl
      exact ⟨rfl, hS_151⟩
    refine skipE <| thenK_n <| seqE <| seqE <| regionE <| pu1 <| nilO <| thenK_n <| blockE ?_
    refine loopN 5 ?_
    refine roundS ?_
    refine seqE <| seqE <| regionE <| pu8 <| nilO <| thenK_n <| cTt <| skipE <| thenK_n <| seqE <| blockE <| seqE <| regionE <| pu2 ?_
    refine cX Try.call23 (pf_step hR_78 hJ_79.i 0 0 hJ_79.t (by omega) (Sat.flat1 hS_65)) ?_
    rintro _ w_152 ⟨az_155, nz_156, kz_157, Z_158, M_159, rfl, hO_160, hR_161, hS_153⟩
    have hS_154 := Sat.unflat2 hS_153; have hn_az_155 := hO_160.len; have hl_az_155 := hO_160.le
    have hJ_162 := FJ.step (x := 0) (c := 0) hJ_79 (by omega)
    have he_163 : (stepF (prS r_3 r_7 1 0) 0 0).2 = ([(⟨4, 0, 0, 0, 0, 0, 0⟩ : Evt)], 0) := (pr_ev (x := r_3) (y := r_7) (m := 1) (w := 0) (by omega) (by omega) (by decide) (by decide) (f := 0) (by rw [if_neg hc_80]))
    have he_163_c := congrArg Prod.snd he_163; have he_163_l := congrArg Prod.fst he_163; dsimp only at he_163_c he_163_l; rw [he_163_c]; rw [he_163_l] at hO_160 hn_az_155
    obtain rfl : 1 = nz_156 := hn_az_155
    have hR_164 : FarmP p_17 (prS r_3 r_7 1 1) M_159 := by skip; exact hR_161
    have hJ_165 : FJ (prS r_3 r_7 1 1) 1 2 := by skip; exact hJ_162
    refine pu5 <| nilO <| thenK_n <| seqE <| regionE <| pu3 ?_
    refine sAlloc hS_154 Try.zeroValue48 ?_
    intro b_166 w_167 hS_168
    refine sT hS_168 0 0 (.agg #[.int .i64 0, .int .i64 0]) [.int .i64 0, .int .i64 0] #[.int .i64 0, .int .i64 0] Try.sizeOf48 ?_
    intro w_169 hS_170
    refine nilO <| thenK_n <| seqE <| seqE <| regionE <| pu3 <| nilO <| thenK_n <| cFf <| skipE <| thenK_n <| seqE ?_
    obtain ⟨x_171, b_172, o_173, hx_174, hp_175, hq_176, ha_177⟩ := OwnT.elem hO_160 0
    change _[0]? = _ at hx_174; change PtR _ _ (_ + 0 * _) _ at hp_175; change ElemAt _ _ _ _ _ (_ + 0 * _) at hq_176
    have hxl_x_171 : x_171 = (⟨4, 0, 0, 0, 0, 0, 0⟩ : Evt) := (Option.some.inj hx_174).symm
    refine drawE [] [(10, ⟨b_172, o_173 + 0 * 7 + 0, none⟩, .int .i64 x_171.kind), (10, ⟨b_172, o_173 + 0 * 7 + 1, none⟩, .int .i64 x_171.worker), (10, ⟨b_172, o_173 + 0 * 7 + 2, none⟩, .int .i64 x_171.from_), (10, ⟨b_172, o_173 + 0 * 7 + 3, none⟩, .int .i64 x_171.job), (10, ⟨b_172, o_173 + 0 * 7 + 4, none⟩, .int .i64 x_171.refJob), (10, ⟨b_172, o_173 + 0 * 7 + 5, none⟩, .int .i64 x_171.refTask), (10, ⟨b_172, o_173 + 0 * 7 + 6, none⟩, .int .i64 x_171.err), (12, ⟨b_166, 0, none⟩, .int .i64 0), (12, ⟨b_166, 1, none⟩, .int .i64 0)] [(true, [0, 1, 2, 3, 4, 5, 6, 7, 8]), (true, [9]), (true, [11]), (true, [10]), (true, [12]), (true, [13]), (true, [14]), (true, [15])] rfl (by kernel_rfl) ⟨.inr ((hp_175.up 1 rfl).cell hS_170 (k := 0) rfl), .inr ((hp_175.up 1 rfl).cell hS_170 (k := 1) rfl), .inr ((hp_175.up 1 rfl).cell hS_170 (k := 2) rfl), .inr ((hp_175.up 1 rfl).cell hS_170 (k := 3) rfl), .inr ((hp_175.up 1 rfl).cell hS_170 (k := 4) rfl), .inr ((hp_175.up 1 rfl).cell hS_170 (k := 5) rfl), .inr ((hp_175.up 1 rfl).cell hS_170 (k := 6) rfl), .inr (hS_170.cell 0 rfl rfl), .inr (hS_170.cell 0 rfl rfl), trivial⟩ ?_
    have hS_178 := hS_170.drew
    refine wU [0, 1, 2, 3, 4, 5, 6, 7, 8] ?_
    refine wY (.pointer (some ⟨b_172, o_173 + 0 * 7, none⟩)) rfl (fun w _ => Y_idx (a := az_155) (i := 0) (len := 1) (cap := kz_157) rfl Try.runUnderlying44 Try.sizeOf50 (by kernel_rfl) (by kernel_rfl) hq_176) ?_
    refine wU [11] ?_
    refine wY (.agg (encEvt x_171).toArray) rfl (fun w hF => Y_loadF rfl (Try.isAgg50 w) (Try.sizeOf50 w) (by kernel_rfl) rfl ⟨hF 0 _ _ rfl, hF 1 _ _ rfl, hF 2 _ _ rfl, hF 3 _ _ rfl, hF 4 _ _ rfl, hF 5 _ _ rfl, hF 6 _ _ rfl, trivial⟩) ?_
    refine wY (.agg #[.int .i64 0, .int .i64 0]) rfl (fun w hF => Y_loadF rfl (Try.isAgg48 w) (Try.sizeOf48 w) (by kernel_rfl) rfl ⟨hF 7 _ _ rfl, hF 8 _ _ rfl, trivial⟩) ?_
    refine wU [13] ?_
    refine wY (.bool (!(((x_171.kind : Int) == 4) && ((x_171.worker : Int) == 0) && ((x_171.from_ : Int) == 0) && ((x_171.job : Int) == 0) && ((x_171.refJob : Int) == 0) && ((x_171.refTask : Int) == 0) && ((x_171.err : Int) == 0)))) rfl (fun w _ => Y_eqS rfl (by kernel_rfl) (by kernel_rfl) (eqvn50 _ x_171.kind x_171.worker x_171.from_ x_171.job x_171.refJob x_171.refTask x_171.err 4 0 0 0 0 0 0)) ?_
    refine wU [15] ?_
    refine wN ?_
    refine thenK_n <| ?_
    have hc_179 : (x_171.kind : Int) = 4 ∧ (x_171.worker : Int) = 0 ∧ (x_171.from_ : Int) = 0 ∧ (x_171.job : Int) = 0 ∧ (x_171.refJob : Int) = 0 ∧ (x_171.refTask : Int) = 0 ∧ (x_171.err : Int) = 0 := (by subst hxl_x_171; exact ⟨rfl, rfl, rfl, rfl, rfl, rfl, rfl⟩)
    refine cF _ (congrArg Bool.not (show (((x_171.kind : Int) == 4) && ((x_171.worker : Int) == 0) && ((x_171.from_ : Int) == 0) && ((x_171.job : Int) == 0) && ((x_171.refJob : Int) == 0) && ((x_171.refTask : Int) == 0) && ((x_171.err : Int) == 0)) = true from by simpa [and_assoc] using hc_179)) ?_
    refine skipE <| blockK_n <| thenK_n <| regionE <| pu3 <| nilO <| thenK_n <| ?_
    refine roundS ?_
    refine seqE <| seqE <| regionE <| pu8 <| nilO <| thenK_n <| cTt <| skipE <| thenK_n <| seqE <| blockE <| seqE <| regionE <| pu2 ?_
    have hS_180 := (hS_178.pick 2 rfl)
    refine cX Try.call23 (pf_step hR_164 hJ_165.i 1 0 hJ_165.t (by omega) (Sat.flat1 hS_180)) ?_
    rintro _ w_181 ⟨az_184, nz_185, kz_186, Z_187, M_188, rfl, hO_189, hR_190, hS_182⟩
    have hS_183 := Sat.unflat2 hS_182; have hn_az_184 := hO_189.len; have hl_az_184 := hO_189.le
    have hJ_191 := FJ.step (x := 1) (c := 0) hJ_165 (by omega)
    have he_192 : (stepF (prS r_3 r_7 1 1) 1 0).2 = ([(⟨4, 1, 0, 0, 1, 0, 0⟩ : Evt)], 0) := (pr_ev (x := r_3) (y := r_7) (m := 1) (w := 1) (by omega) (by omega) (by decide) (by decide) (f := 0) (by rw [if_neg hc_80]))
    have he_192_c := congrArg Prod.snd he_192; have he_192_l := congrArg Prod.fst he_192; dsimp only at he_192_c he_192_l; rw [he_192_c]; rw [he_192_l] at hO_189 hn_az_184
    obtain rfl : 1 = nz_185 := hn_az_184
    have hR_193 : FarmP p_17 (prS r_3 r_7 1 2) M_188 := by skip; exact hR_190
    have hJ_194 : FJ (prS r_3 r_7 1 2) 2 2 := by skip; exact hJ_191
    refine pu5 <| nilO <| thenK_n <| seqE <| regionE <| pu3 ?_
    refine sAlloc hS_183 Try.zeroValue48 ?_
    intro b_195 w_196 hS_197
    refine sT hS_197 0 0 (.agg #[.int .i64 0, .int .i64 1]) [.int .i64 0, .int .i64 1] #[.int .i64 0, .int .i64 1] Try.sizeOf48 ?_
    intro w_198 hS_199
    refine nilO <| thenK_n <| seqE <| seqE <| regionE <| pu3 <| nilO <| thenK_n <| cTt <| regionE <| pu6 ?_
    refine sT hS_199 0 0 (.agg #[.int .i64 1, .int .i64 0]) [.int .i64 1, .int .i64 0] #[.int .i64 1, .int .i64 0] Try.sizeOf48 ?_
    intro w_200 hS_201
    refine nilO <| thenK_n <| seqE ?_
    obtain ⟨x_202, b_203, o_204, hx_205, hp_206, hq_207, ha_208⟩ := OwnT.elem hO_189 0
    change _[0]? = _ at hx_205; change PtR _ _ (_ + 0 * _) _ at hp_206; change ElemAt _ _ _ _ _ (_ + 0 * _) at hq_207
    have hxl_x_202 : x_202 = (⟨4, 1, 0, 0, 1, 0, 0⟩ : Evt) := (Option.some.inj hx_205).symm
    refine drawE [] [(10, ⟨b_203, o_204 + 0 * 7 + 0, none⟩, .int .i64 x_202.kind), (10, ⟨b_203, o_204 + 0 * 7 + 1, none⟩, .int .i64 x_202.worker), (10, ⟨b_203, o_204 + 0 * 7 + 2, none⟩, .int .i64 x_202.from_), (10, ⟨b_203, o_204 + 0 * 7 + 3, none⟩, .int .i64 x_202.job), (10, ⟨b_203, o_204 + 0 * 7 + 4, none⟩, .int .i64 x_202.refJob), (10, ⟨b_203, o_204 + 0 * 7 + 5, none⟩, .int .i64 x_202.refTask), (10, ⟨b_203, o_204 + 0 * 7 + 6, none⟩, .int .i64 x_202.err), (12, ⟨b_195, 0, none⟩, .int .i64 1), (12, ⟨b_195, 1, none⟩, .int .i64 0)] [(true, [0, 1, 2, 3, 4, 5, 6, 7, 8]), (true, [9]), (true, [11]), (true, [10]), (true, [12]), (true, [13]), (true, [14]), (true, [15])] rfl (by kernel_rfl) ⟨.inr ((hp_206.up 1 rfl).cell hS_201 (k := 0) rfl), .inr ((hp_206.up 1 rfl).cell hS_201 (k := 1) rfl), .inr ((hp_206.up 1 rfl).cell hS_201 (k := 2) rfl), .inr ((hp_206.up 1 rfl).cell hS_201 (k := 3) rfl), .inr ((hp_206.up 1 rfl).cell hS_201 (k := 4) rfl), .inr ((hp_206.up 1 rfl).cell hS_201 (k := 5) rfl), .inr ((hp_206.up 1 rfl).cell hS_201 (k := 6) rfl), .inr (hS_201.cell 0 rfl rfl), .inr (hS_201.cell 0 rfl rfl), trivial⟩ ?_
    have hS_209 := hS_201.drew
    refine wU [0, 1, 2, 3, 4, 5, 6, 7, 8] ?_
    refine wY (.pointer (some ⟨b_203, o_204 + 0 * 7, none⟩)) rfl (fun w _ => Y_idx (a := az_184) (i := 0) (len := 1) (cap := kz_186) rfl Try.runUnderlying44 Try.sizeOf50 (by kernel_rfl) (by kernel_rfl) hq_207) ?_
    refine wU [11] ?_
    refine wY (.agg (encEvt x_202).toArray) rfl (fun w hF => Y_loadF rfl (Try.isAgg50 w) (Try.sizeOf50 w) (by kernel_rfl) rfl ⟨hF 0 _ _ rfl, hF 1 _ _ rfl, hF 2 _ _ rfl, hF 3 _ _ rfl, hF 4 _ _ rfl, hF 5 _ _ rfl, hF 6 _ _ rfl, trivial⟩) ?_
    refine wY (.agg #[.int .i64 1, .int .i64 0]) rfl (fun w hF => Y_loadF rfl (Try.isAgg48 w) (Try.sizeOf48 w) (by kernel_rfl) rfl ⟨hF 7 _ _ rfl, hF 8 _ _ rfl, trivial⟩) ?_
    refine wU [13] ?_
    refine wY (.bool (!(((x_202.kind : Int) == 4) && ((x_202.worker : Int) == 1) && ((x_202.from_ : Int) == 0) && ((x_202.job : Int) == 0) && ((x_202.refJob : Int) == 1) && ((x_202.refTask : Int) == 0) && ((x_202.err : Int) == 0)))) rfl (fun w _ => Y_eqS rfl (by kernel_rfl) (by kernel_rfl) (eqvn50 _ x_202.kind x_202.worker x_202.from_ x_202.job x_202.refJob x_202.refTask x_202.err 4 1 0 0 1 0 0)) ?_
    refine wU [15] ?_
    refine wN ?_
    refine thenK_n <| ?_
    have hc_210 : (x_202.kind : Int) = 4 ∧ (x_202.worker : Int) = 1 ∧ (x_202.from_ : Int) = 0 ∧ (x_202.job : Int) = 0 ∧ (x_202.refJob : Int) = 1 ∧ (x_202.refTask : Int) = 0 ∧ (x_202.err : Int) = 0 := (by subst hxl_x_202; exact ⟨rfl, rfl, rfl, rfl, rfl, rfl, rfl⟩)
    refine cF _ (congrArg Bool.not (show (((x_202.kind : Int) == 4) && ((x_202.worker : Int) == 1) && ((x_202.from_ : Int) == 0) && ((x_202.job : Int) == 0) && ((x_202.refJob : Int) == 1) && ((x_202.refTask : Int) == 0) && ((x_202.err : Int) == 0)) = true from by simpa [and_assoc] using hc_210)) ?_
    refine skipE <| blockK_n <| thenK_n <| regionE <| pu3 <| nilO <| thenK_n <| ?_
    refine roundS ?_
    refine seqE <| seqE <| regionE <| pu8 <| nilO <| thenK_n <| cFf <| exitE <| thenK_x <| thenK_x <| blockK_x <| thenK_n <| seqE <| regionE ?_
    refine cX Try.call24 (l27_sane hS_209) ?_
    rintro _ w_211 ⟨rfl, hS_212⟩
    refine pu1 <| nilO <| thenK_n <| retE <| retT [.bool true] <| ?_
    have hS_213 := (hS_212.pick 9 rfl)
    have hS_214 := hS_213.dropAt 1 rfl
    have hS_215 := hS_214.dropAt 1 rfl
    have hS_216 := hS_215.dropAt 1 rfl
    have hS_217 := hS_216.dropAt 1 rfl
    have hS_218 := hS_217.dropAt 1 rfl
    have hS_219 := hS_218.dropAt 1 rfl
    have hS_220 := hS_219.dropAt 1 rfl
    have hS_221 := hS_220.dropAt 1 rfl
    have hS_222 := hS_221.dropAt 1 rfl
    exact ⟨rfl, hS_222⟩
  · refine pu4 <| nilO <| thenK_n <| seqE <| regionE ?_
    refine cX Try.call20 (l27_config 4 hS_10) ?_
    rintro _ w_223 ⟨rfl, hS_224⟩
    have hv_230 : validCfg (⟨4, 4, 4, 1024, 2, 100, 100, 8⟩ : Cfg) = 0 := by decide
    refine cX Try.call19 (pf_new (⟨4, 4, 4, 1024, 2, 100, 100, 8⟩ : Cfg) hv_230 hS_224) ?_
    rintro _ w_225 ⟨p_227, M_228, rfl, hR_229, hS_226⟩
    have hJ_231 := FJ.new hv_230
    refine pu5 <| nilO <| thenK_n <| seqE <| seqE <| regionE <| pu9 <| gY ?_
    refine cX Try.call22 (l27_single2 hS_226) ?_
    rintro _ w_232 ⟨az_234, nz_235, kz_236, zs_237, C_238, G_239, rfl, hO_240, hD_241, hV_242, hS_233⟩
    have hn_az_234 := hO_240.len; have hl_az_234 := hO_240.le
    refine pu1 <| gY ?_
    have hS_243 := (hS_233.pick 2 rfl)
    have p_250 : 0 ≤ (0 : Int) ∧ (0 : Int) < 64 := by decide
    have p_253 : 0 ≤ r_3 ∧ r_3 < 4 := by omega
    have p_254 : validC zs_237 = 0 := by rw [valid_v, hV_242]; decide
    have p_255 : ∀ z ∈ zs_237, z.scratch ≤ (newF (⟨4, 4, 4, 1024, 2, 100, 100, 8⟩ : Cfg)).cfg.arena := scr_v (n := 1024) (by rw [hV_242]; decide)
    have p_256 : 0 ≤ (newF (⟨4, 4, 4, 1024, 2, 100, 100, 8⟩ : Cfg)).cfg.tasks ∧ (newF (⟨4, 4, 4, 1024, 2, 100, 100, 8⟩ : Cfg)).cfg.tasks ≤ 4096 := by show (0 : Int) ≤ 100 ∧ (100 : Int) ≤ 4096; decide
    have p_257 : ((zs_237.length : Nat) : Int) ≤ (newF (⟨4, 4, 4, 1024, 2, 100, 100, 8⟩ : Cfg)).cfg.tasks - loadL (newF (⟨4, 4, 4, 1024, 2, 100, 100, 8⟩ : Cfg)).jobs := by rw [len_v hV_242]; decide
    have p_258 : zs_237.length ≤ 12 := by rw [len_v hV_242]; decide
    have p_251 : (newF (⟨4, 4, 4, 1024, 2, 100, 100, 8⟩ : Cfg)).jobs[((0 : Int)).toNat]? = some JS.zero := rfl
    have p_252 : JS.added JS.zero = false := rfl
    refine cX Try.call21 (pf_add hR_229 hJ_231.i 0 az_234 nz_235 kz_236 zs_237 r_3 (RdT.flat (hO_240.rdAt 0 (by rfl))) (fun z hz => (hD_241 z hz).of_mem (mem_flat1 1 (by rfl))) p_250 p_251 p_252 p_253 p_254 p_255 p_256 p_257  (Sat.flat1 hS_243)) ?_
    rintro _ w_244 ⟨M_247, rfl, hR_248, hS_245⟩
    have hS_246 := Sat.unflat1 hS_245
    have hJ_249 := hJ_231.add p_250 p_251 p_252 p_253 p_254 p_255 p_257 p_258
    have hR_259 : FarmP p_227 (addV (newF (cfgF 4)) 0 (singleV 2) r_3) M_247 := by rw [show addV (newF (cfgF 4)) 0 (singleV 2) r_3 = addF (newF (⟨4, 4, 4, 1024, 2, 100, 100, 8⟩ : Cfg)) 0 zs_237 r_3 from by rw [addF_v, hV_242]; rfl]; exact hR_248
    have hJ_260 : FJ (addV (newF (cfgF 4)) 0 (singleV 2) r_3) 0 1 := by rw [show addV (newF (cfgF 4)) 0 (singleV 2) r_3 = addF (newF (⟨4, 4, 4, 1024, 2, 100, 100, 8⟩ : Cfg)) 0 zs_237 r_3 from by rw [addF_v, hV_242]; rfl]; exact hJ_249
    refine pu5 <| gY ?_
    refine cX Try.call22 (l27_single2 hS_246) ?_
    rintro _ w_261 ⟨az_263, nz_264, kz_265, zs_266, C_267, G_268, rfl, hO_269, hD_270, hV_271, hS_262⟩
    have hn_az_263 := hO_269.len; have hl_az_263 := hO_269.le
    refine pu1 <| gY ?_
    have hS_272 := (hS_262.pick 2 rfl)
    have p_279 : 0 ≤ (1 : Int) ∧ (1 : Int) < 64 := by decide
    have p_282 : 0 ≤ r_7 ∧ r_7 < 4 := by omega
    have p_283 : validC zs_266 = 0 := by rw [valid_v, hV_271]; decide
    have p_284 : ∀ z ∈ zs_266, z.scratch ≤ (addV (newF (cfgF 4)) 0 (singleV 2) r_3).cfg.arena := scr_v (n := 1024) (by rw [hV_271]; decide)
    have p_285 : 0 ≤ (addV (newF (cfgF 4)) 0 (singleV 2) r_3).cfg.tasks ∧ (addV (newF (cfgF 4)) 0 (singleV 2) r_3).cfg.tasks ≤ 4096 := by show (0 : Int) ≤ 100 ∧ (100 : Int) ≤ 4096; decide
    have p_286 : ((zs_266.length : Nat) : Int) ≤ (addV (newF (cfgF 4)) 0 (singleV 2) r_3).cfg.tasks - loadL (addV (newF (cfgF 4)) 0 (singleV 2) r_3).jobs := by rw [len_v hV_271, show loadL (addV (newF (cfgF 4)) 0 (singleV 2) r_3).jobs = 0 + (((singleV 2).length : Nat) : Int) from (load_new (j := JS.zero) rfl rfl).trans (by rw [load_new0]; rfl)]; show _ ≤ (100 : Int) - _; decide
    have p_287 : zs_266.length ≤ 12 := by rw [len_v hV_271]; decide
    have p_280 : (addV (newF (cfgF 4)) 0 (singleV 2) r_3).jobs[((1 : Int)).toNat]? = some JS.zero := rfl
    have p_281 : JS.added JS.zero = false := rfl
    refine cX Try.call21 (pf_add hR_259 hJ_260.i 1 az_263 nz_264 kz_265 zs_266 r_7 (RdT.flat (hO_269.rdAt 0 (by rfl))) (fun z hz => (hD_270 z hz).of_mem (mem_flat1 1 (by rfl))) p_279 p_280 p_281 p_282 p_283 p_284 p_285 p_286  (Sat.flat1 hS_272)) ?_
    rintro _ w_273 ⟨M_276, rfl, hR_277, hS_274⟩
    have hS_275 := Sat.unflat1 hS_274
    have hJ_278 := hJ_260.add p_279 p_280 p_281 p_282 p_283 p_284 p_286 p_287
    have hR_288 : FarmP p_227 (prS r_3 r_7 2 0) M_276 := by rw [show prS r_3 r_7 2 0 = addF (addV (newF (cfgF 4)) 0 (singleV 2) r_3) 1 zs_266 r_7 from by rw [addF_v, hV_271]; rfl]; exact hR_277
    have hJ_289 : FJ (prS r_3 r_7 2 0) 0 2 := by rw [show prS r_3 r_7 2 0 = addF (addV (newF (cfgF 4)) 0 (singleV 2) r_3) 1 zs_266 r_7 from by rw [addF_v, hV_271]; rfl]; exact hJ_278
    refine pu2 <| nilO <| thenK_n <| cFf <| skipE <| thenK_n <| seqE <| regionE <| pu1 <| nilO <| thenK_n <| seqE <| seqE <| regionE <| pu3 <| nilO <| thenK_n <| ?_
    refine cD (r_7 < r_3) (fun hc_290 => ?_) (fun hc_290 => ?_)
    rotate_left
    · refine skipE <| thenK_n <| seqE <| seqE <| regionE <| pu1 <| nilO <| thenK_n <| blockE ?_
      refine loopN 5 ?_
      refine roundS ?_
      refine seqE <| seqE <| regionE <| pu8 <| nilO <| thenK_n <| cTt <| skipE <| thenK_n <| seqE <| blockE <| seqE <| regionE <| pu2 ?_
      refine cX Try.call23 (pf_step hR_288 hJ_289.i 0 0 hJ_289.t (by omega) (Sat.flat1 hS_275)) ?_
      rintro _ w_426 ⟨az_429, nz_430, kz_431, Z_432, M_433, rfl, hO_434, hR_435, hS_427⟩
      have hS_428 := Sat.unflat2 hS_427; have hn_az_429 := hO_434.len; have hl_az_429 := hO_434.le
      have hJ_436 := FJ.step (x := 0) (c := 0) hJ_289 (by omega)
      have he_437 : (stepF (prS r_3 r_7 2 0) 0 0).2 = ([(⟨4, 0, 0, 0, 0, 0, 0⟩ : Evt)], 0) := (pr_ev (x := r_3) (y := r_7) (m := 2) (w := 0) (by omega) (by omega) (by decide) (by decide) (f := 0) (by rw [if_neg hc_290]))
      have he_437_c := congrArg Prod.snd he_437; have he_437_l := congrArg Prod.fst he_437; dsimp only at he_437_c he_437_l; rw [he_437_c]; rw [he_437_l] at hO_434 hn_az_429
      obtain rfl : 1 = nz_430 := hn_az_429
      have hR_438 : FarmP p_227 (prS r_3 r_7 2 1) M_433 := by skip; exact hR_435
      have hJ_439 : FJ (prS r_3 r_7 2 1) 1 2 := by skip; exact hJ_436
      refine pu5 <| nilO <| thenK_n <| seqE <| regionE <| pu3 ?_
      refine sAlloc hS_428 Try.zeroValue48 ?_
      intro b_440 w_441 hS_442
      refine sT hS_442 0 0 (.agg #[.int .i64 0, .int .i64 0]) [.int .i64 0, .int .i64 0] #[.int .i64 0, .int .i64 0] Try.sizeOf48 ?_
      intro w_443 hS_444
      refine nilO <| thenK_n <| seqE <| seqE <| regionE <| pu3 <| nilO <| thenK_n <| cFf <| skipE <| thenK_n <| seqE ?_
      obtain ⟨x_445, b_446, o_447, hx_448, hp_449, hq_450, ha_451⟩ := OwnT.elem hO_434 0
      change _[0]? = _ at hx_448; change PtR _ _ (_ + 0 * _) _ at hp_449; change ElemAt _ _ _ _ _ (_ + 0 * _) at hq_450
      have hxl_x_445 : x_445 = (⟨4, 0, 0, 0, 0, 0, 0⟩ : Evt) := (Option.some.inj hx_448).symm
      refine drawE [] [(10, ⟨b_446, o_447 + 0 * 7 + 0, none⟩, .int .i64 x_445.kind), (10, ⟨b_446, o_447 + 0 * 7 + 1, none⟩, .int .i64 x_445.worker), (10, ⟨b_446, o_447 + 0 * 7 + 2, none⟩, .int .i64 x_445.from_), (10, ⟨b_446, o_447 + 0 * 7 + 3, none⟩, .int .i64 x_445.job), (10, ⟨b_446, o_447 + 0 * 7 + 4, none⟩, .int .i64 x_445.refJob), (10, ⟨b_446, o_447 + 0 * 7 + 5, none⟩, .int .i64 x_445.refTask), (10, ⟨b_446, o_447 + 0 * 7 + 6, none⟩, .int .i64 x_445.err), (12, ⟨b_440, 0, none⟩, .int .i64 0), (12, ⟨b_440, 1, none⟩, .int .i64 0)] [(true, [0, 1, 2, 3, 4, 5, 6, 7, 8]), (true, [9]), (true, [11]), (true, [10]), (true, [12]), (true, [13]), (true, [14]), (true, [15])] rfl (by kernel_rfl) ⟨.inr ((hp_449.up 1 rfl).cell hS_444 (k := 0) rfl), .inr ((hp_449.up 1 rfl).cell hS_444 (k := 1) rfl), .inr ((hp_449.up 1 rfl).cell hS_444 (k := 2) rfl), .inr ((hp_449.up 1 rfl).cell hS_444 (k := 3) rfl), .inr ((hp_449.up 1 rfl).cell hS_444 (k := 4) rfl), .inr ((hp_449.up 1 rfl).cell hS_444 (k := 5) rfl), .inr ((hp_449.up 1 rfl).cell hS_444 (k := 6) rfl), .inr (hS_444.cell 0 rfl rfl), .inr (hS_444.cell 0 rfl rfl), trivial⟩ ?_
      have hS_452 := hS_444.drew
      refine wU [0, 1, 2, 3, 4, 5, 6, 7, 8] ?_
      refine wY (.pointer (some ⟨b_446, o_447 + 0 * 7, none⟩)) rfl (fun w _ => Y_idx (a := az_429) (i := 0) (len := 1) (cap := kz_431) rfl Try.runUnderlying44 Try.sizeOf50 (by kernel_rfl) (by kernel_rfl) hq_450) ?_
      refine wU [11] ?_
      refine wY (.agg (encEvt x_445).toArray) rfl (fun w hF => Y_loadF rfl (Try.isAgg50 w) (Try.sizeOf50 w) (by kernel_rfl) rfl ⟨hF 0 _ _ rfl, hF 1 _ _ rfl, hF 2 _ _ rfl, hF 3 _ _ rfl, hF 4 _ _ rfl, hF 5 _ _ rfl, hF 6 _ _ rfl, trivial⟩) ?_
      refine wY (.agg #[.int .i64 0, .int .i64 0]) rfl (fun w hF => Y_loadF rfl (Try.isAgg48 w) (Try.sizeOf48 w) (by kernel_rfl) rfl ⟨hF 7 _ _ rfl, hF 8 _ _ rfl, trivial⟩) ?_
      refine wU [13] ?_
      refine wY (.bool (!(((x_445.kind : Int) == 4) && ((x_445.worker : Int) == 0) && ((x_445.from_ : Int) == 0) && ((x_445.job : Int) == 0) && ((x_445.refJob : Int) == 0) && ((x_445.refTask : Int) == 0) && ((x_445.err : Int) == 0)))) rfl (fun w _ => Y_eqS rfl (by kernel_rfl) (by kernel_rfl) (eqvn50 _ x_445.kind x_445.worker x_445.from_ x_445.job x_445.refJob x_445.refTask x_445.err 4 0 0 0 0 0 0)) ?_
      refine wU [15] ?_
      refine wN ?_
      refine thenK_n <| ?_
      have hc_453 : (x_445.kind : Int) = 4 ∧ (x_445.worker : Int) = 0 ∧ (x_445.from_ : Int) = 0 ∧ (x_445.job : Int) = 0 ∧ (x_445.refJob : Int) = 0 ∧ (x_445.refTask : Int) = 0 ∧ (x_445.err : Int) = 0 := (by subst hxl_x_445; exact ⟨rfl, rfl, rfl, rfl, rfl, rfl, rfl⟩)
      refine cF _ (congrArg Bool.not (show (((x_445.kind : Int) == 4) && ((x_445.worker : Int) == 0) && ((x_445.from_ : Int) == 0) && ((x_445.job : Int) == 0) && ((x_445.refJob : Int) == 0) && ((x_445.refTask : Int) == 0) && ((x_445.err : Int) == 0)) = true from by simpa [and_assoc] using hc_453)) ?_
      refine skipE <| blockK_n <| thenK_n <| regionE <| pu3 <| nilO <| thenK_n <| ?_
      refine roundS ?_
      refine seqE <| seqE <| regionE <| pu8 <| nilO <| thenK_n <| cTt <| skipE <| thenK_n <| seqE <| blockE <| seqE <| regionE <| pu2 ?_
      have hS_454 := (hS_452.pick 2 rfl)
      refine cX Try.call23 (pf_step hR_438 hJ_439.i 1 0 hJ_439.t (by omega) (Sat.flat1 hS_454)) ?_
      rintro _ w_455 ⟨az_458, nz_459, kz_460, Z_461, M_462, rfl, hO_463, hR_464, hS_456⟩
      have hS_457 := Sat.unflat2 hS_456; have hn_az_458 := hO_463.len; have hl_az_458 := hO_463.le
      have hJ_465 := FJ.step (x := 1) (c := 0) hJ_439 (by omega)
      have he_466 : (stepF (prS r_3 r_7 2 1) 1 0).2 = ([(⟨4, 1, 0, 0, 0, 1, 0⟩ : Evt)], 0) := (pr_ev (x := r_3) (y := r_7) (m := 2) (w := 1) (by omega) (by omega) (by decide) (by decide) (f := 0) (by rw [if_neg hc_290]))
      have he_466_c := congrArg Prod.snd he_466; have he_466_l := congrArg Prod.fst he_466; dsimp only at he_466_c he_466_l; rw [he_466_c]; rw [he_466_l] at hO_463 hn_az_458
      obtain rfl : 1 = nz_459 := hn_az_458
      have hR_467 : FarmP p_227 (prS r_3 r_7 2 2) M_462 := by skip; exact hR_464
      have hJ_468 : FJ (prS r_3 r_7 2 2) 2 2 := by skip; exact hJ_465
      refine pu5 <| nilO <| thenK_n <| seqE <| regionE <| pu3 ?_
      refine sAlloc hS_457 Try.zeroValue48 ?_
      intro b_469 w_470 hS_471
      refine sT hS_471 0 0 (.agg #[.int .i64 0, .int .i64 1]) [.int .i64 0, .int .i64 1] #[.int .i64 0, .int .i64 1] Try.sizeOf48 ?_
      intro w_472 hS_473
      refine nilO <| thenK_n <| seqE <| seqE <| regionE <| pu3 <| nilO <| thenK_n <| cFf <| skipE <| thenK_n <| seqE ?_
      obtain ⟨x_474, b_475, o_476, hx_477, hp_478, hq_479, ha_480⟩ := OwnT.elem hO_463 0
      change _[0]? = _ at hx_477; change PtR _ _ (_ + 0 * _) _ at hp_478; change ElemAt _ _ _ _ _ (_ + 0 * _) at hq_479
      have hxl_x_474 : x_474 = (⟨4, 1, 0, 0, 0, 1, 0⟩ : Evt) := (Option.some.inj hx_477).symm
      refine drawE [] [(10, ⟨b_475, o_476 + 0 * 7 + 0, none⟩, .int .i64 x_474.kind), (10, ⟨b_475, o_476 + 0 * 7 + 1, none⟩, .int .i64 x_474.worker), (10, ⟨b_475, o_476 + 0 * 7 + 2, none⟩, .int .i64 x_474.from_), (10, ⟨b_475, o_476 + 0 * 7 + 3, none⟩, .int .i64 x_474.job), (10, ⟨b_475, o_476 + 0 * 7 + 4, none⟩, .int .i64 x_474.refJob), (10, ⟨b_475, o_476 + 0 * 7 + 5, none⟩, .int .i64 x_474.refTask), (10, ⟨b_475, o_476 + 0 * 7 + 6, none⟩, .int .i64 x_474.err), (12, ⟨b_469, 0, none⟩, .int .i64 0), (12, ⟨b_469, 1, none⟩, .int .i64 1)] [(true, [0, 1, 2, 3, 4, 5, 6, 7, 8]), (true, [9]), (true, [11]), (true, [10]), (true, [12]), (true, [13]), (true, [14]), (true, [15])] rfl (by kernel_rfl) ⟨.inr ((hp_478.up 1 rfl).cell hS_473 (k := 0) rfl), .inr ((hp_478.up 1 rfl).cell hS_473 (k := 1) rfl), .inr ((hp_478.up 1 rfl).cell hS_473 (k := 2) rfl), .inr ((hp_478.up 1 rfl).cell hS_473 (k := 3) rfl), .inr ((hp_478.up 1 rfl).cell hS_473 (k := 4) rfl), .inr ((hp_478.up 1 rfl).cell hS_473 (k := 5) rfl), .inr ((hp_478.up 1 rfl).cell hS_473 (k := 6) rfl), .inr (hS_473.cell 0 rfl rfl), .inr (hS_473.cell 0 rfl rfl), trivial⟩ ?_
      have hS_481 := hS_473.drew
      refine wU [0, 1, 2, 3, 4, 5, 6, 7, 8] ?_
      refine wY (.pointer (some ⟨b_475, o_476 + 0 * 7, none⟩)) rfl (fun w _ => Y_idx (a := az_458) (i := 0) (len := 1) (cap := kz_460) rfl Try.runUnderlying44 Try.sizeOf50 (by kernel_rfl) (by kernel_rfl) hq_479) ?_
      refine wU [11] ?_
      refine wY (.agg (encEvt x_474).toArray) rfl (fun w hF => Y_loadF rfl (Try.isAgg50 w) (Try.sizeOf50 w) (by kernel_rfl) rfl ⟨hF 0 _ _ rfl, hF 1 _ _ rfl, hF 2 _ _ rfl, hF 3 _ _ rfl, hF 4 _ _ rfl, hF 5 _ _ rfl, hF 6 _ _ rfl, trivial⟩) ?_
      refine wY (.agg #[.int .i64 0, .int .i64 1]) rfl (fun w hF => Y_loadF rfl (Try.isAgg48 w) (Try.sizeOf48 w) (by kernel_rfl) rfl ⟨hF 7 _ _ rfl, hF 8 _ _ rfl, trivial⟩) ?_
      refine wU [13] ?_
      refine wY (.bool (!(((x_474.kind : Int) == 4) && ((x_474.worker : Int) == 1) && ((x_474.from_ : Int) == 0) && ((x_474.job : Int) == 0) && ((x_474.refJob : Int) == 0) && ((x_474.refTask : Int) == 1) && ((x_474.err : Int) == 0)))) rfl (fun w _ => Y_eqS rfl (by kernel_rfl) (by kernel_rfl) (eqvn50 _ x_474.kind x_474.worker x_474.from_ x_474.job x_474.refJob x_474.refTask x_474.err 4 1 0 0 0 1 0)) ?_
      refine wU [15] ?_
      refine wN ?_
      refine thenK_n <| ?_
      have hc_482 : (x_474.kind : Int) = 4 ∧ (x_474.worker : Int) = 1 ∧ (x_474.from_ : Int) = 0 ∧ (x_474.job : Int) = 0 ∧ (x_474.refJob : Int) = 0 ∧ (x_474.refTask : Int) = 1 ∧ (x_474.err : Int) = 0 := (by subst hxl_x_474; exact ⟨rfl, rfl, rfl, rfl, rfl, rfl, rfl⟩)
      refine cF _ (congrArg Bool.not (show (((x_474.kind : Int) == 4) && ((x_474.worker : Int) == 1) && ((x_474.from_ : Int) == 0) && ((x_474.job : Int) == 0) && ((x_474.refJob : Int) == 0) && ((x_474.refTask : Int) == 1) && ((x_474.err : Int) == 0)) = true from by simpa [and_assoc] using hc_482)) ?_
      refine skipE <| blockK_n <| thenK_n <| regionE <| pu3 <| nilO <| thenK_n <| ?_
      refine roundS ?_
      refine seqE <| seqE <| regionE <| pu8 <| nilO <| thenK_n <| cTt <| skipE <| thenK_n <| seqE <| blockE <| seqE <| regionE <| pu2 ?_
      have hS_483 := (hS_481.pick 2 rfl)
      refine cX Try.call23 (pf_step hR_467 hJ_468.i 2 0 hJ_468.t (by omega) (Sat.flat1 hS_483)) ?_
      rintro _ w_484 ⟨az_487, nz_488, kz_489, Z_490, M_491, rfl, hO_492, hR_493, hS_485⟩
      have hS_486 := Sat.unflat2 hS_485; have hn_az_487 := hO_492.len; have hl_az_487 := hO_492.le
      have hJ_494 := FJ.step (x := 2) (c := 0) hJ_468 (by omega)
      have he_495 : (stepF (prS r_3 r_7 2 2) 2 0).2 = ([(⟨4, 2, 0, 0, 1, 0, 0⟩ : Evt)], 0) := (pr_ev (x := r_3) (y := r_7) (m := 2) (w := 2) (by omega) (by omega) (by decide) (by decide) (f := 0) (by rw [if_neg hc_290]))
      have he_495_c := congrArg Prod.snd he_495; have he_495_l := congrArg Prod.fst he_495; dsimp only at he_495_c he_495_l; rw [he_495_c]; rw [he_495_l] at hO_492 hn_az_487
      obtain rfl : 1 = nz_488 := hn_az_487
      have hR_496 : FarmP p_227 (prS r_3 r_7 2 3) M_491 := by skip; exact hR_493
      have hJ_497 : FJ (prS r_3 r_7 2 3) 3 2 := by skip; exact hJ_494
      refine pu5 <| nilO <| thenK_n <| seqE <| regionE <| pu3 ?_
      refine sAlloc hS_486 Try.zeroValue48 ?_
      intro b_498 w_499 hS_500
      refine sT hS_500 0 0 (.agg #[.int .i64 0, .int .i64 2]) [.int .i64 0, .int .i64 2] #[.int .i64 0, .int .i64 2] Try.sizeOf48 ?_
      intro w_501 hS_502
      refine nilO <| thenK_n <| seqE <| seqE <| regionE <| pu3 <| nilO <| thenK_n <| cTt <| regionE <| pu6 ?_
      refine sT hS_502 0 0 (.agg #[.int .i64 1, .int .i64 0]) [.int .i64 1, .int .i64 0] #[.int .i64 1, .int .i64 0] Try.sizeOf48 ?_
      intro w_503 hS_504
      refine nilO <| thenK_n <| seqE ?_
      obtain ⟨x_505, b_506, o_507, hx_508, hp_509, hq_510, ha_511⟩ := OwnT.elem hO_492 0
      change _[0]? = _ at hx_508; change PtR _ _ (_ + 0 * _) _ at hp_509; change ElemAt _ _ _ _ _ (_ + 0 * _) at hq_510
      have hxl_x_505 : x_505 = (⟨4, 2, 0, 0, 1, 0, 0⟩ : Evt) := (Option.some.inj hx_508).symm
      refine drawE [] [(10, ⟨b_506, o_507 + 0 * 7 + 0, none⟩, .int .i64 x_505.kind), (10, ⟨b_506, o_507 + 0 * 7 + 1, none⟩, .int .i64 x_505.worker), (10, ⟨b_506, o_507 + 0 * 7 + 2, none⟩, .int .i64 x_505.from_), (10, ⟨b_506, o_507 + 0 * 7 + 3, none⟩, .int .i64 x_505.job), (10, ⟨b_506, o_507 + 0 * 7 + 4, none⟩, .int .i64 x_505.refJob), (10, ⟨b_506, o_507 + 0 * 7 + 5, none⟩, .int .i64 x_505.refTask), (10, ⟨b_506, o_507 + 0 * 7 + 6, none⟩, .int .i64 x_505.err), (12, ⟨b_498, 0, none⟩, .int .i64 1), (12, ⟨b_498, 1, none⟩, .int .i64 0)] [(true, [0, 1, 2, 3, 4, 5, 6, 7, 8]), (true, [9]), (true, [11]), (true, [10]), (true, [12]), (true, [13]), (true, [14]), (true, [15])] rfl (by kernel_rfl) ⟨.inr ((hp_509.up 1 rfl).cell hS_504 (k := 0) rfl), .inr ((hp_509.up 1 rfl).cell hS_504 (k := 1) rfl), .inr ((hp_509.up 1 rfl).cell hS_504 (k := 2) rfl), .inr ((hp_509.up 1 rfl).cell hS_504 (k := 3) rfl), .inr ((hp_509.up 1 rfl).cell hS_504 (k := 4) rfl), .inr ((hp_509.up 1 rfl).cell hS_504 (k := 5) rfl), .inr ((hp_509.up 1 rfl).cell hS_504 (k := 6) rfl), .inr (hS_504.cell 0 rfl rfl), .inr (hS_504.cell 0 rfl rfl), trivial⟩ ?_
      have hS_512 := hS_504.drew
      refine wU [0, 1, 2, 3, 4, 5, 6, 7, 8] ?_
      refine wY (.pointer (some ⟨b_506, o_507 + 0 * 7, none⟩)) rfl (fun w _ => Y_idx (a := az_487) (i := 0) (len := 1) (cap := kz_489) rfl Try.runUnderlying44 Try.sizeOf50 (by kernel_rfl) (by kernel_rfl) hq_510) ?_
      refine wU [11] ?_
      refine wY (.agg (encEvt x_505).toArray) rfl (fun w hF => Y_loadF rfl (Try.isAgg50 w) (Try.sizeOf50 w) (by kernel_rfl) rfl ⟨hF 0 _ _ rfl, hF 1 _ _ rfl, hF 2 _ _ rfl, hF 3 _ _ rfl, hF 4 _ _ rfl, hF 5 _ _ rfl, hF 6 _ _ rfl, trivial⟩) ?_
      refine wY (.agg #[.int .i64 1, .int .i64 0]) rfl (fun w hF => Y_loadF rfl (Try.isAgg48 w) (Try.sizeOf48 w) (by kernel_rfl) rfl ⟨hF 7 _ _ rfl, hF 8 _ _ rfl, trivial⟩) ?_
      refine wU [13] ?_
      refine wY (.bool (!(((x_505.kind : Int) == 4) && ((x_505.worker : Int) == 2) && ((x_505.from_ : Int) == 0) && ((x_505.job : Int) == 0) && ((x_505.refJob : Int) == 1) && ((x_505.refTask : Int) == 0) && ((x_505.err : Int) == 0)))) rfl (fun w _ => Y_eqS rfl (by kernel_rfl) (by kernel_rfl) (eqvn50 _ x_505.kind x_505.worker x_505.from_ x_505.job x_505.refJob x_505.refTask x_505.err 4 2 0 0 1 0 0)) ?_
      refine wU [15] ?_
      refine wN ?_
      refine thenK_n <| ?_
      have hc_513 : (x_505.kind : Int) = 4 ∧ (x_505.worker : Int) = 2 ∧ (x_505.from_ : Int) = 0 ∧ (x_505.job : Int) = 0 ∧ (x_505.refJob : Int) = 1 ∧ (x_505.refTask : Int) = 0 ∧ (x_505.err : Int) = 0 := (by subst hxl_x_505; exact ⟨rfl, rfl, rfl, rfl, rfl, rfl, rfl⟩)
      refine cF _ (congrArg Bool.not (show (((x_505.kind : Int) == 4) && ((x_505.worker : Int) == 2) && ((x_505.from_ : Int) == 0) && ((x_505.job : Int) == 0) && ((x_505.refJob : Int) == 1) && ((x_505.refTask : Int) == 0) && ((x_505.err : Int) == 0)) = true from by simpa [and_assoc] using hc_513)) ?_
      refine skipE <| blockK_n <| thenK_n <| regionE <| pu3 <| nilO <| thenK_n <| ?_
      refine roundS ?_
      refine seqE <| seqE <| regionE <| pu8 <| nilO <| thenK_n <| cTt <| skipE <| thenK_n <| seqE <| blockE <| seqE <| regionE <| pu2 ?_
      have hS_514 := (hS_512.pick 2 rfl)
      refine cX Try.call23 (pf_step hR_496 hJ_497.i 3 0 hJ_497.t (by omega) (Sat.flat1 hS_514)) ?_
      rintro _ w_515 ⟨az_518, nz_519, kz_520, Z_521, M_522, rfl, hO_523, hR_524, hS_516⟩
      have hS_517 := Sat.unflat2 hS_516; have hn_az_518 := hO_523.len; have hl_az_518 := hO_523.le
      have hJ_525 := FJ.step (x := 3) (c := 0) hJ_497 (by omega)
      have he_526 : (stepF (prS r_3 r_7 2 3) 3 0).2 = ([(⟨4, 3, 0, 0, 1, 1, 0⟩ : Evt)], 0) := (pr_ev (x := r_3) (y := r_7) (m := 2) (w := 3) (by omega) (by omega) (by decide) (by decide) (f := 0) (by rw [if_neg hc_290]))
      have he_526_c := congrArg Prod.snd he_526; have he_526_l := congrArg Prod.fst he_526; dsimp only at he_526_c he_526_l; rw [he_526_c]; rw [he_526_l] at hO_523 hn_az_518
      obtain rfl : 1 = nz_519 := hn_az_518
      have hR_527 : FarmP p_227 (prS r_3 r_7 2 4) M_522 := by skip; exact hR_524
      have hJ_528 : FJ (prS r_3 r_7 2 4) 4 2 := by skip; exact hJ_525
      refine pu5 <| nilO <| thenK_n <| seqE <| regionE <| pu3 ?_
      refine sAlloc hS_517 Try.zeroValue48 ?_
      intro b_529 w_530 hS_531
      refine sT hS_531 0 0 (.agg #[.int .i64 0, .int .i64 3]) [.int .i64 0, .int .i64 3] #[.int .i64 0, .int .i64 3] Try.sizeOf48 ?_
      intro w_532 hS_533
      refine nilO <| thenK_n <| seqE <| seqE <| regionE <| pu3 <| nilO <| thenK_n <| cTt <| regionE <| pu6 ?_
      refine sT hS_533 0 0 (.agg #[.int .i64 1, .int .i64 1]) [.int .i64 1, .int .i64 1] #[.int .i64 1, .int .i64 1] Try.sizeOf48 ?_
      intro w_534 hS_535
      refine nilO <| thenK_n <| seqE ?_
      obtain ⟨x_536, b_537, o_538, hx_539, hp_540, hq_541, ha_542⟩ := OwnT.elem hO_523 0
      change _[0]? = _ at hx_539; change PtR _ _ (_ + 0 * _) _ at hp_540; change ElemAt _ _ _ _ _ (_ + 0 * _) at hq_541
      have hxl_x_536 : x_536 = (⟨4, 3, 0, 0, 1, 1, 0⟩ : Evt) := (Option.some.inj hx_539).symm
      refine drawE [] [(10, ⟨b_537, o_538 + 0 * 7 + 0, none⟩, .int .i64 x_536.kind), (10, ⟨b_537, o_538 + 0 * 7 + 1, none⟩, .int .i64 x_536.worker), (10, ⟨b_537, o_538 + 0 * 7 + 2, none⟩, .int .i64 x_536.from_), (10, ⟨b_537, o_538 + 0 * 7 + 3, none⟩, .int .i64 x_536.job), (10, ⟨b_537, o_538 + 0 * 7 + 4, none⟩, .int .i64 x_536.refJob), (10, ⟨b_537, o_538 + 0 * 7 + 5, none⟩, .int .i64 x_536.refTask), (10, ⟨b_537, o_538 + 0 * 7 + 6, none⟩, .int .i64 x_536.err), (12, ⟨b_529, 0, none⟩, .int .i64 1), (12, ⟨b_529, 1, none⟩, .int .i64 1)] [(true, [0, 1, 2, 3, 4, 5, 6, 7, 8]), (true, [9]), (true, [11]), (true, [10]), (true, [12]), (true, [13]), (true, [14]), (true, [15])] rfl (by kernel_rfl) ⟨.inr ((hp_540.up 1 rfl).cell hS_535 (k := 0) rfl), .inr ((hp_540.up 1 rfl).cell hS_535 (k := 1) rfl), .inr ((hp_540.up 1 rfl).cell hS_535 (k := 2) rfl), .inr ((hp_540.up 1 rfl).cell hS_535 (k := 3) rfl), .inr ((hp_540.up 1 rfl).cell hS_535 (k := 4) rfl), .inr ((hp_540.up 1 rfl).cell hS_535 (k := 5) rfl), .inr ((hp_540.up 1 rfl).cell hS_535 (k := 6) rfl), .inr (hS_535.cell 0 rfl rfl), .inr (hS_535.cell 0 rfl rfl), trivial⟩ ?_
      have hS_543 := hS_535.drew
      refine wU [0, 1, 2, 3, 4, 5, 6, 7, 8] ?_
      refine wY (.pointer (some ⟨b_537, o_538 + 0 * 7, none⟩)) rfl (fun w _ => Y_idx (a := az_518) (i := 0) (len := 1) (cap := kz_520) rfl Try.runUnderlying44 Try.sizeOf50 (by kernel_rfl) (by kernel_rfl) hq_541) ?_
      refine wU [11] ?_
      refine wY (.agg (encEvt x_536).toArray) rfl (fun w hF => Y_loadF rfl (Try.isAgg50 w) (Try.sizeOf50 w) (by kernel_rfl) rfl ⟨hF 0 _ _ rfl, hF 1 _ _ rfl, hF 2 _ _ rfl, hF 3 _ _ rfl, hF 4 _ _ rfl, hF 5 _ _ rfl, hF 6 _ _ rfl, trivial⟩) ?_
      refine wY (.agg #[.int .i64 1, .int .i64 1]) rfl (fun w hF => Y_loadF rfl (Try.isAgg48 w) (Try.sizeOf48 w) (by kernel_rfl) rfl ⟨hF 7 _ _ rfl, hF 8 _ _ rfl, trivial⟩) ?_
      refine wU [13] ?_
      refine wY (.bool (!(((x_536.kind : Int) == 4) && ((x_536.worker : Int) == 3) && ((x_536.from_ : Int) == 0) && ((x_536.job : Int) == 0) && ((x_536.refJob : Int) == 1) && ((x_536.refTask : Int) == 1) && ((x_536.err : Int) == 0)))) rfl (fun w _ => Y_eqS rfl (by kernel_rfl) (by kernel_rfl) (eqvn50 _ x_536.kind x_536.worker x_536.from_ x_536.job x_536.refJob x_536.refTask x_536.err 4 3 0 0 1 1 0)) ?_
      refine wU [15] ?_
      refine wN ?_
      refine thenK_n <| ?_
      have hc_544 : (x_536.kind : Int) = 4 ∧ (x_536.worker : Int) = 3 ∧ (x_536.from_ : Int) = 0 ∧ (x_536.job : Int) = 0 ∧ (x_536.refJob : Int) = 1 ∧ (x_536.refTask : Int) = 1 ∧ (x_536.err : Int) = 0 := (by subst hxl_x_536; exact ⟨rfl, rfl, rfl, rfl, rfl, rfl, rfl⟩)
      refine cF _ (congrArg Bool.not (show (((x_536.kind : Int) == 4) && ((x_536.worker : Int) == 3) && ((x_536.from_ : Int) == 0) && ((x_536.job : Int) == 0) && ((x_536.refJob : Int) == 1) && ((x_536.refTask : Int) == 1) && ((x_536.err : Int) == 0)) = true from by simpa [and_assoc] using hc_544)) ?_
      refine skipE <| blockK_n <| thenK_n <| regionE <| pu3 <| nilO <| thenK_n <| ?_
      refine roundS ?_
      refine seqE <| seqE <| regionE <| pu8 <| nilO <| thenK_n <| cFf <| exitE <| thenK_x <| thenK_x <| blockK_x <| thenK_n <| seqE <| regionE ?_
      refine cX Try.call24 (l27_sane hS_543) ?_
      rintro _ w_545 ⟨rfl, hS_546⟩
      refine pu1 <| nilO <| thenK_n <| retE <| retT [.bool true] <| ?_
      have hS_547 := (hS_546.pick 13 rfl)
      have hS_548 := hS_547.dropAt 1 rfl
      have hS_549 := hS_548.dropAt 1 rfl
      have hS_550 := hS_549.dropAt 1 rfl
      have hS_551 := hS_550.dropAt 1 rfl
      have hS_552 := hS_551.dropAt 1 rfl
      have hS_553 := hS_552.dropAt 1 rfl
      have hS_554 := hS_553.dropAt 1 rfl
      have hS_555 := hS_554.dropAt 1 rfl
      have hS_556 := hS_555.dropAt 1 rfl
      have hS_557 := hS_556.dropAt 1 rfl
      have hS_558 := hS_557.dropAt 1 rfl
      have hS_559 := hS_558.dropAt 1 rfl
      have hS_560 := hS_559.dropAt 1 rfl
      exact ⟨rfl, hS_560⟩
    refine regionE <| pu1 <| nilO <| thenK_n <| seqE <| seqE <| regionE <| pu1 <| nilO <| thenK_n <| blockE ?_
    refine loopN 5 ?_
    refine roundS ?_
    refine seqE <| seqE <| regionE <| pu8 <| nilO <| thenK_n <| cTt <| skipE <| thenK_n <| seqE <| blockE <| seqE <| regionE <| pu2 ?_
    refine cX Try.call23 (pf_step hR_288 hJ_289.i 0 0 hJ_289.t (by omega) (Sat.flat1 hS_275)) ?_
    rintro _ w_291 ⟨az_294, nz_295, kz_296, Z_297, M_298, rfl, hO_299, hR_300, hS_292⟩
    have hS_293 := Sat.unflat2 hS_292; have hn_az_294 := hO_299.len; have hl_az_294 := hO_299.le
    have hJ_301 := FJ.step (x := 0) (c := 0) hJ_289 (by omega)
    have he_302 : (stepF (prS r_3 r_7 2 0) 0 0).2 = ([(⟨4, 0, 0, 0, 1, 0, 0⟩ : Evt)], 0) := (pr_ev (x := r_3) (y := r_7) (m := 2) (w := 0) (by omega) (by omega) (by decide) (by decide) (f := 1) (by rw [if_pos hc_290]))
    have he_302_c := congrArg Prod.snd he_302; have he_302_l := congrArg Prod.fst he_302; dsimp only at he_302_c he_302_l; rw [he_302_c]; rw [he_302_l] at hO_299 hn_az_294
    obtain rfl : 1 = nz_295 := hn_az_294
    have hR_303 : FarmP p_227 (prS r_3 r_7 2 1) M_298 := by skip; exact hR_300
    have hJ_304 : FJ (prS r_3 r_7 2 1) 1 2 := by skip; exact hJ_301
    refine pu5 <| nilO <| thenK_n <| seqE <| regionE <| pu3 ?_
    refine sAlloc hS_293 Try.zeroValue48 ?_
    intro b_305 w_306 hS_307
    refine sT hS_307 0 0 (.agg #[.int .i64 1, .int .i64 0]) [.int .i64 1, .int .i64 0] #[.int .i64 1, .int .i64 0] Try.sizeOf48 ?_
    intro w_308 hS_309
    refine nilO <| thenK_n <| seqE <| seqE <| regionE <| pu3 <| nilO <| thenK_n <| cFf <| skipE <| thenK_n <| seqE ?_
    obtain ⟨x_310, b_311, o_312, hx_313, hp_314, hq_315, ha_316⟩ := OwnT.elem hO_299 0
    change _[0]? = _ at hx_313; change PtR _ _ (_ + 0 * _) _ at hp_314; change ElemAt _ _ _ _ _ (_ + 0 * _) at hq_315
    have hxl_x_310 : x_310 = (⟨4, 0, 0, 0, 1, 0, 0⟩ : Evt) := (Option.some.inj hx_313).symm
    refine drawE [] [(10, ⟨b_311, o_312 + 0 * 7 + 0, none⟩, .int .i64 x_310.kind), (10, ⟨b_311, o_312 + 0 * 7 + 1, none⟩, .int .i64 x_310.worker), (10, ⟨b_311, o_312 + 0 * 7 + 2, none⟩, .int .i64 x_310.from_), (10, ⟨b_311, o_312 + 0 * 7 + 3, none⟩, .int .i64 x_310.job), (10, ⟨b_311, o_312 + 0 * 7 + 4, none⟩, .int .i64 x_310.refJob), (10, ⟨b_311, o_312 + 0 * 7 + 5, none⟩, .int .i64 x_310.refTask), (10, ⟨b_311, o_312 + 0 * 7 + 6, none⟩, .int .i64 x_310.err), (12, ⟨b_305, 0, none⟩, .int .i64 1), (12, ⟨b_305, 1, none⟩, .int .i64 0)] [(true, [0, 1, 2, 3, 4, 5, 6, 7, 8]), (true, [9]), (true, [11]), (true, [10]), (true, [12]), (true, [13]), (true, [14]), (true, [15])] rfl (by kernel_rfl) ⟨.inr ((hp_314.up 1 rfl).cell hS_309 (k := 0) rfl), .inr ((hp_314.up 1 rfl).cell hS_309 (k := 1) rfl), .inr ((hp_314.up 1 rfl).cell hS_309 (k := 2) rfl), .inr ((hp_314.up 1 rfl).cell hS_309 (k := 3) rfl), .inr ((hp_314.up 1 rfl).cell hS_309 (k := 4) rfl), .inr ((hp_314.up 1 rfl).cell hS_309 (k := 5) rfl), .inr ((hp_314.up 1 rfl).cell hS_309 (k := 6) rfl), .inr (hS_309.cell 0 rfl rfl), .inr (hS_309.cell 0 rfl rfl), trivial⟩ ?_
    have hS_317 := hS_309.drew
    refine wU [0, 1, 2, 3, 4, 5, 6, 7, 8] ?_
    refine wY (.pointer (some ⟨b_311, o_312 + 0 * 7, none⟩)) rfl (fun w _ => Y_idx (a := az_294) (i := 0) (len := 1) (cap := kz_296) rfl Try.runUnderlying44 Try.sizeOf50 (by kernel_rfl) (by kernel_rfl) hq_315) ?_
    refine wU [11] ?_
    refine wY (.agg (encEvt x_310).toArray) rfl (fun w hF => Y_loadF rfl (Try.isAgg50 w) (Try.sizeOf50 w) (by kernel_rfl) rfl ⟨hF 0 _ _ rfl, hF 1 _ _ rfl, hF 2 _ _ rfl, hF 3 _ _ rfl, hF 4 _ _ rfl, hF 5 _ _ rfl, hF 6 _ _ rfl, trivial⟩) ?_
    refine wY (.agg #[.int .i64 1, .int .i64 0]) rfl (fun w hF => Y_loadF rfl (Try.isAgg48 w) (Try.sizeOf48 w) (by kernel_rfl) rfl ⟨hF 7 _ _ rfl, hF 8 _ _ rfl, trivial⟩) ?_
    refine wU [13] ?_
    refine wY (.bool (!(((x_310.kind : Int) == 4) && ((x_310.worker : Int) == 0) && ((x_310.from_ : Int) == 0) && ((x_310.job : Int) == 0) && ((x_310.refJob : Int) == 1) && ((x_310.refTask : Int) == 0) && ((x_310.err : Int) == 0)))) rfl (fun w _ => Y_eqS rfl (by kernel_rfl) (by kernel_rfl) (eqvn50 _ x_310.kind x_310.worker x_310.from_ x_310.job x_310.refJob x_310.refTask x_310.err 4 0 0 0 1 0 0)) ?_
    refine wU [15] ?_
    refine wN ?_
    refine thenK_n <| ?_
    have hc_318 : (x_310.kind : Int) = 4 ∧ (x_310.worker : Int) = 0 ∧ (x_310.from_ : Int) = 0 ∧ (x_310.job : Int) = 0 ∧ (x_310.refJob : Int) = 1 ∧ (x_310.refTask : Int) = 0 ∧ (x_310.err : Int) = 0 := (by subst hxl_x_310; exact ⟨rfl, rfl, rfl, rfl, rfl, rfl, rfl⟩)
    refine cF _ (congrArg Bool.not (show (((x_310.kind : Int) == 4) && ((x_310.worker : Int) == 0) && ((x_310.from_ : Int) == 0) && ((x_310.job : Int) == 0) && ((x_310.refJob : Int) == 1) && ((x_310.refTask : Int) == 0) && ((x_310.err : Int) == 0)) = true from by simpa [and_assoc] using hc_318)) ?_
    refine skipE <| blockK_n <| thenK_n <| regionE <| pu3 <| nilO <| thenK_n <| ?_
    refine roundS ?_
    refine seqE <| seqE <| regionE <| pu8 <| nilO <| thenK_n <| cTt <| skipE <| thenK_n <| seqE <| blockE <| seqE <| regionE <| pu2 ?_
    have hS_319 := (hS_317.pick 2 rfl)
    refine cX Try.call23 (pf_step hR_303 hJ_304.i 1 0 hJ_304.t (by omega) (Sat.flat1 hS_319)) ?_
    rintro _ w_320 ⟨az_323, nz_324, kz_325, Z_326, M_327, rfl, hO_328, hR_329, hS_321⟩
    have hS_322 := Sat.unflat2 hS_321; have hn_az_323 := hO_328.len; have hl_az_323 := hO_328.le
    have hJ_330 := FJ.step (x := 1) (c := 0) hJ_304 (by omega)
    have he_331 : (stepF (prS r_3 r_7 2 1) 1 0).2 = ([(⟨4, 1, 0, 0, 1, 1, 0⟩ : Evt)], 0) := (pr_ev (x := r_3) (y := r_7) (m := 2) (w := 1) (by omega) (by omega) (by decide) (by decide) (f := 1) (by rw [if_pos hc_290]))
    have he_331_c := congrArg Prod.snd he_331; have he_331_l := congrArg Prod.fst he_331; dsimp only at he_331_c he_331_l; rw [he_331_c]; rw [he_331_l] at hO_328 hn_az_323
    obtain rfl : 1 = nz_324 := hn_az_323
    have hR_332 : FarmP p_227 (prS r_3 r_7 2 2) M_327 := by skip; exact hR_329
    have hJ_333 : FJ (prS r_3 r_7 2 2) 2 2 := by skip; exact hJ_330
    refine pu5 <| nilO <| thenK_n <| seqE <| regionE <| pu3 ?_
    refine sAlloc hS_322 Try.zeroValue48 ?_
    intro b_334 w_335 hS_336
    refine sT hS_336 0 0 (.agg #[.int .i64 1, .int .i64 1]) [.int .i64 1, .int .i64 1] #[.int .i64 1, .int .i64 1] Try.sizeOf48 ?_
    intro w_337 hS_338
    refine nilO <| thenK_n <| seqE <| seqE <| regionE <| pu3 <| nilO <| thenK_n <| cFf <| skipE <| thenK_n <| seqE ?_
    obtain ⟨x_339, b_340, o_341, hx_342, hp_343, hq_344, ha_345⟩ := OwnT.elem hO_328 0
    change _[0]? = _ at hx_342; change PtR _ _ (_ + 0 * _) _ at hp_343; change ElemAt _ _ _ _ _ (_ + 0 * _) at hq_344
    have hxl_x_339 : x_339 = (⟨4, 1, 0, 0, 1, 1, 0⟩ : Evt) := (Option.some.inj hx_342).symm
    refine drawE [] [(10, ⟨b_340, o_341 + 0 * 7 + 0, none⟩, .int .i64 x_339.kind), (10, ⟨b_340, o_341 + 0 * 7 + 1, none⟩, .int .i64 x_339.worker), (10, ⟨b_340, o_341 + 0 * 7 + 2, none⟩, .int .i64 x_339.from_), (10, ⟨b_340, o_341 + 0 * 7 + 3, none⟩, .int .i64 x_339.job), (10, ⟨b_340, o_341 + 0 * 7 + 4, none⟩, .int .i64 x_339.refJob), (10, ⟨b_340, o_341 + 0 * 7 + 5, none⟩, .int .i64 x_339.refTask), (10, ⟨b_340, o_341 + 0 * 7 + 6, none⟩, .int .i64 x_339.err), (12, ⟨b_334, 0, none⟩, .int .i64 1), (12, ⟨b_334, 1, none⟩, .int .i64 1)] [(true, [0, 1, 2, 3, 4, 5, 6, 7, 8]), (true, [9]), (true, [11]), (true, [10]), (true, [12]), (true, [13]), (true, [14]), (true, [15])] rfl (by kernel_rfl) ⟨.inr ((hp_343.up 1 rfl).cell hS_338 (k := 0) rfl), .inr ((hp_343.up 1 rfl).cell hS_338 (k := 1) rfl), .inr ((hp_343.up 1 rfl).cell hS_338 (k := 2) rfl), .inr ((hp_343.up 1 rfl).cell hS_338 (k := 3) rfl), .inr ((hp_343.up 1 rfl).cell hS_338 (k := 4) rfl), .inr ((hp_343.up 1 rfl).cell hS_338 (k := 5) rfl), .inr ((hp_343.up 1 rfl).cell hS_338 (k := 6) rfl), .inr (hS_338.cell 0 rfl rfl), .inr (hS_338.cell 0 rfl rfl), trivial⟩ ?_
    have hS_346 := hS_338.drew
    refine wU [0, 1, 2, 3, 4, 5, 6, 7, 8] ?_
    refine wY (.pointer (some ⟨b_340, o_341 + 0 * 7, none⟩)) rfl (fun w _ => Y_idx (a := az_323) (i := 0) (len := 1) (cap := kz_325) rfl Try.runUnderlying44 Try.sizeOf50 (by kernel_rfl) (by kernel_rfl) hq_344) ?_
    refine wU [11] ?_
    refine wY (.agg (encEvt x_339).toArray) rfl (fun w hF => Y_loadF rfl (Try.isAgg50 w) (Try.sizeOf50 w) (by kernel_rfl) rfl ⟨hF 0 _ _ rfl, hF 1 _ _ rfl, hF 2 _ _ rfl, hF 3 _ _ rfl, hF 4 _ _ rfl, hF 5 _ _ rfl, hF 6 _ _ rfl, trivial⟩) ?_
    refine wY (.agg #[.int .i64 1, .int .i64 1]) rfl (fun w hF => Y_loadF rfl (Try.isAgg48 w) (Try.sizeOf48 w) (by kernel_rfl) rfl ⟨hF 7 _ _ rfl, hF 8 _ _ rfl, trivial⟩) ?_
    refine wU [13] ?_
    refine wY (.bool (!(((x_339.kind : Int) == 4) && ((x_339.worker : Int) == 1) && ((x_339.from_ : Int) == 0) && ((x_339.job : Int) == 0) && ((x_339.refJob : Int) == 1) && ((x_339.refTask : Int) == 1) && ((x_339.err : Int) == 0)))) rfl (fun w _ => Y_eqS rfl (by kernel_rfl) (by kernel_rfl) (eqvn50 _ x_339.kind x_339.worker x_339.from_ x_339.job x_339.refJob x_339.refTask x_339.err 4 1 0 0 1 1 0)) ?_
    refine wU [15] ?_
    refine wN ?_
    refine thenK_n <| ?_
    have hc_347 : (x_339.kind : Int) = 4 ∧ (x_339.worker : Int) = 1 ∧ (x_339.from_ : Int) = 0 ∧ (x_339.job : Int) = 0 ∧ (x_339.refJob : Int) = 1 ∧ (x_339.refTask : Int) = 1 ∧ (x_339.err : Int) = 0 := (by subst hxl_x_339; exact ⟨rfl, rfl, rfl, rfl, rfl, rfl, rfl⟩)
    refine cF _ (congrArg Bool.not (show (((x_339.kind : Int) == 4) && ((x_339.worker : Int) == 1) && ((x_339.from_ : Int) == 0) && ((x_339.job : Int) == 0) && ((x_339.refJob : Int) == 1) && ((x_339.refTask : Int) == 1) && ((x_339.err : Int) == 0)) = true from by simpa [and_assoc] using hc_347)) ?_
    refine skipE <| blockK_n <| thenK_n <| regionE <| pu3 <| nilO <| thenK_n <| ?_
    refine roundS ?_
    refine seqE <| seqE <| regionE <| pu8 <| nilO <| thenK_n <| cTt <| skipE <| thenK_n <| seqE <| blockE <| seqE <| regionE <| pu2 ?_
    have hS_348 := (hS_346.pick 2 rfl)
    refine cX Try.call23 (pf_step hR_332 hJ_333.i 2 0 hJ_333.t (by omega) (Sat.flat1 hS_348)) ?_
    rintro _ w_349 ⟨az_352, nz_353, kz_354, Z_355, M_356, rfl, hO_357, hR_358, hS_350⟩
    have hS_351 := Sat.unflat2 hS_350; have hn_az_352 := hO_357.len; have hl_az_352 := hO_357.le
    have hJ_359 := FJ.step (x := 2) (c := 0) hJ_333 (by omega)
    have he_360 : (stepF (prS r_3 r_7 2 2) 2 0).2 = ([(⟨4, 2, 0, 0, 0, 0, 0⟩ : Evt)], 0) := (pr_ev (x := r_3) (y := r_7) (m := 2) (w := 2) (by omega) (by omega) (by decide) (by decide) (f := 1) (by rw [if_pos hc_290]))
    have he_360_c := congrArg Prod.snd he_360; have he_360_l := congrArg Prod.fst he_360; dsimp only at he_360_c he_360_l; rw [he_360_c]; rw [he_360_l] at hO_357 hn_az_352
    obtain rfl : 1 = nz_353 := hn_az_352
    have hR_361 : FarmP p_227 (prS r_3 r_7 2 3) M_356 := by skip; exact hR_358
    have hJ_362 : FJ (prS r_3 r_7 2 3) 3 2 := by skip; exact hJ_359
    refine pu5 <| nilO <| thenK_n <| seqE <| regionE <| pu3 ?_
    refine sAlloc hS_351 Try.zeroValue48 ?_
    intro b_363 w_364 hS_365
    refine sT hS_365 0 0 (.agg #[.int .i64 1, .int .i64 2]) [.int .i64 1, .int .i64 2] #[.int .i64 1, .int .i64 2] Try.sizeOf48 ?_
    intro w_366 hS_367
    refine nilO <| thenK_n <| seqE <| seqE <| regionE <| pu3 <| nilO <| thenK_n <| cTt <| regionE <| pu6 ?_
    refine sT hS_367 0 0 (.agg #[.int .i64 0, .int .i64 0]) [.int .i64 0, .int .i64 0] #[.int .i64 0, .int .i64 0] Try.sizeOf48 ?_
    intro w_368 hS_369
    refine nilO <| thenK_n <| seqE ?_
    obtain ⟨x_370, b_371, o_372, hx_373, hp_374, hq_375, ha_376⟩ := OwnT.elem hO_357 0
    change _[0]? = _ at hx_373; change PtR _ _ (_ + 0 * _) _ at hp_374; change ElemAt _ _ _ _ _ (_ + 0 * _) at hq_375
    have hxl_x_370 : x_370 = (⟨4, 2, 0, 0, 0, 0, 0⟩ : Evt) := (Option.some.inj hx_373).symm
    refine drawE [] [(10, ⟨b_371, o_372 + 0 * 7 + 0, none⟩, .int .i64 x_370.kind), (10, ⟨b_371, o_372 + 0 * 7 + 1, none⟩, .int .i64 x_370.worker), (10, ⟨b_371, o_372 + 0 * 7 + 2, none⟩, .int .i64 x_370.from_), (10, ⟨b_371, o_372 + 0 * 7 + 3, none⟩, .int .i64 x_370.job), (10, ⟨b_371, o_372 + 0 * 7 + 4, none⟩, .int .i64 x_370.refJob), (10, ⟨b_371, o_372 + 0 * 7 + 5, none⟩, .int .i64 x_370.refTask), (10, ⟨b_371, o_372 + 0 * 7 + 6, none⟩, .int .i64 x_370.err), (12, ⟨b_363, 0, none⟩, .int .i64 0), (12, ⟨b_363, 1, none⟩, .int .i64 0)] [(true, [0, 1, 2, 3, 4, 5, 6, 7, 8]), (true, [9]), (true, [11]), (true, [10]), (true, [12]), (true, [13]), (true, [14]), (true, [15])] rfl (by kernel_rfl) ⟨.inr ((hp_374.up 1 rfl).cell hS_369 (k := 0) rfl), .inr ((hp_374.up 1 rfl).cell hS_369 (k := 1) rfl), .inr ((hp_374.up 1 rfl).cell hS_369 (k := 2) rfl), .inr ((hp_374.up 1 rfl).cell hS_369 (k := 3) rfl), .inr ((hp_374.up 1 rfl).cell hS_369 (k := 4) rfl), .inr ((hp_374.up 1 rfl).cell hS_369 (k := 5) rfl), .inr ((hp_374.up 1 rfl).cell hS_369 (k := 6) rfl), .inr (hS_369.cell 0 rfl rfl), .inr (hS_369.cell 0 rfl rfl), trivial⟩ ?_
    have hS_377 := hS_369.drew
    refine wU [0, 1, 2, 3, 4, 5, 6, 7, 8] ?_
    refine wY (.pointer (some ⟨b_371, o_372 + 0 * 7, none⟩)) rfl (fun w _ => Y_idx (a := az_352) (i := 0) (len := 1) (cap := kz_354) rfl Try.runUnderlying44 Try.sizeOf50 (by kernel_rfl) (by kernel_rfl) hq_375) ?_
    refine wU [11] ?_
    refine wY (.agg (encEvt x_370).toArray) rfl (fun w hF => Y_loadF rfl (Try.isAgg50 w) (Try.sizeOf50 w) (by kernel_rfl) rfl ⟨hF 0 _ _ rfl, hF 1 _ _ rfl, hF 2 _ _ rfl, hF 3 _ _ rfl, hF 4 _ _ rfl, hF 5 _ _ rfl, hF 6 _ _ rfl, trivial⟩) ?_
    refine wY (.agg #[.int .i64 0, .int .i64 0]) rfl (fun w hF => Y_loadF rfl (Try.isAgg48 w) (Try.sizeOf48 w) (by kernel_rfl) rfl ⟨hF 7 _ _ rfl, hF 8 _ _ rfl, trivial⟩) ?_
    refine wU [13] ?_
    refine wY (.bool (!(((x_370.kind : Int) == 4) && ((x_370.worker : Int) == 2) && ((x_370.from_ : Int) == 0) && ((x_370.job : Int) == 0) && ((x_370.refJob : Int) == 0) && ((x_370.refTask : Int) == 0) && ((x_370.err : Int) == 0)))) rfl (fun w _ => Y_eqS rfl (by kernel_rfl) (by kernel_rfl) (eqvn50 _ x_370.kind x_370.worker x_370.from_ x_370.job x_370.refJob x_370.refTask x_370.err 4 2 0 0 0 0 0)) ?_
    refine wU [15] ?_
    refine wN ?_
    refine thenK_n <| ?_
    have hc_378 : (x_370.kind : Int) = 4 ∧ (x_370.worker : Int) = 2 ∧ (x_370.from_ : Int) = 0 ∧ (x_370.job : Int) = 0 ∧ (x_370.refJob : Int) = 0 ∧ (x_370.refTask : Int) = 0 ∧ (x_370.err : Int) = 0 := (by subst hxl_x_370; exact ⟨rfl, rfl, rfl, rfl, rfl, rfl, rfl⟩)
    refine cF _ (congrArg Bool.not (show (((x_370.kind : Int) == 4) && ((x_370.worker : Int) == 2) && ((x_370.from_ : Int) == 0) && ((x_370.job : Int) == 0) && ((x_370.refJob : Int) == 0) && ((x_370.refTask : Int) == 0) && ((x_370.err : Int) == 0)) = true from by simpa [and_assoc] using hc_378)) ?_
    refine skipE <| blockK_n <| thenK_n <| regionE <| pu3 <| nilO <| thenK_n <| ?_
    refine roundS ?_
    refine seqE <| seqE <| regionE <| pu8 <| nilO <| thenK_n <| cTt <| skipE <| thenK_n <| seqE <| blockE <| seqE <| regionE <| pu2 ?_
    have hS_379 := (hS_377.pick 2 rfl)
    refine cX Try.call23 (pf_step hR_361 hJ_362.i 3 0 hJ_362.t (by omega) (Sat.flat1 hS_379)) ?_
    rintro _ w_380 ⟨az_383, nz_384, kz_385, Z_386, M_387, rfl, hO_388, hR_389, hS_381⟩
    have hS_382 := Sat.unflat2 hS_381; have hn_az_383 := hO_388.len; have hl_az_383 := hO_388.le
    have hJ_390 := FJ.step (x := 3) (c := 0) hJ_362 (by omega)
    have he_391 : (stepF (prS r_3 r_7 2 3) 3 0).2 = ([(⟨4, 3, 0, 0, 0, 1, 0⟩ : Evt)], 0) := (pr_ev (x := r_3) (y := r_7) (m := 2) (w := 3) (by omega) (by omega) (by decide) (by decide) (f := 1) (by rw [if_pos hc_290]))
    have he_391_c := congrArg Prod.snd he_391; have he_391_l := congrArg Prod.fst he_391; dsimp only at he_391_c he_391_l; rw [he_391_c]; rw [he_391_l] at hO_388 hn_az_383
    obtain rfl : 1 = nz_384 := hn_az_383
    have hR_392 : FarmP p_227 (prS r_3 r_7 2 4) M_387 := by skip; exact hR_389
    have hJ_393 : FJ (prS r_3 r_7 2 4) 4 2 := by skip; exact hJ_390
    refine pu5 <| nilO <| thenK_n <| seqE <| regionE <| pu3 ?_
    refine sAlloc hS_382 Try.zeroValue48 ?_
    intro b_394 w_395 hS_396
    refine sT hS_396 0 0 (.agg #[.int .i64 1, .int .i64 3]) [.int .i64 1, .int .i64 3] #[.int .i64 1, .int .i64 3] Try.sizeOf48 ?_
    intro w_397 hS_398
    refine nilO <| thenK_n <| seqE <| seqE <| regionE <| pu3 <| nilO <| thenK_n <| cTt <| regionE <| pu6 ?_
    refine sT hS_398 0 0 (.agg #[.int .i64 0, .int .i64 1]) [.int .i64 0, .int .i64 1] #[.int .i64 0, .int .i64 1] Try.sizeOf48 ?_
    intro w_399 hS_400
    refine nilO <| thenK_n <| seqE ?_
    obtain ⟨x_401, b_402, o_403, hx_404, hp_405, hq_406, ha_407⟩ := OwnT.elem hO_388 0
    change _[0]? = _ at hx_404; change PtR _ _ (_ + 0 * _) _ at hp_405; change ElemAt _ _ _ _ _ (_ + 0 * _) at hq_406
    have hxl_x_401 : x_401 = (⟨4, 3, 0, 0, 0, 1, 0⟩ : Evt) := (Option.some.inj hx_404).symm
    refine drawE [] [(10, ⟨b_402, o_403 + 0 * 7 + 0, none⟩, .int .i64 x_401.kind), (10, ⟨b_402, o_403 + 0 * 7 + 1, none⟩, .int .i64 x_401.worker), (10, ⟨b_402, o_403 + 0 * 7 + 2, none⟩, .int .i64 x_401.from_), (10, ⟨b_402, o_403 + 0 * 7 + 3, none⟩, .int .i64 x_401.job), (10, ⟨b_402, o_403 + 0 * 7 + 4, none⟩, .int .i64 x_401.refJob), (10, ⟨b_402, o_403 + 0 * 7 + 5, none⟩, .int .i64 x_401.refTask), (10, ⟨b_402, o_403 + 0 * 7 + 6, none⟩, .int .i64 x_401.err), (12, ⟨b_394, 0, none⟩, .int .i64 0), (12, ⟨b_394, 1, none⟩, .int .i64 1)] [(true, [0, 1, 2, 3, 4, 5, 6, 7, 8]), (true, [9]), (true, [11]), (true, [10]), (true, [12]), (true, [13]), (true, [14]), (true, [15])] rfl (by kernel_rfl) ⟨.inr ((hp_405.up 1 rfl).cell hS_400 (k := 0) rfl), .inr ((hp_405.up 1 rfl).cell hS_400 (k := 1) rfl), .inr ((hp_405.up 1 rfl).cell hS_400 (k := 2) rfl), .inr ((hp_405.up 1 rfl).cell hS_400 (k := 3) rfl), .inr ((hp_405.up 1 rfl).cell hS_400 (k := 4) rfl), .inr ((hp_405.up 1 rfl).cell hS_400 (k := 5) rfl), .inr ((hp_405.up 1 rfl).cell hS_400 (k := 6) rfl), .inr (hS_400.cell 0 rfl rfl), .inr (hS_400.cell 0 rfl rfl), trivial⟩ ?_
    have hS_408 := hS_400.drew
    refine wU [0, 1, 2, 3, 4, 5, 6, 7, 8] ?_
    refine wY (.pointer (some ⟨b_402, o_403 + 0 * 7, none⟩)) rfl (fun w _ => Y_idx (a := az_383) (i := 0) (len := 1) (cap := kz_385) rfl Try.runUnderlying44 Try.sizeOf50 (by kernel_rfl) (by kernel_rfl) hq_406) ?_
    refine wU [11] ?_
    refine wY (.agg (encEvt x_401).toArray) rfl (fun w hF => Y_loadF rfl (Try.isAgg50 w) (Try.sizeOf50 w) (by kernel_rfl) rfl ⟨hF 0 _ _ rfl, hF 1 _ _ rfl, hF 2 _ _ rfl, hF 3 _ _ rfl, hF 4 _ _ rfl, hF 5 _ _ rfl, hF 6 _ _ rfl, trivial⟩) ?_
    refine wY (.agg #[.int .i64 0, .int .i64 1]) rfl (fun w hF => Y_loadF rfl (Try.isAgg48 w) (Try.sizeOf48 w) (by kernel_rfl) rfl ⟨hF 7 _ _ rfl, hF 8 _ _ rfl, trivial⟩) ?_
    refine wU [13] ?_
    refine wY (.bool (!(((x_401.kind : Int) == 4) && ((x_401.worker : Int) == 3) && ((x_401.from_ : Int) == 0) && ((x_401.job : Int) == 0) && ((x_401.refJob : Int) == 0) && ((x_401.refTask : Int) == 1) && ((x_401.err : Int) == 0)))) rfl (fun w _ => Y_eqS rfl (by kernel_rfl) (by kernel_rfl) (eqvn50 _ x_401.kind x_401.worker x_401.from_ x_401.job x_401.refJob x_401.refTask x_401.err 4 3 0 0 0 1 0)) ?_
    refine wU [15] ?_
    refine wN ?_
    refine thenK_n <| ?_
    have hc_409 : (x_401.kind : Int) = 4 ∧ (x_401.worker : Int) = 3 ∧ (x_401.from_ : Int) = 0 ∧ (x_401.job : Int) = 0 ∧ (x_401.refJob : Int) = 0 ∧ (x_401.refTask : Int) = 1 ∧ (x_401.err : Int) = 0 := (by subst hxl_x_401; exact ⟨rfl, rfl, rfl, rfl, rfl, rfl, rfl⟩)
    refine cF _ (congrArg Bool.not (show (((x_401.kind : Int) == 4) && ((x_401.worker : Int) == 3) && ((x_401.from_ : Int) == 0) && ((x_401.job : Int) == 0) && ((x_401.refJob : Int) == 0) && ((x_401.refTask : Int) == 1) && ((x_401.err : Int) == 0)) = true from by simpa [and_assoc] using hc_409)) ?_
    refine skipE <| blockK_n <| thenK_n <| regionE <| pu3 <| nilO <| thenK_n <| ?_
    refine roundS ?_
    refine seqE <| seqE <| regionE <| pu8 <| nilO <| thenK_n <| cFf <| exitE <| thenK_x <| thenK_x <| blockK_x <| thenK_n <| seqE <| regionE ?_
    refine cX Try.call24 (l27_sane hS_408) ?_
    rintro _ w_410 ⟨rfl, hS_411⟩
    refine pu1 <| nilO <| thenK_n <| retE <| retT [.bool true] <| ?_
    have hS_412 := (hS_411.pick 13 rfl)
    have hS_413 := hS_412.dropAt 1 rfl
    have hS_414 := hS_413.dropAt 1 rfl
    have hS_415 := hS_414.dropAt 1 rfl
    have hS_416 := hS_415.dropAt 1 rfl
    have hS_417 := hS_416.dropAt 1 rfl
    have hS_418 := hS_417.dropAt 1 rfl
    have hS_419 := hS_418.dropAt 1 rfl
    have hS_420 := hS_419.dropAt 1 rfl
    have hS_421 := hS_420.dropAt 1 rfl
    have hS_422 := hS_421.dropAt 1 rfl
    have hS_423 := hS_422.dropAt 1 rfl
    have hS_424 := hS_423.dropAt 1 rfl
    have hS_425 := hS_424.dropAt 1 rfl
    exact ⟨rfl, hS_425⟩
  refine pu4 <| nilO <| thenK_n <| seqE <| regionE ?_
  refine cX Try.call20 (l27_config 4 hS_10) ?_
  rintro _ w_561 ⟨rfl, hS_562⟩
  have hv_568 : validCfg (⟨4, 4, 4, 1024, 2, 100, 100, 8⟩ : Cfg) = 0 := by decide
  refine cX Try.call19 (pf_new (⟨4, 4, 4, 1024, 2, 100, 100, 8⟩ : Cfg) hv_568 hS_562) ?_
  rintro _ w_563 ⟨p_565, M_566, rfl, hR_567, hS_564⟩
  have hJ_569 := FJ.new hv_568
  refine pu5 <| nilO <| thenK_n <| seqE <| seqE <| regionE <| pu9 <| gY ?_
  refine cX Try.call22 (l27_single3 hS_564) ?_
  rintro _ w_570 ⟨az_572, nz_573, kz_574, zs_575, C_576, G_577, rfl, hO_578, hD_579, hV_580, hS_571⟩
  have hn_az_572 := hO_578.len; have hl_az_572 := hO_578.le
  refine pu1 <| gY ?_
  have hS_581 := (hS_571.pick 2 rfl)
  have p_588 : 0 ≤ (0 : Int) ∧ (0 : Int) < 64 := by decide
  have p_591 : 0 ≤ r_3 ∧ r_3 < 4 := by omega
  have p_592 : validC zs_575 = 0 := by rw [valid_v, hV_580]; decide
  have p_593 : ∀ z ∈ zs_575, z.scratch ≤ (newF (⟨4, 4, 4, 1024, 2, 100, 100, 8⟩ : Cfg)).cfg.arena := scr_v (n := 1024) (by rw [hV_580]; decide)
  have p_594 : 0 ≤ (newF (⟨4, 4, 4, 1024, 2, 100, 100, 8⟩ : Cfg)).cfg.tasks ∧ (newF (⟨4, 4, 4, 1024, 2, 100, 100, 8⟩ : Cfg)).cfg.tasks ≤ 4096 := by show (0 : Int) ≤ 100 ∧ (100 : Int) ≤ 4096; decide
  have p_595 : ((zs_575.length : Nat) : Int) ≤ (newF (⟨4, 4, 4, 1024, 2, 100, 100, 8⟩ : Cfg)).cfg.tasks - loadL (newF (⟨4, 4, 4, 1024, 2, 100, 100, 8⟩ : Cfg)).jobs := by rw [len_v hV_580]; decide
  have p_596 : zs_575.length ≤ 12 := by rw [len_v hV_580]; decide
  have p_589 : (newF (⟨4, 4, 4, 1024, 2, 100, 100, 8⟩ : Cfg)).jobs[((0 : Int)).toNat]? = some JS.zero := rfl
  have p_590 : JS.added JS.zero = false := rfl
  refine cX Try.call21 (pf_add hR_567 hJ_569.i 0 az_572 nz_573 kz_574 zs_575 r_3 (RdT.flat (hO_578.rdAt 0 (by rfl))) (fun z hz => (hD_579 z hz).of_mem (mem_flat1 1 (by rfl))) p_588 p_589 p_590 p_591 p_592 p_593 p_594 p_595  (Sat.flat1 hS_581)) ?_
  rintro _ w_582 ⟨M_585, rfl, hR_586, hS_583⟩
  have hS_584 := Sat.unflat1 hS_583
  have hJ_587 := hJ_569.add p_588 p_589 p_590 p_591 p_592 p_593 p_595 p_596
  have hR_597 : FarmP p_565 (addV (newF (cfgF 4)) 0 (singleV 3) r_3) M_585 := by rw [show addV (newF (cfgF 4)) 0 (singleV 3) r_3 = addF (newF (⟨4, 4, 4, 1024, 2, 100, 100, 8⟩ : Cfg)) 0 zs_575 r_3 from by rw [addF_v, hV_580]; rfl]; exact hR_586
  have hJ_598 : FJ (addV (newF (cfgF 4)) 0 (singleV 3) r_3) 0 1 := by rw [show addV (newF (cfgF 4)) 0 (singleV 3) r_3 = addF (newF (⟨4, 4, 4, 1024, 2, 100, 100, 8⟩ : Cfg)) 0 zs_575 r_3 from by rw [addF_v, hV_580]; rfl]; exact hJ_587
  refine pu5 <| gY ?_
  refine cX Try.call22 (l27_single3 hS_584) ?_
  rintro _ w_599 ⟨az_601, nz_602, kz_603, zs_604, C_605, G_606, rfl, hO_607, hD_608, hV_609, hS_600⟩
  have hn_az_601 := hO_607.len; have hl_az_601 := hO_607.le
  refine pu1 <| gY ?_
  have hS_610 := (hS_600.pick 2 rfl)
  have p_617 : 0 ≤ (1 : Int) ∧ (1 : Int) < 64 := by decide
  have p_620 : 0 ≤ r_7 ∧ r_7 < 4 := by omega
  have p_621 : validC zs_604 = 0 := by rw [valid_v, hV_609]; decide
  have p_622 : ∀ z ∈ zs_604, z.scratch ≤ (addV (newF (cfgF 4)) 0 (singleV 3) r_3).cfg.arena := scr_v (n := 1024) (by rw [hV_609]; decide)
  have p_623 : 0 ≤ (addV (newF (cfgF 4)) 0 (singleV 3) r_3).cfg.tasks ∧ (addV (newF (cfgF 4)) 0 (singleV 3) r_3).cfg.tasks ≤ 4096 := by show (0 : Int) ≤ 100 ∧ (100 : Int) ≤ 4096; decide
  have p_624 : ((zs_604.length : Nat) : Int) ≤ (addV (newF (cfgF 4)) 0 (singleV 3) r_3).cfg.tasks - loadL (addV (newF (cfgF 4)) 0 (singleV 3) r_3).jobs := by rw [len_v hV_609, show loadL (addV (newF (cfgF 4)) 0 (singleV 3) r_3).jobs = 0 + (((singleV 3).length : Nat) : Int) from (load_new (j := JS.zero) rfl rfl).trans (by rw [load_new0]; rfl)]; show _ ≤ (100 : Int) - _; decide
  have p_625 : zs_604.length ≤ 12 := by rw [len_v hV_609]; decide
  have p_618 : (addV (newF (cfgF 4)) 0 (singleV 3) r_3).jobs[((1 : Int)).toNat]? = some JS.zero := rfl
  have p_619 : JS.added JS.zero = false := rfl
  refine cX Try.call21 (pf_add hR_597 hJ_598.i 1 az_601 nz_602 kz_603 zs_604 r_7 (RdT.flat (hO_607.rdAt 0 (by rfl))) (fun z hz => (hD_608 z hz).of_mem (mem_flat1 1 (by rfl))) p_617 p_618 p_619 p_620 p_621 p_622 p_623 p_624  (Sat.flat1 hS_610)) ?_
  rintro _ w_611 ⟨M_614, rfl, hR_615, hS_612⟩
  have hS_613 := Sat.unflat1 hS_612
  have hJ_616 := hJ_598.add p_617 p_618 p_619 p_620 p_621 p_622 p_624 p_625
  have hR_626 : FarmP p_565 (prS r_3 r_7 3 0) M_614 := by rw [show prS r_3 r_7 3 0 = addF (addV (newF (cfgF 4)) 0 (singleV 3) r_3) 1 zs_604 r_7 from by rw [addF_v, hV_609]; rfl]; exact hR_615
  have hJ_627 : FJ (prS r_3 r_7 3 0) 0 2 := by rw [show prS r_3 r_7 3 0 = addF (addV (newF (cfgF 4)) 0 (singleV 3) r_3) 1 zs_604 r_7 from by rw [addF_v, hV_609]; rfl]; exact hJ_616
  refine pu2 <| nilO <| thenK_n <| cFf <| skipE <| thenK_n <| seqE <| regionE <| pu1 <| nilO <| thenK_n <| seqE <| seqE <| regionE <| pu3 <| nilO <| thenK_n <| ?_
  refine cD (r_7 < r_3) (fun hc_628 => ?_) (fun hc_628 => ?_)
  rotate_left
  · refine skipE <| thenK_n <| seqE <| seqE <| regionE <| pu1 <| nilO <| thenK_n <| blockE ?_
    refine loopN 5 ?_
    refine roundS ?_
    refine seqE <| seqE <| regionE <| pu8 <| nilO <| thenK_n <| cTt <| skipE <| thenK_n <| seqE <| blockE <| seqE <| regionE <| pu2 ?_
    refine cX Try.call23 (pf_step hR_626 hJ_627.i 0 0 hJ_627.t (by omega) (Sat.flat1 hS_613)) ?_
    rintro _ w_762 ⟨az_765, nz_766, kz_767, Z_768, M_769, rfl, hO_770, hR_771, hS_763⟩
    have hS_764 := Sat.unflat2 hS_763; have hn_az_765 := hO_770.len; have hl_az_765 := hO_770.le
    have hJ_772 := FJ.step (x := 0) (c := 0) hJ_627 (by omega)
    have he_773 : (stepF (prS r_3 r_7 3 0) 0 0).2 = ([(⟨4, 0, 0, 0, 0, 0, 0⟩ : Evt)], 0) := (pr_ev (x := r_3) (y := r_7) (m := 3) (w := 0) (by omega) (by omega) (by decide) (by decide) (f := 0) (by rw [if_neg hc_628]))
    have he_773_c := congrArg Prod.snd he_773; have he_773_l := congrArg Prod.fst he_773; dsimp only at he_773_c he_773_l; rw [he_773_c]; rw [he_773_l] at hO_770 hn_az_765
    obtain rfl : 1 = nz_766 := hn_az_765
    have hR_774 : FarmP p_565 (prS r_3 r_7 3 1) M_769 := by skip; exact hR_771
    have hJ_775 : FJ (prS r_3 r_7 3 1) 1 2 := by skip; exact hJ_772
    refine pu5 <| nilO <| thenK_n <| seqE <| regionE <| pu3 ?_
    refine sAlloc hS_764 Try.zeroValue48 ?_
    intro b_776 w_777 hS_778
    refine sT hS_778 0 0 (.agg #[.int .i64 0, .int .i64 0]) [.int .i64 0, .int .i64 0] #[.int .i64 0, .int .i64 0] Try.sizeOf48 ?_
    intro w_779 hS_780
    refine nilO <| thenK_n <| seqE <| seqE <| regionE <| pu3 <| nilO <| thenK_n <| cFf <| skipE <| thenK_n <| seqE ?_
    obtain ⟨x_781, b_782, o_783, hx_784, hp_785, hq_786, ha_787⟩ := OwnT.elem hO_770 0
    change _[0]? = _ at hx_784; change PtR _ _ (_ + 0 * _) _ at hp_785; change ElemAt _ _ _ _ _ (_ + 0 * _) at hq_786
    have hxl_x_781 : x_781 = (⟨4, 0, 0, 0, 0, 0, 0⟩ : Evt) := (Option.some.inj hx_784).symm
    refine drawE [] [(10, ⟨b_782, o_783 + 0 * 7 + 0, none⟩, .int .i64 x_781.kind), (10, ⟨b_782, o_783 + 0 * 7 + 1, none⟩, .int .i64 x_781.worker), (10, ⟨b_782, o_783 + 0 * 7 + 2, none⟩, .int .i64 x_781.from_), (10, ⟨b_782, o_783 + 0 * 7 + 3, none⟩, .int .i64 x_781.job), (10, ⟨b_782, o_783 + 0 * 7 + 4, none⟩, .int .i64 x_781.refJob), (10, ⟨b_782, o_783 + 0 * 7 + 5, none⟩, .int .i64 x_781.refTask), (10, ⟨b_782, o_783 + 0 * 7 + 6, none⟩, .int .i64 x_781.err), (12, ⟨b_776, 0, none⟩, .int .i64 0), (12, ⟨b_776, 1, none⟩, .int .i64 0)] [(true, [0, 1, 2, 3, 4, 5, 6, 7, 8]), (true, [9]), (true, [11]), (true, [10]), (true, [12]), (true, [13]), (true, [14]), (true, [15])] rfl (by kernel_rfl) ⟨.inr ((hp_785.up 1 rfl).cell hS_780 (k := 0) rfl), .inr ((hp_785.up 1 rfl).cell hS_780 (k := 1) rfl), .inr ((hp_785.up 1 rfl).cell hS_780 (k := 2) rfl), .inr ((hp_785.up 1 rfl).cell hS_780 (k := 3) rfl), .inr ((hp_785.up 1 rfl).cell hS_780 (k := 4) rfl), .inr ((hp_785.up 1 rfl).cell hS_780 (k := 5) rfl), .inr ((hp_785.up 1 rfl).cell hS_780 (k := 6) rfl), .inr (hS_780.cell 0 rfl rfl), .inr (hS_780.cell 0 rfl rfl), trivial⟩ ?_
    have hS_788 := hS_780.drew
    refine wU [0, 1, 2, 3, 4, 5, 6, 7, 8] ?_
    refine wY (.pointer (some ⟨b_782, o_783 + 0 * 7, none⟩)) rfl (fun w _ => Y_idx (a := az_765) (i := 0) (len := 1) (cap := kz_767) rfl Try.runUnderlying44 Try.sizeOf50 (by kernel_rfl) (by kernel_rfl) hq_786) ?_
    refine wU [11] ?_
    refine wY (.agg (encEvt x_781).toArray) rfl (fun w hF => Y_loadF rfl (Try.isAgg50 w) (Try.sizeOf50 w) (by kernel_rfl) rfl ⟨hF 0 _ _ rfl, hF 1 _ _ rfl, hF 2 _ _ rfl, hF 3 _ _ rfl, hF 4 _ _ rfl, hF 5 _ _ rfl, hF 6 _ _ rfl, trivial⟩) ?_
    refine wY (.agg #[.int .i64 0, .int .i64 0]) rfl (fun w hF => Y_loadF rfl (Try.isAgg48 w) (Try.sizeOf48 w) (by kernel_rfl) rfl ⟨hF 7 _ _ rfl, hF 8 _ _ rfl, trivial⟩) ?_
    refine wU [13] ?_
    refine wY (.bool (!(((x_781.kind : Int) == 4) && ((x_781.worker : Int) == 0) && ((x_781.from_ : Int) == 0) && ((x_781.job : Int) == 0) && ((x_781.refJob : Int) == 0) && ((x_781.refTask : Int) == 0) && ((x_781.err : Int) == 0)))) rfl (fun w _ => Y_eqS rfl (by kernel_rfl) (by kernel_rfl) (eqvn50 _ x_781.kind x_781.worker x_781.from_ x_781.job x_781.refJob x_781.refTask x_781.err 4 0 0 0 0 0 0)) ?_
    refine wU [15] ?_
    refine wN ?_
    refine thenK_n <| ?_
    have hc_789 : (x_781.kind : Int) = 4 ∧ (x_781.worker : Int) = 0 ∧ (x_781.from_ : Int) = 0 ∧ (x_781.job : Int) = 0 ∧ (x_781.refJob : Int) = 0 ∧ (x_781.refTask : Int) = 0 ∧ (x_781.err : Int) = 0 := (by subst hxl_x_781; exact ⟨rfl, rfl, rfl, rfl, rfl, rfl, rfl⟩)
    refine cF _ (congrArg Bool.not (show (((x_781.kind : Int) == 4) && ((x_781.worker : Int) == 0) && ((x_781.from_ : Int) == 0) && ((x_781.job : Int) == 0) && ((x_781.refJob : Int) == 0) && ((x_781.refTask : Int) == 0) && ((x_781.err : Int) == 0)) = true from by simpa [and_assoc] using hc_789)) ?_
    refine skipE <| blockK_n <| thenK_n <| regionE <| pu3 <| nilO <| thenK_n <| ?_
    refine roundS ?_
    refine seqE <| seqE <| regionE <| pu8 <| nilO <| thenK_n <| cTt <| skipE <| thenK_n <| seqE <| blockE <| seqE <| regionE <| pu2 ?_
    have hS_790 := (hS_788.pick 2 rfl)
    refine cX Try.call23 (pf_step hR_774 hJ_775.i 1 0 hJ_775.t (by omega) (Sat.flat1 hS_790)) ?_
    rintro _ w_791 ⟨az_794, nz_795, kz_796, Z_797, M_798, rfl, hO_799, hR_800, hS_792⟩
    have hS_793 := Sat.unflat2 hS_792; have hn_az_794 := hO_799.len; have hl_az_794 := hO_799.le
    have hJ_801 := FJ.step (x := 1) (c := 0) hJ_775 (by omega)
    have he_802 : (stepF (prS r_3 r_7 3 1) 1 0).2 = ([(⟨4, 1, 0, 0, 0, 1, 0⟩ : Evt)], 0) := (pr_ev (x := r_3) (y := r_7) (m := 3) (w := 1) (by omega) (by omega) (by decide) (by decide) (f := 0) (by rw [if_neg hc_628]))
    have he_802_c := congrArg Prod.snd he_802; have he_802_l := congrArg Prod.fst he_802; dsimp only at he_802_c he_802_l; rw [he_802_c]; rw [he_802_l] at hO_799 hn_az_794
    obtain rfl : 1 = nz_795 := hn_az_794
    have hR_803 : FarmP p_565 (prS r_3 r_7 3 2) M_798 := by skip; exact hR_800
    have hJ_804 : FJ (prS r_3 r_7 3 2) 2 2 := by skip; exact hJ_801
    refine pu5 <| nilO <| thenK_n <| seqE <| regionE <| pu3 ?_
    refine sAlloc hS_793 Try.zeroValue48 ?_
    intro b_805 w_806 hS_807
    refine sT hS_807 0 0 (.agg #[.int .i64 0, .int .i64 1]) [.int .i64 0, .int .i64 1] #[.int .i64 0, .int .i64 1] Try.sizeOf48 ?_
    intro w_808 hS_809
    refine nilO <| thenK_n <| seqE <| seqE <| regionE <| pu3 <| nilO <| thenK_n <| cFf <| skipE <| thenK_n <| seqE ?_
    obtain ⟨x_810, b_811, o_812, hx_813, hp_814, hq_815, ha_816⟩ := OwnT.elem hO_799 0
    change _[0]? = _ at hx_813; change PtR _ _ (_ + 0 * _) _ at hp_814; change ElemAt _ _ _ _ _ (_ + 0 * _) at hq_815
    have hxl_x_810 : x_810 = (⟨4, 1, 0, 0, 0, 1, 0⟩ : Evt) := (Option.some.inj hx_813).symm
    refine drawE [] [(10, ⟨b_811, o_812 + 0 * 7 + 0, none⟩, .int .i64 x_810.kind), (10, ⟨b_811, o_812 + 0 * 7 + 1, none⟩, .int .i64 x_810.worker), (10, ⟨b_811, o_812 + 0 * 7 + 2, none⟩, .int .i64 x_810.from_), (10, ⟨b_811, o_812 + 0 * 7 + 3, none⟩, .int .i64 x_810.job), (10, ⟨b_811, o_812 + 0 * 7 + 4, none⟩, .int .i64 x_810.refJob), (10, ⟨b_811, o_812 + 0 * 7 + 5, none⟩, .int .i64 x_810.refTask), (10, ⟨b_811, o_812 + 0 * 7 + 6, none⟩, .int .i64 x_810.err), (12, ⟨b_805, 0, none⟩, .int .i64 0), (12, ⟨b_805, 1, none⟩, .int .i64 1)] [(true, [0, 1, 2, 3, 4, 5, 6, 7, 8]), (true, [9]), (true, [11]), (true, [10]), (true, [12]), (true, [13]), (true, [14]), (true, [15])] rfl (by kernel_rfl) ⟨.inr ((hp_814.up 1 rfl).cell hS_809 (k := 0) rfl), .inr ((hp_814.up 1 rfl).cell hS_809 (k := 1) rfl), .inr ((hp_814.up 1 rfl).cell hS_809 (k := 2) rfl), .inr ((hp_814.up 1 rfl).cell hS_809 (k := 3) rfl), .inr ((hp_814.up 1 rfl).cell hS_809 (k := 4) rfl), .inr ((hp_814.up 1 rfl).cell hS_809 (k := 5) rfl), .inr ((hp_814.up 1 rfl).cell hS_809 (k := 6) rfl), .inr (hS_809.cell 0 rfl rfl), .inr (hS_809.cell 0 rfl rfl), trivial⟩ ?_
    have hS_817 := hS_809.drew
    refine wU [0, 1, 2, 3, 4, 5, 6, 7, 8] ?_
    refine wY (.pointer (some ⟨b_811, o_812 + 0 * 7, none⟩)) rfl (fun w _ => Y_idx (a := az_794) (i := 0) (len := 1) (cap := kz_796) rfl Try.runUnderlying44 Try.sizeOf50 (by kernel_rfl) (by kernel_rfl) hq_815) ?_
    refine wU [11] ?_
    refine wY (.agg (encEvt x_810).toArray) rfl (fun w hF => Y_loadF rfl (Try.isAgg50 w) (Try.sizeOf50 w) (by kernel_rfl) rfl ⟨hF 0 _ _ rfl, hF 1 _ _ rfl, hF 2 _ _ rfl, hF 3 _ _ rfl, hF 4 _ _ rfl, hF 5 _ _ rfl, hF 6 _ _ rfl, trivial⟩) ?_
    refine wY (.agg #[.int .i64 0, .int .i64 1]) rfl (fun w hF => Y_loadF rfl (Try.isAgg48 w) (Try.sizeOf48 w) (by kernel_rfl) rfl ⟨hF 7 _ _ rfl, hF 8 _ _ rfl, trivial⟩) ?_
    refine wU [13] ?_
    refine wY (.bool (!(((x_810.kind : Int) == 4) && ((x_810.worker : Int) == 1) && ((x_810.from_ : Int) == 0) && ((x_810.job : Int) == 0) && ((x_810.refJob : Int) == 0) && ((x_810.refTask : Int) == 1) && ((x_810.err : Int) == 0)))) rfl (fun w _ => Y_eqS rfl (by kernel_rfl) (by kernel_rfl) (eqvn50 _ x_810.kind x_810.worker x_810.from_ x_810.job x_810.refJob x_810.refTask x_810.err 4 1 0 0 0 1 0)) ?_
    refine wU [15] ?_
    refine wN ?_
    refine thenK_n <| ?_
    have hc_818 : (x_810.kind : Int) = 4 ∧ (x_810.worker : Int) = 1 ∧ (x_810.from_ : Int) = 0 ∧ (x_810.job : Int) = 0 ∧ (x_810.refJob : Int) = 0 ∧ (x_810.refTask : Int) = 1 ∧ (x_810.err : Int) = 0 := (by subst hxl_x_810; exact ⟨rfl, rfl, rfl, rfl, rfl, rfl, rfl⟩)
    refine cF _ (congrArg Bool.not (show (((x_810.kind : Int) == 4) && ((x_810.worker : Int) == 1) && ((x_810.from_ : Int) == 0) && ((x_810.job : Int) == 0) && ((x_810.refJob : Int) == 0) && ((x_810.refTask : Int) == 1) && ((x_810.err : Int) == 0)) = true from by simpa [and_assoc] using hc_818)) ?_
    refine skipE <| blockK_n <| thenK_n <| regionE <| pu3 <| nilO <| thenK_n <| ?_
    refine roundS ?_
    refine seqE <| seqE <| regionE <| pu8 <| nilO <| thenK_n <| cTt <| skipE <| thenK_n <| seqE <| blockE <| seqE <| regionE <| pu2 ?_
    have hS_819 := (hS_817.pick 2 rfl)
    refine cX Try.call23 (pf_step hR_803 hJ_804.i 2 0 hJ_804.t (by omega) (Sat.flat1 hS_819)) ?_
    rintro _ w_820 ⟨az_823, nz_824, kz_825, Z_826, M_827, rfl, hO_828, hR_829, hS_821⟩
    have hS_822 := Sat.unflat2 hS_821; have hn_az_823 := hO_828.len; have hl_az_823 := hO_828.le
    have hJ_830 := FJ.step (x := 2) (c := 0) hJ_804 (by omega)
    have he_831 : (stepF (prS r_3 r_7 3 2) 2 0).2 = ([(⟨4, 2, 0, 0, 0, 2, 0⟩ : Evt)], 0) := (pr_ev (x := r_3) (y := r_7) (m := 3) (w := 2) (by omega) (by omega) (by decide) (by decide) (f := 0) (by rw [if_neg hc_628]))
    have he_831_c := congrArg Prod.snd he_831; have he_831_l := congrArg Prod.fst he_831; dsimp only at he_831_c he_831_l; rw [he_831_c]; rw [he_831_l] at hO_828 hn_az_823
    obtain rfl : 1 = nz_824 := hn_az_823
    have hR_832 : FarmP p_565 (prS r_3 r_7 3 3) M_827 := by skip; exact hR_829
    have hJ_833 : FJ (prS r_3 r_7 3 3) 3 2 := by skip; exact hJ_830
    refine pu5 <| nilO <| thenK_n <| seqE <| regionE <| pu3 ?_
    refine sAlloc hS_822 Try.zeroValue48 ?_
    intro b_834 w_835 hS_836
    refine sT hS_836 0 0 (.agg #[.int .i64 0, .int .i64 2]) [.int .i64 0, .int .i64 2] #[.int .i64 0, .int .i64 2] Try.sizeOf48 ?_
    intro w_837 hS_838
    refine nilO <| thenK_n <| seqE <| seqE <| regionE <| pu3 <| nilO <| thenK_n <| cFf <| skipE <| thenK_n <| seqE ?_
    obtain ⟨x_839, b_840, o_841, hx_842, hp_843, hq_844, ha_845⟩ := OwnT.elem hO_828 0
    change _[0]? = _ at hx_842; change PtR _ _ (_ + 0 * _) _ at hp_843; change ElemAt _ _ _ _ _ (_ + 0 * _) at hq_844
    have hxl_x_839 : x_839 = (⟨4, 2, 0, 0, 0, 2, 0⟩ : Evt) := (Option.some.inj hx_842).symm
    refine drawE [] [(10, ⟨b_840, o_841 + 0 * 7 + 0, none⟩, .int .i64 x_839.kind), (10, ⟨b_840, o_841 + 0 * 7 + 1, none⟩, .int .i64 x_839.worker), (10, ⟨b_840, o_841 + 0 * 7 + 2, none⟩, .int .i64 x_839.from_), (10, ⟨b_840, o_841 + 0 * 7 + 3, none⟩, .int .i64 x_839.job), (10, ⟨b_840, o_841 + 0 * 7 + 4, none⟩, .int .i64 x_839.refJob), (10, ⟨b_840, o_841 + 0 * 7 + 5, none⟩, .int .i64 x_839.refTask), (10, ⟨b_840, o_841 + 0 * 7 + 6, none⟩, .int .i64 x_839.err), (12, ⟨b_834, 0, none⟩, .int .i64 0), (12, ⟨b_834, 1, none⟩, .int .i64 2)] [(true, [0, 1, 2, 3, 4, 5, 6, 7, 8]), (true, [9]), (true, [11]), (true, [10]), (true, [12]), (true, [13]), (true, [14]), (true, [15])] rfl (by kernel_rfl) ⟨.inr ((hp_843.up 1 rfl).cell hS_838 (k := 0) rfl), .inr ((hp_843.up 1 rfl).cell hS_838 (k := 1) rfl), .inr ((hp_843.up 1 rfl).cell hS_838 (k := 2) rfl), .inr ((hp_843.up 1 rfl).cell hS_838 (k := 3) rfl), .inr ((hp_843.up 1 rfl).cell hS_838 (k := 4) rfl), .inr ((hp_843.up 1 rfl).cell hS_838 (k := 5) rfl), .inr ((hp_843.up 1 rfl).cell hS_838 (k := 6) rfl), .inr (hS_838.cell 0 rfl rfl), .inr (hS_838.cell 0 rfl rfl), trivial⟩ ?_
    have hS_846 := hS_838.drew
    refine wU [0, 1, 2, 3, 4, 5, 6, 7, 8] ?_
    refine wY (.pointer (some ⟨b_840, o_841 + 0 * 7, none⟩)) rfl (fun w _ => Y_idx (a := az_823) (i := 0) (len := 1) (cap := kz_825) rfl Try.runUnderlying44 Try.sizeOf50 (by kernel_rfl) (by kernel_rfl) hq_844) ?_
    refine wU [11] ?_
    refine wY (.agg (encEvt x_839).toArray) rfl (fun w hF => Y_loadF rfl (Try.isAgg50 w) (Try.sizeOf50 w) (by kernel_rfl) rfl ⟨hF 0 _ _ rfl, hF 1 _ _ rfl, hF 2 _ _ rfl, hF 3 _ _ rfl, hF 4 _ _ rfl, hF 5 _ _ rfl, hF 6 _ _ rfl, trivial⟩) ?_
    refine wY (.agg #[.int .i64 0, .int .i64 2]) rfl (fun w hF => Y_loadF rfl (Try.isAgg48 w) (Try.sizeOf48 w) (by kernel_rfl) rfl ⟨hF 7 _ _ rfl, hF 8 _ _ rfl, trivial⟩) ?_
    refine wU [13] ?_
    refine wY (.bool (!(((x_839.kind : Int) == 4) && ((x_839.worker : Int) == 2) && ((x_839.from_ : Int) == 0) && ((x_839.job : Int) == 0) && ((x_839.refJob : Int) == 0) && ((x_839.refTask : Int) == 2) && ((x_839.err : Int) == 0)))) rfl (fun w _ => Y_eqS rfl (by kernel_rfl) (by kernel_rfl) (eqvn50 _ x_839.kind x_839.worker x_839.from_ x_839.job x_839.refJob x_839.refTask x_839.err 4 2 0 0 0 2 0)) ?_
    refine wU [15] ?_
    refine wN ?_
    refine thenK_n <| ?_
    have hc_847 : (x_839.kind : Int) = 4 ∧ (x_839.worker : Int) = 2 ∧ (x_839.from_ : Int) = 0 ∧ (x_839.job : Int) = 0 ∧ (x_839.refJob : Int) = 0 ∧ (x_839.refTask : Int) = 2 ∧ (x_839.err : Int) = 0 := (by subst hxl_x_839; exact ⟨rfl, rfl, rfl, rfl, rfl, rfl, rfl⟩)
    refine cF _ (congrArg Bool.not (show (((x_839.kind : Int) == 4) && ((x_839.worker : Int) == 2) && ((x_839.from_ : Int) == 0) && ((x_839.job : Int) == 0) && ((x_839.refJob : Int) == 0) && ((x_839.refTask : Int) == 2) && ((x_839.err : Int) == 0)) = true from by simpa [and_assoc] using hc_847)) ?_
    refine skipE <| blockK_n <| thenK_n <| regionE <| pu3 <| nilO <| thenK_n <| ?_
    refine roundS ?_
    refine seqE <| seqE <| regionE <| pu8 <| nilO <| thenK_n <| cTt <| skipE <| thenK_n <| seqE <| blockE <| seqE <| regionE <| pu2 ?_
    have hS_848 := (hS_846.pick 2 rfl)
    refine cX Try.call23 (pf_step hR_832 hJ_833.i 3 0 hJ_833.t (by omega) (Sat.flat1 hS_848)) ?_
    rintro _ w_849 ⟨az_852, nz_853, kz_854, Z_855, M_856, rfl, hO_857, hR_858, hS_850⟩
    have hS_851 := Sat.unflat2 hS_850; have hn_az_852 := hO_857.len; have hl_az_852 := hO_857.le
    have hJ_859 := FJ.step (x := 3) (c := 0) hJ_833 (by omega)
    have he_860 : (stepF (prS r_3 r_7 3 3) 3 0).2 = ([(⟨4, 3, 0, 0, 1, 0, 0⟩ : Evt)], 0) := (pr_ev (x := r_3) (y := r_7) (m := 3) (w := 3) (by omega) (by omega) (by decide) (by decide) (f := 0) (by rw [if_neg hc_628]))
    have he_860_c := congrArg Prod.snd he_860; have he_860_l := congrArg Prod.fst he_860; dsimp only at he_860_c he_860_l; rw [he_860_c]; rw [he_860_l] at hO_857 hn_az_852
    obtain rfl : 1 = nz_853 := hn_az_852
    have hR_861 : FarmP p_565 (prS r_3 r_7 3 4) M_856 := by skip; exact hR_858
    have hJ_862 : FJ (prS r_3 r_7 3 4) 4 2 := by skip; exact hJ_859
    refine pu5 <| nilO <| thenK_n <| seqE <| regionE <| pu3 ?_
    refine sAlloc hS_851 Try.zeroValue48 ?_
    intro b_863 w_864 hS_865
    refine sT hS_865 0 0 (.agg #[.int .i64 0, .int .i64 3]) [.int .i64 0, .int .i64 3] #[.int .i64 0, .int .i64 3] Try.sizeOf48 ?_
    intro w_866 hS_867
    refine nilO <| thenK_n <| seqE <| seqE <| regionE <| pu3 <| nilO <| thenK_n <| cTt <| regionE <| pu6 ?_
    refine sT hS_867 0 0 (.agg #[.int .i64 1, .int .i64 0]) [.int .i64 1, .int .i64 0] #[.int .i64 1, .int .i64 0] Try.sizeOf48 ?_
    intro w_868 hS_869
    refine nilO <| thenK_n <| seqE ?_
    obtain ⟨x_870, b_871, o_872, hx_873, hp_874, hq_875, ha_876⟩ := OwnT.elem hO_857 0
    change _[0]? = _ at hx_873; change PtR _ _ (_ + 0 * _) _ at hp_874; change ElemAt _ _ _ _ _ (_ + 0 * _) at hq_875
    have hxl_x_870 : x_870 = (⟨4, 3, 0, 0, 1, 0, 0⟩ : Evt) := (Option.some.inj hx_873).symm
    refine drawE [] [(10, ⟨b_871, o_872 + 0 * 7 + 0, none⟩, .int .i64 x_870.kind), (10, ⟨b_871, o_872 + 0 * 7 + 1, none⟩, .int .i64 x_870.worker), (10, ⟨b_871, o_872 + 0 * 7 + 2, none⟩, .int .i64 x_870.from_), (10, ⟨b_871, o_872 + 0 * 7 + 3, none⟩, .int .i64 x_870.job), (10, ⟨b_871, o_872 + 0 * 7 + 4, none⟩, .int .i64 x_870.refJob), (10, ⟨b_871, o_872 + 0 * 7 + 5, none⟩, .int .i64 x_870.refTask), (10, ⟨b_871, o_872 + 0 * 7 + 6, none⟩, .int .i64 x_870.err), (12, ⟨b_863, 0, none⟩, .int .i64 1), (12, ⟨b_863, 1, none⟩, .int .i64 0)] [(true, [0, 1, 2, 3, 4, 5, 6, 7, 8]), (true, [9]), (true, [11]), (true, [10]), (true, [12]), (true, [13]), (true, [14]), (true, [15])] rfl (by kernel_rfl) ⟨.inr ((hp_874.up 1 rfl).cell hS_869 (k := 0) rfl), .inr ((hp_874.up 1 rfl).cell hS_869 (k := 1) rfl), .inr ((hp_874.up 1 rfl).cell hS_869 (k := 2) rfl), .inr ((hp_874.up 1 rfl).cell hS_869 (k := 3) rfl), .inr ((hp_874.up 1 rfl).cell hS_869 (k := 4) rfl), .inr ((hp_874.up 1 rfl).cell hS_869 (k := 5) rfl), .inr ((hp_874.up 1 rfl).cell hS_869 (k := 6) rfl), .inr (hS_869.cell 0 rfl rfl), .inr (hS_869.cell 0 rfl rfl), trivial⟩ ?_
    have hS_877 := hS_869.drew
    refine wU [0, 1, 2, 3, 4, 5, 6, 7, 8] ?_
    refine wY (.pointer (some ⟨b_871, o_872 + 0 * 7, none⟩)) rfl (fun w _ => Y_idx (a := az_852) (i := 0) (len := 1) (cap := kz_854) rfl Try.runUnderlying44 Try.sizeOf50 (by kernel_rfl) (by kernel_rfl) hq_875) ?_
    refine wU [11] ?_
    refine wY (.agg (encEvt x_870).toArray) rfl (fun w hF => Y_loadF rfl (Try.isAgg50 w) (Try.sizeOf50 w) (by kernel_rfl) rfl ⟨hF 0 _ _ rfl, hF 1 _ _ rfl, hF 2 _ _ rfl, hF 3 _ _ rfl, hF 4 _ _ rfl, hF 5 _ _ rfl, hF 6 _ _ rfl, trivial⟩) ?_
    refine wY (.agg #[.int .i64 1, .int .i64 0]) rfl (fun w hF => Y_loadF rfl (Try.isAgg48 w) (Try.sizeOf48 w) (by kernel_rfl) rfl ⟨hF 7 _ _ rfl, hF 8 _ _ rfl, trivial⟩) ?_
    refine wU [13] ?_
    refine wY (.bool (!(((x_870.kind : Int) == 4) && ((x_870.worker : Int) == 3) && ((x_870.from_ : Int) == 0) && ((x_870.job : Int) == 0) && ((x_870.refJob : Int) == 1) && ((x_870.refTask : Int) == 0) && ((x_870.err : Int) == 0)))) rfl (fun w _ => Y_eqS rfl (by kernel_rfl) (by kernel_rfl) (eqvn50 _ x_870.kind x_870.worker x_870.from_ x_870.job x_870.refJob x_870.refTask x_870.err 4 3 0 0 1 0 0)) ?_
    refine wU [15] ?_
    refine wN ?_
    refine thenK_n <| ?_
    have hc_878 : (x_870.kind : Int) = 4 ∧ (x_870.worker : Int) = 3 ∧ (x_870.from_ : Int) = 0 ∧ (x_870.job : Int) = 0 ∧ (x_870.refJob : Int) = 1 ∧ (x_870.refTask : Int) = 0 ∧ (x_870.err : Int) = 0 := (by subst hxl_x_870; exact ⟨rfl, rfl, rfl, rfl, rfl, rfl, rfl⟩)
    refine cF _ (congrArg Bool.not (show (((x_870.kind : Int) == 4) && ((x_870.worker : Int) == 3) && ((x_870.from_ : Int) == 0) && ((x_870.job : Int) == 0) && ((x_870.refJob : Int) == 1) && ((x_870.refTask : Int) == 0) && ((x_870.err : Int) == 0)) = true from by simpa [and_assoc] using hc_878)) ?_
    refine skipE <| blockK_n <| thenK_n <| regionE <| pu3 <| nilO <| thenK_n <| ?_
    refine roundS ?_
    refine seqE <| seqE <| regionE <| pu8 <| nilO <| thenK_n <| cFf <| exitE <| thenK_x <| thenK_x <| blockK_x <| thenK_n <| seqE <| regionE ?_
    refine cX Try.call24 (l27_sane hS_877) ?_
    rintro _ w_879 ⟨rfl, hS_880⟩
    refine pu1 <| nilO <| thenK_n <| retE <| retT [.bool true] <| ?_
    have hS_881 := (hS_880.pick 13 rfl)
    have hS_882 := hS_881.dropAt 1 rfl
    have hS_883 := hS_882.dropAt 1 rfl
    have hS_884 := hS_883.dropAt 1 rfl
    have hS_885 := hS_884.dropAt 1 rfl
    have hS_886 := hS_885.dropAt 1 rfl
    have hS_887 := hS_886.dropAt 1 rfl
    have hS_888 := hS_887.dropAt 1 rfl
    have hS_889 := hS_888.dropAt 1 rfl
    have hS_890 := hS_889.dropAt 1 rfl
    have hS_891 := hS_890.dropAt 1 rfl
    have hS_892 := hS_891.dropAt 1 rfl
    have hS_893 := hS_892.dropAt 1 rfl
    have hS_894 := hS_893.dropAt 1 rfl
    exact ⟨rfl, hS_894⟩
  refine regionE <| pu1 <| nilO <| thenK_n <| seqE <| seqE <| regionE <| pu1 <| nilO <| thenK_n <| blockE ?_
  refine loopN 5 ?_
  refine roundS ?_
  refine seqE <| seqE <| regionE <| pu8 <| nilO <| thenK_n <| cTt <| skipE <| thenK_n <| seqE <| blockE <| seqE <| regionE <| pu2 ?_
  refine cX Try.call23 (pf_step hR_626 hJ_627.i 0 0 hJ_627.t (by omega) (Sat.flat1 hS_613)) ?_
  rintro _ w_629 ⟨az_632, nz_633, kz_634, Z_635, M_636, rfl, hO_637, hR_638, hS_630⟩
  have hS_631 := Sat.unflat2 hS_630; have hn_az_632 := hO_637.len; have hl_az_632 := hO_637.le
  have hJ_639 := FJ.step (x := 0) (c := 0) hJ_627 (by omega)
  have he_640 : (stepF (prS r_3 r_7 3 0) 0 0).2 = ([(⟨4, 0, 0, 0, 1, 0, 0⟩ : Evt)], 0) := (pr_ev (x := r_3) (y := r_7) (m := 3) (w := 0) (by omega) (by omega) (by decide) (by decide) (f := 1) (by rw [if_pos hc_628]))
  have he_640_c := congrArg Prod.snd he_640; have he_640_l := congrArg Prod.fst he_640; dsimp only at he_640_c he_640_l; rw [he_640_c]; rw [he_640_l] at hO_637 hn_az_632
  obtain rfl : 1 = nz_633 := hn_az_632
  have hR_641 : FarmP p_565 (prS r_3 r_7 3 1) M_636 := by skip; exact hR_638
  have hJ_642 : FJ (prS r_3 r_7 3 1) 1 2 := by skip; exact hJ_639
  refine pu5 <| nilO <| thenK_n <| seqE <| regionE <| pu3 ?_
  refine sAlloc hS_631 Try.zeroValue48 ?_
  intro b_643 w_644 hS_645
  refine sT hS_645 0 0 (.agg #[.int .i64 1, .int .i64 0]) [.int .i64 1, .int .i64 0] #[.int .i64 1, .int .i64 0] Try.sizeOf48 ?_
  intro w_646 hS_647
  refine nilO <| thenK_n <| seqE <| seqE <| regionE <| pu3 <| nilO <| thenK_n <| cFf <| skipE <| thenK_n <| seqE ?_
  obtain ⟨x_648, b_649, o_650, hx_651, hp_652, hq_653, ha_654⟩ := OwnT.elem hO_637 0
  change _[0]? = _ at hx_651; change PtR _ _ (_ + 0 * _) _ at hp_652; change ElemAt _ _ _ _ _ (_ + 0 * _) at hq_653
  have hxl_x_648 : x_648 = (⟨4, 0, 0, 0, 1, 0, 0⟩ : Evt) := (Option.some.inj hx_651).symm
  refine drawE [] [(10, ⟨b_649, o_650 + 0 * 7 + 0, none⟩, .int .i64 x_648.kind), (10, ⟨b_649, o_650 + 0 * 7 + 1, none⟩, .int .i64 x_648.worker), (10, ⟨b_649, o_650 + 0 * 7 + 2, none⟩, .int .i64 x_648.from_), (10, ⟨b_649, o_650 + 0 * 7 + 3, none⟩, .int .i64 x_648.job), (10, ⟨b_649, o_650 + 0 * 7 + 4, none⟩, .int .i64 x_648.refJob), (10, ⟨b_649, o_650 + 0 * 7 + 5, none⟩, .int .i64 x_648.refTask), (10, ⟨b_649, o_650 + 0 * 7 + 6, none⟩, .int .i64 x_648.err), (12, ⟨b_643, 0, none⟩, .int .i64 1), (12, ⟨b_643, 1, none⟩, .int .i64 0)] [(true, [0, 1, 2, 3, 4, 5, 6, 7, 8]), (true, [9]), (true, [11]), (true, [10]), (true, [12]), (true, [13]), (true, [14]), (true, [15])] rfl (by kernel_rfl) ⟨.inr ((hp_652.up 1 rfl).cell hS_647 (k := 0) rfl), .inr ((hp_652.up 1 rfl).cell hS_647 (k := 1) rfl), .inr ((hp_652.up 1 rfl).cell hS_647 (k := 2) rfl), .inr ((hp_652.up 1 rfl).cell hS_647 (k := 3) rfl), .inr ((hp_652.up 1 rfl).cell hS_647 (k := 4) rfl), .inr ((hp_652.up 1 rfl).cell hS_647 (k := 5) rfl), .inr ((hp_652.up 1 rfl).cell hS_647 (k := 6) rfl), .inr (hS_647.cell 0 rfl rfl), .inr (hS_647.cell 0 rfl rfl), trivial⟩ ?_
  have hS_655 := hS_647.drew
  refine wU [0, 1, 2, 3, 4, 5, 6, 7, 8] ?_
  refine wY (.pointer (some ⟨b_649, o_650 + 0 * 7, none⟩)) rfl (fun w _ => Y_idx (a := az_632) (i := 0) (len := 1) (cap := kz_634) rfl Try.runUnderlying44 Try.sizeOf50 (by kernel_rfl) (by kernel_rfl) hq_653) ?_
  refine wU [11] ?_
  refine wY (.agg (encEvt x_648).toArray) rfl (fun w hF => Y_loadF rfl (Try.isAgg50 w) (Try.sizeOf50 w) (by kernel_rfl) rfl ⟨hF 0 _ _ rfl, hF 1 _ _ rfl, hF 2 _ _ rfl, hF 3 _ _ rfl, hF 4 _ _ rfl, hF 5 _ _ rfl, hF 6 _ _ rfl, trivial⟩) ?_
  refine wY (.agg #[.int .i64 1, .int .i64 0]) rfl (fun w hF => Y_loadF rfl (Try.isAgg48 w) (Try.sizeOf48 w) (by kernel_rfl) rfl ⟨hF 7 _ _ rfl, hF 8 _ _ rfl, trivial⟩) ?_
  refine wU [13] ?_
  refine wY (.bool (!(((x_648.kind : Int) == 4) && ((x_648.worker : Int) == 0) && ((x_648.from_ : Int) == 0) && ((x_648.job : Int) == 0) && ((x_648.refJob : Int) == 1) && ((x_648.refTask : Int) == 0) && ((x_648.err : Int) == 0)))) rfl (fun w _ => Y_eqS rfl (by kernel_rfl) (by kernel_rfl) (eqvn50 _ x_648.kind x_648.worker x_648.from_ x_648.job x_648.refJob x_648.refTask x_648.err 4 0 0 0 1 0 0)) ?_
  refine wU [15] ?_
  refine wN ?_
  refine thenK_n <| ?_
  have hc_656 : (x_648.kind : Int) = 4 ∧ (x_648.worker : Int) = 0 ∧ (x_648.from_ : Int) = 0 ∧ (x_648.job : Int) = 0 ∧ (x_648.refJob : Int) = 1 ∧ (x_648.refTask : Int) = 0 ∧ (x_648.err : Int) = 0 := (by subst hxl_x_648; exact ⟨rfl, rfl, rfl, rfl, rfl, rfl, rfl⟩)
  refine cF _ (congrArg Bool.not (show (((x_648.kind : Int) == 4) && ((x_648.worker : Int) == 0) && ((x_648.from_ : Int) == 0) && ((x_648.job : Int) == 0) && ((x_648.refJob : Int) == 1) && ((x_648.refTask : Int) == 0) && ((x_648.err : Int) == 0)) = true from by simpa [and_assoc] using hc_656)) ?_
  refine skipE <| blockK_n <| thenK_n <| regionE <| pu3 <| nilO <| thenK_n <| ?_
  refine roundS ?_
  refine seqE <| seqE <| regionE <| pu8 <| nilO <| thenK_n <| cTt <| skipE <| thenK_n <| seqE <| blockE <| seqE <| regionE <| pu2 ?_
  have hS_657 := (hS_655.pick 2 rfl)
  refine cX Try.call23 (pf_step hR_641 hJ_642.i 1 0 hJ_642.t (by omega) (Sat.flat1 hS_657)) ?_
  rintro _ w_658 ⟨az_661, nz_662, kz_663, Z_664, M_665, rfl, hO_666, hR_667, hS_659⟩
  have hS_660 := Sat.unflat2 hS_659; have hn_az_661 := hO_666.len; have hl_az_661 := hO_666.le
  have hJ_668 := FJ.step (x := 1) (c := 0) hJ_642 (by omega)
  have he_669 : (stepF (prS r_3 r_7 3 1) 1 0).2 = ([(⟨4, 1, 0, 0, 1, 1, 0⟩ : Evt)], 0) := (pr_ev (x := r_3) (y := r_7) (m := 3) (w := 1) (by omega) (by omega) (by decide) (by decide) (f := 1) (by rw [if_pos hc_628]))
  have he_669_c := congrArg Prod.snd he_669; have he_669_l := congrArg Prod.fst he_669; dsimp only at he_669_c he_669_l; rw [he_669_c]; rw [he_669_l] at hO_666 hn_az_661
  obtain rfl : 1 = nz_662 := hn_az_661
  have hR_670 : FarmP p_565 (prS r_3 r_7 3 2) M_665 := by skip; exact hR_667
  have hJ_671 : FJ (prS r_3 r_7 3 2) 2 2 := by skip; exact hJ_668
  refine pu5 <| nilO <| thenK_n <| seqE <| regionE <| pu3 ?_
  refine sAlloc hS_660 Try.zeroValue48 ?_
  intro b_672 w_673 hS_674
  refine sT hS_674 0 0 (.agg #[.int .i64 1, .int .i64 1]) [.int .i64 1, .int .i64 1] #[.int .i64 1, .int .i64 1] Try.sizeOf48 ?_
  intro w_675 hS_676
  refine nilO <| thenK_n <| seqE <| seqE <| regionE <| pu3 <| nilO <| thenK_n <| cFf <| skipE <| thenK_n <| seqE ?_
  obtain ⟨x_677, b_678, o_679, hx_680, hp_681, hq_682, ha_683⟩ := OwnT.elem hO_666 0
  change _[0]? = _ at hx_680; change PtR _ _ (_ + 0 * _) _ at hp_681; change ElemAt _ _ _ _ _ (_ + 0 * _) at hq_682
  have hxl_x_677 : x_677 = (⟨4, 1, 0, 0, 1, 1, 0⟩ : Evt) := (Option.some.inj hx_680).symm
  refine drawE [] [(10, ⟨b_678, o_679 + 0 * 7 + 0, none⟩, .int .i64 x_677.kind), (10, ⟨b_678, o_679 + 0 * 7 + 1, none⟩, .int .i64 x_677.worker), (10, ⟨b_678, o_679 + 0 * 7 + 2, none⟩, .int .i64 x_677.from_), (10, ⟨b_678, o_679 + 0 * 7 + 3, none⟩, .int .i64 x_677.job), (10, ⟨b_678, o_679 + 0 * 7 + 4, none⟩, .int .i64 x_677.refJob), (10, ⟨b_678, o_679 + 0 * 7 + 5, none⟩, .int .i64 x_677.refTask), (10, ⟨b_678, o_679 + 0 * 7 + 6, none⟩, .int .i64 x_677.err), (12, ⟨b_672, 0, none⟩, .int .i64 1), (12, ⟨b_672, 1, none⟩, .int .i64 1)] [(true, [0, 1, 2, 3, 4, 5, 6, 7, 8]), (true, [9]), (true, [11]), (true, [10]), (true, [12]), (true, [13]), (true, [14]), (true, [15])] rfl (by kernel_rfl) ⟨.inr ((hp_681.up 1 rfl).cell hS_676 (k := 0) rfl), .inr ((hp_681.up 1 rfl).cell hS_676 (k := 1) rfl), .inr ((hp_681.up 1 rfl).cell hS_676 (k := 2) rfl), .inr ((hp_681.up 1 rfl).cell hS_676 (k := 3) rfl), .inr ((hp_681.up 1 rfl).cell hS_676 (k := 4) rfl), .inr ((hp_681.up 1 rfl).cell hS_676 (k := 5) rfl), .inr ((hp_681.up 1 rfl).cell hS_676 (k := 6) rfl), .inr (hS_676.cell 0 rfl rfl), .inr (hS_676.cell 0 rfl rfl), trivial⟩ ?_
  have hS_684 := hS_676.drew
  refine wU [0, 1, 2, 3, 4, 5, 6, 7, 8] ?_
  refine wY (.pointer (some ⟨b_678, o_679 + 0 * 7, none⟩)) rfl (fun w _ => Y_idx (a := az_661) (i := 0) (len := 1) (cap := kz_663) rfl Try.runUnderlying44 Try.sizeOf50 (by kernel_rfl) (by kernel_rfl) hq_682) ?_
  refine wU [11] ?_
  refine wY (.agg (encEvt x_677).toArray) rfl (fun w hF => Y_loadF rfl (Try.isAgg50 w) (Try.sizeOf50 w) (by kernel_rfl) rfl ⟨hF 0 _ _ rfl, hF 1 _ _ rfl, hF 2 _ _ rfl, hF 3 _ _ rfl, hF 4 _ _ rfl, hF 5 _ _ rfl, hF 6 _ _ rfl, trivial⟩) ?_
  refine wY (.agg #[.int .i64 1, .int .i64 1]) rfl (fun w hF => Y_loadF rfl (Try.isAgg48 w) (Try.sizeOf48 w) (by kernel_rfl) rfl ⟨hF 7 _ _ rfl, hF 8 _ _ rfl, trivial⟩) ?_
  refine wU [13] ?_
  refine wY (.bool (!(((x_677.kind : Int) == 4) && ((x_677.worker : Int) == 1) && ((x_677.from_ : Int) == 0) && ((x_677.job : Int) == 0) && ((x_677.refJob : Int) == 1) && ((x_677.refTask : Int) == 1) && ((x_677.err : Int) == 0)))) rfl (fun w _ => Y_eqS rfl (by kernel_rfl) (by kernel_rfl) (eqvn50 _ x_677.kind x_677.worker x_677.from_ x_677.job x_677.refJob x_677.refTask x_677.err 4 1 0 0 1 1 0)) ?_
  refine wU [15] ?_
  refine wN ?_
  refine thenK_n <| ?_
  have hc_685 : (x_677.kind : Int) = 4 ∧ (x_677.worker : Int) = 1 ∧ (x_677.from_ : Int) = 0 ∧ (x_677.job : Int) = 0 ∧ (x_677.refJob : Int) = 1 ∧ (x_677.refTask : Int) = 1 ∧ (x_677.err : Int) = 0 := (by subst hxl_x_677; exact ⟨rfl, rfl, rfl, rfl, rfl, rfl, rfl⟩)
  refine cF _ (congrArg Bool.not (show (((x_677.kind : Int) == 4) && ((x_677.worker : Int) == 1) && ((x_677.from_ : Int) == 0) && ((x_677.job : Int) == 0) && ((x_677.refJob : Int) == 1) && ((x_677.refTask : Int) == 1) && ((x_677.err : Int) == 0)) = true from by simpa [and_assoc] using hc_685)) ?_
  refine skipE <| blockK_n <| thenK_n <| regionE <| pu3 <| nilO <| thenK_n <| ?_
  refine roundS ?_
  refine seqE <| seqE <| regionE <| pu8 <| nilO <| thenK_n <| cTt <| skipE <| thenK_n <| seqE <| blockE <| seqE <| regionE <| pu2 ?_
  have hS_686 := (hS_684.pick 2 rfl)
  refine cX Try.call23 (pf_step hR_670 hJ_671.i 2 0 hJ_671.t (by omega) (Sat.flat1 hS_686)) ?_
  rintro _ w_687 ⟨az_690, nz_691, kz_692, Z_693, M_694, rfl, hO_695, hR_696, hS_688⟩
  have hS_689 := Sat.unflat2 hS_688; have hn_az_690 := hO_695.len; have hl_az_690 := hO_695.le
  have hJ_697 := FJ.step (x := 2) (c := 0) hJ_671 (by omega)
  have he_698 : (stepF (prS r_3 r_7 3 2) 2 0).2 = ([(⟨4, 2, 0, 0, 1, 2, 0⟩ : Evt)], 0) := (pr_ev (x := r_3) (y := r_7) (m := 3) (w := 2) (by omega) (by omega) (by decide) (by decide) (f := 1) (by rw [if_pos hc_628]))
  have he_698_c := congrArg Prod.snd he_698; have he_698_l := congrArg Prod.fst he_698; dsimp only at he_698_c he_698_l; rw [he_698_c]; rw [he_698_l] at hO_695 hn_az_690
  obtain rfl : 1 = nz_691 := hn_az_690
  have hR_699 : FarmP p_565 (prS r_3 r_7 3 3) M_694 := by skip; exact hR_696
  have hJ_700 : FJ (prS r_3 r_7 3 3) 3 2 := by skip; exact hJ_697
  refine pu5 <| nilO <| thenK_n <| seqE <| regionE <| pu3 ?_
  refine sAlloc hS_689 Try.zeroValue48 ?_
  intro b_701 w_702 hS_703
  refine sT hS_703 0 0 (.agg #[.int .i64 1, .int .i64 2]) [.int .i64 1, .int .i64 2] #[.int .i64 1, .int .i64 2] Try.sizeOf48 ?_
  intro w_704 hS_705
  refine nilO <| thenK_n <| seqE <| seqE <| regionE <| pu3 <| nilO <| thenK_n <| cFf <| skipE <| thenK_n <| seqE ?_
  obtain ⟨x_706, b_707, o_708, hx_709, hp_710, hq_711, ha_712⟩ := OwnT.elem hO_695 0
  change _[0]? = _ at hx_709; change PtR _ _ (_ + 0 * _) _ at hp_710; change ElemAt _ _ _ _ _ (_ + 0 * _) at hq_711
  have hxl_x_706 : x_706 = (⟨4, 2, 0, 0, 1, 2, 0⟩ : Evt) := (Option.some.inj hx_709).symm
  refine drawE [] [(10, ⟨b_707, o_708 + 0 * 7 + 0, none⟩, .int .i64 x_706.kind), (10, ⟨b_707, o_708 + 0 * 7 + 1, none⟩, .int .i64 x_706.worker), (10, ⟨b_707, o_708 + 0 * 7 + 2, none⟩, .int .i64 x_706.from_), (10, ⟨b_707, o_708 + 0 * 7 + 3, none⟩, .int .i64 x_706.job), (10, ⟨b_707, o_708 + 0 * 7 + 4, none⟩, .int .i64 x_706.refJob), (10, ⟨b_707, o_708 + 0 * 7 + 5, none⟩, .int .i64 x_706.refTask), (10, ⟨b_707, o_708 + 0 * 7 + 6, none⟩, .int .i64 x_706.err), (12, ⟨b_701, 0, none⟩, .int .i64 1), (12, ⟨b_701, 1, none⟩, .int .i64 2)] [(true, [0, 1, 2, 3, 4, 5, 6, 7, 8]), (true, [9]), (true, [11]), (true, [10]), (true, [12]), (true, [13]), (true, [14]), (true, [15])] rfl (by kernel_rfl) ⟨.inr ((hp_710.up 1 rfl).cell hS_705 (k := 0) rfl), .inr ((hp_710.up 1 rfl).cell hS_705 (k := 1) rfl), .inr ((hp_710.up 1 rfl).cell hS_705 (k := 2) rfl), .inr ((hp_710.up 1 rfl).cell hS_705 (k := 3) rfl), .inr ((hp_710.up 1 rfl).cell hS_705 (k := 4) rfl), .inr ((hp_710.up 1 rfl).cell hS_705 (k := 5) rfl), .inr ((hp_710.up 1 rfl).cell hS_705 (k := 6) rfl), .inr (hS_705.cell 0 rfl rfl), .inr (hS_705.cell 0 rfl rfl), trivial⟩ ?_
  have hS_713 := hS_705.drew
  refine wU [0, 1, 2, 3, 4, 5, 6, 7, 8] ?_
  refine wY (.pointer (some ⟨b_707, o_708 + 0 * 7, none⟩)) rfl (fun w _ => Y_idx (a := az_690) (i := 0) (len := 1) (cap := kz_692) rfl Try.runUnderlying44 Try.sizeOf50 (by kernel_rfl) (by kernel_rfl) hq_711) ?_
  refine wU [11] ?_
  refine wY (.agg (encEvt x_706).toArray) rfl (fun w hF => Y_loadF rfl (Try.isAgg50 w) (Try.sizeOf50 w) (by kernel_rfl) rfl ⟨hF 0 _ _ rfl, hF 1 _ _ rfl, hF 2 _ _ rfl, hF 3 _ _ rfl, hF 4 _ _ rfl, hF 5 _ _ rfl, hF 6 _ _ rfl, trivial⟩) ?_
  refine wY (.agg #[.int .i64 1, .int .i64 2]) rfl (fun w hF => Y_loadF rfl (Try.isAgg48 w) (Try.sizeOf48 w) (by kernel_rfl) rfl ⟨hF 7 _ _ rfl, hF 8 _ _ rfl, trivial⟩) ?_
  refine wU [13] ?_
  refine wY (.bool (!(((x_706.kind : Int) == 4) && ((x_706.worker : Int) == 2) && ((x_706.from_ : Int) == 0) && ((x_706.job : Int) == 0) && ((x_706.refJob : Int) == 1) && ((x_706.refTask : Int) == 2) && ((x_706.err : Int) == 0)))) rfl (fun w _ => Y_eqS rfl (by kernel_rfl) (by kernel_rfl) (eqvn50 _ x_706.kind x_706.worker x_706.from_ x_706.job x_706.refJob x_706.refTask x_706.err 4 2 0 0 1 2 0)) ?_
  refine wU [15] ?_
  refine wN ?_
  refine thenK_n <| ?_
  have hc_714 : (x_706.kind : Int) = 4 ∧ (x_706.worker : Int) = 2 ∧ (x_706.from_ : Int) = 0 ∧ (x_706.job : Int) = 0 ∧ (x_706.refJob : Int) = 1 ∧ (x_706.refTask : Int) = 2 ∧ (x_706.err : Int) = 0 := (by subst hxl_x_706; exact ⟨rfl, rfl, rfl, rfl, rfl, rfl, rfl⟩)
  refine cF _ (congrArg Bool.not (show (((x_706.kind : Int) == 4) && ((x_706.worker : Int) == 2) && ((x_706.from_ : Int) == 0) && ((x_706.job : Int) == 0) && ((x_706.refJob : Int) == 1) && ((x_706.refTask : Int) == 2) && ((x_706.err : Int) == 0)) = true from by simpa [and_assoc] using hc_714)) ?_
  refine skipE <| blockK_n <| thenK_n <| regionE <| pu3 <| nilO <| thenK_n <| ?_
  refine roundS ?_
  refine seqE <| seqE <| regionE <| pu8 <| nilO <| thenK_n <| cTt <| skipE <| thenK_n <| seqE <| blockE <| seqE <| regionE <| pu2 ?_
  have hS_715 := (hS_713.pick 2 rfl)
  refine cX Try.call23 (pf_step hR_699 hJ_700.i 3 0 hJ_700.t (by omega) (Sat.flat1 hS_715)) ?_
  rintro _ w_716 ⟨az_719, nz_720, kz_721, Z_722, M_723, rfl, hO_724, hR_725, hS_717⟩
  have hS_718 := Sat.unflat2 hS_717; have hn_az_719 := hO_724.len; have hl_az_719 := hO_724.le
  have hJ_726 := FJ.step (x := 3) (c := 0) hJ_700 (by omega)
  have he_727 : (stepF (prS r_3 r_7 3 3) 3 0).2 = ([(⟨4, 3, 0, 0, 0, 0, 0⟩ : Evt)], 0) := (pr_ev (x := r_3) (y := r_7) (m := 3) (w := 3) (by omega) (by omega) (by decide) (by decide) (f := 1) (by rw [if_pos hc_628]))
  have he_727_c := congrArg Prod.snd he_727; have he_727_l := congrArg Prod.fst he_727; dsimp only at he_727_c he_727_l; rw [he_727_c]; rw [he_727_l] at hO_724 hn_az_719
  obtain rfl : 1 = nz_720 := hn_az_719
  have hR_728 : FarmP p_565 (prS r_3 r_7 3 4) M_723 := by skip; exact hR_725
  have hJ_729 : FJ (prS r_3 r_7 3 4) 4 2 := by skip; exact hJ_726
  refine pu5 <| nilO <| thenK_n <| seqE <| regionE <| pu3 ?_
  refine sAlloc hS_718 Try.zeroValue48 ?_
  intro b_730 w_731 hS_732
  refine sT hS_732 0 0 (.agg #[.int .i64 1, .int .i64 3]) [.int .i64 1, .int .i64 3] #[.int .i64 1, .int .i64 3] Try.sizeOf48 ?_
  intro w_733 hS_734
  refine nilO <| thenK_n <| seqE <| seqE <| regionE <| pu3 <| nilO <| thenK_n <| cTt <| regionE <| pu6 ?_
  refine sT hS_734 0 0 (.agg #[.int .i64 0, .int .i64 0]) [.int .i64 0, .int .i64 0] #[.int .i64 0, .int .i64 0] Try.sizeOf48 ?_
  intro w_735 hS_736
  refine nilO <| thenK_n <| seqE ?_
  obtain ⟨x_737, b_738, o_739, hx_740, hp_741, hq_742, ha_743⟩ := OwnT.elem hO_724 0
  change _[0]? = _ at hx_740; change PtR _ _ (_ + 0 * _) _ at hp_741; change ElemAt _ _ _ _ _ (_ + 0 * _) at hq_742
  have hxl_x_737 : x_737 = (⟨4, 3, 0, 0, 0, 0, 0⟩ : Evt) := (Option.some.inj hx_740).symm
  refine drawE [] [(10, ⟨b_738, o_739 + 0 * 7 + 0, none⟩, .int .i64 x_737.kind), (10, ⟨b_738, o_739 + 0 * 7 + 1, none⟩, .int .i64 x_737.worker), (10, ⟨b_738, o_739 + 0 * 7 + 2, none⟩, .int .i64 x_737.from_), (10, ⟨b_738, o_739 + 0 * 7 + 3, none⟩, .int .i64 x_737.job), (10, ⟨b_738, o_739 + 0 * 7 + 4, none⟩, .int .i64 x_737.refJob), (10, ⟨b_738, o_739 + 0 * 7 + 5, none⟩, .int .i64 x_737.refTask), (10, ⟨b_738, o_739 + 0 * 7 + 6, none⟩, .int .i64 x_737.err), (12, ⟨b_730, 0, none⟩, .int .i64 0), (12, ⟨b_730, 1, none⟩, .int .i64 0)] [(true, [0, 1, 2, 3, 4, 5, 6, 7, 8]), (true, [9]), (true, [11]), (true, [10]), (true, [12]), (true, [13]), (true, [14]), (true, [15])] rfl (by kernel_rfl) ⟨.inr ((hp_741.up 1 rfl).cell hS_736 (k := 0) rfl), .inr ((hp_741.up 1 rfl).cell hS_736 (k := 1) rfl), .inr ((hp_741.up 1 rfl).cell hS_736 (k := 2) rfl), .inr ((hp_741.up 1 rfl).cell hS_736 (k := 3) rfl), .inr ((hp_741.up 1 rfl).cell hS_736 (k := 4) rfl), .inr ((hp_741.up 1 rfl).cell hS_736 (k := 5) rfl), .inr ((hp_741.up 1 rfl).cell hS_736 (k := 6) rfl), .inr (hS_736.cell 0 rfl rfl), .inr (hS_736.cell 0 rfl rfl), trivial⟩ ?_
  have hS_744 := hS_736.drew
  refine wU [0, 1, 2, 3, 4, 5, 6, 7, 8] ?_
  refine wY (.pointer (some ⟨b_738, o_739 + 0 * 7, none⟩)) rfl (fun w _ => Y_idx (a := az_719) (i := 0) (len := 1) (cap := kz_721) rfl Try.runUnderlying44 Try.sizeOf50 (by kernel_rfl) (by kernel_rfl) hq_742) ?_
  refine wU [11] ?_
  refine wY (.agg (encEvt x_737).toArray) rfl (fun w hF => Y_loadF rfl (Try.isAgg50 w) (Try.sizeOf50 w) (by kernel_rfl) rfl ⟨hF 0 _ _ rfl, hF 1 _ _ rfl, hF 2 _ _ rfl, hF 3 _ _ rfl, hF 4 _ _ rfl, hF 5 _ _ rfl, hF 6 _ _ rfl, trivial⟩) ?_
  refine wY (.agg #[.int .i64 0, .int .i64 0]) rfl (fun w hF => Y_loadF rfl (Try.isAgg48 w) (Try.sizeOf48 w) (by kernel_rfl) rfl ⟨hF 7 _ _ rfl, hF 8 _ _ rfl, trivial⟩) ?_
  refine wU [13] ?_
  refine wY (.bool (!(((x_737.kind : Int) == 4) && ((x_737.worker : Int) == 3) && ((x_737.from_ : Int) == 0) && ((x_737.job : Int) == 0) && ((x_737.refJob : Int) == 0) && ((x_737.refTask : Int) == 0) && ((x_737.err : Int) == 0)))) rfl (fun w _ => Y_eqS rfl (by kernel_rfl) (by kernel_rfl) (eqvn50 _ x_737.kind x_737.worker x_737.from_ x_737.job x_737.refJob x_737.refTask x_737.err 4 3 0 0 0 0 0)) ?_
  refine wU [15] ?_
  refine wN ?_
  refine thenK_n <| ?_
  have hc_745 : (x_737.kind : Int) = 4 ∧ (x_737.worker : Int) = 3 ∧ (x_737.from_ : Int) = 0 ∧ (x_737.job : Int) = 0 ∧ (x_737.refJob : Int) = 0 ∧ (x_737.refTask : Int) = 0 ∧ (x_737.err : Int) = 0 := (by subst hxl_x_737; exact ⟨rfl, rfl, rfl, rfl, rfl, rfl, rfl⟩)
  refine cF _ (congrArg Bool.not (show (((x_737.kind : Int) == 4) && ((x_737.worker : Int) == 3) && ((x_737.from_ : Int) == 0) && ((x_737.job : Int) == 0) && ((x_737.refJob : Int) == 0) && ((x_737.refTask : Int) == 0) && ((x_737.err : Int) == 0)) = true from by simpa [and_assoc] using hc_745)) ?_
  refine skipE <| blockK_n <| thenK_n <| regionE <| pu3 <| nilO <| thenK_n <| ?_
  refine roundS ?_
  refine seqE <| seqE <| regionE <| pu8 <| nilO <| thenK_n <| cFf <| exitE <| thenK_x <| thenK_x <| blockK_x <| thenK_n <| seqE <| regionE ?_
  refine cX Try.call24 (l27_sane hS_744) ?_
  rintro _ w_746 ⟨rfl, hS_747⟩
  refine pu1 <| nilO <| thenK_n <| retE <| retT [.bool true] <| ?_
  have hS_748 := (hS_747.pick 13 rfl)
  have hS_749 := hS_748.dropAt 1 rfl
  have hS_750 := hS_749.dropAt 1 rfl
  have hS_751 := hS_750.dropAt 1 rfl
  have hS_752 := hS_751.dropAt 1 rfl
  have hS_753 := hS_752.dropAt 1 rfl
  have hS_754 := hS_753.dropAt 1 rfl
  have hS_755 := hS_754.dropAt 1 rfl
  have hS_756 := hS_755.dropAt 1 rfl
  have hS_757 := hS_756.dropAt 1 rfl
  have hS_758 := hS_757.dropAt 1 rfl
  have hS_759 := hS_758.dropAt 1 rfl
  have hS_760 := hS_759.dropAt 1 rfl
  have hS_761 := hS_760.dropAt 1 rfl
  exact ⟨rfl, hS_761⟩
end Go.Proofs.Ytegmennaekipaaa
