import Derived.Test.YtegmennaekipaaaLw4
namespace Go.Proofs.Ytegmennaekipaaa
open Go Go.E
set_option linter.unusedVariables false
set_option linter.unusedSimpArgs false
set_option linter.unnecessarySimpa false
set_option maxRecDepth 100000
set_option maxHeartbeats 2000000
variable {W w : World} {H : Chunk} {F : List Chunk}
/-! ### FarmWorkers -/
structure WF (F : FS) (v : Wkr) : Prop where
  u : 0 ≤ v.used ∧ v.used ≤ v.high ∧ v.high ≤ F.cfg.arena
  z : v.phase = 0 ∨ v.phase = 4 → v.used = 0 ∧ v.row = 0 ∧ v.heldJob = 0 ∧ v.heldTask = 0
  h : ¬ (v.phase = 0 ∨ v.phase = 4) → (v.phase = 1 ∨ v.phase = 2 ∨ v.phase = 3) ∧ 0 ≤ v.heldTask ∧ v.heldTask < (((tasksF F v.heldJob).length : Nat) : Int) ∧ stateF F v.heldJob v.heldTask = 3 ∧
    ∀ x, (tasksF F v.heldJob)[v.heldTask.toNat]? = some x → v.row ≤ x.rows ∧ (v.phase = 1 → v.used = 0) ∧ (v.phase ≠ 1 → v.used = x.scratch)
theorem held_in {B : BS} {i a : Int} (h : heldC B i a = 0) : (0 ≤ i ∧ i < ((B.deps.length : Nat) : Int)) ∧ stAt B.st i = 3 := by
  unfold heldC at h
  split at h
  · rename_i h1
    split at h
    · rename_i h2; exact ⟨h1, h2.1⟩
    · cases h
  · cases h
theorem wk_ok {F : FS} {K : Int} (hF : FI F K) {i : Nat} {v : Wkr} (hv : F.ws[i]? = some v) : WF F v := by
  have hw := hF.fw.w v (List.mem_of_getElem? hv)
  have hi := (List.getElem?_eq_some_iff.1 hv).1
  obtain ⟨a, ha⟩ := at_some hF.fw.al (k := i) hi
  have A := hF.a.a i v a hv ha
  have hb := A.b
  have hc := A.c
  have hu := A.u
  have hh := A.h
  refine ⟨by omega, ?_, ?_⟩
  · intro hp
    have h1 := hF.h.z i v hv (by unfold Holds; omega)
    have h2 := A.z (by omega)
    exact ⟨by omega, h1.2.2.2.1, h1.1, h1.2.1⟩
  · intro hp
    have hH : Holds v := by
      by_cases h : Holds v
      · exact h
      · have := hF.h.z i v hv h; omega
    obtain ⟨j, hj, hadd, hc2⟩ := hF.h.h i v hv hH
    have hx : 0 ≤ v.heldJob ∧ v.heldJob < 64 := hw.h
    obtain ⟨h1, h2⟩ := held_in hc2
    have hjo := hF.fw.j j (List.mem_of_getElem? hj)
    have hl := (hjo.b hadd).2.1
    rw [tasks_at hx hj hadd, state_at hx hj hadd]
    refine ⟨hH, h1.1, by omega, h2, ?_⟩
    intro x hx2
    have ht : taskAt F v = x := by
      unfold taskAt jobAt; rw [getD_some hj, getD_some hx2]
    have hm := hF.a.t j (List.mem_of_getElem? hj) x (List.mem_of_getElem? hx2)
    refine ⟨?_, ?_, ?_⟩
    · rcases hH with h | h | h
      · have := A.r1 h; omega
      · have := A.r2 h; rw [ht] at this; omega
      · have := A.r3 h; rw [ht] at this; omega
    · intro h; have := A.z (by omega); omega
    · intro h
      have := A.m (by unfold Holds at hH; omega)
      rw [ht] at this; omega
theorem held_ne {F : FS} (h : HI F) {i k : Nat} {x y : Wkr} (hx : F.ws[i]? = some x) (hy : F.ws[k]? = some y) (hn : i ≠ k) (hp : x.phase = 1 ∨ x.phase = 2 ∨ x.phase = 3) (hq : y.phase = 1 ∨ y.phase = 2 ∨ y.phase = 3) : ¬ (x.heldJob = y.heldJob ∧ x.heldTask = y.heldTask) :=
  h.d i k x y hx hy hn hp hq
theorem heldN_yes {l : List Wkr} {i : Nat} {v : Wkr} (h : l[i]? = some v) (hp : v.phase = 1 ∨ v.phase = 2 ∨ v.phase = 3) : heldN (l.take (i + 1)) = heldN (l.take i) + 1 := by
  rw [heldN_take h, if_pos (by unfold holdsB; exact decide_eq_true hp)]
theorem heldN_no {l : List Wkr} {i : Nat} {v : Wkr} (h : l[i]? = some v) (hp : ¬ (v.phase = 1 ∨ v.phase = 2 ∨ v.phase = 3)) : heldN (l.take (i + 1)) = heldN (l.take i) := by
  rw [heldN_take h, if_neg (by unfold holdsB; rw [decide_eq_false hp]; simp)]; omega
theorem held_all {F : FS} {K : Int} {n : Nat} (h : FJ F K n) : (statsF F).held = heldN F.ws := by
  show F.st.held + heldN F.ws = _
  rw [h.h]; omega
set_option maxHeartbeats 6000000
theorem l27_workers (W w : World) (H : Chunk) (F : List Chunk) (t : Option Addr) (nt kt : Nat) (xt : List Int) (ht : RdT encI 1 [H] t nt kt xt) (hS : Sat W w (H :: F)) :
    Calls Try.prog 10 #[.slice t nt kt] w fun e w' => e = .returned (.bool true) ∧ Sat W w' (H :: F) := by
  have hlt := ht.le
  refine callsA 193 Try.func10 rfl ?_
  refine seqE <| regionE <| pu1 <| nilO <| thenK_n <| seqE <| regionE <| pu1 ?_
  refine cX Try.call11 (tape_new t nt kt hS) ?_
  rintro _ w_1 ⟨p_3, rfl, hS_2⟩
  have hle_4 := ht.le
  refine pu1 <| nilO <| thenK_n <| seqE <| regionE <| pu1 ?_
  refine cX Try.call33 (l27_play (RdT.flat (ht.up 0 (by rfl))) (by omega) (Sat.flat1 hS_2) 60 (by omega)) ?_
  rintro _ w_5 ⟨c_7, pf_8, F1_9, M1_10, nj_11, rfl, hv_12, hc_13, hR_14, hPJ_15, hn_16, i_17, hi_18, hS_6⟩
  have hS_19 := Sat.unflat2 hS_6
  refine pu3 ?_
  refine sAlloc hS_19 Try.zeroValue41 ?_
  intro b_20 w_21 hS_22
  refine pu1 ?_
  refine sT hS_22 0 0 (.agg (encCfg c_7).toArray) (encCfg c_7) (encCfg c_7).toArray Try.sizeOf41 ?_
  intro w_23 hS_24
  refine nilO ?_
  have hvc0 := validCfg_zero hv_12; have hpc := hc_13; have hFI := hPJ_15.j.i; have hpw := hPJ_15.ws; have hpn := hn_16
  have hcf := hPJ_15.cf
  refine thenK_n <| seqE <| seqE <| regionE <| pu2 <| nilO <| thenK_n <| cFf <| skipE <| thenK_n <| seqE <| regionE <| pu1 ?_
  have hS_25 := (hS_24.pick 2 rfl)
  refine cX Try.call29 (pf_workers hR_14 hPJ_15.j.i   (Sat.flat1 hS_25)) ?_
  rintro _ w_26 ⟨az_29, nz_30, kz_31, Z_32, rfl, hO_33, hS_27⟩
  have hS_28 := Sat.unflat2 hS_27; have hn_az_29 := hO_33.len; have hl_az_29 := hO_33.le
  refine pu1 ?_
  have hS_34 := (hS_28.pick 1 rfl)
  refine cX Try.call30 (pf_jobs hR_14 hPJ_15.j.i  (hPJ_15.j.r12 (by omega)) (Sat.flat1 hS_34)) ?_
  rintro _ w_35 ⟨az_38, nz_39, kz_40, Z_41, rfl, hO_42, hS_36⟩
  have hS_37 := Sat.unflat2 hS_36; have hn_az_38 := hO_42.len; have hl_az_38 := hO_42.le
  refine pu3 <| nilO ?_
  have hj12_ := hPJ_15.j.r12 (by omega)
  refine thenK_n <| seqE <| seqE <| regionE <| pu3 ?_
  refine sL hS_37 3 0 (.int .i64 c_7.workers) (Try.isAgg3 _) ?_
  refine pu1 <| nilO <| thenK_n <| ?_
  refine cN ((nz_30 : Nat) : Int) c_7.workers (fun hc_43 => ?_) (fun hc_43 => ?_)
  rotate_left
  · refine seqE <| regionE <| pu1 <| nilO <| thenK_n <| retE <| thenK_r <| retT [.bool false] <| ?_
    first | omega
  refine skipE <| thenK_n <| seqE <| seqE <| regionE <| pu1 <| nilO <| thenK_n <| blockE ?_
  refine loopA (γ := Nat × Int) (fun ⟨i, hd⟩ => [(5, .pointer (some ⟨b_20, 0, none⟩)), (4, .pointer (some ⟨pf_8, 0, none⟩)), (6, .slice az_29 nz_30 kz_31), (7, .slice az_38 nz_39 kz_40), (9, .int .i64 ((i : Nat) : Int)), (8, .int .i64 hd)]) (fun ⟨i, hd⟩ w => Sat W w (Z_41 :: M1_10 :: Z_32 :: [(b_20, .cells (encCfg c_7).toArray 41 (0, 0))] :: [(p_3, .cells #[.slice t nt kt, .int .i64 i_17] 71 (0, 0))] :: H :: F) ∧ i ≤ nz_30 ∧ (hd = heldN (F1_9.ws.take i)) ∧ (0 ≤ hd ∧ hd ≤ i)) (fun ⟨i, hd⟩ => nz_30 - i) (0, 0) ⟨hS_37, by omega, rfl, by omega⟩ ?_
  rintro ⟨i, hd⟩ ρ w_44 ⟨hS_45, hi, hhd, hhb⟩
  refine seqE <| seqE <| regionE <| pu4 <| nilO <| thenK_n <| ?_
  refine cD (((i : Nat) : Int) < ((nz_30 : Nat) : Int)) (fun hc_46 => ?_) (fun hc_46 => ?_)
  rotate_left
  · refine exitE <| thenK_x <| thenK_x <| blockK_x <| thenK_n <| seqE ?_
    rw [List.take_of_length_le (by omega)] at hhd
    refine regionE <| pu1 ?_
    have hS_240 := (hS_45.pick 1 rfl)
    refine cX Try.call28 (pf_stats hR_14 hPJ_15.j.i hPJ_15.j.h (Sat.flat1 hS_240)) ?_
    rintro _ w_241 ⟨rfl, hS_242⟩
    have hS_243 := Sat.unflat1 hS_242
    obtain ⟨s_244, hs_245⟩ : ∃ z, z = statsF F1_9 := ⟨_, rfl⟩; rw [← hs_245]
    have hsh_ : s_244.held = _ := (congrArg Stt.held hs_245).trans (held_all hPJ_15.j)
    refine pu4 ?_
    refine sE 190 s_244.held hd (fun hc_246 => ?_) (fun hc_246 => ?_)
    rotate_left
    · refine pu3 <| nilO <| thenK_n <| retE <| retT [.bool false] <| ?_
      first | omega
    refine gY ?_
    refine cX Try.call24 (l27_sane hS_243) ?_
    rintro _ w_247 ⟨rfl, hS_248⟩
    refine pu2 <| nilO <| thenK_n <| retE <| retT [.bool true] <| ?_
    have hS_249 := (hS_248.pick 5 rfl)
    have hS_250 := hS_249.dropAt 1 rfl
    have hS_251 := hS_250.dropAt 1 rfl
    have hS_252 := hS_251.dropAt 1 rfl
    have hS_253 := hS_252.dropAt 1 rfl
    have hS_254 := hS_253.dropAt 1 rfl
    exact ⟨rfl, hS_254⟩
  refine skipE <| thenK_n <| seqE <| blockE <| seqE <| regionE <| pu2 ?_
  refine sIdxO hO_33 ((i : Nat) : Int) i Try.runUnderlying57 Try.sizeOf61 ?_
  intro x_47 b_48 o_49 hx_50 hp_51 hq_52
  have hWF := wk_ok hFI hx_50; have hWu := hWF.u; rw [hcf] at hWu
  refine sLpA hS_45 (hp_51.up 2 rfl) 0 (encWkr x_47) (Try.isAgg61 _) (Try.sizeOf61 _) ?_
  refine sAlloc hS_45 Try.zeroValue61 ?_
  intro b_53 w_54 hS_55
  refine sT hS_55 0 0 (.agg (encWkr x_47).toArray) (encWkr x_47) (encWkr x_47).toArray Try.sizeOf61 ?_
  intro w_56 hS_57
  refine nilO <| thenK_n <| seqE <| seqE <| regionE <| pu1 ?_
  refine sL hS_57 0 5 (.int .i64 x_47.used) (Try.isAgg3 _) ?_
  refine pu1 ?_
  refine sL hS_57 0 6 (.int .i64 x_47.high) (Try.isAgg3 _) ?_
  refine pu2 ?_
  refine sD 47 (x_47.used > x_47.high) (fun hc_58 => ?_) (fun hc_58 => ?_)
  · refine pu11 <| nilO <| thenK_n <| cTt <| seqE <| regionE <| pu1 <| nilO <| thenK_n <| retE <| thenK_r <| blockK_r <| thenK_r <| thenK_r <| blockK_r <| thenK_r <| retT [.bool false] <| ?_
    first | omega
  refine pu1 <| gY ?_
  refine sL hS_57 0 6 (.int .i64 x_47.high) (Try.isAgg3 _) ?_
  refine pu1 <| gY ?_
  refine sL hS_57 4 3 (.int .i64 c_7.arena) (Try.isAgg3 _) ?_
  refine pu3 ?_
  refine sD 54 (x_47.high > c_7.arena) (fun hc_59 => ?_) (fun hc_59 => ?_)
  · refine pu4 <| nilO <| thenK_n <| cTt <| seqE <| regionE <| pu1 <| nilO <| thenK_n <| retE <| thenK_r <| blockK_r <| thenK_r <| thenK_r <| blockK_r <| thenK_r <| retT [.bool false] <| ?_
    first | omega
  refine pu1 <| gY ?_
  refine sL hS_57 0 5 (.int .i64 x_47.used) (Try.isAgg3 _) ?_
  refine pu2 <| nilO <| thenK_n <| ?_
  refine cD (x_47.used < 0) (fun hc_60 => ?_) (fun hc_60 => ?_)
  · refine seqE <| regionE <| pu1 <| nilO <| thenK_n <| retE <| thenK_r <| blockK_r <| thenK_r <| thenK_r <| blockK_r <| thenK_r <| retT [.bool false] <| ?_
    first | omega
  refine skipE <| thenK_n <| seqE <| seqE <| regionE <| pu1 ?_
  refine sL hS_57 0 0 (.int .i64 x_47.phase) (Try.isAgg3 _) ?_
  refine pu2 ?_
  refine sE 62 x_47.phase 0 (fun hc_61 => ?_) (fun hc_61 => ?_)
  · refine pu4 <| nilO <| thenK_n <| cTt <| seqE <| seqE ?_
    have hWz := hWF.z (by omega)
    refine regionE <| pu1 ?_
    refine sL hS_57 0 5 (.int .i64 x_47.used) (Try.isAgg3 _) ?_
    refine pu2 ?_
    refine sN 70 x_47.used 0 (fun hc_62 => ?_) (fun hc_62 => ?_)
    rotate_left
    · refine pu10 <| nilO <| thenK_n <| cTt <| seqE <| regionE <| pu1 <| nilO <| thenK_n <| retE <| thenK_r <| thenK_r <| blockK_r <| thenK_r <| thenK_r <| blockK_r <| thenK_r <| retT [.bool false] <| ?_
      first | omega
    refine pu1 <| gY ?_
    refine sL hS_57 0 4 (.int .i64 x_47.row) (Try.isAgg3 _) ?_
    refine pu3 ?_
    refine sN 75 x_47.row 0 (fun hc_63 => ?_) (fun hc_63 => ?_)
    rotate_left
    · refine pu5 <| nilO <| thenK_n <| cTt <| seqE <| regionE <| pu1 <| nilO <| thenK_n <| retE <| thenK_r <| thenK_r <| blockK_r <| thenK_r <| thenK_r <| blockK_r <| thenK_r <| retT [.bool false] <| ?_
      first | omega
    refine pu1 <| gY ?_
    refine lA hS_57 0 1 2 (Try.isAgg48 _) (Try.sizeOf48 _) ?_
    refine pu1 <| gY ?_
    refine stepY (.bool (!(((x_47.heldJob : Int) == 0) && ((x_47.heldTask : Int) == 0)))) rfl rfl (Y_eqS rfl (by kernel_rfl) (by kernel_rfl) (eqvn48 _ x_47.heldJob x_47.heldTask 0 0)) ?_
    refine pu1 <| nilO <| thenK_n <| ?_
    rcases Classical.em ((x_47.heldJob : Int) = 0 ∧ (x_47.heldTask : Int) = 0) with hc_64 | hc_64
    rotate_left
    · refine cT _ (congrArg Bool.not (show (((x_47.heldJob : Int) == 0) && ((x_47.heldTask : Int) == 0)) = false from by simpa using hc_64)) ?_
      refine seqE <| regionE <| pu1 <| nilO <| thenK_n <| retE <| thenK_r <| thenK_r <| blockK_r <| thenK_r <| thenK_r <| blockK_r <| thenK_r <| retT [.bool false] <| ?_
      first | omega
    refine cF _ (congrArg Bool.not (show (((x_47.heldJob : Int) == 0) && ((x_47.heldTask : Int) == 0)) = true from by simpa using hc_64)) ?_
    refine skipE <| thenK_n <| exitE <| thenK_x <| blockK_x <| thenK_n <| regionE <| pu1 ?_
    refine sAdd ((i : Nat) : Int) 1 ?_
    refine pu1 <| nilO <| thenK_n <| ?_
    have hS_65 := (hS_57.dropAt 0 rfl)
    exact ⟨(i + 1, hd), by first | omega | (dsimp only; omega), alA, hS_65, by omega, (by rw [heldN_no hx_50 (by omega)]; omega), by omega⟩
  refine pu1 <| gY ?_
  refine sL hS_57 0 0 (.int .i64 x_47.phase) (Try.isAgg3 _) ?_
  refine pu2 <| nilO <| thenK_n <| ?_
  refine cE x_47.phase 4 (fun hc_66 => ?_) (fun hc_66 => ?_)
  · refine seqE <| seqE ?_
    have hWz := hWF.z (by omega)
    refine regionE <| pu1 ?_
    refine sL hS_57 0 5 (.int .i64 x_47.used) (Try.isAgg3 _) ?_
    refine pu2 ?_
    refine sN 70 x_47.used 0 (fun hc_67 => ?_) (fun hc_67 => ?_)
    rotate_left
    · refine pu10 <| nilO <| thenK_n <| cTt <| seqE <| regionE <| pu1 <| nilO <| thenK_n <| retE <| thenK_r <| thenK_r <| blockK_r <| thenK_r <| thenK_r <| blockK_r <| thenK_r <| retT [.bool false] <| ?_
      first | omega
    refine pu1 <| gY ?_
    refine sL hS_57 0 4 (.int .i64 x_47.row) (Try.isAgg3 _) ?_
    refine pu3 ?_
    refine sN 75 x_47.row 0 (fun hc_68 => ?_) (fun hc_68 => ?_)
    rotate_left
    · refine pu5 <| nilO <| thenK_n <| cTt <| seqE <| regionE <| pu1 <| nilO <| thenK_n <| retE <| thenK_r <| thenK_r <| blockK_r <| thenK_r <| thenK_r <| blockK_r <| thenK_r <| retT [.bool false] <| ?_
      first | omega
    refine pu1 <| gY ?_
    refine lA hS_57 0 1 2 (Try.isAgg48 _) (Try.sizeOf48 _) ?_
    refine pu1 <| gY ?_
    refine stepY (.bool (!(((x_47.heldJob : Int) == 0) && ((x_47.heldTask : Int) == 0)))) rfl rfl (Y_eqS rfl (by kernel_rfl) (by kernel_rfl) (eqvn48 _ x_47.heldJob x_47.heldTask 0 0)) ?_
    refine pu1 <| nilO <| thenK_n <| ?_
    rcases Classical.em ((x_47.heldJob : Int) = 0 ∧ (x_47.heldTask : Int) = 0) with hc_69 | hc_69
    rotate_left
    · refine cT _ (congrArg Bool.not (show (((x_47.heldJob : Int) == 0) && ((x_47.heldTask : Int) == 0)) = false from by simpa using hc_69)) ?_
      refine seqE <| regionE <| pu1 <| nilO <| thenK_n <| retE <| thenK_r <| thenK_r <| blockK_r <| thenK_r <| thenK_r <| blockK_r <| thenK_r <| retT [.bool false] <| ?_
      first | omega
    refine cF _ (congrArg Bool.not (show (((x_47.heldJob : Int) == 0) && ((x_47.heldTask : Int) == 0)) = true from by simpa using hc_69)) ?_
    refine skipE <| thenK_n <| exitE <| thenK_x <| blockK_x <| thenK_n <| regionE <| pu1 ?_
    refine sAdd ((i : Nat) : Int) 1 ?_
    refine pu1 <| nilO <| thenK_n <| ?_
    have hS_70 := (hS_57.dropAt 0 rfl)
    exact ⟨(i + 1, hd), by first | omega | (dsimp only; omega), alA, hS_70, by omega, (by rw [heldN_no hx_50 (by omega)]; omega), by omega⟩
  refine skipE <| thenK_n <| seqE <| regionE <| pu1 ?_
  refine sAdd hd 1 ?_
  refine pu1 <| nilO <| thenK_n <| seqE ?_
  have hWh := hWF.h (by omega)
  refine regionE <| pu3 ?_
  refine sL hS_57 0 1 (.int .i64 x_47.heldJob) (Try.isAgg3 _) ?_
  have hS_71 := (hS_57.pick 2 rfl)
  refine cX Try.call38 (pf_tasks hR_14 hPJ_15.j.i x_47.heldJob (Sat.flat1 hS_71)) ?_
  rintro _ w_72 ⟨az_75, nz_76, kz_77, zs_78, C_79, G_80, rfl, hO_81, hD_82, hV_83, hS_73⟩
  have hS_74 := Sat.unflat3 hS_73; have hn_az_75 := hO_81.len; have hl_az_75 := hO_81.le
  refine pu1 <| nilO ?_
  have htl_ : zs_78.length = (tasksF F1_9 x_47.heldJob).length := by rw [← hV_83, List.length_map]
  refine thenK_n <| seqE <| seqE ?_
  by_cases hc_84 : (x_47.heldTask : Int) < 0
  · refine drawE [20] [(2, ⟨b_53, 2, none⟩, .int .i64 x_47.heldTask)] [(true, [0, 1]), (true, [2]), (true, [3, 4]), (true, [5, 6, 8, 9, 7, 10, 11, 12, 13, 14, 15, 17, 18, 16, 19]), (false, [20]), (true, [21, 22, 23, 24, 26, 27, 28, 25, 29, 30, 31, 32, 33, 34])] rfl (by kernel_rfl) ⟨.inr (hS_74.cell 3 rfl rfl), trivial⟩ ?_
    have hS_85 := hS_74.drew
    refine wU [0, 1] ?_
    refine wLd (.int .i64 x_47.heldTask) 0 Try.isAgg3 ?_
    refine wU [3, 4] ?_
    refine wFix 92 _ true (decide_eq_true hc_84) ?_
    refine wU [5, 6, 8, 9, 7, 10, 11, 12, 13, 14, 15, 17, 18, 16, 19] ?_
    refine wO rfl ?_
    refine pu1 ?_
    refine nilO ⟨⟨.inr (hS_85.cell 3 rfl rfl), trivial⟩, ?_⟩
    refine wU [21, 22, 23, 24, 26, 27, 28, 25, 29, 30, 31, 32, 33, 34] ?_
    refine wN ?_
    refine thenK_n <| cTt <| seqE <| regionE <| pu1 <| nilO <| thenK_n <| retE <| thenK_r <| blockK_r <| thenK_r <| thenK_r <| blockK_r <| thenK_r <| retT [.bool false] <| ?_
    first | omega
  by_cases hc_86 : (x_47.heldTask : Int) ≥ ((nz_76 : Nat) : Int)
  · refine drawE [20] [(2, ⟨b_53, 2, none⟩, .int .i64 x_47.heldTask), (7, ⟨b_53, 2, none⟩, .int .i64 x_47.heldTask)] [(true, [0, 1]), (true, [2]), (true, [3, 4]), (true, [5, 6, 8, 9]), (true, [7]), (true, [10, 11, 12]), (true, [13, 14, 15, 17, 18, 16, 19]), (false, [20]), (true, [21, 22, 23, 24, 26, 27, 28, 25, 29, 30, 31, 32, 33, 34])] rfl (by kernel_rfl) ⟨.inr (hS_74.cell 3 rfl rfl), .inr (hS_74.cell 3 rfl rfl), trivial⟩ ?_
    have hS_87 := hS_74.drew
    refine wU [0, 1] ?_
    refine wLd (.int .i64 x_47.heldTask) 0 Try.isAgg3 ?_
    refine wU [3, 4] ?_
    refine wFix 92 _ false (decide_eq_false hc_84) ?_
    refine wU [5, 6, 8, 9] ?_
    refine wLd (.int .i64 x_47.heldTask) 1 Try.isAgg3 ?_
    refine wU [10, 11, 12] ?_
    refine wFix 100 _ true (decide_eq_true hc_86) ?_
    refine wU [13, 14, 15, 17, 18, 16, 19] ?_
    refine wO rfl ?_
    refine pu1 ?_
    refine nilO ⟨⟨.inr (hS_87.cell 3 rfl rfl), .inr (hS_87.cell 3 rfl rfl), trivial⟩, ?_⟩
    refine wU [21, 22, 23, 24, 26, 27, 28, 25, 29, 30, 31, 32, 33, 34] ?_
    refine wN ?_
    refine thenK_n <| cTt <| seqE <| regionE <| pu1 <| nilO <| thenK_n <| retE <| thenK_r <| blockK_r <| thenK_r <| thenK_r <| blockK_r <| thenK_r <| retT [.bool false] <| ?_
    first | omega
  refine drawP [20, 25, 29, 32] [(2, ⟨b_53, 2, none⟩, .int .i64 x_47.heldTask), (7, ⟨b_53, 2, none⟩, .int .i64 x_47.heldTask), (16, ⟨b_53, 1, none⟩, .int .i64 x_47.heldJob), (19, ⟨b_53, 2, none⟩, .int .i64 x_47.heldTask)] (Plan.sts [0, 1] <| Plan.sts [2] <| Plan.sts [3, 4] <| Plan.sts [5, 6, 8, 9] <| Plan.sts [7] <| Plan.sts [10, 11, 12] <| Plan.sts [13, 14, 15, 17, 18] <| Plan.sts [16] <| Plan.sts [19] <| .ef 20 <| Plan.sts [21] <| Plan.sts [22, 23] <| Plan.sts [24] <| Plan.sts [26] <| Plan.sts [27] <| Plan.sts [28] <| .fk 25 29 (.ef 29 <| Plan.sts [30] <| Plan.sts [31] <| .ef 32 <| Plan.sts [33] <| Plan.sts [34] <| .fin) (Plan.sts [30] <| Plan.sts [31] <| .fk 25 32 (.ef 32 <| Plan.sts [33] <| Plan.sts [34] <| .fin) (.ef 25 <| Plan.sts [33] <| Plan.sts [34] <| .fin))) rfl (by kernel_rfl) ⟨.inr (hS_74.cell 3 rfl rfl), .inr (hS_74.cell 3 rfl rfl), .inr (hS_74.cell 3 rfl rfl), .inr (hS_74.cell 3 rfl rfl), trivial⟩ ?_
  have hS_88 := hS_74.drew
  refine qU [0, 1] ?_
  refine qLd (.int .i64 x_47.heldTask) 0 Try.isAgg3 ?_
  refine qU [3, 4] ?_
  refine qFix 92 _ false (decide_eq_false hc_84) ?_
  refine qU [5, 6, 8, 9] ?_
  refine qLd (.int .i64 x_47.heldTask) 1 Try.isAgg3 ?_
  refine qU [10, 11, 12] ?_
  refine qFix 100 _ false (decide_eq_false hc_86) ?_
  refine qU [13, 14, 15, 17, 18] ?_
  refine qLd (.int .i64 x_47.heldJob) 2 Try.isAgg3 ?_
  refine qLd (.int .i64 x_47.heldTask) 3 Try.isAgg3 ?_
  refine qO rfl ?_
  refine gY ?_
  have hS_89 := (hS_88.pick 2 rfl)
  refine cX Try.call37 (pf_state hR_14 hPJ_15.j.i x_47.heldJob x_47.heldTask (Sat.flat1 hS_89)) ?_
  rintro _ w_90 ⟨rfl, hS_91⟩
  have hS_92 := Sat.unflat1 hS_91
  refine nilO ⟨⟨.inr (hS_92.cell 3 rfl rfl), .inr (hS_92.cell 3 rfl rfl), .inl (by kernel_rfl), .inl (by kernel_rfl), trivial⟩, ?_⟩
  refine qU [21] <| qU [22, 23] ?_
  by_cases hc_93 : ((stateF F1_9 x_47.heldJob x_47.heldTask) : Int) = 3
  rotate_left
  · refine qFix 111 _ true (bne_iff_ne.2 hc_93) ?_
    refine qU [24] <| qU [26] <| qU [27] <| qU [28] ?_
    refine qF ?_ ?_
    · refine qO rfl ?_
      refine pu1 ?_
      refine nilO ⟨⟨.inr (hS_92.cell 3 rfl rfl), .inr (hS_92.cell 3 rfl rfl), .inl (by kernel_rfl), .inl (by kernel_rfl), trivial⟩, ?_⟩
      refine qO rfl ?_
      refine pu1 ?_
      refine nilO ⟨⟨.inr (hS_92.cell 3 rfl rfl), .inr (hS_92.cell 3 rfl rfl), .inl (by kernel_rfl), .inl (by kernel_rfl), trivial⟩, ?_⟩
      refine qU [30] <| qU [31] ?_
      refine qO rfl ?_
      refine pu1 ?_
      refine nilO ⟨⟨.inr (hS_92.cell 3 rfl rfl), .inr (hS_92.cell 3 rfl rfl), .inl (by kernel_rfl), .inl (by kernel_rfl), trivial⟩, ?_⟩
      refine qU [33] <| qU [34] ?_
      refine qN ?_
      refine thenK_n <| cTt <| seqE <| regionE <| pu1 <| nilO <| thenK_n <| retE <| thenK_r <| blockK_r <| thenK_r <| thenK_r <| blockK_r <| thenK_r <| retT [.bool false] <| ?_
      first | omega
    refine qO rfl ?_
    refine pu1 ?_
    refine nilO ⟨⟨.inr (hS_92.cell 3 rfl rfl), .inr (hS_92.cell 3 rfl rfl), .inl (by kernel_rfl), .inl (by kernel_rfl), trivial⟩, ?_⟩
    refine qU [30] <| qU [31] ?_
    refine qF ?_ ?_
    rotate_left
    · refine qO rfl ?_
      refine pu1 ?_
      refine nilO ⟨⟨.inr (hS_92.cell 3 rfl rfl), .inr (hS_92.cell 3 rfl rfl), .inl (by kernel_rfl), .inl (by kernel_rfl), trivial⟩, ?_⟩
      refine qO rfl ?_
      refine pu1 ?_
      refine nilO ⟨⟨.inr (hS_92.cell 3 rfl rfl), .inr (hS_92.cell 3 rfl rfl), .inl (by kernel_rfl), .inl (by kernel_rfl), trivial⟩, ?_⟩
      refine qU [33] <| qU [34] ?_
      refine qN ?_
      refine thenK_n <| cTt <| seqE <| regionE <| pu1 <| nilO <| thenK_n <| retE <| thenK_r <| blockK_r <| thenK_r <| thenK_r <| blockK_r <| thenK_r <| retT [.bool false] <| ?_
      first | omega
    refine qO rfl ?_
    refine pu1 ?_
    refine nilO ⟨⟨.inr (hS_92.cell 3 rfl rfl), .inr (hS_92.cell 3 rfl rfl), .inl (by kernel_rfl), .inl (by kernel_rfl), trivial⟩, ?_⟩
    refine qO rfl ?_
    refine pu1 ?_
    refine nilO ⟨⟨.inr (hS_92.cell 3 rfl rfl), .inr (hS_92.cell 3 rfl rfl), .inl (by kernel_rfl), .inl (by kernel_rfl), trivial⟩, ?_⟩
    refine qU [33] <| qU [34] ?_
    refine qN ?_
    refine thenK_n <| cTt <| seqE <| regionE <| pu1 <| nilO <| thenK_n <| retE <| thenK_r <| blockK_r <| thenK_r <| thenK_r <| blockK_r <| thenK_r <| retT [.bool false] <| ?_
    first | omega
  refine qFix 111 _ false (bne_eq_false_iff_eq.2 hc_93) ?_
  refine qU [24] <| qU [26] <| qU [27] <| qU [28] ?_
  refine qF ?_ ?_
  · refine qO rfl ?_
    refine gY ?_
    refine sL hS_92 3 4 (.int .i64 x_47.row) (Try.isAgg3 _) ?_
    refine nilO ⟨⟨.inr (hS_92.cell 3 rfl rfl), .inr (hS_92.cell 3 rfl rfl), .inl (by kernel_rfl), .inl (by kernel_rfl), trivial⟩, ?_⟩
    refine qO rfl ?_
    refine gY ?_
    refine sL hS_92 3 2 (.int .i64 x_47.heldTask) (Try.isAgg3 _) ?_
    refine nilO ⟨⟨.inr (hS_92.cell 3 rfl rfl), .inr (hS_92.cell 3 rfl rfl), .inl (by kernel_rfl), .inl (by kernel_rfl), trivial⟩, ?_⟩
    obtain ⟨x_94, b_95, o_96, hx_97, hp_98, hq_99, ha_100⟩ := OwnT.elem hO_81 x_47.heldTask
    obtain ⟨hWr_, hWa_, hWb_⟩ : x_47.row ≤ x_94.rows ∧ (x_47.phase = 1 → x_47.used = 0) ∧ (x_47.phase ≠ 1 → x_47.used = x_94.scratch) := hWh.2.2.2.2 x_94.v (by rw [← hV_83, List.getElem?_map, hx_97]; rfl)
    refine qY (.pointer (some ⟨b_95, o_96 + (x_47.heldTask).toNat * 9, none⟩)) rfl (fun w _ => Y_idx (a := az_75) (i := x_47.heldTask) (len := nz_76) (cap := kz_77) rfl Try.runUnderlying23 Try.sizeOf31 (by kernel_rfl) (by kernel_rfl) hq_99) ?_
    refine qU [31] ?_
    refine qO rfl ?_
    refine gY ?_
    refine sLp hS_92 (hp_98.up 1 rfl) 7 (.int .i64 x_94.rows) (Try.isAgg3 _) ?_
    refine nilO ⟨⟨.inr (hS_92.cell 3 rfl rfl), .inr (hS_92.cell 3 rfl rfl), .inl (by kernel_rfl), .inl (by kernel_rfl), trivial⟩, ?_⟩
    refine qU [33] <| qU [34] ?_
    refine qN ?_
    refine thenK_n <| ?_
    refine cD (x_47.row > x_94.rows) (fun hc_101 => ?_) (fun hc_101 => ?_)
    · refine seqE <| regionE <| pu1 <| nilO <| thenK_n <| retE <| thenK_r <| blockK_r <| thenK_r <| thenK_r <| blockK_r <| thenK_r <| retT [.bool false] <| ?_
      first | omega
    refine skipE <| thenK_n <| seqE <| seqE <| regionE <| pu3 ?_
    refine sL hS_92 3 2 (.int .i64 x_47.heldTask) (Try.isAgg3 _) ?_
    refine sIdxO hO_81 x_47.heldTask (x_47.heldTask).toNat Try.runUnderlying23 Try.sizeOf31 ?_
    intro x_102 b_103 o_104 hx_105 hp_106 hq_107
    obtain rfl : x_94 = x_102 := Option.some.inj (hx_97.symm.trans hx_105)
    obtain ⟨hWr_, hWa_, hWb_⟩ : x_47.row ≤ x_94.rows ∧ (x_47.phase = 1 → x_47.used = 0) ∧ (x_47.phase ≠ 1 → x_47.used = x_94.scratch) := hWh.2.2.2.2 x_94.v (by rw [← hV_83, List.getElem?_map, hx_105]; rfl)
    refine pu1 ?_
    refine sLp hS_92 (hp_106.up 1 rfl) 8 (.int .i64 x_94.scratch) (Try.isAgg3 _) ?_
    refine pu1 <| nilO <| thenK_n <| seqE <| regionE <| pu1 ?_
    refine sL hS_92 3 0 (.int .i64 x_47.phase) (Try.isAgg3 _) ?_
    refine pu2 ?_
    refine sE 133 x_47.phase 1 (fun hc_108 => ?_) (fun hc_108 => ?_)
    rotate_left
    · refine pu6 <| gY ?_
      refine sL hS_92 3 0 (.int .i64 x_47.phase) (Try.isAgg3 _) ?_
      refine pu2 ?_
      refine sFix 142 _ true (bne_iff_ne.2 hc_108) ?_
      refine pu1 <| gY ?_
      refine sL hS_92 3 5 (.int .i64 x_47.used) (Try.isAgg3 _) ?_
      refine pu4 <| nilO <| thenK_n <| ?_
      refine cN x_47.used x_94.scratch (fun hc_127 => ?_) (fun hc_127 => ?_)
      rotate_left
      · refine seqE <| regionE <| pu1 <| nilO <| thenK_n <| retE <| thenK_r <| blockK_r <| thenK_r <| thenK_r <| blockK_r <| thenK_r <| retT [.bool false] <| ?_
        first | omega
      refine skipE <| thenK_n <| seqE <| regionE <| pu1 <| nilO <| thenK_n <| blockE ?_
      refine loopA (γ := Nat) (fun j => [(5, .pointer (some ⟨b_20, 0, none⟩)), (4, .pointer (some ⟨pf_8, 0, none⟩)), (6, .slice az_29 nz_30 kz_31), (7, .slice az_38 nz_39 kz_40), (9, .int .i64 ((i : Nat) : Int)), (8, .int .i64 (hd + 1)), (10, .pointer (some ⟨b_53, 0, none⟩)), (13, .int .i64 ((j : Nat) : Int))]) (fun j w => Sat W w (M1_10 :: C_79 :: G_80 :: [(b_53, .cells (encWkr x_47).toArray 61 (0, 0))] :: Z_41 :: Z_32 :: [(b_20, .cells (encCfg c_7).toArray 41 (0, 0))] :: [(p_3, .cells #[.slice t nt kt, .int .i64 i_17] 71 (0, 0))] :: H :: F) ∧ j ≤ i) (fun j => i - j) 0 ⟨hS_92, by omega⟩ ?_
      rintro j ρ w_128 ⟨hS_129, hj⟩
      refine seqE <| seqE <| regionE <| pu3 <| nilO <| thenK_n <| ?_
      refine cD (((j : Nat) : Int) < ((i : Nat) : Int)) (fun hc_130 => ?_) (fun hc_130 => ?_)
      rotate_left
      · refine exitE <| thenK_x <| thenK_x <| blockK_x <| blockK_n <| thenK_n <| regionE <| pu1 ?_
        refine sAdd ((i : Nat) : Int) 1 ?_
        refine pu1 <| nilO <| thenK_n <| ?_
        have hS_144 := ((((hS_129.pick 4 rfl).dropAt 2 rfl).dropAt 2 rfl).dropAt 2 rfl)
        exact ⟨(i + 1, (hd + 1)), by first | omega | (dsimp only; omega), alA, hS_144, by omega, (by rw [heldN_yes hx_50 (by omega)]; omega), by omega⟩
      refine skipE <| thenK_n <| seqE <| blockE <| seqE ?_
      obtain ⟨x_131, b_132, o_133, hx_134, hp_135, hq_136, ha_137⟩ := OwnT.elem hO_33 ((j : Nat) : Int)
      rw [Int.toNat_natCast] at hx_134 hp_135 hq_136
      by_cases hc_138 : (x_131.phase : Int) = 0
      · refine drawE [29] [(4, ⟨b_132, o_133 + j * 7 + 0, none⟩, .int .i64 x_131.phase)] [(true, [0, 1]), (true, [2]), (true, [3]), (true, [4]), (true, [5, 6]), (true, [7, 8, 9, 10, 11, 12, 13, 14, 15, 16, 17, 18, 20, 19, 21, 22, 23, 24, 25, 26, 27, 28]), (false, [29]), (true, [30])] rfl (by kernel_rfl) ⟨.inr ((hp_135.up 5 rfl).cell hS_129 (k := 0) rfl), trivial⟩ ?_
        have hS_139 := hS_129.drew
        refine wU [0, 1] ?_
        refine wY (.pointer (some ⟨b_132, o_133 + j * 7, none⟩)) rfl (fun w _ => Y_idx (a := az_29) (i := ((j : Nat) : Int)) (len := nz_30) (cap := kz_31) rfl Try.runUnderlying57 Try.sizeOf61 (by kernel_rfl) (by kernel_rfl) hq_136) ?_
        refine wU [3] ?_
        refine wLd (.int .i64 x_131.phase) 0 Try.isAgg3 ?_
        refine wU [5, 6] ?_
        refine wFix 160 _ false (bne_eq_false_iff_eq.2 hc_138) ?_
        refine wU [7, 8, 9, 10, 11, 12, 13, 14, 15, 16, 17, 18, 20, 19, 21, 22, 23, 24, 25, 26, 27, 28] ?_
        refine wO rfl ?_
        refine pu1 ?_
        refine nilO ⟨⟨.inr ((hp_135.up 5 rfl).cell hS_139 (k := 0) rfl), trivial⟩, ?_⟩
        refine wU [30] ?_
        refine wN ?_
        refine thenK_n <| cFf <| skipE <| blockK_n <| thenK_n <| regionE <| pu1 ?_
        refine sAdd ((j : Nat) : Int) 1 ?_
        refine pu1 <| nilO <| thenK_n <| ?_
        exact ⟨j + 1, by first | omega | (dsimp only; omega), alA, hS_139, by omega⟩
      by_cases hc_140 : (x_131.phase : Int) = 4
      · refine drawE [29] [(4, ⟨b_132, o_133 + j * 7 + 0, none⟩, .int .i64 x_131.phase), (11, ⟨b_132, o_133 + j * 7 + 0, none⟩, .int .i64 x_131.phase)] [(true, [0, 1]), (true, [2]), (true, [3]), (true, [4]), (true, [5, 6]), (true, [7, 8]), (true, [9]), (true, [10]), (true, [11]), (true, [12, 13, 14]), (true, [15, 16, 17, 18, 20, 19, 21, 22, 23, 24, 25, 26, 27, 28]), (false, [29]), (true, [30])] rfl (by kernel_rfl) ⟨.inr ((hp_135.up 5 rfl).cell hS_129 (k := 0) rfl), .inr ((hp_135.up 5 rfl).cell hS_129 (k := 0) rfl), trivial⟩ ?_
        have hS_141 := hS_129.drew
        refine wU [0, 1] ?_
        refine wY (.pointer (some ⟨b_132, o_133 + j * 7, none⟩)) rfl (fun w _ => Y_idx (a := az_29) (i := ((j : Nat) : Int)) (len := nz_30) (cap := kz_31) rfl Try.runUnderlying57 Try.sizeOf61 (by kernel_rfl) (by kernel_rfl) hq_136) ?_
        refine wU [3] ?_
        refine wLd (.int .i64 x_131.phase) 0 Try.isAgg3 ?_
        refine wU [5, 6] ?_
        refine wFix 160 _ true (bne_iff_ne.2 hc_138) ?_
        refine wU [7, 8] ?_
        refine wY (.pointer (some ⟨b_132, o_133 + j * 7, none⟩)) rfl (fun w _ => Y_idx (a := az_29) (i := ((j : Nat) : Int)) (len := nz_30) (cap := kz_31) rfl Try.runUnderlying57 Try.sizeOf61 (by kernel_rfl) (by kernel_rfl) hq_136) ?_
        refine wU [10] ?_
        refine wLd (.int .i64 x_131.phase) 1 Try.isAgg3 ?_
        refine wU [12, 13, 14] ?_
        refine wFix 168 _ false (bne_eq_false_iff_eq.2 hc_140) ?_
        refine wU [15, 16, 17, 18, 20, 19, 21, 22, 23, 24, 25, 26, 27, 28] ?_
        refine wO rfl ?_
        refine pu1 ?_
        refine nilO ⟨⟨.inr ((hp_135.up 5 rfl).cell hS_141 (k := 0) rfl), .inr ((hp_135.up 5 rfl).cell hS_141 (k := 0) rfl), trivial⟩, ?_⟩
        refine wU [30] ?_
        refine wN ?_
        refine thenK_n <| cFf <| skipE <| blockK_n <| thenK_n <| regionE <| pu1 ?_
        refine sAdd ((j : Nat) : Int) 1 ?_
        refine pu1 <| nilO <| thenK_n <| ?_
        exact ⟨j + 1, by first | omega | (dsimp only; omega), alA, hS_141, by omega⟩
      have hWy := (wk_ok hFI hx_134).h (by omega)
      have hc_142 : ¬ ((x_131.heldJob : Int) = x_47.heldJob ∧ (x_131.heldTask : Int) = x_47.heldTask) := (held_ne hFI.h hx_134 hx_50 (by omega) hWy.1 hWh.1)
      refine drawE [29] [(4, ⟨b_132, o_133 + j * 7 + 0, none⟩, .int .i64 x_131.phase), (11, ⟨b_132, o_133 + j * 7 + 0, none⟩, .int .i64 x_131.phase), (19, ⟨b_132, o_133 + j * 7 + 1 + 0, none⟩, .int .i64 x_131.heldJob), (19, ⟨b_132, o_133 + j * 7 + 1 + 1, none⟩, .int .i64 x_131.heldTask), (21, ⟨b_53, 1, none⟩, .int .i64 x_47.heldJob), (21, ⟨b_53, 2, none⟩, .int .i64 x_47.heldTask)] [(true, [0, 1]), (true, [2]), (true, [3]), (true, [4]), (true, [5, 6]), (true, [7, 8]), (true, [9]), (true, [10]), (true, [11]), (true, [12, 13, 14]), (true, [15, 16]), (true, [17]), (true, [18, 20]), (true, [19]), (true, [21]), (true, [22]), (true, [23, 24]), (true, [25, 26, 27, 28]), (false, [29]), (true, [30])] rfl (by kernel_rfl) ⟨.inr ((hp_135.up 5 rfl).cell hS_129 (k := 0) rfl), .inr ((hp_135.up 5 rfl).cell hS_129 (k := 0) rfl), .inr ((hp_135.up 5 rfl).cell hS_129 (k := 1) rfl), .inr ((hp_135.up 5 rfl).cell hS_129 (k := 2) rfl), .inr (hS_129.cell 3 rfl rfl), .inr (hS_129.cell 3 rfl rfl), trivial⟩ ?_
      have hS_143 := hS_129.drew
      refine wU [0, 1] ?_
      refine wY (.pointer (some ⟨b_132, o_133 + j * 7, none⟩)) rfl (fun w _ => Y_idx (a := az_29) (i := ((j : Nat) : Int)) (len := nz_30) (cap := kz_31) rfl Try.runUnderlying57 Try.sizeOf61 (by kernel_rfl) (by kernel_rfl) hq_136) ?_
      refine wU [3] ?_
      refine wLd (.int .i64 x_131.phase) 0 Try.isAgg3 ?_
      refine wU [5, 6] ?_
      refine wFix 160 _ true (bne_iff_ne.2 hc_138) ?_
      refine wU [7, 8] ?_
      refine wY (.pointer (some ⟨b_132, o_133 + j * 7, none⟩)) rfl (fun w _ => Y_idx (a := az_29) (i := ((j : Nat) : Int)) (len := nz_30) (cap := kz_31) rfl Try.runUnderlying57 Try.sizeOf61 (by kernel_rfl) (by kernel_rfl) hq_136) ?_
      refine wU [10] ?_
      refine wLd (.int .i64 x_131.phase) 1 Try.isAgg3 ?_
      refine wU [12, 13, 14] ?_
      refine wFix 168 _ true (bne_iff_ne.2 hc_140) ?_
      refine wU [15, 16] ?_
      refine wY (.pointer (some ⟨b_132, o_133 + j * 7, none⟩)) rfl (fun w _ => Y_idx (a := az_29) (i := ((j : Nat) : Int)) (len := nz_30) (cap := kz_31) rfl Try.runUnderlying57 Try.sizeOf61 (by kernel_rfl) (by kernel_rfl) hq_136) ?_
      refine wU [18, 20] ?_
      refine wY (.agg #[.int .i64 x_131.heldJob, .int .i64 x_131.heldTask]) rfl (fun w hF => Y_loadF rfl (Try.isAgg48 w) (Try.sizeOf48 w) (by kernel_rfl) rfl ⟨hF 2 _ _ rfl, hF 3 _ _ rfl, trivial⟩) ?_
      refine wY (.agg #[.int .i64 x_47.heldJob, .int .i64 x_47.heldTask]) rfl (fun w hF => Y_loadF rfl (Try.isAgg48 w) (Try.sizeOf48 w) (by kernel_rfl) rfl ⟨hF 4 _ _ rfl, hF 5 _ _ rfl, trivial⟩) ?_
      refine wY (.bool (((x_131.heldJob : Int) == x_47.heldJob) && ((x_131.heldTask : Int) == x_47.heldTask))) rfl (fun w _ => Y_eqS rfl (by kernel_rfl) (by kernel_rfl) (eqve48 _ x_131.heldJob x_131.heldTask x_47.heldJob x_47.heldTask)) ?_
      refine wU [23, 24] ?_
      refine wFix 178 _ false (show (((x_131.heldJob : Int) == x_47.heldJob) && ((x_131.heldTask : Int) == x_47.heldTask)) = false from by simpa using hc_142) ?_
      refine wU [25, 26, 27, 28] ?_
      refine wO rfl ?_
      refine pu1 ?_
      refine nilO ⟨⟨.inr ((hp_135.up 5 rfl).cell hS_143 (k := 0) rfl), .inr ((hp_135.up 5 rfl).cell hS_143 (k := 0) rfl), .inr ((hp_135.up 5 rfl).cell hS_143 (k := 1) rfl), .inr ((hp_135.up 5 rfl).cell hS_143 (k := 2) rfl), .inr (hS_143.cell 3 rfl rfl), .inr (hS_143.cell 3 rfl rfl), trivial⟩, ?_⟩
      refine wU [30] ?_
      refine wN ?_
      refine thenK_n <| cFf <| skipE <| blockK_n <| thenK_n <| regionE <| pu1 ?_
      refine sAdd ((j : Nat) : Int) 1 ?_
      refine pu1 <| nilO <| thenK_n <| ?_
      exact ⟨j + 1, by first | omega | (dsimp only; omega), alA, hS_143, by omega⟩
    refine pu1 <| gY ?_
    refine sL hS_92 3 5 (.int .i64 x_47.used) (Try.isAgg3 _) ?_
    refine pu3 ?_
    refine sN 138 x_47.used 0 (fun hc_109 => ?_) (fun hc_109 => ?_)
    rotate_left
    · refine pu10 <| nilO <| thenK_n <| cTt <| seqE <| regionE <| pu1 <| nilO <| thenK_n <| retE <| thenK_r <| blockK_r <| thenK_r <| thenK_r <| blockK_r <| thenK_r <| retT [.bool false] <| ?_
      first | omega
    refine pu1 <| gY ?_
    refine sL hS_92 3 0 (.int .i64 x_47.phase) (Try.isAgg3 _) ?_
    refine pu2 ?_
    refine sFix 142 _ false (bne_eq_false_iff_eq.2 hc_108) ?_
    refine pu6 <| nilO <| thenK_n <| cFf <| skipE <| thenK_n <| seqE <| regionE <| pu1 <| nilO <| thenK_n <| blockE ?_
    refine loopA (γ := Nat) (fun j => [(5, .pointer (some ⟨b_20, 0, none⟩)), (4, .pointer (some ⟨pf_8, 0, none⟩)), (6, .slice az_29 nz_30 kz_31), (7, .slice az_38 nz_39 kz_40), (9, .int .i64 ((i : Nat) : Int)), (8, .int .i64 (hd + 1)), (10, .pointer (some ⟨b_53, 0, none⟩)), (13, .int .i64 ((j : Nat) : Int))]) (fun j w => Sat W w (M1_10 :: C_79 :: G_80 :: [(b_53, .cells (encWkr x_47).toArray 61 (0, 0))] :: Z_41 :: Z_32 :: [(b_20, .cells (encCfg c_7).toArray 41 (0, 0))] :: [(p_3, .cells #[.slice t nt kt, .int .i64 i_17] 71 (0, 0))] :: H :: F) ∧ j ≤ i) (fun j => i - j) 0 ⟨hS_92, by omega⟩ ?_
    rintro j ρ w_110 ⟨hS_111, hj⟩
    refine seqE <| seqE <| regionE <| pu3 <| nilO <| thenK_n <| ?_
    refine cD (((j : Nat) : Int) < ((i : Nat) : Int)) (fun hc_112 => ?_) (fun hc_112 => ?_)
    rotate_left
    · refine exitE <| thenK_x <| thenK_x <| blockK_x <| blockK_n <| thenK_n <| regionE <| pu1 ?_
      refine sAdd ((i : Nat) : Int) 1 ?_
      refine pu1 <| nilO <| thenK_n <| ?_
      have hS_126 := ((((hS_111.pick 4 rfl).dropAt 2 rfl).dropAt 2 rfl).dropAt 2 rfl)
      exact ⟨(i + 1, (hd + 1)), by first | omega | (dsimp only; omega), alA, hS_126, by omega, (by rw [heldN_yes hx_50 (by omega)]; omega), by omega⟩
    refine skipE <| thenK_n <| seqE <| blockE <| seqE ?_
    obtain ⟨x_113, b_114, o_115, hx_116, hp_117, hq_118, ha_119⟩ := OwnT.elem hO_33 ((j : Nat) : Int)
    rw [Int.toNat_natCast] at hx_116 hp_117 hq_118
    by_cases hc_120 : (x_113.phase : Int) = 0
    · refine drawE [29] [(4, ⟨b_114, o_115 + j * 7 + 0, none⟩, .int .i64 x_113.phase)] [(true, [0, 1]), (true, [2]), (true, [3]), (true, [4]), (true, [5, 6]), (true, [7, 8, 9, 10, 11, 12, 13, 14, 15, 16, 17, 18, 20, 19, 21, 22, 23, 24, 25, 26, 27, 28]), (false, [29]), (true, [30])] rfl (by kernel_rfl) ⟨.inr ((hp_117.up 5 rfl).cell hS_111 (k := 0) rfl), trivial⟩ ?_
      have hS_121 := hS_111.drew
      refine wU [0, 1] ?_
      refine wY (.pointer (some ⟨b_114, o_115 + j * 7, none⟩)) rfl (fun w _ => Y_idx (a := az_29) (i := ((j : Nat) : Int)) (len := nz_30) (cap := kz_31) rfl Try.runUnderlying57 Try.sizeOf61 (by kernel_rfl) (by kernel_rfl) hq_118) ?_
      refine wU [3] ?_
      refine wLd (.int .i64 x_113.phase) 0 Try.isAgg3 ?_
      refine wU [5, 6] ?_
      refine wFix 160 _ false (bne_eq_false_iff_eq.2 hc_120) ?_
      refine wU [7, 8, 9, 10, 11, 12, 13, 14, 15, 16, 17, 18, 20, 19, 21, 22, 23, 24, 25, 26, 27, 28] ?_
      refine wO rfl ?_
      refine pu1 ?_
      refine nilO ⟨⟨.inr ((hp_117.up 5 rfl).cell hS_121 (k := 0) rfl), trivial⟩, ?_⟩
      refine wU [30] ?_
      refine wN ?_
      refine thenK_n <| cFf <| skipE <| blockK_n <| thenK_n <| regionE <| pu1 ?_
      refine sAdd ((j : Nat) : Int) 1 ?_
      refine pu1 <| nilO <| thenK_n <| ?_
      exact ⟨j + 1, by first | omega | (dsimp only; omega), alA, hS_121, by omega⟩
    by_cases hc_122 : (x_113.phase : Int) = 4
    · refine drawE [29] [(4, ⟨b_114, o_115 + j * 7 + 0, none⟩, .int .i64 x_113.phase), (11, ⟨b_114, o_115 + j * 7 + 0, none⟩, .int .i64 x_113.phase)] [(true, [0, 1]), (true, [2]), (true, [3]), (true, [4]), (true, [5, 6]), (true, [7, 8]), (true, [9]), (true, [10]), (true, [11]), (true, [12, 13, 14]), (true, [15, 16, 17, 18, 20, 19, 21, 22, 23, 24, 25, 26, 27, 28]), (false, [29]), (true, [30])] rfl (by kernel_rfl) ⟨.inr ((hp_117.up 5 rfl).cell hS_111 (k := 0) rfl), .inr ((hp_117.up 5 rfl).cell hS_111 (k := 0) rfl), trivial⟩ ?_
      have hS_123 := hS_111.drew
      refine wU [0, 1] ?_
      refine wY (.pointer (some ⟨b_114, o_115 + j * 7, none⟩)) rfl (fun w _ => Y_idx (a := az_29) (i := ((j : Nat) : Int)) (len := nz_30) (cap := kz_31) rfl Try.runUnderlying57 Try.sizeOf61 (by kernel_rfl) (by kernel_rfl) hq_118) ?_
      refine wU [3] ?_
      refine wLd (.int .i64 x_113.phase) 0 Try.isAgg3 ?_
      refine wU [5, 6] ?_
      refine wFix 160 _ true (bne_iff_ne.2 hc_120) ?_
      refine wU [7, 8] ?_
      refine wY (.pointer (some ⟨b_114, o_115 + j * 7, none⟩)) rfl (fun w _ => Y_idx (a := az_29) (i := ((j : Nat) : Int)) (len := nz_30) (cap := kz_31) rfl Try.runUnderlying57 Try.sizeOf61 (by kernel_rfl) (by kernel_rfl) hq_118) ?_
      refine wU [10] ?_
      refine wLd (.int .i64 x_113.phase) 1 Try.isAgg3 ?_
      refine wU [12, 13, 14] ?_
      refine wFix 168 _ false (bne_eq_false_iff_eq.2 hc_122) ?_
      refine wU [15, 16, 17, 18, 20, 19, 21, 22, 23, 24, 25, 26, 27, 28] ?_
      refine wO rfl ?_
      refine pu1 ?_
      refine nilO ⟨⟨.inr ((hp_117.up 5 rfl).cell hS_123 (k := 0) rfl), .inr ((hp_117.up 5 rfl).cell hS_123 (k := 0) rfl), trivial⟩, ?_⟩
      refine wU [30] ?_
      refine wN ?_
      refine thenK_n <| cFf <| skipE <| blockK_n <| thenK_n <| regionE <| pu1 ?_
      refine sAdd ((j : Nat) : Int) 1 ?_
      refine pu1 <| nilO <| thenK_n <| ?_
      exact ⟨j + 1, by first | omega | (dsimp only; omega), alA, hS_123, by omega⟩
    have hWy := (wk_ok hFI hx_116).h (by omega)
    have hc_124 : ¬ ((x_113.heldJob : Int) = x_47.heldJob ∧ (x_113.heldTask : Int) = x_47.heldTask) := (held_ne hFI.h hx_116 hx_50 (by omega) hWy.1 hWh.1)
    refine drawE [29] [(4, ⟨b_114, o_115 + j * 7 + 0, none⟩, .int .i64 x_113.phase), (11, ⟨b_114, o_115 + j * 7 + 0, none⟩, .int .i64 x_113.phase), (19, ⟨b_114, o_115 + j * 7 + 1 + 0, none⟩, .int .i64 x_113.heldJob), (19, ⟨b_114, o_115 + j * 7 + 1 + 1, none⟩, .int .i64 x_113.heldTask), (21, ⟨b_53, 1, none⟩, .int .i64 x_47.heldJob), (21, ⟨b_53, 2, none⟩, .int .i64 x_47.heldTask)] [(true, [0, 1]), (true, [2]), (true, [3]), (true, [4]), (true, [5, 6]), (true, [7, 8]), (true, [9]), (true, [10]), (true, [11]), (true, [12, 13, 14]), (true, [15, 16]), (true, [17]), (true, [18, 20]), (true, [19]), (true, [21]), (true, [22]), (true, [23, 24]), (true, [25, 26, 27, 28]), (false, [29]), (true, [30])] rfl (by kernel_rfl) ⟨.inr ((hp_117.up 5 rfl).cell hS_111 (k := 0) rfl), .inr ((hp_117.up 5 rfl).cell hS_111 (k := 0) rfl), .inr ((hp_117.up 5 rfl).cell hS_111 (k := 1) rfl), .inr ((hp_117.up 5 rfl).cell hS_111 (k := 2) rfl), .inr (hS_111.cell 3 rfl rfl), .inr (hS_111.cell 3 rfl rfl), trivial⟩ ?_
    have hS_125 := hS_111.drew
    refine wU [0, 1] ?_
    refine wY (.pointer (some ⟨b_114, o_115 + j * 7, none⟩)) rfl (fun w _ => Y_idx (a := az_29) (i := ((j : Nat) : Int)) (len := nz_30) (cap := kz_31) rfl Try.runUnderlying57 Try.sizeOf61 (by kernel_rfl) (by kernel_rfl) hq_118) ?_
    refine wU [3] ?_
    refine wLd (.int .i64 x_113.phase) 0 Try.isAgg3 ?_
    refine wU [5, 6] ?_
    refine wFix 160 _ true (bne_iff_ne.2 hc_120) ?_
    refine wU [7, 8] ?_
    refine wY (.pointer (some ⟨b_114, o_115 + j * 7, none⟩)) rfl (fun w _ => Y_idx (a := az_29) (i := ((j : Nat) : Int)) (len := nz_30) (cap := kz_31) rfl Try.runUnderlying57 Try.sizeOf61 (by kernel_rfl) (by kernel_rfl) hq_118) ?_
    refine wU [10] ?_
    refine wLd (.int .i64 x_113.phase) 1 Try.isAgg3 ?_
    refine wU [12, 13, 14] ?_
    refine wFix 168 _ true (bne_iff_ne.2 hc_122) ?_
    refine wU [15, 16] ?_
    refine wY (.pointer (some ⟨b_114, o_115 + j * 7, none⟩)) rfl (fun w _ => Y_idx (a := az_29) (i := ((j : Nat) : Int)) (len := nz_30) (cap := kz_31) rfl Try.runUnderlying57 Try.sizeOf61 (by kernel_rfl) (by kernel_rfl) hq_118) ?_
    refine wU [18, 20] ?_
    refine wY (.agg #[.int .i64 x_113.heldJob, .int .i64 x_113.heldTask]) rfl (fun w hF => Y_loadF rfl (Try.isAgg48 w) (Try.sizeOf48 w) (by kernel_rfl) rfl ⟨hF 2 _ _ rfl, hF 3 _ _ rfl, trivial⟩) ?_
    refine wY (.agg #[.int .i64 x_47.heldJob, .int .i64 x_47.heldTask]) rfl (fun w hF => Y_loadF rfl (Try.isAgg48 w) (Try.sizeOf48 w) (by kernel_rfl) rfl ⟨hF 4 _ _ rfl, hF 5 _ _ rfl, trivial⟩) ?_
    refine wY (.bool (((x_113.heldJob : Int) == x_47.heldJob) && ((x_113.heldTask : Int) == x_47.heldTask))) rfl (fun w _ => Y_eqS rfl (by kernel_rfl) (by kernel_rfl) (eqve48 _ x_113.heldJob x_113.heldTask x_47.heldJob x_47.heldTask)) ?_
    refine wU [23, 24] ?_
    refine wFix 178 _ false (show (((x_113.heldJob : Int) == x_47.heldJob) && ((x_113.heldTask : Int) == x_47.heldTask)) = false from by simpa using hc_124) ?_
    refine wU [25, 26, 27, 28] ?_
    refine wO rfl ?_
    refine pu1 ?_
    refine nilO ⟨⟨.inr ((hp_117.up 5 rfl).cell hS_125 (k := 0) rfl), .inr ((hp_117.up 5 rfl).cell hS_125 (k := 0) rfl), .inr ((hp_117.up 5 rfl).cell hS_125 (k := 1) rfl), .inr ((hp_117.up 5 rfl).cell hS_125 (k := 2) rfl), .inr (hS_125.cell 3 rfl rfl), .inr (hS_125.cell 3 rfl rfl), trivial⟩, ?_⟩
    refine wU [30] ?_
    refine wN ?_
    refine thenK_n <| cFf <| skipE <| blockK_n <| thenK_n <| regionE <| pu1 ?_
    refine sAdd ((j : Nat) : Int) 1 ?_
    refine pu1 <| nilO <| thenK_n <| ?_
    exact ⟨j + 1, by first | omega | (dsimp only; omega), alA, hS_125, by omega⟩
  refine qO rfl ?_
  refine gY ?_
  refine sL hS_92 3 2 (.int .i64 x_47.heldTask) (Try.isAgg3 _) ?_
  refine nilO ⟨⟨.inr (hS_92.cell 3 rfl rfl), .inr (hS_92.cell 3 rfl rfl), .inl (by kernel_rfl), .inl (by kernel_rfl), trivial⟩, ?_⟩
  obtain ⟨x_145, b_146, o_147, hx_148, hp_149, hq_150, ha_151⟩ := OwnT.elem hO_81 x_47.heldTask
  obtain ⟨hWr_, hWa_, hWb_⟩ : x_47.row ≤ x_145.rows ∧ (x_47.phase = 1 → x_47.used = 0) ∧ (x_47.phase ≠ 1 → x_47.used = x_145.scratch) := hWh.2.2.2.2 x_145.v (by rw [← hV_83, List.getElem?_map, hx_148]; rfl)
  refine qY (.pointer (some ⟨b_146, o_147 + (x_47.heldTask).toNat * 9, none⟩)) rfl (fun w _ => Y_idx (a := az_75) (i := x_47.heldTask) (len := nz_76) (cap := kz_77) rfl Try.runUnderlying23 Try.sizeOf31 (by kernel_rfl) (by kernel_rfl) hq_150) ?_
  refine qU [31] ?_
  refine qF ?_ ?_
  rotate_left
  · refine qO rfl ?_
    refine gY ?_
    refine sLp hS_92 (hp_149.up 1 rfl) 7 (.int .i64 x_145.rows) (Try.isAgg3 _) ?_
    refine nilO ⟨⟨.inr (hS_92.cell 3 rfl rfl), .inr (hS_92.cell 3 rfl rfl), .inl (by kernel_rfl), .inl (by kernel_rfl), trivial⟩, ?_⟩
    refine qO rfl ?_
    refine gY ?_
    refine sL hS_92 3 4 (.int .i64 x_47.row) (Try.isAgg3 _) ?_
    refine nilO ⟨⟨.inr (hS_92.cell 3 rfl rfl), .inr (hS_92.cell 3 rfl rfl), .inl (by kernel_rfl), .inl (by kernel_rfl), trivial⟩, ?_⟩
    refine qU [33] <| qU [34] ?_
    refine qN ?_
    refine thenK_n <| ?_
    refine cD (x_47.row > x_145.rows) (fun hc_196 => ?_) (fun hc_196 => ?_)
    · refine seqE <| regionE <| pu1 <| nilO <| thenK_n <| retE <| thenK_r <| blockK_r <| thenK_r <| thenK_r <| blockK_r <| thenK_r <| retT [.bool false] <| ?_
      first | omega
    refine skipE <| thenK_n <| seqE <| seqE <| regionE <| pu3 ?_
    refine sL hS_92 3 2 (.int .i64 x_47.heldTask) (Try.isAgg3 _) ?_
    refine sIdxO hO_81 x_47.heldTask (x_47.heldTask).toNat Try.runUnderlying23 Try.sizeOf31 ?_
    intro x_197 b_198 o_199 hx_200 hp_201 hq_202
    obtain rfl : x_145 = x_197 := Option.some.inj (hx_148.symm.trans hx_200)
    obtain ⟨hWr_, hWa_, hWb_⟩ : x_47.row ≤ x_145.rows ∧ (x_47.phase = 1 → x_47.used = 0) ∧ (x_47.phase ≠ 1 → x_47.used = x_145.scratch) := hWh.2.2.2.2 x_145.v (by rw [← hV_83, List.getElem?_map, hx_200]; rfl)
    refine pu1 ?_
    refine sLp hS_92 (hp_201.up 1 rfl) 8 (.int .i64 x_145.scratch) (Try.isAgg3 _) ?_
    refine pu1 <| nilO <| thenK_n <| seqE <| regionE <| pu1 ?_
    refine sL hS_92 3 0 (.int .i64 x_47.phase) (Try.isAgg3 _) ?_
    refine pu2 ?_
    refine sE 133 x_47.phase 1 (fun hc_203 => ?_) (fun hc_203 => ?_)
    rotate_left
    · refine pu6 <| gY ?_
      refine sL hS_92 3 0 (.int .i64 x_47.phase) (Try.isAgg3 _) ?_
      refine pu2 ?_
      refine sFix 142 _ true (bne_iff_ne.2 hc_203) ?_
      refine pu1 <| gY ?_
      refine sL hS_92 3 5 (.int .i64 x_47.used) (Try.isAgg3 _) ?_
      refine pu4 <| nilO <| thenK_n <| ?_
      refine cN x_47.used x_145.scratch (fun hc_222 => ?_) (fun hc_222 => ?_)
      rotate_left
      · refine seqE <| regionE <| pu1 <| nilO <| thenK_n <| retE <| thenK_r <| blockK_r <| thenK_r <| thenK_r <| blockK_r <| thenK_r <| retT [.bool false] <| ?_
        first | omega
      refine skipE <| thenK_n <| seqE <| regionE <| pu1 <| nilO <| thenK_n <| blockE ?_
      refine loopA (γ := Nat) (fun j => [(5, .pointer (some ⟨b_20, 0, none⟩)), (4, .pointer (some ⟨pf_8, 0, none⟩)), (6, .slice az_29 nz_30 kz_31), (7, .slice az_38 nz_39 kz_40), (9, .int .i64 ((i : Nat) : Int)), (8, .int .i64 (hd + 1)), (10, .pointer (some ⟨b_53, 0, none⟩)), (13, .int .i64 ((j : Nat) : Int))]) (fun j w => Sat W w (M1_10 :: C_79 :: G_80 :: [(b_53, .cells (encWkr x_47).toArray 61 (0, 0))] :: Z_41 :: Z_32 :: [(b_20, .cells (encCfg c_7).toArray 41 (0, 0))] :: [(p_3, .cells #[.slice t nt kt, .int .i64 i_17] 71 (0, 0))] :: H :: F) ∧ j ≤ i) (fun j => i - j) 0 ⟨hS_92, by omega⟩ ?_
      rintro j ρ w_223 ⟨hS_224, hj⟩
      refine seqE <| seqE <| regionE <| pu3 <| nilO <| thenK_n <| ?_
      refine cD (((j : Nat) : Int) < ((i : Nat) : Int)) (fun hc_225 => ?_) (fun hc_225 => ?_)
      rotate_left
      · refine exitE <| thenK_x <| thenK_x <| blockK_x <| blockK_n <| thenK_n <| regionE <| pu1 ?_
        refine sAdd ((i : Nat) : Int) 1 ?_
        refine pu1 <| nilO <| thenK_n <| ?_
        have hS_239 := ((((hS_224.pick 4 rfl).dropAt 2 rfl).dropAt 2 rfl).dropAt 2 rfl)
        exact ⟨(i + 1, (hd + 1)), by first | omega | (dsimp only; omega), alA, hS_239, by omega, (by rw [heldN_yes hx_50 (by omega)]; omega), by omega⟩
      refine skipE <| thenK_n <| seqE <| blockE <| seqE ?_
      obtain ⟨x_226, b_227, o_228, hx_229, hp_230, hq_231, ha_232⟩ := OwnT.elem hO_33 ((j : Nat) : Int)
      rw [Int.toNat_natCast] at hx_229 hp_230 hq_231
      by_cases hc_233 : (x_226.phase : Int) = 0
      · refine drawE [29] [(4, ⟨b_227, o_228 + j * 7 + 0, none⟩, .int .i64 x_226.phase)] [(true, [0, 1]), (true, [2]), (true, [3]), (true, [4]), (true, [5, 6]), (true, [7, 8, 9, 10, 11, 12, 13, 14, 15, 16, 17, 18, 20, 19, 21, 22, 23, 24, 25, 26, 27, 28]), (false, [29]), (true, [30])] rfl (by kernel_rfl) ⟨.inr ((hp_230.up 5 rfl).cell hS_224 (k := 0) rfl), trivial⟩ ?_
        have hS_234 := hS_224.drew
        refine wU [0, 1] ?_
        refine wY (.pointer (some ⟨b_227, o_228 + j * 7, none⟩)) rfl (fun w _ => Y_idx (a := az_29) (i := ((j : Nat) : Int)) (len := nz_30) (cap := kz_31) rfl Try.runUnderlying57 Try.sizeOf61 (by kernel_rfl) (by kernel_rfl) hq_231) ?_
        refine wU [3] ?_
        refine wLd (.int .i64 x_226.phase) 0 Try.isAgg3 ?_
        refine wU [5, 6] ?_
        refine wFix 160 _ false (bne_eq_false_iff_eq.2 hc_233) ?_
        refine wU [7, 8, 9, 10, 11, 12, 13, 14, 15, 16, 17, 18, 20, 19, 21, 22, 23, 24, 25, 26, 27, 28] ?_
        refine wO rfl ?_
        refine pu1 ?_
        refine nilO ⟨⟨.inr ((hp_230.up 5 rfl).cell hS_234 (k := 0) rfl), trivial⟩, ?_⟩
        refine wU [30] ?_
        refine wN ?_
        refine thenK_n <| cFf <| skipE <| blockK_n <| thenK_n <| regionE <| pu1 ?_
        refine sAdd ((j : Nat) : Int) 1 ?_
        refine pu1 <| nilO <| thenK_n <| ?_
        exact ⟨j + 1, by first | omega | (dsimp only; omega), alA, hS_234, by omega⟩
      by_cases hc_235 : (x_226.phase : Int) = 4
      · refine drawE [29] [(4, ⟨b_227, o_228 + j * 7 + 0, none⟩, .int .i64 x_226.phase), (11, ⟨b_227, o_228 + j * 7 + 0, none⟩, .int .i64 x_226.phase)] [(true, [0, 1]), (true, [2]), (true, [3]), (true, [4]), (true, [5, 6]), (true, [7, 8]), (true, [9]), (true, [10]), (true, [11]), (true, [12, 13, 14]), (true, [15, 16, 17, 18, 20, 19, 21, 22, 23, 24, 25, 26, 27, 28]), (false, [29]), (true, [30])] rfl (by kernel_rfl) ⟨.inr ((hp_230.up 5 rfl).cell hS_224 (k := 0) rfl), .inr ((hp_230.up 5 rfl).cell hS_224 (k := 0) rfl), trivial⟩ ?_
        have hS_236 := hS_224.drew
        refine wU [0, 1] ?_
        refine wY (.pointer (some ⟨b_227, o_228 + j * 7, none⟩)) rfl (fun w _ => Y_idx (a := az_29) (i := ((j : Nat) : Int)) (len := nz_30) (cap := kz_31) rfl Try.runUnderlying57 Try.sizeOf61 (by kernel_rfl) (by kernel_rfl) hq_231) ?_
        refine wU [3] ?_
        refine wLd (.int .i64 x_226.phase) 0 Try.isAgg3 ?_
        refine wU [5, 6] ?_
        refine wFix 160 _ true (bne_iff_ne.2 hc_233) ?_
        refine wU [7, 8] ?_
        refine wY (.pointer (some ⟨b_227, o_228 + j * 7, none⟩)) rfl (fun w _ => Y_idx (a := az_29) (i := ((j : Nat) : Int)) (len := nz_30) (cap := kz_31) rfl Try.runUnderlying57 Try.sizeOf61 (by kernel_rfl) (by kernel_rfl) hq_231) ?_
        refine wU [10] ?_
        refine wLd (.int .i64 x_226.phase) 1 Try.isAgg3 ?_
        refine wU [12, 13, 14] ?_
        refine wFix 168 _ false (bne_eq_false_iff_eq.2 hc_235) ?_
        refine wU [15, 16, 17, 18, 20, 19, 21, 22, 23, 24, 25, 26, 27, 28] ?_
        refine wO rfl ?_
        refine pu1 ?_
        refine nilO ⟨⟨.inr ((hp_230.up 5 rfl).cell hS_236 (k := 0) rfl), .inr ((hp_230.up 5 rfl).cell hS_236 (k := 0) rfl), trivial⟩, ?_⟩
        refine wU [30] ?_
        refine wN ?_
        refine thenK_n <| cFf <| skipE <| blockK_n <| thenK_n <| regionE <| pu1 ?_
        refine sAdd ((j : Nat) : Int) 1 ?_
        refine pu1 <| nilO <| thenK_n <| ?_
        exact ⟨j + 1, by first | omega | (dsimp only; omega), alA, hS_236, by omega⟩
      have hWy := (wk_ok hFI hx_229).h (by omega)
      have hc_237 : ¬ ((x_226.heldJob : Int) = x_47.heldJob ∧ (x_226.heldTask : Int) = x_47.heldTask) := (held_ne hFI.h hx_229 hx_50 (by omega) hWy.1 hWh.1)
      refine drawE [29] [(4, ⟨b_227, o_228 + j * 7 + 0, none⟩, .int .i64 x_226.phase), (11, ⟨b_227, o_228 + j * 7 + 0, none⟩, .int .i64 x_226.phase), (19, ⟨b_227, o_228 + j * 7 + 1 + 0, none⟩, .int .i64 x_226.heldJob), (19, ⟨b_227, o_228 + j * 7 + 1 + 1, none⟩, .int .i64 x_226.heldTask), (21, ⟨b_53, 1, none⟩, .int .i64 x_47.heldJob), (21, ⟨b_53, 2, none⟩, .int .i64 x_47.heldTask)] [(true, [0, 1]), (true, [2]), (true, [3]), (true, [4]), (true, [5, 6]), (true, [7, 8]), (true, [9]), (true, [10]), (true, [11]), (true, [12, 13, 14]), (true, [15, 16]), (true, [17]), (true, [18, 20]), (true, [19]), (true, [21]), (true, [22]), (true, [23, 24]), (true, [25, 26, 27, 28]), (false, [29]), (true, [30])] rfl (by kernel_rfl) ⟨.inr ((hp_230.up 5 rfl).cell hS_224 (k := 0) rfl), .inr ((hp_230.up 5 rfl).cell hS_224 (k := 0) rfl), .inr ((hp_230.up 5 rfl).cell hS_224 (k := 1) rfl), .inr ((hp_230.up 5 rfl).cell hS_224 (k := 2) rfl), .inr (hS_224.cell 3 rfl rfl), .inr (hS_224.cell 3 rfl rfl), trivial⟩ ?_
      have hS_238 := hS_224.drew
      refine wU [0, 1] ?_
      refine wY (.pointer (some ⟨b_227, o_228 + j * 7, none⟩)) rfl (fun w _ => Y_idx (a := az_29) (i := ((j : Nat) : Int)) (len := nz_30) (cap := kz_31) rfl Try.runUnderlying57 Try.sizeOf61 (by kernel_rfl) (by kernel_rfl) hq_231) ?_
      refine wU [3] ?_
      refine wLd (.int .i64 x_226.phase) 0 Try.isAgg3 ?_
      refine wU [5, 6] ?_
      refine wFix 160 _ true (bne_iff_ne.2 hc_233) ?_
      refine wU [7, 8] ?_
      refine wY (.pointer (some ⟨b_227, o_228 + j * 7, none⟩)) rfl (fun w _ => Y_idx (a := az_29) (i := ((j : Nat) : Int)) (len := nz_30) (cap := kz_31) rfl Try.runUnderlying57 Try.sizeOf61 (by kernel_rfl) (by kernel_rfl) hq_231) ?_
      refine wU [10] ?_
      refine wLd (.int .i64 x_226.phase) 1 Try.isAgg3 ?_
      refine wU [12, 13, 14] ?_
      refine wFix 168 _ true (bne_iff_ne.2 hc_235) ?_
      refine wU [15, 16] ?_
      refine wY (.pointer (some ⟨b_227, o_228 + j * 7, none⟩)) rfl (fun w _ => Y_idx (a := az_29) (i := ((j : Nat) : Int)) (len := nz_30) (cap := kz_31) rfl Try.runUnderlying57 Try.sizeOf61 (by kernel_rfl) (by kernel_rfl) hq_231) ?_
      refine wU [18, 20] ?_
      refine wY (.agg #[.int .i64 x_226.heldJob, .int .i64 x_226.heldTask]) rfl (fun w hF => Y_loadF rfl (Try.isAgg48 w) (Try.sizeOf48 w) (by kernel_rfl) rfl ⟨hF 2 _ _ rfl, hF 3 _ _ rfl, trivial⟩) ?_
      refine wY (.agg #[.int .i64 x_47.heldJob, .int .i64 x_47.heldTask]) rfl (fun w hF => Y_loadF rfl (Try.isAgg48 w) (Try.sizeOf48 w) (by kernel_rfl) rfl ⟨hF 4 _ _ rfl, hF 5 _ _ rfl, trivial⟩) ?_
      refine wY (.bool (((x_226.heldJob : Int) == x_47.heldJob) && ((x_226.heldTask : Int) == x_47.heldTask))) rfl (fun w _ => Y_eqS rfl (by kernel_rfl) (by kernel_rfl) (eqve48 _ x_226.heldJob x_226.heldTask x_47.heldJob x_47.heldTask)) ?_
      refine wU [23, 24] ?_
      refine wFix 178 _ false (show (((x_226.heldJob : Int) == x_47.heldJob) && ((x_226.heldTask : Int) == x_47.heldTask)) = false from by simpa using hc_237) ?_
      refine wU [25, 26, 27, 28] ?_
      refine wO rfl ?_
      refine pu1 ?_
      refine nilO ⟨⟨.inr ((hp_230.up 5 rfl).cell hS_238 (k := 0) rfl), .inr ((hp_230.up 5 rfl).cell hS_238 (k := 0) rfl), .inr ((hp_230.up 5 rfl).cell hS_238 (k := 1) rfl), .inr ((hp_230.up 5 rfl).cell hS_238 (k := 2) rfl), .inr (hS_238.cell 3 rfl rfl), .inr (hS_238.cell 3 rfl rfl), trivial⟩, ?_⟩
      refine wU [30] ?_
      refine wN ?_
      refine thenK_n <| cFf <| skipE <| blockK_n <| thenK_n <| regionE <| pu1 ?_
      refine sAdd ((j : Nat) : Int) 1 ?_
      refine pu1 <| nilO <| thenK_n <| ?_
      exact ⟨j + 1, by first | omega | (dsimp only; omega), alA, hS_238, by omega⟩
    refine pu1 <| gY ?_
    refine sL hS_92 3 5 (.int .i64 x_47.used) (Try.isAgg3 _) ?_
    refine pu3 ?_
    refine sN 138 x_47.used 0 (fun hc_204 => ?_) (fun hc_204 => ?_)
    rotate_left
    · refine pu10 <| nilO <| thenK_n <| cTt <| seqE <| regionE <| pu1 <| nilO <| thenK_n <| retE <| thenK_r <| blockK_r <| thenK_r <| thenK_r <| blockK_r <| thenK_r <| retT [.bool false] <| ?_
      first | omega
    refine pu1 <| gY ?_
    refine sL hS_92 3 0 (.int .i64 x_47.phase) (Try.isAgg3 _) ?_
    refine pu2 ?_
    refine sFix 142 _ false (bne_eq_false_iff_eq.2 hc_203) ?_
    refine pu6 <| nilO <| thenK_n <| cFf <| skipE <| thenK_n <| seqE <| regionE <| pu1 <| nilO <| thenK_n <| blockE ?_
    refine loopA (γ := Nat) (fun j => [(5, .pointer (some ⟨b_20, 0, none⟩)), (4, .pointer (some ⟨pf_8, 0, none⟩)), (6, .slice az_29 nz_30 kz_31), (7, .slice az_38 nz_39 kz_40), (9, .int .i64 ((i : Nat) : Int)), (8, .int .i64 (hd + 1)), (10, .pointer (some ⟨b_53, 0, none⟩)), (13, .int .i64 ((j : Nat) : Int))]) (fun j w => Sat W w (M1_10 :: C_79 :: G_80 :: [(b_53, .cells (encWkr x_47).toArray 61 (0, 0))] :: Z_41 :: Z_32 :: [(b_20, .cells (encCfg c_7).toArray 41 (0, 0))] :: [(p_3, .cells #[.slice t nt kt, .int .i64 i_17] 71 (0, 0))] :: H :: F) ∧ j ≤ i) (fun j => i - j) 0 ⟨hS_92, by omega⟩ ?_
    rintro j ρ w_205 ⟨hS_206, hj⟩
    refine seqE <| seqE <| regionE <| pu3 <| nilO <| thenK_n <| ?_
    refine cD (((j : Nat) : Int) < ((i : Nat) : Int)) (fun hc_207 => ?_) (fun hc_207 => ?_)
    rotate_left
    · refine exitE <| thenK_x <| thenK_x <| blockK_x <| blockK_n <| thenK_n <| regionE <| pu1 ?_
      refine sAdd ((i : Nat) : Int) 1 ?_
      refine pu1 <| nilO <| thenK_n <| ?_
      have hS_221 := ((((hS_206.pick 4 rfl).dropAt 2 rfl).dropAt 2 rfl).dropAt 2 rfl)
      exact ⟨(i + 1, (hd + 1)), by first | omega | (dsimp only; omega), alA, hS_221, by omega, (by rw [heldN_yes hx_50 (by omega)]; omega), by omega⟩
    refine skipE <| thenK_n <| seqE <| blockE <| seqE ?_
    obtain ⟨x_208, b_209, o_210, hx_211, hp_212, hq_213, ha_214⟩ := OwnT.elem hO_33 ((j : Nat) : Int)
    rw [Int.toNat_natCast] at hx_211 hp_212 hq_213
    by_cases hc_215 : (x_208.phase : Int) = 0
    · refine drawE [29] [(4, ⟨b_209, o_210 + j * 7 + 0, none⟩, .int .i64 x_208.phase)] [(true, [0, 1]), (true, [2]), (true, [3]), (true, [4]), (true, [5, 6]), (true, [7, 8, 9, 10, 11, 12, 13, 14, 15, 16, 17, 18, 20, 19, 21, 22, 23, 24, 25, 26, 27, 28]), (false, [29]), (true, [30])] rfl (by kernel_rfl) ⟨.inr ((hp_212.up 5 rfl).cell hS_206 (k := 0) rfl), trivial⟩ ?_
      have hS_216 := hS_206.drew
      refine wU [0, 1] ?_
      refine wY (.pointer (some ⟨b_209, o_210 + j * 7, none⟩)) rfl (fun w _ => Y_idx (a := az_29) (i := ((j : Nat) : Int)) (len := nz_30) (cap := kz_31) rfl Try.runUnderlying57 Try.sizeOf61 (by kernel_rfl) (by kernel_rfl) hq_213) ?_
      refine wU [3] ?_
      refine wLd (.int .i64 x_208.phase) 0 Try.isAgg3 ?_
      refine wU [5, 6] ?_
      refine wFix 160 _ false (bne_eq_false_iff_eq.2 hc_215) ?_
      refine wU [7, 8, 9, 10, 11, 12, 13, 14, 15, 16, 17, 18, 20, 19, 21, 22, 23, 24, 25, 26, 27, 28] ?_
      refine wO rfl ?_
      refine pu1 ?_
      refine nilO ⟨⟨.inr ((hp_212.up 5 rfl).cell hS_216 (k := 0) rfl), trivial⟩, ?_⟩
      refine wU [30] ?_
      refine wN ?_
      refine thenK_n <| cFf <| skipE <| blockK_n <| thenK_n <| regionE <| pu1 ?_
      refine sAdd ((j : Nat) : Int) 1 ?_
      refine pu1 <| nilO <| thenK_n <| ?_
      exact ⟨j + 1, by first | omega | (dsimp only; omega), alA, hS_216, by omega⟩
    by_cases hc_217 : (x_208.phase : Int) = 4
    · refine drawE [29] [(4, ⟨b_209, o_210 + j * 7 + 0, none⟩, .int .i64 x_208.phase), (11, ⟨b_209, o_210 + j * 7 + 0, none⟩, .int .i64 x_208.phase)] [(true, [0, 1]), (true, [2]), (true, [3]), (true, [4]), (true, [5, 6]), (true, [7, 8]), (true, [9]), (true, [10]), (true, [11]), (true, [12, 13, 14]), (true, [15, 16, 17, 18, 20, 19, 21, 22, 23, 24, 25, 26, 27, 28]), (false, [29]), (true, [30])] rfl (by kernel_rfl) ⟨.inr ((hp_212.up 5 rfl).cell hS_206 (k := 0) rfl), .inr ((hp_212.up 5 rfl).cell hS_206 (k := 0) rfl), trivial⟩ ?_
      have hS_218 := hS_206.drew
      refine wU [0, 1] ?_
      refine wY (.pointer (some ⟨b_209, o_210 + j * 7, none⟩)) rfl (fun w _ => Y_idx (a := az_29) (i := ((j : Nat) : Int)) (len := nz_30) (cap := kz_31) rfl Try.runUnderlying57 Try.sizeOf61 (by kernel_rfl) (by kernel_rfl) hq_213) ?_
      refine wU [3] ?_
      refine wLd (.int .i64 x_208.phase) 0 Try.isAgg3 ?_
      refine wU [5, 6] ?_
      refine wFix 160 _ true (bne_iff_ne.2 hc_215) ?_
      refine wU [7, 8] ?_
      refine wY (.pointer (some ⟨b_209, o_210 + j * 7, none⟩)) rfl (fun w _ => Y_idx (a := az_29) (i := ((j : Nat) : Int)) (len := nz_30) (cap := kz_31) rfl Try.runUnderlying57 Try.sizeOf61 (by kernel_rfl) (by kernel_rfl) hq_213) ?_
      refine wU [10] ?_
      refine wLd (.int .i64 x_208.phase) 1 Try.isAgg3 ?_
      refine wU [12, 13, 14] ?_
      refine wFix 168 _ false (bne_eq_false_iff_eq.2 hc_217) ?_
      refine wU [15, 16, 17, 18, 20, 19, 21, 22, 23, 24, 25, 26, 27, 28] ?_
      refine wO rfl ?_
      refine pu1 ?_
      refine nilO ⟨⟨.inr ((hp_212.up 5 rfl).cell hS_218 (k := 0) rfl), .inr ((hp_212.up 5 rfl).cell hS_218 (k := 0) rfl), trivial⟩, ?_⟩
      refine wU [30] ?_
      refine wN ?_
      refine thenK_n <| cFf <| skipE <| blockK_n <| thenK_n <| regionE <| pu1 ?_
      refine sAdd ((j : Nat) : Int) 1 ?_
      refine pu1 <| nilO <| thenK_n <| ?_
      exact ⟨j + 1, by first | omega | (dsimp only; omega), alA, hS_218, by omega⟩
    have hWy := (wk_ok hFI hx_211).h (by omega)
    have hc_219 : ¬ ((x_208.heldJob : Int) = x_47.heldJob ∧ (x_208.heldTask : Int) = x_47.heldTask) := (held_ne hFI.h hx_211 hx_50 (by omega) hWy.1 hWh.1)
    refine drawE [29] [(4, ⟨b_209, o_210 + j * 7 + 0, none⟩, .int .i64 x_208.phase), (11, ⟨b_209, o_210 + j * 7 + 0, none⟩, .int .i64 x_208.phase), (19, ⟨b_209, o_210 + j * 7 + 1 + 0, none⟩, .int .i64 x_208.heldJob), (19, ⟨b_209, o_210 + j * 7 + 1 + 1, none⟩, .int .i64 x_208.heldTask), (21, ⟨b_53, 1, none⟩, .int .i64 x_47.heldJob), (21, ⟨b_53, 2, none⟩, .int .i64 x_47.heldTask)] [(true, [0, 1]), (true, [2]), (true, [3]), (true, [4]), (true, [5, 6]), (true, [7, 8]), (true, [9]), (true, [10]), (true, [11]), (true, [12, 13, 14]), (true, [15, 16]), (true, [17]), (true, [18, 20]), (true, [19]), (true, [21]), (true, [22]), (true, [23, 24]), (true, [25, 26, 27, 28]), (false, [29]), (true, [30])] rfl (by kernel_rfl) ⟨.inr ((hp_212.up 5 rfl).cell hS_206 (k := 0) rfl), .inr ((hp_212.up 5 rfl).cell hS_206 (k := 0) rfl), .inr ((hp_212.up 5 rfl).cell hS_206 (k := 1) rfl), .inr ((hp_212.up 5 rfl).cell hS_206 (k := 2) rfl), .inr (hS_206.cell 3 rfl rfl), .inr (hS_206.cell 3 rfl rfl), trivial⟩ ?_
    have hS_220 := hS_206.drew
    refine wU [0, 1] ?_
    refine wY (.pointer (some ⟨b_209, o_210 + j * 7, none⟩)) rfl (fun w _ => Y_idx (a := az_29) (i := ((j : Nat) : Int)) (len := nz_30) (cap := kz_31) rfl Try.runUnderlying57 Try.sizeOf61 (by kernel_rfl) (by kernel_rfl) hq_213) ?_
    refine wU [3] ?_
    refine wLd (.int .i64 x_208.phase) 0 Try.isAgg3 ?_
    refine wU [5, 6] ?_
    refine wFix 160 _ true (bne_iff_ne.2 hc_215) ?_
    refine wU [7, 8] ?_
    refine wY (.pointer (some ⟨b_209, o_210 + j * 7, none⟩)) rfl (fun w _ => Y_idx (a := az_29) (i := ((j : Nat) : Int)) (len := nz_30) (cap := kz_31) rfl Try.runUnderlying57 Try.sizeOf61 (by kernel_rfl) (by kernel_rfl) hq_213) ?_
    refine wU [10] ?_
    refine wLd (.int .i64 x_208.phase) 1 Try.isAgg3 ?_
    refine wU [12, 13, 14] ?_
    refine wFix 168 _ true (bne_iff_ne.2 hc_217) ?_
    refine wU [15, 16] ?_
    refine wY (.pointer (some ⟨b_209, o_210 + j * 7, none⟩)) rfl (fun w _ => Y_idx (a := az_29) (i := ((j : Nat) : Int)) (len := nz_30) (cap := kz_31) rfl Try.runUnderlying57 Try.sizeOf61 (by kernel_rfl) (by kernel_rfl) hq_213) ?_
    refine wU [18, 20] ?_
    refine wY (.agg #[.int .i64 x_208.heldJob, .int .i64 x_208.heldTask]) rfl (fun w hF => Y_loadF rfl (Try.isAgg48 w) (Try.sizeOf48 w) (by kernel_rfl) rfl ⟨hF 2 _ _ rfl, hF 3 _ _ rfl, trivial⟩) ?_
    refine wY (.agg #[.int .i64 x_47.heldJob, .int .i64 x_47.heldTask]) rfl (fun w hF => Y_loadF rfl (Try.isAgg48 w) (Try.sizeOf48 w) (by kernel_rfl) rfl ⟨hF 4 _ _ rfl, hF 5 _ _ rfl, trivial⟩) ?_
    refine wY (.bool (((x_208.heldJob : Int) == x_47.heldJob) && ((x_208.heldTask : Int) == x_47.heldTask))) rfl (fun w _ => Y_eqS rfl (by kernel_rfl) (by kernel_rfl) (eqve48 _ x_208.heldJob x_208.heldTask x_47.heldJob x_47.heldTask)) ?_
    refine wU [23, 24] ?_
    refine wFix 178 _ false (show (((x_208.heldJob : Int) == x_47.heldJob) && ((x_208.heldTask : Int) == x_47.heldTask)) = false from by simpa using hc_219) ?_
    refine wU [25, 26, 27, 28] ?_
    refine wO rfl ?_
    refine pu1 ?_
    refine nilO ⟨⟨.inr ((hp_212.up 5 rfl).cell hS_220 (k := 0) rfl), .inr ((hp_212.up 5 rfl).cell hS_220 (k := 0) rfl), .inr ((hp_212.up 5 rfl).cell hS_220 (k := 1) rfl), .inr ((hp_212.up 5 rfl).cell hS_220 (k := 2) rfl), .inr (hS_220.cell 3 rfl rfl), .inr (hS_220.cell 3 rfl rfl), trivial⟩, ?_⟩
    refine wU [30] ?_
    refine wN ?_
    refine thenK_n <| cFf <| skipE <| blockK_n <| thenK_n <| regionE <| pu1 ?_
    refine sAdd ((j : Nat) : Int) 1 ?_
    refine pu1 <| nilO <| thenK_n <| ?_
    exact ⟨j + 1, by first | omega | (dsimp only; omega), alA, hS_220, by omega⟩
  refine qO rfl ?_
  refine gY ?_
  refine sL hS_92 3 4 (.int .i64 x_47.row) (Try.isAgg3 _) ?_
  refine nilO ⟨⟨.inr (hS_92.cell 3 rfl rfl), .inr (hS_92.cell 3 rfl rfl), .inl (by kernel_rfl), .inl (by kernel_rfl), trivial⟩, ?_⟩
  refine qO rfl ?_
  refine gY ?_
  refine sLp hS_92 (hp_149.up 1 rfl) 7 (.int .i64 x_145.rows) (Try.isAgg3 _) ?_
  refine nilO ⟨⟨.inr (hS_92.cell 3 rfl rfl), .inr (hS_92.cell 3 rfl rfl), .inl (by kernel_rfl), .inl (by kernel_rfl), trivial⟩, ?_⟩
  refine qU [33] <| qU [34] ?_
  refine qN ?_
  refine thenK_n <| ?_
  refine cD (x_47.row > x_145.rows) (fun hc_152 => ?_) (fun hc_152 => ?_)
  · refine seqE <| regionE <| pu1 <| nilO <| thenK_n <| retE <| thenK_r <| blockK_r <| thenK_r <| thenK_r <| blockK_r <| thenK_r <| retT [.bool false] <| ?_
    first | omega
  refine skipE <| thenK_n <| seqE <| seqE <| regionE <| pu3 ?_
  refine sL hS_92 3 2 (.int .i64 x_47.heldTask) (Try.isAgg3 _) ?_
  refine sIdxO hO_81 x_47.heldTask (x_47.heldTask).toNat Try.runUnderlying23 Try.sizeOf31 ?_
  intro x_153 b_154 o_155 hx_156 hp_157 hq_158
  obtain rfl : x_145 = x_153 := Option.some.inj (hx_148.symm.trans hx_156)
  obtain ⟨hWr_, hWa_, hWb_⟩ : x_47.row ≤ x_145.rows ∧ (x_47.phase = 1 → x_47.used = 0) ∧ (x_47.phase ≠ 1 → x_47.used = x_145.scratch) := hWh.2.2.2.2 x_145.v (by rw [← hV_83, List.getElem?_map, hx_156]; rfl)
  refine pu1 ?_
  refine sLp hS_92 (hp_157.up 1 rfl) 8 (.int .i64 x_145.scratch) (Try.isAgg3 _) ?_
  refine pu1 <| nilO <| thenK_n <| seqE <| regionE <| pu1 ?_
  refine sL hS_92 3 0 (.int .i64 x_47.phase) (Try.isAgg3 _) ?_
  refine pu2 ?_
  refine sE 133 x_47.phase 1 (fun hc_159 => ?_) (fun hc_159 => ?_)
  rotate_left
  · refine pu6 <| gY ?_
    refine sL hS_92 3 0 (.int .i64 x_47.phase) (Try.isAgg3 _) ?_
    refine pu2 ?_
    refine sFix 142 _ true (bne_iff_ne.2 hc_159) ?_
    refine pu1 <| gY ?_
    refine sL hS_92 3 5 (.int .i64 x_47.used) (Try.isAgg3 _) ?_
    refine pu4 <| nilO <| thenK_n <| ?_
    refine cN x_47.used x_145.scratch (fun hc_178 => ?_) (fun hc_178 => ?_)
    rotate_left
    · refine seqE <| regionE <| pu1 <| nilO <| thenK_n <| retE <| thenK_r <| blockK_r <| thenK_r <| thenK_r <| blockK_r <| thenK_r <| retT [.bool false] <| ?_
      first | omega
    refine skipE <| thenK_n <| seqE <| regionE <| pu1 <| nilO <| thenK_n <| blockE ?_
    refine loopA (γ := Nat) (fun j => [(5, .pointer (some ⟨b_20, 0, none⟩)), (4, .pointer (some ⟨pf_8, 0, none⟩)), (6, .slice az_29 nz_30 kz_31), (7, .slice az_38 nz_39 kz_40), (9, .int .i64 ((i : Nat) : Int)), (8, .int .i64 (hd + 1)), (10, .pointer (some ⟨b_53, 0, none⟩)), (13, .int .i64 ((j : Nat) : Int))]) (fun j w => Sat W w (M1_10 :: C_79 :: G_80 :: [(b_53, .cells (encWkr x_47).toArray 61 (0, 0))] :: Z_41 :: Z_32 :: [(b_20, .cells (encCfg c_7).toArray 41 (0, 0))] :: [(p_3, .cells #[.slice t nt kt, .int .i64 i_17] 71 (0, 0))] :: H :: F) ∧ j ≤ i) (fun j => i - j) 0 ⟨hS_92, by omega⟩ ?_
    rintro j ρ w_179 ⟨hS_180, hj⟩
    refine seqE <| seqE <| regionE <| pu3 <| nilO <| thenK_n <| ?_
    refine cD (((j : Nat) : Int) < ((i : Nat) : Int)) (fun hc_181 => ?_) (fun hc_181 => ?_)
    rotate_left
    · refine exitE <| thenK_x <| thenK_x <| blockK_x <| blockK_n <| thenK_n <| regionE <| pu1 ?_
      refine sAdd ((i : Nat) : Int) 1 ?_
      refine pu1 <| nilO <| thenK_n <| ?_
      have hS_195 := ((((hS_180.pick 4 rfl).dropAt 2 rfl).dropAt 2 rfl).dropAt 2 rfl)
      exact ⟨(i + 1, (hd + 1)), by first | omega | (dsimp only; omega), alA, hS_195, by omega, (by rw [heldN_yes hx_50 (by omega)]; omega), by omega⟩
    refine skipE <| thenK_n <| seqE <| blockE <| seqE ?_
    obtain ⟨x_182, b_183, o_184, hx_185, hp_186, hq_187, ha_188⟩ := OwnT.elem hO_33 ((j : Nat) : Int)
    rw [Int.toNat_natCast] at hx_185 hp_186 hq_187
    by_cases hc_189 : (x_182.phase : Int) = 0
    · refine drawE [29] [(4, ⟨b_183, o_184 + j * 7 + 0, none⟩, .int .i64 x_182.phase)] [(true, [0, 1]), (true, [2]), (true, [3]), (true, [4]), (true, [5, 6]), (true, [7, 8, 9, 10, 11, 12, 13, 14, 15, 16, 17, 18, 20, 19, 21, 22, 23, 24, 25, 26, 27, 28]), (false, [29]), (true, [30])] rfl (by kernel_rfl) ⟨.inr ((hp_186.up 5 rfl).cell hS_180 (k := 0) rfl), trivial⟩ ?_
      have hS_190 := hS_180.drew
      refine wU [0, 1] ?_
      refine wY (.pointer (some ⟨b_183, o_184 + j * 7, none⟩)) rfl (fun w _ => Y_idx (a := az_29) (i := ((j : Nat) : Int)) (len := nz_30) (cap := kz_31) rfl Try.runUnderlying57 Try.sizeOf61 (by kernel_rfl) (by kernel_rfl) hq_187) ?_
      refine wU [3] ?_
      refine wLd (.int .i64 x_182.phase) 0 Try.isAgg3 ?_
      refine wU [5, 6] ?_
      refine wFix 160 _ false (bne_eq_false_iff_eq.2 hc_189) ?_
      refine wU [7, 8, 9, 10, 11, 12, 13, 14, 15, 16, 17, 18, 20, 19, 21, 22, 23, 24, 25, 26, 27, 28] ?_
      refine wO rfl ?_
      refine pu1 ?_
      refine nilO ⟨⟨.inr ((hp_186.up 5 rfl).cell hS_190 (k := 0) rfl), trivial⟩, ?_⟩
      refine wU [30] ?_
      refine wN ?_
      refine thenK_n <| cFf <| skipE <| blockK_n <| thenK_n <| regionE <| pu1 ?_
      refine sAdd ((j : Nat) : Int) 1 ?_
      refine pu1 <| nilO <| thenK_n <| ?_
      exact ⟨j + 1, by first | omega | (dsimp only; omega), alA, hS_190, by omega⟩
    by_cases hc_191 : (x_182.phase : Int) = 4
    · refine drawE [29] [(4, ⟨b_183, o_184 + j * 7 + 0, none⟩, .int .i64 x_182.phase), (11, ⟨b_183, o_184 + j * 7 + 0, none⟩, .int .i64 x_182.phase)] [(true, [0, 1]), (true, [2]), (true, [3]), (true, [4]), (true, [5, 6]), (true, [7, 8]), (true, [9]), (true, [10]), (true, [11]), (true, [12, 13, 14]), (true, [15, 16, 17, 18, 20, 19, 21, 22, 23, 24, 25, 26, 27, 28]), (false, [29]), (true, [30])] rfl (by kernel_rfl) ⟨.inr ((hp_186.up 5 rfl).cell hS_180 (k := 0) rfl), .inr ((hp_186.up 5 rfl).cell hS_180 (k := 0) rfl), trivial⟩ ?_
      have hS_192 := hS_180.drew
      refine wU [0, 1] ?_
      refine wY (.pointer (some ⟨b_183, o_184 + j * 7, none⟩)) rfl (fun w _ => Y_idx (a := az_29) (i := ((j : Nat) : Int)) (len := nz_30) (cap := kz_31) rfl Try.runUnderlying57 Try.sizeOf61 (by kernel_rfl) (by kernel_rfl) hq_187) ?_
      refine wU [3] ?_
      refine wLd (.int .i64 x_182.phase) 0 Try.isAgg3 ?_
      refine wU [5, 6] ?_
      refine wFix 160 _ true (bne_iff_ne.2 hc_189) ?_
      refine wU [7, 8] ?_
      refine wY (.pointer (some ⟨b_183, o_184 + j * 7, none⟩)) rfl (fun w _ => Y_idx (a := az_29) (i := ((j : Nat) : Int)) (len := nz_30) (cap := kz_31) rfl Try.runUnderlying57 Try.sizeOf61 (by kernel_rfl) (by kernel_rfl) hq_187) ?_
      refine wU [10] ?_
      refine wLd (.int .i64 x_182.phase) 1 Try.isAgg3 ?_
      refine wU [12, 13, 14] ?_
      refine wFix 168 _ false (bne_eq_false_iff_eq.2 hc_191) ?_
      refine wU [15, 16, 17, 18, 20, 19, 21, 22, 23, 24, 25, 26, 27, 28] ?_
      refine wO rfl ?_
      refine pu1 ?_
      refine nilO ⟨⟨.inr ((hp_186.up 5 rfl).cell hS_192 (k := 0) rfl), .inr ((hp_186.up 5 rfl).cell hS_192 (k := 0) rfl), trivial⟩, ?_⟩
      refine wU [30] ?_
      refine wN ?_
      refine thenK_n <| cFf <| skipE <| blockK_n <| thenK_n <| regionE <| pu1 ?_
      refine sAdd ((j : Nat) : Int) 1 ?_
      refine pu1 <| nilO <| thenK_n <| ?_
      exact ⟨j + 1, by first | omega | (dsimp only; omega), alA, hS_192, by omega⟩
    have hWy := (wk_ok hFI hx_185).h (by omega)
    have hc_193 : ¬ ((x_182.heldJob : Int) = x_47.heldJob ∧ (x_182.heldTask : Int) = x_47.heldTask) := (held_ne hFI.h hx_185 hx_50 (by omega) hWy.1 hWh.1)
    refine drawE [29] [(4, ⟨b_183, o_184 + j * 7 + 0, none⟩, .int .i64 x_182.phase), (11, ⟨b_183, o_184 + j * 7 + 0, none⟩, .int .i64 x_182.phase), (19, ⟨b_183, o_184 + j * 7 + 1 + 0, none⟩, .int .i64 x_182.heldJob), (19, ⟨b_183, o_184 + j * 7 + 1 + 1, none⟩, .int .i64 x_182.heldTask), (21, ⟨b_53, 1, none⟩, .int .i64 x_47.heldJob), (21, ⟨b_53, 2, none⟩, .int .i64 x_47.heldTask)] [(true, [0, 1]), (true, [2]), (true, [3]), (true, [4]), (true, [5, 6]), (true, [7, 8]), (true, [9]), (true, [10]), (true, [11]), (true, [12, 13, 14]), (true, [15, 16]), (true, [17]), (true, [18, 20]), (true, [19]), (true, [21]), (true, [22]), (true, [23, 24]), (true, [25, 26, 27, 28]), (false, [29]), (true, [30])] rfl (by kernel_rfl) ⟨.inr ((hp_186.up 5 rfl).cell hS_180 (k := 0) rfl), .inr ((hp_186.up 5 rfl).cell hS_180 (k := 0) rfl), .inr ((hp_186.up 5 rfl).cell hS_180 (k := 1) rfl), .inr ((hp_186.up 5 rfl).cell hS_180 (k := 2) rfl), .inr (hS_180.cell 3 rfl rfl), .inr (hS_180.cell 3 rfl rfl), trivial⟩ ?_
    have hS_194 := hS_180.drew
    refine wU [0, 1] ?_
    refine wY (.pointer (some ⟨b_183, o_184 + j * 7, none⟩)) rfl (fun w _ => Y_idx (a := az_29) (i := ((j : Nat) : Int)) (len := nz_30) (cap := kz_31) rfl Try.runUnderlying57 Try.sizeOf61 (by kernel_rfl) (by kernel_rfl) hq_187) ?_
    refine wU [3] ?_
    refine wLd (.int .i64 x_182.phase) 0 Try.isAgg3 ?_
    refine wU [5, 6] ?_
    refine wFix 160 _ true (bne_iff_ne.2 hc_189) ?_
    refine wU [7, 8] ?_
    refine wY (.pointer (some ⟨b_183, o_184 + j * 7, none⟩)) rfl (fun w _ => Y_idx (a := az_29) (i := ((j : Nat) : Int)) (len := nz_30) (cap := kz_31) rfl Try.runUnderlying57 Try.sizeOf61 (by kernel_rfl) (by kernel_rfl) hq_187) ?_
    refine wU [10] ?_
    refine wLd (.int .i64 x_182.phase) 1 Try.isAgg3 ?_
    refine wU [12, 13, 14] ?_
    refine wFix 168 _ true (bne_iff_ne.2 hc_191) ?_
    refine wU [15, 16] ?_
    refine wY (.pointer (some ⟨b_183, o_184 + j * 7, none⟩)) rfl (fun w _ => Y_idx (a := az_29) (i := ((j : Nat) : Int)) (len := nz_30) (cap := kz_31) rfl Try.runUnderlying57 Try.sizeOf61 (by kernel_rfl) (by kernel_rfl) hq_187) ?_
    refine wU [18, 20] ?_
    refine wY (.agg #[.int .i64 x_182.heldJob, .int .i64 x_182.heldTask]) rfl (fun w hF => Y_loadF rfl (Try.isAgg48 w) (Try.sizeOf48 w) (by kernel_rfl) rfl ⟨hF 2 _ _ rfl, hF 3 _ _ rfl, trivial⟩) ?_
    refine wY (.agg #[.int .i64 x_47.heldJob, .int .i64 x_47.heldTask]) rfl (fun w hF => Y_loadF rfl (Try.isAgg48 w) (Try.sizeOf48 w) (by kernel_rfl) rfl ⟨hF 4 _ _ rfl, hF 5 _ _ rfl, trivial⟩) ?_
    refine wY (.bool (((x_182.heldJob : Int) == x_47.heldJob) && ((x_182.heldTask : Int) == x_47.heldTask))) rfl (fun w _ => Y_eqS rfl (by kernel_rfl) (by kernel_rfl) (eqve48 _ x_182.heldJob x_182.heldTask x_47.heldJob x_47.heldTask)) ?_
    refine wU [23, 24] ?_
    refine wFix 178 _ false (show (((x_182.heldJob : Int) == x_47.heldJob) && ((x_182.heldTask : Int) == x_47.heldTask)) = false from by simpa using hc_193) ?_
    refine wU [25, 26, 27, 28] ?_
    refine wO rfl ?_
    refine pu1 ?_
    refine nilO ⟨⟨.inr ((hp_186.up 5 rfl).cell hS_194 (k := 0) rfl), .inr ((hp_186.up 5 rfl).cell hS_194 (k := 0) rfl), .inr ((hp_186.up 5 rfl).cell hS_194 (k := 1) rfl), .inr ((hp_186.up 5 rfl).cell hS_194 (k := 2) rfl), .inr (hS_194.cell 3 rfl rfl), .inr (hS_194.cell 3 rfl rfl), trivial⟩, ?_⟩
    refine wU [30] ?_
    refine wN ?_
    refine thenK_n <| cFf <| skipE <| blockK_n <| thenK_n <| regionE <| pu1 ?_
    refine sAdd ((j : Nat) : Int) 1 ?_
    refine pu1 <| nilO <| thenK_n <| ?_
    exact ⟨j + 1, by first | omega | (dsimp only; omega), alA, hS_194, by omega⟩
  refine pu1 <| gY ?_
  refine sL hS_92 3 5 (.int .i64 x_47.used) (Try.isAgg3 _) ?_
  refine pu3 ?_
  refine sN 138 x_47.used 0 (fun hc_160 => ?_) (fun hc_160 => ?_)
  rotate_left
  · refine pu10 <| nilO <| thenK_n <| cTt <| seqE <| regionE <| pu1 <| nilO <| thenK_n <| retE <| thenK_r <| blockK_r <| thenK_r <| thenK_r <| blockK_r <| thenK_r <| retT [.bool false] <| ?_
    first | omega
  refine pu1 <| gY ?_
  refine sL hS_92 3 0 (.int .i64 x_47.phase) (Try.isAgg3 _) ?_
  refine pu2 ?_
  refine sFix 142 _ false (bne_eq_false_iff_eq.2 hc_159) ?_
  refine pu6 <| nilO <| thenK_n <| cFf <| skipE <| thenK_n <| seqE <| regionE <| pu1 <| nilO <| thenK_n <| blockE ?_
  refine loopA (γ := Nat) (fun j => [(5, .pointer (some ⟨b_20, 0, none⟩)), (4, .pointer (some ⟨pf_8, 0, none⟩)), (6, .slice az_29 nz_30 kz_31), (7, .slice az_38 nz_39 kz_40), (9, .int .i64 ((i : Nat) : Int)), (8, .int .i64 (hd + 1)), (10, .pointer (some ⟨b_53, 0, none⟩)), (13, .int .i64 ((j : Nat) : Int))]) (fun j w => Sat W w (M1_10 :: C_79 :: G_80 :: [(b_53, .cells (encWkr x_47).toArray 61 (0, 0))] :: Z_41 :: Z_32 :: [(b_20, .cells (encCfg c_7).toArray 41 (0, 0))] :: [(p_3, .cells #[.slice t nt kt, .int .i64 i_17] 71 (0, 0))] :: H :: F) ∧ j ≤ i) (fun j => i - j) 0 ⟨hS_92, by omega⟩ ?_
  rintro j ρ w_161 ⟨hS_162, hj⟩
  refine seqE <| seqE <| regionE <| pu3 <| nilO <| thenK_n <| ?_
  refine cD (((j : Nat) : Int) < ((i : Nat) : Int)) (fun hc_163 => ?_) (fun hc_163 => ?_)
  rotate_left
  · refine exitE <| thenK_x <| thenK_x <| blockK_x <| blockK_n <| thenK_n <| regionE <| pu1 ?_
    refine sAdd ((i : Nat) : Int) 1 ?_
    refine pu1 <| nilO <| thenK_n <| ?_
    have hS_177 := ((((hS_162.pick 4 rfl).dropAt 2 rfl).dropAt 2 rfl).dropAt 2 rfl)
    exact ⟨(i + 1, (hd + 1)), by first | omega | (dsimp only; omega), alA, hS_177, by omega, (by rw [heldN_yes hx_50 (by omega)]; omega), by omega⟩
  refine skipE <| thenK_n <| seqE <| blockE <| seqE ?_
  obtain ⟨x_164, b_165, o_166, hx_167, hp_168, hq_169, ha_170⟩ := OwnT.elem hO_33 ((j : Nat) : Int)
  rw [Int.toNat_natCast] at hx_167 hp_168 hq_169
  by_cases hc_171 : (x_164.phase : Int) = 0
  · refine drawE [29] [(4, ⟨b_165, o_166 + j * 7 + 0, none⟩, .int .i64 x_164.phase)] [(true, [0, 1]), (true, [2]), (true, [3]), (true, [4]), (true, [5, 6]), (true, [7, 8, 9, 10, 11, 12, 13, 14, 15, 16, 17, 18, 20, 19, 21, 22, 23, 24, 25, 26, 27, 28]), (false, [29]), (true, [30])] rfl (by kernel_rfl) ⟨.inr ((hp_168.up 5 rfl).cell hS_162 (k := 0) rfl), trivial⟩ ?_
    have hS_172 := hS_162.drew
    refine wU [0, 1] ?_
    refine wY (.pointer (some ⟨b_165, o_166 + j * 7, none⟩)) rfl (fun w _ => Y_idx (a := az_29) (i := ((j : Nat) : Int)) (len := nz_30) (cap := kz_31) rfl Try.runUnderlying57 Try.sizeOf61 (by kernel_rfl) (by kernel_rfl) hq_169) ?_
    refine wU [3] ?_
    refine wLd (.int .i64 x_164.phase) 0 Try.isAgg3 ?_
    refine wU [5, 6] ?_
    refine wFix 160 _ false (bne_eq_false_iff_eq.2 hc_171) ?_
    refine wU [7, 8, 9, 10, 11, 12, 13, 14, 15, 16, 17, 18, 20, 19, 21, 22, 23, 24, 25, 26, 27, 28] ?_
    refine wO rfl ?_
    refine pu1 ?_
    refine nilO ⟨⟨.inr ((hp_168.up 5 rfl).cell hS_172 (k := 0) rfl), trivial⟩, ?_⟩
    refine wU [30] ?_
    refine wN ?_
    refine thenK_n <| cFf <| skipE <| blockK_n <| thenK_n <| regionE <| pu1 ?_
    refine sAdd ((j : Nat) : Int) 1 ?_
    refine pu1 <| nilO <| thenK_n <| ?_
    exact ⟨j + 1, by first | omega | (dsimp only; omega), alA, hS_172, by omega⟩
  by_cases hc_173 : (x_164.phase : Int) = 4
  · refine drawE [29] [(4, ⟨b_165, o_166 + j * 7 + 0, none⟩, .int .i64 x_164.phase), (11, ⟨b_165, o_166 + j * 7 + 0, none⟩, .int .i64 x_164.phase)] [(true, [0, 1]), (true, [2]), (true, [3]), (true, [4]), (true, [5, 6]), (true, [7, 8]), (true, [9]), (true, [10]), (true, [11]), (true, [12, 13, 14]), (true, [15, 16, 17, 18, 20, 19, 21, 22, 23, 24, 25, 26, 27, 28]), (false, [29]), (true, [30])] rfl (by kernel_rfl) ⟨.inr ((hp_168.up 5 rfl).cell hS_162 (k := 0) rfl), .inr ((hp_168.up 5 rfl).cell hS_162 (k := 0) rfl), trivial⟩ ?_
    have hS_174 := hS_162.drew
    refine wU [0, 1] ?_
    refine wY (.pointer (some ⟨b_165, o_166 + j * 7, none⟩)) rfl (fun w _ => Y_idx (a := az_29) (i := ((j : Nat) : Int)) (len := nz_30) (cap := kz_31) rfl Try.runUnderlying57 Try.sizeOf61 (by kernel_rfl) (by kernel_rfl) hq_169) ?_
    refine wU [3] ?_
    refine wLd (.int .i64 x_164.phase) 0 Try.isAgg3 ?_
    refine wU [5, 6] ?_
    refine wFix 160 _ true (bne_iff_ne.2 hc_171) ?_
    refine wU [7, 8] ?_
    refine wY (.pointer (some ⟨b_165, o_166 + j * 7, none⟩)) rfl (fun w _ => Y_idx (a := az_29) (i := ((j : Nat) : Int)) (len := nz_30) (cap := kz_31) rfl Try.runUnderlying57 Try.sizeOf61 (by kernel_rfl) (by kernel_rfl) hq_169) ?_
    refine wU [10] ?_
    refine wLd (.int .i64 x_164.phase) 1 Try.isAgg3 ?_
    refine wU [12, 13, 14] ?_
    refine wFix 168 _ false (bne_eq_false_iff_eq.2 hc_173) ?_
    refine wU [15, 16, 17, 18, 20, 19, 21, 22, 23, 24, 25, 26, 27, 28] ?_
    refine wO rfl ?_
    refine pu1 ?_
    refine nilO ⟨⟨.inr ((hp_168.up 5 rfl).cell hS_174 (k := 0) rfl), .inr ((hp_168.up 5 rfl).cell hS_174 (k := 0) rfl), trivial⟩, ?_⟩
    refine wU [30] ?_
    refine wN ?_
    refine thenK_n <| cFf <| skipE <| blockK_n <| thenK_n <| regionE <| pu1 ?_
    refine sAdd ((j : Nat) : Int) 1 ?_
    refine pu1 <| nilO <| thenK_n <| ?_
    exact ⟨j + 1, by first | omega | (dsimp only; omega), alA, hS_174, by omega⟩
  have hWy := (wk_ok hFI hx_167).h (by omega)
  have hc_175 : ¬ ((x_164.heldJob : Int) = x_47.heldJob ∧ (x_164.heldTask : Int) = x_47.heldTask) := (held_ne hFI.h hx_167 hx_50 (by omega) hWy.1 hWh.1)
  refine drawE [29] [(4, ⟨b_165, o_166 + j * 7 + 0, none⟩, .int .i64 x_164.phase), (11, ⟨b_165, o_166 + j * 7 + 0, none⟩, .int .i64 x_164.phase), (19, ⟨b_165, o_166 + j * 7 + 1 + 0, none⟩, .int .i64 x_164.heldJob), (19, ⟨b_165, o_166 + j * 7 + 1 + 1, none⟩, .int .i64 x_164.heldTask), (21, ⟨b_53, 1, none⟩, .int .i64 x_47.heldJob), (21, ⟨b_53, 2, none⟩, .int .i64 x_47.heldTask)] [(true, [0, 1]), (true, [2]), (true, [3]), (true, [4]), (true, [5, 6]), (true, [7, 8]), (true, [9]), (true, [10]), (true, [11]), (true, [12, 13, 14]), (true, [15, 16]), (true, [17]), (true, [18, 20]), (true, [19]), (true, [21]), (true, [22]), (true, [23, 24]), (true, [25, 26, 27, 28]), (false, [29]), (true, [30])] rfl (by kernel_rfl) ⟨.inr ((hp_168.up 5 rfl).cell hS_162 (k := 0) rfl), .inr ((hp_168.up 5 rfl).cell hS_162 (k := 0) rfl), .inr ((hp_168.up 5 rfl).cell hS_162 (k := 1) rfl), .inr ((hp_168.up 5 rfl).cell hS_162 (k := 2) rfl), .inr (hS_162.cell 3 rfl rfl), .inr (hS_162.cell 3 rfl rfl), trivial⟩ ?_
  have hS_176 := hS_162.drew
  refine wU [0, 1] ?_
  refine wY (.pointer (some ⟨b_165, o_166 + j * 7, none⟩)) rfl (fun w _ => Y_idx (a := az_29) (i := ((j : Nat) : Int)) (len := nz_30) (cap := kz_31) rfl Try.runUnderlying57 Try.sizeOf61 (by kernel_rfl) (by kernel_rfl) hq_169) ?_
  refine wU [3] ?_
  refine wLd (.int .i64 x_164.phase) 0 Try.isAgg3 ?_
  refine wU [5, 6] ?_
  refine wFix 160 _ true (bne_iff_ne.2 hc_171) ?_
  refine wU [7, 8] ?_
  refine wY (.pointer (some ⟨b_165, o_166 + j * 7, none⟩)) rfl (fun w _ => Y_idx (a := az_29) (i := ((j : Nat) : Int)) (len := nz_30) (cap := kz_31) rfl Try.runUnderlying57 Try.sizeOf61 (by kernel_rfl) (by kernel_rfl) hq_169) ?_
  refine wU [10] ?_
  refine wLd (.int .i64 x_164.phase) 1 Try.isAgg3 ?_
  refine wU [12, 13, 14] ?_
  refine wFix 168 _ true (bne_iff_ne.2 hc_173) ?_
  refine wU [15, 16] ?_
  refine wY (.pointer (some ⟨b_165, o_166 + j * 7, none⟩)) rfl (fun w _ => Y_idx (a := az_29) (i := ((j : Nat) : Int)) (len := nz_30) (cap := kz_31) rfl Try.runUnderlying57 Try.sizeOf61 (by kernel_rfl) (by kernel_rfl) hq_169) ?_
  refine wU [18, 20] ?_
  refine wY (.agg #[.int .i64 x_164.heldJob, .int .i64 x_164.heldTask]) rfl (fun w hF => Y_loadF rfl (Try.isAgg48 w) (Try.sizeOf48 w) (by kernel_rfl) rfl ⟨hF 2 _ _ rfl, hF 3 _ _ rfl, trivial⟩) ?_
  refine wY (.agg #[.int .i64 x_47.heldJob, .int .i64 x_47.heldTask]) rfl (fun w hF => Y_loadF rfl (Try.isAgg48 w) (Try.sizeOf48 w) (by kernel_rfl) rfl ⟨hF 4 _ _ rfl, hF 5 _ _ rfl, trivial⟩) ?_
  refine wY (.bool (((x_164.heldJob : Int) == x_47.heldJob) && ((x_164.heldTask : Int) == x_47.heldTask))) rfl (fun w _ => Y_eqS rfl (by kernel_rfl) (by kernel_rfl) (eqve48 _ x_164.heldJob x_164.heldTask x_47.heldJob x_47.heldTask)) ?_
  refine wU [23, 24] ?_
  refine wFix 178 _ false (show (((x_164.heldJob : Int) == x_47.heldJob) && ((x_164.heldTask : Int) == x_47.heldTask)) = false from by simpa using hc_175) ?_
  refine wU [25, 26, 27, 28] ?_
  refine wO rfl ?_
  refine pu1 ?_
  refine nilO ⟨⟨.inr ((hp_168.up 5 rfl).cell hS_176 (k := 0) rfl), .inr ((hp_168.up 5 rfl).cell hS_176 (k := 0) rfl), .inr ((hp_168.up 5 rfl).cell hS_176 (k := 1) rfl), .inr ((hp_168.up 5 rfl).cell hS_176 (k := 2) rfl), .inr (hS_176.cell 3 rfl rfl), .inr (hS_176.cell 3 rfl rfl), trivial⟩, ?_⟩
  refine wU [30] ?_
  refine wN ?_
  refine thenK_n <| cFf <| skipE <| blockK_n <| thenK_n <| regionE <| pu1 ?_
  refine sAdd ((j : Nat) : Int) 1 ?_
  refine pu1 <| nilO <| thenK_n <| ?_
  exact ⟨j + 1, by first | omega | (dsimp only; omega), alA, hS_176, by omega⟩
end Go.Proofs.Ytegmennaekipaaa
