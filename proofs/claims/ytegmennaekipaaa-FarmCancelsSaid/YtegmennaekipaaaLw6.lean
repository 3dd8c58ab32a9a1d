import Derived.Test.YtegmennaekipaaaLw4
namespace Go.Proofs.Ytegmennaekipaaa
open Go Go.E
set_option linter.unusedVariables false
set_option linter.unusedSimpArgs false
set_option linter.unnecessarySimpa false
set_option maxRecDepth 100000
set_option maxHeartbeats 2000000
variable {W w : World} {H : Chunk} {F : List Chunk}
/-! ### FarmCancels: a job that was cancelled -/
def Dead (F : FS) (x : Int) : Prop := (jobAt F x).running = false
theorem dead_set {jobs : List JS} {k x : Nat} {j' : JS} (h : (jobs.getD x default).running = false) (hj : j'.running = false ∨ j'.running = (jobs.getD k default).running) : ((jobs.set k j').getD x default).running = false := by
  rw [List.getD_eq_getElem?_getD, List.getElem?_set]
  split
  · rename_i e
    subst e
    split
    · show j'.running = false
      rcases hj with hj | hj
      · exact hj
      · rw [hj, h]
    · rfl
  · rw [← List.getD_eq_getElem?_getD]; exact h
theorem Dead.keep {F G : FS} {x : Int} (h : Dead F x) (e : G.jobs = F.jobs) : Dead G x := by unfold Dead jobAt at *; rw [e]; exact h
theorem Dead.take {F : FS} {x y : Int} {r : Ref} (h : Dead F x) : Dead (takeF F y r) x := dead_set (k := r.job.toNat) h (.inr rfl)
theorem spill_jobs {x job band : Int} : ∀ (l : List Int) {F : FS}, (spillF F x job band l).jobs = F.jobs
  | [], _ => rfl
  | t :: l, F => by
    have h : (spill1 F x ⟨job, t⟩ band).jobs = F.jobs := by unfold spill1; split <;> rfl
    exact (spill_jobs l (F := spill1 F x ⟨job, t⟩ band)).trans h
theorem Dead.micro {F : FS} {x y : Int} (h : Dead F x) : Dead (microF F y).1 x := by
  unfold microF
  simp only
  split
  · exact h.keep rfl
  · split
    · exact h.keep rfl
    · split
      · unfold Dead jobAt; exact dead_set h (.inl rfl)
      · unfold Dead jobAt; rw [spill_jobs]; exact dead_set h (.inr rfl)
theorem Dead.acq {F F' : FS} {x y c : Int} {ev : Evt} (h : Dead F y) (he : acqF F x c = some (F', ev)) : Dead F' y := by
  unfold acqF at he
  split at he
  · obtain ⟨rfl, _⟩ := Prod.mk.inj (Option.some.inj he); exact Dead.take (h.keep rfl)
  · split at he
    · obtain ⟨rfl, _⟩ := Prod.mk.inj (Option.some.inj he); exact Dead.take (h.keep rfl)
    · unfold stealF at he
      split at he
      · cases he
      · split at he
        · cases he
        · rename_i i _ _ r _
          obtain ⟨rfl, _⟩ := Prod.mk.inj (Option.some.inj he)
          exact Dead.keep (F := takeF (popF F (chF F c i) (dqAt F (chF F c i)).l.tail) x r) (Dead.take (h.keep rfl)) rfl
theorem Dead.step {F : FS} {x c y : Int} (h : Dead F y) : Dead (stepF F x c).1 y := by
  unfold stepF
  split
  · exact h
  · split
    · exact h
    · split
      · split
        · exact h.micro
        · exact h.keep rfl
      · unfold restF
        split
        · rename_i q hq; exact h.acq (ev := q.2) hq
        · split
          · exact Dead.micro (h.keep rfl)
          · exact h
theorem runK_mem {F : FS} {K : Int} (hF : FW F K) {x : Int} : x ∈ runK F.jobs ↔ (0 ≤ x ∧ x < 64) ∧ (jobAt F x).running = true := by
  unfold runK runJ9
  rw [List.mem_filter, mem_allK]; rfl
theorem can2 {F : FS} {K : Int} (hF : FI F K) {x : Int} (hx : x ∈ runK F.jobs) : (cancelF F x).2 = ([⟨2, 0, 0, x, 0, 0, 0⟩], 0) ∧ cancelF (cancelF F x).1 x = ((cancelF F x).1, [], 18) ∧ Dead (cancelF F x).1 x := by
  obtain ⟨h1, h2⟩ := (runK_mem hF.fw).1 hx
  obtain ⟨j, hj⟩ := at_some hF.fw.jl (k := x.toNat) (by omega)
  have hjx : jobAt F x = j := by unfold jobAt; exact getD_some hj
  rw [hjx] at h2
  have ha := (hF.fw.j j (List.mem_of_getElem? hj)).r h2
  have hl : x.toNat < F.jobs.length := by rw [hF.fw.jl]; omega
  have e := cancel_at h1 hj ha h2
  have hj2 : (cancelF F x).1.jobs[x.toNat]? = some { j with running := false } := by rw [e]; show (F.jobs.set _ _)[_]? = _; rw [List.getElem?_set, if_pos rfl, if_pos hl]
  have hjx2 : jobAt (cancelF F x).1 x = { j with running := false } := by unfold jobAt; exact getD_some hj2
  refine ⟨by rw [e], ?_, by unfold Dead; rw [hjx2]⟩
  generalize (cancelF F x).1 = G at *
  unfold cancelF
  rw [hjx2, if_neg (by simp [ha, h1]), if_pos rfl]
theorem can_fin {c : Cfg} {F : FS} {K : Int} {n : Nat} (h : PJ c F K n) (hn : 0 < n) (he : runK F.jobs = []) : (cancelF F 0).2 = ([], 18) := by
  obtain ⟨m, hm⟩ := h.s0 0 hn
  unfold shapeF at hm
  rw [List.getElem?_map] at hm
  cases hj : F.jobs[0]? with
  | none => rw [hj] at hm; cases hm
  | some j =>
    rw [hj] at hm
    have ha : j.added = true := (Prod.mk.inj (Option.some.inj hm)).1
    have hjx : jobAt F 0 = j := by unfold jobAt; exact getD_some hj
    have hr : j.running = false := by
      cases hr : j.running with
      | false => rfl
      | true =>
        have : (0 : Int) ∈ runK F.jobs := (runK_mem h.j.i.fw).2 ⟨by decide, by rw [hjx]; exact hr⟩
        rw [he] at this; cases this
    unfold cancelF
    rw [hjx, if_neg (by simp [ha]), if_pos hr]
theorem in_dq {F : FS} {x : Int} {r : Ref} (h : r ∈ (dqAt F x).l) : 0 < cnt F r := by
  unfold dqAt at h
  rw [List.getD_eq_getElem?_getD] at h
  cases hd : F.dq[x.toNat]? with
  | none => rw [hd] at h; cases h
  | some d =>
    rw [hd] at h
    have := cD_ge (r := r) hd
    have h2 : 0 < d.l.count r := List.count_pos_iff.2 h
    unfold cnt; omega
theorem acq_run {F F' : FS} {x c : Int} {ev : Evt} (q : QI F) (he : acqF F x c = some (F', ev)) : (ev.kind = 3 ∨ ev.kind = 4 ∨ ev.kind = 5) ∧ (jobAt F ev.refJob).running = true := by
  have run : ∀ {r : Ref}, 0 < cnt F r → (jobAt F r.job).running = true := by
    intro r hr
    obtain ⟨_, j, hj, h2, _⟩ := rdy_some (q.rdy hr)
    unfold jobAt; rw [getD_some hj]; exact h2
  unfold acqF at he
  split at he
  · rename_i r hr
    obtain ⟨_, rfl⟩ := Prod.mk.inj (Option.some.inj he)
    exact ⟨.inl rfl, run (r := r) (in_dq (List.mem_of_getLast? hr))⟩
  · split at he
    · rename_i r bs hp
      obtain ⟨_, rfl⟩ := Prod.mk.inj (Option.some.inj he)
      refine ⟨.inr (.inl rfl), run (r := r) ?_⟩
      have := cQ_pop (r := r) hp
      unfold cnt; rw [this]; unfold eq1; rw [if_pos rfl]; omega
    · unfold stealF at he
      split at he
      · cases he
      · split at he
        · cases he
        · rename_i r hr
          obtain ⟨_, rfl⟩ := Prod.mk.inj (Option.some.inj he)
          exact ⟨.inr (.inr rfl), run (r := r) (in_dq (List.mem_of_head? hr))⟩
theorem micro_ev {F : FS} {x : Int} : (microF F x).2.kind = 6 ∨ (microF F x).2.kind = 7 ∨ ((microF F x).2.kind = 8 ∧ (microF F x).2.refJob = (wAt F x).heldJob) := by
  unfold microF
  simp only
  split
  · exact .inl rfl
  · split
    · exact .inr (.inl rfl)
    · exact .inr (.inr ⟨rfl, rfl⟩)
structure SC (F : FS) (x c y : Int) (v : Wkr) : Prop where
  d : v.phase = 4 → (stepF F x c).2.2 = 20
  o : v.phase ≠ 4 → (stepF F x c).2.2 = 0 ∧ 0 < (stepF F x c).2.1.length ∧ ∀ e, (stepF F x c).2.1[0]? = some e →
    ((v.phase ≠ 0 ∧ v.heldJob = y) ↔ (e.kind = 9 ∧ e.refJob = y)) ∧ ¬ ((e.kind = 3 ∨ e.kind = 4 ∨ e.kind = 5 ∨ e.kind = 8) ∧ e.refJob = y)
theorem step_canc {F : FS} {K x c y : Int} {v : Wkr} (hF : FI F K) (hd : Dead F y) (hx : 0 ≤ x) (hv : F.ws[x.toNat]? = some v) : SC F x c y v := by
  have hi := (List.getElem?_eq_some_iff.1 hv).1
  have hw : wAt F x = v := by unfold wAt; exact getD_some hv
  have hp := hF.h.z x.toNat v hv
  unfold Holds at hp
  constructor
  · intro h
    unfold stepF; rw [if_neg (fun k => k ⟨hx, by omega⟩), hw, if_pos h]
  · intro h
    have e : stepF F x c = if v.phase = 1 ∨ v.phase = 2 ∨ v.phase = 3 then (if (jobAt F v.heldJob).running = true then ((microF F x).1, [(microF F x).2], 0) else (dropF F x, [⟨9, x, 0, 0, v.heldJob, v.heldTask, 0⟩], 0)) else restF F x c := by
      unfold stepF; rw [if_neg (fun k => k ⟨hx, by omega⟩), hw, if_neg h]
    rw [e]
    split
    · rename_i hH
      split
      · rename_i hr
        have hne : v.heldJob ≠ y := by rintro rfl; unfold Dead at hd; rw [hd] at hr; cases hr
        refine ⟨rfl, Nat.zero_lt_one, ?_⟩
        intro ev hev
        obtain rfl := Option.some.inj hev
        rcases micro_ev (F := F) (x := x) with k | k | ⟨k, k2⟩
        · omega
        · omega
        · rw [hw] at k2; omega
      · refine ⟨rfl, Nat.zero_lt_one, ?_⟩
        intro ev hev
        obtain rfl := Option.some.inj hev
        dsimp only; omega
    · rename_i hH
      have h0 : v.phase = 0 := by have := hp hH; omega
      unfold restF
      split
      · rename_i q hq
        refine ⟨rfl, Nat.zero_lt_one, ?_⟩
        intro ev hev
        obtain rfl := Option.some.inj hev
        obtain ⟨k1, k2⟩ := acq_run (ev := q.2) hF.q hq
        have hne : q.2.refJob ≠ y := by intro k; unfold Dead at hd; rw [k, hd] at k2; cases k2
        omega
      · split
        · refine ⟨rfl, by simp, ?_⟩
          intro ev hev
          obtain rfl := Option.some.inj hev
          dsimp only; omega
        · refine ⟨rfl, Nat.zero_lt_one, ?_⟩
          intro ev hev
          obtain rfl := Option.some.inj hev
          simp only [evt]; omega
def hasL (l : List Int) (n : Int) : Bool := decide (n ∈ l)
theorem has_dead {F : FS} {K x : Int} (hF : FW F K) (h : Dead F x) : ¬ hasL (runK F.jobs) x = true := by
  unfold hasL
  intro k
  have := ((runK_mem hF).1 (of_decide_eq_true k)).2
  unfold Dead at h; rw [h] at this; cases this
set_option maxHeartbeats 6000000
theorem l27_has (al : Option Addr) (nl kl : Nat) (l : List Int) (n : Int) (hl : RdT encI 1 [H] al nl kl l) (hS : Sat W w (H :: F)) :
    Ro Try.prog 36 #[.slice al nl kl, .int .i64 n] (.bool (hasL l n)) W w (H :: F) := by
  have hl_l := hl.le; have hn_l := hl.len
  refine callsA 18 Try.func36 rfl ?_
  refine seqE <| regionE <| pu1 <| nilO <| thenK_n <| seqE <| seqE <| regionE <| pu1 <| nilO <| thenK_n <| blockE ?_
  refine loopA (γ := Nat) (fun i => [(0, .slice al nl kl), (1, .int .i64 n), (5, .int .i64 ((i : Nat) : Int))]) (fun i w => Sat W w (H :: F) ∧ i ≤ nl ∧ (∀ y ∈ l.take i, y ≠ n)) (fun i => nl - i) 0 ⟨hS, by omega, by intro y hy; cases hy⟩ ?_
  rintro i ρ w_1 ⟨hS_2, hi, hN⟩
  refine seqE <| seqE <| regionE <| pu4 <| nilO <| thenK_n <| ?_
  refine cD (((i : Nat) : Int) < ((nl : Nat) : Int)) (fun hc_3 => ?_) (fun hc_3 => ?_)
  rotate_left
  · refine exitE <| thenK_x <| thenK_x <| blockK_x <| thenK_n <| seqE <| regionE <| pu1 <| nilO <| thenK_n <| retE <| retT [.bool false] <| ?_
    exact ⟨by unfold hasL; rw [decide_eq_false (fun k => hN n (by rw [List.take_of_length_le (by omega)]; exact k) rfl)]; rfl, hS_2⟩
  refine skipE <| thenK_n <| seqE <| blockE <| seqE <| regionE <| pu2 ?_
  refine sIdx hl ((i : Nat) : Int) Try.runUnderlying22 Try.sizeOf3 ?_
  intro x_4 b_5 o_6 hx_7 hp_8
  rw [Int.toNat_natCast] at hx_7
  refine sLp hS_2 (hp_8.up 0 rfl) 0 (.int .i64 x_4) (Try.isAgg3 _) ?_
  refine pu2 <| nilO <| thenK_n <| ?_
  refine cE x_4 n (fun hc_9 => ?_) (fun hc_9 => ?_)
  · refine seqE <| regionE <| pu1 <| nilO <| thenK_n <| retE <| blockK_r <| thenK_r <| thenK_r <| blockK_r <| thenK_r <| retT [.bool true] <| ?_
    exact ⟨by unfold hasL; rw [decide_eq_true (show n ∈ l by rw [show n = x_4 by omega]; exact List.mem_of_getElem? hx_7)]; rfl, hS_2⟩
  refine skipE <| blockK_n <| thenK_n <| regionE <| pu1 ?_
  refine sAdd ((i : Nat) : Int) 1 ?_
  refine pu1 <| nilO <| thenK_n <| ?_
  exact ⟨i + 1, by first | omega | (dsimp only; omega), alA, hS_2, by omega, (by intro y hy; rw [take_succ_at hx_7] at hy; rcases List.mem_append.1 hy with h | h; exact hN y h; rw [List.mem_singleton.1 h]; omega)⟩
theorem l27_cancels (W w : World) (H : Chunk) (F : List Chunk) (t : Option Addr) (nt kt : Nat) (xt : List Int) (job : Int) (ht : RdT encI 1 [H] t nt kt xt) (_hjob : -9223372036854775808 ≤ job ∧ job ≤ 9223372036854775807) (hS : Sat W w (H :: F)) :
    Calls Try.prog 8 #[.slice t nt kt, .int .i64 job] w fun e w' => e = .returned (.bool true) ∧ Sat W w' (H :: F) := by
  have hlt := ht.le
  refine callsA 186 Try.func8 rfl ?_
  refine seqE <| regionE <| pu1 <| nilO <| thenK_n <| seqE <| regionE <| pu1 ?_
  refine cX Try.call11 (tape_new t nt kt hS) ?_
  rintro _ w_1 ⟨p_3, rfl, hS_2⟩
  have hle_4 := ht.le
  refine pu1 <| nilO <| thenK_n <| seqE <| regionE <| pu1 ?_
  refine cX Try.call33 (l27_play (RdT.flat (ht.up 0 (by rfl))) (by omega) (Sat.flat1 hS_2) 40 (by omega)) ?_
  rintro _ w_5 ⟨c_7, pf_8, F1_9, M1_10, nj_11, rfl, hv_12, hc_13, hR_14, hPJ_15, hn_16, i_17, hi_18, hS_6⟩
  have hS_19 := Sat.unflat2 hS_6
  refine pu3 ?_
  refine sAlloc hS_19 Try.zeroValue41 ?_
  intro b_20 w_21 hS_22
  refine pu1 ?_
  refine sT hS_22 0 0 (.agg (encCfg c_7).toArray) (encCfg c_7) (encCfg c_7).toArray Try.sizeOf41 ?_
  intro w_23 hS_24
  refine nilO ?_
  have hvc0 := validCfg_zero hv_12; have hpc := hc_13; have hFI := hPJ_15.j.i; have hpw := hPJ_15.ws; have hpn := hn_16
  have hcf := hPJ_15.cf
  refine thenK_n <| seqE <| seqE <| regionE <| pu2 <| nilO <| thenK_n <| cFf <| skipE <| thenK_n <| seqE <| regionE <| pu1 ?_
  have hS_25 := (hS_24.pick 2 rfl)
  refine cX Try.call30 (pf_jobs hR_14 hPJ_15.j.i  (hPJ_15.j.r12 (by omega)) (Sat.flat1 hS_25)) ?_
  rintro _ w_26 ⟨az_29, nz_30, kz_31, Z_32, rfl, hO_33, hS_27⟩
  have hS_28 := Sat.unflat2 hS_27; have hn_az_29 := hO_33.len; have hl_az_29 := hO_33.le
  refine pu1 <| nilO ?_
  have hj12_ := hPJ_15.j.r12 (by omega)
  refine thenK_n <| seqE <| seqE <| regionE <| pu3 <| nilO <| thenK_n <| ?_
  refine cE ((nz_30 : Nat) : Int) 0 (fun hc_34 => ?_) (fun hc_34 => ?_)
  · refine seqE <| regionE <| pu1 ?_
    have hS_35 := (hS_28.pick 1 rfl)
    refine cX Try.call34 (pf_cancel hR_14 hPJ_15.j.i 0  (Sat.flat1 hS_35)) ?_
    rintro _ w_36 ⟨az_39, nz_40, kz_41, Z_42, M_43, rfl, hO_44, hR_45, hS_37⟩
    have hS_38 := Sat.unflat2 hS_37; have hn_az_39 := hO_44.len; have hl_az_39 := hO_44.le
    have hJ_46 := FJ.cancel (x := 0) hPJ_15.j (by omega)
    have hrk_ : runK F1_9.jobs = [] := List.length_eq_zero_iff.1 (by omega)
    have he_47 : (cancelF F1_9 0).2 = (([] : List Evt), 18) := can_fin hPJ_15 (by omega) hrk_
    have he_47_c := congrArg Prod.snd he_47; have he_47_l := congrArg Prod.fst he_47; dsimp only at he_47_c he_47_l; rw [he_47_c]; rw [he_47_l] at hO_44 hn_az_39
    obtain rfl : 0 = nz_40 := hn_az_39
    have hPJ_48 := PJ.cancel 0 hPJ_15 (by omega)
    refine pu5 <| nilO <| thenK_n <| seqE <| regionE <| pu3 <| gY ?_
    refine cX Try.call24 (l27_sane hS_38) ?_
    rintro _ w_49 ⟨rfl, hS_50⟩
    refine pu2 <| nilO <| thenK_n <| retE <| thenK_r <| retT [.bool true] <| ?_
    have hS_51 := (hS_50.pick 5 rfl)
    have hS_52 := hS_51.dropAt 1 rfl
    have hS_53 := hS_52.dropAt 1 rfl
    have hS_54 := hS_53.dropAt 1 rfl
    have hS_55 := hS_54.dropAt 1 rfl
    have hS_56 := hS_55.dropAt 1 rfl
    exact ⟨rfl, hS_56⟩
  refine skipE <| thenK_n <| seqE <| regionE <| pu4 ?_
  refine cX Try.call18 (mod_ok job ((nz_30 : Nat) : Int) (by omega) (by omega) hS_28) ?_
  rintro _ w_57 ⟨r_59, rfl, hr_60, hS_58⟩
  refine sIdxO hO_33 r_59 (r_59).toNat Try.runUnderlying22 Try.sizeOf3 ?_
  intro x_61 b_62 o_63 hx_64 hp_65 hq_66
  refine sLp hS_58 (hp_65.up 0 rfl) 0 (.int .i64 x_61) (Try.isAgg3 _) ?_
  refine pu1 <| nilO ?_
  have hcan := can2 hFI (x := x_61) (List.mem_of_getElem? hx_64); have hjr_ := ((runK_mem hFI.fw).1 (List.mem_of_getElem? hx_64)).1
  refine thenK_n <| seqE <| regionE <| pu2 ?_
  have hS_67 := (hS_58.pick 1 rfl)
  refine cX Try.call34 (pf_cancel hR_14 hPJ_15.j.i x_61  (Sat.flat1 hS_67)) ?_
  rintro _ w_68 ⟨az_71, nz_72, kz_73, Z_74, M_75, rfl, hO_76, hR_77, hS_69⟩
  have hS_70 := Sat.unflat2 hS_69; have hn_az_71 := hO_76.len; have hl_az_71 := hO_76.le
  have hJ_78 := FJ.cancel (x := x_61) hPJ_15.j (by omega)
  have he_79 : (cancelF F1_9 x_61).2 = ([(⟨2, 0, 0, x_61, 0, 0, 0⟩ : Evt)], 0) := hcan.1
  have he_79_c := congrArg Prod.snd he_79; have he_79_l := congrArg Prod.fst he_79; dsimp only at he_79_c he_79_l; rw [he_79_c]; rw [he_79_l] at hO_76 hn_az_71
  obtain rfl : 1 = nz_72 := hn_az_71
  have hPJ_80 := PJ.cancel x_61 hPJ_15 (by omega)
  refine pu5 <| nilO <| thenK_n <| seqE <| regionE <| pu2 ?_
  have hS_81 := (hS_70.pick 1 rfl)
  refine cX Try.call34 (pf_cancel hR_77 hJ_78.i x_61  (Sat.flat1 hS_81)) ?_
  rintro _ w_82 ⟨az_85, nz_86, kz_87, Z_88, M_89, rfl, hO_90, hR_91, hS_83⟩
  have hS_84 := Sat.unflat2 hS_83; have hn_az_85 := hO_90.len; have hl_az_85 := hO_90.le
  have hJ_92 := FJ.cancel (x := x_61) hJ_78 (by omega)
  have he_93 : (cancelF (cancelF F1_9 x_61).1 x_61).2 = (([] : List Evt), 18) := (by rw [hcan.2.1])
  have he_93_c := congrArg Prod.snd he_93; have he_93_l := congrArg Prod.fst he_93; dsimp only at he_93_c he_93_l; rw [he_93_c]; rw [he_93_l] at hO_90 hn_az_85
  obtain rfl : 0 = nz_86 := hn_az_85
  have hPJ_94 := PJ.cancel x_61 hPJ_80 (by omega)
  refine pu5 <| nilO <| thenK_n <| seqE <| seqE <| regionE <| pu9 <| gY ?_
  refine sIdxO hO_76 0 0 Try.runUnderlying44 Try.sizeOf50 ?_
  intro x_95 b_96 o_97 hx_98 hp_99 hq_100
  have hxl_x_95 : x_95 = (⟨2, 0, 0, x_61, 0, 0, 0⟩ : Evt) := (Option.some.inj hx_98).symm
  refine gY ?_
  refine sLpA hS_84 (hp_99.up 2 rfl) 0 (encEvt x_95) (Try.isAgg50 _) (Try.sizeOf50 _) ?_
  refine pu2 <| gY ?_
  refine stepY (.bool (!(((x_95.kind : Int) == 2) && ((x_95.worker : Int) == 0) && ((x_95.from_ : Int) == 0) && ((x_95.job : Int) == x_61) && ((x_95.refJob : Int) == 0) && ((x_95.refTask : Int) == 0) && ((x_95.err : Int) == 0)))) rfl rfl (Y_eqS rfl (by kernel_rfl) (by kernel_rfl) (eqvn50 _ x_95.kind x_95.worker x_95.from_ x_95.job x_95.refJob x_95.refTask x_95.err 2 0 0 x_61 0 0 0)) ?_
  refine pu2 ?_
  have hc_101 : (x_95.kind : Int) = 2 ∧ (x_95.worker : Int) = 0 ∧ (x_95.from_ : Int) = 0 ∧ (x_95.job : Int) = x_61 ∧ (x_95.refJob : Int) = 0 ∧ (x_95.refTask : Int) = 0 ∧ (x_95.err : Int) = 0 := (by subst hxl_x_95; exact ⟨rfl, rfl, rfl, rfl, rfl, rfl, rfl⟩)
  refine sFix 82 _ false (congrArg Bool.not (show (((x_95.kind : Int) == 2) && ((x_95.worker : Int) == 0) && ((x_95.from_ : Int) == 0) && ((x_95.job : Int) == x_61) && ((x_95.refJob : Int) == 0) && ((x_95.refTask : Int) == 0) && ((x_95.err : Int) == 0)) = true from by simpa [and_assoc] using hc_101)) ?_
  refine pu3 <| nilO <| thenK_n <| cFf <| skipE <| thenK_n <| seqE <| seqE <| regionE <| pu1 <| nilO <| thenK_n <| blockE ?_
  have hS_102 := (((((hS_84.pick 4 rfl).pick 5 rfl).dropAt 2 rfl).dropAt 3 rfl).dropAt 3 rfl)
  refine loopA (γ := Nat × Int × FS × Chunk) (fun ⟨i, it, F3, M3⟩ => [(5, .pointer (some ⟨p_3, 0, none⟩)), (6, .pointer (some ⟨pf_8, 0, none⟩)), (7, .pointer (some ⟨b_20, 0, none⟩)), (11, .int .i64 x_61), (16, .int .i64 ((i : Nat) : Int))]) (fun ⟨i, it, F3, M3⟩ w => Sat W w ([(p_3, .cells #[.slice t nt kt, .int .i64 it] 71 (0, 0))] :: [(b_20, .cells (encCfg c_7).toArray 41 (0, 0))] :: M3 :: H :: F) ∧ i ≤ 40 ∧ (0 ≤ it ∧ it ≤ nt) ∧ FarmP pf_8 F3 M3 ∧ PJ c_7 F3 (42 + ((i : Nat) : Int)) nj_11 ∧ Dead F3 x_61) (fun ⟨i, it, F3, M3⟩ => 40 - i) (0, i_17, (cancelF (cancelF F1_9 x_61).1 x_61).1, M_89) ⟨hS_102, by omega, by omega, hR_91, (hPJ_94.mono (by omega) (by omega)), (by rw [hcan.2.1]; exact hcan.2.2)⟩ ?_
  rintro ⟨i, it, F3, M3⟩ ρ w_103 ⟨hS_104, hi, hit, hFR3, hPJ3, hDd⟩
  have hws3 := hPJ3.ws
  refine seqE <| seqE <| regionE <| pu2 <| nilO <| thenK_n <| ?_
  refine cD (((i : Nat) : Int) < 40) (fun hc_105 => ?_) (fun hc_105 => ?_)
  rotate_left
  · refine exitE <| thenK_x <| thenK_x <| blockK_x <| thenK_n <| seqE ?_
    have hj13_ := hPJ3.j.r12 (by omega)
    refine regionE <| pu1 ?_
    have hS_298 := (hS_104.pick 2 rfl)
    refine cX Try.call30 (pf_jobs hFR3 hPJ3.j.i  (hPJ3.j.r12 (by omega)) (Sat.flat1 hS_298)) ?_
    rintro _ w_299 ⟨az_302, nz_303, kz_304, Z_305, rfl, hO_306, hS_300⟩
    have hS_301 := Sat.unflat2 hS_300; have hn_az_302 := hO_306.len; have hl_az_302 := hO_306.le
    refine pu1 ?_
    refine cR Try.call36 (l27_has az_302 nz_303 kz_304 (runK F3.jobs) x_61 (RdT.flat (hO_306.rdAt 0 (by rfl))) (Sat.flat hS_301)) ?_
    intro w_307 hS_308
    refine pu2 ?_
    have hc_310 : ¬ (hasL (runK F3.jobs) x_61 = true) := (has_dead hPJ3.j.i.fw hDd)
    refine sFix 183 _ true (congrArg Bool.not (Bool.eq_false_iff.2 hc_310)) ?_
    refine gY ?_
    refine cX Try.call24 (l27_sane hS_308) ?_
    rintro _ w_311 ⟨rfl, hS_312⟩
    refine pu2 <| nilO <| thenK_n <| retE <| retT [.bool true] <| ?_
    have hS_313 := (hS_312.pick 4 rfl)
    have hS_314 := hS_313.dropAt 1 rfl
    have hS_315 := hS_314.dropAt 1 rfl
    have hS_316 := hS_315.dropAt 1 rfl
    have hS_317 := hS_316.dropAt 1 rfl
    exact ⟨rfl, hS_317⟩
  refine skipE <| thenK_n <| seqE <| blockE <| seqE <| regionE <| pu2 ?_
  refine sL hS_104 1 0 (.int .i64 c_7.workers) (Try.isAgg3 _) ?_
  refine cX Try.call35 (tape_next (RdT.flat (ht.up 2 (by rfl))) (by omega) (Sat.flat1 hS_104) c_7.workers (by omega)) ?_
  rintro _ w_106 ⟨r_108, rfl, hr_109, i_110, hi_111, hS_107⟩
  have hS_112 := Sat.unflat1 hS_107
  refine pu1 <| nilO <| thenK_n <| seqE <| regionE <| pu1 ?_
  have hS_113 := (hS_112.pick 2 rfl)
  refine cX Try.call29 (pf_workers hFR3 hPJ3.j.i   (Sat.flat1 hS_113)) ?_
  rintro _ w_114 ⟨az_117, nz_118, kz_119, Z_120, rfl, hO_121, hS_115⟩
  have hS_116 := Sat.unflat2 hS_115; have hn_az_117 := hO_121.len; have hl_az_117 := hO_121.le
  refine pu1 <| nilO <| thenK_n <| seqE <| seqE <| regionE <| pu3 ?_
  refine sL hS_116 3 0 (.int .i64 c_7.workers) (Try.isAgg3 _) ?_
  refine pu1 <| nilO <| thenK_n <| ?_
  refine cN ((nz_118 : Nat) : Int) c_7.workers (fun hc_122 => ?_) (fun hc_122 => ?_)
  rotate_left
  · refine seqE <| regionE <| pu1 <| nilO <| thenK_n <| retE <| thenK_r <| blockK_r <| thenK_r <| thenK_r <| blockK_r <| thenK_r <| retT [.bool false] <| ?_
    first | omega
  refine skipE <| thenK_n <| seqE <| regionE <| pu2 ?_
  refine sIdxO hO_121 r_108 (r_108).toNat Try.runUnderlying57 Try.sizeOf61 ?_
  intro x_123 b_124 o_125 hx_126 hp_127 hq_128
  refine sLpA hS_116 (hp_127.up 0 rfl) 0 (encWkr x_123) (Try.isAgg61 _) (Try.sizeOf61 _) ?_
  refine sAlloc hS_116 Try.zeroValue61 ?_
  intro b_129 w_130 hS_131
  refine sT hS_131 0 0 (.agg (encWkr x_123).toArray) (encWkr x_123) (encWkr x_123).toArray Try.sizeOf61 ?_
  intro w_132 hS_133
  refine nilO <| thenK_n <| seqE <| regionE <| pu3 ?_
  have hS_134 := (hS_133.pick 3 rfl)
  refine cX Try.call35 (tape_next (RdT.flat (ht.up 4 (by rfl))) (by omega) (Sat.flat1 hS_134) 9 (by omega)) ?_
  rintro _ w_135 ⟨r_137, rfl, hr_138, i_139, hi_140, hS_136⟩
  have hS_141 := Sat.unflat1 hS_136
  have hS_142 := (hS_141.pick 3 rfl)
  refine cX Try.call23 (pf_step hFR3 hPJ3.j.i r_108 r_137 hPJ3.j.t (by omega) (Sat.flat1 hS_142)) ?_
  rintro _ w_143 ⟨az_146, nz_147, kz_148, Z_149, M_150, rfl, hO_151, hR_152, hS_144⟩
  have hS_145 := Sat.unflat2 hS_144; have hn_az_146 := hO_151.len; have hl_az_146 := hO_151.le
  have hJ_153 := FJ.step (x := r_108) (c := r_137) hPJ3.j (by omega)
  have hSC := step_canc hPJ3.j.i hDd (by omega) hx_126 (c := r_137); have hSCd := hSC.d; have hSCo := fun h => (hSC.o h).1; have hSCp := fun h => (hSC.o h).2.1
  have hPJ_154 := PJ.step r_108 r_137 hPJ3 (by omega)
  refine pu5 <| nilO <| thenK_n <| seqE <| seqE <| regionE <| pu1 ?_
  refine sL hS_145 3 0 (.int .i64 x_123.phase) (Try.isAgg3 _) ?_
  refine pu1 <| nilO <| thenK_n <| ?_
  refine cE x_123.phase 4 (fun hc_155 => ?_) (fun hc_155 => ?_)
  · refine seqE <| seqE <| regionE <| pu2 <| nilO <| thenK_n <| ?_
    refine cN ((stepF F3 r_108 r_137).2.2) 20 (fun hc_156 => ?_) (fun hc_156 => ?_)
    rotate_left
    · refine seqE <| regionE <| pu1 <| nilO <| thenK_n <| retE <| thenK_r <| thenK_r <| blockK_r <| thenK_r <| thenK_r <| blockK_r <| thenK_r <| retT [.bool false] <| ?_
      first | omega
    refine skipE <| thenK_n <| exitE <| thenK_x <| blockK_x <| thenK_n <| regionE <| pu1 ?_
    refine sAdd ((i : Nat) : Int) 1 ?_
    refine pu1 <| nilO <| thenK_n <| ?_
    have hS_157 := (((((hS_145.pick 5 rfl).pick 3 rfl).dropAt 2 rfl).dropAt 3 rfl).dropAt 3 rfl)
    exact ⟨(i + 1, i_139, (stepF F3 r_108 r_137).1, M_150), by first | omega | (dsimp only; omega), alA, hS_157, by omega, by omega, hR_152, (hPJ_154.mono (by omega) (by omega)), hDd.step⟩
  refine skipE <| thenK_n <| seqE <| seqE <| regionE <| pu3 ?_
  refine sN 120 ((stepF F3 r_108 r_137).2.2) 0 (fun hc_158 => ?_) (fun hc_158 => ?_)
  rotate_left
  · refine pu4 <| nilO <| thenK_n <| cTt <| seqE <| regionE <| pu1 <| nilO <| thenK_n <| retE <| thenK_r <| blockK_r <| thenK_r <| thenK_r <| blockK_r <| thenK_r <| retT [.bool false] <| ?_
    first | omega
  refine pu4 <| nilO <| thenK_n <| ?_
  refine cE ((nz_147 : Nat) : Int) 0 (fun hc_159 => ?_) (fun hc_159 => ?_)
  · refine seqE <| regionE <| pu1 <| nilO <| thenK_n <| retE <| thenK_r <| blockK_r <| thenK_r <| thenK_r <| blockK_r <| thenK_r <| retT [.bool false] <| ?_
    first | omega
  refine skipE <| thenK_n <| seqE <| regionE <| pu1 ?_
  refine sL hS_145 3 0 (.int .i64 x_123.phase) (Try.isAgg3 _) ?_
  refine pu2 ?_
  refine sN 128 x_123.phase 0 (fun hc_160 => ?_) (fun hc_160 => ?_)
  · refine pu7 <| nilO <| thenK_n <| seqE <| seqE <| regionE <| pu2 ?_
    refine sIdxO hO_151 0 0 Try.runUnderlying44 Try.sizeOf50 ?_
    intro x_161 b_162 o_163 hx_164 hp_165 hq_166
    obtain ⟨hq1_, hq2_⟩ := (hSC.o (by omega)).2.2 x_161 hx_164
    refine pu1 ?_
    refine sLp hS_145 (hp_165.up 0 rfl) 0 (.int .i64 x_161.kind) (Try.isAgg3 _) ?_
    refine pu2 ?_
    refine sE 141 x_161.kind 9 (fun hc_167 => ?_) (fun hc_167 => ?_)
    · refine pu1 <| gY ?_
      refine sIdxO hO_151 0 0 Try.runUnderlying44 Try.sizeOf50 ?_
      intro x_168 b_169 o_170 hx_171 hp_172 hq_173
      obtain rfl : x_161 = x_168 := Option.some.inj (hx_164.symm.trans hx_171)
      obtain ⟨hq1_, hq2_⟩ := (hSC.o (by omega)).2.2 x_161 hx_171
      refine pu2 <| gY ?_
      refine sLp hS_145 (hp_172.up 0 rfl) 4 (.int .i64 x_161.refJob) (Try.isAgg3 _) ?_
      refine pu4 <| nilO <| thenK_n <| ?_
      rcases bool_em false ((x_161.refJob : Int) == x_61) with hc_174 | hc_174
      rotate_left
      · refine cT _ (congrArg Bool.not (show (false == ((x_161.refJob : Int) == x_61)) = false from by simpa using hc_174)) ?_
        refine seqE <| regionE <| pu1 <| nilO <| thenK_n <| retE <| thenK_r <| blockK_r <| thenK_r <| thenK_r <| blockK_r <| thenK_r <| retT [.bool false] <| ?_
        first | omega | (exact absurd (by rw [Bool.eq_iff_iff]; simp <;> omega) hc_174)
      refine cF _ (congrArg Bool.not (show (false == ((x_161.refJob : Int) == x_61)) = true from by simpa using hc_174)) ?_
      refine skipE <| thenK_n <| seqE <| regionE <| pu1 ?_
      refine sIdxO hO_151 0 0 Try.runUnderlying44 Try.sizeOf50 ?_
      intro x_175 b_176 o_177 hx_178 hp_179 hq_180
      obtain rfl : x_161 = x_175 := Option.some.inj (hx_164.symm.trans hx_178)
      obtain ⟨hq1_, hq2_⟩ := (hSC.o (by omega)).2.2 x_161 hx_178
      refine pu1 ?_
      refine sLp hS_145 (hp_179.up 0 rfl) 0 (.int .i64 x_161.kind) (Try.isAgg3 _) ?_
      refine pu1 <| nilO <| thenK_n <| seqE <| regionE <| pu3 ?_
      have hc_181 : ¬ ((x_161.kind : Int) = 3) := by omega
      refine sFix 157 _ false (beq_eq_false_iff_ne.2 hc_181) ?_
      refine pu4 ?_
      have hc_182 : ¬ ((x_161.kind : Int) = 4) := by omega
      refine sFix 161 _ false (beq_eq_false_iff_ne.2 hc_182) ?_
      refine pu4 ?_
      have hc_183 : ¬ ((x_161.kind : Int) = 5) := by omega
      refine sFix 165 _ false (beq_eq_false_iff_ne.2 hc_183) ?_
      refine pu4 ?_
      have hc_184 : ¬ ((x_161.kind : Int) = 8) := by omega
      refine sFix 169 _ false (beq_eq_false_iff_ne.2 hc_184) ?_
      refine pu8 <| nilO <| thenK_n <| cFf <| skipE <| blockK_n <| thenK_n <| regionE <| pu1 ?_
      refine sAdd ((i : Nat) : Int) 1 ?_
      refine pu1 <| nilO <| thenK_n <| ?_
      have hS_185 := (((((hS_145.pick 5 rfl).pick 3 rfl).dropAt 2 rfl).dropAt 3 rfl).dropAt 3 rfl)
      exact ⟨(i + 1, i_139, (stepF F3 r_108 r_137).1, M_150), by first | omega | (dsimp only; omega), alA, hS_185, by omega, by omega, hR_152, (hPJ_154.mono (by omega) (by omega)), hDd.step⟩
    refine pu9 <| nilO <| thenK_n <| cFf <| skipE <| thenK_n <| seqE <| regionE <| pu1 ?_
    refine sIdxO hO_151 0 0 Try.runUnderlying44 Try.sizeOf50 ?_
    intro x_186 b_187 o_188 hx_189 hp_190 hq_191
    obtain rfl : x_161 = x_186 := Option.some.inj (hx_164.symm.trans hx_189)
    obtain ⟨hq1_, hq2_⟩ := (hSC.o (by omega)).2.2 x_161 hx_189
    refine pu1 ?_
    refine sLp hS_145 (hp_190.up 0 rfl) 0 (.int .i64 x_161.kind) (Try.isAgg3 _) ?_
    refine pu1 <| nilO <| thenK_n <| seqE <| regionE <| pu3 ?_
    refine sE 157 x_161.kind 3 (fun hc_192 => ?_) (fun hc_192 => ?_)
    · refine pu13 <| gY ?_
      refine sIdxO hO_151 0 0 Try.runUnderlying44 Try.sizeOf50 ?_
      intro x_193 b_194 o_195 hx_196 hp_197 hq_198
      obtain rfl : x_161 = x_193 := Option.some.inj (hx_164.symm.trans hx_196)
      obtain ⟨hq1_, hq2_⟩ := (hSC.o (by omega)).2.2 x_161 hx_196
      refine pu2 <| gY ?_
      refine sLp hS_145 (hp_197.up 0 rfl) 4 (.int .i64 x_161.refJob) (Try.isAgg3 _) ?_
      refine pu3 <| nilO <| thenK_n <| ?_
      refine cE x_161.refJob x_61 (fun hc_199 => ?_) (fun hc_199 => ?_)
      · refine seqE <| regionE <| pu1 <| nilO <| thenK_n <| retE <| blockK_r <| thenK_r <| thenK_r <| blockK_r <| thenK_r <| retT [.bool false] <| ?_
        first | omega
      refine skipE <| blockK_n <| thenK_n <| regionE <| pu1 ?_
      refine sAdd ((i : Nat) : Int) 1 ?_
      refine pu1 <| nilO <| thenK_n <| ?_
      have hS_200 := (((((hS_145.pick 5 rfl).pick 3 rfl).dropAt 2 rfl).dropAt 3 rfl).dropAt 3 rfl)
      exact ⟨(i + 1, i_139, (stepF F3 r_108 r_137).1, M_150), by first | omega | (dsimp only; omega), alA, hS_200, by omega, by omega, hR_152, (hPJ_154.mono (by omega) (by omega)), hDd.step⟩
    refine pu4 ?_
    refine sE 161 x_161.kind 4 (fun hc_201 => ?_) (fun hc_201 => ?_)
    · refine pu9 <| gY ?_
      refine sIdxO hO_151 0 0 Try.runUnderlying44 Try.sizeOf50 ?_
      intro x_202 b_203 o_204 hx_205 hp_206 hq_207
      obtain rfl : x_161 = x_202 := Option.some.inj (hx_164.symm.trans hx_205)
      obtain ⟨hq1_, hq2_⟩ := (hSC.o (by omega)).2.2 x_161 hx_205
      refine pu2 <| gY ?_
      refine sLp hS_145 (hp_206.up 0 rfl) 4 (.int .i64 x_161.refJob) (Try.isAgg3 _) ?_
      refine pu3 <| nilO <| thenK_n <| ?_
      refine cE x_161.refJob x_61 (fun hc_208 => ?_) (fun hc_208 => ?_)
      · refine seqE <| regionE <| pu1 <| nilO <| thenK_n <| retE <| blockK_r <| thenK_r <| thenK_r <| blockK_r <| thenK_r <| retT [.bool false] <| ?_
        first | omega
      refine skipE <| blockK_n <| thenK_n <| regionE <| pu1 ?_
      refine sAdd ((i : Nat) : Int) 1 ?_
      refine pu1 <| nilO <| thenK_n <| ?_
      have hS_209 := (((((hS_145.pick 5 rfl).pick 3 rfl).dropAt 2 rfl).dropAt 3 rfl).dropAt 3 rfl)
      exact ⟨(i + 1, i_139, (stepF F3 r_108 r_137).1, M_150), by first | omega | (dsimp only; omega), alA, hS_209, by omega, by omega, hR_152, (hPJ_154.mono (by omega) (by omega)), hDd.step⟩
    refine pu4 ?_
    refine sE 165 x_161.kind 5 (fun hc_210 => ?_) (fun hc_210 => ?_)
    · refine pu5 <| gY ?_
      refine sIdxO hO_151 0 0 Try.runUnderlying44 Try.sizeOf50 ?_
      intro x_211 b_212 o_213 hx_214 hp_215 hq_216
      obtain rfl : x_161 = x_211 := Option.some.inj (hx_164.symm.trans hx_214)
      obtain ⟨hq1_, hq2_⟩ := (hSC.o (by omega)).2.2 x_161 hx_214
      refine pu2 <| gY ?_
      refine sLp hS_145 (hp_215.up 0 rfl) 4 (.int .i64 x_161.refJob) (Try.isAgg3 _) ?_
      refine pu3 <| nilO <| thenK_n <| ?_
      refine cE x_161.refJob x_61 (fun hc_217 => ?_) (fun hc_217 => ?_)
      · refine seqE <| regionE <| pu1 <| nilO <| thenK_n <| retE <| blockK_r <| thenK_r <| thenK_r <| blockK_r <| thenK_r <| retT [.bool false] <| ?_
        first | omega
      refine skipE <| blockK_n <| thenK_n <| regionE <| pu1 ?_
      refine sAdd ((i : Nat) : Int) 1 ?_
      refine pu1 <| nilO <| thenK_n <| ?_
      have hS_218 := (((((hS_145.pick 5 rfl).pick 3 rfl).dropAt 2 rfl).dropAt 3 rfl).dropAt 3 rfl)
      exact ⟨(i + 1, i_139, (stepF F3 r_108 r_137).1, M_150), by first | omega | (dsimp only; omega), alA, hS_218, by omega, by omega, hR_152, (hPJ_154.mono (by omega) (by omega)), hDd.step⟩
    refine pu4 ?_
    refine sE 169 x_161.kind 8 (fun hc_219 => ?_) (fun hc_219 => ?_)
    rotate_left
    · refine pu8 <| nilO <| thenK_n <| cFf <| skipE <| blockK_n <| thenK_n <| regionE <| pu1 ?_
      refine sAdd ((i : Nat) : Int) 1 ?_
      refine pu1 <| nilO <| thenK_n <| ?_
      have hS_228 := (((((hS_145.pick 5 rfl).pick 3 rfl).dropAt 2 rfl).dropAt 3 rfl).dropAt 3 rfl)
      exact ⟨(i + 1, i_139, (stepF F3 r_108 r_137).1, M_150), by first | omega | (dsimp only; omega), alA, hS_228, by omega, by omega, hR_152, (hPJ_154.mono (by omega) (by omega)), hDd.step⟩
    refine pu1 <| gY ?_
    refine sIdxO hO_151 0 0 Try.runUnderlying44 Try.sizeOf50 ?_
    intro x_220 b_221 o_222 hx_223 hp_224 hq_225
    obtain rfl : x_161 = x_220 := Option.some.inj (hx_164.symm.trans hx_223)
    obtain ⟨hq1_, hq2_⟩ := (hSC.o (by omega)).2.2 x_161 hx_223
    refine pu2 <| gY ?_
    refine sLp hS_145 (hp_224.up 0 rfl) 4 (.int .i64 x_161.refJob) (Try.isAgg3 _) ?_
    refine pu3 <| nilO <| thenK_n <| ?_
    refine cE x_161.refJob x_61 (fun hc_226 => ?_) (fun hc_226 => ?_)
    · refine seqE <| regionE <| pu1 <| nilO <| thenK_n <| retE <| blockK_r <| thenK_r <| thenK_r <| blockK_r <| thenK_r <| retT [.bool false] <| ?_
      first | omega
    refine skipE <| blockK_n <| thenK_n <| regionE <| pu1 ?_
    refine sAdd ((i : Nat) : Int) 1 ?_
    refine pu1 <| nilO <| thenK_n <| ?_
    have hS_227 := (((((hS_145.pick 5 rfl).pick 3 rfl).dropAt 2 rfl).dropAt 3 rfl).dropAt 3 rfl)
    exact ⟨(i + 1, i_139, (stepF F3 r_108 r_137).1, M_150), by first | omega | (dsimp only; omega), alA, hS_227, by omega, by omega, hR_152, (hPJ_154.mono (by omega) (by omega)), hDd.step⟩
  refine pu2 <| gY ?_
  refine sL hS_145 3 1 (.int .i64 x_123.heldJob) (Try.isAgg3 _) ?_
  refine pu4 <| nilO <| thenK_n <| seqE <| seqE <| regionE <| pu2 ?_
  refine sIdxO hO_151 0 0 Try.runUnderlying44 Try.sizeOf50 ?_
  intro x_229 b_230 o_231 hx_232 hp_233 hq_234
  obtain ⟨hq1_, hq2_⟩ := (hSC.o (by omega)).2.2 x_229 hx_232
  refine pu1 ?_
  refine sLp hS_145 (hp_233.up 0 rfl) 0 (.int .i64 x_229.kind) (Try.isAgg3 _) ?_
  refine pu2 ?_
  refine sE 141 x_229.kind 9 (fun hc_235 => ?_) (fun hc_235 => ?_)
  · refine pu1 <| gY ?_
    refine sIdxO hO_151 0 0 Try.runUnderlying44 Try.sizeOf50 ?_
    intro x_236 b_237 o_238 hx_239 hp_240 hq_241
    obtain rfl : x_229 = x_236 := Option.some.inj (hx_232.symm.trans hx_239)
    obtain ⟨hq1_, hq2_⟩ := (hSC.o (by omega)).2.2 x_229 hx_239
    refine pu2 <| gY ?_
    refine sLp hS_145 (hp_240.up 0 rfl) 4 (.int .i64 x_229.refJob) (Try.isAgg3 _) ?_
    refine pu4 <| nilO <| thenK_n <| ?_
    rcases bool_em ((x_123.heldJob : Int) == x_61) ((x_229.refJob : Int) == x_61) with hc_242 | hc_242
    rotate_left
    · refine cT _ (congrArg Bool.not (show (((x_123.heldJob : Int) == x_61) == ((x_229.refJob : Int) == x_61)) = false from by simpa using hc_242)) ?_
      refine seqE <| regionE <| pu1 <| nilO <| thenK_n <| retE <| thenK_r <| blockK_r <| thenK_r <| thenK_r <| blockK_r <| thenK_r <| retT [.bool false] <| ?_
      first | omega | (exact absurd (by rw [Bool.eq_iff_iff]; simp <;> omega) hc_242)
    refine cF _ (congrArg Bool.not (show (((x_123.heldJob : Int) == x_61) == ((x_229.refJob : Int) == x_61)) = true from by simpa using hc_242)) ?_
    refine skipE <| thenK_n <| seqE <| regionE <| pu1 ?_
    refine sIdxO hO_151 0 0 Try.runUnderlying44 Try.sizeOf50 ?_
    intro x_243 b_244 o_245 hx_246 hp_247 hq_248
    obtain rfl : x_229 = x_243 := Option.some.inj (hx_232.symm.trans hx_246)
    obtain ⟨hq1_, hq2_⟩ := (hSC.o (by omega)).2.2 x_229 hx_246
    refine pu1 ?_
    refine sLp hS_145 (hp_247.up 0 rfl) 0 (.int .i64 x_229.kind) (Try.isAgg3 _) ?_
    refine pu1 <| nilO <| thenK_n <| seqE <| regionE <| pu3 ?_
    have hc_249 : ¬ ((x_229.kind : Int) = 3) := by omega
    refine sFix 157 _ false (beq_eq_false_iff_ne.2 hc_249) ?_
    refine pu4 ?_
    have hc_250 : ¬ ((x_229.kind : Int) = 4) := by omega
    refine sFix 161 _ false (beq_eq_false_iff_ne.2 hc_250) ?_
    refine pu4 ?_
    have hc_251 : ¬ ((x_229.kind : Int) = 5) := by omega
    refine sFix 165 _ false (beq_eq_false_iff_ne.2 hc_251) ?_
    refine pu4 ?_
    have hc_252 : ¬ ((x_229.kind : Int) = 8) := by omega
    refine sFix 169 _ false (beq_eq_false_iff_ne.2 hc_252) ?_
    refine pu8 <| nilO <| thenK_n <| cFf <| skipE <| blockK_n <| thenK_n <| regionE <| pu1 ?_
    refine sAdd ((i : Nat) : Int) 1 ?_
    refine pu1 <| nilO <| thenK_n <| ?_
    have hS_253 := (((((hS_145.pick 5 rfl).pick 3 rfl).dropAt 2 rfl).dropAt 3 rfl).dropAt 3 rfl)
    exact ⟨(i + 1, i_139, (stepF F3 r_108 r_137).1, M_150), by first | omega | (dsimp only; omega), alA, hS_253, by omega, by omega, hR_152, (hPJ_154.mono (by omega) (by omega)), hDd.step⟩
  refine pu9 <| nilO <| thenK_n <| ?_
  rcases bool_em ((x_123.heldJob : Int) == x_61) false with hc_254 | hc_254
  rotate_left
  · refine cT _ (congrArg Bool.not (show (((x_123.heldJob : Int) == x_61) == false) = false from by simpa using hc_254)) ?_
    refine seqE <| regionE <| pu1 <| nilO <| thenK_n <| retE <| thenK_r <| blockK_r <| thenK_r <| thenK_r <| blockK_r <| thenK_r <| retT [.bool false] <| ?_
    first | omega | (exact absurd (by rw [Bool.eq_iff_iff]; simp <;> omega) hc_254)
  refine cF _ (congrArg Bool.not (show (((x_123.heldJob : Int) == x_61) == false) = true from by simpa using hc_254)) ?_
  refine skipE <| thenK_n <| seqE <| regionE <| pu1 ?_
  refine sIdxO hO_151 0 0 Try.runUnderlying44 Try.sizeOf50 ?_
  intro x_255 b_256 o_257 hx_258 hp_259 hq_260
  obtain rfl : x_229 = x_255 := Option.some.inj (hx_232.symm.trans hx_258)
  obtain ⟨hq1_, hq2_⟩ := (hSC.o (by omega)).2.2 x_229 hx_258
  refine pu1 ?_
  refine sLp hS_145 (hp_259.up 0 rfl) 0 (.int .i64 x_229.kind) (Try.isAgg3 _) ?_
  refine pu1 <| nilO <| thenK_n <| seqE <| regionE <| pu3 ?_
  refine sE 157 x_229.kind 3 (fun hc_261 => ?_) (fun hc_261 => ?_)
  · refine pu13 <| gY ?_
    refine sIdxO hO_151 0 0 Try.runUnderlying44 Try.sizeOf50 ?_
    intro x_262 b_263 o_264 hx_265 hp_266 hq_267
    obtain rfl : x_229 = x_262 := Option.some.inj (hx_232.symm.trans hx_265)
    obtain ⟨hq1_, hq2_⟩ := (hSC.o (by omega)).2.2 x_229 hx_265
    refine pu2 <| gY ?_
    refine sLp hS_145 (hp_266.up 0 rfl) 4 (.int .i64 x_229.refJob) (Try.isAgg3 _) ?_
    refine pu3 <| nilO <| thenK_n <| ?_
    refine cE x_229.refJob x_61 (fun hc_268 => ?_) (fun hc_268 => ?_)
    · refine seqE <| regionE <| pu1 <| nilO <| thenK_n <| retE <| blockK_r <| thenK_r <| thenK_r <| blockK_r <| thenK_r <| retT [.bool false] <| ?_
      first | omega
    refine skipE <| blockK_n <| thenK_n <| regionE <| pu1 ?_
    refine sAdd ((i : Nat) : Int) 1 ?_
    refine pu1 <| nilO <| thenK_n <| ?_
    have hS_269 := (((((hS_145.pick 5 rfl).pick 3 rfl).dropAt 2 rfl).dropAt 3 rfl).dropAt 3 rfl)
    exact ⟨(i + 1, i_139, (stepF F3 r_108 r_137).1, M_150), by first | omega | (dsimp only; omega), alA, hS_269, by omega, by omega, hR_152, (hPJ_154.mono (by omega) (by omega)), hDd.step⟩
  refine pu4 ?_
  refine sE 161 x_229.kind 4 (fun hc_270 => ?_) (fun hc_270 => ?_)
  · refine pu9 <| gY ?_
    refine sIdxO hO_151 0 0 Try.runUnderlying44 Try.sizeOf50 ?_
    intro x_271 b_272 o_273 hx_274 hp_275 hq_276
    obtain rfl : x_229 = x_271 := Option.some.inj (hx_232.symm.trans hx_274)
    obtain ⟨hq1_, hq2_⟩ := (hSC.o (by omega)).2.2 x_229 hx_274
    refine pu2 <| gY ?_
    refine sLp hS_145 (hp_275.up 0 rfl) 4 (.int .i64 x_229.refJob) (Try.isAgg3 _) ?_
    refine pu3 <| nilO <| thenK_n <| ?_
    refine cE x_229.refJob x_61 (fun hc_277 => ?_) (fun hc_277 => ?_)
    · refine seqE <| regionE <| pu1 <| nilO <| thenK_n <| retE <| blockK_r <| thenK_r <| thenK_r <| blockK_r <| thenK_r <| retT [.bool false] <| ?_
      first | omega
    refine skipE <| blockK_n <| thenK_n <| regionE <| pu1 ?_
    refine sAdd ((i : Nat) : Int) 1 ?_
    refine pu1 <| nilO <| thenK_n <| ?_
    have hS_278 := (((((hS_145.pick 5 rfl).pick 3 rfl).dropAt 2 rfl).dropAt 3 rfl).dropAt 3 rfl)
    exact ⟨(i + 1, i_139, (stepF F3 r_108 r_137).1, M_150), by first | omega | (dsimp only; omega), alA, hS_278, by omega, by omega, hR_152, (hPJ_154.mono (by omega) (by omega)), hDd.step⟩
  refine pu4 ?_
  refine sE 165 x_229.kind 5 (fun hc_279 => ?_) (fun hc_279 => ?_)
  · refine pu5 <| gY ?_
    refine sIdxO hO_151 0 0 Try.runUnderlying44 Try.sizeOf50 ?_
    intro x_280 b_281 o_282 hx_283 hp_284 hq_285
    obtain rfl : x_229 = x_280 := Option.some.inj (hx_232.symm.trans hx_283)
    obtain ⟨hq1_, hq2_⟩ := (hSC.o (by omega)).2.2 x_229 hx_283
    refine pu2 <| gY ?_
    refine sLp hS_145 (hp_284.up 0 rfl) 4 (.int .i64 x_229.refJob) (Try.isAgg3 _) ?_
    refine pu3 <| nilO <| thenK_n <| ?_
    refine cE x_229.refJob x_61 (fun hc_286 => ?_) (fun hc_286 => ?_)
    · refine seqE <| regionE <| pu1 <| nilO <| thenK_n <| retE <| blockK_r <| thenK_r <| thenK_r <| blockK_r <| thenK_r <| retT [.bool false] <| ?_
      first | omega
    refine skipE <| blockK_n <| thenK_n <| regionE <| pu1 ?_
    refine sAdd ((i : Nat) : Int) 1 ?_
    refine pu1 <| nilO <| thenK_n <| ?_
    have hS_287 := (((((hS_145.pick 5 rfl).pick 3 rfl).dropAt 2 rfl).dropAt 3 rfl).dropAt 3 rfl)
    exact ⟨(i + 1, i_139, (stepF F3 r_108 r_137).1, M_150), by first | omega | (dsimp only; omega), alA, hS_287, by omega, by omega, hR_152, (hPJ_154.mono (by omega) (by omega)), hDd.step⟩
  refine pu4 ?_
  refine sE 169 x_229.kind 8 (fun hc_288 => ?_) (fun hc_288 => ?_)
  rotate_left
  · refine pu8 <| nilO <| thenK_n <| cFf <| skipE <| blockK_n <| thenK_n <| regionE <| pu1 ?_
    refine sAdd ((i : Nat) : Int) 1 ?_
    refine pu1 <| nilO <| thenK_n <| ?_
    have hS_297 := (((((hS_145.pick 5 rfl).pick 3 rfl).dropAt 2 rfl).dropAt 3 rfl).dropAt 3 rfl)
    exact ⟨(i + 1, i_139, (stepF F3 r_108 r_137).1, M_150), by first | omega | (dsimp only; omega), alA, hS_297, by omega, by omega, hR_152, (hPJ_154.mono (by omega) (by omega)), hDd.step⟩
  refine pu1 <| gY ?_
  refine sIdxO hO_151 0 0 Try.runUnderlying44 Try.sizeOf50 ?_
  intro x_289 b_290 o_291 hx_292 hp_293 hq_294
  obtain rfl : x_229 = x_289 := Option.some.inj (hx_232.symm.trans hx_292)
  obtain ⟨hq1_, hq2_⟩ := (hSC.o (by omega)).2.2 x_229 hx_292
  refine pu2 <| gY ?_
  refine sLp hS_145 (hp_293.up 0 rfl) 4 (.int .i64 x_229.refJob) (Try.isAgg3 _) ?_
  refine pu3 <| nilO <| thenK_n <| ?_
  refine cE x_229.refJob x_61 (fun hc_295 => ?_) (fun hc_295 => ?_)
  · refine seqE <| regionE <| pu1 <| nilO <| thenK_n <| retE <| blockK_r <| thenK_r <| thenK_r <| blockK_r <| thenK_r <| retT [.bool false] <| ?_
    first | omega
  refine skipE <| blockK_n <| thenK_n <| regionE <| pu1 ?_
  refine sAdd ((i : Nat) : Int) 1 ?_
  refine pu1 <| nilO <| thenK_n <| ?_
  have hS_296 := (((((hS_145.pick 5 rfl).pick 3 rfl).dropAt 2 rfl).dropAt 3 rfl).dropAt 3 rfl)
  exact ⟨(i + 1, i_139, (stepF F3 r_108 r_137).1, M_150), by first | omega | (dsimp only; omega), alA, hS_296, by omega, by omega, hR_152, (hPJ_154.mono (by omega) (by omega)), hDd.step⟩
end Go.Proofs.Ytegmennaekipaaa
