import Derived.Test.YtimkhljglpookaaGreatSim6
namespace Go.Proofs.YtimkhljglpookaaGreat
open Go Go.E
set_option linter.unusedVariables false
set_option linter.unusedSimpArgs false
set_option linter.unnecessarySimpa false
set_option maxRecDepth 100000
set_option maxHeartbeats 2000000
variable {W w : World} {H : Chunk} {F : List Chunk}

/-! ### whole calls -/
theorem choice_onto {n c d : Int} (hn : 0 < n) (hd : 0 ≤ d ∧ d < n) : ∃ i : Nat, (i : Int) < n ∧ choiceI n c ((i : Nat) : Int) = d := by
  have h1 : -n < c.tmod n := Int.lt_tmod_of_pos _ hn
  have h2 : c.tmod n < n := Int.tmod_lt_of_pos _ hn
  unfold choiceI
  generalize hb : (if c.tmod n < 0 then c.tmod n + n else c.tmod n) = b
  have hb2 : 0 ≤ b ∧ b < n := by rw [← hb]; split <;> omega
  by_cases h : b ≤ d
  · refine ⟨(d - b).toNat, by omega, ?_⟩
    rw [show b + (((d - b).toNat : Nat) : Int) = d by omega]
    exact Int.tmod_eq_of_lt hd.1 hd.2
  · refine ⟨(d - b + n).toNat, by omega, ?_⟩
    rw [show b + (((d - b + n).toNat : Nat) : Int) = d + n by omega, Int.tmod_eq_emod_of_nonneg (by omega), Int.add_emod_right, Int.emod_eq_of_lt hd.1 hd.2]
theorem first_none {p : Nat → Bool} : ∀ {n i : Nat}, firstI p n i = none → ∀ k, i ≤ k → k < i + n → p k = false
  | 0, i, _, k, h1, h2 => by omega
  | n + 1, i, h, k, h1, h2 => by
    unfold firstI at h
    split at h
    · cases h
    · rename_i hp
      by_cases e : k = i
      · subst e; exact Bool.eq_false_iff.2 hp
      · exact first_none h k (by omega) (by omega)
theorem cD_zero {r : Ref} : ∀ {l : List DS}, (∀ d ∈ l, d.l = []) → cD l r = 0
  | [], _ => rfl
  | d :: l, h => by
    have ih := cD_zero (r := r) (l := l) (fun x hx => h x (List.mem_cons_of_mem _ hx))
    simp only [cD, List.map_cons, List.sum_cons, h d List.mem_cons_self, List.count_nil] at ih ⊢; omega
theorem acq_zero {F : FS} {K x c : Int} (hF : FW F K) (h : acqF F x c = none) : ∀ r, cnt F r = 0 := by
  unfold acqF at h
  split at h
  · cases h
  · split at h
    · cases h
    · rename_i hq
      unfold stealF at h
      have hall : ∀ d ∈ F.dq, d.l = [] := by
        split at h
        · rename_i hf
          intro d hd
          obtain ⟨k, hk⟩ := List.getElem?_of_mem hd
          have hl := (List.getElem?_eq_some_iff.1 hk).1
          rw [hF.dl] at hl
          obtain ⟨i, hi, hc⟩ := choice_onto (n := ((F.ws.length : Nat) : Int)) (c := c) (d := ((k : Nat) : Int)) (by have := hF.n; omega) ⟨by omega, by omega⟩
          have h1 := first_none hf i (Nat.zero_le _) (by omega)
          unfold canSteal dqAt chF at h1
          rw [hc, Int.toNat_natCast, getD_some hk] at h1
          cases hdl : d.l with
          | nil => rfl
          | cons y l => rw [hdl] at h1; cases h1
        · rename_i i hf
          have h1 := (first_some hf).2.2
          split at h
          · rename_i hn
            unfold canSteal at h1
            rw [List.head?_eq_none_iff.1 hn] at h1; cases h1
          · cases h
      intro r
      unfold cnt; rw [cD_zero hall, cQ_none hq]
theorem rsum_zero : ∀ {l : List JA}, (∀ a ∈ l, valA a = 0) → rsum l = 0
  | [], _ => rfl
  | a :: l, h => by
    have ih := rsum_zero (l := l) (fun x hx => h x (List.mem_cons_of_mem _ hx))
    have h1 := h a List.mem_cons_self
    simp only [rsum, List.map_cons, List.sum_cons] at ih ⊢; omega
section
variable {c : Cfg} {F : FS} {nj : Nat} {K : Int} {m : MS} {off : List TL}
theorem rd_zero (hI : RecI c F nj K) (hR : Rel F nj m) (hQ : QI F) (h : ∀ r, cnt F r = 0) : m.rd = 0 := by
  rw [hR.rd]
  apply rsum_zero
  intro a ha
  obtain ⟨k, hk⟩ := List.getElem?_of_mem ha
  have hl := (List.getElem?_eq_some_iff.1 hk).1
  rw [hR.jl] at hl
  have h4 := hI.n4
  obtain ⟨j, hj⟩ := at_some hI.fw.jl (k := k) (by omega)
  obtain ⟨b, b1, b2, b3, _⟩ := hR.jb k j hl hj
  rw [hk] at b1; obtain rfl := Option.some.inj b1
  unfold valA
  split
  · rename_i hrun
    rw [b3] at hrun
    have hn := idx_nil (s := j.B.st) (fun z hz => by
      have h1 := hQ.c ⟨((k : Nat) : Int), z⟩
      rw [h, rdy_at (r := ⟨((k : Nat) : Int), z⟩) (by simp) (by simpa using hj), hrun, decide_eq_true hz] at h1
      cases h1)
    unfold rdyN; rw [b2]; dsimp only; rw [hn]; rfl
  · rfl
theorem one_step {e : Evt} {m' : MS} (h : eventM off m e [] = some m') : stepAll off m [e] = some m' := by simp only [stepAll, h]
/-- A step of a worker. -/
theorem sim_step (hI : RecI c F nj K) (hK : K + 1 ≤ 4000) (hR : Rel F nj m) (hQ : QI F) (hH : HI F) (h5 : ∀ j ∈ F.jobs, j.tasks.length ≤ 5) {x y : Int} :
    ∃ m', stepAll off m (stepF F x y).2.1 = some m' ∧ Rel (stepF F x y).1 nj m' ∧ QI (stepF F x y).1 ∧ HI (stepF F x y).1 := by
  have h20 : totS (shapeF F.jobs) ≤ 20 := by have := hI.s2; have := hI.n4; omega
  have hlen := hR.len
  unfold stepF
  split
  · exact ⟨m, rfl, hR, hQ, hH⟩
  · rename_i hx
    have hx := Classical.not_not.1 hx
    have hv := hI.fw.wmem hx
    generalize wAt F x = v at hv
    have hwm := hR.wk hv
    split
    · exact ⟨m, rfl, hR, hQ, hH⟩
    · rename_i hp4
      split
      · rename_i hh
        have hh : Holds v := hh
        obtain ⟨j, hj, ha, hz⟩ := hH.h _ v hv hh
        have e : jobAt F v.heldJob = j := getD_some hj
        split
        · rename_i hrun
          rw [e] at hrun
          obtain ⟨m', g1, g2, _, _⟩ := sim_micro (off := off) hI hR hH hx hv hh hj hrun
          obtain ⟨i1, i2⟩ := inv_micro hI.fw (by omega) hQ hH h20 (h5 j (List.mem_of_getElem? hj)) hx hv hh hj hrun
          exact ⟨m', one_step (g1 []), g2, i1, i2⟩
        · rename_i hrun
          rw [e] at hrun
          obtain ⟨a, a1, a2, a3, _⟩ := hR.jb _ j (added_lt hI hj ha) hj
          obtain ⟨hW, hd, _⟩ := (hI.fw.j j (List.mem_of_getElem? hj)).b ha
          have hx1 : a.x = true := by
            have h1 : runJ a = false := by rw [a3]; exact Bool.eq_false_iff.2 hrun
            unfold runJ at h1
            rw [a2] at h1
            dsimp only at h1
            rw [decide_eq_true (held_lt hW hz)] at h1
            simpa using h1
          obtain ⟨i1, i2⟩ := inv_drop (x := x) (ph := 0) (s := { F.st with drops := F.st.drops + 1 }) hQ hH (.inl rfl)
          refine ⟨_, one_step ?_, hR.upd (F' := dropF F x) (k := x.toNat) (v := ⟨0, 0, 0, 0, 0, 0, (arAt F x).high⟩) rfl rfl, i1, i2⟩
          rw [ev_in (v := wkOf v) (by simp [namedE]) (by dsimp only; omega) hwm, evK_9 rfl]
          unfold dropM
          rw [if_pos ⟨by unfold Holds at hh; simp only [wkOf]; omega, rfl, rfl, by rw [show jobA m v.heldJob = a from jobA_at a1]; exact hx1⟩]; rfl
      · rename_i hh
        have hz := hH.z _ v hv hh
        have hp0 : v.phase = 0 := by have := hz.2.2.2.2; omega
        have hnh : ∀ u, F.ws[x.toNat]? = some u → ¬ Holds u := by intro u hu; rw [hv] at hu; obtain rfl := Option.some.inj hu; exact hh
        unfold restF
        split
        · rename_i q hq
          obtain ⟨i1, i2, r0, j, j1, j2, j3, j4, j5, j6, ⟨hi, j7⟩, j8, j9⟩ := inv_acq (ev := q.2) (F' := q.1) hI.fw hQ hH hx hnh hq
          obtain ⟨m', t1, t2⟩ := sim_take hI hR hv hp0 j1 j2 j3 j4 j5 j6 j7 j8
          refine ⟨m', one_step ?_, t2, i1, i2⟩
          rcases j9 with e | e | ⟨f, f1, f2, f3, e⟩
          · rw [e, ev_in (v := wkOf v) (by simp [namedE]) (by dsimp only; omega) hwm, evK_3 (.inl rfl)]; exact t1
          · rw [e, ev_in (v := wkOf v) (by simp [namedE]) (by dsimp only; omega) hwm, evK_3 (.inr rfl)]; exact t1
          · rw [e, ev_in (v := wkOf v) (by simp [namedE]) (by dsimp only; omega) hwm, evK_5 rfl, if_pos (by unfold anotherE; exact decide_eq_true ⟨f1, by dsimp only; omega, f3⟩)]; exact t1
        · rename_i hq
          have hrd := rd_zero hI hR hQ (acq_zero hI.fw hq)
          split
          · rename_i i hi
            have h2 := (first_some hi).2.2
            unfold canHelp at h2
            obtain ⟨h3, h4⟩ := (Bool.and_eq_true _ _).mp h2
            have h3 := of_decide_eq_true h3
            have hb := chF_bd (F := F) (c := y) (i := i) hI.fw.n.1
            have hu := hI.fw.wmem hb
            generalize hwf : wAt F (chF F y i) = u at hu h4
            have hbm := (busy_same hI hR hH hu).trans h4
            unfold busyW at h4
            obtain ⟨h6, h7⟩ := (Bool.and_eq_true _ _).mp h4
            have hhu : Holds u := (of_decide_eq_true h6 : u.phase = 1 ∨ u.phase = 2 ∨ u.phase = 3)
            obtain ⟨j, hj, ha, hz2⟩ := hH.h _ u hu hhu
            have hrun : j.running = true := by unfold jobAt at h7; rw [getD_some hj] at h7; exact h7
            have hI2 : RecI c (helpF F) nj (K + 1) := ⟨(hI.fw.mono (by omega) (by omega)).ss, by
              obtain ⟨_, _, _, _, _, _, _⟩ := hI.st
              constructor <;> (simp only [helpF]; omega), hI.cf, hI.ws, hI.s1, hI.s2, hI.n4⟩
            have hR2 : Rel (helpF F) nj m := ⟨hR.wl, hR.jl, hR.jb, hR.rd⟩
            have hH2 : HI (helpF F) := ⟨hH.h, hH.d, hH.z⟩
            have hQ2 : QI (helpF F) := ⟨hQ.c, hQ.q4, hQ.cap⟩
            obtain ⟨m', g1, g2, g3, g4⟩ := sim_micro (off := off) (x := chF F y i) hI2 hR2 hH2 hb hu hhu hj hrun
            obtain ⟨i1, i2⟩ := inv_micro (x := chF F y i) hI2.fw (by omega) hQ2 hH2 h20 (h5 j (List.mem_of_getElem? hj)) hb hu hhu hj hrun
            refine ⟨m', ?_, g2, i1, i2⟩
            have hhelp : eventM off m ⟨12, x, chF F y i, 0, 0, 0, 0⟩ [(microF (helpF F) (chF F y i)).2] = some m := by
              rw [ev_in (v := wkOf v) (by simp [namedE]) (by dsimp only; omega) hwm, evK_12 rfl, if_pos]
              refine ⟨by unfold anotherE; exact decide_eq_true ⟨hb.1, by dsimp only; omega, h3⟩, ?_⟩
              unfold helpM
              rw [decide_eq_true (show (wkOf v).phase = 0 from hp0), getD_some (hR.wk hu), hbm, decide_eq_true (show ¬ m.rd > 0 by omega)]
              dsimp only [List.head?_cons]
              rw [decide_eq_true ⟨g3, g4⟩]; rfl
            simp only [stepAll, hhelp, g1 []]
          · rename_i hi
            have hany : ¬ m.ws.any (busyM m.jobs) = true := by
              intro hany
              obtain ⟨u', hu', hb'⟩ := List.any_eq_true.1 hany
              rw [hR.wl] at hu'
              obtain ⟨u, hu, rfl⟩ := List.mem_map.1 hu'
              obtain ⟨k, hk⟩ := List.getElem?_of_mem hu
              have hkl := (List.getElem?_eq_some_iff.1 hk).1
              rw [busy_same hI hR hH hk] at hb'
              by_cases hkx : ((k : Nat) : Int) = x
              · have : k = x.toNat := by omega
                rw [this, hv] at hk; obtain rfl := Option.some.inj hk
                unfold busyW at hb'
                exact hh (of_decide_eq_true ((Bool.and_eq_true _ _).mp hb').1)
              · obtain ⟨i, hi2, hc⟩ := choice_onto (n := ((F.ws.length : Nat) : Int)) (c := y) (d := ((k : Nat) : Int)) (by have := hI.fw.n; omega) ⟨by omega, by omega⟩
                have h1 := first_none hi i (Nat.zero_le _) (by omega)
                unfold canHelp wAt chF at h1
                rw [hc, Int.toNat_natCast, getD_some hk, hb', decide_eq_true hkx] at h1
                cases h1
            refine ⟨m, one_step ?_, hR, hQ, hH⟩
            rw [show evt 13 x = ⟨13, x, 0, 0, 0, 0, 0⟩ from rfl, ev_in (v := wkOf v) (by simp [namedE]) (by dsimp only; omega) hwm, evK_13 rfl, if_pos ⟨hp0, hrd, hany⟩]
/-- A crash. -/
theorem sim_crash (hI : RecI c F nj K) (hR : Rel F nj m) (hQ : QI F) (hH : HI F) {x : Int} :
    ∃ m', stepAll off m (crashF F x).2.1 = some m' ∧ Rel (crashF F x).1 nj m' ∧ QI (crashF F x).1 ∧ HI (crashF F x).1 := by
  have h20 : totS (shapeF F.jobs) ≤ 20 := by have := hI.s2; have := hI.n4; omega
  have hlen := hR.len
  unfold crashF
  split
  · exact ⟨m, rfl, hR, hQ, hH⟩
  · rename_i hx
    have hx := Classical.not_not.1 hx
    have hv := hI.fw.wmem hx
    generalize wAt F x = v at hv
    have hwm := hR.wk hv
    split
    · exact ⟨m, rfl, hR, hQ, hH⟩
    · rename_i hp4
      obtain ⟨i1, i2⟩ := inv_crash hI.fw hQ hH h20 hx hv
      have hbs := busy_same hI hR hH hv
      have hev : eventM off m ⟨10, x, 0, 0, v.heldJob, v.heldTask, 0⟩ [] = crashM m x.toNat (wkOf v) ⟨v.heldJob, v.heldTask⟩ := by
        rw [ev_in (v := wkOf v) (by simp [namedE]) (by dsimp only; omega) hwm, evK_10 rfl]
      cases hb : busyW F v with
      | false =>
        rw [retJ_no hb] at i1 i2 ⊢
        refine ⟨_, one_step (hev.trans ?_), hR.upd (F' := crashW F x) (k := x.toNat) (v := ⟨4, 0, 0, 0, 0, 0, (arAt F x).high⟩) rfl rfl, i1, i2⟩
        unfold crashM
        rw [if_neg (fun h => h.elim hp4 (fun h => h ⟨rfl, rfl⟩)), if_neg (by rw [hbs, hb]; decide)]; rfl
      | true =>
        have hb0 := hb
        unfold busyW at hb
        obtain ⟨hb1, hb2⟩ := (Bool.and_eq_true _ _).mp hb
        have hh : Holds v := (of_decide_eq_true hb1 : v.phase = 1 ∨ v.phase = 2 ∨ v.phase = 3)
        obtain ⟨j, hj, ha, hz⟩ := hH.h _ v hv hh
        have e : jobAt F v.heldJob = j := getD_some hj
        have hrun : j.running = true := by rw [e] at hb2; exact hb2
        obtain ⟨a, a1, a2, a3, a4⟩ := hR.jb _ j (added_lt hI hj ha) hj
        have hz3 := heldC_zero hz
        have hin := stAt_in hz3.2.1 (by decide)
        have hre := ret_eq hz
        have hd4 : doneOf (retB j.B v.heldTask v.attempt) = doneOf j.B := by
          have h1 := count_set (s := j.B.st) (k := v.heldTask.toNat) (y := 2) (by omega)
          have h2 := hz3.2.1
          rw [stAt_nat _ hin.1] at h2
          rw [hre]; unfold doneOf
          rw [if_neg (by omega), if_neg (by decide)] at h1
          dsimp only; omega
        have ha5 := a3
        rw [hrun] at ha5
        unfold runJ at ha5
        rw [a2] at ha5
        obtain ⟨hx1, hx2⟩ := (Bool.and_eq_true _ _).mp ha5
        have hr' : runJ { a with B := some (retB j.B v.heldTask v.attempt) } = true := by
          unfold runJ; dsimp only; rw [hx1, hd4, ret_deps]; exact hx2
        have eR : retJ F v = { F with jobs := F.jobs.set v.heldJob.toNat { j with B := retB j.B v.heldTask v.attempt }, q := pushQ F.q ⟨v.heldJob, v.heldTask⟩ j.band } := by
          unfold retJ; rw [if_pos hb0, e]
        refine ⟨_, one_step (hev.trans ?_), hR.updj (F' := crashW (retJ F v) x) (k := x.toNat) (v := ⟨4, 0, 0, 0, 0, 0, (arAt F x).high⟩) (j := j) (j' := { j with B := retB j.B v.heldTask v.attempt }) (a := a) (a' := { a with B := some (retB j.B v.heldTask v.attempt) }) (r := m.rd + 1) (by rw [eR]; rfl) (by rw [eR]; rfl) a1 rfl (hr'.trans hrun.symm) a4 ?_, i1, i2⟩
        · unfold crashM
          rw [if_neg (fun h => h.elim hp4 (fun h => h ⟨rfl, rfl⟩)), if_pos (by rw [hbs]; exact hb0), show jobA m v.heldJob = a from jobA_at a1, a2]
          dsimp only
          rw [if_neg (not_not_intro (show heldC j.B v.heldTask (wkOf v).attempt = 0 from hz))]; rfl
        · have h1 := idx_ret hz3.2.1
          unfold valA
          rw [if_pos hr', if_pos (a3.trans hrun)]
          unfold rdyN; rw [a2]; dsimp only; rw [hre]; dsimp only; omega
/-- A restart. -/
theorem sim_restart (hI : RecI c F nj K) (hR : Rel F nj m) (hQ : QI F) (hH : HI F) {x : Int} :
    ∃ m', stepAll off m (restartF F x).2.1 = some m' ∧ Rel (restartF F x).1 nj m' ∧ QI (restartF F x).1 ∧ HI (restartF F x).1 := by
  have hlen := hR.len
  unfold restartF
  split
  · exact ⟨m, rfl, hR, hQ, hH⟩
  · rename_i hx
    have hx := Classical.not_not.1 hx
    have hv := hI.fw.wmem hx
    generalize wAt F x = v at hv
    have hwm := hR.wk hv
    split
    · rename_i hp4
      obtain ⟨i1, i2⟩ := inv_idle (x := x) hQ hH
      have hz := hH.z _ v hv (by unfold Holds; omega)
      refine ⟨_, one_step ?_, hR.upd (F' := idleF F x 0) (k := x.toNat) (v := ⟨0, 0, 0, 0, 0, 0, (F.ar.getD x.toNat default).high⟩) rfl rfl, i1, i2⟩
      rw [show evt 11 x = ⟨11, x, 0, 0, 0, 0, 0⟩ from rfl, ev_in (v := wkOf v) (by simp [namedE]) (by dsimp only; omega) hwm, evK_11 rfl, if_pos (show (wkOf v).phase = 4 from hp4)]
      simp only [wkOf, hz.1, hz.2.1, hz.2.2.1, hz.2.2.2.1]
    · exact ⟨m, rfl, hR, hQ, hH⟩
end
end Go.Proofs.YtimkhljglpookaaGreat
