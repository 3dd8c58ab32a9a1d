import Derived.Test.YtimkhljglpookaaGreatBnd2
namespace Go.Proofs.YtimkhljglpookaaGreat
open Go Go.E
set_option linter.unusedVariables false
set_option linter.unusedSimpArgs false
set_option linter.unnecessarySimpa false
set_option maxRecDepth 100000
set_option maxHeartbeats 2000000
variable {W w : World} {H : Chunk} {F : List Chunk}

/-! ### each event -/
theorem new_states {l : List Task} : ∀ x ∈ (newB l).st, x = 1 ∨ x = 2 := by
  intro x hx
  simp only [newB] at hx
  obtain ⟨t, _, rfl⟩ := List.mem_map.1 hx
  unfold st0
  split <;> simp
theorem stAt_mem {s : List Int} {v y : Int} (h : stAt s v = y) (hy : y ≠ 0) : y ∈ s := by
  have h1 := stAt_in h hy
  rw [stAt_nat _ h1.1] at h
  rw [← h]; exact getD_mem (by omega)
theorem nst_new {l : List Task} : nst1 ⟨l, some (newB l), false⟩ = 0 := by
  unfold nst1
  dsimp only
  have h3 : (newB l).st.count 3 = 0 := List.count_eq_zero.2 (fun h => by have := new_states 3 h; omega)
  have h4 : (newB l).st.count 4 = 0 := List.count_eq_zero.2 (fun h => by have := new_states 4 h; omega)
  rw [h3, h4]; rfl
theorem nst_snoc {l : List JA} {a : JA} : nstN (l ++ [a]) = nstN l + nst1 a := by
  simp only [nstN, List.map_append, List.sum_append, List.map_cons, List.map_nil, List.sum_cons, List.sum_nil]; omega
theorem bi_add {off : List TL} {m : MS} {es : List Evt} {e : Evt} {ks : List (Int × Int)} (h : BI off m es ks) (hk : e.kind = 1) {a : JA} {r : Int} (ha : a.B = none ∨ ∃ T, off[m.jobs.length]? = some T ∧ a = ⟨T.l.l, some (newB T.l.l), false⟩) : BI off { m with jobs := m.jobs ++ [a], rd := r } (es ++ [e]) (nextK e ks) := by
  have hc : countE (es ++ [e]) = countE es := by
    rw [count_snoc]; unfold count1
    rw [if_neg (by omega), if_neg (by omega), if_neg (by omega), if_neg (by omega), if_neg (by omega), if_neg (by omega)]
  have hn : nextK e ks = ks := by unfold nextK; rw [if_neg (by omega)]
  have hat : ∀ (k : Nat) b, (m.jobs ++ [a])[k]? = some b → m.jobs[k]? = some b ∨ (k = m.jobs.length ∧ b = a) := by
    intro k b hb
    by_cases hl : k < m.jobs.length
    · rw [List.getElem?_append_left hl] at hb; exact .inl hb
    · rw [List.getElem?_append_right (by omega)] at hb
      have h0 : k - m.jobs.length = 0 := by
        apply Classical.byContradiction; intro h0
        obtain ⟨q, hq⟩ : ∃ q, k - m.jobs.length = q + 1 := ⟨k - m.jobs.length - 1, by omega⟩
        rw [hq] at hb; simp at hb
      rw [h0] at hb
      exact .inr ⟨by omega, (Option.some.inj hb).symm⟩
  rw [hn]
  refine ⟨?_, ?_, by rw [hc]; exact h.cm, by rw [hc]; exact h.st, ?_⟩
  · intro k b B hb hB
    rcases hat k b hb with hb | ⟨rfl, rfl⟩
    · exact h.jt k b B hb hB
    · rcases ha with ha | ⟨T, hT, rfl⟩
      · rw [ha] at hB; cases hB
      · obtain rfl := Option.some.inj hB
        exact ⟨T, hT, rfl, by simp [newB]⟩
  · intro u v
    rw [h.dn u v]
    constructor
    · rintro ⟨h0, b, B, h1, h2, h3⟩
      have hl := (List.getElem?_eq_some_iff.1 h1).1
      exact ⟨h0, b, B, by dsimp only; rw [List.getElem?_append_left hl]; exact h1, h2, h3⟩
    · rintro ⟨h0, b, B, h1, h2, h3⟩
      rcases hat _ b h1 with h1 | ⟨_, rfl⟩
      · exact ⟨h0, b, B, h1, h2, h3⟩
      · rcases ha with ha | ⟨T, hT, rfl⟩
        · rw [ha] at h2; cases h2
        · obtain rfl := Option.some.inj h2
          have := new_states 4 (stAt_mem h3 (by decide)); omega
  · rw [hc]
    dsimp only
    rw [nst_snoc]
    have h1 : nst1 a = 0 := by
      rcases ha with ha | ⟨T, hT, rfl⟩
      · unfold nst1; rw [ha]
      · exact nst_new
    have := h.tot
    omega
theorem stAt_setD {s : List Int} {t y v : Int} (ht : 0 ≤ t ∧ t < ((s.length : Nat) : Int)) : stAt (s.set t.toNat y) v = if v = t then y else stAt s v := by
  by_cases h : v = t
  · rw [if_pos h, h, stAt_self ht]
  · rw [if_neg h, stAt_other ht.1 h]
theorem getD_nat {s : List Int} {t : Int} (h : 0 ≤ t) : s.getD t.toNat 0 = stAt s t := (stAt_nat s h).symm
theorem bi_take {off : List TL} {m m' : MS} {es : List Evt} {e : Evt} {ks : List (Int × Int)} {K : Int} {k : Nat} {v : Wk} (hW : MW m K) (h : BI off m es ks) (hk : e.kind = 3 ∨ e.kind = 4 ∨ e.kind = 5) (hv : m.ws[k]? = some v) {r : Ref} (he : takeM m k v r = some m') : BI off m' (es ++ [e]) (nextK e ks) := by
  have hn : nextK e ks = ks := by unfold nextK; rw [if_neg (by omega)]
  have hc : (countE (es ++ [e])).commits = (countE es).commits ∧ (countE (es ++ [e])).drops = (countE es).drops ∧ (countE (es ++ [e])).starts = (countE es).starts + 1 ∧ (countE (es ++ [e])).crashes = (countE es).crashes := by
    rw [count_snoc]; unfold count1
    by_cases h3 : e.kind = 3 ∨ e.kind = 4
    · rw [if_pos h3]; exact ⟨rfl, rfl, rfl, rfl⟩
    · rw [if_neg h3, if_pos (by omega)]; exact ⟨rfl, rfl, rfl, rfl⟩
  rw [hn]
  unfold takeM at he
  split at he
  · cases he
  · rename_i hcond
    have hcond := Classical.not_not.1 hcond
    obtain ⟨s, B, hs, h1, h2, hB, _, _, hBW, hl⟩ := runsM_some hcond.2 hW.j
    rw [jobA_at hs, hB] at he
    dsimp only at he
    split at he
    · cases he
    · rename_i hz
      have hz := Classical.not_not.1 hz
      obtain rfl := Option.some.inj he
      have hst : stAt B.st r.task = 2 := by
        unfold startB at hz
        split at hz
        · split at hz
          · assumption
          · cases hz
        · cases hz
      have hin := stAt_in hst (by decide)
      have hse := start_eq hBW.ls hst
      have hq : stAt B.st r.task ≠ 4 := by omega
      have c3 := cset (z := 3) (y := 3) (s := B.st) (k := r.task.toNat) (by omega)
      have c4 := cset (z := 4) (y := 3) (s := B.st) (k := r.task.toNat) (by omega)
      rw [getD_nat hin.1, hst] at c3 c4
      simp at c3 c4
      rw [hse]
      have a1 := nst_set (l := m.jobs) (a' := { s with B := some ⟨B.deps, B.st.set r.task.toNat 3, B.att⟩ }) hs
      have a2 := hold_set (l := m.ws) (a' := ⟨1, r.job, r.task, B.att.getD r.task.toNat 0, 0⟩) hv
      have n1 : nst1 s = ((B.st.count 3 : Nat) : Int) + ((B.st.count 4 : Nat) : Int) := by unfold nst1; rw [hB]
      have n2 : nst1 { s with B := some ⟨B.deps, B.st.set r.task.toNat 3, B.att⟩ } = (((B.st.set r.task.toNat 3).count 3 : Nat) : Int) + (((B.st.set r.task.toNat 3).count 4 : Nat) : Int) := rfl
      have o1 : hold1 v = 0 := by unfold hold1; rw [if_neg (by have := hcond.1; omega)]
      have o2 : hold1 ⟨1, r.job, r.task, B.att.getD r.task.toNat 0, 0⟩ = 1 := rfl
      refine ⟨h.jt_set hs hB rfl rfl rfl, h.dn_set hs hB rfl (fun z => ?_), by rw [hc.1]; exact h.cm, ?_, ?_⟩
      · rw [stAt_setD hin]
        split
        · rename_i e1; rw [e1, hst]; omega
        · exact Iff.rfl
      · rw [hc.1, hc.2.1, hc.2.2.1]; have := h.st; dsimp only; omega
      · rw [hc.2.2.1, hc.2.2.2]; have := h.tot; dsimp only; omega
theorem bi_drop {off : List TL} {m m' : MS} {es : List Evt} {e : Evt} {ks : List (Int × Int)} {k : Nat} {v : Wk} (h : BI off m es ks) (hk : e.kind = 9) (hv : m.ws[k]? = some v) {r : Ref} (he : dropM m k v r = some m') : BI off m' (es ++ [e]) (nextK e ks) := by
  have hn : nextK e ks = ks := by unfold nextK; rw [if_neg (by omega)]
  have hc : countE (es ++ [e]) = { countE es with drops := (countE es).drops + 1 } := by
    rw [count_snoc]; unfold count1
    rw [if_neg (by omega), if_neg (by omega), if_neg (by omega), if_pos hk]
  rw [hn]
  unfold dropM at he
  split at he
  · rename_i hcond
    obtain rfl := Option.some.inj he
    have a2 := hold_set (l := m.ws) (a' := ⟨0, 0, 0, 0, 0⟩) hv
    have o1 : hold1 v = 1 := by unfold hold1; rw [if_pos hcond.1]
    have o2 : hold1 ⟨0, 0, 0, 0, 0⟩ = 0 := rfl
    refine ⟨h.jt, h.dn, by rw [hc]; exact h.cm, ?_, by rw [hc]; exact h.tot⟩
    rw [hc]; have := h.st; dsimp only; omega
  · cases he
theorem bi_crash {off : List TL} {m m' : MS} {es : List Evt} {e : Evt} {ks : List (Int × Int)} {K : Int} {k : Nat} {v : Wk} (hW : MW m K) (h : BI off m es ks) (hk : e.kind = 10) (hv : m.ws[k]? = some v) {r : Ref} (he : crashM m k v r = some m') : BI off m' (es ++ [e]) (nextK e ks) := by
  have hn : nextK e ks = ks := by unfold nextK; rw [if_neg (by omega)]
  have hc : countE (es ++ [e]) = { countE es with crashes := (countE es).crashes + 1 } := by
    rw [count_snoc]; unfold count1
    rw [if_neg (by omega), if_neg (by omega), if_neg (by omega), if_neg (by omega), if_pos hk]
  have a2 := hold_set (l := m.ws) (a' := ⟨4, 0, 0, 0, 0⟩) hv
  have o1 : 0 ≤ hold1 v := by unfold hold1; split <;> omega
  have o2 : hold1 ⟨4, 0, 0, 0, 0⟩ = 0 := rfl
  rw [hn]
  unfold crashM at he
  split at he
  · cases he
  · rename_i hcond
    split at he
    · rename_i hb
      unfold busyM at hb
      obtain ⟨s, B, hs, h1, h2, hB, _, _, hBW, hl⟩ := runsM_some ((Bool.and_eq_true _ _).mp hb).2 hW.j
      have e1 : v.heldJob = r.job := by
        apply Classical.byContradiction; intro hne; exact hcond (.inr fun h => hne h.1)
      rw [e1] at hs
      rw [jobA_at hs, hB] at he
      dsimp only at he
      split at he
      · cases he
      · rename_i hz
        have hz := Classical.not_not.1 hz
        obtain rfl := Option.some.inj he
        have hre := ret_eq hz
        have hst := (heldC_zero hz).2.1
        have hin := stAt_in hst (by decide)
        have c3 := cset (z := 3) (y := 2) (s := B.st) (k := r.task.toNat) (by omega)
        have c4 := cset (z := 4) (y := 2) (s := B.st) (k := r.task.toNat) (by omega)
        rw [getD_nat hin.1, hst] at c3 c4
        simp at c3 c4
        have a1 := nst_set (l := m.jobs) (a' := { s with B := some (retB B r.task v.attempt) }) hs
        have n1 : nst1 s = ((B.st.count 3 : Nat) : Int) + ((B.st.count 4 : Nat) : Int) := by unfold nst1; rw [hB]
        have n2 : nst1 { s with B := some (retB B r.task v.attempt) } = (((B.st.set r.task.toNat 2).count 3 : Nat) : Int) + (((B.st.set r.task.toNat 2).count 4 : Nat) : Int) := by unfold nst1; dsimp only; rw [hre]
        refine ⟨h.jt_set hs hB rfl rfl ret_deps, h.dn_set hs hB rfl (fun z => ?_), by rw [hc]; exact h.cm, ?_, ?_⟩
        · rw [hre]; dsimp only
          rw [stAt_setD hin]
          split
          · rename_i e1; rw [e1, hst]; omega
          · exact Iff.rfl
        · rw [hc]; have := h.st; dsimp only; omega
        · rw [hc]; have := h.tot; dsimp only; omega
    · obtain rfl := Option.some.inj he
      refine ⟨h.jt, h.dn, by rw [hc]; exact h.cm, ?_, ?_⟩
      · rw [hc]; have := h.st; dsimp only; omega
      · rw [hc]; have := h.tot; dsimp only; omega
/-- A commit. -/
theorem bi_commit {off : List TL} {m m' : MS} {es : List Evt} {e : Evt} {ks : List (Int × Int)} {K : Int} {k : Nat} {v : Wk} (hW : MW m K) (h : BI off m es ks) (hk : e.kind = 8) (hv : m.ws[k]? = some v) (hb : busyM m.jobs v = true) (he : microM m k v e = some m') :
    BI off m' (es ++ [e]) (nextK e ks) ∧ ComOk off e ks := by
  have hc : countE (es ++ [e]) = { countE es with commits := (countE es).commits + 1 } := by
    rw [count_snoc]; unfold count1
    rw [if_neg (by omega), if_neg (by omega), if_pos hk]
  have hn : nextK e ks = ks ++ [(e.refJob, e.refTask)] := by unfold nextK; rw [if_pos hk]
  unfold busyM at hb
  obtain ⟨hb1, hb2⟩ := (Bool.and_eq_true _ _).mp hb
  have hb1 := of_decide_eq_true hb1
  obtain ⟨s, B, hs, h1, h2, hB, _, _, hBW, hl⟩ := runsM_some hb2 hW.j
  unfold microM at he
  rw [jobA_at hs, hB] at he
  dsimp only at he
  rw [if_neg (by omega), if_neg (by omega)] at he
  split at he
  · rename_i hcond
    obtain ⟨_, _, r1, r2⟩ := hcond
    split at he
    · cases he
    · rename_i hz
      have hz := Classical.not_not.1 hz
      obtain rfl := Option.some.inj he
      have hce := com_eq hz
      have hst := (heldC_zero hz).2.1
      have hin := stAt_in hst (by decide)
      have hls := hBW.ls
      have a1 := nst_set (l := m.jobs) (a' := { s with B := some (comB B v.heldTask v.attempt).1 }) hs
      have a2 := hold_set (l := m.ws) (a' := ⟨0, 0, 0, 0, 0⟩) hv
      have o1 : hold1 v = 1 := by unfold hold1; rw [if_pos hb1]
      have o2 : hold1 ⟨0, 0, 0, 0, 0⟩ = 0 := rfl
      have c3 := cset (z := 3) (y := 4) (s := B.st) (k := v.heldTask.toNat) (by omega)
      have c4 := cset (z := 4) (y := 4) (s := B.st) (k := v.heldTask.toNat) (by omega)
      rw [getD_nat hin.1, hst] at c3 c4
      simp at c3 c4
      have hlen : (B.st.set v.heldTask.toNat 4).length = B.deps.length := by rw [List.length_set]; exact hls
      have m3 := mark_count (z := 3) hlen (.inl rfl)
      have m4 := mark_count (z := 4) hlen (.inr rfl)
      have n1 : nst1 s = ((B.st.count 3 : Nat) : Int) + ((B.st.count 4 : Nat) : Int) := by unfold nst1; rw [hB]
      have n2 : nst1 { s with B := some (comB B v.heldTask v.attempt).1 } = (((markB (B.st.set v.heldTask.toNat 4) B.deps).count 3 : Nat) : Int) + (((markB (B.st.set v.heldTask.toNat 4) B.deps).count 4 : Nat) : Int) := by unfold nst1; dsimp only; rw [hce]
      have hnew : (e.refJob, e.refTask) ∉ ks := by
        intro hm
        obtain ⟨_, b, C, q1, q2, q3⟩ := (h.dn _ _).1 hm
        rw [r1, hs] at q1; obtain rfl := Option.some.inj q1
        rw [hB] at q2; obtain rfl := Option.some.inj q2
        rw [r2, hst] at q3; omega
      have h4 : ∀ z, stAt (comB B v.heldTask v.attempt).1.st z = 4 ↔ stAt B.st z = 4 ∨ z = v.heldTask := by
        intro z
        rw [hce]; dsimp only
        rw [mark_at hlen]
        by_cases hcd : 0 ≤ z ∧ z < ((B.deps.length : Nat) : Int) ∧ condB (B.st.set v.heldTask.toNat 4) B.deps z.toNat = true
        · rw [if_pos hcd]
          have q1 := cond_one hcd.1 hcd.2.2
          rw [stAt_setD hin] at q1
          split at q1
          · omega
          · rename_i q2; constructor
            · intro q; omega
            · rintro (q | q)
              · omega
              · exact absurd q q2
        · rw [if_neg hcd, stAt_setD hin]
          split
          · rename_i q2; exact ⟨fun _ => .inr q2, fun _ => rfl⟩
          · rename_i q2; exact ⟨.inl, fun q => q.resolve_right q2⟩
      obtain ⟨T, t1, t2, t3⟩ := h.jt _ s B hs hB
      refine ⟨?_, by rw [r1]; exact h1, hnew, T, by rw [r1]; exact t1, by rw [r2]; exact hin.1, ?_, ?_⟩
      · rw [hn]
        refine ⟨h.jt_set hs hB rfl rfl com_deps, ?_, ?_, ?_, ?_⟩
        · intro u z
          rw [List.mem_append, List.mem_singleton, h.dn u z]
          have hjl := (List.getElem?_eq_some_iff.1 hs).1
          dsimp only
          rw [List.getElem?_set]
          by_cases eu : v.heldJob.toNat = u.toNat
          · rw [if_pos eu, if_pos hjl]
            constructor
            · rintro (⟨q0, b, C, q1, q2, q3⟩ | q)
              · rw [← eu, hs] at q1; obtain rfl := Option.some.inj q1
                rw [hB] at q2; obtain rfl := Option.some.inj q2
                exact ⟨q0, _, _, rfl, rfl, (h4 z).2 (.inl q3)⟩
              · obtain ⟨rfl, rfl⟩ := Prod.mk.inj q
                exact ⟨by rw [r1]; exact h1, _, _, rfl, rfl, (h4 _).2 (.inr r2)⟩
            · rintro ⟨q0, b, C, q1, q2, q3⟩
              obtain rfl := Option.some.inj q1
              obtain rfl := Option.some.inj q2
              rcases (h4 z).1 q3 with q | q
              · exact .inl ⟨q0, s, B, by rw [← eu]; exact hs, hB, q⟩
              · right; rw [Prod.mk.injEq]; exact ⟨by rw [r1]; omega, by rw [r2]; exact q⟩
          · rw [if_neg eu]
            constructor
            · rintro (q | q)
              · exact q
              · obtain ⟨rfl, rfl⟩ := Prod.mk.inj q; rw [r1] at eu; exact absurd rfl eu
            · exact .inl
        · rw [hc, List.length_append, List.length_singleton]; have := h.cm; dsimp only; omega
        · rw [hc]; have := h.st; dsimp only; omega
        · rw [hc]; have := h.tot; dsimp only; omega
      · rw [r2]
        have := hBW.ls
        rw [t3, List.length_map] at this
        omega
      · intro t ht d hd
        rw [r2] at ht
        have hdt : B.deps[v.heldTask.toNat]? = some t.deps.l := by rw [t3, List.getElem?_map, ht]; rfl
        have hwt := hBW.wait _ _ hdt
        have hno : ¬ openB B.st t.deps.l = true := by
          intro q
          have := hwt.2 q
          rw [getD_nat hin.1, hst] at this; omega
        have hd4 : stAt B.st d = 4 := by
          apply Classical.byContradiction
          intro q
          exact hno (by unfold openB; rw [List.any_eq_true]; exact ⟨d, hd, by simpa using q⟩)
        rw [r1]
        exact (h.dn _ _).2 ⟨h1, s, B, hs, hB, hd4⟩
  · cases he
end Go.Proofs.YtimkhljglpookaaGreat
