import Derived.Test.YtimkhljglpookaaGreatBnd3
namespace Go.Proofs.YtimkhljglpookaaGreat
open Go Go.E
set_option linter.unusedVariables false
set_option linter.unusedSimpArgs false
set_option linter.unnecessarySimpa false
set_option maxRecDepth 100000
set_option maxHeartbeats 2000000
variable {W w : World} {H : Chunk} {F : List Chunk}

/-! ### the loop over an accepted history -/
theorem bi_step {off : List TL} {m m' : MS} {es l : List Evt} {e : Evt} {ks : List (Int × Int)} {K : Int} (hW : MW m K) (h : BI off m es ks) (he : eventM off m e l = some m') : BI off m' (es ++ [e]) (nextK e ks) ∧ (e.kind = 8 → ComOk off e ks) := by
  unfold eventM at he
  split at he
  · rename_i hc
    have hv : m.ws[e.worker.toNat]? = some (m.ws.getD e.worker.toNat default) := by
      have h1 : e.worker.toNat < m.ws.length := by omega
      rw [List.getD_eq_getElem?_getD, List.getElem?_eq_getElem h1]; rfl
    generalize m.ws.getD e.worker.toNat default = v at he hv
    by_cases h1 : e.kind = 1
    · rw [evK_1 h1] at he
      refine ⟨?_, fun k => by omega⟩
      unfold submitM at he
      split at he
      · cases he
      · rename_i hj
        have hj := Classical.not_not.1 hj
        split at he
        · obtain rfl := Option.some.inj he; exact bi_add h h1 (.inl rfl)
        · split at he
          · cases he
          · rename_i T hT
            rw [hj, Int.toNat_natCast] at hT
            split at he
            · cases he
            · obtain rfl := Option.some.inj he; exact bi_add h h1 (.inr ⟨T, hT, rfl⟩)
    by_cases h2 : e.kind = 2
    · rw [evK_2 h2] at he
      refine ⟨?_, fun k => by omega⟩
      unfold cancelM at he
      split at he
      · rename_i hr
        obtain ⟨s, B, hs, _, _, hB, _, _, hBW, hl⟩ := runsM_some hr hW.j
        rw [jobA_at hs, hB] at he
        dsimp only at he
        obtain rfl := Option.some.inj he
        have hc : countE (es ++ [e]) = countE es := by
          rw [count_snoc]; unfold count1
          rw [if_neg (by omega), if_neg (by omega), if_neg (by omega), if_neg (by omega), if_neg (by omega), if_neg (by omega)]
        have hn : nextK e ks = ks := by unfold nextK; rw [if_neg (by omega)]
        have a1 := nst_set (l := m.jobs) (a' := { s with x := true }) hs
        have n1 : nst1 { s with x := true } = nst1 s := rfl
        rw [hn]
        refine ⟨h.jt_set hs hB hB rfl rfl, h.dn_set hs hB hB (fun z => Iff.rfl), by rw [hc]; exact h.cm, by rw [hc]; exact h.st, ?_⟩
        rw [hc]; have := h.tot; dsimp only; omega
      · cases he
    by_cases h3 : e.kind = 3 ∨ e.kind = 4
    · rw [evK_3 h3] at he; exact ⟨bi_take hW h (by omega) hv he, fun k => by omega⟩
    by_cases h5 : e.kind = 5
    · rw [evK_5 h5] at he
      split at he
      · exact ⟨bi_take hW h (by omega) hv he, fun k => by omega⟩
      · cases he
    by_cases h6 : e.kind = 6 ∨ e.kind = 7 ∨ e.kind = 8
    · rw [evK_6 h6] at he
      split at he
      · rename_i hb
        by_cases h8 : e.kind = 8
        · obtain ⟨g1, g2⟩ := bi_commit hW h h8 hv hb he
          exact ⟨g1, fun _ => g2⟩
        · refine ⟨?_, fun k => absurd k h8⟩
          have hb' := hb
          unfold busyM at hb'
          obtain ⟨s, B, hs, _, _, hB, _, _, _, _⟩ := runsM_some ((Bool.and_eq_true _ _).mp hb').2 hW.j
          unfold microM at he
          rw [jobA_at hs, hB] at he
          dsimp only at he
          split at he
          · rename_i hp
            obtain rfl := Option.some.inj he
            have a2 := hold_set (l := m.ws) (a' := { v with phase := 2 }) hv
            have o1 : hold1 v = 1 := by unfold hold1; rw [if_pos (by omega)]
            have o2 : hold1 { v with phase := 2 } = 1 := rfl
            exact bi_quiet h (by omega) rfl (by dsimp only; omega)
          · split at he
            · rename_i hp
              obtain rfl := Option.some.inj he
              have a2 := hold_set (l := m.ws) (a' := { v with row := v.row + 1, phase := if v.row + 1 = (s.T.getD v.heldTask.toNat default).rows then 3 else 2 }) hv
              have o1 : hold1 v = 1 := by unfold hold1; rw [if_pos (by omega)]
              have o2 : hold1 { v with row := v.row + 1, phase := if v.row + 1 = (s.T.getD v.heldTask.toNat default).rows then 3 else 2 } = 1 := by unfold hold1; dsimp only; split <;> simp
              exact bi_quiet h (by omega) rfl (by dsimp only; omega)
            · rw [if_neg (by omega)] at he; cases he
      · cases he
    by_cases h9 : e.kind = 9
    · rw [evK_9 h9] at he; exact ⟨bi_drop h h9 hv he, fun k => by omega⟩
    by_cases h10 : e.kind = 10
    · rw [evK_10 h10] at he; exact ⟨bi_crash hW h h10 hv he, fun k => by omega⟩
    by_cases h11 : e.kind = 11
    · rw [evK_11 h11] at he
      split at he
      · rename_i hp
        obtain rfl := Option.some.inj he
        have a2 := hold_set (l := m.ws) (a' := { v with phase := 0 }) hv
        have o1 : hold1 v = 0 := by unfold hold1; rw [if_neg (by omega)]
        have o2 : hold1 { v with phase := 0 } = 0 := rfl
        exact ⟨bi_quiet h (by omega) rfl (by dsimp only; omega), fun k => by omega⟩
      · cases he
    by_cases h12 : e.kind = 12
    · rw [evK_12 h12] at he
      split at he
      · obtain rfl := Option.some.inj he; exact ⟨bi_quiet h (by omega) rfl rfl, fun k => by omega⟩
      · cases he
    by_cases h13 : e.kind = 13
    · rw [evK_13 h13] at he
      split at he
      · obtain rfl := Option.some.inj he; exact ⟨bi_quiet h (by omega) rfl rfl, fun k => by omega⟩
      · cases he
    rw [evK_no (by omega)] at he; cases he
  · cases he
def BL (off : List TL) (c : Cfg) (l : List Evt) (i : Nat) (ks : List (Int × Int)) : Prop := ∃ m, runC off (startM c) l i = some m ∧ BI off m (l.take i) ks ∧ MW m ((i : Nat) : Int)
theorem bl_start {off : List TL} {c : Cfg} {l : List Evt} : BL off c l 0 [] := by
  refine ⟨startM c, by cases l <;> rfl, ⟨?_, ?_, rfl, ?_, ?_⟩, startM_ok c⟩
  · intro k a B h _; simp [startM] at h
  · intro u v
    constructor
    · intro h; cases h
    · rintro ⟨_, a, B, h, _⟩; simp [startM] at h
  · have : holdN (startM c).ws = 0 := by
      unfold holdN startM
      dsimp only
      generalize c.workers.toNat = n
      induction n with
      | zero => rfl
      | succ n ih => rw [List.replicate_succ, List.map_cons, List.sum_cons, ih]; rfl
    rw [this]; simp [countE]
  · simp [countE, nstN, startM]
theorem bl_step {off : List TL} {c : Cfg} {l : List Evt} {mN : MS} {i : Nat} {e : Evt} {ks : List (Int × Int)} (ho : ∀ z ∈ off, z.l.l.length ≤ 12) (hl : l.length ≤ 100000) (hN : stepAll off (startM c) l = some mN) (hx : l[i]? = some e) (h : BL off c l i ks) :
    BL off c l (i + 1) (nextK e ks) ∧ (e.kind = 8 → ComOk off e ks) := by
  obtain ⟨m, h1, h2, h3⟩ := h
  have hi := (List.getElem?_eq_some_iff.1 hx).1
  obtain ⟨m', h4⟩ := runC_le hN (k := i + 1) (by omega)
  have h5 : eventM off m e (l.drop (i + 1)) = some m' := by rw [← runC_succ h1 hx]; exact h4
  obtain ⟨h6, h7⟩ := bi_step h3 h2 h5
  exact ⟨⟨m', h4, by rw [take_succ_at hx]; exact h6, (event_ok h3 (by omega) ho h5).1⟩, h7⟩
theorem hold_nn : ∀ {l : List Wk}, 0 ≤ holdN l
  | [] => Int.le_refl 0
  | v :: l => by
    have ih := hold_nn (l := l)
    have h1 : 0 ≤ hold1 v := by unfold hold1; split <;> omega
    simp only [holdN, List.map_cons, List.sum_cons] at ih ⊢; omega
theorem bl_end {off : List TL} {c : Cfg} {l : List Evt} {ks : List (Int × Int)} (h : BL off c l l.length ks) :
    (countE l).commits = ((ks.length : Nat) : Int) ∧ (countE l).commits + (countE l).drops ≤ (countE l).starts ∧ (countE l).starts ≤ (((off.map fun T => T.l.l.length).sum : Nat) : Int) + (countE l).crashes := by
  obtain ⟨m, h1, h2, h3⟩ := h
  rw [List.take_length] at h2
  have h4 := hold_nn (l := m.ws)
  have h5 := nst_le (off := off) (l := m.jobs) (fun k a B ha hB => by
    obtain ⟨T, t1, t2, t3⟩ := h2.jt k a B ha hB
    have h6 := (h3.j a (List.mem_of_getElem? ha) B hB).1.ls
    exact ⟨T, t1, by rw [h6, t3, List.length_map]⟩)
  have h6 := h2.st
  have h7 := h2.tot
  exact ⟨h2.cm, by omega, by omega⟩
end Go.Proofs.YtimkhljglpookaaGreat
