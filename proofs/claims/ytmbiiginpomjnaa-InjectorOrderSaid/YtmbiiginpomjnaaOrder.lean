import Derived.Test.YtmbiiginpomjnaaSane
namespace Go.Proofs.Ytmbiiginpomjnaa
open Go Go.E

/-! ### tasks that leave by bands -/
def Band (b : Int) (l : List Ref) : Prop := (∀ r ∈ l, r.job = b) ∧ l.Pairwise (fun x y => x.task < y.task)
def Below' (i : Int) (l : List Ref) : Prop := ∀ r ∈ l, 0 ≤ r.task ∧ r.task < i
def Good (S : Inj) (i : Int) : Prop := (Band 0 S.q0 ∧ Band 1 S.q1 ∧ Band 2 S.q2 ∧ Band 3 S.q3) ∧ (Below' i S.q0 ∧ Below' i S.q1 ∧ Below' i S.q2 ∧ Below' i S.q3)
def After (l : Ref) (q : List Ref) : Prop := ∀ r ∈ q, l.job < r.job ∨ (l.job = r.job ∧ l.task < r.task)
def Inv (S : Inj) (l : Ref) : Prop := (Band 0 S.q0 ∧ Band 1 S.q1 ∧ Band 2 S.q2 ∧ Band 3 S.q3) ∧ (After l S.q0 ∧ After l S.q1 ∧ After l S.q2 ∧ After l S.q3)
theorem below_mono {i : Int} {l : List Ref} (h : Below' i l) : Below' (i + 1) l := fun r hr => by have := h r hr; omega
theorem band_snoc {b i : Int} {l : List Ref} (h : Band b l) (h2 : Below' i l) : Band b (l ++ [⟨b, i⟩]) := by
  refine ⟨fun r hr => ?_, ?_⟩
  · rcases List.mem_append.1 hr with hr | hr
    · exact h.1 r hr
    · simp at hr; simp [hr]
  · refine List.pairwise_append.2 ⟨h.2, by simp, fun x hx y hy => ?_⟩
    simp at hy
    have := h2 x hx
    simp [hy]; omega
theorem below_snoc {b i : Int} {l : List Ref} (hi : 0 ≤ i) (h : Below' i l) : Below' (i + 1) (l ++ [⟨b, i⟩]) := by
  intro r hr
  rcases List.mem_append.1 hr with hr | hr
  · have := h r hr; omega
  · simp at hr; simp [hr]; omega
theorem push_code {S : Inj} {b : Int} (hc : S.cap = 100) (h0 : 0 ≤ b) (h1 : b < 4) (hl : (S.len : Int) < 100) : S.pushCode b = 0 := by
  unfold Inj.pushCode; (repeat' split) <;> omega
theorem push_good {S : Inj} {b i : Int} (hc : S.cap = 100) (h0 : 0 ≤ b) (h1 : b < 4) (hl : (S.len : Int) < 100) (hi : 0 ≤ i) (h : Good S i) :
    Good (S.push ⟨b, i⟩ b) (i + 1) ∧ (S.push ⟨b, i⟩ b).len = S.len + 1 ∧ (S.push ⟨b, i⟩ b).cap = 100 := by
  have hp := push_code hc h0 h1 hl
  obtain ⟨⟨b0, b1, b2, b3⟩, c0, c1, c2, c3⟩ := h
  obtain rfl | rfl | rfl | rfl : b = 0 ∨ b = 1 ∨ b = 2 ∨ b = 3 := by omega
  · simp only [Inj.push, hp, if_true, Inj.setq, Inj.q]
    exact ⟨⟨⟨band_snoc b0 c0, b1, b2, b3⟩, below_snoc hi c0, below_mono c1, below_mono c2, below_mono c3⟩, by simp [Inj.len]; omega, hc⟩
  · simp only [Inj.push, hp, if_true, Inj.setq, Inj.q, show ((1 : Int) = 0) = False from by simp, if_false]
    exact ⟨⟨⟨b0, band_snoc b1 c1, b2, b3⟩, below_mono c0, below_snoc hi c1, below_mono c2, below_mono c3⟩, by simp [Inj.len]; omega, hc⟩
  · simp only [Inj.push, hp, if_true, Inj.setq, Inj.q, show ((2 : Int) = 0) = False from by simp, show ((2 : Int) = 1) = False from by simp, if_false]
    exact ⟨⟨⟨b0, b1, band_snoc b2 c2, b3⟩, below_mono c0, below_mono c1, below_snoc hi c2, below_mono c3⟩, by simp [Inj.len]; omega, hc⟩
  · simp only [Inj.push, hp, if_true, Inj.setq, Inj.q, show ((3 : Int) = 0) = False from by simp, show ((3 : Int) = 1) = False from by simp, show ((3 : Int) = 2) = False from by simp, if_false]
    exact ⟨⟨⟨b0, b1, b2, band_snoc b3 c3⟩, below_mono c0, below_mono c1, below_mono c2, below_snoc hi c3⟩, by simp [Inj.len]; omega, hc⟩
theorem good_inv {S : Inj} {i : Int} (h : Good S i) : Inv S ⟨0, -1⟩ := by
  obtain ⟨⟨b0, b1, b2, b3⟩, c0, c1, c2, c3⟩ := h
  refine ⟨⟨b0, b1, b2, b3⟩, fun r hr => ?_, fun r hr => ?_, fun r hr => ?_, fun r hr => ?_⟩
  · have := b0.1 r hr; have := c0 r hr; simp only; omega
  · have := b1.1 r hr; simp only; omega
  · have := b2.1 r hr; simp only; omega
  · have := b3.1 r hr; simp only; omega
theorem band_tail {b : Int} {x : Ref} {t : List Ref} (h : Band b (x :: t)) : x.job = b ∧ Band b t ∧ After x t := by
  obtain ⟨h1, h2⟩ := h
  rw [List.pairwise_cons] at h2
  refine ⟨h1 x (by simp), ⟨fun r hr => h1 r (by simp [hr]), h2.2⟩, fun r hr => .inr ⟨?_, h2.1 r hr⟩⟩
  rw [h1 x (by simp), h1 r (by simp [hr])]
theorem after_band {b c : Int} {x : Ref} {t : List Ref} (hx : x.job = b) (h : Band c t) (hbc : b < c) : After x t := fun r hr => .inl (by rw [hx, h.1 r hr]; exact hbc)
theorem after_nil (x : Ref) : After x [] := fun r hr => by simp at hr
/-- What one Pop does. -/
theorem pop_inv {S : Inj} {l : Ref} (h : Inv S l) (hn : 0 < S.len) : S.pop.2.2 = true ∧ Inv S.pop.1 S.pop.2.1 ∧ S.pop.1.len + 1 = S.len ∧
    (l.job < S.pop.2.1.job ∨ (l.job = S.pop.2.1.job ∧ l.task < S.pop.2.1.task)) := by
  obtain ⟨cap, q0, q1, q2, q3⟩ := S
  obtain ⟨⟨b0, b1, b2, b3⟩, c0, c1, c2, c3⟩ := h
  dsimp only at b0 b1 b2 b3 c0 c1 c2 c3
  cases q0 with
  | cons x t =>
    obtain ⟨hj, hb, ha⟩ := band_tail b0
    exact ⟨rfl, ⟨⟨hb, b1, b2, b3⟩, ha, after_band hj b1 (by decide), after_band hj b2 (by decide), after_band hj b3 (by decide)⟩, by simp [Inj.pop, Inj.len]; omega, c0 x (by simp)⟩
  | nil =>
    cases q1 with
    | cons x t =>
      obtain ⟨hj, hb, ha⟩ := band_tail b1
      exact ⟨rfl, ⟨⟨b0, hb, b2, b3⟩, after_nil _, ha, after_band hj b2 (by decide), after_band hj b3 (by decide)⟩, by simp [Inj.pop, Inj.len]; omega, c1 x (by simp)⟩
    | nil =>
      cases q2 with
      | cons x t =>
        obtain ⟨hj, hb, ha⟩ := band_tail b2
        exact ⟨rfl, ⟨⟨b0, b1, hb, b3⟩, after_nil _, after_nil _, ha, after_band hj b3 (by decide)⟩, by simp [Inj.pop, Inj.len]; omega, c2 x (by simp)⟩
      | nil =>
        cases q3 with
        | cons x t =>
          obtain ⟨hj, hb, ha⟩ := band_tail b3
          exact ⟨rfl, ⟨⟨b0, b1, b2, hb⟩, after_nil _, after_nil _, after_nil _, ha⟩, by simp [Inj.pop, Inj.len], c3 x (by simp)⟩
        | nil => simp [Inj.len] at hn
theorem pop_none {S : Inj} (hn : S.len = 0) : S.pop.2.2 = false ∧ S.pop.1 = S := by
  obtain ⟨cap, q0, q1, q2, q3⟩ := S
  simp only [Inj.len] at hn
  have h0 : q0 = [] := List.eq_nil_of_length_eq_zero (by omega)
  have h1 : q1 = [] := List.eq_nil_of_length_eq_zero (by omega)
  have h2 : q2 = [] := List.eq_nil_of_length_eq_zero (by omega)
  have h3 : q3 = [] := List.eq_nil_of_length_eq_zero (by omega)
  subst h0 h1 h2 h3
  exact ⟨rfl, rfl⟩
theorem order_walk (W w : World) (H : Chunk) (F : List Chunk) (a : Option Addr) (n cap : Nat) (xs : List Int) (m : Int) (hR : RdT encI 1 [H] a n cap xs) (hm63 : -9223372036854775808 ≤ m ∧ m ≤ 9223372036854775807) (hS : Sat W w (H :: F)) :
    Calls Try.prog 3 #[.slice a n cap, .int .i64 m] w fun e w' => e = .returned (.bool true) ∧ Sat W w' (H :: F) := by
  refine callsE (n := 96) Try.func3 rfl rfl (Nat.le_of_ble_eq_true rfl) ?_
  refine seqE ?_
  refine regionE ?_
  refine p1 (by kernel_rfl) ?_
  refine nilO ?_
  refine thenK_n <| ?_
  refine seqE ?_
  refine regionE ?_
  refine p1 (by kernel_rfl) ?_
  change Sat _ _ (H :: F) at hS
  refine sF #[.slice a n cap] Try.call6 (Calls.mono (tape_new W _ _ _ _ _ _ _ hR hS) ?_)
  rintro _ w_1 ⟨p_3, rfl, fp_4, hT_5, hS_2⟩
  refine ⟨_, rfl, ?_⟩
  refine p1 (by kernel_rfl) ?_
  refine nilO ?_
  refine thenK_n <| ?_
  refine seqE ?_
  refine regionE ?_
  refine sF #[.int .i64 100] Try.call7 (Calls.mono (inj_new W _ _ 100 (by omega) hS_2) ?_)
  rintro _ w_6 ⟨p_8, rfl, fp_9, hI_10, hS_7⟩
  refine ⟨_, rfl, ?_⟩
  refine p5 (by kernel_rfl) ?_
  refine nilO ?_
  refine thenK_n <| ?_
  refine seqE ?_
  refine seqE ?_
  refine regionE ?_
  refine p6 (by kernel_rfl) ?_
  refine nilO ?_
  refine thenK_n <| ?_
  refine condE_false (by kernel_rfl) ?_
  refine skipE ?_
  refine thenK_n <| ?_
  refine seqE ?_
  refine regionE ?_
  refine p1 (by kernel_rfl) ?_
  refine sF #[.int .i64 m, .int .i64 50] Try.call8 (Calls.mono (mod_ok W _ _ m 50 (by omega) (by omega) hS_7) ?_)
  rintro _ w_11 ⟨r_13, rfl, hr_14, hS_12⟩
  refine ⟨_, rfl, ?_⟩
  refine sAdd 1 r_13 ?_
  refine p1 (by kernel_rfl) ?_
  refine nilO ?_
  refine thenK_n <| ?_
  refine seqE ?_
  refine seqE ?_
  refine regionE ?_
  refine p1 (by kernel_rfl) ?_
  refine nilO ?_
  refine thenK_n <| ?_
  refine blockE ?_
  have hS_15 := hS_12.pick 2 rfl
  have hS_16 := hS_15.pick 2 rfl
  have hS_17 := hS_16.pick 2 rfl
  change Sat _ _ (fp_9 :: fp_4 :: H :: F) at hS_17
  refine loopE (γ := Int × Inj × Chunk × Chunk) (fun ⟨i, S, fi, ft⟩ ρ w => AllAt ρ [(5, .pointer (some ⟨p_3, 0, none⟩)), (6, .pointer (some ⟨p_8, 0, none⟩)), (8, .int .i64 (1 + r_13)), (9, .int .i64 i)] ∧ Sat W w (fi :: ft :: H :: F) ∧ InjR p_8 S fi ∧ TapeR H p_3 ft ∧ (0 ≤ i ∧ i ≤ (1 + r_13)) ∧ (S.len : Int) = i ∧ S.cap = 100 ∧ Good S i) (fun ⟨i, S, fi, ft⟩ => (50 - i).toNat) (0, (⟨100, [], [], [], []⟩ : Inj), fp_9, fp_4) ⟨⟨by kernel_rfl, by kernel_rfl, by kernel_rfl, by kernel_rfl, trivial⟩, hS_17, hI_10, hT_5, by omega, rfl, rfl, ⟨⟨⟨by simp, by simp⟩, ⟨by simp, by simp⟩, ⟨by simp, by simp⟩, ⟨by simp, by simp⟩⟩, ⟨fun r hr => by simp at hr, fun r hr => by simp at hr, fun r hr => by simp at hr, fun r hr => by simp at hr⟩⟩⟩ ?_
  skip
  rintro ⟨i, S, fi, ft⟩ ρ w_18 ⟨hA, hS_19, hI, hT, hi, hlen, hcap, hG⟩
  refine cAnchor hA (fun ρ => ?_)
  clear hA
  refine seqE ?_
  refine seqE ?_
  refine regionE ?_
  refine p3 (by kernel_rfl) ?_
  refine nilO ?_
  refine thenK_n <| ?_
  by_cases hc_20 : (i : Int) < (1 + r_13)
  · refine cT (decide ((i : Int) < (1 + r_13))) (decide_eq_true hc_20) ?_
    refine skipE ?_
    refine thenK_n <| ?_
    refine seqE ?_
    refine blockE ?_
    refine seqE ?_
    refine regionE ?_
    refine p1 (by kernel_rfl) ?_
    have hS_27 := hS_19.pick 2 rfl
    have hS_28 := hS_27.pick 2 rfl
    change Sat _ _ (ft :: H :: fi :: F) at hS_28
    refine sF #[.pointer (some ⟨p_3, 0, none⟩), .int .i64 4] Try.call9 (Calls.mono (tape_next W _ _ _ _ _ hT hS_28 4 (by omega)) ?_)
    rintro _ w_21 ⟨r_23, rfl, hr_24, fp_25, hT_26, hS_22⟩
    refine ⟨_, rfl, ?_⟩
    change Sat _ _ (fp_25 :: H :: fi :: F) at hS_22
    refine p1 (by kernel_rfl) ?_
    refine nilO ?_
    refine thenK_n <| ?_
    refine seqE ?_
    refine regionE ?_
    refine p5 (by kernel_rfl) ?_
    have hcode := push_code hcap (b := r_23) (by omega) (by omega) (by omega)
    have hgood := push_good hcap (b := r_23) (i := i) (by omega) (by omega) (by omega) (by omega) hG
    have hS_29 := hS_22.pick 2 rfl
    change Sat _ _ (fi :: fp_25 :: H :: F) at hS_29
    refine sF #[.pointer (some ⟨p_8, 0, none⟩), .agg #[.int .i64 r_23, .int .i64 i], .int .i64 r_23] Try.call10 (Calls.mono (inj_push W _ _ _ _ _ hI hS_29 (by omega) ⟨r_23, i⟩ r_23) ?_)
    rw [hcode]
    rintro _ w_30 ⟨rfl, fp_32, hI_33, hS_31⟩
    refine ⟨_, rfl, ?_⟩
    change Sat _ _ (fp_32 :: fp_25 :: H :: F) at hS_31
    refine p1 (by kernel_rfl) ?_
    refine nilO ?_
    refine thenK_n <| ?_
    refine condE_false (by kernel_rfl) ?_
    refine skipE ?_
    refine blockK_n <| thenK_n <| ?_
    refine regionE ?_
    refine p1 (by kernel_rfl) ?_
    refine sAdd i 1 ?_
    refine p1 (by kernel_rfl) ?_
    refine nilO ?_
    refine thenK_n <| ?_
    have hS_34 := hS_31.pick 2 rfl
    have hS_35 := hS_34.pick 2 rfl
    have hS_36 := hS_35.pick 2 rfl
    change Sat _ _ (fp_32 :: fp_25 :: H :: F) at hS_36
    exact ⟨(i + 1, (S.push ⟨r_23, i⟩ r_23), fp_32, fp_25), by dsimp only; omega, ⟨by kernel_rfl, by kernel_rfl, by kernel_rfl, by kernel_rfl, trivial⟩, hS_36, hI_33, hT_26, by omega, by omega, hgood.2.2, hgood.1⟩
  · refine cF (decide ((i : Int) < (1 + r_13))) (decide_eq_false hc_20) ?_
    refine exitE (thenK_x <| thenK_x <| blockK_x <| ?_)
    refine thenK_n <| ?_
    refine seqE ?_
    refine regionE ?_
    refine p1 (by kernel_rfl) ?_
    refine sAlloc hS_19 Try.zeroValue33 ?_
    intro b_37 w_38 hS_39
    change Sat _ _ ([(b_37, .cells #[.int .i64 0, .int .i64 0] 33 (0, 0))] :: fi :: ft :: H :: F) at hS_39
    refine sT hS_39 0 0 (.agg #[.int .i64 0, .int .i64 (-1)]) [.int .i64 0, .int .i64 (-1)] #[.int .i64 0, .int .i64 (-1)] Try.sizeOf33 ?_
    intro w_40 hS_41
    change Sat _ _ ([(b_37, .cells #[.int .i64 0, .int .i64 (-1)] 33 (0, 0))] :: fi :: ft :: H :: F) at hS_41
    refine nilO ?_
    refine thenK_n <| ?_
    refine seqE ?_
    refine seqE ?_
    refine regionE ?_
    refine p1 (by kernel_rfl) ?_
    refine nilO ?_
    refine thenK_n <| ?_
    refine blockE ?_
    skip
    have hS_42 := hS_41.pick 3 rfl
    have hS_43 := hS_42.pick 2 rfl
    have hS_44 := hS_43.pick 2 rfl
    change Sat _ _ ([(b_37, .cells #[.int .i64 0, .int .i64 (-1)] 33 (0, 0))] :: fi :: H :: ft :: F) at hS_44
    have hS_45 := hS_44.dropAt 3 rfl
    change Sat _ _ ([(b_37, .cells #[.int .i64 0, .int .i64 (-1)] 33 (0, 0))] :: fi :: H :: F) at hS_45
    skip
    refine loopE (γ := Int × Inj × Ref × Chunk) (fun ⟨i, S, l, fi2⟩ ρ w => AllAt ρ [(6, .pointer (some ⟨p_8, 0, none⟩)), (8, .int .i64 (1 + r_13)), (11, .pointer (some ⟨b_37, 0, none⟩)), (12, .int .i64 i)] ∧ Sat W w ([(b_37, .cells #[.int .i64 l.job, .int .i64 l.task] 33 (0, 0))] :: fi2 :: H :: F) ∧ InjR p_8 S fi2 ∧ (0 ≤ i ∧ i ≤ (1 + r_13)) ∧ (S.len : Int) = (1 + r_13) - i ∧ Inv S l) (fun ⟨i, S, l, fi2⟩ => (50 - i).toNat) (0, S, (⟨0, -1⟩ : Ref), fi) ⟨⟨by kernel_rfl, by kernel_rfl, by kernel_rfl, by kernel_rfl, trivial⟩, hS_45, hI, by omega, by omega, good_inv hG⟩ ?_
    skip
    rintro ⟨i, S, l, fi2⟩ ρ w_46 ⟨hA, hS_47, hI2, hi2, hlen2, hV⟩
    refine cAnchor hA (fun ρ => ?_)
    clear hA
    refine seqE ?_
    refine seqE ?_
    refine regionE ?_
    refine p3 (by kernel_rfl) ?_
    refine nilO ?_
    refine thenK_n <| ?_
    by_cases hc_48 : (i : Int) < (1 + r_13)
    · refine cT (decide ((i : Int) < (1 + r_13))) (decide_eq_true hc_48) ?_
      refine skipE ?_
      refine thenK_n <| ?_
      refine seqE ?_
      refine blockE ?_
      refine seqE ?_
      refine regionE ?_
      refine p1 (by kernel_rfl) ?_
      have hS_49 := hS_47.pick 1 rfl
      change Sat _ _ (fi2 :: [(b_37, .cells #[.int .i64 l.job, .int .i64 l.task] 33 (0, 0))] :: H :: F) at hS_49
      obtain ⟨hok, hinv, hlen1, hord⟩ := pop_inv hV (by omega)
      refine sF #[.pointer (some ⟨p_8, 0, none⟩)] Try.call11 (Calls.mono (inj_pop W _ _ _ _ _ hI2 hS_49 (by omega)) ?_)
      rw [hok]
      rintro _ w_50 ⟨rfl, fp_52, hI_53, hS_51⟩
      refine ⟨_, rfl, ?_⟩
      change Sat _ _ (fp_52 :: [(b_37, .cells #[.int .i64 l.job, .int .i64 l.task] 33 (0, 0))] :: H :: F) at hS_51
      refine p3 (by kernel_rfl) ?_
      refine sAlloc hS_51 Try.zeroValue33 ?_
      intro b_54 w_55 hS_56
      change Sat _ _ ([(b_54, .cells #[.int .i64 0, .int .i64 0] 33 (0, 0))] :: fp_52 :: [(b_37, .cells #[.int .i64 l.job, .int .i64 l.task] 33 (0, 0))] :: H :: F) at hS_56
      refine sT hS_56 0 0 (.agg #[.int .i64 S.pop.2.1.job, .int .i64 S.pop.2.1.task]) [.int .i64 S.pop.2.1.job, .int .i64 S.pop.2.1.task] #[.int .i64 S.pop.2.1.job, .int .i64 S.pop.2.1.task] Try.sizeOf33 ?_
      intro w_57 hS_58
      change Sat _ _ ([(b_54, .cells #[.int .i64 S.pop.2.1.job, .int .i64 S.pop.2.1.task] 33 (0, 0))] :: fp_52 :: [(b_37, .cells #[.int .i64 l.job, .int .i64 l.task] 33 (0, 0))] :: H :: F) at hS_58
      refine p1 (by kernel_rfl) ?_
      refine nilO ?_
      refine thenK_n <| ?_
      refine seqE ?_
      refine seqE ?_
      refine regionE ?_
      refine p4 (by kernel_rfl) ?_
      refine guardYes rfl ⟨_, rfl, rfl, by kernel_rfl⟩ ?_
      refine sL hS_58 0 0 (.int .i64 S.pop.2.1.job) (Try.isAgg3 _) ?_
      refine p1 (by kernel_rfl) ?_
      refine guardYes rfl ⟨_, rfl, rfl, by kernel_rfl⟩ ?_
      refine sL hS_58 2 0 (.int .i64 l.job) (Try.isAgg3 _) ?_
      refine p3 (by kernel_rfl) ?_
      have hc_59 : ¬ ((S.pop.2.1.job : Int) < l.job) := (by omega)
      refine sFix 66 (decide ((S.pop.2.1.job : Int) < l.job)) false (decide_eq_false hc_59) ?_
      refine p1 (by kernel_rfl) ?_
      refine guardYes rfl ⟨_, rfl, rfl, by kernel_rfl⟩ ?_
      refine sL hS_58 0 0 (.int .i64 S.pop.2.1.job) (Try.isAgg3 _) ?_
      refine p1 (by kernel_rfl) ?_
      refine guardYes rfl ⟨_, rfl, rfl, by kernel_rfl⟩ ?_
      refine sL hS_58 2 0 (.int .i64 l.job) (Try.isAgg3 _) ?_
      refine p2 (by kernel_rfl) ?_
      by_cases hc_60 : (S.pop.2.1.job : Int) = l.job
      · refine sFix 72 ((S.pop.2.1.job : Int) == l.job) true (beq_iff_eq.2 hc_60) ?_
        refine p1 (by kernel_rfl) ?_
        refine guardYes rfl ⟨_, rfl, rfl, by kernel_rfl⟩ ?_
        refine sL hS_58 0 1 (.int .i64 S.pop.2.1.task) (Try.isAgg3 _) ?_
        refine p1 (by kernel_rfl) ?_
        refine guardYes rfl ⟨_, rfl, rfl, by kernel_rfl⟩ ?_
        refine sL hS_58 2 1 (.int .i64 l.task) (Try.isAgg3 _) ?_
        refine p3 (by kernel_rfl) ?_
        refine nilO ?_
        refine thenK_n <| ?_
        have hc_61 : ¬ ((S.pop.2.1.task : Int) ≤ l.task) := (by omega)
        refine cF (decide ((S.pop.2.1.task : Int) ≤ l.task)) (decide_eq_false hc_61) ?_
        refine skipE ?_
        refine thenK_n <| ?_
        refine regionE ?_
        refine sLA hS_58 0 0 [.int .i64 S.pop.2.1.job, .int .i64 S.pop.2.1.task] (Try.isAgg33 _) (Try.sizeOf33 _) ?_
        refine sT hS_58 2 0 (.agg #[.int .i64 S.pop.2.1.job, .int .i64 S.pop.2.1.task]) [.int .i64 S.pop.2.1.job, .int .i64 S.pop.2.1.task] #[.int .i64 S.pop.2.1.job, .int .i64 S.pop.2.1.task] Try.sizeOf33 ?_
        intro w_62 hS_63
        change Sat _ _ ([(b_54, .cells #[.int .i64 S.pop.2.1.job, .int .i64 S.pop.2.1.task] 33 (0, 0))] :: fp_52 :: [(b_37, .cells #[.int .i64 S.pop.2.1.job, .int .i64 S.pop.2.1.task] 33 (0, 0))] :: H :: F) at hS_63
        refine nilO ?_
        refine blockK_n <| thenK_n <| ?_
        refine regionE ?_
        refine p1 (by kernel_rfl) ?_
        refine sAdd i 1 ?_
        refine p1 (by kernel_rfl) ?_
        refine nilO ?_
        refine thenK_n <| ?_
        have hS_64 := hS_63.pick 3 rfl
        have hS_65 := hS_64.pick 2 rfl
        have hS_66 := hS_65.pick 3 rfl
        change Sat _ _ ([(b_37, .cells #[.int .i64 S.pop.2.1.job, .int .i64 S.pop.2.1.task] 33 (0, 0))] :: fp_52 :: H :: [(b_54, .cells #[.int .i64 S.pop.2.1.job, .int .i64 S.pop.2.1.task] 33 (0, 0))] :: F) at hS_66
        have hS_67 := hS_66.dropAt 3 rfl
        change Sat _ _ ([(b_37, .cells #[.int .i64 S.pop.2.1.job, .int .i64 S.pop.2.1.task] 33 (0, 0))] :: fp_52 :: H :: F) at hS_67
        exact ⟨(i + 1, S.pop.1, S.pop.2.1, fp_52), by dsimp only; omega, ⟨by kernel_rfl, by kernel_rfl, by kernel_rfl, by kernel_rfl, trivial⟩, hS_67, hI_53, by omega, by omega, hinv⟩
      · refine sFix 72 ((S.pop.2.1.job : Int) == l.job) false (beq_eq_false_iff_ne.2 hc_60) ?_
        refine p7 (by kernel_rfl) ?_
        refine nilO ?_
        refine thenK_n <| ?_
        refine condE_false (by kernel_rfl) ?_
        refine skipE ?_
        refine thenK_n <| ?_
        refine regionE ?_
        refine sLA hS_58 0 0 [.int .i64 S.pop.2.1.job, .int .i64 S.pop.2.1.task] (Try.isAgg33 _) (Try.sizeOf33 _) ?_
        refine sT hS_58 2 0 (.agg #[.int .i64 S.pop.2.1.job, .int .i64 S.pop.2.1.task]) [.int .i64 S.pop.2.1.job, .int .i64 S.pop.2.1.task] #[.int .i64 S.pop.2.1.job, .int .i64 S.pop.2.1.task] Try.sizeOf33 ?_
        intro w_68 hS_69
        change Sat _ _ ([(b_54, .cells #[.int .i64 S.pop.2.1.job, .int .i64 S.pop.2.1.task] 33 (0, 0))] :: fp_52 :: [(b_37, .cells #[.int .i64 S.pop.2.1.job, .int .i64 S.pop.2.1.task] 33 (0, 0))] :: H :: F) at hS_69
        refine nilO ?_
        refine blockK_n <| thenK_n <| ?_
        refine regionE ?_
        refine p1 (by kernel_rfl) ?_
        refine sAdd i 1 ?_
        refine p1 (by kernel_rfl) ?_
        refine nilO ?_
        refine thenK_n <| ?_
        have hS_70 := hS_69.pick 3 rfl
        have hS_71 := hS_70.pick 2 rfl
        have hS_72 := hS_71.pick 3 rfl
        change Sat _ _ ([(b_37, .cells #[.int .i64 S.pop.2.1.job, .int .i64 S.pop.2.1.task] 33 (0, 0))] :: fp_52 :: H :: [(b_54, .cells #[.int .i64 S.pop.2.1.job, .int .i64 S.pop.2.1.task] 33 (0, 0))] :: F) at hS_72
        have hS_73 := hS_72.dropAt 3 rfl
        change Sat _ _ ([(b_37, .cells #[.int .i64 S.pop.2.1.job, .int .i64 S.pop.2.1.task] 33 (0, 0))] :: fp_52 :: H :: F) at hS_73
        exact ⟨(i + 1, S.pop.1, S.pop.2.1, fp_52), by dsimp only; omega, ⟨by kernel_rfl, by kernel_rfl, by kernel_rfl, by kernel_rfl, trivial⟩, hS_73, hI_53, by omega, by omega, hinv⟩
    · refine cF (decide ((i : Int) < (1 + r_13))) (decide_eq_false hc_48) ?_
      refine exitE (thenK_x <| thenK_x <| blockK_x <| ?_)
      refine thenK_n <| ?_
      refine seqE ?_
      refine regionE ?_
      refine p1 (by kernel_rfl) ?_
      have hS_74 := hS_47.pick 1 rfl
      change Sat _ _ (fi2 :: [(b_37, .cells #[.int .i64 l.job, .int .i64 l.task] 33 (0, 0))] :: H :: F) at hS_74
      obtain ⟨hok, hsame⟩ := pop_none (S := S) (by omega)
      refine sF #[.pointer (some ⟨p_8, 0, none⟩)] Try.call11 (Calls.mono (inj_pop W _ _ _ _ _ hI2 hS_74 (by omega)) ?_)
      rw [hok, hsame]
      rintro _ w_75 ⟨rfl, fp_77, hI_78, hS_76⟩
      refine ⟨_, rfl, ?_⟩
      change Sat _ _ (fp_77 :: [(b_37, .cells #[.int .i64 l.job, .int .i64 l.task] 33 (0, 0))] :: H :: F) at hS_76
      refine p3 (by kernel_rfl) ?_
      refine sAlloc hS_76 Try.zeroValue33 ?_
      intro b_79 w_80 hS_81
      change Sat _ _ ([(b_79, .cells #[.int .i64 0, .int .i64 0] 33 (0, 0))] :: fp_77 :: [(b_37, .cells #[.int .i64 l.job, .int .i64 l.task] 33 (0, 0))] :: H :: F) at hS_81
      refine sT hS_81 0 0 (.agg #[.int .i64 S.pop.2.1.job, .int .i64 S.pop.2.1.task]) [.int .i64 S.pop.2.1.job, .int .i64 S.pop.2.1.task] #[.int .i64 S.pop.2.1.job, .int .i64 S.pop.2.1.task] Try.sizeOf33 ?_
      intro w_82 hS_83
      change Sat _ _ ([(b_79, .cells #[.int .i64 S.pop.2.1.job, .int .i64 S.pop.2.1.task] 33 (0, 0))] :: fp_77 :: [(b_37, .cells #[.int .i64 l.job, .int .i64 l.task] 33 (0, 0))] :: H :: F) at hS_83
      refine p1 (by kernel_rfl) ?_
      refine nilO ?_
      refine thenK_n <| ?_
      refine seqE ?_
      refine regionE ?_
      refine p4 (by kernel_rfl) ?_
      refine guardYes rfl ⟨_, rfl, rfl, by kernel_rfl⟩ ?_
      have hS_84 := hS_83.pick 1 rfl
      change Sat _ _ (fp_77 :: [(b_79, .cells #[.int .i64 S.pop.2.1.job, .int .i64 S.pop.2.1.task] 33 (0, 0))] :: [(b_37, .cells #[.int .i64 l.job, .int .i64 l.task] 33 (0, 0))] :: H :: F) at hS_84
      have hz : S.len = 0 := by omega
      refine sF #[.pointer (some ⟨p_8, 0, none⟩)] Try.call12 (Calls.mono (inj_len W _ _ _ _ _ hI_78 hS_84 (by omega)) ?_)
      rw [hz]
      rintro _ _ ⟨rfl, rfl⟩
      refine ⟨_, rfl, ?_⟩
      refine p3 (by kernel_rfl) ?_
      refine guardYes rfl ⟨_, rfl, rfl, by kernel_rfl⟩ ?_
      refine sF #[] Try.call13 (Calls.mono (sane_ok W _ _ hS_84) ?_)
      rintro _ w_85 ⟨rfl, hS_86⟩
      refine ⟨_, rfl, ?_⟩
      refine p2 (by kernel_rfl) ?_
      refine nilO ?_
      refine thenK_n <| ?_
      refine retE ?_
      refine retN (vs := [.bool true]) rfl (.cons (.tmp _ _ (by kernel_rfl)) .nil) <| ?_
      have hS_87 := hS_86.pick 3 rfl
      change Sat _ _ (H :: fp_77 :: [(b_79, .cells #[.int .i64 S.pop.2.1.job, .int .i64 S.pop.2.1.task] 33 (0, 0))] :: [(b_37, .cells #[.int .i64 l.job, .int .i64 l.task] 33 (0, 0))] :: F) at hS_87
      have hS_88 := hS_87.dropAt 1 rfl
      have hS_89 := hS_88.dropAt 1 rfl
      have hS_90 := hS_89.dropAt 1 rfl
      exact ⟨rfl, hS_90⟩
end Go.Proofs.Ytmbiiginpomjnaa
