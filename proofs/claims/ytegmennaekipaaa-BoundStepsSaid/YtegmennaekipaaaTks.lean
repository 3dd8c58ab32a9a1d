import Derived.Test.YtegmennaekipaaaBd1
namespace Go.Proofs.Ytegmennaekipaaa
open Go Go.E
set_option linter.unusedVariables false
set_option linter.unusedSimpArgs false
set_option linter.unnecessarySimpa false
set_option maxRecDepth 100000
set_option maxHeartbeats 2000000
variable {W w : World} {H : Chunk} {F : List Chunk}

theorem asc_grow {i j a : Int} (hij : i ≤ j) : ∀ {l : List Int} {a : Int}, ascFrom i a l = true → ascFrom j a l = true
  | [], _, _ => rfl
  | x :: l, a, h => by
    simp only [ascFrom, Bool.and_eq_true, decide_eq_true_eq] at h ⊢
    exact ⟨⟨h.1.1, by omega⟩, asc_grow (a := a) hij h.2⟩
theorem asc_lt {i : Int} : ∀ {l : List Int} {a : Int}, a < i → ascFrom i a l = true → lastD a l < i
  | [], _, h0, _ => h0
  | y :: l, _, _, h => by
    simp only [ascFrom, Bool.and_eq_true, decide_eq_true_eq] at h
    exact asc_lt (l := l) h.1.2 h.2
theorem asc_add {j : Nat} {l : List Int} (h : ascFrom j (-1) l = true) : ascFrom ((j + 1 : Nat) : Int) (-1) (l ++ [((j : Nat) : Int)]) = true := by
  have h1 := asc_lt (by omega) h
  rw [asc_snoc, asc_grow (j := ((j + 1 : Nat) : Int)) (a := 0) (by omega) h]
  simp; omega
theorem taskOK_of {i : Int} {t : Task} (h : (1 ≤ t.rows ∧ t.rows ≤ 128) ∧ 0 ≤ t.scratch) (h2 : ascFrom i (-1) t.deps.l = true) : taskOK i t = true := by unfold taskOK; rw [decide_eq_true h, h2]; rfl
theorem tasksOK_snoc {l : List Task} {i : Nat} {t : Task} (h : tasksOK 0 l = true) (hl : l.length = i) (ht : taskOK i t = true) : tasksOK 0 (l ++ [t]) = true := by
  rw [tasksOK_app, h, hl]; simp [tasksOK, ht]
theorem tg_tasks {p : Nat} {a : Option Addr} {n k : Nat} {i : Int} {xs : List Int} (hR : RdT encI 1 [H] a n k xs) (hi : 0 ≤ i ∧ i ≤ n) (hS : Sat W w ([(p, .cells #[.slice a n k, .int .i64 i] 71 (0, 0))] :: H :: F)) (m0 : Int) (hm : 1 ≤ m0 ∧ m0 ≤ 64) :
    Calls Try.prog 12 #[.pointer (some ⟨p, 0, none⟩), .int .i64 m0] w fun e w' => ∃ (az : Option Addr) (nz : Nat) (kz : Nat) (zs : List Task) (C : Chunk) (G : Chunk), e = .returned (.slice az nz kz) ∧ (OwnT encTask 31 9 az nz kz zs C) ∧ (∀ z ∈ zs, Task.Ok [G] z) ∧ (1 ≤ zs.length ∧ zs.length ≤ m0.toNat ∧ tasksOK 0 zs = true) ∧ (∀ z ∈ zs, z.scratch ≤ 512) ∧ ∃ i' : Int, (0 ≤ i' ∧ i' ≤ n) ∧ Sat W w' ([(p, .cells #[.slice a n k, .int .i64 i'] 71 (0, 0))] :: C :: G :: H :: F) := by
  have hle := hR.le
  refine callsA 45 Try.func12 rfl ?_
  refine seqE <| regionE <| pu1 <| nilO <| thenK_n <| seqE <| regionE <| pu1 <| nilO <| thenK_n <| seqE <| regionE <| pu2 ?_
  refine cX Try.call35 (tape_next (RdT.flat (hR.up 0 (by rfl))) (by omega) (Sat.flat1 hS) m0 (by omega)) ?_
  rintro _ w_1 ⟨r_3, rfl, hr_4, i_5, hi_6, hS_2⟩
  have hS_7 := Sat.unflat1 hS_2
  refine sAdd 1 r_3 ?_
  refine pu1 <| nilO <| thenK_n <| seqE <| seqE <| regionE <| pu1 <| nilO <| thenK_n <| blockE ?_
  have hS_8 := Sat.nilc hS_7
  have hO_9 := OwnT.nil (enc := encTask) (E := 31) (sz := 9) (fun _ => rfl)
  have hS_10 := Sat.nilc hS_8
  refine loopA (γ := Nat × Int × (List Task) × (Option Addr) × Nat × Nat × Chunk × Chunk) (fun ⟨i, iti, zs, azs, nzs, kzs, czs, Gzs⟩ => [(0, .pointer (some ⟨p, 0, none⟩)), (6, .int .i64 (1 + r_3)), (7, .int .i64 ((i : Nat) : Int)), (5, .slice azs nzs kzs)]) (fun ⟨i, iti, zs, azs, nzs, kzs, czs, Gzs⟩ w => Sat W w (Gzs :: czs :: [(p, .cells #[.slice a n k, .int .i64 iti] 71 (0, 0))] :: H :: F) ∧ i ≤ ((1 + r_3)).toNat ∧ (tasksOK 0 zs = true) ∧ (zs.length = i) ∧ ((∀ z ∈ zs, z.scratch ≤ 512)) ∧ (0 ≤ iti ∧ iti ≤ n) ∧ OwnT encTask 31 9 azs nzs kzs zs czs ∧ (∀ z ∈ zs, Task.Ok [Gzs] z)) (fun ⟨i, iti, zs, azs, nzs, kzs, czs, Gzs⟩ => (((1 + r_3)).toNat) - i) (0, i_5, [], none, 0, 0, [], []) ⟨hS_10, by omega, rfl, by rfl, (by intro z hz; cases hz), by omega, hO_9, (by intro z hz; cases hz)⟩ ?_
  rintro ⟨i, iti, zs, azs, nzs, kzs, czs, Gzs⟩ ρ w_11 ⟨hS_12, hi, hT, hzl, hSc, hiti, hOzs, hDzs⟩
  have hn_zs := hOzs.len; have hl_zs := hOzs.le
  refine seqE <| seqE <| regionE <| pu3 <| nilO <| thenK_n <| ?_
  refine cD (((i : Nat) : Int) < (1 + r_3)) (fun hc_13 => ?_) (fun hc_13 => ?_)
  rotate_left
  · refine exitE <| thenK_x <| thenK_x <| blockK_x <| thenK_n <| seqE <| regionE <| pu2 <| nilO <| thenK_n <| retE <| retT [.slice azs nzs kzs] <| ?_
    have hS_78 := ((hS_12.pick 1 rfl).pick 2 rfl)
    exact ⟨_, _, _, zs, czs, Gzs, rfl, hOzs, hDzs, ⟨by omega, by omega, hT⟩, hSc, _, by omega, hS_78⟩
  refine skipE <| thenK_n <| seqE <| blockE <| seqE <| regionE <| pu1 ?_
  have hS_14 := (hS_12.pick 2 rfl)
  refine cX Try.call35 (tape_next (RdT.flat (hR.up 2 (by rfl))) (by omega) (Sat.flat1 hS_14) 3 (by omega)) ?_
  rintro _ w_15 ⟨r_17, rfl, hr_18, i_19, hi_20, hS_16⟩
  have hS_21 := Sat.unflat1 hS_16
  refine sAdd 1 r_17 ?_
  refine pu1 ?_
  refine sBS hS_21 #[.int .i64 16, .int .i64 0, .int .i64 48, .int .i64 512] Try.runUnderlying22 Try.sizeOf3 Try.zeroValue3 ?_
  intro b_22 w_23 hS_24
  have hS_25 := (hS_24.pick 1 rfl)
  refine cX Try.call39 (tape_pick (RdT.flat (hR.up 3 (by rfl))) (by omega) (Sat.flat1 hS_25) (RdT.flat (RdT.blk (enc := encI) (sz := 1) (xs := [16, 0, 48, 512]) (fun _ => (by rfl)) 4 0 rfl rfl rfl (by omega))) (by omega) (by omega)) ?_
  rintro _ w_26 ⟨x_28, rfl, hx_29, i_30, hi_31, hS_27⟩
  have hS_32 := Sat.unflat1 hS_27
  have hx_33 : (x_28 : Int) = 16 ∨ (x_28 : Int) = 0 ∨ (x_28 : Int) = 48 ∨ (x_28 : Int) = 512 := by simpa using hx_29
  refine pu1 ?_
  refine sAlloc hS_32 Try.zeroValue31 ?_
  intro b_34 w_35 hS_36
  refine sT hS_36 0 0 (.agg #[.int .i64 0, .int .i64 0, .int .i64 0, .int .i64 0, .int .i64 0, .int .i64 0, .slice none 0 0, .int .i64 (1 + r_17), .int .i64 x_28]) [.int .i64 0, .int .i64 0, .int .i64 0, .int .i64 0, .int .i64 0, .int .i64 0, .slice none 0 0, .int .i64 (1 + r_17), .int .i64 x_28] #[.int .i64 0, .int .i64 0, .int .i64 0, .int .i64 0, .int .i64 0, .int .i64 0, .slice none 0 0, .int .i64 (1 + r_17), .int .i64 x_28] Try.sizeOf31 ?_
  intro w_37 hS_38
  refine nilO <| thenK_n <| seqE <| seqE <| regionE <| pu1 <| nilO <| thenK_n <| blockE ?_
  have hS_39 := Sat.nilc hS_38
  have hO_40 := OwnT.nil (enc := encI) (E := 3) (sz := 1) (fun _ => rfl)
  refine loopA (γ := Nat × Int × (List Int) × (Option Addr) × Nat × Nat × Chunk) (fun ⟨j, itj, ds, ads, nds, kds, cds⟩ => [(0, .pointer (some ⟨p, 0, none⟩)), (6, .int .i64 (1 + r_3)), (7, .int .i64 ((i : Nat) : Int)), (5, .slice azs nzs kzs), (8, .pointer (some ⟨b_34, 0, none⟩)), (9, .int .i64 ((j : Nat) : Int))]) (fun ⟨j, itj, ds, ads, nds, kds, cds⟩ w => Sat W w (cds :: [(b_34, .cells #[.int .i64 0, .int .i64 0, .int .i64 0, .int .i64 0, .int .i64 0, .int .i64 0, .slice ads nds kds, .int .i64 (1 + r_17), .int .i64 x_28] 31 (0, 0))] :: [(p, .cells #[.slice a n k, .int .i64 itj] 71 (0, 0))] :: [(b_22, .cells #[.int .i64 16, .int .i64 0, .int .i64 48, .int .i64 512] 3 (0, 0))] :: Gzs :: czs :: H :: F) ∧ j ≤ i ∧ (ascFrom j (-1) ds = true) ∧ (ds.length ≤ j) ∧ (0 ≤ itj ∧ itj ≤ n) ∧ OwnT encI 3 1 ads nds kds ds cds) (fun ⟨j, itj, ds, ads, nds, kds, cds⟩ => i - j) (0, i_30, [], none, 0, 0, []) ⟨hS_39, by omega, rfl, by simp, by omega, hO_40⟩ ?_
  rintro ⟨j, itj, ds, ads, nds, kds, cds⟩ ρ w_41 ⟨hS_42, hj, hA, hdl, hitj, hOds⟩
  have hn_ds := hOds.len; have hl_ds := hOds.le
  refine seqE <| seqE <| regionE <| pu3 <| nilO <| thenK_n <| ?_
  refine cD (((j : Nat) : Int) < ((i : Nat) : Int)) (fun hc_43 => ?_) (fun hc_43 => ?_)
  · refine skipE <| thenK_n <| seqE <| blockE <| seqE <| regionE <| pu1 ?_
    have hS_44 := (hS_42.pick 2 rfl)
    refine cX Try.call35 (tape_next (RdT.flat (hR.up 5 (by rfl))) (by omega) (Sat.flat1 hS_44) 3 (by omega)) ?_
    rintro _ w_45 ⟨r_47, rfl, hr_48, i_49, hi_50, hS_46⟩
    have hS_51 := Sat.unflat1 hS_46
    refine pu1 <| nilO <| thenK_n <| ?_
    refine cE r_47 0 (fun hc_52 => ?_) (fun hc_52 => ?_)
    rotate_left
    · refine skipE <| blockK_n <| thenK_n <| regionE <| pu1 ?_
      refine sAdd ((j : Nat) : Int) 1 ?_
      refine pu1 <| nilO <| thenK_n <| ?_
      have hS_65 := ((hS_51.pick 2 rfl).pick 2 rfl)
      exact ⟨(j + 1, i_49, ds, ads, nds, kds, cds), by first | omega | (dsimp only; omega), alA, hS_65, by omega, (asc_grow (a := 0) (by omega) hA), by first | omega | (simp; omega), by omega, hOds⟩
    refine regionE <| pu1 ?_
    refine sL hS_51 2 6 (.slice ads nds kds) (Try.isAgg22 _) ?_
    refine pu1 ?_
    refine sBS hS_51 #[.int .i64 ((j : Nat) : Int)] Try.runUnderlying22 Try.sizeOf3 Try.zeroValue3 ?_
    intro b_53 w_54 hS_55
    refine sApp (nb := 8) hS_55 hOds 2 (RdT.blk (enc := encI) (sz := 1) (xs := [((j : Nat) : Int)]) (fun _ => rfl) 1 0 rfl rfl rfl (by omega)) Try.underlying22 (i := Try.t3) (by kernel_rfl) (fun _ => rfl) ?_
    intro a_56 cap_57 c_58 w_59 hO_60 hS_61
    refine pu1 ?_
    refine tW hS_61 3 6 (.slice a_56 (nds + 1) cap_57) Try.sizeOf22 ?_
    intro w_62 hS_63
    refine nilO <| blockK_n <| thenK_n <| regionE <| pu1 ?_
    refine sAdd ((j : Nat) : Int) 1 ?_
    refine pu1 <| nilO <| thenK_n <| ?_
    have hS_64 := (((hS_63.pick 3 rfl).pick 3 rfl).dropAt 2 rfl)
    exact ⟨(j + 1, i_49, (ds ++ [((j : Nat) : Int)]), a_56, (nds + 1), cap_57, c_58), by first | omega | (dsimp only; omega), alA, hS_64, by omega, (asc_add hA), by first | omega | (simp; omega), by omega, hO_60⟩
  refine exitE <| thenK_x <| thenK_x <| blockK_x <| thenK_n <| regionE <| pu1 ?_
  refine lA hS_42 1 0 9 (Try.isAgg31 _) (Try.sizeOf31 _) ?_
  refine sBS hS_42 #[.int .i64 0, .int .i64 0, .int .i64 0, .int .i64 0, .int .i64 0, .int .i64 0, .slice ads nds kds, .int .i64 (1 + r_17), .int .i64 x_28] Try.runUnderlying23 Try.sizeOf31 Try.zeroValue31 ?_
  intro b_66 w_67 hS_68
  refine sApp (nb := 88) hS_68 hOzs 6 (RdT.blk (enc := encTask) (sz := 9) (xs := [(⟨0, 0, 0, 0, 0, 0, ⟨ads, nds, kds, ds⟩, (1 + r_17), x_28⟩ : Task)]) (fun _ => rfl) 1 0 rfl rfl rfl (by omega)) Try.underlying23 (i := Try.t31) (by kernel_rfl) (fun _ => rfl) ?_
  intro a_69 cap_70 c_71 w_72 hO_73 hS_74
  refine pu1 <| nilO <| blockK_n <| thenK_n <| regionE <| pu1 ?_
  refine sAdd ((i : Nat) : Int) 1 ?_
  refine pu1 <| nilO <| thenK_n <| ?_
  have hS_75 : Sat W _ (cds :: Gzs :: c_71 :: [(p, .cells #[.slice a n k, .int .i64 itj] 71 (0, 0))] :: H :: F) := ((((((hS_74.pick 6 rfl).pick 6 rfl).pick 3 rfl).dropAt 3 rfl).dropAt 3 rfl).dropAt 4 rfl)
  have hS_77 := (Sat.perm (cs' := (cds ++ Gzs) :: (c_71 :: [(p, .cells #[.slice a n k, .int .i64 itj] 71 (0, 0))] :: H :: F)) hS_75 (by simp))
  exact ⟨(i + 1, itj, (zs ++ [(⟨0, 0, 0, 0, 0, 0, ⟨ads, nds, kds, ds⟩, (1 + r_17), x_28⟩ : Task)]), a_69, (nzs + 1), cap_70, c_71, (cds ++ Gzs)), by first | omega | (dsimp only; omega), alA, hS_77, by omega, (tasksOK_snoc hT hzl (taskOK_of (by dsimp only; omega) (by dsimp only; rw [show i = j by omega]; exact hA))), by simp; omega, (by intro z hz; rcases List.mem_append.1 hz with h | h; exact hSc z h; rw [List.mem_singleton.1 h]; dsimp only; omega), by omega, hO_73, (by
      intro z hz
      rcases List.mem_append.1 hz with h | h
      · exact (hDzs z h).of_mem (fun p hp => by simp at hp ⊢; simp [hp])
      · simp only [List.mem_singleton] at h; subst h; exact ⟨(hOds.rdAt (cs := [cds]) 0 rfl).of_mem (fun p hp => by simp at hp ⊢; simp [hp])⟩)⟩
end Go.Proofs.Ytegmennaekipaaa
