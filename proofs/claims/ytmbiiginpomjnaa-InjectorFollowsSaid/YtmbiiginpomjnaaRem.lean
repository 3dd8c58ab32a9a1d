import Derived.Test.YtmbiiginpomjnaaSlc
namespace Go.Proofs.Ytmbiiginpomjnaa
open Go Go.E
set_option linter.unusedVariables false
set_option linter.unusedSimpArgs false
set_option linter.unnecessarySimpa false

def without (j : Int) (l : List Ref) : List Ref := l.filter fun r => !(r.job == j)
namespace Inj
def rem (S : Inj) (j : Int) : Inj := ⟨S.cap, without j S.q0, without j S.q1, without j S.q2, without j S.q3⟩
end Inj
theorem without_len (j : Int) (l : List Ref) : (without j l).length ≤ l.length := List.length_filter_le ..
theorem take_snoc {l : List Ref} {k : Nat} {x : Ref} (h : l[k]? = some x) : l.take (k + 1) = l.take k ++ [x] := by
  rw [List.take_add_one, h]; rfl
theorem without_keep {l : List Ref} {k : Nat} {x : Ref} {j : Int} (h : l[k]? = some x) (hx : ¬ x.job = j) : without j (l.take (k + 1)) = without j (l.take k) ++ [x] := by
  rw [take_snoc h]; simp [without, List.filter_append, hx]
theorem without_drop {l : List Ref} {k : Nat} {x : Ref} {j : Int} (h : l[k]? = some x) (hx : x.job = j) : without j (l.take (k + 1)) = without j (l.take k) := by
  rw [take_snoc h]; simp [without, List.filter_append, hx]
theorem without_none {l : List Ref} {j : Int} (h : ∀ (k : Nat) (x : Ref), l[k]? = some x → ¬ x.job = j) : without j l = l := by
  refine List.filter_eq_self.2 fun x hx => ?_
  obtain ⟨k, hk⟩ := List.getElem?_of_mem hx
  simpa using h k x hk
/-- One more round of DeleteFunc, the task kept. -/
theorem del_keep {xs ys : List Ref} {i k : Nat} {x : Ref} {j : Int} (hl : ys.length = xs.length) (hi : i < k) (h1 : ys.take i = without j (xs.take k)) (h2 : ys.drop k = xs.drop k) (hx : ys[k]? = some x) (hj : ¬ x.job = j) :
    (ys.set i x).length = xs.length ∧ (ys.set i x).take (i + 1) = without j (xs.take (k + 1)) ∧ (ys.set i x).drop (k + 1) = xs.drop (k + 1) := by
  have hk : k < ys.length := (List.getElem?_eq_some_iff.1 hx).1
  have hxx : xs[k]? = some x := by
    have e1 : (ys.drop k)[0]? = ys[k]? := by simp
    have e2 : (xs.drop k)[0]? = xs[k]? := by simp
    rw [← e2, ← h2, e1, hx]
  refine ⟨by simp [hl], ?_, ?_⟩
  · rw [without_keep hxx hj, ← h1]
    rw [take_snoc (l := ys.set i x) (k := i) (x := x) (by rw [List.getElem?_set_self (by omega)])]
    congr 1
    rw [List.take_set_of_le (by omega)]
  · rw [List.drop_set_of_lt (by omega)]
    have e1 : ys.drop (k + 1) = (ys.drop k).drop 1 := by simp
    have e2 : xs.drop (k + 1) = (xs.drop k).drop 1 := by simp
    rw [e1, e2, h2]
theorem del_drop {xs ys : List Ref} {i k : Nat} {x : Ref} {j : Int} (h1 : ys.take i = without j (xs.take k)) (h2 : ys.drop k = xs.drop k) (hx : ys[k]? = some x) (hj : x.job = j) :
    ys.take i = without j (xs.take (k + 1)) ∧ ys.drop (k + 1) = xs.drop (k + 1) := by
  have hxx : xs[k]? = some x := by
    have e1 : (ys.drop k)[0]? = ys[k]? := by simp
    have e2 : (xs.drop k)[0]? = xs[k]? := by simp
    rw [← e2, ← h2, e1, hx]
  refine ⟨by rw [without_drop hxx hj, h1], ?_⟩
  have e1 : ys.drop (k + 1) = (ys.drop k).drop 1 := by simp
  have e2 : xs.drop (k + 1) = (xs.drop k).drop 1 := by simp
  rw [e1, e2, h2]
/-- What IndexFunc answers. -/
def IdxP (xs : List Ref) (j : Int) (n : Nat) (r : Int) : Prop := ((r = -1 ∧ ∀ (k : Nat) (x : Ref), xs[k]? = some x → ¬ x.job = j) ∨ ∃ i : Nat, r = (i : Int) ∧ i < n ∧ (∃ x : Ref, xs[i]? = some x ∧ x.job = j) ∧ ∀ (k : Nat) (x : Ref), k < i → xs[k]? = some x → ¬ x.job = j)
theorem idx_toNat (k : Nat) : ((k : Nat) : Int).toNat = k := rfl
theorem eqvn33 (w : World) (a0 a1 b0 b1 : Int) : ∀ x y, ((do eqGuard .neq 33 x y (.agg #[.int .i64 a0, .int .i64 a1]) (.agg #[.int .i64 b0, .int .i64 b1]); binOp .neq 33 (.agg #[.int .i64 a0, .int .i64 a1]) (.agg #[.int .i64 b0, .int .i64 b1])) : Sem Value).run Try.prog w = .ok (.bool (!((a0 == b0) && (a1 == b1)))) w := by
  intro x y
  simp [go_sem, run_eqGuard_agg, run_neq_struct, run_equalIn_agg]
  by_cases h0 : a0 = b0 <;> by_cases h1 : a1 = b1 <;> simp [*]
theorem del_ok (W w : World) (bj : Nat) (F : List Chunk) (r : Ref) (j : Int) (hS : Sat W w ([(bj, Obj.cells #[.int .i64 j] 3 (0, 0))] :: F)) :
    Calls Try.prog 26 #[.agg #[.int .i64 r.job, .int .i64 r.task], .pointer (some ⟨bj, 0, none⟩)] w fun e w' => e = .returned (.bool (r.job == j)) ∧ Sat W w' ([(bj, Obj.cells #[.int .i64 j] 3 (0, 0))] :: F) := by
  refine callsE (n := 8) Try.func26 rfl rfl (Nat.le_of_ble_eq_true rfl) ?_
  refine seqE ?_
  refine regionE ?_
  refine sBox hS (.agg #[.int .i64 r.job, .int .i64 r.task]) #[.int .i64 r.job, .int .i64 r.task] ?_
  intro b_1 w_2 hS_3
  refine p1 (by kernel_rfl) ?_
  refine nilO ?_
  refine thenK_n <| ?_
  refine seqE ?_
  refine regionE ?_
  refine p1 (by kernel_rfl) ?_
  refine sL hS_3 0 0 (.int .i64 r.job) (Try.isAgg3 _) ?_
  refine sL hS_3 1 0 (.int .i64 j) (Try.isAgg3 _) ?_
  refine p2 (by kernel_rfl) ?_
  refine nilO ?_
  refine thenK_n <| ?_
  refine retE ?_
  refine retN (vs := [.bool ((r.job : Int) == j)]) rfl (.cons (.tmp _ _ (by kernel_rfl)) .nil) <| ?_
  have hS_4 := hS_3.pick 1 rfl
  change Sat _ _ ([(bj, .cells #[.int .i64 j] 3 (0, 0))] :: [(b_1, .cells #[.int .i64 r.job, .int .i64 r.task] 33 (0, 0))] :: F) at hS_4
  have hS_5 := hS_4.dropAt 1 rfl
  exact ⟨rfl, hS_5⟩
theorem index_ok (W w : World) (bj : Nat) (G : Chunk) (F : List Chunk) (a : Option Addr) (n cap : Nat) (xs : List Ref) (j : Int) (hR : RdT encR 2 [G] a n cap xs) (hS : Sat W w ([(bj, Obj.cells #[.int .i64 j] 3 (0, 0))] :: G :: F)) :
    Calls Try.prog 29 #[.slice a n cap, .func (.func 26) #[] #[.pointer (some ⟨bj, 0, none⟩)]] w fun e w' => ∃ r : Int, e = .returned (.int .i64 r) ∧ (-1 ≤ r ∧ r < n) ∧ IdxP xs j n r ∧ Sat W w' ([(bj, Obj.cells #[.int .i64 j] 3 (0, 0))] :: G :: F) := by
  have hl := hR.len; have hle := hR.le
  refine callsE (n := 19) Try.func29 rfl rfl (Nat.le_of_ble_eq_true rfl) ?_
  refine seqE ?_
  refine regionE ?_
  refine p1 (by kernel_rfl) ?_
  refine nilO ?_
  refine thenK_n <| ?_
  refine seqE ?_
  refine seqE ?_
  refine regionE ?_
  refine p3 (by kernel_rfl) ?_
  refine nilO ?_
  refine thenK_n <| ?_
  refine blockE ?_
  refine loopE (γ := Nat) (fun i ρ w => AllAt ρ [(0, .slice a n cap), (1, .func (.func 26) #[] #[.pointer (some ⟨bj, 0, none⟩)]), (7, .int .i64 ((n : Nat) : Int)), (8, .int .i64 ((i : Nat) : Int))] ∧ Sat W w ([(bj, .cells #[.int .i64 j] 3 (0, 0))] :: G :: F) ∧ i ≤ n ∧ (∀ (k : Nat) (x : Ref), k < i → xs[k]? = some x → ¬ x.job = j)) (fun i => n - i) 0 ⟨⟨by kernel_rfl, by kernel_rfl, by kernel_rfl, by kernel_rfl, trivial⟩, hS, by omega, fun k x hk => absurd hk (by omega)⟩ ?_
  skip
  rintro i ρ w_1 ⟨hA, hS_2, hi, hnone⟩
  refine cAnchor hA (fun ρ => ?_)
  clear hA
  refine seqE ?_
  refine regionE ?_
  refine p1 (by kernel_rfl) ?_
  refine nilO ?_
  refine thenK_n <| ?_
  refine seqE ?_
  by_cases hc_3 : (((i : Nat) : Int) : Int) < ((n : Nat) : Int)
  · refine cT (decide ((((i : Nat) : Int) : Int) < ((n : Nat) : Int))) (decide_eq_true hc_3) ?_
    refine skipE ?_
    refine thenK_n <| ?_
    refine seqE ?_
    refine blockE ?_
    refine seqE ?_
    refine regionE ?_
    refine p2 (by kernel_rfl) ?_
    refine nilO ?_
    refine thenK_n <| ?_
    refine seqE ?_
    refine regionE ?_
    refine p3 (by kernel_rfl) ?_
    refine sIdx hR ((i : Nat) : Int) Try.runUnderlying44 Try.sizeOf33 ?_
    intro x_4 b_5 o_6 hx_7 hp_8
    rw [Int.toNat_natCast] at hx_7
    refine sLpA hS_2 (hp_8.up 1 rfl) 0 [.int .i64 x_4.job, .int .i64 x_4.task] (Try.isAgg33 _) (Try.sizeOf33 _) ?_
    change Sat _ _ ([(bj, .cells #[.int .i64 j] 3 (0, 0))] :: G :: F) at hS_2
    refine sC #[.agg #[.int .i64 x_4.job, .int .i64 x_4.task], .pointer (some ⟨bj, 0, none⟩)] #[.pointer (some ⟨bj, 0, none⟩)] Try.call26 (Calls.mono (del_ok W _ _ _ ⟨x_4.job, x_4.task⟩ _ hS_2) ?_)
    rintro _ w_9 ⟨rfl, hS_10⟩
    refine ⟨_, rfl, ?_⟩
    refine nilO ?_
    refine thenK_n <| ?_
    by_cases hc_11 : (x_4.job : Int) = j
    · refine cT ((x_4.job : Int) == j) (beq_iff_eq.2 hc_11) ?_
      refine seqE ?_
      refine regionE ?_
      refine p2 (by kernel_rfl) ?_
      refine nilO ?_
      refine thenK_n <| ?_
      refine retE (blockK_r <| thenK_r <| thenK_r <| blockK_r <| thenK_r <| ?_)
      refine retN (vs := [.int .i64 ((i : Nat) : Int)]) rfl (.cons (.tmp _ _ (by kernel_rfl)) .nil) <| ?_
      have hS_12 := hS_10.pick 1 rfl
      have hS_13 := hS_12.pick 1 rfl
      change Sat _ _ ([(bj, .cells #[.int .i64 j] 3 (0, 0))] :: G :: F) at hS_13
      change Sat _ _ ([(bj, .cells #[.int .i64 j] 3 (0, 0))] :: G :: F) at hS_13
      exact ⟨_, rfl, by omega, .inr ⟨i, rfl, by omega, ⟨x_4, hx_7, hc_11⟩, fun k y hk => hnone k y hk⟩, hS_13⟩
    · refine cF ((x_4.job : Int) == j) (beq_eq_false_iff_ne.2 hc_11) ?_
      refine skipE ?_
      refine blockK_n <| thenK_n <| ?_
      refine regionE ?_
      refine sAdd ((i : Nat) : Int) 1 ?_
      refine p1 (by kernel_rfl) ?_
      refine nilO ?_
      refine thenK_n <| ?_
      have hS_14 := hS_10.pick 1 rfl
      have hS_15 := hS_14.pick 1 rfl
      change Sat _ _ ([(bj, .cells #[.int .i64 j] 3 (0, 0))] :: G :: F) at hS_15
      change Sat _ _ ([(bj, .cells #[.int .i64 j] 3 (0, 0))] :: G :: F) at hS_15
      have hnj : ¬ x_4.job = j := hc_11
      exact ⟨i + 1, by first | omega | (dsimp only; omega), ⟨by kernel_rfl, by kernel_rfl, by kernel_rfl, by kernel_rfl, trivial⟩, hS_15, by omega, fun k y hk hy => by by_cases hki : k = i; exact (by subst hki; rw [hx_7] at hy; cases hy; exact hnj); exact hnone k y (by omega) hy⟩
  · refine cF (decide ((((i : Nat) : Int) : Int) < ((n : Nat) : Int))) (decide_eq_false hc_3) ?_
    refine exitE (thenK_x <| thenK_x <| blockK_x <| ?_)
    refine thenK_n <| ?_
    refine seqE ?_
    refine regionE ?_
    refine p1 (by kernel_rfl) ?_
    refine nilO ?_
    refine thenK_n <| ?_
    refine retE ?_
    refine retN (vs := [.int .i64 (-1)]) rfl (.cons (.tmp _ _ (by kernel_rfl)) .nil) <| ?_
    have hS_16 := hS_2.pick 1 rfl
    have hS_17 := hS_16.pick 1 rfl
    change Sat _ _ ([(bj, .cells #[.int .i64 j] 3 (0, 0))] :: G :: F) at hS_17
    change Sat _ _ ([(bj, .cells #[.int .i64 j] 3 (0, 0))] :: G :: F) at hS_17
    exact ⟨-1, rfl, by omega, .inl ⟨rfl, fun k x hk => hnone k x (by have := (List.getElem?_eq_some_iff.1 hk).1; omega) hk⟩, hS_17⟩
theorem delete_ok (W w : World) (bj : Nat) (c : Chunk) (F : List Chunk) (a : Option Addr) (n cap : Nat) (xs : List Ref) (j : Int) (hO : OwnT encR 33 2 a n cap xs c) (hS : Sat W w ([(bj, Obj.cells #[.int .i64 j] 3 (0, 0))] :: c :: F)) :
    Calls Try.prog 25 #[.slice a n cap, .func (.func 26) #[] #[.pointer (some ⟨bj, 0, none⟩)]] w fun e w' => ∃ (a' : Option Addr) (cap' : Nat) (c' : Chunk), e = .returned (.slice a' (without j xs).length cap') ∧ OwnT encR 33 2 a' (without j xs).length cap' (without j xs) c' ∧ Sat W w' ([(bj, Obj.cells #[.int .i64 j] 3 (0, 0))] :: c' :: F) := by
  have hl := hO.len; have hle := hO.le
  refine callsE (n := 42) Try.func25 rfl rfl (Nat.le_of_ble_eq_true rfl) ?_
  refine seqE ?_
  refine regionE ?_
  refine p1 (by kernel_rfl) ?_
  refine nilO ?_
  refine thenK_n <| ?_
  refine seqE ?_
  refine regionE ?_
  refine p2 (by kernel_rfl) ?_
  have hS_6 := hS.pick 1 rfl
  have hS_7 := hS_6.pick 1 rfl
  change Sat _ _ ([(bj, .cells #[.int .i64 j] 3 (0, 0))] :: c :: F) at hS_7
  refine sF #[.slice a n cap, .func (.func 26) #[] #[.pointer (some ⟨bj, 0, none⟩)]] Try.call29 (Calls.mono (index_ok W _ _ _ _ _ _ _ _ _ (hO.rdAt (cs := [c]) 0 rfl) hS_7) ?_)
  rintro _ w_1 ⟨r_3, rfl, hb_5, hr_4, hS_2⟩
  refine ⟨_, rfl, ?_⟩
  refine p1 (by kernel_rfl) ?_
  refine nilO ?_
  refine thenK_n <| ?_
  refine seqE ?_
  refine seqE ?_
  refine regionE ?_
  refine p2 (by kernel_rfl) ?_
  refine nilO ?_
  refine thenK_n <| ?_
  by_cases hc_8 : (r_3 : Int) = (-1)
  · refine cT ((r_3 : Int) == (-1)) (beq_iff_eq.2 hc_8) ?_
    refine seqE ?_
    refine regionE ?_
    refine p2 (by kernel_rfl) ?_
    refine nilO ?_
    refine thenK_n <| ?_
    refine retE (thenK_r <| ?_)
    refine retN (vs := [.slice a n cap]) rfl (.cons (.tmp _ _ (by kernel_rfl)) .nil) <| ?_
    have hS_9 := hS_2.pick 1 rfl
    have hS_10 := hS_9.pick 1 rfl
    change Sat _ _ ([(bj, .cells #[.int .i64 j] 3 (0, 0))] :: c :: F) at hS_10
    change Sat _ _ ([(bj, .cells #[.int .i64 j] 3 (0, 0))] :: c :: F) at hS_10
    have hw : without j xs = xs := without_none (by rcases hr_4 with h | ⟨i, h, _⟩; exact h.2; omega)
    rw [hw, hl]
    exact ⟨_, _, _, rfl, hO, hS_10⟩
  · refine cF ((r_3 : Int) == (-1)) (beq_eq_false_iff_ne.2 hc_8) ?_
    refine skipE ?_
    refine thenK_n <| ?_
    refine seqE ?_
    refine seqE ?_
    refine regionE ?_
    refine p1 (by kernel_rfl) ?_
    refine sAdd r_3 1 ?_
    refine p1 (by kernel_rfl) ?_
    refine nilO ?_
    refine thenK_n <| ?_
    refine blockE ?_
    obtain ⟨i0, hi0e, hi0, ⟨x0, hx0, hj0⟩, hno⟩ : ∃ i : Nat, r_3 = (i : Int) ∧ i < n ∧ (∃ x : Ref, xs[i]? = some x ∧ x.job = j) ∧ ∀ (k : Nat) (x : Ref), k < i → xs[k]? = some x → ¬ x.job = j := by
      rcases hr_4 with h | h
      · omega
      · exact h
    subst hi0e
    have hS_11 := hS_2.pick 1 rfl
    have hS_12 := hS_11.pick 1 rfl
    change Sat _ _ ([(bj, .cells #[.int .i64 j] 3 (0, 0))] :: c :: F) at hS_12
    change Sat _ _ ([(bj, .cells #[.int .i64 j] 3 (0, 0))] :: c :: F) at hS_12
    have hp0 : without j (xs.take i0) = xs.take i0 := without_none fun k x hk => by have h3 := (List.getElem?_eq_some_iff.1 hk).1; rw [List.getElem?_take, if_pos (by simp at h3; omega)] at hk; exact hno k x (by simp at h3; omega) hk
    refine loopE (γ := Nat × Nat × (List Ref) × Chunk) (fun ⟨i, k, ys, c2⟩ ρ w => AllAt ρ [(0, .slice a n cap), (1, .func (.func 26) #[] #[.pointer (some ⟨bj, 0, none⟩)]), (5, .int .i64 ((i : Nat) : Int)), (6, .int .i64 ((k : Nat) : Int))] ∧ Sat W w ([(bj, .cells #[.int .i64 j] 3 (0, 0))] :: c2 :: F) ∧ OwnT encR 33 2 a n cap ys c2 ∧ (k ≤ n ∧ i < k) ∧ ys.take i = without j (xs.take k) ∧ ys.drop k = xs.drop k ∧ ys.length = xs.length) (fun ⟨i, k, ys, c2⟩ => n - k) (i0, i0 + 1, xs, c) ⟨⟨by kernel_rfl, by kernel_rfl, by kernel_rfl, by kernel_rfl, trivial⟩, hS_12, hO, by omega, by rw [without_drop hx0 hj0, hp0], rfl, rfl⟩ ?_
    skip
    rintro ⟨i, k, ys, c2⟩ ρ w_13 ⟨hA, hS_14, hOy, hk, h1, h2, hyl⟩
    refine cAnchor hA (fun ρ => ?_)
    clear hA
    refine seqE ?_
    refine seqE ?_
    refine regionE ?_
    refine p4 (by kernel_rfl) ?_
    refine nilO ?_
    refine thenK_n <| ?_
    by_cases hc_15 : (((k : Nat) : Int) : Int) < ((n : Nat) : Int)
    · refine cT (decide ((((k : Nat) : Int) : Int) < ((n : Nat) : Int))) (decide_eq_true hc_15) ?_
      refine skipE ?_
      refine thenK_n <| ?_
      refine seqE ?_
      refine blockE ?_
      refine seqE ?_
      refine regionE ?_
      refine p2 (by kernel_rfl) ?_
      refine sIdxO hOy ((k : Nat) : Int) k Try.runUnderlying44 Try.sizeOf33 ?_
      intro x_16 b_17 o_18 hx_19 hp_20 hq_21
      refine sLpA hS_14 (hp_20.up 1 rfl) 0 [.int .i64 x_16.job, .int .i64 x_16.task] (Try.isAgg33 _) (Try.sizeOf33 _) ?_
      refine sAlloc hS_14 Try.zeroValue33 ?_
      intro b_22 w_23 hS_24
      change Sat _ _ ([(b_22, .cells #[.int .i64 0, .int .i64 0] 33 (0, 0))] :: [(bj, .cells #[.int .i64 j] 3 (0, 0))] :: c2 :: F) at hS_24
      refine sT hS_24 0 0 (.agg #[.int .i64 x_16.job, .int .i64 x_16.task]) [.int .i64 x_16.job, .int .i64 x_16.task] #[.int .i64 x_16.job, .int .i64 x_16.task] Try.sizeOf33 ?_
      intro w_25 hS_26
      change Sat _ _ ([(b_22, .cells #[.int .i64 x_16.job, .int .i64 x_16.task] 33 (0, 0))] :: [(bj, .cells #[.int .i64 j] 3 (0, 0))] :: c2 :: F) at hS_26
      refine nilO ?_
      refine thenK_n <| ?_
      refine seqE ?_
      refine regionE ?_
      refine p1 (by kernel_rfl) ?_
      refine sLA hS_26 0 0 [.int .i64 x_16.job, .int .i64 x_16.task] (Try.isAgg33 _) (Try.sizeOf33 _) ?_
      have hS_29 := hS_26.pick 1 rfl
      change Sat _ _ ([(bj, .cells #[.int .i64 j] 3 (0, 0))] :: [(b_22, .cells #[.int .i64 x_16.job, .int .i64 x_16.task] 33 (0, 0))] :: c2 :: F) at hS_29
      refine sC #[.agg #[.int .i64 x_16.job, .int .i64 x_16.task], .pointer (some ⟨bj, 0, none⟩)] #[.pointer (some ⟨bj, 0, none⟩)] Try.call26 (Calls.mono (del_ok W _ _ _ ⟨x_16.job, x_16.task⟩ _ hS_29) ?_)
      rintro _ w_27 ⟨rfl, hS_28⟩
      refine ⟨_, rfl, ?_⟩
      refine p1 (by kernel_rfl) ?_
      refine nilO ?_
      refine thenK_n <| ?_
      by_cases hc_30 : (x_16.job : Int) = j
      · refine cF (!((x_16.job : Int) == j)) (congrArg Bool.not (beq_iff_eq.2 hc_30)) ?_
        refine skipE ?_
        refine blockK_n <| thenK_n <| ?_
        refine regionE ?_
        refine p1 (by kernel_rfl) ?_
        refine sAdd ((k : Nat) : Int) 1 ?_
        refine p1 (by kernel_rfl) ?_
        refine nilO ?_
        refine thenK_n <| ?_
        have hS_31 := hS_28.pick 2 rfl
        have hS_32 := hS_31.pick 1 rfl
        change Sat _ _ ([(bj, .cells #[.int .i64 j] 3 (0, 0))] :: c2 :: [(b_22, .cells #[.int .i64 x_16.job, .int .i64 x_16.task] 33 (0, 0))] :: F) at hS_32
        have hS_33 := hS_32.dropAt 2 rfl
        change Sat _ _ ([(bj, .cells #[.int .i64 j] 3 (0, 0))] :: c2 :: F) at hS_33
        have hd := del_drop h1 h2 hx_19 hc_30
        exact ⟨(i, k + 1, ys, c2), by dsimp only; omega, ⟨by kernel_rfl, by kernel_rfl, by kernel_rfl, by kernel_rfl, trivial⟩, hS_33, hOy, by omega, hd.1, hd.2, hyl⟩
      · refine cT (!((x_16.job : Int) == j)) (congrArg Bool.not (beq_eq_false_iff_ne.2 hc_30)) ?_
        refine seqE ?_
        refine regionE ?_
        refine p2 (by kernel_rfl) ?_
        refine sLA hS_28 1 0 [.int .i64 x_16.job, .int .i64 x_16.task] (Try.isAgg33 _) (Try.sizeOf33 _) ?_
        refine sIdxO hOy ((i : Nat) : Int) i Try.runUnderlying44 Try.sizeOf33 ?_
        intro x_34 b_35 o_36 hx_37 hp_38 hq_39
        refine sStF hS_28 hOy hq_39 2 i 0 x_34 ⟨x_16.job, x_16.task⟩ hx_37 (.agg #[.int .i64 x_16.job, .int .i64 x_16.task]) [.int .i64 x_16.job, .int .i64 x_16.task] Try.sizeOf33 ?_
        intro w_40 c_42 hO_43 hS_41
        change Sat _ _ ([(bj, .cells #[.int .i64 j] 3 (0, 0))] :: [(b_22, .cells #[.int .i64 x_16.job, .int .i64 x_16.task] 33 (0, 0))] :: c_42 :: F) at hS_41
        refine nilO ?_
        refine thenK_n <| ?_
        refine regionE ?_
        refine p1 (by kernel_rfl) ?_
        refine sAdd ((i : Nat) : Int) 1 ?_
        refine p1 (by kernel_rfl) ?_
        refine nilO ?_
        refine blockK_n <| thenK_n <| ?_
        refine regionE ?_
        refine p1 (by kernel_rfl) ?_
        refine sAdd ((k : Nat) : Int) 1 ?_
        refine p1 (by kernel_rfl) ?_
        refine nilO ?_
        refine thenK_n <| ?_
        have hS_44 := hS_41.pick 2 rfl
        have hS_45 := hS_44.pick 1 rfl
        change Sat _ _ ([(bj, .cells #[.int .i64 j] 3 (0, 0))] :: c_42 :: [(b_22, .cells #[.int .i64 x_16.job, .int .i64 x_16.task] 33 (0, 0))] :: F) at hS_45
        have hS_46 := hS_45.dropAt 2 rfl
        change Sat _ _ ([(bj, .cells #[.int .i64 j] 3 (0, 0))] :: c_42 :: F) at hS_46
        have hd := del_keep hyl hk.2 h1 h2 hx_19 hc_30
        exact ⟨(i + 1, k + 1, (ys.set i ⟨x_16.job, x_16.task⟩), c_42), by dsimp only; omega, ⟨by kernel_rfl, by kernel_rfl, by kernel_rfl, by kernel_rfl, trivial⟩, hS_46, hO_43, by omega, hd.2.1, hd.2.2, hd.1⟩
    · refine cF (decide ((((k : Nat) : Int) : Int) < ((n : Nat) : Int))) (decide_eq_false hc_15) ?_
      refine exitE (thenK_x <| thenK_x <| blockK_x <| ?_)
      refine thenK_n <| ?_
      refine seqE ?_
      refine regionE ?_
      refine p2 (by kernel_rfl) ?_
      refine sSl (some ((i : Nat) : Int)) none i n Try.runUnderlying44 Try.sizeOf33 ⟨by omega, by omega⟩ rfl (by omega) (by omega) ?_ (a := a) (len := n) (cap := cap)
      have hP_47 := hOy.part (lo := i) (hi := n) (by omega) (by omega)
      refine sClear hS_14 hOy 1 ⟨0, 0⟩ (lo := i) (by omega) Try.runUnderlying44 Try.zeroValue33 (by kernel_rfl) ?_
      intro w_48 c_50 hO_51 hS_49
      change Sat _ _ ([(bj, .cells #[.int .i64 j] 3 (0, 0))] :: c_50 :: F) at hS_49
      refine nilO ?_
      refine thenK_n <| ?_
      refine seqE ?_
      refine regionE ?_
      refine p2 (by kernel_rfl) ?_
      refine sSl none (some ((i : Nat) : Int)) 0 i Try.runUnderlying44 Try.sizeOf33 rfl ⟨by omega, by omega⟩ (by omega) (by omega) ?_ (a := a) (len := n) (cap := cap)
      have hP_52 := hO_51.part (lo := 0) (hi := i) (by omega) (by omega)
      refine p1 (by kernel_rfl) ?_
      refine nilO ?_
      refine thenK_n <| ?_
      refine retE ?_
      refine retN (vs := [.slice (partAddr a cap 0 2) (i - 0) (cap - 0)]) rfl (.cons (.tmp _ _ (by kernel_rfl)) .nil) <| ?_
      have hS_53 := hS_49.pick 1 rfl
      have hS_54 := hS_53.pick 1 rfl
      change Sat _ _ ([(bj, .cells #[.int .i64 j] 3 (0, 0))] :: c_50 :: F) at hS_54
      change Sat _ _ ([(bj, .cells #[.int .i64 j] 3 (0, 0))] :: c_50 :: F) at hS_54
      have hfin := hP_52
      have hy : ((List.take i ys ++ List.replicate (n - i) (⟨0, 0⟩ : Ref)).drop 0).take (i - 0) = without j xs := by rw [List.drop_zero, Nat.sub_zero, List.take_append_of_le_length (by simp; omega), List.take_take, Nat.min_self, h1, List.take_of_length_le (by omega)]
      rw [hy] at hfin
      have hlen := hfin.len
      rw [hlen]
      exact ⟨_, _, _, rfl, hfin, hS_54⟩
theorem without_ok (W w : World) (G : Chunk) (F : List Chunk) (a : Option Addr) (n cap : Nat) (xs : List Ref) (j : Int) (hR : RdT encR 2 [G] a n cap xs) (hn : n ≤ 1000000000000) (hS : Sat W w (G :: F)) :
    Calls Try.prog 27 #[.slice a n cap, .int .i64 j] w fun e w' => ∃ (a' : Option Addr) (cap' : Nat) (c' : Chunk), e = .returned (.slice a' (without j xs).length cap') ∧ OwnT encR 33 2 a' (without j xs).length cap' (without j xs) c' ∧ Sat W w' (c' :: G :: F) := by
  have hl := hR.len; have hle := hR.le
  refine callsE (n := 28) Try.func27 rfl rfl (Nat.le_of_ble_eq_true rfl) ?_
  refine seqE ?_
  refine regionE ?_
  refine p1 (by kernel_rfl) ?_
  refine nilO ?_
  refine thenK_n <| ?_
  refine seqE ?_
  refine regionE ?_
  refine p1 (by kernel_rfl) ?_
  refine nilO ?_
  refine thenK_n <| ?_
  refine seqE ?_
  refine seqE ?_
  refine regionE ?_
  refine p1 (by kernel_rfl) ?_
  refine nilO ?_
  refine thenK_n <| ?_
  refine blockE ?_
  have hS_1 := hS.nilc
  refine loopE (γ := Nat × (Option Addr) × Nat × Nat × Chunk) (fun ⟨i, b, m, cap2, c2⟩ ρ w => AllAt ρ [(0, .slice a n cap), (1, .int .i64 j), (5, .slice b m cap2), (6, .int .i64 ((i : Nat) : Int))] ∧ Sat W w (c2 :: G :: F) ∧ OwnT encR 33 2 b m cap2 (without j (xs.take i)) c2 ∧ (i ≤ n ∧ m ≤ i)) (fun ⟨i, b, m, cap2, c2⟩ => n - i) (0, none, 0, 0, []) ⟨⟨by kernel_rfl, by kernel_rfl, by kernel_rfl, by kernel_rfl, trivial⟩, hS_1, OwnT.nil (fun _ => rfl), by omega⟩ ?_
  skip
  rintro ⟨i, b, m, cap2, c2⟩ ρ w_2 ⟨hA, hS_3, hOb, hi⟩
  refine cAnchor hA (fun ρ => ?_)
  clear hA
  refine seqE ?_
  refine seqE ?_
  refine regionE ?_
  refine p4 (by kernel_rfl) ?_
  refine nilO ?_
  refine thenK_n <| ?_
  by_cases hc_4 : (((i : Nat) : Int) : Int) < ((n : Nat) : Int)
  · refine cT (decide ((((i : Nat) : Int) : Int) < ((n : Nat) : Int))) (decide_eq_true hc_4) ?_
    refine skipE ?_
    refine thenK_n <| ?_
    refine seqE ?_
    refine blockE ?_
    refine seqE ?_
    refine regionE ?_
    refine p2 (by kernel_rfl) ?_
    refine sIdx hR ((i : Nat) : Int) Try.runUnderlying44 Try.sizeOf33 ?_
    intro x_5 b_6 o_7 hx_8 hp_9
    rw [Int.toNat_natCast] at hx_8
    refine p1 (by kernel_rfl) ?_
    refine sLp hS_3 (hp_9.up 1 rfl) 0 (.int .i64 x_5.job) (Try.isAgg3 _) ?_
    refine p2 (by kernel_rfl) ?_
    refine nilO ?_
    refine thenK_n <| ?_
    by_cases hc_10 : (x_5.job : Int) = j
    · refine cF ((x_5.job : Int) != j) (bne_eq_false_iff_eq.2 hc_10) ?_
      refine skipE ?_
      refine blockK_n <| thenK_n <| ?_
      refine regionE ?_
      refine p1 (by kernel_rfl) ?_
      refine sAdd ((i : Nat) : Int) 1 ?_
      refine p1 (by kernel_rfl) ?_
      refine nilO ?_
      refine thenK_n <| ?_
      have hS_11 := hS_3.pick 1 rfl
      have hS_12 := hS_11.pick 1 rfl
      change Sat _ _ (c2 :: G :: F) at hS_12
      change Sat _ _ (c2 :: G :: F) at hS_12
      exact ⟨(i + 1, b, m, cap2, c2), by dsimp only; omega, ⟨by kernel_rfl, by kernel_rfl, by kernel_rfl, by kernel_rfl, trivial⟩, hS_12, by rw [without_drop hx_8 hc_10]; exact hOb, by omega⟩
    · refine cT ((x_5.job : Int) != j) (bne_iff_ne.2 hc_10) ?_
      refine regionE ?_
      refine p3 (by kernel_rfl) ?_
      refine sIdx hR ((i : Nat) : Int) Try.runUnderlying44 Try.sizeOf33 ?_
      intro x_13 b_14 o_15 hx_16 hp_17
      rw [Int.toNat_natCast] at hx_16
      refine sLpA hS_3 (hp_17.up 1 rfl) 0 [.int .i64 x_13.job, .int .i64 x_13.task] (Try.isAgg33 _) (Try.sizeOf33 _) ?_
      refine sBS hS_3 #[.int .i64 x_13.job, .int .i64 x_13.task] Try.runUnderlying44 Try.sizeOf33 Try.zeroValue33 ?_
      intro b_18 w_19 hS_20
      refine sApp (nb := 16) hS_20 hOb 1 (RdT.blk (enc := encR) (sz := 2) (xs := [⟨x_13.job, x_13.task⟩]) (fun _ => rfl) 1 0 rfl rfl rfl (by omega)) Try.underlying44 (i := Try.t33) rfl (fun _ => rfl) ?_
      intro a_21 cap_22 c_23 w_24 hO_25 hS_26
      change Sat _ _ ([(b_18, .cells #[.int .i64 x_13.job, .int .i64 x_13.task] 33 (0, 0))] :: c_23 :: G :: F) at hS_26
      refine p1 (by kernel_rfl) ?_
      refine nilO ?_
      refine blockK_n <| thenK_n <| ?_
      refine regionE ?_
      refine p1 (by kernel_rfl) ?_
      refine sAdd ((i : Nat) : Int) 1 ?_
      refine p1 (by kernel_rfl) ?_
      refine nilO ?_
      refine thenK_n <| ?_
      have hS_27 := hS_26.pick 2 rfl
      have hS_28 := hS_27.pick 2 rfl
      change Sat _ _ (c_23 :: G :: [(b_18, .cells #[.int .i64 x_13.job, .int .i64 x_13.task] 33 (0, 0))] :: F) at hS_28
      have hS_29 := hS_28.dropAt 2 rfl
      change Sat _ _ (c_23 :: G :: F) at hS_29
      have hxe : x_13 = x_5 := by have h := hx_16.symm.trans hx_8; exact Option.some.inj h
      exact ⟨(i + 1, a_21, (m + 1), cap_22, c_23), by dsimp only; omega, ⟨by kernel_rfl, by kernel_rfl, by kernel_rfl, by kernel_rfl, trivial⟩, hS_29, by rw [without_keep hx_8 hc_10, ← hxe]; exact hO_25, by omega⟩
  · refine cF (decide ((((i : Nat) : Int) : Int) < ((n : Nat) : Int))) (decide_eq_false hc_4) ?_
    refine exitE (thenK_x <| thenK_x <| blockK_x <| ?_)
    refine thenK_n <| ?_
    refine seqE ?_
    refine regionE ?_
    refine p2 (by kernel_rfl) ?_
    refine nilO ?_
    refine thenK_n <| ?_
    refine retE ?_
    refine retN (vs := [.slice b m cap2]) rfl (.cons (.tmp _ _ (by kernel_rfl)) .nil) <| ?_
    have hS_30 := hS_3.pick 1 rfl
    have hS_31 := hS_30.pick 1 rfl
    change Sat _ _ (c2 :: G :: F) at hS_31
    change Sat _ _ (c2 :: G :: F) at hS_31
    have hw : xs.take i = xs := List.take_of_length_le (by omega)
    rw [hw] at hOb
    have hlen := hOb.len
    rw [hlen]
    exact ⟨_, _, _, rfl, hOb, hS_31⟩
theorem same_ok (W w : World) (G1 G2 : Chunk) (F : List Chunk) (a : Option Addr) (n cap : Nat) (b : Option Addr) (m cap2 : Nat) (xs : List Ref) (hA : RdT encR 2 [G1] a n cap xs) (hB : RdT encR 2 [G2] b m cap2 xs) (hS : Sat W w (G1 :: G2 :: F)) :
    Calls Try.prog 21 #[.slice a n cap, .slice b m cap2] w fun e w' => e = .returned (.bool true) ∧ Sat W w' (G1 :: G2 :: F) := by
  have hla := hA.len; have hlb := hB.len; have hle := hA.le
  refine callsE (n := 26) Try.func21 rfl rfl (Nat.le_of_ble_eq_true rfl) ?_
  refine seqE ?_
  refine regionE ?_
  refine p1 (by kernel_rfl) ?_
  refine nilO ?_
  refine thenK_n <| ?_
  refine seqE ?_
  refine seqE ?_
  refine regionE ?_
  refine p5 (by kernel_rfl) ?_
  refine nilO ?_
  refine thenK_n <| ?_
  have hc_1 : (((n : Nat) : Int) : Int) = ((m : Nat) : Int) := (by omega)
  refine cF ((((n : Nat) : Int) : Int) != ((m : Nat) : Int)) (bne_eq_false_iff_eq.2 hc_1) ?_
  refine skipE ?_
  refine thenK_n <| ?_
  refine seqE ?_
  refine seqE ?_
  refine regionE ?_
  refine p1 (by kernel_rfl) ?_
  refine nilO ?_
  refine thenK_n <| ?_
  refine blockE ?_
  refine loopE (γ := Nat) (fun i ρ w => AllAt ρ [(0, .slice a n cap), (1, .slice b m cap2), (5, .int .i64 ((i : Nat) : Int))] ∧ Sat W w (G1 :: G2 :: F) ∧ i ≤ n) (fun i => n - i) 0 ⟨⟨by kernel_rfl, by kernel_rfl, by kernel_rfl, trivial⟩, hS, by omega⟩ ?_
  skip
  rintro i ρ w_2 ⟨hA, hS_3, hi⟩
  refine cAnchor hA (fun ρ => ?_)
  clear hA
  refine seqE ?_
  refine seqE ?_
  refine regionE ?_
  refine p4 (by kernel_rfl) ?_
  refine nilO ?_
  refine thenK_n <| ?_
  by_cases hc_4 : (((i : Nat) : Int) : Int) < ((n : Nat) : Int)
  · refine cT (decide ((((i : Nat) : Int) : Int) < ((n : Nat) : Int))) (decide_eq_true hc_4) ?_
    refine skipE ?_
    refine thenK_n <| ?_
    refine seqE ?_
    refine blockE ?_
    refine seqE ?_
    obtain ⟨x_5, b_6, o_7, hx_8, hp_9, hq_10⟩ := RdT.elem hA ((i : Nat) : Int)
    rw [Int.toNat_natCast] at hx_8
    obtain ⟨x_11, b_12, o_13, hx_14, hp_15, hq_16⟩ := RdT.elem hB ((i : Nat) : Int)
    rw [Int.toNat_natCast] at hx_14
    refine drawE [] [(3, ⟨b_6, o_7 + 0, none⟩, .int .i64 x_5.job), (3, ⟨b_6, o_7 + 1, none⟩, .int .i64 x_5.task), (7, ⟨b_12, o_13 + 0, none⟩, .int .i64 x_11.job), (7, ⟨b_12, o_13 + 1, none⟩, .int .i64 x_11.task)] [(true, [0, 1]), (true, [2]), (true, [4, 5]), (true, [6]), (true, [3]), (true, [7]), (true, [8])] rfl (by kernel_rfl) ⟨.inr ((hp_9.up 0 rfl).cell hS_3 (k := 0) rfl), .inr ((hp_9.up 0 rfl).cell hS_3 (k := 1) rfl), .inr ((hp_15.up 1 rfl).cell hS_3 (k := 0) rfl), .inr ((hp_15.up 1 rfl).cell hS_3 (k := 1) rfl), trivial⟩ ?_
    have hS_17 := hS_3.drew
    refine wP [0, 1] rfl (by kernel_rfl) ?_
    refine wS (.pointer (some ⟨b_6, o_7, none⟩)) rfl rfl rfl (fun w _ => Y_idx (cap := cap) rfl Try.runUnderlying44 Try.sizeOf33 (by kernel_rfl) (by kernel_rfl) hq_10) ?_
    refine wP [4, 5] rfl (by kernel_rfl) ?_
    refine wS (.pointer (some ⟨b_12, o_13, none⟩)) rfl rfl rfl (fun w _ => Y_idx (cap := cap2) rfl Try.runUnderlying44 Try.sizeOf33 (by kernel_rfl) (by kernel_rfl) hq_16) ?_
    refine wS (.agg #[.int .i64 x_5.job, .int .i64 x_5.task]) rfl rfl rfl (fun w hF => Y_loadF rfl (Try.isAgg33 w) (Try.sizeOf33 w) (by kernel_rfl) rfl ⟨hF 0 _ _ rfl, hF 1 _ _ rfl, trivial⟩) ?_
    refine wS (.agg #[.int .i64 x_11.job, .int .i64 x_11.task]) rfl rfl rfl (fun w hF => Y_loadF rfl (Try.isAgg33 w) (Try.sizeOf33 w) (by kernel_rfl) rfl ⟨hF 2 _ _ rfl, hF 3 _ _ rfl, trivial⟩) ?_
    refine wS (.bool (!(((x_5.job : Int) == x_11.job) && ((x_5.task : Int) == x_11.task)))) rfl rfl rfl (fun w _ => Y_eqS rfl (by kernel_rfl) (by kernel_rfl) (eqvn33 _ x_5.job x_5.task x_11.job x_11.task)) ?_
    refine wN ?_
    refine thenK_n <| ?_
    have hc_18 : (x_5.job : Int) = x_11.job ∧ (x_5.task : Int) = x_11.task := (by have h := Option.some.inj (hx_8.symm.trans hx_14); rw [h]; exact ⟨rfl, rfl⟩)
    refine cF (!(((x_5.job : Int) == x_11.job) && ((x_5.task : Int) == x_11.task))) (congrArg Bool.not (show (((x_5.job : Int) == x_11.job) && ((x_5.task : Int) == x_11.task)) = true from by simpa using hc_18)) ?_
    refine skipE ?_
    refine blockK_n <| thenK_n <| ?_
    refine regionE ?_
    refine p1 (by kernel_rfl) ?_
    refine sAdd ((i : Nat) : Int) 1 ?_
    refine p1 (by kernel_rfl) ?_
    refine nilO ?_
    refine thenK_n <| ?_
    exact ⟨i + 1, by first | omega | (dsimp only; omega), ⟨by kernel_rfl, by kernel_rfl, by kernel_rfl, trivial⟩, hS_17, by omega⟩
  · refine cF (decide ((((i : Nat) : Int) : Int) < ((n : Nat) : Int))) (decide_eq_false hc_4) ?_
    refine exitE (thenK_x <| thenK_x <| blockK_x <| ?_)
    refine thenK_n <| ?_
    refine seqE ?_
    refine regionE ?_
    refine p1 (by kernel_rfl) ?_
    refine nilO ?_
    refine thenK_n <| ?_
    refine retE ?_
    refine retN (vs := [.bool true]) rfl (.cons (.tmp _ _ (by kernel_rfl)) .nil) <| ?_
    exact ⟨rfl, hS_3⟩
theorem inj_remove (W w : World) (p : Nat) (S : Inj) (fp : Chunk) (F : List Chunk) (hI : InjR p S fp) (hS : Sat W w (fp :: F)) (hb : S.len ≤ 1000000000000) (j : Int) :
    Calls Try.prog 18 #[.pointer (some ⟨p, 0, none⟩), .int .i64 j] w fun e w' => e = .returned (.int .i64 (((S.len : Nat) : Int) - (((S.rem j).len : Nat) : Int))) ∧ ∃ fp' : Chunk, InjR p (S.rem j) fp' ∧ Sat W w' (fp' :: F) := by
  obtain ⟨a0, n0, k0, c0, a1, n1, k1, c1, a2, n2, k2, c2, a3, n3, k3, c3, rfl, hO0, hO1, hO2, hO3⟩ := hI
  have hS0 : Sat W w ([(p, .cells #[.int .i64 S.cap, .slice a0 n0 k0, .slice a1 n1 k1, .slice a2 n2 k2, .slice a3 n3 k3] 49 (0, 0))] :: c0 :: c1 :: c2 :: c3 :: F) := hS.perm (by simp)
  have hl0 := hO0.len; have hk0 := hO0.le
  have hl1 := hO1.len; have hk1 := hO1.le
  have hl2 := hO2.len; have hk2 := hO2.le
  have hl3 := hO3.len; have hk3 := hO3.le
  unfold Inj.len at hb
  refine callsE (n := 33) Try.func18 rfl rfl (Nat.le_of_ble_eq_true rfl) ?_
  refine seqE ?_
  refine regionE ?_
  refine sBox hS0 (.int .i64 j) #[.int .i64 j] ?_
  intro b_1 w_2 hS_3
  refine p1 (by kernel_rfl) ?_
  refine nilO ?_
  refine thenK_n <| ?_
  refine seqE ?_
  refine seqE ?_
  refine regionE ?_
  refine p2 (by kernel_rfl) ?_
  refine nilO ?_
  refine thenK_n <| ?_
  refine condE_false (by kernel_rfl) ?_
  refine skipE ?_
  refine thenK_n <| ?_
  refine seqE ?_
  refine regionE ?_
  refine p1 (by kernel_rfl) ?_
  have hS_4 := hS_3.pick 5 rfl
  have hS_5 := hS_4.pick 5 rfl
  have hS_6 := hS_5.pick 5 rfl
  have hS_7 := hS_6.pick 5 rfl
  have hS_8 := hS_7.pick 5 rfl
  change Sat _ _ ([(p, .cells #[.int .i64 S.cap, .slice a0 n0 k0, .slice a1 n1 k1, .slice a2 n2 k2, .slice a3 n3 k3] 49 (0, 0))] :: c0 :: c1 :: c2 :: c3 :: [(b_1, .cells #[.int .i64 j] 3 (0, 0))] :: F) at hS_8
  have hS_9 := hS_8.merge5
  have hln : S.len = S.q0.length + (S.q1.length + (S.q2.length + S.q3.length)) := rfl
  refine sF #[.pointer (some ⟨p, 0, none⟩)] Try.call12 (Calls.mono (inj_len W _ _ S _ _ ⟨_, _, _, _, _, _, _, _, _, _, _, _, _, _, _, _, rfl, hO0, hO1, hO2, hO3⟩ hS_9 (by omega)) ?_)
  rintro _ _ ⟨rfl, rfl⟩
  refine ⟨_, rfl, ?_⟩
  refine p1 (by kernel_rfl) ?_
  refine nilO ?_
  refine thenK_n <| ?_
  refine seqE ?_
  refine seqE ?_
  refine regionE ?_
  refine p3 (by kernel_rfl) ?_
  refine sLA hS_8 0 1 [.slice a0 n0 k0, .slice a1 n1 k1, .slice a2 n2 k2, .slice a3 n3 k3] (Try.isAgg47 _) (Try.sizeOf47 _) ?_
  refine p1 (by kernel_rfl) ?_
  refine nilO ?_
  refine thenK_n <| ?_
  refine blockE ?_
  refine loopN 5 ?_
  refine roundS ?_
  refine seqE ?_
  refine regionE ?_
  refine p1 (by kernel_rfl) ?_
  refine nilO ?_
  refine thenK_n <| ?_
  refine seqE ?_
  refine condE_true (by kernel_rfl) ?_
  refine skipE ?_
  refine thenK_n <| ?_
  refine seqE ?_
  refine blockE ?_
  refine seqE ?_
  refine regionE ?_
  refine p4 (by kernel_rfl) ?_
  refine nilO ?_
  refine thenK_n <| ?_
  refine drawE [4, 8] [] [(true, [0, 1, 2, 3, 5, 6]), (false, [4]), (true, [7]), (false, [8])] rfl (by kernel_rfl) trivial ?_
  have hS_10 := hS_8.drew
  refine wP [0, 1, 2, 3, 5, 6] rfl (by kernel_rfl) ?_
  refine wO rfl ?_
  have hS_17 := hS_10.pick 1 rfl
  have hS_18 := hS_17.pick 5 rfl
  change Sat _ _ ([(b_1, .cells #[.int .i64 j] 3 (0, 0))] :: c0 :: [(p, .cells #[.int .i64 S.cap, .slice a0 n0 k0, .slice a1 n1 k1, .slice a2 n2 k2, .slice a3 n3 k3] 49 (0, 0))] :: c1 :: c2 :: c3 :: F) at hS_18
  refine sF #[.slice a0 n0 k0, .func (.func 26) #[] #[.pointer (some ⟨b_1, 0, none⟩)]] Try.call25 (Calls.mono (delete_ok W _ _ _ _ _ _ _ _ _ hO0 hS_18) ?_)
  rintro _ w_11 ⟨a_13, cap_14, c_15, rfl, hO_16, hS_12⟩
  refine ⟨_, rfl, ?_⟩
  change Sat _ _ ([(b_1, .cells #[.int .i64 j] 3 (0, 0))] :: c_15 :: [(p, .cells #[.int .i64 S.cap, .slice a0 n0 k0, .slice a1 n1 k1, .slice a2 n2 k2, .slice a3 n3 k3] 49 (0, 0))] :: c1 :: c2 :: c3 :: F) at hS_12
  refine nilO ⟨trivial, ?_⟩
  refine wP [7] rfl (by kernel_rfl) ?_
  refine wO rfl ?_
  refine sT hS_12 2 1 (.slice a_13 ((without j S.q0).length) cap_14) [.slice a_13 ((without j S.q0).length) cap_14] #[.int .i64 S.cap, .slice a_13 ((without j S.q0).length) cap_14, .slice a1 n1 k1, .slice a2 n2 k2, .slice a3 n3 k3] Try.sizeOf44 ?_
  intro w_19 hS_20
  change Sat _ _ ([(b_1, .cells #[.int .i64 j] 3 (0, 0))] :: c_15 :: [(p, .cells #[.int .i64 S.cap, .slice a_13 ((without j S.q0).length) cap_14, .slice a1 n1 k1, .slice a2 n2 k2, .slice a3 n3 k3] 49 (0, 0))] :: c1 :: c2 :: c3 :: F) at hS_20
  refine nilO ⟨trivial, ?_⟩
  refine wN ?_
  refine blockK_n <| thenK_n <| ?_
  refine regionE ?_
  refine p2 (by kernel_rfl) ?_
  refine nilO ?_
  refine thenK_n <| ?_
  refine roundS ?_
  refine seqE ?_
  refine regionE ?_
  refine p1 (by kernel_rfl) ?_
  refine nilO ?_
  refine thenK_n <| ?_
  refine seqE ?_
  refine condE_true (by kernel_rfl) ?_
  refine skipE ?_
  refine thenK_n <| ?_
  refine seqE ?_
  refine blockE ?_
  refine seqE ?_
  refine regionE ?_
  refine p4 (by kernel_rfl) ?_
  refine nilO ?_
  refine thenK_n <| ?_
  refine drawE [4, 8] [] [(true, [0, 1, 2, 3, 5, 6]), (false, [4]), (true, [7]), (false, [8])] rfl (by kernel_rfl) trivial ?_
  have hS_21 := hS_20.drew
  refine wP [0, 1, 2, 3, 5, 6] rfl (by kernel_rfl) ?_
  refine wO rfl ?_
  have hS_28 := hS_21.pick 3 rfl
  have hS_29 := hS_28.pick 1 rfl
  change Sat _ _ ([(b_1, .cells #[.int .i64 j] 3 (0, 0))] :: c1 :: c_15 :: [(p, .cells #[.int .i64 S.cap, .slice a_13 ((without j S.q0).length) cap_14, .slice a1 n1 k1, .slice a2 n2 k2, .slice a3 n3 k3] 49 (0, 0))] :: c2 :: c3 :: F) at hS_29
  refine sF #[.slice a1 n1 k1, .func (.func 26) #[] #[.pointer (some ⟨b_1, 0, none⟩)]] Try.call25 (Calls.mono (delete_ok W _ _ _ _ _ _ _ _ _ hO1 hS_29) ?_)
  rintro _ w_22 ⟨a_24, cap_25, c_26, rfl, hO_27, hS_23⟩
  refine ⟨_, rfl, ?_⟩
  change Sat _ _ ([(b_1, .cells #[.int .i64 j] 3 (0, 0))] :: c_26 :: c_15 :: [(p, .cells #[.int .i64 S.cap, .slice a_13 ((without j S.q0).length) cap_14, .slice a1 n1 k1, .slice a2 n2 k2, .slice a3 n3 k3] 49 (0, 0))] :: c2 :: c3 :: F) at hS_23
  refine nilO ⟨trivial, ?_⟩
  refine wP [7] rfl (by kernel_rfl) ?_
  refine wO rfl ?_
  refine sT hS_23 3 2 (.slice a_24 ((without j S.q1).length) cap_25) [.slice a_24 ((without j S.q1).length) cap_25] #[.int .i64 S.cap, .slice a_13 ((without j S.q0).length) cap_14, .slice a_24 ((without j S.q1).length) cap_25, .slice a2 n2 k2, .slice a3 n3 k3] Try.sizeOf44 ?_
  intro w_30 hS_31
  change Sat _ _ ([(b_1, .cells #[.int .i64 j] 3 (0, 0))] :: c_26 :: c_15 :: [(p, .cells #[.int .i64 S.cap, .slice a_13 ((without j S.q0).length) cap_14, .slice a_24 ((without j S.q1).length) cap_25, .slice a2 n2 k2, .slice a3 n3 k3] 49 (0, 0))] :: c2 :: c3 :: F) at hS_31
  refine nilO ⟨trivial, ?_⟩
  refine wN ?_
  refine blockK_n <| thenK_n <| ?_
  refine regionE ?_
  refine p2 (by kernel_rfl) ?_
  refine nilO ?_
  refine thenK_n <| ?_
  refine roundS ?_
  refine seqE ?_
  refine regionE ?_
  refine p1 (by kernel_rfl) ?_
  refine nilO ?_
  refine thenK_n <| ?_
  refine seqE ?_
  refine condE_true (by kernel_rfl) ?_
  refine skipE ?_
  refine thenK_n <| ?_
  refine seqE ?_
  refine blockE ?_
  refine seqE ?_
  refine regionE ?_
  refine p4 (by kernel_rfl) ?_
  refine nilO ?_
  refine thenK_n <| ?_
  refine drawE [4, 8] [] [(true, [0, 1, 2, 3, 5, 6]), (false, [4]), (true, [7]), (false, [8])] rfl (by kernel_rfl) trivial ?_
  have hS_32 := hS_31.drew
  refine wP [0, 1, 2, 3, 5, 6] rfl (by kernel_rfl) ?_
  refine wO rfl ?_
  have hS_39 := hS_32.pick 4 rfl
  have hS_40 := hS_39.pick 1 rfl
  change Sat _ _ ([(b_1, .cells #[.int .i64 j] 3 (0, 0))] :: c2 :: c_26 :: c_15 :: [(p, .cells #[.int .i64 S.cap, .slice a_13 ((without j S.q0).length) cap_14, .slice a_24 ((without j S.q1).length) cap_25, .slice a2 n2 k2, .slice a3 n3 k3] 49 (0, 0))] :: c3 :: F) at hS_40
  refine sF #[.slice a2 n2 k2, .func (.func 26) #[] #[.pointer (some ⟨b_1, 0, none⟩)]] Try.call25 (Calls.mono (delete_ok W _ _ _ _ _ _ _ _ _ hO2 hS_40) ?_)
  rintro _ w_33 ⟨a_35, cap_36, c_37, rfl, hO_38, hS_34⟩
  refine ⟨_, rfl, ?_⟩
  change Sat _ _ ([(b_1, .cells #[.int .i64 j] 3 (0, 0))] :: c_37 :: c_26 :: c_15 :: [(p, .cells #[.int .i64 S.cap, .slice a_13 ((without j S.q0).length) cap_14, .slice a_24 ((without j S.q1).length) cap_25, .slice a2 n2 k2, .slice a3 n3 k3] 49 (0, 0))] :: c3 :: F) at hS_34
  refine nilO ⟨trivial, ?_⟩
  refine wP [7] rfl (by kernel_rfl) ?_
  refine wO rfl ?_
  refine sT hS_34 4 3 (.slice a_35 ((without j S.q2).length) cap_36) [.slice a_35 ((without j S.q2).length) cap_36] #[.int .i64 S.cap, .slice a_13 ((without j S.q0).length) cap_14, .slice a_24 ((without j S.q1).length) cap_25, .slice a_35 ((without j S.q2).length) cap_36, .slice a3 n3 k3] Try.sizeOf44 ?_
  intro w_41 hS_42
  change Sat _ _ ([(b_1, .cells #[.int .i64 j] 3 (0, 0))] :: c_37 :: c_26 :: c_15 :: [(p, .cells #[.int .i64 S.cap, .slice a_13 ((without j S.q0).length) cap_14, .slice a_24 ((without j S.q1).length) cap_25, .slice a_35 ((without j S.q2).length) cap_36, .slice a3 n3 k3] 49 (0, 0))] :: c3 :: F) at hS_42
  refine nilO ⟨trivial, ?_⟩
  refine wN ?_
  refine blockK_n <| thenK_n <| ?_
  refine regionE ?_
  refine p2 (by kernel_rfl) ?_
  refine nilO ?_
  refine thenK_n <| ?_
  refine roundS ?_
  refine seqE ?_
  refine regionE ?_
  refine p1 (by kernel_rfl) ?_
  refine nilO ?_
  refine thenK_n <| ?_
  refine seqE ?_
  refine condE_true (by kernel_rfl) ?_
  refine skipE ?_
  refine thenK_n <| ?_
  refine seqE ?_
  refine blockE ?_
  refine seqE ?_
  refine regionE ?_
  refine p4 (by kernel_rfl) ?_
  refine nilO ?_
  refine thenK_n <| ?_
  refine drawE [4, 8] [] [(true, [0, 1, 2, 3, 5, 6]), (false, [4]), (true, [7]), (false, [8])] rfl (by kernel_rfl) trivial ?_
  have hS_43 := hS_42.drew
  refine wP [0, 1, 2, 3, 5, 6] rfl (by kernel_rfl) ?_
  refine wO rfl ?_
  have hS_50 := hS_43.pick 5 rfl
  have hS_51 := hS_50.pick 1 rfl
  change Sat _ _ ([(b_1, .cells #[.int .i64 j] 3 (0, 0))] :: c3 :: c_37 :: c_26 :: c_15 :: [(p, .cells #[.int .i64 S.cap, .slice a_13 ((without j S.q0).length) cap_14, .slice a_24 ((without j S.q1).length) cap_25, .slice a_35 ((without j S.q2).length) cap_36, .slice a3 n3 k3] 49 (0, 0))] :: F) at hS_51
  refine sF #[.slice a3 n3 k3, .func (.func 26) #[] #[.pointer (some ⟨b_1, 0, none⟩)]] Try.call25 (Calls.mono (delete_ok W _ _ _ _ _ _ _ _ _ hO3 hS_51) ?_)
  rintro _ w_44 ⟨a_46, cap_47, c_48, rfl, hO_49, hS_45⟩
  refine ⟨_, rfl, ?_⟩
  change Sat _ _ ([(b_1, .cells #[.int .i64 j] 3 (0, 0))] :: c_48 :: c_37 :: c_26 :: c_15 :: [(p, .cells #[.int .i64 S.cap, .slice a_13 ((without j S.q0).length) cap_14, .slice a_24 ((without j S.q1).length) cap_25, .slice a_35 ((without j S.q2).length) cap_36, .slice a3 n3 k3] 49 (0, 0))] :: F) at hS_45
  refine nilO ⟨trivial, ?_⟩
  refine wP [7] rfl (by kernel_rfl) ?_
  refine wO rfl ?_
  refine sT hS_45 5 4 (.slice a_46 ((without j S.q3).length) cap_47) [.slice a_46 ((without j S.q3).length) cap_47] #[.int .i64 S.cap, .slice a_13 ((without j S.q0).length) cap_14, .slice a_24 ((without j S.q1).length) cap_25, .slice a_35 ((without j S.q2).length) cap_36, .slice a_46 ((without j S.q3).length) cap_47] Try.sizeOf44 ?_
  intro w_52 hS_53
  change Sat _ _ ([(b_1, .cells #[.int .i64 j] 3 (0, 0))] :: c_48 :: c_37 :: c_26 :: c_15 :: [(p, .cells #[.int .i64 S.cap, .slice a_13 ((without j S.q0).length) cap_14, .slice a_24 ((without j S.q1).length) cap_25, .slice a_35 ((without j S.q2).length) cap_36, .slice a_46 ((without j S.q3).length) cap_47] 49 (0, 0))] :: F) at hS_53
  refine nilO ⟨trivial, ?_⟩
  refine wN ?_
  refine blockK_n <| thenK_n <| ?_
  refine regionE ?_
  refine p2 (by kernel_rfl) ?_
  refine nilO ?_
  refine thenK_n <| ?_
  refine roundS ?_
  refine seqE ?_
  refine regionE ?_
  refine p1 (by kernel_rfl) ?_
  refine nilO ?_
  refine thenK_n <| ?_
  refine seqE ?_
  refine condE_false (by kernel_rfl) ?_
  refine exitE (thenK_x <| thenK_x <| blockK_x <| ?_)
  refine thenK_n <| ?_
  refine seqE ?_
  refine regionE ?_
  refine p2 (by kernel_rfl) ?_
  have hS_54 := hS_53.pick 1 rfl
  have hS_55 := hS_54.pick 2 rfl
  have hS_56 := hS_55.pick 3 rfl
  have hS_57 := hS_56.pick 4 rfl
  have hS_58 := hS_57.pick 5 rfl
  change Sat _ _ ([(p, .cells #[.int .i64 S.cap, .slice a_13 ((without j S.q0).length) cap_14, .slice a_24 ((without j S.q1).length) cap_25, .slice a_35 ((without j S.q2).length) cap_36, .slice a_46 ((without j S.q3).length) cap_47] 49 (0, 0))] :: c_15 :: c_26 :: c_37 :: c_48 :: [(b_1, .cells #[.int .i64 j] 3 (0, 0))] :: F) at hS_58
  have hS_59 := hS_58.merge5
  have hbl : (S.rem j).len ≤ S.len := by have := without_len j S.q0; have := without_len j S.q1; have := without_len j S.q2; have := without_len j S.q3; simp only [Inj.len, Inj.rem]; omega
  have hln : S.len = S.q0.length + (S.q1.length + (S.q2.length + S.q3.length)) := rfl
  refine sF #[.pointer (some ⟨p, 0, none⟩)] Try.call12 (Calls.mono (inj_len W _ _ (S.rem j) _ _ ⟨_, _, _, _, _, _, _, _, _, _, _, _, _, _, _, _, rfl, hO_16, hO_27, hO_38, hO_49⟩ hS_59 (by omega)) ?_)
  rintro _ _ ⟨rfl, rfl⟩
  refine ⟨_, rfl, ?_⟩
  refine sSub ((S.len : Nat) : Int) (((S.rem j).len : Nat) : Int) ?_
  refine p1 (by kernel_rfl) ?_
  refine nilO ?_
  refine thenK_n <| ?_
  refine retE ?_
  refine retN (vs := [.int .i64 (((S.len : Nat) : Int) - (((S.rem j).len : Nat) : Int))]) rfl (.cons (.tmp _ _ (by kernel_rfl)) .nil) <| ?_
  have hS_60 := hS_58.pick 4 rfl
  have hS_61 := hS_60.pick 4 rfl
  have hS_62 := hS_61.pick 4 rfl
  have hS_63 := hS_62.pick 4 rfl
  have hS_64 := hS_63.pick 4 rfl
  change Sat _ _ ([(p, .cells #[.int .i64 S.cap, .slice a_13 ((without j S.q0).length) cap_14, .slice a_24 ((without j S.q1).length) cap_25, .slice a_35 ((without j S.q2).length) cap_36, .slice a_46 ((without j S.q3).length) cap_47] 49 (0, 0))] :: c_15 :: c_26 :: c_37 :: c_48 :: [(b_1, .cells #[.int .i64 j] 3 (0, 0))] :: F) at hS_64
  have hS_65 := hS_64.dropAt 5 rfl
  change Sat _ _ ([(p, .cells #[.int .i64 S.cap, .slice a_13 ((without j S.q0).length) cap_14, .slice a_24 ((without j S.q1).length) cap_25, .slice a_35 ((without j S.q2).length) cap_36, .slice a_46 ((without j S.q3).length) cap_47] 49 (0, 0))] :: c_15 :: c_26 :: c_37 :: c_48 :: F) at hS_65
  have hS_66 := hS_65.merge5
  exact ⟨rfl, _, ⟨_, _, _, _, _, _, _, _, _, _, _, _, _, _, _, _, rfl, hO_16, hO_27, hO_38, hO_49⟩, hS_66⟩
theorem inj_remove_nil (W w : World) (cs : List Chunk) (j : Int) (hS : Sat W w cs) :
    Calls Try.prog 18 #[.pointer none, .int .i64 j] w fun e w' => e = .returned (.int .i64 0) ∧ Sat W w' cs := by
  refine callsE (n := 33) Try.func18 rfl rfl (Nat.le_of_ble_eq_true rfl) ?_
  refine seqE ?_
  refine regionE ?_
  refine sBox hS (.int .i64 j) #[.int .i64 j] ?_
  intro b_1 w_2 hS_3
  refine p1 (by kernel_rfl) ?_
  refine nilO ?_
  refine thenK_n <| ?_
  refine seqE ?_
  refine seqE ?_
  refine regionE ?_
  refine p2 (by kernel_rfl) ?_
  refine nilO ?_
  refine thenK_n <| ?_
  refine condE_true (by kernel_rfl) ?_
  refine seqE ?_
  refine regionE ?_
  refine p1 (by kernel_rfl) ?_
  refine nilO ?_
  refine thenK_n <| ?_
  refine retE (thenK_r <| ?_)
  refine retN (vs := [.int .i64 0]) rfl (.cons (.tmp _ _ (by kernel_rfl)) .nil) <| ?_
  have hS_4 := hS_3.tail
  exact ⟨rfl, hS_4⟩
theorem inj_list_nil (W w : World) (cs : List Chunk) (b : Int) (hS : Sat W w cs) :
    Calls Try.prog 22 #[.pointer none, .int .i64 b] w fun e w' => e = .returned (.slice none 0 0) ∧ Sat W w' cs := by
  refine callsE (n := 22) Try.func22 rfl rfl (Nat.le_of_ble_eq_true rfl) ?_
  refine seqE ?_
  refine regionE ?_
  refine p1 (by kernel_rfl) ?_
  refine nilO ?_
  refine thenK_n <| ?_
  refine seqE ?_
  refine seqE ?_
  refine regionE ?_
  refine p10 (by kernel_rfl) ?_
  refine nilO ?_
  refine thenK_n <| ?_
  refine condE_true (by kernel_rfl) ?_
  refine seqE ?_
  refine regionE ?_
  refine p1 (by kernel_rfl) ?_
  refine nilO ?_
  refine thenK_n <| ?_
  refine retE (thenK_r <| ?_)
  refine retN (vs := [.slice none 0 0]) rfl (.cons (.tmp _ _ (by kernel_rfl)) .nil) <| ?_
  exact ⟨rfl, hS⟩
theorem rnj_remove (W w : World) (p : Nat) (S : Inj) (fp : Chunk) (F : List Chunk) (hI : InjR2 p S fp) (hS : Sat W w (fp :: F)) (hb : S.len ≤ 1000000000000) (j : Int) :
    Calls Try.prog 19 #[.pointer (some ⟨p, 0, none⟩), .int .i64 j] w fun e w' => e = .returned (.int .i64 (((S.len : Nat) : Int) - (((S.rem j).len : Nat) : Int))) ∧ ∃ fp' : Chunk, InjR2 p (S.rem j) fp' ∧ Sat W w' (fp' :: F) := by
  obtain ⟨a0, n0, k0, c0, a1, n1, k1, c1, a2, n2, k2, c2, a3, n3, k3, c3, rfl, hO0, hO1, hO2, hO3⟩ := hI
  have hS0 : Sat W w ([(p, .cells #[.int .i64 S.cap, .slice a0 n0 k0, .slice a1 n1 k1, .slice a2 n2 k2, .slice a3 n3 k3] 54 (0, 0))] :: c0 :: c1 :: c2 :: c3 :: F) := hS.perm (by simp)
  have hl0 := hO0.len; have hk0 := hO0.le
  have hl1 := hO1.len; have hk1 := hO1.le
  have hl2 := hO2.len; have hk2 := hO2.le
  have hl3 := hO3.len; have hk3 := hO3.le
  unfold Inj.len at hb
  refine callsE (n := 34) Try.func19 rfl rfl (Nat.le_of_ble_eq_true rfl) ?_
  refine seqE ?_
  refine regionE ?_
  refine p1 (by kernel_rfl) ?_
  refine nilO ?_
  refine thenK_n <| ?_
  refine seqE ?_
  refine regionE ?_
  refine p1 (by kernel_rfl) ?_
  have hS_1 := hS0.pick 4 rfl
  have hS_2 := hS_1.pick 4 rfl
  have hS_3 := hS_2.pick 4 rfl
  have hS_4 := hS_3.pick 4 rfl
  have hS_5 := hS_4.pick 4 rfl
  change Sat _ _ ([(p, .cells #[.int .i64 S.cap, .slice a0 n0 k0, .slice a1 n1 k1, .slice a2 n2 k2, .slice a3 n3 k3] 54 (0, 0))] :: c0 :: c1 :: c2 :: c3 :: F) at hS_5
  have hS_6 := hS_5.merge5
  have hln : S.len = S.q0.length + (S.q1.length + (S.q2.length + S.q3.length)) := rfl
  refine sF #[.pointer (some ⟨p, 0, none⟩)] Try.call24 (Calls.mono (rnj_len W _ _ S _ _ ⟨_, _, _, _, _, _, _, _, _, _, _, _, _, _, _, _, rfl, hO0, hO1, hO2, hO3⟩ hS_6 (by omega)) ?_)
  rintro _ _ ⟨rfl, rfl⟩
  refine ⟨_, rfl, ?_⟩
  refine p1 (by kernel_rfl) ?_
  refine nilO ?_
  refine thenK_n <| ?_
  refine seqE ?_
  refine seqE ?_
  refine regionE ?_
  refine p1 (by kernel_rfl) ?_
  refine nilO ?_
  refine thenK_n <| ?_
  refine blockE ?_
  refine loopN 5 ?_
  refine roundS ?_
  refine seqE ?_
  refine seqE ?_
  refine regionE ?_
  refine p6 (by kernel_rfl) ?_
  refine nilO ?_
  refine thenK_n <| ?_
  refine condE_true (by kernel_rfl) ?_
  refine skipE ?_
  refine thenK_n <| ?_
  refine seqE ?_
  refine blockE ?_
  refine drawE [9, 13] [(7, ⟨p, 1, none⟩, .slice a0 n0 k0)] [(true, [0, 1, 2, 3, 4, 5, 6, 8, 10, 11]), (true, [7]), (false, [9]), (true, [12]), (false, [13])] rfl (by kernel_rfl) ⟨.inr (hS_5.cell 0 rfl rfl), trivial⟩ ?_
  have hS_7 := hS_5.drew
  refine wP [0, 1, 2, 3, 4, 5, 6, 8, 10, 11] rfl (by kernel_rfl) ?_
  refine wS (.slice a0 n0 k0) rfl rfl rfl (fun w hF => Y_load rfl (Try.isAgg44 w) (by kernel_rfl) (hF 0 _ _ rfl)) ?_
  refine wO rfl ?_
  have hS_14 := hS_7.pick 1 rfl
  change Sat _ _ (c0 :: [(p, .cells #[.int .i64 S.cap, .slice a0 n0 k0, .slice a1 n1 k1, .slice a2 n2 k2, .slice a3 n3 k3] 54 (0, 0))] :: c1 :: c2 :: c3 :: F) at hS_14
  refine sF #[.slice a0 n0 k0, .int .i64 j] Try.call27 (Calls.mono (without_ok W _ _ _ _ _ _ _ j (hO0.rdAt (cs := [c0]) 0 rfl) (by omega) hS_14) ?_)
  rintro _ w_8 ⟨a_10, cap_11, c_12, rfl, hO_13, hS_9⟩
  refine ⟨_, rfl, ?_⟩
  change Sat _ _ (c_12 :: c0 :: [(p, .cells #[.int .i64 S.cap, .slice a0 n0 k0, .slice a1 n1 k1, .slice a2 n2 k2, .slice a3 n3 k3] 54 (0, 0))] :: c1 :: c2 :: c3 :: F) at hS_9
  refine nilO ⟨⟨.inl (by kernel_rfl), trivial⟩, ?_⟩
  refine wP [12] rfl (by kernel_rfl) ?_
  refine wO rfl ?_
  refine sT hS_9 2 1 (.slice a_10 ((without j S.q0).length) cap_11) [.slice a_10 ((without j S.q0).length) cap_11] #[.int .i64 S.cap, .slice a_10 ((without j S.q0).length) cap_11, .slice a1 n1 k1, .slice a2 n2 k2, .slice a3 n3 k3] Try.sizeOf44 ?_
  intro w_15 hS_16
  change Sat _ _ (c_12 :: c0 :: [(p, .cells #[.int .i64 S.cap, .slice a_10 ((without j S.q0).length) cap_11, .slice a1 n1 k1, .slice a2 n2 k2, .slice a3 n3 k3] 54 (0, 0))] :: c1 :: c2 :: c3 :: F) at hS_16
  refine nilO ⟨⟨.inl (by kernel_rfl), trivial⟩, ?_⟩
  refine wN ?_
  refine blockK_n <| thenK_n <| ?_
  refine regionE ?_
  refine p3 (by kernel_rfl) ?_
  refine nilO ?_
  refine thenK_n <| ?_
  refine roundS ?_
  refine seqE ?_
  refine seqE ?_
  refine regionE ?_
  refine p6 (by kernel_rfl) ?_
  refine nilO ?_
  refine thenK_n <| ?_
  refine condE_true (by kernel_rfl) ?_
  refine skipE ?_
  refine thenK_n <| ?_
  refine seqE ?_
  refine blockE ?_
  refine drawE [9, 13] [(7, ⟨p, 2, none⟩, .slice a1 n1 k1)] [(true, [0, 1, 2, 3, 4, 5, 6, 8, 10, 11]), (true, [7]), (false, [9]), (true, [12]), (false, [13])] rfl (by kernel_rfl) ⟨.inr (hS_16.cell 2 rfl rfl), trivial⟩ ?_
  have hS_17 := hS_16.drew
  refine wP [0, 1, 2, 3, 4, 5, 6, 8, 10, 11] rfl (by kernel_rfl) ?_
  refine wS (.slice a1 n1 k1) rfl rfl rfl (fun w hF => Y_load rfl (Try.isAgg44 w) (by kernel_rfl) (hF 0 _ _ rfl)) ?_
  refine wO rfl ?_
  have hS_24 := hS_17.pick 3 rfl
  change Sat _ _ (c1 :: c_12 :: c0 :: [(p, .cells #[.int .i64 S.cap, .slice a_10 ((without j S.q0).length) cap_11, .slice a1 n1 k1, .slice a2 n2 k2, .slice a3 n3 k3] 54 (0, 0))] :: c2 :: c3 :: F) at hS_24
  refine sF #[.slice a1 n1 k1, .int .i64 j] Try.call27 (Calls.mono (without_ok W _ _ _ _ _ _ _ j (hO1.rdAt (cs := [c1]) 0 rfl) (by omega) hS_24) ?_)
  rintro _ w_18 ⟨a_20, cap_21, c_22, rfl, hO_23, hS_19⟩
  refine ⟨_, rfl, ?_⟩
  change Sat _ _ (c_22 :: c1 :: c_12 :: c0 :: [(p, .cells #[.int .i64 S.cap, .slice a_10 ((without j S.q0).length) cap_11, .slice a1 n1 k1, .slice a2 n2 k2, .slice a3 n3 k3] 54 (0, 0))] :: c2 :: c3 :: F) at hS_19
  refine nilO ⟨⟨.inl (by kernel_rfl), trivial⟩, ?_⟩
  refine wP [12] rfl (by kernel_rfl) ?_
  refine wO rfl ?_
  refine sT hS_19 4 2 (.slice a_20 ((without j S.q1).length) cap_21) [.slice a_20 ((without j S.q1).length) cap_21] #[.int .i64 S.cap, .slice a_10 ((without j S.q0).length) cap_11, .slice a_20 ((without j S.q1).length) cap_21, .slice a2 n2 k2, .slice a3 n3 k3] Try.sizeOf44 ?_
  intro w_25 hS_26
  change Sat _ _ (c_22 :: c1 :: c_12 :: c0 :: [(p, .cells #[.int .i64 S.cap, .slice a_10 ((without j S.q0).length) cap_11, .slice a_20 ((without j S.q1).length) cap_21, .slice a2 n2 k2, .slice a3 n3 k3] 54 (0, 0))] :: c2 :: c3 :: F) at hS_26
  refine nilO ⟨⟨.inl (by kernel_rfl), trivial⟩, ?_⟩
  refine wN ?_
  refine blockK_n <| thenK_n <| ?_
  refine regionE ?_
  refine p3 (by kernel_rfl) ?_
  refine nilO ?_
  refine thenK_n <| ?_
  refine roundS ?_
  refine seqE ?_
  refine seqE ?_
  refine regionE ?_
  refine p6 (by kernel_rfl) ?_
  refine nilO ?_
  refine thenK_n <| ?_
  refine condE_true (by kernel_rfl) ?_
  refine skipE ?_
  refine thenK_n <| ?_
  refine seqE ?_
  refine blockE ?_
  refine drawE [9, 13] [(7, ⟨p, 3, none⟩, .slice a2 n2 k2)] [(true, [0, 1, 2, 3, 4, 5, 6, 8, 10, 11]), (true, [7]), (false, [9]), (true, [12]), (false, [13])] rfl (by kernel_rfl) ⟨.inr (hS_26.cell 4 rfl rfl), trivial⟩ ?_
  have hS_27 := hS_26.drew
  refine wP [0, 1, 2, 3, 4, 5, 6, 8, 10, 11] rfl (by kernel_rfl) ?_
  refine wS (.slice a2 n2 k2) rfl rfl rfl (fun w hF => Y_load rfl (Try.isAgg44 w) (by kernel_rfl) (hF 0 _ _ rfl)) ?_
  refine wO rfl ?_
  have hS_34 := hS_27.pick 5 rfl
  change Sat _ _ (c2 :: c_22 :: c1 :: c_12 :: c0 :: [(p, .cells #[.int .i64 S.cap, .slice a_10 ((without j S.q0).length) cap_11, .slice a_20 ((without j S.q1).length) cap_21, .slice a2 n2 k2, .slice a3 n3 k3] 54 (0, 0))] :: c3 :: F) at hS_34
  refine sF #[.slice a2 n2 k2, .int .i64 j] Try.call27 (Calls.mono (without_ok W _ _ _ _ _ _ _ j (hO2.rdAt (cs := [c2]) 0 rfl) (by omega) hS_34) ?_)
  rintro _ w_28 ⟨a_30, cap_31, c_32, rfl, hO_33, hS_29⟩
  refine ⟨_, rfl, ?_⟩
  change Sat _ _ (c_32 :: c2 :: c_22 :: c1 :: c_12 :: c0 :: [(p, .cells #[.int .i64 S.cap, .slice a_10 ((without j S.q0).length) cap_11, .slice a_20 ((without j S.q1).length) cap_21, .slice a2 n2 k2, .slice a3 n3 k3] 54 (0, 0))] :: c3 :: F) at hS_29
  refine nilO ⟨⟨.inl (by kernel_rfl), trivial⟩, ?_⟩
  refine wP [12] rfl (by kernel_rfl) ?_
  refine wO rfl ?_
  refine sT hS_29 6 3 (.slice a_30 ((without j S.q2).length) cap_31) [.slice a_30 ((without j S.q2).length) cap_31] #[.int .i64 S.cap, .slice a_10 ((without j S.q0).length) cap_11, .slice a_20 ((without j S.q1).length) cap_21, .slice a_30 ((without j S.q2).length) cap_31, .slice a3 n3 k3] Try.sizeOf44 ?_
  intro w_35 hS_36
  change Sat _ _ (c_32 :: c2 :: c_22 :: c1 :: c_12 :: c0 :: [(p, .cells #[.int .i64 S.cap, .slice a_10 ((without j S.q0).length) cap_11, .slice a_20 ((without j S.q1).length) cap_21, .slice a_30 ((without j S.q2).length) cap_31, .slice a3 n3 k3] 54 (0, 0))] :: c3 :: F) at hS_36
  refine nilO ⟨⟨.inl (by kernel_rfl), trivial⟩, ?_⟩
  refine wN ?_
  refine blockK_n <| thenK_n <| ?_
  refine regionE ?_
  refine p3 (by kernel_rfl) ?_
  refine nilO ?_
  refine thenK_n <| ?_
  refine roundS ?_
  refine seqE ?_
  refine seqE ?_
  refine regionE ?_
  refine p6 (by kernel_rfl) ?_
  refine nilO ?_
  refine thenK_n <| ?_
  refine condE_true (by kernel_rfl) ?_
  refine skipE ?_
  refine thenK_n <| ?_
  refine seqE ?_
  refine blockE ?_
  refine drawE [9, 13] [(7, ⟨p, 4, none⟩, .slice a3 n3 k3)] [(true, [0, 1, 2, 3, 4, 5, 6, 8, 10, 11]), (true, [7]), (false, [9]), (true, [12]), (false, [13])] rfl (by kernel_rfl) ⟨.inr (hS_36.cell 6 rfl rfl), trivial⟩ ?_
  have hS_37 := hS_36.drew
  refine wP [0, 1, 2, 3, 4, 5, 6, 8, 10, 11] rfl (by kernel_rfl) ?_
  refine wS (.slice a3 n3 k3) rfl rfl rfl (fun w hF => Y_load rfl (Try.isAgg44 w) (by kernel_rfl) (hF 0 _ _ rfl)) ?_
  refine wO rfl ?_
  have hS_44 := hS_37.pick 7 rfl
  change Sat _ _ (c3 :: c_32 :: c2 :: c_22 :: c1 :: c_12 :: c0 :: [(p, .cells #[.int .i64 S.cap, .slice a_10 ((without j S.q0).length) cap_11, .slice a_20 ((without j S.q1).length) cap_21, .slice a_30 ((without j S.q2).length) cap_31, .slice a3 n3 k3] 54 (0, 0))] :: F) at hS_44
  refine sF #[.slice a3 n3 k3, .int .i64 j] Try.call27 (Calls.mono (without_ok W _ _ _ _ _ _ _ j (hO3.rdAt (cs := [c3]) 0 rfl) (by omega) hS_44) ?_)
  rintro _ w_38 ⟨a_40, cap_41, c_42, rfl, hO_43, hS_39⟩
  refine ⟨_, rfl, ?_⟩
  change Sat _ _ (c_42 :: c3 :: c_32 :: c2 :: c_22 :: c1 :: c_12 :: c0 :: [(p, .cells #[.int .i64 S.cap, .slice a_10 ((without j S.q0).length) cap_11, .slice a_20 ((without j S.q1).length) cap_21, .slice a_30 ((without j S.q2).length) cap_31, .slice a3 n3 k3] 54 (0, 0))] :: F) at hS_39
  refine nilO ⟨⟨.inl (by kernel_rfl), trivial⟩, ?_⟩
  refine wP [12] rfl (by kernel_rfl) ?_
  refine wO rfl ?_
  refine sT hS_39 8 4 (.slice a_40 ((without j S.q3).length) cap_41) [.slice a_40 ((without j S.q3).length) cap_41] #[.int .i64 S.cap, .slice a_10 ((without j S.q0).length) cap_11, .slice a_20 ((without j S.q1).length) cap_21, .slice a_30 ((without j S.q2).length) cap_31, .slice a_40 ((without j S.q3).length) cap_41] Try.sizeOf44 ?_
  intro w_45 hS_46
  change Sat _ _ (c_42 :: c3 :: c_32 :: c2 :: c_22 :: c1 :: c_12 :: c0 :: [(p, .cells #[.int .i64 S.cap, .slice a_10 ((without j S.q0).length) cap_11, .slice a_20 ((without j S.q1).length) cap_21, .slice a_30 ((without j S.q2).length) cap_31, .slice a_40 ((without j S.q3).length) cap_41] 54 (0, 0))] :: F) at hS_46
  refine nilO ⟨⟨.inl (by kernel_rfl), trivial⟩, ?_⟩
  refine wN ?_
  refine blockK_n <| thenK_n <| ?_
  refine regionE ?_
  refine p3 (by kernel_rfl) ?_
  refine nilO ?_
  refine thenK_n <| ?_
  refine roundS ?_
  refine seqE ?_
  refine seqE ?_
  refine regionE ?_
  refine p6 (by kernel_rfl) ?_
  refine nilO ?_
  refine thenK_n <| ?_
  refine condE_false (by kernel_rfl) ?_
  refine exitE (thenK_x <| thenK_x <| blockK_x <| ?_)
  refine thenK_n <| ?_
  refine seqE ?_
  refine regionE ?_
  refine p2 (by kernel_rfl) ?_
  have hS_47 := hS_46.pick 0 rfl
  have hS_48 := hS_47.pick 2 rfl
  have hS_49 := hS_48.pick 4 rfl
  have hS_50 := hS_49.pick 6 rfl
  have hS_51 := hS_50.pick 8 rfl
  change Sat _ _ ([(p, .cells #[.int .i64 S.cap, .slice a_10 ((without j S.q0).length) cap_11, .slice a_20 ((without j S.q1).length) cap_21, .slice a_30 ((without j S.q2).length) cap_31, .slice a_40 ((without j S.q3).length) cap_41] 54 (0, 0))] :: c_12 :: c_22 :: c_32 :: c_42 :: c3 :: c2 :: c1 :: c0 :: F) at hS_51
  have hS_52 := hS_51.merge5
  have hbl : (S.rem j).len ≤ S.len := by have := without_len j S.q0; have := without_len j S.q1; have := without_len j S.q2; have := without_len j S.q3; simp only [Inj.len, Inj.rem]; omega
  have hln : S.len = S.q0.length + (S.q1.length + (S.q2.length + S.q3.length)) := rfl
  refine sF #[.pointer (some ⟨p, 0, none⟩)] Try.call24 (Calls.mono (rnj_len W _ _ (S.rem j) _ _ ⟨_, _, _, _, _, _, _, _, _, _, _, _, _, _, _, _, rfl, hO_13, hO_23, hO_33, hO_43⟩ hS_52 (by omega)) ?_)
  rintro _ _ ⟨rfl, rfl⟩
  refine ⟨_, rfl, ?_⟩
  refine sSub ((S.len : Nat) : Int) (((S.rem j).len : Nat) : Int) ?_
  refine p1 (by kernel_rfl) ?_
  refine nilO ?_
  refine thenK_n <| ?_
  refine retE ?_
  refine retN (vs := [.int .i64 (((S.len : Nat) : Int) - (((S.rem j).len : Nat) : Int))]) rfl (.cons (.tmp _ _ (by kernel_rfl)) .nil) <| ?_
  have hS_53 := hS_51.pick 4 rfl
  have hS_54 := hS_53.pick 4 rfl
  have hS_55 := hS_54.pick 4 rfl
  have hS_56 := hS_55.pick 4 rfl
  have hS_57 := hS_56.pick 4 rfl
  change Sat _ _ ([(p, .cells #[.int .i64 S.cap, .slice a_10 ((without j S.q0).length) cap_11, .slice a_20 ((without j S.q1).length) cap_21, .slice a_30 ((without j S.q2).length) cap_31, .slice a_40 ((without j S.q3).length) cap_41] 54 (0, 0))] :: c_12 :: c_22 :: c_32 :: c_42 :: c3 :: c2 :: c1 :: c0 :: F) at hS_57
  have hS_58 := hS_57.dropAt 5 rfl
  have hS_59 := hS_58.dropAt 5 rfl
  have hS_60 := hS_59.dropAt 5 rfl
  have hS_61 := hS_60.dropAt 5 rfl
  change Sat _ _ ([(p, .cells #[.int .i64 S.cap, .slice a_10 ((without j S.q0).length) cap_11, .slice a_20 ((without j S.q1).length) cap_21, .slice a_30 ((without j S.q2).length) cap_31, .slice a_40 ((without j S.q3).length) cap_41] 54 (0, 0))] :: c_12 :: c_22 :: c_32 :: c_42 :: F) at hS_61
  have hS_62 := hS_61.merge5
  exact ⟨rfl, _, ⟨_, _, _, _, _, _, _, _, _, _, _, _, _, _, _, _, rfl, hO_13, hO_23, hO_33, hO_43⟩, hS_62⟩
theorem rnj_remove_nil (W w : World) (cs : List Chunk) (j : Int) (hS : Sat W w cs) :
    Calls Try.prog 19 #[.pointer none, .int .i64 j] w fun e w' => e = .returned (.int .i64 0) ∧ Sat W w' cs := by
  refine callsE (n := 34) Try.func19 rfl rfl (Nat.le_of_ble_eq_true rfl) ?_
  refine seqE ?_
  refine regionE ?_
  refine p1 (by kernel_rfl) ?_
  refine nilO ?_
  refine thenK_n <| ?_
  refine seqE ?_
  refine regionE ?_
  refine p1 (by kernel_rfl) ?_
  refine sF #[.pointer none] Try.call24 (Calls.mono (rnj_len_nil _) ?_)
  rintro _ _ ⟨rfl, rfl⟩
  refine ⟨_, rfl, ?_⟩
  refine p1 (by kernel_rfl) ?_
  refine nilO ?_
  refine thenK_n <| ?_
  refine seqE ?_
  refine seqE ?_
  refine regionE ?_
  refine p1 (by kernel_rfl) ?_
  refine nilO ?_
  refine thenK_n <| ?_
  refine blockE ?_
  refine loopN 5 ?_
  refine roundS ?_
  refine seqE ?_
  refine seqE ?_
  refine regionE ?_
  refine p6 (by kernel_rfl) ?_
  refine nilO ?_
  refine thenK_n <| ?_
  refine condE_false (by kernel_rfl) ?_
  refine exitE (thenK_x <| thenK_x <| blockK_x <| ?_)
  refine thenK_n <| ?_
  refine seqE ?_
  refine regionE ?_
  refine p2 (by kernel_rfl) ?_
  refine sF #[.pointer none] Try.call24 (Calls.mono (rnj_len_nil _) ?_)
  rintro _ _ ⟨rfl, rfl⟩
  refine ⟨_, rfl, ?_⟩
  refine p2 (by kernel_rfl) ?_
  refine nilO ?_
  refine thenK_n <| ?_
  refine retE ?_
  refine retN (vs := [.int .i64 0]) rfl (.cons (.tmp _ _ (by kernel_rfl)) .nil) <| ?_
  exact ⟨rfl, hS⟩
theorem rnj_list_nil (W w : World) (cs : List Chunk) (b : Int) (hS : Sat W w cs) :
    Calls Try.prog 23 #[.pointer none, .int .i64 b] w fun e w' => e = .returned (.slice none 0 0) ∧ Sat W w' cs := by
  refine callsE (n := 22) Try.func23 rfl rfl (Nat.le_of_ble_eq_true rfl) ?_
  refine seqE ?_
  refine regionE ?_
  refine p1 (by kernel_rfl) ?_
  refine nilO ?_
  refine thenK_n <| ?_
  refine seqE ?_
  refine seqE ?_
  refine regionE ?_
  refine p10 (by kernel_rfl) ?_
  refine nilO ?_
  refine thenK_n <| ?_
  refine condE_true (by kernel_rfl) ?_
  refine seqE ?_
  refine regionE ?_
  refine p1 (by kernel_rfl) ?_
  refine nilO ?_
  refine thenK_n <| ?_
  refine retE (thenK_r <| ?_)
  refine retN (vs := [.slice none 0 0]) rfl (.cons (.tmp _ _ (by kernel_rfl)) .nil) <| ?_
  exact ⟨rfl, hS⟩
end Go.Proofs.Ytmbiiginpomjnaa
