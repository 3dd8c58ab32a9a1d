import Derived.Test.YtegmennaekipaaaPd
namespace Go.Proofs.Ytegmennaekipaaa
open Go Go.E
set_option linter.unusedVariables false
set_option linter.unusedSimpArgs false
set_option linter.unnecessarySimpa false
set_option maxRecDepth 100000
set_option maxHeartbeats 2000000
variable {W w : World} {H : Chunk} {F : List Chunk}

theorem tail_part2 {l : List Ref} {n : Nat} (h : l.length = n) : (l.drop 1).take (n - 1) = l.tail := by
  rw [List.take_of_length_le (by simp; omega), List.drop_one]
theorem take_snoc {l : List Ref} {k : Nat} {x : Ref} (h : l[k]? = some x) : l.take (k + 1) = l.take k ++ [x] := take_succ_at h
theorem without_none {l : List Ref} {j : Int} (h : ∀ (k : Nat) (x : Ref), l[k]? = some x → ¬ x.job = j) : without j l = l := by
  refine List.filter_eq_self.2 fun x hx => ?_
  obtain ⟨k, hk⟩ := List.getElem?_of_mem hx
  simpa using h k x hk
/-- One more round of DeleteFunc, the task kept. -/
theorem del_keep {xs ys : List Ref} {i k : Nat} {x : Ref} {j : Int} (hl : ys.length = xs.length) (hi : i < k) (h1 : ys.take i = without j (xs.take k)) (h2 : ys.drop k = xs.drop k) (hx : ys[k]? = some x) (hj : ¬ x.job = j) :
    (ys.set i x).length = xs.length ∧ (ys.set i x).take (i + 1) = without j (xs.take (k + 1)) ∧ (ys.set i x).drop (k + 1) = xs.drop (k + 1) := by
  have hk : k < ys.length := (List.getElem?_eq_some_iff.1 hx).1
  have hxx : xs[k]? = some x := by
    have e1 : (ys.drop k)[0]? = ys[k]? := by simp
    have e2 : (xs.drop k)[0]? = xs[k]? := by simp
    rw [← e2, ← h2, e1, hx]
  refine ⟨by simp [hl], ?_, ?_⟩
  · rw [without_snoc hxx hj, ← h1]
    rw [take_snoc (l := ys.set i x) (k := i) (x := x) (by rw [List.getElem?_set_self (by omega)])]
    congr 1
    rw [List.take_set_of_le (by omega)]
  · rw [List.drop_set_of_lt (by omega)]
    have e1 : ys.drop (k + 1) = (ys.drop k).drop 1 := by simp
    have e2 : xs.drop (k + 1) = (xs.drop k).drop 1 := by simp
    rw [e1, e2, h2]
theorem del_drop {xs ys : List Ref} {i k : Nat} {x : Ref} {j : Int} (h1 : ys.take i = without j (xs.take k)) (h2 : ys.drop k = xs.drop k) (hx : ys[k]? = some x) (hj : x.job = j) :
    ys.take i = without j (xs.take (k + 1)) ∧ ys.drop (k + 1) = xs.drop (k + 1) := by
  have hxx : xs[k]? = some x := by
    have e1 : (ys.drop k)[0]? = ys[k]? := by simp
    have e2 : (xs.drop k)[0]? = xs[k]? := by simp
    rw [← e2, ← h2, e1, hx]
  refine ⟨by rw [without_same hxx hj, h1], ?_⟩
  have e1 : ys.drop (k + 1) = (ys.drop k).drop 1 := by simp
  have e2 : xs.drop (k + 1) = (xs.drop k).drop 1 := by simp
  rw [e1, e2, h2]
/-- What IndexFunc answers. -/
def IdxP (xs : List Ref) (j : Int) (n : Nat) (r : Int) : Prop := ((r = -1 ∧ ∀ (k : Nat) (x : Ref), xs[k]? = some x → ¬ x.job = j) ∨ ∃ i : Nat, r = (i : Int) ∧ i < n ∧ (∃ x : Ref, xs[i]? = some x ∧ x.job = j) ∧ ∀ (k : Nat) (x : Ref), k < i → xs[k]? = some x → ¬ x.job = j)

def InjP (p : Nat) (S : QS) (M : Chunk) : Prop := ∃ (a0 : Option Addr) (n0 k0 : Nat) (l0 : List Ref) (c0 : Chunk) (a1 : Option Addr) (n1 k1 : Nat) (l1 : List Ref) (c1 : Chunk) (a2 : Option Addr) (n2 k2 : Nat) (l2 : List Ref) (c2 : Chunk) (a3 : Option Addr) (n3 k3 : Nat) (l3 : List Ref) (c3 : Chunk), M = [(p, .cells #[.int .i64 S.cap, .slice a0 n0 k0, .slice a1 n1 k1, .slice a2 n2 k2, .slice a3 n3 k3] 114 (0, 0))] ++ (c0 ++ (c1 ++ (c2 ++ c3))) ∧ OwnT encRef 48 2 a0 n0 k0 l0 c0 ∧ OwnT encRef 48 2 a1 n1 k1 l1 c1 ∧ OwnT encRef 48 2 a2 n2 k2 l2 c2 ∧ OwnT encRef 48 2 a3 n3 k3 l3 c3 ∧ S.bs = [l0, l1, l2, l3] ∧ (1 ≤ S.cap ∧ S.cap ≤ 4096) ∧ totB S.bs ≤ S.cap
theorem del_ok (W w : World) (bj : Nat) (F : List Chunk) (r : Ref) (j : Int) (hS : Sat W w ([(bj, .cells #[.int .i64 j] 3 (0, 0))] :: F)) :
    Calls Try.prog 95 #[.agg #[.int .i64 r.job, .int .i64 r.task], .pointer (some ⟨bj, 0, none⟩)] w fun e w' => e = .returned (.bool (r.job == j)) ∧ Sat W w' ([(bj, .cells #[.int .i64 j] 3 (0, 0))] :: F) := by
  refine callsA 8 Try.func95 rfl ?_
  refine seqE <| regionE ?_
  refine sBox hS (.agg #[.int .i64 r.job, .int .i64 r.task]) #[.int .i64 r.job, .int .i64 r.task] ?_
  intro b_1 w_2 hS_3
  refine pu1 <| nilO <| thenK_n <| seqE <| regionE <| pu1 ?_
  refine sL hS_3 0 0 (.int .i64 r.job) (Try.isAgg3 _) ?_
  refine sL hS_3 1 0 (.int .i64 j) (Try.isAgg3 _) ?_
  refine pu2 <| nilO <| thenK_n <| retE <| retT [.bool ((r.job : Int) == j)] <| ?_
  have hS_4 := (hS_3.dropAt 0 rfl)
  exact ⟨rfl, hS_4⟩
theorem index_ok (W w : World) (bj : Nat) (G : Chunk) (F : List Chunk) (a : Option Addr) (n cap : Nat) (xs : List Ref) (j : Int) (hR : RdT encRef 2 [G] a n cap xs) (hS : Sat W w ([(bj, .cells #[.int .i64 j] 3 (0, 0))] :: G :: F)) :
    Calls Try.prog 112 #[.slice a n cap, .func (.func 95) #[] #[.pointer (some ⟨bj, 0, none⟩)]] w fun e w' => ∃ r : Int, e = .returned (.int .i64 r) ∧ (-1 ≤ r ∧ r < n) ∧ IdxP xs j n r ∧ Sat W w' ([(bj, .cells #[.int .i64 j] 3 (0, 0))] :: G :: F) := by
  have hl := hR.len; have hle := hR.le
  refine callsA 19 Try.func112 rfl ?_
  refine seqE <| regionE <| pu1 <| nilO <| thenK_n <| seqE <| seqE <| regionE <| pu3 <| nilO <| thenK_n <| blockE ?_
  refine loopA (γ := Nat) (fun i => [(0, .slice a n cap), (1, .func (.func 95) #[] #[.pointer (some ⟨bj, 0, none⟩)]), (7, .int .i64 ((n : Nat) : Int)), (8, .int .i64 ((i : Nat) : Int))]) (fun i w => Sat W w ([(bj, .cells #[.int .i64 j] 3 (0, 0))] :: G :: F) ∧ i ≤ n ∧ (∀ (k : Nat) (x : Ref), k < i → xs[k]? = some x → ¬ x.job = j)) (fun i => n - i) 0 ⟨hS, by omega, fun k x hk => absurd hk (by omega)⟩ ?_
  rintro i ρ w_1 ⟨hS_2, hi, hnone⟩
  refine seqE <| regionE <| pu1 <| nilO <| thenK_n <| seqE ?_
  refine cD (((i : Nat) : Int) < ((n : Nat) : Int)) (fun hc_3 => ?_) (fun hc_3 => ?_)
  rotate_left
  · refine exitE <| thenK_x <| thenK_x <| blockK_x <| thenK_n <| seqE <| regionE <| pu1 <| nilO <| thenK_n <| retE <| retT [.int .i64 (-1)] <| ?_
    exact ⟨-1, rfl, by omega, .inl ⟨rfl, fun k x hk => hnone k x (by have := (List.getElem?_eq_some_iff.1 hk).1; omega) hk⟩, hS_2⟩
  refine skipE <| thenK_n <| seqE <| blockE <| seqE <| regionE <| pu2 <| nilO <| thenK_n <| seqE <| regionE <| pu3 ?_
  refine sIdx hR ((i : Nat) : Int) Try.runUnderlying52 Try.sizeOf48 ?_
  intro x_4 b_5 o_6 hx_7 hp_8
  rw [Int.toNat_natCast] at hx_7
  refine sLpA hS_2 (hp_8.up 1 rfl) 0 [.int .i64 x_4.job, .int .i64 x_4.task] (Try.isAgg48 _) (Try.sizeOf48 _) ?_
  refine sC #[.agg #[.int .i64 x_4.job, .int .i64 x_4.task], .pointer (some ⟨bj, 0, none⟩)] #[.pointer (some ⟨bj, 0, none⟩)] Try.call95 (Calls.mono (del_ok W _ _ _ ⟨x_4.job, x_4.task⟩ _ hS_2) ?_)
  rintro _ w_9 ⟨rfl, hS_10⟩
  refine ⟨_, rfl, ?_⟩
  refine nilO <| thenK_n <| ?_
  refine cE x_4.job j (fun hc_11 => ?_) (fun hc_11 => ?_)
  · refine seqE <| regionE <| pu2 <| nilO <| thenK_n <| retE <| blockK_r <| thenK_r <| thenK_r <| blockK_r <| thenK_r <| retT [.int .i64 ((i : Nat) : Int)] <| ?_
    exact ⟨_, rfl, by omega, .inr ⟨i, rfl, by omega, ⟨x_4, hx_7, hc_11⟩, fun k y hk => hnone k y hk⟩, hS_10⟩
  refine skipE <| blockK_n <| thenK_n <| regionE ?_
  refine sAdd ((i : Nat) : Int) 1 ?_
  refine pu1 <| nilO <| thenK_n <| ?_
  have hnj : ¬ x_4.job = j := hc_11
  exact ⟨i + 1, by first | omega | (dsimp only; omega), alA, hS_10, by omega, fun k y hk hy => by by_cases hki : k = i; exact (by subst hki; rw [hx_7] at hy; cases hy; exact hnj); exact hnone k y (by omega) hy⟩
theorem delete_ok (W w : World) (bj : Nat) (c : Chunk) (F : List Chunk) (a : Option Addr) (n cap : Nat) (xs : List Ref) (j : Int) (hO : OwnT encRef 48 2 a n cap xs c) (hS : Sat W w ([(bj, .cells #[.int .i64 j] 3 (0, 0))] :: c :: F)) :
    Calls Try.prog 94 #[.slice a n cap, .func (.func 95) #[] #[.pointer (some ⟨bj, 0, none⟩)]] w fun e w' => ∃ (a' : Option Addr) (cap' : Nat) (c' : Chunk), e = .returned (.slice a' (without j xs).length cap') ∧ OwnT encRef 48 2 a' (without j xs).length cap' (without j xs) c' ∧ Sat W w' ([(bj, .cells #[.int .i64 j] 3 (0, 0))] :: c' :: F) := by
  have hl := hO.len; have hle := hO.le
  refine callsA 42 Try.func94 rfl ?_
  refine seqE <| regionE <| pu1 <| nilO <| thenK_n <| seqE <| regionE <| pu2 ?_
  have hS_6 := ((hS.pick 1 rfl).pick 1 rfl)
  refine sF #[.slice a n cap, .func (.func 95) #[] #[.pointer (some ⟨bj, 0, none⟩)]] Try.call112 (Calls.mono (index_ok W _ _ _ _ _ _ _ _ _ (hO.rdAt (cs := [c]) 0 rfl) hS_6) ?_)
  rintro _ w_1 ⟨r_3, rfl, hb_5, hr_4, hS_2⟩
  refine ⟨_, rfl, ?_⟩
  refine pu1 <| nilO <| thenK_n <| seqE <| seqE <| regionE <| pu2 <| nilO <| thenK_n <| ?_
  refine cE r_3 (-1) (fun hc_7 => ?_) (fun hc_7 => ?_)
  · refine seqE <| regionE <| pu2 <| nilO <| thenK_n <| retE <| thenK_r <| retT [.slice a n cap] <| ?_
    have hw : without j xs = xs := without_none (by rcases hr_4 with h | ⟨i, h, _⟩; exact h.2; omega)
    rw [hw, hl]
    exact ⟨_, _, _, rfl, hO, hS_2⟩
  refine skipE <| thenK_n <| seqE <| seqE <| regionE <| pu1 ?_
  refine sAdd r_3 1 ?_
  refine pu1 <| nilO <| thenK_n <| blockE ?_
  obtain ⟨i0, hi0e, hi0, ⟨x0, hx0, hj0⟩, hno⟩ : ∃ i : Nat, r_3 = (i : Int) ∧ i < n ∧ (∃ x : Ref, xs[i]? = some x ∧ x.job = j) ∧ ∀ (k : Nat) (x : Ref), k < i → xs[k]? = some x → ¬ x.job = j := by
    rcases hr_4 with h | h
    · omega
    · exact h
  subst hi0e
  have hp0 : without j (xs.take i0) = xs.take i0 := without_none fun k x hk => by have h3 := (List.getElem?_eq_some_iff.1 hk).1; rw [List.getElem?_take, if_pos (by simp at h3; omega)] at hk; exact hno k x (by simp at h3; omega) hk
  refine loopA (γ := Nat × Nat × (List Ref) × Chunk) (fun ⟨i, k, ys, c2⟩ => [(0, .slice a n cap), (1, .func (.func 95) #[] #[.pointer (some ⟨bj, 0, none⟩)]), (5, .int .i64 ((i : Nat) : Int)), (6, .int .i64 ((k : Nat) : Int))]) (fun ⟨i, k, ys, c2⟩ w => Sat W w ([(bj, .cells #[.int .i64 j] 3 (0, 0))] :: c2 :: F) ∧ OwnT encRef 48 2 a n cap ys c2 ∧ (k ≤ n ∧ i < k) ∧ ys.take i = without j (xs.take k) ∧ ys.drop k = xs.drop k ∧ ys.length = xs.length) (fun ⟨i, k, ys, c2⟩ => n - k) (i0, i0 + 1, xs, c) ⟨hS_2, hO, by omega, by rw [without_same hx0 hj0, hp0], rfl, rfl⟩ ?_
  rintro ⟨i, k, ys, c2⟩ ρ w_8 ⟨hS_9, hOy, hk, h1, h2, hyl⟩
  refine seqE <| seqE <| regionE <| pu4 <| nilO <| thenK_n <| ?_
  refine cD (((k : Nat) : Int) < ((n : Nat) : Int)) (fun hc_10 => ?_) (fun hc_10 => ?_)
  rotate_left
  · refine exitE <| thenK_x <| thenK_x <| blockK_x <| thenK_n <| seqE <| regionE <| pu2 ?_
    refine sSl (some ((i : Nat) : Int)) none i n Try.runUnderlying52 Try.sizeOf48 ⟨by omega, by omega⟩ rfl (by omega) (by omega) ?_ (a := a) (len := n) (cap := cap)
    have hP_38 := hOy.part (lo := i) (hi := n) (by omega) (by omega)
    refine sClear hS_9 hOy 1 ⟨0, 0⟩ (lo := i) (by omega) Try.runUnderlying52 Try.zeroValue48 (by kernel_rfl) ?_
    intro w_39 c_41 hO_42 hS_40
    refine nilO <| thenK_n <| seqE <| regionE <| pu2 ?_
    refine sSl none (some ((i : Nat) : Int)) 0 i Try.runUnderlying52 Try.sizeOf48 rfl ⟨by omega, by omega⟩ (by omega) (by omega) ?_ (a := a) (len := n) (cap := cap)
    have hP_43 := hO_42.part (lo := 0) (hi := i) (by omega) (by omega)
    refine pu1 <| nilO <| thenK_n <| retE <| retT [.slice (partAddr a cap 0 2) (i - 0) (cap - 0)] <| ?_
    have hfin := hP_43
    have hy : ((List.take i ys ++ List.replicate (n - i) (⟨0, 0⟩ : Ref)).drop 0).take (i - 0) = without j xs := by rw [List.drop_zero, Nat.sub_zero, List.take_append_of_le_length (by simp; omega), List.take_take, Nat.min_self, h1, List.take_of_length_le (by omega)]
    rw [hy] at hfin
    have hlen := hfin.len
    rw [hlen]
    exact ⟨_, _, _, rfl, hfin, hS_40⟩
  refine skipE <| thenK_n <| seqE <| blockE <| seqE <| regionE <| pu2 ?_
  refine sIdxO hOy ((k : Nat) : Int) k Try.runUnderlying52 Try.sizeOf48 ?_
  intro x_11 b_12 o_13 hx_14 hp_15 hq_16
  refine sLpA hS_9 (hp_15.up 1 rfl) 0 [.int .i64 x_11.job, .int .i64 x_11.task] (Try.isAgg48 _) (Try.sizeOf48 _) ?_
  refine sAlloc hS_9 Try.zeroValue48 ?_
  intro b_17 w_18 hS_19
  refine sT hS_19 0 0 (.agg #[.int .i64 x_11.job, .int .i64 x_11.task]) [.int .i64 x_11.job, .int .i64 x_11.task] #[.int .i64 x_11.job, .int .i64 x_11.task] Try.sizeOf48 ?_
  intro w_20 hS_21
  refine nilO <| thenK_n <| seqE <| regionE <| pu1 ?_
  refine lA hS_21 0 0 2 (Try.isAgg48 _) (Try.sizeOf48 _) ?_
  have hS_24 := (hS_21.pick 1 rfl)
  refine sC #[.agg #[.int .i64 x_11.job, .int .i64 x_11.task], .pointer (some ⟨bj, 0, none⟩)] #[.pointer (some ⟨bj, 0, none⟩)] Try.call95 (Calls.mono (del_ok W _ _ _ ⟨x_11.job, x_11.task⟩ _ hS_24) ?_)
  rintro _ w_22 ⟨rfl, hS_23⟩
  refine ⟨_, rfl, ?_⟩
  refine pu1 <| nilO <| thenK_n <| ?_
  refine cEn x_11.job j (fun hc_25 => ?_) (fun hc_25 => ?_)
  · refine skipE <| blockK_n <| thenK_n <| regionE <| pu1 ?_
    refine sAdd ((k : Nat) : Int) 1 ?_
    refine pu1 <| nilO <| thenK_n <| ?_
    have hS_26 := (hS_23.dropAt 1 rfl)
    have hd := del_drop h1 h2 hx_14 hc_25
    exact ⟨(i, k + 1, ys, c2), by dsimp only; omega, alA, hS_26, hOy, by omega, hd.1, hd.2, hyl⟩
  refine seqE <| regionE <| pu2 ?_
  refine lA hS_23 1 0 2 (Try.isAgg48 _) (Try.sizeOf48 _) ?_
  refine sIdxO hOy ((i : Nat) : Int) i Try.runUnderlying52 Try.sizeOf48 ?_
  intro x_27 b_28 o_29 hx_30 hp_31 hq_32
  refine sStF hS_23 hOy hq_32 2 i 0 x_27 (⟨x_11.job, x_11.task⟩ : Ref) hx_30 (.agg #[.int .i64 x_11.job, .int .i64 x_11.task]) [.int .i64 x_11.job, .int .i64 x_11.task] Try.sizeOf48 ?_
  intro w_33 c_35 hO_36 hS_34
  refine nilO <| thenK_n <| regionE <| pu1 ?_
  refine sAdd ((i : Nat) : Int) 1 ?_
  refine pu1 <| nilO <| blockK_n <| thenK_n <| regionE <| pu1 ?_
  refine sAdd ((k : Nat) : Int) 1 ?_
  refine pu1 <| nilO <| thenK_n <| ?_
  have hS_37 := (hS_34.dropAt 1 rfl)
  have hd := del_keep hyl hk.2 h1 h2 hx_14 hc_25
  exact ⟨(i + 1, k + 1, (ys.set i (⟨x_11.job, x_11.task⟩ : Ref)), c_35), by dsimp only; omega, alA, hS_37, hO_36, by omega, hd.2.1, hd.2.2, hd.1⟩
theorem pq_len {p : Nat} {S : QS} {M : Chunk} (hR : InjP p S M)  (hS : Sat W w (M :: H :: F)) :
    Calls Try.prog 60 #[.pointer (some ⟨p, 0, none⟩)] w fun e w' => e = .returned (.int .i64 (totB S.bs)) ∧ Sat W w' (M :: H :: F) := by
  obtain ⟨a0, n0, k0, l0, c0, a1, n1, k1, l1, c1, a2, n2, k2, l2, c2, a3, n3, k3, l3, c3, rfl, hO0, hO1, hO2, hO3, hb, hw1, hw2⟩ := hR
  have hS : Sat W _ ([(p, .cells #[.int .i64 S.cap, .slice a0 n0 k0, .slice a1 n1 k1, .slice a2 n2 k2, .slice a3 n3 k3] 114 (0, 0))] :: c0 :: c1 :: c2 :: c3 :: H :: F) := Sat.perm hS (by simp)
  have ht : totB S.bs = n0 + n1 + n2 + n3 := by rw [hb]; unfold totB; simp [hO0.len, hO1.len, hO2.len, hO3.len]; omega
  have hn0 := hO0.len; have hl0 := hO0.le; have hn1 := hO1.len; have hl1 := hO1.le; have hn2 := hO2.len; have hl2 := hO2.le; have hn3 := hO3.len; have hl3 := hO3.le
  refine callsA 21 Try.func60 rfl ?_
  refine seqE <| regionE <| pu1 <| nilO <| thenK_n <| seqE <| seqE <| regionE <| pu2 <| nilO <| thenK_n <| cFf <| skipE <| thenK_n <| seqE <| regionE <| pu1 <| nilO <| thenK_n <| seqE <| seqE <| regionE <| pu3 ?_
  refine lA hS 0 1 4 (Try.isAgg112 _) (Try.sizeOf112 _) ?_
  refine pu1 <| nilO <| thenK_n <| blockE ?_
  refine loopN 5 ?_
  refine roundS ?_
  refine seqE <| regionE <| pu1 <| nilO <| thenK_n <| seqE <| cTt <| skipE <| thenK_n <| seqE <| blockE <| seqE <| regionE <| pu2 <| nilO <| thenK_n <| regionE <| pu3 ?_
  refine sAdd 0 ((n0 : Nat) : Int) ?_
  refine pu1 <| nilO <| blockK_n <| thenK_n <| regionE <| pu2 <| nilO <| thenK_n <| ?_
  refine roundS ?_
  refine seqE <| regionE <| pu1 <| nilO <| thenK_n <| seqE <| cTt <| skipE <| thenK_n <| seqE <| blockE <| seqE <| regionE <| pu2 <| nilO <| thenK_n <| regionE <| pu3 ?_
  refine sAdd (0 + ((n0 : Nat) : Int)) ((n1 : Nat) : Int) ?_
  refine pu1 <| nilO <| blockK_n <| thenK_n <| regionE <| pu2 <| nilO <| thenK_n <| ?_
  refine roundS ?_
  refine seqE <| regionE <| pu1 <| nilO <| thenK_n <| seqE <| cTt <| skipE <| thenK_n <| seqE <| blockE <| seqE <| regionE <| pu2 <| nilO <| thenK_n <| regionE <| pu3 ?_
  refine sAdd ((0 + ((n0 : Nat) : Int)) + ((n1 : Nat) : Int)) ((n2 : Nat) : Int) ?_
  refine pu1 <| nilO <| blockK_n <| thenK_n <| regionE <| pu2 <| nilO <| thenK_n <| ?_
  refine roundS ?_
  refine seqE <| regionE <| pu1 <| nilO <| thenK_n <| seqE <| cTt <| skipE <| thenK_n <| seqE <| blockE <| seqE <| regionE <| pu2 <| nilO <| thenK_n <| regionE <| pu3 ?_
  refine sAdd (((0 + ((n0 : Nat) : Int)) + ((n1 : Nat) : Int)) + ((n2 : Nat) : Int)) ((n3 : Nat) : Int) ?_
  refine pu1 <| nilO <| blockK_n <| thenK_n <| regionE <| pu2 <| nilO <| thenK_n <| ?_
  refine roundS ?_
  refine seqE <| regionE <| pu1 <| nilO <| thenK_n <| seqE <| cFf <| exitE <| thenK_x <| thenK_x <| blockK_x <| thenK_n <| seqE <| regionE <| pu2 <| nilO <| thenK_n <| retE <| retT [.int .i64 ((((0 + ((n0 : Nat) : Int)) + ((n1 : Nat) : Int)) + ((n2 : Nat) : Int)) + ((n3 : Nat) : Int))] <| ?_
  have hS_1 : Sat W _ (([(p, .cells #[.int .i64 S.cap, .slice a0 n0 k0, .slice a1 n1 k1, .slice a2 n2 k2, .slice a3 n3 k3] 114 (0, 0))] ++ (c0 ++ (c1 ++ (c2 ++ c3)))) :: H :: F) := Sat.perm (show Sat W _ ([(p, .cells #[.int .i64 S.cap, .slice a0 n0 k0, .slice a1 n1 k1, .slice a2 n2 k2, .slice a3 n3 k3] 114 (0, 0))] :: c0 :: c1 :: c2 :: c3 :: H :: F) from hS) (by simp)
  exact ⟨congrArg (fun z => Ending.returned (.int .i64 z)) (by omega), hS_1⟩
theorem pq_push0 {p : Nat} {S : QS} {M : Chunk} (hR : InjP p S M) (r : Ref) (hS : Sat W w (M :: H :: F)) :
    Calls Try.prog 50 #[.pointer (some ⟨p, 0, none⟩), .agg #[.int .i64 r.job, .int .i64 r.task], .int .i64 0] w fun e w' => ∃ M' : Chunk, e = .returned (.int .i64 (pushCQ S)) ∧ InjP p (pushQ S r 0) M' ∧ Sat W w' (M' :: H :: F) := by
  obtain ⟨a0, n0, k0, l0, c0, a1, n1, k1, l1, c1, a2, n2, k2, l2, c2, a3, n3, k3, l3, c3, rfl, hO0, hO1, hO2, hO3, hb, hw1, hw2⟩ := hR
  have hS : Sat W _ ([(p, .cells #[.int .i64 S.cap, .slice a0 n0 k0, .slice a1 n1 k1, .slice a2 n2 k2, .slice a3 n3 k3] 114 (0, 0))] :: c0 :: c1 :: c2 :: c3 :: H :: F) := Sat.perm hS (by simp)
  have ht : totB S.bs = n0 + n1 + n2 + n3 := by rw [hb]; unfold totB; simp [hO0.len, hO1.len, hO2.len, hO3.len]; omega
  have hn0 := hO0.len; have hl0 := hO0.le; have hn1 := hO1.len; have hl1 := hO1.le; have hn2 := hO2.len; have hl2 := hO2.le; have hn3 := hO3.len; have hl3 := hO3.le
  refine callsA 43 Try.func50 rfl ?_
  refine seqE <| regionE ?_
  refine sBox hS (.agg #[.int .i64 r.job, .int .i64 r.task]) #[.int .i64 r.job, .int .i64 r.task] ?_
  intro b_1 w_2 hS_3
  refine pu1 <| nilO <| thenK_n <| seqE <| seqE <| regionE <| pu6 <| gY ?_
  refine sL hS_3 1 0 (.int .i64 S.cap) (Try.isAgg3 _) ?_
  refine pu2 <| nilO <| thenK_n <| ?_
  refine cE S.cap 0 (fun hc_4 => ?_) (fun hc_4 => ?_)
  · refine seqE <| regionE <| pu1 <| nilO <| thenK_n <| retE <| thenK_r <| retT [.int .i64 20] <| ?_
    have hS_5 := (hS_3.dropAt 0 rfl)
    have hS_6 : Sat W _ (([(p, .cells #[.int .i64 S.cap, .slice a0 n0 k0, .slice a1 n1 k1, .slice a2 n2 k2, .slice a3 n3 k3] 114 (0, 0))] ++ (c0 ++ (c1 ++ (c2 ++ c3)))) :: H :: F) := Sat.perm (show Sat W _ ([(p, .cells #[.int .i64 S.cap, .slice a0 n0 k0, .slice a1 n1 k1, .slice a2 n2 k2, .slice a3 n3 k3] 114 (0, 0))] :: c0 :: c1 :: c2 :: c3 :: H :: F) from hS_5) (by simp)
    have hq : totB [l0, l1, l2, l3] = totB S.bs := by rw [hb]
    omega
  refine skipE <| thenK_n <| seqE <| seqE <| regionE <| pu6 <| nilO <| thenK_n <| cFf <| skipE <| thenK_n <| seqE <| seqE ?_
  refine drawE [1] [(5, ⟨p, 0, none⟩, .int .i64 S.cap)] [(true, [0, 2, 3, 4]), (true, [5]), (false, [1]), (true, [6])] rfl (by kernel_rfl) ⟨.inr (hS_3.cell 1 rfl rfl), trivial⟩ ?_
  have hS_7 := hS_3.drew
  refine wU [0, 2, 3, 4] ?_
  refine wLd (.int .i64 S.cap) 0 Try.isAgg3 ?_
  refine wO rfl ?_
  have hS_8 := (((((hS_7.pick 5 rfl).pick 5 rfl).pick 5 rfl).pick 5 rfl).pick 5 rfl)
  have hS_9 : Sat W _ (([(p, .cells #[.int .i64 S.cap, .slice a0 n0 k0, .slice a1 n1 k1, .slice a2 n2 k2, .slice a3 n3 k3] 114 (0, 0))] ++ (c0 ++ (c1 ++ (c2 ++ c3)))) :: [(b_1, .cells #[.int .i64 r.job, .int .i64 r.task] 48 (0, 0))] :: H :: F) := Sat.perm (show Sat W _ ([(p, .cells #[.int .i64 S.cap, .slice a0 n0 k0, .slice a1 n1 k1, .slice a2 n2 k2, .slice a3 n3 k3] 114 (0, 0))] :: c0 :: c1 :: c2 :: c3 :: [(b_1, .cells #[.int .i64 r.job, .int .i64 r.task] 48 (0, 0))] :: H :: F) from hS_8) (by simp)
  have ht_13 : totB [l0, l1, l2, l3] = ((n0 + n1 + n2 + n3 : Nat) : Int) := by unfold totB; simp only [List.map_cons, List.map_nil, List.sum_cons, List.sum_nil]; have h0 := (hO0).len; have h1 := (hO1).len; have h2 := (hO2).len; have h3 := (hO3).len; omega
  refine cX Try.call60 (pq_len (S := ⟨S.cap, [l0, l1, l2, l3]⟩) ⟨_, _, _, _, _, _, _, _, _, _, _, _, _, _, _, _, _, _, _, _, rfl, hO0, hO1, hO2, hO3, rfl, hw1, (by dsimp only; omega)⟩ (Sat.flat1 hS_9)) ?_
  rintro _ w_10 ⟨rfl, hS_11⟩
  have hS_12 : Sat W _ ([(p, .cells #[.int .i64 S.cap, .slice a0 n0 k0, .slice a1 n1 k1, .slice a2 n2 k2, .slice a3 n3 k3] 114 (0, 0))] :: c0 :: c1 :: c2 :: c3 :: [(b_1, .cells #[.int .i64 r.job, .int .i64 r.task] 48 (0, 0))] :: H :: F) := Sat.perm (Sat.unflat1 hS_11) (by simp)
  refine nilO ⟨⟨.inr (hS_12.cell 0 rfl rfl), trivial⟩, ?_⟩
  refine wU [6] ?_
  refine wN ?_
  refine thenK_n <| ?_
  refine cD ((totB [l0, l1, l2, l3]) ≥ S.cap) (fun hc_14 => ?_) (fun hc_14 => ?_)
  · refine seqE <| regionE <| pu1 <| nilO <| thenK_n <| retE <| thenK_r <| retT [.int .i64 19] <| ?_
    have hS_15 := (hS_12.dropAt 5 rfl)
    have hS_16 : Sat W _ (([(p, .cells #[.int .i64 S.cap, .slice a0 n0 k0, .slice a1 n1 k1, .slice a2 n2 k2, .slice a3 n3 k3] 114 (0, 0))] ++ (c0 ++ (c1 ++ (c2 ++ c3)))) :: H :: F) := Sat.perm (show Sat W _ ([(p, .cells #[.int .i64 S.cap, .slice a0 n0 k0, .slice a1 n1 k1, .slice a2 n2 k2, .slice a3 n3 k3] 114 (0, 0))] :: c0 :: c1 :: c2 :: c3 :: H :: F) from hS_15) (by simp)
    have hq : totB [l0, l1, l2, l3] = totB S.bs := by rw [hb]
    have hc : pushCQ S = 19 := by unfold pushCQ; rw [if_pos (by omega)]
    have he : pushQ S r 0 = S := by unfold pushQ; rw [hc, if_neg (by decide)]
    exact ⟨_, by rw [hc]; rfl, by rw [he]; exact ⟨_, _, _, _, _, _, _, _, _, _, _, _, _, _, _, _, _, _, _, _, rfl, hO0, hO1, hO2, hO3, hb, hw1, hw2⟩, hS_16⟩
  refine skipE <| thenK_n <| seqE ?_
  refine drawE [9, 10, 14] [(7, ⟨p, 1, none⟩, .slice a0 n0 k0), (8, ⟨b_1, 0, none⟩, .int .i64 r.job), (8, ⟨b_1, 1, none⟩, .int .i64 r.task)] [(true, [0, 1, 2, 3, 4, 5, 6, 11, 12]), (true, [7]), (true, [8]), (false, [9]), (false, [10]), (true, [13]), (false, [14])] rfl (by kernel_rfl) ⟨.inr (hS_12.cell 0 rfl rfl), .inr (hS_12.cell 5 rfl rfl), .inr (hS_12.cell 5 rfl rfl), trivial⟩ ?_
  have hS_17 := hS_12.drew
  refine wU [0, 1, 2, 3, 4, 5, 6, 11, 12] ?_
  refine wLd (.slice a0 n0 k0) 0 Try.isAgg52 ?_
  refine wY (.agg #[.int .i64 r.job, .int .i64 r.task]) rfl (fun w hF => Y_loadF rfl (Try.isAgg48 w) (Try.sizeOf48 w) (by kernel_rfl) rfl ⟨hF 1 _ _ rfl, hF 2 _ _ rfl, trivial⟩) ?_
  refine wO rfl ?_
  refine sBS hS_17 #[.int .i64 r.job, .int .i64 r.task] Try.runUnderlying52 Try.sizeOf48 Try.zeroValue48 ?_
  intro b_18 w_19 hS_20
  refine nilO ⟨⟨.inr (hS_20.cell 1 rfl rfl), .inl (by kernel_rfl), .inl (by kernel_rfl), trivial⟩, ?_⟩
  refine wO rfl ?_
  refine sApp (nb := 16) hS_20 hO0 2 (RdT.blk (enc := encRef) (sz := 2) (xs := [(⟨r.job, r.task⟩ : Ref)]) (fun _ => rfl) 1 0 rfl rfl rfl (by omega)) Try.underlying52 (i := Try.t48) (by kernel_rfl) (fun _ => rfl) ?_
  intro a_21 cap_22 c_23 w_24 hO_25 hS_26
  refine nilO ⟨⟨.inl (by kernel_rfl), .inl (by kernel_rfl), .inl (by kernel_rfl), trivial⟩, ?_⟩
  refine wU [13] ?_
  refine wO rfl ?_
  refine tW hS_26 1 1 (.slice a_21 (n0 + 1) cap_22) Try.sizeOf52 ?_
  intro w_27 hS_28
  refine nilO ⟨⟨.inl (by kernel_rfl), .inl (by kernel_rfl), .inl (by kernel_rfl), trivial⟩, ?_⟩
  refine wN ?_
  refine thenK_n <| seqE <| regionE <| pu1 <| nilO <| thenK_n <| retE <| retT [.int .i64 0] <| ?_
  have hS_29 := ((hS_28.dropAt 0 rfl).dropAt 5 rfl)
  have hS_30 : Sat W _ (([(p, .cells #[.int .i64 S.cap, .slice a_21 (n0 + 1) cap_22, .slice a1 n1 k1, .slice a2 n2 k2, .slice a3 n3 k3] 114 (0, 0))] ++ (c_23 ++ (c1 ++ (c2 ++ c3)))) :: H :: F) := Sat.perm (show Sat W _ ([(p, .cells #[.int .i64 S.cap, .slice a_21 (n0 + 1) cap_22, .slice a1 n1 k1, .slice a2 n2 k2, .slice a3 n3 k3] 114 (0, 0))] :: c_23 :: c1 :: c2 :: c3 :: H :: F) from hS_29) (by simp)
  have hq : totB [l0, l1, l2, l3] = totB S.bs := by rw [hb]
  have hc : pushCQ S = 0 := by unfold pushCQ; rw [if_neg (by omega)]
  have he : pushQ S r 0 = { S with bs := [(l0 ++ [(⟨r.job, r.task⟩ : Ref)]), l1, l2, l3] } := by unfold pushQ; rw [if_pos hc, hb]; rfl
  exact ⟨_, by rw [hc]; rfl, by rw [he]; exact ⟨_, _, _, _, _, _, _, _, _, _, _, _, _, _, _, _, _, _, _, _, rfl, hO_25, hO1, hO2, hO3, rfl, hw1, (by unfold totB; simp; omega)⟩, hS_30⟩
theorem pq_push1 {p : Nat} {S : QS} {M : Chunk} (hR : InjP p S M) (r : Ref) (hS : Sat W w (M :: H :: F)) :
    Calls Try.prog 50 #[.pointer (some ⟨p, 0, none⟩), .agg #[.int .i64 r.job, .int .i64 r.task], .int .i64 1] w fun e w' => ∃ M' : Chunk, e = .returned (.int .i64 (pushCQ S)) ∧ InjP p (pushQ S r 1) M' ∧ Sat W w' (M' :: H :: F) := by
  obtain ⟨a0, n0, k0, l0, c0, a1, n1, k1, l1, c1, a2, n2, k2, l2, c2, a3, n3, k3, l3, c3, rfl, hO0, hO1, hO2, hO3, hb, hw1, hw2⟩ := hR
  have hS : Sat W _ ([(p, .cells #[.int .i64 S.cap, .slice a0 n0 k0, .slice a1 n1 k1, .slice a2 n2 k2, .slice a3 n3 k3] 114 (0, 0))] :: c0 :: c1 :: c2 :: c3 :: H :: F) := Sat.perm hS (by simp)
  have ht : totB S.bs = n0 + n1 + n2 + n3 := by rw [hb]; unfold totB; simp [hO0.len, hO1.len, hO2.len, hO3.len]; omega
  have hn0 := hO0.len; have hl0 := hO0.le; have hn1 := hO1.len; have hl1 := hO1.le; have hn2 := hO2.len; have hl2 := hO2.le; have hn3 := hO3.len; have hl3 := hO3.le
  refine callsA 43 Try.func50 rfl ?_
  refine seqE <| regionE ?_
  refine sBox hS (.agg #[.int .i64 r.job, .int .i64 r.task]) #[.int .i64 r.job, .int .i64 r.task] ?_
  intro b_1 w_2 hS_3
  refine pu1 <| nilO <| thenK_n <| seqE <| seqE <| regionE <| pu6 <| gY ?_
  refine sL hS_3 1 0 (.int .i64 S.cap) (Try.isAgg3 _) ?_
  refine pu2 <| nilO <| thenK_n <| ?_
  refine cE S.cap 0 (fun hc_4 => ?_) (fun hc_4 => ?_)
  · refine seqE <| regionE <| pu1 <| nilO <| thenK_n <| retE <| thenK_r <| retT [.int .i64 20] <| ?_
    have hS_5 := (hS_3.dropAt 0 rfl)
    have hS_6 : Sat W _ (([(p, .cells #[.int .i64 S.cap, .slice a0 n0 k0, .slice a1 n1 k1, .slice a2 n2 k2, .slice a3 n3 k3] 114 (0, 0))] ++ (c0 ++ (c1 ++ (c2 ++ c3)))) :: H :: F) := Sat.perm (show Sat W _ ([(p, .cells #[.int .i64 S.cap, .slice a0 n0 k0, .slice a1 n1 k1, .slice a2 n2 k2, .slice a3 n3 k3] 114 (0, 0))] :: c0 :: c1 :: c2 :: c3 :: H :: F) from hS_5) (by simp)
    have hq : totB [l0, l1, l2, l3] = totB S.bs := by rw [hb]
    omega
  refine skipE <| thenK_n <| seqE <| seqE <| regionE <| pu6 <| nilO <| thenK_n <| cFf <| skipE <| thenK_n <| seqE <| seqE ?_
  refine drawE [1] [(5, ⟨p, 0, none⟩, .int .i64 S.cap)] [(true, [0, 2, 3, 4]), (true, [5]), (false, [1]), (true, [6])] rfl (by kernel_rfl) ⟨.inr (hS_3.cell 1 rfl rfl), trivial⟩ ?_
  have hS_7 := hS_3.drew
  refine wU [0, 2, 3, 4] ?_
  refine wLd (.int .i64 S.cap) 0 Try.isAgg3 ?_
  refine wO rfl ?_
  have hS_8 := (((((hS_7.pick 5 rfl).pick 5 rfl).pick 5 rfl).pick 5 rfl).pick 5 rfl)
  have hS_9 : Sat W _ (([(p, .cells #[.int .i64 S.cap, .slice a0 n0 k0, .slice a1 n1 k1, .slice a2 n2 k2, .slice a3 n3 k3] 114 (0, 0))] ++ (c0 ++ (c1 ++ (c2 ++ c3)))) :: [(b_1, .cells #[.int .i64 r.job, .int .i64 r.task] 48 (0, 0))] :: H :: F) := Sat.perm (show Sat W _ ([(p, .cells #[.int .i64 S.cap, .slice a0 n0 k0, .slice a1 n1 k1, .slice a2 n2 k2, .slice a3 n3 k3] 114 (0, 0))] :: c0 :: c1 :: c2 :: c3 :: [(b_1, .cells #[.int .i64 r.job, .int .i64 r.task] 48 (0, 0))] :: H :: F) from hS_8) (by simp)
  have ht_13 : totB [l0, l1, l2, l3] = ((n0 + n1 + n2 + n3 : Nat) : Int) := by unfold totB; simp only [List.map_cons, List.map_nil, List.sum_cons, List.sum_nil]; have h0 := (hO0).len; have h1 := (hO1).len; have h2 := (hO2).len; have h3 := (hO3).len; omega
  refine cX Try.call60 (pq_len (S := ⟨S.cap, [l0, l1, l2, l3]⟩) ⟨_, _, _, _, _, _, _, _, _, _, _, _, _, _, _, _, _, _, _, _, rfl, hO0, hO1, hO2, hO3, rfl, hw1, (by dsimp only; omega)⟩ (Sat.flat1 hS_9)) ?_
  rintro _ w_10 ⟨rfl, hS_11⟩
  have hS_12 : Sat W _ ([(p, .cells #[.int .i64 S.cap, .slice a0 n0 k0, .slice a1 n1 k1, .slice a2 n2 k2, .slice a3 n3 k3] 114 (0, 0))] :: c0 :: c1 :: c2 :: c3 :: [(b_1, .cells #[.int .i64 r.job, .int .i64 r.task] 48 (0, 0))] :: H :: F) := Sat.perm (Sat.unflat1 hS_11) (by simp)
  refine nilO ⟨⟨.inr (hS_12.cell 0 rfl rfl), trivial⟩, ?_⟩
  refine wU [6] ?_
  refine wN ?_
  refine thenK_n <| ?_
  refine cD ((totB [l0, l1, l2, l3]) ≥ S.cap) (fun hc_14 => ?_) (fun hc_14 => ?_)
  · refine seqE <| regionE <| pu1 <| nilO <| thenK_n <| retE <| thenK_r <| retT [.int .i64 19] <| ?_
    have hS_15 := (hS_12.dropAt 5 rfl)
    have hS_16 : Sat W _ (([(p, .cells #[.int .i64 S.cap, .slice a0 n0 k0, .slice a1 n1 k1, .slice a2 n2 k2, .slice a3 n3 k3] 114 (0, 0))] ++ (c0 ++ (c1 ++ (c2 ++ c3)))) :: H :: F) := Sat.perm (show Sat W _ ([(p, .cells #[.int .i64 S.cap, .slice a0 n0 k0, .slice a1 n1 k1, .slice a2 n2 k2, .slice a3 n3 k3] 114 (0, 0))] :: c0 :: c1 :: c2 :: c3 :: H :: F) from hS_15) (by simp)
    have hq : totB [l0, l1, l2, l3] = totB S.bs := by rw [hb]
    have hc : pushCQ S = 19 := by unfold pushCQ; rw [if_pos (by omega)]
    have he : pushQ S r 1 = S := by unfold pushQ; rw [hc, if_neg (by decide)]
    exact ⟨_, by rw [hc]; rfl, by rw [he]; exact ⟨_, _, _, _, _, _, _, _, _, _, _, _, _, _, _, _, _, _, _, _, rfl, hO0, hO1, hO2, hO3, hb, hw1, hw2⟩, hS_16⟩
  refine skipE <| thenK_n <| seqE ?_
  refine drawE [9, 10, 14] [(7, ⟨p, 2, none⟩, .slice a1 n1 k1), (8, ⟨b_1, 0, none⟩, .int .i64 r.job), (8, ⟨b_1, 1, none⟩, .int .i64 r.task)] [(true, [0, 1, 2, 3, 4, 5, 6, 11, 12]), (true, [7]), (true, [8]), (false, [9]), (false, [10]), (true, [13]), (false, [14])] rfl (by kernel_rfl) ⟨.inr (hS_12.cell 0 rfl rfl), .inr (hS_12.cell 5 rfl rfl), .inr (hS_12.cell 5 rfl rfl), trivial⟩ ?_
  have hS_17 := hS_12.drew
  refine wU [0, 1, 2, 3, 4, 5, 6, 11, 12] ?_
  refine wLd (.slice a1 n1 k1) 0 Try.isAgg52 ?_
  refine wY (.agg #[.int .i64 r.job, .int .i64 r.task]) rfl (fun w hF => Y_loadF rfl (Try.isAgg48 w) (Try.sizeOf48 w) (by kernel_rfl) rfl ⟨hF 1 _ _ rfl, hF 2 _ _ rfl, trivial⟩) ?_
  refine wO rfl ?_
  refine sBS hS_17 #[.int .i64 r.job, .int .i64 r.task] Try.runUnderlying52 Try.sizeOf48 Try.zeroValue48 ?_
  intro b_18 w_19 hS_20
  refine nilO ⟨⟨.inr (hS_20.cell 1 rfl rfl), .inl (by kernel_rfl), .inl (by kernel_rfl), trivial⟩, ?_⟩
  refine wO rfl ?_
  refine sApp (nb := 16) hS_20 hO1 3 (RdT.blk (enc := encRef) (sz := 2) (xs := [(⟨r.job, r.task⟩ : Ref)]) (fun _ => rfl) 1 0 rfl rfl rfl (by omega)) Try.underlying52 (i := Try.t48) (by kernel_rfl) (fun _ => rfl) ?_
  intro a_21 cap_22 c_23 w_24 hO_25 hS_26
  refine nilO ⟨⟨.inl (by kernel_rfl), .inl (by kernel_rfl), .inl (by kernel_rfl), trivial⟩, ?_⟩
  refine wU [13] ?_
  refine wO rfl ?_
  refine tW hS_26 1 2 (.slice a_21 (n1 + 1) cap_22) Try.sizeOf52 ?_
  intro w_27 hS_28
  refine nilO ⟨⟨.inl (by kernel_rfl), .inl (by kernel_rfl), .inl (by kernel_rfl), trivial⟩, ?_⟩
  refine wN ?_
  refine thenK_n <| seqE <| regionE <| pu1 <| nilO <| thenK_n <| retE <| retT [.int .i64 0] <| ?_
  have hS_29 := ((hS_28.dropAt 0 rfl).dropAt 5 rfl)
  have hS_30 : Sat W _ (([(p, .cells #[.int .i64 S.cap, .slice a0 n0 k0, .slice a_21 (n1 + 1) cap_22, .slice a2 n2 k2, .slice a3 n3 k3] 114 (0, 0))] ++ (c0 ++ (c_23 ++ (c2 ++ c3)))) :: H :: F) := Sat.perm (show Sat W _ ([(p, .cells #[.int .i64 S.cap, .slice a0 n0 k0, .slice a_21 (n1 + 1) cap_22, .slice a2 n2 k2, .slice a3 n3 k3] 114 (0, 0))] :: c0 :: c_23 :: c2 :: c3 :: H :: F) from hS_29) (by simp)
  have hq : totB [l0, l1, l2, l3] = totB S.bs := by rw [hb]
  have hc : pushCQ S = 0 := by unfold pushCQ; rw [if_neg (by omega)]
  have he : pushQ S r 1 = { S with bs := [l0, (l1 ++ [(⟨r.job, r.task⟩ : Ref)]), l2, l3] } := by unfold pushQ; rw [if_pos hc, hb]; rfl
  exact ⟨_, by rw [hc]; rfl, by rw [he]; exact ⟨_, _, _, _, _, _, _, _, _, _, _, _, _, _, _, _, _, _, _, _, rfl, hO0, hO_25, hO2, hO3, rfl, hw1, (by unfold totB; simp; omega)⟩, hS_30⟩
theorem pq_push2 {p : Nat} {S : QS} {M : Chunk} (hR : InjP p S M) (r : Ref) (hS : Sat W w (M :: H :: F)) :
    Calls Try.prog 50 #[.pointer (some ⟨p, 0, none⟩), .agg #[.int .i64 r.job, .int .i64 r.task], .int .i64 2] w fun e w' => ∃ M' : Chunk, e = .returned (.int .i64 (pushCQ S)) ∧ InjP p (pushQ S r 2) M' ∧ Sat W w' (M' :: H :: F) := by
  obtain ⟨a0, n0, k0, l0, c0, a1, n1, k1, l1, c1, a2, n2, k2, l2, c2, a3, n3, k3, l3, c3, rfl, hO0, hO1, hO2, hO3, hb, hw1, hw2⟩ := hR
  have hS : Sat W _ ([(p, .cells #[.int .i64 S.cap, .slice a0 n0 k0, .slice a1 n1 k1, .slice a2 n2 k2, .slice a3 n3 k3] 114 (0, 0))] :: c0 :: c1 :: c2 :: c3 :: H :: F) := Sat.perm hS (by simp)
  have ht : totB S.bs = n0 + n1 + n2 + n3 := by rw [hb]; unfold totB; simp [hO0.len, hO1.len, hO2.len, hO3.len]; omega
  have hn0 := hO0.len; have hl0 := hO0.le; have hn1 := hO1.len; have hl1 := hO1.le; have hn2 := hO2.len; have hl2 := hO2.le; have hn3 := hO3.len; have hl3 := hO3.le
  refine callsA 43 Try.func50 rfl ?_
  refine seqE <| regionE ?_
  refine sBox hS (.agg #[.int .i64 r.job, .int .i64 r.task]) #[.int .i64 r.job, .int .i64 r.task] ?_
  intro b_1 w_2 hS_3
  refine pu1 <| nilO <| thenK_n <| seqE <| seqE <| regionE <| pu6 <| gY ?_
  refine sL hS_3 1 0 (.int .i64 S.cap) (Try.isAgg3 _) ?_
  refine pu2 <| nilO <| thenK_n <| ?_
  refine cE S.cap 0 (fun hc_4 => ?_) (fun hc_4 => ?_)
  · refine seqE <| regionE <| pu1 <| nilO <| thenK_n <| retE <| thenK_r <| retT [.int .i64 20] <| ?_
    have hS_5 := (hS_3.dropAt 0 rfl)
    have hS_6 : Sat W _ (([(p, .cells #[.int .i64 S.cap, .slice a0 n0 k0, .slice a1 n1 k1, .slice a2 n2 k2, .slice a3 n3 k3] 114 (0, 0))] ++ (c0 ++ (c1 ++ (c2 ++ c3)))) :: H :: F) := Sat.perm (show Sat W _ ([(p, .cells #[.int .i64 S.cap, .slice a0 n0 k0, .slice a1 n1 k1, .slice a2 n2 k2, .slice a3 n3 k3] 114 (0, 0))] :: c0 :: c1 :: c2 :: c3 :: H :: F) from hS_5) (by simp)
    have hq : totB [l0, l1, l2, l3] = totB S.bs := by rw [hb]
    omega
  refine skipE <| thenK_n <| seqE <| seqE <| regionE <| pu6 <| nilO <| thenK_n <| cFf <| skipE <| thenK_n <| seqE <| seqE ?_
  refine drawE [1] [(5, ⟨p, 0, none⟩, .int .i64 S.cap)] [(true, [0, 2, 3, 4]), (true, [5]), (false, [1]), (true, [6])] rfl (by kernel_rfl) ⟨.inr (hS_3.cell 1 rfl rfl), trivial⟩ ?_
  have hS_7 := hS_3.drew
  refine wU [0, 2, 3, 4] ?_
  refine wLd (.int .i64 S.cap) 0 Try.isAgg3 ?_
  refine wO rfl ?_
  have hS_8 := (((((hS_7.pick 5 rfl).pick 5 rfl).pick 5 rfl).pick 5 rfl).pick 5 rfl)
  have hS_9 : Sat W _ (([(p, .cells #[.int .i64 S.cap, .slice a0 n0 k0, .slice a1 n1 k1, .slice a2 n2 k2, .slice a3 n3 k3] 114 (0, 0))] ++ (c0 ++ (c1 ++ (c2 ++ c3)))) :: [(b_1, .cells #[.int .i64 r.job, .int .i64 r.task] 48 (0, 0))] :: H :: F) := Sat.perm (show Sat W _ ([(p, .cells #[.int .i64 S.cap, .slice a0 n0 k0, .slice a1 n1 k1, .slice a2 n2 k2, .slice a3 n3 k3] 114 (0, 0))] :: c0 :: c1 :: c2 :: c3 :: [(b_1, .cells #[.int .i64 r.job, .int .i64 r.task] 48 (0, 0))] :: H :: F) from hS_8) (by simp)
  have ht_13 : totB [l0, l1, l2, l3] = ((n0 + n1 + n2 + n3 : Nat) : Int) := by unfold totB; simp only [List.map_cons, List.map_nil, List.sum_cons, List.sum_nil]; have h0 := (hO0).len; have h1 := (hO1).len; have h2 := (hO2).len; have h3 := (hO3).len; omega
  refine cX Try.call60 (pq_len (S := ⟨S.cap, [l0, l1, l2, l3]⟩) ⟨_, _, _, _, _, _, _, _, _, _, _, _, _, _, _, _, _, _, _, _, rfl, hO0, hO1, hO2, hO3, rfl, hw1, (by dsimp only; omega)⟩ (Sat.flat1 hS_9)) ?_
  rintro _ w_10 ⟨rfl, hS_11⟩
  have hS_12 : Sat W _ ([(p, .cells #[.int .i64 S.cap, .slice a0 n0 k0, .slice a1 n1 k1, .slice a2 n2 k2, .slice a3 n3 k3] 114 (0, 0))] :: c0 :: c1 :: c2 :: c3 :: [(b_1, .cells #[.int .i64 r.job, .int .i64 r.task] 48 (0, 0))] :: H :: F) := Sat.perm (Sat.unflat1 hS_11) (by simp)
  refine nilO ⟨⟨.inr (hS_12.cell 0 rfl rfl), trivial⟩, ?_⟩
  refine wU [6] ?_
  refine wN ?_
  refine thenK_n <| ?_
  refine cD ((totB [l0, l1, l2, l3]) ≥ S.cap) (fun hc_14 => ?_) (fun hc_14 => ?_)
  · refine seqE <| regionE <| pu1 <| nilO <| thenK_n <| retE <| thenK_r <| retT [.int .i64 19] <| ?_
    have hS_15 := (hS_12.dropAt 5 rfl)
    have hS_16 : Sat W _ (([(p, .cells #[.int .i64 S.cap, .slice a0 n0 k0, .slice a1 n1 k1, .slice a2 n2 k2, .slice a3 n3 k3] 114 (0, 0))] ++ (c0 ++ (c1 ++ (c2 ++ c3)))) :: H :: F) := Sat.perm (show Sat W _ ([(p, .cells #[.int .i64 S.cap, .slice a0 n0 k0, .slice a1 n1 k1, .slice a2 n2 k2, .slice a3 n3 k3] 114 (0, 0))] :: c0 :: c1 :: c2 :: c3 :: H :: F) from hS_15) (by simp)
    have hq : totB [l0, l1, l2, l3] = totB S.bs := by rw [hb]
    have hc : pushCQ S = 19 := by unfold pushCQ; rw [if_pos (by omega)]
    have he : pushQ S r 2 = S := by unfold pushQ; rw [hc, if_neg (by decide)]
    exact ⟨_, by rw [hc]; rfl, by rw [he]; exact ⟨_, _, _, _, _, _, _, _, _, _, _, _, _, _, _, _, _, _, _, _, rfl, hO0, hO1, hO2, hO3, hb, hw1, hw2⟩, hS_16⟩
  refine skipE <| thenK_n <| seqE ?_
  refine drawE [9, 10, 14] [(7, ⟨p, 3, none⟩, .slice a2 n2 k2), (8, ⟨b_1, 0, none⟩, .int .i64 r.job), (8, ⟨b_1, 1, none⟩, .int .i64 r.task)] [(true, [0, 1, 2, 3, 4, 5, 6, 11, 12]), (true, [7]), (true, [8]), (false, [9]), (false, [10]), (true, [13]), (false, [14])] rfl (by kernel_rfl) ⟨.inr (hS_12.cell 0 rfl rfl), .inr (hS_12.cell 5 rfl rfl), .inr (hS_12.cell 5 rfl rfl), trivial⟩ ?_
  have hS_17 := hS_12.drew
  refine wU [0, 1, 2, 3, 4, 5, 6, 11, 12] ?_
  refine wLd (.slice a2 n2 k2) 0 Try.isAgg52 ?_
  refine wY (.agg #[.int .i64 r.job, .int .i64 r.task]) rfl (fun w hF => Y_loadF rfl (Try.isAgg48 w) (Try.sizeOf48 w) (by kernel_rfl) rfl ⟨hF 1 _ _ rfl, hF 2 _ _ rfl, trivial⟩) ?_
  refine wO rfl ?_
  refine sBS hS_17 #[.int .i64 r.job, .int .i64 r.task] Try.runUnderlying52 Try.sizeOf48 Try.zeroValue48 ?_
  intro b_18 w_19 hS_20
  refine nilO ⟨⟨.inr (hS_20.cell 1 rfl rfl), .inl (by kernel_rfl), .inl (by kernel_rfl), trivial⟩, ?_⟩
  refine wO rfl ?_
  refine sApp (nb := 16) hS_20 hO2 4 (RdT.blk (enc := encRef) (sz := 2) (xs := [(⟨r.job, r.task⟩ : Ref)]) (fun _ => rfl) 1 0 rfl rfl rfl (by omega)) Try.underlying52 (i := Try.t48) (by kernel_rfl) (fun _ => rfl) ?_
  intro a_21 cap_22 c_23 w_24 hO_25 hS_26
  refine nilO ⟨⟨.inl (by kernel_rfl), .inl (by kernel_rfl), .inl (by kernel_rfl), trivial⟩, ?_⟩
  refine wU [13] ?_
  refine wO rfl ?_
  refine tW hS_26 1 3 (.slice a_21 (n2 + 1) cap_22) Try.sizeOf52 ?_
  intro w_27 hS_28
  refine nilO ⟨⟨.inl (by kernel_rfl), .inl (by kernel_rfl), .inl (by kernel_rfl), trivial⟩, ?_⟩
  refine wN ?_
  refine thenK_n <| seqE <| regionE <| pu1 <| nilO <| thenK_n <| retE <| retT [.int .i64 0] <| ?_
  have hS_29 := ((hS_28.dropAt 0 rfl).dropAt 5 rfl)
  have hS_30 : Sat W _ (([(p, .cells #[.int .i64 S.cap, .slice a0 n0 k0, .slice a1 n1 k1, .slice a_21 (n2 + 1) cap_22, .slice a3 n3 k3] 114 (0, 0))] ++ (c0 ++ (c1 ++ (c_23 ++ c3)))) :: H :: F) := Sat.perm (show Sat W _ ([(p, .cells #[.int .i64 S.cap, .slice a0 n0 k0, .slice a1 n1 k1, .slice a_21 (n2 + 1) cap_22, .slice a3 n3 k3] 114 (0, 0))] :: c0 :: c1 :: c_23 :: c3 :: H :: F) from hS_29) (by simp)
  have hq : totB [l0, l1, l2, l3] = totB S.bs := by rw [hb]
  have hc : pushCQ S = 0 := by unfold pushCQ; rw [if_neg (by omega)]
  have he : pushQ S r 2 = { S with bs := [l0, l1, (l2 ++ [(⟨r.job, r.task⟩ : Ref)]), l3] } := by unfold pushQ; rw [if_pos hc, hb]; rfl
  exact ⟨_, by rw [hc]; rfl, by rw [he]; exact ⟨_, _, _, _, _, _, _, _, _, _, _, _, _, _, _, _, _, _, _, _, rfl, hO0, hO1, hO_25, hO3, rfl, hw1, (by unfold totB; simp; omega)⟩, hS_30⟩
theorem pq_push3 {p : Nat} {S : QS} {M : Chunk} (hR : InjP p S M) (r : Ref) (hS : Sat W w (M :: H :: F)) :
    Calls Try.prog 50 #[.pointer (some ⟨p, 0, none⟩), .agg #[.int .i64 r.job, .int .i64 r.task], .int .i64 3] w fun e w' => ∃ M' : Chunk, e = .returned (.int .i64 (pushCQ S)) ∧ InjP p (pushQ S r 3) M' ∧ Sat W w' (M' :: H :: F) := by
  obtain ⟨a0, n0, k0, l0, c0, a1, n1, k1, l1, c1, a2, n2, k2, l2, c2, a3, n3, k3, l3, c3, rfl, hO0, hO1, hO2, hO3, hb, hw1, hw2⟩ := hR
  have hS : Sat W _ ([(p, .cells #[.int .i64 S.cap, .slice a0 n0 k0, .slice a1 n1 k1, .slice a2 n2 k2, .slice a3 n3 k3] 114 (0, 0))] :: c0 :: c1 :: c2 :: c3 :: H :: F) := Sat.perm hS (by simp)
  have ht : totB S.bs = n0 + n1 + n2 + n3 := by rw [hb]; unfold totB; simp [hO0.len, hO1.len, hO2.len, hO3.len]; omega
  have hn0 := hO0.len; have hl0 := hO0.le; have hn1 := hO1.len; have hl1 := hO1.le; have hn2 := hO2.len; have hl2 := hO2.le; have hn3 := hO3.len; have hl3 := hO3.le
  refine callsA 43 Try.func50 rfl ?_
  refine seqE <| regionE ?_
  refine sBox hS (.agg #[.int .i64 r.job, .int .i64 r.task]) #[.int .i64 r.job, .int .i64 r.task] ?_
  intro b_1 w_2 hS_3
  refine pu1 <| nilO <| thenK_n <| seqE <| seqE <| regionE <| pu6 <| gY ?_
  refine sL hS_3 1 0 (.int .i64 S.cap) (Try.isAgg3 _) ?_
  refine pu2 <| nilO <| thenK_n <| ?_
  refine cE S.cap 0 (fun hc_4 => ?_) (fun hc_4 => ?_)
  · refine seqE <| regionE <| pu1 <| nilO <| thenK_n <| retE <| thenK_r <| retT [.int .i64 20] <| ?_
    have hS_5 := (hS_3.dropAt 0 rfl)
    have hS_6 : Sat W _ (([(p, .cells #[.int .i64 S.cap, .slice a0 n0 k0, .slice a1 n1 k1, .slice a2 n2 k2, .slice a3 n3 k3] 114 (0, 0))] ++ (c0 ++ (c1 ++ (c2 ++ c3)))) :: H :: F) := Sat.perm (show Sat W _ ([(p, .cells #[.int .i64 S.cap, .slice a0 n0 k0, .slice a1 n1 k1, .slice a2 n2 k2, .slice a3 n3 k3] 114 (0, 0))] :: c0 :: c1 :: c2 :: c3 :: H :: F) from hS_5) (by simp)
    have hq : totB [l0, l1, l2, l3] = totB S.bs := by rw [hb]
    omega
  refine skipE <| thenK_n <| seqE <| seqE <| regionE <| pu6 <| nilO <| thenK_n <| cFf <| skipE <| thenK_n <| seqE <| seqE ?_
  refine drawE [1] [(5, ⟨p, 0, none⟩, .int .i64 S.cap)] [(true, [0, 2, 3, 4]), (true, [5]), (false, [1]), (true, [6])] rfl (by kernel_rfl) ⟨.inr (hS_3.cell 1 rfl rfl), trivial⟩ ?_
  have hS_7 := hS_3.drew
  refine wU [0, 2, 3, 4] ?_
  refine wLd (.int .i64 S.cap) 0 Try.isAgg3 ?_
  refine wO rfl ?_
  have hS_8 := (((((hS_7.pick 5 rfl).pick 5 rfl).pick 5 rfl).pick 5 rfl).pick 5 rfl)
  have hS_9 : Sat W _ (([(p, .cells #[.int .i64 S.cap, .slice a0 n0 k0, .slice a1 n1 k1, .slice a2 n2 k2, .slice a3 n3 k3] 114 (0, 0))] ++ (c0 ++ (c1 ++ (c2 ++ c3)))) :: [(b_1, .cells #[.int .i64 r.job, .int .i64 r.task] 48 (0, 0))] :: H :: F) := Sat.perm (show Sat W _ ([(p, .cells #[.int .i64 S.cap, .slice a0 n0 k0, .slice a1 n1 k1, .slice a2 n2 k2, .slice a3 n3 k3] 114 (0, 0))] :: c0 :: c1 :: c2 :: c3 :: [(b_1, .cells #[.int .i64 r.job, .int .i64 r.task] 48 (0, 0))] :: H :: F) from hS_8) (by simp)
  have ht_13 : totB [l0, l1, l2, l3] = ((n0 + n1 + n2 + n3 : Nat) : Int) := by unfold totB; simp only [List.map_cons, List.map_nil, List.sum_cons, List.sum_nil]; have h0 := (hO0).len; have h1 := (hO1).len; have h2 := (hO2).len; have h3 := (hO3).len; omega
  refine cX Try.call60 (pq_len (S := ⟨S.cap, [l0, l1, l2, l3]⟩) ⟨_, _, _, _, _, _, _, _, _, _, _, _, _, _, _, _, _, _, _, _, rfl, hO0, hO1, hO2, hO3, rfl, hw1, (by dsimp only; omega)⟩ (Sat.flat1 hS_9)) ?_
  rintro _ w_10 ⟨rfl, hS_11⟩
  have hS_12 : Sat W _ ([(p, .cells #[.int .i64 S.cap, .slice a0 n0 k0, .slice a1 n1 k1, .slice a2 n2 k2, .slice a3 n3 k3] 114 (0, 0))] :: c0 :: c1 :: c2 :: c3 :: [(b_1, .cells #[.int .i64 r.job, .int .i64 r.task] 48 (0, 0))] :: H :: F) := Sat.perm (Sat.unflat1 hS_11) (by simp)
  refine nilO ⟨⟨.inr (hS_12.cell 0 rfl rfl), trivial⟩, ?_⟩
  refine wU [6] ?_
  refine wN ?_
  refine thenK_n <| ?_
  refine cD ((totB [l0, l1, l2, l3]) ≥ S.cap) (fun hc_14 => ?_) (fun hc_14 => ?_)
  · refine seqE <| regionE <| pu1 <| nilO <| thenK_n <| retE <| thenK_r <| retT [.int .i64 19] <| ?_
    have hS_15 := (hS_12.dropAt 5 rfl)
    have hS_16 : Sat W _ (([(p, .cells #[.int .i64 S.cap, .slice a0 n0 k0, .slice a1 n1 k1, .slice a2 n2 k2, .slice a3 n3 k3] 114 (0, 0))] ++ (c0 ++ (c1 ++ (c2 ++ c3)))) :: H :: F) := Sat.perm (show Sat W _ ([(p, .cells #[.int .i64 S.cap, .slice a0 n0 k0, .slice a1 n1 k1, .slice a2 n2 k2, .slice a3 n3 k3] 114 (0, 0))] :: c0 :: c1 :: c2 :: c3 :: H :: F) from hS_15) (by simp)
    have hq : totB [l0, l1, l2, l3] = totB S.bs := by rw [hb]
    have hc : pushCQ S = 19 := by unfold pushCQ; rw [if_pos (by omega)]
    have he : pushQ S r 3 = S := by unfold pushQ; rw [hc, if_neg (by decide)]
    exact ⟨_, by rw [hc]; rfl, by rw [he]; exact ⟨_, _, _, _, _, _, _, _, _, _, _, _, _, _, _, _, _, _, _, _, rfl, hO0, hO1, hO2, hO3, hb, hw1, hw2⟩, hS_16⟩
  refine skipE <| thenK_n <| seqE ?_
  refine drawE [9, 10, 14] [(7, ⟨p, 4, none⟩, .slice a3 n3 k3), (8, ⟨b_1, 0, none⟩, .int .i64 r.job), (8, ⟨b_1, 1, none⟩, .int .i64 r.task)] [(true, [0, 1, 2, 3, 4, 5, 6, 11, 12]), (true, [7]), (true, [8]), (false, [9]), (false, [10]), (true, [13]), (false, [14])] rfl (by kernel_rfl) ⟨.inr (hS_12.cell 0 rfl rfl), .inr (hS_12.cell 5 rfl rfl), .inr (hS_12.cell 5 rfl rfl), trivial⟩ ?_
  have hS_17 := hS_12.drew
  refine wU [0, 1, 2, 3, 4, 5, 6, 11, 12] ?_
  refine wLd (.slice a3 n3 k3) 0 Try.isAgg52 ?_
  refine wY (.agg #[.int .i64 r.job, .int .i64 r.task]) rfl (fun w hF => Y_loadF rfl (Try.isAgg48 w) (Try.sizeOf48 w) (by kernel_rfl) rfl ⟨hF 1 _ _ rfl, hF 2 _ _ rfl, trivial⟩) ?_
  refine wO rfl ?_
  refine sBS hS_17 #[.int .i64 r.job, .int .i64 r.task] Try.runUnderlying52 Try.sizeOf48 Try.zeroValue48 ?_
  intro b_18 w_19 hS_20
  refine nilO ⟨⟨.inr (hS_20.cell 1 rfl rfl), .inl (by kernel_rfl), .inl (by kernel_rfl), trivial⟩, ?_⟩
  refine wO rfl ?_
  refine sApp (nb := 16) hS_20 hO3 5 (RdT.blk (enc := encRef) (sz := 2) (xs := [(⟨r.job, r.task⟩ : Ref)]) (fun _ => rfl) 1 0 rfl rfl rfl (by omega)) Try.underlying52 (i := Try.t48) (by kernel_rfl) (fun _ => rfl) ?_
  intro a_21 cap_22 c_23 w_24 hO_25 hS_26
  refine nilO ⟨⟨.inl (by kernel_rfl), .inl (by kernel_rfl), .inl (by kernel_rfl), trivial⟩, ?_⟩
  refine wU [13] ?_
  refine wO rfl ?_
  refine tW hS_26 1 4 (.slice a_21 (n3 + 1) cap_22) Try.sizeOf52 ?_
  intro w_27 hS_28
  refine nilO ⟨⟨.inl (by kernel_rfl), .inl (by kernel_rfl), .inl (by kernel_rfl), trivial⟩, ?_⟩
  refine wN ?_
  refine thenK_n <| seqE <| regionE <| pu1 <| nilO <| thenK_n <| retE <| retT [.int .i64 0] <| ?_
  have hS_29 := ((hS_28.dropAt 0 rfl).dropAt 5 rfl)
  have hS_30 : Sat W _ (([(p, .cells #[.int .i64 S.cap, .slice a0 n0 k0, .slice a1 n1 k1, .slice a2 n2 k2, .slice a_21 (n3 + 1) cap_22] 114 (0, 0))] ++ (c0 ++ (c1 ++ (c2 ++ c_23)))) :: H :: F) := Sat.perm (show Sat W _ ([(p, .cells #[.int .i64 S.cap, .slice a0 n0 k0, .slice a1 n1 k1, .slice a2 n2 k2, .slice a_21 (n3 + 1) cap_22] 114 (0, 0))] :: c0 :: c1 :: c2 :: c_23 :: H :: F) from hS_29) (by simp)
  have hq : totB [l0, l1, l2, l3] = totB S.bs := by rw [hb]
  have hc : pushCQ S = 0 := by unfold pushCQ; rw [if_neg (by omega)]
  have he : pushQ S r 3 = { S with bs := [l0, l1, l2, (l3 ++ [(⟨r.job, r.task⟩ : Ref)])] } := by unfold pushQ; rw [if_pos hc, hb]; rfl
  exact ⟨_, by rw [hc]; rfl, by rw [he]; exact ⟨_, _, _, _, _, _, _, _, _, _, _, _, _, _, _, _, _, _, _, _, rfl, hO0, hO1, hO2, hO_25, rfl, hw1, (by unfold totB; simp; omega)⟩, hS_30⟩
theorem pq_push {p : Nat} {S : QS} {M : Chunk} (hR : InjP p S M) (r : Ref) (b : Int) (hb : 0 ≤ b ∧ b < 4) (hS : Sat W w (M :: H :: F)) :
    Calls Try.prog 50 #[.pointer (some ⟨p, 0, none⟩), .agg #[.int .i64 r.job, .int .i64 r.task], .int .i64 b] w fun e w' => ∃ M' : Chunk, e = .returned (.int .i64 (pushCQ S)) ∧ InjP p (pushQ S r b) M' ∧ Sat W w' (M' :: H :: F) := by
  rcases (by omega : b = 0 ∨ b = 1 ∨ b = 2 ∨ b = 3) with rfl | rfl | rfl | rfl
  · exact pq_push0 hR r hS
  · exact pq_push1 hR r hS
  · exact pq_push2 hR r hS
  · exact pq_push3 hR r hS
theorem pq_pop {p : Nat} {S : QS} {M : Chunk} (hR : InjP p S M)  (hS : Sat W w (M :: H :: F)) :
    Calls Try.prog 84 #[.pointer (some ⟨p, 0, none⟩)] w fun e w' => (popB S.bs = none ∧ e = .returned (.tuple #[.agg #[.int .i64 0, .int .i64 0], .bool false]) ∧ Sat W w' (M :: H :: F)) ∨ (∃ (x : Ref) (bs : List (List Ref)) (M' : Chunk), popB S.bs = some (x, bs) ∧ e = .returned (.tuple #[.agg #[.int .i64 x.job, .int .i64 x.task], .bool true]) ∧ InjP p { S with bs := bs } M' ∧ Sat W w' (M' :: H :: F)) := by
  obtain ⟨a0, n0, k0, l0, c0, a1, n1, k1, l1, c1, a2, n2, k2, l2, c2, a3, n3, k3, l3, c3, rfl, hO0, hO1, hO2, hO3, hb, hw1, hw2⟩ := hR
  have hS : Sat W _ ([(p, .cells #[.int .i64 S.cap, .slice a0 n0 k0, .slice a1 n1 k1, .slice a2 n2 k2, .slice a3 n3 k3] 114 (0, 0))] :: c0 :: c1 :: c2 :: c3 :: H :: F) := Sat.perm hS (by simp)
  have ht : totB S.bs = n0 + n1 + n2 + n3 := by rw [hb]; unfold totB; simp [hO0.len, hO1.len, hO2.len, hO3.len]; omega
  have hn0 := hO0.len; have hl0 := hO0.le; have hn1 := hO1.len; have hl1 := hO1.le; have hn2 := hO2.len; have hl2 := hO2.le; have hn3 := hO3.len; have hl3 := hO3.le
  refine callsA 32 Try.func84 rfl ?_
  refine seqE <| regionE ?_
  refine sAlloc hS Try.zeroValue48 ?_
  intro b_1 w_2 hS_3
  refine pu1 <| nilO <| thenK_n <| seqE <| seqE <| regionE <| pu2 <| nilO <| thenK_n <| cFf <| skipE <| thenK_n <| seqE <| seqE <| regionE <| pu3 ?_
  refine lA hS_3 1 1 4 (Try.isAgg112 _) (Try.sizeOf112 _) ?_
  refine pu1 <| nilO <| thenK_n <| blockE ?_
  refine loopN 5 ?_
  refine roundS ?_
  refine seqE <| regionE <| pu1 <| nilO <| thenK_n <| seqE <| cTt <| skipE <| thenK_n <| seqE <| blockE <| seqE <| regionE <| pu4 <| nilO <| thenK_n <| seqE <| regionE <| pu3 <| nilO <| thenK_n <| ?_
  refine cD (((n0 : Nat) : Int) > 0) (fun hc_4 => ?_) (fun hc_4 => ?_)
  · refine seqE ?_
    refine drawE [7] [] [(true, [0, 1, 2]), (true, [3]), (true, [4, 5, 6]), (false, [7])] rfl (by kernel_rfl) trivial ?_
    have hS_5 := hS_3.drew
    refine wU [0, 1, 2] ?_
    have hP_6 := hO0.part (lo := 1) (hi := n0) (by omega) (by omega)
    refine wY (.slice (partAddr a0 k0 1 2) (n0 - 1) (k0 - 1)) rfl (fun w _ => Y_sl (a := a0) (len := n0) (cap := k0) (some 1) none 1 n0 Try.runUnderlying52 Try.sizeOf48 ⟨by decide, rfl⟩ rfl (by omega) (by omega)) ?_
    refine wU [4, 5, 6] ?_
    refine wO rfl ?_
    refine tW hS_5 1 1 (.slice (partAddr a0 k0 1 2) (n0 - 1) (k0 - 1)) Try.sizeOf52 ?_
    intro w_7 hS_8
    refine nilO ⟨trivial, ?_⟩
    refine wN ?_
    refine thenK_n <| seqE <| regionE <| pu1 ?_
    refine sIdxO hO0 0 0 Try.runUnderlying52 Try.sizeOf48 ?_
    intro x_9 b_10 o_11 hx_12 hp_13 hq_14
    refine sLpA hS_8 (hp_13.up 2 rfl) 0 [.int .i64 x_9.job, .int .i64 x_9.task] (Try.isAgg48 _) (Try.sizeOf48 _) ?_
    refine sT hS_8 0 0 (.agg #[.int .i64 x_9.job, .int .i64 x_9.task]) [.int .i64 x_9.job, .int .i64 x_9.task] #[.int .i64 x_9.job, .int .i64 x_9.task] Try.sizeOf48 ?_
    intro w_15 hS_16
    refine pu1 <| nilO <| thenK_n <| retE <| blockK_r <| thenK_r <| thenK_r <| blockK_r <| thenK_r <| retN (vs := [.agg #[.int .i64 x_9.job, .int .i64 x_9.task], .bool true]) rfl (.cons (.cell _ _ _ _ (by kernel_rfl) (lvA hS_16 0 0 [.int .i64 x_9.job, .int .i64 x_9.task] (Try.isAgg48 _) (Try.sizeOf48 _) rfl rfl rfl)) (.cons (.tmp _ _ (by kernel_rfl)) .nil)) <| ?_
    have hS_17 := (hS_16.dropAt 0 rfl)
    have hS_18 : Sat W _ (([(p, .cells #[.int .i64 S.cap, .slice (partAddr a0 k0 1 2) (n0 - 1) (k0 - 1), .slice a1 n1 k1, .slice a2 n2 k2, .slice a3 n3 k3] 114 (0, 0))] ++ (c0 ++ (c1 ++ (c2 ++ c3)))) :: H :: F) := Sat.perm (show Sat W _ ([(p, .cells #[.int .i64 S.cap, .slice (partAddr a0 k0 1 2) (n0 - 1) (k0 - 1), .slice a1 n1 k1, .slice a2 n2 k2, .slice a3 n3 k3] 114 (0, 0))] :: c0 :: c1 :: c2 :: c3 :: H :: F) from hS_17) (by simp)
    have htp := tail_part2 hn0
    have hOt := hP_6; rw [htp] at hOt
    have hpb : popB S.bs = some (x_9, [l0.tail, l1, l2, l3]) := by rw [hb, popB_at hx_12]
    exact .inr ⟨_, _, _, hpb, rfl, ⟨_, _, _, _, _, _, _, _, _, _, _, _, _, _, _, _, _, _, _, _, rfl, hOt, hO1, hO2, hO3, rfl, hw1, (by have hlt := List.length_tail (l := l0); unfold totB; simp only [List.map_cons, List.map_nil, List.sum_cons, List.sum_nil]; omega)⟩, hS_18⟩
  refine skipE <| blockK_n <| thenK_n <| regionE <| pu2 <| nilO <| thenK_n <| ?_
  refine roundS ?_
  refine seqE <| regionE <| pu1 <| nilO <| thenK_n <| seqE <| cTt <| skipE <| thenK_n <| seqE <| blockE <| seqE <| regionE <| pu4 <| nilO <| thenK_n <| seqE <| regionE <| pu3 <| nilO <| thenK_n <| ?_
  refine cD (((n1 : Nat) : Int) > 0) (fun hc_19 => ?_) (fun hc_19 => ?_)
  · refine seqE ?_
    refine drawE [7] [] [(true, [0, 1, 2]), (true, [3]), (true, [4, 5, 6]), (false, [7])] rfl (by kernel_rfl) trivial ?_
    have hS_20 := hS_3.drew
    refine wU [0, 1, 2] ?_
    have hP_21 := hO1.part (lo := 1) (hi := n1) (by omega) (by omega)
    refine wY (.slice (partAddr a1 k1 1 2) (n1 - 1) (k1 - 1)) rfl (fun w _ => Y_sl (a := a1) (len := n1) (cap := k1) (some 1) none 1 n1 Try.runUnderlying52 Try.sizeOf48 ⟨by decide, rfl⟩ rfl (by omega) (by omega)) ?_
    refine wU [4, 5, 6] ?_
    refine wO rfl ?_
    refine tW hS_20 1 2 (.slice (partAddr a1 k1 1 2) (n1 - 1) (k1 - 1)) Try.sizeOf52 ?_
    intro w_22 hS_23
    refine nilO ⟨trivial, ?_⟩
    refine wN ?_
    refine thenK_n <| seqE <| regionE <| pu1 ?_
    refine sIdxO hO1 0 0 Try.runUnderlying52 Try.sizeOf48 ?_
    intro x_24 b_25 o_26 hx_27 hp_28 hq_29
    refine sLpA hS_23 (hp_28.up 3 rfl) 0 [.int .i64 x_24.job, .int .i64 x_24.task] (Try.isAgg48 _) (Try.sizeOf48 _) ?_
    refine sT hS_23 0 0 (.agg #[.int .i64 x_24.job, .int .i64 x_24.task]) [.int .i64 x_24.job, .int .i64 x_24.task] #[.int .i64 x_24.job, .int .i64 x_24.task] Try.sizeOf48 ?_
    intro w_30 hS_31
    refine pu1 <| nilO <| thenK_n <| retE <| blockK_r <| thenK_r <| thenK_r <| blockK_r <| thenK_r <| retN (vs := [.agg #[.int .i64 x_24.job, .int .i64 x_24.task], .bool true]) rfl (.cons (.cell _ _ _ _ (by kernel_rfl) (lvA hS_31 0 0 [.int .i64 x_24.job, .int .i64 x_24.task] (Try.isAgg48 _) (Try.sizeOf48 _) rfl rfl rfl)) (.cons (.tmp _ _ (by kernel_rfl)) .nil)) <| ?_
    have hS_32 := (hS_31.dropAt 0 rfl)
    have hS_33 : Sat W _ (([(p, .cells #[.int .i64 S.cap, .slice a0 n0 k0, .slice (partAddr a1 k1 1 2) (n1 - 1) (k1 - 1), .slice a2 n2 k2, .slice a3 n3 k3] 114 (0, 0))] ++ (c0 ++ (c1 ++ (c2 ++ c3)))) :: H :: F) := Sat.perm (show Sat W _ ([(p, .cells #[.int .i64 S.cap, .slice a0 n0 k0, .slice (partAddr a1 k1 1 2) (n1 - 1) (k1 - 1), .slice a2 n2 k2, .slice a3 n3 k3] 114 (0, 0))] :: c0 :: c1 :: c2 :: c3 :: H :: F) from hS_32) (by simp)
    have htp := tail_part2 hn1
    have hOt := hP_21; rw [htp] at hOt
    have hpb : popB S.bs = some (x_24, [l0, l1.tail, l2, l3]) := by rw [hb, popB_nil (by omega), popB_at hx_27]; rfl
    exact .inr ⟨_, _, _, hpb, rfl, ⟨_, _, _, _, _, _, _, _, _, _, _, _, _, _, _, _, _, _, _, _, rfl, hO0, hOt, hO2, hO3, rfl, hw1, (by have hlt := List.length_tail (l := l1); unfold totB; simp only [List.map_cons, List.map_nil, List.sum_cons, List.sum_nil]; omega)⟩, hS_33⟩
  refine skipE <| blockK_n <| thenK_n <| regionE <| pu2 <| nilO <| thenK_n <| ?_
  refine roundS ?_
  refine seqE <| regionE <| pu1 <| nilO <| thenK_n <| seqE <| cTt <| skipE <| thenK_n <| seqE <| blockE <| seqE <| regionE <| pu4 <| nilO <| thenK_n <| seqE <| regionE <| pu3 <| nilO <| thenK_n <| ?_
  refine cD (((n2 : Nat) : Int) > 0) (fun hc_34 => ?_) (fun hc_34 => ?_)
  · refine seqE ?_
    refine drawE [7] [] [(true, [0, 1, 2]), (true, [3]), (true, [4, 5, 6]), (false, [7])] rfl (by kernel_rfl) trivial ?_
    have hS_35 := hS_3.drew
    refine wU [0, 1, 2] ?_
    have hP_36 := hO2.part (lo := 1) (hi := n2) (by omega) (by omega)
    refine wY (.slice (partAddr a2 k2 1 2) (n2 - 1) (k2 - 1)) rfl (fun w _ => Y_sl (a := a2) (len := n2) (cap := k2) (some 1) none 1 n2 Try.runUnderlying52 Try.sizeOf48 ⟨by decide, rfl⟩ rfl (by omega) (by omega)) ?_
    refine wU [4, 5, 6] ?_
    refine wO rfl ?_
    refine tW hS_35 1 3 (.slice (partAddr a2 k2 1 2) (n2 - 1) (k2 - 1)) Try.sizeOf52 ?_
    intro w_37 hS_38
    refine nilO ⟨trivial, ?_⟩
    refine wN ?_
    refine thenK_n <| seqE <| regionE <| pu1 ?_
    refine sIdxO hO2 0 0 Try.runUnderlying52 Try.sizeOf48 ?_
    intro x_39 b_40 o_41 hx_42 hp_43 hq_44
    refine sLpA hS_38 (hp_43.up 4 rfl) 0 [.int .i64 x_39.job, .int .i64 x_39.task] (Try.isAgg48 _) (Try.sizeOf48 _) ?_
    refine sT hS_38 0 0 (.agg #[.int .i64 x_39.job, .int .i64 x_39.task]) [.int .i64 x_39.job, .int .i64 x_39.task] #[.int .i64 x_39.job, .int .i64 x_39.task] Try.sizeOf48 ?_
    intro w_45 hS_46
    refine pu1 <| nilO <| thenK_n <| retE <| blockK_r <| thenK_r <| thenK_r <| blockK_r <| thenK_r <| retN (vs := [.agg #[.int .i64 x_39.job, .int .i64 x_39.task], .bool true]) rfl (.cons (.cell _ _ _ _ (by kernel_rfl) (lvA hS_46 0 0 [.int .i64 x_39.job, .int .i64 x_39.task] (Try.isAgg48 _) (Try.sizeOf48 _) rfl rfl rfl)) (.cons (.tmp _ _ (by kernel_rfl)) .nil)) <| ?_
    have hS_47 := (hS_46.dropAt 0 rfl)
    have hS_48 : Sat W _ (([(p, .cells #[.int .i64 S.cap, .slice a0 n0 k0, .slice a1 n1 k1, .slice (partAddr a2 k2 1 2) (n2 - 1) (k2 - 1), .slice a3 n3 k3] 114 (0, 0))] ++ (c0 ++ (c1 ++ (c2 ++ c3)))) :: H :: F) := Sat.perm (show Sat W _ ([(p, .cells #[.int .i64 S.cap, .slice a0 n0 k0, .slice a1 n1 k1, .slice (partAddr a2 k2 1 2) (n2 - 1) (k2 - 1), .slice a3 n3 k3] 114 (0, 0))] :: c0 :: c1 :: c2 :: c3 :: H :: F) from hS_47) (by simp)
    have htp := tail_part2 hn2
    have hOt := hP_36; rw [htp] at hOt
    have hpb : popB S.bs = some (x_39, [l0, l1, l2.tail, l3]) := by rw [hb, popB_nil (by omega), popB_nil (by omega), popB_at hx_42]; rfl
    exact .inr ⟨_, _, _, hpb, rfl, ⟨_, _, _, _, _, _, _, _, _, _, _, _, _, _, _, _, _, _, _, _, rfl, hO0, hO1, hOt, hO3, rfl, hw1, (by have hlt := List.length_tail (l := l2); unfold totB; simp only [List.map_cons, List.map_nil, List.sum_cons, List.sum_nil]; omega)⟩, hS_48⟩
  refine skipE <| blockK_n <| thenK_n <| regionE <| pu2 <| nilO <| thenK_n <| ?_
  refine roundS ?_
  refine seqE <| regionE <| pu1 <| nilO <| thenK_n <| seqE <| cTt <| skipE <| thenK_n <| seqE <| blockE <| seqE <| regionE <| pu4 <| nilO <| thenK_n <| seqE <| regionE <| pu3 <| nilO <| thenK_n <| ?_
  refine cD (((n3 : Nat) : Int) > 0) (fun hc_49 => ?_) (fun hc_49 => ?_)
  rotate_left
  · refine skipE <| blockK_n <| thenK_n <| regionE <| pu2 <| nilO <| thenK_n <| ?_
    refine roundS ?_
    refine seqE <| regionE <| pu1 <| nilO <| thenK_n <| seqE <| cFf <| exitE <| thenK_x <| thenK_x <| blockK_x <| thenK_n <| seqE <| regionE <| pu1 ?_
    refine sT hS_3 0 0 (.agg #[.int .i64 0, .int .i64 0]) [.int .i64 0, .int .i64 0] #[.int .i64 0, .int .i64 0] Try.sizeOf48 ?_
    intro w_64 hS_65
    refine pu1 <| nilO <| thenK_n <| retE <| retN (vs := [.agg #[.int .i64 0, .int .i64 0], .bool false]) rfl (.cons (.cell _ _ _ _ (by kernel_rfl) (lvA hS_65 0 0 [.int .i64 0, .int .i64 0] (Try.isAgg48 _) (Try.sizeOf48 _) rfl rfl rfl)) (.cons (.tmp _ _ (by kernel_rfl)) .nil)) <| ?_
    have hS_66 := (hS_65.dropAt 0 rfl)
    have hS_67 : Sat W _ (([(p, .cells #[.int .i64 S.cap, .slice a0 n0 k0, .slice a1 n1 k1, .slice a2 n2 k2, .slice a3 n3 k3] 114 (0, 0))] ++ (c0 ++ (c1 ++ (c2 ++ c3)))) :: H :: F) := Sat.perm (show Sat W _ ([(p, .cells #[.int .i64 S.cap, .slice a0 n0 k0, .slice a1 n1 k1, .slice a2 n2 k2, .slice a3 n3 k3] 114 (0, 0))] :: c0 :: c1 :: c2 :: c3 :: H :: F) from hS_66) (by simp)
    exact .inl ⟨by rw [hb, popB_nil (by omega), popB_nil (by omega), popB_nil (by omega), popB_nil (by omega)]; rfl, rfl, hS_67⟩
  refine seqE ?_
  refine drawE [7] [] [(true, [0, 1, 2]), (true, [3]), (true, [4, 5, 6]), (false, [7])] rfl (by kernel_rfl) trivial ?_
  have hS_50 := hS_3.drew
  refine wU [0, 1, 2] ?_
  have hP_51 := hO3.part (lo := 1) (hi := n3) (by omega) (by omega)
  refine wY (.slice (partAddr a3 k3 1 2) (n3 - 1) (k3 - 1)) rfl (fun w _ => Y_sl (a := a3) (len := n3) (cap := k3) (some 1) none 1 n3 Try.runUnderlying52 Try.sizeOf48 ⟨by decide, rfl⟩ rfl (by omega) (by omega)) ?_
  refine wU [4, 5, 6] ?_
  refine wO rfl ?_
  refine tW hS_50 1 4 (.slice (partAddr a3 k3 1 2) (n3 - 1) (k3 - 1)) Try.sizeOf52 ?_
  intro w_52 hS_53
  refine nilO ⟨trivial, ?_⟩
  refine wN ?_
  refine thenK_n <| seqE <| regionE <| pu1 ?_
  refine sIdxO hO3 0 0 Try.runUnderlying52 Try.sizeOf48 ?_
  intro x_54 b_55 o_56 hx_57 hp_58 hq_59
  refine sLpA hS_53 (hp_58.up 5 rfl) 0 [.int .i64 x_54.job, .int .i64 x_54.task] (Try.isAgg48 _) (Try.sizeOf48 _) ?_
  refine sT hS_53 0 0 (.agg #[.int .i64 x_54.job, .int .i64 x_54.task]) [.int .i64 x_54.job, .int .i64 x_54.task] #[.int .i64 x_54.job, .int .i64 x_54.task] Try.sizeOf48 ?_
  intro w_60 hS_61
  refine pu1 <| nilO <| thenK_n <| retE <| blockK_r <| thenK_r <| thenK_r <| blockK_r <| thenK_r <| retN (vs := [.agg #[.int .i64 x_54.job, .int .i64 x_54.task], .bool true]) rfl (.cons (.cell _ _ _ _ (by kernel_rfl) (lvA hS_61 0 0 [.int .i64 x_54.job, .int .i64 x_54.task] (Try.isAgg48 _) (Try.sizeOf48 _) rfl rfl rfl)) (.cons (.tmp _ _ (by kernel_rfl)) .nil)) <| ?_
  have hS_62 := (hS_61.dropAt 0 rfl)
  have hS_63 : Sat W _ (([(p, .cells #[.int .i64 S.cap, .slice a0 n0 k0, .slice a1 n1 k1, .slice a2 n2 k2, .slice (partAddr a3 k3 1 2) (n3 - 1) (k3 - 1)] 114 (0, 0))] ++ (c0 ++ (c1 ++ (c2 ++ c3)))) :: H :: F) := Sat.perm (show Sat W _ ([(p, .cells #[.int .i64 S.cap, .slice a0 n0 k0, .slice a1 n1 k1, .slice a2 n2 k2, .slice (partAddr a3 k3 1 2) (n3 - 1) (k3 - 1)] 114 (0, 0))] :: c0 :: c1 :: c2 :: c3 :: H :: F) from hS_62) (by simp)
  have htp := tail_part2 hn3
  have hOt := hP_51; rw [htp] at hOt
  have hpb : popB S.bs = some (x_54, [l0, l1, l2, l3.tail]) := by rw [hb, popB_nil (by omega), popB_nil (by omega), popB_nil (by omega), popB_at hx_57]; rfl
  exact .inr ⟨_, _, _, hpb, rfl, ⟨_, _, _, _, _, _, _, _, _, _, _, _, _, _, _, _, _, _, _, _, rfl, hO0, hO1, hO2, hOt, rfl, hw1, (by have hlt := List.length_tail (l := l3); unfold totB; simp only [List.map_cons, List.map_nil, List.sum_cons, List.sum_nil]; omega)⟩, hS_63⟩
theorem pq_remove {p : Nat} {S : QS} {M : Chunk} (hR : InjP p S M) (j : Int) (hS : Sat W w (M :: H :: F)) :
    Calls Try.prog 72 #[.pointer (some ⟨p, 0, none⟩), .int .i64 j] w fun e w' => ∃ (M' : Chunk) (v : Int), e = .returned (.int .i64 v) ∧ InjP p ({ S with bs := S.bs.map (without j) }) M' ∧ Sat W w' (M' :: H :: F) := by
  obtain ⟨a0, n0, k0, l0, c0, a1, n1, k1, l1, c1, a2, n2, k2, l2, c2, a3, n3, k3, l3, c3, rfl, hO0, hO1, hO2, hO3, hb, hw1, hw2⟩ := hR
  have hS : Sat W _ ([(p, .cells #[.int .i64 S.cap, .slice a0 n0 k0, .slice a1 n1 k1, .slice a2 n2 k2, .slice a3 n3 k3] 114 (0, 0))] :: c0 :: c1 :: c2 :: c3 :: H :: F) := Sat.perm hS (by simp)
  have ht : totB S.bs = n0 + n1 + n2 + n3 := by rw [hb]; unfold totB; simp [hO0.len, hO1.len, hO2.len, hO3.len]; omega
  have hn0 := hO0.len; have hl0 := hO0.le; have hn1 := hO1.len; have hl1 := hO1.le; have hn2 := hO2.len; have hl2 := hO2.le; have hn3 := hO3.len; have hl3 := hO3.le
  refine callsA 33 Try.func72 rfl ?_
  refine seqE <| regionE ?_
  refine sBox hS (.int .i64 j) #[.int .i64 j] ?_
  intro b_1 w_2 hS_3
  refine pu1 <| nilO <| thenK_n <| seqE <| seqE <| regionE <| pu2 <| nilO <| thenK_n <| cFf <| skipE <| thenK_n <| seqE <| regionE <| pu1 ?_
  have hS_4 := (((((hS_3.pick 5 rfl).pick 5 rfl).pick 5 rfl).pick 5 rfl).pick 5 rfl)
  have hS_5 : Sat W _ (([(p, .cells #[.int .i64 S.cap, .slice a0 n0 k0, .slice a1 n1 k1, .slice a2 n2 k2, .slice a3 n3 k3] 114 (0, 0))] ++ (c0 ++ (c1 ++ (c2 ++ c3)))) :: [(b_1, .cells #[.int .i64 j] 3 (0, 0))] :: H :: F) := Sat.perm (show Sat W _ ([(p, .cells #[.int .i64 S.cap, .slice a0 n0 k0, .slice a1 n1 k1, .slice a2 n2 k2, .slice a3 n3 k3] 114 (0, 0))] :: c0 :: c1 :: c2 :: c3 :: [(b_1, .cells #[.int .i64 j] 3 (0, 0))] :: H :: F) from hS_4) (by simp)
  have ht_9 : totB [l0, l1, l2, l3] = ((n0 + n1 + n2 + n3 : Nat) : Int) := by unfold totB; simp only [List.map_cons, List.map_nil, List.sum_cons, List.sum_nil]; have h0 := (hO0).len; have h1 := (hO1).len; have h2 := (hO2).len; have h3 := (hO3).len; omega
  refine cX Try.call60 (pq_len (S := ⟨S.cap, [l0, l1, l2, l3]⟩) ⟨_, _, _, _, _, _, _, _, _, _, _, _, _, _, _, _, _, _, _, _, rfl, hO0, hO1, hO2, hO3, rfl, hw1, (by dsimp only; omega)⟩ (Sat.flat1 hS_5)) ?_
  rintro _ w_6 ⟨rfl, hS_7⟩
  have hS_8 : Sat W _ ([(p, .cells #[.int .i64 S.cap, .slice a0 n0 k0, .slice a1 n1 k1, .slice a2 n2 k2, .slice a3 n3 k3] 114 (0, 0))] :: c0 :: c1 :: c2 :: c3 :: [(b_1, .cells #[.int .i64 j] 3 (0, 0))] :: H :: F) := Sat.perm (Sat.unflat1 hS_7) (by simp)
  refine pu1 <| nilO <| thenK_n <| seqE <| seqE <| regionE <| pu3 ?_
  refine lA hS_8 0 1 4 (Try.isAgg112 _) (Try.sizeOf112 _) ?_
  refine pu1 <| nilO <| thenK_n <| blockE ?_
  refine loopN 5 ?_
  refine roundS ?_
  refine seqE <| regionE <| pu1 <| nilO <| thenK_n <| seqE <| cTt <| skipE <| thenK_n <| seqE <| blockE <| seqE <| regionE <| pu4 <| nilO <| thenK_n <| ?_
  refine drawE [4, 8] [] [(true, [0, 1, 2, 3, 5, 6]), (false, [4]), (true, [7]), (false, [8])] rfl (by kernel_rfl) trivial ?_
  have hS_10 := hS_8.drew
  refine wU [0, 1, 2, 3, 5, 6] ?_
  refine wO rfl ?_
  have hS_17 := ((hS_10.pick 1 rfl).pick 5 rfl)
  have := without_len j l0
  refine sF #[.slice a0 n0 k0, .func (.func 95) #[] #[.pointer (some ⟨b_1, 0, none⟩)]] Try.call94 (Calls.mono (delete_ok W _ _ _ _ _ _ _ _ _ hO0 hS_17) ?_)
  rintro _ w_11 ⟨a_13, cap_14, c_15, rfl, hO_16, hS_12⟩
  refine ⟨_, rfl, ?_⟩
  refine nilO ⟨trivial, ?_⟩
  refine wU [7] ?_
  refine wO rfl ?_
  refine tW hS_12 2 1 (.slice a_13 ((without j l0).length) cap_14) Try.sizeOf52 ?_
  intro w_18 hS_19
  refine nilO ⟨trivial, ?_⟩
  refine wN ?_
  refine blockK_n <| thenK_n <| regionE <| pu2 <| nilO <| thenK_n <| ?_
  refine roundS ?_
  refine seqE <| regionE <| pu1 <| nilO <| thenK_n <| seqE <| cTt <| skipE <| thenK_n <| seqE <| blockE <| seqE <| regionE <| pu4 <| nilO <| thenK_n <| ?_
  refine drawE [4, 8] [] [(true, [0, 1, 2, 3, 5, 6]), (false, [4]), (true, [7]), (false, [8])] rfl (by kernel_rfl) trivial ?_
  have hS_20 := hS_19.drew
  refine wU [0, 1, 2, 3, 5, 6] ?_
  refine wO rfl ?_
  have hS_27 := ((hS_20.pick 3 rfl).pick 1 rfl)
  have := without_len j l1
  refine sF #[.slice a1 n1 k1, .func (.func 95) #[] #[.pointer (some ⟨b_1, 0, none⟩)]] Try.call94 (Calls.mono (delete_ok W _ _ _ _ _ _ _ _ _ hO1 hS_27) ?_)
  rintro _ w_21 ⟨a_23, cap_24, c_25, rfl, hO_26, hS_22⟩
  refine ⟨_, rfl, ?_⟩
  refine nilO ⟨trivial, ?_⟩
  refine wU [7] ?_
  refine wO rfl ?_
  refine tW hS_22 3 2 (.slice a_23 ((without j l1).length) cap_24) Try.sizeOf52 ?_
  intro w_28 hS_29
  refine nilO ⟨trivial, ?_⟩
  refine wN ?_
  refine blockK_n <| thenK_n <| regionE <| pu2 <| nilO <| thenK_n <| ?_
  refine roundS ?_
  refine seqE <| regionE <| pu1 <| nilO <| thenK_n <| seqE <| cTt <| skipE <| thenK_n <| seqE <| blockE <| seqE <| regionE <| pu4 <| nilO <| thenK_n <| ?_
  refine drawE [4, 8] [] [(true, [0, 1, 2, 3, 5, 6]), (false, [4]), (true, [7]), (false, [8])] rfl (by kernel_rfl) trivial ?_
  have hS_30 := hS_29.drew
  refine wU [0, 1, 2, 3, 5, 6] ?_
  refine wO rfl ?_
  have hS_37 := ((hS_30.pick 4 rfl).pick 1 rfl)
  have := without_len j l2
  refine sF #[.slice a2 n2 k2, .func (.func 95) #[] #[.pointer (some ⟨b_1, 0, none⟩)]] Try.call94 (Calls.mono (delete_ok W _ _ _ _ _ _ _ _ _ hO2 hS_37) ?_)
  rintro _ w_31 ⟨a_33, cap_34, c_35, rfl, hO_36, hS_32⟩
  refine ⟨_, rfl, ?_⟩
  refine nilO ⟨trivial, ?_⟩
  refine wU [7] ?_
  refine wO rfl ?_
  refine tW hS_32 4 3 (.slice a_33 ((without j l2).length) cap_34) Try.sizeOf52 ?_
  intro w_38 hS_39
  refine nilO ⟨trivial, ?_⟩
  refine wN ?_
  refine blockK_n <| thenK_n <| regionE <| pu2 <| nilO <| thenK_n <| ?_
  refine roundS ?_
  refine seqE <| regionE <| pu1 <| nilO <| thenK_n <| seqE <| cTt <| skipE <| thenK_n <| seqE <| blockE <| seqE <| regionE <| pu4 <| nilO <| thenK_n <| ?_
  refine drawE [4, 8] [] [(true, [0, 1, 2, 3, 5, 6]), (false, [4]), (true, [7]), (false, [8])] rfl (by kernel_rfl) trivial ?_
  have hS_40 := hS_39.drew
  refine wU [0, 1, 2, 3, 5, 6] ?_
  refine wO rfl ?_
  have hS_47 := ((hS_40.pick 5 rfl).pick 1 rfl)
  have := without_len j l3
  refine sF #[.slice a3 n3 k3, .func (.func 95) #[] #[.pointer (some ⟨b_1, 0, none⟩)]] Try.call94 (Calls.mono (delete_ok W _ _ _ _ _ _ _ _ _ hO3 hS_47) ?_)
  rintro _ w_41 ⟨a_43, cap_44, c_45, rfl, hO_46, hS_42⟩
  refine ⟨_, rfl, ?_⟩
  refine nilO ⟨trivial, ?_⟩
  refine wU [7] ?_
  refine wO rfl ?_
  refine tW hS_42 5 4 (.slice a_43 ((without j l3).length) cap_44) Try.sizeOf52 ?_
  intro w_48 hS_49
  refine nilO ⟨trivial, ?_⟩
  refine wN ?_
  refine blockK_n <| thenK_n <| regionE <| pu2 <| nilO <| thenK_n <| ?_
  refine roundS ?_
  refine seqE <| regionE <| pu1 <| nilO <| thenK_n <| seqE <| cFf <| exitE <| thenK_x <| thenK_x <| blockK_x <| thenK_n <| seqE <| regionE <| pu2 ?_
  have hS_50 := (((((hS_49.pick 1 rfl).pick 2 rfl).pick 3 rfl).pick 4 rfl).pick 5 rfl)
  have hS_51 : Sat W _ (([(p, .cells #[.int .i64 S.cap, .slice a_13 ((without j l0).length) cap_14, .slice a_23 ((without j l1).length) cap_24, .slice a_33 ((without j l2).length) cap_34, .slice a_43 ((without j l3).length) cap_44] 114 (0, 0))] ++ (c_15 ++ (c_25 ++ (c_35 ++ c_45)))) :: [(b_1, .cells #[.int .i64 j] 3 (0, 0))] :: H :: F) := Sat.perm (show Sat W _ ([(p, .cells #[.int .i64 S.cap, .slice a_13 ((without j l0).length) cap_14, .slice a_23 ((without j l1).length) cap_24, .slice a_33 ((without j l2).length) cap_34, .slice a_43 ((without j l3).length) cap_44] 114 (0, 0))] :: c_15 :: c_25 :: c_35 :: c_45 :: [(b_1, .cells #[.int .i64 j] 3 (0, 0))] :: H :: F) from hS_50) (by simp)
  have ht_55 : totB [(without j l0), (without j l1), (without j l2), (without j l3)] = (((without j l0).length + (without j l1).length + (without j l2).length + (without j l3).length : Nat) : Int) := by unfold totB; simp only [List.map_cons, List.map_nil, List.sum_cons, List.sum_nil]; have h0 := (hO_16).len; have h1 := (hO_26).len; have h2 := (hO_36).len; have h3 := (hO_46).len; omega
  refine cX Try.call60 (pq_len (S := ⟨S.cap, [(without j l0), (without j l1), (without j l2), (without j l3)]⟩) ⟨_, _, _, _, _, _, _, _, _, _, _, _, _, _, _, _, _, _, _, _, rfl, hO_16, hO_26, hO_36, hO_46, rfl, hw1, (by dsimp only; omega)⟩ (Sat.flat1 hS_51)) ?_
  rintro _ w_52 ⟨rfl, hS_53⟩
  have hS_54 : Sat W _ ([(p, .cells #[.int .i64 S.cap, .slice a_13 ((without j l0).length) cap_14, .slice a_23 ((without j l1).length) cap_24, .slice a_33 ((without j l2).length) cap_34, .slice a_43 ((without j l3).length) cap_44] 114 (0, 0))] :: c_15 :: c_25 :: c_35 :: c_45 :: [(b_1, .cells #[.int .i64 j] 3 (0, 0))] :: H :: F) := Sat.perm (Sat.unflat1 hS_53) (by simp)
  refine sSub (totB [l0, l1, l2, l3]) (totB [(without j l0), (without j l1), (without j l2), (without j l3)]) ?_
  refine pu1 <| nilO <| thenK_n <| retE <| retT [.int .i64 ((totB [l0, l1, l2, l3]) - (totB [(without j l0), (without j l1), (without j l2), (without j l3)]))] <| ?_
  have hS_56 := (hS_54.dropAt 5 rfl)
  have hS_57 : Sat W _ (([(p, .cells #[.int .i64 S.cap, .slice a_13 ((without j l0).length) cap_14, .slice a_23 ((without j l1).length) cap_24, .slice a_33 ((without j l2).length) cap_34, .slice a_43 ((without j l3).length) cap_44] 114 (0, 0))] ++ (c_15 ++ (c_25 ++ (c_35 ++ c_45)))) :: H :: F) := Sat.perm (show Sat W _ ([(p, .cells #[.int .i64 S.cap, .slice a_13 ((without j l0).length) cap_14, .slice a_23 ((without j l1).length) cap_24, .slice a_33 ((without j l2).length) cap_34, .slice a_43 ((without j l3).length) cap_44] 114 (0, 0))] :: c_15 :: c_25 :: c_35 :: c_45 :: H :: F) from hS_56) (by simp)
  exact ⟨_, _, rfl, by rw [hb]; exact ⟨_, _, _, _, _, _, _, _, _, _, _, _, _, _, _, _, _, _, _, _, rfl, hO_16, hO_26, hO_36, hO_46, rfl, hw1, (by unfold totB; simp only [List.map_cons, List.map_nil, List.sum_cons, List.sum_nil]; omega)⟩, hS_57⟩
theorem pq_new {cs : List Chunk} (c : Int) (hc : 1 ≤ c ∧ c ≤ 4096) (hS : Sat W w cs) :
    Calls Try.prog 42 #[.int .i64 c] w fun e w' => ∃ (p : Nat) (M : Chunk), e = .returned (.tuple #[.pointer (some ⟨p, 0, none⟩), .int .i64 0]) ∧ InjP p ⟨c, [[], [], [], []]⟩ M ∧ Sat W w' (M :: cs) := by
  refine callsA 13 Try.func42 rfl ?_
  refine seqE <| regionE <| pu2 <| nilO <| thenK_n <| seqE <| seqE <| regionE <| pu3 ?_
  refine sD 6 (c < 1) (fun hc_1 => ?_) (fun hc_1 => ?_)
  · refine pu3 <| nilO <| thenK_n <| cTt <| seqE <| regionE <| pu2 <| nilO <| thenK_n <| retE <| thenK_r <| retT [.pointer none, .int .i64 2] <| ?_
    omega
  refine pu3 <| nilO <| thenK_n <| ?_
  refine cD (c > 4096) (fun hc_2 => ?_) (fun hc_2 => ?_)
  · refine seqE <| regionE <| pu2 <| nilO <| thenK_n <| retE <| thenK_r <| retT [.pointer none, .int .i64 2] <| ?_
    omega
  refine skipE <| thenK_n <| seqE <| regionE <| pu2 ?_
  refine sBox hS (.agg #[.int .i64 c, .slice none 0 0, .slice none 0 0, .slice none 0 0, .slice none 0 0]) #[.int .i64 c, .slice none 0 0, .slice none 0 0, .slice none 0 0, .slice none 0 0] ?_
  intro b_3 w_4 hS_5
  refine pu2 <| nilO <| thenK_n <| retE <| retT [.pointer (some ⟨b_3, 0, none⟩), .int .i64 0] <| ?_
  exact ⟨_, _, rfl, ⟨_, _, _, [], [], _, _, _, [], [], _, _, _, [], [], _, _, _, [], [], rfl, OwnT.nil (fun _ => rfl), OwnT.nil (fun _ => rfl), OwnT.nil (fun _ => rfl), OwnT.nil (fun _ => rfl), rfl, hc, by unfold totB; simp; omega⟩, hS_5⟩
end Go.Proofs.Ytegmennaekipaaa
