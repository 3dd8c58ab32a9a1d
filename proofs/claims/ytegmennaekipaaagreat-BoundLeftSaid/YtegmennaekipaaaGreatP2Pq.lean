import Derived.Test.YtegmennaekipaaaGreatP2Pd
namespace Go.Proofs.YtegmennaekipaaaGreat
open Go Go.E
set_option linter.unusedVariables false
set_option linter.unusedSimpArgs false
set_option linter.unnecessarySimpa false
set_option maxRecDepth 100000
set_option maxHeartbeats 2000000
variable {W w : World} {H : Chunk} {F : List Chunk}

-- squeezed
theorem tail_part2 {l : List Ref} {n : Nat} (h : l.length = n) : (l.drop 1).take (n - 1) = l.tail := by
  rw [List.take_of_length_le (by simp; omega), List.drop_one]
theorem take_snoc {l : List Ref} {k : Nat} {x : Ref} (h : l[k]? = some x) : l.take (k + 1) = l.take k ++ [x] := take_succ_at h
theorem without_none {l : List Ref} {j : Int} (h : ∀ (k : Nat) (x : Ref), l[k]? = some x → ¬ x.job = j) : without j l = l := by
  refine List.filter_eq_self.2 fun x hx => ?_
  obtain ⟨k, hk⟩ := List.getElem?_of_mem hx
  simpa using h k x hk
/-- One more round of DeleteFunc, the task kept. -/
theorem del_keep {xs ys : List Ref} {i k : Nat} {x : Ref} {j : Int} (hl : ys.length = xs.length) (hi : i < k) (h1 : ys.take i = without j (xs.take k)) (h2 : ys.drop k = xs.drop k) (hx : ys[k]? = some x) (hj : ¬ x.job = j) :
  (ys.set i x).length = xs.length ∧ (ys.set i x).take (i + 1) = without j (xs.take (k + 1)) ∧ (ys.set i x).drop (k + 1) = xs.drop (k + 1) := by
 have hk : k < ys.length := (List.getElem?_eq_some_iff.1 hx).1
 have hxx : xs[k]? = some x := by
  have e1 : (ys.drop k)[0]? = ys[k]? := by simp
  have e2 : (xs.drop k)[0]? = xs[k]? := by simp
  rw [← e2, ← h2, e1, hx]
 refine ⟨by simp [hl], ?_, ?_⟩
 ·rw [without_snoc hxx hj, ← h1]
  rw [take_snoc (l := ys.set i x) (k := i) (x := x) (by rw [List.getElem?_set_self om])]
  congr 1
  rw [List.take_set_of_le om]
 ·rw [List.drop_set_of_lt om]
  have e1 : ys.drop (k + 1) = (ys.drop k).drop 1 := by simp
  have e2 : xs.drop (k + 1) = (xs.drop k).drop 1 := by simp
  rw [e1, e2, h2]
theorem del_drop {xs ys : List Ref} {i k : Nat} {x : Ref} {j : Int} (h1 : ys.take i = without j (xs.take k)) (h2 : ys.drop k = xs.drop k) (hx : ys[k]? = some x) (hj : x.job = j) :
    ys.take i = without j (xs.take (k + 1)) ∧ ys.drop (k + 1) = xs.drop (k + 1) := by
  have hxx : xs[k]? = some x := by
    have e1 : (ys.drop k)[0]? = ys[k]? := by simp
    have e2 : (xs.drop k)[0]? = xs[k]? := by simp
    rw [← e2, ← h2, e1, hx]
  refine ⟨by rw [without_same hxx hj, h1], ?_⟩
  have e1 : ys.drop (k + 1) = (ys.drop k).drop 1 := by simp
  have e2 : xs.drop (k + 1) = (xs.drop k).drop 1 := by simp
  rw [e1, e2, h2]
/-- What IndexFunc answers. -/
def IdxP (xs : List Ref) (j : Int) (n : Nat) (r : Int) : Prop := ((r = -1 ∧ ∀ (k : Nat) (x : Ref), xs[k]? = some x → ¬ x.job = j) ∨ ∃ i : Nat, r = (i : Int) ∧ i < n ∧ (∃ x : Ref, xs[i]? = some x ∧ x.job = j) ∧ ∀ (k : Nat) (x : Ref), k < i → xs[k]? = some x → ¬ x.job = j)

def InjP (p : Nat) (S : QS) (M : Chunk) : Prop := ∃ (a0 : Option Addr) (n0 k0 : Nat) (l0 : List Ref) (c0 : Chunk) (a1 : Option Addr) (n1 k1 : Nat) (l1 : List Ref) (c1 : Chunk) (a2 : Option Addr) (n2 k2 : Nat) (l2 : List Ref) (c2 : Chunk) (a3 : Option Addr) (n3 k3 : Nat) (l3 : List Ref) (c3 : Chunk), M = [(p, .cells #[.int .i64 S.cap, .slice a0 n0 k0, .slice a1 n1 k1, .slice a2 n2 k2, .slice a3 n3 k3] 148 (0, 0))] ++ (c0 ++ (c1 ++ (c2 ++ c3))) ∧ OwnT encRef 60 2 a0 n0 k0 l0 c0 ∧ OwnT encRef 60 2 a1 n1 k1 l1 c1 ∧ OwnT encRef 60 2 a2 n2 k2 l2 c2 ∧ OwnT encRef 60 2 a3 n3 k3 l3 c3 ∧ S.bs = [l0, l1, l2, l3] ∧ (1 ≤ S.cap ∧ S.cap ≤ 4096) ∧ totB S.bs ≤ S.cap
theorem del_ok (W w : World) (bj : Nat) (F : List Chunk) (r : Ref) (j : Int) (hS : Sat W w ([(bj, .cells #[I j] 3 (0, 0))] :: F)) :
  Calls Tryz.prog 122 #[.agg #[I r.job, I r.task], Pt bj 0] w fun e w' => e = .returned (.bool (r.job == j)) ∧ Sat W w' ([(bj, .cells #[I j] 3 (0, 0))] :: F) := by
 refine callsA 8 Tryz.func122 rfl ?_
 refine sR ?_
 refine sBox hS (.agg #[I r.job, I r.task]) #[I r.job, I r.task] ?_
 intro _ _ a0
 refine pu1 <| nT <| sR <| pu1 ?_
 refine sL a0 0 0 (I r.job) (Tryz.isAgg3 _) ?_
 refine sL a0 1 0 (I j) (Tryz.isAgg3 _) ?_
 refine pu2 <| nT <| retE <| retT [.bool ((r.job : Int) == j)] ?_
 have b0 := (a0.dropAt 0 rfl)
 exact ⟨rfl, b0⟩
theorem index_ok (W w : World) (bj : Nat) (G : Chunk) (F : List Chunk) (a : Option Addr) (n cap : Nat) (xs : List Ref) (j : Int) (hR : RdT encRef 2 [G] a n cap xs) (hS : Sat W w ([(bj, .cells #[I j] 3 (0, 0))] :: G :: F)) :
  Calls Tryz.prog 153 #[.slice a n cap, .func (.func 122) #[] #[Pt bj 0]] w fun e w' => ∃ r : Int, e = .returned (I r) ∧ (-1 ≤ r ∧ r < n) ∧ IdxP xs j n r ∧ Sat W w' ([(bj, .cells #[I j] 3 (0, 0))] :: G :: F) := by
 have hl := hR.len; have hle := hR.le
 refine callsA 19 Tryz.func153 rfl ?_
 refine sR <| pu1 <| nT <| seqE <| sR <| pu3 <| nT <| blockE ?_
 refine loopA (γ := Nat) (fun i => [(0, .slice a n cap), (1, .func (.func 122) #[] #[Pt bj 0]), (7, I ((n : Nat) : Int)), (8, I ((i : Nat) : Int))]) (fun i w => Sat W w ([(bj, .cells #[I j] 3 (0, 0))] :: G :: F) ∧ i ≤ n ∧ (∀ (k : Nat) (x : Ref), k < i → xs[k]? = some x → ¬ x.job = j)) (fun i => n - i) 0 ⟨hS, om, fun k x hk => absurd hk om⟩ ?_
 rintro i ρ _ ⟨b0, hi, hnone⟩
 refine sR <| pu1 <| nT <| seqE ?_
 refine cD (((i : Nat) : Int) < ((n : Nat) : Int)) (fun f0 => ?_) (fun f0 => ?_)
 rotate_left
 ·refine exitE <| xB <| thenK_n <| sR <| pu1 <| nT <| retE <| retT [I (-1)] ?_
  exact ⟨-1, rfl, om, .inl ⟨rfl, fun k x hk => hnone k x (by have := (List.getElem?_eq_some_iff.1 hk).1; omega) hk⟩, b0⟩
 refine kT <| seqE <| blockE <| sR <| pu2 <| nT <| sR <| pu3 ?_
 refine sIdx hR ((i : Nat) : Int) Tryz.runUnderlying125 Tryz.sizeOf60 ?_
 intro a0 _ _ c0 g0
 rw [Int.toNat_natCast] at c0
 refine sLpA b0 (g0.up 1 rfl) 0 [I a0.job, I a0.task] (Tryz.isAgg60 _) (Tryz.sizeOf60 _) ?_
 refine sC #[.agg #[I a0.job, I a0.task], Pt bj 0] #[Pt bj 0] Tryz.call122 (Calls.mono (del_ok W _ _ _ ⟨a0.job, a0.task⟩ _ b0) ?_)
 rintro _ _ ⟨rfl, e0⟩
 refine ⟨_, rfl, ?_⟩
 refine nT ?_
 refine cE a0.job j (fun d0 => ?_) (fun d0 => ?_)
 ·refine sR <| pu2 <| nT <| retE <| blockK_r <| thenK_r <| tR <| thenK_r <| retT [I ((i : Nat) : Int)] ?_
  exact ⟨_, rfl, om, .inr ⟨i, rfl, om, ⟨a0, c0, d0⟩, fun k y hk => hnone k y hk⟩, e0⟩
 refine skipE <| blockK_n <| thenK_n <| regionE ?_
 refine sAdd ((i : Nat) : Int) 1 ?_
 refine pu1 <| nT ?_
 have hnj : ¬ a0.job = j := d0
 exact ⟨i + 1, od, alA, e0, om, fun k y hk hy => by by_cases hki : k = i; exact (by subst hki; rw [c0] at hy; cases hy; exact hnj); exact hnone k y om hy⟩
theorem delete_ok (W w : World) (bj : Nat) (c : Chunk) (F : List Chunk) (a : Option Addr) (n cap : Nat) (xs : List Ref) (j : Int) (hO : OwnT encRef 60 2 a n cap xs c) (hS : Sat W w ([(bj, .cells #[I j] 3 (0, 0))] :: c :: F)) :
  Calls Tryz.prog 121 #[.slice a n cap, .func (.func 122) #[] #[Pt bj 0]] w fun e w' => ∃ (a' : Option Addr) (cap' : Nat) (c' : Chunk), e = .returned (.slice a' (without j xs).length cap') ∧ OwnT encRef 60 2 a' (without j xs).length cap' (without j xs) c' ∧ Sat W w' ([(bj, .cells #[I j] 3 (0, 0))] :: c' :: F) := by
 have hl := hO.len; have hle := hO.le
 refine callsA 42 Tryz.func121 rfl ?_
 refine sR <| pu1 <| nT <| sR <| pu2 ?_
 have k0 := (hS.picks [1, 1])
 refine sF #[.slice a n cap, .func (.func 122) #[] #[Pt bj 0]] Tryz.call153 (Calls.mono (index_ok W _ _ _ _ _ _ _ _ _ (hO.rdAt (cs := [c]) 0 rfl) k0) ?_)
 rintro _ _ ⟨b0, rfl, _, f0, g0⟩
 refine ⟨_, rfl, ?_⟩
 refine pu1 <| nT <| seqE <| sR <| pu2 <| nT ?_
 refine cE b0 (-1) (fun l0 => ?_) (fun l0 => ?_)
 ·refine sR <| pu2 <| nT <| retE <| thenK_r <| retT [.slice a n cap] ?_
  have hw : without j xs = xs := without_none (by rcases f0 with h | ⟨i, h, _⟩; exact h.2; omega)
  rw [hw, hl]
  exact ⟨_, _, _, rfl, hO, g0⟩
 refine kT <| seqE <| sR <| pu1 ?_
 refine sAdd b0 1 ?_
 refine pu1 <| nT <| blockE ?_
 obtain ⟨i0, hi0e, hi0, ⟨x0, hx0, hj0⟩, hno⟩ : ∃ i : Nat, b0 = (i : Int) ∧ i < n ∧ (∃ x : Ref, xs[i]? = some x ∧ x.job = j) ∧ ∀ (k : Nat) (x : Ref), k < i → xs[k]? = some x → ¬ x.job = j := by
  rcases f0 with h | h
  ·omega
  ·exact h
 subst hi0e
 have hp0 : without j (xs.take i0) = xs.take i0 := without_none fun k x hk => by have h3 := (List.getElem?_eq_some_iff.1 hk).1; rw [List.getElem?_take, if_pos (by simp at h3; omega)] at hk; exact hno k x (by simp at h3; omega) hk
 refine loopA (γ := Nat × Nat × (List Ref) × Chunk) (fun ⟨i, k, ys, c2⟩ => [(0, .slice a n cap), (1, .func (.func 122) #[] #[Pt bj 0]), (5, I ((i : Nat) : Int)), (6, I ((k : Nat) : Int))]) (fun ⟨i, k, ys, c2⟩ w => Sat W w ([(bj, .cells #[I j] 3 (0, 0))] :: c2 :: F) ∧ OwnT encRef 60 2 a n cap ys c2 ∧ (k ≤ n ∧ i < k) ∧ ys.take i = without j (xs.take k) ∧ ys.drop k = xs.drop k ∧ ys.length = xs.length) (fun ⟨i, k, ys, c2⟩ => n - k) (i0, i0 + 1, xs, c) ⟨g0, hO, om, by rw [without_same hx0 hj0, hp0], rfl, rfl⟩ ?_
 rintro ⟨i, k, ys, c2⟩ ρ _ ⟨c0, hOy, hk, h1, h2, hyl⟩
 refine seqE <| sR <| pu4 <| nT ?_
 refine cD (((k : Nat) : Int) < ((n : Nat) : Int)) (fun m0 => ?_) (fun m0 => ?_)
 rotate_left
 ·refine exitE <| xB <| thenK_n <| sR <| pu2 ?_
  refine sSl (some ((i : Nat) : Int)) none i n Tryz.runUnderlying125 Tryz.sizeOf60 ⟨om, om⟩ rfl om om ?_ (a := a) (len := n) (cap := cap)
  have f1 := hOy.part (lo := i) (hi := n) om om
  refine sClear c0 hOy 1 ⟨0, 0⟩ (lo := i) om Tryz.runUnderlying125 Tryz.zeroValue60 kr ?_
  intro _ _ n0 o0
  refine nT <| sR <| pu2 ?_
  refine sSl none (some ((i : Nat) : Int)) 0 i Tryz.runUnderlying125 Tryz.sizeOf60 rfl ⟨om, om⟩ om om ?_ (a := a) (len := n) (cap := cap)
  have p0 := n0.part (lo := 0) (hi := i) om om
  refine pu1 <| nT <| retE <| retT [.slice (partAddr a cap 0 2) (i - 0) (cap - 0)] ?_
  have hfin := p0
  have hy : ((List.take i ys ++ List.replicate (n - i) (⟨0, 0⟩ : Ref)).drop 0).take (i - 0) = without j xs := by rw [List.drop_zero, Nat.sub_zero, List.take_append_of_le_length (by simp; omega), List.take_take, Nat.min_self, h1, List.take_of_length_le om]
  rw [hy] at hfin
  have hlen := hfin.len
  rw [hlen]
  exact ⟨_, _, _, rfl, hfin, o0⟩
 refine kT <| seqE <| blockE <| sR <| pu2 ?_
 refine sIdxO hOy ((k : Nat) : Int) k Tryz.runUnderlying125 Tryz.sizeOf60 ?_
 intro a0 _ _ h0 q0 _
 refine sLpA c0 (q0.up 1 rfl) 0 [I a0.job, I a0.task] (Tryz.isAgg60 _) (Tryz.sizeOf60 _) ?_
 refine sAlloc c0 Tryz.zeroValue60 ?_
 intro _ _ r0
 refine sT r0 0 0 (.agg #[I a0.job, I a0.task]) [I a0.job, I a0.task] #[I a0.job, I a0.task] Tryz.sizeOf60 ?_
 intro _ j0
 refine nT <| sR <| pu1 ?_
 refine lA j0 0 0 2 (Tryz.isAgg60 _) (Tryz.sizeOf60 _) ?_
 have s0 := (j0.pick 1 rfl)
 refine sC #[.agg #[I a0.job, I a0.task], Pt bj 0] #[Pt bj 0] Tryz.call122 (Calls.mono (del_ok W _ _ _ ⟨a0.job, a0.task⟩ _ s0) ?_)
 rintro _ _ ⟨rfl, d0⟩
 refine ⟨_, rfl, ?_⟩
 refine pu1 <| nT ?_
 refine cEn a0.job j (fun e0 => ?_) (fun e0 => ?_)
 ·refine skipE <| blockK_n <| thenK_n <| regionE <| pu1 ?_
  refine sAdd ((k : Nat) : Int) 1 ?_
  refine pu1 <| nT ?_
  have t0 := (d0.dropAt 1 rfl)
  have hd := del_drop h1 h2 h0 e0
  exact ⟨(i, k + 1, ys, c2), by dsimp only; omega, alA, t0, hOy, om, hd.1, hd.2, hyl⟩
 refine sR <| pu2 ?_
 refine lA d0 1 0 2 (Tryz.isAgg60 _) (Tryz.sizeOf60 _) ?_
 refine sIdxO hOy ((i : Nat) : Int) i Tryz.runUnderlying125 Tryz.sizeOf60 ?_
 intro u0 _ _ v0 _ w0
 refine sStF d0 hOy w0 2 i 0 u0 (⟨a0.job, a0.task⟩ : Ref) v0 (.agg #[I a0.job, I a0.task]) [I a0.job, I a0.task] Tryz.sizeOf60 ?_
 intro _ y0 z0 a1
 refine nT <| regionE <| pu1 ?_
 refine sAdd ((i : Nat) : Int) 1 ?_
 refine pu1 <| nB <| regionE <| pu1 ?_
 refine sAdd ((k : Nat) : Int) 1 ?_
 refine pu1 <| nT ?_
 have b1 := (a1.dropAt 1 rfl)
 have hd := del_keep hyl hk.2 h1 h2 h0 e0
 exact ⟨(i + 1, k + 1, (ys.set i (⟨a0.job, a0.task⟩ : Ref)), y0), by dsimp only; omega, alA, b1, z0, om, hd.2.1, hd.2.2, hd.1⟩
theorem pq_len {p : Nat} {S : QS} {M : Chunk} (hR : InjP p S M)  (hS : Sat W w (M :: H :: F)) :
  Calls Tryz.prog 109 #[Pt p 0] w fun e w' => e = .returned (I (totB S.bs)) ∧ Sat W w' (M :: H :: F) := by
 obtain ⟨a0, n0, k0, l0, c0, a1, n1, k1, l1, c1, a2, n2, k2, l2, c2, a3, n3, k3, l3, c3, rfl, hO0, hO1, hO2, hO3, hb, hw1, hw2⟩ := hR
 have hS : Sat W _ ([(p, .cells #[I S.cap, .slice a0 n0 k0, .slice a1 n1 k1, .slice a2 n2 k2, .slice a3 n3 k3] 148 (0, 0))] :: c0 :: c1 :: c2 :: c3 :: H :: F) := Sat.perm hS (by simp)
 have ht : totB S.bs = n0 + n1 + n2 + n3 := by rw [hb]; unfold totB; simp [hO0.len, hO1.len, hO2.len, hO3.len]; omega
 have hn0 := hO0.len; have hl0 := hO0.le; have hn1 := hO1.len; have hl1 := hO1.le; have hn2 := hO2.len; have hl2 := hO2.le; have hn3 := hO3.len; have hl3 := hO3.le
 refine callsA 21 Tryz.func109 rfl ?_
 refine sR <| pu1 <| nT <| seqE <| sR <| pu2 <| nT <| cFf <| kT <| sR <| pu1 <| nT <| seqE <| sR <| pu3 ?_
 refine lA hS 0 1 4 (Tryz.isAgg146 _) (Tryz.sizeOf146 _) ?_
 refine pu1 <| nT <| blockE ?_
 refine loopN 5 ?_
 refine roundS ?_
 refine sR <| pu1 <| nT <| seqE <| cTt <| kT <| seqE <| blockE <| sR <| pu2 <| nT <| regionE <| pu3 ?_
 refine sAdd 0 ((n0 : Nat) : Int) ?_
 refine pu1 <| nB <| regionE <| pu2 <| nT ?_
 refine roundS ?_
 refine sR <| pu1 <| nT <| seqE <| cTt <| kT <| seqE <| blockE <| sR <| pu2 <| nT <| regionE <| pu3 ?_
 refine sAdd (0 + ((n0 : Nat) : Int)) ((n1 : Nat) : Int) ?_
 refine pu1 <| nB <| regionE <| pu2 <| nT ?_
 refine roundS ?_
 refine sR <| pu1 <| nT <| seqE <| cTt <| kT <| seqE <| blockE <| sR <| pu2 <| nT <| regionE <| pu3 ?_
 refine sAdd ((0 + ((n0 : Nat) : Int)) + ((n1 : Nat) : Int)) ((n2 : Nat) : Int) ?_
 refine pu1 <| nB <| regionE <| pu2 <| nT ?_
 refine roundS ?_
 refine sR <| pu1 <| nT <| seqE <| cTt <| kT <| seqE <| blockE <| sR <| pu2 <| nT <| regionE <| pu3 ?_
 refine sAdd (((0 + ((n0 : Nat) : Int)) + ((n1 : Nat) : Int)) + ((n2 : Nat) : Int)) ((n3 : Nat) : Int) ?_
 refine pu1 <| nB <| regionE <| pu2 <| nT ?_
 refine roundS ?_
 refine sR <| pu1 <| nT <| seqE <| cFf <| exitE <| xB <| thenK_n <| sR <| pu2 <| nT <| retE <| retT [I ((((0 + ((n0 : Nat) : Int)) + ((n1 : Nat) : Int)) + ((n2 : Nat) : Int)) + ((n3 : Nat) : Int))] ?_
 have b0 : Sat W _ (([(p, .cells #[I S.cap, .slice a0 n0 k0, .slice a1 n1 k1, .slice a2 n2 k2, .slice a3 n3 k3] 148 (0, 0))] ++ (c0 ++ (c1 ++ (c2 ++ c3)))) :: H :: F) := Sat.perm (show Sat W _ ([(p, .cells #[I S.cap, .slice a0 n0 k0, .slice a1 n1 k1, .slice a2 n2 k2, .slice a3 n3 k3] 148 (0, 0))] :: c0 :: c1 :: c2 :: c3 :: H :: F) from hS) (by simp)
 exact ⟨congrArg (fun z => Ending.returned (I z)) om, b0⟩
theorem pq_push0 {p : Nat} {S : QS} {M : Chunk} (hR : InjP p S M) (r : Ref) (hS : Sat W w (M :: H :: F)) :
  Calls Tryz.prog 55 #[Pt p 0, .agg #[I r.job, I r.task], I 0] w fun e w' => ∃ M' : Chunk, e = .returned (I (pushCQ S)) ∧ InjP p (pushQ S r 0) M' ∧ Sat W w' (M' :: H :: F) := by
 obtain ⟨a0, n0, k0, l0, c0, a1, n1, k1, l1, c1, a2, n2, k2, l2, c2, a3, n3, k3, l3, c3, rfl, hO0, hO1, hO2, hO3, hb, hw1, hw2⟩ := hR
 have hS : Sat W _ ([(p, .cells #[I S.cap, .slice a0 n0 k0, .slice a1 n1 k1, .slice a2 n2 k2, .slice a3 n3 k3] 148 (0, 0))] :: c0 :: c1 :: c2 :: c3 :: H :: F) := Sat.perm hS (by simp)
 have ht : totB S.bs = n0 + n1 + n2 + n3 := by rw [hb]; unfold totB; simp [hO0.len, hO1.len, hO2.len, hO3.len]; omega
 have hn0 := hO0.len; have hl0 := hO0.le; have hn1 := hO1.len; have hl1 := hO1.le; have hn2 := hO2.len; have hl2 := hO2.le; have hn3 := hO3.len; have hl3 := hO3.le
 refine callsA 43 Tryz.func55 rfl ?_
 refine sR ?_
 refine sBox hS (.agg #[I r.job, I r.task]) #[I r.job, I r.task] ?_
 intro d0 _ e0
 refine pu1 <| nT <| seqE <| sR <| pu6 <| gY ?_
 refine sL e0 1 0 (I S.cap) (Tryz.isAgg3 _) ?_
 refine pu2 <| nT ?_
 refine cE S.cap 0 (fun m0 => ?_) (fun m0 => ?_)
 ·refine sR <| pu1 <| nT <| retE <| thenK_r <| retT [I 20] ?_
  have o0 := (e0.dropAt 0 rfl)
  have f1 : Sat W _ (([(p, .cells #[I S.cap, .slice a0 n0 k0, .slice a1 n1 k1, .slice a2 n2 k2, .slice a3 n3 k3] 148 (0, 0))] ++ (c0 ++ (c1 ++ (c2 ++ c3)))) :: H :: F) := Sat.perm (show Sat W _ ([(p, .cells #[I S.cap, .slice a0 n0 k0, .slice a1 n1 k1, .slice a2 n2 k2, .slice a3 n3 k3] 148 (0, 0))] :: c0 :: c1 :: c2 :: c3 :: H :: F) from o0) (by simp)
  have hq : totB [l0, l1, l2, l3] = totB S.bs := by rw [hb]
  omega
 refine kT <| seqE <| sR <| pu6 <| nT <| cFf <| kT <| seqE <| seqE ?_
 refine drawE [1] [(5, ⟨p, 0, none⟩, I S.cap)] [(true, [0, 2, 3, 4]), (true, [5]), (false, [1]), (true, [6])] rfl kr ⟨.inr (e0.cell 1 rfl rfl), trivial⟩ ?_
 have p0 := e0.drew
 refine wU [0, 2, 3, 4] ?_
 refine wLd (I S.cap) 0 Tryz.isAgg3 ?_
 refine wO rfl ?_
 have q0 := (p0.picks [5, 5, 5, 5, 5])
 have r0 : Sat W _ (([(p, .cells #[I S.cap, .slice a0 n0 k0, .slice a1 n1 k1, .slice a2 n2 k2, .slice a3 n3 k3] 148 (0, 0))] ++ (c0 ++ (c1 ++ (c2 ++ c3)))) :: [(d0, .cells #[I r.job, I r.task] 60 (0, 0))] :: H :: F) := Sat.perm (show Sat W _ ([(p, .cells #[I S.cap, .slice a0 n0 k0, .slice a1 n1 k1, .slice a2 n2 k2, .slice a3 n3 k3] 148 (0, 0))] :: c0 :: c1 :: c2 :: c3 :: [(d0, .cells #[I r.job, I r.task] 60 (0, 0))] :: H :: F) from q0) (by simp)
 have g1 : totB [l0, l1, l2, l3] = ((n0 + n1 + n2 + n3 : Nat) : Int) := by unfold totB; simp only [List.map_cons, List.map_nil, List.sum_cons, List.sum_nil]; have h0 := (hO0).len; have h1 := (hO1).len; have h2 := (hO2).len; have h3 := (hO3).len; omega
 refine cX Tryz.call109 (pq_len (S := ⟨S.cap, [l0, l1, l2, l3]⟩) ⟨_, _, _, _, _, _, _, _, _, _, _, _, _, _, _, _, _, _, _, _, rfl, hO0, hO1, hO2, hO3, rfl, hw1, (by dsimp only; omega)⟩ (Sat.flat1 r0)) ?_
 rintro _ _ ⟨rfl, s0⟩
 have b0 : Sat W _ ([(p, .cells #[I S.cap, .slice a0 n0 k0, .slice a1 n1 k1, .slice a2 n2 k2, .slice a3 n3 k3] 148 (0, 0))] :: c0 :: c1 :: c2 :: c3 :: [(d0, .cells #[I r.job, I r.task] 60 (0, 0))] :: H :: F) := Sat.perm (Sat.unflat1 s0) (by simp [Value.cells])
 refine nilO ⟨⟨.inr (b0.cell 0 rfl rfl), trivial⟩, ?_⟩
 refine wU [6] ?_
 refine wN ?_
 refine thenK_n ?_
 refine cD ((totB [l0, l1, l2, l3]) ≥ S.cap) (fun t0 => ?_) (fun t0 => ?_)
 ·refine sR <| pu1 <| nT <| retE <| thenK_r <| retT [I 19] ?_
  have u0 := (b0.dropAt 5 rfl)
  have v0 : Sat W _ (([(p, .cells #[I S.cap, .slice a0 n0 k0, .slice a1 n1 k1, .slice a2 n2 k2, .slice a3 n3 k3] 148 (0, 0))] ++ (c0 ++ (c1 ++ (c2 ++ c3)))) :: H :: F) := Sat.perm (show Sat W _ ([(p, .cells #[I S.cap, .slice a0 n0 k0, .slice a1 n1 k1, .slice a2 n2 k2, .slice a3 n3 k3] 148 (0, 0))] :: c0 :: c1 :: c2 :: c3 :: H :: F) from u0) (by simp)
  have hq : totB [l0, l1, l2, l3] = totB S.bs := by rw [hb]
  have hc : pushCQ S = 19 := by unfold pushCQ; rw [if_pos om]
  have he : pushQ S r 0 = S := by unfold pushQ; rw [hc, if_neg (by decide)]
  exact ⟨_, by rw [hc]; rfl, by rw [he]; exact ⟨_, _, _, _, _, _, _, _, _, _, _, _, _, _, _, _, _, _, _, _, rfl, hO0, hO1, hO2, hO3, hb, hw1, hw2⟩, v0⟩
 refine kT <| seqE ?_
 refine drawE [9, 10, 14] [(7, ⟨p, 1, none⟩, .slice a0 n0 k0), (8, ⟨d0, 0, none⟩, I r.job), (8, ⟨d0, 1, none⟩, I r.task)] [(true, [0, 1, 2, 3, 4, 5, 6, 11, 12]), (true, [7]), (true, [8]), (false, [9]), (false, [10]), (true, [13]), (false, [14])] rfl kr ⟨.inr (b0.cell 0 rfl rfl), .inr (b0.cell 5 rfl rfl), .inr (b0.cell 5 rfl rfl), trivial⟩ ?_
 have w0 := b0.drew
 refine wU [0, 1, 2, 3, 4, 5, 6, 11, 12] ?_
 refine wLd (.slice a0 n0 k0) 0 Tryz.isAgg125 ?_
 refine wY (.agg #[I r.job, I r.task]) rfl (fun w hF => Y_loadF rfl (Tryz.isAgg60 w) (Tryz.sizeOf60 w) kr rfl ⟨hF 1 _ _ rfl, hF 2 _ _ rfl, trivial⟩) ?_
 refine wO rfl ?_
 refine sBS w0 #[I r.job, I r.task] Tryz.runUnderlying125 Tryz.sizeOf60 Tryz.zeroValue60 ?_
 intro _ _ i0
 refine nilO ⟨⟨.inr (i0.cell 1 rfl rfl), dI, dI, trivial⟩, ?_⟩
 refine wO rfl ?_
 refine sApp (nb := 16) i0 hO0 2 (RdT.blk (enc := encRef) (sz := 2) (xs := [(⟨r.job, r.task⟩ : Ref)]) fR 1 0 rfl rfl rfl om) Tryz.underlying125 (i := Tryz.t60) kr fR ?_
 intro f0 g0 j0 _ x0 y0
 refine nilO ⟨dA, ?_⟩
 refine wU [13] ?_
 refine wO rfl ?_
 refine tW y0 1 1 (.slice f0 (n0 + 1) g0) Tryz.sizeOf125 ?_
 intro _ z0
 refine nilO ⟨dA, ?_⟩
 refine wN ?_
 refine thenK_n <| sR <| pu1 <| nT <| retE <| retT [I 0] ?_
 have b1 := (z0.drops [0, 5])
 have d1 : Sat W _ (([(p, .cells #[I S.cap, .slice f0 (n0 + 1) g0, .slice a1 n1 k1, .slice a2 n2 k2, .slice a3 n3 k3] 148 (0, 0))] ++ (j0 ++ (c1 ++ (c2 ++ c3)))) :: H :: F) := Sat.perm (show Sat W _ ([(p, .cells #[I S.cap, .slice f0 (n0 + 1) g0, .slice a1 n1 k1, .slice a2 n2 k2, .slice a3 n3 k3] 148 (0, 0))] :: j0 :: c1 :: c2 :: c3 :: H :: F) from b1) (by simp)
 have hq : totB [l0, l1, l2, l3] = totB S.bs := by rw [hb]
 have hc : pushCQ S = 0 := by unfold pushCQ; rw [if_neg om]
 have he : pushQ S r 0 = { S with bs := [(l0 ++ [(⟨r.job, r.task⟩ : Ref)]), l1, l2, l3] } := by unfold pushQ; rw [if_pos hc, hb]; rfl
 exact ⟨_, by rw [hc]; rfl, by rw [he]; exact ⟨_, _, _, _, _, _, _, _, _, _, _, _, _, _, _, _, _, _, _, _, rfl, x0, hO1, hO2, hO3, rfl, hw1, (by unfold totB; simp; omega)⟩, d1⟩
theorem pq_push1 {p : Nat} {S : QS} {M : Chunk} (hR : InjP p S M) (r : Ref) (hS : Sat W w (M :: H :: F)) :
  Calls Tryz.prog 55 #[Pt p 0, .agg #[I r.job, I r.task], I 1] w fun e w' => ∃ M' : Chunk, e = .returned (I (pushCQ S)) ∧ InjP p (pushQ S r 1) M' ∧ Sat W w' (M' :: H :: F) := by
 obtain ⟨a0, n0, k0, l0, c0, a1, n1, k1, l1, c1, a2, n2, k2, l2, c2, a3, n3, k3, l3, c3, rfl, hO0, hO1, hO2, hO3, hb, hw1, hw2⟩ := hR
 have hS : Sat W _ ([(p, .cells #[I S.cap, .slice a0 n0 k0, .slice a1 n1 k1, .slice a2 n2 k2, .slice a3 n3 k3] 148 (0, 0))] :: c0 :: c1 :: c2 :: c3 :: H :: F) := Sat.perm hS (by simp)
 have ht : totB S.bs = n0 + n1 + n2 + n3 := by rw [hb]; unfold totB; simp [hO0.len, hO1.len, hO2.len, hO3.len]; omega
 have hn0 := hO0.len; have hl0 := hO0.le; have hn1 := hO1.len; have hl1 := hO1.le; have hn2 := hO2.len; have hl2 := hO2.le; have hn3 := hO3.len; have hl3 := hO3.le
 refine callsA 43 Tryz.func55 rfl ?_
 refine sR ?_
 refine sBox hS (.agg #[I r.job, I r.task]) #[I r.job, I r.task] ?_
 intro d0 _ e0
 refine pu1 <| nT <| seqE <| sR <| pu6 <| gY ?_
 refine sL e0 1 0 (I S.cap) (Tryz.isAgg3 _) ?_
 refine pu2 <| nT ?_
 refine cE S.cap 0 (fun m0 => ?_) (fun m0 => ?_)
 ·refine sR <| pu1 <| nT <| retE <| thenK_r <| retT [I 20] ?_
  have o0 := (e0.dropAt 0 rfl)
  have f1 : Sat W _ (([(p, .cells #[I S.cap, .slice a0 n0 k0, .slice a1 n1 k1, .slice a2 n2 k2, .slice a3 n3 k3] 148 (0, 0))] ++ (c0 ++ (c1 ++ (c2 ++ c3)))) :: H :: F) := Sat.perm (show Sat W _ ([(p, .cells #[I S.cap, .slice a0 n0 k0, .slice a1 n1 k1, .slice a2 n2 k2, .slice a3 n3 k3] 148 (0, 0))] :: c0 :: c1 :: c2 :: c3 :: H :: F) from o0) (by simp)
  have hq : totB [l0, l1, l2, l3] = totB S.bs := by rw [hb]
  omega
 refine kT <| seqE <| sR <| pu6 <| nT <| cFf <| kT <| seqE <| seqE ?_
 refine drawE [1] [(5, ⟨p, 0, none⟩, I S.cap)] [(true, [0, 2, 3, 4]), (true, [5]), (false, [1]), (true, [6])] rfl kr ⟨.inr (e0.cell 1 rfl rfl), trivial⟩ ?_
 have p0 := e0.drew
 refine wU [0, 2, 3, 4] ?_
 refine wLd (I S.cap) 0 Tryz.isAgg3 ?_
 refine wO rfl ?_
 have q0 := (p0.picks [5, 5, 5, 5, 5])
 have r0 : Sat W _ (([(p, .cells #[I S.cap, .slice a0 n0 k0, .slice a1 n1 k1, .slice a2 n2 k2, .slice a3 n3 k3] 148 (0, 0))] ++ (c0 ++ (c1 ++ (c2 ++ c3)))) :: [(d0, .cells #[I r.job, I r.task] 60 (0, 0))] :: H :: F) := Sat.perm (show Sat W _ ([(p, .cells #[I S.cap, .slice a0 n0 k0, .slice a1 n1 k1, .slice a2 n2 k2, .slice a3 n3 k3] 148 (0, 0))] :: c0 :: c1 :: c2 :: c3 :: [(d0, .cells #[I r.job, I r.task] 60 (0, 0))] :: H :: F) from q0) (by simp)
 have g1 : totB [l0, l1, l2, l3] = ((n0 + n1 + n2 + n3 : Nat) : Int) := by unfold totB; simp only [List.map_cons, List.map_nil, List.sum_cons, List.sum_nil]; have h0 := (hO0).len; have h1 := (hO1).len; have h2 := (hO2).len; have h3 := (hO3).len; omega
 refine cX Tryz.call109 (pq_len (S := ⟨S.cap, [l0, l1, l2, l3]⟩) ⟨_, _, _, _, _, _, _, _, _, _, _, _, _, _, _, _, _, _, _, _, rfl, hO0, hO1, hO2, hO3, rfl, hw1, (by dsimp only; omega)⟩ (Sat.flat1 r0)) ?_
 rintro _ _ ⟨rfl, s0⟩
 have b0 : Sat W _ ([(p, .cells #[I S.cap, .slice a0 n0 k0, .slice a1 n1 k1, .slice a2 n2 k2, .slice a3 n3 k3] 148 (0, 0))] :: c0 :: c1 :: c2 :: c3 :: [(d0, .cells #[I r.job, I r.task] 60 (0, 0))] :: H :: F) := Sat.perm (Sat.unflat1 s0) (by simp [Value.cells])
 refine nilO ⟨⟨.inr (b0.cell 0 rfl rfl), trivial⟩, ?_⟩
 refine wU [6] ?_
 refine wN ?_
 refine thenK_n ?_
 refine cD ((totB [l0, l1, l2, l3]) ≥ S.cap) (fun t0 => ?_) (fun t0 => ?_)
 ·refine sR <| pu1 <| nT <| retE <| thenK_r <| retT [I 19] ?_
  have u0 := (b0.dropAt 5 rfl)
  have v0 : Sat W _ (([(p, .cells #[I S.cap, .slice a0 n0 k0, .slice a1 n1 k1, .slice a2 n2 k2, .slice a3 n3 k3] 148 (0, 0))] ++ (c0 ++ (c1 ++ (c2 ++ c3)))) :: H :: F) := Sat.perm (show Sat W _ ([(p, .cells #[I S.cap, .slice a0 n0 k0, .slice a1 n1 k1, .slice a2 n2 k2, .slice a3 n3 k3] 148 (0, 0))] :: c0 :: c1 :: c2 :: c3 :: H :: F) from u0) (by simp)
  have hq : totB [l0, l1, l2, l3] = totB S.bs := by rw [hb]
  have hc : pushCQ S = 19 := by unfold pushCQ; rw [if_pos om]
  have he : pushQ S r 1 = S := by unfold pushQ; rw [hc, if_neg (by decide)]
  exact ⟨_, by rw [hc]; rfl, by rw [he]; exact ⟨_, _, _, _, _, _, _, _, _, _, _, _, _, _, _, _, _, _, _, _, rfl, hO0, hO1, hO2, hO3, hb, hw1, hw2⟩, v0⟩
 refine kT <| seqE ?_
 refine drawE [9, 10, 14] [(7, ⟨p, 2, none⟩, .slice a1 n1 k1), (8, ⟨d0, 0, none⟩, I r.job), (8, ⟨d0, 1, none⟩, I r.task)] [(true, [0, 1, 2, 3, 4, 5, 6, 11, 12]), (true, [7]), (true, [8]), (false, [9]), (false, [10]), (true, [13]), (false, [14])] rfl kr ⟨.inr (b0.cell 0 rfl rfl), .inr (b0.cell 5 rfl rfl), .inr (b0.cell 5 rfl rfl), trivial⟩ ?_
 have w0 := b0.drew
 refine wU [0, 1, 2, 3, 4, 5, 6, 11, 12] ?_
 refine wLd (.slice a1 n1 k1) 0 Tryz.isAgg125 ?_
 refine wY (.agg #[I r.job, I r.task]) rfl (fun w hF => Y_loadF rfl (Tryz.isAgg60 w) (Tryz.sizeOf60 w) kr rfl ⟨hF 1 _ _ rfl, hF 2 _ _ rfl, trivial⟩) ?_
 refine wO rfl ?_
 refine sBS w0 #[I r.job, I r.task] Tryz.runUnderlying125 Tryz.sizeOf60 Tryz.zeroValue60 ?_
 intro _ _ i0
 refine nilO ⟨⟨.inr (i0.cell 1 rfl rfl), dI, dI, trivial⟩, ?_⟩
 refine wO rfl ?_
 refine sApp (nb := 16) i0 hO1 3 (RdT.blk (enc := encRef) (sz := 2) (xs := [(⟨r.job, r.task⟩ : Ref)]) fR 1 0 rfl rfl rfl om) Tryz.underlying125 (i := Tryz.t60) kr fR ?_
 intro f0 g0 j0 _ x0 y0
 refine nilO ⟨dA, ?_⟩
 refine wU [13] ?_
 refine wO rfl ?_
 refine tW y0 1 2 (.slice f0 (n1 + 1) g0) Tryz.sizeOf125 ?_
 intro _ z0
 refine nilO ⟨dA, ?_⟩
 refine wN ?_
 refine thenK_n <| sR <| pu1 <| nT <| retE <| retT [I 0] ?_
 have b1 := (z0.drops [0, 5])
 have d1 : Sat W _ (([(p, .cells #[I S.cap, .slice a0 n0 k0, .slice f0 (n1 + 1) g0, .slice a2 n2 k2, .slice a3 n3 k3] 148 (0, 0))] ++ (c0 ++ (j0 ++ (c2 ++ c3)))) :: H :: F) := Sat.perm (show Sat W _ ([(p, .cells #[I S.cap, .slice a0 n0 k0, .slice f0 (n1 + 1) g0, .slice a2 n2 k2, .slice a3 n3 k3] 148 (0, 0))] :: c0 :: j0 :: c2 :: c3 :: H :: F) from b1) (by simp)
 have hq : totB [l0, l1, l2, l3] = totB S.bs := by rw [hb]
 have hc : pushCQ S = 0 := by unfold pushCQ; rw [if_neg om]
 have he : pushQ S r 1 = { S with bs := [l0, (l1 ++ [(⟨r.job, r.task⟩ : Ref)]), l2, l3] } := by unfold pushQ; rw [if_pos hc, hb]; rfl
 exact ⟨_, by rw [hc]; rfl, by rw [he]; exact ⟨_, _, _, _, _, _, _, _, _, _, _, _, _, _, _, _, _, _, _, _, rfl, hO0, x0, hO2, hO3, rfl, hw1, (by unfold totB; simp; omega)⟩, d1⟩
theorem pq_push2 {p : Nat} {S : QS} {M : Chunk} (hR : InjP p S M) (r : Ref) (hS : Sat W w (M :: H :: F)) :
  Calls Tryz.prog 55 #[Pt p 0, .agg #[I r.job, I r.task], I 2] w fun e w' => ∃ M' : Chunk, e = .returned (I (pushCQ S)) ∧ InjP p (pushQ S r 2) M' ∧ Sat W w' (M' :: H :: F) := by
 obtain ⟨a0, n0, k0, l0, c0, a1, n1, k1, l1, c1, a2, n2, k2, l2, c2, a3, n3, k3, l3, c3, rfl, hO0, hO1, hO2, hO3, hb, hw1, hw2⟩ := hR
 have hS : Sat W _ ([(p, .cells #[I S.cap, .slice a0 n0 k0, .slice a1 n1 k1, .slice a2 n2 k2, .slice a3 n3 k3] 148 (0, 0))] :: c0 :: c1 :: c2 :: c3 :: H :: F) := Sat.perm hS (by simp)
 have ht : totB S.bs = n0 + n1 + n2 + n3 := by rw [hb]; unfold totB; simp [hO0.len, hO1.len, hO2.len, hO3.len]; omega
 have hn0 := hO0.len; have hl0 := hO0.le; have hn1 := hO1.len; have hl1 := hO1.le; have hn2 := hO2.len; have hl2 := hO2.le; have hn3 := hO3.len; have hl3 := hO3.le
 refine callsA 43 Tryz.func55 rfl ?_
 refine sR ?_
 refine sBox hS (.agg #[I r.job, I r.task]) #[I r.job, I r.task] ?_
 intro d0 _ e0
 refine pu1 <| nT <| seqE <| sR <| pu6 <| gY ?_
 refine sL e0 1 0 (I S.cap) (Tryz.isAgg3 _) ?_
 refine pu2 <| nT ?_
 refine cE S.cap 0 (fun m0 => ?_) (fun m0 => ?_)
 ·refine sR <| pu1 <| nT <| retE <| thenK_r <| retT [I 20] ?_
  have o0 := (e0.dropAt 0 rfl)
  have f1 : Sat W _ (([(p, .cells #[I S.cap, .slice a0 n0 k0, .slice a1 n1 k1, .slice a2 n2 k2, .slice a3 n3 k3] 148 (0, 0))] ++ (c0 ++ (c1 ++ (c2 ++ c3)))) :: H :: F) := Sat.perm (show Sat W _ ([(p, .cells #[I S.cap, .slice a0 n0 k0, .slice a1 n1 k1, .slice a2 n2 k2, .slice a3 n3 k3] 148 (0, 0))] :: c0 :: c1 :: c2 :: c3 :: H :: F) from o0) (by simp)
  have hq : totB [l0, l1, l2, l3] = totB S.bs := by rw [hb]
  omega
 refine kT <| seqE <| sR <| pu6 <| nT <| cFf <| kT <| seqE <| seqE ?_
 refine drawE [1] [(5, ⟨p, 0, none⟩, I S.cap)] [(true, [0, 2, 3, 4]), (true, [5]), (false, [1]), (true, [6])] rfl kr ⟨.inr (e0.cell 1 rfl rfl), trivial⟩ ?_
 have p0 := e0.drew
 refine wU [0, 2, 3, 4] ?_
 refine wLd (I S.cap) 0 Tryz.isAgg3 ?_
 refine wO rfl ?_
 have q0 := (p0.picks [5, 5, 5, 5, 5])
 have r0 : Sat W _ (([(p, .cells #[I S.cap, .slice a0 n0 k0, .slice a1 n1 k1, .slice a2 n2 k2, .slice a3 n3 k3] 148 (0, 0))] ++ (c0 ++ (c1 ++ (c2 ++ c3)))) :: [(d0, .cells #[I r.job, I r.task] 60 (0, 0))] :: H :: F) := Sat.perm (show Sat W _ ([(p, .cells #[I S.cap, .slice a0 n0 k0, .slice a1 n1 k1, .slice a2 n2 k2, .slice a3 n3 k3] 148 (0, 0))] :: c0 :: c1 :: c2 :: c3 :: [(d0, .cells #[I r.job, I r.task] 60 (0, 0))] :: H :: F) from q0) (by simp)
 have g1 : totB [l0, l1, l2, l3] = ((n0 + n1 + n2 + n3 : Nat) : Int) := by unfold totB; simp only [List.map_cons, List.map_nil, List.sum_cons, List.sum_nil]; have h0 := (hO0).len; have h1 := (hO1).len; have h2 := (hO2).len; have h3 := (hO3).len; omega
 refine cX Tryz.call109 (pq_len (S := ⟨S.cap, [l0, l1, l2, l3]⟩) ⟨_, _, _, _, _, _, _, _, _, _, _, _, _, _, _, _, _, _, _, _, rfl, hO0, hO1, hO2, hO3, rfl, hw1, (by dsimp only; omega)⟩ (Sat.flat1 r0)) ?_
 rintro _ _ ⟨rfl, s0⟩
 have b0 : Sat W _ ([(p, .cells #[I S.cap, .slice a0 n0 k0, .slice a1 n1 k1, .slice a2 n2 k2, .slice a3 n3 k3] 148 (0, 0))] :: c0 :: c1 :: c2 :: c3 :: [(d0, .cells #[I r.job, I r.task] 60 (0, 0))] :: H :: F) := Sat.perm (Sat.unflat1 s0) (by simp [Value.cells])
 refine nilO ⟨⟨.inr (b0.cell 0 rfl rfl), trivial⟩, ?_⟩
 refine wU [6] ?_
 refine wN ?_
 refine thenK_n ?_
 refine cD ((totB [l0, l1, l2, l3]) ≥ S.cap) (fun t0 => ?_) (fun t0 => ?_)
 ·refine sR <| pu1 <| nT <| retE <| thenK_r <| retT [I 19] ?_
  have u0 := (b0.dropAt 5 rfl)
  have v0 : Sat W _ (([(p, .cells #[I S.cap, .slice a0 n0 k0, .slice a1 n1 k1, .slice a2 n2 k2, .slice a3 n3 k3] 148 (0, 0))] ++ (c0 ++ (c1 ++ (c2 ++ c3)))) :: H :: F) := Sat.perm (show Sat W _ ([(p, .cells #[I S.cap, .slice a0 n0 k0, .slice a1 n1 k1, .slice a2 n2 k2, .slice a3 n3 k3] 148 (0, 0))] :: c0 :: c1 :: c2 :: c3 :: H :: F) from u0) (by simp)
  have hq : totB [l0, l1, l2, l3] = totB S.bs := by rw [hb]
  have hc : pushCQ S = 19 := by unfold pushCQ; rw [if_pos om]
  have he : pushQ S r 2 = S := by unfold pushQ; rw [hc, if_neg (by decide)]
  exact ⟨_, by rw [hc]; rfl, by rw [he]; exact ⟨_, _, _, _, _, _, _, _, _, _, _, _, _, _, _, _, _, _, _, _, rfl, hO0, hO1, hO2, hO3, hb, hw1, hw2⟩, v0⟩
 refine kT <| seqE ?_
 refine drawE [9, 10, 14] [(7, ⟨p, 3, none⟩, .slice a2 n2 k2), (8, ⟨d0, 0, none⟩, I r.job), (8, ⟨d0, 1, none⟩, I r.task)] [(true, [0, 1, 2, 3, 4, 5, 6, 11, 12]), (true, [7]), (true, [8]), (false, [9]), (false, [10]), (true, [13]), (false, [14])] rfl kr ⟨.inr (b0.cell 0 rfl rfl), .inr (b0.cell 5 rfl rfl), .inr (b0.cell 5 rfl rfl), trivial⟩ ?_
 have w0 := b0.drew
 refine wU [0, 1, 2, 3, 4, 5, 6, 11, 12] ?_
 refine wLd (.slice a2 n2 k2) 0 Tryz.isAgg125 ?_
 refine wY (.agg #[I r.job, I r.task]) rfl (fun w hF => Y_loadF rfl (Tryz.isAgg60 w) (Tryz.sizeOf60 w) kr rfl ⟨hF 1 _ _ rfl, hF 2 _ _ rfl, trivial⟩) ?_
 refine wO rfl ?_
 refine sBS w0 #[I r.job, I r.task] Tryz.runUnderlying125 Tryz.sizeOf60 Tryz.zeroValue60 ?_
 intro _ _ i0
 refine nilO ⟨⟨.inr (i0.cell 1 rfl rfl), dI, dI, trivial⟩, ?_⟩
 refine wO rfl ?_
 refine sApp (nb := 16) i0 hO2 4 (RdT.blk (enc := encRef) (sz := 2) (xs := [(⟨r.job, r.task⟩ : Ref)]) fR 1 0 rfl rfl rfl om) Tryz.underlying125 (i := Tryz.t60) kr fR ?_
 intro f0 g0 j0 _ x0 y0
 refine nilO ⟨dA, ?_⟩
 refine wU [13] ?_
 refine wO rfl ?_
 refine tW y0 1 3 (.slice f0 (n2 + 1) g0) Tryz.sizeOf125 ?_
 intro _ z0
 refine nilO ⟨dA, ?_⟩
 refine wN ?_
 refine thenK_n <| sR <| pu1 <| nT <| retE <| retT [I 0] ?_
 have b1 := (z0.drops [0, 5])
 have d1 : Sat W _ (([(p, .cells #[I S.cap, .slice a0 n0 k0, .slice a1 n1 k1, .slice f0 (n2 + 1) g0, .slice a3 n3 k3] 148 (0, 0))] ++ (c0 ++ (c1 ++ (j0 ++ c3)))) :: H :: F) := Sat.perm (show Sat W _ ([(p, .cells #[I S.cap, .slice a0 n0 k0, .slice a1 n1 k1, .slice f0 (n2 + 1) g0, .slice a3 n3 k3] 148 (0, 0))] :: c0 :: c1 :: j0 :: c3 :: H :: F) from b1) (by simp)
 have hq : totB [l0, l1, l2, l3] = totB S.bs := by rw [hb]
 have hc : pushCQ S = 0 := by unfold pushCQ; rw [if_neg om]
 have he : pushQ S r 2 = { S with bs := [l0, l1, (l2 ++ [(⟨r.job, r.task⟩ : Ref)]), l3] } := by unfold pushQ; rw [if_pos hc, hb]; rfl
 exact ⟨_, by rw [hc]; rfl, by rw [he]; exact ⟨_, _, _, _, _, _, _, _, _, _, _, _, _, _, _, _, _, _, _, _, rfl, hO0, hO1, x0, hO3, rfl, hw1, (by unfold totB; simp; omega)⟩, d1⟩
theorem pq_push3 {p : Nat} {S : QS} {M : Chunk} (hR : InjP p S M) (r : Ref) (hS : Sat W w (M :: H :: F)) :
  Calls Tryz.prog 55 #[Pt p 0, .agg #[I r.job, I r.task], I 3] w fun e w' => ∃ M' : Chunk, e = .returned (I (pushCQ S)) ∧ InjP p (pushQ S r 3) M' ∧ Sat W w' (M' :: H :: F) := by
 obtain ⟨a0, n0, k0, l0, c0, a1, n1, k1, l1, c1, a2, n2, k2, l2, c2, a3, n3, k3, l3, c3, rfl, hO0, hO1, hO2, hO3, hb, hw1, hw2⟩ := hR
 have hS : Sat W _ ([(p, .cells #[I S.cap, .slice a0 n0 k0, .slice a1 n1 k1, .slice a2 n2 k2, .slice a3 n3 k3] 148 (0, 0))] :: c0 :: c1 :: c2 :: c3 :: H :: F) := Sat.perm hS (by simp)
 have ht : totB S.bs = n0 + n1 + n2 + n3 := by rw [hb]; unfold totB; simp [hO0.len, hO1.len, hO2.len, hO3.len]; omega
 have hn0 := hO0.len; have hl0 := hO0.le; have hn1 := hO1.len; have hl1 := hO1.le; have hn2 := hO2.len; have hl2 := hO2.le; have hn3 := hO3.len; have hl3 := hO3.le
 refine callsA 43 Tryz.func55 rfl ?_
 refine sR ?_
 refine sBox hS (.agg #[I r.job, I r.task]) #[I r.job, I r.task] ?_
 intro d0 _ e0
 refine pu1 <| nT <| seqE <| sR <| pu6 <| gY ?_
 refine sL e0 1 0 (I S.cap) (Tryz.isAgg3 _) ?_
 refine pu2 <| nT ?_
 refine cE S.cap 0 (fun m0 => ?_) (fun m0 => ?_)
 ·refine sR <| pu1 <| nT <| retE <| thenK_r <| retT [I 20] ?_
  have o0 := (e0.dropAt 0 rfl)
  have f1 : Sat W _ (([(p, .cells #[I S.cap, .slice a0 n0 k0, .slice a1 n1 k1, .slice a2 n2 k2, .slice a3 n3 k3] 148 (0, 0))] ++ (c0 ++ (c1 ++ (c2 ++ c3)))) :: H :: F) := Sat.perm (show Sat W _ ([(p, .cells #[I S.cap, .slice a0 n0 k0, .slice a1 n1 k1, .slice a2 n2 k2, .slice a3 n3 k3] 148 (0, 0))] :: c0 :: c1 :: c2 :: c3 :: H :: F) from o0) (by simp)
  have hq : totB [l0, l1, l2, l3] = totB S.bs := by rw [hb]
  omega
 refine kT <| seqE <| sR <| pu6 <| nT <| cFf <| kT <| seqE <| seqE ?_
 refine drawE [1] [(5, ⟨p, 0, none⟩, I S.cap)] [(true, [0, 2, 3, 4]), (true, [5]), (false, [1]), (true, [6])] rfl kr ⟨.inr (e0.cell 1 rfl rfl), trivial⟩ ?_
 have p0 := e0.drew
 refine wU [0, 2, 3, 4] ?_
 refine wLd (I S.cap) 0 Tryz.isAgg3 ?_
 refine wO rfl ?_
 have q0 := (p0.picks [5, 5, 5, 5, 5])
 have r0 : Sat W _ (([(p, .cells #[I S.cap, .slice a0 n0 k0, .slice a1 n1 k1, .slice a2 n2 k2, .slice a3 n3 k3] 148 (0, 0))] ++ (c0 ++ (c1 ++ (c2 ++ c3)))) :: [(d0, .cells #[I r.job, I r.task] 60 (0, 0))] :: H :: F) := Sat.perm (show Sat W _ ([(p, .cells #[I S.cap, .slice a0 n0 k0, .slice a1 n1 k1, .slice a2 n2 k2, .slice a3 n3 k3] 148 (0, 0))] :: c0 :: c1 :: c2 :: c3 :: [(d0, .cells #[I r.job, I r.task] 60 (0, 0))] :: H :: F) from q0) (by simp)
 have g1 : totB [l0, l1, l2, l3] = ((n0 + n1 + n2 + n3 : Nat) : Int) := by unfold totB; simp only [List.map_cons, List.map_nil, List.sum_cons, List.sum_nil]; have h0 := (hO0).len; have h1 := (hO1).len; have h2 := (hO2).len; have h3 := (hO3).len; omega
 refine cX Tryz.call109 (pq_len (S := ⟨S.cap, [l0, l1, l2, l3]⟩) ⟨_, _, _, _, _, _, _, _, _, _, _, _, _, _, _, _, _, _, _, _, rfl, hO0, hO1, hO2, hO3, rfl, hw1, (by dsimp only; omega)⟩ (Sat.flat1 r0)) ?_
 rintro _ _ ⟨rfl, s0⟩
 have b0 : Sat W _ ([(p, .cells #[I S.cap, .slice a0 n0 k0, .slice a1 n1 k1, .slice a2 n2 k2, .slice a3 n3 k3] 148 (0, 0))] :: c0 :: c1 :: c2 :: c3 :: [(d0, .cells #[I r.job, I r.task] 60 (0, 0))] :: H :: F) := Sat.perm (Sat.unflat1 s0) (by simp [Value.cells])
 refine nilO ⟨⟨.inr (b0.cell 0 rfl rfl), trivial⟩, ?_⟩
 refine wU [6] ?_
 refine wN ?_
 refine thenK_n ?_
 refine cD ((totB [l0, l1, l2, l3]) ≥ S.cap) (fun t0 => ?_) (fun t0 => ?_)
 ·refine sR <| pu1 <| nT <| retE <| thenK_r <| retT [I 19] ?_
  have u0 := (b0.dropAt 5 rfl)
  have v0 : Sat W _ (([(p, .cells #[I S.cap, .slice a0 n0 k0, .slice a1 n1 k1, .slice a2 n2 k2, .slice a3 n3 k3] 148 (0, 0))] ++ (c0 ++ (c1 ++ (c2 ++ c3)))) :: H :: F) := Sat.perm (show Sat W _ ([(p, .cells #[I S.cap, .slice a0 n0 k0, .slice a1 n1 k1, .slice a2 n2 k2, .slice a3 n3 k3] 148 (0, 0))] :: c0 :: c1 :: c2 :: c3 :: H :: F) from u0) (by simp)
  have hq : totB [l0, l1, l2, l3] = totB S.bs := by rw [hb]
  have hc : pushCQ S = 19 := by unfold pushCQ; rw [if_pos om]
  have he : pushQ S r 3 = S := by unfold pushQ; rw [hc, if_neg (by decide)]
  exact ⟨_, by rw [hc]; rfl, by rw [he]; exact ⟨_, _, _, _, _, _, _, _, _, _, _, _, _, _, _, _, _, _, _, _, rfl, hO0, hO1, hO2, hO3, hb, hw1, hw2⟩, v0⟩
 refine kT <| seqE ?_
 refine drawE [9, 10, 14] [(7, ⟨p, 4, none⟩, .slice a3 n3 k3), (8, ⟨d0, 0, none⟩, I r.job), (8, ⟨d0, 1, none⟩, I r.task)] [(true, [0, 1, 2, 3, 4, 5, 6, 11, 12]), (true, [7]), (true, [8]), (false, [9]), (false, [10]), (true, [13]), (false, [14])] rfl kr ⟨.inr (b0.cell 0 rfl rfl), .inr (b0.cell 5 rfl rfl), .inr (b0.cell 5 rfl rfl), trivial⟩ ?_
 have w0 := b0.drew
 refine wU [0, 1, 2, 3, 4, 5, 6, 11, 12] ?_
 refine wLd (.slice a3 n3 k3) 0 Tryz.isAgg125 ?_
 refine wY (.agg #[I r.job, I r.task]) rfl (fun w hF => Y_loadF rfl (Tryz.isAgg60 w) (Tryz.sizeOf60 w) kr rfl ⟨hF 1 _ _ rfl, hF 2 _ _ rfl, trivial⟩) ?_
 refine wO rfl ?_
 refine sBS w0 #[I r.job, I r.task] Tryz.runUnderlying125 Tryz.sizeOf60 Tryz.zeroValue60 ?_
 intro _ _ i0
 refine nilO ⟨⟨.inr (i0.cell 1 rfl rfl), dI, dI, trivial⟩, ?_⟩
 refine wO rfl ?_
 refine sApp (nb := 16) i0 hO3 5 (RdT.blk (enc := encRef) (sz := 2) (xs := [(⟨r.job, r.task⟩ : Ref)]) fR 1 0 rfl rfl rfl om) Tryz.underlying125 (i := Tryz.t60) kr fR ?_
 intro f0 g0 j0 _ x0 y0
 refine nilO ⟨dA, ?_⟩
 refine wU [13] ?_
 refine wO rfl ?_
 refine tW y0 1 4 (.slice f0 (n3 + 1) g0) Tryz.sizeOf125 ?_
 intro _ z0
 refine nilO ⟨dA, ?_⟩
 refine wN ?_
 refine thenK_n <| sR <| pu1 <| nT <| retE <| retT [I 0] ?_
 have b1 := (z0.drops [0, 5])
 have d1 : Sat W _ (([(p, .cells #[I S.cap, .slice a0 n0 k0, .slice a1 n1 k1, .slice a2 n2 k2, .slice f0 (n3 + 1) g0] 148 (0, 0))] ++ (c0 ++ (c1 ++ (c2 ++ j0)))) :: H :: F) := Sat.perm (show Sat W _ ([(p, .cells #[I S.cap, .slice a0 n0 k0, .slice a1 n1 k1, .slice a2 n2 k2, .slice f0 (n3 + 1) g0] 148 (0, 0))] :: c0 :: c1 :: c2 :: j0 :: H :: F) from b1) (by simp)
 have hq : totB [l0, l1, l2, l3] = totB S.bs := by rw [hb]
 have hc : pushCQ S = 0 := by unfold pushCQ; rw [if_neg om]
 have he : pushQ S r 3 = { S with bs := [l0, l1, l2, (l3 ++ [(⟨r.job, r.task⟩ : Ref)])] } := by unfold pushQ; rw [if_pos hc, hb]; rfl
 exact ⟨_, by rw [hc]; rfl, by rw [he]; exact ⟨_, _, _, _, _, _, _, _, _, _, _, _, _, _, _, _, _, _, _, _, rfl, hO0, hO1, hO2, x0, rfl, hw1, (by unfold totB; simp; omega)⟩, d1⟩
theorem pq_push {p : Nat} {S : QS} {M : Chunk} (hR : InjP p S M) (r : Ref) (b : Int) (hb : 0 ≤ b ∧ b < 4) (hS : Sat W w (M :: H :: F)) :
    Calls Tryz.prog 55 #[.pointer (some ⟨p, 0, none⟩), .agg #[.int .i64 r.job, .int .i64 r.task], .int .i64 b] w fun e w' => ∃ M' : Chunk, e = .returned (.int .i64 (pushCQ S)) ∧ InjP p (pushQ S r b) M' ∧ Sat W w' (M' :: H :: F) := by
  rcases (by omega : b = 0 ∨ b = 1 ∨ b = 2 ∨ b = 3) with rfl | rfl | rfl | rfl
  · exact pq_push0 hR r hS
  · exact pq_push1 hR r hS
  · exact pq_push2 hR r hS
  · exact pq_push3 hR r hS
theorem pq_pop {p : Nat} {S : QS} {M : Chunk} (hR : InjP p S M)  (hS : Sat W w (M :: H :: F)) :
  Calls Tryz.prog 129 #[Pt p 0] w fun e w' => (popB S.bs = none ∧ e = .returned (.tuple #[.agg #[I 0, I 0], .bool false]) ∧ Sat W w' (M :: H :: F)) ∨ (∃ (x : Ref) (bs : List (List Ref)) (M' : Chunk), popB S.bs = some (x, bs) ∧ e = .returned (.tuple #[.agg #[I x.job, I x.task], .bool true]) ∧ InjP p { S with bs := bs } M' ∧ Sat W w' (M' :: H :: F)) := by
 obtain ⟨a0, n0, k0, l0, c0, a1, n1, k1, l1, c1, a2, n2, k2, l2, c2, a3, n3, k3, l3, c3, rfl, hO0, hO1, hO2, hO3, hb, hw1, hw2⟩ := hR
 have hS : Sat W _ ([(p, .cells #[I S.cap, .slice a0 n0 k0, .slice a1 n1 k1, .slice a2 n2 k2, .slice a3 n3 k3] 148 (0, 0))] :: c0 :: c1 :: c2 :: c3 :: H :: F) := Sat.perm hS (by simp)
 have ht : totB S.bs = n0 + n1 + n2 + n3 := by rw [hb]; unfold totB; simp [hO0.len, hO1.len, hO2.len, hO3.len]; omega
 have hn0 := hO0.len; have hl0 := hO0.le; have hn1 := hO1.len; have hl1 := hO1.le; have hn2 := hO2.len; have hl2 := hO2.le; have hn3 := hO3.len; have hl3 := hO3.le
 refine callsA 32 Tryz.func129 rfl ?_
 refine sR ?_
 refine sAlloc hS Tryz.zeroValue60 ?_
 intro _ _ g0
 refine pu1 <| nT <| seqE <| sR <| pu2 <| nT <| cFf <| kT <| seqE <| sR <| pu3 ?_
 refine lA g0 1 1 4 (Tryz.isAgg146 _) (Tryz.sizeOf146 _) ?_
 refine pu1 <| nT <| blockE ?_
 refine loopN 5 ?_
 refine roundS ?_
 refine sR <| pu1 <| nT <| seqE <| cTt <| kT <| seqE <| blockE <| sR <| pu4 <| nT <| sR <| pu3 <| nT ?_
 refine cD (((n0 : Nat) : Int) > 0) (fun t0 => ?_) (fun t0 => ?_)
 ·refine seqE ?_
  refine drawE [7] [] [(true, [0, 1, 2]), (true, [3]), (true, [4, 5, 6]), (false, [7])] rfl kr trivial ?_
  have u0 := g0.drew
  refine wU [0, 1, 2] ?_
  have v0 := hO0.part (lo := 1) (hi := n0) om om
  refine wY (.slice (partAddr a0 k0 1 2) (n0 - 1) (k0 - 1)) rfl (fun w _ => Y_sl (a := a0) (len := n0) (cap := k0) (some 1) none 1 n0 Tryz.runUnderlying125 Tryz.sizeOf60 ⟨by decide, rfl⟩ rfl om om) ?_
  refine wU [4, 5, 6] ?_
  refine wO rfl ?_
  refine tW u0 1 1 (.slice (partAddr a0 k0 1 2) (n0 - 1) (k0 - 1)) Tryz.sizeOf125 ?_
  intro _ h0
  refine nilO ⟨trivial, ?_⟩
  refine wN ?_
  refine thenK_n <| sR <| pu1 ?_
  refine sIdxO hO0 0 0 Tryz.runUnderlying125 Tryz.sizeOf60 ?_
  intro b0 _ _ w0 x0 _
  refine sLpA h0 (x0.up 2 rfl) 0 [I b0.job, I b0.task] (Tryz.isAgg60 _) (Tryz.sizeOf60 _) ?_
  refine sT h0 0 0 (.agg #[I b0.job, I b0.task]) [I b0.job, I b0.task] #[I b0.job, I b0.task] Tryz.sizeOf60 ?_
  intro _ i0
  refine pu1 <| nT <| retE <| blockK_r <| thenK_r <| tR <| thenK_r <| retN (vs := [.agg #[I b0.job, I b0.task], .bool true]) rfl (.cons (.cell _ _ _ _ kr (lvA i0 0 0 [I b0.job, I b0.task] (Tryz.isAgg60 _) (Tryz.sizeOf60 _) rfl rfl rfl)) (.cons (.tmp _ _ kr) .nil)) ?_
  have y0 := (i0.dropAt 0 rfl)
  have z0 : Sat W _ (([(p, .cells #[I S.cap, .slice (partAddr a0 k0 1 2) (n0 - 1) (k0 - 1), .slice a1 n1 k1, .slice a2 n2 k2, .slice a3 n3 k3] 148 (0, 0))] ++ (c0 ++ (c1 ++ (c2 ++ c3)))) :: H :: F) := Sat.perm (show Sat W _ ([(p, .cells #[I S.cap, .slice (partAddr a0 k0 1 2) (n0 - 1) (k0 - 1), .slice a1 n1 k1, .slice a2 n2 k2, .slice a3 n3 k3] 148 (0, 0))] :: c0 :: c1 :: c2 :: c3 :: H :: F) from y0) (by simp)
  have htp := tail_part2 hn0
  have hOt := v0; rw [htp] at hOt
  have hpb : popB S.bs = some (b0, [l0.tail, l1, l2, l3]) := by rw [hb, popB_at w0]
  exact .inr ⟨_, _, _, hpb, rfl, ⟨_, _, _, _, _, _, _, _, _, _, _, _, _, _, _, _, _, _, _, _, rfl, hOt, hO1, hO2, hO3, rfl, hw1, (by have hlt := List.length_tail (l := l0); unfold totB; simp only [List.map_cons, List.map_nil, List.sum_cons, List.sum_nil]; omega)⟩, z0⟩
 refine skipE <| blockK_n <| thenK_n <| regionE <| pu2 <| nT ?_
 refine roundS ?_
 refine sR <| pu1 <| nT <| seqE <| cTt <| kT <| seqE <| blockE <| sR <| pu4 <| nT <| sR <| pu3 <| nT ?_
 refine cD (((n1 : Nat) : Int) > 0) (fun b1 => ?_) (fun b1 => ?_)
 ·refine seqE ?_
  refine drawE [7] [] [(true, [0, 1, 2]), (true, [3]), (true, [4, 5, 6]), (false, [7])] rfl kr trivial ?_
  have d1 := g0.drew
  refine wU [0, 1, 2] ?_
  have e1 := hO1.part (lo := 1) (hi := n1) om om
  refine wY (.slice (partAddr a1 k1 1 2) (n1 - 1) (k1 - 1)) rfl (fun w _ => Y_sl (a := a1) (len := n1) (cap := k1) (some 1) none 1 n1 Tryz.runUnderlying125 Tryz.sizeOf60 ⟨by decide, rfl⟩ rfl om om) ?_
  refine wU [4, 5, 6] ?_
  refine wO rfl ?_
  refine tW d1 1 2 (.slice (partAddr a1 k1 1 2) (n1 - 1) (k1 - 1)) Tryz.sizeOf125 ?_
  intro _ j0
  refine nilO ⟨trivial, ?_⟩
  refine wN ?_
  refine thenK_n <| sR <| pu1 ?_
  refine sIdxO hO1 0 0 Tryz.runUnderlying125 Tryz.sizeOf60 ?_
  intro d0 _ _ f1 g1 _
  refine sLpA j0 (g1.up 3 rfl) 0 [I d0.job, I d0.task] (Tryz.isAgg60 _) (Tryz.sizeOf60 _) ?_
  refine sT j0 0 0 (.agg #[I d0.job, I d0.task]) [I d0.job, I d0.task] #[I d0.job, I d0.task] Tryz.sizeOf60 ?_
  intro _ m0
  refine pu1 <| nT <| retE <| blockK_r <| thenK_r <| tR <| thenK_r <| retN (vs := [.agg #[I d0.job, I d0.task], .bool true]) rfl (.cons (.cell _ _ _ _ kr (lvA m0 0 0 [I d0.job, I d0.task] (Tryz.isAgg60 _) (Tryz.sizeOf60 _) rfl rfl rfl)) (.cons (.tmp _ _ kr) .nil)) ?_
  have h1 := (m0.dropAt 0 rfl)
  have i1 : Sat W _ (([(p, .cells #[I S.cap, .slice a0 n0 k0, .slice (partAddr a1 k1 1 2) (n1 - 1) (k1 - 1), .slice a2 n2 k2, .slice a3 n3 k3] 148 (0, 0))] ++ (c0 ++ (c1 ++ (c2 ++ c3)))) :: H :: F) := Sat.perm (show Sat W _ ([(p, .cells #[I S.cap, .slice a0 n0 k0, .slice (partAddr a1 k1 1 2) (n1 - 1) (k1 - 1), .slice a2 n2 k2, .slice a3 n3 k3] 148 (0, 0))] :: c0 :: c1 :: c2 :: c3 :: H :: F) from h1) (by simp)
  have htp := tail_part2 hn1
  have hOt := e1; rw [htp] at hOt
  have hpb : popB S.bs = some (d0, [l0, l1.tail, l2, l3]) := by rw [hb, popB_nil om, popB_at f1]; rfl
  exact .inr ⟨_, _, _, hpb, rfl, ⟨_, _, _, _, _, _, _, _, _, _, _, _, _, _, _, _, _, _, _, _, rfl, hO0, hOt, hO2, hO3, rfl, hw1, (by have hlt := List.length_tail (l := l1); unfold totB; simp only [List.map_cons, List.map_nil, List.sum_cons, List.sum_nil]; omega)⟩, i1⟩
 refine skipE <| blockK_n <| thenK_n <| regionE <| pu2 <| nT ?_
 refine roundS ?_
 refine sR <| pu1 <| nT <| seqE <| cTt <| kT <| seqE <| blockE <| sR <| pu4 <| nT <| sR <| pu3 <| nT ?_
 refine cD (((n2 : Nat) : Int) > 0) (fun j1 => ?_) (fun j1 => ?_)
 ·refine seqE ?_
  refine drawE [7] [] [(true, [0, 1, 2]), (true, [3]), (true, [4, 5, 6]), (false, [7])] rfl kr trivial ?_
  have m1 := g0.drew
  refine wU [0, 1, 2] ?_
  have o1 := hO2.part (lo := 1) (hi := n2) om om
  refine wY (.slice (partAddr a2 k2 1 2) (n2 - 1) (k2 - 1)) rfl (fun w _ => Y_sl (a := a2) (len := n2) (cap := k2) (some 1) none 1 n2 Tryz.runUnderlying125 Tryz.sizeOf60 ⟨by decide, rfl⟩ rfl om om) ?_
  refine wU [4, 5, 6] ?_
  refine wO rfl ?_
  refine tW m1 1 3 (.slice (partAddr a2 k2 1 2) (n2 - 1) (k2 - 1)) Tryz.sizeOf125 ?_
  intro _ o0
  refine nilO ⟨trivial, ?_⟩
  refine wN ?_
  refine thenK_n <| sR <| pu1 ?_
  refine sIdxO hO2 0 0 Tryz.runUnderlying125 Tryz.sizeOf60 ?_
  intro e0 _ _ p1 q1 _
  refine sLpA o0 (q1.up 4 rfl) 0 [I e0.job, I e0.task] (Tryz.isAgg60 _) (Tryz.sizeOf60 _) ?_
  refine sT o0 0 0 (.agg #[I e0.job, I e0.task]) [I e0.job, I e0.task] #[I e0.job, I e0.task] Tryz.sizeOf60 ?_
  intro _ p0
  refine pu1 <| nT <| retE <| blockK_r <| thenK_r <| tR <| thenK_r <| retN (vs := [.agg #[I e0.job, I e0.task], .bool true]) rfl (.cons (.cell _ _ _ _ kr (lvA p0 0 0 [I e0.job, I e0.task] (Tryz.isAgg60 _) (Tryz.sizeOf60 _) rfl rfl rfl)) (.cons (.tmp _ _ kr) .nil)) ?_
  have r1 := (p0.dropAt 0 rfl)
  have s1 : Sat W _ (([(p, .cells #[I S.cap, .slice a0 n0 k0, .slice a1 n1 k1, .slice (partAddr a2 k2 1 2) (n2 - 1) (k2 - 1), .slice a3 n3 k3] 148 (0, 0))] ++ (c0 ++ (c1 ++ (c2 ++ c3)))) :: H :: F) := Sat.perm (show Sat W _ ([(p, .cells #[I S.cap, .slice a0 n0 k0, .slice a1 n1 k1, .slice (partAddr a2 k2 1 2) (n2 - 1) (k2 - 1), .slice a3 n3 k3] 148 (0, 0))] :: c0 :: c1 :: c2 :: c3 :: H :: F) from r1) (by simp)
  have htp := tail_part2 hn2
  have hOt := o1; rw [htp] at hOt
  have hpb : popB S.bs = some (e0, [l0, l1, l2.tail, l3]) := by rw [hb, popB_nil om, popB_nil om, popB_at p1]; rfl
  exact .inr ⟨_, _, _, hpb, rfl, ⟨_, _, _, _, _, _, _, _, _, _, _, _, _, _, _, _, _, _, _, _, rfl, hO0, hO1, hOt, hO3, rfl, hw1, (by have hlt := List.length_tail (l := l2); unfold totB; simp only [List.map_cons, List.map_nil, List.sum_cons, List.sum_nil]; omega)⟩, s1⟩
 refine skipE <| blockK_n <| thenK_n <| regionE <| pu2 <| nT ?_
 refine roundS ?_
 refine sR <| pu1 <| nT <| seqE <| cTt <| kT <| seqE <| blockE <| sR <| pu4 <| nT <| sR <| pu3 <| nT ?_
 refine cD (((n3 : Nat) : Int) > 0) (fun t1 => ?_) (fun t1 => ?_)
 rotate_left
 ·refine skipE <| blockK_n <| thenK_n <| regionE <| pu2 <| nT ?_
  refine roundS ?_
  refine sR <| pu1 <| nT <| seqE <| cFf <| exitE <| xB <| thenK_n <| sR <| pu1 ?_
  refine sT g0 0 0 (.agg #[I 0, I 0]) [I 0, I 0] #[I 0, I 0] Tryz.sizeOf60 ?_
  intro _ q0
  refine pu1 <| nT <| retE <| retN (vs := [.agg #[I 0, I 0], .bool false]) rfl (.cons (.cell _ _ _ _ kr (lvA q0 0 0 [I 0, I 0] (Tryz.isAgg60 _) (Tryz.sizeOf60 _) rfl rfl rfl)) (.cons (.tmp _ _ kr) .nil)) ?_
  have u1 := (q0.dropAt 0 rfl)
  have v1 : Sat W _ (([(p, .cells #[I S.cap, .slice a0 n0 k0, .slice a1 n1 k1, .slice a2 n2 k2, .slice a3 n3 k3] 148 (0, 0))] ++ (c0 ++ (c1 ++ (c2 ++ c3)))) :: H :: F) := Sat.perm (show Sat W _ ([(p, .cells #[I S.cap, .slice a0 n0 k0, .slice a1 n1 k1, .slice a2 n2 k2, .slice a3 n3 k3] 148 (0, 0))] :: c0 :: c1 :: c2 :: c3 :: H :: F) from u1) (by simp)
  exact .inl ⟨by rw [hb, popB_nil om, popB_nil om, popB_nil om, popB_nil om]; rfl, rfl, v1⟩
 refine seqE ?_
 refine drawE [7] [] [(true, [0, 1, 2]), (true, [3]), (true, [4, 5, 6]), (false, [7])] rfl kr trivial ?_
 have w1 := g0.drew
 refine wU [0, 1, 2] ?_
 have x1 := hO3.part (lo := 1) (hi := n3) om om
 refine wY (.slice (partAddr a3 k3 1 2) (n3 - 1) (k3 - 1)) rfl (fun w _ => Y_sl (a := a3) (len := n3) (cap := k3) (some 1) none 1 n3 Tryz.runUnderlying125 Tryz.sizeOf60 ⟨by decide, rfl⟩ rfl om om) ?_
 refine wU [4, 5, 6] ?_
 refine wO rfl ?_
 refine tW w1 1 4 (.slice (partAddr a3 k3 1 2) (n3 - 1) (k3 - 1)) Tryz.sizeOf125 ?_
 intro _ r0
 refine nilO ⟨trivial, ?_⟩
 refine wN ?_
 refine thenK_n <| sR <| pu1 ?_
 refine sIdxO hO3 0 0 Tryz.runUnderlying125 Tryz.sizeOf60 ?_
 intro f0 _ _ y1 z1 _
 refine sLpA r0 (z1.up 5 rfl) 0 [I f0.job, I f0.task] (Tryz.isAgg60 _) (Tryz.sizeOf60 _) ?_
 refine sT r0 0 0 (.agg #[I f0.job, I f0.task]) [I f0.job, I f0.task] #[I f0.job, I f0.task] Tryz.sizeOf60 ?_
 intro _ s0
 refine pu1 <| nT <| retE <| blockK_r <| thenK_r <| tR <| thenK_r <| retN (vs := [.agg #[I f0.job, I f0.task], .bool true]) rfl (.cons (.cell _ _ _ _ kr (lvA s0 0 0 [I f0.job, I f0.task] (Tryz.isAgg60 _) (Tryz.sizeOf60 _) rfl rfl rfl)) (.cons (.tmp _ _ kr) .nil)) ?_
 have b2 := (s0.dropAt 0 rfl)
 have d2 : Sat W _ (([(p, .cells #[I S.cap, .slice a0 n0 k0, .slice a1 n1 k1, .slice a2 n2 k2, .slice (partAddr a3 k3 1 2) (n3 - 1) (k3 - 1)] 148 (0, 0))] ++ (c0 ++ (c1 ++ (c2 ++ c3)))) :: H :: F) := Sat.perm (show Sat W _ ([(p, .cells #[I S.cap, .slice a0 n0 k0, .slice a1 n1 k1, .slice a2 n2 k2, .slice (partAddr a3 k3 1 2) (n3 - 1) (k3 - 1)] 148 (0, 0))] :: c0 :: c1 :: c2 :: c3 :: H :: F) from b2) (by simp)
 have htp := tail_part2 hn3
 have hOt := x1; rw [htp] at hOt
 have hpb : popB S.bs = some (f0, [l0, l1, l2, l3.tail]) := by rw [hb, popB_nil om, popB_nil om, popB_nil om, popB_at y1]; rfl
 exact .inr ⟨_, _, _, hpb, rfl, ⟨_, _, _, _, _, _, _, _, _, _, _, _, _, _, _, _, _, _, _, _, rfl, hO0, hO1, hO2, hOt, rfl, hw1, (by have hlt := List.length_tail (l := l3); unfold totB; simp only [List.map_cons, List.map_nil, List.sum_cons, List.sum_nil]; omega)⟩, d2⟩
theorem pq_remove {p : Nat} {S : QS} {M : Chunk} (hR : InjP p S M) (j : Int) (hS : Sat W w (M :: H :: F)) :
  Calls Tryz.prog 73 #[Pt p 0, I j] w fun e w' => ∃ (M' : Chunk) (v : Int), e = .returned (I v) ∧ InjP p ({ S with bs := S.bs.map (without j) }) M' ∧ Sat W w' (M' :: H :: F) := by
 obtain ⟨a0, n0, k0, l0, c0, a1, n1, k1, l1, c1, a2, n2, k2, l2, c2, a3, n3, k3, l3, c3, rfl, hO0, hO1, hO2, hO3, hb, hw1, hw2⟩ := hR
 have hS : Sat W _ ([(p, .cells #[I S.cap, .slice a0 n0 k0, .slice a1 n1 k1, .slice a2 n2 k2, .slice a3 n3 k3] 148 (0, 0))] :: c0 :: c1 :: c2 :: c3 :: H :: F) := Sat.perm hS (by simp)
 have ht : totB S.bs = n0 + n1 + n2 + n3 := by rw [hb]; unfold totB; simp [hO0.len, hO1.len, hO2.len, hO3.len]; omega
 have hn0 := hO0.len; have hl0 := hO0.le; have hn1 := hO1.len; have hl1 := hO1.le; have hn2 := hO2.len; have hl2 := hO2.le; have hn3 := hO3.len; have hl3 := hO3.le
 refine callsA 33 Tryz.func73 rfl ?_
 refine sR ?_
 refine sBox hS (I j) #[I j] ?_
 intro b0 _ y0
 refine pu1 <| nT <| seqE <| sR <| pu2 <| nT <| cFf <| kT <| sR <| pu1 ?_
 have z0 := (y0.picks [5, 5, 5, 5, 5])
 have b1 : Sat W _ (([(p, .cells #[I S.cap, .slice a0 n0 k0, .slice a1 n1 k1, .slice a2 n2 k2, .slice a3 n3 k3] 148 (0, 0))] ++ (c0 ++ (c1 ++ (c2 ++ c3)))) :: [(b0, .cells #[I j] 3 (0, 0))] :: H :: F) := Sat.perm (show Sat W _ ([(p, .cells #[I S.cap, .slice a0 n0 k0, .slice a1 n1 k1, .slice a2 n2 k2, .slice a3 n3 k3] 148 (0, 0))] :: c0 :: c1 :: c2 :: c3 :: [(b0, .cells #[I j] 3 (0, 0))] :: H :: F) from z0) (by simp)
 have i2 : totB [l0, l1, l2, l3] = ((n0 + n1 + n2 + n3 : Nat) : Int) := by unfold totB; simp only [List.map_cons, List.map_nil, List.sum_cons, List.sum_nil]; have h0 := (hO0).len; have h1 := (hO1).len; have h2 := (hO2).len; have h3 := (hO3).len; omega
 refine cX Tryz.call109 (pq_len (S := ⟨S.cap, [l0, l1, l2, l3]⟩) ⟨_, _, _, _, _, _, _, _, _, _, _, _, _, _, _, _, _, _, _, _, rfl, hO0, hO1, hO2, hO3, rfl, hw1, (by dsimp only; omega)⟩ (Sat.flat1 b1)) ?_
 rintro _ _ ⟨rfl, d1⟩
 have x0 : Sat W _ ([(p, .cells #[I S.cap, .slice a0 n0 k0, .slice a1 n1 k1, .slice a2 n2 k2, .slice a3 n3 k3] 148 (0, 0))] :: c0 :: c1 :: c2 :: c3 :: [(b0, .cells #[I j] 3 (0, 0))] :: H :: F) := Sat.perm (Sat.unflat1 d1) (by simp [Value.cells])
 refine pu1 <| nT <| seqE <| sR <| pu3 ?_
 refine lA x0 0 1 4 (Tryz.isAgg146 _) (Tryz.sizeOf146 _) ?_
 refine pu1 <| nT <| blockE ?_
 refine loopN 5 ?_
 refine roundS ?_
 refine sR <| pu1 <| nT <| seqE <| cTt <| kT <| seqE <| blockE <| sR <| pu4 <| nT ?_
 refine drawE [4, 8] [] [(true, [0, 1, 2, 3, 5, 6]), (false, [4]), (true, [7]), (false, [8])] rfl kr trivial ?_
 have e1 := x0.drew
 refine wU [0, 1, 2, 3, 5, 6] ?_
 refine wO rfl ?_
 have f1 := (e1.picks [1, 5])
 have := without_len j l0
 refine sF #[.slice a0 n0 k0, .func (.func 122) #[] #[Pt b0 0]] Tryz.call121 (Calls.mono (delete_ok W _ _ _ _ _ _ _ _ _ hO0 f1) ?_)
 rintro _ _ ⟨d0, e0, p0, rfl, t0, g1⟩
 refine ⟨_, rfl, ?_⟩
 refine nilO ⟨trivial, ?_⟩
 refine wU [7] ?_
 refine wO rfl ?_
 refine tW g1 2 1 (.slice d0 ((without j l0).length) e0) Tryz.sizeOf125 ?_
 intro _ i1
 refine nilO ⟨trivial, ?_⟩
 refine wN ?_
 refine blockK_n <| thenK_n <| regionE <| pu2 <| nT ?_
 refine roundS ?_
 refine sR <| pu1 <| nT <| seqE <| cTt <| kT <| seqE <| blockE <| sR <| pu4 <| nT ?_
 refine drawE [4, 8] [] [(true, [0, 1, 2, 3, 5, 6]), (false, [4]), (true, [7]), (false, [8])] rfl kr trivial ?_
 have j1 := i1.drew
 refine wU [0, 1, 2, 3, 5, 6] ?_
 refine wO rfl ?_
 have m1 := (j1.picks [3, 1])
 have := without_len j l1
 refine sF #[.slice a1 n1 k1, .func (.func 122) #[] #[Pt b0 0]] Tryz.call121 (Calls.mono (delete_ok W _ _ _ _ _ _ _ _ _ hO1 m1) ?_)
 rintro _ _ ⟨f0, g0, q0, rfl, u0, o1⟩
 refine ⟨_, rfl, ?_⟩
 refine nilO ⟨trivial, ?_⟩
 refine wU [7] ?_
 refine wO rfl ?_
 refine tW o1 3 2 (.slice f0 ((without j l1).length) g0) Tryz.sizeOf125 ?_
 intro _ p1
 refine nilO ⟨trivial, ?_⟩
 refine wN ?_
 refine blockK_n <| thenK_n <| regionE <| pu2 <| nT ?_
 refine roundS ?_
 refine sR <| pu1 <| nT <| seqE <| cTt <| kT <| seqE <| blockE <| sR <| pu4 <| nT ?_
 refine drawE [4, 8] [] [(true, [0, 1, 2, 3, 5, 6]), (false, [4]), (true, [7]), (false, [8])] rfl kr trivial ?_
 have q1 := p1.drew
 refine wU [0, 1, 2, 3, 5, 6] ?_
 refine wO rfl ?_
 have r1 := (q1.picks [4, 1])
 have := without_len j l2
 refine sF #[.slice a2 n2 k2, .func (.func 122) #[] #[Pt b0 0]] Tryz.call121 (Calls.mono (delete_ok W _ _ _ _ _ _ _ _ _ hO2 r1) ?_)
 rintro _ _ ⟨i0, j0, r0, rfl, v0, s1⟩
 refine ⟨_, rfl, ?_⟩
 refine nilO ⟨trivial, ?_⟩
 refine wU [7] ?_
 refine wO rfl ?_
 refine tW s1 4 3 (.slice i0 ((without j l2).length) j0) Tryz.sizeOf125 ?_
 intro _ t1
 refine nilO ⟨trivial, ?_⟩
 refine wN ?_
 refine blockK_n <| thenK_n <| regionE <| pu2 <| nT ?_
 refine roundS ?_
 refine sR <| pu1 <| nT <| seqE <| cTt <| kT <| seqE <| blockE <| sR <| pu4 <| nT ?_
 refine drawE [4, 8] [] [(true, [0, 1, 2, 3, 5, 6]), (false, [4]), (true, [7]), (false, [8])] rfl kr trivial ?_
 have u1 := t1.drew
 refine wU [0, 1, 2, 3, 5, 6] ?_
 refine wO rfl ?_
 have v1 := (u1.picks [5, 1])
 have := without_len j l3
 refine sF #[.slice a3 n3 k3, .func (.func 122) #[] #[Pt b0 0]] Tryz.call121 (Calls.mono (delete_ok W _ _ _ _ _ _ _ _ _ hO3 v1) ?_)
 rintro _ _ ⟨m0, o0, s0, rfl, w0, w1⟩
 refine ⟨_, rfl, ?_⟩
 refine nilO ⟨trivial, ?_⟩
 refine wU [7] ?_
 refine wO rfl ?_
 refine tW w1 5 4 (.slice m0 ((without j l3).length) o0) Tryz.sizeOf125 ?_
 intro _ x1
 refine nilO ⟨trivial, ?_⟩
 refine wN ?_
 refine blockK_n <| thenK_n <| regionE <| pu2 <| nT ?_
 refine roundS ?_
 refine sR <| pu1 <| nT <| seqE <| cFf <| exitE <| xB <| thenK_n <| sR <| pu2 ?_
 have y1 := (x1.picks [1, 2, 3, 4, 5])
 have z1 : Sat W _ (([(p, .cells #[I S.cap, .slice d0 ((without j l0).length) e0, .slice f0 ((without j l1).length) g0, .slice i0 ((without j l2).length) j0, .slice m0 ((without j l3).length) o0] 148 (0, 0))] ++ (p0 ++ (q0 ++ (r0 ++ s0)))) :: [(b0, .cells #[I j] 3 (0, 0))] :: H :: F) := Sat.perm (show Sat W _ ([(p, .cells #[I S.cap, .slice d0 ((without j l0).length) e0, .slice f0 ((without j l1).length) g0, .slice i0 ((without j l2).length) j0, .slice m0 ((without j l3).length) o0] 148 (0, 0))] :: p0 :: q0 :: r0 :: s0 :: [(b0, .cells #[I j] 3 (0, 0))] :: H :: F) from y1) (by simp)
 have v2 : totB [(without j l0), (without j l1), (without j l2), (without j l3)] = (((without j l0).length + (without j l1).length + (without j l2).length + (without j l3).length : Nat) : Int) := by unfold totB; simp only [List.map_cons, List.map_nil, List.sum_cons, List.sum_nil]; have h0 := (t0).len; have h1 := (u0).len; have h2 := (v0).len; have h3 := (w0).len; omega
 refine cX Tryz.call109 (pq_len (S := ⟨S.cap, [(without j l0), (without j l1), (without j l2), (without j l3)]⟩) ⟨_, _, _, _, _, _, _, _, _, _, _, _, _, _, _, _, _, _, _, _, rfl, t0, u0, v0, w0, rfl, hw1, (by dsimp only; omega)⟩ (Sat.flat1 z1)) ?_
 rintro _ _ ⟨rfl, b2⟩
 have d2 : Sat W _ ([(p, .cells #[I S.cap, .slice d0 ((without j l0).length) e0, .slice f0 ((without j l1).length) g0, .slice i0 ((without j l2).length) j0, .slice m0 ((without j l3).length) o0] 148 (0, 0))] :: p0 :: q0 :: r0 :: s0 :: [(b0, .cells #[I j] 3 (0, 0))] :: H :: F) := Sat.perm (Sat.unflat1 b2) (by simp [Value.cells])
 refine sSub (totB [l0, l1, l2, l3]) (totB [(without j l0), (without j l1), (without j l2), (without j l3)]) ?_
 refine pu1 <| nT <| retE <| retT [I ((totB [l0, l1, l2, l3]) - (totB [(without j l0), (without j l1), (without j l2), (without j l3)]))] ?_
 have e2 := (d2.dropAt 5 rfl)
 have f2 : Sat W _ (([(p, .cells #[I S.cap, .slice d0 ((without j l0).length) e0, .slice f0 ((without j l1).length) g0, .slice i0 ((without j l2).length) j0, .slice m0 ((without j l3).length) o0] 148 (0, 0))] ++ (p0 ++ (q0 ++ (r0 ++ s0)))) :: H :: F) := Sat.perm (show Sat W _ ([(p, .cells #[I S.cap, .slice d0 ((without j l0).length) e0, .slice f0 ((without j l1).length) g0, .slice i0 ((without j l2).length) j0, .slice m0 ((without j l3).length) o0] 148 (0, 0))] :: p0 :: q0 :: r0 :: s0 :: H :: F) from e2) (by simp)
 exact ⟨_, _, rfl, by rw [hb]; exact ⟨_, _, _, _, _, _, _, _, _, _, _, _, _, _, _, _, _, _, _, _, rfl, t0, u0, v0, w0, rfl, hw1, (by unfold totB; simp only [List.map_cons, List.map_nil, List.sum_cons, List.sum_nil]; omega)⟩, f2⟩
theorem pq_new {cs : List Chunk} (c : Int) (hc : 1 ≤ c ∧ c ≤ 4096) (hS : Sat W w cs) :
  Calls Tryz.prog 43 #[I c] w fun e w' => ∃ (p : Nat) (M : Chunk), e = .returned (.tuple #[Pt p 0, I 0]) ∧ InjP p ⟨c, [[], [], [], []]⟩ M ∧ Sat W w' (M :: cs) := by
 refine callsA 13 Tryz.func43 rfl ?_
 refine sR <| pu2 <| nT <| seqE <| sR <| pu3 ?_
 refine sD 6 (c < 1) (fun a0 => ?_) (fun a0 => ?_)
 ·refine pu3 <| nT <| cTt <| sR <| pu2 <| nT <| retE <| thenK_r <| retT [.pointer none, I 2] ?_
  omega
 refine pu3 <| nT ?_
 refine cD (c > 4096) (fun b0 => ?_) (fun b0 => ?_)
 ·refine sR <| pu2 <| nT <| retE <| thenK_r <| retT [.pointer none, I 2] ?_
  omega
 refine kT <| sR <| pu2 ?_
 refine sBox hS (.agg #[I c, .slice none 0 0, .slice none 0 0, .slice none 0 0, .slice none 0 0]) #[I c, .slice none 0 0, .slice none 0 0, .slice none 0 0, .slice none 0 0] ?_
 intro c0 _ d0
 refine pu2 <| nT <| retE <| retT [Pt c0 0, I 0] ?_
 exact ⟨_, _, rfl, ⟨_, _, _, [], [], _, _, _, [], [], _, _, _, [], [], _, _, _, [], [], rfl, OwnT.nil fR, OwnT.nil fR, OwnT.nil fR, OwnT.nil fR, rfl, hc, by unfold totB; simp; omega⟩, d0⟩
end Go.Proofs.YtegmennaekipaaaGreat
